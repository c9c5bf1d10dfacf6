/- Lemmas that the last file uses. -/
import Derived.Test.YtbbefgegdllpmaaGreatDoorM04
set_option linter.unusedSimpArgs false
set_option linter.unusedVariables false
set_option linter.defProp false
set_option maxHeartbeats 4000000
open Go.Proofs.Tryz
namespace Go.Proofs.YtbbefgegdllpmaaGreatDoor
open Go.RowKit Fp Pu
def abW(N:Int)(D:Nat)(x:Nat):PS:=⟨35,true,[(4,.e<|iP x),(2,.box 2 0),(1,.box 1 0)],[(2,.cells 31 av),(1,.cells 24 [iP N,iP D])]⟩
def acW{x:Nat}(h:x<=30):IntKind.i64.wrap (1*2^((x:Int)).toNat)=((2^x:Nat):Int):=by
 have h1:=bZ (show 0<2 by decide) h;have e:(1:Int)*2^((x:Int)).toNat=((2^x:Nat):Int):= aP ;rw[e,IntKind.wrap_i64];rw[show(2:Nat)^30=1073741824 by decide]at h1;clear e;generalize 2^x=y at *
 omega
def alG(a b:Nat)(ha:a<1099511627776)(hb:b<1099511627776):bits .and .i64 (a:Int) (b:Int)=((a &&& b:Nat):Int):=by
 have h2:a &&& b<2^40:=fH a (by simpa using hb);show IntKind.i64.wrap ((BitVec.ofInt 64 (a:Int) &&& BitVec.ofInt 64 (b:Int)).toNat:Int)=_;rw[atQ,fp,fp];rw[show((a:Int)%((2^64:Nat):Int)).toNat=a by omega,show((b:Int)%((2^64:Nat):Int)).toNat=b by omega];rw[IntKind.wrap_i64];omega
def asp{D:Nat}(h1:1<=D)(h2:D<=1073741824)(hb:D &&& (D-1)=0):∃ k,k<=30/\D=2^k:=by
 obtain⟨k,k1,k2⟩:∃ k,2^k<=D/\D<2^(k+1):=⟨D.log2,Nat.log2_self_le aI,Nat.lt_log2_self⟩
 have hk:k<=30:=by
  apply cF;intro q;have:=bZ (show 0<2 by decide) (aI:31<=k);have:(2:Nat)^31=2147483648:= aK ;omega
 refine⟨k,hk,?_⟩;apply cF;intro q;have t1:D.testBit k=true:=auk k1 k2;have t2:(D-1).testBit k=true:=auk aI aI;have t3:(D &&& (D-1)).testBit k=true:=by rw[atV,t1,t2];rfl
 rw[hb,Nat.zero_testBit]at t3;cases t3
def apC(n:Int)(h1:-9223372036854775807<=n)(h2:n<0):iA 22 [iP n]<|.v<|.int .u64 (n.natAbs:Int):=
 iM (af [tT 4 (n<0) aI,iL<|n+1,iL<|0-(n+1),.o 8<|.int (k:=.u64) (by rw[IntKind.wrap_u64];omega:(IntKind.u64.wrap<|0-(n+1))=((n.natAbs-1:Nat):Int)),
  nW (((n.natAbs-1:Nat):Int)+1),.o 9<|.int (k:=.u64) (aI:(((n.natAbs-1:Nat):Int)+1)=(n.natAbs:Int))])
def apD(n:Int)(h1:0<=n)(h2:n<=9223372036854775807):iA 22 [iP n]<|.v<|.int .u64 (n.natAbs:Int):=
 iM (af [tF 4 (n<0) aI,.o 11<|.int (k:=.u64) (by rw[IntKind.wrap_u64];omega:(IntKind.u64.wrap n)=(n.natAbs:Int))])
def MN(n:Int)(h1:-9223372036854775807<=n:=by omega)(h2:n<=9223372036854775807:=by omega):iA 22 [iP n]<|.v<|.int .u64 (n.natAbs:Int):=by
 by_cases h:n<0
 .exact apC n h1 h
 .exact apD n aI h2
def uv(neg:Bool)(a:Nat):Int:=if neg then -(a:Int)else(a:Int)
section
variable(s:Bool)(n d:Nat)(hd:0<d)(qT:n<18446744073709551616)(rO:d<18446744073709551616)
section
variable(h1:n/Nat.gcd n d<=1073741824)(h2:d/Nat.gcd n d<=1073741824)
def apx:iA 128 [bP s,.v<|.int .u64 (n:Int),.v<|.int .u64 (d:Int)]<|.iK [.agg [iP<|uv s<|n/Nat.gcd n d,iP ((d/Nat.gcd n d:Nat):Int)],bP true]:=by
 have hg:0<Nat.gcd n d:=at3 _ hd;have hz:(0:Int)<=((n/Nat.gcd n d:Nat):Int):=Int.natCast_nonneg _;exact iM (ae [.c<|PO n d aI aI,.a (aI:0<((Nat.gcd n d:Int):Int)),nW (n:Int),.a (aI:0<((Nat.gcd n d:Int):Int)),nW (d:Int),tF 19 (1073741824<((n/(Nat.gcd n d):Nat):Int)) aI,tF 22 (1073741824<((d/(Nat.gcd n d):Nat):Int)) aI]<|.w (s=true)
  (λk1=>ae [tB 25 k1,.o 27<|ar (IntKind.i64.wrap ((n/(Nat.gcd n d):Nat):Int)) ((n/(Nat.gcd n d):Nat):Int)<|Bc _,iL<|0-((n/(Nat.gcd n d):Nat):Int),.o 30<|ar (IntKind.i64.wrap ((d/(Nat.gcd n d):Nat):Int)) ((d/(Nat.gcd n d):Nat):Int)<|Bc _]<|rQ (.iK [.agg [iP<|0-((n/(Nat.gcd n d):Nat):Int),iP ((d/(Nat.gcd n d):Nat):Int)],bP true]) (.iK [.agg [iP<|uv s<|n/Nat.gcd n d,iP ((d/Nat.gcd n d:Nat):Int)],bP true])<|by unfold uv;simp[k1])
  (λk1=>ae [tB 25<|bn k1,.o 33<|ar (IntKind.i64.wrap ((n/(Nat.gcd n d):Nat):Int)) ((n/(Nat.gcd n d):Nat):Int)<|Bc _,.o 35<|ar (IntKind.i64.wrap ((d/(Nat.gcd n d):Nat):Int)) ((d/(Nat.gcd n d):Nat):Int)<|Bc _]<|rQ (.iK [.agg [iP ((n/(Nat.gcd n d):Nat):Int),iP ((d/(Nat.gcd n d):Nat):Int)],bP true]) (.iK [.agg [iP<|uv s<|n/Nat.gcd n d,iP ((d/Nat.gcd n d:Nat):Int)],bP true])<|by unfold uv;simp[k1]))
def aps:iA 79 [bP s,.v<|.int .u64 (n:Int),.v<|.int .u64 (d:Int)]<|.iK [.agg [iP<|uv s<|n/Nat.gcd n d,iP ((d/Nat.gcd n d:Nat):Int)],iP 0]:=
 iM (af [ag [bP s,.v<|.int .u64 (n:Int),.v<|.int .u64 (d:Int)]<|apx _ _ _ hd qT rO h1 h2])
end
section
variable(h:1073741824<n/Nat.gcd n d\/1073741824<d/Nat.gcd n d)
def apw:iA 128 [bP s,.v<|.int .u64 (n:Int),.v<|.int .u64 (d:Int)]<|.iK [.agg [iP 0,iP 0],bP false]:=by
 have hg:0<Nat.gcd n d:=at3 _ hd;exact iM (ae [.c<|PO n d aI aI,.a (aI:0<((Nat.gcd n d:Int):Int)),nW (n:Int),.a (aI:0<((Nat.gcd n d:Int):Int)),nW (d:Int)]<|.w (1073741824<((n/(Nat.gcd n d):Nat):Int))
  (λk1=>af [tB 19<|bC k1])
  (λk1=>ae [tB 19<|bE k1]<|.w (1073741824<((d/(Nat.gcd n d):Nat):Int))
   (λk2=>af [tB 22<|bC k2])
   (λk2=>.x aI)))
def apr:iA 79 [bP s,.v<|.int .u64 (n:Int),.v<|.int .u64 (d:Int)]<|.iK [.agg [iP 0,iP 0],iP 9]:=
 iM (af [ag [bP s,.v<|.int .u64 (n:Int),.v<|.int .u64 (d:Int)]<|apw s n d hd qT rO h])
end
end
structure Of(N D e:Int)(v:Rat):Prop where
 n1:-1073741824<=N
 n2:N<=1073741824
 d1:0<=D
 d2:D<=1073741824
 ok:e=0->jG N D=true/\(N:Rat)=v*(D:Rat)
def ajS{n d:Nat}(hd:0<d):n=n/Nat.gcd n d*Nat.gcd n d/\d=d/Nat.gcd n d*Nat.gcd n d/\0<Nat.gcd n d/\0<d/Nat.gcd n d:=by
 have hg:0<Nat.gcd n d:=at3 _ hd;have e2:=(at1<|Nat.gcd_dvd_right n d)
 refine⟨(at1<|Nat.gcd_dvd_left n d).symm,e2.symm,hg,ep λq=>?_⟩;rw[q,de]at e2;omega
def xx(s:Bool)(n:Nat):Int:=if s then -(n:Int)else(n:Int)
def ahs(s:Bool)(n d N D g:Nat)(hd:0<d)(g1:n=N*g)(g2:d=D*g)(hD:0<D)(h1:N<=1073741824)(h2:D<=1073741824)(hg:Nat.gcd N D=1):Of (uv s N) (D:Int) 0<|(xx s n:Rat)/(d:Rat):=by
 have ha:(uv s N).natAbs=N:=by unfold uv;split<;>omega
 have hb:-1073741824<=uv s N/\uv s N<=1073741824:=by unfold uv;split<;>omega
 refine⟨hb.1,hb.2,aI,aI,λ_=>⟨?_,?_⟩⟩
 .unfold jG;simp only[cr,dn];exact⟨aI,aI,hb.1,hb.2,by rw[ha,eo];exact hg⟩
 .have LA:(0:Rat)<(d:Rat):=dQ.2 hd;have e1:(n:Rat)=(N:Rat)*(g:Rat):=by rw[<-cQ,<-g1]
  have e2:(d:Rat)=(D:Rat)*(g:Rat):=by rw[<-cQ,<-g2]
  rw[dj];have key:(xx s n:Rat)*(D:Rat)=(uv s N:Rat)*(d:Rat):=by
   unfold xx uv;cases s
   .rw [bw aK,bw aK,dj,dj];rw[e1,e2];grind
   .rw [bA rfl,bA rfl,dY,dY,dj,dj];rw[e1,e2];grind
  have:=cV (a:=(xx s n:Rat)) (b:=(d:Rat)) aS;have h3:(xx s n:Rat)/(d:Rat)*(D:Rat)*(d:Rat)=(uv s N:Rat)*(d:Rat):=by rw[<-key];grind
  have h4:=congrArg (· / (d:Rat)) h3;simp only[gv<|show(d:Rat)≠0 by grind]at h4;exact h4.symm
def V8(s:Bool)(n d:Nat)(hd:0<d)(qT:n<18446744073709551616)(rO:d<18446744073709551616):
 ∃ N D e,iA 79 [bP s,.v<|.int .u64 (n:Int),.v<|.int .u64 (d:Int)] (.iK [.agg [iP N,iP D],iP e])/\Of N D e ((xx s n:Rat)/(d:Rat)):=by
 by_cases h:1073741824<n/Nat.gcd n d\/1073741824<d/Nat.gcd n d
 .exact ⟨0,0,9,apr s n d hd qT rO h,aK,aK,aK,aK,λq=>absurd q aK⟩
 .have h1:n/Nat.gcd n d<=1073741824:= aI ;have h2:d/Nat.gcd n d<=1073741824:= aI ;obtain⟨g1,g2,g3,g4⟩:=ajS (n:=n) hd;exact⟨uv s<|n/Nat.gcd n d,((d/Nat.gcd n d:Nat):Int),0,aps s n d hd qT rO h1 h2,ahs s n d _ _ _ hd g1 g2 g4 h1 h2<|Nat.gcd_div_gcd_div_gcd_of_pos_right hd⟩
def apA(a b c d:Int)(h:¬(jG a b=true/\jG c d=true)):iA 35 [.agg [iP a,iP b],.agg [iP c,iP d]]<|.iK [.agg [iP 0,iP 0],iP 1]:=
 iM (ae [.c<|y9 a b]<|.w (jG a b=true)
  (λk1=>ae [tB 8 k1,.c<|y9 c d]<|.w (jG c d=true)
   (λk2=>.x<|by exact absurd ⟨aJ,aJ⟩ h)
   (λk2=>af [tB 12<|bn k2]))
  (λk1=>af [tB 8<|bn k1]))
def aau{a b:Int}(h1:-1073741824<=a)(h2:a<=1073741824)(h3:-1073741824<=b)(h4:b<=1073741824):-1152921504606846976<=a*b/\a*b<=1152921504606846976:=by
 have e:(a*b).natAbs=a.natAbs*b.natAbs:=Int.natAbs_mul a b;have h:=dE (aI:a.natAbs<=1073741824) (aI:b.natAbs<=1073741824);omega
def aav{a b:Nat}(h2:a<=1073741824)(h4:b<=1073741824):a*b<=1152921504606846976:=dE h2 h4
def apB(a c:Int)(b d:Nat)(h1:jG a (b:Int)=true)(h2:jG c (d:Int)=true)(N D e:Int)(hC:iA 79 [bP<|decide ((a*c)<0),.v<|.int .u64 ((a*c).natAbs:Int),.v<|.int .u64 ((b*d:Nat):Int)]<|.iK [.agg [iP N,iP D],iP e]):iA 35 [.agg [iP a,iP b],.agg [iP c,iP d]]<|.iK [.agg [iP N,iP D],iP e]:=by
 obtain⟨b1,b2,a1,a2⟩:=sW h1;obtain⟨d1,d2,c1,c2⟩:=sW h2;obtain⟨m1,m2⟩:=aau a1 a2 c1 c2;have m5:=aav (a:=b) (b:=d) aI aI;have YU:((b*d:Nat):Int)=b*(d:Int):=eF _ _;exact iM<|af [.c<|y9 a (b:Int),ah 8 (jG a (b:Int)) h1,.c<|y9 c (d:Int),ah 12 (jG c (d:Int)) h2,iL<|a*c,ag [iP<|a*c]<|MN _,.o 27 (.int<|px _:aj (.v<|.int .u64<|IntKind.u64.wrap (b:Int))<|.v<|.int .u64 (b:Int)),.o 30 (.int<|px _:aj (.v<|.int .u64<|IntKind.u64.wrap (d:Int))<|.v<|.int .u64 (d:Int)),nW<|(b:Int)*(d:Int),ag [bP<|decide ((a*c)<0),.v<|.int .u64 (Int.natAbs<|a*c:Int),.v<|.int .u64 ((b*d:Nat):Int)] hC]
def arc(z:Int):xx (decide (z<0)) z.natAbs=z:=by
 unfold xx;by_cases h:z<0
 .rw [bC h,bA rfl];omega
 .rw [bE h,bw aK];omega
def apQ{N D e z:Int}{s:Bool}{n m:Nat}(hx:Of N D e<|(xx s n:Rat)/(m:Rat))(hz:xx s n=z)(he:e=0):jG N D=true/\(N:Rat)/(D:Rat)=(z:Rat)/(m:Rat):=by
 obtain⟨h1,h2⟩:=hx.ok he;refine⟨h1,?_⟩;have hD:(0:Rat)<(D:Rat):=Rat.intCast_pos.2 (by have:=sW h1;omega);rw[h2,hz,gv aS]
def aaD(d:Nat):(((d:Int):Int):Rat)=((d:Nat):Rat):=dj d
def ah9{a b c d:Rat}(hb:0<b)(hd:0<d):(a*c)/(b*d)=a/b*(c/d):=by
 have h1:=cV (a:=a) (b:=b) aS;have h2:=cV (a:=c) (b:=d) aS;have hp:=cR hb hd;have h3:=cV (a:=a*c) (b:=b*d) aS;have h4:a/b*(c/d)*(b*d)=a*c:=by
  have:a/b*(c/d)*(b*d)=(a/b*b)*(c/d*d):= aS ;rw[this,h1,h2]
 exact fw (dG (by rw[h3,h4];exact bH) hp)<|dG (by rw[h3,h4];exact bH) hp
def ana(a b c d:Int):∃ N D e,iA 35 [.agg [iP a,iP b],.agg [iP c,iP d]] (.iK [.agg [iP N,iP D],iP e])/\(e=0->jG a b=true/\jG c d=true/\jG N D=true/\(N:Rat)/(D:Rat)=(a:Rat)/(b:Rat)*((c:Rat)/(d:Rat))):=by
 by_cases h:jG a b=true/\jG c d=true
 .obtain ⟨h1,h2⟩:=h;obtain⟨b1,b2,a1,a2⟩:=sW h1;obtain⟨d1,d2,c1,c2⟩:=sW h2;obtain⟨b,rfl⟩:=eh (aI:0<=b);obtain⟨d,rfl⟩:=eh (aI:0<=d);obtain⟨m1,m2⟩:=aau a1 a2 c1 c2;have m5:=aav (a:=b) (b:=d) aI aI;have m6:0<b*d:=fB aI aI;obtain⟨N,D,e,hC,hx⟩:=V8 (decide (a*c<0)) (a*c).natAbs (b*d) m6 aI aI;refine⟨N,D,e,apB a c b d h1 h2 N D e hC,λhe=>?_⟩;obtain⟨x1,x2⟩:=apQ hx (arc _) he;refine⟨h1,h2,x1,?_⟩;rw[x2,gQ,cQ,aaD,aaD];exact ah9 (dQ.2 aI)<|dQ.2 aI
 .exact ⟨0,0,1,apA a b c d h,λq=>absurd q aK⟩
def apz(i:Nat)(hi:i<=1000)(N D e:Int)(hC:iA 79 [bP false,.v<|.int .u64 (i:Int),.v<|.int .u64 8]<|.iK [.agg [iP N,iP D],iP e]):iA 34 [iP i,iP 8]<|.iK [.agg [iP N,iP D],iP e]:=
 iM (af [ai 7 ((8:Int)==0) aK,tF 10 ((i:Int)<0) aI,ai 12 (decide ((8:Int)<0)) aK,ag [iP i]<|MN _,ag [iP 8]<|MN _,ag [bP<|!(false==false),.v<|.int .u64 (Int.natAbs (i:Int):Int),.v<|.int .u64 (Int.natAbs 8:Int)] hC])
def apt(N D:Int)(h:jG N D=false):iA 8 [.agg [iP N,iP D]]<|.iK [iF jK,bP false]:=
 iM (af [.c<|y9 N D,ai 6 (jG N D) h,.o 17 (.e tz:aj (.agg av)<|iF jK)])
def apu(N D:Int)(h:jG N D=true)(hb:bits .and .i64 D (D-1)≠0):iA 8 [.agg [iP N,iP D]]<|.iK [iF jK,bP false]:=by
 obtain⟨r1,r2,r3,r4⟩:=sW h;exact iM<|af [.c<|y9 N D,ah 6 (jG N D) h,iL<|D-1,tB 15<|bu hb,.o 17 (.e tz:aj (.agg av)<|iF jK)]
def abX(N:Int)(D K:Nat)(h:jG N (D:Int)=true)(hb:bits .and .i64 (D:Int) ((D:Int)-1)=0)(hK:K<=30)(xd:∀ x,x<K->2^x<D)(pT:D<=2^K)(E:Dy)(hM:iA 23 [bP<|decide (N<0),iG [N.natAbs,0],iP (-(K:Int))]<|iF E):iA 8 [.agg [iP N,iP D]]<|.iK [iF E,bP true]:=by
 obtain⟨r1,r2,r3,r4⟩:=sW h;exact iM (af [.c<|y9 N (D:Int),ah 6 (jG N (D:Int)) h,iL<|(D:Int)-1,tB 15<|bt hb,.s (Sp.kj (abW N D) 0 K aI (λx hx mr=>by
    exact jg (af [.a (aI:0<=((x:Int):Int)/\((x:Int):Int)<=((64:Nat):Int)),.o 19<|ar (IntKind.i64.wrap<|1*2^x) ((2^x:Nat):Int)<|acW aI,tT 22 (((2^x:Nat):Int)<D)<|by have:=xd x mr;omega,iL<|(x:Int)+1]) aM)
  (λhx=>by
    exact jg (af [.a (aI:0<=((K:Int):Int)/\((K:Int):Int)<=((64:Nat):Int)),.o 19<|ar (IntKind.i64.wrap<|1*2^K) ((2^K:Nat):Int)<|acW aI,tF 22 (((2^K:Nat):Int)<D) aI]) aM) aQ:ki 4 Tryz.f8 (abW N D 0) (.exit 0) ⟨35,true,[(4,.e<|iP K),(2,.box 2 0),(1,.box 1 0)],[(2,.cells 31 av),(1,.cells 24 [iP N,iP D])]⟩) .nil,ag [iP N]<|MN _,.c<|apv (Int.natAbs N) aI,iL<|0-(K:Int),.o 33<|ar (0-(K:Int)) (-(K:Int)),ag [bP<|decide (N<0),iG [Int.natAbs N,0],iP (-(K:Int))] hM])
def apy(s:Bool)(e:Int):iA 23 [bP s,iG [0,0],iP e]<|iF jK:=
 iM (af [.c afw,ah 16 ((0:Int)==0) aK,.o 17 (.e tz:aj (.agg av)<|iF jK)])
def ajg(N D:Int):∃ (E:Dy) (x:Bool),iA 8 [.agg [iP N,iP D]] (.iK [iF E,bP x])/\(x=true->jG N D=true/\E.iD/\E.q=(N:Rat)/(D:Rat)/\∃ k,k<=30/\D=((2^k:Nat):Int)):=by
 cases h:jG N D with
 |false=>exact⟨_,_,apt N D h,λq=>by cases q⟩
 |true=>
  by_cases hb:bits .and .i64 D (D-1)=0
  .obtain ⟨r1,r2,r3,r4⟩:=sW h;obtain⟨d,rfl⟩:=eh (aI:0<=D);have mq:=hb;rw[show(d:Int)-1=((d-1:Nat):Int)by omega,alG _ _ aI aI]at mq;obtain⟨k,k1,k2⟩:=asp (D:=d) aI aI aI;have xd:∀ x,x<k->2^x<d:=λx hx=>by rw[k2];exact fJ aK hx
   have lI:((2^k:Nat):Rat)*P2 (-(k:Int))=1:=by rw[<-vu,<-qZ,show(k:Int) + -(k:Int)=0 by omega,tC]
   have LA:((d:Int):Rat)*P2 (-(k:Int))=1:=by rw[dj,k2];exact lI
   have d0:((d:Int):Rat)≠0:=λq=>by rw[q,fu]at LA;exact absurd LA aK 
   by_cases hN:N=0
   .subst hN;refine⟨jK,true,abX 0 d k h hb k1 xd aI jK<|apy _ _,λ_=>⟨rfl,ri,?_,k,k1,by rw[<-k2]⟩⟩;rw[r7,show((0:Int):Rat)=0 from rfl,cB,fu]
   .have hn:N.natAbs<4294967296:= aI ;have qp:N.natAbs≠0:= aI ;have Yu:iE N.natAbs<=31:=lE.2 (by
     have:(2:Nat)^31=2147483648:= aK ;omega)
    have ev:val [N.natAbs,0]=N.natAbs:=by simp[val]
    have hM:=amS (decide (N<0)) N.natAbs [N.natAbs,0] (R3 hn) (-(k:Int)) qp (afv _ qp hn) (λi hi=>by
     have:=afs [N.natAbs,0] i (R3 hn) (by show 2<=1000000;decide) hi;rwa[ev]at this) (nJ) aI aI 
    have Fj:mz N (-(k:Int))=canon (decide (N<0)) N.natAbs (-(k:Int)):=rfl;refine⟨_,true,abX N d k h hb k1 xd aI _ hM,λ_=>⟨rfl,?_,?_,k,k1,by rw[<-k2]⟩⟩
    .rw [<-Fj];exact AL hn aI aI 
    .rw [qO];have e1:(if decide (N<0)=true then -((N.natAbs:Rat)*P2 (-(k:Int)))else(N.natAbs:Rat)*P2 (-(k:Int)))=(N:Rat)*P2 (-(k:Int)):=by
      by_cases q:N<0
      .rw [bA<|by simpa using q];have:(N:Rat) = -((N.natAbs:Nat):Rat):=by
        have:N = -(N.natAbs:Int):= aI ;rw[<-dj,<-dY,<-this]
       rw[this];grind
      .rw [bw<|by simpa using q];have:(N:Rat)=((N.natAbs:Nat):Rat):=by
        have:N=(N.natAbs:Int):= aI ;rw[<-dj,<-this]
       rw[this]
     rw[e1,cB];congr 1;have i1:=ez _ d0;generalize ((d:Int):Rat)=X at *
     generalize P2 (-(k:Int))=Y at *
     have:X⁻¹*(X*Y)=X⁻¹:=by rw[LA,dL]
     grind
  .exact ⟨_,_,apu N D h hb,λq=>by cases q⟩
instance asW:DecidableEq Dy:=λa b=>decidable_of_iff (a.neg=b.neg/\a.m=b.m/\a.e=b.e) ⟨λ⟨h1,h2,h3⟩=>by cases a;cases b;simp_all,λh=>by subst h;exact⟨rfl,rfl,rfl⟩⟩
instance asX:DecidableEq Iv:=λa b=>decidable_of_iff (a.lo=b.lo/\a.hi=b.hi/\a.all=b.all) ⟨λ⟨h1,h2,h3⟩=>by cases a;cases b;simp_all,λh=>by subst h;exact⟨rfl,rfl,rfl⟩⟩
def XD:Iv:=jo (iT 1) (iT 5) 400
def XB:Iv:=jo (iT 1) (iT 239) 400
def C2:Iv:=⟨⟨false,2038898641429006625306008822920686433567184956444374692847362694551907229075534915770360243478528509376667046613509239807,-402⟩,⟨false,2038898641429006625306008822920686433567184956444374692847362694551907229075534915770360243478528509376667046613509239903,-402⟩,false⟩
def C3:Iv:=⟨⟨false,1382954207521768395576446092219238883442823219143474169544311698956736349700773258749363615593511106531245015254700261675,-407⟩,⟨false,1382954207521768395576446092219238883442823219143474169544311698956736349700773258749363615593511106531245015254700261957,-407⟩,false⟩
def Bm:Iv:=⟨⟨false,1014047155841371404857783918912611814895143950022408150448898879701903863171748812343190420115852101928445847465915947005,-397⟩,⟨false,2028094311682742809715567837825223629790287900044816300897797759403807726343497624686380840231704203856891694931831894109,-398⟩,false⟩
set_option maxRecDepth 100000 in
def UY:Gz XD 400 86 C2:=UX aT 
set_option maxRecDepth 100000 in
def UZ:Gz XB 400 25 C3:=UX aT 
set_option maxRecDepth 100000 in
def Sd:jP (iO (iT 16) C2 400) (iO (iT 4) C3 400) 400=Bm:= aT 
def Yq:kI Bm (-1)=HF:=by
 unfold kI;rw[bw aK];have e1:uC Bm.lo (-1)=0:= aT ;have e2:uC Bm.hi (-1)=0:= aT ;rw[e1,e2,SV e1,SV e2];decide +kernel
def LC:HF.iD:=by
 rw[<-Yq,<-Sd];exact rB (mn (ku _ _ aK aK) (nO<|ku _ _ aK aK) aK aK) _
section
variable(d:Dy)
def od:Nat:=(-d.e).toNat
def mE(P:Nat):Nat:=d.m/2^max P (od d)
def nS(P:Nat):Bool:=decide (d.m%2^od d/2^P≠0)
def pg:Nat:=mE d 0*2^d.e.toNat
def nk:Int:=if d.neg&&nS d 0 then -(pg d:Int)-1 else if d.neg then -(pg d:Int)else(pg d:Int)
end
def Yr(n p:Nat):n/2^p=2*(n/2^(p+1))+n/2^p%2:=by
 rw[bV,<-dc];omega
def Vx(n:Nat){p N:Nat}(h:p<N):n%2^N/2^p%2=n/2^p%2:=by
 have h1:=Nat.testBit_mod_two_pow n N p;rw[atU,atU,bC h,fk]at h1;have h2:(n%2^N/2^p%2=1)↔(n/2^p%2=1):=by simpa using h1
 omega
section
variable{d:Dy}{p:Nat}
def XJ(h:p<od d):mE d p=mE d (p+1):=by
 unfold mE;congr 2;omega
def ajw(h:od d<=p):mE d p=2*mE d (p+1)+d.m/2^p%2:=by
 unfold mE;rw[(aI:max p (od d)=p),(aI:max (p+1) (od d)=p+1)];exact Yr _ _
def XK(h:p<od d):nS d p=(nS d (p+1)||decide (d.m/2^p%2=1)):=by
 unfold nS;have h1:=Yr (d.m%2^od d) p;rw[Vx _ h]at h1;rw[<-Bool.decide_or];apply iz.2;omega
def ajz(h:od d<=p):nS d p=nS d (p+1):=by
 unfold nS;have h1:d.m%2^od d<2^od d:=bQ _<|bL aK;have h2:2^od d<=2^p:=bZ aK h;have h3:2^p<=2^(p+1):=bZ aK aI;rw[cI aI,cI aI]
end
section
variable{d:Dy}{P:Nat}(h:d.m<2^P)
def ajy:mE d P=0:=by
 unfold mE;exact cI<|cg h<|bZ aK aI
def ajA:nS d P=false:=by
 unfold nS;rw[cI<|dh (gS _ _) h];rfl
end
def ajx(d:Dy)(P:Nat):mE d P<=pg d:=by
 have h1:mE d P<=mE d 0:=Nat.div_le_div_left (bZ aK aI)<|bL aK;have h2:mE d 0*1<=pg d:=cT _<|bL aK;omega
def amz(m i:Nat){k:Nat}(h:k<32):(iB m).getD i 0/2^k%2=m/2^(32*i+k)%2:=by
 rw[qg<|lO _,kE];unfold iV;rw[show(4294967296:Nat)=2^32 from rfl,Vx _ h,<-Nat.pow_mul,dc,<-bG]
def XI{d:Dy}:((pg d:Nat):Rat)<=(d.m:Rat)*P2 d.e/\(d.m:Rat)*P2 d.e<((pg d:Nat):Rat)+1/\(nS d 0=false->(d.m:Rat)*P2 d.e=((pg d:Nat):Rat))/\(nS d 0=true->((pg d:Nat):Rat)<(d.m:Rat)*P2 d.e):=by
 by_cases he:0<=d.e
 .have hN:od d=0:=by unfold od;omega
  have hr:nS d 0=false:=by unfold nS;rw[hN,cH,dz];rfl
  have hA:pg d=d.m*2^d.e.toNat:=by unfold pg mE;rw[hN,Nat.max_self,cH,ew]
  have e:(d.m:Rat)*P2 d.e=((pg d:Nat):Rat):=by
   rw[hA,cQ,<-vu,Int.toNat_of_nonneg he]
  rw[e,hr];exact⟨bH,aS,λ_=>rfl,aQ⟩
 .have hN:d.e = -(od d:Int):=by unfold od;omega
  have hT:d.e.toNat=0:= aI ;have hA:pg d=d.m/2^od d:=by unfold pg mE;rw[hT,cH,cG,Nat.zero_max]
  have hm:((d.m:Nat):Rat)=((2^od d:Nat):Rat)*((pg d:Nat):Rat)+((d.m%2^od d:Nat):Rat):=by
   rw[hA,<-cQ,<-dH,cN]
  have je:d.m%2^od d<2^od d:=bQ _<|bL aK;have alk:((d.m%2^od d:Nat):Rat)<((2^od d:Nat):Rat):=atv.2 je;have h0:(0:Rat)<=((d.m%2^od d:Nat):Rat):=cE;have hp:=nb d.e;have qq:((2^od d:Nat):Rat)*P2 d.e=1:=by
   rw[<-vu,<-qZ,hN,show(od d:Int) + -(od d:Int)=0 by omega,tC]
  have key:(d.m:Rat)*P2 d.e=((pg d:Nat):Rat)+((d.m%2^od d:Nat):Rat)*P2 d.e:=by
   rw[hm];grind
  have k0:=bD h0<|bF hp;have k1:=fA alk hp;rw[qq]at k1;have hR:nS d 0=decide (d.m%2^od d≠0):=by unfold nS;rw[cH,ew]
  refine⟨aS,aS,λhr=>?_,λhr=>?_⟩
  .rw [hR]at hr;have:d.m%2^od d=0:=by simpa using hr
   rw[key,this,show((0:Nat):Rat)=0 from rfl];grind
  .rw [hR]at hr;have jM:d.m%2^od d≠0:=by simpa using hr
   have:(0:Rat)<((d.m%2^od d:Nat):Rat):=by
    have:=atv (a:=0) (b:=d.m%2^od d);exact this.2<|ep jM
   have:=cR this hp
   grind
def ajE(d:Dy):((nk d:Int):Rat)<=d.q/\d.q<((nk d:Int):Rat)+1:=by
 obtain⟨h1,h2,h3,h4⟩:=XI (d:=d);have hc:((pg d:Int):Rat)=((pg d:Nat):Rat):=rfl;have e1:((-(pg d:Int):Int):Rat) = -((pg d:Nat):Rat):=by rw[dY,hc]
 have e2:((-(pg d:Int)-1:Int):Rat) = -((pg d:Nat):Rat)-1:=by rw[at4,e1];rfl
 rw[qt];unfold nk;cases hn:d.neg
 .simp only[Bool.false_and,cz,bN];rw[hc];exact⟨h1,h2⟩
 .simp only[fk,bW];cases hr:nS d 0
  .have:=h3 hr;simp only[cz,bN];rw[e1];constructor<;>grind
  .have:=h4 hr;simp only[bW];rw[e2];constructor<;>grind
def zr:Iv:=⟨⟨true,1,1⟩,⟨false,1,1⟩,false⟩
set_option maxRecDepth 100000 in
def aq3:(jY zr 380 100).all=false/\jI (mB<|jY zr 380 100) (ko<|0-((380:Nat):Int))<0:= aT 
def abH(L:List Nat)(n:Nat)(x:Nat):PS:=⟨60,false,[(6,.e<|iP x),(5,.own 16),(0,.e<|iG<|iI L),(1,.e<|iP n)],[(16,.row false 99 (n/32+(iI L).length+1) 1<|jt<|jj ((val<|(iI L).take x)*2^n)<|n/32+(iI L).length+1)]⟩
def apb(L:List Nat)(n:Nat)(hL:jc L)(h1:L.length<=10000)(hn:n<=1000000):iA 151 [iG L,iP n]<|iG<|iB<|val L*2^n:=by
 have tl:=pV L;unfold mV at tl;have pA:val ((iI L).take (iI L).length)*2^n<4294967296^(n/32+(iI L).length+1):=by
  rw[fo,dm,bG,bR];have h1:=nd hL.iI;have h2:2^n<=4294967296^(n/32)*4294967296:=by
   rw[oz,show(4294967296:Nat)=2^32 by rfl,<-bG];exact bZ aK aI 
  rw[bV,dF,bR];refine Nat.mul_lt_mul_of_lt_of_le h1 h2<|by exact fB (pw _) aK
 exact oY (ae [.cf<|ze L aJ a7,.a (aI:0<(32:Int)),iL (n:Int),iL<|((n/32:Nat):Int)+((iI L).length:Int),
  iL ((((n/32)+(iI L).length:Nat):Int)+1),.a (aI:0<=(((((n/32)+(iI L).length)+1:Nat):Int):Int)/\(((((n/32)+(iI L).length)+1:Nat):Int):Int)<=(((((n/32)+(iI L).length)+1:Nat):Int):Int)),.a (aI:((4:Nat):Int)*((((n/32)+(iI L).length)+1:Nat):Int)<=281474976710656/\(((((n/32)+(iI L).length)+1:Nat):Int):Int)<=9223372036854775807),.s (Sp.kj (abH L n) 0 ((iI L).length) aI (λx hx mr=>by
    have Qr:=hL.iI.getD x;have hr:n%32<32:=bQ _ aK;have je:(val<|(iI L).take x)<4294967296^x:=by
     have:=nd<|hL.iI.take x;rw[cS,dV aI]at this;exact this
    obtain⟨ho,uk⟩:=arj (n:=n) Qr (O:=(jj ((val<|(iI L).take x)*2^n)<|n/32+(iI L).length+1)) rfl je (m:=(n/32+(iI L).length+1)) aI;rw[<-wP]at uk;have hu:(((iI L).getD x 0)*2^(n%32))/4294967296<4294967296:=by
     have:=arh Qr hr;omega
    rw[<-cw hu]at uk;exact jg (ae [tT 20 ((x:Int)<((iI L).length:Int)) aI,iX (x:Int)<|(iI L).length,.o 27 (.int<|px _:aj (.v<|.int .u64<|IntKind.u64.wrap (((iI L).getD x 0:Nat):Int))<|.v<|.int .u64 (((iI L).getD x 0:Nat):Int)),.a (aI:0<(32:Int)),.a (aI:0<=(((n%32:Nat):Int):Int)/\(((n%32:Nat):Int):Int)<=((64:Nat):Int)),.o 30 (.int<|ari _ _ Qr hr:aj (.v<|.int .u64<|IntKind.u64.wrap<|(((iI L).getD x 0:Nat):Int)*2^(n%32))<|.v<|.int .u64 ((((iI L).getD x 0)*2^(n%32):Nat):Int)),.a (aI:0<(32:Int)),iL (n:Int),iL<|(x:Int)+((n/32:Nat):Int),.a (aI:0<(32:Int)),iL (n:Int),
     iL ((x:Int)+((n/32:Nat):Int)),iX ((x+(n/32):Nat):Int)<|n/32+(iI L).length+1,.a (aI:(x+(n/32))<(n/32+(iI L).length+1)),.o 44 (.int<|CP _:aj (.v<|.int .u64<|bits .and .u64 ((((iI L).getD x 0)*2^(n%32):Nat):Int) 4294967295)<|.v<|.int .u64 (((((iI L).getD x 0)*2^(n%32))%4294967296:Nat):Int)),.o 45 (.int<|tX _:aj (.v<|.int .u32<|IntKind.u32.wrap (((((iI L).getD x 0)*2^(n%32))%4294967296:Nat):Int))<|.v<|.int .u32 ((((((iI L).getD x 0)*2^(n%32))%4294967296)%4294967296:Nat):Int)),.o 46 (.int<|anZ _ _ _ hr ho:aj (.v<|.int .u32<|bits .or .u32 (((jj ((val<|(iI L).take x)*2^n)<|n/32+(iI L).length+1).getD (x+(n/32)) 0:Nat):Int) ((((((iI L).getD x 0)*2^(n%32))%4294967296)%4294967296:Nat):Int))<|.v<|.int .u32 ((((jj ((val<|(iI L).take x)*2^n)<|n/32+(iI L).length+1).getD (x+(n/32)) 0)+((((iI L).getD x 0)*2^(n%32))%4294967296):Nat):Int)),
     iX ((x+(n/32):Nat):Int) (n/32+(iI L).length+1),.a (aI:(x+(n/32))<(n/32+(iI L).length+1)),.a (aI:0<(32:Int)),iL (n:Int),
     iL ((x:Int)+((n/32:Nat):Int)),iL<|((x+(n/32):Nat):Int)+1,.a (aI:0<=(32:Int)/\(32:Int)<=((64:Nat):Int)),.o 55 (.int<|Al _:aj (.v<|.int .u64<|((((iI L).getD x 0)*2^(n%32):Nat):Int)/2^32)<|.v<|.int .u64 (((((iI L).getD x 0)*2^(n%32))/4294967296:Nat):Int)),.o 56 (.int<|tX _:aj (.v<|.int .u32<|IntKind.u32.wrap (((((iI L).getD x 0)*2^(n%32))/4294967296:Nat):Int))<|.v<|.int .u32 ((((((iI L).getD x 0)*2^(n%32))/4294967296)%4294967296:Nat):Int)),
     iX (((x+(n/32))+1:Nat):Int) (n/32+(iI L).length+1),.a (aI:((x+(n/32))+1)<(n/32+(iI L).length+1)),iL<|(x:Int)+1]<|.e<|af [.b 16 (aqL rfl (by rw[nH];omega) (by rw[nH];omega) uk:Bx.le (.row false 99 (n/32+(iI L).length+1) 1 λi' j'=>if i'=((x+(n/32))+1)/\0<=j'/\j'<0+1 then[.v<|.int .u32 ((((((iI L).getD x 0)*2^(n%32))/4294967296)%4294967296:Nat):Int)].getD (j'-0) .any else(λi' j'=>if i'=(x+(n/32))/\0<=j'/\j'<0+1 then[.v<|.int .u32 ((((jj ((val<|(iI L).take x)*2^n)<|n/32+(iI L).length+1).getD (x+(n/32)) 0)+((((iI L).getD x 0)*2^(n%32))%4294967296):Nat):Int)].getD (j'-0) .any else(jt<|jj ((val<|(iI L).take x)*2^n)<|n/32+(iI L).length+1) i' j') i' j')<|.row false 99 (n/32+(iI L).length+1) 1<|jt<|jj ((val<|(iI L).take<|x+1)*2^n)<|n/32+(iI L).length+1)]) aM)
  (λhx=>by
    exact jg (ae [tF 20 (((iI L).length:Int)<((iI L).length:Int)) aI,.z 16]<|.e<|af [.o 5 (.e<|Am (nH _ _).symm:aj (.sl false (n/32+(iI L).length+1) 1<|jt<|jj ((val<|(iI L).take (iI L).length)*2^n)<|n/32+(iI L).length+1)<|iG<|jj ((val<|(iI L).take (iI L).length)*2^n)<|n/32+(iI L).length+1)]) aM) aQ:ki 4 f151 (abH L n 0) (.exit 0) ⟨60,false,[(5,.e<|iG<|jj ((val<|(iI L).take (iI L).length)*2^n)<|n/32+(iI L).length+1)],[]⟩)<|af [.b 16 (F9 aI λi=>by rw[show val (List.take 0<|iI L)=0 from rfl,de,KW]:Bx.le (.row false 99 (((n/32)+(iI L).length)+1) 1 λ_ j_=>[.v<|.int .u32 0].getD j_ .any)<|.row false 99 (n/32+(iI L).length+1) 1<|jt<|jj ((val<|(iI L).take 0)*2^n)<|n/32+(iI L).length+1)],.cf<|ze (jj ((val<|(iI L).take (iI L).length)*2^n)<|n/32+(iI L).length+1) (vN _ _) a7]<|rQ (iG<|iI<|jj ((val<|(iI L).take (iI L).length)*2^n)<|n/32+(iI L).length+1) (iG<|iB<|val L*2^n)<|by rw[Eu pA,fo,pW])
section
variable(L M:List Nat)
def abE(n:Nat)(x:Nat):PS:=⟨106,false,[(8,.e<|iP<|(n:Int)-1-(x:Int)),(7,.own 23),(6,.own 19),(1,.e<|iG<|iI M),(0,.e<|iG L)],[(23,.row false 99 ((iI M).length+1) 1<|jt<|jj (jk (val L) (val M) n x)<|(iI M).length+1),(19,.row false 99 L.length 1<|jt<|jj ((lM (val L) (val M) n x)*2^(n-x)) L.length)]⟩
def abC(n x:Nat)(k:Nat):PS:=⟨106,false,[(10,.e<|iP k),(9,.e<|.v<|.int .u32 (mR (jk (val L) (val M) n x) (jD (val L) n x) k:Int)),(8,.e<|iP<|(n:Int)-1-(x:Int)),(7,.own 23),(6,.own 19),(1,.e<|iG<|iI M),(0,.e<|iG L)],[(23,.row false 99 ((iI M).length+1) 1<|jt<|lK (2*(jk (val L) (val M) n x)+(jD (val L) n x)) (jk (val L) (val M) n x) k<|(iI M).length+1),(19,.row false 99 L.length 1<|jt<|jj ((lM (val L) (val M) n x)*2^(n-x)) L.length)]⟩
def abD(n x:Nat)(k:Nat):PS:=⟨106,false,[(13,.e<|iP k),(12,.e<|.v<|.int .u64 (jR ((2*(jk (val L) (val M) n x)+(jD (val L) n x))-val M) (val M) k:Int)),(8,.e<|iP<|(n:Int)-1-(x:Int)),(7,.own 23),(6,.own 19),(1,.e<|iG<|iI M),(0,.e<|iG L)],[(23,.row false 99 ((iI M).length+1) 1<|jt<|lK ((2*(jk (val L) (val M) n x)+(jD (val L) n x))-val M) (2*(jk (val L) (val M) n x)+(jD (val L) n x)) k<|(iI M).length+1),(19,.row false 99 L.length 1<|jt<|jj ((lM (val L) (val M) n x)*2^(n-x)) L.length)]⟩
def ao8(n:Nat)(hL:jc L)(hM:jc M)(h1:L.length<=10000)(h2:M.length<=10000)(hB:0<val M)(hn:n=iE (val L)):iA 189 [iG L,iG M]<|.iK [iG<|iB<|val L/val M,iG<|iB<|val L%val M]:=by
 have tl:=pV M;unfold mV at tl;have Lj:=WS (a:=val L) (b:=val M) (n:=n) (by rw[hn];exact qL _);have Yu:=VI hL;have he:=WN (val L) (val M) n;have f1:val L/val M*2^(n-n)<4294967296^L.length:=by
  rw[dD,cH,cG];exact dh (cM _ _)<|nd hL
 have f2:val L%val M<4294967296^((iI M).length+1):=by
  have h1:=nd hM.iI;rw[pW]at h1;refine fF (bQ _ hB)<|cg h1<|bZ aK aI
 exact oY (ae [.cf<|ze M aJ a7,.a (aI:0<=((L.length:Int):Int)/\((L.length:Int):Int)<=((L.length:Int):Int)),.a (aI:((4:Nat):Int)*(L.length:Int)<=281474976710656/\((L.length:Int):Int)<=9223372036854775807),iL<|((iI M).length:Int)+1,.a (aI:0<=((((iI M).length+1:Nat):Int):Int)/\((((iI M).length+1:Nat):Int):Int)<=((((iI M).length+1:Nat):Int):Int)),.a (aI:((4:Nat):Int)*(((iI M).length+1:Nat):Int)<=281474976710656/\((((iI M).length+1:Nat):Int):Int)<=9223372036854775807),.c<|abx L aJ aI,.o 25<|ar (iE<|val L:Int) n<|by rw[hn],iL<|(n:Int)-1,.s (Sp.kj (abE L M n) 0 n aI (λx hx mr=>by
    have LG:(n-1-x)/32<L.length:=by
     have:=VI hL;rw[<-hn]at this;omega
    have yO:=K0 (val L) n x;have as9:=hL.getD<|(n-1-x)/32;have B7:L.getD ((n-1-x)/32) 0/2^((n-1-x)%32)<=L.getD ((n-1-x)/32) 0:=cM _ _;have qF:bits .and .u32 ((L.getD ((n-1-x)/32) 0/2^((n-1-x)%32):Nat):Int) 1=(jD (val L) n x:Int):=by
     rw[yp _];have:=OJ hL (n-1-x) LG;unfold jD;rw[this];simp[bJ,LG]
    have hRl:(jk (val L) (val M) n x)<val M:=bQ _ hB;have Za:val (jj (2*(jk (val L) (val M) n x)+(jD (val L) n x))<|(iI M).length+1)=(2*(jk (val L) (val M) n x)+(jD (val L) n x)):=by
     rw[zt,cw];have h1:=nd hM.iI;rw[pW]at h1;rw[bV];omega
    exact jg (ae [.o 27<|ar ((n:Int)-1-(x:Int)) ((n-1-x:Nat):Int),tT 28 (0<=((n-1-x:Nat):Int)) aI,.o 32<|ar ((n:Int)-1-(x:Int)) ((n-1-x:Nat):Int),.a (aI:0<(32:Int)),iL ((n-1-x:Nat):Int),
     iX (((n-1-x)/32:Nat):Int) (L.length),.o 36<|ar ((n:Int)-1-(x:Int)) ((n-1-x:Nat):Int),.a (aI:0<(32:Int)),.a (aI:0<=((((n-1-x)%32:Nat):Int):Int)/\((((n-1-x)%32:Nat):Int):Int)<=((32:Nat):Int)),.o 38 (.int<|tW _ _:aj (.v<|.int .u32<|(L.getD ((n-1-x)/32) 0:Int)/2^((n-1-x)%32))<|.v<|.int .u32 (((L.getD ((n-1-x)/32) 0)/2^((n-1-x)%32):Nat):Int)),.o 39 (.int qF:aj (.v<|.int .u32<|bits .and .u32 (((L.getD ((n-1-x)/32) 0)/2^((n-1-x)%32):Nat):Int) 1)<|.v<|.int .u32 (jD (val L) n x:Int)),.s (Sp.kj (abC L M n x) 0 ((iI M).length+1) aI (λk hk yW=>by
    have yO:=K0 (val L) n x;have Yy:=KV (r:=(jk (val L) (val M) n x)) yO k;have hdc:=KU (r:=(jk (val L) (val M) n x)) yO k;have uk:(lK (2*(jk (val L) (val M) n x)+(jD (val L) n x)) (jk (val L) (val M) n x) k<|(iI M).length+1).set k (2*iV (jk (val L) (val M) n x) k%4294967296+mR (jk (val L) (val M) n x) (jD (val L) n x) k)=(lK (2*(jk (val L) (val M) n x)+(jD (val L) n x)) (jk (val L) (val M) n x) (k+1)<|(iI M).length+1):=by rw[<-Yy.1,Mn]
    exact jg (ae [tT 43 ((k:Int)<(((iI M).length+1:Nat):Int)) aI,iX (k:Int)<|(iI M).length+1,.a (aI:k<((iI M).length+1)),.o 49<|.int (k:=.u32) (by rw[Jb]:(((lK (2*(jk (val L) (val M) n x)+(jD (val L) n x)) (jk (val L) (val M) n x) k<|(iI M).length+1).getD k 0:Nat):Int)=(iV (jk (val L) (val M) n x) k:Int)),.a (aI:0<=(1:Int)/\(1:Int)<=((32:Nat):Int)),.o 53 (.int<|S1 _:aj (.v<|.int .u32<|IntKind.u32.wrap<|(iV (jk (val L) (val M) n x) k:Int)*2^1)<|.v<|.int .u32 ((2*iV (jk (val L) (val M) n x) k%4294967296:Nat):Int)),.o 55 (.int<|MC _ _ hdc:aj (.v<|.int .u32<|bits .or .u32 ((2*iV (jk (val L) (val M) n x) k%4294967296:Nat):Int) (mR (jk (val L) (val M) n x) (jD (val L) n x) k:Int))<|.v<|.int .u32 ((2*iV (jk (val L) (val M) n x) k%4294967296+mR (jk (val L) (val M) n x) (jD (val L) n x) k:Nat):Int)),
     iX (k:Int) ((iI M).length+1),.a (aI:k<((iI M).length+1)),.a (aI:0<=(31:Int)/\(31:Int)<=((32:Nat):Int)),.o 58 (.int<|tW _ _:aj (.v<|.int .u32<|(iV (jk (val L) (val M) n x) k:Int)/2^31)<|.v<|.int .u32 (((iV (jk (val L) (val M) n x) k)/2^31:Nat):Int)),iL<|(k:Int)+1]<|.e<|af [.o 9<|.int (k:=.u32) (by rw[Yy.2]:(((iV (jk (val L) (val M) n x) k)/2^31:Nat):Int)=(mR (jk (val L) (val M) n x) (jD (val L) n x)<|k+1:Int)),.b 23 (F8 rfl bh uk:Bx.le (.row false 99 ((iI M).length+1) 1 λi' j'=>if i'=k/\0<=j'/\j'<0+1 then[.v<|.int .u32 ((2*iV (jk (val L) (val M) n x) k%4294967296+mR (jk (val L) (val M) n x) (jD (val L) n x) k:Nat):Int)].getD (j'-0) .any else(jt<|lK (2*(jk (val L) (val M) n x)+(jD (val L) n x)) (jk (val L) (val M) n x) k<|(iI M).length+1) i' j')<|.row false 99 ((iI M).length+1) 1<|jt<|lK (2*(jk (val L) (val M) n x)+(jD (val L) n x)) (jk (val L) (val M) n x) (k+1)<|(iI M).length+1)]) aM)
  (λhk=>by
    exact jg (ae [tF 43 ((((iI M).length+1:Nat):Int)<(((iI M).length+1:Nat):Int)) aI]<|.e<|af [.b 23 (.jm<|by rw[Mm<|bB _]:Bx.le (.row false 99 ((iI M).length+1) 1<|jt<|lK (2*(jk (val L) (val M) n x)+(jD (val L) n x)) (jk (val L) (val M) n x) ((iI M).length+1)<|(iI M).length+1)<|.row false 99 ((iI M).length+1) 1<|jt<|jj (2*(jk (val L) (val M) n x)+(jD (val L) n x))<|(iI M).length+1)]) aM) aQ:ki 9 f189 (abC L M n x 0) (.exit 2) ⟨106,false,[(8,.e<|iP<|(n:Int)-1-(x:Int)),(7,.own 23),(6,.own 19),(1,.e<|iG<|iI M),(0,.e<|iG L)],[(23,.row false 99 ((iI M).length+1) 1<|jt<|jj (2*(jk (val L) (val M) n x)+(jD (val L) n x))<|(iI M).length+1),(19,.row false 99 L.length 1<|jt<|jj ((lM (val L) (val M) n x)*2^(n-x)) L.length)]⟩)<|af [.o 9<|.int (k:=.u32) (by rw[Pc]:(jD (val L) n x:Int)=(mR (jk (val L) (val M) n x) (jD (val L) n x) 0:Int)),.b 23 (.jm<|by rw[Jc]:Bx.le (.row false 99 ((iI M).length+1) 1<|jt<|jj (jk (val L) (val M) n x)<|(iI M).length+1)<|.row false 99 ((iI M).length+1) 1<|jt<|lK (2*(jk (val L) (val M) n x)+(jD (val L) n x)) (jk (val L) (val M) n x) 0<|(iI M).length+1)],.c (by rw[CL<|show((iI M).length+1)=(jj (2*(jk (val L) (val M) n x)+(jD (val L) n x))<|(iI M).length+1).length by first|omega|(simp only[nH,xt];omega)|simp only[nH,xt]];exact(ao9 _ _ (vN _ _) (jc.iI aJ) (by first|omega|(simp only[nH,xt];omega)|simp only[nH,xt])<|by first|omega|(simp only[nH,xt];omega)|simp only[nH,xt]):iA 225 [.sl false ((iI M).length+1) 1<|jt<|jj (2*(jk (val L) (val M) n x)+(jD (val L) n x))<|(iI M).length+1,iG<|iI M]<|bP<|decide ((kP (val<|jj (2*(jk (val L) (val M) n x)+(jD (val L) n x))<|(iI M).length+1)<|val<|iI M)<0))]<|.w ((2*(jk (val L) (val M) n x)+(jD (val L) n x))<val M)
     (λIt=>by
      have oq:kP (val<|jj (2*(jk (val L) (val M) n x)+(jD (val L) n x))<|(iI M).length+1) (val<|iI M)<0:=by rw[Za,pW];unfold kP;rw[bA It];decide
      have nE:=WO hB mr It;have g1:=nE.1;have g2:=nE.2;have Qt:jj (2*(jk (val L) (val M) n x)+(jD (val L) n x)) ((iI M).length+1)=jj (jk (val L) (val M) n<|x+1) ((iI M).length+1):=by rw[g1]
      have akU:(jj ((lM (val L) (val M) n x)*2^(n-x)) L.length)=(jj ((lM (val L) (val M) n<|x+1)*2^(n-(x+1))) L.length):=by
       rw[g2];congr 1;rw[(aI:n-x=n-(x+1)+1),bV,bR 2,bO,bR 2]
      exact ae [tB 61<|bC oq,.o 29<|ar ((n:Int)-1-(x:Int)) ((n-1-x:Nat):Int),iL<|((n-1-x:Nat):Int)-1]<|.e<|af [.o 8<|ar (((n-1-x:Nat):Int)-1) ((n:Int)-1-((x+1:Nat):Int)) aZ,.b 23 (.jm<|by rw[Qt]:Bx.le (.row false 99 ((iI M).length+1) 1<|jt<|jj (2*(jk (val L) (val M) n x)+(jD (val L) n x))<|(iI M).length+1)<|.row false 99 ((iI M).length+1) 1<|jt<|jj (jk (val L) (val M) n<|x+1)<|(iI M).length+1),.b 19 (.jm<|by rw[akU]:Bx.le (.row false 99 L.length 1<|jt<|jj ((lM (val L) (val M) n x)*2^(n-x)) L.length)<|.row false 99 L.length 1<|jt<|jj ((lM (val L) (val M) n<|x+1)*2^(n-(x+1))) L.length)])
     (λIt=>by
      have oq:¬kP (val<|jj (2*(jk (val L) (val M) n x)+(jD (val L) n x))<|(iI M).length+1) (val<|iI M)<0:=by rw[Za,pW];unfold kP;rw[bw It];split<;>decide
      have nE:=WQ hB mr It;have g1:=nE.1;have g2:=nE.2;have Qt:jj ((2*(jk (val L) (val M) n x)+(jD (val L) n x))-val M) ((iI M).length+1)=jj (jk (val L) (val M) n<|x+1) ((iI M).length+1):=by rw[g1]
      have e3:n-x=(n-1-x)+1:= aI ;have e4:n-(x+1)=(n-1-x):= aI ;have hle:=aif (val L) (val M) n x;rw[e3]at hle;have IE:=aq9 (q:=(lM (val L) (val M) n x)) (i:=(n-1-x)) (m:=L.length) LG<|dh hle<|nd hL;have s2:=IE.2.1;have s3:=IE.2.2;have alC:(jj ((lM (val L) (val M) n x)*2^(n-x)) L.length).set ((n-1-x)/32) (iV ((lM (val L) (val M) n x)*2^((n-1-x)+1)) ((n-1-x)/32)+2^((n-1-x)%32))=(jj ((lM (val L) (val M) n<|x+1)*2^(n-(x+1))) L.length):=by rw[e3,s3,g2,e4]
      have jA:(((jj ((lM (val L) (val M) n x)*2^(n-x)) L.length).getD ((n-1-x)/32) 0:Nat):Int)=(iV ((lM (val L) (val M) n x)*2^((n-1-x)+1))<|(n-1-x)/32:Int):=by rw[e3,vJ LG]
      have wm:bits .or .u32 (iV ((lM (val L) (val M) n x)*2^((n-1-x)+1))<|(n-1-x)/32:Int) (IntKind.u32.wrap<|1*2^((n-1-x)%32))=((iV ((lM (val L) (val M) n x)*2^((n-1-x)+1)) ((n-1-x)/32)+2^((n-1-x)%32):Nat):Int):=by
       refine Exists.elim IE.1 λt s1=>?_
       rw[s1]at s2 ⊢;exact anY _ _ (bQ _ aK) s2
      exact ae [tB 61<|bE oq,.s (Sp.kj (abD L M n x) 0 ((iI M).length+1) aI (λk hk yW=>by
    have ha:=adi (aI:val M<=(2*(jk (val L) (val M) n x)+(jD (val L) n x))) k;have hMk:(iI M).getD k 0=iV (val M) k:=by rw[qg hM.iI,pW]
    have als:=hM.iI;rw[<-hMk]at ha;have b1:=qB (2*(jk (val L) (val M) n x)+(jD (val L) n x)) k;have b2:=als.getD k;have b3:=vI ((2*(jk (val L) (val M) n x)+(jD (val L) n x))-val M) (val M) k;have b5:=vI ((2*(jk (val L) (val M) n x)+(jD (val L) n x))-val M) (val M)<|k+1;have b4:=qB ((2*(jk (val L) (val M) n x)+(jD (val L) n x))-val M) k;have hzz:(((iV (2*(jk (val L) (val M) n x)+(jD (val L) n x)) k+4294967296)-(iI M).getD k 0)-(jR ((2*(jk (val L) (val M) n x)+(jD (val L) n x))-val M) (val M) k))%4294967296%4294967296=iV ((2*(jk (val L) (val M) n x)+(jD (val L) n x))-val M) k:= aI ;have hq:1-(((iV (2*(jk (val L) (val M) n x)+(jD (val L) n x)) k+4294967296)-(iI M).getD k 0)-(jR ((2*(jk (val L) (val M) n x)+(jD (val L) n x))-val M) (val M) k))/4294967296=(jR ((2*(jk (val L) (val M) n x)+(jD (val L) n x))-val M) (val M)<|k+1):= aI ;have uk:(lK ((2*(jk (val L) (val M) n x)+(jD (val L) n x))-val M) (2*(jk (val L) (val M) n x)+(jD (val L) n x)) k<|(iI M).length+1).set k ((((iV (2*(jk (val L) (val M) n x)+(jD (val L) n x)) k+4294967296)-(iI M).getD k 0)-(jR ((2*(jk (val L) (val M) n x)+(jD (val L) n x))-val M) (val M) k))%4294967296%4294967296)=(lK ((2*(jk (val L) (val M) n x)+(jD (val L) n x))-val M) (2*(jk (val L) (val M) n x)+(jD (val L) n x)) (k+1)<|(iI M).length+1):=by rw[hzz,Mn]
    exact jg (ae [tT 65 ((k:Int)<(((iI M).length+1:Nat):Int)) aI,iX (k:Int)<|(iI M).length+1,.a (aI:k<((iI M).length+1)),.o 71<|.int (k:=.u32) (by rw[Jb]:(((lK ((2*(jk (val L) (val M) n x)+(jD (val L) n x))-val M) (2*(jk (val L) (val M) n x)+(jD (val L) n x)) k<|(iI M).length+1).getD k 0:Nat):Int)=(iV (2*(jk (val L) (val M) n x)+(jD (val L) n x)) k:Int)),.o 72 (.int<|px _:aj (.v<|.int .u64<|IntKind.u64.wrap (iV (2*(jk (val L) (val M) n x)+(jD (val L) n x)) k:Int))<|.v<|.int .u64 (iV (2*(jk (val L) (val M) n x)+(jD (val L) n x)) k:Int)),
     nW ((iV (2*(jk (val L) (val M) n x)+(jD (val L) n x)) k:Int)+4294967296),.c<|y7 (iI M) k<|jc.iI aJ,
     nW ((((iV (2*(jk (val L) (val M) n x)+(jD (val L) n x)) k)+4294967296:Nat):Int)-(((iI M).getD k 0:Nat):Int)),.o 77<|.int (k:=.u64) (aI:((((iV (2*(jk (val L) (val M) n x)+(jD (val L) n x)) k)+4294967296:Nat):Int)-(((iI M).getD k 0:Nat):Int))=(((iV (2*(jk (val L) (val M) n x)+(jD (val L) n x)) k+4294967296)-(iI M).getD k 0:Nat):Int)),
     nW ((((iV (2*(jk (val L) (val M) n x)+(jD (val L) n x)) k+4294967296)-(iI M).getD k 0:Nat):Int)-(jR ((2*(jk (val L) (val M) n x)+(jD (val L) n x))-val M) (val M) k:Int)),.o 79<|.int (k:=.u64) (aI:((((iV (2*(jk (val L) (val M) n x)+(jD (val L) n x)) k+4294967296)-(iI M).getD k 0:Nat):Int)-(jR ((2*(jk (val L) (val M) n x)+(jD (val L) n x))-val M) (val M) k:Int))=((((iV (2*(jk (val L) (val M) n x)+(jD (val L) n x)) k+4294967296)-(iI M).getD k 0)-(jR ((2*(jk (val L) (val M) n x)+(jD (val L) n x))-val M) (val M) k):Nat):Int)),.o 83 (.int<|CP _:aj (.v<|.int .u64<|bits .and .u64 ((((iV (2*(jk (val L) (val M) n x)+(jD (val L) n x)) k+4294967296)-(iI M).getD k 0)-(jR ((2*(jk (val L) (val M) n x)+(jD (val L) n x))-val M) (val M) k):Nat):Int) 4294967295)<|.v<|.int .u64 (((((iV (2*(jk (val L) (val M) n x)+(jD (val L) n x)) k+4294967296)-(iI M).getD k 0)-(jR ((2*(jk (val L) (val M) n x)+(jD (val L) n x))-val M) (val M) k))%4294967296:Nat):Int)),.o 84 (.int<|tX _:aj (.v<|.int .u32<|IntKind.u32.wrap (((((iV (2*(jk (val L) (val M) n x)+(jD (val L) n x)) k+4294967296)-(iI M).getD k 0)-(jR ((2*(jk (val L) (val M) n x)+(jD (val L) n x))-val M) (val M) k))%4294967296:Nat):Int))<|.v<|.int .u32 ((((((iV (2*(jk (val L) (val M) n x)+(jD (val L) n x)) k+4294967296)-(iI M).getD k 0)-(jR ((2*(jk (val L) (val M) n x)+(jD (val L) n x))-val M) (val M) k))%4294967296)%4294967296:Nat):Int)),
     iX (k:Int) ((iI M).length+1),.a (aI:k<((iI M).length+1)),.a (aI:0<=(32:Int)/\(32:Int)<=((64:Nat):Int)),.o 87 (.int<|Al _:aj (.v<|.int .u64<|((((iV (2*(jk (val L) (val M) n x)+(jD (val L) n x)) k+4294967296)-(iI M).getD k 0)-(jR ((2*(jk (val L) (val M) n x)+(jD (val L) n x))-val M) (val M) k):Nat):Int)/2^32)<|.v<|.int .u64 (((((iV (2*(jk (val L) (val M) n x)+(jD (val L) n x)) k+4294967296)-(iI M).getD k 0)-(jR ((2*(jk (val L) (val M) n x)+(jD (val L) n x))-val M) (val M) k))/4294967296:Nat):Int)),
     nW (1-(((((iV (2*(jk (val L) (val M) n x)+(jD (val L) n x)) k+4294967296)-(iI M).getD k 0)-(jR ((2*(jk (val L) (val M) n x)+(jD (val L) n x))-val M) (val M) k))/4294967296:Nat):Int)),.o 88<|.int (k:=.u64) (aI:(1-(((((iV (2*(jk (val L) (val M) n x)+(jD (val L) n x)) k+4294967296)-(iI M).getD k 0)-(jR ((2*(jk (val L) (val M) n x)+(jD (val L) n x))-val M) (val M) k))/4294967296:Nat):Int))=((1-((((iV (2*(jk (val L) (val M) n x)+(jD (val L) n x)) k+4294967296)-(iI M).getD k 0)-(jR ((2*(jk (val L) (val M) n x)+(jD (val L) n x))-val M) (val M) k))/4294967296):Nat):Int)),
     iL ((k:Int)+1)]<|.e<|af [.o 12<|.int (k:=.u64) (by rw[hq]:((1-((((iV (2*(jk (val L) (val M) n x)+(jD (val L) n x)) k+4294967296)-(iI M).getD k 0)-(jR ((2*(jk (val L) (val M) n x)+(jD (val L) n x))-val M) (val M) k))/4294967296):Nat):Int)=(jR ((2*(jk (val L) (val M) n x)+(jD (val L) n x))-val M) (val M)<|k+1:Int)),.b 23 (F8 rfl bh uk:Bx.le (.row false 99 ((iI M).length+1) 1 λi' j'=>if i'=k/\0<=j'/\j'<0+1 then[.v<|.int .u32 ((((((iV (2*(jk (val L) (val M) n x)+(jD (val L) n x)) k+4294967296)-(iI M).getD k 0)-(jR ((2*(jk (val L) (val M) n x)+(jD (val L) n x))-val M) (val M) k))%4294967296)%4294967296:Nat):Int)].getD (j'-0) .any else(jt<|lK ((2*(jk (val L) (val M) n x)+(jD (val L) n x))-val M) (2*(jk (val L) (val M) n x)+(jD (val L) n x)) k<|(iI M).length+1) i' j')<|.row false 99 ((iI M).length+1) 1<|jt<|lK ((2*(jk (val L) (val M) n x)+(jD (val L) n x))-val M) (2*(jk (val L) (val M) n x)+(jD (val L) n x)) (k+1)<|(iI M).length+1)]) aM)
  (λhk=>by
    exact jg (ae [tF 65 ((((iI M).length+1:Nat):Int)<(((iI M).length+1:Nat):Int)) aI]<|.e<|af [.b 23 (.jm<|by rw[Mm<|bB _]:Bx.le (.row false 99 ((iI M).length+1) 1<|jt<|lK ((2*(jk (val L) (val M) n x)+(jD (val L) n x))-val M) (2*(jk (val L) (val M) n x)+(jD (val L) n x)) ((iI M).length+1)<|(iI M).length+1)<|.row false 99 ((iI M).length+1) 1<|jt<|jj ((2*(jk (val L) (val M) n x)+(jD (val L) n x))-val M)<|(iI M).length+1)]) aM) aQ:ki 17 f189 (abD L M n x 0) (.exit 4) ⟨106,false,[(8,.e<|iP<|(n:Int)-1-(x:Int)),(7,.own 23),(6,.own 19),(1,.e<|iG<|iI M),(0,.e<|iG L)],[(23,.row false 99 ((iI M).length+1) 1<|jt<|jj ((2*(jk (val L) (val M) n x)+(jD (val L) n x))-val M)<|(iI M).length+1),(19,.row false 99 L.length 1<|jt<|jj ((lM (val L) (val M) n x)*2^(n-x)) L.length)]⟩)<|af [.o 12<|.int (k:=.u64) (by rw[KN];rfl:0=(jR ((2*(jk (val L) (val M) n x)+(jD (val L) n x))-val M) (val M) 0:Int)),.b 23 (.jm<|by rw[Jc]:Bx.le (.row false 99 ((iI M).length+1) 1<|jt<|jj (2*(jk (val L) (val M) n x)+(jD (val L) n x))<|(iI M).length+1)<|.row false 99 ((iI M).length+1) 1<|jt<|lK ((2*(jk (val L) (val M) n x)+(jD (val L) n x))-val M) (2*(jk (val L) (val M) n x)+(jD (val L) n x)) 0<|(iI M).length+1)],.o 90<|ar ((n:Int)-1-(x:Int)) ((n-1-x:Nat):Int),.a (aI:0<(32:Int)),iL ((n-1-x:Nat):Int),.o 93<|ar ((n:Int)-1-(x:Int)) ((n-1-x:Nat):Int),.a (aI:0<(32:Int)),iL ((n-1-x:Nat):Int),
       iX (((n-1-x)/32:Nat):Int) (L.length),.a (aI:((n-1-x)/32)<L.length),.o 96 (.int jA:aj (.v<|.int .u32 (((jj ((lM (val L) (val M) n x)*2^(n-x)) L.length).getD ((n-1-x)/32) 0:Nat):Int))<|.v<|.int .u32 (iV ((lM (val L) (val M) n x)*2^((n-1-x)+1))<|(n-1-x)/32:Int)),.o 97<|ar ((n:Int)-1-(x:Int)) ((n-1-x:Nat):Int),.a (aI:0<(32:Int)),.a (aI:0<=((((n-1-x)%32:Nat):Int):Int)/\((((n-1-x)%32:Nat):Int):Int)<=((32:Nat):Int)),.o 100 (.int wm:aj (.v<|.int .u32<|bits .or .u32 (iV ((lM (val L) (val M) n x)*2^((n-1-x)+1))<|(n-1-x)/32:Int)<|IntKind.u32.wrap<|1*2^((n-1-x)%32))<|.v<|.int .u32 ((iV ((lM (val L) (val M) n x)*2^((n-1-x)+1)) ((n-1-x)/32)+2^((n-1-x)%32):Nat):Int)),
       iX (((n-1-x)/32:Nat):Int) (L.length),.a (aI:((n-1-x)/32)<L.length),.o 29<|ar ((n:Int)-1-(x:Int)) ((n-1-x:Nat):Int),
       iL (((n-1-x:Nat):Int)-1)]<|.e<|af [.o 8<|ar (((n-1-x:Nat):Int)-1) ((n:Int)-1-((x+1:Nat):Int)) aZ,.b 23 (.jm<|by rw[Qt]:Bx.le (.row false 99 ((iI M).length+1) 1<|jt<|jj ((2*(jk (val L) (val M) n x)+(jD (val L) n x))-val M)<|(iI M).length+1)<|.row false 99 ((iI M).length+1) 1<|jt<|jj (jk (val L) (val M) n<|x+1)<|(iI M).length+1),.b 19 (F8 rfl (by rw[nH];omega) alC:Bx.le (.row false 99 L.length 1 λi' j'=>if i'=((n-1-x)/32)/\0<=j'/\j'<0+1 then[.v<|.int .u32 ((iV ((lM (val L) (val M) n x)*2^((n-1-x)+1)) ((n-1-x)/32)+2^((n-1-x)%32):Nat):Int)].getD (j'-0) .any else(jt<|jj ((lM (val L) (val M) n x)*2^(n-x)) L.length) i' j')<|.row false 99 L.length 1<|jt<|jj ((lM (val L) (val M) n<|x+1)*2^(n-(x+1))) L.length)])) aM)
  (λhx=>by
    exact jg (ae [tF 28 (0<=((n:Int)-1-(n:Int))) aI,.z 19,.z 23]<|.e<|af [.o 7 (.e<|Am (nH _ _).symm:aj (.sl false ((iI M).length+1) 1<|jt<|jj (jk (val L) (val M) n n)<|(iI M).length+1)<|iG<|jj (jk (val L) (val M) n n)<|(iI M).length+1),.o 6 (.e<|Am (nH _ _).symm:aj (.sl false L.length 1<|jt<|jj ((lM (val L) (val M) n n)*2^(n-n)) L.length)<|iG<|jj ((lM (val L) (val M) n n)*2^(n-n)) L.length)]) aM) aQ:ki 5 f189 (abE L M n 0) (.exit 0) ⟨106,false,[(7,.e<|iG<|jj (jk (val L) (val M) n n)<|(iI M).length+1),(6,.e<|iG<|jj ((lM (val L) (val M) n n)*2^(n-n)) L.length)],[]⟩)<|af [.o 8<|ar ((n:Int)-1) ((n:Int)-1-((0:Nat):Int)) aZ,.b 23 (F9 rfl (λi=>by rw[Lj.1,KW]):Bx.le (.row false 99 ((iI M).length+1) 1 λ_ j_=>[.v<|.int .u32 0].getD j_ .any)<|.row false 99 ((iI M).length+1) 1<|jt<|jj (jk (val L) (val M) n 0)<|(iI M).length+1),.b 19 (F9 rfl (λi=>by rw[Lj.2,de,KW]):Bx.le (.row false 99 L.length 1 λ_ j_=>[.v<|.int .u32 0].getD j_ .any)<|.row false 99 L.length 1<|jt<|jj ((lM (val L) (val M) n 0)*2^(n-0)) L.length)],.cf<|ze (jj ((lM (val L) (val M) n n)*2^(n-n)) L.length) (vN _ _) a7,.cf<|ze (jj (jk (val L) (val M) n n)<|(iI M).length+1) (vN _ _) a7]<|rQ (.iK [iG<|iI<|jj ((lM (val L) (val M) n n)*2^(n-n)) L.length,iG<|iI<|jj (jk (val L) (val M) n n)<|(iI M).length+1]) (.iK [iG<|iB<|val L/val M,iG<|iB<|val L%val M])<|by rw[he.1,he.2,Eu f1,Eu f2,dD,cH,cG])
end
def aph(m:Nat)(h:(iB m).length<=10000):iA 196 [iG<|iB m]<|iG<|iB m:=by
 have:=(ze (iB m) (lO m) aI).pc;rwa[show iI (iB m)=iB m from Av m]at this
def Bp(m:Nat)(h:(iB m).length<=10000:=by omega):iA 150 [iG<|iB m]<|iP<|iE m:=by
 have:=abx (iB m) (lO m) aI;rwa[kE]at this
section
variable(m n:Nat)
def Jz(h:(iB m).length<=10000:=by omega)(k:(iB n).length<=10000:=by omega):iA 154 [iG<|iB m,iG<|iB n]<|iP<|kP m n:=by
 have:=abB (iB m) (iB n) (lO m) (lO n) aI aI;rwa[kE,kE]at this
def Jy(h:(iB m).length<=10000:=by omega)(k:(iB n).length<=10000:=by omega):iA 197 [iG<|iB m,iG<|iB n]<|iG<|iB<|m+n:=by
 have:=ao1 (iB m) (iB n) (lO m) (lO n) aI aI;rwa[kE,kE]at this
def apf(h:(iB m).length<=10000)(k:n<=m):iA 227 [iG<|iB m,iG<|iB n]<|iG<|iB<|m-n:=by
 have:=apg (iB m) (iB n) (lO m) (lO n) aI (by rw[kE,kE];exact k);rwa[kE,kE]at this
def F1(h:(iB m).length<=10000:=by omega)(k:n<=1000000:=by omega):iA 151 [iG<|iB m,iP (n:Int)]<|iG<|iB<|m*2^n:=by
 have:=apb (iB m) n (lO m) aI aI;rwa[kE]at this
section
variable(h:(iB m).length<=10000)
def apc(k:n<=1000000):iA 198 [iG<|iB m,iP (n:Int)]<|iG<|iB<|m/2^n:=by
 have:=apd (iB m) n (lO m) aI aI;rwa[kE]at this
def ao7(k:(iB n).length<=10000)(h0:0<n):iA 189 [iG<|iB m,iG<|iB n]<|.iK [iG<|iB<|m/n,iG<|iB<|m%n]:=by
 have:=ao8 (iB m) (iB n) _ (lO m) (lO n) aI aI (by rw[kE];exact h0) rfl;rwa[kE,kE]at this
end
end
def apn(neg:Bool)(p:Nat)(iU:8<=p)(iJ:p<=512):iA 199 [bP neg,iP p]<|iF<|canon neg (2^p-1)<|16384-(p:Int):=by
 have g0:iE (1*2^p)=p+1:=by rw[cj];exact xM (bB _)<|fJ aK aI
 have g1:(iB 1).length<=256:=nJ aK;have g2:(iB<|1*2^p).length<=256:=nJ;have g4:1<=1*2^p:=by rw[cj];exact bL aK 
 have g3:(iB<|(1*2^p)-1).length<=256:=nJ (by have:=ub<|en (1*2^p) 1;omega);exact iM<|ae [.o 6 (.e wL:aj (.sl false 1 1 λi_ j_=>[.v<|.int .u32 1].getD (i_*1+j_)<|.v<|.bool false)<|iG<|iB 1),ag [iG<|iB 1,iP p]<|F1 _ _,.o 9 (.e wL:aj (.sl false 1 1 λi_ j_=>[.v<|.int .u32 1].getD (i_*1+j_)<|.v<|.bool false)<|iG<|iB 1),ag [iG<|iB<|1*2^p,iG<|iB 1]<|apf _ _ aI aJ,iL<|16384-(p:Int),.c<|CF neg ((1*2^p)-1)<|16384-(p:Int)]<|rQ (iF<|canon neg ((1*2^p)-1)<|16384-(p:Int)) (iF<|canon neg (2^p-1)<|16384-(p:Int))<|by rw[cj]
section
variable(neg:Bool)(m:Nat)(e:Int)(more:Bool)(p:Nat)(up:Bool)
noncomputable def Cy(h1:(iB m).length<=2900)(lG:-200000<=e)(kW:e<=200000)(iU:8<=p)(iJ:p<=512)(Q:Nat)(U:Bool)(hq:lF m e more p (neg != up)=Q)(hU:U=(neg != up))(hl:(iB Q).length<=2901:=by omega):Tr prog Tb:=by
 have hb:=zG h1;have pB:jy m e p<=1000000:=by unfold jy;omega
 have tL:(jy m e p:Int)<=max (iE m:Int) (-16384-e):=by unfold jy;omega
 have g4:=zG hl;exact ae [ag [iG<|iB Q]<|Bp _]<|.w (0<(iE Q:Int))
  (λk1=>ae [tB 53<|bC k1,ag [iG<|iB Q]<|Bp _,iL<|(iE Q:Int)+e,iL<|((iE Q:Int)+e)+(jy m e p:Int)]<|.w (16384<(((iE Q:Int)+e)+(jy m e p:Int)))
   (λk2=>ae [tB 61<|bC k2]<|.w (U=true)
    (λk3=>ae [tB 63 k3,.o 64 (.e tz:aj (.agg av)<|iF jK)]<|rR (.iK [iF<|j9 neg m e more p up,iP<|jW neg m e more p up]) (by
      have h0:Q≠0:=by intro h;rw[h]at k1;exact absurd k1 aK 
      obtain⟨g1,g2⟩:=(Ww (e:=e) hq h0 aI).1 (by rw[<-hU];simp[k3]);exact .jm (by rw[g1,g2]):E.le (.iK [iF jK,iP 9])<|.iK [iF<|j9 neg m e more p up,iP<|jW neg m e more p up]))
    (λk3=>ae [tB 63<|bn k3,ag [bP neg,iP p]<|apn _ _ aI aI]<|rR (.iK [iF<|j9 neg m e more p up,iP<|jW neg m e more p up]) (by
      have h0:Q≠0:=by intro h;rw[h]at k1;exact absurd k1 aK 
      obtain⟨g1,g2⟩:=(Ww (e:=e) hq h0 aI).2 (by rw[<-hU];simp[k3]);exact .jm (by rw[g1,g2]):E.le (.iK [iF<|canon neg (2^p-1)<|16384-(p:Int),iP 0])<|.iK [iF<|j9 neg m e more p up,iP<|jW neg m e more p up])))
   (λk2=>ae [tB 61<|bE k2,iL<|e+(jy m e p:Int),.c<|CF neg Q<|e+(jy m e p:Int)]<|rR (.iK [iF<|j9 neg m e more p up,iP<|jW neg m e more p up]) (by
      obtain⟨g1,g2⟩:=Wu (e:=e) hq<|.inr aI;exact .jm (by rw[g1,g2]):E.le (.iK [iF<|canon neg Q<|e+(jy m e p:Int),iP 0])<|.iK [iF<|j9 neg m e more p up,iP<|jW neg m e more p up])))
  (λk1=>ae [tB 53<|bE k1,iL<|e+(jy m e p:Int),.c<|CF neg Q<|e+(jy m e p:Int)]<|rR (.iK [iF<|j9 neg m e more p up,iP<|jW neg m e more p up]) (by
      have h0:Q=0:=by
       apply cF;intro h;have:=og h;omega
      obtain⟨g1,g2⟩:=Wu (e:=e) hq<|.inl h0;exact .jm (by rw[g1,g2]):E.le (.iK [iF<|canon neg Q<|e+(jy m e p:Int),iP 0])<|.iK [iF<|j9 neg m e more p up,iP<|jW neg m e more p up]))
def MM(h1:(iB m).length<=2900:=by omega)(lG:-200000<=e:=by omega)(kW:e<=200000:=by omega)(iU:8<=p:=by omega)(iJ:p<=512:=by omega):iA 153 [bP neg,iG<|iB m,iP e,bP more,iP p,bP up]<|.iK [iF<|j9 neg m e more p up,iP<|jW neg m e more p up]:=by
 have hb:=zG h1;have pB:jy m e p<=1000000:=by unfold jy;omega
 have tL:(jy m e p:Int)<=max (iE m:Int) (-16384-e):=by unfold jy;omega
 have g1:=wC<|cM m<|2^jy m e p;have g2:=wC<|eH m<|2^jy m e p;have l1:(iB 1).length<=256:=nJ aK;have g3:(iB<|(m/2^jy m e p)+1).length<=2901:=Z4 aI aI;have g5:=zG (m:=m/2^jy m e p)<|b9 g1 h1;exact iM (ae [ag [iG<|iB m]<|aph _ aI,ag [iG<|iB m]<|Bp _,iL<|(iE m:Int)-p,iL<|(-16384)-e,.o 27<|ar (if 0>(if((-16384)-e)>((iE m:Int)-p)then((-16384)-e)else((iE m:Int)-p))then 0 else(if((-16384)-e)>((iE m:Int)-p)then((-16384)-e)else((iE m:Int)-p))) (jy m e p:Int)<|by unfold jy;(repeat' split)<;>omega,ag [iG<|iB m,iP (jy m e p:Int)]<|apc _ _ aI aI]<|.w (0<(jy m e p:Int))
  (λk1=>ae [tB 32<|bC k1,ag [iG<|iB<|m/2^(jy m e p),iP (jy m e p:Int)]<|F1 _ _,ag [iG<|iB<|(m/2^(jy m e p))*2^(jy m e p),iG<|iB m]<|Jz _ _]<|.w ((kP ((m/2^(jy m e p))*2^(jy m e p)) m)=0)
   (λk2=>by
    have jA:m%2^(jy m e p)=0:=(aae _ _).1 k2;exact ae [tB 39<|bt k2]<|.w (more=true)
     (λk3=>.w (neg=up)
      (λk4=>ae [tB 43<|wV<|bl k4,tB 44 k3]<|Cy neg m e more p up h1 lG kW iU iJ (m/2^(jy m e p)) false (by unfold lF;simp[k3,k4,jA])<|by first|rfl|simp[k3,k4,jA])
      (λk4=>ae [tB 43<|wU<|bk k4,tB 44 k3,.o 49 (.e wL:aj (.sl false 1 1 λi_ j_=>[.v<|.int .u32 1].getD (i_*1+j_)<|.v<|.bool false)<|iG<|iB 1),ag [iG<|iB<|m/2^(jy m e p),iG<|iB 1]<|Jy _ _]<|Cy neg m e more p up h1 lG kW iU iJ ((m/2^(jy m e p))+1) true (by unfold lF;simp[k3,k4,jA])<|by first|rfl|simp[k3,k4,jA]))
     (λk3=>ae [tB 44<|bn k3]<|Cy neg m e more p up h1 lG kW iU iJ (m/2^(jy m e p)) (!(neg==up)) (by unfold lF;simp[k3,jA])<|by first|rfl|simp[k3,jA]))
   (λk2=>by
    have jA:m%2^(jy m e p)≠0:=λh=>k2 ((aae _ _).2 h)
    exact ae [tB 39<|bu k2]<|.w (neg=up)
     (λk3=>ae [tB 43<|wV<|bl k3]<|Cy neg m e more p up h1 lG kW iU iJ (m/2^(jy m e p)) false (by unfold lF;simp[k3,jA])<|by first|rfl|simp[k3,jA])
     (λk3=>ae [tB 43<|wU<|bk k3,.o 49 (.e wL:aj (.sl false 1 1 λi_ j_=>[.v<|.int .u32 1].getD (i_*1+j_)<|.v<|.bool false)<|iG<|iB 1),ag [iG<|iB<|m/2^(jy m e p),iG<|iB 1]<|Jy _ _]<|Cy neg m e more p up h1 lG kW iU iJ ((m/2^(jy m e p))+1) true (by unfold lF;simp[k3,jA])<|by first|rfl|simp[k3,jA])))
  (λk1=>by
   have jA:m%2^(jy m e p)=0:=by rw[show(jy m e p)=0 by omega,cH,dz]
   exact ae [tB 32<|bE k1]<|.w (more=true)
    (λk2=>.w (neg=up)
     (λk3=>ae [tB 43<|wV<|bl k3,tB 44 k2]<|Cy neg m e more p up h1 lG kW iU iJ (m/2^(jy m e p)) false (by unfold lF;simp[k2,k3,jA])<|by first|rfl|simp[k2,k3,jA])
     (λk3=>ae [tB 43<|wU<|bk k3,tB 44 k2,.o 49 (.e wL:aj (.sl false 1 1 λi_ j_=>[.v<|.int .u32 1].getD (i_*1+j_)<|.v<|.bool false)<|iG<|iB 1),ag [iG<|iB<|m/2^(jy m e p),iG<|iB 1]<|Jy _ _]<|Cy neg m e more p up h1 lG kW iU iJ ((m/2^(jy m e p))+1) true (by unfold lF;simp[k2,k3,jA])<|by first|rfl|simp[k2,k3,jA]))
    (λk2=>ae [tB 44<|bn k2]<|Cy neg m e more p up h1 lG kW iU iJ (m/2^(jy m e p)) (!(neg==up)) (by unfold lF;simp[k2,jA])<|by first|rfl|simp[k2,jA])))
end
end Go.Proofs.YtbbefgegdllpmaaGreatDoor
namespace Go.Proofs.YtbbefgegdllpmaaGreatDoor.Fp
def VS{s:Bool}{m:Nat}{e:Int}(hm:iE m<=60000)(lG:-60000<=e)(kW:e<=60000):(iB (canon s m e).m).length<=2900 /\ -200000<=(canon s m e).e/\(canon s m e).e<=200000:=by
 by_cases h0:m=0
 .subst h0;rw[EN];exact⟨by rw[show jK.m=0 from rfl,oP];decide,aK,aK⟩
 .obtain ⟨h1,h2,h3,h4⟩:=EM (s:=s) (e:=e) h0;have h5:=og h3;exact⟨RF aI,aI,aI⟩
def aow{a b:Dy}(ha:a.iD)(hb:b.iD):(iB (mJ a b).m).length<=2900 /\ -200000<=(mJ a b).e/\(mJ a b).e<=200000:=by
 have h1:=ha.bits;have h2:=hb.bits;have h3:=ha.exp;have h4:=hb.exp;have h5:iE (a.m*b.m)<=iE a.m+iE b.m:=by
  rw[lE,bG];exact iy (qL a.m)<|qL b.m
 exact VS aI aI aI 
def aaY{a:Dy}{k:Int}(h:k<=a.e):iE (a.num k).natAbs<=iE a.m+(a.e-k).toNat:=by
 have e:(a.num k).natAbs=a.m*2^(a.e-k).toNat:=by
  unfold Dy.num Dy.kg;split
  .rw [gp];exact eo _
  .exact eo _
 rw[e];by_cases h0:a.m=0
 .rw [h0,de];exact cA _
 .rw [rJ h0];exact bB _
section
variable{a b:Dy}(ha:a.iD)(hb:b.iD)
def arP:(iB (jh a b).m).length<=2900 /\ -200000<=(jh a b).e/\(jh a b).e<=200000:=by
 have h1:=ha.bits;have h2:=hb.bits;have h3:=ha.exp;have h4:=hb.exp;have la:=ha.len;have lb:=hb.len;unfold jh;split
 .exact ⟨aI,aI,aI⟩
 .split
  .exact ⟨aI,aI,aI⟩
  .have g1:=aaY (a:=a) (k:=min a.e b.e) aI ;have g2:=aaY (a:=b) (k:=min a.e b.e) aI;refine VS ?_ aI aI;obtain⟨K,hK⟩:∃ K,K=40000:=⟨_,rfl⟩
   have g3:=lE.1<|b9 g1 (aI:iE a.m+(a.e-min a.e b.e).toNat<=K);have g4:=lE.1<|b9 g2 (aI:iE b.m+(b.e-min a.e b.e).toNat<=K);refine b9 ((lE (k:=K+1)).2 ?_) (aI:K+1<=60000);have g5:(a.num (min a.e b.e)+b.num (min a.e b.e)).natAbs<=(a.num<|min a.e b.e).natAbs+(b.num<|min a.e b.e).natAbs:=Int.natAbs_add_le _ _;rw[bV];generalize 2^K=P at *
   omega
def Wl(h:jI a b=0):a=b:=by
 have h1:oo a<|min a.e b.e:=.inr aI;have h2:oo b<|min a.e b.e:=.inr aI;rw[ER h1 h2]at h;refine Pm ha.canon hb.canon h1 h2 ?_;unfold yE at h;split at h
 .omega
 .split at h<;>omega
end
section
variable{a b c:Dy}(ha:a.iD)(hb:b.iD)(hc:c.iD)
def Ml(h1:jI a c<=0)(h2:jI b c<=0)(h3:c=a\/c=b):jq a b=c:=by
 unfold jq;rcases h3 with rfl|rfl
 .rw [bw aI]
 .split
  .rfl
  .rename_i h;have:=AN a c;exact Wl ha hc aI 
def aap(h1:jI c a<=0)(h2:jI c b<=0)(h3:c=a\/c=b):jv a b=c:=by
 unfold jv;rcases h3 with rfl|rfl
 .have:=AN c b;rw[bw aI]
 .split
  .rfl
  .rename_i h;have:=AN a c;exact Wl ha hc aI 
end
def My(d:Dy)(k:Int):(mG d).num k=((d.num k).natAbs:Int):=by
 unfold Dy.num Dy.kg mG;cases d.neg
 .simp;exact(eo<|d.m*2^(d.e-k).toNat).symm▸by simp
 .simp only[cz,bN,bW];rw[gp,eo]
section
variable{d:Dy}(hd:d.mX){k:Int}
def UO(h:0<=d.num k):mG d=d:=by
 rcases hd with⟨h1,h2,h3⟩|h1
 .unfold mG;rw[<-h2]
 .cases hn:d.neg with
  |false=>unfold mG;rw[<-hn]
  |true=>
   have:0<d.kg k:=yg aI k;unfold Dy.num at h;rw[hn,bA rfl]at h;omega
def UP(h:d.num k<=0):mG d=jl d:=by
 rcases hd with⟨h1,h2,h3⟩|h1
 .unfold mG jl;rw[h1,h2];simp
 .cases hn:d.neg with
  |true=>unfold mG jl;rw[hn];simp
  |false=>
   have:0<d.kg k:=yg aI k;unfold Dy.num at h;rw[hn,bw aK]at h;omega
end
def amV{x:Iv}(h1:x.lo.iD)(h2:x.hi.iD)(h3:jI x.lo x.hi<=0):mB x=jq (jl x.lo) x.hi:=by
 obtain⟨k,ka,kb⟩:∃ k:Int,k<=x.lo.e/\k<=x.hi.e:=⟨min x.lo.e x.hi.e,aI,aI⟩
 have aL:oo x.lo k:=.inr ka;have aH:oo x.hi k:=.inr kb;have aN:oo (jl x.lo) k:=GH aL;have aA:oo (mG x.lo) k:=aL;have aB:oo (mG x.hi) k:=aH;have hle:=(pD aL aH).1 h3;have n1:=Jn (d:=x.lo) k;have n2:=My x.lo k;have n3:=My x.hi k;unfold mB;by_cases hc:0<jI x.hi (jl x.lo)
 .have e:jq (jl x.lo) x.hi=x.hi:=by unfold jq;rw[bA hc]
  have Fo:¬x.hi.num k<=(jl x.lo).num k:=λh=>by have:=(pD aH aN).2 h;omega
  rw[e];exact Ml (ua h1) (ua h2) h2 ((pD aA aH).2 aI) ((pD aB aH).2 aI)<|.inr (UO h2.canon (k:=k) aI).symm
 .have e:jq (jl x.lo) x.hi=jl x.lo:=by unfold jq;rw[bw hc]
  have uV:x.hi.num k<=(jl x.lo).num k:=(pD aH aN).1 aI;rw[e];exact Ml (ua h1) (ua h2) (ru h1) ((pD aA aN).2 aI) ((pD aB aN).2 aI)<|.inl (UP h1.canon (k:=k) aI).symm
def ac3{d:Dy}(k:Int):(0<d.jB↔0<d.num k)/\(d.jB<0↔d.num k<0):=by
 obtain⟨h1,h2,h3⟩:=RY (d:=d) k;rcases Ep d with⟨_,h⟩|⟨_,_,h⟩|⟨_,_,h⟩
 .have:=h1 h;rw[h];omega
 .have:=h2 h;rw[h];omega
 .have:=h3 h;rw[h];omega
def am2{x:Iv}(ha:x.all=false)(h1:x.lo.iD)(h2:x.hi.iD)(h3:jI x.lo x.hi<=0):nV x=if lL x=0 then jK else jq x.lo (jl x.hi):=by
 unfold nV;by_cases hs:lL x=0
 .rw [bA hs,bA hs]
 .rw [bw hs,bw hs];obtain⟨k,ka,kb⟩:∃ k:Int,k<=x.lo.e/\k<=x.hi.e:=⟨min x.lo.e x.hi.e,aI,aI⟩
  have aL:oo x.lo k:=.inr ka;have aH:oo x.hi k:=.inr kb;have aN:oo (jl x.hi) k:=GH aH;have aA:oo (mG x.lo) k:=aL;have aB:oo (mG x.hi) k:=aH;have hle:=(pD aL aH).1 h3;have n1:=Jn (d:=x.hi) k;have n2:=My x.lo k;have n3:=My x.hi k;have sL:=ac3 (d:=x.lo) k;have sH:=ac3 (d:=x.hi) k;by_cases hp:0<x.lo.jB
  .have YS:=sL.1.1 hp;have e1:=UO h1.canon (k:=k) aI;rw[aap (ua h1) (ua h2) h1 ((pD aL aA).2 aI) ((pD aL aB).2 aI)<|.inl e1.symm];exact(Ml h1 (ru h2) h1 (Ci _) ((pD aN aL).2 aI)<|.inl rfl).symm
  .have hn:x.hi.jB<0:=by
    apply cF;intro hn;unfold lL at hs;rw[ha,bw aK,bw hp,bw hn]at hs;exact hs rfl
   have A5:=sH.2.1 hn;have e1:=UP h2.canon (k:=k) aI;rw[aap (ua h1) (ua h2) (ru h2) ((pD aN aA).2 aI) ((pD aN aB).2 aI)<|.inr e1.symm];exact(Ml h1 (ru h2) (ru h2) ((pD aL aN).2 aI) (Ci _)<|.inr rfl).symm
def pR{a b:Dy}{p:Nat}{up:Bool}(hp:1<=p:=by omega)(iJ:p<=4096:=by omega):(lj a b p up).iD:=by
 unfold lj;split
 .exact ri
 .exact nj _ _ _ _ _ _ hp iJ
def aaq(a:Dy):jv a a=a:=by unfold jv;split<;>rfl
def aan(a:Dy):jq a a=a:=by unfold jq;split<;>rfl
end Go.Proofs.YtbbefgegdllpmaaGreatDoor.Fp
namespace Go.Proofs.YtbbefgegdllpmaaGreatDoor
open Go.RowKit Fp Pu
def abU(d:Dy)(p:Nat)(up:Bool)(h1:(iB d.m).length<=2900)(lG:-200000<=d.e)(kW:d.e<=200000)(iU:8<=p)(iJ:p<=512):iA 185 [iF d,iP p,bP up]<|.iK [iF<|kt d p up,iP<|kS d p up]:=
 iM (af [.c<|MM d.neg d.m d.e false p up])
def F2(a b:Dy)(p:Nat)(ha:a.iD)(hb:b.iD)(iU:8<=p:=by omega)(iJ:p<=512:=by omega):iA 149 [iF a,iF b,iP p]<|iP 0:=
 iM (af [.c<|F5 a aJ,.c<|F5 b aJ,.c<|aqc (p:Int),ah 16 (mH (p:Int))<|sC.2 ⟨aI,aI⟩])
section
variable(a b:Dy)(p:Nat)(up:Bool)(ha:a.iD)(hb:b.iD)
def abT(iU:8<=p)(iJ:p<=512):iA 129 [iF a,iF b,iP p,bP up]<|.iK [iF<|kt (jh a b) p up,iP<|kS (jh a b) p up]:=by
 have hx:=arP ha hb;exact iM<|af [ag [iF a,iF b,iP p]<|F2 _ _ _ aJ aJ,ai 16 ((0:Int) != 0) aK,.c<|acf a b (Fp.Dy.iD.rY aJ)<|Fp.Dy.iD.rY aJ,ag [iF<|jh a b,iP p,bP up]<|abU _ _ _ hx.1 hx.2.1 hx.2.2 aI aI]
def CA(iU:8<=p:=by omega)(iJ:p<=512:=by omega):iA 131 [iF a,iF b,iP p,bP up]<|.iK [iF<|kt (mJ a b) p up,iP<|kS (mJ a b) p up]:=by
 have hx:=aow ha hb;exact iM<|af [ag [iF a,iF b,iP p]<|F2 _ _ _ aJ aJ,ai 16 ((0:Int) != 0) aK,.c<|aqf a b (Fp.Dy.iD.rY aJ)<|Fp.Dy.iD.rY aJ,ag [iF<|mJ a b,iP p,bP up]<|abU _ _ _ hx.1 hx.2.1 hx.2.2 aI aI]
def Cz(b0:b.m≠0)(iU:8<=p:=by omega)(iJ:p<=512:=by omega):iA 134 [iF a,iF b,iP p,bP up]<|.iK [iF<|lj a b p up,iP<|nZ a b p up]:=by
 by_cases a0:a.m=0
 .have e1:lj a b p up=jK/\nZ a b p up=0:=by unfold lj nZ;rw[bA a0,bA a0];exact⟨rfl,rfl⟩
  exact iM<|ae [ag [iF a,iF b,iP p]<|F2 _ _ _ aJ aJ,ai 19 ((0:Int) != 0) aK,ai 25 (((iB b.m).length:Int)==0)<|nK<|pF b0,ah 30 (((iB a.m).length:Int)==0)<|sA<|oO.2 a0,.o 31 (.e tz:aj (.agg av)<|iF jK)]<|rQ (.iK [iF jK,iP 0]) (.iK [iF<|lj a b p up,iP<|nZ a b p up])<|by rw[e1.1,e1.2]
 .have va:=ha.iB;have vb:=hb.iB;have xa:=ha.exp;have xb:=hb.exp;have ra:=ha.range.resolve_left a0;have rb:=hb.range.resolve_left b0;have pa:=og a0;have pb:=og b0;have hK:kQ a b p 2=p+2+iE b.m-iE a.m:=rfl;have bs:=rJ a0<|kQ a b p 2;have z1:(iB<|a.m*2^kQ a b p 2).length<=2900:=nJ;have z2:(iB<|a.m*2^kQ a b p 2/b.m).length<=2900:=nJ (by have:=ub<|cM (a.m*2^kQ a b p 2) b.m;omega);have z3:(iB<|a.m*2^kQ a b p 2%b.m).length<=2900:=nJ (by have:=ub<|dU<|bQ (a.m*2^kQ a b p 2)<|ep b0;omega);have qi:decide (0<(iE<|a.m*2^kQ a b p 2%b.m:Int))=decide (a.m*2^kQ a b p 2%b.m≠0):=by
   by_cases h:a.m*2^kQ a b p 2%b.m=0
   .rw [h,tE];rfl
   .have:=og h;rw[bC h,bC aI]
  exact iM<|ae [ag [iF a,iF b,iP p]<|F2 _ _ _ aJ aJ,ai 19 ((0:Int) != 0) aK,ai 25 (((iB b.m).length:Int)==0)<|nK<|pF b0,ai 30 (((iB a.m).length:Int)==0)<|nK<|pF a0,iL<|(p:Int)+2,.c<|Bp b.m,iL<|((p:Int)+2)+(iE b.m:Int),.c<|Bp a.m,iL<|(((p:Int)+2)+(iE b.m:Int))-(iE a.m:Int),.o 42<|ar (if((((p:Int)+2)+(iE b.m:Int))-(iE a.m:Int))>0 then((((p:Int)+2)+(iE b.m:Int))-(iE a.m:Int))else 0) (kQ a b p 2:Int) aU,.c<|F1 a.m<|kQ a b p 2,.c<|ao7 (a.m*2^(kQ a b p 2)) b.m aI aI aI,iL<|a.e-b.e,iL<|(a.e-b.e)-(kQ a b p 2:Int),.c<|Bp<|(a.m*2^(kQ a b p 2))%b.m,.c<|MM (! (a.neg==b.neg)) ((a.m*2^(kQ a b p 2))/b.m) ((a.e-b.e)-(kQ a b p 2:Int)) (decide (0<(iE<|(a.m*2^(kQ a b p 2))%b.m:Int))) p up]<|rQ (.iK [iF<|j9 (!(a.neg==b.neg)) ((a.m*2^(kQ a b p 2))/b.m) ((a.e-b.e)-(kQ a b p 2:Int)) (decide (0<(iE<|(a.m*2^(kQ a b p 2))%b.m:Int))) p up,iP<|jW (!(a.neg==b.neg)) ((a.m*2^(kQ a b p 2))/b.m) ((a.e-b.e)-(kQ a b p 2:Int)) (decide (0<(iE<|(a.m*2^(kQ a b p 2))%b.m:Int))) p up]) (.iK [iF<|lj a b p up,iP<|nZ a b p up])<|by unfold lj nZ;rw[bw a0,bw a0,<-qi];rfl
end
abbrev Sq(x:Iv)(y:Iv)(p):=jv (kt (mJ x.lo y.lo) p false)<|kt (mJ x.lo y.lo) p false
abbrev Sr(x:Iv)(y:Iv)(p):=jq (kt (mJ x.lo y.lo) p true)<|kt (mJ x.lo y.lo) p true
def JA(p:Int):iA 97 [iP p]<|bP<|mH p:=
 iM (.w (8<=p)
  (λk1=>ae [tB 4<|bC k1]<|rQ (bP<|decide (p<=512)) (bP<|mH p)<|by simp[mH,k1])
  (λk1=>ae [tB 4<|bE k1]<|rQ (bP false) (bP<|mH p)<|by simp[mH,k1]))
def po : iA 86 []<|iC iH:=
 iM (af [.o 1 (.e J0:aj (.agg [bP false,.v<|.slice none 0 0,iP 0,bP false,.v<|.slice none 0 0,iP 0,bP true])<|iC iH)])
def Ek(d:Dy):iA 80 [iF d]<|iC<|mT d:=
 iM (.nil)
def abZ : iA 190 [iF jK]<|bP true:=
 iM (af [ai 4 jK.neg rfl,ah 10 (((iB jK.m).length:Int)==0)<|sA<|oO.2 rfl,ah 15 (jK.e==0) rfl])
def apJ(x:Iv)(hx:x.iD):iA 136 [iC x]<|bP true:=by
 by_cases lp:x.all=true
 .obtain ⟨h1,h2⟩:=Rt hx lp;exact iM<|af [ah 4 x.all lp,.c (by rw[h1];exact abZ:iA 190 [iF x.lo]<|bP true),.c (by rw[h2];exact abZ:iA 190 [iF x.hi]<|bP true)]
 .replace lp:x.all=false:=by simpa using lp
  obtain⟨h1,h2,h3⟩:=qs hx lp;exact iM<|af [ai 4 x.all lp,.c<|F5 x.lo aJ,.c<|F5 x.hi aJ,.c<|JF x.lo x.hi (Fp.Dy.iD.rY aJ)<|Fp.Dy.iD.rY aJ,tB 27<|bC h3]
def Ah(x:Iv)(hx:x.iD):iA 85 [iC x]<|bP<|!x.all:=
 iM (af [ag [iC x]<|apJ _ aJ])
def Su(lo hi:Dy)(e f:Int):iA 87 [iF lo,iP e,iF hi,iP f]<|iC<|ns lo e hi f:=
 iM (.w (e=0)
  (λk1=>ae [tB 10<|bt k1]<|.w (f=0)
   (λk2=>ae [tB 13<|bt k2]<|rQ (iC<|Iv.mk lo hi false) (iC<|ns lo e hi f)<|by unfold ns;simp[k1,k2];try rfl)
   (λk2=>ae [tB 13<|bu k2,ag [] po]<|rQ (iC iH) (iC<|ns lo e hi f)<|by unfold ns;simp[k1,k2]))
  (λk1=>ae [tB 10<|bu k1,ag [] po]<|rQ (iC iH) (iC<|ns lo e hi f)<|by unfold ns;simp[k1]))
def r8(x y:Iv)(p:Nat)(hx:x.iD)(hy:y.iD)(iU:8<=p:=by omega)(iJ:p<=512:=by omega):iA 81 [iC x,iC y,iP p]<|iC<|iZ x y p:=
 iM (ae [ag [iP p]<|JA _,ah 12 (mH (p:Int))<|sC.2 ⟨aI,aI⟩,ag [iC x]<|Ah _ aJ]<|.w (x.all=true)
  (λk1=>ae [tB 16<|wV k1,ag [] po]<|rQ (iC iH) (iC<|iZ x y p)<|by unfold iZ;simp[k1])
  (λk1=>by
   have nE:=qs hx<|bn k1;have v1:=nE.1;have v2:=nE.2.1;have v3:=nE.2.2;exact ae [tB 16<|wU<|bn k1,ag [iC y]<|Ah _ aJ]<|.w (y.all=true)
    (λk2=>ae [tB 21<|wV k2,ag [] po]<|rQ (iC iH) (iC<|iZ x y p)<|by unfold iZ;simp[k1,k2])
    (λk2=>by
     have nE:=qs hy<|bn k2;have v4:=nE.1;have v5:=nE.2.1;have v6:=nE.2.2;exact ae [tB 21<|wU<|bn k2,.c<|abT x.lo y.lo p false aJ aJ aI aI,.c<|abT x.hi y.hi p true aJ aJ aI aI,ag [iF<|kt (jh x.lo y.lo) p false,iP<|kS (jh x.lo y.lo) p false,iF<|kt (jh x.hi y.hi) p true,iP<|kS (jh x.hi y.hi) p true]<|Su _ _ _ _]<|rQ (iC<|ns (kt (jh x.lo y.lo) p false) (kS (jh x.lo y.lo) p false) (kt (jh x.hi y.hi) p true)<|kS (jh x.hi y.hi) p true) (iC<|iZ x y p)<|by unfold iZ;simp[k1,k2])))
def yn(x:Iv)(hx:x.iD):iA 139 [iC x]<|iC<|lg x:=
 iM (ae [ag [iC x]<|Ah _ aJ]<|.w (x.all=true)
  (λk1=>ae [tB 4<|wV k1,ag [] po]<|rQ (iC iH) (iC<|lg x)<|by unfold lg;simp[k1])
  (λk1=>by
   have nE:=qs hx<|bn k1;have v1:=nE.1;have v2:=nE.2.1;have v3:=nE.2.2;exact ae [tB 4<|wU<|bn k1,.c<|Br x.hi,.c<|Br x.lo]<|rQ (iC<|Iv.mk (jl x.hi) (jl x.lo) false) (iC<|lg x)<|by unfold lg;simp[k1];try rfl))
def JC(x y:Iv)(p:Nat)(hx:x.iD)(hy:y.iD)(iU:8<=p:=by omega)(iJ:p<=512:=by omega):iA 89 [iC x,iC y,iP p]<|iC<|jP x y p:=
 iM (af [ag [iC y]<|yn _ aJ,ag [iC x,iC<|lg y,iP p]<|r8 _ _ _ aJ<|nO aJ])
section
variable(a b:Dy)(ha:a.iD)(hb:b.iD)
def CB:iA 132 [iF a,iF b]<|iF<|jv a b:=by
 have hc:=AN a b;exact iM (ae [.c<|JF a b (Fp.Dy.iD.rY aJ)<|Fp.Dy.iD.rY aJ]<|.w ((jI a b)<=0)
  (λk1=>ae [tB 8<|bC k1]<|rQ (iF a) (iF<|jv a b)<|by unfold jv;rw[bw aI])
  (λk1=>ae [tB 8<|bE k1]<|rQ (iF b) (iF<|jv a b)<|by unfold jv;rw[bA aI]))
def y8:iA 133 [iF a,iF b]<|iF<|jq a b:=by
 have hc:=AN a b;exact iM (ae [.c<|JF a b (Fp.Dy.iD.rY aJ)<|Fp.Dy.iD.rY aJ]<|.w (0<=(jI a b))
  (λk1=>ae [tB 8<|bC k1]<|rQ (iF a) (iF<|jq a b)<|by unfold jq;rw[bw aI])
  (λk1=>ae [tB 8<|bE k1]<|rQ (iF b) (iF<|jq a b)<|by unfold jq;rw[bA aI]))
end
section
variable(x:Iv)(hx:x.iD)
def JB:iA 84 [iC x]<|iP<|lL x:=
 iM (ae [ag [iC x]<|Ah _ aJ]<|.w (x.all=true)
  (λk1=>ae [tB 4<|wV k1]<|rQ (iP 0) (iP<|lL x)<|by unfold lL;simp[k1])
  (λk1=>by
   have nE:=qs hx<|bn k1;have v1:=nE.1;have v2:=nE.2.1;have v3:=nE.2.2;exact ae [tB 4<|wU<|bn k1,.c<|JH x.lo]<|.w (0<(Dy.jB x.lo))
    (λk2=>ae [tB 9<|bC k2]<|rQ (iP 1) (iP<|lL x)<|by unfold lL;simp[k1,k2])
    (λk2=>ae [tB 9<|bE k2,.c<|JH x.hi]<|.w ((Dy.jB x.hi)<0)
     (λk3=>ae [tB 13<|bC k3]<|rQ (iP (-1)) (iP<|lL x)<|by unfold lL;simp[k1,k2,k3])
     (λk3=>ae [tB 13<|bE k3]<|rQ (iP 0) (iP<|lL x)<|by unfold lL;simp[k1,k2,k3]))))
def Sv(lp:x.all=false):iA 138 [iC x]<|iF<|mB x:=by
 obtain⟨v1,v2,v3⟩:=qs hx lp;exact iM<|ae [.c<|Br x.lo,ag [iF<|jl x.lo,iF x.hi]<|y8 _ _ (ru aJ) aJ]<|rQ (iF<|jq (jl x.lo) x.hi) (iF<|mB x)<|by rw[amV v1 v2 v3]
def apF(lp:x.all=false):iA 137 [iC x]<|iF<|nV x:=by
 obtain⟨v1,v2,v3⟩:=qs hx lp;have hm:=am2 lp v1 v2 v3;exact iM (ae [ag [iC x]<|JB _ aJ]<|.w ((lL x)=0)
  (λk1=>ae [tB 5<|bl k1,.o 6 (.e tz:aj (.agg av)<|iF jK)]<|rQ (iF jK) (iF<|nV x)<|by rw[hm,bA k1])
  (λk1=>ae [tB 5<|bk k1,.c<|Br x.hi,ag [iF x.lo,iF<|jl x.hi]<|y8 _ _ aJ<|ru aJ]<|rQ (iF<|jq x.lo<|jl x.hi) (iF<|nV x)<|by rw[hm,bw k1]))
def MO:iA 88 [iC x]<|iC<|iW x:=
 iM (ae [ag [iC x]<|Ah _ aJ]<|.w (x.all=true)
  (λk1=>ae [tB 4<|wV k1,ag [] po]<|rQ (iC iH) (iC<|iW x)<|by unfold iW;simp[k1])
  (λk1=>by
   have nE:=qs hx<|bn k1;have v1:=nE.1;have v2:=nE.2.1;have v3:=nE.2.2;exact ae [tB 4<|wU<|bn k1,ag [iC x]<|apF _ aJ<|bn aJ,ag [iC x]<|Sv _ aJ<|bn aJ]<|rQ (iC<|Iv.mk (nV x) (mB x) false) (iC<|iW x)<|by unfold iW;simp[k1];try rfl))
end
def abY(x y:Iv):iA 130 [iC x,iC y]<|.sl true 4 6 λi_ j_=>(ke x.lo++ke y.lo++ke x.lo++ke y.hi++ke x.hi++ke y.lo++ke x.hi++ke y.hi).getD (i_*6+j_)<|.v<|.bool false:=
 iM (.nil)
section
variable(x y:Iv)(p:Nat)(hx:x.iD)(hy:y.iD)
def tU(iU:8<=p:=by omega)(iJ:p<=512:=by omega):iA 82 [iC x,iC y,iP p]<|iC<|iO x y p:=
 iM (ae [ag [iP p]<|JA _,ah 15 (mH (p:Int))<|sC.2 ⟨aI,aI⟩,ag [iC x]<|Ah _ aJ]<|.w (x.all=true)
  (λk1=>ae [tB 19<|wV k1,ag [] po]<|rQ (iC iH) (iC<|iO x y p)<|by unfold iO;simp[k1])
  (λk1=>by
   have nE:=qs hx<|bn k1;have v1:=nE.1;have v2:=nE.2.1;have v3:=nE.2.2;exact ae [tB 19<|wU<|bn k1,ag [iC y]<|Ah _ aJ]<|.w (y.all=true)
    (λk2=>ae [tB 24<|wV k2,ag [] po]<|rQ (iC iH) (iC<|iO x y p)<|by unfold iO;simp[k1,k2])
    (λk2=>by
     have nE:=qs hy<|bn k2;have v4:=nE.1;have v5:=nE.2.1;have v6:=nE.2.2;exact ae [tB 24<|wU<|bn k2,ag [iC x,iC y]<|abY _ _,.u 70,ah 32 (decide ((0:Int)<4)) aK,iX 0 4,iX 0 2,iX 0 4,
      iX 1 2,.c<|CA x.lo y.lo p false aJ aJ,iX 0 4,iX 0 2,iX 0 4,iX 1 2,.c<|CA x.lo y.lo p true aJ aJ]<|.w ((kS (mJ x.lo y.lo) p false)=0)
      (λk3=>ae [tB 66<|bt k3]<|.w ((kS (mJ x.lo y.lo) p true)=0)
       (λk4=>ae [tB 69<|bt k4,ah 73 ((0:Int)==0) aK,ag [iF<|kt (mJ x.lo y.lo) p false,iF<|kt (mJ x.lo y.lo) p false]<|CB _ _ (nj _ _ _ _ _ _)<|nj _ _ _ _ _ _,ag [iF<|kt (mJ x.lo y.lo) p true,iF<|kt (mJ x.lo y.lo) p true]<|y8 _ _ (nj _ _ _ _ _ _)<|nj _ _ _ _ _ _,iL<|0+1,.k [9,69,68,8,7,6,2] [8,6],ah 32 (decide (((0+1):Int)<4)) aK,iX (0+1) 4,iX 0 2,iX (0+1) 4,iX 1 2,.c<|CA x.lo y.hi p false aJ aJ,iX (0+1) 4,iX 0 2,iX (0+1) 4,iX 1 2,.c<|CA x.lo y.hi p true aJ aJ]<|.w ((kS (mJ x.lo y.hi) p false)=0)
        (λk5=>ae [tB 66<|bt k5]<|.w ((kS (mJ x.lo y.hi) p true)=0)
         (λk6=>ae [tB 69<|bt k6,ai 73 (((0+1):Int)==0) aK,ag [iF<|Sq x y p,iF<|kt (mJ x.lo y.hi) p false]<|CB _ _ (rX (nj _ _ _ _ _ _)<|nj _ _ _ _ _ _)<|nj _ _ _ _ _ _,ag [iF<|Sr x y p,iF<|kt (mJ x.lo y.hi) p true]<|y8 _ _ (qM (nj _ _ _ _ _ _)<|nj _ _ _ _ _ _)<|nj _ _ _ _ _ _,
          iL ((0+1)+1),.k [9,69,68,8,7,6,2] [8,6],ah 32 (decide ((((0+1)+1):Int)<4)) aK,iX ((0+1)+1) 4,iX 0 2,iX ((0+1)+1) 4,
          iX 1 2,.c<|CA x.hi y.lo p false aJ aJ,iX ((0+1)+1) 4,iX 0 2,iX ((0+1)+1) 4,iX 1 2,.c<|CA x.hi y.lo p true aJ aJ]<|.w ((kS (mJ x.hi y.lo) p false)=0)
          (λk7=>ae [tB 66<|bt k7]<|.w ((kS (mJ x.hi y.lo) p true)=0)
           (λk8=>ae [tB 69<|bt k8,ai 73 ((((0+1)+1):Int)==0) aK,ag [iF<|jv (Sq x y p)<|kt (mJ x.lo y.hi) p false,iF<|kt (mJ x.hi y.lo) p false]<|CB _ _ (rX (rX (nj _ _ _ _ _ _)<|nj _ _ _ _ _ _)<|nj _ _ _ _ _ _)<|nj _ _ _ _ _ _,ag [iF<|jq (Sr x y p)<|kt (mJ x.lo y.hi) p true,iF<|kt (mJ x.hi y.lo) p true]<|y8 _ _ (qM (qM (nj _ _ _ _ _ _)<|nj _ _ _ _ _ _)<|nj _ _ _ _ _ _)<|nj _ _ _ _ _ _,
            iL (((0+1)+1)+1),.k [9,69,68,8,7,6,2] [8,6],ah 32 (decide (((((0+1)+1)+1):Int)<4)) aK,iX (((0+1)+1)+1) 4,iX 0 2,
            iX (((0+1)+1)+1) 4,iX 1 2,.c<|CA x.hi y.hi p false aJ aJ,iX (((0+1)+1)+1) 4,iX 0 2,
            iX (((0+1)+1)+1) 4,iX 1 2,.c<|CA x.hi y.hi p true aJ aJ]<|.w ((kS (mJ x.hi y.hi) p false)=0)
            (λk9=>ae [tB 66<|bt k9]<|.w ((kS (mJ x.hi y.hi) p true)=0)
             (λk10=>ae [tB 69<|bt k10,ai 73 (((((0+1)+1)+1):Int)==0) aK,ag [iF<|jv (jv (Sq x y p)<|kt (mJ x.lo y.hi) p false)<|kt (mJ x.hi y.lo) p false,iF<|kt (mJ x.hi y.hi) p false]<|CB _ _ (rX (rX (rX (nj _ _ _ _ _ _)<|nj _ _ _ _ _ _)<|nj _ _ _ _ _ _)<|nj _ _ _ _ _ _)<|nj _ _ _ _ _ _,ag [iF<|jq (jq (Sr x y p)<|kt (mJ x.lo y.hi) p true)<|kt (mJ x.hi y.lo) p true,iF<|kt (mJ x.hi y.hi) p true]<|y8 _ _ (qM (qM (qM (nj _ _ _ _ _ _)<|nj _ _ _ _ _ _)<|nj _ _ _ _ _ _)<|nj _ _ _ _ _ _)<|nj _ _ _ _ _ _,
              iL ((((0+1)+1)+1)+1),.k [9,69,68,8,7,6,2] [8,6],ai 32 (decide ((((((0+1)+1)+1)+1):Int)<4)) aK]<|rR (iC<|iO x y p) (by
      exact .jm (by
       unfold iO;rw[bw<|by simp[k1,k2]];rw[show ng _ _ x y=_ from bA ⟨⟨k3,k4⟩,⟨k5,k6⟩,⟨k7,k8⟩,⟨k9,k10⟩⟩];rw[aaq,aan];try rfl):E.le (iC<|Iv.mk (jv (jv (jv (jv (kt (mJ x.lo y.lo) p false)<|kt (mJ x.lo y.lo) p false)<|kt (mJ x.lo y.hi) p false)<|kt (mJ x.hi y.lo) p false)<|kt (mJ x.hi y.hi) p false) (jq (jq (jq (jq (kt (mJ x.lo y.lo) p true)<|kt (mJ x.lo y.lo) p true)<|kt (mJ x.lo y.hi) p true)<|kt (mJ x.hi y.lo) p true)<|kt (mJ x.hi y.hi) p true) false)<|iC<|iO x y p))
             (λk10=>ae [tB 69<|bu k10,ag [] po]<|rR (iC<|iO x y p) (by
      exact .jm (by
       unfold iO;rw[bw<|by simp[k1,k2]];rw[show ng _ _ x y=_ from bw<|by rintro⟨⟨_,_⟩,⟨_,_⟩,⟨_,_⟩,⟨_,q⟩⟩;exact k10 q]):E.le (iC iH)<|iC<|iO x y p)))
            (λk9=>ae [tB 66<|bu k9,ag [] po]<|rR (iC<|iO x y p) (by
      exact .jm (by
       unfold iO;rw[bw<|by simp[k1,k2]];rw[show ng _ _ x y=_ from bw<|by rintro⟨⟨_,_⟩,⟨_,_⟩,⟨_,_⟩,⟨q,_⟩⟩;exact k9 q]):E.le (iC iH)<|iC<|iO x y p)))
           (λk8=>ae [tB 69<|bu k8,ag [] po]<|rR (iC<|iO x y p) (by
      exact .jm (by
       unfold iO;rw[bw<|by simp[k1,k2]];rw[show ng _ _ x y=_ from bw<|by rintro⟨⟨_,_⟩,⟨_,_⟩,⟨_,q⟩,⟨_,_⟩⟩;exact k8 q]):E.le (iC iH)<|iC<|iO x y p)))
          (λk7=>ae [tB 66<|bu k7,ag [] po]<|rR (iC<|iO x y p) (by
      exact .jm (by
       unfold iO;rw[bw<|by simp[k1,k2]];rw[show ng _ _ x y=_ from bw<|by rintro⟨⟨_,_⟩,⟨_,_⟩,⟨q,_⟩,⟨_,_⟩⟩;exact k7 q]):E.le (iC iH)<|iC<|iO x y p)))
         (λk6=>ae [tB 69<|bu k6,ag [] po]<|rR (iC<|iO x y p) (by
      exact .jm (by
       unfold iO;rw[bw<|by simp[k1,k2]];rw[show ng _ _ x y=_ from bw<|by rintro⟨⟨_,_⟩,⟨_,q⟩,⟨_,_⟩,⟨_,_⟩⟩;exact k6 q]):E.le (iC iH)<|iC<|iO x y p)))
        (λk5=>ae [tB 66<|bu k5,ag [] po]<|rR (iC<|iO x y p) (by
      exact .jm (by
       unfold iO;rw[bw<|by simp[k1,k2]];rw[show ng _ _ x y=_ from bw<|by rintro⟨⟨_,_⟩,⟨q,_⟩,⟨_,_⟩,⟨_,_⟩⟩;exact k5 q]):E.le (iC iH)<|iC<|iO x y p)))
       (λk4=>ae [tB 69<|bu k4,ag [] po]<|rR (iC<|iO x y p) (by
      exact .jm (by
       unfold iO;rw[bw<|by simp[k1,k2]];rw[show ng _ _ x y=_ from bw<|by rintro⟨⟨_,q⟩,⟨_,_⟩,⟨_,_⟩,⟨_,_⟩⟩;exact k4 q]):E.le (iC iH)<|iC<|iO x y p)))
      (λk3=>ae [tB 66<|bu k3,ag [] po]<|rR (iC<|iO x y p) (by
      exact .jm (by
       unfold iO;rw[bw<|by simp[k1,k2]];rw[show ng _ _ x y=_ from bw<|by rintro⟨⟨q,_⟩,⟨_,_⟩,⟨_,_⟩,⟨_,_⟩⟩;exact k3 q]):E.le (iC iH)<|iC<|iO x y p)))))
def sV(iU:8<=p:=by omega)(iJ:p<=512:=by omega):iA 83 [iC x,iC y,iP p]<|iC<|jo x y p:=
 iM (ae [ag [iP p]<|JA _,ah 15 (mH (p:Int))<|sC.2 ⟨aI,aI⟩,ag [iC x]<|Ah _ aJ]<|.w (x.all=true)
  (λk1=>ae [tB 19<|wV k1,ag [] po]<|rQ (iC iH) (iC<|jo x y p)<|by unfold jo;simp[k1])
  (λk1=>by
   have nE:=qs hx<|bn k1;have v1:=nE.1;have v2:=nE.2.1;have v3:=nE.2.2;exact ae [tB 19<|wU<|bn k1,ag [iC y]<|Ah _ aJ]<|.w (y.all=true)
    (λk2=>ae [tB 24<|wV k2,ag [] po]<|rQ (iC iH) (iC<|jo x y p)<|by unfold jo;simp[k1,k2])
    (λk2=>by
     have nE:=qs hy<|bn k2;have v4:=nE.1;have v5:=nE.2.1;have v6:=nE.2.2;exact ae [tB 24<|wU<|bn k2,ag [iC y]<|JB _ aJ]<|.w ((lL y)=0)
      (λk3=>ae [tB 30<|bl k3,ag [] po]<|rQ (iC iH) (iC<|jo x y p)<|by unfold jo;simp[k1,k2,k3])
      (λk3=>by
       have y0:=ac0 hy k3;exact ae [tB 30<|bk k3,ag [iC x,iC y]<|abY _ _,.u 70,ah 37 (decide ((0:Int)<4)) aK,iX 0 4,iX 0 2,iX 0 4,iX 1 2,.c<|Cz x.lo y.lo p false aJ aJ y0.1,iX 0 4,iX 0 2,iX 0 4,iX 1 2,.c<|Cz x.lo y.lo p true aJ aJ y0.1]<|.w ((nZ x.lo y.lo p false)=0)
        (λk4=>ae [tB 71<|bt k4]<|.w ((nZ x.lo y.lo p true)=0)
         (λk5=>ae [tB 74<|bt k5,ah 78 ((0:Int)==0) aK,ag [iF<|lj x.lo y.lo p false,iF<|lj x.lo y.lo p false]<|CB _ _ (pR)<|pR,ag [iF<|lj x.lo y.lo p true,iF<|lj x.lo y.lo p true]<|y8 _ _ (pR)<|pR,iL<|0+1,.k [9,74,73,8,7,6,2] [8,6],ah 37 (decide (((0+1):Int)<4)) aK,iX (0+1) 4,iX 0 2,iX (0+1) 4,iX 1 2,.c<|Cz x.lo y.hi p false aJ aJ y0.2,iX (0+1) 4,iX 0 2,iX (0+1) 4,iX 1 2,.c<|Cz x.lo y.hi p true aJ aJ y0.2]<|.w ((nZ x.lo y.hi p false)=0)
          (λk6=>ae [tB 71<|bt k6]<|.w ((nZ x.lo y.hi p true)=0)
           (λk7=>ae [tB 74<|bt k7,ai 78 (((0+1):Int)==0) aK,ag [iF<|jv (lj x.lo y.lo p false)<|lj x.lo y.lo p false,iF<|lj x.lo y.hi p false]<|CB _ _ (rX (pR)<|pR)<|pR,ag [iF<|jq (lj x.lo y.lo p true)<|lj x.lo y.lo p true,iF<|lj x.lo y.hi p true]<|y8 _ _ (qM (pR)<|pR)<|pR,
            iL ((0+1)+1),.k [9,74,73,8,7,6,2] [8,6],ah 37 (decide ((((0+1)+1):Int)<4)) aK,iX ((0+1)+1) 4,iX 0 2,iX ((0+1)+1) 4,
            iX 1 2,.c<|Cz x.hi y.lo p false aJ aJ y0.1,iX ((0+1)+1) 4,iX 0 2,iX ((0+1)+1) 4,iX 1 2,.c<|Cz x.hi y.lo p true aJ aJ y0.1]<|.w ((nZ x.hi y.lo p false)=0)
            (λk8=>ae [tB 71<|bt k8]<|.w ((nZ x.hi y.lo p true)=0)
             (λk9=>ae [tB 74<|bt k9,ai 78 ((((0+1)+1):Int)==0) aK,ag [iF<|jv (jv (lj x.lo y.lo p false)<|lj x.lo y.lo p false)<|lj x.lo y.hi p false,iF<|lj x.hi y.lo p false]<|CB _ _ (rX (rX (pR)<|pR)<|pR)<|pR,ag [iF<|jq (jq (lj x.lo y.lo p true)<|lj x.lo y.lo p true)<|lj x.lo y.hi p true,iF<|lj x.hi y.lo p true]<|y8 _ _ (qM (qM (pR)<|pR)<|pR)<|pR,
              iL (((0+1)+1)+1),.k [9,74,73,8,7,6,2] [8,6],ah 37 (decide (((((0+1)+1)+1):Int)<4)) aK,iX (((0+1)+1)+1) 4,iX 0 2,
              iX (((0+1)+1)+1) 4,iX 1 2,.c<|Cz x.hi y.hi p false aJ aJ y0.2,iX (((0+1)+1)+1) 4,iX 0 2,
              iX (((0+1)+1)+1) 4,iX 1 2,.c<|Cz x.hi y.hi p true aJ aJ y0.2]<|.w ((nZ x.hi y.hi p false)=0)
              (λk10=>ae [tB 71<|bt k10]<|.w ((nZ x.hi y.hi p true)=0)
               (λk11=>ae [tB 74<|bt k11,ai 78 (((((0+1)+1)+1):Int)==0) aK,ag [iF<|jv (jv (jv (lj x.lo y.lo p false)<|lj x.lo y.lo p false)<|lj x.lo y.hi p false)<|lj x.hi y.lo p false,iF<|lj x.hi y.hi p false]<|CB _ _ (rX (rX (rX (pR)<|pR)<|pR)<|pR)<|pR,ag [iF<|jq (jq (jq (lj x.lo y.lo p true)<|lj x.lo y.lo p true)<|lj x.lo y.hi p true)<|lj x.hi y.lo p true,iF<|lj x.hi y.hi p true]<|y8 _ _ (qM (qM (qM (pR)<|pR)<|pR)<|pR)<|pR,
                iL ((((0+1)+1)+1)+1),.k [9,74,73,8,7,6,2] [8,6],ai 37 (decide ((((((0+1)+1)+1)+1):Int)<4)) aK]<|rR (iC<|jo x y p) (by
      exact .jm (by
       unfold jo;rw[bw<|by simp[k1,k2,k3]];rw[show ng _ _ x y=_ from bA ⟨⟨k4,k5⟩,⟨k6,k7⟩,⟨k8,k9⟩,⟨k10,k11⟩⟩];rw[aaq,aan];try rfl):E.le (iC<|Iv.mk (jv (jv (jv (jv (lj x.lo y.lo p false)<|lj x.lo y.lo p false)<|lj x.lo y.hi p false)<|lj x.hi y.lo p false)<|lj x.hi y.hi p false) (jq (jq (jq (jq (lj x.lo y.lo p true)<|lj x.lo y.lo p true)<|lj x.lo y.hi p true)<|lj x.hi y.lo p true)<|lj x.hi y.hi p true) false)<|iC<|jo x y p))
               (λk11=>ae [tB 74<|bu k11,ag [] po]<|rR (iC<|jo x y p) (by
      exact .jm (by
       unfold jo;rw[bw<|by simp[k1,k2,k3]];rw[show ng _ _ x y=_ from bw<|by rintro⟨⟨_,_⟩,⟨_,_⟩,⟨_,_⟩,⟨_,q⟩⟩;exact k11 q]):E.le (iC iH)<|iC<|jo x y p)))
              (λk10=>ae [tB 71<|bu k10,ag [] po]<|rR (iC<|jo x y p) (by
      exact .jm (by
       unfold jo;rw[bw<|by simp[k1,k2,k3]];rw[show ng _ _ x y=_ from bw<|by rintro⟨⟨_,_⟩,⟨_,_⟩,⟨_,_⟩,⟨q,_⟩⟩;exact k10 q]):E.le (iC iH)<|iC<|jo x y p)))
             (λk9=>ae [tB 74<|bu k9,ag [] po]<|rR (iC<|jo x y p) (by
      exact .jm (by
       unfold jo;rw[bw<|by simp[k1,k2,k3]];rw[show ng _ _ x y=_ from bw<|by rintro⟨⟨_,_⟩,⟨_,_⟩,⟨_,q⟩,⟨_,_⟩⟩;exact k9 q]):E.le (iC iH)<|iC<|jo x y p)))
            (λk8=>ae [tB 71<|bu k8,ag [] po]<|rR (iC<|jo x y p) (by
      exact .jm (by
       unfold jo;rw[bw<|by simp[k1,k2,k3]];rw[show ng _ _ x y=_ from bw<|by rintro⟨⟨_,_⟩,⟨_,_⟩,⟨q,_⟩,⟨_,_⟩⟩;exact k8 q]):E.le (iC iH)<|iC<|jo x y p)))
           (λk7=>ae [tB 74<|bu k7,ag [] po]<|rR (iC<|jo x y p) (by
      exact .jm (by
       unfold jo;rw[bw<|by simp[k1,k2,k3]];rw[show ng _ _ x y=_ from bw<|by rintro⟨⟨_,_⟩,⟨_,q⟩,⟨_,_⟩,⟨_,_⟩⟩;exact k7 q]):E.le (iC iH)<|iC<|jo x y p)))
          (λk6=>ae [tB 71<|bu k6,ag [] po]<|rR (iC<|jo x y p) (by
      exact .jm (by
       unfold jo;rw[bw<|by simp[k1,k2,k3]];rw[show ng _ _ x y=_ from bw<|by rintro⟨⟨_,_⟩,⟨q,_⟩,⟨_,_⟩,⟨_,_⟩⟩;exact k6 q]):E.le (iC iH)<|iC<|jo x y p)))
         (λk5=>ae [tB 74<|bu k5,ag [] po]<|rR (iC<|jo x y p) (by
      exact .jm (by
       unfold jo;rw[bw<|by simp[k1,k2,k3]];rw[show ng _ _ x y=_ from bw<|by rintro⟨⟨_,q⟩,⟨_,_⟩,⟨_,_⟩,⟨_,_⟩⟩;exact k5 q]):E.le (iC iH)<|iC<|jo x y p)))
        (λk4=>ae [tB 71<|bu k4,ag [] po]<|rR (iC<|jo x y p) (by
      exact .jm (by
       unfold jo;rw[bw<|by simp[k1,k2,k3]];rw[show ng _ _ x y=_ from bw<|by rintro⟨⟨q,_⟩,⟨_,_⟩,⟨_,_⟩,⟨_,_⟩⟩;exact k4 q]):E.le (iC iH)<|iC<|jo x y p))))))
end
def aqq(d:Dy)(hd:d.iD->False)(h1:-10000000<=d.e)(h2:d.e<=10000000):iA 101 [iF d]<|bP false:=by
 rw[<-aiq];exact aqo d.raw ⟨lO _,by show -9223372036854775808<=d.e;omega,by show d.e<=9223372036854775807;omega⟩ false ⟨λh=>absurd h aK,λh=>absurd (show d.iD by have:=RD.Ok.valid h;rwa[Dy.apS]at this) λq=>hd q⟩
def abP(k:Int)(h1:-32768<=k)(h2:k<=32768):iA 102 [iP k]<|bP true:=
 iM (af [tT 4 ((-32768)<=k) aI,tT 7 (k<=32768) aI])
def abO(d:Dy)(hv:d.iD):iA 103 [iF d]<|.iK [iF d,iP 0]:=
 iM (af [.c<|F5 d hv])
def apj(d:Dy)(hv:d.iD->False)(h1:-10000000<=d.e)(h2:d.e<=10000000):iA 103 [iF d]<|.iK [iF jK,iP 9]:=
 iM (af [ag [iF d]<|aqq _ hv h1 h2,.o 7 (.e tz:aj (.agg av)<|iF jK)])
def abS(d:Dy)(k:Int)(hv:d.iD)(pB:-32768<=k)(tL:k<=32768):iA 55 [iF d,iP k]<|.iK [iF<|th d k,iP<|uC d k]:=by
 have hl:=hv.len;have he:=hv.exp;have Qv:iA 103 [iF<|canon d.neg d.m<|d.e+k]<|.iK [iF<|th d k,iP<|uC d k]:=by
  unfold th uC;by_cases h:oC<|canon d.neg d.m<|d.e+k
  .rw [bA h,bA h];exact abO _ ⟨sG _ _ _,h⟩
  .rw [bw h,bw h];have hb:=OP (lO d.m) (show(iB d.m).length<=256 by omega) d.neg (d.e+k) aI aI;rw[kE]at hb;exact apj _ (λhv=>h hv.range) aI aI 
 exact iM<|af [.c<|F5 d hv,ag [iP k]<|abP _ aI aI,iL<|d.e+k,.c<|CF d.neg d.m<|d.e+k,ag [iF<|canon d.neg d.m<|d.e+k] Qv]
def W0(d:Dy)(K:Nat)(y:Iv)(x:Nat):PS:=⟨57,true,[(7,.e<|iP ((x+1:Nat):Int)),(6,.box 6 0),(5,.box 5 0),(4,.box 4 0),(3,.e<|iP K),(2,.box 2 0)],[(6,.cells 38<|ju<|s6 y x),(5,.cells 38<|ju<|zM y x),(4,.cells 38<|ju y),(2,.cells 38 aw)]⟩
def W1(d:Dy)(K:Nat)(y:Iv)(x:Nat):PS:=⟨57,true,[(8,.e<|iP x),(5,.box 5 0),(3,.e<|iP K),(2,.box 2 0)],[(5,.cells 38<|ju<|yJ y x),(2,.cells 38 aw)]⟩
def CC(x:Iv)(k:Int)(hx:x.iD)(pB:-32768<=k:=by omega)(tL:k<=32768:=by omega):iA 42 [iC x,iP k]<|iC<|kI x k:=by
 obtain⟨w1,w2⟩:=hx.kA;exact iM (ae [.c<|Ah x aJ]<|.w (x.all=true)
  (λk1=>ae [tB 10<|wV k1,.c po]<|rQ (iC iH) (iC<|kI x k)<|by unfold kI;simp[k1])
  (λk1=>ae [tB 10<|wU<|bn k1,tF 14 (k<(-32768)) aI,tF 18 (32768<k) aI,.c<|abS x.lo k w1 aI aI,.c<|abS x.hi k w2 aI aI,.c<|Su (th x.lo k) (th x.hi k) (uC x.lo k)<|uC x.hi k]<|rQ (iC<|ns (th x.lo k) (uC x.lo k) (th x.hi k)<|uC x.hi k) (iC<|kI x k)<|by unfold kI;simp[k1]))
def CD(x:Iv)(p:Nat)(hx:x.iD)(iU:8<=p:=by omega)(iJ:p<=512:=by omega):iA 43 [iC x,iP p]<|iC<|iO (iW x) (iW x) p:=
 iM (af [.c<|MO x aJ,.c<|tU (iW x) (iW x) p (uK aJ)<|uK aJ])
def F3(n:Int)(h:n.natAbs<4294967296:=by omega):iA 140 [iP n]<|iC<|iT n:=
 iM (ae [.c<|F4 n,.c<|Ek<|kV n]<|rR (iC<|iT n) (.jm rfl:E.le (iC<|mT<|kV n)<|iC<|iT n))
def oQ(n:Int)(h:n.natAbs<4294967296:=by omega):iA 94 [iP n]<|iC<|iT n:=
 iM (ae [.c<|F4 n,.c<|Ek<|kV n]<|rR (iC<|iT n) (.jm rfl:E.le (iC<|mT<|kV n)<|iC<|iT n))
def apl(n:Int)(h1:-1000<=n)(h2:n<=1000):iA 226 [bP false,iG<|iB 1,iP n]<|.iK [iF<|ko n,iP 0]:=by
 have hv:=Bn h1 h2;exact iM<|af [ai 10 (decide (256<((iB 1).length:Int)))<|by rw[Mi];decide,.c<|abP n aI aI,.c<|CF false 1 n<|by rw[Mi];decide,.c<|abO (ko n) hv]
def Ej(n:Int)(h1:-1000<=n:=by omega)(h2:n<=1000:=by omega):iA 191 [iP n]<|iF<|ko n:=
 iM (af [.o 6 (.e wL:aj (.sl false 1 1 λi_ j_=>[.v<|.int .u32 1].getD (i_*1+j_)<|.v<|.bool false)<|iG<|iB 1),ag [bP false,iG<|iB 1,iP n]<|apl _ aI aI])
def Jx(d:Dy):iA 146 [iF d]<|iC ⟨jl d,d,false⟩:=
 iM (af [.c<|Br d])
def y6(x:Iv)(n:Int)(hx:x.iD)(ha:x.all=false)(h1:-1000<=n:=by omega)(h2:n<=1000:=by omega):iA 194 [iC x,iP n]<|bP<|decide (jI (mB x) (ko n)<0):=by
 have Iu:=RL hx.kA.1 hx.kA.2;have uX:=Bn h1 h2;exact iM<|af [.c<|Sv x hx ha,ag [iP n]<|Ej _,.c<|JF (mB x) (ko n) Iu.rY uX.rY]
section
variable(x y:Iv)(hx:x.iD)(hy:y.iD)
def ab0:iA 144 [iC x,iC y]<|iC<|iZ x y 320:=
 iM (af [.c<|r8 x y 320 aJ aJ])
def MQ:iA 143 [iC x,iC y]<|iC<|iO x y 320:=
 iM (af [.c<|tU x y 320 aJ aJ])
def ab1:iA 142 [iC x,iC y]<|iC<|jo x y 320:=
 iM (af [.c<|sV x y 320 aJ aJ])
end
def apK(x:Iv)(hx:x.iD):iA 145 [iC x]<|iC<|yC x:=
 iM (.w (x.all=true)
  (λk1=>ae [tB 5 k1]<|rQ (iC x) (iC<|yC x)<|by unfold yC;simp[k1])
  (λk1=>ae [tB 5<|bn k1,.c<|Sv x hx<|bn aJ,.c<|Br<|mB x]<|rQ (iC<|Iv.mk (jl<|mB x) (mB x) false) (iC<|yC x)<|by unfold yC;simp[k1]))
def apM(d:Dy)(h:d.m=0):iA 90 [iF d]<|iC<|iT 1:=
 iM (af [ah 12 (((iB d.m).length:Int)==0)<|sA<|oO.2 h,ag [iP 1]<|F3 _])
def apL(d:Dy)(hd:d.iD)(h:d.m≠0)(K:Nat)(hK:max 0 (d.jb+16)=(K:Int))(y:Iv)(hy:(kI (mT d)<|0-(K:Int))=y):iA 90 [iF d]<|iC<|yJ y K:=by
 have hT:=JT h;have xT:=hd.bits;have as3:=hd.exp;have vy:y.iD:=by rw[<-hy];exact rB (tS hd) _
 exact iM (af [ai 12 (((iB d.m).length:Int)==0)<|nK λq=>h<|oO.1 q,.c<|zf d hd.rY,iL<|(Dy.jb d)+16,.o 17<|ar (if((Dy.jb d)+16)>0 then((Dy.jb d)+16)else 0) K,.c<|Ek d,iL<|0-(K:Int),ag [iC<|mT d,iP<|0-(K:Int)]<|CC _ _<|tS hd,.o 22 (.e<|.jm<|by rw[hy]:aj (iC<|kI (mT d)<|0-(K:Int))<|iC y),ag [iP 1]<|F3 _,ag [iP 1]<|F3 _,.s (Sp.kj (W0 d K y) 0 20 aI (λx hx mr=>by
    exact jg (ae [tT 26 (((x+1:Nat):Int)<=20) aI,ag [iC<|s6 y x,iC y]<|MQ _ _ (Ho _ _) aJ,ag [iP ((x+1:Nat):Int)]<|F3 _,ag [iC<|iO (s6 y x) y 320,iC<|iT ((x+1:Nat):Int)]<|ab1 _ _ (ku _ _ aK aK)<|lY,ag [iC<|zM y x,iC<|jo (iO (s6 y x) y 320) (iT ((x+1:Nat):Int)) 320]<|ab0 _ _ (EZ _ _)<|pf _ _ aK aK,iL<|((x+1:Nat):Int)+1]<|.e<|af [.b 6<|.refl<|.cells 38<|ju<|s6 y<|x+1,.b 5<|.refl<|.cells 38<|ju<|zM y<|x+1]) aM)
  (λhx=>by
    exact jg (af [tF 26 (((20+1:Nat):Int)<=20) aI]) aM) aQ:ki 7 Tryz.f90 (W0 d K y 0) (.exit 0) ⟨57,true,[(6,.box 6 0),(5,.box 5 0),(4,.box 4 0),(3,.e<|iP K),(2,.box 2 0)],[(6,.cells 38<|ju<|s6 y 20),(5,.cells 38<|ju<|zM y 20),(4,.cells 38<|ju y),(2,.cells 38 aw)]⟩)<|af [.o 7<|ar 1 ((0+1:Nat):Int) aZ,.b 6<|.refl<|.cells 38<|ju<|s6 y 0,.b 5<|.refl<|.cells 38<|ju<|zM y 0],ag [iC<|s6 y 20,iC y]<|MQ _ _ (Ho _ _) aJ,ag [iP 21]<|F3 _,ag [iC<|iO (s6 y 20) y 320,iC<|iT 21]<|ab1 _ _ (ku _ _ aK aK)<|lY,ag [iP 2]<|F3 _,ag [iC<|jo (iO (s6 y 20) y 320) (iT 21) 320,iC<|iT 2]<|MQ _ _ (pf _ _ aK aK)<|lY,ag [iC<|iO (jo (iO (s6 y 20) y 320) (iT 21) 320) (iT 2) 320]<|apK _<|ku _ _ aK aK,ag [iC<|zM y 20,iC<|yC<|iO (jo (iO (s6 y 20) y 320) (iT 21) 320) (iT 2) 320]<|ab0 _ _ (EZ _ _)<|Ov<|ku _ _ aK aK,.s (Sp.kj (W1 d K y) 0 K aI (λx hx mr=>by
    exact jg (ae [tT 50 ((x:Int)<K) aI,ag [iC<|yJ y x,iC<|yJ y x]<|MQ _ _ (K6 _ _)<|K6 _ _,iL<|(x:Int)+1]<|.e<|af [.b 5<|.refl<|.cells 38<|ju<|yJ y<|x+1]) aM)
  (λhx=>by
    exact jg (af [tF 50 ((K:Int)<K) aI]) aM) aQ:ki 13 Tryz.f90 (W1 d K y 0) (.exit 2) ⟨57,true,[(5,.box 5 0),(2,.box 2 0)],[(5,.cells 38<|ju<|yJ y K),(2,.cells 38 aw)]⟩)<|af [.b 5<|.refl<|.cells 38<|ju<|yJ y 0]])
def UU(y:Iv)(p:Nat)(x:Nat):PS:=⟨41,true,[(8,.e<|iP ((2*x+3:Nat):Int)),(7,.box 7 0),(6,.box 6 0),(5,.box 5 0),(4,.box 4 0),(1,.e<|iP p)],[(7,.cells 38<|ju<|yB y p x),(6,.cells 38<|ju<|sr y p x),(5,.cells 38<|ju<|zD y p),(4,.cells 38 aw)]⟩
def GP{y:Iv}(hy:y.iD){p:Nat}(iU:1<=p)(iJ:p<=1000):∀ x,(sr y p x).iD
 | 0=>hy
 |x+1=>nO<|ku _ _ iU
def Kv{y:Iv}(hy:y.iD){p:Nat}(iU:1<=p)(iJ:p<=1000):∀ x,(yB y p x).iD
 | 0=>hy
 |x+1=>mn (Kv hy iU iJ x) (pf _ _ iU) iU 
def Kx{n:Int}(h1:-1000<=n:=by omega)(h2:n<=1000:=by omega):(Iv.mk (jl<|ko n) (ko n) false).iD:=by
 have hm:=Bn h1 h2;refine .inr ⟨rfl,ru hm,hm,?_⟩;show jI (jl<|ko n) (ko n)<=0;rw[qf,oX];have:0<=(ko n).q:=by
  have e:(ko n).q=P2 n:=by unfold ko;rw[qO];simp
  rw[e];exact bF<|nb n
 grind
def St(y:Iv)(p N:Nat)(R:Iv)(hy:y.iD)(iU:8<=p)(iJ:p<=512)(hN:N<=1000)(ok:Gz y p N R):iA 148 [iC y,iP p]<|iC R:=
 iM (ae [.c<|CD y p aJ,.s (Sp.kj (UU y p) 0 N aI (λx hx mr=>by
    have hw:=ok.go x mr;exact jg (ae [iL<|0-(p:Int),.c<|y6 (sr y p x) (0-(p:Int)) (GP hy aI aI _) hw.1,tB 17<|bE hw.2,.c<|tU (sr y p x) (zD y p) p (GP hy aI aI _)<|ku _ _,.c<|yn (iO (sr y p x) (zD y p) p)<|ku _ _,.c<|oQ ((2*x+3:Nat):Int),.c<|sV (lg<|iO (sr y p x) (zD y p) p) (iT ((2*x+3:Nat):Int)) p (nO<|ku _ _)<|lY,.c<|r8 (yB y p x) (jo (lg<|iO (sr y p x) (zD y p) p) (iT ((2*x+3:Nat):Int)) p) p (Kv hy aI aI _)<|pf _ _,
     iL (((2*x+3:Nat):Int)+2)]<|.e<|af [.o 8<|ar (((2*x+3)+2:Nat):Int) ((2*(x+1)+3:Nat):Int) aZ,.b 7<|.refl<|.cells 38<|ju<|yB y p<|x+1,.b 6<|.refl<|.cells 38<|ju<|sr y p<|x+1]) aM)
  (λhx=>by
    have hw:=ok.out;exact jg (af [iL<|0-(p:Int),.c<|y6 (sr y p N) (0-(p:Int)) (GP hy aI aI _) hw.1,tB 17<|bC hw.2]) aM) aQ:ki 4 f148 (UU y p 0) (.exit 0) ⟨41,true,[(7,.box 7 0),(4,.box 4 0),(1,.e<|iP p)],[(7,.cells 38<|ju<|yB y p N),(4,.cells 38 aw)]⟩)<|af [.o 8<|ar 3 ((2*0+3:Nat):Int) aZ,.b 7<|.refl<|.cells 38<|ju<|yB y p 0,.b 6<|.refl<|.cells 38<|ju<|sr y p 0],
  iL (0-(p:Int)),.c<|Ej<|0-(p:Int),.c<|Jx<|ko<|0-(p:Int),.c<|r8 (yB y p N) (Iv.mk (jl<|ko<|0-(p:Int)) (ko<|0-(p:Int)) false) p (Kv hy aI aI _)<|Kx]<|rQ (iC<|iZ (yB y p N) (Iv.mk (jl<|ko<|0-(p:Int)) (ko<|0-(p:Int)) false) p) (iC R)<|congrArg iC ok.val)
def Ot{y:Iv}(hy:y.iD){p:Nat}(iU:1<=p)(iJ:p<=1000)(N:Nat):(GQ y p N).iD:=mn (Kv hy iU iJ N) (Kx) iU 
def aeG:C2.iD:=by rw[<-UY.val];exact Ot (pf _ _ aK aK) aK aK _
def aeH:C3.iD:=by rw[<-UZ.val];exact Ot (pf _ _ aK aK) aK aK _
def aoU : iA 96 [iP 380]<|iC Bm:=
 iM (ae [iL<|380+20,.o 7<|ar (380+20) 400 aK,.c<|oQ 1,.c<|oQ 5,.c<|sV (iT 1) (iT 5) 400 (lY)<|lY,ag [iC<|jo (iT 1) (iT 5) 400,iP 400]<|St XD 400 86 C2 (pf _ _ aK aK) aK aK aK UY,.c<|oQ 1,.c<|oQ 239,.c<|sV (iT 1) (iT 239) 400 (lY)<|lY,ag [iC<|jo (iT 1) (iT 239) 400,iP 400]<|St XB 400 25 C3 (pf _ _ aK aK) aK aK aK UZ,.c<|oQ 16,.c<|tU (iT 16) C2 400 (lY) aeG,.c<|oQ 4,.c<|tU (iT 4) C3 400 (lY) aeH,.c<|JC (iO (iT 16) C2 400) (iO (iT 4) C3 400) 400 (ku _ _)<|ku _ _]<|rQ (iC<|jP (iO (iT 16) C2 400) (iO (iT 4) C3 400) 400) (iC Bm)<|congrArg iC Sd)
section
variable(d:Dy)(x:Nat)
def XN:PS:=⟨69,true,[(5,.e<|iP<|((iB d.m).length:Int)-1-(x:Int)),(4,.e<|bP<|nS d<|32*((iB d.m).length-x)),(3,.e<|iP (mE d<|32*((iB d.m).length-x):Int)),(1,.box 1 0)],[(1,.cells 31<|ke d)]⟩
def XM(y:Nat):PS:=⟨69,true,[(6,.e<|iP<|31-(y:Int)),(5,.e<|iP<|((iB d.m).length:Int)-1-(x:Int)),(4,.e<|bP<|nS d<|32*((iB d.m).length-x)-y),(3,.e<|iP (mE d<|32*((iB d.m).length-x)-y:Int)),(1,.box 1 0)],[(1,.cells 31<|ke d)]⟩
def XL:PS:=⟨69,true,[(8,.e<|iP x),(4,.e<|bP<|nS d<|32*((iB d.m).length-(iB d.m).length)),(3,.e<|iP ((mE d 0*2^x:Nat):Int)),(1,.box 1 0)],[(1,.cells 31<|ke d)]⟩
end
def ajB{d:Dy}(h:d.neg=true)(k:nS d 0=true):nk d=0-((mE d 0*2^d.e.toNat:Nat):Int)-1:=by unfold nk pg;rw[h,k];simp
def ajC{d:Dy}(h:d.neg=true)(k:¬nS d 0=true):nk d=0-((mE d 0*2^d.e.toNat:Nat):Int):=by unfold nk pg;rw[h,bn k];simp
def ajD{d:Dy}(h:¬d.neg=true):nk d=((mE d 0*2^d.e.toNat:Nat):Int):=by unfold nk pg;rw[bn h];simp
def alS(n:Nat):((n:Int)==1)=decide (n=1):=by
 rw[fM];simp only[atp,dn];omega
def aoQ(d:Dy)(hl:(iB d.m).length<=1000000)(lG:-1000000000<=d.e)(kW:d.e<=1000000000)(hA:pg d<=1000000000000):iA 192 [iF d]<|iP<|nk d:=by
 have L4:d.m<2^(32*((iB d.m).length-0)):=by
  have:=nd<|lO d.m;rw[kE]at this;rwa[dT,Nat.pow_mul]
 have qp:=ajy L4;have s8:=ajA L4;have sP:mE d (32*((iB d.m).length-(iB d.m).length))=mE d 0*2^0:=by rw[dD,cW,cH,cG]
 have Zj:nS d (32*((iB d.m).length-(iB d.m).length))=nS d 0:=by rw[dD,cW]
 have hAA:pg d=mE d 0*2^d.e.toNat:=rfl;exact iM (ae [iL<|((iB d.m).length:Int)-1,.s (Sp.kj (XN d) 0 ((iB d.m).length) aI (λx hx mr=>by
    exact jg (ae [tT 14 (0<=(((iB d.m).length:Int)-1-(x:Int))) aI,.s (Sp.kj (XM d x) 0 32 aI (λy hy QT=>by
    have hiT:((((iB d.m).length:Int)-1-(x:Int))).toNat=(iB d.m).length-1-x:= aI ;have qF:=amz d.m ((iB d.m).length-1-x) (aI:31-y<32);rw[(aI:32*((iB d.m).length-1-x)+(31-y)=(32*((iB d.m).length-x)-(y+1))),<-hiT]at qF;have qq:(32*((iB d.m).length-x)-(y+1))+1=32*((iB d.m).length-x)-y:= aI ;have hle:=ajx d<|32*((iB d.m).length-x)-(y+1);have uW:=(lO d.m).getD (((iB d.m).length:Int)-1-(x:Int)).toNat
    have hq:=cM ((iB d.m).getD (((iB d.m).length:Int)-1-(x:Int)).toNat 0)<|2^(31-y);by_cases hc:(32*((iB d.m).length-x)-(y+1))<od d
    .by_cases hr:(nS d<|32*((iB d.m).length-x)-y)=true
     .have jM:((d.e+(32*(((iB d.m).length:Int)-1-(x:Int))))+(31-(y:Int)))<0:=by unfold od at hc;omega
      have uZ:=XJ hc;have oB:=XK hc;rw[qq]at uZ oB;exact jg (ae [tT 18 (0<=(31-(y:Int))) aI,iX (((iB d.m).length:Int)-1-(x:Int))<|(iB d.m).length,.o 27<|.int (k:=.u64) (by rw[IntKind.wrap_u64];omega:(IntKind.u64.wrap<|31-(y:Int))=((31-y:Nat):Int)),.a (aI:0<=(((31-y:Nat):Int):Int)/\(((31-y:Nat):Int):Int)<=((32:Nat):Int)),.o 28 (.int<|tW _ _:aj (.v<|.int .u32<|(((iB d.m).getD (((iB d.m).length:Int)-1-(x:Int)).toNat 0:Nat):Int)/2^(31-y))<|.v<|.int .u32 ((((iB d.m).getD (((iB d.m).length:Int)-1-(x:Int)).toNat 0)/2^(31-y):Nat):Int)),.o 29 (.int<|yp _:aj (.v<|.int .u32<|bits .and .u32 ((((iB d.m).getD (((iB d.m).length:Int)-1-(x:Int)).toNat 0)/2^(31-y):Nat):Int) 1)<|.v<|.int .u32 (((((iB d.m).getD (((iB d.m).length:Int)-1-(x:Int)).toNat 0)/2^(31-y))%2:Nat):Int)),.o 30<|ar (IntKind.i64.wrap (((((iB d.m).getD (((iB d.m).length:Int)-1-(x:Int)).toNat 0)/2^(31-y))%2:Nat):Int)) (((((iB d.m).getD (((iB d.m).length:Int)-1-(x:Int)).toNat 0)/2^(31-y))%2:Nat):Int)<|Bc _,
       iL (32*(((iB d.m).length:Int)-1-(x:Int))),iL<|d.e+(32*(((iB d.m).length:Int)-1-(x:Int))),
       iL ((d.e+(32*(((iB d.m).length:Int)-1-(x:Int))))+(31-(y:Int))),tB 38<|bC jM,ah 39 (nS d<|32*((iB d.m).length-x)-y) hr,
       iL ((31-(y:Int))-1)]<|.e<|af [.o 6<|ar ((31-(y:Int))-1) (31-((y+1:Nat):Int)) aZ,.o 4 (.bool<|by rw[oB,hr];rfl:aj (bP true)<|bP<|nS d<|32*((iB d.m).length-x)-(y+1)),.o 3<|ar (mE d<|32*((iB d.m).length-x)-y:Int) (mE d<|32*((iB d.m).length-x)-(y+1):Int) aZ]) aM 
     .have jM:((d.e+(32*(((iB d.m).length:Int)-1-(x:Int))))+(31-(y:Int)))<0:=by unfold od at hc;omega
      have uZ:=XJ hc;have oB:=XK hc;rw[qq]at uZ oB;exact jg (ae [tT 18 (0<=(31-(y:Int))) aI,iX (((iB d.m).length:Int)-1-(x:Int))<|(iB d.m).length,.o 27<|.int (k:=.u64) (by rw[IntKind.wrap_u64];omega:(IntKind.u64.wrap<|31-(y:Int))=((31-y:Nat):Int)),.a (aI:0<=(((31-y:Nat):Int):Int)/\(((31-y:Nat):Int):Int)<=((32:Nat):Int)),.o 28 (.int<|tW _ _:aj (.v<|.int .u32<|(((iB d.m).getD (((iB d.m).length:Int)-1-(x:Int)).toNat 0:Nat):Int)/2^(31-y))<|.v<|.int .u32 ((((iB d.m).getD (((iB d.m).length:Int)-1-(x:Int)).toNat 0)/2^(31-y):Nat):Int)),.o 29 (.int<|yp _:aj (.v<|.int .u32<|bits .and .u32 ((((iB d.m).getD (((iB d.m).length:Int)-1-(x:Int)).toNat 0)/2^(31-y):Nat):Int) 1)<|.v<|.int .u32 (((((iB d.m).getD (((iB d.m).length:Int)-1-(x:Int)).toNat 0)/2^(31-y))%2:Nat):Int)),.o 30<|ar (IntKind.i64.wrap (((((iB d.m).getD (((iB d.m).length:Int)-1-(x:Int)).toNat 0)/2^(31-y))%2:Nat):Int)) (((((iB d.m).getD (((iB d.m).length:Int)-1-(x:Int)).toNat 0)/2^(31-y))%2:Nat):Int)<|Bc _,
       iL (32*(((iB d.m).length:Int)-1-(x:Int))),iL<|d.e+(32*(((iB d.m).length:Int)-1-(x:Int))),
       iL ((d.e+(32*(((iB d.m).length:Int)-1-(x:Int))))+(31-(y:Int))),tB 38<|bC jM,tB 39<|bn hr,iL<|(31-(y:Int))-1]<|.e<|af [.o 6<|ar ((31-(y:Int))-1) (31-((y+1:Nat):Int)) aZ,.o 4 (.bool<|by rw[oB,bn hr,asb,<-qF];exact alS _:aj (bP<|(((((iB d.m).getD (((iB d.m).length:Int)-1-(x:Int)).toNat 0)/2^(31-y))%2:Nat):Int)==1)<|bP<|nS d<|32*((iB d.m).length-x)-(y+1)),.o 3<|ar (mE d<|32*((iB d.m).length-x)-y:Int) (mE d<|32*((iB d.m).length-x)-(y+1):Int) aZ]) aM 
    .have jM:¬((d.e+(32*(((iB d.m).length:Int)-1-(x:Int))))+(31-(y:Int)))<0:=by unfold od at hc;omega
     have uZ:=ajw<|fz hc;have oB:=ajz<|fz hc;rw[qq]at uZ oB;exact jg (ae [tT 18 (0<=(31-(y:Int))) aI,iX (((iB d.m).length:Int)-1-(x:Int))<|(iB d.m).length,.o 27<|.int (k:=.u64) (by rw[IntKind.wrap_u64];omega:(IntKind.u64.wrap<|31-(y:Int))=((31-y:Nat):Int)),.a (aI:0<=(((31-y:Nat):Int):Int)/\(((31-y:Nat):Int):Int)<=((32:Nat):Int)),.o 28 (.int<|tW _ _:aj (.v<|.int .u32<|(((iB d.m).getD (((iB d.m).length:Int)-1-(x:Int)).toNat 0:Nat):Int)/2^(31-y))<|.v<|.int .u32 ((((iB d.m).getD (((iB d.m).length:Int)-1-(x:Int)).toNat 0)/2^(31-y):Nat):Int)),.o 29 (.int<|yp _:aj (.v<|.int .u32<|bits .and .u32 ((((iB d.m).getD (((iB d.m).length:Int)-1-(x:Int)).toNat 0)/2^(31-y):Nat):Int) 1)<|.v<|.int .u32 (((((iB d.m).getD (((iB d.m).length:Int)-1-(x:Int)).toNat 0)/2^(31-y))%2:Nat):Int)),.o 30<|ar (IntKind.i64.wrap (((((iB d.m).getD (((iB d.m).length:Int)-1-(x:Int)).toNat 0)/2^(31-y))%2:Nat):Int)) (((((iB d.m).getD (((iB d.m).length:Int)-1-(x:Int)).toNat 0)/2^(31-y))%2:Nat):Int)<|Bc _,
      iL (32*(((iB d.m).length:Int)-1-(x:Int))),iL<|d.e+(32*(((iB d.m).length:Int)-1-(x:Int))),
      iL ((d.e+(32*(((iB d.m).length:Int)-1-(x:Int))))+(31-(y:Int))),tB 38<|bE jM,iL<|2*(mE d<|32*((iB d.m).length-x)-y:Int),
      iL (((2*(mE d<|32*((iB d.m).length-x)-y):Nat):Int)+(((((iB d.m).getD (((iB d.m).length:Int)-1-(x:Int)).toNat 0)/2^(31-y))%2:Nat):Int)),
      iL ((31-(y:Int))-1)]<|.e<|af [.o 6<|ar ((31-(y:Int))-1) (31-((y+1:Nat):Int))<|by first|omega|rfl|rw[uZ]|(rw[uZ,qF];omega),.o 4 (.bool<|by first|rfl|rw[oB]:aj (bP<|nS d<|32*((iB d.m).length-x)-y)<|bP<|nS d<|32*((iB d.m).length-x)-(y+1)),.o 3<|ar (((2*(mE d<|32*((iB d.m).length-x)-y))+((((iB d.m).getD (((iB d.m).length:Int)-1-(x:Int)).toNat 0)/2^(31-y))%2):Nat):Int) (mE d<|32*((iB d.m).length-x)-(y+1):Int)<|by first|omega|rfl|rw[uZ]|(rw[uZ,qF];omega)]) aM)
  (λhy=>by
    exact jg (af [tF 18 (0<=(31-((32:Nat):Int))) aI]) aM) aQ:ki 6 f192 (XM d x 0) (.exit 2) ⟨69,true,[(5,.e<|iP<|((iB d.m).length:Int)-1-(x:Int)),(4,.e<|bP<|nS d<|32*((iB d.m).length-x)-32),(3,.e<|iP (mE d<|32*((iB d.m).length-x)-32:Int)),(1,.box 1 0)],[(1,.cells 31<|ke d)]⟩)<|af [.o 6<|ar 31 (31-((0:Nat):Int))<|by first|omega|rfl|rw[uZ]|(rw[uZ,qF];omega),.o 4 (.bool<|by first|rfl|rw[oB]:aj (bP<|nS d<|32*((iB d.m).length-x))<|bP<|nS d<|32*((iB d.m).length-x)-0),.o 3<|ar (mE d<|32*((iB d.m).length-x):Int) (mE d<|32*((iB d.m).length-x)-0:Int)<|by first|omega|rfl|rw[uZ]|(rw[uZ,qF];omega)],
     iL ((((iB d.m).length:Int)-1-(x:Int))-1)]<|.e<|af [.o 5<|ar ((((iB d.m).length:Int)-1-(x:Int))-1) (((iB d.m).length:Int)-1-((x+1:Nat):Int))<|by first|omega|(rw[qp];rfl)|(congr 2;omega),.o 4 (.bool<|by first|rw[s8]|(congr 1;omega):aj (bP<|nS d<|32*((iB d.m).length-x)-32)<|bP<|nS d<|32*((iB d.m).length-(x+1))),.o 3<|ar (mE d<|32*((iB d.m).length-x)-32:Int) (mE d<|32*((iB d.m).length-(x+1)):Int)<|by first|omega|(rw[qp];rfl)|(congr 2;omega)]) aM)
  (λhx=>by
    exact jg (af [tF 14 (0<=(((iB d.m).length:Int)-1-((iB d.m).length:Int))) aI]) aM) aQ:ki 3 f192 (XN d 0) (.exit 0) ⟨69,true,[(4,.e<|bP<|nS d<|32*((iB d.m).length-(iB d.m).length)),(3,.e<|iP (mE d<|32*((iB d.m).length-(iB d.m).length):Int)),(1,.box 1 0)],[(1,.cells 31<|ke d)]⟩)<|af [.o 5<|ar (((iB d.m).length:Int)-1) (((iB d.m).length:Int)-1-((0:Nat):Int))<|by first|omega|(rw[qp];rfl)|(congr 2;omega),.o 4 (.bool<|by first|rw[s8]|(congr 1;omega):aj (bP false)<|bP<|nS d<|32*((iB d.m).length-0)),.o 3<|ar 0 (mE d<|32*((iB d.m).length-0):Int)<|by first|omega|(rw[qp];rfl)|(congr 2;omega)],.s (Sp.kj (XL d) 0 d.e.toNat aI (λx hx mr=>by
    have xY:mE d 0*2^(x+1)<=pg d:=cT _<|bZ aK aI;have L6:mE d 0*2^(x+1)=2*(mE d 0*2^x):=by rw[bV,bR<|2^x,dF]
    exact jg (ae [tT 51 ((x:Int)<d.e) aI,iL<|2*((mE d 0*2^x:Nat):Int),iL<|(x:Int)+1]<|.e<|af [.o 3<|ar ((2*(mE d 0*2^x):Nat):Int) ((mE d 0*2^(x+1):Nat):Int)<|by first|omega|(rw[sP])|(rw[L6])]) aM)
  (λhx=>by
    exact jg (af [tF 51 ((d.e.toNat:Int)<d.e) aI]) aM) aQ:ki 13 f192 (XL d 0) (.exit 4) ⟨69,true,[(4,.e<|bP<|nS d<|32*((iB d.m).length-(iB d.m).length)),(3,.e<|iP ((mE d 0*2^d.e.toNat:Nat):Int)),(1,.box 1 0)],[(1,.cells 31<|ke d)]⟩)<|af [.o 3<|ar (mE d<|32*((iB d.m).length-(iB d.m).length):Int) ((mE d 0*2^0:Nat):Int)<|by first|omega|(rw[sP])|(rw[L6])]]<|.w (d.neg=true)
  (λk1=>ae [tB 57 k1]<|.w (nS d (32*((iB d.m).length-(iB d.m).length))=true)
   (λk2=>ae [tB 59 k2,iL<|0-((mE d 0*2^d.e.toNat:Nat):Int),iL<|(0-((mE d 0*2^d.e.toNat:Nat):Int))-1]<|rQ (iP<|(0-((mE d 0*2^d.e.toNat:Nat):Int))-1) (iP<|nk d)<|congrArg iP (ajB k1<|Zj▸k2).symm)
   (λk2=>ae [tB 59<|bn k2,tB 65 k1,iL<|0-((mE d 0*2^d.e.toNat:Nat):Int)]<|rQ (iP<|0-((mE d 0*2^d.e.toNat:Nat):Int)) (iP<|nk d)<|congrArg iP (ajC k1<|Zj▸k2).symm))
  (λk1=>ae [tB 57<|bn k1,tB 65<|bn k1]<|rQ (iP ((mE d 0*2^d.e.toNat:Nat):Int)) (iP<|nk d)<|congrArg iP (ajD k1).symm))
def acN(r:Iv)(p:Nat)(x:Nat):PS:=⟨63,true,[(9,.e<|iP ((x+1:Nat):Int)),(8,.box 8 0),(7,.box 7 0),(6,.box 6 0),(5,.box 5 0),(4,.box 4 0),(2,.box 2 0),(1,.e<|iP p)],[(8,.cells 38<|ju<|mw r p x),(7,.cells 38<|ju<|my r p x),(6,.cells 38<|ju<|jY r p x),(5,.cells 38 aw),(4,.cells 38 aw),(2,.cells 38<|ju r)]⟩
def Mu{n:Nat}(h:n=1):((n:Int)==1)=true:=by simp[h]
def Mt{n:Nat}(h:¬n=1):((n:Int)==1)=false:= aV 
def adz(k:Int):Int.tmod k 4=k%4\/k<0/\Int.tmod k 4 = -((-k)%4):=by
 by_cases h:0<=k
 .exact .inl<|fP h
 .refine .inr ⟨aI,?_⟩;have:=Int.neg_tmod (-k) 4;rw[Int.neg_neg]at this;rw[this,fP aI]
def adA(k:Int):-3<=Int.tmod k 4/\Int.tmod k 4<=3:=by rcases adz k with h|h<;>omega
def asc(k:Int):Int.tmod (Int.tmod k 4+4) 4=k%4:=by
 have h1:=adA k;rw[fP aI];rcases adz k with h|h<;>omega
def akN:(Iv.mk (ko (-1)) (ko (-1)) false).iD:=.inr ⟨rfl,Bn aK aK,Bn aK aK,by show jI _ _<=0;rw[qf];exact bH⟩
def aoV(r:Iv)(p N:Nat)(hr:r.iD)(iU:8<=p)(iJ:p<=512)(hN:7<=N)(uS:N<=1000)(ha:∀ x,x<=N->(jY r p x).all=false)(xd:∀ x,x<N->x<7\/¬jI (mB<|jY r p x) (ko<|0-(p:Int))<0)(pT:jI (mB<|jY r p N) (ko<|0-(p:Int))<0):iA 193 [iC r,iP p]<|.iK [iC<|rD r p N,iC<|rC r p N]:=
 iM (ae [.c<|oQ 1,.c<|oQ 0,.c<|oQ 1,.s (Sp.kj (acN r p) 0 N aI (λx hx mr=>by
    by_cases h2:(x+1)%2=1
    .by_cases h4:2<=(x+1)%4
     .by_cases hb:jI (mB<|jY r p x) (ko<|0-(p:Int))<0
      .have h7:=(xd x mr).resolve_right λq=>q hb;have hS:my r p (x+1)=iZ (my r p x) (lg<|jo (iO (jY r p x) r p) (iT ((x+1:Nat):Int)) p) p:=by simp only[my];rw[bA h2];simp only[xw];rw[bA h4];rfl
       have hC:mw r p (x+1)=mw r p x:=by simp only[mw];rw[bA h2]
       exact jg (ae [iL<|0-(p:Int),.c<|y6 (jY r p x) (0-(p:Int)) (qw hr aI aI _)<|ha _ aI,tB 18<|bC hb,tT 22 (((x+1:Nat):Int)<8) aI,.c<|tU (jY r p x) r p (qw hr aI aI _) aJ,.c<|oQ ((x+1:Nat):Int),.c<|sV (iO (jY r p x) r p) (iT ((x+1:Nat):Int)) p (ku _ _)<|lY,.a (aI:0<(4:Int)),tT 37 (2<=(((x+1)%4:Nat):Int)) aI,.c<|yn (jo (iO (jY r p x) r p) (iT ((x+1:Nat):Int)) p)<|pf _ _,.a (aI:0<(2:Int)),ah 42 ((((x+1)%2:Nat):Int)==1)<|Mu h2,.c<|r8 (my r p x) (lg<|jo (iO (jY r p x) r p) (iT ((x+1:Nat):Int)) p) p (zk hr aI aI _)<|nO<|pf _ _,
        iL (((x+1:Nat):Int)+1)]<|.e<|af [.b 8 (.jm<|by first|rfl|rw[hS]|rw[hC]:Bx.le (.cells 38<|ju<|mw r p x)<|.cells 38<|ju<|mw r p<|x+1),.b 7 (.jm<|by first|rfl|rw[hS]|rw[hC]:Bx.le (.cells 38<|ju<|iZ (my r p x) (lg<|jo (iO (jY r p x) r p) (iT ((x+1:Nat):Int)) p) p)<|.cells 38<|ju<|my r p<|x+1),.b 6 (.jm<|by first|rfl|rw[hS]|rw[hC]:Bx.le (.cells 38<|ju<|jo (iO (jY r p x) r p) (iT ((x+1:Nat):Int)) p)<|.cells 38<|ju<|jY r p<|x+1)]) aM 
      .have hS:my r p (x+1)=iZ (my r p x) (lg<|jo (iO (jY r p x) r p) (iT ((x+1:Nat):Int)) p) p:=by simp only[my];rw[bA h2];simp only[xw];rw[bA h4];rfl
       have hC:mw r p (x+1)=mw r p x:=by simp only[mw];rw[bA h2]
       exact jg (ae [iL<|0-(p:Int),.c<|y6 (jY r p x) (0-(p:Int)) (qw hr aI aI _)<|ha _ aI,tB 18<|bE hb,.c<|tU (jY r p x) r p (qw hr aI aI _) aJ,.c<|oQ ((x+1:Nat):Int),.c<|sV (iO (jY r p x) r p) (iT ((x+1:Nat):Int)) p (ku _ _)<|lY,.a (aI:0<(4:Int)),tT 37 (2<=(((x+1)%4:Nat):Int)) aI,.c<|yn (jo (iO (jY r p x) r p) (iT ((x+1:Nat):Int)) p)<|pf _ _,.a (aI:0<(2:Int)),ah 42 ((((x+1)%2:Nat):Int)==1)<|Mu h2,.c<|r8 (my r p x) (lg<|jo (iO (jY r p x) r p) (iT ((x+1:Nat):Int)) p) p (zk hr aI aI _)<|nO<|pf _ _,
        iL (((x+1:Nat):Int)+1)]<|.e<|af [.b 8 (.jm<|by first|rfl|rw[hS]|rw[hC]:Bx.le (.cells 38<|ju<|mw r p x)<|.cells 38<|ju<|mw r p<|x+1),.b 7 (.jm<|by first|rfl|rw[hS]|rw[hC]:Bx.le (.cells 38<|ju<|iZ (my r p x) (lg<|jo (iO (jY r p x) r p) (iT ((x+1:Nat):Int)) p) p)<|.cells 38<|ju<|my r p<|x+1),.b 6 (.jm<|by first|rfl|rw[hS]|rw[hC]:Bx.le (.cells 38<|ju<|jo (iO (jY r p x) r p) (iT ((x+1:Nat):Int)) p)<|.cells 38<|ju<|jY r p<|x+1)]) aM 
     .by_cases hb:jI (mB<|jY r p x) (ko<|0-(p:Int))<0
      .have h7:=(xd x mr).resolve_right λq=>q hb;have hS:my r p (x+1)=iZ (my r p x) (jo (iO (jY r p x) r p) (iT ((x+1:Nat):Int)) p) p:=by simp only[my];rw[bA h2];simp only[xw];rw[bw h4];rfl
       have hC:mw r p (x+1)=mw r p x:=by simp only[mw];rw[bA h2]
       exact jg (ae [iL<|0-(p:Int),.c<|y6 (jY r p x) (0-(p:Int)) (qw hr aI aI _)<|ha _ aI,tB 18<|bC hb,tT 22 (((x+1:Nat):Int)<8) aI,.c<|tU (jY r p x) r p (qw hr aI aI _) aJ,.c<|oQ ((x+1:Nat):Int),.c<|sV (iO (jY r p x) r p) (iT ((x+1:Nat):Int)) p (ku _ _)<|lY,.a (aI:0<(4:Int)),tF 37 (2<=(((x+1)%4:Nat):Int)) aI,.a (aI:0<(2:Int)),ah 42 ((((x+1)%2:Nat):Int)==1)<|Mu h2,.c<|r8 (my r p x) (jo (iO (jY r p x) r p) (iT ((x+1:Nat):Int)) p) p (zk hr aI aI _)<|pf _ _,iL<|((x+1:Nat):Int)+1]<|.e<|af [.b 8 (.jm<|by first|rfl|rw[hS]|rw[hC]:Bx.le (.cells 38<|ju<|mw r p x)<|.cells 38<|ju<|mw r p<|x+1),.b 7 (.jm<|by first|rfl|rw[hS]|rw[hC]:Bx.le (.cells 38<|ju<|iZ (my r p x) (jo (iO (jY r p x) r p) (iT ((x+1:Nat):Int)) p) p)<|.cells 38<|ju<|my r p<|x+1),.b 6 (.jm<|by first|rfl|rw[hS]|rw[hC]:Bx.le (.cells 38<|ju<|jo (iO (jY r p x) r p) (iT ((x+1:Nat):Int)) p)<|.cells 38<|ju<|jY r p<|x+1)]) aM 
      .have hS:my r p (x+1)=iZ (my r p x) (jo (iO (jY r p x) r p) (iT ((x+1:Nat):Int)) p) p:=by simp only[my];rw[bA h2];simp only[xw];rw[bw h4];rfl
       have hC:mw r p (x+1)=mw r p x:=by simp only[mw];rw[bA h2]
       exact jg (ae [iL<|0-(p:Int),.c<|y6 (jY r p x) (0-(p:Int)) (qw hr aI aI _)<|ha _ aI,tB 18<|bE hb,.c<|tU (jY r p x) r p (qw hr aI aI _) aJ,.c<|oQ ((x+1:Nat):Int),.c<|sV (iO (jY r p x) r p) (iT ((x+1:Nat):Int)) p (ku _ _)<|lY,.a (aI:0<(4:Int)),tF 37 (2<=(((x+1)%4:Nat):Int)) aI,.a (aI:0<(2:Int)),ah 42 ((((x+1)%2:Nat):Int)==1)<|Mu h2,.c<|r8 (my r p x) (jo (iO (jY r p x) r p) (iT ((x+1:Nat):Int)) p) p (zk hr aI aI _)<|pf _ _,iL<|((x+1:Nat):Int)+1]<|.e<|af [.b 8 (.jm<|by first|rfl|rw[hS]|rw[hC]:Bx.le (.cells 38<|ju<|mw r p x)<|.cells 38<|ju<|mw r p<|x+1),.b 7 (.jm<|by first|rfl|rw[hS]|rw[hC]:Bx.le (.cells 38<|ju<|iZ (my r p x) (jo (iO (jY r p x) r p) (iT ((x+1:Nat):Int)) p) p)<|.cells 38<|ju<|my r p<|x+1),.b 6 (.jm<|by first|rfl|rw[hS]|rw[hC]:Bx.le (.cells 38<|ju<|jo (iO (jY r p x) r p) (iT ((x+1:Nat):Int)) p)<|.cells 38<|ju<|jY r p<|x+1)]) aM 
    .by_cases h4:2<=(x+1)%4
     .by_cases hb:jI (mB<|jY r p x) (ko<|0-(p:Int))<0
      .have h7:=(xd x mr).resolve_right λq=>q hb;have hS:my r p (x+1)=my r p x:=by simp only[my];rw[bw h2]
       have hC:mw r p (x+1)=iZ (mw r p x) (lg<|jo (iO (jY r p x) r p) (iT ((x+1:Nat):Int)) p) p:=by simp only[mw];rw[bw h2];simp only[xw];rw[bA h4];rfl
       exact jg (ae [iL<|0-(p:Int),.c<|y6 (jY r p x) (0-(p:Int)) (qw hr aI aI _)<|ha _ aI,tB 18<|bC hb,tT 22 (((x+1:Nat):Int)<8) aI,.c<|tU (jY r p x) r p (qw hr aI aI _) aJ,.c<|oQ ((x+1:Nat):Int),.c<|sV (iO (jY r p x) r p) (iT ((x+1:Nat):Int)) p (ku _ _)<|lY,.a (aI:0<(4:Int)),tT 37 (2<=(((x+1)%4:Nat):Int)) aI,.c<|yn (jo (iO (jY r p x) r p) (iT ((x+1:Nat):Int)) p)<|pf _ _,.a (aI:0<(2:Int)),ai 42 ((((x+1)%2:Nat):Int)==1)<|Mt h2,.c<|r8 (mw r p x) (lg<|jo (iO (jY r p x) r p) (iT ((x+1:Nat):Int)) p) p (zj hr aI aI _)<|nO<|pf _ _,
        iL (((x+1:Nat):Int)+1)]<|.e<|af [.b 8 (.jm<|by first|rfl|rw[hS]|rw[hC]:Bx.le (.cells 38<|ju<|iZ (mw r p x) (lg<|jo (iO (jY r p x) r p) (iT ((x+1:Nat):Int)) p) p)<|.cells 38<|ju<|mw r p<|x+1),.b 7 (.jm<|by first|rfl|rw[hS]|rw[hC]:Bx.le (.cells 38<|ju<|my r p x)<|.cells 38<|ju<|my r p<|x+1),.b 6 (.jm<|by first|rfl|rw[hS]|rw[hC]:Bx.le (.cells 38<|ju<|jo (iO (jY r p x) r p) (iT ((x+1:Nat):Int)) p)<|.cells 38<|ju<|jY r p<|x+1)]) aM 
      .have hS:my r p (x+1)=my r p x:=by simp only[my];rw[bw h2]
       have hC:mw r p (x+1)=iZ (mw r p x) (lg<|jo (iO (jY r p x) r p) (iT ((x+1:Nat):Int)) p) p:=by simp only[mw];rw[bw h2];simp only[xw];rw[bA h4];rfl
       exact jg (ae [iL<|0-(p:Int),.c<|y6 (jY r p x) (0-(p:Int)) (qw hr aI aI _)<|ha _ aI,tB 18<|bE hb,.c<|tU (jY r p x) r p (qw hr aI aI _) aJ,.c<|oQ ((x+1:Nat):Int),.c<|sV (iO (jY r p x) r p) (iT ((x+1:Nat):Int)) p (ku _ _)<|lY,.a (aI:0<(4:Int)),tT 37 (2<=(((x+1)%4:Nat):Int)) aI,.c<|yn (jo (iO (jY r p x) r p) (iT ((x+1:Nat):Int)) p)<|pf _ _,.a (aI:0<(2:Int)),ai 42 ((((x+1)%2:Nat):Int)==1)<|Mt h2,.c<|r8 (mw r p x) (lg<|jo (iO (jY r p x) r p) (iT ((x+1:Nat):Int)) p) p (zj hr aI aI _)<|nO<|pf _ _,
        iL (((x+1:Nat):Int)+1)]<|.e<|af [.b 8 (.jm<|by first|rfl|rw[hS]|rw[hC]:Bx.le (.cells 38<|ju<|iZ (mw r p x) (lg<|jo (iO (jY r p x) r p) (iT ((x+1:Nat):Int)) p) p)<|.cells 38<|ju<|mw r p<|x+1),.b 7 (.jm<|by first|rfl|rw[hS]|rw[hC]:Bx.le (.cells 38<|ju<|my r p x)<|.cells 38<|ju<|my r p<|x+1),.b 6 (.jm<|by first|rfl|rw[hS]|rw[hC]:Bx.le (.cells 38<|ju<|jo (iO (jY r p x) r p) (iT ((x+1:Nat):Int)) p)<|.cells 38<|ju<|jY r p<|x+1)]) aM 
     .by_cases hb:jI (mB<|jY r p x) (ko<|0-(p:Int))<0
      .have h7:=(xd x mr).resolve_right λq=>q hb;have hS:my r p (x+1)=my r p x:=by simp only[my];rw[bw h2]
       have hC:mw r p (x+1)=iZ (mw r p x) (jo (iO (jY r p x) r p) (iT ((x+1:Nat):Int)) p) p:=by simp only[mw];rw[bw h2];simp only[xw];rw[bw h4];rfl
       exact jg (ae [iL<|0-(p:Int),.c<|y6 (jY r p x) (0-(p:Int)) (qw hr aI aI _)<|ha _ aI,tB 18<|bC hb,tT 22 (((x+1:Nat):Int)<8) aI,.c<|tU (jY r p x) r p (qw hr aI aI _) aJ,.c<|oQ ((x+1:Nat):Int),.c<|sV (iO (jY r p x) r p) (iT ((x+1:Nat):Int)) p (ku _ _)<|lY,.a (aI:0<(4:Int)),tF 37 (2<=(((x+1)%4:Nat):Int)) aI,.a (aI:0<(2:Int)),ai 42 ((((x+1)%2:Nat):Int)==1)<|Mt h2,.c<|r8 (mw r p x) (jo (iO (jY r p x) r p) (iT ((x+1:Nat):Int)) p) p (zj hr aI aI _)<|pf _ _,iL<|((x+1:Nat):Int)+1]<|.e<|af [.b 8 (.jm<|by first|rfl|rw[hS]|rw[hC]:Bx.le (.cells 38<|ju<|iZ (mw r p x) (jo (iO (jY r p x) r p) (iT ((x+1:Nat):Int)) p) p)<|.cells 38<|ju<|mw r p<|x+1),.b 7 (.jm<|by first|rfl|rw[hS]|rw[hC]:Bx.le (.cells 38<|ju<|my r p x)<|.cells 38<|ju<|my r p<|x+1),.b 6 (.jm<|by first|rfl|rw[hS]|rw[hC]:Bx.le (.cells 38<|ju<|jo (iO (jY r p x) r p) (iT ((x+1:Nat):Int)) p)<|.cells 38<|ju<|jY r p<|x+1)]) aM 
      .have hS:my r p (x+1)=my r p x:=by simp only[my];rw[bw h2]
       have hC:mw r p (x+1)=iZ (mw r p x) (jo (iO (jY r p x) r p) (iT ((x+1:Nat):Int)) p) p:=by simp only[mw];rw[bw h2];simp only[xw];rw[bw h4];rfl
       exact jg (ae [iL<|0-(p:Int),.c<|y6 (jY r p x) (0-(p:Int)) (qw hr aI aI _)<|ha _ aI,tB 18<|bE hb,.c<|tU (jY r p x) r p (qw hr aI aI _) aJ,.c<|oQ ((x+1:Nat):Int),.c<|sV (iO (jY r p x) r p) (iT ((x+1:Nat):Int)) p (ku _ _)<|lY,.a (aI:0<(4:Int)),tF 37 (2<=(((x+1)%4:Nat):Int)) aI,.a (aI:0<(2:Int)),ai 42 ((((x+1)%2:Nat):Int)==1)<|Mt h2,.c<|r8 (mw r p x) (jo (iO (jY r p x) r p) (iT ((x+1:Nat):Int)) p) p (zj hr aI aI _)<|pf _ _,iL<|((x+1:Nat):Int)+1]<|.e<|af [.b 8 (.jm<|by first|rfl|rw[hS]|rw[hC]:Bx.le (.cells 38<|ju<|iZ (mw r p x) (jo (iO (jY r p x) r p) (iT ((x+1:Nat):Int)) p) p)<|.cells 38<|ju<|mw r p<|x+1),.b 7 (.jm<|by first|rfl|rw[hS]|rw[hC]:Bx.le (.cells 38<|ju<|my r p x)<|.cells 38<|ju<|my r p<|x+1),.b 6 (.jm<|by first|rfl|rw[hS]|rw[hC]:Bx.le (.cells 38<|ju<|jo (iO (jY r p x) r p) (iT ((x+1:Nat):Int)) p)<|.cells 38<|ju<|jY r p<|x+1)]) aM)
  (λhx=>by
    exact jg (af [iL<|0-(p:Int),.c<|y6 (jY r p N) (0-(p:Int)) (qw hr aI aI _)<|ha _ aI,tB 18<|bC pT,tF 22 (((N+1:Nat):Int)<8) aI]) aM) aQ:ki 4 f193 (acN r p 0) (.exit 0) ⟨63,true,[(8,.box 8 0),(7,.box 7 0),(5,.box 5 0),(4,.box 4 0),(1,.e<|iP p)],[(8,.cells 38<|ju<|mw r p N),(7,.cells 38<|ju<|my r p N),(5,.cells 38 aw),(4,.cells 38 aw)]⟩)<|af [.o 9<|ar 1 ((0+1:Nat):Int) aZ,.b 8 (.jm<|by first|rfl|rw[hS]|rw[hC]:Bx.le (.cells 38<|ju<|iT 1)<|.cells 38<|ju<|mw r p 0),.b 7 (.jm<|by first|rfl|rw[hS]|rw[hC]:Bx.le (.cells 38<|ju<|iT 0)<|.cells 38<|ju<|my r p 0),.b 6 (.jm<|by first|rfl|rw[hS]|rw[hC]:Bx.le (.cells 38<|ju<|iT 1)<|.cells 38<|ju<|jY r p 0)],
  iL (1-(p:Int)),.c<|Ej<|1-(p:Int),.c<|Jx<|ko<|1-(p:Int),.c<|r8 (my r p N) (Iv.mk (jl<|ko<|1-(p:Int)) (ko<|1-(p:Int)) false) p (zk hr aI aI _)<|Ox aI aI,.c<|r8 (mw r p N) (Iv.mk (jl<|ko<|1-(p:Int)) (ko<|1-(p:Int)) false) p (zj hr aI aI _)<|Ox aI aI]<|rR (.iK [iC<|rD r p N,iC<|rC r p N]) (.jm rfl:E.le (.iK [iC<|iZ (my r p N) (Iv.mk (jl<|ko<|1-(p:Int)) (ko<|1-(p:Int)) false) p,iC<|iZ (mw r p N) (Iv.mk (jl<|ko<|1-(p:Int)) (ko<|1-(p:Int)) false) p])<|.iK [iC<|rD r p N,iC<|rC r p N]))
def aoc:Bm.iD:=by
 rw[<-Sd];exact mn (ku _ _ aK aK) (nO<|ku _ _ aK aK) aK aK 
section
variable(d:Dy)
def aoW(hd:d.iD)(q r:Iv)(hq:iZ (jo (mT d) HF 380) ⟨ko (-1),ko (-1),false⟩ 380=q)(LW:q.iD)(hl:(iB q.lo.m).length<=1000000)(lG:-1000000000<=q.lo.e)(kW:q.lo.e<=1000000000)(hA:pg q.lo<=1000000000000)(pB:-4000000000<=nk q.lo)(tL:nk q.lo<=4000000000)(s8:jP (mT d) (iO (iT<|nk q.lo) HF 380) 380=r)(hr:r.iD)(N:Nat)(hN:7<=N)(uS:N<=1000)(ha:∀ x,x<=N->(jY r 380 x).all=false)(xd:∀ x,x<N->x<7\/¬jI (mB<|jY r 380 x) (ko<|0-((380:Nat):Int))<0)(pT:jI (mB<|jY r 380 N) (ko<|0-((380:Nat):Int))<0):iA 147 [iF d,iP 320]<|.iK [iC<|zi (rD r 380 N) (rC r 380 N)<|nk q.lo%4,iC<|zg (rD r 380 N) (rC r 380 N)<|nk q.lo%4]:=by
 have htm:=adA<|nk q.lo;exact iM (ae [iL<|320+60,.o 15<|ar (320+60) 380 aK,.c aoU,.c<|CC Bm (-1) aoc,.o 18 (.e<|.jm<|by rw[Yq]:aj (iC<|kI Bm (-1))<|iC HF),.c<|Ek d,.c<|sV (mT d) HF 380 (tS hd) LC,.c<|Ej (-1),.c<|Ej (-1),.c<|r8 (jo (mT d) HF 380) (Iv.mk (ko (-1)) (ko (-1)) false) 380 (pf _ _) akN,.o 29 (.e<|.jm<|congrArg iC hq:aj (iC<|iZ (jo (mT d) HF 380) (Iv.mk (ko (-1)) (ko (-1)) false) 380)<|iC q),.c<|aoQ q.lo hl lG kW hA,.c<|oQ<|nk q.lo,.c<|tU (iT<|nk q.lo) HF 380 (lY) LC,.c<|JC (mT d) (iO (iT<|nk q.lo) HF 380) 380 (tS hd)<|ku _ _,.o 40 (.e<|.jm<|congrArg iC s8:aj (iC<|jP (mT d) (iO (iT<|nk q.lo) HF 380) 380)<|iC r),ag [iC r,iP 380]<|aoV r 380 N hr aK aK hN uS ha xd pT,.a (aI:0<(4:Int)),iL<|(Int.tmod (nk q.lo) 4)+4,.a (aI:0<(4:Int)),.o 50<|ar (Int.tmod ((Int.tmod (nk q.lo) 4)+4) 4) (nk q.lo%4)<|asc _]<|.w ((nk q.lo%4)=0)
  (λk1=>ae [tB 52<|bl k1]<|rQ (.iK [iC<|rD r 380 N,iC<|rC r 380 N]) (.iK [iC<|zi (rD r 380 N) (rC r 380 N)<|nk q.lo%4,iC<|zg (rD r 380 N) (rC r 380 N)<|nk q.lo%4])<|by unfold zi zg;simp[k1])
  (λk1=>ae [tB 52<|bk k1]<|.w ((nk q.lo%4)=1)
   (λk2=>ae [tB 56<|bl k2,.c<|yn (rD r 380 N)<|SZ hr aK aK N]<|rQ (.iK [iC<|rC r 380 N,iC<|lg<|rD r 380 N]) (.iK [iC<|zi (rD r 380 N) (rC r 380 N)<|nk q.lo%4,iC<|zg (rD r 380 N) (rC r 380 N)<|nk q.lo%4])<|by unfold zi zg;simp[k1,k2])
   (λk2=>ae [tB 56<|bk k2]<|.w ((nk q.lo%4)=2)
    (λk3=>ae [tB 61<|bl k3,.c<|yn (rD r 380 N)<|SZ hr aK aK N,.c<|yn (rC r 380 N)<|SY hr aK aK N]<|rQ (.iK [iC<|lg<|rD r 380 N,iC<|lg<|rC r 380 N]) (.iK [iC<|zi (rD r 380 N) (rC r 380 N)<|nk q.lo%4,iC<|zg (rD r 380 N) (rC r 380 N)<|nk q.lo%4])<|by unfold zi zg;simp[k1,k2,k3])
    (λk3=>ae [tB 61<|bk k3,.c<|yn (rC r 380 N)<|SY hr aK aK N]<|rQ (.iK [iC<|lg<|rC r 380 N,iC<|rD r 380 N]) (.iK [iC<|zi (rD r 380 N) (rC r 380 N)<|nk q.lo%4,iC<|zg (rD r 380 N) (rC r 380 N)<|nk q.lo%4])<|by unfold zi zg;simp[k1,k2,k3]))))
def aoZ(h:d.m=0):iA 91 [iF d]<|iC<|iT 0:=
 iM (af [ah 8 (((iB d.m).length:Int)==0)<|sA<|oO.2 h,.c<|oQ 0])
def aoY(hd:d.iD)(hm:d.m≠0)(ht:d.jb<=30)(S Z:Iv)(h:iA 147 [iF d,iP 320]<|.iK [iC S,iC Z]):iA 91 [iF d]<|iC S:=
 iM (af [ai 8 (((iB d.m).length:Int)==0)<|nK λq=>hm<|oO.1 q,.c<|zf d hd.rY,tF 12 (30<(Dy.jb d)) aI,ag [iF d,iP 320] h])
def aoP(h:d.m=0):iA 92 [iF d]<|iC<|iT 1:=
 iM (af [ah 8 (((iB d.m).length:Int)==0)<|sA<|oO.2 h,.c<|oQ 1])
def aoO(hd:d.iD)(hm:d.m≠0)(ht:d.jb<=30)(S Z:Iv)(h:iA 147 [iF d,iP 320]<|.iK [iC S,iC Z]):iA 92 [iF d]<|iC Z:=
 iM (af [ai 8 (((iB d.m).length:Int)==0)<|nK λq=>hm<|oO.1 q,.c<|zf d hd.rY,tF 12 (30<(Dy.jb d)) aI,ag [iF d,iP 320] h])
end
def aek{z e:Int}(hz:z.natAbs<2^40)(h1:-100<=e)(h2:e<=100):G 380<|(z:Rat)*P2 e:=by
 have hb:iE z.natAbs<=40:=lE.2 hz;by_cases h:0<=z
 .refine .inl ⟨z.natAbs,e,aI,aI,aI,?_⟩;have:(z:Rat)=((z.natAbs:Nat):Rat):=by
   have:z=(z.natAbs:Int):= aI ;rw[<-dj,<-this]
  rw[this]
 .refine .inr ⟨z.natAbs,e,aI,aI,aI,?_⟩;have:(z:Rat) = -((z.natAbs:Nat):Rat):=by
   have:z = -(z.natAbs:Int):= aI ;rw[<-dj,<-dY,<-this]
  rw[this];grind
def YB:15707/10000<=tA.q:= aT 
def YA:qQ.q<=1571/1000:= aT 
def QC{θ:Rat}(h:HF.ja θ):15707/10000<=θ/\θ<=1571/1000:=by
 obtain⟨h1,h2⟩:=h.kA (x:=HF) rfl;have h3:=YB;have h4:=YA;replace h1:tA.q<=θ:=h1;replace h2:θ<=qQ.q:=h2;exact⟨bI h3 h1,bI h2 h4⟩
def ak7:lL HF≠0:= aT 
def Ef{d:Dy}{a:Rat}(h:(mT d).ja a):a=d.q:=by
 obtain⟨h1,h2⟩:=h.kA rfl;exact fw h2 h1
def WG{a b c:Rat}(hc:0<c)(h:a<=b*c):a/c<=b:=by
 have:=bK h<|bF<|dw.2 hc;rw[cB];rwa[dP,ez c aS,dL]at this
def amt{a b c:Rat}(hc:0<c)(h:b*c<=a):b<=a/c:=by
 have:=bK h<|bF<|dw.2 hc;rw[cB];rwa[dP,ez c aS,dL]at this
def adM:zr.iD:=by
 have h1:mz (-2) 0=zr.lo:= aT ;have h2:mz 2 0=zr.hi:= aT ;have v1:=AL (n:=-2) (e:=0) aK aK aK;have v2:=AL (n:=2) (e:=0) aK aK aK;rw[h1]at v1;rw[h2]at v2;exact .inr ⟨rfl,v1,v2,aT⟩
def acQ{r s:Iv}(hr:r.iD)(hs:s.iD)(h:Sub r s):∀ j,j<4294967296->Sub (jY r 380 j) (jY s 380 j)
 | 0,_=>Sub.refl _
 |j+1,hj=>ah5 (ku _ _ aK aK) (Cs (j+1) hj) (ku _ _ aK aK) (Cs (j+1) hj) aK aK 
  (am6 (qw hr aK aK j) hr (qw hs aK aK j) hs aK aK (acQ hr hs h j aI) h) (Sub.refl _)
def amX{x y:Iv}(hx:x.iD)(hy:y.iD)(h:Sub x y)(ya:y.all=false):(mB x).q<=(mB y).q:=by
 obtain⟨_,h1,h2⟩:=h.Bf ya;obtain⟨a1,a2,a3⟩:=yf hx.q;obtain⟨b1,b2,b3⟩:=yf hy.q;rcases a3 with a3|a3<;>grind
def aq4{r:Iv}(hr:r.iD)(h:Sub r zr):∃ N,7<=N/\N<=1000/\(∀ x,x<=N->(jY r 380 x).all=false)/\(∀ x,x<N->x<7\/¬jI (mB<|jY r 380 x) (ko<|0-((380:Nat):Int))<0)/\jI (mB<|jY r 380 N) (ko<|0-((380:Nat):Int))<0:=by
 obtain⟨e1,e2⟩:=aq3;have hs:=acQ hr adM h 100 aK;have ha:=(hs.Bf e1).1;have hm:=amX (qw hr aK aK 100) (qw adM aK aK 100) hs e1;rw[Jw]at e2;have hb:jI (mB<|jY r 380 100) (ko<|0-((380:Nat):Int))<0:=by rw[Jw];grind
 obtain⟨N,n1,n2,n3⟩:=ur (p:=λx=>decide (7<=x/\jI (mB<|jY r 380 x) (ko<|0-((380:Nat):Int))<0)) (n:=101) ⟨100,aK,bC ⟨aK,hb⟩⟩;have n2':=dK n2;refine⟨N,n2'.1,aI,λx hx=>?_,λx hx=>?_,n2'.2⟩
 .obtain ⟨d,hd⟩:∃ d,100=x+d:=⟨100-x,aI⟩
  rw[hd]at ha;exact acP ha
 .have:=gU<|n3 x hx;by_cases h7:x<7
  .exact .inl h7
  .exact .inr λq=>this ⟨aI,q⟩
def So{d:Dy}(h:d.m≠0):P2 (d.jb-1)<=iR d.q:=by
 have hT:d.jb=(iE d.m:Int)+d.e:=by unfold Dy.jb;rw[bw h]
 have hb:0<iE d.m:=xr.2 (by rw[cH];omega);have h1:2^(iE d.m-1)<=d.m:=xr.1 aI;have h2:((2^(iE d.m-1):Nat):Rat)<=(d.m:Rat):=cX.2 h1;have h3:=bK h2<|bF<|nb d.e;rw[<-vu,<-qZ,show((iE d.m-1:Nat):Int)+d.e=d.jb-1 by rw[hT];omega]at h3;have h4:iR d.q=(d.m:Rat)*P2 d.e:=by
  have h0:0<=(d.m:Rat)*P2 d.e:=bD cE<|bF<|nb _;rw[qt];unfold iR;cases d.neg
  .simp only[cz,bN];rw[bA h0]
  .simp only[bW];split<;>grind
 rw[h4];exact h3
def EF{z e:Int}(hz:z.natAbs<2^100)(h1:-100<=e)(h2:e<=100):G 380<|(z:Rat)*P2 e:=by
 have hb:iE z.natAbs<=100:=lE.2 hz;by_cases h:0<=z
 .refine .inl ⟨z.natAbs,e,aI,aI,aI,?_⟩;have:(z:Rat)=((z.natAbs:Nat):Rat):=by
   have:z=(z.natAbs:Int):= aI ;rw[<-dj,<-this]
  rw[this]
 .refine .inr ⟨z.natAbs,e,aI,aI,aI,?_⟩;have:(z:Rat) = -((z.natAbs:Nat):Rat):=by
   have:z = -(z.natAbs:Int):= aI ;rw[<-dj,<-dY,<-this]
  rw[this];grind
def UD:P2 (-20)=1/1048576:= aT 
def Oe:P2 (-33)=1/8589934592:= aT 
def ala:(qQ.q-tA.q)*1073741824*4<=1:= aT 
def amM{D:Rat}(h0:0<=D)(h1:D<=1073741824):∃ z:Int,0<=z/\z<=2^52/\∀ θ,HF.ja θ->(z:Rat)*(1/1048576)*θ<=D/\D-1/2<=(z:Rat)*(1/1048576)*θ:=by
 have t1:=YB;have t2:=YA;have hle:=Fl;have p2:0<qQ.q:= aS ;have e1:D*1048576/qQ.q*qQ.q=D*1048576:=cV aS;have f1:=Rat.floor_le (a:=D*1048576/qQ.q);have f2:=Rat.lt_floor_add_one (a:=D*1048576/qQ.q);obtain⟨z,hz⟩:∃ z,z=(D*1048576/qQ.q).floor:=⟨_,rfl⟩
 rw[<-hz]at f1 f2;have x0:0<=D*1048576/qQ.q:=yG aS p2;have z0:0<=z:=by
  have:(-1:Rat)<(z:Rat):= aS ;have:=(Rat.intCast_lt_intCast (a:=-1) (b:=z)).1 this;omega
 have zq:(0:Rat)<=(z:Rat):=by have:=cY (a:=0) (b:=z);exact this.2 z0
 have k1:=bK f1<|bF p2;have k2:=fA f2 p2;rw[e1]at k1 k2;refine⟨z,z0,?_,λθ hθ=>?_⟩
 .have m:=bY (show(1:Rat)<=qQ.q by grind) zq;have:(z:Rat)<=((2^52:Int):Rat):=by
   have:((2^52:Int):Rat)=4503599627370496:= aT ;rw[this];grind
  exact(cY (a:=z) (b:=2^52)).1 this
 .obtain ⟨a1,a2⟩:=hθ.kA (x:=HF) rfl;replace a1:tA.q<=θ:=a1;replace a2:θ<=qQ.q:=a2;have m1:=bY a2 zq;have m2:=bY a1 zq;have w:=ala;have zb:(z:Rat)<=1125899906842624:=by
   have m:=bY (show(1:Rat)<=qQ.q by grind) zq
   grind
  have m3:=bK zb (show 0<=qQ.q-tA.q by grind);constructor<;>grind
def asm{d:Dy}(hd:d.iD){z:Int}(z0:0<=z)(z1:z<=2^52)(sQ:∀ θ,HF.ja θ->(z:Rat)*(1/1048576)*θ<=d.q)(Cb:d.q<=1073741824)(sP:0<=d.q){q:Iv}(hq:iZ (jo (mT d) HF 380) ⟨ko (-1),ko (-1),false⟩ 380=q):
 q.iD/\(z:Rat)*(1/1048576)+1/2<=q.lo.q/\q.lo.q<=1073741825/\∀ θ,HF.ja θ->(q.lo.q-1/2)*θ<=d.q:=by
 have B:=Di (tS hd) LC rfl ak7 (show 1<=380 by decide) aK;have G1:G 380<|(z:Rat)*(1/1048576):=by rw[<-UD];exact EF aI aK aK 
 have G2:G 380 1073741824:=by have:=EF (z:=1073741824) (e:=0) aK aK aK;rwa[tC,show((1073741824:Int):Rat)*1=1073741824 by decide +kernel]at this
 have all:∀ r,(∃ a b,(mT d).ja a/\HF.ja b/\r=a/b)->(z:Rat)*(1/1048576)<=r/\r<=1073741824:=by
  rintro r ⟨a,b,ha,hb,rfl⟩;obtain⟨t1,t2⟩:=QC hb;have l1:=sQ b hb;rw[Ef ha];have rU:d.q<=1073741824*b:=by
   have:=bY (show(1:Rat)<=b by grind)<|show(0:Rat)<=1073741824 by decide
   grind
  exact⟨amt aS l1,WG aS rU⟩
 obtain⟨da,d1,d2⟩:=B.s9 _ _ G1 G2 all;have dv:(jo (mT d) HF 380).iD:=pf _ _ aK aK;have dhas:∀ θ,HF.ja θ->(jo (mT d) HF 380).ja (d.q/θ):=λθ hθ=>B.ja _ ⟨_,_,MH d,hθ,rfl⟩
 have e1:(ko (-1)).q=1/2:=by rw[yl];decide +kernel
 have hv:(Iv.mk (ko (-1)) (ko (-1)) false).iD:=.inr ⟨rfl,Bn aK aK,Bn aK aK,by show jI _ _<=0;rw[qf];exact bH⟩;have B2:=C1 dv hv da rfl (show 1<=380 by decide) aK;rw[hq]at B2;have G3:G 380<|(z:Rat)*(1/1048576)+1/2:=by
  have:=EF (z:=z+524288) (e:=-20) aI aK aK;rw[UD,fO,show((524288:Int):Rat)=524288 from rfl]at this;rwa[show((z:Rat)+524288)*(1/1048576)=(z:Rat)*(1/1048576)+1/2 by grind]at this
 have G4:G 380 1073741825:=by have:=EF (z:=1073741825) (e:=0) aK aK aK;rwa[tC,show((1073741825:Int):Rat)*1=1073741825 by decide +kernel]at this
 have ale:∀ b,(Iv.mk (ko (-1)) (ko (-1)) false).ja b->b=1/2:=λb hb=>by
  obtain⟨b1,b2⟩:=hb.kA rfl;replace b1:(ko (-1)).q<=b:=b1;replace b2:b<=(ko (-1)).q:=b2;rw[e1]at b1 b2;exact fw b2 b1
 obtain⟨qa,q1,q2⟩:=B2.s9 _ _ G3 G4 (by
  rintro r ⟨a,b,ha,hb,rfl⟩;obtain⟨a1,a2⟩:=ha.kA da;rw[ale b hb];constructor<;>grind)
 have qv:q.iD:=by rw[<-hq];exact mn dv hv aK aK 
 refine⟨qv,q1,bI qv.q q2,λθ hθ=>?_⟩;have hs:=B2.ja _ ⟨_,_,dhas θ hθ,show(Iv.mk (ko (-1)) (ko (-1)) false).ja (1/2)from .inr ⟨by rw[e1];exact bH,by rw[e1];exact bH⟩,rfl⟩;obtain⟨s1,_⟩:=hs.kA qa;obtain⟨t1,_⟩:=QC hθ;have qI:0<θ:= aS ;have:=bK (show q.lo.q-1/2<=d.q/θ by grind)<|bF qI;rwa[cV aS]at this
def amw{d:Dy}(hd:d.iD)(G1:G 380<|d.q-2)(G2:G 380<|d.q+2){k:Int}(hk:k.natAbs<4294967296)
 (pB:∀ θ,HF.ja θ->d.q-2<=(k:Rat)*θ/\(k:Rat)*θ<=d.q+2) {r:Iv} (hr:jP (mT d) (iO (iT k) HF 380) 380=r):
 r.iD/\Sub r zr/\∀ θ,HF.ja θ->r.ja (d.q-(k:Rat)*θ):=by
 have hkv:(iT k).iD:=lY hk;have B:=Co hkv LC rfl rfl (show 1<=380 by decide) aK;have hkq:∀ a,(iT k).ja a->a=(k:Rat):=λa ha=>by rw[Ef ha,uA]
 obtain⟨ma,m1,m2⟩:=B.s9 _ _ G1 G2 (by
  rintro r ⟨a,b,ha,hb,rfl⟩;rw[hkq a ha];exact pB b hb)
 have mv:(iO (iT k) HF 380).iD:=ku _ _ aK aK;have nv:=nO mv;have na:(lg<|iO (iT k) HF 380).all=false:=by unfold lg;rw[ma];rfl
 have B2:=C1 (tS hd) nv rfl na (show 1<=380 by decide) aK;have wA:iZ (mT d) (lg<|iO (iT k) HF 380) 380=r:=hr;rw[wA]at B2;have g2:G 380 2:=by have:=aek (z:=2) (e:=0) aK aK aK;rwa[tC,show((2:Int):Rat)*1=2 by decide +kernel]at this
 obtain⟨ra,r1,r2⟩:=B2.s9 (-2) 2 g2.neg g2 (by
  rintro r ⟨a,b,ha,hb,rfl⟩;rw[Ef ha];have e1:(lg<|iO (iT k) HF 380).lo.q = -(iO (iT k) HF 380).hi.q:=by unfold lg;rw[ma];exact oX _
  have e2:(lg<|iO (iT k) HF 380).hi.q = -(iO (iT k) HF 380).lo.q:=by unfold lg;rw[ma];exact oX _
  obtain⟨b1,b2⟩:=hb.kA na;rw[e1]at b1;rw[e2]at b2;constructor<;>grind)
 have t1:zr.lo.q = -2:= aT ;have t2:zr.hi.q=2:= aT ;refine⟨by rw[<-wA];exact mn (tS hd) nv aK aK,.inr ⟨ra,by rw[t1];exact r1,by rw[t2];exact r2⟩,λθ hθ=>?_⟩;rw[<-hr];exact Nn (tS hd) mv aK aK (MH d)<|B.ja _ ⟨_,_,by have:=yi k;exact this,hθ,rfl⟩
def ao0(d:Dy)(hd:d.iD){n:Int}(hn:d.q=(n:Rat)*(1/8589934592))(h1:0<=n)(h2:n<=2^63)(ht:d.jb<=30):
 ∃ S Z,S.iD/\Z.iD/\jr (SN d.q) S/\jr (CS d.q) Z/\iA 91 [iF d] (iC S)/\iA 92 [iF d] (iC Z):=by
 by_cases hm:d.m=0
 .have hq:d.q=0:=by rw[qt,hm];simp
  have hs:=Hc (c:=0) bH aT;refine⟨iT 0,iT 1,Cs 0 aK,Cs 1 aK,?_,?_,aoZ d hm,aoP d hm⟩
  .rw [hq];refine jr.Ct (k:=0) λN _=>?_
   have:=(hs N).2;obtain⟨_,a2,a3,_⟩:=jH<|SN 0 N;rw[show SN 0 N=0 by grind];exact yi 0
  .rw [hq];refine jr.Ct (k:=0) λN _=>?_
   have:=(hs N).1;obtain⟨_,a2,a3,_⟩:=jH<|CS 0 N-1;rw[show CS 0 N=1 by grind];exact yi 1
 .have qT:(0:Rat)<=(n:Rat):=by have:=cY (a:=0) (b:=n);exact this.2 h1
  have kX:(n:Rat)<=(9223372036854775808:Rat):=by have:=cY (a:=n) (b:=9223372036854775808);exact this.2 aI 
  have D0:0<=d.q:=by rw[hn];grind
  have D1:d.q<=1073741824:=by rw[hn];grind
  obtain⟨z,z0,z1,hz⟩:=amM D0 D1;have zq:(0:Rat)<=(z:Rat):=by have:=cY (a:=0) (b:=z);exact this.2 z0
  obtain⟨q,hq⟩:∃ q,iZ (jo (mT d) HF 380) ⟨ko (-1),ko (-1),false⟩ 380=q:=⟨_,rfl⟩
  obtain⟨qv,q1,q2,q3⟩:=asm hd z0 z1 (λθ hθ=>(hz θ hθ).1) D1 D0 hq;obtain⟨f1,f2⟩:=ajE q.lo;have k1:-1000000<=nk q.lo:=by
   have:=cY (a:=-1000000) (b:=nk q.lo);apply this.1;rw[show((-1000000:Int):Rat) = -1000000 from rfl]
   grind
  have k2:nk q.lo<=2000000000:=by
   have:=cY (a:=nk q.lo) (b:=2000000000);apply this.1;rw[show((2000000000:Int):Rat)=2000000000 from rfl]
   grind
  have hA:pg q.lo<=1000000000000:=by
   have a1:=(XI (d:=q.lo)).1;have a2:(q.lo.m:Rat)*P2 q.lo.e<=10000000000:=by
    have:=qt q.lo;cases DC:q.lo.neg<;>rw[DC]at this<;>simp only[cz,bN,bW]at this<;>grind
   have a3:((pg q.lo:Nat):Rat)<=((1000000000000:Nat):Rat):=by
    rw[show((1000000000000:Nat):Rat)=1000000000000 from rfl];grind
   exact cX.1 a3
  have LW:=qv.kA.1;have GA:G 380<|d.q-2:=by
   have:=EF (z:=n-17179869184) (e:=-33) aI aK aK;rw[Oe,at4,show((17179869184:Int):Rat)=17179869184 from rfl]at this;rwa[show((n:Rat)-17179869184)*(1/8589934592)=d.q-2 by rw[hn];grind]at this
  have GB:G 380<|d.q+2:=by
   have:=EF (z:=n+17179869184) (e:=-33) aI aK aK;rw[Oe,fO,show((17179869184:Int):Rat)=17179869184 from rfl]at this;rwa[show((n:Rat)+17179869184)*(1/8589934592)=d.q+2 by rw[hn];grind]at this
  obtain⟨r,s8⟩:∃ r,jP (mT d) (iO (iT<|nk q.lo) HF 380) 380=r:=⟨_,rfl⟩
  obtain⟨rv,rs,rh⟩:=amw hd GA GB (k:=nk q.lo) aI (λθ hθ=>by
   obtain⟨t1,t2⟩:=QC hθ;have l2:=(hz θ hθ).2;have h3:=q3 θ hθ;have qI:0<=θ:= aS ;have m1:=bK f1 qI;have m2:=bK (show(z:Rat)*(1/1048576)-1/2<=((nk q.lo:Int):Rat)by grind) qI;constructor<;>grind) s8
  obtain⟨N,n1,n2,n3,n4,n5⟩:=aq4 rv rs;have hb:=LW.bits;have hex:=LW.exp;have QP:(iB q.lo.m).length<=1000000:=by have:=LW.len;omega
  have YY:=aoW d hd q r hq qv QP aI aI hA aI aI s8 rv N n1 n2 n3 n4 n5;have tb:∀ ρ,r.ja ρ->iR ρ<=2:=λρ hρ=>by
   have:=rs.ja hρ;obtain⟨b1,b2⟩:=this.kA rfl;have t1:zr.lo.q = -2:= aT ;have t2:zr.hi.q=2:= aT ;rw[t1]at b1;rw[t2]at b2;exact qA b2 aS 
  obtain⟨L1,L2⟩:=asl (H:=HF) ak4 rh tb (n0:=N) (S:=rD r 380 N) (C:=rC r 380 N) λρ hρ M hM=>aq6 rv aK aK n1 n2 (n3 N<|bB _) n5 hρ (tb ρ hρ) M hM;have v1:=SZ rv (p:=380) aK aK N;have v2:=SY rv (p:=380) aK aK N;refine⟨_,_,?_,?_,L1,L2,aoY d hd hm ht _ _ YY,aoO d hd hm ht _ _ YY⟩
  .unfold zi;split
   .exact v1
   .split
    .exact v2
    .split
     .exact nO v1
     .exact nO v2
  .unfold zg;split
   .exact v2
   .split
    .exact nO v1
    .split
     .exact nO v2
     .exact v1
end Go.Proofs.YtbbefgegdllpmaaGreatDoor
namespace Go.Proofs.YtbbefgegdllpmaaGreatDoor.Fp
open Go.RowKit Fp Pu
def kD(a b:List Nat):Nat->List Nat
 | 0=>List.replicate (a.length+b.length+1) 0
 |i+1=>(jN (a.getD i 0) i b (kD a b i)<|b.length+1).1
structure aen(a b:List Nat)(i:Nat)(o:List Nat):Prop where
 ok:jc o
 len:o.length=a.length+b.length+1
 eq:val o=val (a.take i)*val b
 zero:∀ j,i+b.length<=j->o.getD j 0=0
def arb{L:List Nat}{k:Nat}(h:L.getD k 0=0):L.set k 0=L:=by
 apply ia;intro i;rw[List.getElem?_set];split
 .rename_i e;subst e;split
  .rename_i hl;rw[bJ,bS hl]at h;rw[bS hl,<-h];rfl
  .rename_i hl;exact(dp aI).symm
 .rfl
def aay{x i:Nat}{b o:List Nat}(hx:x<4294967296)(hb:jc b)(ho:jc o)(hl:i+b.length<=o.length)(hz:o.getD (i+b.length) 0=0):
 jN x i b o (b.length+1)=((jN x i b o b.length).1.set (i+b.length) (jN x i b o b.length).2,0):=by
 have q:=Cq hx hb ho hl b.length<|bB _;have h1:=q.qP (i+b.length)<|bB _;have h2:=q.lt;have h3:b.getD b.length 0=0:=by simp[bJ]
 have e:∀ c,x*b.getD b.length 0+(jN x i b o b.length).1.getD (i+b.length) 0+c=c:=λc=>by rw[h1,hz,h3];omega
 show((jN x i b o b.length).1.set (i+b.length)<|(x*b.getD b.length 0+(jN x i b o b.length).1.getD (i+b.length) 0+(jN x i b o b.length).2)%4294967296,(x*b.getD b.length 0+(jN x i b o b.length).1.getD (i+b.length) 0+(jN x i b o b.length).2)/4294967296)=_;rw[e,cw h2,cI h2]
def Mp{a b:List Nat}(ha:jc a)(hb:jc b):∀ i,i<=a.length->aen a b i (kD a b i)
 | 0,_=>⟨jc.CH _,by simp[kD],by simp[kD,Az,val],λj _=>by
  by_cases h:j<a.length+b.length+1<;>simp[kD,bJ,fG,h]⟩
 |i+1,hi=>by
  obtain⟨h1,h2,h3,h4⟩:=Mp ha hb i aI;obtain⟨q1,q2,q3,q4,q5⟩:=Cq (ha.getD i) hb h1 (i:=i) aI b.length<|bB _;have hv:=wP a i;have he:=aay (ha.getD i) hb h1 (i:=i) aI<|h4 _<|bB _;simp only[kD];rw[he];generalize jN (a.getD i 0) i b (kD a b i) b.length=r at *
  have uk:=zw (L:=r.1) (k:=i+b.length) (x:=r.2) aI;rw[q5 _<|bB _,h4 _<|bB _,cW,ch,q4,fo,h3]at uk;refine⟨q1.set _ q3,aV,?_,λj hj=>?_⟩
  .rw [uk,hv,ca,bO]
  .show (r.1.set (i+b.length) r.2).getD j 0=0;rw[wZ aI,q5 _ aI,h4 _ aI]
def asE{a b:List Nat}(ha:jc a)(hb:jc b):val (kD a b a.length)=val a*val b:=by
 have:=(Mp ha hb a.length<|bB _).eq;rwa[fo]at this
def aaz(x i:Nat)(b o:List Nat)(k:Nat):(jN x i b o<|k+1).1=(jN x i b o k).1.set (i+k) ((x*b.getD k 0+(jN x i b o k).1.getD (i+k) 0+(jN x i b o k).2)%4294967296%4294967296):=by
 rw[Nat.mod_mod];rfl
def am7{a b:List Nat}(ha:jc a)(hb:jc b){x:Nat}(hx:x<a.length):∃ N,b.length<=N/\N<=b.length+1/\(b.length<N->0<(jN (a.getD x 0) x b (kD a b x) b.length).2) /\
 (∀ k,k<=N->jc (jN (a.getD x 0) x b (kD a b x) k).1/\(jN (a.getD x 0) x b (kD a b x) k).1.length=a.length+b.length+1/\(jN (a.getD x 0) x b (kD a b x) k).2<4294967296)/\(jN (a.getD x 0) x b (kD a b x) N).2=0/\(jN (a.getD x 0) x b (kD a b x) N).1=kD a b (x+1):=by
 obtain⟨h1,h2,h3,h4⟩:=Mp ha hb x aI;have hs:=λk (hk:k<=b.length)=>Cq (ha.getD x) hb h1 (i:=x) aI k hk
 have he:=aay (ha.getD x) hb h1 (i:=x) aI<|h4 _<|bB _;have hf:kD a b (x+1)=(jN (a.getD x 0) x b (kD a b x)<|b.length+1).1:=rfl;have q:=hs b.length<|bB _;have ql:=q.len;by_cases h0:(jN (a.getD x 0) x b (kD a b x) b.length).2=0
 .refine ⟨b.length,bB _,aI,λh=>absurd h<|fN _,λk hk=>?_,h0,?_⟩
  .obtain ⟨a1,a2,a3,_,_⟩:=hs k hk;exact⟨a1,aI,a3⟩
  .rw [hf,he,h0];exact(arb<|by rw[q.qP _<|bB _,h4 _<|bB _]).symm
 .refine ⟨b.length+1,aI,bB _,λ_=>ep h0,λk hk=>?_,by rw[he],hf.symm⟩;by_cases BY:k<=b.length
  .obtain ⟨a1,a2,a3,_,_⟩:=hs k BY;exact⟨a1,aI,a3⟩
  .obtain rfl:k=b.length+1:= aI ;rw[he];exact⟨q.ok.set _ q.lt,by rw[di];omega,by show 0<4294967296;decide⟩
def mO(a n:Nat):Nat->Nat
 | 0=>0
 |j+1=>if(mO a n j+2^(n-j))*(mO a n j+2^(n-j))<=a then mO a n j+2^(n-j)else mO a n j
def acw{a n:Nat}(h:a<2^(2*(n+1))):∀ j,j<=n+1->mO a n j*mO a n j<=a/\a<(mO a n j+2^(n+1-j))*(mO a n j+2^(n+1-j))
 | 0,_=>by
  refine⟨cA _,?_⟩;show a<(0+2^(n+1))*(0+2^(n+1))
  rw[cJ,<-bG,(aI:n+1+(n+1)=2*(n+1))];exact h
 |j+1,hj=>by
  obtain⟨h1,h2⟩:=acw h j aI;have e:2^(n+1-j)=2^(n-j)+2^(n-j):=by rw[(aI:n+1-j=(n-j)+1),bV];omega
  rw[e]at h2;rw[(aI:n+1-(j+1)=n-j)];show(if _ then _ else _)*(if _ then _ else _)<=a/\a<((if _ then _ else _)+_)*((if _ then _ else _)+_)
  split
  .rename_i k;exact⟨k,by rw[dm];exact h2⟩
  .rename_i k;exact⟨h1,aI⟩
def aqQ{a n:Nat}(h:a<2^(2*(n+1))):yY a<|mO a n<|n+1:=by
 obtain⟨h1,h2⟩:=acw h (n+1)<|bB _;rw[dD]at h2;exact⟨h1,h2⟩
def aqD{a s t:Nat}(h:yY a s)(k:yY a t):s=t:=at0 (acp k h.1)<|acp h k.1
def acx{a n:Nat}:∀ j,mO a n j*mO a n j<=a
 | 0=>cA _
 |j+1=>by
  show(if _ then _ else _)*(if _ then _ else _)<=a;split
  .assumption
  .exact acx j
end Go.Proofs.YtbbefgegdllpmaaGreatDoor.Fp
namespace Go.Proofs.YtbbefgegdllpmaaGreatDoor
open Go.RowKit Fp Pu
def abG(a b:List Nat)(x:Nat):PS:=⟨64,false,[(6,.e<|iP x),(5,.own 16),(0,.e<|iG a),(1,.e<|iG b)],[(16,.row false 99 ((a.length+b.length)+1) 1<|jt<|kD a b x)]⟩
def abF(a b:List Nat)(x N:Nat)(k:Nat):PS:=⟨64,false,[(8,.e<|iP k),(7,.e<|.v<|.int .u64 (((jN (a.getD x 0) x b (kD a b x) k).2:Nat):Int)),(6,.e<|iP x),(5,.own 16),(0,.e<|iG a),(1,.e<|iG b)],[(16,.row false 99 ((a.length+b.length)+1) 1<|jt<|(jN (a.getD x 0) x b (kD a b x) k).1)]⟩
def abL(m:Nat)(x:Nat):PS:=⟨27,true,[(4,.e<|iP<|(((iE m+1)/2:Nat):Int)-x),(3,.e<|iG<|iB<|mO m ((iE m+1)/2) x),(0,.e<|iG<|iB m)],[]⟩
def apa(a b:List Nat)(ha:jc a)(hb:jc b)(h1:a.length<=3000)(h2:b.length<=3000):iA 155 [iG a,iG b]<|iG<|iB<|val a*val b:=by
 have so:=Mp ha hb a.length<|bB _;have sl:=so.len;have sk:=so.ok;exact oY (ae [iL<|(a.length:Int)+b.length,iL<|((a.length+b.length:Nat):Int)+1,.a (aI:0<=((((a.length+b.length)+1:Nat):Int):Int)/\((((a.length+b.length)+1:Nat):Int):Int)<=((((a.length+b.length)+1:Nat):Int):Int)),.a (aI:((4:Nat):Int)*(((a.length+b.length)+1:Nat):Int)<=281474976710656/\((((a.length+b.length)+1:Nat):Int):Int)<=9223372036854775807),.s (Sp.kj (abG a b) 0 a.length aI (λx hx mr=>by
    have f1:=ha.getD x;obtain⟨N,n1,n2,ali,yN,hz,wi⟩:=am7 ha hb (x:=x) aI;exact jg (ae [tT 20 ((x:Int)<a.length) aI,.s (Sp.kj (abF a b x N) 0 N aI (λk hk yW=>by
    have f2:=hb.getD k;obtain⟨q1,q2,q3⟩:=yN k aI;have f3:=q1.getD<|x+k;have f6:=RQ f1 f2;by_cases hk:k<b.length
    .exact jg (ae [tT 26 ((k:Int)<b.length) aI,iX (x:Int)<|a.length,.o 37 (.int<|px _:aj (.v<|.int .u64<|IntKind.u64.wrap (a.getD x 0:Int))<|.v<|.int .u64 (a.getD x 0:Int)),.c<|y7 b k hb,
      nW ((a.getD x 0:Int)*(b.getD k 0:Int)),iL<|(x:Int)+k,iX ((x+k:Nat):Int)<|(a.length+b.length)+1,.a (aI:(x+k)<((a.length+b.length)+1)),.o 48 (.int<|px _:aj (.v<|.int .u64<|IntKind.u64.wrap ((((jN (a.getD x 0) x b (kD a b x) k).1).getD (x+k) 0:Nat):Int))<|.v<|.int .u64 ((((jN (a.getD x 0) x b (kD a b x) k).1).getD (x+k) 0:Nat):Int)),
      nW ((((a.getD x 0)*(b.getD k 0):Nat):Int)+((((jN (a.getD x 0) x b (kD a b x) k).1).getD (x+k) 0:Nat):Int)),
      nW (((((a.getD x 0)*(b.getD k 0))+(((jN (a.getD x 0) x b (kD a b x) k).1).getD (x+k) 0):Nat):Int)+(((jN (a.getD x 0) x b (kD a b x) k).2:Nat):Int)),
      iL ((x:Int)+k),.o 57 (.int<|CP _:aj (.v<|.int .u64<|bits .and .u64 (((((a.getD x 0)*(b.getD k 0))+(((jN (a.getD x 0) x b (kD a b x) k).1).getD (x+k) 0))+(jN (a.getD x 0) x b (kD a b x) k).2:Nat):Int) 4294967295)<|.v<|.int .u64 ((((((a.getD x 0)*(b.getD k 0))+(((jN (a.getD x 0) x b (kD a b x) k).1).getD (x+k) 0))+(jN (a.getD x 0) x b (kD a b x) k).2)%4294967296:Nat):Int)),.o 58 (.int<|tX _:aj (.v<|.int .u32<|IntKind.u32.wrap ((((((a.getD x 0)*(b.getD k 0))+(((jN (a.getD x 0) x b (kD a b x) k).1).getD (x+k) 0))+(jN (a.getD x 0) x b (kD a b x) k).2)%4294967296:Nat):Int))<|.v<|.int .u32 (((((((a.getD x 0)*(b.getD k 0))+(((jN (a.getD x 0) x b (kD a b x) k).1).getD (x+k) 0))+(jN (a.getD x 0) x b (kD a b x) k).2)%4294967296)%4294967296:Nat):Int)),
      iX ((x+k:Nat):Int) ((a.length+b.length)+1),.a (aI:(x+k)<((a.length+b.length)+1)),.a (aI:0<=(32:Int)/\(32:Int)<=((64:Nat):Int)),.o 61 (.int<|Al _:aj (.v<|.int .u64<|(((((a.getD x 0)*(b.getD k 0))+(((jN (a.getD x 0) x b (kD a b x) k).1).getD (x+k) 0))+(jN (a.getD x 0) x b (kD a b x) k).2:Nat):Int)/2^32)<|.v<|.int .u64 ((((((a.getD x 0)*(b.getD k 0))+(((jN (a.getD x 0) x b (kD a b x) k).1).getD (x+k) 0))+(jN (a.getD x 0) x b (kD a b x) k).2)/4294967296:Nat):Int)),
      iL ((k:Int)+1)]<|.e<|af [.o 7<|.int (k:=.u64) (by first|rfl|omega|(simp only[ca,cj];omega):((((((a.getD x 0)*(b.getD k 0))+(((jN (a.getD x 0) x b (kD a b x) k).1).getD (x+k) 0))+(jN (a.getD x 0) x b (kD a b x) k).2)/4294967296:Nat):Int)=(((jN (a.getD x 0) x b (kD a b x)<|k+1).2:Nat):Int)),.b 16 (by rw[aaz];exact JK rfl:Bx.le (.row false 99 ((a.length+b.length)+1) 1 λi' j'=>if i'=(x+k)/\0<=j'/\j'<0+1 then[.v<|.int .u32 (((((((a.getD x 0)*(b.getD k 0))+(((jN (a.getD x 0) x b (kD a b x) k).1).getD (x+k) 0))+(jN (a.getD x 0) x b (kD a b x) k).2)%4294967296)%4294967296:Nat):Int)].getD (j'-0) .any else(jt<|(jN (a.getD x 0) x b (kD a b x) k).1) i' j')<|.row false 99 ((a.length+b.length)+1) 1<|jt<|(jN (a.getD x 0) x b (kD a b x)<|k+1).1)]) aM 
    .have QL:k=b.length:= aI ;have nD:=ali aI;rw[<-QL]at nD;exact jg (ae [tF 26 ((k:Int)<b.length) aI,tT 29 (0<(((jN (a.getD x 0) x b (kD a b x) k).2:Nat):Int)) aI,iX (x:Int)<|a.length,.o 37 (.int<|px _:aj (.v<|.int .u64<|IntKind.u64.wrap (a.getD x 0:Int))<|.v<|.int .u64 (a.getD x 0:Int)),.c<|y7 b k hb,
      nW ((a.getD x 0:Int)*(b.getD k 0:Int)),iL<|(x:Int)+k,iX ((x+k:Nat):Int)<|(a.length+b.length)+1,.a (aI:(x+k)<((a.length+b.length)+1)),.o 48 (.int<|px _:aj (.v<|.int .u64<|IntKind.u64.wrap ((((jN (a.getD x 0) x b (kD a b x) k).1).getD (x+k) 0:Nat):Int))<|.v<|.int .u64 ((((jN (a.getD x 0) x b (kD a b x) k).1).getD (x+k) 0:Nat):Int)),
      nW ((((a.getD x 0)*(b.getD k 0):Nat):Int)+((((jN (a.getD x 0) x b (kD a b x) k).1).getD (x+k) 0:Nat):Int)),
      nW (((((a.getD x 0)*(b.getD k 0))+(((jN (a.getD x 0) x b (kD a b x) k).1).getD (x+k) 0):Nat):Int)+(((jN (a.getD x 0) x b (kD a b x) k).2:Nat):Int)),
      iL ((x:Int)+k),.o 57 (.int<|CP _:aj (.v<|.int .u64<|bits .and .u64 (((((a.getD x 0)*(b.getD k 0))+(((jN (a.getD x 0) x b (kD a b x) k).1).getD (x+k) 0))+(jN (a.getD x 0) x b (kD a b x) k).2:Nat):Int) 4294967295)<|.v<|.int .u64 ((((((a.getD x 0)*(b.getD k 0))+(((jN (a.getD x 0) x b (kD a b x) k).1).getD (x+k) 0))+(jN (a.getD x 0) x b (kD a b x) k).2)%4294967296:Nat):Int)),.o 58 (.int<|tX _:aj (.v<|.int .u32<|IntKind.u32.wrap ((((((a.getD x 0)*(b.getD k 0))+(((jN (a.getD x 0) x b (kD a b x) k).1).getD (x+k) 0))+(jN (a.getD x 0) x b (kD a b x) k).2)%4294967296:Nat):Int))<|.v<|.int .u32 (((((((a.getD x 0)*(b.getD k 0))+(((jN (a.getD x 0) x b (kD a b x) k).1).getD (x+k) 0))+(jN (a.getD x 0) x b (kD a b x) k).2)%4294967296)%4294967296:Nat):Int)),
      iX ((x+k:Nat):Int) ((a.length+b.length)+1),.a (aI:(x+k)<((a.length+b.length)+1)),.a (aI:0<=(32:Int)/\(32:Int)<=((64:Nat):Int)),.o 61 (.int<|Al _:aj (.v<|.int .u64<|(((((a.getD x 0)*(b.getD k 0))+(((jN (a.getD x 0) x b (kD a b x) k).1).getD (x+k) 0))+(jN (a.getD x 0) x b (kD a b x) k).2:Nat):Int)/2^32)<|.v<|.int .u64 ((((((a.getD x 0)*(b.getD k 0))+(((jN (a.getD x 0) x b (kD a b x) k).1).getD (x+k) 0))+(jN (a.getD x 0) x b (kD a b x) k).2)/4294967296:Nat):Int)),
      iL ((k:Int)+1)]<|.e<|af [.o 7<|.int (k:=.u64) (by first|rfl|omega|(simp only[ca,cj];omega):((((((a.getD x 0)*(b.getD k 0))+(((jN (a.getD x 0) x b (kD a b x) k).1).getD (x+k) 0))+(jN (a.getD x 0) x b (kD a b x) k).2)/4294967296:Nat):Int)=(((jN (a.getD x 0) x b (kD a b x)<|k+1).2:Nat):Int)),.b 16 (by rw[aaz];exact JK rfl:Bx.le (.row false 99 ((a.length+b.length)+1) 1 λi' j'=>if i'=(x+k)/\0<=j'/\j'<0+1 then[.v<|.int .u32 (((((((a.getD x 0)*(b.getD k 0))+(((jN (a.getD x 0) x b (kD a b x) k).1).getD (x+k) 0))+(jN (a.getD x 0) x b (kD a b x) k).2)%4294967296)%4294967296:Nat):Int)].getD (j'-0) .any else(jt<|(jN (a.getD x 0) x b (kD a b x) k).1) i' j')<|.row false 99 ((a.length+b.length)+1) 1<|jt<|(jN (a.getD x 0) x b (kD a b x)<|k+1).1)]) aM)
  (λhk=>by
    exact jg (af [tF 26 ((N:Int)<b.length) aI,tF 29 (0<(((jN (a.getD x 0) x b (kD a b x) N).2:Nat):Int)) aI]) aM) aQ:ki 7 f155 (abF a b x N 0) (.exit 2) ⟨64,false,[(29,.e<|bP false),(28,.e<|.v<|.int .u64 (((jN (a.getD x 0) x b (kD a b x) N).2:Nat):Int)),(6,.e<|iP x),(5,.own 16),(0,.e<|iG a),(1,.e<|iG b)],[(16,.row false 99 ((a.length+b.length)+1) 1<|jt<|(jN (a.getD x 0) x b (kD a b x) N).1)]⟩)<|af [.o 7<|.int (k:=.u64) (by first|rfl|omega|(simp only[ca,cj];omega):0=(((jN (a.getD x 0) x b (kD a b x) 0).2:Nat):Int)),.b 16 (.jm<|by first|rfl|rw[wi]:Bx.le (.row false 99 ((a.length+b.length)+1) 1<|jt<|kD a b x)<|.row false 99 ((a.length+b.length)+1) 1<|jt<|(jN (a.getD x 0) x b (kD a b x) 0).1)],
     iL ((x:Int)+1)]<|.e<|af [.b 16 (.jm<|by first|rfl|rw[wi]:Bx.le (.row false 99 ((a.length+b.length)+1) 1<|jt<|(jN (a.getD x 0) x b (kD a b x) N).1)<|.row false 99 ((a.length+b.length)+1) 1<|jt<|kD a b<|x+1)]) aM)
  (λhx=>by
    exact jg (ae [tF 20 ((a.length:Int)<a.length) aI,.z 16]<|.e<|af [.o 5 (.e<|Am sl.symm:aj (.sl false ((a.length+b.length)+1) 1<|jt<|kD a b a.length)<|iG<|kD a b a.length)]) aM) aQ:ki 3 f155 (abG a b 0) (.exit 0) ⟨64,false,[(5,.e<|iG<|kD a b a.length)],[]⟩)<|af [.b 16 (F9 rfl (λi=>by simp[kD,bJ,fG];split<;>rfl):Bx.le (.row false 99 ((a.length+b.length)+1) 1 λ_ j_=>[.v<|.int .u32 0].getD j_ .any)<|.row false 99 ((a.length+b.length)+1) 1<|jt<|kD a b 0)],.cf<|ze (kD a b a.length) aJ a7]<|rQ (iG<|iI<|kD a b a.length) (iG<|iB<|val a*val b)<|by rw[sY sk,asE ha hb])
def ML(m n:Nat)(h:(iB m).length<=3000:=by omega)(k:(iB n).length<=3000:=by omega):iA 155 [iG<|iB m,iG<|iB n]<|iG<|iB<|m*n:=by
 have:=apa (iB m) (iB n) (lO m) (lO n) h k;rwa[kE,kE]at this
def abI(m:Nat)(z:Int)(n:Nat)(hz:z=(n:Int))(h:(iB m).length<=10000)(k:n<=1000000):iA 151 [iG<|iB m,iP z]<|iG<|iB<|m*2^n:=by
 subst hz;exact F1 m n h k
def aqP(m n x:Nat):mO m n x<=m:=by
 refine b9 ?_ (acx (a:=m) (n:=n) x);by_cases h:mO m n x=0
 .rw [h];exact bB _
 .exact atD _<|ep h
def anL{m n:Nat}:E.le (.v<|.slice none 0 0)<|iG<|iB<|mO m n 0:=by
 show E.le _ (iG<|iB 0);rw[oP];exact .nil _ _ _
def Wh{a b:Nat}:kP a b<=0↔a<=b:=by
 unfold kP;split
 .omega
 .split<;>omega
section
variable(m:Nat)(hb:iE m<=8192)
def ape:iA 152 [iG<|iB m]<|iG<|iB<|mO m ((iE m+1)/2)<|((iE m+1)/2)+1:=by
 have h1:(iB m).length<=256:=nJ;have z0:(iB 1).length<=256:=nJ aK;exact iM (af [.c<|Bp m,iL<|(iE m:Int)+1,.a (aI:0<(2:Int)),iL (((iE m)+1:Nat):Int),.s (Sp.kj (abL m) 0 (((iE m+1)/2)+1) aI (λx hx mr=>by
    have c1:iE (mO m ((iE m+1)/2) x)<=8192:=b9 (ub<|aqP m _ x) hb;have c2:iE (1*2^(((iE m+1)/2)-x))<=8192:=by rw[cj,OL];omega
    have c3:=VF c1 c2;have c4:=VH ((mO m ((iE m+1)/2) x)+(1*2^(((iE m+1)/2)-x)))<|(mO m ((iE m+1)/2) x)+(1*2^(((iE m+1)/2)-x));have z1:(iB<|mO m ((iE m+1)/2) x).length<=3000:=nJ;have z2:(iB<|1*2^(((iE m+1)/2)-x)).length<=3000:=nJ;have z3:(iB<|(mO m ((iE m+1)/2) x)+(1*2^(((iE m+1)/2)-x))).length<=3000:=nJ;have z4:(iB<|((mO m ((iE m+1)/2) x)+(1*2^(((iE m+1)/2)-x)))*((mO m ((iE m+1)/2) x)+(1*2^(((iE m+1)/2)-x)))).length<=3000:=nJ;by_cases h:((mO m ((iE m+1)/2) x)+(1*2^(((iE m+1)/2)-x)))*((mO m ((iE m+1)/2) x)+(1*2^(((iE m+1)/2)-x)))<=m
    .have hS:(mO m ((iE m+1)/2)<|x+1)=((mO m ((iE m+1)/2) x)+(1*2^(((iE m+1)/2)-x))):=by rw[cj]at h ⊢;exact bA h
     exact jg (ae [tT 11 (0<=((((iE m+1)/2:Nat):Int)-x)) aI,.o 15 (.e wL:aj (.sl false 1 1 λi_ j_=>[.v<|.int .u32 1].getD (i_*1+j_)<|.v<|.bool false)<|iG<|iB 1),ag [iG<|iB 1,iP<|(((iE m+1)/2:Nat):Int)-x]<|abI _ _ (((iE m+1)/2)-x) aI aI aI,.c<|Jy (mO m ((iE m+1)/2) x)<|1*2^(((iE m+1)/2)-x),ag [iG<|iB<|(mO m ((iE m+1)/2) x)+(1*2^(((iE m+1)/2)-x)),iG<|iB<|(mO m ((iE m+1)/2) x)+(1*2^(((iE m+1)/2)-x))]<|ML _ _,.c<|Jz (((mO m ((iE m+1)/2) x)+(1*2^(((iE m+1)/2)-x)))*((mO m ((iE m+1)/2) x)+(1*2^(((iE m+1)/2)-x)))) m,tT 24 ((kP (((mO m ((iE m+1)/2) x)+(1*2^(((iE m+1)/2)-x)))*((mO m ((iE m+1)/2) x)+(1*2^(((iE m+1)/2)-x)))) m)<=0)<|Wh.2 h,
      iL (((((iE m+1)/2:Nat):Int)-x)-1)]<|.e<|af [.o 4<|ar (((((iE m+1)/2:Nat):Int)-x)-1) ((((iE m+1)/2:Nat):Int)-((x+1:Nat):Int)) aZ,.o 3 (.e<|.jm<|by rw[hS]:aj (iG<|iB<|(mO m ((iE m+1)/2) x)+(1*2^(((iE m+1)/2)-x)))<|iG<|iB<|mO m ((iE m+1)/2)<|x+1)]) aM 
    .have hS:(mO m ((iE m+1)/2)<|x+1)=(mO m ((iE m+1)/2) x):=by rw[cj]at h;exact bw h
     exact jg (ae [tT 11 (0<=((((iE m+1)/2:Nat):Int)-x)) aI,.o 15 (.e wL:aj (.sl false 1 1 λi_ j_=>[.v<|.int .u32 1].getD (i_*1+j_)<|.v<|.bool false)<|iG<|iB 1),ag [iG<|iB 1,iP<|(((iE m+1)/2:Nat):Int)-x]<|abI _ _ (((iE m+1)/2)-x) aI aI aI,.c<|Jy (mO m ((iE m+1)/2) x)<|1*2^(((iE m+1)/2)-x),ag [iG<|iB<|(mO m ((iE m+1)/2) x)+(1*2^(((iE m+1)/2)-x)),iG<|iB<|(mO m ((iE m+1)/2) x)+(1*2^(((iE m+1)/2)-x))]<|ML _ _,.c<|Jz (((mO m ((iE m+1)/2) x)+(1*2^(((iE m+1)/2)-x)))*((mO m ((iE m+1)/2) x)+(1*2^(((iE m+1)/2)-x)))) m,tF 24 ((kP (((mO m ((iE m+1)/2) x)+(1*2^(((iE m+1)/2)-x)))*((mO m ((iE m+1)/2) x)+(1*2^(((iE m+1)/2)-x)))) m)<=0) λq=>h<|Wh.1 q,
      iL (((((iE m+1)/2:Nat):Int)-x)-1)]<|.e<|af [.o 4<|ar (((((iE m+1)/2:Nat):Int)-x)-1) ((((iE m+1)/2:Nat):Int)-((x+1:Nat):Int)) aZ,.o 3 (.e<|.jm<|by rw[hS]:aj (iG<|iB<|mO m ((iE m+1)/2) x)<|iG<|iB<|mO m ((iE m+1)/2)<|x+1)]) aM)
  (λhx=>by
    exact jg (af [tF 11 (0<=((((iE m+1)/2:Nat):Int)-((((iE m+1)/2)+1:Nat):Int))) aI]) aM) aQ:ki 3 f152 (abL m 0) (.exit 0) ⟨27,true,[(3,.e<|iG<|iB<|mO m ((iE m+1)/2)<|((iE m+1)/2)+1)],[]⟩)<|af [.o 4<|ar ((((iE m)+1)/2:Nat):Int) ((((iE m+1)/2:Nat):Int)-((0:Nat):Int)) aZ,.o 3 (.e anL:aj (.v<|.slice none 0 0)<|iG<|iB<|mO m ((iE m+1)/2) 0)]])
def abM:iA 152 [iG<|iB m]<|iG<|iB<|mC m:=by
 have h:=aqQ (a:=m) (n:=(iE m+1)/2)<|cg (qL m)<|bZ aK aI;rw[aqD (Aj m) h];exact ape m hb
end
def JO{d:Dy}{p:Nat}(iU:8<=p)(h0:d.m≠0):p<iE (mC<|d.m*2^pq d p):=by
 refine SK (Aj _) ?_;rw[rJ h0];unfold pq;split<;>omega
section
variable(d:Dy)(p:Nat)(up:Bool)(hd:d.iD)(hn:d.neg=false)(h0:d.m≠0)(iU:8<=p)(iJ:p<=512)
def apo(qS:Int.tmod (d.e-((2*p+4-(iE d.m):Nat):Int)) 2=0):iA 98 [iF d,iP p,bP up]<|.iK [iF<|tq d p up,iP<|xz d p up]:=by
 have hl:=hd.iB;have hx:=hd.exp;have hr:=hd.range.resolve_left h0;have bp:=og h0;have hK:pq d p=(2*p+4-(iE d.m)):=by unfold pq;rw[bA qS]
 have he:=Es d p;rw[hK]at he;have hb:=rJ h0<|2*p+4-(iE d.m);have z1:(iB<|d.m*2^(2*p+4-(iE d.m))).length<=256:=nJ;have uR:(d.m*2^(2*p+4-(iE d.m)))≠0:=eN h0<|eO<|bL aK;have vd:=Aj<|d.m*2^(2*p+4-(iE d.m));have DM:=SK vd (p:=p) aI;have z2:(iB<|mC (d.m*2^(2*p+4-(iE d.m)))*mC (d.m*2^(2*p+4-(iE d.m)))).length<=256:=b9 (wC vd.1) z1;have z3:(iB<|mC<|d.m*2^(2*p+4-(iE d.m))).length<=256:=b9 (wC<|b9 (ada _) vd.1) z1;have Lj:mC (d.m*2^(2*p+4-(iE d.m)))≠0\/mC (d.m*2^(2*p+4-(iE d.m)))=0/\(d.e-((2*p+4-(iE d.m):Nat):Int))/2=0/\((kP (mC (d.m*2^(2*p+4-(iE d.m)))*mC (d.m*2^(2*p+4-(iE d.m))))<|d.m*2^(2*p+4-(iE d.m))) != 0)=false:=.inl (λq=>by rw[q,tE]at DM;omega);have zT:((kP (mC (d.m*2^(2*p+4-(iE d.m)))*mC (d.m*2^(2*p+4-(iE d.m))))<|d.m*2^(2*p+4-(iE d.m))) != 0)=true->p<iE (mC<|d.m*2^(2*p+4-(iE d.m))):=λ_=>DM
 exact iM (ae [.c<|F2 d d p aJ aJ,ai 17 ((0:Int) != 0) aK,ai 21 d.neg hn,ai 26 (((iB d.m).length:Int)==0)<|nK<|pF h0,iL<|2*(p:Int),iL<|((2*p:Nat):Int)+4,.c<|Bp d.m,
  iL ((((2*p)+4:Nat):Int)-(iE d.m:Int)),.o 35<|ar (if((((2*p)+4:Nat):Int)-(iE d.m:Int))>0 then((((2*p)+4:Nat):Int)-(iE d.m:Int))else 0) ((2*p+4-(iE d.m):Nat):Int) aU,
  iL (d.e-((2*p+4-(iE d.m):Nat):Int)),.a (aI:0<(2:Int)),ai 41 ((Int.tmod (d.e-((2*p+4-(iE d.m):Nat):Int)) 2) != 0)<|by simpa using qS,.c<|F1 d.m<|2*p+4-(iE d.m),ag [iG<|iB<|d.m*2^(2*p+4-(iE d.m))]<|abM _ aI,iL<|d.e-((2*p+4-(iE d.m):Nat):Int),.a (aI:0<(2:Int)),iL<|d.e-((2*p+4-(iE d.m):Nat):Int),.o 55<|ar (Int.tdiv (d.e-((2*p+4-(iE d.m):Nat):Int)) 2) ((d.e-((2*p+4-(iE d.m):Nat):Int))/2) (by generalize hy:(d.e-((2*p+4-(iE d.m):Nat):Int))/2=y at *;rw[he];exact aul _ aK),ag [iG<|iB<|mC<|d.m*2^(2*p+4-(iE d.m)),iG<|iB<|mC<|d.m*2^(2*p+4-(iE d.m))]<|ML _ _,.c<|Jz ((mC<|d.m*2^(2*p+4-(iE d.m)))*(mC<|d.m*2^(2*p+4-(iE d.m))))<|d.m*2^(2*p+4-(iE d.m)),.c<|MM false (mC<|d.m*2^(2*p+4-(iE d.m))) ((d.e-((2*p+4-(iE d.m):Nat):Int))/2) ((kP ((mC<|d.m*2^(2*p+4-(iE d.m)))*(mC<|d.m*2^(2*p+4-(iE d.m))))<|d.m*2^(2*p+4-(iE d.m))) != 0) p up]<|rQ (.iK [iF<|j9 false (mC<|d.m*2^(2*p+4-(iE d.m))) ((d.e-((2*p+4-(iE d.m):Nat):Int))/2) ((kP ((mC<|d.m*2^(2*p+4-(iE d.m)))*(mC<|d.m*2^(2*p+4-(iE d.m))))<|d.m*2^(2*p+4-(iE d.m))) != 0) p up,iP<|jW false (mC<|d.m*2^(2*p+4-(iE d.m))) ((d.e-((2*p+4-(iE d.m):Nat):Int))/2) ((kP ((mC<|d.m*2^(2*p+4-(iE d.m)))*(mC<|d.m*2^(2*p+4-(iE d.m))))<|d.m*2^(2*p+4-(iE d.m))) != 0) p up]) (.iK [iF<|tq d p up,iP<|xz d p up])<|by unfold tq xz vq Bu;rw[hK,acq])
def apq(qS:¬Int.tmod (d.e-((2*p+4-(iE d.m):Nat):Int)) 2=0):iA 98 [iF d,iP p,bP up]<|.iK [iF<|tq d p up,iP<|xz d p up]:=by
 have hl:=hd.iB;have hx:=hd.exp;have hr:=hd.range.resolve_left h0;have bp:=og h0;have hK:pq d p=((2*p+4-(iE d.m))+1):=by unfold pq;rw[bw qS]
 have he:=Es d p;rw[hK]at he;have hb:=rJ h0<|(2*p+4-(iE d.m))+1;have z1:(iB<|d.m*2^((2*p+4-(iE d.m))+1)).length<=256:=nJ;have uR:(d.m*2^((2*p+4-(iE d.m))+1))≠0:=eN h0<|eO<|bL aK;have vd:=Aj<|d.m*2^((2*p+4-(iE d.m))+1);have DM:=SK vd (p:=p) aI;have z2:(iB<|mC (d.m*2^((2*p+4-(iE d.m))+1))*mC (d.m*2^((2*p+4-(iE d.m))+1))).length<=256:=b9 (wC vd.1) z1;have z3:(iB<|mC<|d.m*2^((2*p+4-(iE d.m))+1)).length<=256:=b9 (wC<|b9 (ada _) vd.1) z1;have Lj:mC (d.m*2^((2*p+4-(iE d.m))+1))≠0\/mC (d.m*2^((2*p+4-(iE d.m))+1))=0/\(d.e-(((2*p+4-(iE d.m))+1:Nat):Int))/2=0/\((kP (mC (d.m*2^((2*p+4-(iE d.m))+1))*mC (d.m*2^((2*p+4-(iE d.m))+1)))<|d.m*2^((2*p+4-(iE d.m))+1)) != 0)=false:=.inl (λq=>by rw[q,tE]at DM;omega);have zT:((kP (mC (d.m*2^((2*p+4-(iE d.m))+1))*mC (d.m*2^((2*p+4-(iE d.m))+1)))<|d.m*2^((2*p+4-(iE d.m))+1)) != 0)=true->p<iE (mC<|d.m*2^((2*p+4-(iE d.m))+1)):=λ_=>DM
 exact iM (ae [.c<|F2 d d p aJ aJ,ai 17 ((0:Int) != 0) aK,ai 21 d.neg hn,ai 26 (((iB d.m).length:Int)==0)<|nK<|pF h0,iL<|2*(p:Int),iL<|((2*p:Nat):Int)+4,.c<|Bp d.m,
  iL ((((2*p)+4:Nat):Int)-(iE d.m:Int)),.o 35<|ar (if((((2*p)+4:Nat):Int)-(iE d.m:Int))>0 then((((2*p)+4:Nat):Int)-(iE d.m:Int))else 0) ((2*p+4-(iE d.m):Nat):Int) aU,
  iL (d.e-((2*p+4-(iE d.m):Nat):Int)),.a (aI:0<(2:Int)),ah 41 ((Int.tmod (d.e-((2*p+4-(iE d.m):Nat):Int)) 2) != 0)<|by simpa using qS,
  iL (((2*p+4-(iE d.m):Nat):Int)+1),.c<|F1 d.m<|(2*p+4-(iE d.m))+1,ag [iG<|iB<|d.m*2^((2*p+4-(iE d.m))+1)]<|abM _ aI,
  iL (d.e-(((2*p+4-(iE d.m))+1:Nat):Int)),.a (aI:0<(2:Int)),iL<|d.e-(((2*p+4-(iE d.m))+1:Nat):Int),.o 55<|ar (Int.tdiv (d.e-(((2*p+4-(iE d.m))+1:Nat):Int)) 2) ((d.e-(((2*p+4-(iE d.m))+1:Nat):Int))/2) (by generalize hy:(d.e-(((2*p+4-(iE d.m))+1:Nat):Int))/2=y at *;rw[he];exact aul _ aK),ag [iG<|iB<|mC<|d.m*2^((2*p+4-(iE d.m))+1),iG<|iB<|mC<|d.m*2^((2*p+4-(iE d.m))+1)]<|ML _ _,.c<|Jz ((mC<|d.m*2^((2*p+4-(iE d.m))+1))*(mC<|d.m*2^((2*p+4-(iE d.m))+1)))<|d.m*2^((2*p+4-(iE d.m))+1),.c<|MM false (mC<|d.m*2^((2*p+4-(iE d.m))+1)) ((d.e-(((2*p+4-(iE d.m))+1:Nat):Int))/2) ((kP ((mC<|d.m*2^((2*p+4-(iE d.m))+1))*(mC<|d.m*2^((2*p+4-(iE d.m))+1)))<|d.m*2^((2*p+4-(iE d.m))+1)) != 0) p up]<|rQ (.iK [iF<|j9 false (mC<|d.m*2^((2*p+4-(iE d.m))+1)) ((d.e-(((2*p+4-(iE d.m))+1:Nat):Int))/2) ((kP ((mC<|d.m*2^((2*p+4-(iE d.m))+1))*(mC<|d.m*2^((2*p+4-(iE d.m))+1)))<|d.m*2^((2*p+4-(iE d.m))+1)) != 0) p up,iP<|jW false (mC<|d.m*2^((2*p+4-(iE d.m))+1)) ((d.e-(((2*p+4-(iE d.m))+1:Nat):Int))/2) ((kP ((mC<|d.m*2^((2*p+4-(iE d.m))+1))*(mC<|d.m*2^((2*p+4-(iE d.m))+1)))<|d.m*2^((2*p+4-(iE d.m))+1)) != 0) p up]) (.iK [iF<|tq d p up,iP<|xz d p up])<|by unfold tq xz vq Bu;rw[hK,acq])
def abV:iA 98 [iF d,iP p,bP up]<|.iK [iF<|tq d p up,iP<|xz d p up]:=by
 by_cases h:Int.tmod (d.e-((2*p+4-(iE d.m):Nat):Int)) 2=0
 .exact apo d p up hd hn h0 iU iJ h
 .exact apq d p up hd hn h0 iU iJ h
end
section
variable(x:Iv)(p:Nat)(hx:x.iD)(iU:8<=p)(iJ:p<=512)
def apG(h1:lL x<=0):iA 50 [iC x,iP p]<|iC iH:=
 iM (af [.c<|JA (p:Int),ah 10 (mH (p:Int))<|sC.2 ⟨aI,aI⟩,.c<|JB x hx,tB 15<|bC h1,.c po])
def apH(h1:¬lL x<=0)(n1:x.lo.neg=false)(n2:x.hi.neg=false)(m1:x.lo.m≠0)(m2:x.hi.m≠0):iA 50 [iC x,iP p]<|iC<|ns (tq x.lo p false) (xz x.lo p false) (tq x.hi p true)<|xz x.hi p true:=by
 obtain⟨w1,w2⟩:=hx.kA;exact iM<|af [.c<|JA (p:Int),ah 10 (mH (p:Int))<|sC.2 ⟨aI,aI⟩,.c<|JB x hx,tB 15<|bE h1,.c<|abV x.lo p false w1 n1 m1 aI aI,.c<|abV x.hi p true w2 n2 m2 aI aI,.c<|Su (tq x.lo p false) (tq x.hi p true) (xz x.lo p false)<|xz x.hi p true]
end
def Eg{d:Dy}(h:0<d.q):d.neg=false/\d.m≠0:=by
 have hm:d.m≠0:=λq=>by rw[qt,q]at h;simp at h
 refine⟨?_,hm⟩;cases hn:d.neg
 .rfl
 .rw [qt,hn,bA rfl]at h;have:=bD (show(0:Rat)<=(d.m:Rat)from cE) (bF<|nb d.e)
  grind
def Nf{x:Iv}(h:¬lL x<=0):x.all=false/\0<x.lo.q:=by
 unfold lL at h;split at h
 .omega
 .rename_i ha;split at h
  .rename_i hl;exact⟨by simpa using ha,(rA _).1.1<|by first|exact hl|simpa using hl⟩
  .split at h<;>omega
noncomputable def om(x:Iv)(p:Nat):Iv:=if lL x<=0 then iH else(ns (tq x.lo p false) (xz x.lo p false) (tq x.hi p true)<|xz x.hi p true)
def Sw(x:Iv)(p:Nat)(hx:x.iD)(iU:8<=p)(iJ:p<=512):iA 50 [iC x,iP (p:Int)]<|iC<|om x p:=by
 unfold om;split
 .rename_i h;exact apG x p hx iU iJ h
 .rename_i h;obtain⟨_,q1⟩:=Nf h;have q2:0<x.hi.q:=by have:=hx.q;grind
  obtain⟨n1,m1⟩:=Eg q1;obtain⟨n2,m2⟩:=Eg q2;exact apH x p hx iU iJ h n1 n2 m1 m2
section
variable{x:Iv}(hx:x.iD){p:Nat}(iU:8<=p)(iJ:p<=512)
def Gh:(om x p).iD:=by
 unfold om;split
 .exact nP
 .rename_i h;obtain⟨_,q1⟩:=Nf h;have q2:0<x.hi.q:=by have:=hx.q;grind
  obtain⟨n1,m1⟩:=Eg q1;obtain⟨n2,m2⟩:=Eg q2;refine arF (Aj _) (Aj _) (JO iU m1) (JO iU m2) aI aI ?_;rw[JP n1 _<|Es _ _,JP n2 _<|Es _ _];exact hx.q
def arH{r:Rat}(hr:x.ja r):(om x p).all=true\/0<=(om x p).lo.q/\0<=(om x p).hi.q/\(om x p).lo.q*(om x p).lo.q<=r/\r<=(om x p).hi.q*(om x p).hi.q:=by
 unfold om;split
 .exact .inl rfl
 .rename_i h;obtain⟨xa,q1⟩:=Nf h;have q2:0<x.hi.q:=by have:=hx.q;grind
  obtain⟨n1,m1⟩:=Eg q1;obtain⟨n2,m2⟩:=Eg q2;unfold ns;split
  .exact .inl rfl
  .rename_i he;obtain⟨a0,a1⟩:=ade (e:=(x.lo.e-(pq x.lo p:Int))/2) (Aj<|x.lo.m*2^pq x.lo p) (JO iU m1) (aI:1<=p) aI<|cF λq=>he<|.inl q;obtain⟨b0,b1⟩:=adb (e:=(x.hi.e-(pq x.hi p:Int))/2) (Aj<|x.hi.m*2^pq x.hi p) (JO iU m2) (aI:1<=p) aI<|cF λq=>he<|.inr q;rw[JP n2 _<|Es _ _]at b1;have v1:=JP n1 _<|Es x.lo p;have c:=cX.2 (Aj<|x.lo.m*2^pq x.lo p).1;rw[cQ]at c;have qq:=nb<|(x.lo.e-(pq x.lo p:Int))/2;have s0:(0:Rat)<=((mC<|x.lo.m*2^pq x.lo p:Nat):Rat):=cE;obtain⟨r1,r2⟩:=hr.kA xa;have k1:=bY a1 a0;have k2:=bK a1<|bD s0<|bF qq;have k3:=bK c<|bD (bF qq)<|bF qq;refine .inr ⟨a0,b0,?_,bI r2 b1⟩;show(tq x.lo p false).q*(tq x.lo p false).q<=r;unfold tq at *
   generalize (vq (x.lo.m*2^pq x.lo p) (mC<|x.lo.m*2^pq x.lo p) ((x.lo.e-(pq x.lo p:Int))/2) p false).q=D at *
   generalize ((mC<|x.lo.m*2^pq x.lo p:Nat):Rat)=S at *
   generalize P2 ((x.lo.e-(pq x.lo p:Int))/2)=P at *
   grind
end
def arG{x:Iv}(hx:x.iD){p:Nat}(iU:8<=p)(iJ:p<=512)(h1:1<=x.lo.q):(om x p).all=true\/1<=(om x p).lo.q:=by
 unfold om;split
 .exact .inl rfl
 .rename_i h;obtain⟨xa,q1⟩:=Nf h;obtain⟨n1,m1⟩:=Eg q1;unfold ns;split
  .exact .inl rfl
  .refine .inr ?_;show 1<=(tq x.lo p false).q;have v1:=JP n1 _<|Es x.lo p;have hb:=JO iU m1;have hr:=Aj<|x.lo.m*2^pq x.lo p;unfold tq vq;generalize hE:(x.lo.e-(pq x.lo p:Int))/2=E at *
   generalize x.lo.m*2^pq x.lo p=M at *
   generalize mC M=s at *
   have qq:=nb E;have s0:(0:Rat)<=(s:Rat):=cE;have g1:GM p 1:=⟨1,0,by rw[zF];omega,aK,by rw[zF];decide,by rw[tC,show((1:Nat):Rat)=1 from rfl,dL]⟩
   have c:=atv.2 hr.2;rw[cQ]at c;have k3:=fA c<|cR qq qq;have le1:(1:Rat)<=(s:Rat)*P2 E:=by
    rcases Li (e:=E) hb g1 with k|k
    .exact k
    .exfalso;have m1:=bY k (show 0<=((s+1:Nat):Rat)*P2 E from bD cE<|bF qq)
     grind
   by_cases hx:s*s=M
   .rw [bE aI];have A:=Dg false s E (aI:1<=p) (aI:p<=4096);rw[qO]at A;simp only[cz,bN]at A;exact(A.2 1 (.inl g1) le1).2
   .rw [bC aI];rw[(Df E hb false false).1];have A:=Dg false (2*s+1) (E-1) (aI:1<=p) (aI:p<=4096);rw[qO]at A;simp only[cz,bN]at A;refine(A.2 1 (.inl g1) ?_).2;have ee:P2 E=P2 (E-1)*2:=by
     have:=qZ (E-1) 1;rw[(aI:E-1+1=E),show P2 1=2 by decide +kernel]at this;exact this
    have iU:=nb<|E-1;have c1:((2*s+1:Nat):Rat)=2*(s:Rat)+1:=by rw[dH,cQ];rfl
    rw[c1];rw[ee]at le1
    grind
def aep{a b:Int}(h:a<b):P2 a<P2 b:=by
 have h1:=BF (aI:a+1<=b);rw[qZ,show P2 1=2 by decide +kernel]at h1;have:=nb a
 grind
section
variable{X:Iv}{n:Int}(h:Sub X<|pY n)
def zE{r:Rat}(hr:X.ja r):-P2 n<=r/\r<=P2 n:=afl.1<|h.ja hr
def C5:X.all=false:=(h.Bf rfl).1
end
def KD{X:Iv}(ha:X.all=false){n:Int}(h:∀ r,X.ja r -> -P2 n<=r/\r<=P2 n)(vX:X.iD):Sub X<|pY n:=by
 have h1:=h _ vX.tK;have h2:=h _ (.inr ⟨vX.q,bH⟩:X.ja X.hi.q);have e1:(pY n).lo.q = -P2 n:=by show(jl<|ko n).q=_;rw[oX,yl]
 have e2:(pY n).hi.q=P2 n:=yl n;exact .inr ⟨ha,by rw[e1];exact h1.1,by rw[e2];exact h2.2⟩
def aaA{X Y:Iv}(vX:X.iD)(vY:Y.iD){p:Nat}(hp:1<=p)(iJ:p<=4096){m n:Int}(hx:Sub X<|pY m)(hy:Sub Y<|pY n)(h1:-1000<=m+n)(h2:m+n<=1000):Sub (iO X Y p)<|pY<|m+n:=
 KE (Co vX vY (C5 hx) (C5 hy) hp iJ) hp h1 h2 λr ⟨a,b,ha,hb,e⟩=>by
  obtain⟨a1,a2⟩:=zE hx ha;obtain⟨b1,b2⟩:=zE hy hb;rw[e,qZ];exact aev a1 a2 b1 b2
section
variable{X:Iv}{n:Int}(vX:X.iD)(h:Sub X<|pY n)
def anB:Sub (lg X)<|pY n:=by
 have ha:=C5 h;have hv:=nO vX;have na:(lg X).all=false:=by unfold lg;rw[ha];rfl
 refine KD na (λr hr=>?_) hv;have e1:(lg X).lo.q = -X.hi.q:=by unfold lg;rw[ha];exact oX _
 have e2:(lg X).hi.q = -X.lo.q:=by unfold lg;rw[ha];exact oX _
 obtain⟨r1,r2⟩:=hr.kA na;rw[e1]at r1;rw[e2]at r2;have:=zE h vX.tK;have:=zE h (.inr ⟨vX.q,bH⟩:X.ja X.hi.q);constructor<;>grind
def UN:Sub (iW X)<|pY n:=by
 have ha:=C5 h;have na:(iW X).all=false:=by unfold iW;rw[ha];rfl
 have l:=zE h vX.tK;have u:=zE h (.inr ⟨vX.q,bH⟩:X.ja X.hi.q);have p0:=nb n;refine KD na (λr hr=>?_)<|uK vX;obtain⟨m1,m2,m3⟩:=yf vX.q;have e2:(iW X).hi.q=(mB X).q:=by unfold iW;rw[ha];rfl
 obtain⟨r1,r2⟩:=hr.kA na;have g0:0<=(iW X).lo.q:=by
  have:=(Cm vX ha).1;have e:(iW X).lo=nV X:=by unfold iW;rw[ha];rfl
  rw[e];exact this
 rw[e2]at r2;rcases m3 with m3|m3<;>constructor<;>grind
end
def PQ{p:Nat}{S:Rat->Prop}{X:Iv}(h:AE p S X)(ha:X.all=false){g:Rat}(hg:G p g)(hs:∀ r,S r->g<=r):g<=X.lo.q:=by
 obtain⟨b1,b2⟩:=h.on ha;exact(h.s9 _ _ hg b2 λr hr=>⟨hs r hr,((h.ja r hr).kA ha).2⟩).2.1
def aeI{y:Iv}(vy:y.iD){p:Nat}(iU:8<=p)(iJ:p<=512)(h:Sub y<|pY (-2)):Sub (zD y p)<|pY (-4):=by
 have:=aaA (uK vy) (uK vy) (aI:1<=p) (aI:p<=4096) (UN vy h) (UN vy h) aI aI;rw[show(-2:Int) + -2 = -4 by decide]at this;unfold zD;exact this
def Oq{y:Iv}(vy:y.iD){p:Nat}(iU:8<=p)(iJ:p<=512)(h:Sub y<|pY (-2)):∀ j:Nat,j<=200->Sub (sr y p j) (pY (-2 + -4*(j:Int)))
 | 0,_=>h
 |j+1,hj=>by
  have ih:=Oq vy iU iJ h j aI;have:=anB (ku _ _)<|aaA (GP vy (p:=p) aI aI j) (ku _ _) (p:=p) aI aI ih (aeI vy iU iJ h) aI aI;rwa[(aI:-2 + -4*(j:Int) + -4 = -2 + -4*((j+1:Nat):Int))]at this
def afm{X:Iv}{n:Int}(vX:X.iD)(h:Sub X<|pY n):(mB X).q<=P2 n:=by
 have l:=zE h vX.tK;have u:=zE h (.inr ⟨vX.q,bH⟩:X.ja X.hi.q);obtain⟨m1,m2,m3⟩:=yf vX.q;rcases m3 with m3|m3<;>grind
def aeJ{y:Iv}(vy:y.iD){p:Nat}(iU:8<=p)(iJ:p<=512)(h:Sub y<|pY (-2)):∃ N,N<=1000/\Gz y p N (GQ y p N):=by
 have hb:∀ j,j<=200->(sr y p j).all=false:=λj hj=>C5<|Oq vy iU iJ h j hj
 obtain⟨N,n1,n2,n3⟩:=ur (p:=λx=>decide (jI (mB<|sr y p x) (ko<|0-(p:Int))<0)) (n:=151) ⟨150,aK,bC (by
  rw[Jw,yl];have h1:=afm (GP vy (p:=p) aI aI 150)<|Oq vy iU iJ h 150 aK;have h2:=aep (aI:-2 + -4*((150:Nat):Int)<0-(p:Int))
  grind)⟩
 refine⟨N,aI,⟨λi hi=>⟨hb i aI,gU<|n3 i hi⟩,⟨hb N aI,dK n2⟩,rfl⟩⟩
noncomputable def nf(y:Iv):Nat->Iv
 | 0=>y
 |j+1=>jo (nf y j) (iZ (iT 1) (om (iZ (iT 1) (iO (iW<|nf y j) (iW<|nf y j) 360) 360) 360) 360) 360
def BI{y:Iv}(vy:y.iD):∀ j,(nf y j).iD
 | 0=>vy
 |j+1=>pf _ _ aK aK 
noncomputable def abr(d:Dy)(y:Iv)(x:Nat):PS:=⟨59,true,[(8,.e<|iP x),(7,.e<|bP true),(6,.box 6 0),(5,.e<|iP 360),(4,.box 4 0),(2,.box 2 0)],[(6,.cells 38<|ju<|nf y x),(4,.cells 38 aw),(2,.cells 31<|ke d)]⟩
noncomputable def abq(d:Dy)(y:Iv)(x:Nat):PS:=⟨59,true,[(8,.e<|iP x),(7,.e<|bP false),(6,.box 6 0),(5,.e<|iP 360),(4,.box 4 0),(2,.box 2 0)],[(6,.cells 38<|ju<|nf y x),(4,.cells 38 aw),(2,.cells 31<|ke d)]⟩
def apE : iA 138 [iC iH]<|iF<|jq (jl iH.lo) iH.hi:=
 iM (af [.c<|Br iH.lo,.c<|y8 (jl iH.lo) iH.hi (ru ri) ri])
def aoM(n:Int)(h1:-1000<=n)(h2:n<=1000):iA 194 [iC iH,iP n]<|bP true:=by
 have Iu:(jq (jl iH.lo) iH.hi).iD:=qM (ru ri) ri;have uX:=Bn h1 h2;exact iM (ae [ag [iC iH] apE,.c<|Ej n,.c<|JF (jq (jl iH.lo) iH.hi) (ko n) Iu.rY uX.rY]<|rR (bP true) (by
  exact .jm (by
   have h:jI (jq (jl iH.lo) iH.hi) (ko n)<0:=by
    rw[Jw,yl];have e:((jq (jl iH.lo) iH.hi):Dy).q=0:= aT ;rw[e];exact nb n
   rw[bC h]):E.le (bP<|decide ((jI (jq (jl iH.lo) iH.hi)<|ko n)<0))<|bP true))
def aoG(p:Nat)(iU:8<=p)(iJ:p<=512):iA 148 [iC iH,iP p]<|iC<|iZ iH (Iv.mk (jl<|ko<|0-(p:Int)) (ko<|0-(p:Int)) false) p:=
 iM (af [.c<|CD iH p nP,.u 2,iL<|0-(p:Int),ag [iC iH,iP<|0-(p:Int)]<|aoM _ aI aI,
  iL (0-(p:Int)),.c<|Ej<|0-(p:Int),.c<|Jx<|ko<|0-(p:Int),.c<|r8 iH (Iv.mk (jl<|ko<|0-(p:Int)) (ko<|0-(p:Int)) false) p nP<|Kx])
def Ou(y:Iv)(vy:y.iD)(p:Nat)(iU:8<=p)(iJ:p<=512)(h:y.all=true\/Sub y (pY (-2))):∃ R,R.iD/\iA 148 [iC y,iP (p:Int)] (iC R):=by
 rcases h with h|h
 .obtain ⟨e1,e2⟩:=Rt vy h;obtain rfl:y=iH:=by
   obtain⟨a,b,c⟩:=y;obtain rfl:a=jK:=e1;obtain rfl:b=jK:=e2;obtain rfl:c=true:=h;rfl
  exact⟨_,mn nP<|Kx,aoG p iU iJ⟩
 .obtain ⟨N,n1,ok⟩:=aeJ vy iU iJ h;exact⟨_,Ot vy aI aI N,St y p N _ vy iU iJ n1 ok⟩
def acZ{X:Iv}(ha:X.all=false)(h:0<X.lo.q):lL X≠0:=by
 unfold lL;rw[bw<|by rw[ha];decide,bA<|(rA _).1.2 h];decide
def XR(n:Int)(h1:4<=n)(h2:n<=1000){p:Nat}(iU:8<=p)(iJ:p<=512):Sub (jo (iT 1) (iT n) p)<|pY (-2):=by
 have hn:(4:Rat)<=(n:Rat):=by have:=cY (a:=4) (b:=n);exact this.2 h1
 have v1:(iT 1).iD:=lY aK;have v2:(iT n).iD:=lY;have q2:(iT n).lo.q=(n:Rat):=uA n;have el:∀ m r,(iT m).ja r->r=(m:Rat):=λm r hr=>by rw[Ef hr,uA]
 refine KE (Di v1 v2 rfl (acZ rfl (by rw[q2];grind)) (aI:1<=p) aI) aI aK aK λr ⟨a,b,ha,hb,e⟩=>?_
 rw[e,el 1 a ha,el n b hb,show P2 (-2)=1/4 by decide +kernel,show((1:Int):Rat)=1 from rfl];have i0:=dw.2 (show(0:Rat)<(n:Rat)by grind);have i1:(n:Rat)*(n:Rat)⁻¹=1:=ez _ aS;have:=bK hn<|bF i0;rw[cB];constructor<;>grind
section
variable(p:Nat)(iU:8<=p)(iJ:p<=480)
def aoS(A B:Iv)(vA:A.iD)(vB:B.iD)(hA:iA 148 [iC<|jo (iT 1) (iT 5)<|p+20,iP ((p+20:Nat):Int)]<|iC A)(hB:iA 148 [iC<|jo (iT 1) (iT 239)<|p+20,iP ((p+20:Nat):Int)]<|iC B):iA 96 [iP p]<|iC<|jP (iO (iT 16) A<|p+20) (iO (iT 4) B<|p+20)<|p+20:=
 iM (af [iL<|(p:Int)+20,.c<|oQ 1,.c<|oQ 5,.c<|sV (iT 1) (iT 5) (p+20) (lY)<|lY,ag [iC<|jo (iT 1) (iT 5)<|p+20,iP ((p+20:Nat):Int)] hA,.c<|oQ 1,.c<|oQ 239,.c<|sV (iT 1) (iT 239) (p+20) (lY)<|lY,ag [iC<|jo (iT 1) (iT 239)<|p+20,iP ((p+20:Nat):Int)] hB,.c<|oQ 16,.c<|tU (iT 16) A (p+20) (lY) aJ,.c<|oQ 4,.c<|tU (iT 4) B (p+20) (lY) aJ,.c<|JC (iO (iT 16) A<|p+20) (iO (iT 4) B<|p+20) (p+20) (ku _ _)<|ku _ _])
def abf:∃ P:Iv,P.iD/\iA 96 [iP (p:Int)] (iC P):=by
 obtain⟨A,vA,hA⟩:=Ou (jo (iT 1) (iT 5)<|p+20) (pf _ _) (p+20) aI aI<|.inr<|XR 5 aK aK aI aI;obtain⟨B,vB,hB⟩:=Ou (jo (iT 1) (iT 239)<|p+20) (pf _ _) (p+20) aI aI<|.inr<|XR 239 aK aK aI aI;exact⟨_,mn (ku _ _)<|nO<|ku _ _,aoS p iU iJ A B vA vB hA hB⟩
end
def aoI(d:Dy)(hd:d.iD)(h:0<d.jb)(y:Iv)(ey:(jo (iT 1) (iW<|mT d) 360)=y)(vy:y.iD)(R:Iv)(vR:R.iD)(hR:iA 148 [iC<|nf y 3,iP 360]<|iC R)(P:Iv)(vP:P.iD)(hP:iA 96 [iP 360]<|iC P):iA 95 [iF d,iP 320]<|iC<|if d.neg then lg (jP (kI P (-1)) (kI R 3) 360)else(jP (kI P (-1)) (kI R 3) 360):=
 iM (ae [iL<|320+40,.o 12<|ar (320+40) 360 aK,.c<|Ek d,.c<|MO (mT d)<|tS hd,.c<|zf d hd.rY,tB 18<|bC h,.c<|oQ 1,.c<|sV (iT 1) (iW<|mT d) 360 (lY)<|uK<|tS hd,.s (Sp.kj (abr d y) 0 3 aI (λx hx mr=>by
    exact jg (ae [tT 25 ((x:Int)<3) aI,.c<|oQ 1,.c<|CD (nf y x) 360<|BI vy _,.c<|r8 (iT 1) (iO (iW<|nf y x) (iW<|nf y x) 360) 360 (lY)<|ku _ _,.c<|Sw (iZ (iT 1) (iO (iW<|nf y x) (iW<|nf y x) 360) 360) 360 (mn (lY)<|ku _ _) aI aI,.c<|oQ 1,.c<|r8 (iT 1) (om (iZ (iT 1) (iO (iW<|nf y x) (iW<|nf y x) 360) 360) 360) 360 (lY)<|Gh (mn (lY)<|ku _ _) aI aI,.c<|sV (nf y x) (iZ (iT 1) (om (iZ (iT 1) (iO (iW<|nf y x) (iW<|nf y x) 360) 360) 360) 360) 360 (BI vy _)<|mn (lY)<|Gh (mn (lY)<|ku _ _) aI aI,
     iL ((x:Int)+1)]<|.e<|af [.b 6 (.jm<|by first|rfl|rw[ey];rfl:Bx.le (.cells 38<|ju<|jo (nf y x) (iZ (iT 1) (om (iZ (iT 1) (iO (iW<|nf y x) (iW<|nf y x) 360) 360) 360) 360) 360)<|.cells 38<|ju<|nf y<|x+1)]) aM)
  (λhx=>by
    exact jg (af [ai 25 (decide ((3:Int)<3)) aK]) aM) aQ:ki 7 Tryz.f95 (abr d y 0) (.exit 0) ⟨59,true,[(7,.e<|bP true),(6,.box 6 0),(5,.e<|iP 360),(4,.box 4 0),(2,.box 2 0)],[(6,.cells 38<|ju<|nf y 3),(4,.cells 38 aw),(2,.cells 31<|ke d)]⟩)<|af [.b 6 (.jm<|by first|rfl|rw[ey];rfl:Bx.le (.cells 38<|ju<|jo (iT 1) (iW<|mT d) 360)<|.cells 38<|ju<|nf y 0)],ag [iC<|nf y 3,iP 360] hR,.c<|CC R 3 aJ,ag [iP 360] hP,.c<|CC P (-1) aJ,.c<|JC (kI P (-1)) (kI R 3) 360 (rB aJ _)<|rB aJ _]<|.w (d.neg=true)
  (λk1=>ae [tB 55 k1,.c<|yn (jP (kI P (-1)) (kI R 3) 360)<|mn (rB aJ _)<|nO<|rB aJ _]<|rQ (iC<|lg<|jP (kI P (-1)) (kI R 3) 360) (iC<|if d.neg then lg (jP (kI P (-1)) (kI R 3) 360)else(jP (kI P (-1)) (kI R 3) 360))<|by simp[k1])
  (λk1=>ae [tB 55<|bn k1]<|rQ (iC<|jP (kI P (-1)) (kI R 3) 360) (iC<|if d.neg then lg (jP (kI P (-1)) (kI R 3) 360)else(jP (kI P (-1)) (kI R 3) 360))<|by simp[k1]))
def aoH(d:Dy)(hd:d.iD)(h:¬0<d.jb)(y:Iv)(ey:(iW<|mT d)=y)(vy:y.iD)(R:Iv)(vR:R.iD)(hR:iA 148 [iC<|nf y 3,iP 360]<|iC R):iA 95 [iF d,iP 320]<|iC<|if d.neg then lg (kI R 3)else(kI R 3):=
 iM (ae [iL<|320+40,.o 12<|ar (320+40) 360 aK,.c<|Ek d,.c<|MO (mT d)<|tS hd,.c<|zf d hd.rY,tB 18<|bE h,.s (Sp.kj (abq d y) 0 3 aI (λx hx mr=>by
    exact jg (ae [tT 25 ((x:Int)<3) aI,.c<|oQ 1,.c<|CD (nf y x) 360<|BI vy _,.c<|r8 (iT 1) (iO (iW<|nf y x) (iW<|nf y x) 360) 360 (lY)<|ku _ _,.c<|Sw (iZ (iT 1) (iO (iW<|nf y x) (iW<|nf y x) 360) 360) 360 (mn (lY)<|ku _ _) aI aI,.c<|oQ 1,.c<|r8 (iT 1) (om (iZ (iT 1) (iO (iW<|nf y x) (iW<|nf y x) 360) 360) 360) 360 (lY)<|Gh (mn (lY)<|ku _ _) aI aI,.c<|sV (nf y x) (iZ (iT 1) (om (iZ (iT 1) (iO (iW<|nf y x) (iW<|nf y x) 360) 360) 360) 360) 360 (BI vy _)<|mn (lY)<|Gh (mn (lY)<|ku _ _) aI aI,
     iL ((x:Int)+1)]<|.e<|af [.b 6 (.jm<|by first|rfl|rw[ey];rfl:Bx.le (.cells 38<|ju<|jo (nf y x) (iZ (iT 1) (om (iZ (iT 1) (iO (iW<|nf y x) (iW<|nf y x) 360) 360) 360) 360) 360)<|.cells 38<|ju<|nf y<|x+1)]) aM)
  (λhx=>by
    exact jg (af [ai 25 (decide ((3:Int)<3)) aK]) aM) aQ:ki 7 Tryz.f95 (abq d y 0) (.exit 0) ⟨59,true,[(7,.e<|bP false),(6,.box 6 0),(5,.e<|iP 360),(4,.box 4 0),(2,.box 2 0)],[(6,.cells 38<|ju<|nf y 3),(4,.cells 38 aw),(2,.cells 31<|ke d)]⟩)<|af [.b 6 (.jm<|by first|rfl|rw[ey];rfl:Bx.le (.cells 38<|ju<|iW<|mT d)<|.cells 38<|ju<|nf y 0)],ag [iC<|nf y 3,iP 360] hR,.c<|CC R 3 aJ]<|.w (d.neg=true)
  (λk1=>ae [tB 55 k1,.c<|yn (kI R 3)<|rB aJ _]<|rQ (iC<|lg<|kI R 3) (iC<|if d.neg then lg (kI R 3)else(kI R 3))<|by simp[k1])
  (λk1=>ae [tB 55<|bn k1]<|rQ (iC<|kI R 3) (iC<|if d.neg then lg (kI R 3)else(kI R 3))<|by simp[k1]))
def Qm{Y:Iv}(vY:Y.iD){n:Int}(n1:-900<=n)(n2:n<=900)(h:Y.all=true\/Sub Y (pY n)):(jo Y (iZ (iT 1) (om (iZ (iT 1) (iO (iW Y) (iW Y) 360) 360) 360) 360) 360).all=true\/Sub (jo Y (iZ (iT 1) (om (iZ (iT 1) (iO (iW Y) (iW Y) 360) 360) 360) 360) 360) (pY<|n-1):=by
 have vM:(iO (iW Y) (iW Y) 360).iD:=ku _ _ aK aK;have v1:(iT 1).iD:=lY aK;have vA:(iZ (iT 1) (iO (iW Y) (iW Y) 360) 360).iD:=mn v1 vM aK aK;have vR:=Gh vA (p:=360) aK aK;have vD:(iZ (iT 1) (om (iZ (iT 1) (iO (iW Y) (iW Y) 360) 360) 360) 360).iD:=mn v1 vR aK aK;rcases h with h|h
 .exact .inl<|by rw[AP 360<|.inl h];rfl
 have ya:=C5 h;by_cases hs:lL (iZ (iT 1) (om (iZ (iT 1) (iO (iW Y) (iW Y) 360) 360) 360) 360)=0
 .exact .inl<|by rw[AP 360<|.inr hs];rfl
 obtain⟨da,_⟩:=Ng vD hs;have oneq:(iT 1).lo.q=1:=uA 1;have oneh:∀ r,(iT 1).ja r->r=1:=λr hr=>by rw[Ef hr,uA];rfl
 have G1:G 360 1:=by have:=Km (p:=360) aK (n:=0) aK aK;rwa[tC]at this
 have G2:G 360 2:=by have:=Km (p:=360) aK (n:=1) aK aK;rwa[show P2 1=2 by decide +kernel]at this
 have lowd:2<=(iZ (iT 1) (om (iZ (iT 1) (iO (iW Y) (iW Y) 360) 360) 360) 360).lo.q:=by
  cases ra:(om (iZ (iT 1) (iO (iW Y) (iW Y) 360) 360) 360).all
  .cases aa:(iZ (iT 1) (iO (iW Y) (iW Y) 360) 360).all
   .have ma:(iO (iW Y) (iW Y) 360).all=false:=by
     cases e:(iO (iW Y) (iW Y) 360).all
     .rfl
     .rw [Ks 360<|.inr e]at aa;cases aa
    have m0:0<=(iO (iW Y) (iW Y) 360).lo.q:=by
     have aY:(iW Y).all=false:=by unfold iW;rw[ya];rfl
     have B:=Co (uK vY) (uK vY) aY aY (show 1<=360 by decide) aK;obtain⟨b1,b2⟩:=B.on ma;refine PQ B ma (.inl<|yu 360) λr ⟨a,b,ha,hb,e⟩=>?_
     have z:0<=(iW Y).lo.q:=by
      have:=(Cm vY ya).1;have e:(iW Y).lo=nV Y:=by unfold iW;rw[ya];rfl
      rw[e];exact this
     obtain⟨a1,_⟩:=ha.kA aY;obtain⟨c1,_⟩:=hb.kA aY;rw[e];exact bD aS aS 
    have a1:1<=(iZ (iT 1) (iO (iW Y) (iW Y) 360) 360).lo.q:=
     PQ (C1 v1 vM rfl ma (show 1<=360 by decide) aK) aa G1 λr ⟨a,b,ha,hb,e⟩=>by
      rw[e,oneh a ha];have:=(hb.kA ma).1
      grind
    have r1:=(arG vA (p:=360) aK aK a1).resolve_left (by rw[ra];decide);exact PQ (C1 v1 vR rfl ra (show 1<=360 by decide) aK) da G2 λr ⟨a,b,ha,hb,e⟩=>by
     rw[e,oneh a ha];have:=(hb.kA ra).1
     grind
   .
    exfalso;have:(om (iZ (iT 1) (iO (iW Y) (iW Y) 360) 360) 360).all=true:=by
     unfold om;rw[bA<|by unfold lL;rw[bA aa];decide];rfl
    rw[ra]at this;cases this
  .rw [Ks 360<|.inr ra]at da;cases da
 right;refine KE (Di vY vD ya hs (show 1<=360 by decide) aK) aK aI aI λr ⟨a,b,ha,hb,e⟩=>?_
 obtain⟨a1,a2⟩:=zE h ha;have b1:=(hb.kA da).1;have b2:2<=b:=bI lowd b1;have i0:=dw.2 (show 0<b by grind);have i1:b*b⁻¹=1:=ez _ aS;have e2:P2 n=P2 (n-1)*2:=by
  have:=qZ (n-1) 1;rwa[(aI:n-1+1=n),show P2 1=2 by decide +kernel]at this
 have p0:=nb<|n-1;have i2:b⁻¹*2<=1:=by
  have:=bK b2<|bF i0
  grind
 rw[e,cB];have k1:=bD (show 0<=P2 n-a by grind)<|bF i0;have k2:=bD (show 0<=P2 n+a by grind)<|bF i0;have k3:=bD (bF p0) (show 0<=1-b⁻¹*2 by grind);rw[e2]at k1 k2;constructor<;>grind
def aeN(d:Dy)(hd:d.iD)(hm:d.m≠0):∃ X:Iv,X.iD/\iA 95 [iF d,iP 320] (iC X):=by
 have vp:=tS hd;have va:=uK vp;have start:∃ y:Iv,y.iD/\(y.all=true\/Sub y (pY 0))/\(0<d.jb->jo (iT 1) (iW<|mT d) 360=y)/\(¬0<d.jb->iW (mT d)=y):=by
  have pa:(iW<|mT d).all=false:=rfl;have yQ:∀ r,(iW<|mT d).ja r->r=iR d.q:=λr hr=>by
   obtain⟨h1,h2⟩:=hr.kA pa;have e1:(iW<|mT d).hi=mB (mT d):=rfl;have e2:(iW<|mT d).lo=nV (mT d):=rfl;obtain⟨m1,m2,m3⟩:=yf vp.q;obtain⟨g1,g2,g3,g4⟩:=Cm vp rfl;have q1:(mT d).lo.q=d.q:=rfl;have q2:(mT d).hi.q=d.q:=rfl;rw[q1]at m2 m3 g2 g3;rw[q2]at m1 m3 g2 g4;rw[e1]at h2;rw[e2]at h1;obtain⟨_,s1,s2,s3⟩:=jH d.q;rcases s3 with⟨s3,s4⟩|⟨s3,s4⟩
   .by_cases z:d.q=0
    .have:=g2 (by rw[z];exact bH) (by rw[z];exact bH);rcases m3 with m3|m3<;>grind
    .have:=g3 aS ;rcases m3 with m3|m3<;>grind
   .by_cases z:d.q=0
    .have:=g2 (by rw[z];exact bH) (by rw[z];exact bH);rcases m3 with m3|m3<;>grind
    .have:=g4 aS ;rcases m3 with m3|m3<;>grind
  by_cases h:0<d.jb
  .refine ⟨_,pf _ _ aK aK,?_,λ_=>rfl,λq=>absurd h q⟩;have g1:=So hm;have g2:=BF (aI:0<=d.jb-1);rw[tC]at g2;have lo1:1<=(iW<|mT d).lo.q:=by rw[yQ _ va.tK];grind
   exact .inr (KE (Di (lY aK) va rfl (acZ pa aS) (show 1<=360 by decide) aK) aK aK aK λr ⟨a,b,ha,hb,e⟩=>by
    have ea:a=1:=by rw[Ef ha,uA];rfl
    rw[e,ea,yQ b hb,tC];have b1:1<=iR d.q:= aS ;have i0:=dw.2 (show 0<iR d.q by grind);have i1:iR d.q*(iR d.q)⁻¹=1:=ez _ aS;have:=bK b1<|bF i0;rw[cB];constructor<;>grind)
  .refine ⟨_,va,?_,λq=>absurd q h,λ_=>rfl⟩;have g1:=abo hm;have g2:=BF (aI:d.jb<=0);exact .inr (KD pa (λr hr=>by
    rw[yQ r hr];have:=(jH d.q).1;constructor<;>grind) va)
 obtain⟨y,vy,hy,e1,e2⟩:=start;have b1:=Qm vy (n:=0) aK aK hy;have b2:=Qm (BI vy 1) (n:=0-1) aK aK b1;have b3:=Qm (BI vy 2) (n:=0-1-1) aK aK b2;have b4:(nf y 3).all=true\/Sub (nf y 3) (pY (-2)):=by
  rcases b3 with b3|b3
  .exact .inl b3
  .refine .inr<|KD (C5 b3) (λr hr=>?_)<|BI vy 3;obtain⟨c1,c2⟩:=zE b3 hr;have:=BF (show(0:Int)-1-1-1 <= -2 by decide);constructor<;>grind
 obtain⟨R,vR,hR⟩:=Ou (nf y 3) (BI vy 3) 360 aK aK b4;by_cases h:0<d.jb
 .obtain ⟨P,vP,hP⟩:=abf 360 aK aK ;refine⟨_,?_,aoI d hd h y (e1 h) vy R vR hR P vP hP⟩;have v:(jP (kI P (-1)) (kI R 3) 360).iD:=mn (rB vP _) (nO<|rB vR _) aK aK;split
  .exact nO v
  .exact v
 .refine ⟨_,?_,aoH d hd h y (e2 h) vy R vR hR⟩;have v:=rB vR 3;split
  .exact nO v
  .exact v
def aoL(d:Dy)(h:d.m=0):iA 48 [iF d]<|iC<|iT 0:=
 iM (af [ah 6 (((iB d.m).length:Int)==0)<|sA<|oO.2 h,.c<|oQ 0])
def aoK(d:Dy)(h:d.m≠0)(X:Iv)(hX:iA 95 [iF d,iP 320]<|iC X):iA 48 [iF d]<|iC X:=
 iM (af [ai 6 (((iB d.m).length:Int)==0)<|nK λq=>h<|oO.1 q,ag [iF d,iP 320] hX])
def aoR(P:Iv)(hP:iA 96 [iP 320]<|iC P):iA 49 []<|iC P:=
 iM (af [ag [iP 320] hP])
def aoJ(d:Dy)(hd:d.iD):∃ X:Iv,X.iD/\iA 48 [iF d] (iC X):=by
 by_cases hm:d.m=0
 .exact ⟨_,lY aK,aoL d hm⟩
 .obtain ⟨X,vX,hX⟩:=aeN d hd hm;exact⟨X,vX,aoK d hm X hX⟩
def aoT:∃ P:Iv,P.iD/\iA 49 [] (iC P):=by
 obtain⟨P,vP,hP⟩:=abf 320 aK aK;exact⟨P,vP,aoR P hP⟩
def AH{x b:Rat}(h:iR x<=b):-b<=x/\x<=b:=by
 obtain⟨_,h1,h2,_⟩:=jH x;constructor<;>grind
def vz(x:Rat):iR (-x)=iR x:=by
 obtain⟨_,_,_,a⟩:=jH x;obtain⟨_,_,_,b⟩:=jH (-x)
 grind
def C0(x y:Rat):iR (x-y)=iR (y-x):=by
 rw[<-vz];congr 1;grind
def o0{x:Rat}(h:0<=x):iR x=x:=by unfold iR;rw[bA h]
def Kr(x y z:Rat):iR (x-z)<=iR (x-y)+iR (y-z):=by
 have:=wS (x-y)<|y-z;rwa[show x-y+(y-z)=x-z by grind]at this
section
variable{x y a b:Rat}(h1:iR x<=a)(h2:iR y<=b)
def mL:iR (x*y)<=a*b:=by
 rw[oA];have h3:=(jH x).1;have h4:=(jH y).1;exact bI (bK h1 h4)<|bY h2 aS
def vw:iR (x+y)<=a+b:=by
 have:=wS x y
 grind
def uL:iR (x-y)<=a+b:=by
 have:=wS x (-y);rw[vz,show x + -y=x-y by grind]at this
 grind
end
def Ev(p:Nat->Prop):Prop:=∃ M0,∀ M,M0<=M->p M
section
variable{p q:Nat->Prop}(h:Ev p)
def Ev.and(k:Ev q):Ev λM=>p M/\q M:=by
 obtain⟨a,ha⟩:=h;obtain⟨b,hb⟩:=k;exact⟨max a b,λM hM=>⟨ha M aI,hb M aI⟩⟩
def Ev.mono(k:∀ M,p M->q M):Ev q:=by
 obtain⟨a,ha⟩:=h;exact⟨a,λM hM=>k M<|ha M hM⟩
end
def Ev.of{p:Nat->Prop}(h:∀ M,p M):Ev p:=⟨0,λM _=>h M⟩
def Ev.all{p:Nat->Nat->Prop}:∀ n,(∀ k,k<n->Ev (p k))->Ev λM=>∀ k,k<n->p k M
 | 0,_=>.of λ_ k hk=>absurd hk<|bM k
 |n+1,h=>((Ev.all n λk hk=>h k aI).and<|h n aI).mono λM ⟨a,b⟩ k hk=>by
  rcases Nat.lt_succ_iff_lt_or_eq.1 hk with q|rfl
  .exact a k q
  .exact b
def JR{a:Nat->Rat}{η:Rat}:∀ n,(∀ k,k<n->iR (a (k+1)-a k)<=η)->iR (a n-a 0)<=(n:Rat)*η
 | 0,_=>by
  rw[show a 0-a 0=0 by grind,yz];simp
 |n+1,h=>by
  have h1:=JR n λk hk=>h k aI 
  have h2:=h n aI;have h3:=Kr (a<|n+1) (a n)<|a 0;have e:((n+1:Nat):Rat)=(n:Rat)+1:=by rw[dH];rfl
  rw[e];grind
def aec(c:Rat)(N:Nat):iR (EQ c N)<=EQ (iR c) N:=by
 have h:=uM (eQ c)<|N+1;rw[pM (N+1) λi _=>zN c i]at h;exact h
def Uu{a b B:Rat}(ha:iR a<=B)(hb:iR b<=B):∀ j,iR (eQ a (j+1)-eQ b (j+1))<=iR (a-b)*eQ B j
 | 0=>by
  have e:∀ c,eQ c (0+1)=c:=λc=>by
   show(1:Rat)*(c/((0+1:Nat):Rat))=c;have:((0+1:Nat):Rat)=1:=rfl;rw[this];grind
  rw[e,e];show _<=iR (a-b)*1
  grind
 |j+1=>by
  have ih:=Uu ha hb j;have s1:=yK a<|j+1;have s2:=yK b<|j+1;have s3:=yK B j;have hB:0<=B:=bI (jH a).1 ha;have z0:=(jH<|a-b).1;have n1:iR (eQ b<|j+1)<=eQ B (j+1):=by
   rw[zN];exact Pq (jH b).1 hb _
  obtain⟨c,hc⟩:∃ c,c=((j+1+1:Nat):Rat):=⟨_,rfl⟩
  have e1:((j+1+1:Nat):Rat)=((j+1:Nat):Rat)+1:=by rw[dH];rfl
  have nD:0<c:=by rw[hc];exact dQ.2 aI 
  have key:iR ((eQ a (j+1+1)-eQ b (j+1+1))*c)<=iR (a-b)*eQ B (j+1)*c:=by
   have e2:(eQ a (j+1+1)-eQ b (j+1+1))*c=a*(eQ a (j+1)-eQ b (j+1))+(a-b)*eQ b (j+1):=by
    rw[hc];grind
   rw[e2];have h1:=mL ha ih;have h2:=mL (bH (a:=iR<|a-b)) n1;have h3:=vw h1 h2;refine bI h3<|show _<=_ from ?_;rw[hc,e1];have:B*(iR (a-b)*eQ B j)=iR (a-b)*(eQ B (j+1)*((j+1:Nat):Rat)):=by rw[s3];grind
   grind
  rw[oA,o0<|bF nD]at key;exact dG key nD
def Oa{a b B:Rat}(ha:iR a<=B)(hb:iR b<=B)(N:Nat):iR (EQ a N-EQ b N)<=iR (a-b)*EQ B N:=by
 have hB:0<=B:=bI (jH a).1 ha;have e:∀ c,EQ c N=1+iS (λi=>eQ c<|i+1) N:=λc=>by
  unfold EQ;rw[At];rfl
 have h1:EQ a N-EQ b N=iS (λi=>eQ a (i+1)-eQ b (i+1)) N:=by
  rw[e a,e b];have:∀ n,iS (λi=>eQ a (i+1)-eQ b (i+1)) n=iS (λi=>eQ a<|i+1) n-iS (λi=>eQ b<|i+1) n:=by
   intro n
   induction n with
   |zero=>simp only[iS];grind
   |succ n ih=>rw[iS,iS,iS,ih];grind
  rw[this];grind
 rw[h1];have h2:=uM (λi=>eQ a (i+1)-eQ b (i+1)) N;have h3:iS (λi=>iR<|eQ a (i+1)-eQ b (i+1)) N<=iS (λi=>iR (a-b)*eQ B i) N:=uF N λi _=>Uu ha hb i
 rw[As]at h3;have h4:iS (eQ B) N<=EQ B N:=Bv (λi=>qC hB i) aI;have h5:=bY h4 (jH<|a-b).1;exact bI h2<|bI h3 h5
def Uv{c:Rat}(h0:0<=c)(h1:c<=1)(N:Nat):iS (λi=>eQ c<|i+1+1) N<=c*c:=by
 have t:=CM h0 (J:=2) (by show c*2<=2;grind) (aI:2<=2) N;have e2:eQ c 2*2=c*c:=by
  show 1*(c/((0+1:Nat):Rat))*(c/((1+1:Nat):Rat))*2=c*c;have a1:((0+1:Nat):Rat)=1:=rfl;have a2:((1+1:Nat):Rat)=2:=rfl;rw[a1,a2,cB,cB];grind
 have h2:=qC h0<|2+N;have h3:iS (λi=>eQ c<|i+1+1) N=iS (λi=>eQ c<|2+i) N:=pM N λi _=>by rw[(aI:i+1+1=2+i)]
 rw[h3];grind
def aej(c:Rat)(N:Nat):EQ c (N+1)=1+(c+iS (λi=>eQ c<|i+1+1) N):=by
 unfold EQ;rw[At,At];show 1+(1*(c/((0+1:Nat):Rat))+_)=_;have a1:((0+1:Nat):Rat)=1:=rfl;rw[a1];grind
section
variable{c:Rat}(h:iR c<=1){N:Nat}(hN:1<=N)
def aeh:iR (1+c-EQ c N)<=iR c*iR c:=by
 obtain⟨n,rfl⟩:∃ n,N=n+1:=⟨N-1,aI⟩
 rw[aej,show 1+c-(1+(c+iS (λi=>eQ c<|i+1+1) n)) = -iS (λi=>eQ c<|i+1+1) n by grind,vz];have h1:=uM (λi=>eQ c<|i+1+1) n;rw[pM n λi _=>zN c<|i+1+1]at h1;exact bI h1<|Uv (jH c).1 h n
def ahM:iR (1-CS c N)<=iR c*iR c/\iR (c-SN c N)<=iR c*iR c:=by
 obtain⟨n,rfl⟩:∃ n,N=n+1:=⟨N-1,aI⟩
 have a1:((0+1:Nat):Rat)=1:=rfl;have eC:CS c (n+1)=1+iS (λi=>(nu c<|i+1+1).1) n:=by
  unfold CS;rw[At,At];show 1+(-(c/((0+1:Nat):Rat)*0)+_)=_;rw[a1];grind
 have eS:SN c (n+1)=c+iS (λi=>(nu c<|i+1+1).2) n:=by
  unfold SN;rw[At,At];show 0+(c/((0+1:Nat):Rat)*1+_)=_;rw[a1];grind
 have hr:=Uv (jH c).1 h n;constructor
 .rw [eC,show 1-(1+iS (λi=>(nu c<|i+1+1).1) n) = -iS (λi=>(nu c<|i+1+1).1) n by grind,vz];exact bI (uM _ n)<|bI (uF n λi _=>(xN c<|i+1+1).1) hr
 .rw [eS,show c-(c+iS (λi=>(nu c<|i+1+1).2) n) = -iS (λi=>(nu c<|i+1+1).2) n by grind,vz];exact bI (uM _ n)<|bI (uF n λi _=>(xN c<|i+1+1).2) hr
end
def Sg{u δ:Nat->Rat}{n:Nat}{U B E η ε:Rat}(hu:∀ k,k<n->u (k+1)=u k*(1+δ k))(hU:∀ k,k<=n->iR (u k)<=U)(hη:∀ k,k<n->iR (δ k)<=η)(h1:η<=1)
 (hB:∀ k,k<=n->iR (iS δ n-iS δ k)<=B) (hE:∀ c M,iR c<=B->iR (EQ c M)<=E) (hε:0<ε):
 Ev λM=>iR (u n-u 0*EQ (iS δ n) M)<=(n:Rat)*(U*(η*η*E+ε)):=by
 have h0:Ev λM=>∀ k,k<n->iR (EQ (δ k+(iS δ n-iS δ (k+1))) M-EQ (δ k) M*EQ (iS δ n-iS δ (k+1)) M)<=ε:=Ev.all n λk _=>ED _ _ hε
 refine(h0.and (⟨1,λM h=>h⟩:Ev λM=>1<=M)).mono λM ⟨hM,m1⟩=>?_
 have Fg:0<=U:=bI (jH _).1<|hU 0<|cA n;have t:=JR (a:=λk=>u k*EQ (iS δ n-iS δ k) M) (η:=U*(η*η*E+ε)) n λk hk=>by
  have s:iS δ n-iS δ k=δ k+(iS δ n-iS δ (k+1)):=by
   show _=δ k+(iS δ n-(iS δ k+δ k));grind
  show iR (u (k+1)*EQ (iS δ n-iS δ (k+1)) M-u k*EQ (iS δ n-iS δ k) M)<=_;rw[s,hu k hk];have q1:=hM k hk;have q2:=hE (iS δ n-iS δ (k+1)) M<|hB (k+1) hk;have q3:=aeh (bI (hη k hk) h1) m1;have q4:iR (1+δ k-EQ (δ k) M)<=η*η:=by
   have z:=(jH<|δ k).1;have:=bK (hη k hk) z;have:=bY (hη k hk)<|show 0<=η by have:=hη k hk;grind
   grind
  have q5:=uL (mL q4 q2) q1;have q6:=mL (hU k aI) q5;rw[show u k*(1+δ k)*EQ (iS δ n-iS δ (k+1)) M-u k*EQ (δ k+(iS δ n-iS δ (k+1))) M
   = u k*((1+δ k-EQ (δ k) M)*EQ (iS δ n-iS δ (k+1)) M-(EQ (δ k+(iS δ n-iS δ (k+1))) M-EQ (δ k) M*EQ (iS δ n-iS δ (k+1)) M))by grind]
  exact q6
 have e1:u n*EQ (iS δ n-iS δ n) M=u n:=by rw[show iS δ n-iS δ n=0 by grind,Kl];grind
 have e2:u 0*EQ (iS δ n-iS δ 0) M=u 0*EQ (iS δ n) M:=by rw[show iS δ n-iS δ 0=iS δ n by show _-0=_;grind]
 have t':iR (u n*EQ (iS δ n-iS δ n) M-u 0*EQ (iS δ n-iS δ 0) M)<=_:=t;rwa[e1,e2]at t'
def acr{p q:Nat->Rat}{n:Nat}{d U E r ε:Rat}(hd:0<=d)(h1:d<=1)(hp:∀ k,k<n->iR (p (k+1)-(p k-d*q k))<=r)(hq:∀ k,k<n->iR (q (k+1)-(q k+d*p k))<=r)
 (hU:∀ k,k<=n->iR (p k)<=U/\iR (q k)<=U) (hE:∀ c M,iR c<=(n:Rat)*d->iR (CS c M)<=E/\iR (SN c M)<=E) (hε:0<ε):
 Ev λM=>iR (p n-(p 0*CS ((n:Rat)*d) M-q 0*SN ((n:Rat)*d) M))<=(n:Rat)*(2*(E*(2*(U*(d*d))+r)+U*ε))/\iR (q n-(p 0*SN ((n:Rat)*d) M+q 0*CS ((n:Rat)*d) M))<=(n:Rat)*(2*(E*(2*(U*(d*d))+r)+U*ε)):=by
 obtain⟨T,hT⟩:∃ T:Nat->Rat,∀ k,T k=((n:Rat)-(k:Rat))*d:=⟨_,λ_=>rfl⟩
 have h0:Ev λM=>∀ k,k<n->iR (CS (d+T (k+1)) M-(CS d M*CS (T<|k+1) M-SN d M*SN (T<|k+1) M))<=ε/\iR (SN (d+T (k+1)) M-(SN d M*CS (T<|k+1) M+CS d M*SN (T<|k+1) M))<=ε:=
  Ev.all n λk _=>Ev.and (Dd d (T<|k+1) hε).1 (Dd d (T<|k+1) hε).2
 refine(h0.and (⟨1,λM h=>h⟩:Ev λM=>1<=M)).mono λM ⟨hM,m1⟩=>?_
 have Fg:0<=U:=bI (jH _).1 (hU 0<|cA n).1;have step:∀ k,k<n->(iR (p (k+1)*CS (T<|k+1) M-q (k+1)*SN (T<|k+1) M-(p k*CS (T k) M-q k*SN (T k) M))<=2*(E*(2*(U*(d*d))+r)+U*ε)) /\
  iR (p (k+1)*SN (T<|k+1) M+q (k+1)*CS (T<|k+1) M-(p k*SN (T k) M+q k*CS (T k) M))<=2*(E*(2*(U*(d*d))+r)+U*ε):=by
  intro k hk;have s:T k=d+T (k+1):=by
   rw[hT,hT,dH];have:((1:Nat):Rat)=1:=rfl;rw[this];grind
  rw[s];obtain⟨c1,c2⟩:=hM k hk;have b0:iR (T<|k+1)<=(n:Rat)*d:=by
   rw[hT];have k1:((k+1:Nat):Rat)<=(n:Rat):=cX.2 hk;have k0:(0:Rat)<=((k+1:Nat):Rat):=cE;have z:=bD (show(0:Rat)<=(n:Rat)-((k+1:Nat):Rat)by grind) hd;rw[o0 z];have:=bD k0 hd
   grind
  obtain⟨b1,b2⟩:=hE _ M b0;obtain⟨a1,a2⟩:=ahM (c:=d) (by rw[o0 hd];exact h1) m1;rw[o0 hd]at a1 a2;obtain⟨u1,u2⟩:=hU k aI;have g1:=hp k hk;have g2:=hq k hk;generalize T (k+1)=t at *
  generalize CS t M=C at *
  generalize SN t M=S at *
  generalize CS (d+t) M=C' at *
  generalize SN (d+t) M=S' at *
  generalize CS d M=c at *
  generalize SN d M=s' at *
  have x1:iR (p (k+1)-(p k*c-q k*s'))<=2*(U*(d*d))+r:=by
   have:=vw (vw (mL u1 a1) g1) (mL u2<|show iR (-(d-s'))<=d*d by rw[vz];exact a2);rw[show p k*(1-c)+(p (k+1)-(p k-d*q k))+q k * -(d-s')=p (k+1)-(p k*c-q k*s')by grind]at this
   grind
  have x2:iR (q (k+1)-(q k*c+p k*s'))<=2*(U*(d*d))+r:=by
   have:=vw (vw (mL u2 a1) g2)<|mL u1 a2;rw[show q k*(1-c)+(q (k+1)-(q k+d*p k))+p k*(d-s')=q (k+1)-(q k*c+p k*s')by grind]at this
   grind
  constructor
  .have y1:=uL (mL b1 x1)<|mL b2 x2;have y2:=uL (mL u2 c2)<|mL u1 c1;have:=vw y1 y2;rw[show C*(p (k+1)-(p k*c-q k*s'))-S*(q (k+1)-(q k*c+p k*s'))+(q k*(S'-(s'*C+c*S))-p k*(C'-(c*C-s'*S)))=p (k+1)*C-q (k+1)*S-(p k*C'-q k*S')by grind]at this
   grind
  .have y1:=vw (mL b2 x1)<|mL b1 x2;have y2:=vw (mL u2 c1)<|mL u1 c2;have:=uL y1 y2;rw[show S*(p (k+1)-(p k*c-q k*s'))+C*(q (k+1)-(q k*c+p k*s'))-(q k*(C'-(c*C-s'*S))+p k*(S'-(s'*C+c*S)))=p (k+1)*S+q (k+1)*C-(p k*S'+q k*C')by grind]at this
   grind
 have t1:=JR (a:=λk=>p k*CS (T k) M-q k*SN (T k) M) n λk hk=>(step k hk).1
 have t2:=JR (a:=λk=>p k*SN (T k) M+q k*CS (T k) M) n λk hk=>(step k hk).2
 have z:T n=0:=by rw[hT];grind
 have z0:T 0=(n:Rat)*d:=by
  rw[hT];have:((0:Nat):Rat)=0:=rfl;rw[this];grind
 have c0:∀ N,CS 0 N=1/\SN 0 N=0:=by
  have e:∀ j,(nu 0<|j+1)=(0,0):=λj=>by
   have q:(0:Rat)/((j+1:Nat):Rat)=0:=by rw[cB];grind
   show(-((0:Rat)/((j+1:Nat):Rat)*(nu 0 j).2),(0:Rat)/((j+1:Nat):Rat)*(nu 0 j).1)=(0,0)
   rw[q,fu,fu];rfl
  intro N
  induction N with
  |zero=>constructor<;>(simp[CS,SN,iS,nu];try grind)
  |succ N ih=>
   obtain⟨i1,i2⟩:=ih;constructor
   .unfold CS at *;rw[iS,i1,e];grind
   .unfold SN at *;rw[iS,i2,e];grind
 obtain⟨c1,c2⟩:=c0 M;have t1':iR (p n*CS (T n) M-q n*SN (T n) M-(p 0*CS (T 0) M-q 0*SN (T 0) M))<=_:=t1;have t2':iR (p n*SN (T n) M+q n*CS (T n) M-(p 0*SN (T 0) M+q 0*CS (T 0) M))<=_:=t2;rw[z,z0,c1,c2]at t1' t2';rw[show p n*1-q n*0=p n by grind]at t1';rw[show p n*0+q n*1=q n by grind]at t2';exact⟨t1',t2'⟩
def Ar(c:Rat):∀ n,iS (λ_=>c) n=(n:Rat)*c
 | 0=>by
  show(0:Rat)=((0:Nat):Rat)*c;have:((0:Nat):Rat)=0:=rfl;rw[this];grind
 |n+1=>by
  have e:((n+1:Nat):Rat)=(n:Rat)+1:=by rw[dH];rfl
  rw[iS,Ar c n,e];grind
def Dc(n:Nat):((n+1:Nat):Rat)=(n:Rat)+1:=by rw[dH];rfl
def I3{a b c:Rat}(hc:0<c)(h:a*c<=b):a<=b/c:=by
 rw[cB];have:=bK h<|bF<|dw.2 hc;rwa[dP,ez _ aS,dL]at this
def S9(f g:Nat->Rat):∀ n,iS (λi=>f i-g i) n=iS f n-iS g n
 | 0=>by simp only[iS];grind
 |n+1=>by rw[iS,iS,iS,S9 f g n];grind
def Nr(lo hi:Rat)(F:Nat->Rat):Prop:=∀ ε,0<ε->∃ r,lo<=r/\r<=hi/\Ev λM=>iR (F M-r)<=ε
def Nr.of{lo hi A:Rat}{F:Nat->Rat}{n0:Nat}(h:∀ n,n0<=n->1<=n->∃ r K,lo<=r/\r<=hi/\0<=K/\∀ ε,0<ε->Ev λM=>iR (F M-r)*(n:Rat)<=A+K*ε):Nr lo hi F:=λε hε=>by
 obtain⟨m,hm⟩:=wT<|A/(ε/2);obtain⟨n,hn⟩:∃ n,n=max (max n0 m) 1:=⟨_,rfl⟩
 obtain⟨r,K,h1,h2,hK,h3⟩:=h n aI aI;refine⟨r,h1,h2,?_⟩;have e0:0<ε/2:= aS ;have hK1:0<K+1:= aS ;have hd:0<ε/2/(K+1):=by rw[cB];exact cR e0<|dw.2 hK1
 refine(h3 _ hd).mono λM hM=>?_
 have n1:(1:Rat)<=(n:Rat):=cX.2 (aI:1<=n);have nm:(m:Rat)<=(n:Rat):=cX.2 (aI:m<=n);have c1:A<=ε/2*(n:Rat):=by
  have h6:A/(ε/2)*(ε/2)=A:=cV aS;have h7:=bK (bI hm nm)<|bF e0
  grind
 have c2:K*(ε/2/(K+1))<=ε/2:=by
  have h6:ε/2/(K+1)*(K+1)=ε/2:=cV aS 
  grind
 have c3:ε/2<=ε/2*(n:Rat):=by
  have:=bY n1<|bF e0
  grind
 exact dG (aS:iR (F M-r)*(n:Rat)<=ε*(n:Rat)) aS 
def BE{B:Rat}(hB:0<=B):∃ E,0<E/\∀ c M,iR c<=B->iR (EQ c M)<=E/\iR (CS c M)<=E/\iR (SN c M)<=E:=by
 obtain⟨E,h0,h⟩:=Us hB;refine⟨E,h0,λc M hc=>?_⟩;have h1:=bI (N9 (jH c).1 hc M)<|h M;exact⟨bI (aec c M) h1,bI (N7 c M).1 h1,bI (N7 c M).2 h1⟩
def Ro{x:Rat}(h:iR x*2<=1):0<1+x/\iR (1-(1+x)⁻¹)<=2*iR x/\(1+x)⁻¹<=2/\0<(1+x)⁻¹:=by
 obtain⟨a,b⟩:=AH<|bH (a:=iR x);have hp:0<1+x:= aS ;have hi:=dw.2 hp;have e:(1+x)*(1+x)⁻¹=1:=ez _ aS;have h2:(1+x)⁻¹<=2:=by
  have:=bK (show(1:Rat)/2<=1+x by grind)<|bF hi
  grind
 refine⟨hp,?_,h2,hi⟩;rw[show 1-(1+x)⁻¹=x*(1+x)⁻¹ by grind,oA,o0<|bF hi];have:=bY h2 (jH x).1
 grind
def SH{e c:Nat->Rat}{n:Nat}{U η:Rat}(he:∀ k,k<n->e (k+1)=e k+c k*(e k*e k))(hU:∀ k,k<=n->iR (e k)<=U)(hc:∀ k,k<n->iR (c k)<=η)(h1:η*U*2<=1):
 iR (e n*(1-e 0*iS c n)-e 0)<=U*U*((n:Rat)*(2*(η*η)*U)):=by
 have Fg:0<=U:=bI (jH _).1<|hU 0<|cA n;have hs:∀ k,k<n->iR (c k*e k)<=η*U:=λk hk=>mL (hc k hk)<|hU k aI
 have id:∀ k,k<=n->e k*(1-e 0*iS (λi=>c i*(1+c i*e i)⁻¹) k)=e 0:=by
  intro k
  induction k with
  |zero=>intro _;show e 0*(1-e 0*0)=e 0;grind
  |succ k ih=>
   intro hk;have ih:=ih aI;have hi:=(Ro (x:=c k*e k)<|by have:=hs k hk;grind).1;have e1:(1+c k*e k)*(1+c k*e k)⁻¹=1:=ez _ aS;rw[he k hk,iS];generalize iS (λi=>c i*(1+c i*e i)⁻¹) k=s at *
   generalize (1+c k*e k)⁻¹=v at *
   have h2:e k*(1-e 0*s)*(1+c k*e k)-e k*e 0*c k*((1+c k*e k)*v)=e 0*(1+c k*e k)-e k*e 0*c k:=by
    rw[ih,e1];grind
   grind
 have hd:iR (iS c n-iS (λi=>c i*(1+c i*e i)⁻¹) n)<=(n:Rat)*(2*(η*η)*U):=by
  rw[<-S9];refine bI (uM _ n) ?_;rw[<-Ar];refine uF n λk hk=>?_
  show iR (c k-c k*(1+c k*e k)⁻¹)<=_;rw[show c k-c k*(1+c k*e k)⁻¹=c k*(1-(1+c k*e k)⁻¹)by grind];have h3:=(Ro (x:=c k*e k)<|by have:=hs k hk;grind).2.1;have h4:=mL (hc k hk)<|bI h3<|show 2*iR (c k*e k)<=2*(η*U)by have:=hs k hk;grind
  grind
 have hn:=id n<|bB n;have e2:e n*(1-e 0*iS c n)-e 0 = -(e n*e 0)*(iS c n-iS (λi=>c i*(1+c i*e i)⁻¹) n):= aS ;rw[e2];exact mL (by rw[vz];exact mL (hU n<|bB n)<|hU 0<|cA n) hd
def W5{x y:Rat}(hx:0<=x)(hy:0<=y):∀ j,eQ x (j+1)+y*eQ x j<=eQ (x+y) (j+1)
 | 0=>by
  have a1:((0+1:Nat):Rat)=1:=rfl;show 1*(x/((0+1:Nat):Rat))+y*1<=1*((x+y)/((0+1:Nat):Rat))
  rw[a1];grind
 |j+1=>by
  have ih:=W5 hx hy j;have s1:=yK (x+y)<|j+1;have s2:=yK x<|j+1;have s3:=yK x j;have nD:(0:Rat)<((j+1+1:Nat):Rat):=dQ.2 aI;refine dG ?_ nD;rw[s1];have e1:=Dc<|j+1;have h1:=bY ih (show 0<=x+y by grind);have h2:0<=y*y*eQ x j:=bD (bD hy hy)<|qC hx j;have h3:(eQ x (j+1+1)+y*eQ x (j+1))*((j+1+1:Nat):Rat)=x*eQ x (j+1)+y*(x*eQ x j)+y*eQ x (j+1):=by
   rw[<-s3,<-s2,e1];grind
  rw[h3]
  grind
def aee{x y:Rat}(hx:0<=x)(hy:0<=y)(n:Nat):EQ x n*(1+y)<=EQ (x+y) (n+1):=by
 have e:∀ c m,EQ c (m+1)=1+iS (λi=>eQ c<|i+1) (m+1):=λc m=>by
  unfold EQ;rw[At];rfl
 have h1:iS (λi=>eQ x (i+1)+y*eQ x i) (n+1)<=iS (λi=>eQ (x+y)<|i+1) (n+1):=uF _ λi _=>W5 hx hy i
 rw[Gj,As]at h1;have h2:EQ x (n+1)=EQ x n+eQ x (n+1):=rfl;have h3:=qC hx<|n+1;have h4:=e x n;rw[e (x+y) n];unfold EQ at *
 grind
def aov{u:Nat->Rat}{n:Nat}{η U:Rat}(h0:0<=η)(hu:∀ k,k<n->iR (u<|k+1)<=iR (u k)*(1+η))(hU:iR (u 0)<=U):∀ k,k<=n->iR (u k)<=U*EQ ((n:Rat)*η) n:=by
 have Fg:=bI (jH<|u 0).1 hU;have key:∀ k,k<=n->iR (u k)<=U*EQ ((k:Rat)*η) k:=by
  intro k
  induction k with
  |zero=>
   intro _;have:=Ob (c:=((0:Nat):Rat)*η) (by have:((0:Nat):Rat)=0:=rfl;rw[this];grind) 0;have:=bY this Fg
   grind
  |succ k ih=>
   intro hk;have ih:=ih aI;have hz:=bD (cE (a:=k)) h0;have h2:=aee hz h0 k;rw[show(k:Rat)*η+η=((k+1:Nat):Rat)*η by rw[Dc];grind]at h2;have h3:=bK ih (show 0<=1+η by grind);have h4:=bY h2 Fg;have:=hu k hk
   grind
 intro k hk;have h1:=key k hk;have hz:=bD (cE (a:=k)) h0;have A4:(k:Rat)*η<=(n:Rat)*η:=bK (cX.2 hk) h0;have h2:=N9 hz A4 k;have h3:EQ ((n:Rat)*η) k<=EQ ((n:Rat)*η) n:=Bv (λi=>qC (bI hz A4) i) aI;have:=bY (bI h2 h3) Fg;exact bI h1 this
def xF(f:Rat->Rat)(x lo hi t:Rat):Prop:=∀ (n:Nat) (d:Rat),1<=n->0<=d->(n:Rat)*d=t->∃ e:Nat->Rat,e 0=x/\(∀ k,k<n->e (k+1)=e k+d*f (e k))/\∀ k,k<=n->lo<=e k/\e k<=hi
def yr(f g:Rat->Rat->Rat)(x y lo hi lo' kG t:Rat):Prop:=∀ (n:Nat) (d:Rat),1<=n->0<=d->(n:Rat)*d=t->∃ e e':Nat->Rat,e 0=x/\e' 0=y/\(∀ k,k<n->e (k+1)=e k+d*f (e k) (e' k)/\e' (k+1)=e' k+d*g (e k) (e' k))/\∀ k,k<=n->(lo<=e k/\e k<=hi)/\lo'<=e' k/\e' k<=kG
def Ub(lo hi:Rat):Rat:=iR lo+iR hi
def sm{lo hi e:Rat}(h1:lo<=e)(h2:e<=hi):iR e<=Ub lo hi:=by
 unfold Ub;obtain⟨a1,a2,a3,_⟩:=jH lo;obtain⟨b1,b2,b3,_⟩:=jH hi;exact qA aS aS 
def xJ(lo hi:Rat):0<=Ub lo hi:=by
 unfold Ub;have a:=(jH lo).1;have b:=(jH hi).1
 grind
def wW{n:Nat}(h:1<=n){t:Rat}(ht:0<=t):∃ d:Rat,0<=d/\(n:Rat)*d=t:=by
 have h0:(0:Rat)<(n:Rat):=dQ.2 h;refine⟨t/(n:Rat),yG ht h0,?_⟩;rw[gw];exact cV aS 
def BN{n m:Nat}{d t C:Rat}(hd:(n:Rat)*d=t)(hC:t*C<=(m:Rat))(hm:m<=n)(h1:1<=n):d*C<=1:=by
 have h0:(0:Rat)<(n:Rat):=dQ.2 h1;have h2:(m:Rat)<=(n:Rat):=cX.2 hm;refine Rat.le_of_mul_le_mul_left ?_ h0;rw[<-hd]at hC
 grind
def MK{a e w c n A:Rat}(hc:0<c)(hw:c<=w)(hn:0<=n)(h:iR (e*w-a)*n<=A):iR (a/w-e)*n<=A/c:=by
 have w0:0<w:= aS ;have e1:a/w*w=a:=cV aS;refine I3 hc ?_;have h1:iR (a/w-e)*w=iR (e*w-a):=by
  rw[<-o0 (bF w0),<-oA,o0<|bF w0,C0<|e*w];congr 1
  grind
 have z:=(jH<|a/w-e).1;have h2:=bY hw<|bD z hn;have:iR (a/w-e)*n*w=iR (e*w-a)*n:=by rw[<-h1];grind
 grind
def Nr.pd{lo hi v A:Rat}{n0:Nat}(h:∀ n,n0<=n->1<=n->∃ r,lo<=r/\r<=hi/\iR (v-r)*(n:Rat)<=A):Nr lo hi λ_=>v:=
 Nr.of (n0:=n0) (A:=A) λn a b=>by
  obtain⟨r,h1,h2,h3⟩:=h n a b;exact⟨r,0,h1,h2,bH,λε hε=>.of λM=> aS⟩
def nr0{x lo hi t:Rat}(ht:0<=t)(H:xF (λe=>-(e*e)) x lo hi t)(hw:0<1+x*t):Nr lo hi λ_=>x/(1+x*t):=by
 obtain⟨m,hm⟩:=wT<|t*(Ub lo hi*2);refine Nr.pd (n0:=m) (A:=Ub lo hi*Ub lo hi*(2*(t*t)*Ub lo hi)/(1+x*t)) λn h1 h2=>?_
 obtain⟨d,d0,hd⟩:=wW h2 ht;obtain⟨e,e0,es,eb⟩:=H n d h2 d0 hd;obtain⟨b1,b2⟩:=eb n<|bB n;refine⟨e n,b1,b2,MK hw bH cE ?_⟩;have hr:=SH (e:=e) (c:=λ_=>-d) (n:=n) (U:=Ub lo hi) (η:=d) (λk hk=>by rw[es k hk];grind) (λk hk=>sm (eb k hk).1 (eb k hk).2) (λk _=>by rw[vz,o0 d0];exact bH) (by have:=BN hd hm h1 h2;grind);rw[Ar,e0,show 1-x*((n:Rat) * -d)=1+x*t by rw[<-hd];grind]at hr;have:=bK hr<|cE (a:=n);refine bI this ?_;rw[<-hd];grind
def nr1{a x y lo hi lo' kG t:Rat}(ht:0<=t)(H:yr (λ_ e'=>e') (λ_ _=>a) x y lo hi lo' kG t):(Nr lo hi λ_=>x+y*t+a*(t*t)/2)/\Nr lo' kG λ_=>y+a*t:=by
 have key:∀ (n:Nat) (d:Rat),1<=n->0<=d->(n:Rat)*d=t->∃ e e':Rat,lo<=e/\e<=hi/\lo'<=e'/\e'<=kG/\e'=y+a*t/\e=x+y*t+a*(t*t)/2-a*t*d/2:=λn d h2 d0 hd=>by
  obtain⟨e,e',e0,e0',es,eb⟩:=H n d h2 d0 hd;obtain⟨⟨b1,b2⟩,b3,b4⟩:=eb n<|bB n;have k1:∀ k,k<=n->e' k=y+a*((k:Rat)*d)/\e k=x+y*((k:Rat)*d)+a*(((k:Rat)*d)*((k:Rat)*d))/2-a*((k:Rat)*d)*d/2:=by
   intro k
   induction k with
   |zero=>
    intro _;have z:((0:Nat):Rat)=0:=rfl;rw[e0,e0',z];constructor<;>grind
   |succ k ih=>
    intro hk;obtain⟨i1,i2⟩:=ih aI;obtain⟨s1,s2⟩:=es k hk;rw[s1,s2,i1,i2,Dc];constructor<;>grind
  obtain⟨q1,q2⟩:=k1 n<|bB n;rw[hd]at q1 q2;exact⟨e n,e' n,b1,b2,b3,b4,q1,q2⟩
 constructor
 .refine Nr.pd (n0:=1) (A:=iR<|a*t*t/2) λn h1 h2=>?_
  obtain⟨d,d0,hd⟩:=wW h2 ht;obtain⟨e,e',b1,b2,b3,b4,q1,q2⟩:=key n d h2 d0 hd;refine⟨e,b1,b2,?_⟩;rw[q2,show x+y*t+a*(t*t)/2-(x+y*t+a*(t*t)/2-a*t*d/2)=a*t*d/2 by grind];have z:(0:Rat)<=(n:Rat):=cE;rw[<-o0 z,<-oA,show a*t*d/2*(n:Rat)=a*t*((n:Rat)*d)/2 by grind,hd];exact bH
 .refine Nr.pd (n0:=1) (A:=0) λn h1 h2=>?_
  obtain⟨d,d0,hd⟩:=wW h2 ht;obtain⟨e,e',b1,b2,b3,b4,q1,q2⟩:=key n d h2 d0 hd;refine⟨e',b3,b4,?_⟩;rw[q1,show y+a*t-(y+a*t)=0 by grind,yz]
  grind
def nr2{x y lo hi lo' kG t:Rat}(ht:0<=t)(H:yr (λe e'=>e*e') (λ_ e'=>-(e'*e')) x y lo hi lo' kG t)(hw:0<1+y*t):
 (Nr lo hi λ_=>x*(1+y*t))/\Nr lo' kG λ_=>y/(1+y*t):=by
 refine⟨?_,nr0 ht (λn d h1 h2 h3=>by
  obtain⟨e,e',e0,e0',es,eb⟩:=H n d h1 h2 h3;exact⟨e',e0',λk hk=>(es k hk).2,λk hk=>(eb k hk).2⟩) hw⟩
 by_cases hy:y=0
 .refine Nr.pd (n0:=1) (A:=0) λn h1 h2=>?_
  obtain⟨d,d0,hd⟩:=wW h2 ht;obtain⟨e,e',e0,e0',es,eb⟩:=H n d h2 d0 hd;obtain⟨⟨b1,b2⟩,_⟩:=eb n<|bB n;have k1:∀ k,k<=n->e' k=0/\e k=x:=by
   intro k
   induction k with
   |zero=>intro _;exact⟨by rw[e0',hy],e0⟩
   |succ k ih=>
    intro hk;obtain⟨i1,i2⟩:=ih aI;obtain⟨s1,s2⟩:=es k hk;rw[s1,s2,i1,i2];constructor<;>grind
  refine⟨e n,b1,b2,?_⟩;rw[(k1 n<|bB n).2,hy,show x*(1+0*t)-x=0 by grind,yz]
  grind
 .obtain ⟨U,hU⟩:∃ U,U=Ub lo hi+Ub lo' kG:=⟨_,rfl⟩
  have u1:=xJ lo hi;have u2:=xJ lo' kG;obtain⟨m,hm⟩:=wT<|t*(Ub lo' kG*2);have hy0:0<iR y:=by
   obtain⟨_,_,_,q⟩:=jH y
   grind
  refine Nr.pd (n0:=m) (A:=((1+y*t)*(U*U*(U*U)*(t*t))+U*(Ub lo' kG*Ub lo' kG*(2*(t*t)*Ub lo' kG)))/iR y) λn h1 h2=>?_
  obtain⟨d,d0,hd⟩:=wW h2 ht;obtain⟨e,e',e0,e0',es,eb⟩:=H n d h2 d0 hd;obtain⟨⟨b1,b2⟩,b3,b4⟩:=eb n<|bB n;have nn:(0:Rat)<=(n:Rat):=cE;have bd:∀ k,k<=n->iR (e k)<=U/\iR (e' k)<=U:=λk hk=>by
   obtain⟨⟨c1,c2⟩,c3,c4⟩:=eb k hk;have:=sm c1 c2;have:=sm c3 c4;constructor<;>grind
  have hr:=SH (e:=e') (c:=λ_=>-d) (n:=n) (U:=Ub lo' kG) (η:=d) (λk hk=>by rw[(es k hk).2];grind) (λk hk=>sm (eb k hk).2.1 (eb k hk).2.2) (λk _=>by rw[vz,o0 d0];exact bH) (by have:=BN hd hm h1 h2;grind);rw[Ar,e0',show 1-y*((n:Rat) * -d)=1+y*t by rw[<-hd];grind]at hr;have A9:=JR (a:=λk=>e k*e' k) (η:=U*U*(U*U)*(d*d)) n λk hk=>by
   obtain⟨s1,s2⟩:=es k hk;obtain⟨c1,c2⟩:=bd k aI;show iR (e (k+1)*e' (k+1)-e k*e' k)<=_;rw[s1,s2,show(e k+d*(e k*e' k))*(e' k+d * -(e' k*e' k))-e k*e' k = -(e k*e' k*(e' k*e' k)*(d*d))by grind,vz];refine mL (mL (mL c1 c2)<|mL c2 c2) ?_;rw[o0<|bD d0 d0];exact bH
  refine⟨e n,b1,b2,?_⟩;have FC:iR (e n*e' n-e 0*e' 0)<=(n:Rat)*(U*U*(U*U)*(d*d)):=A9;rw[e0,e0']at FC;refine I3 hy0 ?_;have w0:iR (1+y*t)=1+y*t:=o0<|bF hw;have z1:=uL (mL (bH (a:=iR<|1+y*t)) FC)<|mL (bd n<|bB n).1 hr;rw[show(1+y*t)*(e n*e' n-x*y)-e n*(e' n*(1+y*t)-y) = -((x*(1+y*t)-e n)*y)by grind,vz,oA,w0]at z1;have z2:=bK z1 nn;refine bI (show _<=_ from ?_) (bI z2 ?_)
  .grind
  .rw [<-hd];grind
def nr3{s x lo hi lo' kG t:Rat}(ht:0<=t)(H:yr (λ_ _=>1) (λe e'=>2*e*(e'*e')) s x lo hi lo' kG t):
  (Nr lo hi λ_=>s+t)/\(0<1-x*((s+t)*(s+t)-s*s)->Nr lo' kG λ_=>x/(1-x*((s+t)*(s+t)-s*s))):=by
 have Z7:∀ {n:Nat} {d:Rat} {e:Nat->Rat},e 0=s->(∀ k,k<n->e (k+1)=e k+d*1)->∀ k,k<=n->e k=s+(k:Rat)*d:=fun {n d e} e0 es k=>by
  induction k with
  |zero=>
   intro _;have z:((0:Nat):Rat)=0:=rfl;rw[e0,z];grind
  |succ k ih=>
   intro hk;rw[es k hk,ih aI,Dc];grind
 constructor
 .refine Nr.pd (n0:=1) (A:=0) λn h1 h2=>?_
  obtain⟨d,d0,hd⟩:=wW h2 ht;obtain⟨e,e',e0,e0',es,eb⟩:=H n d h2 d0 hd;obtain⟨⟨b1,b2⟩,_⟩:=eb n<|bB n;refine⟨e n,b1,b2,?_⟩;rw[Z7 e0 (λk hk=>(es k hk).1) n<|bB n,hd,show s+t-(s+t)=0 by grind,yz]
  grind
 .intro hw;obtain⟨S,hS⟩:∃ S,S=2*Ub lo hi:=⟨_,rfl⟩
  have u1:=xJ lo hi;have u2:=xJ lo' kG;obtain⟨m,hm⟩:=wT<|t*(S*Ub lo' kG*2);refine Nr.pd (n0:=m) (A:=(Ub lo' kG*Ub lo' kG*(2*(t*S*(t*S))*Ub lo' kG)+Ub lo' kG*iR x*(t*t))/(1-x*((s+t)*(s+t)-s*s))) λn h1 h2=>?_
  obtain⟨d,d0,hd⟩:=wW h2 ht;obtain⟨e,e',e0,e0',es,eb⟩:=H n d h2 d0 hd;obtain⟨_,b3,b4⟩:=eb n<|bB n;have nn:(0:Rat)<=(n:Rat):=cE;have hl:=Z7 e0 λk hk=>(es k hk).1
  have hr:=SH (e:=e') (c:=λk=>d*(2*e k)) (n:=n) (U:=Ub lo' kG) (η:=d*S) (λk hk=>by rw[(es k hk).2];grind) (λk hk=>sm (eb k hk).2.1 (eb k hk).2.2)
   (λk hk=>by
    have:=sm (eb k aI).1.1 (eb k aI).1.2;refine mL (by rw[o0 d0];exact bH) ?_;rw[hS];exact mL aT this) (by have:=BN hd hm h1 h2;grind)
  have hs:∀ k,k<=n->iS (λk=>d*(2*e k)) k=2*s*((k:Rat)*d)+(k:Rat)*d*((k:Rat)*d)-(k:Rat)*d*d:=by
   intro k
   induction k with
   |zero=>
    intro _;have z:((0:Nat):Rat)=0:=rfl;show(0:Rat)=_;rw[z];grind
   |succ k ih=>
    intro hk;rw[iS,ih aI,hl k aI,Dc];grind
  rw[hs n<|bB n,hd,e0']at hr;refine⟨e' n,b3,b4,MK hw bH nn ?_⟩;have z1:=uL hr (mL (mL (sm b3 b4)<|bH (a:=iR x))<|show iR (t*d)<=t*d by rw[o0<|bD ht d0];exact bH);rw[show e' n*(1-x*(2*s*t+t*t-t*d))-x-e' n*x*(t*d)=e' n*(1-x*((s+t)*(s+t)-s*s))-x by grind]at z1;have z2:=bK z1 nn;refine bI z2 ?_;rw[<-hd];grind
def GI:iR 1=1:= aT 
def Xx{u:Nat->Rat}{n:Nat}{d a U E t:Rat}(d0:0<=d)(hd:(n:Rat)*d=t)(hu:∀ k,k<n->u (k+1)=u k+d*(a*u k))(hU:∀ k,k<=n->iR (u k)<=U)(h1:iR a*d<=1)(hE:∀ c M,iR c<=iR a*t->iR (EQ c M)<=E):
  ∀ ε,0<ε->Ev λM=>iR (u n-u 0*EQ (a*t) M)*(n:Rat)<=U*E*(iR a*t*(iR a*t))+(n:Rat)*(n:Rat)*U*ε:=λε hε=>by
 have nn:(0:Rat)<=(n:Rat):=cE;have a0:=(jH a).1;have had:iR (a*d)=iR a*d:=by rw[oA,o0 d0]
 have h:=Sg (u:=u) (δ:=λ_=>a*d) (n:=n) (U:=U) (B:=iR a*t) (E:=E) (η:=iR a*d) (ε:=ε) (λk hk=>by rw[hu k hk];grind) hU (λk _=>by rw[had];exact bH) h1
  (λk hk=>by
   rw[Ar,Ar,<-hd];have BY:(k:Rat)<=(n:Rat):=cX.2 hk;have k0:(0:Rat)<=(k:Rat):=cE;rw[show(n:Rat)*(a*d)-(k:Rat)*(a*d)=a*(((n:Rat)-(k:Rat))*d)by grind,oA,o0<|bD aS d0];refine bY ?_ a0;exact bK aS d0) hE hε
 refine h.mono λM hM=>?_
 rw[Ar,show(n:Rat)*(a*d)=a*t by rw[<-hd];grind]at hM;have:=bK hM nn;refine bI this ?_;rw[<-hd];grind
def nr4{a x lo hi t:Rat}(ht:0<=t)(H:xF (λe=>a*e) x lo hi t):Nr lo hi λM=>x*EQ (a*t) M:=by
 have a0:=(jH a).1;obtain⟨E,_,hE⟩:=BE<|bD a0 ht;obtain⟨m,hm⟩:=wT<|t*iR a;refine Nr.of (n0:=m) (A:=Ub lo hi*E*(iR a*t*(iR a*t))) λn h1 h2=>?_
 obtain⟨d,d0,hd⟩:=wW h2 ht;obtain⟨e,e0,es,eb⟩:=H n d h2 d0 hd;obtain⟨b1,b2⟩:=eb n<|bB n;have nn:(0:Rat)<=(n:Rat):=cE;refine⟨e n,(n:Rat)*(n:Rat)*Ub lo hi,b1,b2,bD (bD nn nn)<|xJ lo hi,λε hε=>?_⟩;have h:=Xx d0 hd es (λk hk=>sm (eb k hk).1 (eb k hk).2) (by have:=BN hd hm h1 h2;grind) (λc M hc=>(hE c M hc).1) ε hε;refine h.mono λM hM=>?_
 rw[e0]at hM;rwa[C0]
def nr5{x y lo hi lo' kG t:Rat}(ht:0<=t)(H:yr (λ_ e'=>-e') (λe _=>e) x y lo hi lo' kG t):
  (Nr lo hi λM=>x*CS t M-y*SN t M)/\Nr lo' kG λM=>x*SN t M+y*CS t M:=by
 obtain⟨U,hU⟩:∃ U,U=Ub lo hi+Ub lo' kG:=⟨_,rfl⟩
 have u1:=xJ lo hi;have u2:=xJ lo' kG;obtain⟨E,_,hE⟩:=BE ht;obtain⟨m,hm⟩:=wT t;have key:∀ n,m<=n->1<=n->∃ e e':Rat,(lo<=e/\e<=hi)/\(lo'<=e'/\e'<=kG)/\∀ ε,0<ε->Ev λM=>
   iR (e-(x*CS t M-y*SN t M))*(n:Rat)<=4*E*U*(t*t)+2*U*((n:Rat)*(n:Rat))*ε/\iR (e'-(x*SN t M+y*CS t M))*(n:Rat)<=4*E*U*(t*t)+2*U*((n:Rat)*(n:Rat))*ε:=λn h1 h2=>by
  obtain⟨d,d0,hd⟩:=wW h2 ht;obtain⟨e,e',e0,e0',es,eb⟩:=H n d h2 d0 hd;obtain⟨b,b'⟩:=eb n<|bB n;have nn:(0:Rat)<=(n:Rat):=cE;refine⟨e n,e' n,b,b',λε hε=>?_⟩;have h:=acr (p:=e) (q:=e') (n:=n) (d:=d) (U:=U) (E:=E) (r:=0) (ε:=ε) d0 (by have:=BN hd (C:=1) aS h1 h2;grind)
   (λk hk=>by rw[(es k hk).1,show e k+d * -e' k-(e k-d*e' k)=0 by grind,yz];exact bH) (λk hk=>by rw[(es k hk).2,show e' k+d*e k-(e' k+d*e k)=0 by grind,yz];exact bH)
   (λk hk=>by
    have:=sm (eb k hk).1.1 (eb k hk).1.2;have:=sm (eb k hk).2.1 (eb k hk).2.2;constructor<;>grind) (λc M hc=>(hE c M<|by rw[<-hd];exact hc).2) hε
  refine h.mono λM ⟨g1,g2⟩=>?_
  rw[hd,e0,e0']at g1 g2;have:=bK g1 nn;have:=bK g2 nn;have e1:(n:Rat)*(2*(E*(2*(U*(d*d))+0)+U*ε))*(n:Rat)=4*E*U*(t*t)+2*U*((n:Rat)*(n:Rat))*ε:=by rw[<-hd];grind
  constructor<;>grind
 have k0:∀ n:Nat,0<=2*U*((n:Rat)*(n:Rat)):=λn=>bD aS<|bD cE cE
 constructor
 .refine Nr.of (n0:=m) (A:=4*E*U*(t*t)) λn h1 h2=>?_
  obtain⟨e,e',⟨b1,b2⟩,_,h⟩:=key n h1 h2;exact⟨e,_,b1,b2,k0 n,λε hε=>(h ε hε).mono λM g=>by rw[C0];exact g.1⟩
 .refine Nr.of (n0:=m) (A:=4*E*U*(t*t)) λn h1 h2=>?_
  obtain⟨e,e',_,⟨b1,b2⟩,h⟩:=key n h1 h2;exact⟨e',_,b1,b2,k0 n,λε hε=>(h ε hε).mono λM g=>by rw[C0];exact g.2⟩
def nr6{x lo hi t c:Rat}(ht:0<=t)(H:xF (λe=>e*(1-e)) x lo hi t)(hc:0<c)(hD:Ev λM=>c<=1+x*(EQ t M-1)):Nr lo hi λM=>x*EQ t M/(1+x*(EQ t M-1)):=by
 obtain⟨U,hU⟩:∃ U,U=Ub lo hi+1:=⟨_,rfl⟩
 have u1:=xJ lo hi;obtain⟨E,E0,hE⟩:=BE (show 0<=2*t by grind);obtain⟨m,hm⟩:=wT<|t*(4*U);obtain⟨V,hV⟩:∃ V,V=Ub lo hi*iR (1-x):=⟨_,rfl⟩
 have V0:0<=V:=by rw[hV];exact bD u1 (jH _).1
 refine Nr.of (n0:=m) (A:=V*(E*(E*(4*(t*t))+2*U*(t*t)*E))/c) λn h1 h2=>?_
 obtain⟨d,d0,hd⟩:=wW h2 ht;obtain⟨e,e0,es,eb⟩:=H n d h2 d0 hd;obtain⟨b1,b2⟩:=eb n<|bB n;have nn:(0:Rat)<=(n:Rat):=cE;have n1:(1:Rat)<=(n:Rat):=cX.2 h2;have hdU:=BN hd hm h1 h2;have hx:∀ k,k<=n->iR (d-d*e k)<=d*U/\iR (d*e k)<=d*U:=λk hk=>by
  have b:=sm (eb k hk).1 (eb k hk).2;have q1:=mL (show iR d<=d by rw[o0 d0];exact bH) (uL (show iR 1<=1 by rw[GI];exact bH) b);have q2:=mL (show iR d<=d by rw[o0 d0];exact bH) (show iR (e k)<=U by grind);rw[show d*(1-e k)=d-d*e k by grind,show 1+Ub lo hi=U by grind]at q1;exact⟨q1,q2⟩
 have hinv:∀ k,k<=n->0<1+(d-d*e k)/\iR (1-(1+(d-d*e k))⁻¹)<=2*iR (d-d*e k)/\(1+(d-d*e k))⁻¹<=2/\0<(1+(d-d*e k))⁻¹:=λk hk=>Ro<|by have:=(hx k hk).1;grind
 obtain⟨δ,hδ⟩:∃ δ:Nat->Rat,∀ k,δ k = -(d*(1+(d-d*e k))⁻¹):=⟨_,λ_=>rfl⟩
 obtain⟨z,sP,FI⟩:∃ z:Nat->Rat,z 0=1/\∀ k,z (k+1)=z k*(1+δ k):=⟨λk=>Nat.rec 1 (λk y=>y*(1+δ k)) k,rfl,λ_=>rfl⟩
 have dl:∀ k,k<n->iR (δ k)<=2*d/\0<=1+δ k/\1+δ k<=1/\(1+δ k)*(1+(d-d*e k))=1-d*e k/\iR (δ k+d)<=d*(2*(d*U)):=λk hk=>by
  obtain⟨i1,i2,i3,i4⟩:=hinv k aI;have e1:(1+(d-d*e k))*(1+(d-d*e k))⁻¹=1:=ez _ aS;have x1:=(hx k aI).1;have x2:=(hx k aI).2;rw[hδ];have z1:=bD d0<|bF i4;have z2:=bY i3 d0;have f1:(1 + -(d*(1+(d-d*e k))⁻¹))*(1+(d-d*e k))=1-d*e k:= aS ;refine⟨by rw[vz,o0 z1];grind,?_,aS,f1,?_⟩
  .have:=AH x2;exact dG (by rw[f1];grind) i1
  .rw [show -(d*(1+(d-d*e k))⁻¹)+d=d*(1-(1+(d-d*e k))⁻¹)by grind];refine mL (by rw[o0 d0];exact bH) ?_
   grind
 have zb:∀ k,k<=n->0<=z k/\z k<=1:=by
  intro k
  induction k with
  |zero=>intro _;rw[sP];exact⟨aK,bH⟩
  |succ k ih=>
   intro hk;obtain⟨i1,i2⟩:=ih aI;obtain⟨_,g1,g2,_⟩:=dl k hk;rw[FI];have:=bD i1 g1;have:=bY g2 i1;constructor<;>grind
 have id:∀ k,k<=n->e k*(1-x)*z k=x*(1-e k):=by
  intro k
  induction k with
  |zero=>intro _;rw[sP,e0];grind
  |succ k ih=>
   intro hk;have ih:=ih aI;obtain⟨_,_,_,g,_⟩:=dl k hk;rw[FI,es k hk];have:(e k+d*(e k*(1-e k)))*(1-x)*(z k*(1+δ k))=e k*(1-x)*z k*((1+δ k)*(1+(d-d*e k))):= aS ;rw[this,ih,g];grind
 have sS:iR (iS δ n - -t)<=(n:Rat)*(d*(2*(d*U))):=by
  have h3:iS δ n - -t=iS (λk=>δ k - -d) n:=by rw[S9,Ar,<-hd];grind
  rw[h3];refine bI (uM _ n) ?_;rw[<-Ar];refine uF n λk hk=>?_
  show iR (δ k - -d)<=_;rw[show δ k - -d=δ k+d by grind];exact(dl k hk).2.2.2.2
 have sB:∀ k,k<=n->iR (iS δ n-iS δ k)<=2*t:=λk hk=>by
  obtain⟨j,rfl⟩:∃ j,n=k+j:=⟨n-k,aI⟩
  rw[vr,show iS δ k+iS (λi=>δ<|k+i) j-iS δ k=iS (λi=>δ<|k+i) j by grind];refine bI (uM _ j) ?_;have h3:iS (λi=>iR<|δ<|k+i) j<=iS (λ_=>2*d) j:=uF j λi hi=>(dl (k+i) aI).1
  rw[Ar]at h3;have h4:(j:Rat)<=((k+j:Nat):Rat):=cX.2 aI;have h5:=bK h4 (show 0<=2*d by grind);rw[<-hd];grind
 refine⟨e n,V*(E*((n:Rat)*(n:Rat))+(n:Rat))/c,b1,b2,yG (bD V0 (by
  have:=bD (bF E0)<|bD nn nn;grind)) hc,λε hε=>?_⟩
 have hp:=Sg (u:=z) (δ:=δ) (n:=n) (U:=1) (B:=2*t) (E:=E) (η:=2*d) (ε:=ε) (λk _=>FI k) (λk hk=>by
  obtain⟨q1,q2⟩:=zb k hk;rw[o0 q1];exact q2) (λk hk=>(dl k hk).1) (by
   have:d<=d*U:=by
    have:=bY (show 1<=U by grind) d0
    grind
   grind) sB (λc M hc=>(hE c M hc).1) hε
 refine((hp.and hD).and<|ED (-t) t hε).mono λM ⟨⟨g1,g2⟩,g3⟩=>?_
 rw[show -t+t=0 by grind,Kl]at g3;have g4:=Oa (sB 0<|cA n) (show iR (-t)<=2*t by rw[vz,o0 ht];grind) M;rw[show iS δ n-iS δ 0=iS δ n by show _-0=_;grind]at g4;have g5:EQ (2*t) M<=E:=by
  have:=(hE (2*t) M<|by rw[o0 aS];exact bH).1;have:=(AH this).2;exact this
 have g6:iR (EQ (iS δ n) M-EQ (-t) M)<=(n:Rat)*(d*(2*(d*U)))*E:=by
  refine bI g4<|bI (bY g5 (jH _).1)<|bK sS<|bF E0
 have g7:=(hE t M<|by rw[o0 ht];grind).1;rw[sP]at g1;have hid:=id n<|bB n;have k1:=vw g1 g6;rw[show z n-1*EQ (iS δ n) M+(EQ (iS δ n) M-EQ (-t) M)=z n-EQ (-t) M by grind]at k1;have k2:=uL g3<|mL g7 k1;rw[show 1-EQ (-t) M*EQ t M-EQ t M*(z n-EQ (-t) M)=1-z n*EQ t M by grind]at k2;have k3:=mL (mL (sm b1 b2)<|bH (a:=iR<|1-x)) k2;rw[<-hV]at k3;have k4:e n*(1-x)*(1-z n*EQ t M)=e n*(1+x*(EQ t M-1))-x*EQ t M:=by
  have:e n*(1-x)*(1-z n*EQ t M)=e n*(1-x)-EQ t M*(e n*(1-x)*z n):= aS ;rw[this,hid];grind
 rw[k4]at k3;have k5:=bK k3 nn;have k6:=MK hc g2 nn k5;refine bI k6 ?_;have:V*(ε+E*((n:Rat)*(1*(2*d*(2*d)*E+ε))+(n:Rat)*(d*(2*(d*U)))*E))*(n:Rat)=V*(E*(E*(4*(t*t))+2*U*(t*t)*E))+V*(E*((n:Rat)*(n:Rat))+(n:Rat))*ε:=by rw[<-hd];grind
 rw[this,cB,cB,cB]
 grind
def nr7{x lo hi t c:Rat}(ht:0<=t)(H:xF (λe=>1+e*e) x lo hi t)(hc:0<c)(hD:Ev λM=>c<=CS t M-x*SN t M):Nr lo hi λM=>(x*CS t M+SN t M)/(CS t M-x*SN t M):=by
 have u0:=xJ lo hi;obtain⟨E,E0,hE⟩:=BE ht;obtain⟨Q,Q0,hQ⟩:=BE<|bD ht u0;obtain⟨m,hm⟩:=wT<|t*1;obtain⟨U,hU⟩:∃ U,U=Q*(1+Ub lo hi):=⟨_,rfl⟩
 obtain⟨R,hR⟩:∃ R,R=Q*(Ub lo hi*(1+Ub lo hi*Ub lo hi)):=⟨_,rfl⟩
 have U0:0<=U:=by rw[hU];exact bD (bF Q0) aS 
 have R0:0<=R:=by
  rw[hR];have:=bD u0 u0;exact bD (bF Q0)<|bD u0 aS
 refine Nr.of (n0:=m) (A:=(1+Ub lo hi)*(2*E*(2*U+R)*(t*t))/c) λn h1 h2=>?_
 obtain⟨d,d0,hd⟩:=wW h2 ht;obtain⟨e,e0,es,eb⟩:=H n d h2 d0 hd;obtain⟨b1,b2⟩:=eb n<|bB n;have nn:(0:Rat)<=(n:Rat):=cE;obtain⟨q,QZ,Q2⟩:∃ q:Nat->Rat,q 0=1/\∀ k,q (k+1)=q k*(1-d*e k):=⟨λk=>Nat.rec 1 (λk y=>y*(1-d*e k)) k,rfl,λ_=>rfl⟩
 have LV:∀ k,k<=n->iR (q k)<=Q:=λk hk=>by
  have h3:=aov (u:=q) (n:=n) (η:=d*Ub lo hi) (U:=1) (bD d0 u0) (λk hk=>by
   rw[Q2,oA];refine bY ?_ (jH _).1;refine uL (by rw[GI];exact bH)<|mL (by rw[o0 d0];exact bH)<|sm (eb k aI).1 (eb k aI).2)
   (by rw[QZ,GI];exact bH) k hk
  have h4:=(AH (hQ ((n:Rat)*(d*Ub lo hi)) n (by
   rw[o0<|bD nn<|bD d0 u0,<-hd,dP];exact bH)).1).2
  grind
 have hU1:Q<=U:=by
  rw[hU];have:=bD (bF Q0) u0
  grind
 have hpb:∀ k,k<=n->iR (e k*q k)<=U:=λk hk=>by
  have:=mL (sm (eb k hk).1 (eb k hk).2)<|LV k hk
  grind
 refine⟨e n,(1+Ub lo hi)*(2*U*((n:Rat)*(n:Rat)))/c,b1,b2,yG (bD aS<|bD aS<|bD nn nn) hc,λε hε=>?_⟩;have h:=acr (p:=q) (q:=λk=>e k*q k) (n:=n) (d:=d) (U:=U) (E:=E) (r:=R*(d*d)) (ε:=ε) d0 (by have:=BN hd hm h1 h2;grind)
  (λk hk=>by
   rw[Q2,show q k*(1-d*e k)-(q k-d*(e k*q k))=0 by grind,yz];exact bD R0<|bD d0 d0)
  (λk hk=>by
   show iR (e (k+1)*q (k+1)-(e k*q k+d*q k))<=_;rw[Q2,es k hk,show(e k+d*(1+e k*e k))*(q k*(1-d*e k))-(e k*q k+d*q k) = -(q k*(e k*(1+e k*e k))*(d*d))by grind,vz,hR];have b:=sm (eb k aI).1 (eb k aI).2;exact mL (mL (LV k aI)<|mL b<|vw (by rw[GI];exact bH)<|mL b b)<|by rw[o0<|bD d0 d0];exact bH)
  (λk hk=>⟨bI (LV k hk) hU1,hpb k hk⟩) (λc M hc=>(hE c M<|by rw[<-hd];exact hc).2) hε
 refine(h.and hD).mono λM ⟨⟨g1,g2⟩,g3⟩=>?_
 rw[hd,QZ]at g1 g2;have g1':iR (q n-(1*CS t M-e 0*1*SN t M))<=(n:Rat)*(2*(E*(2*(U*(d*d))+R*(d*d))+U*ε)):=g1;have g2':iR (e n*q n-(1*SN t M+e 0*1*CS t M))<=(n:Rat)*(2*(E*(2*(U*(d*d))+R*(d*d))+U*ε)):=g2;rw[e0]at g1' g2';have k1:=uL g2'<|mL (sm b1 b2) g1';rw[show e n*q n-(1*SN t M+x*1*CS t M)-e n*(q n-(1*CS t M-x*1*SN t M))=e n*(CS t M-x*SN t M)-(x*CS t M+SN t M)by grind]at k1;have k2:=MK hc g3 nn<|bK k1 nn;refine bI k2 ?_;have:((n:Rat)*(2*(E*(2*(U*(d*d))+R*(d*d))+U*ε))+Ub lo hi*((n:Rat)*(2*(E*(2*(U*(d*d))+R*(d*d))+U*ε))))*(n:Rat)=(1+Ub lo hi)*(2*E*(2*U+R)*(t*t))+(1+Ub lo hi)*(2*U*((n:Rat)*(n:Rat)))*ε:=by rw[<-hd];grind
 rw[this,cB,cB,cB]
 grind
def nr8{x y lo hi lo' kG t:Rat}(ht:0<=t)(H:yr (λe _=>e) (λe e'=>e*e') x y lo hi lo' kG t):
  (Nr lo hi λM=>x*EQ t M)/\Nr lo' kG λM=>y*EQ (x*(EQ t M-1)) M:=by
 have H1:xF (λe=>1*e) x lo hi t:=λn d h1 h2 h3=>by
  obtain⟨e,e',e0,e0',es,eb⟩:=H n d h1 h2 h3;exact⟨e,e0,λk hk=>by rw[(es k hk).1];grind,λk hk=>(eb k hk).1⟩
 have n4:=nr4 ht H1;rw[show(1:Rat)*t=t by grind]at n4;refine⟨n4,?_⟩;have u1:=xJ lo hi;have u2:=xJ lo' kG;obtain⟨E,E0,hE⟩:=BE ht;obtain⟨B,hB⟩:∃ B,B=2*Ub lo hi+iR x*(E+1):=⟨_,rfl⟩
 have x0:=(jH x).1;have z1:=bD x0 (show 0<=E+1 by grind);have B0:0<=B:= aS ;obtain⟨F,F0,hF⟩:=BE B0;obtain⟨m,hm⟩:=wT<|t*(1+Ub lo hi);obtain⟨Y,hY⟩:∃ Y,Y=Ub lo' kG:=⟨_,rfl⟩
 refine Nr.of (n0:=m) (A:=Y*F*(t*Ub lo hi*(t*Ub lo hi))+Y*(F*(Ub lo hi*E*(t*t)))) λn h1 h2=>?_
 obtain⟨d,d0,hd⟩:=wW h2 ht;obtain⟨e,e',e0,e0',es,eb⟩:=H n d h2 d0 hd;obtain⟨b,b1,b2⟩:=eb n<|bB n;have nn:(0:Rat)<=(n:Rat):=cE;have ds:=BN hd hm h1 h2;have du:=bD d0 u1;have a1:iR 1=1:=GI;have hx:∀ k,k<=n->iR (e k)<=Ub lo hi:=λk hk=>sm (eb k hk).1.1 (eb k hk).1.2
 have hS:∀ k,k<=n->iS (λi=>d*e i) k=e k-x:=by
  intro k
  induction k with
  |zero=>intro _;rw[e0];show(0:Rat)=_;grind
  |succ k ih=>intro hk;rw[iS,ih aI,(es k hk).1];grind
 have Y0:0<=Y:=by rw[hY];exact u2
 refine⟨e' n,Y*((n:Rat)*(n:Rat))+Y*(F*((n:Rat)*(n:Rat)*Ub lo hi)),b1,b2,by
  have:=bD Y0<|bD nn nn;have:=bD Y0 (bD (bF F0)<|bD (bD nn nn) u1)
  grind,λε hε=>?_⟩
 have p1:=Sg (u:=e') (δ:=λi=>d*e i) (n:=n) (U:=Y) (B:=2*Ub lo hi) (E:=F) (η:=d*Ub lo hi) (ε:=ε) (λk hk=>by rw[(es k hk).2];grind) (λk hk=>by rw[hY];exact sm (eb k hk).2.1 (eb k hk).2.2)
  (λk hk=>mL (by rw[o0 d0];exact bH)<|hx k aI) aS (λk hk=>by
   rw[hS n<|bB n,hS k hk];have:=uL (hx n<|bB n)<|hx k hk;rw[show e n-x-(e k-x)=e n-e k by grind];grind) (λc M hc=>(hF c M aS).1) hε
 have p2:=Xx (u:=e) (a:=1) (U:=Ub lo hi) (E:=E) d0 hd (λk hk=>by rw[(es k hk).1];grind) hx (by rw[a1];grind) (λc M hc=>(hE c M<|by rw[a1]at hc;grind).1) ε hε;refine(p1.and p2).mono λM ⟨g1,g2⟩=>?_
 rw[hS n<|bB n,e0']at g1;rw[e0,a1,show(1:Rat)*t=t by grind]at g2;have y1:iR y<=Y:=by
  have:=sm (eb 0<|cA n).2.1 (eb 0<|cA n).2.2;rw[e0']at this
  grind
 have xb:iR x<=Ub lo hi:=by have:=hx 0<|cA n;rwa[e0]at this
 have et:=(hE t M<|by rw[o0 ht];exact bH).1;have g3:=Oa (a:=e n-x) (b:=x*(EQ t M-1)) (B:=B) (by have:=uL (hx n<|bB n) xb;grind) (by
  have:=mL (bH (a:=iR x)) (uL et<|show iR 1<=1 by rw[a1];exact bH)
  grind) M
 rw[show e n-x-x*(EQ t M-1)=e n-x*EQ t M by grind]at g3;have g4:EQ B M<=F:=(AH (hF B M<|by rw[o0 B0];exact bH).1).2;have g5:=bK (bI g3<|bY g4 (jH _).1) nn;have g6:=bY g2<|bF F0;have g7:iR (y*(EQ (e n-x) M-EQ (x*(EQ t M-1)) M))*(n:Rat)<=Y*(F*(Ub lo hi*E*(1*t*(1*t))+(n:Rat)*(n:Rat)*Ub lo hi*ε)):=by
  rw[oA];have i1:=(jH<|EQ (e n-x) M-EQ (x*(EQ t M-1)) M).1;have i2:=bK y1<|bD i1 nn;have i3:=bY (bI g5<|show _<=F*(Ub lo hi*E*(1*t*(1*t))+(n:Rat)*(n:Rat)*Ub lo hi*ε)by grind) Y0
  grind
 have g8:=bK g1 nn;have g9:=wS (e' n-y*EQ (e n-x) M)<|y*(EQ (e n-x) M-EQ (x*(EQ t M-1)) M);rw[show e' n-y*EQ (e n-x) M+y*(EQ (e n-x) M-EQ (x*(EQ t M-1)) M)=e' n-y*EQ (x*(EQ t M-1)) M by grind]at g9;have g10:=bK g9 nn;rw[C0];have:(n:Rat)*(Y*(d*Ub lo hi*(d*Ub lo hi)*F+ε))*(n:Rat)=Y*F*(t*Ub lo hi*(t*Ub lo hi))+Y*((n:Rat)*(n:Rat))*ε:=by rw[<-hd];grind
 grind
def nr9{x lo hi t:Rat}(ht:0<=t)(hx:0<x)(H:xF (λe=>1/e) x lo hi t):∀ ε,0<ε->∃ r,0<r/\lo<=r/\r<=hi/\iR (r*r-(x*x+2*t))<=ε:=λε hε=>by
 have x2:0<x*x:=cR hx hx;obtain⟨m,hm⟩:=wT<|t*t/(x*x)/ε;obtain⟨n,hn⟩:∃ n,n=max m 1:=⟨_,rfl⟩
 have h2:1<=n:= aI ;obtain⟨d,d0,hd⟩:=wW h2 ht;obtain⟨e,e0,es,eb⟩:=H n d h2 d0 hd;obtain⟨b1,b2⟩:=eb n<|bB n;have nn:(0:Rat)<(n:Rat):=dQ.2 h2;have key:∀ k,k<=n->x<=e k/\x*x+2*((k:Rat)*d)<=e k*e k/\e k*e k<=x*x+2*((k:Rat)*d)+(k:Rat)*(d*d/(x*x)):=by
  intro k
  induction k with
  |zero=>
   intro _;have z:((0:Nat):Rat)=0:=rfl;rw[e0,z];refine⟨bH,?_,?_⟩<;>grind
  |succ k ih=>
   intro hk;obtain⟨i1,i2,i3⟩:=ih aI;have p:0<e k:= aS ;have v1:e k*(1/e k)=1:=by rw[gw];exact cV aS 
   have v0:0<=1/e k:=yG aK p;have sq:e (k+1)*e (k+1)=e k*e k+2*d*(e k*(1/e k))+d*d*((1/e k)*(1/e k)):=by rw[es k hk];grind
   rw[v1]at sq;have dd:=bD d0 d0;have w0:0<=(1/e k)*(1/e k):=bD v0 v0;have w1:(1/e k)*(1/e k)*(x*x)<=1:=by
    have h3:(1/e k)*x<=1:=by
     have:=bY i1 v0
     grind
    have h4:=bY h3<|bD v0<|bF hx
    grind
   have w2:d*d*((1/e k)*(1/e k))<=d*d/(x*x):=by
    refine I3 x2 ?_;have:=bY w1 dd
    grind
   have w3:=bD dd w0;have w4:=bD d0 v0;rw[Dc];refine⟨by rw[es k hk];grind,by rw[sq];grind,by rw[sq];grind⟩
 obtain⟨k1,k2,k3⟩:=key n<|bB n;rw[hd]at k2 k3;refine⟨e n,aS,b1,b2,?_⟩;have q1:(n:Rat)*(d*d/(x*x))<=ε:=by
  have q2:t*t/(x*x)/ε*ε=t*t/(x*x):=cV aS;have q3:(m:Rat)<=(n:Rat):=cX.2 aI;have q4:=bK (bI hm q3)<|bF hε;rw[q2]at q4;refine dG ?_ nn;have:(n:Rat)*(d*d/(x*x))*(n:Rat)=t*t/(x*x):=by
   rw[<-hd,cB,cB];grind
  rw[this];grind
 exact qA aS aS 
def vT(G:(Nat->Rat)->Nat->Rat)(x:Nat->Rat)(d:Rat):Nat->Nat->Rat
 | 0=>x
 |k+1=>λj=>vT G x d k j+d*G (vT G x d k) j
def Xt{n:Nat}{G:(Nat->Rat)->Nat->Rat}{x lo hi:Nat->Rat}{h d:Rat}{V:Nat->Rat->Prop}
 (cv:∀ j v w l,V j v->V j w->0<=l->l<=1->V j (v+l*(w-v))) (hV:∀ e:Nat->Rat,(∀ j,j<n->lo j<=e j/\e j<=hi j)->∀ j,j<n->V j (G e j))
 (hx:∀ j,j<n->lo j<=x j/\x j<=hi j) (hh:∀ j,j<n->∀ v,V j v->∀ τ,0<=τ->τ<=h->lo j<=x j+τ*v/\x j+τ*v<=hi j) {N:Nat} (d0:0<=d) (hd:(N:Rat)*d<=h):
 ∀ k,k<=N->∀ j,j<n->lo j<=vT G x d k j/\vT G x d k j<=hi j:=by
 have dk:∀ k,k<=N->0<=(k:Rat)*d/\(k:Rat)*d<=h:=λk hk=>by
  refine⟨bD cE d0,bI ?_ hd⟩;exact bK (cX.2 hk) d0
 have key:∀ k,k+1<=N->(∀ j,j<n->∃ v,V j v/\vT G x d (k+1) j=x j+((k+1:Nat):Rat)*d*v):=by
  intro k
  induction k with
  |zero=>
   intro hk j hj;refine⟨G x j,hV x hx j hj,?_⟩;have:((0+1:Nat):Rat)=1:=rfl;rw[this];show x j+d*G x j=_;grind
  |succ k ih=>
   intro hk j hj;have ih:=ih aI;obtain⟨v,hv,ev⟩:=ih j hj;obtain⟨k1,k2⟩:=dk (k+1) aI;have hb:∀ j,j<n->lo j<=vT G x d (k+1) j/\vT G x d (k+1) j<=hi j:=λj hj=>by
    obtain⟨v,hv,ev⟩:=ih j hj;rw[ev];exact hh j hj v hv _ k1 k2
   have hw:=hV _ hb j hj;generalize hg:G (vT G x d<|k+1) j=w at *
   have kp:(0:Rat)<((k+1+1:Nat):Rat):=dQ.2 aI;have e2:((k+1+1:Nat):Rat)=((k+1:Nat):Rat)+1:=Dc<|k+1;have i1:((k+1+1:Nat):Rat)*((k+1+1:Nat):Rat)⁻¹=1:=ez _ aS;have i0:=dw.2 kp;have c0:(0:Rat)<=((k+1:Nat):Rat):=cE;refine⟨v+((k+1+1:Nat):Rat)⁻¹*(w-v),cv j v w _ hv hw (bF i0) ?_,?_⟩
   .have:=bK (show 1<=((k+1+1:Nat):Rat)by grind) (bF i0)
    grind
   .show vT G x d (k+1) j+d*G (vT G x d<|k+1) j=_;rw[hg,ev];have:((k+1+1:Nat):Rat)*d*(v+((k+1+1:Nat):Rat)⁻¹*(w-v))=((k+1+1:Nat):Rat)*d*v+d*(((k+1+1:Nat):Rat)*((k+1+1:Nat):Rat)⁻¹)*(w-v):= aS ;rw[this,i1,e2];grind
 intro k hk j hj;rcases k with _|k
 .exact hx j hj
 .obtain ⟨v,hv,ev⟩:=key k hk j hj;rw[ev];exact hh j hj v hv _ (dk (k+1) hk).1 (dk (k+1) hk).2
def Nj(a:Rat):0<=a*a:=by
 by_cases h:0<=a
 .exact bD h h
 .have:=bD (show 0 <= -a by grind) (show 0 <= -a by grind)
  grind
def W6{u:Rat}(h0:0<=u):∀ j,eQ u j<=re u j
 | 0=>bH
 |j+1=>by
  have h1:=W6 h0 j;have h2:=yK u j;have h3:=qC h0<|j+1;have h4:=qC h0 j;have h5:(1:Rat)<=((j+1:Nat):Rat):=by
   have:=cX.2 (aI:1<=j+1);exact this
  have h6:=bY h5 h3;have h7:=bY h1 h0;show eQ u (j+1)<=re u (j+1);have e:re u (j+1)=u*re u j:=by simp only[re];grind
  rw[e]
  grind
def PR(u:Rat):∀ n,iS (re u) n*(1-u)=1-re u n
 | 0=>by simp only[iS,re];grind
 |n+1=>by
  have h:=PR u n;simp only[iS,re]
  grind
def Ut{u:Rat}(h0:0<=u)(h1:u<=1)(N:Nat):EQ u N*(1-u)<=1:=by
 have a:EQ u N<=iS (re u) (N+1):=uF _ λi _=>W6 h0 i
 have b:=bK a (show 0<=1-u by grind);rw[PR]at b;have:=Sf h0<|N+1
 grind
def aef{u:Rat}(h0:0<=u){N:Nat}(hN:1<=N):1+u<=EQ u N:=by
 have:=Bv (f:=eQ u) (λi=>qC h0 i) (aI:2<=N+1);have e:iS (eQ u) 2=1+u:=by
  show 0+1+1*(u/((0+1:Nat):Rat))=1+u;have:((0+1:Nat):Rat)=1:=rfl;rw[this,cB]
  grind
 unfold EQ;rw[e]at this;exact this
def CU(c r:Rat):Prop:=∀ ε:Rat,0<ε->∃ N0:Nat,∀ N,N0<=N->EQ c N<=r+ε
def Ux(c r:Rat):Prop:=∀ ε:Rat,0<ε->∃ N0:Nat,∀ N,N0<=N->r<=EQ c N+ε
def CU.PR{u r:Rat}(h:0<=u)(h1:u<1)(hr:r*(1-u)=1):CU u r:=λε hε=>⟨0,λN _=>by
 have a:=Ut h (bF h1) N;have a:EQ u N*(1-u)<=r*(1-u):=by rw[hr];exact a
 have:=dG a (show 0<1-u by grind)
 grind⟩
def CU.mono{a b r:Rat}(h:CU b r)(BU:a<=b):CU a r:=λε hε=>by
 obtain⟨N1,h1⟩:=h (ε/2) aS;obtain⟨N2,h2⟩:=GC BU (show 0<ε/2 by grind);exact⟨max N1 N2,λN hN=>by have:=h1 N aI;have:=h2 N aI;grind⟩
def ZD(c:Rat){d:Rat}(d0:0<d):∃ N0:Nat,∀ N,N0<=N->1-d<=EQ c N*EQ (-c) N/\EQ c N*EQ (-c) N<=1+d:=by
 obtain⟨N0,h⟩:=ED c (-c) d0;refine⟨N0,λN hN=>?_⟩;have:=h N hN;rw[show c + -c=0 by grind,Kl]at this;obtain⟨_,a2,a3,_⟩:=jH<|1-EQ c N*EQ (-c) N;constructor<;>grind
def Ux.neg{z:Rat}(h0:0<=z)(h1:z<=1):Ux (-z)<|1-z:=λε hε=>by
 obtain⟨N0,h⟩:=ZD z hε;refine⟨N0,λN hN=>?_⟩;obtain⟨k,_⟩:=h N hN;have g:=Ut h0 h1 N;have o:=Ob h0 N;generalize EQ z N=x at *
 generalize EQ (-z) N=y at *
 apply dt.1;intro je;have m:=bK o (show 0<=(1-z)-y-ε by grind);have m2:=bK o<|bF hε;have m3:(1-z-y-ε)*1>0:= aS 
 grind
def CU.neg{y s:Rat}(h0:0<=y)(hs:s*(1+y)=1):CU (-y) s:=λε hε=>by
 obtain⟨N0,h⟩:=ZD y hε;refine⟨max N0 1,λN hN=>?_⟩;obtain⟨_,k⟩:=h N aI;have o:=aef h0 (N:=N) aI;generalize EQ y N=x at *
 generalize EQ (-y) N=w at *
 apply dt.1;intro je;have s0:0<=s:=by
  apply dt.1;intro q;have:=fA q<|show 0<1+y by grind
  grind
 have m:=bK o (show 0<=w by grind);have m2:=fA je (show 0<1+y by grind);have m3:=bD (bF hε) h0
 grind
def asi{x t m M:Rat}(ht:0<t)(h1:m<=x)(h2:x<=M)(h3:m<=x-t*(M*M))(h4:m<=x-t*(m*m)):0<1+x*t/\m*(1+x*t)<=x:=by
 by_cases hx:0<=x
 .have y0:=bD hx<|bF ht;refine⟨aS,?_⟩;have k1:=bD (show 0<=M-x by grind) (show 0<=M+x by grind);have k2:=bD (bF ht) k1;have k3:m<=x-t*(x*x):= aS ;have k4:=bK k3 (show 0<=1+x*t by grind);have k5:=bD hx (Nj<|x*t)
  grind
 .
  have k1:=bY h4<|bF ht;have k2:=Nj<|t*m+1/2;have hy:-(1/4)<=x*t:= aS ;have hP:0<1+x*t:= aS ;refine⟨hP,?_⟩;apply dt.1;intro je;have p1:=Rat.mul_lt_mul_of_pos_left je ht;have p2:0<t*(m*(1+x*t)+x)+(1+x*t):= aS ;have p3:=cR (show 0<m*(1+x*t)-x by grind) p2;have p4:=bY h4<|Nj<|1+x*t;have p5:=bD (show 0 <= -x by grind)<|Nj<|x*t
  grind
def aiS{A B:Iv}{lo hi r:Rat}(hA:jr (EQ lo) A)(hB:jr (EQ hi) B)(h1:lo<=r)(h2:r<=hi):jr (EQ r)<|yL A B:=by
 unfold yL;cases aa:A.all with
 |true=>exact jr.all rfl
 |false=>
  cases ba:B.all with
  |true=>exact jr.all rfl
  |false=>
   have BU:A.lo.q<=B.hi.q:=Z2 hA hB (λε hε=>GC (bI h1 h2) hε) aa ba;intro ε hε;obtain⟨N1,k1⟩:=hA (ε/2) aS;obtain⟨N2,k2⟩:=hB (ε/2) aS;obtain⟨N3,k3⟩:=GC h1 (show 0<ε/2 by grind);obtain⟨N4,k4⟩:=GC h2 (show 0<ε/2 by grind);refine⟨max (max N1 N2)<|max N3 N4,λN hN=>?_⟩;obtain⟨u,hu,du⟩:=k1 N aI;obtain⟨v,hv,dv⟩:=k2 N aI;have e3:=k3 N aI;have e4:=k4 N aI;obtain⟨u1,_⟩:=hu.kA aa;obtain⟨_,v2⟩:=hv.kA ba;obtain⟨_,a2,a3,_⟩:=jH<|EQ lo N-u;obtain⟨_,b2,b3,_⟩:=jH<|EQ hi N-v;by_cases c1:EQ r N<A.lo.q
   .exact ⟨A.lo.q,.inr ⟨bH,BU⟩,qA aS aS⟩
   .by_cases c2:B.hi.q<EQ r N
    .exact ⟨B.hi.q,.inr ⟨BU,bH⟩,qA aS aS⟩
    .exact ⟨EQ r N,.inr ⟨dt.1 c1,dt.1 c2⟩,qA aS aS⟩
def Nr.nU{X:Iv}{F:Nat->Rat}(h:Nr X.lo.q X.hi.q F):jr F X:=λε hε=>by
 obtain⟨r,h1,h2,N0,h3⟩:=h ε hε;exact⟨N0,λN hN=>⟨r,.inr ⟨h1,h2⟩,h3 N hN⟩⟩
def jr.wG{f:Nat->Rat}{W R:Iv}(hW:jr f W)(hR:jr f R):qX W R:=by
 refine aao λwa ra=>?_
 have key:∀ ε,0<ε->W.lo.q<=R.hi.q+ε/\R.lo.q<=W.hi.q+ε:=by
  intro ε hε;obtain⟨N0,h0⟩:=hR (ε/2) aS;obtain⟨N1,h1⟩:=hW (ε/2) aS;obtain⟨r,hr,hd⟩:=h0 (max N0 N1) aI;obtain⟨s,hs,he⟩:=h1 (max N0 N1) aI;obtain⟨w1,w2⟩:=hs.kA wa;obtain⟨r1,r2⟩:=hr.kA ra;obtain⟨_,a2,a3,_⟩:=jH<|f (max N0 N1)-r;obtain⟨_,b2,b3,_⟩:=jH<|f (max N0 N1)-s;constructor<;>grind
 constructor
 .apply dt.1;intro je;have:=(key ((W.lo.q-R.hi.q)/2) aS).1
  grind
 .apply dt.1;intro je;have:=(key ((R.lo.q-W.hi.q)/2) aS).2
  grind
def jr.pd{X:Iv}{r:Rat}(h:X.ja r):jr (λ_=>r) X:=jr.Ct (k:=0) λ_ _=>h
def jr.op{f g:Nat->Rat}{X Y F:Iv}{φ:Rat->Rat->Rat}(hf:jr f X)(hg:jr g Y)(hF:∀ r s,X.ja r->Y.ja s->F.ja (φ r s))
 (hc:∀ ε,0<ε->∃ δ,0<δ/\∀ r s a b,X.ja r->Y.ja s->iR (a-r)<=δ->iR (b-s)<=δ->iR (φ a b-φ r s)<=ε):jr (λN=>φ (f N)<|g N) F:=λε hε=>by
 obtain⟨δ,d0,hd⟩:=hc ε hε;obtain⟨N0,h0⟩:=hf δ d0;obtain⟨N1,h1⟩:=hg δ d0;refine⟨max N0 N1,λN hN=>?_⟩;obtain⟨r,hr,ha⟩:=h0 N aI;obtain⟨s,hs,hb⟩:=h1 N aI;exact⟨φ r s,hF r s hr hs,hd r s _ _ hr hs ha hb⟩
section
variable{f g:Nat->Rat}{X Y:Iv}(vX:X.iD)(vY:Y.iD)(hf:jr f X)(hg:jr g Y){p:Nat}(hp:1<=p)(iJ:p<=4096)
def jr.add:jr (λN=>f N+g N)<|iZ X Y p:=
 jr.op (φ:=λa b=>a+b) hf hg (λ_ _ h1 h2=>vF vX vY hp iJ h1 h2) λε hε=>⟨ε/2,aS,λr s a b _ _ h1 h2=>by
  have:=vw h1 h2;rw[show a-r+(b-s)=a+b-(r+s)by grind]at this
  grind⟩
def jr.sub:jr (λN=>f N-g N)<|jP X Y p:=
 jr.op (φ:=λa b=>a-b) hf hg (λ_ _ h1 h2=>Nn vX vY hp iJ h1 h2) λε hε=>⟨ε/2,aS,λr s a b _ _ h1 h2=>by
  have:=uL h1 h2;rw[show a-r-(b-s)=a-b-(r-s)by grind]at this
  grind⟩
end
def IX{X:Iv}(h:X.all=false):∃ B,1<=B/\∀ r,X.ja r->iR r<=B:=by
 refine⟨Ub X.lo.q X.hi.q+1,by have:=xJ X.lo.q X.hi.q;grind,λr hr=>?_⟩;obtain⟨h1,h2⟩:=hr.kA h;have:=sm h1 h2
 grind
def jr.mul{f g:Nat->Rat}{X Y:Iv}(vX:X.iD)(vY:Y.iD)(hf:jr f X)(hg:jr g Y){p:Nat}(hp:1<=p)(iJ:p<=4096):jr (λN=>f N*g N)<|iO X Y p:=by
 cases xa:X.all
 .cases ya:Y.all
  .obtain ⟨A,A1,hA⟩:=IX xa;obtain⟨B,B1,hB⟩:=IX ya;refine jr.op (φ:=λa b=>a*b) hf hg (λ_ _ h1 h2=>wH vX vY hp iJ h1 h2) λε hε=>?_
   have hK:0<A+B+1:= aS ;have hd:0<ε/(A+B+1):=by rw[cB];exact cR hε<|dw.2 hK
   refine⟨min 1<|ε/(A+B+1),aS,λr s a b hr hs h1 h2=>?_⟩;have e1:ε/(A+B+1)*(A+B+1)=ε:=cV aS;obtain⟨δ,hδ⟩:∃ δ,δ=min 1 (ε/(A+B+1)):=⟨_,rfl⟩
   rw[<-hδ]at h1 h2;have d1:δ<=1:= aS ;have d2:δ*(A+B+1)<=ε:=by
    have:=bK (show δ<=ε/(A+B+1)by grind)<|bF hK
    grind
   have d0:0<=δ:=bI (jH _).1 h1;have hb:iR b<=B+1:=by
    have:=vw h2<|hB s hs;rw[show b-s+s=b by grind]at this
    grind
   have:=vw (mL h1 hb)<|mL (hA r hr) h2;rw[show(a-r)*b+r*(b-s)=a*b-r*s by grind]at this
   grind
  .exact jr.all<|by rw[Cp p<|.inr ya];rfl
 .exact jr.all<|by rw[Cp p<|.inl xa];rfl
def art{Y:Iv}(vY:Y.iD)(h:lL Y≠0):Y.all=false/\∃ m,0<m/\∀ s,Y.ja s->m<=iR s:=by
 have ya:Y.all=false:=by
  cases e:Y.all
  .rfl
  .exact absurd (by unfold lL;rw[bA<|by rw[e];try rfl]) h
 refine⟨ya,?_⟩;have key:0<Y.lo.q\/Y.hi.q<0:=by
  apply cF;intro hn;refine h ?_;unfold lL;rw[ya];have h1:¬0<Y.lo.jB:=λq=>hn<|.inl<|(rA _).1.1 q
  have h2:¬Y.hi.jB<0:=λq=>hn<|.inr<|(rA _).2.1 q
  simp[h1,h2]
 rcases key with k|k
 .refine ⟨_,k,λs hs=>?_⟩;obtain⟨h1,_⟩:=hs.kA ya;have:=(jH s).2.1
  grind
 .refine ⟨-Y.hi.q,aS,λs hs=>?_⟩;obtain⟨_,h1⟩:=hs.kA ya;have:=(jH s).2.2.1
  grind
def jr.div{f g:Nat->Rat}{X Y:Iv}(vX:X.iD)(vY:Y.iD)(hf:jr f X)(hg:jr g Y){p:Nat}(hp:1<=p)(iJ:p<=4096):jr (λN=>f N/g N)<|jo X Y p:=by
 cases xa:X.all
 .by_cases hs:lL Y=0
  .exact jr.all<|by rw[AP p<|.inr hs];rfl
  .obtain ⟨ya,m,m0,hm⟩:=art vY hs;obtain⟨A,A1,hA⟩:=IX xa;obtain⟨B,B1,hB⟩:=IX ya;refine jr.op (φ:=λa b=>a/b) hf hg (λ_ _ h1 h2=>Hk vX vY hp iJ h1 h2) λε hε=>?_
   have hK:0<A+B:= aS ;have mm:0<m*m/2:=by have:=cR m0 m0;grind
   have hd:0<ε*(m*m/2)/(A+B):=by rw[cB];exact cR (cR hε mm)<|dw.2 hK
   refine⟨min (m/2)<|ε*(m*m/2)/(A+B),aS,λr s a b hr hs h1 h2=>?_⟩;have e1:ε*(m*m/2)/(A+B)*(A+B)=ε*(m*m/2):=cV aS;obtain⟨δ,hδ⟩:∃ δ,δ=min (m/2) (ε*(m*m/2)/(A+B)):=⟨_,rfl⟩
   rw[<-hδ]at h1 h2;have d1:δ<=m/2:= aS ;have d2:δ*(A+B)<=ε*(m*m/2):=by
    have:=bK (show δ<=ε*(m*m/2)/(A+B)by grind)<|bF hK
    grind
   have ms:=hm s hs;have hb:m/2<=iR b:=by
    have:=wS (s-b) b;rw[show s-b+b=s by grind,C0]at this
    grind
   have bs:m*m/2<=iR (b*s):=by
    rw[oA];have q1:=bK hb (jH s).1;have q2:=bY ms<|show 0<=m/2 by grind
    grind
   have b0:b≠0:=λq=>by rw[q,yz]at hb;grind
   have s0:s≠0:=λq=>by rw[q,yz]at ms;grind
   have i1:a/b*b=a:=cV b0;have i2:r/s*s=r:=cV s0;have n1:=uL (mL h1<|hB s hs)<|mL (hA r hr) h2;rw[show(a-r)*s-r*(b-s)=(a/b-r/s)*(b*s)by grind,oA]at n1;have n2:=bY bs (jH<|a/b-r/s).1;exact dG (aS:iR (a/b-r/s)*(m*m/2)<=ε*(m*m/2)) mm
 .exact jr.all<|by rw[AP p<|.inl xa];rfl
def jr.lf{f:Nat->Rat}{X:Iv}(h:jr f X)(ha:X.all=false)(h0:0<X.lo.q):∃ c,0<c/\Ev λM=>c<=f M:=by
 obtain⟨N0,hN⟩:=h (X.lo.q/2) aS;refine⟨X.lo.q/2,aS,N0,λM hM=>?_⟩;obtain⟨r,hr,hd⟩:=hN M hM;obtain⟨h1,_⟩:=hr.kA ha;have:=AH hd
 grind
def aed{c:Rat}{ε:Rat}(hε:0<ε):∃ N0,∀ N,N0<=N->iR (EQ c N-EQ c N0)<=ε:=by
 obtain⟨m0,h0⟩:=Ns (jH c).1 hε;refine⟨m0,λN hN=>?_⟩;obtain⟨d,rfl⟩:∃ d,N=m0+d:=⟨N-m0,aI⟩
 have e:EQ c (m0+d)-EQ c m0=iS (λi=>eQ c<|m0+1+i) d:=by
  unfold EQ;rw[(aI:m0+d+1=m0+1+d),vr];grind
 rw[e];refine bI (uM _ d) ?_;rw[pM d λi _=>zN c<|m0+1+i];exact h0 (m0+1) aI d
def jr.exp{s:Nat->Rat}{X E:Iv}(hs:jr s X)(ha:X.all=true->E.all=true)(hE:∀ r,X.ja r->jr (EQ r) E)(hc:∀ ε,0<ε->∃ N0,∀ N,N0<=N->iR (s N-s N0)<=ε):jr (λM=>EQ (s M) M) E:=by
 cases xa:X.all
 .obtain ⟨B,B1,hB⟩:=IX xa;obtain⟨F,F0,hF⟩:=BE (show 0<=B+1 by grind);intro ε hε;have hd:0<ε/2/(3*F):=by rw[cB];exact cR aS (dw.2 aS)
  obtain⟨δ,hδ⟩:∃ δ,δ=min (1/3) (ε/2/(3*F)):=⟨_,rfl⟩
  have t3:(0:Rat)<1/3:= aT ;have d0:0<δ:= aS ;have d1:3*δ<=1:= aS ;have e1:ε/2/(3*F)*(3*F)=ε/2:=cV aS;have d2:3*δ*F<=ε/2:=by
   have:=bK (show δ<=ε/2/(3*F)by grind)<|show 0<=3*F by grind
   grind
  obtain⟨N0,h0⟩:=hc δ d0;obtain⟨N1,h1⟩:=hs δ d0;obtain⟨r,hr,IB⟩:=h1 (max N0 N1) aI;have g0:∀ N,N0<=N->iR (s N-r)<=3*δ:=λN hN=>by
   have q1:=h0 N hN;have q2:=h0 (max N0 N1) aI;have q3:=Kr (s N) (s N0)<|s<|max N0 N1;rw[C0<|s N0]at q3;have q4:=Kr (s N) (s<|max N0 N1) r
   grind
  obtain⟨N2,h2⟩:=hE r hr (ε/4) aS;refine⟨max N0 N2,λN hN=>?_⟩;obtain⟨t,ht,Fk⟩:=h2 N aI;refine⟨t,ht,?_⟩;have b1:=hB r hr;have b2:=g0 N aI;have b3:iR (s N)<=B+1:=by
   have:=vw b2 b1;rw[show s N-r+r=s N by grind]at this
   grind
  have b4:=Oa b3 (show iR r<=B+1 by grind) N;have b5:=(AH (hF (B+1) N<|by rw[o0 aS];exact bH).1).2;have b6:=bY b5 (jH<|s N-r).1;have b7:=bK b2<|bF F0;have b8:=Kr (EQ (s N) N) (EQ r N) t
  grind
 .exact jr.all<|ha xa
def Nk(a:Rat):0<=a*a:=by
 by_cases h:0<=a
 .exact bD h h
 .have:=bD (show 0 <= -a by grind) (show 0 <= -a by grind)
  grind
def arU:lr:=⟨⟨1,[⟨8,0,0,2,0,0⟩,⟨7,1,0,0,0,0⟩],[2]⟩,1,[]⟩
def sX:lr:=⟨⟨1,[],[0]⟩,1,[]⟩
def ath:nQ arU:=by
 refine⟨⟨aK,aK,aK,λi hi=>?_,λi hi=>?_⟩,aK,aK,rfl,rfl,aK,λi hi=>absurd hi<|bM i⟩
 .have hi:i<2:=hi;obtain rfl|rfl:i=0\/i=1:= aI 
  .exact ⟨aK,aK,aK,rfl,by show 2<=16;decide,⟨rfl,rfl⟩,.inl aK⟩
  .exact ⟨aK,aK,aK,rfl,rfl,⟨rfl,rfl⟩,.inl aK⟩
 .have hi:i<1:=hi;obtain rfl:i=0:= aI ;decide
def Td:nQ sX:=by
 refine⟨⟨aK,aK,aK,λi hi=>absurd hi<|bM i,λi hi=>?_⟩,aK,aK,rfl,rfl,aK,λi hi=>absurd hi<|bM i⟩;have hi:i<1:=hi;obtain rfl:i=0:= aI ;decide
def Er{B:Iv}(v:B.iD)(a:B.all=false):lR 1 [B]:=⟨rfl,λi hi=>by
 have hi:i<1:=hi;obtain rfl:i=0:= aI ;exact⟨v,a⟩⟩
def GY{b:List Iv}(h:lR 1 b):∃ B,b=[B]/\B.iD/\B.all=false:=by
 obtain⟨hl,ho⟩:=h;rcases b with _|⟨B,_|⟨C,l⟩⟩
 .simp at hl
 .exact ⟨B,rfl,(ho 0 aP).1,(ho 0 aP).2⟩
 .simp at hl
def Zv{x y:Iv}(h:zZ x y=true){r:Rat}(hr:x.ja r)(ya:y.all=false):y.lo.q<=r/\r<=y.hi.q:=by
 unfold zZ at h;rw[ya,asb,cr,cr,dn,dn,qf,qf]at h;obtain⟨h1,h2,h3⟩:=h;obtain⟨a,b⟩:=hr.kA (by simpa using h1);exact⟨bI h2 a,bI b h3⟩
def ab3{n:Nat}{f:Nat->Bool}(h:(List.range n).all f=true){i:Nat}(hi:i<n):f i=true:=cL.1 h i<|by simpa using hi
def B5{s:lr}{x b:List Iv}{H:Dy}{p n:Nat}(hx:lR n x)(hb:lR n b)(hs:pO<|b++s.params)(vH:H.iD)(hh:0<=H.q)(iU:8<=p)(iJ:p<=512)(hc:nh s x H b p=true){j:Nat}(hj:j<n){v:Rat}(hv:(x.getD j iH).ja v):
 ((b.getD j iH).lo.q<=v/\v<=(b.getD j iH).hi.q)/\∀ w,((kN s.tape (b++s.params) p).getD j iH).ja w->∀ τ,0<=τ->τ<=H.q->(b.getD j iH).lo.q<=v+τ*w/\v+τ*w<=(b.getD j iH).hi.q:=by
 have q1:1<=p:= aI ;have q2:p<=4096:= aI ;unfold nh at hc;rw[cr,cr]at hc;obtain⟨h1,h2,h3⟩:=hc;have aB:=(hb.ok j<|by rw[hb.len];exact hj).2;have vx:=(hx.ok j<|by rw[hx.len];exact hj).1;have g1:=ab3 h2 (show j<x.length by rw[hx.len];exact hj);refine⟨Zv g1 hv aB,λw hw τ t0 t1=>?_⟩;unfold mu at h1 h3;split at h1
 .cases h1
 .rename_i k1;rw[bw k1]at h3;split at h1
  .cases h1
  .rename_i k2;rw[bw k2]at h3;have hl:(xZ x (kN s.tape (b++s.params) p) H p).length=n:=by rw[IP,hx.len]
   have g2:=ab3 h3 (show j<_ by rw[hl];exact hj);have e:(xZ x (kN s.tape (b++s.params) p) H p).getD j iH=Ma x (kN s.tape (b++s.params) p) H p j:=by
    unfold xZ;rw[bJ,dA,at5<|by rw[hx.len];exact hj];rfl
   rw[e]at g2;have vf:=PK s.tape hs q1 q2 j;have vs:=S6 vH hh;have hτ:(nt H).ja τ:=.inr ⟨by show jK.q<=τ;rw[r7];exact t0,t1⟩;exact Zv g2 (vF vx (ku _ _ q1 q2) q1 q2 hv<|wH vs vf q1 q2 hτ hw) aB
def Ys{X:Iv}{v w l:Rat}(hv:X.ja v)(hw:X.ja w)(h0:0<=l)(h1:l<=1):X.ja<|v+l*(w-v):=by
 cases xa:X.all
 .obtain ⟨a,b⟩:=hv.kA xa;obtain⟨c,d⟩:=hw.kA xa;have m1:=bD h0 (show 0<=w-X.lo.q by grind);have m2:=bD (show 0<=1-l by grind) (show 0<=v-X.lo.q by grind);have m3:=bD h0 (show 0<=X.hi.q-w by grind);have m4:=bD (show 0<=1-l by grind) (show 0<=X.hi.q-v by grind);exact .inr ⟨aS,aS⟩
 .exact .inl xa
def JV{s:lr}{X B:Iv}{H:Dy}{p:Nat}{f:Rat->Rat}(vX:X.iD)(aX:X.all=false)(vB:B.iD)(aB:B.all=false)(hs:pO<|[B]++s.params)(vH:H.iD)(iU:8<=p)(iJ:p<=512)(hc:nh s [X] H [B] p=true)
 (hf:∀ e,B.ja e->((kN s.tape ([B]++s.params) p).getD 0 iH).ja (f e)) {x t:Rat} (hx:X.ja x) (ht:0<=t) (nI:t<=H.q):xF f x B.lo.q B.hi.q t:=λn d _ d0 hd=>by
 have h0:=B5 (n:=1) (Er vX aX) (Er vB aB) hs vH (bI ht nI) iU iJ hc (j:=0) aK hx;have key:=Xt (n:=1) (G:=λe _=>f<|e 0) (x:=λ_=>x) (lo:=λ_=>B.lo.q) (hi:=λ_=>B.hi.q) (h:=H.q) (d:=d) (V:=λ_ v=>((kN s.tape ([B]++s.params) p).getD 0 iH).ja v) (N:=n)
  (λ_ v w l h1 h2 h3 h4=>Ys h1 h2 h3 h4) (λe he j _=>hf _<|.inr<|he 0 aK) (λ_ _=>h0.1) (λ_ _ v hv τ t0 t1=>h0.2 v hv τ t0 t1) d0 (by rw[hd];exact nI)
 exact⟨λk=>vT (λe _=>f<|e 0) (λ_=>x) d k 0,rfl,λk _=>rfl,λk hk=>key k hk 0 aK⟩
def Ae{A B:Iv}(vA:A.iD)(aA:A.all=false)(vB:B.iD)(aB:B.all=false):lR 2 [A,B]:=⟨rfl,λi hi=>by
 rcases i with _|_|i
 .exact ⟨vA,aA⟩
 .exact ⟨vB,aB⟩
 .exact absurd hi aP⟩
def JW{s:lr}{X Y A B:Iv}{H:Dy}{p:Nat}{f g:Rat->Rat->Rat}(vX:X.iD)(aX:X.all=false)(vY:Y.iD)(aY:Y.all=false)(vA:A.iD)(aA:A.all=false)(vB:B.iD)(aB:B.all=false)(hs:pO<|[A,B]++s.params)(vH:H.iD)(iU:8<=p)(iJ:p<=512)(hc:nh s [X,Y] H [A,B] p=true)
  (hf:∀ e e',A.ja e->B.ja e'->((kN s.tape ([A,B]++s.params) p).getD 0 iH).ja (f e e')/\((kN s.tape ([A,B]++s.params) p).getD 1 iH).ja (g e e')) {x y t:Rat} (hx:X.ja x) (hy:Y.ja y) (ht:0<=t) (nI:t<=H.q):yr f g x y A.lo.q A.hi.q B.lo.q B.hi.q t:=λn d _ d0 hd=>by
 have h0:=B5 (n:=2) (Ae vX aX vY aY) (Ae vA aA vB aB) hs vH (bI ht nI) iU iJ hc (j:=0) aK hx;have h1:=B5 (n:=2) (Ae vX aX vY aY) (Ae vA aA vB aB) hs vH (bI ht nI) iU iJ hc (j:=1) aK hy;obtain⟨G,hG⟩:∃ G:(Nat->Rat)->Nat->Rat,∀ e,G e 0=f (e 0) (e 1)/\G e 1=g (e 0) (e 1):=⟨λe j=>if j=0 then f (e 0) (e 1)else g (e 0) (e 1),λe=>⟨rfl,rfl⟩⟩
 have j2:∀ {P:Nat->Prop},P 0->P 1->∀ j,j<2->P j:=λh0 h1 j hj=>by
  rcases j with _|_|j
  .exact h0
  .exact h1
  .omega
 have key:=Xt (n:=2) (G:=G) (x:=λj=>if j=0 then x else y) (lo:=λj=>([A,B].getD j iH).lo.q) (hi:=λj=>([A,B].getD j iH).hi.q) (h:=H.q) (d:=d) (V:=λj v=>((kN s.tape ([A,B]++s.params) p).getD j iH).ja v) (N:=n)
  (λ_ v w l h1 h2 h3 h4=>Ys h1 h2 h3 h4) (λe he=>by
   obtain⟨q1,q2⟩:=hf (e 0) (e 1) (.inr<|he 0 aK)<|.inr<|he 1 aK;obtain⟨g1,g2⟩:=hG e;exact j2 (by rw[g1];exact q1)<|by rw[g2];exact q2) (j2 h0.1 h1.1) (j2 (λv hv τ t0 t1=>h0.2 v hv τ t0 t1) λv hv τ t0 t1=>h1.2 v hv τ t0 t1) d0 (by rw[hd];exact nI)
 refine⟨λk=>vT G (λj=>if j=0 then x else y) d k 0,λk=>vT G (λj=>if j=0 then x else y) d k 1,rfl,rfl,λk _=>?_,λk hk=>⟨key k hk 0 aK,key k hk 1 aK⟩⟩;obtain⟨g1,g2⟩:=hG<|vT G (λj=>if j=0 then x else y) d k;exact⟨by rw[<-g1];rfl,by rw[<-g2];rfl⟩
def G5:lr:=⟨⟨1,[⟨8,0,0,2,0,0⟩,⟨7,1,0,0,0,0⟩],[2]⟩,1,[]⟩
def ahB:nQ G5:=by
 refine⟨⟨by show 1<=8;decide,by show 2<=200;decide,by show 1<=200;decide,λi hi=>?_,λi hi=>?_⟩,by show 1<=1;decide,by show 1<=4;decide,rfl,rfl,by show 0<=4;decide,λi hi=>?_⟩
 .have hi:i<2:=hi;obtain rfl|rfl:i=0\/i=1:= aI 
  .exact ⟨.inr<|show 3<=8 by decide,show 8<=13 by decide,show 0<1 by decide,rfl,show 2<=16 by decide,⟨rfl,rfl⟩,.inl<|show 8<=8 by decide⟩
  .exact ⟨.inr<|show 3<=7 by decide,show 7<=13 by decide,show 1<2 by decide,rfl,rfl,⟨rfl,rfl⟩,.inl<|show 7<=8 by decide⟩
 .have hi:i<1:=hi;obtain rfl:i=0:= aI ;show 2<3;decide
 .exact absurd hi<|bM i
def G6(A:Iv):lr:=⟨⟨3,[],[1,2]⟩,2,[A]⟩
def ahC{A:Iv}(vA:A.iD)(aA:A.all=false):nQ<|G6 A:=by
 refine⟨⟨by show 3<=8;decide,by show 0<=200;decide,by show 2<=200;decide,λi hi=>?_,λi hi=>?_⟩,by show 1<=2;decide,by show 2<=4;decide,rfl,rfl,by show 1<=4;decide,λi hi=>?_⟩
 .have hi:i<0:=hi;omega
 .have hi:i<2:=hi;obtain rfl|rfl:i=0\/i=1:= aI 
  .show 1<3;decide
  .show 2<3;decide
 .have hi:i<1:=hi;obtain rfl:i=0:= aI ;exact⟨vA,aA⟩
def G7:lr:=⟨⟨2,[⟨5,0,1,0,0,0⟩,⟨8,1,0,2,0,0⟩,⟨7,3,0,0,0,0⟩],[2,4]⟩,2,[]⟩
def ahD:nQ G7:=by
 refine⟨⟨by show 2<=8;decide,by show 3<=200;decide,by show 2<=200;decide,λi hi=>?_,λi hi=>?_⟩,by show 1<=2;decide,by show 2<=4;decide,rfl,rfl,by show 0<=4;decide,λi hi=>?_⟩
 .have hi:i<3:=hi;obtain rfl|rfl|rfl:i=0\/i=1\/i=2:= aI 
  .exact ⟨.inr<|show 3<=5 by decide,show 5<=13 by decide,show 0<2 by decide,show 1<2 by decide,rfl,⟨rfl,rfl⟩,.inl<|show 5<=8 by decide⟩
  .exact ⟨.inr<|show 3<=8 by decide,show 8<=13 by decide,show 1<3 by decide,rfl,show 2<=16 by decide,⟨rfl,rfl⟩,.inl<|show 8<=8 by decide⟩
  .exact ⟨.inr<|show 3<=7 by decide,show 7<=13 by decide,show 3<4 by decide,rfl,rfl,⟨rfl,rfl⟩,.inl<|show 7<=8 by decide⟩
 .have hi:i<2:=hi;obtain rfl|rfl:i=0\/i=1:= aI 
  .show 2<5;decide
  .show 4<5;decide
 .exact absurd hi<|bM i
def BM:lr:=⟨⟨2,[⟨1,0,0,0,1,1⟩,⟨1,0,0,0,2,1⟩,⟨5,3,0,0,0,0⟩,⟨8,1,0,2,0,0⟩,⟨5,4,5,0,0,0⟩],[2,6]⟩,2,[]⟩
def ahE:nQ BM:=by
 refine⟨⟨by show 2<=8;decide,by show 5<=200;decide,by show 2<=200;decide,λi hi=>?_,λi hi=>?_⟩,by show 1<=2;decide,by show 2<=4;decide,rfl,rfl,by show 0<=4;decide,λi hi=>?_⟩
 .have hi:i<5:=hi;obtain rfl|rfl|rfl|rfl|rfl:i=0\/i=1\/i=2\/i=3\/i=4:= aI 
  .exact ⟨.inl rfl,show 1<=13 by decide,rfl,rfl,rfl,by show jG 1 1=true;decide,.inl<|show 1<=8 by decide⟩
  .exact ⟨.inl rfl,show 1<=13 by decide,rfl,rfl,rfl,by show jG 2 1=true;decide,.inl<|show 1<=8 by decide⟩
  .exact ⟨.inr<|show 3<=5 by decide,show 5<=13 by decide,show 3<4 by decide,show 0<4 by decide,rfl,⟨rfl,rfl⟩,.inl<|show 5<=8 by decide⟩
  .exact ⟨.inr<|show 3<=8 by decide,show 8<=13 by decide,show 1<5 by decide,rfl,show 2<=16 by decide,⟨rfl,rfl⟩,.inl<|show 8<=8 by decide⟩
  .exact ⟨.inr<|show 3<=5 by decide,show 5<=13 by decide,show 4<6 by decide,show 5<6 by decide,rfl,⟨rfl,rfl⟩,.inl<|show 5<=8 by decide⟩
 .have hi:i<2:=hi;obtain rfl|rfl:i=0\/i=1:= aI 
  .show 2<7;decide
  .show 6<7;decide
 .exact absurd hi<|bM i
def G8(A:Iv):lr:=⟨⟨2,[⟨5,1,0,0,0,0⟩],[2]⟩,1,[A]⟩
def ahF{A:Iv}(vA:A.iD)(aA:A.all=false):nQ<|G8 A:=by
 refine⟨⟨by show 2<=8;decide,by show 1<=200;decide,by show 1<=200;decide,λi hi=>?_,λi hi=>?_⟩,by show 1<=1;decide,by show 1<=4;decide,rfl,rfl,by show 1<=4;decide,λi hi=>?_⟩
 .have hi:i<1:=hi;obtain rfl:i=0:= aI ;exact⟨.inr<|show 3<=5 by decide,show 5<=13 by decide,show 1<2 by decide,show 0<2 by decide,rfl,⟨rfl,rfl⟩,.inl<|show 5<=8 by decide⟩
 .have hi:i<1:=hi;obtain rfl:i=0:= aI ;show 2<3;decide
 .have hi:i<1:=hi;obtain rfl:i=0:= aI ;exact⟨vA,aA⟩
def EU:lr:=⟨⟨2,[⟨7,1,0,0,0,0⟩],[2,0]⟩,2,[]⟩
def ahG:nQ EU:=by
 refine⟨⟨by show 2<=8;decide,by show 1<=200;decide,by show 2<=200;decide,λi hi=>?_,λi hi=>?_⟩,by show 1<=2;decide,by show 2<=4;decide,rfl,rfl,by show 0<=4;decide,λi hi=>?_⟩
 .have hi:i<1:=hi;obtain rfl:i=0:= aI ;exact⟨.inr<|show 3<=7 by decide,show 7<=13 by decide,show 1<2 by decide,rfl,rfl,⟨rfl,rfl⟩,.inl<|show 7<=8 by decide⟩
 .have hi:i<2:=hi;obtain rfl|rfl:i=0\/i=1:= aI 
  .show 2<3;decide
  .show 0<3;decide
 .exact absurd hi<|bM i
def G9:lr:=⟨⟨1,[⟨1,0,0,0,1,1⟩,⟨4,1,0,0,0,0⟩,⟨5,0,2,0,0,0⟩],[3]⟩,1,[]⟩
def ahH:nQ G9:=by
 refine⟨⟨by show 1<=8;decide,by show 3<=200;decide,by show 1<=200;decide,λi hi=>?_,λi hi=>?_⟩,by show 1<=1;decide,by show 1<=4;decide,rfl,rfl,by show 0<=4;decide,λi hi=>?_⟩
 .have hi:i<3:=hi;obtain rfl|rfl|rfl:i=0\/i=1\/i=2:= aI 
  .exact ⟨.inl rfl,show 1<=13 by decide,rfl,rfl,rfl,by show jG 1 1=true;decide,.inl<|show 1<=8 by decide⟩
  .exact ⟨.inr<|show 3<=4 by decide,show 4<=13 by decide,show 1<2 by decide,show 0<2 by decide,rfl,⟨rfl,rfl⟩,.inl<|show 4<=8 by decide⟩
  .exact ⟨.inr<|show 3<=5 by decide,show 5<=13 by decide,show 0<3 by decide,show 2<3 by decide,rfl,⟨rfl,rfl⟩,.inl<|show 5<=8 by decide⟩
 .have hi:i<1:=hi;obtain rfl:i=0:= aI ;show 3<4;decide
 .exact absurd hi<|bM i
def EV:lr:=⟨⟨1,[⟨1,0,0,0,1,1⟩,⟨8,0,0,2,0,0⟩,⟨3,1,2,0,0,0⟩],[3]⟩,1,[]⟩
def ahI:nQ EV:=by
 refine⟨⟨by show 1<=8;decide,by show 3<=200;decide,by show 1<=200;decide,λi hi=>?_,λi hi=>?_⟩,by show 1<=1;decide,by show 1<=4;decide,rfl,rfl,by show 0<=4;decide,λi hi=>?_⟩
 .have hi:i<3:=hi;obtain rfl|rfl|rfl:i=0\/i=1\/i=2:= aI 
  .exact ⟨.inl rfl,show 1<=13 by decide,rfl,rfl,rfl,by show jG 1 1=true;decide,.inl<|show 1<=8 by decide⟩
  .exact ⟨.inr<|show 3<=8 by decide,show 8<=13 by decide,show 0<2 by decide,rfl,show 2<=16 by decide,⟨rfl,rfl⟩,.inl<|show 8<=8 by decide⟩
  .exact ⟨.inr<|show 3<=3 by decide,show 3<=13 by decide,show 1<3 by decide,show 2<3 by decide,rfl,⟨rfl,rfl⟩,.inl<|show 3<=8 by decide⟩
 .have hi:i<1:=hi;obtain rfl:i=0:= aI ;show 3<4;decide
 .exact absurd hi<|bM i
def Ha:lr:=⟨⟨2,[⟨5,0,1,0,0,0⟩],[0,2]⟩,2,[]⟩
def ahJ:nQ Ha:=by
 refine⟨⟨by show 2<=8;decide,by show 1<=200;decide,by show 2<=200;decide,λi hi=>?_,λi hi=>?_⟩,by show 1<=2;decide,by show 2<=4;decide,rfl,rfl,by show 0<=4;decide,λi hi=>?_⟩
 .have hi:i<1:=hi;obtain rfl:i=0:= aI ;exact⟨.inr<|show 3<=5 by decide,show 5<=13 by decide,show 0<2 by decide,show 1<2 by decide,rfl,⟨rfl,rfl⟩,.inl<|show 5<=8 by decide⟩
 .have hi:i<2:=hi;obtain rfl|rfl:i=0\/i=1:= aI 
  .show 0<3;decide
  .show 2<3;decide
 .exact absurd hi<|bM i
def Hb:lr:=⟨⟨1,[⟨1,0,0,0,1,1⟩,⟨6,1,0,0,0,0⟩],[2]⟩,1,[]⟩
def ahK:nQ Hb:=by
 refine⟨⟨by show 1<=8;decide,by show 2<=200;decide,by show 1<=200;decide,λi hi=>?_,λi hi=>?_⟩,by show 1<=1;decide,by show 1<=4;decide,rfl,rfl,by show 0<=4;decide,λi hi=>?_⟩
 .have hi:i<2:=hi;obtain rfl|rfl:i=0\/i=1:= aI 
  .exact ⟨.inl rfl,show 1<=13 by decide,rfl,rfl,rfl,by show jG 1 1=true;decide,.inl<|show 1<=8 by decide⟩
  .exact ⟨.inr<|show 3<=6 by decide,show 6<=13 by decide,show 1<2 by decide,show 0<2 by decide,rfl,⟨rfl,rfl⟩,.inl<|show 6<=8 by decide⟩
 .have hi:i<1:=hi;obtain rfl:i=0:= aI ;show 2<3;decide
 .exact absurd hi<|bM i
def M6{n d:Int}(hr:jG n d=true){p:Nat}(hp:1<=p)(iJ:p<=4096):(kH n d p).ja<|(n:Rat)/(d:Rat):=by
 obtain⟨A,B⟩:=Hl (a:=kV n) (b:=kV d) (IS<|by have:=sW hr;omega) hp iJ;rw[uA,uA]at A B;unfold kH;rw[bA hr];unfold ns;split
 .exact .inl rfl
 .rename_i h;have e1:nZ (kV n) (kV d) p false=0:=cF λq=>h (.inl q)
  have e2:nZ (kV n) (kV d) p true=0:=cF λq=>h<|.inr q
  exact .inr ⟨(A.1 e1).2,(B.1 e2).2⟩
def JM:(kH 1 1 60).ja 1:=by
 have:=M6 (n:=1) (d:=1) (p:=60) aK aK aK;rwa[show((1:Int):Rat)/((1:Int):Rat)=1 by decide +kernel]at this
def aqS:(kH 2 1 60).ja 2:=by
 have:=M6 (n:=2) (d:=1) (p:=60) aK aK aK;rwa[show((2:Int):Rat)/((1:Int):Rat)=2 by decide +kernel]at this
def Eh{B:Iv}(vB:B.iD){e:Rat}(h:B.ja e):(r6 B 2 60).ja<|e*e:=by
 have:=abm vB (n:=2) (p:=60) aK aK h;rwa[show r9 e 2=e*e by simp only[r9];grind]at this
def v60(x y:Iv):(iO x y 60).iD:=ku _ _ aK aK 
def Sk{B:Iv}(vB:B.iD):(r6 B 2 60).iD:=abn vB 2 aK aK 
def Gp{B:Iv}(vB:B.iD):pO<|[B]++[]:=λi=>by
 rcases i with _|i
 .exact vB
 .exact nP
def asK{B A:Iv}(vB:B.iD)(vA:A.iD):pO<|[B]++[A]:=λi=>by
 rcases i with _|_|i
 .exact vB
 .exact vA
 .exact nP
def Ew{B C:Iv}(vB:B.iD)(vC:C.iD):pO<|[B,C]++[]:=λi=>by
 rcases i with _|_|i
 .exact vB
 .exact vC
 .exact nP
def asL{B C A:Iv}(vB:B.iD)(vC:C.iD)(vA:A.iD):pO<|[B,C]++[A]:=λi=>by
 rcases i with _|_|_|i
 .exact vB
 .exact vC
 .exact vA
 .exact nP
section
variable {X Y B C:Iv} {H:Dy} {x y t:Rat} (vX:X.iD) (aX:X.all=false) (vY:Y.iD) (aY:Y.all=false) (vB:B.iD) (aB:B.all=false) (vC:C.iD) (aC:C.all=false) (vH:H.iD) (hx:X.ja x) (hy:Y.ja y) (ht:0<=t) (nI:t<=H.q)
include vX aX vB aB vH hx ht nI
def eu0(hc:nh G5 [X] H [B] 60=true):xF (λe=>-(e*e)) x B.lo.q B.hi.q t:=
 JV vX aX vB aB (Gp vB) vH aK aK hc (λ_ he=>xv<|Eh vB he) hx ht nI
def eu4{A:Iv}{a:Rat}(vA:A.iD)(ha:A.ja a)(hc:nh (G8 A) [X] H [B] 60=true):xF (λe=>a*e) x B.lo.q B.hi.q t:=
 JV vX aX vB aB (asK vB vA) vH aK aK hc (λ_ he=>wH vA vB aK aK ha he) hx ht nI
def eu6(hc:nh G9 [X] H [B] 60=true):xF (λe=>e*(1-e)) x B.lo.q B.hi.q t:=
 JV vX aX vB aB (Gp vB) vH aK aK hc (λ_ he=>wH vB (mn (Ak _ _ aK aK) (nO vB) aK aK) aK aK he<|Nn (Ak _ _ aK aK) vB aK aK JM he) hx ht nI
def eu7(hc:nh EV [X] H [B] 60=true):xF (λe=>1+e*e) x B.lo.q B.hi.q t:=
 JV vX aX vB aB (Gp vB) vH aK aK hc (λ_ he=>vF (Ak _ _ aK aK) (Sk vB) aK aK JM<|Eh vB he) hx ht nI
def eu9(hc:nh Hb [X] H [B] 60=true):xF (λe=>1/e) x B.lo.q B.hi.q t:=
 JV vX aX vB aB (Gp vB) vH aK aK hc (λ_ he=>Hk (Ak _ _ aK aK) vB aK aK JM he) hx ht nI
include vY aY vC aC hy
def eu1{A:Iv}{a:Rat}(vA:A.iD)(ha:A.ja a)(hc:nh (G6 A) [X,Y] H [B,C] 60=true):yr (λ_ e'=>e') (λ_ _=>a) x y B.lo.q B.hi.q C.lo.q C.hi.q t:=
 JW vX aX vY aY vB aB vC aC (asL vB vC vA) vH aK aK hc (λ_ _ _ h2=>⟨h2,ha⟩) hx hy ht nI
def eu2(hc:nh G7 [X,Y] H [B,C] 60=true):yr (λe e'=>e*e') (λ_ e'=>-(e'*e')) x y B.lo.q B.hi.q C.lo.q C.hi.q t:=
 JW vX aX vY aY vB aB vC aC (Ew vB vC) vH aK aK hc (λ_ _ h1 h2=>⟨wH vB vC aK aK h1 h2,xv<|Eh vC h2⟩) hx hy ht nI
def eu3(hc:nh BM [X,Y] H [B,C] 60=true):yr (λ_ _=>1) (λe e'=>2*e*(e'*e')) x y B.lo.q B.hi.q C.lo.q C.hi.q t:=
 JW vX aX vY aY vB aB vC aC (Ew vB vC) vH aK aK hc (λ_ _ h1 h2=>⟨JM,wH (v60 _ _) (Sk vC) aK aK (wH (Ak _ _ aK aK) vB aK aK aqS h1)<|Eh vC h2⟩) hx hy ht nI
def eu5(hc:nh EU [X,Y] H [B,C] 60=true):yr (λ_ e'=>-e') (λe _=>e) x y B.lo.q B.hi.q C.lo.q C.hi.q t:=
 JW vX aX vY aY vB aB vC aC (Ew vB vC) vH aK aK hc (λ_ _ h1 h2=>⟨xv h2,h1⟩) hx hy ht nI
def eu8(hc:nh Ha [X,Y] H [B,C] 60=true):yr (λe _=>e) (λe e'=>e*e') x y B.lo.q B.hi.q C.lo.q C.hi.q t:=
 JW vX aX vY aY vB aB vC aC (Ew vB vC) vH aK aK hc (λ_ _ h1 h2=>⟨h1,wH vB vC aK aK h1 h2⟩) hx hy ht nI
end
def aaO{x t lo hi:Rat}(ht:0<=t)(h1:lo<=x)(h2:x<=hi)(h3:∀ e,lo<=e->e<=hi->lo<=x-t*(e*e)):0<1+x*t:=by
 by_cases h0:t=0
 .rw [h0];grind
 .have hl:lo<=hi:=bI h1 h2;exact(asi (show 0<t by grind) h1 h2 (h3 hi hl bH)<|h3 lo bH hl).1
def aqF{x y h lo hi lo' kG:Rat}(h0:1<h)(a1:lo<=x)(a2:x<=hi)(b1:lo'<=y)(b2:y<=kG)(f:∀ e,lo'<=e->e<=kG->lo<=x-h*e/\x-h*e<=hi)(g:∀ e,lo<=e->e<=hi->lo'<=y+h*e/\y+h*e<=kG):x=0/\y=0:=by
 have l1:=bI a1 a2;have l2:=bI b1 b2;obtain⟨f1,_⟩:=f kG l2 bH;obtain⟨_,f2⟩:=f lo' bH l2;obtain⟨_,g1⟩:=g hi l1 bH;obtain⟨g2,_⟩:=g lo bH l1;have w1:h*(kG-lo')<=hi-lo:= aS ;have w2:h*(hi-lo)<=kG-lo':= aS ;have m1:=bD (show 0<=h-1 by grind) (show 0<=hi-lo by grind);have m2:=bD (show 0<=h-1 by grind) (show 0<=kG-lo' by grind);have e1:(h-1)*(hi-lo)=0:= aS ;have e2:(h-1)*(kG-lo')=0:= aS ;have k1:hi-lo=0:=by
  rcases gV.1 e1 with q|q
  .grind
  .exact q
 have k2:kG-lo'=0:=by
  rcases gV.1 e2 with q|q
  .grind
  .exact q
 have x1:x=lo:= aS ;have x2:lo=hi:= aS ;have y1:y=lo':= aS ;have y2:lo'=kG:= aS ;have z1:h*y=0:= aS ;have z2:h*x=0:= aS ;constructor
 .rcases gV.1 z2 with q|q
  .grind
  .exact q
 .rcases gV.1 z1 with q|q
  .grind
  .exact q
def ar6{x h lo hi:Rat}(a1:lo<=x)(a2:x<=hi)(f:∀ e,lo<=e->e<=hi->x+h*(1+e*e)<=hi):h<=1:=by
 have l1:=bI a1 a2;have f1:=f hi l1 bH;have f2:=f lo bH l1;have s1:=Nk<|1-hi;have s2:=Nk<|1+lo;have s3:=Nk hi;have s4:=Nk lo;apply dt.1;intro q;have m:=fA q<|show 0<2+hi*hi+lo*lo by grind
 grind
section
variable {X Y B C:Iv} {H:Dy} {x y t:Rat} (vX:X.iD) (aX:X.all=false) (vY:Y.iD) (aY:Y.all=false) (vB:B.iD) (aB:B.all=false) (vC:C.iD) (aC:C.all=false) (vH:H.iD) (hx:X.ja x) (hy:Y.ja y) (ht:0<=t) (nI:t<=H.q)
include vX aX vB aB vH hx ht nI
def pk0(hc:nh G5 [X] H [B] 60=true):0<1+x*t/\∀ K:Iv,K.ja (x/(1+x*t))->qX K B:=by
 obtain⟨⟨h1,h2⟩,h3⟩:=B5 (n:=1) (Er vX aX) (Er vB aB) (Gp vB) vH (bI ht nI) aK aK hc (j:=0) aK hx;have hw:0<1+x*t:=aaO ht h1 h2 λe e1 e2=>by
  have:=(h3 (-(e*e)) (xv<|Eh vB<|.inr ⟨e1,e2⟩) t ht nI).1;rw[show x-t*(e*e)=x+t * -(e*e)by grind];exact this
 exact⟨hw,λK hK=>jr.wG (jr.pd hK) (nr0 ht (eu0 vX aX vB aB vH hx ht nI hc) hw).nU⟩
def pk4{A K:Iv}{a:Rat}(vA:A.iD)(ha:A.ja a)(hc:nh (G8 A) [X] H [B] 60=true)(hK:jr (λM=>x*EQ (a*t) M) K):qX K B:=
 jr.wG hK (nr4 ht<|eu4 vX aX vB aB vH hx ht nI vA ha hc).nU
def pk6{K:Iv}(hc:nh G9 [X] H [B] 60=true)(hD:∃ c,0<c/\Ev λM=>c<=1+x*(EQ t M-1))(hK:jr (λM=>x*EQ t M/(1+x*(EQ t M-1))) K):qX K B:=by
 obtain⟨c,c0,hD⟩:=hD;exact jr.wG hK (nr6 ht (eu6 vX aX vB aB vH hx ht nI hc) c0 hD).nU
def aoe(hc:nh EV [X] H [B] 60=true):t<=1:=by
 obtain⟨⟨h1,h2⟩,h3⟩:=B5 (n:=1) (Er vX aX) (Er vB aB) (Gp vB) vH (bI ht nI) aK aK hc (j:=0) aK hx;exact ar6 h1 h2 λe e1 e2=>(h3 (1+e*e) (vF (Ak _ _ aK aK) (Sk vB) aK aK JM<|Eh vB<|.inr ⟨e1,e2⟩) t ht nI).2
def pk7{K:Iv}(hc:nh EV [X] H [B] 60=true)(hD:∃ c,0<c/\Ev λM=>c<=CS t M-x*SN t M)(hK:jr (λM=>(x*CS t M+SN t M)/(CS t M-x*SN t M)) K):qX K B:=by
 obtain⟨c,c0,hD⟩:=hD;exact jr.wG hK (nr7 ht (eu7 vX aX vB aB vH hx ht nI hc) c0 hD).nU
def pk9{K:Iv}(hc:nh Hb [X] H [B] 60=true)(x0:0<x)(hK:K.all=true\/0<=K.lo.q/\0<=K.hi.q/\K.lo.q*K.lo.q<=x*x+2*t/\x*x+2*t<=K.hi.q*K.hi.q):qX K B:=by
 refine aao λka _=>?_
 obtain⟨l0,u0,l2,u2⟩:0<=K.lo.q/\0<=K.hi.q/\K.lo.q*K.lo.q<=x*x+2*t/\x*x+2*t<=K.hi.q*K.hi.q:=hK.resolve_left (by rw[ka];decide);have hn:=nr9 ht x0<|eu9 vX aX vB aB vH hx ht nI hc;constructor
 .apply dt.1;intro q;have g0:0<K.lo.q:=by
   obtain⟨r,r0,r1,r2,_⟩:=hn 1 aK 
   grind
  obtain⟨r,r0,r1,r2,r3⟩:=hn ((K.lo.q-B.hi.q)*K.lo.q/2) (by have:=cR (show 0<K.lo.q-B.hi.q by grind) g0;grind);have a:=AH r3;have m1:=bD (show 0<=K.lo.q-B.hi.q by grind) (show 0<=r by grind);have m2:=cR (show 0<K.lo.q-B.hi.q by grind) g0;have m3:=bK (show r<=B.hi.q by grind) (show 0<=r+K.lo.q by grind);have m4:=bD (show 0<=B.hi.q by grind) (show 0<=B.hi.q-r by grind);have m5:=bD (show 0<=K.lo.q-r by grind) (show 0<=K.lo.q-B.hi.q by grind);have m6:=bD (show 0<=K.lo.q by grind)<|show 0<=B.hi.q-r by grind
  grind
 .apply dt.1;intro q;have g0:0<B.lo.q:= aS ;obtain⟨r,r0,r1,r2,r3⟩:=hn ((B.lo.q-K.hi.q)*B.lo.q/2) (by have:=cR (show 0<B.lo.q-K.hi.q by grind) g0;grind);have a:=AH r3;have m1:=bK r1 (show 0<=r by grind);have m2:=bY r1 (show 0<=B.lo.q by grind);have m3:=bD (show 0<=B.lo.q-K.hi.q by grind) u0;have m4:=cR (show 0<B.lo.q-K.hi.q by grind) g0
  grind
include vY aY vC aC hy
def pk1{A K L:Iv}{a:Rat}(vA:A.iD)(ha:A.ja a)(hc:nh (G6 A) [X,Y] H [B,C] 60=true)(hK:K.ja<|x+y*t+a*(t*t)/2)(hL:L.ja<|y+a*t):qX K B/\qX L C:=by
 obtain⟨h1,h2⟩:=nr1 ht<|eu1 vX aX vY aY vB aB vC aC vH hx hy ht nI vA ha hc;exact⟨jr.wG (jr.pd hK) h1.nU,jr.wG (jr.pd hL) h2.nU⟩
def pk2(hc:nh G7 [X,Y] H [B,C] 60=true):0<1+y*t/\∀ K L:Iv,K.ja (x*(1+y*t))->L.ja (y/(1+y*t))->qX K B/\qX L C:=by
 obtain⟨⟨h1,h2⟩,h3⟩:=B5 (n:=2) (Ae vX aX vY aY) (Ae vB aB vC aC) (Ew vB vC) vH (bI ht nI) aK aK hc (j:=1) aK hy;have hw:0<1+y*t:=aaO ht h1 h2 λe e1 e2=>by
  have:=(h3 (-(e*e)) (xv<|Eh vC<|.inr ⟨e1,e2⟩) t ht nI).1;rw[show y-t*(e*e)=y+t * -(e*e)by grind];exact this
 obtain⟨n1,n2⟩:=nr2 ht (eu2 vX aX vY aY vB aB vC aC vH hx hy ht nI hc) hw;exact⟨hw,λK L hK hL=>⟨jr.wG (jr.pd hK) n1.nU,jr.wG (jr.pd hL) n2.nU⟩⟩
def pk3{K L:Iv}(hc:nh BM [X,Y] H [B,C] 60=true)(hD:0<1-y*((x+t)*(x+t)-x*x))(hK:K.ja<|x+t)(hL:L.ja<|y/(1-y*((x+t)*(x+t)-x*x))):qX K B/\qX L C:=by
 obtain⟨n1,n2⟩:=nr3 ht<|eu3 vX aX vY aY vB aB vC aC vH hx hy ht nI hc;exact⟨jr.wG (jr.pd hK) n1.nU,jr.wG (jr.pd hL) (n2 hD).nU⟩
def aod(hc:nh EU [X,Y] H [B,C] 60=true):t<=1\/x=0/\y=0:=by
 obtain⟨⟨h1,h2⟩,h3⟩:=B5 (n:=2) (Ae vX aX vY aY) (Ae vB aB vC aC) (Ew vB vC) vH (bI ht nI) aK aK hc (j:=0) aK hx;obtain⟨⟨g1,g2⟩,g3⟩:=B5 (n:=2) (Ae vX aX vY aY) (Ae vB aB vC aC) (Ew vB vC) vH (bI ht nI) aK aK hc (j:=1) aK hy;by_cases q:t<=1
 .exact .inl q
 .refine .inr (aqF (gR.1 q) h1 h2 g1 g2 (λe e1 e2=>?_) λe e1 e2=>?_)
  .have:=h3 (-e) (xv<|.inr ⟨e1,e2⟩) t ht nI;rw[show x+t * -e=x-t*e by grind]at this;exact this
  .exact g3 e (.inr ⟨e1,e2⟩) t ht nI
def pk5{K L:Iv}(hc:nh EU [X,Y] H [B,C] 60=true)(hK:jr (λM=>x*CS t M-y*SN t M) K)(hL:jr (λM=>x*SN t M+y*CS t M) L):qX K B/\qX L C:=by
 obtain⟨n1,n2⟩:=nr5 ht<|eu5 vX aX vY aY vB aB vC aC vH hx hy ht nI hc;exact⟨jr.wG hK n1.nU,jr.wG hL n2.nU⟩
def pk8{K L:Iv}(hc:nh Ha [X,Y] H [B,C] 60=true)(hK:jr (λM=>x*EQ t M) K)(hL:jr (λM=>y*EQ (x*(EQ t M-1)) M) L):qX K B/\qX L C:=by
 obtain⟨n1,n2⟩:=nr8 ht<|eu8 vX aX vY aY vB aB vC aC vH hx hy ht nI hc;exact⟨jr.wG hK n1.nU,jr.wG hL n2.nU⟩
end
def ab2(d:Dy)(hd:d.iD):∃ X,X.iD/\jr (EQ d.q) X/\iA 90 [iF d] (iC X):=by
 by_cases h:d.m=0
 .refine ⟨iT 1,Cs 1 aK,?_,apM d h⟩;have:d.q=0:=by rw[qt,h];simp
  rw[this];exact jr.Ct (k:=0) λN _=>by rw[Kl];exact yi 1
 .obtain ⟨K,hK⟩:∃ K:Nat,max 0 (d.jb+16)=(K:Int):=⟨(max 0<|d.jb+16).toNat,aI⟩
  have vy:(kI (mT d)<|0-(K:Int)).iD:=rB (tS hd) _;have hy:=SW (MH d)<|0-(K:Int);have hq:=abo h;have hp:P2 d.jb*P2 (0-(K:Int))<=P2 (-1):=by rw[<-qZ];exact BF aI 
  have hm:P2 (-1)=1/2:= aT ;have akM:iR (d.q*P2 (0-(K:Int)))*2<=1:=by
   rw[oA];have e:iR (P2<|0-(K:Int))=P2 (0-(K:Int)):=by unfold iR;rw[bA<|bF<|nb _]
   rw[e];have:=bK hq<|bF<|nb<|0-(K:Int);rw[hm]at hp
   grind
  have hl:=W2 vy hy akM K;have e:d.q*P2 (0-(K:Int))*((2^K:Nat):Rat)=d.q:=by
   rw[<-vu,dP,<-qZ,show(0-(K:Int))+(K:Int)=0 by omega,tC,dL]
  rw[e]at hl;exact⟨_,K6 _ K,hl,apL d hd h K hK _ rfl⟩
def mZ:Int×Int:=(0,0)
def El(r:Int×Int):List E:=[iP r.1,iP r.2]
def kF(l:List<|Int×Int):E:=.sl true l.length 2 λi j=>(El<|l.getD i mZ).getD j .any
def nC(x:Iv):Bool:=!x.all&&decide (0<lL x)
def xL(x y:Iv):Iv:=iZ x ⟨jl (iW<|jP y y 320).hi,(iW<|jP y y 320).hi,false⟩ 320
def Kw{y:Iv}(vy:y.iD):(Iv.mk (jl (iW<|jP y y 320).hi) (iW<|jP y y 320).hi false).iD:=by
 have vs:(jP y y 320).iD:=mn vy (nO vy) aK aK;have va:=uK vs;refine .inr ⟨rfl,ru va.kA.2,va.kA.2,?_⟩;show jI (jl _) _<=0;rw[qf,oX];have h0:0<=(iW<|jP y y 320).hi.q:=by
  cases e:(jP y y 320).all
  .have h1:=(Cm vs e).1;have h2:=va.q;have e1:(iW<|jP y y 320).lo=nV (jP y y 320):=by unfold iW;rw[e];rfl
   rw[e1]at h2;exact bI h1 h2
  .have e1:(iW<|jP y y 320).hi=jK:=by unfold iW;rw[e];rfl
   rw[e1,r7];exact bH
 grind
def aeK{y:Iv}(vy:y.iD):(Iv.mk (jl (iW<|jP y y 320).hi) (iW<|jP y y 320).hi false).ja 0:=by
 have v:=Kw vy;have h0:=v.q;have e1:(Iv.mk (jl (iW<|jP y y 320).hi) (iW<|jP y y 320).hi false).lo.q = -(iW<|jP y y 320).hi.q:=oX _;have e2:(Iv.mk (jl (iW<|jP y y 320).hi) (iW<|jP y y 320).hi false).hi.q=(iW<|jP y y 320).hi.q:=rfl;rw[e1,e2]at h0;exact .inr ⟨by rw[e1];grind,by rw[e2];grind⟩
def C4{x y:Iv}(vx:x.iD)(vy:y.iD):(xL x y).iD:=mn vx (Kw vy) aK aK 
def jr.U4{f:Nat->Rat}{x y:Iv}(vx:x.iD)(vy:y.iD)(h:jr f x):jr f<|xL x y:=by
 have:=jr.add vx (Kw vy) h (jr.pd<|aeK vy) (p:=320) aK aK;rwa[show(λN=>f N+0)=f from funext λN=> aS]at this
section
variable(x y:Iv)(hx:x.iD)(hy:y.iD)
def yd:iA 38 [iC x,iC y]<|iC<|iZ x y 320:=
 iM (af [.c<|r8 x y 320 hx hy])
def sx:iA 39 [iC x,iC y]<|iC<|iO x y 320:=
 iM (af [.c<|tU x y 320 hx hy])
def Ch:iA 44 [iC x,iC y]<|iC<|jP x y 320:=
 iM (af [.c<|JC x y 320 hx hy])
def IZ:iA 40 [iC x,iC y]<|iC<|jo x y 320:=
 iM (af [.c<|sV x y 320 hx hy])
end
def pC(n:Int)(h:n.natAbs<4294967296):iA 37 [iP n]<|iC<|iT n:=
 iM (af [.c<|F4 n,.c<|Ek<|kV n])
def qe(n d:Int)(hr:jG n d=true):iA 36 [.agg [iP n,iP d]]<|iC<|kH n d 320:=
 iM (af [.c<|Hp n d 320 hr aK aK])
def amd(x:Iv)(h:x.all=true):iA 45 [iC x]<|iC x:=
 iM (af [ah 6 x.all h])
def ame(x P Q:Iv)(h:x.all=false)(hP:iA 90 [iF x.lo]<|iC P)(hQ:iA 90 [iF x.hi]<|iC Q):iA 45 [iC x]<|iC<|yL P Q:=
 iM (ae [ai 6 x.all h,ag [iF x.lo] hP,ag [iF x.hi] hQ]<|.w (P.all=true)
  (λk1=>ae [tB 15 k1,.c po]<|rQ (iC iH) (iC<|yL P Q)<|by unfold yL;simp[k1])
  (λk1=>ae [tB 15<|bn k1]<|.w (Q.all=true)
   (λk2=>ae [tB 18 k2,.c po]<|rQ (iC iH) (iC<|yL P Q)<|by unfold yL;simp[k1,k2])
   (λk2=>ae [tB 18<|bn k2]<|rQ (iC<|Iv.mk P.lo Q.hi false) (iC<|yL P Q)<|by unfold yL;simp[k1,k2])))
def Fp.Iv.iD.amu{x:Iv}(hx:x.iD)(ha:x.all=false):x.lo.q<=x.hi.q:=(hx.tK.kA ha).2
def Mh(x:Iv)(hx:x.iD):∃ E:Iv,E.iD/\iA 45 [iC x] (iC E)/\(x.all=true->E.all=true)/\∀ r,x.ja r->jr (EQ r) E:=by
 cases ha:x.all with
 |true=>exact⟨x,hx,amd x ha,λ_=>ha,λr _=>jr.all ha⟩
 |false=>
  obtain⟨v1,v2⟩:=hx.kA;obtain⟨P,vP,lP,pP⟩:=ab2 x.lo v1;obtain⟨Q,vQ,lQ,pQ⟩:=ab2 x.hi v2;have hle:x.lo.q<=x.hi.q:=hx.amu ha;refine⟨yL P Q,?_,ame x P Q ha pP pQ,λq=>(by cases q),λr hr=>?_⟩
  .unfold yL;cases pa:P.all with
   |true=>exact nP
   |false=>
    cases qa:Q.all with
    |true=>exact nP
    |false=>
     have:=Z2 lP lQ (λε hε=>GC hle hε) pa qa;exact .inr ⟨rfl,vP.kA.1,vQ.kA.2,(qf _ _).2 this⟩
  .obtain ⟨a,b⟩:=hr.kA ha;exact aiS lP lQ a b
def Cg(x:Iv)(hx:x.iD):iA 41 [iC x]<|bP<|nC x:=
 iM (.w (x.all=true)
  (λk1=>ae [tB 4 k1]<|rQ (bP false) (bP<|nC x)<|by unfold nC;simp[k1])
  (λk1=>ae [tB 4<|bn k1,.c<|JB x hx]<|rQ (bP<|decide (0<(lL x))) (bP<|nC x)<|by unfold nC;simp[k1]))
def Ry(x y:Iv)(hx:x.iD)(hy:y.iD):iA 47 [iC x,iC y]<|iC<|xL x y:=
 iM (af [ag [iC y,iC y]<|Ch _ _ aJ aJ,.c<|MO (jP y y 320)<|mn aJ (nO aJ) aK aK,.c<|Br<|(iW<|jP y y 320).hi,.o 16<|.refl<|.e<|iC<|Iv.mk (jl<|Iv.hi<|iW<|jP y y 320) (Iv.hi<|iW<|jP y y 320) false,ag [iC x,iC<|Iv.mk (jl<|Iv.hi<|iW<|jP y y 320) (Iv.hi<|iW<|jP y y 320) false]<|yd _ _ aJ<|Kw hy])
def ZZ(x:Iv)(hx:x.iD)(S Z:Iv)(vS:S.iD)(vZ:Z.iD)(hS:iA 91 [iF x.lo]<|iC S)(hZ:iA 92 [iF x.lo]<|iC Z):iA 46 [iC x]<|.iK [iC<|xL S x,iC<|xL Z x]:=
 iM (af [ag [iF x.lo] hS,ag [iC S,iC x]<|Ry _ _ aJ aJ,ag [iF x.lo] hZ,ag [iC Z,iC x]<|Ry _ _ aJ aJ])
section
variable(d:Dy)(hd:d.iD)(hm:d.m≠0)(ht:¬d.jb<=30)
def aoX:iA 91 [iF d]<|iC<|Iv.mk (jl<|kV 1) (kV 1) false:=
 iM (af [ai 8 (((iB d.m).length:Int)==0)<|nK λq=>hm<|oO.1 q,.c<|zf d hd.rY,tT 12 (30<(Dy.jb d)) aI,.c<|F4 1,.c<|Jx<|kV 1])
def aoN:iA 92 [iF d]<|iC<|Iv.mk (jl<|kV 1) (kV 1) false:=
 iM (af [ai 8 (((iB d.m).length:Int)==0)<|nK λq=>hm<|oO.1 q,.c<|zf d hd.rY,tT 12 (30<(Dy.jb d)) aI,.c<|F4 1,.c<|Jx<|kV 1])
end
def ZP : iA 5 [iP 0]<|.iK [iP 1,iP 0]:=
 iM (af [ai 6 ((0:Int)==1) aK,ai 8 ((0:Int)==4) aK,ai 10 ((0:Int)==2) aK,ai 11 ((0:Int)==3) aK,ai 12 ((0:Int)==5) aK,ai 13 ((0:Int)==8) aK])
def ZQ : iA 5 [iP 1]<|.iK [iP 2,iP 1]:=
 iM (af [ah 6 ((1:Int)==1) aK])
def ZR : iA 5 [iP 2]<|.iK [iP 2,iP 0]:=
 iM (af [ai 6 ((2:Int)==1) aK,ai 8 ((2:Int)==4) aK,ah 10 ((2:Int)==2) aK])
def ZS : iA 5 [iP 3]<|.iK [iP 2,iP 0]:=
 iM (af [ai 6 ((3:Int)==1) aK,ai 8 ((3:Int)==4) aK,ai 10 ((3:Int)==2) aK,ah 11 ((3:Int)==3) aK])
def ZT : iA 5 [iP 4]<|.iK [iP 1,iP 1]:=
 iM (af [ai 6 ((4:Int)==1) aK,ah 8 ((4:Int)==4) aK])
def ZU : iA 5 [iP 5]<|.iK [iP 2,iP 0]:=
 iM (af [ai 6 ((5:Int)==1) aK,ai 8 ((5:Int)==4) aK,ai 10 ((5:Int)==2) aK,ai 11 ((5:Int)==3) aK,ah 12 ((5:Int)==5) aK])
def ZV : iA 5 [iP 6]<|.iK [iP 1,iP 0]:=
 iM (af [ai 6 ((6:Int)==1) aK,ai 8 ((6:Int)==4) aK,ai 10 ((6:Int)==2) aK,ai 11 ((6:Int)==3) aK,ai 12 ((6:Int)==5) aK,ai 13 ((6:Int)==8) aK])
def ZW : iA 5 [iP 7]<|.iK [iP 1,iP 0]:=
 iM (af [ai 6 ((7:Int)==1) aK,ai 8 ((7:Int)==4) aK,ai 10 ((7:Int)==2) aK,ai 11 ((7:Int)==3) aK,ai 12 ((7:Int)==5) aK,ai 13 ((7:Int)==8) aK])
def ZX : iA 5 [iP 8]<|.iK [iP 2,iP 0]:=
 iM (af [ai 6 ((8:Int)==1) aK,ai 8 ((8:Int)==4) aK,ai 10 ((8:Int)==2) aK,ai 11 ((8:Int)==3) aK,ai 12 ((8:Int)==5) aK,ah 13 ((8:Int)==8) aK])
def ZY : iA 5 [iP 9]<|.iK [iP 1,iP 0]:=
 iM (af [ai 6 ((9:Int)==1) aK,ai 8 ((9:Int)==4) aK,ai 10 ((9:Int)==2) aK,ai 11 ((9:Int)==3) aK,ai 12 ((9:Int)==5) aK,ai 13 ((9:Int)==8) aK])
def amh(a b n m:Int)(X H:Iv)(vX:X.iD)(vH:H.iD)(hn:0<=n)(hX:iA 36 [.agg [iP a,iP b]]<|iC X)(hH:iA 36 [.agg [iP n,iP m]]<|iC H):iA 16 [iP 0,kF [(a,b)],kF [],.agg [iP n,iP m]]<|.iK [iQ [jo X (iZ (iT 1) (iO X H 320) 320) 320],bP<|nC<|iZ (iT 1) (iO X H 320) 320]:=
 iM (ae [ag [iP 0] ZP,ai 39 (decide ((0:Int)<0)) aK,ai 42 (decide ((10:Int)<=0)) aK,ai 48 ((1:Int) != 1) aK,ai 54 ((0:Int) != 0) aK,tF 59 (n<0) aI,iX 0 1,ag [.agg [iP a,iP b]] hX,ag [.agg [iP n,iP m]] hH,ag [iP 0]<|pC _ aK,ag [iP 0]<|pC _ aK,ai 70 (decide ((1:Int)<1)) aK,ai 76 (decide ((0:Int)<0)) aK,ag [iP 1]<|pC _ aK,ah 84 ((0:Int)==0) aK,ag [iC X,iC H]<|sx _ _ aJ aJ,ag [iC<|iT 1,iC<|iO X H 320]<|yd _ _ (lY aK)<|ku _ _ aK aK,ag [iC X,iC<|iZ (iT 1) (iO X H 320) 320]<|IZ _ _ aJ<|mn (lY aK) (ku _ _ aK aK) aK aK,.o 93<|.e<|nT<|jo X (iZ (iT 1) (iO X H 320) 320) 320,ag [iC<|iZ (iT 1) (iO X H 320) 320]<|Cg _<|mn (lY aK) (ku _ _ aK aK) aK aK]<|rR (.iK [iQ [jo X (iZ (iT 1) (iO X H 320) 320) 320],bP<|nC<|iZ (iT 1) (iO X H 320) 320]) (.jm rfl:E.le (.iK [iQ [jo X (iZ (iT 1) (iO X H 320) 320) 320],bP<|nC<|iZ (iT 1) (iO X H 320) 320])<|.iK [iQ [jo X (iZ (iT 1) (iO X H 320) 320) 320],bP<|nC<|iZ (iT 1) (iO X H 320) 320]))
def ami(a b c d e f n m:Int)(X H Y A:Iv)(vX:X.iD)(vH:H.iD)(vY:Y.iD)(vA:A.iD)(hn:0<=n)(hX:iA 36 [.agg [iP a,iP b]]<|iC X)(hH:iA 36 [.agg [iP n,iP m]]<|iC H)(hY:iA 36 [.agg [iP c,iP d]]<|iC Y)(hA:iA 36 [.agg [iP e,iP f]]<|iC A):iA 16 [iP 1,kF [(a,b),(c,d)],kF [(e,f)],.agg [iP n,iP m]]<|.iK [iQ [iZ (iZ X (iO Y H 320) 320) (kI (iO A (iO (iW H) (iW H) 320) 320) (-1)) 320,iZ Y (iO A H 320) 320],bP true]:=
 iM (ae [ag [iP 1] ZQ,ai 39 (decide ((1:Int)<0)) aK,ai 42 (decide ((10:Int)<=1)) aK,ai 48 ((2:Int) != 2) aK,ai 54 ((1:Int) != 1) aK,tF 59 (n<0) aI,iX 0 2,ag [.agg [iP a,iP b]] hX,ag [.agg [iP n,iP m]] hH,ag [iP 0]<|pC _ aK,ag [iP 0]<|pC _ aK,ah 70 (decide ((1:Int)<2)) aK,iX 1 2,ag [.agg [iP c,iP d]] hY,ah 76 (decide ((0:Int)<1)) aK,
  iX 0 1,ag [.agg [iP e,iP f]] hA,ag [iP 1]<|pC _ aK,ai 84 ((1:Int)==0) aK,ah 97 ((1:Int)==1) aK,.c<|CD H 320 aJ aK aK,ag [iC A,iC<|iO (iW H) (iW H) 320]<|sx _ _ aJ<|ku _ _ aK aK,.c<|CC (iO A (iO (iW H) (iW H) 320) 320) (-1) (ku _ _ aK aK) aK aK,ag [iC Y,iC H]<|sx _ _ aJ aJ,ag [iC X,iC<|iO Y H 320]<|yd _ _ aJ<|ku _ _ aK aK,ag [iC<|iZ X (iO Y H 320) 320,iC<|kI (iO A (iO (iW H) (iW H) 320) 320) (-1)]<|yd _ _ (mn aJ (ku _ _ aK aK) aK aK)<|rB (ku _ _ aK aK) _,ag [iC A,iC H]<|sx _ _ aJ aJ,ag [iC Y,iC<|iO A H 320]<|yd _ _ aJ<|ku _ _ aK aK,.o 115<|.e<|xq (iZ (iZ X (iO Y H 320) 320) (kI (iO A (iO (iW H) (iW H) 320) 320) (-1)) 320)<|iZ Y (iO A H 320) 320]<|rR (.iK [iQ [iZ (iZ X (iO Y H 320) 320) (kI (iO A (iO (iW H) (iW H) 320) 320) (-1)) 320,iZ Y (iO A H 320) 320],bP true]) (.jm rfl:E.le (.iK [iQ [iZ (iZ X (iO Y H 320) 320) (kI (iO A (iO (iW H) (iW H) 320) 320) (-1)) 320,iZ Y (iO A H 320) 320],bP true])<|.iK [iQ [iZ (iZ X (iO Y H 320) 320) (kI (iO A (iO (iW H) (iW H) 320) 320) (-1)) 320,iZ Y (iO A H 320) 320],bP true]))
section
variable(a b c d n m:Int)(X H Y:Iv)(vX:X.iD)(vH:H.iD)(vY:Y.iD)(hn:0<=n)(hX:iA 36 [.agg [iP a,iP b]]<|iC X)(hH:iA 36 [.agg [iP n,iP m]]<|iC H)(hY:iA 36 [.agg [iP c,iP d]]<|iC Y)
def amj:iA 16 [iP 2,kF [(a,b),(c,d)],kF [],.agg [iP n,iP m]]<|.iK [iQ [iO X (iZ (iT 1) (iO Y H 320) 320) 320,jo Y (iZ (iT 1) (iO Y H 320) 320) 320],bP<|nC<|iZ (iT 1) (iO Y H 320) 320]:=
 iM (ae [ag [iP 2] ZR,ai 39 (decide ((2:Int)<0)) aK,ai 42 (decide ((10:Int)<=2)) aK,ai 48 ((2:Int) != 2) aK,ai 54 ((0:Int) != 0) aK,tF 59 (n<0) aI,iX 0 2,ag [.agg [iP a,iP b]] hX,ag [.agg [iP n,iP m]] hH,ag [iP 0]<|pC _ aK,ag [iP 0]<|pC _ aK,ah 70 (decide ((1:Int)<2)) aK,iX 1 2,ag [.agg [iP c,iP d]] hY,ai 76 (decide ((0:Int)<0)) aK,ag [iP 1]<|pC _ aK,ai 84 ((2:Int)==0) aK,ai 97 ((2:Int)==1) aK,ah 117 ((2:Int)==2) aK,ag [iC Y,iC H]<|sx _ _ aJ aJ,ag [iC<|iT 1,iC<|iO Y H 320]<|yd _ _ (lY aK)<|ku _ _ aK aK,ag [iC X,iC<|iZ (iT 1) (iO Y H 320) 320]<|sx _ _ aJ<|mn (lY aK) (ku _ _ aK aK) aK aK,ag [iC Y,iC<|iZ (iT 1) (iO Y H 320) 320]<|IZ _ _ aJ<|mn (lY aK) (ku _ _ aK aK) aK aK,.o 129<|.e<|xq (iO X (iZ (iT 1) (iO Y H 320) 320) 320)<|jo Y (iZ (iT 1) (iO Y H 320) 320) 320,ag [iC<|iZ (iT 1) (iO Y H 320) 320]<|Cg _<|mn (lY aK) (ku _ _ aK aK) aK aK]<|rR (.iK [iQ [iO X (iZ (iT 1) (iO Y H 320) 320) 320,jo Y (iZ (iT 1) (iO Y H 320) 320) 320],bP<|nC<|iZ (iT 1) (iO Y H 320) 320]) (.jm rfl:E.le (.iK [iQ [iO X (iZ (iT 1) (iO Y H 320) 320) 320,jo Y (iZ (iT 1) (iO Y H 320) 320) 320],bP<|nC<|iZ (iT 1) (iO Y H 320) 320])<|.iK [iQ [iO X (iZ (iT 1) (iO Y H 320) 320) 320,jo Y (iZ (iT 1) (iO Y H 320) 320) 320],bP<|nC<|iZ (iT 1) (iO Y H 320) 320]))
def amk:iA 16 [iP 3,kF [(a,b),(c,d)],kF [],.agg [iP n,iP m]]<|.iK [iQ [iZ X H 320,jo Y (jP (iT 1) (iO Y (jP (iO (iW<|iZ X H 320) (iW<|iZ X H 320) 320) (iO (iW X) (iW X) 320) 320) 320) 320) 320],bP<|decide (0<=a)&&nC (jP (iT 1) (iO Y (jP (iO (iW<|iZ X H 320) (iW<|iZ X H 320) 320) (iO (iW X) (iW X) 320) 320) 320) 320)]:=
 iM (ae [ag [iP 3] ZS,ai 39 (decide ((3:Int)<0)) aK,ai 42 (decide ((10:Int)<=3)) aK,ai 48 ((2:Int) != 2) aK,ai 54 ((0:Int) != 0) aK,tF 59 (n<0) aI,iX 0 2,ag [.agg [iP a,iP b]] hX,ag [.agg [iP n,iP m]] hH,ag [iP 0]<|pC _ aK,ag [iP 0]<|pC _ aK,ah 70 (decide ((1:Int)<2)) aK,iX 1 2,ag [.agg [iP c,iP d]] hY,ai 76 (decide ((0:Int)<0)) aK,ag [iP 1]<|pC _ aK,ai 84 ((3:Int)==0) aK,ai 97 ((3:Int)==1) aK,ai 117 ((3:Int)==2) aK,ah 133 ((3:Int)==3) aK,ag [iC X,iC H]<|yd _ _ aJ aJ,.c<|CD (iZ X H 320) 320 (mn aJ aJ aK aK) aK aK,.c<|CD X 320 aJ aK aK,ag [iC<|iO (iW<|iZ X H 320) (iW<|iZ X H 320) 320,iC<|iO (iW X) (iW X) 320]<|Ch _ _ (ku _ _ aK aK)<|ku _ _ aK aK,ag [iC Y,iC<|jP (iO (iW<|iZ X H 320) (iW<|iZ X H 320) 320) (iO (iW X) (iW X) 320) 320]<|sx _ _ aJ<|mn (ku _ _ aK aK) (nO<|ku _ _ aK aK) aK aK,ag [iC<|iT 1,iC<|iO Y (jP (iO (iW<|iZ X H 320) (iW<|iZ X H 320) 320) (iO (iW X) (iW X) 320) 320) 320]<|Ch _ _ (lY aK)<|ku _ _ aK aK,ag [iC Y,iC<|jP (iT 1) (iO Y (jP (iO (iW<|iZ X H 320) (iW<|iZ X H 320) 320) (iO (iW X) (iW X) 320) 320) 320) 320]<|IZ _ _ aJ<|mn (lY aK) (nO<|ku _ _ aK aK) aK aK,.o 150<|.e<|xq (iZ X H 320)<|jo Y (jP (iT 1) (iO Y (jP (iO (iW<|iZ X H 320) (iW<|iZ X H 320) 320) (iO (iW X) (iW X) 320) 320) 320) 320) 320,iX 0 2]<|.w (0<=a)
  (λk1=>ae [tB 155<|bC k1,ag [iC<|jP (iT 1) (iO Y (jP (iO (iW<|iZ X H 320) (iW<|iZ X H 320) 320) (iO (iW X) (iW X) 320) 320) 320) 320]<|Cg _<|mn (lY aK) (nO<|ku _ _ aK aK) aK aK]<|rQ (.iK [iQ [iZ X H 320,jo Y (jP (iT 1) (iO Y (jP (iO (iW<|iZ X H 320) (iW<|iZ X H 320) 320) (iO (iW X) (iW X) 320) 320) 320) 320) 320],bP<|nC<|jP (iT 1) (iO Y (jP (iO (iW<|iZ X H 320) (iW<|iZ X H 320) 320) (iO (iW X) (iW X) 320) 320) 320) 320]) (.iK [iQ [iZ X H 320,jo Y (jP (iT 1) (iO Y (jP (iO (iW<|iZ X H 320) (iW<|iZ X H 320) 320) (iO (iW X) (iW X) 320) 320) 320) 320) 320],bP<|decide (0<=a)&&nC (jP (iT 1) (iO Y (jP (iO (iW<|iZ X H 320) (iW<|iZ X H 320) 320) (iO (iW X) (iW X) 320) 320) 320) 320)])<|by simp[k1])
  (λk1=>ae [tB 155<|bE k1]<|rQ (.iK [iQ [iZ X H 320,jo Y (jP (iT 1) (iO Y (jP (iO (iW<|iZ X H 320) (iW<|iZ X H 320) 320) (iO (iW X) (iW X) 320) 320) 320) 320) 320],bP false]) (.iK [iQ [iZ X H 320,jo Y (jP (iT 1) (iO Y (jP (iO (iW<|iZ X H 320) (iW<|iZ X H 320) 320) (iO (iW X) (iW X) 320) 320) 320) 320) 320],bP<|decide (0<=a)&&nC (jP (iT 1) (iO Y (jP (iO (iW<|iZ X H 320) (iW<|iZ X H 320) 320) (iO (iW X) (iW X) 320) 320) 320) 320)])<|by simp[k1]))
end
def aml(a b e f n m:Int)(X H A:Iv)(vX:X.iD)(vH:H.iD)(vA:A.iD)(hn:0<=n)(hX:iA 36 [.agg [iP a,iP b]]<|iC X)(hH:iA 36 [.agg [iP n,iP m]]<|iC H)(hA:iA 36 [.agg [iP e,iP f]]<|iC A)(V:Iv)(vV:V.iD)(hV:iA 45 [iC<|iO A H 320]<|iC V):iA 16 [iP 4,kF [(a,b)],kF [(e,f)],.agg [iP n,iP m]]<|.iK [iQ [iO X V 320],bP true]:=
 iM (ae [ag [iP 4] ZT,ai 39 (decide ((4:Int)<0)) aK,ai 42 (decide ((10:Int)<=4)) aK,ai 48 ((1:Int) != 1) aK,ai 54 ((1:Int) != 1) aK,tF 59 (n<0) aI,iX 0 1,ag [.agg [iP a,iP b]] hX,ag [.agg [iP n,iP m]] hH,ag [iP 0]<|pC _ aK,ag [iP 0]<|pC _ aK,ai 70 (decide ((1:Int)<1)) aK,ah 76 (decide ((0:Int)<1)) aK,iX 0 1,ag [.agg [iP e,iP f]] hA,ag [iP 1]<|pC _ aK,ai 84 ((4:Int)==0) aK,ai 97 ((4:Int)==1) aK,ai 117 ((4:Int)==2) aK,ai 133 ((4:Int)==3) aK,ah 161 ((4:Int)==4) aK,ag [iC A,iC H]<|sx _ _ aJ aJ,ag [iC<|iO A H 320] hV,ag [iC X,iC V]<|sx _ _ aJ aJ,.o 168<|.e<|nT<|iO X V 320]<|rR (.iK [iQ [iO X V 320],bP true]) (.jm rfl:E.le (.iK [iQ [iO X V 320],bP true])<|.iK [iQ [iO X V 320],bP true]))
def amm(a b c d n m:Int)(X H Y:Iv)(vX:X.iD)(vH:H.iD)(vY:Y.iD)(hn:0<=n)(hX:iA 36 [.agg [iP a,iP b]]<|iC X)(hH:iA 36 [.agg [iP n,iP m]]<|iC H)(hY:iA 36 [.agg [iP c,iP d]]<|iC Y)(S Z:Iv)(vS:S.iD)(vZ:Z.iD)(hT:iA 46 [iC H]<|.iK [iC S,iC Z]):iA 16 [iP 5,kF [(a,b),(c,d)],kF [],.agg [iP n,iP m]]<|.iK [iQ [jP (iO X Z 320) (iO Y S 320) 320,iZ (iO X S 320) (iO Y Z 320) 320],bP true]:=
 iM (ae [ag [iP 5] ZU,ai 39 (decide ((5:Int)<0)) aK,ai 42 (decide ((10:Int)<=5)) aK,ai 48 ((2:Int) != 2) aK,ai 54 ((0:Int) != 0) aK,tF 59 (n<0) aI,iX 0 2,ag [.agg [iP a,iP b]] hX,ag [.agg [iP n,iP m]] hH,ag [iP 0]<|pC _ aK,ag [iP 0]<|pC _ aK,ah 70 (decide ((1:Int)<2)) aK,iX 1 2,ag [.agg [iP c,iP d]] hY,ai 76 (decide ((0:Int)<0)) aK,ag [iP 1]<|pC _ aK,ai 84 ((5:Int)==0) aK,ai 97 ((5:Int)==1) aK,ai 117 ((5:Int)==2) aK,ai 133 ((5:Int)==3) aK,ai 161 ((5:Int)==4) aK,ah 170 ((5:Int)==5) aK,ag [iC H] hT,ag [iC X,iC Z]<|sx _ _ aJ aJ,ag [iC Y,iC S]<|sx _ _ aJ aJ,ag [iC<|iO X Z 320,iC<|iO Y S 320]<|Ch _ _ (ku _ _ aK aK)<|ku _ _ aK aK,ag [iC X,iC S]<|sx _ _ aJ aJ,ag [iC Y,iC Z]<|sx _ _ aJ aJ,ag [iC<|iO X S 320,iC<|iO Y Z 320]<|yd _ _ (ku _ _ aK aK)<|ku _ _ aK aK,.o 190<|.e<|xq (jP (iO X Z 320) (iO Y S 320) 320)<|iZ (iO X S 320) (iO Y Z 320) 320]<|rR (.iK [iQ [jP (iO X Z 320) (iO Y S 320) 320,iZ (iO X S 320) (iO Y Z 320) 320],bP true]) (.jm rfl:E.le (.iK [iQ [jP (iO X Z 320) (iO Y S 320) 320,iZ (iO X S 320) (iO Y Z 320) 320],bP true])<|.iK [iQ [jP (iO X Z 320) (iO Y S 320) 320,iZ (iO X S 320) (iO Y Z 320) 320],bP true]))
section
variable(a b n m:Int)(X H:Iv)(vX:X.iD)
def amn(vH:H.iD)(hn:0<=n)(hX:iA 36 [.agg [iP a,iP b]]<|iC X)(hH:iA 36 [.agg [iP n,iP m]]<|iC H)(V:Iv)(vV:V.iD)(hV:iA 45 [iC H]<|iC V):iA 16 [iP 6,kF [(a,b)],kF [],.agg [iP n,iP m]]<|.iK [iQ [jo (iO X V 320) (iZ (iT 1) (iO X (jP V (iT 1) 320) 320) 320) 320],bP<|nC<|iZ (iT 1) (iO X (jP V (iT 1) 320) 320) 320]:=
 iM (ae [ag [iP 6] ZV,ai 39 (decide ((6:Int)<0)) aK,ai 42 (decide ((10:Int)<=6)) aK,ai 48 ((1:Int) != 1) aK,ai 54 ((0:Int) != 0) aK,tF 59 (n<0) aI,iX 0 1,ag [.agg [iP a,iP b]] hX,ag [.agg [iP n,iP m]] hH,ag [iP 0]<|pC _ aK,ag [iP 0]<|pC _ aK,ai 70 (decide ((1:Int)<1)) aK,ai 76 (decide ((0:Int)<0)) aK,ag [iP 1]<|pC _ aK,ai 84 ((6:Int)==0) aK,ai 97 ((6:Int)==1) aK,ai 117 ((6:Int)==2) aK,ai 133 ((6:Int)==3) aK,ai 161 ((6:Int)==4) aK,ai 170 ((6:Int)==5) aK,ah 192 ((6:Int)==6) aK,ag [iC H] hV,ag [iC V,iC<|iT 1]<|Ch _ _ aJ<|lY aK,ag [iC X,iC<|jP V (iT 1) 320]<|sx _ _ aJ<|mn aJ (nO<|lY aK) aK aK,ag [iC<|iT 1,iC<|iO X (jP V (iT 1) 320) 320]<|yd _ _ (lY aK)<|ku _ _ aK aK,ag [iC X,iC V]<|sx _ _ aJ aJ,ag [iC<|iO X V 320,iC<|iZ (iT 1) (iO X (jP V (iT 1) 320) 320) 320]<|IZ _ _ (ku _ _ aK aK)<|mn (lY aK) (ku _ _ aK aK) aK aK,.o 207<|.e<|nT<|jo (iO X V 320) (iZ (iT 1) (iO X (jP V (iT 1) 320) 320) 320) 320,ag [iC<|iZ (iT 1) (iO X (jP V (iT 1) 320) 320) 320]<|Cg _<|mn (lY aK) (ku _ _ aK aK) aK aK]<|rR (.iK [iQ [jo (iO X V 320) (iZ (iT 1) (iO X (jP V (iT 1) 320) 320) 320) 320],bP<|nC<|iZ (iT 1) (iO X (jP V (iT 1) 320) 320) 320]) (.jm rfl:E.le (.iK [iQ [jo (iO X V 320) (iZ (iT 1) (iO X (jP V (iT 1) 320) 320) 320) 320],bP<|nC<|iZ (iT 1) (iO X (jP V (iT 1) 320) 320) 320])<|.iK [iQ [jo (iO X V 320) (iZ (iT 1) (iO X (jP V (iT 1) 320) 320) 320) 320],bP<|nC<|iZ (iT 1) (iO X (jP V (iT 1) 320) 320) 320]))
def amo(vH:H.iD)(hn:0<=n)(hX:iA 36 [.agg [iP a,iP b]]<|iC X)(hH:iA 36 [.agg [iP n,iP m]]<|iC H)(S Z:Iv)(vS:S.iD)(vZ:Z.iD)(hT:iA 46 [iC H]<|.iK [iC S,iC Z])(U P:Iv)(vU:U.iD)(vP:P.iD)(hU:iA 48 [iF X.lo]<|iC U)(hPi:iA 49 []<|iC P):iA 16 [iP 7,kF [(a,b)],kF [],.agg [iP n,iP m]]<|.iK [iQ [jo (iZ (iO X Z 320) S 320) (jP Z (iO X S 320) 320) 320],bP<|nC (jP Z (iO X S 320) 320)&&nC (jP (kI P (-1)) (iZ (xL U X) H 320) 320)]:=
 iM (ae [ag [iP 7] ZW,ai 39 (decide ((7:Int)<0)) aK,ai 42 (decide ((10:Int)<=7)) aK,ai 48 ((1:Int) != 1) aK,ai 54 ((0:Int) != 0) aK,tF 59 (n<0) aI,iX 0 1,ag [.agg [iP a,iP b]] hX,ag [.agg [iP n,iP m]] hH,ag [iP 0]<|pC _ aK,ag [iP 0]<|pC _ aK,ai 70 (decide ((1:Int)<1)) aK,ai 76 (decide ((0:Int)<0)) aK,ag [iP 1]<|pC _ aK,ai 84 ((7:Int)==0) aK,ai 97 ((7:Int)==1) aK,ai 117 ((7:Int)==2) aK,ai 133 ((7:Int)==3) aK,ai 161 ((7:Int)==4) aK,ai 170 ((7:Int)==5) aK,ai 192 ((7:Int)==6) aK,ah 211 ((7:Int)==7) aK,ag [iC H] hT,ag [iC X,iC S]<|sx _ _ aJ aJ,ag [iC Z,iC<|iO X S 320]<|Ch _ _ aJ<|ku _ _ aK aK,ag [iF X.lo] hU,ag [iC U,iC X]<|Ry _ _ aJ aJ,ag [iC<|xL U X,iC H]<|yd _ _ (C4 aJ aJ) aJ,ag [] hPi,.c<|CC P (-1) aJ aK aK,ag [iC X,iC Z]<|sx _ _ aJ aJ,ag [iC<|iO X Z 320,iC S]<|yd _ _ (ku _ _ aK aK) aJ,ag [iC<|iZ (iO X Z 320) S 320,iC<|jP Z (iO X S 320) 320]<|IZ _ _ (mn (ku _ _ aK aK) aJ aK aK)<|mn aJ (nO<|ku _ _ aK aK) aK aK,.o 238<|.e<|nT<|jo (iZ (iO X Z 320) S 320) (jP Z (iO X S 320) 320) 320,ag [iC<|jP Z (iO X S 320) 320]<|Cg _<|mn aJ (nO<|ku _ _ aK aK) aK aK]<|.w (nC (jP Z (iO X S 320) 320)=true)
  (λk1=>ae [tB 240 k1,ag [iC<|kI P (-1),iC<|iZ (xL U X) H 320]<|Ch _ _ (rB aJ _)<|mn (C4 aJ aJ) aJ aK aK,ag [iC<|jP (kI P (-1)) (iZ (xL U X) H 320) 320]<|Cg _<|mn (rB aJ _) (nO<|mn (C4 aJ aJ) aJ aK aK) aK aK]<|rQ (.iK [iQ [jo (iZ (iO X Z 320) S 320) (jP Z (iO X S 320) 320) 320],bP<|nC<|jP (kI P (-1)) (iZ (xL U X) H 320) 320]) (.iK [iQ [jo (iZ (iO X Z 320) S 320) (jP Z (iO X S 320) 320) 320],bP<|nC (jP Z (iO X S 320) 320)&&nC (jP (kI P (-1)) (iZ (xL U X) H 320) 320)])<|by simp[k1])
  (λk1=>ae [tB 240<|bn k1]<|rQ (.iK [iQ [jo (iZ (iO X Z 320) S 320) (jP Z (iO X S 320) 320) 320],bP false]) (.iK [iQ [jo (iZ (iO X Z 320) S 320) (jP Z (iO X S 320) 320) 320],bP<|nC (jP Z (iO X S 320) 320)&&nC (jP (kI P (-1)) (iZ (xL U X) H 320) 320)])<|by simp[k1]))
end
def amp(a b c d n m:Int)(X H Y:Iv)(vX:X.iD)(vH:H.iD)(vY:Y.iD)(hn:0<=n)(hX:iA 36 [.agg [iP a,iP b]]<|iC X)(hH:iA 36 [.agg [iP n,iP m]]<|iC H)(hY:iA 36 [.agg [iP c,iP d]]<|iC Y)(V:Iv)(vV:V.iD)(hV:iA 45 [iC H]<|iC V)(W:Iv)(vW:W.iD)(hW:iA 45 [iC<|iO X (jP V (iT 1) 320) 320]<|iC W):iA 16 [iP 8,kF [(a,b),(c,d)],kF [],.agg [iP n,iP m]]<|.iK [iQ [iO X V 320,iO Y W 320],bP true]:=
 iM (ae [ag [iP 8] ZX,ai 39 (decide ((8:Int)<0)) aK,ai 42 (decide ((10:Int)<=8)) aK,ai 48 ((2:Int) != 2) aK,ai 54 ((0:Int) != 0) aK,tF 59 (n<0) aI,iX 0 2,ag [.agg [iP a,iP b]] hX,ag [.agg [iP n,iP m]] hH,ag [iP 0]<|pC _ aK,ag [iP 0]<|pC _ aK,ah 70 (decide ((1:Int)<2)) aK,iX 1 2,ag [.agg [iP c,iP d]] hY,ai 76 (decide ((0:Int)<0)) aK,ag [iP 1]<|pC _ aK,ai 84 ((8:Int)==0) aK,ai 97 ((8:Int)==1) aK,ai 117 ((8:Int)==2) aK,ai 133 ((8:Int)==3) aK,ai 161 ((8:Int)==4) aK,ai 170 ((8:Int)==5) aK,ai 192 ((8:Int)==6) aK,ai 211 ((8:Int)==7) aK,ah 248 ((8:Int)==8) aK,ag [iC H] hV,ag [iC X,iC V]<|sx _ _ aJ aJ,ag [iC V,iC<|iT 1]<|Ch _ _ aJ<|lY aK,ag [iC X,iC<|jP V (iT 1) 320]<|sx _ _ aJ<|mn aJ (nO<|lY aK) aK aK,ag [iC<|iO X (jP V (iT 1) 320) 320] hW,ag [iC Y,iC W]<|sx _ _ aJ aJ,.o 262<|.e<|xq (iO X V 320)<|iO Y W 320]<|rR (.iK [iQ [iO X V 320,iO Y W 320],bP true]) (.jm rfl:E.le (.iK [iQ [iO X V 320,iO Y W 320],bP true])<|.iK [iQ [iO X V 320,iO Y W 320],bP true]))
def amq(a b n m:Int)(X H:Iv)(vX:X.iD)(vH:H.iD)(hn:0<=n)(hX:iA 36 [.agg [iP a,iP b]]<|iC X)(hH:iA 36 [.agg [iP n,iP m]]<|iC H):iA 16 [iP 9,kF [(a,b)],kF [],.agg [iP n,iP m]]<|.iK [iQ [om (iZ (iO (iW X) (iW X) 320) (kI H 1) 320) 320],bP<|nC X&&nC (iZ (iO (iW X) (iW X) 320) (kI H 1) 320)]:=
 iM (ae [ag [iP 9] ZY,ai 39 (decide ((9:Int)<0)) aK,ai 42 (decide ((10:Int)<=9)) aK,ai 48 ((1:Int) != 1) aK,ai 54 ((0:Int) != 0) aK,tF 59 (n<0) aI,iX 0 1,ag [.agg [iP a,iP b]] hX,ag [.agg [iP n,iP m]] hH,ag [iP 0]<|pC _ aK,ag [iP 0]<|pC _ aK,ai 70 (decide ((1:Int)<1)) aK,ai 76 (decide ((0:Int)<0)) aK,ag [iP 1]<|pC _ aK,ai 84 ((9:Int)==0) aK,ai 97 ((9:Int)==1) aK,ai 117 ((9:Int)==2) aK,ai 133 ((9:Int)==3) aK,ai 161 ((9:Int)==4) aK,ai 170 ((9:Int)==5) aK,ai 192 ((9:Int)==6) aK,ai 211 ((9:Int)==7) aK,ai 248 ((9:Int)==8) aK,.c<|CD X 320 aJ aK aK,.c<|CC H 1 aJ aK aK,ag [iC<|iO (iW X) (iW X) 320,iC<|kI H 1]<|yd _ _ (ku _ _ aK aK)<|rB aJ _,.c<|Sw (iZ (iO (iW X) (iW X) 320) (kI H 1) 320) 320 (mn (ku _ _ aK aK) (rB aJ _) aK aK) aK aK,.o 270<|.e<|nT<|om (iZ (iO (iW X) (iW X) 320) (kI H 1) 320) 320,ag [iC X]<|Cg _ aJ]<|.w (nC X=true)
  (λk1=>ae [tB 272 k1,ag [iC<|iZ (iO (iW X) (iW X) 320) (kI H 1) 320]<|Cg _<|mn (ku _ _ aK aK) (rB aJ _) aK aK]<|rQ (.iK [iQ [om (iZ (iO (iW X) (iW X) 320) (kI H 1) 320) 320],bP<|nC<|iZ (iO (iW X) (iW X) 320) (kI H 1) 320]) (.iK [iQ [om (iZ (iO (iW X) (iW X) 320) (kI H 1) 320) 320],bP<|nC X&&nC (iZ (iO (iW X) (iW X) 320) (kI H 1) 320)])<|by simp[k1])
  (λk1=>ae [tB 272<|bn k1]<|rQ (.iK [iQ [om (iZ (iO (iW X) (iW X) 320) (kI H 1) 320) 320],bP false]) (.iK [iQ [om (iZ (iO (iW X) (iW X) 320) (kI H 1) 320) 320],bP<|nC X&&nC (iZ (iO (iW X) (iW X) 320) (kI H 1) 320)])<|by simp[k1]))
def SP{a b:Int}(hr:jG a b=true){g u:Rat}(hg:G 320 g)(hu:G 320 u)(h1:g<=(a:Rat)/(b:Rat))(h2:(a:Rat)/(b:Rat)<=u):(kH a b 320).all=false/\g<=(kH a b 320).lo.q/\(kH a b 320).hi.q<=u:=by
 obtain⟨A,B⟩:=Hl (a:=kV a) (b:=kV b) (IS<|by have:=sW hr;omega) (show 1<=320 by decide) aK;rw[uA,uA]at A B;obtain⟨e1,l1⟩:=A.2 g hg h1;obtain⟨e2,l2⟩:=B.2 u hu h2;unfold kH;rw[bA hr];unfold ns;rw[bw<|by rw[e1,e2];decide];exact⟨rfl,l1,l2⟩
def xG{z e:Int}(hz:z.natAbs<2^250)(h1:-1000<=e)(h2:e<=1000):G 320<|(z:Rat)*P2 e:=by
 have hb:iE z.natAbs<=250:=lE.2 hz;by_cases h:0<=z
 .refine .inl ⟨z.natAbs,e,aI,aI,aI,?_⟩;have:(z:Rat)=((z.natAbs:Nat):Rat):=by
   have:z=(z.natAbs:Int):= aI ;rw[<-dj,<-this]
  rw[this]
 .refine .inr ⟨z.natAbs,e,aI,aI,aI,?_⟩;have:(z:Rat) = -((z.natAbs:Nat):Rat):=by
   have:z = -(z.natAbs:Int):= aI ;rw[<-dj,<-dY,<-this]
  rw[this];grind
def anv{v:Rat}(h1:-4294967296<=v)(h2:v<=4294967296):∃ g u,G 320 g/\G 320 u/\g<=v/\v<=u/\v-P2 (-200)<=g/\u<=v+P2 (-200):=by
 have p0:=nb (-200);have p1:=nb 200;have pp:P2 200*P2 (-200)=1:=by rw[<-qZ,show(200:Int) + -200=0 by decide,tC]
 have c:P2 200*4294967296<=((2^240:Int):Rat):= aT ;obtain⟨z,hz⟩:∃ z,z=(v*P2 200).floor:=⟨_,rfl⟩
 have f1:=Rat.floor_le (a:=v*P2 200);have f2:=Rat.lt_floor_add_one (a:=v*P2 200);rw[<-hz]at f1 f2;rw[fO,show((1:Int):Rat)=1 from rfl]at f2;have m1:=bK h1<|bF p1;have m2:=bK h2<|bF p1;have zu:z<=2^240:=(cY (a:=z) (b:=2^240)).1 aS;have zl:-(2^240)-1<=z:=(cY (a:=-(2^240)-1) (b:=z)).1 (by
  rw[at4,dY,show((1:Int):Rat)=1 from rfl];grind)
 have k1:=bK f1<|bF p0;have k2:=bK (bF f2)<|bF p0;have e:v*P2 200*P2 (-200)=v:=by rw[dP,pp,dL]
 rw[e]at k1 k2;refine⟨(z:Rat)*P2 (-200),((z+1:Int):Rat)*P2 (-200),xG aI aK aK,xG aI aK aK,k1,?_,?_,?_⟩
 .rw [fO,show((1:Int):Rat)=1 from rfl];exact k2
 .grind
 .rw [fO,show((1:Int):Rat)=1 from rfl];grind
def Bq{a b:Int}(hr:jG a b=true):0<(b:Rat)/\(b:Rat)<=1073741824 /\ -1073741824<=(a:Rat)/(b:Rat)/\(a:Rat)/(b:Rat)<=1073741824/\(a:Rat)/(b:Rat)*(b:Rat)=(a:Rat):=by
 obtain⟨h1,h2,h3,h4⟩:=sW hr;have b1:(1:Rat)<=(b:Rat):=by have:=cY (a:=1) (b:=b);exact this.2 h1
 have b2:(b:Rat)<=1073741824:=by have:=cY (a:=b) (b:=1073741824);exact this.2 h2
 have a1:(-1073741824:Rat)<=(a:Rat):=by have:=cY (a:=-1073741824) (b:=a);exact this.2 h3
 have a2:(a:Rat)<=1073741824:=by have:=cY (a:=a) (b:=1073741824);exact this.2 h4
 have e:(a:Rat)/(b:Rat)*(b:Rat)=(a:Rat):=cV aS;refine⟨aS,b2,?_,?_,e⟩
 .refine I3 aS ?_;have:=bY b1 (show(0:Rat)<=1073741824 by decide)
  grind
 .refine WG aS ?_;have:=bY b1 (show(0:Rat)<=1073741824 by decide)
  grind
structure Uw(X:Iv)(v:Rat):Prop where
 val:X.iD
 all:X.all=false
 ja:X.ja v
 lf:v-P2 (-200)<=X.lo.q
 alg:X.hi.q<=v+P2 (-200)
def sI{a b:Int}(hr:jG a b=true):Uw (kH a b 320)<|(a:Rat)/(b:Rat):=by
 obtain⟨_,_,l,u,_⟩:=Bq hr;obtain⟨g,w,hg,hw,h1,h2,h3,h4⟩:=anv (v:=(a:Rat)/(b:Rat)) aS aS;obtain⟨k1,k2,k3⟩:=SP hr hg hw h1 h2;exact⟨Ak _ _ aK aK,k1,M6 hr aK aK,aS,aS⟩
structure qy(n m:Int)(t:Rat):Prop where
 r:jG n m=true
 n0:0<=n
 ht:t=(n:Rat)/(m:Rat)
 g:∃ z:Int,z<=2^63/\t=(z:Rat)*(1/8589934592)
def qy.nn{n m:Int}{t:Rat}(h:qy n m t):0<=t:=by
 obtain⟨b0,_⟩:=Bq h.r;rw[h.ht];exact yG (by have:=cY (a:=0) (b:=n);exact this.2 h.n0) b0
def qy.exact{n m:Int}{t:Rat}(h:qy n m t):(kH n m 320).iD/\(kH n m 320).all=false/\(kH n m 320).lo.q=t/\(kH n m 320).hi.q=t:=by
 obtain⟨z,z1,hz⟩:=h.g;have t0:=h.nn;have z0:0<=z:=(cY (a:=0) (b:=z)).1 (by rw[show((0:Int):Rat)=0 from rfl];grind);have hg:G 320 t:=by
  have:=xG (z:=z) (e:=-33) aI aK aK;rwa[Oe,<-hz]at this
 obtain⟨k1,k2,k3⟩:=SP h.r hg hg (by rw[h.ht];exact bH) (by rw[h.ht];exact bH);have v:=Ak n m (p:=320) aK aK;have:=v.q;exact⟨v,k1,aS,aS⟩
section
variable{n m:Int}{t:Rat}(h:qy n m t)
def qy.enc:Uw (kH n m 320) t:=by rw[h.ht];exact sI h.r
def qy.el{r:Rat}(hr:(kH n m 320).ja r):r=t:=by
 obtain⟨_,a,l,u⟩:=h.exact;obtain⟨h1,h2⟩:=hr.kA a;rw[l]at h1;rw[u]at h2;exact fw h2 h1
def qy.le:t<=1073741824:=by
 rw[h.ht];exact(Bq h.r).2.2.2.1
end
def Ni{X:Iv}(vX:X.iD){r:Rat}(h:X.ja r):(iO (iW X) (iW X) 320).ja<|r*r:=by
 obtain⟨_,_,_,q⟩:=jH r;have h1:=Om vX h (s:=iR r) (by rcases q with⟨a,b⟩|⟨a,b⟩;exact .inl ⟨a,b⟩;exact .inr ⟨a,b⟩);have h2:=wH (uK vX) (uK vX) (p:=320) aK aK h1 h1;have e:iR r*iR r=r*r:=by rcases q with⟨a,b⟩|⟨a,b⟩<;>rw[a]<;>grind
 rwa[e]at h2
def FU:(iT 1).ja 1:=yi 1
def mW(x y:Iv):(iO x y 320).iD:=ku _ _ aK aK 
def Hh(x y:Iv):(jo x y 320).iD:=pf _ _ aK aK 
def wI:(iT 1).iD:=lY aK 
section
variable{x y:Iv}(vx:x.iD)(vy:y.iD)
def Gb:(jP x y 320).iD:=mn vx (nO vy) aK aK 
def xK:(iZ x y 320).iD:=mn vx vy aK aK 
section
variable{a b:Rat}(h1:x.ja a)(h2:y.ja b)
def am:(iO x y 320).ja<|a*b:=wH vx vy aK aK h1 h2
def aa:(iZ x y 320).ja<|a+b:=vF vx vy aK aK h1 h2
def Oz:(jP x y 320).ja<|a-b:=Nn vx vy aK aK h1 h2
def ad:(jo x y 320).ja<|a/b:=Hk vx vy aK aK h1 h2
end
end
def Se{D:Iv}(ha:D.all=false)(h:0<D.lo.q):nC D=true:=by
 unfold nC lL;rw[ha];have:=(rA D.lo).1.2 h;simp[this]
def MI{D:Iv}(h:nC D=true):D.all=false/\0<D.lo.q:=by
 unfold nC at h;rw[cr,dn]at h;have h1:D.all=false:=by simpa using h.1
 refine⟨h1,?_⟩;have h2:=h.2;unfold lL at h2;rw[bw<|by rw[h1];decide]at h2;split at h2
 .rename_i q;exact(rA _).1.1 q
 .split at h2<;>omega
def abj{a b n m : Int}{t : Rat}(r1 : jG a b=true)(h : qy n m t)(hp : 0<1+(a : Rat)/(b : Rat)*t) : nC (iZ (iT 1) (iO (kH a b 320) (kH n m 320) 320) 320)=true := by
 have E := sI r1;obtain⟨vH,aH,lH,uH⟩ := h.exact;obtain⟨b0,b1,x1,x2,xb⟩ := Bq r1;obtain⟨m0,m1,_,_,tm⟩ := Bq h.r;have t0 := h.nn;have t1 := h.le;rw[<-h.ht]at tm;generalize hx : (a : Rat)/(b : Rat)=x at *
 have gap1 : 1<=(b : Rat)*(m : Rat)*(1+x*t) := by
  have e : (b : Rat)*(m : Rat)*(1+x*t)=((b*m+a*n : Int) : Rat) := by
   rw[fO,gQ,gQ,<-xb,<-tm];grind
  have qI : 0<(b : Rat)*(m : Rat)*(1+x*t) := cR (cR b0 m0) hp;rw[e]at qI ⊢;have := (Rat.intCast_lt_intCast (a := 0) (b := b*m+a*n)).1 qI;have := cY (a := 1) (b := b*m+a*n);exact this.2 aI 
 have bm : (b : Rat)*(m : Rat)<=1152921504606846976 := by
  have k1 := bK b1<|bF m0;have k2 := bY m1<|show(0 : Rat)<=1073741824 by decide
  grind
 have lowx : 1<=1152921504606846976*(1+x*t) := by
  have := bK bm<|bF hp
  grind
 have p0 := nb (-200);have ps : P2 (-200)*1073741824*2305843009213693952<=1 := aT ;have G1 : G 320 (-2305843009213693951*(1/2305843009213693952)) := by
  have := xG (z := -2305843009213693951) (e := -61) aK aK aK;rwa[show P2 (-61)=1/2305843009213693952 by decide +kernel]at this
 have G2 : G 320 4611686018427387904 := by
  have := xG (z := 4611686018427387904) (e := 0) aK aK aK;rwa[tC,dL]at this
 have key : ∀ r,(∃ ξ τ,(kH a b 320).ja ξ/\(kH n m 320).ja τ/\r=ξ*τ) -> -2305843009213693951*(1/2305843009213693952)<=r/\r<=4611686018427387904 := by
  rintro r ⟨ξ,τ,hξ,hτ,rfl⟩;rw[h.el hτ];obtain⟨q1,q2⟩ := hξ.kA E.all;have e1 := E.lf;have e2 := E.alg;have k1 := bK (show x-P2 (-200)<=ξ by grind) t0;have k2 := bY t1<|bF p0;have k3 := bK (show ξ<=2147483648 by
   have : P2 (-200)<=1 := aT 
   grind) t0
  constructor<;>grind
 obtain⟨ma,ml,mh⟩ := (Co E.val vH E.all aH (show 1<=320 by decide) aK).s9 _ _ G1 G2 key;have G3 : G 320<|1/2305843009213693952 := by
  have := xG (z := 1) (e := -61) aK aK aK;rwa[show P2 (-61)=1/2305843009213693952 by decide +kernel,show((1 : Int) : Rat)=1 from rfl,eI]at this
 have G4 : G 320 4611686018427387905 := by
  have := xG (z := 4611686018427387905) (e := 0) aK aK aK;rwa[tC,dL]at this
 obtain⟨da,dl,_⟩ := (C1 wI (mW _ _) rfl ma (show 1<=320 by decide) aK).s9 _ _ G3 G4 λr ⟨u,w,hu,hw,e⟩ => by
  have eu : u=1 := by rw[Ef hu,uA];rfl
  obtain⟨w1,w2⟩ := hw.kA ma;rw[e,eu];constructor<;>grind
 have hz : (0 : Rat)<1/2305843009213693952 := aT
 exact Se da (by grind)
end Go.Proofs.YtbbefgegdllpmaaGreatDoor
