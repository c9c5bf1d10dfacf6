/- Lemmas that the last file uses. -/
import Derived.Test.YtbbefgegdllpmaaGreatDoorM03
import Derived.DeepKeys
set_option linter.unusedSimpArgs false
set_option linter.unusedVariables false
set_option linter.defProp false
set_option maxHeartbeats 4000000
open Go.Proofs.Tryz
namespace Go.Proofs.YtbbefgegdllpmaaGreatDoor
open Go.RowKit Fp Pu
def Ko(w:World)(L:List Nat)(e:Ending)(w':World):Prop:=∃ A c,e = .returned (.slice A L.length c)/\Sl w' A c L/\iY w w'/\∀ b o s,A=some ⟨b,o,s⟩->w.heap.size<=b
def Ko.l{w:World}{L:List Nat}{e:Ending}{w':World}(h:Ko w L e w'):uI w L e w':=let⟨A,c,h1,h2,h3,_⟩:=h;⟨A,c,h1,h2,h3⟩
def Ow.slF{w:World}{base:Nat}{v:Value}{L:List Nat}(h:Ow w base v L):∃ A c,v = .slice A L.length c/\Sl w A c L/\∀ b o s,A=some ⟨b,o,s⟩->base<=b:=by
 obtain⟨A,c,h1,h2⟩:=h.sl;refine⟨A,c,h1,h2,λb o s e=>?_⟩;rcases h.row.2 with⟨h3,_⟩|⟨g,cap,cur,h3,hb,_⟩
 .rw [h1,e]at h3;injection h3 with h3;cases h3
 .rw [h1,e]at h3;injection h3 with h3;cases h3;exact hb
def arC{B br:Nat->Prop}{w w':World}{A:Option Addr}{c:Nat}{L:List Nat}(hB:∀ b,B b->b<w.heap.size)(h:Sl w' A c L)(hf:∀ b o s,A=some ⟨b,o,s⟩->w.heap.size<=b):jd B br w' (iG L)<|.slice A L.length c:=by
 refine .sl false L.length 1 _ A c (λi _=>.int .u32 (L.getD i 0:Int)) h.cap h.nU h.y4 (λi j _ _=>⟨rfl,λh=>by cases h⟩) (λi j _ _=>rfl) (λi j hi hj=>?_) λi j _ _=>.v _;obtain rfl:j=0:= aI ;obtain⟨b,o,e1,je,ln⟩:=h.mM hi;have e2:L.getD i 0=L[i]:=by simp[bJ,hi]
 refine⟨b,o,e1,λqR=>?_,je,by rw[cG,ch,ln,e2]⟩;have:=hB b qR;have:=hf _ _ _ e1;omega
abbrev UE(f:FuncId)(args:List E)(jQ:E):Prop:=CY prog Tb f args jQ
def aoa{f:FuncId}{L M:List Nat}(hk:jc L)(hc:∀ (vs:Array Value) (w:World),(callFunc f vs).run prog w = .ok (.enter f vs) w)
 (H:∀ A c w,Sl w A c L->Tb w->Calls prog f #[.slice A L.length c] w (Ko w M)):UE f [iG L]<|iG M:=by
 refine⟨hc,λw B vs hK hB hr=>?_⟩;obtain⟨v1,vs,rfl,h1,hr⟩:=hr.nc;obtain rfl:=hr.rz;obtain⟨A,c,rfl,s1⟩:=xy hk h1;refine(H A c w s1 hK).mono λe w' ⟨A,c,q1,q2,q3,q4⟩=>⟨_,q1,q3,arC hB q2 q4⟩
def ap1(A:Option Addr)(c:Nat)(L:List Nat)(w:World)(hs:Sl w A c L)(hlen:L.length<=100000000):
 Calls prog 196 #[.slice A L.length c] w (Ko w<|iI L):=by
 have hc:=hs.cap;have hl:=hs.nU;have fin:∀ k:Nat,k=(iI L).length->Hid (iI L=L.take k):=λk hk=>by rw[hk];exact JU L
 go_enter func196,ntmps196;go_wp2;go_loop [3] (λi=>∃ k:Nat,k<=L.length/\i = .int .i64 k/\mV L=mV (L.take k)) (λi=>(intOf i).toNat)
 case atStart=>exact⟨L.length,bB _,rfl,aP⟩
 case round=>
  obtain⟨k,hk,rfl,ht⟩:=hrel;have HT:=aum ht;clear ht;have lJ:([]:List Nat).length+(L.take k).length<=10000000000:=by rw[cS];simp;omega
  have HK:=aum (show k=(L.take k).length by rw[cS];omega);have h1:=Ow.empty w w.heap.size<|bB _;have h2:=(hs.take k).alloc<|.cells #[] 99;have h3:=qW (w:=w) (bB _)<|.cells #[] 99;by_cases h0:0<k
  .obtain ⟨ab,ao,rfl,hb,B9⟩:=hs.mM (i:=k-1) aI ;have e1:((k:Int)-1).toNat=k-1:= aI ;have Z:=aum<|Nu L (k-1) aI;have NZ:=aum<|Nt L (k-1) aI;rw[fT h0]at Z NZ;generalize L[k-1]=x at *
   by_cases hx:x=0
   .have Hx:=aum hx;clear hx;have hb:((x:Int)==0)=true:=by have:=Hx.out;simp;omega
    clear fin;go_wp2;go_round
    case rel=>exact⟨k-1,aI,by go_num,by rw[HT.out,Z.out Hx.out]⟩
    case measure=>simp[intOf];omega
   .have hb:((x:Int)==0)=false:= aV ;have F:=fin k (by show k=mV L;rw[HT.out,NZ.out hx]);clear fin;go_wp2_with (at_builtin;go_must (refine si aO _ _ aO w.heap.size _ [] aO h1 _ _ _ (L.take k) aO HK.out h2 lJ h3 ?_);intro v' w' mF hg qh)
    obtain⟨A',c',rfl,oN,QE⟩:=mF.slF;go_ret;rw[F.out];exact⟨A',c',rfl,oN,(iY.alloc _ _).grown hg (qW (bB _) _) (λk hk=>by simp[Value.ownBlock]at hk;omega),QE⟩
  .have:k=0:= aI ;subst this;have F:=fin 0 (by show 0=mV L;rw[HT.out];rfl);clear fin;go_wp2_with (at_builtin;go_must (refine si aO _ _ aO w.heap.size _ [] aO h1 _ _ _ (L.take 0) aO HK.out h2 lJ h3 ?_);intro v' w' mF hg qh)
   obtain⟨A',c',rfl,oN,QE⟩:=mF.slF;go_ret;rw[F.out];exact⟨A',c',rfl,oN,(iY.alloc _ _).grown hg (qW (bB _) _) (λk hk=>by simp[Value.ownBlock]at hk;omega),QE⟩
def ze(L:List Nat)(hk:jc L)(hl:L.length<=100000):UE 196 [iG L]<|iG<|iI L:=
 aoa hk call196 λA c w h _=>ap1 A c L w h aI 
section
variable(L M:List Nat)
def aby(N k:Nat)(x:Nat):PS:=⟨30,true,[(5,.e<|iP<|(N:Int)-1-(x:Int)),(0,.e<|iG L),(1,.e<|iG M)],[]⟩
def abA(N k:Nat)(x:Nat):PS:=⟨30,true,[(5,.e<|iP<|(N:Int)-1-(x:Int)),(0,.e<|iG L),(1,.e<|iG M)],[]⟩
def abz(N k:Nat)(x:Nat):PS:=⟨30,true,[(5,.e<|iP<|(N:Int)-1-(x:Int)),(0,.e<|iG L),(1,.e<|iG M)],[]⟩
end
section
variable(L:List Nat)
def abv(k:Nat)(x:Nat):PS:=⟨31,true,[(3,.e<|iP<|(L.length:Int)-1-(x:Int)),(0,.e<|iG L)],[]⟩
def abu(k:Nat)(x:Nat):PS:=⟨31,true,[(3,.e<|iP<|(L.length:Int)-1-(x:Int)),(0,.e<|iG L)],[]⟩
def abw(k:Nat)(y:Nat):PS:=⟨31,true,[(5,.e<|.v<|.int .u32 (((L.getD ((L.length:Int)-1-(k:Int)).toNat 0)/2^y:Nat):Int)),(4,.e<|iP<|(32*((L.length:Int)-1-(k:Int)))+(y:Int))],[]⟩
def sU(z:Int)(hk:jc L)(h0:0<=z:=by omega):iA 200 [iG L,iP z]<|.v<|.int .u64 (L.getD z.toNat 0:Int):=by
 have h1:=hk.getD z.toNat
 exact iM (.w (z<(L.length:Int))
  (λk1=>af [tB 8<|bC k1,iX z<|L.length,.o 13 (.int<|px _:aj (.v<|.int .u64<|IntKind.u64.wrap ((L.getD (z).toNat 0:Nat):Int))<|.v<|.int .u64 ((L.getD (z).toNat 0:Nat):Int))])
  (λk1=>by
   have hz:L.getD z.toNat 0=0:=by rw[bJ,dp aI];rfl
   exact ae [tB 8<|bE k1]<|rQ (.v<|.int .u64 0) (.v<|.int .u64 (L.getD z.toNat 0:Int))<|by rw[hz];rfl))
def y7(n:Nat)(hk:jc L):iA 200 [iG L,iP (n:Int)]<|.v<|.int .u64 (L.getD n 0:Int):=sU L n hk<|Int.natCast_nonneg n
end
section
variable(L M:List Nat)(N k:Nat)(hL:jc L)(hM:jc M)(hN:N=max L.length M.length)(hs:N<=1000000)(heq:∀ x,x<k->L.getD (N-1-x) 0=M.getD (N-1-x) 0)
def ao4(hk:k=N):iA 154 [iG L,iG M]<|iP 0:=
 iM (af [.o 10<|ar (if(M.length:Int)>(L.length:Int)then(M.length:Int)else(L.length:Int)) N<|by rw[hN];split<;>omega,
  iL ((N:Int)-1),.s (Sp.kj (aby L M N k) 0 k aI (λx hx mr=>by
    have hj:(((N:Int)-1-(x:Int))).toNat=N-1-x:= aI ;have he:=heq x aI;rw[<-hj]at he;exact jg (ae [tT 13 (0<=((N:Int)-1-(x:Int))) aI,ag [iG L,iP<|(N:Int)-1-(x:Int)]<|sU _ _ aJ,ag [iG M,iP<|(N:Int)-1-(x:Int)]<|sU _ _ aJ,tF 22 (((L.getD ((N:Int)-1-(x:Int)).toNat 0:Nat):Int)<((M.getD ((N:Int)-1-(x:Int)).toNat 0:Nat):Int)) aI,ag [iG L,iP<|(N:Int)-1-(x:Int)]<|sU _ _ aJ,ag [iG M,iP<|(N:Int)-1-(x:Int)]<|sU _ _ aJ,tF 29 (((M.getD ((N:Int)-1-(x:Int)).toNat 0:Nat):Int)<((L.getD ((N:Int)-1-(x:Int)).toNat 0:Nat):Int)) aI,
     iL (((N:Int)-1-(x:Int))-1)]<|.e<|af [.o 5<|ar (((N:Int)-1-(x:Int))-1) ((N:Int)-1-((x+1:Nat):Int)) aZ]) aM)
  (λhx=>by
    exact jg (af [tF 13 (0<=((N:Int)-1-(k:Int))) aI]) aM) aQ:ki 2 f154 (aby L M N k 0) (.exit 0) ⟨30,true,[],[]⟩)<|af [.o 5<|ar ((N:Int)-1) ((N:Int)-1-((0:Nat):Int)) aZ]])
def ao6(hk:k<N)(hd:L.getD (N-1-k) 0<M.getD (N-1-k) 0):iA 154 [iG L,iG M]<|iP (-1):=
 iM (ae [.o 10<|ar (if(M.length:Int)>(L.length:Int)then(M.length:Int)else(L.length:Int)) N<|by rw[hN];split<;>omega,
  iL ((N:Int)-1),.s (Sp.kj (abA L M N k) 0 k aI (λx hx mr=>by
    have hj:(((N:Int)-1-(x:Int))).toNat=N-1-x:= aI ;have he:=heq x aI;rw[<-hj]at he;exact jg (ae [tT 13 (0<=((N:Int)-1-(x:Int))) aI,ag [iG L,iP<|(N:Int)-1-(x:Int)]<|sU _ _ aJ,ag [iG M,iP<|(N:Int)-1-(x:Int)]<|sU _ _ aJ,tF 22 (((L.getD ((N:Int)-1-(x:Int)).toNat 0:Nat):Int)<((M.getD ((N:Int)-1-(x:Int)).toNat 0:Nat):Int)) aI,ag [iG L,iP<|(N:Int)-1-(x:Int)]<|sU _ _ aJ,ag [iG M,iP<|(N:Int)-1-(x:Int)]<|sU _ _ aJ,tF 29 (((M.getD ((N:Int)-1-(x:Int)).toNat 0:Nat):Int)<((L.getD ((N:Int)-1-(x:Int)).toNat 0:Nat):Int)) aI,
     iL (((N:Int)-1-(x:Int))-1)]<|.e<|af [.o 5<|ar (((N:Int)-1-(x:Int))-1) ((N:Int)-1-((x+1:Nat):Int)) aZ]) aM)
  (λhx=>by
    have hj:(((N:Int)-1-(k:Int))).toNat=N-1-k:= aI ;rw[<-hj]at hd;exact jg (af [tT 13 (0<=((N:Int)-1-(k:Int))) aI,ag [iG L,iP<|(N:Int)-1-(k:Int)]<|sU _ _ aJ,ag [iG M,iP<|(N:Int)-1-(k:Int)]<|sU _ _ aJ,tT 22 (((L.getD ((N:Int)-1-(k:Int)).toNat 0:Nat):Int)<((M.getD ((N:Int)-1-(k:Int)).toNat 0:Nat):Int)) aI]) aM) aQ:ki 2 f154 (abA L M N k 0) .ret ⟨30,true,[(4,.e<|iP (-1))],[]⟩)<|af [.o 5<|ar ((N:Int)-1) ((N:Int)-1-((0:Nat):Int)) aZ]]<|rR (iP (-1)) (.jm rfl:E.le (iP (-1))<|iP (-1)))
def ao5(hk:k<N)(hd:M.getD (N-1-k) 0<L.getD (N-1-k) 0):iA 154 [iG L,iG M]<|iP 1:=
 iM (af [.o 10<|ar (if(M.length:Int)>(L.length:Int)then(M.length:Int)else(L.length:Int)) N<|by rw[hN];split<;>omega,
  iL ((N:Int)-1),.s (Sp.kj (abz L M N k) 0 k aI (λx hx mr=>by
    have hj:(((N:Int)-1-(x:Int))).toNat=N-1-x:= aI ;have he:=heq x aI;rw[<-hj]at he;exact jg (ae [tT 13 (0<=((N:Int)-1-(x:Int))) aI,ag [iG L,iP<|(N:Int)-1-(x:Int)]<|sU _ _ aJ,ag [iG M,iP<|(N:Int)-1-(x:Int)]<|sU _ _ aJ,tF 22 (((L.getD ((N:Int)-1-(x:Int)).toNat 0:Nat):Int)<((M.getD ((N:Int)-1-(x:Int)).toNat 0:Nat):Int)) aI,ag [iG L,iP<|(N:Int)-1-(x:Int)]<|sU _ _ aJ,ag [iG M,iP<|(N:Int)-1-(x:Int)]<|sU _ _ aJ,tF 29 (((M.getD ((N:Int)-1-(x:Int)).toNat 0:Nat):Int)<((L.getD ((N:Int)-1-(x:Int)).toNat 0:Nat):Int)) aI,
     iL (((N:Int)-1-(x:Int))-1)]<|.e<|af [.o 5<|ar (((N:Int)-1-(x:Int))-1) ((N:Int)-1-((x+1:Nat):Int)) aZ]) aM)
  (λhx=>by
    have hj:(((N:Int)-1-(k:Int))).toNat=N-1-k:= aI ;rw[<-hj]at hd;exact jg (af [tT 13 (0<=((N:Int)-1-(k:Int))) aI,ag [iG L,iP<|(N:Int)-1-(k:Int)]<|sU _ _ aJ,ag [iG M,iP<|(N:Int)-1-(k:Int)]<|sU _ _ aJ,tF 22 (((L.getD ((N:Int)-1-(k:Int)).toNat 0:Nat):Int)<((M.getD ((N:Int)-1-(k:Int)).toNat 0:Nat):Int)) aI,ag [iG L,iP<|(N:Int)-1-(k:Int)]<|sU _ _ aJ,ag [iG M,iP<|(N:Int)-1-(k:Int)]<|sU _ _ aJ,tT 29 (((M.getD ((N:Int)-1-(k:Int)).toNat 0:Nat):Int)<((L.getD ((N:Int)-1-(k:Int)).toNat 0:Nat):Int)) aI]) aM) aQ:ki 2 f154 (abz L M N k 0) .ret ⟨30,true,[(4,.e<|iP 1)],[]⟩)<|af [.o 5<|ar ((N:Int)-1) ((N:Int)-1-((0:Nat):Int)) aZ]])
end
section
variable(L M:List Nat)(hL:jc L)(hM:jc M)(h1:L.length<=1000000)(h2:M.length<=1000000)
def abB:iA 154 [iG L,iG M]<|iP<|kP (val L)<|val M:=by
 obtain⟨N,hN⟩:∃ N,N=max L.length M.length:=⟨_,rfl⟩
 have vL:val L<4294967296^N:=cg (nd hL)<|bZ aK aI;have vM:val M<4294967296^N:=cg (nd hM)<|bZ aK aI;by_cases h:∃ x,x<N/\(decide (L.getD (N-1-x) 0≠M.getD (N-1-x) 0))=true
 .obtain ⟨k,k1,k2,k3⟩:=ur h;have heq:∀ x,x<k->L.getD (N-1-x) 0=M.getD (N-1-x) 0:=λx hx=>by simpa using k3 x hx
  have jM:L.getD (N-1-k) 0≠M.getD (N-1-k) 0:=by simpa using k2
  have DQ:∀ i,N-1-k<i->iV (val L) i=iV (val M) i:=λi hi=>by
   by_cases hiN:i<N
   .have:=heq (N-1-i) aI ;rw[(aI:N-1-(N-1-i)=i),qg hL,qg hM]at this;exact this
   .rw [xO vL aI,xO vM aI]
  rw[qg hL,qg hM]at jM;rcases Nat.lt_or_gt_of_ne jM with hd|hd
  .have:=aaf vL vM DQ hd;refine(ao6 L M N k hL hM hN aI heq k1<|by rw[qg hL,qg hM];exact hd).jQ<|.jm ?_;unfold kP;rw[bA this]
  .have:=aaf vM vL (λi hi=>(DQ i hi).symm) hd;refine(ao5 L M N k hL hM hN aI heq k1<|by rw[qg hL,qg hM];exact hd).jQ<|.jm ?_;unfold kP;rw[bw aI,bA this]
 .have heq:∀ x,x<N->L.getD (N-1-x) 0=M.getD (N-1-x) 0:=λx hx=>by
   apply cF;intro q;exact h ⟨x,hx,by simpa using q⟩
  have DQ:∀ i,iV (val L) i=iV (val M) i:=λi=>by
   by_cases hiN:i<N
   .have:=heq (N-1-i) aI ;rw[(aI:N-1-(N-1-i)=i),qg hL,qg hM]at this;exact this
   .rw [xO vL aI,xO vM aI]
  refine(ao4 L M N N hL hM hN aI heq rfl).jQ<|.jm ?_;rw[Xr vL vM λi _=>DQ i];unfold kP;rw[bw<|fN _,bw<|fN _]
def ao9:iA 225 [iG L,iG M]<|bP<|decide (kP (val L) (val M)<0):=
 iM (af [ag [iG L,iG M]<|abB _ _ aJ aJ aI aI])
end
section
variable(L:List Nat)
def ao3(k:Nat)(hL:jc L)(hs:L.length<=1000000)(hz:∀ x,x<k->L.getD (L.length-1-x) 0=0)(hk:k=L.length):iA 150 [iG L]<|iP 0:=
 iM (af [iL<|(L.length:Int)-1,.s (Sp.kj (abv L k) 0 k aI (λx hx mr=>by
    have hj:(((L.length:Int)-1-(x:Int))).toNat=L.length-1-x:= aI ;have he:=hz x aI;rw[<-hj]at he;exact jg (ae [tT 10 (0<=((L.length:Int)-1-(x:Int))) aI,iX ((L.length:Int)-1-(x:Int))<|L.length,ai 17 (((L.getD ((L.length:Int)-1-(x:Int)).toNat 0:Nat):Int) != 0)<|D7 he,iL<|((L.length:Int)-1-(x:Int))-1]<|.e<|af [.o 3<|ar (((L.length:Int)-1-(x:Int))-1) ((L.length:Int)-1-((x+1:Nat):Int)) aZ]) aM)
  (λhx=>by
    exact jg (af [tF 10 (0<=((L.length:Int)-1-(k:Int))) aI]) aM) aQ:ki 2 f150 (abv L k 0) (.exit 0) ⟨31,true,[],[]⟩)<|af [.o 3<|ar ((L.length:Int)-1) ((L.length:Int)-1-((0:Nat):Int)) aZ]])
def ao2(k:Nat)(hL:jc L)(hs:L.length<=1000000)(hz:∀ x,x<k->L.getD (L.length-1-x) 0=0)(hk:k<L.length)(hd:L.getD (L.length-1-k) 0≠0):iA 150 [iG L]<|iP<|(32*((L.length:Int)-1-(k:Int)))+(iE<|L.getD ((L.length:Int)-1-(k:Int)).toNat 0:Int):=
 iM (af [iL<|(L.length:Int)-1,.s (Sp.kj (abu L k) 0 k aI (λx hx mr=>by
    have hj:(((L.length:Int)-1-(x:Int))).toNat=L.length-1-x:= aI ;have he:=hz x aI;rw[<-hj]at he;exact jg (ae [tT 10 (0<=((L.length:Int)-1-(x:Int))) aI,iX ((L.length:Int)-1-(x:Int))<|L.length,ai 17 (((L.getD ((L.length:Int)-1-(x:Int)).toNat 0:Nat):Int) != 0)<|D7 he,iL<|((L.length:Int)-1-(x:Int))-1]<|.e<|af [.o 3<|ar (((L.length:Int)-1-(x:Int))-1) ((L.length:Int)-1-((x+1:Nat):Int)) aZ]) aM)
  (λhx=>by
    have hj:(((L.length:Int)-1-(k:Int))).toNat=L.length-1-k:= aI ;have je:=hL.getD ((L.length:Int)-1-(k:Int)).toNat
    have mq:iE (L.getD ((L.length:Int)-1-(k:Int)).toNat 0)<=32:=lE.2 je;rw[<-hj]at hd;exact jg (af [tT 10 (0<=((L.length:Int)-1-(k:Int))) aI,iX ((L.length:Int)-1-(k:Int))<|L.length,ah 17 (((L.getD ((L.length:Int)-1-(k:Int)).toNat 0:Nat):Int) != 0)<|Ji hd,iL<|32*((L.length:Int)-1-(k:Int)),
    iX ((L.length:Int)-1-(k:Int)) (L.length),.s (Sp.kj (abw L k) 0 (iE<|L.getD ((L.length:Int)-1-(k:Int)).toNat 0) aI (λy hy QT=>by
    have hp:0<(L.getD ((L.length:Int)-1-(k:Int)).toNat 0)/2^y:=gT (xr.1 aI)<|bL aK;exact jg (ae [tT 25 (0<(((L.getD ((L.length:Int)-1-(k:Int)).toNat 0)/2^y:Nat):Int)) aI,iL<|((32*((L.length:Int)-1-(k:Int)))+(y:Int))+1,.a (aI:0<=(1:Int)/\(1:Int)<=((32:Nat):Int)),.o 27 (.int<|tW _ _:aj (.v<|.int .u32<|(((L.getD ((L.length:Int)-1-(k:Int)).toNat 0)/2^y:Nat):Int)/2^1)<|.v<|.int .u32 ((((L.getD ((L.length:Int)-1-(k:Int)).toNat 0)/2^y)/2^1:Nat):Int))]<|.e<|af [.o 5<|.int (k:=.u32) (by rw[dc,<-bV]:((((L.getD ((L.length:Int)-1-(k:Int)).toNat 0)/2^y)/2^1:Nat):Int)=(((L.getD ((L.length:Int)-1-(k:Int)).toNat 0)/2^(y+1):Nat):Int)),.o 4<|ar (((32*((L.length:Int)-1-(k:Int)))+(y:Int))+1) ((32*((L.length:Int)-1-(k:Int)))+((y+1:Nat):Int)) aZ]) aM)
  (λhy=>by
    have hp:(L.getD ((L.length:Int)-1-(k:Int)).toNat 0)/2^(iE<|L.getD ((L.length:Int)-1-(k:Int)).toNat 0)=0:=cI<|qL _;exact jg (af [tF 25 (0<(((L.getD ((L.length:Int)-1-(k:Int)).toNat 0)/2^(iE<|L.getD ((L.length:Int)-1-(k:Int)).toNat 0):Nat):Int)) aI]) aM) aQ:ki 7 f150 (abw L k 0) (.exit 2) ⟨31,true,[(4,.e<|iP<|(32*((L.length:Int)-1-(k:Int)))+(iE<|L.getD ((L.length:Int)-1-(k:Int)).toNat 0:Int))],[]⟩)<|af [.o 5<|.int (k:=.u32) (by rw[cH,ew]:((L.getD ((L.length:Int)-1-(k:Int)).toNat 0:Nat):Int)=(((L.getD ((L.length:Int)-1-(k:Int)).toNat 0)/2^0:Nat):Int)),.o 4<|ar (32*((L.length:Int)-1-(k:Int))) ((32*((L.length:Int)-1-(k:Int)))+((0:Nat):Int)) aZ]]) aM) aQ:ki 2 f150 (abu L k 0) .ret ⟨31,true,[(2,.e<|iP<|(32*((L.length:Int)-1-(k:Int)))+(iE<|L.getD ((L.length:Int)-1-(k:Int)).toNat 0:Int))],[]⟩)<|af [.o 3<|ar ((L.length:Int)-1) ((L.length:Int)-1-((0:Nat):Int)) aZ]])
def abx(hL:jc L)(h1:L.length<=1000000):iA 150 [iG L]<|iP<|iE<|val L:=by
 by_cases h:∃ x,x<L.length/\(decide (L.getD (L.length-1-x) 0≠0))=true
 .obtain ⟨k,k1,k2,k3⟩:=ur h;have hz:∀ x,x<k->L.getD (L.length-1-x) 0=0:=λx hx=>by simpa using k3 x hx
  have jM:L.getD (L.length-1-k) 0≠0:=by simpa using k2
  refine(ao2 L k hL h1 hz k1 jM).jQ<|.jm ?_;have hj:(((L.length:Int)-1-(k:Int))).toNat=L.length-1-k:= aI ;rw[hj];have hb:=VG (n:=val L) (k:=L.length-1-k) (NA hL λi hi=>by
   by_cases yR:i<L.length
   .have:=hz (L.length-1-i) aI ;rwa[(aI:L.length-1-(L.length-1-i)=i)]at this
   .rw [bJ,dp aI];rfl)<|by rw[<-qg hL];exact jM
  rw[hb,<-qg hL];exact congrArg iP aI 
 .have hz:∀ x,x<L.length->L.getD (L.length-1-x) 0=0:=λx hx=>by
   apply cF;intro q;exact h ⟨x,hx,by simpa using q⟩
  refine(ao3 L L.length hL h1 hz rfl).jQ<|.jm ?_;have:val L<4294967296^0:=NA hL λi _=>by
   by_cases yR:i<L.length
   .have:=hz (L.length-1-i) aI ;rwa[(aI:L.length-1-(L.length-1-i)=i)]at this
   .rw [bJ,dp aI];rfl
  have h0:val L=0:=by rw[cH]at this;omega
  rw[h0];rfl
end
def abt(L M:List Nat)(N:Nat)(x:Nat):PS:=⟨41,false,[(5,.own 5),(7,.e<|iP x),(6,.e<|.v<|.int .u64 (jR (val L) (val M) x:Int)),(0,.e<|iG L),(1,.e<|iG M)],[(5,.row false 99 x 1<|jt<|jj (val L+val M) x)]⟩
def abN(L M:List Nat)(x:Nat):PS:=⟨36,false,[(5,.own 5),(7,.e<|iP x),(6,.e<|.v<|.int .u64 (jR (val L-val M) (val M) x:Int)),(0,.e<|iG L),(1,.e<|iG M)],[(5,.row false 99 x 1<|jt<|jj (val L-val M) x)]⟩
section
variable(L:List Nat)(n:Nat)(x:Nat)
def abJ:PS:=⟨36,false,[(5,.own 5),(6,.e<|iP (((n/32)+x:Nat):Int)),(0,.e<|iG L),(1,.e<|iP n)],[(5,.row false 99 x 1<|jt<|jj (val L/2^n) x)]⟩
def abK:PS:=⟨36,false,[(5,.own 5),(6,.e<|iP (((n/32)+x:Nat):Int)),(0,.e<|iG L),(1,.e<|iP n)],[(5,.row false 99 x 1<|jt<|jj 0 x)]⟩
end
section
variable(L M:List Nat)(hL:jc L)(hM:jc M)(h1:L.length<=10000)
def ao1(h2:M.length<=10000):iA 197 [iG L,iG M]<|iG<|iB<|val L+val M:=by
 obtain⟨N,hN⟩:∃ N,N=max L.length M.length:=⟨_,rfl⟩
 have vL:val L<4294967296^N:=cg (nd hL)<|bZ aK aI;have vM:val M<4294967296^N:=cg (nd hM)<|bZ aK aI;have hcN:=vI (val L) (val M) N;have hce:jR (val L) (val M) (N+jR (val L) (val M) N)=0:=by
  rcases eP 0 (jR (val L) (val M) N)with h|h
  .rw [(aI:jR (val L) (val M) N=1)];exact afV vL vM
  .have h0:jR (val L) (val M) N=0:= aI ;rw[h0,ch];exact h0
 have pA:val L+val M<4294967296^(N+jR (val L) (val M) N):=by
  have h:=Oo (val L) (val M)<|N+jR (val L) (val M) N;have g1:val L<4294967296^(N+jR (val L) (val M) N):=cg vL<|bZ aK aI;have g2:val M<4294967296^(N+jR (val L) (val M) N):=cg vM<|bZ aK aI;rw[hce,cI g1,cI g2]at h;exact Nat.lt_of_div_eq_zero (pw _) h
 exact oY (ae [.y 5 5 false 99 1<|jt<|jj (val L+val M) 0,.s (Sp.kj (abt L M N) 0 (N+(jR (val L) (val M) N)) aI (λx hx mr=>by
    have ha:=AI (val L) (val M) x;rw[<-qg hL,<-qg hM]at ha;have b1:=hL.getD x;have b2:=hM.getD x;have b3:=vI (val L) (val M) x;have b4:=qB (val L+val M) x;have hz:((((L.getD x 0+M.getD x 0)+(jR (val L) (val M) x))%4294967296%4294967296:Nat):Int)=(iV (val L+val M) x:Int):= aI ;have hq:((L.getD x 0+M.getD x 0)+(jR (val L) (val M) x))/4294967296=jR (val L) (val M) (x+1):= aI ;by_cases hx:x<N
    .exact jg (ae [.o 14<|ar (if(M.length:Int)>(L.length:Int)then(M.length:Int)else(L.length:Int)) N<|by rw[hN];split<;>omega,tT 15 ((x:Int)<N) aI,.c<|y7 L x aJ,.c<|y7 M x aJ,nW<|(L.getD x 0:Int)+(M.getD x 0:Int),
      nW ((((L.getD x 0)+(M.getD x 0):Nat):Int)+(jR (val L) (val M) x:Int)),.o 33 (.int<|CP _:aj (.v<|.int .u64<|bits .and .u64 ((((L.getD x 0)+(M.getD x 0))+(jR (val L) (val M) x):Nat):Int) 4294967295)<|.v<|.int .u64 (((((L.getD x 0)+(M.getD x 0))+(jR (val L) (val M) x))%4294967296:Nat):Int)),.o 34 (.int<|tX _:aj (.v<|.int .u32<|IntKind.u32.wrap (((((L.getD x 0)+(M.getD x 0))+(jR (val L) (val M) x))%4294967296:Nat):Int))<|.v<|.int .u32 ((((((L.getD x 0)+(M.getD x 0))+(jR (val L) (val M) x))%4294967296)%4294967296:Nat):Int)),.a (aI:(x+1)*4<=140737488355328),.a (aI:0<=(32:Int)/\(32:Int)<=((64:Nat):Int)),.o 38 (.int<|Al _:aj (.v<|.int .u64<|((((L.getD x 0)+(M.getD x 0))+(jR (val L) (val M) x):Nat):Int)/2^32)<|.v<|.int .u64 (((((L.getD x 0)+(M.getD x 0))+(jR (val L) (val M) x))/4294967296:Nat):Int)),
      iL ((x:Int)+1)]<|.e<|af [.o 6<|.int (k:=.u64) (by rw[hq]:(((((L.getD x 0)+(M.getD x 0))+(jR (val L) (val M) x))/4294967296:Nat):Int)=(jR (val L) (val M)<|x+1:Int)),.b 5 (Cj rfl hz:Bx.le (.row false 99 (x+1) 1 λi_ j_=>if i_<x then(jt<|jj (val L+val M) x) i_ j_ else(E.jV<|.sl false 1 1 λi_ j_=>[.v<|.int .u32 ((((((L.getD x 0)+(M.getD x 0))+(jR (val L) (val M) x))%4294967296)%4294967296:Nat):Int)].getD (i_*1+j_)<|.v<|.bool false) (i_-x) j_)<|.row false 99 (x+1) 1<|jt<|jj (val L+val M)<|x+1)]) aM 
    .have hcx:jR (val L) (val M) x=jR (val L) (val M) N:=by rw[(aI:x=N)]
     exact jg (ae [.o 14<|ar (if(M.length:Int)>(L.length:Int)then(M.length:Int)else(L.length:Int)) N<|by rw[hN];split<;>omega,tF 15 ((x:Int)<N) aI,tT 18 (0<(jR (val L) (val M) x:Int)) aI,.c<|y7 L x aJ,.c<|y7 M x aJ,
      nW ((L.getD x 0:Int)+(M.getD x 0:Int)),nW<|(((L.getD x 0)+(M.getD x 0):Nat):Int)+(jR (val L) (val M) x:Int),.o 33 (.int<|CP _:aj (.v<|.int .u64<|bits .and .u64 ((((L.getD x 0)+(M.getD x 0))+(jR (val L) (val M) x):Nat):Int) 4294967295)<|.v<|.int .u64 (((((L.getD x 0)+(M.getD x 0))+(jR (val L) (val M) x))%4294967296:Nat):Int)),.o 34 (.int<|tX _:aj (.v<|.int .u32<|IntKind.u32.wrap (((((L.getD x 0)+(M.getD x 0))+(jR (val L) (val M) x))%4294967296:Nat):Int))<|.v<|.int .u32 ((((((L.getD x 0)+(M.getD x 0))+(jR (val L) (val M) x))%4294967296)%4294967296:Nat):Int)),.a (aI:(x+1)*4<=140737488355328),.a (aI:0<=(32:Int)/\(32:Int)<=((64:Nat):Int)),.o 38 (.int<|Al _:aj (.v<|.int .u64<|((((L.getD x 0)+(M.getD x 0))+(jR (val L) (val M) x):Nat):Int)/2^32)<|.v<|.int .u64 (((((L.getD x 0)+(M.getD x 0))+(jR (val L) (val M) x))/4294967296:Nat):Int)),
      iL ((x:Int)+1)]<|.e<|af [.o 6<|.int (k:=.u64) (by rw[hq]:(((((L.getD x 0)+(M.getD x 0))+(jR (val L) (val M) x))/4294967296:Nat):Int)=(jR (val L) (val M)<|x+1:Int)),.b 5 (Cj rfl hz:Bx.le (.row false 99 (x+1) 1 λi_ j_=>if i_<x then(jt<|jj (val L+val M) x) i_ j_ else(E.jV<|.sl false 1 1 λi_ j_=>[.v<|.int .u32 ((((((L.getD x 0)+(M.getD x 0))+(jR (val L) (val M) x))%4294967296)%4294967296:Nat):Int)].getD (i_*1+j_)<|.v<|.bool false) (i_-x) j_)<|.row false 99 (x+1) 1<|jt<|jj (val L+val M)<|x+1)]) aM)
  (λhx=>by
    exact jg (ae [.o 14<|ar (if(M.length:Int)>(L.length:Int)then(M.length:Int)else(L.length:Int)) N<|by rw[hN];split<;>omega,tF 15 (((N+(jR (val L) (val M) N):Nat):Int)<N) aI,tF 18 (0<(jR (val L) (val M)<|N+(jR (val L) (val M) N):Int)) aI,.z 5]<|.e<|af [.o 5 (.e<|Am (nH _ _).symm:aj (.sl false (N+(jR (val L) (val M) N)) 1<|jt<|jj (val L+val M)<|N+(jR (val L) (val M) N))<|iG<|jj (val L+val M)<|N+(jR (val L) (val M) N))]) aM) aQ:ki 4 f197 (abt L M N 0) (.exit 0) ⟨41,false,[(5,.e<|iG<|jj (val L+val M)<|N+(jR (val L) (val M) N))],[]⟩)<|af [.o 6<|.int (k:=.u64) (by rw[KN];rfl:0=(jR (val L) (val M) 0:Int))],.cf<|ze (jj (val L+val M)<|N+(jR (val L) (val M) N)) (vN _ _) a7]<|rQ (iG<|iI<|jj (val L+val M)<|N+(jR (val L) (val M) N)) (iG<|iB<|val L+val M)<|by rw[Eu pA])
def apg(hle:val M<=val L):iA 227 [iG L,iG M]<|iG<|iB<|val L-val M:=by
 have pA:val L-val M<4294967296^L.length:=dh (en _ _)<|nd hL;exact oY (ae [.y 5 5 false 99 1<|jt<|jj (val L-val M) 0,.s (Sp.kj (abN L M) 0 L.length aI (λx hx mr=>by
    have ha:=adi hle x;rw[<-qg hL,<-qg hM]at ha;have b1:=hL.getD x;have b2:=hM.getD x;have b3:=vI (val L-val M) (val M) x;have b5:=vI (val L-val M) (val M)<|x+1;have b4:=qB (val L-val M) x;have hz:(((((L.getD x 0+4294967296)-M.getD x 0)-(jR (val L-val M) (val M) x))%4294967296%4294967296:Nat):Int)=(iV (val L-val M) x:Int):= aI ;have hq:1-(((L.getD x 0+4294967296)-M.getD x 0)-(jR (val L-val M) (val M) x))/4294967296=jR (val L-val M) (val M) (x+1):= aI ;exact jg (ae [tT 12 ((x:Int)<L.length) aI,.c<|y7 L x aJ,nW<|(L.getD x 0:Int)+4294967296,.c<|y7 M x aJ,
     nW ((((L.getD x 0)+4294967296:Nat):Int)-(M.getD x 0:Int)),.o 22<|.int (k:=.u64) (aI:((((L.getD x 0)+4294967296:Nat):Int)-(M.getD x 0:Int))=(((L.getD x 0+4294967296)-M.getD x 0:Nat):Int)),
     nW ((((L.getD x 0+4294967296)-M.getD x 0:Nat):Int)-(jR (val L-val M) (val M) x:Int)),.o 24<|.int (k:=.u64) (aI:((((L.getD x 0+4294967296)-M.getD x 0:Nat):Int)-(jR (val L-val M) (val M) x:Int))=((((L.getD x 0+4294967296)-M.getD x 0)-(jR (val L-val M) (val M) x):Nat):Int)),.o 27 (.int<|CP _:aj (.v<|.int .u64<|bits .and .u64 ((((L.getD x 0+4294967296)-M.getD x 0)-(jR (val L-val M) (val M) x):Nat):Int) 4294967295)<|.v<|.int .u64 (((((L.getD x 0+4294967296)-M.getD x 0)-(jR (val L-val M) (val M) x))%4294967296:Nat):Int)),.o 28 (.int<|tX _:aj (.v<|.int .u32<|IntKind.u32.wrap (((((L.getD x 0+4294967296)-M.getD x 0)-(jR (val L-val M) (val M) x))%4294967296:Nat):Int))<|.v<|.int .u32 ((((((L.getD x 0+4294967296)-M.getD x 0)-(jR (val L-val M) (val M) x))%4294967296)%4294967296:Nat):Int)),.a (aI:(x+1)*4<=140737488355328),.a (aI:0<=(32:Int)/\(32:Int)<=((64:Nat):Int)),.o 32 (.int<|Al _:aj (.v<|.int .u64<|((((L.getD x 0+4294967296)-M.getD x 0)-(jR (val L-val M) (val M) x):Nat):Int)/2^32)<|.v<|.int .u64 (((((L.getD x 0+4294967296)-M.getD x 0)-(jR (val L-val M) (val M) x))/4294967296:Nat):Int)),
     nW (1-(((((L.getD x 0+4294967296)-M.getD x 0)-(jR (val L-val M) (val M) x))/4294967296:Nat):Int)),.o 33<|.int (k:=.u64) (aI:(1-(((((L.getD x 0+4294967296)-M.getD x 0)-(jR (val L-val M) (val M) x))/4294967296:Nat):Int))=((1-((((L.getD x 0+4294967296)-M.getD x 0)-(jR (val L-val M) (val M) x))/4294967296):Nat):Int)),
     iL ((x:Int)+1)]<|.e<|af [.o 6<|.int (k:=.u64) (by rw[hq]:((1-((((L.getD x 0+4294967296)-M.getD x 0)-(jR (val L-val M) (val M) x))/4294967296):Nat):Int)=(jR (val L-val M) (val M)<|x+1:Int)),.b 5 (Cj rfl hz:Bx.le (.row false 99 (x+1) 1 λi_ j_=>if i_<x then(jt<|jj (val L-val M) x) i_ j_ else(E.jV<|.sl false 1 1 λi_ j_=>[.v<|.int .u32 ((((((L.getD x 0+4294967296)-M.getD x 0)-(jR (val L-val M) (val M) x))%4294967296)%4294967296:Nat):Int)].getD (i_*1+j_)<|.v<|.bool false) (i_-x) j_)<|.row false 99 (x+1) 1<|jt<|jj (val L-val M)<|x+1)]) aM)
  (λhx=>by
    exact jg (ae [tF 12 ((L.length:Int)<L.length) aI,.z 5]<|.e<|af [.o 5 (.e<|Am (nH _ _).symm:aj (.sl false L.length 1<|jt<|jj (val L-val M) L.length)<|iG<|jj (val L-val M) L.length)]) aM) aQ:ki 4 f227 (abN L M 0) (.exit 0) ⟨36,false,[(5,.e<|iG<|jj (val L-val M) L.length)],[]⟩)<|af [.o 6<|.int (k:=.u64) (by rw[KN];rfl:0=(jR (val L-val M) (val M) 0:Int))],.cf<|ze (jj (val L-val M) L.length) (vN _ _) a7]<|rQ (iG<|iI<|jj (val L-val M) L.length) (iG<|iB<|val L-val M)<|by rw[Eu pA])
end
def apd(L:List Nat)(n:Nat)(hL:jc L)(h1:L.length<=10000)(hn:n<=1000000):iA 198 [iG L,iP n]<|iG<|iB<|val L/2^n:=by
 have pA:val L/2^n<4294967296^(L.length-n/32):=by
  rw[cK<|bL aK];by_cases h:n/32<=L.length
  .refine cg (nd hL) ?_;rw[oz,oz,<-bG];exact bZ aK aI 
  .rw [(aI:L.length-n/32=0),cH,cj];refine cg (nd hL) ?_;rw[oz];exact bZ aK aI 
 by_cases kf:n/32<=L.length
 .exact oY (ae [.a (aI:0<(32:Int)),iL (n:Int),.y 5 5 false 99 1<|jt<|jj (val L/2^n) 0,.s (Sp.kj (abJ L n) 0 (L.length-n/32) aI (λx hx mr=>by
    have b1:=hL.getD<|(n/32)+x;have b2:=hL.getD<|((n/32)+x)+1;have b3:(L.getD ((n/32)+x) 0+(L.getD (((n/32)+x)+1) 0*4294967296))/2^(n%32)<=(L.getD ((n/32)+x) 0+(L.getD (((n/32)+x)+1) 0*4294967296)):=cM _ _;have hz:(((L.getD ((n/32)+x) 0+(L.getD (((n/32)+x)+1) 0*4294967296))/2^(n%32)%4294967296%4294967296:Nat):Int)=(iV (val L/2^n) x:Int):=by
     rw[Nat.mod_mod,arn,<-qg hL,<-qg hL,eZ x,bR 4294967296]
    exact jg (ae [tT 13 ((((n/32)+x:Nat):Int)<L.length) aI,.c<|y7 L ((n/32)+x) aJ,iL<|(((n/32)+x:Nat):Int)+1,.c<|y7 L (((n/32)+x)+1) aJ,.a (aI:0<=(32:Int)/\(32:Int)<=((64:Nat):Int)),.o 23 (.int<|Gg _:aj (.v<|.int .u64<|IntKind.u64.wrap<|(L.getD (((n/32)+x)+1) 0:Int)*2^32)<|.v<|.int .u64 ((L.getD (((n/32)+x)+1) 0*4294967296:Nat):Int)),
     nW ((L.getD ((n/32)+x) 0:Int)+((L.getD (((n/32)+x)+1) 0*4294967296:Nat):Int)),.a (aI:0<(32:Int)),.a (aI:0<=(((n%32:Nat):Int):Int)/\(((n%32:Nat):Int):Int)<=((64:Nat):Int)),.o 29 (.int<|tW _ _:aj (.v<|.int .u64<|(((L.getD ((n/32)+x) 0)+(L.getD (((n/32)+x)+1) 0*4294967296):Nat):Int)/2^(n%32))<|.v<|.int .u64 ((((L.getD ((n/32)+x) 0)+(L.getD (((n/32)+x)+1) 0*4294967296))/2^(n%32):Nat):Int)),.o 30 (.int<|CP _:aj (.v<|.int .u64<|bits .and .u64 ((((L.getD ((n/32)+x) 0)+(L.getD (((n/32)+x)+1) 0*4294967296))/2^(n%32):Nat):Int) 4294967295)<|.v<|.int .u64 (((((L.getD ((n/32)+x) 0)+(L.getD (((n/32)+x)+1) 0*4294967296))/2^(n%32))%4294967296:Nat):Int)),.o 31 (.int<|tX _:aj (.v<|.int .u32<|IntKind.u32.wrap (((((L.getD ((n/32)+x) 0)+(L.getD (((n/32)+x)+1) 0*4294967296))/2^(n%32))%4294967296:Nat):Int))<|.v<|.int .u32 ((((((L.getD ((n/32)+x) 0)+(L.getD (((n/32)+x)+1) 0*4294967296))/2^(n%32))%4294967296)%4294967296:Nat):Int)),.a (aI:(x+1)*4<=140737488355328),iL<|(((n/32)+x:Nat):Int)+1]<|.e<|af [.o 6<|ar ((((n/32)+x)+1:Nat):Int) (((n/32)+(x+1):Nat):Int) aZ,.b 5 (Cj rfl hz:Bx.le (.row false 99 (x+1) 1 λi_ j_=>if i_<x then(jt<|jj (val L/2^n) x) i_ j_ else(E.jV<|.sl false 1 1 λi_ j_=>[.v<|.int .u32 ((((((L.getD ((n/32)+x) 0)+(L.getD (((n/32)+x)+1) 0*4294967296))/2^(n%32))%4294967296)%4294967296:Nat):Int)].getD (i_*1+j_)<|.v<|.bool false) (i_-x) j_)<|.row false 99 (x+1) 1<|jt<|jj (val L/2^n)<|x+1)]) aM)
  (λhx=>by
    exact jg (ae [tF 13 ((((n/32)+(L.length-n/32):Nat):Int)<L.length) aI,.z 5]<|.e<|af [.o 5 (.e<|Am (nH _ _).symm:aj (.sl false (L.length-n/32) 1<|jt<|jj (val L/2^n)<|L.length-n/32)<|iG<|jj (val L/2^n)<|L.length-n/32)]) aM) aQ:ki 3 f198 (abJ L n 0) (.exit 0) ⟨36,false,[(5,.e<|iG<|jj (val L/2^n)<|L.length-n/32)],[]⟩)<|af [.o 6<|ar ((n/32:Nat):Int) (((n/32)+0:Nat):Int) aZ],.cf<|ze (jj (val L/2^n)<|L.length-n/32) (vN _ _) a7]<|rQ (iG<|iI<|jj (val L/2^n)<|L.length-n/32) (iG<|iB<|val L/2^n)<|by rw[Eu pA])
 .have h0:val L/2^n=0:=by rw[(aI:L.length-n/32=0),cH]at pA;exact Nat.lt_one_iff.1 pA
  rw[h0];exact oY (ae [.a (aI:0<(32:Int)),iL (n:Int),.y 5 5 false 99 1<|jt<|jj 0 0,.s (Sp.kj (abK L n) 0 0 aI (λx hx mr=>by
    omega)
  (λhx=>by
    exact jg (ae [tF 13 ((((n/32)+0:Nat):Int)<L.length) aI,.z 5]<|.e<|af [.o 5 (.e<|Am (nH _ _).symm:aj (.sl false 0 1<|jt<|jj 0 0)<|iG<|jj 0 0)]) aM) aQ:ki 3 f198 (abK L n 0) (.exit 0) ⟨36,false,[(5,.e<|iG<|jj 0 0)],[]⟩)<|af [.o 6<|ar ((n/32:Nat):Int) (((n/32)+0:Nat):Int) aZ],.cf<|ze (jj 0 0) (vN _ _) a7]<|rQ (iG<|iI<|jj 0 0) (iG<|iB 0)<|by rw[Eu aK])
def Vz(v l N:Nat)(x:Nat):PS:=⟨29,true,[(4,.e<|iP ((31-x:Nat):Int)),(3,.e<|iP l),(0,.e<|iG<|iB v)],[]⟩
def Nb(v:Nat)(x:Nat):PS:=⟨38,false,[(5,.own 5),(7,.e<|iP x),(6,.e<|.v<|.int .u32 (mR v 0 x:Int)),(0,.e<|iG<|iB v)],[(5,.row false 99 x 1<|jt<|jj (2*v) x)]⟩
def afy(v l N:Nat)(hl:(iB v).length=l+1)(hs:l<=1000000)(h0:((iB v).getD l 0)≠0)(hN:N=32-iE ((iB v).getD l 0))(Ig:iE ((iB v).getD l 0)<=32)(lu:1<=iE ((iB v).getD l 0))(hv:iE v=32*l+iE ((iB v).getD l 0)):iA 59 [iG<|iB v]<|iP<|iE v:=
 iM (ae [iL<|((iB v).length:Int)-1,.o 7<|ar (((iB v).length:Int)-1) l,.u 70,tT 9 (0<=(l:Int)) aI,.s (Sp.kj (Vz v l N) 0 N aI (λx hx mr=>by
    have hX:=(lO v).getD l;have hd:=cM ((iB v).getD l 0)<|2^(31-x);have hb:=Vw (t:=((iB v).getD l 0)) (x:=x) aI;exact jg (ae [tT 13 (0<=((31-x:Nat):Int)) aI,iX (l:Int)<|(iB v).length,.a (aI:0<=(((31-x:Nat):Int):Int)/\(((31-x:Nat):Int):Int)<=((32:Nat):Int)),.o 21 (.int<|tW _ _:aj (.v<|.int .u32<|(((iB v).getD l 0:Nat):Int)/2^(31-x))<|.v<|.int .u32 ((((iB v).getD l 0)/2^(31-x):Nat):Int)),.o 22 (.int<|yp _:aj (.v<|.int .u32<|bits .and .u32 ((((iB v).getD l 0)/2^(31-x):Nat):Int) 1)<|.v<|.int .u32 (((((iB v).getD l 0)/2^(31-x))%2:Nat):Int)),ai 23 ((((((iB v).getD l 0)/2^(31-x))%2:Nat):Int)==1)<|bk aI,iL<|((31-x:Nat):Int)-1]<|.e<|af [.o 4<|ar (((31-x:Nat):Int)-1) ((31-(x+1):Nat):Int)]) aM)
  (λhx=>by
    have hX:=(lO v).getD l;have hd:=cM ((iB v).getD l 0)<|2^(31-N);have hb:=Vy (t:=((iB v).getD l 0)) (x:=N) h0 hN Ig;exact jg (af [tT 13 (0<=((31-N:Nat):Int)) aI,iX (l:Int)<|(iB v).length,.a (aI:0<=(((31-N:Nat):Int):Int)/\(((31-N:Nat):Int):Int)<=((32:Nat):Int)),.o 21 (.int<|tW _ _:aj (.v<|.int .u32<|(((iB v).getD l 0:Nat):Int)/2^(31-N))<|.v<|.int .u32 ((((iB v).getD l 0)/2^(31-N):Nat):Int)),.o 22 (.int<|yp _:aj (.v<|.int .u32<|bits .and .u32 ((((iB v).getD l 0)/2^(31-N):Nat):Int) 1)<|.v<|.int .u32 (((((iB v).getD l 0)/2^(31-N))%2:Nat):Int)),ah 23 ((((((iB v).getD l 0)/2^(31-N))%2:Nat):Int)==1)<|bl aI,iL<|32*(l:Int),iL<|((32*l:Nat):Int)+((31-N:Nat):Int),
    iL ((((32*l)+(31-N):Nat):Int)+1)]) aM) aQ:ki 5 Tryz.f59 (Vz v l N 0) .ret ⟨29,true,[(2,.e<|iP ((((32*l)+(31-N))+1:Nat):Int))],[]⟩)<|af [.o 4<|ar 31 ((31-0:Nat):Int)]]<|rQ (iP ((((32*l)+(31-N))+1:Nat):Int)) (iP<|iE v)<|congrArg iP aI)
def afz : iA 59 [iG<|iB 0]<|iP 0:=by
 have z:(iB 0).length=0:=by rw[oP];rfl
 exact iM<|af [iL<|((iB 0).length:Int)-1,.u 70,tF 9 (0<=(((iB 0).length:Int)-1))<|by rw[oP];decide]
def KI(v:Nat)(h:(iB v).length<=1000000):iA 59 [iG<|iB v]<|iP<|iE v:=by
 rcases hl:(iB v).length with _|l
 .obtain rfl:=oO.1 hl;exact afz
 .obtain ⟨a,b⟩:=adC hl;have c:=afG hl;have d:=og a;rw[<-Bg]at a b c d;exact afy v l _ hl aI a rfl c d b
def KH(v i:Nat)(h:(iB v).length<=1000000)(hi:i<=1000000000):iA 60 [iG<|iB v,iP i]<|iP ((v/2^i%2:Nat):Int):=by
 have hX:=(lO v).getD<|i/32;have hd:=cM ((iB v).getD (i/32) 0)<|2^(i%32);exact iM (ae [tF 6 ((i:Int)<0) aI,iL<|32*((iB v).length:Int)]<|.w (((32*(iB v).length:Nat):Int)<=i)
  (λk1=>ae [tB 12<|bC k1]<|rQ (iP 0) (iP ((v/2^i%2:Nat):Int))<|congrArg (λx:Nat=>iP (x:Int)) (afu aI).symm)
  (λk1=>ae [tB 12<|bE k1,.a (aI:0<(32:Int)),iL (i:Int),iX ((i/32:Nat):Int)<|(iB v).length,.a (aI:0<(32:Int)),.a (aI:0<=(((i%32:Nat):Int):Int)/\(((i%32:Nat):Int):Int)<=((32:Nat):Int)),.o 21 (.int<|tW _ _:aj (.v<|.int .u32<|(((iB v).getD (i/32) 0:Nat):Int)/2^(i%32))<|.v<|.int .u32 ((((iB v).getD (i/32) 0)/2^(i%32):Nat):Int)),.o 22 (.int<|yp _:aj (.v<|.int .u32<|bits .and .u32 ((((iB v).getD (i/32) 0)/2^(i%32):Nat):Int) 1)<|.v<|.int .u32 (((((iB v).getD (i/32) 0)/2^(i%32))%2:Nat):Int)),.o 23<|ar (IntKind.i64.wrap (((((iB v).getD (i/32) 0)/2^(i%32))%2:Nat):Int)) (((((iB v).getD (i/32) 0)/2^(i%32))%2:Nat):Int)<|Bc _]<|rQ (iP (((((iB v).getD (i/32) 0)/2^(i%32))%2:Nat):Int)) (iP ((v/2^i%2:Nat):Int))<|by rw[Bg,OI]))
def ard(v:Nat)(h:(iB v).length<=1000000)(nD:(mR v 0 (iB v).length)=0):iA 61 [iG<|iB v,.v<|.int .u64 0]<|iG<|iB<|2*v:=
 oY (ae [.o 9 (.int aK:aj (.v<|.int .u32<|IntKind.u32.wrap 0)<|.v<|.int .u32 0),.y 5 5 false 99 1<|jt<|jj (2*v) 0,.s (Sp.kj (Nb v) 0 ((iB v).length) aI (λx hx mr=>by
    have he:=KV (r:=v) (b:=0) aK x;rw[ch,<-Bg v x]at he;have hc:=KU (r:=v) (b:=0) aK x;have hX:=(lO v).getD x;have hz:(((2*((iB v).getD x 0)%4294967296)+(mR v 0 x):Nat):Int)=(iV (2*v) x:Int):=by rw[he.1]
    have hq:((iB v).getD x 0)/2^31=mR v 0 (x+1):=by rw[he.2]
    exact jg (ae [tT 13 ((x:Int)<((iB v).length:Int)) aI,iX (x:Int)<|(iB v).length,.a (aI:0<=(1:Int)/\(1:Int)<=((32:Nat):Int)),.o 21 (.int<|S1 _:aj (.v<|.int .u32<|IntKind.u32.wrap<|(((iB v).getD x 0:Nat):Int)*2^1)<|.v<|.int .u32 ((2*((iB v).getD x 0)%4294967296:Nat):Int)),.o 23 (.int<|MC _ _ hc:aj (.v<|.int .u32<|bits .or .u32 ((2*((iB v).getD x 0)%4294967296:Nat):Int) (mR v 0 x:Int))<|.v<|.int .u32 (((2*((iB v).getD x 0)%4294967296)+(mR v 0 x):Nat):Int)),.a (aI:(x+1)*4<=140737488355328),iX (x:Int)<|(iB v).length,.a (aI:0<=(31:Int)/\(31:Int)<=((32:Nat):Int)),.o 30 (.int<|tW _ _:aj (.v<|.int .u32<|(((iB v).getD x 0:Nat):Int)/2^31)<|.v<|.int .u32 ((((iB v).getD x 0)/2^31:Nat):Int)),iL<|(x:Int)+1]<|.e<|af [.o 6<|.int (k:=.u32) (by rw[hq]:((((iB v).getD x 0)/2^31:Nat):Int)=(mR v 0<|x+1:Int)),.b 5 (Cj rfl hz:Bx.le (.row false 99 (x+1) 1 λi_ j_=>if i_<x then(jt<|jj (2*v) x) i_ j_ else(E.jV<|.sl false 1 1 λi_ j_=>[.v<|.int .u32 (((2*((iB v).getD x 0)%4294967296)+(mR v 0 x):Nat):Int)].getD (i_*1+j_)<|.v<|.bool false) (i_-x) j_)<|.row false 99 (x+1) 1<|jt<|jj (2*v)<|x+1)]) aM)
  (λhx=>by
    exact jg (af [tF 13 (((iB v).length:Int)<((iB v).length:Int)) aI]) aM) aQ:ki 4 Tryz.f61 (Nb v 0) (.exit 0) ⟨38,false,[(5,.own 5),(6,.e<|.v<|.int .u32 ((mR v 0 (iB v).length:Nat):Int))],[(5,.row false 99 ((iB v).length) 1<|jt<|jj (2*v)<|(iB v).length)]⟩)<|af [.o 6<|.int (k:=.u32) (by rw[Pc];rfl:0=(mR v 0 0:Int))],ai 32 (((mR v 0 (iB v).length:Nat):Int) != 0)<|D7 nD]<|rQ (.sl false ((iB v).length) 1<|jt<|jj (2*v)<|(iB v).length) (iG<|iB<|2*v)<|by rw[CL (nH _ _).symm,ahW nD])
def amA{N l c:Nat}{L:List Nat}(h1:jj N (l+1)=L)(h2:iV N l=c):E.le (.sl false (l+1) 1 λi_ j_=>if i_<l then jt (jj N l) i_ j_ else(E.jV<|.sl false 1 1 λi_ j_=>[.v<|.int .u32 (c:Int)].getD (i_*1+j_)<|.v<|.bool false) (i_-l) j_)<|iG L:=by
 subst h1 h2;rw[<-CL (nH N<|l+1).symm];refine .sl λi j hi hj=>?_
 obtain rfl:j=0:= aI ;by_cases h:i<l
 .simp only[h,bW];exact⟨.jm<|by unfold jt;rw[vJ h,vJ],rfl⟩
 .obtain rfl:i=l:= aI ;simp only[fN,bN,dD];exact⟨.jm<|by unfold jt;rw[vJ];rfl,rfl⟩
section
variable(v:Nat)(h:(iB v).length<=1000000)
def are(nD:(mR v 0 (iB v).length)≠0):iA 61 [iG<|iB v,.v<|.int .u64 0]<|iG<|iB<|2*v:=by
 obtain⟨h1,h2⟩:=ahX nD;exact oY (ae [.o 9 (.int aK:aj (.v<|.int .u32<|IntKind.u32.wrap 0)<|.v<|.int .u32 0),.y 5 5 false 99 1<|jt<|jj (2*v) 0,.s (Sp.kj (Nb v) 0 ((iB v).length) aI (λx hx mr=>by
    have he:=KV (r:=v) (b:=0) aK x;rw[ch,<-Bg v x]at he;have hc:=KU (r:=v) (b:=0) aK x;have hX:=(lO v).getD x;have hz:(((2*((iB v).getD x 0)%4294967296)+(mR v 0 x):Nat):Int)=(iV (2*v) x:Int):=by rw[he.1]
    have hq:((iB v).getD x 0)/2^31=mR v 0 (x+1):=by rw[he.2]
    exact jg (ae [tT 13 ((x:Int)<((iB v).length:Int)) aI,iX (x:Int)<|(iB v).length,.a (aI:0<=(1:Int)/\(1:Int)<=((32:Nat):Int)),.o 21 (.int<|S1 _:aj (.v<|.int .u32<|IntKind.u32.wrap<|(((iB v).getD x 0:Nat):Int)*2^1)<|.v<|.int .u32 ((2*((iB v).getD x 0)%4294967296:Nat):Int)),.o 23 (.int<|MC _ _ hc:aj (.v<|.int .u32<|bits .or .u32 ((2*((iB v).getD x 0)%4294967296:Nat):Int) (mR v 0 x:Int))<|.v<|.int .u32 (((2*((iB v).getD x 0)%4294967296)+(mR v 0 x):Nat):Int)),.a (aI:(x+1)*4<=140737488355328),iX (x:Int)<|(iB v).length,.a (aI:0<=(31:Int)/\(31:Int)<=((32:Nat):Int)),.o 30 (.int<|tW _ _:aj (.v<|.int .u32<|(((iB v).getD x 0:Nat):Int)/2^31)<|.v<|.int .u32 ((((iB v).getD x 0)/2^31:Nat):Int)),iL<|(x:Int)+1]<|.e<|af [.o 6<|.int (k:=.u32) (by rw[hq]:((((iB v).getD x 0)/2^31:Nat):Int)=(mR v 0<|x+1:Int)),.b 5 (Cj rfl hz:Bx.le (.row false 99 (x+1) 1 λi_ j_=>if i_<x then(jt<|jj (2*v) x) i_ j_ else(E.jV<|.sl false 1 1 λi_ j_=>[.v<|.int .u32 (((2*((iB v).getD x 0)%4294967296)+(mR v 0 x):Nat):Int)].getD (i_*1+j_)<|.v<|.bool false) (i_-x) j_)<|.row false 99 (x+1) 1<|jt<|jj (2*v)<|x+1)]) aM)
  (λhx=>by
    exact jg (af [tF 13 (((iB v).length:Int)<((iB v).length:Int)) aI]) aM) aQ:ki 4 Tryz.f61 (Nb v 0) (.exit 0) ⟨38,false,[(5,.own 5),(6,.e<|.v<|.int .u32 ((mR v 0 (iB v).length:Nat):Int))],[(5,.row false 99 ((iB v).length) 1<|jt<|jj (2*v)<|(iB v).length)]⟩)<|af [.o 6<|.int (k:=.u32) (by rw[Pc];rfl:0=(mR v 0 0:Int))],ah 32 (((mR v 0 (iB v).length:Nat):Int) != 0)<|Ji nD,.a (aI:((iB v).length+1)*4<=140737488355328)]<|rR (iG<|iB<|2*v) (amA h1 h2:E.le (.sl false ((iB v).length+1) 1 λi_ j_=>if i_<(iB v).length then(jt<|jj (2*v)<|(iB v).length) i_ j_ else(E.jV<|.sl false 1 1 λi_ j_=>[.v<|.int .u32 ((mR v 0 (iB v).length:Nat):Int)].getD (i_*1+j_)<|.v<|.bool false) (i_-(iB v).length) j_)<|iG<|iB<|2*v))
def acU:iA 61 [iG<|iB v,.v<|.int .u64 0]<|iG<|iB<|2*v:=by
 by_cases hc:(mR v 0 (iB v).length)=0
 .exact ard v h hc
 .exact are v h hc
end
def amD{L M:List Nat}{n z:Nat}(hn:n=0+L.length)(hs:L.set 0 z=M):E.le (.sl false n 1 λi' j'=>if i'=0/\0<=j'/\j'<0+1 then[.v<|.int .u32 (z:Int)].getD (j'-0) .any else(λi_ j_=>if i_<0 then(λi_ j_=>([]:List E).getD (i_*1+j_)<|.v<|.bool false) i_ j_ else(E.jV<|iG L) (i_-0) j_) i' j')<|iG M:=by
 subst hs;have e:n=(L.set 0 z).length:=by rw[di];omega
 rw[<-CL e];refine .sl λi j hi hj=>?_
 obtain rfl:j=0:= aI ;have kG:i<L.length:= aI ;by_cases h:i=0
 .subst h;simp only[true_and,bB,atT,bW,cJ];exact⟨.jm<|by show _=E.v (.int .u32 (((L.set 0 z).getD 0 0:Nat):Int));rw[bJ (l:=L.set 0 z),List.getElem?_set_self kG];rfl,rfl⟩
 .simp only[h,false_and,bN,bM,dT];exact⟨.jm<|by show E.v (.int .u32 (L.getD i 0:Int))=_;unfold jt;rw[bJ,bJ,ado λq=>h q.symm],rfl⟩
def aq8 : iA 62 [iG<|iB 0]<|iG<|iB<|0+1:=
 iM (af [ah 6 (((iB 0).length:Int)==0)<|by rw[oP];rfl,.o 7 (.e wL:aj (.sl false 1 1 λi_ j_=>[.v<|.int .u32 1].getD (i_*1+j_)<|.v<|.bool false)<|iG<|iB 1)])
def aq7(v:Nat)(hl:1<=(iB v).length)(hs:(iB v).length<=1000000)(he:v%2=0):iA 62 [iG<|iB v]<|iG<|iB<|v+1:=by
 have hX:=(lO v).getD 0;have qS:((iB v).getD 0 0)%2=0:=by rw[Bg];unfold iV;rw[cH,ew];omega
 have h0:v≠0:=λq=>by subst q;rw[oP]at hl;exact absurd hl aK 
 exact oY (ae [ai 6 (((iB v).length:Int)==0)<|bk aI,.bo,.a (aI:(0+(iB v).length)*4<=140737488355328),iX 0<|0+(iB v).length,.a (aI:0<(0+(iB v).length)),.o 15 (.int<|an0 _ hX qS:aj (.v<|.int .u32<|bits .or .u32 (((iB v).getD 0 0:Nat):Int) 1)<|.v<|.int .u32 ((((iB v).getD 0 0)+1:Nat):Int)),
  iX 0 (0+(iB v).length),.a (aI:0<(0+(iB v).length))]<|rR (iG<|iB<|v+1) (amD aI<|by rw[Bg];exact ara h0 he:E.le (.sl false (0+(iB v).length) 1 λi' j'=>if i'=0/\0<=j'/\j'<0+1 then[.v<|.int .u32 ((((iB v).getD 0 0)+1:Nat):Int)].getD (j'-0) .any else(λi_ j_=>if i_<0 then(λi_ j_=>([]:List E).getD (i_*1+j_)<|.v<|.bool false) i_ j_ else(E.jV<|iG<|iB v) (i_-0) j_) i' j')<|iG<|iB<|v+1))
def acT(v:Nat)(hs:(iB v).length<=1000000)(he:v%2=0):iA 62 [iG<|iB v]<|iG<|iB<|v+1:=by
 by_cases h:(iB v).length=0
 .obtain rfl:=oO.1 h;exact aq8
 .exact aq7 v aI hs he
def afx(v:Nat)(A:Option Addr)(c:Nat)(w:World)(hs:Sl w A c<|iB v)(hT:Tb w)(h:(iB v).length<=1000000):
 Calls prog 59 #[.slice A (iB v).length c] w (λe w'=>e = .returned (.int .i64 (iE v:Int))/\iY w w'):=by
 refine((KI v h).run w (λ_=>False) [_] hT (λ_ h=>h.elim)<|.cons (zn (λ_ h=>h.elim) (iY.refl w) hs)<|.nil _ _ _).mono ?_;rintro e w' ⟨x,rfl,hb,hr⟩;obtain rfl:=jd.lh hr;exact⟨rfl,hb⟩
def afp(v i:Nat)(A:Option Addr)(c:Nat)(w:World)(hs:Sl w A c<|iB v)(hT:Tb w)(h:(iB v).length<=1000000)(hi:i<=1000000000):
 Calls prog 60 #[.slice A (iB v).length c,.int .i64 (i:Int)] w (λe w'=>e = .returned (.int .i64 ((v/2^i%2:Nat):Int))/\iY w w'):=by
 refine((KH v i h hi).run w (λ_=>False) [_,_] hT (λ_ h=>h.elim)<|.cons (zn (λ_ h=>h.elim) (iY.refl w) hs)<|.cons (.v _)<|.nil _ _ _).mono ?_;rintro e w' ⟨x,rfl,hb,hr⟩;obtain rfl:=jd.lh hr;exact⟨rfl,hb⟩
def Ow.zO{w:World}{base:Nat}{v:Value}{L:List Nat}(h:Ow w base v L){g:Nat}(hg:g<base)(i:Nat)(u:Value):Ow (w.setCell ⟨g,i,none⟩ u) base v L:=
 ⟨ownsRow_setCell_below h.row hg u,h.ok⟩
def Ow.ext{w w':World}{base:Nat}{v:Value}{L:List Nat}(h:Ow w base v L)(hb:iY w w'):Ow w' base v L:=by
 refine⟨⟨h.row.1,?_⟩,h.ok⟩;rcases h.row.2 with q|⟨g,cap,cur,e1,e2,e3,r⟩
 .exact .inl q
 .exact .inr ⟨g,cap,cur,e1,e2,by rw[hb.block g (dN.1 e3).1];exact e3,r⟩
def Ow.mono{w:World}{base base':Nat}{v:Value}{L:List Nat}(h:Ow w base v L)(hb:base'<=base):Ow w base' v L:=by
 refine⟨⟨h.row.1,?_⟩,h.ok⟩;rcases h.row.2 with q|⟨g,cap,cur,e1,e2,r⟩
 .exact .inl q
 .exact .inr ⟨g,cap,cur,e1,b9 hb e2,r⟩
def jO.acS{w:World}{g n c:Nat}{s:Bool}{A:Option Addr}{e:Int}(h:jO w g s A n c e)(A':Option Addr)(n' c':Nat):jO (w.setCell ⟨g,1,none⟩<|.slice A' n' c') g s A' n' c' e:=heap_setCell_same w g 1 _ _ (.slice A' n' c') h
def jO.grown{w w':World}{g n c base:Nat}{s:Bool}{A:Option Addr}{e:Int}{v:Value}{L:List Nat}(h:jO w g s A n c e)(ho:Ow w base v L)(hg:w.grownBy w' v.ownBlock)(hb:g<base):jO w' g s A n c e:=
 (hg.block g h.lt (λq=>by have:=(ho.row.lt g q.symm).1;omega)).trans h
def amP(v:Nat)(e:Int)(A:Option Addr)(c:Nat)(w:World)(h0:v≠0)(hs:Sl w A c<|iB v)(hT:Tb w)(hl:(iB v).length<=1000)(lG:-100000<=e)(kW:e<=100000):
 Calls prog 23 #[.bool false,.slice A (iB v).length c,.int .i64 e] w (vv w<|canon false v e):=by
 have nD:=aum (show canon false v e=⟨false,v/2^kq v,e+kq v⟩by unfold canon;rw[bw h0]);have hZ:=Wq h0;have hB:iE v<=32*1000:=by
  have:=wF<|bB (iB v).length;rw[oz]at this;have:=lE.2 this;omega
 have qp:(((iE v:Int)==0))=false:=bk aI;have xT:=aum λA c w (hs:Sl w A c<|iB v) hT=>afx v A c w hs hT aI;have qF:=aum λi A c w (hs:Sl w A c<|iB v) hT hi=>afp v i A c w hs hT aI hi;obtain⟨m,hm⟩:∃ m,m=(iB v).length:=⟨_,rfl⟩
 rw[<-hm]at xT qF ⊢;have HM:=aum hm;clear hm;obtain⟨n,hn⟩:∃ n,n=iE v:=⟨_,rfl⟩
 rw[<-hn]at xT hZ hB qp;have HN:=aum hn;clear hn;obtain⟨Z,Ds⟩:∃ Z,Z=kq v:=⟨_,rfl⟩
 rw[<-Ds]at hZ nD;have HZ:=aum Ds;clear Ds;go_enter func23,ntmps23;go_wp2_with fail;refine(xT.out A c _ (hs.alloc _)<|hT.alloc _).mono ?_;rintro e' w1 ⟨rfl,lu⟩;go_wp2;have sQ:∀ k,k<Z->v/2^k%2=0:=λk hk=>by rw[HZ.out]at hk;exact OH h0 hk
 have rU:v/2^Z%2=1:=by rw[HZ.out];exact OG h0
 have HZ1:=aum sQ;clear sQ;have HZ2:=aum rU;clear rU;have sO:=hs.below<|(iY.alloc w _).trans lu;have Qc:=hT.below<|(iY.alloc w _).trans lu;have B9:=(iY.alloc w _).trans lu;go_loopw [8] (λi wr=>∃ k:Nat,k<=Z/\i = .int .i64 (k:Int)/\iY w1 wr) (λi _=>Z-(intOf i).toNat)
 case atStart=>exact⟨0,cA _,rfl,iY.refl _⟩
 case round=>
  obtain⟨k,hk,rfl,mq⟩:=hrel;have kZ:=sO.below mq;have we:=Qc.below mq;have xY:=B9.trans mq;go_wp2_with fail;refine(qF.out k A c _ kZ we aI).mono ?_;rintro e'' w3 ⟨rfl,ph⟩;by_cases QK:k<Z
  .rw [HZ1.out k QK];have yX:IntKind.i64.wrap ((k:Int)+1)=((k+1:Nat):Int):=by rw[IntKind.wrap_i64];omega
   go_wp2;go_roundw
   case rel=>exact⟨k+1,aI,by go_num,mq.trans ph⟩
   case measure=>simp[intOf];omega
  .obtain rfl:k=Z:= aI ;rw[HZ2.out];have L6:=xY.trans ph;have DN:=kZ.below ph;have hT3:=we.below ph;have IJ:IntKind.i64.wrap (e+(k:Int))=e+(k:Int):=by rw[IntKind.wrap_i64];omega
   go_wp2;have AK:=jO.new w3 false none 0 0<|e+(k:Int);have IL:=lu.trans<|mq.trans ph;have hg:=IL.size;have IK:=IL.trans<|iY.alloc w3<|.cells #[.bool false,.slice none 0 0,.int .i64<|e+(k:Int)] 31;obtain⟨g9,Io⟩:∃ g,g=w3.heap.size:=⟨_,rfl⟩
   rw[<-Io]at AK hg ⊢;generalize w3.alloc (.cells #[.bool false,.slice none 0 0,.int .i64<|e+(k:Int)] 31)=w5 at *
   clear Io;have vh:=hs.alloc<|.cells #[.bool false,.slice none 0 0,.int .i64 0] 31;have Qf:=hT.alloc<|.cells #[.bool false,.slice none 0 0,.int .i64 0] 31;have ON:=jO.new w false none 0 0 0;generalize hW:w.alloc (.cells #[.bool false,.slice none 0 0,.int .i64 0] 31)=W at *
   have Rc:iY w W:=hW▸iY.alloc w _;have Dt:g9<w5.heap.size:=AK.lt;obtain⟨V,hV⟩:∃ V,V=v/2^k:=⟨_,rfl⟩
   have HV:=aum hV;rw[<-hV]at nD;have hVb:iE V+k=n:=by rw[hV,OK<|by rw[<-HN.out];omega,<-HN.out];omega
   have Ii:∀ i,i<1000000->v/2^(k+i)%2=V/2^i%2:=λi _=>by rw[hV,dc,<-bG]
   have HBV:=aum Ii;clear Ii hV;have Ie:∀ y,y<(iB V).length↔32*y<iE V:=λy=>FK
   have HYB:=aum Ie;clear Ie;obtain⟨Y,hY⟩:∃ Y,Y=(iB V).length:=⟨_,rfl⟩
   rw[<-hY]at HYB;have HY:=aum hY;clear hY;obtain⟨E9,Hz⟩:∃ E9,E9=e+(k:Int):=⟨_,rfl⟩
   rw[<-Hz]at nD AK;clear Hz;go_loopw [10] (λi wr=>∃ (y:Nat) (O:List Nat) (OA:Option Addr) (Oc:Nat),y<=Y/\i = .int .i64 ((k+32*y:Nat):Int)/\O=(iB V).take y/\Ow wr w5.heap.size (.slice OA O.length Oc) O/\jO wr g9 false OA O.length Oc E9/\iY W wr/\w5.heap.size<=wr.heap.size) (λi _=>k+32*Y-(intOf i).toNat)
   case atStart=>exact⟨0,[],none,0,cA _,by go_num,aP,Ow.nil _ _,AK,IK,bB _⟩
   case round=>
    obtain⟨y,O,OA,Oc,hy,rfl,hO,lX,jz,wB,lJ⟩:=hrel;have Q6:=vh.below wB;have Ff:=Qf.below wB;obtain⟨I,hI⟩:∃ I,I=k+32*y:=⟨_,rfl⟩
    rw[<-hI];by_cases je:y<Y
    .have h1:=(HYB.out y).1 je;have ht:decide ((I:Int)<n)=true:=bC aI;have xW:I<n:= aI ;have FC:decide (I<n)=true:=bC xW;have hIb:I<=40000:= aI ;have hD:iV V y<4294967296:=qB V y;have Ih:∀ j,j<32->v/2^(I+j)%2=iV V y/2^j%2:=λj hj=>by
      rw[hI,dm,HBV.out _ aI,Pd hj]
     have HBD:=aum Ih;clear Ih;have HI:=aum hI;clear hI;go_wp2;go_loopw [11,12] (λx q wj=>∃ j:Nat,j<=32/\x = .int .u32 ((iV V y%2^j:Nat):Int)/\q = .int .i64 (j:Int)/\iY wr wj) (λ_ q _=>32-(intOf q).toNat)
     case atStart=>exact⟨0,cA _,by simp[dz],rfl,iY.refl _⟩
     case round=>
      obtain⟨j,hj,rfl,rfl,qG⟩:=hrel;by_cases BX:j<32
      .have A9:decide ((j:Int)<32)=true:=bC aI ;have yX:IntKind.i64.wrap ((I:Int)+j)=((I+j:Nat):Int):=by rw[IntKind.wrap_i64];omega
       go_wp2_with fail;refine(qF.out (I+j) A c _ (Q6.below qG) (Ff.below qG) aI).mono ?_;rintro e3 w6 ⟨rfl,Qu⟩;rw[HBD.out j BX];have Qs:iV V y/2^j%2<=1:= aI ;have ho:=MD BX hD;generalize iV V y/2^j%2=b at *
       have DG:bits .or .u32 ((iV V y:Int)%2^j) ((b:Int)*2^j)=((iV V y%2^(j+1):Nat):Int):=by rw[<-ho];congr 1<;>simp
       have HO:=aum DG;clear ho DG;have hcv:IntKind.u32.wrap (b:Int)=b:=by rw[IntKind.wrap_u32];omega
       have B7:=Nc BX Qs;have hw4:IntKind.i64.wrap ((j:Int)+1)=((j+1:Nat):Int):=by rw[IntKind.wrap_i64];omega
       go_wp2;go_roundw
       case rel=>exact⟨j+1,aI,congrArg (Value.int .u32) HO.out,by go_num,qG.trans Qu⟩
       case measure=>simp[intOf];omega
      .obtain rfl:j=32:= aI ;have Ij:iV V y%2^32=iV V y:=cw (by simpa using hD);rw[Ij];have Du:=jz.ext qG;have DI:=lX.ext qG;have b1:=Du.c1;have f1:=Du.fr 1;have H9:O++[iV V y]=(iB V).take (y+1):=by
        have yV:y<(iB V).length:=by rw[<-HY.out];exact je
        have:=Bg V y;rw[bJ,bS yV]at this;rw[iw,bS yV,hO,<-this];rfl
       have HON:=aum H9;clear H9;clear hO HBD Ij;generalize iV V y=z at *
       have hO4:O.length<=3000:=by
        have:=HON.out▸(show(O++[z]).length=O.length+1 by simp);rw[cS]at this;omega
       have Q7:O.length+[z].length<=10000000000:= aV ;have QO:w5.heap.size<=wr.heap.size:=b9 lJ qG.size;have FG:=wB.trans qG;have hw5:IntKind.i64.wrap ((I:Int)+32)=((I+32:Nat):Int):=by rw[IntKind.wrap_i64];omega
       have Qj:W.heap.size<=w5.heap.size:=IK.size;go_wp2_with (at_builtin;go_must (refine si aO _ _ aO w5.heap.size _ O aO (DI.alloc _) _ _ _ [z] aO aO (Sl.uy _ _ z aI aI) Q7 (qW QO _) ?_);intro v' w7 Iz Dw akS;obtain⟨OA7,Oc7,rfl,alw⟩:=Iz.sl;have Da:=(Du.alloc _).grown (DI.alloc _) Dw Dt;have b7:=Da.c1;have f7:=Da.fr 1)
       go_roundw
       case rel=>
        refine⟨y+1,O++[z],OA7,Oc7,aI,congrArg (Value.int .i64)<|by have:=HI.out;omega,HON.out,Iz.zO Dt 1 _,(by rw[c9];exact Da.acS _ _ _),((FG.trans<|iY.alloc _ _).own _ _ ((DI.alloc _).mono Qj) Dw).setCell hg _,?_⟩;have:=Dw.size;simp[World.setCell]at this ⊢;omega
       case measure=>have:=HI.out;simp[intOf];omega
    .have hyY:y=Y:= aI ;have xW:¬I<n:=by
      intro q;have:=(HYB.out y).2 aI;omega
     have ht:decide ((I:Int)<n)=false:=bE aI;have FC:decide (I<n)=false:=bE xW;have P8:O=iB V:=by rw[hO,dg<|by rw[<-HY.out];omega]
     obtain⟨OA',Oc',heq,vc⟩:=lX.sl;cases heq;have b0:=jz.c0;have b1:=jz.c1;have b2:=jz.c2;have tG:=ON.ext wB;have c0:=tG.c0;have c1:=tG.c1;have c2:=tG.c2;have f0:=tG.fr 0;have f1:=tG.fr 1;have f2:=tG.fr 2;clear hI hO HYB;go_wp2;rw[nD.out];subst P8;exact uc rfl rfl rfl (tG.set _ _ _ _ _) rfl (tG.uE vc _ _ _ _ _) (jO.tV (Rc.trans wB) (bB _) _ _ _ _ _)
def aag(v:Nat)(e:Int)(h0:v≠0)(hl:(iB v).length<=1000)(lG:-100000<=e)(kW:e<=100000):iA 23 [bP false,iG<|iB v,iP e]<|iF<|canon false v e:=by
 refine⟨call23,λw B vs hK hB hr=>?_⟩;obtain⟨v1,vs,rfl,h1,hr⟩:=hr.nc;obtain⟨v2,vs,rfl,h2,hr⟩:=hr.nc;obtain⟨v3,vs,rfl,h3,hr⟩:=hr.nc;obtain rfl:=hr.rz;obtain rfl:=jd.lh h1;obtain rfl:=jd.lh h3;obtain⟨A,c,rfl,s1⟩:=xy (lO v) h2;exact(amP v e A c w h0 s1 hK hl lG kW).mono λe w' h=>rd B w e w' hB h
section
variable(n d y:Nat)
def jZ:Nat:=n*2^y/d
def mj:Nat:=n*2^y%d
def Pn:n*2^(y+1)=d*(2*jZ n d y)+2*mj n d y:=by
 have:=cN (n*2^y) d;unfold jZ mj;rw[bV,<-bO,dF];omega
end
def aiB{n d y:Nat}(hd:0<d)(h:2*mj n d y<d):mj n d (y+1)=2*mj n d y/\jZ n d (y+1)=2*jZ n d y:=by
 constructor
 .conv=>lhs;unfold mj
  rw[Pn n d y,eD,cw h]
 .conv=>lhs;unfold jZ
  rw[Pn n d y,ef hd,cI h,ch]
def aiC{n d y:Nat}(hd:0<d)(h:¬2*mj n d y<d):mj n d (y+1)=2*mj n d y-d/\jZ n d (y+1)=2*jZ n d y+1:=by
 have hr:mj n d y<d:=bQ _ hd;have e:n*2^(y+1)=d*(2*jZ n d y+1)+(2*mj n d y-d):=by
  rw[Pn n d y,ct,cG];omega
 constructor
 .conv=>lhs;unfold mj
  rw[e,eD,cw aI]
 .conv=>lhs;unfold jZ
  rw[e,ef hd,cI aI,ch]
def K5{n d:Nat}(hn:1<=n)(hd:1<=d)(ug:d<=1073741824)(p:Nat):∃ K,K<p+31/\(∀ y,y<K->iE (jZ n d y)<p)/\p<=iE (jZ n d K):=by
 have hx:p<=iE (jZ n d<|p+30):=by
  refine dU<|xr.2 ?_;unfold jZ;rw[dO hd,bG];have h1:2^p*d<=2^p*2^30:=cT _ aI;have h2:=cC (2^p*2^30) hn;rw[cj]at h2;exact b9 h1 h2
 obtain⟨K,h1,h2,h3⟩:=ur (n:=p+31) (p:=λy=>decide (p<=iE (jZ n d y))) ⟨p+30,aI,bC hx⟩;exact⟨K,h1,λy hy=>by have:=gU<|h3 y hy;omega,dK h2⟩
def qc(r m x:Nat):Bool:=decide (r=0)&&decide (m%2^x=0)
def EY{r m x:Nat}:qc r m x=true↔r=0/\m%2^x=0:=by
 unfold qc;rw[cr,dn,dn]
def aiy(r m:Nat):((r:Int)==0)=qc r m 0:=by
 rw[fM,EY,cH,dz,atp];omega
section
variable{r m x:Nat}
def aiw(h:qc r m x=false):qc r m (x+1)=false:=by
 refine bn λq=>?_
 rw[EY]at q;have h2:=Mj m x;have h3:m%2^x=0:= aI ;rw[EY.2 ⟨q.1,h3⟩]at h;cases h
def aix(h:qc r m x=true)(hb:m/2^x%2=0):qc r m (x+1)=true:=by
 rw[EY]at h ⊢;refine⟨h.1,?_⟩;rw[Mj,hb,h.2,de]
def aiv(hb:¬m/2^x%2=0):qc r m (x+1)=false:=by
 refine bn λq=>?_
 rw[EY]at q;have h2:=Mj m x;have h3:m/2^x%2*2^x=0:= aI ;rcases atX.1 h3 with k|k
 .exact hb k
 .exact absurd k<|eO<|bL aK
end
section
variable(n d p K:Nat)
def mo:Nat:=iE (jZ n d K)-p
def kr:Nat:=jZ n d K/2^mo n d p K
def oK:Int:=(0-(K:Int))+(mo n d p K:Int)
end
def acK{x y c:Rat}(hc:0<c):x<=y↔x*c<=y*c:=
 ⟨λh=>bK h<|bF hc,λh=>dG h hc⟩
section
variable {a n d l K:Nat}
def abp(hd:1<=d):0<(d:Rat)*P2 (K:Int)/\(n:Rat)/(d:Rat)*((d:Rat)*P2 (K:Int))=((n*2^K:Nat):Rat):=by
 have h0:(0:Rat)<(d:Rat):=dQ.2 aI;refine⟨cR h0<|nb _,?_⟩;rw[<-dP,cV aS,vu,<-cQ]
def aa1:(a:Rat)*P2 ((0-(K:Int))+(l:Int))*((d:Rat)*P2 (K:Int))=((a*2^l*d:Nat):Rat):=by
 have e:P2 ((0-(K:Int))+(l:Int))*P2 (K:Int)=((2^l:Nat):Rat):=by
  rw[<-qZ,(aI:0-(K:Int)+l+K=(l:Int)),vu]
 rw[cQ,cQ,<-e]
 grind
def RX(hd:1<=d):(a:Rat)*P2 ((0-(K:Int))+(l:Int))<=(n:Rat)/(d:Rat)↔a*2^l*d<=n*2^K:=by
 obtain⟨h1,h2⟩:=abp (n:=n) (K:=K) hd;rw[acK h1,h2,aa1,cX]
def Ss(hd:1<=d):(n:Rat)/(d:Rat)<=(a:Rat)*P2 ((0-(K:Int))+(l:Int))↔n*2^K<=a*2^l*d:=by
 obtain⟨h1,h2⟩:=abp (n:=n) (K:=K) hd;rw[acK h1,h2,aa1,cX]
end
section
variable {n d p K:Nat}
def K4(hb:p<=iE (jZ n d K)):iE (kr n d p K)=p:=by
 unfold kr mo;rw[OK aI];omega
def Po(hd:1<=d)(kX:n<=1073741824)(hb:p<=iE (jZ n d K))(hp:1<=p):mo n d p K<=31+K:=by
 unfold mo;have h1:jZ n d K<=n*2^K:=cM _ _;have h2:n*2^K<2^(31+K):=by
  rw[bG];exact dJ aI<|bL aK
 have:=lE.2<|dh h1 h2;omega
def WY(hd:1<=d):kr n d p K*2^mo n d p K*d<=n*2^K/\n*2^K<(kr n d p K+1)*2^mo n d p K*d/\(qc (mj n d K) (jZ n d K) (mo n d p K)=true↔n*2^K=kr n d p K*2^mo n d p K*d):=by
 have h1:=cN (n*2^K) d;have h2:=bQ (n*2^K) (aI:0<d);change d*jZ n d K+mj n d K=n*2^K at h1;change mj n d K<d at h2;have h3:=cN (jZ n d K)<|2^mo n d p K;have h4:=bQ (jZ n d K) (bL (n:=mo n d p K)<|show 0<2 by decide);change 2^mo n d p K*kr n d p K+jZ n d K%2^mo n d p K=jZ n d K at h3;rw[EY,<-h1];generalize jZ n d K=M at *
 generalize mj n d K=R at *
 generalize kr n d p K=T at *
 generalize 2^mo n d p K=q at *
 generalize M%q=s at *
 subst h3;have e1:T*q*d=d*(q*T):=by rw[bR,bR T]
 have e2:(T+1)*q*d=d*(q*T)+d*q:=by rw[ca,cj,ca,e1,bR q d]
 have e3:d*(q*T+s)=d*(q*T)+d*s:=ct _ _ _;have e4:d*s+d<=d*q:=by
  have:=cT d h4;rw[Nat.succ_eq_add_one,ct,cG]at this;exact this
 rw[e1,e2,e3];refine⟨aI,aI,?_⟩;constructor
 .rintro ⟨rfl,rfl⟩;simp
 .intro h;have e5:d*s=0:= aI ;refine⟨aI,?_⟩;rcases atX.1 e5 with k|k
  .omega
  .exact k
variable (hn:1<=n) (kX:n<=1073741824) (hd:1<=d) (hp:8<=p) (iJ:p<=512) (hK:K<p+31) (hb:p<=iE (jZ n d K))
include kX hd hp iJ hK hb
def Xp:Dn p ((n:Rat)/(d:Rat)) (canon false (kr n d p K)<|oK n d p K) 0:=by
 have hl:=Po hd kX hb aI;obtain⟨b1,b2,_⟩:=WY (n:=n) (d:=d) (p:=p) (K:=K) hd;refine anH (K4 hb) aI bc bc ((RX hd).2 b1) ?_;apply gR.1;intro q;have:=(RX hd).1 q;omega
def Xq:Up p ((n:Rat)/(d:Rat)) (if qc (mj n d K) (jZ n d K) (mo n d p K)=true then canon false (kr n d p K) (oK n d p K)else canon false (kr n d p K+1) (oK n d p K)) 0:=by
 have hl:=Po hd kX hb aI;obtain⟨b1,b2,b3⟩:=WY (n:=n) (d:=d) (p:=p) (K:=K) hd;split
 .rename_i h;have h:=b3.1 h;exact ajh (K4 hb) bc bc<|fw ((Ss hd).2 aI)<|(RX hd).2 aI
 .rename_i h;have h:¬n*2^K=kr n d p K*2^mo n d p K*d:=λq=>h (b3.2 q)
  refine anJ (K4 hb) aI bc bc ?_ ((Ss hd).2 aI);apply gR.1;intro q;have:=(Ss hd).1 q;omega
end
section
variable{p:Nat}{v:Rat}{D:Dy}{E:Int}
def asA(h:Up p v D E):Dn p (-v) (jl D) E:=
 ⟨λhe=>⟨by rw[oX];exact(h.1 he).1.neg,by rw[oX];have:=(h.1 he).2;grind⟩,λg hg QH=>by
  obtain⟨a,b⟩:=h.2 (-g) hg.neg aS;exact⟨a,by rw[oX];grind⟩⟩
def aic(h:Dn p v D E):Up p (-v) (jl D) E:=
 ⟨λhe=>⟨by rw[oX];exact(h.1 he).1.neg,by rw[oX];have:=(h.1 he).2;grind⟩,λg hg QH=>by
  obtain⟨a,b⟩:=h.2 (-g) hg.neg aS;exact⟨a,by rw[oX];grind⟩⟩
end
def SO{n d:Int}{p:Nat}(hp:8<=p)(iJ:p<=512)(hr:jG n d=true){lo hi:Dy}(h1:Dn p ((n:Rat)/(d:Rat)) lo 0)(h2:Up p ((n:Rat)/(d:Rat)) hi 0)(c1:lo.mX)(c2:hi.mX):kH n d p=⟨lo,hi,false⟩:=by
 obtain⟨r1,_⟩:=sW hr;have d0:(kV d).m≠0:=IS aI;obtain⟨A,B⟩:=Hl (a:=kV n) (b:=kV d) d0 (p:=p) aI aI;rw[uA,uA]at A B;obtain⟨e1,e2⟩:=aid h1 A c1 (KZ d0 aI aI _).canon;obtain⟨e3,e4⟩:=asB h2 B c2 (KZ d0 aI aI _).canon;unfold kH;rw[bA hr,e1,e2,e3,e4];rfl
def acA{d:Int}{p:Nat}(hp:8<=p)(iJ:p<=512)(hr:jG 0 d=true):kH 0 d p=⟨jK,jK,false⟩:=by
 have hz:((0:Int):Rat)/(d:Rat)=0:=by rw[cB,show((0:Int):Rat)=0 from rfl,fu]
 refine SO hp iJ hr ?_ ?_ ri.canon ri.canon
 .rw [hz];exact⟨λ_=>⟨by rw[r7];exact .inl<|yu p,by rw[r7];exact bH⟩,λg _ h=>⟨rfl,by rw[r7];exact h⟩⟩
 .rw [hz];exact⟨λ_=>⟨by rw[r7];exact .inl<|yu p,by rw[r7];exact bH⟩,λg _ h=>⟨rfl,by rw[r7];exact h⟩⟩
section
variable {n d p K:Nat}
section
variable(kX:n<=1073741824)(hd:1<=d)(hp:8<=p)(iJ:p<=512)(hK:K<p+31)(hb:p<=iE (jZ n d K))
def acz(hr:jG (n:Int) (d:Int)=true):
 kH (n:Int) (d:Int) p=⟨canon false (kr n d p K)<|oK n d p K,if qc (mj n d K) (jZ n d K) (mo n d p K)=true then canon false (kr n d p K) (oK n d p K)else canon false (kr n d p K+1) (oK n d p K),false⟩:=by
 refine SO hp iJ hr (Xp kX hd hp iJ hK hb) (Xq kX hd hp iJ hK hb) (sG _ _ _) ?_;split<;>exact sG _ _ _
def acy(hr:jG (-(n:Int)) (d:Int)=true):
 kH (-(n:Int)) (d:Int) p=⟨jl<|if qc (mj n d K) (jZ n d K) (mo n d p K)=true then canon false (kr n d p K) (oK n d p K)else canon false (kr n d p K+1) (oK n d p K),jl<|canon false (kr n d p K)<|oK n d p K,false⟩:=by
 have e:((-(n:Int):Int):Rat)/((d:Int):Rat) = -((n:Rat)/(d:Rat)):=by
  rw[dY,cB,cB,atu];rfl
 refine SO hp iJ hr ?_ ?_ (FN ?_) (FN<|sG _ _ _)
 .rw [e];exact asA<|Xq kX hd hp iJ hK hb
 .rw [e];exact aic<|Xp kX hd hp iJ hK hb
 .split<;>exact sG _ _ _
end
end
def XZ(a b:Nat)(x:Nat):PS:=⟨12,true,[(0,.e<|.v<|.int .u64 (((mY a b x).1:Nat):Int)),(1,.e<|.v<|.int .u64 (((mY a b x).2:Nat):Int))],[]⟩
def ajQ(a b N:Nat)(ha:a<18446744073709551616)(hb:b<18446744073709551616)(jA:∀ k,k<N->(mY a b k).2≠0)(hN:(mY a b N).2=0):iA 211 [.v<|.int .u64 (a:Int),.v<|.int .u64 (b:Int)]<|.v<|.int .u64 (((mY a b N).1:Nat):Int):=
 iM (af [.s (Sp.kj (XZ a b) 0 N aI (λx hx mr=>by
    have qi:=jA x aI;exact jg (ae [ah 6 ((((mY a b x).2:Nat):Int) != 0)<|Ji<|jA x aI,.a (aI:0<((((mY a b x).2:Nat):Int):Int))]<|.e<|af [.o 0<|.int (k:=.u64) (by first|rfl|omega|(simp only[ca,cj];omega):(((mY a b x).2:Nat):Int)=(((mY a b<|x+1).1:Nat):Int)),.o 1<|.int (k:=.u64) (by first|rfl|omega|(simp only[ca,cj];omega):((((mY a b x).1)%((mY a b x).2):Nat):Int)=(((mY a b<|x+1).2:Nat):Int))]) aM)
  (λhx=>by
    exact jg (af [ai 6 ((((mY a b N).2:Nat):Int) != 0)<|D7 hN]) aM) aQ:ki 1 f211 (XZ a b 0) (.exit 0) ⟨12,true,[(0,.e<|.v<|.int .u64 (((mY a b N).1:Nat):Int))],[]⟩)<|af [.o 0<|.int (k:=.u64) (by first|rfl|omega|(simp only[ca,cj];omega):(a:Int)=(((mY a b 0).1:Nat):Int)),.o 1<|.int (k:=.u64) (by first|rfl|omega|(simp only[ca,cj];omega):(b:Int)=(((mY a b 0).2:Nat):Int))]])
def ajR(a b:Nat)(ha:a<18446744073709551616)(hb:b<18446744073709551616):iA 211 [.v<|.int .u64 (a:Int),.v<|.int .u64 (b:Int)]<|.v<|.int .u64 (Nat.gcd a b:Int):=by
 obtain⟨N,h1,h2⟩:=Xs b a;have hg:=Ps a b N;rw[h2,Nat.gcd_zero_right]at hg;rw[<-hg];exact ajQ a b N ha hb h1 h2
def arz(m:Nat)(h:m<=1073741824):iA 212 [iP m]<|.v<|.int .u64 (m:Int):=
 iM (af [tF 4 ((m:Int)<0) aI,.o 9 (.int<|px _:aj (.v<|.int .u64<|IntKind.u64.wrap (m:Int))<|.v<|.int .u64 (m:Int))])
def ary(m:Nat)(h0:0<m)(h:m<=1073741824):iA 212 [iP (-(m:Int))]<|.v<|.int .u64 (m:Int):=
 iM (af [tT 4 ((-(m:Int))<0) aI,iL<|0-(-(m:Int)),.o 6<|ar (0-(-(m:Int))) m,.o 7 (.int<|px _:aj (.v<|.int .u64<|IntKind.u64.wrap (m:Int))<|.v<|.int .u64 (m:Int))])
def ac6(n:Int)(h1:-1073741824<=n)(h2:n<=1073741824):iA 212 [iP n]<|.v<|.int .u64 (n.natAbs:Int):=by
 by_cases h:0<=n
 .obtain ⟨m,rfl⟩:=eh h;exact arz m aI 
 .obtain ⟨m,rfl⟩:∃ m:Nat,n = -(m:Int):=⟨n.natAbs,aI⟩
  rw[gp,eo];exact ary m aI aI 
def Ad(g:Nat):((g:Int)==1)=decide (g=1):=by
 by_cases h:g=1
 .subst h;rfl
 .rw [bE h];exact bk aI 
def Sx(n d:Int):iA 173 [.agg [iP n,iP d]]<|bP<|jG n d:=
 iM (.w (1<=d)
  (λk1=>ae [tB 5<|bC k1]<|.w (d<=1073741824)
   (λk2=>ae [tB 9<|bC k2]<|.w ((-1073741824)<=n)
    (λk3=>ae [tB 14<|bC k3]<|.w (n<=1073741824)
     (λk4=>ae [tB 19<|bC k4,ag [iP n]<|ac6 _ aI aI,ag [iP d]<|ac6 _ aI aI,ag [.v<|.int .u64 (Int.natAbs n:Int),.v<|.int .u64 (Int.natAbs d:Int)]<|ajR _ _ aI aI]<|rQ (bP<|(Nat.gcd (Int.natAbs n)<|Int.natAbs d:Int)==1) (bP<|jG n d)<|by unfold jG;simp[Ad,k1,k2,k3,k4])
     (λk4=>ae [tB 19<|bE k4]<|rQ (bP false) (bP<|jG n d)<|by unfold jG;simp[Ad,k1,k2,k3,k4]))
    (λk3=>ae [tB 14<|bE k3]<|rQ (bP false) (bP<|jG n d)<|by unfold jG;simp[Ad,k1,k2,k3]))
   (λk2=>ae [tB 9<|bE k2]<|rQ (bP false) (bP<|jG n d)<|by unfold jG;simp[Ad,k1,k2]))
  (λk1=>ae [tB 5<|bE k1]<|rQ (bP false) (bP<|jG n d)<|by unfold jG;simp[Ad,k1]))
def aaj{lo hi:Dy}{e f:Int}(h:e≠0\/f≠0):ns lo e hi f=iH:=bA h
def amQ{lo hi:Dy}{e f:Int}(h:e=0)(k:f=0):ns lo e hi f=⟨lo,hi,false⟩:=bw<|by rw[h,k];decide
def apN(n d:Int)(p:Nat)(h:jG n d=true)(iU:8<=p)(iJ:p<=512):iA 249 [.agg [iP n,iP d],iP p]<|iC<|kH n d p:=by
 obtain⟨r1,r2,r3,r4⟩:=sW h;have v1:=IT (n:=n) aI;have v2:=IT (n:=d) aI;have d0:(kV d).m≠0:=IS aI;exact iM (ae [ag [.agg [iP n,iP d]]<|Sx _ _,ai 11 (!(jG n d))<|by rw[h];rfl,.c<|GU n,.c<|GU d,.c<|ab7 (kV n) (kV d) p aJ aJ aJ aI aI,.c<|GU n,.c<|GU d,.c<|ab8 (kV n) (kV d) p aJ aJ aJ aI aI]<|.w ((nZ (kV n) (kV d) p false)=0)
  (λk1=>ae [tB 36<|bt k1]<|.w ((nZ (kV n) (kV d) p true)=0)
   (λk2=>ae [tB 39<|bt k2]<|rQ (iC<|Iv.mk (lj (kV n) (kV d) p false) (lj (kV n) (kV d) p true) false) (iC<|kH n d p)<|by unfold kH;rw[bA h,amQ k1 k2])
   (λk2=>ae [tB 39<|bu k2,.o 41 (.e J0:aj (.agg [bP false,.v<|.slice none 0 0,iP 0,bP false,.v<|.slice none 0 0,iP 0,bP true])<|iC iH)]<|rQ (iC iH) (iC<|kH n d p)<|by unfold kH;rw[bA h,aaj<|.inr k2]))
  (λk1=>ae [tB 36<|bu k1,.o 41 (.e J0:aj (.agg [bP false,.v<|.slice none 0 0,iP 0,bP false,.v<|.slice none 0 0,iP 0,bP true])<|iC iH)]<|rQ (iC iH) (iC<|kH n d p)<|by unfold kH;rw[bA h,aaj<|.inl k1]))
section
variable(x:Iv)
noncomputable def E5(p:Nat):Iv:=@dite Iv (∃ y:Iv,y.iD/\iA 270 [iC x,iP (p:Int)] (iC y)) (Classical.propDecidable _) Classical.choose λ_=>iH
def ajm(p:Nat):(E5 x p).iD:=by
 unfold E5;split
 .rename_i h;exact(dX h).1
 .exact nP
def ajl(hx:x.iD)(p:Nat)(iU:8<=p)(iJ:p<=512)(hF:CT):iA 270 [iC x,iP (p:Int)]<|iC<|E5 x p:=by
 have h:∃ y:Iv,y.iD/\iA 270 [iC x,iP (p:Int)] (iC y):=(hF x p hx iU iJ).1;unfold E5;rw[dif_pos h];exact(dX h).2
noncomputable def E6(p:Nat):Iv:=@dite Iv (∃ y:Iv,y.iD/\iA 271 [iC x,iP (p:Int)] (iC y)) (Classical.propDecidable _) Classical.choose λ_=>iH
def ajo(p:Nat):(E6 x p).iD:=by
 unfold E6;split
 .rename_i h;exact(dX h).1
 .exact nP
def ajn(hx:x.iD)(p:Nat)(iU:8<=p)(iJ:p<=512)(hF:CT):iA 271 [iC x,iP (p:Int)]<|iC<|E6 x p:=by
 have h:∃ y:Iv,y.iD/\iA 271 [iC x,iP (p:Int)] (iC y):=(hF x p hx iU iJ).2.1;unfold E6;rw[dif_pos h];exact(dX h).2
noncomputable def E7(p:Nat):Iv:=@dite Iv (∃ y:Iv,y.iD/\iA 272 [iC x,iP (p:Int)] (iC y)) (Classical.propDecidable _) Classical.choose λ_=>iH
def ajq(p:Nat):(E7 x p).iD:=by
 unfold E7;split
 .rename_i h;exact(dX h).1
 .exact nP
def ajp(hx:x.iD)(p:Nat)(iU:8<=p)(iJ:p<=512)(hF:CT):iA 272 [iC x,iP (p:Int)]<|iC<|E7 x p:=by
 have h:∃ y:Iv,y.iD/\iA 272 [iC x,iP (p:Int)] (iC y):=(hF x p hx iU iJ).2.2.1;unfold E7;rw[dif_pos h];exact(dX h).2
noncomputable def E4(p:Nat):Iv:=@dite Iv (∃ y:Iv,y.iD/\iA 273 [iC x,iP (p:Int)] (iC y)) (Classical.propDecidable _) Classical.choose λ_=>iH
def ajk(p:Nat):(E4 x p).iD:=by
 unfold E4;split
 .rename_i h;exact(dX h).1
 .exact nP
def ajj(hx:x.iD)(p:Nat)(iU:8<=p)(iJ:p<=512)(hF:CT):iA 273 [iC x,iP (p:Int)]<|iC<|E4 x p:=by
 have h:∃ y:Iv,y.iD/\iA 273 [iC x,iP (p:Int)] (iC y):=(hF x p hx iU iJ).2.2.2.1;unfold E4;rw[dif_pos h];exact(dX h).2
noncomputable def E8(p:Nat):Iv:=@dite Iv (∃ y:Iv,y.iD/\iA 274 [iC x,iP (p:Int)] (iC y)) (Classical.propDecidable _) Classical.choose λ_=>iH
def ajs(p:Nat):(E8 x p).iD:=by
 unfold E8;split
 .rename_i h;exact(dX h).1
 .exact nP
def ajr(hx:x.iD)(p:Nat)(iU:8<=p)(iJ:p<=512)(hF:CT):iA 274 [iC x,iP (p:Int)]<|iC<|E8 x p:=by
 have h:∃ y:Iv,y.iD/\iA 274 [iC x,iP (p:Int)] (iC y):=(hF x p hx iU iJ).2.2.2.2;unfold E8;rw[dif_pos h];exact(dX h).2
end
def OF(o:oG):Bool:=decide (o.kind<=6)
noncomputable def nR(o:oG)(x y:Iv)(p:Nat):Iv:=
 if o.kind=3 then iZ x y p else if o.kind=4 then jP x y p else if o.kind=5 then iO x y p else if o.kind=6 then jo x y p
 else if o.kind=7 then lg x else if o.kind=8 then r6 x o.n p else if o.kind=9 then E5 x p else if o.kind=10 then E6 x p
 else if o.kind=11 then E7 x p else if o.kind=12 then E4 x p else if o.kind=13 then E8 x p else iH
noncomputable def zC(o:oG)(l:List Iv)(p:Nat):Iv:=if o.kind=1 then kH o.cn o.cd p else nR o (l.getD o.a iH) (if OF o then l.getD o.b iH else iH) p
noncomputable def kz(iN:List oG)(xs:List Iv)(p:Nat):Nat->List Iv
 | 0=>xs
 |k+1=>kz iN xs p k++[zC (iN.getD k kJ) (kz iN xs p k) p]
noncomputable def kN(t:sE)(xs:List Iv)(p:Nat):List Iv:=t.jU.map λk=>(kz t.iN xs p t.iN.length).getD k iH
section
variable(s:lr)(x:List Iv)(h:Dy)(b:List Iv)(p:Nat)
noncomputable def mu:List Iv:=
 if rN (kN s.tape (b++s.params) p)then[]else if rN (xZ x (kN s.tape (b++s.params) p) h p)then[]else xZ x (kN s.tape (b++s.params) p) h p
noncomputable def nh:Bool:=!(mu s x h b p).isEmpty&&(xp x b&&xp (mu s x h b p) b)
end
def Ts(iN:List oG)(xs:List Iv)(p:Nat):∀ k,(kz iN xs p k).length=xs.length+k
 | 0=>rfl
 |k+1=>by simp only[kz,c9,Ts iN xs p k,dR,List.length_nil];omega
def aeC(o:oG){x y:Iv}(hx:x.iD)(hy:y.iD){p:Nat}(hp:1<=p)(iJ:p<=4096):(nR o x y p).iD:=by
 unfold nR;split
 .exact mn hx hy hp iJ
 split
 .exact mn hx (nO hy) hp iJ
 split
 .exact ku _ _ hp iJ
 split
 .exact pf _ _ hp iJ
 split
 .exact nO hx
 split
 .exact abn hx _ hp iJ
 split
 .exact ajm _ _
 split
 .exact ajo _ _
 split
 .exact ajq _ _
 split
 .exact ajk _ _
 split
 .exact ajs _ _
 .exact nP
def aeD(o:oG){l:List Iv}(hl:pO l){p:Nat}(hp:1<=p)(iJ:p<=4096):(zC o l p).iD:=by
 unfold zC;split
 .exact Ak _ _ hp iJ
 .exact aeC o (hl _) (by split;exact hl _;exact nP) hp iJ
def NB(iN:List oG){xs:List Iv}(h:pO xs){p:Nat}(hp:1<=p)(iJ:p<=4096):∀ k,pO (kz iN xs p k)
 | 0=>h
 |k+1=>(NB iN h hp iJ k).push<|aeD _ (NB iN h hp iJ k) hp iJ
def PK(t:sE){xs:List Iv}(h:pO xs){p:Nat}(hp:1<=p)(iJ:p<=4096):pO<|kN t xs p:=λi=>by
 unfold kN;rw[bJ,dA];cases t.jU[i]? with
 |none=>exact nP
 |some k=>exact NB t.iN h hp iJ _ _
def Lf(t:sE)(xs:List Iv)(p:Nat):(kN t xs p).length=t.jU.length:=by simp[kN]
def Rk{s:lr}{x b:List Iv}{h:Dy}{p n:Nat}(hx:lR n x)(hp:1<=p)(iJ:p<=4096)(jM:mu s x h b p≠[]):lR n<|mu s x h b p:=by
 unfold mu at jM ⊢;split at jM
 .exact absurd rfl jM
 .rename_i h1;rw[bw h1];split at jM
  .exact absurd rfl jM
  .rename_i h2;rw[bw h2];exact⟨by rw[IP,hx.len],akP (by simpa using h2)<|alL hx.ok.Tq hp iJ⟩
def ahS:kq 1=0:= aT 
def VU(e:Int):canon false 1 e=⟨false,1,e⟩:=by
 unfold canon;rw[bw aK,ahS];simp
def oZ(k:Int):Dy:=⟨false,1,k⟩
section
variable{k:Int}(h1:-100<=k)(h2:k<=100)
def Ti:oC<|oZ k:=.inr ⟨by show iE 1<=4096;rw[zF];decide,by show -16384<=k;omega,by show k<=16384;omega,by show(iE 1:Int)+k<=16384;rw[zF];omega⟩
def Tk:(oZ k).iD:=⟨by have:=sG false 1 k;rwa[VU]at this,Ti h1 h2⟩
end
def Tj(k:Int):¬(oZ k).jB<0:=by
 rw[(rA _).2,qt];show ¬(if false=true then _ else((1:Nat):Rat)*P2 k)<0;rw[bw aK];have:=nb k
 grind
def ac4{d:Dy}(h:¬d.jB<0):0<=d.q:=by
 rw[(rA d).2]at h
 grind
noncomputable def rI(s:lr)(x:List Iv)(h:Dy)(p:Nat)(k:Int):Bool:=sK x (oZ k)&&nh s x h (rL x<|oZ k) p
def Bs(d:Dy):Dy:=mA<|canon d.neg d.m<|d.e + -3
def SX(d:Dy):Int:=oh<|canon d.neg d.m<|d.e + -3
def tw(x:List Iv)(p:Nat):Dy:=if J1 x p then oE x p x.length else jK
noncomputable def mP(s:lr)(x:List Iv)(h:Dy)(b:List Iv)(p:Nat):List Iv:=
 if mu s x h b p=[]then[]else
 if J1 (oc x<|mu s x h b p) p=false\/(tw (oc x<|mu s x h b p) p).jB=0 then oc x (mu s x h b p)else
 if SX (tw (oc x<|mu s x h b p) p)≠0 then oc x (mu s x h b p)else
 if sK (oc x<|mu s x h b p) (Bs<|tw (oc x<|mu s x h b p) p)then rL (oc x<|mu s x h b p) (Bs<|tw (oc x<|mu s x h b p) p)else oc x (mu s x h b p)
noncomputable def mK(s:lr)(x:List Iv)(h:Dy)(p:Nat):Nat->List Iv
 | 0=>x
 |j+1=>mP s x h (mK s x h p j) p
def acM(d:Dy):(Bs d).iD:=O3<|sG _ _ _
def acL{d:Dy}(h:0<=d.q):0<=(Bs d).q:=by
 unfold Bs mA;split
 .rw [qO];rw[qt]at h;have p1:=nb d.e;have p2:=nb<|d.e + -3;have m0:(0:Rat)<=(d.m:Rat):=by exact_mod_cast cA d.m
  split
  .rename_i hn;rw[bA hn]at h;have hm:(d.m:Rat)*P2 d.e=0:=by
    have:=bD m0<|bF p1
    grind
   have DA:(d.m:Rat)=0:=by
    rcases gV.1 hm with q|q
    .exact q
    .grind
   rw[DA]
   grind
  .exact bD m0<|bF p2
 .rw [r7];exact bH
def adT(x:List Iv)(p:Nat):∀ k,0<=(oE x p k).q
 | 0=>by show 0<=jK.q;rw[r7];exact bH
 |k+1=>by
  have ih:=adT x p k;show 0<=(if 0<jI (tv (x.getD k iH) p) (oE x p k)then tv (x.getD k iH) p else oE x p k).q;split
  .rename_i h;have:¬jI (tv (x.getD k iH) p) (oE x p k)<=0:= aI ;rw[qf]at this
   grind
  .exact ih
def adU(x:List Iv)(p:Nat):0<=(tw x p).q:=by
 unfold tw;split
 .exact adT x p _
 .rw [r7];exact bH
def aoE{d:Dy}(h:0<=d.q):¬d.jB<0:=by
 rw[(rA d).2]
 grind
def Ez{s:lr}{x b:List Iv}{h:Dy}{p n:Nat}(hx:lR n x)(hp:1<=p)(iJ:p<=4096)(jM:mP s x h b p≠[]):lR n<|mP s x h b p:=by
 unfold mP at jM ⊢;split at jM
 .exact absurd rfl jM
 .rename_i h1;rw[bw h1];have hh:=Y7 hx<|Rk hx hp iJ h1;split
  .exact hh
  .split
   .exact hh
   .split
    .rename_i hg;exact PW hh (acM _) (acL<|adU _ _) hg
    .exact hh
section
variable(a b:List Iv)(g:FuncId)(cap:List E)
def Vc(i:Nat):PS:=⟨32,false,[(17,.e<|iP i),(16,.e<|iP a.length),(15,.e<|iQ a),(1,.e<|iQ b),(2,.e<|.fn g cap)],[]⟩
def Vb(N:Nat)(i:Nat):PS:=⟨32,false,[(17,.e<|iP i),(16,.e<|iP a.length),(15,.e<|iQ a),(1,.e<|iQ b),(2,.e<|.fn g cap)],[]⟩
end
section
variable(x:List Iv)(d:Dy)
def Vf(i:Nat):PS:=⟨60,true,[(6,.own 6),(28,.e<|iP i),(27,.e<|iP x.length),(26,.e<|iQ x),(3,.box 3 0)],[(6,.row true 38 i 7<|kK<|(List.range i).map λj_=>rK (x.getD j_ iH) d),(3,.cells 31<|ke d)]⟩
def Vd(N:Nat)(i:Nat):PS:=⟨60,true,[(6,.own 6),(28,.e<|iP i),(27,.e<|iP x.length),(26,.e<|iQ x),(3,.box 3 0)],[(6,.row true 38 i 7<|kK<|(List.range i).map λj_=>rK (x.getD j_ iH) d),(3,.cells 31<|ke d)]⟩
def Ve(N:Nat)(i:Nat):PS:=⟨60,true,[(6,.own 6),(28,.e<|iP i),(27,.e<|iP x.length),(26,.e<|iQ x),(3,.box 3 0)],[(6,.row true 38 i 7<|kK<|(List.range i).map λj_=>rK (x.getD j_ iH) d),(3,.cells 31<|ke d)]⟩
end
def Vg(a b:List Iv)(i:Nat):PS:=⟨30,true,[(5,.own 5),(13,.e<|iP i),(12,.e<|iP a.length),(0,.e<|iQ a),(1,.e<|iQ b)],[(5,.row true 38 i 7<|kK<|(List.range i).map λj_=>rT (a.getD j_ iH)<|b.getD j_ iH)]⟩
def Vs(x:List Iv)(p:Nat)(i:Nat):PS:=⟨42,true,[(22,.e<|iP i),(21,.e<|iP x.length),(20,.e<|iQ x),(6,.box 6 0),(4,.box 4 0),(1,.e<|iP p)],[(6,.cells 31<|ke<|oE x p i),(4,.cells 31 av)]⟩
def Vr(x:List Iv)(p:Nat)(N:Nat)(i:Nat):PS:=⟨42,true,[(22,.e<|iP i),(21,.e<|iP x.length),(20,.e<|iQ x),(6,.box 6 0),(4,.box 4 0),(1,.e<|iP p)],[(6,.cells 31<|ke<|oE x p i),(4,.cells 31 av)]⟩
def afN(x:Iv)(hx:x.iD)(xa:x.all=false):iA 182 [iC x]<|bP false:=
 iM (af [ai 4 x.all xa,.c<|z8 x aJ])
def C8(b:List Iv)(h1:1<=b.length)(h8:b.length<=8)(hb:rj b):iA 122 [iQ b]<|bP true:=
 iM (af [tT 5 (1<=(b.length:Int)) aI,tT 9 ((b.length:Int)<=8) aI,.c (DY true _ _ 182 [] (λ_=>false) (λi hi=>afN _ (hb i hi).1 (hb i hi).2) aI λ_ _=>rfl:iA 115 [iQ b,.fn 182 []] _)])
section
variable(a b:List Iv)
def VN(a1:1<=a.length)(a8:a.length<=8)(hl:b.length=a.length)(ha:rj a)(hb:rj b):iA 108 [iQ a,iQ b]<|bP true:=
 iM (af [ag [iQ a]<|C8 _ aI aI aJ,ag [iQ b]<|C8 _ aI aI aJ,ah 16 ((a.length:Int)==b.length)<|RU aI])
section
variable(g:FuncId)(cap:List E)(f:Nat->Bool)(hl:b.length=a.length)(h8:a.length<=1000)(hp:∀ i,i<a.length->iA g ((iC<|a.getD i iH)::(iC<|b.getD i iH)::cap) (bP<|f i))
def aeX(jA:∀ i,i<a.length->f i=true):iA 109 [iQ a,iQ b,.fn g cap]<|bP true:=
 oY (af [ai 14 ((a.length:Int) != (b.length:Int))<|D8,.s (Sp.kj (Vc a b g cap) 0 a.length aI (λi hi qn=>by
    exact jg (af [tT 18 ((i:Int)<a.length) aI,iX (i:Int)<|a.length,iX (i:Int)<|b.length,.c (hp i aI:iA g ((iC<|a.getD i iH)::(iC<|b.getD i iH)::cap) _),ah 29 (f i)<|jA i aI,iL<|(i:Int)+1]) aM)
  (λhi=>by
    exact jg (af [tF 18 ((a.length:Int)<a.length) aI]) aM) aQ:ki 4 f109 (Vc a b g cap 0) (.exit 0) ⟨32,false,[],[]⟩) .nil])
def aeV(N:Nat)(qD:N<a.length)(jA:∀ i,i<N->f i=true)(hN:f N=false):iA 109 [iQ a,iQ b,.fn g cap]<|bP false:=
 oY (af [ai 14 ((a.length:Int) != (b.length:Int))<|D8,.s (Sp.kj (Vb a b g cap N) 0 N aI (λi hi qn=>by
    exact jg (af [tT 18 ((i:Int)<a.length) aI,iX (i:Int)<|a.length,iX (i:Int)<|b.length,.c (hp i aI:iA g ((iC<|a.getD i iH)::(iC<|b.getD i iH)::cap) _),ah 29 (f i)<|jA i aI,iL<|(i:Int)+1]) aM)
  (λhi=>by
    exact jg (af [tT 18 ((N:Int)<a.length) aI,iX (N:Int)<|a.length,iX (N:Int)<|b.length,.c (hp N aI:iA g ((iC<|a.getD N iH)::(iC<|b.getD N iH)::cap) _),ai 29 (f N) hN]) aM) aQ:ki 4 f109 (Vb a b g cap N 0) .ret ⟨32,false,[(6,.e<|bP false)],[]⟩) .nil])
def aeW:iA 109 [iQ a,iQ b,.fn g cap]<|bP<|(List.range a.length).all f:=by
 by_cases h:∃ i,i<a.length/\(!(f i))=true
 .obtain ⟨N,h1,h2,h3⟩:=ur (p:=λi=>!(f i)) h;refine(aeV a b g cap f hl h8 hp N h1 (λi hi=>by simpa using h3 i hi)<|by simpa using h2).jQ<|.jm ?_;rw[show(List.range a.length).all f=false from at2.2 ⟨N,dr.2 h1,by simpa using h2⟩]
 .have hh:∀ i,i<a.length->f i=true:=λi hi=>by
   cases hf:f i
   .exact absurd ⟨i,hi,by rw[hf];rfl⟩ h
   .rfl
  refine(aeX a b g cap f hl h8 hp hh).jQ<|.jm ?_;rw[show(List.range a.length).all f=true from cL.2 λi hi=>hh i<|dr.1 hi]
end
def VL(a1:1<=a.length)(a8:a.length<=8)(hl:b.length=a.length)(ha:rj a)(hb:rj b):iA 58 [iQ a,iQ b]<|bP<|xp a b:=
 iM (af [ag [iQ a,iQ b]<|VN _ _ aI aI aI aJ aJ,.c (aeW a b 110 [] (λi=>zZ (a.getD i iH)<|b.getD i iH) hl aI λi hi=>ae1 _ _ (ha i hi).1 (hb i aI).1:iA 109 [iQ a,iQ b,.fn 110 []] _)])
end
def PX{x:Iv}{d:Dy}(h:xR x d=true):oh (jh x.lo<|jl d)=0/\oh (jh x.hi d)=0:=by
 unfold xR at h;rwa[cr,dn,dn]at h
section
variable(x:List Iv)(d:Dy)
section
variable(x1:1<=x.length)(x8:x.length<=8)(hx:rj x)(hd:d.iD)(h0:¬d.jB<0)
def afL(jA:∀ i,i<x.length->xR (x.getD i iH) d=true):iA 76 [iQ x,iF d]<|.iK [iQ<|(List.range x.length).map λj_=>rK (x.getD j_ iH) d,iP 0]:=
 iM (af [ag [iQ x]<|C8 _ aI aI aJ,.c<|tI d aJ,.c<|vO d aJ,tB 24<|bE h0,.y 6 6 true 38 7<|kK<|(List.range 0).map λj_=>rK (x.getD j_ iH) d,.s (Sp.kj (Vf x d) 0 x.length aI (λi hi qn=>by
    obtain⟨w1,w2⟩:=(hx i aI).1.kA;obtain⟨g1,g2⟩:=PX<|jA i aI;have xi:=wM<|Iv.mk (mA<|jh (x.getD i iH).lo<|jl d) (mA<|jh (x.getD i iH).hi d) false;exact jg (ae [tT 29 ((i:Int)<x.length) aI,iX (i:Int)<|x.length,.c<|GV ((x.getD i iH).lo) d aJ aJ,.c<|GS ((x.getD i iH).hi) d aJ aJ,ai 47 ((oh<|jh ((x.getD i iH).lo)<|jl d) != 0)<|by rw[g1];rfl,ai 50 ((oh<|jh ((x.getD i iH).hi) d) != 0)<|by rw[g2];rfl,.o 56<|.e<|nT<|Iv.mk (mA<|jh ((x.getD i iH).lo)<|jl d) (mA<|jh ((x.getD i iH).hi) d) false,.a (aI:(i+[Iv.mk (mA<|jh ((x.getD i iH).lo)<|jl d) (mA<|jh ((x.getD i iH).hi) d) false].length)*88<=140737488355328),iL<|(i:Int)+1]<|.e<|af [.b 6 (yZ rfl rfl rfl:Bx.le (.row true 38 (i+[Iv.mk (mA<|jh ((x.getD i iH).lo)<|jl d) (mA<|jh ((x.getD i iH).hi) d) false].length) 7 λi_ j_=>if i_<i then(kK<|(List.range i).map λj_=>rK (x.getD j_ iH) d) i_ j_ else(E.jV<|iQ [Iv.mk (mA<|jh ((x.getD i iH).lo)<|jl d) (mA<|jh ((x.getD i iH).hi) d) false]) (i_-i) j_)<|.row true 38 (i+1) 7<|kK<|(List.range<|i+1).map λj_=>rK (x.getD j_ iH) d)]) aM)
  (λhi=>by
    exact jg (ae [tF 29 ((x.length:Int)<x.length) aI,.z 6]<|.e<|af [.o 6 (.e<|Aa aP:aj (.sl true x.length 7<|kK<|(List.range x.length).map λj_=>rK (x.getD j_ iH) d)<|iQ<|(List.range x.length).map λj_=>rK (x.getD j_ iH) d)]) aM) aQ:ki 5 Tryz.f76 (Vf x d 0) (.exit 0) ⟨60,true,[(6,.e<|iQ<|(List.range x.length).map λj_=>rK (x.getD j_ iH) d)],[]⟩) .nil])
section
variable(N:Nat)(qD:N<x.length)(jA:∀ i,i<N->xR (x.getD i iH) d=true)
def afJ(hN:oh (jh (x.getD N iH).lo<|jl d)≠0):iA 76 [iQ x,iF d]<|.iK [.v<|.slice none 0 0,iP 9]:=
 iM (af [ag [iQ x]<|C8 _ aI aI aJ,.c<|tI d aJ,.c<|vO d aJ,tB 24<|bE h0,.y 6 6 true 38 7<|kK<|(List.range 0).map λj_=>rK (x.getD j_ iH) d,.s (Sp.kj (Vd x d N) 0 N aI (λi hi qn=>by
    obtain⟨w1,w2⟩:=(hx i aI).1.kA;obtain⟨g1,g2⟩:=PX<|jA i aI;have xi:=wM<|Iv.mk (mA<|jh (x.getD i iH).lo<|jl d) (mA<|jh (x.getD i iH).hi d) false;exact jg (ae [tT 29 ((i:Int)<x.length) aI,iX (i:Int)<|x.length,.c<|GV ((x.getD i iH).lo) d aJ aJ,.c<|GS ((x.getD i iH).hi) d aJ aJ,ai 47 ((oh<|jh ((x.getD i iH).lo)<|jl d) != 0)<|by rw[g1];rfl,ai 50 ((oh<|jh ((x.getD i iH).hi) d) != 0)<|by rw[g2];rfl,.o 56<|.e<|nT<|Iv.mk (mA<|jh ((x.getD i iH).lo)<|jl d) (mA<|jh ((x.getD i iH).hi) d) false,.a (aI:(i+[Iv.mk (mA<|jh ((x.getD i iH).lo)<|jl d) (mA<|jh ((x.getD i iH).hi) d) false].length)*88<=140737488355328),iL<|(i:Int)+1]<|.e<|af [.b 6 (yZ rfl rfl rfl:Bx.le (.row true 38 (i+[Iv.mk (mA<|jh ((x.getD i iH).lo)<|jl d) (mA<|jh ((x.getD i iH).hi) d) false].length) 7 λi_ j_=>if i_<i then(kK<|(List.range i).map λj_=>rK (x.getD j_ iH) d) i_ j_ else(E.jV<|iQ [Iv.mk (mA<|jh ((x.getD i iH).lo)<|jl d) (mA<|jh ((x.getD i iH).hi) d) false]) (i_-i) j_)<|.row true 38 (i+1) 7<|kK<|(List.range<|i+1).map λj_=>rK (x.getD j_ iH) d)]) aM)
  (λhi=>by
    obtain⟨w1,w2⟩:=(hx N aI).1.kA;exact jg (af [tT 29 ((N:Int)<x.length) aI,iX (N:Int)<|x.length,.c<|GV ((x.getD N iH).lo) d aJ aJ,.c<|GS ((x.getD N iH).hi) d aJ aJ,ah 47 ((oh<|jh ((x.getD N iH).lo)<|jl d) != 0)<|by simpa using hN]) aM) aQ:ki 5 Tryz.f76 (Vd x d N 0) .ret ⟨60,true,[(5,.e<|iP 9),(4,.e<|.v<|.slice none 0 0)],[]⟩) .nil])
def afK(hM:oh (jh (x.getD N iH).lo<|jl d)=0)(hN:oh (jh (x.getD N iH).hi d)≠0):iA 76 [iQ x,iF d]<|.iK [.v<|.slice none 0 0,iP 9]:=
 iM (af [ag [iQ x]<|C8 _ aI aI aJ,.c<|tI d aJ,.c<|vO d aJ,tB 24<|bE h0,.y 6 6 true 38 7<|kK<|(List.range 0).map λj_=>rK (x.getD j_ iH) d,.s (Sp.kj (Ve x d N) 0 N aI (λi hi qn=>by
    obtain⟨w1,w2⟩:=(hx i aI).1.kA;obtain⟨g1,g2⟩:=PX<|jA i aI;have xi:=wM<|Iv.mk (mA<|jh (x.getD i iH).lo<|jl d) (mA<|jh (x.getD i iH).hi d) false;exact jg (ae [tT 29 ((i:Int)<x.length) aI,iX (i:Int)<|x.length,.c<|GV ((x.getD i iH).lo) d aJ aJ,.c<|GS ((x.getD i iH).hi) d aJ aJ,ai 47 ((oh<|jh ((x.getD i iH).lo)<|jl d) != 0)<|by rw[g1];rfl,ai 50 ((oh<|jh ((x.getD i iH).hi) d) != 0)<|by rw[g2];rfl,.o 56<|.e<|nT<|Iv.mk (mA<|jh ((x.getD i iH).lo)<|jl d) (mA<|jh ((x.getD i iH).hi) d) false,.a (aI:(i+[Iv.mk (mA<|jh ((x.getD i iH).lo)<|jl d) (mA<|jh ((x.getD i iH).hi) d) false].length)*88<=140737488355328),iL<|(i:Int)+1]<|.e<|af [.b 6 (yZ rfl rfl rfl:Bx.le (.row true 38 (i+[Iv.mk (mA<|jh ((x.getD i iH).lo)<|jl d) (mA<|jh ((x.getD i iH).hi) d) false].length) 7 λi_ j_=>if i_<i then(kK<|(List.range i).map λj_=>rK (x.getD j_ iH) d) i_ j_ else(E.jV<|iQ [Iv.mk (mA<|jh ((x.getD i iH).lo)<|jl d) (mA<|jh ((x.getD i iH).hi) d) false]) (i_-i) j_)<|.row true 38 (i+1) 7<|kK<|(List.range<|i+1).map λj_=>rK (x.getD j_ iH) d)]) aM)
  (λhi=>by
    obtain⟨w1,w2⟩:=(hx N aI).1.kA;exact jg (af [tT 29 ((N:Int)<x.length) aI,iX (N:Int)<|x.length,.c<|GV ((x.getD N iH).lo) d aJ aJ,.c<|GS ((x.getD N iH).hi) d aJ aJ,ai 47 ((oh<|jh ((x.getD N iH).lo)<|jl d) != 0)<|by rw[hM];rfl,ah 50 ((oh<|jh ((x.getD N iH).hi) d) != 0)<|by simpa using hN]) aM) aQ:ki 5 Tryz.f76 (Ve x d N 0) .ret ⟨60,true,[(5,.e<|iP 9),(4,.e<|.v<|.slice none 0 0)],[]⟩) .nil])
end
end
def BS:Int:=if sK x d then 0 else 9
def VK(x1:1<=x.length)(x8:x.length<=8)(hx:rj x)(hd:d.iD)(h0:¬d.jB<0):iA 76 [iQ x,iF d]<|.iK [iQ<|rL x d,iP<|BS x d]:=by
 unfold rL BS;cases hg:sK x d with
 |true=>
  rw[bA rfl,bA rfl];exact afL x d x1 x8 hx hd h0 λi hi=>cL.1 hg i<|dr.2 hi
 |false=>
  rw[bw aK,bw aK];obtain⟨i,hi,hb⟩:=at2.1 hg;obtain⟨N,h1,h2,h3⟩:=ur (p:=λi=>!(xR (x.getD i iH) d)) ⟨i,dr.1 hi,by simpa using hb⟩;have jA:∀ i,i<N->xR (x.getD i iH) d=true:=λi hi=>by simpa using h3 i hi
  have h2:xR (x.getD N iH) d=false:=by simpa using h2
  have key:iA 76 [iQ x,iF d]<|.iK [.v<|.slice none 0 0,iP 9]:=by
   by_cases hM:oh (jh (x.getD N iH).lo<|jl d)=0
   .exact afK x d x1 x8 hx hd h0 N h1 jA hM λq=>by
     unfold xR at h2;rw[hM,q]at h2;exact absurd h2 aK 
   .exact afJ x d x1 x8 hx hd h0 N h1 jA hM
  exact key.jQ<|.iK<|.cons (.nil _ _ _)<|.cons (.refl _) .nil
end
def afM(a b:List Iv)(a1:1<=a.length)(a8:a.length<=8)(hl:b.length=a.length)(ha:rj a)(hb:rj b):iA 77 [iQ a,iQ b]<|iQ<|oc a b:=
 iM (ae [ag [iQ a,iQ b]<|VN _ _ aI aI aI aJ aJ,.y 5 5 true 38 7<|kK<|(List.range 0).map λj_=>rT (a.getD j_ iH)<|b.getD j_ iH,.s (Sp.kj (Vg a b) 0 a.length aI (λi hi qn=>by
    obtain⟨w1,w2⟩:=ha i aI;obtain⟨w3,w4⟩:=hb i aI;have xi:=wM<|rT (a.getD i iH)<|b.getD i iH;exact jg (ae [tT 14 ((i:Int)<a.length) aI,iX (i:Int)<|a.length,iX (i:Int)<|b.length,.c<|ae0 (a.getD i iH) (b.getD i iH) aJ aJ aJ aJ,.o 26<|.e<|nT<|rT (a.getD i iH)<|b.getD i iH,.a (aI:(i+[rT (a.getD i iH)<|b.getD i iH].length)*88<=140737488355328),iL<|(i:Int)+1]<|.e<|af [.b 5 (yZ rfl rfl rfl:Bx.le (.row true 38 (i+[rT (a.getD i iH)<|b.getD i iH].length) 7 λi_ j_=>if i_<i then(kK<|(List.range i).map λj_=>rT (a.getD j_ iH)<|b.getD j_ iH) i_ j_ else(E.jV<|iQ [rT (a.getD i iH)<|b.getD i iH]) (i_-i) j_)<|.row true 38 (i+1) 7<|kK<|(List.range<|i+1).map λj_=>rT (a.getD j_ iH)<|b.getD j_ iH)]) aM)
  (λhi=>by
    exact jg (ae [tF 14 ((a.length:Int)<a.length) aI,.z 5]<|.e<|af [.o 5 (.e<|Aa aP:aj (.sl true a.length 7<|kK<|(List.range a.length).map λj_=>rT (a.getD j_ iH)<|b.getD j_ iH)<|iQ<|(List.range a.length).map λj_=>rT (a.getD j_ iH)<|b.getD j_ iH)]) aM) aQ:ki 5 Tryz.f77 (Vg a b 0) (.exit 0) ⟨30,true,[(5,.e<|iQ<|(List.range a.length).map λj_=>rT (a.getD j_ iH)<|b.getD j_ iH)],[]⟩) .nil]<|rR (iQ<|oc a b) (.refl _:E.le (iQ<|(List.range a.length).map λj_=>rT (a.getD j_ iH)<|b.getD j_ iH)<|iQ<|oc a b))
def VM(p:Int):iA 126 [iP p]<|bP<|mH p:=
 iM (.w (8<=p)
  (λk1=>ae [tB 4<|bC k1]<|rQ (bP<|decide (p<=512)) (bP<|mH p)<|by unfold mH;simp[k1])
  (λk1=>ae [tB 4<|bE k1]<|rQ (bP false) (bP<|mH p)<|by unfold mH;simp[k1]))
def VP:vt av<|ke jK:=.cons (.refl _)<|.cons FO<|.cons (.refl _) .nil
def ND(x:List Iv)(p k:Nat):oE x p (k+1)=if 0<jI (tv (x.getD k iH) p) (oE x p k)then tv (x.getD k iH) p else oE x p k:=rfl
def Tw(x:Iv){p:Nat}(hp:1<=p)(iJ:p<=4096):(tv x p).iD:=SJ _ hp iJ _
def NF(x:List Iv){p:Nat}(hp:1<=p)(iJ:p<=4096):∀ k,(oE x p k).iD
 | 0=>ri
 |k+1=>by
  unfold oE;split
  .exact Tw _ hp iJ
  .exact NF x hp iJ k
section
variable(x:List Iv)
section
variable(p:Nat)(x1:1<=x.length)(x8:x.length<=8)(hx:rj x)(iU:8<=p)(iJ:p<=512)
def afQ(jA:∀ i,i<x.length->Ey (x.getD i iH) p=0):iA 78 [iQ x,iP p]<|.iK [iF<|oE x p x.length,bP true]:=
 iM (af [ag [iQ x]<|C8 _ aI aI aJ,ag [iP p]<|VM _,ah 16 (mH (p:Int))<|sC.2 ⟨aI,aI⟩,.s (Sp.kj (Vs x p) 0 x.length aI (λi hi qn=>by
    obtain⟨w1,w2⟩:=hx i aI;have QQ:=jA i aI;have w3:=Tw (x.getD i iH) (aI:1<=p) (aI:p<=4096);have w4:=NF x (aI:1<=p) (aI:p<=4096) i;exact jg (ae [tT 23 ((i:Int)<x.length) aI,iX (i:Int)<|x.length,.c<|OB (x.getD i iH) p aJ aJ aI aI,tB 31<|bC QQ,.c<|ss (tv (x.getD i iH) p) (oE x p i) aJ aJ]<|.w (0<jI (tv (x.getD i iH) p) (oE x p i))
     (λhc=>by
      have DF:oE x p (i+1)=tv (x.getD i iH) p:=by rw[ND,bA hc]
      exact ae [tB 38<|bC hc,iL<|(i:Int)+1]<|.e<|af [.b 6 (.jm<|by rw[DF]:Bx.le (.cells 31<|ke<|tv (x.getD i iH) p)<|.cells 31<|ke<|oE x p<|i+1)])
     (λhc=>by
      have DF:oE x p (i+1)=oE x p i:=by rw[ND,bw hc]
      exact ae [tB 38<|bE hc,iL<|(i:Int)+1]<|.e<|af [.b 6 (.jm<|by rw[DF]:Bx.le (.cells 31<|ke<|oE x p i)<|.cells 31<|ke<|oE x p<|i+1)])) aM)
  (λhi=>by
    exact jg (af [tF 23 ((x.length:Int)<x.length) aI]) aM) aQ:ki 5 Tryz.f78 (Vs x p 0) (.exit 0) ⟨42,true,[(6,.box 6 0),(4,.box 4 0)],[(6,.cells 31<|ke<|oE x p x.length),(4,.cells 31 av)]⟩)<|af [.b 6 (.cells (λ_=>rfl) VP:Bx.le (.cells 31 av)<|.cells 31<|ke<|oE x p 0)]])
def afO(N:Nat)(qD:N<x.length)(jA:∀ i,i<N->Ey (x.getD i iH) p=0)(hN:Ey (x.getD N iH) p≠0):iA 78 [iQ x,iP p]<|.iK [iF jK,bP false]:=
 iM (af [ag [iQ x]<|C8 _ aI aI aJ,ag [iP p]<|VM _,ah 16 (mH (p:Int))<|sC.2 ⟨aI,aI⟩,.s (Sp.kj (Vr x p N) 0 N aI (λi hi qn=>by
    obtain⟨w1,w2⟩:=hx i aI;have QQ:=jA i aI;have w3:=Tw (x.getD i iH) (aI:1<=p) (aI:p<=4096);have w4:=NF x (aI:1<=p) (aI:p<=4096) i;exact jg (ae [tT 23 ((i:Int)<x.length) aI,iX (i:Int)<|x.length,.c<|OB (x.getD i iH) p aJ aJ aI aI,tB 31<|bC QQ,.c<|ss (tv (x.getD i iH) p) (oE x p i) aJ aJ]<|.w (0<jI (tv (x.getD i iH) p) (oE x p i))
     (λhc=>by
      have DF:oE x p (i+1)=tv (x.getD i iH) p:=by rw[ND,bA hc]
      exact ae [tB 38<|bC hc,iL<|(i:Int)+1]<|.e<|af [.b 6 (.jm<|by rw[DF]:Bx.le (.cells 31<|ke<|tv (x.getD i iH) p)<|.cells 31<|ke<|oE x p<|i+1)])
     (λhc=>by
      have DF:oE x p (i+1)=oE x p i:=by rw[ND,bw hc]
      exact ae [tB 38<|bE hc,iL<|(i:Int)+1]<|.e<|af [.b 6 (.jm<|by rw[DF]:Bx.le (.cells 31<|ke<|oE x p i)<|.cells 31<|ke<|oE x p<|i+1)])) aM)
  (λhi=>by
    obtain⟨w1,w2⟩:=hx N aI;exact jg (af [tT 23 ((N:Int)<x.length) aI,iX (N:Int)<|x.length,.c<|OB (x.getD N iH) p aJ aJ aI aI,tB 31<|bE hN,.o 34 (.e tz:aj (.agg av)<|iF jK)]) aM) aQ:ki 5 Tryz.f78 (Vr x p N 0) .ret ⟨42,true,[(5,.e<|bP false),(4,.box 4 0)],[(4,.cells 31<|ke jK)]⟩)<|af [.b 6 (.cells (λ_=>rfl) VP:Bx.le (.cells 31 av)<|.cells 31<|ke<|oE x p 0)]])
end
def asO{p:Nat}(hp:1<=p)(iJ:p<=4096):(tw x p).iD:=by
 unfold tw;split
 .exact NF x hp iJ _
 .exact ri
def afP(p:Nat)(x1:1<=x.length)(x8:x.length<=8)(hx:rj x)(iU:8<=p)(iJ:p<=512):iA 78 [iQ x,iP (p:Int)]<|.iK [iF<|tw x p,bP<|J1 x p]:=by
 unfold tw;cases hw:J1 x p with
 |true=>
  rw[bA rfl];exact afQ x p x1 x8 hx iU iJ λi hi=>dK<|cL.1 hw i<|dr.2 hi
 |false=>
  rw[bw aK];obtain⟨i,hi,hb⟩:=at2.1 hw;obtain⟨N,h1,h2,h3⟩:=ur (p:=λi=>!(decide (Ey (x.getD i iH) p=0))) ⟨i,dr.1 hi,by simpa using hb⟩;exact afO x p x1 x8 hx iU iJ N h1 (λi hi=>by simpa using h3 i hi)<|by simpa using h2
end
end Go.Proofs.YtbbefgegdllpmaaGreatDoor
namespace Go.Proofs.YtbbefgegdllpmaaGreatDoor.Pu
open Go.RowKit
def aci{bs br:Nat->Prop}{w:World}{xs:List Value}{a:Value}(h:jd bs br w (.agg<|xs.map E.v) a):a = .agg xs.toArray:=by
 generalize he:E.agg (xs.map E.v)=e at h;cases h with
 |agg l vs hl k=>
  cases he;rw[List.length_map]at hl;have:vs=xs:=ia λi=>by
   cases hx:xs[i]? with
   |none=>rw[List.getElem?_eq_none_iff]at hx ⊢;omega
   |some x=>
    obtain⟨v,hv⟩:∃ v,vs[i]? = some v:=by
     have hi:i<xs.length:=(cP.1 hx).1;exact⟨vs[i]'(aI),bS aI⟩
    rw[hv,jd.lh<|k i (.v x) v (by rw[dA,hx];rfl) hv]
  rw[this]
 |_=>cases he
def R6{P:Program}{t:TypeId}{m D D':Nat}(hm:m<=10000)(hk:P.keyTypeAt m t=true)(hg:P.eqGuardType P.depth t=false){xs ys:List Value}{la lb:List Lit}
 (hx:P.keyLits D t xs=some la) (hy:P.keyLits D' t ys=some lb) (fx:(Value.agg xs.toArray).formed P t=true) (fy:(Value.agg ys.toArray).formed P t=true) {c:Bool} (hc:c=true↔la=lb):
 mi P .eql t (.agg<|xs.map E.v) (.agg<|ys.map E.v) (.bool c):=by
 intro bs br w a b ox oy ha hb;obtain rfl:=aci ha;obtain rfl:=aci hb;constructor
 .simp only[eqGuard,fX,cz,bN,Sem.run_bind,run_program,Result.andThen_ok,hg,fe,bW,Sem.run_pure]
 .obtain ⟨r,hr,alf⟩:=run_equalIn_deep (10000-m) m t hk w _ _ _ _ la lb fx fy (by simpa[Value.cells]using hx) (by simpa[Value.cells]using hy);rw[(aI:10000-m+m=10000)]at hr;have e:r=c:=by rw[fM,alf,hc]
  subst e;have:(Op.equal t (.agg xs.toArray)<|.agg ys.toArray).run P w = .ok r w:=hr;simp only[binOp,Sem.run_bind,this,Result.andThen_ok,Sem.run_pure]
end Go.Proofs.YtbbefgegdllpmaaGreatDoor.Pu
namespace Go.Proofs.YtbbefgegdllpmaaGreatDoor
open Go.RowKit Fp Pu
def aa6{t:TypeId}{m:Nat}(hm:m<=10000)(hk:prog.keyTypeAt m t=true)(hg:prog.eqGuardType prog.depth t=false){xs:List Value}(hx:(prog.keyLits 10 t xs).isSome=true)
 (fx:(Value.agg xs.toArray).formed prog t=true):mi prog .eql t (.agg<|xs.map E.v) (.agg<|xs.map E.v)<|.bool true:=by
 obtain⟨l,hl⟩:=gL.1 hx;exact R6 hm hk hg hl hl fx fx aP 
def MB{a b c d e f:Int}(h:a=0/\b=0/\c=0/\d=0/\e=0/\f=0):
 mi prog .eql 134 (.agg [iP a,iP b,iP c,iP d,iP e,iP f]) (.agg [iP 0,iP 0,iP 0,iP 0,iP 0,iP 0]) (.bool true):=by
 obtain⟨rfl,rfl,rfl,rfl,rfl,rfl⟩:=h;exact aa6 (m:=10) (xs:=[.int .i64 0,.int .i64 0,.int .i64 0,.int .i64 0,.int .i64 0,.int .i64 0]) aK aM aM aM aM 
def R5{a b:Int}(h:a=0/\b=0):mi prog .eql 24 (.agg [iP a,iP b]) (.agg [iP 0,iP 0])<|.bool true:=by
 obtain⟨rfl,rfl⟩:=h;exact aa6 (m:=10) (xs:=[.int .i64 0,.int .i64 0]) aK aM aM aM aM 
def Zy{d:Nat}{n:Int}(h:ny .i64 n):prog.keyLits (d+1) 3 [.int .i64 n]=some [.int .i64 n]:=by
 have hw:(Lit.int .i64 n).wf=true:=by
  unfold ny at h;simp[Lit.wf,IntKind.min,IntKind.max,IntKind.signed,IntKind.bits];omega
 unfold Program.keyLits;rw[underlying3];simp[hw]
def ab4{a b:Int}(ha:ny .i64 a)(hb:ny .i64 b):prog.keyLits 10 24 [.int .i64 a,.int .i64 b]=some [.int .i64 a,.int .i64 b]:=by
 have c1:prog.cellsOf 24=2:= aM ;have c2:prog.cellsOf 3=1:= aM ;unfold Program.keyLits;rw[underlying24];simp[c1,c2,il,Zy ha,Zy hb]
def anR{a b:Int}{r:Bool}(ha:ny .i64 a)(hb:ny .i64 b)(h:decide (a=0/\b=0)=r):mi prog .eql 24 (.agg [iP a,iP b]) (.agg [iP 0,iP 0])<|.bool r:=
 R6 (m:=10) (xs:=[.int .i64 a,.int .i64 b]) (ys:=[.int .i64 0,.int .i64 0]) aK aM aM (ab4 ha hb) (ab4 bj bj) aM aM (by subst h;simp)
def rZ{a b c d e f a' b' c' d' e' f':Int}{r:Bool}(hx:prog.keyLits 10 134 [.int .i64 a,.int .i64 b,.int .i64 c,.int .i64 d,.int .i64 e,.int .i64 f]=some [.int .i64 a,.int .i64 b,.int .i64 c,.int .i64 d,.int .i64 e,.int .i64 f])(hy:prog.keyLits 10 134 [.int .i64 a',.int .i64 b',.int .i64 c',.int .i64 d',.int .i64 e',.int .i64 f']=some [.int .i64 a',.int .i64 b',.int .i64 c',.int .i64 d',.int .i64 e',.int .i64 f'])
 (fx:(Value.agg<|List.toArray [.int .i64 a,.int .i64 b,.int .i64 c,.int .i64 d,.int .i64 e,.int .i64 f]).formed prog 134=true) (fy:(Value.agg<|List.toArray [.int .i64 a',.int .i64 b',.int .i64 c',.int .i64 d',.int .i64 e',.int .i64 f']).formed prog 134=true) (h:decide (a=a'/\b=b'/\c=c'/\d=d'/\e=e'/\f=f')=r):
 mi prog .eql 134 (.agg [iP a,iP b,iP c,iP d,iP e,iP f]) (.agg [iP a',iP b',iP c',iP d',iP e',iP f']) (.bool r):=
 R6 (m:=10) (xs:=[.int .i64 a,.int .i64 b,.int .i64 c,.int .i64 d,.int .i64 e,.int .i64 f]) (ys:=[.int .i64 a',.int .i64 b',.int .i64 c',.int .i64 d',.int .i64 e',.int .i64 f']) aK aM aM hx hy fx fy (by subst h;simp)
def vm{a b:ByteArray}{r:Bool}(h:(a.toList==b.toList)=r):mi prog .eql 9 (.v<|.string a) (.v<|.string b)<|.bool r:=by
 intro bs br w x y ox oy hx hy;obtain rfl:=jd.lh hx;obtain rfl:=jd.lh hy;subst h;refine⟨by simp[eqGuard],?_⟩;show(Op.stringOp .eql a b).run prog w=_;unfold Op.stringOp;simp only[Sem.run_pure]
def aqY{P:Program}(w:World)(t tx ty e:TypeId)(i:TypeInfo)(z:Value)(ht:P.underlying t=some (.slice e))(hx:P.underlying tx=some (.int .i64))(hi:P.info? e=some i)(hz:i.zero=some z)
 (vi:i.size≠0) (n:Nat) (h0:0<n) (AR:n<=1000000) (X6:n*i.bytes<=281474976710656):
 (Builtin.append_ #[t,tx] ty #[.slice none 0 0,.int .i64 (n:Int)]).run P w =
  .ok (.slice (some ⟨w.heap.size,0,none⟩) n<|grownCap w n 0 e) (w.drew.alloc<|.cells (Builtin.zeroCells z.cells n++Builtin.zeroCells z.cells (grownCap w n 0 e-n)) e):=by
 have hn:n≠0:= aI ;have uZ:n*i.size≠0:=eN hn vi;have akL:¬(9223372036854775807<(n:Int)):= aI ;have akJ:¬(281474976710656<Builtin.nextslicecap n 0*i.bytes):=by rw[nextslicecap_zero h0];omega
 have hw:IntKind.i64.wrap (n:Int)=n:=i64_in _;have DC:¬((n:Int)<0):= aI ;have akK:¬(281474976710656<(n:Int)*(i.bytes:Int)):=by
  have:(n:Int)*(i.bytes:Int)=((n*i.bytes:Nat):Int):= aP ;rw[this];omega
 simp[Builtin.append_,run_underlying ht,run_underlying hx,sizeOf,typeInfo,zeroValue,hi,hz,asInt,asIntOf,hw,DC,akK,hn,uZ,akL,akJ,Question.forced,run_firstCells_none,newRow,grownCap]
def asR{P:Program}{w:World}{iN:Array Oper}{rest:List Oper}{o:Oper}{a:Act}{Q:Exit->Act->World->Prop}(Dx:o.guard=none)(s x:Operand)(t tx:TypeId)
 (ho:o.op = .call { callee:=.builtin .append,args:=#[s,x],argTypes:=#[t,tx] })
 (e:TypeId) (i:TypeInfo) (z:Value) (ht:P.underlying t=some (.slice e)) (hx:P.underlying tx=some (.int .i64)) (hi:P.info? e=some i) (hz:i.zero=some z)
 (vi:i.size≠0) (n:Nat) (h0:0<n) (AR:n<=1000000) (X6:n*i.bytes<=281474976710656) (hs:a.eval s = .slice none 0 0) (hxx:a.eval x = .int .i64 (n:Int))
 (h:wpList P iN Q rest (a.put o.dst<|.slice (some ⟨w.heap.size,0,none⟩) n<|grownCap w n 0 e)<|w.drew.alloc<|.cells (Builtin.zeroCells z.cells n++Builtin.zeroCells z.cells (grownCap w n 0 e-n)) e):wpList P iN Q (o::rest) a w:=by
 refine wpList_plain Dx λK hK=>?_
 have lN:=aqY (P:=P) w t tx o.type e i z ht hx hi hz vi n h0 AR X6;unfold Oper.wp;simp[execOp,ho,resolve,invoke,builtin,hs,hxx,lN,Result.andThen];exact hK _ _ h
def aez(w:World)(o:Obj):Below w.heap.size w (w.alloc o).drew:=⟨rfl,rfl,rfl,by rw[show(w.alloc o).drew.heap=w.heap.push o from rfl,Array.size_push];omega,λx hx=>Below.heap_alloc w _ x hx⟩
def aeA(w:World)(o:Obj):w.heap.size<(w.alloc o).drew.heap.size:=by rw[show(w.alloc o).drew.heap=w.heap.push o from rfl,Array.size_push];omega
def alP:(prog.info? 38).map (λi=>(i.zero,i.size,i.bytes))=some (some<|.agg #[.bool false,.slice none 0 0,.int .i64 0,.bool false,.slice none 0 0,.int .i64 0,.bool false],7,88):= aM 
def aeb(n:Nat):∀ u,u ∈ Builtin.zeroCells (Value.cells<|.agg #[.bool false,.slice none 0 0,.int .i64 0,.bool false,.slice none 0 0,.int .i64 0,.bool false]) n->sw u=false:=by
 intro u hu;simp only[Builtin.zeroCells,gH,gI]at hu;obtain⟨q,hq,rfl⟩:=hu;have hc:Value.cells (.agg #[.bool false,.slice none 0 0,.int .i64 0,.bool false,.slice none 0 0,.int .i64 0,.bool false]) = #[.bool false,.slice none 0 0,.int .i64 0,.bool false,.slice none 0 0,.int .i64 0,.bool false]:=rfl;rw[hc]at hq ⊢;have hs:(#[Value.bool false,.slice none 0 0,.int .i64 0,.bool false,.slice none 0 0,.int .i64 0,.bool false]:Array Value).size=7:=rfl;rw[hs];have h7:q%7<7:=bQ _ aK;generalize q%7=k at h7;rcases k with _|_|_|_|_|_|_|k
 all_goals first|rfl|omega
set_option maxRecDepth 100000 in
def akE(n:Nat)(hn:n<=1000000):xI prog Tb 233 [.v<|.slice none 0 0,iP (n:Int)] true 38 0 7<|kK []:=by
 refine⟨call233,λw B vs hK hB hr=>?_⟩;obtain⟨v1,vs,rfl,h1,hr⟩:=hr.nc;obtain⟨v2,vs,rfl,h2,hr⟩:=hr.nc;obtain rfl:=hr.rz;obtain rfl:=jd.lh h1;obtain rfl:=jd.lh h2;show Calls _ _ #[.slice none 0 0,.int .i64 (n:Int)] w _;clear h1 h2 hr hB hK;by_cases h0:n=0
 .subst h0;go_enter func233,ntmps233;go_wp2;go_ret;exact⟨_,rfl,Below.refl _ _,λ_ _=>undef,.inl ⟨rfl,rfl⟩,λx hx=>by simp[Value.ownBlock]at hx,λi j hi=>absurd hi<|bM _⟩
 .obtain ⟨i,hi,hz,h1,h2⟩:=info_parts alP;have hw:IntKind.i64.wrap ((n:Int)-0)=n:=i64_in _;have IJ:IntKind.i64.wrap (n:Int)=n:=i64_in _;have e2:decide ((n:Int)<0)=false:=bE aI;have e3:decide ((0:Int)<n)=true:=bC aI;have Fi:n<=grownCap w n 0 38:=grownCap_ge w n 0 _;go_enter func233,ntmps233;go_wp2_with (at_builtin;go_must (refine asR aO _ _ _ _ aO _ i _ underlying36 underlying3 hi hz aI n aI aI (by rw[h2];omega) aO aO ?_))
  go_ret;have hz7:(#[Value.bool false,.slice none 0 0,.int .i64 0,.bool false,.slice none 0 0,.int .i64 0,.bool false]:Array Value).size=7:=rfl;refine⟨_,rfl,aez w _,λ_ _=>undef,.inr ⟨w.heap.size,grownCap w n 0 38,_,rfl,heap_alloc_new w _,cA _,grownCap_le_maxLen w n 0 _<|by unfold maxLen;omega,?_,λi j hi=>absurd hi<|bM _,λ_ u hu=>?_⟩,λx hx=>?_,λi j hi=>absurd hi<|bM _⟩
  .simp only[atG,size_zeroCells,hz7,<-ca];congr 1;omega
  .rcases fZ.1 hu with hu|hu
   .exact aeb _ u hu
   .exact aeb _ u hu
  .simp [Value.ownBlock]at hx;subst hx;exact⟨bB _,aeA w _⟩
abbrev yw(f:FuncId)(args:List E)(nl:Bool)(T:TypeId)(n sz:Nat)(el:Nat->Nat->E):Prop:=xI prog Tb f args nl T n sz el
def trn{f:FuncId}{fn:Func}{args:List E}{nl:Bool}{T0:TypeId}{n sz:Nat}{el:Nat->Nat->E}(yP:∀ (vs:Array Value) (w:World),(callFunc f vs).run prog w = .ok (.enter f vs) w)
 (hf:prog.funcs[f]? = some fn) (t:Tr prog Tb) (h:SC TT fn args (.row nl T0 n sz el) t=t.ex λ_=>.a (Bx.le (.row nl T0 n sz el)<|.row nl T0 n sz el) .nil):yw f args nl T0 n sz el:=
 xI.Th Oj mixed UM yP hf t h
def adx(t:sE)(x:Nat):PS:=⟨46,true,[(28,.e<|iP x),(27,.e<|iP t.iN.length),(26,.e<|kT t.iN),(1,.box 1 0)],[(1,.cells 43 [iP t.kU,kT t.iN,kB t.jU])]⟩
def adu(s:lr)(x:Nat):PS:=⟨85,true,[(31,.e<|iP x),(30,.e<|iP s.tape.iN.length),(29,.e<|kT s.tape.iN),(3,.box 3 0),(1,.box 1 0)],[(3,.cells 43 [iP s.tape.kU,kT s.tape.iN,kB s.tape.jU]),(1,.cells 45 [iP s.tape.kU,kT s.tape.iN,kB s.tape.jU,iP s.kO,iQ s.params])]⟩
noncomputable def adw(t:sE)(xs:List Iv)(p:Nat)(x:Nat):PS:=⟨75,true,[(26,.e<|iP x),(25,.e<|iP t.iN.length),(24,.e<|kT t.iN),(7,.own 22),(2,.e<|iP p)],[(22,.row true 38 ((kz t.iN xs p x).length) 7<|kK<|kz t.iN xs p x)]⟩
def abb(k:Nat)(h1:3<=k)(h2:k<=6):iA 248 [iP k]<|iP 2:=
 iM (ae [ai 5 ((k:Int)==1)<|bk aI]<|.w ((k:Int)=3)
  (λk1=>af [tB 7<|bl k1])
  (λk1=>ae [tB 7<|bk k1]<|.w ((k:Int)=4)
   (λk2=>af [tB 8<|bl k2])
   (λk2=>ae [tB 8<|bk k2]<|.w ((k:Int)=5)
    (λk3=>af [tB 9<|bl k3])
    (λk3=>ae [tB 9<|bk k3]<|.w ((k:Int)=6)
     (λk4=>af [tB 10<|bl k4])
     (λk4=>.x aI)))))
def R8(k:Nat)(h1:7<=k)(h2:k<=13):iA 248 [iP k]<|iP 1:=
 iM (ae [ai 5 ((k:Int)==1)<|bk aI,ai 7 ((k:Int)==3)<|bk aI,ai 8 ((k:Int)==4)<|bk aI,ai 9 ((k:Int)==5)<|bk aI,ai 10 ((k:Int)==6)<|bk aI]<|.w ((k:Int)=7)
  (λk1=>af [tB 12<|bl k1])
  (λk1=>ae [tB 12<|bk k1]<|.w ((k:Int)=8)
   (λk2=>af [tB 13<|bl k2])
   (λk2=>ae [tB 13<|bk k2]<|.w ((k:Int)=9)
    (λk3=>af [tB 14<|bl k3])
    (λk3=>ae [tB 14<|bk k3]<|.w ((k:Int)=10)
     (λk4=>af [tB 15<|bl k4])
     (λk4=>ae [tB 15<|bk k4]<|.w ((k:Int)=11)
      (λk5=>af [tB 16<|bl k5])
      (λk5=>ae [tB 16<|bk k5]<|.w ((k:Int)=12)
       (λk6=>af [tB 17<|bl k6])
       (λk6=>ae [tB 17<|bk k6]<|.w ((k:Int)=13)
        (λk7=>af [tB 18<|bl k7])
        (λk7=>.x aI))))))))
def aba(k:Nat)(h1:k=1):iA 248 [iP k]<|iP 0:=
 iM (af [ah 5 ((k:Int)==1)<|bl aI])
def anS{a b:Int}(h:jG a b=true):mi prog .eql 24 (.agg [iP a,iP b]) (.agg [iP 0,iP 0])<|.bool false:=by
 obtain⟨h1,h2,h3,h4⟩:=sW h;exact anR bj bj<|bE aI
section
variable{o:oG}{m:Nat}(h:rk o m)
def rk.OE(pB:o.kind≠1)(hk:o.kind<=6):3<=o.kind/\o.a<m/\o.b<m/\o.n=0/\o.cn=0/\o.cd=0:=by
 have h3:=h.k3.resolve_left pB;have ha:=h.a;have hb:=h.b;have hn:=h.n;have hc:=h.c;rw[bw pB]at ha hc;rw[bA ⟨h3,hk⟩]at hb;rw[bw aI]at hn;exact⟨h3,ha,hb,hn,hc.1,hc.2⟩
def rk.pow(hk:o.kind=8):o.a<m/\o.b=0/\o.n<=16/\o.cn=0/\o.cd=0:=by
 have ha:=h.a;have hb:=h.b;have hn:=h.n;have hc:=h.c;rw[bw aI]at ha hb hc;rw[bA hk]at hn;exact⟨ha,hb,hn,hc.1,hc.2⟩
def rk.un(hk:¬o.kind<=6)(yS:o.kind≠8):o.kind<=13/\o.a<m/\o.b=0/\o.n=0/\o.cn=0/\o.cd=0:=by
 have ha:=h.a;have hb:=h.b;have hn:=h.n;have hc:=h.c;rw[bw aI]at ha hb hc;rw[bw yS]at hn;exact⟨h.Rv,ha,hb,hn,hc.1,hc.2⟩
def rk.num(hk:o.kind=1):o.a=0/\o.b=0/\o.n=0/\jG o.cn o.cd=true:=by
 have ha:=h.a;have hb:=h.b;have hn:=h.n;have hc:=h.c;rw[bA hk]at ha hc;rw[bw aI]at hb hn;exact⟨ha,hb,hn,hc⟩
def rk.aet(hk:o.kind≠1):o.a<m:=by
 have ha:=h.a;rwa[bw hk]at ha
end
section
variable(o:oG)(m:Nat)(h:rk o m)
def aoy(hk:o.kind=1):iA 262 [yk o,iP m]<|bP true:=by
 obtain⟨h2,h3,h4,vd⟩:=h.num hk;exact iM<|af [ag [iP o.kind]<|aba _ aI,ai 14 (decide ((0:Int)<0)) aK,ah 17 ((0:Int)==0) aK,.c<|Sx o.cn o.cd,ah 20 (jG o.cn o.cd) vd,ai 26 ((o.kind:Int)==8)<|bk aI,ai 37 (decide ((0:Int)<0)) aK,ai 49 (decide ((1:Int)<0)) aK,.g (MB ⟨aI,aI,aI,aI,aI,aI⟩:mi prog .eql 134 (.agg [iP 0,iP o.a,iP o.b,iP o.n,iP 0,iP 0]) (.agg [iP 0,iP 0,iP 0,iP 0,iP 0,iP 0])<|.bool true)]
def aox(pB:o.kind≠1)(hk:o.kind<=6):iA 262 [yk o,iP m]<|bP true:=by
 obtain⟨h1,h2,h3,h4,h5,h6⟩:=h.OE pB hk;exact iM<|af [ag [iP o.kind]<|abb _ aI aI,ai 14 (decide ((2:Int)<0)) aK,ai 17 ((2:Int)==0) aK,ai 26 ((o.kind:Int)==8)<|bk aI,ah 37 (decide ((0:Int)<2)) aK,tF 40 ((o.a:Int)<0) aI,tF 45 ((m:Int)<=o.a) aI,ah 49 (decide ((1:Int)<2)) aK,tF 52 ((o.b:Int)<0) aI,tF 57 ((m:Int)<=o.b) aI,.g (MB ⟨aI,aI,aI,aI,aI,aI⟩:mi prog .eql 134 (.agg [iP 0,iP 0,iP 0,iP o.n,iP o.cn,iP o.cd]) (.agg [iP 0,iP 0,iP 0,iP 0,iP 0,iP 0])<|.bool true)]
def aoA(hk:o.kind=8):iA 262 [yk o,iP m]<|bP true:=by
 obtain⟨h2,h3,h4,h5,h6⟩:=h.pow hk;exact iM<|af [ag [iP o.kind]<|R8 _ aI aI,ai 14 (decide ((1:Int)<0)) aK,ai 17 ((1:Int)==0) aK,ah 26 ((o.kind:Int)==8)<|bl aI,tF 29 ((o.n:Int)<0) aI,tF 33 (16<(o.n:Int)) aI,ah 37 (decide ((0:Int)<1)) aK,tF 40 ((o.a:Int)<0) aI,tF 45 ((m:Int)<=o.a) aI,ai 49 (decide ((1:Int)<1)) aK,.g (MB ⟨aI,aI,aI,aI,aI,aI⟩:mi prog .eql 134 (.agg [iP 0,iP 0,iP o.b,iP 0,iP o.cn,iP o.cd]) (.agg [iP 0,iP 0,iP 0,iP 0,iP 0,iP 0])<|.bool true)]
def aoB(hk:¬o.kind<=6)(yS:o.kind≠8):iA 262 [yk o,iP m]<|bP true:=by
 obtain⟨h1,h2,h3,h4,h5,h6⟩:=h.un hk yS;exact iM<|af [ag [iP o.kind]<|R8 _ aI aI,ai 14 (decide ((1:Int)<0)) aK,ai 17 ((1:Int)==0) aK,ai 26 ((o.kind:Int)==8)<|bk aI,ah 37 (decide ((0:Int)<1)) aK,tF 40 ((o.a:Int)<0) aI,tF 45 ((m:Int)<=o.a) aI,ai 49 (decide ((1:Int)<1)) aK,.g (MB ⟨aI,aI,aI,aI,aI,aI⟩:mi prog .eql 134 (.agg [iP 0,iP 0,iP o.b,iP o.n,iP o.cn,iP o.cd]) (.agg [iP 0,iP 0,iP 0,iP 0,iP 0,iP 0])<|.bool true)]
def arW(hk:o.kind=1):iA 112 [yk o,iP m]<|bP true:=by
 obtain⟨h2,h3,h4,vd⟩:=h.num hk;exact iM<|af [tF 8 ((o.a:Int)<0) aI,tF 12 ((o.b:Int)<0) aI,.g (anS vd:mi prog .eql 24 (.agg [iP o.cn,iP o.cd]) (.agg [iP 0,iP 0])<|.bool false),ah 21 ((o.kind:Int)==1)<|bl aI,.c<|Sx o.cn o.cd,ah 24 (jG o.cn o.cd) vd,ah 28 ((o.a:Int)==0)<|bl aI,ah 33 ((o.b:Int)==0)<|bl aI,ah 38 ((o.n:Int)==0)<|bl aI]
def arV(pB:o.kind≠1)(hk:o.kind<=6):iA 112 [yk o,iP m]<|bP true:=by
 obtain⟨h1,h2,h3,h4,h5,h6⟩:=h.OE pB hk;exact iM (ae [tF 8 ((o.a:Int)<0) aI,tF 12 ((o.b:Int)<0) aI,.g (R5 ⟨aI,aI⟩:mi prog .eql 24 (.agg [iP o.cn,iP o.cd]) (.agg [iP 0,iP 0])<|.bool true),ai 21 ((o.kind:Int)==1)<|bk aI]<|.w ((o.kind:Int)=3)
  (λk1=>af [tB 41<|bl k1,tT 50 ((o.a:Int)<m) aI,tT 56 ((o.b:Int)<m) aI,ah 61 ((o.n:Int)==0)<|bl aI])
  (λk1=>ae [tB 41<|bk k1]<|.w ((o.kind:Int)=4)
   (λk2=>af [tB 42<|bl k2,tT 50 ((o.a:Int)<m) aI,tT 56 ((o.b:Int)<m) aI,ah 61 ((o.n:Int)==0)<|bl aI])
   (λk2=>ae [tB 42<|bk k2]<|.w ((o.kind:Int)=5)
    (λk3=>af [tB 43<|bl k3,tT 50 ((o.a:Int)<m) aI,tT 56 ((o.b:Int)<m) aI,ah 61 ((o.n:Int)==0)<|bl aI])
    (λk3=>ae [tB 43<|bk k3]<|.w ((o.kind:Int)=6)
     (λk4=>af [tB 44<|bl k4,tT 50 ((o.a:Int)<m) aI,tT 56 ((o.b:Int)<m) aI,ah 61 ((o.n:Int)==0)<|bl aI])
     (λk4=>.x aI)))))
def arY(hk:o.kind=8):iA 112 [yk o,iP m]<|bP true:=by
 obtain⟨h2,h3,h4,h5,h6⟩:=h.pow hk;exact iM<|af [tF 8 ((o.a:Int)<0) aI,tF 12 ((o.b:Int)<0) aI,.g (R5 ⟨aI,aI⟩:mi prog .eql 24 (.agg [iP o.cn,iP o.cd]) (.agg [iP 0,iP 0])<|.bool true),ai 21 ((o.kind:Int)==1)<|bk aI,ai 41 ((o.kind:Int)==3)<|bk aI,ai 42 ((o.kind:Int)==4)<|bk aI,ai 43 ((o.kind:Int)==5)<|bk aI,ai 44 ((o.kind:Int)==6)<|bk aI,ah 64 ((o.kind:Int)==8)<|bl aI,tT 70 ((o.a:Int)<m) aI,ah 75 ((o.b:Int)==0)<|bl aI,tT 80 (0<=(o.n:Int)) aI,tT 85 ((o.n:Int)<=16) aI]
def arZ(hk:¬o.kind<=6)(yS:o.kind≠8):iA 112 [yk o,iP m]<|bP true:=by
 obtain⟨h1,h2,h3,h4,h5,h6⟩:=h.un hk yS;exact iM (ae [tF 8 ((o.a:Int)<0) aI,tF 12 ((o.b:Int)<0) aI,.g (R5 ⟨aI,aI⟩:mi prog .eql 24 (.agg [iP o.cn,iP o.cd]) (.agg [iP 0,iP 0])<|.bool true),ai 21 ((o.kind:Int)==1)<|bk aI,ai 41 ((o.kind:Int)==3)<|bk aI,ai 42 ((o.kind:Int)==4)<|bk aI,ai 43 ((o.kind:Int)==5)<|bk aI,ai 44 ((o.kind:Int)==6)<|bk aI,ai 64 ((o.kind:Int)==8)<|bk aI]<|.w ((o.kind:Int)=7)
  (λk1=>af [tB 88<|bl k1,tT 99 ((o.a:Int)<m) aI,ah 104 ((o.b:Int)==0)<|bl aI,ah 109 ((o.n:Int)==0)<|bl aI])
  (λk1=>ae [tB 88<|bk k1]<|.w ((o.kind:Int)=9)
   (λk2=>af [tB 89<|bl k2,tT 99 ((o.a:Int)<m) aI,ah 104 ((o.b:Int)==0)<|bl aI,ah 109 ((o.n:Int)==0)<|bl aI])
   (λk2=>ae [tB 89<|bk k2]<|.w ((o.kind:Int)=10)
    (λk3=>af [tB 90<|bl k3,tT 99 ((o.a:Int)<m) aI,ah 104 ((o.b:Int)==0)<|bl aI,ah 109 ((o.n:Int)==0)<|bl aI])
    (λk3=>ae [tB 90<|bk k3]<|.w ((o.kind:Int)=11)
     (λk4=>af [tB 91<|bl k4,tT 99 ((o.a:Int)<m) aI,ah 104 ((o.b:Int)==0)<|bl aI,ah 109 ((o.n:Int)==0)<|bl aI])
     (λk4=>ae [tB 91<|bk k4]<|.w ((o.kind:Int)=12)
      (λk5=>af [tB 92<|bl k5,tT 99 ((o.a:Int)<m) aI,ah 104 ((o.b:Int)==0)<|bl aI,ah 109 ((o.n:Int)==0)<|bl aI])
      (λk5=>ae [tB 92<|bk k5]<|.w ((o.kind:Int)=13)
       (λk6=>af [tB 93<|bl k6,tT 99 ((o.a:Int)<m) aI,ah 104 ((o.b:Int)==0)<|bl aI,ah 109 ((o.n:Int)==0)<|bl aI])
       (λk6=>.x aI)))))))
def aoz:iA 262 [yk o,iP (m:Int)]<|bP true:=by
 by_cases pB:o.kind=1
 .exact aoy o m h pB
 by_cases hk:o.kind<=6
 .exact aox o m h pB hk
 .by_cases yS:o.kind=8
  .exact aoA o m h yS
  .exact aoB o m h hk yS
def arX:iA 112 [yk o,iP (m:Int)]<|bP true:=by
 by_cases pB:o.kind=1
 .exact arW o m h pB
 by_cases hk:o.kind<=6
 .exact arV o m h pB hk
 .by_cases yS:o.kind=8
  .exact arY o m h yS
  .exact arZ o m h hk yS
end
def ar9(t:sE)(k:Nat)(hk:k<t.kU+t.iN.length)(h8:t.kU<=8)(akI:t.iN.length<=200):iA 263 [iP k,(.ky 3 λj_=>[iP t.kU,kT t.iN,kB t.jU].getD j_ .any)]<|bP false:=
 iM (af [tF 5 ((k:Int)<0) aI,iL<|(t.kU:Int)+t.iN.length,tF 14 (((t.kU+t.iN.length:Nat):Int)<=k) aI])
def ady(t:sE)(h:EH t):iA 245 [CN t]<|bP true:=by
 have h8:=h.kU;have Iy:=h.iN;have Fz:=h.jU;exact iM (af [tF 7 ((t.kU:Int)<0) aI,tF 11 (8<(t.kU:Int)) aI,tF 17 (200<(t.iN.length:Int)) aI,tF 23 (200<(t.jU.length:Int)) aI,.s (Sp.kj (adx t) 0 t.iN.length aI (λx hx mr=>by
    have jf:=h.op x aI;exact jg (af [tT 29 ((x:Int)<t.iN.length) aI,iX (x:Int)<|t.iN.length,iL<|(t.kU:Int)+x,ag [yk<|t.iN.getD x kJ,iP ((t.kU+x:Nat):Int)]<|aoz _ _ jf,iL<|(x:Int)+1]) aM)
  (λhx=>by
    exact jg (af [tF 29 ((t.iN.length:Int)<t.iN.length) aI]) aM) aQ:ki 4 f245 (adx t 0) (.exit 0) ⟨46,true,[(1,.box 1 0)],[(1,.cells 43 [iP t.kU,kT t.iN,kB t.jU])]⟩) .nil,.c (ZB true _ _ 263 [(.ky 3 λj_=>[iP t.kU,kT t.iN,kB t.jU].getD j_ .any)] (λ_=>false) (λi hi=>ar9 t _ (h.out i hi) h8 Iy) aI λ_ _=>rfl:iA 113 [kB t.jU,.fn 263 [(.ky 3 λj_=>[iP t.kU,kT t.iN,kB t.jU].getD j_ .any)]] _)])
def ar0(t:sE)(k:Nat)(hk:k<t.kU+t.iN.length)(h8:t.kU<=8)(akI:t.iN.length<=200):iA 114 [iP k,(.ky 3 λj_=>[iP t.kU,kT t.iN,kB t.jU].getD j_ .any)]<|bP false:=
 iM (af [tF 5 ((k:Int)<0) aI,iL<|(t.kU:Int)+t.iN.length,tF 14 (((t.kU+t.iN.length:Nat):Int)<=k) aI])
def ar1(x:Iv)(hx:x.iD)(xa:x.all=false):iA 116 [iC x]<|bP false:=by
 obtain⟨w1,w2,w3⟩:=qs hx xa;exact iM<|af [ai 4 x.all xa,.c<|tI x.lo aJ,.c<|tI x.hi aJ,.c<|ss x.lo x.hi aJ aJ,tF 23 (0<(jI x.lo x.hi)) aI]
def Te(s:lr)(h:nQ s):iA 70 [lk s]<|bP true:=by
 have h8:=h.tape.kU;have Iy:=h.tape.iN;have Fz:=h.tape.jU;have s1:=h.s1;have s4:=h.s4;have ho:=h.jU;have hi:=h.kU;have p4:=h.p4;exact iM (af [tF 10 ((s.tape.kU:Int)<0) aI,tF 14 (8<(s.tape.kU:Int)) aI,tF 20 (200<(s.tape.iN.length:Int)) aI,tF 26 (200<(s.tape.jU.length:Int)) aI,.s (Sp.kj (adu s) 0 s.tape.iN.length aI (λx hx mr=>by
    have jf:=h.tape.op x aI;exact jg (af [tT 32 ((x:Int)<s.tape.iN.length) aI,iX (x:Int)<|s.tape.iN.length,iL<|(s.tape.kU:Int)+x,ag [yk<|s.tape.iN.getD x kJ,iP ((s.tape.kU+x:Nat):Int)]<|arX _ _ jf,iL<|(x:Int)+1]) aM)
  (λhx=>by
    exact jg (af [tF 32 ((s.tape.iN.length:Int)<s.tape.iN.length) aI]) aM) aQ:ki 5 Tryz.f70 (adu s 0) (.exit 0) ⟨85,true,[(3,.box 3 0),(1,.box 1 0)],[(3,.cells 43 [iP s.tape.kU,kT s.tape.iN,kB s.tape.jU]),(1,.cells 45 [iP s.tape.kU,kT s.tape.iN,kB s.tape.jU,iP s.kO,iQ s.params])]⟩) .nil,.c (ZB true _ _ 114 [(.ky 3 λj_=>[iP s.tape.kU,kT s.tape.iN,kB s.tape.jU].getD j_ .any)] (λ_=>false) (λi hi=>ar0 s.tape _ (h.tape.out i hi) h8 Iy) aI λ_ _=>rfl:iA 113 [kB s.tape.jU,.fn 114 [(.ky 3 λj_=>[iP s.tape.kU,kT s.tape.iN,kB s.tape.jU].getD j_ .any)]] _),tF 50 ((s.kO:Int)<1) aI,tF 54 (4<(s.kO:Int)) aI,ai 62 ((s.tape.jU.length:Int) != (s.kO:Int))<|D8,
  iL ((s.kO:Int)+s.params.length),ai 73 ((s.tape.kU:Int) != ((s.kO+s.params.length:Nat):Int))<|D8,tF 79 (4<(s.params.length:Int)) aI,.c (DY true _ _ 116 [] (λ_=>false) (λi hi=>ar1 _ (h.params i hi).1 (h.params i hi).2) aI λ_ _=>rfl:iA 115 [iQ s.params,.fn 116 []] _)])
def UT(o:oG)(x y:Iv)(p:Nat)(hx:x.iD)(hy:y.iD)(r1:3<=o.kind)(r2:o.kind<=13)(r3:o.n<=16)(iU:8<=p)(iJ:p<=512)(hF:o.kind<=8\/CT):iA 250 [iP o.kind,iP o.n,iC x,iC y,iP p]<|iC<|nR o x y p:=
 iM (.w ((o.kind:Int)=3)
  (λk1=>ae [tB 13<|bl k1,.c<|IW x y p aJ aJ]<|rQ (iC<|iZ x y p) (iC<|nR o x y p)<|by unfold nR;simp[(aI:o.kind=3)])
  (λk1=>ae [tB 13<|bk k1]<|.w ((o.kind:Int)=4)
   (λk2=>ae [tB 19<|bl k2,.c<|al6 x y p aJ aJ aI aI]<|rQ (iC<|jP x y p) (iC<|nR o x y p)<|by unfold nR;simp[(aI:¬o.kind=3),(aI:o.kind=4)])
   (λk2=>ae [tB 19<|bk k2]<|.w ((o.kind:Int)=5)
    (λk3=>ae [tB 25<|bl k3,.c<|Mf x y p aJ aJ]<|rQ (iC<|iO x y p) (iC<|nR o x y p)<|by unfold nR;simp[(aI:¬o.kind=3),(aI:¬o.kind=4),(aI:o.kind=5)])
    (λk3=>ae [tB 25<|bk k3]<|.w ((o.kind:Int)=6)
     (λk4=>ae [tB 31<|bl k4,.c<|alX x y p aJ aJ aI aI]<|rQ (iC<|jo x y p) (iC<|nR o x y p)<|by unfold nR;simp[(aI:¬o.kind=3),(aI:¬o.kind=4),(aI:¬o.kind=5),(aI:o.kind=6)])
     (λk4=>ae [tB 31<|bk k4]<|.w ((o.kind:Int)=7)
      (λk5=>ae [tB 37<|bl k5,.c<|ZI x aJ]<|rQ (iC<|lg x) (iC<|nR o x y p)<|by unfold nR;simp[(aI:¬o.kind=3),(aI:¬o.kind=4),(aI:¬o.kind=5),(aI:¬o.kind=6),(aI:o.kind=7)])
      (λk5=>ae [tB 37<|bk k5]<|.w ((o.kind:Int)=8)
       (λk6=>ae [tB 41<|bl k6,.c<|afc x o.n p aJ aI aI aI]<|rQ (iC<|r6 x o.n p) (iC<|nR o x y p)<|by unfold nR;simp[(aI:¬o.kind=3),(aI:¬o.kind=4),(aI:¬o.kind=5),(aI:¬o.kind=6),(aI:¬o.kind=7),(aI:o.kind=8)])
       (λk6=>ae [tB 41<|bk k6]<|.w ((o.kind:Int)=9)
        (λk7=>ae [tB 47<|bl k7,.c<|ajl x aJ p aI aI<|hF.resolve_left aI]<|rQ (iC<|E5 x p) (iC<|nR o x y p)<|by unfold nR;simp[(aI:¬o.kind=3),(aI:¬o.kind=4),(aI:¬o.kind=5),(aI:¬o.kind=6),(aI:¬o.kind=7),(aI:¬o.kind=8),(aI:o.kind=9)])
        (λk7=>ae [tB 47<|bk k7]<|.w ((o.kind:Int)=10)
         (λk8=>ae [tB 52<|bl k8,.c<|ajn x aJ p aI aI<|hF.resolve_left aI]<|rQ (iC<|E6 x p) (iC<|nR o x y p)<|by unfold nR;simp[(aI:¬o.kind=3),(aI:¬o.kind=4),(aI:¬o.kind=5),(aI:¬o.kind=6),(aI:¬o.kind=7),(aI:¬o.kind=8),(aI:¬o.kind=9),(aI:o.kind=10)])
         (λk8=>ae [tB 52<|bk k8]<|.w ((o.kind:Int)=11)
          (λk9=>ae [tB 57<|bl k9,.c<|ajp x aJ p aI aI<|hF.resolve_left aI]<|rQ (iC<|E7 x p) (iC<|nR o x y p)<|by unfold nR;simp[(aI:¬o.kind=3),(aI:¬o.kind=4),(aI:¬o.kind=5),(aI:¬o.kind=6),(aI:¬o.kind=7),(aI:¬o.kind=8),(aI:¬o.kind=9),(aI:¬o.kind=10),(aI:o.kind=11)])
          (λk9=>ae [tB 57<|bk k9]<|.w ((o.kind:Int)=12)
           (λk10=>ae [tB 62<|bl k10,.c<|ajj x aJ p aI aI<|hF.resolve_left aI]<|rQ (iC<|E4 x p) (iC<|nR o x y p)<|by unfold nR;simp[(aI:¬o.kind=3),(aI:¬o.kind=4),(aI:¬o.kind=5),(aI:¬o.kind=6),(aI:¬o.kind=7),(aI:¬o.kind=8),(aI:¬o.kind=9),(aI:¬o.kind=10),(aI:¬o.kind=11),(aI:o.kind=12)])
           (λk10=>ae [tB 62<|bk k10]<|.w ((o.kind:Int)=13)
            (λk11=>ae [tB 67<|bl k11,.c<|ajr x aJ p aI aI<|hF.resolve_left aI]<|rQ (iC<|E8 x p) (iC<|nR o x y p)<|by unfold nR;simp[(aI:¬o.kind=3),(aI:¬o.kind=4),(aI:¬o.kind=5),(aI:¬o.kind=6),(aI:¬o.kind=7),(aI:¬o.kind=8),(aI:¬o.kind=9),(aI:¬o.kind=10),(aI:¬o.kind=11),(aI:¬o.kind=12),(aI:o.kind=13)])
            (λk11=>.x aI))))))))))))
def VO{nl:Bool}{T n n' sz:Nat}{f g h:Nat->Nat->E}(hn:n=n')(hh:∀ i j,i<n->j<sz->g i j=h i j/\(h i j).nr 2=true):Bx.le (.row nl T (0+n) sz λi j=>if i<0 then f i j else g (i-0) j)<|.row nl T n' sz h:=
 .row aI λi j hi hj=>by
  have kG:i<n:= aI ;simp only[bM,bN,dT];exact⟨.jm (hh i j kG hj).1,(hh i j kG hj).2⟩
def aeQ(r:List Iv)(h0:0<r.length)(hl:r.length<=1000):yw 247 [iQ r] true 38 r.length 7<|kK r:=
 trn call247 func247 (ae [.a (aI:0<r.length),.bo,.a (aI:(0+r.length)*88<=140737488355328)]<|.rb (VO rfl λi j hi hj=>⟨rfl,Me _ _ hj⟩:Bx.le (.row true 38 (0+r.length) 7 λi_ j_=>if i_<0 then(λi_ j_=>([]:List E).getD (i_*7+j_)<|.v<|.bool false) i_ j_ else(E.jV<|iQ r) (i_-0) j_)<|.row true 38 r.length 7<|kK r)) aM 
def Tu{T n n' x:Nat}{t:sE}{xs:List Iv}{p:Nat}{y:Iv}(hn:n=(kz t.iN xs p x).length)(A5:n'=(kz t.iN xs p<|x+1).length)(hy:zC (t.iN.getD x kJ) (kz t.iN xs p x) p=y):
 Bx.le (.row true T (n+[y].length) 7 λi j=>if i<n then kK (kz t.iN xs p x) i j else(E.jV<|iQ [y]) (i-n) j) (.row true T n' 7<|kK<|kz t.iN xs p<|x+1):=by
 subst A5 hy;exact amc hn
def anV{o:oG}{m:Nat}(h:rk o m):o.n<=16:=by
 have:=h.n;split at this<;>omega
def ar7(t:sE)(xs:List Iv)(p:Nat)(h:EH t)(h1:1<=xs.length)(hx:xs.length=t.kU)(hv:pO xs)(iU:8<=p)(iJ:p<=512):iA 231 [CN t,iQ xs,iP p]<|iQ<|kz t.iN xs p t.iN.length:=by
 have h8:=h.kU;have Iy:=h.iN;exact iM (af [ag [CN t]<|ady _ aJ,ai 19 ((xs.length:Int) != (t.kU:Int))<|D8 hx,.cn (aeQ _ aI aI:yw 247 [iQ xs] true 38 xs.length 7<|kK xs),.s (Sp.kj (adw t xs p) 0 t.iN.length aI (λx hx mr=>by
    have jf:=h.op x aI;have zY:=NB t.iN hv (aI:1<=p) (aI:p<=4096) x;have hln:=Ts t.iN xs p x;have w1:=zY (t.iN.getD x kJ).a;by_cases pB:((t.iN.getD x kJ)).kind=1
    .have oM:((t.iN.getD x kJ)).kind=1:=pB;obtain⟨o1,o2,o3,vd⟩:=jf.num oM;have DO:zC (t.iN.getD x kJ) (kz t.iN xs p x) p=(kH (t.iN.getD x kJ).cn (t.iN.getD x kJ).cd p):=by unfold zC;rw[bA oM]
     have xi:=wM<|kH (t.iN.getD x kJ).cn (t.iN.getD x kJ).cd p;exact jg (ae [tT 27 ((x:Int)<t.iN.length) aI,iX (x:Int)<|t.iN.length,ag [iP ((t.iN.getD x kJ).kind:Int)]<|aba _ aI,ah 50 ((0:Int)==0) aK,.c<|apN ((t.iN.getD x kJ).cn) ((t.iN.getD x kJ).cd) p aJ aI aI,.o 71<|.e<|nT<|kH ((t.iN.getD x kJ).cn) ((t.iN.getD x kJ).cd) p,.a (aI:((kz t.iN xs p x).length+[kH ((t.iN.getD x kJ).cn) ((t.iN.getD x kJ).cd) p].length)*88<=140737488355328),iL<|(x:Int)+1]<|.e<|af [.b 22 (Tu rfl rfl DO:Bx.le (.row true 38 ((kz t.iN xs p x).length+[kH ((t.iN.getD x kJ).cn) ((t.iN.getD x kJ).cd) p].length) 7 λi_ j_=>if i_<(kz t.iN xs p x).length then(kK<|kz t.iN xs p x) i_ j_ else(E.jV<|iQ [kH ((t.iN.getD x kJ).cn) ((t.iN.getD x kJ).cd) p]) (i_-(kz t.iN xs p x).length) j_)<|.row true 38 ((kz t.iN xs p<|x+1).length) 7<|kK<|kz t.iN xs p<|x+1)]) aM 
    .by_cases hk:((t.iN.getD x kJ)).kind<=6
     .have Is:((t.iN.getD x kJ)).kind≠1:=pB;have oM:((t.iN.getD x kJ)).kind<=6:=hk;have DO:zC (t.iN.getD x kJ) (kz t.iN xs p x) p=(nR (t.iN.getD x kJ) ((kz t.iN xs p x).getD ((t.iN.getD x kJ).a) iH) ((kz t.iN xs p x).getD ((t.iN.getD x kJ).b) iH) p):=by unfold zC OF;rw[bw Is,bC oM];rfl
      obtain⟨o1,o2,o3,o4,o5,o6⟩:=jf.OE Is oM;have w2:=zY (t.iN.getD x kJ).b;have o7:=jf.Rv;have xi:=wM<|nR (t.iN.getD x kJ) ((kz t.iN xs p x).getD ((t.iN.getD x kJ).a) iH) ((kz t.iN xs p x).getD ((t.iN.getD x kJ).b) iH) p;exact jg (ae [tT 27 ((x:Int)<t.iN.length) aI,iX (x:Int)<|t.iN.length,ag [iP ((t.iN.getD x kJ).kind:Int)]<|abb _ aI aI,ai 50 ((2:Int)==0) aK,ai 56 ((2:Int)==1) aK,iX ((t.iN.getD x kJ).a:Int)<|(kz t.iN xs p x).length,.a (aI:(t.iN.getD x kJ).a<(kz t.iN xs p x).length),iX ((t.iN.getD x kJ).b:Int)<|(kz t.iN xs p x).length,.a (aI:(t.iN.getD x kJ).b<(kz t.iN xs p x).length),ag [iP ((t.iN.getD x kJ).kind:Int),iP ((t.iN.getD x kJ).n:Int),iC<|(kz t.iN xs p x).getD (t.iN.getD x kJ).a iH,iC<|(kz t.iN xs p x).getD (t.iN.getD x kJ).b iH,iP p]<|UT (t.iN.getD x kJ) _ _ _ aJ aJ aI aI aI aI aI jf.f,.o 71<|.e<|nT<|nR (t.iN.getD x kJ) ((kz t.iN xs p x).getD (t.iN.getD x kJ).a iH) ((kz t.iN xs p x).getD (t.iN.getD x kJ).b iH) p,.a (aI:((kz t.iN xs p x).length+[nR (t.iN.getD x kJ) ((kz t.iN xs p x).getD (t.iN.getD x kJ).a iH) ((kz t.iN xs p x).getD (t.iN.getD x kJ).b iH) p].length)*88<=140737488355328),
       iL ((x:Int)+1)]<|.e<|af [.b 22 (Tu rfl rfl DO:Bx.le (.row true 38 ((kz t.iN xs p x).length+[nR (t.iN.getD x kJ) ((kz t.iN xs p x).getD (t.iN.getD x kJ).a iH) ((kz t.iN xs p x).getD (t.iN.getD x kJ).b iH) p].length) 7 λi_ j_=>if i_<(kz t.iN xs p x).length then(kK<|kz t.iN xs p x) i_ j_ else(E.jV<|iQ [nR (t.iN.getD x kJ) ((kz t.iN xs p x).getD (t.iN.getD x kJ).a iH) ((kz t.iN xs p x).getD (t.iN.getD x kJ).b iH) p]) (i_-(kz t.iN xs p x).length) j_)<|.row true 38 ((kz t.iN xs p<|x+1).length) 7<|kK<|kz t.iN xs p<|x+1)]) aM 
     .have Is:((t.iN.getD x kJ)).kind≠1:=pB;have oM:¬((t.iN.getD x kJ)).kind<=6:=hk;have DO:zC (t.iN.getD x kJ) (kz t.iN xs p x) p=(nR (t.iN.getD x kJ) ((kz t.iN xs p x).getD ((t.iN.getD x kJ).a) iH) iH p):=by unfold zC OF;rw[bw Is,bE oM];rfl
      have w2:=nP;have o2:=jf.aet Is;have o7:=jf.Rv;have o8:=anV jf;have xi:=wM<|nR (t.iN.getD x kJ) ((kz t.iN xs p x).getD ((t.iN.getD x kJ).a) iH) iH p;exact jg (ae [tT 27 ((x:Int)<t.iN.length) aI,iX (x:Int)<|t.iN.length,ag [iP ((t.iN.getD x kJ).kind:Int)]<|R8 _ aI aI,ai 50 ((1:Int)==0) aK,ah 56 ((1:Int)==1) aK,iX ((t.iN.getD x kJ).a:Int)<|(kz t.iN xs p x).length,.a (aI:(t.iN.getD x kJ).a<(kz t.iN xs p x).length),.o 66 (.e J0:aj (.agg [bP false,.v<|.slice none 0 0,iP 0,bP false,.v<|.slice none 0 0,iP 0,bP true])<|iC iH),ag [iP ((t.iN.getD x kJ).kind:Int),iP ((t.iN.getD x kJ).n:Int),iC<|(kz t.iN xs p x).getD (t.iN.getD x kJ).a iH,iC iH,iP p]<|UT (t.iN.getD x kJ) _ _ _ aJ aJ aI aI aI aI aI jf.f,.o 71<|.e<|nT<|nR (t.iN.getD x kJ) ((kz t.iN xs p x).getD (t.iN.getD x kJ).a iH) iH p,.a (aI:((kz t.iN xs p x).length+[nR (t.iN.getD x kJ) ((kz t.iN xs p x).getD (t.iN.getD x kJ).a iH) iH p].length)*88<=140737488355328),iL<|(x:Int)+1]<|.e<|af [.b 22 (Tu rfl rfl DO:Bx.le (.row true 38 ((kz t.iN xs p x).length+[nR (t.iN.getD x kJ) ((kz t.iN xs p x).getD (t.iN.getD x kJ).a iH) iH p].length) 7 λi_ j_=>if i_<(kz t.iN xs p x).length then(kK<|kz t.iN xs p x) i_ j_ else(E.jV<|iQ [nR (t.iN.getD x kJ) ((kz t.iN xs p x).getD (t.iN.getD x kJ).a iH) iH p]) (i_-(kz t.iN xs p x).length) j_)<|.row true 38 ((kz t.iN xs p<|x+1).length) 7<|kK<|kz t.iN xs p<|x+1)]) aM)
  (λhx=>by
    exact jg (ae [tF 27 ((t.iN.length:Int)<t.iN.length) aI,.z 22]<|.e<|af [.o 7 (.e<|Aa aP:aj (.sl true ((kz t.iN xs p t.iN.length).length) 7<|kK<|kz t.iN xs p t.iN.length)<|iQ<|kz t.iN xs p t.iN.length)]) aM) aQ:ki 5 f231 (adw t xs p 0) (.exit 0) ⟨75,true,[(7,.e<|iQ<|kz t.iN xs p t.iN.length)],[]⟩)<|af [.b 22<|.refl<|.row true 38 ((kz t.iN xs p 0).length) 7<|kK<|kz t.iN xs p 0]])
def o9(m:List<|List Iv):Nat->List Iv
 | 0=>[]
 |k+1=>o9 m k++m.getD k []
def OT(m:List<|List Iv)(k:Nat):(o9 m<|k+1).length=(o9 m k).length+(m.getD k []).length:=by simp[o9]
def amb{T n n':Nat}{xs r:List Iv}(hn:n=xs.length)(A5:n'=(xs++r).length):Bx.le (.row true T (n+r.length) 7 λi j=>if i<n then kK xs i j else(E.jV<|iQ r) (i-n) j)<|.row true T n' 7<|kK<|xs++r:=by
 subst hn A5;refine .row aP λi j hi hj=>⟨.jm ?_,Me _ _ hj⟩
 by_cases h:i<xs.length
 .rw [bA h];show(ju<|xs.getD i iH).getD j .any=(ju<|(xs++r).getD i iH).getD j .any;congr 2;simp[bJ,fY h]
 .rw [bw h];show(ju<|r.getD (i-xs.length) iH).getD j .any=(ju<|(xs++r).getD i iH).getD j .any;congr 2;simp[bJ,gF (aI:xs.length<=i)]
def aam(a b:List Iv):E.le (.sl true 2 1 λi j=>[iQ a,iQ b].getD (i*1+j)<|.v<|.bool false)<|tc [a,b]:=.sl λi j hi hj=>by
 obtain rfl:j=0:= aI ;obtain rfl|rfl:i=0\/i=1:= aI 
 all_goals exact⟨.refl _,rfl⟩
def aqM{n:Nat}:E.le (.sl true n 1 λk _=>.sl true ((λ_=>0) k) 7<|(λ_ _ _=>.any) k)<|tc<|List.replicate n []:=by
 have h:tc (List.replicate n []) = .sl true n 1 λi _=>iQ ((List.replicate n []).getD i []):=by unfold tc;rw[List.length_replicate]
 rw[h];refine .sl λi j hi hj=>⟨?_,rfl⟩
 have e:(List.replicate n ([]:List Iv)).getD i []=[]:=by simp[bJ,hi]
 rw[e];exact .sl λq _ hq _=>absurd hq<|bM _
section
variable(m:List<|List Iv)(x:Nat)
def VW:PS:=⟨36,true,[(11,.e<|iP x),(10,.e<|iP m.length),(9,.e<|tc m),(3,.e<|iP ((o9 m x).length:Int)),(0,.e<|tc m)],[]⟩
def VX:PS:=⟨36,true,[(27,.e<|iP x),(26,.e<|iP m.length),(25,.e<|tc m),(6,.own 24)],[(24,.row true 38 ((o9 m x).length) 7<|kK<|o9 m x)]⟩
end
section
variable(t:sE)(xs:List Iv)(p:Nat)(x:Nat)
noncomputable def XW:PS:=⟨91,true,[(43,.e<|iP x),(42,.e<|iP 0),(11,.own 41),(10,.e<|iQ<|kz t.iN xs p t.iN.length),(4,.box 4 0),(3,.e<|iP p)],[(41,.nL true 36 38 t.jU.length 7 (λ_=>0) (λ_ _ _=>.any) .none),(4,.cells 43 [iP t.kU,kT t.iN,kB t.jU])]⟩
noncomputable def XV:PS:=⟨91,true,[(16,.own 16),(77,.e<|iP x),(76,.e<|iP t.jU.length),(75,.e<|kB t.jU),(11,.own 41),(10,.e<|iQ<|kz t.iN xs p t.iN.length)],[(16,.row true 38 x 7<|kK<|(List.range x).map λj_=>(kz t.iN xs p t.iN.length).getD (t.jU.getD j_ 0) iH),(41,.nL true 36 38 t.jU.length 7 (λ_=>0) (λ_ _ _=>.any) .none)]⟩
end
def ahx(m:List<|List Iv)(hl:m.length<=1000)(hb:∀ k,k<=m.length->(o9 m k).length<=1000):iA 207 [tc m]<|iQ<|o9 m m.length:=by
 have yO:=hb m.length<|bB _;exact iM (af [.s (Sp.kj (VW m) 0 m.length aI (λx hx mr=>by
    have lu:=hb (x+1) aI;rw[OT]at lu;exact jg (ae [tT 12 ((x:Int)<m.length) aI,iX (x:Int)<|m.length,iL<|((o9 m x).length:Int)+((m.getD x []).length:Int),tF 20 ((((o9 m x).length+(m.getD x []).length:Nat):Int)<0) aI,iL<|(x:Int)+1]<|.e<|af [.o 3<|ar (((o9 m x).length+(m.getD x []).length:Nat):Int) ((o9 m<|x+1).length:Int)<|by rw[OT]]) aM)
  (λhx=>by
    exact jg (af [tF 12 ((m.length:Int)<m.length) aI]) aM) aQ:ki 3 f207 (VW m 0) (.exit 0) ⟨36,true,[(3,.e<|iP ((o9 m m.length).length:Int)),(0,.e<|tc m)],[]⟩)<|af [.o 3<|ar 0 ((o9 m 0).length:Int) rfl],.cn (akE _ aI:yw 233 [.v<|.slice none 0 0,iP ((o9 m m.length).length:Int)] true 38 0 7<|kK []),.s (Sp.kj (VX m) 0 m.length aI (λx hx mr=>by
    have lu:=hb (x+1) aI;rw[OT]at lu;exact jg (ae [tT 28 ((x:Int)<m.length) aI,iX (x:Int)<|m.length,.a (aI:((o9 m x).length+(m.getD x []).length)*88<=140737488355328),iL<|(x:Int)+1]<|.e<|af [.b 24 (amb rfl rfl:Bx.le (.row true 38 ((o9 m x).length+(m.getD x []).length) 7 λi_ j_=>if i_<(o9 m x).length then(kK<|o9 m x) i_ j_ else(E.jV<|iQ<|m.getD x []) (i_-(o9 m x).length) j_)<|.row true 38 ((o9 m<|x+1).length) 7<|kK<|o9 m<|x+1)]) aM)
  (λhx=>by
    exact jg (ae [tF 28 ((m.length:Int)<m.length) aI,.z 24]<|.e<|af [.o 6 (.e<|Aa aP:aj (.sl true ((o9 m m.length).length) 7<|kK<|o9 m m.length)<|iQ<|o9 m m.length)]) aM) aQ:ki 11 f207 (VX m 0) (.exit 2) ⟨36,true,[(6,.e<|iQ<|o9 m m.length)],[]⟩)<|af [.b 24<|.refl<|.row true 38 ((o9 m 0).length) 7<|kK<|o9 m 0]])
def Wm(a b:List Iv)(ha:a.length<=400)(hb:b.length<=400):iA 207 [tc [a,b]]<|iQ<|a++b:=by
 have e1:o9 [a,b] 1=a:=rfl;have e2:o9 [a,b] 2=a++b:=rfl;have:=ahx [a,b] aP λk hk=>by
  have hk:k<=2:=hk;rcases k with _|_|_|k
  .exact cA _
  .rw [e1];omega
  .rw [e2,c9];omega
  .omega
 rwa[show[a,b].length=2 from rfl,e2]at this
def PN(p:Int):iA 205 [iP p]<|bP<|mH p:=
 iM (.w (8<=p)
  (λk1=>ae [tB 4<|bC k1]<|rQ (bP<|decide (p<=512)) (bP<|mH p)<|by unfold mH;simp[k1])
  (λk1=>ae [tB 4<|bE k1]<|rQ (bP false) (bP<|mH p)<|by unfold mH;simp[k1]))
def ajM(x:Iv)(hx:x.iD):iA 246 [iC x]<|bP false:=
 iM (af [.c<|z8 x aJ])
section
variable(t:sE)(xs:List Iv)(p:Nat)
def ajN(h:EH t)(h1:1<=xs.length)(hx:xs.length=t.kU)(hv:pO xs)(iU:8<=p)(iJ:p<=512):iA 230 [CN t,iQ xs,iP p]<|bP true:=by
 have h8:=h.kU;exact iM<|af [.c<|ady t aJ,ah 14 ((xs.length:Int)==t.kU)<|RU hx,ag [iP p]<|PN _,ah 18 (mH (p:Int))<|sC.2 ⟨aI,aI⟩,.c (DY true _ _ 246 [] (λ_=>false) (λi hi=>ajM _<|hv i) aI λ_ _=>rfl:iA 115 [iQ xs,.fn 246 []] _)]
def ajv:(List.range t.jU.length).map (λj=>(kz t.iN xs p t.iN.length).getD (t.jU.getD j 0) iH)=kN t xs p:=by
 unfold kN;apply ia;intro i;rw[dA,dA];by_cases hi:i<t.jU.length
 .rw [bS<|by simpa using hi,bS hi];simp[bJ,hi]
 .rw [dp<|by simpa using hi,dp aI];rfl
def XX(h:EH t)(h1:1<=xs.length)(hx:xs.length=t.kU)(hv:pO xs)(iU:8<=p)(iJ:p<=512):iA 206 [CN t,iQ xs,iP 0,iP p]<|.iK [iQ<|kN t xs p,tc<|List.replicate t.jU.length []]:=by
 have h8:=h.kU;have Iy:=h.iN;have Fz:=h.jU;exact iM (ae [ag [CN t,iQ xs,iP p]<|ajN _ _ _ h h1 hx hv aI aI,ai 26 (decide ((0:Int)<0)) aK,tF 32 ((t.kU:Int)<0) aI,.c<|ar7 t xs p h h1 hx hv aI aI,.a (aI:0<=((t.jU.length:Int):Int)/\((t.jU.length:Int):Int)<=((t.jU.length:Int):Int)),.a (aI:((24:Nat):Int)*(t.jU.length:Int)<=281474976710656/\((t.jU.length:Int):Int)<=9223372036854775807),.s (Sp.kj (XW t xs p) 0 0 aI (λx hx mr=>by
    exact absurd mr<|bM _)
  (λhx=>by
    exact jg (af [ai 44 (decide ((0:Int)<0)) aK]) aM) aQ:ki 6 f206 (XW t xs p 0) (.exit 0) ⟨91,true,[(11,.own 41),(10,.e<|iQ<|kz t.iN xs p t.iN.length),(4,.box 4 0)],[(41,.nL true 36 38 t.jU.length 7 (λ_=>0) (λ_ _ _=>.any) .none),(4,.cells 43 [iP t.kU,kT t.iN,kB t.jU])]⟩) .nil,.y 16 16 true 38 7<|kK<|(List.range 0).map λj_=>(kz t.iN xs p t.iN.length).getD (t.jU.getD j_ 0) iH,.s (Sp.kj (XV t xs p) 0 t.jU.length aI (λx hx mr=>by
    have hot:=h.out x aI;have hln:=Ts t.iN xs p t.iN.length;have xi:=wM<|(kz t.iN xs p t.iN.length).getD (t.jU.getD x 0) iH;exact jg (ae [tT 78 ((x:Int)<t.jU.length) aI,iX (x:Int)<|t.jU.length,iX (t.jU.getD x 0:Int)<|(kz t.iN xs p t.iN.length).length,.o 86<|.e<|nT<|(kz t.iN xs p t.iN.length).getD (t.jU.getD x 0) iH,.a (aI:(x+[(kz t.iN xs p t.iN.length).getD (t.jU.getD x 0) iH].length)*88<=140737488355328),
     iL ((x:Int)+1)]<|.e<|af [.b 16 (yZ rfl rfl rfl:Bx.le (.row true 38 (x+[(kz t.iN xs p t.iN.length).getD (t.jU.getD x 0) iH].length) 7 λi_ j_=>if i_<x then(kK<|(List.range x).map λj_=>(kz t.iN xs p t.iN.length).getD (t.jU.getD j_ 0) iH) i_ j_ else(E.jV<|iQ [(kz t.iN xs p t.iN.length).getD (t.jU.getD x 0) iH]) (i_-x) j_)<|.row true 38 (x+1) 7<|kK<|(List.range<|x+1).map λj_=>(kz t.iN xs p t.iN.length).getD (t.jU.getD j_ 0) iH)]) aM)
  (λhx=>by
    exact jg (ae [tF 78 ((t.jU.length:Int)<t.jU.length) aI,.z 16]<|.e<|af [.o 16 (.e<|Aa aP:aj (.sl true t.jU.length 7<|kK<|(List.range t.jU.length).map λj_=>(kz t.iN xs p t.iN.length).getD (t.jU.getD j_ 0) iH)<|iQ<|(List.range t.jU.length).map λj_=>(kz t.iN xs p t.iN.length).getD (t.jU.getD j_ 0) iH)]) aM) aQ:ki 17 f206 (XV t xs p 0) (.exit 4) ⟨91,true,[(16,.e<|iQ<|(List.range t.jU.length).map λj_=>(kz t.iN xs p t.iN.length).getD (t.jU.getD j_ 0) iH),(11,.own 41)],[(41,.nL true 36 38 t.jU.length 7 (λ_=>0) (λ_ _ _=>.any) .none)]⟩) .nil]<|rR (.iK [iQ<|kN t xs p,tc<|List.replicate t.jU.length []]) (.iK<|.cons (.jm<|by rw[ajv])<|.cons aqM .nil:E.le (.iK [iQ<|(List.range t.jU.length).map λj_=>(kz t.iN xs p t.iN.length).getD (t.jU.getD j_ 0) iH,(.sl true t.jU.length 1 λk_ _=>.sl true ((λ_=>0) k_) 7<|(λ_ _ _=>.any) k_)])<|.iK [iQ<|kN t xs p,tc<|List.replicate t.jU.length []]))
end
def ajI(x:Iv):iA 229 [iC x]<|bP x.all:=
 iM (.nil)
def Hv(l:List Iv)(hl:l.length<=1000:=by omega):iA 203 [iQ l]<|bP<|rN l:=
 iM (af [.c (al7 true _ _ 229 [] (λi=>(l.getD i iH).all) (λi hi=>ajI _) aI:iA 115 [iQ l,.fn 229 []] _)])
def XS(x:Iv)(hx:x.iD):iA 204 [iC x]<|bP false:=
 iM (af [.c<|z8 x aJ])
def aqw(n:Nat)(hn:n<=1000):iA 208 [tc<|List.replicate n [],.fn 203 []]<|bP false:=by
 have e:∀ i,i<n->(List.replicate n ([]:List Iv)).getD i []=[]:=λi hi=>by simp[bJ,hi]
 refine aqI true _ _ 203 [] (λ_=>false) (λi hi=>?_) (by simpa using by omega) λ_ _=>rfl;have kG:i<n:=by simpa using hi
 show iA 203 [iQ<|(List.replicate n []).getD i []] _;rw[e i kG];exact Hv [] aP 
def aaW{l:List Iv}(h:rj l):rN l=false:=by
 unfold rN;rw[dW];intro i hi;rw[(h i<|dr.1 hi).2];decide
def KK{s:lr}{b:List Iv}(h:nQ s)(hb:lR s.kO b):EH s.tape/\1<=(b++s.params).length/\(b++s.params).length=s.tape.kU/\pO (b++s.params):=by
 have h1:=h.s1;have h2:=h.kU;have h3:=hb.len;refine⟨h.tape,?_,?_,hb.ok.Tq.append h.params.Tq⟩
 .rw [c9];omega
 .rw [c9];omega
section
variable(s:lr)(b:List Iv)(p:Nat)(h:nQ s)(hb:lR s.kO b)(iU:8<=p)(iJ:p<=512)
def ajJ(hn:rN (kN s.tape (b++s.params) p)=true):iA 163 [lk s,iQ b,iP 0,iP p]<|.iK [.v<|.slice none 0 0,.v<|.slice none 0 0,iP 11]:=by
 have s4:=h.s4;have p4:=h.p4;have LK:=hb.len;have Fz:=h.tape.jU;have DB:=aaW hb.ok;have Fm:=Lf s.tape (b++s.params) p;obtain⟨f1,f2,f3,f4⟩:=KK h hb;exact iM<|af [.c<|Te s aJ,ai 21 ((b.length:Int) != (s.kO:Int))<|D8 hb.len,ag [iQ b]<|Hv _,ai 25 (rN b) DB,.c (DY true _ _ 204 [] (λ_=>false) (λi hi=>XS _ (hb.ok i hi).1) aI λ_ _=>rfl:iA 115 [iQ b,.fn 204 []] _),ag [iP p]<|PN _,ah 32 (mH (p:Int))<|sC.2 ⟨aI,aI⟩,.o 40<|.e<|aam b s.params,ag [tc [b,s.params]]<|Wm b s.params aI aI,ag [CN s.tape,iQ<|b++s.params,iP 0,iP p]<|XX _ _ _ f1 f2 f3 f4 aI aI,ag [iQ<|kN s.tape (b++s.params) p]<|Hv _,ah 48 (rN<|kN s.tape (b++s.params) p) hn]
def ajK(hn:rN (kN s.tape (b++s.params) p)=false):iA 163 [lk s,iQ b,iP 0,iP p]<|.iK [iQ<|kN s.tape (b++s.params) p,tc<|List.replicate s.tape.jU.length [],iP 0]:=by
 have s4:=h.s4;have p4:=h.p4;have LK:=hb.len;have Fz:=h.tape.jU;have DB:=aaW hb.ok;have Fm:=Lf s.tape (b++s.params) p;obtain⟨f1,f2,f3,f4⟩:=KK h hb;exact iM<|af [.c<|Te s aJ,ai 21 ((b.length:Int) != (s.kO:Int))<|D8 hb.len,ag [iQ b]<|Hv _,ai 25 (rN b) DB,.c (DY true _ _ 204 [] (λ_=>false) (λi hi=>XS _ (hb.ok i hi).1) aI λ_ _=>rfl:iA 115 [iQ b,.fn 204 []] _),ag [iP p]<|PN _,ah 32 (mH (p:Int))<|sC.2 ⟨aI,aI⟩,.o 40<|.e<|aam b s.params,ag [tc [b,s.params]]<|Wm b s.params aI aI,ag [CN s.tape,iQ<|b++s.params,iP 0,iP p]<|XX _ _ _ f1 f2 f3 f4 aI aI,ag [iQ<|kN s.tape (b++s.params) p]<|Hv _,ai 48 (rN<|kN s.tape (b++s.params) p) hn,ag [tc<|List.replicate s.tape.jU.length [],.fn 203 []]<|aqw _ aI]
def ajL(hn:rN (kN s.tape (b++s.params) p)=true):iA 105 [lk s,iQ b,iP p]<|.iK [.v<|.slice none 0 0,iP 11]:=
 iM (af [ag [lk s,iQ b,iP 0,iP p]<|ajJ _ _ _ h hb iU iJ hn])
def XT(hn:rN (kN s.tape (b++s.params) p)=false):iA 105 [lk s,iQ b,iP p]<|.iK [iQ<|kN s.tape (b++s.params) p,iP 0]:=
 iM (af [ag [lk s,iQ b,iP 0,iP p]<|ajK _ _ _ h hb iU iJ hn])
end
section
variable(s:lr)(x:List Iv)(d:Dy)
noncomputable def Zq(b:List Iv)(p:Nat)(N:Nat)(i:Nat):PS:=⟨66,true,[(14,.own 14),(42,.e<|iP i),(41,.e<|iP x.length),(13,.box 13 0),(11,.e<|iQ<|kN s.tape (b++s.params) p),(1,.e<|iQ x),(4,.e<|iP p)],[(14,.row true 38 i 7<|kK<|(List.range i).map λj_=>(iZ (x.getD j_ iH) (iO (nt d) ((kN s.tape (b++s.params) p).getD j_ iH) p) p)),(13,.cells 38<|av++ke d++[bP false])]⟩
noncomputable def Zr(b:List Iv)(p:Nat)(i:Nat):PS:=⟨66,true,[(14,.own 14),(42,.e<|iP i),(41,.e<|iP x.length),(13,.box 13 0),(11,.e<|iQ<|kN s.tape (b++s.params) p),(1,.e<|iQ x),(4,.e<|iP p)],[(14,.row true 38 i 7<|kK<|(List.range i).map λj_=>(iZ (x.getD j_ iH) (iO (nt d) ((kN s.tape (b++s.params) p).getD j_ iH) p) p)),(13,.cells 38<|av++ke d++[bP false])]⟩
section
variable(p:Nat)
def W8(N:Nat)(k:Nat):PS:=⟨55,true,[(22,.e<|iP k),(10,.qb 31 [.box 5,.box 4,.box 6,.box 7]),(7,.box 7 0),(6,.box 6 0),(5,.box 5 0),(4,.box 4 0)],[(7,.cells 3 [iP p]),(6,.cells 31<|ke d),(5,.cells 36 [iQ x]),(4,.cells 45 [iP s.tape.kU,kT s.tape.iN,kB s.tape.jU,iP s.kO,iQ s.params])]⟩
def W9(k:Nat):PS:=⟨55,true,[(22,.e<|iP k),(10,.qb 31 [.box 5,.box 4,.box 6,.box 7]),(7,.box 7 0),(6,.box 6 0),(5,.box 5 0),(4,.box 4 0)],[(7,.cells 3 [iP p]),(6,.cells 31<|ke d),(5,.cells 36 [iQ x]),(4,.cells 45 [iP s.tape.kU,kT s.tape.iN,kB s.tape.jU,iP s.kO,iQ s.params])]⟩
noncomputable def Xc(N:Nat)(j:Nat):PS:=⟨55,true,[(36,.e<|iP j),(14,.e<|iQ<|mK s x d p j),(7,.box 7 0),(6,.box 6 0),(5,.box 5 0),(4,.box 4 0)],[(7,.cells 3 [iP p]),(6,.cells 31<|ke d),(5,.cells 36 [iQ x]),(4,.cells 45 [iP s.tape.kU,kT s.tape.iN,kB s.tape.jU,iP s.kO,iQ s.params])]⟩
def Xa(k:Nat):PS:=⟨55,true,[(22,.e<|iP k),(10,.qb 31 [.box 5,.box 4,.box 6,.box 7]),(7,.box 7 0),(6,.box 6 0),(5,.box 5 0),(4,.box 4 0)],[(7,.cells 3 [iP p]),(6,.cells 31<|ke d),(5,.cells 36 [iQ x]),(4,.cells 45 [iP s.tape.kU,kT s.tape.iN,kB s.tape.jU,iP s.kO,iQ s.params])]⟩
noncomputable def Xd(j:Nat):PS:=⟨55,true,[(36,.e<|iP j),(14,.e<|iQ<|mK s x d p j),(7,.box 7 0),(6,.box 6 0),(5,.box 5 0),(4,.box 4 0)],[(7,.cells 3 [iP p]),(6,.cells 31<|ke d),(5,.cells 36 [iQ x]),(4,.cells 45 [iP s.tape.kU,kT s.tape.iN,kB s.tape.jU,iP s.kO,iQ s.params])]⟩
end
end
def afn(x:Iv)(hx:x.iD)(xa:x.all=false):iA 117 [iC x]<|bP false:=
 iM (af [.c<|z8 x aJ,ai 8 x.all xa])
def KF(s:lr)(b:List Iv)(hb:lR s.kO b)(h4:s.kO<=4):iA 71 [lk s,iQ b]<|bP true:=by
 have LK:=hb.len;exact iM<|af [ah 9 ((b.length:Int)==s.kO)<|RU hb.len,.c (DY true _ _ 117 [] (λ_=>false) (λi hi=>afn _ (hb.ok i hi).1 (hb.ok i hi).2) aI λ_ _=>rfl:iA 115 [iQ b,.fn 117 []] _)]
section
variable(s:lr)(x:List Iv)(d:Dy)
def Dp(p:Nat)(h:nQ s)(hx:lR s.kO x)(hd:d.iD)(h0:0<d.jB)(iU:8<=p)(iJ:p<=512):iA 30 [lk s,iQ x,iF d,iP p]<|bP true:=by
 have s4:=h.s4;exact iM<|af [.c<|Te s aJ,ag [lk s,iQ x]<|KF _ _ hx aI,.c<|tI d aJ,.c<|vO d aJ,tB 23<|bC h0,tT 27 (8<=(p:Int)) aI,tT 31 ((p:Int)<=512) aI]
def alH(b:List Iv)(p:Nat)(h:nQ s)(hx:lR s.kO x)(hd:d.iD)(h0:0<d.jB)(hb:lR s.kO b)(iU:8<=p)(iJ:p<=512)(hn:rN (kN s.tape (b++s.params) p)=true):iA 57 [lk s,iQ x,iF d,iQ b,iP p]<|.v<|.slice none 0 0:=by
 have s4:=h.s4;exact iM<|af [ag [lk s,iQ x,iF d,iP p]<|Dp _ _ _ _ h hx hd h0 iU iJ,ag [lk s,iQ b]<|KF _ _ hb s4,.c<|ajL s b p h hb iU iJ hn,ah 37 ((11:Int) != 0) aK]
end
def S7(d:Dy):E.le (.agg<|av++ke d++[bP false])<|iC<|nt d:=
 .agg (.cons (.refl _)<|.cons FO<|.cons (.refl _)<|.cons (.refl _)<|.cons (.refl _)<|.cons (.refl _)<|.cons (.refl _) .nil)
section
variable(s:lr)(x:List Iv)(d:Dy)(b:List Iv)(p:Nat)(h:nQ s)(hx:lR s.kO x)(hd:d.iD)(h0:0<d.jB)(hb:lR s.kO b)(iU:8<=p)(iJ:p<=512)
section
variable(hn:rN (kN s.tape (b++s.params) p)=false)
def alI(N:Nat)(qD:N<x.length)(jA:∀ i,i<N->(iZ (x.getD i iH) (iO (nt d) ((kN s.tape (b++s.params) p).getD i iH) p) p).all=false)(hN:(iZ (x.getD N iH) (iO (nt d) ((kN s.tape (b++s.params) p).getD N iH) p) p).all=true):iA 57 [lk s,iQ x,iF d,iQ b,iP p]<|.v<|.slice none 0 0:=by
 have s4:=h.s4;have B3:=hx.len;have Fz:=h.jU;have Fm:=Lf s.tape (b++s.params) p;obtain⟨f1,f2,f3,f4⟩:=KK h hb;have fv:=PK s.tape f4 (aI:1<=p) (aI:p<=4096);have hq:0<d.q:=(rA d).1.1 h0;have hst:=S6 hd<|bF hq;exact iM (af [ag [lk s,iQ x,iF d,iP p]<|Dp _ _ _ _ h hx hd h0 iU iJ,ag [lk s,iQ b]<|KF _ _ hb s4,.c<|XT s b p h hb iU iJ hn,ai 37 ((0:Int) != 0) aK,.y 14 14 true 38 7<|kK<|(List.range 0).map λj_=>(iZ (x.getD j_ iH) (iO (nt d) ((kN s.tape (b++s.params) p).getD j_ iH) p) p),.s (Sp.kj (Zq s x d b p N) 0 N aI (λi hi qn=>by
    have w1:=(hx.ok i aI).1;have w2:=fv i;have w3:=ku (nt d) ((kN s.tape (b++s.params) p).getD i iH) (aI:1<=p) (aI:p<=4096);have xi:=wM<|iZ (x.getD i iH) (iO (nt d) ((kN s.tape (b++s.params) p).getD i iH) p) p;exact jg (ae [tT 43 ((i:Int)<x.length) aI,iX (i:Int)<|x.length,.o 49 (.e<|S7 d:aj (.agg<|av++ke d++[bP false])<|iC<|nt d),iX (i:Int)<|(kN s.tape (b++s.params) p).length,.c<|Mf (nt d) ((kN s.tape (b++s.params) p).getD i iH) p aJ aJ,.c<|IW (x.getD i iH) (iO (nt d) ((kN s.tape (b++s.params) p).getD i iH) p) p aJ aJ,ai 59 ((iZ (x.getD i iH) (iO (nt d) ((kN s.tape (b++s.params) p).getD i iH) p) p).all)<|jA i aI,.o 62<|.e<|nT<|iZ (x.getD i iH) (iO (nt d) ((kN s.tape (b++s.params) p).getD i iH) p) p,.a (aI:(i+[iZ (x.getD i iH) (iO (nt d) ((kN s.tape (b++s.params) p).getD i iH) p) p].length)*88<=140737488355328),iL<|(i:Int)+1]<|.e<|af [.b 14 (yZ rfl rfl rfl:Bx.le (.row true 38 (i+[iZ (x.getD i iH) (iO (nt d) ((kN s.tape (b++s.params) p).getD i iH) p) p].length) 7 λi_ j_=>if i_<i then(kK<|(List.range i).map λj_=>(iZ (x.getD j_ iH) (iO (nt d) ((kN s.tape (b++s.params) p).getD j_ iH) p) p)) i_ j_ else(E.jV<|iQ [iZ (x.getD i iH) (iO (nt d) ((kN s.tape (b++s.params) p).getD i iH) p) p]) (i_-i) j_)<|.row true 38 (i+1) 7<|kK<|(List.range<|i+1).map λj_=>(iZ (x.getD j_ iH) (iO (nt d) ((kN s.tape (b++s.params) p).getD j_ iH) p) p))]) aM)
  (λhi=>by
    have w1:=(hx.ok N aI).1;have w2:=fv N;have w3:=ku (nt d) ((kN s.tape (b++s.params) p).getD N iH) (aI:1<=p) (aI:p<=4096);exact jg (af [tT 43 ((N:Int)<x.length) aI,iX (N:Int)<|x.length,.o 49 (.e<|S7 d:aj (.agg<|av++ke d++[bP false])<|iC<|nt d),iX (N:Int)<|(kN s.tape (b++s.params) p).length,.c<|Mf (nt d) ((kN s.tape (b++s.params) p).getD N iH) p aJ aJ,.c<|IW (x.getD N iH) (iO (nt d) ((kN s.tape (b++s.params) p).getD N iH) p) p aJ aJ,ah 59 ((iZ (x.getD N iH) (iO (nt d) ((kN s.tape (b++s.params) p).getD N iH) p) p).all) hN]) aM) aQ:ki 9 Tryz.f57 (Zq s x d b p N 0) .ret ⟨66,true,[(10,.e<|.v<|.slice none 0 0)],[]⟩) .nil])
def alJ(jA:∀ i,i<x.length->(iZ (x.getD i iH) (iO (nt d) ((kN s.tape (b++s.params) p).getD i iH) p) p).all=false):iA 57 [lk s,iQ x,iF d,iQ b,iP p]<|iQ<|(List.range x.length).map λj_=>(iZ (x.getD j_ iH) (iO (nt d) ((kN s.tape (b++s.params) p).getD j_ iH) p) p):=by
 have s4:=h.s4;have B3:=hx.len;have Fz:=h.jU;have Fm:=Lf s.tape (b++s.params) p;obtain⟨f1,f2,f3,f4⟩:=KK h hb;have fv:=PK s.tape f4 (aI:1<=p) (aI:p<=4096);have hq:0<d.q:=(rA d).1.1 h0;have hst:=S6 hd<|bF hq;exact iM (af [ag [lk s,iQ x,iF d,iP p]<|Dp _ _ _ _ h hx hd h0 iU iJ,ag [lk s,iQ b]<|KF _ _ hb s4,.c<|XT s b p h hb iU iJ hn,ai 37 ((0:Int) != 0) aK,.y 14 14 true 38 7<|kK<|(List.range 0).map λj_=>(iZ (x.getD j_ iH) (iO (nt d) ((kN s.tape (b++s.params) p).getD j_ iH) p) p),.s (Sp.kj (Zr s x d b p) 0 x.length aI (λi hi qn=>by
    have w1:=(hx.ok i aI).1;have w2:=fv i;have w3:=ku (nt d) ((kN s.tape (b++s.params) p).getD i iH) (aI:1<=p) (aI:p<=4096);have xi:=wM<|iZ (x.getD i iH) (iO (nt d) ((kN s.tape (b++s.params) p).getD i iH) p) p;exact jg (ae [tT 43 ((i:Int)<x.length) aI,iX (i:Int)<|x.length,.o 49 (.e<|S7 d:aj (.agg<|av++ke d++[bP false])<|iC<|nt d),iX (i:Int)<|(kN s.tape (b++s.params) p).length,.c<|Mf (nt d) ((kN s.tape (b++s.params) p).getD i iH) p aJ aJ,.c<|IW (x.getD i iH) (iO (nt d) ((kN s.tape (b++s.params) p).getD i iH) p) p aJ aJ,ai 59 ((iZ (x.getD i iH) (iO (nt d) ((kN s.tape (b++s.params) p).getD i iH) p) p).all)<|jA i aI,.o 62<|.e<|nT<|iZ (x.getD i iH) (iO (nt d) ((kN s.tape (b++s.params) p).getD i iH) p) p,.a (aI:(i+[iZ (x.getD i iH) (iO (nt d) ((kN s.tape (b++s.params) p).getD i iH) p) p].length)*88<=140737488355328),iL<|(i:Int)+1]<|.e<|af [.b 14 (yZ rfl rfl rfl:Bx.le (.row true 38 (i+[iZ (x.getD i iH) (iO (nt d) ((kN s.tape (b++s.params) p).getD i iH) p) p].length) 7 λi_ j_=>if i_<i then(kK<|(List.range i).map λj_=>(iZ (x.getD j_ iH) (iO (nt d) ((kN s.tape (b++s.params) p).getD j_ iH) p) p)) i_ j_ else(E.jV<|iQ [iZ (x.getD i iH) (iO (nt d) ((kN s.tape (b++s.params) p).getD i iH) p) p]) (i_-i) j_)<|.row true 38 (i+1) 7<|kK<|(List.range<|i+1).map λj_=>(iZ (x.getD j_ iH) (iO (nt d) ((kN s.tape (b++s.params) p).getD j_ iH) p) p))]) aM)
  (λhi=>by
    exact jg (ae [tF 43 ((x.length:Int)<x.length) aI,.z 14]<|.e<|af [.o 14 (.e<|Aa aP:aj (.sl true x.length 7<|kK<|(List.range x.length).map λj_=>(iZ (x.getD j_ iH) (iO (nt d) ((kN s.tape (b++s.params) p).getD j_ iH) p) p))<|iQ<|(List.range x.length).map λj_=>(iZ (x.getD j_ iH) (iO (nt d) ((kN s.tape (b++s.params) p).getD j_ iH) p) p))]) aM) aQ:ki 9 Tryz.f57 (Zr s x d b p 0) (.exit 0) ⟨66,true,[(14,.e<|iQ<|(List.range x.length).map λj_=>(iZ (x.getD j_ iH) (iO (nt d) ((kN s.tape (b++s.params) p).getD j_ iH) p) p))],[]⟩) .nil])
end
def L9:iA 57 [lk s,iQ x,iF d,iQ b,iP p]<|iQ<|mu s x d b p:=by
 unfold mu;cases hn:rN (kN s.tape (b++s.params) p)with
 |true=>rw[bA rfl];exact(alH s x d b p h hx hd h0 hb iU iJ hn).jQ<|.nil _ _ _
 |false=>
  rw[bw aK];cases ha:rN (xZ x (kN s.tape (b++s.params) p) d p)with
  |true=>
   rw[bA rfl];unfold rN at ha;rw[eE,IP]at ha;obtain⟨i,hi,mq⟩:=ha;obtain⟨N,h1,h2,h3⟩:=ur (p:=λi=>((xZ x (kN s.tape (b++s.params) p) d p).getD i iH).all) ⟨i,dr.1 hi,mq⟩;refine(alI s x d b p h hx hd h0 hb iU iJ hn N h1 (λi hi=>?_) ?_).jQ<|.nil _ _ _
   .have:=h3 i hi;rw[Mb (aI:i<x.length)]at this;exact this
   .rw [Mb h1]at h2;exact h2
  |false=>
   rw[bw aK];refine alJ s x d b p h hx hd h0 hb iU iJ hn λi hi=>?_
   unfold rN at ha;rw[dW,IP]at ha;have:=ha i<|dr.2 hi;rw[Mb hi]at this;exact bn this
def alu(hi:(mu s x d b p)=[]):iA 20 [lk s,iQ x,iF d,iQ b,iP p]<|bP false:=
 iM (af [ag [lk s,iQ x,iF d,iQ b,iP p]<|L9 _ _ _ _ _ h hx hd h0 hb iU iJ,ai 20 (decide (0<((mu s x d b p).length:Int)))<|by rw[hi];rfl])
end
def AJ{n:Nat}{b:List Iv}(h:lR n b)(h1:1<=n)(h4:n<=4):1<=b.length/\b.length<=4/\rj b:=⟨by rw[h.len];exact h1,by rw[h.len];exact h4,h.ok⟩
section
variable(s:lr)(x:List Iv)(d:Dy)(b:List Iv)(p:Nat)(h:nQ s)(hx:lR s.kO x)(hd:d.iD)(h0:0<d.jB)(hb:lR s.kO b)(iU:8<=p)(iJ:p<=512)
def alv(hi:(mu s x d b p)≠[]):iA 20 [lk s,iQ x,iF d,iQ b,iP p]<|bP<|xp x b&&xp (mu s x d b p) b:=by
 have s1:=h.s1;have s4:=h.s4;obtain⟨x1,x4,xo⟩:=AJ hx s1 s4;obtain⟨b1,b4,bo⟩:=AJ hb s1 s4;have B3:=hx.len;have LK:=hb.len;have Fq:=Rk hx (aI:1<=p) (aI:p<=4096) hi;obtain⟨i1,i4,io⟩:=AJ Fq s1 s4;have hli:=Fq.len;exact iM (ae [ag [lk s,iQ x,iF d,iQ b,iP p]<|L9 _ _ _ _ _ h hx hd h0 hb iU iJ,tT 20 (0<((mu s x d b p).length:Int)) aI,.c<|VL x b aI aI aI aJ aJ]<|.w (xp x b=true)
  (λk1=>ae [tB 24 k1,.c<|VL (mu s x d b p) b aI aI aI aJ aJ]<|rQ (bP<|xp (mu s x d b p) b) (bP<|xp x b&&xp (mu s x d b p) b)<|by simp[k1])
  (λk1=>ae [tB 24<|bn k1]<|rQ (bP false) (bP<|xp x b&&xp (mu s x d b p) b)<|by simp[k1]))
def DH:iA 20 [lk s,iQ x,iF d,iQ b,iP p]<|bP<|nh s x d b p:=by
 unfold nh;by_cases hi:(mu s x d b p)=[]
 .have:=alu s x d b p h hx hd h0 hb iU iJ hi;rwa[hi,show(!([]:List Iv).isEmpty&&(xp x b&&xp [] b))=false from rfl]
 .have:=alv s x d b p h hx hd h0 hb iU iJ hi;have e:((mu s x d b p)).isEmpty=false:=by
   cases q:(mu s x d b p)with
   |nil=>exact absurd q hi
   |cons _ _=>rfl
  rwa[e,fe,fk]
end
def asq(k:Int)(h1:-100<=k)(h2:k<=100):iA 74 [iF ⟨false,1,0⟩,iP k]<|.iK [iF<|oZ k,iP 0]:=by
 have:=Vo ⟨false,1,0⟩ k R4 aI aI;have e:canon false 1 (0+k)=oZ k:=by rw[Int.zero_add];exact VU k
 have e2:mA (canon false 1<|0+k)=oZ k:=by rw[e];exact BL<|Ti h1 h2
 have e3:oh (canon false 1<|0+k)=0:=by rw[e];exact GZ<|Ti h1 h2
 change iA 74 [iF ⟨false,1,0⟩,iP k] (.iK [iF<|mA<|canon false 1<|0+k,iP<|oh<|canon false 1<|0+k])at this;rwa[e2,e3]at this
def akD(x:List Iv)(d:Dy):(BS x d==0)=sK x d:=by
 unfold BS;cases sK x d<;>rfl
def X5(x:List Iv)(k:Int)(x1:1<=x.length)(x8:x.length<=8)(hx:rj x)(k1:-100<=k)(k2:k<=100):iA 32 [iQ x,iP k]<|.iK [iQ<|rL x<|oZ k,bP<|sK x<|oZ k]:=by
 have v:=Tk k1 k2;have sg:=Tj k;exact iM<|ae [.c<|GU 1,ag [iF<|kV 1,iP k]<|asq _ aI aI,ai 16 ((0:Int) != 0) aK,.c<|VK x (oZ k) aI aI aJ aJ aJ]<|rR (.iK [iQ<|rL x<|oZ k,bP<|sK x<|oZ k]) (.iK<|.cons (.refl _)<|.cons (.jm<|by rw[akD]) .nil:E.le (.iK [iQ<|rL x<|oZ k,bP<|(BS x<|oZ k)==0])<|.iK [iQ<|rL x<|oZ k,bP<|sK x<|oZ k])
section
variable(s:lr)(x:List Iv)(d:Dy)(p:Nat)(h:nQ s)(hx:lR s.kO x)
def aeO(hd:d.iD)(h0:0<d.jB)(iU:8<=p)(iJ:p<=512)(k:Int)(k1:-100<=k)(k2:k<=100)(hg:(sK x<|oZ k)=false):iA 31 [iP k,(.ky 1 λj_=>[iQ x].getD j_ .any),(.ky 5 λj_=>[iP s.tape.kU,kT s.tape.iN,kB s.tape.jU,iP s.kO,iQ s.params].getD j_ .any),(.ky 3 λj_=>[bP d.neg,iG<|iB d.m,iP d.e].getD j_ .any),(.ky 1 λj_=>[iP p].getD j_ .any)]<|.iK [iQ<|rL x<|oZ k,bP false]:=by
 have s1:=h.s1;have s4:=h.s4;obtain⟨x1,x4,xo⟩:=AJ hx s1 s4;exact iM<|af [ag [iQ x,iP k]<|X5 _ _ aI aI xo aI aI,ai 15 (sK x<|oZ k) hg]
section
variable(hd:d.iD)(h0:0<d.jB)(iU:8<=p)(iJ:p<=512)(k:Int)
def aeP(k1:-100<=k)(k2:k<=100)(hg:(sK x<|oZ k)=true):iA 31 [iP k,(.ky 1 λj_=>[iQ x].getD j_ .any),(.ky 5 λj_=>[iP s.tape.kU,kT s.tape.iN,kB s.tape.jU,iP s.kO,iQ s.params].getD j_ .any),(.ky 3 λj_=>[bP d.neg,iG<|iB d.m,iP d.e].getD j_ .any),(.ky 1 λj_=>[iP p].getD j_ .any)]<|.iK [iQ<|rL x<|oZ k,bP<|nh s x d (rL x<|oZ k) p]:=by
 have s1:=h.s1;have s4:=h.s4;obtain⟨x1,x4,xo⟩:=AJ hx s1 s4;have hb:=PW hx (Tk k1 k2) (ac4<|Tj k) hg;exact iM<|af [ag [iQ x,iP k]<|X5 _ _ aI aI xo aI aI,ah 15 (sK x<|oZ k) hg,ag [lk s,iQ x,iF d,iQ<|rL x<|oZ k,iP p]<|DH _ _ _ _ _ h hx hd h0 hb iU iJ]
def GR(k1:-100<=k:=by omega)(k2:k<=100:=by omega):iA 31 [iP k,(.ky 1 λj_=>[iQ x].getD j_ .any),(.ky 5 λj_=>[iP s.tape.kU,kT s.tape.iN,kB s.tape.jU,iP s.kO,iQ s.params].getD j_ .any),(.ky 3 λj_=>[bP d.neg,iG<|iB d.m,iP d.e].getD j_ .any),(.ky 1 λj_=>[iP p].getD j_ .any)]<|.iK [iQ<|rL x<|oZ k,bP<|rI s x d p k]:=by
 unfold rI;cases hg:sK x (oZ k)with
 |false=>exact aeO s x d p h hx hd h0 iU iJ k k1 k2 hg
 |true=>exact aeP s x d p h hx hd h0 iU iJ k k1 k2 hg
end
end
def aq2(d:Dy)(hd:d.iD):iA 74 [iF d,iP (-3)]<|.iK [iF<|Bs d,iP<|SX d]:=Vo d (-3) hd aK aK 
def X4{x:List Iv}{d:Dy}:BS x d=0↔sK x d=true:=by
 unfold BS;cases sK x d<;>simp
def asP(s:lr)(x:List Iv)(d:Dy)(b:List Iv)(p:Nat)(h:nQ s)(hx:lR s.kO x)(hd:d.iD)(h0:0<d.jB)(hb:lR s.kO b)(iU:8<=p)(iJ:p<=512)(hi:(mu s x d b p)=[]):iA 33 [lk s,iQ x,iF d,iQ b,iP p]<|.v<|.slice none 0 0:=
 iM (af [ag [lk s,iQ x,iF d,iQ b,iP p]<|L9 _ _ _ _ _ h hx hd h0 hb iU iJ,ah 26 (((mu s x d b p).length:Int)==0)<|by rw[hi];rfl])
def I5{l:List Iv}(h:l≠[]):((l.length:Int)==0)=false:=nK λq=>h<|eG.1 q
section
variable(s:lr)(x:List Iv)(d:Dy)
section
variable(b:List Iv)(p:Nat)(h:nQ s)(hx:lR s.kO x)(hd:d.iD)(h0:0<d.jB)(hb:lR s.kO b)(iU:8<=p)(iJ:p<=512)
def asQ(hi:(mu s x d b p)≠[]):iA 33 [lk s,iQ x,iF d,iQ b,iP p]<|iQ<|mP s x d b p:=by
 have s1:=h.s1;have s4:=h.s4;obtain⟨x1,x4,xo⟩:=AJ hx s1 s4;obtain⟨b1,b4,bo⟩:=AJ hb s1 s4;have B3:=hx.len;have LK:=hb.len;have Fq:=Rk hx (aI:1<=p) (aI:p<=4096) hi;obtain⟨i1,i4,io⟩:=AJ Fq s1 s4;have hli:=Fq.len;have hho:=Y7 hx Fq;obtain⟨u1,u4,uo⟩:=AJ hho s1 s4;have wv:=asO (oc x<|mu s x d b p) (aI:1<=p) (aI:p<=4096);have sv:=acM<|tw (oc x<|mu s x d b p) p;have sn:=aoE<|acL<|adU (oc x<|mu s x d b p) p;exact iM (ae [ag [lk s,iQ x,iF d,iQ b,iP p]<|L9 _ _ _ _ _ h hx hd h0 hb iU iJ,ai 26 (((mu s x d b p).length:Int)==0)<|I5 hi,.c<|afM x (mu s x d b p) aI aI aI aJ aJ,.c<|afP (oc x<|mu s x d b p) p aI aI aJ aI aI]<|.w (J1 (oc x<|mu s x d b p) p=true)
  (λk1=>ae [tB 35 k1,.c<|vO (tw (oc x<|mu s x d b p) p) aJ]<|.w ((Dy.jB<|tw (oc x<|mu s x d b p) p)=0)
   (λk2=>ae [tB 41<|bl k2]<|rQ (iQ<|oc x<|mu s x d b p) (iQ<|mP s x d b p)<|by unfold mP;rw[bw hi];simp[k1,k2])
   (λk2=>ae [tB 41<|bk k2,ag [iF<|tw (oc x<|mu s x d b p) p,iP (-3)]<|aq2 _ aJ]<|.w ((SX<|tw (oc x<|mu s x d b p) p)=0)
    (λk3=>ae [tB 50<|bt k3,.c<|VK (oc x<|mu s x d b p) (Bs<|tw (oc x<|mu s x d b p) p) aI aI aJ aJ aJ]<|.w ((BS (oc x<|mu s x d b p)<|Bs<|tw (oc x<|mu s x d b p) p)=0)
     (λk4=>ae [tB 59<|bl k4]<|rQ (iQ<|rL (oc x<|mu s x d b p)<|Bs<|tw (oc x<|mu s x d b p) p) (iQ<|mP s x d b p)<|by unfold mP;rw[bw hi];simp[k1,k2,k3,X4.1 k4])
     (λk4=>ae [tB 59<|bk k4]<|rQ (iQ<|oc x<|mu s x d b p) (iQ<|mP s x d b p)<|by unfold mP;rw[bw hi];simp[k1,k2,k3,show ¬sK _ _=true from λq=>k4<|X4.2 q]))
    (λk3=>ae [tB 50<|bu k3]<|rQ (iQ<|oc x<|mu s x d b p) (iQ<|mP s x d b p)<|by unfold mP;rw[bw hi];simp[k1,k2,k3])))
  (λk1=>ae [tB 35<|bn k1]<|rQ (iQ<|oc x<|mu s x d b p) (iQ<|mP s x d b p)<|by unfold mP;rw[bw hi];simp[k1]))
def J2:iA 33 [lk s,iQ x,iF d,iQ b,iP p]<|iQ<|mP s x d b p:=by
 by_cases hi:(mu s x d b p)=[]
 .have:=asP s x d b p h hx hd h0 hb iU iJ hi;unfold mP;rw[bA hi];exact this.jQ<|.nil _ _ _
 .exact asQ s x d b p h hx hd h0 hb iU iJ hi
end
section
variable(p:Nat)(h:nQ s)(hx:lR s.kO x)(hd:d.iD)(h0:0<d.jB)(iU:8<=p)(iJ:p<=512)
def Xf(N:Nat)(qD:N<24)(jA:∀ k:Nat,k<N->rI s x d p ((k:Int)-20)=false)(hN:rI s x d p ((N:Int)-20)=true):iA 14 [lk s,iQ x,iF d,iP p]<|.iK [iQ<|rL x<|oZ<|(N:Int)-20,iP 0]:=
 iM (af [ag [lk s,iQ x,iF d,iP p]<|Dp _ _ _ _ h hx hd h0 iU iJ,.s (Sp.kj (W8 s x d p N) 0 N aI (λk hk yW=>by
    exact jg (af [tT 23 ((k:Int)<24) aI,iL<|(k:Int)-20,ag [iP<|(k:Int)-20,(.ky 1 λj_=>[iQ x].getD j_ .any),(.ky 5 λj_=>[iP s.tape.kU,kT s.tape.iN,kB s.tape.jU,iP s.kO,iQ s.params].getD j_ .any),(.ky 3 λj_=>[bP d.neg,iG<|iB d.m,iP d.e].getD j_ .any),(.ky 1 λj_=>[iP p].getD j_ .any)]<|GR _ _ _ _ h hx hd h0 iU iJ _,ai 31 (rI s x d p<|(k:Int)-20)<|jA k aI,iL<|(k:Int)+1]) aM)
  (λhk=>by
    exact jg (af [tT 23 ((N:Int)<24) aI,iL<|(N:Int)-20,ag [iP<|(N:Int)-20,(.ky 1 λj_=>[iQ x].getD j_ .any),(.ky 5 λj_=>[iP s.tape.kU,kT s.tape.iN,kB s.tape.jU,iP s.kO,iQ s.params].getD j_ .any),(.ky 3 λj_=>[bP d.neg,iG<|iB d.m,iP d.e].getD j_ .any),(.ky 1 λj_=>[iP p].getD j_ .any)]<|GR _ _ _ _ h hx hd h0 iU iJ _,ah 31 (rI s x d p<|(N:Int)-20) hN]) aM) aQ:ki 5 Tryz.f14 (W8 s x d p N 0) .ret ⟨55,true,[(9,.e<|iP 0),(8,.e<|iQ<|rL x<|oZ<|(N:Int)-20)],[]⟩) .nil])
section
variable(jA:∀ k:Nat,k<24->rI s x d p ((k:Int)-20)=false)
def aiO(N:Nat)(qD:N<10)(wh:∀ j,j<=N->lR s.kO (mK s x d p j))(hw:∀ j,j<N->mP s x d (mK s x d p j) p≠[]/\nh s x d (mP s x d (mK s x d p j) p) p=false)(hN:mP s x d (mK s x d p N) p=[]):iA 14 [lk s,iQ x,iF d,iP p]<|.iK [.v<|.slice none 0 0,iP 12]:=
 iM (af [ag [lk s,iQ x,iF d,iP p]<|Dp _ _ _ _ h hx hd h0 iU iJ,.s (Sp.kj (W9 s x d p) 0 24 aI (λk hk yW=>by
    exact jg (af [tT 23 ((k:Int)<24) aI,iL<|(k:Int)-20,ag [iP<|(k:Int)-20,(.ky 1 λj_=>[iQ x].getD j_ .any),(.ky 5 λj_=>[iP s.tape.kU,kT s.tape.iN,kB s.tape.jU,iP s.kO,iQ s.params].getD j_ .any),(.ky 3 λj_=>[bP d.neg,iG<|iB d.m,iP d.e].getD j_ .any),(.ky 1 λj_=>[iP p].getD j_ .any)]<|GR _ _ _ _ h hx hd h0 iU iJ _,ai 31 (rI s x d p<|(k:Int)-20)<|jA k aI,iL<|(k:Int)+1]) aM)
  (λhk=>by
    exact jg (af [ai 23 (decide ((24:Int)<24)) aK]) aM) aQ:ki 5 Tryz.f14 (W9 s x d p 0) (.exit 0) ⟨55,true,[(7,.box 7 0),(6,.box 6 0),(5,.box 5 0),(4,.box 4 0)],[(7,.cells 3 [iP p]),(6,.cells 31<|ke d),(5,.cells 36 [iQ x]),(4,.cells 45 [iP s.tape.kU,kT s.tape.iN,kB s.tape.jU,iP s.kO,iQ s.params])]⟩) .nil,.s (Sp.kj (Xc s x d p N) 0 N aI (λj hj QS=>by
    have qG:=wh j aI;obtain⟨jM,Iw⟩:=hw j aI;have mq:=Ez hx (aI:1<=p) (aI:p<=4096) jM;exact jg (ae [tT 37 ((j:Int)<10) aI,ag [lk s,iQ x,iF d,iQ<|mK s x d p j,iP p]<|J2 _ _ _ _ _ h hx hd h0 qG iU iJ,ai 46 (((mP s x d (mK s x d p j) p).length:Int)==0)<|I5 jM,ag [lk s,iQ x,iF d,iQ<|mP s x d (mK s x d p j) p,iP p]<|DH _ _ _ _ _ h hx hd h0 mq iU iJ,ai 52 (nh s x d (mP s x d (mK s x d p j) p) p) Iw,
     iL ((j:Int)+1)]<|.e<|af [.o 14<|.refl<|.e<|iQ<|mK s x d p<|j+1]) aM)
  (λhj=>by
    have qG:=wh N<|bB _;exact jg (af [tT 37 ((N:Int)<10) aI,ag [lk s,iQ x,iF d,iQ<|mK s x d p N,iP p]<|J2 _ _ _ _ _ h hx hd h0 qG iU iJ,ah 46 (((mP s x d (mK s x d p N) p).length:Int)==0)<|by rw[hN];rfl]) aM) aQ:ki 13 Tryz.f14 (Xc s x d p N 0) (.exit 2) ⟨55,true,[],[]⟩)<|af [.o 14<|.refl<|.e<|iQ<|mK s x d p 0]])
def aiL(wh:∀ j,j<=10->lR s.kO (mK s x d p j))(hw:∀ j,j<10->mP s x d (mK s x d p j) p≠[]/\nh s x d (mP s x d (mK s x d p j) p) p=false):iA 14 [lk s,iQ x,iF d,iP p]<|.iK [.v<|.slice none 0 0,iP 12]:=
 iM (af [ag [lk s,iQ x,iF d,iP p]<|Dp _ _ _ _ h hx hd h0 iU iJ,.s (Sp.kj (Xa s x d p) 0 24 aI (λk hk yW=>by
    exact jg (af [tT 23 ((k:Int)<24) aI,iL<|(k:Int)-20,ag [iP<|(k:Int)-20,(.ky 1 λj_=>[iQ x].getD j_ .any),(.ky 5 λj_=>[iP s.tape.kU,kT s.tape.iN,kB s.tape.jU,iP s.kO,iQ s.params].getD j_ .any),(.ky 3 λj_=>[bP d.neg,iG<|iB d.m,iP d.e].getD j_ .any),(.ky 1 λj_=>[iP p].getD j_ .any)]<|GR _ _ _ _ h hx hd h0 iU iJ _,ai 31 (rI s x d p<|(k:Int)-20)<|jA k aI,iL<|(k:Int)+1]) aM)
  (λhk=>by
    exact jg (af [ai 23 (decide ((24:Int)<24)) aK]) aM) aQ:ki 5 Tryz.f14 (Xa s x d p 0) (.exit 0) ⟨55,true,[(7,.box 7 0),(6,.box 6 0),(5,.box 5 0),(4,.box 4 0)],[(7,.cells 3 [iP p]),(6,.cells 31<|ke d),(5,.cells 36 [iQ x]),(4,.cells 45 [iP s.tape.kU,kT s.tape.iN,kB s.tape.jU,iP s.kO,iQ s.params])]⟩) .nil,.s (Sp.kj (Xd s x d p) 0 10 aI (λj hj QS=>by
    have qG:=wh j aI;obtain⟨jM,Iw⟩:=hw j aI;have mq:=Ez hx (aI:1<=p) (aI:p<=4096) jM;exact jg (ae [tT 37 ((j:Int)<10) aI,ag [lk s,iQ x,iF d,iQ<|mK s x d p j,iP p]<|J2 _ _ _ _ _ h hx hd h0 qG iU iJ,ai 46 (((mP s x d (mK s x d p j) p).length:Int)==0)<|I5 jM,ag [lk s,iQ x,iF d,iQ<|mP s x d (mK s x d p j) p,iP p]<|DH _ _ _ _ _ h hx hd h0 mq iU iJ,ai 52 (nh s x d (mP s x d (mK s x d p j) p) p) Iw,
     iL ((j:Int)+1)]<|.e<|af [.o 14<|.refl<|.e<|iQ<|mK s x d p<|j+1]) aM)
  (λhj=>by
    exact jg (af [ai 37 (decide ((10:Int)<10)) aK]) aM) aQ:ki 13 Tryz.f14 (Xd s x d p 0) (.exit 2) ⟨55,true,[],[]⟩)<|af [.o 14<|.refl<|.e<|iQ<|mK s x d p 0]])
end
end
end
section
variable(s:lr)(x:List Iv)(d:Dy)(p:Nat)
def Xb(k:Nat):PS:=⟨55,true,[(22,.e<|iP k),(10,.qb 31 [.box 5,.box 4,.box 6,.box 7]),(7,.box 7 0),(6,.box 6 0),(5,.box 5 0),(4,.box 4 0)],[(7,.cells 3 [iP p]),(6,.cells 31<|ke d),(5,.cells 36 [iQ x]),(4,.cells 45 [iP s.tape.kU,kT s.tape.iN,kB s.tape.jU,iP s.kO,iQ s.params])]⟩
noncomputable def Xe(N:Nat)(j:Nat):PS:=⟨55,true,[(36,.e<|iP j),(14,.e<|iQ<|mK s x d p j),(7,.box 7 0),(6,.box 6 0),(5,.box 5 0),(4,.box 4 0)],[(7,.cells 3 [iP p]),(6,.cells 31<|ke d),(5,.cells 36 [iQ x]),(4,.cells 45 [iP s.tape.kU,kT s.tape.iN,kB s.tape.jU,iP s.kO,iQ s.params])]⟩
def aiN(h:nQ s)(hx:lR s.kO x)(hd:d.iD)(h0:0<d.jB)(iU:8<=p)(iJ:p<=512)(jA:∀ k:Nat,k<24->rI s x d p ((k:Int)-20)=false)(N:Nat)(qD:N<10)(wh:∀ j,j<=N->lR s.kO (mK s x d p j))(hw:∀ j,j<N->mP s x d (mK s x d p j) p≠[]/\nh s x d (mP s x d (mK s x d p j) p) p=false)(jM:mP s x d (mK s x d p N) p≠[])(hN:nh s x d (mP s x d (mK s x d p N) p) p=true):iA 14 [lk s,iQ x,iF d,iP p]<|.iK [iQ<|mP s x d (mK s x d p N) p,iP 0]:=by
 have hbN:=wh N<|bB _;have mq:=Ez hx (aI:1<=p) (aI:p<=4096) jM;exact iM (af [.c<|Dp s x d p h hx hd h0 iU iJ,.s (Sp.kj (Xb s x d p) 0 24 aI (λk hk yW=>by
    exact jg (af [tT 23 ((k:Int)<24) aI,iL<|(k:Int)-20,ag [iP<|(k:Int)-20,(.ky 1 λj_=>[iQ x].getD j_ .any),(.ky 5 λj_=>[iP s.tape.kU,kT s.tape.iN,kB s.tape.jU,iP s.kO,iQ s.params].getD j_ .any),(.ky 3 λj_=>[bP d.neg,iG<|iB d.m,iP d.e].getD j_ .any),(.ky 1 λj_=>[iP p].getD j_ .any)]<|GR _ _ _ _ h hx hd h0 iU iJ _,ai 31 (rI s x d p<|(k:Int)-20)<|jA k aI,iL<|(k:Int)+1]) aM)
  (λhk=>by
    exact jg (af [ai 23 (decide ((24:Int)<24)) aK]) aM) aQ:ki 5 Tryz.f14 (Xb s x d p 0) (.exit 0) ⟨55,true,[(7,.box 7 0),(6,.box 6 0),(5,.box 5 0),(4,.box 4 0)],[(7,.cells 3 [iP p]),(6,.cells 31<|ke d),(5,.cells 36 [iQ x]),(4,.cells 45 [iP s.tape.kU,kT s.tape.iN,kB s.tape.jU,iP s.kO,iQ s.params])]⟩) .nil,.s (Sp.kj (Xe s x d p N) 0 N aI (λj hj QS=>by
    have qG:=wh j aI;obtain⟨jM,Iw⟩:=hw j aI;have mq:=Ez hx (aI:1<=p) (aI:p<=4096) jM;exact jg (ae [tT 37 ((j:Int)<10) aI,.c<|J2 s x d (mK s x d p j) p h hx hd h0 qG iU iJ,ai 46 (((mP s x d (mK s x d p j) p).length:Int)==0)<|I5 jM,.c<|DH s x d (mP s x d (mK s x d p j) p) p h hx hd h0 mq iU iJ,ai 52 (nh s x d (mP s x d (mK s x d p j) p) p) Iw,iL<|(j:Int)+1]<|.e<|af [.o 14<|.refl<|.e<|iQ<|mK s x d p<|j+1]) aM)
  (λhj=>by
    have qG:=wh N<|bB _;have mq:=Ez hx (aI:1<=p) (aI:p<=4096) jM;exact jg (af [tT 37 ((N:Int)<10) aI,.c<|J2 s x d (mK s x d p N) p h hx hd h0 qG iU iJ,ai 46 (((mP s x d (mK s x d p N) p).length:Int)==0)<|I5 jM,.c<|DH s x d (mP s x d (mK s x d p N) p) p h hx hd h0 mq iU iJ,ah 52 (nh s x d (mP s x d (mK s x d p N) p) p) hN]) aM) aQ:ki 13 Tryz.f14 (Xe s x d p N 0) .ret ⟨55,true,[(9,.e<|iP 0),(8,.e<|iQ<|mP s x d (mK s x d p N) p)],[]⟩)<|af [.o 14<|.refl<|.e<|iQ<|mK s x d p 0]])
end
def aiK:Option (List Iv)->E
 |some b=>.iK [iQ b,iP 0]
 |none=>.iK [.v<|.slice none 0 0,iP 12]
def aiM(s:lr)(x:List Iv)(d:Dy)(p:Nat)(h:nQ s)(hx:lR s.kO x)(hd:d.iD)(h0:0<d.jB)(iU:8<=p)(iJ:p<=512):∃ o,iA 14 [lk s,iQ x,iF d,iP p] (aiK o)/\(∀ b,o=some b->lR s.kO b/\nh s x d b p=true)/\(o=none->∀ k:Nat,k<24->rI s x d p ((k:Int)-20)=false):=by
 have p1:1<=p:= aI ;have p2:p<=4096:= aI ;by_cases ha:∃ N:Nat,N<24/\rI s x d p ((N:Int)-20)=true
 .obtain ⟨N,n1,n2,n3⟩:=ur (p:=λN=>rI s x d p<|(N:Int)-20) ha;refine⟨some _,Xf s x d p h hx hd h0 iU iJ N n1 (λk hk=>n3 k hk) n2,λb hb=>?_,λq=>by cases q⟩;cases hb;have n4:=n2;unfold rI at n4;rw[cr]at n4;exact⟨PW hx (Tk (k:=(N:Int)-20) aI aI) (ac4<|Tj _) n4.1,n4.2⟩
 .have jA:∀ k:Nat,k<24->rI s x d p ((k:Int)-20)=false:=λk hk=>by
   cases hc:rI s x d p ((k:Int)-20)with
   |false=>rfl
   |true=>exact absurd ⟨k,hk,hc⟩ ha
  have wh:∀ N,(∀ j,j<N->mP s x d (mK s x d p j) p≠[])->∀ j,j<=N->lR s.kO (mK s x d p j):=λN jM j hj=>by
   rcases j with _|j
   .exact hx
   .exact Ez hx p1 p2<|jM j aI
  by_cases rM:∃ N:Nat,N<10/\decide (mP s x d (mK s x d p N) p=[]\/nh s x d (mP s x d (mK s x d p N) p) p=true)=true
  .obtain ⟨N,n1,n2,n3⟩:=ur rM;have hw:∀ j,j<N->mP s x d (mK s x d p j) p≠[]/\nh s x d (mP s x d (mK s x d p j) p) p=false:=λj hj=>by
    have:=gU<|n3 j hj;exact⟨λq=>this<|.inl q,bn λq=>this<|.inr q⟩
   have hb:=wh N λj hj=>(hw j hj).1
   by_cases he:mP s x d (mK s x d p N) p=[]
   .exact ⟨none,aiO s x d p h hx hd h0 iU iJ jA N n1 hb hw he,(λb q=>by cases q),λ_=>jA⟩
   .have hN:=(dK n2).resolve_left he;refine⟨some _,aiN s x d p h hx hd h0 iU iJ jA N n1 hb hw he hN,λb q=>?_,λq=>by cases q⟩;cases q;exact⟨Ez hx p1 p2 he,hN⟩
  .have hw:∀ j,j<10->mP s x d (mK s x d p j) p≠[]/\nh s x d (mP s x d (mK s x d p j) p) p=false:=λj hj=>
    ⟨λq=>rM ⟨j,hj,bC<|.inl q⟩,bn λq=>rM ⟨j,hj,bC<|.inr q⟩⟩
   exact⟨none,aiL s x d p h hx hd h0 iU iJ jA (wh 10 λj hj=>(hw j hj).1) hw,(λb q=>by cases q),λ_=>jA⟩
def iS(f:Nat->Rat):Nat->Rat
 | 0=>0
 |n+1=>iS f n+f n
def pM{f g:Nat->Rat}:∀ n,(∀ i,i<n->f i=g i)->iS f n=iS g n
 | 0,_=>rfl
 |n+1,h=>by rw[iS,iS,pM n λi hi=>h i aI,h n aI]
def uF{f g:Nat->Rat}:∀ n,(∀ i,i<n->f i<=g i)->iS f n<=iS g n
 | 0,_=>bH
 |n+1,h=>by
  have h1:=uF n λi hi=>h i aI;have h2:=h n aI;rw[iS,iS];grind
def Et{f:Nat->Rat}(n:Nat)(h:∀ i,i<n->0<=f i):0<=iS f n:=by
 induction n with
 |zero=>exact bH
 |succ n ih=>
  have h1:=ih λi hi=>h i aI;have h2:=h n aI;rw[iS];grind
def As(f:Nat->Rat)(c:Rat):∀ n,iS (λi=>c*f i) n=c*iS f n
 | 0=>by simp[iS]
 |n+1=>by rw[iS,iS,As f c n];grind
def Gk(f:Nat->Rat)(c:Rat):∀ n,iS (λi=>f i*c) n=iS f n*c
 | 0=>by simp[iS]
 |n+1=>by rw[iS,iS,Gk f c n];grind
def Gj(f g:Nat->Rat):∀ n,iS (λi=>f i+g i) n=iS f n+iS g n
 | 0=>by simp only[iS];grind
 |n+1=>by rw[iS,iS,iS,Gj f g n];grind
def JQ(f:Nat->Nat->Rat)(m:Nat):∀ n,iS (λi=>iS (λj=>f i j) m) n=iS (λj=>iS (λi=>f i j) n) m
 | 0=>by
  have:∀ m,iS (λ_=>(0:Rat)) m=0:=by
   intro m
   induction m with
   |zero=>rfl
   |succ m ih=>rw[iS,ih];grind
  exact(this m).symm
 |n+1=>by
  rw[iS,JQ f m n,<-Gj];rfl
def At(f:Nat->Rat):∀ n,iS f (n+1)=f 0+iS (λi=>f<|i+1) n
 | 0=>by simp only[iS];grind
 |n+1=>by rw[iS,At f n,iS];grind
def iR(x:Rat):Rat:=if 0<=x then x else -x
def jH(x:Rat):0<=iR x/\x<=iR x /\ -x<=iR x/\(iR x=x/\0<=x\/iR x = -x/\x<=0):=by unfold iR;split<;>grind
def qA{x b:Rat}(h1:x<=b)(h2:-x<=b):iR x<=b:=by unfold iR;split<;>grind
def wS(x y:Rat):iR (x+y)<=iR x+iR y:=by
 obtain⟨a1,a2,a3,_⟩:=jH x;obtain⟨b1,b2,b3,_⟩:=jH y;exact qA aS aS 
def oA(x y:Rat):iR (x*y)=iR x*iR y:=by
 obtain⟨_,_,_,a⟩:=jH x;obtain⟨_,_,_,b⟩:=jH y;obtain⟨c1,_,_,c⟩:=jH<|x*y;rcases a with⟨e1,h1⟩|⟨e1,h1⟩<;>rcases b with⟨e2,h2⟩|⟨e2,h2⟩<;>rw[e1,e2]
 .have:=bD h1 h2;grind
 .have:=bD h1 (show 0 <= -y by grind);grind
 .have:=bD (show 0 <= -x by grind) h2;grind
 .have:=bD (show 0 <= -x by grind) (show 0 <= -y by grind);grind
def uM(f:Nat->Rat):∀ n,iR (iS f n)<=iS (λi=>iR<|f i) n
 | 0=>by simp[iS,iR]
 |n+1=>by
  have h1:=uM f n;have h2:=wS (iS f n)<|f n;rw[iS,iS];grind
def yz:iR 0=0:=rfl
abbrev QM:=Nat->Nat->Rat
def qN(n:Nat)(A B:QM):QM:=λi j=>iS (λq=>A i q*B q j) n
def y5:QM:=λi j=>if i=j then 1 else 0
def TQ(n:Nat)(M:QM)(t:Rat):Nat->QM
 | 0=>y5
 |j+1=>λi l=>t/((j+1:Nat):Rat)*qN n (TQ n M t j) M i l
def SQ(n:Nat)(M:QM)(t:Rat):Nat->QM
 | 0=>y5
 |j+1=>λi l=>SQ n M t j i l+TQ n M t (j+1) i l
def aaX(j:Nat):(iT (j:Int)).ja ((j:Nat):Rat):=by have:=yi (j:Int);rwa[dj]at this
section
variable {m:List<|List Iv} {h:Iv} {M:QM} {t:Rat} {n p:Nat}
def BG(n:Nat)(A:QM)(b:Rat):Prop:=∀ i,i<n->iS (λl=>iR<|A i l) n<=b
def aqJ{A B:QM}{a b:Rat}(_h0:0<=a)(hb:0<=b)(h1:BG n A a)(h2:BG n B b):BG n (qN n A B)<|a*b:=by
 intro i hi;have e1:iS (λl=>iR<|qN n A B i l) n<=iS (λl=>iS (λq=>iR (A i q)*iR (B q l)) n) n:=
  uF n λl _=>by
   have:=uM (λq=>A i q*B q l) n;rw[show(λq=>iR<|A i q*B q l)=λq=>iR (A i q)*iR (B q l)from funext λq=>oA _ _]at this;exact this
 rw[JQ]at e1;have e2:iS (λq=>iS (λl=>iR (A i q)*iR (B q l)) n) n<=iS (λq=>iR (A i q)*b) n:=
  uF n λq hq=>by
   rw[As];exact bY (h2 q hq) (jH _).1
 rw[Gk]at e2;exact bI e1<|bI e2<|bK (h1 i hi) hb
def eQ(c:Rat):Nat->Rat
 | 0=>1
 |j+1=>eQ c j*(c/((j+1:Nat):Rat))
def Cr(j:Nat):(0:Rat)<((j+1:Nat):Rat):=dQ.2 aI 
def yG{a b:Rat}(h1:0<=a)(h2:0<b):0<=a/b:=by
 rw[cB];exact bD h1<|bF<|dw.2 h2
def qC{c:Rat}(h:0<=c):∀ j,0<=eQ c j
 | 0=>by simp only[eQ];decide
 |j+1=>bD (qC h j)<|yG h<|Cr j
def arN(n i:Nat):iS (λl=>iR<|y5 i l) n<=1/\(n<=i->iS (λl=>iR<|y5 i l) n=0):=by
 induction n with
 |zero=>exact⟨by simp only[iS];grind,λ_=>rfl⟩
 |succ n ih=>
  have e1:iR 1=1:= aK ;simp only[iS,y5]at ih ⊢;by_cases h:i=n
  .have:=ih.2 aI ;rw[this,bA h,e1];exact⟨aS,λh'=>absurd h' aI⟩
  .rw [bw h,yz,Rat.add_zero];exact⟨ih.1,λh'=>ih.2 aI⟩
def aqG{A:QM}{b:Rat}(h:BG n A b){i l:Nat}(hi:i<n)(hl:l<n):iR (A i l)<=b:=by
 have h1:=h i hi;have:∀ m,l<m->iR (A i l)<=iS (λl=>iR<|A i l) m:=by
  intro m hm
  induction m with
  |zero=>omega
  |succ m ih=>
   rw[iS];have h0:=Et m (f:=λl=>iR<|A i l) λi _=>(jH _).1
   have h2:=(jH<|A i m).1;by_cases hq:l=m
   .subst hq;grind
   .have:=ih aI;grind
 exact bI (this n hl) h1
end
def Np(g:Nat->Nat->Rat):∀ m,iS (λj=>iS (g j)<|m-j) m=iS (λs=>iS (λj=>g j<|s-j)<|s+1) m
 | 0=>rfl
 |m+1=>by
  have ih:=Np g m;have e1:iS (λj=>iS (g j)<|m+1-j) m=iS (λj=>iS (g j) (m-j)+g j (m-j)) m:=
   pM m λj hj=>by rw[(aI:m+1-j=m-j+1)];rfl
  have h1:iS (g m) (m+1-m)=g m 0:=by
   rw[(aI:m+1-m=0+1)];simp only[iS];grind
  have h2:iS (λj=>g j<|m-j) (m+1)=iS (λj=>g j<|m-j) m+g m (m-m):=rfl;show iS (λj=>iS (g j)<|m+1-j) m+iS (g m) (m+1-m)=iS (λs=>iS (λj=>g j<|s-j)<|s+1) m+iS (λj=>g j<|m-j) (m+1);rw[e1,Gj,h1,h2,ih,dD]
  grind
def Bv{f:Nat->Rat}(h:∀ i,0<=f i){m k:Nat}(hk:m<=k):iS f m<=iS f k:=by
 induction k with
 |zero=>
  have:m=0:= aI ;rw[this];exact bH
 |succ k ih=>
  by_cases hm:m=k+1
  .rw [hm];exact bH
  .have:=ih aI ;have:=h k;rw[iS];grind
def vr(f:Nat->Rat)(m:Nat):∀ d,iS f (m+d)=iS f m+iS (λi=>f<|m+i) d
 | 0=>by simp only[iS,ch];grind
 |d+1=>by
  show iS f (m+d)+f (m+d)=_;rw[vr f m d,iS];grind
def yK(c:Rat)(j:Nat):eQ c (j+1)*((j+1:Nat):Rat)=c*eQ c j:=by
 have h:c/((j+1:Nat):Rat)*((j+1:Nat):Rat)=c:=cV (by have:=Cr j;grind);simp only[eQ];grind
def natCast_succ(j:Nat):((j+1:Nat):Rat)=(j:Rat)+1:=by rw[dH];rfl
def KG(a b:Rat):∀ s,iS (λj=>eQ b j*eQ a (s-j)) (s+1)=eQ (a+b) s
 | 0=>by
  show 0+eQ b 0*eQ a 0=1;simp only[eQ];grind
 |s+1=>by
  have ih:=KG a b s;have hp:=Cr s;have key:iS (λj=>eQ b j*eQ a (s+1-j)) (s+2)*((s+1:Nat):Rat)=(a+b)*eQ (a+b) s:=by
   have e0:iS (λj=>eQ b j*eQ a (s+1-j)) (s+2)*((s+1:Nat):Rat)=iS (λj=>(j:Rat)*(eQ b j*eQ a (s+1-j))+eQ b j*(((s+1-j:Nat):Rat)*eQ a (s+1-j))) (s+2):=by
    rw[<-Gk];refine pM _ λj hj=>?_
    have:((s+1:Nat):Rat)=(j:Rat)+((s+1-j:Nat):Rat):=by rw[<-dH];congr 1;omega
    rw[this];grind
   rw[e0,Gj];have e1:iS (λj=>(j:Rat)*(eQ b j*eQ a (s+1-j))) (s+2)=b*eQ (a+b) s:=by
    rw[At,<-ih,<-As];have z:(((0:Nat):Rat))=0:=rfl;rw[z,fu,Rat.zero_add];refine pM _ λj hj=>?_
    have h1:=yK b j;rw[(aI:s+1-(j+1)=s-j)]
    grind
   have e2:iS (λj=>eQ b j*(((s+1-j:Nat):Rat)*eQ a (s+1-j))) (s+2)=a*eQ (a+b) s:=by
    rw[(aI:s+2=(s+1)+1),iS,dD,<-ih,<-As];have z:(((0:Nat):Rat))=0:=rfl;rw[z,fu,Rat.mul_zero,Rat.add_zero];refine pM _ λj hj=>?_
    have h1:=yK a<|s-j;rw[(aI:s+1-j=s-j+1)]
    grind
   rw[e1,e2];grind
  have h2:=yK (a+b) s;have h3:iS (λj=>eQ b j*eQ a (s+1-j)) (s+2)*((s+1:Nat):Rat)=eQ (a+b) (s+1)*((s+1:Nat):Rat):=by rw[key,h2]
  exact fw (dG (by rw[h3];exact bH) hp)<|dG (by rw[h3];exact bH) hp
def zN(c:Rat):∀ j,iR (eQ c j)=eQ (iR c) j
 | 0=>by simp only[eQ];decide
 |j+1=>by
  simp only[eQ];rw[oA,zN c j];congr 1;rw[cB,cB,oA];congr 1;have:=dw.2<|Cr j;unfold iR;rw[bA<|bF this]
def re(v:Rat):Nat->Rat
 | 0=>1
 |j+1=>re v j*v
def abk(v:Rat)(i:Nat):∀ j,re v (i+j)=re v i*re v j
 | 0=>by simp only[re,ch];grind
 |j+1=>by
  show re v (i+j)*v=_;rw[abk v i j,re];grind
def Sf{v:Rat}(h:0<=v):∀ j,0<=re v j
 | 0=>by simp only[re];decide
 |j+1=>bD (Sf h j) h
def Pr(c v:Rat):∀ j,eQ (c*v) j=eQ c j*re v j
 | 0=>by simp only[eQ,re];grind
 |j+1=>by
  simp only[eQ,re];rw[Pr c v j];simp only[cB];grind
def wT(q:Rat):∃ n:Nat,q<=(n:Rat):=by
 refine⟨q.ceil.toNat,?_⟩;have h1:q<=(q.ceil:Rat):=Rat.le_ceil;have h2:((q.ceil:Int):Rat)<=((q.ceil.toNat:Nat):Rat):=by
  rw[<-dj,cY];omega
 exact bI h1 h2
def Tg{z:Rat}{J:Nat}(hz:0<=z)(hJ:z*2<=(J:Rat)){m:Nat}(hm:J<=m):eQ z (m+1)*2<=eQ z m:=by
 have h0:=qC hz m;have h1:=yK z m;have hp:=Cr m;have P5:z*2<=((m+1:Nat):Rat):=bI hJ<|cX.2 aI;apply dG (c:=((m+1:Nat):Rat)) _ hp;have h2:=bY P5 h0
 grind
def CM{z:Rat}{J:Nat}(hz:0<=z)(hJ:z*2<=(J:Rat)){m:Nat}(hm:J<=m):∀ d,iS (λi=>eQ z<|m+i) d+eQ z (m+d)*2<=eQ z m*2
 | 0=>by simp only[iS,ch];grind
 |d+1=>by
  have ih:=CM hz hJ hm d;have h1:=Tg hz hJ (aI:J<=m+d);rw[iS,(aI:m+(d+1)=m+d+1)]
  grind
def adv{z:Rat}{J:Nat}(hz:0<=z)(hJ:z*2<=(J:Rat)):∀ r:Nat,eQ z (J+r)*((2^r:Nat):Rat)<=eQ z J
 | 0=> aP 
 |r+1=>by
  have ih:=adv hz hJ r;have h1:=Tg hz hJ (aI:J<=J+r);have hp:(0:Rat)<=((2^r:Nat):Rat):=cE;have h2:=bK h1 hp;rw[show(2^(r+1):Nat)=2^r*2 from bV _ _,cQ,(aI:J+(r+1)=J+r+1)];have e:((2:Nat):Rat)=2:=rfl;rw[e];grind
def Ns{z ε:Rat}(hz:0<=z)(hε:0<ε):∃ m0,∀ m,m0<=m->∀ d,iS (λi=>eQ z<|m+i) d<=ε:=by
 obtain⟨J,hJ⟩:=wT<|z*2;obtain⟨r,hr⟩:=wT<|eQ z J*2/ε;refine⟨J+r,λm hm d=>?_⟩;obtain⟨t,rfl⟩:∃ t,m=J+t:=⟨m-J,aI⟩
 have h1:=CM hz hJ (aI:J<=J+t) d;have h2:=adv hz hJ t;have h3:=qC hz<|J+t+d;have h4:=qC hz<|J+t;have vd:(r:Rat)<=((2^t:Nat):Rat):=cX.2<|dU<|dh (aI:r<=t) Nat.lt_two_pow_self;have h5:eQ z J*2<=ε*((2^t:Nat):Rat):=by
  have h6:eQ z J*2/ε*ε=eQ z J*2:=cV aS;have h7:=bK (bI hr vd)<|bF hε
  grind
 have hp:(0:Rat)<((2^t:Nat):Rat):=dQ.2<|bL aK;have h8:eQ z (J+t)*2<=ε:=by
  apply dG (c:=((2^t:Nat):Rat)) _ hp
  grind
 grind
def MP(n:Nat)(M:QM):Nat->QM
 | 0=>y5
 |j+1=>qN n (MP n M j) M
section
variable {n:Nat} {M:QM}
def Oi(t:Rat):∀ j i l,TQ n M t j i l=eQ t j*MP n M j i l
 | 0,i,l=>by simp only[TQ,eQ,MP];grind
 |j+1,i,l=>by
  show t/((j+1:Nat):Rat)*iS (λq=>TQ n M t j i q*M q l) n=eQ t j*(t/((j+1:Nat):Rat))*iS (λq=>MP n M j i q*M q l) n;rw[pM n λq _=>show TQ n M t j i q*M q l=eQ t j*(MP n M j i q*M q l)by rw[Oi t j i q];grind,As]
  grind
def GG(t:Rat)(i l:Nat):∀ N,SQ n M t N i l=iS (λj=>eQ t j*MP n M j i l) (N+1)
 | 0=>by simp only[SQ,iS,eQ,MP];grind
 |N+1=>by
  show SQ n M t N i l+TQ n M t (N+1) i l=_;rw[GG t i l N,Oi];rfl
def am9(A:QM)(i:Nat){l:Nat}(hl:l<n):qN n A y5 i l=A i l:=by
 have:∀ m,iS (λq=>A i q*y5 q l) m=if l<m then A i l else 0:=by
  intro m
  induction m with
  |zero=>simp[iS]
  |succ m ih=>
   rw[iS,ih];unfold y5;by_cases h1:l<m
   .rw [bA h1,bw (aI:¬m=l),bA (aI:l<m+1)];grind
   .by_cases h2:m=l
    .subst h2;rw[bw h1,bA rfl,bA (aI:m<m+1)];grind
    .rw [bw h1,bw h2,bw (aI:¬l<m+1)];grind
 unfold qN;rw[this,bA hl]
def am8(A B C:QM)(i l:Nat):qN n A (qN n B C) i l=qN n (qN n A B) C i l:=by
 unfold qN;have e1:∀ q,A i q*iS (λr=>B q r*C r l) n=iS (λr=>A i q*(B q r*C r l)) n:=λq=>(As _ _ n).symm
 have e2:∀ r,iS (λq=>A i q*B q r) n*C r l=iS (λq=>A i q*B q r*C r l) n:=λr=>(Gk _ _ n).symm
 rw[pM n λq _=>e1 q,pM (f:=λq=>iS (λq_1=>A i q_1*B q_1 q) n*C q l) n λr _=>e2 r,JQ];exact pM n λr _=>pM n λq _=> aS 
def UB(j:Nat):∀ k i l,l<n->qN n (MP n M j) (MP n M k) i l=MP n M (j+k) i l
 | 0,i,l,hl=>am9 _ i hl
 |k+1,i,l,hl=>by
  show qN n (MP n M j) (qN n (MP n M k) M) i l=qN n (MP n M<|j+k) M i l;rw[am8];exact pM n λq hq=>by rw[UB j k i q hq]
def UC{v:Rat}(hv:0<=v)(h:BG n M v):∀ j,BG n (MP n M j) (re v j)
 | 0=>λi _=>(arN n i).1
 |j+1=>aqJ (Sf hv j) hv (UC hv h j) h
def aqH(n:Nat)(M:QM):∃ v,0<=v/\BG n M v:=by
 refine⟨iS (λi=>iS (λl=>iR<|M i l) n) n,Et n λi _=>Et n λl _=>(jH _).1,λi hi=>?_⟩;have:∀ m,i<m->iS (λl=>iR<|M i l) n<=iS (λi=>iS (λl=>iR<|M i l) n) m:=by
  intro m hm
  induction m with
  |zero=>omega
  |succ m ih=>
   rw[iS];have h0:0<=iS (λl=>iR<|M m l) n:=Et n λl _=>(jH _).1
   have h1:0<=iS (λi=>iS (λl=>iR<|M i l) n) m:=Et m λi _=>Et n λl _=>(jH _).1
   by_cases hq:i=m
   .subst hq;grind
   .have:=ih aI;grind
 exact this n hi
def aou(a b:Rat)(N:Nat)(i:Nat){l:Nat}(hl:l<n):qN n (SQ n M b N) (SQ n M a N) i l=iS (λj=>iS (λk=>eQ b j*eQ a k*MP n M (j+k) i l)<|N+1) (N+1):=by
 unfold qN;have e1:∀ q,SQ n M b N i q*SQ n M a N q l=iS (λj=>iS (λk=>eQ b j*eQ a k*(MP n M j i q*MP n M k q l))<|N+1) (N+1):=by
  intro q;rw[GG,GG,<-Gk];refine pM _ λj _=>?_
  rw[<-As];exact pM _ λk _=> aS 
 rw[pM n λq _=>e1 q,JQ];refine pM _ λj _=>?_
 rw[JQ];refine pM _ λk _=>?_
 rw[<-UB j k i l hl,As];rfl
def ash(a b:Rat)(N:Nat)(i l:Nat):iS (λj=>iS (λk=>eQ b j*eQ a k*MP n M (j+k) i l)<|N+1-j) (N+1)=SQ n M (a+b) N i l:=by
 rw[Np λj k=>eQ b j*eQ a k*MP n M (j+k) i l,GG];refine pM _ λs _=>?_
 rw[<-KG,<-Gk];exact pM _ λj hj=>by rw[(aI:j+(s-j)=s)]
def adf(g:Nat->Nat->Rat)(m:Nat):iS (λj=>iS (g j) m) m=iS (λj=>iS (g j)<|m-j) m+iS (λj=>iS (λk=>g j<|m-j+k) j) m:=by
 rw[<-Gj];refine pM _ λj hj=>?_
 rw[<-vr,(aI:m-j+j=m)]
def akC{v:Rat}(hv:0<=v)(h:BG n M v)(a b:Rat)(N:Nat){i l:Nat}(hi:i<n)(hl:l<n):
 iR (qN n (SQ n M b N) (SQ n M a N) i l-SQ n M (a+b) N i l)<=iS (λs=>eQ (iR a*v+iR b*v)<|N+1+s) (N+1):=by
 have hx:0<=iR a*v:=bD (jH a).1 hv;have hy:0<=iR b*v:=bD (jH b).1 hv;have e1:qN n (SQ n M b N) (SQ n M a N) i l=SQ n M (a+b) N i l+iS (λj=>iS (λk=>eQ b j*eQ a (N+1-j+k)*MP n M (j+(N+1-j+k)) i l) j) (N+1):=by
  have:=adf (λj k=>eQ b j*eQ a k*MP n M (j+k) i l)<|N+1;rw[ash,<-aou a b N i hl]at this;exact this
 have e2:qN n (SQ n M b N) (SQ n M a N) i l-SQ n M (a+b) N i l=iS (λj=>iS (λk=>eQ b j*eQ a (N+1-j+k)*MP n M (j+(N+1-j+k)) i l) j) (N+1):= aS ;rw[e2];have e3:iR (iS (λj=>iS (λk=>eQ b j*eQ a (N+1-j+k)*MP n M (j+(N+1-j+k)) i l) j)<|N+1)<=iS (λj=>iS (λk=>eQ (iR b*v) j*eQ (iR a*v) (N+1-j+k)) j) (N+1):=by
  refine bI (uM _ _)<|uF _ λj _=>bI (uM _ _)<|uF _ λk _=>?_;rw[oA,oA,zN,zN,Pr,Pr];have hr:=aqG (UC hv h<|j+(N+1-j+k)) hi hl;rw[abk]at hr;have h1:=qC (jH b).1 j;have h2:=qC (jH a).1<|N+1-j+k;have h3:=bY hr<|bD h1 h2
  grind
 refine bI e3 ?_;have q1:iS (λj=>iS (λk=>eQ (iR b*v) j*eQ (iR a*v) k)<|N+1) (N+1)=iS (λj=>iS (λk=>eQ (iR b*v) j*eQ (iR a*v) k)<|N+1-j) (N+1)+iS (λj=>iS (λk=>eQ (iR b*v) j*eQ (iR a*v) (N+1-j+k)) j) (N+1):=
  adf (λj k=>eQ (iR b*v) j*eQ (iR a*v) k) (N+1)
 have q2:iS (λj=>iS (λk=>eQ (iR b*v) j*eQ (iR a*v) k)<|N+1-j) (N+1)=iS (λs=>eQ (iR a*v+iR b*v) s) (N+1):=by
  rw[Np λj k=>eQ (iR b*v) j*eQ (iR a*v) k];exact pM _ λs _=>KG _ _ s
 have G0:∀ j k,0<=eQ (iR b*v) j*eQ (iR a*v) k:=λj k=>bD (qC hy j)<|qC hx k
 have q3:iS (λj=>iS (λk=>eQ (iR b*v) j*eQ (iR a*v) k)<|N+1) (N+1)<=iS (λs=>eQ (iR a*v+iR b*v) s) (N+1+(N+1)):=by
  rw[<-pM (f:=λs=>iS (λj=>eQ (iR b*v) j*eQ (iR a*v) (s-j))<|s+1) _ λs _=>KG _ _ s,<-Np (λj k=>eQ (iR b*v) j*eQ (iR a*v) k)];refine bI (uF _ λj hj=>Bv (λk=>G0 j k) (aI:N+1<=N+1+(N+1)-j)) ?_;exact Bv (λj=>Et _ λk _=>G0 j k) aI 
 rw[vr (λs=>eQ (iR a*v+iR b*v) s) (N+1)<|N+1,q1,q2]at q3;have cancel:∀ A B C:Rat,A+B<=A+C->B<=C:=by intro A B C h;grind
 exact cancel _ _ _ q3
def X3(n:Nat)(M:QM)(a b:Rat){ε:Rat}(hε:0<ε):∃ N0,∀ N,N0<=N->∀ i l,i<n->l<n->iR (qN n (SQ n M b N) (SQ n M a N) i l-SQ n M (a+b) N i l)<=ε:=by
 obtain⟨v,hv,h⟩:=aqH n M;have hz:0<=iR a*v+iR b*v:=by
  have hx:0<=iR a*v:=bD (jH a).1 hv;have hy:0<=iR b*v:=bD (jH b).1 hv
  grind
 obtain⟨m0,h0⟩:=Ns hz hε;exact⟨m0,λN hN i l hi hl=>bI (akC hv h a b N hi hl)<|h0 (N+1) aI<|N+1⟩
def aer(N:Nat)(i l:Nat):SQ n M 0 N i l=y5 i l:=by
 induction N with
 |zero=>rfl
 |succ N ih=>
  show SQ n M 0 N i l+TQ n M 0 (N+1) i l=_;rw[ih,Oi];simp only[eQ,cB];grind
end
def jr(f:Nat->Rat)(X:Iv):Prop:=∀ ε,0<ε->∃ N0,∀ N,N0<=N->∃ r,X.ja r/\iR (f N-r)<=ε
def jr.Ct{f:Nat->Rat}{X:Iv}{k:Nat}(h:∀ N,k<=N->X.ja (f N)):jr f X:=λε hε=>
 ⟨k,λN hN=>⟨f N,h N hN,by rw[Rat.sub_self,yz];exact bF hε⟩⟩
def jr.all{f:Nat->Rat}{X:Iv}(h:X.all=true):jr f X:=jr.Ct (k:=0) λ_ _=>.inl h
def jr.shift{f g:Nat->Rat}{X:Iv}(h:jr f X)(k:∀ ε,0<ε->∃ N0,∀ N,N0<=N->iR (g N-f N)<=ε):jr g X:=λε hε=>by
 obtain⟨N1,h1⟩:=h (ε/2) aS;obtain⟨N2,h2⟩:=k (ε/2) aS;refine⟨max N1 N2,λN hN=>?_⟩;obtain⟨r,hr,hd⟩:=h1 N aI;have hg:=h2 N aI;refine⟨r,hr,?_⟩;have:=wS (g N-f N)<|f N-r;rw[show g N-f N+(f N-r)=g N-r by grind]at this
 grind
def jr.sq{f:Nat->Rat}{X:Iv}(hx:X.iD)(h:jr f X){p:Nat}(hp:1<=p)(iJ:p<=4096):jr (λN=>f N*f N)<|iO X X p:=by
 cases xa:X.all
 .intro ε hε;obtain⟨B,hB⟩:∃ B,B=iR X.lo.q+iR X.hi.q+1:=⟨_,rfl⟩
  have a0:=jH X.lo.q;have b0:=jH X.hi.q;have hB1:1<=B:= aS ;have P0:0<2*B:= aS ;obtain⟨δ,hδ⟩:∃ δ,δ=min 1 (ε/(2*B)):=⟨_,rfl⟩
  have hεB:0<ε/(2*B):=by rw[cB];exact cR hε<|dw.2 P0
  have FJ:0<δ:=by rw[hδ];grind
  have hδ1:δ<=1:=by rw[hδ];grind
  have hδ2:δ*(2*B)<=ε:=by
   have h1:δ<=ε/(2*B):=by rw[hδ];grind
   have h2:=bK h1<|bF P0;rwa[cV aS]at h2
  obtain⟨N0,h0⟩:=h δ FJ;refine⟨N0,λN hN=>?_⟩;obtain⟨r,hr,hd⟩:=h0 N hN;refine⟨r*r,wH hx hx hp iJ hr hr,?_⟩;obtain⟨r1,r2⟩:=hr.kA xa;rw[show f N*f N-r*r=(f N-r)*(f N+r)by grind,oA];have hs:iR (f N+r)<=2*B:=by
   obtain⟨_,c2,c3,_⟩:=jH<|f N-r;exact qA aS aS 
  have h3:=bY hs (jH<|f N-r).1;have h4:=bK hd<|bF P0
  grind
 .exact jr.all<|by rw[Cp p<|.inl xa];rfl
def EQ(c:Rat)(N:Nat):Rat:=iS (eQ c)<|N+1
def anQ(j:Nat):MP 1 (λ_ _=>1) j 0 0=1:=by
 induction j with
 |zero=>rfl
 |succ j ih=>
  show iS (λq=>MP 1 (λ_ _=>1) j 0 q*1) 1=1;simp only[iS];rw[ih];grind
def Kk(c:Rat)(N:Nat):SQ 1 (λ_ _=>1) c N 0 0=EQ c N:=by
 rw[GG];exact pM _ λj _=>by rw[anQ];grind
def ED(a b:Rat){ε:Rat}(hε:0<ε):∃ N0,∀ N,N0<=N->iR (EQ (a+b) N-EQ a N*EQ b N)<=ε:=by
 obtain⟨N0,h0⟩:=X3 1 (λ_ _=>1) a b hε;refine⟨N0,λN hN=>?_⟩;have:=h0 N hN 0 0 aK aK;rw[show qN 1 (SQ 1 (λ_ _=>1) b N) (SQ 1 (λ_ _=>1) a N) 0 0=EQ a N*EQ b N by
  show iS (λq=>SQ 1 (λ_ _=>1) b N 0 q*SQ 1 (λ_ _=>1) a N q 0) 1=_;simp only[iS];rw[Kk,Kk];grind,Kk]at this
 obtain⟨_,a2,a3,_⟩:=jH<|EQ a N*EQ b N-EQ (a+b) N;exact qA aS aS 
def Kl(N:Nat):EQ 0 N=1:=by
 rw[<-Kk,aer];rfl
def Pp{y:Iv}{r:Rat}(hy:y.iD)(h:y.ja r):∀ j,j<4294967296->(s6 y j).ja (eQ r j)
 | 0,_=>yi 1
 |j+1,hj=>by
  have e:eQ r (j+1)=eQ r j*r/((j+1:Nat):Rat):=by simp only[eQ,cB];grind
  rw[e];exact Hk (ku _ _ aK aK) (Cs (j+1) hj) aK aK (wH (Ho y j) hy aK aK (Pp hy h j aI) h)<|aaX<|j+1
def W4{y:Iv}{r:Rat}(hy:y.iD)(h:y.ja r):∀ j,j<4294967296->(zM y j).ja (EQ r j)
 | 0,_=>by
  have:EQ r 0=1:=by unfold EQ;simp only[iS,eQ];grind
  rw[this];exact yi 1
 |j+1,hj=>vF (EZ y j) (Ho y<|j+1) aK aK (W4 hy h j aI)<|Pp hy h (j+1) hj
def aeL{x:Iv}{r s:Rat}(hx:x.iD)(h:x.ja r)(hs:iR s<=iR r):(yC x).ja s:=by
 unfold yC;cases xa:x.all
 .obtain ⟨h1,h2⟩:=h.kA xa;obtain⟨m1,m2,_⟩:=yf hx.q;obtain⟨_,a2,a3,a4⟩:=jH r;obtain⟨_,b2,b3,_⟩:=jH s;have hr:iR r<=(mB x).q:= aS ;refine .inr ⟨?_,?_⟩
  .show (jl<|mB x).q<=s;rw[oX];grind
  .show s<=(mB x).q
   grind
 .rw [bA rfl];exact .inl xa
def aiF{y:Iv}{r:Rat}(hy:y.iD)(h:y.ja r)(hr:iR r*2<=1)(N:Nat)(hN:20<=N):(W3 y).ja<|EQ r N:=by
 obtain⟨d,rfl⟩:∃ d,N=20+d:=⟨N-20,aI⟩
 have e1:EQ r (20+d)=EQ r 20+iS (λi=>eQ r<|21+i) d:=by
  unfold EQ;rw[(aI:20+d+1=21+d),vr]
 have hz:=(jH r).1;have t:=CM hz (J:=1) (by exact hr) (show 1<=21 by decide) d;have p0:=qC hz<|21+d;have b1:iR (iS (λi=>eQ r<|21+i) d)<=iS (λi=>eQ (iR r)<|21+i) d:=by
  have:=uM (λi=>eQ r<|21+i) d;rwa[pM d λi _=>zN r<|21+i]at this
 have hZ:(iO (jo (iO (s6 y 20) y 320) (iT 21) 320) (iT 2) 320).ja<|eQ r 21*2:=by
  have h1:=(Pp hy h 21 aK)
  exact wH (pf _ _ aK aK) (Cs 2 aK) aK aK h1<|yi 2
 rw[e1];refine vF (EZ y 20) (Ov<|ku _ _ aK aK) aK aK (W4 hy h 20 aK)<|aeL (ku _ _ aK aK) hZ ?_;have e2:iR (eQ r 21*2)=eQ (iR r) 21*2:=by rw[oA,zN];rfl
 rw[e2];grind
def W2{y:Iv}{r:Rat}(hy:y.iD)(h:y.ja r)(hr:iR r*2<=1):∀ K,jr (EQ<|r*((2^K:Nat):Rat)) (yJ y K)
 | 0=>by
  rw[show r*((2^0:Nat):Rat)=r by simp];exact jr.Ct (k:=20) λN hN=>aiF hy h hr N hN
 |K+1=>by
  have ih:=(W2 hy h hr K).sq (K6 y K) (p:=320) aK aK;refine ih.shift λε hε=>?_
  obtain⟨N0,h0⟩:=ED (r*((2^K:Nat):Rat)) (r*((2^K:Nat):Rat)) hε;have e:r*((2^K:Nat):Rat)+r*((2^K:Nat):Rat)=r*((2^(K+1):Nat):Rat):=by
   rw[bV,cQ,show((2:Nat):Rat)=2 from rfl];grind
  rw[e]at h0;exact⟨N0,h0⟩
def abo{d:Dy}(h:d.m≠0):iR d.q<=P2 d.jb:=by
 have hT:d.jb=(iE d.m:Int)+d.e:=by unfold Dy.jb;rw[bw h]
 have h1:(d.m:Rat)<=((2^iE d.m:Nat):Rat):=cX.2<|dU<|qL d.m;have h2:=bK h1<|bF<|nb d.e;rw[<-vu,<-qZ]at h2;have h0:0<=(d.m:Rat)*P2 d.e:=bD cE<|bF<|nb _;rw[hT,qt];cases d.neg
 .exact qA h2<|by simp only[cz,bN];grind
 .exact qA (by simp only[bW];grind)<|by simp only[bW];grind
def BF{a b:Int}(h:a<=b):P2 a<=P2 b:=by
 rw[GF h];have h1:(1:Rat)<=((2^(b-a).toNat:Nat):Rat):=by
  have:=cX.2<|Nat.one_le_two_pow (n:=(b-a).toNat);exact this
 have:=bK h1<|bF<|nb a
 grind
def nu(c:Rat):Nat->Rat×Rat
 | 0=>(1,0)
 |j+1=>(-(c/((j+1:Nat):Rat)*(nu c j).2),c/((j+1:Nat):Rat)*(nu c j).1)
def CS(c:Rat)(N:Nat):Rat:=iS (λj=>(nu c j).1)<|N+1
def SN(c:Rat)(N:Nat):Rat:=iS (λj=>(nu c j).2)<|N+1
def uB(m:Rat):QM:=λi j=>if i=0/\j=1 then -m else if i=1/\j=0 then m else 0
def Aw{i:Nat}(h:i<2):i=0\/i=1:= aI 
def zh(u v:Rat):QM:=λi j=>if i=j then u else if i=0 then -v else v
def SL(m t:Rat):∀ j,∀ {i l:Nat},i<2->l<2->TQ 2 (uB m) t j i l=zh (nu (t*m) j).1 (nu (t*m) j).2 i l
 | 0,i,l,hi,hl=>by
  rcases Aw hi with rfl|rfl<;>rcases Aw hl with rfl|rfl<;>simp[TQ,y5,zh,nu]
 |j+1,i,l,hi,hl=>by
  show t/((j+1:Nat):Rat)*qN 2 (TQ 2 (uB m) t j) (uB m) i l=_;simp only[qN,iS];rw[SL m t j hi aK,SL m t j hi aK];have e:t*m/((j+1:Nat):Rat)=t/((j+1:Nat):Rat)*m:=by simp only[cB];grind
  rcases Aw hi with rfl|rfl<;>rcases Aw hl with rfl|rfl<;>simp[zh,uB,nu,e]<;>grind
def F7(m t:Rat)(N:Nat){i l:Nat}(hi:i<2)(hl:l<2):SQ 2 (uB m) t N i l=zh (CS (t*m) N) (SN (t*m) N) i l:=by
 have:∀ N,SQ 2 (uB m) t N i l=iS (λj=>TQ 2 (uB m) t j i l) (N+1):=by
  intro N
  induction N with
  |zero=>show TQ 2 (uB m) t 0 i l=0+TQ 2 (uB m) t 0 i l;grind
  |succ N ih=>show SQ 2 (uB m) t N i l+TQ 2 (uB m) t (N+1) i l=_;rw[ih];rfl
 rw[this,pM _ λj _=>SL m t j hi hl];unfold CS SN;have neg:∀ (f:Nat->Rat) n,iS (λj=>-f j) n = -iS f n:=by
  intro f n
  induction n with
  |zero=>simp[iS]
  |succ n ih=>rw[iS,iS,ih];grind
 rcases Aw hi with rfl|rfl<;>rcases Aw hl with rfl|rfl<;>simp[zh,neg]
def oU(d:Rat)(f g:Nat->Rat):Prop:=∃ N0,∀ N,N0<=N->iR (f N-g N)<=d
def oU.mono{d e:Rat}{f g:Nat->Rat}(h:oU d f g)(k:d<=e):oU e f g:=by
 obtain⟨N0,h⟩:=h;exact⟨N0,λN hN=>bI (h N hN) k⟩
def Dd(a b:Rat){ε:Rat}(hε:0<ε):oU ε (CS<|a+b) (λN=>CS a N*CS b N-SN a N*SN b N)/\oU ε (SN<|a+b) (λN=>SN a N*CS b N+CS a N*SN b N):=by
 obtain⟨N0,h0⟩:=X3 2 (uB 1) a b hε;have key:∀ N i l,i<2->l<2->qN 2 (SQ 2 (uB 1) b N) (SQ 2 (uB 1) a N) i l=zh (CS b N) (SN b N) i 0*zh (CS a N) (SN a N) 0 l+zh (CS b N) (SN b N) i 1*zh (CS a N) (SN a N) 1 l:=by
  intro N i l hi hl;show iS (λq=>SQ 2 (uB 1) b N i q*SQ 2 (uB 1) a N q l) 2=_;simp only[iS];rw[F7 1 b N hi aK,F7 1 b N hi aK,F7 1 a N aK hl,F7 1 a N aK hl,dL,dL]
  grind
 constructor
 .refine ⟨N0,λN hN=>?_⟩;have:=h0 N hN 0 0 aK aK;rw[key N 0 0 aK aK,F7 1 (a+b) N aK aK,dL]at this;simp[zh]at this;obtain⟨_,a2,a3,_⟩:=jH<|CS b N*CS a N + -(SN b N*SN a N)-CS (a+b) N;refine qA ?_ ?_<;>grind
 .refine ⟨N0,λN hN=>?_⟩;have:=h0 N hN 1 0 aK aK;rw[key N 1 0 aK aK,F7 1 (a+b) N aK aK,dL]at this;simp[zh]at this;obtain⟨_,a2,a3,_⟩:=jH<|SN b N*CS a N+CS b N*SN a N-SN (a+b) N;refine qA ?_ ?_<;>grind
def O7(c:Rat):∀ j,nu (-c) j=((nu c j).1,-(nu c j).2)
 | 0=>by simp[nu]
 |j+1=>by
  have e:-c/((j+1:Nat):Rat) = -(c/((j+1:Nat):Rat)):=by simp only[cB];grind
  simp only[nu,O7 c j,e];congr 1<;>grind
def Ur(c:Rat)(N:Nat):CS (-c) N=CS c N:=pM _ λj _=>by rw[O7]
def UH(c:Rat)(N:Nat):SN (-c) N = -SN c N:=by
 have:∀ n,iS (λj=>(nu (-c) j).2) n = -iS (λj=>(nu c j).2) n:=by
  intro n
  induction n with
  |zero=>simp[iS]
  |succ n ih=>rw[iS,iS,ih,O7];grind
 exact this _
def xN(c:Rat):∀ j,iR (nu c j).1<=eQ (iR c) j/\iR (nu c j).2<=eQ (iR c) j
 | 0=>by
  simp only[nu,eQ];exact⟨aT,aT⟩
 |j+1=>by
  obtain⟨h1,h2⟩:=xN c j;have hp:=dw.2<|Cr j;have hd:iR (c/((j+1:Nat):Rat))=iR c/((j+1:Nat):Rat):=by
   rw[cB,cB,oA];congr 1;unfold iR;rw[bA<|bF hp]
  have h0:=yG (jH c).1<|Cr j;have hn:∀ x,iR (-x)=iR x:=by
   intro x;obtain⟨a1,a2,a3,a4⟩:=jH x;obtain⟨b1,b2,b3,b4⟩:=jH (-x)
   grind
  simp only[nu,eQ];rw[hn,oA,oA,hd];have m1:=bY h1 h0;have m2:=bY h2 h0;constructor<;>grind
def Bw{f g:Nat->Rat}(h:∀ j,iR (f j)<=g j)(n:Nat):iR (iS f n)<=iS g n:=bI (uM f n)<|uF n λj _=>h j
def N7(c:Rat)(N:Nat):iR (CS c N)<=EQ (iR c) N/\iR (SN c N)<=EQ (iR c) N:=⟨Bw (λj=>(xN c j).1) _,Bw (λj=>(xN c j).2) _⟩
def Pq{x y:Rat}(h0:0<=x)(h:x<=y):∀ j,eQ x j<=eQ y j
 | 0=>bH
 |j+1=>by
  have h1:=Pq h0 h j;have hp:=bF<|dw.2<|Cr j;simp only[eQ,cB];have m1:=bK h hp;have m2:=bK h1<|bD h0 hp;have m3:=bY m1<|qC (bI h0 h) j
  grind
def N9{x y:Rat}(h0:0<=x)(h:x<=y)(N:Nat):EQ x N<=EQ y N:=uF _ λj _=>Pq h0 h j
def aei(N:Nat):EQ 2 N<=8:=by
 have h:=CM (z:=2) (J:=4) aK aT<|bB 4;have n0:=λm=>qC (c:=2) aK m
 have e4:iS (eQ 2) 4=19/3:= aT ;have e5:eQ 2 4=2/3:= aT ;have e6:iS (eQ 2) (N+1)<=iS (eQ 2) (4+(N+1)):=Bv (λi=>n0 i) aI;have h1:=h<|N+1;have h2:=n0<|4+(N+1);unfold EQ;rw[vr (eQ 2) 4<|N+1,e4]at e6;rw[e5]at h1
 grind
def N8{c:Rat}(h:iR c<=2)(N:Nat):iR (CS c N)<=8/\iR (SN c N)<=8:=by
 have h1:=N7 c N;have h2:=N9 (jH c).1 h N;have h3:=aei N;exact⟨aS,aS⟩
def ahL(c:Rat){ε:Rat}(hε:0<ε):∃ N0,∀ N,N0<=N->∀ d,iR (CS c (N+d)-CS c N)<=ε:=by
 obtain⟨m0,h0⟩:=Ns (jH c).1 hε;refine⟨m0,λN hN d=>?_⟩;have e:CS c (N+d)-CS c N=iS (λi=>(nu c<|N+1+i).1) d:=by
  unfold CS;rw[(aI:N+d+1=N+1+d),vr]
  grind
 rw[e];exact bI (Bw (λi=>(xN c<|N+1+i).1) d)<|h0 (N+1) aI d
def Hc{c:Rat}(h0:0<=c)(h:c*2<=1)(N:Nat):iR (CS c N-1)<=c*2/\iR (SN c N)<=c*2:=by
 have ha:iR c=c:=by unfold iR;rw[bA h0]
 have t:=CM (z:=c) (J:=1) h0 h (bB 1) N;have p0:=qC h0<|1+N;have e1:eQ c 1=c:=by
  show 1*(c/((0+1:Nat):Rat))=c;have:((0+1:Nat):Rat)=1:=rfl;rw[this,cB];have:(1:Rat)⁻¹=1:= aT ;rw[this];grind
 rw[e1]at t;have b1:CS c N-1=iS (λi=>(nu c<|1+i).1) N:=by
  unfold CS;rw[(aI:N+1=1+N),vr];show 0+1+_-1=_
  grind
 have b2:SN c N=iS (λi=>(nu c<|1+i).2) N:=by
  unfold SN;rw[(aI:N+1=1+N),vr];show 0+0+_=_
  grind
 rw[b1,b2];have s1:=Bw (λi=>(xN c<|1+i).1) N;have s2:=Bw (λi=>(xN c<|1+i).2) N;rw[ha]at s1 s2;exact⟨aS,aS⟩
def CX(f:Nat->Rat):Prop:=∀ ε,0<ε->∃ N0,∀ N,N0<=N -> -ε<=f N
def GD(f:Nat->Rat):Prop:=∀ ε,0<ε->∃ N0,∀ N,N0<=N->f N<=ε
def ahN(c:Rat):CX (CS c)\/GD (CS c):=by
 by_cases h:CX<|CS c
 .exact .inl h
 .right;unfold CX at h;have⟨ε,hε,hh⟩:∃ ε,0<ε/\∀ N0,∃ N,N0<=N/\CS c N < -ε:=by
   apply cF;intro q;apply h;intro ε hε;apply cF;intro q2;apply q;refine⟨ε,hε,λN0=>?_⟩;apply cF;intro q3;apply q2;refine⟨N0,λN hN=>?_⟩;apply dt.1;intro je;exact q3 ⟨N,hN,je⟩
  intro δ hδ;obtain⟨N1,h1⟩:=ahL c (show 0<ε/2 by grind);obtain⟨N,hN,je⟩:=hh N1;refine⟨N,λN' hN'=>?_⟩;obtain⟨d,rfl⟩:∃ d,N'=N+d:=⟨N'-N,aI⟩
  obtain⟨_,a2,_,_⟩:=jH<|CS c (N+d)-CS c N;have:=h1 N hN d
  grind
def Vv{l u:Rat}(LL:l<=u)(hl:CX<|CS l)(hu:GD<|CS u):∀ i:Nat,∃ l' u',l<=l'/\l'<=u'/\u'<=u/\(u'-l')*((2^i:Nat):Rat)<=u-l/\CX (CS l')/\GD (CS u')
 | 0=>⟨l,u,bH,LL,bH,aP,hl,hu⟩
 |i+1=>by
  obtain⟨l',u',h1,h2,h3,h4,h5,h6⟩:=Vv LL hl hu i;have e:((2^(i+1):Nat):Rat)=((2^i:Nat):Rat)*2:=by rw[bV,cQ];rfl
  rcases ahN ((l'+u')/2)with h|h
  .exact ⟨(l'+u')/2,u',aS,aS,h3,by rw[e];grind,h,h6⟩
  .exact ⟨l',(l'+u')/2,h1,aS,aS,by rw[e];grind,h5,h⟩
def Uy(H:Iv):Prop:=∀ ε,0<ε->∃ θ,H.ja θ/\oU ε (CS θ) (λ_=>0)/\oU ε (SN θ) (λ_=>1)
def aiT{ε:Rat}(hε:0<ε):∃ η:Rat,0<η/\η<=1/4/\η*4<=ε:=by
 by_cases h:1<=ε
 .exact ⟨1/4,aT,bH,aS⟩
 .exact ⟨ε/4,aS,aS,aS⟩
def UI(l u:Rat):Prop:=∀ θ,l<=θ->θ<=u->∃ N0,∀ N,N0<=N->1/2<=SN θ N
def akO{l u:Rat}(LL:l<=u)(h0:0<=l)(h2:u<=2)(hl:CX<|CS l)(hu:GD<|CS u)(hs:UI l u){ε:Rat}(hε:0<ε):
 ∃ θ,l<=θ/\θ<=u/\oU ε (CS θ) (λ_=>0)/\oU ε (SN θ) (λ_=>1):=by
 obtain⟨η,L8,hη1,hη2⟩:=aiT hε;obtain⟨i,hi⟩:=wT<|(u-l)*64/η+4;obtain⟨l',u',k1,k2,k3,k4,k5,k6⟩:=Vv LL hl hu i;have aly:(i:Rat)<=((2^i:Nat):Rat):=cX.2<|dU Nat.lt_two_pow_self;obtain⟨δ,hδ⟩:∃ δ,δ=u'-l':=⟨_,rfl⟩
 have FJ:0<=δ:=by rw[hδ];grind
 have e1:(u-l)*64/η*η=(u-l)*64:=cV aS;have Y6:0<=(u-l)*64/η:=yG aS L8;have hP:(u-l)*64/η+4<=((2^i:Nat):Rat):=bI hi aly;have Zn:δ*64<=η/\δ*2<=1:=by
  rw[<-hδ]at k4;have m1:=bY hP FJ;generalize ((2^i:Nat):Rat)=P at *
  have m2:δ*((u-l)*64/η)+δ*4<=u-l:= aS ;have hx:=bD FJ Y6;constructor
  .by_cases hz:u-l=0
   .have:δ*4<=0:= aS 
    grind
   .have qI:0<u-l:= aS ;have m3:δ*((u-l)*64/η)<=u-l:= aS ;have m4:=bK m3<|bF L8;have m5:δ*((u-l)*64/η)*η=δ*64*(u-l):=by rw[dP,e1];grind
    rw[m5]at m4;apply dG (c:=u-l) _ qI
    grind
  .have:u-l<=2:= aS 
   grind
 have BU:∀ x,l<=x->x<=u->iR x<=2:=λx h1 h2=>qA aS aS 
 have xm:u'=l'+δ:=by rw[hδ];grind
 have hc:oU η (CS l') λ_=>0:=by
  obtain⟨N1,a1⟩:=k5 (η/8) aS;obtain⟨N2,a2⟩:=k6 (η/8) aS;obtain⟨⟨N3,a3⟩,_⟩:=Dd l' δ (show 0<η/8 by grind);refine⟨max N1<|max N2 N3,λN hN=>?_⟩;have b1:=a1 N aI;have b2:=a2 N aI;have b3:=a3 N aI;rw[<-xm]at b3;obtain⟨c1,c2⟩:=N8 (BU l' k1 aS) N;obtain⟨d1,d2⟩:=Hc FJ Zn.2 N;obtain⟨_,f2,f3,_⟩:=jH<|CS u' N-(CS l' N*CS δ N-SN l' N*SN δ N);have g1:iR (CS l' N*(CS δ N-1))<=8*(δ*2):=by
   rw[oA];exact bI (bK c1 (jH _).1)<|bY d1 aK
  have g2:iR (SN l' N*SN δ N)<=8*(δ*2):=by
   rw[oA];exact bI (bK c2 (jH _).1)<|bY d2 aK
  obtain⟨_,p2,p3,_⟩:=jH<|CS l' N*(CS δ N-1);obtain⟨_,q2,q3,_⟩:=jH<|SN l' N*SN δ N;have e:CS l' N*(CS δ N-1)=CS l' N*CS δ N-CS l' N:= aS ;have hd:=Zn.1;refine qA ?_ ?_<;>grind
 refine⟨l',k1,aS,hc.mono aS,?_⟩;obtain⟨N1,a1⟩:=hc;obtain⟨N2,a2⟩:=hs l' k1 aS;obtain⟨⟨N3,a3⟩,_⟩:=Dd l' (-l') (show 0<η by grind);refine⟨max N1<|max N2 N3,λN hN=>?_⟩;have b1:=a1 N aI;have b2:=a2 N aI;have b3:=a3 N aI;show iR (SN l' N-1)<=ε;replace b1:iR (CS l' N-0)<=η:=b1;replace b3:iR (CS (l' + -l') N-(CS l' N*CS (-l') N-SN l' N*SN (-l') N))<=η:=b3;rw[show l' + -l'=0 by grind,Ur,UH]at b3;have e0:CS 0 N=1:=by
  have:=(Hc (c:=0) bH aT N).1;obtain⟨_,x2,x3,_⟩:=jH<|CS 0 N-1
  grind
 rw[e0]at b3;obtain⟨_,x2,x3,_⟩:=jH<|1-(CS l' N*CS l' N-SN l' N * -SN l' N);obtain⟨_,y2,y3,_⟩:=jH<|CS l' N-0;have pj:CS l' N*CS l' N<=η/\0<=CS l' N*CS l' N:=by
  have h1:=oA (CS l' N)<|CS l' N;have e:CS l' N-0=CS l' N:= aS ;rw[e]at b1;have h2:=(jH<|CS l' N).1;have h3:=bY b1 h2;have h4:=bK b1<|bF L8;have h5:=bD h2 h2;obtain⟨_,z2,_,z4⟩:=jH<|CS l' N*CS l' N;have h6:η*η<=η:=by
   have:=bY hη1<|bF L8
   grind
  constructor<;>grind
 generalize SN l' N=s at *
 generalize CS l' N*CS l' N=cc at *
 have ata:s*s<=1+η:= aS ;have atb:1-2*η<=s*s:= aS ;have vg:0<=s+1:= aS ;refine qA ?_ ?_
 .apply dt.1;intro je;have kZ:0<s-1:= aS ;have:=bK (show 1<=s+1 by grind) (bF kZ)
  grind
 .apply dt.1;intro je;have kZ:0<1-s:= aS ;have:=bK (show 1<=s+1 by grind) (bF kZ)
  grind
def ik:Nat->Rat×Rat
 | 0=>(1,0)
 |k+1=>(-(ik k).2,(ik k).1)
def Zo:∀ k,iR (ik k).1<=1/\iR (ik k).2<=1
 | 0=>⟨aT,aT⟩
 |k+1=>by
  obtain⟨h1,h2⟩:=Zo k;obtain⟨_,a2,a3,_⟩:=jH (ik k).2;exact⟨qA (by show -(ik k).2<=1;grind)<|by show - -(ik k).2<=1;grind,h1⟩
def Mv{η e1:Rat}{f g:Nat->Rat}{a b:Rat}(ha:iR a<=1)(hb:iR b<=1)(he:e1<=1)(hf:oU e1 f λ_=>a)(hg:oU η g λ_=>b)(h0:0<=η)(h1:0<=e1):oU (2*η+e1) (λN=>f N*g N) λ_=>a*b:=by
 obtain⟨N1,PY⟩:=hf;obtain⟨N2,h2'⟩:=hg;refine⟨max N1 N2,λN hN=>?_⟩;have b1:=PY N aI;have b2:=h2' N aI;have e:f N*g N-a*b=(f N-a)*(g N-b)+(f N-a)*b+a*(g N-b):= aS ;rw[e];have t1:=wS ((f N-a)*(g N-b)+(f N-a)*b)<|a*(g N-b);have t2:=wS ((f N-a)*(g N-b))<|(f N-a)*b;rw[oA,oA]at t2;rw[oA a]at t1;have n1:=(jH<|f N-a).1;have n2:=(jH<|g N-b).1;have n3:=(jH a).1;have n4:=(jH b).1;have m1:=bK b1 n2;have m2:=bY b2 h1;have m3:=bY hb n1;have m4:=bK ha n2;have m5:=bK he h0
 grind
def oU.add{d e:Rat}{f g f' g':Nat->Rat}(h:oU d f g)(k:oU e f' g'):oU (d+e) (λN=>f N+f' N) λN=>g N+g' N:=by
 obtain⟨N1,h1⟩:=h;obtain⟨N2,h2⟩:=k;refine⟨max N1 N2,λN hN=>?_⟩;have:=wS (f N-g N)<|f' N-g' N;have a:=h1 N aI;have b:=h2 N aI;rw[show f N+f' N-(g N+g' N)=f N-g N+(f' N-g' N)by grind]
 grind
def oU.trans{d e:Rat}{f g k:Nat->Rat}(h:oU d f g)(h':oU e g k):oU (d+e) f k:=by
 obtain⟨N1,h1⟩:=h;obtain⟨N2,h2⟩:=h';refine⟨max N1 N2,λN hN=>?_⟩;have:=wS (f N-g N)<|g N-k N;have a:=h1 N aI;have b:=h2 N aI;rw[show f N-k N=f N-g N+(g N-k N)by grind]
 grind
def oU.neg{d:Rat}{f g:Nat->Rat}(h:oU d f g):oU d (λN=>-f N) λN=>-g N:=by
 obtain⟨N1,h1⟩:=h;refine⟨N1,λN hN=>?_⟩;obtain⟨_,a2,a3,_⟩:=jH<|f N-g N;have:=h1 N hN;exact qA aS aS 
def adL:∀ (k:Nat) {ε:Rat},0<ε->ε<=1->∃ η,0<η/\η<=ε/\∀ θ,oU η (CS θ) (λ_=>0)->oU η (SN θ) (λ_=>1)->oU ε (CS<|(k:Rat)*θ) (λ_=>(ik k).1)/\oU ε (SN<|(k:Rat)*θ) (λ_=>(ik k).2)
 | 0,ε,hε,h1=>by
  refine⟨ε,hε,bH,λθ _ _=>?_⟩;have e:((0:Nat):Rat)*θ=0:=by rw[show((0:Nat):Rat)=0 from rfl];grind
  rw[e];have:=λN=>Hc (c:=0) bH aT N
  refine⟨⟨0,λN _=>?_⟩,⟨0,λN _=>?_⟩⟩
  .have:=(this N).1;show iR (CS 0 N-1)<=ε;grind
  .have:=(this N).2;show iR (SN 0 N-0)<=ε;rw[show SN 0 N-0=SN 0 N by grind];grind
 |k+1,ε,hε,h1=>by
  obtain⟨η,p1,p2,p3⟩:=adL k (ε:=ε/16) aS aS;refine⟨η,p1,aS,λθ hc hs=>?_⟩;obtain⟨q1,q2⟩:=p3 θ hc hs;have e:((k+1:Nat):Rat)*θ=(k:Rat)*θ+θ:=by rw[natCast_succ];grind
  obtain⟨i1,i2⟩:=Zo k;obtain⟨a1,a2⟩:=Dd ((k:Rat)*θ) θ (show 0<ε/16 by grind);have z0:iR (0:Rat)<=1:= aT ;have z1:iR (1:Rat)<=1:= aT ;have m1:=Mv i1 z0 (show ε/16<=1 by grind) q1 hc (bF p1) aS;have m2:=Mv i2 z1 (show ε/16<=1 by grind) q2 hs (bF p1) aS;have m3:=Mv i2 z0 (show ε/16<=1 by grind) q2 hc (bF p1) aS;have m4:=Mv i1 z1 (show ε/16<=1 by grind) q1 hs (bF p1) aS;rw[e];constructor
  .have s:=(m1.add m2.neg)
   have t:=a1.trans (g:=λN=>CS ((k:Rat)*θ) N*CS θ N-SN ((k:Rat)*θ) N*SN θ N) (k:=λ_=>(ik k).1*0 + -((ik k).2*1)) (by
    obtain⟨N0,h0⟩:=s;exact⟨N0,λN hN=>by have:=h0 N hN;show iR (CS ((k:Rat)*θ) N*CS θ N-SN ((k:Rat)*θ) N*SN θ N-_)<=_;rwa[Rat.sub_eq_add_neg<|CS ((k:Rat)*θ) N*CS θ N]⟩)
   have e2:(λ_:Nat=>(ik k).1*0 + -((ik k).2*1))=λ_=>(ik<|k+1).1:=by funext _;simp only[ik];grind
   rw[e2]at t;exact t.mono aS 
  .have s:=m3.add m4;have t:=a2.trans (g:=λN=>SN ((k:Rat)*θ) N*CS θ N+CS ((k:Rat)*θ) N*SN θ N) (k:=λ_=>(ik k).2*0+(ik k).1*1) s;have e2:(λ_:Nat=>(ik k).2*0+(ik k).1*1)=λ_=>(ik<|k+1).2:=by funext _;simp only[ik];grind
   rw[e2]at t;exact t.mono aS 
def zD(y:Iv)(p:Nat):Iv:=iO (iW y) (iW y) p
def sr(y:Iv)(p:Nat):Nat->Iv
 | 0=>y
 |x+1=>lg<|iO (sr y p x) (zD y p) p
def yB(y:Iv)(p:Nat):Nat->Iv
 | 0=>y
 |x+1=>iZ (yB y p x) (jo (sr y p<|x+1) (iT ((2*x+3:Nat):Int)) p) p
def GQ(y:Iv)(p N:Nat):Iv:=iZ (yB y p N) ⟨jl<|ko<|0-p,ko<|0-p,false⟩ p
def Kt(p:Nat)(w:Iv):Prop:=w.all=false/\jI (mB w) (ko<|0-p)<0
def Ku(p:Nat)(w:Iv):Prop:=w.all=false/\¬jI (mB w) (ko<|0-p)<0
instance (p:Nat) (w:Iv):Decidable<|Kt p w:=inferInstanceAs<|Decidable<|_/\_
instance (p:Nat) (w:Iv):Decidable<|Ku p w:=inferInstanceAs<|Decidable<|_/\_
def GO(q:Iv)(p:Nat):Nat->Nat->Iv->Iv->Option Iv
 | 0,_,w,s=>if Kt p w then some (iZ s ⟨jl<|ko<|0-p,ko<|0-p,false⟩ p)else none
 |f+1,x,w,s=>if Ku p w then GO q p f (x+1) (lg<|iO w q p) (iZ s (jo (lg<|iO w q p) (iT ((2*x+3:Nat):Int)) p) p)else none
structure Gz(y:Iv)(p N:Nat)(R:Iv):Prop where
 go:∀ x,x<N->Ku p (sr y p x)
 out:Kt p<|sr y p N
 val:GQ y p N=R
def UW{y:Iv}{p:Nat}{R:Iv}:∀ f x,GO (zD y p) p f x (sr y p x) (yB y p x)=some R->(∀ i,x<=i->i<x+f->Ku p (sr y p i))/\Kt p (sr y p<|x+f)/\GQ y p (x+f)=R
 | 0,x,h=>by
  unfold GO at h;split at h
  .rename_i hb;exact⟨λi h1 h2=> aI,hb,by simpa[GQ]using h⟩
  .cases h
 |f+1,x,h=>by
  unfold GO at h;split at h
  .rename_i hl;obtain⟨h1,h2,h3⟩:=UW f (x+1) h;have e:x+1+f=x+(f+1):= aI ;rw[e]at h2 h3;refine⟨λi k1 k2=>?_,h2,h3⟩;rcases Nat.eq_or_lt_of_le k1 with rfl|k
   .exact hl
   .exact h1 i k aI 
  .cases h
def UX{y:Iv}{p N:Nat}{R:Iv}(h:GO (zD y p) p N 0 y y=some R):Gz y p N R:=by
 obtain⟨h1,h2,h3⟩:=UW N 0 h;rw[cJ]at h2 h3;exact⟨λx hx=>h1 x aI aI,h2,h3⟩
def tA:Dy:=⟨false,1014047155841371404857783918912611814895143950022408150448898879701903863171748812343190420115852101928445847465915947005,-398⟩
def qQ:Dy:=⟨false,2028094311682742809715567837825223629790287900044816300897797759403807726343497624686380840231704203856891694931831894109,-399⟩
def HF:Iv:=⟨tA,qQ,false⟩
def O8{c:Rat}(h0:0<=c)(h2:c<=2)(d:Nat):iR (CS c (100+d)-CS c 100)<=eQ c 101*2/\iR (SN c (100+d)-SN c 100)<=eQ c 101*2:=by
 have t:=CM (z:=c) (J:=4) h0 (by show c*2<=4;grind) (show 4<=101 by decide) d;have p0:=qC h0<|101+d;have ha:iR c=c:=by unfold iR;rw[bA h0]
 have s1:=Bw (λi=>(xN c<|101+i).1) d;have s2:=Bw (λi=>(xN c<|101+i).2) d;rw[ha]at s1 s2;have e1:CS c (100+d)-CS c 100=iS (λi=>(nu c<|101+i).1) d:=by
  unfold CS;rw[(aI:100+d+1=101+d),vr]
  grind
 have e2:SN c (100+d)-SN c 100=iS (λi=>(nu c<|101+i).2) d:=by
  unfold SN;rw[(aI:100+d+1=101+d),vr]
  grind
 rw[e1,e2];exact⟨aS,aS⟩
def ak1:eQ tA.q 101*2<CS tA.q 100:= aT 
def ak3:CS qQ.q 100 < -(eQ qQ.q 101*2):= aT 
def ak2:9/10+eQ tA.q 101*2<SN tA.q 100:= aT 
def Fl:tA.q<=qQ.q:= aT 
def Ik:0<=tA.q:= aT 
def Il:qQ.q<=2:= aT 
def ak9:(qQ.q-tA.q)*400<=1:= aT 
def after{N:Nat}(h:100<=N):∃ d,N=100+d:=⟨N-100,aI⟩
def ak5:CX<|CS tA.q:=λε hε=>by
 refine⟨100,λN hN=>?_⟩;obtain⟨d,rfl⟩:=after hN;have h:=(O8 Ik (bI Fl Il) d).1;have h1:=ak1;generalize tA.q=c at *
 obtain⟨_,a2,a3,_⟩:=jH<|CS c (100+d)-CS c 100
 grind
def ak6:GD<|CS qQ.q:=λε hε=>by
 refine⟨100,λN hN=>?_⟩;obtain⟨d,rfl⟩:=after hN;have h:=(O8 (bI Ik Fl) Il d).1;have h1:=ak3;generalize qQ.q=c at *
 obtain⟨_,a2,a3,_⟩:=jH<|CS c (100+d)-CS c 100
 grind
def ak8:UI tA.q qQ.q:=λθ h1 h2=>by
 have hw:=ak9;have h0:=Ik;have h3:=Il;have hle:=Fl;have L3:=ak2;have alE:=λd=>(O8 Ik (bI Fl Il) d).2
 generalize qQ.q=u at *
 generalize tA.q=l at *
 obtain⟨δ,hδ⟩:∃ δ,δ=θ-l:=⟨_,rfl⟩
 have hθ:θ=l+δ:=by rw[hδ];grind
 have d0:0<=δ:=by rw[hδ];grind
 have d1:δ*400<=1:=by rw[hδ];grind
 obtain⟨_,⟨N0,a⟩⟩:=Dd l δ (show(0:Rat)<1/10 by decide +kernel);refine⟨max N0 100,λN hN=>?_⟩;have hs:=a N aI;obtain⟨d,rfl⟩:=after (aI:100<=N);have ht:=alE d;rw[hθ];replace hs:iR (SN (l+δ) (100+d)-(SN l (100+d)*CS δ (100+d)+CS l (100+d)*SN δ (100+d)))<=1/10:=hs;obtain⟨b1,b2⟩:=Hc d0 aS<|100+d;obtain⟨c1,c2⟩:=N8 (show iR l<=2 from qA aS aS)<|100+d;generalize SN (l+δ) (100+d)=s at *
 obtain⟨_,t2,t3,_⟩:=jH<|SN l (100+d)-SN l 100;generalize eQ l 101=q at *
 generalize SN l 100=s1 at *
 generalize SN l (100+d)=sl at *
 generalize CS l (100+d)=cl at *
 generalize CS δ (100+d)=cd at *
 generalize SN δ (100+d)=sd at *
 have g1:iR (sl*(cd-1))<=8*(δ*2):=by
  rw[oA];exact bI (bK c2 (jH _).1)<|bY b1 aK
 have g2:iR (cl*sd)<=8*(δ*2):=by
  rw[oA];exact bI (bK c1 (jH _).1)<|bY b2 aK
 obtain⟨_,p2,p3,_⟩:=jH<|sl*(cd-1);obtain⟨_,q2,q3,_⟩:=jH<|cl*sd;obtain⟨_,f2,f3,_⟩:=jH<|s-(sl*cd+cl*sd);have e:sl*(cd-1)=sl*cd-sl:= aS 
 grind
def ak4:Uy HF:=λε hε=>by
 obtain⟨θ,h1,h2,h3,h4⟩:=akO Fl Ik Il ak5 ak6 ak8 hε;exact⟨θ,.inr ⟨h1,h2⟩,h3,h4⟩
def zq(k:Int):Rat×Rat:=if k%4=0 then(1,0)else if k%4=1 then(0,1)else if k%4=2 then(-1,0)else(0,-1)
def Zp:∀ n:Nat,ik n=zq n
 | 0=>rfl
 |n+1=>by
  have ih:=Zp n;simp only[ik,ih];have:(n:Int)%4=0\/(n:Int)%4=1\/(n:Int)%4=2\/(n:Int)%4=3:= aI ;rcases this with h|h|h|h
  .have h':((n:Int)+1)%4=1:= aI ;simp[zq,h,h']
  .have h':((n:Int)+1)%4=2:= aI ;simp[zq,h,h']
  .have h':((n:Int)+1)%4=3:= aI ;simp[zq,h,h']
  .have h':((n:Int)+1)%4=0:= aI ;simp[zq,h,h']
def asU(k:Int):zq (-k)=((zq k).1,-(zq k).2):=by
 have:k%4=0\/k%4=1\/k%4=2\/k%4=3:= aI ;rcases this with h|h|h|h
 .have h':(-k)%4=0:= aI ;simp[zq,h,h']
 .have h':(-k)%4=3:= aI ;simp[zq,h,h']
 .have h':(-k)%4=2:= aI ;simp[zq,h,h']
 .have h':(-k)%4=1:= aI ;simp[zq,h,h']
def asj(k:Int){ε:Rat}(hε:0<ε)(h1:ε<=1):∃ η,0<η/\∀ θ,oU η (CS θ) (λ_=>0)->oU η (SN θ) (λ_=>1)->oU ε (CS<|(k:Rat)*θ) (λ_=>(zq k).1)/\oU ε (SN<|(k:Rat)*θ) (λ_=>(zq k).2):=by
 obtain⟨n,hn⟩:∃ n:Nat,k=n\/k = -n:=⟨k.natAbs,aI⟩
 obtain⟨η,p1,_,p3⟩:=adL n hε h1;refine⟨η,p1,λθ hc hs=>?_⟩;obtain⟨q1,q2⟩:=p3 θ hc hs;rw[Zp]at q1 q2;rcases hn with rfl|rfl
 .have:((n:Int):Rat)=(n:Rat):=rfl;rw[this];exact⟨q1,q2⟩
 .have e:((-(n:Int):Int):Rat)*θ = -((n:Rat)*θ):=by
   rw[dY];have:((n:Int):Rat)=(n:Rat):=rfl;rw[this];grind
  rw[e,asU];refine⟨?_,?_⟩
  .obtain ⟨N0,h⟩:=q1;exact⟨N0,λN hN=>by rw[Ur];exact h N hN⟩
  .obtain ⟨N0,h⟩:=q2.neg;exact⟨N0,λN hN=>by rw[UH];exact h N hN⟩
def zi(S C:Iv)(j:Int):Iv:=if j=0 then S else if j=1 then C else if j=2 then lg S else lg C
def zg(S C:Iv)(j:Int):Iv:=if j=0 then C else if j=1 then lg S else if j=2 then lg C else S
def arD{ε:Rat}(hε:0<ε):∃ η:Rat,0<η/\η<=1/\η*64<=ε:=by
 by_cases h:64<=ε
 .exact ⟨1,aT,bH,aS⟩
 .exact ⟨ε/64,aS,aS,aS⟩
def adJ{c s zc zs η f ck sk:Rat}(hc:iR c<=8)(hs:iR s<=8)(h1:iR (ck-zc)<=η)(h2:iR (sk-zs)<=η)(h:iR (f-(c*ck-s*sk))<=η):iR (f-(c*zc-s*zs))<=η*17:=by
 have e:f-(c*zc-s*zs)=(f-(c*ck-s*sk))+(c*(ck-zc) + -s*(sk-zs)):= aS ;rw[e];have t1:=wS (f-(c*ck-s*sk))<|c*(ck-zc) + -s*(sk-zs);have t2:=wS (c*(ck-zc)) (-s*(sk-zs));rw[oA,oA]at t2;have hn:iR (-s)=iR s:=by
  obtain⟨a1,a2,a3,a4⟩:=jH s;obtain⟨b1,b2,b3,b4⟩:=jH (-s)
  grind
 rw[hn]at t2;have m1:=bI (bK hc (jH<|ck-zc).1) (bY h1<|show(0:Rat)<=8 by decide);have m2:=bI (bK hs (jH<|sk-zs).1)<|bY h2<|show(0:Rat)<=8 by decide
 grind
def asl{H r S C:Iv}{x:Rat}{k:Int}(hp:Uy H)(hr:∀ θ,H.ja θ->r.ja (x-k*θ))(hb:∀ ρ,r.ja ρ->iR ρ<=2){n0:Nat}(hs:∀ ρ,r.ja ρ->∀ N,n0<=N->S.ja (SN ρ N)/\C.ja (CS ρ N)):
 jr (SN x) (zi S C<|k%4)/\jr (CS x) (zg S C<|k%4):=by
 have key:∀ ε,0<ε->∃ ρ N0,r.ja ρ/\n0<=N0/\∀ N,N0<=N->iR (CS x N-(CS ρ N*(zq k).1-SN ρ N*(zq k).2))<=ε/\iR (SN x N-(SN ρ N*(zq k).1+CS ρ N*(zq k).2))<=ε:=by
  intro ε hε;obtain⟨η,e0,e1,e2⟩:=arD hε;obtain⟨η',f0,f⟩:=asj k e0 e1;obtain⟨θ,hθ,hc,L3⟩:=hp η' f0;obtain⟨⟨N1,a1⟩,⟨N2,a2⟩⟩:=f θ hc L3;obtain⟨⟨N3,a3⟩,⟨N4,a4⟩⟩:=Dd (x-k*θ) (k*θ) e0;have hρ:=hr θ hθ;refine⟨x-k*θ,max (max N1 N2)<|max (max N3 N4) n0,hρ,aI,λN hN=>?_⟩;have b1:iR (CS (k*θ) N-(zq k).1)<=η:=a1 N aI;have b2:iR (SN (k*θ) N-(zq k).2)<=η:=a2 N aI;have b3:=a3 N aI;have b4:=a4 N aI;have e:x-k*θ+k*θ=x:= aS ;rw[e]at b3 b4;obtain⟨c1,c2⟩:=N8 (hb _ hρ) N;have r1:=adJ c1 c2 b1 b2 b3;have r2:=adJ (c:=SN (x-k*θ) N) (s:=-CS (x-k*θ) N) c2 (by
   obtain⟨u1,u2,u3,u4⟩:=jH<|CS (x-k*θ) N;exact qA aS aS) b1 b2 (f:=SN x N) (by
    have:SN (x-k*θ) N*CS (k*θ) N - -CS (x-k*θ) N*SN (k*θ) N=SN (x-k*θ) N*CS (k*θ) N+CS (x-k*θ) N*SN (k*θ) N:= aS ;rw[this];exact b4)
  have:SN (x-k*θ) N*(zq k).1 - -CS (x-k*θ) N*(zq k).2=SN (x-k*θ) N*(zq k).1+CS (x-k*θ) N*(zq k).2:= aS ;rw[this]at r2;exact⟨aS,aS⟩
 have hz:k%4=0/\zq k=(1,0)\/k%4=1/\zq k=(0,1)\/k%4=2/\zq k=(-1,0)\/k%4=3/\zq k=(0,-1):=by
  have:k%4=0\/k%4=1\/k%4=2\/k%4=3:= aI ;rcases this with h|h|h|h<;>simp[zq,h]
 constructor
 .intro ε hε;obtain⟨ρ,N0,hρ,hn,h⟩:=key ε hε;refine⟨N0,λN hN=>⟨_,?_,(h N hN).2⟩⟩;obtain⟨s1,s2⟩:=hs ρ hρ N aI;rcases hz with⟨h4,hz⟩|⟨h4,hz⟩|⟨h4,hz⟩|⟨h4,hz⟩<;>rw[h4,hz]
  .show Iv.ja S (SN ρ N*1+CS ρ N*0);rw[show SN ρ N*1+CS ρ N*0=SN ρ N by grind];exact s1
  .show Iv.ja C (SN ρ N*0+CS ρ N*1);rw[show SN ρ N*0+CS ρ N*1=CS ρ N by grind];exact s2
  .show Iv.ja (lg S) (SN ρ N * -1+CS ρ N*0);rw[show SN ρ N * -1+CS ρ N*0 = -SN ρ N by grind];exact xv s1
  .show Iv.ja (lg C) (SN ρ N*0+CS ρ N * -1);rw[show SN ρ N*0+CS ρ N * -1 = -CS ρ N by grind];exact xv s2
 .intro ε hε;obtain⟨ρ,N0,hρ,hn,h⟩:=key ε hε;refine⟨N0,λN hN=>⟨_,?_,(h N hN).1⟩⟩;obtain⟨s1,s2⟩:=hs ρ hρ N aI;rcases hz with⟨h4,hz⟩|⟨h4,hz⟩|⟨h4,hz⟩|⟨h4,hz⟩<;>rw[h4,hz]
  .show Iv.ja C (CS ρ N*1-SN ρ N*0);rw[show CS ρ N*1-SN ρ N*0=CS ρ N by grind];exact s2
  .show Iv.ja (lg S) (CS ρ N*0-SN ρ N*1);rw[show CS ρ N*0-SN ρ N*1 = -SN ρ N by grind];exact xv s1
  .show Iv.ja (lg C) (CS ρ N * -1-SN ρ N*0);rw[show CS ρ N * -1-SN ρ N*0 = -CS ρ N by grind];exact xv s2
  .show Iv.ja S (CS ρ N*0-SN ρ N * -1);rw[show CS ρ N*0-SN ρ N * -1=SN ρ N by grind];exact s1
def jY(r:Iv)(p:Nat):Nat->Iv
 | 0=>iT 1
 |j+1=>jo (iO (jY r p j) r p) (iT ((j+1:Nat):Int)) p
def xw(r:Iv)(p j:Nat):Iv:=if 2<=j%4 then lg (jY r p j)else jY r p j
def my(r:Iv)(p:Nat):Nat->Iv
 | 0=>iT 0
 |j+1=>if(j+1)%2=1 then iZ (my r p j) (xw r p<|j+1) p else my r p j
def mw(r:Iv)(p:Nat):Nat->Iv
 | 0=>iT 1
 |j+1=>if(j+1)%2=1 then mw r p j else iZ (mw r p j) (xw r p<|j+1) p
def MY(p:Nat):Iv:=⟨jl<|ko<|1-p,ko<|1-p,false⟩
def rD(r:Iv)(p N:Nat):Iv:=iZ (my r p N) (MY p) p
def rC(r:Iv)(p N:Nat):Iv:=iZ (mw r p N) (MY p) p
def yl(n:Int):(ko n).q=P2 n:=by unfold ko;rw[qO];simp
def Ox{n:Int}(h1:-1000<=n)(h2:n<=1000):(Iv.mk (jl<|ko n) (ko n) false).iD:=by
 have hm:=Bn h1 h2;refine .inr ⟨rfl,ru hm,hm,?_⟩;show jI (jl<|ko n) (ko n)<=0;rw[qf,oX];have:0<=(ko n).q:=by rw[yl];exact bF<|nb n
 grind
def qw{r:Iv}{p:Nat}(_hr:r.iD)(iU:8<=p)(iJ:p<=512):∀ j,(jY r p j).iD
 | 0=>Jm 1 aK 
 |j+1=>pf _ _ 
def acO{r:Iv}{p:Nat}(hr:r.iD)(iU:8<=p)(iJ:p<=512)(j:Nat):(xw r p j).iD:=by
 unfold xw;split
 .exact nO<|qw hr iU iJ j
 .exact qw hr iU iJ j
def zk{r:Iv}{p:Nat}(hr:r.iD)(iU:8<=p)(iJ:p<=512):∀ j,(my r p j).iD
 | 0=>Jm 0 aK 
 |j+1=>by
  unfold my;split
  .exact mn (zk hr iU iJ j)<|acO hr iU iJ _ 
  .exact zk hr iU iJ j
def zj{r:Iv}{p:Nat}(hr:r.iD)(iU:8<=p)(iJ:p<=512):∀ j,(mw r p j).iD
 | 0=>Jm 1 aK 
 |j+1=>by
  unfold mw;split
  .exact zj hr iU iJ j
  .exact mn (zj hr iU iJ j)<|acO hr iU iJ _ 
def SF{r:Iv}{p:Nat}(_hr:r.iD)(iU:8<=p)(iJ:p<=512):(MY p).iD:=Ox aI aI 
section
variable{r:Iv}{p:Nat}(hr:r.iD)(iU:8<=p)(iJ:p<=512)(N:Nat)
def SZ:(rD r p N).iD:=mn (zk hr iU iJ N)<|SF hr iU iJ 
def SY:(rC r p N).iD:=mn (zj hr iU iJ N)<|SF hr iU iJ 
end
def S0{r:Iv}{p:Nat}(hr:r.iD)(iU:8<=p)(iJ:p<=512){ρ:Rat}(h:r.ja ρ):∀ j,j<4294967296->(jY r p j).ja (eQ ρ j)
 | 0,_=>yi 1
 |j+1,hj=>by
  have e:eQ ρ (j+1)=eQ ρ j*ρ/((j+1:Nat):Rat):=by simp only[eQ,cB];grind
  rw[e];exact Hk (ku _ _) (Cs (j+1) hj) aI aI (wH (qw hr iU iJ j) hr aI aI (S0 hr iU iJ h j aI) h)<|aaX<|j+1
def acP{r:Iv}{p:Nat}:∀ {j d:Nat},(jY r p<|j+d).all=false->(jY r p j).all=false
 |_,0,h=>h
 |j,d+1,h=>by
  apply acP (d:=d);cases ha:(jY r p<|j+d).all
  .rfl
  .exfalso;have:jY r p (j+(d+1))=iH:=by
    show jo (iO (jY r p<|j+d) r p) _ p=_;rw[Cp p<|.inl ha,AP p<|.inl rfl]
   rw[this]at h;cases h
def Wo(c:Rat):∀ j,nu c j=(if j%4=0 then eQ c j else if j%4=2 then -eQ c j else 0,if j%4=1 then eQ c j else if j%4=3 then -eQ c j else 0)
 | 0=>by simp[nu,eQ]
 |j+1=>by
  have e:eQ c (j+1)=c/((j+1:Nat):Rat)*eQ c j:=by simp only[eQ];grind
  simp only[nu,Wo c j];rw[e];generalize c/((j+1:Nat):Rat)=u;generalize eQ c j=v;have:j%4=0\/j%4=1\/j%4=2\/j%4=3:= aI ;rcases this with h|h|h|h
  .have h':(j+1)%4=1:= aI ;simp[h,h']
  .have h':(j+1)%4=2:= aI ;simp[h,h']
  .have h':(j+1)%4=3:= aI ;simp[h,h'];grind
  .have h':(j+1)%4=0:= aI ;simp[h,h'];grind
def adt(f:Nat->Rat)(n:Nat):iS f (n+1)=iS f n+f n:=rfl
def acR{r:Iv}{p:Nat}(hr:r.iD)(iU:8<=p)(iJ:p<=512){ρ:Rat}(h:r.ja ρ):∀ j,j<4294967296->(my r p j).ja (SN ρ j)/\(mw r p j).ja (CS ρ j)
 | 0,_=>by
  have e1:SN ρ 0=0:=by unfold SN;simp only[iS,nu];grind
  have e2:CS ρ 0=1:=by unfold CS;simp only[iS,nu];grind
  rw[e1,e2];exact⟨yi 0,yi 1⟩
 |j+1,hj=>by
  obtain⟨i1,i2⟩:=acR hr iU iJ h j aI;have ht:=S0 hr iU iJ h (j+1) hj;have e1:SN ρ (j+1)=SN ρ j+(nu ρ<|j+1).2:=adt _ _;have e2:CS ρ (j+1)=CS ρ j+(nu ρ<|j+1).1:=adt _ _;rw[e1,e2,Wo];simp only[my,mw,xw];have:(j+1)%4=0\/(j+1)%4=1\/(j+1)%4=2\/(j+1)%4=3:= aI ;have hv:=qw hr iU iJ<|j+1;rcases this with h4|h4|h4|h4
  .have h2:(j+1)%2=0:= aI ;rw[h4,h2];simp only[Nat.zero_ne_one,bN,bW,Nat.reduceLeDiff,reduceIte,Nat.reduceEqDiff];exact⟨by rw[show SN ρ j+0=SN ρ j by grind];exact i1,vF (zj hr iU iJ j) hv aI aI i2 ht⟩
  .have h2:(j+1)%2=1:= aI ;rw[h4,h2];simp only[bW,Nat.reduceLeDiff,reduceIte,Nat.reduceEqDiff];exact⟨vF (zk hr iU iJ j) hv aI aI i1 ht,by rw[show CS ρ j+0=CS ρ j by grind];exact i2⟩
  .have h2:(j+1)%2=0:= aI ;rw[h4,h2];simp only[Nat.zero_ne_one,bN,bW,Nat.reduceLeDiff,reduceIte,Nat.reduceEqDiff];exact⟨by rw[show SN ρ j+0=SN ρ j by grind];exact i1,vF (zj hr iU iJ j) (nO hv) aI aI i2<|xv ht⟩
  .have h2:(j+1)%2=1:= aI ;rw[h4,h2];simp only[bW,Nat.reduceLeDiff,reduceIte,Nat.reduceEqDiff];exact⟨vF (zk hr iU iJ j) (nO hv) aI aI i1<|xv ht,by rw[show CS ρ j+0=CS ρ j by grind];exact i2⟩
def aq5{c:Rat}(h2:iR c<=2){N:Nat}(hN:7<=N)(d:Nat):iR (CS c (N+d)-CS c N)<=iR (eQ c N)/\iR (SN c (N+d)-SN c N)<=iR (eQ c N):=by
 have hz:=(jH c).1;have t:=CM (z:=iR c) (J:=4) hz (by show iR c*2<=4;grind) (aI:4<=N+1) d;have p0:=qC hz<|N+1+d;have s1:=Bw (λi=>(xN c<|N+1+i).1) d;have s2:=Bw (λi=>(xN c<|N+1+i).2) d;have e1:CS c (N+d)-CS c N=iS (λi=>(nu c<|N+1+i).1) d:=by
  unfold CS;rw[(aI:N+d+1=N+1+d),vr]
  grind
 have e2:SN c (N+d)-SN c N=iS (λi=>(nu c<|N+1+i).2) d:=by
  unfold SN;rw[(aI:N+d+1=N+1+d),vr]
  grind
 have e3:eQ (iR c) (N+1)*2<=eQ (iR c) N:=Tg hz (J:=4) (by show iR c*2<=4;grind) (aI:4<=N);rw[e1,e2,zN];exact⟨aS,aS⟩
def akR{x:Iv}{r:Rat}(h:x.ja r)(ha:x.all=false)(hv:x.iD):iR r<=(mB x).q:=by
 obtain⟨h1,h2⟩:=h.kA ha;obtain⟨m1,m2,_⟩:=yf hv.q;exact qA aS aS 
def aq6{r:Iv}{p N:Nat}(hr:r.iD)(iU:8<=p)(iJ:p<=512)(hN:7<=N)(uS:N<=1000)(ha:(jY r p N).all=false)(hb:jI (mB<|jY r p N) (ko<|0-p)<0){ρ:Rat}(h:r.ja ρ)(h2:iR ρ<=2):
 ∀ M,N<=M->(rD r p N).ja (SN ρ M)/\(rC r p N).ja (CS ρ M):=by
 intro M hM;obtain⟨d,rfl⟩:∃ d,M=N+d:=⟨M-N,aI⟩
 have hm:=akR (S0 hr iU iJ h N aI) ha<|qw hr iU iJ N;rw[Jw,yl]at hb;have qq:P2 (0-(p:Int))<=P2 (1-(p:Int)):=BF aI;obtain⟨t1,t2⟩:=aq5 h2 hN d;obtain⟨s1,s2⟩:=acR hr iU iJ h N aI;have YW:∀ t,iR t<=iR (eQ ρ N)->(MY p).ja t:=by
  intro t ht;obtain⟨_,a2,a3,_⟩:=jH t;refine .inr ⟨?_,?_⟩
  .show (jl<|ko _).q<=t;rw[oX,yl];grind
  .show t<=(ko _).q;rw[yl];grind
 have hv:=SF hr iU iJ;constructor
 .have:=vF (zk hr iU iJ N) hv (p:=p) aI aI s1<|YW _ t2;rwa[show SN ρ N+(SN ρ (N+d)-SN ρ N)=SN ρ (N+d)by grind]at this
 .have:=vF (zj hr iU iJ N) hv (p:=p) aI aI s2<|YW _ t1;rwa[show CS ρ N+(CS ρ (N+d)-CS ρ N)=CS ρ (N+d)by grind]at this
def pY(n:Int):Iv:=⟨jl<|ko n,ko n,false⟩
def afl{n:Int}{r:Rat}:(pY n).ja r ↔ -P2 n<=r/\r<=P2 n:=by
 unfold Iv.ja pY;simp only[cz,false_or];rw[oX,yl]
def Km{p:Nat}(hp:1<=p){n:Int}(h1:-1000<=n)(h2:n<=1000):G p<|P2 n:=.inl ⟨1,n,by rw[zF];exact hp,aI,by rw[zF];omega,aP⟩
def KE{p:Nat}{S:Rat->Prop}{X:Iv}(h:AE p S X)(hp:1<=p){n:Int}(h1:-1000<=n)(h2:n<=1000)(hs:∀ r,S r -> -P2 n<=r/\r<=P2 n):Sub X<|pY n:=by
 obtain⟨a,b,c⟩:=h.s9 _ _ (Km hp h1 h2).neg (Km hp h1 h2) hs;refine .inr ⟨a,?_,?_⟩
 .show (jl<|ko n).q<=_;rw[oX,yl];exact b
 .show _<=(ko n).q;rw[yl];exact c
def aev{a b u v:Rat}(h1:-u<=a)(h2:a<=u)(h3:-v<=b)(h4:b<=v):-(u*v)<=a*b/\a*b<=u*v:=by
 have ha:iR a<=u:=qA h2 aS;have hb:iR b<=v:=qA h4 aS;have hm:=oA a b;have h0:=(jH b).1;have hu:0<=u:=bI (jH a).1 ha;have m1:=bK ha h0;have m2:=bY hb hu;obtain⟨_,c2,c3,_⟩:=jH<|a*b;constructor<;>grind
def yL(a b:Iv):Iv:=if a.all||b.all then iH else⟨a.lo,b.hi,false⟩
def Z2{f g:Nat->Rat}{A B:Iv}(hA:jr f A)(hB:jr g B)(h:∀ ε,0<ε->∃ N0,∀ N,N0<=N->f N<=g N+ε)(aa:A.all=false)(ba:B.all=false):A.lo.q<=B.hi.q:=by
 apply dt.1;intro je;obtain⟨ε,hε⟩:∃ ε,ε=(A.lo.q-B.hi.q)/4:=⟨_,rfl⟩
 have h0:0<ε:=by rw[hε];grind
 obtain⟨N1,h1⟩:=hA ε h0;obtain⟨N2,h2⟩:=hB ε h0;obtain⟨N3,h3⟩:=h ε h0;obtain⟨r,hr,hd⟩:=h1 (max N1<|max N2 N3) aI;obtain⟨s,hs,he⟩:=h2 (max N1<|max N2 N3) aI;have h4:=h3 (max N1<|max N2 N3) aI;obtain⟨r1,r2⟩:=hr.kA aa;obtain⟨s1,s2⟩:=hs.kA ba;obtain⟨_,a2,a3,_⟩:=jH<|f (max N1<|max N2 N3)-r;obtain⟨_,b2,b3,_⟩:=jH<|g (max N1<|max N2 N3)-s
 grind
def Ob{c:Rat}(h:0<=c)(N:Nat):1<=EQ c N:=by
 have:=Bv (f:=eQ c) (λi=>qC h i) (aI:1<=N+1);have e:iS (eQ c) 1=1:=by show 0+1=1;grind
 unfold EQ;rw[e]at this;exact this
def aeg(c:Rat){ε:Rat}(hε:0<ε):∃ N0,∀ N,N0<=N -> -ε<=EQ c N:=by
 obtain⟨N0,h0⟩:=ED (c/2) (c/2) hε;rw[show c/2+c/2=c by grind]at h0;refine⟨N0,λN hN=>?_⟩;have h:=h0 N hN;have hs:0<=EQ (c/2) N*EQ (c/2) N:=by
  by_cases k:0<=EQ (c/2) N
  .exact bD k k
  .have:=bD (show 0 <= -EQ (c/2) N by grind) (show 0 <= -EQ (c/2) N by grind)
   grind
 obtain⟨_,a2,a3,_⟩:=jH<|EQ c N-EQ (c/2) N*EQ (c/2) N
 grind
def Us{c:Rat}(h:0<=c):∃ M:Rat,0<M/\∀ N,EQ c N<=M:=by
 obtain⟨m0,h0⟩:=Ns h (show(0:Rat)<1 by decide);have hs:0<=iS (eQ c) m0:=by
  have:=Bv (f:=eQ c) (λi=>qC h i)<|cA m0;exact this
 refine⟨iS (eQ c) m0+1,aS,λN=>?_⟩;unfold EQ;by_cases hN:m0<=N+1
 .obtain ⟨d,hd⟩:∃ d,N+1=m0+d:=⟨N+1-m0,aI⟩
  rw[hd,vr];have:=h0 m0 (bB _) d
  grind
 .have:=Bv (f:=eQ c) (λi=>qC h i) (aI:N+1<=m0)
  grind
def GC{a b:Rat}(h:a<=b){ε:Rat}(hε:0<ε):∃ N0,∀ N,N0<=N->EQ a N<=EQ b N+ε:=by
 have hd:0<=b-a:= aS ;obtain⟨N1,h1⟩:=ED a (b-a) (show 0<ε/2 by grind);rw[show a+(b-a)=b by grind]at h1;obtain⟨M,uR,hM⟩:∃ M:Rat,0<M/\∀ N,EQ (b-a) N<=M:=Us hd;obtain⟨N2,h2⟩:=aeg a (show 0<ε/(2*M)by rw[cB];exact cR hε<|dw.2 aS);refine⟨max N1 N2,λN hN=>?_⟩;have k1:=h1 N aI;have k2:=h2 N aI;have e:ε/(2*M)*M=ε/2:=by
  have:=cV (a:=ε) (b:=2*M) aS 
  grind
 have k3:=Ob hd N;have k4:=hM N;obtain⟨_,a2,a3,_⟩:=jH<|EQ b N-EQ a N*EQ (b-a) N;generalize EQ a N=x at *
 generalize EQ (b-a) N=y at *
 generalize EQ b N=z at *
 generalize ε/(2*M)=δ at *
 have m1:=bD (show 0<=x+δ by grind) (show 0<=y-1 by grind);have hδ:0<=δ:=by
  apply dt.1;intro je;have:=fA je uR
  grind
 have m2:=bY (show y-1<=M by grind) hδ
 grind
def yY(a s:Nat):Prop:=s*s<=a/\a<(s+1)*(s+1)
def aco(a:Nat):∃ s,yY a s:=by
 induction a with
 |zero=>exact⟨0,aK,aK⟩
 |succ a ih=>
  obtain⟨s,h1,h2⟩:=ih;by_cases h:(s+1)*(s+1)<=a+1
  .refine ⟨s+1,h,?_⟩;have:(s+1+1)*(s+1+1)=(s+1)*(s+1)+2*(s+1)+1:=by
    simp only[ca,ct,cj,cG];omega
   omega
  .exact ⟨s,aI,aI⟩
def acp{a s t:Nat}(h:yY a s)(ht:t*t<=a):t<=s:=by
 apply cF;intro je;have:=dE (aI:s+1<=t) (aI:s+1<=t);have:=h.2;omega
section
variable(m s:Nat)(e:Int)(p:Nat)(up:Bool)
def vq:Dy:=j9 false s e (decide (s*s≠m)) p up
def Bu:Int:=jW false s e (decide (s*s≠m)) p up
end
section
variable{m s:Nat}{e:Int}{p:Nat}
def ade(h:yY m s)(hb:p<iE s)(hp:1<=p)(iJ:p<=4096)(he:Bu m s e p false=0):0<=(vq m s e p false).q/\(vq m s e p false).q<=(s:Rat)*P2 e:=by
 unfold vq Bu at *
 by_cases hx:s*s=m
 .rw [bE aI]at he ⊢;have A:=Dg false s e hp iJ;rw[qO]at A;simp only[cz,bN]at A;exact⟨(A.2 0 (.inl<|yu p)<|bD cE<|bF<|nb e).2,(A.1 he).2⟩
 .rw [bC aI]at he ⊢;obtain⟨h1,h2⟩:=Df e hb false false;rw[h1];rw[h2]at he;have A:=Dg false (2*s+1) (e-1) hp iJ;rw[qO]at A;simp only[cz,bN]at A;have h0:=(A.2 0 (.inl<|yu p)<|bD cE<|bF<|nb<|e-1).2;obtain⟨g,hl⟩:=A.1 he;refine⟨h0,?_⟩;rcases Li (e:=e) hb (g.pos h0)with k|k
  .exact k
  .exfalso;have ee:P2 e=P2 (e-1)*2:=by
    have:=qZ (e-1) 1;rw[(aI:e-1+1=e),show P2 1=2 by decide +kernel]at this;exact this
   have qq:=nb<|e-1;have c1:((2*s+1:Nat):Rat)=2*(s:Rat)+1:=by rw[dH,cQ];rfl
   have c2:((s+1:Nat):Rat)=(s:Rat)+1:=by rw[dH];rfl
   rw[c1]at hl;rw[c2,ee]at k
   grind
def adb(h:yY m s)(hb:p<iE s)(hp:1<=p)(iJ:p<=4096)(he:Bu m s e p true=0):0<=(vq m s e p true).q/\(m:Rat)*(P2 e*P2 e)<=(vq m s e p true).q*(vq m s e p true).q:=by
 have qq:=nb e;have s0:(0:Rat)<=(s:Rat):=cE;have key:∀ D:Rat,(s:Rat)*P2 e<=D->(s*s≠m->((s+1:Nat):Rat)*P2 e<=D)->0<=D/\(m:Rat)*(P2 e*P2 e)<=D*D:=by
  intro D h1 h2;have d0:0<=D:=bI (bD s0<|bF qq) h1;refine⟨d0,?_⟩;have sq:∀ t:Nat,m<=t*t->(t:Rat)*P2 e<=D->(m:Rat)*(P2 e*P2 e)<=D*D:=by
   intro t ht hD;have t0:(0:Rat)<=(t:Rat):=cE;have c:(m:Rat)<=(t:Rat)*(t:Rat):=by
    have:=cX.2 ht;rwa[cQ]at this
   have m1:=bK c<|bD (bF qq)<|bF qq;have m2:=bK hD<|bD t0<|bF qq;have m3:=bY hD d0;generalize (t:Rat)=T at *
   generalize P2 e=P at *
   have e1:T*T*(P*P)=T*P*(T*P):= aS 
   grind
  by_cases hx:s*s=m
  .exact sq s aI h1
  .exact sq (s+1) (by have:=h.2;omega)<|h2 hx
 unfold vq Bu at *
 by_cases hx:s*s=m
 .rw [bE aI]at he ⊢;have A:=Hg false s e hp iJ;rw[qO]at A;simp only[cz,bN]at A;exact key _ (A.1 he).2 λq=>absurd hx q
 .rw [bC aI]at he ⊢;obtain⟨h1,h2⟩:=Df e hb false true;rw[h1];rw[h2]at he;have A:=Hg false (2*s+1) (e-1) hp iJ;rw[qO]at A;simp only[cz,bN]at A;obtain⟨g,hl⟩:=A.1 he;have ee:P2 e=P2 (e-1)*2:=by
   have:=qZ (e-1) 1;rw[(aI:e-1+1=e),show P2 1=2 by decide +kernel]at this;exact this
  have iU:=nb<|e-1;have c1:((2*s+1:Nat):Rat)=2*(s:Rat)+1:=by rw[dH,cQ];rfl
  rw[c1]at hl;have h0:0<=(j9 false (2*s+1) (e-1) false p true).q:=bI (bD aS<|bF iU) hl;have je:(s:Rat)*P2 e<(j9 false (2*s+1) (e-1) false p true).q:=by rw[ee];grind
  refine key _ (bF je) λ_=>?_
  rcases Li (e:=e) hb (g.pos h0)with k|k
  .exact absurd je<|dt.2 k
  .exact k
end
def arE{a b:Rat}(ha:0<=a)(hb:0<=b)(h:a*a<=b*b):a<=b:=by
 apply dt.1;intro je;have m1:=bY (bF je) hb;have m2:=fA je<|show 0<a by grind
 grind
def arF{m s n t:Nat}{e f:Int}{p:Nat}(h:yY m s)(k:yY n t)(hb:p<iE s)(kb:p<iE t)(hp:1<=p)(iJ:p<=4096)(hle:(m:Rat)*(P2 e*P2 e)<=(n:Rat)*(P2 f*P2 f)):
 (ns (vq m s e p false) (Bu m s e p false) (vq n t f p true)<|Bu n t f p true).iD:=by
 unfold ns;split
 .exact nP
 .rename_i he;obtain⟨a0,a1⟩:=ade (e:=e) h hb hp iJ aI;obtain⟨b0,b1⟩:=adb (e:=f) k kb hp iJ aI;refine .inr ⟨rfl,nj _ _ _ _ _ _ hp iJ,nj _ _ _ _ _ _ hp iJ,?_⟩;rw[qf];refine arE a0 b0 ?_;have s0:(0:Rat)<=(s:Rat):=cE;have qq:=nb e;have m1:=bY a1 a0;have m2:=bK a1<|bD s0<|bF qq;have c:(s:Rat)*(s:Rat)<=(m:Rat):=by
   have:=cX.2 h.1;rwa[cQ]at this
  have m3:=bK c<|bD (bF qq)<|bF qq;generalize (vq m s e p false).q=A at *
  generalize (s:Rat)=S at *
  generalize P2 e=P at *
  have e1:S*S*(P*P)=S*P*(S*P):= aS 
  grind
noncomputable def mC(m:Nat):Nat:=Classical.choose<|aco m
def Aj(m:Nat):yY m<|mC m:=dX<|aco m
section
variable(d:Dy)(p:Nat)
def pq:Nat:=if Int.tmod (d.e-((2*p+4-iE d.m:Nat):Int)) 2=0 then 2*p+4-iE d.m else 2*p+4-iE d.m+1
noncomputable def tq(up:Bool):Dy:=vq (d.m*2^pq d p) (mC<|d.m*2^pq d p) ((d.e-(pq d p:Int))/2) p up
noncomputable def xz(up:Bool):Int:=Bu (d.m*2^pq d p) (mC<|d.m*2^pq d p) ((d.e-(pq d p:Int))/2) p up
def Es:d.e-(pq d p:Int)=2*((d.e-(pq d p:Int))/2):=by
 have key:∀ x:Int,Int.tmod x 2=0↔x%2=0:=λx=>by rw[<-Int.dvd_iff_tmod_eq_zero,<-Int.dvd_iff_emod_eq_zero]
 have:(d.e-(pq d p:Int))%2=0:=by
  unfold pq;split
  .rename_i h;exact(key _).1 h
  .rename_i h;have h2:¬(d.e-((2*p+4-iE d.m:Nat):Int))%2=0:=λq=>h ((key _).2 q)
   clear h;omega
 omega
end
def ada(s:Nat):s<=s*s:=by
 by_cases h:s=0
 .subst h;exact cA _
 .exact atD s<|ep h
def JP{d:Dy}(hn:d.neg=false)(K:Nat){E:Int}(h:d.e-(K:Int)=2*E):((d.m*2^K:Nat):Rat)*(P2 E*P2 E)=d.q:=by
 rw[qt,hn,bw aK,<-qZ,cQ,<-vu,dP,<-qZ,show(K:Int)+(E+E)=d.e by omega]
def SK{m s p:Nat}(h:yY m s)(hm:2*p+4<=iE m):p<iE s:=by
 apply cF;intro hb;have h1:s<2^iE s:=qL s;have h2:2^iE s<=2^p:=bZ aK aI;have h3:=dE (aI:s+1<=2^p) (aI:s+1<=2^p);rw[<-bG]at h3;have h4:=h.2;have h5:iE m<=p+p:=lE.2<|cg h4 h3;omega
def acq(m s:Nat):((kP (s*s) m) != 0)=decide (s*s≠m):=by
 unfold kP;generalize s*s=q;rcases Nat.lt_trichotomy q m with h|h|h
 .rw [bA h,bC aI];rfl
 .subst h;simp
 .rw [bw aI,bA h,bC aI];rfl
structure CZ where
 kind:Int
 a:Int
 b:Int
 n:Int
 cn:Int
 cd:Int
structure Kn where
 kU:Int
 iN:List CZ
 jU:List Int
 kO:Int
 params:List RI
def aqE:CZ:=⟨0,0,0,0,0,0⟩
structure CZ.pX(o:CZ):Prop where
 kind:ny .i64 o.kind
 a:ny .i64 o.a
 b:ny .i64 o.b
 n:ny .i64 o.n
 cn:ny .i64 o.cn
 cd:ny .i64 o.cd
structure Kn.pX(s:Kn):Prop where
 kU:ny .i64 s.kU
 iN:∀ i,(s.iN.getD i aqE).pX
 jU:∀ i,ny .i64<|s.jU.getD i 0
 kO:ny .i64 s.kO
 params:∀ i,(s.params.getD i M9).pX
def CZ.v(o:CZ):oG:=⟨o.kind.toNat,o.a.toNat,o.b.toNat,o.n.toNat,o.cn,o.cd⟩
def Kn.v(s:Kn):lr:=⟨⟨s.kU.toNat,s.iN.map CZ.v,s.jU.map Int.toNat⟩,s.kO.toNat,s.params.map RI.iv⟩
def asy{d:Int}(h0:0<=d)(h:d<=1073741824):IntKind.u64.wrap d=(d.natAbs:Int):=by rw[IntKind.wrap_u64];omega
def Wg{a b:Nat}:0<=kP a b↔b<=a:=by
 unfold kP;split
 .simp;omega
 .split<;>simp<;>omega
def abQ(m n:Nat)(hl:(iB m).length<=1000)(hn:n<=65536):iA 220 [iG<|iB m,iP (n:Int)]<|iG<|iB<|m*2^n:=
 Sc (lO m) call220 (λA c w h _=>ap8 A c (iB m) n w h hl hn) λA c B w e w' h hB r=>by rw[kE]at r;exact rl B w e w' hB r
section
variable(m n:Nat)(hl:(iB m).length<=3000)
def apm(hn:(iB n).length<=3000):iA 221 [iG<|iB m,iG<|iB n]<|iG<|iB<|m+n:=
 Ec (lO m) (lO n) call221 (λA c B d w h k _=>aqb A B c d (iB m) (iB n) w h k hl hn) λB w e w' hB r=>by rw[kE,kE]at r;exact rl B w e w' hB r
def abR(hn:n<=m):iA 223 [iG<|iB m,iG<|iB n]<|iG<|iB<|m-n:=
 Ec (lO m) (lO n) call223 (λA c B d w h k _=>ap9 A B c d (iB m) (iB n) w h k hl (wC hn)<|by rw[kE,kE];exact hn) λB w e w' hB r=>by rw[kE,kE]at r;exact rl B w e w' hB r
def apk(hn:(iB n).length<=3000):iA 222 [iG<|iB m,iG<|iB n]<|iP<|kP m n:=by
 refine Ec (lO m) (lO n) call222 (λA c B d w h k _=>ap3 A B c d (iB m) (iB n) w h k (Av _) (Av _) aI aI) ?_;rw[kE,kE];exact rv
end
section
variable(a b:Dy)(ha:xH a)(hb:xH b)
def acf:iA 186 [iF a,iF b]<|iF<|jh a b:=by
 obtain⟨ha1,ha2,ha3⟩:=ha;obtain⟨lu,mq,ph⟩:=hb;have ba:=zG ha1;have bb:=zG lu;obtain⟨k,hk⟩:∃ k,min a.e b.e=k:=⟨_,rfl⟩
 exact iM (.w (((iB a.m).length:Int)=0)
  (λk1=>by
   have a0:a.m=0:=oO.1 aI;exact ae [tB 11<|bl k1]<|rQ (iF b) (iF<|jh a b)<|by rw[show jh a b=b by unfold jh;rw[bA a0]])
  (λk1=>by
   have a0:a.m≠0:=λh=>k1 (by rw[oO.2 h];rfl)
   exact ae [tB 11<|bk k1]<|.w (((iB b.m).length:Int)=0)
    (λk2=>by
     have b0:b.m=0:=oO.1 aI;exact ae [tB 16<|bl k2]<|rQ (iF a) (iF<|jh a b)<|by rw[show jh a b=a by unfold jh;rw[bw a0,bA b0]])
    (λk2=>by
     have b0:b.m≠0:=λh=>k2 (by rw[oO.2 h];rfl)
     have hX:(iB<|a.m*2^((a.e-k).toNat)).length<=1400:=nJ (by rw[rJ a0];omega);have hY:(iB<|b.m*2^((b.e-k).toNat)).length<=1400:=nJ (by rw[rJ b0];omega);have hP:=Z4 hX hY;have hM:(iB<|(a.m*2^((a.e-k).toNat))-(b.m*2^((b.e-k).toNat))).length<=1400:=b9 (wC<|en _ _) hX;have hN:(iB<|(b.m*2^((b.e-k).toNat))-(a.m*2^((a.e-k).toNat))).length<=1400:=b9 (wC<|en _ _) hY;exact ae [tB 16<|bk k2,.o 22<|ar (if b.e<a.e then b.e else a.e) k<|by rw[<-hk];split<;>omega,iL<|a.e-k,.o 28<|ar (a.e-k) ((a.e-k).toNat:Int),ag [iG<|iB a.m,iP ((a.e-k).toNat:Int)]<|abQ _ _ aI aI,iL<|b.e-k,.o 35<|ar (b.e-k) ((b.e-k).toNat:Int),ag [iG<|iB b.m,iP ((b.e-k).toNat:Int)]<|abQ _ _ aI aI]<|.w (a.neg=b.neg)
      (λk3=>ae [tB 41<|bl k3,ag [iG<|iB<|a.m*2^((a.e-k).toNat),iG<|iB<|b.m*2^((b.e-k).toNat)]<|apm _ _ aI aI,.c<|CF a.neg ((a.m*2^((a.e-k).toNat))+(b.m*2^((b.e-k).toNat))) k]<|rQ (iF<|canon a.neg ((a.m*2^((a.e-k).toNat))+(b.m*2^((b.e-k).toNat))) k) (iF<|jh a b)<|by have h:=adp (s:=a.neg) a0 b0 hk;rw[show(⟨a.neg,b.m,b.e⟩:Dy)=b by rw[k3]]at h;exact congrArg iF h.symm)
      (λk3=>ae [tB 41<|bk k3,ag [iG<|iB<|a.m*2^((a.e-k).toNat),iG<|iB<|b.m*2^((b.e-k).toNat)]<|apk _ _ aI aI]<|.w (0<=(kP (a.m*2^((a.e-k).toNat))<|b.m*2^((b.e-k).toNat)))
       (λk4=>by
        have hc:(b.m*2^((b.e-k).toNat))<=(a.m*2^((a.e-k).toNat)):=Wg.1 k4;exact ae [tB 52<|bC k4,ag [iG<|iB<|a.m*2^((a.e-k).toNat),iG<|iB<|b.m*2^((b.e-k).toNat)]<|abR _ _ aI aI,.c<|CF a.neg ((a.m*2^((a.e-k).toNat))-(b.m*2^((b.e-k).toNat))) k]<|rQ (iF<|canon a.neg ((a.m*2^((a.e-k).toNat))-(b.m*2^((b.e-k).toNat))) k) (iF<|jh a b)<|congrArg iF (adm (s:=a.neg) (t:=b.neg) a0 b0 hk k3 hc).symm)
       (λk4=>by
        have hc:(a.m*2^((a.e-k).toNat))<(b.m*2^((b.e-k).toNat)):=att λh=>k4 (Wg.2 h)
        exact ae [tB 52<|bE k4,ag [iG<|iB<|b.m*2^((b.e-k).toNat),iG<|iB<|a.m*2^((a.e-k).toNat)]<|abR _ _ aI aI,.c<|CF b.neg ((b.m*2^((b.e-k).toNat))-(a.m*2^((a.e-k).toNat))) k]<|rQ (iF<|canon b.neg ((b.m*2^((b.e-k).toNat))-(a.m*2^((a.e-k).toNat))) k) (iF<|jh a b)<|congrArg iF (adn (s:=a.neg) (t:=b.neg) a0 b0 hk k3 hc).symm)))))
def JF:iA 188 [iF a,iF b]<|iP<|jI a b:=by
 have hn:xH<|jl b:=⟨hb.len,hb.lo,hb.hi⟩
 exact iM (ae [.c<|JH a,.c<|JH b]<|.w ((Dy.jB a)=(Dy.jB b))
  (λk1=>ae [tB 13<|bt k1]<|.w ((Dy.jB a)=0)
   (λk2=>ae [tB 18<|bl k2]<|rQ (iP 0) (iP<|jI a b)<|by rw[ET,bw<|by simpa using k1,bA k2])
   (λk2=>ae [tB 18<|bk k2,.c<|zf a ha,.c<|zf b hb]<|.w ((Dy.jb a)=(Dy.jb b))
    (λk3=>ae [tB 23<|bt k3,.c<|Br b,ag [iF a,iF<|jl b]<|acf _ _ ha hn,.c<|JH<|jh a<|jl b]<|rQ (iP<|Dy.jB<|jh a<|jl b) (iP<|jI a b)<|by rw[ET,bw<|by simpa using k1,bw k2,bw<|by simpa using k3])
    (λk3=>ae [tB 23<|bu k3,.c<|zf a ha,.c<|zf b hb]<|.w ((decide ((Dy.jb a)<(Dy.jb b)))=(decide (0<(Dy.jB a))))
     (λk4=>ae [tB 31<|bl k4]<|rQ (iP (-1)) (iP<|jI a b)<|by rw[ET,bw<|by simpa using k1,bw k2,bA k3,bA<|by simpa using k4])
     (λk4=>ae [tB 31<|bk k4]<|rQ (iP 1) (iP<|jI a b)<|by rw[ET,bw<|by simpa using k1,bw k2,bA k3,bw<|by simpa using k4]))))
  (λk1=>ae [tB 13<|bu k1]<|.w ((Dy.jB a)<(Dy.jB b))
   (λk2=>ae [tB 16<|bC k2]<|rQ (iP (-1)) (iP<|jI a b)<|by rw[ET,bA k1,bA k2])
   (λk2=>ae [tB 16<|bE k2]<|rQ (iP 1) (iP<|jI a b)<|by rw[ET,bA k1,bw k2])))
end
def XY(a b:Nat)(x:Nat):PS:=⟨12,true,[(0,.e<|.v<|.int .u64 (((mY a b x).1:Nat):Int)),(1,.e<|.v<|.int .u64 (((mY a b x).2:Nat):Int))],[]⟩
def ajP(a b N:Nat)(ha:a<18446744073709551616)(hb:b<18446744073709551616)(jA:∀ k,k<N->(mY a b k).2≠0)(hN:(mY a b N).2=0):iA 21 [.v<|.int .u64 (a:Int),.v<|.int .u64 (b:Int)]<|.v<|.int .u64 (((mY a b N).1:Nat):Int):=
 iM (af [.s (Sp.kj (XY a b) 0 N aI (λx hx mr=>by
    have qi:=jA x aI;exact jg (ae [ah 6 ((((mY a b x).2:Nat):Int) != 0)<|Ji<|jA x aI,.a (aI:0<((((mY a b x).2:Nat):Int):Int))]<|.e<|af [.o 0<|.int (k:=.u64) (by first|rfl|omega|(simp only[ca,cj];omega):(((mY a b x).2:Nat):Int)=(((mY a b<|x+1).1:Nat):Int)),.o 1<|.int (k:=.u64) (by first|rfl|omega|(simp only[ca,cj];omega):((((mY a b x).1)%((mY a b x).2):Nat):Int)=(((mY a b<|x+1).2:Nat):Int))]) aM)
  (λhx=>by
    exact jg (af [ai 6 ((((mY a b N).2:Nat):Int) != 0)<|D7 hN]) aM) aQ:ki 1 Tryz.f21 (XY a b 0) (.exit 0) ⟨12,true,[(0,.e<|.v<|.int .u64 (((mY a b N).1:Nat):Int))],[]⟩)<|af [.o 0<|.int (k:=.u64) (by first|rfl|omega|(simp only[ca,cj];omega):(a:Int)=(((mY a b 0).1:Nat):Int)),.o 1<|.int (k:=.u64) (by first|rfl|omega|(simp only[ca,cj];omega):(b:Int)=(((mY a b 0).2:Nat):Int))]])
def PO(a b:Nat)(ha:a<18446744073709551616)(hb:b<18446744073709551616):iA 21 [.v<|.int .u64 (a:Int),.v<|.int .u64 (b:Int)]<|.v<|.int .u64 (Nat.gcd a b:Int):=by
 obtain⟨N,h1,h2⟩:=Xs b a;have hg:=Ps a b N;rw[h2,Nat.gcd_zero_right]at hg;rw[<-hg];exact ajP a b N ha hb h1 h2
def arx(m:Nat)(h:m<=1073741824):iA 22 [iP m]<|.v<|.int .u64 (m:Int):=
 iM (af [tF 4 ((m:Int)<0) aI,.o 11 (.int<|px _:aj (.v<|.int .u64<|IntKind.u64.wrap (m:Int))<|.v<|.int .u64 (m:Int))])
def arw(m:Nat)(h0:0<m)(h:m<=1073741824):iA 22 [iP (-(m:Int))]<|.v<|.int .u64 (m:Int):=
 iM (ae [tT 4 ((-(m:Int))<0) aI,iL<|(-(m:Int))+1,iL<|0-((-(m:Int))+1),.o 7<|ar (0-((-(m:Int))+1)) ((m-1:Nat):Int),.o 8 (.int<|px _:aj (.v<|.int .u64<|IntKind.u64.wrap ((m-1:Nat):Int))<|.v<|.int .u64 ((m-1:Nat):Int)),nW<|((m-1:Nat):Int)+1]<|rQ (.v<|.int .u64 (((m-1)+1:Nat):Int)) (.v<|.int .u64 (m:Int))<|by rw[(aI:m-1+1=m)])
def S4(n:Int)(h1:-1073741824<=n)(h2:n<=1073741824):iA 22 [iP n]<|.v<|.int .u64 (n.natAbs:Int):=by
 by_cases h:0<=n
 .obtain ⟨m,rfl⟩:=eh h;exact arx m aI 
 .obtain ⟨m,rfl⟩:∃ m:Nat,n = -(m:Int):=⟨n.natAbs,aI⟩
  rw[gp,eo];exact arw m aI aI 
def y9(n d:Int):iA 7 [.agg [iP n,iP d]]<|bP<|jG n d:=
 iM (.w (1<=d)
  (λk1=>ae [tB 5<|bC k1]<|.w (d<=1073741824)
   (λk2=>ae [tB 9<|bC k2]<|.w ((-1073741824)<=n)
    (λk3=>ae [tB 14<|bC k3]<|.w (n<=1073741824)
     (λk4=>ae [tB 19<|bC k4,ag [iP n]<|S4 _ aI aI,.o 27 (.int<|asy aI aI:aj (.v<|.int .u64<|IntKind.u64.wrap d)<|.v<|.int .u64 (Int.natAbs d:Int)),ag [.v<|.int .u64 (Int.natAbs n:Int),.v<|.int .u64 (Int.natAbs d:Int)]<|PO _ _ aI aI]<|rQ (bP<|(Nat.gcd (Int.natAbs n)<|Int.natAbs d:Int)==1) (bP<|jG n d)<|by unfold jG;simp[Ad,k1,k2,k3,k4])
     (λk4=>ae [tB 19<|bE k4]<|rQ (bP false) (bP<|jG n d)<|by unfold jG;simp[Ad,k1,k2,k3,k4]))
    (λk3=>ae [tB 14<|bE k3]<|rQ (bP false) (bP<|jG n d)<|by unfold jG;simp[Ad,k1,k2,k3]))
   (λk2=>ae [tB 9<|bE k2]<|rQ (bP false) (bP<|jG n d)<|by unfold jG;simp[Ad,k1,k2]))
  (λk1=>ae [tB 5<|bE k1]<|rQ (bP false) (bP<|jG n d)<|by unfold jG;simp[Ad,k1]))
def aa2(v:Nat)(N:Nat)(x:Nat):PS:=⟨29,false,[(4,.e<|iP x),(3,.own 5)],[(5,.row false 99 ((iB v).length) 1<|jt<|lK 0 v x (iB v).length)]⟩
def aa3(v:Nat)(x:Nat):PS:=⟨29,false,[(4,.e<|iP x),(3,.own 5)],[(5,.row false 99 ((iB v).length) 1<|jt<|lK 0 v x (iB v).length)]⟩
def Xg(n d p:Nat)(x:Nat):PS:=⟨130,true,[(11,.e<|iP<|63-(x:Int)),(10,.e<|iP 0),(9,.e<|.v<|.int .u64 (jk n d 64 x:Int)),(8,.e<|iG<|iB<|lM n d 64 x),(7,.box 7 0),(6,.box 6 0),(0,.e<|.v<|.int .u64 (n:Int)),(1,.e<|.v<|.int .u64 (d:Int)),(2,.e<|iP p)],[(7,.cells 31 av),(6,.cells 31 av)]⟩
def Xh(n d p:Nat)(y:Nat):PS:=⟨130,true,[(10,.e<|iP<|0-(y:Int)),(9,.e<|.v<|.int .u64 (mj n d y:Int)),(8,.e<|iG<|iB<|jZ n d y),(7,.box 7 0),(6,.box 6 0),(1,.e<|.v<|.int .u64 (d:Int)),(2,.e<|iP p)],[(7,.cells 31 av),(6,.cells 31 av)]⟩
def Xi(n d p K:Nat)(y:Nat):PS:=⟨130,false,[(15,.own 15),(16,.e<|iP ((32*y:Nat):Int)),(14,.e<|bP<|(mj n d K:Int)==0),(13,.e<|iP (mo n d p K:Int)),(10,.e<|iP<|0-(K:Int)),(8,.e<|iG<|iB<|jZ n d K),(7,.box 7 0),(6,.box 6 0),(2,.e<|iP p)],[(15,.row false 99 y 1<|jt<|jj (kr n d p K) y),(7,.cells 31 av),(6,.cells 31 av)]⟩
section
variable(n d p K y:Nat)(k:Nat)
def Xj:PS:=⟨130,false,[(18,.e<|iP k),(17,.e<|.v<|.int .u32 (((iV (kr n d p K) y)%2^k:Nat):Int)),(15,.own 15),(16,.e<|iP ((32*y:Nat):Int)),(14,.e<|bP<|(mj n d K:Int)==0),(13,.e<|iP (mo n d p K:Int)),(10,.e<|iP<|0-(K:Int)),(8,.e<|iG<|iB<|jZ n d K),(7,.box 7 0),(6,.box 6 0),(2,.e<|iP p)],[(15,.row false 99 y 1<|jt<|jj (kr n d p K) y),(7,.cells 31 av),(6,.cells 31 av)]⟩
def Xk:PS:=⟨130,false,[(18,.e<|iP k),(17,.e<|.v<|.int .u32 (((iV (kr n d p K) y)%2^k:Nat):Int)),(15,.own 15),(16,.e<|iP ((32*y:Nat):Int)),(14,.e<|bP<|(mj n d K:Int)==0),(13,.e<|iP (mo n d p K:Int)),(10,.e<|iP<|0-(K:Int)),(8,.e<|iG<|iB<|jZ n d K),(7,.box 7 0),(6,.box 6 0),(2,.e<|iP p)],[(15,.row false 99 y 1<|jt<|jj (kr n d p K) y),(7,.cells 31 av),(6,.cells 31 av)]⟩
end
def Xl(n d p K:Nat)(x:Nat):PS:=⟨130,true,[(19,.e<|iP x),(15,.e<|iG<|iB<|kr n d p K),(14,.e<|bP<|qc (mj n d K) (jZ n d K) x),(13,.e<|iP (mo n d p K:Int)),(10,.e<|iP<|0-(K:Int)),(8,.e<|iG<|iB<|jZ n d K),(7,.box 7 0),(6,.box 6 0)],[(7,.cells 31 av),(6,.cells 31 av)]⟩
def acu{T n n':Nat}{L L':List Nat}(hn:n=0+L.length)(A5:n'=L.length)(h:L'=L):Bx.le (.row false T n 1 λi_ j_=>if i_<0 then(λi_ j_=>([]:List E).getD (i_*1+j_)<|.v<|.bool false) i_ j_ else(E.jV<|iG L) (i_-0) j_)<|.row false T n' 1<|jt L':=by
 subst h;refine .row aI λi j hi hj=>?_
 simp only[bM,bN,dT];exact⟨.jm rfl,rfl⟩
def aeE{L:List Nat}{n:Nat}(hn:n=0+L.length):E.le (.sl false n 1 λi_ j_=>if i_<0 then(λi_ j_=>([]:List E).getD (i_*1+j_)<|.v<|.bool false) i_ j_ else(E.jV<|iG L) (i_-0) j_)<|iG L:=by
 rw[<-CL (aI:n=L.length)];refine .sl λi j hi hj=>?_
 simp only[bM,bN,dT];exact⟨.jm rfl,rfl⟩
def anK{f:Nat->Nat->E}{v:Nat}(h:v=0):E.le (.sl true 0 1 f)<|iG<|iB v:=by
 subst h;rw[oP];intro bs br w v k;cases k with
 |sl _ _ _ _ A c g h1 h2 h3 h4 h5 h6 h7=>exact .sl false 0 1 _ A c g h1 h2 h3 (λi j hi=>absurd hi<|bM i) (λi j hi=>absurd hi<|bM i) (λi j hi=>absurd hi<|bM i) λi j hi=>absurd hi<|bM i
def amE{L M:List Nat}{n p z:Nat}(hn:n=L.length)(hp:p<L.length)(hs:L.set p z=M):E.le (.sl false n 1 λi' j'=>if i'=p/\0<=j'/\j'<0+1 then[.v<|.int .u32 (z:Int)].getD (j'-0) .any else(jt L) i' j')<|iG M:=by
 subst hs;have e:n=(L.set p z).length:=by rw[di];omega
 rw[<-CL e];refine .sl λi j hi hj=>?_
 obtain rfl:j=0:= aI ;by_cases h:i=p
 .subst h;simp only[true_and,bB,atT,bW,cJ];exact⟨.jm<|by show _=E.v (.int .u32 (((L.set i z).getD i 0:Nat):Int));rw[bJ (l:=L.set i z),List.getElem?_set_self hp];rfl,rfl⟩
 .simp only[h,false_and,bN];exact⟨.jm<|by show E.v (.int .u32 (L.getD i 0:Int))=E.v (.int .u32 (((L.set p z).getD i 0:Nat):Int));rw[bJ,bJ,ado λq=>h q.symm],rfl⟩
def amB{N l n:Nat}{L:List Nat}(hn:n=l+1)(h1:jj N (l+1)=L)(h2:iV N l=1):E.le (.sl false n 1 λi_ j_=>if i_<l then(jt<|jj N l) i_ j_ else(E.jV<|iG<|iB 1) (i_-l) j_)<|iG L:=by
 subst hn h1;rw[<-CL (nH N<|l+1).symm];refine .sl λi j hi hj=>?_
 obtain rfl:j=0:= aI ;by_cases h:i<l
 .simp only[h,bW];exact⟨.jm<|by unfold jt;rw[vJ h,vJ],rfl⟩
 .obtain rfl:i=l:= aI ;simp only[fN,bN,dD];exact⟨.jm<|by show E.v (.int .u32 (((iB 1).getD 0 0:Nat):Int))=_;unfold jt;rw[vJ,h2,Mi];rfl,rfl⟩
section
variable(v:Nat)(hs:(iB v).length<=1000000)
def anF(N:Nat)(hN:N<(iB v).length)(jA:∀ k,k<N->iV v k=4294967295)(hd:iV v N≠4294967295):iA 63 [iG<|iB v]<|iG<|iB<|v+1:=by
 have je:=qB v N;exact oY (ae [.bo,.a (aI:(0+(iB v).length)*4<=140737488355328),.s (Sp.kj (aa2 v N) 0 N aI (λx hx mr=>by
    have rO:=jA x aI;exact jg (ae [tT 11 ((x:Int)<((iB v).length:Int)) aI,iX (x:Int)<|(iB v).length,.a (aI:x<(iB v).length),.o 17<|.int (k:=.u32) (by rw[Jb]:(((lK 0 v x (iB v).length).getD x 0:Nat):Int)=(iV v x:Int)),.o 18<|.int (k:=.u32) (by rw[rO,Dh];rfl:(IntKind.u32.wrap<|(iV v x:Int)+1)=(iV 0 x:Int)),iX (x:Int)<|(iB v).length,.a (aI:x<(iB v).length),
     iX (x:Int) ((iB v).length),.a (aI:x<(iB v).length),.o 23 (.e<|.jm aP:aj ((λi' j'=>if i'=x/\0<=j'/\j'<0+1 then[.v<|.int .u32 (iV 0 x:Int)].getD (j'-0) .any else(jt<|lK 0 v x (iB v).length) i' j') x 0)<|.v<|.int .u32 (iV 0 x:Int)),ai 24 ((iV 0 x:Int) != 0)<|D7<|Dh x,iL<|(x:Int)+1]<|.e<|af [.b 5 (F8 rfl bh Mn:Bx.le (.row false 99 ((iB v).length) 1 λi' j'=>if i'=x/\0<=j'/\j'<0+1 then[.v<|.int .u32 (iV 0 x:Int)].getD (j'-0) .any else(jt<|lK 0 v x (iB v).length) i' j')<|.row false 99 ((iB v).length) 1<|jt<|lK 0 v (x+1) (iB v).length)]) aM)
  (λhx=>by
    exact jg (af [tT 11 ((N:Int)<((iB v).length:Int)) aI,iX (N:Int)<|(iB v).length,.a (aI:N<(iB v).length),.o 17<|.int (k:=.u32) (by rw[Jb]:(((lK 0 v N (iB v).length).getD N 0:Nat):Int)=(iV v N:Int)),.o 18<|.int (k:=.u32) (by rw[IntKind.wrap_u32];omega:(IntKind.u32.wrap<|(iV v N:Int)+1)=((iV v N+1:Nat):Int)),iX (N:Int)<|(iB v).length,.a (aI:N<(iB v).length),
    iX (N:Int) ((iB v).length),.a (aI:N<(iB v).length),.o 23 (.e<|.jm aP:aj ((λi' j'=>if i'=N/\0<=j'/\j'<0+1 then[.v<|.int .u32 ((iV v N+1:Nat):Int)].getD (j'-0) .any else(jt<|lK 0 v N (iB v).length) i' j') N 0)<|.v<|.int .u32 ((iV v N+1:Nat):Int)),ah 24 (((iV v N+1:Nat):Int) != 0)<|Ji aI]) aM) aQ:ki 3 Tryz.f63 (aa2 v N 0) .ret ⟨29,false,[(2,.own 5)],[(5,.row false 99 ((iB v).length) 1 λi' j'=>if i'=N/\0<=j'/\j'<0+1 then[.v<|.int .u32 ((iV v N+1:Nat):Int)].getD (j'-0) .any else(jt<|lK 0 v N (iB v).length) i' j')]⟩)<|af [.b 5 (acu rfl rfl (by rw[Jc,Pe]):Bx.le (.row false 99 (0+(iB v).length) 1 λi_ j_=>if i_<0 then(λi_ j_=>([]:List E).getD (i_*1+j_)<|.v<|.bool false) i_ j_ else(E.jV<|iG<|iB v) (i_-0) j_)<|.row false 99 ((iB v).length) 1<|jt<|lK 0 v 0 (iB v).length)]]<|rR (iG<|iB<|v+1) (amE (by rw[xt]) (by rw[xt];exact hN)<|anI hN jA hd:E.le (.sl false ((iB v).length) 1 λi' j'=>if i'=N/\0<=j'/\j'<0+1 then[.v<|.int .u32 ((iV v N+1:Nat):Int)].getD (j'-0) .any else(jt<|lK 0 v N (iB v).length) i' j')<|iG<|iB<|v+1))
def anD(jA:∀ k,k<(iB v).length->iV v k=4294967295):iA 63 [iG<|iB v]<|iG<|iB<|v+1:=by
 obtain⟨h1,h2,h3⟩:=anG jA;have yN:(lK 0 v ((iB v).length) (iB v).length)=jj (v+1) (iB v).length:=by rw[Mm<|bB _,h1]
 have B6:(iB 1).length=1:=by rw[Mi];rfl
 exact oY (ae [.bo,.a (aI:(0+(iB v).length)*4<=140737488355328),.s (Sp.kj (aa3 v) 0 ((iB v).length) aI (λx hx mr=>by
    have rO:=jA x aI;exact jg (ae [tT 11 ((x:Int)<((iB v).length:Int)) aI,iX (x:Int)<|(iB v).length,.a (aI:x<(iB v).length),.o 17<|.int (k:=.u32) (by rw[Jb]:(((lK 0 v x (iB v).length).getD x 0:Nat):Int)=(iV v x:Int)),.o 18<|.int (k:=.u32) (by rw[rO,Dh];rfl:(IntKind.u32.wrap<|(iV v x:Int)+1)=(iV 0 x:Int)),iX (x:Int)<|(iB v).length,.a (aI:x<(iB v).length),
     iX (x:Int) ((iB v).length),.a (aI:x<(iB v).length),.o 23 (.e<|.jm aP:aj ((λi' j'=>if i'=x/\0<=j'/\j'<0+1 then[.v<|.int .u32 (iV 0 x:Int)].getD (j'-0) .any else(jt<|lK 0 v x (iB v).length) i' j') x 0)<|.v<|.int .u32 (iV 0 x:Int)),ai 24 ((iV 0 x:Int) != 0)<|D7<|Dh x,iL<|(x:Int)+1]<|.e<|af [.b 5 (F8 rfl bh Mn:Bx.le (.row false 99 ((iB v).length) 1 λi' j'=>if i'=x/\0<=j'/\j'<0+1 then[.v<|.int .u32 (iV 0 x:Int)].getD (j'-0) .any else(jt<|lK 0 v x (iB v).length) i' j')<|.row false 99 ((iB v).length) 1<|jt<|lK 0 v (x+1) (iB v).length)]) aM)
  (λhx=>by
    exact jg (ae [tF 11 (((iB v).length:Int)<((iB v).length:Int)) aI]<|.e<|af [.b 5 (.jm<|by rw[yN]:Bx.le (.row false 99 ((iB v).length) 1<|jt<|lK 0 v ((iB v).length) (iB v).length)<|.row false 99 ((iB v).length) 1<|jt<|jj (v+1) (iB v).length)]) aM) aQ:ki 3 Tryz.f63 (aa3 v 0) (.exit 0) ⟨29,false,[(3,.own 5)],[(5,.row false 99 ((iB v).length) 1<|jt<|jj (v+1) (iB v).length)]⟩)<|af [.b 5 (acu rfl rfl (by rw[Jc,Pe]):Bx.le (.row false 99 (0+(iB v).length) 1 λi_ j_=>if i_<0 then(λi_ j_=>([]:List E).getD (i_*1+j_)<|.v<|.bool false) i_ j_ else(E.jV<|iG<|iB v) (i_-0) j_)<|.row false 99 ((iB v).length) 1<|jt<|lK 0 v 0 (iB v).length)],.o 27 (.e wL:aj (.sl false 1 1 λi_ j_=>[.v<|.int .u32 1].getD (i_*1+j_)<|.v<|.bool false)<|iG<|iB 1),.a (aI:((iB v).length+(iB 1).length)*4<=140737488355328)]<|rR (iG<|iB<|v+1) (amB aI h3 h2:E.le (.sl false ((iB v).length+(iB 1).length) 1 λi_ j_=>if i_<(iB v).length then(jt<|jj (v+1) (iB v).length) i_ j_ else(E.jV<|iG<|iB 1) (i_-(iB v).length) j_)<|iG<|iB<|v+1))
def anE:iA 63 [iG<|iB v]<|iG<|iB<|v+1:=by
 by_cases h:∃ k,k<(iB v).length/\decide (iV v k≠4294967295)=true
 .obtain ⟨N,h1,h2,h3⟩:=ur h;exact anF v hs N h1 (λk hk=>cF λq=>by have:=gU<|h3 k hk;exact this q)<|dK h2
 .exact anD v hs λk hk=>cF λq=>h ⟨k,hk,bC q⟩
end
section
variable(d:Dy)
def anw(h:d.m≠0):(Dy.mk (!d.neg) d.m d.e)=jl d:=by unfold jl;simp[h]
def anx(hd:d.mX)(h:d.m=0):d=jl d:=by
 have:=hd;obtain⟨s,m,e⟩:=d;simp only at h;subst h;have hz:=Sm hd (FN hd) (by rw[oX,qt];simp);exact hz
def anA(h:d.m≠0):iA 27 [iF d]<|iF<|jl d:=
 iM (ae [tT 6 (0<((iB d.m).length:Int)) (by have:¬(iB d.m).length=0:=λq=>h<|oO.1 q;omega)]<|rQ (iF<|Dy.mk (!d.neg) d.m d.e) (iF<|jl d)<|by rw[anw d h])
def anz(hd:d.mX)(h:d.m=0):iA 27 [iF d]<|iF<|jl d:=
 iM (ae [tF 6 (0<((iB d.m).length:Int))<|by have:=oO.2 h;omega]<|rQ (iF d) (iF<|jl d)<|by rw[<-anx d hd h])
def aaM(hd:d.mX):iA 27 [iF d]<|iF<|jl d:=by
 by_cases h:d.m=0
 .exact anz d hd h
 .exact anA d h
end
def aiz{n x:Nat}(hn:n<18446744073709551616)(hx:x<64):bits .and .u64 ((n:Int)/2^(63-(x:Int)).toNat) 1=(jD n 64 x:Int):=by
 have e:(63-(x:Int)).toNat=64-1-x:= aI ;have e2:(n:Int)/2^(64-1-x)=((n/2^(64-1-x):Nat):Int):= aP ;rw[e,e2,show(1:Int)=((1:Nat):Int)from rfl,Tm _ _ (dh (cM _ _) hn) aK,ix];rfl
section
variable{n d y:Nat}(hn:n<=1073741824)
def WX:iE (jZ n d y)<=31+y/\iE (2*jZ n d y)<=32+y:=by
 have h:=cM (n*2^y) d;constructor
 .refine lE.2<|dh h ?_;rw[bG];exact dJ aI<|bL aK
 .have h3:2*jZ n d y<=2*n*2^y:=by unfold jZ;rw[bO];omega
  refine lE.2<|dh h3 ?_;rw[bG];exact dJ aI<|bL aK
def Hn(hy:y<=1000):(iB<|jZ n d y).length<=100:=by
 have h1:=(WX (d:=d) (y:=y) hn).1;have h2:=FK (w:=jZ n d y) (y:=100);omega
def aiA(hy:y<=999):(iB<|2*jZ n d y).length<=100:=by
 have h1:=(WX (d:=d) (y:=y) hn).2;have h2:=FK (w:=2*jZ n d y) (y:=100);omega
end
def ac8{v:Nat}(h:v<18446744073709551616):(iB v).length<=2:=sR h
def aiD{T p y:Nat}(hT:iE T=p)(h:p-32*y<32):iV T y<2^(p-32*y):=by
 have h1:=qL T;rw[hT]at h1;unfold iV;refine dh (gS _ _) ?_;rw[cK<|pw y,oz,<-bG];exact cg h1<|bZ aK aI
def aiE{T p Y:Nat}(hT:iE T=p)(hp:1<=p)(hY:Y=(p+31)/32):jj T Y=iB T:=by
 apply I6;have h1:∀ y,y<(iB T).length↔32*y<iE T:=λy=>FK
 have h2:=h1 Y;have h3:=h1<|Y-1;rw[hT]at h2 h3;omega
def WZ{n d p K y k:Nat}(hk:k<32):jZ n d K/2^((mo n d p K+32*y)+k)%2=iV (kr n d p K) y/2^k%2:=by
 rw[Pd hk];unfold kr;rw[dc,<-bG,dm]
section
variable(n d p K:Nat)(hn:1<=n)(kX:n<=1073741824)(hd:1<=d)(ug:d<=1073741824)(hp:8<=p)(iJ:p<=512)(hK:K<p+31)(jA:∀ y,y<K->iE (jZ n d y)<p)(hb:p<=iE (jZ n d K))
def aiR(Y:Nat)(hY:Y=(p+31)/32):iA 26 [.v<|.int .u64 (n:Int),.v<|.int .u64 (d:Int),iP p]<|.iK [iF<|canon false (kr n d p K)<|oK n d p K,iF<|if(qc (mj n d K) (jZ n d K)<|mo n d p K)=true then canon false (kr n d p K) (oK n d p K)else canon false ((kr n d p K)+1) (oK n d p K)]:=by
 have h0:=WS (a:=n) (b:=d) (n:=64) aI;have h1:lM n d 64 64=jZ n d 0/\jk n d 64 64=mj n d 0:=by
  obtain⟨a,b⟩:=WN n d 64;rw[a,b];unfold jZ mj;rw[cH,cG];exact⟨rfl,rfl⟩
 have s7:=K4 hb;have hTY:=aiE s7 aI hY;have hLo:=Po hd kX hb aI;have hlK:=Hn (d:=d) (y:=K) kX aI;have hT0:(kr n d p K)≠0:=λq=>by rw[q,tE]at s7;omega
 have Dr:(iB<|kr n d p K).length<=100:=by
  have:=FK (w:=(kr n d p K)) (y:=100);omega
 have as0:(iB<|(kr n d p K)+1).length<=101:=by
  have h2:=wF Dr;refine sR ?_;rw[bV];omega
 have hL4:mo n d p K=iE (jZ n d K)-p:=rfl;exact iM (ae [.s (Sp.kj (Xg n d p) 0 64 aI (λx hx mr=>by
    have hr:(jk n d 64 x)<d:=bQ _ aI;have yO:=K0 n 64 x;have xU:(lM n d 64 x)<=n:=b9 (cM _ _)<|cM _ _;have zS:=ac8 (show(lM n d 64 x)<18446744073709551616 by omega);have ot:=ac8 (aI:2*(lM n d 64 x)<18446744073709551616);exact jg (ae [tT 23 (0<=(63-(x:Int))) aI,nW<|2*(jk n d 64 x:Int),.a (aI:0<=((63-(x:Int)):Int)/\((63-(x:Int)):Int)<=((64:Nat):Int)),.o 31 (.int<|aiz aI aI:aj (.v<|.int .u64<|bits .and .u64 ((n:Int)/2^((63-(x:Int))).toNat) 1)<|.v<|.int .u64 (jD n 64 x:Int)),
     nW (((2*(jk n d 64 x):Nat):Int)+(jD n 64 x:Int)),.a (aI:0<((d:Int):Int)),nW (((2*(jk n d 64 x))+(jD n 64 x):Nat):Int),.a (aI:0<((d:Int):Int)),.bo,.bo,.a (aI:(0+(iB<|lM n d 64 x).length)*4<=140737488355328),.o 41 (.e<|aeE rfl:aj (.sl false (0+(iB<|lM n d 64 x).length) 1 λi_ j_=>if i_<0 then(λi_ j_=>([]:List E).getD (i_*1+j_)<|.v<|.bool false) i_ j_ else(E.jV<|iG<|iB<|lM n d 64 x) (i_-0) j_)<|iG<|iB<|lM n d 64 x),.c<|acU (lM n d 64 x) aI]<|.w (((2*(jk n d 64 x))+(jD n 64 x))<d)
     (λhq=>by
      have hm:((2*(jk n d 64 x))+(jD n 64 x))%d=((2*(jk n d 64 x))+(jD n 64 x)):=by rw[cw hq]
      have hqd:((2*(jk n d 64 x))+(jD n 64 x))/d=0:=cI hq;have hs:=WO (a:=n) (b:=d) (n:=64) (x:=x) aI aI hq;exact ae [ai 44 (((((2*(jk n d 64 x))+(jD n 64 x))/d:Nat):Int)==1)<|bk aI,iL<|(63-(x:Int))-1]<|.e<|af [.o 11<|ar ((63-(x:Int))-1)<|63-((x+1:Nat):Int),.o 9<|.int (k:=.u64) (by rw[hs.1,hm]:((((2*(jk n d 64 x))+(jD n 64 x))%d:Nat):Int)=(jk n d 64<|x+1:Int)),.o 8 (.e<|.jm<|by rw[hs.2]:aj (iG<|iB<|2*(lM n d 64 x))<|iG<|iB<|lM n d 64<|x+1)])
     (λhq=>by
      have hm:((2*(jk n d 64 x))+(jD n 64 x))%d=((2*(jk n d 64 x))+(jD n 64 x))-d:=by rw[Nat.mod_eq_sub_mod aI,cw aI]
      have hqd:((2*(jk n d 64 x))+(jD n 64 x))/d=1:=by rw[Nat.div_eq_sub_div aI aI,cI aI]
      have hs:=WQ (a:=n) (b:=d) (n:=64) (x:=x) aI aI hq;exact ae [ah 44 (((((2*(jk n d 64 x))+(jD n 64 x))/d:Nat):Int)==1)<|bl aI,.c<|acT (2*(lM n d 64 x)) aI aI,iL<|(63-(x:Int))-1]<|.e<|af [.o 11<|ar ((63-(x:Int))-1)<|63-((x+1:Nat):Int),.o 9<|.int (k:=.u64) (by rw[hs.1,hm]:((((2*(jk n d 64 x))+(jD n 64 x))%d:Nat):Int)=(jk n d 64<|x+1:Int)),.o 8 (.e<|.jm<|by rw[hs.2]:aj (iG<|iB<|(2*(lM n d 64 x))+1)<|iG<|iB<|lM n d 64<|x+1)])) aM)
  (λhx=>by
    exact jg (af [tF 23 (0<=(63-((64:Nat):Int))) aI]) aM) aQ:ki 5 Tryz.f26 (Xg n d p 0) (.exit 0) ⟨130,true,[(10,.e<|iP 0),(9,.e<|.v<|.int .u64 (jk n d 64 64:Int)),(8,.e<|iG<|iB<|lM n d 64 64),(7,.box 7 0),(6,.box 6 0),(1,.e<|.v<|.int .u64 (d:Int)),(2,.e<|iP p)],[(7,.cells 31 av),(6,.cells 31 av)]⟩)<|af [.o 11<|ar 63<|63-((0:Nat):Int),.o 9<|.int (k:=.u64) (by rw[h0.1];rfl:0=(jk n d 64 0:Int)),.o 8 (.e<|anK h0.2:aj (.sl true 0 1 λi_ j_=>[].getD (i_*1+j_)<|.v<|.bool false)<|iG<|iB<|lM n d 64 0)],.s (Sp.kj (Xh n d p) 0 K aI (λy hy QT=>by
    have zS:=Hn (d:=d) (y:=y) kX aI;have ot:=aiA (d:=d) (y:=y) kX aI;have Yu:=jA y aI;have IB:(mj n d y)<d:=bQ _ aI;exact jg (ae [.c<|KI (jZ n d y) aI,tT 50 ((iE<|jZ n d y:Int)<p) aI,nW<|2*(mj n d y:Int),.c<|acU (jZ n d y) aI]<|.w (2*mj n d y<d)
     (λhq=>by
      have hs:=aiB (n:=n) (d:=d) (y:=y) aI hq;exact ae [tF 57 ((d:Int)<=((2*(mj n d y):Nat):Int)) aI,iL<|(0-(y:Int))-1]<|.e<|af [.o 10<|ar ((0-(y:Int))-1)<|0-((y+1:Nat):Int),.o 9<|.int (k:=.u64) (by rw[hs.1]:((2*(mj n d y):Nat):Int)=(mj n d<|y+1:Int)),.o 8 (.e<|.jm<|by rw[hs.2]:aj (iG<|iB<|2*(jZ n d y))<|iG<|iB<|jZ n d<|y+1)])
     (λhq=>by
      have hs:=aiC (n:=n) (d:=d) (y:=y) aI hq;exact ae [tT 57 ((d:Int)<=((2*(mj n d y):Nat):Int)) aI,nW<|((2*(mj n d y):Nat):Int)-d,.o 60<|.int (k:=.u64) (aI:(((2*(mj n d y):Nat):Int)-d)=((2*mj n d y-d:Nat):Int)),.c<|acT (2*(jZ n d y)) aI aI,iL<|(0-(y:Int))-1]<|.e<|af [.o 10<|ar ((0-(y:Int))-1)<|0-((y+1:Nat):Int),.o 9<|.int (k:=.u64) (by rw[hs.1]:((2*mj n d y-d:Nat):Int)=(mj n d<|y+1:Int)),.o 8 (.e<|.jm<|by rw[hs.2]:aj (iG<|iB<|(2*(jZ n d y))+1)<|iG<|iB<|jZ n d<|y+1)])) aM)
  (λhy=>by
    have zS:=Hn (d:=d) (y:=K) kX aI;exact jg (af [.c<|KI (jZ n d K) aI,tF 50 ((iE<|jZ n d K:Int)<p) aI]) aM) aQ:ki 13 Tryz.f26 (Xh n d p 0) (.exit 2) ⟨130,false,[(10,.e<|iP<|0-(K:Int)),(9,.e<|.v<|.int .u64 (mj n d K:Int)),(8,.e<|iG<|iB<|jZ n d K),(7,.box 7 0),(6,.box 6 0),(2,.e<|iP p)],[(7,.cells 31 av),(6,.cells 31 av)]⟩)<|af [.o 10<|ar 0<|0-((0:Nat):Int),.o 9<|.int (k:=.u64) (by rw[h1.2]:(jk n d 64 64:Int)=(mj n d 0:Int)),.o 8 (.e<|.jm<|by rw[h1.1]:aj (iG<|iB<|lM n d 64 64)<|iG<|iB<|jZ n d 0)],.c<|KI (jZ n d K) aI,iL<|(iE<|jZ n d K:Int)-p,.o 68<|ar ((iE<|jZ n d K:Int)-p) (mo n d p K:Int),.y 15 15 false 99 1<|jt<|jj (kr n d p K) 0,.s (Sp.kj (Xi n d p K) 0 Y aI (λy hy QT=>by
    have hD:=qB (kr n d p K) y;have zS:=Hn (d:=d) (y:=K) kX aI;exact jg (ae [tT 73 (((32*y:Nat):Int)<p) aI]<|.w (32<=p-32*y)
     (λhf=>by
      have hz:(((iV (kr n d p K) y)%2^32:Nat):Int)=(iV (kr n d p K) y:Int):=by rw[cw hD]
      exact ae [.s (Sp.kj (Xj n d p K y) 0 32 aI (λk hk yW=>by
    exact jg (af [tT 77 ((k:Int)<32) aI,iL<|((32*y:Nat):Int)+k,tT 83 ((((32*y)+k:Nat):Int)<p) aI,
     iL ((mo n d p K:Int)+((32*y:Nat):Int)),iL<|(((mo n d p K)+(32*y):Nat):Int)+k,.c<|KH (jZ n d K) (((mo n d p K)+(32*y))+k) aI aI,.o 94<|ar (((jZ n d K)/2^(((mo n d p K)+(32*y))+k)%2:Nat):Int) (((iV (kr n d p K) y)/2^k%2:Nat):Int)<|by rw[WZ aI],.o 95<|.int (k:=.u32) (by rw[IntKind.wrap_u32];omega:(IntKind.u32.wrap (((iV (kr n d p K) y)/2^k%2:Nat):Int))=(((iV (kr n d p K) y)/2^k%2:Nat):Int)),.a (aI:0<=((k:Int):Int)/\((k:Int):Int)<=((32:Nat):Int)),.o 97 (.int<|Nc aI aI:aj (.v<|.int .u32<|IntKind.u32.wrap<|(((iV (kr n d p K) y)/2^k%2:Nat):Int)*2^k)<|.v<|.int .u32 ((((iV (kr n d p K) y)/2^k%2)*2^k:Nat):Int)),.o 98 (.int<|MD aI hD:aj (.v<|.int .u32<|bits .or .u32 (((iV (kr n d p K) y)%2^k:Nat):Int) ((((iV (kr n d p K) y)/2^k%2)*2^k:Nat):Int))<|.v<|.int .u32 (((iV (kr n d p K) y)%2^(k+1):Nat):Int)),
     iL ((k:Int)+1)]) aM)
  (λhk=>by
    exact jg (af [ai 77 (decide ((32:Int)<32)) aK]) aM) aQ:ki 28 Tryz.f26 (Xj n d p K y 0) (.exit 6) ⟨130,false,[(83,.e<|.v<|.tuple #[]),(82,.e<|.v<|.tuple #[]),(81,.e<|.v<|.tuple #[]),(80,.e<|.v<|.tuple #[]),(79,.e<|.v<|.tuple #[]),(17,.e<|.v<|.int .u32 (((iV (kr n d p K) y)%2^32:Nat):Int)),(15,.own 15),(16,.e<|iP ((32*y:Nat):Int)),(14,.e<|bP<|(mj n d K:Int)==0),(13,.e<|iP (mo n d p K:Int)),(10,.e<|iP<|0-(K:Int)),(8,.e<|iG<|iB<|jZ n d K),(7,.box 7 0),(6,.box 6 0),(2,.e<|iP p)],[(15,.row false 99 y 1<|jt<|jj (kr n d p K) y),(7,.cells 31 av),(6,.cells 31 av)]⟩)<|af [.o 17<|.int (k:=.u32) (by rw[cH,dz];rfl:0=(((iV (kr n d p K) y)%2^0:Nat):Int))],.a (aI:(y+1)*4<=140737488355328),iL<|((32*y:Nat):Int)+32]<|.e<|af [.o 16<|ar (((32*y)+32:Nat):Int) ((32*(y+1):Nat):Int) aZ,.b 15 (Cj rfl hz:Bx.le (.row false 99 (y+1) 1 λi_ j_=>if i_<y then(jt<|jj (kr n d p K) y) i_ j_ else(E.jV<|.sl false 1 1 λi_ j_=>[.v<|.int .u32 (((iV (kr n d p K) y)%2^32:Nat):Int)].getD (i_*1+j_)<|.v<|.bool false) (i_-y) j_)<|.row false 99 (y+1) 1<|jt<|jj (kr n d p K)<|y+1)])
     (λhf=>by
      have hz:(((iV (kr n d p K) y)%2^(p-32*y):Nat):Int)=(iV (kr n d p K) y:Int):=by rw[cw<|aiD s7 aI]
      exact ae [.s (Sp.kj (Xk n d p K y) 0 (p-32*y) aI (λk hk yW=>by
    exact jg (af [tT 77 ((k:Int)<32) aI,iL<|((32*y:Nat):Int)+k,tT 83 ((((32*y)+k:Nat):Int)<p) aI,
     iL ((mo n d p K:Int)+((32*y:Nat):Int)),iL<|(((mo n d p K)+(32*y):Nat):Int)+k,.c<|KH (jZ n d K) (((mo n d p K)+(32*y))+k) aI aI,.o 94<|ar (((jZ n d K)/2^(((mo n d p K)+(32*y))+k)%2:Nat):Int) (((iV (kr n d p K) y)/2^k%2:Nat):Int)<|by rw[WZ aI],.o 95<|.int (k:=.u32) (by rw[IntKind.wrap_u32];omega:(IntKind.u32.wrap (((iV (kr n d p K) y)/2^k%2:Nat):Int))=(((iV (kr n d p K) y)/2^k%2:Nat):Int)),.a (aI:0<=((k:Int):Int)/\((k:Int):Int)<=((32:Nat):Int)),.o 97 (.int<|Nc aI aI:aj (.v<|.int .u32<|IntKind.u32.wrap<|(((iV (kr n d p K) y)/2^k%2:Nat):Int)*2^k)<|.v<|.int .u32 ((((iV (kr n d p K) y)/2^k%2)*2^k:Nat):Int)),.o 98 (.int<|MD aI hD:aj (.v<|.int .u32<|bits .or .u32 (((iV (kr n d p K) y)%2^k:Nat):Int) ((((iV (kr n d p K) y)/2^k%2)*2^k:Nat):Int))<|.v<|.int .u32 (((iV (kr n d p K) y)%2^(k+1):Nat):Int)),
     iL ((k:Int)+1)]) aM)
  (λhk=>by
    exact jg (af [tT 77 (((p-32*y:Nat):Int)<32) aI,iL<|((32*y:Nat):Int)+((p-32*y:Nat):Int),tF 83 ((((32*y)+(p-32*y):Nat):Int)<p) aI]) aM) aQ:ki 28 Tryz.f26 (Xk n d p K y 0) (.exit 6) ⟨130,false,[(83,.e<|bP false),(82,.e<|iP p),(81,.e<|iP (((32*y)+(p-32*y):Nat):Int)),(80,.e<|iP ((p-32*y:Nat):Int)),(79,.e<|iP ((32*y:Nat):Int)),(17,.e<|.v<|.int .u32 (((iV (kr n d p K) y)%2^(p-32*y):Nat):Int)),(15,.own 15),(16,.e<|iP ((32*y:Nat):Int)),(14,.e<|bP<|(mj n d K:Int)==0),(13,.e<|iP (mo n d p K:Int)),(10,.e<|iP<|0-(K:Int)),(8,.e<|iG<|iB<|jZ n d K),(7,.box 7 0),(6,.box 6 0),(2,.e<|iP p)],[(15,.row false 99 y 1<|jt<|jj (kr n d p K) y),(7,.cells 31 av),(6,.cells 31 av)]⟩)<|af [.o 17<|.int (k:=.u32) (by rw[cH,dz];rfl:0=(((iV (kr n d p K) y)%2^0:Nat):Int))],.a (aI:(y+1)*4<=140737488355328),iL<|((32*y:Nat):Int)+32]<|.e<|af [.o 16<|ar (((32*y)+32:Nat):Int) ((32*(y+1):Nat):Int) aZ,.b 15 (Cj rfl hz:Bx.le (.row false 99 (y+1) 1 λi_ j_=>if i_<y then(jt<|jj (kr n d p K) y) i_ j_ else(E.jV<|.sl false 1 1 λi_ j_=>[.v<|.int .u32 (((iV (kr n d p K) y)%2^(p-32*y):Nat):Int)].getD (i_*1+j_)<|.v<|.bool false) (i_-y) j_)<|.row false 99 (y+1) 1<|jt<|jj (kr n d p K)<|y+1)])) aM)
  (λhy=>by
    exact jg (ae [tF 73 (((32*Y:Nat):Int)<p) aI,.z 15]<|.e<|af [.o 15 (.e<|.jm<|by rw[CL (nH _ _).symm,hTY]:aj (.sl false Y 1<|jt<|jj (kr n d p K) Y)<|iG<|iB<|kr n d p K)]) aM) aQ:ki 24 Tryz.f26 (Xi n d p K 0) (.exit 4) ⟨130,true,[(15,.e<|iG<|iB<|kr n d p K),(14,.e<|bP<|(mj n d K:Int)==0),(13,.e<|iP (mo n d p K:Int)),(10,.e<|iP<|0-(K:Int)),(8,.e<|iG<|iB<|jZ n d K),(7,.box 7 0),(6,.box 6 0)],[(7,.cells 31 av),(6,.cells 31 av)]⟩)<|af [.o 16<|ar 0 ((32*0:Nat):Int) aZ],.s (Sp.kj (Xl n d p K) 0 (mo n d p K) aI (λx hx mr=>by
    have zS:=Hn (d:=d) (y:=K) kX aI;exact jg (ae [tT 105 ((x:Int)<(mo n d p K:Int)) aI]<|.w ((qc (mj n d K) (jZ n d K) x)=true)
     (λhq=>ae [ah 108 (qc (mj n d K) (jZ n d K) x) hq,.c<|KH (jZ n d K) x aI aI]<|.w ((jZ n d K)/2^x%2=0)
      (λLy=>ae [ah 113 ((((jZ n d K)/2^x%2:Nat):Int)==0)<|bl aI,iL<|(x:Int)+1]<|.e<|af [.o 14 (.bool (aix hq Ly).symm:aj (bP true)<|bP<|qc (mj n d K) (jZ n d K)<|x+1)])
      (λLy=>ae [ai 113 ((((jZ n d K)/2^x%2:Nat):Int)==0)<|bk aI,iL<|(x:Int)+1]<|.e<|af [.o 14 (.bool (aiv Ly).symm:aj (bP false)<|bP<|qc (mj n d K) (jZ n d K)<|x+1)]))
     (λhq=>ae [tB 108<|bn hq,iL<|(x:Int)+1]<|.e<|af [.o 14 (.bool (aiw<|bn hq).symm:aj (bP false)<|bP<|qc (mj n d K) (jZ n d K)<|x+1)])) aM)
  (λhx=>by
    exact jg (af [tF 105 ((mo n d p K:Int)<(mo n d p K:Int)) aI]) aM) aQ:ki 33 Tryz.f26 (Xl n d p K 0) (.exit 8) ⟨130,true,[(15,.e<|iG<|iB<|kr n d p K),(14,.e<|bP<|qc (mj n d K) (jZ n d K)<|mo n d p K),(13,.e<|iP (mo n d p K:Int)),(10,.e<|iP<|0-(K:Int)),(7,.box 7 0),(6,.box 6 0)],[(7,.cells 31 av),(6,.cells 31 av)]⟩)<|af [.o 14 (.bool<|aiy _ _:aj (bP<|(mj n d K:Int)==0)<|bP<|qc (mj n d K) (jZ n d K) 0)],
  iL ((0-(K:Int))+(mo n d p K:Int)),.c<|aag (kr n d p K) ((0-(K:Int))+(mo n d p K:Int)) aI aI aI aI]<|.w (qc (mj n d K) (jZ n d K) (mo n d p K)=true)
  (λk1=>ae [tB 120 k1]<|rQ (.iK [iF<|canon false (kr n d p K)<|(0-(K:Int))+(mo n d p K:Int),iF<|canon false (kr n d p K)<|(0-(K:Int))+(mo n d p K:Int)]) (.iK [iF<|canon false (kr n d p K)<|oK n d p K,iF<|if(qc (mj n d K) (jZ n d K)<|mo n d p K)=true then canon false (kr n d p K) (oK n d p K)else canon false ((kr n d p K)+1) (oK n d p K)]) (by(rw[bA k1])<;>rfl))
  (λk1=>ae [tB 120<|bn k1,ag [iG<|iB<|kr n d p K]<|anE _ aI,iL<|(0-(K:Int))+(mo n d p K:Int),.c<|aag ((kr n d p K)+1) ((0-(K:Int))+(mo n d p K:Int)) aI aI aI aI]<|rQ (.iK [iF<|canon false (kr n d p K)<|(0-(K:Int))+(mo n d p K:Int),iF<|canon false ((kr n d p K)+1)<|(0-(K:Int))+(mo n d p K:Int)]) (.iK [iF<|canon false (kr n d p K)<|oK n d p K,iF<|if(qc (mj n d K) (jZ n d K)<|mo n d p K)=true then canon false (kr n d p K) (oK n d p K)else canon false ((kr n d p K)+1) (oK n d p K)]) (by(rw[bw k1])<;>rfl)))
def Xo:
 iA 26 [.v<|.int .u64 (n:Int),.v<|.int .u64 (d:Int),iP p] (.iK [iF<|canon false (kr n d p K)<|oK n d p K,iF<|if(qc (mj n d K) (jZ n d K)<|mo n d p K)=true then canon false (kr n d p K) (oK n d p K)else canon false ((kr n d p K)+1) (oK n d p K)]):=by
 exact aiR n d p K hn kX hd ug hp iJ hK jA hb _ rfl
end
def asT:E.le (.agg aw)<|iC ⟨jK,jK,false⟩:=
 .agg (.cons (.refl _)<|.cons FO<|.cons (.refl _)<|.cons (.refl _)<|.cons FO<|.cons (.refl _)<|.cons (.refl _) .nil)
def aiJ(d:Int)(p:Nat)(hr:jG 0 d=true)(hp:8<=p)(iJ:p<=512):iA 12 [.agg [iP 0,iP d],iP p]<|iC<|kH 0 d p:=by
 rw[acA hp iJ hr];exact iM<|ae [.c<|y9 0 d,ai 9 (!(jG 0 d))<|by rw[hr];rfl,tF 12 ((p:Int)<8) aI,tF 16 (512<(p:Int)) aI,ah 21 ((0:Int)==0) aK]<|rR (iC<|Iv.mk jK jK false) (asT:E.le (.agg aw)<|iC<|Iv.mk jK jK false)
section
variable(n d p K:Nat)(hn:1<=n)(kX:n<=1073741824)(hd:1<=d)(ug:d<=1073741824)(hp:8<=p)(iJ:p<=512)(hK:K<p+31)(jA:∀ y,y<K->iE (jZ n d y)<p)(hb:p<=iE (jZ n d K))
def aiI(hr:jG (n:Int) (d:Int)=true):iA 12 [.agg [iP n,iP d],iP p]<|iC<|kH (n:Int) (d:Int) p:=by
 rw[acz kX hd hp iJ hK hb hr];exact iM<|af [.c<|y9 (n:Int) (d:Int),ai 9 (!(jG (n:Int) (d:Int)))<|by rw[hr];rfl,tF 12 ((p:Int)<8) aI,tF 16 (512<(p:Int)) aI,ai 21 ((n:Int)==0)<|bk aI,.c<|S4 (n:Int) aI aI,.o 26<|.int (k:=.u64) (aI:(Int.natAbs (n:Int):Int)=n),.o 29 (.int<|px _:aj (.v<|.int .u64<|IntKind.u64.wrap (d:Int))<|.v<|.int .u64 (d:Int)),ag [.v<|.int .u64 (n:Int),.v<|.int .u64 (d:Int),iP p]<|Xo _ _ _ K hn kX hd ug hp iJ hK jA hb,tF 36 ((n:Int)<0) aI]
def aiH(hr:jG (-(n:Int)) (d:Int)=true):iA 12 [.agg [iP (-(n:Int)),iP d],iP p]<|iC<|kH (-(n:Int)) (d:Int) p:=by
 have AU:(canon false (kr n d p K)<|oK n d p K).mX:=sG _ _ _;have hc2:(if(qc (mj n d K) (jZ n d K)<|mo n d p K)=true then canon false (kr n d p K) (oK n d p K)else canon false ((kr n d p K)+1) (oK n d p K)).mX:=by split<;>exact sG _ _ _
 rw[acy kX hd hp iJ hK hb hr];exact iM<|af [.c<|y9 (- (n:Int)) (d:Int),ai 9 (!(jG (-(n:Int)) (d:Int)))<|by rw[hr];rfl,tF 12 ((p:Int)<8) aI,tF 16 (512<(p:Int)) aI,ai 21 ((-(n:Int))==0)<|bk aI,.c<|S4 (- (n:Int)) aI aI,.o 26<|.int (k:=.u64) (aI:(Int.natAbs (-(n:Int)):Int)=n),.o 29 (.int<|px _:aj (.v<|.int .u64<|IntKind.u64.wrap (d:Int))<|.v<|.int .u64 (d:Int)),ag [.v<|.int .u64 (n:Int),.v<|.int .u64 (d:Int),iP p]<|Xo _ _ _ K hn kX hd ug hp iJ hK jA hb,tT 36 ((-(n:Int))<0) aI,ag [iF<|if(qc (mj n d K) (jZ n d K)<|mo n d p K)=true then canon false (kr n d p K) (oK n d p K)else canon false ((kr n d p K)+1) (oK n d p K)]<|aaM _ aJ,ag [iF<|canon false (kr n d p K)<|oK n d p K]<|aaM _ aJ]
end
def Hp(n d:Int)(p:Nat)(hr:jG n d=true)(hp:8<=p)(iJ:p<=512):iA 12 [.agg [iP n,iP d],iP (p:Int)]<|iC<|kH n d p:=by
 obtain⟨r1,r2,r3,r4⟩:=sW hr;obtain⟨d,rfl⟩:=eh (aI:0<=d);by_cases h0:n=0
 .subst h0;exact aiJ d p hr hp iJ
 by_cases h1:0<=n
 .obtain ⟨n,rfl⟩:=eh h1;obtain⟨K,k1,k2,k3⟩:=K5 (n:=n) (d:=d) aI aI aI p;exact aiI n d p K aI aI aI aI hp iJ k1 k2 k3 hr
 .obtain ⟨m,rfl⟩:∃ m:Nat,n = -(m:Int):=⟨n.natAbs,aI⟩
  obtain⟨K,k1,k2,k3⟩:=K5 (n:=m) (d:=d) aI aI aI p;exact aiH m d p K aI aI aI aI hp iJ k1 k2 k3 hr
section
variable(L:List Nat)
def VA(T l N:Nat)(x:Nat):PS:=⟨29,true,[(3,.e<|iP ((T+l-x:Nat):Int)),(0,.e<|iG L)],[]⟩
def VE(T l N x:Nat)(k:Nat):PS:=⟨29,true,[(4,.e<|iP<|31-(k:Int)),(3,.e<|iP ((T+l-x:Nat):Int)),(0,.e<|iG L)],[]⟩
def VD(T l N:Nat)(x:Nat):PS:=⟨29,true,[(4,.e<|iP ((31-x:Nat):Int)),(3,.e<|iP ((T+l-T:Nat):Int)),(0,.e<|iG L)],[]⟩
end
def VC(x:Nat):PS:=⟨29,true,[(3,.e<|iP<|1-(x:Int)),(0,.e<|iG [0,0])],[]⟩
def VB(x:Nat)(k:Nat):PS:=⟨29,true,[(4,.e<|iP<|31-(k:Int)),(3,.e<|iP<|1-(x:Int)),(0,.e<|iG [0,0])],[]⟩
def afF(L:List Nat)(T l N:Nat)(hL:jc L)(hl:L.length=T+l+1)(hs:T+l<=1000000)(hz:∀ x,x<T->(L.getD (T+l-x) 0)=0)(h0:(L.getD (T+l-T) 0)≠0)(hN:N=32-iE (L.getD (T+l-T) 0))(Ig:iE (L.getD (T+l-T) 0)<=32)(lu:1<=iE (L.getD (T+l-T) 0)):iA 59 [iG L]<|iP ((32*(T+l-T)+iE (L.getD (T+l-T) 0):Nat):Int):=
 iM (ae [iL<|(L.length:Int)-1,.o 7<|ar ((L.length:Int)-1) ((T+l:Nat):Int),.s (Sp.kj (VA L T l N) 0 T aI (λx hx mr=>by
    have sP:=hz x aI;exact jg (ae [tT 9 (0<=((T+l-x:Nat):Int)) aI,.s (Sp.kj (VE L T l N x) 0 32 aI (λk hk yW=>by
    have hb:(L.getD (T+l-x) 0)/2^(31-k)=0:=by rw[sP,fL]
    exact jg (ae [tT 13 (0<=(31-(k:Int))) aI,iX ((T+l-x:Nat):Int)<|L.length,.o 20<|ar (31-(k:Int)) ((31-k:Nat):Int),.a (aI:0<=(((31-k:Nat):Int):Int)/\(((31-k:Nat):Int):Int)<=((32:Nat):Int)),.o 21 (.int<|tW _ _:aj (.v<|.int .u32<|(L.getD (T+l-x) 0:Int)/2^(31-k))<|.v<|.int .u32 (((L.getD (T+l-x) 0)/2^(31-k):Nat):Int)),.o 22 (.int<|yp _:aj (.v<|.int .u32<|bits .and .u32 (((L.getD (T+l-x) 0)/2^(31-k):Nat):Int) 1)<|.v<|.int .u32 ((((L.getD (T+l-x) 0)/2^(31-k))%2:Nat):Int)),ai 23 (((((L.getD (T+l-x) 0)/2^(31-k))%2:Nat):Int)==1)<|bk aI,iL<|(31-(k:Int))-1]<|.e<|af [.o 4<|ar ((31-(k:Int))-1) (31-((k+1:Nat):Int)) aZ]) aM)
  (λhk=>by
    exact jg (af [tF 13 (0<=(31-((32:Nat):Int))) aI]) aM) aQ:ki 5 Tryz.f59 (VE L T l N x 0) (.exit 2) ⟨29,true,[(3,.e<|iP ((T+l-x:Nat):Int)),(0,.e<|iG L)],[]⟩)<|af [.o 4<|ar 31 (31-((0:Nat):Int)) aZ],
     iL (((T+l-x:Nat):Int)-1)]<|.e<|af [.o 3<|ar (((T+l-x:Nat):Int)-1) ((T+l-(x+1):Nat):Int) aZ]) aM)
  (λhx=>by
    exact jg (af [tT 9 (0<=((T+l-T:Nat):Int)) aI,.s (Sp.kj (VD L T l N) 0 N aI (λx hx mr=>by
    have hX:=hL.getD<|T+l-T;have hd:=cM (L.getD (T+l-T) 0)<|2^(31-x);have hb:=Vw (t:=(L.getD (T+l-T) 0)) (x:=x) aI;exact jg (ae [tT 13 (0<=((31-x:Nat):Int)) aI,iX ((T+l-T:Nat):Int)<|L.length,.a (aI:0<=(((31-x:Nat):Int):Int)/\(((31-x:Nat):Int):Int)<=((32:Nat):Int)),.o 21 (.int<|tW _ _:aj (.v<|.int .u32<|(L.getD (T+l-T) 0:Int)/2^(31-x))<|.v<|.int .u32 (((L.getD (T+l-T) 0)/2^(31-x):Nat):Int)),.o 22 (.int<|yp _:aj (.v<|.int .u32<|bits .and .u32 (((L.getD (T+l-T) 0)/2^(31-x):Nat):Int) 1)<|.v<|.int .u32 ((((L.getD (T+l-T) 0)/2^(31-x))%2:Nat):Int)),ai 23 (((((L.getD (T+l-T) 0)/2^(31-x))%2:Nat):Int)==1)<|bk aI,iL<|((31-x:Nat):Int)-1]<|.e<|af [.o 4<|ar (((31-x:Nat):Int)-1) ((31-(x+1):Nat):Int)]) aM)
  (λhx=>by
    have hX:=hL.getD<|T+l-T;have hd:=cM (L.getD (T+l-T) 0)<|2^(31-N);have hb:=Vy (t:=(L.getD (T+l-T) 0)) (x:=N) h0 hN Ig;exact jg (af [tT 13 (0<=((31-N:Nat):Int)) aI,iX ((T+l-T:Nat):Int)<|L.length,.a (aI:0<=(((31-N:Nat):Int):Int)/\(((31-N:Nat):Int):Int)<=((32:Nat):Int)),.o 21 (.int<|tW _ _:aj (.v<|.int .u32<|(L.getD (T+l-T) 0:Int)/2^(31-N))<|.v<|.int .u32 (((L.getD (T+l-T) 0)/2^(31-N):Nat):Int)),.o 22 (.int<|yp _:aj (.v<|.int .u32<|bits .and .u32 (((L.getD (T+l-T) 0)/2^(31-N):Nat):Int) 1)<|.v<|.int .u32 ((((L.getD (T+l-T) 0)/2^(31-N))%2:Nat):Int)),ah 23 (((((L.getD (T+l-T) 0)/2^(31-N))%2:Nat):Int)==1)<|bl aI,iL<|32*((T+l-T:Nat):Int),
    iL (((32*(T+l-T):Nat):Int)+((31-N:Nat):Int)),iL<|(((32*(T+l-T))+(31-N):Nat):Int)+1]) aM) aQ:ki 5 Tryz.f59 (VD L T l N 0) .ret ⟨29,true,[(2,.e<|iP ((((32*(T+l-T))+(31-N))+1:Nat):Int))],[]⟩)<|af [.o 4<|ar 31 ((31-0:Nat):Int)]]) aM) aQ:ki 2 Tryz.f59 (VA L T l N 0) .ret ⟨29,true,[(2,.e<|iP ((((32*(T+l-T))+(31-N))+1:Nat):Int))],[]⟩)<|af [.o 3<|ar ((T+l:Nat):Int) ((T+l-0:Nat):Int) aZ]]<|rQ (iP ((((32*(T+l-T))+(31-N))+1:Nat):Int)) (iP ((32*(T+l-T)+iE (L.getD (T+l-T) 0):Nat):Int))<|congrArg iP aI)
def afr{L:List Nat}(hL:jc L){i:Nat}(h:32*L.length<=i):val L/2^i%2=0:=by
 have h1:=nd hL;rw[oz]at h1;have h2:=bZ (show 0<2 by decide) h;rw[cI aI]
def R3{v:Nat}(hv:v<4294967296):jc [v,0]:=by
 intro x hx;rcases dM.1 hx with rfl|hx
 .exact hv
 .rcases dM.1 hx with rfl|hx
  .decide
  .cases hx
def afv(v:Nat)(h0:v≠0)(hv:v<4294967296):iA 59 [iG [v,0]]<|iP (iE v:Int):=by
 have hb:iE v<=32:=lE.2 hv;have hp:=og h0;have hz:∀ x,x<1->([v,0]:List Nat).getD (1+0-x) 0=0:=λx hx=>by
  obtain rfl:x=0:= aI ;rfl
 have h:=afF [v,0] 1 0 _ (R3 hv) rfl aK hz h0 rfl hb hp;have e:((32*(1+0-1)+iE (([v,0]:List Nat).getD (1+0-1) 0):Nat))=iE v:=cJ<|iE v;rwa[e]at h
def amF{v:Nat}(hv:v<4294967296):E.le (.sl false 2 1 λi_ j_=>[.v<|.int .u32 ((v%4294967296:Nat):Int),.v<|.int .u32 (((v/4294967296)%4294967296:Nat):Int)].getD (i_*1+j_)<|.v<|.bool false)<|iG [v,0]:=by
 have e1:v%4294967296=v:=cw hv;have e2:v/4294967296%4294967296=0:=by rw[cI hv]
 rw[e1,e2];refine .sl λi j hi hj=>?_
 obtain rfl:j=0:= aI ;obtain rfl|rfl:i=0\/i=1:= aI 
 all_goals exact⟨.jm rfl,rfl⟩
def afs(L:List Nat)(i:Nat)(hL:jc L)(h:L.length<=1000000)(hi:i<=1000000000):iA 60 [iG L,iP i]<|iP ((val L/2^i%2:Nat):Int):=by
 have hX:=hL.getD<|i/32;have hd:=cM (L.getD (i/32) 0)<|2^(i%32);exact iM (ae [tF 6 ((i:Int)<0) aI,iL<|32*(L.length:Int)]<|.w (((32*L.length:Nat):Int)<=i)
  (λk1=>ae [tB 12<|bC k1]<|rQ (iP 0) (iP ((val L/2^i%2:Nat):Int))<|congrArg (λx:Nat=>iP (x:Int)) (afr hL aI).symm)
  (λk1=>ae [tB 12<|bE k1,.a (aI:0<(32:Int)),iL (i:Int),iX ((i/32:Nat):Int)<|L.length,.a (aI:0<(32:Int)),.a (aI:0<=(((i%32:Nat):Int):Int)/\(((i%32:Nat):Int):Int)<=((32:Nat):Int)),.o 21 (.int<|tW _ _:aj (.v<|.int .u32<|(L.getD (i/32) 0:Int)/2^(i%32))<|.v<|.int .u32 (((L.getD (i/32) 0)/2^(i%32):Nat):Int)),.o 22 (.int<|yp _:aj (.v<|.int .u32<|bits .and .u32 (((L.getD (i/32) 0)/2^(i%32):Nat):Int) 1)<|.v<|.int .u32 ((((L.getD (i/32) 0)/2^(i%32))%2:Nat):Int)),.o 23<|ar (IntKind.i64.wrap ((((L.getD (i/32) 0)/2^(i%32))%2:Nat):Int)) ((((L.getD (i/32) 0)/2^(i%32))%2:Nat):Int)<|Bc _]<|rQ (iP ((((L.getD (i/32) 0)/2^(i%32))%2:Nat):Int)) (iP ((val L/2^i%2:Nat):Int))<|by rw[qg hL,OI]))
def afw : iA 59 [iG [0,0]]<|iP 0:=by
 have ot:([0,0]:List Nat).length=2:=rfl;exact iM (af [iL<|(([0,0].length:Nat):Int)-1,.s (Sp.kj VC 0 2 aI (λx hx mr=>by
    have sP:([0,0].getD (1-(x:Int)).toNat 0)=0:=by(have:x=0\/x=1:= aI);rcases this with rfl|rfl<;>rfl
    exact jg (ae [tT 9 (0<=(1-(x:Int))) aI,.s (Sp.kj (VB x) 0 32 aI (λk hk yW=>by
    have hb:([0,0].getD (1-(x:Int)).toNat 0)/2^(31-k)=0:=by rw[sP,fL]
    exact jg (ae [tT 13 (0<=(31-(k:Int))) aI,iX (1-(x:Int))<|[0,0].length,.o 20<|ar (31-(k:Int)) ((31-k:Nat):Int),.a (aI:0<=(((31-k:Nat):Int):Int)/\(((31-k:Nat):Int):Int)<=((32:Nat):Int)),.o 21 (.int<|tW _ _:aj (.v<|.int .u32<|(([0,0].getD (1-(x:Int)).toNat 0:Nat):Int)/2^(31-k))<|.v<|.int .u32 ((([0,0].getD (1-(x:Int)).toNat 0)/2^(31-k):Nat):Int)),.o 22 (.int<|yp _:aj (.v<|.int .u32<|bits .and .u32 ((([0,0].getD (1-(x:Int)).toNat 0)/2^(31-k):Nat):Int) 1)<|.v<|.int .u32 (((([0,0].getD (1-(x:Int)).toNat 0)/2^(31-k))%2:Nat):Int)),ai 23 ((((([0,0].getD (1-(x:Int)).toNat 0)/2^(31-k))%2:Nat):Int)==1)<|bk aI,iL<|(31-(k:Int))-1]<|.e<|af [.o 4<|ar ((31-(k:Int))-1) (31-((k+1:Nat):Int)) aZ]) aM)
  (λhk=>by
    exact jg (af [tF 13 (0<=(31-((32:Nat):Int))) aI]) aM) aQ:ki 5 Tryz.f59 (VB x 0) (.exit 2) ⟨29,true,[(3,.e<|iP<|1-(x:Int)),(0,.e<|iG [0,0])],[]⟩)<|af [.o 4<|ar 31 (31-((0:Nat):Int)) aZ],
     iL ((1-(x:Int))-1)]<|.e<|af [.o 3<|ar ((1-(x:Int))-1) (1-((x+1:Nat):Int)) aZ]) aM)
  (λhx=>by
    exact jg (af [tF 9 (0<=(1-((2:Nat):Int))) aI]) aM) aQ:ki 2 Tryz.f59 (VC 0) (.exit 0) ⟨29,true,[],[]⟩)<|af [.o 3<|ar ((([0,0].length:Nat):Int)-1) (1-((0:Nat):Int)) aZ]])
def apv(v:Nat)(hv:v<4294967296):iA 24 [.v<|.int .u64 (v:Int)]<|iG [v,0]:=
 iM (ae [.o 4 (.int<|tX _:aj (.v<|.int .u32<|IntKind.u32.wrap (v:Int))<|.v<|.int .u32 ((v%4294967296:Nat):Int)),.a (aI:0<=(32:Int)/\(32:Int)<=((64:Nat):Int)),.o 6 (.int<|Al _:aj (.v<|.int .u64<|(v:Int)/2^32)<|.v<|.int .u64 ((v/4294967296:Nat):Int)),.o 7 (.int<|tX _:aj (.v<|.int .u32<|IntKind.u32.wrap ((v/4294967296:Nat):Int))<|.v<|.int .u32 (((v/4294967296)%4294967296:Nat):Int))]<|rR (iG [v,0]) (amF hv:E.le (.sl false 2 1 λi_ j_=>[.v<|.int .u32 ((v%4294967296:Nat):Int),.v<|.int .u32 (((v/4294967296)%4294967296:Nat):Int)].getD (i_*1+j_)<|.v<|.bool false)<|iG [v,0]))
def afA(v:Nat)(L:List Nat)(p:iA 59 [iG L]<|iP (iE v:Int))(A:Option Addr)(c:Nat)(w:World)(hs:Sl w A c L)(hT:Tb w):
 Calls prog 59 #[.slice A L.length c] w (λe w'=>e = .returned (.int .i64 (iE v:Int))/\iY w w'):=by
 refine(p.run w (λ_=>False) [_] hT (λ_ h=>h.elim)<|.cons (zn (λ_ h=>h.elim) (iY.refl w) hs)<|.nil _ _ _).mono ?_;rintro e w' ⟨x,rfl,hb,hr⟩;obtain rfl:=jd.lh hr;exact⟨rfl,hb⟩
def afq(v:Nat)(L:List Nat)(i:Nat)(p:iA 60 [iG L,iP (i:Int)]<|iP ((v/2^i%2:Nat):Int))(A:Option Addr)(c:Nat)(w:World)(hs:Sl w A c L)(hT:Tb w):
 Calls prog 60 #[.slice A L.length c,.int .i64 (i:Int)] w (λe w'=>e = .returned (.int .i64 ((v/2^i%2:Nat):Int))/\iY w w'):=by
 refine(p.run w (λ_=>False) [_,_] hT (λ_ h=>h.elim)<|.cons (zn (λ_ h=>h.elim) (iY.refl w) hs)<|.cons (.v _)<|.nil _ _ _).mono ?_;rintro e w' ⟨x,rfl,hb,hr⟩;obtain rfl:=jd.lh hr;exact⟨rfl,hb⟩
section
variable(neg:Bool)(v:Nat)(L:List Nat)
def amR(e:Int)(A:Option Addr)(c:Nat)(w:World)(h0:v≠0)(pb:iA 59 [iG L]<|iP (iE v:Int))(pt:∀ i:Nat,i<=1000000000->iA 60 [iG L,iP (i:Int)] (iP ((v/2^i%2:Nat):Int)))(hs:Sl w A c L)(hT:Tb w)(hl:(iB v).length<=1000)(lG:-100000<=e)(kW:e<=100000):
 Calls prog 23 #[.bool neg,.slice A L.length c,.int .i64 e] w (vv w<|canon neg v e):=by
 have nD:=aum (show canon neg v e=⟨neg,v/2^kq v,e+kq v⟩by unfold canon;rw[bw h0]);have hZ:=Wq h0;have hB:iE v<=32*1000:=by
  have:=wF<|bB (iB v).length;rw[oz]at this;have:=lE.2 this;omega
 have qp:(((iE v:Int)==0))=false:=bk aI;have xT:=aum λA c w (hs:Sl w A c L) hT=>afA v L pb A c w hs hT;have qF:=aum λi A c w (hs:Sl w A c L) hT hi=>afq v L i (pt i hi) A c w hs hT;obtain⟨m,hm⟩:∃ m,m=L.length:=⟨_,rfl⟩
 rw[<-hm]at xT qF ⊢;have HM:=aum hm;clear hm;obtain⟨n,hn⟩:∃ n,n=iE v:=⟨_,rfl⟩
 rw[<-hn]at xT hZ hB qp;have HN:=aum hn;clear hn;obtain⟨Z,Ds⟩:∃ Z,Z=kq v:=⟨_,rfl⟩
 rw[<-Ds]at hZ nD;have HZ:=aum Ds;clear Ds;go_enter func23,ntmps23;go_wp2_with fail;refine(xT.out A c _ (hs.alloc _)<|hT.alloc _).mono ?_;rintro e' w1 ⟨rfl,lu⟩;go_wp2;have sQ:∀ k,k<Z->v/2^k%2=0:=λk hk=>by rw[HZ.out]at hk;exact OH h0 hk
 have rU:v/2^Z%2=1:=by rw[HZ.out];exact OG h0
 have HZ1:=aum sQ;clear sQ;have HZ2:=aum rU;clear rU;have sO:=hs.below<|(iY.alloc w _).trans lu;have Qc:=hT.below<|(iY.alloc w _).trans lu;have B9:=(iY.alloc w _).trans lu;go_loopw [8] (λi wr=>∃ k:Nat,k<=Z/\i = .int .i64 (k:Int)/\iY w1 wr) (λi _=>Z-(intOf i).toNat)
 case atStart=>exact⟨0,cA _,rfl,iY.refl _⟩
 case round=>
  obtain⟨k,hk,rfl,mq⟩:=hrel;have kZ:=sO.below mq;have we:=Qc.below mq;have xY:=B9.trans mq;go_wp2_with fail;refine(qF.out k A c _ kZ we aI).mono ?_;rintro e'' w3 ⟨rfl,ph⟩;by_cases QK:k<Z
  .rw [HZ1.out k QK];have yX:IntKind.i64.wrap ((k:Int)+1)=((k+1:Nat):Int):=by rw[IntKind.wrap_i64];omega
   go_wp2;go_roundw
   case rel=>exact⟨k+1,aI,by go_num,mq.trans ph⟩
   case measure=>simp[intOf];omega
  .obtain rfl:k=Z:= aI ;rw[HZ2.out];have L6:=xY.trans ph;have DN:=kZ.below ph;have hT3:=we.below ph;have IJ:IntKind.i64.wrap (e+(k:Int))=e+(k:Int):=by rw[IntKind.wrap_i64];omega
   go_wp2;have AK:=jO.new w3 neg none 0 0<|e+(k:Int);have IL:=lu.trans<|mq.trans ph;have hg:=IL.size;have IK:=IL.trans<|iY.alloc w3<|.cells #[.bool neg,.slice none 0 0,.int .i64<|e+(k:Int)] 31;obtain⟨g9,Io⟩:∃ g,g=w3.heap.size:=⟨_,rfl⟩
   rw[<-Io]at AK hg ⊢;generalize w3.alloc (.cells #[.bool neg,.slice none 0 0,.int .i64<|e+(k:Int)] 31)=w5 at *
   clear Io;have vh:=hs.alloc<|.cells #[.bool false,.slice none 0 0,.int .i64 0] 31;have Qf:=hT.alloc<|.cells #[.bool false,.slice none 0 0,.int .i64 0] 31;have ON:=jO.new w false none 0 0 0;generalize hW:w.alloc (.cells #[.bool false,.slice none 0 0,.int .i64 0] 31)=W at *
   have Rc:iY w W:=hW▸iY.alloc w _;have Dt:g9<w5.heap.size:=AK.lt;obtain⟨V,hV⟩:∃ V,V=v/2^k:=⟨_,rfl⟩
   have HV:=aum hV;rw[<-hV]at nD;have hVb:iE V+k=n:=by rw[hV,OK<|by rw[<-HN.out];omega,<-HN.out];omega
   have Ii:∀ i,i<1000000->v/2^(k+i)%2=V/2^i%2:=λi _=>by rw[hV,dc,<-bG]
   have HBV:=aum Ii;clear Ii hV;have Ie:∀ y,y<(iB V).length↔32*y<iE V:=λy=>FK
   have HYB:=aum Ie;clear Ie;obtain⟨Y,hY⟩:∃ Y,Y=(iB V).length:=⟨_,rfl⟩
   rw[<-hY]at HYB;have HY:=aum hY;clear hY;obtain⟨E9,Hz⟩:∃ E9,E9=e+(k:Int):=⟨_,rfl⟩
   rw[<-Hz]at nD AK;clear Hz;go_loopw [10] (λi wr=>∃ (y:Nat) (O:List Nat) (OA:Option Addr) (Oc:Nat),y<=Y/\i = .int .i64 ((k+32*y:Nat):Int)/\O=(iB V).take y/\Ow wr w5.heap.size (.slice OA O.length Oc) O/\jO wr g9 neg OA O.length Oc E9/\iY W wr/\w5.heap.size<=wr.heap.size) (λi _=>k+32*Y-(intOf i).toNat)
   case atStart=>exact⟨0,[],none,0,cA _,by go_num,aP,Ow.nil _ _,AK,IK,bB _⟩
   case round=>
    obtain⟨y,O,OA,Oc,hy,rfl,hO,lX,jz,wB,lJ⟩:=hrel;have Q6:=vh.below wB;have Ff:=Qf.below wB;obtain⟨I,hI⟩:∃ I,I=k+32*y:=⟨_,rfl⟩
    rw[<-hI];by_cases je:y<Y
    .have h1:=(HYB.out y).1 je;have ht:decide ((I:Int)<n)=true:=bC aI;have xW:I<n:= aI ;have FC:decide (I<n)=true:=bC xW;have hIb:I<=40000:= aI ;have hD:iV V y<4294967296:=qB V y;have Ih:∀ j,j<32->v/2^(I+j)%2=iV V y/2^j%2:=λj hj=>by
      rw[hI,dm,HBV.out _ aI,Pd hj]
     have HBD:=aum Ih;clear Ih;have HI:=aum hI;clear hI;go_wp2;go_loopw [11,12] (λx q wj=>∃ j:Nat,j<=32/\x = .int .u32 ((iV V y%2^j:Nat):Int)/\q = .int .i64 (j:Int)/\iY wr wj) (λ_ q _=>32-(intOf q).toNat)
     case atStart=>exact⟨0,cA _,by simp[dz],rfl,iY.refl _⟩
     case round=>
      obtain⟨j,hj,rfl,rfl,qG⟩:=hrel;by_cases BX:j<32
      .have A9:decide ((j:Int)<32)=true:=bC aI ;have yX:IntKind.i64.wrap ((I:Int)+j)=((I+j:Nat):Int):=by rw[IntKind.wrap_i64];omega
       go_wp2_with fail;refine(qF.out (I+j) A c _ (Q6.below qG) (Ff.below qG) aI).mono ?_;rintro e3 w6 ⟨rfl,Qu⟩;rw[HBD.out j BX];have Qs:iV V y/2^j%2<=1:= aI ;have ho:=MD BX hD;generalize iV V y/2^j%2=b at *
       have DG:bits .or .u32 ((iV V y:Int)%2^j) ((b:Int)*2^j)=((iV V y%2^(j+1):Nat):Int):=by rw[<-ho];congr 1<;>simp
       have HO:=aum DG;clear ho DG;have hcv:IntKind.u32.wrap (b:Int)=b:=by rw[IntKind.wrap_u32];omega
       have B7:=Nc BX Qs;have hw4:IntKind.i64.wrap ((j:Int)+1)=((j+1:Nat):Int):=by rw[IntKind.wrap_i64];omega
       go_wp2;go_roundw
       case rel=>exact⟨j+1,aI,congrArg (Value.int .u32) HO.out,by go_num,qG.trans Qu⟩
       case measure=>simp[intOf];omega
      .obtain rfl:j=32:= aI ;have Ij:iV V y%2^32=iV V y:=cw (by simpa using hD);rw[Ij];have Du:=jz.ext qG;have DI:=lX.ext qG;have b1:=Du.c1;have f1:=Du.fr 1;have H9:O++[iV V y]=(iB V).take (y+1):=by
        have yV:y<(iB V).length:=by rw[<-HY.out];exact je
        have:=Bg V y;rw[bJ,bS yV]at this;rw[iw,bS yV,hO,<-this];rfl
       have HON:=aum H9;clear H9;clear hO HBD Ij;generalize iV V y=z at *
       have hO4:O.length<=3000:=by
        have:=HON.out▸(show(O++[z]).length=O.length+1 by simp);rw[cS]at this;omega
       have Q7:O.length+[z].length<=10000000000:= aV ;have QO:w5.heap.size<=wr.heap.size:=b9 lJ qG.size;have FG:=wB.trans qG;have hw5:IntKind.i64.wrap ((I:Int)+32)=((I+32:Nat):Int):=by rw[IntKind.wrap_i64];omega
       have Qj:W.heap.size<=w5.heap.size:=IK.size;go_wp2_with (at_builtin;go_must (refine si aO _ _ aO w5.heap.size _ O aO (DI.alloc _) _ _ _ [z] aO aO (Sl.uy _ _ z aI aI) Q7 (qW QO _) ?_);intro v' w7 Iz Dw akS;obtain⟨OA7,Oc7,rfl,alw⟩:=Iz.sl;have Da:=(Du.alloc _).grown (DI.alloc _) Dw Dt;have b7:=Da.c1;have f7:=Da.fr 1)
       go_roundw
       case rel=>
        refine⟨y+1,O++[z],OA7,Oc7,aI,congrArg (Value.int .i64)<|by have:=HI.out;omega,HON.out,Iz.zO Dt 1 _,(by rw[c9];exact Da.acS _ _ _),((FG.trans<|iY.alloc _ _).own _ _ ((DI.alloc _).mono Qj) Dw).setCell hg _,?_⟩;have:=Dw.size;simp[World.setCell]at this ⊢;omega
       case measure=>have:=HI.out;simp[intOf];omega
    .have hyY:y=Y:= aI ;have xW:¬I<n:=by
      intro q;have:=(HYB.out y).2 aI;omega
     have ht:decide ((I:Int)<n)=false:=bE aI;have FC:decide (I<n)=false:=bE xW;have P8:O=iB V:=by rw[hO,dg<|by rw[<-HY.out];omega]
     obtain⟨OA',Oc',heq,vc⟩:=lX.sl;cases heq;have b0:=jz.c0;have b1:=jz.c1;have b2:=jz.c2;have tG:=ON.ext wB;have c0:=tG.c0;have c1:=tG.c1;have c2:=tG.c2;have f0:=tG.fr 0;have f1:=tG.fr 1;have f2:=tG.fr 2;clear hI hO HYB;go_wp2;rw[nD.out];subst P8;exact uc rfl rfl rfl (tG.set _ _ _ _ _) rfl (tG.uE vc _ _ _ _ _) (jO.tV (Rc.trans wB) (bB _) _ _ _ _ _)
def amS(hL:jc L)(e:Int)(h0:v≠0)(pb:iA 59 [iG L]<|iP (iE v:Int))(pt:∀ i:Nat,i<=1000000000->iA 60 [iG L,iP (i:Int)] (iP ((v/2^i%2:Nat):Int)))(hl:(iB v).length<=1000)(lG:-100000<=e)(kW:e<=100000):iA 23 [bP neg,iG L,iP e]<|iF<|canon neg v e:=by
 refine⟨call23,λw B vs hK hB hr=>?_⟩;obtain⟨v1,vs,rfl,h1,hr⟩:=hr.nc;obtain⟨v2,vs,rfl,h2,hr⟩:=hr.nc;obtain⟨v3,vs,rfl,h3,hr⟩:=hr.nc;obtain rfl:=hr.rz;obtain rfl:=jd.lh h1;obtain rfl:=jd.lh h3;obtain⟨A,c,rfl,s1⟩:=xy hL h2;exact(amR neg v L e A c w h0 pb pt s1 hK hl lG kW).mono λe w' h=>rd B w e w' hB h
end
end Go.Proofs.YtbbefgegdllpmaaGreatDoor
