/- Lemmas that the last file uses. -/
import Derived.Test.YtkjkcjhacddojaaGreatDoorM03
import Derived.MapKept
import Derived.DeepKeys
set_option linter.unusedSimpArgs false
set_option linter.unusedVariables false
set_option linter.defProp false
set_option maxHeartbeats 4000000
open Go.Proofs.Tryz
namespace Go.Proofs.YtkjkcjhacddojaaGreatDoor
open Go.RowKit Fp Pu
def Wo(m N:Nat)(x:Nat):PS:=⟨43,true,[(5,.e (ic (ia (kO m (2^((iq m+1)/2)) x)))),(0,.e (ic (ia m)))],[]⟩
def Wf(L M:List Nat)(hL:iK L)(hM:iK M)(h1:L.length<=3000)(h2:M.length<=3000):∃ S:List Nat,gZ 360 [ic L,ic M] (ic S)/\val S=val L+val M/\iK S/\S.length=max L.length M.length+1:=by
 obtain⟨n,hn⟩:∃ n,n=max L.length M.length+1:=⟨_,rfl⟩
 have iL:val L+val M<4294967296^n:=by
  have a:=mJ hL;have b:=mJ hM;have e:4294967296^n=4294967296^max L.length M.length*4294967296:=by rw[hn,bH]
  have c:=bN (show 0<4294967296 by decide) (Nat.le_max_left L.length M.length);have d:=bN (show 0<4294967296 by decide) (Nat.le_max_right L.length M.length);omega
 refine⟨iT (val L+val M) n,?_,by rw[vo,bU iL],sK _ _,by rw[nf,hn]⟩;refine Bs hL hM call360 (λA c B d w h k _=>Wq A B c d L M w h k h1 h2) λB w e w' hB r=>?_
 obtain⟨S,v1,v2,v3,r⟩:=r;rw[Du v2 (by rw[v3,hn]) v1];exact rl B w e w' hB r
def aiw(L:List Nat)(n:Nat)(hL:iK L)(h1:L.length<=3000)(hn:n<=65536):∃ S:List Nat,gZ 275 [ic L,iP (n:Int)] (ic S)/\val S=val L*2^n/\iK S:=by
 obtain⟨m,hm⟩:∃ m,m=n/32+(ix L).length+1:=⟨_,rfl⟩
 have iL:val L*2^n<4294967296^m:=by
  have a:=mJ hL.ix;rw[oZ]at a;have e:4294967296^m=4294967296^(ix L).length*2^(32*(n/32+1)):=by
   rw[hm,(aE:n/32+(ix L).length+1=(ix L).length+(n/32+1)),bE,Nat.pow_mul]
  rw[e];exact aqC a (bN aG aE) (bF aG)
 refine⟨iT (val L*2^n) m,?_,by rw[vo,bU iL],sK _ _⟩;refine GI hL call275 (λA c w h _=>Ws A c L n w h aE hn) λA c B w e w' h hB r=>?_
 obtain⟨S,v1,v2,v3,r⟩:=r;rw[Du v2 (by rw[v3,hm]) v1];exact rl B w e w' hB r
def Ar(L:List Nat):List Nat:=qM (1%32) ((ix L).drop (1/32))
def Wm(L:List Nat)(hL:iK L)(h1:L.length<=3000):gZ 356 [ic L,iP 1] (ic (Ar L)):=
 GI (n:=((1:Nat):Int)) hL call356 (λA c w h _=>Ox A c L 1 w h aE aG) λA c B w e w' h hB r=>rl B w e w' hB r
def YO{L:List Nat}(hL:iK L):ix (Ar L)=ia (val L/2):=by
 unfold Ar;rw[qN (Bp _ _),KZ hL.ix,oZ]
def Wx(m x:Nat):pN m x<=max x (m/x):=by
 unfold pN;generalize m/x=q;omega
def VH(a b:Nat):(ia (max a b)).length<=max (ia a).length (ia b).length:=by
 rcases Nat.le_total a b with h|h
 .rw [Nat.max_eq_right h];omega
 .rw [Nat.max_eq_left h];omega
def air(m:Nat)(h:(ia m).length<=256):gZ 272 [ic (ia m)] (.iC [ic (ia m),iP 0]):=by
 have:=Wh (ia m) (kR m) (by rw[wJ];exact h);rwa[wJ]at this
def aiy(m N:Nat)(h1:(ia m).length<=256)(h0:m≠0)(ny:∀ k,k<N->pN m (kO m (2^((iq m+1)/2)) k)<(kO m (2^((iq m+1)/2)) k))(qS:(kO m (2^((iq m+1)/2)) N)<=pN m (kO m (2^((iq m+1)/2)) N))(mN:∀ k,k<=N->0<(kO m (2^((iq m+1)/2)) k)/\(kO m (2^((iq m+1)/2)) k)<=(2^((iq m+1)/2))):gZ 418 [ic (ia m)] (.iC [ic (ia (kO m (2^((iq m+1)/2)) N)),iP 0]):=by
 have bm:=nv h0;have bl:=wR h1;have z0:(ia (2^((iq m+1)/2))).length<=256:=nJ (by rw[show(2^((iq m+1)/2))=1*2^((iq m+1)/2)by omega,re aG];show 1+_<=_;omega);have hlen:∀ k,k<=N->(ia (kO m (2^((iq m+1)/2)) k)).length<=256:=λk hk=>bG (mU (mN k hk).2) z0
 obtain⟨S0,B3,sv,oS0⟩:=aiw (ia 1) ((iq m+1)/2) (kR 1) aQ aE;rw[kf,ck]at sv;have hS0:gZ 274 [ic S0] (ic (ia (2^((iq m+1)/2)))):=by
  have:=uj S0 oS0;rwa[qN oS0,sv]at this
 have zN:=hlen N aE;exact ak call418 func418 (af [.c (ais (ia m) aF),ag [ic (ia m)] (sU _ aE),ai 15 ((iq m:Int)==0) (nC aE),.o 16 (.e sE:aj (.sl false 1 1 λi_ j_=>[.v (.int .u32 1)].getD (i_*1+j_) (.v (.bool false))) (ic (ia 1))),iz ((iq m:Int)+1) aE,.a (aE:0<(2:Int)),
  iz (((iq m)+1:Nat):Int) aE,ag [ic (ia 1),iP ((((iq m)+1)/2:Nat):Int)] B3,ag [ic S0] hS0,.s (Sp.jv (Wo m N) 0 N aE (λx hx jU=>by
    obtain⟨xl,xu⟩:=mN x aE;obtain⟨Tq,Sq,yi,dT,dS,oT,oS,lT,lS⟩:=Oq (ia m) (ia (kO m (2^((iq m+1)/2)) x)) (kR m) (kR _) aE (by have:=hlen x aE;omega) (by rw[kf];omega);rw[kf,kf]at dT;have zx:=hlen x aE;have MQ:gZ 274 [ic Tq] (ic (ia (m/(kO m (2^((iq m+1)/2)) x)))):=by
     have:=uj Tq oT;rwa[qN oT,dT]at this
    have zt:(ia (m/(kO m (2^((iq m+1)/2)) x))).length<=257:=bG (mU (bV _ _)) aE;obtain⟨Uq,hU,uv,oU,lU⟩:=Wf (ia (kO m (2^((iq m+1)/2)) x)) (ia (m/(kO m (2^((iq m+1)/2)) x))) (kR _) (kR _) aE aE;rw[kf,kf]at uv;have hV:=Wm Uq oU aE;have DM:gZ 274 [ic (Ar Uq)] (ic (ia (pN m (kO m (2^((iq m+1)/2)) x)))):=by
     have:=uj (Ar Uq) (Bp _ _);rwa[YO oU,uv]at this
    have zn:(ia (pN m (kO m (2^((iq m+1)/2)) x))).length<=257:=bG (mU (Wx m (kO m (2^((iq m+1)/2)) x))) (by have:=VH (kO m (2^((iq m+1)/2)) x) (m/(kO m (2^((iq m+1)/2)) x));omega);exact iG (ae [ag [ic (ia m),ic (ia (kO m (2^((iq m+1)/2)) x))] yi,ag [ic Tq] MQ,ag [ic (ia (kO m (2^((iq m+1)/2)) x)),ic (ia (m/(kO m (2^((iq m+1)/2)) x)))] hU,ag [ic Uq,iP 1] hV,ag [ic (Ar Uq)] DM,ag [ic (ia (pN m (kO m (2^((iq m+1)/2)) x))),ic (ia (kO m (2^((iq m+1)/2)) x))] (Ad _ _ aE aE),tF 37 (0<=(kE (pN m (kO m (2^((iq m+1)/2)) x)) (kO m (2^((iq m+1)/2)) x))) (by have:=ny x aE;have:=Dr.2 this;omega)]<|.e (af [.o 5 (.e (.iM rfl):aj (ic (ia (pN m (kO m (2^((iq m+1)/2)) x)))) (ic (ia (kO m (2^((iq m+1)/2)) (x+1)))))])) aI)
  (λhx=>by
    obtain⟨xl,xu⟩:=mN N aE;obtain⟨Tq,Sq,yi,dT,dS,oT,oS,lT,lS⟩:=Oq (ia m) (ia (kO m (2^((iq m+1)/2)) N)) (kR m) (kR _) aE (by have:=hlen N aE;omega) (by rw[kf];omega);rw[kf,kf]at dT;have zx:=hlen N aE;have MQ:gZ 274 [ic Tq] (ic (ia (m/(kO m (2^((iq m+1)/2)) N)))):=by
     have:=uj Tq oT;rwa[qN oT,dT]at this
    have zt:(ia (m/(kO m (2^((iq m+1)/2)) N))).length<=257:=bG (mU (bV _ _)) aE;obtain⟨Uq,hU,uv,oU,lU⟩:=Wf (ia (kO m (2^((iq m+1)/2)) N)) (ia (m/(kO m (2^((iq m+1)/2)) N))) (kR _) (kR _) aE aE;rw[kf,kf]at uv;have hV:=Wm Uq oU aE;have DM:gZ 274 [ic (Ar Uq)] (ic (ia (pN m (kO m (2^((iq m+1)/2)) N)))):=by
     have:=uj (Ar Uq) (Bp _ _);rwa[YO oU,uv]at this
    have zn:(ia (pN m (kO m (2^((iq m+1)/2)) N))).length<=257:=bG (mU (Wx m (kO m (2^((iq m+1)/2)) N))) (by have:=VH (kO m (2^((iq m+1)/2)) N) (m/(kO m (2^((iq m+1)/2)) N));omega);exact iG (af [ag [ic (ia m),ic (ia (kO m (2^((iq m+1)/2)) N))] yi,ag [ic Tq] MQ,ag [ic (ia (kO m (2^((iq m+1)/2)) N)),ic (ia (m/(kO m (2^((iq m+1)/2)) N)))] hU,ag [ic Uq,iP 1] hV,ag [ic (Ar Uq)] DM,ag [ic (ia (pN m (kO m (2^((iq m+1)/2)) N))),ic (ia (kO m (2^((iq m+1)/2)) N))] (Ad _ _ aE aE),tT 37 (0<=(kE (pN m (kO m (2^((iq m+1)/2)) N)) (kO m (2^((iq m+1)/2)) N))) (by have:=qS;have:¬kE (pN m (kO m (2^((iq m+1)/2)) N)) (kO m (2^((iq m+1)/2)) N)<0:=λq=>absurd (Dr.1 q) aE;omega),ag [ic (ia (kO m (2^((iq m+1)/2)) N))] (air _ aE)]) aI) aM:ju 7 f418 (Wo m N 0) .ret ⟨43,true,[(3,.e (iP 0)),(2,.e (ic (ia (kO m (2^((iq m+1)/2)) N))))],[]⟩) (af [.o 5 (.e (.iM rfl):aj (ic (ia (2^((iq m+1)/2)))) (ic (ia (kO m (2^((iq m+1)/2)) 0))))])]) 
def Wp(m s:Nat)(h1:(ia m).length<=256)(h0:m≠0)(hr:uV m s):gZ 418 [ic (ia m)] (.iC [ic (ia s),iP 0]):=by
 obtain⟨N,_,a,b,c,d⟩:=alG hr (en h0) (alI m hr);have hs:0<s:=by
  apply ca;intro h;obtain rfl:s=0:= aE ;have:=hr.2;omega
 have:=aiy m N h1 h0 a b λk hk=>⟨by have:=(d k hk).1;omega,(d k hk).2⟩
 rwa[c]at this
noncomputable def mo(m:Nat):Nat:=Classical.choose (Yk m)
def CX(m:Nat):uV m (mo m):=dr (Yk m)
def s5(d:Dy)(p:Nat):Nat:=if Int.tmod (d.e-((2*p+4-iq d.m:Nat):Int)) 2=0 then 2*p+4-iq d.m else 2*p+4-iq d.m+1
noncomputable def vg(d:Dy)(p:Nat)(up:Bool):Dy:=ve (d.m*2^s5 d p) (mo (d.m*2^s5 d p)) ((d.e-(s5 d p:Int))/2) p up
noncomputable def vf(d:Dy)(p:Nat)(up:Bool):Int:=Au (d.m*2^s5 d p) (mo (d.m*2^s5 d p)) ((d.e-(s5 d p:Int))/2) p up
def KC(d:Dy)(p:Nat):d.e-(s5 d p:Int)=2*((d.e-(s5 d p:Int))/2):=by
 have key:∀ x:Int,Int.tmod x 2=0↔x%2=0:=λx=>by rw[<-Int.dvd_iff_tmod_eq_zero,<-Int.dvd_iff_emod_eq_zero]
 have:(d.e-(s5 d p:Int))%2=0:=by
  unfold s5;split
  .rename_i h;exact(key _).1 h
  .rename_i h;have h2:¬(d.e-((2*p+4-iq d.m:Nat):Int))%2=0:=λq=>h ((key _).2 q)
   clear h;omega
 omega
def Y2(s:Nat):s<=s*s:=by
 by_cases h:s=0
 .subst h;exact cj _
 .exact gN s (en h)
def Y4{d:Dy}(hn:d.neg=false)(K:Nat){E:Int}(h:d.e-(K:Int)=2*E):((d.m*2^K:Nat):Rat)*(P2 E*P2 E)=d.q:=by
 rw[qX,hn,bu aG,<-qF,dt,<-vv,eV,<-qF,show(K:Int)+(E+E)=d.e by omega]
def Px{m s p:Nat}(h:uV m s)(hm:2*p+4<=iq m):p<iq s:=by
 apply ca;intro hb;have h1:s<2^iq s:=pK s;have h2:2^iq s<=2^p:=bN aG aE;have h3:=dp (aE:s+1<=2^p) (aE:s+1<=2^p);rw[<-bE]at h3;have h4:=h.2;have h5:iq m<=p+p:=ln.2 (bW h4 h3);omega
def Yl(m s:Nat):((kE (s*s) m) != 0)=decide (s*s≠m):=by
 unfold kE;generalize s*s=q;rcases Nat.lt_trichotomy q m with h|h|h
 .rw [bw h,bA aE];rfl
 .subst h;simp
 .rw [bu aE,bw h,bA aE];rfl
def ak0(d:Dy)(p:Nat)(up:Bool)(hd:d.ik)(hn:d.neg=false)(h0:d.m≠0)(iw:8<=p)(ij:p<=512)(qf:Int.tmod (d.e-((2*p+4-(iq d.m):Nat):Int)) 2=0):gZ 398 [ie d,iP p,bP up] (.iC [ie (vg d p up),iP (vf d p up)]):=by
 have hl:=hd.ia;have hx:=hd.exp;have hr:=hd.range.resolve_left h0;have bp:=nv h0;have hK:s5 d p=(2*p+4-(iq d.m)):=by unfold s5;rw[bw qf]
 have he:=KC d p;rw[hK]at he;have hb:=re h0 (2*p+4-(iq d.m));have z1:(ia (d.m*2^(2*p+4-(iq d.m)))).length<=256:=nJ aE;have tp:(d.m*2^(2*p+4-(iq d.m)))≠0:=dV h0 (ev (bF aG));have sQ:=CX (d.m*2^(2*p+4-(iq d.m)));have Cj:=Px sQ (p:=p) aE;have z2:(ia (mo (d.m*2^(2*p+4-(iq d.m)))*mo (d.m*2^(2*p+4-(iq d.m))))).length<=256:=bG (mU sQ.1) z1;have z3:(ia (mo (d.m*2^(2*p+4-(iq d.m))))).length<=256:=bG (mU (bG (Y2 _) sQ.1)) z1;have I0:mo (d.m*2^(2*p+4-(iq d.m)))≠0\/mo (d.m*2^(2*p+4-(iq d.m)))=0/\(d.e-((2*p+4-(iq d.m):Nat):Int))/2=0/\((kE (mo (d.m*2^(2*p+4-(iq d.m)))*mo (d.m*2^(2*p+4-(iq d.m)))) (d.m*2^(2*p+4-(iq d.m)))) != 0)=false:=.inl (λq=>by rw[q,rq]at Cj;omega);have sO:((kE (mo (d.m*2^(2*p+4-(iq d.m)))*mo (d.m*2^(2*p+4-(iq d.m)))) (d.m*2^(2*p+4-(iq d.m)))) != 0)=true->p<iq (mo (d.m*2^(2*p+4-(iq d.m)))):=λ_=>Cj
 exact ak call398 func398 (ae [.o 17 (.e (L9 _):aj (.sl true 1 3 λi_ j_=>(jq d).getD (i_*3+j_) (.v (.bool false))) (nP [d])),ag [iP p,nP [d]] (Ph _ _ aF aE aE),ah 20 ((0:Int)==0) aG,ai 23 d.neg hn,ai 26 ((0:Int) != 0) aG,ai 31 (((ia d.m).length:Int)==0) (nC (ql h0)),
  iz (2*(p:Int)) aE,iz (((2*p:Nat):Int)+4) aE,ag [ie d] (IG _ aF),iz ((((2*p)+4:Nat):Int)-(iq (Dy.m d):Int)) aE,.o 41 (aq (if((((2*p)+4:Nat):Int)-(iq (Dy.m d):Int))>0 then((((2*p)+4:Nat):Int)-(iq (Dy.m d):Int))else 0) ((2*p+4-(iq d.m):Nat):Int) aR),
  iz (d.e-((2*p+4-(iq d.m):Nat):Int)) aE,.a (aE:0<(2:Int)),ai 47 ((Int.tmod (d.e-((2*p+4-(iq d.m):Nat):Int)) 2) != 0) (by simpa using qf),.c (wE d.m (2*p+4-(iq d.m)) aE aE aE),ag [ic (ia (d.m*2^(2*p+4-(iq d.m))))] (Wp _ _ aE aF (CX _)),ag [ic (ia (mo (d.m*2^(2*p+4-(iq d.m))))),ic (ia (mo (d.m*2^(2*p+4-(iq d.m)))))] (Af _ _ aE aE aE),
  iz (d.e-((2*p+4-(iq d.m):Nat):Int)) aE,.a (aE:0<(2:Int)),iz (d.e-((2*p+4-(iq d.m):Nat):Int)) aE,.o 70 (aq (Int.tdiv (d.e-((2*p+4-(iq d.m):Nat):Int)) 2) ((d.e-((2*p+4-(iq d.m):Nat):Int))/2) (by generalize hy:(d.e-((2*p+4-(iq d.m):Nat):Int))/2=y at *;rw[he];exact aqD _ aG)),ag [ic (ia ((mo (d.m*2^(2*p+4-(iq d.m))))*(mo (d.m*2^(2*p+4-(iq d.m)))))),ic (ia (d.m*2^(2*p+4-(iq d.m))))] (Ad _ _ aE aE),ag [.agg [ic (ia (mo (d.m*2^(2*p+4-(iq d.m))))),iP ((d.e-((2*p+4-(iq d.m):Nat):Int))/2),bP ((kE ((mo (d.m*2^(2*p+4-(iq d.m))))*(mo (d.m*2^(2*p+4-(iq d.m))))) (d.m*2^(2*p+4-(iq d.m)))) != 0)],iP p,bP up] (Ez _ _ _ _ _ aE aF aE aE aE aE aF)]<|rQ (.iC [ie (jY false (mo (d.m*2^(2*p+4-(iq d.m)))) ((d.e-((2*p+4-(iq d.m):Nat):Int))/2) ((kE ((mo (d.m*2^(2*p+4-(iq d.m))))*(mo (d.m*2^(2*p+4-(iq d.m))))) (d.m*2^(2*p+4-(iq d.m)))) != 0) p up),iP (jP false (mo (d.m*2^(2*p+4-(iq d.m)))) ((d.e-((2*p+4-(iq d.m):Nat):Int))/2) ((kE ((mo (d.m*2^(2*p+4-(iq d.m))))*(mo (d.m*2^(2*p+4-(iq d.m))))) (d.m*2^(2*p+4-(iq d.m)))) != 0) p up)]) (.iC [ie (vg d p up),iP (vf d p up)]) (by unfold vg vf ve Au;rw[hK,Yl])) 
def ak1(d:Dy)(p:Nat)(up:Bool)(hd:d.ik)(hn:d.neg=false)(h0:d.m≠0)(iw:8<=p)(ij:p<=512)(qf:¬Int.tmod (d.e-((2*p+4-(iq d.m):Nat):Int)) 2=0):gZ 398 [ie d,iP p,bP up] (.iC [ie (vg d p up),iP (vf d p up)]):=by
 have hl:=hd.ia;have hx:=hd.exp;have hr:=hd.range.resolve_left h0;have bp:=nv h0;have hK:s5 d p=((2*p+4-(iq d.m))+1):=by unfold s5;rw[bu qf]
 have he:=KC d p;rw[hK]at he;have hb:=re h0 ((2*p+4-(iq d.m))+1);have z1:(ia (d.m*2^((2*p+4-(iq d.m))+1))).length<=256:=nJ aE;have tp:(d.m*2^((2*p+4-(iq d.m))+1))≠0:=dV h0 (ev (bF aG));have sQ:=CX (d.m*2^((2*p+4-(iq d.m))+1));have Cj:=Px sQ (p:=p) aE;have z2:(ia (mo (d.m*2^((2*p+4-(iq d.m))+1))*mo (d.m*2^((2*p+4-(iq d.m))+1)))).length<=256:=bG (mU sQ.1) z1;have z3:(ia (mo (d.m*2^((2*p+4-(iq d.m))+1)))).length<=256:=bG (mU (bG (Y2 _) sQ.1)) z1;have I0:mo (d.m*2^((2*p+4-(iq d.m))+1))≠0\/mo (d.m*2^((2*p+4-(iq d.m))+1))=0/\(d.e-(((2*p+4-(iq d.m))+1:Nat):Int))/2=0/\((kE (mo (d.m*2^((2*p+4-(iq d.m))+1))*mo (d.m*2^((2*p+4-(iq d.m))+1))) (d.m*2^((2*p+4-(iq d.m))+1))) != 0)=false:=.inl (λq=>by rw[q,rq]at Cj;omega);have sO:((kE (mo (d.m*2^((2*p+4-(iq d.m))+1))*mo (d.m*2^((2*p+4-(iq d.m))+1))) (d.m*2^((2*p+4-(iq d.m))+1))) != 0)=true->p<iq (mo (d.m*2^((2*p+4-(iq d.m))+1))):=λ_=>Cj
 exact ak call398 func398 (ae [.o 17 (.e (L9 _):aj (.sl true 1 3 λi_ j_=>(jq d).getD (i_*3+j_) (.v (.bool false))) (nP [d])),ag [iP p,nP [d]] (Ph _ _ aF aE aE),ah 20 ((0:Int)==0) aG,ai 23 d.neg hn,ai 26 ((0:Int) != 0) aG,ai 31 (((ia d.m).length:Int)==0) (nC (ql h0)),
  iz (2*(p:Int)) aE,iz (((2*p:Nat):Int)+4) aE,ag [ie d] (IG _ aF),iz ((((2*p)+4:Nat):Int)-(iq (Dy.m d):Int)) aE,.o 41 (aq (if((((2*p)+4:Nat):Int)-(iq (Dy.m d):Int))>0 then((((2*p)+4:Nat):Int)-(iq (Dy.m d):Int))else 0) ((2*p+4-(iq d.m):Nat):Int) aR),
  iz (d.e-((2*p+4-(iq d.m):Nat):Int)) aE,.a (aE:0<(2:Int)),ah 47 ((Int.tmod (d.e-((2*p+4-(iq d.m):Nat):Int)) 2) != 0) (by simpa using qf),
  iz (((2*p+4-(iq d.m):Nat):Int)+1) aE,.c (wE d.m ((2*p+4-(iq d.m))+1) aE aE aE),ag [ic (ia (d.m*2^((2*p+4-(iq d.m))+1)))] (Wp _ _ aE aF (CX _)),ag [ic (ia (mo (d.m*2^((2*p+4-(iq d.m))+1)))),ic (ia (mo (d.m*2^((2*p+4-(iq d.m))+1))))] (Af _ _ aE aE aE),
  iz (d.e-(((2*p+4-(iq d.m))+1:Nat):Int)) aE,.a (aE:0<(2:Int)),iz (d.e-(((2*p+4-(iq d.m))+1:Nat):Int)) aE,.o 70 (aq (Int.tdiv (d.e-(((2*p+4-(iq d.m))+1:Nat):Int)) 2) ((d.e-(((2*p+4-(iq d.m))+1:Nat):Int))/2) (by generalize hy:(d.e-(((2*p+4-(iq d.m))+1:Nat):Int))/2=y at *;rw[he];exact aqD _ aG)),ag [ic (ia ((mo (d.m*2^((2*p+4-(iq d.m))+1)))*(mo (d.m*2^((2*p+4-(iq d.m))+1))))),ic (ia (d.m*2^((2*p+4-(iq d.m))+1)))] (Ad _ _ aE aE),ag [.agg [ic (ia (mo (d.m*2^((2*p+4-(iq d.m))+1)))),iP ((d.e-(((2*p+4-(iq d.m))+1:Nat):Int))/2),bP ((kE ((mo (d.m*2^((2*p+4-(iq d.m))+1)))*(mo (d.m*2^((2*p+4-(iq d.m))+1)))) (d.m*2^((2*p+4-(iq d.m))+1))) != 0)],iP p,bP up] (Ez _ _ _ _ _ aE aF aE aE aE aE aF)]<|rQ (.iC [ie (jY false (mo (d.m*2^((2*p+4-(iq d.m))+1))) ((d.e-(((2*p+4-(iq d.m))+1:Nat):Int))/2) ((kE ((mo (d.m*2^((2*p+4-(iq d.m))+1)))*(mo (d.m*2^((2*p+4-(iq d.m))+1)))) (d.m*2^((2*p+4-(iq d.m))+1))) != 0) p up),iP (jP false (mo (d.m*2^((2*p+4-(iq d.m))+1))) ((d.e-(((2*p+4-(iq d.m))+1:Nat):Int))/2) ((kE ((mo (d.m*2^((2*p+4-(iq d.m))+1)))*(mo (d.m*2^((2*p+4-(iq d.m))+1)))) (d.m*2^((2*p+4-(iq d.m))+1))) != 0) p up)]) (.iC [ie (vg d p up),iP (vf d p up)]) (by unfold vg vf ve Au;rw[hK,Yl])) 
def XX(d:Dy)(p:Nat)(up:Bool)(hd:d.ik)(hn:d.neg=false)(h0:d.m≠0)(iw:8<=p)(ij:p<=512):gZ 398 [ie d,iP p,bP up] (.iC [ie (vg d p up),iP (vf d p up)]):=by
 by_cases h:Int.tmod (d.e-((2*p+4-(iq d.m):Nat):Int)) 2=0
 .exact ak0 d p up hd hn h0 iw ij h
 .exact ak1 d p up hd hn h0 iw ij h
def akY(d:Dy)(p:Nat)(hd:d.ik)(hn:d.neg=false)(h0:d.m≠0)(iw:8<=p)(ij:p<=512):gZ 370 [ie d,iP p] (.iC [ie (vg d p false),iP (vf d p false)]):=
 ak call370 func370 (af [.c (XX d p false aF aF aF aE aE)]) 
def akZ(d:Dy)(p:Nat)(hd:d.ik)(hn:d.neg=false)(h0:d.m≠0)(iw:8<=p)(ij:p<=512):gZ 371 [ie d,iP p] (.iC [ie (vg d p true),iP (vf d p true)]):=
 ak call371 func371 (af [.c (XX d p true aF aF aF aE aE)]) 
def ag9(x:Iv)(p:Nat)(hx:x.ik)(iw:8<=p)(ij:p<=512)(xa:x.all=true):gZ 331 [ig x,iP p] (ig iu):=
 ak call331 func331 (af [.o 10 (.e (mP _):aj (.sl true 1 7 λi_ j_=>(iZ x).getD (i_*7+j_) (.v (.bool false))) (iA [x])),ag [iA [x]] (qj _ aF),ai 11 (!x.all) (by rw[xa];rfl),.c nS]) 
def aha(x:Iv)(p:Nat)(hx:x.ik)(iw:8<=p)(ij:p<=512)(xa:x.all=false)(h1:x.lo.jb<=0):gZ 331 [ig x,iP p] (ig iu):=by
 obtain⟨w1,w2⟩:=hx.kp;exact ak call331 func331 (af [.o 10 (.e (mP _):aj (.sl true 1 7 λi_ j_=>(iZ x).getD (i_*7+j_) (.v (.bool false))) (iA [x])),ag [iA [x]] (qj _ aF),ah 11 (!x.all) (by rw[xa];rfl),ag [iP p] (wi _),ah 15 (kC (p:Int)) (pe.2 ⟨aE,aE⟩),ag [ie x.lo] (pv _ aF),tB 22 (bA h1),.c nS]) 
def ahb(x:Iv)(p:Nat)(hx:x.ik)(iw:8<=p)(ij:p<=512)(xa:x.all=false)(h1:¬x.lo.jb<=0)(n1:x.lo.neg=false)(n2:x.hi.neg=false)(m1:x.lo.m≠0)(m2:x.hi.m≠0):gZ 331 [ig x,iP p] (ig (kX (vg x.lo p false) (vf x.lo p false) (vg x.hi p true) (vf x.hi p true))):=by
 obtain⟨w1,w2⟩:=hx.kp;exact ak call331 func331 (af [.o 10 (.e (mP _):aj (.sl true 1 7 λi_ j_=>(iZ x).getD (i_*7+j_) (.v (.bool false))) (iA [x])),ag [iA [x]] (qj _ aF),ah 11 (!x.all) (by rw[xa];rfl),ag [iP p] (wi _),ah 15 (kC (p:Int)) (pe.2 ⟨aE,aE⟩),ag [ie x.lo] (pv _ aF),tB 22 (bB h1),.c (akY x.lo p aF aF aF aE aE),.c (akZ x.hi p aF aF aF aE aE),.c (Cv (vg x.lo p false) (vg x.hi p true) (vf x.lo p false) (vf x.hi p true))]) 
def W1{d:Dy}(h:0<d.q):d.neg=false/\d.m≠0:=by
 have hm:d.m≠0:=λq=>by rw[qX,q]at h;simp at h
 refine⟨?_,hm⟩;cases hn:d.neg
 .rfl
 .rw [qX,hn,bw rfl]at h;have:=cv (show(0:Rat)<=(d.m:Rat)from di) (bZ (nO d.e))
  grind
def Y1{d:Dy}{p:Nat}(iw:8<=p)(h0:d.m≠0):p<iq (mo (d.m*2^s5 d p)):=by
 refine Px (CX _) ?_;rw[re h0];unfold s5;split<;>omega
def NR{x:Iv}(hx:x.ik){p:Nat}(iw:8<=p)(ij:p<=512):∃ Z,Z.ik/\gZ 331 [ig x,iP (p:Int)] (ig Z):=by
 cases xa:x.all with
 |true=>exact⟨iu,mD,ag9 x p hx iw ij xa⟩
 |false=>
  by_cases h1:x.lo.jb<=0
  .exact ⟨iu,mD,aha x p hx iw ij xa h1⟩
  .have q1:0<x.lo.q:=(tH _).1.1 aE ;have q2:0<x.hi.q:=by have:=hx.q;grind
   obtain⟨n1,m1⟩:=W1 q1;obtain⟨n2,m2⟩:=W1 q2;refine⟨_,?_,ahb x p hx iw ij xa h1 n1 n2 m1 m2⟩;refine am1 (CX _) (CX _) (Y1 iw m1) (Y1 iw m2) aE aE ?_;rw[Y4 n1 _ (KC _ _),Y4 n2 _ (KC _ _)];exact hx.q
def ks(X b:Nat):Nat->Nat
 | 0=>2^b
 |k+1=>ks X b k*X/2^b/(k+1)
def Tj{X b:Nat}(h:X<=2^(b+1))(t:Nat):t*X/2^b<=2*t:=by
 have hp:0<2^b:=bF aG;have h1:t*X<=t*(2^b*2):=cO t (by rw[<-bH];exact h);have h2:t*X/2^b<=t*(2^b*2)/2^b:=Nat.div_le_div_right h1;have h3:t*(2^b*2)/2^b=2*t:=by
  rw[show t*(2^b*2)=2^b*(2*t)by rw[de,bK t 2]];exact aqn _ hp
 omega
def Fz{X b:Nat}(h:X<=2^(b+1)):∀ k,ks X b k<=2^(b+1)
 | 0=>by show 2^b<=2^(b+1);rw[bH];omega
 | 1=>by
  show 2^b*X/2^b/1<=_;rw[eo,aqn _ (bF aG)];exact h
 |k+2=>by
  have ih:=Fz h (k+1);have h1:=Tj h (ks X b (k+1));show ks X b (k+1)*X/2^b/(k+2)<=_;have h2:ks X b (k+1)*X/2^b/(k+2)<=ks X b (k+1)*X/2^b/2:=apI aE aG;omega
def afd{X b:Nat}(h:X<=2^(b+1))(k:Nat)(hk:3<=k):ks X b (k+1)*2<=ks X b k:=by
 have h1:=Tj h (ks X b k);have h2:ks X b (k+1)<=ks X b k*X/2^b/4:=apI aE aG;omega
def Ti{X b:Nat}(h:X<=2^(b+1)):∀ j,ks X b (3+j)*2^j<=2^(b+1)
 | 0=>by rw[cw,cz];exact Fz h 3
 |j+1=>by
  have ih:=Ti h j;have h1:=afd h (3+j) aE;have h2:=bX (2^j) h1;rw[bH,show ks X b (3+(j+1))*(2^j*2)=ks X b (3+j+1)*2*2^j by rw[bL,bK 2 (2^j)];rfl];omega
def afe{X b:Nat}(h:X<=2^(b+1)):∃ N,1<=N/\N<=b+5/\(∀ k,k<N->ks X b k≠0)/\ks X b N=0:=by
 have hz:ks X b (3+(b+2))=0:=by
  have h1:=Ti h (b+2);apply ca;intro lL;have h2:2^(b+2)<=ks X b (3+(b+2))*2^(b+2):=gN _ (en lL);have h3:2^(b+2)=2^(b+1)*2:=bH (n:=2) (m:=b+1);have h4:0<2^(b+1):=bF aG;omega
 obtain⟨N,n1,n2,n3⟩:=rj (p:=λk=>decide (ks X b k=0)) (n:=b+6) ⟨3+(b+2),aE,bA hz⟩;have n2':=cR n2;refine⟨N,?_,aE,λk hk=>fu (n3 k hk),n2'⟩;rcases N with _|N
 .have:0<2^b:=bF aG ;have e:2^b=0:=n2';omega
 .omega
def age{f:Nat->Nat}{B:Nat}(h0:f 0<2^B)(h:∀ k,f (k+1)*2<=f k):∃ N,N<=B/\(∀ k,k<N->f k≠0)/\f N=0:=by
 have hp:∀ k,f k*2^k<=f 0:=by
  intro k
  induction k with
  |zero=>rw[cw,cz];exact bC _
  |succ k ih=>
   have:=bX (2^k) (h k);rw[bH,show f (k+1)*(2^k*2)=f (k+1)*2*2^k by rw[bL,bK 2 (2^k)]];omega
 have hz:f B=0:=by
  apply ca;intro lL;have h2:2^B<=f B*2^B:=gN _ (en lL);have:=hp B;omega
 obtain⟨N,n1,n2,n3⟩:=rj (p:=λk=>decide (f k=0)) (n:=B+1) ⟨B,aE,bA hz⟩;exact⟨N,aE,λk hk=>fu (n3 k hk),cR n2⟩
def jX(a b:Bool×Nat):Bool×Nat:=if a.1=b.1 then(a.1,a.2+b.2)else if a.2<b.2 then(b.1,b.2-a.2)else(a.1,a.2-b.2)
def pC(a:Bool×Nat):Int:=if a.1 then -(a.2:Int)else(a.2:Int)
def Mq(a b:Bool×Nat):pC (jX a b)=pC a+pC b:=by
 obtain⟨s,m⟩:=a;obtain⟨t,n⟩:=b;unfold jX pC;cases s<;>cases t<;>simp<;>(try split)<;>(try simp)<;>omega
def xX(a b:Bool×Nat):(jX a b).2<=a.2+b.2:=by
 unfold jX;split
 .exact bC _
 .split
  .show b.2-a.2<=_;omega
  .show a.2-b.2<=_;omega
def AV(a:Bool×Nat)(b:Nat):Dy:=canon a.1 a.2 (-(b:Int))
def Th(a:Bool×Nat)(b:Nat):(AV a b).q=(pC a:Rat)*P2 (-(b:Int)):=by
 unfold AV pC;rw[qW];cases a.1
 .simp only[bS,bJ];rw[eB]
 .simp only[bQ];rw[gJ,eB];grind
def IX(a:Bool×Nat):Bool×Nat:=jX a (true,16777216)
def IW(a:Bool×Nat):Bool×Nat:=jX a (false,16777216)
def sV(a:Bool×Nat)(b p:Nat):Iv:=kX (jf (AV (IX a) b) p false) (jx (AV (IX a) b) p false) (jf (AV (IW a) b) p true) (jx (AV (IW a) b) p true)
def aiE(a:Bool×Nat)(b:Nat){p:Nat}(hp:1<=p)(ij:p<=4096):(sV a b p).ik:=by
 unfold sV kX;split
 .exact mD
 .rename_i he;have c1:(AV (IX a) b).mF:=ru _ _ _;have c2:(AV (IW a) b).mF:=ru _ _ _;have A:=xD c1 hp ij;have B:=u9 c2 hp ij;refine .inr ⟨rfl,uq _ hp ij _,uq _ hp ij _,?_⟩;rw[qL];refine b9 (A.1 aE).2 (b9 ?_ (B.1 aE).2);rw[Th,Th,wu,gI];unfold IX IW;rw[Mq,Mq];simp[pC]
def AN(m n:Nat)(h1:(ia m).length<=256)(h2:n<=65536)(h3:(ia (m*2^n)).length<=256):gZ 410 [ic (ia m),iP n] (ic (ia (m*2^n))):=
 ak call410 func410 (af [ag [ic (ia m),iP n] (Wl _ _ aF aE aF)]) 
def wS(m n:Nat)(h1:(ia m).length<=256)(h2:n<=65536):gZ 411 [ic (ia m),iP n] (ic (ia (m/2^n))):=
 ak call411 func411 (af [ag [ic (ia m),iP n] (Ov _ _ aF aE)]) 
def LA(m:Nat)(z:Int)(h1:(ia m).length<=256)(h2:0<=z)(h3:z<=65536)(h4:(ia (m*2^z.toNat)).length<=256):gZ 410 [ic (ia m),iP z] (ic (ia (m*2^z.toNat))):=by
 have:=AN m z.toNat h1 aE h4;rwa[show(z.toNat:Int)=z by omega]at this
def acj(m:Nat)(z:Int)(h1:(ia m).length<=256)(h2:0<=z)(h3:z<=65536):gZ 411 [ic (ia m),iP z] (ic (ia (m/2^z.toNat))):=by
 have:=wS m z.toNat h1 aE;rwa[show(z.toNat:Int)=z by omega]at this
def mn{m k:Nat}(h:m<2^k)(hk:k<=8192):(ia m).length<=256:=nJ (bG (ln.2 h) hk)
def tC{n:Nat}(h:n<4294967296):(ia n).length<=256:=mn (k:=32) h aG 
def agV(n:Nat):(jo n).neg=false/\0<=(jo n).e/\(jo n).m*2^(jo n).e.toNat=n/\(jo n).m<=n:=by
 by_cases h:n=0
 .subst h;decide
 .have e1:(jo (n:Int))=canon false n 0:=Bj n;have e2:canon false n 0=⟨false,n/2^jZ n,(jZ n:Int)⟩:=by unfold canon;rw[bu h];simp
  rw[e1,e2];refine⟨rfl,Int.natCast_nonneg _,?_,bV _ _⟩;show n/2^jZ n*2^(jZ n:Int).toNat=n;rw[gl];exact Fm h
def LD(n:Nat)(h:n<4294967296):gZ 412 [iP n] (.agg [bP false,ic (ia n)]):=by
 obtain⟨p1,p2,p3,p4⟩:=agV n;have hv:=JF n h;have he:=hv.exp;have z1:=hv.ia;have z2:(ia ((jo n).m*2^(Int.toNat (jo n).e))).length<=256:=by rw[p3];exact tC h
 exact ak call412 func412 (ae [.c (Lr n aE),ag [ic (ia ((jo (n:Int)).m)),iP ((jo (n:Int)).e)] (LA _ _ aF aE aE aF)]<|rQ (.agg [bP ((jo (n:Int)).neg),ic (ia (((jo (n:Int)).m)*2^(Int.toNat ((jo (n:Int)).e))))]) (.agg [bP false,ic (ia n)]) (by rw[p1,p3])) 
def abE(m:Nat):((iq m:Int)==0)=decide (m=0):=by
 by_cases h:m=0
 .subst h;rw[rq];rfl
 .have:=nv h;rw[bB h];exact nC aE 
def DE(a:Bool×Nat)(ha:(ia a.2).length<=256):gZ 417 [.agg [bP a.1,ic (ia a.2)]] (bP (decide (a.2=0))):=
 ak call417 func417 (ae [ag [ic (ia a.2)] (sU _ aE)]<|rQ (bP ((iq a.2:Int)==0)) (bP (decide (a.2=0))) (by rw[abE])) 
def wW(a:Bool×Nat):gZ 407 [.agg [bP a.1,ic (ia a.2)]] (.agg [bP (!a.1),ic (ia a.2)]):=
 ak call407 func407 (.nil) 
def aeU(a:Bool×Nat)(ha:(ia a.2).length<=256)(b:Bool×Nat)(hb:(ia b.2).length<=256)(h:a.1=b.1)(hs:(ia (a.2+b.2)).length<=256):gZ 416 [.agg [bP a.1,ic (ia a.2)],.agg [bP b.1,ic (ia b.2)]] (.agg [bP a.1,ic (ia (a.2+b.2))]):=
 ak call416 func416 (af [ah 13 (a.1==b.1) (by rw[h];simp),ag [ic (ia a.2),ic (ia b.2)] (JW _ _ aF aF aF)]) 
def aeS(a:Bool×Nat)(ha:(ia a.2).length<=256)(b:Bool×Nat)(hb:(ia b.2).length<=256)(h:¬a.1=b.1)(h2:a.2<b.2):gZ 416 [.agg [bP a.1,ic (ia a.2)],.agg [bP b.1,ic (ia b.2)]] (.agg [bP b.1,ic (ia (b.2-a.2))]):=
 ak call416 func416 (af [ai 13 (a.1==b.1) (by simpa using h),ag [ic (ia a.2),ic (ia b.2)] (Ad _ _ aE aE),tT 31 ((kE a.2 b.2)<0) (Dr.2 h2),ag [ic (ia b.2),ic (ia a.2)] (Gu _ _ aF aF aE)]) 
def aeT(a:Bool×Nat)(ha:(ia a.2).length<=256)(b:Bool×Nat)(hb:(ia b.2).length<=256)(h:¬a.1=b.1)(h2:¬a.2<b.2):gZ 416 [.agg [bP a.1,ic (ia a.2)],.agg [bP b.1,ic (ia b.2)]] (.agg [bP a.1,ic (ia (a.2-b.2))]):=
 ak call416 func416 (af [ai 13 (a.1==b.1) (by simpa using h),ag [ic (ia a.2),ic (ia b.2)] (Ad _ _ aE aE),tF 31 ((kE a.2 b.2)<0) λq=>h2 (Dr.1 q),ag [ic (ia a.2),ic (ia b.2)] (Gu _ _ aF aF aE)]) 
def th(a:Bool×Nat)(ha:(ia a.2).length<=256)(b:Bool×Nat)(hb:(ia b.2).length<=256)(hs:(ia (a.2+b.2)).length<=256):gZ 416 [.agg [bP a.1,ic (ia a.2)],.agg [bP b.1,ic (ia b.2)]] (.agg [bP ((jX a b).1),ic (ia ((jX a b).2))]):=by
 unfold jX;split
 .rename_i h;exact aeU a ha b hb h hs
 .rename_i h;split
  .rename_i h2;exact aeS a ha b hb h h2
  .rename_i h2;exact aeT a ha b hb h h2
def Mp(a:Bool×Nat)(ha:(ia a.2).length<=256)(c:Bool×Nat)(hc:(ia c.2).length<=256)(b:Nat)(hb:b<=65536)(hm:(ia (a.2*c.2)).length<=256):gZ 413 [.agg [bP a.1,ic (ia a.2)],.agg [bP c.1,ic (ia c.2)],iP b] (.agg [bP (a.1 != c.1),ic (ia (a.2*c.2/2^b))]):=
 ak call413 func413 (af [ag [ic (ia a.2),ic (ia c.2)] (Af _ _ aF aF aF),.c (wS (a.2*c.2) b aF aE)]) 
def Fx(a:Bool×Nat)(ha:(ia a.2).length<=256)(n:Nat)(h0:n≠0)(hn:n<4294967296):gZ 419 [.agg [bP a.1,ic (ia a.2)],iP n] (.agg [bP a.1,ic (ia (a.2/n))]):=by
 have zn:(ia n).length<=256:=tC hn;exact ak call419 func419 (af [.c (LD n aE),ag [ic (ia a.2),ic (ia n)] (Ae _ _ aE aE aF)]) 
def rm(d:Dy)(b:Nat):Bool×Nat:=(d.neg,if d.e+(b:Int)<0 then d.m/2^(0-(d.e+(b:Int))).toNat else d.m*2^(d.e+(b:Int)).toNat)
def ab1(d:Dy)(hd:d.ik)(b:Nat)(hb:b<=30000)(h:d.e+(b:Int)<0):gZ 415 [ie d,iP b] (.agg [bP ((rm d b).1),ic (ia ((rm d b).2))]):=by
 have hx:=hd.exp;have z1:=hd.ia;exact ak call415 func415 (ae [iz (d.e+(b:Int)) aE,tB 11 (bA h),iz (0-(d.e+(b:Int))) aE,ag [ic (ia d.m),iP (0-(d.e+(b:Int)))] (acj _ _ aF aE aE)]<|rQ (.agg [bP d.neg,ic (ia (d.m/2^(Int.toNat (0-(d.e+(b:Int))))))]) (.agg [bP ((rm d b).1),ic (ia ((rm d b).2))]) (by unfold rm;rw[bw h])) 
def ab0(d:Dy)(hd:d.ik)(b:Nat)(hb:b<=30000)(h:¬d.e+(b:Int)<0)(hs:(ia (d.m*2^(Int.toNat (d.e+(b:Int))))).length<=256):gZ 415 [ie d,iP b] (.agg [bP ((rm d b).1),ic (ia ((rm d b).2))]):=by
 have hx:=hd.exp;have z1:=hd.ia;exact ak call415 func415 (ae [iz (d.e+(b:Int)) aE,tB 11 (bB h),iz (d.e+(b:Int)) aE,ag [ic (ia d.m),iP (d.e+(b:Int))] (LA _ _ aF aE aE aF)]<|rQ (.agg [bP d.neg,ic (ia (d.m*2^(Int.toNat (d.e+(b:Int)))))]) (.agg [bP ((rm d b).1),ic (ia ((rm d b).2))]) (by unfold rm;rw[bu h])) 
def J7{d:Dy}{b K:Nat}(h:d.iE+(b:Int)<=K):(rm d b).2<2^K:=by
 by_cases h0:d.m=0
 .have:(rm d b).2=0:=by unfold rm;simp only[h0];split<;>simp
  rw[this];exact bF aG 
 .rw [He h0]at h;have hm:=pK d.m;unfold rm;simp only;split
  .rename_i hc;obtain⟨k,hk⟩:∃ k,k=(0-(d.e+(b:Int))).toNat:=⟨_,rfl⟩
   rw[<-hk];by_cases hb:iq d.m<=k
   .rw [cF (bW hm (bN aG hb))];exact bF aG 
   .refine (cA (bF aG)).2 (bW hm ?_);rw[<-bE];exact bN aG aE 
  .rename_i hc;obtain⟨k,hk⟩:∃ k,k=(d.e+(b:Int)).toNat:=⟨_,rfl⟩
   rw[<-hk];have:=c9 hm (bF (n:=k) (show 0<2 by decide));rw[<-bE]at this;exact bW this (bN aG aE)
def LB(d:Dy)(hd:d.ik)(b K:Nat)(hb:b<=30000)(hK:K<=8192)(h:d.iE+(b:Int)<=K):gZ 415 [ie d,iP (b:Int)] (.agg [bP ((rm d b).1),ic (ia ((rm d b).2))]):=by
 by_cases hc:d.e+(b:Int)<0
 .exact ab1 d hd b hb hc
 .refine ab0 d hd b hb hc ?_;have:=J7 h;unfold rm at this;rw[bu hc]at this;exact mn this hK
def mW(f:Nat->Nat):Nat->Bool×Nat
 | 0=>(false,f 0)
 |k+1=>jX (mW f k) (decide ((k+1)%2=1),f (k+1)/(2*(k+1)+1))
def QE{f:Nat->Nat}(hf:∀ k,f (k+1)<=f k):∀ n,(n%2=0->pC (mW f n)<=f 0/\(f 0:Int)-(f 1/3:Nat)<=pC (mW f n)-(f (n+1)/(2*(n+1)+1):Nat))/\(n%2=1->(f 0:Int)-(f 1/3:Nat)<=pC (mW f n)/\pC (mW f n)+(f (n+1)/(2*(n+1)+1):Nat)<=f 0)
 | 0=>⟨λ_=>⟨by simp[mW,pC],by simp[mW,pC]⟩,λh=> aE⟩
 |n+1=>by
  obtain⟨e,o⟩:=QE hf n;have hq:f (n+1+1)/(2*(n+1+1)+1)<=f (n+1)/(2*(n+1)+1):=Nat.div_le_div (hf (n+1)) aE aE;have hv:pC (mW f (n+1))=pC (mW f n)+pC (decide ((n+1)%2=1),f (n+1)/(2*(n+1)+1)):=Mq _ _;generalize f (n+1)/(2*(n+1)+1)=q1 at *
  generalize f (n+1+1)/(2*(n+1+1)+1)=q2 at *
  generalize f 1/3=q0 at *
  rcases aqE n with h|h
  .obtain ⟨e1,e2⟩:=e h;rw[show decide ((n+1)%2=1)=true from bA aE]at hv;simp only[pC,bQ]at hv;exact⟨λq=> aE,λ_=>⟨by unfold pC at *;omega,by unfold pC at *;omega⟩⟩
  .obtain ⟨e1,e2⟩:=o h;rw[show decide ((n+1)%2=1)=false from bB aE]at hv;simp only[pC,bS,bJ]at hv;exact⟨λ_=>⟨by unfold pC at *;omega,by unfold pC at *;omega⟩,λq=> aE⟩
def Lp{f:Nat->Nat}(hf:∀ k,f (k+1)<=f k)(n:Nat):(mW f n).2<=f 0/\f 0<=(mW f n).2+f 1/3:=by
 have ht:=QE hf n;have h1:f 1/3<=f 0:=bG (bV _ _) (hf 0);have hb:(f 0:Int)-(f 1/3:Nat)<=pC (mW f n)/\pC (mW f n)<=f 0:=by
  rcases aqE n with h|h
  .have:=ht.1 h;generalize f (n+1)/(2*(n+1)+1)=q at *
   omega
  .have:=ht.2 h;generalize f (n+1)/(2*(n+1)+1)=q at *
   omega
 generalize mW f n=s at *
 generalize f 1/3=q at *
 obtain⟨b,m⟩:=s;cases b
 .simp only[pC,bS,bJ]at hb ⊢;omega
 .simp only[pC,bQ]at hb ⊢;omega
def Ib{f:Nat->Nat}(hf:∀ k,f (k+1)<=f k):∀ k,f k<=f 0
 | 0=>bC _
 |k+1=>bG (hf k) (Ib hf k)
def Dh{f:Nat->Nat}(hf:∀ k,f (k+1)<=f k){B:Nat}(hB:B<=8191)(hz:f 0<2^B)(k:Nat):(ia (f k)).length<=256:=mn (cB (Ib hf k) hz) aE 
def Ic{f:Nat->Nat}(hf:∀ k,f (k+1)<=f k){B:Nat}(hB:B<=8191)(hz:f 0<2^B)(k:Nat):(ia (mW f k).2).length<=256/\(ia (f (k+1)/(2*(k+1)+1))).length<=256:=⟨mn (cB (Lp hf k).1 hz) aE,mn (cB (bG (bV _ _) (Ib hf (k+1))) hz) aE⟩
def QF{f:Nat->Nat}(hf:∀ k,f (k+1)<=f k){B:Nat}(hB:B<=8191)(hz:f 0<2^B)(k:Nat):(ia ((mW f k).2+f (k+1)/(2*(k+1)+1))).length<=256:=by
 have h1:=(Lp hf k).1;have h2:=bG (bV (f (k+1)) (2*(k+1)+1)) (Ib hf (k+1));refine mn (k:=B+1) ?_ aE;rw[bH];omega
def sB(n b:Nat):Nat->Nat
 | 0=>1*2^b/n
 |k+1=>sB n b k/(n*n)
def Vb{n b:Nat}(hn:2<=n)(k:Nat):sB n b (k+1)*2<=sB n b k:=by
 show sB n b k/(n*n)*2<=_;have h1:sB n b k/(n*n)<=sB n b k/2:=apI (by have:=dp hn hn;omega) aG;omega
def NN(n b:Nat):sB n b 0<2^(b+1):=by
 show 1*2^b/n<_;rw[ck,bH];have:=bV (2^b) n;have:0<2^b:=bF aG;omega
def ag3{n b:Nat}(hn:2<=n):∃ N,N<=b+1/\(∀ k,k<N->sB n b (k+1)≠0)/\sB n b (N+1)=0:=by
 obtain⟨N,h1,h2,h3⟩:=age (NN n b) (Vb hn);rcases N with _|N
 .refine ⟨0,aE,λk hk=>absurd hk (bO _),?_⟩;have:=Vb (b:=b) hn 0;omega
 .exact ⟨N,aE,λk hk=>h2 (k+1) aE,h3⟩
def ajG{T x y f g:Nat}(hT:65536<=T)(hf:f=T/5)(Cp:x<=f)(sy:f<=x+f/(5*5)/3)(hy:y<=T/239)(hg:g=(jX (false,x*2^4) (true,y*2^2)).2):2<=g/\g<=T*4/\g/2<=T*2:=by
 have h16:(2:Nat)^4=16:=rfl;have h4:(2:Nat)^2=4:=rfl;have e:g=x*16-y*4:=by
  rw[hg,h16,h4];unfold jX;rw[bu (show ¬false=true from Bool.false_ne_true),bu (by show ¬x*16<y*4;omega)]
 omega
def QD(f:Nat->Nat)(g:FuncId)(cap:List E)(N:Nat)(x:Nat):PS:=⟨30,true,[(6,.e (iP ((x+1:Nat):Int))),(5,.box 5 0),(4,.box 4 0),(2,.box 2 0),(1,.e (.fn g cap))],[(5,.cells 264 [bP ((mW f x).1),ic (ia ((mW f x).2))]),(4,.cells 264 [bP false,.v (.slice none 0 0)]),(2,.cells 264 [bP false,ic (ia (f x))])]⟩
def abL(f:Nat->Nat)(g:FuncId)(cap:List E)(N:Nat)(hp:∀ k,k<=N->gZ g ((.agg [bP false,ic (ia (f k))])::cap) (.agg [bP false,ic (ia (f (k+1)))]))(hf:∀ k,f (k+1)<=f k)(B:Nat)(hB:B<=8191)(hz:f 0<2^B)(h0:∀ k,k<N->f (k+1)≠0)(hN:f (N+1)=0)(rT:N<=100000):gZ 421 [.agg [bP false,ic (ia (f 0))],.fn g cap] (.agg [bP ((mW f N).1),ic (ia ((mW f N).2))]):=by
 have z00:=Dh hf hB hz 0;exact ak call421 func421 (af [.s (Sp.jv (QD f g cap N) 0 N aE (λx hx jU=>by
    have z1:=Dh hf hB hz (x+1);have z0:=Dh hf hB hz x;have zs:=(Ic hf hB hz x).1;have zt:=(Ic hf hB hz x).2;have zu:=QF hf hB hz x;exact iG (ae [.c (hp x aE:gZ g ((.agg [bP false,ic (ia (f x))])::cap) _),ag [.agg [bP false,ic (ia (f (x+1)))]] (DE (false,(f (x+1))) aF),tF 15 ((f (x+1))=0) (h0 x aE),
     iz (2*((x+1:Nat):Int)) aE,iz (((2*(x+1):Nat):Int)+1) aE,ag [.agg [bP false,ic (ia (f (x+1)))],iP (((2*(x+1))+1:Nat):Int)] (Fx (false,(f (x+1))) aF ((2*(x+1))+1) aE aE),.a (aE:0<(2:Int))]<|.w ((x+1)%2=1)
     (λho=>ae [ah 24 ((((x+1)%2:Nat):Int)==1) (by rw[ho];rfl),ag [.agg [bP false,ic (ia ((f (x+1))/((2*(x+1))+1)))]] (wW (false,((f (x+1))/((2*(x+1))+1)))),ag [.agg [bP ((mW f x).1),ic (ia ((mW f x).2))],.agg [bP (!false),ic (ia ((f (x+1))/((2*(x+1))+1)))]] (th (mW f x) aF ((!false),((f (x+1))/((2*(x+1))+1))) aF aF),
      iz (((x+1:Nat):Int)+1) aE]<|.e (af [.b 5 (.iM (by first|rfl|simp[mW,ho]):Bx.le (.cells 264 [bP ((jX (mW f x) ((!false),((f (x+1))/((2*(x+1))+1)))).1),ic (ia ((jX (mW f x) ((!false),((f (x+1))/((2*(x+1))+1)))).2))]) (.cells 264 [bP ((mW f (x+1)).1),ic (ia ((mW f (x+1)).2))]))]))
     (λho=>ae [ai 24 ((((x+1)%2:Nat):Int)==1) aS,ag [.agg [bP ((mW f x).1),ic (ia ((mW f x).2))],.agg [bP false,ic (ia ((f (x+1))/((2*(x+1))+1)))]] (th (mW f x) aF (false,((f (x+1))/((2*(x+1))+1))) aF aF),
      iz (((x+1:Nat):Int)+1) aE]<|.e (af [.b 5 (.iM (by first|rfl|simp[mW,ho]):Bx.le (.cells 264 [bP ((jX (mW f x) (false,((f (x+1))/((2*(x+1))+1)))).1),ic (ia ((jX (mW f x) (false,((f (x+1))/((2*(x+1))+1)))).2))]) (.cells 264 [bP ((mW f (x+1)).1),ic (ia ((mW f (x+1)).2))]))]))) aI)
  (λhx=>by
    have z1:=Dh hf hB hz (N+1);have z0:=Dh hf hB hz N;have zs:=(Ic hf hB hz N).1;have zt:=(Ic hf hB hz N).2;have zu:=QF hf hB hz N;exact iG (af [.c (hp N aE:gZ g ((.agg [bP false,ic (ia (f N))])::cap) _),ag [.agg [bP false,ic (ia (f (N+1)))]] (DE (false,(f (N+1))) aF),tB 15 (bA hN)]) aI) aM:ju 4 f421 (QD f g cap N 0) .ret ⟨30,true,[(4,.box 4 0)],[(4,.cells 264 [bP ((mW f N).1),ic (ia ((mW f N).2))])]⟩) (af [.o 6 (aq 1 ((0+1:Nat):Int) aT),.b 5 (.iM (by first|rfl|simp[mW,ho]):Bx.le (.cells 264 [bP false,ic (ia (f 0))]) (.cells 264 [bP ((mW f 0).1),ic (ia ((mW f 0).2))]))])]) 
def abV(m n:Nat)(hm:(ia m).length<=256)(qR:n≠0)(hn:n<60000):gZ 422 [.agg [bP false,ic (ia m)],(.kn 1 λj_=>[iP n].getD j_ .any)] (.agg [bP false,ic (ia (m/(n*n)))]):=by
 have hnn:n*n<3600000000:=aqF hn hn;have hnz:n*n≠0:=dV qR qR;exact ak call422 func422 (af [iz ((n:Int)*(n:Int)) aE,ag [.agg [bP false,ic (ia m)],iP ((n*n:Nat):Int)] (Fx (false,m) aF (n*n) aE aE)]) 
def abW(n b:Nat)(S:Bool×Nat)(qR:n≠0)(hn:n<60000)(hb:b<=8000)(hS:gZ 421 [.agg [bP false,ic (ia (1*2^b/n))],.fn 422 [(.kn 1 λj_=>[iP n].getD j_ .any)]] (.agg [bP S.1,ic (ia S.2)])):gZ 420 [iP n,iP b] (.agg [bP S.1,ic (ia S.2)]):=by
 have z0:(ia 1).length<=256:=tC aG;have z1:(ia (1*2^b)).length<=256:=mn (k:=b+1) (by rw[bH,ck];have:0<2^b:=bF aG;omega) aE;exact ak call420 func420 (af [.o 6 (.e sE:aj (.sl false 1 1 λi_ j_=>[.v (.int .u32 1)].getD (i_*1+j_) (.v (.bool false))) (ic (ia 1))),.c (AN 1 b aF aE aF),ag [.agg [bP false,ic (ia (1*2^b))],iP n] (Fx (false,(1*2^b)) aF n aE aE),ag [.agg [bP false,ic (ia ((1*2^b)/n))],.fn 422 [(.kn 1 λj_=>[iP n].getD j_ .any)]] hS]) 
def Rh(n b:Nat)(qR:2<=n)(hn:n<60000)(hb:b<=8000):∃ S:Bool×Nat,S.2<=2^b/n/\2^b/n<=S.2+2^b/n/(n*n)/3/\gZ 420 [iP (n:Int),iP (b:Int)] (.agg [bP S.1,ic (ia S.2)]):=by
 obtain⟨N,h1,h2,h3⟩:=ag3 (b:=b) qR;have hf:∀ k,sB n b (k+1)<=sB n b k:=λk=>bV _ _
 obtain⟨r1,r2⟩:=Lp hf N;have e0:sB n b 0=2^b/n:=by show 1*2^b/n=_;rw[ck]
 have e1:sB n b 1=2^b/n/(n*n):=by show sB n b 0/(n*n)=_;rw[e0]
 refine⟨mW (sB n b) N,by rw[<-e0];exact r1,by rw[<-e1,<-e0];exact r2,?_⟩;exact abW n b _ aE hn hb (abL (sB n b) 422 _ N (λk _=>abV (sB n b k) n (Dh hf (aE:b+1<=8191) (NN n b) k) aE hn) hf (b+1) aE (NN n b) h2 h3 aE)
def ab2(b:Nat)(x y:Bool×Nat)(zx:x.2<2^b)(zy:y.2<2^b)(hb:b<=8000)(hx:gZ 420 [iP ((5:Nat):Int),iP (b:Int)] (.agg [bP x.1,ic (ia x.2)]))(hy:gZ 420 [iP ((239:Nat):Int),iP (b:Int)] (.agg [bP y.1,ic (ia y.2)])):gZ 409 [iP b] (.agg [bP ((jX (false,x.2*2^4) (true,y.2*2^2)).1),ic (ia ((jX (false,x.2*2^4) (true,y.2*2^2)).2))]):=by
 have z1:(ia x.2).length<=256:=mn zx aE;have z2:(ia y.2).length<=256:=mn zy aE;have e5:2^(b+5)=2^b*32:=by rw[bE]
 have z3:(ia (x.2*2^4)).length<=256:=mn (k:=b+5) aE aE;have z4:(ia (y.2*2^2)).length<=256:=mn (k:=b+5) aE aE;have z5:(ia (x.2*2^4+y.2*2^2)).length<=256:=mn (k:=b+5) aE aE;exact ak call409 func409 (af [ag [iP 5,iP b] hx,ag [iP 239,iP b] hy,.c (AN x.2 4 aF aE aF),.c (AN y.2 2 aF aE aF),ag [.agg [bP false,ic (ia (x.2*2^4))],.agg [bP true,ic (ia (y.2*2^2))]] (th (false,(x.2*2^4)) aF (true,(y.2*2^2)) aF aF)]) 
def Ri(b:Nat)(kP:16<=b)(hb:b<=8000):∃ c:Bool×Nat,2<=c.2/\c.2<=2^b*4/\c.2/2<=2^b*2/\gZ 409 [iP (b:Int)] (.agg [bP c.1,ic (ia c.2)]):=by
 obtain⟨x,x1,x2,hx⟩:=Rh 5 b aG aG hb;obtain⟨y,y1,y2,hy⟩:=Rh 239 b aG aG hb;have hT:65536<=2^b:=by have:=bN (show 0<2 by decide) kP;omega
 obtain⟨g1,g2,g3⟩:=ajG hT rfl x1 x2 y1 rfl;exact⟨_,g1,g2,g3,ab2 b x y aE aE hb hx hy⟩
def ZM(n:Nat)(h:n<4294967296):bits .and .u32 (n:Int) 3=((n%4:Nat):Int):=by
 have:=bits_and_u32_nat n 3 h aG;rw[show((3:Int))=((3:Nat):Int)from rfl,this];exact congrArg _ (ap9 n 2)
def agN(k:Nat)(h:k<=3):bits .and .i64 (4-(k:Int)) 3=(((4-k)%4:Nat):Int):=by
 rcases(aE:k=0\/k=1\/k=2\/k=3)with rfl|rfl|rfl|rfl<;>decide
def ae1{x:Bool×Nat}{m:Nat}(h:m<=x.2):jX x (!x.1,m)=(x.1,x.2-m):=by
 unfold jX;rw[bu (by show ¬x.1 = !x.1;cases x.1<;>decide),bu (by show ¬x.2<m;omega)]
def ak4(n:Nat):n%4<=3:= aE 
def ak3(n:Nat):(4-n)%4<=3:= aE 
def ak5{x:Bool×Nat}{H b t:Nat}(h0:1<=H)(hH:H<=2^(b+t+40)*2):(jX x (!x.1,x.2/H*H)).2/2^(t+40)<=2^(b+1):=by
 rw[ae1 (du _ _)];show(x.2-x.2/H*H)/_<=_;have h1:x.2-x.2/H*H=x.2%H:=by
  have:=cG x.2 H;rw[bK H]at this;omega
 have h2:=bM x.2 (aE:0<H);rw[h1];refine Nat.div_le_of_le_mul (bG (dE h2) (bG hH (gF ?_)));rw[<-bE,(aE:t+40+(b+1)=b+t+40+1)];exact(bH 2 (b+t+40)).symm
def lN(x:Bool×Nat):Nat->Bool
 | 0=>false
 |k+1=>(lN x k != x.1)
def j8(x:Bool×Nat)(b:Nat):Nat->(Bool×Nat)×(Bool×Nat)
 | 0=>((false,0),(false,1*2^b))
 |k+1=>if(k+1)%2=1 then(jX (j8 x b k).1 ((if 2<=(k+1)%4 then !(lN x (k+1))else lN x (k+1)),ks x.2 b (k+1)),(j8 x b k).2)
  else((j8 x b k).1,jX (j8 x b k).2 ((if 2<=(k+1)%4 then !(lN x (k+1))else lN x (k+1)),ks x.2 b (k+1)))
def YI{x:Bool×Nat}{b:Nat}(h:x.2<=2^(b+1)):∀ k,(j8 x b k).1.2<=(k+1)*2^(b+1)/\(j8 x b k).2.2<=(k+1)*2^(b+1)
 | 0=>⟨cj _,by show 1*2^b<=_;have:=bH (n:=2) (m:=b);omega⟩
 |k+1=>by
  obtain⟨h1,h2⟩:=YI h k;have h3:=Fz h (k+1);have h4:(k+1+1)*2^(b+1)=(k+1)*2^(b+1)+2^(b+1):=apH _ _;unfold j8;split
  .refine ⟨bG (xX _ _) ?_,by rw[h4];exact bG h2 (Nat.le_add_right _ _)⟩;rw[h4];exact Nat.add_le_add h1 h3
  .refine ⟨by rw[h4];exact bG h1 (Nat.le_add_right _ _),bG (xX _ _) ?_⟩;rw[h4];exact Nat.add_le_add h2 h3
def YJ{x:Bool×Nat}{b:Nat}(h:x.2<=2^(b+1))(hb:b<=3000){k:Nat}(hk:k<=b+5):(j8 x b k).1.2<2^(b+14)/\(j8 x b k).2.2<2^(b+14):=by
 obtain⟨h1,h2⟩:=YI h k;have h3:(k+1)*2^(b+1)<2^(b+14):=by
  rw[(aE:b+14=13+(b+1)),bE 2 13];exact c9 aE (bF aG)
 exact⟨cB h1 h3,cB h2 h3⟩
def afc{T:TypeId}:Bx.le (.cells T [bP false,.v (.slice none 0 0)]) (.cells T [bP false,ic (ia 0)]):=
 .cells (λ_=>rfl) (.cons (.refl _) (.cons CF .nil))
structure aau(x:Bool×Nat)(b k:Nat):Prop where
 t0:(ia (ks x.2 b k)).length<=256
 t1:(ia (ks x.2 b (k+1))).length<=256
 tm:(ia (ks x.2 b k*x.2)).length<=256
 tq:(ia (ks x.2 b k*x.2/2^b)).length<=256
 s0:(ia (j8 x b k).1.2).length<=256
 c0:(ia (j8 x b k).2.2).length<=256
 s1:(ia ((j8 x b k).1.2+ks x.2 b (k+1))).length<=256
 c1:(ia ((j8 x b k).2.2+ks x.2 b (k+1))).length<=256
def YH{x:Bool×Nat}{b:Nat}(h:x.2<=2^(b+1))(hb:b<=3000){k:Nat}(hk:k<=b+5):aau x b k:=by
 have hp:(2:Nat)^(b+2)=2^(b+1)*2:=bH _ _;have hq:(0:Nat)<2^(b+1):=bF aG;have t0:=Fz h k;have t1:=Fz h (k+1);obtain⟨s,c⟩:=YJ h hb hk;have hm:ks x.2 b k*x.2<2^(b+2+(b+2)):=by
  rw[bE];exact aqF aE aE 
 have e14:(2:Nat)^(b+15)=2^(b+14)*2:=bH _ _;have e13:(2:Nat)^(b+1)<=2^(b+14):=bN aG aE;exact⟨mn (k:=b+2) aE aE,mn (k:=b+2) aE aE,mn hm aE,mn (cB (bV _ _) hm) aE,
  mn s aE,mn c aE,mn (k:=b+15) aE aE,mn (k:=b+15) aE aE⟩
def V7{s:Bool}{m b:Nat}(h:m<2^4000)(hb:b<=8000):oB (canon s m (-(b:Int))):=by
 by_cases h0:m=0
 .subst h0;exact .inl rfl
 .have e:canon s m (-(b:Int))=⟨s,m/2^jZ m,-(b:Int)+jZ m⟩:=by unfold canon;rw[bu h0]
  have h1:iq m<=4000:=ln.2 h;have h2:=tR (bV m (2^jZ m));have h3:jZ m<=4000:=by
   have:=GL h0;apply ca;intro hc;have:=bN (show 0<2 by decide) (aE:4000<=jZ m);omega
  rw[e];exact .inr ⟨by show iq (m/2^jZ m)<=4096;omega,by show -16384 <= -(b:Int)+jZ m;omega,by show -(b:Int)+jZ m<=16384;omega,by show(iq (m/2^jZ m):Int)+(-(b:Int)+jZ m)<=16384;omega⟩
def Kd{a b i j n:Nat}(ha:a<2^i)(hb:b<2^j)(hi:i<=n)(hj:j<=n):a+b<2^(n+1):=by
 have h1:=bN (show 0<2 by decide) hi;have h2:=bN (show 0<2 by decide) hj;have e:2^(n+1)=2^n*2:=bH _ _;omega
def ae2{a b:Bool×Nat}{i j n:Nat}(ha:a.2<2^i)(hb:b.2<2^j)(hi:i<=n)(hj:j<=n):(jX a b).2<2^(n+1):=cB (xX _ _) (Kd ha hb hi hj)
def V8{s:Bool}{m:Nat}{e:Int}(h:oB (canon s m e)):(canon s m e).ik:=⟨ru _ _ _,h⟩
def GN{m i k:Nat}(h:m<2^i)(hk:i<=k):m<2^k:=bW h (bN aG hk)
def pV(a c:Bool×Nat):Bool×Nat:=if a.1=true/\a.2%c.2≠0 then jX (a.1,a.2/c.2) (true,1)else(a.1,a.2/c.2)
def Td(a c:Bool×Nat):(pV a c).2<=a.2/c.2+1:=by
 unfold pV;split
 .exact xX _ _
 .exact Nat.le_succ _
def ae8(a c:Bool×Nat):(pV a c).2*c.2<=a.2+c.2:=by
 refine bG (bX c.2 (Td a c)) ?_;rw[apH];exact Nat.add_le_add_right (du _ _) _
def VX{lo hi:Dy}{e f:Int}(h:e≠0\/f≠0):kX lo e hi f=iu:=bw h
def ah2{lo hi:Dy}{e f:Int}(h:e=0)(k:f=0):kX lo e hi f=⟨lo,hi,false⟩:=bu (by rw[h,k];decide)
def YC(x:Bool×Nat)(b N:Nat)(i:Nat):PS:=⟨43,true,[(8,.e (iP ((i+1:Nat):Int))),(7,.box 7 0),(5,.box 5 0),(4,.box 4 0),(2,.box 2 0),(1,.e (iP b))],[(5,.cells 264 [bP (((j8 x b i).2).1),ic (ia (((j8 x b i).2).2))]),(7,.cells 264 [bP (lN x i),ic (ia (ks x.2 b i))]),(4,.cells 264 [bP (((j8 x b i).1).1),ic (ia (((j8 x b i).1).2))]),(2,.cells 264 [bP x.1,ic (ia x.2)])]⟩
def JO(n i:Nat):(ia n).getD i 0<4294967296:=by
 by_cases h:i<(ia n).length
 .rw [bD,bI h];exact kR n _ (cN h)
 .rw [bD,cC aE];decide
def ach(d:Dy)(b t m:Nat)(cp:Bool×Nat)(hd:d.ik)(ht:t=d.iE.toNat)(kP:16<=b)(mK:b<=2000)(sw:t<=2000)(K:Nat)(hK:K<=6000)(zx:m<2^K)(zc:2<=cp.2)(zd:(ia cp.2).length<=256)(rA:gZ 409 [iP (((b+t)+40:Nat):Int)] (.agg [bP cp.1,ic (ia cp.2)]))(uK:gZ 415 [ie d,iP (((b+t)+40:Nat):Int)] (.agg [bP true,ic (ia m)]))(hn:0<(ia (m/(cp.2/2^1))).length):gZ 405 [ie d,iP b] (.iC [.agg [bP ((jX (true,m) (false,((m/(cp.2/2^1))*(cp.2/2^1)))).1),ic (ia ((jX (true,m) (false,((m/(cp.2/2^1))*(cp.2/2^1)))).2/2^(t+40)))],iP (((4-((ia (m/(cp.2/2^1))).getD 0 0%4))%4:Nat):Int)]):=by
 have FX:=Hd hd;have zX:(ia m).length<=256:=mn zx aE;have zH:(ia (cp.2/2^1)).length<=256:=bG (mU (bV _ _)) zd;have nH:(cp.2/2^1)≠0:= aE ;have mM:((m/(cp.2/2^1))*(cp.2/2^1))<=m:=du _ _;have zN:(ia (m/(cp.2/2^1))).length<=256:=bG (mU (bV _ _)) zX;have zM:(ia ((m/(cp.2/2^1))*(cp.2/2^1))).length<=256:=bG (mU mM) zX;have zA:(ia (m+((m/(cp.2/2^1))*(cp.2/2^1)))).length<=256:=mn (k:=K+1) (by have:=bH 2 K;omega) aE;have zR:(ia (jX (true,m) (false,((m/(cp.2/2^1))*(cp.2/2^1)))).2).length<=256:=bG (mU (xX _ _)) zA;have zm:(ia (m%(cp.2/2^1))).length<=256:=bG (mU (dO _ _)) zX;have hg:(ia (m/(cp.2/2^1))).getD 0 0<4294967296:=JO _ 0;have h4:(ia (m/(cp.2/2^1))).getD 0 0%4<=3:= aE ;exact ak call405 func405 (af [ag [ie d] (pj _ aF),.o 19 (aq (if 0>(Dy.iE d)then 0 else(Dy.iE d)) t aR),iz ((b:Int)+t) aE,
  iz (((b+t:Nat):Int)+40) aE,ag [iP (((b+t)+40:Nat):Int)] rA,.c (wS cp.2 1 aF aE),ag [ie d,iP (((b+t)+40:Nat):Int)] uK,ag [ic (ia m),ic (ia (cp.2/2^1))] (Ae _ _ aE aE aF),ag [ic (ia (m/(cp.2/2^1))),ic (ia (cp.2/2^1))] (Af _ _ aF aF aF),ag [.agg [bP true,ic (ia m)],.agg [bP false,ic (ia ((m/(cp.2/2^1))*(cp.2/2^1)))]] (th (true,m) aF (false,((m/(cp.2/2^1))*(cp.2/2^1))) aF aF),tT 61 (0<((ia (m/(cp.2/2^1))).length:Int)) aE,iX 0 ((ia (m/(cp.2/2^1))).length) aE,.o 65 (.int (ZM _ aE):aj (.v (.int .u32 (bits .and .u32 (((ia (m/(cp.2/2^1))).getD 0 0:Nat):Int) 3))) (.v (.int .u32 ((((ia (m/(cp.2/2^1))).getD 0 0)%4:Nat):Int)))),.o 66 (aq (IntKind.i64.wrap ((((ia (m/(cp.2/2^1))).getD 0 0)%4:Nat):Int)) ((((ia (m/(cp.2/2^1))).getD 0 0)%4:Nat):Int) (NC _ aE)),
  iz (4-((((ia (m/(cp.2/2^1))).getD 0 0)%4:Nat):Int)) aE,.o 71 (aq (bits .and .i64 (4-((((ia (m/(cp.2/2^1))).getD 0 0)%4:Nat):Int)) 3) (((4-((ia (m/(cp.2/2^1))).getD 0 0%4))%4:Nat):Int) (agN _ aE)),
  iz ((t:Int)+40) aE,.c (wS ((jX (true,m) (false,((m/(cp.2/2^1))*(cp.2/2^1)))).2) (t+40) aF aE)]) 
def acf(d:Dy)(b t m:Nat)(cp:Bool×Nat)(hd:d.ik)(ht:t=d.iE.toNat)(kP:16<=b)(mK:b<=2000)(sw:t<=2000)(K:Nat)(hK:K<=6000)(zx:m<2^K)(zc:2<=cp.2)(zd:(ia cp.2).length<=256)(rA:gZ 409 [iP (((b+t)+40:Nat):Int)] (.agg [bP cp.1,ic (ia cp.2)]))(uK:gZ 415 [ie d,iP (((b+t)+40:Nat):Int)] (.agg [bP true,ic (ia m)]))(hn:¬0<(ia (m/(cp.2/2^1))).length):gZ 405 [ie d,iP b] (.iC [.agg [bP ((jX (true,m) (false,((m/(cp.2/2^1))*(cp.2/2^1)))).1),ic (ia ((jX (true,m) (false,((m/(cp.2/2^1))*(cp.2/2^1)))).2/2^(t+40)))],iP 0]):=by
 have FX:=Hd hd;have zX:(ia m).length<=256:=mn zx aE;have zH:(ia (cp.2/2^1)).length<=256:=bG (mU (bV _ _)) zd;have nH:(cp.2/2^1)≠0:= aE ;have mM:((m/(cp.2/2^1))*(cp.2/2^1))<=m:=du _ _;have zN:(ia (m/(cp.2/2^1))).length<=256:=bG (mU (bV _ _)) zX;have zM:(ia ((m/(cp.2/2^1))*(cp.2/2^1))).length<=256:=bG (mU mM) zX;have zA:(ia (m+((m/(cp.2/2^1))*(cp.2/2^1)))).length<=256:=mn (k:=K+1) (by have:=bH 2 K;omega) aE;have zR:(ia (jX (true,m) (false,((m/(cp.2/2^1))*(cp.2/2^1)))).2).length<=256:=bG (mU (xX _ _)) zA;have zm:(ia (m%(cp.2/2^1))).length<=256:=bG (mU (dO _ _)) zX;have hg:(ia (m/(cp.2/2^1))).getD 0 0<4294967296:=JO _ 0;have h4:(ia (m/(cp.2/2^1))).getD 0 0%4<=3:= aE ;exact ak call405 func405 (af [ag [ie d] (pj _ aF),.o 19 (aq (if 0>(Dy.iE d)then 0 else(Dy.iE d)) t aR),iz ((b:Int)+t) aE,
  iz (((b+t:Nat):Int)+40) aE,ag [iP (((b+t)+40:Nat):Int)] rA,.c (wS cp.2 1 aF aE),ag [ie d,iP (((b+t)+40:Nat):Int)] uK,ag [ic (ia m),ic (ia (cp.2/2^1))] (Ae _ _ aE aE aF),ag [ic (ia (m/(cp.2/2^1))),ic (ia (cp.2/2^1))] (Af _ _ aF aF aF),ag [.agg [bP true,ic (ia m)],.agg [bP false,ic (ia ((m/(cp.2/2^1))*(cp.2/2^1)))]] (th (true,m) aF (false,((m/(cp.2/2^1))*(cp.2/2^1))) aF aF),tF 61 (0<((ia (m/(cp.2/2^1))).length:Int)) aE,iz (4-0) aE,.o 71 (aq (bits .and .i64 (4-0) 3) 0 aG),iz ((t:Int)+40) aE,.c (wS ((jX (true,m) (false,((m/(cp.2/2^1))*(cp.2/2^1)))).2) (t+40) aF aE)]) 
def aci(d:Dy)(b t m:Nat)(cp:Bool×Nat)(hd:d.ik)(ht:t=d.iE.toNat)(kP:16<=b)(mK:b<=2000)(sw:t<=2000)(K:Nat)(hK:K<=6000)(zx:m<2^K)(zc:2<=cp.2)(zd:(ia cp.2).length<=256)(rA:gZ 409 [iP (((b+t)+40:Nat):Int)] (.agg [bP cp.1,ic (ia cp.2)]))(uK:gZ 415 [ie d,iP (((b+t)+40:Nat):Int)] (.agg [bP false,ic (ia m)]))(hn:0<(ia (m/(cp.2/2^1))).length):gZ 405 [ie d,iP b] (.iC [.agg [bP ((jX (false,m) (true,((m/(cp.2/2^1))*(cp.2/2^1)))).1),ic (ia ((jX (false,m) (true,((m/(cp.2/2^1))*(cp.2/2^1)))).2/2^(t+40)))],iP (((ia (m/(cp.2/2^1))).getD 0 0%4:Nat):Int)]):=by
 have FX:=Hd hd;have zX:(ia m).length<=256:=mn zx aE;have zH:(ia (cp.2/2^1)).length<=256:=bG (mU (bV _ _)) zd;have nH:(cp.2/2^1)≠0:= aE ;have mM:((m/(cp.2/2^1))*(cp.2/2^1))<=m:=du _ _;have zN:(ia (m/(cp.2/2^1))).length<=256:=bG (mU (bV _ _)) zX;have zM:(ia ((m/(cp.2/2^1))*(cp.2/2^1))).length<=256:=bG (mU mM) zX;have zA:(ia (m+((m/(cp.2/2^1))*(cp.2/2^1)))).length<=256:=mn (k:=K+1) (by have:=bH 2 K;omega) aE;have zR:(ia (jX (false,m) (true,((m/(cp.2/2^1))*(cp.2/2^1)))).2).length<=256:=bG (mU (xX _ _)) zA;have zm:(ia (m%(cp.2/2^1))).length<=256:=bG (mU (dO _ _)) zX;have hg:(ia (m/(cp.2/2^1))).getD 0 0<4294967296:=JO _ 0;have h4:(ia (m/(cp.2/2^1))).getD 0 0%4<=3:= aE ;exact ak call405 func405 (af [ag [ie d] (pj _ aF),.o 19 (aq (if 0>(Dy.iE d)then 0 else(Dy.iE d)) t aR),iz ((b:Int)+t) aE,
  iz (((b+t:Nat):Int)+40) aE,ag [iP (((b+t)+40:Nat):Int)] rA,.c (wS cp.2 1 aF aE),ag [ie d,iP (((b+t)+40:Nat):Int)] uK,ag [ic (ia m),ic (ia (cp.2/2^1))] (Ae _ _ aE aE aF),ag [ic (ia (m/(cp.2/2^1))),ic (ia (cp.2/2^1))] (Af _ _ aF aF aF),ag [.agg [bP false,ic (ia m)],.agg [bP true,ic (ia ((m/(cp.2/2^1))*(cp.2/2^1)))]] (th (false,m) aF (true,((m/(cp.2/2^1))*(cp.2/2^1))) aF aF),tT 61 (0<((ia (m/(cp.2/2^1))).length:Int)) aE,iX 0 ((ia (m/(cp.2/2^1))).length) aE,.o 65 (.int (ZM _ aE):aj (.v (.int .u32 (bits .and .u32 (((ia (m/(cp.2/2^1))).getD 0 0:Nat):Int) 3))) (.v (.int .u32 ((((ia (m/(cp.2/2^1))).getD 0 0)%4:Nat):Int)))),.o 66 (aq (IntKind.i64.wrap ((((ia (m/(cp.2/2^1))).getD 0 0)%4:Nat):Int)) ((((ia (m/(cp.2/2^1))).getD 0 0)%4:Nat):Int) (NC _ aE)),
  iz ((t:Int)+40) aE,.c (wS ((jX (false,m) (true,((m/(cp.2/2^1))*(cp.2/2^1)))).2) (t+40) aF aE)]) 
def acg(d:Dy)(b t m:Nat)(cp:Bool×Nat)(hd:d.ik)(ht:t=d.iE.toNat)(kP:16<=b)(mK:b<=2000)(sw:t<=2000)(K:Nat)(hK:K<=6000)(zx:m<2^K)(zc:2<=cp.2)(zd:(ia cp.2).length<=256)(rA:gZ 409 [iP (((b+t)+40:Nat):Int)] (.agg [bP cp.1,ic (ia cp.2)]))(uK:gZ 415 [ie d,iP (((b+t)+40:Nat):Int)] (.agg [bP false,ic (ia m)]))(hn:¬0<(ia (m/(cp.2/2^1))).length):gZ 405 [ie d,iP b] (.iC [.agg [bP ((jX (false,m) (true,((m/(cp.2/2^1))*(cp.2/2^1)))).1),ic (ia ((jX (false,m) (true,((m/(cp.2/2^1))*(cp.2/2^1)))).2/2^(t+40)))],iP 0]):=by
 have FX:=Hd hd;have zX:(ia m).length<=256:=mn zx aE;have zH:(ia (cp.2/2^1)).length<=256:=bG (mU (bV _ _)) zd;have nH:(cp.2/2^1)≠0:= aE ;have mM:((m/(cp.2/2^1))*(cp.2/2^1))<=m:=du _ _;have zN:(ia (m/(cp.2/2^1))).length<=256:=bG (mU (bV _ _)) zX;have zM:(ia ((m/(cp.2/2^1))*(cp.2/2^1))).length<=256:=bG (mU mM) zX;have zA:(ia (m+((m/(cp.2/2^1))*(cp.2/2^1)))).length<=256:=mn (k:=K+1) (by have:=bH 2 K;omega) aE;have zR:(ia (jX (false,m) (true,((m/(cp.2/2^1))*(cp.2/2^1)))).2).length<=256:=bG (mU (xX _ _)) zA;have zm:(ia (m%(cp.2/2^1))).length<=256:=bG (mU (dO _ _)) zX;have hg:(ia (m/(cp.2/2^1))).getD 0 0<4294967296:=JO _ 0;have h4:(ia (m/(cp.2/2^1))).getD 0 0%4<=3:= aE ;exact ak call405 func405 (af [ag [ie d] (pj _ aF),.o 19 (aq (if 0>(Dy.iE d)then 0 else(Dy.iE d)) t aR),iz ((b:Int)+t) aE,
  iz (((b+t:Nat):Int)+40) aE,ag [iP (((b+t)+40:Nat):Int)] rA,.c (wS cp.2 1 aF aE),ag [ie d,iP (((b+t)+40:Nat):Int)] uK,ag [ic (ia m),ic (ia (cp.2/2^1))] (Ae _ _ aE aE aF),ag [ic (ia (m/(cp.2/2^1))),ic (ia (cp.2/2^1))] (Af _ _ aF aF aF),ag [.agg [bP false,ic (ia m)],.agg [bP true,ic (ia ((m/(cp.2/2^1))*(cp.2/2^1)))]] (th (false,m) aF (true,((m/(cp.2/2^1))*(cp.2/2^1))) aF aF),tF 61 (0<((ia (m/(cp.2/2^1))).length:Int)) aE,iz ((t:Int)+40) aE,.c (wS ((jX (false,m) (true,((m/(cp.2/2^1))*(cp.2/2^1)))).2) (t+40) aF aE)]) 
def ace(d:Dy)(b:Nat)(hd:d.ik)(kP:16<=b)(mK:b<=1000)(ht:d.iE<=100):∃ (r:Bool×Nat) (k:Nat),r.2<=2^(b+1)/\k<=3/\gZ 405 [ie d,iP (b:Int)] (.iC [.agg [bP r.1,ic (ia r.2)],iP (k:Int)]):=by
 obtain⟨t,sw⟩:∃ t,t=d.iE.toNat:=⟨_,rfl⟩
 obtain⟨cp,c1,c2,c3,rA⟩:=Ri (b+t+40) aE aE;have uK:=LB d hd (b+t+40) 6000 aE aG aE;have iL:=J7 (d:=d) (b:=b+t+40) (K:=6000) aE;generalize rm d (b+t+40)=x at uK iL;have hp:(2:Nat)^(b+t+40+3)=2^(b+t+40)*8:=by rw[bE]
 have zd:(ia cp.2).length<=256:=mn (k:=b+t+40+3) (by have:0<2^(b+t+40):=bF aG;omega) aE;obtain⟨sg,m⟩:=x;have hle:=ak5 (x:=(sg,m)) (H:=cp.2/2^1) (b:=b) (t:=t) aE c3;by_cases hn:0<(ia (m/(cp.2/2^1))).length
 .cases sg with
  |false=>exact⟨((jX (false,m) (true,m/(cp.2/2^1)*(cp.2/2^1))).1,(jX (false,m) (true,m/(cp.2/2^1)*(cp.2/2^1))).2/2^(t+40)),_,hle,ak4 _,aci d b t m cp hd sw kP aE aE 6000 aG iL c1 zd rA uK hn⟩
  |true=>exact⟨((jX (true,m) (false,m/(cp.2/2^1)*(cp.2/2^1))).1,(jX (true,m) (false,m/(cp.2/2^1)*(cp.2/2^1))).2/2^(t+40)),_,hle,ak3 _,ach d b t m cp hd sw kP aE aE 6000 aG iL c1 zd rA uK hn⟩
 .cases sg with
  |false=>exact⟨((jX (false,m) (true,m/(cp.2/2^1)*(cp.2/2^1))).1,(jX (false,m) (true,m/(cp.2/2^1)*(cp.2/2^1))).2/2^(t+40)),_,hle,cj 3,acg d b t m cp hd sw kP aE aE 6000 aG iL c1 zd rA uK hn⟩
  |true=>exact⟨((jX (true,m) (false,m/(cp.2/2^1)*(cp.2/2^1))).1,(jX (true,m) (false,m/(cp.2/2^1)*(cp.2/2^1))).2/2^(t+40)),_,hle,cj 3,acf d b t m cp hd sw kP aE aE 6000 aG iL c1 zd rA uK hn⟩
def ack(x:Bool×Nat)(b N:Nat)(sy:x.2<=2^(b+1))(hb:b<=3000)(rT:N<=b+4)(h0:∀ k,k<N+1->ks x.2 b k≠0)(hN:ks x.2 b (N+1)=0):gZ 406 [.agg [bP x.1,ic (ia x.2)],iP b] (.iC [.agg [bP (((j8 x b N).1).1),ic (ia (((j8 x b N).1).2))],.agg [bP (((j8 x b N).2).1),ic (ia (((j8 x b N).2).2))]]):=by
 have zx:(ia x.2).length<=256:=mn (k:=b+2) (by have e:2^(b+2)=2^(b+1)*2:=bH _ _;have:0<2^(b+1):=bF aG;omega) aE;have z0:(ia 1).length<=256:=tC aG;have z1:(ia (1*2^b)).length<=256:=mn (k:=b+1) (by rw[bH,ck];have:0<2^b:=bF aG;omega) aE;exact ak call406 func406 (af [.o 10 (.e sE:aj (.sl false 1 1 λi_ j_=>[.v (.int .u32 1)].getD (i_*1+j_) (.v (.bool false))) (ic (ia 1))),.c (AN 1 b aF aE aF),.s (Sp.jv (YC x b N) 0 N aE (λi hi rX=>by
    have SF:=YH sy hb (k:=i) aE;obtain⟨f0,f1,f2,f3,f4,f5,f6,f7⟩:=SF;exact iG (ae [ag [.agg [bP (lN x i),ic (ia (ks x.2 b i))],.agg [bP x.1,ic (ia x.2)],iP b] (Mp ((lN x i),(ks x.2 b i)) aF x aF _ aE aF),ag [.agg [bP ((lN x i) != x.1),ic (ia ((ks x.2 b i)*x.2/2^b))],iP ((i+1:Nat):Int)] (Fx (((lN x i) != x.1),((ks x.2 b i)*x.2/2^b)) aF (i+1) aE aE),ag [.agg [bP (lN x (i+1)),ic (ia (ks x.2 b (i+1)))]] (DE ((lN x (i+1)),(ks x.2 b (i+1))) aF),tF 25 ((ks x.2 b (i+1))=0) (h0 (i+1) aE),.a (aE:0<(4:Int))]<|.w (2<=(i+1)%4)
     (λh4=>ae [tT 31 (2<=(((i+1)%4:Nat):Int)) aE,ag [.agg [bP (lN x (i+1)),ic (ia (ks x.2 b (i+1)))]] (wW ((lN x (i+1)),(ks x.2 b (i+1)))),.a (aE:0<(2:Int))]<|.w ((i+1)%2=1)
      (λho=>ae [ah 36 ((((i+1)%2:Nat):Int)==1) (by rw[ho];rfl),ag [.agg [bP (((j8 x b i).1).1),ic (ia (((j8 x b i).1).2))],.agg [bP (!(lN x (i+1))),ic (ia (ks x.2 b (i+1)))]] (th ((j8 x b i).1) aF ((!(lN x (i+1))),(ks x.2 b (i+1))) aF aF),
       iz (((i+1:Nat):Int)+1) aE]<|.e (af [.b 5 (.iM (by first|rfl|simp[j8,lN,ks,ho,h4]|simp[j8,lN,ks]):Bx.le (.cells 264 [bP (((j8 x b i).2).1),ic (ia (((j8 x b i).2).2))]) (.cells 264 [bP (((j8 x b (i+1)).2).1),ic (ia (((j8 x b (i+1)).2).2))])),.b 4 (.iM (by first|rfl|simp[j8,lN,ks,ho,h4]|simp[j8,lN,ks]):Bx.le (.cells 264 [bP ((jX ((j8 x b i).1) ((!(lN x (i+1))),(ks x.2 b (i+1)))).1),ic (ia ((jX ((j8 x b i).1) ((!(lN x (i+1))),(ks x.2 b (i+1)))).2))]) (.cells 264 [bP (((j8 x b (i+1)).1).1),ic (ia (((j8 x b (i+1)).1).2))]))]))
      (λho=>ae [ai 36 ((((i+1)%2:Nat):Int)==1) aS,ag [.agg [bP (((j8 x b i).2).1),ic (ia (((j8 x b i).2).2))],.agg [bP (!(lN x (i+1))),ic (ia (ks x.2 b (i+1)))]] (th ((j8 x b i).2) aF ((!(lN x (i+1))),(ks x.2 b (i+1))) aF aF),
       iz (((i+1:Nat):Int)+1) aE]<|.e (af [.b 5 (.iM (by first|rfl|simp[j8,lN,ks,ho,h4]|simp[j8,lN,ks]):Bx.le (.cells 264 [bP ((jX ((j8 x b i).2) ((!(lN x (i+1))),(ks x.2 b (i+1)))).1),ic (ia ((jX ((j8 x b i).2) ((!(lN x (i+1))),(ks x.2 b (i+1)))).2))]) (.cells 264 [bP (((j8 x b (i+1)).2).1),ic (ia (((j8 x b (i+1)).2).2))])),.b 4 (.iM (by first|rfl|simp[j8,lN,ks,ho,h4]|simp[j8,lN,ks]):Bx.le (.cells 264 [bP (((j8 x b i).1).1),ic (ia (((j8 x b i).1).2))]) (.cells 264 [bP (((j8 x b (i+1)).1).1),ic (ia (((j8 x b (i+1)).1).2))]))])))
     (λh4=>ae [tF 31 (2<=(((i+1)%4:Nat):Int)) aE,.a (aE:0<(2:Int))]<|.w ((i+1)%2=1)
      (λho=>ae [ah 36 ((((i+1)%2:Nat):Int)==1) (by rw[ho];rfl),ag [.agg [bP (((j8 x b i).1).1),ic (ia (((j8 x b i).1).2))],.agg [bP (lN x (i+1)),ic (ia (ks x.2 b (i+1)))]] (th ((j8 x b i).1) aF ((lN x (i+1)),(ks x.2 b (i+1))) aF aF),
       iz (((i+1:Nat):Int)+1) aE]<|.e (af [.b 5 (.iM (by first|rfl|simp[j8,lN,ks,ho,h4]|simp[j8,lN,ks]):Bx.le (.cells 264 [bP (((j8 x b i).2).1),ic (ia (((j8 x b i).2).2))]) (.cells 264 [bP (((j8 x b (i+1)).2).1),ic (ia (((j8 x b (i+1)).2).2))])),.b 4 (.iM (by first|rfl|simp[j8,lN,ks,ho,h4]|simp[j8,lN,ks]):Bx.le (.cells 264 [bP ((jX ((j8 x b i).1) ((lN x (i+1)),(ks x.2 b (i+1)))).1),ic (ia ((jX ((j8 x b i).1) ((lN x (i+1)),(ks x.2 b (i+1)))).2))]) (.cells 264 [bP (((j8 x b (i+1)).1).1),ic (ia (((j8 x b (i+1)).1).2))]))]))
      (λho=>ae [ai 36 ((((i+1)%2:Nat):Int)==1) aS,ag [.agg [bP (((j8 x b i).2).1),ic (ia (((j8 x b i).2).2))],.agg [bP (lN x (i+1)),ic (ia (ks x.2 b (i+1)))]] (th ((j8 x b i).2) aF ((lN x (i+1)),(ks x.2 b (i+1))) aF aF),
       iz (((i+1:Nat):Int)+1) aE]<|.e (af [.b 5 (.iM (by first|rfl|simp[j8,lN,ks,ho,h4]|simp[j8,lN,ks]):Bx.le (.cells 264 [bP ((jX ((j8 x b i).2) ((lN x (i+1)),(ks x.2 b (i+1)))).1),ic (ia ((jX ((j8 x b i).2) ((lN x (i+1)),(ks x.2 b (i+1)))).2))]) (.cells 264 [bP (((j8 x b (i+1)).2).1),ic (ia (((j8 x b (i+1)).2).2))])),.b 4 (.iM (by first|rfl|simp[j8,lN,ks,ho,h4]|simp[j8,lN,ks]):Bx.le (.cells 264 [bP (((j8 x b i).1).1),ic (ia (((j8 x b i).1).2))]) (.cells 264 [bP (((j8 x b (i+1)).1).1),ic (ia (((j8 x b (i+1)).1).2))]))])))) aI)
  (λhi=>by
    have SF:=YH sy hb (k:=N) aE;obtain⟨f0,f1,f2,f3,f4,f5,f6,f7⟩:=SF;exact iG (af [ag [.agg [bP (lN x N),ic (ia (ks x.2 b N))],.agg [bP x.1,ic (ia x.2)],iP b] (Mp ((lN x N),(ks x.2 b N)) aF x aF _ aE aF),ag [.agg [bP ((lN x N) != x.1),ic (ia ((ks x.2 b N)*x.2/2^b))],iP ((N+1:Nat):Int)] (Fx (((lN x N) != x.1),((ks x.2 b N)*x.2/2^b)) aF (N+1) aE aE),ag [.agg [bP (lN x (N+1)),ic (ia (ks x.2 b (N+1)))]] (DE ((lN x (N+1)),(ks x.2 b (N+1))) aF),tB 25 (bA hN)]) aI) aM:ju 6 f406 (YC x b N 0) .ret ⟨43,true,[(5,.box 5 0),(4,.box 4 0)],[(5,.cells 264 [bP (((j8 x b N).2).1),ic (ia (((j8 x b N).2).2))]),(4,.cells 264 [bP (((j8 x b N).1).1),ic (ia (((j8 x b N).1).2))])]⟩) (af [.o 8 (aq 1 ((0+1:Nat):Int) aT),.b 5 (.iM (by first|rfl|simp[j8,lN,ks,ho,h4]|simp[j8,lN,ks]):Bx.le (.cells 264 [bP false,ic (ia (1*2^b))]) (.cells 264 [bP (((j8 x b 0).2).1),ic (ia (((j8 x b 0).2).2))])),.b 7 (.iM (by first|rfl|simp[j8,lN,ks,ho,h4]|simp[j8,lN,ks]):Bx.le (.cells 264 [bP false,ic (ia (1*2^b))]) (.cells 264 [bP (lN x 0),ic (ia (ks x.2 b 0))])),.b 4 (afc:Bx.le (.cells 264 [bP false,.v (.slice none 0 0)]) (.cells 264 [bP (((j8 x b 0).1).1),ic (ia (((j8 x b 0).1).2))]))])]) 
def acm(x:Bool×Nat)(b:Nat)(sy:x.2<=2^(b+1))(hb:b<=3000):∃ s c:Bool×Nat,s.2<2^(b+14)/\c.2<2^(b+14)/\gZ 406 [.agg [bP x.1,ic (ia x.2)],iP (b:Int)] (.iC [.agg [bP s.1,ic (ia s.2)],.agg [bP c.1,ic (ia c.2)]]):=by
 obtain⟨N,n1,n2,n3,n4⟩:=afe sy;obtain⟨M,rfl⟩:∃ M,N=M+1:=⟨N-1,aE⟩
 obtain⟨a1,a2⟩:=YJ sy hb (k:=M) aE;exact⟨_,_,a1,a2,ack x b M sy hb aE n3 n4⟩
def AO(a:Bool×Nat)(b p:Nat)(ha:a.2<2^3000)(hb:b<=8000)(iw:8<=p)(ij:p<=512):gZ 408 [.agg [bP a.1,ic (ia a.2)],iP b,iP p] (ig (sV a b p)):=by
 have z1:(ia 1).length<=256:=tC aG;have z2:(ia (1*2^24)).length<=256:=tC aG;have z3:(ia a.2).length<=256:=mn ha aG;have hs:=Kd (n:=3000) ha (show 1*2^24<2^25 by decide) aG aG;have z4:(ia (a.2+1*2^24)).length<=256:=mn hs aG;have l1:=cB (show(jX a ((!false),(1*2^24))).2<=_ from xX _ _) hs;have l2:=cB (show(jX a (false,(1*2^24))).2<=_ from xX _ _) hs;have z5:(ia (jX a ((!false),(1*2^24))).2).length<=256:=mn l1 aG;have z6:(ia (jX a (false,(1*2^24))).2).length<=256:=mn l2 aG;have e3:(0-(b:Int)) = -(b:Int):=Int.zero_sub _;have r1:oB (canon (jX a ((!false),(1*2^24))).1 (jX a ((!false),(1*2^24))).2 (0-(b:Int))):=by rw[e3];exact V7 (GN (k:=4000) l1 aG) hb
 have r2:oB (canon (jX a (false,(1*2^24))).1 (jX a (false,(1*2^24))).2 (0-(b:Int))):=by rw[e3];exact V7 (GN (k:=4000) l2 aG) hb
 have v1:(canon (jX a ((!false),(1*2^24))).1 (jX a ((!false),(1*2^24))).2 (0-(b:Int))).ik:=V8 r1;have v2:(canon (jX a (false,(1*2^24))).1 (jX a (false,(1*2^24))).2 (0-(b:Int))).ik:=V8 r2;have hN:sV a b p=kX (jf (canon (jX a ((!false),(1*2^24))).1 (jX a ((!false),(1*2^24))).2 (0-(b:Int))) p false) (jx (canon (jX a ((!false),(1*2^24))).1 (jX a ((!false),(1*2^24))).2 (0-(b:Int))) p false) (jf (canon (jX a (false,(1*2^24))).1 (jX a (false,(1*2^24))).2 (0-(b:Int))) p true) (jx (canon (jX a (false,(1*2^24))).1 (jX a (false,(1*2^24))).2 (0-(b:Int))) p true):=by rw[e3];rfl
 exact ak call408 func408 (ae [.o 14 (.e sE:aj (.sl false 1 1 λi_ j_=>[.v (.int .u32 1)].getD (i_*1+j_) (.v (.bool false))) (ic (ia 1))),.c (AN 1 24 aF aE aF),ag [.agg [bP false,ic (ia (1*2^24))]] (wW (false,(1*2^24))),ag [.agg [bP a.1,ic (ia a.2)],.agg [bP (!false),ic (ia (1*2^24))]] (th a aF ((!false),(1*2^24)) aF aF),ag [.agg [bP a.1,ic (ia a.2)],.agg [bP false,ic (ia (1*2^24))]] (th a aF (false,(1*2^24)) aF aF),iz (0-(b:Int)) aE,ag [bP ((jX a ((!false),(1*2^24))).1),ic (ia ((jX a ((!false),(1*2^24))).2)),iP (0-(b:Int))] (BZ _ _ _ aF aE aE aF),
  iz (0-(b:Int)) aE,ag [bP ((jX a (false,(1*2^24))).1),ic (ia ((jX a (false,(1*2^24))).2)),iP (0-(b:Int))] (BZ _ _ _ aF aE aE aF),ai 45 ((0:Int) != 0) aG,ai 48 ((0:Int) != 0) aG,.c (Ih (canon ((jX a (!false,(1*2^24))).1) ((jX a (!false,(1*2^24))).2) (0-(b:Int))) p aF aE aE),.c (Ii (canon ((jX a (false,(1*2^24))).1) ((jX a (false,(1*2^24))).2) (0-(b:Int))) p aF aE aE)]<|.w ((jx (canon ((jX a ((!false),(1*2^24))).1) ((jX a ((!false),(1*2^24))).2) (0-(b:Int))) p false)=0)
  (λk1=>ae [tB 64 (bq k1)]<|.w ((jx (canon ((jX a (false,(1*2^24))).1) ((jX a (false,(1*2^24))).2) (0-(b:Int))) p true)=0)
   (λk2=>ae [tB 67 (bq k2)]<|rQ (ig (Iv.mk (jf (canon ((jX a ((!false),(1*2^24))).1) ((jX a ((!false),(1*2^24))).2) (0-(b:Int))) p false) (jf (canon ((jX a (false,(1*2^24))).1) ((jX a (false,(1*2^24))).2) (0-(b:Int))) p true) false)) (ig (sV a b p)) (by rw[hN,ah2 k1 k2]))
   (λk2=>ae [tB 67 (bt k2),.c nS]<|rQ (ig iu) (ig (sV a b p)) (by rw[hN,VX (.inr k2)])))
  (λk1=>ae [tB 64 (bt k1),.c nS]<|rQ (ig iu) (ig (sV a b p)) (by rw[hN,VX (.inl k1)]))) 
def acb(d:Dy)(p:Nat)(hd:d.ik)(h0:d.jb=0)(iw:8<=p)(ij:p<=512):gZ 396 [ie d,bP true,iP p] (ig (iS 1)):=by
 have hv:=sA (n:=1) aG;exact ak call396 func396 (af [ag [ie d] (pv _ aF),ah 14 ((Dy.jb d)==0) (by rw[h0];rfl),ag [iP 1] (q9 _ aE),.c (Cw (jo 1) aF)]) 
def ab3(d:Dy)(p:Nat)(r s c:Bool×Nat)(hd:d.ik)(h0:d.jb≠0)(qd:gZ 405 [ie d,iP ((p+64:Nat):Int)] (.iC [.agg [bP r.1,ic (ia r.2)],iP 0]))(qe:gZ 406 [.agg [bP r.1,ic (ia r.2)],iP ((p+64:Nat):Int)] (.iC [.agg [bP s.1,ic (ia s.2)],.agg [bP c.1,ic (ia c.2)]]))(zs:s.2<2^3000)(zc:c.2<2^3000)(iw:8<=p)(ij:p<=512):gZ 396 [ie d,bP true,iP p] (ig (sV c (p+64) p)):=by
 have zk:c.2<2^3000:=zc;exact ak call396 func396 (af [ag [ie d] (pv _ aF),ai 14 ((Dy.jb d)==0) (by simpa using h0),iz ((p:Int)+64) aE,ag [ie d,iP ((p+64:Nat):Int)] qd,ag [.agg [bP r.1,ic (ia r.2)],iP ((p+64:Nat):Int)] qe,iz (0+1) aE,.a (aE:0<(4:Int)),.o 38 (aq (Int.tmod (0+1) 4) 1 aG),ah 40 ((1:Int)==1) aG,ag [.agg [bP c.1,ic (ia c.2)],iP ((p+64:Nat):Int),iP p] (AO c _ _ aF aE aE aE)]) 
def ab4(d:Dy)(p:Nat)(r s c:Bool×Nat)(hd:d.ik)(h0:d.jb≠0)(qd:gZ 405 [ie d,iP ((p+64:Nat):Int)] (.iC [.agg [bP r.1,ic (ia r.2)],iP 1]))(qe:gZ 406 [.agg [bP r.1,ic (ia r.2)],iP ((p+64:Nat):Int)] (.iC [.agg [bP s.1,ic (ia s.2)],.agg [bP c.1,ic (ia c.2)]]))(zs:s.2<2^3000)(zc:c.2<2^3000)(iw:8<=p)(ij:p<=512):gZ 396 [ie d,bP true,iP p] (ig (sV ((!s.1),s.2) (p+64) p)):=by
 have zk:((!s.1),s.2).2<2^3000:=zs;exact ak call396 func396 (af [ag [ie d] (pv _ aF),ai 14 ((Dy.jb d)==0) (by simpa using h0),iz ((p:Int)+64) aE,ag [ie d,iP ((p+64:Nat):Int)] qd,ag [.agg [bP r.1,ic (ia r.2)],iP ((p+64:Nat):Int)] qe,iz (1+1) aE,.a (aE:0<(4:Int)),.o 38 (aq (Int.tmod (1+1) 4) 2 aG),ai 40 ((2:Int)==1) aG,ah 43 ((2:Int)==2) aG,ag [.agg [bP s.1,ic (ia s.2)]] (wW (s.1,s.2)),ag [.agg [bP (!s.1),ic (ia s.2)],iP ((p+64:Nat):Int),iP p] (AO ((!s.1),s.2) _ _ aF aE aE aE)]) 
def ab5(d:Dy)(p:Nat)(r s c:Bool×Nat)(hd:d.ik)(h0:d.jb≠0)(qd:gZ 405 [ie d,iP ((p+64:Nat):Int)] (.iC [.agg [bP r.1,ic (ia r.2)],iP 2]))(qe:gZ 406 [.agg [bP r.1,ic (ia r.2)],iP ((p+64:Nat):Int)] (.iC [.agg [bP s.1,ic (ia s.2)],.agg [bP c.1,ic (ia c.2)]]))(zs:s.2<2^3000)(zc:c.2<2^3000)(iw:8<=p)(ij:p<=512):gZ 396 [ie d,bP true,iP p] (ig (sV ((!c.1),c.2) (p+64) p)):=by
 have zk:((!c.1),c.2).2<2^3000:=zc;exact ak call396 func396 (af [ag [ie d] (pv _ aF),ai 14 ((Dy.jb d)==0) (by simpa using h0),iz ((p:Int)+64) aE,ag [ie d,iP ((p+64:Nat):Int)] qd,ag [.agg [bP r.1,ic (ia r.2)],iP ((p+64:Nat):Int)] qe,iz (2+1) aE,.a (aE:0<(4:Int)),.o 38 (aq (Int.tmod (2+1) 4) 3 aG),ai 40 ((3:Int)==1) aG,ai 43 ((3:Int)==2) aG,ah 47 ((3:Int)==3) aG,ag [.agg [bP c.1,ic (ia c.2)]] (wW (c.1,c.2)),ag [.agg [bP (!c.1),ic (ia c.2)],iP ((p+64:Nat):Int),iP p] (AO ((!c.1),c.2) _ _ aF aE aE aE)]) 
def ab6(d:Dy)(p:Nat)(r s c:Bool×Nat)(hd:d.ik)(h0:d.jb≠0)(qd:gZ 405 [ie d,iP ((p+64:Nat):Int)] (.iC [.agg [bP r.1,ic (ia r.2)],iP 3]))(qe:gZ 406 [.agg [bP r.1,ic (ia r.2)],iP ((p+64:Nat):Int)] (.iC [.agg [bP s.1,ic (ia s.2)],.agg [bP c.1,ic (ia c.2)]]))(zs:s.2<2^3000)(zc:c.2<2^3000)(iw:8<=p)(ij:p<=512):gZ 396 [ie d,bP true,iP p] (ig (sV s (p+64) p)):=by
 have zk:s.2<2^3000:=zs;exact ak call396 func396 (af [ag [ie d] (pv _ aF),ai 14 ((Dy.jb d)==0) (by simpa using h0),iz ((p:Int)+64) aE,ag [ie d,iP ((p+64:Nat):Int)] qd,ag [.agg [bP r.1,ic (ia r.2)],iP ((p+64:Nat):Int)] qe,iz (3+1) aE,.a (aE:0<(4:Int)),.o 38 (aq (Int.tmod (3+1) 4) 0 aG),ai 40 ((0:Int)==1) aG,ai 43 ((0:Int)==2) aG,ai 47 ((0:Int)==3) aG,ag [.agg [bP s.1,ic (ia s.2)],iP ((p+64:Nat):Int),iP p] (AO s _ _ aF aE aE aE)]) 
def acd(d:Dy)(p:Nat)(hd:d.ik)(h0:d.jb=0)(iw:8<=p)(ij:p<=512):gZ 396 [ie d,bP false,iP p] (ig (mi d)):=
 ak call396 func396 (af [ag [ie d] (pv _ aF),ah 14 ((Dy.jb d)==0) (by rw[h0];rfl),.c (Cw d aF)]) 
def ab7(d:Dy)(p:Nat)(r s c:Bool×Nat)(hd:d.ik)(h0:d.jb≠0)(qd:gZ 405 [ie d,iP ((p+64:Nat):Int)] (.iC [.agg [bP r.1,ic (ia r.2)],iP 0]))(qe:gZ 406 [.agg [bP r.1,ic (ia r.2)],iP ((p+64:Nat):Int)] (.iC [.agg [bP s.1,ic (ia s.2)],.agg [bP c.1,ic (ia c.2)]]))(zs:s.2<2^3000)(zc:c.2<2^3000)(iw:8<=p)(ij:p<=512):gZ 396 [ie d,bP false,iP p] (ig (sV s (p+64) p)):=by
 have zk:s.2<2^3000:=zs;exact ak call396 func396 (af [ag [ie d] (pv _ aF),ai 14 ((Dy.jb d)==0) (by simpa using h0),iz ((p:Int)+64) aE,ag [ie d,iP ((p+64:Nat):Int)] qd,ag [.agg [bP r.1,ic (ia r.2)],iP ((p+64:Nat):Int)] qe,.a (aE:0<(4:Int)),.o 38 (aq (Int.tmod 0 4) 0 aG),ai 40 ((0:Int)==1) aG,ai 43 ((0:Int)==2) aG,ai 47 ((0:Int)==3) aG,ag [.agg [bP s.1,ic (ia s.2)],iP ((p+64:Nat):Int),iP p] (AO s _ _ aF aE aE aE)]) 
def ab8(d:Dy)(p:Nat)(r s c:Bool×Nat)(hd:d.ik)(h0:d.jb≠0)(qd:gZ 405 [ie d,iP ((p+64:Nat):Int)] (.iC [.agg [bP r.1,ic (ia r.2)],iP 1]))(qe:gZ 406 [.agg [bP r.1,ic (ia r.2)],iP ((p+64:Nat):Int)] (.iC [.agg [bP s.1,ic (ia s.2)],.agg [bP c.1,ic (ia c.2)]]))(zs:s.2<2^3000)(zc:c.2<2^3000)(iw:8<=p)(ij:p<=512):gZ 396 [ie d,bP false,iP p] (ig (sV c (p+64) p)):=by
 have zk:c.2<2^3000:=zc;exact ak call396 func396 (af [ag [ie d] (pv _ aF),ai 14 ((Dy.jb d)==0) (by simpa using h0),iz ((p:Int)+64) aE,ag [ie d,iP ((p+64:Nat):Int)] qd,ag [.agg [bP r.1,ic (ia r.2)],iP ((p+64:Nat):Int)] qe,.a (aE:0<(4:Int)),.o 38 (aq (Int.tmod 1 4) 1 aG),ah 40 ((1:Int)==1) aG,ag [.agg [bP c.1,ic (ia c.2)],iP ((p+64:Nat):Int),iP p] (AO c _ _ aF aE aE aE)]) 
def ab9(d:Dy)(p:Nat)(r s c:Bool×Nat)(hd:d.ik)(h0:d.jb≠0)(qd:gZ 405 [ie d,iP ((p+64:Nat):Int)] (.iC [.agg [bP r.1,ic (ia r.2)],iP 2]))(qe:gZ 406 [.agg [bP r.1,ic (ia r.2)],iP ((p+64:Nat):Int)] (.iC [.agg [bP s.1,ic (ia s.2)],.agg [bP c.1,ic (ia c.2)]]))(zs:s.2<2^3000)(zc:c.2<2^3000)(iw:8<=p)(ij:p<=512):gZ 396 [ie d,bP false,iP p] (ig (sV ((!s.1),s.2) (p+64) p)):=by
 have zk:((!s.1),s.2).2<2^3000:=zs;exact ak call396 func396 (af [ag [ie d] (pv _ aF),ai 14 ((Dy.jb d)==0) (by simpa using h0),iz ((p:Int)+64) aE,ag [ie d,iP ((p+64:Nat):Int)] qd,ag [.agg [bP r.1,ic (ia r.2)],iP ((p+64:Nat):Int)] qe,.a (aE:0<(4:Int)),.o 38 (aq (Int.tmod 2 4) 2 aG),ai 40 ((2:Int)==1) aG,ah 43 ((2:Int)==2) aG,ag [.agg [bP s.1,ic (ia s.2)]] (wW (s.1,s.2)),ag [.agg [bP (!s.1),ic (ia s.2)],iP ((p+64:Nat):Int),iP p] (AO ((!s.1),s.2) _ _ aF aE aE aE)]) 
def aca(d:Dy)(p:Nat)(r s c:Bool×Nat)(hd:d.ik)(h0:d.jb≠0)(qd:gZ 405 [ie d,iP ((p+64:Nat):Int)] (.iC [.agg [bP r.1,ic (ia r.2)],iP 3]))(qe:gZ 406 [.agg [bP r.1,ic (ia r.2)],iP ((p+64:Nat):Int)] (.iC [.agg [bP s.1,ic (ia s.2)],.agg [bP c.1,ic (ia c.2)]]))(zs:s.2<2^3000)(zc:c.2<2^3000)(iw:8<=p)(ij:p<=512):gZ 396 [ie d,bP false,iP p] (ig (sV ((!c.1),c.2) (p+64) p)):=by
 have zk:((!c.1),c.2).2<2^3000:=zc;exact ak call396 func396 (af [ag [ie d] (pv _ aF),ai 14 ((Dy.jb d)==0) (by simpa using h0),iz ((p:Int)+64) aE,ag [ie d,iP ((p+64:Nat):Int)] qd,ag [.agg [bP r.1,ic (ia r.2)],iP ((p+64:Nat):Int)] qe,.a (aE:0<(4:Int)),.o 38 (aq (Int.tmod 3 4) 3 aG),ai 40 ((3:Int)==1) aG,ai 43 ((3:Int)==2) aG,ah 47 ((3:Int)==3) aG,ag [.agg [bP c.1,ic (ia c.2)]] (wW (c.1,c.2)),ag [.agg [bP (!c.1),ic (ia c.2)],iP ((p+64:Nat):Int),iP p] (AO ((!c.1),c.2) _ _ aF aE aE aE)]) 
def Rj{d:Dy}(hd:d.ik)(ht:d.iE<=100)(cs:Bool){p:Nat}(iw:8<=p)(ij:p<=512):∃ Z,Z.ik/\gZ 396 [ie d,bP cs,iP (p:Int)] (ig Z):=by
 by_cases h0:d.jb=0
 .cases cs with
  |true=>exact⟨_,wA aG,acb d p hd h0 iw ij⟩
  |false=>exact⟨_,uo hd,acd d p hd h0 iw ij⟩
 .obtain ⟨r,k,hr,hk,qd⟩:=ace d (p+64) hd aE aE ht;obtain⟨s,c,zs,zc,qe⟩:=acm r (p+64) hr aE;have zs:=GN zs (k:=3000) aE;have zc:=GN zc (k:=3000) aE;have hv:∀ a:Bool×Nat,(sV a (p+64) p).ik:=λa=>aiE a _ aE aE 
  rcases(aE:k=0\/k=1\/k=2\/k=3)with rfl|rfl|rfl|rfl
  .cases cs with
   |true=>exact⟨_,hv _,ab3 d p r s c hd h0 qd qe zs zc iw ij⟩
   |false=>exact⟨_,hv _,ab7 d p r s c hd h0 qd qe zs zc iw ij⟩
  .cases cs with
   |true=>exact⟨_,hv _,ab4 d p r s c hd h0 qd qe zs zc iw ij⟩
   |false=>exact⟨_,hv _,ab8 d p r s c hd h0 qd qe zs zc iw ij⟩
  .cases cs with
   |true=>exact⟨_,hv _,ab5 d p r s c hd h0 qd qe zs zc iw ij⟩
   |false=>exact⟨_,hv _,ab9 d p r s c hd h0 qd qe zs zc iw ij⟩
  .cases cs with
   |true=>exact⟨_,hv _,ab6 d p r s c hd h0 qd qe zs zc iw ij⟩
   |false=>exact⟨_,hv _,aca d p r s c hd h0 qd qe zs zc iw ij⟩
def agX:(jo (-1)).neg=true/\(jo (-1)).m=1/\(jo (-1)).e=0:= aQ 
def aco : gZ 412 [iP (-1)] (.agg [bP true,ic (ia 1)]):=by
 obtain⟨q1,q2,q3⟩:=agX;have z1:(ia (jo (-1)).m).length<=256:=by rw[q2];exact tC aG 
 have z2:(ia ((jo (-1)).m*2^(Int.toNat (jo (-1)).e))).length<=256:=by rw[q2,q3];exact tC aG 
 exact ak call412 func412 (ae [ag [iP (-1)] (q9 _ aE),ag [ic (ia ((jo (-1)).m)),iP ((jo (-1)).e)] (LA _ _ aF aE aE aF)]<|rQ (.agg [bP ((jo (-1)).neg),ic (ia (((jo (-1)).m)*2^(Int.toNat ((jo (-1)).e))))]) (.agg [bP true,ic (ia 1)]) (by rw[q1,q2,q3];rfl)) 
def abU(a c:Bool×Nat)(za:(ia a.2).length<=256)(zc:(ia c.2).length<=256)(c0:c.2≠0)(zs:(ia (a.2/c.2+1)).length<=256)(h1:a.1=false):gZ 414 [.agg [bP a.1,ic (ia a.2)],.agg [bP c.1,ic (ia c.2)]] (.agg [bP ((pV a c).1),ic (ia ((pV a c).2))]):=by
 have zq:(ia (a.2/c.2)).length<=256:=bG (mU (bV _ _)) za;have zr:(ia (a.2%c.2)).length<=256:=bG (mU (dO _ _)) za;have z1:(ia 1).length<=256:=tC aG;have e:pV a c=(a.1,a.2/c.2):=by unfold pV;rw[bu (by rw[h1];exact λq=>Bool.noConfusion q.1)]
 exact ak call414 func414 (ae [ag [ic (ia a.2),ic (ia c.2)] (Ae _ _ aE aE aF),ai 19 a.1 h1,ai 23 a.1 h1]<|rQ (.agg [bP false,ic (ia (a.2/c.2))]) (.agg [bP ((pV a c).1),ic (ia ((pV a c).2))]) (by rw[e,h1])) 
def abR(a c:Bool×Nat)(za:(ia a.2).length<=256)(zc:(ia c.2).length<=256)(c0:c.2≠0)(zs:(ia (a.2/c.2+1)).length<=256)(h1:a.1=true)(h2:a.2%c.2=0):gZ 414 [.agg [bP a.1,ic (ia a.2)],.agg [bP c.1,ic (ia c.2)]] (.agg [bP ((pV a c).1),ic (ia ((pV a c).2))]):=by
 have zq:(ia (a.2/c.2)).length<=256:=bG (mU (bV _ _)) za;have zr:(ia (a.2%c.2)).length<=256:=bG (mU (dO _ _)) za;have z1:(ia 1).length<=256:=tC aG;have e:pV a c=(a.1,a.2/c.2):=by unfold pV;rw[bu (λq=>q.2 h2)]
 exact ak call414 func414 (ae [ag [ic (ia a.2),ic (ia c.2)] (Ae _ _ aE aE aF),ah 19 a.1 h1,ah 23 a.1 h1,ag [ic (ia (a.2%c.2))] (sU _ aE),tF 27 (0<(iq (a.2%c.2):Int)) (by rw[h2,rq];decide)]<|rQ (.agg [bP true,ic (ia (a.2/c.2))]) (.agg [bP ((pV a c).1),ic (ia ((pV a c).2))]) (by rw[e,h1])) 
def abS(a c:Bool×Nat)(za:(ia a.2).length<=256)(zc:(ia c.2).length<=256)(c0:c.2≠0)(zs:(ia (a.2/c.2+1)).length<=256)(h1:a.1=true)(h2:a.2%c.2≠0):gZ 414 [.agg [bP a.1,ic (ia a.2)],.agg [bP c.1,ic (ia c.2)]] (.agg [bP ((pV a c).1),ic (ia ((pV a c).2))]):=by
 have zq:(ia (a.2/c.2)).length<=256:=bG (mU (bV _ _)) za;have zr:(ia (a.2%c.2)).length<=256:=bG (mU (dO _ _)) za;have z1:(ia 1).length<=256:=tC aG;have e:pV a c=jX (a.1,a.2/c.2) (true,1):=by unfold pV;rw[bw ⟨h1,h2⟩]
 exact ak call414 func414 (ae [ag [ic (ia a.2),ic (ia c.2)] (Ae _ _ aE aE aF),ah 19 a.1 h1,ah 23 a.1 h1,ag [ic (ia (a.2%c.2))] (sU _ aE),tT 27 (0<(iq (a.2%c.2):Int)) (by have:=nv h2;omega),.c aco,ag [.agg [bP true,ic (ia (a.2/c.2))],.agg [bP true,ic (ia 1)]] (th (true,(a.2/c.2)) aF (true,1) aF aF)]<|rQ (.agg [bP ((jX (true,(a.2/c.2)) (true,1)).1),ic (ia ((jX (true,(a.2/c.2)) (true,1)).2))]) (.agg [bP ((pV a c).1),ic (ia ((pV a c).2))]) (by rw[e,h1])) 
def abT(a c:Bool×Nat)(za:(ia a.2).length<=256)(zc:(ia c.2).length<=256)(c0:c.2≠0)(zs:(ia (a.2/c.2+1)).length<=256):gZ 414 [.agg [bP a.1,ic (ia a.2)],.agg [bP c.1,ic (ia c.2)]] (.agg [bP ((pV a c).1),ic (ia ((pV a c).2))]):=by
 cases h1:a.1 with
 |false=>rw[<-h1];exact abU a c za zc c0 zs h1
 |true=>
  rw[<-h1];by_cases h2:a.2%c.2=0
  .exact abR a c za zc c0 zs h1 h2
  .exact abS a c za zc c0 zs h1 h2
def abZ(x:Iv)(n p t w2 sg eg mm:Nat)(cp u v c1 a0 a1 k l0 d0 d1:Bool×Nat)(hx:x.ik)(xa:x.all=false)(hn:n<=3)(ij:p<=2000)(ht:(t:Int)=max (max x.lo.iE x.hi.iE) 0)(t2:t<=2000)(zd:(ia d1.2).length<=256)(rA:gZ 409 [iP (((p+t)+40:Nat):Int)] (.agg [bP cp.1,ic (ia cp.2)]))(hU:gZ 415 [ie x.hi,iP (((p+t)+40:Nat):Int)] (.agg [bP u.1,ic (ia u.2)]))(hV:gZ 415 [ie x.lo,iP (((p+t)+40:Nat):Int)] (.agg [bP v.1,ic (ia v.2)]))(hW:gZ 410 [ic (ia cp.2),iP ((1:Nat):Int)] (ic (ia w2)))(DJ:gZ 413 [.agg [bP false,ic (ia n)],.agg [bP cp.1,ic (ia cp.2)],iP ((0:Nat):Int)] (.agg [bP c1.1,ic (ia c1.2)]))(hS:gZ 411 [ic (ia c1.2),iP ((1:Nat):Int)] (ic (ia sg)))(hE:gZ 410 [ic (ia 1),iP (((t+24)+4:Nat):Int)] (ic (ia eg)))(uI:gZ 416 [.agg [bP u.1,ic (ia u.2)],.agg [bP (!false),ic (ia sg)]] (.agg [bP a0.1,ic (ia a0.2)]))(AX:gZ 416 [.agg [bP a0.1,ic (ia a0.2)],.agg [bP false,ic (ia eg)]] (.agg [bP a1.1,ic (ia a1.2)]))(hK:gZ 414 [.agg [bP a1.1,ic (ia a1.2)],.agg [bP false,ic (ia w2)]] (.agg [bP k.1,ic (ia k.2)]))(hM:gZ 218 [ic (ia k.2),ic (ia w2)] (.iC [ic (ia mm),iP 0]))(vR:gZ 416 [.agg [bP k.1,ic (ia mm)],.agg [bP false,ic (ia sg)]] (.agg [bP l0.1,ic (ia l0.2)]))(xZ:gZ 416 [.agg [bP l0.1,ic (ia l0.2)],.agg [bP (!v.1),ic (ia v.2)]] (.agg [bP d0.1,ic (ia d0.2)]))(DK:gZ 416 [.agg [bP d0.1,ic (ia d0.2)],.agg [bP false,ic (ia eg)]] (.agg [bP d1.1,ic (ia d1.2)]))(hz:d1.2=0):gZ 397 [ig x,iP n,iP p] (bP true):=by
 obtain⟨w1,w2'⟩:=hx.kp;have z1:(ia 1).length<=256:=tC aG;exact ak call397 func397 (af [ag [ie x.lo] (pj _ aF),ag [ie x.hi] (pj _ aF),.o 24 (aq (if 0>(if(Dy.iE x.hi)>(Dy.iE x.lo)then(Dy.iE x.hi)else(Dy.iE x.lo))then 0 else(if(Dy.iE x.hi)>(Dy.iE x.lo)then(Dy.iE x.hi)else(Dy.iE x.lo))) t (by(repeat' split)<;>omega)),
  iz ((p:Int)+t) aE,iz (((p+t:Nat):Int)+40) aE,ag [iP (((p+t)+40:Nat):Int)] rA,ag [ic (ia cp.2),iP 1] hW,.c (LD n aE),ag [.agg [bP false,ic (ia n)],.agg [bP cp.1,ic (ia cp.2)],iP 0] DJ,ag [ic (ia c1.2),iP 1] hS,.o 42 (.e sE:aj (.sl false 1 1 λi_ j_=>[.v (.int .u32 1)].getD (i_*1+j_) (.v (.bool false))) (ic (ia 1))),iz ((t:Int)+24) aE,iz (((t+24:Nat):Int)+4) aE,ag [ic (ia 1),iP (((t+24)+4:Nat):Int)] hE,ag [ie x.hi,iP (((p+t)+40:Nat):Int)] hU,ag [.agg [bP false,ic (ia sg)]] (wW (false,sg)),ag [.agg [bP u.1,ic (ia u.2)],.agg [bP (!false),ic (ia sg)]] uI,ag [.agg [bP a0.1,ic (ia a0.2)],.agg [bP false,ic (ia eg)]] AX,ag [.agg [bP a1.1,ic (ia a1.2)],.agg [bP false,ic (ia w2)]] hK,ag [ic (ia k.2),ic (ia w2)] hM,ag [.agg [bP k.1,ic (ia mm)],.agg [bP false,ic (ia sg)]] vR,ag [ie x.lo,iP (((p+t)+40:Nat):Int)] hV,ag [.agg [bP v.1,ic (ia v.2)]] (wW (v.1,v.2)),ag [.agg [bP l0.1,ic (ia l0.2)],.agg [bP (!v.1),ic (ia v.2)]] xZ,ag [.agg [bP d0.1,ic (ia d0.2)],.agg [bP false,ic (ia eg)]] DK,ag [.agg [bP d1.1,ic (ia d1.2)]] (DE (d1.1,d1.2) aF),tB 83 (bA hz)]) 
def abY(x:Iv)(n p t w2 sg eg mm:Nat)(cp u v c1 a0 a1 k l0 d0 d1:Bool×Nat)(hx:x.ik)(xa:x.all=false)(hn:n<=3)(ij:p<=2000)(ht:(t:Int)=max (max x.lo.iE x.hi.iE) 0)(t2:t<=2000)(zd:(ia d1.2).length<=256)(rA:gZ 409 [iP (((p+t)+40:Nat):Int)] (.agg [bP cp.1,ic (ia cp.2)]))(hU:gZ 415 [ie x.hi,iP (((p+t)+40:Nat):Int)] (.agg [bP u.1,ic (ia u.2)]))(hV:gZ 415 [ie x.lo,iP (((p+t)+40:Nat):Int)] (.agg [bP v.1,ic (ia v.2)]))(hW:gZ 410 [ic (ia cp.2),iP ((1:Nat):Int)] (ic (ia w2)))(DJ:gZ 413 [.agg [bP false,ic (ia n)],.agg [bP cp.1,ic (ia cp.2)],iP ((0:Nat):Int)] (.agg [bP c1.1,ic (ia c1.2)]))(hS:gZ 411 [ic (ia c1.2),iP ((1:Nat):Int)] (ic (ia sg)))(hE:gZ 410 [ic (ia 1),iP (((t+24)+4:Nat):Int)] (ic (ia eg)))(uI:gZ 416 [.agg [bP u.1,ic (ia u.2)],.agg [bP (!false),ic (ia sg)]] (.agg [bP a0.1,ic (ia a0.2)]))(AX:gZ 416 [.agg [bP a0.1,ic (ia a0.2)],.agg [bP false,ic (ia eg)]] (.agg [bP a1.1,ic (ia a1.2)]))(hK:gZ 414 [.agg [bP a1.1,ic (ia a1.2)],.agg [bP false,ic (ia w2)]] (.agg [bP k.1,ic (ia k.2)]))(hM:gZ 218 [ic (ia k.2),ic (ia w2)] (.iC [ic (ia mm),iP 0]))(vR:gZ 416 [.agg [bP k.1,ic (ia mm)],.agg [bP false,ic (ia sg)]] (.agg [bP l0.1,ic (ia l0.2)]))(xZ:gZ 416 [.agg [bP l0.1,ic (ia l0.2)],.agg [bP (!v.1),ic (ia v.2)]] (.agg [bP d0.1,ic (ia d0.2)]))(DK:gZ 416 [.agg [bP d0.1,ic (ia d0.2)],.agg [bP false,ic (ia eg)]] (.agg [bP d1.1,ic (ia d1.2)]))(hz:¬d1.2=0):gZ 397 [ig x,iP n,iP p] (bP (!d1.1)):=by
 obtain⟨w1,w2'⟩:=hx.kp;have z1:(ia 1).length<=256:=tC aG;exact ak call397 func397 (af [ag [ie x.lo] (pj _ aF),ag [ie x.hi] (pj _ aF),.o 24 (aq (if 0>(if(Dy.iE x.hi)>(Dy.iE x.lo)then(Dy.iE x.hi)else(Dy.iE x.lo))then 0 else(if(Dy.iE x.hi)>(Dy.iE x.lo)then(Dy.iE x.hi)else(Dy.iE x.lo))) t (by(repeat' split)<;>omega)),
  iz ((p:Int)+t) aE,iz (((p+t:Nat):Int)+40) aE,ag [iP (((p+t)+40:Nat):Int)] rA,ag [ic (ia cp.2),iP 1] hW,.c (LD n aE),ag [.agg [bP false,ic (ia n)],.agg [bP cp.1,ic (ia cp.2)],iP 0] DJ,ag [ic (ia c1.2),iP 1] hS,.o 42 (.e sE:aj (.sl false 1 1 λi_ j_=>[.v (.int .u32 1)].getD (i_*1+j_) (.v (.bool false))) (ic (ia 1))),iz ((t:Int)+24) aE,iz (((t+24:Nat):Int)+4) aE,ag [ic (ia 1),iP (((t+24)+4:Nat):Int)] hE,ag [ie x.hi,iP (((p+t)+40:Nat):Int)] hU,ag [.agg [bP false,ic (ia sg)]] (wW (false,sg)),ag [.agg [bP u.1,ic (ia u.2)],.agg [bP (!false),ic (ia sg)]] uI,ag [.agg [bP a0.1,ic (ia a0.2)],.agg [bP false,ic (ia eg)]] AX,ag [.agg [bP a1.1,ic (ia a1.2)],.agg [bP false,ic (ia w2)]] hK,ag [ic (ia k.2),ic (ia w2)] hM,ag [.agg [bP k.1,ic (ia mm)],.agg [bP false,ic (ia sg)]] vR,ag [ie x.lo,iP (((p+t)+40:Nat):Int)] hV,ag [.agg [bP v.1,ic (ia v.2)]] (wW (v.1,v.2)),ag [.agg [bP l0.1,ic (ia l0.2)],.agg [bP (!v.1),ic (ia v.2)]] xZ,ag [.agg [bP d0.1,ic (ia d0.2)],.agg [bP false,ic (ia eg)]] DK,ag [.agg [bP d1.1,ic (ia d1.2)]] (DE (d1.1,d1.2) aF),tB 83 (bB hz)]) 
def Fw{a b:Bool×Nat}{i j n:Nat}(ha:a.2<2^i)(hb:b.2<2^j)(hi:i<=n)(hj:j<=n)(hn:n<=8000):∃ r:Bool×Nat,r.2<2^(n+1)/\gZ 416 [.agg [bP a.1,ic (ia a.2)],.agg [bP b.1,ic (ia b.2)]] (.agg [bP r.1,ic (ia r.2)]):=
 ⟨jX a b,ae2 ha hb hi hj,th a (mn ha aE) b (mn hb aE) (mn (Kd ha hb hi hj) aE)⟩
def abX{x:Iv}(hx:x.ik)(xa:x.all=false)(n:Nat)(hn:n<=3)(p:Nat)(ij:p<=1000)(h1:x.lo.iE<=100)(h2:x.hi.iE<=100):∃ r:Bool,gZ 397 [ig x,iP (n:Int),iP (p:Int)] (bP r):=by
 obtain⟨w1,w2⟩:=hx.kp;obtain⟨t,ht⟩:∃ t:Nat,(t:Int)=max (max x.lo.iE x.hi.iE) 0:=⟨(max (max x.lo.iE x.hi.iE) 0).toNat,aE⟩
 obtain⟨cp,c1,c2,c3,rA⟩:=Ri (p+t+40) aE aE;have hU:=LB x.hi w2 (p+t+40) 6000 aE aG aE;have hV:=LB x.lo w1 (p+t+40) 6000 aE aG aE;have yu:=J7 (d:=x.hi) (b:=p+t+40) (K:=6000) aE;have yv:=J7 (d:=x.lo) (b:=p+t+40) (K:=6000) aE;have yc:=GN (m:=cp.2) (i:=p+t+40+3) (k:=2000) (by have e:(2:Nat)^(p+t+40+3)=2^(p+t+40)*8:=bE 2 _ 3;have:0<2^(p+t+40):=bF aG;omega) aE;generalize rm x.hi (p+t+40)=u at hU yu;generalize rm x.lo (p+t+40)=v at hV yv;obtain⟨K,hK⟩:∃ K,K=6000:=⟨_,rfl⟩
 rw[<-hK]at yu yv;obtain⟨J,hJ⟩:∃ J,J=2000:=⟨_,rfl⟩
 rw[<-hJ]at yc;have zc:(ia cp.2).length<=256:=mn yc aE;have yw:cp.2*2^1<2^(J+1):=by have e:2^(J+1)=2^J*2:=bH _ _;omega
 have hW:=AN cp.2 1 zc aG (mn yw aE);have w0:cp.2*2^1≠0:= aE ;generalize cp.2*2^1=w at hW yw w0;have yn:n*cp.2<2^(J+2):=by have e:2^(J+2)=2^J*4:=bE 2 J 2;have:=bX cp.2 hn;omega
 have DJ:=Mp (false,n) (tC (by show n<_;omega)) cp zc 0 aG (mn yn aE);have y1:n*cp.2/2^0<2^(J+2):=cB (bV _ _) yn;obtain⟨q,hq⟩:∃ q:Bool×Nat,q=(false != cp.1,n*cp.2/2^0):=⟨_,rfl⟩
 have yq:q.2<2^(J+2):=by rw[hq];exact y1
 have TD:gZ 413 [.agg [bP false,ic (ia n)],.agg [bP cp.1,ic (ia cp.2)],iP ((0:Nat):Int)] (.agg [bP q.1,ic (ia q.2)]):=by rw[hq];exact DJ
 clear DJ hq;have hS:=wS q.2 1 (mn yq aE) aG;have ys:q.2/2^1<2^(J+2):=cB (bV _ _) yq;generalize q.2/2^1=sg at hS ys;have ye:1*2^(t+24+4)<2^K:=by rw[ck];exact fk aG aE 
 have hE:=AN 1 (t+24+4) (tC aG) aE (mn ye aE);generalize 1*2^(t+24+4)=eg at hE ye;obtain⟨a0,x0,uI⟩:=Fw (b:=(!false,sg)) yu ys (n:=K) aE aE aE;obtain⟨a1,x1,AX⟩:=Fw (b:=(false,eg)) x0 ye (n:=K+1) aE aE aE;have yf:a1.2/w+1<2^(K+3):=by
  have e:2^(K+3)=2^(K+1+1)*2:=bH _ _;have:=bV a1.2 w;have:0<2^(K+1+1):=bF aG;omega
 have hF:=abT a1 (false,w) (mn x1 aE) (mn yw aE) w0 (mn yf aE);have yk:=cB (Td a1 (false,w)) yf;have ym:(pV a1 (false,w)).2*w<2^(K+3):=cB (ae8 a1 (false,w)) (Kd (n:=K+2) x1 yw aE aE);generalize pV a1 (false,w)=k at hF yk ym;have hM:=Af k.2 w (mn yk aE) (mn yw aE) (mn ym aE);generalize k.2*w=mm at hM ym;obtain⟨l0,x2,vR⟩:=Fw (a:=(k.1,mm)) (b:=(false,sg)) ym ys (n:=K+3) aE aE aE;obtain⟨d0,x3,xZ⟩:=Fw (b:=(!v.1,v.2)) x2 yv (n:=K+4) aE aE aE;obtain⟨d1,x4,DK⟩:=Fw (b:=(false,eg)) x3 ye (n:=K+5) aE aE aE;by_cases hz:d1.2=0
 .exact ⟨_,abZ x n p t w sg eg mm cp u v q a0 a1 k l0 d0 d1 hx xa hn aE ht aE (mn x4 aE) rA hU hV hW TD hS hE uI AX hF hM vR xZ DK hz⟩
 .exact ⟨_,abY x n p t w sg eg mm cp u v q a0 a1 k l0 d0 d1 hx xa hn aE ht aE (mn x4 aE) rA hU hV hW TD hS hE uI AX hF hM vR xZ DK hz⟩
def mc:Iv:=⟨jo (-1),jo 1,false⟩
def Aw:mc.ik:=.inr ⟨rfl,show(jo (-1)).ik from sA aG,show(jo 1).ik from sA aG,aQ⟩
def y5 : gZ 394 [] (ig mc):=by
 have h1:(jo (-1)).ik:=sA aG;have h2:(jo 1).ik:=sA aG;exact ak call394 func394 (ae [ag [iP (-1)] (q9 _ aE),ag [iP 1] (q9 _ aE)]<|rR (ig mc) (.iM rfl:E.le (ig (Iv.mk (jo (-1)) (jo 1) false)) (ig mc))) 
def aaW(x y:Iv)(hx:x.ik)(hy:y.ik)(xa:(x.all||y.all)=true):gZ 258 [ig x,ig y] (ig iu):=
 ak call258 func258 (af [.o 7 (.e (yy _ _):aj (.sl true 2 7 λi_ j_=>(iZ x++iZ y).getD (i_*7+j_) (.v (.bool false))) (iA [x,y])),ag [iA [x,y]] (zV _ _ aF aF),ai 8 (!(x.all||y.all)) (by rw[xa];rfl),.c nS]) 
def aaX{x y:Iv}(hx:x.ik)(hy:y.ik):∃ Z,Z.ik/\gZ 258 [ig x,ig y] (ig Z):=by
 cases h:(x.all||y.all)with
 |true=>exact⟨iu,mD,aaW x y hx hy h⟩
 |false=>
  obtain⟨h1,h2⟩:=fg.1 h;exact⟨D8 x y,agL hx hy,aaY x y hx hy h1 h2⟩
def aa5(x:Iv)(hx:x.ik)(xa:x.all=true):gZ 395 [ig x,ig mc] (.iC [ig mc,bP true]):=by
 have hu:=Aw;exact ak call395 func395 (af [.c (sS x aF),.c (sS mc aF),ah 19 x.all xa]) 
def aa7(x:Iv)(hx:x.ik)(xa:x.all=false)(h:0<jK (ja x.lo mc.lo) (jd x.hi mc.hi)):gZ 395 [ig x,ig mc] (.iC [ig yU,bP false]):=by
 have hu:=Aw;obtain⟨v1,v2⟩:=hx.kp;obtain⟨v3,v4⟩:=hu.kp;have m1:=pL v1 v3;have m2:=qy v2 v4;exact ak call395 func395 (ae [.c (sS x aF),.c (sS mc aF),ai 19 x.all xa,ai 23 mc.all rfl,.c (JH x.lo mc.lo aF aF),.c (JG x.hi mc.hi aF aF),ag [ie (ja x.lo mc.lo),ie (jd x.hi mc.hi)] (o0 _ _ aF aF),tB 41 (bA h)]<|rR (.iC [ig yU,bP false]) (.iC (.cons aad (.cons (.refl _) .nil)):E.le (.iC [.agg au,bP false]) (.iC [ig yU,bP false]))) 
def aa8(x:Iv)(hx:x.ik)(xa:x.all=false)(h:¬0<jK (ja x.lo mc.lo) (jd x.hi mc.hi)):gZ 395 [ig x,ig mc] (.iC [ig (Iv.mk (ja x.lo mc.lo) (jd x.hi mc.hi) false),bP true]):=by
 have hu:=Aw;obtain⟨v1,v2⟩:=hx.kp;obtain⟨v3,v4⟩:=hu.kp;have m1:=pL v1 v3;have m2:=qy v2 v4;exact ak call395 func395 (af [.c (sS x aF),.c (sS mc aF),ai 19 x.all xa,ai 23 mc.all rfl,.c (JH x.lo mc.lo aF aF),.c (JG x.hi mc.hi aF aF),ag [ie (ja x.lo mc.lo),ie (jd x.hi mc.hi)] (o0 _ _ aF aF),tB 41 (bB h)]) 
structure yV(Y:Iv):Prop where
 v:Y.ik
 f:Y.all=false
 l:jK mc.lo Y.lo<=0
 h:jK Y.hi mc.hi<=0
def aom:yV mc:=⟨Aw,rfl,aQ,aQ⟩
def aa6{x:Iv}(hx:x.ik):(∃ Y,yV Y/\gZ 395 [ig x,ig mc] (.iC [ig Y,bP true]))\/gZ 395 [ig x,ig mc] (.iC [ig yU,bP false]):=by
 cases xa:x.all with
 |true=>exact .inl ⟨mc,aom,aa5 x hx xa⟩
 |false=>
  by_cases h:0<jK (ja x.lo mc.lo) (jd x.hi mc.hi)
  .exact .inr (aa7 x hx xa h)
  .have v1:(ja x.lo mc.lo).ik:=pL hx.kp.1 Aw.kp.1;have v2:(jd x.hi mc.hi).ik:=qy hx.kp.2 Aw.kp.2;have h1:jK mc.lo (ja x.lo mc.lo)<=0:=V2 _ _;have h2:jK (jd x.hi mc.hi) mc.hi<=0:=V5 _ _;have hq:=aa8 x hx xa h;have h3:jK (ja x.lo mc.lo) (jd x.hi mc.hi)<=0:= aE ;generalize ja x.lo mc.lo=a at *
   generalize jd x.hi mc.hi=b at *
   exact .inl ⟨⟨a,b,false⟩,⟨.inr ⟨rfl,v1,v2,h3⟩,rfl,h1,h2⟩,hq⟩
def yV.up{Y:Iv}(h:yV Y):yV ⟨Y.lo,jo 1,false⟩:=by
 have e:=h.v.kp;refine⟨.inr ⟨rfl,e.1,sA (n:=1) aG,?_⟩,rfl,h.l,show jK (jo 1) (jo 1)<=0 by decide +kernel⟩;have:=h.v.q;rw[qL];exact b9 this ((qL _ _).1 h.h)
def yV.dn{Y:Iv}(h:yV Y):yV ⟨jo (-1),Y.hi,false⟩:=by
 have e:=h.v.kp;refine⟨.inr ⟨rfl,sA (n:=-1) aG,e.2,?_⟩,rfl,show jK (jo (-1)) (jo (-1))<=0 by decide +kernel,h.h⟩;have:=h.v.q;rw[qL];exact b9 ((qL _ _).1 h.l) this
def Iq(p:Nat)(iw:8<=p)(ij:p<=512):gZ 393 [iP p] (bP true):=
 ak call393 func393 (af [tT 4 (8<=(p:Int)) aE,tT 7 ((p:Int)<=512) aE]) 
def abM(x:Iv)(cs:Bool)(p:Nat)(hx:x.ik)(xa:x.all=true)(iw:8<=p)(ij:p<=512):gZ 369 [ig x,bP cs,iP p] (ig iu):=
 ak call369 func369 (af [.c (Iq p aE aE),.c (sS x aF),ah 22 x.all xa,.c nS]) 
def abP(x:Iv)(cs:Bool)(p:Nat)(hx:x.ik)(xa:x.all=false)(iw:8<=p)(ij:p<=512)(hu:100<x.lo.iE\/100<x.hi.iE\/¬BL x 64=0\/0<=jK (uw x 64) (jo 7)):gZ 369 [ig x,bP cs,iP p] (ig mc):=by
 obtain⟨w1,w2⟩:=hx.kp;have h7:(jo 7).ik:=sA aG;have wv:(uw x 64).ik:=uq _ aG aG _;exact ak call369 func369 (ae [.c (Iq p aE aE),.c (sS x aF),ai 22 x.all xa,ag [ie x.lo] (pj _ aF)]<|.w (100<(Dy.iE x.lo))
  (λk1=>af [tB 28 (bA k1),.c y5])
  (λk1=>ae [tB 28 (bB k1),ag [ie x.hi] (pj _ aF)]<|.w (100<(Dy.iE x.hi))
   (λk2=>af [tB 33 (bA k2),.c y5])
   (λk2=>ae [tB 33 (bB k2),.c (Ls x 64 aF aF aE aE)]<|.w (BL x 64=0)
    (λk3=>ae [tB 40 (bA k3),ag [iP 7] (q9 _ aE),ag [ie (uw x 64),ie (jo 7)] (o0 _ _ aF aF)]<|.w (0<=(jK (uw x 64) (jo 7)))
     (λk4=>af [tB 47 (bA k4),.c y5])
     (λk4=>.x (by rcases hu with q|q|q|q<;>contradiction)))
    (λk3=>af [tB 40 (bB k3),.c y5])))) 
def abO(x:Iv)(cs:Bool)(p:Nat)(hx:x.ik)(xa:x.all=false)(iw:8<=p)(ij:p<=512)(h1:¬100<x.lo.iE)(h2:¬100<x.hi.iE)(h3:BL x 64=0)(h4:¬0<=jK (uw x 64) (jo 7))(P1 P2 H:Iv)(yb:∀ c,c=cs->gZ 396 [ie x.lo,bP c,iP (p:Int)] (ig P1))(yd:∀ c,c=cs->gZ 396 [ie x.hi,bP c,iP (p:Int)] (ig P2))(hH:gZ 258 [ig P1,ig P2] (ig H))(vS:gZ 395 [ig H,ig mc] (.iC [ig yU,bP false])):gZ 369 [ig x,bP cs,iP p] (ig mc):=by
 obtain⟨w1,w2⟩:=hx.kp;have h7:(jo 7).ik:=sA aG;have wv:(uw x 64).ik:=uq _ aG aG _;exact ak call369 func369 (af [.c (Iq p aE aE),.c (sS x aF),ai 22 x.all xa,ag [ie x.lo] (pj _ aF),tB 28 (bB h1),ag [ie x.hi] (pj _ aF),tB 33 (bB h2),.c (Ls x 64 aF aF aE aE),tB 40 (bA h3),ag [iP 7] (q9 _ aE),ag [ie (uw x 64),ie (jo 7)] (o0 _ _ aF aF),tB 47 (bB h4),ag [ie x.lo,bP cs,iP p] (yb cs aK),ag [ie x.hi,bP cs,iP p] (yd cs aK),ag [ig P1,ig P2] hH,.c y5,ag [ig H,ig mc] vS,.c y5]) 
def qQ(cs:Bool)(R:Nat->Bool)(x Y:Iv):Iv:=if jK x.lo x.hi=0 then Y else⟨if R (if cs=true then 2 else 3)=true then jo (-1)else Y.lo,if R (if cs=true then 0 else 1)=true then jo 1 else Y.hi,Y.all⟩
def abN(x:Iv)(cs:Bool)(p:Nat)(hx:x.ik)(xa:x.all=false)(iw:8<=p)(ij:p<=512)(h1:¬100<x.lo.iE)(h2:¬100<x.hi.iE)(h3:BL x 64=0)(h4:¬0<=jK (uw x 64) (jo 7))(P1 P2 H Y:Iv)(hY:yV Y)(yb:∀ c,c=cs->gZ 396 [ie x.lo,bP c,iP (p:Int)] (ig P1))(yd:∀ c,c=cs->gZ 396 [ie x.hi,bP c,iP (p:Int)] (ig P2))(hH:gZ 258 [ig P1,ig P2] (ig H))(vS:gZ 395 [ig H,ig mc] (.iC [ig Y,bP true]))(R:Nat->Bool)(hM:∀ s:Nat,s<=3->gZ 397 [ig x,iP (s:Int),iP ((p+64:Nat):Int)] (bP (R s))):gZ 369 [ig x,bP cs,iP p] (ig (qQ cs R x Y)):=by
 obtain⟨w1,w2⟩:=hx.kp;have h7:(jo 7).ik:=sA aG;have wv:(uw x 64).ik:=uq _ aG aG _;exact ak call369 func369 (ae [.c (Iq p aE aE),.c (sS x aF),ai 22 x.all xa,ag [ie x.lo] (pj _ aF),tB 28 (bB h1),ag [ie x.hi] (pj _ aF),tB 33 (bB h2),.c (Ls x 64 aF aF aE aE),tB 40 (bA h3),ag [iP 7] (q9 _ aE),ag [ie (uw x 64),ie (jo 7)] (o0 _ _ aF aF),tB 47 (bB h4)]<|.w ((jK x.lo x.hi)=0)
  (λk1=>ae [ag [ie x.lo,bP cs,iP p] (yb cs aK),ag [ie x.hi,bP cs,iP p] (yd cs aK),ag [ig P1,ig P2] hH,.c y5,ag [ig H,ig mc] vS,ag [ie x.lo,ie x.hi] (o0 _ _ aF aF),tB 74 (bk k1)]<|rQ (ig Y) (ig (qQ cs R x Y)) (by unfold qQ;simp[k1]))
  (λk1=>.w (cs=true)
   (λk2=>ae [tB 53 k2,ag [ie x.lo,bP true,iP p] (yb true (by simp[k2])),tB 58 k2,ag [ie x.hi,bP true,iP p] (yd true (by simp[k2])),ag [ig P1,ig P2] hH,.c y5,ag [ig H,ig mc] vS,ag [ie x.lo,ie x.hi] (o0 _ _ aF aF),tB 74 (bj k1),tB 76 k2,
    iz ((p:Int)+64) aE,ag [ig x,iP 0,iP ((p+64:Nat):Int)] (hM 0 aG)]<|.w (R 0=true)
    (λk3=>ae [tB 81 k3,ag [iP 1] (q9 _ aE),iz ((p:Int)+64) aE,ag [ig x,iP 2,iP ((p+64:Nat):Int)] (hM 2 aG)]<|.w (R 2=true)
     (λk4=>ae [tB 88 k4,ag [iP (-1)] (q9 _ aE)]<|rQ (ig (Iv.mk (jo (-1)) (jo 1) Y.all)) (ig (qQ cs R x Y)) (by unfold qQ;simp[k1,k2,k3,k4]))
     (λk4=>ae [tB 88 (bn k4)]<|rQ (ig (Iv.mk Y.lo (jo 1) Y.all)) (ig (qQ cs R x Y)) (by unfold qQ;simp[k1,k2,k3,k4])))
    (λk3=>ae [tB 81 (bn k3),iz ((p:Int)+64) aE,ag [ig x,iP 2,iP ((p+64:Nat):Int)] (hM 2 aG)]<|.w (R 2=true)
     (λk4=>ae [tB 88 k4,ag [iP (-1)] (q9 _ aE)]<|rQ (ig (Iv.mk (jo (-1)) Y.hi Y.all)) (ig (qQ cs R x Y)) (by unfold qQ;simp[k1,k2,k3,k4]))
     (λk4=>ae [tB 88 (bn k4)]<|rQ (ig Y) (ig (qQ cs R x Y)) (by unfold qQ;simp[k1,k2,k3,k4]))))
   (λk2=>ae [tB 53 (bn k2),ag [ie x.lo,bP false,iP p] (yb false (by simp[k2])),tB 58 (bn k2),ag [ie x.hi,bP false,iP p] (yd false (by simp[k2])),ag [ig P1,ig P2] hH,.c y5,ag [ig H,ig mc] vS,ag [ie x.lo,ie x.hi] (o0 _ _ aF aF),tB 74 (bj k1),tB 76 (bn k2),iz ((p:Int)+64) aE,ag [ig x,iP 1,iP ((p+64:Nat):Int)] (hM 1 aG)]<|.w (R 1=true)
    (λk3=>ae [tB 81 k3,ag [iP 1] (q9 _ aE),iz ((p:Int)+64) aE,ag [ig x,iP 3,iP ((p+64:Nat):Int)] (hM 3 aG)]<|.w (R 3=true)
     (λk4=>ae [tB 88 k4,ag [iP (-1)] (q9 _ aE)]<|rQ (ig (Iv.mk (jo (-1)) (jo 1) Y.all)) (ig (qQ cs R x Y)) (by unfold qQ;simp[k1,k2,k3,k4]))
     (λk4=>ae [tB 88 (bn k4)]<|rQ (ig (Iv.mk Y.lo (jo 1) Y.all)) (ig (qQ cs R x Y)) (by unfold qQ;simp[k1,k2,k3,k4])))
    (λk3=>ae [tB 81 (bn k3),iz ((p:Int)+64) aE,ag [ig x,iP 3,iP ((p+64:Nat):Int)] (hM 3 aG)]<|.w (R 3=true)
     (λk4=>ae [tB 88 k4,ag [iP (-1)] (q9 _ aE)]<|rQ (ig (Iv.mk (jo (-1)) Y.hi Y.all)) (ig (qQ cs R x Y)) (by unfold qQ;simp[k1,k2,k3,k4]))
     (λk4=>ae [tB 88 (bn k4)]<|rQ (ig Y) (ig (qQ cs R x Y)) (by unfold qQ;simp[k1,k2,k3,k4])))))) 
def Rg{x:Iv}(hx:x.ik)(cs:Bool){p:Nat}(iw:8<=p)(ij:p<=512):∃ Z,Z.ik/\gZ 369 [ig x,bP cs,iP (p:Int)] (ig Z):=by
 cases xa:x.all with
 |true=>exact⟨_,mD,abM x cs p hx xa iw ij⟩
 |false=>
  by_cases hu:100<x.lo.iE\/100<x.hi.iE\/¬BL x 64=0\/0<=jK (uw x 64) (jo 7)
  .exact ⟨_,Aw,abP x cs p hx xa iw ij hu⟩
  have h1:¬100<x.lo.iE:=λq=>hu (.inl q)
  have h2:¬100<x.hi.iE:=λq=>hu (.inr (.inl q))
  have h3:BL x 64=0:=ca λq=>hu (.inr (.inr (.inl q)))
  have h4:¬0<=jK (uw x 64) (jo 7):=λq=>hu (.inr (.inr (.inr q)))
  obtain⟨w1,w2⟩:=hx.kp;obtain⟨P1,g1,yb⟩:=Rj w1 aE cs iw ij;obtain⟨P2,g2,yd⟩:=Rj w2 aE cs iw ij;replace yb:∀ c,c=cs->gZ 396 [ie x.lo,bP c,iP (p:Int)] (ig P1):=λc h=>h▸yb
  replace yd:∀ c,c=cs->gZ 396 [ie x.hi,bP c,iP (p:Int)] (ig P2):=λc h=>h▸yd
  obtain⟨H,g3,hH⟩:=aaX g1 g2;rcases aa6 g3 with⟨Y,hY,vS⟩|vS
  rotate_left
  .exact ⟨_,Aw,abO x cs p hx xa iw ij h1 h2 h3 h4 P1 P2 H yb yd hH vS⟩
  have ya:=hY.f;have v0:=hY.v;have v1:(Iv.mk (jo (-1)) (jo 1) Y.all).ik:=by rw[ya];exact Aw
  have v2:(Iv.mk Y.lo (jo 1) Y.all).ik:=by rw[ya];exact hY.up.v
  have v3:(Iv.mk (jo (-1)) Y.hi Y.all).ik:=by rw[ya];exact hY.dn.v
  have v4:(Iv.mk Y.lo Y.hi Y.all).ik:=hY.v;have hm:∀ s:Nat,∃ r,s<=3->gZ 397 [ig x,iP (s:Int),iP ((p+64:Nat):Int)] (bP r):=λs=>by
   by_cases hs:s<=3
   .obtain ⟨r,m⟩:=abX hx xa s aE (p+64) aE aE aE ;exact⟨r,λ_=>m⟩
   .exact ⟨true,λh=>absurd h hs⟩
  refine⟨qQ cs (λs=>Classical.choose (hm s)) x Y,?_,abN x cs p hx xa iw ij h1 h2 h3 h4 P1 P2 H Y hY yb yd hH vS (λs=>Classical.choose (hm s)) λs hs=>dr (hm s) hs⟩;generalize (λs=>Classical.choose (hm s))=R;unfold qQ;by_cases q1:jK x.lo x.hi=0
  .rw [bw q1];exact v0
  rw[bu q1];by_cases q2:R (if cs=true then 2 else 3)=true<;>by_cases q3:R (if cs=true then 0 else 1)=true<;>simp only[q2,q3,bQ,bJ,bS]<;>assumption
def acn(x Z:Iv)(p:Nat)(hZ:gZ 369 [ig x,bP false,iP (p:Int)] (ig Z)):gZ 329 [ig x,iP p] (ig Z):=
 ak call329 func329 (af [ag [ig x,bP false,iP p] hZ]) 
def LC{x:Iv}(hx:x.ik){p:Nat}(iw:8<=p)(ij:p<=512):∃ Z,Z.ik/\gZ 329 [ig x,iP (p:Int)] (ig Z):=by
 obtain⟨Z,h1,h2⟩:=Rg hx false iw ij;exact⟨Z,h1,acn x Z p h2⟩
def abQ(x Z:Iv)(p:Nat)(hZ:gZ 369 [ig x,bP true,iP (p:Int)] (ig Z)):gZ 330 [ig x,iP p] (ig Z):=
 ak call330 func330 (af [ag [ig x,bP true,iP p] hZ]) 
def Lz{x:Iv}(hx:x.ik){p:Nat}(iw:8<=p)(ij:p<=512):∃ Z,Z.ik/\gZ 330 [ig x,iP (p:Int)] (ig Z):=by
 obtain⟨Z,h1,h2⟩:=Rg hx true iw ij;exact⟨Z,h1,abQ x Z p h2⟩
def mH(a b:Nat):Nat->Nat×Nat
 | 0=>(a,b)
 |k+1=>((mH a b k).2,(mH a b k).1%(mH a b k).2)
def Mf(a b:Nat):∀ k,mH a b (k+1)=mH b (a%b) k
 | 0=>rfl
 |k+1=>by
  show((mH a b (k+1)).2,(mH a b (k+1)).1%(mH a b (k+1)).2)=_;rw[Mf a b k];rfl
def Me(a b:Nat):∀ k,Nat.gcd (mH a b k).1 (mH a b k).2=Nat.gcd a b
 | 0=>rfl
 |k+1=>by
  show Nat.gcd (mH a b k).2 ((mH a b k).1%(mH a b k).2)=_;rw[<-Me a b k];exact(Nat.gcd_comm _ _).trans ((Nat.gcd_rec _ _).symm.trans (Nat.gcd_comm _ _))
def SP:∀ (b a:Nat),∃ N,(∀ k,k<N->(mH a b k).2≠0)/\(mH a b N).2=0:=by
 intro b
 induction b using Nat.strongRecOn with
 |ind b ih=>
  intro a;by_cases h:b=0
  .exact ⟨0,λk hk=>absurd hk (bO k),h⟩
  .obtain ⟨N,h1,h2⟩:=ih (a%b) (bM a (en h)) b;refine⟨N+1,λk hk=>?_,by rw[Mf];exact h2⟩;rcases k with _|k
   .exact h
   .rw [Mf];exact h1 k aE 
def nX(n d:Int)(p:Nat):Iv:=if ml n d then kX (kG (jo n) (jo d) p false) (nF (jo n) (jo d) p false) (kG (jo n) (jo d) p true) (nF (jo n) (jo d) p true)else iu
def NK{d:Int}(h:d≠0):(jo d).m≠0:=by
 intro q;have hq:=yL d;rw[qX,q]at hq;have e:(d:Rat)=0:=by
  rw[<-hq];split<;>simp
 rw[show(0:Rat)=((0:Int):Rat)from rfl,Rat.intCast_inj]at e;exact h e
def IE{a b:Dy}(b0:b.m≠0){p:Nat}(hp:1<=p)(ij:p<=4096)(up:Bool):(kG a b p up).ik:=by
 unfold kG;split
 .exact q6
 .exact mR _ _ _ _ _ _ hp ij
def al1(n d:Int){p:Nat}(hp:1<=p)(ij:p<=4096):(nX n d p).ik:=by
 unfold nX;split
 .rename_i h;obtain⟨r1,_⟩:=CQ h;have d0:(jo d).m≠0:=NK aE;unfold kX;split
  .exact mD
  .rename_i he;obtain⟨A,B⟩:=LZ (a:=jo n) d0 hp ij;refine .inr ⟨rfl,IE d0 hp ij _,IE d0 hp ij _,?_⟩;rw[qL];exact b9 (A.1 aE).2 (B.1 aE).2
 .exact mD
def Tw(a b:Nat)(x:Nat):PS:=⟨12,true,[(0,.e (.v (.int .u64 (((mH a b x).1:Nat):Int)))),(1,.e (.v (.int .u64 (((mH a b x).2:Nat):Int))))],[]⟩
def aft(a b N:Nat)(ha:a<18446744073709551616)(hb:b<18446744073709551616)(iQ:∀ k,k<N->(mH a b k).2≠0)(hN:(mH a b N).2=0):gZ 214 [.v (.int .u64 (a:Int)),.v (.int .u64 (b:Int))] (.v (.int .u64 (((mH a b N).1:Nat):Int))):=
 ak call214 func214 (af [.s (Sp.jv (Tw a b) 0 N aE (λx hx jU=>by
    have pE:=iQ x aE;exact iG (ae [ah 6 ((((mH a b x).2:Nat):Int) != 0) (Gt (iQ x aE)),.a (aE:0<((((mH a b x).2:Nat):Int):Int))]<|.e (af [.o 0 (.int aT:aj (.v (.int .u64 (((mH a b x).2:Nat):Int))) (.v (.int .u64 (((mH a b (x+1)).1:Nat):Int)))),.o 1 (.int aT:aj (.v (.int .u64 ((((mH a b x).1)%((mH a b x).2):Nat):Int))) (.v (.int .u64 (((mH a b (x+1)).2:Nat):Int))))])) aI)
  (λhx=>by
    exact iG (af [ai 6 ((((mH a b N).2:Nat):Int) != 0) (CE hN)]) aI) aM:ju 1 f214 (Tw a b 0) (.exit 0) ⟨12,true,[(0,.e (.v (.int .u64 (((mH a b N).1:Nat):Int))))],[]⟩) (af [.o 0 (.int aT:aj (.v (.int .u64 (a:Int))) (.v (.int .u64 (((mH a b 0).1:Nat):Int)))),.o 1 (.int aT:aj (.v (.int .u64 (b:Int))) (.v (.int .u64 (((mH a b 0).2:Nat):Int))))])]) 
def afu(a b:Nat)(ha:a<18446744073709551616)(hb:b<18446744073709551616):gZ 214 [.v (.int .u64 (a:Int)),.v (.int .u64 (b:Int))] (.v (.int .u64 (Nat.gcd a b:Int))):=by
 obtain⟨N,h1,h2⟩:=SP b a;have hg:=Me a b N;rw[h2,Nat.gcd_zero_right]at hg;rw[<-hg];exact aft a b N ha hb h1 h2
def amQ(m:Nat)(h:m<=1073741824):gZ 215 [iP m] (.v (.int .u64 (m:Int))):=
 ak call215 func215 (af [tF 4 ((m:Int)<0) aE,.o 9 (.int (pZ _ aE):aj (.v (.int .u64 (IntKind.u64.wrap (m:Int)))) (.v (.int .u64 (m:Int))))]) 
def amP(m:Nat)(h0:0<m)(h:m<=1073741824):gZ 215 [iP (-(m:Int))] (.v (.int .u64 (m:Int))):=
 ak call215 func215 (af [tT 4 ((-(m:Int))<0) aE,iz (0-(-(m:Int))) aE,.o 6 (aq (0-(-(m:Int))) m aE),.o 7 (.int (pZ _ aE):aj (.v (.int .u64 (IntKind.u64.wrap (m:Int)))) (.v (.int .u64 (m:Int))))]) 
def YV(n:Int)(h1:-1073741824<=n)(h2:n<=1073741824):gZ 215 [iP n] (.v (.int .u64 (n.natAbs:Int))):=by
 by_cases h:0<=n
 .obtain ⟨m,rfl⟩:=ek h;exact amQ m aE 
 .obtain ⟨m,rfl⟩:∃ m:Nat,n = -(m:Int):=⟨n.natAbs,aE⟩
  rw[fQ,ej];exact amP m aE aE 
def yH(g:Nat):((g:Int)==1)=decide (g=1):=by
 by_cases h:g=1
 .subst h;rfl
 .rw [bB h];exact bj aE 
def Kh(n d:Int):gZ 132 [.agg [iP n,iP d]] (bP (ml n d)):=
 ak call132 func132 (.w (1<=d)
  (λk1=>ae [tB 5 (bA k1)]<|.w (d<=1073741824)
   (λk2=>ae [tB 9 (bA k2)]<|.w ((-1073741824)<=n)
    (λk3=>ae [tB 14 (bA k3)]<|.w (n<=1073741824)
     (λk4=>ae [tB 19 (bA k4),ag [iP n] (YV _ aE aE),ag [iP d] (YV _ aE aE),.c (afu (Int.natAbs n) (Int.natAbs d) aE aE)]<|rQ (bP ((Nat.gcd (Int.natAbs n) (Int.natAbs d):Int)==1)) (bP (ml n d)) (by unfold ml;simp[yH,k1,k2,k3,k4]))
     (λk4=>ae [tB 19 (bB k4)]<|rQ (bP false) (bP (ml n d)) (by unfold ml;simp[yH,k1,k2,k3,k4])))
    (λk3=>ae [tB 14 (bB k3)]<|rQ (bP false) (bP (ml n d)) (by unfold ml;simp[yH,k1,k2,k3])))
   (λk2=>ae [tB 9 (bB k2)]<|rQ (bP false) (bP (ml n d)) (by unfold ml;simp[yH,k1,k2])))
  (λk1=>ae [tB 5 (bB k1)]<|rQ (bP false) (bP (ml n d)) (by unfold ml;simp[yH,k1]))) 
def VY{lo hi:Dy}{e f:Int}(h:e≠0\/f≠0):kX lo e hi f=iu:=bw h
def ah3{lo hi:Dy}{e f:Int}(h:e=0)(k:f=0):kX lo e hi f=⟨lo,hi,false⟩:=bu (by rw[h,k];decide)
def akS(n d:Int)(p:Nat)(h:ml n d=true)(iw:8<=p)(ij:p<=512):gZ 288 [.agg [iP n,iP d],iP p] (ig (nX n d p)):=by
 obtain⟨r1,r2,r3,r4⟩:=CQ h;have v1:=sA (n:=n) aE;have v2:=sA (n:=d) aE;have d0:(jo d).m≠0:=NK aE;exact ak call288 func288 (ae [.c (Kh n d),ai 11 (!(ml n d)) (by rw[h];rfl),ag [iP n] (q9 _ aE),ag [iP d] (q9 _ aE),.c (XQ (jo n) (jo d) p aF aF aF aE aE),ag [iP n] (q9 _ aE),ag [iP d] (q9 _ aE),.c (XR (jo n) (jo d) p aF aF aF aE aE)]<|.w ((nF (jo n) (jo d) p false)=0)
  (λk1=>ae [tB 36 (bq k1)]<|.w ((nF (jo n) (jo d) p true)=0)
   (λk2=>ae [tB 39 (bq k2)]<|rQ (ig (Iv.mk (kG (jo n) (jo d) p false) (kG (jo n) (jo d) p true) false)) (ig (nX n d p)) (by unfold nX;rw[bw h,ah3 k1 k2]))
   (λk2=>ae [tB 39 (bt k2),.o 41 (.e xI:aj (.agg [bP false,.v (.slice none 0 0),iP 0,bP false,.v (.slice none 0 0),iP 0,bP true]) (ig iu))]<|rQ (ig iu) (ig (nX n d p)) (by unfold nX;rw[bw h,VY (.inr k2)])))
  (λk1=>ae [tB 36 (bt k1),.o 41 (.e xI:aj (.agg [bP false,.v (.slice none 0 0),iP 0,bP false,.v (.slice none 0 0),iP 0,bP true]) (ig iu))]<|rQ (ig iu) (ig (nX n d p)) (by unfold nX;rw[bw h,VY (.inl k1)]))) 
noncomputable def DA(x:Iv)(p:Nat):Iv:=@dite Iv (x.ik/\8<=p/\p<=512) (Classical.propDecidable _) (λh=>Classical.choose (Qc h.1 h.2.1 h.2.2)) (λ_=>iu)
def aeW(x:Iv)(p:Nat):(DA x p).ik:=by
 unfold DA;split
 .rename_i h;exact(dr (Qc h.1 h.2.1 h.2.2)).1
 .exact mD
def aeV(x:Iv)(hx:x.ik)(p:Nat)(iw:8<=p)(ij:p<=512):gZ 327 [ig x,iP (p:Int)] (ig (DA x p)):=by
 unfold DA;rw[dif_pos ⟨hx,iw,ij⟩];exact(dr (Qc hx iw ij)).2
noncomputable def DB(x:Iv)(p:Nat):Iv:=@dite Iv (x.ik/\8<=p/\p<=512) (Classical.propDecidable _) (λh=>Classical.choose (Qe h.1 h.2.1 h.2.2)) (λ_=>iu)
def aeY(x:Iv)(p:Nat):(DB x p).ik:=by
 unfold DB;split
 .rename_i h;exact(dr (Qe h.1 h.2.1 h.2.2)).1
 .exact mD
def aeX(x:Iv)(hx:x.ik)(p:Nat)(iw:8<=p)(ij:p<=512):gZ 328 [ig x,iP (p:Int)] (ig (DB x p)):=by
 unfold DB;rw[dif_pos ⟨hx,iw,ij⟩];exact(dr (Qe hx iw ij)).2
noncomputable def xW(x:Iv)(p:Nat):Iv:=@dite Iv (x.ik/\8<=p/\p<=512) (Classical.propDecidable _) (λh=>Classical.choose (LC h.1 h.2.1 h.2.2)) (λ_=>iu)
def S5(x:Iv)(p:Nat):(xW x p).ik:=by
 unfold xW;split
 .rename_i h;exact(dr (LC h.1 h.2.1 h.2.2)).1
 .exact mD
def S4(x:Iv)(hx:x.ik)(p:Nat)(iw:8<=p)(ij:p<=512):gZ 329 [ig x,iP (p:Int)] (ig (xW x p)):=by
 unfold xW;rw[dif_pos ⟨hx,iw,ij⟩];exact(dr (LC hx iw ij)).2
noncomputable def zf(x:Iv)(p:Nat):Iv:=@dite Iv (x.ik/\8<=p/\p<=512) (Classical.propDecidable _) (λh=>Classical.choose (Lz h.1 h.2.1 h.2.2)) (λ_=>iu)
def S3(x:Iv)(p:Nat):(zf x p).ik:=by
 unfold zf;split
 .rename_i h;exact(dr (Lz h.1 h.2.1 h.2.2)).1
 .exact mD
def S2(x:Iv)(hx:x.ik)(p:Nat)(iw:8<=p)(ij:p<=512):gZ 330 [ig x,iP (p:Int)] (ig (zf x p)):=by
 unfold zf;rw[dif_pos ⟨hx,iw,ij⟩];exact(dr (Lz hx iw ij)).2
noncomputable def DC(x:Iv)(p:Nat):Iv:=@dite Iv (x.ik/\8<=p/\p<=512) (Classical.propDecidable _) (λh=>Classical.choose (NR h.1 h.2.1 h.2.2)) (λ_=>iu)
def ae0(x:Iv)(p:Nat):(DC x p).ik:=by
 unfold DC;split
 .rename_i h;exact(dr (NR h.1 h.2.1 h.2.2)).1
 .exact mD
def aeZ(x:Iv)(hx:x.ik)(p:Nat)(iw:8<=p)(ij:p<=512):gZ 331 [ig x,iP (p:Int)] (ig (DC x p)):=by
 unfold DC;rw[dif_pos ⟨hx,iw,ij⟩];exact(dr (NR hx iw ij)).2
def Ik(o:je):Bool:=decide (o.kind<=6)
noncomputable def kZ(o:je)(x y:Iv)(p:Nat):Iv:=
 if o.kind=3 then kI x y p else if o.kind=4 then vh x y p else if o.kind=5 then jt x y p else if o.kind=6 then jT x y p
 else if o.kind=7 then pM x else if o.kind=8 then mj x o.n p else if o.kind=9 then DA x p else if o.kind=10 then DB x p
 else if o.kind=11 then xW x p else if o.kind=12 then zf x p else if o.kind=13 then DC x p else iu
noncomputable def rN(o:je)(l:List Iv)(p:Nat):Iv:=if o.kind=1 then nX o.cn o.cd p else kZ o (l.getD o.a iu) (if Ik o then l.getD o.b iu else iu) p
noncomputable def iR(ib:List je)(xs:List Iv)(p:Nat):Nat->List Iv
 | 0=>xs
 |k+1=>iR ib xs p k++[rN (ib.getD k iB) (iR ib xs p k) p]
noncomputable def og(t:kF)(xs:List Iv)(p:Nat):List Iv:=t.il.map λk=>(iR t.ib xs p t.ib.length).getD k iu
def yS(ib:List je)(xs:List Iv)(p:Nat):∀ k,(iR ib xs p k).length=xs.length+k
 | 0=>rfl
 |k+1=>by simp only[iR,cE,yS ib xs p k,dA,apP];omega
def aaG(o:je){x y:Iv}(hx:x.ik)(hy:y.ik){p:Nat}(hp:1<=p)(ij:p<=4096):(kZ o x y p).ik:=by
 unfold kZ;split
 .exact qG hx hy hp ij
 split
 .exact qG hx (yF hy) hp ij
 split
 .exact pn _ _ hp ij
 split
 .exact tV _ _ hp ij
 split
 .exact yF hx
 split
 .exact O3 hx _ hp ij
 split
 .exact aeW _ _
 split
 .exact aeY _ _
 split
 .exact S5 _ _
 split
 .exact S3 _ _
 split
 .exact ae0 _ _
 .exact mD
def aaI(o:je){l:List Iv}(hl:pT l){p:Nat}(hp:1<=p)(ij:p<=4096):(rN o l p).ik:=by
 unfold rN;split
 .exact al1 _ _ hp ij
 .exact aaG o (hl _) (by split;exact hl _;exact mD) hp ij
def Da(ib:List je){xs:List Iv}(h:pT xs){p:Nat}(hp:1<=p)(ij:p<=4096):∀ k,pT (iR ib xs p k)
 | 0=>h
 |k+1=>(Da ib h hp ij k).push (aaI _ (Da ib h hp ij k) hp ij)
def DF(t:kF)(xs:List Iv)(p:Nat):(og t xs p).length=t.il.length:=by simp[og]
noncomputable def od(o:je)(v a b da db:Iv)(p:Nat):Iv:=
 if o.kind=1 then iS 0 else if o.kind=3 then kI da db p else if o.kind=4 then vh da db p else if o.kind=5 then kI (jt da b p) (jt a db p) p
 else if o.kind=6 then jT (vh da (jt v db p) p) b p else if o.kind=7 then pM da
 else if o.kind=8 then(if o.n=0 then jt (iS 0) da p else jt (jt (iS (o.n:Int)) (mj a (o.n-1) p) p) da p)
 else if o.kind=9 then jt v da p else if o.kind=10 then jT da a p
 else if o.kind=11 then jt (zf a p) da p else if o.kind=12 then pM (jt (xW a p) da p)else if o.kind=13 then jT da (mX v 1) p else iu
noncomputable def sJ(o:je)(v:Iv)(l c:List Iv)(p:Nat):Iv:=
 if v.all then iu else od o v (l.getD o.a iu) (l.getD o.b iu) (c.getD o.a iu) (c.getD o.b iu) p
def lO(n i:Nat):Nat->List Iv
 | 0=>[]
 |k+1=>lO n i k++[if k=i then iS 1 else iS 0]
noncomputable def jk(t:kF)(l:List Iv)(i p:Nat):Nat->List Iv
 | 0=>lO t.im i t.im
 |k+1=>jk t l i p k++[sJ (t.ib.getD k iB) (l.getD (t.im+k) iu) l (jk t l i p k) p]
noncomputable def lG(t:kF)(xs:List Iv)(p q i:Nat):Iv:=(jk t (iR t.ib xs p t.ib.length) i p t.ib.length).getD (t.il.getD q 0) iu
def kv(n:Nat)(F:Nat->Nat->Iv)(i k:Nat):List (List Iv):=(List.range n).map λq=>(List.range (if q<k then i+1 else i)).map (F q)
noncomputable def my(t:kF)(xs:List Iv)(p m:Nat):List (List Iv):=kv t.il.length (lG t xs p) m 0
def J1{n:Nat}(h:n<4294967296):(iS (n:Int)).ik:=uo (JF n h)
def J2:(iS 0).ik:=J1 (n:=0) aG 
def aiX:(iS 1).ik:=J1 (n:=1) aG 
def uW{c:Prop}[Decidable c]{x y:Iv}(hx:x.ik)(hy:y.ik):(if c then x else y).ik:=by
 by_cases h:c
 .rwa [bw h]
 .rwa [bu h]
def ac2(o:je){v a b da db:Iv}(hv:v.ik)(hd:da.ik)(he:db.ik){p:Nat}(hp:1<=p)(ij:p<=4096):(od o v a b da db p).ik:=by
 unfold od;exact uW J2<|uW (qG hd he hp ij)<|uW (qG hd (yF he) hp ij)<|uW (qG (pn _ _ hp ij) (pn _ _ hp ij) hp ij) <|
  uW (tV _ _ hp ij)<|uW (yF hd)<|uW (uW (pn _ _ hp ij) (pn _ _ hp ij))<|uW (pn _ _ hp ij)<|uW (tV _ _ hp ij) <|
  uW (pn _ _ hp ij)<|uW (yF (pn _ _ hp ij))<|uW (tV _ _ hp ij) mD
def KR(n i:Nat):∀ k,(lO n i k).length=k
 | 0=>rfl
 |k+1=>by simp only[lO,cE,KR n i k,dA,apP]
def ZO(n i:Nat):∀ k,pT (lO n i k)
 | 0=>λ_=>mD
 |k+1=>(ZO n i k).push (by split;exact aiX;exact J2)
def Fb(t:kF)(l:List Iv)(i p:Nat):∀ k,(jk t l i p k).length=t.im+k
 | 0=>KR _ _ _
 |k+1=>by simp only[jk,cE,Fb t l i p k,dA,apP];omega
def ac4(o:je){v:Iv}(hv:v.ik){l c:List Iv}(hc:pT c){p:Nat}(hp:1<=p)(ij:p<=4096):(sJ o v l c p).ik:=by
 unfold sJ;split
 .exact mD
 .exact ac2 o hv (hc _) (hc _) hp ij
def Fc(t:kF){l:List Iv}(hl:pT l)(i:Nat){p:Nat}(hp:1<=p)(ij:p<=4096):∀ k,pT (jk t l i p k)
 | 0=>ZO _ _ _
 |k+1=>(Fc t hl i hp ij k).push (ac4 _ (hl _) (Fc t hl i hp ij k) hp ij)
def ahm(t:kF){xs:List Iv}(h:pT xs){p:Nat}(hp:1<=p)(ij:p<=4096)(q i:Nat):(lG t xs p q i).ik:=Fc t (Da t.ib h hp ij _) i hp ij _ _
def PY(n:Nat)(F:Nat->Nat->Iv)(i k:Nat):(kv n F i k).length=n:=by simp[kv]
def EN{n:Nat}{F:Nat->Nat->Iv}{i k q:Nat}(h:q<n):(kv n F i k).getD q []=(List.range (if q<k then i+1 else i)).map (F q):=by
 simp[kv,bD,h]
def anm(n:Nat)(F:Nat->Nat->Iv)(i:Nat):kv n F i n=kv n F (i+1) 0:=by
 unfold kv;apply fh;intro q hq;rw[bw (bY.1 hq),bu (bO _)]
def Zb{T1 T0 n n':Nat}{F:Nat->Nat->Iv}(hn:n=n'):Bx.le (.lq true T1 T0 n 7 (λ_=>0) (λ_ _ _=>.any) .none) (.lq true T1 T0 n' 7 (mr (kv n' F 0 0)) (oF (kv n' F 0 0)) .none):=by
 subst hn;refine .lq rfl (λk hk=>?_) (λk i j hk hi hj=>absurd hi (bO i));show 0=((kv n F 0 0).getD k []).length;rw[EN hk];simp
def Zd{T1 T0 n n' m x k:Nat}{F:Nat->Nat->Iv}{y:Iv}(hn:n=n')(hm:m=n)(hx:k<n)(hy:y=F k x):
 Bx.le (.lq true T1 T0 n 7 (λq=>if q=k then mr (kv m F x k) q+[y].length else mr (kv m F x k) q)
  (λq i j=>if q=k then(if i<mr (kv m F x k) q then oF (kv m F x k) q i j else(E.kH (iA [y])) (i-mr (kv m F x k) q) j)else oF (kv m F x k) q i j) .none)
  (.lq true T1 T0 n' 7 (mr (kv m F x (k+1))) (oF (kv m F x (k+1))) .none):=by
 subst hn hm hy;have hl:∀ q,q<m->(if q=k then mr (kv m F x k) q+[F k x].length else mr (kv m F x k) q)=mr (kv m F x (k+1)) q:=by
  intro q hq;simp only[mr,EN hq,dh,aqo,dA,apP];by_cases h1:q=k
  .subst h1;simp
  .rw [bu h1];by_cases h2:q<k
   .rw [bw h2,bw aE]
   .rw [bu h2,bu aE]
 refine .lq rfl hl (λq i j hq hi hj=>⟨.iM ?_,Cu _ _ hj⟩);have nh:=hi;rw[hl q hq]at nh;simp only[mr,EN hq,dh,aqo]at nh;simp only[mr,oF,EN hq,dh,aqo];rw[Bz nh];by_cases h1:q=k
 .subst h1;rw[bw rfl,bu (fp q)];rw[bw (aqk q)]at nh;by_cases h2:i<x
  .rw [bw h2,Bz h2]
  .have:i=x:= aE ;subst this;rw[bu h2,dc];rfl
 .rw [bu h1];have e:(if q<k then x+1 else x)=if q<k+1 then x+1 else x:=by
   by_cases h2:q<k
   .rw [bw h2,bw aE]
   .rw [bu h2,bu aE]
  rw[e,Bz nh]
def Zc{T1 T0 n n' m x:Nat}{F:Nat->Nat->Iv}(hn:n=n'):Bx.le (.lq true T1 T0 n 7 (mr (kv m F x m)) (oF (kv m F x m)) .none) (.lq true T1 T0 n' 7 (mr (kv m F (x+1) 0)) (oF (kv m F (x+1) 0)) .none):=by
 subst hn;rw[anm];exact .refl _
def kj(r:List Iv)(i p:Nat):Nat->Dy
 | 0=>jD
 |k+1=>if k=i then kj r i p k else jf (jc (kj r i p k) (kS (r.getD k iu))) p true
def rG(r:List Iv)(i p k:Nat):Bool:=decide (k=i)||decide (jx (jc (kj r i p k) (kS (r.getD k iu))) p true=0)
def Ew(r:List Iv)(i p:Nat):Bool:=(List.range r.length).all (rG r i p)
def lY(r:List Iv)(i p:Nat):Iv:=
 if Ew r i p then
  if jx (jc (r.getD i iu).lo (iU (kj r i p r.length))) p false=0/\jx (jc (r.getD i iu).hi (kj r i p r.length)) p true=0 then
   ⟨jf (jc (r.getD i iu).lo (iU (kj r i p r.length))) p false,jf (jc (r.getD i iu).hi (kj r i p r.length)) p true,false⟩
  else iu
 else iu
def An(r:List Iv)(i p k:Nat):kj r i p (k+1)=if k=i then kj r i p k else jf (jc (kj r i p k) (kS (r.getD k iu))) p true:=rfl
def xz(r:List Iv)(i:Nat){p:Nat}(hp:1<=p)(ij:p<=4096):∀ k,(kj r i p k).ik
 | 0=>q6
 |k+1=>by
  unfold kj;split
  .exact xz r i hp ij k
  .exact uq _ hp ij _
def IB(r:List Iv)(i:Nat){p:Nat}(hp:1<=p)(ij:p<=4096):(lY r i p).lo.ik/\(lY r i p).hi.ik:=by
 unfold lY;split
 .split
  .exact ⟨uq _ hp ij _,uq _ hp ij _⟩
  .exact ⟨q6,q6⟩
 .exact ⟨q6,q6⟩
def kU(m:List (List Iv))(p:Nat):List Iv:=(List.range m.length).map λi=>lY (m.getD i []) i p
def pR(m:List (List Iv))(p:Nat):Nat->Iv
 | 0=>(m.getD 0 []).getD 0 iu
 |k+1=>kI (pR m p k) ((m.getD (k+1) []).getD (k+1) iu) p
def BQ(m:List (List Iv)):Bool:=(List.range m.length).any λi=>nx (m.getD i [])
def C3:List (Int×FuncId×List FuncId):=[(1,332,[]),(3,333,[78]),(4,334,[203]),
 (7,335,[]),(5,336,[78,115]),(6,337,[128,203,115]),
 (8,338,[115]),(9,339,[115]),(10,340,[128]),
 (11,341,[115]),(12,342,[115]),(13,343,[128])]
def rH(w:World)(b:Nat)(l:List MapEntry):World:={ w with heap:=w.heap.setIfInBounds b (.map l.toArray l.length) }
def W5{w:World}{b:Nat}(h:b<w.heap.size)(l:List MapEntry):(rH w b l).heap[b]? = some (.map l.toArray l.length):=by simp[rH,h]
def W6{w:World}{b x:Nat}(h:x≠b)(l:List MapEntry):(rH w b l).heap[x]? = w.heap[x]?:=by simp[rH,Ne.symm h]
def OX(w:World)(b:Nat)(l:List MapEntry):(rH w b l).heap.size=w.heap.size:=by simp[rH]
def aoW{P:Program}{w:World}{ib:Array Oper}{rest:List Oper}{o:Oper}{a:Act}{Q:Exit->Act->World->Prop}(hg:o.guard=none)(t:TypeId)(iH:o.op = .makeMap t none)
 (h:wpList P ib Q rest (a.put o.dst (.map (some w.heap.size))) (rH (w.alloc (.map #[] 0)) w.heap.size [])):wpList P ib Q (o::rest) a w:=by
 refine wpList_plain hg λK hK=>?_
 have e:rH (w.alloc (.map #[] 0)) w.heap.size []=w.alloc (.map #[] 0):=by
  unfold rH;have:(w.alloc (.map #[] 0)).heap.setIfInBounds w.heap.size (.map ([]:List MapEntry).toArray ([]:List MapEntry).length)=(w.alloc (.map #[] 0)).heap:=by
   apply Array.ext_getElem?;intro i;rw[aqs];split
   .rename_i hi;subst hi;rw[heap_alloc_new];simp
   .rfl
  rw[this]
 rw[e]at h;have hr:(Instr.makeMap t none).run P w = .ok (.map (some w.heap.size)) (w.alloc (.map #[] 0)):=by simp[Instr.makeMap]
 unfold Oper.wp;simp[execOp,iH,hr,Result.andThen];exact hK _ _ h
def wK{w:World}{ib:Array Oper}{rest:List Oper}{o:Oper}{a:Act}{Q:Exit->Act->World->Prop}(hg:o.guard=none)(t:TypeId)(m k x:Operand)(iH:o.op = .insert t m k x)
 (ti tk:TI) (kt et:TypeId) (pI:mY TT t=some ti) (hd:ti.d = .map kt et) (htk:mY TT kt=some tk) (hdk:tk.d = .int .i64) (b:Nat) (l:List MapEntry) (z:Int) (v:Value) (hb:b<w.heap.size)
 (hm:a.eval m = .map (some b)) (hz:a.eval k = .int .i64 z) (hv:a.eval x=v) (hn:Instr.findNow (.int .i64) (.int .i64 z) l 0=some none)
 (h:wpList prog ib Q rest (a.put o.dst undef) (rH w b (l++[⟨.int .i64 z,v,l.length⟩]))):wpList prog ib Q (o::rest) a (rH w b l):=by
 have hu:prog.underlying t=some (.map kt et):=by rw[BO.qZ pI,hd]
 have hk:prog.underlying kt=some (.int .i64):=by rw[BO.qZ htk,hdk]
 refine wpList_plain hg λK hK=>?_
 have hh:=W5 hb l;have h1:(Instr.mapUpdate t (.map (some b)) (.int .i64 z) v).run prog (rH w b l) = .ok () (rH w b (l++[⟨.int .i64 z,v,l.length⟩])):=by
  have e2:{ rH w b l with heap:=(rH w b l).heap.setIfInBounds b (.map (l.toArray.push ⟨.int .i64 z,v,l.length⟩) (l.length+1)) }=rH w b (l++[⟨.int .i64 z,v,l.length⟩]):=by
   simp[rH]
  rw[<-e2];simp[Instr.mapUpdate,run_underlying hu,MapKept.run_getObj_map hh,MapKept.run_checkKey hk (k:=.int .i64 z) (by simp[MapKept.IsKey]) false 9999,MapKept.run_findKey hk hn,MapKept.run_setObj_map _ hh,Result.andThen]
 unfold Oper.wp;simp[execOp,iH,hm,hz,hv,h1,Result.andThen];exact hK _ _ h
def ajT(cs:Array Value):Obj->Obj
 | .cells _ elem frozen=>.cells cs elem frozen
 |o=>o
def oJ(w:World)(o:Obj):(w.alloc o).heap=w.heap.push o:=rfl
def yj(w:World)(g:Nat)(cs:Array Value):(w.setRow g cs).heap=w.heap.modify g (ajT cs):=by
 unfold World.setRow;congr 1
def nV(a:Act)(v:Value):a.put none v=a:=rfl
def nN(a:Act)(d:Option Tmp)(v:Value):(a.put d v).tmps.size=a.tmps.size:=by cases d<;>simp[Act.put]
def ajU(a:Act)(d:Option Tmp)(v:Value):(a.put d v).defers=a.defers:=by cases d<;>rfl
def nG{a:Act}{d:Tmp}{v:Value}(h:d<a.tmps.size):(a.put (some d) v).eval (.tmp d)=v:=by
 show(a.tmps.setIfInBounds d v).getD d undef=v;simp[h]
def nQ{a:Act}{d t:Tmp}{v:Value}(h:¬d=t):(a.put (some d) v).eval (.tmp t)=a.eval (.tmp t):=by
 show(a.tmps.setIfInBounds d v).getD t undef=a.tmps.getD t undef;simp[apX h]
def K9(bs:Nat->Prop)(w:World)(g:FuncId)(v:Value):Prop:=∃ b,v = .pointer (some ⟨b,0,none⟩)/\¬bs b/\b<w.heap.size/\w.cell? ⟨b,0,none⟩=some (.func (.func g) #[] #[])
def La(bs:Nat->Prop)(w:World)(gs:List FuncId)(vs:List Value):Prop:=∀ (i:Nat) (g:FuncId) (v:Value),gs[i]? = some g->vs[i]? = some v->K9 bs w g v
def vE{bs:Nat->Prop}{w:World}{vs:List Value}:La bs w [] vs:=λi g v h=>by simp at h
def uC{bs:Nat->Prop}{w:World}{g:FuncId}{v:Value}{gs:List FuncId}{vs:List Value}(h:K9 bs w g v)(k:La bs w gs vs):La bs w (g::gs) (v::vs):=λi g' v' hg hv=>by
 cases i with
 |zero=>simp at hg hv;subst hg hv;exact h
 |succ i=>exact k i g' v' (by simpa using hg) (by simpa using hv)
def K4{w:World}{ib:Array Oper}{rest:List Oper}{o:Oper}{a:Act}{Q:Exit->Act->World->Prop}(hg:o.guard=none)(t:TypeId)(x y:Operand)(iH:o.op = .store t x y)(ti:TI)(pI:mY TT t=some ti)(h1:ti.i.size=1)
 (b:Nat) (v c:Value) (E:TypeId) (hx:a.eval x = .pointer (some ⟨b,0,none⟩)) (hy:a.eval y=v) (hv:v.cells = #[v]) (ho:v.oneCell'=true) (hb:w.heap[b]? = some (.cells #[c] E (0,0)))
 (h:wpList prog ib Q rest (a.put o.dst undef) (w.setRow b #[v])):wpList prog ib Q (o::rest) a w:=by
 refine wpList_plain hg λK hK=>?_
 have hr:=Kv BO w pI b 0 E #[c] hb v (by rw[hv,h1];rfl) (by rw[hv];exact bC _) (by rw[hv];intro u hu;simp at hu;subst hu;exact ho);rw[hv]at hr;have e:((#[c]:Array Value).toList.take 0++(#[v]:Array Value).toList++(#[c]:Array Value).toList.drop (0+(#[v]:Array Value).toList.length)).toArray = #[v]:=rfl;rw[e]at hr;unfold Oper.wp;simp[execOp,iH,hx,hy,Instr.storeAt,Instr.sureAddr,hr,Result.andThen];exact hK _ _ h
def K3{w:World}{ib:Array Oper}{rest:List Oper}{o:Oper}{a:Act}{Q:Exit->Act->World->Prop}(hg:o.guard=none)(t:TypeId)(iH:o.op = .alloc t)(ti:TI)(pI:mY TT t=some ti)(z:Value)(hz:ti.i.zero=some z)(cs:Array Value)(hc:z.cells=cs)
 (h:wpList prog ib Q rest (a.put o.dst (.pointer (some ⟨w.heap.size,0,none⟩))) (w.alloc (.cells cs t))):wpList prog ib Q (o::rest) a w:=by
 refine wpList_plain hg λK hK=>?_
 subst hc;have hr:=PH BO w pI hz;unfold Oper.wp;simp[execOp,iH,Instr.alloc,hr,newRow,run_newObj_alloc,Result.andThen];exact hK _ _ h
def wp_move{P:Program}{w:World}{ib:Array Oper}{rest:List Oper}{o:Oper}{a:Act}{Q:Exit->Act->World->Prop}(hg:o.guard=none)(x:Operand)(iH:o.op = .move x\/o.op = .assign x)(v:Value)(hx:a.eval x=v)
 (h:wpList P ib Q rest (a.put o.dst v) w):wpList P ib Q (o::rest) a w:=by
 refine wpList_plain hg λK hK=>?_
 unfold Oper.wp;rcases iH with iH|iH
 .simp [execOp,iH,hx,Result.andThen];exact hK _ _ h
 .simp [execOp,iH,hx,Result.andThen];exact hK _ _ h
def yT{P:Program}{w:World}{ib:Array Oper}{rest:List Oper}{o:Oper}{a:Act}{Q:Exit->Act->World->Prop}(hg:o.guard=none)(f:FuncId)(cs:Array Operand)(iH:o.op = .makeFunc (.func f) #[] cs)(vs:Array Value)(hv:cs.map a.eval=vs)
 (h:wpList P ib Q rest (a.put o.dst (.func (.func f) #[] vs)) w):wpList P ib Q (o::rest) a w:=by
 refine wpList_plain hg λK hK=>?_
 unfold Oper.wp;simp[execOp,iH,Instr.makeFunc,hv,Result.andThen];exact hK _ _ h
set_option maxRecDepth 100000 in
def ami:gZ 290 [] (.mp C3):=by
 refine⟨call290,λw B vs hK hB hr=>?_⟩;obtain rfl:=hr.qm;show Calls _ _ #[] w _;clear hr hK;go_enter func290,ntmps290;refine wp_seq (wp_region_list ?_);refine wp_move aJ _ (.inr aJ) _ aJ (wpList_nil ?_);refine wp_seq (wp_region_list ?_);refine K3 aJ _ aJ _ aJ _ aJ #[.nilFunc] aJ ?_;refine K3 aJ _ aJ _ aJ _ aJ #[.nilFunc] aJ ?_;refine K3 aJ _ aJ _ aJ _ aJ #[.nilFunc] aJ ?_;refine K3 aJ _ aJ _ aJ _ aJ #[.nilFunc] aJ ?_;refine K4 aJ _ _ _ aJ _ aJ aJ _ (.func (.func 115) #[] #[]) .nilFunc 96 aJ aJ aJ aJ (by(simp only[oJ,yj,dQ,eG,dw,dR];repeat (first|rw[bw trivial]|rw[bw aE]|rw[bu aE]))) ?_;refine K4 aJ _ _ _ aJ _ aJ aJ _ (.func (.func 128) #[] #[]) .nilFunc 96 aJ aJ aJ aJ (by(simp only[oJ,yj,dQ,eG,dw,dR];repeat (first|rw[bw trivial]|rw[bw aE]|rw[bu aE]))) ?_;refine K4 aJ _ _ _ aJ _ aJ aJ _ (.func (.func 78) #[] #[]) .nilFunc 96 aJ aJ aJ aJ (by(simp only[oJ,yj,dQ,eG,dw,dR];repeat (first|rw[bw trivial]|rw[bw aE]|rw[bu aE]))) ?_;refine K4 aJ _ _ _ aJ _ aJ aJ _ (.func (.func 203) #[] #[]) .nilFunc 96 aJ aJ aJ aJ (by(simp only[oJ,yj,dQ,eG,dw,dR];repeat (first|rw[bw trivial]|rw[bw aE]|rw[bu aE]))) ?_;refine wpList_nil ?_;generalize hW:World.setRow _ _ _=W;have s0:W.heap.size=w.heap.size+4:=by rw[<-hW];simp[oJ,yj]
 have so:W.os=w.os:=by rw[<-hW];rfl
 have st:W.tape=w.tape:=by rw[<-hW];rfl
 have sp:W.output=w.output:=by rw[<-hW];rfl
 have s1:∀ x,x<w.heap.size->W.heap[x]? = w.heap[x]?:=λx hx=>by
  rw[<-hW];simp only[oJ,yj,dQ,eG,dw,dR]
  repeat (first|rw[bw trivial]|rw[bw aE]|rw[bu aE])
 generalize ha:Act.put _ _ _=a;have e1:a.eval (.tmp 1) = .pointer (some ⟨w.heap.size,0,none⟩):=by rw[<-ha];rfl
 have e2:a.eval (.tmp 2) = .pointer (some ⟨w.heap.size+1,0,none⟩):=by rw[<-ha,show w.heap.size+1=(w.alloc (.cells #[.nilFunc] 96)).heap.size by simp[oJ]];rfl
 have e3:a.eval (.tmp 3) = .pointer (some ⟨w.heap.size+2,0,none⟩):=by rw[<-ha,show w.heap.size+2=((w.alloc (.cells #[.nilFunc] 96)).alloc (.cells #[.nilFunc] 96)).heap.size by simp[oJ]];rfl
 have e4:a.eval (.tmp 4) = .pointer (some ⟨w.heap.size+3,0,none⟩):=by rw[<-ha,show w.heap.size+3=(((w.alloc (.cells #[.nilFunc] 96)).alloc (.cells #[.nilFunc] 96)).alloc (.cells #[.nilFunc] 96)).heap.size by simp[oJ]];rfl
 have sz:a.tmps.size=17:=by rw[<-ha];rfl
 have hd:a.defers=[]:=by rw[<-ha];rfl
 have c1:W.heap[w.heap.size]? = some (.cells #[.func (.func 115) #[] #[]] 96 (0,0)):=by
  rw[<-hW];simp only[oJ,yj,dQ,eG,dw,dR]
  repeat (first|rw[bw trivial]|rw[bw aE]|rw[bu aE])
  rfl
 have c2:W.heap[w.heap.size+1]? = some (.cells #[.func (.func 128) #[] #[]] 96 (0,0)):=by
  rw[<-hW];simp only[oJ,yj,dQ,eG,dw,dR]
  repeat (first|rw[bw trivial]|rw[bw aE]|rw[bu aE])
  rfl
 have c3:W.heap[w.heap.size+2]? = some (.cells #[.func (.func 78) #[] #[]] 96 (0,0)):=by
  rw[<-hW];simp only[oJ,yj,dQ,eG,dw,dR]
  repeat (first|rw[bw trivial]|rw[bw aE]|rw[bu aE])
  rfl
 have c4:W.heap[w.heap.size+3]? = some (.cells #[.func (.func 203) #[] #[]] 96 (0,0)):=by
  rw[<-hW];simp only[oJ,yj,dQ,eG,dw,dR]
  repeat (first|rw[bw trivial]|rw[bw aE]|rw[bu aE])
  rfl
 clear hW ha;refine wp_seq (wp_region_list ?_);refine aoW aJ _ aJ ?_;refine wK aJ _ _ _ _ aJ _ _ _ _ aJ aJ aJ aJ _ _ _ (.func (.func 332) #[] #[]) (by simp[oJ]) (by simp[nV,nN,nG,nQ,e1,e2,e3,e4,sz]) aJ aJ aJ ?_;refine yT aJ _ _ aJ #[.pointer (some ⟨w.heap.size+2,0,none⟩)] (by simp[nV,nN,nG,nQ,e1,e2,e3,e4,sz]) ?_;refine wK aJ _ _ _ _ aJ _ _ _ _ aJ aJ aJ aJ _ _ _ (.func (.func 333) #[] #[.pointer (some ⟨w.heap.size+2,0,none⟩)]) (by simp[oJ]) (by simp[nV,nN,nG,nQ,e1,e2,e3,e4,sz]) aJ (by simp[nV,nN,nG,nQ,e1,e2,e3,e4,sz]) aJ ?_;refine yT aJ _ _ aJ #[.pointer (some ⟨w.heap.size+3,0,none⟩)] (by simp[nV,nN,nG,nQ,e1,e2,e3,e4,sz]) ?_;refine wK aJ _ _ _ _ aJ _ _ _ _ aJ aJ aJ aJ _ _ _ (.func (.func 334) #[] #[.pointer (some ⟨w.heap.size+3,0,none⟩)]) (by simp[oJ]) (by simp[nV,nN,nG,nQ,e1,e2,e3,e4,sz]) aJ (by simp[nV,nN,nG,nQ,e1,e2,e3,e4,sz]) aJ ?_;refine wK aJ _ _ _ _ aJ _ _ _ _ aJ aJ aJ aJ _ _ _ (.func (.func 335) #[] #[]) (by simp[oJ]) (by simp[nV,nN,nG,nQ,e1,e2,e3,e4,sz]) aJ aJ aJ ?_
 refine yT aJ _ _ aJ #[.pointer (some ⟨w.heap.size+2,0,none⟩),.pointer (some ⟨w.heap.size,0,none⟩)] (by simp[nV,nN,nG,nQ,e1,e2,e3,e4,sz]) ?_;refine wK aJ _ _ _ _ aJ _ _ _ _ aJ aJ aJ aJ _ _ _ (.func (.func 336) #[] #[.pointer (some ⟨w.heap.size+2,0,none⟩),.pointer (some ⟨w.heap.size,0,none⟩)]) (by simp[oJ]) (by simp[nV,nN,nG,nQ,e1,e2,e3,e4,sz]) aJ (by simp[nV,nN,nG,nQ,e1,e2,e3,e4,sz]) aJ ?_;refine yT aJ _ _ aJ #[.pointer (some ⟨w.heap.size+1,0,none⟩),.pointer (some ⟨w.heap.size+3,0,none⟩),.pointer (some ⟨w.heap.size,0,none⟩)] (by simp[nV,nN,nG,nQ,e1,e2,e3,e4,sz]) ?_;refine wK aJ _ _ _ _ aJ _ _ _ _ aJ aJ aJ aJ _ _ _ (.func (.func 337) #[] #[.pointer (some ⟨w.heap.size+1,0,none⟩),.pointer (some ⟨w.heap.size+3,0,none⟩),.pointer (some ⟨w.heap.size,0,none⟩)]) (by simp[oJ]) (by simp[nV,nN,nG,nQ,e1,e2,e3,e4,sz]) aJ (by simp[nV,nN,nG,nQ,e1,e2,e3,e4,sz]) aJ ?_;refine yT aJ _ _ aJ #[.pointer (some ⟨w.heap.size,0,none⟩)] (by simp[nV,nN,nG,nQ,e1,e2,e3,e4,sz]) ?_
 refine wK aJ _ _ _ _ aJ _ _ _ _ aJ aJ aJ aJ _ _ _ (.func (.func 338) #[] #[.pointer (some ⟨w.heap.size,0,none⟩)]) (by simp[oJ]) (by simp[nV,nN,nG,nQ,e1,e2,e3,e4,sz]) aJ (by simp[nV,nN,nG,nQ,e1,e2,e3,e4,sz]) aJ ?_;refine yT aJ _ _ aJ #[.pointer (some ⟨w.heap.size,0,none⟩)] (by simp[nV,nN,nG,nQ,e1,e2,e3,e4,sz]) ?_;refine wK aJ _ _ _ _ aJ _ _ _ _ aJ aJ aJ aJ _ _ _ (.func (.func 339) #[] #[.pointer (some ⟨w.heap.size,0,none⟩)]) (by simp[oJ]) (by simp[nV,nN,nG,nQ,e1,e2,e3,e4,sz]) aJ (by simp[nV,nN,nG,nQ,e1,e2,e3,e4,sz]) aJ ?_;refine yT aJ _ _ aJ #[.pointer (some ⟨w.heap.size+1,0,none⟩)] (by simp[nV,nN,nG,nQ,e1,e2,e3,e4,sz]) ?_;refine wK aJ _ _ _ _ aJ _ _ _ _ aJ aJ aJ aJ _ _ _ (.func (.func 340) #[] #[.pointer (some ⟨w.heap.size+1,0,none⟩)]) (by simp[oJ]) (by simp[nV,nN,nG,nQ,e1,e2,e3,e4,sz]) aJ (by simp[nV,nN,nG,nQ,e1,e2,e3,e4,sz]) aJ ?_;refine yT aJ _ _ aJ #[.pointer (some ⟨w.heap.size,0,none⟩)] (by simp[nV,nN,nG,nQ,e1,e2,e3,e4,sz]) ?_
 refine wK aJ _ _ _ _ aJ _ _ _ _ aJ aJ aJ aJ _ _ _ (.func (.func 341) #[] #[.pointer (some ⟨w.heap.size,0,none⟩)]) (by simp[oJ]) (by simp[nV,nN,nG,nQ,e1,e2,e3,e4,sz]) aJ (by simp[nV,nN,nG,nQ,e1,e2,e3,e4,sz]) aJ ?_;refine yT aJ _ _ aJ #[.pointer (some ⟨w.heap.size,0,none⟩)] (by simp[nV,nN,nG,nQ,e1,e2,e3,e4,sz]) ?_;refine wK aJ _ _ _ _ aJ _ _ _ _ aJ aJ aJ aJ _ _ _ (.func (.func 342) #[] #[.pointer (some ⟨w.heap.size,0,none⟩)]) (by simp[oJ]) (by simp[nV,nN,nG,nQ,e1,e2,e3,e4,sz]) aJ (by simp[nV,nN,nG,nQ,e1,e2,e3,e4,sz]) aJ ?_;refine yT aJ _ _ aJ #[.pointer (some ⟨w.heap.size+1,0,none⟩)] (by simp[nV,nN,nG,nQ,e1,e2,e3,e4,sz]) ?_;refine wK aJ _ _ _ _ aJ _ _ _ _ aJ aJ aJ aJ _ _ _ (.func (.func 343) #[] #[.pointer (some ⟨w.heap.size+1,0,none⟩)]) (by simp[oJ]) (by simp[nV,nN,nG,nQ,e1,e2,e3,e4,sz]) aJ (by simp[nV,nN,nG,nQ,e1,e2,e3,e4,sz]) aJ ?_;refine wp_move aJ _ (.inl aJ) (.map (some W.heap.size)) (by simp[nV,nN,nG,nQ,sz]) ?_;refine wp_move aJ _ (.inr aJ) (.map (some W.heap.size)) (by simp[nV,nN,nG,nQ,sz]) (wpList_nil ?_);refine wp_ret ?_;generalize hz:Act.put _ _ _=z;have z0:z.eval (.tmp 0) = .map (some W.heap.size):=by rw[<-hz];exact nG (by simp[nN,sz])
 have zd:z.defers=[]:=by rw[<-hz];simp only[ajU,hd]
 clear hz;refine⟨zd,.map (some W.heap.size),?_,_,rfl,?_,?_⟩
 .rw [<-z0];unfold results;rw[show f290.results = #[.tmp 0]from rfl];simp;show _=z.tmps.getD 0 undef;simp
 .refine ⟨so,st,sp,by simp[OX,oJ];omega,λx hx=>?_⟩;rw[W6 aE,oJ,dR,bu aE,s1 x hx]
 .have bx:∀ (k:Nat) (g:FuncId),k<4->W.heap[w.heap.size+k]? = some (.cells #[.func (.func g) #[] #[]] 96 (0,0))->∀ L,K9 B (rH (W.alloc (.map #[] 0)) W.heap.size L) g (.pointer (some ⟨w.heap.size+k,0,none⟩)):=λk g hk hc L=>by
   refine⟨_,rfl,λh=>?_,?_,?_⟩
   .have:=(hB _ h).1;omega
   .simp [OX,oJ];omega
   .have e:(rH (W.alloc (.map #[] 0)) W.heap.size L).heap[w.heap.size+k]? = some (.cells #[.func (.func g) #[] #[]] 96 (0,0)):=by
     rw[W6 aE,oJ,dR,bu aE,hc]
    simp[World.cell?,e]
  have b1:=bx 0 _ aG c1;have b2:=bx 1 _ aG c2;have b3:=bx 2 _ aG c3;have b4:=bx 3 _ aG c4;refine .mp _ _ _ _ (λh=>?_) (by simp[OX,oJ]) (W5 (by simp[oJ]) _) ?_
  .have:=(hB _ h).1;omega
  .exact ⟨⟨rfl,_,rfl,rfl,vE⟩,⟨⟨rfl,_,rfl,rfl,uC (b3 _) vE⟩,⟨⟨rfl,_,rfl,rfl,uC (b4 _) vE⟩,⟨⟨rfl,_,rfl,rfl,vE⟩,⟨⟨rfl,_,rfl,rfl,uC (b3 _) (uC (b1 _) vE)⟩,⟨⟨rfl,_,rfl,rfl,uC (b2 _) (uC (b4 _) (uC (b1 _) vE))⟩,⟨⟨rfl,_,rfl,rfl,uC (b1 _) vE⟩,⟨⟨rfl,_,rfl,rfl,uC (b1 _) vE⟩,⟨⟨rfl,_,rfl,rfl,uC (b2 _) vE⟩,⟨⟨rfl,_,rfl,rfl,uC (b1 _) vE⟩,⟨⟨rfl,_,rfl,rfl,uC (b1 _) vE⟩,⟨⟨rfl,_,rfl,rfl,uC (b2 _) vE⟩,trivial⟩⟩⟩⟩⟩⟩⟩⟩⟩⟩⟩⟩
end Go.Proofs.YtkjkcjhacddojaaGreatDoor
namespace Go.Proofs.YtkjkcjhacddojaaGreatDoor.Pu
open Go.RowKit
def Yf{bs br:Nat->Prop}{w:World}{xs:List Value}{a:Value}(h:iN bs br w (.agg (xs.map E.v)) a):a = .agg xs.toArray:=by
 generalize he:E.agg (xs.map E.v)=e at h;cases h with
 |agg l vs hl k=>
  cases he;rw[dh]at hl;have:vs=xs:=gp λi=>by
   cases hx:xs[i]? with
   |none=>rw[List.getElem?_eq_none_iff]at hx ⊢;omega
   |some x=>
    obtain⟨v,hv⟩:∃ v,vs[i]? = some v:=by
     have hi:i<xs.length:=(cH.1 hx).1;exact⟨vs[i]'(aE),bI aE⟩
    rw[hv,iN.kW (k i (.v x) v (by rw[cQ,hx];rfl) hv)]
  rw[this]
 |_=>cases he
def OM{P:Program}{t:TypeId}{m D D':Nat}(hm:m<=10000)(hk:P.keyTypeAt m t=true)(hg:P.eqGuardType P.depth t=false){xs ys:List Value}{la lb:List Lit}
 (hx:P.keyLits D t xs=some la) (hy:P.keyLits D' t ys=some lb) (fx:(Value.agg xs.toArray).formed P t=true) (fy:(Value.agg ys.toArray).formed P t=true) {c:Bool} (hc:c=true↔la=lb):
 nn P .eql t (.agg (xs.map E.v)) (.agg (ys.map E.v)) (.bool c):=by
 intro bs br w a b ox oy ha hb;obtain rfl:=Yf ha;obtain rfl:=Yf hb;constructor
 .simp only[eqGuard,fJ,bS,bJ,Sem.run_bind,run_program,Result.andThen_ok,hg,eO,bQ,Sem.run_pure]
 .obtain ⟨r,hr,agu⟩:=run_equalIn_deep (10000-m) m t hk w _ _ _ _ la lb fx fy (by simpa[Value.cells]using hx) (by simpa[Value.cells]using hy);rw[(aE:10000-m+m=10000)]at hr;have e:r=c:=by rw[ep,agu,hc]
  subst e;have:(Op.equal t (.agg xs.toArray) (.agg ys.toArray)).run P w = .ok r w:=hr;simp only[binOp,Sem.run_bind,this,Result.andThen_ok,Sem.run_pure]
end Go.Proofs.YtkjkcjhacddojaaGreatDoor.Pu
namespace Go.Proofs.YtkjkcjhacddojaaGreatDoor
open Go.RowKit Fp Pu
def WQ{t:TypeId}{m:Nat}(hm:m<=10000)(hk:prog.keyTypeAt m t=true)(hg:prog.eqGuardType prog.depth t=false){xs:List Value}(hx:(prog.keyLits 10 t xs).isSome=true)
 (fx:(Value.agg xs.toArray).formed prog t=true):nn prog .eql t (.agg (xs.map E.v)) (.agg (xs.map E.v)) (.bool true):=by
 obtain⟨l,hl⟩:=gT.1 hx;exact OM hm hk hg hl hl fx fx aK 
def J9{a b c d e f:Int}(h:a=0/\b=0/\c=0/\d=0/\e=0/\f=0):
 nn prog .eql 74 (.agg [iP a,iP b,iP c,iP d,iP e,iP f]) (.agg [iP 0,iP 0,iP 0,iP 0,iP 0,iP 0]) (.bool true):=by
 obtain⟨rfl,rfl,rfl,rfl,rfl,rfl⟩:=h;exact WQ (m:=10) (xs:=[.int .i64 0,.int .i64 0,.int .i64 0,.int .i64 0,.int .i64 0,.int .i64 0]) aG aI aI aI aI 
def OK{a b:Int}(h:a=0/\b=0):nn prog .eql 72 (.agg [iP a,iP b]) (.agg [iP 0,iP 0]) (.bool true):=by
 obtain⟨rfl,rfl⟩:=h;exact WQ (m:=10) (xs:=[.int .i64 0,.int .i64 0]) aG aI aI aI aI 
def Bk{d:Nat}{n:Int}(h:ku .i64 n):prog.keyLits (d+1) 3 [.int .i64 n]=some [.int .i64 n]:=by
 have hw:(Lit.int .i64 n).wf=true:=by
  unfold ku at h;simp[Lit.wf,IntKind.min,IntKind.max,IntKind.signed,IntKind.bits];omega
 unfold Program.keyLits;rw[underlying3];simp[hw]
def XM{a b:Int}(ha:ku .i64 a)(hb:ku .i64 b):prog.keyLits 10 72 [.int .i64 a,.int .i64 b]=some [.int .i64 a,.int .i64 b]:=by
 have c1:prog.cellsOf 72=2:= aI ;have c2:prog.cellsOf 3=1:= aI ;unfold Program.keyLits;rw[underlying72];simp[c1,c2,fN,Bk ha,Bk hb]
def WO{a b:Int}{r:Bool}(ha:ku .i64 a)(hb:ku .i64 b)(h:decide (a=0/\b=0)=r):nn prog .eql 72 (.agg [iP a,iP b]) (.agg [iP 0,iP 0]) (.bool r):=
 OM (m:=10) (xs:=[.int .i64 a,.int .i64 b]) (ys:=[.int .i64 0,.int .i64 0]) aG aI aI (XM ha hb) (XM aW aW) aI aI (by subst h;simp)
def aja{a b c d e f a' b' c' d' e' f':Int}{r:Bool}(hx:prog.keyLits 10 74 [.int .i64 a,.int .i64 b,.int .i64 c,.int .i64 d,.int .i64 e,.int .i64 f]=some [.int .i64 a,.int .i64 b,.int .i64 c,.int .i64 d,.int .i64 e,.int .i64 f])(hy:prog.keyLits 10 74 [.int .i64 a',.int .i64 b',.int .i64 c',.int .i64 d',.int .i64 e',.int .i64 f']=some [.int .i64 a',.int .i64 b',.int .i64 c',.int .i64 d',.int .i64 e',.int .i64 f'])
 (fx:(Value.agg (List.toArray [.int .i64 a,.int .i64 b,.int .i64 c,.int .i64 d,.int .i64 e,.int .i64 f])).formed prog 74=true) (fy:(Value.agg (List.toArray [.int .i64 a',.int .i64 b',.int .i64 c',.int .i64 d',.int .i64 e',.int .i64 f'])).formed prog 74=true) (h:decide (a=a'/\b=b'/\c=c'/\d=d'/\e=e'/\f=f')=r):
 nn prog .eql 74 (.agg [iP a,iP b,iP c,iP d,iP e,iP f]) (.agg [iP a',iP b',iP c',iP d',iP e',iP f']) (.bool r):=
 OM (m:=10) (xs:=[.int .i64 a,.int .i64 b,.int .i64 c,.int .i64 d,.int .i64 e,.int .i64 f]) (ys:=[.int .i64 a',.int .i64 b',.int .i64 c',.int .i64 d',.int .i64 e',.int .i64 f']) aG aI aI hx hy fx fy (by subst h;simp)
def OL{a b:ByteArray}{r:Bool}(h:(a.toList==b.toList)=r):nn prog .eql 9 (.v (.string a)) (.v (.string b)) (.bool r):=by
 intro bs br w x y ox oy hx hy;obtain rfl:=iN.kW hx;obtain rfl:=iN.kW hy;subst h;refine⟨by simp[eqGuard],?_⟩;show(Op.stringOp .eql a b).run prog w=_;unfold Op.stringOp;simp only[Sem.run_pure]
def amk{P:Program}(w:World)(t tx ty e:TypeId)(i:TypeInfo)(z:Value)(ht:P.underlying t=some (.slice e))(hx:P.underlying tx=some (.int .i64))(hi:P.info? e=some i)(hz:i.zero=some z)
 (yp:i.size≠0) (n:Nat) (h0:0<n) (zj:n<=1000000) (TC:n*i.bytes<=281474976710656):
 (Builtin.append_ #[t,tx] ty #[.slice none 0 0,.int .i64 (n:Int)]).run P w =
  .ok (.slice (some ⟨w.heap.size,0,none⟩) n (grownCap w n 0 e)) (w.drew.alloc (.cells (Builtin.zeroCells z.cells n++Builtin.zeroCells z.cells (grownCap w n 0 e-n)) e)):=by
 have hn:n≠0:= aE ;have hns:n*i.size≠0:=dV hn yp;have aga:¬(9223372036854775807<(n:Int)):= aE ;have af8:¬(281474976710656<Builtin.nextslicecap n 0*i.bytes):=by rw[nextslicecap_zero h0];omega
 have hw:IntKind.i64.wrap (n:Int)=n:=i64_in _ aE aE;have FO:¬((n:Int)<0):= aE ;have af9:¬(281474976710656<(n:Int)*(i.bytes:Int)):=by
  have:(n:Int)*(i.bytes:Int)=((n*i.bytes:Nat):Int):= aK ;rw[this];omega
 simp[Builtin.append_,run_underlying ht,run_underlying hx,sizeOf,typeInfo,zeroValue,hi,hz,asInt,asIntOf,hw,FO,af9,hn,hns,aga,af8,Question.forced,run_firstCells_none,newRow,grownCap]
def aoV{P:Program}{w:World}{ib:Array Oper}{rest:List Oper}{o:Oper}{a:Act}{Q:Exit->Act->World->Prop}(Cb:o.guard=none)(s x:Operand)(t tx:TypeId)
 (ho:o.op = .call { callee:=.builtin .append,args:=#[s,x],argTypes:=#[t,tx] })
 (e:TypeId) (i:TypeInfo) (z:Value) (ht:P.underlying t=some (.slice e)) (hx:P.underlying tx=some (.int .i64)) (hi:P.info? e=some i) (hz:i.zero=some z)
 (yp:i.size≠0) (n:Nat) (h0:0<n) (zj:n<=1000000) (TC:n*i.bytes<=281474976710656) (hs:a.eval s = .slice none 0 0) (hxx:a.eval x = .int .i64 (n:Int))
 (h:wpList P ib Q rest (a.put o.dst (.slice (some ⟨w.heap.size,0,none⟩) n (grownCap w n 0 e))) (w.drew.alloc (.cells (Builtin.zeroCells z.cells n++Builtin.zeroCells z.cells (grownCap w n 0 e-n)) e))):wpList P ib Q (o::rest) a w:=by
 refine wpList_plain Cb λK hK=>?_
 have mq:=amk (P:=P) w t tx o.type e i z ht hx hi hz yp n h0 zj TC;unfold Oper.wp;simp[execOp,ho,resolve,invoke,builtin,hs,hxx,mq,Result.andThen];exact hK _ _ h
def aaC(w:World)(o:Obj):Below w.heap.size w (w.alloc o).drew:=⟨rfl,rfl,rfl,by rw[show(w.alloc o).drew.heap=w.heap.push o from rfl,dQ];omega,λx hx=>Below.heap_alloc w _ x hx⟩
def aaD(w:World)(o:Obj):w.heap.size<(w.alloc o).drew.heap.size:=by rw[show(w.alloc o).drew.heap=w.heap.push o from rfl,dQ];omega
def agS:(prog.info? 46).map (λi=>(i.zero,i.size,i.bytes))=some (some (.agg #[.bool false,.slice none 0 0,.int .i64 0,.bool false,.slice none 0 0,.int .i64 0,.bool false]),7,88):= aI 
def aae(n:Nat):∀ u,u ∈ Builtin.zeroCells (Value.cells (.agg #[.bool false,.slice none 0 0,.int .i64 0,.bool false,.slice none 0 0,.int .i64 0,.bool false])) n->sR u=false:=by
 intro u hu;simp only[Builtin.zeroCells,gv,gw]at hu;obtain⟨q,hq,rfl⟩:=hu;have hc:Value.cells (.agg #[.bool false,.slice none 0 0,.int .i64 0,.bool false,.slice none 0 0,.int .i64 0,.bool false]) = #[.bool false,.slice none 0 0,.int .i64 0,.bool false,.slice none 0 0,.int .i64 0,.bool false]:=rfl;rw[hc]at hq ⊢;have hs:(#[Value.bool false,.slice none 0 0,.int .i64 0,.bool false,.slice none 0 0,.int .i64 0,.bool false]:Array Value).size=7:=rfl;rw[hs];have h7:q%7<7:=bM _ aG;generalize q%7=k at h7;rcases k with _|_|_|_|_|_|_|k
 all_goals first|rfl|omega
set_option maxRecDepth 100000 in
def af3(n:Nat)(hn:n<=1000000):vw prog Tb 239 [.v (.slice none 0 0),iP (n:Int)] true 46 0 7 (jR []):=by
 refine⟨call239,λw B vs hK hB hr=>?_⟩;obtain⟨v1,vs,rfl,h1,hr⟩:=hr.mI;obtain⟨v2,vs,rfl,h2,hr⟩:=hr.mI;obtain rfl:=hr.qm;obtain rfl:=iN.kW h1;obtain rfl:=iN.kW h2;show Calls _ _ #[.slice none 0 0,.int .i64 (n:Int)] w _;clear h1 h2 hr hB hK;by_cases h0:n=0
 .subst h0;go_enter func239,ntmps239;go_wp2;go_ret;exact⟨_,rfl,Below.refl _ _,λ_ _=>undef,.inl ⟨rfl,rfl⟩,λx hx=>by simp[Value.ownBlock]at hx,λi j hi=>absurd hi (bO _)⟩
 .obtain ⟨i,hi,hz,h1,h2⟩:=info_parts agS;have hw:IntKind.i64.wrap ((n:Int)-0)=n:=i64_in _ aE aE;have Jy:IntKind.i64.wrap (n:Int)=n:=i64_in _ aE aE;have e2:decide ((n:Int)<0)=false:=bB aE;have e3:decide ((0:Int)<n)=true:=bA aE;have DP:n<=grownCap w n 0 46:=grownCap_ge w n 0 _;go_enter func239,ntmps239;go_wp2_with (at_builtin;go_must (refine aoV aJ _ _ _ _ aJ _ i _ underlying26 underlying3 hi hz aE n aE aE (by rw[h2];omega) aJ aJ ?_))
  go_ret;have hz7:(#[Value.bool false,.slice none 0 0,.int .i64 0,.bool false,.slice none 0 0,.int .i64 0,.bool false]:Array Value).size=7:=rfl;refine⟨_,rfl,aaC w _,λ_ _=>undef,.inr ⟨w.heap.size,grownCap w n 0 46,_,rfl,heap_alloc_new w _,cj _,grownCap_le_maxLen w n 0 _ (by unfold maxLen;omega),?_,λi j hi=>absurd hi (bO _),λ_ u hu=>?_⟩,λx hx=>?_,λi j hi=>absurd hi (bO _)⟩
  .simp only[apY,size_zeroCells,hz7,<-ct];congr 1;omega
  .rcases fL.1 hu with hu|hu
   .exact aae _ u hu
   .exact aae _ u hu
  .simp [Value.ownBlock]at hx;subst hx;exact⟨bC _,aaD w _⟩
abbrev Hy(f:FuncId)(args:List E)(nl:Bool)(T:TypeId)(n sz:Nat)(el:Nat->Nat->E):Prop:=vw prog Tb f args nl T n sz el
def trn{f:FuncId}{fn:Func}{args:List E}{nl:Bool}{T0:TypeId}{n sz:Nat}{el:Nat->Nat->E}(xd:∀ (vs:Array Value) (w:World),(callFunc f vs).run prog w = .ok (.enter f vs) w)
 (hf:prog.funcs[f]? = some fn) (t:Tr prog Tb) (h:Pm TT fn args (.row nl T0 n sz el) t=t.ex λ_=>.a (Bx.le (.row nl T0 n sz el) (.row nl T0 n sz el)) .nil):Hy f args nl T0 n sz el:=
 vw.P6 BO mixed Qu xd hf t h
def Zw(t:kF)(x:Nat):PS:=⟨46,true,[(28,.e (iP x)),(27,.e (iP t.ib.length)),(26,.e (lf t.ib)),(1,.box 1 0)],[(1,.cells 25 [iP t.im,lf t.ib,lp t.il])]⟩
def Zn(s:kB)(x:Nat):PS:=⟨85,true,[(31,.e (iP x)),(30,.e (iP s.tape.ib.length)),(29,.e (lf s.tape.ib)),(3,.box 3 0),(1,.box 1 0)],[(3,.cells 25 [iP s.tape.im,lf s.tape.ib,lp s.tape.il]),(1,.cells 28 [iP s.tape.im,lf s.tape.ib,lp s.tape.il,iP s.iD,iA s.params])]⟩
noncomputable def Zv(t:kF)(xs:List Iv)(p:Nat)(x:Nat):PS:=⟨75,true,[(26,.e (iP x)),(25,.e (iP t.ib.length)),(24,.e (lf t.ib)),(7,.own 22),(2,.e (iP p))],[(22,.row true 46 ((iR t.ib xs p x).length) 7 (jR (iR t.ib xs p x)))]⟩
def WV(k:Nat)(h1:3<=k)(h2:k<=6):gZ 287 [iP k] (iP 2):=
 ak call287 func287 (ae [ai 5 ((k:Int)==1) (bj aE)]<|.w ((k:Int)=3)
  (λk1=>af [tB 7 (bk k1)])
  (λk1=>ae [tB 7 (bj k1)]<|.w ((k:Int)=4)
   (λk2=>af [tB 8 (bk k2)])
   (λk2=>ae [tB 8 (bj k2)]<|.w ((k:Int)=5)
    (λk3=>af [tB 9 (bk k3)])
    (λk3=>ae [tB 9 (bj k3)]<|.w ((k:Int)=6)
     (λk4=>af [tB 10 (bk k4)])
     (λk4=>.x aE))))) 
def OP(k:Nat)(h1:7<=k)(h2:k<=13):gZ 287 [iP k] (iP 1):=
 ak call287 func287 (ae [ai 5 ((k:Int)==1) (bj aE),ai 7 ((k:Int)==3) (bj aE),ai 8 ((k:Int)==4) (bj aE),ai 9 ((k:Int)==5) (bj aE),ai 10 ((k:Int)==6) (bj aE)]<|.w ((k:Int)=7)
  (λk1=>af [tB 12 (bk k1)])
  (λk1=>ae [tB 12 (bj k1)]<|.w ((k:Int)=8)
   (λk2=>af [tB 13 (bk k2)])
   (λk2=>ae [tB 13 (bj k2)]<|.w ((k:Int)=9)
    (λk3=>af [tB 14 (bk k3)])
    (λk3=>ae [tB 14 (bj k3)]<|.w ((k:Int)=10)
     (λk4=>af [tB 15 (bk k4)])
     (λk4=>ae [tB 15 (bj k4)]<|.w ((k:Int)=11)
      (λk5=>af [tB 16 (bk k5)])
      (λk5=>ae [tB 16 (bj k5)]<|.w ((k:Int)=12)
       (λk6=>af [tB 17 (bk k6)])
       (λk6=>ae [tB 17 (bj k6)]<|.w ((k:Int)=13)
        (λk7=>af [tB 18 (bk k7)])
        (λk7=>.x aE)))))))) 
def WU(k:Nat)(h1:k=1):gZ 287 [iP k] (iP 0):=
 ak call287 func287 (af [ah 5 ((k:Int)==1) (bk aE)]) 
def ajb{a b:Int}(h:ml a b=true):nn prog .eql 72 (.agg [iP a,iP b]) (.agg [iP 0,iP 0]) (.bool false):=by
 obtain⟨h1,h2,h3,h4⟩:=CQ h;exact WO aW aW (bB aE)
def mZ.iO{o:je}{m:Nat}(h:mZ o m)(mO:o.kind≠1)(hk:o.kind<=6):3<=o.kind/\o.a<m/\o.b<m/\o.n=0/\o.cn=0/\o.cd=0:=by
 have h3:=h.k3.resolve_left mO;have ha:=h.a;have hb:=h.b;have hn:=h.n;have hc:=h.c;rw[bu mO]at ha hc;rw[bw ⟨h3,hk⟩]at hb;rw[bu aE]at hn;exact⟨h3,ha,hb,hn,hc.1,hc.2⟩
def mZ.pow{o:je}{m:Nat}(h:mZ o m)(hk:o.kind=8):o.a<m/\o.b=0/\o.n<=16/\o.cn=0/\o.cd=0:=by
 have ha:=h.a;have hb:=h.b;have hn:=h.n;have hc:=h.c;rw[bu aE]at ha hb hc;rw[bw hk]at hn;exact⟨ha,hb,hn,hc.1,hc.2⟩
def mZ.un{o:je}{m:Nat}(h:mZ o m)(hk:¬o.kind<=6)(uL:o.kind≠8):o.kind<=13/\o.a<m/\o.b=0/\o.n=0/\o.cn=0/\o.cd=0:=by
 have ha:=h.a;have hb:=h.b;have hn:=h.n;have hc:=h.c;rw[bu aE]at ha hb hc;rw[bu uL]at hn;exact⟨h.yz,ha,hb,hn,hc.1,hc.2⟩
def mZ.num{o:je}{m:Nat}(h:mZ o m)(hk:o.kind=1):o.a=0/\o.b=0/\o.n=0/\ml o.cn o.cd=true:=by
 have ha:=h.a;have hb:=h.b;have hn:=h.n;have hc:=h.c;rw[bw hk]at ha hc;rw[bu aE]at hb hn;exact⟨ha,hb,hn,hc⟩
def mZ.E4{o:je}{m:Nat}(h:mZ o m)(hk:o.kind≠1):o.a<m:=by
 have ha:=h.a;rwa[bu hk]at ha
def ajO(o:je)(m:Nat)(h:mZ o m)(hk:o.kind=1):gZ 324 [oD o,iP m] (bP true):=by
 obtain⟨h2,h3,h4,sQ⟩:=h.num hk;exact ak call324 func324 (af [.c (WU o.kind aE),ai 14 (decide ((0:Int)<0)) aG,ah 17 ((0:Int)==0) aG,.c (Kh o.cn o.cd),ah 20 (ml o.cn o.cd) sQ,ai 26 ((o.kind:Int)==8) (bj aE),ai 37 (decide ((0:Int)<0)) aG,ai 49 (decide ((1:Int)<0)) aG,.g (J9 ⟨aE,aE,aE,aE,aE,aE⟩:nn prog .eql 74 (.agg [iP 0,iP o.a,iP o.b,iP o.n,iP 0,iP 0]) (.agg [iP 0,iP 0,iP 0,iP 0,iP 0,iP 0]) (.bool true))]) 
def ajN(o:je)(m:Nat)(h:mZ o m)(mO:o.kind≠1)(hk:o.kind<=6):gZ 324 [oD o,iP m] (bP true):=by
 obtain⟨h1,h2,h3,h4,h5,h6⟩:=h.iO mO hk;exact ak call324 func324 (af [.c (WV o.kind aE aE),ai 14 (decide ((2:Int)<0)) aG,ai 17 ((2:Int)==0) aG,ai 26 ((o.kind:Int)==8) (bj aE),ah 37 (decide ((0:Int)<2)) aG,tF 40 ((o.a:Int)<0) aE,tF 45 ((m:Int)<=o.a) aE,ah 49 (decide ((1:Int)<2)) aG,tF 52 ((o.b:Int)<0) aE,tF 57 ((m:Int)<=o.b) aE,.g (J9 ⟨aE,aE,aE,aE,aE,aE⟩:nn prog .eql 74 (.agg [iP 0,iP 0,iP 0,iP o.n,iP o.cn,iP o.cd]) (.agg [iP 0,iP 0,iP 0,iP 0,iP 0,iP 0]) (.bool true))]) 
def ajQ(o:je)(m:Nat)(h:mZ o m)(hk:o.kind=8):gZ 324 [oD o,iP m] (bP true):=by
 obtain⟨h2,h3,h4,h5,h6⟩:=h.pow hk;exact ak call324 func324 (af [.c (OP o.kind aE aE),ai 14 (decide ((1:Int)<0)) aG,ai 17 ((1:Int)==0) aG,ah 26 ((o.kind:Int)==8) (bk aE),tF 29 ((o.n:Int)<0) aE,tF 33 (16<(o.n:Int)) aE,ah 37 (decide ((0:Int)<1)) aG,tF 40 ((o.a:Int)<0) aE,tF 45 ((m:Int)<=o.a) aE,ai 49 (decide ((1:Int)<1)) aG,.g (J9 ⟨aE,aE,aE,aE,aE,aE⟩:nn prog .eql 74 (.agg [iP 0,iP 0,iP o.b,iP 0,iP o.cn,iP o.cd]) (.agg [iP 0,iP 0,iP 0,iP 0,iP 0,iP 0]) (.bool true))]) 
def ajR(o:je)(m:Nat)(h:mZ o m)(hk:¬o.kind<=6)(uL:o.kind≠8):gZ 324 [oD o,iP m] (bP true):=by
 obtain⟨h1,h2,h3,h4,h5,h6⟩:=h.un hk uL;exact ak call324 func324 (af [.c (OP o.kind aE aE),ai 14 (decide ((1:Int)<0)) aG,ai 17 ((1:Int)==0) aG,ai 26 ((o.kind:Int)==8) (bj aE),ah 37 (decide ((0:Int)<1)) aG,tF 40 ((o.a:Int)<0) aE,tF 45 ((m:Int)<=o.a) aE,ai 49 (decide ((1:Int)<1)) aG,.g (J9 ⟨aE,aE,aE,aE,aE,aE⟩:nn prog .eql 74 (.agg [iP 0,iP 0,iP o.b,iP o.n,iP o.cn,iP o.cd]) (.agg [iP 0,iP 0,iP 0,iP 0,iP 0,iP 0]) (.bool true))]) 
def anB(o:je)(m:Nat)(h:mZ o m)(hk:o.kind=1):gZ 231 [oD o,iP m] (bP true):=by
 obtain⟨h2,h3,h4,sQ⟩:=h.num hk;exact ak call231 func231 (af [tF 8 ((o.a:Int)<0) aE,tF 12 ((o.b:Int)<0) aE,.g (ajb sQ:nn prog .eql 72 (.agg [iP o.cn,iP o.cd]) (.agg [iP 0,iP 0]) (.bool false)),ah 21 ((o.kind:Int)==1) (bk aE),.c (Kh o.cn o.cd),ah 24 (ml o.cn o.cd) sQ,ah 28 ((o.a:Int)==0) (bk aE),ah 33 ((o.b:Int)==0) (bk aE),ah 38 ((o.n:Int)==0) (bk aE)]) 
def anA(o:je)(m:Nat)(h:mZ o m)(mO:o.kind≠1)(hk:o.kind<=6):gZ 231 [oD o,iP m] (bP true):=by
 obtain⟨h1,h2,h3,h4,h5,h6⟩:=h.iO mO hk;exact ak call231 func231 (ae [tF 8 ((o.a:Int)<0) aE,tF 12 ((o.b:Int)<0) aE,.g (OK ⟨aE,aE⟩:nn prog .eql 72 (.agg [iP o.cn,iP o.cd]) (.agg [iP 0,iP 0]) (.bool true)),ai 21 ((o.kind:Int)==1) (bj aE)]<|.w ((o.kind:Int)=3)
  (λk1=>af [tB 41 (bk k1),tT 50 ((o.a:Int)<m) aE,tT 56 ((o.b:Int)<m) aE,ah 61 ((o.n:Int)==0) (bk aE)])
  (λk1=>ae [tB 41 (bj k1)]<|.w ((o.kind:Int)=4)
   (λk2=>af [tB 42 (bk k2),tT 50 ((o.a:Int)<m) aE,tT 56 ((o.b:Int)<m) aE,ah 61 ((o.n:Int)==0) (bk aE)])
   (λk2=>ae [tB 42 (bj k2)]<|.w ((o.kind:Int)=5)
    (λk3=>af [tB 43 (bk k3),tT 50 ((o.a:Int)<m) aE,tT 56 ((o.b:Int)<m) aE,ah 61 ((o.n:Int)==0) (bk aE)])
    (λk3=>ae [tB 43 (bj k3)]<|.w ((o.kind:Int)=6)
     (λk4=>af [tB 44 (bk k4),tT 50 ((o.a:Int)<m) aE,tT 56 ((o.b:Int)<m) aE,ah 61 ((o.n:Int)==0) (bk aE)])
     (λk4=>.x aE))))) 
def anD(o:je)(m:Nat)(h:mZ o m)(hk:o.kind=8):gZ 231 [oD o,iP m] (bP true):=by
 obtain⟨h2,h3,h4,h5,h6⟩:=h.pow hk;exact ak call231 func231 (af [tF 8 ((o.a:Int)<0) aE,tF 12 ((o.b:Int)<0) aE,.g (OK ⟨aE,aE⟩:nn prog .eql 72 (.agg [iP o.cn,iP o.cd]) (.agg [iP 0,iP 0]) (.bool true)),ai 21 ((o.kind:Int)==1) (bj aE),ai 41 ((o.kind:Int)==3) (bj aE),ai 42 ((o.kind:Int)==4) (bj aE),ai 43 ((o.kind:Int)==5) (bj aE),ai 44 ((o.kind:Int)==6) (bj aE),ah 64 ((o.kind:Int)==8) (bk aE),tT 70 ((o.a:Int)<m) aE,ah 75 ((o.b:Int)==0) (bk aE),tT 80 (0<=(o.n:Int)) aE,tT 85 ((o.n:Int)<=16) aE]) 
def anE(o:je)(m:Nat)(h:mZ o m)(hk:¬o.kind<=6)(uL:o.kind≠8):gZ 231 [oD o,iP m] (bP true):=by
 obtain⟨h1,h2,h3,h4,h5,h6⟩:=h.un hk uL;exact ak call231 func231 (ae [tF 8 ((o.a:Int)<0) aE,tF 12 ((o.b:Int)<0) aE,.g (OK ⟨aE,aE⟩:nn prog .eql 72 (.agg [iP o.cn,iP o.cd]) (.agg [iP 0,iP 0]) (.bool true)),ai 21 ((o.kind:Int)==1) (bj aE),ai 41 ((o.kind:Int)==3) (bj aE),ai 42 ((o.kind:Int)==4) (bj aE),ai 43 ((o.kind:Int)==5) (bj aE),ai 44 ((o.kind:Int)==6) (bj aE),ai 64 ((o.kind:Int)==8) (bj aE)]<|.w ((o.kind:Int)=7)
  (λk1=>af [tB 88 (bk k1),tT 99 ((o.a:Int)<m) aE,ah 104 ((o.b:Int)==0) (bk aE),ah 109 ((o.n:Int)==0) (bk aE)])
  (λk1=>ae [tB 88 (bj k1)]<|.w ((o.kind:Int)=9)
   (λk2=>af [tB 89 (bk k2),tT 99 ((o.a:Int)<m) aE,ah 104 ((o.b:Int)==0) (bk aE),ah 109 ((o.n:Int)==0) (bk aE)])
   (λk2=>ae [tB 89 (bj k2)]<|.w ((o.kind:Int)=10)
    (λk3=>af [tB 90 (bk k3),tT 99 ((o.a:Int)<m) aE,ah 104 ((o.b:Int)==0) (bk aE),ah 109 ((o.n:Int)==0) (bk aE)])
    (λk3=>ae [tB 90 (bj k3)]<|.w ((o.kind:Int)=11)
     (λk4=>af [tB 91 (bk k4),tT 99 ((o.a:Int)<m) aE,ah 104 ((o.b:Int)==0) (bk aE),ah 109 ((o.n:Int)==0) (bk aE)])
     (λk4=>ae [tB 91 (bj k4)]<|.w ((o.kind:Int)=12)
      (λk5=>af [tB 92 (bk k5),tT 99 ((o.a:Int)<m) aE,ah 104 ((o.b:Int)==0) (bk aE),ah 109 ((o.n:Int)==0) (bk aE)])
      (λk5=>ae [tB 92 (bj k5)]<|.w ((o.kind:Int)=13)
       (λk6=>af [tB 93 (bk k6),tT 99 ((o.a:Int)<m) aE,ah 104 ((o.b:Int)==0) (bk aE),ah 109 ((o.n:Int)==0) (bk aE)])
       (λk6=>.x aE))))))) 
def ajP(o:je)(m:Nat)(h:mZ o m):gZ 324 [oD o,iP (m:Int)] (bP true):=by
 by_cases mO:o.kind=1
 .exact ajO o m h mO
 by_cases hk:o.kind<=6
 .exact ajN o m h mO hk
 .by_cases uL:o.kind=8
  .exact ajQ o m h uL
  .exact ajR o m h hk uL
def anC(o:je)(m:Nat)(h:mZ o m):gZ 231 [oD o,iP (m:Int)] (bP true):=by
 by_cases mO:o.kind=1
 .exact anB o m h mO
 by_cases hk:o.kind<=6
 .exact anA o m h mO hk
 .by_cases uL:o.kind=8
  .exact anD o m h uL
  .exact anE o m h hk uL
def anX(t:kF)(k:Nat)(hk:k<t.im+t.ib.length)(h8:t.im<=8)(af7:t.ib.length<=200):gZ 325 [iP k,(.kn 3 λj_=>[iP t.im,lf t.ib,lp t.il].getD j_ .any)] (bP false):=
 ak call325 func325 (af [tF 5 ((k:Int)<0) aE,iz ((t.im:Int)+t.ib.length) aE,tF 14 (((t.im+t.ib.length:Nat):Int)<=k) aE]) 
def Zx(t:kF)(h:wP t):gZ 285 [kK t] (bP true):=by
 have h8:=h.im;have zL:=h.ib;have nI:=h.il;exact ak call285 func285 (af [tF 7 ((t.im:Int)<0) aE,tF 11 (8<(t.im:Int)) aE,tF 17 (200<(t.ib.length:Int)) aE,tF 23 (200<(t.il.length:Int)) aE,.s (Sp.jv (Zw t) 0 t.ib.length aE (λx hx jU=>by
    have iH:=h.op x aE;exact iG (af [tT 29 ((x:Int)<t.ib.length) aE,iX (x:Int) (t.ib.length) aE,iz ((t.im:Int)+x) aE,ag [oD (t.ib.getD x iB),iP ((t.im+x:Nat):Int)] (ajP _ _ iH),iz ((x:Int)+1) aE]) aI)
  (λhx=>by
    exact iG (af [tF 29 ((t.ib.length:Int)<t.ib.length) aE]) aI) aM:ju 4 f285 (Zw t 0) (.exit 0) ⟨46,true,[(1,.box 1 0)],[(1,.cells 25 [iP t.im,lf t.ib,lp t.il])]⟩) .nil,.c (NL true _ _ 325 [(.kn 3 λj_=>[iP t.im,lf t.ib,lp t.il].getD j_ .any)] (λ_=>false) (λi hi=>anX t _ (h.out i hi) h8 zL) aE (λ_ _=>rfl):gZ 232 [lp t.il,.fn 325 [(.kn 3 λj_=>[iP t.im,lf t.ib,lp t.il].getD j_ .any)]] _)]) 
def anG(t:kF)(k:Nat)(hk:k<t.im+t.ib.length)(h8:t.im<=8)(af7:t.ib.length<=200):gZ 233 [iP k,(.kn 3 λj_=>[iP t.im,lf t.ib,lp t.il].getD j_ .any)] (bP false):=
 ak call233 func233 (af [tF 5 ((k:Int)<0) aE,iz ((t.im:Int)+t.ib.length) aE,tF 14 (((t.im+t.ib.length:Nat):Int)<=k) aE]) 
def anI(x:Iv)(hx:x.ik)(xa:x.all=false):gZ 234 [ig x] (bP false):=by
 obtain⟨w1,w2,w3⟩:=pJ hx xa;exact ak call234 func234 (af [ai 4 x.all xa,ag [ie x.lo] (tf _ aF),ag [ie x.hi] (tf _ aF),ag [ie x.lo,ie x.hi] (o0 _ _ aF aF),tF 23 (0<(jK x.lo x.hi)) aE]) 
def KJ(s:kB)(h:me s):gZ 157 [ji s] (bP true):=by
 have h8:=h.tape.im;have zL:=h.tape.ib;have nI:=h.tape.il;have s1:=h.s1;have s4:=h.s4;have ho:=h.il;have hi:=h.im;have p4:=h.p4;exact ak call157 func157 (af [tF 10 ((s.tape.im:Int)<0) aE,tF 14 (8<(s.tape.im:Int)) aE,tF 20 (200<(s.tape.ib.length:Int)) aE,tF 26 (200<(s.tape.il.length:Int)) aE,.s (Sp.jv (Zn s) 0 s.tape.ib.length aE (λx hx jU=>by
    have iH:=h.tape.op x aE;exact iG (af [tT 32 ((x:Int)<s.tape.ib.length) aE,iX (x:Int) (s.tape.ib.length) aE,iz ((s.tape.im:Int)+x) aE,ag [oD (s.tape.ib.getD x iB),iP ((s.tape.im+x:Nat):Int)] (anC _ _ iH),iz ((x:Int)+1) aE]) aI)
  (λhx=>by
    exact iG (af [tF 32 ((s.tape.ib.length:Int)<s.tape.ib.length) aE]) aI) aM:ju 5 f157 (Zn s 0) (.exit 0) ⟨85,true,[(3,.box 3 0),(1,.box 1 0)],[(3,.cells 25 [iP s.tape.im,lf s.tape.ib,lp s.tape.il]),(1,.cells 28 [iP s.tape.im,lf s.tape.ib,lp s.tape.il,iP s.iD,iA s.params])]⟩) .nil,.c (NL true _ _ 233 [(.kn 3 λj_=>[iP s.tape.im,lf s.tape.ib,lp s.tape.il].getD j_ .any)] (λ_=>false) (λi hi=>anG s.tape _ (h.tape.out i hi) h8 zL) aE (λ_ _=>rfl):gZ 232 [lp s.tape.il,.fn 233 [(.kn 3 λj_=>[iP s.tape.im,lf s.tape.ib,lp s.tape.il].getD j_ .any)]] _),tF 50 ((s.iD:Int)<1) aE,tF 54 (4<(s.iD:Int)) aE,ai 62 ((s.tape.il.length:Int) != (s.iD:Int)) (Ag aE),
  iz ((s.iD:Int)+s.params.length) aE,ai 73 ((s.tape.im:Int) != ((s.iD+s.params.length:Nat):Int)) (Ag aE),tF 79 (4<(s.params.length:Int)) aE,.c (Cy true _ _ 234 [] (λ_=>false) (λi hi=>anI _ (h.params i hi).1 (h.params i hi).2) aE (λ_ _=>rfl):gZ 40 [iA s.params,.fn 234 []] _)]) 
def QH(o:je)(x y:Iv)(p:Nat)(hx:x.ik)(hy:y.ik)(r1:3<=o.kind)(r2:o.kind<=13)(r3:o.n<=16)(iw:8<=p)(ij:p<=512):gZ 289 [iP o.kind,iP o.n,ig x,ig y,iP p] (ig (kZ o x y p)):=
 ak call289 func289 (.w ((o.kind:Int)=3)
  (λk1=>ae [tB 13 (bk k1),.c (Ec x y p aF aF aE aE)]<|rQ (ig (kI x y p)) (ig (kZ o x y p)) (by unfold kZ;simp[(aE:o.kind=3)]))
  (λk1=>ae [tB 13 (bj k1)]<|.w ((o.kind:Int)=4)
   (λk2=>ae [tB 19 (bk k2),.c (NS x y p aF aF aE aE)]<|rQ (ig (vh x y p)) (ig (kZ o x y p)) (by unfold kZ;simp[(aE:¬o.kind=3),(aE:o.kind=4)]))
   (λk2=>ae [tB 19 (bj k2)]<|.w ((o.kind:Int)=5)
    (λk3=>ae [tB 25 (bk k3),.c (xo x y p aF aF aE aE)]<|rQ (ig (jt x y p)) (ig (kZ o x y p)) (by unfold kZ;simp[(aE:¬o.kind=3),(aE:¬o.kind=4),(aE:o.kind=5)]))
    (λk3=>ae [tB 25 (bj k3)]<|.w ((o.kind:Int)=6)
     (λk4=>ae [tB 31 (bk k4),.c (F7 x y p aF aF aE aE)]<|rQ (ig (jT x y p)) (ig (kZ o x y p)) (by unfold kZ;simp[(aE:¬o.kind=3),(aE:¬o.kind=4),(aE:¬o.kind=5),(aE:o.kind=6)]))
     (λk4=>ae [tB 31 (bj k4)]<|.w ((o.kind:Int)=7)
      (λk5=>ae [tB 37 (bk k5),.c (JI x aF)]<|rQ (ig (pM x)) (ig (kZ o x y p)) (by unfold kZ;simp[(aE:¬o.kind=3),(aE:¬o.kind=4),(aE:¬o.kind=5),(aE:¬o.kind=6),(aE:o.kind=7)]))
      (λk5=>ae [tB 37 (bj k5)]<|.w ((o.kind:Int)=8)
       (λk6=>ae [tB 41 (bk k6),ag [ig x,iP o.n,iP p] (QV _ _ _ aF aE aE aE)]<|rQ (ig (mj x o.n p)) (ig (kZ o x y p)) (by unfold kZ;simp[(aE:¬o.kind=3),(aE:¬o.kind=4),(aE:¬o.kind=5),(aE:¬o.kind=6),(aE:¬o.kind=7),(aE:o.kind=8)]))
       (λk6=>ae [tB 41 (bj k6)]<|.w ((o.kind:Int)=9)
        (λk7=>ae [tB 47 (bk k7),ag [ig x,iP p] (aeV _ aF _ aE aE)]<|rQ (ig (DA x p)) (ig (kZ o x y p)) (by unfold kZ;simp[(aE:¬o.kind=3),(aE:¬o.kind=4),(aE:¬o.kind=5),(aE:¬o.kind=6),(aE:¬o.kind=7),(aE:¬o.kind=8),(aE:o.kind=9)]))
        (λk7=>ae [tB 47 (bj k7)]<|.w ((o.kind:Int)=10)
         (λk8=>ae [tB 52 (bk k8),ag [ig x,iP p] (aeX _ aF _ aE aE)]<|rQ (ig (DB x p)) (ig (kZ o x y p)) (by unfold kZ;simp[(aE:¬o.kind=3),(aE:¬o.kind=4),(aE:¬o.kind=5),(aE:¬o.kind=6),(aE:¬o.kind=7),(aE:¬o.kind=8),(aE:¬o.kind=9),(aE:o.kind=10)]))
         (λk8=>ae [tB 52 (bj k8)]<|.w ((o.kind:Int)=11)
          (λk9=>ae [tB 57 (bk k9),ag [ig x,iP p] (S4 _ aF _ aE aE)]<|rQ (ig (xW x p)) (ig (kZ o x y p)) (by unfold kZ;simp[(aE:¬o.kind=3),(aE:¬o.kind=4),(aE:¬o.kind=5),(aE:¬o.kind=6),(aE:¬o.kind=7),(aE:¬o.kind=8),(aE:¬o.kind=9),(aE:¬o.kind=10),(aE:o.kind=11)]))
          (λk9=>ae [tB 57 (bj k9)]<|.w ((o.kind:Int)=12)
           (λk10=>ae [tB 62 (bk k10),ag [ig x,iP p] (S2 _ aF _ aE aE)]<|rQ (ig (zf x p)) (ig (kZ o x y p)) (by unfold kZ;simp[(aE:¬o.kind=3),(aE:¬o.kind=4),(aE:¬o.kind=5),(aE:¬o.kind=6),(aE:¬o.kind=7),(aE:¬o.kind=8),(aE:¬o.kind=9),(aE:¬o.kind=10),(aE:¬o.kind=11),(aE:o.kind=12)]))
           (λk10=>ae [tB 62 (bj k10)]<|.w ((o.kind:Int)=13)
            (λk11=>ae [tB 67 (bk k11),ag [ig x,iP p] (aeZ _ aF _ aE aE)]<|rQ (ig (DC x p)) (ig (kZ o x y p)) (by unfold kZ;simp[(aE:¬o.kind=3),(aE:¬o.kind=4),(aE:¬o.kind=5),(aE:¬o.kind=6),(aE:¬o.kind=7),(aE:¬o.kind=8),(aE:¬o.kind=9),(aE:¬o.kind=10),(aE:¬o.kind=11),(aE:¬o.kind=12),(aE:o.kind=13)]))
            (λk11=>.x aE)))))))))))) 
def Rf{nl:Bool}{T n n' sz:Nat}{f g h:Nat->Nat->E}(hn:n=n')(hh:∀ i j,i<n->j<sz->g i j=h i j/\(h i j).nr 2=true):Bx.le (.row nl T (0+n) sz λi j=>if i<0 then f i j else g (i-0) j) (.row nl T n' sz h):=
 .row aE λi j hi hj=>by
  have nh:i<n:= aE ;simp only[bO,bJ,dM];exact⟨.iM (hh i j nh hj).1,(hh i j nh hj).2⟩
def aaP(r:List Iv)(h0:0<r.length)(hl:r.length<=1000):Hy 63 [iA r] true 46 r.length 7 (jR r):=
 trn call63 func63 (ae [.a (aE:0<r.length),.bo,.a (aE:(0+r.length)*88<=140737488355328)]<|.rb (Rf rfl λi j hi hj=>⟨rfl,Cu _ _ hj⟩:Bx.le (.row true 46 (0+r.length) 7 (λi_ j_=>if i_<0 then(λi_ j_=>([]:List E).getD (i_*7+j_) (.v (.bool false))) i_ j_ else(E.kH (iA r)) (i_-0) j_)) (.row true 46 r.length 7 (jR r)))) aI 
def Hm{T n n' x:Nat}{t:kF}{xs:List Iv}{p:Nat}{y:Iv}(hn:n=(iR t.ib xs p x).length)(tu:n'=(iR t.ib xs p (x+1)).length)(hy:rN (t.ib.getD x iB) (iR t.ib xs p x) p=y):
 Bx.le (.row true T (n+[y].length) 7 λi j=>if i<n then jR (iR t.ib xs p x) i j else(E.kH (iA [y])) (i-n) j) (.row true T n' 7 (jR (iR t.ib xs p (x+1)))):=by
 subst tu hy;exact NU hn
def Ka{o:je}{m:Nat}(h:mZ o m):o.n<=16:=by
 have:=h.n;split at this<;>omega
def anV(t:kF)(xs:List Iv)(p:Nat)(h:wP t)(h1:1<=xs.length)(hx:xs.length=t.im)(hv:pT xs)(iw:8<=p)(ij:p<=512):gZ 237 [kK t,iA xs,iP p] (iA (iR t.ib xs p t.ib.length)):=by
 have h8:=h.im;have zL:=h.ib;exact ak call237 func237 (af [.c (Zx t aF),ai 19 ((xs.length:Int) != (t.im:Int)) (Ag hx),.cn (aaP _ aE aE:Hy 63 [iA xs] true 46 xs.length 7 (jR xs)),.s (Sp.jv (Zv t xs p) 0 t.ib.length aE (λx hx jU=>by
    have iH:=h.op x aE;have uT:=Da t.ib hv (aE:1<=p) (aE:p<=4096) x;have Ce:=yS t.ib xs p x;have w1:=uT (t.ib.getD x iB).a;by_cases mO:((t.ib.getD x iB)).kind=1
    .have qp:((t.ib.getD x iB)).kind=1:=mO;obtain⟨o1,o2,o3,sQ⟩:=iH.num qp;have oL:rN (t.ib.getD x iB) (iR t.ib xs p x) p=(nX (t.ib.getD x iB).cn (t.ib.getD x iB).cd p):=by unfold rN;rw[bw qp]
     have rh:=qU (nX (t.ib.getD x iB).cn (t.ib.getD x iB).cd p);exact iG (ae [tT 27 ((x:Int)<t.ib.length) aE,iX (x:Int) (t.ib.length) aE,.c (WU ((t.ib.getD x iB).kind:Nat) aE),ah 50 ((0:Int)==0) aG,.c (akS ((t.ib.getD x iB).cn) ((t.ib.getD x iB).cd) p aF aE aE),.o 71 (.e (mP _):aj (.sl true 1 7 λi_ j_=>(iZ (nX ((t.ib.getD x iB).cn) ((t.ib.getD x iB).cd) p)).getD (i_*7+j_) (.v (.bool false))) (iA [nX ((t.ib.getD x iB).cn) ((t.ib.getD x iB).cd) p])),.a (aE:((iR t.ib xs p x).length+[nX ((t.ib.getD x iB).cn) ((t.ib.getD x iB).cd) p].length)*88<=140737488355328),iz ((x:Int)+1) aE]<|.e (af [.b 22 (Hm rfl rfl oL:Bx.le (.row true 46 ((iR t.ib xs p x).length+[nX ((t.ib.getD x iB).cn) ((t.ib.getD x iB).cd) p].length) 7 (λi_ j_=>if i_<(iR t.ib xs p x).length then(jR (iR t.ib xs p x)) i_ j_ else(E.kH (iA [nX ((t.ib.getD x iB).cn) ((t.ib.getD x iB).cd) p])) (i_-(iR t.ib xs p x).length) j_)) (.row true 46 ((iR t.ib xs p (x+1)).length) 7 (jR (iR t.ib xs p (x+1)))))])) aI 
    .by_cases hk:((t.ib.getD x iB)).kind<=6
     .have zF:((t.ib.getD x iB)).kind≠1:=mO;have qp:((t.ib.getD x iB)).kind<=6:=hk;have oL:rN (t.ib.getD x iB) (iR t.ib xs p x) p=(kZ (t.ib.getD x iB) ((iR t.ib xs p x).getD ((t.ib.getD x iB).a) iu) ((iR t.ib xs p x).getD ((t.ib.getD x iB).b) iu) p):=by unfold rN Ik;rw[bu zF,bA qp];rfl
      obtain⟨o1,o2,o3,o4,o5,o6⟩:=iH.iO zF qp;have w2:=uT (t.ib.getD x iB).b;have o7:=iH.yz;have rh:=qU (kZ (t.ib.getD x iB) ((iR t.ib xs p x).getD ((t.ib.getD x iB).a) iu) ((iR t.ib xs p x).getD ((t.ib.getD x iB).b) iu) p);exact iG (ae [tT 27 ((x:Int)<t.ib.length) aE,iX (x:Int) (t.ib.length) aE,.c (WV ((t.ib.getD x iB).kind:Nat) aE aE),ai 50 ((2:Int)==0) aG,ai 56 ((2:Int)==1) aG,iX ((t.ib.getD x iB).a:Int) ((iR t.ib xs p x).length) aE,.a (aE:(t.ib.getD x iB).a<(iR t.ib xs p x).length),
       iX ((t.ib.getD x iB).b:Int) ((iR t.ib xs p x).length) aE,.a (aE:(t.ib.getD x iB).b<(iR t.ib xs p x).length),ag [iP ((t.ib.getD x iB).kind:Int),iP ((t.ib.getD x iB).n:Int),ig ((iR t.ib xs p x).getD (t.ib.getD x iB).a iu),ig ((iR t.ib xs p x).getD (t.ib.getD x iB).b iu),iP p] (QH (t.ib.getD x iB) _ _ _ aF aF aE aE aE aE aE),.o 71 (.e (mP _):aj (.sl true 1 7 λi_ j_=>(iZ (kZ (t.ib.getD x iB) ((iR t.ib xs p x).getD (t.ib.getD x iB).a iu) ((iR t.ib xs p x).getD (t.ib.getD x iB).b iu) p)).getD (i_*7+j_) (.v (.bool false))) (iA [kZ (t.ib.getD x iB) ((iR t.ib xs p x).getD (t.ib.getD x iB).a iu) ((iR t.ib xs p x).getD (t.ib.getD x iB).b iu) p])),.a (aE:((iR t.ib xs p x).length+[kZ (t.ib.getD x iB) ((iR t.ib xs p x).getD (t.ib.getD x iB).a iu) ((iR t.ib xs p x).getD (t.ib.getD x iB).b iu) p].length)*88<=140737488355328),
       iz ((x:Int)+1) aE]<|.e (af [.b 22 (Hm rfl rfl oL:Bx.le (.row true 46 ((iR t.ib xs p x).length+[kZ (t.ib.getD x iB) ((iR t.ib xs p x).getD (t.ib.getD x iB).a iu) ((iR t.ib xs p x).getD (t.ib.getD x iB).b iu) p].length) 7 (λi_ j_=>if i_<(iR t.ib xs p x).length then(jR (iR t.ib xs p x)) i_ j_ else(E.kH (iA [kZ (t.ib.getD x iB) ((iR t.ib xs p x).getD (t.ib.getD x iB).a iu) ((iR t.ib xs p x).getD (t.ib.getD x iB).b iu) p])) (i_-(iR t.ib xs p x).length) j_)) (.row true 46 ((iR t.ib xs p (x+1)).length) 7 (jR (iR t.ib xs p (x+1)))))])) aI 
     .have zF:((t.ib.getD x iB)).kind≠1:=mO;have qp:¬((t.ib.getD x iB)).kind<=6:=hk;have oL:rN (t.ib.getD x iB) (iR t.ib xs p x) p=(kZ (t.ib.getD x iB) ((iR t.ib xs p x).getD ((t.ib.getD x iB).a) iu) iu p):=by unfold rN Ik;rw[bu zF,bB qp];rfl
      have w2:=mD;have o2:=iH.E4 zF;have o7:=iH.yz;have o8:=Ka iH;have rh:=qU (kZ (t.ib.getD x iB) ((iR t.ib xs p x).getD ((t.ib.getD x iB).a) iu) iu p);exact iG (ae [tT 27 ((x:Int)<t.ib.length) aE,iX (x:Int) (t.ib.length) aE,.c (OP ((t.ib.getD x iB).kind:Nat) aE aE),ai 50 ((1:Int)==0) aG,ah 56 ((1:Int)==1) aG,iX ((t.ib.getD x iB).a:Int) ((iR t.ib xs p x).length) aE,.a (aE:(t.ib.getD x iB).a<(iR t.ib xs p x).length),.o 66 (.e xI:aj (.agg [bP false,.v (.slice none 0 0),iP 0,bP false,.v (.slice none 0 0),iP 0,bP true]) (ig iu)),ag [iP ((t.ib.getD x iB).kind:Int),iP ((t.ib.getD x iB).n:Int),ig ((iR t.ib xs p x).getD (t.ib.getD x iB).a iu),ig iu,iP p] (QH (t.ib.getD x iB) _ _ _ aF aF aE aE aE aE aE),.o 71 (.e (mP _):aj (.sl true 1 7 λi_ j_=>(iZ (kZ (t.ib.getD x iB) ((iR t.ib xs p x).getD (t.ib.getD x iB).a iu) iu p)).getD (i_*7+j_) (.v (.bool false))) (iA [kZ (t.ib.getD x iB) ((iR t.ib xs p x).getD (t.ib.getD x iB).a iu) iu p])),.a (aE:((iR t.ib xs p x).length+[kZ (t.ib.getD x iB) ((iR t.ib xs p x).getD (t.ib.getD x iB).a iu) iu p].length)*88<=140737488355328),iz ((x:Int)+1) aE]<|.e (af [.b 22 (Hm rfl rfl oL:Bx.le (.row true 46 ((iR t.ib xs p x).length+[kZ (t.ib.getD x iB) ((iR t.ib xs p x).getD (t.ib.getD x iB).a iu) iu p].length) 7 (λi_ j_=>if i_<(iR t.ib xs p x).length then(jR (iR t.ib xs p x)) i_ j_ else(E.kH (iA [kZ (t.ib.getD x iB) ((iR t.ib xs p x).getD (t.ib.getD x iB).a iu) iu p])) (i_-(iR t.ib xs p x).length) j_)) (.row true 46 ((iR t.ib xs p (x+1)).length) 7 (jR (iR t.ib xs p (x+1)))))])) aI)
  (λhx=>by
    exact iG (ae [tF 27 ((t.ib.length:Int)<t.ib.length) aE,.z 22]<|.e (af [.o 7 (.e (zW aK):aj (.sl true ((iR t.ib xs p t.ib.length).length) 7 (jR (iR t.ib xs p t.ib.length))) (iA (iR t.ib xs p t.ib.length)))])) aI) aM:ju 5 f237 (Zv t xs p 0) (.exit 0) ⟨75,true,[(7,.e (iA (iR t.ib xs p t.ib.length)))],[]⟩) (af [.b 22 (.iM rfl:Bx.le (.row true 46 xs.length 7 (jR xs)) (.row true 46 ((iR t.ib xs p 0).length) 7 (jR (iR t.ib xs p 0))))])]) 
def oG(m:List (List Iv)):Nat->List Iv
 | 0=>[]
 |k+1=>oG m k++m.getD k []
def LK(m:List (List Iv))(k:Nat):(oG m (k+1)).length=(oG m k).length+(m.getD k []).length:=by simp[oG]
def ahi{T n n':Nat}{xs r:List Iv}(hn:n=xs.length)(tu:n'=(xs++r).length):Bx.le (.row true T (n+r.length) 7 λi j=>if i<n then jR xs i j else(E.kH (iA r)) (i-n) j) (.row true T n' 7 (jR (xs++r))):=by
 subst hn tu;refine .row aK λi j hi hj=>⟨.iM ?_,Cu _ _ hj⟩
 by_cases h:i<xs.length
 .rw [bw h];show(iZ (xs.getD i iu)).getD j .any=(iZ ((xs++r).getD i iu)).getD j .any;congr 2;simp[bD,dK h]
 .rw [bu h];show(iZ (r.getD (i-xs.length) iu)).getD j .any=(iZ ((xs++r).getD i iu)).getD j .any;congr 2;simp[bD,fc (aE:xs.length<=i)]
def Of(a b:List Iv):E.le (.sl true 2 1 λi j=>[iA a,iA b].getD (i*1+j) (.v (.bool false))) (lV [a,b]):=.sl λi j hi hj=>by
 obtain rfl:j=0:= aE ;obtain rfl|rfl:i=0\/i=1:= aE 
 all_goals exact⟨.refl _,rfl⟩
def Rq(m:List (List Iv))(x:Nat):PS:=⟨36,true,[(11,.e (iP x)),(10,.e (iP m.length)),(9,.e (lV m)),(3,.e (iP ((oG m x).length:Int))),(0,.e (lV m))],[]⟩
def Rr(m:List (List Iv))(x:Nat):PS:=⟨36,true,[(27,.e (iP x)),(26,.e (iP m.length)),(25,.e (lV m)),(6,.own 24)],[(24,.row true 46 ((oG m x).length) 7 (jR (oG m x)))]⟩
def acO(m:List (List Iv))(hl:m.length<=1000)(hb:∀ k,k<=m.length->(oG m k).length<=1000):gZ 162 [lV m] (iA (oG m m.length)):=by
 have rV:=hb m.length (bC _);exact ak call162 func162 (af [.s (Sp.jv (Rq m) 0 m.length aE (λx hx jU=>by
    have kP:=hb (x+1) aE;rw[LK]at kP;exact iG (ae [tT 12 ((x:Int)<m.length) aE,iX (x:Int) (m.length) aE,iz (((oG m x).length:Int)+((m.getD x []).length:Int)) aE,tF 20 ((((oG m x).length+(m.getD x []).length:Nat):Int)<0) aE,iz ((x:Int)+1) aE]<|.e (af [.o 3 (aq (((oG m x).length+(m.getD x []).length:Nat):Int) ((oG m (x+1)).length:Int) (by rw[LK]))])) aI)
  (λhx=>by
    exact iG (af [tF 12 ((m.length:Int)<m.length) aE]) aI) aM:ju 3 f162 (Rq m 0) (.exit 0) ⟨36,true,[(3,.e (iP ((oG m m.length).length:Int))),(0,.e (lV m))],[]⟩) (af [.o 3 (aq 0 ((oG m 0).length:Int) rfl)]),.cn (af3 _ aE:Hy 239 [.v (.slice none 0 0),iP ((oG m m.length).length:Int)] true 46 0 7 (jR [])),.s (Sp.jv (Rr m) 0 m.length aE (λx hx jU=>by
    have kP:=hb (x+1) aE;rw[LK]at kP;exact iG (ae [tT 28 ((x:Int)<m.length) aE,iX (x:Int) (m.length) aE,.a (aE:((oG m x).length+(m.getD x []).length)*88<=140737488355328),iz ((x:Int)+1) aE]<|.e (af [.b 24 (ahi rfl rfl:Bx.le (.row true 46 ((oG m x).length+(m.getD x []).length) 7 (λi_ j_=>if i_<(oG m x).length then(jR (oG m x)) i_ j_ else(E.kH (iA (m.getD x []))) (i_-(oG m x).length) j_)) (.row true 46 ((oG m (x+1)).length) 7 (jR (oG m (x+1)))))])) aI)
  (λhx=>by
    exact iG (ae [tF 28 ((m.length:Int)<m.length) aE,.z 24]<|.e (af [.o 6 (.e (zW aK):aj (.sl true ((oG m m.length).length) 7 (jR (oG m m.length))) (iA (oG m m.length)))])) aI) aM:ju 11 f162 (Rr m 0) (.exit 2) ⟨36,true,[(6,.e (iA (oG m m.length)))],[]⟩) (af [.b 24 (.iM rfl:Bx.le (.row true 46 0 7 (jR [])) (.row true 46 ((oG m 0).length) 7 (jR (oG m 0))))])]) 
def LN(a b:List Iv)(ha:a.length<=400)(hb:b.length<=400):gZ 162 [lV [a,b]] (iA (a++b)):=by
 have e1:oG [a,b] 1=a:=rfl;have e2:oG [a,b] 2=a++b:=rfl;have:=acO [a,b] aK λk hk=>by
  have hk:k<=2:=hk;rcases k with _|_|_|k
  .exact cj _
  .rw [e1];omega
  .rw [e2,cE];omega
  .omega
 rwa[show[a,b].length=2 from rfl,e2]at this
def FB(p:Int):gZ 160 [iP p] (bP (kC p)):=
 ak call160 func160 (.w (8<=p)
  (λk1=>ae [tB 4 (bA k1)]<|rQ (bP (decide (p<=512))) (bP (kC p)) (by unfold kC;simp[k1]))
  (λk1=>ae [tB 4 (bB k1)]<|rQ (bP false) (bP (kC p)) (by unfold kC;simp[k1]))) 
def afm(x:Iv)(hx:x.ik):gZ 286 [ig x] (bP false):=
 ak call286 func286 (af [.c (sS x aF)]) 
def afn(t:kF)(xs:List Iv)(p:Nat)(h:wP t)(h1:1<=xs.length)(hx:xs.length=t.im)(hv:pT xs)(iw:8<=p)(ij:p<=512):gZ 236 [kK t,iA xs,iP p] (bP true):=by
 have h8:=h.im;exact ak call236 func236 (af [.c (Zx t aF),ah 14 ((xs.length:Int)==t.im) (Ot hx),.c (FB (p:Int)),ah 18 (kC (p:Int)) (pe.2 ⟨aE,aE⟩),.c (Cy true _ _ 286 [] (λ_=>false) (λi hi=>afm _ (hv i)) aE (λ_ _=>rfl):gZ 40 [iA xs,.fn 286 []] _)]) 
def S8(t:kF)(xs:List Iv)(p:Nat):(List.range t.il.length).map (λj=>(iR t.ib xs p t.ib.length).getD (t.il.getD j 0) iu)=og t xs p:=by
 unfold og;apply gp;intro i;rw[cQ,cQ];by_cases hi:i<t.il.length
 .rw [bI (by simpa using hi),bI hi];simp[bD,hi]
 .rw [cC (by simpa using hi),cC aE];rfl
def afg(x:Iv):gZ 235 [ig x] (bP x.all):=
 ak call235 func235 (.nil) 
def zi(l:List Iv)(hl:l.length<=1000):gZ 158 [iA l] (bP (nx l)):=
 ak call158 func158 (af [.c (Cx true _ _ 235 [] (λi=>(l.getD i iu).all) (λi hi=>afg _) aE:gZ 40 [iA l,.fn 235 []] _)]) 
def IY(x:Iv)(hx:x.ik):gZ 159 [ig x] (bP false):=
 ak call159 func159 (af [.c (sS x aF)]) 
def JY{l:List Iv}(h:sI l):nx l=false:=by
 unfold nx;rw[dx];intro i hi;rw[(h i (bY.1 hi)).2];decide
def BT{s:kB}{b:List Iv}(h:me s)(hb:mE s.iD b):wP s.tape/\1<=(b++s.params).length/\(b++s.params).length=s.tape.im/\pT (b++s.params):=by
 have h1:=h.s1;have h2:=h.im;have h3:=hb.len;refine⟨h.tape,?_,?_,hb.ok.Qb.append h.params.Qb⟩
 .rw [cE];omega
 .rw [cE];omega
def Tk(t:kF)(l:List Iv)(i p:Nat)(x:Nat):PS:=⟨95,true,[(10,.own 10),(20,.e (iP x)),(19,.e (iP t.im)),(9,.e (.mp C3)),(4,.box 4 0),(1,.e (iA l)),(2,.e (iP i)),(3,.e (iP p))],[(10,.row true 46 ((lO t.im i x).length) 7 (jR (lO t.im i x))),(4,.cells 25 [iP t.im,lf t.ib,lp t.il])]⟩
noncomputable def Tl(t:kF)(l:List Iv)(i p:Nat)(x:Nat):PS:=⟨95,true,[(36,.e (iP x)),(35,.e (iP t.ib.length)),(34,.e (lf t.ib)),(10,.own 10),(9,.e (.mp C3)),(4,.box 4 0),(1,.e (iA l)),(3,.e (iP p))],[(10,.row true 46 ((jk t l i p x).length) 7 (jR (jk t l i p x))),(4,.cells 25 [iP t.im,lf t.ib,lp t.il])]⟩
def FA(n:Int)(h:n.natAbs<4294967296):gZ 291 [iP n] (ig (iS n)):=by
 have hv:=sA h;exact ak call291 func291 (af [ag [iP n] (q9 _ aE),.c (Cw (jo n) aF)]) 
def aiV(o:je)(v a b da db:Iv)(p:Nat):List E:=xy o++iZ v++iZ a++iZ b++iZ da++iZ db++[iP (p:Int)]
def Oy(o:je)(v:Iv)(p:Nat):E:=.agg (xy o++iZ v++au++au++au++au++[iP (p:Int)])
def um(o:je)(v a b da db:Iv)(p:Nat):E:=.agg (aiV o v a b da db p)
def al7(o:je)(v:Iv)(p:Nat):gZ 332 [Oy o v p] (ig (iS 0)):=
 ak call332 func332 (af [.c (FA 0 aE)]) 
def al8(o:je)(v a b da db:Iv)(p:Nat)(hv:v.ik)(ha:a.ik)(hb:b.ik)(hd:da.ik)(he:db.ik)(iw:8<=p)(ij:p<=512):gZ 333 [um o v a b da db p,(.kn 1 λ_=>.fn 78 [])] (ig (kI da db p)):=by
 have q1:1<=p:= aE ;have q2:p<=4096:= aE ;exact ak call333 func333 (af [.c (Ec da db p aF aF aE aE)]) 
def al9(o:je)(v a b da db:Iv)(p:Nat)(hv:v.ik)(ha:a.ik)(hb:b.ik)(hd:da.ik)(he:db.ik)(iw:8<=p)(ij:p<=512):gZ 334 [um o v a b da db p,(.kn 1 λ_=>.fn 203 [])] (ig (vh da db p)):=by
 have q1:1<=p:= aE ;have q2:p<=4096:= aE ;exact ak call334 func334 (af [.c (NS da db p aF aF aE aE)]) 
def amc(o:je)(v a b da db:Iv)(p:Nat)(hv:v.ik)(ha:a.ik)(hb:b.ik)(hd:da.ik)(he:db.ik)(iw:8<=p)(ij:p<=512):gZ 335 [um o v a b da db p] (ig (pM da)):=by
 have q1:1<=p:= aE ;have q2:p<=4096:= aE ;exact ak call335 func335 (af [.c (JI da aF)]) 
def ama(o:je)(v a b da db:Iv)(p:Nat)(hv:v.ik)(ha:a.ik)(hb:b.ik)(hd:da.ik)(he:db.ik)(iw:8<=p)(ij:p<=512):gZ 336 [um o v a b da db p,(.kn 1 λ_=>.fn 78 []),(.kn 1 λ_=>.fn 115 [])] (ig (kI (jt da b p) (jt a db p) p)):=by
 have q1:1<=p:= aE ;have q2:p<=4096:= aE ;exact ak call336 func336 (af [.c (xo da b p aF aF aE aE),.c (xo a db p aF aF aE aE),.c (Ec (jt da b p) (jt a db p) p (pn _ _ q1 q2) (pn _ _ q1 q2) aE aE)]) 
def amb(o:je)(v a b da db:Iv)(p:Nat)(hv:v.ik)(ha:a.ik)(hb:b.ik)(hd:da.ik)(he:db.ik)(iw:8<=p)(ij:p<=512):gZ 337 [um o v a b da db p,(.kn 1 λ_=>.fn 128 []),(.kn 1 λ_=>.fn 203 []),(.kn 1 λ_=>.fn 115 [])] (ig (jT (vh da (jt v db p) p) b p)):=by
 have q1:1<=p:= aE ;have q2:p<=4096:= aE ;exact ak call337 func337 (af [.c (xo v db p aF aF aE aE),.c (NS da (jt v db p) p aF (pn _ _ q1 q2) aE aE),.c (F7 (vh da (jt v db p) p) b p (qG hd (yF (pn _ _ q1 q2)) q1 q2) aF aE aE)]) 
def amd(o:je)(v a b da db:Iv)(p:Nat)(hv:v.ik)(ha:a.ik)(hb:b.ik)(hd:da.ik)(he:db.ik)(iw:8<=p)(ij:p<=512)(h0:o.n=0):gZ 338 [um o v a b da db p,(.kn 1 λ_=>.fn 115 [])] (ig (jt (iS 0) da p)):=by
 have q1:1<=p:= aE ;have q2:p<=4096:= aE ;have vY:=J2;exact ak call338 func338 (af [ah 7 ((o.n:Int)==0) (rF h0),.c (FA 0 aE),.c (xo (iS 0) da p vY aF aE aE)]) 
def ame(o:je)(v a b da db:Iv)(p:Nat)(hv:v.ik)(ha:a.ik)(hb:b.ik)(hd:da.ik)(he:db.ik)(iw:8<=p)(ij:p<=512)(h0:o.n≠0)(hn:o.n<=16):gZ 338 [um o v a b da db p,(.kn 1 λ_=>.fn 115 [])] (ig (jt (jt (iS (o.n:Int)) (mj a (o.n-1) p) p) da p)):=by
 have q1:1<=p:= aE ;have q2:p<=4096:= aE ;have vY:=J1 (aE:o.n<4294967296);have Ns:=O3 ha (o.n-1) q1 q2;exact ak call338 func338 (af [ai 7 ((o.n:Int)==0) (nC h0),.c (FA (o.n:Int) aE),iz ((o.n:Int)-1) aE,.o 26 (aq ((o.n:Int)-1) ((o.n-1:Nat):Int) aE),ag [ig a,iP ((o.n-1:Nat):Int),iP p] (QV _ _ _ aF aE aE aE),.c (xo (iS (o.n:Int)) (mj a (o.n-1) p) p vY Ns aE aE),.c (xo (jt (iS (o.n:Int)) (mj a (o.n-1) p) p) da p (pn _ _ q1 q2) aF aE aE)]) 
def amf(o:je)(v a b da db:Iv)(p:Nat)(hv:v.ik)(ha:a.ik)(hb:b.ik)(hd:da.ik)(he:db.ik)(iw:8<=p)(ij:p<=512):gZ 339 [um o v a b da db p,(.kn 1 λ_=>.fn 115 [])] (ig (jt v da p)):=by
 have q1:1<=p:= aE ;have q2:p<=4096:= aE ;exact ak call339 func339 (af [.c (xo v da p aF aF aE aE)]) 
def al3(o:je)(v a b da db:Iv)(p:Nat)(hv:v.ik)(ha:a.ik)(hb:b.ik)(hd:da.ik)(he:db.ik)(iw:8<=p)(ij:p<=512):gZ 340 [um o v a b da db p,(.kn 1 λ_=>.fn 128 [])] (ig (jT da a p)):=by
 have q1:1<=p:= aE ;have q2:p<=4096:= aE ;exact ak call340 func340 (af [.c (F7 da a p aF aF aE aE)]) 
def al4(o:je)(v a b da db:Iv)(p:Nat)(hv:v.ik)(ha:a.ik)(hb:b.ik)(hd:da.ik)(he:db.ik)(iw:8<=p)(ij:p<=512):gZ 341 [um o v a b da db p,(.kn 1 λ_=>.fn 115 [])] (ig (jt (zf a p) da p)):=by
 have q1:1<=p:= aE ;have q2:p<=4096:= aE ;exact ak call341 func341 (af [ag [ig a,iP p] (S2 _ aF _ aE aE),.c (xo (zf a p) da p (S3 _ _) aF aE aE)]) 
def al5(o:je)(v a b da db:Iv)(p:Nat)(hv:v.ik)(ha:a.ik)(hb:b.ik)(hd:da.ik)(he:db.ik)(iw:8<=p)(ij:p<=512):gZ 342 [um o v a b da db p,(.kn 1 λ_=>.fn 115 [])] (ig (pM (jt (xW a p) da p))):=by
 have q1:1<=p:= aE ;have q2:p<=4096:= aE ;exact ak call342 func342 (af [ag [ig a,iP p] (S4 _ aF _ aE aE),.c (xo (xW a p) da p (S5 _ _) aF aE aE),.c (JI (jt (xW a p) da p) (pn _ _ q1 q2))]) 
def al6(o:je)(v a b da db:Iv)(p:Nat)(hv:v.ik)(ha:a.ik)(hb:b.ik)(hd:da.ik)(he:db.ik)(iw:8<=p)(ij:p<=512):gZ 343 [um o v a b da db p,(.kn 1 λ_=>.fn 128 [])] (ig (jT da (mX v 1) p)):=by
 have q1:1<=p:= aE ;have q2:p<=4096:= aE ;exact ak call343 func343 (af [.c (Ig v aF 1 aE aE),.c (F7 da (mX v 1) p aF (G7 hv _) aE aE)]) 
def C2(k:Nat):FuncId:=if k=1 then 332 else if k=3 then 333 else if k=4 then 334 else if k=7 then 335 else if k=5 then 336 else if k=6 then 337 else if k=8 then 338 else if k=9 then 339 else if k=10 then 340 else if k=11 then 341 else if k=12 then 342 else if k=13 then 343 else 0
def C1(k:Nat):List E:=if k=1 then[]else if k=3 then[.kn 1 λ_=>.fn 78 []]else if k=4 then[.kn 1 λ_=>.fn 203 []]else if k=7 then[]else if k=5 then[.kn 1 λ_=>.fn 78 [],.kn 1 λ_=>.fn 115 []]else if k=6 then[.kn 1 λ_=>.fn 128 [],.kn 1 λ_=>.fn 203 [],.kn 1 λ_=>.fn 115 []]else if k=8 then[.kn 1 λ_=>.fn 115 []]else if k=9 then[.kn 1 λ_=>.fn 115 []]else if k=10 then[.kn 1 λ_=>.fn 128 []]else if k=11 then[.kn 1 λ_=>.fn 115 []]else if k=12 then[.kn 1 λ_=>.fn 115 []]else if k=13 then[.kn 1 λ_=>.fn 128 []]else[]
def Yw{k:Nat}(h:k=1\/3<=k)(h2:k<=13):yE C3 (k:Int)=some (.fn (C2 k) (C1 k)):=by
 have:k=1\/k=3\/k=4\/k=5\/k=6\/k=7\/k=8\/k=9\/k=10\/k=11\/k=12\/k=13:= aE ;rcases this with h|h|h|h|h|h|h|h|h|h|h|h<;>subst h<;>rfl
def amg(k:Nat)(hk:k=1)(o:je)(v:Iv)(p:Nat):gZ (C2 k) (Oy o v p::C1 k) (ig (iS 0)):=by
 subst hk;exact al7 o v p
def amh(o:je)(v a b da db:Iv)(p:Nat)(hv:v.ik)(ha:a.ik)(hb:b.ik)(hd:da.ik)(he:db.ik)(iw:8<=p)(ij:p<=512)(hn:o.n<=16)(h1:3<=o.kind)(h2:o.kind<=13):gZ (C2 o.kind) (um o v a b da db p::C1 o.kind) (ig (od o v a b da db p)):=by
 have:o.kind=3\/o.kind=4\/o.kind=5\/o.kind=6\/o.kind=7\/o.kind=8\/o.kind=9\/o.kind=10\/o.kind=11\/o.kind=12\/o.kind=13:= aE ;rcases this with h|h|h|h|h|h|h|h|h|h|h
 .rw [h];unfold od;rw[bu aE,bw h];exact al8 o v a b da db p hv ha hb hd he iw ij
 .rw [h];unfold od;rw[bu aE,bu aE,bw h];exact al9 o v a b da db p hv ha hb hd he iw ij
 .rw [h];unfold od;rw[bu aE,bu aE,bu aE,bw h];exact ama o v a b da db p hv ha hb hd he iw ij
 .rw [h];unfold od;rw[bu aE,bu aE,bu aE,bu aE,bw h];exact amb o v a b da db p hv ha hb hd he iw ij
 .rw [h];unfold od;rw[bu aE,bu aE,bu aE,bu aE,bu aE,bw h];exact amc o v a b da db p hv ha hb hd he iw ij
 .rw [h];unfold od;rw[bu aE,bu aE,bu aE,bu aE,bu aE,bu aE,bw h];by_cases h0:o.n=0
  .rw [bw h0];exact amd o v a b da db p hv ha hb hd he iw ij h0
  .rw [bu h0];exact ame o v a b da db p hv ha hb hd he iw ij h0 hn
 .rw [h];unfold od;rw[bu aE,bu aE,bu aE,bu aE,bu aE,bu aE,bu aE,bw h];exact amf o v a b da db p hv ha hb hd he iw ij
 .rw [h];unfold od;rw[bu aE,bu aE,bu aE,bu aE,bu aE,bu aE,bu aE,bu aE,bw h];exact al3 o v a b da db p hv ha hb hd he iw ij
 .rw [h];unfold od;rw[bu aE,bu aE,bu aE,bu aE,bu aE,bu aE,bu aE,bu aE,bu aE,bw h];exact al4 o v a b da db p hv ha hb hd he iw ij
 .rw [h];unfold od;rw[bu aE,bu aE,bu aE,bu aE,bu aE,bu aE,bu aE,bu aE,bu aE,bu aE,bw h];exact al5 o v a b da db p hv ha hb hd he iw ij
 .rw [h];unfold od;rw[bu aE,bu aE,bu aE,bu aE,bu aE,bu aE,bu aE,bu aE,bu aE,bu aE,bu aE,bw h];exact al6 o v a b da db p hv ha hb hd he iw ij
def OO{o:je}{m:Nat}(h:mZ o m)(hm:1<=m):o.b<m:=by
 have:=h.b;split at this<;>omega
def KS{T n n' m i x:Nat}{y:Iv}(hn:n=(lO m i x).length)(tu:n'=(lO m i (x+1)).length)(hy:(if x=i then iS 1 else iS 0)=y):
 Bx.le (.row true T (n+[y].length) 7 λi_ j=>if i_<n then jR (lO m i x) i_ j else(E.kH (iA [y])) (i_-n) j) (.row true T n' 7 (jR (lO m i (x+1)))):=by
 subst tu hy;exact NU hn
def Ds{T n n' i x p:Nat}{t:kF}{l:List Iv}{y:Iv}(hn:n=(jk t l i p x).length)(tu:n'=(jk t l i p (x+1)).length)(hy:sJ (t.ib.getD x iB) (l.getD (t.im+x) iu) l (jk t l i p x) p=y):
 Bx.le (.row true T (n+[y].length) 7 λi_ j=>if i_<n then jR (jk t l i p x) i_ j else(E.kH (iA [y])) (i_-n) j) (.row true T n' 7 (jR (jk t l i p (x+1)))):=by
 subst tu hy;exact NU hn
def acN(t:kF)(l:List Iv)(i p:Nat)(h:wP t)(h1:1<=t.im)(hl:l.length=t.im+t.ib.length)(hv:pT l)(iw:8<=p)(ij:p<=512):gZ 238 [kK t,iA l,iP i,iP p] (iA (jk t l i p t.ib.length)):=by
 have h8:=h.im;have zL:=h.ib;exact ak call238 func238 (af [ag [] ami,.y 10 10 true 46 7 (jR (lO t.im i 0)),.s (Sp.jv (Tk t l i p) 0 t.im aE (λx hx jU=>by
    have Ce:=KR t.im i x;exact iG (ae [tT 21 ((x:Int)<t.im) aE,.c (FA 0 aE)]<|.w (x=i)
     (λpy=>by
      have oL:(if x=i then iS 1 else iS 0)=iS 1:=by rw[bw py]
      have rh:=qU (iS 1);exact ae [ah 26 ((x:Int)==i) (bk aE),.c (FA 1 aE),.o 30 (.e (mP _):aj (.sl true 1 7 λi_ j_=>(iZ (iS 1)).getD (i_*7+j_) (.v (.bool false))) (iA [iS 1])),.a (aE:((lO t.im i x).length+[iS 1].length)*88<=140737488355328),
       iz ((x:Int)+1) aE]<|.e (af [.b 10 (KS rfl rfl oL:Bx.le (.row true 46 ((lO t.im i x).length+[iS 1].length) 7 (λi_ j_=>if i_<(lO t.im i x).length then(jR (lO t.im i x)) i_ j_ else(E.kH (iA [iS 1])) (i_-(lO t.im i x).length) j_)) (.row true 46 ((lO t.im i (x+1)).length) 7 (jR (lO t.im i (x+1)))))]))
     (λpy=>by
      have oL:(if x=i then iS 1 else iS 0)=iS 0:=by rw[bu py]
      have rh:=qU (iS 0);exact ae [ai 26 ((x:Int)==i) (bj aE),.o 30 (.e (mP _):aj (.sl true 1 7 λi_ j_=>(iZ (iS 0)).getD (i_*7+j_) (.v (.bool false))) (iA [iS 0])),.a (aE:((lO t.im i x).length+[iS 0].length)*88<=140737488355328),iz ((x:Int)+1) aE]<|.e (af [.b 10 (KS rfl rfl oL:Bx.le (.row true 46 ((lO t.im i x).length+[iS 0].length) 7 (λi_ j_=>if i_<(lO t.im i x).length then(jR (lO t.im i x)) i_ j_ else(E.kH (iA [iS 0])) (i_-(lO t.im i x).length) j_)) (.row true 46 ((lO t.im i (x+1)).length) 7 (jR (lO t.im i (x+1)))))]))) aI)
  (λhx=>by
    exact iG (af [tF 21 ((t.im:Int)<t.im) aE]) aI) aM:ju 4 f238 (Tk t l i p 0) (.exit 0) ⟨95,true,[(10,.own 10),(9,.e (.mp C3)),(4,.box 4 0),(1,.e (iA l)),(3,.e (iP p))],[(10,.row true 46 ((lO t.im i t.im).length) 7 (jR (lO t.im i t.im))),(4,.cells 25 [iP t.im,lf t.ib,lp t.il])]⟩) (af [.b 10 (.iM rfl:Bx.le (.row true 46 0 7 (jR (lO t.im i 0))) (.row true 46 ((lO t.im i 0).length) 7 (jR (lO t.im i 0))))]),.s (Sp.jv (Tl t l i p) 0 t.ib.length aE (λx hx jU=>by
    have iH:=h.op x aE;have Ce:=Fb t l i p x;have DQ:=Fc t hv i (aE:1<=p) (aE:p<=4096) x;have Uv:=iH.k3;by_cases mO:(t.ib.getD x iB).kind=1
    .by_cases F1:(l.getD (t.im+x) iu).all=true
     .have nA:=F1;have oL:sJ (t.ib.getD x iB) (l.getD (t.im+x) iu) l (jk t l i p x) p=iu:=by unfold sJ;rw[bw nA]
      have rh:=qU iu;exact iG (ae [tT 37 ((x:Int)<t.ib.length) aE,iX (x:Int) (t.ib.length) aE,iz ((t.im:Int)+x) aE,iX ((t.im+x:Nat):Int) (l.length) aE,ai 53 (((t.ib.getD x iB).kind:Int) != 1) (bq aE),.o 78 (.e xI:aj (.agg [bP false,.v (.slice none 0 0),iP 0,bP false,.v (.slice none 0 0),iP 0,bP true]) (ig iu)),ah 81 ((l.getD (t.im+x) iu).all) nA,.o 91 (.e (mP _):aj (.sl true 1 7 λi_ j_=>(iZ iu).getD (i_*7+j_) (.v (.bool false))) (iA [iu])),.a (aE:((jk t l i p x).length+[iu].length)*88<=140737488355328),
       iz ((x:Int)+1) aE]<|.e (af [.b 10 (Ds rfl rfl oL:Bx.le (.row true 46 ((jk t l i p x).length+[iu].length) 7 (λi_ j_=>if i_<(jk t l i p x).length then(jR (jk t l i p x)) i_ j_ else(E.kH (iA [iu])) (i_-(jk t l i p x).length) j_)) (.row true 46 ((jk t l i p (x+1)).length) 7 (jR (jk t l i p (x+1)))))])) aI 
     .have nA:(l.getD (t.im+x) iu).all=false:=bn F1;have oL:sJ (t.ib.getD x iB) (l.getD (t.im+x) iu) l (jk t l i p x) p=iS 0:=by unfold sJ;rw[bu (by rw[nA];decide)];unfold od;rw[bw mO]
      have rh:=qU (iS 0);exact iG (ae [tT 37 ((x:Int)<t.ib.length) aE,iX (x:Int) (t.ib.length) aE,iz ((t.im:Int)+x) aE,iX ((t.im+x:Nat):Int) (l.length) aE,ai 53 (((t.ib.getD x iB).kind:Int) != 1) (bq aE),.o 78 (.e xI:aj (.agg [bP false,.v (.slice none 0 0),iP 0,bP false,.v (.slice none 0 0),iP 0,bP true]) (ig iu)),ai 81 ((l.getD (t.im+x) iu).all) nA,.m (Yw Uv iH.yz:yE C3 ((t.ib.getD x iB).kind:Int)=some (.fn (C2 (t.ib.getD x iB).kind) (C1 (t.ib.getD x iB).kind))),.c (amg _ mO _ _ _:gZ (C2 (t.ib.getD x iB).kind) ((Oy (t.ib.getD x iB) (l.getD (t.im+x) iu) p)::(C1 (t.ib.getD x iB).kind)) _),.o 91 (.e (mP _):aj (.sl true 1 7 λi_ j_=>(iZ (iS 0)).getD (i_*7+j_) (.v (.bool false))) (iA [iS 0])),.a (aE:((jk t l i p x).length+[iS 0].length)*88<=140737488355328),
       iz ((x:Int)+1) aE]<|.e (af [.b 10 (Ds rfl rfl oL:Bx.le (.row true 46 ((jk t l i p x).length+[iS 0].length) 7 (λi_ j_=>if i_<(jk t l i p x).length then(jR (jk t l i p x)) i_ j_ else(E.kH (iA [iS 0])) (i_-(jk t l i p x).length) j_)) (.row true 46 ((jk t l i p (x+1)).length) 7 (jR (jk t l i p (x+1)))))])) aI 
    .by_cases F1:(l.getD (t.im+x) iu).all=true
     .have nA:=F1;have h3:=iH.k3.resolve_left mO;have oa:=iH.E4 mO;have ob:=OO iH aE;have oL:sJ (t.ib.getD x iB) (l.getD (t.im+x) iu) l (jk t l i p x) p=iu:=by unfold sJ;rw[bw nA]
      have rh:=qU iu;exact iG (ae [tT 37 ((x:Int)<t.ib.length) aE,iX (x:Int) (t.ib.length) aE,iz ((t.im:Int)+x) aE,iX ((t.im+x:Nat):Int) (l.length) aE,ah 53 (((t.ib.getD x iB).kind:Int) != 1) (bt aE),iX ((t.ib.getD x iB).a:Int) (l.length) aE,iX ((t.ib.getD x iB).b:Int) (l.length) aE,
       iX ((t.ib.getD x iB).a:Int) ((jk t l i p x).length) aE,.a (aE:(t.ib.getD x iB).a<(jk t l i p x).length),iX ((t.ib.getD x iB).b:Int) ((jk t l i p x).length) aE,.a (aE:(t.ib.getD x iB).b<(jk t l i p x).length),.o 78 (.e xI:aj (.agg [bP false,.v (.slice none 0 0),iP 0,bP false,.v (.slice none 0 0),iP 0,bP true]) (ig iu)),ah 81 ((l.getD (t.im+x) iu).all) nA,.o 91 (.e (mP _):aj (.sl true 1 7 λi_ j_=>(iZ iu).getD (i_*7+j_) (.v (.bool false))) (iA [iu])),.a (aE:((jk t l i p x).length+[iu].length)*88<=140737488355328),iz ((x:Int)+1) aE]<|.e (af [.b 10 (Ds rfl rfl oL:Bx.le (.row true 46 ((jk t l i p x).length+[iu].length) 7 (λi_ j_=>if i_<(jk t l i p x).length then(jR (jk t l i p x)) i_ j_ else(E.kH (iA [iu])) (i_-(jk t l i p x).length) j_)) (.row true 46 ((jk t l i p (x+1)).length) 7 (jR (jk t l i p (x+1)))))])) aI 
     .have nA:(l.getD (t.im+x) iu).all=false:=bn F1;have h3:=iH.k3.resolve_left mO;have oa:=iH.E4 mO;have ob:=OO iH aE;have oL:sJ (t.ib.getD x iB) (l.getD (t.im+x) iu) l (jk t l i p x) p=od (t.ib.getD x iB) (l.getD (t.im+x) iu) (l.getD ((t.ib.getD x iB).a) iu) (l.getD ((t.ib.getD x iB).b) iu) ((jk t l i p x).getD ((t.ib.getD x iB).a) iu) ((jk t l i p x).getD ((t.ib.getD x iB).b) iu) p:=by unfold sJ;rw[bu (by rw[nA];decide)]
      have rh:=qU (od (t.ib.getD x iB) (l.getD (t.im+x) iu) (l.getD ((t.ib.getD x iB).a) iu) (l.getD ((t.ib.getD x iB).b) iu) ((jk t l i p x).getD ((t.ib.getD x iB).a) iu) ((jk t l i p x).getD ((t.ib.getD x iB).b) iu) p);exact iG (ae [tT 37 ((x:Int)<t.ib.length) aE,iX (x:Int) (t.ib.length) aE,iz ((t.im:Int)+x) aE,iX ((t.im+x:Nat):Int) (l.length) aE,ah 53 (((t.ib.getD x iB).kind:Int) != 1) (bt aE),iX ((t.ib.getD x iB).a:Int) (l.length) aE,iX ((t.ib.getD x iB).b:Int) (l.length) aE,
       iX ((t.ib.getD x iB).a:Int) ((jk t l i p x).length) aE,.a (aE:(t.ib.getD x iB).a<(jk t l i p x).length),iX ((t.ib.getD x iB).b:Int) ((jk t l i p x).length) aE,.a (aE:(t.ib.getD x iB).b<(jk t l i p x).length),.o 78 (.e xI:aj (.agg [bP false,.v (.slice none 0 0),iP 0,bP false,.v (.slice none 0 0),iP 0,bP true]) (ig iu)),ai 81 ((l.getD (t.im+x) iu).all) nA,.m (Yw Uv iH.yz:yE C3 ((t.ib.getD x iB).kind:Int)=some (.fn (C2 (t.ib.getD x iB).kind) (C1 (t.ib.getD x iB).kind))),.c (amh _ _ _ _ _ _ _ (hv _) (hv _) (hv _) (DQ _) (DQ _) iw ij (Ka iH) h3 iH.yz:gZ (C2 (t.ib.getD x iB).kind) ((um (t.ib.getD x iB) (l.getD (t.im+x) iu) (l.getD (t.ib.getD x iB).a iu) (l.getD (t.ib.getD x iB).b iu) ((jk t l i p x).getD (t.ib.getD x iB).a iu) ((jk t l i p x).getD (t.ib.getD x iB).b iu) p)::(C1 (t.ib.getD x iB).kind)) _),.o 91 (.e (mP _):aj (.sl true 1 7 λi_ j_=>(iZ (od (t.ib.getD x iB) (l.getD (t.im+x) iu) (l.getD ((t.ib.getD x iB).a) iu) (l.getD ((t.ib.getD x iB).b) iu) ((jk t l i p x).getD ((t.ib.getD x iB).a) iu) ((jk t l i p x).getD ((t.ib.getD x iB).b) iu) p)).getD (i_*7+j_) (.v (.bool false))) (iA [od (t.ib.getD x iB) (l.getD (t.im+x) iu) (l.getD ((t.ib.getD x iB).a) iu) (l.getD ((t.ib.getD x iB).b) iu) ((jk t l i p x).getD ((t.ib.getD x iB).a) iu) ((jk t l i p x).getD ((t.ib.getD x iB).b) iu) p])),.a (aE:((jk t l i p x).length+[od (t.ib.getD x iB) (l.getD (t.im+x) iu) (l.getD ((t.ib.getD x iB).a) iu) (l.getD ((t.ib.getD x iB).b) iu) ((jk t l i p x).getD ((t.ib.getD x iB).a) iu) ((jk t l i p x).getD ((t.ib.getD x iB).b) iu) p].length)*88<=140737488355328),
       iz ((x:Int)+1) aE]<|.e (af [.b 10 (Ds rfl rfl oL:Bx.le (.row true 46 ((jk t l i p x).length+[od (t.ib.getD x iB) (l.getD (t.im+x) iu) (l.getD ((t.ib.getD x iB).a) iu) (l.getD ((t.ib.getD x iB).b) iu) ((jk t l i p x).getD ((t.ib.getD x iB).a) iu) ((jk t l i p x).getD ((t.ib.getD x iB).b) iu) p].length) 7 (λi_ j_=>if i_<(jk t l i p x).length then(jR (jk t l i p x)) i_ j_ else(E.kH (iA [od (t.ib.getD x iB) (l.getD (t.im+x) iu) (l.getD ((t.ib.getD x iB).a) iu) (l.getD ((t.ib.getD x iB).b) iu) ((jk t l i p x).getD ((t.ib.getD x iB).a) iu) ((jk t l i p x).getD ((t.ib.getD x iB).b) iu) p])) (i_-(jk t l i p x).length) j_)) (.row true 46 ((jk t l i p (x+1)).length) 7 (jR (jk t l i p (x+1)))))])) aI)
  (λhx=>by
    exact iG (ae [tF 37 ((t.ib.length:Int)<t.ib.length) aE,.z 10]<|.e (af [.o 10 (.e (zW aK):aj (.sl true ((jk t l i p t.ib.length).length) 7 (jR (jk t l i p t.ib.length))) (iA (jk t l i p t.ib.length)))])) aI) aM:ju 12 f238 (Tl t l i p 0) (.exit 2) ⟨95,true,[(10,.e (iA (jk t l i p t.ib.length)))],[]⟩) (af [.b 10 (.iM rfl:Bx.le (.row true 46 ((lO t.im i t.im).length) 7 (jR (lO t.im i t.im))) (.row true 46 ((jk t l i p 0).length) 7 (jR (jk t l i p 0))))])]) 
noncomputable def Tp(t:kF)(xs:List Iv)(p m:Nat)(x:Nat):PS:=⟨91,true,[(43,.e (iP x)),(42,.e (iP m)),(11,.own 41),(10,.e (iA (iR t.ib xs p t.ib.length))),(4,.box 4 0),(3,.e (iP p))],[(41,.lq true 26 46 t.il.length 7 (mr (kv t.il.length (lG t xs p) x 0)) (oF (kv t.il.length (lG t xs p) x 0)) .none),(4,.cells 25 [iP t.im,lf t.ib,lp t.il])]⟩
noncomputable def Ts(t:kF)(xs:List Iv)(p m x:Nat)(k:Nat):PS:=⟨91,true,[(54,.e (iP k)),(53,.e (iP t.il.length)),(52,.e (lp t.il)),(13,.e (iA (jk t (iR t.ib xs p t.ib.length) x p t.ib.length))),(43,.e (iP x)),(42,.e (iP m)),(11,.own 41),(10,.e (iA (iR t.ib xs p t.ib.length))),(4,.box 4 0),(3,.e (iP p))],[(41,.lq true 26 46 t.il.length 7 (mr (kv t.il.length (lG t xs p) x k)) (oF (kv t.il.length (lG t xs p) x k)) .none),(4,.cells 25 [iP t.im,lf t.ib,lp t.il])]⟩
noncomputable def Tu(t:kF)(xs:List Iv)(p m:Nat)(x:Nat):PS:=⟨91,true,[(16,.own 16),(77,.e (iP x)),(76,.e (iP t.il.length)),(75,.e (lp t.il)),(11,.own 41),(10,.e (iA (iR t.ib xs p t.ib.length)))],[(16,.row true 46 x 7 (jR ((List.range x).map (λj_=>(iR t.ib xs p t.ib.length).getD (t.il.getD j_ 0) iu)))),(41,.lq true 26 46 t.il.length 7 (mr (kv t.il.length (lG t xs p) m 0)) (oF (kv t.il.length (lG t xs p) m 0)) .none)]⟩
def Za{n x k:Nat}{F:Nat->Nat->Iv}(h:k<n):mr (kv n F x k) k=x:=by simp only[mr,EN h];simp
def My(t:kF)(xs:List Iv)(p m:Nat)(h:wP t)(h0:1<=xs.length)(hx:xs.length=t.im)(hv:pT xs)(hm:m<=t.im)(iw:8<=p)(ij:p<=512):gZ 161 [kK t,iA xs,iP m,iP p] (.iC [iA (og t xs p),lV (my t xs p m)]):=by
 have h8:=h.im;have zL:=h.ib;have nI:=h.il;have h1:1<=t.im:= aE ;have zS:(iR t.ib xs p t.ib.length).length=t.im+t.ib.length:=by rw[yS,hx]
 have Jx:=Da t.ib hv (aE:1<=p) (aE:p<=4096) t.ib.length;exact ak call161 func161 (ae [.c (afn t xs p h h0 hx hv aE aE),tF 26 ((m:Int)<0) aE,tF 32 ((t.im:Int)<m) aE,.c (anV t xs p h h0 hx hv aE aE),.a (aE:0<=((t.il.length:Int):Int)/\((t.il.length:Int):Int)<=((t.il.length:Int):Int)),.a (aE:((24:Nat):Int)*(t.il.length:Int)<=281474976710656/\((t.il.length:Int):Int)<=9223372036854775807),.s (Sp.jv (Tp t xs p m) 0 m aE (λx hx jU=>by
    exact iG (ae [tT 44 ((x:Int)<m) aE,.c (acN t (iR t.ib xs p t.ib.length) x p h h1 zS Jx iw ij),.s (Sp.jv (Ts t xs p m x) 0 t.il.length aE (λk hk DZ=>by
    have Np:=h.out k aE;have hle:mr (kv t.il.length (lG t xs p) x k) k=x:=Za aE ;have M4:=Fb t (iR t.ib xs p t.ib.length) x p t.ib.length;have rh:=qU ((jk t (iR t.ib xs p t.ib.length) x p t.ib.length).getD (t.il.getD k 0) iu);exact iG (ae [tT 55 ((k:Int)<t.il.length) aE,iX (k:Int) (t.il.length) aE,iX (k:Int) (t.il.length) aE,.a (aE:k<t.il.length),
     iX (t.il.getD k 0:Int) ((jk t (iR t.ib xs p t.ib.length) x p t.ib.length).length) aE,.o 69 (.e (mP _):aj (.sl true 1 7 λi_ j_=>(iZ ((jk t (iR t.ib xs p t.ib.length) x p t.ib.length).getD (t.il.getD k 0) iu)).getD (i_*7+j_) (.v (.bool false))) (iA [(jk t (iR t.ib xs p t.ib.length) x p t.ib.length).getD (t.il.getD k 0) iu])),.a (aE:k<t.il.length),.a (aE:((mr (kv t.il.length (lG t xs p) x k)) k+[(jk t (iR t.ib xs p t.ib.length) x p t.ib.length).getD (t.il.getD k 0) iu].length)*88<=140737488355328),
     iX (k:Int) (t.il.length) aE,.a (rfl:k=k),.a (rfl:k=k),.a (aE:k<t.il.length),iz ((k:Int)+1) aE]<|.e (af [.b 41 (Zd rfl rfl aE rfl:Bx.le (.lq true 26 46 t.il.length 7 (λq=>if q=k then(mr (kv t.il.length (lG t xs p) x k)) q+[(jk t (iR t.ib xs p t.ib.length) x p t.ib.length).getD (t.il.getD k 0) iu].length else(mr (kv t.il.length (lG t xs p) x k)) q) (λq i j=>if q=k then(if i<(mr (kv t.il.length (lG t xs p) x k)) q then(oF (kv t.il.length (lG t xs p) x k)) q i j else(E.kH (iA [(jk t (iR t.ib xs p t.ib.length) x p t.ib.length).getD (t.il.getD k 0) iu])) (i-(mr (kv t.il.length (lG t xs p) x k)) q) j)else(oF (kv t.il.length (lG t xs p) x k)) q i j) .none) (.lq true 26 46 t.il.length 7 (mr (kv t.il.length (lG t xs p) x (k+1))) (oF (kv t.il.length (lG t xs p) x (k+1))) .none))])) aI)
  (λhk=>by
    exact iG (af [tF 55 ((t.il.length:Int)<t.il.length) aE]) aI) aM:ju 10 f161 (Ts t xs p m x 0) (.exit 2) ⟨91,true,[(43,.e (iP x)),(42,.e (iP m)),(11,.own 41),(10,.e (iA (iR t.ib xs p t.ib.length))),(4,.box 4 0),(3,.e (iP p))],[(41,.lq true 26 46 t.il.length 7 (mr (kv t.il.length (lG t xs p) x t.il.length)) (oF (kv t.il.length (lG t xs p) x t.il.length)) .none),(4,.cells 25 [iP t.im,lf t.ib,lp t.il])]⟩) .nil,
     iz ((x:Int)+1) aE]<|.e (af [.b 41 (Zc rfl:Bx.le (.lq true 26 46 t.il.length 7 (mr (kv t.il.length (lG t xs p) x t.il.length)) (oF (kv t.il.length (lG t xs p) x t.il.length)) .none) (.lq true 26 46 t.il.length 7 (mr (kv t.il.length (lG t xs p) (x+1) 0)) (oF (kv t.il.length (lG t xs p) (x+1) 0)) .none))])) aI)
  (λhx=>by
    exact iG (af [tF 44 ((m:Int)<m) aE]) aI) aM:ju 6 f161 (Tp t xs p m 0) (.exit 0) ⟨91,true,[(11,.own 41),(10,.e (iA (iR t.ib xs p t.ib.length))),(4,.box 4 0)],[(41,.lq true 26 46 t.il.length 7 (mr (kv t.il.length (lG t xs p) m 0)) (oF (kv t.il.length (lG t xs p) m 0)) .none),(4,.cells 25 [iP t.im,lf t.ib,lp t.il])]⟩) (af [.b 41 (Zb rfl:Bx.le (.lq true 26 46 t.il.length 7 (λ_=>0) (λ_ _ _=>.any) .none) (.lq true 26 46 t.il.length 7 (mr (kv t.il.length (lG t xs p) 0 0)) (oF (kv t.il.length (lG t xs p) 0 0)) .none))]),.y 16 16 true 46 7 (jR ((List.range 0).map (λj_=>(iR t.ib xs p t.ib.length).getD (t.il.getD j_ 0) iu))),.s (Sp.jv (Tu t xs p m) 0 t.il.length aE (λx hx jU=>by
    have Np:=h.out x aE;have Ce:=yS t.ib xs p t.ib.length;have rh:=qU ((iR t.ib xs p t.ib.length).getD (t.il.getD x 0) iu);exact iG (ae [tT 78 ((x:Int)<t.il.length) aE,iX (x:Int) (t.il.length) aE,iX (t.il.getD x 0:Int) ((iR t.ib xs p t.ib.length).length) aE,.o 86 (.e (mP _):aj (.sl true 1 7 λi_ j_=>(iZ ((iR t.ib xs p t.ib.length).getD (t.il.getD x 0) iu)).getD (i_*7+j_) (.v (.bool false))) (iA [(iR t.ib xs p t.ib.length).getD (t.il.getD x 0) iu])),.a (aE:(x+[(iR t.ib xs p t.ib.length).getD (t.il.getD x 0) iu].length)*88<=140737488355328),iz ((x:Int)+1) aE]<|.e (af [.b 16 (JK rfl rfl rfl:Bx.le (.row true 46 (x+[(iR t.ib xs p t.ib.length).getD (t.il.getD x 0) iu].length) 7 (λi_ j_=>if i_<x then(jR ((List.range x).map (λj_=>(iR t.ib xs p t.ib.length).getD (t.il.getD j_ 0) iu))) i_ j_ else(E.kH (iA [(iR t.ib xs p t.ib.length).getD (t.il.getD x 0) iu])) (i_-x) j_)) (.row true 46 (x+1) 7 (jR ((List.range (x+1)).map (λj_=>(iR t.ib xs p t.ib.length).getD (t.il.getD j_ 0) iu)))))])) aI)
  (λhx=>by
    exact iG (ae [tF 78 ((t.il.length:Int)<t.il.length) aE,.z 16]<|.e (af [.o 16 (.e (zW aK):aj (.sl true t.il.length 7 (jR ((List.range t.il.length).map (λj_=>(iR t.ib xs p t.ib.length).getD (t.il.getD j_ 0) iu)))) (iA ((List.range t.il.length).map (λj_=>(iR t.ib xs p t.ib.length).getD (t.il.getD j_ 0) iu))))])) aI) aM:ju 17 f161 (Tu t xs p m 0) (.exit 4) ⟨91,true,[(16,.e (iA ((List.range t.il.length).map (λj_=>(iR t.ib xs p t.ib.length).getD (t.il.getD j_ 0) iu)))),(11,.own 41)],[(41,.lq true 26 46 t.il.length 7 (mr (kv t.il.length (lG t xs p) m 0)) (oF (kv t.il.length (lG t xs p) m 0)) .none)]⟩) .nil]<|rR (.iC [iA (og t xs p),lV (my t xs p m)]) (.iC (.cons (.iM (by rw[S8])) (.cons (V1 (PY _ _ _ _).symm) .nil)):E.le (.iC [iA ((List.range t.il.length).map (λj_=>(iR t.ib xs p t.ib.length).getD (t.il.getD j_ 0) iu)),(.sl true t.il.length 1 λk_ _=>.sl true ((mr (kv t.il.length (lG t xs p) m 0)) k_) 7 ((oF (kv t.il.length (lG t xs p) m 0)) k_))]) (.iC [iA (og t xs p),lV (my t xs p m)]))) 
def zY(t:kF)(xs:List Iv)(p m:Nat):(my t xs p m).length=t.il.length:=PY _ _ _ _
def NV{t:kF}{xs:List Iv}{p m q:Nat}(h:q<t.il.length):(my t xs p m).getD q []=(List.range m).map (lG t xs p q):=by
 unfold my;rw[EN h,bu (bO _)]
def Ga{t:kF}{xs:List Iv}{p m:Nat}(hm:m<=1000)(q:Nat):((my t xs p m).getD q []).length<=1000:=by
 by_cases h:q<t.il.length
 .rw [NV h];simpa using hm
 .rw [bD,cC (by rw[zY];omega)];simp
def afj(s:kB)(b:List Iv)(p:Nat)(h:me s)(hb:mE s.iD b)(iw:8<=p)(ij:p<=512)(hn:nx (og s.tape (b++s.params) p)=true):gZ 88 [ji s,iA b,iP s.iD,iP p] (.iC [.v (.slice none 0 0),.v (.slice none 0 0),iP 11]):=by
 have s4:=h.s4;have p4:=h.p4;have DT:=hb.len;have nI:=h.tape.il;have tv:=JY hb.ok;have A6:=DF s.tape (b++s.params) p;obtain⟨f1,f2,f3,f4⟩:=BT h hb;have rW:=zY s.tape (b++s.params) p s.iD;have oK:=h.il;have FW:=h.im;have sN:s.iD<=1000:= aE ;exact ak call88 func88 (af [.c (KJ s aF),ai 21 ((b.length:Int) != (s.iD:Int)) (Ag hb.len),.c (zi b aE),ai 25 (nx b) tv,.c (Cy true _ _ 159 [] (λ_=>false) (λi hi=>IY _ (hb.ok i hi).1) aE (λ_ _=>rfl):gZ 40 [iA b,.fn 159 []] _),.c (FB (p:Int)),ah 32 (kC (p:Int)) (pe.2 ⟨aE,aE⟩),.o 40 (.e (Of _ _):aj (.sl true 2 1 λi_ j_=>[iA b,iA s.params].getD (i_*1+j_) (.v (.bool false))) (lV [b,s.params])),ag [lV [b,s.params]] (LN b s.params aE aE),.c (My s.tape (b++s.params) p s.iD f1 f2 f3 f4 aE aE aE),.c (zi (og s.tape (b++s.params) p) aE),ah 48 (nx (og s.tape (b++s.params) p)) hn]) 
def afk(s:kB)(b:List Iv)(p:Nat)(h:me s)(hb:mE s.iD b)(iw:8<=p)(ij:p<=512)(hn:nx (og s.tape (b++s.params) p)=false)(kg:BQ (my s.tape (b++s.params) p s.iD)=true):gZ 88 [ji s,iA b,iP s.iD,iP p] (.iC [.v (.slice none 0 0),.v (.slice none 0 0),iP 11]):=by
 have s4:=h.s4;have p4:=h.p4;have DT:=hb.len;have nI:=h.tape.il;have tv:=JY hb.ok;have A6:=DF s.tape (b++s.params) p;obtain⟨f1,f2,f3,f4⟩:=BT h hb;have rW:=zY s.tape (b++s.params) p s.iD;have oK:=h.il;have FW:=h.im;have sN:s.iD<=1000:= aE ;exact ak call88 func88 (af [.c (KJ s aF),ai 21 ((b.length:Int) != (s.iD:Int)) (Ag hb.len),.c (zi b aE),ai 25 (nx b) tv,.c (Cy true _ _ 159 [] (λ_=>false) (λi hi=>IY _ (hb.ok i hi).1) aE (λ_ _=>rfl):gZ 40 [iA b,.fn 159 []] _),.c (FB (p:Int)),ah 32 (kC (p:Int)) (pe.2 ⟨aE,aE⟩),.o 40 (.e (Of _ _):aj (.sl true 2 1 λi_ j_=>[iA b,iA s.params].getD (i_*1+j_) (.v (.bool false))) (lV [b,s.params])),ag [lV [b,s.params]] (LN b s.params aE aE),.c (My s.tape (b++s.params) p s.iD f1 f2 f3 f4 aE aE aE),.c (zi (og s.tape (b++s.params) p) aE),ai 48 (nx (og s.tape (b++s.params) p)) hn,.c (Py true _ _ 158 [] (λi=>nx ((my s.tape (b++s.params) p s.iD).getD i [])) (λi hi=>zi _ (Ga sN i)) aE:gZ 163 [lV (my s.tape (b++s.params) p s.iD),.fn 158 []] _),ah 51 (BQ (my s.tape (b++s.params) p s.iD)) kg]) 
def afl(s:kB)(b:List Iv)(p:Nat)(h:me s)(hb:mE s.iD b)(iw:8<=p)(ij:p<=512)(hn:nx (og s.tape (b++s.params) p)=false)(kg:BQ (my s.tape (b++s.params) p s.iD)=false):gZ 88 [ji s,iA b,iP s.iD,iP p] (.iC [iA (og s.tape (b++s.params) p),lV (my s.tape (b++s.params) p s.iD),iP 0]):=by
 have s4:=h.s4;have p4:=h.p4;have DT:=hb.len;have nI:=h.tape.il;have tv:=JY hb.ok;have A6:=DF s.tape (b++s.params) p;obtain⟨f1,f2,f3,f4⟩:=BT h hb;have rW:=zY s.tape (b++s.params) p s.iD;have oK:=h.il;have FW:=h.im;have sN:s.iD<=1000:= aE ;exact ak call88 func88 (af [.c (KJ s aF),ai 21 ((b.length:Int) != (s.iD:Int)) (Ag hb.len),.c (zi b aE),ai 25 (nx b) tv,.c (Cy true _ _ 159 [] (λ_=>false) (λi hi=>IY _ (hb.ok i hi).1) aE (λ_ _=>rfl):gZ 40 [iA b,.fn 159 []] _),.c (FB (p:Int)),ah 32 (kC (p:Int)) (pe.2 ⟨aE,aE⟩),.o 40 (.e (Of _ _):aj (.sl true 2 1 λi_ j_=>[iA b,iA s.params].getD (i_*1+j_) (.v (.bool false))) (lV [b,s.params])),ag [lV [b,s.params]] (LN b s.params aE aE),.c (My s.tape (b++s.params) p s.iD f1 f2 f3 f4 aE aE aE),.c (zi (og s.tape (b++s.params) p) aE),ai 48 (nx (og s.tape (b++s.params) p)) hn,.c (Py true _ _ 158 [] (λi=>nx ((my s.tape (b++s.params) p s.iD).getD i [])) (λi hi=>zi _ (Ga sN i)) aE:gZ 163 [lV (my s.tape (b++s.params) p s.iD),.fn 158 []] _),ai 51 (BQ (my s.tape (b++s.params) p s.iD)) kg]) 
noncomputable def oM(s:kB)(b:List Iv)(p:Nat):Bool:=nx (og s.tape (b++s.params) p)||BQ (my s.tape (b++s.params) p s.iD)
noncomputable def jy(s:kB)(b:List Iv)(p:Nat):List (List Iv):=(my s.tape (b++s.params) p s.iD)
def afo(s:kB)(b:List Iv)(p:Nat)(kq:gZ 88 [ji s,iA b,iP (s.iD:Int),iP (p:Int)] (.iC [.v (.slice none 0 0),.v (.slice none 0 0),iP 11])):gZ 43 [ji s,iA b,iP p] (.iC [.v (.slice none 0 0),iP 11]):=
 ak call43 func43 (af [ag [ji s,iA b,iP s.iD,iP p] kq]) 
def afp(s:kB)(b:List Iv)(p:Nat)(h:me s)(hb:mE s.iD b)(iw:8<=p)(ij:p<=512)(hn:nx (og s.tape (b++s.params) p)=false)(kg:BQ (my s.tape (b++s.params) p s.iD)=false):gZ 43 [ji s,iA b,iP p] (.iC [lV (my s.tape (b++s.params) p s.iD),iP 0]):=
 ak call43 func43 (af [ag [ji s,iA b,iP s.iD,iP p] (afl _ _ _ h hb iw ij hn kg)]) 
def Tm(s:kB)(b:List Iv)(p:Nat)(h:me s)(hb:mE s.iD b)(iw:8<=p)(ij:p<=512)(hn:oM s b p=true):gZ 43 [ji s,iA b,iP (p:Int)] (.iC [.v (.slice none 0 0),iP 11]):=by
 unfold oM at hn;refine afo s b p ?_;cases h1:nx (og s.tape (b++s.params) p)with
 |true=>exact afj s b p h hb iw ij h1
 |false=>
  rw[h1,eU]at hn;exact afk s b p h hb iw ij h1 hn
def Tn(s:kB)(b:List Iv)(p:Nat)(h:me s)(hb:mE s.iD b)(iw:8<=p)(ij:p<=512)(hn:oM s b p=false):gZ 43 [ji s,iA b,iP (p:Int)] (.iC [lV (jy s b p),iP 0]):=by
 unfold oM at hn;rw[fg]at hn;exact afp s b p h hb iw ij hn.1 hn.2
def Pg(m:List (List Iv))(i:Nat):(u7 m).getD i []=xA (m.getD i []):=by
 unfold u7;rw[bD,bD,cQ];cases m[i]? <;> rfl
def Fp.rM.DI{m:List (List Iv)}{n k:Nat}(h:rM m n k):EW (u7 m):=by
 intro r hr x hx;obtain⟨r',h1,rfl⟩:=dC.1 hr;obtain⟨x',h2,rfl⟩:=dC.1 hx;exact(h.ok _ h1 _ h2).DI
def Fp.rM.rok{m:List (List Iv)}{n k:Nat}(h:rM m n k):EZ (u7 m):=by
 have hl:(u7 m).length=n:=by rw[<-h.lq];simp[u7]
 have xn:∀ i,i<n->((u7 m).getD i []).length=k:=λi hi=>by rw[Pg,<-h.Aa hi];simp[xA]
 have h1:=h.n1;refine⟨by have:=h.n1;omega,by have:=h.n8;omega,by rw[xn 0 aE];exact h.k1,by rw[xn 0 aE];exact h.k8,λi hi=>by rw[xn 0 aE,xn i aE],λi hi j hj=>?_⟩;have nh:i<n:= aE ;rw[xn i nh]at hj;rw[Pg,Tx];exact(h.ZY nh hj).rG
def aif(m:List (List Iv))(n k:Nat)(h:rM m n k):gZ 164 [lV m] (bP true):=by
 have:=aie (u7 m) h.DI (by have:=h.n8;simp[u7,h.lq];omega) (λi=>by rw[Pg];have:=h.ahw i;simp only[xA,dh];omega);rwa[Og.2 h.rok,aia]at this
structure nE where
 kind:Int
 a:Int
 b:Int
 n:Int
 cn:Int
 cd:Int
structure jF where
 im:Int
 ib:List nE
 il:List Int
 iD:Int
 params:List RI
def jg:nE:=⟨0,0,0,0,0,0⟩
def Aq(o:nE):List E:=[iP o.kind,iP o.a,iP o.b,iP o.n,iP o.cn,iP o.cd]
def rK(o:nE):E:=.agg (Aq o)
def jS(l:List nE):E:=.sl true l.length 6 λi j=>(Aq (l.getD i jg)).getD j .any
def jV(l:List Int):E:=.sl true l.length 1 λi _=>iP (l.getD i 0)
def PE(s:jF):List E:=[iP s.im,jS s.ib,jV s.il,iP s.iD,kJ s.params]
def mB(s:jF):E:=.agg (PE s)
structure nE.jH(o:nE):Prop where
 kind:ku .i64 o.kind
 a:ku .i64 o.a
 b:ku .i64 o.b
 n:ku .i64 o.n
 cn:ku .i64 o.cn
 cd:ku .i64 o.cd
structure jF.jH(s:jF):Prop where
 im:ku .i64 s.im
 ib:∀ i,(s.ib.getD i jg).jH
 il:∀ i,ku .i64 (s.il.getD i 0)
 iD:ku .i64 s.iD
 params:∀ i,(s.params.getD i jz).jH
structure jF.mQ(s:jF):Prop where
 ib:s.ib.length<=1000
 il:s.il.length<=1000
 params:s.params.length<=1000
def jO(o:nE)(m:Int):Bool:=
 if o.kind=1 then ml o.cn o.cd&&decide (o.a=0/\o.b=0/\o.n=0)
 else if 3<=o.kind/\o.kind<=6 then decide (o.cn=0/\o.cd=0/\0<=o.a/\o.a<m/\0<=o.b/\o.b<m/\o.n=0)
 else if o.kind=8 then decide (o.cn=0/\o.cd=0/\0<=o.a/\o.a<m/\o.b=0/\0<=o.n/\o.n<=16)
 else if o.kind=7\/9<=o.kind/\o.kind<=13 then decide (o.cn=0/\o.cd=0/\0<=o.a/\o.a<m/\o.b=0/\o.n=0)
 else false
def G3(s:jF):Bool:=(List.range s.ib.length).all λi=>jO (s.ib.getD i jg) (s.im+(i:Int))
def wC(s:jF)(k:Int):Bool:=decide (0<=k/\k<s.im+(s.ib.length:Int))
def wF(s:jF):Bool:=(List.range s.il.length).all λi=>wC s (s.il.getD i 0)
noncomputable def po(x:RI):Bool:=mz x && !x.all
noncomputable def EG(s:jF):Bool:=(List.range s.params.length).all λi=>po (s.params.getD i jz)
noncomputable def nj(s:jF):Bool:=decide (0<=s.im/\s.im<=8/\s.ib.length<=200/\s.il.length<=200)&&G3 s&&wF s
 && decide (1<=s.iD/\s.iD<=4/\(s.il.length:Int)=s.iD/\s.im=s.iD+(s.params.length:Int)/\s.params.length<=4)&&EG s
noncomputable def xQ(n:Int)(b:List RI):Bool:=decide ((b.length:Int)=n)&&(List.range b.length).all λi=>po (b.getD i jz)
noncomputable def Kt(d:RD):Bool:=@decide d.Ok (Classical.propDecidable _)
def EC{d:RD}:Kt d=true↔d.Ok:=@gY _ (Classical.propDecidable _)
def xP{n:Nat}{f:Nat->Bool}(h:¬(List.range n).all f=true):∃ N,N<n/\(!f N)=true/\∀ k,k<N->(!f k)=false:=by
 refine rj ?_;apply ca;intro q;apply h;refine cr.2 λi hi=>?_
 cases hf:f i with
 |true=>rfl
 |false=>exact absurd ⟨i,bY.1 hi,by rw[hf];rfl⟩ q
def QG{n:Nat}{f:Nat->Bool}:((List.range n).any λi=>!f i) = !((List.range n).all f):=by
 rw[ep];simp
def alZ{s:jF}(h:¬(0<=s.im/\s.im<=8/\s.ib.length<=200/\s.il.length<=200/\1<=s.iD/\s.iD<=4/\(s.il.length:Int)=s.iD/\s.params.length<=4/\s.im=s.iD+(s.params.length:Int))):nj s=false:=by
 refine bn λq=>h ?_
 unfold nj at q;simp only[ch,cS]at q;obtain⟨⟨⟨⟨a,_⟩,_⟩,b⟩,_⟩:=q;exact⟨a.1,a.2.1,a.2.2.1,a.2.2.2,b.1,b.2.1,b.2.2.1,b.2.2.2.2,b.2.2.2.1⟩
def nE.v(o:nE):je:=⟨o.kind.toNat,o.a.toNat,o.b.toNat,o.n.toNat,o.cn,o.cd⟩
def jF.v(s:jF):kB:=⟨⟨s.im.toNat,s.ib.map nE.v,s.il.map Int.toNat⟩,s.iD.toNat,s.params.map RI.iv⟩
def mZ.of{k a b n m:Nat}{cn cd:Int}(k3:k=1\/3<=k)(yz:k<=13)(ha:k=1->a=0)(DN:¬k=1->a<m)(hb:3<=k/\k<=6->b<m)(nu:¬(3<=k/\k<=6)->b=0)
 (hn:k=8->n<=16) (tu:¬k=8->n=0) (hc:k=1->ml cn cd=true) (zw:¬k=1->cn=0/\cd=0):mZ ⟨k,a,b,n,cn,cd⟩ m:=by
 refine⟨k3,yz,?_,?_,?_,?_⟩
 .show if k=1 then a=0 else a<m
  split<;>simp_all
 .show if 3<=k/\k<=6 then b<m else b=0
  split
  .rename_i h;exact hb h
  .rename_i h;exact nu h
 .show if k=8 then n<=16 else n=0
  split
  .rename_i h;exact hn h
  .rename_i h;exact tu h
 .show if k=1 then ml cn cd=true else cn=0/\cd=0
  split
  .rename_i h;exact hc h
  .rename_i h;exact zw h
def alK{o:nE}{m:Nat}(h:jO o (m:Int)=true):mZ o.v m/\0<=o.kind/\0<=o.a/\0<=o.b/\0<=o.n:=by
 obtain⟨k,a,b,n,cn,cd⟩:=o;unfold jO at h;simp only at h;show mZ ⟨k.toNat,a.toNat,b.toNat,n.toNat,cn,cd⟩ m/\0<=k/\0<=a/\0<=b/\0<=n;split at h
 .rename_i hk;rw[ch,cS]at h;obtain⟨hr,h1,h2,h3⟩:=h;exact⟨mZ.of aE aE aE aE aE aE aE aE (λ_=>hr) aE,aE,aE,aE,aE⟩
 .rename_i mO;split at h
  .rename_i hk;have h:=cR h;exact⟨mZ.of aE aE aE aE aE aE aE aE aE aE,aE,aE,aE,aE⟩
  .split at h
   .rename_i hk;have h:=cR h;exact⟨mZ.of aE aE aE aE aE aE aE aE aE aE,aE,aE,aE,aE⟩
   .split at h
    .rename_i uL hk;have h:=cR h;exact⟨mZ.of aE aE aE aE aE aE aE aE aE aE,aE,aE,aE,aE⟩
    .cases h
def alM{o:nE}(h1:0<=o.kind)(h2:0<=o.a)(h3:0<=o.b)(h4:0<=o.n):xy o.v=Aq o:=by
 obtain⟨k,a,b,n,cn,cd⟩:=o;simp only[xy,Aq,nE.v]at *
 rw[fv h1,fv h2,fv h3,fv h4]
def al0{s:jF}(g:s.jH)(h:nj s=true):me s.v/\mB s=ji s.v:=by
 unfold nj at h;simp only[ch,cS]at h;obtain⟨⟨⟨⟨⟨i0,i8,l1,l2⟩,ho⟩,hu⟩,s1,s4,e1,e2,p4⟩,hp⟩:=h;have ho:=cr.1 ho;have hu:=cr.1 hu;have hp:=cr.1 hp;have opAt:∀ i,i<s.ib.length->(s.ib.map nE.v).getD i iB=(s.ib.getD i jg).v:=λi hi=>by simp[bD,hi]
 have ouAt:∀ i,i<s.il.length->(s.il.map Int.toNat).getD i 0=(s.il.getD i 0).toNat:=λi hi=>by simp[bD,hi]
 have paAt:∀ i,i<s.params.length->(s.params.map RI.iv).getD i iu=(s.params.getD i jz).iv:=λi hi=>by simp[bD,hi]
 have op:∀ i,i<s.ib.length->mZ (s.ib.getD i jg).v (s.im.toNat+i)/\0<=(s.ib.getD i jg).kind/\0<=(s.ib.getD i jg).a/\0<=(s.ib.getD i jg).b/\0<=(s.ib.getD i jg).n:=λi hi=>by
  have:=ho i (bY.2 hi);exact alK (by rwa[show((s.im.toNat+i:Nat):Int)=s.im+(i:Int)by omega])
 have ou:∀ i,i<s.il.length->0<=s.il.getD i 0/\s.il.getD i 0<s.im+(s.ib.length:Int):=λi hi=>cR (hu i (bY.2 hi))
 have pa:∀ i,i<s.params.length->(s.params.getD i jz).Ok/\(s.params.getD i jz).all=false:=λi hi=>by
  have:=hp i (bY.2 hi);unfold po at this;rw[ch]at this;exact⟨sD.1 this.1,by simpa using this.2⟩
 refine⟨⟨⟨?_,?_,?_,?_,?_⟩,?_,?_,?_,?_,?_,?_⟩,?_⟩
 .show s.im.toNat<=8;omega
 .show (s.ib.map nE.v).length<=200;rw[dh];exact l1
 .show (s.il.map Int.toNat).length<=200;rw[dh];exact l2
 .intro i hi;have hi:i<s.ib.length:=by simpa[jF.v]using hi
  show mZ ((s.ib.map nE.v).getD i iB) (s.im.toNat+i);rw[opAt i hi];exact(op i hi).1
 .intro i hi;have hi:i<s.il.length:=by simpa[jF.v]using hi
  show(s.il.map Int.toNat).getD i 0<s.im.toNat+(s.ib.map nE.v).length;rw[ouAt i hi,dh];have:=ou i hi;omega
 .show 1<=s.iD.toNat;omega
 .show s.iD.toNat<=4;omega
 .show (s.il.map Int.toNat).length=s.iD.toNat;rw[dh];omega
 .show s.im.toNat=s.iD.toNat+(s.params.map RI.iv).length;rw[dh];omega
 .show (s.params.map RI.iv).length<=4;rw[dh];exact p4
 .intro i hi;have hi:i<s.params.length:=by simpa[jF.v]using hi
  show((s.params.map RI.iv).getD i iu).ik/\((s.params.map RI.iv).getD i iu).all=false;rw[paAt i hi];exact⟨(pa i hi).1.valid,(pa i hi).2⟩
 .have e1:iP s.im=iP (s.im.toNat:Int):=by rw[fv i0]
  have e2:iP s.iD=iP (s.iD.toNat:Int):=by rw[fv (aE:0<=s.iD)]
  have e3:jS s.ib=lf (s.ib.map nE.v):=by
   unfold jS lf;rw[dh];congr 1;funext i j;by_cases hi:i<s.ib.length
   .rw [opAt i hi];obtain⟨_,h1,h2,h3,h4⟩:=op i hi;rw[alM h1 h2 h3 h4]
   .have a1:s.ib.getD i jg=jg:=by rw[bD,cC aE];rfl
    have a2:(s.ib.map nE.v).getD i iB=iB:=by rw[bD,cC bd];rfl
    rw[a1,a2];rfl
  have e4:jV s.il=lp (s.il.map Int.toNat):=by
   unfold jV lp;rw[dh];congr 1;funext i j;by_cases hi:i<s.il.length
   .rw [ouAt i hi,fv (ou i hi).1]
   .rw [bD,cC aE,bD (l:=s.il.map Int.toNat),cC bd];rfl
  have e5:kJ s.params=iA (s.params.map RI.iv):=by
   rw[<-NT];congr 1;apply gp;intro i;unfold xA;rw[cQ,cQ];by_cases hi:i<s.params.length
   .have h1:=(pa i hi).1;have g1:=g.params i;rw[bI hi];rw[bD,bI hi]at h1 g1;exact congrArg some (RI.Ok.eq (x:=s.params[i]) h1 g1).symm
   .rw [cC aE];rfl
  show E.agg [iP s.im,jS s.ib,jV s.il,iP s.iD,kJ s.params]=_;rw[e1,e2,e3,e4,e5];rfl
def Sb(r:List Iv)(i p:Nat)(x:Nat):PS:=⟨84,true,[(23,.e (iP x)),(22,.e (iP r.length)),(21,.e (iA r)),(8,.box 8 0),(7,.box 7 0),(6,.box 6 0),(0,.e (iA r)),(1,.e (iP i)),(2,.e (iP p))],[(8,.cells 39 (jq (kj r i p x))),(7,.cells 46 (iZ iu)),(6,.cells 46 au)]⟩
def Sa(r:List Iv)(i p:Nat)(N:Nat)(x:Nat):PS:=⟨84,true,[(23,.e (iP x)),(22,.e (iP r.length)),(21,.e (iA r)),(8,.box 8 0),(7,.box 7 0),(6,.box 6 0),(0,.e (iA r)),(1,.e (iP i)),(2,.e (iP p))],[(8,.cells 39 (jq (kj r i p x))),(7,.cells 46 (iZ iu)),(6,.cells 46 au)]⟩
def Sd(m:List (List Iv))(p:Nat)(x:Nat):PS:=⟨33,true,[(6,.own 6),(19,.e (iP x)),(18,.e (iP m.length)),(17,.e (lV m)),(1,.e (iP p))],[(6,.row true 46 x 7 (jR ((List.range x).map (λi_=>lY (m.getD i_ []) i_ p))))]⟩
noncomputable def Sf(s:kB)(b:List Iv)(p:Nat)(x:Nat):PS:=⟨45,true,[(11,.e (iP ((x+1:Nat):Int))),(10,.box 10 0),(8,.e (lV (jy s b p))),(6,.box 6 0),(2,.e (iP p))],[(10,.cells 46 (iZ (pR (jy s b p) p x))),(6,.cells 46 au)]⟩
def Gz{r:List Iv}{i p k:Nat}(h:rG r i p k=true)(hk:¬k=i):jx (jc (kj r i p k) (kS (r.getD k iu))) p true=0:=by
 unfold rG at h;rw[bB hk,eU]at h;exact cR h
def adf(r:List Iv)(i p:Nat)(hr:sI r)(hi:i<r.length)(hl:r.length<=1000)(iw:8<=p)(ij:p<=512)(hb:Ew r i p=true):gZ 91 [iA r,iP i,iP p] (ig (lY r i p)):=by
 have iQ:∀ k,k<r.length->rG r i p k=true:=λk hk=>cr.1 hb k (bY.2 hk)
 obtain⟨v1,v2⟩:=hr i hi;obtain⟨v3,v4⟩:=v1.kp;have v5:=xz r i (aE:1<=p) (aE:p<=4096) r.length;have v6:=qA v5;exact ak call91 func91 (ae [.o 19 (.e xI:aj (.agg [bP false,.v (.slice none 0 0),iP 0,bP false,.v (.slice none 0 0),iP 0,bP true]) (ig iu)),.o 20 (.e s7:aj (.agg ar) (ie jD)),.s (Sp.jv (Sb r i p) 0 r.length aE (λx hx jU=>by
    obtain⟨w1,w2⟩:=hr x aE;obtain⟨w5,w6⟩:=w1.kp;have w3:=xq w5 w6;have w4:=xz r i (aE:1<=p) (aE:p<=4096) x;exact iG (ae [tT 24 ((x:Int)<r.length) aE,iX (x:Int) (r.length) aE,.c (Ed (r.getD x iu) w1 w2)]<|.w (x=i)
     (λpy=>by
      have tw:kj r i p (x+1)=kj r i p x:=by rw[An,bw py]
      exact ae [ah 38 ((x:Int)==i) (bk aE),iz ((x:Int)+1) aE]<|.e (af [.b 8 (.iM (by rw[tw]):Bx.le (.cells 39 (jq (kj r i p x))) (.cells 39 (jq (kj r i p (x+1)))))]))
     (λpy=>by
      have tw:kj r i p (x+1)=jf (jc (kj r i p x) (kS (r.getD x iu))) p true:=by rw[An,bu py]
      exact ae [ai 38 ((x:Int)==i) (bj aE),.c (Ey (kj r i p x) (kS (r.getD x iu)) p aF aF aE aE),ai 47 ((jx (jc (kj r i p x) (kS (r.getD x iu))) p true) != 0) (bq (Gz (iQ x aE) py)),iz ((x:Int)+1) aE]<|.e (af [.b 8 (.iM (by rw[tw]):Bx.le (.cells 39 (jq (jf (jc (kj r i p x) (kS (r.getD x iu))) p true))) (.cells 39 (jq (kj r i p (x+1)))))]))) aI)
  (λhx=>by
    exact iG (af [tF 24 ((r.length:Int)<r.length) aE]) aI) aM:ju 4 Tryz.f91 (Sb r i p 0) (.exit 0) ⟨84,true,[(8,.box 8 0),(7,.box 7 0),(6,.box 6 0),(0,.e (iA r)),(1,.e (iP i)),(2,.e (iP p))],[(8,.cells 39 (jq (kj r i p r.length))),(7,.cells 46 (iZ iu)),(6,.cells 46 au)]⟩) (af [.b 8 (.iM rfl:Bx.le (.cells 39 (jq jD)) (.cells 39 (jq (kj r i p 0))))]),
  iX (i:Int) (r.length) aE,ag [ie (kj r i p r.length)] (xU _ aF),.c (XO ((r.getD i iu).lo) (iU (kj r i p r.length)) p aF aF aE aE),iX (i:Int) (r.length) aE,.c (Ey ((r.getD i iu).hi) (kj r i p r.length) p aF aF aE aE)]<|.w ((jx (jc ((r.getD i iu).lo) (iU (kj r i p r.length))) p false)=0)
  (λk1=>ae [tB 75 (bq k1)]<|.w ((jx (jc ((r.getD i iu).hi) (kj r i p r.length)) p true)=0)
   (λk2=>ae [tB 78 (bq k2)]<|rQ (ig (Iv.mk (jf (jc ((r.getD i iu).lo) (iU (kj r i p r.length))) p false) (jf (jc ((r.getD i iu).hi) (kj r i p r.length)) p true) false)) (ig (lY r i p)) (by unfold lY;rw[bw hb,bw bh]))
   (λk2=>ae [tB 78 (bt k2)]<|rQ (ig iu) (ig (lY r i p)) (by unfold lY;rw[bw hb,bu bh])))
  (λk1=>ae [tB 75 (bt k1)]<|rQ (ig iu) (ig (lY r i p)) (by unfold lY;rw[bw hb,bu bh]))) 
def adh(r:List Iv)(i p:Nat)(hr:sI r)(hi:i<r.length)(hl:r.length<=1000)(iw:8<=p)(ij:p<=512)(N:Nat)(mS:N<r.length)(iQ:∀ k,k<N->rG r i p k=true)(hN:rG r i p N=false):gZ 91 [iA r,iP i,iP p] (ig iu):=by
 have hNi:¬N=i:=λe=>by unfold rG at hN;rw[bA e]at hN;cases hN
 have MI:jx (jc (kj r i p N) (kS (r.getD N iu))) p true≠0:=λe=>by unfold rG at hN;rw[bA e,Bool.or_true]at hN;cases hN
 exact ak call91 func91 (af [.o 19 (.e xI:aj (.agg [bP false,.v (.slice none 0 0),iP 0,bP false,.v (.slice none 0 0),iP 0,bP true]) (ig iu)),.o 20 (.e s7:aj (.agg ar) (ie jD)),.s (Sp.jv (Sa r i p N) 0 N aE (λx hx jU=>by
    obtain⟨w1,w2⟩:=hr x aE;obtain⟨w5,w6⟩:=w1.kp;have w3:=xq w5 w6;have w4:=xz r i (aE:1<=p) (aE:p<=4096) x;exact iG (ae [tT 24 ((x:Int)<r.length) aE,iX (x:Int) (r.length) aE,.c (Ed (r.getD x iu) w1 w2)]<|.w (x=i)
     (λpy=>by
      have tw:kj r i p (x+1)=kj r i p x:=by rw[An,bw py]
      exact ae [ah 38 ((x:Int)==i) (bk aE),iz ((x:Int)+1) aE]<|.e (af [.b 8 (.iM (by rw[tw]):Bx.le (.cells 39 (jq (kj r i p x))) (.cells 39 (jq (kj r i p (x+1)))))]))
     (λpy=>by
      have tw:kj r i p (x+1)=jf (jc (kj r i p x) (kS (r.getD x iu))) p true:=by rw[An,bu py]
      exact ae [ai 38 ((x:Int)==i) (bj aE),.c (Ey (kj r i p x) (kS (r.getD x iu)) p aF aF aE aE),ai 47 ((jx (jc (kj r i p x) (kS (r.getD x iu))) p true) != 0) (bq (Gz (iQ x aE) py)),iz ((x:Int)+1) aE]<|.e (af [.b 8 (.iM (by rw[tw]):Bx.le (.cells 39 (jq (jf (jc (kj r i p x) (kS (r.getD x iu))) p true))) (.cells 39 (jq (kj r i p (x+1)))))]))) aI)
  (λhx=>by
    obtain⟨w1,w2⟩:=hr N aE;obtain⟨w5,w6⟩:=w1.kp;have w3:=xq w5 w6;have w4:=xz r i (aE:1<=p) (aE:p<=4096) N;exact iG (af [tT 24 ((N:Int)<r.length) aE,iX (N:Int) (r.length) aE,.c (Ed (r.getD N iu) w1 w2),ai 38 ((N:Int)==i) (bj aE),.c (Ey (kj r i p N) (kS (r.getD N iu)) p aF aF aE aE),tB 47 (bt MI)]) aI) aM:ju 4 Tryz.f91 (Sa r i p N 0) .ret ⟨84,true,[(6,.box 6 0)],[(6,.cells 46 (iZ iu))]⟩) (af [.b 8 (.iM rfl:Bx.le (.cells 39 (jq jD)) (.cells 39 (jq (kj r i p 0))))])]) 
def adi(r:List Iv)(i p:Nat)(hr:sI r)(hi:i<r.length)(hl:r.length<=1000)(iw:8<=p)(ij:p<=512):gZ 91 [iA r,iP i,iP p] (ig (lY r i p)):=by
 by_cases c:Ew r i p=true
 .exact adf r i p hr hi hl iw ij c
 .obtain ⟨N,n1,n2,n3⟩:=xP c;have:=adh r i p hr hi hl iw ij N n1 (λk hk=>by simpa using n3 k hk) (by simpa using n2);rwa[show lY r i p=iu by unfold lY;rw[bu c]]
def ahA(p:Int):gZ 89 [iP p] (bP (kC p)):=
 ak call89 func89 (.w (8<=p)
  (λk1=>ae [tB 4 (bA k1)]<|rQ (bP (decide (p<=512))) (bP (kC p)) (by unfold kC;simp[k1]))
  (λk1=>ae [tB 4 (bB k1)]<|rQ (bP false) (bP (kC p)) (by unfold kC;simp[k1]))) 
def ahB(m:List (List Iv))(n:Nat)(hm:rM m n n):gZ 90 [lV m] (bP true):=by
 have m1:=hm.lq;have m2:=hm.n1;have m3:=hm.Aa (aE:0<n);exact ak call90 func90 (af [ag [lV m] (aif _ _ _ hm),iX 0 (m.length) aE,ah 12 ((m.length:Int)==((m.getD 0 []).length:Int)) (Ot aE)]) 
def adj(m:List (List Iv))(n p:Nat)(hm:rM m n n)(tv:∀ i,i<n->sI (m.getD i []))(iw:8<=p)(ij:p<=512):gZ 44 [lV m,iP p] (.iC [iA (kU m p),iP 0]):=by
 have m1:=hm.lq;have m8:=hm.n8;exact ak call44 func44 (af [.c (ahA (p:Int)),ah 10 (kC (p:Int)) (pe.2 ⟨aE,aE⟩),ag [lV m] (ahB _ _ hm),.y 6 6 true 46 7 (jR ((List.range 0).map (λi_=>lY (m.getD i_ []) i_ p))),.s (Sp.jv (Sd m p) 0 m.length aE (λx hx jU=>by
    have hrl:=hm.Aa (aE:x<n);have rh:=qU (lY (m.getD x []) x p);exact iG (ae [tT 20 ((x:Int)<m.length) aE,iX (x:Int) (m.length) aE,.c (adi (m.getD x []) x p (tv x aE) aE aE aE aE),.o 29 (.e (mP _):aj (.sl true 1 7 λi_ j_=>(iZ (lY (m.getD x []) x p)).getD (i_*7+j_) (.v (.bool false))) (iA [lY (m.getD x []) x p])),.a (aE:(x+[lY (m.getD x []) x p].length)*88<=140737488355328),iz ((x:Int)+1) aE]<|.e (af [.b 6 (JK rfl rfl rfl:Bx.le (.row true 46 (x+[lY (m.getD x []) x p].length) 7 (λi_ j_=>if i_<x then(jR ((List.range x).map (λi_=>lY (m.getD i_ []) i_ p))) i_ j_ else(E.kH (iA [lY (m.getD x []) x p])) (i_-x) j_)) (.row true 46 (x+1) 7 (jR ((List.range (x+1)).map (λi_=>lY (m.getD i_ []) i_ p)))))])) aI)
  (λhx=>by
    exact iG (ae [tF 20 ((m.length:Int)<m.length) aE,.z 6]<|.e (af [.o 6 (.e (zW aK):aj (.sl true m.length 7 (jR ((List.range m.length).map (λi_=>lY (m.getD i_ []) i_ p)))) (iA ((List.range m.length).map (λi_=>lY (m.getD i_ []) i_ p))))])) aI) aM:ju 5 Tryz.f44 (Sd m p 0) (.exit 0) ⟨33,true,[(6,.e (iA ((List.range m.length).map (λi_=>lY (m.getD i_ []) i_ p))))],[]⟩) .nil]) 
def adt(s:kB)(b:List Iv)(p:Nat)(h:me s)(hb:mE s.iD b)(iw:8<=p)(ij:p<=512)(hn:oM s b p=true):gZ 34 [ji s,iA b,iP p] (.iC [.agg au,iP 11]):=
 ak call34 func34 (af [ag [ji s,iA b,iP p] (Tm _ _ _ h hb iw ij hn),ah 20 ((11:Int) != 0) aG]) 
def wk{s:kB}(h:me s)(b:List Iv)(p:Nat):(jy s b p).length=s.iD:=by unfold jy;rw[zY,h.il]
def Ee{s:kB}(h:me s)(b:List Iv)(p:Nat){i:Nat}(hi:i<s.iD):((jy s b p).getD i []).length=s.iD:=by
 unfold jy;rw[NV (by rw[h.il];exact hi)];simp
def Cz{s:kB}(h:me s){b:List Iv}(hb:mE s.iD b){p:Nat}(hp:1<=p)(ij:p<=4096)(i j:Nat):(((jy s b p).getD i []).getD j iu).ik:=by
 obtain⟨f1,f2,f3,f4⟩:=BT h hb;by_cases hi:i<s.tape.il.length
 .unfold jy;rw[NV hi];by_cases hj:j<s.iD
  .rw [Bz hj];exact ahm _ f4 hp ij _ _
  .rw [bD,cC (by simpa using hj)];exact mD
 .rw [bD (l:=jy s b p),cC (by rw[wk h];rw[h.il]at hi;omega)];exact mD
def Hg{s:kB}(h:me s){b:List Iv}(hb:mE s.iD b){p:Nat}(hp:1<=p)(ij:p<=4096):∀ k,(pR (jy s b p) p k).ik
 | 0=>Cz h hb hp ij 0 0
 |k+1=>qG (Hg h hb hp ij k) (Cz h hb hp ij _ _) hp ij
def F9{s:kB}(h:me s){b:List Iv}(hb:mE s.iD b){p:Nat}(hp:1<=p)(ij:p<=4096)(hn:oM s b p=false)(i:Nat)(hi:i<s.iD):sI ((jy s b p).getD i []):=by
 unfold oM at hn;rw[fg]at hn;have h2:=dx.1 hn.2 i (bY.2 (by rw[zY,h.il];exact hi));exact agh (by simpa[jy]using h2) (Cz h hb hp ij i)
def JM{s:kB}(h:me s){b:List Iv}(hb:mE s.iD b){p:Nat}(hp:1<=p)(ij:p<=4096):rM (jy s b p) s.iD s.iD:=by
 have s1:=h.s1;have s4:=h.s4;have lR:∀ {α:Type} {l:List α} {x:α} (d:α),x ∈ l->∃ i,i<l.length/\l.getD i d=x:=λd hx=>by
  obtain⟨i,hi,e⟩:=apV hx;exact⟨i,hi,by rw[bD,bI hi];exact e⟩
 refine⟨wk h b p,λr hr=>?_,λr hr x hx=>?_,aE,aE,aE,aE⟩
 .obtain ⟨i,hi,rfl⟩:=lR [] hr;rw[wk h]at hi;exact Ee h b p hi
 .obtain ⟨i,hi,rfl⟩:=lR [] hr;obtain⟨j,hj,rfl⟩:=lR iu hx;exact Cz h hb hp ij i j
def adz(s:kB)(b:List Iv)(p:Nat)(h:me s)(hb:mE s.iD b)(iw:8<=p)(ij:p<=512)(hn:oM s b p=false):gZ 34 [ji s,iA b,iP p] (.iC [ig (pR (jy s b p) p (s.iD-1)),iP 0]):=by
 have p1:1<=p:= aE ;have p2:p<=4096:= aE ;have s1:=h.s1;have s4:=h.s4;have rW:=wk h b p;have wa:=Ee h b p (aE:0<s.iD);exact ak call34 func34 (af [ag [ji s,iA b,iP p] (Tn _ _ _ h hb iw ij hn),ai 20 ((0:Int) != 0) aG,iX 0 ((jy s b p).length) aE,iX 0 (((jy s b p).getD 0 []).length) aE,.s (Sp.jv (Sf s b p) 0 (s.iD-1) aE (λx hx jU=>by
    have hr:=Ee h b p (aE:x+1<s.iD);have we:=Cz h hb p1 p2 (x+1) (x+1);have rD:=Hg h hb p1 p2 x;exact iG (ae [tT 31 (((x+1:Nat):Int)<((jy s b p).length:Int)) aE,iX ((x+1:Nat):Int) ((jy s b p).length) aE,iX ((x+1:Nat):Int) (((jy s b p).getD (x+1) []).length) aE,.c (Ec (pR (jy s b p) p x) (((jy s b p).getD (x+1) []).getD (x+1) iu) p aF aF aE aE),iz (((x+1:Nat):Int)+1) aE]<|.e (af [.b 10 (.iM rfl:Bx.le (.cells 46 (iZ (kI (pR (jy s b p) p x) (((jy s b p).getD (x+1) []).getD (x+1) iu) p))) (.cells 46 (iZ (pR (jy s b p) p (x+1)))))])) aI)
  (λhx=>by
    exact iG (af [tF 31 ((((s.iD-1)+1:Nat):Int)<((jy s b p).length:Int)) aE]) aI) aM:ju 6 Tryz.f34 (Sf s b p 0) (.exit 0) ⟨45,true,[(10,.box 10 0),(6,.box 6 0)],[(10,.cells 46 (iZ (pR (jy s b p) p (s.iD-1)))),(6,.cells 46 au)]⟩) (af [.o 11 (aq 1 ((0+1:Nat):Int) aT),.b 10 (.iM rfl:Bx.le (.cells 46 (iZ (((jy s b p).getD 0 []).getD 0 iu))) (.cells 46 (iZ (pR (jy s b p) p 0))))])]) 
def rJ(d:Iv):Bool:=d.all||decide (0<=d.hi.jb)
noncomputable def xF(s:kB)(b:List Iv)(p:Nat):Bool:=!oM s b p && !((List.range (kU (jy s b p) p).length).any λi=>rJ ((kU (jy s b p) p).getD i iu))
noncomputable def yP(s:kB)(b:List Iv)(p:Nat):Bool:=!oM s b p&&decide (0<lZ (pR (jy s b p) p (s.iD-1)))
def y8(m:List (List Iv))(p:Nat):(kU m p).length=m.length:=by simp[kU]
def Fk{m:List (List Iv)}{p i:Nat}(h:i<m.length):(kU m p).getD i iu=lY (m.getD i []) i p:=by
 unfold kU;rw[Bz h]
def am3(d:Iv)(hh:d.hi.ik):gZ 45 [ig d] (bP (rJ d)):=
 ak call45 func45 (.w (d.all=true)
  (λk1=>ae [tB 4 k1]<|rQ (bP true) (bP (rJ d)) (by unfold rJ;simp_all))
  (λk1=>ae [tB 4 (bn k1),ag [ie d.hi] (pv _ aF)]<|rQ (bP (decide (0<=(Dy.jb d.hi)))) (bP (rJ d)) (by unfold rJ;simp_all))) 
def anj(s:kB)(b:List Iv)(p:Nat)(h:me s)(hb:mE s.iD b)(iw:8<=p)(ij:p<=512)(hn:oM s b p=true):gZ 10 [ji s,iA b,iP p] (bP false):=
 ak call10 func10 (af [ag [ji s,iA b,iP p] (Tm _ _ _ h hb iw ij hn),ah 18 ((11:Int) != 0) aG]) 
def anl(s:kB)(b:List Iv)(p:Nat)(h:me s)(hb:mE s.iD b)(iw:8<=p)(ij:p<=512)(hn:oM s b p=false):gZ 10 [ji s,iA b,iP p] (bP (!((List.range (kU (jy s b p) p).length).any λi=>rJ ((kU (jy s b p) p).getD i iu)))):=by
 have p1:1<=p:= aE ;have p2:p<=4096:= aE ;have s1:=h.s1;have s4:=h.s4;have rW:=wk h b p;have B9:=y8 (jy s b p) p;have zC:∀ i,i<(kU (jy s b p) p).length->((kU (jy s b p) p).getD i iu).hi.ik:=λi hi=>by rw[Fk (by rw[y8]at hi;exact hi)];exact(IB _ _ p1 p2).2
 exact ak call10 func10 (af [ag [ji s,iA b,iP p] (Tn _ _ _ h hb iw ij hn),ai 18 ((0:Int) != 0) aG,ag [lV (jy s b p),iP p] (adj _ _ _ (JM h hb p1 p2) (F9 h hb p1 p2 hn) iw ij),ah 26 ((0:Int)==0) aG,.c (Cx true _ _ 45 [] (λi=>rJ ((kU (jy s b p) p).getD i iu)) (λi hi=>am3 _ (zC i hi)) aE:gZ 40 [iA (kU (jy s b p) p),.fn 45 []] _)]) 
def aot(s:kB)(b:List Iv)(p:Nat)(h:me s)(hb:mE s.iD b)(iw:8<=p)(ij:p<=512)(hn:oM s b p=true):gZ 11 [ji s,iA b,iP p] (bP false):=
 ak call11 func11 (af [.c (adt s b p h hb iw ij hn),ai 17 ((11:Int)==0) aG]) 
def aou(s:kB)(b:List Iv)(p:Nat)(h:me s)(hb:mE s.iD b)(iw:8<=p)(ij:p<=512)(hn:oM s b p=false):gZ 11 [ji s,iA b,iP p] (bP (decide (0<lZ (pR (jy s b p) p (s.iD-1))))):=by
 have p1:1<=p:= aE ;have p2:p<=4096:= aE ;have s1:=h.s1;have s4:=h.s4;have rW:=wk h b p;have Jw:=Hg h hb p1 p2 (s.iD-1);exact ak call11 func11 (af [.c (adz s b p h hb iw ij hn),ah 17 ((0:Int)==0) aG,.c (F8 (pR (jy s b p) p (s.iD-1)) Jw)]) 
def KF(s:kB)(b:List Iv)(p:Nat)(h:me s)(hb:mE s.iD b)(iw:8<=p)(ij:p<=512):gZ 10 [ji s,iA b,iP (p:Int)] (bP (xF s b p)):=by
 unfold xF;cases hn:oM s b p with
 |true=>exact anj s b p h hb iw ij hn
 |false=>exact anl s b p h hb iw ij hn
def KV(s:kB)(b:List Iv)(p:Nat)(h:me s)(hb:mE s.iD b)(iw:8<=p)(ij:p<=512):gZ 11 [ji s,iA b,iP (p:Int)] (bP (yP s b p)):=by
 unfold yP;cases hn:oM s b p with
 |true=>exact aot s b p h hb iw ij hn
 |false=>exact aou s b p h hb iw ij hn
def Yp(s:jF)(N:Nat)(x:Nat):PS:=⟨85,true,[(31,.e (iP x)),(30,.e (iP s.ib.length)),(29,.e (jS s.ib)),(3,.box 3 0),(1,.box 1 0)],[(3,.cells 25 [iP s.im,jS s.ib,jV s.il]),(1,.cells 28 [iP s.im,jS s.ib,jV s.il,iP s.iD,kJ s.params])]⟩
def Yq(s:jF)(x:Nat):PS:=⟨85,true,[(31,.e (iP x)),(30,.e (iP s.ib.length)),(29,.e (jS s.ib)),(3,.box 3 0),(1,.box 1 0)],[(3,.cells 25 [iP s.im,jS s.ib,jV s.il]),(1,.cells 28 [iP s.im,jS s.ib,jV s.il,iP s.iD,kJ s.params])]⟩
def Yr(s:jF)(x:Nat):PS:=⟨85,true,[(31,.e (iP x)),(30,.e (iP s.ib.length)),(29,.e (jS s.ib)),(3,.box 3 0),(1,.box 1 0)],[(3,.cells 25 [iP s.im,jS s.ib,jV s.il]),(1,.cells 28 [iP s.im,jS s.ib,jV s.il,iP s.iD,kJ s.params])]⟩
def Ys(s:jF)(x:Nat):PS:=⟨85,true,[(31,.e (iP x)),(30,.e (iP s.ib.length)),(29,.e (jS s.ib)),(3,.box 3 0),(1,.box 1 0)],[(3,.cells 25 [iP s.im,jS s.ib,jV s.il]),(1,.cells 28 [iP s.im,jS s.ib,jV s.il,iP s.iD,kJ s.params])]⟩
def oR{a b:Bool}(h:a=true↔b=true):a=b:=ep.2 h
def uB{a b:Bool}(h:a=b):bP a=bP b:=h▸rfl
def lH{o:nE}{m:Int}{b:Bool}(h:b=jO o m:=by simp_all[jO,Q3]<;>(repeat' split)<;>intros<;>omega):bP b=bP (jO o m):=uB h
noncomputable def ajc(o:nE)(m:Int)(g:o.jH)(C:Bool)(hC:C=decide (o.cn=0/\o.cd=0))(q1:¬o.a<0)(q2:¬o.b<0):Tr prog Tb:=
  .w (o.kind=1)
  (λk1=>ae [tB 21 (bk k1),.c (Kh o.cn o.cd)]<|.w (ml o.cn o.cd=true)
   (λk2=>ae [tB 24 k2]<|.w (o.a=0)
    (λk3=>ae [tB 28 (bk k3)]<|.w (o.b=0)
     (λk4=>ae [tB 33 (bk k4)]<|rQ (bP (o.n==0)) (bP (jO o m)) lH)
     (λk4=>ae [tB 33 (bj k4)]<|rQ (bP false) (bP (jO o m)) lH))
    (λk3=>ae [tB 28 (bj k3)]<|rQ (bP false) (bP (jO o m)) lH))
   (λk2=>ae [tB 24 (bn k2)]<|rQ (bP false) (bP (jO o m)) lH))
  (λk1=>ae [tB 21 (bj k1),.j 80 ⟨111,true,[(40,.e (bP (decide (3<=o.kind/\o.kind<=6)))),(19,.e (iP o.kind)),(5,.e (bP C)),(2,.box 2 0),(1,.e (iP m))],[(2,.cells 74 [iP o.kind,iP o.a,iP o.b,iP o.n,iP o.cn,iP o.cd])]⟩
   (.w (o.kind=3)
    (λm1=>ae [.v 40 (.bool (bk m1))]<|.e (af [tB 40 (oR aO:true=(decide (3<=o.kind/\o.kind<=6)))]))
    (λm1=>ae [.v 40 (.bool (bj m1))]<|.w (o.kind=4)
     (λm2=>ae [tB 42 (bk m2)]<|.e (af [tB 40 (oR aO:true=(decide (3<=o.kind/\o.kind<=6)))]))
     (λm2=>ae [tB 42 (bj m2)]<|.w (o.kind=5)
      (λm3=>ae [tB 43 (bk m3)]<|.e (af [tB 40 (oR aO:true=(decide (3<=o.kind/\o.kind<=6)))]))
      (λm3=>ae [tB 43 (bj m3)]<|.e (af [tB 40 (oR aO:(o.kind==6)=(decide (3<=o.kind/\o.kind<=6)))])))))]<|.w (3<=o.kind/\o.kind<=6)
   (λk2=>ae [.v 40 (.bool (bA k2))]<|.w (C=true)
    (λk3=>ae [tB 45 k3]<|.w (o.a<m)
     (λk4=>ae [tB 50 (bA k4)]<|.w (o.b<m)
      (λk5=>ae [tB 56 (bA k5)]<|rQ (bP (o.n==0)) (bP (jO o m)) lH)
      (λk5=>ae [tB 56 (bB k5)]<|rQ (bP false) (bP (jO o m)) lH))
     (λk4=>ae [tB 50 (bB k4)]<|rQ (bP false) (bP (jO o m)) lH))
    (λk3=>ae [tB 45 (bn k3)]<|rQ (bP false) (bP (jO o m)) lH))
   (λk2=>ae [.v 40 (.bool (bB k2))]<|.w (o.kind=8)
    (λk3=>ae [tB 64 (bk k3)]<|.w (C=true)
     (λk4=>ae [tB 65 k4]<|.w (o.a<m)
      (λk5=>ae [tB 70 (bA k5)]<|.w (o.b=0)
       (λk6=>ae [tB 75 (bk k6)]<|.w (0<=o.n)
        (λk7=>ae [tB 80 (bA k7)]<|rQ (bP (decide (o.n<=16))) (bP (jO o m)) lH)
        (λk7=>ae [tB 80 (bB k7)]<|rQ (bP false) (bP (jO o m)) lH))
       (λk6=>ae [tB 75 (bj k6)]<|rQ (bP false) (bP (jO o m)) lH))
      (λk5=>ae [tB 70 (bB k5)]<|rQ (bP false) (bP (jO o m)) lH))
     (λk4=>ae [tB 65 (bn k4)]<|rQ (bP false) (bP (jO o m)) lH))
    (λk3=>ae [tB 64 (bj k3),.j 174 ⟨111,true,[(87,.e (bP (decide (o.kind=7\/9<=o.kind/\o.kind<=13)))),(5,.e (bP C)),(2,.box 2 0),(1,.e (iP m))],[(2,.cells 74 [iP o.kind,iP o.a,iP o.b,iP o.n,iP o.cn,iP o.cd])]⟩
   (.w (o.kind=7)
    (λm1=>ae [.v 87 (.bool (bk m1))]<|.e (af [tB 87 (oR aO:true=(decide (o.kind=7\/9<=o.kind/\o.kind<=13)))]))
    (λm1=>ae [.v 87 (.bool (bj m1))]<|.w (o.kind=9)
     (λm2=>ae [tB 89 (bk m2)]<|.e (af [tB 87 (oR aO:true=(decide (o.kind=7\/9<=o.kind/\o.kind<=13)))]))
     (λm2=>ae [tB 89 (bj m2)]<|.w (o.kind=10)
      (λm3=>ae [tB 90 (bk m3)]<|.e (af [tB 87 (oR aO:true=(decide (o.kind=7\/9<=o.kind/\o.kind<=13)))]))
      (λm3=>ae [tB 90 (bj m3)]<|.w (o.kind=11)
       (λm4=>ae [tB 91 (bk m4)]<|.e (af [tB 87 (oR aO:true=(decide (o.kind=7\/9<=o.kind/\o.kind<=13)))]))
       (λm4=>ae [tB 91 (bj m4)]<|.w (o.kind=12)
        (λm5=>ae [tB 92 (bk m5)]<|.e (af [tB 87 (oR aO:true=(decide (o.kind=7\/9<=o.kind/\o.kind<=13)))]))
        (λm5=>ae [tB 92 (bj m5)]<|.e (af [tB 87 (oR aO:(o.kind==13)=(decide (o.kind=7\/9<=o.kind/\o.kind<=13)))])))))))]<|.w (o.kind=7\/9<=o.kind/\o.kind<=13)
     (λk4=>ae [.v 87 (.bool (bA k4))]<|.w (C=true)
      (λk5=>ae [tB 94 k5]<|.w (o.a<m)
       (λk6=>ae [tB 99 (bA k6)]<|.w (o.b=0)
        (λk7=>ae [tB 104 (bk k7)]<|rQ (bP (o.n==0)) (bP (jO o m)) lH)
        (λk7=>ae [tB 104 (bj k7)]<|rQ (bP false) (bP (jO o m)) lH))
       (λk6=>ae [tB 99 (bB k6)]<|rQ (bP false) (bP (jO o m)) lH))
      (λk5=>ae [tB 94 (bn k5)]<|rQ (bP false) (bP (jO o m)) lH))
     (λk4=>ae [.v 87 (.bool (bB k4))]<|rQ (bP false) (bP (jO o m)) lH))))
def GD(o:nE)(m:Int)(g:o.jH):gZ 231 [rK o,iP m] (bP (jO o m)):=
 ak call231 func231 (.w (o.a<0)
  (λk1=>ae [tB 8 (bA k1)]<|rQ (bP false) (bP (jO o m)) lH)
  (λk1=>ae [tB 8 (bB k1)]<|.w (o.b<0)
   (λk2=>ae [tB 12 (bA k2)]<|rQ (bP false) (bP (jO o m)) lH)
   (λk2=>ae [tB 12 (bB k2),.g (WO g.cn g.cd rfl:nn prog .eql 72 (.agg [iP o.cn,iP o.cd]) (.agg [iP 0,iP 0]) (.bool (decide (o.cn=0/\o.cd=0))))]<|ajc o m g (decide (o.cn=0/\o.cd=0)) rfl k1 k2))) 
def anF(s:jF)(g:s.jH)(k:Int)(h0:0<=s.im)(h8:s.im<=8)(l2:s.ib.length<=200):gZ 233 [iP k,(.kn 3 λj_=>[iP s.im,jS s.ib,jV s.il].getD j_ .any)] (bP (!wC s k)):=
 ak call233 func233 (.w (k<0)
  (λk1=>ae [tB 5 (bA k1)]<|rQ (bP true) (bP (!wC s k)) (uB (by unfold wC;rw[ep];simp_all)))
  (λk1=>ae [tB 5 (bB k1),iz (s.im+(s.ib.length:Int)) aE]<|rQ (bP (decide ((s.im+(s.ib.length:Int))<=k))) (bP (!wC s k)) (uB (by unfold wC;rw[ep];simp_all)))) 
def anH(x:RI)(g:x.jH):gZ 234 [qo x] (bP (!po x)):=by
 have ga:=g.lo;have gb:=g.hi;by_cases ha:x.all=true
 .have e:po x=false:=by unfold po;rw[ha];simp
  rw[e];exact ak call234 func234 (af [ah 4 x.all ha]) 
 .replace ha:x.all=false:=by simpa using ha
  by_cases h1:x.lo.Ok
  .by_cases h2:x.hi.Ok
   .have v1:=h1.valid;have v2:=h2.valid;have e1:qo x=ig x.iv:=by rw[<-JJ,show x.iv.raw=x by show RI.mk x.lo.dy.raw x.hi.dy.raw x.all=x;rw[h1.eq ga,h2.eq gb]]
    rw[e1];by_cases h3:jK x.lo.dy x.hi.dy<=0
    .have e:po x=true:=by unfold po;rw[sD.2 (.inr ⟨ha,h1,h2,h3⟩),ha];rfl
     rw[e];exact ak call234 func234 (af [ai 4 x.iv.all ha,ag [ie x.iv.lo] (tf _ aF),ag [ie x.iv.hi] (tf _ aF),ag [ie x.iv.lo,ie x.iv.hi] (o0 _ _ aF aF),tF 23 (0<(jK x.iv.lo x.iv.hi)) (by show ¬0<jK x.lo.dy x.hi.dy;omega)]) 
    .have e:po x=false:=by unfold po;rw[show mz x=false by simpa using λq=>(sD.1 q).elim (λq=>by rw[ha]at q;exact Bool.noConfusion q.1) λq=>h3 q.2.2.2];rfl
     rw[e];exact ak call234 func234 (af [ai 4 x.iv.all ha,ag [ie x.iv.lo] (tf _ aF),ag [ie x.iv.hi] (tf _ aF),ag [ie x.iv.lo,ie x.iv.hi] (o0 _ _ aF aF),tT 23 (0<(jK x.iv.lo x.iv.hi)) (by show 0<jK x.lo.dy x.hi.dy;omega)]) 
   .have e:po x=false:=by unfold po;rw[show mz x=false by simpa using λq=>(sD.1 q).elim (λq=>by rw[ha]at q;exact Bool.noConfusion q.1) λq=>h2 q.2.2.1];rfl
    rw[e];exact ak call234 func234 (af [ai 4 x.all ha,ag [rn x.lo] (Dv _ aF true (by simp[h1])),ag [rn x.hi] (Dv _ aF false (by simp[h2]))]) 
  .have e:po x=false:=by unfold po;rw[show mz x=false by simpa using λq=>(sD.1 q).elim (λq=>by rw[ha]at q;exact Bool.noConfusion q.1) λq=>h1 q.2.1];rfl
   rw[e];exact ak call234 func234 (af [ai 4 x.all ha,ag [rn x.lo] (Dv _ aF false (by simp[h1]))]) 
def OT(s:jF)(h0:0<=s.im)(h8:s.im<=8)(l2:s.ib.length<=200)(lu:s.il.length<=200)(g:s.jH):gZ 232 [jV s.il,.fn 233 [(.kn 3 λj_=>[iP s.im,jS s.ib,jV s.il].getD j_ .any)]] (bP (!wF s)):=by
 have:=agY true s.il.length (λi _=>iP (s.il.getD i 0)) 233 [(.kn 3 λj_=>[iP s.im,jS s.ib,jV s.il].getD j_ .any)] (λi=>!wC s (s.il.getD i 0)) (λi _=>anF s g _ h0 h8 l2) (aE:s.il.length<=1000000);rwa[QG]at this
def ajA(f:FuncId)(l:List RI)(hf:∀ i,gZ f [qo (l.getD i jz)] (bP (!po (l.getD i jz))))(hl:l.length<=1000):gZ 40 [kJ l,.fn f []] (bP (!((List.range l.length).all λi=>po (l.getD i jz)))):=by
 have:=Cx true l.length (λi j=>(xC (l.getD i jz)).getD j .any) f [] (λi=>!po (l.getD i jz)) (λi _=>hf i) (aE:l.length<=1000000);rwa[QG]at this
def anJ(s:jF)(g:s.jH)(sm:s.mQ)(hc:¬(0<=s.im/\s.im<=8/\s.ib.length<=200/\s.il.length<=200)):gZ 157 [mB s] (bP false):=
 ak call157 func157 (.w (s.im<0)
  (λk1=>af [tB 10 (bA k1)])
  (λk1=>ae [tB 10 (bB k1)]<|.w (8<s.im)
   (λk2=>af [tB 14 (bA k2)])
   (λk2=>ae [tB 14 (bB k2)]<|.w (200<(s.ib.length:Int))
    (λk3=>af [tB 20 (bA k3)])
    (λk3=>ae [tB 20 (bB k3)]<|.w (200<(s.il.length:Int))
     (λk4=>af [tB 26 (bA k4)])
     (λk4=>.x aE))))) 
def anK(s:jF)(g:s.jH)(sm:s.mQ)(i0:0<=s.im)(i8:s.im<=8)(l1:s.ib.length<=200)(l2:s.il.length<=200)(N:Nat)(mS:N<s.ib.length)(iQ:∀ k,k<N->(jO (s.ib.getD k jg) (s.im+(k:Int)))=true)(hN:(jO (s.ib.getD N jg) (s.im+(N:Int)))=false):gZ 157 [mB s] (bP false):=
 ak call157 func157 (af [tF 10 (s.im<0) aE,tF 14 (8<s.im) aE,tF 20 (200<(s.ib.length:Int)) aE,tF 26 (200<(s.il.length:Int)) aE,.s (Sp.jv (Yp s N) 0 N aE (λx hx jU=>by
    have ny:=g.ib x;exact iG (af [tT 32 ((x:Int)<s.ib.length) aE,iX (x:Int) (s.ib.length) aE,iz (s.im+(x:Int)) aE,.c (GD (s.ib.getD x jg) (s.im+(x:Int)) ny),ai 42 (!(jO (s.ib.getD x jg) (s.im+(x:Int)))) (by rw[iQ x aE];rfl),iz ((x:Int)+1) aE]) aI)
  (λhx=>by
    have ny:=g.ib N;exact iG (af [tT 32 ((N:Int)<s.ib.length) aE,iX (N:Int) (s.ib.length) aE,iz (s.im+(N:Int)) aE,.c (GD (s.ib.getD N jg) (s.im+(N:Int)) ny),ah 42 (!(jO (s.ib.getD N jg) (s.im+(N:Int)))) (by rw[hN];rfl)]) aI) aM:ju 5 f157 (Yp s N 0) .ret ⟨85,true,[(2,.e (bP false))],[]⟩) .nil]) 
def anL(s:jF)(g:s.jH)(sm:s.mQ)(i0:0<=s.im)(i8:s.im<=8)(l1:s.ib.length<=200)(l2:s.il.length<=200)(iQ:∀ k,k<s.ib.length->(jO (s.ib.getD k jg) (s.im+(k:Int)))=true)(hu:wF s=false):gZ 157 [mB s] (bP false):=
 ak call157 func157 (af [tF 10 (s.im<0) aE,tF 14 (8<s.im) aE,tF 20 (200<(s.ib.length:Int)) aE,tF 26 (200<(s.il.length:Int)) aE,.s (Sp.jv (Yq s) 0 s.ib.length aE (λx hx jU=>by
    have ny:=g.ib x;exact iG (af [tT 32 ((x:Int)<s.ib.length) aE,iX (x:Int) (s.ib.length) aE,iz (s.im+(x:Int)) aE,.c (GD (s.ib.getD x jg) (s.im+(x:Int)) ny),ai 42 (!(jO (s.ib.getD x jg) (s.im+(x:Int)))) (by rw[iQ x aE];rfl),iz ((x:Int)+1) aE]) aI)
  (λhx=>by
    exact iG (af [tF 32 ((s.ib.length:Int)<s.ib.length) aE]) aI) aM:ju 5 f157 (Yq s 0) (.exit 0) ⟨85,true,[(3,.box 3 0),(1,.box 1 0)],[(3,.cells 25 [iP s.im,jS s.ib,jV s.il]),(1,.cells 28 [iP s.im,jS s.ib,jV s.il,iP s.iD,kJ s.params])]⟩) .nil,ag [jV s.il,.fn 233 [(.kn 3 λj_=>[iP s.im,jS s.ib,jV s.il].getD j_ .any)]] (OT s aE aE aE aE g),ah 47 (!(wF s)) (by rw[hu];rfl)]) 
def anM(s:jF)(g:s.jH)(sm:s.mQ)(i0:0<=s.im)(i8:s.im<=8)(l1:s.ib.length<=200)(l2:s.il.length<=200)(iQ:∀ k,k<s.ib.length->(jO (s.ib.getD k jg) (s.im+(k:Int)))=true)(hu:wF s=true)(hc:¬(1<=s.iD/\s.iD<=4/\(s.il.length:Int)=s.iD/\s.im=s.iD+(s.params.length:Int)/\s.params.length<=4)):gZ 157 [mB s] (bP false):=by
 have sp:=sm.params;exact ak call157 func157 (ae [tF 10 (s.im<0) aE,tF 14 (8<s.im) aE,tF 20 (200<(s.ib.length:Int)) aE,tF 26 (200<(s.il.length:Int)) aE,.s (Sp.jv (Yr s) 0 s.ib.length aE (λx hx jU=>by
    have ny:=g.ib x;exact iG (af [tT 32 ((x:Int)<s.ib.length) aE,iX (x:Int) (s.ib.length) aE,iz (s.im+(x:Int)) aE,.c (GD (s.ib.getD x jg) (s.im+(x:Int)) ny),ai 42 (!(jO (s.ib.getD x jg) (s.im+(x:Int)))) (by rw[iQ x aE];rfl),iz ((x:Int)+1) aE]) aI)
  (λhx=>by
    exact iG (af [tF 32 ((s.ib.length:Int)<s.ib.length) aE]) aI) aM:ju 5 f157 (Yr s 0) (.exit 0) ⟨85,true,[(3,.box 3 0),(1,.box 1 0)],[(3,.cells 25 [iP s.im,jS s.ib,jV s.il]),(1,.cells 28 [iP s.im,jS s.ib,jV s.il,iP s.iD,kJ s.params])]⟩) .nil,ag [jV s.il,.fn 233 [(.kn 3 λj_=>[iP s.im,jS s.ib,jV s.il].getD j_ .any)]] (OT s aE aE aE aE g),ai 47 (!(wF s)) (by rw[hu];rfl)]<|.w (s.iD<1)
  (λk1=>af [tB 50 (bA k1)])
  (λk1=>ae [tB 50 (bB k1)]<|.w (4<s.iD)
   (λk2=>af [tB 54 (bA k2)])
   (λk2=>ae [tB 54 (bB k2)]<|.w ((s.il.length:Int)=s.iD)
    (λk3=>ae [tB 62 (bq k3),iz (s.iD+(s.params.length:Int)) aE]<|.w (s.im=(s.iD+(s.params.length:Int)))
     (λk4=>ae [tB 73 (bq k4)]<|.w (4<(s.params.length:Int))
      (λk5=>af [tB 79 (bA k5)])
      (λk5=>.x aE))
     (λk4=>af [tB 73 (bt k4)]))
    (λk3=>af [tB 62 (bt k3)])))) 
def anN(s:jF)(g:s.jH)(sm:s.mQ)(i0:0<=s.im)(i8:s.im<=8)(l1:s.ib.length<=200)(l2:s.il.length<=200)(iQ:∀ k,k<s.ib.length->(jO (s.ib.getD k jg) (s.im+(k:Int)))=true)(hu:wF s=true)(s1:1<=s.iD)(s4:s.iD<=4)(e1:(s.il.length:Int)=s.iD)(e2:s.im=s.iD+(s.params.length:Int))(p4:s.params.length<=4):gZ 157 [mB s] (bP (EG s)):=by
 have sp:=sm.params;exact ak call157 func157 (ae [tF 10 (s.im<0) aE,tF 14 (8<s.im) aE,tF 20 (200<(s.ib.length:Int)) aE,tF 26 (200<(s.il.length:Int)) aE,.s (Sp.jv (Ys s) 0 s.ib.length aE (λx hx jU=>by
    have ny:=g.ib x;exact iG (af [tT 32 ((x:Int)<s.ib.length) aE,iX (x:Int) (s.ib.length) aE,iz (s.im+(x:Int)) aE,.c (GD (s.ib.getD x jg) (s.im+(x:Int)) ny),ai 42 (!(jO (s.ib.getD x jg) (s.im+(x:Int)))) (by rw[iQ x aE];rfl),iz ((x:Int)+1) aE]) aI)
  (λhx=>by
    exact iG (af [tF 32 ((s.ib.length:Int)<s.ib.length) aE]) aI) aM:ju 5 f157 (Ys s 0) (.exit 0) ⟨85,true,[(3,.box 3 0),(1,.box 1 0)],[(3,.cells 25 [iP s.im,jS s.ib,jV s.il]),(1,.cells 28 [iP s.im,jS s.ib,jV s.il,iP s.iD,kJ s.params])]⟩) .nil,ag [jV s.il,.fn 233 [(.kn 3 λj_=>[iP s.im,jS s.ib,jV s.il].getD j_ .any)]] (OT s aE aE aE aE g),ai 47 (!(wF s)) (by rw[hu];rfl),tF 50 (s.iD<1) aE,tF 54 (4<s.iD) aE,ai 62 ((s.il.length:Int) != s.iD) (by simp[e1]),iz (s.iD+(s.params.length:Int)) aE,ai 73 (s.im != (s.iD+(s.params.length:Int))) (by simp[e2]),tF 79 (4<(s.params.length:Int)) aE,.c (ajA 234 s.params (λi=>anH _ (g.params i)) aE:gZ 40 [kJ s.params,.fn 234 []] _)]<|rQ (bP (!(!(EG s)))) (bP (EG s)) (uB aK)) 
def anO(s:jF)(g:s.jH)(sm:s.mQ):gZ 157 [mB s] (bP (nj s)):=by
 by_cases c1:0<=s.im/\s.im<=8/\s.ib.length<=200/\s.il.length<=200
 rotate_left
 .rw [show nj s=false by unfold nj;rw[bB c1];rfl];exact anJ s g sm c1
 obtain⟨i0,i8,l1,l2⟩:=c1;by_cases c2:G3 s=true
 rotate_left
 .rw [show nj s=false by unfold nj;rw[bn c2];simp];obtain⟨N,n1,n2,n3⟩:=xP c2;exact anK s g sm i0 i8 l1 l2 N n1 (λk hk=>by simpa using n3 k hk) (by simpa using n2)
 have iQ:∀ k,k<s.ib.length->jO (s.ib.getD k jg) (s.im+(k:Int))=true:=λk hk=>cr.1 c2 k (bY.2 hk)
 cases hu:wF s with
 |false=>
  rw[show nj s=false by unfold nj;rw[hu];simp];exact anL s g sm i0 i8 l1 l2 iQ hu
 |true=>
  by_cases c3:1<=s.iD/\s.iD<=4/\(s.il.length:Int)=s.iD/\s.im=s.iD+(s.params.length:Int)/\s.params.length<=4
  .rw [show nj s=EG s by unfold nj;rw[bA (⟨i0,i8,l1,l2⟩:_/\_),c2,hu,bA c3];simp];obtain⟨s1,s4,e1,e2,p4⟩:=c3;exact anN s g sm i0 i8 l1 l2 iQ hu s1 s4 e1 e2 p4
  .rw [show nj s=false by unfold nj;rw[bB c3];simp];exact anM s g sm i0 i8 l1 l2 iQ hu c3
def WR{a b c d e f:Int}(ha:ku .i64 a)(hb:ku .i64 b)(hc:ku .i64 c)(hd:ku .i64 d)(he:ku .i64 e)(hf:ku .i64 f):
 prog.keyLits 10 74 [.int .i64 a,.int .i64 b,.int .i64 c,.int .i64 d,.int .i64 e,.int .i64 f]=some [.int .i64 a,.int .i64 b,.int .i64 c,.int .i64 d,.int .i64 e,.int .i64 f]:=by
 have c1:prog.cellsOf 74=6:= aI ;have c2:prog.cellsOf 3=1:= aI ;have c3:prog.cellsOf 72=2:= aI ;have r:prog.keyLits 9 72 [.int .i64 e,.int .i64 f]=some [.int .i64 e,.int .i64 f]:=by
  unfold Program.keyLits;rw[underlying72];simp[c3,c2,fN,Bk he,Bk hf]
 unfold Program.keyLits;rw[underlying74];simp[c1,c2,c3,fN,Bk ha,Bk hb,Bk hc,Bk hd,r]
def GC{a b c d e f a' b' c' d' e' f':Int}(ha:ku .i64 a)(hb:ku .i64 b)(hc:ku .i64 c)(hd:ku .i64 d)(he:ku .i64 e)(hf:ku .i64 f)
 (DN:ku .i64 a') (nu:ku .i64 b') (zw:ku .i64 c') (B8:ku .i64 d') (he':ku .i64 e') (hf':ku .i64 f'):
 nn prog .eql 74 (.agg [iP a,iP b,iP c,iP d,iP e,iP f]) (.agg [iP a',iP b',iP c',iP d',iP e',iP f']) (.bool (decide (a=a'/\b=b'/\c=c'/\d=d'/\e=e'/\f=f'))):=
 aja (WR ha hb hc hd he hf) (WR DN nu zw B8 he' hf') aI aI rfl
def vc:ku .i64 0:=by unfold ku;decide
def aoj{d:Int}(h0:0<=d)(h:d<=1073741824):IntKind.u64.wrap d=(d.natAbs:Int):=by rw[IntKind.wrap_u64];omega
def RH{a b:Nat}:0<=kE a b↔b<=a:=by
 unfold kE;split
 .simp;omega
 .split<;>simp<;>omega
def Xs(m n:Nat)(hl:(ia m).length<=1000)(hn:n<=65536):gZ 246 [ic (ia m),iP (n:Int)] (ic (ia (m*2^n))):=
 GI (kR m) call246 (λA c w h _=>ald A c (ia m) n w h hl hn) λA c B w e w' h hB r=>by rw[kf]at r;exact rl B w e w' hB r
def akz(m n:Nat)(hl:(ia m).length<=3000)(hn:(ia n).length<=3000):gZ 247 [ic (ia m),ic (ia n)] (ic (ia (m+n))):=
 Bs (kR m) (kR n) call247 (λA c B d w h k _=>alg A B c d (ia m) (ia n) w h k hl hn) λB w e w' hB r=>by rw[kf,kf]at r;exact rl B w e w' hB r
def Xt(m n:Nat)(hl:(ia m).length<=3000)(hn:n<=m):gZ 248 [ic (ia m),ic (ia n)] (ic (ia (m-n))):=
 Bs (kR m) (kR n) call248 (λA c B d w h k _=>ale A B c d (ia m) (ia n) w h k hl (mU hn) (by rw[kf,kf];exact hn)) λB w e w' hB r=>by rw[kf,kf]at r;exact rl B w e w' hB r
def aky(m n:Nat)(hl:(ia m).length<=3000)(hn:(ia n).length<=3000):gZ 156 [ic (ia m),ic (ia n)] (iP (kE m n)):=by
 refine Bs (kR m) (kR n) call156 (λA c B d w h k _=>ak8 A B c d (ia m) (ia n) w h k (wJ _) (wJ _) aE aE) ?_;rw[kf,kf];exact rv
def Yd(a b:Dy)(ha:vt a)(hb:vt b):gZ 172 [ie a,ie b] (ie (jc a b)):=by
 obtain⟨ha1,ha2,ha3⟩:=ha;obtain⟨kP,mK,pW⟩:=hb;have ba:=wR ha1;have bb:=wR kP;obtain⟨k,hk⟩:∃ k,min a.e b.e=k:=⟨_,rfl⟩
 exact ak call172 func172 (.w (((ia a.m).length:Int)=0)
  (λk1=>by
   have a0:a.m=0:=rk.1 aE;exact ae [tB 11 (bk k1)]<|rQ (ie b) (ie (jc a b)) (by rw[show jc a b=b by unfold jc;rw[bw a0]]))
  (λk1=>by
   have a0:a.m≠0:=λh=>k1 (by rw[rk.2 h];rfl)
   exact ae [tB 11 (bj k1)]<|.w (((ia b.m).length:Int)=0)
    (λk2=>by
     have b0:b.m=0:=rk.1 aE;exact ae [tB 16 (bk k2)]<|rQ (ie a) (ie (jc a b)) (by rw[show jc a b=a by unfold jc;rw[bu a0,bw b0]]))
    (λk2=>by
     have b0:b.m≠0:=λh=>k2 (by rw[rk.2 h];rfl)
     have hX:(ia (a.m*2^((a.e-k).toNat))).length<=1400:=nJ (by rw[re a0];omega);have hY:(ia (b.m*2^((b.e-k).toNat))).length<=1400:=nJ (by rw[re b0];omega);have hP:=VC hX hY;have hM:(ia ((a.m*2^((a.e-k).toNat))-(b.m*2^((b.e-k).toNat)))).length<=1400:=bG (mU (ey _ _)) hX;have hN:(ia ((b.m*2^((b.e-k).toNat))-(a.m*2^((a.e-k).toNat)))).length<=1400:=bG (mU (ey _ _)) hY;exact ae [tB 16 (bj k2),.o 22 (aq (if b.e<a.e then b.e else a.e) k (by rw[<-hk];split<;>omega)),iz (a.e-k) aE,.o 28 (aq (a.e-k) ((a.e-k).toNat:Int) aE),ag [ic (ia a.m),iP ((a.e-k).toNat:Int)] (Xs _ _ aE aE),iz (b.e-k) aE,.o 35 (aq (b.e-k) ((b.e-k).toNat:Int) aE),ag [ic (ia b.m),iP ((b.e-k).toNat:Int)] (Xs _ _ aE aE)]<|.w (a.neg=b.neg)
      (λk3=>ae [tB 41 (bk k3),ag [ic (ia (a.m*2^((a.e-k).toNat))),ic (ia (b.m*2^((b.e-k).toNat)))] (akz _ _ aE aE),ag [bP a.neg,ic (ia ((a.m*2^((a.e-k).toNat))+(b.m*2^((b.e-k).toNat)))),iP k] (EA _ _ _ aE aE aE)]<|rQ (ie (canon a.neg ((a.m*2^((a.e-k).toNat))+(b.m*2^((b.e-k).toNat))) k)) (ie (jc a b)) (by have h:=ant (s:=a.neg) a0 b0 hk;rw[show(⟨a.neg,b.m,b.e⟩:Dy)=b by rw[k3]]at h;exact congrArg ie h.symm))
      (λk3=>ae [tB 41 (bj k3),ag [ic (ia (a.m*2^((a.e-k).toNat))),ic (ia (b.m*2^((b.e-k).toNat)))] (aky _ _ aE aE)]<|.w (0<=(kE (a.m*2^((a.e-k).toNat)) (b.m*2^((b.e-k).toNat))))
       (λk4=>by
        have hc:(b.m*2^((b.e-k).toNat))<=(a.m*2^((a.e-k).toNat)):=RH.1 k4;exact ae [tB 52 (bA k4),ag [ic (ia (a.m*2^((a.e-k).toNat))),ic (ia (b.m*2^((b.e-k).toNat)))] (Xt _ _ aE aE),ag [bP a.neg,ic (ia ((a.m*2^((a.e-k).toNat))-(b.m*2^((b.e-k).toNat)))),iP k] (EA _ _ _ aE aE aE)]<|rQ (ie (canon a.neg ((a.m*2^((a.e-k).toNat))-(b.m*2^((b.e-k).toNat))) k)) (ie (jc a b)) (congrArg ie (anr (s:=a.neg) (t:=b.neg) a0 b0 hk k3 hc).symm))
       (λk4=>by
        have hc:(a.m*2^((a.e-k).toNat))<(b.m*2^((b.e-k).toNat)):=apJ λh=>k4 (RH.2 h)
        exact ae [tB 52 (bB k4),ag [ic (ia (b.m*2^((b.e-k).toNat))),ic (ia (a.m*2^((a.e-k).toNat)))] (Xt _ _ aE aE),ag [bP b.neg,ic (ia ((b.m*2^((b.e-k).toNat))-(a.m*2^((a.e-k).toNat)))),iP k] (EA _ _ _ aE aE aE)]<|rQ (ie (canon b.neg ((b.m*2^((b.e-k).toNat))-(a.m*2^((a.e-k).toNat))) k)) (ie (jc a b)) (congrArg ie (ans (s:=a.neg) (t:=b.neg) a0 b0 hk k3 hc).symm)))))) 
def GW(a b:Dy)(ha:vt a)(hb:vt b):gZ 97 [ie a,ie b] (iP (jK a b)):=by
 have hn:vt (iU b):=⟨hb.len,hb.lo,hb.hi⟩
 exact ak call97 func97 (ae [ag [ie a] (tI _),ag [ie b] (tI _)]<|.w ((Dy.jb a)=(Dy.jb b))
  (λk1=>ae [tB 13 (bq k1)]<|.w ((Dy.jb a)=0)
   (λk2=>ae [tB 18 (bk k2)]<|rQ (iP 0) (iP (jK a b)) (by rw[Dq,bu (by simpa using k1),bw k2]))
   (λk2=>ae [tB 18 (bj k2),ag [ie a] (Kn _ ha),ag [ie b] (Kn _ hb)]<|.w ((Dy.iE a)=(Dy.iE b))
    (λk3=>ae [tB 23 (bq k3),ag [ie b] (r9 _),ag [ie a,ie (iU b)] (Yd _ _ ha hn),ag [ie (jc a (iU b))] (tI _)]<|rQ (iP (Dy.jb (jc a (iU b)))) (iP (jK a b)) (by rw[Dq,bu (by simpa using k1),bu k2,bu (by simpa using k3)]))
    (λk3=>ae [tB 23 (bt k3),ag [ie a] (Kn _ ha),ag [ie b] (Kn _ hb)]<|.w ((decide ((Dy.iE a)<(Dy.iE b)))=(decide (0<(Dy.jb a))))
     (λk4=>ae [tB 31 (bk k4)]<|rQ (iP (-1)) (iP (jK a b)) (by rw[Dq,bu (by simpa using k1),bu k2,bw k3,bw (by simpa using k4)]))
     (λk4=>ae [tB 31 (bj k4)]<|rQ (iP 1) (iP (jK a b)) (by rw[Dq,bu (by simpa using k1),bu k2,bw k3,bu (by simpa using k4)])))))
  (λk1=>ae [tB 13 (bt k1)]<|.w ((Dy.jb a)<(Dy.jb b))
   (λk2=>ae [tB 16 (bA k2)]<|rQ (iP (-1)) (iP (jK a b)) (by rw[Dq,bw k1,bw k2]))
   (λk2=>ae [tB 16 (bB k2)]<|rQ (iP 1) (iP (jK a b)) (by rw[Dq,bw k1,bu k2])))) 
def Tv(a b:Nat)(x:Nat):PS:=⟨12,true,[(0,.e (.v (.int .u64 (((mH a b x).1:Nat):Int)))),(1,.e (.v (.int .u64 (((mH a b x).2:Nat):Int))))],[]⟩
def X3(s:jF)(N:Nat)(x:Nat):PS:=⟨131,true,[(4,.e (iP x)),(3,.box 3 0),(1,.box 1 0)],[(3,.cells 25 [iP s.im,jS s.ib,jV s.il]),(1,.cells 28 [iP s.im,jS s.ib,jV s.il,iP s.iD,kJ s.params])]⟩
def XY(s:jF)(x:Nat):PS:=⟨131,true,[(4,.e (iP x)),(3,.box 3 0),(1,.box 1 0)],[(3,.cells 25 [iP s.im,jS s.ib,jV s.il]),(1,.cells 28 [iP s.im,jS s.ib,jV s.il,iP s.iD,kJ s.params])]⟩
def X4(s:jF)(N:Nat)(x:Nat):PS:=⟨131,true,[(5,.e (iP x)),(3,.box 3 0),(1,.box 1 0)],[(3,.cells 25 [iP s.im,jS s.ib,jV s.il]),(1,.cells 28 [iP s.im,jS s.ib,jV s.il,iP s.iD,kJ s.params])]⟩
def XZ(s:jF)(x:Nat):PS:=⟨131,true,[(4,.e (iP x)),(3,.box 3 0),(1,.box 1 0)],[(3,.cells 25 [iP s.im,jS s.ib,jV s.il]),(1,.cells 28 [iP s.im,jS s.ib,jV s.il,iP s.iD,kJ s.params])]⟩
def X5(s:jF)(N:Nat)(x:Nat):PS:=⟨131,true,[(5,.e (iP x)),(3,.box 3 0),(1,.box 1 0)],[(3,.cells 25 [iP s.im,jS s.ib,jV s.il]),(1,.cells 28 [iP s.im,jS s.ib,jV s.il,iP s.iD,kJ s.params])]⟩
def X0(s:jF)(x:Nat):PS:=⟨131,true,[(4,.e (iP x)),(3,.box 3 0),(1,.box 1 0)],[(3,.cells 25 [iP s.im,jS s.ib,jV s.il]),(1,.cells 28 [iP s.im,jS s.ib,jV s.il,iP s.iD,kJ s.params])]⟩
def X6(s:jF)(x:Nat):PS:=⟨131,true,[(5,.e (iP x)),(3,.box 3 0),(1,.box 1 0)],[(3,.cells 25 [iP s.im,jS s.ib,jV s.il]),(1,.cells 28 [iP s.im,jS s.ib,jV s.il,iP s.iD,kJ s.params])]⟩
def X7(s:jF)(N:Nat)(x:Nat):PS:=⟨131,true,[(6,.e (iP x)),(1,.box 1 0)],[(1,.cells 28 [iP s.im,jS s.ib,jV s.il,iP s.iD,kJ s.params])]⟩
def X1(s:jF)(x:Nat):PS:=⟨131,true,[(4,.e (iP x)),(3,.box 3 0),(1,.box 1 0)],[(3,.cells 25 [iP s.im,jS s.ib,jV s.il]),(1,.cells 28 [iP s.im,jS s.ib,jV s.il,iP s.iD,kJ s.params])]⟩
def X8(s:jF)(x:Nat):PS:=⟨131,true,[(5,.e (iP x)),(3,.box 3 0),(1,.box 1 0)],[(3,.cells 25 [iP s.im,jS s.ib,jV s.il]),(1,.cells 28 [iP s.im,jS s.ib,jV s.il,iP s.iD,kJ s.params])]⟩
def X9(s:jF)(N:Nat)(x:Nat):PS:=⟨131,true,[(6,.e (iP x)),(1,.box 1 0)],[(1,.cells 28 [iP s.im,jS s.ib,jV s.il,iP s.iD,kJ s.params])]⟩
def X2(s:jF)(x:Nat):PS:=⟨131,true,[(4,.e (iP x)),(3,.box 3 0),(1,.box 1 0)],[(3,.cells 25 [iP s.im,jS s.ib,jV s.il]),(1,.cells 28 [iP s.im,jS s.ib,jV s.il,iP s.iD,kJ s.params])]⟩
def Ya(s:jF)(x:Nat):PS:=⟨131,true,[(5,.e (iP x)),(3,.box 3 0),(1,.box 1 0)],[(3,.cells 25 [iP s.im,jS s.ib,jV s.il]),(1,.cells 28 [iP s.im,jS s.ib,jV s.il,iP s.iD,kJ s.params])]⟩
def Yb(s:jF)(x:Nat):PS:=⟨131,true,[(6,.e (iP x)),(1,.box 1 0)],[(1,.cells 28 [iP s.im,jS s.ib,jV s.il,iP s.iD,kJ s.params])]⟩
def Xo(s:jF)(b:List RI)(N:Nat)(x:Nat):PS:=⟨35,true,[(5,.e (iP x)),(1,.e (kJ b))],[]⟩
def Xp(s:jF)(b:List RI)(N:Nat)(x:Nat):PS:=⟨35,true,[(5,.e (iP x)),(1,.e (kJ b))],[]⟩
def Xq(s:jF)(b:List RI)(x:Nat):PS:=⟨35,true,[(5,.e (iP x)),(1,.e (kJ b))],[]⟩
def afr(a b N:Nat)(ha:a<18446744073709551616)(hb:b<18446744073709551616)(iQ:∀ k,k<N->(mH a b k).2≠0)(hN:(mH a b N).2=0):gZ 168 [.v (.int .u64 (a:Int)),.v (.int .u64 (b:Int))] (.v (.int .u64 (((mH a b N).1:Nat):Int))):=
 ak call168 func168 (af [.s (Sp.jv (Tv a b) 0 N aE (λx hx jU=>by
    have pE:=iQ x aE;exact iG (ae [ah 6 ((((mH a b x).2:Nat):Int) != 0) (Gt (iQ x aE)),.a (aE:0<((((mH a b x).2:Nat):Int):Int))]<|.e (af [.o 0 (.int aT:aj (.v (.int .u64 (((mH a b x).2:Nat):Int))) (.v (.int .u64 (((mH a b (x+1)).1:Nat):Int)))),.o 1 (.int aT:aj (.v (.int .u64 ((((mH a b x).1)%((mH a b x).2):Nat):Int))) (.v (.int .u64 (((mH a b (x+1)).2:Nat):Int))))])) aI)
  (λhx=>by
    exact iG (af [ai 6 ((((mH a b N).2:Nat):Int) != 0) (CE hN)]) aI) aM:ju 1 f168 (Tv a b 0) (.exit 0) ⟨12,true,[(0,.e (.v (.int .u64 (((mH a b N).1:Nat):Int))))],[]⟩) (af [.o 0 (.int aT:aj (.v (.int .u64 (a:Int))) (.v (.int .u64 (((mH a b 0).1:Nat):Int)))),.o 1 (.int aT:aj (.v (.int .u64 (b:Int))) (.v (.int .u64 (((mH a b 0).2:Nat):Int))))])]) 
def afs(a b:Nat)(ha:a<18446744073709551616)(hb:b<18446744073709551616):gZ 168 [.v (.int .u64 (a:Int)),.v (.int .u64 (b:Int))] (.v (.int .u64 (Nat.gcd a b:Int))):=by
 obtain⟨N,h1,h2⟩:=SP b a;have hg:=Me a b N;rw[h2,Nat.gcd_zero_right]at hg;rw[<-hg];exact afr a b N ha hb h1 h2
def amO(m:Nat)(h:m<=1073741824):gZ 169 [iP m] (.v (.int .u64 (m:Int))):=
 ak call169 func169 (af [tF 4 ((m:Int)<0) aE,.o 11 (.int (pZ _ aE):aj (.v (.int .u64 (IntKind.u64.wrap (m:Int)))) (.v (.int .u64 (m:Int))))]) 
def amN(m:Nat)(h0:0<m)(h:m<=1073741824):gZ 169 [iP (-(m:Int))] (.v (.int .u64 (m:Int))):=
 ak call169 func169 (ae [tT 4 ((-(m:Int))<0) aE,iz ((-(m:Int))+1) aE,iz (0-((-(m:Int))+1)) aE,.o 7 (aq (0-((-(m:Int))+1)) ((m-1:Nat):Int) aE),.o 8 (.int (pZ _ aE):aj (.v (.int .u64 (IntKind.u64.wrap ((m-1:Nat):Int)))) (.v (.int .u64 ((m-1:Nat):Int)))),pP (((m-1:Nat):Int)+1) aE]<|rQ (.v (.int .u64 (((m-1)+1:Nat):Int))) (.v (.int .u64 (m:Int))) (by rw[(aE:m-1+1=m)])) 
def PT(n:Int)(h1:-1073741824<=n)(h2:n<=1073741824):gZ 169 [iP n] (.v (.int .u64 (n.natAbs:Int))):=by
 by_cases h:0<=n
 .obtain ⟨m,rfl⟩:=ek h;exact amO m aE 
 .obtain ⟨m,rfl⟩:∃ m:Nat,n = -(m:Int):=⟨n.natAbs,aE⟩
  rw[fQ,ej];exact amN m aE aE 
def GU(n d:Int):gZ 94 [.agg [iP n,iP d]] (bP (ml n d)):=
 ak call94 func94 (.w (1<=d)
  (λk1=>ae [tB 5 (bA k1)]<|.w (d<=1073741824)
   (λk2=>ae [tB 9 (bA k2)]<|.w ((-1073741824)<=n)
    (λk3=>ae [tB 14 (bA k3)]<|.w (n<=1073741824)
     (λk4=>ae [tB 19 (bA k4),ag [iP n] (PT _ aE aE),.o 27 (.int (aoj aE aE):aj (.v (.int .u64 (IntKind.u64.wrap d))) (.v (.int .u64 (Int.natAbs d:Int)))),ag [.v (.int .u64 (Int.natAbs n:Int)),.v (.int .u64 (Int.natAbs d:Int))] (afs _ _ aE aE)]<|rQ (bP ((Nat.gcd (Int.natAbs n) (Int.natAbs d):Int)==1)) (bP (ml n d)) (by unfold ml;simp[yH,k1,k2,k3,k4]))
     (λk4=>ae [tB 19 (bB k4)]<|rQ (bP false) (bP (ml n d)) (by unfold ml;simp[yH,k1,k2,k3,k4])))
    (λk3=>ae [tB 14 (bB k3)]<|rQ (bP false) (bP (ml n d)) (by unfold ml;simp[yH,k1,k2,k3])))
   (λk2=>ae [tB 9 (bB k2)]<|rQ (bP false) (bP (ml n d)) (by unfold ml;simp[yH,k1,k2])))
  (λk1=>ae [tB 5 (bB k1)]<|rQ (bP false) (bP (ml n d)) (by unfold ml;simp[yH,k1]))) 
def CJ(o:nE)(m:Int)(g:o.jH):gZ 48 [rK o,iP m] (bP (jO o m)):=
 ak call48 func48 (.w (o.kind=1)
  (λk1=>ae [tB 13 (bk k1),ag [.agg [iP o.cn,iP o.cd]] (GU _ _)]<|.w (ml o.cn o.cd=true)
   (λk2=>ae [tB 19 k2,ai 47 (decide ((0:Int)<0)) aG,ai 52 (decide ((1:Int)<0)) aG,.g (GC g.kind g.a g.b g.n g.cn g.cd g.kind vc vc vc g.cn g.cd:nn prog .eql 74 (rK o) (.agg [iP o.kind,iP 0,iP 0,iP 0,iP o.cn,iP o.cd]) (.bool (decide (o.kind=o.kind/\o.a=0/\o.b=0/\o.n=0/\o.cn=o.cn/\o.cd=o.cd))))]<|.w (o.kind=o.kind/\o.a=0/\o.b=0/\o.n=0/\o.cn=o.cn/\o.cd=o.cd)
    (λk3=>ae [tB 58 (bA k3),ah 61 ((0:Int)==0) aG]<|rQ (bP true) (bP (jO o m)) lH)
    (λk3=>ae [tB 58 (bB k3)]<|rQ (bP false) (bP (jO o m)) lH))
   (λk2=>ae [tB 19 (bn k2)]<|rQ (bP false) (bP (jO o m)) lH))
  (λk1=>ae [tB 13 (bj k1),.j 42 ⟨85,true,[(21,.e (bP (decide (3<=o.kind/\o.kind<=6)))),(11,.e (iP o.kind)),(6,.box 6 0),(2,.box 2 0),(1,.e (iP m))],[(6,.cells 74 [iP o.kind,iP 0,iP 0,iP 0,iP 0,iP 0]),(2,.cells 74 [iP o.kind,iP o.a,iP o.b,iP o.n,iP o.cn,iP o.cd])]⟩
   (.w (o.kind=3)
    (λm1=>ae [.v 21 (.bool (bk m1))]<|.e (af [tB 21 (oR aO:true=(decide (3<=o.kind/\o.kind<=6)))]))
    (λm1=>ae [.v 21 (.bool (bj m1))]<|.w (o.kind=4)
     (λm2=>ae [tB 23 (bk m2)]<|.e (af [tB 21 (oR aO:true=(decide (3<=o.kind/\o.kind<=6)))]))
     (λm2=>ae [tB 23 (bj m2)]<|.w (o.kind=5)
      (λm3=>ae [tB 24 (bk m3)]<|.e (af [tB 21 (oR aO:true=(decide (3<=o.kind/\o.kind<=6)))]))
      (λm3=>ae [tB 24 (bj m3)]<|.e (af [tB 21 (oR aO:(o.kind==6)=(decide (3<=o.kind/\o.kind<=6)))])))))]<|.w (3<=o.kind/\o.kind<=6)
   (λk2=>ae [.v 21 (.bool (bA k2)),ah 47 (decide ((0:Int)<2)) aG,ah 52 (decide ((1:Int)<2)) aG,.g (GC g.kind g.a g.b g.n g.cn g.cd g.kind g.a g.b vc vc vc:nn prog .eql 74 (rK o) (.agg [iP o.kind,iP o.a,iP o.b,iP 0,iP 0,iP 0]) (.bool (decide (o.kind=o.kind/\o.a=o.a/\o.b=o.b/\o.n=0/\o.cn=0/\o.cd=0))))]<|.w (o.kind=o.kind/\o.a=o.a/\o.b=o.b/\o.n=0/\o.cn=0/\o.cd=0)
    (λk3=>ae [tB 58 (bA k3),ai 61 ((2:Int)==0) aG]<|.w (0<=o.a)
     (λk4=>ae [tB 65 (bA k4)]<|.w (o.a<m)
      (λk5=>ae [tB 70 (bA k5)]<|.w (0<=o.b)
       (λk6=>ae [tB 75 (bA k6)]<|rQ (bP (decide (o.b<m))) (bP (jO o m)) lH)
       (λk6=>ae [tB 75 (bB k6)]<|rQ (bP false) (bP (jO o m)) lH))
      (λk5=>ae [tB 70 (bB k5)]<|rQ (bP false) (bP (jO o m)) lH))
     (λk4=>ae [tB 65 (bB k4)]<|rQ (bP false) (bP (jO o m)) lH))
    (λk3=>ae [tB 58 (bB k3)]<|rQ (bP false) (bP (jO o m)) lH))
   (λk2=>ae [.v 21 (.bool (bB k2)),.j 52 ⟨85,true,[(26,.e (bP (decide (o.kind=7\/9<=o.kind/\o.kind<=13)))),(11,.e (iP o.kind)),(6,.box 6 0),(2,.box 2 0),(1,.e (iP m))],[(6,.cells 74 [iP o.kind,iP 0,iP 0,iP 0,iP 0,iP 0]),(2,.cells 74 [iP o.kind,iP o.a,iP o.b,iP o.n,iP o.cn,iP o.cd])]⟩
   (.w (o.kind=7)
    (λm1=>ae [.v 26 (.bool (bk m1))]<|.e (af [tB 26 (oR aO:true=(decide (o.kind=7\/9<=o.kind/\o.kind<=13)))]))
    (λm1=>ae [.v 26 (.bool (bj m1))]<|.w (o.kind=9)
     (λm2=>ae [tB 28 (bk m2)]<|.e (af [tB 26 (oR aO:true=(decide (o.kind=7\/9<=o.kind/\o.kind<=13)))]))
     (λm2=>ae [tB 28 (bj m2)]<|.w (o.kind=10)
      (λm3=>ae [tB 29 (bk m3)]<|.e (af [tB 26 (oR aO:true=(decide (o.kind=7\/9<=o.kind/\o.kind<=13)))]))
      (λm3=>ae [tB 29 (bj m3)]<|.w (o.kind=11)
       (λm4=>ae [tB 30 (bk m4)]<|.e (af [tB 26 (oR aO:true=(decide (o.kind=7\/9<=o.kind/\o.kind<=13)))]))
       (λm4=>ae [tB 30 (bj m4)]<|.w (o.kind=12)
        (λm5=>ae [tB 31 (bk m5)]<|.e (af [tB 26 (oR aO:true=(decide (o.kind=7\/9<=o.kind/\o.kind<=13)))]))
        (λm5=>ae [tB 31 (bj m5)]<|.e (af [tB 26 (oR aO:(o.kind==13)=(decide (o.kind=7\/9<=o.kind/\o.kind<=13)))])))))))]<|.w (o.kind=7\/9<=o.kind/\o.kind<=13)
    (λk3=>ae [.v 26 (.bool (bA k3)),ah 47 (decide ((0:Int)<1)) aG,ai 52 (decide ((1:Int)<1)) aG,.g (GC g.kind g.a g.b g.n g.cn g.cd g.kind g.a vc vc vc vc:nn prog .eql 74 (rK o) (.agg [iP o.kind,iP o.a,iP 0,iP 0,iP 0,iP 0]) (.bool (decide (o.kind=o.kind/\o.a=o.a/\o.b=0/\o.n=0/\o.cn=0/\o.cd=0))))]<|.w (o.kind=o.kind/\o.a=o.a/\o.b=0/\o.n=0/\o.cn=0/\o.cd=0)
     (λk4=>ae [tB 58 (bA k4),ai 61 ((1:Int)==0) aG]<|.w (0<=o.a)
      (λk5=>ae [tB 65 (bA k5)]<|.w (o.a<m)
       (λk6=>ae [tB 70 (bA k6)]<|.w (0<=o.b)
        (λk7=>ae [tB 75 (bA k7)]<|rQ (bP (decide (o.b<m))) (bP (jO o m)) lH)
        (λk7=>ae [tB 75 (bB k7)]<|rQ (bP false) (bP (jO o m)) lH))
       (λk6=>ae [tB 70 (bB k6)]<|rQ (bP false) (bP (jO o m)) lH))
      (λk5=>ae [tB 65 (bB k5)]<|rQ (bP false) (bP (jO o m)) lH))
     (λk4=>ae [tB 58 (bB k4)]<|rQ (bP false) (bP (jO o m)) lH))
    (λk3=>ae [.v 26 (.bool (bB k3))]<|.w (o.kind=8)
     (λk4=>ae [tB 34 (bk k4)]<|.w (o.n<0)
      (λk5=>ae [tB 40 (bA k5)]<|rQ (bP false) (bP (jO o m)) lH)
      (λk5=>ae [tB 40 (bB k5)]<|.w (16<o.n)
       (λk6=>ae [tB 44 (bA k6)]<|rQ (bP false) (bP (jO o m)) lH)
       (λk6=>ae [tB 44 (bB k6),ah 47 (decide ((0:Int)<1)) aG,ai 52 (decide ((1:Int)<1)) aG,.g (GC g.kind g.a g.b g.n g.cn g.cd g.kind g.a vc g.n vc vc:nn prog .eql 74 (rK o) (.agg [iP o.kind,iP o.a,iP 0,iP o.n,iP 0,iP 0]) (.bool (decide (o.kind=o.kind/\o.a=o.a/\o.b=0/\o.n=o.n/\o.cn=0/\o.cd=0))))]<|.w (o.kind=o.kind/\o.a=o.a/\o.b=0/\o.n=o.n/\o.cn=0/\o.cd=0)
        (λk7=>ae [tB 58 (bA k7),ai 61 ((1:Int)==0) aG]<|.w (0<=o.a)
         (λk8=>ae [tB 65 (bA k8)]<|.w (o.a<m)
          (λk9=>ae [tB 70 (bA k9)]<|.w (0<=o.b)
           (λk10=>ae [tB 75 (bA k10)]<|rQ (bP (decide (o.b<m))) (bP (jO o m)) lH)
           (λk10=>ae [tB 75 (bB k10)]<|rQ (bP false) (bP (jO o m)) lH))
          (λk9=>ae [tB 70 (bB k9)]<|rQ (bP false) (bP (jO o m)) lH))
         (λk8=>ae [tB 65 (bB k8)]<|rQ (bP false) (bP (jO o m)) lH))
        (λk7=>ae [tB 58 (bB k7)]<|rQ (bP false) (bP (jO o m)) lH))))
     (λk4=>ae [tB 34 (bj k4)]<|rQ (bP false) (bP (jO o m)) lH))))) 
def Wi(L:List Nat):((L.length:Int)=0)↔L=[]:=by rw[<-aqf];omega
def zB(d:RD):Bool:=!d.neg&&decide (d.L=[])&&(d.e==0)
def Hs{d:RD}:zB d=true↔d.Zero:=by simp[zB,RD.Zero,and_assoc]
def GS(d:RD):gZ 95 [rn d] (bP (zB d)):=
 ak call95 func95 (.w (d.neg=true)
  (λk1=>ae [tB 4 k1]<|rQ (bP false) (bP (zB d)) (by simp[zB,k1]))
  (λk1=>ae [tB 4 (bn k1)]<|.w ((d.L.length:Int)=0)
   (λk2=>ae [tB 10 (bk k2)]<|rQ (bP (d.e==0)) (bP (zB d)) (by simp[zB,k1,show d.L=[]from(Wi _).1 k2]))
   (λk2=>ae [tB 10 (bj k2)]<|rQ (bP false) (bP (zB d)) (by simp[zB,k1,show ¬d.L=[]from λq=>k2 ((Wi _).2 q)])))) 
def By(x:RI)(g:x.jH):gZ 49 [qo x] (bP (mz x)):=by
 have ga:=g.lo;have gb:=g.hi;by_cases ha:x.all=true
 .have nb:∀ q:x.all=false,False:=λq=>by rw[ha]at q;cases q
  by_cases h1:x.lo.Zero
  .by_cases h2:x.hi.Zero
   .rw [sD.2 (.inl ⟨ha,h1,h2⟩)];exact ak call49 func49 (af [ah 4 x.all ha,ag [rn x.lo] (GS _),ah 7 (zB x.lo) (Hs.2 h1),ag [rn x.hi] (GS _),ah 11 (zB x.hi) (Hs.2 h2)]) 
   .have e:mz x=false:=by simpa using λq=>(sD.1 q).elim (λq=>h2 q.2.2) λq=>nb q.1
    rw[e];exact ak call49 func49 (af [ah 4 x.all ha,ag [rn x.lo] (GS _),ah 7 (zB x.lo) (Hs.2 h1),ag [rn x.hi] (GS _),ai 11 (zB x.hi) (bn λq=>h2 (Hs.1 q))]) 
  .have e:mz x=false:=by simpa using λq=>(sD.1 q).elim (λq=>h1 q.2.1) λq=>nb q.1
   rw[e];exact ak call49 func49 (af [ah 4 x.all ha,ag [rn x.lo] (GS _),ai 7 (zB x.lo) (bn λq=>h1 (Hs.1 q))]) 
 .replace ha:x.all=false:=by simpa using ha
  by_cases h1:x.lo.Ok
  .by_cases h2:x.hi.Ok
   .have v1:=h1.valid;have v2:=h2.valid;have e1:qo x=ig x.iv:=by rw[<-JJ,show x.iv.raw=x by show RI.mk x.lo.dy.raw x.hi.dy.raw x.all=x;rw[h1.eq ga,h2.eq gb]]
    rw[e1];by_cases h3:jK x.lo.dy x.hi.dy<=0
    .rw [sD.2 (.inr ⟨ha,h1,h2,h3⟩)];exact ak call49 func49 (af [ai 4 x.iv.all ha,ag [ie x.iv.lo] (BB _ aF),ag [ie x.iv.hi] (BB _ aF),.c (GW x.iv.lo x.iv.hi v1.uk v2.uk),tB 27 (bA h3)]) 
    .have e:mz x=false:=by simpa using λq=>(sD.1 q).elim (λq=>by rw[ha]at q;exact Bool.noConfusion q.1) λq=>h3 q.2.2.2
     rw[e];exact ak call49 func49 (af [ai 4 x.iv.all ha,ag [ie x.iv.lo] (BB _ aF),ag [ie x.iv.hi] (BB _ aF),.c (GW x.iv.lo x.iv.hi v1.uk v2.uk),tB 27 (bB h3)]) 
   .have e:mz x=false:=by simpa using λq=>(sD.1 q).elim (λq=>by rw[ha]at q;exact Bool.noConfusion q.1) λq=>h2 q.2.2.1
    rw[e];exact ak call49 func49 (af [ai 4 x.all ha,ag [rn x.lo] (Pq _ aF _ EC),ah 15 (Kt x.lo) (EC.2 h1),ag [rn x.hi] (Pq _ aF _ EC),ai 19 (Kt x.hi) (bn λq=>h2 (EC.1 q))]) 
  .have e:mz x=false:=by simpa using λq=>(sD.1 q).elim (λq=>by rw[ha]at q;exact Bool.noConfusion q.1) λq=>h1 q.2.1
   rw[e];exact ak call49 func49 (af [ai 4 x.all ha,ag [rn x.lo] (Pq _ aF _ EC),ai 15 (Kt x.lo) (bn λq=>h1 (EC.1 q))]) 
def ajX(s:jF)(g:s.jH)(sm:s.mQ)(hc:¬(0<=s.im/\s.im<=8/\s.ib.length<=200/\s.il.length<=200/\1<=s.iD/\s.iD<=4/\(s.il.length:Int)=s.iD/\s.params.length<=4/\s.im=s.iD+(s.params.length:Int))):gZ 12 [mB s] (bP false):=by
 have sp:=sm.params;have so:=sm.il;have sq:=sm.ib;exact ak call12 func12 (.w (s.im<0)
  (λk1=>af [tB 11 (bA k1)])
  (λk1=>ae [tB 11 (bB k1)]<|.w (8<s.im)
   (λk2=>af [tB 15 (bA k2)])
   (λk2=>ae [tB 15 (bB k2)]<|.w (200<(s.ib.length:Int))
    (λk3=>af [tB 21 (bA k3)])
    (λk3=>ae [tB 21 (bB k3)]<|.w (200<(s.il.length:Int))
     (λk4=>af [tB 27 (bA k4)])
     (λk4=>ae [tB 27 (bB k4)]<|.w (s.iD<1)
      (λk5=>af [tB 32 (bA k5)])
      (λk5=>ae [tB 32 (bB k5)]<|.w (4<s.iD)
       (λk6=>af [tB 37 (bA k6)])
       (λk6=>ae [tB 37 (bB k6)]<|.w ((s.il.length:Int)=s.iD)
        (λk7=>ae [tB 45 (bq k7)]<|.w (4<(s.params.length:Int))
         (λk8=>af [tB 51 (bA k8)])
         (λk8=>ae [tB 51 (bB k8),iz (s.iD+(s.params.length:Int)) aE]<|.w (s.im=(s.iD+(s.params.length:Int)))
          (λk9=>.x (by exact absurd ⟨aE,aE,aE,aE,aE,aE,aE,aE,aE⟩ hc))
          (λk9=>af [tB 62 (bt k9)])))
        (λk7=>af [tB 45 (bt k7)])))))))) 
def ajY(s:jF)(g:s.jH)(sm:s.mQ)(i0:0<=s.im)(i8:s.im<=8)(l1:s.ib.length<=200)(l2:s.il.length<=200)(s1:1<=s.iD)(s4:s.iD<=4)(e1:(s.il.length:Int)=s.iD)(e2:s.im=s.iD+(s.params.length:Int))(p4:s.params.length<=4)(N:Nat)(mS:N<s.ib.length)(iQ:∀ k,k<N->(jO (s.ib.getD k jg) (s.im+(k:Int)))=true)(hN:(jO (s.ib.getD N jg) (s.im+(N:Int)))=false):gZ 12 [mB s] (bP false):=by
 have sp:=sm.params;have so:=sm.il;have sq:=sm.ib;exact ak call12 func12 (af [tF 11 (s.im<0) aE,tF 15 (8<s.im) aE,tF 21 (200<(s.ib.length:Int)) aE,tF 27 (200<(s.il.length:Int)) aE,tF 32 (s.iD<1) aE,tF 37 (4<s.iD) aE,ai 45 ((s.il.length:Int) != s.iD) (by simp[e1]),tF 51 (4<(s.params.length:Int)) aE,iz (s.iD+(s.params.length:Int)) aE,ai 62 (s.im != (s.iD+(s.params.length:Int))) (by simp[e2]),.s (Sp.jv (X3 s N) 0 N aE (λx hx jU=>by
    have ny:=g.ib x;exact iG (af [tT 68 ((x:Int)<s.ib.length) aE,iX (x:Int) (s.ib.length) aE,iz (s.im+(x:Int)) aE,ag [rK (s.ib.getD x jg),iP (s.im+(x:Int))] (CJ _ _ ny),ai 81 (!(jO (s.ib.getD x jg) (s.im+(x:Int)))) (by rw[iQ x aE];rfl),
     iz ((x:Int)+1) aE]) aI)
  (λhx=>by
    have ny:=g.ib N;exact iG (af [tT 68 ((N:Int)<s.ib.length) aE,iX (N:Int) (s.ib.length) aE,iz (s.im+(N:Int)) aE,ag [rK (s.ib.getD N jg),iP (s.im+(N:Int))] (CJ _ _ ny),ah 81 (!(jO (s.ib.getD N jg) (s.im+(N:Int)))) (by rw[hN];rfl)]) aI) aM:ju 5 Tryz.f12 (X3 s N 0) .ret ⟨131,true,[(2,.e (bP false))],[]⟩) .nil]) 
def ajZ(s:jF)(g:s.jH)(sm:s.mQ)(i0:0<=s.im)(i8:s.im<=8)(l1:s.ib.length<=200)(l2:s.il.length<=200)(s1:1<=s.iD)(s4:s.iD<=4)(e1:(s.il.length:Int)=s.iD)(e2:s.im=s.iD+(s.params.length:Int))(p4:s.params.length<=4)(iQ:∀ k,k<s.ib.length->(jO (s.ib.getD k jg) (s.im+(k:Int)))=true)(N:Nat)(mS:N<s.il.length)(nI:∀ k,k<N->0<=(s.il.getD k 0)/\(s.il.getD k 0)<s.im+(s.ib.length:Int))(hN:(s.il.getD N 0)<0):gZ 12 [mB s] (bP false):=by
 have sp:=sm.params;have so:=sm.il;have sq:=sm.ib;exact ak call12 func12 (af [tF 11 (s.im<0) aE,tF 15 (8<s.im) aE,tF 21 (200<(s.ib.length:Int)) aE,tF 27 (200<(s.il.length:Int)) aE,tF 32 (s.iD<1) aE,tF 37 (4<s.iD) aE,ai 45 ((s.il.length:Int) != s.iD) (by simp[e1]),tF 51 (4<(s.params.length:Int)) aE,iz (s.iD+(s.params.length:Int)) aE,ai 62 (s.im != (s.iD+(s.params.length:Int))) (by simp[e2]),.s (Sp.jv (XY s) 0 s.ib.length aE (λx hx jU=>by
    have ny:=g.ib x;exact iG (af [tT 68 ((x:Int)<s.ib.length) aE,iX (x:Int) (s.ib.length) aE,iz (s.im+(x:Int)) aE,ag [rK (s.ib.getD x jg),iP (s.im+(x:Int))] (CJ _ _ ny),ai 81 (!(jO (s.ib.getD x jg) (s.im+(x:Int)))) (by rw[iQ x aE];rfl),
     iz ((x:Int)+1) aE]) aI)
  (λhx=>by
    exact iG (af [tF 68 ((s.ib.length:Int)<s.ib.length) aE]) aI) aM:ju 5 Tryz.f12 (XY s 0) (.exit 0) ⟨131,true,[(3,.box 3 0),(1,.box 1 0)],[(3,.cells 25 [iP s.im,jS s.ib,jV s.il]),(1,.cells 28 [iP s.im,jS s.ib,jV s.il,iP s.iD,kJ s.params])]⟩) .nil,.s (Sp.jv (X4 s N) 0 N aE (λx hx jU=>by
    have Cg:=nI x aE;exact iG (af [tT 86 ((x:Int)<s.il.length) aE,iX (x:Int) (s.il.length) aE,tF 94 ((s.il.getD x 0)<0) aE,iX (x:Int) (s.il.length) aE,
     iz (s.im+(s.ib.length:Int)) aE,tF 107 ((s.im+(s.ib.length:Int))<=(s.il.getD x 0)) aE,iz ((x:Int)+1) aE]) aI)
  (λhx=>by
    exact iG (af [tT 86 ((N:Int)<s.il.length) aE,iX (N:Int) (s.il.length) aE,tB 94 (bA hN)]) aI) aM:ju 10 Tryz.f12 (X4 s N 0) .ret ⟨131,true,[(2,.e (bP false))],[]⟩) .nil]) 
def aj0(s:jF)(g:s.jH)(sm:s.mQ)(i0:0<=s.im)(i8:s.im<=8)(l1:s.ib.length<=200)(l2:s.il.length<=200)(s1:1<=s.iD)(s4:s.iD<=4)(e1:(s.il.length:Int)=s.iD)(e2:s.im=s.iD+(s.params.length:Int))(p4:s.params.length<=4)(iQ:∀ k,k<s.ib.length->(jO (s.ib.getD k jg) (s.im+(k:Int)))=true)(N:Nat)(mS:N<s.il.length)(nI:∀ k,k<N->0<=(s.il.getD k 0)/\(s.il.getD k 0)<s.im+(s.ib.length:Int))(hN:0<=(s.il.getD N 0))(hM:s.im+(s.ib.length:Int)<=(s.il.getD N 0)):gZ 12 [mB s] (bP false):=by
 have sp:=sm.params;have so:=sm.il;have sq:=sm.ib;exact ak call12 func12 (af [tF 11 (s.im<0) aE,tF 15 (8<s.im) aE,tF 21 (200<(s.ib.length:Int)) aE,tF 27 (200<(s.il.length:Int)) aE,tF 32 (s.iD<1) aE,tF 37 (4<s.iD) aE,ai 45 ((s.il.length:Int) != s.iD) (by simp[e1]),tF 51 (4<(s.params.length:Int)) aE,iz (s.iD+(s.params.length:Int)) aE,ai 62 (s.im != (s.iD+(s.params.length:Int))) (by simp[e2]),.s (Sp.jv (XZ s) 0 s.ib.length aE (λx hx jU=>by
    have ny:=g.ib x;exact iG (af [tT 68 ((x:Int)<s.ib.length) aE,iX (x:Int) (s.ib.length) aE,iz (s.im+(x:Int)) aE,ag [rK (s.ib.getD x jg),iP (s.im+(x:Int))] (CJ _ _ ny),ai 81 (!(jO (s.ib.getD x jg) (s.im+(x:Int)))) (by rw[iQ x aE];rfl),
     iz ((x:Int)+1) aE]) aI)
  (λhx=>by
    exact iG (af [tF 68 ((s.ib.length:Int)<s.ib.length) aE]) aI) aM:ju 5 Tryz.f12 (XZ s 0) (.exit 0) ⟨131,true,[(3,.box 3 0),(1,.box 1 0)],[(3,.cells 25 [iP s.im,jS s.ib,jV s.il]),(1,.cells 28 [iP s.im,jS s.ib,jV s.il,iP s.iD,kJ s.params])]⟩) .nil,.s (Sp.jv (X5 s N) 0 N aE (λx hx jU=>by
    have Cg:=nI x aE;exact iG (af [tT 86 ((x:Int)<s.il.length) aE,iX (x:Int) (s.il.length) aE,tF 94 ((s.il.getD x 0)<0) aE,iX (x:Int) (s.il.length) aE,
     iz (s.im+(s.ib.length:Int)) aE,tF 107 ((s.im+(s.ib.length:Int))<=(s.il.getD x 0)) aE,iz ((x:Int)+1) aE]) aI)
  (λhx=>by
    exact iG (af [tT 86 ((N:Int)<s.il.length) aE,iX (N:Int) (s.il.length) aE,tF 94 ((s.il.getD N 0)<0) aE,iX (N:Int) (s.il.length) aE,
    iz (s.im+(s.ib.length:Int)) aE,tB 107 (bA hM)]) aI) aM:ju 10 Tryz.f12 (X5 s N 0) .ret ⟨131,true,[(2,.e (bP false))],[]⟩) .nil]) 
def aj1(s:jF)(g:s.jH)(sm:s.mQ)(i0:0<=s.im)(i8:s.im<=8)(l1:s.ib.length<=200)(l2:s.il.length<=200)(s1:1<=s.iD)(s4:s.iD<=4)(e1:(s.il.length:Int)=s.iD)(e2:s.im=s.iD+(s.params.length:Int))(p4:s.params.length<=4)(iQ:∀ k,k<s.ib.length->(jO (s.ib.getD k jg) (s.im+(k:Int)))=true)(nI:∀ k,k<s.il.length->0<=(s.il.getD k 0)/\(s.il.getD k 0)<s.im+(s.ib.length:Int))(N:Nat)(mS:N<s.params.length)(qu:∀ k,k<N->mz (s.params.getD k jz)=true/\(s.params.getD k jz).all=false)(hN:(s.params.getD N jz).all=true):gZ 12 [mB s] (bP false):=by
 have sp:=sm.params;have so:=sm.il;have sq:=sm.ib;exact ak call12 func12 (af [tF 11 (s.im<0) aE,tF 15 (8<s.im) aE,tF 21 (200<(s.ib.length:Int)) aE,tF 27 (200<(s.il.length:Int)) aE,tF 32 (s.iD<1) aE,tF 37 (4<s.iD) aE,ai 45 ((s.il.length:Int) != s.iD) (by simp[e1]),tF 51 (4<(s.params.length:Int)) aE,iz (s.iD+(s.params.length:Int)) aE,ai 62 (s.im != (s.iD+(s.params.length:Int))) (by simp[e2]),.s (Sp.jv (X0 s) 0 s.ib.length aE (λx hx jU=>by
    have ny:=g.ib x;exact iG (af [tT 68 ((x:Int)<s.ib.length) aE,iX (x:Int) (s.ib.length) aE,iz (s.im+(x:Int)) aE,ag [rK (s.ib.getD x jg),iP (s.im+(x:Int))] (CJ _ _ ny),ai 81 (!(jO (s.ib.getD x jg) (s.im+(x:Int)))) (by rw[iQ x aE];rfl),
     iz ((x:Int)+1) aE]) aI)
  (λhx=>by
    exact iG (af [tF 68 ((s.ib.length:Int)<s.ib.length) aE]) aI) aM:ju 5 Tryz.f12 (X0 s 0) (.exit 0) ⟨131,true,[(3,.box 3 0),(1,.box 1 0)],[(3,.cells 25 [iP s.im,jS s.ib,jV s.il]),(1,.cells 28 [iP s.im,jS s.ib,jV s.il,iP s.iD,kJ s.params])]⟩) .nil,.s (Sp.jv (X6 s) 0 s.il.length aE (λx hx jU=>by
    have Cg:=nI x aE;exact iG (af [tT 86 ((x:Int)<s.il.length) aE,iX (x:Int) (s.il.length) aE,tF 94 ((s.il.getD x 0)<0) aE,iX (x:Int) (s.il.length) aE,
     iz (s.im+(s.ib.length:Int)) aE,tF 107 ((s.im+(s.ib.length:Int))<=(s.il.getD x 0)) aE,iz ((x:Int)+1) aE]) aI)
  (λhx=>by
    exact iG (af [tF 86 ((s.il.length:Int)<s.il.length) aE]) aI) aM:ju 10 Tryz.f12 (X6 s 0) (.exit 2) ⟨131,true,[(1,.box 1 0)],[(1,.cells 28 [iP s.im,jS s.ib,jV s.il,iP s.iD,kJ s.params])]⟩) .nil,.s (Sp.jv (X7 s N) 0 N aE (λx hx jU=>by
    have zD:=g.params x;exact iG (af [tT 113 ((x:Int)<s.params.length) aE,iX (x:Int) (s.params.length) aE,ai 121 ((s.params.getD x jz).all) ((qu x aE).2),
     iX (x:Int) (s.params.length) aE,ag [qo (s.params.getD x jz)] (By _ aF),ai 129 (!(mz (s.params.getD x jz))) (by rw[(qu x aE).1];rfl),
     iz ((x:Int)+1) aE]) aI)
  (λhx=>by
    have zD:=g.params N;exact iG (af [tT 113 ((N:Int)<s.params.length) aE,iX (N:Int) (s.params.length) aE,ah 121 ((s.params.getD N jz).all) hN]) aI) aM:ju 15 Tryz.f12 (X7 s N 0) .ret ⟨131,true,[(2,.e (bP false))],[]⟩) .nil]) 
def aj2(s:jF)(g:s.jH)(sm:s.mQ)(i0:0<=s.im)(i8:s.im<=8)(l1:s.ib.length<=200)(l2:s.il.length<=200)(s1:1<=s.iD)(s4:s.iD<=4)(e1:(s.il.length:Int)=s.iD)(e2:s.im=s.iD+(s.params.length:Int))(p4:s.params.length<=4)(iQ:∀ k,k<s.ib.length->(jO (s.ib.getD k jg) (s.im+(k:Int)))=true)(nI:∀ k,k<s.il.length->0<=(s.il.getD k 0)/\(s.il.getD k 0)<s.im+(s.ib.length:Int))(N:Nat)(mS:N<s.params.length)(qu:∀ k,k<N->mz (s.params.getD k jz)=true/\(s.params.getD k jz).all=false)(hN:(s.params.getD N jz).all=false)(hM:mz (s.params.getD N jz)=false):gZ 12 [mB s] (bP false):=by
 have sp:=sm.params;have so:=sm.il;have sq:=sm.ib;exact ak call12 func12 (af [tF 11 (s.im<0) aE,tF 15 (8<s.im) aE,tF 21 (200<(s.ib.length:Int)) aE,tF 27 (200<(s.il.length:Int)) aE,tF 32 (s.iD<1) aE,tF 37 (4<s.iD) aE,ai 45 ((s.il.length:Int) != s.iD) (by simp[e1]),tF 51 (4<(s.params.length:Int)) aE,iz (s.iD+(s.params.length:Int)) aE,ai 62 (s.im != (s.iD+(s.params.length:Int))) (by simp[e2]),.s (Sp.jv (X1 s) 0 s.ib.length aE (λx hx jU=>by
    have ny:=g.ib x;exact iG (af [tT 68 ((x:Int)<s.ib.length) aE,iX (x:Int) (s.ib.length) aE,iz (s.im+(x:Int)) aE,ag [rK (s.ib.getD x jg),iP (s.im+(x:Int))] (CJ _ _ ny),ai 81 (!(jO (s.ib.getD x jg) (s.im+(x:Int)))) (by rw[iQ x aE];rfl),
     iz ((x:Int)+1) aE]) aI)
  (λhx=>by
    exact iG (af [tF 68 ((s.ib.length:Int)<s.ib.length) aE]) aI) aM:ju 5 Tryz.f12 (X1 s 0) (.exit 0) ⟨131,true,[(3,.box 3 0),(1,.box 1 0)],[(3,.cells 25 [iP s.im,jS s.ib,jV s.il]),(1,.cells 28 [iP s.im,jS s.ib,jV s.il,iP s.iD,kJ s.params])]⟩) .nil,.s (Sp.jv (X8 s) 0 s.il.length aE (λx hx jU=>by
    have Cg:=nI x aE;exact iG (af [tT 86 ((x:Int)<s.il.length) aE,iX (x:Int) (s.il.length) aE,tF 94 ((s.il.getD x 0)<0) aE,iX (x:Int) (s.il.length) aE,
     iz (s.im+(s.ib.length:Int)) aE,tF 107 ((s.im+(s.ib.length:Int))<=(s.il.getD x 0)) aE,iz ((x:Int)+1) aE]) aI)
  (λhx=>by
    exact iG (af [tF 86 ((s.il.length:Int)<s.il.length) aE]) aI) aM:ju 10 Tryz.f12 (X8 s 0) (.exit 2) ⟨131,true,[(1,.box 1 0)],[(1,.cells 28 [iP s.im,jS s.ib,jV s.il,iP s.iD,kJ s.params])]⟩) .nil,.s (Sp.jv (X9 s N) 0 N aE (λx hx jU=>by
    have zD:=g.params x;exact iG (af [tT 113 ((x:Int)<s.params.length) aE,iX (x:Int) (s.params.length) aE,ai 121 ((s.params.getD x jz).all) ((qu x aE).2),
     iX (x:Int) (s.params.length) aE,ag [qo (s.params.getD x jz)] (By _ aF),ai 129 (!(mz (s.params.getD x jz))) (by rw[(qu x aE).1];rfl),
     iz ((x:Int)+1) aE]) aI)
  (λhx=>by
    have zD:=g.params N;exact iG (af [tT 113 ((N:Int)<s.params.length) aE,iX (N:Int) (s.params.length) aE,ai 121 ((s.params.getD N jz).all) hN,iX (N:Int) (s.params.length) aE,ag [qo (s.params.getD N jz)] (By _ aF),ah 129 (!(mz (s.params.getD N jz))) (by rw[hM];rfl)]) aI) aM:ju 15 Tryz.f12 (X9 s N 0) .ret ⟨131,true,[(2,.e (bP false))],[]⟩) .nil]) 
def aj3(s:jF)(g:s.jH)(sm:s.mQ)(i0:0<=s.im)(i8:s.im<=8)(l1:s.ib.length<=200)(l2:s.il.length<=200)(s1:1<=s.iD)(s4:s.iD<=4)(e1:(s.il.length:Int)=s.iD)(e2:s.im=s.iD+(s.params.length:Int))(p4:s.params.length<=4)(iQ:∀ k,k<s.ib.length->(jO (s.ib.getD k jg) (s.im+(k:Int)))=true)(nI:∀ k,k<s.il.length->0<=(s.il.getD k 0)/\(s.il.getD k 0)<s.im+(s.ib.length:Int))(qu:∀ k,k<s.params.length->mz (s.params.getD k jz)=true/\(s.params.getD k jz).all=false):gZ 12 [mB s] (bP true):=by
 have sp:=sm.params;have so:=sm.il;have sq:=sm.ib;exact ak call12 func12 (af [tF 11 (s.im<0) aE,tF 15 (8<s.im) aE,tF 21 (200<(s.ib.length:Int)) aE,tF 27 (200<(s.il.length:Int)) aE,tF 32 (s.iD<1) aE,tF 37 (4<s.iD) aE,ai 45 ((s.il.length:Int) != s.iD) (by simp[e1]),tF 51 (4<(s.params.length:Int)) aE,iz (s.iD+(s.params.length:Int)) aE,ai 62 (s.im != (s.iD+(s.params.length:Int))) (by simp[e2]),.s (Sp.jv (X2 s) 0 s.ib.length aE (λx hx jU=>by
    have ny:=g.ib x;exact iG (af [tT 68 ((x:Int)<s.ib.length) aE,iX (x:Int) (s.ib.length) aE,iz (s.im+(x:Int)) aE,ag [rK (s.ib.getD x jg),iP (s.im+(x:Int))] (CJ _ _ ny),ai 81 (!(jO (s.ib.getD x jg) (s.im+(x:Int)))) (by rw[iQ x aE];rfl),
     iz ((x:Int)+1) aE]) aI)
  (λhx=>by
    exact iG (af [tF 68 ((s.ib.length:Int)<s.ib.length) aE]) aI) aM:ju 5 Tryz.f12 (X2 s 0) (.exit 0) ⟨131,true,[(3,.box 3 0),(1,.box 1 0)],[(3,.cells 25 [iP s.im,jS s.ib,jV s.il]),(1,.cells 28 [iP s.im,jS s.ib,jV s.il,iP s.iD,kJ s.params])]⟩) .nil,.s (Sp.jv (Ya s) 0 s.il.length aE (λx hx jU=>by
    have Cg:=nI x aE;exact iG (af [tT 86 ((x:Int)<s.il.length) aE,iX (x:Int) (s.il.length) aE,tF 94 ((s.il.getD x 0)<0) aE,iX (x:Int) (s.il.length) aE,
     iz (s.im+(s.ib.length:Int)) aE,tF 107 ((s.im+(s.ib.length:Int))<=(s.il.getD x 0)) aE,iz ((x:Int)+1) aE]) aI)
  (λhx=>by
    exact iG (af [tF 86 ((s.il.length:Int)<s.il.length) aE]) aI) aM:ju 10 Tryz.f12 (Ya s 0) (.exit 2) ⟨131,true,[(1,.box 1 0)],[(1,.cells 28 [iP s.im,jS s.ib,jV s.il,iP s.iD,kJ s.params])]⟩) .nil,.s (Sp.jv (Yb s) 0 s.params.length aE (λx hx jU=>by
    have zD:=g.params x;exact iG (af [tT 113 ((x:Int)<s.params.length) aE,iX (x:Int) (s.params.length) aE,ai 121 ((s.params.getD x jz).all) ((qu x aE).2),
     iX (x:Int) (s.params.length) aE,ag [qo (s.params.getD x jz)] (By _ aF),ai 129 (!(mz (s.params.getD x jz))) (by rw[(qu x aE).1];rfl),
     iz ((x:Int)+1) aE]) aI)
  (λhx=>by
    exact iG (af [tF 113 ((s.params.length:Int)<s.params.length) aE]) aI) aM:ju 15 Tryz.f12 (Yb s 0) (.exit 4) ⟨131,true,[],[]⟩) .nil]) 
def Ak(s:jF)(g:s.jH)(sm:s.mQ):gZ 12 [mB s] (bP (nj s)):=by
 by_cases hc:0<=s.im/\s.im<=8/\s.ib.length<=200/\s.il.length<=200/\1<=s.iD/\s.iD<=4/\(s.il.length:Int)=s.iD/\s.params.length<=4/\s.im=s.iD+(s.params.length:Int)
 rotate_left
 .rw [show nj s=false from alZ hc];exact ajX s g sm hc
 obtain⟨i0,i8,l1,l2,s1,s4,e1,p4,e2⟩:=hc;by_cases c2:G3 s=true
 rotate_left
 .rw [show nj s=false by unfold nj;rw[bn c2];simp];obtain⟨N,n1,n2,n3⟩:=xP c2;exact ajY s g sm i0 i8 l1 l2 s1 s4 e1 e2 p4 N n1 (λk hk=>by simpa using n3 k hk) (by simpa using n2)
 have iQ:∀ k,k<s.ib.length->jO (s.ib.getD k jg) (s.im+(k:Int))=true:=λk hk=>cr.1 c2 k (bY.2 hk)
 by_cases c3:wF s=true
 rotate_left
 .rw [show nj s=false by unfold nj;rw[bn c3];simp];obtain⟨N,n1,n2,n3⟩:=xP c3;have nI:∀ k,k<N->0<=s.il.getD k 0/\s.il.getD k 0<s.im+(s.ib.length:Int):=λk hk=>by simpa[wC]using n3 k hk
  have hN:¬(0<=s.il.getD N 0/\s.il.getD N 0<s.im+(s.ib.length:Int)):=λq=>by
   rw[show wC s (s.il.getD N 0)=true from bA q]at n2;cases n2
  by_cases h0:s.il.getD N 0<0
  .exact ajZ s g sm i0 i8 l1 l2 s1 s4 e1 e2 p4 iQ N n1 nI h0
  .exact aj0 s g sm i0 i8 l1 l2 s1 s4 e1 e2 p4 iQ N n1 nI aE aE 
 have nI:∀ k,k<s.il.length->0<=s.il.getD k 0/\s.il.getD k 0<s.im+(s.ib.length:Int):=λk hk=>by simpa[wC]using List.all_eq_true.1 c3 k (bY.2 hk)
 by_cases c4:EG s=true
 .rw [show nj s=true by unfold nj;rw[bA (⟨i0,i8,l1,l2⟩:_/\_),c2,c3,bA (⟨s1,s4,e1,e2,p4⟩:_/\_),c4];rfl];exact aj3 s g sm i0 i8 l1 l2 s1 s4 e1 e2 p4 iQ nI λk hk=>by simpa[po]using List.all_eq_true.1 c4 k (bY.2 hk)
 .rw [show nj s=false by unfold nj;rw[bn c4];simp];obtain⟨N,n1,n2,n3⟩:=xP c4;have qu:∀ k,k<N->mz (s.params.getD k jz)=true/\(s.params.getD k jz).all=false:=λk hk=>by simpa[po]using n3 k hk
  cases ha:(s.params.getD N jz).all with
  |true=>exact aj1 s g sm i0 i8 l1 l2 s1 s4 e1 e2 p4 iQ nI N n1 qu ha
  |false=>exact aj2 s g sm i0 i8 l1 l2 s1 s4 e1 e2 p4 iQ nI N n1 qu ha (by
   cases hk:mz (s.params.getD N jz)with
   |false=>rfl
   |true=>rw[show po (s.params.getD N jz)=true by unfold po;rw[hk,ha];rfl]at n2;cases n2)
def akk(s:jF)(g:s.jH)(sm:s.mQ)(b:List RI)(gb:∀ i,(b.getD i jz).jH)(rV:b.length<=1000)(hs:nj s=false):gZ 31 [mB s,kJ b] (bP false):=
 ak call31 func31 (af [ag [mB s] (Ak _ g sm),ah 8 (!(nj s)) (by rw[hs];rfl)]) 
def akl(s:jF)(g:s.jH)(sm:s.mQ)(b:List RI)(gb:∀ i,(b.getD i jz).jH)(rV:b.length<=1000)(hs:nj s=true)(hl:¬(b.length:Int)=s.iD):gZ 31 [mB s,kJ b] (bP false):=
 ak call31 func31 (af [ag [mB s] (Ak _ g sm),ai 8 (!(nj s)) (by rw[hs];rfl),ah 14 ((b.length:Int) != s.iD) (by simpa using hl)]) 
def akm(s:jF)(g:s.jH)(sm:s.mQ)(b:List RI)(gb:∀ i,(b.getD i jz).jH)(rV:b.length<=1000)(hs:nj s=true)(hl:(b.length:Int)=s.iD)(N:Nat)(mS:N<b.length)(qu:∀ k,k<N->mz (b.getD k jz)=true/\(b.getD k jz).all=false)(hN:(b.getD N jz).all=true):gZ 31 [mB s,kJ b] (bP false):=
 ak call31 func31 (af [ag [mB s] (Ak _ g sm),ai 8 (!(nj s)) (by rw[hs];rfl),ai 14 ((b.length:Int) != s.iD) (by simp[hl]),.s (Sp.jv (Xo s b N) 0 N aE (λx hx jU=>by
    have zD:=gb x;exact iG (af [tT 19 ((x:Int)<b.length) aE,iX (x:Int) (b.length) aE,ai 26 ((b.getD x jz).all) ((qu x aE).2),iX (x:Int) (b.length) aE,ag [qo (b.getD x jz)] (By _ aF),ai 33 (!(mz (b.getD x jz))) (by rw[(qu x aE).1];rfl),iz ((x:Int)+1) aE]) aI)
  (λhx=>by
    have zD:=gb N;exact iG (af [tT 19 ((N:Int)<b.length) aE,iX (N:Int) (b.length) aE,ah 26 ((b.getD N jz).all) hN]) aI) aM:ju 4 Tryz.f31 (Xo s b N 0) .ret ⟨35,true,[(4,.e (bP false))],[]⟩) .nil]) 
def akn(s:jF)(g:s.jH)(sm:s.mQ)(b:List RI)(gb:∀ i,(b.getD i jz).jH)(rV:b.length<=1000)(hs:nj s=true)(hl:(b.length:Int)=s.iD)(N:Nat)(mS:N<b.length)(qu:∀ k,k<N->mz (b.getD k jz)=true/\(b.getD k jz).all=false)(hN:(b.getD N jz).all=false)(hM:mz (b.getD N jz)=false):gZ 31 [mB s,kJ b] (bP false):=
 ak call31 func31 (af [ag [mB s] (Ak _ g sm),ai 8 (!(nj s)) (by rw[hs];rfl),ai 14 ((b.length:Int) != s.iD) (by simp[hl]),.s (Sp.jv (Xp s b N) 0 N aE (λx hx jU=>by
    have zD:=gb x;exact iG (af [tT 19 ((x:Int)<b.length) aE,iX (x:Int) (b.length) aE,ai 26 ((b.getD x jz).all) ((qu x aE).2),iX (x:Int) (b.length) aE,ag [qo (b.getD x jz)] (By _ aF),ai 33 (!(mz (b.getD x jz))) (by rw[(qu x aE).1];rfl),iz ((x:Int)+1) aE]) aI)
  (λhx=>by
    have zD:=gb N;exact iG (af [tT 19 ((N:Int)<b.length) aE,iX (N:Int) (b.length) aE,ai 26 ((b.getD N jz).all) hN,iX (N:Int) (b.length) aE,ag [qo (b.getD N jz)] (By _ aF),ah 33 (!(mz (b.getD N jz))) (by rw[hM];rfl)]) aI) aM:ju 4 Tryz.f31 (Xp s b N 0) .ret ⟨35,true,[(4,.e (bP false))],[]⟩) .nil]) 
def ako(s:jF)(g:s.jH)(sm:s.mQ)(b:List RI)(gb:∀ i,(b.getD i jz).jH)(rV:b.length<=1000)(hs:nj s=true)(hl:(b.length:Int)=s.iD)(qu:∀ k,k<b.length->mz (b.getD k jz)=true/\(b.getD k jz).all=false):gZ 31 [mB s,kJ b] (bP true):=
 ak call31 func31 (af [ag [mB s] (Ak _ g sm),ai 8 (!(nj s)) (by rw[hs];rfl),ai 14 ((b.length:Int) != s.iD) (by simp[hl]),.s (Sp.jv (Xq s b) 0 b.length aE (λx hx jU=>by
    have zD:=gb x;exact iG (af [tT 19 ((x:Int)<b.length) aE,iX (x:Int) (b.length) aE,ai 26 ((b.getD x jz).all) ((qu x aE).2),iX (x:Int) (b.length) aE,ag [qo (b.getD x jz)] (By _ aF),ai 33 (!(mz (b.getD x jz))) (by rw[(qu x aE).1];rfl),iz ((x:Int)+1) aE]) aI)
  (λhx=>by
    exact iG (af [tF 19 ((b.length:Int)<b.length) aE]) aI) aM:ju 4 Tryz.f31 (Xq s b 0) (.exit 0) ⟨35,true,[],[]⟩) .nil]) 
noncomputable def rP(s:jF)(b:List RI):Bool:=nj s&&xQ s.iD b
def Xr(s:jF)(g:s.jH)(sm:s.mQ)(b:List RI)(gb:∀ i,(b.getD i jz).jH)(rV:b.length<=1000):gZ 31 [mB s,kJ b] (bP (rP s b)):=by
 unfold rP;cases hs:nj s with
 |false=>exact akk s g sm b gb rV hs
 |true=>
  rw[eA];by_cases hl:(b.length:Int)=s.iD
  rotate_left
  .rw [show xQ s.iD b=false by unfold xQ;rw[bB hl];rfl];exact akl s g sm b gb rV hs hl
  by_cases c4:((List.range b.length).all λi=>po (b.getD i jz))=true
  .rw [show xQ s.iD b=true by unfold xQ;rw[bA hl,c4];rfl];exact ako s g sm b gb rV hs hl λk hk=>by simpa[po]using List.all_eq_true.1 c4 k (bY.2 hk)
  .rw [show xQ s.iD b=false by unfold xQ;rw[bn c4];simp];obtain⟨N,n1,n2,n3⟩:=xP c4;have qu:∀ k,k<N->mz (b.getD k jz)=true/\(b.getD k jz).all=false:=λk hk=>by simpa[po]using n3 k hk
   cases ha:(b.getD N jz).all with
   |true=>exact akm s g sm b gb rV hs hl N n1 qu ha
   |false=>exact akn s g sm b gb rV hs hl N n1 qu ha (by
    cases hk:mz (b.getD N jz)with
    |false=>rfl
    |true=>rw[show po (b.getD N jz)=true by unfold po;rw[hk,ha];rfl]at n2;cases n2)
def sC(d:RD):Bool:=decide (20<d.L.length)||(decide (300<d.e)||decide (d.e < -300))
def Ac(x:RI):Bool:=sC x.lo||sC x.hi
def tL(l:List RI):Bool:=decide (l.length<=8) && !((List.range l.length).any λi=>Ac (l.getD i jz))
def PQ{l:List RI}(h:tL l=true):l.length<=8:=by
 unfold tL at h;rw[ch,cS]at h;exact h.1
end Go.Proofs.YtkjkcjhacddojaaGreatDoor
namespace Go.Proofs.YtkjkcjhacddojaaGreatDoor.Fp
end Go.Proofs.YtkjkcjhacddojaaGreatDoor.Fp
namespace Go.Proofs.YtkjkcjhacddojaaGreatDoor
open Go.RowKit Fp Pu
def q7(t:kF):Prop:=∀ i,(t.ib.getD i iB).kind<=8
section
variable {s:kB} {x x' b b':List Iv} {h h':Dy} {p n:Nat}
end
def Qp(w:World)(L:List Nat)(e:Ending)(w':World):Prop:=∃ A c,e = .returned (.slice A L.length c)/\Sl w' A c L/\iJ w w'/\∀ b o s,A=some ⟨b,o,s⟩->w.heap.size<=b
def Ow.YW{w:World}{base:Nat}{v:Value}{L:List Nat}(h:Ow w base v L):∃ A c,v = .slice A L.length c/\Sl w A c L/\∀ b o s,A=some ⟨b,o,s⟩->base<=b:=by
 obtain⟨A,c,h1,h2⟩:=h.sl;refine⟨A,c,h1,h2,λb o s e=>?_⟩;rcases h.row.2 with⟨h3,_⟩|⟨g,cap,cur,h3,hb,_⟩
 .rw [h1,e]at h3;injection h3 with h3;cases h3
 .rw [h1,e]at h3;injection h3 with h3;cases h3;exact hb
def amT{B br:Nat->Prop}{w w':World}{A:Option Addr}{c:Nat}{L:List Nat}(hB:∀ b,B b->b<w.heap.size)(h:Sl w' A c L)(hf:∀ b o s,A=some ⟨b,o,s⟩->w.heap.size<=b):iN B br w' (ic L) (.slice A L.length c):=by
 refine .sl false L.length 1 _ A c (λi _=>.int .u32 (L.getD i 0:Int)) h.cap h.qx h.xw (λi j _ _=>⟨rfl,λh=>by cases h⟩) (λi j _ _=>rfl) (λi j hi hj=>?_) (λi j _ _=>.v _);obtain rfl:j=0:= aE ;obtain⟨b,o,e1,iL,mf⟩:=h.lR hi;have e2:L.getD i 0=L[i]:=by simp[bD,hi]
 refine⟨b,o,e1,λyg=>?_,iL,by rw[cz,bT,mf,e2]⟩;have:=hB b yg;have:=hf _ _ _ e1;omega
abbrev wM(f:FuncId)(args:List E)(ko:E):Prop:=BN prog Tb f args ko
def ajE{f:FuncId}{L M:List Nat}(hk:iK L)(hc:∀ (vs:Array Value) (w:World),(callFunc f vs).run prog w = .ok (.enter f vs) w)
 (H:∀ A c w,Sl w A c L->Tb w->Calls prog f #[.slice A L.length c] w (Qp w M)):wM f [ic L] (ic M):=by
 refine⟨hc,λw B vs hK hB hr=>?_⟩;obtain⟨v1,vs,rfl,h1,hr⟩:=hr.mI;obtain rfl:=hr.qm;obtain⟨A,c,rfl,s1⟩:=vd hk h1;refine(H A c w s1 hK).mono λe w' ⟨A,c,q1,q2,q3,q4⟩=>⟨_,q1,q3,amT hB q2 q4⟩
def ak6(A:Option Addr)(c:Nat)(L:List Nat)(w:World)(hs:Sl w A c L)(hlen:L.length<=100000000):
 Calls prog 311 #[.slice A L.length c] w (Qp w (ix L)):=by
 have hc:=hs.cap;have hl:=hs.qx;have fin:∀ k:Nat,k=(ix L).length->Hid (ix L=L.take k):=λk hk=>by rw[hk];exact Hh L
 go_enter func311,ntmps311;go_wp2;go_loop [3] (λi=>∃ k:Nat,k<=L.length/\i = .int .i64 k/\mC L=mC (L.take k)) (λi=>(intOf i).toNat)
 case atStart=>exact⟨L.length,bC _,rfl,aK⟩
 case round=>
  obtain⟨k,hk,rfl,ht⟩:=hrel;have HT:=aqG ht;clear ht;have lW:([]:List Nat).length+(L.take k).length<=10000000000:=by rw[cJ];simp;omega
  have HK:=aqG (show k=(L.take k).length by rw[cJ];omega);have h1:=Ow.empty w w.heap.size (bC _);have h2:=(hs.take k).alloc (.cells #[] 150);have h3:=qw (w:=w) (bC _) (.cells #[] 150);by_cases h0:0<k
  .obtain ⟨ab,ao,rfl,hb,Cp⟩:=hs.lR (i:=k-1) aE ;have e1:((k:Int)-1).toNat=k-1:= aE ;have Z:=aqG (KL L (k-1) aE);have NZ:=aqG (KK L (k-1) aE);rw[fB h0]at Z NZ;generalize L[k-1]=x at *
   by_cases hx:x=0
   .have Hx:=aqG hx;clear hx;have hb:((x:Int)==0)=true:=by have:=Hx.out;simp;omega
    clear fin;go_wp2;go_round
    case rel=>exact⟨k-1,aE,by go_num,by rw[HT.out,Z.out Hx.out]⟩
    case measure=>simp[intOf];omega
   .have hb:((x:Int)==0)=false:= aS ;have F:=fin k (by show k=mC L;rw[HT.out,NZ.out hx]);clear fin;go_wp2_with (at_builtin;go_must (refine rp aJ _ _ aJ w.heap.size _ [] aJ h1 _ _ _ (L.take k) aJ HK.out h2 lW h3 ?_);intro v' w' pd hg pD)
    obtain⟨A',c',rfl,oi,Na⟩:=pd.YW;go_ret;rw[F.out];exact⟨A',c',rfl,oi,(iJ.alloc _ _).grown hg (qw (bC _) _) (λk hk=>by simp[Value.ownBlock]at hk;omega),Na⟩
  .have:k=0:= aE ;subst this;have F:=fin 0 (by show 0=mC L;rw[HT.out];rfl);clear fin;go_wp2_with (at_builtin;go_must (refine rp aJ _ _ aJ w.heap.size _ [] aJ h1 _ _ _ (L.take 0) aJ HK.out h2 lW h3 ?_);intro v' w' pd hg pD)
   obtain⟨A',c',rfl,oi,Na⟩:=pd.YW;go_ret;rw[F.out];exact⟨A',c',rfl,oi,(iJ.alloc _ _).grown hg (qw (bC _) _) (λk hk=>by simp[Value.ownBlock]at hk;omega),Na⟩
def yN(L:List Nat)(hk:iK L)(hl:L.length<=100000):wM 311 [ic L] (ic (ix L)):=
 ajE hk call311 λA c w h _=>ak6 A c L w h aE 
end Go.Proofs.YtkjkcjhacddojaaGreatDoor
