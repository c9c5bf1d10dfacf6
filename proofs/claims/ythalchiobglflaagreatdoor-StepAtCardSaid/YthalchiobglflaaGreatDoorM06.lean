/- At answers with the Taylor enclosure and Rest with the rest, made of the layers below, or with the specified errors. -/
import Derived.Test.YthalchiobglflaaGreatDoorM05
import Derived.LoopN
set_option linter.unusedSimpArgs false
set_option linter.unusedVariables false
set_option linter.defProp false
set_option maxHeartbeats 4000000
open Go.Proofs.Tryz
open Bool renaming true->aa,false->ac
open Option renaming some->al,none->am
open Go renaming World->ap,Value->av,TypeId->ay
open Go.World renaming cell?->aC
open Go.Value renaming slice->aH,ownBlock->bf
open Nat renaming beq->a2
open List renaming range->be
open Array renaming replicate->bi
namespace Go.Proofs.YthalchiobglflaaGreatDoor
open Go.RowKit Fp Pu
section
variable(n d y:Nat)
def kr:Nat:=n*2^y/d
def mI:Nat:=n*2^y%d
def Qh:n*2^(y+1)=d*(2*kr n d y)+2*mI n d y:=by
 have:=cH (n*2^y) d;unfold kr mI;rw[bI,<-bM,dp];omega
end
def aj4{n d y}(x:0<d)(h:2*mI n d y<d):mI n d (y+1)=2*mI n d y/\kr n d (y+1)=2*kr n d y:=by
 constructor
 .conv=>lhs;unfold mI
  rw[Qh n d y,ey,bY h]
 .conv=>lhs;unfold kr
  rw[Qh n d y,dQ x,cG h,bV]
def aj5{n d y}(x:0<d)(h:¬2*mI n d y<d):mI n d (y+1)=2*mI n d y-d/\kr n d (y+1)=2*kr n d y+1:=by
 have r:mI n d y<d:=bO _ x;have e:n*2^(y+1)=d*(2*kr n d y+1)+(2*mI n d y-d):=by
  rw[Qh n d y,bW,cr];omega
 constructor
 .conv=>lhs;unfold mI
  rw[e,ey,bY U]
 .conv=>lhs;unfold kr
  rw[e,dQ x,cG U,bV]
def XC{n d}(k:1<=n)(z:1<=d)(i:d<=1073741824)p:∃ K,K<p+31/\(∀ y,y<K->H (kr n d y)<p)/\p<=H (kr n d K):=by
 have u:p<=H (kr n d<|p+30):=by
  refine dK<|vC.2 ?_;unfold kr;rw[dz z,bC];have x:2^p*d<=2^p*2^30:=cR _ U;have h:=bX (2^p*2^30) k;rw[bU]at h;exact bF x h
 have⟨K,x,h,v⟩:=si (n:=p+31) (p:=λy=>decide (p<=H (kr n d y))) ⟨p+30,U,bu u⟩;exact⟨K,x,λy t=>by have:=fk<|v y t;omega,cS h⟩
def q8(r m x:Nat):Bool:=decide (r=0)&&decide (m%2^x=0)
def GA{r m x}:q8 r m x=aa↔r=0/\m%2^x=0:=by
 unfold q8;rw[bN,cK,cK]
def aj1(r m:Nat):((r:Int)==0)=q8 r m 0:=by
 rw[dW,GA,cA,dq,ik];omega
section
variable{r m x:Nat}
def ajZ(h:q8 r m x=ac):q8 r m (x+1)=ac:=by
 refine bh λq=>?_
 rw[GA]at q;have y:=Ny m x;have k:m%2^x=0:= U ;rw[GA.2 ⟨q.1,k⟩]at h;cases h
def aj0(h:q8 r m x=aa)(b:m/2^x%2=0):q8 r m (x+1)=aa:=by
 rw[GA]at h ⊢;refine⟨h.1,?_⟩;rw[Ny,b,h.2,cV]
def ajY(h:¬m/2^x%2=0):q8 r m (x+1)=ac:=by
 refine bh λq=>?_
 rw[GA]at q;have z:=Ny m x;have y:m/2^x%2*2^x=0:= U ;rcases awW.1 y with k|k
 .exact h k
 .exact absurd k<|eE<|bG aG
end
section
variable(n d p K:Nat)
def mH:Nat:=H (kr n d K)-p
def kK:Nat:=kr n d K/2^mH n d p K
def pF:Int:=(0-(K:Int))+(mH n d p K:Int)
end
def ad6{x y c:Rat}(k:0<c):x<=y↔x*c<=y*c:=
 ⟨λh=>cO h<|b9 k,λh=>fJ h k⟩
section
variable {a n d l K:Nat}
def acH(x:1<=d):0<(d:Rat)*P2 (K:Int)/\(n:Rat)/(d:Rat)*((d:Rat)*P2 (K:Int))=((n*2^K:Nat):Rat):=by
 have h:(0:Rat)<(d:Rat):=gO.2 U;refine⟨eJ h<|oZ _,?_⟩;rw[<-fj,eh aP,yG,<-dC]
def acg:(a:Rat)*P2 ((0-(K:Int))+(l:Int))*((d:Rat)*P2 (K:Int))=((a*2^l*d:Nat):Rat):=by
 have e:P2 ((0-(K:Int))+(l:Int))*P2 (K:Int)=((2^l:Nat):Rat):=by
  rw[<-sK,(U:0-(K:Int)+l+K=(l:Int)),yG]
 rw[dC,dC,<-e]
 grind
def S4(h:1<=d):(a:Rat)*P2 ((0-(K:Int))+(l:Int))<=(n:Rat)/(d:Rat)↔a*2^l*d<=n*2^K:=by
 have⟨x,k⟩:=acH (n:=n) (K:=K) h;rw[ad6 x,k,acg,dO]
def TE(h:1<=d):(n:Rat)/(d:Rat)<=(a:Rat)*P2 ((0-(K:Int))+(l:Int))↔n*2^K<=a*2^l*d:=by
 have⟨x,k⟩:=acH (n:=n) (K:=K) h;rw[ad6 x,k,acg,dO]
end
section
variable {n d p K:Nat}
def Mk(h:p<=H (kr n d K)):H (kK n d p K)=p:=by
 unfold kK mH;rw[V7 U];omega
def Qi(k:1<=d)(u:n<=1073741824)(b:p<=H (kr n d K))(y:1<=p):mH n d p K<=31+K:=by
 unfold mH;have h:kr n d K<=n*2^K:=b6 _ _;have x:n*2^K<2^(31+K):=by
  rw[bC];exact dk U<|bG aG
 have:=mo.2<|cB h x;omega
def XA(m:1<=d):kK n d p K*2^mH n d p K*d<=n*2^K/\n*2^K<(kK n d p K+1)*2^mH n d p K*d/\(q8 (mI n d K) (kr n d K) (mH n d p K)=aa↔n*2^K=kK n d p K*2^mH n d p K*d):=by
 have x:=cH (n*2^K) d;have z:=bO (n*2^K) (U:0<d);change d*kr n d K+mI n d K=n*2^K at x;change mI n d K<d at z;have y:=cH (kr n d K)<|2^mH n d p K;have u:=bO (kr n d K) (bG (n:=mH n d p K)<|show 0<2 by decide);change 2^mH n d p K*kK n d p K+kr n d K%2^mH n d p K=kr n d K at y;rw[GA,<-x];generalize kr n d K=M at *
 generalize mI n d K=R at *
 generalize kK n d p K=T at *
 generalize 2^mH n d p K=q at *
 generalize M%q=s at *
 subst y;have e:T*q*d=d*(q*T):=by rw[bL,bL T]
 have v:(T+1)*q*d=d*(q*T)+d*q:=by rw[bT,bU,bT,e,bL q d]
 have t:d*(q*T+s)=d*(q*T)+d*s:=bW _ _ _;have l:d*s+d<=d*q:=by
  have:=cR d u;rw[Nat.succ_eq_add_one,bW,cr]at this;exact this
 rw[e,v,t];refine⟨U,U,?_⟩;constructor
 .rintro ⟨rfl,rfl⟩;simp
 .intro h;have r:d*s=0:= U ;refine⟨U,?_⟩;rcases awW.1 r with k|k
  .omega
  .exact k
variable (k:1<=n) (u:n<=1073741824) (y:1<=d) (h:8<=p) (i:p<=512) (x:K<p+31) (z:p<=H (kr n d K))
include u y h i x z
def XO:Dn p ((n:Rat)/(d:Rat)) (canon ac (kK n d p K)<|pF n d p K) 0:=by
 have h:=Qi y u z U;have⟨b,x,_⟩:=XA (n:=n) (d:=d) (p:=p) (K:=K) y;refine ao8 (Mk z) U aX aX ((S4 y).2 b) ?_;apply Rat.not_le.1;intro q;have:=(S4 y).1 q;omega
def XP:Up p ((n:Rat)/(d:Rat)) (if q8 (mI n d K) (kr n d K) (mH n d p K)=aa then canon ac (kK n d p K) (pF n d p K)else canon ac (kK n d p K+1) (pF n d p K)) 0:=by
 have l:=Qi y u z U;have⟨x,k,b⟩:=XA (n:=n) (d:=d) (p:=p) (K:=K) y;split
 .rename_i h;have h:=b.1 h;exact akx (Mk z) aX aX<|eN ((TE y).2 U)<|(S4 y).2 U
 .rename_i h;have h:¬n*2^K=kK n d p K*2^mH n d p K*d:=λq=>h (b.2 q)
  refine apa (Mk z) U aX aX ?_ ((TE y).2 U);apply Rat.not_le.1;intro q;have:=(TE y).1 q;omega
end
section
variable{p:Nat}{v:Rat}{D:Dy}{E:Int}
def au2(h:Up p v D E):Dn p (-v) (ji D) E:=
 ⟨λe=>⟨by rw[qM];exact(h.1 e).1.neg,by rw[qM];have:=(h.1 e).2;grind⟩,λg x R=>by
  have⟨a,b⟩:=h.2 (-g) x.neg aP;exact⟨a,by rw[qM];grind⟩⟩
def ajH(h:Dn p v D E):Up p (-v) (ji D) E:=
 ⟨λe=>⟨by rw[qM];exact(h.1 e).1.neg,by rw[qM];have:=(h.1 e).2;grind⟩,λg x R=>by
  have⟨a,b⟩:=h.2 (-g) x.neg aP;exact⟨a,by rw[qM];grind⟩⟩
end
def Ua{n d p}(s:8<=p)(i:p<=512)(r:nJ n d=aa){l h}(k:Dn p ((n:Rat)/(d:Rat)) l 0)(y:Up p ((n:Rat)/(d:Rat)) h 0)(c:l.nj)(z:h.nj):qj n d p=⟨l,h,ac⟩:=by
 have⟨q,_⟩:=KH r;have x:(jF d).m≠0:=Sc U;have⟨A,B⟩:=P9 (a:=jF n) (b:=jF d) x (p:=p) U U;rw[BD,BD]at A B;have⟨e,u⟩:=ajI k A c (Mf x U U _).canon;have⟨v,t⟩:=au3 y B z (Mf x U U _).canon;unfold qj;rw[bt r,e,u,v,t];rfl
def asx{d p}(x:8<=p)(i:p<=512)(r:nJ 0 d=aa):qj 0 d p=⟨kq,kq,ac⟩:=by
 have z:((0:Int):Rat)/(d:Rat)=0:=by rw[di,show((0:Int):Rat)=0 from rfl,awz]
 refine Ua x i r ?_ ?_ tY.canon tY.canon
 .rw [z];exact⟨λ_=>⟨by rw[uA];exact .inl<|AN p,by rw[uA];exact cP⟩,λg _ h=>⟨rfl,by rw[uA];exact h⟩⟩
 .rw [z];exact⟨λ_=>⟨by rw[uA];exact .inl<|AN p,by rw[uA];exact cP⟩,λg _ h=>⟨rfl,by rw[uA];exact h⟩⟩
section
variable {n d p K:Nat}
section
variable(k:n<=1073741824)(y:1<=d)(x:8<=p)(i:p<=512)(z:K<p+31)(b:p<=H (kr n d K))
def asw(h:nJ (n:Int) (d:Int)=aa):
 qj (n:Int) (d:Int) p=⟨canon ac (kK n d p K)<|pF n d p K,if q8 (mI n d K) (kr n d K) (mH n d p K)=aa then canon ac (kK n d p K) (pF n d p K)else canon ac (kK n d p K+1) (pF n d p K),ac⟩:=by
 refine Ua x i h (XO k y x i z b) (XP k y x i z b) (tC _ _ _) ?_;split<;>exact tC _ _ _
def asv(h:nJ (-(n:Int)) (d:Int)=aa):
 qj (-(n:Int)) (d:Int) p=⟨ji<|if q8 (mI n d K) (kr n d K) (mH n d p K)=aa then canon ac (kK n d p K) (pF n d p K)else canon ac (kK n d p K+1) (pF n d p K),ji<|canon ac (kK n d p K)<|pF n d p K,ac⟩:=by
 have e:((-(n:Int):Int):Rat)/((d:Int):Rat) = -((n:Rat)/(d:Rat)):=by
  rw[iw,di,di,ix];rfl
 refine Ua x i h ?_ ?_ (Hh ?_) (Hh<|tC _ _ _)
 .rw [e];exact au2<|XP k y x i z b
 .rw [e];exact ajH<|XO k y x i z b
 .split<;>exact tC _ _ _
end
end
def ach(v:Nat)(N:Nat)(x:Nat):PS:=⟨29,ac,[(4,.e<|D x),(3,.own 5)],[(5,.row ac 110 ((iy v).length) 1<|jW<|me 0 v x (iy v).length)]⟩
def aci(v:Nat)(x:Nat):PS:=⟨29,ac,[(4,.e<|D x),(3,.own 5)],[(5,.row ac 110 ((iy v).length) 1<|jW<|me 0 v x (iy v).length)]⟩
def XG(n d p:Nat)(x:Nat):PS:=⟨130,aa,[(11,.e<|D<|63-(x:Int)),(10,.e<|D 0),(9,.e<|.v<|.int .u64 (ju n d 64 x:Int)),(8,.e<|F<|iy<|mg n d 64 x),(7,.box 7 0),(6,.box 6 0),(0,.e<|.v<|.int .u64 (n:Int)),(1,.e<|.v<|.int .u64 (d:Int)),(2,.e<|D p)],[(7,.cells 31 ar),(6,.cells 31 ar)]⟩
def XH(n d p:Nat)(y:Nat):PS:=⟨130,aa,[(10,.e<|D<|0-(y:Int)),(9,.e<|.v<|.int .u64 (mI n d y:Int)),(8,.e<|F<|iy<|kr n d y),(7,.box 7 0),(6,.box 6 0),(1,.e<|.v<|.int .u64 (d:Int)),(2,.e<|D p)],[(7,.cells 31 ar),(6,.cells 31 ar)]⟩
def XI(n d p K:Nat)(y:Nat):PS:=⟨130,ac,[(15,.own 15),(16,.e<|D ((32*y:Nat):Int)),(14,.e<|I<|(mI n d K:Int)==0),(13,.e<|D (mH n d p K:Int)),(10,.e<|D<|0-(K:Int)),(8,.e<|F<|iy<|kr n d K),(7,.box 7 0),(6,.box 6 0),(2,.e<|D p)],[(15,.row ac 110 y 1<|jW<|jr (kK n d p K) y),(7,.cells 31 ar),(6,.cells 31 ar)]⟩
section
variable(n d p K y:Nat)(k:Nat)
def XJ:PS:=⟨130,ac,[(18,.e<|D k),(17,.e<|.v<|.int .u32 (((Q (kK n d p K) y)%2^k:Nat):Int)),(15,.own 15),(16,.e<|D ((32*y:Nat):Int)),(14,.e<|I<|(mI n d K:Int)==0),(13,.e<|D (mH n d p K:Int)),(10,.e<|D<|0-(K:Int)),(8,.e<|F<|iy<|kr n d K),(7,.box 7 0),(6,.box 6 0),(2,.e<|D p)],[(15,.row ac 110 y 1<|jW<|jr (kK n d p K) y),(7,.cells 31 ar),(6,.cells 31 ar)]⟩
def XK:PS:=⟨130,ac,[(18,.e<|D k),(17,.e<|.v<|.int .u32 (((Q (kK n d p K) y)%2^k:Nat):Int)),(15,.own 15),(16,.e<|D ((32*y:Nat):Int)),(14,.e<|I<|(mI n d K:Int)==0),(13,.e<|D (mH n d p K:Int)),(10,.e<|D<|0-(K:Int)),(8,.e<|F<|iy<|kr n d K),(7,.box 7 0),(6,.box 6 0),(2,.e<|D p)],[(15,.row ac 110 y 1<|jW<|jr (kK n d p K) y),(7,.cells 31 ar),(6,.cells 31 ar)]⟩
end
def XL(n d p K:Nat)(x:Nat):PS:=⟨130,aa,[(19,.e<|D x),(15,.e<|F<|iy<|kK n d p K),(14,.e<|I<|q8 (mI n d K) (kr n d K) x),(13,.e<|D (mH n d p K:Int)),(10,.e<|D<|0-(K:Int)),(8,.e<|F<|iy<|kr n d K),(7,.box 7 0),(6,.box 6 0)],[(7,.cells 31 ar),(6,.cells 31 ar)]⟩
def adQ{T n y L z}(u:n=0+L.length)(w:y=L.length)(h:z=L):Bx.le (.row ac T n 1 λx k=>if x<0 then(λx k=>([]:List E).getD (x*1+k)<|.v<|.bool ac) x k else(E.lO<|F L) (x-0) k)<|.row ac T y 1<|jW z:=by
 subst h;refine .row U λi j v t=>?_
 simp only[bD,bE,dI];exact⟨.jB rfl,rfl⟩
def ags{L n}(k:n=0+L.length):E.le (.sl ac n 1 λh x=>if h<0 then(λh x=>([]:List E).getD (h*1+x)<|.v<|.bool ac) h x else(E.lO<|F L) (h-0) x)<|F L:=by
 rw[<-Ei (U:n=L.length)];refine .sl λi j y z=>?_
 simp only[bD,bE,dI];exact⟨.jB rfl,rfl⟩
def apb{f v}(h:v=0):E.le (.sl aa 0 1 f)<|F<|iy v:=by
 subst h;rw[pj];intro b r w v k;cases k with
 |sl _ _ _ _ A c g y z u t s q p=>exact .sl ac 0 1 _ A c g y z u (λi j x=>absurd x<|bD i) (λi j x=>absurd x<|bD i) (λi j x=>absurd x<|bD i) λi j x=>absurd x<|bD i
def anZ{L M}{n p z:Nat}(u:n=L.length)(y:p<L.length)(s:L.set p z=M):E.le (.sl ac n 1 λk x=>if k=p/\0<=x/\x<0+1 then[.v<|.int .u32 (z:Int)].getD (x-0) .any else(jW L) k x)<|F M:=by
 subst s;have e:n=(L.set p z).length:=by rw[de];omega
 rw[<-Ei e];refine .sl λi j v t=>?_
 obtain rfl:j=0:= U ;by_cases h:i=p
 .subst h;simp only[ib,bA,awU,bK,ct];exact⟨.jB<|by show _=E.v (.int .u32 (((L.set i z).getD i 0:Nat):Int));rw[bB (l:=L.set i z),List.getElem?_set_self y];rfl,rfl⟩
 .simp only[h,gz,bE];exact⟨.jB<|by show E.v (.int .u32 (L.getD i 0:Int))=E.v (.int .u32 (((L.set p z).getD i 0:Nat):Int));rw[bB,bB,awp λq=>h q.symm],rfl⟩
def anW{N l n L}(y:n=l+1)(z:jr N (l+1)=L)(u:Q N l=1):E.le (.sl ac n 1 λx k=>if x<l then(jW<|jr N l) x k else(E.lO<|F<|iy 1) (x-l) k)<|F L:=by
 subst y z;rw[<-Ei (ot N<|l+1).symm];refine .sl λi j v t=>?_
 obtain rfl:j=0:= U ;by_cases h:i<l
 .simp only[h,bK];exact⟨.jB<|by unfold jW;rw[wQ h,wQ],rfl⟩
 .obtain rfl:i=l:= U ;simp only[dL,bE,dm];exact⟨.jB<|by show E.v (.int .u32 (((iy 1).getD 0 0:Nat):Int))=_;unfold jW;rw[wQ,u,aa3];rfl,rfl⟩
section
variable(v:Nat)(s:(iy v).length<=1000000)
def ao6 N(z:N<(iy v).length)(u:∀ k,k<N->Q v k=4294967295)(d:Q v N≠4294967295):iB 281 [F<|iy v]<|F<|iy<|v+1:=by
 have V:=rU v N;exact pL (Y [.bo,.a (U:(0+(iy v).length)*4<=140737488355328),.s (Sp.jL (ach v N) 0 N U (λx t r=>by
    have s:=u x U;exact iU (Y [tT 11 ((x:Int)<((iy v).length:Int)) U,iX (x:Int)<|(iy v).length,.a (U:x<(iy v).length),.o 17<|.int (k:=.u32) (by rw[Ke]:(((me 0 v x (iy v).length).getD x 0:Nat):Int)=(Q v x:Int)),.o 18<|.int (k:=.u32) (by rw[s,EF];rfl:(IntKind.u32.wrap<|(Q v x:Int)+1)=(Q 0 x:Int)),iX (x:Int)<|(iy v).length,.a (U:x<(iy v).length),
     iX (x:Int) ((iy v).length),.a (U:x<(iy v).length),.o 23 (.e<|.jB aK:aj ((λi j=>if i=x/\0<=j/\j<0+1 then[.v<|.int .u32 (Q 0 x:Int)].getD (j-0) .any else(jW<|me 0 v x (iy v).length) i j) x 0)<|.v<|.int .u32 (Q 0 x:Int)),S 24<|FC<|EF x,iN<|(x:Int)+1]<|.e<|af [.b 5 (Ib rfl a7 NG:Bx.le (.row ac 110 ((iy v).length) 1 λi j=>if i=x/\0<=j/\j<0+1 then[.v<|.int .u32 (Q 0 x:Int)].getD (j-0) .any else(jW<|me 0 v x (iy v).length) i j)<|.row ac 110 ((iy v).length) 1<|jW<|me 0 v (x+1) (iy v).length)]) aI)
  (λt=>by
    exact iU (af [tT 11 ((N:Int)<((iy v).length:Int)) U,iX (N:Int)<|(iy v).length,.a (U:N<(iy v).length),.o 17<|.int (k:=.u32) (by rw[Ke]:(((me 0 v N (iy v).length).getD N 0:Nat):Int)=(Q v N:Int)),.o 18<|.int (k:=.u32) (by rw[IntKind.wrap_u32];omega:(IntKind.u32.wrap<|(Q v N:Int)+1)=((Q v N+1:Nat):Int)),iX (N:Int)<|(iy v).length,.a (U:N<(iy v).length),
    iX (N:Int) ((iy v).length),.a (U:N<(iy v).length),.o 23 (.e<|.jB aK:aj ((λi j=>if i=N/\0<=j/\j<0+1 then[.v<|.int .u32 ((Q v N+1:Nat):Int)].getD (j-0) .any else(jW<|me 0 v N (iy v).length) i j) N 0)<|.v<|.int .u32 ((Q v N+1:Nat):Int)),ah 24 (((Q v N+1:Nat):Int) != 0)<|Km U]) aI) aM:jK 3 f281 (ach v N 0) .ret ⟨29,ac,[(2,.own 5)],[(5,.row ac 110 ((iy v).length) 1 λi j=>if i=N/\0<=j/\j<0+1 then[.v<|.int .u32 ((Q v N+1:Nat):Int)].getD (j-0) .any else(jW<|me 0 v N (iy v).length) i j)]⟩)<|af [.b 5 (adQ rfl rfl (by rw[Kf,P8]):Bx.le (.row ac 110 (0+(iy v).length) 1 λh y=>if h<0 then(λh y=>([]:List E).getD (h*1+y)<|.v<|.bool ac) h y else(E.lO<|F<|iy v) (h-0) y)<|.row ac 110 ((iy v).length) 1<|jW<|me 0 v 0 (iy v).length)]]<|rR (F<|iy<|v+1) (anZ (by rw[yh]) (by rw[yh];exact z)<|ao9 z u d:E.le (.sl ac ((iy v).length) 1 λi j=>if i=N/\0<=j/\j<0+1 then[.v<|.int .u32 ((Q v N+1:Nat):Int)].getD (j-0) .any else(jW<|me 0 v N (iy v).length) i j)<|F<|iy<|v+1))
def ao4(z:∀ k,k<(iy v).length->Q v k=4294967295):iB 281 [F<|iy v]<|F<|iy<|v+1:=by
 have⟨u,t,s⟩:=ao7 z;have G:(me 0 v ((iy v).length) (iy v).length)=jr (v+1) (iy v).length:=by rw[NF<|bA _,u]
 have n:(iy 1).length=1:=by rw[aa3];rfl
 exact pL (Y [.bo,.a (U:(0+(iy v).length)*4<=140737488355328),.s (Sp.jL (aci v) 0 ((iy v).length) U (λx r p=>by
    have q:=z x U;exact iU (Y [tT 11 ((x:Int)<((iy v).length:Int)) U,iX (x:Int)<|(iy v).length,.a (U:x<(iy v).length),.o 17<|.int (k:=.u32) (by rw[Ke]:(((me 0 v x (iy v).length).getD x 0:Nat):Int)=(Q v x:Int)),.o 18<|.int (k:=.u32) (by rw[q,EF];rfl:(IntKind.u32.wrap<|(Q v x:Int)+1)=(Q 0 x:Int)),iX (x:Int)<|(iy v).length,.a (U:x<(iy v).length),
     iX (x:Int) ((iy v).length),.a (U:x<(iy v).length),.o 23 (.e<|.jB aK:aj ((λy j=>if y=x/\0<=j/\j<0+1 then[.v<|.int .u32 (Q 0 x:Int)].getD (j-0) .any else(jW<|me 0 v x (iy v).length) y j) x 0)<|.v<|.int .u32 (Q 0 x:Int)),S 24<|FC<|EF x,iN<|(x:Int)+1]<|.e<|af [.b 5 (Ib rfl a7 NG:Bx.le (.row ac 110 ((iy v).length) 1 λy j=>if y=x/\0<=j/\j<0+1 then[.v<|.int .u32 (Q 0 x:Int)].getD (j-0) .any else(jW<|me 0 v x (iy v).length) y j)<|.row ac 110 ((iy v).length) 1<|jW<|me 0 v (x+1) (iy v).length)]) aI)
  (λr=>by
    exact iU (Y [tF 11 (((iy v).length:Int)<((iy v).length:Int)) U]<|.e<|af [.b 5 (.jB<|by rw[G]:Bx.le (.row ac 110 ((iy v).length) 1<|jW<|me 0 v ((iy v).length) (iy v).length)<|.row ac 110 ((iy v).length) 1<|jW<|jr (v+1) (iy v).length)]) aI) aM:jK 3 f281 (aci v 0) (.exit 0) ⟨29,ac,[(3,.own 5)],[(5,.row ac 110 ((iy v).length) 1<|jW<|jr (v+1) (iy v).length)]⟩)<|af [.b 5 (adQ rfl rfl (by rw[Kf,P8]):Bx.le (.row ac 110 (0+(iy v).length) 1 λi h=>if i<0 then(λi h=>([]:List E).getD (i*1+h)<|.v<|.bool ac) i h else(E.lO<|F<|iy v) (i-0) h)<|.row ac 110 ((iy v).length) 1<|jW<|me 0 v 0 (iy v).length)],.o 27<|.e uR,.a (U:((iy v).length+(iy 1).length)*4<=140737488355328)]<|rR (F<|iy<|v+1) (anW U s t:E.le (.sl ac ((iy v).length+(iy 1).length) 1 λi h=>if i<(iy v).length then(jW<|jr (v+1) (iy v).length) i h else(E.lO<|F<|iy 1) (i-(iy v).length) h)<|F<|iy<|v+1))
def ao5:iB 281 [F<|iy v]<|F<|iy<|v+1:=by
 by_cases h:∃ k,k<(iy v).length/\decide (Q v k≠4294967295)=aa
 .have⟨N,y,z,u⟩:=si h;exact ao6 v s N y (λk x=>b8 λq=>by have:=fk<|u k x;exact this q)<|cS z
 .exact ao4 v s λk x=>b8 λq=>h ⟨k,x,bu q⟩
end
section
variable(d:Dy)
def aoW(h:d.m≠0):(Dy.mk (!d.neg) d.m d.e)=ji d:=by unfold ji;simp[h]
def aoX(x:d.nj)(h:d.m=0):d=ji d:=by
 have:=x;have⟨s,m,e⟩:=d;simp only at h;subst h;have z:=NX x (Hh x) (by rw[qM,sV];simp);exact z
def aoZ(h:d.m≠0):iB 228 [iJ d]<|iJ<|ji d:=
 iL (Y [tT 6 (0<((iy d.m).length:Int)) (by have:¬(iy d.m).length=0:=λq=>h<|sF.1 q;omega)]<|V (iJ<|Dy.mk (!d.neg) d.m d.e) (iJ<|ji d)<|by rw[aoW d h])
def aoY(x:d.nj)(h:d.m=0):iB 228 [iJ d]<|iJ<|ji d:=
 iL (Y [tF 6 (0<((iy d.m).length:Int))<|by have:=sF.2 h;omega]<|V (iJ d) (iJ<|ji d)<|by rw[<-aoX d x h])
def abY(x:d.nj):iB 228 [iJ d]<|iJ<|ji d:=by
 by_cases h:d.m=0
 .exact aoY d x h
 .exact aoZ d h
end
def aj2{n x:Nat}(h:n<18446744073709551616)(y:x<64):bits .and .u64 ((n:Int)/2^(63-(x:Int)).toNat) 1=(jU n 64 x:Int):=by
 have e:(63-(x:Int)).toNat=64-1-x:= U ;have k:(n:Int)/2^(64-1-x)=((n/2^(64-1-x):Nat):Int):= aK ;rw[e,k,show(1:Int)=((1:Nat):Int)from rfl,UH _ _ (cB (b6 _ _) h) aG,awl];rfl
section
variable{n d y:Nat}(z:n<=1073741824)
def Xz:H (kr n d y)<=31+y/\H (2*kr n d y)<=32+y:=by
 have h:=b6 (n*2^y) d;constructor
 .refine mo.2<|cB h ?_;rw[bC];exact dk U<|bG aG
 .have x:2*kr n d y<=2*n*2^y:=by unfold kr;rw[bM];omega
  refine mo.2<|cB x ?_;rw[bC];exact dk U<|bG aG
def I2(h:y<=1000):(iy<|kr n d y).length<=100:=by
 have x:=(Xz (d:=d) (y:=y) z).1;have k:=J7 (w:=kr n d y) (y:=100);omega
def aj3(h:y<=999):(iy<|2*kr n d y).length<=100:=by
 have x:=(Xz (d:=d) (y:=y) z).2;have k:=J7 (w:=2*kr n d y) (y:=100);omega
end
def aeO{v}(h:v<18446744073709551616):(iy v).length<=2:=uc h
def aj6{T p y}(k:H T=p)(h:p-32*y<32):Q T y<2^(p-32*y):=by
 have x:=qW T;rw[k]at x;unfold Q;refine cB (ef _ _) ?_;rw[cC<|pw y,pI,<-bC];exact bJ x<|bR aG U
def aj7{T p Y}(x:H T=p)(u:1<=p)(v:Y=(p+31)/32):jr T Y=iy T:=by
 apply J8;have h:∀ y,y<(iy T).length↔32*y<H T:=λy=>J7
 have k:=h Y;have z:=h<|Y-1;rw[x]at k z;omega
def XB{n d p K y k}(h:k<32):kr n d K/2^((mH n d p K+32*y)+k)%2=Q (kK n d p K) y/2^k%2:=by
 rw[Xc h];unfold kK;rw[df,<-bC,cU]
section
variable(n d p K:Nat)(h:1<=n)(W:n<=1073741824)(hd:1<=d)(v:d<=1073741824)(x:8<=p)(i:p<=512)(k:K<p+31)(jk:∀ y,y<K->H (kr n d y)<p)(J:p<=H (kr n d K))
def akg zv(o:zv=(p+31)/32):iB 227 [.v<|.int .u64 (n:Int),.v<|.int .u64 (d:Int),D p]<|.iO [iJ<|canon ac (kK n d p K)<|pF n d p K,iJ<|if(q8 (mI n d K) (kr n d K)<|mH n d p K)=aa then canon ac (kK n d p K) (pF n d p K)else canon ac ((kK n d p K)+1) (pF n d p K)]:=by
 have e:=Xv (a:=n) (b:=d) (n:=64) U;have c:mg n d 64 64=kr n d 0/\ju n d 64 64=mI n d 0:=by
  have⟨a,b⟩:=Xr n d 64;rw[a,b];unfold kr mI;rw[cA,cr];exact⟨rfl,rfl⟩
 have u:=Mk J;have v:=aj7 u U o;have L:=Qi hd W J U;have X:=I2 (d:=d) (y:=K) W U;have Z:(kK n d p K)≠0:=λq=>by rw[q,tZ]at u;omega
 have R:(iy<|kK n d p K).length<=100:=by
  have:=J7 (w:=(kK n d p K)) (y:=100);omega
 have zy:(iy<|(kK n d p K)+1).length<=101:=by
  have G:=yg R;refine uc ?_;rw[bI];omega
 have z3:mH n d p K=H (kr n d K)-p:=rfl;exact iL (Y [.s (Sp.jL (XG n d p) 0 64 U (λx t z0=>by
    have z1:(ju n d 64 x)<d:=bO _ U;have O:=Mg n 64 x;have C:(mg n d 64 x)<=n:=bF (b6 _ _)<|b6 _ _;have B:=aeO (show(mg n d 64 x)<18446744073709551616 by omega);have z4:=aeO (U:2*(mg n d 64 x)<18446744073709551616);exact iU (Y [tT 23 (0<=(63-(x:Int))) U,rp<|2*(ju n d 64 x:Int),.a (U:0<=((63-(x:Int)):Int)/\((63-(x:Int)):Int)<=((64:Nat):Int)),.o 31 (.int<|aj2 U U:aj (.v<|.int .u64<|bits .and .u64 ((n:Int)/2^((63-(x:Int))).toNat) 1)<|.v<|.int .u64 (jU n 64 x:Int)),
     rp (((2*(ju n d 64 x):Nat):Int)+(jU n 64 x:Int)),.a (U:0<((d:Int):Int)),rp (((2*(ju n d 64 x))+(jU n 64 x):Nat):Int),.a (U:0<((d:Int):Int)),.bo,.bo,.a (U:(0+(iy<|mg n d 64 x).length)*4<=140737488355328),.o 41 (.e<|ags rfl:aj (.sl ac (0+(iy<|mg n d 64 x).length) 1 λi j=>if i<0 then(λi j=>([]:List E).getD (i*1+j)<|.v<|.bool ac) i j else(E.lO<|F<|iy<|mg n d 64 x) (i-0) j)<|F<|iy<|mg n d 64 x),.c<|aeC (mg n d 64 x) U]<|.w (((2*(ju n d 64 x))+(jU n 64 x))<d)
     (λh=>by
      have m:((2*(ju n d 64 x))+(jU n 64 x))%d=((2*(ju n d 64 x))+(jU n 64 x)):=by rw[bY h]
      have r:((2*(ju n d 64 x))+(jU n 64 x))/d=0:=cG h;have s:=Xs (a:=n) (b:=d) (n:=64) (x:=x) U U h;exact Y [tN 44 ((((2*(ju n d 64 x))+(jU n 64 x))/d:Nat):Int) 1,iN<|(63-(x:Int))-1]<|.e<|af [.o 11<|oI ((63-(x:Int))-1)<|63-((x+1:Nat):Int),.o 9<|.int (k:=.u64) (by rw[s.1,m]:((((2*(ju n d 64 x))+(jU n 64 x))%d:Nat):Int)=(ju n d 64<|x+1:Int)),.o 8 (.e<|.jB<|by rw[s.2]:aj (F<|iy<|2*(mg n d 64 x))<|F<|iy<|mg n d 64<|x+1)])
     (λh=>by
      have m:((2*(ju n d 64 x))+(jU n 64 x))%d=((2*(ju n d 64 x))+(jU n 64 x))-d:=by rw[Nat.mod_eq_sub_mod U,bY U]
      have r:((2*(ju n d 64 x))+(jU n 64 x))/d=1:=by rw[Nat.div_eq_sub_div U U,cG U]
      have s:=Xt (a:=n) (b:=d) (n:=64) (x:=x) U U h;exact Y [tE 44 ((((2*(ju n d 64 x))+(jU n 64 x))/d:Nat):Int) 1,.c<|aez (2*(mg n d 64 x)) U U,iN<|(63-(x:Int))-1]<|.e<|af [.o 11<|oI ((63-(x:Int))-1)<|63-((x+1:Nat):Int),.o 9<|.int (k:=.u64) (by rw[s.1,m]:((((2*(ju n d 64 x))+(jU n 64 x))%d:Nat):Int)=(ju n d 64<|x+1:Int)),.o 8 (.e<|.jB<|by rw[s.2]:aj (F<|iy<|(2*(mg n d 64 x))+1)<|F<|iy<|mg n d 64<|x+1)])) aI)
  (λt=>by
    exact iU (af [tF 23 (0<=(63-((64:Nat):Int))) U]) aI) aM:jK 5 f227 (XG n d p 0) (.exit 0) ⟨130,aa,[(10,.e<|D 0),(9,.e<|.v<|.int .u64 (ju n d 64 64:Int)),(8,.e<|F<|iy<|mg n d 64 64),(7,.box 7 0),(6,.box 6 0),(1,.e<|.v<|.int .u64 (d:Int)),(2,.e<|D p)],[(7,.cells 31 ar),(6,.cells 31 ar)]⟩)<|af [.o 11<|oI 63<|63-((0:Nat):Int),.o 9<|.int (k:=.u64) (by rw[e.1];rfl:0=(ju n d 64 0:Int)),.o 8 (.e<|apb e.2:aj (.sl aa 0 1 λi j=>[].getD (i*1+j)<|.v<|.bool ac)<|F<|iy<|mg n d 64 0)],.s (Sp.jL (XH n d p) 0 K U (λy l A=>by
    have B:=I2 (d:=d) (y:=y) W U;have z4:=aj3 (d:=d) (y:=y) W U;have P:=jk y U;have zu:(mI n d y)<d:=bO _ U;exact iU (Y [.c<|LP (kr n d y) U,tT 50 ((H<|kr n d y:Int)<p) U,rp<|2*(mI n d y:Int),.c<|aeC (kr n d y) U]<|.w (2*mI n d y<d)
     (λh=>by
      have s:=aj4 (n:=n) (d:=d) (y:=y) U h;exact Y [tF 57 ((d:Int)<=((2*(mI n d y):Nat):Int)) U,iN<|(0-(y:Int))-1]<|.e<|af [.o 10<|oI ((0-(y:Int))-1)<|0-((y+1:Nat):Int),.o 9<|.int (k:=.u64) (by rw[s.1]:((2*(mI n d y):Nat):Int)=(mI n d<|y+1:Int)),.o 8 (.e<|.jB<|by rw[s.2]:aj (F<|iy<|2*(kr n d y))<|F<|iy<|kr n d<|y+1)])
     (λh=>by
      have s:=aj5 (n:=n) (d:=d) (y:=y) U h;exact Y [tT 57 ((d:Int)<=((2*(mI n d y):Nat):Int)) U,rp<|((2*(mI n d y):Nat):Int)-d,.o 60<|.int (k:=.u64) (U:(((2*(mI n d y):Nat):Int)-d)=((2*mI n d y-d:Nat):Int)),.c<|aez (2*(kr n d y)) U U,iN<|(0-(y:Int))-1]<|.e<|af [.o 10<|oI ((0-(y:Int))-1)<|0-((y+1:Nat):Int),.o 9<|.int (k:=.u64) (by rw[s.1]:((2*mI n d y-d:Nat):Int)=(mI n d<|y+1:Int)),.o 8 (.e<|.jB<|by rw[s.2]:aj (F<|iy<|(2*(kr n d y))+1)<|F<|iy<|kr n d<|y+1)])) aI)
  (λl=>by
    have B:=I2 (d:=d) (y:=K) W U;exact iU (af [.c<|LP (kr n d K) U,tF 50 ((H<|kr n d K:Int)<p) U]) aI) aM:jK 13 f227 (XH n d p 0) (.exit 2) ⟨130,ac,[(10,.e<|D<|0-(K:Int)),(9,.e<|.v<|.int .u64 (mI n d K:Int)),(8,.e<|F<|iy<|kr n d K),(7,.box 7 0),(6,.box 6 0),(2,.e<|D p)],[(7,.cells 31 ar),(6,.cells 31 ar)]⟩)<|af [.o 10<|oI 0<|0-((0:Nat):Int),.o 9<|.int (k:=.u64) (by rw[c.2]:(ju n d 64 64:Int)=(mI n d 0:Int)),.o 8 (.e<|.jB<|by rw[c.1]:aj (F<|iy<|mg n d 64 64)<|F<|iy<|kr n d 0)],.c<|LP (kr n d K) U,iN<|(H<|kr n d K:Int)-p,.o 68<|oI ((H<|kr n d K:Int)-p) (mH n d p K:Int),.y 15 15 ac 110 1<|jW<|jr (kK n d p K) 0,.s (Sp.jL (XI n d p K) 0 zv U (λy l A=>by
    have zx:=rU (kK n d p K) y;have B:=I2 (d:=d) (y:=K) W U;exact iU (Y [tT 73 (((32*y:Nat):Int)<p) U]<|.w (32<=p-32*y)
     (λN=>by
      have g:(((Q (kK n d p K) y)%2^32:Nat):Int)=(Q (kK n d p K) y:Int):=by rw[bY zx]
      exact Y [.s (Sp.jL (XJ n d p K y) 0 32 U (λk f z2=>by
    exact iU (af [tT 77 ((k:Int)<32) U,iN<|((32*y:Nat):Int)+k,tT 83 ((((32*y)+k:Nat):Int)<p) U,
     iN ((mH n d p K:Int)+((32*y:Nat):Int)),iN<|(((mH n d p K)+(32*y):Nat):Int)+k,.c<|LO (kr n d K) (((mH n d p K)+(32*y))+k) U U,.o 94<|oI (((kr n d K)/2^(((mH n d p K)+(32*y))+k)%2:Nat):Int) (((Q (kK n d p K) y)/2^k%2:Nat):Int)<|by rw[XB U],.o 95<|.int (k:=.u32) (by rw[IntKind.wrap_u32];omega:(IntKind.u32.wrap (((Q (kK n d p K) y)/2^k%2:Nat):Int))=(((Q (kK n d p K) y)/2^k%2:Nat):Int)),.a (U:0<=((k:Int):Int)/\((k:Int):Int)<=((32:Nat):Int)),.o 97 (.int<|Ul U U:aj (.v<|.int .u32<|IntKind.u32.wrap<|(((Q (kK n d p K) y)/2^k%2:Nat):Int)*2^k)<|.v<|.int .u32 ((((Q (kK n d p K) y)/2^k%2)*2^k:Nat):Int)),.o 98 (.int<|To U zx:aj (.v<|.int .u32<|bits .or .u32 (((Q (kK n d p K) y)%2^k:Nat):Int) ((((Q (kK n d p K) y)/2^k%2)*2^k:Nat):Int))<|.v<|.int .u32 (((Q (kK n d p K) y)%2^(k+1):Nat):Int)),
     iN ((k:Int)+1)]) aI)
  (λf=>by
    exact iU (af [tF 77 ((32:Int)<32) U]) aI) aM:jK 28 f227 (XJ n d p K y 0) (.exit 6) ⟨130,ac,[(83,.e<|.v<|.tuple #[]),(82,.e<|.v<|.tuple #[]),(81,.e<|.v<|.tuple #[]),(80,.e<|.v<|.tuple #[]),(79,.e<|.v<|.tuple #[]),(17,.e<|.v<|.int .u32 (((Q (kK n d p K) y)%2^32:Nat):Int)),(15,.own 15),(16,.e<|D ((32*y:Nat):Int)),(14,.e<|I<|(mI n d K:Int)==0),(13,.e<|D (mH n d p K:Int)),(10,.e<|D<|0-(K:Int)),(8,.e<|F<|iy<|kr n d K),(7,.box 7 0),(6,.box 6 0),(2,.e<|D p)],[(15,.row ac 110 y 1<|jW<|jr (kK n d p K) y),(7,.cells 31 ar),(6,.cells 31 ar)]⟩)<|af [.o 17<|.int (k:=.u32) (by rw[cA,dq];rfl:0=(((Q (kK n d p K) y)%2^0:Nat):Int))],.a (U:(y+1)*4<=140737488355328),iN<|((32*y:Nat):Int)+32]<|.e<|af [.o 16<|oI (((32*y)+32:Nat):Int) ((32*(y+1):Nat):Int),.b 15<|DQ (T:=110) rfl g])
     (λN=>by
      have g:(((Q (kK n d p K) y)%2^(p-32*y):Nat):Int)=(Q (kK n d p K) y:Int):=by rw[bY<|aj6 u U]
      exact Y [.s (Sp.jL (XK n d p K y) 0 (p-32*y) U (λk f z2=>by
    exact iU (af [tT 77 ((k:Int)<32) U,iN<|((32*y:Nat):Int)+k,tT 83 ((((32*y)+k:Nat):Int)<p) U,
     iN ((mH n d p K:Int)+((32*y:Nat):Int)),iN<|(((mH n d p K)+(32*y):Nat):Int)+k,.c<|LO (kr n d K) (((mH n d p K)+(32*y))+k) U U,.o 94<|oI (((kr n d K)/2^(((mH n d p K)+(32*y))+k)%2:Nat):Int) (((Q (kK n d p K) y)/2^k%2:Nat):Int)<|by rw[XB U],.o 95<|.int (k:=.u32) (by rw[IntKind.wrap_u32];omega:(IntKind.u32.wrap (((Q (kK n d p K) y)/2^k%2:Nat):Int))=(((Q (kK n d p K) y)/2^k%2:Nat):Int)),.a (U:0<=((k:Int):Int)/\((k:Int):Int)<=((32:Nat):Int)),.o 97 (.int<|Ul U U:aj (.v<|.int .u32<|IntKind.u32.wrap<|(((Q (kK n d p K) y)/2^k%2:Nat):Int)*2^k)<|.v<|.int .u32 ((((Q (kK n d p K) y)/2^k%2)*2^k:Nat):Int)),.o 98 (.int<|To U zx:aj (.v<|.int .u32<|bits .or .u32 (((Q (kK n d p K) y)%2^k:Nat):Int) ((((Q (kK n d p K) y)/2^k%2)*2^k:Nat):Int))<|.v<|.int .u32 (((Q (kK n d p K) y)%2^(k+1):Nat):Int)),
     iN ((k:Int)+1)]) aI)
  (λf=>by
    exact iU (af [tT 77 (((p-32*y:Nat):Int)<32) U,iN<|((32*y:Nat):Int)+((p-32*y:Nat):Int),tF 83 ((((32*y)+(p-32*y):Nat):Int)<p) U]) aI) aM:jK 28 f227 (XK n d p K y 0) (.exit 6) ⟨130,ac,[(83,.e<|I ac),(82,.e<|D p),(81,.e<|D (((32*y)+(p-32*y):Nat):Int)),(80,.e<|D ((p-32*y:Nat):Int)),(79,.e<|D ((32*y:Nat):Int)),(17,.e<|.v<|.int .u32 (((Q (kK n d p K) y)%2^(p-32*y):Nat):Int)),(15,.own 15),(16,.e<|D ((32*y:Nat):Int)),(14,.e<|I<|(mI n d K:Int)==0),(13,.e<|D (mH n d p K:Int)),(10,.e<|D<|0-(K:Int)),(8,.e<|F<|iy<|kr n d K),(7,.box 7 0),(6,.box 6 0),(2,.e<|D p)],[(15,.row ac 110 y 1<|jW<|jr (kK n d p K) y),(7,.cells 31 ar),(6,.cells 31 ar)]⟩)<|af [.o 17<|.int (k:=.u32) (by rw[cA,dq];rfl:0=(((Q (kK n d p K) y)%2^0:Nat):Int))],.a (U:(y+1)*4<=140737488355328),iN<|((32*y:Nat):Int)+32]<|.e<|af [.o 16<|oI (((32*y)+32:Nat):Int) ((32*(y+1):Nat):Int),.b 15<|DQ (T:=110) rfl g])) aI)
  (λl=>by
    exact iU (Y [tF 73 (((32*zv:Nat):Int)<p) U,.z 15]<|.e<|af [.o 15 (.e<|.jB<|by rw[Ei (ot _ _).symm,v]:aj (.sl ac zv 1<|jW<|jr (kK n d p K) zv)<|F<|iy<|kK n d p K)]) aI) aM:jK 24 f227 (XI n d p K 0) (.exit 4) ⟨130,aa,[(15,.e<|F<|iy<|kK n d p K),(14,.e<|I<|(mI n d K:Int)==0),(13,.e<|D (mH n d p K:Int)),(10,.e<|D<|0-(K:Int)),(8,.e<|F<|iy<|kr n d K),(7,.box 7 0),(6,.box 6 0)],[(7,.cells 31 ar),(6,.cells 31 ar)]⟩)<|af [.o 16<|oI 0 ((32*0:Nat):Int)],.s (Sp.jL (XL n d p K) 0 (mH n d p K) U (λx t z0=>by
    have B:=I2 (d:=d) (y:=K) W U;exact iU (Y [tT 105 ((x:Int)<(mH n d p K:Int)) U]<|.w ((q8 (mI n d K) (kr n d K) x)=aa)
     (λh=>Y [S 108 h,.c<|LO (kr n d K) x U U]<|.w ((kr n d K)/2^x%2=0)
      (λM=>Y [tE 113 (((kr n d K)/2^x%2:Nat):Int) 0,iN<|(x:Int)+1]<|.e<|af [.o 14 (.bool (aj0 h M).symm:aj (I aa)<|I<|q8 (mI n d K) (kr n d K)<|x+1)])
      (λM=>Y [tN 113 (((kr n d K)/2^x%2:Nat):Int) 0,iN<|(x:Int)+1]<|.e<|af [.o 14 (.bool (ajY M).symm:aj (I ac)<|I<|q8 (mI n d K) (kr n d K)<|x+1)]))
     (λh=>Y [S 108<|bh h,iN<|(x:Int)+1]<|.e<|af [.o 14 (.bool (ajZ<|bh h).symm:aj (I ac)<|I<|q8 (mI n d K) (kr n d K)<|x+1)])) aI)
  (λt=>by
    exact iU (af [tF 105 ((mH n d p K:Int)<(mH n d p K:Int)) U]) aI) aM:jK 33 f227 (XL n d p K 0) (.exit 8) ⟨130,aa,[(15,.e<|F<|iy<|kK n d p K),(14,.e<|I<|q8 (mI n d K) (kr n d K)<|mH n d p K),(13,.e<|D (mH n d p K:Int)),(10,.e<|D<|0-(K:Int)),(7,.box 7 0),(6,.box 6 0)],[(7,.cells 31 ar),(6,.cells 31 ar)]⟩)<|af [.o 14 (.bool<|aj1 _ _:aj (I<|(mI n d K:Int)==0)<|I<|q8 (mI n d K) (kr n d K) 0)],
  iN ((0-(K:Int))+(mH n d p K:Int)),.c<|abe (kK n d p K) ((0-(K:Int))+(mH n d p K:Int)) U U U U]<|.w (q8 (mI n d K) (kr n d K) (mH n d p K)=aa)
  (λz=>Y [S 120 z]<|V (.iO [iJ<|canon ac (kK n d p K)<|(0-(K:Int))+(mH n d p K:Int),iJ<|canon ac (kK n d p K)<|(0-(K:Int))+(mH n d p K:Int)]) (.iO [iJ<|canon ac (kK n d p K)<|pF n d p K,iJ<|if(q8 (mI n d K) (kr n d K)<|mH n d p K)=aa then canon ac (kK n d p K) (pF n d p K)else canon ac ((kK n d p K)+1) (pF n d p K)]) (by(rw[bt z])<;>rfl))
  (λz=>Y [S 120<|bh z,.c<|ao5 (kK n d p K) U,iN<|(0-(K:Int))+(mH n d p K:Int),.c<|abe ((kK n d p K)+1) ((0-(K:Int))+(mH n d p K:Int)) U U U U]<|V (.iO [iJ<|canon ac (kK n d p K)<|(0-(K:Int))+(mH n d p K:Int),iJ<|canon ac ((kK n d p K)+1)<|(0-(K:Int))+(mH n d p K:Int)]) (.iO [iJ<|canon ac (kK n d p K)<|pF n d p K,iJ<|if(q8 (mI n d K) (kr n d K)<|mH n d p K)=aa then canon ac (kK n d p K) (pF n d p K)else canon ac ((kK n d p K)+1) (pF n d p K)]) (by(rw[bn z])<;>rfl)))
def XN:
 iB 227 [.v<|.int .u64 (n:Int),.v<|.int .u64 (d:Int),D p] (.iO [iJ<|canon ac (kK n d p K)<|pF n d p K,iJ<|if(q8 (mI n d K) (kr n d K)<|mH n d p K)=aa then canon ac (kK n d p K) (pF n d p K)else canon ac ((kK n d p K)+1) (pF n d p K)]):=by
 exact akg n d p K h W hd v x i k jk J _ rfl
end
def avE:E.le (.agg au)<|O ⟨kq,kq,ac⟩:=
 .agg (.cons (.refl _)<|.cons D0<|.cons (.refl _)<|.cons (.refl _)<|.cons D0<|.cons (.refl _)<|.cons (.refl _) .nil)
def akc d(p:Nat)(h:nJ 0 d=aa)(x:8<=p)(i:p<=512):iB 169 [.agg [D 0,D d],D p]<|O<|qj 0 d p:=by
 rw[asx x i h];exact iL<|Y [.c<|N7 0 d,ai 9 (!(nJ 0 d))<|by rw[h];rfl,tF 12 ((p:Int)<8) U,tF 16 (512<(p:Int)) U,tE 21 0 0]<|rR (O<|Iv.mk kq kq ac) (avE:E.le (.agg au)<|O<|Iv.mk kq kq ac)
section
variable(n d p K:Nat)(t:1<=n)(u:n<=1073741824)(x:1<=d)(s:d<=1073741824)(z:8<=p)(i:p<=512)(v:K<p+31)(j:∀ y,y<K->H (kr n d y)<p)(b:p<=H (kr n d K))
def akb(h:nJ (n:Int) (d:Int)=aa):iB 169 [.agg [D n,D d],D p]<|O<|qj (n:Int) (d:Int) p:=by
 rw[asw u x z i v b h];exact iL<|af [.c<|N7 (n:Int) (d:Int),ai 9 (!(nJ (n:Int) (d:Int)))<|by rw[h];rfl,tF 12 ((p:Int)<8) U,tF 16 (512<(p:Int)) U,tN 21 (n:Int) 0,.c<|Us (n:Int) U U,.o 26<|.int (k:=.u64) (U:(Int.natAbs (n:Int):Int)=n),.o 29<|.int (k:=.u64)<|rS d,ag [.v<|.int .u64 (n:Int),.v<|.int .u64 (d:Int),D p]<|XN _ _ _ K t u x s z i v j b,tF 36 ((n:Int)<0) U]
def aj9(h:nJ (-(n:Int)) (d:Int)=aa):iB 169 [.agg [D (-(n:Int)),D d],D p]<|O<|qj (-(n:Int)) (d:Int) p:=by
 have B:(canon ac (kK n d p K)<|pF n d p K).nj:=tC _ _ _;have c:(if(q8 (mI n d K) (kr n d K)<|mH n d p K)=aa then canon ac (kK n d p K) (pF n d p K)else canon ac ((kK n d p K)+1) (pF n d p K)).nj:=by split<;>exact tC _ _ _
 rw[asv u x z i v b h];exact iL<|af [.c<|N7 (- (n:Int)) (d:Int),ai 9 (!(nJ (-(n:Int)) (d:Int)))<|by rw[h];rfl,tF 12 ((p:Int)<8) U,tF 16 (512<(p:Int)) U,tN 21 (-(n:Int)) 0,.c<|Us (- (n:Int)) U U,.o 26<|.int (k:=.u64) (U:(Int.natAbs (-(n:Int)):Int)=n),.o 29<|.int (k:=.u64)<|rS d,ag [.v<|.int .u64 (n:Int),.v<|.int .u64 (d:Int),D p]<|XN _ _ _ K t u x s z i v j b,tT 36 ((-(n:Int))<0) U,.c<|abY (if(q8 (mI n d K) (kr n d K)<|mH n d p K)=aa then canon ac (kK n d p K) (pF n d p K)else canon ac ((kK n d p K)+1) (pF n d p K)) Z,.c<|abY (canon ac (kK n d p K)<|pF n d p K) Z]
end
def aka n d(p:Nat)(h:nJ n d=aa)(x:8<=p)(i:p<=512):iB 169 [.agg [D n,D d],D (p:Int)]<|O<|qj n d p:=by
 have⟨r,t,s,q⟩:=KH h;obtain⟨d,rfl⟩:=dZ (U:0<=d);by_cases u:n=0
 .subst u;exact akc d p h x i
 by_cases v:0<=n
 .obtain ⟨n,rfl⟩:=dZ v;have⟨K,k,y,z⟩:=XC (n:=n) (d:=d) U U U p;exact akb n d p K U U U U x i k y z h
 .obtain ⟨m,rfl⟩:∃ m:Nat,n = -(m:Int):=⟨n.natAbs,U⟩
  have⟨K,k,y,z⟩:=XC (n:=m) (d:=d) U U U p;exact aj9 m d p K U U U U x i k y z h
def abE(a b:List Iv)(p:Nat)(i:Nat):PS:=⟨51,aa,[(7,.own 7),(8,.e<|D i),(0,.e<|K a),(1,.e<|K b),(2,.e<|D p)],[(7,.row aa 33 i 7<|jf<|lj (λk=>lq p (λq=>B (a.getD q L) (b.getD (k-q) L) p) 0 k) i)]⟩
def abD(a b:List Iv)(p i:Nat)(j:Nat):PS:=⟨51,aa,[(10,.e<|D ((j+1:Nat):Int)),(9,.box 9 0),(7,.own 7),(8,.e<|D i),(0,.e<|K a),(1,.e<|K b),(2,.e<|D p)],[(9,.cells 33<|jv<|lq p (λq=>B (a.getD q L) (b.getD (i-q) L) p) 0 j),(7,.row aa 33 i 7<|jf<|lj (λk=>lq p (λq=>B (a.getD q L) (b.getD (k-q) L) p) 0 k) i)]⟩
section
variable(a:List Iv)(p k:Nat)(x:Nat)
def acC:PS:=⟨66,aa,[(7,.own 7),(8,.e<|D x),(0,.e<|K a),(1,.e<|D k),(2,.e<|D p)],[(7,.row aa 33 x 7<|jf<|lj (λi=>if i=0 then jO (a.getD 0 L) 0 p else B (jX 0) (a.getD i L) p) x)]⟩
def acB:PS:=⟨66,aa,[(10,.e<|D ((x+1:Nat):Int)),(7,.own 56),(0,.e<|K a),(1,.e<|D k),(2,.e<|D p)],[(56,.row aa 33 ((nd a p x).length) 7<|jf<|nd a p x)]⟩
end
def WQ(x:Iv)(k:Nat)(i:Nat):PS:=⟨19,aa,[(6,.e<|D i),(5,.own 8),(1,.e<|D k)],[(8,.row aa 33 (i+1) 7<|jf<|lJ x i)]⟩
abbrev aaT(n:Nat)(M:List<|List Iv):E:=.mT aa aa n 1 λk _=>.sl aa (kG M k) 7<|mv M k
def aaf(s:jS)(n:Nat)(M:List<|List Iv)(k:Nat)(x:Nat):PS:=⟨44,aa,[(7,.own 7),(8,.e<|D x),(3,.box 3 0),(1,.e<|aaT n M),(2,.e<|D k)],[(7,.row aa 26 (((M.take x).map λc=>c.take<|k+1).length) 1<|mX<|(M.take x).map λc=>c.take<|k+1),(3,.cells 28 [D s.tape.iK,mf s.tape.iz,mh s.tape.iR,D s.iZ,K s.params])]⟩
def aag(s:jS)(n:Nat)(M:List<|List Iv)(k:Nat)(x:Nat):PS:=⟨44,aa,[(9,.e<|D x),(7,.own 7),(3,.box 3 0),(2,.e<|D k)],[(7,.row aa 26 (((M.map λc=>c.take<|k+1)++(s.params.take x).map λa=>lJ a k).length) 1<|mX<|(M.map λc=>c.take<|k+1)++(s.params.take x).map λa=>lJ a k),(3,.cells 28 [D s.tape.iK,mf s.tape.iz,mh s.tape.iR,D s.iZ,K s.params])]⟩
section
variable(t:qo)(i:List<|List Iv)(k p:Nat)(x:Nat)
noncomputable def adW:PS:=⟨136,aa,[(10,.e<|D x),(9,.own 15),(4,.box 4 0),(2,.e<|D k),(3,.e<|D p)],[(15,.row aa 26 ((jm t.iz i k p x).length) 1<|mX<|jm t.iz i k p x),(4,.cells 25 [D t.iK,mf t.iz,mh t.iR])]⟩
noncomputable def adX:PS:=⟨136,aa,[(13,.own 13),(14,.e<|D x),(9,.own 15),(4,.box 4 0)],[(13,.row aa 26 (((t.iR.take x).map λj=>(jm t.iz i k p t.iz.length).getD j []).length) 1<|mX<|(t.iR.take x).map λj=>(jm t.iz i k p t.iz.length).getD j []),(15,.row aa 26 ((jm t.iz i k p t.iz.length).length) 1<|mX<|jm t.iz i k p t.iz.length),(4,.cells 25 [D t.iK,mf t.iz,mh t.iR])]⟩
end
def abF a b(n p:Nat)(v:1<=n)(m:n<=17)(x:kV n a)(y:kV n b)(I:8<=p)(C:p<=512):wK 171 [K a,K b,D p] aa 33 a.length 7<|jf<|qK a b p:=by
 have l:=x.len;have t:=y.len;exact UE call171 func171 (Y [.y 7 7 aa 33 7<|jf [],.s (Sp.jL (abE a b p) 0 a.length U (λi z o=>by
    have s:=x.ok 0;have r:=y.ok i;have g:=CW (T:=(λh=>B (a.getD h L) (b.getD (i-h) L) p)) (a:=0) (U:1<=p) (U:p<=4096) i λq _ _=>nZ _ _ U U 
    have f:=oh<|lq p (λh=>B (a.getD h L) (b.getD (i-h) L) p) 0 i;exact iU (Y [tT 14 ((i:Int)<a.length) U,iX 0<|a.length,iX (i:Int)<|b.length,.c<|CN (a.getD 0 L) (b.getD i L) p Z Z,.s (Sp.jL (abD a b p i) 0 i U (λj u X=>by
    have e:=CW (T:=(λh=>B (a.getD h L) (b.getD (i-h) L) p)) (a:=0) (U:1<=p) (U:p<=4096) j λq _ _=>nZ _ _ U U 
    have w:=x.ok<|j+1;have d:=y.ok<|i-(j+1);have c:=nZ (a.getD (j+1) L) (b.getD (i-(j+1)) L) (p:=p) U U;exact iU (Y [tT 28 (((j+1:Nat):Int)<=i) U,iX ((j+1:Nat):Int)<|a.length,iN<|(i:Int)-((j+1:Nat):Int),.o 39<|oI ((i:Int)-((j+1:Nat):Int)) ((i-(j+1):Nat):Int),iX ((i-(j+1):Nat):Int)<|b.length,.c<|CN (a.getD (j+1) L) (b.getD (i-(j+1)) L) p Z Z,.c<|Ht (lq p (λh=>B (a.getD h L) (b.getD (i-h) L) p) 0 j) (B (a.getD (j+1) L) (b.getD (i-(j+1)) L) p) p Z Z,
     iN (((j+1:Nat):Int)+1)]<|.e<|af [.b 9<|cE 33 (jv<|jN (lq p (λh=>B (a.getD h L) (b.getD (i-h) L) p) 0 j) (B (a.getD (j+1) L) (b.getD (i-(j+1)) L) p) p) (jv<|lq p (λh=>B (a.getD h L) (b.getD (i-h) L) p) 0<|j+1)<|by first|rfl|(simp only[lq,ct];done)]) aI)
  (λu=>by
    exact iU (af [tF 28 (((i+1:Nat):Int)<=i) U]) aI) aM:jK 7 f171 (abD a b p i 0) (.exit 2) ⟨51,aa,[(9,.box 9 0),(7,.own 7),(8,.e<|D i),(0,.e<|K a),(1,.e<|K b),(2,.e<|D p)],[(9,.cells 33<|jv<|lq p (λh=>B (a.getD h L) (b.getD (i-h) L) p) 0 i),(7,.row aa 33 i 7<|jf<|lj (λk=>lq p (λh=>B (a.getD h L) (b.getD (k-h) L) p) 0 k) i)]⟩)<|af [.o 10<|oI 1 ((0+1:Nat):Int),.b 9<|cE 33 (jv<|B (a.getD 0 L) (b.getD i L) p) (jv<|lq p (λh=>B (a.getD h L) (b.getD (i-h) L) p) 0 0)<|by first|rfl|(simp only[lq,ct];done)],.o 48<|.e<|lM<|lq p (λh=>B (a.getD h L) (b.getD (i-h) L) p) 0 i,.a (U:(i+[lq p (λh=>B (a.getD h L) (b.getD (i-h) L) p) 0 i].length)*88<=140737488355328),
     iN ((i:Int)+1)]<|.e<|af [.b 7<|My 33 i λk=>lq p (λh=>B (a.getD h L) (b.getD (k-h) L) p) 0 k]) aI)
  (λz=>by
    exact iU (af [tF 14 ((a.length:Int)<a.length) U]) aI) aM:jK 3 f171 (abE a b p 0) (.exit 0) ⟨51,aa,[(7,.own 7)],[(7,.row aa 33 a.length 7<|jf<|lj (λk=>lq p (λh=>B (a.getD h L) (b.getD (k-h) L) p) 0 k) a.length)]⟩)<|af [.b 7 (Ia:Bx.le (.row aa 33 0 7<|jf [])<|.row aa 33 0 7<|jf<|lj (λk=>lq p (λh=>B (a.getD h L) (b.getD (k-h) L) p) 0 k) 0)]]<|.rb (.refl _:Bx.le (.row aa 33 a.length 7<|jf<|lj (λk=>lq p (λh=>B (a.getD h L) (b.getD (k-h) L) p) 0 k) a.length)<|.row aa 33 a.length 7<|jf<|qK a b p)) aI 
def aqn{a p}:lj (λi=>if i=0 then jO (a.getD 0 L) 0 p else B (jX 0) (a.getD i L) p) a.length=qh a 0 p:=by
 unfold qh CJ;rw[bt rfl];apply fI (by simp[wR]);intro i x k;have y:i<a.length:=by rw[wR]at x;exact x
 simp only[lj,iq,awy,awx];by_cases h:i=0
 .subst h;rfl
 .rw [bn h,bn λq:0=i=>h q.symm]
section
variable(a:List Iv)(n p k:Nat)(h1:1<=n)(mZ:n<=17)(ha:kV n a)(iI:8<=p)(iC:p<=512)
def aqa(u:k<=16)(y:k=0):iB 174 [K a,D k,D p]<|K<|qh a k p:=by
 have l:=ha.len;have v:=ha.ok 0;exact iL (Y [tT 12 ((k:Int)<1) U,.y 7 7 aa 33 7<|jf [],.s (Sp.jL (acC a p k) 0 a.length U (λx z r=>by
    have t:=ha.ok x;have s:=zO 0;by_cases m:x=0
    .have o:=oh<|jO (a.getD 0 L) 0 p;exact iU (Y [tT 20 ((x:Int)<a.length) U,.c<|NO 0,iX (x:Int)<|a.length,.c<|CN (jX 0) (a.getD x L) p Z Z,ai 31 ((k:Int) != 0)<|bj U,tE 34 (x:Int) 0,iX 0<|a.length,.c<|N6 (a.getD 0 L) 0 p Z,.o 42<|.e<|lM<|jO (a.getD 0 L) 0 p,.a (U:(x+[jO (a.getD 0 L) 0 p].length)*88<=140737488355328),iN<|(x:Int)+1]<|.e<|af [.b 7 (QE rfl (by rw[bt m]):Bx.le (.row aa 33 (x+[jO (a.getD 0 L) 0 p].length) 7 λh j=>if h<x then(jf<|lj (λi=>if i=0 then jO (a.getD 0 L) 0 p else B (jX 0) (a.getD i L) p) x) h j else(E.lO<|K [jO (a.getD 0 L) 0 p]) (h-x) j)<|.row aa 33 (x+1) 7<|jf<|lj (λi=>if i=0 then jO (a.getD 0 L) 0 p else B (jX 0) (a.getD i L) p)<|x+1)]) aI 
    .have o:=oh<|B (jX 0) (a.getD x L) p;exact iU (Y [tT 20 ((x:Int)<a.length) U,.c<|NO 0,iX (x:Int)<|a.length,.c<|CN (jX 0) (a.getD x L) p Z Z,ai 31 ((k:Int) != 0)<|bj U,tN 34 (x:Int) 0,.o 42<|.e<|lM<|B (jX 0) (a.getD x L) p,.a (U:(x+[B (jX 0) (a.getD x L) p].length)*88<=140737488355328),iN<|(x:Int)+1]<|.e<|af [.b 7 (QE rfl (by rw[bn m]):Bx.le (.row aa 33 (x+[B (jX 0) (a.getD x L) p].length) 7 λh j=>if h<x then(jf<|lj (λi=>if i=0 then jO (a.getD 0 L) 0 p else B (jX 0) (a.getD i L) p) x) h j else(E.lO<|K [B (jX 0) (a.getD x L) p]) (h-x) j)<|.row aa 33 (x+1) 7<|jf<|lj (λi=>if i=0 then jO (a.getD 0 L) 0 p else B (jX 0) (a.getD i L) p)<|x+1)]) aI)
  (λz=>by
    exact iU (Y [tF 20 ((a.length:Int)<a.length) U,.z 7]<|.e<|af [.o 7 (.e<|AJ (wR _ _).symm:aj (.sl aa a.length 7<|jf<|lj (λi=>if i=0 then jO (a.getD 0 L) 0 p else B (jX 0) (a.getD i L) p) a.length)<|K<|lj (λi=>if i=0 then jO (a.getD 0 L) 0 p else B (jX 0) (a.getD i L) p) a.length)]) aI) aM:jK 4 f174 (acC a p k 0) (.exit 0) ⟨66,aa,[(7,.e<|K<|lj (λi=>if i=0 then jO (a.getD 0 L) 0 p else B (jX 0) (a.getD i L) p) a.length)],[]⟩)<|af [.b 7 (Ia:Bx.le (.row aa 33 0 7<|jf [])<|.row aa 33 0 7<|jf<|lj (λi=>if i=0 then jO (a.getD 0 L) 0 p else B (jX 0) (a.getD i L) p) 0)]]<|V (K<|lj (λi=>if i=0 then jO (a.getD 0 L) 0 p else B (jX 0) (a.getD i L) p) a.length) (K<|qh a k p)<|by rw[y];exact congrArg K aqn)
def aqb(x:k<=16)(h:k=1):iB 174 [K a,D k,D p]<|K<|qh a k p:=by
 have l:=ha.len;have v:=ha.ok 0;exact iL<|Y [tF 12 ((k:Int)<1) U,tF 15 (16<(k:Int)) U,.a (U:a.length*88<=140737488355328),.u 2,tF 50 (1<(k:Int)) U,iX 0<|a.length,.c<|N6 (a.getD 0 L) k p Z,iX 0<|a.length,.a (U:0<a.length)]<|rR (K<|qh a k p) ((K0 rfl).trans<|.jB<|by unfold qh CJ;rw[bn U,h];rfl:E.le (.sl aa a.length 7 λi j=>if i=0/\0<=j/\j<0+7 then[I<|((jO (a.getD 0 L) k p).lo).neg,F<|iy<|((jO (a.getD 0 L) k p).lo).m,D<|((jO (a.getD 0 L) k p).lo).e,I<|((jO (a.getD 0 L) k p).hi).neg,F<|iy<|((jO (a.getD 0 L) k p).hi).m,D<|((jO (a.getD 0 L) k p).hi).e,I<|(jO (a.getD 0 L) k p).all].getD (j-0) .any else(E.lO<|K a) i j)<|K<|qh a k p)
def aqc(z:k<=16)(u:2<=k):iB 174 [K a,D k,D p]<|K<|qh a k p:=by
 have l:=ha.len;have v:=ha.ok 0;have y:=CD (a:=a) (p:=p)<|k-1;exact iL (Y [tF 12 ((k:Int)<1) U,tF 15 (16<(k:Int)) U,.a (U:a.length*88<=140737488355328),.u 2,tT 50 (1<(k:Int)) U,.cn (abF a a n p h1 mZ ha ha iI iC:wK 171 [.sl aa a.length 7<|E.lO<|K a,K a,D p] aa 33 a.length 7<|jf<|qK a a p),.a (Nw _:Ep a.length 7<|jf<|qK a a p),
  iN (1+1),.k [10,7,0,1,2] [56],.s (Sp.jL (acB a p k) 1 (k-1) U (λx h t=>by
    have y:=CD (a:=a) (p:=p) x;exact iU (Y [tT 50 (((x+1:Nat):Int)<k) U,.cn (abF (nd a p x) a n p h1 mZ (NJ U U ha x) ha iI iC:wK 171 [.sl aa ((nd a p x).length) 7<|jf<|nd a p x,K a,D p] aa 33 ((nd a p x).length) 7<|jf<|qK (nd a p x) a p),.a (Nw _:Ep ((nd a p x).length) 7<|jf<|qK (nd a p x) a p),iN<|((x+1:Nat):Int)+1]<|.e<|af [.b 56 (Oq (xs:=(nd a p<|x+1))<|by simp only[CD]:Bx.le (.row aa 33 ((nd a p x).length) 7<|jf<|qK (nd a p x) a p)<|.row aa 33 ((nd a p<|x+1).length) 7<|jf<|nd a p<|x+1)]) aI)
  (λh=>by
    exact iU (af [tF 50 ((((k-1)+1:Nat):Int)<k) U]) aI) aM:jK 15 f174 (acB a p k 1) (.exit 2) ⟨66,aa,[(7,.own 56),(0,.e<|K a),(1,.e<|D k),(2,.e<|D p)],[(56,.row aa 33 ((nd a p<|k-1).length) 7<|jf<|nd a p<|k-1)]⟩)<|af [.o 10<|oI (1+1) ((1+1:Nat):Int),.b 56 (Oq (xs:=(nd a p 1))<|by simp only[CD]:Bx.le (.row aa 33 a.length 7<|jf<|qK a a p)<|.row aa 33 ((nd a p 1).length) 7<|jf<|nd a p 1)],
  iX 0 (a.length),.c<|N6 (a.getD 0 L) k p Z,iX 0<|(nd a p<|k-1).length,.a (U:0<(nd a p<|k-1).length)]<|rR (K<|qh a k p) ((K0 rfl).trans<|.jB<|by unfold qh CJ;rw[bn U]:E.le (.sl aa ((nd a p<|k-1).length) 7 λi j=>if i=0/\0<=j/\j<0+7 then[I<|((jO (a.getD 0 L) k p).lo).neg,F<|iy<|((jO (a.getD 0 L) k p).lo).m,D<|((jO (a.getD 0 L) k p).lo).e,I<|((jO (a.getD 0 L) k p).hi).neg,F<|iy<|((jO (a.getD 0 L) k p).hi).m,D<|((jO (a.getD 0 L) k p).hi).e,I<|(jO (a.getD 0 L) k p).all].getD (j-0) .any else(jf<|nd a p<|k-1) i j)<|K<|qh a k p))
def aqd(h:k<=16):iB 174 [K a,D (k:Int),D (p:Int)]<|K<|qh a k p:=by
 by_cases x:k=0
 .exact aqa a n p k h1 mZ ha iI iC h x
 by_cases y:k=1
 .exact aqb a n p k h1 mZ ha iI iC h y
 .exact aqc a n p k h1 mZ ha iI iC h U 
end
def aje{T i n x}(k:n=i+1+1):
 Bx.le (.row aa T (i+1+[jX 0].length) 7 λa j=>if a<i+1 then jf (lJ x i) a j else(E.lO<|K [jX 0]) (a-(i+1)) j) (.row aa T n 7<|jf<|lJ x<|i+1):=by
 subst k;have e:lJ x (i+1)=lJ x i++[jX 0]:=by
  show x::List.replicate (i+1) AK=x::(List.replicate i AK++[jX 0]);rw[List.replicate_succ',show jX 0=AK from aI]
 have h:=JY (T:=T) (n:=i+1) (xs:=lJ x i) (y:=jX 0) (by simp[lJ]);rw[<-e]at h;have z:(lJ x<|i+1).length=i+1+1:=by simp[lJ]
 rw[z]at h;exact h
def WR x(k:Nat)(v:k<=16):iB 168 [O x,D k]<|K<|lJ x k:=
 iL (Y [.bo,.s (Sp.jL (WQ x k) 0 k U (λi z o=>by
    have p:=oh<|jX 0;exact iU (Y [tT 11 ((i:Int)<k) U,.c<|NO 0,.o 16<|.e<|lM<|jX 0,.a (U:((i+1)+[jX 0].length)*88<=140737488355328),iN<|(i:Int)+1]<|.e<|af [.b 8 (aje rfl:Bx.le (.row aa 33 ((i+1)+[jX 0].length) 7 λh y=>if h<(i+1)then(jf<|lJ x i) h y else(E.lO<|K [jX 0]) (h-(i+1)) y)<|.row aa 33 ((i+1)+1) 7<|jf<|lJ x<|i+1)]) aI)
  (λz=>by
    exact iU (Y [tF 11 ((k:Int)<k) U,.z 8]<|.e<|af [.o 5 (.e<|AJ<|by simp[lJ]:aj (.sl aa (k+1) 7<|jf<|lJ x k)<|K<|lJ x k)]) aI) aM:jK 3 f168 (WQ x k 0) (.exit 0) ⟨19,aa,[(5,.e<|K<|lJ x k)],[]⟩)<|af [.b 8 (.row rfl λi j z u=>⟨.jB (by obtain rfl:i=0:= U;exact Si x j u),tK _ _ u⟩:Bx.le (.row aa 33 1 7 λh y=>(jv x).getD (h*7+y)<|.v<|.bool ac)<|.row aa 33 (0+1) 7<|jf<|lJ x 0)]]<|rR (K<|lJ x k) (.jB rfl:E.le (K<|lJ x k)<|K<|lJ x k))
def auw{M x m}(y:m<=(M.getD x []).length):E.le (.sl aa m 7<|mv M x)<|K<|(M.getD x []).take m:=by
 have h:((M.getD x []).take m).length=m:=by rw[cz];omega
 unfold K;rw[h];refine .sl λi j z k=>?_
 refine⟨.jB ?_,tK _ _ k⟩;show(jv<|(M.getD x []).getD i L).getD j .any=(jv<|((M.getD x []).take m).getD i L).getD j .any;congr 2;simp only[bB];rw[axf U]
def am0 s n k(M:List<|List Iv)(h:mE s)(v:n=M.length)(H:n<=8)(r:k<=16)(t:∀ i,i<n->k+1<=(M.getD i []).length):iB 104 [kH s,aaT n M,D k]<|kX<|pr s M k:=by
 have p:=h.p4;exact iL (Y [.y 7 7 aa 26 1<|mX [],.s (Sp.jL (aaf s n M k) 0 n U (λx u f=>by
    have C:kG M x=(M.getD x []).length:=rfl;have R:=t x U;have l:((M.take x).map λc=>c.take<|k+1).length<=8:=by rw[cI,cz];omega
    exact iU (Y [tT 13 ((x:Int)<n) U,iX (x:Int) n,iN<|(k:Int)+1,.a (U:0<=(((k+1:Nat):Int):Int)/\(((k+1:Nat):Int):Int)<=(kG M x:Int)),.o 23<|.e<|auw R,.a (U:(((M.take x).map λc=>c.take<|k+1).length+1)*24<=140737488355328),
     iN ((x:Int)+1)]<|.e<|af [.b 7<|uQ 26 (M:=(M.take x).map λc=>c.take<|k+1)<|He _ M []]) aI)
  (λu=>by
    exact iU (af [tF 13 ((n:Int)<n) U]) aI) aM:jK 3 f104 (aaf s n M k 0) (.exit 0) ⟨44,aa,[(7,.own 7),(3,.box 3 0),(2,.e<|D k)],[(7,.row aa 26 (((M.take n).map λc=>c.take<|k+1).length) 1<|mX<|(M.take n).map λc=>c.take<|k+1),(3,.cells 28 [D s.tape.iK,mf s.tape.iz,mh s.tape.iR,D s.iZ,K s.params])]⟩)<|af [.b 7 (NA aK rfl:Bx.le (.row aa 26 0 1<|mX [])<|.row aa 26 (((M.take 0).map λc=>c.take<|k+1).length) 1<|mX<|(M.take 0).map λc=>c.take<|k+1)],.s (Sp.jL (aag s n M k) 0 s.params.length U (λx u f=>by
    have q:=(h.params x U).1;have m:((M.map λc=>c.take<|k+1)++(s.params.take x).map λa=>lJ a k).length<=16:=by rw[cD,cI,cI,cz];omega
    exact iU (Y [tT 30 ((x:Int)<s.params.length) U,iX (x:Int)<|s.params.length,.c<|WR (s.params.getD x L) k U,.a (U:(((M.map λc=>c.take<|k+1)++(s.params.take x).map λa=>lJ a k).length+1)*24<=140737488355328),iN<|(x:Int)+1]<|.e<|af [.b 7 (SH rfl rfl (λj g=>by obtain rfl:j=0:= U;rfl) (by rw[He (λa=>lJ a k) s.params L,gZ]):Bx.le (.row aa 26 (((M.map λc=>c.take<|k+1)++(s.params.take x).map λa=>lJ a k).length+1) 1 λy z=>if y<((M.map λc=>c.take<|k+1)++(s.params.take x).map λa=>lJ a k).length then(mX<|(M.map λc=>c.take<|k+1)++(s.params.take x).map λa=>lJ a k) y z else(E.lO<|.sl aa 1 1 λy z=>[K<|lJ (s.params.getD x L) k].getD (y*1+z)<|.v<|.bool ac) (y-((M.map λc=>c.take<|k+1)++(s.params.take x).map λa=>lJ a k).length) z)<|.row aa 26 (((M.map λc=>c.take<|k+1)++(s.params.take<|x+1).map λa=>lJ a k).length) 1<|mX<|(M.map λc=>c.take<|k+1)++(s.params.take<|x+1).map λa=>lJ a k)]) aI)
  (λu=>by
    exact iU (Y [tF 30 ((s.params.length:Int)<s.params.length) U,.z 7]<|.e<|af [.o 7 (.e<|NB rfl:aj (.sl aa (((M.map λc=>c.take<|k+1)++(s.params.take s.params.length).map λa=>lJ a k).length) 1<|mX<|(M.map λc=>c.take<|k+1)++(s.params.take s.params.length).map λa=>lJ a k)<|kX<|(M.map λc=>c.take<|k+1)++(s.params.take s.params.length).map λa=>lJ a k)]) aI) aM:jK 7 f104 (aag s n M k 0) (.exit 2) ⟨44,aa,[(7,.e<|kX<|(M.map λc=>c.take<|k+1)++(s.params.take s.params.length).map λa=>lJ a k)],[]⟩)<|af [.b 7 (Bx.le.jB<|by rw[v,dV];simp:Bx.le (.row aa 26 (((M.take n).map λc=>c.take<|k+1).length) 1<|mX<|(M.take n).map λc=>c.take<|k+1)<|.row aa 26 (((M.map λc=>c.take<|k+1)++(s.params.take 0).map λa=>lJ a k).length) 1<|mX<|(M.map λc=>c.take<|k+1)++(s.params.take 0).map λa=>lJ a k)]]<|V (kX<|(M.map λc=>c.take<|k+1)++(s.params.take s.params.length).map λa=>lJ a k) (kX<|pr s M k)<|by unfold pr;rw[dV])
section
variable{o:nC}{l:List<|List Iv}{k p:Nat}
def apr(h:o.kind=1):oi o l k p=lJ (qj o.cn o.cd p) k:=by unfold oi;rw[bt h]
def aps(h:o.kind=3):oi o l k p=AS (l.getD o.a []) (l.getD o.b []) p:=by unfold oi oO wO;simp[h]
def apt(h:o.kind=4):oi o l k p=BL (l.getD o.a []) (l.getD o.b []) p:=by unfold oi oO wO;simp[h]
def apu(h:o.kind=5):oi o l k p=qK (l.getD o.a []) (l.getD o.b []) p:=by unfold oi oO wO;simp[h]
def apv(h:o.kind=6):oi o l k p=yQ (l.getD o.a []) (l.getD o.b []) p:=by unfold oi oO wO;simp[h]
def apw(h:o.kind=7):oi o l k p=Bv (l.getD o.a []):=by unfold oi oO;simp[h]
def apx(h:o.kind=8):oi o l k p=qh (l.getD o.a []) o.n p:=by unfold oi oO;simp[h]
end
def asy t(K:List<|List Iv)(k p:Nat)(h:zT t)(w:∀ i,i<t.iz.length->(t.iz.getD i o).kind<=8)(X:wL (k+1) K)(zy:K.length=t.iK)(N:k<=16)(I:8<=p)(C:p<=512):iB 103 [El t,kX K,D k,D p]<|kX<|qq t K k p:=by
 have L:=h.iK;have J:=h.iz;have O:=h.iR;have G:=FX (p:=p) t.iz K k t.iz.length;exact iL (Y [.bo,.a (U:(0+K.length)*24<=140737488355328),.s (Sp.jL (adW t K k p) 0 t.iz.length U (λx q F=>by
    have W:=h.op x U;have zx:=w x U;have T:=W.k3;have G:=FX (p:=p) t.iz K k x;have zv:=KT (U:1<=p) (U:p<=4096) h X zy x U;by_cases a:(t.iz.getD x o).kind=1
    .have n:(jm t.iz K k p<|x+1)=(jm t.iz K k p x)++[oi (t.iz.getD x o) (jm t.iz K k p x) k p]:=rfl;rw[apr a]at n;have⟨z,u,v,H⟩:=W.num a;exact iU (Y [tT 22 ((x:Int)<t.iz.length) U,iX (x:Int)<|t.iz.length,tE 42 ((t.iz.getD x o).kind:Int) 1,.c<|aka ((t.iz.getD x o).cn) ((t.iz.getD x o).cd) p Z U U,.c<|WR (qj ((t.iz.getD x o).cn) ((t.iz.getD x o).cd) p) k U,.a (U:((jm t.iz K k p x).length+1)*24<=140737488355328),iN<|(x:Int)+1]<|.e<|af [.b 15<|uQ 26 n]) aI 
    .by_cases P:(t.iz.getD x o).kind=3
     .have n:(jm t.iz K k p<|x+1)=(jm t.iz K k p x)++[oi (t.iz.getD x o) (jm t.iz K k p x) k p]:=rfl;rw[aps P]at n;have A:=W.yI U;have B:=zD W;have s:=zv (t.iz.getD x o).a U;have⟨z,u,v,m,l,g⟩:=W.zV U U;have f:=zv (t.iz.getD x o).b U;exact iU (Y [tT 22 ((x:Int)<t.iz.length) U,iX (x:Int)<|t.iz.length,tN 42 ((t.iz.getD x o).kind:Int) 1,tE 50 ((t.iz.getD x o).kind:Int) 3,
       iX ((t.iz.getD x o).a:Int) ((jm t.iz K k p x).length),.a (U:(t.iz.getD x o).a<(jm t.iz K k p x).length),
       iX ((t.iz.getD x o).b:Int) ((jm t.iz K k p x).length),.a (U:(t.iz.getD x o).b<(jm t.iz K k p x).length),.c<|at3 ((jm t.iz K k p x).getD ((t.iz.getD x o).a) []) ((jm t.iz K k p x).getD ((t.iz.getD x o).b) []) (k+1) p U U Z Z I C,.a (U:((jm t.iz K k p x).length+1)*24<=140737488355328),iN<|(x:Int)+1]<|.e<|af [.b 15<|uQ 26 n]) aI 
     .by_cases e:(t.iz.getD x o).kind=4
      .have n:(jm t.iz K k p<|x+1)=(jm t.iz K k p x)++[oi (t.iz.getD x o) (jm t.iz K k p x) k p]:=rfl;rw[apt e]at n;have A:=W.yI U;have B:=zD W;have s:=zv (t.iz.getD x o).a U;have⟨z,u,v,m,l,g⟩:=W.zV U U;have f:=zv (t.iz.getD x o).b U;exact iU (Y [tT 22 ((x:Int)<t.iz.length) U,iX (x:Int)<|t.iz.length,tN 42 ((t.iz.getD x o).kind:Int) 1,tN 50 ((t.iz.getD x o).kind:Int) 3,tE 64 ((t.iz.getD x o).kind:Int) 4,iX ((t.iz.getD x o).a:Int)<|(jm t.iz K k p x).length,.a (U:(t.iz.getD x o).a<(jm t.iz K k p x).length),
        iX ((t.iz.getD x o).b:Int) ((jm t.iz K k p x).length),.a (U:(t.iz.getD x o).b<(jm t.iz K k p x).length),.c<|at4 ((jm t.iz K k p x).getD ((t.iz.getD x o).a) []) ((jm t.iz K k p x).getD ((t.iz.getD x o).b) []) (k+1) p U U Z Z I C,.a (U:((jm t.iz K k p x).length+1)*24<=140737488355328),iN<|(x:Int)+1]<|.e<|af [.b 15<|uQ 26 n]) aI 
      .by_cases d:(t.iz.getD x o).kind=5
       .have n:(jm t.iz K k p<|x+1)=(jm t.iz K k p x)++[oi (t.iz.getD x o) (jm t.iz K k p x) k p]:=rfl;rw[apu d]at n;have A:=W.yI U;have B:=zD W;have s:=zv (t.iz.getD x o).a U;have⟨z,u,v,m,l,g⟩:=W.zV U U;have f:=zv (t.iz.getD x o).b U;exact iU (Y [tT 22 ((x:Int)<t.iz.length) U,iX (x:Int)<|t.iz.length,tN 42 ((t.iz.getD x o).kind:Int) 1,tN 50 ((t.iz.getD x o).kind:Int) 3,tN 64 ((t.iz.getD x o).kind:Int) 4,tE 78 ((t.iz.getD x o).kind:Int) 5,iX ((t.iz.getD x o).a:Int)<|(jm t.iz K k p x).length,.a (U:(t.iz.getD x o).a<(jm t.iz K k p x).length),iX ((t.iz.getD x o).b:Int)<|(jm t.iz K k p x).length,.a (U:(t.iz.getD x o).b<(jm t.iz K k p x).length),.c<|aoB ((jm t.iz K k p x).getD ((t.iz.getD x o).a) []) ((jm t.iz K k p x).getD ((t.iz.getD x o).b) []) (k+1) p U U Z Z I C,.a (U:((jm t.iz K k p x).length+1)*24<=140737488355328),iN<|(x:Int)+1]<|.e<|af [.b 15<|uQ 26 n]) aI 
       .by_cases c:(t.iz.getD x o).kind=6
        .have n:(jm t.iz K k p<|x+1)=(jm t.iz K k p x)++[oi (t.iz.getD x o) (jm t.iz K k p x) k p]:=rfl;rw[apv c]at n;have A:=W.yI U;have B:=zD W;have s:=zv (t.iz.getD x o).a U;have⟨z,u,v,m,l,g⟩:=W.zV U U;have f:=zv (t.iz.getD x o).b U;exact iU (Y [tT 22 ((x:Int)<t.iz.length) U,iX (x:Int)<|t.iz.length,tN 42 ((t.iz.getD x o).kind:Int) 1,tN 50 ((t.iz.getD x o).kind:Int) 3,tN 64 ((t.iz.getD x o).kind:Int) 4,tN 78 ((t.iz.getD x o).kind:Int) 5,tE 92 ((t.iz.getD x o).kind:Int) 6,iX ((t.iz.getD x o).a:Int)<|(jm t.iz K k p x).length,.a (U:(t.iz.getD x o).a<(jm t.iz K k p x).length),iX ((t.iz.getD x o).b:Int)<|(jm t.iz K k p x).length,.a (U:(t.iz.getD x o).b<(jm t.iz K k p x).length),.c<|ajx ((jm t.iz K k p x).getD ((t.iz.getD x o).a) []) ((jm t.iz K k p x).getD ((t.iz.getD x o).b) []) (k+1) p U U Z Z I C,.a (U:((jm t.iz K k p x).length+1)*24<=140737488355328),iN<|(x:Int)+1]<|.e<|af [.b 15<|uQ 26 n]) aI 
        .by_cases b:(t.iz.getD x o).kind=7
         .have n:(jm t.iz K k p<|x+1)=(jm t.iz K k p x)++[oi (t.iz.getD x o) (jm t.iz K k p x) k p]:=rfl;rw[apw b]at n;have A:=W.yI U;have B:=zD W;have s:=zv (t.iz.getD x o).a U;exact iU (Y [tT 22 ((x:Int)<t.iz.length) U,iX (x:Int)<|t.iz.length,tN 42 ((t.iz.getD x o).kind:Int) 1,tN 50 ((t.iz.getD x o).kind:Int) 3,tN 64 ((t.iz.getD x o).kind:Int) 4,tN 78 ((t.iz.getD x o).kind:Int) 5,tN 92 ((t.iz.getD x o).kind:Int) 6,tE 106 ((t.iz.getD x o).kind:Int) 7,
           iX ((t.iz.getD x o).a:Int) ((jm t.iz K k p x).length),.a (U:(t.iz.getD x o).a<(jm t.iz K k p x).length),.c<|aoV ((jm t.iz K k p x).getD ((t.iz.getD x o).a) []) (k+1) U U Z,.a (U:((jm t.iz K k p x).length+1)*24<=140737488355328),iN<|(x:Int)+1]<|.e<|af [.b 15<|uQ 26 n]) aI 
         .have S:(t.iz.getD x o).kind=8:= U ;have n:(jm t.iz K k p<|x+1)=(jm t.iz K k p x)++[oi (t.iz.getD x o) (jm t.iz K k p x) k p]:=rfl;rw[apx S]at n;have A:=W.yI U;have B:=zD W;have s:=zv (t.iz.getD x o).a U;exact iU (Y [tT 22 ((x:Int)<t.iz.length) U,iX (x:Int)<|t.iz.length,tN 42 ((t.iz.getD x o).kind:Int) 1,tN 50 ((t.iz.getD x o).kind:Int) 3,tN 64 ((t.iz.getD x o).kind:Int) 4,tN 78 ((t.iz.getD x o).kind:Int) 5,tN 92 ((t.iz.getD x o).kind:Int) 6,tN 106 ((t.iz.getD x o).kind:Int) 7,
           iX ((t.iz.getD x o).a:Int) ((jm t.iz K k p x).length),.a (U:(t.iz.getD x o).a<(jm t.iz K k p x).length),.c<|aqd ((jm t.iz K k p x).getD ((t.iz.getD x o).a) []) (k+1) p ((t.iz.getD x o).n:Nat) U U Z I C U,.a (U:((jm t.iz K k p x).length+1)*24<=140737488355328),iN<|(x:Int)+1]<|.e<|af [.b 15<|uQ 26 n]) aI)
  (λq=>by
    exact iU (af [tF 22 ((t.iz.length:Int)<t.iz.length) U]) aI) aM:jK 3 f103 (adW t K k p 0) (.exit 0) ⟨136,aa,[(9,.own 15),(4,.box 4 0)],[(15,.row aa 26 ((jm t.iz K k p t.iz.length).length) 1<|mX<|jm t.iz K k p t.iz.length),(4,.cells 25 [D t.iK,mf t.iz,mh t.iR])]⟩)<|af [.b 15 (abl rfl rfl:Bx.le (.row aa 26 (0+K.length) 1 λy r=>if y<0 then(λy r=>([]:List E).getD (y*1+r)<|.v<|.bool ac) y r else(E.lO<|kX K) (y-0) r)<|.row aa 26 ((jm t.iz K k p 0).length) 1<|mX<|jm t.iz K k p 0)],.y 13 13 aa 26 1<|mX [],.s (Sp.jL (adX t K k p) 0 t.iR.length U (λx q F=>by
    have R:=h.out x U;have Q:((t.iR.take x).map λj=>(jm t.iz K k p t.iz.length).getD j []).length<=200:=by rw[cI,cz];omega
    exact iU (Y [tT 121 ((x:Int)<t.iR.length) U,iX (x:Int)<|t.iR.length,iX (t.iR.getD x 0:Int)<|(jm t.iz K k p t.iz.length).length,.a (U:(t.iR.getD x 0)<(jm t.iz K k p t.iz.length).length),.a (U:(((t.iR.take x).map λj=>(jm t.iz K k p t.iz.length).getD j []).length+1)*24<=140737488355328),
     iN ((x:Int)+1)]<|.e<|af [.b 13<|uQ 26 (M:=(t.iR.take x).map λj=>(jm t.iz K k p t.iz.length).getD j [])<|He _ t.iR 0]) aI)
  (λq=>by
    exact iU (Y [tF 121 ((t.iR.length:Int)<t.iR.length) U,.z 13]<|.e<|af [.o 13 (.e<|NB rfl:aj (.sl aa (((t.iR.take t.iR.length).map λj=>(jm t.iz K k p t.iz.length).getD j []).length) 1<|mX<|(t.iR.take t.iR.length).map λj=>(jm t.iz K k p t.iz.length).getD j [])<|kX<|(t.iR.take t.iR.length).map λj=>(jm t.iz K k p t.iz.length).getD j [])]) aI) aM:jK 24 f103 (adX t K k p 0) (.exit 3) ⟨136,aa,[(13,.e<|kX<|(t.iR.take t.iR.length).map λj=>(jm t.iz K k p t.iz.length).getD j [])],[]⟩)<|af [.b 13 (NA aK rfl:Bx.le (.row aa 26 0 1<|mX [])<|.row aa 26 (((t.iR.take 0).map λj=>(jm t.iz K k p t.iz.length).getD j []).length) 1<|mX<|(t.iR.take 0).map λj=>(jm t.iz K k p t.iz.length).getD j [])]]<|V (kX<|(t.iR.take t.iR.length).map λj=>(jm t.iz K k p t.iz.length).getD j []) (kX<|qq t K k p)<|by unfold qq;rw[dV])
end Go.Proofs.YthalchiobglflaaGreatDoor
namespace Go.Proofs.YthalchiobglflaaGreatDoor.Pu
open Go.RowKit
def zQ.cells{bs bs' w w'}(k:w.heap.size<=w'.heap.size)(y:∀ b o,b<w.heap.size->bs' b o->bs b o)(c:∀ b o v,b<w.heap.size->¬bs b o->w.cell? ⟨b,o,am⟩=al v->w'.cell? ⟨b,o,am⟩=al v):
 ∀ {l:List<|Int×FuncId×List FuncId} {e:List MapEntry},zQ bs w l e->zQ bs' w' l e
 | [],[],_=>trivial
 | [],_::_,h=>h
 |_::_,[],h=>h
 |_::_,_::_,⟨⟨u,s,t,r,p⟩,h⟩=>⟨⟨u,s,t,r,λi g v n m=>by
  have⟨b,f,z,q,d⟩:=p i g v n m;exact⟨b,f,λx=>z<|y b 0 q x,bJ q k,c b 0 _ q z d⟩⟩,zQ.cells k y c h⟩
def z.ahT{bs bs' br br' w w'}(F:w.heap.size<=w'.heap.size)(X:∀ b o,b<w.heap.size->bs' b o->bs b o)(Q:∀ b,b<w.heap.size->br' b->br b)(P:∀ b o v,b<w.heap.size->¬bs b o->w.cell? ⟨b,o,am⟩=al v->w'.cell? ⟨b,o,am⟩=al v)(d:∀ b,b<w.heap.size->¬br b->w'.heap[b]? = w.heap[b]?)(B:∀ (b:Nat) (a:Array MapEntry) (t:Nat),w.heap[b]? = al (.map a t)->w'.heap[b]? = al (.map a t)){e v}(h:z bs br w e v):z bs' br' w' e v:=by
 induction h with
 |any x=>exact .any x
 |v x=>exact .v x
 |agg l s h k C=>exact .agg l s h C
 |iO l s h k C=>exact .iO l s h C
 |sl Y n Z r A c f U T S q d y k C=>
  refine .sl Y n Z r A c f U T S q d (λi j R p=>?_) C;have⟨b,o,e,u,V,D⟩:=y i j R p;exact⟨b,o,e,λg=>u<|X b _ V g,bJ V F,P b _ _ V u D⟩
 |mT N Y n Z r A c f U T S q M y k C=>
  refine .mT N Y n Z r A c f U T S q M (λi j R p=>?_) C;have⟨b,o,e,u,V,D⟩:=y i j R p;exact⟨b,o,e,λg=>u<|Q b V g,bJ V F,by rw[World.cell?_of_block (w:=w)<|d b V u];exact D⟩
 |jE m r b o f u V q y k C=>
  exact .jE m r b o f (λg=>u<|Q b V g) (bJ V F) q (λj p=>by rw[World.cell?_of_block (w:=w)<|d b V u];exact y j p) C
 |fn f l s h k C=>exact .fn f l s h C
 |mp l b t a u V L H=>exact .mp l b t a (λx=>u<|X b 0 V x) (bJ V F) (B b _ _ L)<|H.cells F X P
 |lF e v h C=>exact .lF _ _ C
def PV.qL:PV->Bool
 | .e x=>x.nr 3
 | .qC _ _=>ac
 |_=>aa
def Bx.qL:Bx->Bool
 | .cells _ l=>l.all<|E.nr 3
 | .row ..=>aa
 |_=>ac
def afd{B u w w' L b}(F:w.heap.size<=w'.heap.size)(s:∀ x,x<w.heap.size->x≠b->w'.heap[x]? = w.heap[x]?)(t:∀ x o,x<w.heap.size->u x o->B x o)(r:∀ o v,b<w.heap.size->¬B b o->w.cell? ⟨b,o,am⟩=al v->w'.cell? ⟨b,o,am⟩=al v)(f:∀ (n:Array MapEntry) (c:Nat),w.heap[b]? ≠ al (.map n c)){e v}d(p:e.nr d=aa)(h:z (jt B L) (jq L) w e v):z (jt u L) (jq L) w' e v:=by
 refine z.ahT (bs:=jt B L) (br:=λx=>jq L x\/x=b) F (λx o k y=>?_) (λx _ y=>.inl y) (λx o v k U D=>?_) (λx k U=>s x k λe=>U<|.inr e) (λx n c k=>?_)<|h.nr d p
 .rcases y with y|y
  .exact .inl<|t x o k y
  .exact .inr y
 .by_cases e:x=b
  .subst e;exact r o v k (λq=>U<|.inl q) D
  .rw [World.cell?_of_block (w:=w)<|s x k e];exact D
 .by_cases e:x=b
  .subst e;exact absurd k<|f n c
  .rw [s x (cX.1 k).1 e];exact k
def jy.tail{D q B U σ a w w' L}(r:jy D B σ a w L){b}(J:¬jq L b)(F:w.heap.size<=w'.heap.size)(N:∀ x,x<w.heap.size->x≠b->w'.heap[x]? = w.heap[x]?)(C:∀ x o,x<w.heap.size->U x o->B x o)(A:∀ o v,b<w.heap.size->¬B b o->w.cell? ⟨b,o,am⟩=al v->w'.cell? ⟨b,o,am⟩=al v)(I:∀ (K:Array MapEntry) (V:Nat),w.heap[b]? ≠ al (.map K V))(S:qZ q q.w w')(X:∀ x,jq L x->¬q.pX x)(O:∀ t,(σ.get t).qL=aa)(W:∀ id c,σ.bo id=al c->c.qL=aa):jy q U σ a w' L:=by
 have kP:∀ {e:E} {v:av} (d:Nat),e.nr d=aa->z (jt B L) (jq L) w e v->z (jt U L) (jq L) w' e v:=λd hd h=>afd F N C A I d hd h
 have u:∀ id x,L.own id x->w'.heap[x]? = w.heap[x]?:=λid x m=>N x (r.hw id x m).2 λe=>J ⟨id,e▸m⟩
 refine⟨r.hd,r.hs,λt=>?_,λid c M=>?_,r.hv,r.hn,λid x m=>⟨X x ⟨id,m⟩,bJ (r.hw id x m).2 F⟩,r.hi,S,r.hl⟩
 .have zy:=r.ht t;have g:=O t;cases s:σ.get t with
  |e x=>rw[s]at zy g;exact kP 3 g zy
  |qC f cap=>rw[s]at g;cases g
  |box id off=>rw[s]at zy;exact zy
  |own id=>rw[s]at zy;exact zy
  |oe id H i j=>rw[s]at zy;exact zy
  |jg id k=>rw[s]at zy;exact zy
  |rK id H k i j=>rw[s]at zy;exact zy
 .have zy:=r.hb id c M;have g:=W id c M;cases c with
  |cells T l=>
   have⟨y,vs,R,Y,Z,G,e5⟩:=zy;refine⟨y,vs,R,Y,by rw[u id y<|(Y y).2 rfl];exact Z,⟨G.len,λi p v s hv=>kP 3 (bZ.1 g p<|dX s)<|G.kP i p v s hv⟩,e5⟩
  |row nl T n H el=>
   have⟨f,R,Y,Z⟩:=zy;exact⟨f,R.block λx m=>u id x<|(Y x).2 m,Y,λi j Q P=>⟨kP 2 (Z i j Q P).2 (Z i j Q P).1,(Z i j Q P).2⟩⟩
  |kn=>cases g
def Gb(S:av)(n sz x o:Nat):Prop:=∃ f c,S = .slice (al ⟨x,f,am⟩) n c/\f<=o/\o<f+n*sz
structure Ph(B:Nat->Nat->Prop)(w:World)(S:Value)(T:TypeId)(n sz:Nat)(f:Nat->Nat->Value):Prop where
 own:nU w S T n sz f true
 hid:∀ x o,S.ownBlock=some x->¬B x o->Gb S n sz x o
 O3:∀ x o,Gb S n sz x o->¬B x o
def Gb.qV{S n sz x o}(h:Gb S n sz x o):S.ownBlock=al x:=by
 have⟨f,c,e,_⟩:=h;rw[e];rfl
def nU.AT{w S T n sz f nl}(h:nU w S T n sz f nl){x}(y:S.ownBlock=al x):
 ∃ o c k,S = .slice (al ⟨x,o,am⟩) n c/\w.heap[x]? = al (.cells k T (0,0))/\(∀ i j,i<n->j<sz->k[o+(i*sz+j)]? = al (f i j))/\(nl=aa->∀ u,u ∈ k->qI u=ac):=by
 rcases h with⟨rfl,_⟩|⟨b,o,c,k,rfl,g,_,_,_,z,v⟩
 .simp [bf]at y
 .simp [bf]at y;subst y;exact⟨o,c,k,rfl,g,λi j t s=>(z i j t s).1,v⟩
def EZ(B:Nat->Nat->Prop)(S:av)(n sz:Nat)(x o:Nat):Prop:=(S.ownBlock=al x->¬Gb S n sz x o)/\(S.ownBlock≠al x->B x o)
def agv{O B σ a w w' L}(r:jy O B σ a w L)(hB:∀ b o,B b o->O.pX b/\pR O.w b){S zx T n sz m f g}(F:Ph B w S T n sz f)(h:It w S T n sz m f g aa zx w')(kF:0<sz)(RJ:∀ b,S.ownBlock=al b->¬jq L b)(iV:∀ b,S.ownBlock=al b->b<w.heap.size)(rC:∀ t,(σ.get t).qL=aa)(ku:∀ id bx,σ.bo id=al bx->bx.qL=aa):
 jy ⟨w',jq L⟩ (EZ B zx (n+m) sz) σ a w' L/\(∀ {e:E} {v:av} (d:Nat),e.nr d=aa->z (jt B L) (jq L) w e v->z (jt (EZ B zx (n+m) sz) L) (jq L) w' e v)/\Ph (EZ B zx (n+m) sz) w' zx T (n+m) sz (λi j=>if i<n then f i j else g (i-n) j)/\(∀ b o,EZ B zx (n+m) sz b o->(⟨w',jq L⟩:mj).pX b/\pR w' b):=by
 have ZH:∀ b,zx.ownBlock=al b->¬jq L b:=λb W=>by
  rcases h.qV b W with e|⟨e,_⟩
  .exact RJ b e
  .rintro ⟨id,u⟩;exact absurd (r.hw id b u).2 U 
 have JC:∀ b,zx.ownBlock=al b->b<w'.heap.size:=λb W=>by
  rcases h.qV b W with e|⟨_,e⟩
  .exact bJ (iV b e) h.size
  .exact e
 obtain⟨b,lk,nx,qu⟩:∃ b,¬jq L b/\(∀ x,zx.ownBlock=al x->x=b)/\(zx.ownBlock=al b\/b=w.heap.size):=by
  cases e:zx.ownBlock with
  |none=>exact⟨w.heap.size,λ⟨id,u⟩=>absurd (r.hw id _ u).2 U,λx p=>(by cases p),.inr rfl⟩
  |some y=>exact⟨y,ZH y e,λx p=>by cases p;rfl,.inl rfl⟩
 have sy:∀ x,x<w.heap.size->x≠b->w'.heap[x]? = w.heap[x]?:=λx p jY=>h.Jm x p λe=>jY (nx x e)
 suffices H:(∀ x o,x<w.heap.size->EZ B zx (n+m) sz x o->B x o)/\(∀ o v,b<w.heap.size->¬B b o->w.cell? ⟨b,o,am⟩=al v->w'.cell? ⟨b,o,am⟩=al v)/\(∀ (es:Array MapEntry) (Z:Nat),w.heap[b]? ≠ al (.map es Z))from by
  have⟨H1,H2,H3⟩:=H;refine⟨r.tail (b:=b) lk h.size sy H1 H2 H3 (qZ.refl _ _) (λx p zy=>zy.2 p) rC ku,λd hd h0=>afd h.size sy H1 H2 H3 d hd h0,⟨h.own,λx o p kU=>?_,λx o l X=>X.1 l.qV l⟩,λx o X=>?_⟩
  .exact b8 λl=>kU ⟨λ_=>l,λq=>absurd p q⟩
  .by_cases e:zx.ownBlock=al x
   .refine ⟨⟨JC x e,ZH x e⟩,?_⟩;have⟨o1,c3,V,C,R,_,ke⟩:=h.own.AT e;intro o v l;simp only[aC,R]at l;simp only[ic,bS,bE]at l;have:=ke rfl _ (dG l);cases this
   .have⟨Y,A⟩:=hB x o<|X.2 e;have Q:x<w.heap.size:=bJ Y.1 r.he.size;have DL:=h.Jm x Q e;refine⟨⟨bJ Q h.size,λ⟨id,u⟩=>(r.hw id x u).1 Y⟩,?_⟩;have k:=r.he.block x Y;exact(A.Aw k).Aw DL
 refine⟨λx o p X=>?_,λo v pO kU D=>?_,λes Z I=>?_⟩
 .
  by_cases e:zx.ownBlock=al x
  .refine b8 λhnb=>X.1 e ?_
   rcases h.AT with⟨y,s,c,c',rfl,rfl⟩|P
   .have N:y=x:=by simpa[bf]using e
    subst N;have⟨M,c2,J,Y,A⟩:=F.hid y o rfl hnb;cases J;refine⟨s,c',rfl,Y,bJ A ?_⟩;have:=bX sz (U:n<=n+m);omega
   .exact absurd (P x e) U 
  .exact X.2 e
 .
  by_cases e:zx.ownBlock=al b
  .rcases h.AT with⟨y,s,c,c',G,K⟩|P
   .have N:y=b:=by rw[K]at e;simpa[bf]using e
    subst N;have eS:S.ownBlock=al y:=by rw[G];rfl
    have⟨M,c2,J,Y,A⟩:=F.hid y o eS kU;rw[G]at J;cases J;have⟨o1,c3,V,C,R,Zg,_⟩:=F.own.AT eS;have⟨o2,c4,cur',e4,hg',hc4,_⟩:=h.own.AT e;rw[G]at C;cases C;rw[K]at e4;cases e4;obtain⟨q,hq⟩:∃ q,q=o-s:=⟨_,rfl⟩
    have Cm:q/sz<n:=Nat.div_lt_of_lt_mul (by rw[bL];omega);have vt:q%sz<sz:=bO _ kF;have hq3:o=s+(q/sz*sz+q%sz):=by rw[bL,cH];omega
    have k1:=Zg _ _ Cm vt;have k2:=hc4 (q/sz) (q%sz) U vt;rw[bt Cm]at k2;rw[hq3]at D ⊢;simp only[aC,R]at D;simp only[aC,hg'];simp only[ic,bS,bE]at D ⊢;rw[k1]at D;rw[k2];exact D
   .exact absurd (P b e) U 
  .rw [World.cell?_of_block (w:=w)<|h.Jm b pO e];exact D
 .by_cases e:zx.ownBlock=al b
  .rcases h.AT with⟨y,s,c,c',G,K⟩|P
   .have N:y=b:=by rw[K]at e;simpa[bf]using e
    subst N;have⟨o1,c3,V,C,R,Zg,_⟩:=F.own.AT (x:=y) (by rw[G];rfl);rw[R]at I;cases I
   .have:=(cX.1 I).1;exact absurd (P b e) U 
  .rcases qu with q|q
   .exact e q
   .have:=(cX.1 I).1;omega
structure Sn(w00:mj)(B0 B:Nat->Nat->Prop)(w:World)(L:Lk)(m sz:Nat)(T0:TypeId)(S:Nat->Value)(len:Nat->Nat)(F:Nat->Nat->Nat->Value)(el:Nat->Nat->Nat->E):Prop where
 tail:∀ k,k<m->Ph B w (S k) T0 (len k) sz (F k)
 kP:∀ k i j,k<m->i<len k->j<sz->z (jt B L) (jq L) w (el k i j) (F k i j)/\(el k i j).nr 2=true
 qV:∀ k x,k<m->(S k).ownBlock=some x->¬jq L x/\x<w.heap.size/\¬w00.pX x
 IY:∀ k k' x,k<m->k'<m->(S k).ownBlock=some x->(S k').ownBlock=some x->k=k'
 sub:∀ x o,B0 x o->B x o
def Sn.sl{u r B w L m sz T0 S len F el}(n:Sn u r B w L m sz T0 S len F el){k}(T:k<m):
 z (jt B L) (jq L) w (.sl aa (len k) sz<|el k) (S k)/\(0<len k->∃ A c,S k = .slice A (len k) c):=by
 rcases(n.tail k T).own with⟨e,p⟩|⟨b,o,c,l,e,g,f,d,Y,v,a⟩
 .rw [e,p];exact⟨.sl aa 0 sz _ am 0 (λ_ _=>undef) (bA _) aG (λ_=>rfl) (λi j x=>absurd x<|bD i) (λi j x=>absurd x<|bD i) (λi j x=>absurd x<|bD i) λi j x=>absurd x<|bD i,λh=>absurd h<|dL 0⟩
 .have X:(S k).ownBlock=al b:=by rw[e];rfl
  have t:=(n.tail k T).O3;have s:=n.qV k b T X;refine⟨?_,λ_=>⟨_,_,e⟩⟩;rw[e]at t ⊢;refine .sl aa (len k) sz _ _ c (F k) f (by unfold maxLen at d;omega) (λh=>by cases h) (λi j x y=>⟨(v i j x y).2,λ_=>a rfl _ (dG (v i j x y).1)⟩) (λi j x y=>(n.kP k i j T x y).2)
   (λi j x y=>⟨b,o,rfl,?_,s.2.1,?_⟩) (λi j x y=>(n.kP k i j T x y).1)
  .rintro (q|q)
   .refine t b _ ⟨o,c,rfl,U,?_⟩ q;have:=bX sz (U:i+1<=len k);rw[bT,bU]at this;omega
   .exact s.1 q
  .simp only[aC,g];simpa using(v i j x y).1
def Jn(P:Program)(K:ap->Prop)(h:mj)(y:Nat->Nat->Prop)(m sz:Nat)(T0:ay)(σ:PS)(S:Nat->av)(len:Nat->Nat)(F:Nat->Nat->Nat->av)(el:Nat->Nat->Nat->E)(a:Act)(w:ap):Prop:=
 ∃ B L,Gd P K ⟨w,jq L⟩ B/\jy ⟨w,jq L⟩ B σ a w L/\Sn h y B w L m sz T0 S len F el/\qZ h h.w w/\(∀ x,jq L x->¬h.pX x)/\(∀ k,qZ h h.w k->K k)
def jy.TO{k B σ a w L}(r:jy k B σ a w L):jy ⟨w,jq L⟩ B σ a w L:=
 ⟨r.hd,r.hs,r.ht,r.hb,r.hv,r.hn,λi x h=>⟨λq=>q.2 ⟨i,h⟩,(r.hw i x h).2⟩,r.hi,qZ.refl _ _,r.hl⟩
section
variable{P:Program}{K:ap->Prop}
def Gd.TO{y B σ a w L}(g:Gd P K y B)(r:jy y B σ a w L):Gd P K ⟨w,jq L⟩ B:=
 ⟨λu h=>g.k u<|r.he.trans ⟨h.os,h.tape,h.output,h.size,λx z=>h.block x ⟨bJ z.1 r.he.size,λ⟨i,q⟩=>(r.hw i x q).1 z⟩⟩,
  λb o v=>by
   have⟨k,t⟩:=g.hB b o v;exact⟨⟨bJ k.1 r.he.size,λ⟨i,q⟩=>(r.hw i b q).1 k⟩,t.Aw<|r.he.block b k⟩⟩
def Jn.of{y X B m sz T0 τ S len F el Y w w' L p}(g:Gd P K ⟨w,jq L⟩ B)(n:Sn y X B w L m sz T0 S len F el)(f:qZ y y.w w)(Z:∀ x,jq L x->¬y.pX x)(J:∀ U,qZ y y.w U->K U)(r':jy ⟨w,jq L⟩ B τ Y w' p):Jn P K y X m sz T0 τ S len F el Y w':=by
 have l:∀ x,x<w.heap.size->jq p x->jq L x:=λx h ⟨V,q⟩=>b8 λe=>(r'.hw V x q).1 ⟨h,e⟩
 have E:∀ x,x<w.heap.size->¬jq L x->w'.heap[x]? = w.heap[x]?:=λx h e=>r'.he.block x ⟨h,e⟩
 have d:w.heap.size<=w'.heap.size:=r'.he.size;have c:∀ x,y.pX x->w'.heap[x]? = w.heap[x]?:=λx h=>E x (bJ h.1 f.size) λq=>Z x q h
 refine⟨B,p,g.TO r',r'.TO,⟨λk u=>?_,λk i j u T R=>?_,λk x u h=>?_,n.IY,n.sub⟩,?_,λx h z=>?_,J⟩
 .have t:=n.tail k u;exact⟨t.own.block λx h=>by have⟨a,s,_⟩:=n.qV k x u h;exact E x s a,t.hid,t.O3⟩
 .have⟨Q,N⟩:=n.kP k i j u T R;refine⟨Q.mono d (λb o v h=>?_) (λb v h=>l b v h) λb v r=>E b v ?_,N⟩
  .rcases h with h|h
   .exact .inl h
   .exact .inr<|l b v h
  .rcases r with⟨o,r⟩|r
   .exact λq=>r<|.inr q
   .exact r
 .have⟨a,s,M⟩:=n.qV k x u h;exact⟨λq=>a<|l x s q,bJ s d,M⟩
 .exact f.trans ⟨r'.he.os,r'.he.tape,r'.he.output,d,c⟩
 .exact Z x (l x (bJ z.1 f.size) h) z
def Jn.Ae{x k m sz T0 σ S len F el c Q}(h:Sp P K c σ Q){a w}(j:Jn P K x k m sz T0 σ S len F el a w):c.wp P (λe y w'=>∃ ex τ,e=ex.to/\Q ex τ/\Jn P K x k m sz T0 τ S len F el y w') a w:=by
 have⟨B,L,g,r,n,s,o,J⟩:=j;refine Code.wp_mono ?_ (h _ B a w L g r);rintro e y w' ⟨ex,τ,u,rfl,q,z⟩;exact⟨ex,τ,rfl,q,Jn.of g n s o J z⟩
end
def agt{P T}(y:mP P T){w t ty e v h}(a:mS T t=al v)(i:v.d = .slice e)(X:mS T e=al h){z}(Y:xt h=al z){sz}(Z:h.i.size=sz)(D:z.length=sz)(U:0<sz)(V:1<=h.i.bytes)(R:z.all E.nT=aa){S n m f}(Q:nU w S e n sz f aa){A c g}(N:∀ k j,k<m->j<sz->∃ b o,A=al ⟨b,o,am⟩/\w.cell? ⟨b,o+(k*sz+j),am⟩=al (g k j))(M:A=am->m=0)(s:∀ k j,k<m->j<sz->(g k j).oneCell'=aa/\qI (g k j)=ac)(L:(n+m)*h.i.bytes<=140737488355328):
 ∃ r w',(Builtin.append_ #[t,t] ty #[S,.slice A m c]).run P w = .ok r w'/\It w S e n sz m f g aa r w':=by
 have x:P.underlying t=al (.slice e):=by rw[y.sJ a,i]
 have⟨q,H,G⟩:=F8 Y;have⟨p,F⟩:=G (λ_ _=>False) (λ_=>False) w;have B:q.cells.size=sz:=by have:=p.len;simp only[dR]at this;omega
 exact Uc P w t ty e h.i q sz x (y.Bn X) H Z B U V (λu x=>F u<|by simpa using x) S n f aa Q A m c g N M (λk j l d=>⟨(s k j l d).1,λ_=>(s k j l d).2⟩) (λ_ u x=>Nu p R u<|by simpa using x) L
def tW(S:Nat->av)(i:Nat)(v:av)(k:Nat):av:=if k=i then v else S k
def C0(len:Nat->Nat)(i k:Nat):Nat:=if k=i then len k+1 else len k
def sY{h:Type}(len:Nat->Nat)(F:Nat->Nat->Nat->h)(i:Nat)(g:Nat->Nat->h)(k:Nat):Nat->Nat->h:=if k=i then(λq j=>if q<len k then F k q j else g (q-len k) j)else F k
def Jn.app{P K T}(hT:mP P T){d J}(xH:∀ x o,J x o->d.pX x){m sz T0 σ S len F el o s x t c}(hc:c={ callee:=.builtin .append,args:=#[s,x],argTypes:=#[t,t] })(iW:o.op = .call c){tt H}(h1:mS T t=al tt)(h2:tt.d = .slice T0)(h3:mS T T0=al H){zy}(h4:xt H=al zy)(h5:H.i.size=sz)(h6:zy.length=sz)(h7:0<sz)(h8:1<=H.i.bytes)(h9:zy.all E.nT=aa){a w}(j:Jn P K d J m sz T0 σ S len F el a w){i}(R:i<m){pe}(hs:σ.op s = .e (.lF (S i) pe)){ex}(hx:σ.op x = .e (.sl aa 1 sz ex))(j8:(len i+1)*H.i.bytes<=140737488355328)(hd:th σ o.dst=aa)(rC:∀ t,(σ.get t).qL=aa)(ku:∀ id bx,σ.bo id=al bx->bx.qL=aa):
 ∃ A c w' g,(execOp a.eval o).run P w = .ok (.value<|.slice A (len i+1) c) w'/\Jn P K d J m sz T0 (σ.put o.dst<|.e<|.lF (.slice A (len i+1) c)<|.sl aa (len i+1) sz<|sY len el i ex i) (tW S i<|.slice A (len i+1) c) (C0 len i) (sY len F i g) (sY len el i ex) (a.put o.dst<|.slice A (len i+1) c) w':=by
 have⟨B,L,gd,r,n,od,ho,mJ⟩:=j;have es:a.eval s=S i:=by
  have:=r.op s;rw[hs]at this;exact(z.Kz this).1
 obtain⟨A,cx,g,RQ,EW,hgc,Jx,Q,gk⟩:=Vt (p:=.e<|.sl aa 1 sz ex) (show PV.Lz (.e<|.sl aa 1 sz ex)=al (aa,1,sz,ex)from rfl) (by have:=r.op x;rw[hx]at this;exact this);have⟨v,w',lH,X⟩:=agt hT (w:=w) (ty:=o.type) (c:=cx) h1 h2 h3 h4 h5 h6 h7 h8 h9 (n.tail i R).own Q (λhA=>by have:=EW hA;omega) (λk q f N=>⟨(Jx k q f N).1,(Jx k q f N).2 rfl⟩) j8;have⟨r',kP,tl,gB⟩:=agv r gd.hB (n.tail i R) X h7 (λb Z=>(n.qV i b R Z).1) (λb Z=>(n.qV i b R Z).2.1) rC ku;have w0s:d.w.heap.size<=w.heap.size:=od.size;have Y:∀ y,v.ownBlock=al y->¬jq L y/\y<w'.heap.size/\¬d.pX y:=λy u=>by
  rcases X.qV y u with e|⟨e1,e2⟩
  .have⟨b1,b2,b3⟩:=n.qV i y R e;exact⟨b1,bJ b2 X.size,b3⟩
  .exact ⟨λ⟨id,q⟩=>absurd (r.hw id y q).2 U,e2,λq=>absurd q.1 U⟩
 have l:∀ k y,k<m->k≠i->(S k).ownBlock=al y->v.ownBlock≠al y:=λk y f jY u O=>by
  rcases X.qV y O with e|⟨e1,_⟩
  .exact jY<|n.IY k i y f R u e
  .exact absurd (n.qV k y f u).2.1 U 
 have so:qZ d d.w w':=od.trans ⟨X.os,X.tape,X.output,X.size,λy u=>X.Jm y (bJ u.1 od.size) λe=>(Y y e).2.2 u⟩;have sn:Sn d J (EZ B v (len i+1) sz) w' L m sz T0 (tW S i v) (C0 len i) (sY len F i g)<|sY len el i ex:=by
  refine⟨λk f=>?_,λk q jj f N hj=>?_,λk y f u=>?_,λk W y f Bd u I=>?_,λy q Z=>?_⟩
  .by_cases e:k=i
   .subst e;simp only[tW,C0,sY,bK];exact tl
   .simp only[tW,C0,sY,bn e];have tk:=n.tail k f;exact⟨tk.own.block λy u=>X.Jm y (n.qV k y f u).2.1<|l k y f e u,λy q u kU=>tk.hid y q u λZ=>kU ⟨λO=>absurd O<|l k y f e u,λ_=>Z⟩,λy q O hh=>tk.O3 y q O<|hh.2<|l k y f e O.qV⟩
  .by_cases e:k=i
   .subst e;simp only[C0,sY,bK]at N ⊢;by_cases iV:q<len k
    .simp only[iV,bK];have⟨G,V⟩:=n.kP k q jj f iV hj;exact⟨kP 2 V G,V⟩
    .simp only[iV,bE];have⟨G,V⟩:=gk (q-len k) jj U hj;exact⟨kP 2 V G,V⟩
   .simp only[C0,sY,bn e]at N ⊢;have⟨G,V⟩:=n.kP k q jj f N hj;exact⟨kP 2 V G,V⟩
  .by_cases e:k=i
   .subst e;simp only[tW,bK]at u;exact Y y u
   .simp only[tW,bn e]at u;have⟨b1,b2,b3⟩:=n.qV k y f u;exact⟨b1,bJ b2 X.size,b3⟩
  .by_cases e:k=i
   .by_cases M:W=i
    .rw [e,M]
    .subst e;simp only[tW,bK,bn M]at u I;exact absurd u<|l W y Bd M I
   .by_cases M:W=i
    .subst M;simp only[tW,bK,bn e]at u I;exact absurd I<|l k y f e u
    .simp only[tW,bn e,bn M]at u I;exact n.IY k W y f Bd u I
  .exact ⟨λO=>absurd (xH y q Z) (Y y O).2.2,λ_=>n.sub y q Z⟩
 have⟨D,C⟩:=sn.sl R;simp only[tW,C0,bK]at D C;have⟨Av,cv,ev⟩:=C<|Nat.succ_pos _;subst ev;refine⟨Av,cv,w',g,?_,EZ B _ (len i+1) sz,L,⟨λw2 h=>mJ w2<|so.trans ⟨h.os,h.tape,h.output,h.size,λy u=>h.block y ⟨bJ u.1 so.size,λq=>ho y q u⟩⟩,gB⟩,r'.put o.dst (.e<|.lF _ _) _ hd<|z.lF _ _ D,sn,so,ho,mJ⟩;subst hc;have em:(#[s,x]:Array Operand).map a.eval = #[a.eval s,a.eval x]:= aK ;simp only[execOp,iW,resolve,em,es,RQ,Sem.run_bind,Sem.run_pure,Result.andThen_ok,invoke,builtin,lH]
section
variable {P:Program} {K:ap->Prop} {T:List TI} {w00:mj} {B0:Nat->Nat->Prop} {m sz:Nat} {T0:ay} {S:Nat->av} {len:Nat->Nat} {F:Nat->Nat->Nat->av} {el:Nat->Nat->Nat->E} {σ τ:PS} {a:Act} {w:ap} {iz:Array Oper}
def Jn.step{O o u}(k:mP P T)(j:Jn P K w00 B0 m sz T0 σ S len F el a w)(h:tD P K T O iz σ o=al u)(y:∀ q,q ∈ u.ki->q)Kc Q(z:∀ x w',Jn P K w00 B0 m sz T0 (σ.app o.dst u) S len F el x w'->Kc x w'):
 (Region.wanted o (yielded iz a.tmps)=aa/\o.wp P a w Kc Q)\/(Region.wanted o (yielded iz a.tmps)=ac/\Kc (a.put o.dst undef) w):=by
 have⟨B,L,g,r,n,s,v,J⟩:=j;exact Qr k g r h y Kc Q λx w' p t=>z x w'<|Jn.of g n s v J t
def Jn.qX(j:Jn P K w00 B0 m sz T0 σ S len F el a w)(h:ug σ τ):Jn P K w00 B0 m sz T0 τ S len F el a w:=by
 have⟨B,L,g,r,n,s,q,J⟩:=j;exact⟨B,L,g,r.qX h,n,s,q,J⟩
def Jn.le(j:Jn P K w00 B0 m sz T0 σ S len F el a w)(h:PS.le σ τ):Jn P K w00 B0 m sz T0 τ S len F el a w:=by
 have⟨B,L,g,r,n,s,q,J⟩:=j;have⟨y,x⟩:=h _ B a w L (λb o k=>(g.hB b o k).1) r;exact Jn.of g n s q J x
def Jn.drew(j:Jn P K w00 B0 m sz T0 σ S len F el a w):Jn P K w00 B0 m sz T0 σ S len F el a w.drew:=by
 have⟨B,L,g,r,n,h,q,J⟩:=j;exact Jn.of g n h q J r.drew
def Jn.move(j:Jn P K w00 B0 m sz T0 σ S len F el a w)d t(h:th σ (al d)=aa):Jn P K w00 B0 m sz T0 (σ.put (al d)<|σ.get t) S len F el (a.put (al d)<|a.eval<|.tmp t) w:=by
 have⟨B,L,g,r,n,s,q,J⟩:=j;exact⟨B,L,g,r.put (al d) _ _ h<|r.ht t,n,s,q,J⟩
def abx{o t}(h:o.op = .move (.tmp t))(g:o.guard=am)a:Yields P iz o (a.eval<|.tmp t) a:=by
 refine .inl ⟨by unfold Region.wanted;rw[g],λw=>?_⟩;simp only[execOp,h,Sem.run_bind,Sem.run_pure,Result.andThen_ok]
structure Iw(iz:Array Oper)(listed:Array Bool)(R:List<|Nat×Oper×kZ)(tl:List Nat):Prop where
 mL:∀ x,x ∈ R->iz[x.1]? = some x.2.1/\listed.getD x.1 true=false
 tat:∀ t,t ∈ tl->t<iz.size/\listed.getD t true=false
 all:∀ i,i<iz.size->listed.getD i true=false->(∃ x,x ∈ R/\x.1=i)\/i ∈ tl
 pw:R.Pairwise λx y=>x.1<y.1/\(uT iz 3 y.2.1 x.1||Bm iz x.2 y.2)=true
 ed:∀ x,x ∈ R->∀ e,e ∈ x.2.1.after->Region.binds .any e=true->e.on<x.1
 lt:∀ t,t ∈ tl->∀ x,x ∈ R->x.1<t
 up:∀ i,i<iz.size->listed.getD i true=false->∀ j z,iz[j]? = some z->xY z i=true->listed.getD j true=false
 tr:∀ t z,t ∈ tl->iz[t]? = some z->∀ x,x ∈ R->uT iz 12 z x.1=true
def Iw.uT{l R t}(h:Iw iz l R t){i}(x:i<iz.size)(y:l.getD i aa=ac):∀ (n:Nat) (j:Nat) (z:Oper),iz[j]? = al z->Pu.uT iz n z i=aa ->
 l.getD j aa=ac/\∃ e,e ∈ z.after/\Region.binds .any e=aa/\l.getD e.on aa=ac/\e.on<iz.size:=by
 have d:∀ (i:Nat),i<iz.size->l.getD i aa=ac->∀ (j:Nat) (z:Oper),iz[j]? = al z->xY z i=aa->l.getD j aa=ac/\∃ e,e ∈ z.after/\Region.binds .any e=aa/\l.getD e.on aa=ac/\e.on<iz.size:=by
  intro i x y j z u v;refine⟨h.up i x y j z u v,?_⟩;unfold xY at v;have⟨e,G,k⟩:=dh.1 v;simp only[bN]at k;refine⟨e,by simpa using G,k.1,?_,?_⟩
  .rw [lY.1 k.2];exact y
  .rw [lY.1 k.2];exact x
 intro n
 induction n with
 |zero=>exact d i x y
 |succ n s=>
  intro j z u r;simp only[Pu.uT,eG]at r;rcases r with r|r
  .exact d i x y j z u r
  .have⟨e,G,k⟩:=dh.1 r;simp only[bN]at k;have⟨k,C⟩:=k;split at C
   .rename_i q V;have⟨p,_⟩:=s e.on q V C;have m:=(cX.1 V).1;refine d e.on m p j z u ?_;unfold xY;refine dh.2 ⟨e,G,?_⟩;rw[k];simp
   .cases C
def Mz{l:Array Bool}{i}(h:l.getD i aa=ac)(k:l.getD i ac=aa):False:=by
 by_cases s:i<l.size
 .simp [s]at h k;rw[h]at k;cases k
 .simp [s]at k
def Dv{l:Array Bool}{i j}(x:i<l.size):(l.setIfInBounds i aa).getD j aa=ac↔j≠i/\l.getD j aa=ac:=by
 by_cases e:j=i
 .subst e;simp[x]
 .by_cases s:j<l.size
  .simp [s,e];rw[awh _ λh=>e h.symm]
  .simp [s]
def Jn.agl(hT:mP P T){Q B b}(hq:∀ (k:Array Bool) N w',k.size=iz.size->(∀ i,i<iz.size->(k.getD i aa=ac↔i ∈ B))->Jn P K w00 B0 m sz T0 τ S len F el N w'->wpAny P .any iz Q b k N w'):
 ∀ (f:Nat) (k:Array Bool) (R:List<|Nat×Oper×kZ) (σ:PS) (a:Act) (w:ap),R.length=f->k.size=iz.size->Iw iz k R B->(∀ x,x ∈ R->∀ q,q ∈ x.2.2.ki->q) ->
  yH P K T iz (R.map (·.2)) σ τ->Jn P K w00 B0 m sz T0 σ S len F el a w->wpAny P .any iz Q (f+b) k a w:=by
 intro f
 induction f with
 |zero=>
  intro k R σ a w v M l I L j;have hR:=dM v;subst hR;rw[ct];refine hq k a w M (λi X=>⟨λh=>?_,λh=>(l.tat i h).2⟩)<|j.qX L;rcases l.all i X h with⟨x,u,_⟩|h
  .simp at u
  .exact h
 |succ f ih=>
  intro k R σ a w v M l I L jn;rw[(U:f+1+b=f+b+1)];obtain⟨p,R0,J⟩:∃ p R0,R=p::R0:=by
   cases R with
   |nil=>simp at v
   |cons x R=>exact⟨x,R,rfl⟩
  have H:p ∈ R:=by rw[J];simp
  have E:=l.mL p H;have YK:p.1<iz.size:=(cX.1 E.1).1;refine⟨λAn=>?_,λi X=>?_⟩
  .
   exfalso;have:p.1 ∈ Region.ready .any iz k:=Pu.Eb.2 ⟨YK,E.2,p.2.1,E.1,λe n hb=>by
    have Fb:=l.ed p H e n hb;cases g:k.getD e.on aa with
    |true=>
     have:e.on<k.size:= U ;simp[this]at g ⊢;exact g
    |false=>
     exfalso;rcases l.all e.on U g with⟨y,r,Fm⟩|s
     .rw [J]at r;rcases dg.1 r with r|r
      .subst r;omega
      .have:=(gF.1<|J▸l.pw).1 y r;omega
     .have:=l.lt _ s p H;omega⟩
   rw[An]at this;simp at this
  .have⟨h1,h2,o,Y,W⟩:=Pu.Eb.1 X;rcases l.all i h1 h2 with⟨y,r,R1⟩|s
   case inr=>
    exfalso;have⟨_,e,G,d,Cc,_⟩:=l.uT YK E.2 12 i o Y<|l.tr i o s Y p H;exact Mz Cc<|W e G d
   subst R1;have DO:=l.mL y r;obtain⟨A,C,rfl⟩:=List.append_of_mem r;have Rq:∀ x,x ∈ A->Bm iz x.2 y.2=aa:=by
    intro x u;have hp:=(gG.1 l.pw).2.2 x u y aK;rcases awQ.1 hp.2 with n|n
    .exfalso;have Z:=l.mL x (by simp[u]);have⟨_,e,G,d,lQ,iV⟩:=l.uT (cX.1 Z.1).1 Z.2 3 y.1 y.2.1 DO.1 n;have sQ:o=y.2.1:=by rw[DO.1]at Y;exact(ig Y).symm
     exact Mz lQ<|W e (by rw[sQ];exact G) d
    .exact n
   rw[fU,ew]at L;have⟨⟨O,k1⟩,k2⟩:=L.Yl (λx u=>by
    obtain⟨z,c,rfl⟩:=dF.1 u;exact Rq z c)
   have zy:y.1<k.size:=by rw[M];exact h1
   have V:∀ x,x ∈ A++C->x ∈ A++y::C:=λx u=>by
    rcases dP.1 u with u|u<;>simp[u]
   have Ry:Iw iz (k.setIfInBounds y.1 aa) (A++C) B:=by
    have jY:∀ x,x ∈ A++C->x.1≠y.1:=by
     intro x u;rcases dP.1 u with u|u
     .have:=((gG.1 l.pw).2.2 x u y aK).1;omega
     .have:=((gF.1 (gG.1 l.pw).2.1).1 x u).1;omega
    refine⟨λx u=>?_,λt s=>?_,λj hj g=>?_,?_,λx u=>l.ed x<|V x u,λt s x u=>l.lt t s x<|V x u,λi X g j z c n=>?_,λt z s c x u=>l.tr t z s c x<|V x u⟩
    .have⟨q1,q2⟩:=l.mL x<|V x u;exact⟨q1,(Dv zy).2 ⟨jY x u,q2⟩⟩
    .have⟨q1,q2⟩:=l.tat t s;exact⟨q1,(Dv zy).2 ⟨λe=>by have:=l.lt t s y r;omega,q2⟩⟩
    .have⟨e1,D⟩:=(Dv zy).1 g;rcases l.all j hj D with⟨x,u,Fl⟩|s
     .refine .inl ⟨x,?_,Fl⟩;rcases dP.1 u with u|u
      .simp [u]
      .rcases dg.1 u with u|u
       .subst u;exact absurd Fl.symm e1
       .simp [u]
     .exact .inr s
    .exact l.pw.sublist<|List.Sublist.append (List.Sublist.refl A)<|List.sublist_cons_self y C
    .have⟨e1,D⟩:=(Dv zy).1 g;refine(Dv zy).2 ⟨λDB=>?_,l.up i X D j z c n⟩;subst DB;have hzo:z=o:=by rw[Y]at c;exact(ig c).symm
     subst hzo;unfold xY at n;have⟨e,G,d⟩:=dh.1 n;simp only[bN]at d;have Zx:=W e (by simpa using G) d.1;rw[lY.1 d.2]at Zx;exact Mz D Zx
   unfold wpOp;rw[DO.1];simp only;rcases jn.step hT k1 (I y r) (wpAny P .any iz Q (f+b)<|k.setIfInBounds y.1 aa) Q (λN w' hr=>ih _ (A++C) _ N w' (by simp at v ⊢;omega) (by simpa using M) Ry (λx u=>I x<|V x u) (by rw[fU];exact k2) hr)with⟨p1,p2⟩|⟨p1,p2⟩
   .rw [bt p1];exact .inl p2
   .rw [bn<|by rw[p1];simp];exact p2
def Tl(iz:Array Oper)(l:Array Bool)(t:List Nat):Prop:=l.size=iz.size/\∀ i,i<iz.size->(l.getD i aa=ac↔i ∈ t)
def Jd(iz:Array Oper)(i:Nat)(l:List Nat):Bool:=match iz[i]? with
 |some o=>o.after.all (λe=>!Region.binds .any e||(decide (e.on<iz.size) && !(i::l).contains e.on))&&l.all (λt=>t != i&&match iz[t]? with
  |some z=>z.after.any λe=>Region.binds .any e&&e.on==i
  |none=>aa)
 |none=>ac
def afK{Q i f t l}(y:Tl iz l<|i::t)(u:Jd iz i t=aa)(H:wpOp P iz Q i (λq w'=>∀ x,Tl iz x t->wpAny P .any iz Q f x q w') a w):wpAny P .any iz Q (f+1) l a w:=by
 unfold Jd at u;split at u
 rotate_left
 .cases u
 rename_i o p;simp only[bN,bZ]at u;have⟨f1,f2⟩:=u;have M:=(cX.1 p).1;have n:i ∈ Region.ready .any iz l:=Pu.Eb.2 ⟨M,(y.2 i M).2 aK,o,p,λe v b=>by
  have:=awP.1 f1 e v;simp only[b,fu,awr,bN,cK,dN]at this;cases hd:l.getD e.on aa with
  |true=>
   have d:e.on<l.size:=by rw[y.1];exact this.1
   simp[d]at hd ⊢;exact hd
  |false=>
   exfalso;have c:=(y.2 e.on this.1).1 hd;have m:=this.2;rw[List.contains_iff_mem.2 c]at m;cases m⟩
 refine⟨λA=>(by rw[A]at n;simp at n),λk X=>?_⟩;have⟨Y,Z,z,U,V⟩:=Pu.Eb.1 X;have s:k=i:=by
  rcases dg.1 ((y.2 k Y).1 Z)with e|e
  .exact e
  .exfalso;have:=f2 k e;rw[U]at this;simp only[bne_iff_ne,dH,Array.any_eq_true']at this;have⟨_,e,v,b⟩:=this;simp only[bN,ik]at b;have g:=V e v b.1;rw[b.2]at g;exact Mz ((y.2 i M).2 aK) g
 subst s;refine wpOp_mono (λq w' h=>h _ ⟨by simpa using y.1,λj r=>?_⟩) H;rw[Dv<|by rw[y.1];exact M,y.2 j r];constructor
 .rintro ⟨T,S⟩;rcases dg.1 S with e|e
  .exact absurd e T
  .exact e
 .intro e;refine⟨λr=>?_,List.mem_cons_of_mem _ e⟩;subst r;have:=f2 j e;simp at this
def Uz(iz:Array Oper)(k n:Nat):Bool:=Nat.ble (k+n) iz.size&&((be k).all (λj=>match iz[j]? with
 |some z=>z.after.toList.isEmpty
 |none=>aa)&&(List.range' (k+n)<|iz.size-(k+n)).all (λt=>match iz[t]? with
 |some z=>(be n).all λq=>uT iz 12 z (k+q)
 |none=>aa))
def ND(T:List TI)(iz:Array Oper)(k n:Nat)(σ h:PS)(t:Tr P K):R:=
 Kt T iz (λu τ t=>if BA iz k u.reverse&&Uz iz k n then EI .normal h .normal τ t else .jt) ((iz.toList.drop k).take n) [] σ t
def anL{s k n l}(Z:s.map (·.1)=(iz.toList.drop k).take n)(p:BA iz k s=aa)(r:Uz iz k n=aa)(f:∀ i,i<iz.size->(l.getD i aa=ac↔k<=i)):
 ∃ R:List<|Nat×Oper×kZ,R.map (·.2)=s/\R.length=n/\Iw iz l R (List.range' (k+n)<|iz.size-(k+n)):=by
 have a:∀ (s:List<|Oper×kZ) (k:Nat),BA iz k s=aa->(∀ j x,s[j]? = al x->iz[k+j]? = al x.1) ->
  ∃ R:List<|Nat×Oper×kZ,R.map (·.2)=s/\(∀ j x,R[j]? = al x->x.1=k+j)/\(∀ x,x ∈ R->iz[x.1]? = al x.2.1)/\(R.Pairwise λx y=>x.1<y.1/\(uT iz 3 y.2.1 x.1||Bm iz x.2 y.2)=aa) /\
   (∀ x,x ∈ R->∀ e,e ∈ x.2.1.after->Region.binds .any e=aa->e.on<x.1):=by
  intro s
  induction s with
  |nil=>exact λk _ _=>⟨[],rfl,λj x h=>by simp at h,λx h=>by simp at h,List.Pairwise.nil,λx h=>by simp at h⟩
  |cons x s Q=>
   intro k p D;simp only[BA,bN]at p;have⟨R,q,m,o,w,X⟩:=Q (k+1) p.2 (λj y u=>by have:=D (j+1) y (by simpa using u);rwa[(U:k+(j+1)=k+1+j)]at this);have V:∀ y,y ∈ R->k<y.1/\y.2 ∈ s:=by
    intro y u;have⟨j,d⟩:=dJ.1 u;have:=m j y d;exact⟨U,by rw[<-q];exact dF.2 ⟨y,u,rfl⟩⟩
   refine⟨(k,x)::R,by simp[q],λj y u=>?_,λy u=>?_,?_,λy u=>?_⟩
   .cases j with
    |zero=>simp at u;subst u;rfl
    |succ j=>have:=m j y (by simpa using u);omega
   .rcases dg.1 u with u|u
    .subst u;have:=D 0 x rfl;simpa using this
    .exact o y u
   .rw [gF];refine⟨λy u=>⟨(V y u).1,?_⟩,w⟩;exact bZ.1 p.1.2 y.2 (V y u).2
   .rcases dg.1 u with u|u
    .subst u;intro e c P;have:=bZ.1 p.1.1 e (by simpa using c);simpa[P]using this
    .exact X y u
 simp only[Uz,bN,bZ]at r;have⟨T,L,H⟩:=r;have T:k+n<=iz.size:=cY T;have⟨R,q,m,o,w,X⟩:=a s k p (λj x v=>by
  have:=congrArg (·[j]?) Z;simp only[cQ,v,cJ,eW,e9]at this;split at this
  .simpa using this.symm
  .cases this)
 have g:R.length=n:=by
  have F:=congrArg List.length q;have E:=congrArg List.length Z;simp at F E;omega
 have M:∀ x,x ∈ R->k<=x.1/\x.1<k+n:=λx v=>by
  have⟨j,d⟩:=dJ.1 v;have:=m j x d;have A:=(cF.1 d).1;omega
 refine⟨R,q,g,⟨λx v=>⟨o x v,(f _<|by have:=M x v;omega).2 (M x v).1⟩,λt r=>?_,λi Y S=>?_,w,X,λt r x v=>?_,λi Y S j z b c=>?_,λt z r b x v=>?_⟩⟩
 .rw [aw3]at r;exact⟨U,(f t U).2 U⟩
 .have:=(f i Y).1 S;by_cases h:i<k+n
  .have N:i-k<R.length:= U ;exact .inl ⟨R[i-k],cT N,by have:=m (i-k) R[i-k] (bH N);omega⟩
  .exact .inr<|by rw[aw3];omega
 .rw [aw3]at r;have:=M x v;omega
 .have O:=(cX.1 b).1;refine(f j O).2<|Nat.not_lt.1 λJ=>?_;have:=L j<|ca.2 J;rw[b]at this;unfold xY at c;have⟨e,G,_⟩:=dh.1 c;rw[List.isEmpty_iff.1 this]at G;simp at G
 .have h:=H t r;rw[b]at h;have Y:=M x v;have:=bZ.1 h (x.1-k)<|ca.2 U;rwa[(U:k+(x.1-k)=x.1)]at this
def Jn.mid(q:mP P T){k n f}(t:Tr P K)(h:ND T iz k n σ τ t=t.ex λt=>vO τ t .nil){l}(O:l.size=iz.size)(p:∀ i,i<iz.size->(l.getD i aa=ac↔k<=i))(j:Jn P K w00 B0 m sz T0 σ S len F el a w){Q}(g:∀ l z w',Tl iz l (List.range' (k+n)<|iz.size-(k+n))->Jn P K w00 B0 m sz T0 τ S len F el z w'->wpAny P .any iz Q f l z w'):wpAny P .any iz Q (n+f) l a w:=by
 have s:=Tr.I8 (fin:=λt=>vO τ t .nil) (λt=>K1 trivial) t;rw[<-h]at s;have⟨M,L,H,d,b,o,u⟩:=Tn s;simp only[fp,List.reverse_reverse]at u;split at u
 case isFalse=>exact u.elim
 rename_i c;simp only[bN]at c;have⟨_,v⟩:=Mm u;have⟨R,r,X,Y⟩:=anL b c.1 c.2 p;refine Jn.agl q (λy z w' Z U V=>g y z w' ⟨Z,U⟩<|V.le v) n l R σ a w X O Y (λx N=>o x.2<|by rw[<-r];exact dF.2 ⟨x,N,rfl⟩) (by rw[r];exact d) j
def Nt(T:List TI)(iz:Array Oper)(l:List Nat)(σ h:PS)(t:Tr P K):R:=
 Kt T iz (λ_ τ t=>EI .normal h .normal τ t) (l.filterMap (iz[·]?)) [] σ t
def Ns(iz:Array Oper):List Nat->Bool
 | []=>aa
 |i::l=>Jd iz i l&&Ns iz l
def Jn.J4(V:mP P T)(t:Tr P K){l}(h:Nt T iz l σ τ t=t.ex λt=>vO τ t .nil)(f:Ns iz l=aa){z}(c:Tl iz z l)(j:Jn P K w00 B0 m sz T0 σ S len F el a w){Q}(U:∀ s w',Jn P K w00 B0 m sz T0 τ S len F el s w'->Q .normal s w'):wpAny P .any iz Q l.length z a w:=by
 have q:=Tr.I8 (fin:=λt=>vO τ t .nil) (λt=>K1 trivial) t;rw[<-h]at q;have⟨r,H,G,b,u,X,Y⟩:=Tn q;have⟨_,p⟩:=Mm Y;clear q Y h
 induction l generalizing r σ a w z with
 |nil=>
  simp at u;subst u;refine⟨axa.2 λi v=>?_,U a w<|(j.qX b).le p⟩;have⟨n,g,_⟩:=Pu.Eb.1 v;have:=(c.2 i n).1 g;simp at this
 |cons i l R=>
  simp only[Ns,bN]at f;refine afK c f.1 ?_;have v:∃ o,iz[i]? = al o:=by
   have:=f.1;unfold Jd at this;split at this
   .exact ⟨_,Z⟩
   .cases this
  have⟨o,v⟩:=v;rw[List.filterMap_cons,v]at u;simp only at u;cases r with
  |nil=>simp at u
  |cons x r=>
   simp only[ew,awY]at u;have⟨⟨O,n⟩,g⟩:=b;obtain⟨rfl,u⟩:=u;unfold wpOp;rw[v];simp only;rcases j.step V n (X x aK) (λs w'=>∀ k,Tl iz k l->wpAny P .any iz Q l.length k s w') Q (λs w' N k M=>R f.2 M N r g u λy L=>X y<|by simp[L])with⟨e,d⟩|⟨e,d⟩
   .rw [bt e];exact .inl d
   .rw [bn<|by rw[e];simp];exact d
def Pr(iz:Array Oper)(n:Nat):Bool:=
 a2 iz.size (2+n+3)&&(Region.noSelect iz&&(Region.free .any iz (bi iz.size ac) 0&&((Region.ready .any iz<|bi iz.size ac).contains 0&&(Region.free .any iz ((bi iz.size ac).setIfInBounds 0 aa) 1 &&
  ((Region.ready .any iz<|(bi iz.size ac).setIfInBounds 0 aa).contains 1&&(Jd iz (2+n) [2+n+1,2+n+2]&&Ns iz [2+n+1,2+n+2]))))))
def Jn.agq(Z:mP P T)(O:P.follows .mixedOrders=aa)(W:∀ x o,B0 x o->w00.pX x){n v r p x0 x1 d0 d1 dA s x t M y z i pe ex id}τ1(k:Option Addr->Nat->PS)(L:Pr iz n=aa)(f:iz[0]? = al v/\v.op = .move (.tmp x0)/\v.guard=am/\v.dst=al d0)(d:iz[1]? = al r/\r.op = .move (.tmp x1)/\r.guard=am/\r.dst=al d1)(b:iz[2+n]? = al p/\p.guard=am/\p.dst=al dA)(iW:p.op = .call { callee:=.builtin .append,args:=#[s,x],argTypes:=#[t,t] })(h1:mS T t=al M)(h2:M.d = .slice T0)(h3:mS T T0=al y)(h4:xt y=al z)(h5:y.i.size=sz)(h6:z.length=sz)(h7:0<sz)(h8:1<=y.i.bytes)(h9:z.all E.nT=aa)(Cf:th σ (al d0)=aa)(Ro:th σ (al d1)=aa)(X:Tr P K)(JE:ND T iz 2 n ((σ.put (al d0)<|σ.get x0).put (al d1)<|(σ.put (al d0)<|σ.get x0).get x1) τ1 X=X.ex λt=>vO τ1 t .nil)(hi:i<m)(hs:τ1.op s = .e (.lF (S i) pe))(hx:τ1.op x = .e (.sl aa 1 sz ex))(j8:(len i+1)*y.i.bytes<=140737488355328)(Rp:th τ1 (al dA)=aa)(rC:∀ t,(τ1.get t).qL=aa)(ku:∀ id H,τ1.bo id=al H->H.qL=aa)(V:Option Addr->Nat->Tr P K)(Rv:∀ A c,Nt T iz [2+n+1,2+n+2] (τ1.put (al dA)<|.e<|.lF (.slice A (len i+1) c)<|.sl aa (len i+1) sz<|sY len el i ex i) (k A c) (V A c)=(V A c).ex λt=>vO (k A c) t .nil)(j:Jn P K w00 B0 m sz T0 σ S len F el a w){Q}(G:∀ c a w,¬Q (.panic c) a w)(R:∀ A c g N w',Jn P K w00 B0 m sz T0 (k A c) (tW S i<|.slice A (len i+1) c) (C0 len i) (sY len F i g) (sY len el i ex) N w'->Q .normal N w'):(Code.region id iz aa).wp P Q a w:=by
 simp only[Pr,bN]at L;have⟨c1,D,c3,c4,c5,c6,c7,c8⟩:=L;have kF:=gj c1;have u:wpAny P .any iz Q (n+3+1+1) (bi iz.size ac) a w.drew:=by
  refine wpAny_take f.1 D c3 c4 (λc a w h=>absurd h<|G _ _ _) (abx f.2.1 f.2.2.1 a) ?_;refine wpAny_take d.1 D c5 c6 (λc a w h=>absurd h<|G _ _ _) (abx d.2.1 d.2.2.1 _) ?_;rw[f.2.2.2,d.2.2.2];have j2:=(j.drew.move d0 x0 Cf).move d1 x1 (by simpa[th,PS.NK]using Ro);refine Jn.mid Z X JE aK (λq R=>?_) j2 λY N w' C j'=>?_
  .by_cases B:q=0
   .subst B;simp
   .by_cases I:q=1
    .subst I;simp
    .rw [Dv aS,Dv aS];simp[B,I,R];omega
  .have e:List.range' (2+n) (iz.size-(2+n))=[2+n,2+n+1,2+n+2]:=by
    rw[kF,(U:2+n+3-(2+n)=3)];rfl
   rw[e]at C;refine afK C c7 ?_;have⟨A,c,w2,g,lH,J⟩:=Jn.app Z W rfl iW h1 h2 h3 h4 h5 h6 h7 h8 h9 j' hi hs hx j8 (by rw[b.2.2];exact Rp) rC ku;unfold wpOp;rw[b.1];simp only;rw[bt<|by unfold Region.wanted;rw[b.2.1]];refine .inl ?_;simp only[Oper.wp,lH,Oper.upon];intro l qc;rw[b.2.2]at J ⊢;exact Jn.J4 Z (V A c) (Rv A c) c8 qc J λa3 w3 j4=>R A c g a3 w3 j4
 refine wp_region_any O ?_;rw[(U:n+3+1+1=iz.size)]at u;exact u
def afM{b Q}(I:Nat->Act->ap->Prop)N(g:∀ i a w,i<N->I i a w->b.wp P (λe x w'=>e = .normal/\I (i+1) x w') a w)(out:∀ a w,I N a w->b.wp P (λe x w'=>e ≠ .normal/\Q e x w') a w)(h:I 0 a w):(Code.loop b).wp P Q a w:=by
 have k:∀ n i a w,i+n=N->I i a w->Code.rounds P b Q (n+1) a w:=by
  intro n
  induction n with
  |zero=>
   intro i a w v y;obtain rfl:i=N:= U ;refine Code.wp_mono (λe x w' ⟨z,u⟩=>?_)<|out a w y;cases e<;>first|exact absurd rfl z|exact u
  |succ n t=>
   intro i a w v y;refine Code.wp_mono (λe x w' ⟨z,u⟩=>?_)<|g i a w U y;subst z;exact t (i+1) x w' U u
 exact wp_loop_rounds _<|k N 0 a w U h
def PS.ap6(σ:PS)(id:Nat)(T1:ay)(m sz:Nat)(S:Nat->av)(len:Nat->Nat)(el:Nat->Nat->Nat->E):PS:=
 {σ with b:=tV σ.b id<|.row aa T1 m 1 λk _=>.lF (S k)<|.sl aa (len k) sz<|el k }
def Jn.start{I B L id T1}(g:Gd P K I B)(r:jy I B σ a w L)(jD:σ.bo id=al (.kn aa T1 T0 m sz len el am))(hm:0<m)(ku:∀ i V,i≠id->σ.bo i=al V->V.qL=aa):∃ S F,Jn P K I B m sz T0 (σ.ap6 id T1 m sz S len el) S len F el a w:=by
 have⟨b,O,c,W,F,h1,h2,h3,h4,h5,h6,h7,H,h9,qa,qE⟩:=(r.hb id _ jD).xm hm;obtain⟨S,hS⟩:∃ S,S=L.jg id:=⟨_,rfl⟩
 rw[<-hS]at h6 H h9 qa qE;refine⟨S,F,?_⟩
 let zy:Lk:=⟨L.nc,λi x=>if i=id then x=b else L.own i x,L.val,L.jg⟩
 let J:Nat->Nat->Prop:=λx o=>B x o\/∃ k,k<m/\(S k).ownBlock=al x/\¬Gb (S k) (len k) sz x o
 have s:∀ {i x},i≠id->(zy.own i x↔L.own i x):=fun {i x} h=>by show(if i=id then _ else _)↔_;rw[bn h]
 have d:∀ {x},zy.own id x↔x=b:=fun {x}=>by show(if id=id then _ else _)↔_;rw[bt rfl]
 have Z:∀ i x,zy.own i x->L.own i x:=λi x h=>by
  by_cases e:i=id
  .subst e;exact(h9 x).2<|.inl<|d.1 h
  .exact (s e).1 h
 have X:∀ x,jq zy x->jq L x:=λx ⟨i,h⟩=>⟨i,Z i x h⟩
 have zx:∀ k x,k<m->(S k).ownBlock=al x->L.own id x:=λk x p u=>(h9 x).2<|.inr ⟨k,p,u⟩
 have M:∀ k x,k<m->(S k).ownBlock=al x->¬jq zy x:=λk x p u ⟨i,Y⟩=>by
  by_cases e:i=id
  .subst e;rw[d.1 Y]at u;exact qE k p u
  .exact e<|r.hi _ _ x ((s e).1 Y)<|zx k x p u
 have G:∀ x o,jt J zy x o->jt B L x o:=λx o h=>by
  rcases h with(h|⟨k,p,u,_⟩)|h
  .exact .inl h
  .exact .inr ⟨id,zx k x p u⟩
  .exact .inr<|X x h
 have D:∀ {e:E} {v:av},z (jt B L) (jq L) w e v->z (jt J zy) (jq zy) w e v:=λh=>h.qS G X
 have sn:Sn I B J w zy m sz T0 S len F el:=by
  refine⟨λk p=>⟨(H k p).1,λx o u kU=>?_,λx o R hh=>?_⟩,λk i j p Y N=>⟨D ((H k p).2 i j Y N).1,((H k p).2 i j Y N).2⟩,λk x p u=>⟨M k x p u,(r.hw id x<|zx k x p u).2,(r.hw id x<|zx k x p u).1⟩,qa,λx o h=>.inl h⟩
  .exact b8 λR=>kU<|.inr ⟨k,p,u,R⟩
  .rcases hh with hh|⟨k',Bd,u,hnv⟩
   .exact (r.hw id x<|zx k x p R.qV).1 (g.hB x o hh).1
   .obtain rfl:=qa k' k x Bd p u R.qV;exact hnv R
 refine⟨J,zy,⟨λw2 h=>g.k w2<|r.he.trans ⟨h.os,h.tape,h.output,h.size,λx u=>h.block x ⟨bJ u.1 r.he.size,λq=>?_⟩⟩,λx o u=>?_⟩,⟨r.hd,r.hs,λt=>?_,λi V hb=>?_,λi=>?_,λi x u=>r.hn i x<|Z i x u,λi x u=>⟨λq=>q.2 ⟨i,u⟩,(r.hw i x<|Z i x u).2⟩,λi j x Y N=>r.hi i j x (Z i x Y)<|Z j x N,qZ.refl _ _,λke i V hb=>?_⟩,sn,r.he,λx ⟨i,u⟩=>(r.hw i x<|Z i x u).1,g.k⟩
 .have⟨i,q⟩:=X x q;exact(r.hw i x q).1 u
 .rcases u with u|⟨k,p,u,_⟩
  .have⟨C,q2⟩:=g.hB x o u;refine⟨⟨bJ C.1 r.he.size,λq=>?_⟩,q2.Aw<|r.he.block x C⟩;have⟨i,q⟩:=X x q;exact(r.hw i x q).1 C
  .refine ⟨⟨(r.hw id x<|zx k x p u).2,M k x p u⟩,?_⟩;have⟨o1,c3,cur',A,hg,_,ke⟩:=(H k p).1.AT u;intro o v R;simp only[aC,hg]at R;simp only[ic,bS,bE]at R;have:=ke rfl _ (dG R);cases this
 .have h:=r.ht t;show nN _ _ zy w (σ.get t) _;cases hp:σ.get t with
  |e x=>rw[hp]at h;exact D h
  |box id off=>rw[hp]at h;exact h
  |own id=>rw[hp]at h;exact h
  |oe id sz i j=>rw[hp]at h;exact h
  |jg id k=>rw[hp]at h;exact h
  |rK id sz k i j=>rw[hp]at h;exact h
  |qC f cap=>
   rw[hp]at h;have⟨vs,k1,k2,k3⟩:=h;refine⟨vs,k1,k2,λi c x hc u=>?_⟩;have q:=k3 i c x hc u;cases c with
   |e y=>exact D q
   |box id=>exact q
   |row id=>exact q
 .have Q:look (tV σ.b id<|.row aa T1 m 1 λk _=>.lF (S k)<|.sl aa (len k) sz<|el k) i=al V:=hb;rw[At]at Q;split at Q
  .rename_i e;subst e;cases Q;refine⟨λk _=>S k,.inr ⟨b,O,c,W,h1,h2,h3,h4,U,λi j Y N=>?_,λ_=>h7⟩,λx=>d.trans ?_,λi j Y N=>⟨.lF _ _ (sn.sl Y).1,rfl⟩⟩
   .obtain rfl:j=0:= U ;have⟨_,C,_⟩:=(H i Y).1.head;refine⟨?_,C⟩;rw[cr,bV];exact h6 i Y aK 
   .show _↔(L.val id).ownBlock=al x;rw[h1];simp[bf,eq_comm]
  .rename_i e;have e':i≠id:=λh=>e h.symm
   have h:=r.hb i V Q;have p:=ku i V e' Q;cases V with
   |cells T l=>
    have⟨y,vs,e1,e2,A,e4,e5⟩:=h;exact⟨y,vs,e1,λx=>(s e').trans<|e2 x,A,e4.mono λ_ _=>D,e5⟩
   |row nl T n sz el=>
    have⟨f,e1,e2,A⟩:=h;exact⟨f,e1,λx=>(s e').trans<|e2 x,λi j Y N=>⟨D (A i j Y N).1,(A i j Y N).2⟩⟩
   |kn=>cases p
 .show L.nc i↔(look (tV σ.b id _) i).isSome=aa;rw[At,r.hv i];by_cases e:id=i
  .subst e;rw[bt rfl,jD];simp
  .rw [bn e];rfl
 .have Q:look (tV σ.b id<|.row aa T1 m 1 λk _=>.lF (S k)<|.sl aa (len k) sz<|el k) i=al V:=hb;rw[At]at Q;split at Q
  .cases Q;rfl
  .exact r.hl ke i V Q
def Jn.post(t:mP P T){k B}(s:w00=⟨k,λ_=>False⟩)(H:B0=B){fn r y}(j:Jn P K w00 B0 m sz T0 σ S len F el a w)(q:KN T fn σ=al r)(l:∀ (bs:Nat->Nat->Prop) (br:Nat->Prop) (w:ap) (v:av),z bs br w r v->z bs br w y v):
 a.defers=[]/\∃ v,(results fn a.tmps).run P w = .ok v w/\∃ X,Ending.returned v = .returned X/\Below k.heap.size k w/\z B (λ_=>True) w y X:=by
 subst s H;have⟨c,L,g,u,n,p,i,J⟩:=j;have⟨v,f,e⟩:=adC t (λb o d=>(g.hB b o d).1) u q;exact⟨u.hd,v,f,v,rfl,p.below,(l _ _ _ _ e).qS (λx o h=>n.sub x o h) λ_ h=>h⟩
end
def PV.J3(id:Nat)(p:PV):Bool:=p.qL && !(p.mK.any<|a2 id)
def PS.G8(σ:PS)(id t9:Nat)(V:av)(q:E):PS:=⟨σ.n,σ.nl,(t9,.e<|.lF V q)::σ.t.map (λx=>(x.1,if x.2.J3 id then x.2 else .e .any)),σ.b.filter λx=>!a2 x.1 id⟩
def PS.Gk(τ:PS)(id t9:Nat)(b:Bx):PS:=⟨τ.n,τ.nl,(t9,.own id)::τ.t.map (λx=>(x.1,if x.2.qL then x.2 else .e .any)),tV τ.b id b⟩
def PS.anO(σ:PS)id t9 V q t:(σ.G8 id t9 V q).get t=if t9=t then .e (.lF V q)else if(σ.get t).J3 id then σ.get t else .e .any:=by
 unfold PS.G8 PS.get;rw[uP];by_cases h:t9=t
 .rw [bt h,bt h];rfl
 .rw [bn h,bn h];rw[Nx σ.t (λp:PV=>if p.J3 id then p else .e .any) t];cases look σ.t t with
  |none=>simp[PV.J3,PV.qL,E.nr,PV.mK]
  |some p=>simp
def PS.ahl(τ:PS)id t9 bx t:(τ.Gk id t9 bx).get t=if t9=t then .own id else if(τ.get t).qL then τ.get t else .e .any:=by
 unfold PS.Gk PS.get;rw[uP];by_cases h:t9=t
 .rw [bt h,bt h];rfl
 .rw [bn h,bn h];rw[Nx τ.t (λp:PV=>if p.qL then p else .e .any) t];cases look τ.t t with
  |none=>simp[PV.qL,E.nr]
  |some p=>simp
def SD{u l t}{x:u}(h:look l t=al x):(t,x) ∈ l:=by
 induction l with
 |nil=>cases h
 |cons y l i=>
  have⟨k,z⟩:=y;rw[uP]at h;split at h
  .rename_i e;cases h;subst e;exact .head _
  .exact .tail _<|i h
def apg{σ:PS}(h:(σ.t.all λx=>x.2.qL)=aa)t:(σ.get t).qL=aa:=by
 unfold PS.get;cases e:look σ.t t with
 |none=>rfl
 |some p=>exact bZ.1 h _<|SD e
def S1{σ:PS}(h:(σ.b.all λx=>x.2.qL)=aa)i bx(e:σ.bo i=al bx):bx.qL=aa:=bZ.1 h _<|SD e
def apf{σ:PS}{id}(h:(σ.b.all λx=>a2 x.1 id||x.2.qL)=aa)i bx(k:i≠id)(e:σ.bo i=al bx):bx.qL=aa:=by
 have:=bZ.1 h _<|SD e;rcases awQ.1 this with q|q
 .exact absurd (gj q) k
 .exact q
section
variable {P:Program} {K:ap->Prop} {T:List TI} {w00:mj} {B0:Nat->Nat->Prop} {m sz:Nat} {T0:ay} {S:Nat->av} {len:Nat->Nat} {F:Nat->Nat->Nat->av} {el:Nat->Nat->Nat->E} {σ:PS} {a:Act} {w:ap}
section
variable{B Q:Nat->Nat->Prop}{L R:Lk}(N:∀ {e:E} {v:av},e.nr 3=aa->z (jt B L) (jq L) w e v->z (jt Q R) (jq R) w e v)
def nN.Ld{p v}(s:p.qL=aa)(u:∀ i,i ∈ p.mK->L.nc i->R.nc i/\R.val i=L.val i/\∀ k,R.jg i k=L.jg i k)(h:nN (jt B L) (jq L) L w p v):nN (jt Q R) (jq R) R w p v:=by
 cases p with
 |e x=>exact N s h
 |box d m=>have⟨y,b,z,t⟩:=h;have q:=u d (by simp[PV.mK]) y;exact⟨q.1,b,by rw[q.2.1];exact z,t⟩
 |own d=>have⟨y,z⟩:=h;have q:=u d (by simp[PV.mK]) y;exact⟨q.1,by rw[q.2.1];exact z⟩
 |oe d sz i j=>have⟨y,b,o,n,c,z,t⟩:=h;have q:=u d (by simp[PV.mK]) y;exact⟨q.1,b,o,n,c,by rw[q.2.1];exact z,t⟩
 |jg d r=>have⟨y,z⟩:=h;have q:=u d (by simp[PV.mK]) y;exact⟨q.1,by rw[q.2.2];exact z⟩
 |rK d sz r i j=>have⟨y,b,o,n,c,z,t⟩:=h;have q:=u d (by simp[PV.mK]) y;exact⟨q.1,b,o,n,c,by rw[q.2.2];exact z,t⟩
 |qC f a=>cases s
def qY.Ld(M:∀ {e:E} {v:av},e.nr 2=aa->z (jt B L) (jq L) w e v->z (jt Q R) (jq R) w e v){i b}(m:b.qL=aa)(u:R.val i=L.val i)(o:∀ x,R.own i x↔L.own i x)(h:qY (jt B L) (jq L) L w i b):qY (jt Q R) (jq R) R w i b:=by
 cases b with
 |cells T l=>
  have⟨y,c,t,s,k,g,a⟩:=h;exact⟨y,c,by rw[u];exact t,λx=>(o x).trans<|s x,k,⟨g.len,λi p v d X=>N (bZ.1 m p<|dX d)<|g.kP i p v d X⟩,a⟩
 |row Y T n sz el=>
  have⟨f,t,s,k⟩:=h;exact⟨f,by rw[u];exact t,λx=>by rw[o,u];exact s x,λi j r q=>⟨M (k i j r q).2 (k i j r q).1,(k i j r q).2⟩⟩
 |kn=>cases m
end
def Jn.Sw{id t9 T1 c e}(j:Jn P K w00 B0 m sz T0 σ S len F el a w)(jD:σ.bo id=al (.row aa T1 m 1 λk _=>.lF (S k)<|.sl aa (len k) sz<|el k))(hg:σ.get t9 = .own id)(ku:∀ i Z,i≠id->σ.bo i=al Z->Z.qL=aa)(τ:av->PS)(h:∀ V,Sp P K c (σ.G8 id t9 V<|.mT aa aa m 1 λk _=>.lF (S k)<|.sl aa (len k) sz<|el k) λe' τ'=>e'=e/\τ'=τ V)(ht:∀ V,(τ V).bo id=am/\(τ V).get t9 = .e (.lF V<|.mT aa aa m 1 λk _=>.lF (S k)<|.sl aa (len k) sz<|el k))(DF:∀ V i Z,(τ V).bo i=al Z->Z.qL=aa):
 c.wp P (λe' a' w'=>e'=e.to/\∃ V,Jn P K w00 B0 m sz T0 ((τ V).Gk id t9<|.row aa T1 m 1 λk _=>.lF (S k)<|.sl aa (len k) sz<|el k) S len F el a' w') a w:=by
 have⟨B,L,g,r,n,hs,ho,mJ⟩:=j;have h9:=r.ht t9;rw[hg]at h9;have⟨uk,Z4⟩:=h9;have⟨f,e1,e2,e3⟩:=r.hb id _ jD;have fS:∀ k,k<m->f k 0=S k:=λk R=>(z.Kz (e3 k 0 R Nat.zero_lt_one).1).1
 obtain⟨V,hV⟩:∃ V,V=L.val id:=⟨_,rfl⟩
 rw[<-hV]at e1 e2 Z4;have l:∀ x,V.ownBlock=al x->L.own id x:=λx y=>(e2 x).2 y
 let Q:Lk:=⟨λi=>i≠id/\L.nc i,λi x=>i≠id/\L.own i x,L.val,L.jg⟩
 let B2:Nat->Nat->Prop:=λx o=>B x o\/V.ownBlock=al x
 have zx:∀ x,jq Q x->jq L x:=λx ⟨i,hi⟩=>⟨i,hi.2⟩
 have X:∀ x,V.ownBlock=al x->¬jq Q x:=λx y ⟨i,hi⟩=>hi.1<|r.hi _ _ x hi.2<|l x y
 have bad2:∀ x o,jt B2 Q x o->jt B L x o:=λx o s=>by
  rcases s with(s|s)|s
  .exact .inl s
  .exact .inr ⟨id,l x s⟩
  .exact .inr<|zx x s
 have wk:∀ {e:E} {v:av},z (jt B L) (jq L) w e v->z (jt B2 Q) (jq Q) w e v:=λs=>s.qS bad2 zx
 have noL:∀ x,V.ownBlock=al x->pR w x:=λx y=>by
  have⟨o1,c3,cur',e3,hg,_,ke⟩:=e1.AT y;intro o v hv;simp only[aC,hg]at hv;simp only[ic,bS,bE]at hv;have:=ke rfl _ (dG hv);cases this
 have N:∀ x,w00.pX x->(⟨w,jq Q⟩:mj).pX x:=λx y=>⟨bJ y.1 hs.size,λq=>ho x (zx x q) y⟩
 have g2:Gd P K ⟨w,jq Q⟩ B2:=by
  refine⟨λw2 A=>mJ w2<|hs.trans ⟨A.os,A.tape,A.output,A.size,λx y=>A.block x<|N x y⟩,λx o y=>?_⟩;rcases y with y|y
  .have⟨H,q2⟩:=g.hB x o y;exact⟨⟨H.1,λq=>H.2<|zx x q⟩,q2⟩
  .exact ⟨⟨(r.hw id x<|l x y).2,X x y⟩,noL x y⟩
 have bslR:z (jt B2 Q) (jq Q) w (.mT aa aa m 1 λk _=>.lF (S k)<|.sl aa (len k) sz<|el k) V:=by
  rcases e1 with⟨H,q2⟩|⟨b,ofs,cp,cur,H,MV,q3,q4,q5,q6,q7⟩
  .rw [H,q2];exact .mT aa aa 0 1 _ am 0 f (bA _) aG (λ_=>rfl) (λi j hi=>absurd hi<|bD i) (λ_ i j hi=>absurd hi<|bD i) (λi j hi=>absurd hi<|bD i) λi j hi=>absurd hi<|bD i
  .have u:V.ownBlock=al b:=by rw[H];rfl
   have nx:=(r.hw id b<|l b u).2;have qu:=X b u;rw[H];refine .mT aa aa m 1 _ _ cp f q3 (by unfold maxLen at q4;omega) (λh=>by cases h) (λi j hi W=>⟨(q6 i j hi W).2,λ_=>q7 rfl _ (dG (q6 i j hi W).1)⟩) (λ_ i j hi W=>rfl)
    (λi j hi W=>⟨b,ofs,rfl,qu,nx,?_⟩) (λi j hi W=>?_)
   .simp only[aC,MV];simpa using(q6 i j hi W).1
   .obtain rfl:j=0:= U ;rw[fS i hi];exact .lF _ _<|wk (n.sl hi).1
 have r2:jy ⟨w,jq Q⟩ B2 (σ.G8 id t9 V<|.mT aa aa m 1 λk _=>.lF (S k)<|.sl aa (len k) sz<|el k) a w Q:=by
  have pO:∀ i,(σ.G8 id t9 V<|.mT aa aa m 1 λk _=>.lF (S k)<|.sl aa (len k) sz<|el k).bo i=if id=i then am else σ.bo i:=λi=>DS _ _ _
  refine⟨r.hd,r.hs,λt=>?_,λi Z u=>?_,λi=>?_,λi x y=>⟨y.1,r.hn i x y.2⟩,λi x y=>⟨λq=>q.2 ⟨i,y⟩,(r.hw i x y.2).2⟩,λi i' x y G=>r.hi i i' x y.2 G.2,qZ.refl _ _,λke i Z u=>?_⟩
  .rw [PS.anO];split
   .rename_i et;subst et;show z _ _ _ _ _;rw[Z4];exact .lF _ _ bslR
   .split
    .rename_i R;simp only[PV.J3,bN,dN]at R;refine nN.Ld (λ_ s=>wk s) R.1 (λi hi hl=>⟨⟨λe=>?_,hl⟩,rfl,λ_=>rfl⟩)<|r.ht t;subst e;have:=R.2;rw[dh.2 ⟨i,hi,cN i⟩]at this;cases this
    .exact .any _
  .rw [pO]at u;split at u
   .cases u
   .rename_i zy;have D:i≠id:=λe=>zy e.symm
    exact qY.Ld (λ_ s=>wk s) (λ_ s=>wk s) (ku i Z D u) rfl (λx=>⟨λh=>h.2,λh=>⟨D,h⟩⟩) (r.hb i Z u)
  .rw [pO];by_cases zy:id=i
   .rw [bt zy];exact⟨λh=>absurd zy.symm h.1,λh=>by cases h⟩
   .rw [bn zy,<-r.hv i];exact⟨λh=>h.2,λh=>⟨λe=>zy e.symm,h⟩⟩
  .rw [pO]at u;split at u
   .cases u
   .exact r.hl ke i Z u
 refine Code.wp_mono ?_ (h V _ B2 a w Q g2 r2);rintro e' a' w' ⟨ex,τ',C,rfl,⟨rfl,rfl⟩,Y⟩;refine⟨rfl,V,?_⟩;have⟨amk,hg3⟩:=ht V;have kF:w.heap.size<=w'.heap.size:=Y.he.size;have oE:∀ x,x<w.heap.size->¬jq Q x->w'.heap[x]? = w.heap[x]?:=λx y hn=>Y.he.block x ⟨y,hn⟩
 have I:∀ x,x<w.heap.size->jq C x->jq Q x:=λx y ⟨i,q⟩=>b8 λhn=>(Y.hw i x q).1 ⟨y,hn⟩
 have dead:¬C.nc id:=λhl=>by
  have:=(Y.hv id).1 hl;rw[amk]at this;cases this
 let O:Lk:=⟨λi=>i=id\/C.nc i,λi x=>(i=id/\V.ownBlock=al x)\/(i≠id/\C.own i x),λi=>if i=id then V else C.val i,C.jg⟩
 have val4:∀ i,i≠id->O.val i=C.val i:=λi hi=>bn hi
 have T:O.val id=V:=bt rfl;have J:∀ x,jq O x->V.ownBlock=al x\/jq C x:=λx ⟨i,hi⟩=>by
  rcases hi with hi|hi
  .exact .inl hi.2
  .exact .inr ⟨i,hi.2⟩
 have p:∀ x,x<w.heap.size->jq O x->jq L x:=λx y hm=>by
  rcases J x hm with q|q
  .exact ⟨id,l x q⟩
  .exact zx x<|I x y q
 have bad4:∀ x o,jt B O x o->jt B2 C x o:=λx o s=>by
  rcases s with s|s
  .exact .inl<|.inl s
  .rcases J x s with q|q
   .exact .inl<|.inr q
   .exact .inr q
 have wk3:∀ {e:E} {v:av} (d:Nat),e.nr d=aa->z (jt B2 C) (jq C) w' e v->z (jt B O) (jq O) w' e v:=λd hd s=>(s.qS bad4 (br':=jq C) λ_ h=>h).nr d hd
 have M:∀ x,V.ownBlock=al x->x<w.heap.size:=λx y=>(r.hw id x<|l x y).2
 have row4:nU w' V T1 m 1 f aa:=e1.block λx y=>oE x (M x y)<|X x y
 have sn:Sn w00 B0 B w' O m sz T0 S len F el:=by
  refine⟨λk R=>?_,λk i j R hi W=>?_,λk x R y=>?_,n.IY,n.sub⟩
  .have t:=n.tail k R;exact⟨t.own.block λx y=>by have⟨b1,b2,_⟩:=n.qV k x R y;exact oE x b2 λq=>b1<|zx x q,t.hid,t.O3⟩
  .have⟨p1,p2⟩:=n.kP k i j R hi W;refine⟨p1.mono kF (λb o u y=>?_) (λb u y=>p b u y) λb u rj=>oE b u ?_,p2⟩
   .rcases y with y|y
    .exact .inl y
    .exact .inr<|p b u y
   .rcases rj with⟨o,rj⟩|rj
    .exact λq=>rj<|.inr<|zx b q
    .exact λq=>rj<|zx b q
  .have⟨b1,b2,b3⟩:=n.qV k x R y;exact⟨λq=>b1<|p x b2 q,bJ b2 kF,b3⟩
 have so:qZ w00 w00.w w':=hs.trans ⟨Y.he.os,Y.he.tape,Y.he.output,kF,λx y=>oE x (N x y).1 (N x y).2⟩;have no4:∀ x,jq O x->¬w00.pX x:=λx hm y=>ho x (p x (N x y).1 hm) y
 have wV:∀ i,((τ V).Gk id t9<|.row aa T1 m 1 λk _=>.lF (S k)<|.sl aa (len k) sz<|el k).bo i=if id=i then al (.row aa T1 m 1 λk _=>.lF (S k)<|.sl aa (len k) sz<|el k)else(τ V).bo i:=λi=>At _ _ _ _
 refine⟨B,O,⟨λw2 A=>mJ w2<|so.trans ⟨A.os,A.tape,A.output,A.size,λx y=>A.block x ⟨bJ y.1 so.size,λq=>no4 x q y⟩⟩,λx o y=>?_⟩,
  ⟨Y.hd,Y.hs,λt=>?_,λi Z u=>?_,λi=>?_,λi x y=>?_,λi x y=>⟨λq=>q.2 ⟨i,y⟩,?_⟩,λi i' x y G=>?_,qZ.refl _ _,λke i Z u=>?_⟩,sn,so,no4,mJ⟩
 .have⟨H,q2⟩:=g.hB x o y;exact⟨⟨bJ H.1 kF,λq=>H.2<|p x H.1 q⟩,q2.Aw<|oE x H.1 λq=>H.2<|zx x q⟩
 .rw [PS.ahl];split
  .rename_i et;subst et;have:=Y.ht t9;rw[hg3]at this;exact⟨.inl rfl,by rw[T];exact(z.Kz this).1⟩
  .split
   .rename_i R;refine nN.Ld (λhn s=>wk3 3 hn s) R (λi hi hl=>⟨.inr hl,val4 i λe=>dead<|e▸hl,λ_=>rfl⟩)<|Y.ht t
   .exact .any _
 .rw [wV]at u;split at u
  .rename_i zy;subst zy;cases u;refine⟨f,by rw[T];exact row4,λx=>?_,λi j hi W=>?_⟩
   .rw [T];constructor
    .rintro (q|q)
     .exact q.2
     .exact absurd rfl q.1
    .exact λq=>.inl ⟨rfl,q⟩
   .obtain rfl:j=0:= U ;rw[fS i hi];exact⟨.lF _ _ (sn.sl hi).1,rfl⟩
  .rename_i zy;have D:i≠id:=λe=>zy e.symm
   exact qY.Ld (λhn s=>wk3 3 hn s) (λhn s=>wk3 2 hn s) (DF V i Z u) (val4 i D) (λx=>⟨λh=>h.elim (λq=>absurd q.1 D) λq=>q.2,λh=>.inr ⟨D,h⟩⟩)<|Y.hb i Z u
 .rw [wV];by_cases zy:id=i
  .rw [bt zy];exact⟨λ_=>rfl,λ_=>.inl zy.symm⟩
  .rw [bn zy,<-Y.hv i];exact⟨λh=>h.resolve_left λe=>zy e.symm,λh=>.inr h⟩
 .rcases y with y|y
  .exact .inl y.1
  .exact .inr<|Y.hn i x y.2
 .rcases y with y|y
  .exact bJ (M x y.2) kF
  .exact (Y.hw i x y.2).2
 .rcases y with y|y
  .rcases G with G|G
   .rw [y.1,G.1]
   .exact absurd (I x (M x y.2) ⟨i',G.2⟩)<|X x y.2
  .rcases G with G|G
   .exact absurd (I x (M x G.2) ⟨i,y.2⟩)<|X x G.2
   .exact Y.hi i i' x y.2 G.2
 .rw [wV]at u;split at u
  .cases u;rfl
  .exact Y.hl ke i Z u
def Jn.ext{l e}(j:Jn P K w00 B0 m sz T0 σ S len F el a w)(y:∀ k,k<m->len k=l k)(z:∀ k i j,k<m->i<len k->j<sz->E.le (el k i j) (e k i j)/\(e k i j).nr 2=aa):
 Jn P K w00 B0 m sz T0 σ S l F e a w:=by
 have⟨B,L,g,r,n,s,o,J⟩:=j;refine⟨B,L,g,r,⟨λk h=>y k h▸n.tail k h,λk i j h u x=>?_,n.qV,n.IY,n.sub⟩,s,o,J⟩;have N:i<len k:=by rw[y k h];exact u
 exact⟨(z k i j h N x).1 _ _ _ _ (n.kP k i j h N x).1,(z k i j h N x).2⟩
def acz{v n k e x}(y:n=k)(h:∀ i j,i<n->j<sz->E.le (e i j) (x i j)/\(x i j).nr 2=aa):E.le (.lF v<|.sl aa n sz e)<|.lF v<|.sl aa k sz x:=by
 subst y;intro b r w u s;have⟨t,Z⟩:=z.Kz s;subst t;exact .lF _ _<|(E.le.sl h) _ _ _ _ Z
def UI{v e}:E.le (.lF v e) e:=λ_ _ _ _ h=>(z.Kz h).2
def XE(T:List TI)(T0:ay)(sz bytes:Nat):Bool:=match mS T T0 with
 |some t=>match xt t with
  |some z=>a2 t.i.size sz&&(a2 z.length sz&&(Nat.blt 0 sz&&(Nat.ble 1 t.i.bytes&&(a2 t.i.bytes bytes&&z.all E.nT))))
  |none=>ac
 |none=>ac
def Jn.agr(e:mP P T)(d:P.follows .mixedOrders=aa)(H:∀ x o,B0 x o->w00.pX x){k n x0 x1 d0 d1 dA sA xA t bytes i pe ex id}τ1(h:Option Addr->Nat->PS)(b:Pr k n=aa)(X:(k[0]?.map λo=>(o.op,o.guard,o.dst))=al (.move<|.tmp x0,am,al d0))(Y:(k[1]?.map λo=>(o.op,o.guard,o.dst))=al (.move<|.tmp x1,am,al d1))(Z:(k[2+n]?.map λo=>(o.op,o.guard,o.dst))=al (.call { callee:=.builtin .append,args:=#[.tmp sA,.tmp xA],argTypes:=#[t,t] },am,al dA))(U:(mS T t).map TI.d=al (.slice T0))(y:XE T T0 sz bytes=aa)(C:th σ (al d0)=aa)(R:th σ (al d1)=aa)(J:∃ v:Tr P K,ND T k 2 n ((σ.put (al d0)<|σ.get x0).put (al d1)<|(σ.put (al d0)<|σ.get x0).get x1) τ1 v=v.ex λt=>vO τ1 t .nil)(V:i<m)(N:τ1.get sA = .e (.lF (S i) pe))(M:τ1.get xA = .e (.sl aa 1 sz ex))(L:(len i+1)*bytes<=140737488355328)(G:th τ1 (al dA)=aa)(E:(τ1.t.all λx=>x.2.qL)=aa)(D:(τ1.b.all λx=>x.2.qL)=aa)(B:∀ A c,∃ l:Tr P K,Nt T k [2+n+1,2+n+2] (τ1.put (al dA)<|.e<|.lF (.slice A (len i+1) c)<|.sl aa (len i+1) sz<|sY len el i ex i) (h A c) l=l.ex λt=>vO (h A c) t .nil)(j:Jn P K w00 B0 m sz T0 σ S len F el a w){Q}(I:∀ c a w,¬Q (.panic c) a w)(O:∀ A c g f w',Jn P K w00 B0 m sz T0 (h A c) (tW S i<|.slice A (len i+1) c) (C0 len i) (sY len F i g) (sY len el i ex) f w'->Q .normal f w'):(Code.region id k aa).wp P Q a w:=by
 have⟨o0,W,q⟩:=dc.1 X;have⟨o1,p1,r⟩:=dc.1 Y;have⟨oA,pA,p⟩:=dc.1 Z;have⟨tt,pt,qt⟩:=dc.1 U;simp only[ch]at q r p;unfold XE at y;split at y
 rotate_left
 .cases y
 rename_i te oD;split at y
 rotate_left
 .cases y
 rename_i z hz;simp only[bN]at y;have⟨c1,c2,c3,c4,c5,c6⟩:=y;have⟨v,J⟩:=J;have e5:=gj c5;have hl:=λA c=>du<|B A c
 exact Jn.agq e d H (s:=.tmp sA) (x:=.tmp xA) τ1 h b ⟨W,q.1,q.2.1,q.2.2⟩ ⟨p1,r.1,r.2.1,r.2.2⟩ ⟨pA,p.2.1,p.2.2⟩ p.1 pt qt oD hz (gj c1) (gj c2) (by simpa[gl]using c3) (cY c4) c6 C R v J V N M (by rw[e5];exact L) G (apg E) (S1 D) _ hl j I O
def ahS{l nl n sz e u}(h:∀ i j,i<n->j<sz->E.le (e i j) (u i j)/\(u i j).nr 2=aa):E.le (.mT l nl n sz e)<|.mT l nl n sz u:=by
 intro b p w v t;cases t with
 |mT _ _ _ _ _ A c f s m r q g x k=>exact .mT l nl n sz _ A c f s m r q (λ_ i j y z=>(h i j y z).2) x λi j y z=>(h i j y z).1 _ _ _ _<|k i j y z
end
def zK:Code->Code
 | .seq a _=>a
 |_=>.skip
def uV:Code->Code
 | .seq _ b=>b
 |_=>.skip
def LS:Code->Code
 | .block _ b=>b
 |_=>.skip
def abc:Code->Code
 | .loop b=>b
 |_=>.skip
def apP:Code->Array Oper
 | .region _ o _=>o
 |_=>#[]
end Go.Proofs.YthalchiobglflaaGreatDoor.Pu
namespace Go.Proofs.YthalchiobglflaaGreatDoor
open Go.RowKit Fp Pu
noncomputable def Gm:Code:=(Tryz.f62.body.getD .skip)
noncomputable def WU:Code:=zK Gm
noncomputable def WW:Code:=zK<|uV Gm
noncomputable def We:Code:=zK<|uV<|uV Gm
noncomputable def PF:Code:=uV<|uV<|uV Gm
noncomputable def WZ:Code:=zK<|zK PF
noncomputable def Gp:Code:=abc<|LS<|uV<|zK PF
noncomputable def WY:Code:=uV PF
noncomputable def PT:Code:=zK Gp
noncomputable def PX:Code:=LS<|zK<|uV Gp
noncomputable def W0:Code:=uV<|uV Gp
noncomputable def W1:Code:=zK PX
noncomputable def WV:Code:=zK<|uV PX
noncomputable def Gq:Code:=abc<|LS<|uV<|uV PX
noncomputable def PU:Code:=zK Gq
noncomputable def WX:Code:=uV<|uV Gq
noncomputable def Tm:Array Oper:=apP<|LS<|zK<|uV Gq
section
variable(s:jS)(x:List Iv)(k p:Nat)
def WK(w:Nat):PS:=⟨70,aa,[(9,.own 9),(10,.e<|D w),(4,.box 4 0),(1,.e<|K x),(2,.e<|D k),(3,.e<|D p)],[(9,.kn aa 26 33 w 7 (kG<|x.map λy=>[y]) (mv<|x.map λy=>[y]) .none),(4,.cells 28 [D s.tape.iK,mf s.tape.iz,mh s.tape.iR,D s.iZ,K s.params])]⟩
section
variable(S:Nat->av)(M:List<|List Iv)
def WL: PS:=⟨70,aa,[(9,.own 9),(4,.box 4 0),(2,.e<|D k),(3,.e<|D p)],[(9,.row aa 26 x.length 1 λh _=>.lF (S h)<|.sl aa (kG M h) 7<|mv M h),(4,.cells 28 [D s.tape.iK,mf s.tape.iz,mh s.tape.iR,D s.iZ,K s.params])]⟩
def vV(n:Nat):PS:=⟨70,aa,[(11,.e<|D n),(9,.own 9),(4,.box 4 0),(2,.e<|D k),(3,.e<|D p)],[(9,.row aa 26 x.length 1 λh _=>.lF (S h)<|.sl aa (kG M h) 7<|mv M h),(4,.cells 28 [D s.tape.iK,mf s.tape.iz,mh s.tape.iR,D s.iZ,K s.params])]⟩
def xz(n i:Nat)(G:List<|List Iv):PS:=⟨70,aa,[(13,.e<|D i),(12,.e<|kX G),(11,.e<|D n),(9,.own 9),(4,.box 4 0),(2,.e<|D k),(3,.e<|D p)],[(9,.row aa 26 x.length 1 λh _=>.lF (S h)<|.sl aa (kG M h) 7<|mv M h),(4,.cells 28 [D s.tape.iK,mf s.tape.iz,mh s.tape.iR,D s.iZ,K s.params])]⟩
def WM(n:Nat)(G:List<|List Iv):PS:=⟨70,aa,[(12,.e<|kX G),(11,.e<|D n),(9,.own 9),(4,.box 4 0),(2,.e<|D k),(3,.e<|D p)],[(9,.row aa 26 x.length 1 λh _=>.lF (S h)<|.sl aa (kG M h) 7<|mv M h),(4,.cells 28 [D s.tape.iK,mf s.tape.iz,mh s.tape.iR,D s.iZ,K s.params])]⟩
noncomputable def P0(n:Nat)(V:av):PS:=⟨70,aa,[(9,.e<|.lF V<|.mT aa aa x.length 1 λh _=>.lF (S h)<|.sl aa (kG M h) 7<|mv M h),(12,.e<|kX<|qq s.tape (pr s M n) n p),(11,.e<|D n),(4,.box 4 0),(2,.e<|D k),(3,.e<|D p)],[(4,.cells 28 [D s.tape.iK,mf s.tape.iz,mh s.tape.iR,D s.iZ,K s.params])]⟩
def L7(n i:Nat)(G:List<|List Iv):PS:=⟨70,aa,[(66,.e<|K [jC ((G.getD i []).getD n L) (jX<|n+1) p]),(53,.e<|.lF (S i)<|.sl aa (kG M i) 7<|mv M i),(49,.e<|D i),(48,.own 9),(13,.e<|D i),(12,.e<|kX G),(11,.e<|D n),(9,.own 9),(4,.box 4 0),(2,.e<|D k),(3,.e<|D p)],[(9,.row aa 26 x.length 1 λh _=>.lF (S h)<|.sl aa (kG M h) 7<|mv M h),(4,.cells 28 [D s.tape.iK,mf s.tape.iz,mh s.tape.iR,D s.iZ,K s.params])]⟩
end
end
def as9:Tryz.f62.body=al Gm:= aI 
def ata:Gm = .seq WU (.seq WW<|.seq We<|.seq (.seq WZ<|.block 2<|.loop Gp) WY):= aI 
def aeA:Gp = .seq PT (.seq (.block 3<|.seq W1<|.seq WV<|.block 4<|.loop Gq) W0):= aI 
def aeB:Gq = .seq PU (.seq (.block 5<|.region 13 Tm aa) WX):= aI 
section
variable(s:jS)(x:List Iv)
section
variable(k p:Nat)
def ai3:Sp prog Tb WU (Ct Tryz.f62 aa [kH s,K x,D k,D p]) λe h=>e = .normal/\h=⟨70,aa,[(4,.box 4 0),(1,.e<|K x),(2,.e<|D k),(3,.e<|D p)],[(4,.cells 28 [D s.tape.iK,mf s.tape.iz,mh s.tape.iR,D s.iZ,K s.params])]⟩:=
 iU (.nil) aI 
def ai4:Sp prog Tb WW ⟨70,aa,[(4,.box 4 0),(1,.e<|K x),(2,.e<|D k),(3,.e<|D p)],[(4,.cells 28 [D s.tape.iK,mf s.tape.iz,mh s.tape.iR,D s.iZ,K s.params])]⟩ λe h=>e = .normal/\h=⟨70,aa,[(9,.e<|.v<|.slice am 0 0),(4,.box 4 0),(1,.e<|K x),(2,.e<|D k),(3,.e<|D p)],[(4,.cells 28 [D s.tape.iK,mf s.tape.iz,mh s.tape.iR,D s.iZ,K s.params])]⟩:=
 iU (.nil) aI 
def aiW(h:mE s)(v:kJ s.iZ x)(n:k<=16)(I:8<=p)(C:p<=512):Sp prog Tb We ⟨70,aa,[(9,.e<|.v<|.slice am 0 0),(4,.box 4 0),(1,.e<|K x),(2,.e<|D k),(3,.e<|D p)],[(4,.cells 28 [D s.tape.iK,mf s.tape.iz,mh s.tape.iR,D s.iZ,K s.params])]⟩ λe u=>e = .normal/\u=⟨70,aa,[(9,.own 9),(4,.box 4 0),(2,.e<|D k),(3,.e<|D p)],[(9,.kn aa 26 33 x.length 7 (kG<|x.map λy=>[y]) (mv<|x.map λy=>[y]) .none),(4,.cells 28 [D s.tape.iK,mf s.tape.iz,mh s.tape.iR,D s.iZ,K s.params])]⟩:=by
 have m:=h.s1;have l:=h.s4;have g:=v.len;exact iU (af [.y 9 9 aa 26 1<|mX [],.s (Sp.jL (WK s x k p) 0 x.length U (λw t Z=>by
    have f:=v.ok w U;exact iU (Y [tT 17 ((w:Int)<x.length) U,iX (w:Int)<|x.length,.bo,.a (U:0<1),.a (U:(w+1)*24<=140737488355328),iN<|(w:Int)+1]<|.e<|af [.b 9 (adS U λj r=>Si _ j r:Bx.le (.kn aa 26 33 (w+1) 7 (λz=>if z<w then(kG<|x.map λy=>[y]) z else(λ_=>1) (z-w)) (λz=>if z<w then(mv<|x.map λy=>[y]) z else(λ_=>λi q=>(jv<|x.getD w L).getD (i*7+q)<|.v<|.bool ac) (z-w)) .none)<|.kn aa 26 33 (w+1) 7 (kG<|x.map λy=>[y]) (mv<|x.map λy=>[y]) .none)]) aI)
  (λt=>by
    exact iU (af [tF 17 ((x.length:Int)<x.length) U]) aI) aM:jK 3 Tryz.f62 (WK s x k p 0) (.exit 0) ⟨70,aa,[(9,.own 9),(4,.box 4 0),(2,.e<|D k),(3,.e<|D p)],[(9,.kn aa 26 33 x.length 7 (kG<|x.map λy=>[y]) (mv<|x.map λy=>[y]) .none),(4,.cells 28 [D s.tape.iK,mf s.tape.iz,mh s.tape.iR,D s.iZ,K s.params])]⟩)<|af [.b 9 (Bx.le.adR:Bx.le (.row aa 26 0 1<|mX [])<|.kn aa 26 33 0 7 (kG<|x.map λy=>[y]) (mv<|x.map λy=>[y]) .none)]]) aI 
section
variable(S:Nat->av)(M:List<|List Iv)
def ai8:Sp prog Tb WZ (WL s x k p S M) λe h=>e = .normal/\h=(vV s x k p S M 0):=
 iU (.nil) aI 
def aiX n(y:n<k):Sp prog Tb PT (vV s x k p S M n) λe h=>e = .normal/\h=(vV s x k p S M n):=
 iU (af [tT 30 ((n:Int)<k) U]) aI 
def aiY:Sp prog Tb PT (vV s x k p S M k) λe h=>e=(.exit 2)/\h=(vV s x k p S M k):=
 iU (af [tF 30 ((k:Int)<k) U]) aI 
end
end
def am1 n(S:Nat->av)(M:List<|List Iv)V(h:mE s)(y:x.length=M.length)(R:x.length<=8)(z:n<=16)(u:∀ i,i<x.length->n+1<=(M.getD i []).length):
 iB 104 [kH s,.lF V<|.mT aa aa x.length 1 λk _=>.lF (S k)<|.sl aa (kG M k) 7<|mv M k,D (n:Int)] (kX<|pr s M n):=
 (am0 s x.length n M h y R z u).le (.cons (.refl _)<|.cons (UI.trans<|ahS λi j v t=>⟨UI,rfl⟩)<|.cons (.refl _) .nil) (.refl _)
section
variable(k p:Nat)(S:Nat->av)(M:List<|List Iv)
def aja n V(h:mE s)(v:∀ i,i<s.tape.iz.length->(s.tape.iz.getD i o).kind<=8)(r:n<=16)(I:8<=p)(C:p<=512)(u:x.length=M.length)(t:x.length<=4)(a:∀ i,i<x.length->n+1<=(M.getD i []).length)(l:wL (n+1) (pr s M n)/\(pr s M n).length=s.tape.iK):Sp prog Tb W1 ((vV s x k p S M n).G8 9 9 V<|.mT aa aa x.length 1 λy _=>.lF (S y)<|.sl aa (kG M y) 7<|mv M y) λe z=>e = .normal/\z=(P0 s x k p S M n V):=
 iU (af [.c<|am1 s x n S M V h u U U a,.c<|asy s.tape (pr s M n) n p h.tape v l.1 l.2 U I C]) aI 
def ai5 n(G:List<|List Iv):Sp prog Tb WV (WM s x k p S M n G) λe h=>e = .normal/\h=(xz s x k p S M n 0 G):=
 iU (.nil) aI 
def aiZ n i(G:List<|List Iv)(y:i<x.length):Sp prog Tb PU (xz s x k p S M n i G) λe h=>e = .normal/\h=(xz s x k p S M n i G):=
 iU (af [tT 45 ((i:Int)<x.length) U]) aI 
def ai0 n(G:List<|List Iv):Sp prog Tb PU (xz s x k p S M n x.length G) λe h=>e=(.exit 4)/\h=(vV s x k p S M n):=
 iU (af [tF 45 ((x.length:Int)<x.length) U]) aI 
def ai6 n i(G:List<|List Iv)(z:i<x.length)(y:x.length<=4):Sp prog Tb WX (xz s x k p S M n i G) λe h=>e = .normal/\h=(xz s x k p S M n (i+1) G):=
 iU (af [iN<|(i:Int)+1]) aI 
def ai9 n(y:n<k)(z:k<=16):Sp prog Tb W0 (vV s x k p S M n) λe h=>e = .normal/\h=(vV s x k p S M<|n+1):=
 iU (af [iN<|(n:Int)+1]) aI 
def ai2 n i(G:List<|List Iv)(y:i<x.length)(z:x.length=M.length)(u:n<=16)(I:8<=p)(C:p<=512)(l:G.length=x.length)(v:n<(G.getD i []).length)(r:((G.getD i []).getD n L).iE)(q:(jX<|n+1).iE):∃ h:Tr prog Tb,ND TT Tm 2 17 (((xz s x k p S M n i G).put (al 48)<|.own 9).put (al 49)<|.e<|D i) (L7 s x k p S M n i G) h=h.ex λt=>vO (L7 s x k p S M n i G) t .nil:=
 ⟨af [iX (i:Int)<|x.length,.a (U:i<x.length),iX (i:Int)<|G.length,iX (n:Int)<|(G.getD i []).length,iN<|(n:Int)+1,.c<|NO<|n+1,.c<|acY ((G.getD i []).getD n L) (jX<|n+1) p Z Z U U,.o 66<|.e<|lM<|jC ((G.getD i []).getD n L) (jX<|n+1) p],aI⟩
end
end
def ap7{x:List Iv}{S M M' i y A c}(m:i<x.length)(C:∀ q,q<x.length->M'.getD q []=if q=i then M.getD q []++[y]else M.getD q []):
 Bx.le (.row aa 26 x.length 1 λv z=>if v=i/\0<=z/\z<0+1 then[E.lF (.slice A (kG M i+1) c)<|.sl aa (kG M i+1) 7<|sY (kG M) (mv M) i (λt r=>(jv<|[y].getD t L).getD r .any) i].getD (z-0) .any else(λk _=>E.lF (S k)<|.sl aa (kG M k) 7<|mv M k) v z)
  (.row aa 26 x.length 1 λk _=>.lF (tW S i (.slice A (kG M i+1) c) k)<|.sl aa (kG M' k) 7<|mv M' k):=by
 refine .row rfl λq j p l=>⟨?_,rfl⟩
 obtain rfl:j=0:= U ;have s:=C q p;by_cases e:q=i
 .subst e;rw[bt rfl]at s;rw[bt ⟨rfl,bA _,U⟩];show E.le (.lF (.slice A (kG M q+1) c) _) (.lF (tW S q (.slice A (kG M q+1) c) q) _);have u:tW S q (.slice A (kG M q+1) c) q = .slice A (kG M q+1) c:=bt rfl;rw[u];refine acz (by show _=(M'.getD q []).length;rw[s,cD];rfl) λi j n R=>⟨.jB ?_,tK _ _ R⟩
  show(sY (kG M) (mv M) q _ q) i j=(jv<|(M'.getD q []).getD i L).getD j .any;rw[s];unfold sY;rw[bt rfl];show(if i<(M.getD q []).length then(jv<|(M.getD q []).getD i L).getD j .any else(jv<|[y].getD (i-(M.getD q []).length) L).getD j .any)=_;simp only[bB,eu];split<;>rfl
 .rw [bn e]at s;rw[bn λh=>e h.1];have u:tW S i (.slice A (kG M i+1) c) q=S q:=bn e;rw[u];refine acz (by show(M.getD q []).length=(M'.getD q []).length;rw[s]) λi j n R=>⟨.jB ?_,tK _ _ R⟩
  show(jv<|(M.getD q []).getD i L).getD j .any=(jv<|(M'.getD q []).getD i L).getD j .any;rw[s]
section
variable(s:jS)(x:List Iv)(k p:Nat)(S:Nat->av)(M:List<|List Iv)
def ai1 n i(G:List<|List Iv)(M':List<|List Iv)A c(r:i<x.length)(C:∀ q,q<x.length->M'.getD q []=if q=i then M.getD q []++[jC ((G.getD i []).getD n L) (jX<|n+1) p]else M.getD q []):∃ u:Tr prog Tb,Nt TT Tm [20,21] ((L7 s x k p S M n i G).put (al 67)<|.e<|.lF (.slice A (kG M i+1) c)<|.sl aa (kG M i+1) 7<|sY (kG M) (mv M) i (λy z=>(jv<|[jC ((G.getD i []).getD n L) (jX<|n+1) p].getD y L).getD z .any) i) (xz s x k p (tW S i<|.slice A (kG M i+1) c) M' n i G) u=u.ex λt=>vO (xz s x k p (tW S i<|.slice A (kG M i+1) c) M' n i G) t .nil:=
 ⟨Y [iX (i:Int)<|x.length,.a (U:i<x.length)]<|.e<|af [.b 9 (ap7 r C:Bx.le (.row aa 26 x.length 1 λv j=>if v=i/\0<=j/\j<0+1 then[.lF (.slice A (kG M i+1) c)<|.sl aa (kG M i+1) 7<|sY (kG M) (mv M) i (λy z=>(jv<|[jC ((G.getD i []).getD n L) (jX<|n+1) p].getD y L).getD z .any) i].getD (j-0) .any else(λh _=>.lF (S h)<|.sl aa (kG M h) 7<|mv M h) v j)<|.row aa 26 x.length 1 λh _=>.lF ((tW S i<|.slice A (kG M i+1) c) h)<|.sl aa (kG M' h) 7<|mv M' h)],aI⟩
def ai7:Sp prog Tb WY (vV s x k p S M k) λe h=>e = .ret/\h=⟨70,aa,[(8,.own 9)],[(9,.row aa 26 x.length 1 λy _=>.lF (S y)<|.sl aa (kG M y) 7<|mv M y)]⟩:=
 iU (.nil) aI 
end
section
variable {s:jS} {x:List Iv} {k p:Nat} (h:mE s) (M:∀ i,i<s.tape.iz.length->(s.tape.iz.getD i o).kind<=8) (O:kJ s.iZ x) (g:k<=16) (iI:8<=p) (iC:p<=512)
def Jr(h:mj)(B:Nat->Nat->Prop)(x:List Iv)(M:List<|List Iv)(σ:(Nat->av)->PS)(a:Act)(w:ap):Prop:=
 ∃ S F,Jn prog Tb h B x.length 7 33 (σ S) S (kG M) F (mv M) a w
variable {W:mj} {K:Nat->Nat->Prop} (xH:∀ x o,K x o->W.pX x) {a:Act} {w:ap}
def Jr.Ae{M σ τ c e}(s:∀ S,Sp prog Tb c (σ S) λz h=>z=e/\h=τ S)(j:Jr W K x M σ a w):
 c.wp prog (λk y w'=>k=e.to/\Jr W K x M τ y w') a w:=by
 have⟨S,F,j⟩:=j;refine Code.wp_mono ?_ (Jn.Ae (s S) j);rintro k y w' ⟨v,t,rfl,⟨rfl,rfl⟩,u⟩;exact⟨rfl,S,F,u⟩
include h O g iI iC xH
def aiV{n}(H:n<k)(j:Jr W K x (jb s x p n) (λS=>xz s x k p S (jb s x p n) n 0<|qq s.tape (pr s (jb s x p n) n) n p) a w):
 (Code.loop Gq).wp prog (λe b w'=>e = .exit 4/\Jr W K x (jb s x p<|n+1) (λS=>vV s x k p S (jb s x p<|n+1) n) b w') a w:=by
 have E:=h.s1;have D:=h.s4;have I:=O.len;obtain⟨G,v⟩:∃ G,G=qq s.tape (pr s (jb s x p n) n) n p:=⟨_,rfl⟩
 have B:=yd h O iI iC n U;have l:=Sb h B (by rw[sf,O.len]);have M:=Ya (U:1<=p) (U:p<=4096) h.tape l.1 l.2;have r:(qq s.tape (pr s (jb s x p n) n) n p).length=x.length:=by unfold qq;rw[cI,h.iR,O.len]
 have m:∀ i,DZ s (jb s x p n) p n i=jC ((G.getD i []).getD n L) (jX<|n+1) p:=λi=>by rw[v];rfl
 rw[<-v]at j M r;clear v l;have f:=zO<|n+1;refine afM (λi a w=>Jr W K x (mD s x p n i) (λS=>xz s x k p S (mD s x p n i) n i G) a w) x.length ?_ ?_ ?_
 .intro i a w y j;rw[aeB];refine wp_seq<|Code.wp_mono ?_ (Jr.Ae (λS=>aiZ s x k p S (mD s x p n i) n i G y) j);rintro e o X ⟨rfl,S,F,u⟩;show(Code.seq _ _).wp _ _ o X;refine wp_seq<|wp_block ?_;have J:=M i (by rw[r];exact y);have V:kG (mD s x p n i) i=n+1:=by
   show(List.getD (mD s x p n i) i []).length=n+1;rw[JZ y,bn<|dL _,fp];exact(B i<|by rw[sf];exact y).len
  have C:∀ q,q<x.length->(mD s x p n<|i+1).getD q []=if q=i then(mD s x p n i).getD q []++[jC ((G.getD i []).getD n L) (jX<|n+1) p]else(mD s x p n i).getD q []:=λq z=>by
   rw[aaE q z];by_cases e:q=i
   .subst e;rw[bt rfl,bt rfl,m]
   .rw [bn e,bn e]
  refine Jn.agr IA mixed xH (n:=17) (i:=i) (x0:=9) (x1:=13) (d0:=48) (d1:=49) (dA:=67) (sA:=53) (xA:=66) (t:=26) (bytes:=88) (ex:=λT R=>(jv<|[jC ((G.getD i []).getD n L) (jX<|n+1) p].getD T L).getD R .any)
   (pe:=.sl aa (kG (mD s x p n i) i) 7<|mv (mD s x p n i) i) (L7 s x k p S (mD s x p n i) n i G) (λA c=>xz s x k p (tW S i<|.slice A (kG (mD s x p n i) i+1) c) (mD s x p n<|i+1) n i G)
    aI aI aI aI aI aI aI aI ?_ y aI aI (by rw[V];omega) aI aI aI (λA c=>?_) u ?_ ?_
  .exact ai2 s x k p S (mD s x p n i) n i G y (by rw[Sr]) U iI iC r (by have:=J.len;omega) (J.ok n) f
  .exact ai1 s x k p S (mD s x p n i) n i G (mD s x p n<|i+1) A c y C
  .intro c a w z;exact absurd z.1 aM 
  .intro A c g Y Z Q;show Code.wp _ _ _ Y Z;have P:Jr W K x (mD s x p n<|i+1) (λS=>xz s x k p S (mD s x p n<|i+1) n i G) Y Z:=⟨_,_,Q.ext (λq z=>by
    show(if q=i then kG _ q+1 else kG _ q)=(List.getD (mD s x p n<|i+1) q []).length;rw[C q z];split
    .rw [cD];rfl
    .rfl) λq t d z ht N=>⟨.jB (by
     show(sY _ _ i _ q) t d=(jv<|(List.getD (mD s x p n<|i+1) q []).getD t L).getD d .any;rw[C q z];unfold sY;by_cases e:q=i
     .subst e;rw[bt rfl,bt rfl];show(if t<(List.getD (mD s x p n q) q []).length then(jv<|(List.getD (mD s x p n q) q []).getD t L).getD d .any else _)=_;simp only[bB,eu];split<;>rfl
     .rw [bn e,bn e]),tK _ _ N⟩⟩
   refine Code.wp_mono ?_ (Jr.Ae (λS=>ai6 s x k p S (mD s x p n<|i+1) n i G y U) P);rintro e a3 w3 ⟨rfl,zy⟩;exact⟨rfl,zy⟩
 .intro a w j;rw[aeB];refine wp_seq<|Code.wp_mono ?_ (Jr.Ae (λS=>ai0 s x k p S (mD s x p n x.length) n G) j);rintro e o X ⟨rfl,u⟩;rw[aaD]at u;exact⟨aM,rfl,u⟩
 .rw [aaF];exact j
include M
def aiU(j:Jr W K x (jb s x p 0) (λS=>vV s x k p S (jb s x p 0) 0) a w):
 (Code.loop Gp).wp prog (λe l w'=>e = .exit 2/\Jr W K x (jb s x p k) (λS=>vV s x k p S (jb s x p k) k) l w') a w:=by
 have Q:=h.s1;have P:=h.s4;have N:=O.len;refine afM (λn a w=>Jr W K x (jb s x p n) (λS=>vV s x k p S (jb s x p n) n) a w) k ?_ ?_ j
 .intro n a w y j;have B:=yd h O iI iC n U;have R:=Sb h B (by rw[sf,O.len]);rw[aeA];refine wp_seq<|Code.wp_mono ?_ (Jr.Ae (λS=>aiX s x k p S (jb s x p n) n y) j);rintro e v t ⟨rfl,S,F,z⟩;show(Code.seq _ _).wp _ _ v t;refine wp_seq (wp_block (wp_seq (Code.wp_mono ?_ (Jn.Sw z (id:=9) (t9:=9) (T1:=26) rfl rfl (λi b r u=>S1 (σ:=vV s x k p S (jb s x p n) n) aI i b u) (λV=>P0 s x k p S (jb s x p n) n V)
   (λV=>aja s x k p S (jb s x p n) n V h M U iI iC (sf _ _ _ _).symm U (λi r=>by rw[(B i<|by rw[sf];exact r).len];exact bA _) R) (λV=>⟨rfl,rfl⟩) (λV i b u=>S1 (σ:=P0 s x k p S (jb s x p n) n V) aI i b u)))))
  rintro e q m ⟨rfl,V,f⟩;show(Code.seq _ _).wp _ _ q m;have d:Jr W K x (jb s x p n) (λS=>WM s x k p S (jb s x p n) n<|qq s.tape (pr s (jb s x p n) n) n p) q m:=⟨S,F,f.le<|PS.le.cut [12,11,9,4,2,3] [9,4] aI⟩
  refine wp_seq<|Code.wp_mono ?_ (Jr.Ae (λS=>ai5 s x k p S (jb s x p n) n<|qq s.tape (pr s (jb s x p n) n) n p) d);rintro e c o ⟨rfl,X⟩;show(Code.block _ _).wp _ _ c o;refine wp_block<|Code.wp_mono ?_ (aiV h O g iI iC xH y X);rintro e Y Z ⟨rfl,L⟩;show Code.wp _ _ _ Y Z;refine Code.wp_mono ?_ (Jr.Ae (λS=>ai9 s x k p S (jb s x p<|n+1) n y g) L);rintro e G E ⟨rfl,T⟩;exact⟨rfl,T⟩
 .intro a w j;rw[aeA];refine wp_seq<|Code.wp_mono ?_ (Jr.Ae (λS=>aiY s x k p S<|jb s x p k) j);rintro e v t ⟨rfl,z⟩;exact⟨aM,rfl,z⟩
end
def aiT{x:List Iv}{S:Nat->av}{M}(h:x.length=M.length):E.le (.sl aa x.length 1 λk _=>.lF (S k)<|.sl aa (kG M k) 7<|mv M k)<|kX M:=by
 unfold kX;rw[<-h];exact .sl λi j y z=>⟨UI,Sm _⟩
def WN s x(k p:Nat)(h:mE s)(X:∀ i,i<s.tape.iz.length->(s.tape.iz.getD i o).kind<=8)(u:kJ s.iZ x)(t:k<=16)(I:8<=p)(C:p<=512):
 iB 62 [kH s,K x,D k,D p] (kX<|jb s x p k):=by
 have s1:=h.s1;have lx:=u.len;refine⟨Ta aI,λw B vs zy z Y=>calls_of_wp func62 as9 ?_⟩;have Z:=jy.init (fn:=Tryz.f62) Y (cY aI) aa z;have g:Gd prog Tb ⟨w,λ_=>False⟩ B:=⟨λw' k=>Pj _ _ zy k.below,λb zx q=>⟨⟨(z b zx q).1,λh=>h⟩,(z b zx q).2⟩⟩
 rw[ata];refine wp_seq<|Code.wp_mono ?_ (ai3 s x k p _ B _ w _ g Z);rintro e V n ⟨l,f,L1,rfl,⟨rfl,rfl⟩,T⟩;show(Code.seq _ _).wp _ _ V n;refine wp_seq<|Code.wp_mono ?_ (ai4 s x k p _ B _ n _ g T);rintro e R d ⟨l,f,L2,rfl,⟨rfl,rfl⟩,Q⟩;show(Code.seq _ _).wp _ _ R d;refine wp_seq<|Code.wp_mono ?_ (aiW s x k p h u t I C _ B _ d _ g Q);rintro e a c ⟨l,f,L3,rfl,⟨rfl,rfl⟩,P⟩;show(Code.seq _ _).wp _ _ a c;have⟨S,F,j⟩:=Jn.start g P (id:=9) (T1:=26) (T0:=33) (m:=x.length) (sz:=7) (len:=kG<|jb s x p 0) (el:=mv<|jb s x p 0) rfl U (apf aI);have H:∀ y zx,B y zx->(⟨w,λ_=>False⟩:mj).pX y:=λy zx M=>⟨(z y zx M).1,λh=>h⟩
 have L:Jr ⟨w,λ_=>False⟩ B x (jb s x p 0) (λS=>WL s x k p S<|jb s x p 0) a c:=⟨S,F,j⟩
 refine wp_seq<|wp_seq<|Code.wp_mono ?_ (Jr.Ae (λS=>ai8 s x k p S<|jb s x p 0) L);rintro e G E ⟨rfl,N⟩;show(Code.block _ _).wp _ _ G E;refine wp_block<|Code.wp_mono ?_ (aiU h X u t I C H N);rintro e A J ⟨rfl,O⟩;show Code.wp _ _ _ A J;refine Code.wp_mono ?_ (Jr.Ae (λS=>ai7 s x k p S<|jb s x p k) O);rintro e a6 w6 ⟨rfl,W,F6,j4⟩;exact Jn.post IA rfl rfl j4 (fn:=Tryz.f62) (r:=.sl aa x.length 1 λv _=>.lF (W v)<|.sl aa (kG (jb s x p k) v) 7<|mv (jb s x p k) v) aI (aiT (sf _ _ _ _).symm)
def acp(nl:Bool)(n N:Nat)(el:Nat->Nat->E)(g:FuncId)(cap:List E)(i:Nat):PS:=⟨19,ac,[(8,.e<|D i),(7,.e<|D n),(0,.e<|.sl nl n 6 el),(1,.e<|.fn g cap)],[]⟩
def aco(nl:Bool)(n:Nat)(el:Nat->Nat->E)(g:FuncId)(cap:List E)(i:Nat):PS:=⟨19,ac,[(8,.e<|D i),(7,.e<|D n),(0,.e<|.sl nl n 6 el),(1,.e<|.fn g cap)],[]⟩
def Ve(b:List Iv)(N:Nat)(i:Nat):PS:=⟨15,aa,[(3,.e<|D i),(0,.e<|K b)],[]⟩
def Vd(b:List Iv)(i:Nat):PS:=⟨15,aa,[(3,.e<|D i),(0,.e<|K b)],[]⟩
noncomputable def adD(s:jS)(y:List Iv)(t:Iv)(k p:Nat)(i:Nat):PS:=⟨45,aa,[(12,.own 12),(13,.e<|D i),(11,.e<|kX<|jb s y p<|k+1),(7,.box 7 0),(3,.e<|D k),(4,.e<|D p)],[(12,.row aa 33 i 7<|jf<|(be i).map λi=>B (((jb s y p<|k+1).getD i []).getD (k+1) L) (jO t (k+1) p) p),(7,.cells 33<|jv t)]⟩
noncomputable def Vu(s:jS)(x y:List Iv)(t:Iv)(k p:Nat)(i:Nat):PS:=⟨51,aa,[(15,.own 15),(16,.e<|D i),(14,.e<|K<|kW s y t k p),(13,.e<|kX<|jb s x p k),(9,.box 9 0),(5,.e<|D p)],[(15,.row aa 33 i 7<|jf<|(be i).map λi=>jN (nv ((jb s x p k).getD i []) t p) ((kW s y t k p).getD i L) p),(9,.cells 33<|jv t)]⟩
def St n e(x:n.natAbs<4294967296)(k:-1000<=e)(y:e<=1000):iB 24 [D n,D e]<|iJ<|lV n e:=by
 have h:oL<|canon (Dy.neg<|jF n) (Dy.m<|jF n)<|(Dy.e<|jF n)+e:=by rw[Wk];exact(IN x k y).range
 exact iL<|Y [.c<|adw n U,.c<|arI (jF n) e (vz U) U U h]<|V (iJ<|canon (Dy.neg<|jF n) (Dy.m<|jF n)<|(Dy.e<|jF n)+e) (iJ<|lV n e)<|by rw[Wk]
def J2 m n e(h:m.natAbs<4294967296)(x:n.natAbs<4294967296)(k:-1000<=e)(y:e<=1000):iB 21 [D m,D n,D e]<|O ⟨lV m e,lV n e,ac⟩:=
 iL (Y [.c<|St m e aW aW aW,.c<|St n e aW aW aW]<|rR (O ⟨lV m e,lV n e,ac⟩) (.jB rfl:E.le (O<|Iv.mk (lV m e) (lV n e) ac)<|O ⟨lV m e,lV n e,ac⟩))
def aaM: iB 22 []<|kH qB:=
 iL (rR (kH qB) (by
  exact .agg (.cons (.refl _) (.cons (.nil _ _ _) (.cons (.sl λi j k y=>by
   obtain rfl:j=0:= U ;obtain rfl:i=0:= U ;exact⟨.jB rfl,rfl⟩)<|.cons (.refl _)<|.cons (.nil _ _ _) .nil))):E.le (.agg [D 1,.v<|.slice am 0 0,(.sl aa 1 1 λh x=>[D 0].getD (h*1+x)<|.v<|.bool ac),D 1,.v<|.slice am 0 0])<|kH qB))
def OJ:mE qB:=by
 refine⟨⟨aG,aG,aG,λi h=>absurd h<|bD i,λi h=>?_⟩,aG,aG,rfl,rfl,aG,λi h=>absurd h<|bD i⟩;have h:i<1:=h;obtain rfl:i=0:= U ;decide
def acj{B}(v:B.iE)(a:B.all=ac):kJ 1 [B]:=⟨rfl,λi h=>by
 have h:i<1:=h;obtain rfl:i=0:= U ;exact⟨v,a⟩⟩
def Kq{m n e}(y:m.natAbs<4294967296)(z:n.natAbs<4294967296)(x:-1000<=e)(k:e<=1000)(h:jQ (lV m e) (lV n e)<=0):(⟨lV m e,lV n e,ac⟩:Iv).iE:=
 .inr ⟨rfl,IN y x k,IN z x k,h⟩
def EN:kJ qB.iZ gX:=acj (Kq aG aG aG aG aQ) rfl
def Yr:gH.iE:=IN aG aG aG 
def YH:rP qB gX gH (tG gX<|pV (-5)) 53=gT:=by
 unfold rP;rw[bt λk h q=>by have:=YG (k+1) U;rw[q]at this;cases this]
def YC:mU (mG qB gX gT (lp gH) 4 53)=ac:= aQ 
def YF:Hg (mG qB gX gT (lp gH) 4 53) gT=aa:= aQ 
def YE:(ur (mG qB gX gT (lp gH) 4 53) gT).length=1:= aQ 
def alW:Cu ((ur (mG qB gX gT (lp gH) 4 53) gT).getD 0 L) ⟨lV 64 (-6),lV 67 (-6),ac⟩=aa:= aQ 
def alZ:iB 23 [kH qB,K gX,iJ gH,D 4,D 53]<|.iO [K gT,K<|ur (mG qB gX gT (lp gH) 4 53) gT,D 0]:=by
 have n:=QK;unfold Dc at n;rw[bN]at n;have b:=QI EN (OR (k:=-5) aG aG) (Ur<|OQ _) n.1;have h:0<gH.jh:= aQ ;have E:=akd qB gX gH 53 OJ EN Yr h aG aG 15 aG alX QK;have:=atJ qB gX OJ EN 53 aG aG 4 gH Yr h aG aG _ b n.2 E;rw[show OF qB gX gH (tG gX<|pV (-5)) 4 53 = .inr (gT,ur (mG qB gX gT (lp gH) 4 53) gT)by
  unfold OF;rw[YH,YC,YF];rfl]at this
 exact this
def alV:iB 6 [kH qB,K gX,K [⟨lV 2 (-1),lV 3 (-1),ac⟩],O ⟨lV 1 (-2),lV 1 (-2),ac⟩,D 1,D 24]<|.iO [K [⟨lV 82 (-6),lV 83 (-6),ac⟩],D 0]:=by
 have:=Ps qB gX [⟨lV 2 (-1),lV 3 (-1),ac⟩] ⟨lV 1 (-2),lV 1 (-2),ac⟩ 1 24 OJ EN (acj (Kq aG aG aG aG aQ) rfl)
  (Kq aG aG aG aG aQ) rfl aQ aG aG aG aG (by rw[YD];decide +kernel)
 rw[YD]at this;exact this
def ak3:((ur (mG qB gX gT (lp gH) 4 53) gT).getD 0 L).iE:=by
 have n:=QK;unfold Dc at n;rw[bN]at n;have b:=QI EN (OR (k:=-5) aG aG) (Ur<|OQ _) n.1;have h:kJ qB.iZ gT:=by
  have:=afw (d:=gH) (p:=53) EN aG aG b;rwa[YH]at this
 have A:=LB (t:=lp gH) (k:=4) (p:=53) OJ EN h aG aG aG YC;have M:=aoz A h YF;exact(M.ok 0<|by rw[YE];decide).1
def J1: iB 4 []<|I aa:=by
 have e:gT.length=1:=YG 4<|bA _;have x:=YE;exact iL (af [.c<|J2 1 1 0 aG aG aG aG,.o 8<|.e<|lM (⟨lV 1 0,lV 1 0,ac⟩:Iv),.c aaM,.c<|J2 2 3 (-1) aG aG aG aG,.o 13<|.e<|lM (⟨lV 2 (-1),lV 3 (-1),ac⟩:Iv),.c<|J2 1 1 (-2) aG aG aG aG,.c alV,.c aaM,.c<|St 1 (-6) aW aW aW,.c alZ,tE 27 0 0,.c<|J2 82 83 (-6) aG aG aG aG,.o 31<|.e<|lM (⟨lV 82 (-6),lV 83 (-6),ac⟩:Iv),.c<|KV [(⟨lV 82 (-6),lV 83 (-6),ac⟩:Iv)] (λi h=>by have h:i<1:=h;obtain rfl:i=0:= U;exact Kq aG aG aG aG aQ) aG,tE 36 0 0,ah 41 ((gT.length:Int)==1)<|by rw[e];rfl,ah 46 (((ur (mG qB gX gT (lp gH) 4 53) gT).length:Int)==1)<|by rw[x];rfl,
  iX 0 ((ur (mG qB gX gT (lp gH) 4 53) gT).length),.c<|J2 64 67 (-6) aG aG aG aG,.c (by have:=VN ((ur (mG qB gX gT (lp gH) 4 53) gT).getD 0 L) (⟨lV 64 (-6),lV 67 (-6),ac⟩:Iv) ak3<|Kq aG aG aG aG aQ;rwa[alW]at this:iB 25 [O<|(ur (mG qB gX gT (lp gH) 4 53) gT).getD 0 L,O (⟨lV 64 (-6),lV 67 (-6),ac⟩:Iv)]<|I aa)])
section
variable(nl:Bool)(n:Nat)(el:Nat->Nat->E)(g:FuncId)(cap:List E)(p:Nat->Bool)(u:∀ i,i<n->iB g ((.agg [el i 0,el i 1,el i 2,el i 3,el i 4,el i 5])::cap) (I<|p i))
def apz N(l:n<=1000000)(o:N<n)(j:∀ i,i<N->p i=ac)(h:p N=aa):iB 102 [.sl nl n 6 el,.fn g cap]<|D N:=
 pL (af [.s (Sp.jL (acp nl n N el g cap) 0 N U (λi x R=>by
    exact iU (af [tT 9 ((i:Int)<n) U,iX (i:Int) n,.c<|u i U,S 16<|j i U,iN<|(i:Int)+1]) aI)
  (λx=>by
    exact iU (af [tT 9 ((N:Int)<n) U,iX (N:Int) n,.c<|u N U,S 16 h]) aI) aM:jK 2 f102 (acp nl n N el g cap 0) .ret ⟨19,ac,[(4,.e<|D N)],[]⟩) .nil])
def apC(l:n<=1000000)(j:∀ i,i<n->p i=ac):iB 102 [.sl nl n 6 el,.fn g cap]<|D (-1):=
 pL (af [.s (Sp.jL (aco nl n el g cap) 0 n U (λi h o=>by
    exact iU (af [tT 9 ((i:Int)<n) U,iX (i:Int) n,.c<|u i U,S 16<|j i U,iN<|(i:Int)+1]) aI)
  (λh=>by
    exact iU (af [tF 9 ((n:Int)<n) U]) aI) aM:jK 2 f102 (aco nl n el g cap 0) (.exit 0) ⟨19,ac,[],[]⟩) .nil])
def apA N(h:n<=1000000)(o:N<n)(j:∀ i,i<N->p i=ac)(x:p N=aa):iB 60 [.sl nl n 6 el,.fn g cap]<|I aa:=
 pL (af [.c<|apz nl n el g cap p u N h o j x,tT 8 (0<=(N:Int)) U])
def apB(h:n<=1000000)(j:∀ i,i<n->p i=ac):iB 60 [.sl nl n 6 el,.fn g cap]<|I ac:=
 pL (af [.c<|apC nl n el g cap p u h j,tF 8 ((0:Int)<=(-1)) U])
def apy(l:n<=1000000):iB 60 [.sl nl n 6 el,.fn g cap]<|I<|(be n).any p:=by
 by_cases h:∃ i,i<n/\p i=aa
 .obtain ⟨N,k,y,z⟩:∃ N,N<n/\p N=aa/\∀ i,i<N->p i=ac:=si h;refine(apA nl n el g cap p u N l k z y).j9<|.jB ?_;rw[dh.2 ⟨N,ca.2 k,y⟩]
 .refine (apB nl n el g cap p u l λi x=>by simpa using λq=>h ⟨i,x,q⟩).j9<|.jB ?_;rw[dt.2 λi x q=>h ⟨i,ca.1 x,q⟩]
end
def aq8 o:iB 61 [Az o]<|I<|decide (8<o.kind):=
 iL (V (I<|decide (8<(o.kind:Int))) (I<|decide (8<o.kind))<|nF<|by rw[dW,cK,cK];omega)
def aq9 t(h:zT t):iB 18 [El t]<|I<|!((be t.iz.length).any λi=>decide (8<(t.iz.getD i o).kind)):=by
 have D:=h.iz;exact iL<|af [.c<|UC t Z,.c (apy aa t.iz.length (λi j=>(Kr<|t.iz.getD i o).getD j .any) 61 [] (λi=>decide (8<(t.iz.getD i o).kind)) (λi _=>aq8 _) U:iB 60 [mf t.iz,.fn 61 []] _)]
section
variable(b:List Iv)(h:b.length<=1000)
def agk N(o:N<b.length)(j:∀ i,i<N->(b.getD i L).all=ac)(h:(b.getD N L).all=aa):iB 16 [K b]<|I aa:=
 iL (af [.s (Sp.jL (Ve b N) 0 N U (λi x R=>by
    exact iU (af [tT 7 ((i:Int)<b.length) U,iX (i:Int)<|b.length,S 14<|j i U,iN<|(i:Int)+1]) aI)
  (λx=>by
    exact iU (af [tT 7 ((N:Int)<b.length) U,iX (N:Int)<|b.length,S 14 h]) aI) aM:jK 2 Tryz.f16 (Ve b N 0) .ret ⟨15,aa,[(2,.e<|I aa)],[]⟩) .nil])
def agj(j:∀ i,i<b.length->(b.getD i L).all=ac):iB 16 [K b]<|I ac:=
 iL (af [.s (Sp.jL (Vd b) 0 b.length U (λi h o=>by
    exact iU (af [tT 7 ((i:Int)<b.length) U,iX (i:Int)<|b.length,S 14<|j i U,iN<|(i:Int)+1]) aI)
  (λh=>by
    exact iU (af [tF 7 ((b.length:Int)<b.length) U]) aI) aM:jK 2 Tryz.f16 (Vd b 0) (.exit 0) ⟨15,aa,[],[]⟩) .nil])
end
def IE b(l:b.length<=1000:=by omega):iB 16 [K b]<|I<|mU b:=by
 cases h:mU b with
 |false=>exact agj b l λi x=>Q8 h x
 |true=>
  have⟨i,x,q⟩:=dh.1 h;have⟨N,k,y,z⟩:=si (p:=λi=>(b.getD i L).all) ⟨i,ca.1 x,q⟩;exact agk b l N k z y
def adE s y t(k p:Nat)(h:mE s)(x:kJ s.iZ y)(z:t.iE)(l:1<=k)(m:k<=15)(I:8<=p)(C:p<=512)(v:∀ i,i<s.tape.iz.length->(s.tape.iz.getD i o).kind<=8):iB 20 [kH s,K y,O t,D k,D p]<|K<|kW s y t k p:=by
 have e:=sf s y p<|k+1;have g:=h.s1;have f:=h.s4;have d:=x.len;have r:=FJ z (k+1) (U:1<=p) (U:p<=4096);exact iL (Y [iN<|(k:Int)+1,ag [kH s,K y,D ((k+1:Nat):Int),D p]<|WN s _ _ p h v Z U I C,.y 12 12 aa 33 7<|jf<|(be 0).map λi=>B (((jb s y p<|k+1).getD i []).getD (k+1) L) (jO t (k+1) p) p,.s (Sp.jL (adD s y t k p) 0 ((jb s y p<|k+1).length) U (λi q a=>by
    have u:=yd h x I C (k+1) U i U;have J:=u.len;have c:=u.ok<|k+1;have r:=FJ z (k+1) (U:1<=p) (U:p<=4096);have b:=oh<|B (((jb s y p<|k+1).getD i []).getD (k+1) L) (jO t (k+1) p) p;exact iU (Y [tT 23 ((i:Int)<((jb s y p<|k+1).length:Int)) U,iX (i:Int)<|(jb s y p<|k+1).length,iN<|(k:Int)+1,
     iX ((k+1:Nat):Int) (((jb s y p<|k+1).getD i []).length),iN<|(k:Int)+1,.c<|N6 t (k+1) p Z,.c<|CN (((jb s y p<|k+1).getD i []).getD (k+1) L) (jO t (k+1) p) p Z Z,.o 42<|.e<|lM<|B (((jb s y p<|k+1).getD i []).getD (k+1) L) (jO t (k+1) p) p,.a (U:(i+[B (((jb s y p<|k+1).getD i []).getD (k+1) L) (jO t (k+1) p) p].length)*88<=140737488355328),iN<|(i:Int)+1]<|.e<|af [.b 12<|ub 33 i λi=>B (((jb s y p<|k+1).getD i []).getD (k+1) L) (jO t (k+1) p) p]) aI)
  (λq=>by
    exact iU (Y [tF 23 (((jb s y p<|k+1).length:Int)<((jb s y p<|k+1).length:Int)) U,.z 12]<|.e<|af [.o 12<|.e<|uO (n:=(jb s y p<|k+1).length) (M:=(be<|(jb s y p<|k+1).length).map λi=>B (((jb s y p<|k+1).getD i []).getD (k+1) L) (jO t (k+1) p) p) aK]) aI) aM:jK 4 Tryz.f20 (adD s y t k p 0) (.exit 0) ⟨45,aa,[(12,.e<|K<|(be<|(jb s y p<|k+1).length).map λi=>B (((jb s y p<|k+1).getD i []).getD (k+1) L) (jO t (k+1) p) p)],[]⟩) .nil]<|V (K<|(be<|(jb s y p<|k+1).length).map λi=>B (((jb s y p<|k+1).getD i []).getD (k+1) L) (jO t (k+1) p) p) (K<|kW s y t k p)<|by unfold kW lj;rw[e])
def agw s x y t(k p:Nat)(h:mE s)(u:kJ s.iZ x)(v:kJ s.iZ y)(r:t.iE)(l:1<=k)(m:k<=15)(I:8<=p)(C:p<=512)(q:∀ i,i<s.tape.iz.length->(s.tape.iz.getD i o).kind<=8):iB 19 [kH s,K x,K y,O t,D k,D p]<|K<|mG s x y t k p:=by
 have e:=sf s x p k;have X:=BI s y t k p;have f:=h.s1;have d:=h.s4;have c:=u.len;have b:=v.len;have A:((be (jb s x p k).length).map λi=>jN (nv ((jb s x p k).getD i []) t p) ((kW s y t k p).getD i L) p)=mG s x y t k p:=by unfold mG lj;rw[e]
 exact iL (Y [ag [kH s,K x,D k,D p]<|WN s _ _ p h q Z U I C,.c<|adE s y t k p h v r l m I C q,.y 15 15 aa 33 7<|jf<|(be 0).map λi=>jN (nv ((jb s x p k).getD i []) t p) ((kW s y t k p).getD i L) p,.s (Sp.jL (Vu s x y t k p) 0 ((jb s x p k).length) U (λi g R=>by
    have z:=yd h u I C k U i U;have J:=z.len;have X:=BI s y t k p;have a:=I6 (t:=t) (U:1<=p) (U:p<=4096) z.ok;have j:=FR (s:=s) (t:=t) (k:=k) I C (y:=y) (i:=i) U;have w:=oh<|jN (nv ((jb s x p k).getD i []) t p) ((kW s y t k p).getD i L) p;exact iU (Y [tT 31 ((i:Int)<((jb s x p k).length:Int)) U,iX (i:Int)<|(jb s x p k).length,.c<|akm ((jb s x p k).getD i []) t (k+1) p U U z r I C,
     iX (i:Int) ((kW s y t k p).length),.c<|Ht (nv ((jb s x p k).getD i []) t p) ((kW s y t k p).getD i L) p Z Z,.o 48<|.e<|lM<|jN (nv ((jb s x p k).getD i []) t p) ((kW s y t k p).getD i L) p,.a (U:(i+[jN (nv ((jb s x p k).getD i []) t p) ((kW s y t k p).getD i L) p].length)*88<=140737488355328),iN<|(i:Int)+1]<|.e<|af [.b 15<|ub 33 i λi=>jN (nv ((jb s x p k).getD i []) t p) ((kW s y t k p).getD i L) p]) aI)
  (λg=>by
    exact iU (Y [tF 31 (((jb s x p k).length:Int)<((jb s x p k).length:Int)) U,.z 15]<|.e<|af [.o 15<|.e<|uO (n:=(jb s x p k).length) (M:=(be<|(jb s x p k).length).map λi=>jN (nv ((jb s x p k).getD i []) t p) ((kW s y t k p).getD i L) p) aK]) aI) aM:jK 5 Tryz.f19 (Vu s x y t k p 0) (.exit 0) ⟨51,aa,[(15,.e<|K<|(be<|(jb s x p k).length).map λi=>jN (nv ((jb s x p k).getD i []) t p) ((kW s y t k p).getD i L) p)],[]⟩) .nil]<|V (K<|(be<|(jb s x p k).length).map λi=>jN (nv ((jb s x p k).getD i []) t p) ((kW s y t k p).getD i L) p) (K<|mG s x y t k p)<|by rw[<-A])
section
variable(s:jS)(y:List Iv)(t:Iv)(k p:Nat)(h:mE s)(z:kJ s.iZ y)(u:t.iE)(a:t.all=ac)(v:0<=t.lo.jh)(E:1<=k)(r:k<=15)(i:8<=p)(q:p<=512)
def adF(B:mU (kW s y t k p)=ac):iB 7 [kH s,K y,O t,D k,D p]<|.iO [K<|kW s y t k p,D 0]:=by
 have C:=BI s y t k p;have x:=h.s4;have l:=z.len;exact iL<|af [.c<|BV s y h Z,.c<|AB p,.c<|AA k,.c<|OL t u a v,.c<|Oj s y t k p h z u E r i q,tM 44 0 0,.c<|aaN B U]
def adG(B:mU (kW s y t k p)=aa):iB 7 [kH s,K y,O t,D k,D p]<|.iO [.v<|.slice am 0 0,D 11]:=by
 have C:=BI s y t k p;have x:=h.s4;have l:=z.len;exact iL<|af [.c<|BV s y h Z,.c<|AB p,.c<|AA k,.c<|OL t u a v,.c<|Oj s y t k p h z u E r i q,tM 44 0 0,.c<|aaO B U]
end
section
variable(s:kz)(g:s.jA)(m:s.nO)(y:List RI)(v:∀ i,(y.getD i jT).jA)(W:y.length<=1000)(t:RI)
def arX(x:t.jA)k p(h:uY s y=ac):iB 7 [mn s,jJ y,mY t,D k,D p]<|.iO [.v<|.slice am 0 0,D 1]:=
 iL (af [.c<|LL s g m y v W,S 18 h])
def arZ(z:t.jA)k p(h:uY s y=aa)(x:(decide (8<=p)&&decide (p<=512))=ac):iB 7 [mn s,jJ y,mY t,D k,D p]<|.iO [.v<|.slice am 0 0,D 2]:=
 iL (af [.c<|LL s g m y v W,S 18 h,.c<|FI p,S 22 x])
def ar0(u:t.jA)k p(h:uY s y=aa)(x:(decide (8<=p)&&decide (p<=512))=aa)(z:(decide (1<=k)&&decide (k<=15))=ac):iB 7 [mn s,jJ y,mY t,D k,D p]<|.iO [.v<|.slice am 0 0,D 2]:=
 iL (af [.c<|LL s g m y v W,S 18 h,.c<|FI p,S 22 x,.c<|Kv k,S 26 z])
section
variable(u:t.jA)(k p:Int)(r:uY s y=aa)
def ar1(h:(decide (8<=p)&&decide (p<=512))=aa)(x:(decide (1<=k)&&decide (k<=15))=aa)(z:xn t=ac):iB 7 [mn s,jJ y,mY t,D k,D p]<|.iO [.v<|.slice am 0 0,D 2]:=
 iL (af [.c<|LL s g m y v W,S 18 r,.c<|FI p,S 22 h,.c<|Kv k,S 26 x,.c<|afk t u,S 31 z])
def arY(h:BH t k p=ac):iB 7 [mn s,jJ y,mY t,D k,D p]<|.iO [.v<|.slice am 0 0,D 2]:=by
 unfold BH mi at h;cases c1:(decide (8<=p)&&decide (p<=512))with
 |false=>exact arZ s g m y v W t u k p r c1
 |true=>
  rw[c1,dw]at h;cases c2:(decide (1<=k)&&decide (k<=15))with
  |false=>exact ar0 s g m y v W t u k p r c1 c2
  |true=>
   rw[c2,dw]at h;exact ar1 s g m y v W t u k p r c1 c2 h
end
end
noncomputable def aaQ(s:jS)(x y:List Iv)(t:Iv)(k p:Nat)(A R:List Iv)(e f:Int)(i:Nat):PS:=⟨235,aa,[(24,.own 24),(23,.own 23),(135,.e<|D i),(134,.e<|D ((jb s x p k).length:Int)),(21,.e<|kX<|jb s x p k),(19,.e<|kX<|jb s y p<|k+1),(16,.e<|D f),(15,.e<|K R),(14,.e<|D e),(13,.e<|K A),(10,.box 10 0),(9,.box 9 0),(6,.box 6 0),(1,.e<|K x),(2,.e<|K y),(5,.e<|D p)],[(24,.row aa 33 i 7<|jf<|(be i).map λi=>jN (nv ((jb s x p k).getD i []) t p) ((kW s y t k p).getD i L) p),(23,.row aa 33 i 7<|jf<|(be i).map λi=>B (((jb s y p<|k+1).getD i []).getD (k+1) L) (jO t (k+1) p) p),(10,.cells 3 [D k]),(9,.cells 33<|jv t),(6,.cells 28 [D s.tape.iK,mf s.tape.iz,mh s.tape.iR,D s.iZ,K s.params])]⟩
def asp{A:Nat->Nat->E}{y z n}(h:y=z):E.le (.agg [(λi j=>if i<n then A i j else(E.lO<|K [y]) (i-n) j) n 0,(λi j=>if i<n then A i j else(E.lO<|K [y]) (i-n) j) n 1,(λi j=>if i<n then A i j else(E.lO<|K [y]) (i-n) j) n 2,(λi j=>if i<n then A i j else(E.lO<|K [y]) (i-n) j) n 3,(λi j=>if i<n then A i j else(E.lO<|K [y]) (i-n) j) n 4,(λi j=>if i<n then A i j else(E.lO<|K [y]) (i-n) j) n 5,(λi j=>if i<n then A i j else(E.lO<|K [y]) (i-n) j) n 6])<|O z:=by
 subst h;simp only[dL,bE,dm];exact .jB rfl
section
variable(s:kz)(x y:List RI)(t:RI)(k p:Int)
def agD(h:nG s k p x y [t]=aa):iB 3 [mn s,jJ x,jJ y,mY t,D k,D p]<|I aa:=
 iL (af [.c J1,.o 34<|.e<|On t,.c<|Jl s k p x y [t],S 36 h])
section
variable(v:nG s k p x y [t]=ac)
def Vy e f(h:e≠0)(z:f≠0)(A:iB 6 [mn s,jJ x,jJ y,mY t,D k,D p]<|.iO [.v<|.slice am 0 0,D e])(R:iB 7 [mn s,jJ y,mY t,D k,D p]<|.iO [.v<|.slice am 0 0,D f])(H:iB 8 [mn s,(.sl aa 1 1 λi j=>[jJ y].getD (i*1+j)<|.v<|.bool ac),mY t,D k,D p]<|D f)(u:iB 8 [mn s,(.sl aa 2 1 λi j=>[jJ x,jJ y].getD (i*1+j)<|.v<|.bool ac),mY t,D k,D p]<|D e):iB 3 [mn s,jJ x,jJ y,mY t,D k,D p]<|I aa:=
 iL (af [.c J1,.o 34<|.e<|On t,.c<|Jl s k p x y [t],S 36 v,.c A,.c R,.c H,S 64<|bk z,S 67<|awZ f,tM 71 0 0,.c u,S 82<|bk h,S 85<|aw4 e,tE 89 0 0])
def agE e(h:e≠0)L(A:iB 6 [mn s,jJ x,jJ y,mY t,D k,D p]<|.iO [.v<|.slice am 0 0,D e])(R:iB 7 [mn s,jJ y,mY t,D k,D p]<|.iO [K L,D 0])(H:iB 8 [mn s,(.sl aa 1 1 λi j=>[jJ y].getD (i*1+j)<|.v<|.bool ac),mY t,D k,D p]<|D 0)(u:iB 8 [mn s,(.sl aa 2 1 λi j=>[jJ x,jJ y].getD (i*1+j)<|.v<|.bool ac),mY t,D k,D p]<|D e):iB 3 [mn s,jJ x,jJ y,mY t,D k,D p]<|I aa:=
 iL (af [.c J1,.o 34<|.e<|On t,.c<|Jl s k p x y [t],S 36 v,.c A,.c R,.c H,tM 64 0 0,.c u,S 82<|bk h,S 85<|aw4 e,tE 89 0 0])
def agF e(h:e≠0)(A:iB 6 [mn s,jJ x,jJ y,mY t,D k,D p]<|.iO [.v<|.slice am 0 0,D e])(R:iB 7 [mn s,jJ y,mY t,D k,D p]<|.iO [.v<|.slice am 0 0,D 11])(H:iB 8 [mn s,(.sl aa 1 1 λi j=>[jJ y].getD (i*1+j)<|.v<|.bool ac),mY t,D k,D p]<|D 0)(u:iB 8 [mn s,(.sl aa 2 1 λi j=>[jJ x,jJ y].getD (i*1+j)<|.v<|.bool ac),mY t,D k,D p]<|D e):iB 3 [mn s,jJ x,jJ y,mY t,D k,D p]<|I aa:=
 iL (af [.c J1,.o 34<|.e<|On t,.c<|Jl s k p x y [t],S 36 v,.c A,.c R,.c H,tM 64 0 0,.c u,S 82<|bk h,S 85<|aw4 e,tE 89 0 0])
end
end
def anN l(k:Nat)(h:k<=100)(x:l.length=k+2):iB 11 [K l,(.jE 1 λj=>[D k].getD j .any)]<|I ac:=
 iL (af [iN<|(k:Int)+2,ai 8 ((l.length:Int) != ((k+2:Nat):Int))<|zw])
section
variable(s:jS)(x y:List Iv)(t:Iv)(k p:Nat)(h:mE s)(hx:kJ s.iZ x)(hy:kJ s.iZ y)(ht:t.iE)
def agG(W:t.all=ac)(t0:0<=t.lo.jh)(E:1<=k)(d:k<=15)(z1:8<=p)(C:p<=512)(G:iB 5 [kH s,D k,D p,(.sl aa 3 1 λc j=>[K x,K y,K [t]].getD (c*1+j)<|.v<|.bool ac)]<|I ac)(H:iB 8 [kH s,(.sl aa 1 1 λc j=>[K y].getD (c*1+j)<|.v<|.bool ac),O t,D k,D p]<|D 0)(V:iB 8 [kH s,kX [x,y],O t,D k,D p]<|D 0)A R e f q(T:iB 6 [kH s,K x,K y,O t,D k,D p]<|.iO [K A,D e])(z2:iB 7 [kH s,K y,O t,D k,D p]<|.iO [K R,D f])(b:iB 18 [El s.tape]<|I q)(w:q=aa->∀ i,i<s.tape.iz.length->(s.tape.iz.getD i o).kind<=8)(z0:mU (kW s y t k p)=decide (f=11))(Q:mU (kW s y t k p)=ac->f=0/\R=kW s y t k p)(X:mU (mG s x y t k p)=aa->e=11/\A=[])(N:mU (mG s x y t k p)=ac->e=0/\A=mG s x y t k p)(P:mU (kW s y t k p)=aa->mU (mG s x y t k p)=aa):iB 3 [kH s,K x,K y,O t,D k,D p]<|I aa:=by
 have zv:=sf s x p k;have e1:=sf s y p<|k+1;have Co:=BI s y t k p;have M:=LA s x y t k p;have s1:=h.s1;have s4:=h.s4;have F:=hx.len;have zx:=hy.len;have z5:((be<|(jb s x p k).length).map λi=>jN (nv ((jb s x p k).getD i []) t p) ((kW s y t k p).getD i L) p)=mG s x y t k p:=by unfold mG lj;rw[zv]
 have J:((be<|(jb s x p k).length).map λi=>B (((jb s y p<|k+1).getD i []).getD (k+1) L) (jO t (k+1) p) p)=kW s y t k p:=by unfold kW lj;rw[zv,F,<-zx]
 exact iL (Y [.c J1,.o 34<|.e<|lM t,.c G,.c T,.c z2,.c H,tM 64 0 0,.o 76<|.e<|CB x y,.c V,tM 82 0 0,iN<|(k:Int)+1,.c<|IQ s y (k+1) p h Z z1 C,.c<|IQ s x k p h Z z1 C,tM 109 0 0,tM 112 0 0,ai 119 (((jb s x p k).length:Int) != (x.length:Int))<|zw,ai 126 (((jb s y p<|k+1).length:Int) != (x.length:Int))<|zw,.c (KQ aa _ (mX<|jb s y p<|k+1) 11 [(.jE 1 λj=>[D k].getD j .any)] (λ_=>ac) (λi u=>anN _ k U<|by rw[(yd h hy z1 C (k+1) U i u).len]) U λ_ _=>rfl:iB 10 [kX<|jb s y p<|k+1,.fn 11 [(.jE 1 λj=>[D k].getD j .any)]] _),.y 23 23 aa 33 7<|jf<|(be 0).map λi=>B (((jb s y p<|k+1).getD i []).getD (k+1) L) (jO t (k+1) p) p,.y 24 24 aa 33 7<|jf<|(be 0).map λi=>jN (nv ((jb s x p k).getD i []) t p) ((kW s y t k p).getD i L) p,.s (Sp.jL (aaQ s x y t k p A R e f) 0 ((jb s x p k).length) U (λi u oR=>by
    have a:=yd h hx z1 C k U i U;have tJ:=a.len;have zu:=yd h hy z1 C (k+1) U i U;have z3:=zu.len;have w1:=zu.ok<|k+1;have w2:=FJ ht (k+1) (U:1<=p) (U:p<=4096);have v1:=I6 (t:=t) (U:1<=p) (U:p<=4096) a.ok;have v2:=FR (s:=s) (t:=t) (k:=k) z1 C (y:=y) (i:=i) U;have z6:(B (((jb s y p<|k+1).getD i []).getD (k+1) L) (jO t (k+1) p) p)=(kW s y t k p).getD i L:=by unfold kW;rw[Dt U]
    have po:=oh<|B (((jb s y p<|k+1).getD i []).getD (k+1) L) (jO t (k+1) p) p;have ZL:=oh<|jN (nv ((jb s x p k).getD i []) t p) ((kW s y t k p).getD i L) p;exact iU (Y [tT 136 ((i:Int)<((jb s x p k).length:Int)) U,iX (i:Int)<|(jb s y p<|k+1).length,iN<|(k:Int)+1,
     iX ((k+1:Nat):Int) (((jb s y p<|k+1).getD i []).length),iN<|(k:Int)+1,.c<|Gj t (k+1) p Z,.c<|uo (((jb s y p<|k+1).getD i []).getD (k+1) L) (jO t (k+1) p) p Z Z,.o 154<|.e<|lM<|B (((jb s y p<|k+1).getD i []).getD (k+1) L) (jO t (k+1) p) p,.a (U:(i+[B (((jb s y p<|k+1).getD i []).getD (k+1) L) (jO t (k+1) p) p].length)*88<=140737488355328),iX (i:Int)<|(jb s x p k).length,.c<|Ui ((jb s x p k).getD i []) t (k+1) p U U a ht z1 C,iX (i:Int)<|i+[B (((jb s y p<|k+1).getD i []).getD (k+1) L) (jO t (k+1) p) p].length,.a (U:i<(i+[B (((jb s y p<|k+1).getD i []).getD (k+1) L) (jO t (k+1) p) p].length)),.o 167<|.e<|asp (A:=jf<|(be i).map λi=>B (((jb s y p<|k+1).getD i []).getD (k+1) L) (jO t (k+1) p) p) (n:=i) z6,.c<|yb (nv ((jb s x p k).getD i []) t p) ((kW s y t k p).getD i L) p Z Z,.o 170<|.e<|lM<|jN (nv ((jb s x p k).getD i []) t p) ((kW s y t k p).getD i L) p,.a (U:(i+[jN (nv ((jb s x p k).getD i []) t p) ((kW s y t k p).getD i L) p].length)*88<=140737488355328),iN<|(i:Int)+1]<|.e<|af [.b 24<|ub 33 i λi=>jN (nv ((jb s x p k).getD i []) t p) ((kW s y t k p).getD i L) p,.b 23<|ub 33 i λi=>B (((jb s y p<|k+1).getD i []).getD (k+1) L) (jO t (k+1) p) p]) aI)
  (λu=>by
    exact iU (Y [tF 136 (((jb s x p k).length:Int)<((jb s x p k).length:Int)) U,.z 23,.z 24]<|.e<|af [.o 24 (.e<|(uO aK).trans<|.jB<|congrArg K z5:aj (.sl aa ((jb s x p k).length) 7<|jf<|(be<|(jb s x p k).length).map λi=>jN (nv ((jb s x p k).getD i []) t p) ((kW s y t k p).getD i L) p)<|K<|mG s x y t k p),.o 23 (.e<|(uO aK).trans<|.jB<|congrArg K J:aj (.sl aa ((jb s x p k).length) 7<|jf<|(be<|(jb s x p k).length).map λi=>B (((jb s y p<|k+1).getD i []).getD (k+1) L) (jO t (k+1) p) p)<|K<|kW s y t k p)]) aI) aM:jK 20 Tryz.f3 (aaQ s x y t k p A R e f 0) (.exit 0) ⟨235,aa,[(24,.e<|K<|mG s x y t k p),(23,.e<|K<|kW s y t k p),(16,.e<|D f),(15,.e<|K R),(14,.e<|D e),(13,.e<|K A),(10,.box 10 0),(9,.box 9 0),(6,.box 6 0),(1,.e<|K x),(2,.e<|K y),(5,.e<|D p)],[(10,.cells 3 [D k]),(9,.cells 33<|jv t),(6,.cells 28 [D s.tape.iK,mf s.tape.iz,mh s.tape.iR,D s.iZ,K s.params])]⟩) .nil,.c<|IE<|kW s y t k p]<|.w (mU (kW s y t k p)=aa)
  (λv=>Y [S 174 v,ai 177 (!(aa==(f==11)))<|by rw[show(f==11)=aa from z0.symm.trans v];rfl,.c<|IE<|kW s y t k p,S 180 v,.c<|IE<|mG s x y t k p]<|.w (mU (mG s x y t k p)=aa)
   (λz=>by
    have m:=X z;have l:=m.1;have r:=m.2;exact af [S 194 z,ah 196 (e==11)<|by rw[l];rfl,ah 200 ((A.length:Int)==0)<|by rw[r];rfl])
   (λz=>.x<|by exact absurd (P v) z))
  (λv=>by
   have m:=Q<|bh v;have z4:=m.1;have zy:=m.2;exact Y [S 174<|bh v,ai 177 (!(ac==(f==11)))<|by rw[show(f==11)=ac from z0.symm.trans<|bh v];rfl,.c<|IE<|kW s y t k p,S 180<|bh v,ai 184 (f != 0)<|by rw[z4];rfl,.c (by rw[zy];exact KV _ (λi u=>FR z1 C U):iB 17 [K R,K<|kW s y t k p]<|I aa),.c<|IE<|mG s x y t k p]<|.w (mU (mG s x y t k p)=aa)
    (λz=>by
     have m:=X z;have l:=m.1;have r:=m.2;exact af [S 194 z,ah 196 (e==11)<|by rw[l];rfl,ah 200 ((A.length:Int)==0)<|by rw[r];rfl])
    (λz=>by
     have m:=N<|bh z;have l:=m.1;have r:=m.2;exact Y [S 194<|bh z,ai 203 (e != 0)<|by rw[l];rfl,.c (by rw[r];exact KV _ (λi u=>((LB h hx hy d z1 C<|bh z).ok i u).1):iB 17 [K A,K<|mG s x y t k p]<|I aa),.c b]<|.w (q=aa)
      (λg=>af [S 212 g,.c<|agw s x y t k p h hx hy ht E d z1 C<|w g,.c (by rw[r];exact KV _ (λi u=>((LB h hx hy d z1 C<|bh z).ok i u).1):iB 17 [K A,K<|mG s x y t k p]<|I aa),.c<|adE s y t k p h hy ht E d z1 C<|w g,.c (by rw[zy];exact KV _ (λi u=>FR z1 C U):iB 17 [K R,K<|kW s y t k p]<|I aa)])
      (λg=>af [S 212<|bh g]))))
def agI(a:t.all=ac)(u:0<=t.lo.jh)(l:1<=k)(v:k<=15)(V:8<=p)(C:p<=512)(G:iB 5 [kH s,D k,D p,(.sl aa 3 1 λg j=>[K x,K y,K [t]].getD (g*1+j)<|.v<|.bool ac)]<|I ac)(H:iB 8 [kH s,(.sl aa 1 1 λg j=>[K y].getD (g*1+j)<|.v<|.bool ac),O t,D k,D p]<|D 0)(b:iB 8 [kH s,kX [x,y],O t,D k,D p]<|D 0):iB 3 [kH s,K x,K y,O t,D k,D p]<|I aa:=by
 have n:E.le (.iO [.v<|.slice am 0 0,D 11])<|.iO [K [],D 11]:=.iO<|.cons (.nil _ _ _)<|.cons (.refl _) .nil;have Q:mU (kW s y t k p)=aa->mU (mG s x y t k p)=aa:=λr=>by
  have⟨i,z,q⟩:=dh.1 r;have z:=ca.1 z;rw[BI]at z;have d:i<x.length:=by rw[hx.len,<-hy.len];exact z
  cases m:mU (mG s x y t k p)with
  |true=>rfl
  |false=>
   have:=Q8 m (i:=i) (by rw[LA];exact d);unfold mG at this;rw[Dt d]at this;unfold jN at this;rw[q,Bool.or_true,bt rfl]at this;cases this
 have r:∃ R f,iB 7 [kH s,K y,O t,D k,D p] (.iO [K R,D f])/\mU (kW s y t k p)=decide (f=11)/\(mU (kW s y t k p)=ac->f=0/\R=kW s y t k p):=by
  cases q:mU (kW s y t k p)with
  |true=>exact⟨[],11,(adG s y t k p h hy ht a u l v V C q).j9 n,rfl,nofun⟩
  |false=>exact⟨_,0,adF s y t k p h hy ht a u l v V C q,rfl,λ_=>⟨rfl,rfl⟩⟩
 have m:∃ A e,iB 6 [kH s,K x,K y,O t,D k,D p] (.iO [K A,D e])/\(mU (mG s x y t k p)=aa->e=11/\A=[])/\(mU (mG s x y t k p)=ac->e=0/\A=mG s x y t k p):=by
  cases q:mU (mG s x y t k p)with
  |true=>exact⟨[],11,(Vx s x y t k p h hx hy ht a u l v V C q).j9 n,λ_=>⟨rfl,rfl⟩,nofun⟩
  |false=>exact⟨_,0,Ps s x y t k p h hx hy ht a u l v V C q,nofun,λ_=>⟨rfl,rfl⟩⟩
 have⟨R,f,r,o,w⟩:=r;have⟨A,e,m,X,Y⟩:=m;exact agG s x y t k p h hx hy ht a u l v V C G H b A R e f _ m r (aq9 s.tape h.tape) (λc i z=>by
  rw[dN]at c;have:=dt.1 c i<|ca.2 z;simpa using this) o w X Y Q
end
def aop a b:E.le (kX [a,b])<|.sl aa 2 1 λi j=>[K a,K b].getD (i*1+j)<|.v<|.bool ac:=.sl λi j h x=>by
 obtain rfl:j=0:= U ;rcases i with _|_|i
 .exact ⟨.jB rfl,rfl⟩
 .exact ⟨.jB rfl,rfl⟩
 .exact absurd h<|by show ¬i+1+1<2;omega
def agH{s k p x y z}(h:nG s k p x y z=ac):s.nO/\x.length<=10/\y.length<=10:=by
 unfold nG s7 ng at h;simp only[fC,decide_eq_false_iff_not]at h;exact⟨⟨U,U⟩,U,U⟩
def Yz{x:List RI}(g:∀ y,y ∈ x->y.jA)i:(x.getD i jT).jA:=by
 rw[bB];by_cases h:i<x.length
 .rw [bH h];exact g _<|cT h
 .rw [cM U];exact adZ
def PQ{s}(g:s.jA){x}(u:∀ i,(x.getD i jT).jA)(c:uY s x=aa):mE s.v/\kJ s.v.iZ (x.map RI.iv)/\mn s=kH s.v/\jJ x=K (x.map RI.iv):=by
 unfold uY at c;rw[bN,bN,cK]at c;have⟨k,y,t⟩:=c;have⟨o,v⟩:=adV g k;unfold uE at y;rw[bN,cK]at y;have⟨_,b⟩:=y;have p:∀ i,i<x.length->(x.getD i jT).Ok/\(x.getD i jT).all=ac:=λi h=>by
  have:=bZ.1 b i<|ca.2 h;unfold py at this;rw[bN]at this;exact⟨ux.1 this.1,by simpa using this.2⟩
 have m:∀ i,i<x.length->(x.map RI.iv).getD i L=(x.getD i jT).iv:=λi h=>by simp[bB,h]
 have r:=o.s1;refine⟨o,⟨by rw[cI];show x.length=s.iZ.toNat;omega,λi h=>?_⟩,v,?_⟩
 .have h:i<x.length:=by simpa using h
  rw[m i h];exact⟨(p i h).1.valid,(p i h).2⟩
 .rw [<-So];congr 1;apply awD;intro i;unfold FN;rw[cQ,cQ];by_cases h:i<x.length
  .have k:=(p i h).1;have z:=u i;rw[bH h];rw[bB,bH h]at k z;exact congrArg al (RI.Ok.eq (x:=x[i]) k z).symm
  .rw [cM U];rfl
def afj{t}(g:t.jA)(h:xn t=aa):t.iv.iE/\t.iv.all=ac/\0<=t.iv.lo.jh/\mY t=O t.iv/\jJ [t]=K [t.iv]:=by
 unfold xn at h;simp only[bN,dN,cK]at h;have⟨x,k,y⟩:=h;have o:=ux.1 k;have e:=o.eq g;refine⟨o.valid,x,y,by rw[<-JX,e],?_⟩;rw[<-So];show jJ [t]=jJ [t.iv.raw];rw[e]
def PN{s x}:uY s x=(mR s&&zf s x):=rfl
def adH{t k p}(h:BH t k p=aa):8<=p/\p<=512/\1<=k/\k<=15/\xn t=aa:=by
 unfold BH mi at h;simp only[bN,cK]at h;exact⟨h.1.1,h.1.2,h.2.1.1,h.2.1.2,h.2.2⟩
def anJ s x y t k p(g:s.jA)(V:∀ z,z ∈ x->z.jA)(T:∀ z,z ∈ y->z.jA)(h:t.jA):iB 3 [mn s,jJ x,jJ y,mY t,D k,D p]<|I aa:=by
 have v:=Yz V;have u:=Yz T;cases h1:nG s k p x y [t]with
 |true=>exact agD s x y t k p h1
 |false=>
 have⟨m,K,P⟩:=agH h1;have l:x.length<=1000:= U ;have W:y.length<=1000:= U ;have B:∀ z:List RI,yO s z=(mR s&&zf s z):=λz=>(PO g).symm
 cases hc:(vS s x y&&BH t k p)with
 |false=>
  obtain⟨e,j,A,n⟩:∃ e:Int,e≠0/\iB 6 [mn s,jJ x,jJ y,mY t,D k,D p] (.iO [.v<|.slice am 0 0,D e])/\iB 8 [mn s,(.sl aa 2 1 λN M=>[jJ x,jJ y].getD (N*1+M)<|.v<|.bool ac),mY t,D k,D p] (D e):=by
   cases q:vS s x y with
   |false=>
    refine⟨1,aG,agx s g m x y v u l W t h k p q,?_⟩;cases r:mR s with
    |false=>exact akN s g m x y v u l W t h k p r
    |true=>
     cases i:zf s x with
     |false=>exact akO s g m x y v u l W t h k p r<|by rw[B,r,i];rfl
     |true=>
      have f:zf s y=ac:=by
       unfold vS at q;rw[r,i,dw,dw]at q;exact q
      exact akP s g m x y v u l W t h k p r (by rw[B,r,i];rfl)<|by rw[B,r,f];rfl
   |true=>
    rw[q,dw]at hc;refine⟨2,aG,agy s g m x y v u l W t h k p q hc,?_⟩;have c:=q;unfold vS at c;simp only[bN]at c;have:=X8 s g m x y v u l W t h k p c.1 (by rw[B,c.1,c.2.1];rfl) (by rw[B,c.1,c.2.2];rfl);rwa[TV,hc]at this
  cases c:uY s y with
  |false=>
   refine Vy s x y t k p h1 e 1 j aG A (arX s g m y u W t h k p c) ?_ n;cases r:mR s with
   |false=>exact akQ s g m x y v u l W t h k p r
   |true=>exact akR s g m x y v u l W t h k p r<|by rw[<-PO g];exact c
  |true=>
   have r:mR s=aa:=by rw[PN,bN]at c;exact c.1
   have H:=X9 s g m x y v u l W t h k p r (by rw[<-PO g];exact c);rw[TV]at H;cases b:BH t k p with
   |false=>
    rw[b]at H;exact Vy s x y t k p h1 e 2 j aG A (arY s g m y u W t h k p c b) H n
   |true=>
    rw[b]at H;have⟨w,X,o,d⟩:=PQ g u c;have⟨L,F,E,J,S⟩:=adH b;have⟨Y,Z,O,a,Q⟩:=afj h S;obtain⟨p,rfl⟩:=dZ (U:0<=p);obtain⟨k,rfl⟩:=dZ (U:0<=k);cases hR:mU (kW s.v (y.map RI.iv) t.iv k p)with
    |false=>exact agE s x y t k p h1 e j _ A (by rw[o,d,a];exact adF s.v _ t.iv k p w X Y Z O U U U U hR) H n
    |true=>exact agF s x y t k p h1 e j A (by rw[o,d,a];exact adG s.v _ t.iv k p w X Y Z O U U U U hR) H n
 |true=>
  rw[bN]at hc;have⟨q,b⟩:=hc;have c:=q;unfold vS at c;simp only[bN]at c;have⟨r,i,f⟩:=c;have⟨L,F,E,J,S⟩:=adH b;have⟨Y,Z,O,a,Q⟩:=afj h S;have⟨w,X,o,d⟩:=PQ g v (by rw[PN,r,i];rfl);have⟨_,C,_,R⟩:=PQ g u (by rw[PN,r,f];rfl);have G:=Jl s k p x y [t];rw[h1]at G;have H:=X9 s g m x y v u l W t h k p r (by rw[B,r,f];rfl);have n:=X8 s g m x y v u l W t h k p r (by rw[B,r,i];rfl) (by rw[B,r,f];rfl);rw[TV,b]at H n;obtain⟨p,rfl⟩:=dZ (U:0<=p);obtain⟨k,rfl⟩:=dZ (U:0<=k);rw[o,d,R,Q]at G;rw[o,R,a]at H;rw[o,d,R,a]at n ⊢;exact agI s.v _ _ t.iv k p w X C Y Z O U U U U G H<|n.le (.cons (.refl _)<|.cons (aop _ _)<|.cons (.refl _)<|.cons (.refl _)<|.cons (.refl _) .nil)<|.refl _
open Go.ChangeShapes Go.WideShapes Go.ChangeAt
def Pc(W:ap)(o:qn)(cs:List av):Prop:=o.jA/\cs.length=6/\∀ j,j<6->∃ v,cs[j]? = al v/\z ud uw W ((CP o).getD j .any) v
def an5{x:Type}{l:List x}(h:l.length=2):∃ a b,l=[a,b]:=by
 rcases l with _|⟨a,_|⟨b,_|⟨c,l⟩⟩⟩<;>simp at h
 exact⟨a,b,rfl⟩
def an6{x:Type}{l:List x}(h:l.length=5):∃ a b c d e,l=[a,b,c,d,e]:=by
 rcases l with _|⟨a,_|⟨b,_|⟨c,_|⟨d,_|⟨e,_|⟨f,l⟩⟩⟩⟩⟩⟩<;>simp at h
 exact⟨a,b,c,d,e,rfl⟩
def an7{x:Type}{l:List x}(h:l.length=6):∃ a b c d e f,l=[a,b,c,d,e,f]:=by
 rcases l with _|⟨a,_|⟨b,_|⟨c,_|⟨d,_|⟨e,_|⟨f,_|⟨g,l⟩⟩⟩⟩⟩⟩⟩<;>simp at h
 exact⟨a,b,c,d,e,f,rfl⟩
section
variable {H:Type} {enc:ay×av->H} {W:ap} {B:Nat} {cs:List av} {x:DataW H×List MemPlace}
def D2(h:DataW.trod enc prog W 0 (λ_=>aa) aa B 3 cs=al x):∃ z,cs=[.int .i64 z]/\lN .i64 z:=by
 have⟨z,k,_,w⟩:=DataW.trod_int underlying3 h;exact⟨z,k,afJ w⟩
def apK(h:DataW.trod enc prog W 0 (λ_=>aa) aa B 85 cs=al x):∃ n d,cs=[.int .i64 n,.int .i64 d]/\lN .i64 n/\lN .i64 d:=by
 obtain⟨s,n,rfl,rfl,l,Q,f⟩:=DataW.trod_struct underlying85 h;have C:prog.cellsOf 85=2:= aI ;have I:prog.cellsOf 3=1:= aI ;rw[C]at l;obtain⟨c,r,rfl⟩:=an5 l;have k:=f 0 _ rfl;have y:=f 1 _ rfl;simp only[fW,fX,eV]at k y;simp only[I,fY,fZ,fo,gh]at k y;rw[bH<|by rw[Q];decide]at k y;have⟨u,e,w⟩:=D2 k;have⟨v,z,t⟩:=D2 y;simp at e z;subst e z;exact⟨u,v,rfl,w,t⟩
def apL(h:DataW.trod enc prog W 0 (λ_=>aa) aa B 87 cs=al x):∃ o,Pc W o cs:=by
 obtain⟨V,n,rfl,rfl,l,Q,f⟩:=DataW.trod_struct underlying87 h;have C:prog.cellsOf 87=6:= aI ;have R:prog.cellsOf 85=2:= aI ;have I:prog.cellsOf 3=1:= aI ;rw[C]at l;obtain⟨T,S,P,N,M,L,rfl⟩:=an7 l;have k:=f 0 _ rfl;have y:=f 1 _ rfl;have z:=f 2 _ rfl;have u:=f 3 _ rfl;have v:=f 4 _ rfl;simp only[fW,fX,eV]at k y z u v;simp only[I,R,fY,fZ,fo,gh]at k y z u v;rw[bH<|by rw[Q];decide]at k y z u v;have⟨p,t,w⟩:=D2 k;have⟨m,s,g⟩:=D2 y;have⟨d,r,c⟩:=D2 z;have⟨b,q,a⟩:=D2 u;have⟨i,X,e,Y,Z⟩:=apK v;simp at t s r q e;have⟨e,U⟩:=e;subst t s r q e U;refine⟨⟨p,m,d,b,i,X⟩,⟨w,g,c,a,Y,Z⟩,rfl,λj H=>?_⟩;rcases j with _|_|_|_|_|_|j
 all_goals first|exact⟨_,rfl,.v _⟩|omega
def asc o j(h:j<6):((CP o).getD j .any).one=aa/\(((CP o).getD j .any).nT=aa)/\((CP o).getD j .any).nr 2=aa:=by
 rcases j with _|_|_|_|_|_|j
 all_goals first|exact⟨rfl,rfl,rfl⟩|omega
def apM(h:DataW.trod enc prog W 0 (λ_=>aa) aa B 22 cs=al x):
  ∃ l v,cs=[v]/\(∀ y,y ∈ l->y.jA)/\z ud uw W (oY l) v:=by
 have C:prog.cellsOf 87=6:= aI ;rcases Deep.open_slice underlying22 h with⟨rfl,_⟩|⟨a,e,r,m,n,D,P,rfl,Y,b,o,g,rfl,w⟩
 .exact ⟨[],_,rfl,(λy t=>by cases t),.sl aa 0 6 _ am 0 (λ_ _=>.bool ac) (bA _) aG (λ_=>rfl) (λi j k=>absurd k<|bD i) (λi j k=>absurd k<|bD i) (λi j k=>absurd k<|bD i) λi j k=>absurd k<|bD i⟩
 .simp only[bK]at g;subst g;have f:∀ i,∃ y:qn,i<e->∃ c,W.cells? 0 (a.add<|i*6) 6=al c/\Pc W y c:=by
   intro i;by_cases k:i<e
   .have⟨c,T,u⟩:=w i U ;rw[C]at T;have⟨y,t⟩:=apL u;exact⟨y,λ_=>⟨c,T,t⟩⟩
   .exact ⟨nK,λh=>absurd h k⟩
  let X:Nat->qn:=λi=>Classical.choose<|f i
  have d:∀ i,i<e->∃ c,W.cells? 0 (a.add<|i*6) 6=al c/\Pc W (X i) c:=λi=>du<|f i
  have s:((be e).map X).length=e:= aK ;refine⟨(be e).map X,_,rfl,?_,?_⟩
  .intro y t;obtain⟨i,k,rfl⟩:=dF.1 t;have⟨c,_,u⟩:=d i<|ca.1 k;exact u.1
  .have E:∀ i,i<e->((be e).map X).getD i nK=X i:=by
    intro i k;rw[bB,cQ,awX k];rfl
   have:=TS (W:=W) (a:=a) (len:=e) (cap:=m) (nl:=aa) (λi j=>(CP<|((be e).map X).getD i nK).getD j .any) b o (show 0<6 by decide)
    (λi j _ q=>let⟨T,u,p⟩:=asc (((be e).map X).getD i nK) j q;⟨T,λ_=>u,p⟩)
    (λi k=>by
     have⟨c,T,u,_,p⟩:=d i k;exact⟨c,T,λj q=>by rw[E i k];exact p j q⟩)
   unfold oY;rw[s];exact this
def asa:nK.jA:=by constructor<;>(show lN .i64 0;unfold lN;decide)
def QF{x:Type}{P:x->Prop}{l:List x}{d}(h:∀ y,y ∈ l->P y)(z:P d)i:P<|l.getD i d:=by
 by_cases k:i<l.length
 .rw [bB,bH k];exact h _<|cT k
 .rw [bB,cM U];exact z
def UU(W:ap)(s:kz)(cs:List av):Prop:=s.jA/\cs.length=5/\∀ j,j<5->∃ v,cs[j]? = al v/\z ud uw W ((T9 s).getD j .any) v
def apO(h:DataW.trod enc prog W 0 (λ_=>aa) aa B 25 cs=al x):
 ∃ (n:Int) (i:List qn) (R:List Int) (v w:av),cs=[.int .i64 n,v,w]/\lN .i64 n/\(∀ y,y ∈ i->y.jA)/\(∀ T,T ∈ R->lN .i64 T)/\z ud uw W (oY i) v/\z ud uw W (pJ R) w:=by
 obtain⟨a,n,rfl,rfl,l,Q,f⟩:=DataW.trod_struct underlying25 h;have C:prog.cellsOf 25=3:= aI ;have I:prog.cellsOf 3=1:= aI ;have O:prog.cellsOf 22=1:= aI ;have U:prog.cellsOf 23=1:= aI ;rw[C]at l;obtain⟨j,o,X,rfl⟩:=aa5 l;have u:=f 0 _ rfl;have t:=f 1 _ rfl;have s:=f 2 _ rfl;simp only[fW,fX,eV]at u t s;simp only[I,O,U,fY,fZ,fo,gh]at u t s;rw[bH<|by rw[Q];decide]at u t s;have⟨p,e,m⟩:=D2 u;have⟨i,v,r,g,d⟩:=apM t;have⟨R,w,q,c,b⟩:=apH (k:=.i64) (λ_=>rfl) underlying23 underlying3 I s;simp at e r q;subst e r q;exact⟨p,i,R,_,_,rfl,m,g,c,d,b⟩
def apN(h:DataW.trod enc prog W 0 (λ_=>aa) aa B 28 cs=al x)(i:∀ p ∈ x.2,p.block<W.heap.size):∃ s,UU W s cs:=by
 obtain⟨M,n,rfl,rfl,l,Q,f⟩:=DataW.trod_struct underlying28 h;have C:prog.cellsOf 28=5:= aI ;have T:prog.cellsOf 25=3:= aI ;have I:prog.cellsOf 3=1:= aI ;have P:prog.cellsOf 26=1:= aI ;rw[C]at l;obtain⟨L,H,G,F,E,rfl⟩:=an6 l;have k:=f 0 _ rfl;have y:=f 1 _ rfl;have z:=f 2 _ rfl;simp only[fW,fX,eV]at k y z;simp only[T,I,P,fY,fZ,fo,gh]at k y z;rw[bH<|by rw[Q];decide]at k y z;have⟨g,d,R,v,w,e,c,b,a,o,X⟩:=apO k;have⟨Y,q,Z⟩:=D2 y;have⟨U,u,m,V,S⟩:=Tj z λp N=>i p<|eZ.2 ⟨_,cT _,N⟩;simp at e q m;have⟨e,t,r⟩:=e;subst e t r q m;refine⟨⟨g,d,R,Y,U⟩,⟨c,QF b asa,QF a<|by unfold lN;decide,Z,QF V adZ⟩,rfl,λj D=>?_⟩;rcases j with _|_|_|_|_|j
 .exact ⟨_,rfl,.v _⟩
 .exact ⟨_,rfl,o⟩
 .exact ⟨_,rfl,X⟩
 .exact ⟨_,rfl,.v _⟩
 .exact ⟨_,rfl,S⟩
 .omega
end
def aus{W x cs}(h:UU W x cs.toList):z ud uw W (mn x)<|.agg cs:=by
 have⟨_,l,h⟩:=h;have:=z.agg (bs:=ud) (br:=uw) (w:=W) (T9 x) cs.toList (by rw[l];rfl) (λi p v u k=>by
  have t:i<5:=by have:=(cF.1 k).1;omega
  have⟨s,y,r⟩:=h i t;rw[k]at y;cases y;rw[bB,u]at r;exact r)
 unfold mn;exact this
def akt:av:=.agg #[.bool ac,.slice am 0 0,.int .i64 0,.bool ac,.slice am 0 0,.int .i64 0,.bool ac]
def aku{H}:DataW H:=.agg [.agg [.lit<|.bool ac,.nil,.lit<|.int .i64 0],.agg [.lit<|.bool ac,.nil,.lit<|.int .i64 0],.lit<|.bool ac]
def akv:av:=.agg #[.int .i64 0,.slice am 0 0,.slice am 0 0,.int .i64 0,.slice am 0 0]
def akw{H}:DataW H:=.agg [.agg [.lit<|.int .i64 0,.nil,.nil],.lit<|.int .i64 0,.nil]
def F2:Array av:=#[akv,.slice am 0 0,.slice am 0 0,akt,.int .i64 0,.int .i64 0]
set_option maxRecDepth 100000 in
def atQ H(enc:ay×av->H)W base args(M gs:List<|DataW H)before(Z:∀ (j:Nat) t v,Tryz.f3.params[j]? = al t->args[j]? = al v->Value.okWide prog W .any base t v)(L:DataW.Whole enc prog Tryz.f3.params.toList Rows.stepAtSpec.vars ac W args.toList M gs before)(hL:laidMetH prog Rows.stepAtRow.laid W):
 Calls prog 3 args W λe G=>∃ v,e = .returned v/\Rows.stepAtSpec.post enc prog Tryz.f3 ac aa ac ac W args v G:=by
 have J:=L;obtain⟨p,q,u,hV,rfl,hfz,hnd⟩:=L;have F:DataW.TrodAll enc prog W 0 (λ_=>aa) aa Tryz.f3.params.toList args.toList M p:=u;rw[Tryz.params3]at F Z;obtain⟨E,vs0,d0,ds0,g,q0,G3,rfl,rfl,D,u⟩:=trodAll_cons F;obtain⟨C,vs1,d1,ds1,f,q1,rfl,rfl,rfl,B,Af⟩:=trodAll_cons u;obtain⟨I,vs2,d2,ds2,d,q2,rfl,rfl,rfl,K,QN⟩:=trodAll_cons Af;obtain⟨O,vs3,d3,ds3,i,q3,rfl,rfl,rfl,h3,A⟩:=trodAll_cons QN;obtain⟨v4,vs4,d4,ds4,p4,q4,rfl,rfl,rfl,h4,o⟩:=trodAll_cons A;obtain⟨v5,vs5,d5,ds5,p5,q5,rfl,rfl,rfl,h5,w⟩:=trodAll_cons o;obtain⟨rfl,rfl,rfl⟩:=trodAll_nil w;obtain rfl:args = #[E,C,I,O,v4,v5]:=by cases args;simp_all
 obtain⟨rfl,rfl⟩:=trodVars_none hV;obtain⟨s,rfl,av2⟩:=okWide_struct underlying28<|Z 0 28 E rfl rfl;obtain⟨n,l,c,rfl⟩:=okWide_slice underlying26<|Z 1 26 C rfl rfl;obtain⟨m,k,a,rfl⟩:=okWide_slice underlying26<|Z 2 26 I rfl rfl;obtain⟨zy,rfl,av3⟩:=okWide_struct underlying33<|Z 3 33 O rfl rfl;obtain⟨x4,rfl,rfl,rfl,b4⟩:=open_int underlying3 (Z 4 3 v4 rfl rfl) h4;obtain⟨x5,rfl,rfl,rfl,b5⟩:=open_int underlying3 (Z 5 3 v5 rfl rfl) h5;have X:=D;have⟨Y,U⟩:=D;have V:=B;have⟨T,Rh⟩:=B;have S:=K;have⟨R,Ri⟩:=K;have Q:=h3;have⟨P,N⟩:=h3;clear u;have GS:∀ x ∈ g,x.block<W.heap.size:=λx y=>J.lt x<|by simp[y]
 have GU:∀ x ∈ f,x.block<W.heap.size:=λx y=>J.lt x<|by simp[y]
 have DE:∀ x ∈ d,x.block<W.heap.size:=λx y=>J.lt x<|by simp[y]
 have ZB:∀ x ∈ i,x.block<W.heap.size:=λx y=>J.lt x<|by simp[y]
 have⟨x0,g0⟩:=apN U GS;have⟨x1,w1,Bj,g1,r1⟩:=Tj Rh GU;obtain rfl:aH n l c=w1:=by
  have:(aH n l c).cells.toList=[aH n l c]:=rfl;rw[this]at Bj;simpa using Bj
 have⟨x2,w2,rG,g2,r2⟩:=Tj Ri DE;obtain rfl:aH m k a=w2:=by
  have:(aH m k a).cells.toList=[aH m k a]:=rfl;rw[this]at rG;simpa using rG
 have⟨x3,g3⟩:=acr N ZB;have lH:=(anJ x0 x1 x2 x3 x4 x5 g0.1 g1 g2 g3.1).run W ud [.agg s,.slice n l c,.slice m k a,.agg zy,.int .i64 x4,.int .i64 x5] (auE rfl hL) (λ_ _ h=>h.elim)<|.cons (aus (cs:=s) g0)<|.cons r1<|.cons r2<|.cons (ar5 (cs:=zy) g3)<|.cons (.v _)<|.cons (.v _)<|.nil _ _ _;refine lH.mono λr G ⟨v,hr,b,tf⟩=>?_
 obtain rfl:=z.lr tf;subst hr;refine⟨_,rfl,_,_,_,[],g++(f++(d++(i++([]++([]))))),[],J,?_,?_,rfl,b.frame _,λh=>by cases h⟩
 .exact trodAll_mk1<|shut_bool underlying4 _
 .exact ⟨g,_,Below.trod G7 aI (cS aI) X b GS,⟨f,_,Below.trod G7 aI (cS aI) V b GU,⟨d,_,Below.trod G7 aI (cS aI) S b DE,⟨i,_,Below.trod G7 aI (cS aI) Q b ZB,⟨[],_,Below.trod G7 aI (cS aI) h4 b (λ_ h=>by cases h),trodAll_mk1 (Below.trod G7 aI (cS aI) h5 b λ_ h=>by cases h),rfl⟩,rfl⟩,rfl⟩,rfl⟩,rfl⟩
def atV o:laidMet prog Rows.stepAtRow.laid ((Sv o F2).forCall (λ_ _=>0) ⟨#[],F2,[]⟩).memory:=
 laidMet_of_run' 8 aI aI 
def atX o{H}(enc:ay×av->H):∃ p,DataW.whole enc prog ((Sv o F2).forCall (λ_ _=>0) ⟨#[],F2,[]⟩).memory Tryz.f3.params.toList Rows.stepAtSpec.vars ac F2.toList 8=al ([akw,.nil,.nil,aku,.lit<|.int .i64 0,.lit<|.int .i64 0],[],p):=
 ⟨[],aI⟩
set_option maxRecDepth 100000 in
def atU o(t:o.Started)H(enc:ay×av->H)F:
  ReturnsInHanded {} Tryz.checked o 3 .any ((OpenSpec.ofChange Rows.stepAtSpec).preRow enc prog Tryz.f3 Rows.stepAtRow.domain ac Rows.stepAtRow.laid) (((OpenSpec.ofChange Rows.stepAtSpec).at F).post enc prog Tryz.f3 ac aa ac ac):=by
 have⟨p,h⟩:=atX o enc;refine returnsInHanded_of_row (C:=Tryz.checked) (s:=OpenSpec.ofChange Rows.stepAtSpec) own t aI func3
  (witness_row_at (enc:=enc) (C:=Tryz.checked) ac (Sv o F2) F2 rfl aI aI aI 
   (OpenSpec.preRow_of_cond 8 h aI (λk x=>by cases x) aI<|atV o)) ?_
 intro W a r d g b l y _ _ _ L _ _;exact atQ H enc W a r d g b l y L
set_option maxHeartbeats 100000000 in
def atS:joinedFacts prog 3 Tryz.f3 (OpenSpec.ofChange Rows.stepAtSpec).bare Rows.stepAtRow=aa:=by
 unfold joinedFacts;simp only[bN]
 and_intros<;>decide +kernel
def atY:Rows.StepAtSaid:=
 OpenClaim.holds_of_cond 3 Tryz.f3 rfl rfl rfl rfl rfl rfl rfl ⟨rfl,rfl,rfl,rfl,rfl⟩ rfl rfl rfl rfl rfl aI func3 atS
  (cS aI) (by unfold Func.isWrapper;first|(rw[bt aQ];kernel_rfl)|(rw[bn aQ];exact⟨rfl,rfl⟩))
  (λo s H e _ F=>by rw[OpenClaim.pre_eq_preRow];exact atU o s H e F)
def atW f fn(y:Tryz.pinned.checked.prog.funcNamed "flowpipe/flowpipelaw29.StepAt" = al f)(x:Tryz.pinned.checked.prog.funcs[f]? = al fn):
 ac=Tryz.pinned.checked.prog.looks []/\∀ (j:Nat) t,fn.params[j]? = al t->Tryz.pinned.checked.prog.wantsStandIn t=ac:=by
 obtain rfl:f=3:=ig ((show prog.funcNamed "flowpipe/flowpipelaw29.StepAt" = al 3 by kernel_rfl).symm.trans y) |>.symm
 obtain rfl:fn=Tryz.f3:=(ig<|func3.symm.trans x).symm;refine⟨aI,λj t k=>?_⟩;rw[Tryz.params3]at k;have:t=28\/t=26\/t=33\/t=3:=by
  have:=dG k;simp only[atT,dg,List.not_mem_nil,or_false]at this;rcases this with h|h|h|h|h|h<;>subst h<;>simp
 rcases this with rfl|rfl|rfl|rfl
 .exact (show prog.wantsStandIn 28=ac by kernel_rfl)
 .exact (show prog.wantsStandIn 26=ac by kernel_rfl)
 .exact (show prog.wantsStandIn 33=ac by kernel_rfl)
 .exact (show prog.wantsStandIn 3=ac by kernel_rfl)
theorem stepat_card:Rows.StepAtCardSaid:=
 Claim7.holds_tied_plain_at .later [] _ _ _ _ atY (λ_ h=>by cases h) aI (λ_ h=>by cases h) stepAt_row_tie rfl ⟨rfl,rfl⟩ aI rfl atW (alO akV rfl)
end Go.Proofs.YthalchiobglflaaGreatDoor
