/- Lemmas that the last file uses. -/
import Derived.Test.YtjkmahljfblobaaGreatDoorM02
import Derived.Deep.Slices
import Derived.Carry
import Derived.Scope
set_option linter.unusedSimpArgs false
set_option linter.unusedVariables false
set_option linter.defProp false
set_option maxHeartbeats 4000000
open Go.Proofs.Tryz
namespace Go.Proofs.YtjkmahljfblobaaGreatDoor
open Go.RowKit Fp Pu
section
variable {f:FuncId} {L M:List Nat} {jA:E}
def Jj(hk:iQ L)(hc:∀ (vs:Array Value) (w:World),(callFunc f vs).run prog w = .ok (.enter f vs) w)
 {R:Option Addr->Nat->World->Ending->World->Prop} (H:∀ A c w,Sl w A c L->Tb w->Calls prog f #[.slice A L.length c] w (R A c w))
 (hR:∀ (A:Option Addr) (c:Nat) (B:Nat->Prop) w e w',Sl w A c L->(∀ b,B b->b<w.heap.size/\oi w b)->R A c w e w'->∃ v,e = .returned v/\Below w.heap.size w w'/\iI B (λ_=>True) w' jA v):ic f [il L] jA:=by
 refine⟨hc,λw B vs hK hB hr=>?_⟩;obtain⟨v1,vs,rfl,h1,hr⟩:=hr.mY;obtain rfl:=hr.re;obtain⟨A,c,rfl,s1⟩:=Aj hk h1;exact(H A c w s1 hK).mono λe w' h=>hR A c B w e w' s1 hB h
def Jk(hk:iQ L){n:Int}(hc:∀ (vs:Array Value) (w:World),(callFunc f vs).run prog w = .ok (.enter f vs) w)
 {R:Option Addr->Nat->World->Ending->World->Prop} (H:∀ A c w,Sl w A c L->Tb w->Calls prog f #[.slice A L.length c,.int .i64 n] w (R A c w))
 (hR:∀ (A:Option Addr) (c:Nat) (B:Nat->Prop) w e w',Sl w A c L->(∀ b,B b->b<w.heap.size/\oi w b)->R A c w e w'->∃ v,e = .returned v/\Below w.heap.size w w'/\iI B (λ_=>True) w' jA v):ic f [il L,iP n] jA:=by
 refine⟨hc,λw B vs hK hB hr=>?_⟩;obtain⟨v1,vs,rfl,h1,hr⟩:=hr.mY;obtain⟨v2,vs,rfl,h2,hr⟩:=hr.mY;obtain rfl:=hr.re;obtain rfl:=iI.kG h2;obtain⟨A,c,rfl,s1⟩:=Aj hk h1;exact(H A c w s1 hK).mono λe w' h=>hR A c B w e w' s1 hB h
def Jl(hk:iQ L)(hm:iQ M)(hc:∀ (vs:Array Value) (w:World),(callFunc f vs).run prog w = .ok (.enter f vs) w)
 {R:World->Ending->World->Prop} (H:∀ A c B d w,Sl w A c L->Sl w B d M->Tb w->Calls prog f #[.slice A L.length c,.slice B M.length d] w (R w))
 (hR:∀ (B:Nat->Prop) w e w',(∀ b,B b->b<w.heap.size/\oi w b)->R w e w'->∃ v,e = .returned v/\Below w.heap.size w w'/\iI B (λ_=>True) w' jA v):ic f [il L,il M] jA:=by
 refine⟨hc,λw B vs hK hB hr=>?_⟩;obtain⟨v1,vs,rfl,h1,hr⟩:=hr.mY;obtain⟨v2,vs,rfl,h2,hr⟩:=hr.mY;obtain rfl:=hr.re;obtain⟨A,c,rfl,s1⟩:=Aj hk h1;obtain⟨A',d,rfl,s2⟩:=Aj hm h2;exact(H A c A' d w s1 s2 hK).mono λe w' h=>hR B w e w' hB h
end
def F8{L:List Nat}{n:Int}(B:Nat->Prop)(w:World)(e:Ending)(w':World)(hB:∀ b,B b->b<w.heap.size/\oi w b)(h:EJ w L n e w'):∃ v,e = .returned v/\Below w.heap.size w w'/\iI B (λ_=>True) w' (.ix [il L,iP n]) v:=
 let⟨_,_,h1,h2,h3⟩:=h
 ⟨_,h1,h3,kf.ix<|.cons (CM hB h3 h2)<|.cons (.v _)<|.nil _ _ _⟩
def rl{L:List Nat}(B:Nat->Prop)(w:World)(e:Ending)(w':World)(hB:∀ b,B b->b<w.heap.size/\oi w b)(h:y4 w L e w'):∃ v,e = .returned v/\Below w.heap.size w w'/\iI B (λ_=>True) w' (il L) v:=
 let⟨_,_,h1,h2,h3⟩:=h
 ⟨_,h1,h3,CM hB h3 h2⟩
section
variable(L:List Nat)(hk:iQ L)
def vv:ic 235 [il L]<|il<|iO L:=
 Jj hk call235 (λA c w h _=>wA A c L w h) λA c B w e w' h hB ⟨h1,h2⟩=>by subst h2;exact⟨_,h1,Below.refl _ _,CM hB (Below.refl _ _) h.vG⟩
def Y3(hl:(iO L).length<=256):ic 233 [il L]<|.ix [il<|iO L,iP 0]:=
 Jj hk call233 (λA c w h _=>I8 A c L w h hl) λA c B w e w' h hB r=>F8 B w e w' hB r
def ak4(hl:L.length<=100000):ic 237 [il L]<|iP<|iq<|val L:=
 Jj hk call237 (λA c w h _=>Y2 A c L w h aC) λA c B w e w' h hB ⟨h1,h2⟩=>by subst h2;exact⟨_,h1,Below.refl _ _,.v _⟩
end
def I7(L M:List Nat)(hk:iQ L)(hm:iQ M)(hl:L.length<=100000)(oE:M.length<=100000:=by omega):ic 180 [il L,il M]<|iP<|kI (val L)<|val M:=
 Jl hk hm call180 (λA c B d w h k _=>LV A B c d L M w h k aC aC) rv
section
variable(m n:Nat)(hl:(ib m).length<=256)(hn:n<=65536)
def QI(hf:(ib<|m*2^n).length<=256):ic 179 [il<|ib m,iP (n:Int)]<|.ix [il<|ib<|m*2^n,iP 0]:=
 Jk (mJ m) call179 (λA c w h _=>QH A c (ib m) n w h hl hn<|by rw[kK];exact hf) λA c B w e w' h hB r=>by rw[kK]at r;exact F8 B w e w' hB r
def QJ:ic 202 [il<|ib m,iP (n:Int)]<|.ix [il<|ib<|m/2^n,iP 0]:=
 Jk (mJ m) call202 (λA c w h _=>Zb A c (ib m) n w h hl hn) λA c B w e w' h hB r=>by rw[kK]at r;exact F8 B w e w' hB r
end
section
variable(m n:Nat)(h1:(ib m).length<=256)(h2:(ib n).length<=256)
def I6(hf:(ib<|m+n).length<=256):ic 285 [il<|ib m,il<|ib n]<|.ix [il<|ib<|m+n,iP 0]:=by
 refine Jl (mJ m) (mJ n) call285 (λA c B d w h k _=>ak3 A B c d (ib m) (ib n) w h k h1 h2<|by rw[kK,kK];exact hf) ?_;rw[kK,kK];exact F8
def D8(hf:n<=m:=by omega):ic 286 [il<|ib m,il<|ib n]<|.ix [il<|ib<|m-n,iP 0]:=by
 refine Jl (mJ m) (mJ n) call286 (λA c B d w h k _=>ale A B c d (ib m) (ib n) w h k h1 h2<|by rw[kK,kK];exact hf) ?_;rw[kK,kK];exact F8
end
def tL(m:Nat)(hl:(ib m).length<=100000:=by omega):ic 237 [il<|ib m]<|iP<|iq m:=by
 have:=ak4 (ib m) (mJ m) hl;rwa[kK]at this
def zW(m n:Nat)(hl:(ib m).length<=100000:=by omega)(oE:(ib n).length<=100000:=by omega):ic 180 [il<|ib m,il<|ib n]<|iP<|kI m n:=by
 have:=I7 (ib m) (ib n) (mJ m) (mJ n) hl oE;rwa[kK,kK]at this
def wU(a:Dy)(ha:a.ig):ic 124 [iw a]<|iw<|jo a:=Eb call124 (λA c w h _=>af8 a A c w h ha) rd
def oo(a:Dy)(ha:a.ig):ic 176 [iw a]<|iP a.iz:=Eb call176 (λA c w h _=>aga a A c w h ha) rv
def Db(s:Bool)(m:Nat)(e:Int)(hl:(ib m).length<=256)(mO:-32768<=e)(lL:e<=32768)(hd:nj<|canon s m e):ic 338 [bP s,il<|ib m,iP e]<|.ix [iw<|canon s m e,iP 0]:=by
 refine⟨call338,λw B vs hK hB hr=>?_⟩;obtain⟨v1,vs,rfl,h1,hr⟩:=hr.mY;obtain⟨v2,vs,rfl,h2,hr⟩:=hr.mY;obtain⟨v3,vs,rfl,h3,hr⟩:=hr.mY;obtain rfl:=hr.re;obtain rfl:=iI.kG h1;obtain rfl:=iI.kG h3;obtain⟨A,c,rfl,s1⟩:=Aj (mJ m) h2;have:=akG s A c (ib m) e w s1 hl mO lL hK (by rw[kK];exact hd);rw[kK]at this;exact this.mono λe w' h=>Rt B w e w' hB h
def Ac:E.le (.sl false 1 1 λi j=>[E.v<|.int .u32 1].getD (i*1+j)<|.v<|.bool false)<|il<|ib 1:=by
 have e1:ib 1=[1]:=by rw[FJ aE,show 1/4294967296=0 by decide,pG]
 rw[e1];refine .sl λi j hi hj=>?_
 obtain rfl:i=0:= aC ;obtain rfl:j=0:= aC ;exact⟨.refl _,rfl⟩
def jf(d:Dy):List E:=[bP d.neg,il<|ib d.m,iP d.e]
def E6(l:List Dy):E:=.sl true l.length 3 λi j=>(jf<|l.getD i iR).getD j .any
def Oe(a:Dy):E.le (.sl true 1 3 λi j=>[bP a.neg,il<|ib a.m,iP a.e].getD (i*3+j)<|.v<|.bool false)<|E6 [a]:=.sl λi j hi hj=>by
 obtain rfl:i=0:= aC ;rcases j with _|_|_|j
 .exact ⟨.refl _,rfl⟩
 .exact ⟨.refl _,rfl⟩
 .exact ⟨.refl _,rfl⟩
 .omega
def yh(a b:Dy):E.le (.sl true 2 3 λi j=>[bP a.neg,il<|ib a.m,iP a.e,bP b.neg,il<|ib b.m,iP b.e].getD (i*3+j)<|.v<|.bool false)<|E6 [a,b]:=.sl λi j hi hj=>by
 obtain rfl|rfl:i=0\/i=1:= aC 
 all_goals
  rcases j with _|_|_|j
  .exact ⟨.refl _,rfl⟩
  .exact ⟨.refl _,rfl⟩
  .exact ⟨.refl _,rfl⟩
  .omega
def nG{n:Nat}(h:n≠0):((n:Int)==0)=false:= aN 
def sY{n:Nat}(h:n=0):((n:Int)==0)=true:=by subst h;rfl
def Y7{n:Nat}(h:n=0):((n:Int) != 0)=false:=by subst h;rfl
def Y8{n:Nat}(h:n≠0):((n:Int) != 0)=true:= aN 
def wq{m:Nat}:(ib m).length=0↔m=0:=by rw[ari,Yj]
def pV{m:Nat}(h:m≠0):(ib m).length≠0:=λq=>h<|wq.1 q
def Fp.Dy.ig.ib{d:Dy}(h:d.ig):(ib d.m).length<=256:=by have:=h.len;omega
end Go.Proofs.YtjkmahljfblobaaGreatDoor
namespace Go.Proofs.YtjkmahljfblobaaGreatDoor.Fp
structure Iv where
 lo:Dy
 hi:Dy
 all:Bool
def ik:Iv:=⟨iR,iR,true⟩
def Iv.ig(x:Iv):Prop:=(x.all=true/\x.lo=iR/\x.hi=iR)\/(x.all=false/\x.lo.ig/\x.hi.ig/\jm x.lo x.hi<=0)
def kR:ik.ig:=.inl ⟨rfl,rfl,rfl⟩
def lH(lo:Dy)(e:Int)(hi:Dy)(f:Int):Iv:=if e≠0\/f≠0 then ik else⟨lo,hi,false⟩
def wC(a b:Dy):Dy:=canon (a.neg != b.neg) (a.m*b.m)<|a.e+b.e
def oO(x:Iv):Iv:=if x.all then ik else⟨jo x.hi,jo x.lo,false⟩
def je(x y:Iv)(p:Nat):Iv:=
 if x.all||y.all then ik else lH (jN (iM x.lo y.lo) p false) (jC (iM x.lo y.lo) p false) (jN (iM x.hi y.hi) p true) (jC (iM x.hi y.hi) p true)
def kY(x y:Iv)(p:Nat):Iv:=je x (oO y) p
def ae2{x y:Int}:yb x y<=0↔x<=y:=by
 unfold yb;split
 .constructor<;>intro<;>omega
 .split<;>constructor<;>intro<;>omega
def sW{a b:Dy}{k:Int}(ha:qM a k)(hb:qM b k):jm a b<=0↔a.num k<=b.num k:=by rw[EY ha hb,ae2]
def le_trans{a b c:Dy}(h1:jm a b<=0)(h2:jm b c<=0):jm a c<=0:=by
 obtain⟨k,ka,kb,kc⟩:∃ k:Int,k<=a.e/\k<=b.e/\k<=c.e:=⟨min a.e<|min b.e c.e,aC,aC,aC⟩
 rw[sW (.inr ka)<|.inr kb]at h1;rw[sW (.inr kb)<|.inr kc]at h2;rw[sW (.inr ka)<|.inr kc];omega
def DZ(a:Dy):jm a a<=0:=by rw[sW (k:=a.e) (.inr<|ct _)<|.inr<|ct _];exact ct _
def aj7(a b:Dy):jm a b<=0\/jm b a<=0:=by
 obtain⟨k,ka,kb⟩:∃ k:Int,k<=a.e/\k<=b.e:=⟨min a.e b.e,aC,aC⟩
 rw[sW (.inr ka)<|.inr kb,sW (.inr kb)<|.inr ka];omega
def alk{a b:Dy}(h:jm a b<=0):jm (jo b) (jo a)<=0:=by
 obtain⟨k,ka,kb⟩:∃ k:Int,k<=a.e/\k<=b.e:=⟨min a.e b.e,aC,aC⟩
 rw[sW (.inr ka)<|.inr kb]at h;rw[sW (k:=k) (Nq<|.inr kb)<|Nq<|.inr ka,QZ,QZ];omega
def aoG{a b c d:Dy}(h1:jm a b<=0)(h2:jm c d<=0):jm (iM a c) (iM b d)<=0:=by
 obtain⟨k,ka,kb,kc,kd⟩:∃ k:Int,k<=a.e/\k<=b.e/\k<=c.e/\k<=d.e:=⟨min (min a.e b.e)<|min c.e d.e,aC,aC,aC,aC⟩
 rw[sW (.inr ka)<|.inr kb]at h1;rw[sW (.inr kc)<|.inr kd]at h2;rw[sW (k:=k) (J5 (.inr ka)<|.inr kc)<|J5 (.inr kb)<|.inr kd,MK (.inr ka)<|.inr kc,MK (.inr kb)<|.inr kd];omega
def Kx(m:Nat)(e:Int)(p:Nat):
 kV m e false p false*2^jJ m e p<=m/\m<=kV m e false p true*2^jJ m e p:=by
 have h:=cL m<|2^jJ m e p;have hr:=bJ m<|bn (n:=jJ m e p) (aE:0<2);unfold kV;simp only[bC,false_and,bh,bT,false_or,true_and];rw[bI];generalize m/2^jJ m e p=q at *
 generalize 2^jJ m e p=P at *
 refine⟨aC,?_⟩;rw[bL,bI q];split
 .omega
 .omega
def GV{s:Bool}{m n:Nat}{e f K:Int}(h1:K<=e)(h2:K<=f)(h:m*2^(e-K).toNat<=n*2^(f-K).toNat):
 (s=false->jm (canon s m e) (canon s n f)<=0)/\(s=true->jm (canon s n f) (canon s m e)<=0):=by
 constructor
 .rintro rfl;rw[sW (BN h1)<|BN h2,Zy h1,Zy h2]
  exact_mod_cast h
 .rintro rfl;rw[sW (BN h2)<|BN h1,D9 h1,D9 h2];simp only[bA];omega
def Uu(neg:Bool)(m:Nat)(e:Int)(p:Nat)(up:Bool)(he:jY neg m e false p up=0)(_hp:1<=p):
 (up=true->jm (canon neg m e) (j9 neg m e false p up)<=0)/\(up=false->jm (j9 neg m e false p up) (canon neg m e)<=0):=by
 rw[G4]at he;obtain⟨c1,c2⟩:=Kx m e p;have e1:(e-e).toNat=0:= aC ;have e2:(e+(jJ m e p:Int)-e).toNat=jJ m e p:= aC ;have hk:e<=e+(jJ m e p:Int):= aC ;have A:=λs:Bool=>GV (s:=s) (m:=kV m e false p false) (n:=m) (e:=e+jJ m e p) (f:=e) (K:=e) hk (ct _)<|by rw[e1,e2];simpa using c1
 have B:=λs:Bool=>GV (s:=s) (m:=m) (n:=kV m e false p true) (e:=e) (f:=e+jJ m e p) (K:=e) (ct _) hk<|by rw[e1,e2];simpa using c2
 unfold j9;by_cases ho:mz m e false p (neg != up)=true
 .have hn:¬(neg != up)=true:=λh=>he ⟨ho,h⟩
  rw[aY ho,aX hn];have W0:neg=up:=by cases neg<;>cases up<;>simp at hn ⊢
  have lM:(neg != up)=false:=by rw[W0];simp
  rw[lM]at ho;unfold mz at ho;simp only[bD,cz]at ho;obtain⟨o1,o2⟩:=ho;have hq:=tV o1;have Hw:=oV o1;obtain⟨K,k1,k2⟩:∃ K:Int,K<=e/\K<=16384-p:=⟨min e<|16384-p,aC,aC⟩
  have C:(2^p-1)*2^((16384:Int)-p-K).toNat<=m*2^(e-K).toNat:=by
   have h1:2^(iq (kV m e false p false)-1)*2^jJ m e p<=m:=bg (bG _ hq) c1;have h2:=bG (2^(e-K).toNat) h1;rw[<-bj,<-bj]at h2;refine bg (bG _<|eU _ _)<|bg ?_ h2;rw[<-bj];exact bO aE aC 
  have D:=GV (s:=neg) k2 k1 C;subst W0;cases neg
  .exact ⟨λh=>absurd h aE,λ_=>D.1 rfl⟩
  .exact ⟨λ_=>D.2 rfl,λh=>absurd h aE⟩
 .rw [aX ho];cases neg<;>cases up
  .exact ⟨λh=>absurd h aE,λ_=>(A false).1 rfl⟩
  .exact ⟨λ_=>(B false).1 rfl,λh=>absurd h aE⟩
  .exact ⟨λh=>absurd h aE,λ_=>(B true).2 rfl⟩
  .exact ⟨λ_=>(A true).2 rfl,λh=>absurd h aE⟩
def aas{d:Dy}(hd:d.mi)(p:Nat)(hp:1<=p):
 (jC d p true=0->jm d (jN d p true)<=0)/\(jC d p false=0->jm (jN d p false) d<=0):=by
 have h:=hd.C4;constructor
 .intro he;have:=(Uu d.neg d.m d.e p true he hp).1 rfl;rwa[h]at this
 .intro he;have:=(Uu d.neg d.m d.e p false he hp).2 rfl;rwa[h]at this
def nS{x y:Iv}(hx:x.ig)(hy:y.ig){p:Nat}(hp:1<=p)(ie:p<=4096):(je x y p).ig:=by
 unfold je;rcases hx with⟨h,_⟩|⟨h1,h2,h3,h4⟩
 .rw [h];exact kR
 .rcases hy with⟨h,_⟩|⟨k1,k2,k3,k4⟩
  .rw [h,h1];exact kR
  .rw [h1,k1];simp only[apV,bC,bh];unfold lH;by_cases he:jC (iM x.lo y.lo) p false≠0\/jC (iM x.hi y.hi) p true≠0
   .rw [aY he];exact kR
   .rw [aX he];have e1:jC (iM x.lo y.lo) p false=0:= aC ;have e2:jC (iM x.hi y.hi) p true=0:= aC ;refine .inr ⟨rfl,tn _ _ _ _ _ _ hp ie,tn _ _ _ _ _ _ hp ie,?_⟩;exact le_trans ((aas (xY h2.canon k2.canon) p hp).2 e1)<|le_trans (aoG h4 k4)<|(aas (xY h3.canon k3.canon) p hp).1 e2
def rU{x:Iv}(hx:x.ig):(oO x).ig:=by
 unfold oO;rcases hx with⟨h,_⟩|⟨h1,h2,h3,h4⟩
 .rw [aY h];exact kR
 .rw [h1];exact .inr ⟨rfl,xD h3,xD h2,alk h4⟩
section
variable(a b:Dy)
def jk:Dy:=if jm b a<0 then b else a
def jg:Dy:=if 0<jm b a then b else a
def IZ:jm (jk a b) a<=0:=by
 unfold jk;split
 .omega
 .exact DZ a
def Qy:jm (jk a b) b<=0:=by
 unfold jk;split
 .exact DZ b
 .rcases aj7 a b with h|h
  .exact h
  .have h0:jm b a=0:= aC ;obtain⟨k,ka,kb⟩:∃ k:Int,k<=a.e/\k<=b.e:=⟨min a.e b.e,aC,aC⟩
   rw[EY (k:=k) (.inr kb)<|.inr ka]at h0;rw[sW (.inr ka)<|.inr kb];unfold yb at h0;split at h0
   .omega
   .split at h0<;>omega
def C6:jm a b = -jm b a:=by
 obtain⟨k,ka,kb⟩:∃ k:Int,k<=a.e/\k<=b.e:=⟨min a.e b.e,aC,aC⟩
 rw[EY (k:=k) (.inr ka)<|.inr kb,EY (k:=k) (.inr kb)<|.inr ka];unfold yb;split<;>split<;>(try split)<;>omega
def FL:jm a (jg a b)<=0:=by
 unfold jg;split
 .rw [C6];omega
 .exact DZ a
def YI:jm b (jg a b)<=0:=by
 unfold jg;split
 .exact DZ b
 .omega
end
section
variable{a b:Dy}(ha:a.ig)(hb:b.ig)
def xz:(jk a b).ig:=by unfold jk;split;exact hb;exact ha
def uM:(jg a b).ig:=by unfold jg;split;exact hb;exact ha
end
def oK(D : Dy->Dy->Bool->Dy)(E : Dy->Dy->Bool->Int)(x y : Iv) : Iv:=
 if(E x.lo y.lo false=0/\E x.lo y.lo true=0)/\(E x.lo y.hi false=0/\E x.lo y.hi true=0)/\(E x.hi y.lo false=0/\E x.hi y.lo true=0)/\(E x.hi y.hi false=0/\E x.hi y.hi true=0)then
  ⟨jk (jk (jk (D x.lo y.lo false)<|D x.lo y.hi false)<|D x.hi y.lo false)<|D x.hi y.hi false,
   jg (jg (jg (D x.lo y.lo true)<|D x.lo y.hi true)<|D x.hi y.lo true) (D x.hi y.hi true),false⟩
 else ik
def VI{D:Dy->Dy->Bool->Dy}{E:Dy->Dy->Bool->Int}{x y:Iv}(hv:∀ a b up,(D a b up).ig)
 (hle:E x.lo y.lo false=0->E x.lo y.lo true=0->jm (D x.lo y.lo false) (D x.lo y.lo true)<=0):(oK D E x y).ig:=by
 unfold oK;split
 .rename_i h;refine .inr ⟨rfl,xz (xz (xz (hv _ _ _)<|hv _ _ _)<|hv _ _ _)<|hv _ _ _,uM (uM (uM (hv _ _ _)<|hv _ _ _)<|hv _ _ _)<|hv _ _ _,?_⟩;refine le_trans (IZ _ _)<|le_trans (IZ _ _)<|le_trans (IZ _ _)<|le_trans (hle h.1.1 h.1.2) ?_;exact le_trans (FL _ _)<|le_trans (FL _ _)<|FL _ _
 .exact kR
def iL(x y:Iv)(p:Nat):Iv:=
 if x.all||y.all then ik else oK (λa b up=>jN (wC a b) p up) (λa b up=>jC (wC a b) p up) x y
def lE(x y:Iv){p:Nat}(hp:1<=p:=by omega)(ie:p<=4096:=by omega):(iL x y p).ig:=by
 unfold iL;split
 .exact kR
 .exact VI (λ_ _ _=>tn _ _ _ _ _ _ hp ie) λh1 h2=>Ut _ _ _ _ _ h1 h2
section
variable(a b:Dy)(p:Nat)
def lf(g:Nat):Nat:=p+g+iq b.m-iq a.m
def nK(up:Bool):Dy:=
 if a.m=0 then iR else j9 (a.neg != b.neg) (a.m*2^lf a b p 2/b.m) (a.e-b.e-lf a b p 2) (decide (a.m*2^lf a b p 2%b.m≠0)) p up
def q6(up:Bool):Int:=
 if a.m=0 then 0 else jY (a.neg != b.neg) (a.m*2^lf a b p 2/b.m) (a.e-b.e-lf a b p 2) (decide (a.m*2^lf a b p 2%b.m≠0)) p up
end
section
variable{a b:Dy}(a0:a.m≠0)(b0:b.m≠0)
def N7(p g:Nat)(hg:2<=g):p<iq (a.m*2^lf a b p g/b.m):=by
 have h1:=tV a0;have h2:=sc b.m;have ha:=oV a0;have h3:2^p<=a.m*2^lf a b p g/b.m:=by
  rw[dp aC];refine bg (cJ _<|dq h2)<|bg ?_ (bG _ h1);rw[<-bj,<-bj];exact bO aE<|by unfold lf;omega
 exact xy.2 h3
def afO(p:Nat)(up:Bool):
 j9 (a.neg != b.neg) (a.m*2^lf a b p 3/b.m) (a.e-lf a b p 3-b.e) (decide (a.m*2^lf a b p 3%b.m≠0)) p up=nK a b p up /\
 jY (a.neg != b.neg) (a.m*2^lf a b p 3/b.m) (a.e-lf a b p 3-b.e) (decide (a.m*2^lf a b p 3%b.m≠0)) p up=q6 a b p up:=by
 obtain⟨d,hd⟩:∃ d,lf a b p 3=lf a b p 2+d:=⟨lf a b p 3-lf a b p 2,by unfold lf;omega⟩
 have hb:=N7 a0 b0 p 2 aE;unfold nK q6;rw[aX a0,aX a0,hd];generalize lf a b p 2=k at *
 have hB:0<b.m:= aC ;have hP:=bn (n:=d) (aE:0<2);have e1:a.m*2^(k+d)/b.m/2^d=a.m*2^k/b.m:=by
  rw[dE,bj,<-bB,Nat.mul_div_mul_right _ _ hP]
 have e2:(decide (a.m*2^(k+d)%b.m≠0)||decide (a.m*2^(k+d)/b.m%2^d≠0))=decide (a.m*2^k%b.m≠0):=by
  have h1:a.m*2^(k+d)%(b.m*2^d)=a.m*2^k%b.m*2^d:=by rw[bj,<-bB,Nat.mul_mod_mul_right]
  have h2:a.m*2^(k+d)%(b.m*2^d)=a.m*2^(k+d)%b.m+b.m*(a.m*2^(k+d)/b.m%2^d):=Nat.mod_mul;rw[h1]at h2;rw[eo];simp only[dz,cz];constructor
  .intro h h0;rw[h0,cH]at h2;rcases h with h|h
   .omega
   .have:=gj hB<|dI h;omega
  .intro h;apply bQ;intro hn;have n1:a.m*2^(k+d)%b.m=0:=by
    apply bQ;intro h';exact hn<|.inl h'
   have n2:a.m*2^(k+d)/b.m%2^d=0:=by
    apply bQ;intro h';exact hn<|.inr h'
   rw[n1,n2,cS]at h2;have:=gj (dI h) hP;omega
 have h:=Kw (N:=a.m*2^(k+d)/b.m) (E:=a.e-((k+d:Nat):Int)-b.e) (more:=decide (a.m*2^(k+d)%b.m≠0)) (d:=d) (p:=p) (a.neg != b.neg) up (by rw[e1];exact hb);rw[e1,e2,(aC:a.e-((k+d:Nat):Int)-b.e+(d:Int)=a.e-b.e-(k:Int))]at h;exact⟨h.1.symm,h.2.symm⟩
end
def mV(x:Iv):Int:=if x.all then 0 else if 0<x.lo.jc then 1 else if x.hi.jc<0 then -1 else 0
def jh(x y:Iv)(p:Nat):Iv:=
 if x.all||y.all||decide (mV y=0)then ik else oK (λa b up=>nK a b p up) (λa b up=>q6 a b p up) x y
def oI(x y:Iv){p:Nat}(hp:1<=p:=by omega)(ie:p<=4096:=by omega):(jh x y p).ig:=by
 unfold jh;split
 .exact kR
 .refine VI (λa b up=>?_) (λh1 h2=>?_)
  .unfold nK;split
   .exact qu
   .exact tn _ _ _ _ _ _ hp ie
  .unfold nK q6 at *
   split
   .exact DZ _
   .rename_i h;rw[aX h]at h1 h2;exact Ut _ _ _ _ _ h1 h2
def my(d:Dy):Dy:=⟨false,d.m,d.e⟩
def Aw{d:Dy}(h:d.ig):(my d).ig:=by
 refine⟨?_,h.range⟩;rcases h.canon with⟨h1,_,h3⟩|h1
 .exact .inl ⟨h1,rfl,h3⟩
 .exact .inr h1
def acG(d:Dy)(k:Int):(my d).num k=(d.jR k:Int):=by unfold Dy.num my Dy.jR;simp
def kn(x:Iv):Dy:=jg (my x.lo)<|my x.hi
def oN(x:Iv):Dy:=if mV x=0 then iR else jk (my x.lo) (my x.hi)
def iW(x:Iv):Iv:=if x.all then ik else⟨oN x,kn x,false⟩
def iJ(d:Dy):Iv:=⟨d,d,false⟩
def oP{d:Dy}(h:d.ig):(iJ d).ig:=.inr ⟨rfl,h,h,DZ d⟩
def uL{x:Iv}(h1:x.lo.ig)(h2:x.hi.ig):(kn x).ig:=uM (Aw h1)<|Aw h2
def xV{x:Iv}(h:x.ig):(iW x).ig:=by
 unfold iW;rcases h with⟨h,_⟩|⟨h,h1,h2,_⟩
 .rw [h];exact kR
 .rw [h];have v1:=Aw h1;have v2:=Aw h2;refine .inr ⟨rfl,?_,uL h1 h2,?_⟩
  .show (oN x).ig;unfold oN;split
   .exact qu
   .exact xz v1 v2
  .show jm (oN x) (kn x)<=0;unfold oN;split
   .refine le_trans (b:=my x.lo) ?_ (FL _ _);rw[sW (a:=iR) (b:=my x.lo) (k:=x.lo.e) (.inl rfl)<|.inr<|ct _,xG rfl,acG];omega
   .exact le_trans (IZ _ _)<|FL _ _
structure jO(m:List<|List Iv)(n k:Nat):Prop where
 iT:m.length=n
 row:∀ r,r ∈ m->r.length=k
 ok:∀ r,r ∈ m->∀ x,x ∈ r->x.ig
 n1:1<=n
 n8:n<=8
 k1:1<=k
 k8:k<=8
def zF(n:Nat):List<|List Iv:=(List.range n).map λi=>(List.range n).map λj=>iJ<|if i=j then⟨false,1,0⟩else iR
def pW(m:List<|List Iv)(i j:Nat):Iv:=(m.getD i []).getD j ik
def Kz(a b:List Iv)(p:Nat):Iv:=
 match a,b with
 |x::a,y::b=>(a.zip b).foldl (λs q=>je s (iL q.1 q.2 p) p)<|iL x y p
 |_,_=>ik
def Kt(m:List<|List Iv)(j:Nat):List Iv:=m.map λr=>r.getD j ik
section
variable(a b:List<|List Iv)(p:Nat)
def sd:List<|List Iv:=a.map λr=>(List.range (b.headD []).length).map λj=>Kz r (Kt b j) p
def Az:List<|List Iv:=List.zipWith (λr s=>List.zipWith (λx y=>je x y p) r s) a b
end
def uR(a:List<|List Iv)(x:Iv)(p:Nat):List<|List Iv:=a.map λr=>r.map λy=>iL x y p
def afW{a b:List Iv}{p:Nat}(hp:1<=p)(ie:p<=4096):(Kz a b p).ig:=by
 unfold Kz
 match a,b with
 | [],[]=>exact kR
 | [],_::_=>exact kR
 |_::_,[]=>exact kR
 |x::a,y::b=>
  simp only;have:∀ (l:List<|Iv×Iv) (s:Iv),s.ig->(l.foldl (λs q=>je s (iL q.1 q.2 p) p) s).ig:=by
   intro l
   induction l with
   |nil=>intro s h;exact h
   |cons q l ih=>intro s h;exact ih _<|nS h (lE _ _ hp ie) hp ie
  exact this _ _<|lE _ _ hp ie
def iU(n:Int):Dy:=mB n 0
def iF(n:Int):Iv:=iJ<|iU n
def Gb(r:List Iv)(p:Nat):Option Dy:=
 r.foldl (λs x=>s.bind λs=>if x.all then none else if jC (iM s<|kn x) p true≠0 then none else some (jN (iM s<|kn x) p true)) (some iR)
def uN(m:List<|List Iv)(p:Nat):Option Dy:=
 m.foldl (λs r=>s.bind λs=>(Gb r p).map λn=>if 0<jm n s then n else s) (some iR)
def oA(u:Iv)(p:Nat):Nat->Iv
 | 0=>iF 1
 |j+1=>iL (oA u p j) (jh u (iF (j+1:Nat)) p) p
def tP(m:List<|List Iv)(h:Iv)(k p:Nat):Option Iv:=
 (uN m p).bind λn=>
  let u:=iL (iW h) (iJ n) p
  if u.all||decide (0<=jm u.hi (iU (k+2:Nat)))then none
  else
   let e:=jh (oA u p<|k+1) (kY (iF 1) (jh u (iF (k+2:Nat)) p) p) p
   if e.all then none else some ⟨jo e.hi,e.hi,false⟩
def sG(m:List<|List Iv)(h:Iv)(p:Nat):Nat->List (List Iv)
 | 0=>zF m.length
 |j+1=>uR (sd (sG m h p j) m p) (jh h (iF (j+1:Nat)) p) p
def jT(m:List<|List Iv)(h:Iv)(p:Nat):Nat->List (List Iv)
 | 0=>zF m.length
 |j+1=>Az (jT m h p j) (sG m h p<|j+1) p
def yi(m:List<|List Iv)(h:Iv)(k p:Nat):Option<|List<|List Iv:=
 (tP m h k p).bind λe=>
  let out:=(jT m h p k).map λr=>r.map λx=>je x e p
  if out.any λr=>r.any λx=>x.all then none else some out
end Go.Proofs.YtjkmahljfblobaaGreatDoor.Fp
namespace Go.Proofs.YtjkmahljfblobaaGreatDoor
open Go.RowKit Fp Pu
def jt(x:Iv):List E:=[bP x.lo.neg,il<|ib x.lo.m,iP x.lo.e,bP x.hi.neg,il<|ib x.hi.m,iP x.hi.e,bP x.all]
def im(x:Iv):E:=.agg<|jt x
def iA(l:List Iv):E:=.sl true l.length 7 λi j=>(jt<|l.getD i ik).getD j .any
def jb(m:List<|List Iv):E:=.sl true m.length 1 λi _=>iA<|m.getD i []
def zG(x y:Iv):Bool:=y.all||(!x.all&&(decide (jm y.lo x.lo<=0)&&decide (jm x.hi y.hi<=0)))
def zZ:E.le (.v<|.slice none 0 0)<|il<|ib 0:=by
 have:il (ib 0) = .sl false 0 1 λi _=>.v (.int .u32 (((ib 0).getD i 0:Nat):Int)):=by unfold il;rw[pG];rfl
 rw[this];exact .nil _ _ _
def BH:E.le (.agg [bP false,.v<|.slice none 0 0,iP 0,bP false,.v<|.slice none 0 0,iP 0,bP true])<|im ik:=
 .agg (.cons (.refl _)<|.cons zZ<|.cons (.refl _)<|.cons (.refl _)<|.cons zZ<|.cons (.refl _)<|.cons (.refl _) .nil)
structure RD where
 neg:Bool
 L:List Nat
 e:Int
structure RI where
 lo:RD
 hi:RD
 all:Bool
def Rr(d:RD):List E:=[bP d.neg,il d.L,iP d.e]
def tO(d:RD):E:=.agg<|Rr d
def Bu(x:RI):List E:=[bP x.lo.neg,il x.lo.L,iP x.lo.e,bP x.hi.neg,il x.hi.L,iP x.hi.e,bP x.all]
def yP(x:RI):E:=.agg<|Bu x
def Gc:RD:=⟨false,[],0⟩
def mq:RI:=⟨Gc,Gc,true⟩
def oe(l:List RI):E:=.sl true l.length 7 λi j=>(Bu<|l.getD i mq).getD j .any
def Ef(m:List<|List RI):E:=.sl true m.length 1 λi _=>oe<|m.getD i []
structure RD.kz(d:RD):Prop where
 ok:iQ d.L
 lo:-9223372036854775808<=d.e
 hi:d.e<=9223372036854775807
structure RI.kz(x:RI):Prop where
 lo:x.lo.kz
 hi:x.hi.kz
def aaM:Gc.kz:=⟨iQ.nil,aE,aE⟩
def MA:mq.kz:=⟨aaM,aaM⟩
def RD.dy(d:RD):Dy:=⟨d.neg,val d.L,d.e⟩
def RD.Ok(d:RD):Prop:=pK d.neg d.L d.e
def RD.Zero(d:RD):Prop:=d.neg=false/\d.L=[]/\d.e=0
def RI.iv(x:RI):Iv:=⟨x.lo.dy,x.hi.dy,x.all⟩
def RI.Ok(x:RI):Prop:=(x.all=true/\x.lo.Zero/\x.hi.Zero)\/(x.all=false/\x.lo.Ok/\x.hi.Ok/\jm x.lo.dy x.hi.dy<=0)
def Fp.Dy.raw(d:Dy):RD:=⟨d.neg,ib d.m,d.e⟩
def Fp.Iv.raw(x:Iv):RI:=⟨x.lo.raw,x.hi.raw,x.all⟩
def RD.Ok.valid{d:RD}(h:d.Ok):d.dy.ig:=h.2.2
def RD.Ok.eq{d:RD}(h:d.Ok)(g:d.kz):d.dy.raw=d:=by
 obtain⟨n,L,e⟩:=d;show RD.mk n (ib<|val L) e=_;rw[<-pK.KE h g.ok]
def RD.Zero.eq{d:RD}(h:d.Zero):d.dy=iR/\d.dy.raw=d:=by
 obtain⟨n,L,e⟩:=d;obtain⟨rfl,rfl,rfl⟩:=h;refine⟨rfl,?_⟩;show RD.mk false (ib 0) 0=_;rw[pG]
def RI.Ok.valid{x:RI}(h:x.Ok):x.iv.ig:=by
 rcases h with⟨h1,h2,h3⟩|⟨h1,h2,h3,h4⟩
 .exact .inl ⟨h1,h2.eq.1,h3.eq.1⟩
 .exact .inr ⟨h1,h2.valid,h3.valid,h4⟩
def RI.Ok.eq{x:RI}(h:x.Ok)(g:x.kz):x.iv.raw=x:=by
 obtain⟨lo,hi,a⟩:=x;rcases h with⟨h1,h2,h3⟩|⟨h1,h2,h3,h4⟩
 .show RI.mk lo.dy.raw hi.dy.raw a=_;rw[h2.eq.2,h3.eq.2]
 .show RI.mk lo.dy.raw hi.dy.raw a=_;rw[h2.eq g.lo,h3.eq g.hi]
def Fp.Dy.Z9(d:Dy):d.raw.dy=d:=by show Dy.mk d.neg (val<|ib d.m) d.e=d;rw[kK]
def N9(d:Dy):tO d.raw=iw d:=rfl
def Qc(x:Iv):yP x.raw=im x:=rfl
def Fp.Dy.ig.AM{d:Dy}(h:d.ig):d.raw.kz:=⟨mJ _,by have:=h.exp;show -9223372036854775808<=d.e;omega,by have:=h.exp;show d.e<=9223372036854775807;omega⟩
def Fp.Dy.ig.Bp{d:Dy}(h:d.ig):d.raw.Ok:=h.wT
def Fp.Iv.ig.Bp{x:Iv}(h:x.ig):x.raw.Ok:=by
 rcases h with⟨h1,h2,h3⟩|⟨h1,h2,h3,h4⟩
 .refine .inl ⟨h1,?_,?_⟩
  .show x.lo.raw.Zero;rw[h2];exact⟨rfl,pG,rfl⟩
  .show x.hi.raw.Zero;rw[h3];exact⟨rfl,pG,rfl⟩
 .refine .inr ⟨h1,h2.Bp,h3.Bp,?_⟩;show jm x.lo.raw.dy x.hi.raw.dy<=0;rw[Dy.Z9,Dy.Z9];exact h4
def Fp.Iv.ig.jj{x:Iv}(h:x.ig):x.lo.ig/\x.hi.ig:=by
 rcases h with⟨_,h2,h3⟩|⟨_,h2,h3,_⟩
 .rw [h2,h3];exact⟨qu,qu⟩
 .exact ⟨h2,h3⟩
def Fp.Iv.ig.AM{x:Iv}(h:x.ig):x.raw.kz:=⟨h.jj.1.AM,h.jj.2.AM⟩
def ap5:ik.raw=mq:=by
 show RI.mk iR.raw iR.raw true=RI.mk Gc Gc true;have:iR.raw=Gc:=by show RD.mk false (ib 0) 0=_;rw[pG];rfl
 rw[this]
def yN(l:List Iv):List RI:=l.map Iv.raw
def wD(m:List<|List Iv):List<|List RI:=m.map yN
def V1(l:List Iv)(i:Nat):(yN l).getD i mq=(l.getD i ik).raw:=by
 unfold yN;rw[bc,bc,ch];cases l[i]? with
 |none=>exact ap5.symm
 |some x=>rfl
def Qd(l:List Iv):oe (yN l)=iA l:=by
 unfold oe iA;rw[show(yN l).length=l.length by simp[yN]];congr 1;funext i j;rw[V1];rfl
def akJ(m:List<|List Iv):Ef (wD m)=jb m:=by
 unfold Ef jb;rw[show(wD m).length=m.length by simp[wD]];congr 1;funext i j;rw[<-Qd];congr 1;unfold wD;rw[bc,bc,ch];cases m[i]? <;> rfl
structure GF(m:List<|List RI):Prop where
 n1:1<=m.length
 n8:m.length<=8
 k1:1<=(m.getD 0 []).length
 k8:(m.getD 0 []).length<=8
 row:∀ i,i<m.length->(m.getD i []).length=(m.getD 0 []).length
 ok:∀ i,i<m.length->∀ j,j<(m.getD i []).length->((m.getD i []).getD j mq).Ok
def Gz(m:List<|List RI):Prop:=∀ r,r ∈ m->∀ x,x ∈ r->x.kz
def Gz.at{m:List<|List RI}(h:Gz m)(i j:Nat):((m.getD i []).getD j mq).kz:=by
 by_cases hi:i<m.length
 .rw [bc (l:=m),bk hi];show(m[i].getD j mq).kz;by_cases hj:j<m[i].length
  .rw [bc,bk hj];exact h _ (b9 hi) _<|b9 hj
  .rw [bc,bX aC];exact MA
 .rw [bc (l:=m),bX aC];exact MA
section
variable(d:RD)(g:d.kz)(b:Bool)(hb:b=true↔d.Ok)
def Dc:ic 60 [tO d]<|bP b:=by
 refine⟨call60,λw B vs hK hB hr=>?_⟩;obtain⟨v1,vs,rfl,h1,hr⟩:=hr.mY;obtain rfl:=hr.re;obtain⟨us,rfl,q⟩:=iI.EM<|show iI _ _ w (.agg _) v1 from h1;obtain⟨u1,us,rfl,k1,q⟩:=q.mY;obtain⟨u2,us,rfl,k2,q⟩:=q.mY;obtain⟨u3,us,rfl,k3,q⟩:=q.mY;obtain rfl:=q.re;obtain rfl:=iI.kG k1;obtain rfl:=iI.kG k3;obtain⟨A,c,rfl,hs⟩:=Aj g.ok k2;exact(Dd d.neg A c d.L d.e w b hs g.lo g.hi hb).mono λe w' h=>rv B w e w' hB h
def amU:ic 17 [tO d]<|bP b:=by
 refine⟨call17,λw B vs hK hB hr=>?_⟩;obtain⟨v1,vs,rfl,h1,hr⟩:=hr.mY;obtain rfl:=hr.re;obtain⟨us,rfl,q⟩:=iI.EM<|show iI _ _ w (.agg _) v1 from h1;obtain⟨u1,us,rfl,k1,q⟩:=q.mY;obtain⟨u2,us,rfl,k2,q⟩:=q.mY;obtain⟨u3,us,rfl,k3,q⟩:=q.mY;obtain rfl:=q.re;obtain rfl:=iI.kG k1;obtain rfl:=iI.kG k3;obtain⟨A,c,rfl,hs⟩:=Aj g.ok k2;exact(Mn d.neg A c d.L d.e w b hs g.lo g.hi hb).mono λe w' h=>rv B w e w' hB h
end
section
variable{a b:Nat}
def ala(h:a≠b):((a:Int) != (b:Int))=true:= aN 
def vt(h:a=b:=by omega):((a:Int) != (b:Int))=false:=by simp[h]
def FP(h:a=b):((a:Int)==b)=true:=by simp[h]
def Y4(h:a≠b):((a:Int)==b)=false:= aN 
end
open Classical in
noncomputable def sF(x:RI):Bool:=decide x.Ok
def Ab{x:RI}:sF x=true↔x.Ok:=by unfold sF;simp
open Classical in
noncomputable def yH(m:List<|List RI):Bool:=decide (GF m)
def Qv{m:List<|List RI}:yH m=true↔GF m:=by unfold yH;simp
def IX{m:List<|List RI}(h:¬GF m):yH m=false:=by simpa using λq=>h<|Qv.1 q
open Go.ChangeShapes Go.WideShapes Go.ChangeAt
abbrev ny:Nat->Prop:=λ_=>False
def aeS{W:World}{a:Addr}{v:Value}(h:W.cell? a=some v):a.spot=none:=by
 obtain⟨b,o,s⟩:=a;rcases s with _|q
 .rfl
 .exfalso;unfold World.cell? at h;split at h<;>simp at h
def RA{W:World}{a:Addr}{len cap sz:Nat}{nl:Bool}(el:Nat->Nat->E)(hl:len<=cap)(hm:cap<=maxLen)(mP:0<sz)
 (h1:∀ i j,i<len->j<sz->(el i j).one=true/\(nl=true->(el i j).lY=true)/\(el i j).nr 2=true)
 (hx:∀ i,i<len->∃ cs,W.cells? 0 (a.add<|i*sz) sz=some cs/\∀ j,j<sz->∃ v,cs[j]? = some v/\iI ny ny W (el i j) v):
 iI ny ny W (.sl nl len sz el) (.slice (some a) len cap):=by
 have WV:cap<=9223372036854775807:=by simpa[maxLen]using hm
 have cellAt:∀ i j,i<len->j<sz->∃ v,W.cell? (a.add<|i*sz+j)=some v/\iI ny ny W (el i j) v:=by
  intro i j hi hj;obtain⟨cs,h2,h3⟩:=hx i hi;obtain⟨v,h4,h5⟩:=h3 j hj;refine⟨v,?_,h5⟩;rw[<-Deep.add_add,(World.cells?_some h2).2.2 j hj,h4]
 by_cases h0:len=0
 .subst h0;exact .sl nl 0 sz el _ cap (λ_ _=>.bool false) aC WV (λh=>by cases h) (λi j hi=>absurd hi aC) (λi j hi=>absurd hi aC) (λi j hi=>absurd hi aC) λi j hi=>absurd hi aC
 .obtain ⟨b,o,s⟩:=a;have hs:s=none:=by
   obtain⟨v,h2,_⟩:=cellAt 0 0 aC mP;rw[cH,bZ,show(⟨b,o,s⟩:Addr).add 0=⟨b,o,s⟩from rfl]at h2;exact aeS h2
  subst hs;have cell2:∀ i j,∃ v:Value,i<len->j<sz->W.cell? ⟨b,o+(i*sz+j),none⟩=some v/\iI ny ny W (el i j) v:=by
   intro i j;by_cases hi:i<len
   .by_cases hj:j<sz
    .obtain ⟨v,h2,h3⟩:=cellAt i j hi hj;rw[CZ]at h2;exact⟨v,λ_ _=>⟨h2,h3⟩⟩
    .exact ⟨.bool false,λ_ h=>absurd h hj⟩
   .exact ⟨.bool false,λh=>absurd h hi⟩
  let f:Nat->Nat->Value:=λi j=>Classical.choose<|cell2 i j
  have hf:∀ i j,i<len->j<sz->W.cell? ⟨b,o+(i*sz+j),none⟩=some (f i j)/\iI ny ny W (el i j) (f i j):=λi j=>cT<|cell2 i j
  refine .sl nl len sz el _ cap f hl WV (λh=>by cases h) (λi j hi hj=>?_) (λi j hi hj=>(h1 i j hi hj).2.2) (λi j hi hj=>?_) λi j hi hj=>(hf i j hi hj).2
  .exact ⟨(hf i j hi hj).2.one (h1 i j hi hj).1,λq=>(hf i j hi hj).2.lY<|(h1 i j hi hj).2.1 q⟩
  .exact ⟨b,o,rfl,id,block_lt_of_cell (hf i j hi hj).1,(hf i j hi hj).1⟩
def SD(W:World)(d:RD)(cs:List Value):Prop:=d.kz/\cs.length=3/\∀ j,j<3->∃ v,cs[j]? = some v/\iI ny ny W ((Rr d).getD j .any) v
def Ng(W:World)(x:RI)(cs:List Value):Prop:=x.kz/\cs.length=7/\∀ j,j<7->∃ v,cs[j]? = some v/\iI ny ny W ((Bu x).getD j .any) v
section
variable {H:Type} {enc:TypeId×Value->H} {W:World} {fuel:Nat} {cs:List Value} {x:DataW H×List MemPlace}
def Q9(h:DataW.trod enc prog W 0 (λ_=>true) true fuel 37 cs=some x)(iE:∀ p ∈ x.2,p.block<W.heap.size):∃ d,SD W d cs:=by
 obtain⟨s,A,L,cap,e,rfl,xq,h1,h2⟩:=alN h iE;refine⟨⟨s,L,e⟩,⟨xq.ok,h1,h2⟩,rfl,λj hj=>?_⟩;rcases j with _|_|_|j
 .exact ⟨_,rfl,.v _⟩
 .exact ⟨_,rfl,CM (w:=W) (λ_ h=>h.elim) (.refl _) xq⟩
 .exact ⟨_,rfl,.v _⟩
 .omega
def alR(h:DataW.trod enc prog W 0 (λ_=>true) true fuel 41 cs=some x)(iE:∀ p ∈ x.2,p.block<W.heap.size):∃ d,Ng W d cs:=by
 obtain⟨xs,n,rfl,rfl,hl,nF,hf⟩:=DataW.trod_struct underlying41 h;have hC:prog.cellsOf 41=7:= aF ;have hD:prog.cellsOf 37=3:= aF ;have hB:prog.cellsOf 4=1:= aF ;rw[hC]at hl;obtain⟨c0,c1,c2,c3,c4,c5,c6,rfl⟩:=aks hl;have h0:=hf 0 _ rfl;have h1:=hf 1 _ rfl;have h2:=hf 2 _ rfl;simp only[fA,fB,eF]at h0 h1 h2;simp only[hD,hB,fC,fD,eW,fE]at h0 h1 h2;rw[bk<|by rw[nF];decide]at h0 h1 h2;obtain⟨lo,g1,_,k1⟩:=Q9 h0 λp hp=>iE p<|dG.2 ⟨_,b9 _,hp⟩;obtain⟨hi,g2,_,k2⟩:=Q9 h1 λp hp=>iE p<|dG.2 ⟨_,b9 _,hp⟩;obtain⟨al,e2,_⟩:=DataW.trod_bool underlying4 h2;simp at e2;subst e2;refine⟨⟨lo,hi,al⟩,⟨g1,g2⟩,rfl,λj hj=>?_⟩;rcases j with _|_|_|_|_|_|_|j
 .exact k1 0 aE 
 .exact k1 1 aE 
 .exact k1 2 aE 
 .exact k2 0 aE 
 .exact k2 1 aE 
 .exact k2 2 aE 
 .exact ⟨_,rfl,.v _⟩
 .omega
def anc(x:RI)(j:Nat)(hj:j<7):((Bu x).getD j .any).one=true/\(((Bu x).getD j .any).lY=true)/\((Bu x).getD j .any).nr 2=true:=by
 rcases j with _|_|_|_|_|_|_|j
 all_goals first|exact⟨rfl,rfl,rfl⟩|omega
def ZI(h:DataW.trod enc prog W 0 (λ_=>true) true fuel 23 cs=some x)(iE:∀ p ∈ x.2,p.block<W.heap.size):
  ∃ l v,cs=[v]/\(∀ y,y ∈ l->y.kz)/\iI ny ny W (oe l) v:=by
 have hC:prog.cellsOf 41=7:= aF ;rcases Deep.open_slice underlying23 h with⟨rfl,_⟩|⟨a,len,cap,m,n,D,Pl,rfl,hb,hl,hm,tC,rfl,hx⟩
 .exact ⟨[],_,rfl,(λy hy=>by cases hy),.sl true 0 7 _ none 0 (λ_ _=>.bool false) (a7 _) aE (λ_=>rfl) (λi j hi=>absurd hi<|bt i) (λi j hi=>absurd hi<|bt i) (λi j hi=>absurd hi<|bt i) λi j hi=>absurd hi<|bt i⟩
 .simp only[bA]at tC;subst tC;have ex:∀ i,∃ y:RI,i<len->∃ cs',W.cells? 0 (a.add<|i*7) 7=some cs'/\Ng W y cs':=by
   intro i;by_cases hi:i<len
   .obtain ⟨cs',h1,h2⟩:=hx i aC ;rw[hC]at h1;obtain⟨y,hy⟩:=alR h2 λp hp=>iE p<|List.mem_append_right _<|dG.2 ⟨i,bS.2 aC,hp⟩;exact⟨y,λ_=>⟨cs',h1,hy⟩⟩
   .exact ⟨mq,λh=>absurd h hi⟩
  let X:Nat->RI:=λi=>Classical.choose<|ex i
  have hX:∀ i,i<len->∃ cs',W.cells? 0 (a.add<|i*7) 7=some cs'/\Ng W (X i) cs':=λi=>cT<|ex i
  have hlen:((List.range len).map X).length=len:= aH ;refine⟨(List.range len).map X,_,rfl,?_,?_⟩
  .intro y hy;obtain⟨i,hi,rfl⟩:=cC.1 hy;obtain⟨cs',_,h2⟩:=hX i<|bS.1 hi;exact h2.1
  .have Dw:∀ i,i<len->((List.range len).map X).getD i mq=X i:=by
    intro i hi;rw[bc,ch,arj hi];rfl
   have:=RA (W:=W) (a:=a) (len:=len) (cap:=m) (nl:=true) (λi j=>(Bu<|((List.range len).map X).getD i mq).getD j .any) hl hm (show 0<7 by decide)
    (λi j _ hj=>let⟨h1,h2,h3⟩:=anc (((List.range len).map X).getD i mq) j hj;⟨h1,λ_=>h2,h3⟩)
    (λi hi=>by
     obtain⟨cs',h1,h2,_,h3⟩:=hX i hi;exact⟨cs',h1,λj hj=>by rw[Dw i hi];exact h3 j hj⟩)
   unfold oe;rw[hlen];exact this
end
def aij{P:Program}{c:OpenClaim}(h:P.funcs.any Func.goes=false)(hs:c.start = .entering):false=c.goesBy P:=by
 have h1:∀ g:Nat,(P.funcs[g]?).any Func.goes=false:=by
  intro g;cases hg:P.funcs[g]? with
  |none=>rfl
  |some fn=>
   rw[Option.any_some];rw[Array.any_eq_false]at h;obtain⟨hl,he⟩:=c9.1 hg;have:=h g hl;rw[he]at this;simpa using this
 have h2:∀ f,P.goes f=false:=by
  intro f;unfold Program.goes;rw[h,Bool.and_false,eO,cF];intro g _;rw[h1 g];decide
 unfold OpenClaim.goesBy Program.goesAt Program.goesFrom;rw[hs];cases P.funcNamed c.func with
 |none=>rfl
 |some f=>simp[h2 f]
def ahr:Tryz.pinned.checked.prog.funcs.any Func.goes=false:= aF 
def XU(k:IntKind)(l:List Int):E:=.sl true l.length 1 λi _=>.v<|.int k<|l.getD i 0
def Su{k:IntKind}{z:Int}(h:(Lit.int k z).wf=true):lJ k z:=by
 cases k<;>(simp[Lit.wf,IntKind.min,IntKind.max,IntKind.signed,IntKind.bits]at h;simp only[lJ];omega)
def alO{H:Type}{enc:TypeId×Value->H}{W:World}{fuel:Nat}{cs:List Value}{x:DataW H×List MemPlace}{t e:TypeId}{k:IntKind}(hk:∀ z,pU (.int k z)=false)(ht:prog.underlying t=some (.slice e))(he:prog.underlying e=some (.int k))(hC:prog.cellsOf e=1)
  (h:DataW.trod enc prog W 0 (λ_=>true) true fuel t cs=some x):∃ l v,cs=[v]/\(∀ z,z ∈ l->lJ k z)/\iI ny ny W (XU k l) v:=by
 rcases Deep.open_slice ht h with⟨rfl,_⟩|⟨a,len,cap,m,n,D,Pl,rfl,hb,hl,hm,tC,rfl,hx⟩
 .exact ⟨[],_,rfl,(λy hy=>by cases hy),.sl true 0 1 _ none 0 (λ_ _=>.bool false) (a7 _) aE (λ_=>rfl) (λi j hi=>absurd hi<|bt i) (λi j hi=>absurd hi<|bt i) (λi j hi=>absurd hi<|bt i) λi j hi=>absurd hi<|bt i⟩
 .simp only[bA]at tC;subst tC;have ex:∀ i,∃ z:Int,i<len->W.cells? 0 (a.add<|i*1) 1=some [.int k z]/\lJ k z:=by
   intro i;by_cases hi:i<len
   .obtain ⟨cs',h1,h2⟩:=hx i aC ;rw[hC]at h1;obtain⟨z,hz,_,hw⟩:=DataW.trod_int he h2;subst hz;exact⟨z,λ_=>⟨h1,Su hw⟩⟩
   .exact ⟨0,λh=>absurd h hi⟩
  let X:Nat->Int:=λi=>Classical.choose<|ex i
  have hX:∀ i,i<len->W.cells? 0 (a.add<|i*1) 1=some [.int k<|X i]/\lJ k (X i):=λi=>cT<|ex i
  have hlen:((List.range len).map X).length=len:= aH ;refine⟨(List.range len).map X,_,rfl,?_,?_⟩
  .intro r hr;obtain⟨i,hi,rfl⟩:=cC.1 hr;exact(hX i<|bS.1 hi).2
  .have Dw:∀ i,i<len->((List.range len).map X).getD i 0=X i:=by
    intro i hi;rw[bc,ch,arj hi];rfl
   have:=RA (W:=W) (a:=a) (len:=len) (cap:=m) (nl:=true) (λi _=>.v<|.int k<|((List.range len).map X).getD i 0) hl hm (show 0<1 by decide)
    (λi j _ hj=>⟨rfl,λ_=>by show(!pU _)=true;rw[hk];rfl,rfl⟩)
    (λi hi=>by
     refine⟨[.int k<|X i],(hX i hi).1,λj hj=>?_⟩;obtain rfl:j=0:= aC ;exact⟨_,rfl,by rw[Dw i hi];exact .v _⟩)
   unfold XU;rw[hlen];exact this
end Go.Proofs.YtjkmahljfblobaaGreatDoor
namespace Go.Proofs.YtjkmahljfblobaaGreatDoor.Pu
open Go.RowKit
inductive R where
 |nil
 |bad
 |a (p:Prop) (r:R)
 |w (p:Prop) (r1:p->R) (r2:¬p->R)
def R.ok:R->Prop
 | .nil=>True
 | .bad=>False
 | .a p r=>p/\r.ok
 | .w p r1 r2=>(∀ h:p,(r1 h).ok)/\(∀ h:¬p,(r2 h).ok)
inductive Tr(P:Program)(K:World->Prop) where
 |nil
 |c {f:FuncId} {args:List E} {jA:E} (h:PC P K f args jA) (t:Tr P K)
 |cf {f:FuncId} {args:List E} {jA:E} (h:J1 P K f args jA) (t:Tr P K)
 |cn {f:FuncId} {args:List E} {nl:Bool} {T:TypeId} {n sz:Nat} {el:Nat->Nat->E} (h:wO P K f args nl T n sz el) (t:Tr P K)
 |cr {f:FuncId} {args:List E} {nl:Bool} {T1 T0:TypeId} {n sz:Nat} {len:Nat->Nat} {el:Nat->Nat->Nat->E} (h:J2 P K f args nl T1 T0 n sz len el) (t:Tr P K)
 |cm {f:FuncId} {T:TypeId} {l l':List E} {args:List E} {jA:E} (h:EI P K f T l l' args jA) (t:Tr P K)
 |g {op:BinOp} {ty:TypeId} {x y:E} {v:Value} (h:rk P op ty x y v) (t:Tr P K)
 |gi {op:BinOp} {ty:TypeId} {x y:E} {v:Value} (h:rk P op ty x y v) (t:Tr P K)
 |m {l:List<|Int×FuncId×List FuncId} {z:Int} {e:E} (h:zT l z=some e) (t:Tr P K)
 |o (d:Nat) {p q:PV} (h:PV.le p q) (t:Tr P K)
 |bo (t:Tr P K)
 |a {p:Prop} (h:p) (t:Tr P K)
 |w (p:Prop) (t1:p->Tr P K) (t2:¬p->Tr P K)
 |s {c:Code} {σ τ:PS} {e:Ex} (h:Sp P K c σ λe' τ'=>e'=e/\τ'=τ) (l t:Tr P K)
 |j (c:Nat) (τ:PS) (tj t:Tr P K)
 |v (d:Nat) {p q:PV} (h:PV.le p q) (t:Tr P K)
 |b (d:Nat) {p q:Bx} (h:Bx.le p q) (t:Tr P K)
 |z (id:Nat) (t:Tr P K)
 |y (s id:Nat) (nl:Bool) (T:TypeId) (sz:Nat) (el:Nat->Nat->E) (t:Tr P K)
 |yf (d off id:Nat) (nl:Bool) (T:TypeId) (sz:Nat) (el:Nat->Nat->E) (t:Tr P K)
 |e (t:Tr P K)
 |k (ts bs:List Nat) (t:Tr P K)
 |u (n:Nat) (t:Tr P K)
 |x (h:False)
 |r {p q:E} (h:E.le p q)
 |rb {p q:Bx} (h:Bx.le p q)
 |rm {p q:Bx} {r₁ s₁:E} (h:Bx.le p q) (k:E.le r₁ s₁)
section
variable {P:Program} {K:World->Prop}
def Gi:List (Nat×PV)->Tr P K->(Tr P K->R)->R
 | [],t,k=>k t
 | (d,q)::l,t,k=>match t with
  | .o d' (p:=p) (q:=q') _ t'=>if Nat.beq d' d then .a (PV.le p q') (Gi l t' k)else .a (PV.le q q) (Gi l t k)
  |t=>.a (PV.le q q)<|Gi l t k
def ES:List (Nat×Bx)->Tr P K->R->R
 | [],_,r=>r
 | (d,q)::l,t,r=>match t with
  | .b d' (p:=p) (q:=q') _ t'=>if Nat.beq d' d then .a (Bx.le p q') (ES l t' r)else .a (Bx.le q q) (ES l t r)
  |t=>.a (Bx.le q q)<|ES l t r
def Ge(σ:PS)(t:Tr P K)(r:R):R:=Gi σ.t t λt=>ES σ.b t r
def Tr.ex:Tr P K->(Tr P K->R)->R
 | .nil,fin=>fin .nil
 | .e t,fin=>fin t
 | @Tr.c _ _ f args jA _ t,fin=>.a (PC P K f args jA)<|t.ex fin
 | @Tr.cf _ _ f args jA _ t,fin=>.a (J1 P K f args jA)<|t.ex fin
 | @Tr.cn _ _ f args nl T n sz el _ t,fin=>.a (wO P K f args nl T n sz el)<|t.ex fin
 | @Tr.cr _ _ f args nl T1 T0 n sz len el _ t,fin=>.a (J2 P K f args nl T1 T0 n sz len el)<|t.ex fin
 | @Tr.cm _ _ f T l l' args jA _ t,fin=>.a (EI P K f T l l' args jA)<|t.ex fin
 | @Tr.g _ _ op₁ ty₁ xe₁ ye₁ ve₁ _ t,fin=>.a (rk P op₁ ty₁ xe₁ ye₁ ve₁)<|t.ex fin
 | @Tr.gi _ _ op₁ ty₁ xe₁ ye₁ ve₁ _ t,fin=>.a (rk P op₁ ty₁ xe₁ ye₁ ve₁)<|t.ex fin
 | @Tr.m _ _ l₁ z₁ e₁ _ t,fin=>.a (zT l₁ z₁=some e₁)<|t.ex fin
 | .o _ (p:=p) (q:=q) _ t,fin=>.a (PV.le p q)<|t.ex fin
 | .bo t,fin=>.a True<|t.ex fin
 | .a (p:=p) _ t,fin=>.a p<|t.ex fin
 | .w p t1 t2,fin=>.w p (λh=>(t1 h).ex fin) λh=>(t2 h).ex fin
 | @Tr.s _ _ c₁ σ τ e₁ _ l t,fin=>Ge σ l<|.a (Sp P K c₁ σ λe' τ'=>e'=e₁/\τ'=τ)<|t.ex fin
 | .j _ τ tj t,fin=>.a (tj.ex λt=>Ge τ t .nil).ok<|t.ex fin
 | .v _ (p:=p) (q:=q) _ t,fin=>.a (PV.le p q)<|t.ex fin
 | .b _ _ t,fin=>t.ex fin
 | .z _ t,fin=>t.ex fin
 | .y _ _ _ _ _ _ t,fin=>t.ex fin
 | .yf _ _ _ _ _ _ _ t,fin=>t.ex fin
 | .k _ _ t,fin=>t.ex fin
 | .u _ t,fin=>t.ex fin
 | .x _,fin=>.a False .nil
 | .r (p:=p) (q:=q) _,fin=>.a (E.le p q) .nil
 | .rb (p:=p) (q:=q) _,fin=>.a (Bx.le p q) .nil
 | @Tr.rm _ _ p q r₁ s₁ _ _,fin=>.a (Bx.le p q)<|.a (E.le r₁ s₁) .nil
def ao0{l:List<|Nat×PV}{t:Tr P K}{k:Tr P K->R}(hk:∀ t,(k t).ok):(Gi l t k).ok:=by
 induction l generalizing t with
 |nil=>exact hk t
 |cons x l ih=>
  obtain⟨d,q⟩:=x;cases t with
  |o d' h t'=>
   simp only[Gi];split
   .exact ⟨h,ih⟩
   .exact ⟨PV.le.refl q,ih⟩
  |_=>exact⟨PV.le.refl q,ih⟩
def ade{l:List<|Nat×Bx}{t:Tr P K}{r:R}(hr:r.ok):(ES l t r).ok:=by
 induction l generalizing t with
 |nil=>exact hr
 |cons x l ih=>
  obtain⟨d,q⟩:=x;cases t with
  |b d' h t'=>
   simp only[ES];split
   .exact ⟨h,ih⟩
   .exact ⟨Bx.le.refl q,ih⟩
  |_=>exact⟨Bx.le.refl q,ih⟩
def R0{σ:PS}{t:Tr P K}{r:R}(hr:r.ok):(Ge σ t r).ok:=ao0 λ_=>ade hr
def Tr.Ov{fin:Tr P K->R}(hf:∀ t,(fin t).ok)(t:Tr P K):(t.ex fin).ok:=by
 induction t generalizing fin with
 |nil=>exact hf _
 |e t=>exact hf _
 |c h t ih=>exact⟨h,ih hf⟩
 |cf h t ih=>exact⟨h,ih hf⟩
 |cn h t ih=>exact⟨h,ih hf⟩
 |cr h t ih=>exact⟨h,ih hf⟩
 |cm h t ih=>exact⟨h,ih hf⟩
 |g h t ih=>exact⟨h,ih hf⟩
 |gi h t ih=>exact⟨h,ih hf⟩
 |m h t ih=>exact⟨h,ih hf⟩
 |o d h t ih=>exact⟨h,ih hf⟩
 |bo t ih=>exact⟨trivial,ih hf⟩
 |a h t ih=>exact⟨h,ih hf⟩
 |w p t1 t2 Iy Iz=>exact⟨λh=>Iy h hf,λh=>Iz h hf⟩
 |s h l t ihl P0=>exact R0 ⟨h,P0 hf⟩
 |j c τ tj t ihj P0=>exact⟨ihj λ_=>R0 trivial,P0 hf⟩
 |v d h t ih=>exact⟨h,ih hf⟩
 |b d h t ih=>exact ih hf
 |z id t ih=>exact ih hf
 |y s id nl T sz el t ih=>exact ih hf
 |yf d off id nl T sz el t ih=>exact ih hf
 |k ts bs t ih=>exact ih hf
 |u n t ih=>exact ih hf
 |x h=>exact h.elim
 |r h=>exact⟨h,trivial⟩
 |rb h=>exact⟨h,trivial⟩
 |rm h k=>exact⟨h,k,trivial⟩
def R7(υ:PS):List (Nat×PV)->R->R
 | [],r=>r
 | (d,q)::l,r=>.a (PV.le (υ.get d) q)<|R7 υ l r
def Kl(υ:PS):List (Nat×Bx)->R->R
 | [],r=>r
 | (d,q)::l,r=>match υ.bo d with
  |some b=>.a (Bx.le b q)<|Kl υ l r
  |none=>.bad
def MJ(υ σ:PS)(r:R):R:=if Nat.beq υ.n σ.n&&(σ.b.all (λx=>x.2.nl)||(σ.nl==υ.nl))&&Jv σ then R7 υ σ.t (Kl υ σ.b r)else .bad
def Tr.tail:Tr P K->Tr P K
 | .c _ t=>t
 | .cf _ t=>t
 | .cn _ t=>t
 | .cr _ t=>t
 | .cm _ t=>t
 | .g _ t=>t
 | .gi _ t=>t
 | .m _ t=>t
 | .bo t=>t
 | .a _ t=>t
 |_=>.nil
def Q2:List Prop->Tr P K->(Tr P K->R)->R
 | [],t,k=>k t
 |p::l,t,k=>.a p<|Q2 l t.tail k
def Ue(d:Option Tmp)(t:Tr P K):qw:=match d with
 |some d=>match t with
  | @Tr.c _ _ _ _ jA _ _=>{ cl:=[(d,jA)] }
  | @Tr.cf _ _ _ _ jA _ _=>{ cl:=[(d,jA)] }
  | @Tr.g _ _ _ _ _ _ ve₁ _ _=>{ cl:=[(d,.v ve₁)] }
  | @Tr.gi _ _ _ _ _ _ ve₁ _ _=>{ gi:=[(d,ve₁)] }
  | @Tr.m _ _ _ _ e₁ _ _=>{ cl:=[(d,e₁)] }
  | @Tr.cn _ _ _ _ nl T n sz el _ _=>{ nw:=[(d,.row nl T n sz el)] }
  | @Tr.cr _ _ _ _ nl T1 T0 n sz len el _ _=>{ nw:=[(d,.iT nl T1 T0 n sz len el none)] }
  | @Tr.cm _ _ _ _ _ l' _ jA _ _=>{ mu:=[(d,(l',jA))] }
  | .bo _=>{ nw:=[(d,.cells 0 [])] }
  |_=>{}
 |none=>{}
def Jm:Tr P K->(Tr P K->R)->R
 | .w p t1 t2,k=>.w p (λh=>Jm (t1 h) k) λh=>Jm (t2 h) k
 | .x _,_=>.a False .nil
 |t,k=>k t
def Rd(o:Oper)(u:ko)(t:Tr P K)(k:ko->Tr P K->R):R:=match o.dst,t with
 |some d,.o d' (q:=q) _ t'=>if Nat.beq d' d then .a (PV.le u.r q) (k { u with r:=q,jz:=PV.le u.r q::u.jz } t')else k u t
 |_,t=>k u t
def Q8(T:List TI)(ij:Array Oper)(σ:PS)(o:Oper)(t:Tr P K)(k:ko->Tr P K->R):R:=
 if xt σ o.dst then match BG ij σ o with
  |some false=>k { r:=.e<|.v<|.tuple #[],rd:=(looks ij o).map σ.get } t
  |some true=>Jm t λt=>match jG P K T (Ue o.dst t) σ o with
   |some u=>Q2 u.jz t λt=>Jm t λt=>Rd o u t λu t=>k { u with rd:=(looks ij o).map σ.get,hb:=σ.pr u.f,ob:=σ.yL u.f } t
   |none=>.bad
  |none=>.bad
 else .bad
def Rb(T:List TI)(ij:Array Oper)(k:List (Oper×ko)->PS->Tr P K->R):List Oper->List (Oper×ko)->PS->Tr P K->R
 | [],us,σ,t=>k us σ t
 |o::l,us,σ,t=>Q8 T ij σ o t λu t'=>Rb T ij k l ((o,u)::us) (σ.app o.dst u) t'
def rW(c:Bool):Tr P K->PS->(Tr P K->PS->R)->R
 | .w p t1 t2,σ,k=>.w p (λh=>rW c (t1 h) σ k) λh=>rW c (t2 h) σ k
 | .x _,_,_=>.a False .nil
 | .v d (q:=q) _ t,σ,k=>match q with
  | .e x=>if xt σ (some d)then .a (PV.le (σ.get d)<|.e x) (rW c t (σ.put (some d)<|.e x) k)else .bad
  |_=>.bad
 | .k ts bs t,σ,k=>if c then k (.k ts bs t) σ else if Jv (σ.cut ts bs)then rW c t (σ.cut ts bs) k else .bad
 | .z id t,σ,k=>if c then k (.z id t) σ else match σ.bo id with
  |some b=>match b.as with
   |some e=>rW c t (σ.vR id e) k
   |none=>.bad
  |none=>.bad
 | .y s id nl T sz el t,σ,k=>if c then k (.y s id nl T sz el t) σ else match σ.bo id,σ.get s with
  |none,.e (.v<|.slice none 0 0)=>if !σ.nl||nl then rW c t (σ.EL s id<|.row nl T 0 sz el) k else .bad
  |_,_=>.bad
 | .yf d off id nl T sz el t,σ,k=>if c then k (.yf d off id nl T sz el t) σ else match σ.Nu d off id (.row nl T 0 sz el)with
  |some τ=>if !σ.nl||nl then rW c t τ k else .bad
  |none=>.bad
 |t,σ,k=>k t σ
def MF(c:Code)(σ:PS)(t:Tr P K)(k:Ex->PS->Tr P K->R):R:=match t with
 | @Tr.s _ _ _ σ' τ e _ _ t=>MJ σ σ'<|.a (Sp P K c σ' λe' τ'=>e'=e/\τ'=τ)<|k e τ t
 |_=>.bad
def Ex.qW:Ex->Ex->Bool
 | .normal,.normal=>true
 | .ret,.ret=>true
 | .exit a,.exit b=>Nat.beq a b
 |_,_=>false
def Hg(e:Ex)(τ:PS)(e':Ex)(υ:PS)(_:Tr P K):R:=if Ex.qW e' e then MJ υ τ .nil else .bad
def ae9:Operand->Nat
 | .tmp t=>2*t
 |_=>1
def jn(c:Nat)(g:PS->Tr P K->(Ex->PS->Tr P K->R)->R)(σ:PS)(t:Tr P K)(k:Ex->PS->Tr P K->R):R:=match t with
 | .j c' τ tj t'=>if Nat.beq c' c then .a (g σ tj<|Hg .normal τ).ok (k .normal τ t')else g σ t k
 |t=>g σ t k
def Tr.isS:Tr P K->Bool
 | .s ..=>true
 |_=>false
def abX(g f:PS->Tr P K->(Ex->PS->Tr P K->R)->R):Nat->PS->Tr P K->(Ex->PS->Tr P K->R)->R
 | 0,_,_,_=>.bad
 |n+1,σ,t,k=>rW false t σ λt σ=>if t.isS then g σ t k else f σ t λe τ t=>match e with
  | .normal=>abX g f n τ t k
  |e=>k e τ t
def wV(T:List TI):Code->PS->Tr P K->(Ex->PS->Tr P K->R)->R
 | .skip,σ,t,k=>k .normal σ t
 | .region _ ij d,σ,t,k=>Rb T ij (λus τ t=>if !d||F2 ij 0 us.reverse then k .normal τ t else .bad) ij.toList [] σ t
 | .seq a b,σ,t,k=>wV T a σ t λe τ t=>match e with
  | .normal=>wV T b τ t k
  |e=>k e τ t
 | .cond c a b,σ,t,k=>rW true t σ λt σ=>jn (ae9 c) (λσ t k=>rW true t σ λt σ=>match σ.op c with
  | .e (.v<|.bool true)=>wV T a σ t k
  | .e (.v<|.bool false)=>wV T b σ t k
  |_=>.bad) σ t k
 | .block id b,σ,t,k=>rW true t σ λt σ=>jn (2*id+1) (λσ t k=>wV T b σ t λe τ t=>match e with
  | .exit i=>if Nat.beq i id then k .normal τ t else k (.exit i) τ t
  |e=>k e τ t) σ t k
 | .exit id,σ,t,k=>rW false t σ λt σ=>k (.exit id) σ t
 | .ret,σ,t,k=>rW false t σ λt σ=>k .ret σ t
 | .loop b,σ,t,k=>rW false t σ λt σ=>match t with
  | .u n t=>abX (MF<|.loop b) (wV T b) n σ t k
  |t=>MF (.loop b) σ t k
 | .label _,σ,t,k=>k .normal σ t
 | .scope b,σ,t,k=>wV T b σ t k
 |_,_,_,_=>.bad
def ZO{t:Tr P K}{k:Tr P K->R}(h:(Jm t k).ok):∃ t',(k t').ok:=by
 induction t with
 |w p t1 t2 Iy Iz=>
  by_cases hp:p
  .exact Iy hp<|h.1 hp
  .exact Iz hp<|h.2 hp
 |x hf=>exact hf.elim
 |_=>exact⟨_,h⟩
def alC{l:List Prop}{t:Tr P K}{k:Tr P K->R}(h:(Q2 l t k).ok):(∀ q,q ∈ l->q)/\∃ t',(k t').ok:=by
 induction l generalizing t with
 |nil=>exact⟨λq hq=>by simp at hq,t,h⟩
 |cons p l ih=>
  obtain⟨h1,h2⟩:=ih h.2;refine⟨λq hq=>?_,h2⟩;rcases cP.1 hq with hq|hq
  .subst hq;exact h.1
  .exact h1 q hq
variable {T:List TI} {ij:Array Oper} {σ:PS} {o:Oper}
def alX{O:qw}{u:ko}{t:Tr P K}{k:ko->Tr P K->R}(hO:O.ov=[])(hu:jG P K T O σ o=some u)(ho:∀ q,q ∈ u.jz->q)(h:(Rd o u t k).ok):
 ∃ O' u' t',vO P K T O' σ o=some u'/\(∀ q,q ∈ u'.jz->q)/\(k u' t').ok:=by
 have plain:(k u t).ok->∃ O' u' t',vO P K T O' σ o=some u'/\(∀ q,q ∈ u'.jz->q)/\(k u' t').ok:=by
  intro h;refine⟨O,u,t,?_,ho,h⟩;unfold vO;rw[hu,hO];cases o.dst<;>rfl
 unfold Rd at h;split at h
 .rename_i d d' p q hpq t' hd;split at h
  .obtain ⟨h1,h2⟩:=h;refine⟨⟨O.cl,[(d,q)],O.nw,O.gi,O.mu⟩,_,t',?_,λx hx=>?_,h2⟩
   .unfold vO;have he:jG P K T ⟨O.cl,[(d,q)],O.nw,O.gi,O.mu⟩ σ o=jG P K T O σ o:=by cases O;rfl
    rw[he,hu,hd];simp[look]
   .rcases cP.1 hx with hx|hx
    .subst hx;exact h1
    .exact ho x hx
  .exact plain h
 .exact plain h
def alL{t:Tr P K}{k:ko->Tr P K->R}(h:(Q8 T ij σ o t k).ok):∃ u t',(∃ O,rK P K T O ij σ o=some u)/\(∀ q,q ∈ u.jz->q)/\(k u t').ok:=by
 unfold Q8 at h;split at h
 .rename_i hi;split at h
  .rename_i hw;refine⟨_,t,⟨{},?_⟩,λq hq=>by simp at hq,h⟩;unfold rK;rw[aY hi,hw]
  .rename_i hw;obtain⟨t1,h1⟩:=ZO h;split at h1
   .rename_i u hu;obtain⟨ho,t2,h2⟩:=alC h1;obtain⟨t2,h2⟩:=ZO h2;obtain⟨O',u',t3,vh,ho',h3⟩:=alX (by
     unfold Ue;cases o.dst with
     |none=>rfl
     |some d=>cases t1<;>rfl) hu ho h2
    refine⟨{ u' with rd:=(looks ij o).map σ.get,hb:=σ.pr u'.f,ob:=σ.yL u'.f },t3,⟨O',?_⟩,ho',h3⟩;unfold rK;rw[aY hi,hw,vh]
   .exact h1.elim
  .exact h.elim
 .exact h.elim
def alW{k:List (Oper×ko)->PS->Tr P K->R}{l:List Oper}{us:List<|Oper×ko}{t:Tr P K}(h:(Rb T ij k l us σ t).ok):
 ∃ vs τ t',xU P K T ij vs σ τ/\vs.map (·.1)=l/\(∀ x,x ∈ vs->∀ q,q ∈ x.2.jz->q)/\(k (vs.reverse++us) τ t').ok:=by
 induction l generalizing us σ t with
 |nil=>exact⟨[],σ,t,sM.refl σ,rfl,λx hx=>by simp at hx,h⟩
 |cons o l ih=>
  obtain⟨u,t1,h1,h2,h3⟩:=alL h;obtain⟨vs,τ,t',k1,k2,k3,k4⟩:=ih h3;refine⟨(o,u)::vs,τ,t',⟨h1,k1⟩,by simp[k2],λx hx=>?_,by simpa using k4⟩;rcases cP.1 hx with hx|hx
  .subst hx;exact h2
  .exact k3 x hx
def PS.le.set{σ:PS}{d:Nat}{x:E}(hd:xt σ (some d)=true)(h:PV.le (σ.get d)<|.e x):PS.le σ<|σ.put (some d)<|.e x:=λw0 B a w L _ r=>by
 have Hz:d<σ.n:=by simpa[xt,fG]using hd
 refine⟨L,r.hd,by rw[PS.QE];exact r.hs,λt=>?_,λid b hb=>r.hb id b hb,r.hv,r.hn,r.hw,r.hi,r.he,r.hl⟩;rw[PS.OM];by_cases e:d=t
 .subst e;rw[aY rfl];exact h _ _ _ _ _<|r.ht d
 .rw [aX e];exact r.ht t
def Ec{c:Bool}{t:Tr P K}{σ:PS}{k:Tr P K->PS->R}(h:(rW c t σ k).ok):∃ t' τ,PS.le σ τ/\(k t' τ).ok:=by
 induction t generalizing σ with
 |w p t1 t2 Iy Iz=>
  by_cases hp:p
  .exact Iy hp<|h.1 hp
  .exact Iz hp<|h.2 hp
 |k ts bs t ih=>
  simp only[rW]at h;split at h
  .exact ⟨_,σ,PS.le.refl σ,h⟩
  split at h
  .rename_i hr;obtain⟨t',τ,h1,h2⟩:=ih h;exact⟨t',τ,(PS.le.cut ts bs hr).trans h1,h2⟩
  .exact h.elim
 |v d h0 t ih=>
  simp only[rW]at h;split at h
  .rename_i x;split at h
   .rename_i hd;obtain⟨t',τ,h1,h2⟩:=ih h.2;exact⟨t',τ,(PS.le.set hd h.1).trans h1,h2⟩
   .exact h.elim
  .exact h.elim
 |z id t ih=>
  simp only[rW]at h;split at h
  .exact ⟨_,σ,PS.le.refl σ,h⟩
  split at h
  .rename_i b hb;split at h
   .rename_i e he;obtain⟨t',τ,h1,h2⟩:=ih h;exact⟨t',τ,(PS.le.freeze id hb he).trans h1,h2⟩
   .exact h.elim
  .exact h.elim
 |y s id nl T sz el t ih=>
  simp only[rW]at h;split at h
  .exact ⟨_,σ,PS.le.refl σ,h⟩
  split at h
  .rename_i hb hg;split at h
   .rename_i hn;obtain⟨t',τ,h1,h2⟩:=ih h;exact⟨t',τ,(PS.le.acM s id hb hg (λe=>by rw[e]at hn;simpa using hn)).trans h1,h2⟩
   .exact h.elim
  .exact h.elim
 |yf d off id nl T sz el t ih=>
  simp only[rW]at h;split at h
  .exact ⟨_,σ,PS.le.refl σ,h⟩
  split at h
  .rename_i τ0 hb;split at h
   .rename_i hn;obtain⟨t',τ,h1,h2⟩:=ih h;exact⟨t',τ,(PS.le.acN hb (λe=>by rw[e]at hn;simpa using hn)).trans h1,h2⟩
   .exact h.elim
  .exact h.elim
 |x hf=>exact hf.elim
 |_=>exact⟨_,σ,PS.le.refl σ,h⟩
def ao1{υ:PS}{l:List<|Nat×PV}{r:R}(h:(R7 υ l r).ok):yY υ l/\r.ok:=by
 induction l with
 |nil=>exact⟨trivial,h⟩
 |cons x l ih=>obtain⟨d,q⟩:=x;exact⟨⟨h.1,(ih h.2).1⟩,(ih h.2).2⟩
def adD{υ:PS}{l:List<|Nat×Bx}{r:R}(h:(Kl υ l r).ok):xQ υ l/\r.ok:=by
 induction l with
 |nil=>exact⟨trivial,h⟩
 |cons x l ih=>
  obtain⟨d,q⟩:=x;simp only[Kl]at h;split at h
  .rename_i b hb;exact⟨⟨⟨b,hb,h.1⟩,(ih h.2).1⟩,(ih h.2).2⟩
  .exact h.elim
def abj{υ σ:PS}{r:R}(h:(MJ υ σ r).ok):PS.le υ σ/\r.ok:=by
 unfold MJ at h;split at h
 .rename_i hc;simp only[bD,dz,beq_iff_eq]at hc;obtain⟨⟨h1,h2⟩,h3⟩:=hc;obtain⟨h4,h5⟩:=ao1 h;obtain⟨h6,h7⟩:=adD h5;refine⟨?_,h7⟩;rcases h2 with h2|h2
  .exact PS.le.aj0 (ku.1 h1) h2 h3 h4 h6
  .exact PS.le.nY (ku.1 h1) h2 h3 h4 h6
 .exact h.elim
def anR(hT:mw P T){w0:mA}{B:Nat->Prop}{a:Act}{w:World}{L:Lk}(g:Gd P K w0 B){us:List<|Oper×ko}{τ:PS}{Q:Exit->Act->World->Prop}(h:xU P K T ij us σ τ)(ho:∀ x,x ∈ us->∀ q,q ∈ x.2.jz->q)
 (r:jd w0 B σ a w L) (hq:∀ a' w' L',jd w0 B τ a' w' L'->Q .normal a' w'):wpList P ij Q (us.map (·.1)) a w:=by
 induction us generalizing σ a w L with
 |nil=>exact hq a w L<|r.qW h
 |cons x us ih=>
  obtain⟨⟨O,h1⟩,h2⟩:=h;rw[eI];unfold wpList;rcases Vl hT g r h1 (ho x aH) (wpList P ij Q (us.map (·.1))) Q (λa' w' L' hr=>ih h2 (λy hy=>ho y<|by simp[hy]) hr)with⟨p1,p2⟩|⟨p1,p2⟩
  .rw [aY p1];exact .inl p2
  .rw [aX<|by rw[p1];simp];exact p2
def amX(hT:mw P T)(hm:P.follows .mixedOrders=true){w0:mA}{B:Nat->Prop}{a:Act}{w:World}{L:Lk}(g:Gd P K w0 B){id:Nat}{draw:Bool}{us:List<|Oper×ko}{τ:PS}{Q:Exit->Act->World->Prop}
 (h:xU P K T ij us σ τ) (hl:us.map (·.1)=ij.toList) (ho:∀ x,x ∈ us->∀ q,q ∈ x.2.jz->q) (hp:(!draw||F2 ij 0 us)=true) (r:jd w0 B σ a w L)
 (hq:∀ a' w' L',jd w0 B τ a' w' L'->Q .normal a' w'):(Code.region id ij draw).wp P Q a w:=by
 cases draw with
 |false=>exact wp_region_list<|by rw[<-hl];exact anR hT g h ho r hq
 |true=>
  obtain⟨R,r1,r2,r3⟩:=aj8 hl (by simpa using hp);refine wp_region_any hm (acT hT g hq ij.size (Array.replicate ij.size false) R σ a w.drew L r2 aH r3 (λx hx=>ho x.2 ?_) (by rw[r1];exact h) r.drew);rw[<-r1];exact cC.2 ⟨x,hx,rfl⟩
def abg{c:Code}{t:Tr P K}{k:Ex->PS->Tr P K->R}(h:(MF c σ t k).ok):Sp P K c σ (λe τ=>∃ t',(k e τ t').ok):=by
 unfold MF at h;split at h
 .obtain ⟨h1,h2,h3⟩:=abj h;exact Sp.pre h1 (h2.mono λe τ ⟨q1,q2⟩=>by subst q1 q2;exact⟨_,h3⟩)
 .exact h.elim
def Ex.anS{a b:Ex}(h:Ex.qW a b=true):a=b:=by
 cases a<;>cases b<;>first|rfl|(cases h;done)|exact congrArg Ex.exit<|ku.1 h
def Vb{e e':Ex}{τ υ:PS}{t:Tr P K}(h:(Hg e τ e' υ t).ok):e'=e/\PS.le υ τ:=by
 unfold Hg at h;split at h
 .rename_i he;exact⟨Ex.anS he,(abj h).1⟩
 .exact h.elim
def Ya{c:Code}{cb:Nat}{g:PS->Tr P K->(Ex->PS->Tr P K->R)->R}(hg:∀ σ t k,(g σ t k).ok->Sp P K c σ (λe τ=>∃ t',(k e τ t').ok)){σ:PS}{t:Tr P K}{k:Ex->PS->Tr P K->R}(h:(jn cb g σ t k).ok):
 Sp P K c σ (λe τ=>∃ t',(k e τ t').ok):=by
 unfold jn at h;split at h
 .rename_i c' τ tj t;split at h
  .refine (hg _ _ _ h.1).post λe υ ⟨t',ht⟩=>?_
   obtain⟨he,hl⟩:=Vb ht;exact⟨τ,hl,t,by rw[he];exact h.2⟩
  .exact hg _ _ _ h
 .exact hg _ _ _ h
def tY(P:Program)(K:World->Prop)(b:Code)(σ:PS)(Q:Ex->PS->Prop):Prop:=
 ∀ (w0:mA) (B:Nat->Prop) (a:Act) (w:World) (L:Lk),Gd P K w0 B->jd w0 B σ a w L->∀ bf k cs,
  ∃ e a' w',(∃ ex τ L',e=Ex.to ex/\Q ex τ/\jd w0 B τ a' w' L')/\Arrives P (lone (bf.at a<|.code b :: .inLoop b::k) cs w) bf k cs e a' w'
def tY.loop{b:Code}{σ:PS}{Q:Ex->PS->Prop}(h:tY P K b σ Q):Sp P K (.loop b) σ Q:=by
 intro w0 B a w L g r bf k cs;obtain⟨e,a',w',hq,um⟩:=h w0 B a w L g r bf k cs;exact⟨e,a',w',hq,.of_steps (.one step_loop) um⟩
def tY.pre{b:Code}{σ τ:PS}{Q:Ex->PS->Prop}(h:PS.le σ τ)(k:tY P K b τ Q):tY P K b σ Q:=λw0 B a w L g r=>
 let⟨L',r'⟩:=h w0 B a w L (λb hb=>(g.hB b hb).1) r;k w0 B a w L' g r'
def tY.step{b:Code}{σ:PS}{Q:Ex->PS->Prop}(h:Sp P K b σ λe τ=>(e = .normal/\tY P K b τ Q)\/(e ≠ .normal/\Q e τ)):tY P K b σ Q:=by
 intro w0 B a w L g r bf k cs;obtain⟨e,a₁,w₁,⟨ex,υ,L2,rfl,hq,qb⟩,um⟩:=h w0 B a w L g r bf (.inLoop b::k) cs;rcases hq with⟨rfl,hs⟩|⟨jD,hq⟩
 .obtain ⟨e₂,a₂,w₂,PM,Pb⟩:=hs w0 B a₁ w₁ L2 g qb bf k cs;exact⟨e₂,a₂,w₂,PM,.of_steps (Steps.trans um<|.one step_inLoop) Pb⟩
 .cases ex with
  |normal=>exact absurd rfl jD
  |exit i=>exact⟨_,a₁,w₁,⟨.exit i,υ,L2,rfl,hq,qb⟩,.pass (x:=.inLoop b) rfl (λ_ _=>.inl<|by simp[Ex.to]) um⟩
  |ret=>exact⟨_,a₁,w₁,⟨.ret,υ,L2,rfl,hq,qb⟩,.pass (x:=.inLoop b) rfl (λ_ _=>.inl<|by simp[Ex.to]) um⟩
def Ox{id : Nat} : ∀ {k k' : List Item},exitTo id k=some k'->k'.length<=k.length
  | [],_,h => by simp[exitTo]at h
  |x::k,k',h => by
    cases x
    all_goals
      simp only[exitTo]at h
      first
        | (have := Ox h;simp only[cI];omega)
        | (split at h
           . cases h;simp
           . have := Ox h;simp only[cI];omega)
def Steps.NA{m m1 m':Machine}(hs:step P m = .next m1)(jD:m≠m')(h:Steps P m m'):Steps P m1 m':=by
 obtain⟨n,hn⟩:=h;cases n with
 |zero=>simp only[runN,Stepped.next.injEq]at hn;exact absurd hn jD
 |succ n=>exact⟨n,by simpa only[runN,hs]using hn⟩
def tY.alD{b:Code}{σ:PS}{Q:Ex->PS->Prop}(h:Sp P K (.loop b) σ Q):tY P K b σ Q:=by
 intro w0 B a w L g r bf k cs;obtain⟨e,a',w',⟨ex,τ,L',rfl,hq,hr⟩,um⟩:=h w0 B a w L g r bf k cs;have todo:∀ (f g:Frame) (w w':World),lone f cs w=lone g cs w'->f.todo=g.todo:=λf g w w' e=>by
  have e1:=congrArg Machine.gs e;simp only[lone,Array.mk.injEq,List.cons.injEq,fM]at e1;injection e1 with e2;rw[e2]
 have ne:∀ (a₁:Act) (k₁:List Item) (w₁:World),k₁.length<=k.length->lone (bf.at a<|.code (.loop b)::k) cs w≠lone (bf.at a₁ k₁) cs w₁:=λa₁ k₁ w₁ hk e=>by
  have:=congrArg List.length<|todo _ _ _ _ e;simp[Frame.at]at this;omega
 refine⟨_,a',w',⟨ex,τ,L',rfl,hq,hr⟩,?_⟩;cases ex with
 |normal=>exact Steps.NA step_loop (ne _ _ _<|a7 _) um
 |exit i=>exact λk' hk=>Steps.NA step_loop (ne _ _ _<|Ox hk)<|um k' hk
 |ret=>
  obtain⟨td,hs⟩:=um;refine⟨td,Steps.NA step_loop (λe=>?_) hs⟩;have e1:=congrArg Machine.gs e;simp only[lone,Array.mk.injEq,List.cons.injEq,fM]at e1;injection e1 with e2;have e3:=congrArg Frame.mode e2;simp[Frame.at]at e3
section
variable(hT:mw P T)(hm:P.follows .mixedOrders=true){c:Code}
def On{σ:PS}{t:Tr P K}{k:Ex->PS->Tr P K->R}(h:(wV T c σ t k).ok):Sp P K c σ (λe τ=>∃ t',(k e τ t').ok):=by
 induction c generalizing σ t k with
 |skip=>exact λw0 B a w L g r=>wp_skip ⟨.normal,_,L,rfl,⟨t,h⟩,r⟩
 |region id ij d=>
  obtain⟨vs,τ,t',h1,h2,h3,h4⟩:=alW h;split at h4
  .rename_i hp;simp only[List.append_nil,List.reverse_reverse]at hp;exact λw0 B a w L g r=>amX hT hm g h1 h2 h3 hp r λa' w' L' hr=>⟨.normal,τ,L',rfl,⟨t',h4⟩,hr⟩
  .exact h4.elim
 |seq x y P3 P4=>
  intro w0 B a w L g r;refine wp_seq<|Code.wp_mono ?_ (P3 h w0 B a w L g r);rintro ex a' w' ⟨e1,τ1,L',rfl,⟨t',ht⟩,hr⟩;cases e1 with
  |normal=>exact P4 ht w0 B a' w' L' g hr
  |exit i=>exact⟨.exit i,τ1,L',rfl,⟨t',ht⟩,hr⟩
  |ret=>exact⟨.ret,τ1,L',rfl,⟨t',ht⟩,hr⟩
 |cond c x y P3 P4=>
  obtain⟨t1,τ,hle,h1⟩:=Ec h;refine Sp.pre hle<|Ya (λσ t k h=>?_) h1;obtain⟨t1,τ,hle,h1⟩:=Ec h;refine Sp.pre hle ?_;split at h1
  .rename_i hc;intro w0 B a w L g r;have hv:=r.op c;rw[hc]at hv;exact wp_cond_true (iI.kG hv)<|P3 h1 w0 B a w L g r
  .rename_i hc;intro w0 B a w L g r;have hv:=r.op c;rw[hc]at hv;exact wp_cond_false (iI.kG hv)<|P4 h1 w0 B a w L g r
  .exact h1.elim
 |block id b ih=>
  obtain⟨t1,τ,hle,h1⟩:=Ec h;refine Sp.pre hle<|Ya (λσ t k h=>?_) h1;intro w0 B a w L g r;refine wp_block<|Code.wp_mono ?_ (ih h w0 B a w L g r);rintro ex a' w' ⟨e1,τ1,L',rfl,⟨t',ht⟩,hr⟩;cases e1 with
  |normal=>exact⟨.normal,_,L',rfl,⟨t',ht⟩,hr⟩
  |ret=>exact⟨.ret,_,L',rfl,⟨t',ht⟩,hr⟩
  |exit i=>
   simp only at ht;show Exit.inBlock id _ (.exit i) a' w';split at ht
   .rename_i hi;have hi:=ku.1 hi;subst hi;simp only[Exit.inBlock,bA];exact⟨.normal,_,L',rfl,⟨t',ht⟩,hr⟩
   .rename_i hi;have hi:i≠id:=λe=>hi (ku.2 e)
    simp only[Exit.inBlock,hi,bh];exact⟨.exit i,_,L',rfl,⟨t',ht⟩,hr⟩
 |label l=>exact λw0 B a w L g r=>wp_label ⟨.normal,_,L,rfl,⟨t,h⟩,r⟩
 |scope b ih=>
  intro w0 B a w L g r;refine wp_scope_straight<|Code.wp_mono ?_ (ih h w0 B a w L g r);rintro ex a' w' ⟨e1,τ1,L',rfl,⟨t',ht⟩,hr⟩;cases e1 with
  |normal=>exact⟨.normal,τ1,L',rfl,⟨t',ht⟩,hr⟩
  |ret=>exact⟨.ret,τ1,L',rfl,⟨t',ht⟩,hr⟩
  |exit i=>exact⟨.exit i,τ1,L',rfl,⟨t',ht⟩,hr⟩
 |exit id=>
  obtain⟨t1,τ,hle,h1⟩:=Ec h;exact Sp.pre hle λw0 B a w L g r=>wp_exit ⟨.exit id,_,L,rfl,⟨t1,h1⟩,r⟩
 |ret=>
  obtain⟨t1,τ,hle,h1⟩:=Ec h;exact Sp.pre hle λw0 B a w L g r=>wp_ret ⟨.ret,_,L,rfl,⟨t1,h1⟩,r⟩
 |loop b ih=>
  obtain⟨t1,τ,hle,h1⟩:=Ec h;refine Sp.pre hle ?_;split at h1
  .rename_i n t;clear hle h;refine tY.loop ?_
   induction n generalizing τ t with
   |zero=>exact h1.elim
   |succ n ihn=>
    obtain⟨t2,τ2,hle,h1⟩:=Ec h1;split at h1
    .exact tY.pre hle<|tY.alD<|abg h1
    refine tY.pre hle<|tY.step<|(ih h1).mono λe υ ⟨t',ht⟩=>?_;cases e with
    |normal=>exact .inl ⟨rfl,ihn _ _ ht⟩
    |exit i=>exact .inr ⟨aH,t',ht⟩
    |ret=>exact .inr ⟨aH,t',ht⟩
  .exact abg h1
 |_=>exact h.elim
def Sp.tr{σ τ:PS}{e:Ex}(t:Tr P K)(h:wV T c σ t (Hg e τ)=t.ex λt=>Ge τ t .nil):
 Sp P K c σ (λe' τ'=>e'=e/\τ'=τ):=by
 have hk:=Tr.Ov (fin:=λt=>Ge τ t .nil) (λt=>R0 trivial) t;rw[<-h]at hk;refine(On hT hm hk).post λe' υ ⟨t',ht⟩=>?_
 obtain⟨he,hl⟩:=Vb ht;exact⟨τ,hl,he,rfl⟩
end
def VB(T:List TI)(fn:Func)(jA:E)(e:Ex)(τ:PS)(_:Tr P K):R:=match e with
 | .exit _=>.bad
 |_=>match Mq T fn τ with
  |some r=>.a (E.le r jA) .nil
  |none=>.bad
def Ju(T:List TI)(fn:Func)(nl:Bool)(args:List E)(jA:E)(t:Tr P K):R:=match fn.body with
 |some c=>if Nat.ble args.length fn.ntmps then wV T c (Cs fn nl args) t (VB T fn jA)else .bad
 |none=>.bad
def PC.Sc(hT:mw P T)(hm:P.follows .mixedOrders=true)(hp:∀ w w',K w->Below w.heap.size w w'->K w'){f:FuncId}{fn:Func}{args:List E}{jA:E}(yp:∀ (vs:Array Value) (w:World),(callFunc f vs).run P w = .ok (.enter f vs) w)
 (hf:P.funcs[f]? = some fn) (nl:Bool) (t:Tr P K) (h:Ju T fn nl args jA t=t.ex λ_=>.a (E.le jA jA) .nil):PC P K f args jA:=by
 have hk:=Tr.Ov (fin:=λ_=>.a (E.le jA jA) .nil) (λt=>⟨E.le.refl jA,trivial⟩) t;rw[<-h]at hk;unfold Ju at hk;split at hk
 .rename_i c hb;split at hk
  .rename_i hn;refine PC.QB hT hm hp yp hf hb (cE hn) nl<|(On hT hm hk).mono λe τ ⟨t',ht⟩=>?_;unfold VB at ht;split at ht
   .exact ht.elim
   .rename_i jD;split at ht
    .rename_i r hr;refine⟨?_,r,hr,ht.1⟩;cases e with
     |normal=>exact .inr rfl
     |ret=>exact .inl rfl
     |exit i=>exact absurd rfl (jD i)
    .exact ht.elim
  .exact hk.elim
 .exact hk.elim
def VA(fn:Func)(b:Bx)(e:Ex)(τ:PS)(_:Tr P K):R:=match e with
 | .exit _=>.bad
 |_=>match fn.results.toList with
  | [.tmp t]=>match τ.get t with
   | .own id=>match τ.bo id with
    |some c=>.a (Bx.le c b) .nil
    |none=>.bad
   |_=>.bad
  |_=>.bad
def Ru(T:List TI)(fn:Func)(args:List E)(b:Bx)(t:Tr P K):R:=match fn.body with
 |some c=>if Nat.ble args.length fn.ntmps then wV T c (Cs fn true args) t (VA fn b)else .bad
 |none=>.bad
def wO.Sc(hT:mw P T)(hm:P.follows .mixedOrders=true)(hp:∀ w w',K w->Below w.heap.size w w'->K w'){f:FuncId}{fn:Func}{args:List E}{nl:Bool}{T0:TypeId}{n sz:Nat}{el:Nat->Nat->E}(yp:∀ (vs:Array Value) (w:World),(callFunc f vs).run P w = .ok (.enter f vs) w)
 (hf:P.funcs[f]? = some fn) (t:Tr P K) (h:Ru T fn args (.row nl T0 n sz el) t=t.ex λ_=>.a (Bx.le (.row nl T0 n sz el)<|.row nl T0 n sz el) .nil):wO P K f args nl T0 n sz el:=by
 have hk:=Tr.Ov (fin:=λ_=>.a (Bx.le (.row nl T0 n sz el)<|.row nl T0 n sz el) .nil) (λt=>⟨Bx.le.refl _,trivial⟩) t;rw[<-h]at hk;unfold Ru at hk;split at hk
 .rename_i c hb;split at hk
  .rename_i hn;refine wO.QB hT hm hp yp hf hb (cE hn) true<|(On hT hm hk).mono λe τ ⟨t',ht⟩=>?_;unfold VA at ht;split at ht
   .exact ht.elim
   .rename_i jD;split at ht
    .rename_i t0 hr;split at ht
     .rename_i id hg;split at ht
      .rename_i c' hc;refine⟨?_,t0,id,c',hr,hg,hc,λbs br L w hk=>ht.1.2 _ _ _ _ _ hk⟩;cases e with
       |normal=>exact .inr rfl
       |ret=>exact .inl rfl
       |exit i=>exact absurd rfl (jD i)
      .exact ht.elim
     .exact ht.elim
    .exact ht.elim
  .exact hk.elim
 .exact hk.elim
def Sp.jX{b:Code}{e:Ex}{τ:PS}(f:Nat->PS)(lo hi:Nat)(h0:lo<=hi)(go:∀ x,(lo<=x/\x<=hi)->x<hi->Sp P K b (f x) (λe' υ=>e' = .normal/\υ=f (x+1)))
 (out:(lo<=hi/\hi<=hi)->Sp P K b (f hi) (λe' υ=>e'=e/\υ=τ)) (he:e ≠ .normal):Sp P K (.loop b) (f lo) λe' υ=>e'=e/\υ=τ:=by
 refine Sp.fam f (λx=>lo<=x/\x<=hi) (λx=>hi-x) (λx hx=>?_) lo ⟨a7 _,h0⟩<|PS.le.refl _;rcases ark hx.2 with iE|heq
 .exact Sp.ahe (x+1) (go x hx iE) ⟨aC,aC⟩ aC<|PS.le.refl _
 .subst heq;exact Sp.ahf (out hx) he<|PS.le.refl _
def iD(z:Int)(h:-9223372036854775808<=z/\z<=9223372036854775807:=by omega):Tr P K->Tr P K:=.a (p:=lJ .i64 z) h
def El(z:Int)(h:0<=z/\z<=18446744073709551615:=by omega):Tr P K->Tr P K:=.a (p:=lJ .u64 z) h
def iX(z:Int)(n:Nat)(h:0<=z/\z<n:=by omega):Tr P K->Tr P K:=.a h
def tB(d:Nat){a b:Bool}(h:a=b):Tr P K->Tr P K:=.o d<|PV.le.bool h
def ah(d:Nat)(a:Bool)(h:a=true):Tr P K->Tr P K:=tB d h
def ai(d:Nat)(a:Bool)(h:a=false):Tr P K->Tr P K:=tB d h
def tT(d:Nat)(p:Prop)[Decidable p](h:p):Tr P K->Tr P K:=.o d<|PV.le.bool<|aZ h
def tF(d:Nat)(p:Prop)[Decidable p](h:¬p):Tr P K->Tr P K:=.o d<|PV.le.bool<|a6 h
def rQ(p q:E)(h:p=q):Tr P K:=.r<|E.le.jP h
def rR(q:E){p:E}(h:E.le p q):Tr P K:=.r h
def ae(l:List<|Tr P K->Tr P K)(t:Tr P K):Tr P K:=l.foldr (λf t=>f t) t
def af(l:List<|Tr P K->Tr P K):Tr P K:=ae l .nil
end
end Go.Proofs.YtjkmahljfblobaaGreatDoor.Pu
namespace Go.Proofs.YtjkmahljfblobaaGreatDoor
open Go.RowKit Fp Pu
def tr(nl:Bool){f:FuncId}{fn:Func}{args:List E}{jA:E}(yp:∀ (vs:Array Value) (w:World),(callFunc f vs).run prog w = .ok (.enter f vs) w)
 (hf:prog.funcs[f]? = some fn) (t:Tr prog Tb) (h:Ju TT fn nl args jA t=t.ex λ_=>.a (E.le jA jA) .nil):ic f args jA:=
 PC.Sc CW mixed SR yp hf nl t h
def ag(args:List E){f:FuncId}{ko:E}(h:ic f args ko):Tr prog Tb->Tr prog Tb:=.c h
def ak{f:FuncId}{fn:Func}{args:List E}{jA:E}(yp:∀ (vs:Array Value) (w:World),(callFunc f vs).run prog w = .ok (.enter f vs) w)
 (hf:prog.funcs[f]? = some fn) (t:Tr prog Tb) (h:Ju TT fn true args jA t=t.ex λ_=>.a (E.le jA jA) .nil:=by kernel_rfl):ic f args jA:=tr true yp hf t h
def an{f:FuncId}{fn:Func}{args:List E}{jA:E}(yp:∀ (vs:Array Value) (w:World),(callFunc f vs).run prog w = .ok (.enter f vs) w)
 (hf:prog.funcs[f]? = some fn) (t:Tr prog Tb) (h:Ju TT fn false args jA t=t.ex λ_=>.a (E.le jA jA) .nil:=by kernel_rfl):ic f args jA:=tr false yp hf t h
noncomputable def KV(f:FuncId):Func:=(prog.funcs[f]?).getD default
noncomputable def FX(f:FuncId):Bool:=match prog.funcs[f]? with
 |some n=>!(n.name == "runtime.NumGoroutine")&&n.body.isSome
 |none=>false
section
variable{f:FuncId}(h:FX f=true)
def Q4:prog.funcs[f]? = some (KV f):=by
 unfold FX at h;unfold KV;cases e:prog.funcs[f]? with
 |none=>rw[e]at h;cases h
 |some n=>rfl
def ZA(vs:Array Value)(w:World):(callFunc f vs).run prog w = .ok (.enter f vs) w:=by
 have e:=Q4 h;unfold FX at h;rw[e]at h;simp at h;obtain⟨h1,h2⟩:=h;obtain⟨c,hc⟩:=gz.1 h2;simp[callFunc,e,h1,hc]
end
section
variable{f:FuncId}{args:List E}{jA:E}(t:Tr prog Tb)
def iy(h:(FX f,Ju TT (KV f) true args jA t)=(true,t.ex λ_=>.a (E.le jA jA) .nil):=by(kernel_rfl)):ic f args jA:=
 tr true (ZA (fV h).1) (Q4 (fV h).1) t (fV h).2
def sH(h:(FX f,Ju TT (KV f) false args jA t)=(true,t.ex λ_=>.a (E.le jA jA) .nil):=by(kernel_rfl)):ic f args jA:=
 tr false (ZA (fV h).1) (Q4 (fV h).1) t (fV h).2
end
def iS{c:Code}{σ τ:PS}{e:Ex}(t:Tr prog Tb)(h:wV TT c σ t (Hg e τ)=t.ex λt=>Ge τ t .nil):
 Sp prog Tb c σ (λe' τ'=>e'=e/\τ'=τ):=Sp.tr CW mixed t h
abbrev jW(k:Nat)(fn:Func)(σ:PS)(e:Ex)(τ:PS):Prop:=Sp prog Tb (.loop<|ad0 k fn) σ λe' τ'=>e'=e/\τ'=τ
end Go.Proofs.YtjkmahljfblobaaGreatDoor
namespace Go.Proofs.YtjkmahljfblobaaGreatDoor.Fp
section
variable {a b:Dy} {k:Int}
def YH(ha:a.mi)(hb:b.mi):(jg a b).mi:=by unfold jg;split;exact hb;exact ha
def J6(ha:a.mi):(my a).mi:=by
 rcases ha with⟨h1,_,h3⟩|h1
 .exact .inl ⟨h1,rfl,h3⟩
 .exact .inr h1
end
section
variable{m gm p:Nat}{e ge K:Int}(hp:1<=p)(hg:iq gm<=p)(sA:-16384<=ge)(k1:K<=e)(k2:K<=ge)
def aik
 (h:gm*2^(ge-K).toNat<=m*2^(e-K).toNat):gm*2^(ge-K).toNat<=kV m e false p false*2^(e+jJ m e p-K).toNat:=by
 have hq:kV m e false p false=m/2^jJ m e p:=by unfold kV;simp
 rw[hq];have hm:=cL m<|2^jJ m e p;have hr:=bJ m<|bn (n:=jJ m e p) (aE:0<2);obtain⟨k,hk⟩:∃ k,k=jJ m e p:=⟨_,rfl⟩
 rw[<-hk]at hm hr ⊢;have e1:(e+(k:Int)-K).toNat=k+(e-K).toNat:= aC ;rw[e1,bj];generalize hE:2^(e-K).toNat=E at *
 have K1:0<E:=by rw[<-hE];exact bn aE 
 have hmE:m*E<(m/2^k+1)*(2^k*E):=by
  rw[<-bB];refine dg ?_ K1;rw[bL,bN,bI];omega
 by_cases hc:e+k<=ge
 .
  have e2:(ge-K).toNat=(ge-(e+k)).toNat+(k+(e-K).toNat):= aC ;rw[e2,bj,bj 2 k,hE]at h ⊢;rw[<-bB]at h ⊢;generalize gm*2^(ge-(e+k)).toNat=g at *
  have:g<m/2^k+1:=by
   apply bQ;intro h';have:=bG (2^k*E) (aC:m/2^k+1<=g);omega
  exact bG _ aC 
 .by_cases ux:k=0
  .subst ux;rw[cA,fU,bN];exact h
  .
   have hb:(iq m:Int)-p=k:=by unfold jJ at hk;omega
   have xi:m≠0:=by intro h0;rw[h0]at hb;simp[iq]at hb;omega
   have h1:=tV xi;have h2:2^(iq m-1-k)<=m/2^k:=by
    rw[dp<|bn aE,<-bj];exact bg (bO aE<|by have:=oV xi;omega) h1
   have h3:gm<2^p:=me.1 hg;refine bg (bG _<|dq h3)<|bg ?_ (bG _ h2);rw[<-hE,<-bj,<-bj,<-bj];exact bO aE aC 
def V3
 (h:m*2^(e-K).toNat<=gm*2^(ge-K).toNat):kV m e false p true*2^(e+jJ m e p-K).toNat<=gm*2^(ge-K).toNat:=by
 have W5:kV m e false p false=m/2^jJ m e p:=by unfold kV;simp
 have Im:kV m e false p true=m/2^jJ m e p+if m%2^jJ m e p≠0 then 1 else 0:=by unfold kV;simp
 have hm:=cL m<|2^jJ m e p;obtain⟨k,hk⟩:∃ k,k=jJ m e p:=⟨_,rfl⟩
 rw[Im];rw[<-hk]at hm ⊢;have e1:(e+(k:Int)-K).toNat=k+(e-K).toNat:= aC ;rw[e1,bj];generalize hE:2^(e-K).toNat=E at *
 have K1:0<E:=by rw[<-hE];exact bn aE 
 by_cases hr:m%2^k=0
 .rw [aX aC,bT,<-bB];refine bg (fJ ?_) h;congr 1;rw[bI];omega
 .rw [aY hr];have ux:k≠0:=by intro h0;rw[h0,cA,dZ]at hr;exact hr rfl
  have iE:m/2^k*(2^k*E)<gm*2^(ge-K).toNat:=by
   refine bM ?_ h;rw[<-bB];refine dg ?_ K1;rw[bI];omega
  by_cases hc:e+k<=ge
  .have e2:(ge-K).toNat=(ge-(e+k)).toNat+(k+(e-K).toNat):= aC ;have e3:gm*2^(ge-K).toNat=gm*2^(ge-(e+k)).toNat*(2^k*E):=by rw[e2,bj,bj 2 k,hE,bB]
   rw[e3]at iE ⊢;generalize gm*2^(ge-(e+k)).toNat=g at *
   have:m/2^k<g:=arH iE;exact bG _ this
  .
   exfalso;have hb:(iq m:Int)-p=k:=by unfold jJ at hk;omega
   have xi:m≠0:=by intro h0;rw[h0]at hr;simp at hr
   have h1:=tV xi;have Hw:=oV xi;have h3:gm<2^p:=me.1 hg;have h4:gm*2^(ge-K).toNat<=2^(iq m-1)*E:=by
    refine bg (bG _<|dq h3) ?_;rw[<-hE,<-bj,<-bj];exact bO aE aC 
   have h5:2^(iq m-1-k)<=m/2^k:=by
    rw[dp<|bn aE,<-bj];exact bg (bO aE aC) h1
   have h6:2^(iq m-1)*E<=m/2^k*(2^k*E):=by
    rw[<-bB];refine bG _ ?_;have:=bG (2^k) h5;rw[<-bj]at this;exact bg (bO aE aC) this
   omega
end
def P2(k:Int):Rat:=(2:Rat)^k
def nJ(k:Int):0<P2 k:=Rat.zpow_pos aE 
def rG(a b:Int):P2 (a+b)=P2 a*P2 b:=Rat.zpow_add aE a b
def As(n:Nat):P2 (n:Int)=((2^n:Nat):Rat):=by unfold P2;rw[Rat.zpow_natCast];simp
def GC:P2 0=1:=by have:=As 0;simpa using this
def GB{e k:Int}(h:k<=e):P2 e=((2^(e-k).toNat:Nat):Rat)*P2 k:=by
 rw[<-As,<-rG];congr 1;omega
def xB{x y:Rat}(k:Int):x*P2 k<=y*P2 k↔x<=y:=
 ⟨λh=>eV h<|nJ k,λh=>b8 h<|bE<|nJ k⟩
def wu{m n:Nat}{e f K:Int}(h1:K<=e)(h2:K<=f):(m:Rat)*P2 e<=(n:Rat)*P2 f↔m*2^(e-K).toNat<=n*2^(f-K).toNat:=by
 rw[GB h1,GB h2,<-fj,<-fj,xB,<-dr,<-dr,dC]
def Dy.q(d:Dy):Rat:=((d.num d.e:Int):Rat)*P2 d.e
def Af{d:Dy}{k:Int}(h:qM d k):d.q=((d.num k:Int):Rat)*P2 k:=by
 unfold Dy.q;rcases h with h|h
 .rw [xG h,xG h];simp
 .rw [L7 h<|ct _,GB h,<-fj,Rat.intCast_mul,dD]
def pg(a b:Dy):jm a b<=0↔a.q<=b.q:=by
 obtain⟨k,ka,kb⟩:∃ k:Int,k<=a.e/\k<=b.e:=⟨min a.e b.e,aC,aC⟩
 rw[sW (.inr ka)<|.inr kb,Af<|.inr ka,Af<|.inr kb,xB,gJ]
def Rk(a b:Dy):jm a b<0↔a.q<b.q:=by
 have h:=pg b a;rw[C6 b a]at h;constructor
 .intro h1;apply Rat.not_le.1;intro h2;have:=h.2 h2;omega
 .intro h1;apply bQ;intro h2;exact Rat.not_le.2 h1<|h.1 aC
def Jr(a b:Dy):(iM a b).q=a.q+b.q:=by
 obtain⟨k,ka,kb⟩:∃ k:Int,k<=a.e/\k<=b.e:=⟨min a.e b.e,aC,aC⟩
 rw[Af<|J5 (.inr ka)<|.inr kb,Af<|.inr ka,Af<|.inr kb,MK (.inr ka)<|.inr kb,Rat.intCast_add,Rat.add_mul]
def pt(a:Dy):(jo a).q = -a.q:=by
 rw[Af<|Nq<|.inr<|ct a.e,QZ,fW,aqR];rfl
def si(s:Bool)(m:Nat)(e:Int):(canon s m e).q=if s then -((m:Rat)*P2 e)else(m:Rat)*P2 e:=by
 rw[Af<|BN<|ct e,D9<|ct e];have:(e-e).toNat=0:= aC ;rw[this];cases s<;>simp[fW,aqR,dD]
def qs(a:Dy):a.q=if a.neg then -((a.m:Rat)*P2 a.e)else(a.m:Rat)*P2 a.e:=by
 unfold Dy.q Dy.num Dy.jR;have:(a.e-a.e).toNat=0:= aC ;rw[this];cases a.neg<;>simp[fW,aqR,dD]
def F4(a b:Dy):(wC a b).q=a.q*b.q:=by
 unfold wC;rw[si,qs a,qs b,rG,dr];cases a.neg<;>cases b.neg<;>simp<;>grind
def s6:iR.q=0:=by rw[qs];simp[iR]
def amk{a b:Dy}(ha:a.mi)(hb:b.mi)(h:a.q=b.q):a=b:=by
 obtain⟨k,ka,kb⟩:∃ k:Int,k<=a.e/\k<=b.e:=⟨min a.e b.e,aC,aC⟩
 refine U1 ha hb (.inr ka) (.inr kb) ?_;rw[Af<|.inr ka,Af<|.inr kb]at h;have h1:=(xB (x:=((a.num k:Int):Rat)) (y:=((b.num k:Int):Rat)) k).1 (by rw[h];exact bV);have h2:=(xB (x:=((b.num k:Int):Rat)) (y:=((a.num k:Int):Rat)) k).1 (by rw[h];exact bV);rw[gJ]at h1 h2;omega
def yM(n:Int):(iU n).q=(n:Rat):=by
 unfold iU;rw[Af (k:=0)<|Np<|ct 0,QY<|ct 0,GC];simp
def Bs(d:Dy):0<=(my d).q/\d.q<=(my d).q /\ -d.q<=(my d).q/\((my d).q=d.q\/(my d).q = -d.q):=by
 have h:(my d).q=(d.m:Rat)*P2 d.e:=by rw[qs];rfl
 have h0:0<=(d.m:Rat)*P2 d.e:=bH cR<|bE<|nJ _;rw[h,qs d];cases d.neg<;>simp<;>grind
def rX(d:Dy):(0<d.jc↔0<d.q)/\(d.jc<0↔d.q<0):=by
 have h:=nJ d.e;have hm:d.m≠0->0<(d.m:Rat)*P2 d.e:=λh0=>ep (fk.2 aC) h
 rw[qs];unfold Dy.jc;by_cases h0:d.m=0
 .simp [h0]
 .have:=hm h0;rw[aX h0];cases d.neg<;>simp<;>grind
def Bt(a b:Dy):a.q<=(jg a b).q/\b.q<=(jg a b).q/\((jg a b).q=a.q\/(jg a b).q=b.q):=
 ⟨(pg _ _).1<|FL a b,(pg _ _).1<|YI a b,by unfold jg;split;exact .inr rfl;exact .inl rfl⟩
def CI(a b:Dy):(jk a b).q<=a.q/\(jk a b).q<=b.q/\((jk a b).q=a.q\/(jk a b).q=b.q):=
 ⟨(pg _ _).1<|IZ a b,(pg _ _).1<|Qy a b,by unfold jk;split;exact .inr rfl;exact .inl rfl⟩
def GM(p:Nat)(g:Rat):Prop:=∃ (m:Nat) (e:Int),iq m<=p /\ -16384<=e/\(iq m:Int)+e<=16384/\g=(m:Rat)*P2 e
def G(p:Nat)(g:Rat):Prop:=GM p g\/GM p (-g)
def GM.Jc{p:Nat}{g:Rat}(h:GM p g):0<=g:=by
 obtain⟨m,e,_,_,_,rfl⟩:=h;exact bH cR<|bE<|nJ _
def Ap(p:Nat):GM p 0:=⟨0,0,by simp[sO],aC,by simp[sO],aH⟩
section
variable{p:Nat}{g:Rat}(h:G p g)
def G.neg:G p (-g):=by
 rcases h with h|h
 .exact .inr<|by rw[fX];exact h
 .exact .inl h
def G.pos(h0:0<=g):GM p g:=by
 rcases h with h|h
 .exact h
 .have:=h.Jc;have:g=0:= aK ;rw[this];exact Ap p
end
def TL(k:Nat):iq (2^k)=k+1:=AB (a7 _)<|gF aE aC
def wP:iq 1=1:=TL 0
section
variable {m p:Nat} {e:Int}
section
variable(hp:1<=p)
def abQ(ie:p<=4096)(ho:mz m e false p false=true):
 GM p (((2^p-1:Nat):Rat)*P2 (16384-p))/\((2^p-1:Nat):Rat)*P2 (16384-p)<=(m:Rat)*P2 e/\∀ g,GM p g->g<=((2^p-1:Nat):Rat)*P2 (16384-p):=by
 have yA:2<=2^p:=by
  have:=bO (n:=2) aE hp;omega
 have hb:iq (2^p-1)=p:=by
  obtain⟨j,rfl⟩:∃ j,p=j+1:=⟨p-1,aC⟩
  have h2:2^(j+1)=2^j*2:=bF _ _;have h3:=bn (n:=j) (aE:0<2);exact AB aC aC 
 refine⟨⟨_,_,fJ hb,aC,aC,rfl⟩,?_,?_⟩
 .obtain ⟨c1,c2⟩:=Kx m e p;unfold mz at ho;simp only[bD,cz]at ho;obtain⟨o1,o2⟩:=ho;have hq:=tV o1;have Hw:=oV o1;obtain⟨K,k1,k2⟩:∃ K:Int,K<=e/\K<=16384-p:=⟨min e<|16384-p,aC,aC⟩
  rw[wu k2 k1];have h1:2^(iq (kV m e false p false)-1)*2^jJ m e p<=m:=bg (bG _ hq) c1;have h2:=bG (2^(e-K).toNat) h1;rw[<-bj,<-bj]at h2;refine bg (bG _<|eU _ _)<|bg ?_ h2;rw[<-bj];exact bO aE aC 
 .rintro g ⟨gm,ge,b1,b2,b3,rfl⟩;by_cases hc:ge<=16384-p
  .have:gm<2^p:=me.1 b1;rw[wu (K:=ge) (ct _) hc];have e0:(ge-ge).toNat=0:= aC ;rw[e0,cA,b6];exact bg (aC:gm<=2^p-1)<|gv _<|bn aE
  .rw [wu (K:=16384-p) aC<|ct _];have e0:((16384:Int)-p-(16384-p)).toNat=0:= aC ;rw[e0,cA,b6];have h1:gm<2^(16384-ge).toNat:=by
    by_cases h0:gm=0
    .rw [h0];exact bn aE 
    .exact me.1 aC 
   have h2:=dg h1<|bn (n:=(ge-(16384-p)).toNat) (aE:0<2);by_cases hg:ge<=16384
   .rw [<-bj,show(16384-ge).toNat+(ge-(16384-(p:Int))).toNat=p by omega]at h2;omega
   .have:gm=0:=by
     rw[show(16384-ge).toNat=0 by omega]at h1;simpa using h1
    rw[this,cH];omega
def abP(ho:¬mz m e false p false=true):
 GM p (((kV m e false p false:Nat):Rat)*P2 (e+jJ m e p))/\((kV m e false p false:Nat):Rat)*P2 (e+jJ m e p)<=(m:Rat)*P2 e /\
 ∀ g,GM p g->g<=(m:Rat)*P2 e->g<=((kV m e false p false:Nat):Rat)*P2 (e+jJ m e p):=by
 obtain⟨c1,c2⟩:=Kx m e p;have hk:-16384<=e+(jJ m e p:Int):=by unfold jJ;omega
 refine⟨?_,?_,?_⟩
 .by_cases h0:kV m e false p false=0
  .rw [h0];simpa using Ap p
  .have hq:kV m e false p false<2^p:=by
    have:=UJ m e p;unfold kV;simpa using this
   unfold mz at ho;simp only[cQ,h0,eP,gH,eR,cz]at ho;exact⟨_,_,me.2 hq,hk,aC,rfl⟩
 .rw [wu (K:=e) aC<|ct _];rw[show(e-e).toNat=0 by omega,show(e+(jJ m e p:Int)-e).toNat=jJ m e p by omega,cA,b6];exact c1
 .rintro g ⟨gm,ge,b1,b2,b3,rfl⟩ h;obtain⟨K,k1,k2⟩:∃ K:Int,K<=e/\K<=ge:=⟨min e ge,aC,aC⟩
  rw[wu k2 k1]at h;rw[wu (K:=K) k2 aC];exact aik hp b1 b2 k1 k2 h
def Ub(ho:mz m e false p true=true)(g:Rat)(hg:GM p g):¬(m:Rat)*P2 e<=g:=by
 obtain⟨gm,ge,b1,b2,b3,rfl⟩:=hg;intro h;obtain⟨K,k1,k2⟩:∃ K:Int,K<=e/\K<=ge:=⟨min e ge,aC,aC⟩
 rw[wu k1 k2]at h;have h:=V3 hp b1 b2 k1 k2 h;unfold mz at ho;simp only[bD,cz]at ho;obtain⟨o1,o2⟩:=ho;have hq:=tV o1;have Hw:=oV o1;have h3:gm<2^iq gm:=sc gm;have h4:=dg h3<|bn (n:=(ge-K).toNat) (aE:0<2);have h5:=bG (2^(e+(jJ m e p:Int)-K).toNat) hq;rw[<-bj]at h4 h5;have h6:2^(iq gm+(ge-K).toNat)<=2^(iq (kV m e false p true)-1+(e+(jJ m e p:Int)-K).toNat):=bO aE aC;omega
def Ua(ho:¬mz m e false p true=true):
 GM p (((kV m e false p true:Nat):Rat)*P2 (e+jJ m e p))/\(m:Rat)*P2 e<=((kV m e false p true:Nat):Rat)*P2 (e+jJ m e p) /\
 ∀ g,GM p g->(m:Rat)*P2 e<=g->((kV m e false p true:Nat):Rat)*P2 (e+jJ m e p)<=g:=by
 obtain⟨c1,c2⟩:=Kx m e p;have hk:-16384<=e+(jJ m e p:Int):=by unfold jJ;omega
 refine⟨?_,?_,?_⟩
 .by_cases h0:kV m e false p true=0
  .rw [h0];simpa using Ap p
  .unfold mz at ho;simp only[cQ,h0,eP,gH,eR,cz]at ho;rcases ark (Us m e false p true)with hq|hq
   .exact ⟨_,_,me.2 hq,hk,aC,rfl⟩
   .rw [hq]at ho ⊢;rw[TL]at ho;refine⟨1,p+(e+jJ m e p),by rw[wP];exact hp,aC,by rw[wP];omega,?_⟩;rw[rG (p:Int),As p,show((1:Nat):Rat)=1 from rfl,er]
 .rw [wu (K:=e) (ct _) aC];rw[show(e-e).toNat=0 by omega,show(e+(jJ m e p:Int)-e).toNat=jJ m e p by omega,cA,b6];exact c2
 .rintro g ⟨gm,ge,b1,b2,b3,rfl⟩ h;obtain⟨K,k1,k2⟩:∃ K:Int,K<=e/\K<=ge:=⟨min e ge,aC,aC⟩
  rw[wu k1 k2]at h;rw[wu (K:=K) aC k2];exact V3 hp b1 b2 k1 k2 h
end
end
section
variable(p:Nat)(v:Rat)(D:Dy)(E:Int)
def Dn:Prop:=(E=0->G p D.q/\D.q<=v)/\∀ g,G p g->g<=v->E=0/\g<=D.q
def Up:Prop:=(E=0->G p D.q/\v<=D.q)/\∀ g,G p g->v<=g->E=0/\D.q<=g
end
section
variable{p:Nat}{v w:Rat}{D:Dy}{E:Int}
def Dn.of(h:Dn p v D E)(k:∀ g,G p g->(g<=v↔g<=w)):Dn p w D E:=
 ⟨λe=>⟨(h.1 e).1,(k _ (h.1 e).1).1 (h.1 e).2⟩,λg hg hw=>h.2 g hg<|(k g hg).2 hw⟩
def Up.of(h:Up p v D E)(k:∀ g,G p g->(v<=g↔w<=g)):Up p w D E:=
 ⟨λe=>⟨(h.1 e).1,(k _ (h.1 e).1).1 (h.1 e).2⟩,λg hg hw=>h.2 g hg<|(k g hg).2 hw⟩
end
section
variable(neg:Bool)(m:Nat)(e:Int){p:Nat}(hp:1<=p)(ie:p<=4096)
def G5:Dn p (canon neg m e).q (j9 neg m e false p false)<|jY neg m e false p false:=by
 have hv:0<=(m:Rat)*P2 e:=bH cR<|bE<|nJ _;rw[si];cases neg
 .
  have hE:jY false m e false p false=0:=by unfold jY;simp
  rw[hE];unfold j9;simp only[bne_self_eq_false,bC,bh];by_cases ho:mz m e false p false=true
  .obtain ⟨t1,t2,t3⟩:=abQ hp ie ho;rw[aY ho];(first|unfold Dn|unfold Up);rw[si];simp only[bC,bh];refine⟨λ_=>⟨.inl t1,t2⟩,λg hg hle=>⟨trivial,?_⟩⟩;by_cases h0:0<=g
   .exact t3 g<|hg.pos h0
   .have:=t1.Jc;grind
  .obtain ⟨t1,t2,t3⟩:=abP hp ho;rw[aX ho];(first|unfold Dn|unfold Up);rw[si];simp only[bC,bh];refine⟨λ_=>⟨.inl t1,t2⟩,λg hg hle=>⟨trivial,?_⟩⟩;by_cases h0:0<=g
   .exact t3 g (hg.pos h0) hle
   .have:=t1.Jc;grind
 .unfold j9 jY;simp only[Bool.bne_false,Bool.and_true,bA];by_cases ho:mz m e false p true=true
  .rw [aY ho,aY ho];refine⟨λh=>by simp at h,λg hg hle=>?_⟩;exact absurd (show(m:Rat)*P2 e <= -g by grind)<|Ub hp ho _<|hg.neg.pos aK
  .obtain ⟨t1,t2,t3⟩:=Ua hp ho;rw[aX ho,aX ho];(first|unfold Dn|unfold Up);rw[si];simp only[bA];refine⟨λ_=>⟨.inr<|by rw[fX];exact t1,aK⟩,λg hg hle=>⟨trivial,?_⟩⟩;have:=t3 (-g) (hg.neg.pos aK) aK 
   grind
def G6:Up p (canon neg m e).q (j9 neg m e false p true)<|jY neg m e false p true:=by
 have hv:0<=(m:Rat)*P2 e:=bH cR<|bE<|nJ _;rw[si];cases neg
 .unfold j9 jY;simp only[Bool.bne_true,eH,Bool.and_true,bA,bC,bh];by_cases ho:mz m e false p true=true
  .rw [aY ho,aY ho];refine⟨λh=>by simp at h,λg hg hle=>?_⟩;exact absurd hle<|Ub hp ho _<|hg.pos aK
  .obtain ⟨t1,t2,t3⟩:=Ua hp ho;rw[aX ho,aX ho];(first|unfold Dn|unfold Up);rw[si];simp only[bC,bh];exact⟨λ_=>⟨.inl t1,t2⟩,λg hg hle=>⟨trivial,t3 g (hg.pos aK) hle⟩⟩
 .have hE:jY true m e false p true=0:=by unfold jY;simp
  rw[hE];unfold j9;simp only[bne_self_eq_false,bC,bh,bA];by_cases ho:mz m e false p false=true
  .obtain ⟨t1,t2,t3⟩:=abQ hp ie ho;rw[aY ho];(first|unfold Dn|unfold Up);rw[si];simp only[bA];refine⟨λ_=>⟨.inr<|by rw[fX];exact t1,aK⟩,λg hg hle=>⟨trivial,?_⟩⟩;by_cases h0:0 <= -g
   .have:=t3 (-g)<|hg.neg.pos h0;grind
   .have:=t1.Jc;grind
  .obtain ⟨t1,t2,t3⟩:=abP hp ho;rw[aX ho];(first|unfold Dn|unfold Up);rw[si];simp only[bA];refine⟨λ_=>⟨.inr<|by rw[fX];exact t1,aK⟩,λg hg hle=>⟨trivial,?_⟩⟩;by_cases h0:0 <= -g
   .have:=t3 (-g) (hg.neg.pos h0) aK;grind
   .have:=t1.Jc;grind
end
section
variable{d:Dy}(hd:d.mi){p:Nat}(hp:1<=p)(ie:p<=4096)
def yQ:Dn p d.q (jN d p false)<|jC d p false:=by
 have:=G5 d.neg d.m d.e hp ie;rwa[hd.C4]at this
def vD:Up p d.q (jN d p true)<|jC d p true:=by
 have:=G6 d.neg d.m d.e hp ie;rwa[hd.C4]at this
end
section
variable{N p:Nat}{e:Int}(hb:p<iq N)
def OI{g:Rat}(hg:GM p g):g<=(N:Rat)*P2 e\/((N+1:Nat):Rat)*P2 e<=g:=by
 obtain⟨gm,ge,b1,b2,b3,rfl⟩:=hg;by_cases hc:e<=ge
 .rw [wu (K:=e) hc<|ct _,wu (K:=e) (ct _) hc,show(e-e).toNat=0 by omega];omega
 .left;rw[wu (K:=ge) (ct _) aC,show(ge-ge).toNat=0 by omega,cA,b6];have h1:gm<2^p:=me.1 b1;have h2:2^p<=N:=xy.1 hb;exact bg (dq<|bM h1 h2)<|gv _<|bn aE
def TJ{x y:Rat}(x1:(N:Rat)*P2 e<x)(x2:x<((N+1:Nat):Rat)*P2 e)(y1:(N:Rat)*P2 e<y)(y2:y<((N+1:Nat):Rat)*P2 e){g:Rat}(hg:G p g):
 (g<=x↔g<=y)/\(x<=g↔y<=g)/\(g <= -x↔g <= -y)/\(-x<=g ↔ -y<=g):=by
 have hv:0<=(N:Rat)*P2 e:=bH cR<|bE<|nJ _;have hG:∀ g,G p g->g<=(N:Rat)*P2 e\/((N+1:Nat):Rat)*P2 e<=g:=by
  intro g hg;by_cases h0:0<=g
  .exact OI hb<|hg.pos h0
  .left;grind
 have h1:=hG g hg;have h2:=hG (-g) hg.neg;generalize (N:Rat)*P2 e=A at *
 generalize ((N+1:Nat):Rat)*P2 e=B at *
 refine⟨?_,?_,?_,?_⟩<;>constructor<;>intro h<;>grind
end
def E3{N p:Nat}(E:Int)(hb:p<iq N)(neg up:Bool):j9 neg N E true p up=j9 neg (2*N+1) (E-1) false p up/\jY neg N E true p up=jY neg (2*N+1) (E-1) false p up:=by
 have h1:(2*N+1)/2^1=N:= aC ;have h:=Kw (N:=2*N+1) (E:=E-1) (more:=false) (d:=1) (p:=p) neg up (by rw[h1];exact hb);have h2:decide ((2*N+1)%2^1≠0)=true:= aH ;rw[h1,h2,(aC:E-1+((1:Nat):Int)=E)]at h;exact h
def UI{a b:Dy}(b0:b.m≠0){p:Nat}(hp:1<=p)(ie:p<=4096):Dn p (a.q/b.q) (nK a b p false) (q6 a b p false)/\Up p (a.q/b.q) (nK a b p true) (q6 a b p true):=by
 by_cases a0:a.m=0
 .have hq:a.q=0:=by rw[qs,a0];simp
  have h0:(0:Rat)/b.q=0:=by rw[cD,Rat.zero_mul]
  unfold nK q6;rw[hq,h0,aY a0,aY a0,aY a0,aY a0];have hz:G p 0:=.inl<|Ap p;exact⟨⟨λ_=>⟨by rw[s6];exact hz,by rw[s6];exact bV⟩,λg _ h=>⟨rfl,by rw[s6];exact h⟩⟩,⟨λ_=>⟨by rw[s6];exact hz,by rw[s6];exact bV⟩,λg _ h=>⟨rfl,by rw[s6];exact h⟩⟩⟩
 .have hb:=N7 a0 b0 p 2 aE ;unfold nK q6;rw[aX a0,aX a0,aX a0,aX a0];generalize hk:lf a b p 2=k at *
  generalize hs:(a.neg != b.neg)=s;generalize hE:a.e-b.e-(k:Int)=E0;have hB:(0:Rat)<(b.m:Rat):=fk.2 aC;have Wd:=nJ b.e;have hP:=nJ E0;obtain⟨w,hw⟩:∃ w:Rat,w=(a.m:Rat)*P2 a.e/((b.m:Rat)*P2 b.e):=⟨_,rfl⟩
  have Xt:w*((b.m:Rat)*P2 b.e)=(a.m:Rat)*P2 a.e:=by
   have:(b.m:Rat)*P2 b.e≠0:=by have:=ep hB Wd;grind
   rw[hw];exact de this
  have mI:a.q/b.q=if s then -w else w:=by
   have ur:b.q≠0:=by
    have:=ep hB Wd;rw[qs b];cases b.neg<;>simp<;>grind
   have hq:(if s then -w else w)*b.q=a.q:=by
    rw[qs a,qs b,<-hs,<-Xt];cases a.neg<;>cases b.neg<;>simp<;>grind
   rw[<-hq,arl ur]
  have Pg:=cL (a.m*2^k) b.m;have hr:=bJ (a.m*2^k) (aC:0<b.m);generalize hN:a.m*2^k/b.m=N at *
  generalize hR:a.m*2^k%b.m=R at *
  have aiM:(b.m:Rat)*(N:Rat)+(R:Rat)=(a.m:Rat)*((2^k:Nat):Rat):=by rw[<-dr,<-dr,<-dJ,Pg]
  have hae:P2 a.e=((2^k:Nat):Rat)*P2 b.e*P2 E0:=by rw[<-As,<-rG,<-rG];congr 1;omega
  have Lz:w*(b.m:Rat)=((b.m:Rat)*(N:Rat)+(R:Rat))*P2 E0:=by
   have:w*(b.m:Rat)*P2 b.e=((b.m:Rat)*(N:Rat)+(R:Rat))*P2 E0*P2 b.e:=by
    rw[aiM,fj,Xt,hae];grind
   have jD:P2 b.e≠0:= aK ;have h2:=congrArg (· / P2 b.e) this;simp only[arl jD]at h2;exact h2
  by_cases h0:R=0
  .have Ly:w=(N:Rat)*P2 E0:=by
    rw[h0]at Lz;have jD:(b.m:Rat)≠0:= aK ;have h2:w*(b.m:Rat)=((N:Rat)*P2 E0)*(b.m:Rat):=by rw[Lz];simp;grind
    have h3:=congrArg (· / (b.m:Rat)) h2;simp only[arl jD]at h3;exact h3
   have hc:a.q/b.q=(canon s N E0).q:=by rw[mI,si,Ly]
   rw[hc,a6<|by simpa using h0];exact⟨G5 _ _ _ hp ie,G6 _ _ _ hp ie⟩
  .have zh:(0:Rat)<(R:Rat):=fk.2 aC ;have hRb:(R:Rat)<(b.m:Rat):=Rat.natCast_lt_natCast.2 hr;have w1:(N:Rat)*P2 E0<w:=by
    apply arn (c:=(b.m:Rat)) _<|bE hB;rw[Lz];have:=ep zh hP
    grind
   have w2:w<((N+1:Nat):Rat)*P2 E0:=by
    apply arn (c:=(b.m:Rat)) _<|bE hB;rw[Lz,dJ];have:=ep (show(0:Rat)<(b.m:Rat)-(R:Rat)by grind) hP;simp
    grind
   have hh:P2 E0=2*P2 (E0-1):=by
    rw[GB (aC:E0-1<=E0),show(E0-(E0-1)).toNat=1 by omega];simp
   have v1:(N:Rat)*P2 E0<((2*N+1:Nat):Rat)*P2 (E0-1):=by
    have:=nJ<|E0-1;rw[hh,dJ,dr];simp;grind
   have v2:((2*N+1:Nat):Rat)*P2 (E0-1)<((N+1:Nat):Rat)*P2 E0:=by
    have:=nJ<|E0-1;rw[hh,dJ,dr,dJ];simp;grind
   rw[aZ<|by simpa using h0,(E3 E0 hb s false).1,(E3 E0 hb s false).2,(E3 E0 hb s true).1,(E3 E0 hb s true).2,mI];have A:=G5 s (2*N+1) (E0-1) hp ie;have B:=G6 s (2*N+1) (E0-1) hp ie;rw[si]at A B;refine⟨A.of λg hg=>?_,B.of λg hg=>?_⟩
   .obtain ⟨k1,k2,k3,k4⟩:=TJ hb v1 v2 w1 w2 hg;cases s
    .exact k1
    .exact k3
   .obtain ⟨k1,k2,k3,k4⟩:=TJ hb v1 v2 w1 w2 hg;cases s
    .exact k2
    .exact k4
def Iv.jr(x:Iv)(r:Rat):Prop:=x.all=true\/(x.lo.q<=r/\r<=x.hi.q)
def Sub(x y:Iv):Prop:=y.all=true\/(x.all=false/\y.lo.q<=x.lo.q/\x.hi.q<=y.hi.q)
def Sub.refl(x:Iv):Sub x x:=by
 cases h:x.all
 .exact .inr ⟨h,bV,bV⟩
 .exact .inl h
def Sub.jr{x y:Iv}(h:Sub x y){r:Rat}(k:x.jr r):y.jr r:=by
 rcases h with h|⟨h1,h2,h3⟩
 .exact .inl h
 .rcases k with k|⟨k1,k2⟩
  .rw [h1]at k;cases k
  .exact .inr ⟨aK,aK⟩
def Sub.r9{x y:Iv}(h:Sub x y)(k:y.all=false):x.all=false/\y.lo.q<=x.lo.q/\x.hi.q<=y.hi.q:=by
 rcases h with h|h
 .rw [h]at k;cases k
 .exact h
def Iv.ig.q{x:Iv}(h:x.ig):x.lo.q<=x.hi.q:=by
 rcases h with⟨_,h2,h3⟩|⟨_,_,_,h⟩
 .rw [h2,h3];exact bV
 .exact (pg _ _).1 h
section
variable{x:Iv}(h:x.ig)
def Iv.ig.vK:x.lo.mi/\x.hi.mi:=by
 rcases h with⟨_,h2,h3⟩|⟨_,h2,h3,_⟩
 .rw [h2,h3];exact⟨qu.canon,qu.canon⟩
 .exact ⟨h2.canon,h3.canon⟩
def Iv.ig.zi:x.jr x.lo.q:=.inr ⟨bV,h.q⟩
def Iv.ig.yo:x.jr x.hi.q:=.inr ⟨h.q,bV⟩
end
structure BK(p:Nat)(S:Rat->Prop)(X:Iv):Prop where
 jr:∀ r,S r->X.jr r
 on:X.all=false->G p X.lo.q/\G p X.hi.q
 vo:∀ L U,G p L->G p U->(∀ r,S r->L<=r/\r<=U)->X.all=false/\L<=X.lo.q/\X.hi.q<=U
def BK.sub{p:Nat}{S T:Rat->Prop}{X Y:Iv}(h:BK p S X)(k:BK p T Y)(hs:∀ r,S r->T r):Sub X Y:=by
 cases hy:Y.all
 .right;obtain⟨k1,k2⟩:=k.on hy;refine h.vo _ _ k1 k2 λr hr=>?_
  rcases k.jr r (hs r hr)with h1|h1
  .rw [hy]at h1;cases h1
  .exact h1
 .exact .inl hy
def CX{x y:Iv}(hx:x.ig)(hy:y.ig)(xa:x.all=false)(ya:y.all=false){p:Nat}(hp:1<=p)(ie:p<=4096):
 BK p (λr=>∃ a b,x.jr a/\y.jr b/\r=a+b) (je x y p):=by
 have A:=yQ (xY hx.vK.1 hy.vK.1) hp ie;have B:=vD (xY hx.vK.2 hy.vK.2) hp ie;rw[Jr]at A B;unfold je lH;rw[xa,ya];simp only[apV,bC,bh];have jr:∀ r,(∃ a b,x.jr a/\y.jr b/\r=a+b)->x.lo.q+y.lo.q<=r/\r<=x.hi.q+y.hi.q:=by
  rintro r ⟨a,b,ha,hb,rfl⟩;rcases ha with ha|ha
  .rw [xa]at ha;cases ha
  .rcases hb with hb|hb
   .rw [ya]at hb;cases hb
   .grind
 have vo:∀ L U,G p L->G p U->(∀ r,(∃ a b,x.jr a/\y.jr b/\r=a+b)->L<=r/\r<=U) ->
  (jC (iM x.lo y.lo) p false=0/\L<=(jN (iM x.lo y.lo) p false).q)/\jC (iM x.hi y.hi) p true=0/\(jN (iM x.hi y.hi) p true).q<=U:=λL U hL hU h=>
  ⟨A.2 L hL (h _ ⟨_,_,hx.zi,hy.zi,rfl⟩).1,B.2 U hU (h _ ⟨_,_,hx.yo,hy.yo,rfl⟩).2⟩
 split
 .rename_i he;refine⟨λ_ _=>.inl rfl,λh=>absurd h aE,λL U hL hU h=>?_⟩;obtain⟨⟨e1,_⟩,e2,_⟩:=vo L U hL hU h;rcases he with he|he
  .exact absurd e1 he
  .exact absurd e2 he
 .rename_i he;obtain⟨a1,a2⟩:=A.1 aC;obtain⟨b1,b2⟩:=B.1 aC;refine⟨λr hr=>.inr ?_,λ_=>⟨a1,b1⟩,λL U hL hU h=>?_⟩
  .obtain ⟨h1,h2⟩:=jr r hr;exact⟨bw a2 h1,bw h2 b2⟩
  .obtain ⟨⟨_,e1⟩,_,e2⟩:=vo L U hL hU h;exact⟨rfl,e1,e2⟩
def CY{x y:Iv}(p:Nat)(h:x.all=true\/y.all=true):je x y p=ik:=by
 unfold je;rw[aY<|by rcases h with h|h<;>rw[h]<;>simp]
def vJ{x y:Iv}(hx:x.ig)(hy:y.ig){p:Nat}(hp:1<=p)(ie:p<=4096){a b:Rat}(ha:x.jr a)(hb:y.jr b):(je x y p).jr<|a+b:=by
 cases xa:x.all
 .cases ya:y.all
  .exact (CX hx hy xa ya hp ie).jr _ ⟨a,b,ha,hb,rfl⟩
  .rw [CY p<|.inr ya];exact .inl rfl
 .rw [CY p<|.inl xa];exact .inl rfl
def acJ{x y x' y':Iv}(hx:x.ig)(hy:y.ig)(rC:x'.ig)(oq:y'.ig){p:Nat}(hp:1<=p)(ie:p<=4096)(h:Sub x x')(k:Sub y y'):Sub (je x y p)<|je x' y' p:=by
 cases xa:x'.all
 .cases ya:y'.all
  .exact (CX hx hy (h.r9 xa).1 (k.r9 ya).1 hp ie).sub (CX rC oq xa ya hp ie) λr ⟨a,b,ha,hb,e⟩=>⟨a,b,h.jr ha,k.jr hb,e⟩
  .rw [CY p<|.inr ya];exact .inl rfl
 .rw [CY p<|.inl xa];exact .inl rfl
def QL{x:Iv}{a:Rat}(ha:x.jr a):(oO x).jr (-a):=by
 unfold oO;rcases ha with ha|⟨h1,h2⟩
 .rw [aY ha];exact .inl rfl
 .split
  .exact .inl rfl
  .refine .inr ⟨?_,?_⟩
   .show (jo x.hi).q<=_;rw[pt];grind
   .show _<=(jo x.lo).q;rw[pt];grind
def abn{x y:Iv}(hx:x.ig)(hy:y.ig){p:Nat}(hp:1<=p)(ie:p<=4096){a b:Rat}(ha:x.jr a)(hb:y.jr b):(kY x y p).jr<|a-b:=by
 rw[Rat.sub_eq_add_neg];exact vJ hx (rU hy) hp ie ha<|QL hb
def VJ{p:Nat}{D:Dy->Dy->Bool->Dy}{E:Dy->Dy->Bool->Int}{f:Rat->Rat->Rat}{x y:Iv}{S:Rat->Prop}
 (hD:∀ a b,(a=x.lo\/a=x.hi)->(b=y.lo\/b=y.hi)->Dn p (f a.q b.q) (D a b false) (E a b false)/\Up p (f a.q b.q) (D a b true) (E a b true)/\S (f a.q b.q))
 (hS:∀ r,S r->(f x.lo.q y.lo.q<=r\/f x.lo.q y.hi.q<=r\/f x.hi.q y.lo.q<=r\/f x.hi.q y.hi.q<=r)/\(r<=f x.lo.q y.lo.q\/r<=f x.lo.q y.hi.q\/r<=f x.hi.q y.lo.q\/r<=f x.hi.q y.hi.q)):
 BK p S (oK D E x y):=by
 obtain⟨a1,a2,a3⟩:=hD x.lo y.lo (.inl rfl)<|.inl rfl;obtain⟨b1,b2,b3⟩:=hD x.lo y.hi (.inl rfl)<|.inr rfl;obtain⟨c1,c2,c3⟩:=hD x.hi y.lo (.inr rfl)<|.inl rfl;obtain⟨d1,d2,d3⟩:=hD x.hi y.hi (.inr rfl)<|.inr rfl;have vo:∀ L U,G p L->G p U->(∀ r,S r->L<=r/\r<=U) ->
  ((E x.lo y.lo false=0/\L<=(D x.lo y.lo false).q)/\E x.lo y.lo true=0/\(D x.lo y.lo true).q<=U)/\((E x.lo y.hi false=0/\L<=(D x.lo y.hi false).q)/\E x.lo y.hi true=0/\(D x.lo y.hi true).q<=U) /\
  ((E x.hi y.lo false=0/\L<=(D x.hi y.lo false).q)/\E x.hi y.lo true=0/\(D x.hi y.lo true).q<=U)/\((E x.hi y.hi false=0/\L<=(D x.hi y.hi false).q)/\E x.hi y.hi true=0/\(D x.hi y.hi true).q<=U):=λL U hL hU h=>
  ⟨⟨a1.2 L hL (h _ a3).1,a2.2 U hU (h _ a3).2⟩,⟨b1.2 L hL (h _ b3).1,b2.2 U hU (h _ b3).2⟩,⟨c1.2 L hL (h _ c3).1,c2.2 U hU (h _ c3).2⟩,⟨d1.2 L hL (h _ d3).1,d2.2 U hU (h _ d3).2⟩⟩
 unfold oK;split
 .rename_i he;obtain⟨⟨e1,e2⟩,⟨e3,e4⟩,⟨e5,e6⟩,⟨e7,e8⟩⟩:=he;obtain⟨ga,la⟩:=a1.1 e1;obtain⟨gA,lA⟩:=a2.1 e2;obtain⟨gb,lb⟩:=b1.1 e3;obtain⟨gB,lB⟩:=b2.1 e4;obtain⟨gc,lc⟩:=c1.1 e5;obtain⟨gC,lC⟩:=c2.1 e6;obtain⟨gd,ld⟩:=d1.1 e7;obtain⟨gD,lD⟩:=d2.1 e8;obtain⟨m1,m2,m3⟩:=CI (D x.lo y.lo false)<|D x.lo y.hi false;obtain⟨m4,m5,m6⟩:=CI (jk (D x.lo y.lo false)<|D x.lo y.hi false)<|D x.hi y.lo false;obtain⟨m7,m8,m9⟩:=CI (jk (jk (D x.lo y.lo false)<|D x.lo y.hi false)<|D x.hi y.lo false)<|D x.hi y.hi false;obtain⟨n1,n2,n3⟩:=Bt (D x.lo y.lo true)<|D x.lo y.hi true;obtain⟨n4,n5,n6⟩:=Bt (jg (D x.lo y.lo true)<|D x.lo y.hi true)<|D x.hi y.lo true;obtain⟨n7,n8,n9⟩:=Bt (jg (jg (D x.lo y.lo true)<|D x.lo y.hi true)<|D x.hi y.lo true)<|D x.hi y.hi true;generalize (jk (D x.lo y.lo false)<|D x.lo y.hi false)=u1 at *
  generalize (jk u1<|D x.hi y.lo false)=u2 at *
  generalize (jk u2<|D x.hi y.hi false)=u3 at *
  generalize (jg (D x.lo y.lo true)<|D x.lo y.hi true)=v1 at *
  generalize (jg v1<|D x.hi y.lo true)=v2 at *
  generalize (jg v2<|D x.hi y.hi true)=v3 at *
  refine⟨λr hr=>.inr ?_,λ_=>⟨?_,?_⟩,λL U hL hU h=>⟨rfl,?_,?_⟩⟩
  .obtain ⟨h1,h2⟩:=hS r hr;constructor
   .show u3.q<=r;rcases h1 with h1|h1|h1|h1<;>grind
   .show r<=v3.q;rcases h2 with h1|h1|h1|h1<;>grind
  .show G p u3.q;rcases m9 with h|h
   .rw [h];rcases m6 with h|h
    .rw [h];rcases m3 with h|h<;>rw[h]<;>assumption
    .rw [h];assumption
   .rw [h];assumption
  .show G p v3.q;rcases n9 with h|h
   .rw [h];rcases n6 with h|h
    .rw [h];rcases n3 with h|h<;>rw[h]<;>assumption
    .rw [h];assumption
   .rw [h];assumption
  .obtain ⟨⟨⟨_,k1⟩,_,k2⟩,⟨⟨_,k3⟩,_,k4⟩,⟨⟨_,k5⟩,_,k6⟩,⟨⟨_,k7⟩,_,k8⟩⟩:=vo L U hL hU h;show L<=u3.q;rcases m9 with h|h
   .rw [h];rcases m6 with h|h
    .rw [h];rcases m3 with h|h<;>rw[h]<;>assumption
    .rw [h];assumption
   .rw [h];assumption
  .obtain ⟨⟨⟨_,k1⟩,_,k2⟩,⟨⟨_,k3⟩,_,k4⟩,⟨⟨_,k5⟩,_,k6⟩,⟨⟨_,k7⟩,_,k8⟩⟩:=vo L U hL hU h;show v3.q<=U;rcases n9 with h|h
   .rw [h];rcases n6 with h|h
    .rw [h];rcases n3 with h|h<;>rw[h]<;>assumption
    .rw [h];assumption
   .rw [h];assumption
 .rename_i he;refine⟨λ_ _=>.inl rfl,λh=>absurd h aE,λL U hL hU h=>?_⟩;obtain⟨⟨⟨k1,_⟩,k2,_⟩,⟨⟨k3,_⟩,k4,_⟩,⟨⟨k5,_⟩,k6,_⟩,⟨⟨k7,_⟩,k8,_⟩⟩:=vo L U hL hU h;exact absurd ⟨⟨k1,k2⟩,⟨k3,k4⟩,⟨k5,k6⟩,k7,k8⟩ he
def Ul{a b c d x y:Rat}(h1:a<=x)(h2:x<=b)(h3:c<=y)(h4:y<=d):
 (a*c<=x*y\/a*d<=x*y\/b*c<=x*y\/b*d<=x*y)/\(x*y<=a*c\/x*y<=a*d\/x*y<=b*c\/x*y<=b*d):=by
 have mono:∀ {u v w:Rat},u<=v->0<=w->u*w<=v*w:=λh k=>b8 h k
 have anti:∀ {u v w:Rat},u<=v->w<=0->v*w<=u*w:=by
  intro u v w h k;have:=mono h<|show 0 <= -w by grind
  grind
 have side:∀ t:Rat,(t*c<=t*y\/t*d<=t*y)/\(t*y<=t*c\/t*y<=t*d):=by
  intro t;rw[fm t c,fm t d,fm t y];rcases Rat.le_total (a:=0) (b:=t)with h|h
  .exact ⟨.inl<|mono h3 h,.inr<|mono h4 h⟩
  .exact ⟨.inr<|anti h4 h,.inl<|anti h3 h⟩
 have sa:=side a;have sb:=side b;rcases Rat.le_total (a:=0) (b:=y)with h|h
 .have m1:=mono h1 h;have m2:=mono h2 h;clear mono anti side;constructor
  .rcases sa.1 with k|k<;>grind
  .rcases sb.2 with k|k<;>grind
 .have m1:=anti h1 h;have m2:=anti h2 h;clear mono anti side;constructor
  .rcases sb.1 with k|k<;>grind
  .rcases sa.2 with k|k<;>grind
def Iv.jr.jj{x:Iv}{r:Rat}(h:x.jr r)(k:x.all=false):x.lo.q<=r/\r<=x.hi.q:=by
 rcases h with h|h
 .rw [k]at h;cases h
 .exact h
def BX(a b:Dy):(wC a b).mi:=tl _ _ _
def D7{x y:Iv}(hx:x.ig)(hy:y.ig)(xa:x.all=false)(ya:y.all=false){p:Nat}(hp:1<=p)(ie:p<=4096):
 BK p (λr=>∃ a b,x.jr a/\y.jr b/\r=a*b) (iL x y p):=by
 unfold iL;rw[xa,ya];simp only[apV,bC,bh];refine VJ (f:=λa b=>a*b) (λa b ha hb=>⟨?_,?_,a.q,b.q,?_,?_,rfl⟩) λr ⟨a,b,ha,hb,e⟩=>?_
 .have:=yQ (BX a b) hp ie;rwa[F4]at this
 .have:=vD (BX a b) hp ie;rwa[F4]at this
 .rcases ha with rfl|rfl;exact hx.zi;exact hx.yo
 .rcases hb with rfl|rfl;exact hy.zi;exact hy.yo
 .obtain ⟨h1,h2⟩:=ha.jj xa;obtain⟨h3,h4⟩:=hb.jj ya;rw[e];exact Ul h1 h2 h3 h4
def zV{x y:Iv}(p:Nat)(h:x.all=true\/y.all=true):iL x y p=ik:=by
 unfold iL;rw[aY<|by rcases h with h|h<;>rw[h]<;>simp]
def zU{x y:Iv}(hx:x.ig)(hy:y.ig){p:Nat}(hp:1<=p)(ie:p<=4096){a b:Rat}(ha:x.jr a)(hb:y.jr b):(iL x y p).jr<|a*b:=by
 cases xa:x.all
 .cases ya:y.all
  .exact (D7 hx hy xa ya hp ie).jr _ ⟨a,b,ha,hb,rfl⟩
  .rw [zV p<|.inr ya];exact .inl rfl
 .rw [zV p<|.inl xa];exact .inl rfl
def QD{x y x' y':Iv}(hx:x.ig)(hy:y.ig)(rC:x'.ig)(oq:y'.ig){p:Nat}(hp:1<=p)(ie:p<=4096)(h:Sub x x')(k:Sub y y'):Sub (iL x y p)<|iL x' y' p:=by
 cases xa:x'.all
 .cases ya:y'.all
  .exact (D7 hx hy (h.r9 xa).1 (k.r9 ya).1 hp ie).sub (D7 rC oq xa ya hp ie) λr ⟨a,b,ha,hb,e⟩=>⟨a,b,h.jr ha,k.jr hb,e⟩
  .rw [zV p<|.inr ya];exact .inl rfl
 .rw [zV p<|.inl xa];exact .inl rfl
def IB{b c:Rat}(h0:0<c)(h:c<=b):b⁻¹<=c⁻¹:=by
 have hb:0<b:= aK ;apply eV (c:=b*c) _<|ep hb h0;have e1:b⁻¹*(b*c)=c:=by rw[<-fj,aqS _ aK,er]
 have e2:c⁻¹*(b*c)=b:=by rw[fm b c,<-fj,aqS _ aK,er]
 rw[e1,e2];exact h
def Zh(b:Rat):(-b)⁻¹ = -b⁻¹:=by
 by_cases h:b=0
 .rw [h];simp
 .have h1:(-b)⁻¹*(-b)=1:=aqS _ aK ;have h2:b⁻¹*b=1:=aqS _ h;have h3:(-b)⁻¹*(-b)*b⁻¹=b⁻¹:=by rw[h1,er]
  grind
def XW{b c:Rat}(h0:b<0)(h:c<=b):b⁻¹<=c⁻¹:=by
 have:=IB (b:=-c) (c:=-b) aK aK;rw[Zh,Zh]at this
 grind
def JG{y:Iv}(_hy:y.ig)(h:mV y≠0):y.all=false/\(0<y.lo.q\/y.hi.q<0):=by
 unfold mV at h;cases ya:y.all
 .rw [ya]at h;simp only[bC,bh]at h;refine⟨rfl,?_⟩;split at h
  .rename_i h1;exact .inl<|(rX _).1.1 h1
  .split at h
   .rename_i h1;exact .inr<|(rX _).2.1 h1
   .exact absurd rfl h
 .rw [ya]at h;simp at h
def JF{y:Iv}(ya:y.all=false)(h:0<y.lo.q\/y.hi.q<0):mV y≠0:=by
 unfold mV;rw[ya];simp only[bC,bh];rcases h with h|h
 .rw [aY<|(rX _).1.2 h];decide
 .split
  .decide
  .rw [aY<|(rX _).2.2 h];decide
def akB{d:Dy}(h:d.q≠0):d.m≠0:=by
 intro h0;apply h;rw[qs,h0];simp
def B2{x y:Iv}(hx:x.ig)(hy:y.ig)(xa:x.all=false)(hs:mV y≠0){p:Nat}(hp:1<=p)(ie:p<=4096):
 BK p (λr=>∃ a b,x.jr a/\y.jr b/\r=a/b) (jh x y p):=by
 obtain⟨ya,h0⟩:=JG hy hs;have hle:=hy.q;unfold jh;rw[xa,ya,a6 hs];simp only[apV,bC,bh];refine VJ (f:=λa b=>a/b) (λa b ha hb=>?_) λr ⟨a,b,ha,hb,e⟩=>?_
 .have b0:b.m≠0:=akB (by rcases hb with rfl|rfl<;>grind);obtain⟨h1,h2⟩:=UI (a:=a) b0 hp ie;refine⟨h1,h2,a.q,b.q,?_,?_,rfl⟩
  .rcases ha with rfl|rfl;exact hx.zi;exact hx.yo
  .rcases hb with rfl|rfl;exact hy.zi;exact hy.yo
 .obtain ⟨h1,h2⟩:=ha.jj xa;obtain⟨h3,h4⟩:=hb.jj ya;have i1:y.hi.q⁻¹<=b⁻¹:=by
   rcases h0 with h0|h0
   .exact IB aK h4
   .exact XW aK h4
  have i2:b⁻¹<=y.lo.q⁻¹:=by
   rcases h0 with h0|h0
   .exact IB h0 h3
   .exact XW aK h3
  obtain⟨k1,k2⟩:=Ul h1 h2 i1 i2;rw[e];simp only[cD];exact⟨aK,aK⟩
def yg{x y:Iv}(p:Nat)(h:x.all=true\/mV y=0):jh x y p=ik:=by
 unfold jh;rw[aY<|by rcases h with h|h<;>rw[h]<;>simp]
def AH{x y:Iv}(hx:x.ig)(hy:y.ig){p:Nat}(hp:1<=p)(ie:p<=4096){a b:Rat}(ha:x.jr a)(hb:y.jr b):(jh x y p).jr<|a/b:=by
 cases xa:x.all
 .by_cases hs:mV y=0
  .rw [yg p<|.inr hs];exact .inl rfl
  .exact (B2 hx hy xa hs hp ie).jr _ ⟨a,b,ha,hb,rfl⟩
 .rw [yg p<|.inl xa];exact .inl rfl
def afI{x y x' y':Iv}(hx:x.ig)(hy:y.ig)(rC:x'.ig)(oq:y'.ig){p:Nat}(hp:1<=p)(ie:p<=4096)(h:Sub x x')(k:Sub y y'):Sub (jh x y p)<|jh x' y' p:=by
 cases xa:x'.all
 .by_cases hs:mV y'=0
  .rw [yg p<|.inr hs];exact .inl rfl
  .obtain ⟨ya,h0⟩:=JG oq hs;obtain⟨y1,y2,y3⟩:=k.r9 ya;have uE:mV y≠0:=JF y1 aK;exact(B2 hx hy (h.r9 xa).1 uE hp ie).sub (B2 rC oq xa hs hp ie) λr ⟨a,b,ha,hb,e⟩=>⟨a,b,h.jr ha,k.jr hb,e⟩
 .rw [yg p<|.inl xa];exact .inl rfl
def Cy{x:Iv}(h:x.lo.q<=x.hi.q):x.hi.q<=(kn x).q /\ -x.lo.q<=(kn x).q/\((kn x).q=x.hi.q\/(kn x).q = -x.lo.q):=by
 obtain⟨a1,a2,a3,a4⟩:=Bs x.lo;obtain⟨b1,b2,b3,b4⟩:=Bs x.hi;obtain⟨c1,c2,c3⟩:=Bt (my x.lo)<|my x.hi;unfold kn;generalize (jg (my x.lo)<|my x.hi).q=M at *
 refine⟨aK,aK,?_⟩;rcases c3 with c3|c3
 .rcases a4 with a4|a4
  .grind
  .grind
 .rcases b4 with b4|b4
  .grind
  .grind
def Qu{x x':Iv}(hx:x.ig)(rC:x'.ig)(h:Sub x x')(xa:x'.all=false):(kn x).q<=(kn x').q:=by
 obtain⟨h1,h2,h3⟩:=h.r9 xa;obtain⟨a1,a2,a3⟩:=Cy hx.q;obtain⟨b1,b2,b3⟩:=Cy rC.q
 grind
def Qx{x:Iv}(hx:x.ig)(xa:x.all=false):0<=(oN x).q/\(x.lo.q<=0->0<=x.hi.q->(oN x).q=0)/\(0<x.lo.q->(oN x).q=x.lo.q)/\(x.hi.q<0->(oN x).q = -x.hi.q):=by
 have hle:=hx.q;obtain⟨a1,a2,a3,a4⟩:=Bs x.lo;obtain⟨b1,b2,b3,b4⟩:=Bs x.hi;obtain⟨c1,c2,c3⟩:=CI (my x.lo)<|my x.hi;by_cases hs:mV x=0
 .have hn:¬(0<x.lo.q\/x.hi.q<0):=λh=>JF xa h hs
  have:oN x=iR:=by unfold oN;rw[aY hs]
  rw[this,s6];refine⟨bV,λ_ _=>rfl,λh=>absurd (.inl h) hn,λh=>absurd (.inr h) hn⟩
 .obtain ⟨_,h0⟩:=JG hx hs;have:oN x=jk (my x.lo) (my x.hi):=by unfold oN;rw[aX hs]
  rw[this];generalize (jk (my x.lo)<|my x.hi).q=M at *
  generalize (my x.lo).q=u at *
  generalize (my x.hi).q=v at *
  refine⟨aK,aK,aK,aK⟩
def aqr{x x':Iv}(hx:x.ig)(rC:x'.ig)(h:Sub x x'):Sub (iW x)<|iW x':=by
 cases xa:x'.all
 .obtain ⟨h1,h2,h3⟩:=h.r9 xa;unfold iW;rw[h1,xa];refine .inr ⟨rfl,?_,Qu hx rC h xa⟩;show(oN x').q<=(oN x).q;obtain⟨a1,a2,a3,a4⟩:=Qx hx h1;obtain⟨b1,b2,b3,b4⟩:=Qx rC xa;have:=hx.q;by_cases c1:0<x'.lo.q
  .rw [b3 c1,a3 aK];exact h2
  .by_cases c2:x'.hi.q<0
   .rw [b4 c2,a4 aK];grind
   .rw [b2 aK aK];exact a1
 .refine .inl ?_;unfold iW;rw[aY xa];rfl
def GG{x:Iv}(hx:x.ig){r s:Rat}(h:x.jr r)(hs:s=r/\0<=r\/s = -r/\r<=0):(iW x).jr s:=by
 unfold iW;cases xa:x.all
 .obtain ⟨h1,h2⟩:=h.jj xa;obtain⟨a1,a2,a3⟩:=Cy hx.q;obtain⟨b1,b2,b3,b4⟩:=Qx hx xa;refine .inr ⟨?_,?_⟩
  .show (oN x).q<=s;by_cases c1:0<x.lo.q
   .rw [b3 c1];grind
   .by_cases c2:x.hi.q<0
    .rw [b4 c2];grind
    .rw [b2 aK aK];grind
  .show s<=(kn x).q
   grind
 .exact .inl rfl
def Bq(d:Dy):(iJ d).jr d.q:=.inr ⟨bV,bV⟩
def vy(n:Int):(iF n).jr (n:Rat):=by have:=Bq<|iU n;rwa[yM]at this
end Go.Proofs.YtjkmahljfblobaaGreatDoor.Fp
namespace Go.Proofs.YtjkmahljfblobaaGreatDoor
open Go.RowKit Fp Pu
abbrev jL(xs:List Iv):Nat->Nat->E:=λi j=>(jt<|xs.getD i ik).getD j .any
section
variable(M:List<|List Iv)
abbrev sE:Nat->Nat->E:=λi _=>iA<|M.getD i []
abbrev jK:Nat->Nat:=λq=>(M.getD q []).length
abbrev kF:Nat->Nat->Nat->E:=λq i j=>(jt<|(M.getD q []).getD i ik).getD j .any
end
def DX(x:Iv)(j:Nat)(hj:j<7):((jt x).getD j .any).nr 2=true:=by
 rcases j with _|_|_|_|_|_|_|j
 all_goals first|rfl|omega
def ajW(xs:List Iv):(iA xs).nr 2=true:=rfl
def Qe{T n:Nat}{xs:List Iv}{y:Iv}(hn:n=xs.length):
 Bx.le (.row true T (n+[y].length) 7 λi j=>if i<n then jL xs i j else(E.ng<|iA [y]) (i-n) j) (.row true T (xs++[y]).length 7<|jL<|xs++[y]):=by
 subst hn;refine .row aH λi j hi hj=>⟨.jP ?_,DX _ _ hj⟩
 by_cases h:i<xs.length
 .rw [aY h];show(jt<|xs.getD i ik).getD j .any=(jt<|(xs++[y]).getD i ik).getD j .any;congr 2;simp[bc,fH h]
 .have lg:i=xs.length:=by simp at hi;omega
  subst lg;rw[aX h,dA];show(jt y).getD j .any=(jt<|(xs++[y]).getD xs.length ik).getD j .any;congr 2;simp[bc]
section
variable(n:Nat)(c:Nat->Nat)(F:Nat->Nat->Iv)
def jB(x k:Nat):List<|List Iv:=(List.range n).map λq=>(List.range<|if q<x then c q else if q=x then k else 0).map<|F q
def rj:List<|List Iv:=(List.range n).map λq=>(List.range<|c q).map<|F q
def NH(x k:Nat):(jB n c F x k).length=n:=by simp[jB]
end
section
variable{n:Nat}{c:Nat->Nat}{F:Nat->Nat->Iv}
def GU{x k q:Nat}(h:q<n):(jB n c F x k).getD q []=(List.range<|if q<x then c q else if q=x then k else 0).map (F q):=by
 simp[jB,bc,h]
def MZ{q:Nat}(h:q<n):(rj n c F).getD q []=(List.range<|c q).map (F q):=by
 simp[rj,bc,h]
end
def Qs{n x k:Nat}{c:Nat->Nat}{F:Nat->Nat->Iv}(h:x<n):jK (jB n c F x k) x=k:=by simp only[jK,GU h];simp
def qH{α:Type}(y:α):[y].length=1:=rfl
def vC{n i:Nat}{F:Nat->Iv}(h:i<n):((List.range n).map F).getD i ik=F i:=by
 simp[bc,h]
def RL{T1 T0 n n':Nat}{c:Nat->Nat}{F:Nat->Nat->Iv}(hn:n=n'):Bx.le (.iT true T1 T0 n 7 (λ_=>0) (λ_ _ _=>.any) .none)<|.iT true T1 T0 n' 7 (jK<|jB n' c F 0 0) (kF<|jB n' c F 0 0) .none:=by
 subst hn;refine .iT rfl (λk hk=>?_) (λk i j hk hi hj=>absurd hi<|bt i);show 0=((jB n c F 0 0).getD k []).length;rw[GU hk];simp
def Mw{T1 T0 n n' m x k:Nat}{c:Nat->Nat}{F:Nat->Nat->Iv}{y:Iv}(hn:n=n')(hm:m=n)(hx:x<n)(hy:y=F x k):
 Bx.le (.iT true T1 T0 n 7 (λq=>if q=x then jK (jB m c F x k) q+[y].length else jK (jB m c F x k) q)
  (λq i j=>if q=x then(if i<jK (jB m c F x k) q then kF (jB m c F x k) q i j else(E.ng<|iA [y]) (i-jK (jB m c F x k) q) j)else kF (jB m c F x k) q i j) .none)
  (.iT true T1 T0 n' 7 (jK<|jB m c F x<|k+1) (kF<|jB m c F x<|k+1) .none):=by
 subst hn hm hy;have hl:∀ q,q<m->(if q=x then jK (jB m c F x k) q+[F x k].length else jK (jB m c F x k) q)=jK (jB m c F x<|k+1) q:=by
  intro q hq;simp only[jK,GU hq,cv,eu,cI,ff];by_cases h1:q=x
  .subst h1;simp
  .simp [h1]
 refine .iT rfl hl (λq i j hq hi hj=>⟨.jP ?_,DX _ _ hj⟩);by_cases h1:q=x
 .subst h1;rw[aY rfl]at hi ⊢;simp only[jK,kF,GU hq,cv,eu,cI,ff,Nat.lt_irrefl,bh,bA]at hi ⊢;by_cases h2:i<k
  .rw [aY h2,vC h2,vC aC]
  .have:i=k:= aC ;subst this;rw[aX h2,dA,vC aC];rfl
 .rw [aX h1]at hi ⊢;simp only[jK,kF,GU hq,cv,eu,h1,bh]at hi ⊢
def RM{T1 T0 n n' m x:Nat}{c:Nat->Nat}{F:Nat->Nat->Iv}(hn:n=n'):Bx.le (.iT true T1 T0 n 7 (jK<|jB m c F x<|c x) (kF<|jB m c F x<|c x) .none)<|.iT true T1 T0 n' 7 (jK<|jB m c F (x+1) 0) (kF<|jB m c F (x+1) 0) .none:=by
 subst hn;have:jB m c F x (c x)=jB m c F (x+1) 0:=by
  unfold jB;congr 1;funext q;congr 2;by_cases h:q<x
  .rw [aY h,aY aC]
  .by_cases h2:q=x
   .subst h2;rw[aX h,aY rfl,aY aC]
   .rw [aX h,aX h2,aX aC];split<;>rfl
 rw[this];exact .refl _
def NG(n:Nat)(c:Nat->Nat)(F:Nat->Nat->Iv):jB n c F n 0=rj n c F:=by
 unfold jB rj;apply ef;intro q hq;rw[aY<|bS.1 hq]
def LO{n:Nat}{M:List<|List Iv}(hn:n=M.length):E.le (.sl true n 1 λk _=>.sl true (jK M k) 7<|kF M k)<|jb M:=by subst hn;exact .refl _
def Fp.pO(X Y:Nat->Iv)(p:Nat):Nat->Iv
 | 0=>iL (X 0) (Y 0) p
 |k+1=>je (pO X Y p k) (iL (X<|k+1) (Y<|k+1) p) p
def Hb(X Y:Nat->Iv){p:Nat}(hp:1<=p)(ie:p<=4096):∀ k,(pO X Y p k).ig
 | 0=>lE _ _ hp ie
 |k+1=>nS (Hb X Y hp ie k) (lE _ _ hp ie) hp ie
def VG(x y:Iv)(p:Nat):∀ (a b:List Iv) (X Y:Nat->Iv) (s:Nat),a.length=b.length->(∀ i,i<a.length->a.getD i ik=X (s+1+i))->(∀ i,i<b.length->b.getD i ik=Y (s+1+i)) ->
 (a.zip b).foldl (λs q=>je s (iL q.1 q.2 p) p) (pO X Y p s)=pO X Y p (s+a.length)
 | [],[],X,Y,s,_,_,_=>rfl
 | [],_::_,_,_,_,h,_,_=>by simp at h
 |_::_,[],_,_,_,h,_,_=>by simp at h
 |u::a,v::b,X,Y,s,h,h1,h2=>by
  have e1:u=X (s+1):=h1 0 aH;have e2:v=Y (s+1):=h2 0 aH;rw[List.zip_cons_cons,fO];have:je (pO X Y p s) (iL u v p) p=pO X Y p (s+1):=by rw[e1,e2];rfl
  rw[this,VG x y p a b X Y (s+1) (by simpa using h) (λi hi=>by
   have:=h1 (i+1) aN;rw[(aC:s+1+1+i=s+1+(i+1)),<-this];rfl) (λi hi=>by
   have:=h2 (i+1) aN;rw[(aC:s+1+1+i=s+1+(i+1)),<-this];rfl)]
  congr 1;simp;omega
def afV{xs ys:List Iv}{p n:Nat}(h1:xs.length=n+1)(h2:ys.length=n+1):Kz xs ys p=pO (λq=>xs.getD q ik) (λq=>ys.getD q ik) p n:=by
 match xs,ys,h1,h2 with
 |x::a,y::b,h1,h2=>
  have ha:a.length=n:=by simpa using h1
  have hb:b.length=n:=by simpa using h2
  have:=VG x y p a b (λq=>(x::a).getD q ik) (λq=>(y::b).getD q ik) 0 aC (λi hi=>by rw[(aC:0+1+i=i+1)];rfl) (λi hi=>by rw[(aC:0+1+i=i+1)];rfl);rw[bZ,ha]at this;exact this
def vU{α:Type}{l:List α}{i:Nat}{d:α}(h:i<l.length):l.getD i d=l[i]:=by
 rw[bc,bk h];rfl
def aca{a b:List<|List Iv}{n k c p:Nat}(ra:a.length=n)(la:∀ i,i<n->(a.getD i []).length=k+1)(rb:b.length=k+1)(lb:(b.getD 0 []).length=c):
 rj n (λ_=>c) (λi j=>pO (λq=>(a.getD i []).getD q ik) (λq=>(b.getD q []).getD j ik) p k)=sd a b p:=by
 unfold rj sd;have hb:(b.headD []).length=c:=by
  rw[<-lb];cases b with
  |nil=>rfl
  |cons r b=>rfl
 rw[hb];apply dU
 .simp [ra]
 .intro i h1 h2;have hi:i<n:=by simp at h1;omega
  have Fq:i<a.length:= aC ;simp only[ev,ez];apply ef;intro j _;have e:=la i hi;rw[vU Fq]at e ⊢;rw[afV e<|show(Kt b j).length=k+1 by simp[Kt,rb]];congr 1;funext q;unfold Kt;by_cases hq:q<b.length
  .rw [vU (l:=b.map _)<|by simpa using hq,vU hq];simp
  .rw [bc (l:=b.map _),bX<|by simpa using hq,bc (l:=b),bX aC];simp
def acb{a:List<|List Iv}{x:Iv}{p:Nat}:rj a.length (λq=>(a.getD q []).length) (λi j=>iL x ((a.getD i []).getD j ik) p)=uR a x p:=by
 unfold rj uR;apply dU
 .simp
 .intro i h1 h2;have hi:i<a.length:=by simp at h1;omega
  simp only[ev,ez];rw[vU hi];apply dU
  .simp
  .intro j h3 h4;have hj:j<a[i].length:=by simpa using h3
   simp only[ev,ez];rw[vU hj]
def ap6{n k:Nat}{F:Nat->Nat->Iv}(h1:1<=n)(h2:n<=8)(h3:1<=k)(h4:k<=8)(hv:∀ i j,(F i j).ig):jO (rj n (λ_=>k) F) n k:=by
 refine⟨by simp[rj],λr hr=>?_,λr hr x hx=>?_,h1,h2,h3,h4⟩
 .obtain ⟨i,_,rfl⟩:=cC.1 hr;simp
 .obtain ⟨i,_,rfl⟩:=cC.1 hr;obtain⟨j,_,rfl⟩:=cC.1 hx;exact hv i j
def zL{T n n' k:Nat}{F:Nat->Iv}{y:Iv}(hn:n=k)(uy:n'=k+1)(hy:y=F k):
 Bx.le (.row true T (n+[y].length) 7 λi j=>if i<n then jL ((List.range k).map F) i j else(E.ng<|iA [y]) (i-n) j) (.row true T n' 7<|jL<|(List.range<|k+1).map F):=by
 subst hn uy hy;refine .row rfl λi j hi hj=>⟨.jP ?_,DX _ _ hj⟩
 have hi:i<n+1:=hi;by_cases h:i<n
 .rw [aY h];simp only[jL];rw[vC h,vC hi]
 .have lg:i=n:= aC ;subst lg;rw[aX h,dA];simp only[jL];rw[vC hi];rfl
def Jy{n i:Nat}{R:Nat->List Iv}(h:i<n):((List.range n).map R).getD i []=R i:=by simp[bc,h]
def YG{T n n' k m:Nat}{R:Nat->List Iv}{p:E}(hn:n=k)(uy:n'=k+1)(hm:m=1)(hp:∀ j,j<1->p.ng 0 j=iA (R k)):
 Bx.le (.row true T (n+m) 1 λi j=>if i<n then sE ((List.range k).map R) i j else(E.ng p) (i-n) j) (.row true T n' 1<|sE<|(List.range<|k+1).map R):=by
 subst hn uy hm;refine .row rfl λi j hi hj=>⟨.jP ?_,ajW _⟩
 by_cases h:i<n
 .rw [aY h];simp only[sE];rw[Jy h,Jy hi]
 .have lg:i=n:= aC ;subst lg;rw[aX h,dA,hp j hj];simp only[sE];rw[Jy hi]
def YE{n:Nat}{M:List<|List Iv}(hn:n=M.length):E.le (.sl true n 1<|sE M)<|jb M:=by subst hn;exact .refl _
def zK{n:Nat}{M:List Iv}(hn:n=M.length):E.le (.sl true n 7<|jL M)<|iA M:=by subst hn;exact .refl _
section
variable{m:List<|List Iv}{n k:Nat}(h:jO m n k)
def Fp.jO.mQ{i:Nat}(hi:i<n):(m.getD i []).length=k:=by
 have lg:i<m.length:=by rw[h.iT];exact hi
 rw[bc,bk lg];exact h.row _<|b9 lg
def Fp.jO.sJ{i j:Nat}(hi:i<n)(hj:j<k):((m.getD i []).getD j ik).ig:=by
 have lg:i<m.length:=by rw[h.iT];exact hi
 have hl:=h.mQ hi;rw[bc (l:=m),bk lg]at hl ⊢;change m[i].length=k at hl;show(m[i].getD j ik).ig;have qB:j<m[i].length:=by rw[hl];exact hj
 rw[bc,bk qB];exact h.ok _ (b9 lg) _<|b9 qB
def Fp.jO.IP(i:Nat):(m.getD i []).length<=8:=by
 by_cases hi:i<n
 .rw [h.mQ hi];exact h.k8
 .rw [bc,bX<|by rw[h.iT];omega];exact b7 _
end
def He{b:List<|List Iv}{k c:Nat}(gb:jO b k c)(q j:Nat):((b.getD q []).getD j ik).ig:=by
 by_cases hq:q<k
 .by_cases hj:j<c
  .exact gb.sJ hq hj
  .rw [bc,bX<|by rw[gb.mQ hq];omega];exact kR
 .rw [bc (l:=b),bX<|by rw[gb.iT];omega];exact kR
def ab9{a b:List<|List Iv}{n k p:Nat}(ga:jO a n k)(gb:jO b n k):rj a.length (λq=>(a.getD q []).length) (λi j=>je ((a.getD i []).getD j ik) ((b.getD i []).getD j ik) p)=Az a b p:=by
 have ra:=ga.iT;have rb:=gb.iT;unfold rj Az;apply dU
 .simp [ra,rb]
 .intro i h1 h2;have hi:i<n:=by simp at h1;omega
  simp only[ev,ez,List.getElem_zipWith];have ea:a.getD i []=a[i]'(aC):=by rw[bc,bk aC];rfl
  have eb:b.getD i []=b[i]'(aC):=by rw[bc,bk aC];rfl
  have la:=ga.mQ hi;have lb:=gb.mQ hi;rw[ea]at la;rw[eb]at lb;rw[ea,eb];apply dU
  .simp [la,lb]
  .intro j h3 h4;have hj:j<k:=by simp[la]at h3;exact h3
   simp only[ev,ez,List.getElem_zipWith];congr 1
   .rw [bc,bk aC];rfl
   .rw [bc,bk aC];rfl
def UW(s:Bool)(L:List Nat)(e:Int)(hk:iQ L)(hl:L.length<=256)(mO:-1000000<=e)(lL:e<=1000000):ic 123 [bP s,il L,iP e]<|iw<|canon s (val L) e:=by
 refine⟨call123,λw B vs hK hB hr=>?_⟩;obtain⟨v1,vs,rfl,h1,hr⟩:=hr.mY;obtain⟨v2,vs,rfl,h2,hr⟩:=hr.mY;obtain⟨v3,vs,rfl,h3,hr⟩:=hr.mY;obtain rfl:=hr.re;obtain rfl:=iI.kG h1;obtain rfl:=iI.kG h3;obtain⟨A,c,rfl,s1⟩:=Aj hk h2;exact(KB s A c L e w s1 aC (by have:=qh L;unfold mS at this;omega) mO lL hK).mono λe w' h=>rd B w e w' hB h
def Sh(x y:Nat):E.le (.sl false 2 1 λi j=>[E.v<|.int .u32 (x:Int),.v<|.int .u32 (y:Int)].getD (i*1+j)<|.v<|.bool false)<|il [x,y]:=.sl λi j hi hj=>by
 obtain rfl:j=0:= aC ;obtain rfl|rfl:i=0\/i=1:= aC 
 .exact ⟨.refl _,rfl⟩
 .exact ⟨.refl _,rfl⟩
def xv(n:Nat):iU (n:Int)=canon false n 0:=by
 unfold iU mB;rw[a6 aC,dR]
def zI(n:Nat)(h:n<4294967296):(iU (n:Int)).ig:=by
 rw[xv];refine⟨tl _ _ _,?_⟩;by_cases h0:n=0
 .subst h0;exact .inl rfl
 .have:=EX (s:=false) (e:=0) h0;have hb:iq n<=32:=me.2 h;refine .inr ⟨aC,aC,?_,aC⟩;obtain⟨h1,h2,h3,h4⟩:=this;have:=oV h3;omega
def abZ(x y:Nat):val [x,y]=x+4294967296*y:=by simp[val]
def Fp.kC(r:List Iv)(p:Nat):Nat->Dy
 | 0=>iR
 |k+1=>jN (iM (kC r p k)<|kn<|r.getD k ik) p true
structure Fp.pL(r:List Iv)(p k:Nat):Prop where
 all:(r.getD k ik).all=false
 AJ:jC (iM (kC r p k)<|kn<|r.getD k ik) p true=0
def Fp.kB(m:List<|List Iv)(p:Nat):Nat->Dy
 | 0=>iR
 |x+1=>if 0<jm (kC (m.getD x []) p (m.getD x []).length) (kB m p x)then kC (m.getD x []) p (m.getD x []).length else kB m p x
def s5(r:List Iv){p:Nat}(hp:1<=p)(ie:p<=4096):∀ k,(kC r p k).ig
 | 0=>qu
 |k+1=>tn _ _ _ _ _ _ hp ie
def CB(m:List<|List Iv){p:Nat}(hp:1<=p)(ie:p<=4096):∀ x,(kB m p x).ig
 | 0=>qu
 |x+1=>by
  unfold kB;split
  .exact s5 _ hp ie _
  .exact CB m hp ie x
def aho(p:Nat)(l:List Iv):l.foldl (λs x=>s.bind λs=>if x.all then none else if jC (iM s<|kn x) p true≠0 then none else some (jN (iM s<|kn x) p true)) none=none:=by
 induction l with
 |nil=>rfl
 |cons x l ih=>rw[fO];exact ih
def RH(p:Nat)(r:List Iv):∀ (l:List Iv) (k:Nat),(∀ i,i<l.length->l.getD i ik=r.getD (k+i) ik) ->
 ((∀ i,k<=i->i<k+l.length->pL r p i)->l.foldl (λs x=>s.bind λs=>if x.all then none else if jC (iM s<|kn x) p true≠0 then none else some (jN (iM s<|kn x) p true)) (some<|kC r p k)=some (kC r p<|k+l.length)) /\
 (∀ i,k<=i->i<k+l.length->¬pL r p i->l.foldl (λs x=>s.bind λs=>if x.all then none else if jC (iM s<|kn x) p true≠0 then none else some (jN (iM s<|kn x) p true)) (some<|kC r p k)=none)
 | [],k,_=>⟨λ_=>rfl,λi h1 h2=>by simp at h2;omega⟩
 |x::l,k,h=>by
  have e:x=r.getD k ik:=h 0 aH;have ih:=RH p r l (k+1) (λi hi=>by have:=h (i+1) aN;rw[(aC:k+1+i=k+(i+1)),<-this];rfl);rw[fO];have hs:∀ (g:pL r p k),((some<|kC r p k).bind λs=>if x.all then none else if jC (iM s<|kn x) p true≠0 then none else some (jN (iM s<|kn x) p true))=some (kC r p<|k+1):=by
   intro g;have h1:=g.all;have h2:=g.AJ;rw[<-e]at h1 h2;simp only[dj,h1,bC,bh,h2,cQ,gT];rw[e];rfl
  have hf:¬pL r p k->((some<|kC r p k).bind λs=>if x.all then none else if jC (iM s<|kn x) p true≠0 then none else some (jN (iM s<|kn x) p true))=none:=by
   intro g;simp only[dj];by_cases h1:x.all=true
   .rw [aY h1]
   .rw [aX h1];by_cases h2:jC (iM (kC r p k)<|kn x) p true=0
    .exact absurd ⟨by rw[<-e];simpa using h1,by rw[<-e];exact h2⟩ g
    .rw [aY h2]
  refine⟨λhg=>?_,λi h1 h2 hb=>?_⟩
  .rw [hs<|hg k aC aH,ih.1 λi h1 h2=>hg i aC aN];congr 2;simp;omega
  .by_cases g:pL r p k
   .rw [hs g];refine ih.2 i ?_ (by simp at h2;omega) hb;by_cases hik:i=k
    .subst hik;exact absurd g hb
    .omega
   .rw [hf g,aho]
def aax{r:List Iv}{p:Nat}(h:∀ i,i<r.length->pL r p i):Gb r p=some (kC r p r.length):=by
 have:=(RH p r r 0 λi _=>by rw[bZ]).1 λi _ hi=>h i aC;rwa[bZ]at this
def anp{r:List Iv}{p i:Nat}(hi:i<r.length)(h:¬pL r p i):Gb r p=none:=
 (RH p r r 0 λi _=>by rw[bZ]).2 i aC aC h
def QT(p:Nat)(m:List<|List Iv):∀ (l:List<|List Iv) (x:Nat),(∀ i,i<l.length->l.getD i []=m.getD (x+i) []) ->
 ((∀ i,x<=i->i<x+l.length->∀ k,k<(m.getD i []).length->pL (m.getD i []) p k)->l.foldl (λs r=>s.bind λs=>(Gb r p).map λn=>if 0<jm n s then n else s) (some<|kB m p x)=some (kB m p<|x+l.length)) /\
 (∀ i,x<=i->i<x+l.length->∀ k,k<(m.getD i []).length->¬pL (m.getD i []) p k->l.foldl (λs r=>s.bind λs=>(Gb r p).map λn=>if 0<jm n s then n else s) (some<|kB m p x)=none)
 | [],x,_=>⟨λ_=>rfl,λi h1 h2=>by simp at h2;omega⟩
 |r::l,x,h=>by
  have e:r=m.getD x []:=h 0 aH;have ih:=QT p m l (x+1) (λi hi=>by have:=h (i+1) aN;rw[(aC:x+1+i=x+(i+1)),<-this];rfl);have hn:∀ (l:List<|List Iv),l.foldl (λs r=>s.bind λs=>(Gb r p).map λn=>if 0<jm n s then n else s) none=none:=by
   intro l;induction l with
   |nil=>rfl
   |cons y l ih=>rw[fO];exact ih
  rw[fO];refine⟨λhg=>?_,λi h1 h2 k hk hb=>?_⟩
  .rw [e,dj,aax<|hg x aC aH,cg];have:=ih.1 λi h1 h2=>hg i aC aN;rw[show x+(m.getD x []::l).length=x+1+l.length by simp only[cI];omega];exact this
  .by_cases g:∀ k,k<(m.getD x []).length->pL (m.getD x []) p k
   .rw [e,dj,aax g,cg];refine ih.2 i ?_ (by simp at h2;omega) k hk hb;by_cases Li:i=x
    .subst Li;exact absurd (g k hk) hb
    .omega
   .have ⟨k',DA,oY⟩:∃ k',k'<(m.getD x []).length/\¬pL (m.getD x []) p k':=by
     apply bQ;intro hc;exact g λk hk=>bQ λq=>hc ⟨k,hk,q⟩
    rw[e,dj,anp DA oY,gW,hn]
def FR{m:List<|List Iv}{p:Nat}(h:∀ i,i<m.length->∀ k,k<(m.getD i []).length->pL (m.getD i []) p k):uN m p=some (kB m p m.length):=by
 have:=(QT p m m 0 λi _=>by rw[bZ]).1 λi _ hi=>h i aC;rwa[bZ]at this
def LY{m:List<|List Iv}{p i k:Nat}(hi:i<m.length)(hk:k<(m.getD i []).length)(h:¬pL (m.getD i []) p k):uN m p=none:=
 (QT p m m 0 λi _=>by rw[bZ]).2 i aC aC k hk h
def yX:tW ar [bP iR.neg,il<|ib iR.m,iP iR.e]:=.cons (.refl _)<|.cons zZ<|.cons (.refl _) .nil
def tN(n:Nat)(h:n<4294967296:=by omega):(iF (n:Int)).ig:=oP<|zI n h
structure Fp.Iv.NN(x:Iv):Prop where
 lo:x.lo.neg=false
 hi:x.hi.neg=false
def C5(m:Nat)(e:Int):(canon false m e).neg=false:=by unfold canon;split<;>rfl
def Un(m:Nat)(e:Int)(more:Bool)(p:Nat)(up:Bool):(j9 false m e more p up).neg=false:=by
 unfold j9;split
 .split
  .rfl
  .exact C5 _ _
 .exact C5 _ _
def RF{d:Dy}(h:d.neg=false)(p:Nat)(up:Bool):(jN d p up).neg=false:=by unfold jN;rw[h];exact Un _ _ _ _ _
section
variable{a b:Dy}(ha:a.neg=false)(hb:b.neg=false)
def al8:(wC a b).neg=false:=by unfold wC;rw[ha,hb];exact C5 _ _
def afG(p:Nat)(up:Bool):(nK a b p up).neg=false:=by
 unfold nK;rw[ha,hb];split
 .rfl
 .exact Un _ _ _ _ _
def LP:(jk a b).neg=false:=by unfold jk;split<;>assumption
def IY:(jg a b).neg=false:=by unfold jg;split<;>assumption
end
def Q1{a:Dy}(ha:a.neg=false)(k:Int):0<=a.num k:=by unfold Dy.num;rw[ha];simp
def aoB{a b:Dy}(ha:a.neg=false)(hb:b.neg=false):(iM a b).neg=false:=by
 unfold iM;split
 .exact hb
 .split
  .exact ha
  .unfold mB;have h1:=Q1 ha<|min a.e b.e;have h2:=Q1 hb<|min a.e b.e;rw[a6 aC];exact C5 _ _
def M0:ik.NN:=⟨rfl,rfl⟩
def VH{DD:Dy->Dy->Bool->Dy}{EE:Dy->Dy->Bool->Int}{x y:Iv}(hx:x.NN)(hy:y.NN)(h:∀ a b up,a.neg=false->b.neg=false->(DD a b up).neg=false):(oK DD EE x y).NN:=by
 unfold oK;split
 .exact ⟨LP (LP (LP (h _ _ _ hx.lo hy.lo)<|h _ _ _ hx.lo hy.hi)<|h _ _ _ hx.hi hy.lo)<|h _ _ _ hx.hi hy.hi,
   IY (IY (IY (h _ _ _ hx.lo hy.lo)<|h _ _ _ hx.lo hy.hi)<|h _ _ _ hx.hi hy.lo) (h _ _ _ hx.hi hy.hi)⟩
 .exact M0
section
variable{x y:Iv}(hx:x.NN)(hy:y.NN)(p:Nat)
def LU:(iL x y p).NN:=by
 unfold iL;split
 .exact M0
 .exact VH hx hy λa b up ha hb=>RF (al8 ha hb) p up
def G9:(jh x y p).NN:=by
 unfold jh;split
 .exact M0
 .exact VH hx hy λa b up ha hb=>afG ha hb p up
end
def Nr(x:Iv):(iW x).NN:=by
 unfold iW;split
 .exact M0
 .refine ⟨?_,IY rfl rfl⟩;show(oN x).neg=false;unfold oN;split
  .rfl
  .exact LP rfl rfl
def Mc{d:Dy}(h:d.neg=false):(iJ d).NN:=⟨h,h⟩
def CC(n:Nat):(iF (n:Int)).NN:=by
 refine Mc ?_;rw[xv];exact C5 _ _
def ZS{u:Iv}(hu:u.NN)(p:Nat):∀ j,(oA u p j).NN
 | 0=>CC 1
 |j+1=>LU (ZS hu p j) (G9 hu (CC<|j+1) p) p
def Zt(r:List Iv)(p:Nat):∀ k,(kC r p k).neg=false
 | 0=>rfl
 |k+1=>RF (aoB (Zt r p k)<|IY rfl rfl) p true
def FQ(m:List<|List Iv)(p:Nat):∀ x,(kB m p x).neg=false
 | 0=>rfl
 |x+1=>by
  unfold kB;split
  .exact Zt _ _ _
  .exact FQ m p x
section
variable{a b:Dy}(ha:a.neg=false)(hb:b.neg=false)
def alB(iE:jm a b<0){k:Int}(h1:k<=a.e)(h2:k<=b.e):a.m*2^(a.e-k).toNat<b.m*2^(b.e-k).toNat:=by
 rw[EY (k:=k) (.inr h1)<|.inr h2]at iE;have h:a.num k<b.num k:=by
  unfold yb at iE;split at iE
  .assumption
  .split at iE<;>omega
 unfold Dy.num Dy.jR at h;rw[ha,hb]at h;simp only[bC,bh]at h;exact Int.ofNat_lt.1 h
def afF(b0:b.m≠0)(iE:jm a b<0)(p:Nat):jm (nK a b p false) (canon false 1 0)<=0:=by
 unfold nK;by_cases a0:a.m=0
 .rw [aY a0];have:iR=canon false 0 0:=rfl;rw[this];exact(GV (s:=false) (K:=0) (ct _) (ct _) aH).1 rfl
 rw[aX a0,ha,hb];generalize hK:lf a b p 2=K;generalize hq:a.m*2^K/b.m=q;generalize hE:a.e-b.e-(K:Int)=E;have W6:q*b.m<=a.m*2^K:=by rw[<-hq];exact cU _ _
 have key:q*2^(E-min E 0).toNat<2^(0-min E 0).toNat:=by
  have mT:min (a.e-K) b.e<=a.e:= aC ;have xf:min (a.e-K) b.e<=b.e:= aC ;have h:=alB ha hb iE mT xf;have e1:(a.e-min (a.e-K) b.e).toNat=K+(E-min E 0).toNat:= aC ;have e2:(b.e-min (a.e-K) b.e).toNat=(0-min E 0).toNat:= aC ;rw[e1,e2,bj,<-bB]at h;have h3:q*b.m*2^(E-min E 0).toNat<b.m*2^(0-min E 0).toNat:=ck (bG _ W6) h;rw[bI q,bB]at h3;exact Nat.lt_of_mul_lt_mul_left h3
 have hqe:q=0\/(iq q:Int)+E<=0:=by
  by_cases K1:0<=E
  .left;rw[show(0-min E 0).toNat=0 by omega,cA]at key;rcases Nat.mul_eq_zero.1 (aro.1 key)with h|h
   .exact h
   .exact absurd h<|dX<|bn aE
  .right;rw[show(E-min E 0).toNat=0 by omega,cA,b6]at key;have:=me.2 key;omega
 generalize decide (a.m*2^K%b.m≠0)=more;have hQ:kV q E more p (false != false)=q/2^jJ q E p:=by unfold kV;simp
 have hsm:q/2^jJ q E p≠0->(iq<|q/2^jJ q E p:Int)+E+jJ q E p<=0:=by
  intro hn;have lV:=rI hn<|jJ q E p;have hm:=uW<|cU q<|2^jJ q E p;rcases hqe with h|h
  .rw [h,apI]at hn;exact absurd rfl hn
  .omega
 have hO:mz q E more p (false != false)=false:=by
  unfold mz;rw[hQ];by_cases hn:q/2^jJ q E p=0
  .simp [hn]
  .have:=hsm hn;rw[a6 (aC:¬16384<(iq<|q/2^jJ q E p:Int)+E+jJ q E p)];simp
 unfold j9;rw[show((false != false) != false)=(false != false)from rfl,hO,aX aE,hQ];refine(GV (s:=(false != false)) (K:=min E 0) aC aC ?_).1 rfl;rw[bN,show(E+(jJ q E p:Int)-min E 0).toNat=jJ q E p+(E-min E 0).toNat by omega,bj,<-bB];exact dq<|ck (bG _<|cU _ _) key
end
def Zx:(iF 1).ig:=oP<|zI 1 aE
def Fp.Iv.ig.agq{x:Iv}(h:x.ig):x.lo.mi/\x.hi.mi:=⟨h.jj.1.canon,h.jj.2.canon⟩
def QR{d:Dy}(hd:d.mi)(h:0<=d.jc):d.neg=false:=by
 unfold Dy.jc at h;rcases hd with⟨_,h2,_⟩|h1
 .exact h2
 .rw [aX aC]at h;cases hn:d.neg with
  |false=>rfl
  |true=>rw[hn]at h;simp at h
def aa9{d:Dy}(h:d.neg=false):0<=d.jc:=by
 unfold Dy.jc;rw[h];split
 .omega
 .simp
def LG{c:Nat}(hc:0<c):(iU (c:Int)).m≠0:=by
 rw[xv];exact(EX (s:=false) (e:=0) aC).2.2.1
def Zw{c:Nat}(hc:0<c):mV (iF (c:Int))=1:=by
 unfold mV iF iJ;simp only[bC,bh];rw[aY];unfold Dy.jc;rw[aX<|LG hc,show(iU (c:Int)).neg=false by rw[xv];exact C5 _ _];simp
def aan{u t:Iv}{c p:Nat}(hu:u.NN)(hc:0<c)(hua:u.all=false)(iE:jm u.hi (iU (c:Int))<0)(ht:t.NN)
 (he:(jh t (kY (iF 1) (jh u (iF (c:Int)) p) p) p).all=false) (iu:1<=p) (ie:p<=4096):(jh t (kY (iF 1) (jh u (iF (c:Int)) p) p) p).NN:=by
 have xk:(iF 1).NN:=CC 1;generalize hq:jh u (iF (c:Int)) p=q at *
 have hqn:q.NN:=hq▸G9 hu (CC c) p;have W7:q.ig:=hq▸oI _ _ iu ie;have aiL:∀ d:Iv,d.all=true->(jh t d p).all=true:=λd hd=>by unfold jh;rw[hd];simp[ik]
 have Ds:(kY (iF 1) q p).all=false:=by
  cases h:(kY (iF 1) q p).all with
  |false=>rfl
  |true=>rw[aiL _ h]at he;cases he
 have DJ:q.all=false:=by
  cases h:q.all with
  |false=>rfl
  |true=>
   exfalso;have:(kY (iF 1) q p)=ik:=by
    unfold kY oO je;rw[h];simp[ik]
   rw[this]at Ds;cases Ds
 have aqC:jm q.lo (canon false 1 0)<=0:=by
  have hf:q=oK (λa b up=>nK a b p up) (λa b up=>q6 a b p up) u (iF (c:Int)):=by
   rw[<-hq];unfold jh;rw[aX];rw[hua,Zw hc];simp[iF,iJ]
  have jH:q.lo=jk (jk (jk (nK u.lo (iU (c:Int)) p false)<|nK u.lo (iU (c:Int)) p false)<|nK u.hi (iU (c:Int)) p false) (nK u.hi (iU (c:Int)) p false):=by
   rw[hf]at DJ ⊢;unfold oK at DJ ⊢;split
   .rfl
   .rename_i jD;rw[aX jD]at DJ;cases DJ
  rw[jH];exact le_trans (Qy _ _)<|afF hu.hi (by rw[xv];exact C5 _ _) (LG hc) iE p
 have W2:iU 1=canon false 1 0:=xv 1;have Ba:0<=(iM (iU 1)<|jo q.lo).jc:=by
  by_cases h0:q.lo.m=0
  .have:(jo q.lo).m=0:=h0;have:iM (iU 1) (jo q.lo)=iU 1:=by
    unfold iM;rw[aX<|show(iU 1).m≠0 from LG (c:=1) aE,aY this]
   rw[this];exact aa9 xk.lo
  .rw [ae1 (show(iU 1).m≠0 from LG (c:=1) aE) h0,W2,C6];omega
 have Fo:(kY (iF 1) q p).ig:=nS Zx (rU W7) iu ie;have aiz:kY (iF 1) q p=lH (jN (iM (iU 1)<|jo q.hi) p false) (jC (iM (iU 1)<|jo q.hi) p false) (jN (iM (iU 1)<|jo q.lo) p true) (jC (iM (iU 1)<|jo q.lo) p true):=by
  unfold kY oO je;rw[DJ];rfl
 have Pw:(kY (iF 1) q p).hi=jN (iM (iU 1)<|jo q.lo) p true:=by
  rw[aiz]at Ds ⊢;unfold lH at Ds ⊢;split
  .rename_i h;rw[aY h]at Ds;cases Ds
  .rfl
 have hsc:(iM (iU 1)<|jo q.lo).mi:=xY (by rw[W2];exact tl _ _ _)<|LW<|W7.agq.1;have WL:(kY (iF 1) q p).hi.neg=false:=by
  rw[Pw];exact RF (QR hsc Ba) p true
 have FB:mV (kY (iF 1) q p)≠0:=by
  intro hz;have:(jh t (kY (iF 1) q p) p).all=true:=by unfold jh;rw[aY<|by rw[hz];simp];rfl
  rw[this]at he;cases he
 have aiX:(kY (iF 1) q p).lo.neg=false:=by
  unfold mV at FB;rw[Ds]at FB;simp only[bC,bh]at FB;have hh:=aa9 WL;split at FB
  .rename_i h;cases hn:(kY (iF 1) q p).lo.neg with
   |false=>rfl
   |true=>unfold Dy.jc at h;rw[hn]at h;split at h<;>simp at h
  .rw [aX aC]at FB;exact absurd rfl FB
 exact G9 ht ⟨aiX,WL⟩ p
def XL{n:Nat}(h1:1<=n)(h8:n<=8):jO (zF n) n n:=
 ap6 (F:=λi j=>iJ<|if i=j then⟨false,1,0⟩else iR) h1 h8 h1 h8 λi j=>by
  split
  .exact Zx
  .exact oP qu
def aiN{b:List<|List Iv}{k c:Nat}(gb:jO b k c):(b.headD []).length=c:=by
 cases b with
 |nil=>have:=gb.iT;have:=gb.n1;simp at *;omega
 |cons r b=>exact gb.row r aH 
def FM{a b:List<|List Iv}{n k c p:Nat}(ga:jO a n k)(gb:jO b k c)(iu:1<=p)(ie:p<=4096):jO (sd a b p) n c:=by
 refine⟨by simp[sd,ga.iT],λr hr=>?_,λr hr x hx=>?_,ga.n1,ga.n8,gb.k1,gb.k8⟩
 .obtain ⟨q,_,rfl⟩:=cC.1 hr;rw[cv,eu,aiN gb]
 .obtain ⟨q,_,rfl⟩:=cC.1 hr;obtain⟨j,_,rfl⟩:=cC.1 hx;exact afW iu ie
def RT{a:List<|List Iv}{x:Iv}{n k p:Nat}(ga:jO a n k)(iu:1<=p)(ie:p<=4096):jO (uR a x p) n k:=by
 refine⟨by simp[uR,ga.iT],λr hr=>?_,λr hr y hy=>?_,ga.n1,ga.n8,ga.k1,ga.k8⟩
 .obtain ⟨q,hq,rfl⟩:=cC.1 hr;simp[ga.row q hq]
 .obtain ⟨q,_,rfl⟩:=cC.1 hr;obtain⟨z,_,rfl⟩:=cC.1 hy;exact lE _ _ iu ie
def Qw{α β γ:Type}{f:α->β->γ}{l:List α}{m:List β}{z:γ}(h:z ∈ List.zipWith f l m):∃ x y,x ∈ l/\y ∈ m/\z=f x y:=by
 induction l generalizing m with
 |nil=>simp at h
 |cons a l ih=>
  cases m with
  |nil=>simp at h
  |cons b m=>
   rw[List.zipWith_cons_cons]at h;rcases cP.1 h with h|h
   .exact ⟨a,b,aH,aH,h⟩
   .obtain ⟨x,y,h1,h2,h3⟩:=ih h;exact⟨x,y,by simp[h1],by simp[h2],h3⟩
def acL{a b:List<|List Iv}{n k p:Nat}(ga:jO a n k)(gb:jO b n k)(iu:1<=p)(ie:p<=4096):jO (Az a b p) n k:=by
 refine⟨by simp[Az,ga.iT,gb.iT],λr hr=>?_,λr hr y hy=>?_,ga.n1,ga.n8,ga.k1,ga.k8⟩
 .obtain ⟨u,v,h1,h2,rfl⟩:=Qw hr;simp[ga.row u h1,gb.row v h2]
 .obtain ⟨u,v,h1,h2,rfl⟩:=Qw hr;obtain⟨x,z,h3,h4,rfl⟩:=Qw hy;exact nS (ga.ok u h1 x h3) (gb.ok v h2 z h4) iu ie
def yS{m:List<|List Iv}{h:Iv}{n p:Nat}(ga:jO m n n)(iu:1<=p)(ie:p<=4096):∀ j,jO (sG m h p j) n n
 | 0=>by
  have:=ga.iT;unfold sG;rw[this];exact XL ga.n1 ga.n8
 |j+1=>RT (FM (yS ga iu ie j) ga iu ie) iu ie
def CN{m:List<|List Iv}{h:Iv}{n p:Nat}(ga:jO m n n)(iu:1<=p)(ie:p<=4096):∀ j,jO (jT m h p j) n n
 | 0=>by
  have:=ga.iT;unfold jT;rw[this];exact XL ga.n1 ga.n8
 |j+1=>acL (CN ga iu ie j) (yS ga iu ie<|j+1) iu ie
def ue{a:List<|List Iv}{n k:Nat}(ga:jO a n k)(i j:Nat):(pW a i j).ig:=He ga i j
def Og{a b:List<|List Iv}{n k c p:Nat}(ga:jO a n k)(gb:jO b k c){i j:Nat}(hi:i<n)(hj:j<c):pW (sd a b p) i j=pO (pW a i) (λq=>pW b q j) p (k-1):=by
 have k1:=ga.k1;rw[<-aca (n:=n) (k:=k-1) (c:=c) (a:=a) (b:=b) (p:=p) ga.iT (λi hi=>by rw[ga.mQ hi];omega) (by rw[gb.iT];omega) (gb.mQ aC)];unfold pW;rw[MZ hi,vC hj]
def Oh{a:List<|List Iv}{x:Iv}{n k p:Nat}(ga:jO a n k){i j:Nat}(hi:i<n)(hj:j<k):pW (uR a x p) i j=iL x (pW a i j) p:=by
 rw[<-acb];unfold pW;rw[MZ<|by rw[ga.iT];exact hi,vC<|by rw[ga.mQ hi];exact hj]
def agc{a b:List<|List Iv}{n k p:Nat}(ga:jO a n k)(gb:jO b n k){i j:Nat}(hi:i<n)(hj:j<k):pW (Az a b p) i j=je (pW a i j) (pW b i j) p:=by
 rw[<-ab9 ga gb];unfold pW;rw[MZ<|by rw[ga.iT];exact hi,vC<|by rw[ga.mQ hi];exact hj]
def agd{n i j:Nat}(hi:i<n)(hj:j<n):pW (zF n) i j=iJ (if i=j then⟨false,1,0⟩else iR):=by
 unfold pW;have:zF n=rj n (λ_=>n) (λi j=>iJ<|if i=j then⟨false,1,0⟩else iR):=rfl;rw[this,MZ hi,vC hj]
def age{a:List<|List Iv}{n k:Nat}(ga:jO a n k)(f:Iv->Iv){i j:Nat}(hi:i<n)(hj:j<k):pW (a.map λr=>r.map f) i j=f (pW a i j):=by
 have h1:=ga.iT;have h2:=ga.mQ hi;have e1:(a.map λr=>r.map f).getD i []=(a.getD i []).map f:=by
  rw[bc,bc,ch,bk aC];rfl
 unfold pW;rw[e1];generalize a.getD i []=r at *
 rw[bc,bc,ch,bk aC];rfl
def Av(n k:Nat)(a b:List<|List Iv):Prop:=∀ i j,i<n->j<k->Sub (pW a i j) (pW b i j)
def UT{X Y X' Y':Nat->Iv}{p:Nat}(hp:1<=p)(ie:p<=4096)(hX:∀ q,(X q).ig)(hY:∀ q,(Y q).ig)(O6:∀ q,(X' q).ig)(O7:∀ q,(Y' q).ig):
 ∀ k,(∀ q,q<=k->Sub (X q) (X' q))->(∀ q,q<=k->Sub (Y q) (Y' q))->Sub (pO X Y p k) (pO X' Y' p k)
 | 0,h1,h2=>QD (hX 0) (hY 0) (O6 0) (O7 0) hp ie (h1 0<|a7 _)<|h2 0<|a7 _
 |k+1,h1,h2=>acJ (Hb X Y hp ie k) (lE _ _ hp ie) (Hb X' Y' hp ie k) (lE _ _ hp ie) hp ie
  (UT hp ie hX hY O6 O7 k (λq hq=>h1 q aC) λq hq=>h2 q aC) (QD (hX _) (hY _) (O6 _) (O7 _) hp ie (h1 _<|a7 _)<|h2 _<|a7 _)
def ak0{a b a' b':List<|List Iv}{n k c p:Nat}(ga:jO a n k)(gb:jO b k c)(ga':jO a' n k)(gb':jO b' k c)(hp:1<=p)(ie:p<=4096)(h1:Av n k a a')(h2:Av k c b b'):Av n c (sd a b p)<|sd a' b' p:=by
 intro i j hi hj;have k1:=ga.k1;rw[Og ga gb hi hj,Og ga' gb' hi hj];exact UT hp ie (ue ga i) (λq=>ue gb q j) (ue ga' i) (λq=>ue gb' q j) _ (λq hq=>h1 i q hi aC) λq hq=>h2 q j aC hj
def anY{a a':List<|List Iv}{x x':Iv}{n k p:Nat}(ga:jO a n k)(ga':jO a' n k)(hx:x.ig)(rC:x'.ig)(hp:1<=p)(ie:p<=4096)(h1:Av n k a a')(h2:Sub x x'):Av n k (uR a x p)<|uR a' x' p:=by
 intro i j hi hj;rw[Oh ga hi hj,Oh ga' hi hj];exact QD hx (ue ga i j) rC (ue ga' i j) hp ie h2<|h1 i j hi hj
section
variable {m m':List<|List Iv} {h h':Iv} {n p:Nat}
def se(j:Nat)(hj:j<4294967296:=by omega):(iF (j:Int)).ig:=oP<|zI j hj
def afR(hh:h.ig)(Dx:h'.ig)(hp:1<=p)(ie:p<=4096)(h2:Sub h h')(j:Nat)(hj:j<4294967296):Sub (jh h (iF (j:Int)) p)<|jh h' (iF (j:Int)) p:=
 afI hh (se j hj) Dx (se j hj) hp ie h2 (Sub.refl _)
def ao7(ga:jO m n n)(ga':jO m' n n)(hh:h.ig)(Dx:h'.ig)(hp:1<=p)(ie:p<=4096)(h1:Av n n m m')(h2:Sub h h'):∀ j,j<4294967296->Av n n (sG m h p j) (sG m' h' p j)
 | 0,_=>by
  intro i j _ _;unfold sG;rw[ga.iT,ga'.iT];exact Sub.refl _
 |j+1,hj=>anY (FM (yS ga hp ie j) ga hp ie) (FM (yS ga' hp ie j) ga' hp ie) (oI _ _ hp ie) (oI _ _ hp ie) hp ie
  (ak0 (yS ga hp ie j) ga (yS ga' hp ie j) ga' hp ie (ao7 ga ga' hh Dx hp ie h1 h2 j aC) h1) (afR hh Dx hp ie h2 (j+1) hj)
end
def Zv{r r':List Iv}{p:Nat}(hp:1<=p)(ie:p<=4096)(v:∀ i,(r.getD i ik).ig)(v':∀ i,(r'.getD i ik).ig):∀ k,(∀ i,i<k->Sub (r.getD i ik) (r'.getD i ik))->(∀ i,i<k->pL r' p i) ->
 (∀ i,i<k->pL r p i)/\(kC r p k).q<=(kC r' p k).q
 | 0,_,_=>⟨λi hi=>absurd hi<|bt i,bV⟩
 |k+1,hs,hg=>by
  obtain⟨h1,h2⟩:=Zv hp ie v v' k (λi hi=>hs i aC) λi hi=>hg i aC;obtain⟨g1,g2⟩:=hg k aC;have s:=hs k aC;have hm:=Qu (v k) (v' k) s g1;have mv:∀ {x:Iv},x.ig->(kn x).mi:=λh=>YH (J6 h.vK.1)<|J6 h.vK.2
  have A:=vD (xY (s5 r hp ie k).canon<|mv<|v k) hp ie;have B:=vD (xY (s5 r' hp ie k).canon<|mv<|v' k) hp ie;rw[Jr]at A B;obtain⟨b1,b2⟩:=B.1 g2;obtain⟨a1,a2⟩:=A.2 _ b1 aK;refine⟨λi hi=>?_,a2⟩;rcases ark (Nat.le_of_lt_succ hi)with h|h
  .exact h1 i h
  .subst h;exact⟨(s.r9 g1).1,a1⟩
def QQ(m:List<|List Iv)(p x:Nat):kB m p (x+1)=jg (kB m p x) (kC (m.getD x []) p (m.getD x []).length):=rfl
def als{m m':List<|List Iv}{n k p:Nat}(ga:jO m n k)(ga':jO m' n k)(hp:1<=p)(ie:p<=4096)(h1:Av n k m m'){N':Dy}(hN:uN m' p=some N'):
 ∃ N,uN m p=some N/\N.q<=N'.q/\N=kB m p n/\N'=kB m' p n:=by
 have good':∀ i,i<n->∀ j,j<k->pL (m'.getD i []) p j:=by
  intro i hi j hj;apply bQ;intro hc;rw[LY (i:=i) (by rw[ga'.iT];exact hi) (by rw[ga'.mQ hi];exact hj) hc]at hN;cases hN
 have row:=λi (hi:i<n)=>Zv (r:=m.getD i []) (r':=m'.getD i []) hp ie (ue ga i) (ue ga' i) k (λj hj=>h1 i j hi hj)<|good' i hi
 have e':uN m' p=some (kB m' p n):=by
  rw[<-ga'.iT];exact FR λi hi j hj=>good' i (by rw[<-ga'.iT];exact hi) j<|by rw[ga'.mQ<|by rw[<-ga'.iT];exact hi]at hj;exact hj
 have e:uN m p=some (kB m p n):=by
  rw[<-ga.iT];exact FR λi hi j hj=>(row i<|by rw[<-ga.iT];exact hi).1 j<|by rw[ga.mQ<|by rw[<-ga.iT];exact hi]at hj;exact hj
 rw[e']at hN;cases hN;refine⟨_,e,?_,rfl,rfl⟩;have:∀ x,x<=n->(kB m p x).q<=(kB m' p x).q:=by
  intro x
  induction x with
  |zero=>intro _;exact bV
  |succ x ih=>
   intro hx;have i1:=ih aC;have i2:=(row x aC).2;rw[QQ,QQ,ga.mQ aC,ga'.mQ aC];obtain⟨a1,a2,a3⟩:=Bt (kB m p x)<|kC (m.getD x []) p k;obtain⟨b1,b2,b3⟩:=Bt (kB m' p x)<|kC (m'.getD x []) p k
   grind
 exact this n<|a7 _
def Jq{d:Dy}(h:d.neg=false):0<=d.q:=by
 rw[qs,h];exact bH cR<|bE<|nJ _
structure Lq(x y:Iv):Prop where
 v:x.ig
 v':y.ig
 nn:x.NN
 LX:y.NN
 le:y.all=true\/(x.all=false/\x.hi.q<=y.hi.q)
def Fp.Iv.jr.nn{x:Iv}{r:Rat}(h:x.jr r)(k:x.all=false)(hx:x.NN):0<=r/\r<=x.hi.q:=by
 obtain⟨h1,h2⟩:=h.jj k;have:=Jq hx.lo;exact⟨aK,h2⟩
def SC(p:Nat):G p 0:=.inl<|Ap p
def acw{p:Nat}(hp:1<=p):G p 1:=.inl ⟨1,0,by rw[wP];exact hp,aC,by rw[wP];omega,by rw[GC];simp⟩
section
variable{x y x' y':Iv}{p:Nat}(hp:1<=p)(ie:p<=4096)(h:Lq x x')
def YW(k:Lq y y'):Lq (iL x y p)<|iL x' y' p:=by
 refine⟨lE _ _ hp ie,lE _ _ hp ie,LU h.nn k.nn p,LU h.LX k.LX p,?_⟩;rcases h.le with ha|⟨h1,h2⟩
 .rw [zV p<|.inl ha];exact .inl rfl
 .rcases k.le with ka|⟨k1,k2⟩
  .rw [zV p<|.inr ka];exact .inl rfl
  .cases xa:x'.all
   .cases ya:y'.all
    .cases za:(iL x' y' p).all
     .right;have B':=D7 h.v' k.v' xa ya hp ie;obtain⟨g1,g2⟩:=B'.on za;have hU:=(B'.jr _ ⟨_,_,h.v'.yo,k.v'.yo,rfl⟩).jj za;obtain⟨b1,b2,b3⟩:=(D7 h.v k.v h1 k1 hp ie).vo 0 _ (SC p) g2 λr ⟨a,b,ha,hb,e⟩=>by
       obtain⟨a1,a2⟩:=ha.nn h1 h.nn;obtain⟨b1,b2⟩:=hb.nn k1 k.nn;subst e;refine⟨bH a1 b1,bw ?_ hU.2⟩;exact bw (b8 (bw a2 h2) b1)<|bY (bw b2 k2)<|bw a1<|bw a2 h2
      exact⟨b1,b3⟩
     .exact .inl rfl
    .rw [zV p<|.inr ya];exact .inl rfl
   .rw [zV p<|.inl xa];exact .inl rfl
def UH(hy:y.ig)(oq:y'.ig)(yn:y.NN)(yn':y'.NN)(y0:y'.all=false->0<y'.lo.q->y.all=false/\y'.lo.q<=y.lo.q):Lq (jh x y p)<|jh x' y' p:=by
 refine⟨oI _ _ hp ie,oI _ _ hp ie,G9 h.nn yn p,G9 h.LX yn' p,?_⟩;rcases h.le with ha|⟨h1,h2⟩
 .rw [yg p<|.inl ha];exact .inl rfl
 .cases xa:x'.all
  .by_cases hs:mV y'=0
   .rw [yg p<|.inr hs];exact .inl rfl
   .obtain ⟨ya',zw⟩:=JG oq hs;have l0:0<y'.lo.q:=by
     rcases zw with h|h
     .exact h
     .have:=Jq yn'.hi;grind
    obtain⟨ya,hle⟩:=y0 ya' l0;cases za:(jh x' y' p).all
    .right;have B':=B2 h.v' oq xa hs hp ie;obtain⟨g1,g2⟩:=B'.on za;have hU:=(B'.jr _ ⟨_,_,h.v'.yo,oq.zi,rfl⟩).jj za;obtain⟨b1,b2,b3⟩:=(B2 h.v hy h1 (JF ya<|.inl aK) hp ie).vo 0 _ (SC p) g2 λr ⟨a,b,ha,hb,e⟩=>by
      obtain⟨a1,a2⟩:=ha.nn h1 h.nn;obtain⟨b1,b2⟩:=hb.jj ya;subst e;have ln:0<b:= aK ;have i1:b⁻¹<=y'.lo.q⁻¹:=IB l0 aK;have i0:0<=b⁻¹:=bE<|dV.2 ln;rw[cD];rw[cD]at hU;refine⟨bH a1 i0,bw ?_ hU.2⟩;exact bw (b8 (bw a2 h2) i0)<|bY i1<|bw a1<|bw a2 h2
     exact⟨b1,b3⟩
    .exact .inl rfl
  .rw [yg p<|.inl xa];exact .inl rfl
end
def QX(c:Nat):(iF (c:Int)).lo.q=(c:Rat)/\(iF (c:Int)).hi.q=(c:Rat)/\(iF (c:Int)).all=false:=by
 refine⟨?_,?_,rfl⟩
 .show (iU _).q=_;rw[yM];exact dD c
 .show (iU _).q=_;rw[yM];exact dD c
def Lq.num(c:Nat)(hc:c<4294967296):Lq (iF (c:Int))<|iF (c:Int):=⟨se c hc,se c hc,CC c,CC c,.inr ⟨rfl,bV⟩⟩
def Lq.UN{x x':Iv}{p:Nat}(hp:1<=p)(ie:p<=4096)(h:Lq x x')(c:Nat)(hc:c<4294967296):Lq (jh x (iF (c:Int)) p)<|jh x' (iF (c:Int)) p:=
 UH hp ie h (se c hc) (se c hc) (CC c) (CC c) λ_ _=>⟨rfl,bV⟩
def ZR{u u':Iv}{p:Nat}(hp:1<=p)(ie:p<=4096)(h:Lq u u'):∀ j,j<4294967296->Lq (oA u p j) (oA u' p j)
 | 0,_=>Lq.num 1 aE 
 |j+1,hj=>YW hp ie (ZR hp ie h j aC)<|Lq.UN hp ie h (j+1) hj
def alI{w w':Iv}{p:Nat}(hp:1<=p)(ie:p<=4096)(h:Lq w w')(h0:(kY (iF 1) w' p).all=false):(kY (iF 1) w p).all=false/\(kY (iF 1) w' p).lo.q<=(kY (iF 1) w p).lo.q:=by
 have wa':w'.all=false:=by
  cases hw:w'.all
  .rfl
  .have:kY (iF 1) w' p=ik:=CY p (.inr<|by unfold oO;rw[aY hw];rfl);rw[this]at h0;cases h0
 obtain⟨wa,hle⟩:w.all=false/\w.hi.q<=w'.hi.q:=by
  rcases h.le with h|h
  .rw [h]at wa';cases wa'
  .exact h
 have nv:=se 1 aE;have na:∀ {x:Iv},x.all=false->(oO x).all=false:=by intro x hx;unfold oO;rw[hx];rfl
 have B':=CX nv (rU h.v') rfl (na wa') hp ie;have B:=CX nv (rU h.v) rfl (na wa) hp ie;obtain⟨g1,g2⟩:=B'.on h0;have hL:=(B'.jr _ ⟨_,_,vy 1,QL h.v'.yo,rfl⟩).jj h0;obtain⟨b1,b2,b3⟩:=B.vo _ 1 g1 (acw hp) λr ⟨a,b,ha,hb,e⟩=>by
  have e1:a=1:=by
   obtain⟨q1,q2⟩:=ha.jj rfl;obtain⟨n1,n2,_⟩:=QX 1;have o:((1:Nat):Rat)=1:=rfl;rw[o]at n1 n2;have n1':(iF 1).lo.q=1:=n1;have n2':(iF 1).hi.q=1:=n2
   grind
  have hbn:b<=0 /\ -w.hi.q<=b:=by
   have lV:=hb.jj<|na wa;have e2:oO w=⟨jo w.hi,jo w.lo,false⟩:=by unfold oO;rw[aX<|by rw[wa];decide]
   rw[e2]at lV;have q1:=pt w.hi;have q2:=pt w.lo;have q3:=Jq h.nn.lo;simp only at lV
   grind
  have o:((1:Int):Rat)=1:=rfl;rw[o]at hL;subst e e1;refine⟨bw hL.1 ?_,aK⟩
  grind
 exact⟨b1,b2⟩
def aam{m m':List<|List Iv}{h h':Iv}{n k p:Nat}(ga:jO m n n)(ga':jO m' n n)(hh:h.ig)(Dx:h'.ig)(hk:k<1000)(hp:1<=p)(ie:p<=4096)(h1:Av n n m m')(h2:Sub h h')(ha:h'.all=false)
 {e':Iv} (he:tP m' h' k p=some e'):∃ e,tP m h k p=some e/\Sub e e'/\e.ig/\e'.ig:=by
 unfold tP at he ⊢;cases hN:uN m' p with
 |none=>rw[hN]at he;cases he
 |some N'=>
  obtain⟨N,eN,hle,d1,d2⟩:=als ga ga' hp ie h1 hN;rw[hN]at he;rw[eN];simp only[dj]at he ⊢;have nvN:N.ig:=by rw[d1];exact CB m hp ie n
  have nvN':N'.ig:=by rw[d2];exact CB m' hp ie n
  have nnN:N.neg=false:=by rw[d1];exact FQ m p n
  have nnN':N'.neg=false:=by rw[d2];exact FQ m' p n
  have L1:Lq (iW h)<|iW h':=by
   refine⟨xV hh,xV Dx,Nr h,Nr h',?_⟩;right;obtain⟨k1,_,_⟩:=h2.r9 ha;unfold iW;rw[k1,ha];exact⟨rfl,Qu hh Dx h2 ha⟩
  have L2:Lq (iJ N)<|iJ N':=⟨oP nvN,oP nvN',Mc nnN,Mc nnN',.inr ⟨rfl,hle⟩⟩
  have L3:=YW hp ie L1 L2;generalize iL (iW h) (iJ N) p=u at *
  generalize iL (iW h') (iJ N') p=u' at *
  split at he
  .cases he
  .rename_i hc;simp only[dz,cz,not_or,Int.not_le]at hc;obtain⟨c1,c2⟩:=hc;have c1:u'.all=false:=by simpa using c1
   obtain⟨ua,uh⟩:u.all=false/\u.hi.q<=u'.hi.q:=by
    rcases L3.le with h|h
    .rw [h]at c1;cases c1
    .exact h
   have c3:jm u.hi (iU (k+2:Nat))<0:=by
    rw[Rk]at c2 ⊢
    grind
   rw[aX<|by rw[ua];simp only[fi,cz];omega];have L4:=ZR hp ie L3 (k+1) aC;have L5:=Lq.UN hp ie L3 (k+2) aC;have sv:∀ w:Iv,w.ig->(kY (iF 1) w p).ig:=λw hw=>nS (se 1 aE) (rU hw) hp ie
   by_cases hz:(jh (oA u' p<|k+1) (kY (iF 1) (jh u' (iF (k+2:Nat)) p) p) p).all=true
   .simp only[hz,bA]at he;cases he
   .simp only[hz,bh]at he;cases he;have hz:(jh (oA u' p<|k+1) (kY (iF 1) (jh u' (iF (k+2:Nat)) p) p) p).all=false:=by simpa using hz
    have nN:=fun {x:Iv} (hx:x.NN) (kJ:x.all=false) (iE:jm x.hi (iU (k+2:Nat))<0)=>@aan x
    have sn:mV (kY (iF 1) (jh u' (iF (k+2:Nat)) p) p)≠0:=by
     intro hs;rw[yg p<|.inr hs]at hz;cases hz
    obtain⟨sa',sg'⟩:=JG (sv _ L5.v') sn;obtain⟨sa,sle⟩:=alI hp ie L5 sa';have pos':0<(kY (iF 1) (jh u' (iF (k+2:Nat)) p) p).lo.q:=by
     rcases sg' with h|h
     .exact h
     .exfalso;have hu:=L3.v'.yo;have hd:=AH L3.v' (se<|k+2) hp ie hu<|vy ((k+2:Nat):Int);have vg:=(abn (se 1 aE) L5.v' hp ie (vy 1) hd).jj sa';have c4:=(Rk _ _).1 c2;rw[yM]at c4;have:u'.hi.q/(((k+2:Nat):Int):Rat)<=1:=by
       have tG:(0:Rat)<(((k+2:Nat):Int):Rat):=Rat.intCast_pos.2 aC;apply eV (c:=(((k+2:Nat):Int):Rat)) _ tG;rw[de aK,er];exact bE c4
      have o:((1:Int):Rat)=1:=rfl;rw[o]at vg
      grind
    have nn1:∀ {w:Iv},w.ig->w.all=false->0<=w.lo.q->w.NN:=by
     intro w hw Xs h0;have Ly:=hw.q;rcases hw with⟨h,_⟩|⟨_,v1,v2,_⟩
     .rw [h]at Xs;cases Xs
     .exact ⟨QR v1.canon<|by have:=(rX w.lo).2;apply bQ;intro hc;have:=this.1 aC;grind,QR v2.canon<|by have:=(rX w.hi).2;apply bQ;intro hc;have:=this.1 aC;grind⟩
    have N1:=nn1 (sv _ L5.v') sa'<|bE pos';have N2:=nn1 (sv _ L5.v) sa aK;have L6:=UH hp ie L4 (sv _ L5.v) (sv _ L5.v') N2 N1 λ_ _=>⟨sa,sle⟩
    generalize jh (oA u p<|k+1) (kY (iF 1) (jh u (iF (k+2:Nat)) p) p) p=E at *
    generalize jh (oA u' p<|k+1) (kY (iF 1) (jh u' (iF (k+2:Nat)) p) p) p=E' at *
    obtain⟨ea,eh⟩:E.all=false/\E.hi.q<=E'.hi.q:=by
     rcases L6.le with h|h
     .rw [h]at hz;cases hz
     .exact h
    rw[aX<|by rw[ea];decide];have val:∀ {x:Iv},x.ig->x.NN->x.all=false->(⟨jo x.hi,x.hi,false⟩:Iv).ig:=by
     intro x hx hn kJ;rcases hx with⟨h,_⟩|⟨_,v1,v2,_⟩
     .rw [h]at kJ;cases kJ
     .exact .inr ⟨rfl,xD v2,v2,by rw[pg,pt];have:=Jq hn.hi;grind⟩
    refine⟨_,rfl,.inr ⟨rfl,?_,eh⟩,val L6.v L6.nn ea,val L6.v' L6.LX hz⟩;show(jo E'.hi).q<=(jo E.hi).q;rw[pt,pt];grind
def Mo(a:Dy)(ha:a.ig):ic 17 [iw a]<|bP true:=Eb call17 (λA c w h _=>amV a A c w h ha) rv
def amQ(n:Nat)(hn:n<4294967296):ic 84 [iP (n:Int)]<|iw<|canon false n 0:=by
 refine⟨call84,λw B vs hK hB hr=>?_⟩;obtain⟨v1,vs,rfl,h1,hr⟩:=hr.mY;obtain rfl:=hr.re;obtain rfl:=iI.kG h1;exact(amP n w hn).mono λe w' h=>rd B w e w' hB h
end Go.Proofs.YtjkmahljfblobaaGreatDoor
namespace Go.Proofs.YtjkmahljfblobaaGreatDoor.Fp
end Go.Proofs.YtjkmahljfblobaaGreatDoor.Fp
namespace Go.Proofs.YtjkmahljfblobaaGreatDoor
open Go.RowKit Fp Pu
def amS(d:Dy)(k:Int)(hd:d.ig)(mT:-32768<=k)(xf:k<=32768)(hr:nj<|canon d.neg d.m<|d.e+k):ic 83 [iw d,iP k]<|.ix [iw<|canon d.neg d.m<|d.e+k,iP 0]:=by
 refine⟨call83,λw B vs hK hB Ip=>?_⟩;obtain⟨v1,vs,rfl,h1,Ip⟩:=Ip.mY;obtain⟨v2,vs,rfl,h2,Ip⟩:=Ip.mY;obtain rfl:=Ip.re;obtain⟨A,c,rfl,s1⟩:=KC h1;obtain rfl:=iI.kG h2;have:=amT d.neg A c (ib d.m) d.e k w s1 hd.wT mT xf (by rw[kK];exact hr);rw[kK]at this;exact this.mono λe w' h=>Rt B w e w' hB h
def TZ{n:Int}{e:Int}:canon (iU n).neg (iU n).m ((iU n).e+e)=mB n e:=by
 unfold iU mB;by_cases h:n.natAbs=0
 .rw [h,GW,GW];show canon false 0 _=_;rw[GW]
 .have h1:=Ha h;rw[show canon (decide (n<0)) n.natAbs 0=⟨decide (n<0),n.natAbs/2^jU n.natAbs,0+(jU n.natAbs:Int)⟩by unfold canon;rw[aX h]];show canon (decide (n<0)) (n.natAbs/2^jU n.natAbs) (0+(jU n.natAbs:Int)+e)=_;rw[<-NM _ _ _ (jU n.natAbs),h1];congr 1;omega
def C3{n e:Int}(h1:n.natAbs<4294967296)(h2:-1000<=e)(h3:e<=1000):(mB n e).ig:=by
 refine⟨tl _ _ _,?_⟩;unfold mB;by_cases h0:n.natAbs=0
 .rw [h0,GW];exact .inl rfl
 .have:=EX (s:=decide (n<0)) (e:=e) h0;have hb:iq n.natAbs<=32:=me.2 h1;obtain⟨h4,h5,h6,_⟩:=this;have:=oV h6;exact .inr ⟨aC,aC,aC,aC⟩
def sC{n:Int}(h1:n.natAbs<4294967296):(iU n).ig:=C3 h1 aE aE 
def amN(k:Nat)(w:World)(h0:0<k)(hn:k<4294967296):
 Calls prog 84 #[.int .i64 (-(k:Int))] w (At w<|canon true k 0):=by
 have hm:=GJ k aC;have yy:(k:Int)%4294967296=k:= aC ;rw[yy]at hm;have hd:(k:Int)/4294967296=0:= aC ;have iE:(-(k:Int))<0:= aC ;have Pf:decide ((-(k:Int))<0)=true:=aZ iE;have hu:IntKind.u64.wrap (-(k:Int))=18446744073709551616-k:=by rw[IntKind.wrap_u64];omega
 have hs:IntKind.u64.wrap (-(18446744073709551616-(k:Int)))=k:=by rw[IntKind.wrap_u64];omega
 have HC:=arM λ(A:Option Addr) c w (h:Sl w A c [k,0])=>Ry true A c [k,0] 0 w h aH aE aE;have hv:val [k,0]=k:= aH ;rw[hv]at HC;clear hv;generalize canon true k 0=d at *
 generalize hN:(-(k:Int))=N at *
 go_enter func84,ntmps84;go_wp2_with fail;refine(HC.out _ _ _<|Sl.MQ _ _ aH _ _ k 0 rfl rfl hn aE).mono ?_;rintro r w1 ⟨A1,c1,rfl,uE,kE⟩;have ln:iZ (w.alloc<|.cells #[.bool false,.slice none 0 0,.int .i64 0] 37) w1:=(iZ.alloc _ _).trans kE;have bx:=(jQ.new w false none 0 0 0).ext ln;have b0:=bx.c0;have b1:=bx.c1;have b2:=bx.c2;have f0:=bx.fr 0;have f1:=bx.fr 1;have f2:=bx.fr 2;go_wp2;exact AI rfl rfl rfl (bx.set _ _ _ _ _) rfl (bx.wG uE _ _ _ _ _) (jQ.vF ((iZ.alloc _ _).trans ln) (a7 _) _ _ _ _ _)
def XQ(k:Nat)(h0:0<k):iU (-(k:Int))=canon true k 0:=by
 unfold iU mB;rw[aZ<|show(-(k:Int))<0 by omega,arf,dR]
def amO(n:Int)(h:n.natAbs<4294967296):ic 84 [iP n]<|iw<|iU n:=by
 by_cases h0:0<=n
 .obtain ⟨k,rfl⟩:=gI h0;rw[xv];exact amQ k aC 
 .obtain ⟨k,rfl⟩:∃ k:Nat,n = -(k:Int):=⟨n.natAbs,aC⟩
  rw[XQ k aC];refine⟨call84,λw B vs hK hB hr=>?_⟩;obtain⟨v1,vs,rfl,h1,hr⟩:=hr.mY;obtain rfl:=hr.re;obtain rfl:=iI.kG h1;exact(amN k w aC aC).mono λe w' h=>rd B w e w' hB h
open Classical in
noncomputable def Fp.uQ(d:Dy)(k:Int):Dy:=if nj (canon d.neg d.m<|d.e+k)then canon d.neg d.m (d.e+k)else iR
open Classical in
noncomputable def Fp.Ep(d:Dy)(k:Int):Int:=if nj (canon d.neg d.m<|d.e+k)then 0 else 9
def aaO(d:Dy)(k:Int):(uQ d k).ig:=by
 unfold uQ;split
 .rename_i h;exact⟨tl _ _ _,h⟩
 .exact qu
noncomputable def Fp.mR(x:Iv)(k:Int):Iv:=if x.all then ik else lH (uQ x.lo k) (Ep x.lo k) (uQ x.hi k) (Ep x.hi k)
def Fp.rH(x:Iv):Iv:=if x.all then x else⟨jo<|kn x,kn x,false⟩
def Fp.qJ(n:Int):Dy:=canon false 1 n
def xF{n:Int}(h:n.natAbs<4294967296):(iF n).ig:=oP<|sC h
def EO{x:Iv}(hx:x.ig):(rH x).ig:=by
 unfold rH;cases kJ:x.all
 .have he:=hx.jj;have hm:=uL he.1 he.2;simp only[bC,bh];refine .inr ⟨rfl,xD hm,hm,?_⟩;show jm (jo<|kn x) (kn x)<=0;rw[pg,pt];obtain⟨a1,a2,_⟩:=Cy hx.q;have:=hx.q
  grind
 .exact hx
def anW{d:Dy}{k:Int}(h:Ep d k=0):uQ d k=canon d.neg d.m (d.e+k):=by
 unfold Ep at h;unfold uQ;split at h
 .rename_i h1;rw[aY h1]
 .cases h
def CL{d:Dy}{k:Int}(h:Ep d k=0:=by omega):(uQ d k).q=d.q*P2 k:=by
 rw[anW h,si,qs d,rG];cases d.neg<;>simp<;>grind
def JB{x:Iv}(hx:x.ig)(k:Int):(mR x k).ig:=by
 unfold mR;split
 .exact kR
 .unfold lH;split
  .exact kR
  .rename_i h;refine .inr ⟨rfl,aaO _ _,aaO _ _,?_⟩;rw[pg,CL,CL,xB];exact hx.q
def RS{x:Iv}{r:Rat}(h:x.jr r)(k:Int):(mR x k).jr<|r*P2 k:=by
 unfold mR;split
 .exact .inl rfl
 .rename_i ha;unfold lH;split
  .exact .inl rfl
  .obtain ⟨h1,h2⟩:=h.jj (by simpa using ha);refine .inr ⟨?_,?_⟩
   .show (uQ x.lo k).q<=_;rw[CL,xB];exact h1
   .show _<=(uQ x.hi k).q;rw[CL,xB];exact h2
def Cz(x y:Iv):Prop:=x.all=true\/y.all=true\/(jm x.lo y.hi<=0/\jm y.lo x.hi<=0)
def D5(x y:Iv):Iv:=if x.all then y else if y.all then x else⟨jg x.lo y.lo,jk x.hi y.hi,false⟩
def akR{x y:Iv}(hx:x.ig)(hy:y.ig)(h:Cz x y)(xa:x.all=false)(ya:y.all=false):jm (jg x.lo y.lo) (jk x.hi y.hi)<=0:=by
 have h1:=hx.q;have h2:=hy.q;rcases h with h|h|⟨h3,h4⟩
 .rw [h]at xa;cases xa
 .rw [h]at ya;cases ya
 .rw [pg]at h3 h4 ⊢;obtain⟨_,_,a⟩:=Bt x.lo y.lo;obtain⟨_,_,b⟩:=CI x.hi y.hi;rcases a with a|a<;>rcases b with b|b<;>rw[a,b]<;>assumption
def akP{W Z:Iv}(h:W.all=false->Z.all=false->W.lo.q<=Z.hi.q/\Z.lo.q<=W.hi.q):Cz W Z:=by
 unfold Cz;cases hw:W.all
 .cases hz:Z.all
  .exact .inr<|.inr ⟨(pg _ _).2 (h hw hz).1,(pg _ _).2 (h hw hz).2⟩
  .exact .inr<|.inl rfl
 .exact .inl rfl
section
variable(nl:Bool)
def XT(n N:Nat)(el:Nat->Nat->E)(g:FuncId)(cap:List E)(i:Nat):PS:=⟨19,false,[(8,.e<|iP i),(7,.e<|iP n),(0,.e<|.sl nl n 1 el),(1,.e<|.fn g cap)],[]⟩
section
variable(n:Nat)(el:Nat->Nat->E)(g:FuncId)(cap:List E)(i:Nat)
def XS:PS:=⟨19,false,[(8,.e<|iP i),(7,.e<|iP n),(0,.e<|.sl nl n 1 el),(1,.e<|.fn g cap)],[]⟩
def Yi:PS:=⟨19,false,[(8,.e<|iP i),(7,.e<|iP n),(0,.e<|.sl nl n 1 el),(1,.e<|.fn g cap)],[]⟩
end
def X7(n N:Nat)(el:Nat->Nat->E)(g:FuncId)(cap:List E)(i:Nat):PS:=⟨19,false,[(8,.e<|iP i),(7,.e<|iP n),(0,.e<|.sl nl n 7 el),(1,.e<|.fn g cap)],[]⟩
def X6(n:Nat)(el:Nat->Nat->E)(g:FuncId)(cap:List E)(i:Nat):PS:=⟨19,false,[(8,.e<|iP i),(7,.e<|iP n),(0,.e<|.sl nl n 7 el),(1,.e<|.fn g cap)],[]⟩
def aaz(n N:Nat)(el:Nat->Nat->E)(g:FuncId)(cap:List E)(i:Nat):PS:=⟨19,false,[(8,.e<|iP i),(7,.e<|iP n),(0,.e<|.sl nl n 1 el),(1,.e<|.fn g cap)],[]⟩
def aay(n:Nat)(el:Nat->Nat->E)(g:FuncId)(cap:List E)(i:Nat):PS:=⟨19,false,[(8,.e<|iP i),(7,.e<|iP n),(0,.e<|.sl nl n 1 el),(1,.e<|.fn g cap)],[]⟩
end
def sD{p:Nat->Bool}{n:Nat}(h:∃ i,i<n/\p i=true):∃ N,N<n/\p N=true/\∀ i,i<N->p i=false:=by
 induction n with
 |zero=>obtain⟨i,h1,_⟩:=h;omega
 |succ n ih=>
  by_cases hn:∃ i,i<n/\p i=true
  .obtain ⟨N,h1,h2,h3⟩:=ih hn;exact⟨N,aC,h2,h3⟩
  .obtain ⟨i,h1,h2⟩:=h;have:i=n:=by
    by_cases q:i=n
    .exact q
    .exact absurd ⟨i,aC,h2⟩ hn
   subst this;exact⟨i,h1,h2,λj hj=>by simpa using λq=>hn ⟨j,hj,q⟩⟩
section
variable(nl:Bool)(n:Nat)(el:Nat->Nat->E)(g:FuncId)(cap:List E)(p:Nat->Bool)
section
variable(hp:∀ i,i<n->ic g ((el i 0)::cap) (bP<|p i))
def ajx(N:Nat)(hl:n<=1000000)(pR:N<n)(jH:∀ i,i<N->p i=false)(hN:p N=true):ic 207 [.sl nl n 1 el,.fn g cap]<|iP N:=
 sH (af [.s (Sp.jX (XT nl n N el g cap) 0 N aC (λi hi rA=>by
    exact iS (af [tT 9 ((i:Int)<n) aC,iX (i:Int) n,.c (hp i aC:ic g ((el i 0)::cap) _),ai 16 (p i)<|jH i aC,iD<|(i:Int)+1]) aF)
  (λhi=>by
    exact iS (af [tT 9 ((N:Int)<n) aC,iX (N:Int) n,.c (hp N aC:ic g ((el N 0)::cap) _),ah 16 (p N) hN]) aF) aI:jW 2 f207 (XT nl n N el g cap 0) .ret ⟨19,false,[(4,.e<|iP N)],[]⟩) .nil])
def ajz(hl:n<=1000000)(jH:∀ i,i<n->p i=false):ic 207 [.sl nl n 1 el,.fn g cap]<|iP (-1):=
 sH (af [.s (Sp.jX (XS nl n el g cap) 0 n aC (λi hi rA=>by
    exact iS (af [tT 9 ((i:Int)<n) aC,iX (i:Int) n,.c (hp i aC:ic g ((el i 0)::cap) _),ai 16 (p i)<|jH i aC,iD<|(i:Int)+1]) aF)
  (λhi=>by
    exact iS (af [tF 9 ((n:Int)<n) aC]) aF) aI:jW 2 f207 (XS nl n el g cap 0) (.exit 0) ⟨19,false,[],[]⟩) .nil])
def ajy(N:Nat)(hl:n<=1000000)(pR:N<n)(jH:∀ i,i<N->p i=false)(hN:p N=true):ic 130 [.sl nl n 1 el,.fn g cap]<|bP true:=
 sH (af [.c<|ajx nl n el g cap p hp N hl pR jH hN,tT 8 (0<=(N:Int)) aC])
section
variable(hl:n<=1000000)
def P9(jH:∀ i,i<n->p i=false):ic 130 [.sl nl n 1 el,.fn g cap]<|bP false:=
 sH (af [.c<|ajz nl n el g cap p hp hl jH,ai 8 (decide ((0:Int)<=(-1))) aE])
def ajw:ic 130 [.sl nl n 1 el,.fn g cap]<|bP<|(List.range n).any p:=by
 by_cases h:∃ i,i<n/\p i=true
 .obtain ⟨N,h1,h2,h3⟩:∃ N,N<n/\p N=true/\∀ i,i<N->p i=false:=sD h;refine(ajy nl n el g cap p hp N hl h1 h3 h2).jA<|.jP ?_;rw[dc.2 ⟨N,bS.2 h1,h2⟩]
 .refine (P9 nl n el g cap p hp hl λi hi=>by simpa using λq=>h ⟨i,hi,q⟩).jA<|.jP ?_;rw[cF.2 λi hi q=>h ⟨i,bS.1 hi,q⟩]
section
variable(jH:∀ i,i<n->p i=false)
def akn:ic 335 [.sl nl n 1 el,.fn g cap]<|iP (-1):=
 sH (af [.s (Sp.jX (Yi nl n el g cap) 0 n aC (λi hi rA=>by
    exact iS (af [tT 9 ((i:Int)<n) aC,iX (i:Int) n,.c (hp i aC:ic g ((el i 0)::cap) _),ai 16 (p i)<|jH i aC,iD<|(i:Int)+1]) aF)
  (λhi=>by
    exact iS (af [tF 9 ((n:Int)<n) aC]) aF) aI:jW 2 f335 (Yi nl n el g cap 0) (.exit 0) ⟨19,false,[],[]⟩) .nil])
def Yk:ic 282 [.sl nl n 1 el,.fn g cap]<|bP false:=
 sH (af [.c<|akn nl n el g cap p hp hl jH,ai 8 (decide ((0:Int)<=(-1))) aE])
end
end
end
section
variable(hp:∀ i,i<n->ic g ((.agg [el i 0,el i 1,el i 2,el i 3,el i 4,el i 5,el i 6])::cap) (bP<|p i))
def ajT(N:Nat)(hl:n<=1000000)(pR:N<n)(jH:∀ i,i<N->p i=false)(hN:p N=true):ic 87 [.sl nl n 7 el,.fn g cap]<|iP N:=
 sH (af [.s (Sp.jX (X7 nl n N el g cap) 0 N aC (λi hi rA=>by
    exact iS (af [tT 9 ((i:Int)<n) aC,iX (i:Int) n,.c (hp i aC:ic g ((.agg [el i 0,el i 1,el i 2,el i 3,el i 4,el i 5,el i 6])::cap) _),ai 16 (p i)<|jH i aC,iD<|(i:Int)+1]) aF)
  (λhi=>by
    exact iS (af [tT 9 ((N:Int)<n) aC,iX (N:Int) n,.c (hp N aC:ic g ((.agg [el N 0,el N 1,el N 2,el N 3,el N 4,el N 5,el N 6])::cap) _),ah 16 (p N) hN]) aF) aI:jW 2 Tryz.f87 (X7 nl n N el g cap 0) .ret ⟨19,false,[(4,.e<|iP N)],[]⟩) .nil])
def ajV(hl:n<=1000000)(jH:∀ i,i<n->p i=false):ic 87 [.sl nl n 7 el,.fn g cap]<|iP (-1):=
 sH (af [.s (Sp.jX (X6 nl n el g cap) 0 n aC (λi hi rA=>by
    exact iS (af [tT 9 ((i:Int)<n) aC,iX (i:Int) n,.c (hp i aC:ic g ((.agg [el i 0,el i 1,el i 2,el i 3,el i 4,el i 5,el i 6])::cap) _),ai 16 (p i)<|jH i aC,iD<|(i:Int)+1]) aF)
  (λhi=>by
    exact iS (af [tF 9 ((n:Int)<n) aC]) aF) aI:jW 2 Tryz.f87 (X6 nl n el g cap 0) (.exit 0) ⟨19,false,[],[]⟩) .nil])
def ajU(N:Nat)(hl:n<=1000000)(pR:N<n)(jH:∀ i,i<N->p i=false)(hN:p N=true):ic 39 [.sl nl n 7 el,.fn g cap]<|bP true:=
 sH (af [.c<|ajT nl n el g cap p hp N hl pR jH hN,tT 8 (0<=(N:Int)) aC])
def zJ(hl:n<=1000000)(jH:∀ i,i<n->p i=false):ic 39 [.sl nl n 7 el,.fn g cap]<|bP false:=
 sH (af [.c<|ajV nl n el g cap p hp hl jH,ai 8 (decide ((0:Int)<=(-1))) aE])
def II(hl:n<=1000000:=by omega):ic 39 [.sl nl n 7 el,.fn g cap]<|bP<|(List.range n).any p:=by
 by_cases h:∃ i,i<n/\p i=true
 .obtain ⟨N,h1,h2,h3⟩:∃ N,N<n/\p N=true/\∀ i,i<N->p i=false:=sD h;refine(ajU nl n el g cap p hp N hl h1 h3 h2).jA<|.jP ?_;rw[dc.2 ⟨N,bS.2 h1,h2⟩]
 .refine (zJ nl n el g cap p hp hl λi hi=>by simpa using λq=>h ⟨i,hi,q⟩).jA<|.jP ?_;rw[cF.2 λi hi q=>h ⟨i,bS.1 hi,q⟩]
end
section
variable(hp:∀ i,i<n->ic g ((el i 0)::cap) (bP<|p i))
def anq(N:Nat)(hl:n<=1000000)(pR:N<n)(jH:∀ i,i<N->p i=false)(hN:p N=true):ic 228 [.sl nl n 1 el,.fn g cap]<|iP N:=
 sH (af [.s (Sp.jX (aaz nl n N el g cap) 0 N aC (λi hi rA=>by
    exact iS (af [tT 9 ((i:Int)<n) aC,iX (i:Int) n,.c (hp i aC:ic g ((el i 0)::cap) _),ai 16 (p i)<|jH i aC,iD<|(i:Int)+1]) aF)
  (λhi=>by
    exact iS (af [tT 9 ((N:Int)<n) aC,iX (N:Int) n,.c (hp N aC:ic g ((el N 0)::cap) _),ah 16 (p N) hN]) aF) aI:jW 2 f228 (aaz nl n N el g cap 0) .ret ⟨19,false,[(4,.e<|iP N)],[]⟩) .nil])
def ans(hl:n<=1000000)(jH:∀ i,i<n->p i=false):ic 228 [.sl nl n 1 el,.fn g cap]<|iP (-1):=
 sH (af [.s (Sp.jX (aay nl n el g cap) 0 n aC (λi hi rA=>by
    exact iS (af [tT 9 ((i:Int)<n) aC,iX (i:Int) n,.c (hp i aC:ic g ((el i 0)::cap) _),ai 16 (p i)<|jH i aC,iD<|(i:Int)+1]) aF)
  (λhi=>by
    exact iS (af [tF 9 ((n:Int)<n) aC]) aF) aI:jW 2 f228 (aay nl n el g cap 0) (.exit 0) ⟨19,false,[],[]⟩) .nil])
def anr(N:Nat)(hl:n<=1000000)(pR:N<n)(jH:∀ i,i<N->p i=false)(hN:p N=true):ic 159 [.sl nl n 1 el,.fn g cap]<|bP true:=
 sH (af [.c<|anq nl n el g cap p hp N hl pR jH hN,tT 8 (0<=(N:Int)) aC])
def aaB(hl:n<=1000000)(jH:∀ i,i<n->p i=false):ic 159 [.sl nl n 1 el,.fn g cap]<|bP false:=
 sH (af [.c<|ans nl n el g cap p hp hl jH,ai 8 (decide ((0:Int)<=(-1))) aE])
def Mv(hl:n<=1000000:=by omega):ic 159 [.sl nl n 1 el,.fn g cap]<|bP<|(List.range n).any p:=by
 by_cases h:∃ i,i<n/\p i=true
 .obtain ⟨N,h1,h2,h3⟩:∃ N,N<n/\p N=true/\∀ i,i<N->p i=false:=sD h;refine(anr nl n el g cap p hp N hl h1 h3 h2).jA<|.jP ?_;rw[dc.2 ⟨N,bS.2 h1,h2⟩]
 .refine (aaB nl n el g cap p hp hl λi hi=>by simpa using λq=>h ⟨i,hi,q⟩).jA<|.jP ?_;rw[cF.2 λi hi q=>h ⟨i,bS.1 hi,q⟩]
end
end
section
variable(a b:List Nat)
def YU(x:Nat):PS:=⟨67,false,[(20,.e<|iP x),(19,.e<|iP a.length),(18,.e<|il a),(5,.own 17),(1,.e<|il b)],[(17,.row false 95 (a.length+b.length) 1<|qT<|lI a b x)]⟩
def YV(x:Nat)(k:Nat):PS:=⟨67,false,[(27,.e<|iP k),(26,.e<|iP b.length),(25,.e<|il b),(8,.e<|.v<|.int .u64 (((nx (a.getD x 0) x b (lI a b x) k).2:Nat):Int)),(7,.e<|.v<|.int .u32 (a.getD x 0:Int)),(6,.e<|iP x),(20,.e<|iP x),(19,.e<|iP a.length),(18,.e<|il a),(5,.own 17),(1,.e<|il b)],[(17,.row false 95 (a.length+b.length) 1<|qT<|(nx (a.getD x 0) x b (lI a b x) k).1)]⟩
def ak9(ha:iQ a)(hb:iQ b)(h1:a.length<=3000)(h2:b.length<=3000):ic 234 [il a,il b]<|il<|lI a b a.length:=
 sH (ae [iD<|(a.length:Int)+b.length,.a (aC:0<=(((a.length:Int)+b.length):Int)/\(((a.length:Int)+b.length):Int)<=(((a.length:Int)+b.length):Int)),.a (aC:((4:Nat):Int)*((a.length:Int)+b.length)<=281474976710656/\(((a.length:Int)+b.length):Int)<=9223372036854775807),.s (Sp.jX (YU a b) 0 a.length aC (λx hx mH=>by
    have f1:=ha.getD x;have so:=I3 ha hb x aC;have g1:=so.len;have g2:=(I2 f1 hb so.ok (i:=x) aC b.length aC).len;have g3:=(I2 f1 hb so.ok (i:=x) aC b.length aC).lt;exact iS (ae [tT 21 ((x:Int)<a.length) aC,iX (x:Int)<|a.length,.s (Sp.jX (YV a b x) 0 b.length aC (λk hk tA=>by
    have f2:=hb.getD k;have q:=I2 f1 hb so.ok (i:=x) aC k aC;have f3:=q.ok.getD<|x+k;have f4:=q.lt;have f5:=q.len;have f6:=YZ f1 f2;exact iS (ae [tT 28 ((k:Int)<b.length) aC,iX (k:Int)<|b.length,.o 33 (.int<|sI _:aj (.v<|.int .u64<|IntKind.u64.wrap (a.getD x 0:Int))<|.v<|.int .u64 (a.getD x 0:Int)),.o 35 (.int<|sI _:aj (.v<|.int .u64<|IntKind.u64.wrap (b.getD k 0:Int))<|.v<|.int .u64 (b.getD k 0:Int)),
     El ((a.getD x 0:Int)*(b.getD k 0:Int)),iD<|(x:Int)+k,iX ((x+k:Nat):Int)<|a.length+b.length,.a (aC:(x+k)<(a.length+b.length)),.o 43 (.int<|sI _:aj (.v<|.int .u64<|IntKind.u64.wrap ((((nx (a.getD x 0) x b (lI a b x) k).1).getD (x+k) 0:Nat):Int))<|.v<|.int .u64 ((((nx (a.getD x 0) x b (lI a b x) k).1).getD (x+k) 0:Nat):Int)),
     El ((((a.getD x 0)*(b.getD k 0):Nat):Int)+((((nx (a.getD x 0) x b (lI a b x) k).1).getD (x+k) 0:Nat):Int)),
     El (((((a.getD x 0)*(b.getD k 0))+(((nx (a.getD x 0) x b (lI a b x) k).1).getD (x+k) 0):Nat):Int)+(((nx (a.getD x 0) x b (lI a b x) k).2:Nat):Int)),
     iD ((x:Int)+k),.o 52 (.int<|Al _:aj (.v<|.int .u32<|IntKind.u32.wrap (((((a.getD x 0)*(b.getD k 0))+(((nx (a.getD x 0) x b (lI a b x) k).1).getD (x+k) 0))+(nx (a.getD x 0) x b (lI a b x) k).2:Nat):Int))<|.v<|.int .u32 ((((((a.getD x 0)*(b.getD k 0))+(((nx (a.getD x 0) x b (lI a b x) k).1).getD (x+k) 0))+(nx (a.getD x 0) x b (lI a b x) k).2)%4294967296:Nat):Int)),.a (aC:0<=(32:Int)/\(32:Int)<=((64:Nat):Int)),.o 54 (.int<|MD _:aj (.v<|.int .u64<|(((((a.getD x 0)*(b.getD k 0))+(((nx (a.getD x 0) x b (lI a b x) k).1).getD (x+k) 0))+(nx (a.getD x 0) x b (lI a b x) k).2:Nat):Int)/2^32)<|.v<|.int .u64 ((((((a.getD x 0)*(b.getD k 0))+(((nx (a.getD x 0) x b (lI a b x) k).1).getD (x+k) 0))+(nx (a.getD x 0) x b (lI a b x) k).2)/4294967296:Nat):Int)),
     iX ((x+k:Nat):Int) (a.length+b.length),.a (aC:(x+k)<(a.length+b.length)),iD<|(k:Int)+1]<|.e<|af [.o 8<|.int (k:=.u64) (by first|rfl|omega|(simp only[bL,bN];omega):((((((a.getD x 0)*(b.getD k 0))+(((nx (a.getD x 0) x b (lI a b x) k).1).getD (x+k) 0))+(nx (a.getD x 0) x b (lI a b x) k).2)/4294967296:Nat):Int)=(((nx (a.getD x 0) x b (lI a b x)<|k+1).2:Nat):Int)),.b 17 (RK rfl aC:Bx.le (.row false 95 (a.length+b.length) 1 λi' j'=>if i'=(x+k)/\0<=j'/\j'<0+1 then[.v<|.int .u32 ((((((a.getD x 0)*(b.getD k 0))+(((nx (a.getD x 0) x b (lI a b x) k).1).getD (x+k) 0))+(nx (a.getD x 0) x b (lI a b x) k).2)%4294967296:Nat):Int)].getD (j'-0) .any else(qT<|(nx (a.getD x 0) x b (lI a b x) k).1) i' j')<|.row false 95 (a.length+b.length) 1<|qT<|(nx (a.getD x 0) x b (lI a b x)<|k+1).1)]) aF)
  (λhk=>by
    exact iS (af [tF 28 ((b.length:Int)<b.length) aC]) aF) aI:jW 7 f234 (YV a b x 0) (.exit 2) ⟨67,false,[(8,.e<|.v<|.int .u64 (((nx (a.getD x 0) x b (lI a b x) b.length).2:Nat):Int)),(6,.e<|iP x),(20,.e<|iP x),(19,.e<|iP a.length),(18,.e<|il a),(5,.own 17),(1,.e<|il b)],[(17,.row false 95 (a.length+b.length) 1<|qT<|(nx (a.getD x 0) x b (lI a b x) b.length).1)]⟩)<|af [.o 8<|.int (k:=.u64) (by first|rfl|omega|(simp only[bL,bN];omega):0=(((nx (a.getD x 0) x b (lI a b x) 0).2:Nat):Int)),.b 17<|.refl<|.row false 95 (a.length+b.length) 1<|qT<|(nx (a.getD x 0) x b (lI a b x) 0).1],
     iD ((x:Int)+b.length),.o 63 (.int<|Al _:aj (.v<|.int .u32<|IntKind.u32.wrap (((nx (a.getD x 0) x b (lI a b x) b.length).2:Nat):Int))<|.v<|.int .u32 (((nx (a.getD x 0) x b (lI a b x) b.length).2%4294967296:Nat):Int)),
     iX ((x+b.length:Nat):Int) (a.length+b.length),.a (aC:(x+b.length)<(a.length+b.length)),iD<|(x:Int)+1]<|.e<|af [.b 17 (RK rfl aC:Bx.le (.row false 95 (a.length+b.length) 1 λi' j'=>if i'=(x+b.length)/\0<=j'/\j'<0+1 then[.v<|.int .u32 (((nx (a.getD x 0) x b (lI a b x) b.length).2%4294967296:Nat):Int)].getD (j'-0) .any else(qT<|(nx (a.getD x 0) x b (lI a b x) b.length).1) i' j')<|.row false 95 (a.length+b.length) 1<|qT<|lI a b<|x+1)]) aF)
  (λhx=>by
    exact iS (af [tF 21 ((a.length:Int)<a.length) aC]) aF) aI:jW 3 f234 (YU a b 0) (.exit 0) ⟨67,false,[(5,.own 17)],[(17,.row false 95 (a.length+b.length) 1<|qT<|lI a b a.length)]⟩)<|af [.b 17 (aaD rfl (λi=>by simp[lI,bc,gE];split<;>rfl):Bx.le (.row false 95 (a.length+b.length) 1 λ_ j_=>[.v<|.int .u32 0].getD j_ .any)<|.row false 95 (a.length+b.length) 1<|qT<|lI a b 0)]]<|rR (il<|lI a b a.length) (abe<|by rw[(I3 ha hb a.length aC).len]:E.le (.sl false (a.length+b.length) 1<|qT<|lI a b a.length)<|il<|lI a b a.length))
end
section
variable(L:List Nat)
def QG(h:L.length<=256):ic 283 [il L]<|bP false:=
 iy (af [tF 5 (256<(L.length:Int)) aC])
def ak8(h1:L.length<=256):ic 232 [(.sl true 1 1 λi_ j_=>[il L].getD (i_*1+j_)<|.v<|.bool false)]<|bP false:=
 iy (af [.c (Yk true 1 _ 283 [] (λ_=>false) (λi hi=>(match i,hi with|0,_=>QG _ h1|n+1,hi=>absurd hi aC)) aC λ_ _=>rfl:ic 282 [(.sl true 1 1 λi_ j_=>[il L].getD (i_*1+j_)<|.v<|.bool false),.fn 283 []] _)])
def Y5(M:List Nat)(h1:L.length<=256)(h2:M.length<=256):ic 232 [(.sl true 2 1 λi_ j_=>[il L,il M].getD (i_*1+j_)<|.v<|.bool false)]<|bP false:=
 iy (af [.c (Yk true 2 _ 283 [] (λ_=>false) (λi hi=>(match i,hi with|0,_=>QG _ h1|1,_=>QG _ h2|n+2,hi=>absurd hi aC)) aC λ_ _=>rfl:ic 282 [(.sl true 2 1 λi_ j_=>[il L,il M].getD (i_*1+j_)<|.v<|.bool false),.fn 283 []] _)])
end
def Y6(L M:List Nat)(hL:iQ L)(hM:iQ M)(h1:L.length<=256)(h2:M.length<=256)(hf:(ib<|val L*val M).length<=256):ic 178 [il L,il M]<|.ix [il<|ib<|val L*val M,iP 0]:=by
 have ka:=hL.iO;have kb:=hM.iO;have ta:=qh L;have tb:=qh M;unfold mS at ta tb;have km:=(I3 ka kb _<|a7 _).ok;have he:iO (lI (iO L) (iO M) (iO L).length)=ib (val L*val M):=by rw[s8 km,apy ka kb,qL,qL]
 have hd:(iO<|lI (iO L) (iO M) (iO L).length).length<=256:=by rw[he];exact hf
 exact iy<|ae [.c<|Y5 L M aD aD,.c<|vv L hL,.c<|vv M hM,.c<|ak9 (iO L) (iO M) ka kb aC aC,.c<|Y3 (lI (iO L) (iO M) (iO L).length) km hd]<|rQ (.ix [il<|iO<|lI (iO L) (iO M) (iO L).length,iP 0]) (.ix [il<|ib<|val L*val M,iP 0])<|by rw[he]
def Bn(m n:Nat)(h1:(ib m).length<=256)(h2:(ib n).length<=256)(hf:(ib<|m*n).length<=256):ic 178 [il<|ib m,il<|ib n]<|.ix [il<|ib<|m*n,iP 0]:=by
 have:=Y6 (ib m) (ib n) (mJ m) (mJ n) h1 h2 (by rw[kK,kK];exact hf);rwa[kK,kK]at this
def xI(m n:Nat)(h1:(ib m).length<=256:=by omega)(h2:n<=65536:=by omega)(h3:(ib<|m*2^n).length<=256:=by omega):ic 281 [il<|ib m,iP n]<|il<|ib<|m*2^n:=
 iy (af [.c<|QI m n aC aC aC])
def Rs(m n:Nat)(h1:(ib m).length<=256)(h2:n<=65536):ic 295 [il<|ib m,iP n]<|.ix [il<|ib<|m/2^n,bP<|decide (m%2^n≠0)]:=by
 have hb:=GR h1;have hq:(ib<|m/2^n).length<=256:=qd (by have:=uW<|b5 m<|2^n;omega);have A5:(ib<|m/2^n*2^n).length<=256:=qd (by have:=uW<|cU m<|2^n;omega);have hr:(ib<|m/2^iq m).length<=256:=qd (by have:=uW<|b5 m<|2^iq m;omega);have qb:(ib<|m/2^iq m*2^iq m).length<=256:=qd (by have:=uW<|cU m<|2^iq m;omega);by_cases hn:iq m<n
 .have q1:=UK<|dq hn;have q2:=UK<|a7<|iq m;exact iy<|ae [.c<|tL m,tT 11 ((iq m:Int)<n) aC,.c<|tL m,.c<|QJ m (iq m) aC aC,.c<|xI (m/2^(iq m))<|iq m,.c<|zW ((m/2^(iq m))*2^(iq m)) m]<|rQ (.ix [il<|ib<|m/2^(iq m),bP<|(kI ((m/2^(iq m))*2^(iq m)) m) != 0]) (.ix [il<|ib<|m/2^n,bP<|decide (m%2^n≠0)])<|by rw[Yr,q1.1,q1.2,q2.1,q2.2]
 .exact iy<|ae [.c<|tL m,tF 11 ((iq m:Int)<n) aC,.c<|QJ m n aC aC,.c<|xI (m/2^n) n,.c<|zW ((m/2^n)*2^n) m]<|rQ (.ix [il<|ib<|m/2^n,bP<|(kI ((m/2^n)*2^n) m) != 0]) (.ix [il<|ib<|m/2^n,bP<|decide (m%2^n≠0)])<|by rw[Yr]
abbrev Sk:E:=.sl false 1 1 λi_ j_=>[.v<|.int .u32 1].getD (i_*1+j_)<|.v<|.bool false
def oH(m:Nat)(e:Int)(p:Nat):Nat:=if jq m e p<=e then m*2^(e-jq m e p).toNat else m/2^(jq m e p-e).toNat
section
variable(m:Nat)(e:Int)(more:Bool)(p:Nat)
def sP:Bool:=if jq m e p<=e then more else(more||decide (m%2^(jq m e p-e).toNat≠0))
def afi:om m e more p false=oH m e p:=by unfold om oH;simp
end
def NY{m:Nat}{e:Int}{more:Bool}{p:Nat}(hm:more=true->p<iq m):om m e more p true=oH m e p+if sP m e more p=true then 1 else 0:=by
 unfold om oH sP;by_cases hU:jq m e p<=e
 .have hmo:more=false:=by
   cases PI:more with
   |false=>rfl
   |true=>have:=hm PI;unfold jq at hU;omega
  simp[hU,hmo]
 .simp [hU]
def amw(m:Nat)(e:Int)(more up:Bool)(p:Nat)(h1:(ib m).length<=256)(h0:m≠0)(iu:8<=p)(ie:p<=512)(mO:-45000<=e)(lL:e<=45000)(hm:more=true->p<iq m):ic 293 [.agg [il<|ib m,iP e,bP more],iP (p:Int),bP up]<|.ix [iw<|j9 false m e more p up,iP<|jY false m e more p up]:=by
 have Xc:=Ur (e:=e) true h0 hm (aC:1<=p);have xp:=Ur (e:=e) false h0 hm (aC:1<=p);have hb:=GR h1;have Hw:=oV h0;have W6:=Uo (e:=e) (more:=more) (p:=p) (up:=true) h0;have DJ:=Uo (e:=e) (more:=more) (p:=p) (up:=false) h0;rw[afi]at xp DJ;have hu1:-16384<=(jq m e p):=by unfold jq;omega
 have hu2:(jq m e p)<=60000:=by unfold jq;omega
 have hu3:(jq m e p)<=max (e+8192) (-16384):=by unfold jq;omega
 have fa:(ib<|oH m e p).length<=256:=qd;have fb:(ib<|om m e more p true).length<=256:=qd;have f1:(ib 1).length<=256:=qd aE;cases up with
 |true=>
  exact iy (ae [.c<|tL m,iD<|e+(iq m:Int),iD<|(e+(iq m:Int))-(p:Int),.o 21<|aq (if(-16384)>((e+(iq m:Int))-(p:Int))then(-16384)else((e+(iq m:Int))-(p:Int))) (jq m e p)<|by unfold jq;split<;>omega,.j 58 ⟨84,true,[(9,.e<|il<|ib<|oH m e p),(10,.e<|bP<|sP m e more p),(8,.e<|iP<|jq m e p),(6,.box 6 0),(1,.e<|iP p),(2,.e<|bP true)],[(6,.cells 37 ar)]⟩
   (.w ((jq m e p)<=e)
    (λm1=>by
     have fx:(ib<|m*2^(e-(jq m e p)).toNat).length<=256:=by have:=fa;rwa[show oH m e p=_ from aY m1]at this
     exact ae [.v 29<|.bool<|aZ m1,iD<|e-(jq m e p),.o 35<|aq (e-(jq m e p)) ((e-(jq m e p)).toNat:Int),.c<|xI m ((e-(jq m e p)).toNat:Nat)]<|.e<|af [.o 9 (.e<|.jP<|by rw[show oH m e p=_ from aY m1]:aj (il<|ib<|m*2^((e-(jq m e p)).toNat))<|il<|ib<|oH m e p),tB 10 (by simp[sP,m1]:more=(sP m e more p))])
    (λm1=>ae [.v 29<|.bool<|a6 m1,iD<|(jq m e p)-e,.o 43<|aq ((jq m e p)-e) (((jq m e p)-e).toNat:Int),.c<|Rs m (((jq m e p)-e).toNat:Nat) aC aC]<|.w (more=true)
     (λm2=>ae [tB 48 m2]<|.e<|af [.o 9 (.e<|.jP<|by rw[show oH m e p=_ from aX m1]:aj (il<|ib<|m/2^(((jq m e p)-e).toNat))<|il<|ib<|oH m e p),tB 10 (by simp[sP,m1,m2]:true=(sP m e more p))])
     (λm2=>ae [tB 48<|aU m2]<|.e<|af [.o 9 (.e<|.jP<|by rw[show oH m e p=_ from aX m1]:aj (il<|ib<|m/2^(((jq m e p)-e).toNat))<|il<|ib<|oH m e p),tB 10 (by simp[sP,m1,m2]:(decide (m%2^(((jq m e p)-e).toNat)≠0))=(sP m e more p))]))),.j 110 ⟨84,true,[(9,.e<|il<|ib<|om m e more p true),(8,.e<|iP<|jq m e p),(6,.box 6 0),(1,.e<|iP p),(2,.e<|bP true)],[(6,.cells 37 ar)]⟩
   (.w (sP m e more p=true)
    (λm1=>by
     have fx:(ib<|oH m e p+1).length<=256:=by have:=fb;rwa[NY hm,aY m1]at this
     exact ae [.v 55<|.bool m1,.o 58 (.e Ac:aj Sk<|il<|ib 1),.c<|I6 (oH m e p) 1 aC aC aC]<|.e<|af [.o 9 (.e<|.jP<|by rw[NY hm,aY m1]:aj (il<|ib<|(oH m e p)+1)<|il<|ib<|om m e more p true)])
    (λm1=>ae [.v 55<|.bool<|aU m1]<|.e<|af [.o 9 (.e<|.jP<|by rw[NY hm,aX m1,bT]:aj (il<|ib<|oH m e p)<|il<|ib<|om m e more p true)])),.c<|tL<|om m e more p true,iD<|(iq<|om m e more p true:Int)+(jq m e p)]<|.w (16384<((iq<|om m e more p true:Int)+(jq m e p)))
   (λk1=>by
    have w1:=(Xc.resolve_left λh=>absurd k1 aC).2.resolve_right λh=>absurd h.1 aE;exact ae [tB 66<|aZ k1,.o 68 (.e tc:aj (.agg ar)<|iw iR)]<|rQ (.ix [iw iR,iP 9]) (.ix [iw<|j9 false m e more p true,iP<|jY false m e more p true])<|by rw[w1.2.1,w1.2.2])
   (λk1=>by
    have w1:=Xc.resolve_right λh=>k1 h.1;have hd:nj<|canon false (om m e more p true)<|jq m e p:=by rw[<-w1.2.1];exact(tn false m e more p true).range
    exact ae [tB 66<|a6 k1,.c<|Db false (om m e more p true) (jq m e p) aC aC aC aD]<|rQ (.ix [iw<|canon false (om m e more p true)<|jq m e p,iP 0]) (.ix [iw<|j9 false m e more p true,iP<|jY false m e more p true])<|by rw[w1.2.1,w1.2.2]))
 |false=>
  exact iy (ae [.c<|tL m,iD<|e+(iq m:Int),iD<|(e+(iq m:Int))-(p:Int),.o 21<|aq (if(-16384)>((e+(iq m:Int))-(p:Int))then(-16384)else((e+(iq m:Int))-(p:Int))) (jq m e p)<|by unfold jq;split<;>omega,.j 58 ⟨84,true,[(9,.e<|il<|ib<|oH m e p),(10,.e<|bP<|sP m e more p),(8,.e<|iP<|jq m e p),(6,.box 6 0),(1,.e<|iP p),(2,.e<|bP false)],[(6,.cells 37 ar)]⟩
   (.w ((jq m e p)<=e)
    (λm1=>by
     have fx:(ib<|m*2^(e-(jq m e p)).toNat).length<=256:=by have:=fa;rwa[show oH m e p=_ from aY m1]at this
     exact ae [.v 29<|.bool<|aZ m1,iD<|e-(jq m e p),.o 35<|aq (e-(jq m e p)) ((e-(jq m e p)).toNat:Int),.c<|xI m ((e-(jq m e p)).toNat:Nat)]<|.e<|af [.o 9 (.e<|.jP<|by rw[show oH m e p=_ from aY m1]:aj (il<|ib<|m*2^((e-(jq m e p)).toNat))<|il<|ib<|oH m e p),tB 10 (by simp[sP,m1]:more=(sP m e more p))])
    (λm1=>ae [.v 29<|.bool<|a6 m1,iD<|(jq m e p)-e,.o 43<|aq ((jq m e p)-e) (((jq m e p)-e).toNat:Int),.c<|Rs m (((jq m e p)-e).toNat:Nat) aC aC]<|.w (more=true)
     (λm2=>ae [tB 48 m2]<|.e<|af [.o 9 (.e<|.jP<|by rw[show oH m e p=_ from aX m1]:aj (il<|ib<|m/2^(((jq m e p)-e).toNat))<|il<|ib<|oH m e p),tB 10 (by simp[sP,m1,m2]:true=(sP m e more p))])
     (λm2=>ae [tB 48<|aU m2]<|.e<|af [.o 9 (.e<|.jP<|by rw[show oH m e p=_ from aX m1]:aj (il<|ib<|m/2^(((jq m e p)-e).toNat))<|il<|ib<|oH m e p),tB 10 (by simp[sP,m1,m2]:(decide (m%2^(((jq m e p)-e).toNat)≠0))=(sP m e more p))]))),.c<|tL<|oH m e p,iD<|(iq<|oH m e p:Int)+(jq m e p)]<|.w (16384<((iq<|oH m e p:Int)+(jq m e p)))
   (λk1=>by
    have w1:=(xp.resolve_left λh=>absurd k1 aC).2.resolve_left λh=>absurd h.1 aE;have hd:nj<|canon false ((1*2^p)-1)<|16384-(p:Int):=by rw[bN,<-w1.2.1];exact(tn false m e more p false).range
    have g0:iq (1*2^p)=p+1:=by rw[bN];exact AB (a7 _) (gF aE aC)
    have g1:(ib 1).length<=256:=qd aE;have g2:(ib<|1*2^p).length<=256:=qd;have g4:1<=1*2^p:=by rw[bN];exact bn aE 
    have g3:(ib<|(1*2^p)-1).length<=256:=qd (by have:=uW<|eU (1*2^p) 1;omega);exact ae [tB 66<|aZ k1,.o 70 (.e Ac:aj Sk<|il<|ib 1),.c<|xI 1 p,.o 73 (.e Ac:aj Sk<|il<|ib 1),.c<|D8 (1*2^p) 1 aC aC,
     iD (16384-(p:Int)),.c<|Db false ((1*2^p)-1) (16384-(p:Int)) aC aC aC aD]<|rQ (.ix [iw<|canon false ((1*2^p)-1)<|16384-(p:Int),iP 0]) (.ix [iw<|j9 false m e more p false,iP<|jY false m e more p false])<|by rw[w1.2.1,w1.2.2,bN])
   (λk1=>by
    have w1:=xp.resolve_right λh=>k1 h.1;have hd:nj<|canon false (oH m e p)<|jq m e p:=by rw[<-w1.2.1];exact(tn false m e more p false).range
    exact ae [tB 66<|a6 k1,.c<|Db false (oH m e p) (jq m e p) aC aC aC aD]<|rQ (.ix [iw<|canon false (oH m e p)<|jq m e p,iP 0]) (.ix [iw<|j9 false m e more p false,iP<|jY false m e more p false])<|by rw[w1.2.1,w1.2.2]))
def amx(up:Bool)(p:Nat)(iu:8<=p)(ie:p<=512):ic 293 [.agg [il<|ib 0,iP 0,bP false],iP (p:Int),bP up]<|.ix [iw<|j9 false 0 0 false p up,iP<|jY false 0 0 false p up]:=by
 have hU:jq 0 0 p = -(p:Int):=by unfold jq;rw[sO];omega
 have hK:jJ 0 0 p=0:=by unfold jJ;rw[sO];omega
 have hQ:kV 0 0 false p up=0:=by unfold kV;rw[hK];simp
 have hO:mz 0 0 false p up=false:=by unfold mz;rw[hQ];simp
 have qn:(false != up)=up:=by cases up<;>rfl
 have k2:j9 false 0 0 false p up=iR:=by unfold j9;rw[qn,hO,aX aE,hQ];rfl
 have k3:jY false 0 0 false p up=0:=by unfold jY;rw[qn,hO];rfl
 have lz:iq 0=0:=rfl;have l0:(ib 0).length<=256:=by rw[pG];decide
 have l1:(ib<|0*2^(0-jq 0 0 p).toNat).length<=256:=by rw[cH];exact l0
 have lb:iq (0*2^(0-jq 0 0 p).toNat)=0:=by rw[cH];rfl
 have hd:nj<|canon false (0*2^(0-jq 0 0 p).toNat)<|jq 0 0 p:=by rw[cH];exact .inl rfl
 by_cases Xl:up=true
 .exact iy (ae [.c<|tL 0,iD<|0+(iq 0:Int),iD<|(0+(iq 0:Int))-(p:Int),.o 21<|aq (if(-16384)>((0+(iq 0:Int))-(p:Int))then(-16384)else((0+(iq 0:Int))-(p:Int))) (jq 0 0 p)<|by unfold jq;rw[sO];split<;>omega,tT 29 ((jq 0 0 p)<=0) aC,iD<|0-(jq 0 0 p),.o 35<|aq (0-(jq 0 0 p)) ((0-(jq 0 0 p)).toNat:Int),.c<|xI 0 ((0-(jq 0 0 p)).toNat:Nat),ah 52 up Xl,.c<|tL<|0*2^((0-(jq 0 0 p)).toNat),
   iD ((iq<|0*2^((0-(jq 0 0 p)).toNat):Int)+(jq 0 0 p)),tF 66 (16384<((iq<|0*2^((0-(jq 0 0 p)).toNat):Int)+(jq 0 0 p))) aC,.c<|Db false (0*2^((0-(jq 0 0 p)).toNat)) (jq 0 0 p) aC aC aC aD]<|rQ (.ix [iw<|canon false (0*2^((0-(jq 0 0 p)).toNat))<|jq 0 0 p,iP 0]) (.ix [iw<|j9 false 0 0 false p up,iP<|jY false 0 0 false p up])<|by rw[k2,k3,cH];rfl)
 .exact iy (ae [.c<|tL 0,iD<|0+(iq 0:Int),iD<|(0+(iq 0:Int))-(p:Int),.o 21<|aq (if(-16384)>((0+(iq 0:Int))-(p:Int))then(-16384)else((0+(iq 0:Int))-(p:Int))) (jq 0 0 p)<|by unfold jq;rw[sO];split<;>omega,tT 29 ((jq 0 0 p)<=0) aC,iD<|0-(jq 0 0 p),.o 35<|aq (0-(jq 0 0 p)) ((0-(jq 0 0 p)).toNat:Int),.c<|xI 0 ((0-(jq 0 0 p)).toNat:Nat),ai 52 up<|by simpa using Xl,.c<|tL<|0*2^((0-(jq 0 0 p)).toNat),
   iD ((iq<|0*2^((0-(jq 0 0 p)).toNat):Int)+(jq 0 0 p)),tF 66 (16384<((iq<|0*2^((0-(jq 0 0 p)).toNat):Int)+(jq 0 0 p))) aC,.c<|Db false (0*2^((0-(jq 0 0 p)).toNat)) (jq 0 0 p) aC aC aC aD]<|rQ (.ix [iw<|canon false (0*2^((0-(jq 0 0 p)).toNat))<|jq 0 0 p,iP 0]) (.ix [iw<|j9 false 0 0 false p up,iP<|jY false 0 0 false p up])<|by rw[k2,k3,cH];rfl)
def F5(m:Nat)(e:Int)(more up:Bool)(p:Nat)(h1:(ib m).length<=256)(h0:m≠0\/m=0/\e=0/\more=false)(iu:8<=p)(ie:p<=512)(mO:-45000<=e)(lL:e<=45000)(hm:more=true->p<iq m):ic 293 [.agg [il<|ib m,iP e,bP more],iP (p:Int),bP up]<|.ix [iw<|j9 false m e more p up,iP<|jY false m e more p up]:=by
 rcases h0 with h0|⟨rfl,rfl,rfl⟩
 .exact amw m e more up p h1 h0 iu ie mO lL hm
 .exact amx up p iu ie
def kT(p:Int):Bool:=decide (8<=p)&&decide (p<=512)
def pH{p:Int}:kT p=true↔8<=p/\p<=512:=by simp[kT]
def xw(p:Int):ic 118 [iP p]<|bP<|kT p:=by
 by_cases h:8<=p
 .exact iy<|ae [tB 4<|aZ h]<|rQ (bP<|decide (p<=512)) (bP<|kT p)<|by simp[kT,h]
 .exact iy<|ae [tB 4<|a6 h]<|rQ (bP false) (bP<|kT p)<|by simp[kT,h]
def amz(p:Int):ic 292 [iP p]<|bP<|kT p:=by
 by_cases h:8<=p
 .exact iy<|ae [tB 4<|aZ h]<|rQ (bP<|decide (p<=512)) (bP<|kT p)<|by simp[kT,h]
 .exact iy<|ae [tB 4<|a6 h]<|rQ (bP false) (bP<|kT p)<|by simp[kT,h]
def FO(p:Int):ic 164 [iP p]<|bP<|kT p:=by
 by_cases h:8<=p
 .exact iy<|ae [tB 4<|aZ h]<|rQ (bP<|decide (p<=512)) (bP<|kT p)<|by simp[kT,h]
 .exact iy<|ae [tB 4<|a6 h]<|rQ (bP false) (bP<|kT p)<|by simp[kT,h]
def aaf(l:List Dy)(p:Nat)(i:Nat):PS:=⟨20,true,[(9,.e<|iP i),(8,.e<|iP l.length),(7,.e<|E6 l),(0,.e<|iP p)],[]⟩
def Jt(neg:Bool)(m:Nat)(e:Int)(more up:Bool)(p:Nat)(h1:(ib m).length<=256)(h0:m≠0\/m=0/\e=0/\more=false)(iu:8<=p)(ie:p<=512)(mO:-45000<=e)(lL:e<=45000)(hm:more=true->p<iq m):ic 246 [bP neg,.agg [il<|ib m,iP e,bP more],iP p,bP up]<|.ix [iw<|j9 neg m e more p up,iP<|jY neg m e more p up]:=by
 cases neg with
 |true=>
  have hs:=Uv true m e more p up;change _/\(jY false m e more p (!(up==true))=0->_->jo (j9 false m e more p<|!(up==true))=_)/\((jY false m e more p (!(up==true))≠0\/_)->j9 false m e more p (!(up==true))=_)at hs;have hE:jY true m e more p up=jY false m e more p (!(up==true)):=hs.1;have hv:=tn false m e more p (!(up==true)) (aC:1<=p);by_cases hz:jY false m e more p (!(up==true))=0
  .exact iy<|ae [.c<|F5 m e more (! (up==true)) p aC aD aC aC aC aC aD,ah 22 ((jY false m e more p<|!(up==true))==0)<|by rw[hz];rfl,.c<|wU (j9 false m e more p<|! (up==true)) aD]<|rQ (.ix [iw<|jo<|j9 false m e more p<|!(up==true),iP<|jY false m e more p<|!(up==true)]) (.ix [iw<|j9 true m e more p up,iP<|jY true m e more p up])<|by rw[hs.2.1 hz rfl,hE]
  .exact iy<|ae [.c<|F5 m e more (! (up==true)) p aC aD aC aC aC aC aD,ai 22 ((jY false m e more p<|!(up==true))==0)<|by simpa using hz]<|rQ (.ix [iw<|j9 false m e more p<|!(up==true),iP<|jY false m e more p<|!(up==true)]) (.ix [iw<|j9 true m e more p up,iP<|jY true m e more p up])<|by rw[hs.2.2<|.inl hz,hE]
 |false=>
  have hs:=Uv false m e more p up;change _/\(jY false m e more p (!(up==false))=0->_->jo (j9 false m e more p<|!(up==false))=_)/\((jY false m e more p (!(up==false))≠0\/_)->j9 false m e more p (!(up==false))=_)at hs;have hE:jY false m e more p up=jY false m e more p (!(up==false)):=hs.1;have hv:=tn false m e more p (!(up==false)) (aC:1<=p);by_cases hz:jY false m e more p (!(up==false))=0
  .exact iy<|ae [.c<|F5 m e more (! (up==false)) p aC aD aC aC aC aC aD,ah 22 ((jY false m e more p<|!(up==false))==0)<|by rw[hz];rfl]<|rQ (.ix [iw<|j9 false m e more p<|!(up==false),iP<|jY false m e more p<|!(up==false)]) (.ix [iw<|j9 false m e more p up,iP<|jY false m e more p up])<|by rw[hs.2.2<|.inr rfl,hE]
  .exact iy<|ae [.c<|F5 m e more (! (up==false)) p aC aD aC aC aC aC aD,ai 22 ((jY false m e more p<|!(up==false))==0)<|by simpa using hz]<|rQ (.ix [iw<|j9 false m e more p<|!(up==false),iP<|jY false m e more p<|!(up==false)]) (.ix [iw<|j9 false m e more p up,iP<|jY false m e more p up])<|by rw[hs.2.2<|.inl hz,hE]
def amy(d:Dy):ic 294 [iw d]<|.agg [il<|ib d.m,iP d.e,bP false]:=
 iy (.nil)
def aag(p:Nat)(l:List Dy)(hl:l.length<=1000)(hv:∀ i,i<l.length->(l.getD i iR).ig)(iu:8<=p)(ie:p<=512):ic 245 [iP p,E6 l]<|iP 0:=
 iy (af [.s (Sp.jX (aaf l p) 0 l.length aC (λi hi rA=>by
    have Xp:=hv i rA;exact iS (af [tT 10 ((i:Int)<l.length) aC,iX (i:Int)<|l.length,.c<|qk (l.getD i iR) aD,iD<|(i:Int)+1]) aF)
  (λhi=>by
    exact iS (af [tF 10 ((l.length:Int)<l.length) aC]) aF) aI:jW 2 f245 (aaf l p 0) (.exit 0) ⟨20,true,[(0,.e<|iP p)],[]⟩) .nil,.c<|amz (p:Int),ah 18 (kT (p:Int))<|pH.2 ⟨aC,aC⟩])
def Rq(p:Nat)(a:Dy)(ha:a.ig)(iu:8<=p)(ie:p<=512):ic 245 [iP (p:Int),E6 [a]]<|iP 0:=
 aag p [a] aH (λi hi=>(match i,hi with
  | 0,_=>ha
  |n+1,hi=>absurd hi aH)) iu ie
def yO(p:Nat)(a b:Dy)(ha:a.ig)(hb:b.ig)(iu:8<=p:=by omega)(ie:p<=512:=by omega):ic 245 [iP (p:Int),E6 [a,b]]<|iP 0:=
 aag p [a,b] aH (λi hi=>(match i,hi with
  | 0,_=>ha
  | 1,_=>hb
  |n+2,hi=>absurd hi aH)) iu ie
def Ml(d:Dy)(p:Nat)(up:Bool)(hd:d.ig)(iu:8<=p:=by omega)(ie:p<=512:=by omega):ic 251 [iw d,iP p,bP up]<|.ix [iw<|jN d p up,iP<|jC d p up]:=by
 have hl:=hd.ib;have hz:d.m≠0\/d.m=0/\d.e=0/\false=false:=by
  by_cases h:d.m=0
  .rcases hd.canon with q|q
   .exact .inr ⟨h,q.2.2,rfl⟩
   .omega
  .exact .inl h
 have LA:-45000<=d.e:=by have:=hd.exp;omega
 have uG:d.e<=45000:=by have:=hd.exp;omega
 have hm:false=true->p<iq d.m:=λh=>by cases h
 exact iy<|af [.o 11<|.e<|Oe d,.c<|Rq p d aD aC aC,ai 14 ((0:Int) != 0) aE,.c<|amy d,.c<|Jt d.neg d.m d.e false up p aC aD aC aC aC aC aD]
def EZ{a b:Nat}:kI a b<0↔a<b:=by
 unfold kI;split
 .simp_all
 .split<;>simp_all
def Mm(a b:Dy)(p:Nat)(ha:a.ig)(hb:b.ig)(a0:a.m≠0)(b0:b.m≠0)(ht:b.iz<=a.iz)(iu:8<=p:=by omega)(ie:p<=512:=by omega):ic 252 [iw a,iw b,iP p]<|.ix [.agg [il<|ib<|mh a b p,iP<|jv a b p,bP<|nI a b p],bP<|qf a b p]:=by
 have sz:=MM ha hb a0 b0 ht ie;have sp:=R5 ha hb a0 b0 ht ie;obtain⟨l1,l2,l3,l4,l5,l6,l7,l8,l9⟩:=sz;obtain⟨l10,l11,l12⟩:=sp;obtain⟨r1,r2,r3⟩:=RE a b p;have va:=ha.ib;have vb:=hb.ib;have xa:=ha.exp;have xb:=hb.exp;have ta:=Gm a0;have tb:=Gm b0;have ba:=GR va;have bb:=GR vb;have z1:(ib<|a.m*2^((a.e-(jv a b p)).toNat)).length<=256:=qd (aC:iq (oC a b p)<=_);have zy:(ib<|mZ b<|jv a b p).length<=256:=qd;have z3:(ib<|mX a b p).length<=256:=qd;have zm:(ib<|mh a b p).length<=256:=qd;have z5:(ib 1).length<=256:=qd aE;exact iy (ae [.c<|oo a aD,iD<|(Dy.iz a)-(p:Int),iD<|((Dy.iz a)-(p:Int))-8,.c<|oo a aD,.c<|oo b aD,
  iD ((Dy.iz a)-(Dy.iz b)),.j 62 ⟨109,true,[(8,.e<|iP<|jv a b p),(6,.box 6 0),(4,.box 4 0),(3,.box 3 0)],[(6,.cells 213 [.v<|.slice none 0 0,iP 0,bP false]),(4,.cells 37<|jf b),(3,.cells 37<|jf a)]⟩
   (.w (((Dy.iz a)-(Dy.iz b))<=2)
    (λm1=>ae [.v 31<|.bool<|aZ m1]<|.e<|af [.o 8<|aq (if b.e<(if(((Dy.iz a)-(p:Int))-8)<a.e then(((Dy.iz a)-(p:Int))-8)else a.e)then b.e else(if(((Dy.iz a)-(p:Int))-8)<a.e then(((Dy.iz a)-(p:Int))-8)else a.e)) (jv a b p)<|by unfold jv;rw[aY m1];split<;>split<;>omega])
    (λm1=>ae [.v 31<|.bool<|a6 m1]<|.e<|af [.o 8<|aq (if(((Dy.iz a)-(p:Int))-8)<a.e then(((Dy.iz a)-(p:Int))-8)else a.e) (jv a b p)<|by unfold jv;rw[aX m1];split<;>omega])),
  iD (a.e-(jv a b p)),.o 41<|aq (a.e-(jv a b p)) ((a.e-(jv a b p)).toNat:Int),.c<|xI a.m<|(a.e-(jv a b p)).toNat,.j 92 ⟨109,true,[(10,.e<|il<|ib<|mZ b<|jv a b p),(11,.e<|bP<|nZ b<|jv a b p),(9,.e<|il<|ib<|a.m*2^((a.e-(jv a b p)).toNat)),(8,.e<|iP<|jv a b p),(6,.box 6 0),(4,.box 4 0),(3,.box 3 0)],[(6,.cells 213 [.v<|.slice none 0 0,iP 0,bP false]),(4,.cells 37<|jf b),(3,.cells 37<|jf a)]⟩
   (.w ((jv a b p)<=b.e)
    (λm1=>by
     have z2:(ib<|b.m*2^((b.e-(jv a b p)).toNat)).length<=256:=by have:=zy;rwa[show mZ b (jv a b p)=_ from aY m1]at this
     exact ae [.v 46<|.bool<|aZ m1,iD<|b.e-(jv a b p),.o 52<|aq (b.e-(jv a b p)) ((b.e-(jv a b p)).toNat:Int),.c<|xI b.m<|(b.e-(jv a b p)).toNat]<|.e<|af [.o 10 (.e<|.jP<|by rw[show mZ b (jv a b p)=_ from aY m1]:aj (il<|ib<|b.m*2^((b.e-(jv a b p)).toNat))<|il<|ib<|mZ b<|jv a b p),tB 11 (by simp[nZ,m1]:false=(nZ b<|jv a b p))])
    (λm1=>ae [.v 46<|.bool<|a6 m1,iD<|(jv a b p)-b.e,.o 60<|aq ((jv a b p)-b.e) (((jv a b p)-b.e).toNat:Int),.c<|Rs b.m (((jv a b p)-b.e).toNat) aC aC]<|.e<|af [.o 10 (.e<|.jP<|by rw[show mZ b (jv a b p)=_ from aX m1]:aj (il<|ib<|b.m/2^(((jv a b p)-b.e).toNat))<|il<|ib<|mZ b<|jv a b p),tB 11 (by simp[nZ,m1]:(decide (b.m%2^(((jv a b p)-b.e).toNat)≠0))=(nZ b<|jv a b p))]))]<|.w (a.neg=b.neg)
  (λk1=>by
   have eT:qf a b p=false:=by unfold qf;simp[k1]
   have eY:mX a b p=mZ b (jv a b p):=by unfold mX;simp[k1]
   have eM:mh a b p=oC a b p+mZ b (jv a b p):=by unfold mh;rw[aY k1,eY]
   have eS:nI a b p=nZ b (jv a b p):=by unfold nI;rw[eT];simp
   have z4:(ib<|(a.m*2^((a.e-(jv a b p)).toNat))+mZ b (jv a b p)).length<=256:=by have:=zm;rwa[eM]at this
   exact ae [tB 68<|aT k1,.c<|I6 (a.m*2^((a.e-(jv a b p)).toNat)) (mZ b<|jv a b p) aC aC aC]<|rQ (.ix [.agg [il<|ib<|(a.m*2^((a.e-(jv a b p)).toNat))+(mZ b<|jv a b p),iP<|jv a b p,bP<|nZ b<|jv a b p],bP false]) (.ix [.agg [il<|ib<|mh a b p,iP<|jv a b p,bP<|nI a b p],bP<|qf a b p])<|by rw[eM,eS,eT];rfl)
  (λk1=>ae [tB 68<|aS k1,.j 158 ⟨109,true,[(10,.e<|il<|ib<|mX a b p),(11,.e<|bP<|nZ b<|jv a b p),(9,.e<|il<|ib<|a.m*2^((a.e-(jv a b p)).toNat)),(8,.e<|iP<|jv a b p),(6,.box 6 0)],[(6,.cells 213 [.v<|.slice none 0 0,iP 0,bP false])]⟩
   (.w (nZ b (jv a b p)=true)
    (λm1=>by
     have z6:(ib<|(mZ b<|jv a b p)+1).length<=256:=qd (by rw[show(mZ b<|jv a b p)+1=mX a b p by(unfold mX;simp[k1,m1])];omega);exact ae [.v 79<|.bool m1,.o 82 (.e Ac:aj (.sl false 1 1 λi_ j_=>[.v<|.int .u32 1].getD (i_*1+j_)<|.v<|.bool false)<|il<|ib 1),.c<|I6 (mZ b<|jv a b p) 1 aC aC aC]<|.e<|af [.o 10 (.e<|.jP<|by unfold mX;simp[k1,m1]:aj (il<|ib<|(mZ b<|jv a b p)+1)<|il<|ib<|mX a b p)])
    (λm1=>ae [.v 79<|.bool<|aU m1]<|.e<|af [.o 10 (.e<|.jP<|by unfold mX;simp[k1,m1]:aj (il<|ib<|mZ b<|jv a b p)<|il<|ib<|mX a b p)])),.c<|zW (a.m*2^((a.e-(jv a b p)).toNat))<|mX a b p]<|.w ((kI (a.m*2^((a.e-(jv a b p)).toNat))<|mX a b p)<0)
   (λk2=>by
    have hc:oC a b p<mX a b p:=EZ.1 k2;have eT:qf a b p=true:=by unfold qf;simp[k1,hc]
    have eM:mh a b p=mX a b p-oC a b p:=by unfold mh;rw[aX k1,aY hc]
    have eS:nI a b p=false:=by unfold nI;rw[eT];simp
    have z4:(ib<|mX a b p-(a.m*2^((a.e-(jv a b p)).toNat))).length<=256:=by have:=zm;rwa[eM]at this
    have z7:(a.m*2^((a.e-(jv a b p)).toNat))<=mX a b p:=dq hc;exact ae [tB 89<|aZ k2,.c<|D8 (mX a b p) (a.m*2^((a.e-(jv a b p)).toNat)) aC aC]<|rQ (.ix [.agg [il<|ib<|(mX a b p)-(a.m*2^((a.e-(jv a b p)).toNat)),iP<|jv a b p,bP false],bP true]) (.ix [.agg [il<|ib<|mh a b p,iP<|jv a b p,bP<|nI a b p],bP<|qf a b p])<|by rw[eM,eS,eT];rfl)
   (λk2=>by
    have hc:¬oC a b p<mX a b p:=λh=>k2 (EZ.2 h)
    have eT:qf a b p=false:=by unfold qf;simp[hc]
    have eM:mh a b p=oC a b p-mX a b p:=by unfold mh;rw[aX k1,aX hc]
    have eS:nI a b p=nZ b (jv a b p):=by unfold nI;rw[eT];simp
    have z4:(ib<|(a.m*2^((a.e-(jv a b p)).toNat))-mX a b p).length<=256:=by have:=zm;rwa[eM]at this
    have z7:mX a b p<=(a.m*2^((a.e-(jv a b p)).toNat)):=Nat.le_of_not_lt hc;exact ae [tB 89<|a6 k2,.c<|D8 (a.m*2^((a.e-(jv a b p)).toNat)) (mX a b p) aC aC]<|rQ (.ix [.agg [il<|ib<|(a.m*2^((a.e-(jv a b p)).toNat))-(mX a b p),iP<|jv a b p,bP<|nZ b<|jv a b p],bP false]) (.ix [.agg [il<|ib<|mh a b p,iP<|jv a b p,bP<|nI a b p],bP<|qf a b p])<|by rw[eM,eS,eT];rfl)))
def CK(p:Nat)(up:Bool):jN iR p up=iR/\jC iR p up=0:=by
 have hK:jJ 0 0 p=0:=by unfold jJ;rw[sO];omega
 have hQ:∀ o,kV 0 0 false p o=0:=by intro o;unfold kV;rw[hK];simp
 have hO:∀ o,mz 0 0 false p o=false:=by intro o;unfold mz;rw[hQ];simp
 unfold jN jC j9 jY;simp only[iR,hO,hQ];exact⟨rfl,rfl⟩
section
variable(a b:Dy)(p:Nat)(up:Bool)(ha:a.ig)(hb:b.ig)(iu:8<=p)(ie:p<=512)
def aab:ic 205 [iw a,iw b,iP p,bP up]<|.ix [iw<|jN (iM a b) p up,iP<|jC (iM a b) p up]:=by
 by_cases a0:a.m=0
 .have e1:iM a b=b:=by unfold iM;rw[aY a0]
  exact iy<|ae [.o 16<|.e<|yh a b,.c<|yO p a b aD aD,ai 19 ((0:Int) != 0) aE,ah 26 (((ib a.m).length:Int)==0)<|sY<|wq.2 a0,.c<|Ml b p up aD]<|rQ (.ix [iw<|jN b p up,iP<|jC b p up]) (.ix [iw<|jN (iM a b) p up,iP<|jC (iM a b) p up])<|by rw[e1]
 .by_cases b0:b.m=0
  .have e1:iM a b=a:=by unfold iM;rw[aX a0,aY b0]
   exact iy<|ae [.o 16<|.e<|yh a b,.c<|yO p a b aD aD,ai 19 ((0:Int) != 0) aE,ai 26 (((ib a.m).length:Int)==0)<|nG<|pV a0,ah 37 (((ib b.m).length:Int)==0)<|sY<|wq.2 b0,.c<|Ml a p up aD]<|rQ (.ix [iw<|jN a p up,iP<|jC a p up]) (.ix [iw<|jN (iM a b) p up,iP<|jC (iM a b) p up])<|by rw[e1]
  .by_cases ht:a.iz<b.iz
   .have tI:a.iz<=b.iz:= aC ;have law:=abw (p:=p) hb ha b0 a0 up;have siz:=MM hb ha b0 a0 tI ie;have prt:=R5 hb ha b0 a0 tI ie;obtain⟨l1,l2,_,_,_,_,_,_,_⟩:=siz;have z1:(ib<|mh b a p).length<=256:=qd;have tC:=prt.2.2;have y1:-45000<=jv b a p:= aC ;have y2:jv b a p<=45000:= aC ;by_cases hz:mh b a p=0
    .by_cases hl:nI b a p=true
     .have h0:mh b a p≠0:=by intro q;have:=tC hl;rw[q,sO]at this;omega
      exact absurd hz h0
     .replace hz:mh b a p=0/\nI b a p=false:=⟨hz,by simpa using hl⟩
      have Ba:iM a b=iR:=by rw[R2 a0 b0];exact law.1 hz
      exact iy<|ae [.o 16<|.e<|yh a b,.c<|yO p a b aD aD,ai 19 ((0:Int) != 0) aE,ai 26 (((ib a.m).length:Int)==0)<|nG<|pV a0,ai 37 (((ib b.m).length:Int)==0)<|nG<|pV b0,.c<|oo a aD,.c<|oo b aD,tB 48<|aZ ht,.c<|Mm b a p aD aD aD aD aD,ah 61 (((ib<|mh b a p).length:Int)==0)<|sY<|wq.2 hz.1,ai 64 (nI b a p) hz.2,.o 67 (.e tc:aj (.agg ar)<|iw iR)]<|rQ (.ix [iw iR,iP 0]) (.ix [iw<|jN (iM a b) p up,iP<|jC (iM a b) p up])<|by rw[Ba,(CK p up).1,(CK p up).2]
    .have h0:mh b a p≠0\/mh b a p=0/\jv b a p=0/\nI b a p=false:=.inl hz;obtain⟨q1,q2⟩:=law.2 λq=>hz q.1;rw[<-R2 a0 b0]at q1 q2;exact iy<|ae [.o 16<|.e<|yh a b,.c<|yO p a b aD aD,ai 19 ((0:Int) != 0) aE,ai 26 (((ib a.m).length:Int)==0)<|nG<|pV a0,ai 37 (((ib b.m).length:Int)==0)<|nG<|pV b0,.c<|oo a aD,.c<|oo b aD,tB 48<|aZ ht,.c<|Mm b a p aD aD aD aD aD,ai 61 (((ib<|mh b a p).length:Int)==0)<|nG<|pV hz,.c<|Jt (! (b.neg==(qf b a p))) (mh b a p) (jv b a p) (nI b a p) up p aC aD aC aC aC aC aD]<|rQ (.ix [iw<|j9 (!(b.neg==(qf b a p))) (mh b a p) (jv b a p) (nI b a p) p up,iP<|jY (!(b.neg==(qf b a p))) (mh b a p) (jv b a p) (nI b a p) p up]) (.ix [iw<|jN (iM a b) p up,iP<|jC (iM a b) p up])<|by rw[<-q1,<-q2];rfl
   .have tI:b.iz<=a.iz:= aC ;have law:=abw (p:=p) ha hb a0 b0 up;have siz:=MM ha hb a0 b0 tI ie;have prt:=R5 ha hb a0 b0 tI ie;obtain⟨l1,l2,_,_,_,_,_,_,_⟩:=siz;have z1:(ib<|mh a b p).length<=256:=qd;have tC:=prt.2.2;have y1:-45000<=jv a b p:= aC ;have y2:jv a b p<=45000:= aC ;by_cases hz:mh a b p=0
    .by_cases hl:nI a b p=true
     .have h0:mh a b p≠0:=by intro q;have:=tC hl;rw[q,sO]at this;omega
      exact absurd hz h0
     .replace hz:mh a b p=0/\nI a b p=false:=⟨hz,by simpa using hl⟩
      have Ba:iM a b=iR:=by exact law.1 hz
      exact iy<|ae [.o 16<|.e<|yh a b,.c<|yO p a b aD aD,ai 19 ((0:Int) != 0) aE,ai 26 (((ib a.m).length:Int)==0)<|nG<|pV a0,ai 37 (((ib b.m).length:Int)==0)<|nG<|pV b0,.c<|oo a aD,.c<|oo b aD,tB 48<|a6 ht,.c<|Mm a b p aD aD aD aD aD,ah 61 (((ib<|mh a b p).length:Int)==0)<|sY<|wq.2 hz.1,ai 64 (nI a b p) hz.2,.o 67 (.e tc:aj (.agg ar)<|iw iR)]<|rQ (.ix [iw iR,iP 0]) (.ix [iw<|jN (iM a b) p up,iP<|jC (iM a b) p up])<|by rw[Ba,(CK p up).1,(CK p up).2]
    .have h0:mh a b p≠0\/mh a b p=0/\jv a b p=0/\nI a b p=false:=.inl hz;obtain⟨q1,q2⟩:=law.2 λq=>hz q.1;exact iy<|ae [.o 16<|.e<|yh a b,.c<|yO p a b aD aD,ai 19 ((0:Int) != 0) aE,ai 26 (((ib a.m).length:Int)==0)<|nG<|pV a0,ai 37 (((ib b.m).length:Int)==0)<|nG<|pV b0,.c<|oo a aD,.c<|oo b aD,tB 48<|a6 ht,.c<|Mm a b p aD aD aD aD aD,ai 61 (((ib<|mh a b p).length:Int)==0)<|nG<|pV hz,.c<|Jt (! (a.neg==(qf a b p))) (mh a b p) (jv a b p) (nI a b p) up p aC aD aC aC aC aC aD]<|rQ (.ix [iw<|j9 (!(a.neg==(qf a b p))) (mh a b p) (jv a b p) (nI a b p) p up,iP<|jY (!(a.neg==(qf a b p))) (mh a b p) (jv a b p) (nI a b p) p up]) (.ix [iw<|jN (iM a b) p up,iP<|jC (iM a b) p up])<|by rw[<-q1,<-q2];rfl
def aah:ic 198 [iw a,iw b,iP p,bP up]<|.ix [iw<|jN (mW a b) p up,iP<|jC (mW a b) p up]:=by
 by_cases a0:a.m=0
 .have e1:mW a b=iR:=by unfold mW;rw[a0,cH];rfl
  exact iy<|ae [.o 16<|.e<|yh a b,.c<|yO p a b aD aD,ai 19 ((0:Int) != 0) aE,ah 25 (((ib a.m).length:Int)==0)<|sY<|wq.2 a0,.o 32 (.e tc:aj (.agg ar)<|iw iR)]<|rQ (.ix [iw iR,iP 0]) (.ix [iw<|jN (mW a b) p up,iP<|jC (mW a b) p up])<|by rw[e1,(CK p up).1,(CK p up).2]
 .by_cases b0:b.m=0
  .have e1:mW a b=iR:=by unfold mW;rw[b0,cS];rfl
   exact iy<|ae [.o 16<|.e<|yh a b,.c<|yO p a b aD aD,ai 19 ((0:Int) != 0) aE,ai 25 (((ib a.m).length:Int)==0)<|nG<|pV a0,ah 30 (((ib b.m).length:Int)==0)<|sY<|wq.2 b0,.o 32 (.e tc:aj (.agg ar)<|iw iR)]<|rQ (.ix [iw iR,iP 0]) (.ix [iw<|jN (mW a b) p up,iP<|jC (mW a b) p up])<|by rw[e1,(CK p up).1,(CK p up).2]
  .have va:=ha.ib;have vb:=hb.ib;have xa:=ha.exp;have xb:=hb.exp;have ra:=ha.range.resolve_left a0;have rb:=hb.range.resolve_left b0;have bm:=ND a.m b.m;have z1:(ib<|a.m*b.m).length<=256:=qd;have m0:a.m*b.m≠0:=dN a0 b0;have h0:a.m*b.m≠0\/a.m*b.m=0/\a.e+b.e=0/\false=false:=.inl m0;have hm:false=true->p<iq (a.m*b.m):=λh=>by cases h
   obtain⟨q1,q2⟩:=aar (a.neg != b.neg) up (a.m*b.m) (a.e+b.e) p m0;change jN (mW a b) p up=_ at q1;change jC (mW a b) p up=_ at q2;exact iy<|ae [.o 16<|.e<|yh a b,.c<|yO p a b aD aD,ai 19 ((0:Int) != 0) aE,ai 25 (((ib a.m).length:Int)==0)<|nG<|pV a0,ai 30 (((ib b.m).length:Int)==0)<|nG<|pV b0,.c<|Bn a.m b.m aC aC aC,iD<|a.e+b.e,.c<|Jt (! (a.neg==b.neg)) (a.m*b.m) (a.e+b.e) false up p aC aD aC aC aC aC aD]<|rQ (.ix [iw<|j9 (!(a.neg==b.neg)) (a.m*b.m) (a.e+b.e) false p up,iP<|jY (!(a.neg==b.neg)) (a.m*b.m) (a.e+b.e) false p up]) (.ix [iw<|jN (mW a b) p up,iP<|jC (mW a b) p up])<|by rw[q1,q2];rfl
end
section
variable(a b:Dy)(p:Nat)(ha:a.ig)(hb:b.ig)
def aaa(iu:8<=p)(ie:p<=512):ic 125 [iw a,iw b,iP p]<|.ix [iw<|jN (iM a b) p false,iP<|jC (iM a b) p false]:=
 iy (af [.c<|aab a b p false aD aD aC aC])
def wE(iu:8<=p:=by omega)(ie:p<=512:=by omega):ic 126 [iw a,iw b,iP p]<|.ix [iw<|jN (iM a b) p true,iP<|jC (iM a b) p true]:=
 iy (af [.c<|aab a b p true aD aD aC aC])
def Mj(iu:8<=p)(ie:p<=512):ic 120 [iw a,iw b,iP p]<|.ix [iw<|jN (mW a b) p false,iP<|jC (mW a b) p false]:=
 iy (af [.c<|aah a b p false aD aD aC aC])
def Mk(iu:8<=p)(ie:p<=512):ic 121 [iw a,iw b,iP p]<|.ix [iw<|jN (mW a b) p true,iP<|jC (mW a b) p true]:=
 iy (af [.c<|aah a b p true aD aD aC aC])
end
end Go.Proofs.YtjkmahljfblobaaGreatDoor
namespace Go.Proofs.YtjkmahljfblobaaGreatDoor.Fp
def aj2{U V P q:Nat}(hP:0<P)(hV:9223372036854775808<=V/P)(hUV:U<4294967296*V)(h1:q<=4294967295)(h2:q<=U/P/(V/P))(h3:q=4294967295\/U/P/(V/P)<=q):
 U/V<=q/\q<=U/V+1:=by
 have O4:0<V/P:= aC ;have yl:0<V:=by
  apply bQ;intro h;have:V=0:= aC ;rw[this,apI]at O4;omega
 have hVm:=cL V P;have hVr:=bJ V hP;have hUm:=cL U P;have hUr:=bJ U hP;constructor
 .
  rcases h3 with h3|h3
  .have:U/V<4294967296:=by rw[cG yl];exact hUV
   omega
  .refine bg ?_ h3;rw[dp O4,dp hP,bB];have h4:V/P*P<=V:=cU V P;exact bg (cJ _ h4)<|cU U V
 .
  have h4:q*(V/P)<=U/P:=(dp O4).1 h2;have h5:q*V<=q*(V/P)*P+q*P:=by
   have:V<=V/P*P+P:=by rw[bI];omega
   have:=cJ q this;rw[bW,<-bB]at this;exact this
  have h6:q*(V/P)*P<=U:=bg (bG P h4)<|cU U P;have h7:(q+1)*P<=V/P*P:=bG P aC;have h8:V/P*P<=V:=cU V P;have h9:q*V<U+V:=by
   rw[bL,bN]at h7;omega
  apply bQ;intro h;have nh:(U/V+2)*V<=q*V:=bG V aC;have nW:=cL U V;have h12:=bJ U yl;rw[bL,bI<|U/V]at nh;omega
section
variable{x v w third q rest:Nat}(hx:q*v+rest=x)
def afx(hq:q<=4294967295)(hw:w<4294967296)(hv:0<v)
 (h:4294967296<=rest\/q*w<=rest*4294967296+third):q<=(x*4294967296+third)/(v*4294967296+w):=by
 rw[dp aC,bW,<-hx];have e:q*(v*4294967296)=q*v*4294967296:=by rw[bB]
 rw[e,bL];rcases h with h|h
 .have h1:q*w<=4294967295*4294967295:=dB hq aC ;omega
 .omega
def UD(hv:0<v)(h:rest*4294967296+third<q*w):
 (x*4294967296+third)/(v*4294967296+w)<=q-1/\0<q/\(q-1)*v+(rest+v)=x:=by
 have hq:0<q:=by
  apply bQ;intro h';have:q=0:= aC ;subst this;rw[cH]at h;omega
 obtain⟨r,rfl⟩:∃ r,q=r+1:=⟨q-1,aC⟩
 refine⟨?_,hq,?_⟩
 .have e1:(r+1)*(v*4294967296+w)=(r+1)*v*4294967296+(r+1)*w:=by rw[bW,<-bB]
  have e2:((r+1)*v+rest)*4294967296=(r+1)*v*4294967296+rest*4294967296:=bL _ _ _;have:(x*4294967296+third)/(v*4294967296+w)<r+1:=by
   have hd:0<v*4294967296+w:= aC ;have e4:x*4294967296=(r+1)*v*4294967296+rest*4294967296:=hx▸e2;refine(cG hd).2 ?_;rw[e1,e4];clear e1 e2 e4 hd hx hq;generalize (r+1)*v=a at *
   generalize (r+1)*w=z at *
   exact Nat.add_lt_add_left h _|>λh=>by rw[<-cO]at h;exact h
  omega
 .have e3:(r+1)*v=r*v+v:=aqT r v;rw[eE];rw[e3]at hx;clear e3 h hq;generalize r*v=a at *
  omega
end
def afz{x v w third:Nat}(hv:0<v)(ht:third<4294967296):(x*4294967296+third)/(v*4294967296+w)<=x/v:=by
 have h1:(x*4294967296+third)/(v*4294967296+w)<=(x*4294967296+third)/(v*4294967296):=aqU aC aC;refine bg h1 ?_;rw[bI v,<-dE];have:(x*4294967296+third)/4294967296=x:= aC ;rw[this];exact a7 _
structure y5(O0:List Nat)(j q:Nat)(V:List Nat)(k:Nat)(O:List Nat)(c b:Nat):Prop where
 len:O.length=O0.length
 ok:iQ O
 vl:val O+q*(4294967296^j*val (V.take k))=val O0+4294967296^(j+k)*(c+b)
 qW:∀ i,j+k<=i->O.getD i 0=O0.getD i 0
 TY:c<4294967296
 TF:b<=1
def y5.start{O0:List Nat}(h:iQ O0)(j q:Nat)(V:List Nat):y5 O0 j q V 0 O0 0 0:=
 ⟨rfl,h,by simp[val],λ_ _=>rfl,aE,aE⟩
def ao3{q y c b u:Nat}(hq:q<=4294967295)(hy:y<4294967296)(hc:c<4294967296)(hb:b<=1)(hu:u<4294967296):
 q*y+c<18446744073709551616/\(q*y+c)/4294967296<4294967296 /\
 ((u+18446744073709551616-(q*y+c)%4294967296-b)%18446744073709551616)/9223372036854775808<=1 /\
 ((u+18446744073709551616-(q*y+c)%4294967296-b)%18446744073709551616)%4294967296+(q*y+c)%4294967296+b =
  u+4294967296*(((u+18446744073709551616-(q*y+c)%4294967296-b)%18446744073709551616)/9223372036854775808):=by
 have h1:q*y<=4294967295*4294967295:=dB hq aC;generalize q*y=z at *
 omega
def y5.step{O0 V O:List Nat}{j q k c b:Nat}(h:y5 O0 j q V k O c b){u' b':Nat}(hk:k<V.length)(hj:j+V.length<O0.length)(hu:u'<4294967296)(hc:(q*V.getD k 0+c)/4294967296<4294967296)(hb:b'<=1)
 (hd:u'+(q*V.getD k 0+c)%4294967296+b=O.getD (j+k) 0+4294967296*b'):
 y5 O0 j q V (k+1) (O.set (j+k) u') ((q*V.getD k 0+c)/4294967296) b':=by
 have qQ:j+k<O.length:=by rw[h.len];omega
 refine⟨by rw[dm];exact h.len,h.ok.set _ hu,?_,λi hi=>?_,hc,hb⟩
 .have e:=eX (q*V.getD k 0+c) 4294967296;have h1:=Ez (x:=u') qQ;have h2:=h.vl;have h3:u'+(q*V.getD k 0+c)+b=O.getD (j+k) 0+4294967296*((q*V.getD k 0+c)/4294967296+b'):= aC ;have h4:=congrArg (4294967296^(j+k) * ·) h3;simp only[bW]at h4;rw[CQ,bW<|4294967296^j,bW q,<-bB (4294967296^j),<-bj,show q*(4294967296^(j+k)*V.getD k 0)=4294967296^(j+k)*(q*V.getD k 0)from en _ _ _,
   show j+(k+1)=j+k+1 from rfl,bF,bB,bW 4294967296,bW<|4294967296^(j+k)]
  rw[bW]at h2;omega
 .rw [B7 aC];exact h.qW i aC 
def y5.Ql{O0 V O:List Nat}{j q c b:Nat}(h:y5 O0 j q V V.length O c b)(hj:j+V.length<O0.length){t:Nat}
 (ht:t=(O.getD (j+V.length) 0+18446744073709551616-c-b)%18446744073709551616):
 (O.set (j+V.length)<|t%4294967296).length=O0.length/\iQ (O.set (j+V.length)<|t%4294967296)/\t/9223372036854775808<=1 /\
 val (O.set (j+V.length)<|t%4294967296)+q*(4294967296^j*val V)=val O0+4294967296^(j+V.length+1)*(t/9223372036854775808) /\
 ∀ i,j+V.length<i->(O.set (j+V.length)<|t%4294967296).getD i 0=O0.getD i 0:=by
 have qQ:j+V.length<O.length:=by rw[h.len];omega
 have hc:=h.TY;have hb:=h.TF;have hu:=h.ok.getD<|j+V.length;have hd:t%4294967296+c+b=O.getD (j+V.length) 0+4294967296*(t/9223372036854775808):= aC ;refine⟨by rw[dm];exact h.len,h.ok.set _<|bJ _ aE,aC,?_,λi hi=>by rw[B7 aC];exact h.qW i aC⟩;have h1:=Ez (x:=t%4294967296) qQ;have h2:=h.vl;rw[ado]at h2;have h4:=congrArg (4294967296^(j+V.length) * ·) hd;simp only[bW]at h4;rw[bF,bB];rw[bW]at h2;omega
structure yZ(O0:List Nat)(j:Nat)(V:List Nat)(k:Nat)(O:List Nat)(c:Nat):Prop where
 len:O.length=O0.length
 ok:iQ O
 vl:val O+4294967296^(j+k)*c=val O0+4294967296^j*val (V.take k)
 qW:∀ i,j+k<=i->O.getD i 0=O0.getD i 0
 NL:c<=1
def yZ.start{O0:List Nat}(h:iQ O0)(j:Nat)(V:List Nat):yZ O0 j V 0 O0 0:=
 ⟨rfl,h,by simp[val],λ_ _=>rfl,aE⟩
def yZ.step{O0 V O:List Nat}{j k c:Nat}(h:yZ O0 j V k O c)(hV:iQ V)(hk:k<V.length)(hj:j+V.length<O0.length):
 yZ O0 j V (k+1) (O.set (j+k)<|(O.getD (j+k) 0+V.getD k 0+c)%4294967296) ((O.getD (j+k) 0+V.getD k 0+c)/4294967296):=by
 have qQ:j+k<O.length:=by rw[h.len];omega
 have hu:=h.ok.getD<|j+k;have hy:=hV.getD k;have hc:=h.NL;refine⟨by rw[dm];exact h.len,h.ok.set _<|bJ _ aE,?_,λi hi=>by rw[B7 aC];exact h.qW i aC,aC⟩;have h1:=Ez (x:=(O.getD (j+k) 0+V.getD k 0+c)%4294967296) qQ;have h2:=h.vl;have h4:=congrArg (4294967296^(j+k) * ·)<|eX (O.getD (j+k) 0+V.getD k 0+c) 4294967296;simp only[bW]at h4;rw[CQ,bW<|4294967296^j,<-bB (4294967296^j),<-bj,show j+(k+1)=j+k+1 from rfl,bF,bB];omega
def yZ.Ql{O0 V O:List Nat}{j c:Nat}(h:yZ O0 j V V.length O c)(hj:j+V.length<O0.length):
 (O.set (j+V.length)<|(O.getD (j+V.length) 0+c)%4294967296).length=O0.length/\iQ (O.set (j+V.length)<|(O.getD (j+V.length) 0+c)%4294967296) /\
 (∃ κ,κ<=1/\val (O.set (j+V.length)<|(O.getD (j+V.length) 0+c)%4294967296)+4294967296^(j+V.length+1)*κ=val O0+4294967296^j*val V) /\
 ∀ i,j+V.length<i->(O.set (j+V.length)<|(O.getD (j+V.length) 0+c)%4294967296).getD i 0=O0.getD i 0:=by
 have qQ:j+V.length<O.length:=by rw[h.len];omega
 have hu:=h.ok.getD<|j+V.length;have hc:=h.NL;refine⟨by rw[dm];exact h.len,h.ok.set _<|bJ _ aE,⟨(O.getD (j+V.length) 0+c)/4294967296,aC,?_⟩,λi hi=>by rw[B7 aC];exact h.qW i aC⟩;have h1:=Ez (x:=(O.getD (j+V.length) 0+c)%4294967296) qQ;have h2:=h.vl;rw[ado]at h2;have h4:=congrArg (4294967296^(j+V.length) * ·)<|eX (O.getD (j+V.length) 0+c) 4294967296;simp only[bW]at h4;rw[bF,bB];omega
section
variable{O:List Nat}(h:iQ O){k:Nat}
def abY(hz:∀ i,k<=i->O.getD i 0=0):val O<4294967296^k:=by
 by_cases hk:O.length<=k
 .exact bM (pk h)<|bO aE hk
 .rw [Gr O k];have:val (O.drop k)=0:=by
   rw[JP];intro x hx;obtain⟨i,hi⟩:=dh.1 hx;rw[dx]at hi;have:=hz (k+i) aC;rw[bc,hi]at this;exact this
  rw[this,cS,bT];have h1:=pk<|h.take k;rw[cB,df aC]at h1;exact h1
def apd(hv:val O<4294967296^k){i:Nat}(hi:k<=i):O.getD i 0=0:=by
 have h1:val (O.drop k)=0:=by rw[JO h,cY hv]
 rw[JP]at h1;rw[bc];cases hg:O[i]? with
 |none=>rfl
 |some x=>exact h1 x<|dh.2 ⟨i-k,by rw[dx,(aC:k+(i-k)=i)];exact hg⟩
end
def UE{u u' V P x:Nat}(hP:0<P)(hV:0<V)(h:u'+x*(P*V)=u)(hx:u/P/V<=x):x=u/P/V/\u'<V*P:=by
 have h1:x*V<=u/P:=by
  rw[dp hP,bB,bI V P];omega
 have h2:x<=u/P/V:=(dp hV).2 h1;have h3:x=u/P/V:= aC ;refine⟨h3,?_⟩;have e1:=cL u P;have e2:=bJ u hP;have e3:=cL (u/P) V;have e4:=bJ (u/P) hV;rw[<-h3]at e3;have e5:P*(u/P)=x*(P*V)+P*(u/P%V):=by
  rw[<-e3,bW,e3,bI V x,en]
 have e6:P*(u/P%V)+P<=V*P:=by
  rw[bI V P,<-Nat.mul_succ];exact cJ P e4
 omega
def afy{u u' u'' V P R x κ:Nat}(hP:0<P)(hV:0<V)(h:u'+x*(P*V)=u+R)(h':u'<R)(hx:x<=u/P/V+1)
 (hk:κ<=1) (h2:u''+R*κ=u'+P*V) (h3:u''<R):0<x/\x-1=u/P/V/\u''+(x-1)*(P*V)=u/\u''<V*P:=by
 have o9:u/P<x*V:=by
  rw[cG hP,bB,bI V P];omega
 have LA:u/P/V<x:=by rw[cG hV];exact o9
 have uG:x=u/P/V+1:=Nat.le_antisymm hx LA;obtain⟨y,hy⟩:∃ y,y=u/P/V:=⟨_,rfl⟩
 rw[<-hy]at uG;subst uG;rw[eE];have e0:(y+1)*(P*V)=y*(P*V)+P*V:=aqT _ _;have e1:y*(P*V)<=u:=by
  have:y*V<=u/P:=by rw[hy];exact cU _ _
  have:=(dp hP).1 this;rw[bB,bI V P]at this;exact this
 have hκ:κ=1:=by
  apply bQ;intro q;obtain rfl:κ=0:= aC ;omega
 subst hκ;have e2:u''+y*(P*V)=u:= aC ;exact⟨aC,hy,e2,(UE hP hV e2 aC).2⟩
def ud(q rest third v w x:Nat):Prop:=rest+x*v<4294967296/\(rest+x*v)*4294967296+third<(q-x)*w
def UB{X q rest third v w:Nat}(hx:q*v+rest=X)(hq:q<=4294967295)(hv:2147483648<=v)(hw:w<4294967296):
 ∃ N,N<=2/\N<=q/\(∀ x,x<N->ud q rest third v w x)/\¬ud q rest third v w N/\q-N<=(X*4294967296+third)/(v*4294967296+w)/\(N=0\/(X*4294967296+third)/(v*4294967296+w)<=q-N):=by
 have stop:∀ {q' r':Nat},q'*v+r'=X->q'<=4294967295->¬(r'<4294967296/\r'*4294967296+third<q'*w)->q'<=(X*4294967296+third)/(v*4294967296+w):=fun {q' r'} h1 h2 h3=>
  afx h1 h2 hw aC (by
   by_cases hr:4294967296<=r'
   .exact .inl hr
   .refine .inr<|Nat.le_of_not_lt λhn=>h3 ⟨Nat.lt_of_not_le hr,hn⟩)
 by_cases h0:ud q rest third v w 0
 .have g0:=h0;unfold ud at g0;rw[cH,bT,dQ]at g0;obtain⟨k1,k2,k3⟩:=UD hx aC g0.2;by_cases h1:ud q rest third v w 1
  .have g1:=h1;unfold ud at g1;rw[bN]at g1;obtain⟨l1,l2,l3⟩:=UD k3 aC g1.2;have h2:¬ud q rest third v w 2:=λh=>by unfold ud at h;omega
   refine⟨2,a7 _,aC,λx hx=>?_,h2,?_,.inr l1⟩
   .obtain rfl|rfl:x=0\/x=1:= aC 
    .exact h0
    .exact h1
   .refine stop (r':=rest+v+v) l3 aC λh=> aC 
  .refine ⟨1,aE,k2,λx hx=>?_,h1,?_,.inr k1⟩
   .obtain rfl:x=0:= aC ;exact h0
   .unfold ud at h1;rw[bN]at h1;exact stop k3 aC h1
 .refine ⟨0,aE,b7 _,λx hx=>absurd hx<|bt x,h0,?_,.inl rfl⟩;unfold ud at h0;rw[cH,bT,dQ]at h0;exact stop hx hq h0
def afN{a b s q r:Nat}(hb:0<b)(h:r+b*2^s*q=a*2^s)(hr:r<b*2^s):q=a/b/\r=a%b*2^s:=by
 have hp:0<2^s:=bn aE;have h1:r%2^s=0:=by
  have:=congrArg (· % 2^s) h;simp only[gn]at this;rw[bB,en,eD]at this;exact this
 obtain⟨t,ht⟩:∃ t,r=t*2^s:=⟨r/2^s,by rw[Nat.div_mul_cancel<|Nat.dvd_of_mod_eq_zero h1]⟩
 subst ht;have h2:(t+b*q)*2^s=a*2^s:=by rw[bL,<-h,gO]
 have h3:=arG hp h2;have h4:t<b:=arH hr;constructor
 .rw [<-h3,fp _ _ hb,cY h4,bZ]
 .rw [<-h3,eD,cj h4]
def abI{O:List Nat}(h:iQ O){j n:Nat}(hn:2<=n)(hz:∀ i,j+n<i->O.getD i 0=0):
 val O/4294967296^j/4294967296^(n-2)=(O.getD (j+n) 0*4294967296+O.getD (j+n-1) 0)*4294967296+O.getD (j+n-2) 0:=by
 rw[dE,<-bj,<-JO h];have e:∀ (l:List Nat),iQ l->(∀ i,2<i->l.getD i 0=0)->val l=(l.getD 2 0*4294967296+l.getD 1 0)*4294967296+l.getD 0 0:=by
  intro l hl hz;rcases l with _|⟨a,_|⟨b,_|⟨c,l⟩⟩⟩
  .rfl
  .simp [val]
  .simp [val];omega
  .have:val l=0:=by
    rw[JP];intro x hx;obtain⟨i,hi⟩:=dh.1 hx;have:=hz (i+3) aC;rw[bc]at this;simp only[arv,hi]at this;exact this
   simp[val,this];omega
 have g:∀ i,(O.drop<|j+(n-2)).getD i 0=O.getD (j+(n-2)+i) 0:=λi=>by
  rw[bc,dx,bc]
 rw[e _ (h.drop _) (λi hi=>by rw[g];exact hz _ aC),g,g,g];rw[(aC:j+(n-2)+2=j+n),(aC:j+(n-2)+1=j+n-1),(aC:j+(n-2)+0=j+n-2)]
def apb{V:List Nat}(h:iQ V){n:Nat}(hn:2<=n)(hl:V.length=n):val V/4294967296^(n-2)=V.getD (n-1) 0*4294967296+V.getD (n-2) 0:=by
 have:=abI (O:=V) h (j:=0) (n:=n) hn (λi hi=>by rw[bc,bX aC];rfl);rw[cA,fU,bZ]at this;rw[this,show V.getD n 0=0 by rw[bc,bX aC];rfl];omega
end Go.Proofs.YtjkmahljfblobaaGreatDoor.Fp
namespace Go.Proofs.YtjkmahljfblobaaGreatDoor
open Go.RowKit Fp
def Rx(w:World)(b:Nat)(L:List Nat)(R:List Value):Prop:=w.heap[b]? = some (.cells (oQ L++R).toArray 95 (0,0))
section
variable {w w':World} {b:Nat} {L:List Nat} {R:List Value}
def Rx.lt(h:Rx w b L R):b<w.heap.size:=(c9.1 h).1
def Rx.cell(h:Rx w b L R){i:Nat}(hi:i<L.length):w.cell? ⟨b,i,none⟩=some (.int .u32 (L.getD i 0:Int)):=by
 unfold Rx at h;simp only[World.cell?,h];simp[oQ,hi,eG]
def Rx.frozen(h:Rx w b L R)(i:Nat):w.frozen? ⟨b,i,none⟩=false:=by
 unfold Rx at h;simp[World.frozen?,h]
def Rx.set(h:Rx w b L R){i:Nat}(hi:i<L.length)(x:Nat):Rx (w.setCell ⟨b,i,none⟩<|.int .u32 (x:Int)) b (L.set i x) R:=by
 unfold Rx at h ⊢;simp only[World.setCell,cV,h];simp[oQ,List.map_set,List.set_append,hi]
def Rx.qW(h:Rx w b L R)(hb:w'.heap[b]? = w.heap[b]?):Rx w' b L R:=by unfold Rx at h ⊢;rw[hb];exact h
end
structure tX(b:Nat)(w w':World):Prop where
 below:Below b w w'
 size:w'.heap.size=w.heap.size
 nY:∀ x,x≠b->w'.heap[x]? = w.heap[x]?
def tX.refl(b:Nat)(w:World):tX b w w:=⟨Below.refl _ _,rfl,λ_ _=>rfl⟩
def tX.JC{b:Nat}{w w':World}(h:tX b w w')(i:Nat)(v:Value):tX b w<|w'.setCell ⟨b,i,none⟩ v:=
 ⟨h.below.setCell (p:=⟨b,i,none⟩) (a7 _) v,by
  have:(w'.setCell ⟨b,i,none⟩ v).heap.size=w'.heap.size:=by simp[World.setCell]
  rw[this,h.size],λx hx=>by
  rw[<-h.nY x hx];simp only[World.setCell,cV];rw[aX λe=>hx e.symm]⟩
def SB(b:Nat)(A:Option Addr):Prop:=∀ b' o s,A=some ⟨b',o,s⟩->b'≠b
def Sl.nY{w w':World}{A:Option Addr}{c b:Nat}{L:List Nat}(h:Sl w A c L)(ha:SB b A)(ho:tX b w w'):Sl w' A c L:=
 ⟨h.cap,h.rS,h.ok,h.z8,λi x hx=>by
  obtain⟨b',o,e,h1,h2⟩:=h.cell i x hx;refine⟨b',o,e,by rw[ho.size];exact h1,?_⟩;rw[<-h2];exact(World.cell?_of_block (w:=w) (w':=w')<|ho.nY b'<|ha _ _ _ e)⟩
def acf{u m b:Nat}(hm:m<4294967296)(hb:b<=4294967296):
 IntKind.u64.wrap (IntKind.u64.wrap ((u:Int)-m)-(b:Int))=(((u+18446744073709551616-m-b)%18446744073709551616:Nat):Int):=by
 rw[IntKind.wrap_u64,IntKind.wrap_u64];omega
def ao2(b j cu c q:Nat)(O V:List Nat)(R:List Value)(A:Option Addr)(w:World)(hu:Rx w b O R)(hv:Sl w A c V)(hA:SB b A)(mC:iQ O)(hj:j+V.length<O.length)(hq:q<=4294967295)(hl:O.length<=1000000):
 Calls prog 358 #[.slice (some ⟨b,j,none⟩) (V.length+1) cu,.slice A V.length c,.int .u64 q] w λe w'=>∃ (O':List Nat) (δ:Nat),e = .returned (.bool<|decide (δ=1))/\Rx w' b O' R/\O'.length=O.length/\iQ O'/\δ<=1 /\
  val O'+q*(4294967296^j*val V)=val O+4294967296^(j+V.length+1)*δ/\(∀ i,j+V.length<i->O'.getD i 0=O.getD i 0)/\tX b w w':=by
 obtain⟨n,hn⟩:∃ n,n=V.length:=⟨_,rfl⟩
 rw[<-hn]at hj ⊢;have HN:=arM hn;have HJ:=arM hj;clear hn;have jI:n<=1000000:= aC ;have Lj:j<=1000000:= aC ;clear hj;have HT0:=arM<|y5.start mC j q V;clear mC;have HO:=arM<|tX.refl b w;have HU:=arM hu;clear hu;go_enter func358,ntmps358;go_wp2;go_loopw [7,8,9,10,11,12,16] (λcy bo _ _ _ _ i wr=>∃ (k c' b':Nat) (O':List Nat),k<=n/\i = .int .i64 k/\cy = .int .u64 c'/\bo = .int .u64 b'/\y5 O j q V k O' c' b'/\Rx wr b O' R/\tX b w wr) (λ_ _ _ _ _ _ i _=>n-(intOf i).toNat)
 case atStart=>
  exact⟨0,0,0,O,b7 _,rfl,rfl,rfl,HT0.out,HU.out,HO.out⟩
 case round=>
  obtain⟨k,c',b',O',hk,rfl,rfl,rfl,ht,hR,ho⟩:=hrel;clear HT0 HO HU;have HTk:=arM ht;have kE:=ht.TF;have Ce:=ht.TY;have HOl:=arM ht.len;clear ht;have PX:=hv.nY hA ho;by_cases iE:k<n
  .have AX:k<V.length:=by rw[<-HN.out];exact iE
   obtain⟨ab,ao,e1,_,c1⟩:=PX.mE AX;have rN:V.getD k 0<4294967296:=hv.ok.getD k;have Xy:V[k]=V.getD k 0:=by simp[bc,AX]
   rw[Xy]at c1;have qQ:j+k<O'.length:=by rw[HOl.out];have:=HJ.out;omega
   have c2:=hR.cell qQ;have c3:=hR.frozen<|j+k;have Iu:O'.getD (j+k) 0<4294967296:=HTk.out.ok.getD _;obtain⟨uE,lv,Iq,W8⟩:=ao3 hq rN Ce kE Iu;have HST:=arM (HTk.out.step (b':=((O'.getD (j+k) 0+18446744073709551616-(q*V.getD k 0+c')%4294967296-b')%18446744073709551616)/9223372036854775808) AX (by rw[<-HN.out];exact HJ.out) (bJ _ aE) lv Iq W8);have HRS:=arM (λx:Nat=>hR.set qQ x);have HOS:=arM λ(v:Value)=>ho.JC (j+k) v;clear hR ho HTk qQ Xy AX W8 HOl PX;subst e1;have PG:q*V.getD k 0<=4294967295*4294967295:=dB hq aC;have DQ:IntKind.u64.wrap ((q:Int)*(V.getD k 0:Int))=((q*V.getD k 0:Nat):Int):=by rw[<-fg];exact sI _ 
   generalize V.getD k 0=y at *
   generalize q*y=z at *
   have Ly:IntKind.u64.wrap ((z:Int)+c')=((z+c':Nat):Int):=by rw[<-Int.natCast_add];exact sI _ 
   generalize O'.getD (j+k) 0=u at *
   generalize z+c'=s at *
   have aqA:bits .and .u64 (s:Int) 4294967295=((s%4294967296:Nat):Int):=by rw[GJ s aC];omega
   have aqz:s%4294967296<4294967296:=bJ _ aE;have hd:(s:Int)/4294967296=((s/4294967296:Nat):Int):= aC ;generalize s%4294967296=m at *
   generalize s/4294967296=s2 at *
   have hsb:=acf (u:=u) (m:=m) (b:=b') aC aC;generalize (u+18446744073709551616-m-b')%18446744073709551616=t at *
   have AU:(j:Int)+k=((j+k:Nat):Int):= aC ;go_wp2;go_roundw
   case rel=>
    have e1:((t:Int)%4294967296)=((t%4294967296:Nat):Int):= aC ;exact⟨k+1,s2,t/9223372036854775808,O'.set (j+k)<|t%4294967296,aC,by go_num,by go_num,by go_num,HST.out,by rw[e1];exact HRS.out _,HOS.out _⟩
   case measure=>simp[intOf];omega
  .obtain rfl:k=n:= aC ;have Px:j+k<O.length:=HJ.out;have HTk':=arM (show y5 O j q V V.length O' c' b' by rw[<-HN.out];exact HTk.out);have HL:=HTk'.out.Ql (t:=(O'.getD (j+k) 0+18446744073709551616-c'-b')%18446744073709551616) (by rw[<-HN.out];exact Px) (by rw[<-HN.out]);rw[<-HN.out]at HL;have HT:=arM HL;clear HL;have qQ:j+k<O'.length:=by rw[HOl.out];exact Px
   have c2:=hR.cell qQ;have c3:=hR.frozen<|j+k;have Iu:O'.getD (j+k) 0<4294967296:=HTk.out.ok.getD _;have HRS:=arM (λx:Nat=>hR.set qQ x);have HOS:=arM λ(v:Value)=>ho.JC (j+k) v;clear hR ho HTk HTk' qQ Px HOl PX;generalize O'.getD (j+k) 0=u at *
   have hsb:=acf (u:=u) (m:=c') (b:=b') Ce aC;have htl:(u+18446744073709551616-c'-b')%18446744073709551616<18446744073709551616:=bJ _ aE;generalize (u+18446744073709551616-c'-b')%18446744073709551616=t at *
   have AU:(j:Int)+k=((j+k:Nat):Int):= aC ;go_wp2;go_ret;have e1:((t:Int)%4294967296)=((t%4294967296:Nat):Int):= aC ;obtain⟨t1,t2,t3,t4,t5⟩:=HT.out;exact⟨O'.set (j+k)<|t%4294967296,t/9223372036854775808,aao (a:=(((t:Int)/9223372036854775808)==1))<|by rw[eo,beq_iff_eq,ia];omega,by rw[e1];exact HRS.out _,t1,t2,t3,t4,t5,HOS.out _⟩
def Zg(A:Option Addr)(c:Nat)(L:List Nat)(n:Nat)(w:World)(hs:Sl w A c L)(hlen:L.length<=100000000)(hn:n<=65536):
 Calls prog 236 #[.slice A L.length c,.int .i64 n] w (λe w'=>∃ T v,e = .returned v/\val T=val L*2^n/\T.length=n/32+(iO L).length+1/\Ow w' w.heap.size v T/\iZ w w'):=by
 have hT:=arM<|wA A c L w hs;have lv:=hs.vG;have oE:=qh L;have hC:=lv.cap;have hL:=hs.rS;unfold mS at oE;have hv:=arM<|qL L;generalize iO L=M at *
 obtain⟨m,hm⟩:∃ m,m=M.length:=⟨_,rfl⟩
 rw[<-hm]at hT oE hC;have HM:=arM hm;clear hm;have xj:=Yy (n/32) (n/32+m+1) aC aC;rw[show((n/32:Nat):Int)=n/32 by omega,show((n/32+m+1:Nat):Int)=n/32+m+1 by omega]at xj;have OT:=arM<|Ow.Cx w w.heap.size (n/32) (n/32+m+1) (a7 _) aC aC;go_enter func236,ntmps236;go_wp2_with fail;refine hT.out.mono ?_;rintro e w' ⟨rfl,rfl⟩;go_wp2;go_loopw [5,6,23] (λv cy i wr=>∃ (k q:Nat) (O:List Nat),k<=m/\i = .int .i64 k/\cy = .int .u64 q/\q<2^(n%32)/\O.length=n/32+k/\val O+4294967296^(n/32+k)*q=val (M.take k)*2^(n%32)*4294967296^(n/32)/\Ow wr w.heap.size v O/\iZ w wr) (λ_ _ i _=>m-(intOf i).toNat)
 case atStart=>
  exact⟨0,0,List.replicate (n/32) 0,b7 _,rfl,rfl,bn aE,aH,by simp[Ey],OT.out,iZ.alloc _ _⟩
 case round=>
  obtain⟨k,q,O,hk,rfl,rfl,hq,hO,mI,o0,hb⟩:=hrel;have HV:=arM mI;have HO:=arM hO;have Wc:O.length<=200000000:= aC ;have A5:=arM hq;clear mI hO hq;obtain⟨OA,Oc,rfl,DH⟩:=o0.sl;by_cases iE:k<m
  .have DB:k<M.length:=by have:=HM.out;omega
   obtain⟨ab,ao,rfl,_,c1⟩:=(lv.below hb).mE DB;have nP:M[k]<4294967296:=lv.ok.get DB;have HX:=arM<|aa1 (c:=q) (s:=n%32) (n0:=n/32) DB HO.out HV.out;generalize M[k]=x at *
   obtain⟨hw,Cr,Bc⟩:=aa2 x q (n%32) nP (bJ _ aE) A5.out;generalize x*2^(n%32)+q=z at *
   have Ix:=arM Bc;clear Bc;have mP:O.length+[z%4294967296].length<=10000000000:= aN ;go_wp2_with (at_builtin;go_must (refine BI aG _ _ aG w.heap.size _ O aG (o0.alloc _) _ _ _ [z%4294967296] aG aG (Sl.FY _ _ (z%4294967296) aC aC) mP (yF hb.size _) ?_);intro v' w1 yz hg tw)
   go_roundw
   case rel=>
    exact⟨k+1,z/4294967296,O++[z%4294967296],aC,by go_num,by go_num,Ix.out,by rw[cK,HO.out];rfl,HX.out,yz,(hb.trans<|iZ.alloc _ _).own _ _ (o0.alloc _) hg⟩
   case measure=>simp[intOf];omega
  .obtain rfl:k=m:= aC ;have mP:O.length+[q].length<=10000000000:= aN ;have ai8:q<4294967296:=by
    have:=A5.out;have hp:2^(n%32)<=2^31:=bO aE aC;have e31:(2:Nat)^31=2147483648:= aE ;omega
   have hqm:(q:Int)%4294967296=q:= aC ;go_wp2_with (at_builtin;go_must (refine BI aG _ _ aG w.heap.size _ O aG (o0.alloc _) _ _ _ [q] aG aG (Sl.FY _ _ q aC aC) mP (yF hb.size _) ?_);intro v' w1 yz hg tw)
   go_ret;refine⟨O++[q],v',rfl,?_,by rw[cK,HO.out,<-HM.out];rfl,yz,(hb.trans<|iZ.alloc _ _).own _ _ (o0.alloc _) hg⟩;have h:=HV.out;rw[cX<|by rw[HM.out];exact a7 _]at h;rw[CP,HO.out,s9,MU,cS,bT,h,<-hv.out,uP,bB,<-bj];congr 2;omega
end Go.Proofs.YtjkmahljfblobaaGreatDoor
namespace Go.Proofs.YtjkmahljfblobaaGreatDoor.Fp
def pD(n k:Nat):Nat:=n/4294967296^k%4294967296
def N5(n k:Nat):pD n k<4294967296:=bJ _ aE 
def afw(k:Nat):pD 0 k=0:=by unfold pD;rw[apI]
def pw(k:Nat):0<4294967296^k:=bn aE 
def KY{L:List Nat}(h:iQ L)(k:Nat):L.getD k 0=pD (val L) k:=by
 unfold pD;rw[<-JO h];by_cases hk:k<L.length
 .rw [fw hk,show val (L[k]::L.drop (k+1))=L[k]+4294967296*val (L.drop<|k+1)from rfl,eD,cj<|h.get hk];simp[bc,hk]
 .rw [fu aC,bc,bX aC];rfl
def mod_succ(n k:Nat):n%4294967296^(k+1)=n%4294967296^k+4294967296^k*pD n k:=by
 rw[bF,Nat.mod_mul];rfl
def pE(n m:Nat):List Nat:=(List.range m).map<|pD n
def B0(n m:Nat):(pE n m).length=m:=by simp[pE]
def G8(n m:Nat):iQ<|pE n m:=λx hx=>by
 obtain⟨k,_,rfl⟩:=cC.1 hx;exact N5 n k
def afB{n m k:Nat}(h:k<m):(pE n m).getD k 0=pD n k:=by
 simp[pE,bc,h]
def afA(m i:Nat):(pE 0 m).getD i 0=0:=by
 by_cases h:i<m
 .rw [afB h,afw]
 .rw [bc,bX<|by rw[B0];omega];rfl
def afC(n m:Nat):pE n (m+1)=pE n m++[pD n m]:=by simp[pE,List.range_succ]
def JN(n m:Nat):val (pE n m)=n%4294967296^m:=by
 induction m with
 |zero=>simp[pE,val];omega
 |succ m ih=>
  rw[afC,CP,ih,B0,mod_succ];rfl
def apw{L M:List Nat}(hL:iQ L)(hM:iQ M)(hl:L.length=M.length)(hv:val L=val M):L=M:=by
 apply dU hl;intro i h1 h2;have e1:=KY hL i;have e2:=KY hM i;rw[hv,<-e2]at e1;simpa[bc,h1,h2]using e1
def afD{L:List Nat}(h:iQ L):pE (val L) L.length=L:=
 apw (G8 _ _) h (B0 _ _) (by rw[JN,cj<|pk h])
def N6{L:List Nat}{n m:Nat}(h:iQ L)(hl:L.length=m)(hv:val L=n):pE n m=L:=by subst hl hv;exact afD h
def qe(a b k m:Nat):List Nat:=(List.range m).map λj=>if j<k then pD a j else pD b j
def akU(a b k m:Nat):(qe a b k m).length=m:=by simp[qe]
def akW(a b m:Nat):qe a b 0 m=pE b m:=by simp[qe,pE]
section
variable{a b k m:Nat}
def akT(h:m<=k):qe a b k m=pE a m:=by
 unfold qe pE;exact ef λj hj=>aY<|bM (bS.1 hj) h
def aqI:(qe a b k m).set k (pD a k)=qe a b (k+1) m:=by
 apply dU
 .simp [qe]
 .intro j h1 h2;have hj:j<m:=by simpa[qe]using h2
  rw[List.getElem_set];by_cases h:k=j
  .subst h;simp[qe]
  .rw [aX h];simp only[qe,ev,ez];by_cases q:j<k
   .rw [aY q,aY aC]
   .rw [aX q,aX aC]
def akV:(qe a b (k+1) m).set k (pD b k)=qe a b k m:=by
 apply dU
 .simp [qe]
 .intro j h1 h2;have hj:j<m:=by simpa[qe]using h2
  rw[List.getElem_set];by_cases h:k=j
  .subst h;simp[qe]
  .rw [aX h];simp only[qe,ev,ez];by_cases q:j<k
   .rw [aY q,aY aC]
   .rw [aX q,aX aC]
end
def afP(a k:Nat):a/4294967296^k=4294967296*(a/4294967296^(k+1))+pD a k:=by
 rw[bF,<-dE];unfold pD;omega
def an6{a d k:Nat}(hd:0<d)(Cg:d<4294967296):(a/4294967296^(k+1)%d*4294967296+pD a k)/d=pD (a/d) k/\(a/4294967296^(k+1)%d*4294967296+pD a k)%d=a/4294967296^k%d:=by
 have e1:=afP a k;have e2:=cL (a/4294967296^(k+1)) d;have e3:=bJ (a/4294967296^(k+1)) hd;have e4:=N5 a k;have e5:a/4294967296^k=d*(4294967296*(a/4294967296^(k+1)/d))+(a/4294967296^(k+1)%d*4294967296+pD a k):=by
  rw[e1,en];omega
 have e6:(a/4294967296^(k+1)%d*4294967296+pD a k)/d<4294967296:=by
  rw[cG hd];have:=bG 4294967296<|show a/4294967296^(k+1)%d+1<=d from e3;omega
 constructor
 .conv=>rhs;unfold pD
  rw[dE,bI d,<-dE,e5,aq5 hd,gq,cj e6]
 .rw [e5,gq]
structure tf(U0:Nat)(V:List Nat)(k m:Nat)(O Q:List Nat):Prop where
 Yf:O.length=m
 IN:Q.length=m-V.length
 Bo:iQ O
 Je:iQ Q
 eq:val O+val V*val Q=U0
 lt:val O<val V*4294967296^k
 qz:∀ i,i<k->Q.getD i 0=0
def tf.step{U0 k m x:Nat}{V O Q O2:List Nat}(h:tf U0 V (k+1) m O Q)(hk:k<m-V.length)(hl:O2.length=m)(mC:iQ O2)(hx:x<4294967296)
 (he:val O2+x*(4294967296^k*val V)=val O) (iE:val O2<val V*4294967296^k):tf U0 V k m O2<|Q.set k x:=by
 have Ia:k<Q.length:=by rw[h.IN];exact hk
 have hv:=Ez (x:=x) Ia;rw[h.qz k<|fQ k,cS,bT]at hv;refine⟨hl,by rw[dm];exact h.IN,mC,h.Je.set _ hx,?_,iE,λi hi=>by rw[B7 aC];exact h.qz i aC⟩;rw[hv,bW,show val V*(4294967296^k*x)=x*(4294967296^k*val V)by simp only[bI,en,bB]];have:=h.eq;omega
section
variable{U0 k m:Nat}{V O Q:List Nat}(h:tf U0 V (k+1) m O Q)(hV:iQ V)
def tf.zero{i:Nat}(hi:k+V.length<i):O.getD i 0=0:=by
 refine apd h.Bo (k:=k+V.length+1) ?_ hi;refine fP h.lt ?_;have:=dg (pk hV)<|pw<|k+1;rw[<-bj,(aC:V.length+(k+1)=k+V.length+1)]at this;exact this
def tf.aiq(hn:2<=V.length)(hN:2147483648<=V.getD (V.length-1) 0):
 O.getD (k+V.length) 0<=V.getD (V.length-1) 0/\∀ g,g<=4294967295 ->
  g<=((O.getD (k+V.length) 0*4294967296+O.getD (k+V.length-1) 0)*4294967296+O.getD (k+V.length-2) 0)/(V.getD (V.length-1) 0*4294967296+V.getD (V.length-2) 0) ->
  (g=4294967295\/((O.getD (k+V.length) 0*4294967296+O.getD (k+V.length-1) 0)*4294967296+O.getD (k+V.length-2) 0)/(V.getD (V.length-1) 0*4294967296+V.getD (V.length-2) 0)<=g) ->
  val O/4294967296^k/val V<=g/\g<=val O/4294967296^k/val V+1:=by
 have t3:=abI h.Bo (j:=k) hn λi hi=>h.zero hV hi;have t2:=apb hV hn rfl;have hU:val O/4294967296^k<4294967296*val V:=by
  rw[cG<|pw k];have:=h.lt;rw[bF]at this;rw[show 4294967296*val V*4294967296^k=val V*(4294967296^k*4294967296)by simp only[bI,en,bB]];exact this
 have w1:=h.Bo.getD<|k+V.length-1;have w2:=h.Bo.getD<|k+V.length-2;have w3:=hV.getD<|V.length-2;refine⟨?_,λg g1 g2 g3=>?_⟩
 .have hP:=pw<|V.length-2;have h1:val V<(V.getD (V.length-1) 0*4294967296+V.getD (V.length-2) 0+1)*4294967296^(V.length-2):=by
   rw[<-t2,<-cG hP];omega
  have h2:val O/4294967296^k/4294967296^(V.length-2)<4294967296*(V.getD (V.length-1) 0*4294967296+V.getD (V.length-2) 0+1):=by
   rw[cG hP];refine bM hU ?_;rw[bB];exact cJ _<|dq h1
  rw[t3]at h2;omega
 .rw [<-t3,<-t2]at g2 g3;exact aj2 (pw _) (by rw[t2];omega) hU g1 g2 g3
end
def tf.ZL{U0 k m x:Nat}{V O Q O':List Nat}(h:tf U0 V (k+1) m O Q)(hV:iQ V)(mC:iQ O')(hv:val O'+x*(4294967296^k*val V)=val O+4294967296^(k+V.length+1)*1)
 (hs:∀ i,k+V.length<i->O'.getD i 0=O.getD i 0):val O'<4294967296^(k+V.length+1)/\0<x:=by
 have h1:val O'<4294967296^(k+V.length+1):=abY mC λi hi=>by rw[hs i aC];exact h.zero hV aC 
 refine⟨h1,?_⟩;rcases e9 x with h0|h0
 .subst h0;rw[cH]at hv;omega
 .exact h0
def tf.adJ{U0 k m x κ:Nat}{V O Q O' O2:List Nat}(h:tf U0 V (k+1) m O Q)(hV:iQ V)(hk:k<m-V.length)(mC:iQ O')(hv:val O'+x*(4294967296^k*val V)=val O+4294967296^(k+V.length+1)*1)
 (hs:∀ i,k+V.length<i->O'.getD i 0=O.getD i 0) (hx:x<=4294967295) (uG:x<=val O/4294967296^k/val V+1) (yl:0<val V) (oE:O2.length=m) (W1:iQ O2) (hκ:κ<=1)
 (h2:val O2+4294967296^(k+V.length+1)*κ=val O'+4294967296^k*val V) (lv:∀ i,k+V.length<i->O2.getD i 0=O'.getD i 0):tf U0 V k m O2<|Q.set k<|x-1:=by
 obtain⟨h1,h0⟩:=h.ZL hV mC hv hs;have h3:val O2<4294967296^(k+V.length+1):=abY W1 λi hi=>by rw[lv i aC,hs i aC];exact h.zero hV aC 
 rw[b6]at hv;obtain⟨_,_,e,l⟩:=afy (pw k) yl hv h1 uG hκ h2 h3;exact h.step (x:=x-1) hk oE W1 aC e l
def alw{L:List Nat}{x s l:Nat}(hk:iQ L)(hl:L.length=l+1)(hx:L.getD l 0=x)(o9:x≠0)(hs:s=32-iq x):
 s<32/\(ib<|val L*2^s).length=l+1/\2147483648<=(ib<|val L*2^s).getD l 0/\4294967296^l*2147483648<=val L*2^s/\val L*2^s<4294967296^(l+1):=by
 have nP:x<4294967296:=by rw[<-hx];exact hk.getD l
 have kE:=oV o9;have lV:iq x<=32:=me.2 nP;have h1:=tV o9;have h2:=sc x;have e1:2^(iq x-1)*2^s=2147483648:=by rw[<-bj,(aC:iq x-1+s=31)]
 have e2:2^iq x*2^s=4294967296:=by rw[<-bj,(aC:iq x+s=32)]
 have hp:0<2^s:=bn aE;have hv:val L=val (L.take l)+4294967296^l*x:=by
  have:=CQ L l;rw[cX aC,hx]at this;exact this
 have Fu:val (L.take l)<4294967296^l:=by
  have:=pk<|hk.take l;rw[cB,df aC]at this;exact this
 have g1:4294967296^l*2147483648<=val L*2^s:=by
  rw[<-e1,<-bB];refine bG _ ?_;rw[hv];exact bg (cJ _ h1)<|Nat.le_add_left _ _
 have g2:val L*2^s<4294967296^(l+1):=by
  have e3:4294967296^(l+1)=4294967296^l*(2^iq x*2^s):=by rw[bF,e2]
  rw[e3,<-bB];refine dg ?_ hp;rw[hv];have:=cJ (4294967296^l)<|show x+1<=2^iq x from h2;rw[bW,b6]at this;omega
 have hlen:(ib<|val L*2^s).length=l+1:=by
  have u1:=yG g2;have u2:¬(ib<|val L*2^s).length<=l:=λh=>by
   have:=LN h;have:=pw l;omega
  omega
 refine⟨aC,hlen,?_,g1,g2⟩;rw[KY<|mJ _,kK];unfold pD;rw[cj<|by rw[cG<|pw l,bI 4294967296,<-bF];exact g2,dp<|pw l,bI];exact g1
def tf.start{A s:Nat}{V O:List Nat}(hO:iQ O)(hv:val O=A*2^s){la:Nat}(hA:A<4294967296^la)(hl:O.length=la+1)(hs:s<32)(hn:1<=V.length)(jI:V.length<=la)(hV:4294967296^(V.length-1)*2147483648<=val V):
 tf (A*2^s) V (la+1-V.length) (la+1) O (List.replicate (la+1-V.length) 0):=by
 refine⟨hl,aH,hO,iQ.F6 _,by rw[Ey,cS,bT,hv],?_,λi _=>?_⟩
 .rw [hv];have Hs:2^s<=2^31:=bO aE aC;have aiu:(2:Nat)^31=2147483648:= aE ;rw[aiu]at Hs;have h1:A*2^s<4294967296^la*2^s:=dg hA<|bn aE;have h2:=cJ (4294967296^la) Hs;have h3:=bG (4294967296^(la+1-V.length)) hV;rw[gO,<-bj,(aC:V.length-1+(la+1-V.length)=la)]at h3;omega
 .rw [bc,gE];split<;>rfl
end Go.Proofs.YtjkmahljfblobaaGreatDoor.Fp
namespace Go.Proofs.YtjkmahljfblobaaGreatDoor
open Go.RowKit Fp Pu
def JD(n:Nat)(h:n<4294967296):IntKind.u64.wrap ((n:Int)*2^32)=((n*4294967296:Nat):Int):=by rw[IntKind.wrap_u64];omega
def Ji(a b:Nat)(ha:a<4294967296)(hb:b<4294967296):bits .or .u64 ((a*4294967296:Nat):Int) (b:Int)=((a*4294967296+b:Nat):Int):=by
 rw[MR _ _,Nat.or_comm,show a*4294967296=a*2^32 by rfl,Ma b a 32<|by simpa using hb,Nat.add_comm]
def ant{T n n' p:Nat}{L L':List Nat}{z:Nat}(hn:n=n')(hp:p<L.length)(hs:L.set p z=L'):Bx.le (.row false T n 1 λi' j'=>if i'=p/\0<=j'/\j'<0+1 then[.v<|.int .u32 (z:Int)].getD (j'-0) .any else(qT L) i' j')<|.row false T n' 1<|qT L':=hs▸RK hn hp
def UA(q rest third v w:Nat)(x:Nat):PS:=⟨32,true,[(0,.e<|.v<|.int .u64 ((q-x:Nat):Int)),(1,.e<|.v<|.int .u64 ((rest+(x*v):Nat):Int)),(2,.e<|.v<|.int .u32 (third:Int)),(3,.e<|.v<|.int .u32 (v:Int)),(4,.e<|.v<|.int .u32 (w:Int))],[]⟩
def aa3(L:List Nat)(d:Nat)(x:Nat):PS:=⟨34,false,[(8,.e<|iP<|(L.length:Int)-1-(x:Int)),(7,.e<|.v<|.int .u32 ((val L/4294967296^(L.length-x)%d:Nat):Int)),(6,.own 11),(0,.e<|il L),(1,.e<|.v<|.int .u32 (d:Int))],[(11,.row false 95 L.length 1<|qT<|qe 0 (val L/d) (L.length-x) L.length)]⟩
def afE(h l d:Nat)(h1:h<d)(h2:l<4294967296)(h3:d<4294967296):ic 371 [.v<|.int .u32 (h:Int),.v<|.int .u32 (l:Int),.v<|.int .u32 (d:Int)]<|.ix [.v<|.int .u32 (((h*4294967296+l)/d:Nat):Int),.v<|.int .u32 (((h*4294967296+l)%d:Nat):Int)]:=by
 have e1:(h*4294967296+l)/d<4294967296:=by rw[cG aC];omega
 have e2:(h*4294967296+l)%d<4294967296:=fP (bJ _ aC) h3;exact iy (ae [ah 10 ((d:Int) != 0) aN,tF 14 ((d:Int)<=h) aC,.o 18 (.int<|sI _:aj (.v<|.int .u64<|IntKind.u64.wrap (h:Int))<|.v<|.int .u64 (h:Int)),.a (aC:0<=(32:Int)/\(32:Int)<=((64:Nat):Int)),.o 19 (.int<|JD _ aC:aj (.v<|.int .u64<|IntKind.u64.wrap<|(h:Int)*2^32)<|.v<|.int .u64 ((h*4294967296:Nat):Int)),.o 21 (.int<|sI _:aj (.v<|.int .u64<|IntKind.u64.wrap (l:Int))<|.v<|.int .u64 (l:Int)),.o 22 (.int<|Ji _ _ aC aC:aj (.v<|.int .u64<|bits .or .u64 ((h*4294967296:Nat):Int) (l:Int))<|.v<|.int .u64 ((h*4294967296+l:Nat):Int)),.o 25 (.int<|sI _:aj (.v<|.int .u64<|IntKind.u64.wrap (d:Int))<|.v<|.int .u64 (d:Int)),.a (aC:0<((d:Int):Int)),
  El ((h*4294967296+l:Nat):Int),.o 27 (.int<|Al _:aj (.v<|.int .u32<|IntKind.u32.wrap (((h*4294967296+l)/d:Nat):Int))<|.v<|.int .u32 ((((h*4294967296+l)/d)%4294967296:Nat):Int)),.o 30 (.int<|sI _:aj (.v<|.int .u64<|IntKind.u64.wrap (d:Int))<|.v<|.int .u64 (d:Int)),.a (aC:0<((d:Int):Int)),.o 32 (.int<|Al _:aj (.v<|.int .u32<|IntKind.u32.wrap (((h*4294967296+l)%d:Nat):Int))<|.v<|.int .u32 ((((h*4294967296+l)%d)%4294967296:Nat):Int))]<|rQ (.ix [.v<|.int .u32 ((((h*4294967296+l)/d)%4294967296:Nat):Int),.v<|.int .u32 ((((h*4294967296+l)%d)%4294967296:Nat):Int)]) (.ix [.v<|.int .u32 (((h*4294967296+l)/d:Nat):Int),.v<|.int .u32 (((h*4294967296+l)%d:Nat):Int)])<|by rw[cj e1,cj e2])
def aqJ(q rest third v w N:Nat)(hq:q<=4294967295)(hr:rest<9223372036854775808)(ht:third<4294967296)(hv:v<4294967296)(hw:w<4294967296)(hNq:N<=q)(jH:∀ x,x<N->ud q rest third v w x)(g1:¬rest+N*v<4294967296):ic 372 [.v<|.int .u64 (q:Int),.v<|.int .u64 (rest:Int),.v<|.int .u32 (third:Int),.v<|.int .u32 (v:Int),.v<|.int .u32 (w:Int)]<|.v<|.int .u64 ((q-N:Nat):Int):=
 iy (af [.s (Sp.jX (UA q rest third v w) 0 N aC (λx hx mH=>by
    obtain⟨g1,g2⟩:=jH x aC;have m1:(q-x)*w<=4294967295*4294967295:=dB aC aC;have g3:0<q-x:=by
     rcases e9 (q-x)with h|h
     .rw [h,cH]at g2;omega
     .exact h
    exact iS (ae [tT 12 (((rest+(x*v):Nat):Int)<4294967296) aC,.o 16 (.int<|sI _:aj (.v<|.int .u64<|IntKind.u64.wrap (w:Int))<|.v<|.int .u64 (w:Int)),
     El (((q-x:Nat):Int)*(w:Int)),.a (aC:0<=(32:Int)/\(32:Int)<=((64:Nat):Int)),.o 19 (.int<|JD _ aC:aj (.v<|.int .u64<|IntKind.u64.wrap<|((rest+(x*v):Nat):Int)*2^32)<|.v<|.int .u64 (((rest+(x*v))*4294967296:Nat):Int)),.o 21 (.int<|sI _:aj (.v<|.int .u64<|IntKind.u64.wrap (third:Int))<|.v<|.int .u64 (third:Int)),.o 22 (.int<|Ji _ _ aC aC:aj (.v<|.int .u64<|bits .or .u64 (((rest+(x*v))*4294967296:Nat):Int) (third:Int))<|.v<|.int .u64 ((((rest+(x*v))*4294967296)+third:Nat):Int)),tT 23 (((((rest+(x*v))*4294967296)+third:Nat):Int)<(((q-x)*w:Nat):Int))<|Int.ofNat_lt.2 g2,El<|((q-x:Nat):Int)-1,.o 29 (.int<|sI _:aj (.v<|.int .u64<|IntKind.u64.wrap (v:Int))<|.v<|.int .u64 (v:Int)),El<|((rest+(x*v):Nat):Int)+v]<|.e<|af [.o 0<|.int (k:=.u64) (by first|rfl|omega|(simp only[bL,bN];omega):(((q-x:Nat):Int)-1)=((q-(x+1):Nat):Int)),.o 1<|.int (k:=.u64) (by first|rfl|omega|(simp only[bL,bN];omega):(((rest+(x*v))+v:Nat):Int)=((rest+((x+1)*v):Nat):Int))]) aF)
  (λhx=>by
    have m1:(q-N)*w<=4294967295*4294967295:=dB aC aC;exact iS (af [tF 12 (((rest+(N*v):Nat):Int)<4294967296) aC]) aF) aI:jW 1 f372 (UA q rest third v w 0) (.exit 0) ⟨32,true,[(0,.e<|.v<|.int .u64 ((q-N:Nat):Int))],[]⟩)<|af [.o 0<|.int (k:=.u64) (by first|rfl|omega|(simp only[bL,bN];omega):(q:Int)=((q-0:Nat):Int)),.o 1<|.int (k:=.u64) (by first|rfl|omega|(simp only[bL,bN];omega):(rest:Int)=((rest+(0*v):Nat):Int))]])
def alc(L:List Nat)(d:Nat)(hk:iQ L)(hl:L.length<=1000000)(Cf:0<d)(Cg:d<4294967296):ic 355 [il L,.v<|.int .u32 (d:Int)]<|.ix [il<|pE (val L/d) L.length,.v<|.int .u32 ((val L%d:Nat):Int)]:=
 sH (ae [.a (aC:0<=((L.length:Int):Int)/\((L.length:Int):Int)<=((L.length:Int):Int)),.a (aC:((4:Nat):Int)*(L.length:Int)<=281474976710656/\((L.length:Int):Int)<=9223372036854775807),iD<|(L.length:Int)-1,.s (Sp.jX (aa3 L d) 0 L.length aC (λx hx mH=>by
    have Li:((L.length:Int)-1-(x:Int)).toNat=L.length-1-x:= aC ;have hld:((L.getD ((L.length:Int)-1-(x:Int)).toNat 0:Nat):Int)=(pD (val L)<|L.length-1-x:Int):=by rw[Li,KY hk]
    have xp:=an6 (a:=val L) (k:=L.length-1-x) Cf Cg;have vc:L.length-1-x+1=L.length-x:= aC ;have lM:L.length-(x+1)=L.length-1-x:= aC ;rw[vc]at xp;have Cl:=bJ (val L/4294967296^(L.length-x)) Cf;have Pf:=N5 (val L)<|L.length-1-x;have Ir:(qe 0 (val L/d) (L.length-x) L.length).set ((L.length:Int)-1-(x:Int)).toNat ((val L/4294967296^(L.length-x)%d*4294967296+pD (val L) (L.length-1-x))/d)=qe 0 (val L/d) (L.length-(x+1)) L.length:=by
     rw[Li,xp.1,<-vc,akV,lM]
    exact iS (ae [tT 16 (0<=((L.length:Int)-1-(x:Int))) aC,iX ((L.length:Int)-1-(x:Int))<|L.length,.o 26 (.int hld:aj (.v<|.int .u32 ((L.getD ((L.length:Int)-1-(x:Int)).toNat 0:Nat):Int))<|.v<|.int .u32 (pD (val L)<|L.length-1-x:Int)),.c<|afE (val L/4294967296^(L.length-x)%d) (pD (val L)<|L.length-1-x) d aC aC aC,iX ((L.length:Int)-1-(x:Int))<|L.length,.a (aC:(((L.length:Int)-1-(x:Int))).toNat<L.length),iD<|((L.length:Int)-1-(x:Int))-1]<|.e<|af [.o 8<|aq (((L.length:Int)-1-(x:Int))-1) ((L.length:Int)-1-((x+1:Nat):Int)) aO,.o 7<|.int (k:=.u32) (by rw[xp.2,lM]:((((val L/4294967296^(L.length-x)%d)*4294967296+(pD (val L)<|L.length-1-x))%d:Nat):Int)=((val L/4294967296^(L.length-(x+1))%d:Nat):Int)),.b 11 (ant rfl (by rw[akU];omega) Ir:Bx.le (.row false 95 L.length 1 λi' j'=>if i'=(((L.length:Int)-1-(x:Int))).toNat/\0<=j'/\j'<0+1 then[.v<|.int .u32 ((((val L/4294967296^(L.length-x)%d)*4294967296+(pD (val L)<|L.length-1-x))/d:Nat):Int)].getD (j'-0) .any else(qT<|qe 0 (val L/d) (L.length-x) L.length) i' j')<|.row false 95 L.length 1<|qT<|qe 0 (val L/d) (L.length-(x+1)) L.length)]) aF)
  (λhx=>by
    exact iS (af [tF 16 (0<=((L.length:Int)-1-(L.length:Int))) aC]) aF) aI:jW 4 f355 (aa3 L d 0) (.exit 0) ⟨34,false,[(7,.e<|.v<|.int .u32 ((val L/4294967296^(L.length-L.length)%d:Nat):Int)),(6,.own 11)],[(11,.row false 95 L.length 1<|qT<|qe 0 (val L/d) (L.length-L.length) L.length)]⟩)<|af [.o 8<|aq ((L.length:Int)-1) ((L.length:Int)-1-((0:Nat):Int)) aO,.o 7<|.int (k:=.u32) (by rw[dQ,cY<|pk hk,Nat.zero_mod];rfl:0=((val L/4294967296^(L.length-0)%d:Nat):Int)),.b 11 (aaD rfl (λi=>by rw[dQ,akT<|a7 _,afA]):Bx.le (.row false 95 L.length 1 λ_ j_=>[.v<|.int .u32 0].getD j_ .any)<|.row false 95 L.length 1<|qT<|qe 0 (val L/d) (L.length-0) L.length)]]<|rR (.ix [il<|pE (val L/d) L.length,.v<|.int .u32 ((val L%d:Nat):Int)]) (.ix<|.cons (by rw[dA,akW];exact abe (B0 _ _).symm)<|.cons (.jP<|by rw[dA,cA,fU]) .nil:E.le (.ix [.sl false L.length 1<|qT<|qe 0 (val L/d) (L.length-L.length) L.length,.v<|.int .u32 ((val L/4294967296^(L.length-L.length)%d:Nat):Int)])<|.ix [il<|pE (val L/d) L.length,.v<|.int .u32 ((val L%d:Nat):Int)]))
def acC(w:World)(T S:List Nat)(e:Ending)(w':World):Prop:=∃ A c B d,e = .returned (.tuple #[.slice A T.length c,.slice B S.length d])/\Sl w' A c T/\Sl w' B d S/\iZ w w'
def Ow.rx{w:World}{base:Nat}{v:Value}{L:List Nat}(h:Ow w base v L)(hl:L≠[]):∃ g cap R,v = .slice (some ⟨g,0,none⟩) L.length cap/\base<=g/\g<w.heap.size/\Rx w g L R/\L.length<=cap/\cap<=maxLen:=by
 rcases h.row.2 with⟨_,h0⟩|⟨g,cap,cur,rfl,hb,hg,qC,pF,nO,PT⟩
 .exact absurd (dw h0) hl
 .refine ⟨g,cap,cur.toList.drop L.length,rfl,hb,(c9.1 hg).1,?_,qC,pF⟩;unfold Rx;rw[hg];rw[b6]at PT;rw[<-PT,aq0]
def Rx.sl{w:World}{b cap:Nat}{L:List Nat}{R:List Value}(h:Rx w b L R)(hk:iQ L)(hc:L.length<=cap)(hm:cap<=maxLen)(n:Nat):Sl w (some ⟨b,0,none⟩) cap<|L.take n:=
 ⟨by rw[cB];omega,by unfold maxLen at hm;omega,hk.take n,(λh=>by cases h),λi x hx=>by
  rw[dF]at hx;split at hx
  .obtain ⟨hi,rC⟩:=ca.1 hx;refine⟨_,_,rfl,h.lt,?_⟩;rw[bZ,h.cell hi];simp[bc,hx]
  .cases hx⟩
def akA(x:Nat)(hx:x<4294967296)(w:World):
 Calls prog 356 #[.int .u32 x] w λe w'=>e = .returned (.int .i64 ((32-iq x:Nat):Int))/\w=w':=by
 have lV:iq x<=32:=me.2 hx;have H:=arM λw=>Ye x hx w;go_enter func356,ntmps356;go_wp2_with fail;refine(H.out _).mono ?_;rintro e w' ⟨rfl,rfl⟩;go_wp2;go_ret;exact⟨rf aC,rfl⟩
def UC(q rest third v w0 N:Nat)(w:World)(hq:q<=4294967295)(hr:rest<9223372036854775808)(ht:third<4294967296)(hv:v<4294967296)(hw:w0<4294967296)(hNq:N<=q)(jH:∀ x,x<N->ud q rest third v w0 x)(hN:¬ud q rest third v w0 N):
 Calls prog 372 #[.int .u64 q,.int .u64 rest,.int .u32 third,.int .u32 v,.int .u32 w0] w λe w'=>e = .returned (.int .u64 ((q-N:Nat):Int))/\w=w':=by
 have HLO:=arM jH;have HNN:=arM hN;clear jH hN;go_enter func372,ntmps372;go_wp2;go_loop [0,1] (λa b=>∃ k:Nat,k<=N/\a = .int .u64 ((q-k:Nat):Int)/\b = .int .u64 ((rest+k*v:Nat):Int)) (λa _=>(intOf a).toNat+0*N)
 case atStart=>exact⟨0,b7 _,by go_num,by go_num⟩
 case round=>
  obtain⟨k,hk,rfl,rfl⟩:=hrel;have m1:(q-k)*w0<=4294967295*4294967295:=dB aC aC;have m2:(q-k)*w0=(q-k)*w0:=rfl;by_cases iE:k<N
  .have hc:=HLO.out k iE;have sB:0<q-k:= aC ;have WX:rest+(k+1)*v=rest+k*v+v:=by rw[bL,bN];omega
   have HX:=arM WX;clear WX;unfold ud at hc;have DQ:IntKind.u64.wrap (((q-k:Nat):Int)*(w0:Int))=(((q-k)*w0:Nat):Int):=by rw[<-fg];exact sI _ 
   generalize rest+k*v=y at *
   generalize hz:(q-k)*w0=z at *
   have Im:q-k=q-(k+1)+1:= aC ;have HQ:=arM Im;obtain⟨p,hp⟩:∃ p,p=q-k:=⟨_,rfl⟩
   rw[<-hp]at DQ sB Im HQ ⊢;have HP:=arM hp;have DI:p<=4294967295:= aC ;clear hp hz Im;have Is:=JD y hc.1;have xm:=Ji y third hc.1 ht;have g2:=hc.2;have g1:=hc.1;clear hc;rw[show((y*4294967296:Nat):Int)=y*4294967296 by omega]at xm Is;have d1:decide ((y:Int)<4294967296)=true:=aZ aC;have d2:decide ((y:Int)*4294967296+(third:Int)<z)=true:=aZ aC;have PG:IntKind.u64.wrap ((p:Int)-1)=((p-1:Nat):Int):=by rw[IntKind.wrap_u64];omega
   go_wp2;go_round
   case rel=>
    have e1:=HP.out;exact⟨k+1,aC,by go_num,by rw[HX.out];go_num⟩
   case measure=>simp[intOf];omega
  .obtain rfl:k=N:= aC ;have hn:=HNN.out;clear HNN HLO;unfold ud at hn;have DQ:IntKind.u64.wrap (((q-k:Nat):Int)*(w0:Int))=(((q-k)*w0:Nat):Int):=by rw[<-fg];exact sI _ 
   generalize rest+k*v=y at *
   generalize (q-k)*w0=z at *
   obtain⟨p,hp⟩:∃ p,p=q-k:=⟨_,rfl⟩
   rw[<-hp]at DQ ⊢;have HP:=arM hp;clear hp;by_cases g1:y<4294967296
   .have Is:=JD y g1;have xm:=Ji y third g1 ht;rw[show((y*4294967296:Nat):Int)=y*4294967296 by omega]at xm Is;have d1:decide ((y:Int)<4294967296)=true:=aZ aC;have d2:decide ((y:Int)*4294967296+(third:Int)<z)=false:=a6 aC;clear hn;go_wp2;go_ret;exact⟨rf<|by rw[<-HP.out],rfl⟩
   .have d1:decide ((y:Int)<4294967296)=false:=a6 aC ;clear hn DQ;go_wp2;go_ret;exact⟨rf<|by rw[<-HP.out],rfl⟩
def air(iz next third v w0:Nat)(hv:2147483648<=v)(sU:v<4294967296)(hn:next<4294967296)(ht:third<4294967296)(hw:w0<4294967296)(htv:iz<=v):
 ∃ g,g<=4294967295/\g<=((iz*4294967296+next)*4294967296+third)/(v*4294967296+w0)/\(g=4294967295\/((iz*4294967296+next)*4294967296+third)/(v*4294967296+w0)<=g) /\
  ∀ w,Calls prog 357 #[.int .u32 iz,.int .u32 next,.int .u32 third,.int .u32 v,.int .u32 w0] w λe w'=>e = .returned (.int .u64 (g:Int))/\∃ m,w'=w.drewN m:=by
 by_cases k1:v<=iz
 .obtain ⟨N,hN3,pR,uj,ru,g1,g2⟩:=UB (X:=iz*4294967296+next) (q:=4294967295) (rest:=(iz-v)*4294967296+next+v) (third:=third) (v:=v) (w:=w0) aC (a7 _) hv hw;refine⟨4294967295-N,aC,g1,g2.elim (λh=>.inl<|by rw[h]) .inr,λw=>?_⟩;clear g1 g2;have H:=λw=>UC 4294967295 ((iz-v)*4294967296+next+v) third v w0 N w aC aC ht sU hw pR uj ru
  clear uj ru;obtain rfl:v=iz:= aC ;have vf:(v-v)*4294967296+next+v=next+v:= aC 
  rw[vf,Int.natCast_add]at H;have HD:=arM H;clear H;have d1:decide ((v:Int)<=v)=true:=aZ aC;go_enter func357,ntmps357;go_wp2_with fail;refine(HD.out _).mono ?_;rintro e w' ⟨rfl,rfl⟩;go_wp2;go_ret;exact⟨rfl,0,rfl⟩
 .have d1:=cL (iz*4294967296+next) v;have d2:=bJ (iz*4294967296+next) (aC:0<v);have d3:(iz*4294967296+next)/v<4294967296:=by rw[cG aC];omega
  obtain⟨N,hN3,pR,uj,ru,g1,g2⟩:=UB (X:=iz*4294967296+next) (q:=(iz*4294967296+next)/v) (rest:=(iz*4294967296+next)%v) (third:=third) (v:=v) (w:=w0) (by rw[bI];exact d1) aC hv hw;have g3:=afz (x:=iz*4294967296+next) (v:=v) (w:=w0) (third:=third) aC ht;refine⟨(iz*4294967296+next)/v-N,aC,g1,.inr ?_,λw=>?_⟩
  .rcases g2 with rfl|g2
   .exact g3
   .exact g2
  have H:=λw=>UC ((iz*4294967296+next)/v) ((iz*4294967296+next)%v) third v w0 N w (Nat.le_of_lt_succ d3) (fP d2 aC) ht sU hw pR uj ru
  rw[Int.natCast_ediv,Int.natCast_emod]at H;have HD:=arM H;clear H g1 g2 g3 pR uj ru d1 d2 d3;have d1:decide ((v:Int)<=iz)=false:=a6 aC;have Is:=JD iz aC;have xm:=Ji iz next aC hn
  rw[show((iz*4294967296:Nat):Int)=iz*4294967296 by omega]at xm Is;have o9:((iz*4294967296+next:Nat):Int)<18446744073709551616:= aC ;rw[show((iz*4294967296+next:Nat):Int)=iz*4294967296+(next:Int)by omega]at xm o9;have Co:((v:Int)==0)=false:= aN ;go_enter func357,ntmps357;go_wp2;go_quiet (exact Calls.quiet_of_same<|(HD.out _).mono λ_ _ ⟨h1,h2⟩=>⟨h1,h2.symm⟩);go_wp2;go_ret;exact⟨rfl,_,rfl⟩
def Fp.iZ.apf{w0 w w':World}{g n:Nat}(h:iZ w0 w)(k:tX g (w.drewN n) w')(hg:w0.heap.size<=g):iZ w0 w':=
 (below_drewN h n).trans (k.below.mono hg)
def Fp.iZ.only{w0 w w':World}{g:Nat}(h:iZ w0 w)(k:tX g w w')(hg:w0.heap.size<=g):iZ w0 w':=
 Below.trans h (k.below.mono hg)
def Sl.Vv{w:World}{g cap:Nat}{L:List Nat}(h:Sl w (some ⟨g,0,none⟩) cap L){b:Nat}(hb:g≠b)(i:Nat)(v:Value):Sl (w.setCell ⟨b,i,none⟩ v) (some ⟨g,0,none⟩) cap L:=
 h.nY (λb' o _ e=>by cases e;exact hb) (tX.JC (tX.refl b w) i v)
def Sl.drewN{w:World}{A:Option Addr}{c:Nat}{L:List Nat}(h:Sl w A c L)(n:Nat):Sl (w.drewN n) A c L:=h.below<|below_drewN (Below.refl _ _) n
def amm{P:Program}{f:FuncId}{args:Array Value}{w:World}{n:Nat}{v:Value}
 (h:Calls P f args (w.drewN n) λe w'=>e = .returned v/\∃ m,w'=(w.drewN n).drewN m):Calls P f args (w.drewN n) λe w''=>e = .returned v/\∃ m,w''=w.drewN m:=
 h.mono λ_ _ ⟨he,m,hm⟩=>⟨he,n+m,by rw[hm,World.drewN_drewN]⟩
set_option maxRecDepth 100000 in
set_option maxHeartbeats 8000000 in
def afS(A B:Option Addr)(c d:Nat)(L M:List Nat)(w:World)(lx ly s:Nat)(Ck:lx=(iO L).length)(Ls:ly=(iO M).length)(xp:s=32-iq ((iO M).getD (ly-1) 0))(hs:Sl w A c L)(hr:Sl w B d M)(uX:Tb w)(h1:L.length<=100000)(h2:M.length<=100000)(sA:val M<=val L)(hlen:2<=ly):
 Calls prog 334 #[.slice A L.length c,.slice B M.length d] w (acC w (pE (val L/val M)<|lx+1-ly)<|rh (s%32)<|(ib<|val L%val M*2^s).drop<|s/32):=by
 have H1:=wA A c L w hs;have H2:=wA B d M w hr;have Wa:=qh L;unfold mS at Wa;have w9:=qh M;unfold mS at w9;have eL:=qL L;have eM:=qL M;rw[<-eL,<-eM]at sA ⊢;have lv:=hs.vG;have qb:=hr.vG;have OS:=BE M;have Wp:iO (iO L)=iO L:=BE L;have Ws:iO (iO M)=iO M:=BE M;have H3:=LV A B c d (iO L) (iO M) w lv qb aC aC;generalize iO L=X at *
 generalize iO M=Y at *
 have nN:0<=kI (val X) (val Y):=by unfold kI;split<;>(try split)<;>omega
 generalize kI (val X) (val Y)=cm at *
 have Wr:Y.length<=X.length:=by
  apply bQ;intro h;have:=MT lv.ok OS (aC:X.length<Y.length);omega
 clear eL eM hs hr sA;rw[<-Ck]at Wr H1 H3 Wa;rw[<-Ls]at Wr H2 H3 w9;have o9:Y.getD (ly-1) 0≠0:=by
  have:=(CO Y).1 OS aC;have e:Y.getD (ly-1) 0=Y[Y.length-1]'(aC):=by
   rw[bc,(aC:ly-1=Y.length-1)];simp[(aC:Y.length-1<Y.length)]
  rw[e];exact this
 have HN:=alw qb.ok (l:=ly-1) aC rfl o9 xp;rw[(aC:ly-1+1=ly)]at HN;obtain⟨x,hx⟩:∃ x,x=Y.getD (ly-1) 0:=⟨_,rfl⟩
 have nP:x<4294967296:=by rw[hx];exact qb.ok.getD _
 have H4:=arM λw=>akA x nP w;rw[<-hx]at xp;rw[<-xp]at H4;obtain⟨ab,ao,rfl,hab,c1⟩:=qb.mE (i:=ly-1) aC;have FE:Y[ly-1]'(aC)=x:=by rw[hx];simp[bc,(aC:ly-1<Y.length)]
 rw[FE]at c1;have ajb:s<32:=HN.1;have HNh:=arM HN;have H5:=λw (h:Sl w A c X)=>Zg A c X s w h aC aC 
 have H6:=λw (h:Sl w (some ⟨ab,ao,none⟩) d Y)=>Zg (some ⟨ab,ao,none⟩) d Y s w h aC aC 
 rw[Wp,<-Ck,(aC:s/32+lx+1=lx+1)]at H5;rw[Ws,<-Ls,(aC:s/32+ly+1=ly+1)]at H6;have H5h:=arM H5;have H6h:=arM H6;have HX:=arM Ck;have HY:=arM Ls;have HS2:=arM lv;have HR2:=arM qb;have H1h:=arM H1;have H2h:=arM H2;have H3h:=arM H3;clear H1 H2 H3 H5 H6 Wp Ws HN Ck Ls hx FE xp o9 lv qb OS;have DQ:(ly:Int)-1=((ly-1:Nat):Int):= aC ;have d0:decide (cm<0)=false:=a6 aC;have d2:decide ((lx:Int)+1<=(lx:Int))=false:=a6 aC;have xj:=IV (lx+1-ly) aC;rw[show((lx+1-ly:Nat):Int)=lx+1-(ly:Int)by omega]at xj;have d1:((ly:Int)==1)=false:= aN ;go_enter func334,ntmps334;go_wp2_with fail;refine H1h.out.mono ?_;rintro e w' ⟨rfl,rfl⟩;go_wp2_with fail;refine H2h.out.mono ?_;rintro e w' ⟨rfl,rfl⟩;go_wp2_with fail;refine H3h.out.mono ?_;rintro e w1 ⟨rfl,kE⟩;have c2:=c1;rw[<-(kE.cell (p:=⟨ab,ao+(ly-1),none⟩) hab)]at c2;go_wp2_with fail;refine(H4.out _).mono ?_;rintro e w2 ⟨rfl,rfl⟩;go_wp2_with fail;refine(H5h.out _<|HS2.out.below kE).mono ?_;rintro e w2 ⟨T,v1,he,Fk,Ht,o0,lV⟩;obtain⟨g,cap,R,FC,WG,WH,Wh,Fl,aiI⟩:=o0.rx (by intro h;rw[h]at Ht;simp at Ht);have Wl:=arM o0.ok;rw[Ht]at FC Fl;subst FC;subst he;clear o0;have HTv:=arM Fk;have HTl:=arM Ht;clear Fk Ht;go_wp2_with fail;refine(H6h.out _<|(HR2.out.below kE).below lV).mono ?_;rintro e w3 ⟨S,v2,he,Wk,Dq,o0,sx⟩;have K5:=Wh.qW<|sx.block g WH;obtain⟨g',cap',R',sU,aiQ,aqw,_,aqv,_⟩:=o0.rx (by intro h;rw[h]at Dq;simp at Dq);obtain⟨_,_,e2,OW⟩:=o0.sl;rw[sU]at e2;cases e2;have Lh:g'≠g:= aC 
 have H7:=wA (some ⟨g',0,none⟩) cap' S w3 OW;have hV:iO S=ib (val Y*2^s):=by rw[s8 o0.ok,Wk]
 have AN:=OW.vG;rw[hV]at H7 AN;rw[HNh.out.2.1,Dq]at H7;rw[Dq]at sU;have aiE:iZ w w3:=(kE.trans lV).trans sx;subst sU;subst he;have H7h:=arM H7;clear o0 OW hV Wk Dq H7 Wh lV sx;go_wp2_with fail;refine H7h.out.mono ?_;rintro e w4 ⟨rfl,rfl⟩;go_wp2;go_loop [9] (λu=>u = .slice (some ⟨g,0,none⟩) (lx+1) cap) (λ_=>0)
 case atStart=>rfl
 case round=>
  subst hrel;go_wp2;have zh:=Rw.Cx w3<|lx+1-ly;have Lt:=HNh.out.2.1;have uj:=HNh.out.2.2.1;have ru:=HNh.out.2.2.2.1;have Wn:=mJ<|val Y*2^s;have O5:=kK<|val Y*2^s;rw[<-O5]at ru;generalize ib (val Y*2^s)=V at *
  have ze:=tf.start (A:=val X) (s:=s) (V:=V) (O:=T) Wl.out HTv.out (la:=lx) (by rw[HX.out];exact pk HS2.out.ok) HTl.out ajb aC aC (by rw[Lt];exact ru);have Wj:=AN.alloc<|.cells (oQ<|List.replicate (lx+1-ly) 0).toArray 95;have Wi:Rx (w3.alloc<|.cells (oQ<|List.replicate (lx+1-ly) 0).toArray 95) g T R:=K5.qW ((iZ.alloc w3 _).block g<|by have:=K5.lt;omega);rw[Lt]at ze;have HD0:=arM ze;have HR0:=arM zh;have HRx:=arM Wi;have HSV:=arM Wj;have HE0:=arM<|aiE.trans<|iZ.alloc w3<|.cells (oQ<|List.replicate (lx+1-ly) 0).toArray 95;have HnV:=arM Lt;have HVok:=arM Wn;have HVv:=arM O5;have HN1:=arM uj;have hgq:g<w3.heap.size:=K5.lt;have WI:w.heap.size<=g:=bg kE.size WG;clear ze zh Wi Wj AN K5 Lt Wn O5 uj ru HTv HTl Wl H1h H2h H3h H4 H5h H6h H7h c1 c2 d2 xj kE WG aiQ WH HNh HS2 HR2;go_loopw [13] (λj wr=>∃ (k:Nat) (O Q:List Nat),k<=lx+1-ly/\j = .int .i64 ((k:Int)-1)/\tf (val X*2^s) V k (lx+1) O Q/\Rx wr g O R/\Rw wr w3.heap.size Q/\Sl wr (some ⟨g',0,none⟩) cap' V/\iZ w wr) (λj _=>(intOf j+1).toNat)
  case atStart=>
   exact⟨lx+1-ly,T,_,a7 _,by go_num,HD0.out,HRx.out,HR0.out,HSV.out,HE0.out⟩
  case round=>
   clear HD0 HRx HR0 HSV HE0;obtain⟨k,O,Q,hk,rfl,hD,Fj,OV,AN,Wx⟩:=hrel;have HE:=arM Wx;have HSV:=arM AN;have HRQ:=arM OV;have HRO:=arM Fj;have HD:=arM hD;clear hD Wx;rcases k with _|t
   .have hO:=HD.out.Yf;have Xa:=HRO.out.sl HD.out.Bo (cap:=cap) aC aiI ly;have HZ:=QK (some ⟨g,0,none⟩) cap (O.take ly) s wr Xa aQ aC;have e1:(O.take ly).length=ly:=by rw[cB];omega
    rw[e1]at HZ;have HZh:=arM HZ;have HQs:=arM (HRQ.out.sl HD.out.Je<|by rw[HD.out.IN];omega);have yl:0<val V:=by
     have:=HD.out.lt;rcases e9 (val V)with h|h
     .rw [h,cH]at this;omega
     .exact h
    have Wq:0<val Y:=by
     rw[HVv.out]at yl;exact Nat.pos_of_mul_pos_right yl
    have Pk:=afN (a:=val X) (b:=val Y) (s:=s) (q:=val Q) (r:=val O) Wq (by rw[<-HVv.out];exact HD.out.eq) (by rw[<-HVv.out];have:=HD.out.lt;rw[cA,b6]at this;exact this);have Fu:val (O.take ly)=val O:=by
     rw[apB HD.out.Bo,cj];have:=HD.out.lt;rw[cA,b6]at this;refine fP this ?_;have h:=pk HVok.out;rw[HnV.out]at h;exact h
    have Wb:iO (O.take ly)=ib (val X%val Y*2^s):=by rw[s8<|HD.out.Bo.take ly,Fu,Pk.2]
    rw[Wb]at HZh;have K3:=HD.out.IN;rw[HnV.out]at K3;have Wf:pE (val X/val Y) (lx+1-ly)=Q:=N6 HD.out.Je K3 Pk.1;have HQd:=arM Wf;generalize rh (s%32) ((ib<|val X%val Y*2^s).drop<|s/32)=Z at *
    have HQl:=arM K3;clear Pk Fu Wb Wf Xa HZ e1 K3 hO yl Wq AN Fj OV;go_wp2_with fail;refine HZh.out.mono ?_;rintro e w5 ⟨AZ,cZ,rfl,hZs,Wt⟩;go_wp2;go_ret2;have hq:=HQs.out.below Wt;rw[HQl.out]at hq;exact⟨_,_,_,_,by rw[B0];rfl,by rw[HQd.out];exact hq,hZs,HE.out.trans Wt⟩
   .have hO:=HD.out.Yf;have c4:=Fj.cell (i:=t+ly) aC;have c5:=Fj.cell (i:=t+ly-1) aC;have c6:=Fj.cell (i:=t+ly-2) aC;obtain⟨_,_,e1,_,c7⟩:=AN.mE (i:=ly-1) (by rw[HnV.out];omega);obtain⟨_,_,e2,_,c8⟩:=AN.mE (i:=ly-2) (by rw[HnV.out];omega);cases e1;cases e2;rw[bZ]at c7 c8;have v7:V[ly-1]'(by rw[HnV.out];omega)=V.getD (ly-1) 0:=by simp[bc,HnV.out,(aC:ly-1<ly)]
    have v8:V[ly-2]'(by rw[HnV.out];omega)=V.getD (ly-2) 0:=by simp[bc,HnV.out,(aC:ly-2<ly)]
    rw[v7]at c7;rw[v8]at c8;clear v7 v8;have mC:=HD.out.Bo;have o4:=mC.getD<|t+ly;have o5:=mC.getD<|t+ly-1;have o6:=mC.getD<|t+ly-2;have o7:=HVok.out.getD<|ly-1;have o8:=HVok.out.getD<|ly-2;have hG:=HD.out.aiq HVok.out (by rw[HnV.out];omega) (by rw[HnV.out];exact HN1.out);rw[HnV.out]at hG;obtain⟨gd,g1,g2,g3,g4⟩:=air (O.getD (t+ly) 0) (O.getD (t+ly-1) 0) (O.getD (t+ly-2) 0) (V.getD (ly-1) 0) (V.getD (ly-2) 0) HN1.out o7 o5 o6 o8 hG.1;have HGq:=arM<|hG.2 gd g1 g2 g3;have HG:=arM g4;clear hG g2 g3 g4 mC AN Fj OV;generalize O.getD (t+ly) 0=x4 at *
    generalize O.getD (t+ly-1) 0=x5 at *
    generalize O.getD (t+ly-2) 0=x6 at *
    have HV1:=arM (rfl:V.getD (ly-1) 0=V.getD (ly-1) 0);generalize hx7:V.getD (ly-1) 0=x7 at *
    generalize V.getD (ly-2) 0=x8 at *
    clear hx7 HV1;have i1:(((t+1:Nat):Int)-1)=(t:Int):= aC ;have i2:((t:Int)+ly).toNat=t+ly:= aC ;have i3:((t:Int)+ly-1).toNat=t+ly-1:= aC ;have i4:((t:Int)+ly-2).toNat=t+ly-2:= aC ;have i6:((ly:Int)-2)=((ly-2:Nat):Int):= aC ;have p1:IntKind.i64.wrap ((t:Int)+ly)=(t:Int)+ly:=i64_in _;have p2:IntKind.i64.wrap ((t:Int)+ly-1)=(t:Int)+ly-1:=i64_in _;have p3:IntKind.i64.wrap ((t:Int)+ly-2)=(t:Int)+ly-2:=i64_in _;have p4:IntKind.i64.wrap ((ly-1:Nat):Int)=((ly-1:Nat):Int):=i64_in _;have p5:IntKind.i64.wrap ((ly-2:Nat):Int)=((ly-2:Nat):Int):=i64_in _;have j6:((ly-1:Nat):Int)<ly:= aC ;have j7:((ly-2:Nat):Int)<ly:= aC ;have j0:0<=(t:Int)+ly:= aC ;have j1:0<=(t:Int)+ly-1:= aC ;have j2:0<=(t:Int)+ly-2:= aC ;have j3:(t:Int)+ly<lx+1:= aC ;have j4:(t:Int)+ly-1<(lx:Int)+1:= aC ;have j5:(t:Int)+ly-2<(lx:Int)+1:= aC ;rw[i1];clear i1;go_wp2;go_quiet (exact amm<|HG.out _);go_wp2_with fail;have HTk:=ao2 g t (cap-t) cap' gd O V R (some ⟨g',0,none⟩) (wr.drewN nq) (HRO.out.qW rfl) (HSV.out.drewN nq) (λb' o _ e=>by cases e;exact Lh) HD.out.Bo (by rw[HnV.out];omega) g1 aC;rw[HnV.out,(aC:ly+1=t+ly+1-t)]at HTk;refine HTk.mono ?_;rintro e w5 ⟨O',δ,rfl,Wg,qa,Fz,hδ,mI,Lx,FA⟩;have HRO':=arM Wg;have HON:=arM FA;have HSV5:=arM ((HSV.out.drewN nq).nY (λb' o _ e=>by cases e;exact Lh) FA);have HRQ5:=arM<|show Rw w5 w3.heap.size Q from(FA.nY _ aC).trans HRQ.out;have HE5:=arM<|show iZ w w5 from Fp.iZ.apf HE.out FA WI;have hPt:=pw t;have Wo:0<val V:=by
     have:=HD.out.lt;rcases e9 (val V)with h|h
     .rw [h,cH]at this;omega
     .exact h
    have wg:IntKind.u32.wrap (gd:Int)=gd:=by rw[IntKind.wrap_u32];omega
    have htm:(t:Int)<lx+1-(ly:Int):= aC ;have Xh:t<Q.length:=by rw[HD.out.IN,HnV.out];omega
    have OU:=bk Xh;have cq:=HRQ5.out.cell OU;have fq:=HRQ5.out.frozen t;generalize Q[t]=q0 at *
    have HQG:=arM OU;clear OU Xh c4 c5 c6 c7 c8 HRO HRQ HSV HE HTk Wg FA;rcases gN δ 1 with XF|hδ1
    .obtain rfl:δ=0:= aC ;have V9:=UE hPt Wo (by rw[mI,cS,bT]) HGq.out.1;have HDS:=arM (HD.out.step (x:=gd) (by rw[HnV.out];omega) (by rw[qa,hO]) Fz aC (by rw[mI,cS,bT]) V9.2);clear V9 mI Lx Fz qa HD HGq;have HRQ6:=arM (λx:Nat=>HRQ5.out.set t x);have HRO6:=arM (λv:Value=>HRO'.out.qW (w':=w5.setCell ⟨w3.heap.size,t,none⟩ v)<|by simp only[World.setCell,cV];rw[aX aC]);have HSV6:=arM (λv:Value=>HSV5.out.Vv (b:=w3.heap.size) aC t v);have HE6:=arM (λv:Value=>HE5.out.setCell (p:=⟨w3.heap.size,t,none⟩) (by show w.heap.size<=w3.heap.size;omega) v);go_wp2;go_roundw
     case rel=>exact⟨t,O',Q.set t gd,aC,by go_num,HDS.out,HRO6.out _,HRQ6.out _,HSV6.out _,HE6.out _⟩
     case measure=>simp[intOf]
    .obtain rfl:δ=1:= aC ;have tE:=HD.out.ZL (x:=gd) HVok.out Fz (by rw[HnV.out];exact mI) (by rw[HnV.out];exact Lx);have Dv:=tE.2;have HB:=arM (λ(κ:Nat) (O2:List Nat)=>HD.out.adJ (x:=gd) (κ:=κ) (O2:=O2) HVok.out (by rw[HnV.out];omega) Fz (by rw[HnV.out];exact mI) (by rw[HnV.out];exact Lx) g1 HGq.out.2 Wo);have HP0:=arM<|yZ.start Fz t V;have WS:O'.length=lx+1:=by rw[qa,hO]
     have HL':=arM WS;have hxm:IntKind.u64.wrap ((gd:Int)-1)=((gd-1:Nat):Int):=by rw[IntKind.wrap_u64];omega
     have wg1:IntKind.u32.wrap ((gd-1:Nat):Int)=((gd-1:Nat):Int):=by rw[IntKind.wrap_u32];omega
     clear tE mI Lx Fz qa WS HD HGq wg cq fq;go_wp2;go_loopw [15,125] (λcy i wr2=>∃ (k c':Nat) (O2:List Nat),k<=ly/\i = .int .i64 k/\cy = .int .u32 c'/\yZ O' t V k O2 c'/\Rx wr2 g O2 R/\tX g w5 wr2) (λ_ i _=>ly-(intOf i).toNat)
     case atStart=>exact⟨0,0,O',b7 _,rfl,rfl,HP0.out,HRO'.out,tX.refl _ _⟩
     case round=>
      clear HP0 HRO';obtain⟨k,c',O2,xf,rfl,rfl,hP,Ca,Ij⟩:=hrel;have HP:=arM hP;have Ce:=hP.NL;have oE:O2.length=lx+1:=by rw[hP.len];exact HL'.out
      have HL2:=arM oE;clear hP;by_cases iE:k<ly
      .have AX:k<V.length:=by rw[HnV.out];exact iE
       obtain⟨_,_,e1,_,c1⟩:=(HSV5.out.nY (λb' o _ e=>by cases e;exact Lh) Ij).mE AX;cases e1;rw[bZ]at c1;have v7:V[k]=V.getD k 0:=by simp[bc,AX]
       rw[v7]at c1;have qQ:t+k<O2.length:= aC ;have c2:=Ca.cell qQ;have c3:=Ca.frozen<|t+k;have rN:V.getD k 0<4294967296:=HVok.out.getD k;have Iu:O2.getD (t+k) 0<4294967296:=HP.out.ok.getD _;have HST:=arM (HP.out.step HVok.out AX<|by rw[HL'.out,HnV.out];omega);have HRS:=arM (λx:Nat=>Ca.set qQ x);have HOS:=arM λ(v:Value)=>Ij.JC (t+k) v;have HA:=arM λw=>GI (O2.getD (t+k) 0) (V.getD k 0) c' w Iu rN Ce;clear Ca Ij HP v7 AX qQ oE HL2;generalize O2.getD (t+k) 0=u at *
       generalize V.getD k 0=y at *
       have AU:((t:Int)+k).toNat=t+k:= aC ;have Fq:0<=(t:Int)+k:= aC ;have hi3:(t:Int)+k<lx+1:= aC ;go_wp2_with fail;refine(HA.out _).mono ?_;rintro e w6 ⟨rfl,rfl⟩;go_wp2;go_roundw
       case rel=>
        exact⟨k+1,(u+y+c')/4294967296,O2.set (t+k)<|(u+y+c')%4294967296,aC,by go_num,rfl,HST.out,HRS.out _,HOS.out _⟩
       case measure=>simp[intOf];omega
      .obtain rfl:k=ly:= aC ;have We:=(show yZ O' t V V.length O2 c' by rw[HnV.out];exact HP.out).Ql (by rw[HL'.out,HnV.out];omega);rw[HnV.out]at We;obtain⟨q1,q2,⟨κ,q3,q4⟩,q5⟩:=We;have qQ:t+k<O2.length:= aC ;have c2:=Ca.cell qQ;have c3:=Ca.frozen<|t+k;have Iu:O2.getD (t+k) 0<4294967296:=HP.out.ok.getD _;have HDS:=arM (HB.out κ _ (by rw[q1];exact HL'.out) q2 q3 (by rw[HnV.out];exact q4)<|by rw[HnV.out];exact q5);have HRS:=arM (λx:Nat=>Ca.set qQ x);have HOS:=arM λ(v:Value)=>Ij.JC (t+k) v;have K4:∀ v:Value,Rw (wr.setCell ⟨g,t+k,none⟩ v) w3.heap.size Q:=λv=>((HOS.out v).nY _ aC).trans HRQ5.out
       have hcq:∀ v:Value,(wr.setCell ⟨g,t+k,none⟩ v).cell? ⟨w3.heap.size,t,none⟩=some (.int .u32 (q0:Int)):=λv=>(K4 v).cell HQG.out
       have hfq:∀ v:Value,(wr.setCell ⟨g,t+k,none⟩ v).frozen? ⟨w3.heap.size,t,none⟩=false:=λv=>(K4 v).frozen t
       have HRQ8:=arM λ(v:Value) (x:Nat)=>(K4 v).set t x;have HRO8:=arM (λ(x:Nat) (v:Value)=>(HRS.out x).qW (w':=(wr.setCell ⟨g,t+k,none⟩<|.int .u32 (x:Int)).setCell ⟨w3.heap.size,t,none⟩ v)<|by simp only[World.setCell,cV];rw[aX aC]);have HSV8:=arM (λ(v v2:Value)=>(HSV5.out.nY (λb' o _ e=>by cases e;exact Lh)<|HOS.out v).Vv (b:=w3.heap.size) aC t v2);have HE8:=arM (λ(v v2:Value)=>(Fp.iZ.only HE5.out (HOS.out v) WI).setCell (p:=⟨w3.heap.size,t,none⟩) (by show w.heap.size<=w3.heap.size;omega) v2);clear K4 HRS HOS Ca Ij HP q1 q2 q3 q4 q5 qQ oE HL2;generalize O2.getD (t+k) 0=u at *
       have AU:((t:Int)+k).toNat=t+k:= aC ;have Fq:0<=(t:Int)+k:= aC ;have hi3:(t:Int)+k<lx+1:= aC ;have hi4:IntKind.u32.wrap ((u:Int)+c')=(((u+c')%4294967296:Nat):Int):=by rw[IntKind.wrap_u32];omega
       generalize (u+c')%4294967296=uu at *
       go_wp2;go_roundw
       case rel=>exact⟨t,O2.set (t+k) uu,Q.set t<|gd-1,aC,by go_num,HDS.out,HRO8.out _ _,HRQ8.out _ _,HSV8.out _ _,HE8.out _ _⟩
       case measure=>simp[intOf]
def aoi:E.le (.v<|.slice none 0 0)<|il []:=λbs br w v h=>by
 obtain rfl:=iI.kG h;exact .sl false 0 1 _ none 0 (λ_ _=>undef) (a7 _) aE (λ_=>rfl) (λi j hi=>absurd hi<|bt i) (λi j hi=>absurd hi<|bt i) (λi j hi=>absurd hi<|bt i) λi j hi=>absurd hi<|bt i
def aoj{x:Nat}:E.le (.sl false 1 1 λi_ j_=>[.v<|.int .u32 (x:Int)].getD (i_*1+j_)<|.v<|.bool false)<|il [x]:=.sl λi j hi hj=>by
 obtain rfl:i=0:= aC ;obtain rfl:j=0:= aC ;exact⟨.refl _,rfl⟩
def Ug(L:List Nat)(hk:iQ L):ic 203 [il L]<|il L:=Jj hk call203 (λA c w h _=>NR A c L w h) λA c B w e w' h hB ⟨h1,h2⟩=>by
 subst h2;exact⟨_,h1,Below.refl _ _,CM hB (Below.refl _ _) ⟨a7 _,h.len,h.ok,λhn=>by have:=h.z8 hn;have:=h.cap;omega,h.cell⟩⟩
def Uh(L:List Nat)(hk:iQ L)(hl:L.length<=1000000):ic 204 [il L]<|il L:=Jj hk call204 (λA c w h _=>NS A c L w h aC) λA c B w e w' h hB r=>rl B w e w' hB r
section
variable(L M:List Nat)(hL:iQ L)(hM:iQ M)(h1:L.length<=100000)
def ak5(h2:M.length<=100000)(hc:kI (val<|iO L) (val<|iO M)<0):ic 334 [il L,il M]<|.ix [il [],il<|iO L]:=by
 have ta:=qh L;have tb:=qh M;unfold mS at ta tb;exact iy<|ae [.c<|vv L aD,.c<|vv M aD,.c<|I7 (iO L) (iO M) (iQ.iO aD) (iQ.iO aD) aC,tB 25<|aZ hc,.c<|Uh (iO L) (iQ.iO aD) aC]<|rR (.ix [il [],il<|iO L]) (.ix<|.cons aoi<|.cons (.refl _) .nil:E.le (.ix [.v<|.slice none 0 0,il<|iO L])<|.ix [il [],il<|iO L])
def ak6(h2:M.length<=100000)(hc:¬kI (val<|iO L) (val<|iO M)<0)(hl:(iO M).length=1)(Cf:0<(iO M).getD 0 0)(Cg:(iO M).getD 0 0<4294967296):ic 334 [il L,il M]<|.ix [il<|pE (val (iO L)/(iO M).getD 0 0) (iO L).length,il [val (iO L)%(iO M).getD 0 0]]:=by
 have ta:=qh L;have tb:=qh M;unfold mS at ta tb;exact iy<|ae [.c<|vv L aD,.c<|vv M aD,.c<|I7 (iO L) (iO M) (iQ.iO aD) (iQ.iO aD) aC,tB 25<|a6 hc,ah 30 (((iO M).length:Int)==1)<|by rw[hl];rfl,iX 0<|(iO M).length,.c<|alc (iO L) ((iO M).getD 0 0) (iQ.iO aD) aC Cf Cg]<|rR (.ix [il<|pE (val (iO L)/(iO M).getD 0 0) (iO L).length,il [val (iO L)%(iO M).getD 0 0]]) (.ix<|.cons (.refl _)<|.cons aoj .nil:E.le (.ix [il<|pE (val (iO L)/((iO M).getD 0 0)) (iO L).length,(.sl false 1 1 λi_ j_=>[.v<|.int .u32 ((val (iO L)%((iO M).getD 0 0):Nat):Int)].getD (i_*1+j_)<|.v<|.bool false)])<|.ix [il<|pE (val (iO L)/(iO M).getD 0 0) (iO L).length,il [val (iO L)%(iO M).getD 0 0]])
def QF(h2:M.length<=100000)(h0:val M≠0):∃ T S:List Nat,ic 334 [il L,il M] (.ix [il T,il S])/\val T=val L/val M/\val S=val L%val M/\iQ T/\iQ S/\T.length<=L.length/\S.length<=L.length+1:=by
 have ta:=qh L;have tb:=qh M;unfold mS at ta tb;have e1:=qL L;have e2:=qL M;by_cases hc:kI (val<|iO L) (val<|iO M)<0
 .refine ⟨[],iO L,ak5 L M hL hM h1 h2 hc,?_,?_,iQ.nil,hL.iO,b7 _,aC⟩
  .rw [e1,e2]at hc;have:val L<val M:=by unfold kI at hc;split at hc<;>(try split at hc)<;>omega
   rw[cY this];rfl
  .rw [e1,e2]at hc;have:val L<val M:=by unfold kI at hc;split at hc<;>(try split at hc)<;>omega
   rw[cj this,e1]
 .have sA:val M<=val L:=by rw[e1,e2]at hc;unfold kI at hc;split at hc<;>(try split at hc)<;>omega
  have jD:iO M≠[]:=by intro h;rw[h]at e2;exact h0 e2.symm
  have hlen:(iO M).length≠0:=by simpa using jD
  by_cases hl:(iO M).length=1
  .obtain ⟨x,hx⟩:=List.length_eq_one_iff.1 hl;have mC:=hM.iO;rw[hx]at mC;have Xx:x=val M:=by rw[<-e2,hx];simp[val]
   have hg:(iO M).getD 0 0=x:=by rw[hx];rfl
   have:=ak6 L M hL hM h1 h2 hc hl (by rw[hg];omega) (by rw[hg];exact mC.head);rw[hg]at this;refine⟨_,_,this,?_,?_,G8 _ _,iQ.cons (fP (bJ _ aC) mC.head) iQ.nil,by rw[B0];exact ta,aH⟩
   .rw [JN,cj,e1,Xx];exact ck (b5 _ _)<|pk hL.iO
   .simp [val,e1,Xx]
  .refine ⟨_,_,Jl hL hM call334 (λA c B d w h k hT=>afS A B c d L M w _ _ _ rfl rfl rfl h k hT h1 h2 sA aC) λB w e w' hB ⟨A1,c1,B1,d1,q1,q2,q3,q4⟩=>⟨_,q1,q4,kf.ix<|.cons (CM hB q4 q2)<|.cons (CM hB q4 q3)<|.nil _ _ _⟩,?_,?_,G8 _ _,CD _ _,?_,?_⟩
   .rw [JN,cj];rw[cG aC];have g1:=pk hL.iO;rw[e1]at g1;refine bM g1 ?_;obtain⟨l,qa⟩:∃ l,(iO M).length=l+1:=⟨(iO M).length-1,aC⟩
    have g2:4294967296^l<=val M:=by
     apply bQ;intro q;have q2:(ib<|val M).length<=l:=yG aC;rw[<-s8 hM]at q2;omega
    have g3:=cJ (4294967296^((iO L).length+1-(iO M).length)) g2;rw[<-bj]at g3;refine bg ?_ g3;exact bO aE aC 
   .rw [MV<|mJ _,kK,dY _<|bn aE]
   .rw [B0];omega
   .rw [ME,eK];have hb:32-iq ((iO M).getD ((iO M).length-1) 0)<33:= aC ;have:=akm (mJ<|val L%val M)<|32-iq ((iO M).getD ((iO M).length-1) 0);rw[kK]at this;have h3:(ib<|val L%val M).length<=(ib<|val L).length:=nk<|eA _ _;rw[<-s8 hL]at h3;omega
end
def Bm(m n:Nat)(h1:(ib m).length<=256)(h2:(ib n).length<=256)(h0:n≠0):ic 280 [il<|ib m,il<|ib n]<|.ix [il<|ib<|m/n,il<|ib<|m%n,iP 0]:=by
 obtain⟨T,S,Fo,hT,hS,oT,oS,_,_⟩:=QF (ib m) (ib n) (mJ m) (mJ n) aC aC (by rw[kK];exact h0);rw[kK,kK]at hT hS;have hz:iO (ib n)=ib n:=Gn n;have hl:=pV h0;have oE:(((iO<|ib n).length:Int)==0)=false:=by rw[hz];exact nG hl
 exact iy<|ae [.c<|Y5 (ib m) (ib n) aD aD,.c<|vv (ib n)<|mJ _,ai 18 (((iO<|ib n).length:Int)==0) oE,ag [il<|ib m,il<|ib n] Fo,.c<|vv T aD,.c<|Ug (iO T)<|iQ.iO aD,.c<|vv S aD,.c<|Ug (iO S)<|iQ.iO aD]<|rQ (.ix [il<|iO T,il<|iO S,iP 0]) (.ix [il<|ib<|m/n,il<|ib<|m%n,iP 0])<|by rw[s8 oT,s8 oS,hT,hS]
def aae(a b:Dy)(p:Nat)(up:Bool)(ha:a.ig)(hb:b.ig)(b0:b.m≠0)(iu:8<=p)(ie:p<=512):ic 230 [iw a,iw b,iP p,bP up]<|.ix [iw<|nK a b p up,iP<|q6 a b p up]:=by
 by_cases a0:a.m=0
 .have e1:nK a b p up=iR/\q6 a b p up=0:=by unfold nK q6;rw[aY a0,aY a0];exact⟨rfl,rfl⟩
  exact iy<|ae [.o 18<|.e<|yh a b,.c<|yO p a b aD aD,ai 21 ((0:Int) != 0) aE,ai 28 (((ib b.m).length:Int)==0)<|nG<|pV b0,ah 34 (((ib a.m).length:Int)==0)<|sY<|wq.2 a0,.o 35 (.e tc:aj (.agg ar)<|iw iR)]<|rQ (.ix [iw iR,iP 0]) (.ix [iw<|nK a b p up,iP<|q6 a b p up])<|by rw[e1.1,e1.2]
 .have va:=ha.ib;have vb:=hb.ib;have xa:=ha.exp;have xb:=hb.exp;have ra:=ha.range.resolve_left a0;have rb:=hb.range.resolve_left b0;have pa:=oV a0;have pb:=oV b0;have hK:lf a b p 3=p+3+iq b.m-iq a.m:=rfl;have bs:=rI a0<|lf a b p 3;have z1:(ib<|a.m*2^lf a b p 3).length<=256:=qd;have hq:=N7 a0 b0 p 3 aE;have q0:a.m*2^lf a b p 3/b.m≠0:=by intro q;rw[q,sO]at hq;omega
  have z2:(ib<|a.m*2^lf a b p 3/b.m).length<=256:=qd (by have:=uW<|b5 (a.m*2^lf a b p 3) b.m;omega);have z3:(ib<|a.m*2^lf a b p 3%b.m).length<=256:=qd (by have:=uW<|dq<|bJ (a.m*2^lf a b p 3)<|dI b0;omega);have ln:decide (0<(iq<|a.m*2^lf a b p 3%b.m:Int))=decide (a.m*2^lf a b p 3%b.m≠0):=by
   by_cases h:a.m*2^lf a b p 3%b.m=0
   .rw [h,sO];rfl
   .have:=oV h;rw[aZ h,aZ aC]
  obtain⟨d1,d2⟩:=afO a0 b0 p up;have h0:a.m*2^lf a b p 3/b.m≠0\/a.m*2^lf a b p 3/b.m=0/\a.e-(lf a b p 3:Int)-b.e=0/\decide (0<(iq<|a.m*2^lf a b p 3%b.m:Int))=false:=.inl q0;have hm:decide (0<(iq<|a.m*2^lf a b p 3%b.m:Int))=true->p<iq (a.m*2^lf a b p 3/b.m):=λ_=>hq
  exact iy (ae [.o 18<|.e<|yh a b,.c<|yO p a b aD aD,ai 21 ((0:Int) != 0) aE,ai 28 (((ib b.m).length:Int)==0)<|nG<|pV b0,ai 34 (((ib a.m).length:Int)==0)<|nG<|pV a0,iD<|(p:Int)+3,.c<|KA b aD,
   iD (((p:Int)+3)+(iq<|Dy.m b:Int)),.c<|KA a aD,iD<|(((p:Int)+3)+(iq<|Dy.m b:Int))-(iq<|Dy.m a:Int),.o 44<|aq (if((((p:Int)+3)+(iq<|Dy.m b:Int))-(iq<|Dy.m a:Int))>0 then((((p:Int)+3)+(iq<|Dy.m b:Int))-(iq<|Dy.m a:Int))else 0) (lf a b p 3:Int) aM,.c<|xI a.m<|lf a b p 3,.c<|Bm (a.m*2^(lf a b p 3)) b.m aC aC aD,iD<|a.e-(lf a b p 3:Int),
   iD ((a.e-(lf a b p 3:Int))-b.e),.c<|tL<|(a.m*2^(lf a b p 3))%b.m,.c<|Jt (! (a.neg==b.neg)) ((a.m*2^(lf a b p 3))/b.m) ((a.e-(lf a b p 3:Int))-b.e) (decide (0<(iq<|(a.m*2^(lf a b p 3))%b.m:Int))) up p aC aD aC aC aC aC aD]<|rQ (.ix [iw<|j9 (!(a.neg==b.neg)) ((a.m*2^(lf a b p 3))/b.m) ((a.e-(lf a b p 3:Int))-b.e) (decide (0<(iq<|(a.m*2^(lf a b p 3))%b.m:Int))) p up,iP<|jY (!(a.neg==b.neg)) ((a.m*2^(lf a b p 3))/b.m) ((a.e-(lf a b p 3:Int))-b.e) (decide (0<(iq<|(a.m*2^(lf a b p 3))%b.m:Int))) p up]) (.ix [iw<|nK a b p up,iP<|q6 a b p up])<|by rw[<-d1,<-d2,<-ln];rfl)
section
variable(a b:Dy)(p:Nat)(ha:a.ig)(hb:b.ig)(b0:b.m≠0)(iu:8<=p)(ie:p<=512)
def aac:ic 169 [iw a,iw b,iP p]<|.ix [iw<|nK a b p false,iP<|q6 a b p false]:=
 iy (af [.c<|aae a b p false aD aD aD aC aC])
def aad:ic 170 [iw a,iw b,iP p]<|.ix [iw<|nK a b p true,iP<|q6 a b p true]:=
 iy (af [.c<|aae a b p true aD aD aD aC aC])
end
def X0(l:List Iv)(i:Nat):PS:=⟨19,true,[(7,.e<|iP i),(6,.e<|iP l.length),(5,.e<|iA l)],[]⟩
def XZ(l:List Iv)(N:Nat)(i:Nat):PS:=⟨19,true,[(7,.e<|iP i),(6,.e<|iP l.length),(5,.e<|iA l)],[]⟩
def lW(a:Iv):E.le (.sl true 1 7 λi j=>(jt a).getD (i*7+j)<|.v<|.bool false)<|iA [a]:=.sl λi j hi hj=>by
 obtain rfl:i=0:= aC ;rcases j with _|_|_|_|_|_|_|j
 all_goals first|exact⟨.refl _,rfl⟩|omega
def yE(a b:Iv):E.le (.sl true 2 7 λi j=>(jt a++jt b).getD (i*7+j)<|.v<|.bool false)<|iA [a,b]:=.sl λi j hi hj=>by
 obtain rfl|rfl:i=0\/i=1:= aC 
 all_goals
  rcases j with _|_|_|_|_|_|_|j
  all_goals first|exact⟨.refl _,rfl⟩|omega
def vj{x:Iv}(h:x.ig)(ha:x.all=false):x.lo.ig/\x.hi.ig/\jm x.lo x.hi<=0:=by
 rcases h with⟨h1,_⟩|⟨_,h⟩
 .rw [ha]at h1;cases h1
 .exact h
def X2{x:Iv}(h:x.ig)(ha:x.all=true):x.lo=iR/\x.hi=iR:=by
 rcases h with⟨_,h⟩|⟨h1,_⟩
 .exact h
 .rw [ha]at h1;cases h1
def nu : ic 21 []<|im ik:=
 iy (af [.o 1 (.e BH:aj (.agg [bP false,.v<|.slice none 0 0,iP 0,bP false,.v<|.slice none 0 0,iP 0,bP true])<|im ik)])
def DY(lo hi:Dy)(e f:Int):ic 127 [iw lo,iP e,iw hi,iP f]<|im<|lH lo e hi f:=by
 by_cases he:e=0
 .by_cases hf:f=0
  .exact iy<|ae [ai 10 (e != 0)<|by rw[he];rfl,ai 13 (f != 0)<|by rw[hf];rfl]<|rQ (im<|Iv.mk lo hi false) (im<|lH lo e hi f)<|by rw[show lH lo e hi f=⟨lo,hi,false⟩by unfold lH;rw[aX<|by simp[he,hf]]];try rfl
  .exact iy<|ae [ai 10 (e != 0)<|by rw[he];rfl,ah 13 (f != 0)<|by simpa using hf,.c nu]<|rQ (im ik) (im<|lH lo e hi f)<|by rw[show lH lo e hi f=ik by unfold lH;rw[aY<|.inr hf]]
 .exact iy<|ae [ah 10 (e != 0)<|by simpa using he,.c nu]<|rQ (im ik) (im<|lH lo e hi f)<|by rw[show lH lo e hi f=ik by unfold lH;rw[aY<|.inl he]]
def X5 : ic 113 [iw iR]<|bP true:=
 iy (af [ai 4 iR.neg rfl,ah 10 (((ib iR.m).length:Int)==0)<|sY<|wq.2 rfl,ah 15 (iR.e==0) rfl])
def pe(x:Iv)(hx:x.ig):ic 66 [im x]<|bP true:=by
 by_cases kJ:x.all=true
 .obtain ⟨h1,h2⟩:=X2 hx kJ;exact iy<|af [ah 5 x.all kJ,.c (by rw[h1];exact X5:ic 113 [iw x.lo]<|bP true),.c (by rw[h2];exact X5:ic 113 [iw x.hi]<|bP true)]
 .replace kJ:x.all=false:=by simpa using kJ
  obtain⟨h1,h2,h3⟩:=vj hx kJ;exact iy<|af [ai 5 x.all kJ,.c<|qk x.lo aD,.c<|qk x.hi aD,.c<|mF x.lo x.hi aD aD,tB 30<|aZ h3]
section
variable(l:List Iv)(hl:l.length<=1000)(hv:∀ i,i<l.length->(l.getD i ik).ig)
def X1(ha:∀ i,i<l.length->(l.getD i ik).all=false):ic 93 [iA l]<|bP true:=
 iy (af [.s (Sp.jX (X0 l) 0 l.length aC (λi hi rA=>by
    have Xp:=hv i aC;have O8:=ha i aC;exact iS (af [tT 8 ((i:Int)<l.length) aC,iX (i:Int)<|l.length,ai 12 ((l.getD i ik).all) O8,.c<|pe (l.getD i ik) aD,
     iD ((i:Int)+1)]) aF)
  (λhi=>by
    exact iS (af [tF 8 ((l.length:Int)<l.length) aC]) aF) aI:jW 2 Tryz.f93 (X0 l 0) (.exit 0) ⟨19,true,[],[]⟩) .nil])
def Qb(N:Nat)(hN:N<l.length)(ha:∀ i,i<N->(l.getD i ik).all=false)(ru:(l.getD N ik).all=true):ic 93 [iA l]<|bP false:=
 iy (af [.s (Sp.jX (XZ l N) 0 N aC (λi hi rA=>by
    have Xp:=hv i aC;have O8:=ha i aC;exact iS (af [tT 8 ((i:Int)<l.length) aC,iX (i:Int)<|l.length,ai 12 ((l.getD i ik).all) O8,.c<|pe (l.getD i ik) aD,
     iD ((i:Int)+1)]) aF)
  (λhi=>by
    exact iS (af [tT 8 ((N:Int)<l.length) aC,iX (N:Int)<|l.length,ah 12 ((l.getD N ik).all) ru]) aF) aI:jW 2 Tryz.f93 (XZ l N 0) .ret ⟨19,true,[(2,.e<|bP false)],[]⟩) .nil])
end
def qo(x:Iv)(hx:x.ig):ic 93 [iA [x]]<|bP<|!x.all:=by
 have hv:∀ i,i<[x].length->([x].getD i ik).ig:=λi hi=>(match i,hi with
  | 0,_=>hx
  |n+1,hi=>absurd hi aH)
 cases kJ:x.all with
 |true=>exact Qb [x] aH hv 0 aH (λi hi=>absurd hi<|bt i) kJ
 |false=>exact X1 [x] aH hv (λi hi=>(match i,hi with
  | 0,_=>kJ
  |n+1,hi=>absurd hi aH))
def Bh(x y:Iv)(hx:x.ig)(hy:y.ig):ic 93 [iA [x,y]]<|bP<|!(x.all||y.all):=by
 have hv:∀ i,i<[x,y].length->([x,y].getD i ik).ig:=λi hi=>(match i,hi with
  | 0,_=>hx
  | 1,_=>hy
  |n+2,hi=>absurd hi aH)
 cases kJ:x.all with
 |true=>exact Qb [x,y] aH hv 0 aH (λi hi=>absurd hi<|bt i) kJ
 |false=>cases Cq:y.all with
  |true=>exact Qb [x,y] aH hv 1 aH (λi hi=>(match i,hi with
   | 0,_=>kJ
   |n+1,hi=>absurd hi aC)) Cq
  |false=>exact X1 [x,y] aH hv (λi hi=>(match i,hi with
   | 0,_=>kJ
   | 1,_=>Cq
   |n+2,hi=>absurd hi aH))
def uH(x y:Iv)(p:Nat)(hx:x.ig)(hy:y.ig)(iu:8<=p:=by omega)(ie:p<=512:=by omega):ic 73 [im x,im y,iP p]<|im<|je x y p:=by
 by_cases hk:(x.all||y.all)=true
 .exact iy<|ae [.o 13<|.e<|yE x y,.c<|Bh x y aD aD,ai 14 (!(x.all||y.all))<|by rw[hk];rfl,.c nu]<|rQ (im ik) (im<|je x y p)<|by rw[show je x y p=ik by unfold je;rw[aY hk]]
 .replace hk:(x.all||y.all)=false:=by simpa using hk
  have kJ:x.all=false:=by cases h:x.all;rfl;rw[h]at hk;simp at hk
  have Cq:y.all=false:=by cases h:y.all;rfl;rw[h]at hk;simp at hk
  obtain⟨v1,v2,v3⟩:=vj hx kJ;obtain⟨v4,v5,v6⟩:=vj hy Cq;exact iy<|ae [.o 13<|.e<|yE x y,.c<|Bh x y aD aD,ah 14 (!(x.all||y.all))<|by rw[hk];rfl,.c<|xw (p:Int),ah 18 (kT (p:Int))<|pH.2 ⟨aC,aC⟩,.c<|aaa x.lo y.lo p aD aD aC aC,.c<|wE x.hi y.hi p aD aD,.c<|DY (jN (iM x.lo y.lo) p false) (jN (iM x.hi y.hi) p true) (jC (iM x.lo y.lo) p false)<|jC (iM x.hi y.hi) p true]<|rQ (im<|lH (jN (iM x.lo y.lo) p false) (jC (iM x.lo y.lo) p false) (jN (iM x.hi y.hi) p true)<|jC (iM x.hi y.hi) p true) (im<|je x y p)<|by rw[show je x y p=_ by unfold je;rw[aX<|by rw[hk];decide]]
def IG(x:Iv)(hx:x.ig):ic 72 [im x]<|im<|oO x:=by
 by_cases kJ:x.all=true
 .exact iy<|ae [.o 4<|.e<|lW x,.c<|qo x aD,ai 5 (!x.all)<|by rw[kJ];rfl,.c nu]<|rQ (im ik) (im<|oO x)<|by rw[show oO x=ik by unfold oO;rw[aY kJ]]
 .replace kJ:x.all=false:=by simpa using kJ
  obtain⟨v1,v2,v3⟩:=vj hx kJ;exact iy<|ae [.o 4<|.e<|lW x,.c<|qo x aD,ah 5 (!x.all)<|by rw[kJ];rfl,.c<|wU x.hi aD,.c<|wU x.lo aD]<|rQ (im<|Iv.mk (jo x.hi) (jo x.lo) false) (im<|oO x)<|by rw[show oO x=⟨jo x.hi,jo x.lo,false⟩by unfold oO;rw[aX<|by rw[kJ];decide]];try rfl
def IH(x y:Iv)(p:Nat)(hx:x.ig)(hy:y.ig)(iu:8<=p:=by omega)(ie:p<=512:=by omega):ic 163 [im x,im y,iP p]<|im<|kY x y p:=by
 have hn:=rU hy;exact iy<|af [.c<|IG y aD,.c<|uH x (oO y) p aD aD]
def rO(d:Dy)(hd:d.ig):ic 18 [iw d]<|im<|iJ d:=
 iy (af [.c<|qk d aD])
def Hc(d:Dy)(hd:d.ig):ic 193 [iw d]<|iw<|my d:=by
 have hl:=hd.ib;by_cases h0:d.m=0
 .have e1:my d=iR:=by
   rcases hd.canon with q|q
   .unfold my iR;rw[q.1,q.2.2]
   .omega
  exact iy<|ae [.c<|qk d aD,ah 10 (((ib d.m).length:Int)==0)<|sY<|wq.2 h0,.o 12 (.e tc:aj (.agg ar)<|iw iR)]<|rQ (iw iR) (iw<|my d)<|by rw[e1]
 .exact iy<|af [.c<|qk d aD,ai 10 (((ib d.m).length:Int)==0)<|nG<|pV h0,.c<|Uh (ib d.m) (mJ _) aC]
section
variable(a b:Dy)(ha:a.ig)(hb:b.ig)
def IE:ic 75 [iw a,iw b]<|iw<|jk a b:=by
 have hc:=C6 a b;by_cases h:(jm a b<=0)
 .exact iy<|ae [.c<|mF a b aD aD,tB 8<|aZ h]<|rQ (iw a) (iw<|jk a b)<|by unfold jk;rw[aX aC]
 .exact iy<|ae [.c<|mF a b aD aD,tB 8<|a6 h]<|rQ (iw b) (iw<|jk a b)<|by unfold jk;rw[aY aC]
def IF:ic 74 [iw a,iw b]<|iw<|jg a b:=by
 have hc:=C6 a b;by_cases h:(0<=jm a b)
 .exact iy<|ae [.c<|mF a b aD aD,tB 8<|aZ h]<|rQ (iw a) (iw<|jg a b)<|by unfold jg;rw[aX aC]
 .exact iy<|ae [.c<|mF a b aD aD,tB 8<|a6 h]<|rQ (iw b) (iw<|jg a b)<|by unfold jg;rw[aY aC]
end
section
variable(x:Iv)(hx:x.ig)
def LH:ic 52 [im x]<|iP<|mV x:=by
 by_cases kJ:x.all=true
 .exact iy<|ae [.o 5<|.e<|lW x,.c<|qo x aD,ai 6 (!x.all)<|by rw[kJ];rfl]<|rQ (iP 0) (iP<|mV x)<|by rw[show mV x=0 by unfold mV;rw[aY kJ]]
 .replace kJ:x.all=false:=by simpa using kJ
  obtain⟨v1,v2,v3⟩:=vj hx kJ;by_cases h1:0<x.lo.jc
  .exact iy<|ae [.o 5<|.e<|lW x,.c<|qo x aD,ah 6 (!x.all)<|by rw[kJ];rfl,.c<|nL x.lo aD,tB 12<|aZ h1]<|rQ (iP 1) (iP<|mV x)<|by rw[show mV x=1 by unfold mV;rw[aX<|by rw[kJ];decide];simp[h1]]
  .by_cases h2:x.hi.jc<0
   .exact iy<|ae [.o 5<|.e<|lW x,.c<|qo x aD,ah 6 (!x.all)<|by rw[kJ];rfl,.c<|nL x.lo aD,tB 12<|a6 h1,.c<|nL x.hi aD,tB 17<|aZ h2]<|rQ (iP (-1)) (iP<|mV x)<|by rw[show mV x = -1 by unfold mV;rw[aX<|by rw[kJ];decide];simp[h1,h2]]
   .exact iy<|ae [.o 5<|.e<|lW x,.c<|qo x aD,ah 6 (!x.all)<|by rw[kJ];rfl,.c<|nL x.lo aD,tB 12<|a6 h1,.c<|nL x.hi aD,tB 17<|a6 h2]<|rQ (iP 0) (iP<|mV x)<|by rw[show mV x=0 by unfold mV;rw[aX<|by rw[kJ];decide];simp[h1,h2]]
def wo(kJ:x.all=false):ic 160 [im x]<|.ix [iw<|kn x,bP true]:=by
 obtain⟨v1,v2,v3⟩:=vj hx kJ;have w1:=Aw v1;have w2:=Aw v2;exact iy<|af [.o 5<|.e<|lW x,.c<|qo x aD,ah 6 (!x.all)<|by rw[kJ];rfl,.c<|Hc x.lo aD,.c<|Hc x.hi aD,.c<|IF (my x.lo) (my x.hi) aD aD]
def ajL(kJ:x.all=false):ic 229 [im x]<|.ix [iw<|oN x,bP true]:=by
 obtain⟨v1,v2,v3⟩:=vj hx kJ;have w1:=Aw v1;have w2:=Aw v2;by_cases hs:mV x=0
 .exact iy<|ae [.o 5<|.e<|lW x,.c<|qo x aD,ah 6 (!x.all)<|by rw[kJ];rfl,.c<|LH x aD,ah 11 ((mV x)==0)<|by rw[hs];rfl,.o 12 (.e tc:aj (.agg ar)<|iw iR)]<|rQ (.ix [iw iR,bP true]) (.ix [iw<|oN x,bP true])<|by rw[show oN x=iR by unfold oN;rw[aY hs]]
 .exact iy<|ae [.o 5<|.e<|lW x,.c<|qo x aD,ah 6 (!x.all)<|by rw[kJ];rfl,.c<|LH x aD,ai 11 ((mV x)==0)<|by simpa using hs,.c<|Hc x.lo aD,.c<|Hc x.hi aD,.c<|IE (my x.lo) (my x.hi) aD aD]<|rQ (.ix [iw<|jk (my x.lo)<|my x.hi,bP true]) (.ix [iw<|oN x,bP true])<|by rw[show oN x=jk (my x.lo) (my x.hi)by unfold oN;rw[aX hs]]
def DW:ic 162 [im x]<|im<|iW x:=by
 by_cases kJ:x.all=true
 .exact iy<|ae [.o 8<|.e<|lW x,.c<|qo x aD,ai 9 (!x.all)<|by rw[kJ];rfl,.c nu]<|rQ (im ik) (im<|iW x)<|by rw[show iW x=ik by unfold iW;rw[aY kJ]]
 .replace kJ:x.all=false:=by simpa using kJ
  obtain⟨v1,v2,v3⟩:=vj hx kJ;exact iy<|ae [.o 8<|.e<|lW x,.c<|qo x aD,ah 9 (!x.all)<|by rw[kJ];rfl,.c<|ajL x aD kJ,.c<|wo x aD kJ]<|rQ (im<|Iv.mk (oN x) (kn x) false) (im<|iW x)<|by rw[show iW x=⟨oN x,kn x,false⟩by unfold iW;rw[aX<|by rw[kJ];decide]];try rfl
end
end Go.Proofs.YtjkmahljfblobaaGreatDoor
