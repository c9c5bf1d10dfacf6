/- Lemmas that the last file uses. -/
import Derived.Test.YtgdahmmlddfimaaGreatDoorM02
import Derived.Deep.Slices
import Derived.Carry
import Derived.Scope
set_option linter.unusedSimpArgs false
set_option linter.unusedVariables false
set_option linter.defProp false
set_option maxHeartbeats 4000000
open Go.Proofs.Tryz
namespace Go.Proofs.YtgdahmmlddfimaaGreatDoor.Fp
structure Iv where
 lo:Dy
 hi:Dy
 all:Bool
def il:Iv:=⟨iS,iS,true⟩
def Iv.ix(x:Iv):Prop:=(x.all=true/\x.lo=iS/\x.hi=iS)\/(x.all=false/\x.lo.ix/\x.hi.ix/\jf x.lo x.hi<=0)
def mw:il.ix:=.inl ⟨rfl,rfl,rfl⟩
def mA(lo:Dy)(e:Int)(hi:Dy)(f:Int):Iv:=if e≠0\/f≠0 then il else⟨lo,hi,false⟩
def yL(a b:Dy):Dy:=canon (a.neg != b.neg) (a.m*b.m) (a.e+b.e)
def qK(x:Iv):Iv:=if x.all then il else⟨iO x.hi,iO x.lo,false⟩
def jX(x y:Iv)(p:Nat):Iv:=
 if x.all||y.all then il else mA (iM (iH x.lo y.lo) p false) (jY (iH x.lo y.lo) p false) (iM (iH x.hi y.hi) p true) (jY (iH x.hi y.hi) p true)
def r7(x y:Iv)(p:Nat):Iv:=jX x (qK y) p
def adJ{x y:Int}:xV x y<=0↔x<=y:=by
 unfold xV;split
 .constructor<;>intro<;>omega
 .split<;>constructor<;>intro<;>omega
def ub{a b:Dy}{k:Int}(ha:qx a k)(hb:qx b k):jf a b<=0↔a.num k<=b.num k:=by rw[EA ha hb,adJ]
def le_trans{a b c:Dy}(h1:jf a b<=0)(h2:jf b c<=0):jf a c<=0:=by
 obtain⟨k,ka,kb,kc⟩:∃ k:Int,k<=a.e/\k<=b.e/\k<=c.e:=⟨min a.e (min b.e c.e),aC,aC,aC⟩
 rw[ub (.inr ka) (.inr kb)]at h1;rw[ub (.inr kb) (.inr kc)]at h2;rw[ub (.inr ka) (.inr kc)];omega
def DL(a:Dy):jf a a<=0:=by rw[ub (k:=a.e) (.inr (cN _)) (.inr (cN _))];exact cN _
def ah4(a b:Dy):jf a b<=0\/jf b a<=0:=by
 obtain⟨k,ka,kb⟩:∃ k:Int,k<=a.e/\k<=b.e:=⟨min a.e b.e,aC,aC⟩
 rw[ub (.inr ka) (.inr kb),ub (.inr kb) (.inr ka)];omega
def ajd{a b:Dy}(h:jf a b<=0):jf (iO b) (iO a)<=0:=by
 obtain⟨k,ka,kb⟩:∃ k:Int,k<=a.e/\k<=b.e:=⟨min a.e b.e,aC,aC⟩
 rw[ub (.inr ka) (.inr kb)]at h;rw[ub (k:=k) (Mv (.inr kb)) (Mv (.inr ka)),PO,PO];omega
def am8{a b c d:Dy}(h1:jf a b<=0)(h2:jf c d<=0):jf (iH a c) (iH b d)<=0:=by
 obtain⟨k,ka,kb,kc,kd⟩:∃ k:Int,k<=a.e/\k<=b.e/\k<=c.e/\k<=d.e:=⟨min (min a.e b.e) (min c.e d.e),aC,aC,aC,aC⟩
 rw[ub (.inr ka) (.inr kb)]at h1;rw[ub (.inr kc) (.inr kd)]at h2;rw[ub (k:=k) (Jb (.inr ka) (.inr kc)) (Jb (.inr kb) (.inr kd)),LP (.inr ka) (.inr kc),LP (.inr kb) (.inr kd)];omega
def JC(m:Nat)(e:Int)(p:Nat):
 lR m e false p false*2^ko m e p<=m/\m<=lR m e false p true*2^ko m e p:=by
 have h:=c9 m (2^ko m e p);have hr:=bV m (bL (n:=ko m e p) (aE:0<2));unfold lR;simp only[bR,false_and,bI,cg,false_or,true_and];rw[bT];generalize m/2^ko m e p=q at *
 generalize 2^ko m e p=P at *
 refine⟨aC,?_⟩;rw[cr,bT q];split
 .omega
 .omega
def MW{s:Bool}{m n:Nat}{e f K:Int}(h1:K<=e)(h2:K<=f)(h:m*2^(e-K).toNat<=n*2^(f-K).toNat):
 (s=false->jf (canon s m e) (canon s n f)<=0)/\(s=true->jf (canon s n f) (canon s m e)<=0):=by
 constructor
 .rintro rfl;rw[ub (Bs h1) (Bs h2),XJ h1,XJ h2]
  exact_mod_cast h
 .rintro rfl;rw[ub (Bs h2) (Bs h1),DY h1,DY h2];simp only[bN];omega
def S2(neg:Bool)(m:Nat)(e:Int)(p:Nat)(up:Bool)(he:kp neg m e false p up=0)(_hp:1<=p):
 (up=true->jf (canon neg m e) (kI neg m e false p up)<=0)/\(up=false->jf (kI neg m e false p up) (canon neg m e)<=0):=by
 rw[Gl]at he;obtain⟨c1,c2⟩:=JC m e p;have e1:(e-e).toNat=0:= aC ;have e2:(e+(ko m e p:Int)-e).toNat=ko m e p:= aC ;have hk:e<=e+(ko m e p:Int):= aC ;have A:=λs:Bool=>MW (s:=s) (m:=lR m e false p false) (n:=m) (e:=e+ko m e p) (f:=e) (K:=e) hk (cN _) (by rw[e1,e2];simpa using c1)
 have B:=λs:Bool=>MW (s:=s) (m:=m) (n:=lR m e false p true) (e:=e) (f:=e+ko m e p) (K:=e) (cN _) hk (by rw[e1,e2];simpa using c2)
 unfold kI;by_cases ho:mW m e false p (neg != up)=true
 .have hn:¬(neg != up)=true:=λh=>he ⟨ho,h⟩
  rw[bB ho,bA hn];have Vc:neg=up:=by cases neg<;>cases up<;>simp at hn ⊢
  have mY:(neg != up)=false:=by rw[Vc];simp
  rw[mY]at ho;unfold mW at ho;simp only[bQ,cL]at ho;obtain⟨o1,o2⟩:=ho;have hq:=vP o1;have J9:=pF o1;obtain⟨K,k1,k2⟩:∃ K:Int,K<=e/\K<=16384-p:=⟨min e (16384-p),aC,aC⟩
  have C:(2^p-1)*2^((16384:Int)-p-K).toNat<=m*2^(e-K).toNat:=by
   have h1:2^(iB (lR m e false p false)-1)*2^ko m e p<=m:=bH (bY _ hq) c1;have h2:=bY (2^(e-K).toNat) h1;rw[<-bK,<-bK]at h2;refine bH (bY _ (fA _ _)) (bH ?_ h2);rw[<-bK];exact b5 aE aC 
  have D:=MW (s:=neg) k2 k1 C;subst Vc;cases neg
  .exact ⟨λh=>absurd h aE,λ_=>D.1 rfl⟩
  .exact ⟨λ_=>D.2 rfl,λh=>absurd h aE⟩
 .rw [bA ho];cases neg<;>cases up
  .exact ⟨λh=>absurd h aE,λ_=>(A false).1 rfl⟩
  .exact ⟨λ_=>(B false).1 rfl,λh=>absurd h aE⟩
  .exact ⟨λh=>absurd h aE,λ_=>(B true).2 rfl⟩
  .exact ⟨λ_=>(A true).2 rfl,λh=>absurd h aE⟩
def Qx{d:Dy}(hd:d.oe)(p:Nat)(hp:1<=p):
 (jY d p true=0->jf d (iM d p true)<=0)/\(jY d p false=0->jf (iM d p false) d<=0):=by
 have h:=hd.Jw;constructor
 .intro he;have:=(S2 d.neg d.m d.e p true he hp).1 rfl;rwa[h]at this
 .intro he;have:=(S2 d.neg d.m d.e p false he hp).2 rfl;rwa[h]at this
def qO{x y:Iv}(hx:x.ix)(hy:y.ix){p:Nat}(hp:1<=p)(im:p<=4096):(jX x y p).ix:=by
 unfold jX;rcases hx with⟨h,_⟩|⟨h1,h2,h3,h4⟩
 .rw [h];exact mw
 .rcases hy with⟨h,_⟩|⟨k1,k2,k3,k4⟩
  .rw [h,h1];exact mw
  .rw [h1,k1];simp only[apy,bR,bI];unfold mA;by_cases he:jY (iH x.lo y.lo) p false≠0\/jY (iH x.hi y.hi) p true≠0
   .rw [bB he];exact mw
   .rw [bA he];have e1:jY (iH x.lo y.lo) p false=0:= aC ;have e2:jY (iH x.hi y.hi) p true=0:= aC ;refine .inr ⟨rfl,uA _ _ _ _ _ _ hp im,uA _ _ _ _ _ _ hp im,?_⟩;exact le_trans ((Qx (Ey h2.canon k2.canon) p hp).2 e1) (le_trans (am8 h4 k4) ((Qx (Ey h3.canon k3.canon) p hp).1 e2))
def Ch{x:Iv}(hx:x.ix):(qK x).ix:=by
 unfold qK;rcases hx with⟨h,_⟩|⟨h1,h2,h3,h4⟩
 .rw [bB h];exact mw
 .rw [h1];exact .inr ⟨rfl,wN h3,wN h2,ajd h4⟩
def jB(a b:Dy):Dy:=if jf b a<0 then b else a
def jy(a b:Dy):Dy:=if 0<jf b a then b else a
def HI(a b:Dy):jf (jB a b) a<=0:=by
 unfold jB;split
 .omega
 .exact DL a
def W0(a b:Dy):jf (jB a b) b<=0:=by
 unfold jB;split
 .exact DL b
 .rcases ah4 a b with h|h
  .exact h
  .have h0:jf b a=0:= aC ;obtain⟨k,ka,kb⟩:∃ k:Int,k<=a.e/\k<=b.e:=⟨min a.e b.e,aC,aC⟩
   rw[EA (k:=k) (.inr kb) (.inr ka)]at h0;rw[ub (.inr ka) (.inr kb)];unfold xV at h0;split at h0
   .omega
   .split at h0<;>omega
def EB(a b:Dy):jf a b = -jf b a:=by
 obtain⟨k,ka,kb⟩:∃ k:Int,k<=a.e/\k<=b.e:=⟨min a.e b.e,aC,aC⟩
 rw[EA (k:=k) (.inr ka) (.inr kb),EA (k:=k) (.inr kb) (.inr ka)];unfold xV;split<;>split<;>(try split)<;>omega
def DT(a b:Dy):jf a (jy a b)<=0:=by
 unfold jy;split
 .rw [EB];omega
 .exact DL a
def WZ(a b:Dy):jf b (jy a b)<=0:=by
 unfold jy;split
 .exact DL b
 .omega
def vD{a b:Dy}(ha:a.ix)(hb:b.ix):(jB a b).ix:=by unfold jB;split;exact hb;exact ha
def tw{a b:Dy}(ha:a.ix)(hb:b.ix):(jy a b).ix:=by unfold jy;split;exact hb;exact ha
def qf(D : Dy->Dy->Bool->Dy)(E : Dy->Dy->Bool->Int)(x y : Iv) : Iv:=
 if(E x.lo y.lo false=0/\E x.lo y.lo true=0)/\(E x.lo y.hi false=0/\E x.lo y.hi true=0)/\(E x.hi y.lo false=0/\E x.hi y.lo true=0)/\(E x.hi y.hi false=0/\E x.hi y.hi true=0)then
  ⟨jB (jB (jB (D x.lo y.lo false) (D x.lo y.hi false)) (D x.hi y.lo false)) (D x.hi y.hi false),
   jy (jy (jy (D x.lo y.lo true) (D x.lo y.hi true)) (D x.hi y.lo true)) (D x.hi y.hi true),false⟩
 else il
def Ua{D:Dy->Dy->Bool->Dy}{E:Dy->Dy->Bool->Int}{x y:Iv}(hv:∀ a b up,(D a b up).ix)
 (hle:E x.lo y.lo false=0->E x.lo y.lo true=0->jf (D x.lo y.lo false) (D x.lo y.lo true)<=0):(qf D E x y).ix:=by
 unfold qf;split
 .rename_i h;refine .inr ⟨rfl,vD (vD (vD (hv _ _ _) (hv _ _ _)) (hv _ _ _)) (hv _ _ _),tw (tw (tw (hv _ _ _) (hv _ _ _)) (hv _ _ _)) (hv _ _ _),?_⟩;refine le_trans (HI _ _) (le_trans (HI _ _) (le_trans (HI _ _) (le_trans (hle h.1.1 h.1.2) ?_)));exact le_trans (DT _ _) (le_trans (DT _ _) (DT _ _))
 .exact mw
def iY(x y:Iv)(p:Nat):Iv:=
 if x.all||y.all then il else qf (λa b up=>iM (yL a b) p up) (λa b up=>jY (yL a b) p up) x y
def py(x y:Iv){p:Nat}(hp:1<=p)(im:p<=4096):(iY x y p).ix:=by
 unfold iY;split
 .exact mw
 .exact Ua (λ_ _ _=>uA _ _ _ _ _ _ hp im) (λh1 h2=>S1 _ _ _ _ _ h1 h2)
def lX(a b:Dy)(p:Nat)(g:Nat):Nat:=p+g+iB b.m-iB a.m
def qm(a b:Dy)(p:Nat)(up:Bool):Dy:=
 if a.m=0 then iS else kI (a.neg != b.neg) (a.m*2^lX a b p 2/b.m) (a.e-b.e-lX a b p 2) (decide (a.m*2^lX a b p 2%b.m≠0)) p up
def rN(a b:Dy)(p:Nat)(up:Bool):Int:=
 if a.m=0 then 0 else kp (a.neg != b.neg) (a.m*2^lX a b p 2/b.m) (a.e-b.e-lX a b p 2) (decide (a.m*2^lX a b p 2%b.m≠0)) p up
def Nf{a b:Dy}(a0:a.m≠0)(b0:b.m≠0)(p g:Nat)(hg:2<=g):p<iB (a.m*2^lX a b p g/b.m):=by
 have h1:=vP a0;have h2:=tv b.m;have ha:=pF a0;have h3:2^p<=a.m*2^lX a b p g/b.m:=by
  rw[dC aC];refine bH (de _ (dU h2)) (bH ?_ (bY _ h1));rw[<-bK,<-bK];exact b5 aE (by unfold lX;omega)
 exact yH.2 h3
def aee{a b:Dy}(a0:a.m≠0)(b0:b.m≠0)(p:Nat)(up:Bool):
 kI (a.neg != b.neg) (a.m*2^lX a b p 3/b.m) (a.e-lX a b p 3-b.e) (decide (a.m*2^lX a b p 3%b.m≠0)) p up=qm a b p up /\
 kp (a.neg != b.neg) (a.m*2^lX a b p 3/b.m) (a.e-lX a b p 3-b.e) (decide (a.m*2^lX a b p 3%b.m≠0)) p up=rN a b p up:=by
 obtain⟨d,hd⟩:∃ d,lX a b p 3=lX a b p 2+d:=⟨lX a b p 3-lX a b p 2,by unfold lX;omega⟩
 have hb:=Nf a0 b0 p 2 aE;unfold qm rN;rw[bA a0,bA a0,hd];generalize lX a b p 2=k at *
 have hB:0<b.m:= aC ;have hP:=bL (n:=d) (aE:0<2);have e1:a.m*2^(k+d)/b.m/2^d=a.m*2^k/b.m:=by
  rw[dL,bK,<-bO,Nat.mul_div_mul_right _ _ hP]
 have e2:(decide (a.m*2^(k+d)%b.m≠0)||decide (a.m*2^(k+d)/b.m%2^d≠0))=decide (a.m*2^k%b.m≠0):=by
  have h1:a.m*2^(k+d)%(b.m*2^d)=a.m*2^k%b.m*2^d:=by rw[bK,<-bO,Nat.mul_mod_mul_right]
  have h2:a.m*2^(k+d)%(b.m*2^d)=a.m*2^(k+d)%b.m+b.m*(a.m*2^(k+d)/b.m%2^d):=Nat.mod_mul;rw[h1]at h2;rw[dv];simp only[eo,cL];constructor
  .intro h h0;rw[h0,dc]at h2;rcases h with h|h
   .omega
   .have:=gr hB (eE h);omega
  .intro h;apply ct;intro hn;have n1:a.m*2^(k+d)%b.m=0:=by
    apply ct;intro h';exact hn (.inl h')
   have n2:a.m*2^(k+d)/b.m%2^d=0:=by
    apply ct;intro h';exact hn (.inr h')
   rw[n1,n2,cT]at h2;have:=gr (eE h) hP;omega
 have h:=JB (N:=a.m*2^(k+d)/b.m) (E:=a.e-((k+d:Nat):Int)-b.e) (more:=decide (a.m*2^(k+d)%b.m≠0)) (d:=d) (p:=p) (a.neg != b.neg) up (by rw[e1];exact hb);rw[e1,e2,(aC:a.e-((k+d:Nat):Int)-b.e+(d:Int)=a.e-b.e-(k:Int))]at h;exact⟨h.1.symm,h.2.symm⟩
def nc(x:Iv):Int:=if x.all then 0 else if 0<x.lo.jq then 1 else if x.hi.jq<0 then -1 else 0
def jO(x y:Iv)(p:Nat):Iv:=
 if x.all||y.all||decide (nc y=0)then il else qf (λa b up=>qm a b p up) (λa b up=>rN a b p up) x y
def pH(x y:Iv){p:Nat}(hp:1<=p)(im:p<=4096):(jO x y p).ix:=by
 unfold jO;split
 .exact mw
 .refine Ua (λa b up=>?_) (λh1 h2=>?_)
  .unfold qm;split
   .exact tC
   .exact uA _ _ _ _ _ _ hp im
  .unfold qm rN at *
   split
   .exact DL _
   .rename_i h;rw[bA h]at h1 h2;exact S1 _ _ _ _ _ h1 h2
def mR(d:Dy):Dy:=⟨false,d.m,d.e⟩
def Ag{d:Dy}(h:d.ix):(mR d).ix:=by
 refine⟨?_,h.range⟩;rcases h.canon with⟨h1,_,h3⟩|h1
 .exact .inl ⟨h1,rfl,h3⟩
 .exact .inr h1
def abg(d:Dy)(k:Int):(mR d).num k=(d.kG k:Int):=by unfold Dy.num mR Dy.kG;simp
def nM(x:Iv):Dy:=jy (mR x.lo) (mR x.hi)
def pP(x:Iv):Dy:=if nc x=0 then iS else jB (mR x.lo) (mR x.hi)
def ky(x:Iv):Iv:=if x.all then il else⟨pP x,nM x,false⟩
def jP(d:Dy):Iv:=⟨d,d,false⟩
def rH{d:Dy}(h:d.ix):(jP d).ix:=.inr ⟨rfl,h,h,DL d⟩
def KK{x:Iv}(h1:x.lo.ix)(h2:x.hi.ix):(nM x).ix:=tw (Ag h1) (Ag h2)
def Jd{x:Iv}(h:x.ix):(ky x).ix:=by
 unfold ky;rcases h with⟨h,_⟩|⟨h,h1,h2,_⟩
 .rw [h];exact mw
 .rw [h];have v1:=Ag h1;have v2:=Ag h2;refine .inr ⟨rfl,?_,KK h1 h2,?_⟩
  .show (pP x).ix;unfold pP;split
   .exact tC
   .exact vD v1 v2
  .show jf (pP x) (nM x)<=0;unfold pP;split
   .refine le_trans (b:=mR x.lo) ?_ (DT _ _);rw[ub (a:=iS) (b:=mR x.lo) (k:=x.lo.e) (.inl rfl) (.inr (cN _)),xF rfl,abg];omega
   .exact le_trans (HI _ _) (DT _ _)
def jv(n:Int):Dy:=kR n 0
def jQ(n:Int):Iv:=jP (jv n)
def aly(r:List Iv)(p:Nat):Option Dy:=
 r.foldl (λs x=>s.bind λs=>if x.all then none else if jY (iH s (nM x)) p true≠0 then none else some (iM (iH s (nM x)) p true)) (some iS)
def ajh(m:List (List Iv))(p:Nat):Option Dy:=
 m.foldl (λs r=>s.bind λs=>(aly r p).map λn=>if 0<jf n s then n else s) (some iS)
def X7(u:Iv)(p:Nat):Nat->Iv
 | 0=>jQ 1
 |j+1=>iY (X7 u p j) (jO u (jQ (j+1:Nat)) p) p
def mZ(m:List (List Iv))(h:Iv)(k p:Nat):Option Iv:=
 (ajh m p).bind λn=>
  let u:=iY (ky h) (jP n) p
  if u.all||decide (0<=jf u.hi (jv (k+2:Nat)))then none
  else
   let e:=jO (X7 u p (k+1)) (r7 (jQ 1) (jO u (jQ (k+2:Nat)) p) p) p
   if e.all then none else some ⟨iO e.hi,e.hi,false⟩
end Go.Proofs.YtgdahmmlddfimaaGreatDoor.Fp
namespace Go.Proofs.YtgdahmmlddfimaaGreatDoor
open Go.RowKit Fp Pu
def iN(x:Iv):List E:=[bP x.lo.neg,ik (ij x.lo.m),iP x.lo.e,bP x.hi.neg,ik (ij x.hi.m),iP x.hi.e,bP x.all]
def iy(x:Iv):E:=.agg (iN x)
def iu(l:List Iv):E:=.sl true l.length 7 λi j=>(iN (l.getD i il)).getD j .any
def lW(m:List (List Iv)):E:=.sl true m.length 1 λi _=>iu (m.getD i [])
def ri(x y:Iv):Bool:=y.all||(!x.all&&(decide (jf y.lo x.lo<=0)&&decide (jf x.hi y.hi<=0)))
def Ih:E.le (.v (.slice none 0 0)) (ik (ij 0)):=by
 have:ik (ij 0) = .sl false 0 1 λi _=>.v (.int .u32 (((ij 0).getD i 0:Nat):Int)):=by unfold ik;rw[oV];rfl
 rw[this];exact .nil _ _ _
def Me:E.le (.agg [bP false,.v (.slice none 0 0),iP 0,bP false,.v (.slice none 0 0),iP 0,bP true]) (iy il):=
 .agg (.cons (.refl _) (.cons Ih (.cons (.refl _) (.cons (.refl _) (.cons Ih (.cons (.refl _) (.cons (.refl _) .nil)))))))
structure RD where
 neg:Bool
 L:List Nat
 e:Int
structure RI where
 lo:RD
 hi:RD
 all:Bool
def uS(d:RD):List E:=[bP d.neg,ik d.L,iP d.e]
def jj(d:RD):E:=.agg (uS d)
def A8(x:RI):List E:=[bP x.lo.neg,ik x.lo.L,iP x.lo.e,bP x.hi.neg,ik x.hi.L,iP x.hi.e,bP x.all]
def wP(x:RI):E:=.agg (A8 x)
def Cy:RD:=⟨false,[],0⟩
def jC:RI:=⟨Cy,Cy,true⟩
def iD(l:List RI):E:=.sl true l.length 7 λi j=>(A8 (l.getD i jC)).getD j .any
structure RD.iW(d:RD):Prop where
 ok:iZ d.L
 lo:-9223372036854775808<=d.e
 hi:d.e<=9223372036854775807
structure RI.iW(x:RI):Prop where
 lo:x.lo.iW
 hi:x.hi.iW
def LB:Cy.iW:=⟨iZ.nil,aE,aE⟩
def Ba:jC.iW:=⟨LB,LB⟩
def RD.dy(d:RD):Dy:=⟨d.neg,val d.L,d.e⟩
def RD.Ok(d:RD):Prop:=qc d.neg d.L d.e
def RD.Zero(d:RD):Prop:=d.neg=false/\d.L=[]/\d.e=0
def RI.iv(x:RI):Iv:=⟨x.lo.dy,x.hi.dy,x.all⟩
def RI.Ok(x:RI):Prop:=(x.all=true/\x.lo.Zero/\x.hi.Zero)\/(x.all=false/\x.lo.Ok/\x.hi.Ok/\jf x.lo.dy x.hi.dy<=0)
def Fp.Dy.raw(d:Dy):RD:=⟨d.neg,ij d.m,d.e⟩
def Fp.Iv.raw(x:Iv):RI:=⟨x.lo.raw,x.hi.raw,x.all⟩
def RD.Ok.valid{d:RD}(h:d.Ok):d.dy.ix:=h.2.2
def RD.Ok.eq{d:RD}(h:d.Ok)(g:d.iW):d.dy.raw=d:=by
 obtain⟨n,L,e⟩:=d;show RD.mk n (ij (val L)) e=_;rw[<-qc.Gx h g.ok]
def RD.Zero.eq{d:RD}(h:d.Zero):d.dy=iS/\d.dy.raw=d:=by
 obtain⟨n,L,e⟩:=d;obtain⟨rfl,rfl,rfl⟩:=h;refine⟨rfl,?_⟩;show RD.mk false (ij 0) 0=_;rw[oV]
def RI.Ok.valid{x:RI}(h:x.Ok):x.iv.ix:=by
 rcases h with⟨h1,h2,h3⟩|⟨h1,h2,h3,h4⟩
 .exact .inl ⟨h1,h2.eq.1,h3.eq.1⟩
 .exact .inr ⟨h1,h2.valid,h3.valid,h4⟩
def RI.Ok.eq{x:RI}(h:x.Ok)(g:x.iW):x.iv.raw=x:=by
 obtain⟨lo,hi,a⟩:=x;rcases h with⟨h1,h2,h3⟩|⟨h1,h2,h3,h4⟩
 .show RI.mk lo.dy.raw hi.dy.raw a=_;rw[h2.eq.2,h3.eq.2]
 .show RI.mk lo.dy.raw hi.dy.raw a=_;rw[h2.eq g.lo,h3.eq g.hi]
def Fp.Dy.Yi(d:Dy):d.raw.dy=d:=by show Dy.mk d.neg (val (ij d.m)) d.e=d;rw[kP]
def C0(d:Dy):jj d.raw=iz d:=rfl
def Ho(x:Iv):wP x.raw=iy x:=rfl
def Fp.Dy.ix.JW{d:Dy}(h:d.ix):d.raw.iW:=⟨mQ _,by have:=h.exp;show -9223372036854775808<=d.e;omega,by have:=h.exp;show d.e<=9223372036854775807;omega⟩
def Fp.Dy.ix.KW{d:Dy}(h:d.ix):d.raw.Ok:=h.xf
def Fp.Iv.ix.KW{x:Iv}(h:x.ix):x.raw.Ok:=by
 rcases h with⟨h1,h2,h3⟩|⟨h1,h2,h3,h4⟩
 .refine .inl ⟨h1,?_,?_⟩
  .show x.lo.raw.Zero;rw[h2];exact⟨rfl,oV,rfl⟩
  .show x.hi.raw.Zero;rw[h3];exact⟨rfl,oV,rfl⟩
 .refine .inr ⟨h1,h2.KW,h3.KW,?_⟩;show jf x.lo.raw.dy x.hi.raw.dy<=0;rw[Dy.Yi,Dy.Yi];exact h4
def Fp.Iv.ix.kq{x:Iv}(h:x.ix):x.lo.ix/\x.hi.ix:=by
 rcases h with⟨_,h2,h3⟩|⟨_,h2,h3,_⟩
 .rw [h2,h3];exact⟨tC,tC⟩
 .exact ⟨h2,h3⟩
def Fp.Iv.ix.JW{x:Iv}(h:x.ix):x.raw.iW:=⟨h.kq.1.JW,h.kq.2.JW⟩
def aoy:il.raw=jC:=by
 show RI.mk iS.raw iS.raw true=RI.mk Cy Cy true;have:iS.raw=Cy:=by show RD.mk false (ij 0) 0=_;rw[oV];rfl
 rw[this]
def D5(l:List Iv):List RI:=l.map Iv.raw
def afN(l:List Iv)(i:Nat):(D5 l).getD i jC=(l.getD i il).raw:=by
 unfold D5;rw[bE,bE,cG];cases l[i]? with
 |none=>exact aoy.symm
 |some x=>rfl
def V8(l:List Iv):iD (D5 l)=iu l:=by
 unfold iD iu;rw[show(D5 l).length=l.length by simp[D5]];congr 1;funext i j;rw[afN];rfl
def Rm(m:List (List RI)):Prop:=∀ r,r ∈ m->∀ x,x ∈ r->x.iW
def Rm.at{m:List (List RI)}(h:Rm m)(i j:Nat):((m.getD i []).getD j jC).iW:=by
 by_cases hi:i<m.length
 .rw [bE (l:=m),bJ hi];show(m[i].getD j jC).iW;by_cases hj:j<m[i].length
  .rw [bE,bJ hj];exact h _ (cK hi) _ (cK hj)
  .rw [bE,cz aC];exact Ba
 .rw [bE (l:=m),cz aC];exact Ba
def BJ(d:RD)(g:d.iW)(b:Bool)(hb:b=true↔d.Ok):ie 91 [jj d] (bP b):=by
 refine⟨call91,λw B vs hK hB hr=>?_⟩;obtain⟨v1,vs,rfl,h1,hr⟩:=hr.ni;obtain rfl:=hr.rS;obtain⟨us,rfl,q⟩:=iQ.CQ (show iQ _ _ w (.agg _) v1 from h1);obtain⟨u1,us,rfl,k1,q⟩:=q.ni;obtain⟨u2,us,rfl,k2,q⟩:=q.ni;obtain⟨u3,us,rfl,k3,q⟩:=q.ni;obtain rfl:=q.rS;obtain rfl:=iQ.kX k1;obtain rfl:=iQ.kX k3;obtain⟨A,c,rfl,hs⟩:=yQ g.ok k2;exact(C1 d.neg A c d.L d.e w b hs g.lo g.hi hb).mono λe w' h=>rv B w e w' hB h
def Ll(d:RD)(g:d.iW)(b:Bool)(hb:b=true↔d.Ok):ie 74 [jj d] (bP b):=by
 refine⟨call74,λw B vs hK hB hr=>?_⟩;obtain⟨v1,vs,rfl,h1,hr⟩:=hr.ni;obtain rfl:=hr.rS;obtain⟨us,rfl,q⟩:=iQ.CQ (show iQ _ _ w (.agg _) v1 from h1);obtain⟨u1,us,rfl,k1,q⟩:=q.ni;obtain⟨u2,us,rfl,k2,q⟩:=q.ni;obtain⟨u3,us,rfl,k3,q⟩:=q.ni;obtain rfl:=q.rS;obtain rfl:=iQ.kX k1;obtain rfl:=iQ.kX k3;obtain⟨A,c,rfl,hs⟩:=yQ g.ok k2;exact(Lm d.neg A c d.L d.e w b hs g.lo g.hi hb).mono λe w' h=>rv B w e w' hB h
def KP{a b:Nat}(h:a≠b):((a:Int) != (b:Int))=true:= aN 
def pf{a b:Nat}(h:a=b):((a:Int) != (b:Int))=false:=by simp[h]
def aiZ{a b:Nat}(h:a=b):((a:Int)==b)=true:=by simp[h]
open Classical in
noncomputable def oW(x:RI):Bool:=decide x.Ok
def uh{x:RI}:oW x=true↔x.Ok:=by unfold oW;simp
open Classical in
open Go.ChangeShapes Go.WideShapes Go.ChangeAt
abbrev mo:Nat->Prop:=λ_=>False
def adq{W:World}{a:Addr}{v:Value}(h:W.cell? a=some v):a.spot=none:=by
 obtain⟨b,o,s⟩:=a;rcases s with _|q
 .rfl
 .exfalso;unfold World.cell? at h;split at h<;>simp at h
def Lp{W:World}{a:Addr}{len cap sz:Nat}{nl:Bool}(el:Nat->Nat->E)(hl:len<=cap)(hm:cap<=maxLen)(lL:0<sz)
 (h1:∀ i j,i<len->j<sz->(el i j).one=true/\(nl=true->(el i j).ng=true)/\(el i j).nr 2=true)
 (hx:∀ i,i<len->∃ cs,W.cells? 0 (a.add (i*sz)) sz=some cs/\∀ j,j<sz->∃ v,cs[j]? = some v/\iQ mo mo W (el i j) v):
 iQ mo mo W (.sl nl len sz el) (.slice (some a) len cap):=by
 have U9:cap<=9223372036854775807:=by simpa[maxLen]using hm
 have cellAt:∀ i j,i<len->j<sz->∃ v,W.cell? (a.add (i*sz+j))=some v/\iQ mo mo W (el i j) v:=by
  intro i j hi hj;obtain⟨cs,h2,h3⟩:=hx i hi;obtain⟨v,h4,h5⟩:=h3 j hj;refine⟨v,?_,h5⟩;rw[<-Deep.add_add,(World.cells?_some h2).2.2 j hj,h4]
 by_cases h0:len=0
 .subst h0;exact .sl nl 0 sz el _ cap (λ_ _=>.bool false) aC U9 (λh=>by cases h) (λi j hi=>absurd hi aC) (λi j hi=>absurd hi aC) (λi j hi=>absurd hi aC) (λi j hi=>absurd hi aC)
 .obtain ⟨b,o,s⟩:=a;have hs:s=none:=by
   obtain⟨v,h2,_⟩:=cellAt 0 0 aC lL;rw[dc,cD,show(⟨b,o,s⟩:Addr).add 0=⟨b,o,s⟩from rfl]at h2;exact adq h2
  subst hs;have cell2:∀ i j,∃ v:Value,i<len->j<sz->W.cell? ⟨b,o+(i*sz+j),none⟩=some v/\iQ mo mo W (el i j) v:=by
   intro i j;by_cases hi:i<len
   .by_cases hj:j<sz
    .obtain ⟨v,h2,h3⟩:=cellAt i j hi hj;rw[CP]at h2;exact⟨v,λ_ _=>⟨h2,h3⟩⟩
    .exact ⟨.bool false,λ_ h=>absurd h hj⟩
   .exact ⟨.bool false,λh=>absurd h hi⟩
  let f:Nat->Nat->Value:=λi j=>Classical.choose (cell2 i j)
  have hf:∀ i j,i<len->j<sz->W.cell? ⟨b,o+(i*sz+j),none⟩=some (f i j)/\iQ mo mo W (el i j) (f i j):=λi j=>dj (cell2 i j)
  refine .sl nl len sz el _ cap f hl U9 (λh=>by cases h) (λi j hi hj=>?_) (λi j hi hj=>(h1 i j hi hj).2.2) (λi j hi hj=>?_) (λi j hi hj=>(hf i j hi hj).2)
  .exact ⟨(hf i j hi hj).2.one (h1 i j hi hj).1,λq=>(hf i j hi hj).2.ng ((h1 i j hi hj).2.1 q)⟩
  .exact ⟨b,o,rfl,id,block_lt_of_cell (hf i j hi hj).1,(hf i j hi hj).1⟩
def aa7(W:World)(d:RD)(cs:List Value):Prop:=d.iW/\cs.length=3/\∀ j,j<3->∃ v,cs[j]? = some v/\iQ mo mo W ((uS d).getD j .any) v
def Ml(W:World)(x:RI)(cs:List Value):Prop:=x.iW/\cs.length=7/\∀ j,j<7->∃ v,cs[j]? = some v/\iQ mo mo W ((A8 x).getD j .any) v
section
variable {H:Type} {enc:TypeId×Value->H} {W:World} {fuel:Nat} {cs:List Value} {x:DataW H×List MemPlace}
def K1(h:DataW.trod enc prog W 0 (λ_=>true) true fuel 31 cs=some x)(iK:∀ p ∈ x.2,p.block<W.heap.size):∃ d,aa7 W d cs:=by
 obtain⟨s,A,L,cap,e,rfl,tS,h1,h2⟩:=ajt h iK;refine⟨⟨s,L,e⟩,⟨tS.ok,h1,h2⟩,rfl,λj hj=>?_⟩;rcases j with _|_|_|j
 .exact ⟨_,rfl,.v _⟩
 .exact ⟨_,rfl,CE (w:=W) (λ_ h=>h.elim) (.refl _) tS⟩
 .exact ⟨_,rfl,.v _⟩
 .omega
def ajy(h:DataW.trod enc prog W 0 (λ_=>true) true fuel 39 cs=some x)(iK:∀ p ∈ x.2,p.block<W.heap.size):∃ d,Ml W d cs:=by
 obtain⟨xs,n,rfl,rfl,hl,jG,hf⟩:=DataW.trod_struct underlying39 h;have hC:prog.cellsOf 39=7:= aF ;have hD:prog.cellsOf 31=3:= aF ;have hB:prog.cellsOf 4=1:= aF ;rw[hC]at hl;obtain⟨c0,c1,c2,c3,c4,c5,c6,rfl⟩:=aip hl;have h0:=hf 0 _ rfl;have h1:=hf 1 _ rfl;have h2:=hf 2 _ rfl;simp only[eU,eV,dX]at h0 h1 h2;simp only[hD,hB,eW,eX,eu,eZ]at h0 h1 h2;rw[bJ (by rw[jG];decide)]at h0 h1 h2;obtain⟨lo,g1,_,k1⟩:=K1 h0 (λp hp=>iK p (dt.2 ⟨_,cK _,hp⟩));obtain⟨hi,g2,_,k2⟩:=K1 h1 (λp hp=>iK p (dt.2 ⟨_,cK _,hp⟩));obtain⟨al,e2,_⟩:=DataW.trod_bool underlying4 h2;simp at e2;subst e2;refine⟨⟨lo,hi,al⟩,⟨g1,g2⟩,rfl,λj hj=>?_⟩;rcases j with _|_|_|_|_|_|_|j
 .exact k1 0 aE 
 .exact k1 1 aE 
 .exact k1 2 aE 
 .exact k2 0 aE 
 .exact k2 1 aE 
 .exact k2 2 aE 
 .exact ⟨_,rfl,.v _⟩
 .omega
def alo(x:RI)(j:Nat)(hj:j<7):((A8 x).getD j .any).one=true/\(((A8 x).getD j .any).ng=true)/\((A8 x).getD j .any).nr 2=true:=by
 rcases j with _|_|_|_|_|_|_|j
 all_goals first|exact⟨rfl,rfl,rfl⟩|omega
def K2(h:DataW.trod enc prog W 0 (λ_=>true) true fuel 26 cs=some x)(iK:∀ p ∈ x.2,p.block<W.heap.size):
  ∃ l v,cs=[v]/\(∀ y,y ∈ l->y.iW)/\iQ mo mo W (iD l) v:=by
 have hC:prog.cellsOf 39=7:= aF ;rcases Deep.open_slice underlying26 h with⟨rfl,_⟩|⟨a,len,cap,m,n,D,Pl,rfl,hb,hl,hm,sI,rfl,hx⟩
 .exact ⟨[],_,rfl,(λy hy=>by cases hy),.sl true 0 7 _ none 0 (λ_ _=>.bool false) (bF _) aE (λ_=>rfl) (λi j hi=>absurd hi (bG i)) (λi j hi=>absurd hi (bG i)) (λi j hi=>absurd hi (bG i)) (λi j hi=>absurd hi (bG i))⟩
 .simp only[bN]at sI;subst sI;have ex:∀ i,∃ y:RI,i<len->∃ cs',W.cells? 0 (a.add (i*7)) 7=some cs'/\Ml W y cs':=by
   intro i;by_cases hi:i<len
   .obtain ⟨cs',h1,h2⟩:=hx i aC ;rw[hC]at h1;obtain⟨y,hy⟩:=ajy h2 (λp hp=>iK p (List.mem_append_right _ (dt.2 ⟨i,b6.2 aC,hp⟩)));exact⟨y,λ_=>⟨cs',h1,hy⟩⟩
   .exact ⟨jC,λh=>absurd h hi⟩
  let X:Nat->RI:=λi=>Classical.choose (ex i)
  have hX:∀ i,i<len->∃ cs',W.cells? 0 (a.add (i*7)) 7=some cs'/\Ml W (X i) cs':=λi=>dj (ex i)
  have hlen:((List.range len).map X).length=len:= aH ;refine⟨(List.range len).map X,_,rfl,?_,?_⟩
  .intro y hy;obtain⟨i,hi,rfl⟩:=dz.1 hy;obtain⟨cs',_,h2⟩:=hX i (b6.1 hi);exact h2.1
  .have Aw:∀ i,i<len->((List.range len).map X).getD i jC=X i:=by
    intro i hi;rw[bE,cG,gL hi];rfl
   have:=Lp (W:=W) (a:=a) (len:=len) (cap:=m) (nl:=true) (λi j=>(A8 (((List.range len).map X).getD i jC)).getD j .any) hl hm (show 0<7 by decide)
    (λi j _ hj=>let⟨h1,h2,h3⟩:=alo (((List.range len).map X).getD i jC) j hj;⟨h1,λ_=>h2,h3⟩)
    (λi hi=>by
     obtain⟨cs',h1,h2,_,h3⟩:=hX i hi;exact⟨cs',h1,λj hj=>by rw[Aw i hi];exact h3 j hj⟩)
   unfold iD;rw[hlen];exact this
end
def agm{P:Program}{c:OpenClaim}(h:P.funcs.any Func.goes=false)(hs:c.start = .entering):false=c.goesBy P:=by
 have h1:∀ g:Nat,(P.funcs[g]?).any Func.goes=false:=by
  intro g;cases hg:P.funcs[g]? with
  |none=>rfl
  |some fn=>
   rw[Option.any_some];rw[Array.any_eq_false]at h;obtain⟨hl,he⟩:=dr.1 hg;have:=h g hl;rw[he]at this;simpa using this
 have h2:∀ f,P.goes f=false:=by
  intro f;unfold Program.goes;rw[h,Bool.and_false,ff,dg];intro g _;rw[h1 g];decide
 unfold OpenClaim.goesBy Program.goesAt Program.goesFrom;rw[hs];cases P.funcNamed c.func with
 |none=>rfl
 |some f=>simp[h2 f]
def afB:Tryz.pinned.checked.prog.funcs.any Func.goes=false:= aF 
def VT(k:IntKind)(l:List Int):E:=.sl true l.length 1 λi _=>.v (.int k (l.getD i 0))
def aaM{k:IntKind}{z:Int}(h:(Lit.int k z).wf=true):kQ k z:=by
 cases k<;>(simp[Lit.wf,IntKind.min,IntKind.max,IntKind.signed,IntKind.bits]at h;simp only[kQ];omega)
def aju{H:Type}{enc:TypeId×Value->H}{W:World}{fuel:Nat}{cs:List Value}{x:DataW H×List MemPlace}{t e:TypeId}{k:IntKind}(hk:∀ z,qI (.int k z)=false)(ht:prog.underlying t=some (.slice e))(he:prog.underlying e=some (.int k))(hC:prog.cellsOf e=1)
  (h:DataW.trod enc prog W 0 (λ_=>true) true fuel t cs=some x):∃ l v,cs=[v]/\(∀ z,z ∈ l->kQ k z)/\iQ mo mo W (VT k l) v:=by
 rcases Deep.open_slice ht h with⟨rfl,_⟩|⟨a,len,cap,m,n,D,Pl,rfl,hb,hl,hm,sI,rfl,hx⟩
 .exact ⟨[],_,rfl,(λy hy=>by cases hy),.sl true 0 1 _ none 0 (λ_ _=>.bool false) (bF _) aE (λ_=>rfl) (λi j hi=>absurd hi (bG i)) (λi j hi=>absurd hi (bG i)) (λi j hi=>absurd hi (bG i)) (λi j hi=>absurd hi (bG i))⟩
 .simp only[bN]at sI;subst sI;have ex:∀ i,∃ z:Int,i<len->W.cells? 0 (a.add (i*1)) 1=some [.int k z]/\kQ k z:=by
   intro i;by_cases hi:i<len
   .obtain ⟨cs',h1,h2⟩:=hx i aC ;rw[hC]at h1;obtain⟨z,hz,_,hw⟩:=DataW.trod_int he h2;subst hz;exact⟨z,λ_=>⟨h1,aaM hw⟩⟩
   .exact ⟨0,λh=>absurd h hi⟩
  let X:Nat->Int:=λi=>Classical.choose (ex i)
  have hX:∀ i,i<len->W.cells? 0 (a.add (i*1)) 1=some [.int k (X i)]/\kQ k (X i):=λi=>dj (ex i)
  have hlen:((List.range len).map X).length=len:= aH ;refine⟨(List.range len).map X,_,rfl,?_,?_⟩
  .intro r hr;obtain⟨i,hi,rfl⟩:=dz.1 hr;exact(hX i (b6.1 hi)).2
  .have Aw:∀ i,i<len->((List.range len).map X).getD i 0=X i:=by
    intro i hi;rw[bE,cG,gL hi];rfl
   have:=Lp (W:=W) (a:=a) (len:=len) (cap:=m) (nl:=true) (λi _=>.v (.int k (((List.range len).map X).getD i 0))) hl hm (show 0<1 by decide)
    (λi j _ hj=>⟨rfl,λ_=>by show(!qI _)=true;rw[hk];rfl,rfl⟩)
    (λi hi=>by
     refine⟨[.int k (X i)],(hX i hi).1,λj hj=>?_⟩;obtain rfl:j=0:= aC ;exact⟨_,rfl,by rw[Aw i hi];exact .v _⟩)
   unfold VT;rw[hlen];exact this
end Go.Proofs.YtgdahmmlddfimaaGreatDoor
namespace Go.Proofs.YtgdahmmlddfimaaGreatDoor.Pu
open Go.RowKit
inductive R where
 |nil
 |jl
 |a (p:Prop) (r:R)
 |w (p:Prop) (r1:p->R) (r2:¬p->R)
def R.ok:R->Prop
 | .nil=>True
 | .jl=>False
 | .a p r=>p/\r.ok
 | .w p r1 r2=>(∀ h:p,(r1 h).ok)/\(∀ h:¬p,(r2 h).ok)
inductive Tr(P:Program)(K:World->Prop) where
 |nil
 |c {f:FuncId} {args:List E} {kt:E} (h:PC P K f args kt) (t:Tr P K)
 |cf {f:FuncId} {args:List E} {kt:E} (h:I9 P K f args kt) (t:Tr P K)
 |cn {f:FuncId} {args:List E} {nl:Bool} {T:TypeId} {n sz:Nat} {el:Nat->Nat->E} (h:vS P K f args nl T n sz el) (t:Tr P K)
 |g {op:BinOp} {ty:TypeId} {x y:E} {v:Value} (h:oJ P op ty x y v) (t:Tr P K)
 |gi {op:BinOp} {ty:TypeId} {x y:E} {v:Value} (h:oJ P op ty x y v) (t:Tr P K)
 |m {l:List (Int×FuncId×List FuncId)} {z:Int} {e:E} (h:DU l z=some e) (t:Tr P K)
 |o (d:Nat) {p q:PV} (h:PV.le p q) (t:Tr P K)
 |bo (t:Tr P K)
 |a {p:Prop} (h:p) (t:Tr P K)
 |w (p:Prop) (t1:p->Tr P K) (t2:¬p->Tr P K)
 |s {c:Code} {σ τ:PS} {e:Ex} (h:Sp P K c σ (λe' τ'=>e'=e/\τ'=τ)) (l t:Tr P K)
 |j (c:Nat) (τ:PS) (tj t:Tr P K)
 |v (d:Nat) {p q:PV} (h:PV.le p q) (t:Tr P K)
 |b (d:Nat) {p q:Bx} (h:Bx.le p q) (t:Tr P K)
 |z (id:Nat) (t:Tr P K)
 |y (s id:Nat) (nl:Bool) (T:TypeId) (sz:Nat) (el:Nat->Nat->E) (t:Tr P K)
 |yf (d off id:Nat) (nl:Bool) (T:TypeId) (sz:Nat) (el:Nat->Nat->E) (t:Tr P K)
 |e (t:Tr P K)
 |k (ts bs:List Nat) (t:Tr P K)
 |u (n:Nat) (t:Tr P K)
 |x (h:False)
 |r {p q:E} (h:E.le p q)
 |rb {p q:Bx} (h:Bx.le p q)
section
variable {P:Program} {K:World->Prop}
def FW:List (Nat×PV)->Tr P K->(Tr P K->R)->R
 | [],t,k=>k t
 | (d,q)::l,t,k=>match t with
  | .o d' (p:=p) (q:=q') _ t'=>if Nat.beq d' d then .a (PV.le p q') (FW l t' k)else .a (PV.le q q) (FW l t k)
  |t=>.a (PV.le q q) (FW l t k)
def Et:List (Nat×Bx)->Tr P K->R->R
 | [],_,r=>r
 | (d,q)::l,t,r=>match t with
  | .b d' (p:=p) (q:=q') _ t'=>if Nat.beq d' d then .a (Bx.le p q') (Et l t' r)else .a (Bx.le q q) (Et l t r)
  |t=>.a (Bx.le q q) (Et l t r)
def FR(σ:PS)(t:Tr P K)(r:R):R:=FW σ.t t λt=>Et σ.b t r
def Tr.ex:Tr P K->(Tr P K->R)->R
 | .nil,fin=>fin .nil
 | .e t,fin=>fin t
 | @Tr.c _ _ f args kt _ t,fin=>.a (PC P K f args kt) (t.ex fin)
 | @Tr.cf _ _ f args kt _ t,fin=>.a (I9 P K f args kt) (t.ex fin)
 | @Tr.cn _ _ f args nl T n sz el _ t,fin=>.a (vS P K f args nl T n sz el) (t.ex fin)
 | @Tr.g _ _ op₁ ty₁ xe₁ ye₁ ve₁ _ t,fin=>.a (oJ P op₁ ty₁ xe₁ ye₁ ve₁) (t.ex fin)
 | @Tr.gi _ _ op₁ ty₁ xe₁ ye₁ ve₁ _ t,fin=>.a (oJ P op₁ ty₁ xe₁ ye₁ ve₁) (t.ex fin)
 | @Tr.m _ _ l₁ z₁ e₁ _ t,fin=>.a (DU l₁ z₁=some e₁) (t.ex fin)
 | .o _ (p:=p) (q:=q) _ t,fin=>.a (PV.le p q) (t.ex fin)
 | .bo t,fin=>.a True (t.ex fin)
 | .a (p:=p) _ t,fin=>.a p (t.ex fin)
 | .w p t1 t2,fin=>.w p (λh=>(t1 h).ex fin) (λh=>(t2 h).ex fin)
 | @Tr.s _ _ c₁ σ τ e₁ _ l t,fin=>FR σ l (.a (Sp P K c₁ σ (λe' τ'=>e'=e₁/\τ'=τ)) (t.ex fin))
 | .j _ τ tj t,fin=>.a (tj.ex λt=>FR τ t .nil).ok (t.ex fin)
 | .v _ (p:=p) (q:=q) _ t,fin=>.a (PV.le p q) (t.ex fin)
 | .b _ _ t,fin=>t.ex fin
 | .z _ t,fin=>t.ex fin
 | .y _ _ _ _ _ _ t,fin=>t.ex fin
 | .yf _ _ _ _ _ _ _ t,fin=>t.ex fin
 | .k _ _ t,fin=>t.ex fin
 | .u _ t,fin=>t.ex fin
 | .x _,fin=>.a False .nil
 | .r (p:=p) (q:=q) _,fin=>.a (E.le p q) .nil
 | .rb (p:=p) (q:=q) _,fin=>.a (Bx.le p q) .nil
def ant{l:List (Nat×PV)}{t:Tr P K}{k:Tr P K->R}(hk:∀ t,(k t).ok):(FW l t k).ok:=by
 induction l generalizing t with
 |nil=>exact hk t
 |cons x l ih=>
  obtain⟨d,q⟩:=x;cases t with
  |o d' h t'=>
   simp only[FW];split
   .exact ⟨h,ih⟩
   .exact ⟨PV.le.refl q,ih⟩
  |_=>exact⟨PV.le.refl q,ih⟩
def abL{l:List (Nat×Bx)}{t:Tr P K}{r:R}(hr:r.ok):(Et l t r).ok:=by
 induction l generalizing t with
 |nil=>exact hr
 |cons x l ih=>
  obtain⟨d,q⟩:=x;cases t with
  |b d' h t'=>
   simp only[Et];split
   .exact ⟨h,ih⟩
   .exact ⟨Bx.le.refl q,ih⟩
  |_=>exact⟨Bx.le.refl q,ih⟩
def QX{σ:PS}{t:Tr P K}{r:R}(hr:r.ok):(FR σ t r).ok:=ant λ_=>abL hr
def Tr.Nw{fin:Tr P K->R}(hf:∀ t,(fin t).ok)(t:Tr P K):(t.ex fin).ok:=by
 induction t generalizing fin with
 |nil=>exact hf _
 |e t=>exact hf _
 |c h t ih=>exact⟨h,ih hf⟩
 |cf h t ih=>exact⟨h,ih hf⟩
 |cn h t ih=>exact⟨h,ih hf⟩
 |g h t ih=>exact⟨h,ih hf⟩
 |gi h t ih=>exact⟨h,ih hf⟩
 |m h t ih=>exact⟨h,ih hf⟩
 |o d h t ih=>exact⟨h,ih hf⟩
 |bo t ih=>exact⟨trivial,ih hf⟩
 |a h t ih=>exact⟨h,ih hf⟩
 |w p t1 t2 Hj Hk=>exact⟨λh=>Hj h hf,λh=>Hk h hf⟩
 |s h l t ihl O3=>exact QX ⟨h,O3 hf⟩
 |j c τ tj t ihj O3=>exact⟨ihj λ_=>QX trivial,O3 hf⟩
 |v d h t ih=>exact⟨h,ih hf⟩
 |b d h t ih=>exact ih hf
 |z id t ih=>exact ih hf
 |y s id nl T sz el t ih=>exact ih hf
 |yf d off id nl T sz el t ih=>exact ih hf
 |k ts bs t ih=>exact ih hf
 |u n t ih=>exact ih hf
 |x h=>exact h.elim
 |r h=>exact⟨h,trivial⟩
 |rb h=>exact⟨h,trivial⟩
def Q1(υ:PS):List (Nat×PV)->R->R
 | [],r=>r
 | (d,q)::l,r=>.a (PV.le (υ.get d) q) (Q1 υ l r)
def Jo(υ:PS):List (Nat×Bx)->R->R
 | [],r=>r
 | (d,q)::l,r=>match υ.bo d with
  |some b=>.a (Bx.le b q) (Jo υ l r)
  |none=>.jl
def LO(υ σ:PS)(r:R):R:=if Nat.beq υ.n σ.n&&(σ.b.all (λx=>x.2.nl)||(σ.nl==υ.nl))&&IC σ then Q1 υ σ.t (Jo υ σ.b r)else .jl
def Tr.tail:Tr P K->Tr P K
 | .c _ t=>t
 | .cf _ t=>t
 | .cn _ t=>t
 | .g _ t=>t
 | .gi _ t=>t
 | .m _ t=>t
 | .bo t=>t
 | .a _ t=>t
 |_=>.nil
def PQ:List Prop->Tr P K->(Tr P K->R)->R
 | [],t,k=>k t
 |p::l,t,k=>.a p (PQ l t.tail k)
def SH(d:Option Tmp)(t:Tr P K):q8:=match d with
 |some d=>match t with
  | @Tr.c _ _ _ _ kt _ _=>{ cl:=[(d,kt)] }
  | @Tr.cf _ _ _ _ kt _ _=>{ cl:=[(d,kt)] }
  | @Tr.g _ _ _ _ _ _ ve₁ _ _=>{ cl:=[(d,.v ve₁)] }
  | @Tr.gi _ _ _ _ _ _ ve₁ _ _=>{ gi:=[(d,ve₁)] }
  | @Tr.m _ _ _ _ e₁ _ _=>{ cl:=[(d,e₁)] }
  | @Tr.cn _ _ _ _ nl T n sz el _ _=>{ nw:=[(d,.row nl T n sz el)] }
  | .bo _=>{ nw:=[(d,.cells 0 [])] }
  |_=>{}
 |none=>{}
def Is:Tr P K->(Tr P K->R)->R
 | .w p t1 t2,k=>.w p (λh=>Is (t1 h) k) (λh=>Is (t2 h) k)
 | .x _,_=>.a False .nil
 |t,k=>k t
def P6(o:Oper)(u:kO)(t:Tr P K)(k:kO->Tr P K->R):R:=match o.dst,t with
 |some d,.o d' (q:=q) _ t'=>if Nat.beq d' d then .a (PV.le u.r q) (k { u with r:=q,jV:=PV.le u.r q::u.jV } t')else k u t
 |_,t=>k u t
def PY(T:List TI)(ig:Array Oper)(σ:PS)(o:Oper)(t:Tr P K)(k:kO->Tr P K->R):R:=
 if xy σ o.dst then match Bl ig σ o with
  |some false=>k { r:=.e (.v (.tuple #[])),rd:=(looks ig o).map σ.get } t
  |some true=>Is t λt=>match jW P K T (SH o.dst t) σ o with
   |some u=>PQ u.jV t λt=>Is t λt=>P6 o u t λu t=>k { u with rd:=(looks ig o).map σ.get,hb:=σ.pJ u.f,ob:=σ.yK u.f } t
   |none=>.jl
  |none=>.jl
 else .jl
def P0(T:List TI)(ig:Array Oper)(k:List (Oper×kO)->PS->Tr P K->R):List Oper->List (Oper×kO)->PS->Tr P K->R
 | [],us,σ,t=>k us σ t
 |o::l,us,σ,t=>PY T ig σ o t λu t'=>P0 T ig k l ((o,u)::us) (σ.app o.dst u) t'
def ss(c:Bool):Tr P K->PS->(Tr P K->PS->R)->R
 | .w p t1 t2,σ,k=>.w p (λh=>ss c (t1 h) σ k) (λh=>ss c (t2 h) σ k)
 | .x _,_,_=>.a False .nil
 | .v d (q:=q) _ t,σ,k=>match q with
  | .e x=>if xy σ (some d)then .a (PV.le (σ.get d) (.e x)) (ss c t (σ.put (some d) (.e x)) k)else .jl
  |_=>.jl
 | .k ts bs t,σ,k=>if c then k (.k ts bs t) σ else if IC (σ.cut ts bs)then ss c t (σ.cut ts bs) k else .jl
 | .z id t,σ,k=>if c then k (.z id t) σ else match σ.bo id with
  |some b=>match b.as with
   |some e=>ss c t (σ.wk id e) k
   |none=>.jl
  |none=>.jl
 | .y s id nl T sz el t,σ,k=>if c then k (.y s id nl T sz el t) σ else match σ.bo id,σ.get s with
  |none,.e (.v (.slice none 0 0))=>if !σ.nl||nl then ss c t (σ.Eo s id (.row nl T 0 sz el)) k else .jl
  |_,_=>.jl
 | .yf d off id nl T sz el t,σ,k=>if c then k (.yf d off id nl T sz el t) σ else match σ.Mz d off id (.row nl T 0 sz el)with
  |some τ=>if !σ.nl||nl then ss c t τ k else .jl
  |none=>.jl
 |t,σ,k=>k t σ
def LL(c:Code)(σ:PS)(t:Tr P K)(k:Ex->PS->Tr P K->R):R:=match t with
 | @Tr.s _ _ _ σ' τ e _ _ t=>LO σ σ' (.a (Sp P K c σ' (λe' τ'=>e'=e/\τ'=τ)) (k e τ t))
 |_=>.jl
def Ex.rk:Ex->Ex->Bool
 | .normal,.normal=>true
 | .ret,.ret=>true
 | .exit a,.exit b=>Nat.beq a b
 |_,_=>false
def Gw(e:Ex)(τ:PS)(e':Ex)(υ:PS)(_:Tr P K):R:=if Ex.rk e' e then LO υ τ .nil else .jl
def adM:Operand->Nat
 | .tmp t=>2*t
 |_=>1
def jn(c:Nat)(g:PS->Tr P K->(Ex->PS->Tr P K->R)->R)(σ:PS)(t:Tr P K)(k:Ex->PS->Tr P K->R):R:=match t with
 | .j c' τ tj t'=>if Nat.beq c' c then .a (g σ tj (Gw .normal τ)).ok (k .normal τ t')else g σ t k
 |t=>g σ t k
def Tr.isS:Tr P K->Bool
 | .s ..=>true
 |_=>false
def aaC(g f:PS->Tr P K->(Ex->PS->Tr P K->R)->R):Nat->PS->Tr P K->(Ex->PS->Tr P K->R)->R
 | 0,_,_,_=>.jl
 |n+1,σ,t,k=>ss false t σ λt σ=>if t.isS then g σ t k else f σ t λe τ t=>match e with
  | .normal=>aaC g f n τ t k
  |e=>k e τ t
def xh(T:List TI):Code->PS->Tr P K->(Ex->PS->Tr P K->R)->R
 | .skip,σ,t,k=>k .normal σ t
 | .region _ ig d,σ,t,k=>P0 T ig (λus τ t=>if !d||FC ig 0 us.reverse then k .normal τ t else .jl) ig.toList [] σ t
 | .seq a b,σ,t,k=>xh T a σ t λe τ t=>match e with
  | .normal=>xh T b τ t k
  |e=>k e τ t
 | .cond c a b,σ,t,k=>ss true t σ λt σ=>jn (adM c) (λσ t k=>ss true t σ λt σ=>match σ.op c with
  | .e (.v (.bool true))=>xh T a σ t k
  | .e (.v (.bool false))=>xh T b σ t k
  |_=>.jl) σ t k
 | .block id b,σ,t,k=>ss true t σ λt σ=>jn (2*id+1) (λσ t k=>xh T b σ t λe τ t=>match e with
  | .exit i=>if Nat.beq i id then k .normal τ t else k (.exit i) τ t
  |e=>k e τ t) σ t k
 | .exit id,σ,t,k=>ss false t σ λt σ=>k (.exit id) σ t
 | .ret,σ,t,k=>ss false t σ λt σ=>k .ret σ t
 | .loop b,σ,t,k=>ss false t σ λt σ=>match t with
  | .u n t=>aaC (LL (.loop b)) (xh T b) n σ t k
  |t=>LL (.loop b) σ t k
 | .label _,σ,t,k=>k .normal σ t
 | .scope b,σ,t,k=>xh T b σ t k
 |_,_,_,_=>.jl
def X0{t:Tr P K}{k:Tr P K->R}(h:(Is t k).ok):∃ t',(k t').ok:=by
 induction t with
 |w p t1 t2 Hj Hk=>
  by_cases hp:p
  .exact Hj hp (h.1 hp)
  .exact Hk hp (h.2 hp)
 |x hf=>exact hf.elim
 |_=>exact⟨_,h⟩
def ajk{l:List Prop}{t:Tr P K}{k:Tr P K->R}(h:(PQ l t k).ok):(∀ q,q ∈ l->q)/\∃ t',(k t').ok:=by
 induction l generalizing t with
 |nil=>exact⟨λq hq=>by simp at hq,t,h⟩
 |cons p l ih=>
  obtain⟨h1,h2⟩:=ih h.2;refine⟨λq hq=>?_,h2⟩;rcases dw.1 hq with hq|hq
  .subst hq;exact h.1
  .exact h1 q hq
variable {T:List TI} {ig:Array Oper} {σ:PS} {o:Oper}
def ajM{O:q8}{u:kO}{t:Tr P K}{k:kO->Tr P K->R}(hO:O.ov=[])(hu:jW P K T O σ o=some u)(ho:∀ q,q ∈ u.jV->q)(h:(P6 o u t k).ok):
 ∃ O' u' t',wa P K T O' σ o=some u'/\(∀ q,q ∈ u'.jV->q)/\(k u' t').ok:=by
 have plain:(k u t).ok->∃ O' u' t',wa P K T O' σ o=some u'/\(∀ q,q ∈ u'.jV->q)/\(k u' t').ok:=by
  intro h;refine⟨O,u,t,?_,ho,h⟩;unfold wa;rw[hu,hO];cases o.dst<;>rfl
 unfold P6 at h;split at h
 .rename_i d d' p q hpq t' hd;split at h
  .obtain ⟨h1,h2⟩:=h;refine⟨⟨O.cl,[(d,q)],O.nw,O.gi⟩,_,t',?_,λx hx=>?_,h2⟩
   .unfold wa;have he:jW P K T ⟨O.cl,[(d,q)],O.nw,O.gi⟩ σ o=jW P K T O σ o:=by cases O;rfl
    rw[he,hu,hd];simp[look]
   .rcases dw.1 hx with hx|hx
    .subst hx;exact h1
    .exact ho x hx
  .exact plain h
 .exact plain h
def ajr{t:Tr P K}{k:kO->Tr P K->R}(h:(PY T ig σ o t k).ok):∃ u t',(∃ O,sf P K T O ig σ o=some u)/\(∀ q,q ∈ u.jV->q)/\(k u t').ok:=by
 unfold PY at h;split at h
 .rename_i hi;split at h
  .rename_i hw;refine⟨_,t,⟨{},?_⟩,λq hq=>by simp at hq,h⟩;unfold sf;rw[bB hi,hw]
  .rename_i hw;obtain⟨t1,h1⟩:=X0 h;split at h1
   .rename_i u hu;obtain⟨ho,t2,h2⟩:=ajk h1;obtain⟨t2,h2⟩:=X0 h2;obtain⟨O',u',t3,yA,ho',h3⟩:=ajM (by
     unfold SH;cases o.dst with
     |none=>rfl
     |some d=>cases t1<;>rfl) hu ho h2
    refine⟨{ u' with rd:=(looks ig o).map σ.get,hb:=σ.pJ u'.f,ob:=σ.yK u'.f },t3,⟨O',?_⟩,ho',h3⟩;unfold sf;rw[bB hi,hw,yA]
   .exact h1.elim
  .exact h.elim
 .exact h.elim
def ajJ{k:List (Oper×kO)->PS->Tr P K->R}{l:List Oper}{us:List (Oper×kO)}{t:Tr P K}(h:(P0 T ig k l us σ t).ok):
 ∃ vs τ t',xQ P K T ig vs σ τ/\vs.map (·.1)=l/\(∀ x,x ∈ vs->∀ q,q ∈ x.2.jV->q)/\(k (vs.reverse++us) τ t').ok:=by
 induction l generalizing us σ t with
 |nil=>exact⟨[],σ,t,tf.refl σ,rfl,λx hx=>by simp at hx,h⟩
 |cons o l ih=>
  obtain⟨u,t1,h1,h2,h3⟩:=ajr h;obtain⟨vs,τ,t',k1,k2,k3,k4⟩:=ih h3;refine⟨(o,u)::vs,τ,t',⟨h1,k1⟩,by simp[k2],λx hx=>?_,by simpa using k4⟩;rcases dw.1 hx with hx|hx
  .subst hx;exact h2
  .exact k3 x hx
def PS.le.set{σ:PS}{d:Nat}{x:E}(hd:xy σ (some d)=true)(h:PV.le (σ.get d) (.e x)):PS.le σ (σ.put (some d) (.e x)):=λw0 B a w L _ r=>by
 have Dh:d<σ.n:=by simpa[xy,fJ]using hd
 refine⟨L,r.hd,by rw[PS.PF];exact r.hs,λt=>?_,λid b hb=>r.hb id b hb,r.hv,r.hn,r.hw,r.hi,r.he,r.hl⟩;rw[PS.NL];by_cases e:d=t
 .subst e;rw[bB rfl];exact h _ _ _ _ _ (r.ht d)
 .rw [bA e];exact r.ht t
def D1{c:Bool}{t:Tr P K}{σ:PS}{k:Tr P K->PS->R}(h:(ss c t σ k).ok):∃ t' τ,PS.le σ τ/\(k t' τ).ok:=by
 induction t generalizing σ with
 |w p t1 t2 Hj Hk=>
  by_cases hp:p
  .exact Hj hp (h.1 hp)
  .exact Hk hp (h.2 hp)
 |k ts bs t ih=>
  simp only[ss]at h;split at h
  .exact ⟨_,σ,PS.le.refl σ,h⟩
  split at h
  .rename_i hr;obtain⟨t',τ,h1,h2⟩:=ih h;exact⟨t',τ,(PS.le.cut ts bs hr).trans h1,h2⟩
  .exact h.elim
 |v d h0 t ih=>
  simp only[ss]at h;split at h
  .rename_i x;split at h
   .rename_i hd;obtain⟨t',τ,h1,h2⟩:=ih h.2;exact⟨t',τ,(PS.le.set hd h.1).trans h1,h2⟩
   .exact h.elim
  .exact h.elim
 |z id t ih=>
  simp only[ss]at h;split at h
  .exact ⟨_,σ,PS.le.refl σ,h⟩
  split at h
  .rename_i b hb;split at h
   .rename_i e he;obtain⟨t',τ,h1,h2⟩:=ih h;exact⟨t',τ,(PS.le.freeze id hb he).trans h1,h2⟩
   .exact h.elim
  .exact h.elim
 |y s id nl T sz el t ih=>
  simp only[ss]at h;split at h
  .exact ⟨_,σ,PS.le.refl σ,h⟩
  split at h
  .rename_i hb hg;split at h
   .rename_i hn;obtain⟨t',τ,h1,h2⟩:=ih h;exact⟨t',τ,(PS.le.abl s id hb hg (λe=>by rw[e]at hn;simpa using hn)).trans h1,h2⟩
   .exact h.elim
  .exact h.elim
 |yf d off id nl T sz el t ih=>
  simp only[ss]at h;split at h
  .exact ⟨_,σ,PS.le.refl σ,h⟩
  split at h
  .rename_i τ0 hb;split at h
   .rename_i hn;obtain⟨t',τ,h1,h2⟩:=ih h;exact⟨t',τ,(PS.le.abm hb (λe=>by rw[e]at hn;simpa using hn)).trans h1,h2⟩
   .exact h.elim
  .exact h.elim
 |x hf=>exact hf.elim
 |_=>exact⟨_,σ,PS.le.refl σ,h⟩
def anu{υ:PS}{l:List (Nat×PV)}{r:R}(h:(Q1 υ l r).ok):yU υ l/\r.ok:=by
 induction l with
 |nil=>exact⟨trivial,h⟩
 |cons x l ih=>obtain⟨d,q⟩:=x;exact⟨⟨h.1,(ih h.2).1⟩,(ih h.2).2⟩
def acb{υ:PS}{l:List (Nat×Bx)}{r:R}(h:(Jo υ l r).ok):xO υ l/\r.ok:=by
 induction l with
 |nil=>exact⟨trivial,h⟩
 |cons x l ih=>
  obtain⟨d,q⟩:=x;simp only[Jo]at h;split at h
  .rename_i b hb;exact⟨⟨⟨b,hb,h.1⟩,(ih h.2).1⟩,(ih h.2).2⟩
  .exact h.elim
def Z4{υ σ:PS}{r:R}(h:(LO υ σ r).ok):PS.le υ σ/\r.ok:=by
 unfold LO at h;split at h
 .rename_i hc;simp only[bQ,eo,beq_iff_eq]at hc;obtain⟨⟨h1,h2⟩,h3⟩:=hc;obtain⟨h4,h5⟩:=anu h;obtain⟨h6,h7⟩:=acb h5;refine⟨?_,h7⟩;rcases h2 with h2|h2
  .exact PS.le.ahX (lv.1 h1) h2 h3 h4 h6
  .exact PS.le.pO (lv.1 h1) h2 h3 h4 h6
 .exact h.elim
def alQ(hT:mV P T){w0:World}{B:Nat->Prop}{a:Act}{w:World}{L:Lk}(g:Gd P K w0 B){us:List (Oper×kO)}{τ:PS}{Q:Exit->Act->World->Prop}(h:xQ P K T ig us σ τ)(ho:∀ x,x ∈ us->∀ q,q ∈ x.2.jV->q)
 (r:jx w0 B σ a w L) (hq:∀ a' w' L',jx w0 B τ a' w' L'->Q .normal a' w'):wpList P ig Q (us.map (·.1)) a w:=by
 induction us generalizing σ a w L with
 |nil=>exact hq a w L (r.rk h)
 |cons x us ih=>
  obtain⟨⟨O,h1⟩,h2⟩:=h;rw[e9];unfold wpList;rcases TD hT g r h1 (ho x aH) (wpList P ig Q (us.map (·.1))) Q (λa' w' L' hr=>ih h2 (λy hy=>ho y (by simp[hy])) hr)with⟨p1,p2⟩|⟨p1,p2⟩
  .rw [bB p1];exact .inl p2
  .rw [bA (by rw[p1];simp)];exact p2
def alf(hT:mV P T)(hm:P.follows .mixedOrders=true){w0:World}{B:Nat->Prop}{a:Act}{w:World}{L:Lk}(g:Gd P K w0 B){id:Nat}{draw:Bool}{us:List (Oper×kO)}{τ:PS}{Q:Exit->Act->World->Prop}
 (h:xQ P K T ig us σ τ) (hl:us.map (·.1)=ig.toList) (ho:∀ x,x ∈ us->∀ q,q ∈ x.2.jV->q) (hp:(!draw||FC ig 0 us)=true) (r:jx w0 B σ a w L)
 (hq:∀ a' w' L',jx w0 B τ a' w' L'->Q .normal a' w'):(Code.region id ig draw).wp P Q a w:=by
 cases draw with
 |false=>exact wp_region_list (by rw[<-hl];exact alQ hT g h ho r hq)
 |true=>
  obtain⟨R,r1,r2,r3⟩:=ah5 hl (by simpa using hp);refine wp_region_any hm (abq hT g hq ig.size (Array.replicate ig.size false) R σ a w.drew L r2 aH r3 (λx hx=>ho x.2 ?_) (by rw[r1];exact h) r.drew);rw[<-r1];exact dz.2 ⟨x,hx,rfl⟩
def ZX{c:Code}{t:Tr P K}{k:Ex->PS->Tr P K->R}(h:(LL c σ t k).ok):Sp P K c σ (λe τ=>∃ t',(k e τ t').ok):=by
 unfold LL at h;split at h
 .obtain ⟨h1,h2,h3⟩:=Z4 h;exact Sp.pre h1 (h2.mono λe τ ⟨q1,q2⟩=>by subst q1 q2;exact⟨_,h3⟩)
 .exact h.elim
def Ex.alT{a b:Ex}(h:Ex.rk a b=true):a=b:=by
 cases a<;>cases b<;>first|rfl|(cases h;done)|exact congrArg Ex.exit (lv.1 h)
def Ts{e e':Ex}{τ υ:PS}{t:Tr P K}(h:(Gw e τ e' υ t).ok):e'=e/\PS.le υ τ:=by
 unfold Gw at h;split at h
 .rename_i he;exact⟨Ex.alT he,(Z4 h).1⟩
 .exact h.elim
def Wm{c:Code}{cb:Nat}{g:PS->Tr P K->(Ex->PS->Tr P K->R)->R}(hg:∀ σ t k,(g σ t k).ok->Sp P K c σ (λe τ=>∃ t',(k e τ t').ok)){σ:PS}{t:Tr P K}{k:Ex->PS->Tr P K->R}(h:(jn cb g σ t k).ok):
 Sp P K c σ (λe τ=>∃ t',(k e τ t').ok):=by
 unfold jn at h;split at h
 .rename_i c' τ tj t;split at h
  .refine (hg _ _ _ h.1).post λe υ ⟨t',ht⟩=>?_
   obtain⟨he,hl⟩:=Ts ht;exact⟨τ,hl,t,by rw[he];exact h.2⟩
  .exact hg _ _ _ h
 .exact hg _ _ _ h
def uq(P:Program)(K:World->Prop)(b:Code)(σ:PS)(Q:Ex->PS->Prop):Prop:=
 ∀ (w0:World) (B:Nat->Prop) (a:Act) (w:World) (L:Lk),Gd P K w0 B->jx w0 B σ a w L->∀ bf k cs,
  ∃ e a' w',(∃ ex τ L',e=Ex.to ex/\Q ex τ/\jx w0 B τ a' w' L')/\Arrives P (lone (bf.at a (.code b :: .inLoop b::k)) cs w) bf k cs e a' w'
def uq.loop{b:Code}{σ:PS}{Q:Ex->PS->Prop}(h:uq P K b σ Q):Sp P K (.loop b) σ Q:=by
 intro w0 B a w L g r bf k cs;obtain⟨e,a',w',hq,uE⟩:=h w0 B a w L g r bf k cs;exact⟨e,a',w',hq,.of_steps (.one step_loop) uE⟩
def uq.pre{b:Code}{σ τ:PS}{Q:Ex->PS->Prop}(h:PS.le σ τ)(k:uq P K b τ Q):uq P K b σ Q:=λw0 B a w L g r=>
 let⟨L',r'⟩:=h w0 B a w L (λb hb=>(g.hB b hb).1) r;k w0 B a w L' g r'
def uq.step{b:Code}{σ:PS}{Q:Ex->PS->Prop}(h:Sp P K b σ (λe τ=>(e = .normal/\uq P K b τ Q)\/(e ≠ .normal/\Q e τ))):uq P K b σ Q:=by
 intro w0 B a w L g r bf k cs;obtain⟨e,a₁,w₁,⟨ex,υ,L2,rfl,hq,oE⟩,uE⟩:=h w0 B a w L g r bf (.inLoop b::k) cs;rcases hq with⟨rfl,hs⟩|⟨kB,hq⟩
 .obtain ⟨e₂,a₂,w₂,OL,Oe⟩:=hs w0 B a₁ w₁ L2 g oE bf k cs;exact⟨e₂,a₂,w₂,OL,.of_steps (Steps.trans uE (.one step_inLoop)) Oe⟩
 .cases ex with
  |normal=>exact absurd rfl kB
  |exit i=>exact⟨_,a₁,w₁,⟨.exit i,υ,L2,rfl,hq,oE⟩,.pass (x:=.inLoop b) rfl (λ_ _=>.inl (by simp[Ex.to])) uE⟩
  |ret=>exact⟨_,a₁,w₁,⟨.ret,υ,L2,rfl,hq,oE⟩,.pass (x:=.inLoop b) rfl (λ_ _=>.inl (by simp[Ex.to])) uE⟩
def Nx{id : Nat} : ∀ {k k' : List Item},exitTo id k=some k'->k'.length<=k.length
  | [],_,h => by simp[exitTo]at h
  |x::k,k',h => by
    cases x
    all_goals
      simp only[exitTo]at h
      first
        | (have := Nx h;simp only[dp];omega)
        | (split at h
           . cases h;simp
           . have := Nx h;simp only[dp];omega)
def Steps.MJ{m m1 m':Machine}(hs:step P m = .next m1)(kB:m≠m')(h:Steps P m m'):Steps P m1 m':=by
 obtain⟨n,hn⟩:=h;cases n with
 |zero=>simp only[runN,Stepped.next.injEq]at hn;exact absurd hn kB
 |succ n=>exact⟨n,by simpa only[runN,hs]using hn⟩
def uq.ajl{b:Code}{σ:PS}{Q:Ex->PS->Prop}(h:Sp P K (.loop b) σ Q):uq P K b σ Q:=by
 intro w0 B a w L g r bf k cs;obtain⟨e,a',w',⟨ex,τ,L',rfl,hq,hr⟩,uE⟩:=h w0 B a w L g r bf k cs;have todo:∀ (f g:Frame) (w w':World),lone f cs w=lone g cs w'->f.todo=g.todo:=λf g w w' e=>by
  have e1:=congrArg Machine.gs e;simp only[lone,Array.mk.injEq,List.cons.injEq,fN]at e1;injection e1 with e2;rw[e2]
 have ne:∀ (a₁:Act) (k₁:List Item) (w₁:World),k₁.length<=k.length->lone (bf.at a (.code (.loop b)::k)) cs w≠lone (bf.at a₁ k₁) cs w₁:=λa₁ k₁ w₁ hk e=>by
  have:=congrArg List.length (todo _ _ _ _ e);simp[Frame.at]at this;omega
 refine⟨_,a',w',⟨ex,τ,L',rfl,hq,hr⟩,?_⟩;cases ex with
 |normal=>exact Steps.MJ step_loop (ne _ _ _ (bF _)) uE
 |exit i=>exact λk' hk=>Steps.MJ step_loop (ne _ _ _ (Nx hk)) (uE k' hk)
 |ret=>
  obtain⟨td,hs⟩:=uE;refine⟨td,Steps.MJ step_loop (λe=>?_) hs⟩;have e1:=congrArg Machine.gs e;simp only[lone,Array.mk.injEq,List.cons.injEq,fN]at e1;injection e1 with e2;have e3:=congrArg Frame.mode e2;simp[Frame.at]at e3
def Nq(hT:mV P T)(hm:P.follows .mixedOrders=true){c:Code}{σ:PS}{t:Tr P K}{k:Ex->PS->Tr P K->R}(h:(xh T c σ t k).ok):Sp P K c σ (λe τ=>∃ t',(k e τ t').ok):=by
 induction c generalizing σ t k with
 |skip=>exact λw0 B a w L g r=>wp_skip ⟨.normal,_,L,rfl,⟨t,h⟩,r⟩
 |region id ig d=>
  obtain⟨vs,τ,t',h1,h2,h3,h4⟩:=ajJ h;split at h4
  .rename_i hp;simp only[gw,List.reverse_reverse]at hp;exact λw0 B a w L g r=>alf hT hm g h1 h2 h3 hp r λa' w' L' hr=>⟨.normal,τ,L',rfl,⟨t',h4⟩,hr⟩
  .exact h4.elim
 |seq x y O4 O5=>
  intro w0 B a w L g r;refine wp_seq (Code.wp_mono ?_ (O4 h w0 B a w L g r));rintro ex a' w' ⟨e1,τ1,L',rfl,⟨t',ht⟩,hr⟩;cases e1 with
  |normal=>exact O5 ht w0 B a' w' L' g hr
  |exit i=>exact⟨.exit i,τ1,L',rfl,⟨t',ht⟩,hr⟩
  |ret=>exact⟨.ret,τ1,L',rfl,⟨t',ht⟩,hr⟩
 |cond c x y O4 O5=>
  obtain⟨t1,τ,hle,h1⟩:=D1 h;refine Sp.pre hle (Wm (λσ t k h=>?_) h1);obtain⟨t1,τ,hle,h1⟩:=D1 h;refine Sp.pre hle ?_;split at h1
  .rename_i hc;intro w0 B a w L g r;have hv:=r.op c;rw[hc]at hv;exact wp_cond_true (iQ.kX hv) (O4 h1 w0 B a w L g r)
  .rename_i hc;intro w0 B a w L g r;have hv:=r.op c;rw[hc]at hv;exact wp_cond_false (iQ.kX hv) (O5 h1 w0 B a w L g r)
  .exact h1.elim
 |block id b ih=>
  obtain⟨t1,τ,hle,h1⟩:=D1 h;refine Sp.pre hle (Wm (λσ t k h=>?_) h1);intro w0 B a w L g r;refine wp_block (Code.wp_mono ?_ (ih h w0 B a w L g r));rintro ex a' w' ⟨e1,τ1,L',rfl,⟨t',ht⟩,hr⟩;cases e1 with
  |normal=>exact⟨.normal,_,L',rfl,⟨t',ht⟩,hr⟩
  |ret=>exact⟨.ret,_,L',rfl,⟨t',ht⟩,hr⟩
  |exit i=>
   simp only at ht;show Exit.inBlock id _ (.exit i) a' w';split at ht
   .rename_i hi;have hi:=lv.1 hi;subst hi;simp only[Exit.inBlock,bN];exact⟨.normal,_,L',rfl,⟨t',ht⟩,hr⟩
   .rename_i hi;have hi:i≠id:=λe=>hi (lv.2 e)
    simp only[Exit.inBlock,hi,bI];exact⟨.exit i,_,L',rfl,⟨t',ht⟩,hr⟩
 |label l=>exact λw0 B a w L g r=>wp_label ⟨.normal,_,L,rfl,⟨t,h⟩,r⟩
 |scope b ih=>
  intro w0 B a w L g r;refine wp_scope_straight (Code.wp_mono ?_ (ih h w0 B a w L g r));rintro ex a' w' ⟨e1,τ1,L',rfl,⟨t',ht⟩,hr⟩;cases e1 with
  |normal=>exact⟨.normal,τ1,L',rfl,⟨t',ht⟩,hr⟩
  |ret=>exact⟨.ret,τ1,L',rfl,⟨t',ht⟩,hr⟩
  |exit i=>exact⟨.exit i,τ1,L',rfl,⟨t',ht⟩,hr⟩
 |exit id=>
  obtain⟨t1,τ,hle,h1⟩:=D1 h;exact Sp.pre hle λw0 B a w L g r=>wp_exit ⟨.exit id,_,L,rfl,⟨t1,h1⟩,r⟩
 |ret=>
  obtain⟨t1,τ,hle,h1⟩:=D1 h;exact Sp.pre hle λw0 B a w L g r=>wp_ret ⟨.ret,_,L,rfl,⟨t1,h1⟩,r⟩
 |loop b ih=>
  obtain⟨t1,τ,hle,h1⟩:=D1 h;refine Sp.pre hle ?_;split at h1
  .rename_i n t;clear hle h;refine uq.loop ?_
   induction n generalizing τ t with
   |zero=>exact h1.elim
   |succ n ihn=>
    obtain⟨t2,τ2,hle,h1⟩:=D1 h1;split at h1
    .exact uq.pre hle (uq.ajl (ZX h1))
    refine uq.pre hle (uq.step ((ih h1).mono λe υ ⟨t',ht⟩=>?_));cases e with
    |normal=>exact .inl ⟨rfl,ihn _ _ ht⟩
    |exit i=>exact .inr ⟨aH,t',ht⟩
    |ret=>exact .inr ⟨aH,t',ht⟩
  .exact ZX h1
 |_=>exact h.elim
def Sp.tr(hT:mV P T)(hm:P.follows .mixedOrders=true){c:Code}{σ τ:PS}{e:Ex}(t:Tr P K)(h:xh T c σ t (Gw e τ)=t.ex λt=>FR τ t .nil):
 Sp P K c σ (λe' τ'=>e'=e/\τ'=τ):=by
 have hk:=Tr.Nw (fin:=λt=>FR τ t .nil) (λt=>QX trivial) t;rw[<-h]at hk;refine(Nq hT hm hk).post λe' υ ⟨t',ht⟩=>?_
 obtain⟨he,hl⟩:=Ts ht;exact⟨τ,hl,he,rfl⟩
def TZ(T:List TI)(fn:Func)(kt:E)(e:Ex)(τ:PS)(_:Tr P K):R:=match e with
 | .exit _=>.jl
 |_=>match Ls T fn τ with
  |some r=>.a (E.le r kt) .nil
  |none=>.jl
def Qn(T:List TI)(fn:Func)(nl:Bool)(args:List E)(kt:E)(t:Tr P K):R:=match fn.body with
 |some c=>if Nat.ble args.length fn.ntmps then xh T c (B7 fn nl args) t (TZ T fn kt)else .jl
 |none=>.jl
def PC.Q7(hT:mV P T)(hm:P.follows .mixedOrders=true)(hp:∀ w w',K w->Below w.heap.size w w'->K w'){f:FuncId}{fn:Func}{args:List E}{kt:E}(yg:∀ (vs:Array Value) (w:World),(callFunc f vs).run P w = .ok (.enter f vs) w)
 (hf:P.funcs[f]? = some fn) (nl:Bool) (t:Tr P K) (h:Qn T fn nl args kt t=t.ex λ_=>.a (E.le kt kt) .nil):PC P K f args kt:=by
 have hk:=Tr.Nw (fin:=λ_=>.a (E.le kt kt) .nil) (λt=>⟨E.le.refl kt,trivial⟩) t;rw[<-h]at hk;unfold Qn at hk;split at hk
 .rename_i c hb;split at hk
  .rename_i hn;refine PC.Pz hT hm hp yg hf hb (cV hn) nl ((Nq hT hm hk).mono λe τ ⟨t',ht⟩=>?_);unfold TZ at ht;split at ht
   .exact ht.elim
   .rename_i kB;split at ht
    .rename_i r hr;refine⟨?_,r,hr,ht.1⟩;cases e with
     |normal=>exact .inr rfl
     |ret=>exact .inl rfl
     |exit i=>exact absurd rfl (kB i)
    .exact ht.elim
  .exact hk.elim
 .exact hk.elim
def TY(fn:Func)(b:Bx)(e:Ex)(τ:PS)(_:Tr P K):R:=match e with
 | .exit _=>.jl
 |_=>match fn.results.toList with
  | [.tmp t]=>match τ.get t with
   | .own id=>match τ.bo id with
    |some c=>.a (Bx.le c b) .nil
    |none=>.jl
   |_=>.jl
  |_=>.jl
def Qm(T:List TI)(fn:Func)(args:List E)(b:Bx)(t:Tr P K):R:=match fn.body with
 |some c=>if Nat.ble args.length fn.ntmps then xh T c (B7 fn true args) t (TY fn b)else .jl
 |none=>.jl
def vS.Q7(hT:mV P T)(hm:P.follows .mixedOrders=true)(hp:∀ w w',K w->Below w.heap.size w w'->K w'){f:FuncId}{fn:Func}{args:List E}{nl:Bool}{T0:TypeId}{n sz:Nat}{el:Nat->Nat->E}(yg:∀ (vs:Array Value) (w:World),(callFunc f vs).run P w = .ok (.enter f vs) w)
 (hf:P.funcs[f]? = some fn) (t:Tr P K) (h:Qm T fn args (.row nl T0 n sz el) t=t.ex λ_=>.a (Bx.le (.row nl T0 n sz el) (.row nl T0 n sz el)) .nil):vS P K f args nl T0 n sz el:=by
 have hk:=Tr.Nw (fin:=λ_=>.a (Bx.le (.row nl T0 n sz el) (.row nl T0 n sz el)) .nil) (λt=>⟨Bx.le.refl _,trivial⟩) t;rw[<-h]at hk;unfold Qm at hk;split at hk
 .rename_i c hb;split at hk
  .rename_i hn;refine vS.Pz hT hm hp yg hf hb (cV hn) true ((Nq hT hm hk).mono λe τ ⟨t',ht⟩=>?_);unfold TY at ht;split at ht
   .exact ht.elim
   .rename_i kB;split at ht
    .rename_i t0 hr;split at ht
     .rename_i id hg;split at ht
      .rename_i c' hc;refine⟨?_,t0,id,c',hr,hg,hc,λbs br L w hk=>ht.1.2 _ _ _ _ _ hk⟩;cases e with
       |normal=>exact .inr rfl
       |ret=>exact .inl rfl
       |exit i=>exact absurd rfl (kB i)
      .exact ht.elim
     .exact ht.elim
    .exact ht.elim
  .exact hk.elim
 .exact hk.elim
def Sp.jT{b:Code}{e:Ex}{τ:PS}(f:Nat->PS)(lo hi:Nat)(h0:lo<=hi)(go:∀ x,(lo<=x/\x<=hi)->x<hi->Sp P K b (f x) (λe' υ=>e' = .normal/\υ=f (x+1)))
 (out:(lo<=hi/\hi<=hi)->Sp P K b (f hi) (λe' υ=>e'=e/\υ=τ)) (he:e ≠ .normal):Sp P K (.loop b) (f lo) (λe' υ=>e'=e/\υ=τ):=by
 refine Sp.fam f (λx=>lo<=x/\x<=hi) (λx=>hi-x) (λx hx=>?_) lo ⟨bF _,h0⟩ (PS.le.refl _);rcases Nat.lt_or_eq_of_le hx.2 with iK|heq
 .exact Sp.ae2 (x+1) (go x hx iK) ⟨aC,aC⟩ aC (PS.le.refl _)
 .subst heq;exact Sp.ae3 (out hx) he (PS.le.refl _)
def iF(z:Int)(h:-9223372036854775808<=z/\z<=9223372036854775807):Tr P K->Tr P K:=.a (p:=kQ .i64 z) h
def Cx(z:Int)(h:0<=z/\z<=18446744073709551615):Tr P K->Tr P K:=.a (p:=kQ .u64 z) h
def iX(z:Int)(n:Nat)(h:0<=z/\z<n):Tr P K->Tr P K:=.a h
def tB(d:Nat){a b:Bool}(h:a=b):Tr P K->Tr P K:=.o d (PV.le.bool h)
def ah(d:Nat)(a:Bool)(h:a=true):Tr P K->Tr P K:=tB d h
def ai(d:Nat)(a:Bool)(h:a=false):Tr P K->Tr P K:=tB d h
def tT(d:Nat)(p:Prop)[Decidable p](h:p):Tr P K->Tr P K:=.o d (PV.le.bool (bC h))
def tF(d:Nat)(p:Prop)[Decidable p](h:¬p):Tr P K->Tr P K:=.o d (PV.le.bool (bD h))
def rQ(p q:E)(h:p=q):Tr P K:=.r (E.le.ji h)
def rR(q:E){p:E}(h:E.le p q):Tr P K:=.r h
def ae(l:List (Tr P K->Tr P K))(t:Tr P K):Tr P K:=l.foldr (λf t=>f t) t
def af(l:List (Tr P K->Tr P K)):Tr P K:=ae l .nil
end
end Go.Proofs.YtgdahmmlddfimaaGreatDoor.Pu
namespace Go.Proofs.YtgdahmmlddfimaaGreatDoor
open Go.RowKit Fp Pu
def tr(nl:Bool){f:FuncId}{fn:Func}{args:List E}{kt:E}(yg:∀ (vs:Array Value) (w:World),(callFunc f vs).run prog w = .ok (.enter f vs) w)
 (hf:prog.funcs[f]? = some fn) (t:Tr prog Tb) (h:Qn TT fn nl args kt t=t.ex λ_=>.a (E.le kt kt) .nil):ie f args kt:=
 PC.Q7 Mt mixed Rv yg hf nl t h
def ag(args:List E){f:FuncId}{ko:E}(h:ie f args ko):Tr prog Tb->Tr prog Tb:=.c h
def ak{f:FuncId}{fn:Func}{args:List E}{kt:E}(yg:∀ (vs:Array Value) (w:World),(callFunc f vs).run prog w = .ok (.enter f vs) w)
 (hf:prog.funcs[f]? = some fn) (t:Tr prog Tb) (h:Qn TT fn true args kt t=t.ex λ_=>.a (E.le kt kt) .nil:=by kernel_rfl):ie f args kt:=tr true yg hf t h
def an{f:FuncId}{fn:Func}{args:List E}{kt:E}(yg:∀ (vs:Array Value) (w:World),(callFunc f vs).run prog w = .ok (.enter f vs) w)
 (hf:prog.funcs[f]? = some fn) (t:Tr prog Tb) (h:Qn TT fn false args kt t=t.ex λ_=>.a (E.le kt kt) .nil:=by kernel_rfl):ie f args kt:=tr false yg hf t h
def iL{c:Code}{σ τ:PS}{e:Ex}(t:Tr prog Tb)(h:xh TT c σ t (Gw e τ)=t.ex λt=>FR τ t .nil):
 Sp prog Tb c σ (λe' τ'=>e'=e/\τ'=τ):=Sp.tr Mt mixed t h
abbrev jS(k:Nat)(fn:Func)(σ:PS)(e:Ex)(τ:PS):Prop:=Sp prog Tb (.loop (acs k fn)) σ (λe' τ'=>e'=e/\τ'=τ)
def VR(nl:Bool)(n N:Nat)(el:Nat->Nat->E)(g:FuncId)(cap:List E)(i:Nat):PS:=⟨19,false,[(8,.e (iP i)),(7,.e (iP n)),(0,.e (.sl nl n 1 el)),(1,.e (.fn g cap))],[]⟩
def VQ(nl:Bool)(n:Nat)(el:Nat->Nat->E)(g:FuncId)(cap:List E)(i:Nat):PS:=⟨19,false,[(8,.e (iP i)),(7,.e (iP n)),(0,.e (.sl nl n 1 el)),(1,.e (.fn g cap))],[]⟩
def WC(nl:Bool)(n:Nat)(el:Nat->Nat->E)(g:FuncId)(cap:List E)(i:Nat):PS:=⟨19,false,[(8,.e (iP i)),(7,.e (iP n)),(0,.e (.sl nl n 1 el)),(1,.e (.fn g cap))],[]⟩
def V6(nl:Bool)(n N:Nat)(el:Nat->Nat->E)(g:FuncId)(cap:List E)(i:Nat):PS:=⟨19,false,[(8,.e (iP i)),(7,.e (iP n)),(0,.e (.sl nl n 7 el)),(1,.e (.fn g cap))],[]⟩
def V5(nl:Bool)(n:Nat)(el:Nat->Nat->E)(g:FuncId)(cap:List E)(i:Nat):PS:=⟨19,false,[(8,.e (iP i)),(7,.e (iP n)),(0,.e (.sl nl n 7 el)),(1,.e (.fn g cap))],[]⟩
def YY(nl:Bool)(n N:Nat)(el:Nat->Nat->E)(g:FuncId)(cap:List E)(i:Nat):PS:=⟨19,false,[(8,.e (iP i)),(7,.e (iP n)),(0,.e (.sl nl n 1 el)),(1,.e (.fn g cap))],[]⟩
def YX(nl:Bool)(n:Nat)(el:Nat->Nat->E)(g:FuncId)(cap:List E)(i:Nat):PS:=⟨19,false,[(8,.e (iP i)),(7,.e (iP n)),(0,.e (.sl nl n 1 el)),(1,.e (.fn g cap))],[]⟩
def uO{p:Nat->Bool}{n:Nat}(h:∃ i,i<n/\p i=true):∃ N,N<n/\p N=true/\∀ i,i<N->p i=false:=by
 induction n with
 |zero=>obtain⟨i,h1,_⟩:=h;omega
 |succ n ih=>
  by_cases hn:∃ i,i<n/\p i=true
  .obtain ⟨N,h1,h2,h3⟩:=ih hn;exact⟨N,aC,h2,h3⟩
  .obtain ⟨i,h1,h2⟩:=h;have:i=n:=by
    by_cases q:i=n
    .exact q
    .exact absurd ⟨i,aC,h2⟩ hn
   subst this;exact⟨i,h1,h2,λj hj=>by simpa using λq=>hn ⟨j,hj,q⟩⟩
def ahs(nl:Bool)(n:Nat)(el:Nat->Nat->E)(g:FuncId)(cap:List E)(p:Nat->Bool)(hp:∀ i,i<n->ie g ((el i 0)::cap) (bP (p i)))(N:Nat)(hl:n<=1000000)(nJ:N<n)(jc:∀ i,i<N->p i=false)(hN:p N=true):ie 154 [.sl nl n 1 el,.fn g cap] (iP N):=
 an call154 func154 (af [.s (Sp.jT (VR nl n N el g cap) 0 N aC (λi hi nP=>by
    exact iL (af [tT 9 ((i:Int)<n) aC,iX (i:Int) n aC,.c (hp i aC:ie g ((el i 0)::cap) _),ai 16 (p i) (jc i aC),iF ((i:Int)+1) aC]) aF)
  (λhi=>by
    exact iL (af [tT 9 ((N:Int)<n) aC,iX (N:Int) n aC,.c (hp N aC:ie g ((el N 0)::cap) _),ah 16 (p N) hN]) aF) aI:jS 2 f154 (VR nl n N el g cap 0) .ret ⟨19,false,[(4,.e (iP N))],[]⟩) .nil]) 
def ahu(nl:Bool)(n:Nat)(el:Nat->Nat->E)(g:FuncId)(cap:List E)(p:Nat->Bool)(hp:∀ i,i<n->ie g ((el i 0)::cap) (bP (p i)))(hl:n<=1000000)(jc:∀ i,i<n->p i=false):ie 154 [.sl nl n 1 el,.fn g cap] (iP (-1)):=
 an call154 func154 (af [.s (Sp.jT (VQ nl n el g cap) 0 n aC (λi hi nP=>by
    exact iL (af [tT 9 ((i:Int)<n) aC,iX (i:Int) n aC,.c (hp i aC:ie g ((el i 0)::cap) _),ai 16 (p i) (jc i aC),iF ((i:Int)+1) aC]) aF)
  (λhi=>by
    exact iL (af [tF 9 ((n:Int)<n) aC]) aF) aI:jS 2 f154 (VQ nl n el g cap 0) (.exit 0) ⟨19,false,[],[]⟩) .nil]) 
def aht(nl:Bool)(n:Nat)(el:Nat->Nat->E)(g:FuncId)(cap:List E)(p:Nat->Bool)(hp:∀ i,i<n->ie g ((el i 0)::cap) (bP (p i)))(N:Nat)(hl:n<=1000000)(nJ:N<n)(jc:∀ i,i<N->p i=false)(hN:p N=true):ie 67 [.sl nl n 1 el,.fn g cap] (bP true):=
 an call67 func67 (af [ag [.sl nl n 1 el,.fn g cap] (ahs nl n el g cap p hp N hl nJ jc hN),tT 8 (0<=(N:Int)) aC]) 
def O9(nl:Bool)(n:Nat)(el:Nat->Nat->E)(g:FuncId)(cap:List E)(p:Nat->Bool)(hp:∀ i,i<n->ie g ((el i 0)::cap) (bP (p i)))(hl:n<=1000000)(jc:∀ i,i<n->p i=false):ie 67 [.sl nl n 1 el,.fn g cap] (bP false):=
 an call67 func67 (af [ag [.sl nl n 1 el,.fn g cap] (ahu nl n el g cap p hp hl jc),ai 8 (decide ((0:Int)<=(-1))) aE]) 
def VS(nl:Bool)(n:Nat)(el:Nat->Nat->E)(g:FuncId)(cap:List E)(p:Nat->Bool)(hp:∀ i,i<n->ie g ((el i 0)::cap) (bP (p i)))(hl:n<=1000000):ie 67 [.sl nl n 1 el,.fn g cap] (bP ((List.range n).any p)):=by
 by_cases h:∃ i,i<n/\p i=true
 .obtain ⟨N,h1,h2,h3⟩:∃ N,N<n/\p N=true/\∀ i,i<N->p i=false:=uO h;refine(aht nl n el g cap p hp N hl h1 h3 h2).kt (.ji ?_);rw[ep.2 ⟨N,b6.2 h1,h2⟩]
 .refine (O9 nl n el g cap p hp hl λi hi=>by simpa using λq=>h ⟨i,hi,q⟩).kt (.ji ?_);rw[dg.2 λi hi q=>h ⟨i,b6.1 hi,q⟩]
def aij(nl:Bool)(n:Nat)(el:Nat->Nat->E)(g:FuncId)(cap:List E)(p:Nat->Bool)(hp:∀ i,i<n->ie g ((el i 0)::cap) (bP (p i)))(hl:n<=1000000)(jc:∀ i,i<n->p i=false):ie 302 [.sl nl n 1 el,.fn g cap] (iP (-1)):=
 an call302 func302 (af [.s (Sp.jT (WC nl n el g cap) 0 n aC (λi hi nP=>by
    exact iL (af [tT 9 ((i:Int)<n) aC,iX (i:Int) n aC,.c (hp i aC:ie g ((el i 0)::cap) _),ai 16 (p i) (jc i aC),iF ((i:Int)+1) aC]) aF)
  (λhi=>by
    exact iL (af [tF 9 ((n:Int)<n) aC]) aF) aI:jS 2 f302 (WC nl n el g cap 0) (.exit 0) ⟨19,false,[],[]⟩) .nil]) 
def WE(nl:Bool)(n:Nat)(el:Nat->Nat->E)(g:FuncId)(cap:List E)(p:Nat->Bool)(hp:∀ i,i<n->ie g ((el i 0)::cap) (bP (p i)))(hl:n<=1000000)(jc:∀ i,i<n->p i=false):ie 267 [.sl nl n 1 el,.fn g cap] (bP false):=
 an call267 func267 (af [ag [.sl nl n 1 el,.fn g cap] (aij nl n el g cap p hp hl jc),ai 8 (decide ((0:Int)<=(-1))) aE]) 
def ahN(nl:Bool)(n:Nat)(el:Nat->Nat->E)(g:FuncId)(cap:List E)(p:Nat->Bool)(hp:∀ i,i<n->ie g ((.agg [el i 0,el i 1,el i 2,el i 3,el i 4,el i 5,el i 6])::cap) (bP (p i)))(N:Nat)(hl:n<=1000000)(nJ:N<n)(jc:∀ i,i<N->p i=false)(hN:p N=true):ie 130 [.sl nl n 7 el,.fn g cap] (iP N):=
 an call130 func130 (af [.s (Sp.jT (V6 nl n N el g cap) 0 N aC (λi hi nP=>by
    exact iL (af [tT 9 ((i:Int)<n) aC,iX (i:Int) n aC,.c (hp i aC:ie g ((.agg [el i 0,el i 1,el i 2,el i 3,el i 4,el i 5,el i 6])::cap) _),ai 16 (p i) (jc i aC),iF ((i:Int)+1) aC]) aF)
  (λhi=>by
    exact iL (af [tT 9 ((N:Int)<n) aC,iX (N:Int) n aC,.c (hp N aC:ie g ((.agg [el N 0,el N 1,el N 2,el N 3,el N 4,el N 5,el N 6])::cap) _),ah 16 (p N) hN]) aF) aI:jS 2 f130 (V6 nl n N el g cap 0) .ret ⟨19,false,[(4,.e (iP N))],[]⟩) .nil]) 
def ahP(nl:Bool)(n:Nat)(el:Nat->Nat->E)(g:FuncId)(cap:List E)(p:Nat->Bool)(hp:∀ i,i<n->ie g ((.agg [el i 0,el i 1,el i 2,el i 3,el i 4,el i 5,el i 6])::cap) (bP (p i)))(hl:n<=1000000)(jc:∀ i,i<n->p i=false):ie 130 [.sl nl n 7 el,.fn g cap] (iP (-1)):=
 an call130 func130 (af [.s (Sp.jT (V5 nl n el g cap) 0 n aC (λi hi nP=>by
    exact iL (af [tT 9 ((i:Int)<n) aC,iX (i:Int) n aC,.c (hp i aC:ie g ((.agg [el i 0,el i 1,el i 2,el i 3,el i 4,el i 5,el i 6])::cap) _),ai 16 (p i) (jc i aC),iF ((i:Int)+1) aC]) aF)
  (λhi=>by
    exact iL (af [tF 9 ((n:Int)<n) aC]) aF) aI:jS 2 f130 (V5 nl n el g cap 0) (.exit 0) ⟨19,false,[],[]⟩) .nil]) 
def ahO(nl:Bool)(n:Nat)(el:Nat->Nat->E)(g:FuncId)(cap:List E)(p:Nat->Bool)(hp:∀ i,i<n->ie g ((.agg [el i 0,el i 1,el i 2,el i 3,el i 4,el i 5,el i 6])::cap) (bP (p i)))(N:Nat)(hl:n<=1000000)(nJ:N<n)(jc:∀ i,i<N->p i=false)(hN:p N=true):ie 53 [.sl nl n 7 el,.fn g cap] (bP true):=
 an call53 func53 (af [ag [.sl nl n 7 el,.fn g cap] (ahN nl n el g cap p hp N hl nJ jc hN),tT 8 (0<=(N:Int)) aC]) 
def Pg(nl:Bool)(n:Nat)(el:Nat->Nat->E)(g:FuncId)(cap:List E)(p:Nat->Bool)(hp:∀ i,i<n->ie g ((.agg [el i 0,el i 1,el i 2,el i 3,el i 4,el i 5,el i 6])::cap) (bP (p i)))(hl:n<=1000000)(jc:∀ i,i<n->p i=false):ie 53 [.sl nl n 7 el,.fn g cap] (bP false):=
 an call53 func53 (af [ag [.sl nl n 7 el,.fn g cap] (ahP nl n el g cap p hp hl jc),ai 8 (decide ((0:Int)<=(-1))) aE]) 
def Pf(nl:Bool)(n:Nat)(el:Nat->Nat->E)(g:FuncId)(cap:List E)(p:Nat->Bool)(hp:∀ i,i<n->ie g ((.agg [el i 0,el i 1,el i 2,el i 3,el i 4,el i 5,el i 6])::cap) (bP (p i)))(hl:n<=1000000):ie 53 [.sl nl n 7 el,.fn g cap] (bP ((List.range n).any p)):=by
 by_cases h:∃ i,i<n/\p i=true
 .obtain ⟨N,h1,h2,h3⟩:∃ N,N<n/\p N=true/\∀ i,i<N->p i=false:=uO h;refine(ahO nl n el g cap p hp N hl h1 h3 h2).kt (.ji ?_);rw[ep.2 ⟨N,b6.2 h1,h2⟩]
 .refine (Pg nl n el g cap p hp hl λi hi=>by simpa using λq=>h ⟨i,hi,q⟩).kt (.ji ?_);rw[dg.2 λi hi q=>h ⟨i,b6.1 hi,q⟩]
def alz(nl:Bool)(n:Nat)(el:Nat->Nat->E)(g:FuncId)(cap:List E)(p:Nat->Bool)(hp:∀ i,i<n->ie g ((el i 0)::cap) (bP (p i)))(N:Nat)(hl:n<=1000000)(nJ:N<n)(jc:∀ i,i<N->p i=false)(hN:p N=true):ie 128 [.sl nl n 1 el,.fn g cap] (iP N):=
 an call128 func128 (af [.s (Sp.jT (YY nl n N el g cap) 0 N aC (λi hi nP=>by
    exact iL (af [tT 9 ((i:Int)<n) aC,iX (i:Int) n aC,.c (hp i aC:ie g ((el i 0)::cap) _),ai 16 (p i) (jc i aC),iF ((i:Int)+1) aC]) aF)
  (λhi=>by
    exact iL (af [tT 9 ((N:Int)<n) aC,iX (N:Int) n aC,.c (hp N aC:ie g ((el N 0)::cap) _),ah 16 (p N) hN]) aF) aI:jS 2 f128 (YY nl n N el g cap 0) .ret ⟨19,false,[(4,.e (iP N))],[]⟩) .nil]) 
def alE(nl:Bool)(n:Nat)(el:Nat->Nat->E)(g:FuncId)(cap:List E)(p:Nat->Bool)(hp:∀ i,i<n->ie g ((el i 0)::cap) (bP (p i)))(hl:n<=1000000)(jc:∀ i,i<n->p i=false):ie 128 [.sl nl n 1 el,.fn g cap] (iP (-1)):=
 an call128 func128 (af [.s (Sp.jT (YX nl n el g cap) 0 n aC (λi hi nP=>by
    exact iL (af [tT 9 ((i:Int)<n) aC,iX (i:Int) n aC,.c (hp i aC:ie g ((el i 0)::cap) _),ai 16 (p i) (jc i aC),iF ((i:Int)+1) aC]) aF)
  (λhi=>by
    exact iL (af [tF 9 ((n:Int)<n) aC]) aF) aI:jS 2 f128 (YX nl n el g cap 0) (.exit 0) ⟨19,false,[],[]⟩) .nil]) 
def alC(nl:Bool)(n:Nat)(el:Nat->Nat->E)(g:FuncId)(cap:List E)(p:Nat->Bool)(hp:∀ i,i<n->ie g ((el i 0)::cap) (bP (p i)))(N:Nat)(hl:n<=1000000)(nJ:N<n)(jc:∀ i,i<N->p i=false)(hN:p N=true):ie 50 [.sl nl n 1 el,.fn g cap] (bP true):=
 an call50 func50 (af [ag [.sl nl n 1 el,.fn g cap] (alz nl n el g cap p hp N hl nJ jc hN),tT 8 (0<=(N:Int)) aC]) 
def Y0(nl:Bool)(n:Nat)(el:Nat->Nat->E)(g:FuncId)(cap:List E)(p:Nat->Bool)(hp:∀ i,i<n->ie g ((el i 0)::cap) (bP (p i)))(hl:n<=1000000)(jc:∀ i,i<n->p i=false):ie 50 [.sl nl n 1 el,.fn g cap] (bP false):=
 an call50 func50 (af [ag [.sl nl n 1 el,.fn g cap] (alE nl n el g cap p hp hl jc),ai 8 (decide ((0:Int)<=(-1))) aE]) 
def YZ(nl:Bool)(n:Nat)(el:Nat->Nat->E)(g:FuncId)(cap:List E)(p:Nat->Bool)(hp:∀ i,i<n->ie g ((el i 0)::cap) (bP (p i)))(hl:n<=1000000):ie 50 [.sl nl n 1 el,.fn g cap] (bP ((List.range n).any p)):=by
 by_cases h:∃ i,i<n/\p i=true
 .obtain ⟨N,h1,h2,h3⟩:∃ N,N<n/\p N=true/\∀ i,i<N->p i=false:=uO h;refine(alC nl n el g cap p hp N hl h1 h3 h2).kt (.ji ?_);rw[ep.2 ⟨N,b6.2 h1,h2⟩]
 .refine (Y0 nl n el g cap p hp hl λi hi=>by simpa using λq=>h ⟨i,hi,q⟩).kt (.ji ?_);rw[dg.2 λi hi q=>h ⟨i,b6.1 hi,q⟩]
def Xb(a b:List Nat)(x:Nat):PS:=⟨67,false,[(20,.e (iP x)),(19,.e (iP a.length)),(18,.e (ik a)),(5,.own 17),(1,.e (ik b))],[(17,.row false 171 (a.length+b.length) 1 (qW (mj a b x)))]⟩
def Xc(a b:List Nat)(x:Nat)(k:Nat):PS:=⟨67,false,[(27,.e (iP k)),(26,.e (iP b.length)),(25,.e (ik b)),(8,.e (.v (.int .u64 (((nU (a.getD x 0) x b (mj a b x) k).2:Nat):Int)))),(7,.e (.v (.int .u32 (a.getD x 0:Int)))),(6,.e (iP x)),(20,.e (iP x)),(19,.e (iP a.length)),(18,.e (ik a)),(5,.own 17),(1,.e (ik b))],[(17,.row false 171 (a.length+b.length) 1 (qW ((nU (a.getD x 0) x b (mj a b x) k).1)))]⟩
def ai1(a b:List Nat)(ha:iZ a)(hb:iZ b)(h1:a.length<=3000)(h2:b.length<=3000):ie 269 [ik a,ik b] (ik (mj a b a.length)):=
 an call269 func269 (ae [iF ((a.length:Int)+b.length) aC,.a (aC:0<=(((a.length:Int)+b.length):Int)/\(((a.length:Int)+b.length):Int)<=(((a.length:Int)+b.length):Int)),.a (aC:((4:Nat):Int)*((a.length:Int)+b.length)<=281474976710656/\(((a.length:Int)+b.length):Int)<=9223372036854775807),.s (Sp.jT (Xb a b) 0 a.length aC (λx hx lJ=>by
    have f1:=ha.getD x;have so:=Ib ha hb x aC;have g1:=so.len;have g2:=(H9 f1 hb so.ok (i:=x) aC b.length aC).len;have g3:=(H9 f1 hb so.ok (i:=x) aC b.length aC).lt;exact iL (ae [tT 21 ((x:Int)<a.length) aC,iX (x:Int) (a.length) aC,.s (Sp.jT (Xc a b x) 0 b.length aC (λk hk ao3=>by
    have f2:=hb.getD k;have q:=H9 f1 hb so.ok (i:=x) aC k aC;have f3:=q.ok.getD (x+k);have f4:=q.lt;have f5:=q.len;have f6:=Xe f1 f2;exact iL (ae [tT 28 ((k:Int)<b.length) aC,iX (k:Int) (b.length) aC,.o 33 (.int (sR _ aC):aj (.v (.int .u64 (IntKind.u64.wrap (a.getD x 0:Int)))) (.v (.int .u64 (a.getD x 0:Int)))),.o 35 (.int (sR _ aC):aj (.v (.int .u64 (IntKind.u64.wrap (b.getD k 0:Int)))) (.v (.int .u64 (b.getD k 0:Int)))),
     Cx ((a.getD x 0:Int)*(b.getD k 0:Int)) aC,iF ((x:Int)+k) aC,iX ((x+k:Nat):Int) (a.length+b.length) aC,.a (aC:(x+k)<(a.length+b.length)),.o 43 (.int (sR _ aC):aj (.v (.int .u64 (IntKind.u64.wrap ((((nU (a.getD x 0) x b (mj a b x) k).1).getD (x+k) 0:Nat):Int)))) (.v (.int .u64 ((((nU (a.getD x 0) x b (mj a b x) k).1).getD (x+k) 0:Nat):Int)))),
     Cx ((((a.getD x 0)*(b.getD k 0):Nat):Int)+((((nU (a.getD x 0) x b (mj a b x) k).1).getD (x+k) 0:Nat):Int)) aC,
     Cx (((((a.getD x 0)*(b.getD k 0))+(((nU (a.getD x 0) x b (mj a b x) k).1).getD (x+k) 0):Nat):Int)+(((nU (a.getD x 0) x b (mj a b x) k).2:Nat):Int)) aC,
     iF ((x:Int)+k) aC,.o 52 (.int (FY _):aj (.v (.int .u32 (IntKind.u32.wrap (((((a.getD x 0)*(b.getD k 0))+(((nU (a.getD x 0) x b (mj a b x) k).1).getD (x+k) 0))+(nU (a.getD x 0) x b (mj a b x) k).2:Nat):Int)))) (.v (.int .u32 ((((((a.getD x 0)*(b.getD k 0))+(((nU (a.getD x 0) x b (mj a b x) k).1).getD (x+k) 0))+(nU (a.getD x 0) x b (mj a b x) k).2)%4294967296:Nat):Int)))),.a (aC:0<=(32:Int)/\(32:Int)<=((64:Nat):Int)),.o 54 (.int (ZO _):aj (.v (.int .u64 ((((((a.getD x 0)*(b.getD k 0))+(((nU (a.getD x 0) x b (mj a b x) k).1).getD (x+k) 0))+(nU (a.getD x 0) x b (mj a b x) k).2:Nat):Int)/2^32))) (.v (.int .u64 ((((((a.getD x 0)*(b.getD k 0))+(((nU (a.getD x 0) x b (mj a b x) k).1).getD (x+k) 0))+(nU (a.getD x 0) x b (mj a b x) k).2)/4294967296:Nat):Int)))),
     iX ((x+k:Nat):Int) (a.length+b.length) aC,.a (aC:(x+k)<(a.length+b.length)),iF ((k:Int)+1) aC]<|.e (af [.o 8 (.int aP:aj (.v (.int .u64 ((((((a.getD x 0)*(b.getD k 0))+(((nU (a.getD x 0) x b (mj a b x) k).1).getD (x+k) 0))+(nU (a.getD x 0) x b (mj a b x) k).2)/4294967296:Nat):Int))) (.v (.int .u64 (((nU (a.getD x 0) x b (mj a b x) (k+1)).2:Nat):Int)))),.b 17 (QA rfl aC:Bx.le (.row false 171 (a.length+b.length) 1 (λi' j'=>if i'=(x+k)/\0<=j'/\j'<0+1 then[.v (.int .u32 ((((((a.getD x 0)*(b.getD k 0))+(((nU (a.getD x 0) x b (mj a b x) k).1).getD (x+k) 0))+(nU (a.getD x 0) x b (mj a b x) k).2)%4294967296:Nat):Int))].getD (j'-0) .any else(qW ((nU (a.getD x 0) x b (mj a b x) k).1)) i' j')) (.row false 171 (a.length+b.length) 1 (qW ((nU (a.getD x 0) x b (mj a b x) (k+1)).1))))])) aF)
  (λhk=>by
    exact iL (af [tF 28 ((b.length:Int)<b.length) aC]) aF) aI:jS 7 f269 (Xc a b x 0) (.exit 2) ⟨67,false,[(8,.e (.v (.int .u64 (((nU (a.getD x 0) x b (mj a b x) b.length).2:Nat):Int)))),(6,.e (iP x)),(20,.e (iP x)),(19,.e (iP a.length)),(18,.e (ik a)),(5,.own 17),(1,.e (ik b))],[(17,.row false 171 (a.length+b.length) 1 (qW ((nU (a.getD x 0) x b (mj a b x) b.length).1)))]⟩) (af [.o 8 (.int aP:aj (.v (.int .u64 0)) (.v (.int .u64 (((nU (a.getD x 0) x b (mj a b x) 0).2:Nat):Int)))),.b 17 (.ji rfl:Bx.le (.row false 171 (a.length+b.length) 1 (qW (mj a b x))) (.row false 171 (a.length+b.length) 1 (qW ((nU (a.getD x 0) x b (mj a b x) 0).1))))]),
     iF ((x:Int)+b.length) aC,.o 63 (.int (FY _):aj (.v (.int .u32 (IntKind.u32.wrap (((nU (a.getD x 0) x b (mj a b x) b.length).2:Nat):Int)))) (.v (.int .u32 (((nU (a.getD x 0) x b (mj a b x) b.length).2%4294967296:Nat):Int)))),
     iX ((x+b.length:Nat):Int) (a.length+b.length) aC,.a (aC:(x+b.length)<(a.length+b.length)),iF ((x:Int)+1) aC]<|.e (af [.b 17 (QA rfl aC:Bx.le (.row false 171 (a.length+b.length) 1 (λi' j'=>if i'=(x+b.length)/\0<=j'/\j'<0+1 then[.v (.int .u32 (((nU (a.getD x 0) x b (mj a b x) b.length).2%4294967296:Nat):Int))].getD (j'-0) .any else(qW ((nU (a.getD x 0) x b (mj a b x) b.length).1)) i' j')) (.row false 171 (a.length+b.length) 1 (qW (mj a b (x+1)))))])) aF)
  (λhx=>by
    exact iL (af [tF 21 ((a.length:Int)<a.length) aC]) aF) aI:jS 3 f269 (Xb a b 0) (.exit 0) ⟨67,false,[(5,.own 17)],[(17,.row false 171 (a.length+b.length) 1 (qW (mj a b a.length)))]⟩) (af [.b 17 (Y1 rfl (λi=>by simp[mj,bE,fB];split<;>rfl):Bx.le (.row false 171 (a.length+b.length) 1 (λ_ j_=>[.v (.int .u32 0)].getD j_ .any)) (.row false 171 (a.length+b.length) 1 (qW (mj a b 0))))])]<|rR (ik (mj a b a.length)) (ZV (by rw[(Ib ha hb a.length aC).len]):E.le (.sl false (a.length+b.length) 1 (qW (mj a b a.length))) (ik (mj a b a.length)))) 
def PI(L:List Nat)(h:L.length<=256):ie 268 [ik L] (bP false):=
 ak call268 func268 (af [tF 5 (256<(L.length:Int)) aC]) 
def ai0(L:List Nat)(h1:L.length<=256):ie 230 [(.sl true 1 1 λi_ j_=>[ik L].getD (i_*1+j_) (.v (.bool false)))] (bP false):=
 ak call230 func230 (af [.c (WE true 1 _ 268 [] (λ_=>false) (λi hi=>(match i,hi with|0,_=>PI _ h1|n+1,hi=>absurd hi aC)) aC (λ_ _=>rfl):ie 267 [(.sl true 1 1 λi_ j_=>[ik L].getD (i_*1+j_) (.v (.bool false))),.fn 268 []] _)]) 
def Xk(L:List Nat)(M:List Nat)(h1:L.length<=256)(h2:M.length<=256):ie 230 [(.sl true 2 1 λi_ j_=>[ik L,ik M].getD (i_*1+j_) (.v (.bool false)))] (bP false):=
 ak call230 func230 (af [.c (WE true 2 _ 268 [] (λ_=>false) (λi hi=>(match i,hi with|0,_=>PI _ h1|1,_=>PI _ h2|n+2,hi=>absurd hi aC)) aC (λ_ _=>rfl):ie 267 [(.sl true 2 1 λi_ j_=>[ik L,ik M].getD (i_*1+j_) (.v (.bool false))),.fn 268 []] _)]) 
def ai2(L M:List Nat)(hL:iZ L)(hM:iZ M)(h1:L.length<=256)(h2:M.length<=256)(hf:(ij (val L*val M)).length<=256):ie 234 [ik L,ik M] (.iE [ik (ij (val L*val M)),iP 0]):=by
 have ka:=hL.iT;have kb:=hM.iT;have ta:=qw L;have tb:=qw M;unfold np at ta tb;have km:=(Ib ka kb _ (bF _)).ok;have he:iT (mj (iT L) (iT M) (iT L).length)=ij (val L*val M):=by rw[sx km,aoe ka kb,qZ,qZ]
 have hd:(iT (mj (iT L) (iT M) (iT L).length)).length<=256:=by rw[he];exact hf
 exact ak call234 func234 (ae [.c (Xk L M aD aD),ag [ik L] (vF _ hL),ag [ik M] (vF _ hM),ag [ik (iT L),ik (iT M)] (ai1 _ _ ka kb aC aC),ag [ik (mj (iT L) (iT M) (iT L).length)] (Xi _ km hd)]<|rQ (.iE [ik (iT (mj (iT L) (iT M) (iT L).length)),iP 0]) (.iE [ik (ij (val L*val M)),iP 0]) (by rw[he])) 
def AY(m n:Nat)(h1:(ij m).length<=256)(h2:(ij n).length<=256)(hf:(ij (m*n)).length<=256):ie 234 [ik (ij m),ik (ij n)] (.iE [ik (ij (m*n)),iP 0]):=by
 have:=ai2 (ij m) (ij n) (mQ m) (mQ n) h1 h2 (by rw[kP,kP];exact hf);rwa[kP,kP]at this
def xJ(m n:Nat)(h1:(ij m).length<=256)(h2:n<=65536)(h3:(ij (m*2^n)).length<=256):ie 283 [ik (ij m),iP n] (ik (ij (m*2^n))):=
 ak call283 func283 (af [ag [ik (ij m),iP n] (Xo _ _ aC aC aC)]) 
def Qk(m n:Nat)(h1:(ij m).length<=256)(h2:n<=65536):ie 284 [ik (ij m),iP n] (.iE [ik (ij (m/2^n)),bP (decide (m%2^n≠0))]):=by
 have hb:=CT h1;have hq:(ij (m/2^n)).length<=256:=pY (by have:=xS (cw m (2^n));omega);have xr:(ij (m/2^n*2^n)).length<=256:=pY (by have:=xS (dD m (2^n));omega);have hr:(ij (m/2^iB m)).length<=256:=pY (by have:=xS (cw m (2^iB m));omega);have oE:(ij (m/2^iB m*2^iB m)).length<=256:=pY (by have:=xS (dD m (2^iB m));omega);by_cases hn:iB m<n
 .have q1:=Te (dU hn);have q2:=Te (bF (iB m));exact ak call284 func284 (ae [ag [ik (ij m)] (ue _ aC),tT 11 ((iB m:Int)<n) aC,ag [ik (ij m)] (ue _ aC),ag [ik (ij m),iP (iB m:Int)] (PJ _ _ aC aC),.c (xJ (m/2^(iB m)) (iB m) aC aC aC),ag [ik (ij ((m/2^(iB m))*2^(iB m))),ik (ij m)] (AW _ _ aC aC)]<|rQ (.iE [ik (ij (m/2^(iB m))),bP ((lp ((m/2^(iB m))*2^(iB m)) m) != 0)]) (.iE [ik (ij (m/2^n)),bP (decide (m%2^n≠0))]) (by rw[WR,q1.1,q1.2,q2.1,q2.2])) 
 .exact ak call284 func284 (ae [ag [ik (ij m)] (ue _ aC),tF 11 ((iB m:Int)<n) aC,ag [ik (ij m),iP n] (PJ _ _ aC aC),.c (xJ (m/2^n) n aC aC aC),ag [ik (ij ((m/2^n)*2^n)),ik (ij m)] (AW _ _ aC aC)]<|rQ (.iE [ik (ij (m/2^n)),bP ((lp ((m/2^n)*2^n) m) != 0)]) (.iE [ik (ij (m/2^n)),bP (decide (m%2^n≠0))]) (by rw[WR])) 
abbrev Q9:E:=.sl false 1 1 λi_ j_=>[.v (.int .u32 1)].getD (i_*1+j_) (.v (.bool false))
abbrev L5(p):=ik (ij (0*2^((0-(jF 0 0 p)).toNat)))
def pg(m:Nat)(e:Int)(p:Nat):Nat:=if jF m e p<=e then m*2^(e-jF m e p).toNat else m/2^(jF m e p-e).toNat
def tg(m:Nat)(e:Int)(more:Bool)(p:Nat):Bool:=if jF m e p<=e then more else(more||decide (m%2^(jF m e p-e).toNat≠0))
def adU(m:Nat)(e:Int)(more:Bool)(p:Nat):oL m e more p false=pg m e p:=by unfold oL pg;simp
def M8{m:Nat}{e:Int}{more:Bool}{p:Nat}(hm:more=true->p<iB m):oL m e more p true=pg m e p+if tg m e more p=true then 1 else 0:=by
 unfold oL pg tg;by_cases hU:jF m e p<=e
 .have hmo:more=false:=by
   cases OG:more with
   |false=>rfl
   |true=>have:=hm OG;unfold jF at hU;omega
  simp[hU,hmo]
 .simp [hU]
def akB(m:Nat)(e:Int)(more up:Bool)(p:Nat)(h1:(ij m).length<=256)(h0:m≠0)(iA:8<=p)(im:p<=512)(mP:-45000<=e)(lZ:e<=45000)(hm:more=true->p<iB m):ie 285 [.agg [ik (ij m),iP e,bP more],iP (p:Int),bP up] (.iE [iz (kI false m e more p up),iP (kp false m e more p up)]):=by
 have Vl:=SY (e:=e) true h0 hm (aC:1<=p);have xt:=SY (e:=e) false h0 hm (aC:1<=p);have hb:=CT h1;have J9:=pF h0;have hqb:=SX (e:=e) (more:=more) (p:=p) (up:=true) h0;have hqa:=SX (e:=e) (more:=more) (p:=p) (up:=false) h0;rw[adU]at xt hqa;have hu1:-16384<=(jF m e p):=by unfold jF;omega
 have hu2:(jF m e p)<=60000:=by unfold jF;omega
 have hu3:(jF m e p)<=max (e+8192) (-16384):=by unfold jF;omega
 have fa:(ij (pg m e p)).length<=256:=pY aC;have fb:(ij (oL m e more p true)).length<=256:=pY aC;have f1:(ij 1).length<=256:=pY aE;cases up with
 |true=>
  exact ak call285 func285 (ae [ag [ik (ij m)] (ue _ aC),iF (e+(iB m:Int)) aC,iF ((e+(iB m:Int))-(p:Int)) aC,.o 21 (aq (if(-16384)>((e+(iB m:Int))-(p:Int))then(-16384)else((e+(iB m:Int))-(p:Int))) (jF m e p) (by unfold jF;split<;>omega)),.j 58 ⟨84,true,[(9,.e (ik (ij (pg m e p)))),(10,.e (bP (tg m e more p))),(8,.e (iP (jF m e p))),(6,.box 6 0),(1,.e (iP p)),(2,.e (bP true))],[(6,.cells 31 ar)]⟩
   (.w ((jF m e p)<=e)
    (λm1=>by
     have fx:(ij (m*2^(e-(jF m e p)).toNat)).length<=256:=by have:=fa;rwa[show pg m e p=_ from bB m1]at this
     exact ae [.v 29 (.bool (bC m1)),iF (e-(jF m e p)) aC,.o 35 (aq (e-(jF m e p)) ((e-(jF m e p)).toNat:Int) aC),.c (xJ m ((e-(jF m e p)).toNat:Nat) aC aC aC)]<|.e (af [.o 9 (.e (.ji (by rw[show pg m e p=_ from bB m1])):aj (ik (ij (m*2^((e-(jF m e p)).toNat)))) (ik (ij (pg m e p)))),tB 10 (by simp[tg,m1]:more=(tg m e more p))]))
    (λm1=>ae [.v 29 (.bool (bD m1)),iF ((jF m e p)-e) aC,.o 43 (aq ((jF m e p)-e) (((jF m e p)-e).toNat:Int) aC),.c (Qk m (((jF m e p)-e).toNat:Nat) aC aC)]<|.w (more=true)
     (λm2=>ae [tB 48 m2]<|.e (af [.o 9 (.e (.ji (by rw[show pg m e p=_ from bA m1])):aj (ik (ij (m/2^(((jF m e p)-e).toNat)))) (ik (ij (pg m e p)))),tB 10 (by simp[tg,m1,m2]:true=(tg m e more p))]))
     (λm2=>ae [tB 48 (bt m2)]<|.e (af [.o 9 (.e (.ji (by rw[show pg m e p=_ from bA m1])):aj (ik (ij (m/2^(((jF m e p)-e).toNat)))) (ik (ij (pg m e p)))),tB 10 (by simp[tg,m1,m2]:(decide (m%2^(((jF m e p)-e).toNat)≠0))=(tg m e more p))])))),.j 110 ⟨84,true,[(9,.e (ik (ij (oL m e more p true)))),(8,.e (iP (jF m e p))),(6,.box 6 0),(1,.e (iP p)),(2,.e (bP true))],[(6,.cells 31 ar)]⟩
   (.w (tg m e more p=true)
    (λm1=>by
     have fx:(ij (pg m e p+1)).length<=256:=by have:=fb;rwa[M8 hm,bB m1]at this
     exact ae [.v 55 (.bool m1),.o 58 (.e zQ:aj Q9 (ik (ij 1))),ag [ik (ij (pg m e p)),ik (ij 1)] (KN _ _ aC aC aC)]<|.e (af [.o 9 (.e (.ji (by rw[M8 hm,bB m1])):aj (ik (ij ((pg m e p)+1))) (ik (ij (oL m e more p true))))]))
    (λm1=>ae [.v 55 (.bool (bt m1))]<|.e (af [.o 9 (.e (.ji (by rw[M8 hm,bA m1,cg])):aj (ik (ij (pg m e p))) (ik (ij (oL m e more p true))))]))),ag [ik (ij (oL m e more p true))] (ue _ aC),iF ((iB (oL m e more p true):Int)+(jF m e p)) aC]<|.w (16384<((iB (oL m e more p true):Int)+(jF m e p)))
   (λk1=>by
    have w1:=(Vl.resolve_left (λh=>absurd k1 aC)).2.resolve_right (λh=>absurd h.1 aE);exact ae [tB 66 (bC k1),.o 68 (.e Bm:aj (.agg ar) (iz iS))]<|rQ (.iE [iz iS,iP 9]) (.iE [iz (kI false m e more p true),iP (kp false m e more p true)]) (by rw[w1.2.1,w1.2.2]))
   (λk1=>by
    have w1:=Vl.resolve_right (λh=>k1 h.1);have hd:oR (canon false (oL m e more p true) (jF m e p)):=by rw[<-w1.2.1];exact(uA false m e more p true aC aC).range
    exact ae [tB 66 (bD k1),ag [bP false,ik (ij (oL m e more p true)),iP (jF m e p)] (CZ _ _ _ aC aC aC aD)]<|rQ (.iE [iz (canon false (oL m e more p true) (jF m e p)),iP 0]) (.iE [iz (kI false m e more p true),iP (kp false m e more p true)]) (by rw[w1.2.1,w1.2.2]))) 
 |false=>
  exact ak call285 func285 (ae [ag [ik (ij m)] (ue _ aC),iF (e+(iB m:Int)) aC,iF ((e+(iB m:Int))-(p:Int)) aC,.o 21 (aq (if(-16384)>((e+(iB m:Int))-(p:Int))then(-16384)else((e+(iB m:Int))-(p:Int))) (jF m e p) (by unfold jF;split<;>omega)),.j 58 ⟨84,true,[(9,.e (ik (ij (pg m e p)))),(10,.e (bP (tg m e more p))),(8,.e (iP (jF m e p))),(6,.box 6 0),(1,.e (iP p)),(2,.e (bP false))],[(6,.cells 31 ar)]⟩
   (.w ((jF m e p)<=e)
    (λm1=>by
     have fx:(ij (m*2^(e-(jF m e p)).toNat)).length<=256:=by have:=fa;rwa[show pg m e p=_ from bB m1]at this
     exact ae [.v 29 (.bool (bC m1)),iF (e-(jF m e p)) aC,.o 35 (aq (e-(jF m e p)) ((e-(jF m e p)).toNat:Int) aC),.c (xJ m ((e-(jF m e p)).toNat:Nat) aC aC aC)]<|.e (af [.o 9 (.e (.ji (by rw[show pg m e p=_ from bB m1])):aj (ik (ij (m*2^((e-(jF m e p)).toNat)))) (ik (ij (pg m e p)))),tB 10 (by simp[tg,m1]:more=(tg m e more p))]))
    (λm1=>ae [.v 29 (.bool (bD m1)),iF ((jF m e p)-e) aC,.o 43 (aq ((jF m e p)-e) (((jF m e p)-e).toNat:Int) aC),.c (Qk m (((jF m e p)-e).toNat:Nat) aC aC)]<|.w (more=true)
     (λm2=>ae [tB 48 m2]<|.e (af [.o 9 (.e (.ji (by rw[show pg m e p=_ from bA m1])):aj (ik (ij (m/2^(((jF m e p)-e).toNat)))) (ik (ij (pg m e p)))),tB 10 (by simp[tg,m1,m2]:true=(tg m e more p))]))
     (λm2=>ae [tB 48 (bt m2)]<|.e (af [.o 9 (.e (.ji (by rw[show pg m e p=_ from bA m1])):aj (ik (ij (m/2^(((jF m e p)-e).toNat)))) (ik (ij (pg m e p)))),tB 10 (by simp[tg,m1,m2]:(decide (m%2^(((jF m e p)-e).toNat)≠0))=(tg m e more p))])))),ag [ik (ij (pg m e p))] (ue _ aC),iF ((iB (pg m e p):Int)+(jF m e p)) aC]<|.w (16384<((iB (pg m e p):Int)+(jF m e p)))
   (λk1=>by
    have w1:=(xt.resolve_left (λh=>absurd k1 aC)).2.resolve_left (λh=>absurd h.1 aE);have hd:oR (canon false ((1*2^p)-1) (16384-(p:Int))):=by rw[cv,<-w1.2.1];exact(uA false m e more p false aC aC).range
    have g0:iB (1*2^p)=p+1:=by rw[cv];exact Aj (bF _) (apt aE aC)
    have g1:(ij 1).length<=256:=pY aE;have g2:(ij (1*2^p)).length<=256:=pY aC;have g4:1<=1*2^p:=by rw[cv];exact bL aE 
    have g3:(ij ((1*2^p)-1)).length<=256:=pY (by have:=xS (fA (1*2^p) 1);omega);exact ae [tB 66 (bC k1),.o 70 (.e zQ:aj Q9 (ik (ij 1))),.c (xJ 1 p aC aC aC),.o 73 (.e zQ:aj Q9 (ik (ij 1))),ag [ik (ij (1*2^p)),ik (ij 1)] (Ig _ _ aC aC aC),iF (16384-(p:Int)) aC,ag [bP false,ik (ij ((1*2^p)-1)),iP (16384-(p:Int))] (CZ _ _ _ aC aC aC aD)]<|rQ (.iE [iz (canon false ((1*2^p)-1) (16384-(p:Int))),iP 0]) (.iE [iz (kI false m e more p false),iP (kp false m e more p false)]) (by rw[w1.2.1,w1.2.2,cv]))
   (λk1=>by
    have w1:=xt.resolve_right (λh=>k1 h.1);have hd:oR (canon false (pg m e p) (jF m e p)):=by rw[<-w1.2.1];exact(uA false m e more p false aC aC).range
    exact ae [tB 66 (bD k1),ag [bP false,ik (ij (pg m e p)),iP (jF m e p)] (CZ _ _ _ aC aC aC aD)]<|rQ (.iE [iz (canon false (pg m e p) (jF m e p)),iP 0]) (.iE [iz (kI false m e more p false),iP (kp false m e more p false)]) (by rw[w1.2.1,w1.2.2]))) 
def akC(up:Bool)(p:Nat)(iA:8<=p)(im:p<=512):ie 285 [.agg [ik (ij 0),iP 0,bP false],iP (p:Int),bP up] (.iE [iz (kI false 0 0 false p up),iP (kp false 0 0 false p up)]):=by
 have hU:jF 0 0 p = -(p:Int):=by unfold jF;rw[tE];omega
 have hK:ko 0 0 p=0:=by unfold ko;rw[tE];omega
 have hQ:lR 0 0 false p up=0:=by unfold lR;rw[hK];simp
 have hO:mW 0 0 false p up=false:=by unfold mW;rw[hQ];simp
 have qE:(false != up)=up:=by cases up<;>rfl
 have k2:kI false 0 0 false p up=iS:=by unfold kI;rw[qE,hO,bA aE,hQ];rfl
 have k3:kp false 0 0 false p up=0:=by unfold kp;rw[qE,hO];rfl
 have lz:iB 0=0:=rfl;have l0:(ij 0).length<=256:=by rw[oV];decide
 have l1:(ij (0*2^(0-jF 0 0 p).toNat)).length<=256:=by rw[dc];exact l0
 have lb:iB (0*2^(0-jF 0 0 p).toNat)=0:=by rw[dc];rfl
 have hd:oR (canon false (0*2^(0-jF 0 0 p).toNat) (jF 0 0 p)):=by rw[dc];exact .inl rfl
 by_cases Vq:up=true
 .exact ak call285 func285 (ae [ag [ik (ij 0)] (ue _ aC),iF (0+(iB 0:Int)) aC,iF ((0+(iB 0:Int))-(p:Int)) aC,.o 21 (aq (if(-16384)>((0+(iB 0:Int))-(p:Int))then(-16384)else((0+(iB 0:Int))-(p:Int))) (jF 0 0 p) (by unfold jF;rw[tE];split<;>omega)),tT 29 ((jF 0 0 p)<=0) aC,iF (0-(jF 0 0 p)) aC,.o 35 (aq (0-(jF 0 0 p)) ((0-(jF 0 0 p)).toNat:Int) aC),.c (xJ 0 ((0-(jF 0 0 p)).toNat:Nat) aC aC aC),ah 52 up Vq,ag [L5 p] (ue _ aC),
   iF ((iB (0*2^((0-(jF 0 0 p)).toNat)):Int)+(jF 0 0 p)) aC,tF 66 (16384<((iB (0*2^((0-(jF 0 0 p)).toNat)):Int)+(jF 0 0 p))) aC,ag [bP false,L5 p,iP (jF 0 0 p)] (CZ _ _ _ aC aC aC aD)]<|rQ (.iE [iz (canon false (0*2^((0-(jF 0 0 p)).toNat)) (jF 0 0 p)),iP 0]) (.iE [iz (kI false 0 0 false p up),iP (kp false 0 0 false p up)]) (by rw[k2,k3,dc];rfl)) 
 .exact ak call285 func285 (ae [ag [ik (ij 0)] (ue _ aC),iF (0+(iB 0:Int)) aC,iF ((0+(iB 0:Int))-(p:Int)) aC,.o 21 (aq (if(-16384)>((0+(iB 0:Int))-(p:Int))then(-16384)else((0+(iB 0:Int))-(p:Int))) (jF 0 0 p) (by unfold jF;rw[tE];split<;>omega)),tT 29 ((jF 0 0 p)<=0) aC,iF (0-(jF 0 0 p)) aC,.o 35 (aq (0-(jF 0 0 p)) ((0-(jF 0 0 p)).toNat:Int) aC),.c (xJ 0 ((0-(jF 0 0 p)).toNat:Nat) aC aC aC),ai 52 up (by simpa using Vq),ag [L5 p] (ue _ aC),
   iF ((iB (0*2^((0-(jF 0 0 p)).toNat)):Int)+(jF 0 0 p)) aC,tF 66 (16384<((iB (0*2^((0-(jF 0 0 p)).toNat)):Int)+(jF 0 0 p))) aC,ag [bP false,L5 p,iP (jF 0 0 p)] (CZ _ _ _ aC aC aC aD)]<|rQ (.iE [iz (canon false (0*2^((0-(jF 0 0 p)).toNat)) (jF 0 0 p)),iP 0]) (.iE [iz (kI false 0 0 false p up),iP (kp false 0 0 false p up)]) (by rw[k2,k3,dc];rfl)) 
def FG(m:Nat)(e:Int)(more up:Bool)(p:Nat)(h1:(ij m).length<=256)(h0:m≠0\/m=0/\e=0/\more=false)(iA:8<=p)(im:p<=512)(mP:-45000<=e)(lZ:e<=45000)(hm:more=true->p<iB m):ie 285 [.agg [ik (ij m),iP e,bP more],iP (p:Int),bP up] (.iE [iz (kI false m e more p up),iP (kp false m e more p up)]):=by
 rcases h0 with h0|⟨rfl,rfl,rfl⟩
 .exact akB m e more up p h1 h0 iA im mP lZ hm
 .exact akC up p iA im
def nm(p:Int):Bool:=decide (8<=p)&&decide (p<=512)
def vK{p:Int}:nm p=true↔8<=p/\p<=512:=by simp[nm]
def wI(p:Int):ie 144 [iP p] (bP (nm p)):=by
 by_cases h:8<=p
 .exact ak call144 func144 (ae [tB 4 (bC h)]<|rQ (bP (decide (p<=512))) (bP (nm p)) (by simp[nm,h])) 
 .exact ak call144 func144 (ae [tB 4 (bD h)]<|rQ (bP false) (bP (nm p)) (by simp[nm,h])) 
def akF(p:Int):ie 281 [iP p] (bP (nm p)):=by
 by_cases h:8<=p
 .exact ak call281 func281 (ae [tB 4 (bC h)]<|rQ (bP (decide (p<=512))) (bP (nm p)) (by simp[nm,h])) 
 .exact ak call281 func281 (ae [tB 4 (bD h)]<|rQ (bP false) (bP (nm p)) (by simp[nm,h])) 
def Yo(l:List Dy)(p:Nat)(i:Nat):PS:=⟨20,true,[(9,.e (iP i)),(8,.e (iP l.length)),(7,.e (oD l)),(0,.e (iP p))],[]⟩
def IA(neg:Bool)(m:Nat)(e:Int)(more up:Bool)(p:Nat)(h1:(ij m).length<=256)(h0:m≠0\/m=0/\e=0/\more=false)(iA:8<=p)(im:p<=512)(mP:-45000<=e)(lZ:e<=45000)(hm:more=true->p<iB m):ie 250 [bP neg,.agg [ik (ij m),iP e,bP more],iP p,bP up] (.iE [iz (kI neg m e more p up),iP (kp neg m e more p up)]):=by
 cases neg with
 |true=>
  have hs:=S3 true m e more p up;change _/\(kp false m e more p (!(up==true))=0->_->iO (kI false m e more p (!(up==true)))=_)/\((kp false m e more p (!(up==true))≠0\/_)->kI false m e more p (!(up==true))=_)at hs;have hE:kp true m e more p up=kp false m e more p (!(up==true)):=hs.1;have hv:=uA false m e more p (!(up==true)) (aC:1<=p) aC;by_cases hz:kp false m e more p (!(up==true))=0
  .exact ak call250 func250 (ae [ag [.agg [ik (ij m),iP e,bP more],iP p,bP (!(up==true))] (FG _ _ _ _ _ aC aD aC aC aC aC aD),ah 22 ((kp false m e more p (!(up==true)))==0) (by rw[hz];rfl),ag [iz (kI false m e more p (!(up==true)))] (ve _ aD)]<|rQ (.iE [iz (iO (kI false m e more p (!(up==true)))),iP (kp false m e more p (!(up==true)))]) (.iE [iz (kI true m e more p up),iP (kp true m e more p up)]) (by rw[hs.2.1 hz rfl,hE])) 
  .exact ak call250 func250 (ae [ag [.agg [ik (ij m),iP e,bP more],iP p,bP (!(up==true))] (FG _ _ _ _ _ aC aD aC aC aC aC aD),ai 22 ((kp false m e more p (!(up==true)))==0) (by simpa using hz)]<|rQ (.iE [iz (kI false m e more p (!(up==true))),iP (kp false m e more p (!(up==true)))]) (.iE [iz (kI true m e more p up),iP (kp true m e more p up)]) (by rw[hs.2.2 (.inl hz),hE])) 
 |false=>
  have hs:=S3 false m e more p up;change _/\(kp false m e more p (!(up==false))=0->_->iO (kI false m e more p (!(up==false)))=_)/\((kp false m e more p (!(up==false))≠0\/_)->kI false m e more p (!(up==false))=_)at hs;have hE:kp false m e more p up=kp false m e more p (!(up==false)):=hs.1;have hv:=uA false m e more p (!(up==false)) (aC:1<=p) aC;by_cases hz:kp false m e more p (!(up==false))=0
  .exact ak call250 func250 (ae [ag [.agg [ik (ij m),iP e,bP more],iP p,bP (!(up==false))] (FG _ _ _ _ _ aC aD aC aC aC aC aD),ah 22 ((kp false m e more p (!(up==false)))==0) (by rw[hz];rfl)]<|rQ (.iE [iz (kI false m e more p (!(up==false))),iP (kp false m e more p (!(up==false)))]) (.iE [iz (kI false m e more p up),iP (kp false m e more p up)]) (by rw[hs.2.2 (.inr rfl),hE])) 
  .exact ak call250 func250 (ae [ag [.agg [ik (ij m),iP e,bP more],iP p,bP (!(up==false))] (FG _ _ _ _ _ aC aD aC aC aC aC aD),ai 22 ((kp false m e more p (!(up==false)))==0) (by simpa using hz)]<|rQ (.iE [iz (kI false m e more p (!(up==false))),iP (kp false m e more p (!(up==false)))]) (.iE [iz (kI false m e more p up),iP (kp false m e more p up)]) (by rw[hs.2.2 (.inl hz),hE])) 
def akE(d:Dy):ie 282 [iz d] (.agg [ik (ij d.m),iP d.e,bP false]):=
 ak call282 func282 (.nil) 
def Yp(p:Nat)(l:List Dy)(hl:l.length<=1000)(hv:∀ i,i<l.length->(l.getD i iS).ix)(iA:8<=p)(im:p<=512):ie 247 [iP p,oD l] (iP 0):=
 ak call247 func247 (af [.s (Sp.jT (Yo l p) 0 l.length aC (λi hi nP=>by
    have Vv:=hv i nP;exact iL (af [tT 10 ((i:Int)<l.length) aC,iX (i:Int) (l.length) aC,ag [iz (l.getD i iS)] (sT _ aD),iF ((i:Int)+1) aC]) aF)
  (λhi=>by
    exact iL (af [tF 10 ((l.length:Int)<l.length) aC]) aF) aI:jS 2 f247 (Yo l p 0) (.exit 0) ⟨20,true,[(0,.e (iP p))],[]⟩) .nil,ag [iP p] (akF _),ah 18 (nm (p:Int)) (vK.2 ⟨aC,aC⟩)]) 
def Qj(p:Nat)(a:Dy)(ha:a.ix)(iA:8<=p)(im:p<=512):ie 247 [iP (p:Int),oD [a]] (iP 0):=
 Yp p [a] aH (λi hi=>(match i,hi with
  | 0,_=>ha
  |n+1,hi=>absurd hi aH)) iA im
def yN(p:Nat)(a b:Dy)(ha:a.ix)(hb:b.ix)(iA:8<=p)(im:p<=512):ie 247 [iP (p:Int),oD [a,b]] (iP 0):=
 Yp p [a,b] aH (λi hi=>(match i,hi with
  | 0,_=>ha
  | 1,_=>hb
  |n+2,hi=>absurd hi aH)) iA im
def Lg(d:Dy)(p:Nat)(up:Bool)(hd:d.ix)(iA:8<=p)(im:p<=512):ie 248 [iz d,iP p,bP up] (.iE [iz (iM d p up),iP (jY d p up)]):=by
 have hl:=hd.ij;have hz:d.m≠0\/d.m=0/\d.e=0/\false=false:=by
  by_cases h:d.m=0
  .rcases hd.canon with q|q
   .exact .inr ⟨h,q.2.2,rfl⟩
   .omega
  .exact .inl h
 have KB:-45000<=d.e:=by have:=hd.exp;omega
 have wE:d.e<=45000:=by have:=hd.exp;omega
 have hm:false=true->p<iB d.m:=λh=>by cases h
 exact ak call248 func248 (af [.o 11 (.e (Nk _):aj (.sl true 1 3 λi_ j_=>(jg d).getD (i_*3+j_) (.v (.bool false))) (oD [d])),ag [iP p,oD [d]] (Qj _ _ aD aC aC),ai 14 ((0:Int) != 0) aE,.c (akE d),.c (IA d.neg d.m d.e false up p aC aD aC aC aC aC aD)]) 
def EF{a b:Nat}:lp a b<0↔a<b:=by
 unfold lp;split
 .simp_all
 .split<;>simp_all
def Lh(a b:Dy)(p:Nat)(ha:a.ix)(hb:b.ix)(a0:a.m≠0)(b0:b.m≠0)(ht:b.iI<=a.iI)(iA:8<=p)(im:p<=512):ie 249 [iz a,iz b,iP p] (.iE [.agg [ik (ij (mH a b p)),iP (jI a b p),bP (od a b p)],bP (qv a b p)]):=by
 have sz:=LS ha hb a0 b0 ht im;have sp:=QZ ha hb a0 b0 ht im;obtain⟨l1,l2,l3,l4,l5,l6,l7,l8,l9⟩:=sz;obtain⟨l10,l11,l12⟩:=sp;obtain⟨r1,r2,r3⟩:=Qw a b p;have va:=ha.ij;have vb:=hb.ij;have xa:=ha.exp;have xb:=hb.exp;have ta:=IY a0;have tb:=IY b0;have ba:=CT va;have bb:=CT vb;have z1:(ij (a.m*2^((a.e-(jI a b p)).toNat))).length<=256:=pY (aC:iB (oX a b p)<=_);have zy:(ij (nE b (jI a b p))).length<=256:=pY aC;have z3:(ij (nD a b p)).length<=256:=pY aC;have zm:(ij (mH a b p)).length<=256:=pY aC;have z5:(ij 1).length<=256:=pY aE;exact ak call249 func249 (ae [ag [iz a] (pU _ aD),iF ((Dy.iI a)-(p:Int)) aC,iF (((Dy.iI a)-(p:Int))-8) aC,ag [iz a] (pU _ aD),ag [iz b] (pU _ aD),iF ((Dy.iI a)-(Dy.iI b)) aC,.j 62 ⟨109,true,[(8,.e (iP (jI a b p))),(6,.box 6 0),(4,.box 4 0),(3,.box 3 0)],[(6,.cells 215 [.v (.slice none 0 0),iP 0,bP false]),(4,.cells 31 (jg b)),(3,.cells 31 (jg a))]⟩
   (.w (((Dy.iI a)-(Dy.iI b))<=2)
    (λm1=>ae [.v 31 (.bool (bC m1))]<|.e (af [.o 8 (aq (if b.e<(if(((Dy.iI a)-(p:Int))-8)<a.e then(((Dy.iI a)-(p:Int))-8)else a.e)then b.e else(if(((Dy.iI a)-(p:Int))-8)<a.e then(((Dy.iI a)-(p:Int))-8)else a.e)) (jI a b p) (by unfold jI;rw[bB m1];split<;>split<;>omega))]))
    (λm1=>ae [.v 31 (.bool (bD m1))]<|.e (af [.o 8 (aq (if(((Dy.iI a)-(p:Int))-8)<a.e then(((Dy.iI a)-(p:Int))-8)else a.e) (jI a b p) (by unfold jI;rw[bA m1];split<;>omega))]))),
  iF (a.e-(jI a b p)) aC,.o 41 (aq (a.e-(jI a b p)) ((a.e-(jI a b p)).toNat:Int) aC),.c (xJ a.m ((a.e-(jI a b p)).toNat) aC aC aC),.j 92 ⟨109,true,[(10,.e (ik (ij (nE b (jI a b p))))),(11,.e (bP (oG b (jI a b p)))),(9,.e (ik (ij (a.m*2^((a.e-(jI a b p)).toNat))))),(8,.e (iP (jI a b p))),(6,.box 6 0),(4,.box 4 0),(3,.box 3 0)],[(6,.cells 215 [.v (.slice none 0 0),iP 0,bP false]),(4,.cells 31 (jg b)),(3,.cells 31 (jg a))]⟩
   (.w ((jI a b p)<=b.e)
    (λm1=>by
     have z2:(ij (b.m*2^((b.e-(jI a b p)).toNat))).length<=256:=by have:=zy;rwa[show nE b (jI a b p)=_ from bB m1]at this
     exact ae [.v 46 (.bool (bC m1)),iF (b.e-(jI a b p)) aC,.o 52 (aq (b.e-(jI a b p)) ((b.e-(jI a b p)).toNat:Int) aC),.c (xJ b.m ((b.e-(jI a b p)).toNat) aC aC aC)]<|.e (af [.o 10 (.e (.ji (by rw[show nE b (jI a b p)=_ from bB m1])):aj (ik (ij (b.m*2^((b.e-(jI a b p)).toNat)))) (ik (ij (nE b (jI a b p))))),tB 11 (by simp[oG,m1]:false=(oG b (jI a b p)))]))
    (λm1=>ae [.v 46 (.bool (bD m1)),iF ((jI a b p)-b.e) aC,.o 60 (aq ((jI a b p)-b.e) (((jI a b p)-b.e).toNat:Int) aC),.c (Qk b.m (((jI a b p)-b.e).toNat) aC aC)]<|.e (af [.o 10 (.e (.ji (by rw[show nE b (jI a b p)=_ from bA m1])):aj (ik (ij (b.m/2^(((jI a b p)-b.e).toNat)))) (ik (ij (nE b (jI a b p))))),tB 11 (by simp[oG,m1]:(decide (b.m%2^(((jI a b p)-b.e).toNat)≠0))=(oG b (jI a b p)))])))]<|.w (a.neg=b.neg)
  (λk1=>by
   have eT:qv a b p=false:=by unfold qv;simp[k1]
   have eY:nD a b p=nE b (jI a b p):=by unfold nD;simp[k1]
   have eM:mH a b p=oX a b p+nE b (jI a b p):=by unfold mH;rw[bB k1,eY]
   have eS:od a b p=oG b (jI a b p):=by unfold od;rw[eT];simp
   have z4:(ij ((a.m*2^((a.e-(jI a b p)).toNat))+nE b (jI a b p))).length<=256:=by have:=zm;rwa[eM]at this
   exact ae [tB 68 (bn k1),ag [ik (ij (a.m*2^((a.e-(jI a b p)).toNat))),ik (ij (nE b (jI a b p)))] (KN _ _ aC aC aC)]<|rQ (.iE [.agg [ik (ij ((a.m*2^((a.e-(jI a b p)).toNat))+(nE b (jI a b p)))),iP (jI a b p),bP (oG b (jI a b p))],bP false]) (.iE [.agg [ik (ij (mH a b p)),iP (jI a b p),bP (od a b p)],bP (qv a b p)]) (by rw[eM,eS,eT];rfl))
  (λk1=>ae [tB 68 (bk k1),.j 158 ⟨109,true,[(10,.e (ik (ij (nD a b p)))),(11,.e (bP (oG b (jI a b p)))),(9,.e (ik (ij (a.m*2^((a.e-(jI a b p)).toNat))))),(8,.e (iP (jI a b p))),(6,.box 6 0)],[(6,.cells 215 [.v (.slice none 0 0),iP 0,bP false])]⟩
   (.w (oG b (jI a b p)=true)
    (λm1=>by
     have z6:(ij ((nE b (jI a b p))+1)).length<=256:=pY (by rw[show(nE b (jI a b p))+1=nD a b p by(unfold nD;simp[k1,m1])];omega);exact ae [.v 79 (.bool m1),.o 82 (.e zQ:aj (.sl false 1 1 λi_ j_=>[.v (.int .u32 1)].getD (i_*1+j_) (.v (.bool false))) (ik (ij 1))),ag [ik (ij (nE b (jI a b p))),ik (ij 1)] (KN _ _ aC aC aC)]<|.e (af [.o 10 (.e (.ji (by unfold nD;simp[k1,m1])):aj (ik (ij ((nE b (jI a b p))+1))) (ik (ij (nD a b p))))]))
    (λm1=>ae [.v 79 (.bool (bt m1))]<|.e (af [.o 10 (.e (.ji (by unfold nD;simp[k1,m1])):aj (ik (ij (nE b (jI a b p)))) (ik (ij (nD a b p))))]))),ag [ik (ij (a.m*2^((a.e-(jI a b p)).toNat))),ik (ij (nD a b p))] (AW _ _ aC aC)]<|.w ((lp (a.m*2^((a.e-(jI a b p)).toNat)) (nD a b p))<0)
   (λk2=>by
    have hc:oX a b p<nD a b p:=EF.1 k2;have eT:qv a b p=true:=by unfold qv;simp[k1,hc]
    have eM:mH a b p=nD a b p-oX a b p:=by unfold mH;rw[bA k1,bB hc]
    have eS:od a b p=false:=by unfold od;rw[eT];simp
    have z4:(ij (nD a b p-(a.m*2^((a.e-(jI a b p)).toNat)))).length<=256:=by have:=zm;rwa[eM]at this
    have z7:(a.m*2^((a.e-(jI a b p)).toNat))<=nD a b p:=dU hc;exact ae [tB 89 (bC k2),ag [ik (ij (nD a b p)),ik (ij (a.m*2^((a.e-(jI a b p)).toNat)))] (Ig _ _ aC aC aC)]<|rQ (.iE [.agg [ik (ij ((nD a b p)-(a.m*2^((a.e-(jI a b p)).toNat)))),iP (jI a b p),bP false],bP true]) (.iE [.agg [ik (ij (mH a b p)),iP (jI a b p),bP (od a b p)],bP (qv a b p)]) (by rw[eM,eS,eT];rfl))
   (λk2=>by
    have hc:¬oX a b p<nD a b p:=λh=>k2 (EF.2 h)
    have eT:qv a b p=false:=by unfold qv;simp[hc]
    have eM:mH a b p=oX a b p-nD a b p:=by unfold mH;rw[bA k1,bA hc]
    have eS:od a b p=oG b (jI a b p):=by unfold od;rw[eT];simp
    have z4:(ij ((a.m*2^((a.e-(jI a b p)).toNat))-nD a b p)).length<=256:=by have:=zm;rwa[eM]at this
    have z7:nD a b p<=(a.m*2^((a.e-(jI a b p)).toNat)):=Nat.le_of_not_lt hc;exact ae [tB 89 (bD k2),ag [ik (ij (a.m*2^((a.e-(jI a b p)).toNat))),ik (ij (nD a b p))] (Ig _ _ aC aC aC)]<|rQ (.iE [.agg [ik (ij ((a.m*2^((a.e-(jI a b p)).toNat))-(nD a b p))),iP (jI a b p),bP (oG b (jI a b p))],bP false]) (.iE [.agg [ik (ij (mH a b p)),iP (jI a b p),bP (od a b p)],bP (qv a b p)]) (by rw[eM,eS,eT];rfl)))) 
def Cv(p:Nat)(up:Bool):iM iS p up=iS/\jY iS p up=0:=by
 have hK:ko 0 0 p=0:=by unfold ko;rw[tE];omega
 have hQ:∀ o,lR 0 0 false p o=0:=by intro o;unfold lR;rw[hK];simp
 have hO:∀ o,mW 0 0 false p o=false:=by intro o;unfold mW;rw[hQ];simp
 unfold iM jY kI kp;simp only[iS,hO,hQ];exact⟨rfl,rfl⟩
def Yk(a b:Dy)(p:Nat)(up:Bool)(ha:a.ix)(hb:b.ix)(iA:8<=p)(im:p<=512):ie 203 [iz a,iz b,iP p,bP up] (.iE [iz (iM (iH a b) p up),iP (jY (iH a b) p up)]):=by
 by_cases a0:a.m=0
 .have e1:iH a b=b:=by unfold iH;rw[bB a0]
  exact ak call203 func203 (ae [.o 16 (.e (xX _ _):aj (.sl true 2 3 λi_ j_=>(jg a++jg b).getD (i_*3+j_) (.v (.bool false))) (oD [a,b])),ag [iP p,oD [a,b]] (yN _ _ _ aD aD aC aC),ai 19 ((0:Int) != 0) aE,ah 26 (((ij a.m).length:Int)==0) (wM (vz.2 a0)),.c (Lg b p up aD aC aC)]<|rQ (.iE [iz (iM b p up),iP (jY b p up)]) (.iE [iz (iM (iH a b) p up),iP (jY (iH a b) p up)]) (by rw[e1])) 
 .by_cases b0:b.m=0
  .have e1:iH a b=a:=by unfold iH;rw[bA a0,bB b0]
   exact ak call203 func203 (ae [.o 16 (.e (xX _ _):aj (.sl true 2 3 λi_ j_=>(jg a++jg b).getD (i_*3+j_) (.v (.bool false))) (oD [a,b])),ag [iP p,oD [a,b]] (yN _ _ _ aD aD aC aC),ai 19 ((0:Int) != 0) aE,ai 26 (((ij a.m).length:Int)==0) (qa (rP a0)),ah 37 (((ij b.m).length:Int)==0) (wM (vz.2 b0)),.c (Lg a p up aD aC aC)]<|rQ (.iE [iz (iM a p up),iP (jY a p up)]) (.iE [iz (iM (iH a b) p up),iP (jY (iH a b) p up)]) (by rw[e1])) 
  .by_cases ht:a.iI<b.iI
   .have tU:a.iI<=b.iI:= aC ;have law:=aab (p:=p) hb ha b0 a0 up;have siz:=LS hb ha b0 a0 tU im;have prt:=QZ hb ha b0 a0 tU im;obtain⟨l1,l2,_,_,_,_,_,_,_⟩:=siz;have z1:(ij (mH b a p)).length<=256:=pY aC;have sI:=prt.2.2;have y1:-45000<=jI b a p:= aC ;have y2:jI b a p<=45000:= aC ;by_cases hz:mH b a p=0
    .by_cases hl:od b a p=true
     .have h0:mH b a p≠0:=by intro q;have:=sI hl;rw[q,tE]at this;omega
      exact absurd hz h0
     .replace hz:mH b a p=0/\od b a p=false:=⟨hz,by simpa using hl⟩
      have Fc:iH a b=iS:=by rw[Z9 a0 b0];exact law.1 hz
      exact ak call203 func203 (ae [.o 16 (.e (xX _ _):aj (.sl true 2 3 λi_ j_=>(jg a++jg b).getD (i_*3+j_) (.v (.bool false))) (oD [a,b])),ag [iP p,oD [a,b]] (yN _ _ _ aD aD aC aC),ai 19 ((0:Int) != 0) aE,ai 26 (((ij a.m).length:Int)==0) (qa (rP a0)),ai 37 (((ij b.m).length:Int)==0) (qa (rP b0)),ag [iz a] (pU _ aD),ag [iz b] (pU _ aD),tB 48 (bC ht),.c (Lh b a p aD aD aD aD aD aC aC),ah 61 (((ij (mH b a p)).length:Int)==0) (wM (vz.2 hz.1)),ai 64 (od b a p) hz.2,.o 67 (.e Bm:aj (.agg ar) (iz iS))]<|rQ (.iE [iz iS,iP 0]) (.iE [iz (iM (iH a b) p up),iP (jY (iH a b) p up)]) (by rw[Fc,(Cv p up).1,(Cv p up).2])) 
    .have h0:mH b a p≠0\/mH b a p=0/\jI b a p=0/\od b a p=false:=.inl hz;obtain⟨q1,q2⟩:=law.2 (λq=>hz q.1);rw[<-Z9 a0 b0]at q1 q2;exact ak call203 func203 (ae [.o 16 (.e (xX _ _):aj (.sl true 2 3 λi_ j_=>(jg a++jg b).getD (i_*3+j_) (.v (.bool false))) (oD [a,b])),ag [iP p,oD [a,b]] (yN _ _ _ aD aD aC aC),ai 19 ((0:Int) != 0) aE,ai 26 (((ij a.m).length:Int)==0) (qa (rP a0)),ai 37 (((ij b.m).length:Int)==0) (qa (rP b0)),ag [iz a] (pU _ aD),ag [iz b] (pU _ aD),tB 48 (bC ht),.c (Lh b a p aD aD aD aD aD aC aC),ai 61 (((ij (mH b a p)).length:Int)==0) (qa (rP hz)),.c (IA (! (b.neg==(qv b a p))) (mH b a p) (jI b a p) (od b a p) up p aC aD aC aC aC aC aD)]<|rQ (.iE [iz (kI (!(b.neg==(qv b a p))) (mH b a p) (jI b a p) (od b a p) p up),iP (kp (!(b.neg==(qv b a p))) (mH b a p) (jI b a p) (od b a p) p up)]) (.iE [iz (iM (iH a b) p up),iP (jY (iH a b) p up)]) (by rw[<-q1,<-q2];rfl)) 
   .have tU:b.iI<=a.iI:= aC ;have law:=aab (p:=p) ha hb a0 b0 up;have siz:=LS ha hb a0 b0 tU im;have prt:=QZ ha hb a0 b0 tU im;obtain⟨l1,l2,_,_,_,_,_,_,_⟩:=siz;have z1:(ij (mH a b p)).length<=256:=pY aC;have sI:=prt.2.2;have y1:-45000<=jI a b p:= aC ;have y2:jI a b p<=45000:= aC ;by_cases hz:mH a b p=0
    .by_cases hl:od a b p=true
     .have h0:mH a b p≠0:=by intro q;have:=sI hl;rw[q,tE]at this;omega
      exact absurd hz h0
     .replace hz:mH a b p=0/\od a b p=false:=⟨hz,by simpa using hl⟩
      have Fc:iH a b=iS:=by exact law.1 hz
      exact ak call203 func203 (ae [.o 16 (.e (xX _ _):aj (.sl true 2 3 λi_ j_=>(jg a++jg b).getD (i_*3+j_) (.v (.bool false))) (oD [a,b])),ag [iP p,oD [a,b]] (yN _ _ _ aD aD aC aC),ai 19 ((0:Int) != 0) aE,ai 26 (((ij a.m).length:Int)==0) (qa (rP a0)),ai 37 (((ij b.m).length:Int)==0) (qa (rP b0)),ag [iz a] (pU _ aD),ag [iz b] (pU _ aD),tB 48 (bD ht),.c (Lh a b p aD aD aD aD aD aC aC),ah 61 (((ij (mH a b p)).length:Int)==0) (wM (vz.2 hz.1)),ai 64 (od a b p) hz.2,.o 67 (.e Bm:aj (.agg ar) (iz iS))]<|rQ (.iE [iz iS,iP 0]) (.iE [iz (iM (iH a b) p up),iP (jY (iH a b) p up)]) (by rw[Fc,(Cv p up).1,(Cv p up).2])) 
    .have h0:mH a b p≠0\/mH a b p=0/\jI a b p=0/\od a b p=false:=.inl hz;obtain⟨q1,q2⟩:=law.2 (λq=>hz q.1);exact ak call203 func203 (ae [.o 16 (.e (xX _ _):aj (.sl true 2 3 λi_ j_=>(jg a++jg b).getD (i_*3+j_) (.v (.bool false))) (oD [a,b])),ag [iP p,oD [a,b]] (yN _ _ _ aD aD aC aC),ai 19 ((0:Int) != 0) aE,ai 26 (((ij a.m).length:Int)==0) (qa (rP a0)),ai 37 (((ij b.m).length:Int)==0) (qa (rP b0)),ag [iz a] (pU _ aD),ag [iz b] (pU _ aD),tB 48 (bD ht),.c (Lh a b p aD aD aD aD aD aC aC),ai 61 (((ij (mH a b p)).length:Int)==0) (qa (rP hz)),.c (IA (! (a.neg==(qv a b p))) (mH a b p) (jI a b p) (od a b p) up p aC aD aC aC aC aC aD)]<|rQ (.iE [iz (kI (!(a.neg==(qv a b p))) (mH a b p) (jI a b p) (od a b p) p up),iP (kp (!(a.neg==(qv a b p))) (mH a b p) (jI a b p) (od a b p) p up)]) (.iE [iz (iM (iH a b) p up),iP (jY (iH a b) p up)]) (by rw[<-q1,<-q2];rfl)) 
def Yq(a b:Dy)(p:Nat)(up:Bool)(ha:a.ix)(hb:b.ix)(iA:8<=p)(im:p<=512):ie 291 [iz a,iz b,iP p,bP up] (.iE [iz (iM (nC a b) p up),iP (jY (nC a b) p up)]):=by
 by_cases a0:a.m=0
 .have e1:nC a b=iS:=by unfold nC;rw[a0,dc];rfl
  exact ak call291 func291 (ae [.o 16 (.e (xX _ _):aj (.sl true 2 3 λi_ j_=>(jg a++jg b).getD (i_*3+j_) (.v (.bool false))) (oD [a,b])),ag [iP p,oD [a,b]] (yN _ _ _ aD aD aC aC),ai 19 ((0:Int) != 0) aE,ah 25 (((ij a.m).length:Int)==0) (wM (vz.2 a0)),.o 32 (.e Bm:aj (.agg ar) (iz iS))]<|rQ (.iE [iz iS,iP 0]) (.iE [iz (iM (nC a b) p up),iP (jY (nC a b) p up)]) (by rw[e1,(Cv p up).1,(Cv p up).2])) 
 .by_cases b0:b.m=0
  .have e1:nC a b=iS:=by unfold nC;rw[b0,cT];rfl
   exact ak call291 func291 (ae [.o 16 (.e (xX _ _):aj (.sl true 2 3 λi_ j_=>(jg a++jg b).getD (i_*3+j_) (.v (.bool false))) (oD [a,b])),ag [iP p,oD [a,b]] (yN _ _ _ aD aD aC aC),ai 19 ((0:Int) != 0) aE,ai 25 (((ij a.m).length:Int)==0) (qa (rP a0)),ah 30 (((ij b.m).length:Int)==0) (wM (vz.2 b0)),.o 32 (.e Bm:aj (.agg ar) (iz iS))]<|rQ (.iE [iz iS,iP 0]) (.iE [iz (iM (nC a b) p up),iP (jY (nC a b) p up)]) (by rw[e1,(Cv p up).1,(Cv p up).2])) 
  .have va:=ha.ij;have vb:=hb.ij;have xa:=ha.exp;have xb:=hb.exp;have ra:=ha.range.resolve_left a0;have rb:=hb.range.resolve_left b0;have bm:=acm a.m b.m;have z1:(ij (a.m*b.m)).length<=256:=pY aC;have m0:a.m*b.m≠0:=dY a0 b0;have h0:a.m*b.m≠0\/a.m*b.m=0/\a.e+b.e=0/\false=false:=.inl m0;have hm:false=true->p<iB (a.m*b.m):=λh=>by cases h
   obtain⟨q1,q2⟩:=YQ (a.neg != b.neg) up (a.m*b.m) (a.e+b.e) p m0;change iM (nC a b) p up=_ at q1;change jY (nC a b) p up=_ at q2;exact ak call291 func291 (ae [.o 16 (.e (xX _ _):aj (.sl true 2 3 λi_ j_=>(jg a++jg b).getD (i_*3+j_) (.v (.bool false))) (oD [a,b])),ag [iP p,oD [a,b]] (yN _ _ _ aD aD aC aC),ai 19 ((0:Int) != 0) aE,ai 25 (((ij a.m).length:Int)==0) (qa (rP a0)),ai 30 (((ij b.m).length:Int)==0) (qa (rP b0)),ag [ik (ij a.m),ik (ij b.m)] (AY _ _ aC aC aC),iF (a.e+b.e) aC,.c (IA (! (a.neg==b.neg)) (a.m*b.m) (a.e+b.e) false up p aC aD aC aC aC aC aD)]<|rQ (.iE [iz (kI (!(a.neg==b.neg)) (a.m*b.m) (a.e+b.e) false p up),iP (kp (!(a.neg==b.neg)) (a.m*b.m) (a.e+b.e) false p up)]) (.iE [iz (iM (nC a b) p up),iP (jY (nC a b) p up)]) (by rw[q1,q2];rfl)) 
def Yj(a b:Dy)(p:Nat)(ha:a.ix)(hb:b.ix)(iA:8<=p)(im:p<=512):ie 145 [iz a,iz b,iP p] (.iE [iz (iM (iH a b) p false),iP (jY (iH a b) p false)]):=
 ak call145 func145 (af [.c (Yk a b p false aD aD aC aC)]) 
def D6(a b:Dy)(p:Nat)(ha:a.ix)(hb:b.ix)(iA:8<=p)(im:p<=512):ie 136 [iz a,iz b,iP p] (.iE [iz (iM (iH a b) p true),iP (jY (iH a b) p true)]):=
 ak call136 func136 (af [.c (Yk a b p true aD aD aC aC)]) 
def Le(a b:Dy)(p:Nat)(ha:a.ix)(hb:b.ix)(iA:8<=p)(im:p<=512):ie 254 [iz a,iz b,iP p] (.iE [iz (iM (nC a b) p false),iP (jY (nC a b) p false)]):=
 ak call254 func254 (af [.c (Yq a b p false aD aD aC aC)]) 
def Lf(a b:Dy)(p:Nat)(ha:a.ix)(hb:b.ix)(iA:8<=p)(im:p<=512):ie 255 [iz a,iz b,iP p] (.iE [iz (iM (nC a b) p true),iP (jY (nC a b) p true)]):=
 ak call255 func255 (af [.c (Yq a b p true aD aD aC aC)]) 
end Go.Proofs.YtgdahmmlddfimaaGreatDoor
namespace Go.Proofs.YtgdahmmlddfimaaGreatDoor.Fp
def ah2{U V P q:Nat}(hP:0<P)(hV:9223372036854775808<=V/P)(hUV:U<4294967296*V)(h1:q<=4294967295)(h2:q<=U/P/(V/P))(h3:q=4294967295\/U/P/(V/P)<=q):
 U/V<=q/\q<=U/V+1:=by
 have N8:0<V/P:= aC ;have yd:0<V:=by
  apply ct;intro h;have:V=0:= aC ;rw[this,Nat.zero_div]at N8;omega
 have hVm:=c9 V P;have hVr:=bV V hP;have hUm:=c9 U P;have hUr:=bV U hP;constructor
 .
  rcases h3 with h3|h3
  .have:U/V<4294967296:=by rw[cS yd];exact hUV
   omega
  .refine bH ?_ h3;rw[dC N8,dC hP,bO];have h4:V/P*P<=V:=dD V P;exact bH (de _ h4) (dD U V)
 .
  have h4:q*(V/P)<=U/P:=(dC N8).1 h2;have h5:q*V<=q*(V/P)*P+q*P:=by
   have:V<=V/P*P+P:=by rw[bT];omega
   have:=de q this;rw[b9,<-bO]at this;exact this
  have h6:q*(V/P)*P<=U:=bH (bY P h4) (dD U P);have h7:(q+1)*P<=V/P*P:=bY P aC;have h8:V/P*P<=V:=dD V P;have h9:q*V<U+V:=by
   rw[cr,cv]at h7;omega
  apply ct;intro h;have sE:(U/V+2)*V<=q*V:=bY V aC;have sU:=c9 U V;have h12:=bV U yd;rw[cr,bT (U/V)]at sE;omega
def ad1{x v w third q rest:Nat}(hx:q*v+rest=x)(hq:q<=4294967295)(hw:w<4294967296)(hv:0<v)
 (h:4294967296<=rest\/q*w<=rest*4294967296+third):q<=(x*4294967296+third)/(v*4294967296+w):=by
 rw[dC aC,b9,<-hx];have e:q*(v*4294967296)=q*v*4294967296:=by rw[bO]
 rw[e,cr];rcases h with h|h
 .have h1:q*w<=4294967295*4294967295:=dR hq aC ;omega
 .omega
def S8{x v w third q rest:Nat}(hx:q*v+rest=x)(hv:0<v)(h:rest*4294967296+third<q*w):
 (x*4294967296+third)/(v*4294967296+w)<=q-1/\0<q/\(q-1)*v+(rest+v)=x:=by
 have hq:0<q:=by
  apply ct;intro h';have:q=0:= aC ;subst this;rw[dc]at h;omega
 obtain⟨r,rfl⟩:∃ r,q=r+1:=⟨q-1,aC⟩
 refine⟨?_,hq,?_⟩
 .have e1:(r+1)*(v*4294967296+w)=(r+1)*v*4294967296+(r+1)*w:=by rw[b9,<-bO]
  have e2:((r+1)*v+rest)*4294967296=(r+1)*v*4294967296+rest*4294967296:=cr _ _ _;have:(x*4294967296+third)/(v*4294967296+w)<r+1:=by
   have hd:0<v*4294967296+w:= aC ;have e4:x*4294967296=(r+1)*v*4294967296+rest*4294967296:=hx▸e2;refine(cS hd).2 ?_;rw[e1,e4];clear e1 e2 e4 hd hx hq;generalize (r+1)*v=a at *
   generalize (r+1)*w=z at *
   exact Nat.add_lt_add_left h _|>λh=>by rw[<-dq]at h;exact h
  omega
 .have e3:(r+1)*v=r*v+v:=apz r v;rw[fo];rw[e3]at hx;clear e3 h hq;generalize r*v=a at *
  omega
def ad3{x v w third:Nat}(hv:0<v)(ht:third<4294967296):(x*4294967296+third)/(v*4294967296+w)<=x/v:=by
 have h1:(x*4294967296+third)/(v*4294967296+w)<=(x*4294967296+third)/(v*4294967296):=apA aC aC;refine bH h1 ?_;rw[bT v,<-dL];have:(x*4294967296+third)/4294967296=x:= aC ;rw[this];exact bF _
structure yX(O0:List Nat)(j q:Nat)(V:List Nat)(k:Nat)(O:List Nat)(c b:Nat):Prop where
 len:O.length=O0.length
 ok:iZ O
 vl:val O+q*(4294967296^j*val (V.take k))=val O0+4294967296^(j+k)*(c+b)
 rk:∀ i,j+k<=i->O.getD i 0=O0.getD i 0
 Ss:c<4294967296
 R9:b<=1
def yX.start{O0:List Nat}(h:iZ O0)(j q:Nat)(V:List Nat):yX O0 j q V 0 O0 0 0:=
 ⟨rfl,h,by simp[val],λ_ _=>rfl,aE,aE⟩
def anw{q y c b u:Nat}(hq:q<=4294967295)(hy:y<4294967296)(hc:c<4294967296)(hb:b<=1)(hu:u<4294967296):
 q*y+c<18446744073709551616/\(q*y+c)/4294967296<4294967296 /\
 ((u+18446744073709551616-(q*y+c)%4294967296-b)%18446744073709551616)/9223372036854775808<=1 /\
 ((u+18446744073709551616-(q*y+c)%4294967296-b)%18446744073709551616)%4294967296+(q*y+c)%4294967296+b =
  u+4294967296*(((u+18446744073709551616-(q*y+c)%4294967296-b)%18446744073709551616)/9223372036854775808):=by
 have h1:q*y<=4294967295*4294967295:=dR hq aC;generalize q*y=z at *
 omega
def yX.step{O0 V O:List Nat}{j q k c b:Nat}(h:yX O0 j q V k O c b){u' b':Nat}(hk:k<V.length)(hj:j+V.length<O0.length)(hu:u'<4294967296)(hc:(q*V.getD k 0+c)/4294967296<4294967296)(hb:b'<=1)
 (hd:u'+(q*V.getD k 0+c)%4294967296+b=O.getD (j+k) 0+4294967296*b'):
 yX O0 j q V (k+1) (O.set (j+k) u') ((q*V.getD k 0+c)/4294967296) b':=by
 have rf:j+k<O.length:=by rw[h.len];omega
 refine⟨by rw[dB];exact h.len,h.ok.set _ hu,?_,λi hi=>?_,hc,hb⟩
 .have e:=eP (q*V.getD k 0+c) 4294967296;have h1:=Eh (x:=u') rf;have h2:=h.vl;have h3:u'+(q*V.getD k 0+c)+b=O.getD (j+k) 0+4294967296*((q*V.getD k 0+c)/4294967296+b'):= aC ;have h4:=congrArg (4294967296^(j+k) * ·) h3;simp only[b9]at h4;rw[xN,b9 (4294967296^j),b9 q,<-bO (4294967296^j),<-bK,show q*(4294967296^(j+k)*V.getD k 0)=4294967296^(j+k)*(q*V.getD k 0)from eC _ _ _,
   show j+(k+1)=j+k+1 from rfl,bS,bO,b9 4294967296,b9 (4294967296^(j+k))]
  rw[b9]at h2;omega
 .rw [BQ aC];exact h.rk i aC 
def yX.Pn{O0 V O:List Nat}{j q c b:Nat}(h:yX O0 j q V V.length O c b)(hj:j+V.length<O0.length){t:Nat}
 (ht:t=(O.getD (j+V.length) 0+18446744073709551616-c-b)%18446744073709551616):
 (O.set (j+V.length) (t%4294967296)).length=O0.length/\iZ (O.set (j+V.length) (t%4294967296))/\t/9223372036854775808<=1 /\
 val (O.set (j+V.length) (t%4294967296))+q*(4294967296^j*val V)=val O0+4294967296^(j+V.length+1)*(t/9223372036854775808) /\
 ∀ i,j+V.length<i->(O.set (j+V.length) (t%4294967296)).getD i 0=O0.getD i 0:=by
 have rf:j+V.length<O.length:=by rw[h.len];omega
 have hc:=h.Ss;have hb:=h.R9;have hu:=h.ok.getD (j+V.length);have hd:t%4294967296+c+b=O.getD (j+V.length) 0+4294967296*(t/9223372036854775808):= aC ;refine⟨by rw[dB];exact h.len,h.ok.set _ (bV _ aE),aC,?_,λi hi=>by rw[BQ aC];exact h.rk i aC⟩;have h1:=Eh (x:=t%4294967296) rf;have h2:=h.vl;rw[eD]at h2;have h4:=congrArg (4294967296^(j+V.length) * ·) hd;simp only[b9]at h4;rw[bS,bO];rw[b9]at h2;omega
structure yV(O0:List Nat)(j:Nat)(V:List Nat)(k:Nat)(O:List Nat)(c:Nat):Prop where
 len:O.length=O0.length
 ok:iZ O
 vl:val O+4294967296^(j+k)*c=val O0+4294967296^j*val (V.take k)
 rk:∀ i,j+k<=i->O.getD i 0=O0.getD i 0
 MV:c<=1
def yV.start{O0:List Nat}(h:iZ O0)(j:Nat)(V:List Nat):yV O0 j V 0 O0 0:=
 ⟨rfl,h,by simp[val],λ_ _=>rfl,aE⟩
def yV.step{O0 V O:List Nat}{j k c:Nat}(h:yV O0 j V k O c)(hV:iZ V)(hk:k<V.length)(hj:j+V.length<O0.length):
 yV O0 j V (k+1) (O.set (j+k) ((O.getD (j+k) 0+V.getD k 0+c)%4294967296)) ((O.getD (j+k) 0+V.getD k 0+c)/4294967296):=by
 have rf:j+k<O.length:=by rw[h.len];omega
 have hu:=h.ok.getD (j+k);have hy:=hV.getD k;have hc:=h.MV;refine⟨by rw[dB];exact h.len,h.ok.set _ (bV _ aE),?_,λi hi=>by rw[BQ aC];exact h.rk i aC,aC⟩;have h1:=Eh (x:=(O.getD (j+k) 0+V.getD k 0+c)%4294967296) rf;have h2:=h.vl;have h4:=congrArg (4294967296^(j+k) * ·) (eP (O.getD (j+k) 0+V.getD k 0+c) 4294967296);simp only[b9]at h4;rw[xN,b9 (4294967296^j),<-bO (4294967296^j),<-bK,show j+(k+1)=j+k+1 from rfl,bS,bO];omega
def yV.Pn{O0 V O:List Nat}{j c:Nat}(h:yV O0 j V V.length O c)(hj:j+V.length<O0.length):
 (O.set (j+V.length) ((O.getD (j+V.length) 0+c)%4294967296)).length=O0.length/\iZ (O.set (j+V.length) ((O.getD (j+V.length) 0+c)%4294967296)) /\
 (∃ κ,κ<=1/\val (O.set (j+V.length) ((O.getD (j+V.length) 0+c)%4294967296))+4294967296^(j+V.length+1)*κ=val O0+4294967296^j*val V) /\
 ∀ i,j+V.length<i->(O.set (j+V.length) ((O.getD (j+V.length) 0+c)%4294967296)).getD i 0=O0.getD i 0:=by
 have rf:j+V.length<O.length:=by rw[h.len];omega
 have hu:=h.ok.getD (j+V.length);have hc:=h.MV;refine⟨by rw[dB];exact h.len,h.ok.set _ (bV _ aE),⟨(O.getD (j+V.length) 0+c)/4294967296,aC,?_⟩,λi hi=>by rw[BQ aC];exact h.rk i aC⟩;have h1:=Eh (x:=(O.getD (j+V.length) 0+c)%4294967296) rf;have h2:=h.vl;rw[eD]at h2;have h4:=congrArg (4294967296^(j+V.length) * ·) (eP (O.getD (j+V.length) 0+c) 4294967296);simp only[b9]at h4;rw[bS,bO];omega
def aaD{O:List Nat}(h:iZ O){k:Nat}(hz:∀ i,k<=i->O.getD i 0=0):val O<4294967296^k:=by
 by_cases hk:O.length<=k
 .exact ca (po h) (b5 aE hk)
 .rw [F0 O k aC];have:val (O.drop k)=0:=by
   rw[I1];intro x hx;obtain⟨i,hi⟩:=dI.1 hx;rw[dN]at hi;have:=hz (k+i) aC;rw[bE,hi]at this;exact this
  rw[this,cT,cg];have h1:=po (h.take k);rw[cF,dF aC]at h1;exact h1
def anQ{O:List Nat}(h:iZ O){k:Nat}(hv:val O<4294967296^k){i:Nat}(hi:k<=i):O.getD i 0=0:=by
 have h1:val (O.drop k)=0:=by rw[I0 h,dx hv]
 rw[I1]at h1;rw[bE];cases hg:O[i]? with
 |none=>rfl
 |some x=>exact h1 x (dI.2 ⟨i-k,by rw[dN,(aC:k+(i-k)=i)];exact hg⟩)
def S9{u u' V P x:Nat}(hP:0<P)(hV:0<V)(h:u'+x*(P*V)=u)(hx:u/P/V<=x):x=u/P/V/\u'<V*P:=by
 have h1:x*V<=u/P:=by
  rw[dC hP,bO,bT V P];omega
 have h2:x<=u/P/V:=(dC hV).2 h1;have h3:x=u/P/V:= aC ;refine⟨h3,?_⟩;have e1:=c9 u P;have e2:=bV u hP;have e3:=c9 (u/P) V;have e4:=bV (u/P) hV;rw[<-h3]at e3;have e5:P*(u/P)=x*(P*V)+P*(u/P%V):=by
  rw[<-e3,b9,e3,bT V x,eC]
 have e6:P*(u/P%V)+P<=V*P:=by
  rw[bT V P,<-Nat.mul_succ];exact de P e4
 omega
def ad2{u u' u'' V P R x κ:Nat}(hP:0<P)(hV:0<V)(h:u'+x*(P*V)=u+R)(h':u'<R)(hx:x<=u/P/V+1)
 (hk:κ<=1) (h2:u''+R*κ=u'+P*V) (h3:u''<R):0<x/\x-1=u/P/V/\u''+(x-1)*(P*V)=u/\u''<V*P:=by
 have pd:u/P<x*V:=by
  rw[cS hP,bO,bT V P];omega
 have KB:u/P/V<x:=by rw[cS hV];exact pd
 have wE:x=u/P/V+1:=Nat.le_antisymm hx KB;obtain⟨y,hy⟩:∃ y,y=u/P/V:=⟨_,rfl⟩
 rw[<-hy]at wE;subst wE;rw[fo];have e0:(y+1)*(P*V)=y*(P*V)+P*V:=apz _ _;have e1:y*(P*V)<=u:=by
  have:y*V<=u/P:=by rw[hy];exact dD _ _
  have:=(dC hP).1 this;rw[bO,bT V P]at this;exact this
 have hκ:κ=1:=by
  apply ct;intro q;obtain rfl:κ=0:= aC ;omega
 subst hκ;have e2:u''+y*(P*V)=u:= aC ;exact⟨aC,hy,e2,(S9 hP hV e2 aC).2⟩
def uB(q rest third v w x:Nat):Prop:=rest+x*v<4294967296/\(rest+x*v)*4294967296+third<(q-x)*w
def S6{X q rest third v w:Nat}(hx:q*v+rest=X)(hq:q<=4294967295)(hv:2147483648<=v)(hw:w<4294967296):
 ∃ N,N<=2/\N<=q/\(∀ x,x<N->uB q rest third v w x)/\¬uB q rest third v w N/\q-N<=(X*4294967296+third)/(v*4294967296+w)/\(N=0\/(X*4294967296+third)/(v*4294967296+w)<=q-N):=by
 have stop:∀ {q' r':Nat},q'*v+r'=X->q'<=4294967295->¬(r'<4294967296/\r'*4294967296+third<q'*w)->q'<=(X*4294967296+third)/(v*4294967296+w):=fun {q' r'} h1 h2 h3=>
  ad1 h1 h2 hw aC (by
   by_cases hr:4294967296<=r'
   .exact .inl hr
   .refine .inr (Nat.le_of_not_lt λhn=>h3 ⟨Nat.lt_of_not_le hr,hn⟩))
 by_cases h0:uB q rest third v w 0
 .have g0:=h0;unfold uB at g0;rw[dc,cg,dQ]at g0;obtain⟨k1,k2,k3⟩:=S8 hx aC g0.2;by_cases h1:uB q rest third v w 1
  .have g1:=h1;unfold uB at g1;rw[cv]at g1;obtain⟨l1,l2,l3⟩:=S8 k3 aC g1.2;have h2:¬uB q rest third v w 2:=λh=>by unfold uB at h;omega
   refine⟨2,bF _,aC,λx hx=>?_,h2,?_,.inr l1⟩
   .obtain rfl|rfl:x=0\/x=1:= aC 
    .exact h0
    .exact h1
   .refine stop (r':=rest+v+v) l3 aC λh=> aC 
  .refine ⟨1,aE,k2,λx hx=>?_,h1,?_,.inr k1⟩
   .obtain rfl:x=0:= aC ;exact h0
   .unfold uB at h1;rw[cv]at h1;exact stop k3 aC h1
 .refine ⟨0,aE,cj _,λx hx=>absurd hx (bG x),h0,?_,.inl rfl⟩;unfold uB at h0;rw[dc,cg,dQ]at h0;exact stop hx hq h0
def aed{a b s q r:Nat}(hb:0<b)(h:r+b*2^s*q=a*2^s)(hr:r<b*2^s):q=a/b/\r=a%b*2^s:=by
 have hp:0<2^s:=bL aE;have h1:r%2^s=0:=by
  have:=congrArg (· % 2^s) h;simp only[gT]at this;rw[bO,eC,eN]at this;exact this
 obtain⟨t,ht⟩:∃ t,r=t*2^s:=⟨r/2^s,by rw[Nat.div_mul_cancel (Nat.dvd_of_mod_eq_zero h1)]⟩
 subst ht;have h2:(t+b*q)*2^s=a*2^s:=by rw[cr,<-h,gR]
 have h3:=aqa hp h2;have h4:t<b:=aqb hr;constructor
 .rw [<-h3,fF _ _ hb,dx h4,cD]
 .rw [<-h3,eN,cH h4]
def aaq{O:List Nat}(h:iZ O){j n:Nat}(hn:2<=n)(hz:∀ i,j+n<i->O.getD i 0=0):
 val O/4294967296^j/4294967296^(n-2)=(O.getD (j+n) 0*4294967296+O.getD (j+n-1) 0)*4294967296+O.getD (j+n-2) 0:=by
 rw[dL,<-bK,<-I0 h];have e:∀ (l:List Nat),iZ l->(∀ i,2<i->l.getD i 0=0)->val l=(l.getD 2 0*4294967296+l.getD 1 0)*4294967296+l.getD 0 0:=by
  intro l hl hz;rcases l with _|⟨a,_|⟨b,_|⟨c,l⟩⟩⟩
  .rfl
  .simp [val]
  .simp [val];omega
  .have:val l=0:=by
    rw[I1];intro x hx;obtain⟨i,hi⟩:=dI.1 hx;have:=hz (i+3) aC;rw[bE]at this;simp only[apJ,hi]at this;exact this
   simp[val,this];omega
 have g:∀ i,(O.drop (j+(n-2))).getD i 0=O.getD (j+(n-2)+i) 0:=λi=>by
  rw[bE,dN,bE]
 rw[e _ (h.drop _) (λi hi=>by rw[g];exact hz _ aC),g,g,g];rw[(aC:j+(n-2)+2=j+n),(aC:j+(n-2)+1=j+n-1),(aC:j+(n-2)+0=j+n-2)]
def anO{V:List Nat}(h:iZ V){n:Nat}(hn:2<=n)(hl:V.length=n):val V/4294967296^(n-2)=V.getD (n-1) 0*4294967296+V.getD (n-2) 0:=by
 have:=aaq (O:=V) h (j:=0) (n:=n) hn (λi hi=>by rw[bE,cz aC];rfl);rw[cU,fW,cD]at this;rw[this,show V.getD n 0=0 by rw[bE,cz aC];rfl];omega
end Go.Proofs.YtgdahmmlddfimaaGreatDoor.Fp
namespace Go.Proofs.YtgdahmmlddfimaaGreatDoor
open Go.RowKit Fp
def Rx(w:World)(b:Nat)(L:List Nat)(R:List Value):Prop:=w.heap[b]? = some (.cells (pn L++R).toArray 171 (0,0))
section
variable {w w':World} {b:Nat} {L:List Nat} {R:List Value}
def Rx.lt(h:Rx w b L R):b<w.heap.size:=(dr.1 h).1
def Rx.cell(h:Rx w b L R){i:Nat}(hi:i<L.length):w.cell? ⟨b,i,none⟩=some (.int .u32 (L.getD i 0:Int)):=by
 unfold Rx at h;simp only[World.cell?,h];simp[pn,hi,ew]
def Rx.frozen(h:Rx w b L R)(i:Nat):w.frozen? ⟨b,i,none⟩=false:=by
 unfold Rx at h;simp[World.frozen?,h]
def Rx.set(h:Rx w b L R){i:Nat}(hi:i<L.length)(x:Nat):Rx (w.setCell ⟨b,i,none⟩ (.int .u32 (x:Int))) b (L.set i x) R:=by
 unfold Rx at h ⊢;simp only[World.setCell,fH,h];simp[pn,List.map_set,List.set_append,hi]
def Rx.rk(h:Rx w b L R)(hb:w'.heap[b]? = w.heap[b]?):Rx w' b L R:=by unfold Rx at h ⊢;rw[hb];exact h
end
structure uo(b:Nat)(w w':World):Prop where
 below:Below b w w'
 size:w'.heap.size=w.heap.size
 pO:∀ x,x≠b->w'.heap[x]? = w.heap[x]?
def uo.refl(b:Nat)(w:World):uo b w w:=⟨Below.refl _ _,rfl,λ_ _=>rfl⟩
def uo.IM{b:Nat}{w w':World}(h:uo b w w')(i:Nat)(v:Value):uo b w (w'.setCell ⟨b,i,none⟩ v):=
 ⟨h.below.setCell (p:=⟨b,i,none⟩) (bF _) v,by
  have:(w'.setCell ⟨b,i,none⟩ v).heap.size=w'.heap.size:=by simp[World.setCell]
  rw[this,h.size],λx hx=>by
  rw[<-h.pO x hx];simp only[World.setCell,fH];rw[bA (λe=>hx e.symm)]⟩
def Ri(b:Nat)(A:Option Addr):Prop:=∀ b' o s,A=some ⟨b',o,s⟩->b'≠b
def Sl.pO{w w':World}{A:Option Addr}{c b:Nat}{L:List Nat}(h:Sl w A c L)(ha:Ri b A)(ho:uo b w w'):Sl w' A c L:=
 ⟨h.cap,h.rO,h.ok,h.zL,λi x hx=>by
  obtain⟨b',o,e,h1,h2⟩:=h.cell i x hx;refine⟨b',o,e,by rw[ho.size];exact h1,?_⟩;rw[<-h2];exact(World.cell?_of_block (w:=w) (w':=w') (ho.pO b' (ha _ _ _ e)))⟩
def aaR{u m b:Nat}(hm:m<4294967296)(hb:b<=4294967296):
 IntKind.u64.wrap (IntKind.u64.wrap ((u:Int)-m)-(b:Int))=(((u+18446744073709551616-m-b)%18446744073709551616:Nat):Int):=by
 rw[IntKind.wrap_u64,IntKind.wrap_u64];omega
def anv(b j cu c q:Nat)(O V:List Nat)(R:List Value)(A:Option Addr)(w:World)(hu:Rx w b O R)(hv:Sl w A c V)(hA:Ri b A)(mc:iZ O)(hj:j+V.length<O.length)(hq:q<=4294967295)(hl:O.length<=1000000):
 Calls prog 338 #[.slice (some ⟨b,j,none⟩) (V.length+1) cu,.slice A V.length c,.int .u64 q] w λe w'=>∃ (O':List Nat) (δ:Nat),e = .returned (.bool (decide (δ=1)))/\Rx w' b O' R/\O'.length=O.length/\iZ O'/\δ<=1 /\
  val O'+q*(4294967296^j*val V)=val O+4294967296^(j+V.length+1)*δ/\(∀ i,j+V.length<i->O'.getD i 0=O.getD i 0)/\uo b w w':=by
 obtain⟨n,hn⟩:∃ n,n=V.length:=⟨_,rfl⟩
 rw[<-hn]at hj ⊢;have HN:=aqi hn;have HJ:=aqi hj;clear hn;have jZ:n<=1000000:= aC ;have U5:j<=1000000:= aC ;clear hj;have HT0:=aqi (yX.start mc j q V);clear mc;have HO:=aqi (uo.refl b w);have HU:=aqi hu;clear hu;go_enter func338,ntmps338;go_wp2;go_loopw [7,8,9,10,11,12,16] (λcy bo _ _ _ _ i wr=>∃ (k c' b':Nat) (O':List Nat),k<=n/\i = .int .i64 k/\cy = .int .u64 c'/\bo = .int .u64 b'/\yX O j q V k O' c' b'/\Rx wr b O' R/\uo b w wr) (λ_ _ _ _ _ _ i _=>n-(intOf i).toNat)
 case atStart=>
  exact⟨0,0,0,O,cj _,rfl,rfl,rfl,HT0.out,HU.out,HO.out⟩
 case round=>
  obtain⟨k,c',b',O',hk,rfl,rfl,rfl,ht,hR,ho⟩:=hrel;clear HT0 HO HU;have HTk:=aqi ht;have lh:=ht.R9;have BX:=ht.Ss;have HOl:=aqi ht.len;clear ht;have OU:=hv.pO hA ho;by_cases iK:k<n
  .have AE:k<V.length:=by rw[<-HN.out];exact iK
   obtain⟨ab,ao,e1,_,c1⟩:=OU.mS AE;have rh:V.getD k 0<4294967296:=hv.ok.getD k;have VD:V[k]=V.getD k 0:=by simp[bE,AE]
   rw[VD]at c1;have rf:j+k<O'.length:=by rw[HOl.out];have:=HJ.out;omega
   have c2:=hR.cell rf;have c3:=hR.frozen (j+k);have Hf:O'.getD (j+k) 0<4294967296:=HTk.out.ok.getD _;obtain⟨wD,lj,Hb,Vj⟩:=anw hq rh BX lh Hf;have HST:=aqi (HTk.out.step (b':=((O'.getD (j+k) 0+18446744073709551616-(q*V.getD k 0+c')%4294967296-b')%18446744073709551616)/9223372036854775808) AE (by rw[<-HN.out];exact HJ.out) (bV _ aE) lj Hb Vj);have HRS:=aqi (λx:Nat=>hR.set rf x);have HOS:=aqi (λ(v:Value)=>ho.IM (j+k) v);clear hR ho HTk rf VD AE Vj HOl OU;subst e1;have pW:q*V.getD k 0<=4294967295*4294967295:=dR hq aC;have Dw:IntKind.u64.wrap ((q:Int)*(V.getD k 0:Int))=((q*V.getD k 0:Nat):Int):=by rw[<-fC];exact sR _ aC 
   generalize V.getD k 0=y at *
   generalize q*y=z at *
   have OV:IntKind.u64.wrap ((z:Int)+c')=((z+c':Nat):Int):=by rw[<-gJ];exact sR _ aC 
   generalize O'.getD (j+k) 0=u at *
   generalize z+c'=s at *
   have AF:bits .and .u64 (s:Int) 4294967295=((s%4294967296:Nat):Int):=by rw[Ai s aC];omega
   have ao7:s%4294967296<4294967296:=bV _ aE;have hd:(s:Int)/4294967296=((s/4294967296:Nat):Int):= aC ;generalize s%4294967296=m at *
   generalize s/4294967296=s2 at *
   have hsb:=aaR (u:=u) (m:=m) (b:=b') aC aC;generalize (u+18446744073709551616-m-b')%18446744073709551616=t at *
   have Az:(j:Int)+k=((j+k:Nat):Int):= aC ;go_wp2;go_roundw
   case rel=>
    have e1:((t:Int)%4294967296)=((t%4294967296:Nat):Int):= aC ;exact⟨k+1,s2,t/9223372036854775808,O'.set (j+k) (t%4294967296),aC,by go_num,by go_num,by go_num,HST.out,by rw[e1];exact HRS.out _,HOS.out _⟩
   case measure=>simp[intOf];omega
  .obtain rfl:k=n:= aC ;have Oy:j+k<O.length:=HJ.out;have HTk':=aqi (show yX O j q V V.length O' c' b' by rw[<-HN.out];exact HTk.out);have HL:=HTk'.out.Pn (t:=(O'.getD (j+k) 0+18446744073709551616-c'-b')%18446744073709551616) (by rw[<-HN.out];exact Oy) (by rw[<-HN.out]);rw[<-HN.out]at HL;have HT:=aqi HL;clear HL;have rf:j+k<O'.length:=by rw[HOl.out];exact Oy
   have c2:=hR.cell rf;have c3:=hR.frozen (j+k);have Hf:O'.getD (j+k) 0<4294967296:=HTk.out.ok.getD _;have HRS:=aqi (λx:Nat=>hR.set rf x);have HOS:=aqi (λ(v:Value)=>ho.IM (j+k) v);clear hR ho HTk HTk' rf Oy HOl OU;generalize O'.getD (j+k) 0=u at *
   have hsb:=aaR (u:=u) (m:=c') (b:=b') BX aC;have htl:(u+18446744073709551616-c'-b')%18446744073709551616<18446744073709551616:=bV _ aE;generalize (u+18446744073709551616-c'-b')%18446744073709551616=t at *
   have Az:(j:Int)+k=((j+k:Nat):Int):= aC ;go_wp2;go_ret;have e1:((t:Int)%4294967296)=((t%4294967296:Nat):Int):= aC ;obtain⟨t1,t2,t3,t4,t5⟩:=HT.out;exact⟨O'.set (j+k) (t%4294967296),t/9223372036854775808,Lu (a:=(((t:Int)/9223372036854775808)==1)) (by rw[dv,beq_iff_eq,apu];omega),by rw[e1];exact HRS.out _,t1,t2,t3,t4,t5,HOS.out _⟩
def Xv(A:Option Addr)(c:Nat)(L:List Nat)(n:Nat)(w:World)(hs:Sl w A c L)(hlen:L.length<=100000000)(hn:n<=65536):
 Calls prog 293 #[.slice A L.length c,.int .i64 n] w (λe w'=>∃ T v,e = .returned v/\val T=val L*2^n/\T.length=n/32+(iT L).length+1/\Ow w' w.heap.size v T/\iV w w'):=by
 have hT:=aqi (wL A c L w hs);have lj:=hs.vO;have o9:=qw L;have hC:=lj.cap;have hL:=hs.rO;unfold np at o9;have hv:=aqi (qZ L);generalize iT L=M at *
 obtain⟨m,hm⟩:∃ m,m=M.length:=⟨_,rfl⟩
 rw[<-hm]at hT o9 hC;have HM:=aqi hm;clear hm;have qT:=Ps (n/32) (n/32+m+1) aC aC;rw[show((n/32:Nat):Int)=n/32 by omega,show((n/32+m+1:Nat):Int)=n/32+m+1 by omega]at qT;have GN:=aqi (Ow.AS w w.heap.size (n/32) (n/32+m+1) (bF _) aC aC);go_enter func293,ntmps293;go_wp2_with fail;refine hT.out.mono ?_;rintro e w' ⟨rfl,rfl⟩;go_wp2;go_loopw [5,6,23] (λv cy i wr=>∃ (k q:Nat) (O:List Nat),k<=m/\i = .int .i64 k/\cy = .int .u64 q/\q<2^(n%32)/\O.length=n/32+k/\val O+4294967296^(n/32+k)*q=val (M.take k)*2^(n%32)*4294967296^(n/32)/\Ow wr w.heap.size v O/\iV w wr) (λ_ _ i _=>m-(intOf i).toNat)
 case atStart=>
  exact⟨0,0,List.replicate (n/32) 0,cj _,rfl,rfl,bL aE,aH,by simp[CI],GN.out,iV.alloc _ _⟩
 case round=>
  obtain⟨k,q,O,hk,rfl,rfl,hq,hO,lV,lQ,hb⟩:=hrel;have HV:=aqi lV;have HO:=aqi hO;have GL:O.length<=200000000:= aC ;have xr:=aqi hq;clear lV hO hq;obtain⟨OA,Oc,rfl,yo⟩:=lQ.sl;by_cases iK:k<m
  .have qp:k<M.length:=by have:=HM.out;omega
   obtain⟨ab,ao,rfl,_,c1⟩:=(lj.below hb).mS qp;have nK:M[k]<4294967296:=lj.ok.get qp;have HX:=aqi (QT (c:=q) (s:=n%32) (n0:=n/32) qp HO.out HV.out);generalize M[k]=x at *
   obtain⟨hw,xw,xx⟩:=QU x q (n%32) nK (bV _ aE) xr.out;generalize x*2^(n%32)+q=z at *
   have Dz:=aqi xx;clear xx;have lL:O.length+[z%4294967296].length<=10000000000:= aN ;go_wp2_with (at_builtin;go_must (refine tA aG _ _ aG w.heap.size _ O aG (lQ.alloc _) _ _ _ [z%4294967296] aG aG (Sl.vI _ _ (z%4294967296) aC aC) lL (sN hb.size _) ?_);intro v' w1 pL hg qR)
   go_roundw
   case rel=>
    exact⟨k+1,z/4294967296,O++[z%4294967296],aC,by go_num,by go_num,Dz.out,by rw[cC,HO.out];rfl,HX.out,pL,(hb.trans (iV.alloc _ _)).own _ _ (lQ.alloc _) hg⟩
   case measure=>simp[intOf];omega
  .obtain rfl:k=m:= aC ;have lL:O.length+[q].length<=10000000000:= aN ;have Ku:q<4294967296:=by
    have:=xr.out;have hp:2^(n%32)<=2^31:=b5 aE aC;have e31:(2:Nat)^31=2147483648:= aE ;omega
   have Vi:(q:Int)%4294967296=q:= aC ;go_wp2_with (at_builtin;go_must (refine tA aG _ _ aG w.heap.size _ O aG (lQ.alloc _) _ _ _ [q] aG aG (Sl.vI _ _ q aC aC) lL (sN hb.size _) ?_);intro v' w1 pL hg qR)
   go_ret;refine⟨O++[q],v',rfl,?_,by rw[cC,HO.out,<-HM.out];rfl,pL,(hb.trans (iV.alloc _ _)).own _ _ (lQ.alloc _) hg⟩;have h:=HV.out;rw[cW (by rw[HM.out];exact bF _)]at h;rw[wY,HO.out,rJ,Bh,cT,cg,h,<-hv.out,ui,bO,<-bK];congr 2;omega
end Go.Proofs.YtgdahmmlddfimaaGreatDoor
namespace Go.Proofs.YtgdahmmlddfimaaGreatDoor.Fp
def pS(n k:Nat):Nat:=n/4294967296^k%4294967296
def Nc(n k:Nat):pS n k<4294967296:=bV _ aE 
def ad0(k:Nat):pS 0 k=0:=by unfold pS;rw[Nat.zero_div]
def pw(k:Nat):0<4294967296^k:=bL aE 
def JV{L:List Nat}(h:iZ L)(k:Nat):L.getD k 0=pS (val L) k:=by
 unfold pS;rw[<-I0 h];by_cases hk:k<L.length
 .rw [fG hk,show val (L[k]::L.drop (k+1))=L[k]+4294967296*val (L.drop (k+1))from rfl,eN,cH (h.get hk)];simp[bE,hk]
 .rw [eO aC,bE,cz aC];rfl
def mod_succ(n k:Nat):n%4294967296^(k+1)=n%4294967296^k+4294967296^k*pS n k:=by
 rw[bS,Nat.mod_mul];rfl
def pT(n m:Nat):List Nat:=(List.range m).map (pS n)
def BH(n m:Nat):(pT n m).length=m:=by simp[pT]
def Gr(n m:Nat):iZ (pT n m):=λx hx=>by
 obtain⟨k,_,rfl⟩:=dz.1 hx;exact Nc n k
def ad5{n m k:Nat}(h:k<m):(pT n m).getD k 0=pS n k:=by
 simp[pT,bE,h]
def ad4(m i:Nat):(pT 0 m).getD i 0=0:=by
 by_cases h:i<m
 .rw [ad5 h,ad0]
 .rw [bE,cz (by rw[BH];omega)];rfl
def ad6(n m:Nat):pT n (m+1)=pT n m++[pS n m]:=by simp[pT,List.range_succ]
def IZ(n m:Nat):val (pT n m)=n%4294967296^m:=by
 induction m with
 |zero=>simp[pT,val];omega
 |succ m ih=>
  rw[ad6,wY,ih,BH,mod_succ];rfl
def aoc{L M:List Nat}(hL:iZ L)(hM:iZ M)(hl:L.length=M.length)(hv:val L=val M):L=M:=by
 apply gM hl;intro i h1 h2;have e1:=JV hL i;have e2:=JV hM i;rw[hv,<-e2]at e1;simpa[bE,h1,h2]using e1
def ad7{L:List Nat}(h:iZ L):pT (val L) L.length=L:=
 aoc (Gr _ _) h (BH _ _) (by rw[IZ,cH (po h)])
def Nd{L:List Nat}{n m:Nat}(h:iZ L)(hl:L.length=m)(hv:val L=n):pT n m=L:=by subst hl hv;exact ad7 h
def qt(a b k m:Nat):List Nat:=(List.range m).map λj=>if j<k then pS a j else pS b j
def aiM(a b k m:Nat):(qt a b k m).length=m:=by simp[qt]
def aiO(a b m:Nat):qt a b 0 m=pT b m:=by simp[qt,pT]
def aiL{a b k m:Nat}(h:m<=k):qt a b k m=pT a m:=by
 unfold qt pT;exact fu λj hj=>bB (ca (b6.1 hj) h)
def apg{a b k m:Nat}:(qt a b k m).set k (pS a k)=qt a b (k+1) m:=by
 apply gM
 .simp [qt]
 .intro j h1 h2;have hj:j<m:=by simpa[qt]using h2
  rw[List.getElem_set];by_cases h:k=j
  .subst h;simp[qt]
  .rw [bA h];simp only[qt,List.getElem_map,List.getElem_range];by_cases q:j<k
   .rw [bB q,bB aC]
   .rw [bA q,bA aC]
def aiN{a b k m:Nat}:(qt a b (k+1) m).set k (pS b k)=qt a b k m:=by
 apply gM
 .simp [qt]
 .intro j h1 h2;have hj:j<m:=by simpa[qt]using h2
  rw[List.getElem_set];by_cases h:k=j
  .subst h;simp[qt]
  .rw [bA h];simp only[qt,List.getElem_map,List.getElem_range];by_cases q:j<k
   .rw [bB q,bB aC]
   .rw [bA q,bA aC]
def aef(a k:Nat):a/4294967296^k=4294967296*(a/4294967296^(k+1))+pS a k:=by
 rw[bS,<-dL];unfold pS;omega
def amB{a d k:Nat}(hd:0<d)(BZ:d<4294967296):(a/4294967296^(k+1)%d*4294967296+pS a k)/d=pS (a/d) k/\(a/4294967296^(k+1)%d*4294967296+pS a k)%d=a/4294967296^k%d:=by
 have e1:=aef a k;have e2:=c9 (a/4294967296^(k+1)) d;have e3:=bV (a/4294967296^(k+1)) hd;have e4:=Nc a k;have e5:a/4294967296^k=d*(4294967296*(a/4294967296^(k+1)/d))+(a/4294967296^(k+1)%d*4294967296+pS a k):=by
  rw[e1,eC];omega
 have e6:(a/4294967296^(k+1)%d*4294967296+pS a k)/d<4294967296:=by
  rw[cS hd];have:=bY 4294967296 (show a/4294967296^(k+1)%d+1<=d from e3);omega
 constructor
 .conv=>rhs;unfold pS
  rw[dL,bT d,<-dL,e5,apK hd,gF,cH e6]
 .rw [e5,gF]
structure tD(U0:Nat)(V:List Nat)(k m:Nat)(O Q:List Nat):Prop where
 Wx:O.length=m
 Hs:Q.length=m-V.length
 A5:iZ O
 DZ:iZ Q
 eq:val O+val V*val Q=U0
 lt:val O<val V*4294967296^k
 qz:∀ i,i<k->Q.getD i 0=0
def tD.step{U0 k m x:Nat}{V O Q O2:List Nat}(h:tD U0 V (k+1) m O Q)(hk:k<m-V.length)(hl:O2.length=m)(mc:iZ O2)(hx:x<4294967296)
 (he:val O2+x*(4294967296^k*val V)=val O) (iK:val O2<val V*4294967296^k):tD U0 V k m O2 (Q.set k x):=by
 have AD:k<Q.length:=by rw[h.Hs];exact hk
 have hv:=Eh (x:=x) AD;rw[h.qz k (fR k),cT,cg]at hv;refine⟨hl,by rw[dB];exact h.Hs,mc,h.DZ.set _ hx,?_,iK,λi hi=>by rw[BQ aC];exact h.qz i aC⟩;rw[hv,b9,show val V*(4294967296^k*x)=x*(4294967296^k*val V)by simp only[bT,eC,bO]];have:=h.eq;omega
def tD.zero{U0 k m:Nat}{V O Q:List Nat}(h:tD U0 V (k+1) m O Q)(hV:iZ V){i:Nat}(hi:k+V.length<i):O.getD i 0=0:=by
 refine anQ h.A5 (k:=k+V.length+1) ?_ hi;refine fQ h.lt ?_;have:=dG (po hV) (pw (k+1));rw[<-bK,(aC:V.length+(k+1)=k+V.length+1)]at this;exact this
def tD.agt{U0 k m:Nat}{V O Q:List Nat}(h:tD U0 V (k+1) m O Q)(hV:iZ V)(hn:2<=V.length)(hN:2147483648<=V.getD (V.length-1) 0):
 O.getD (k+V.length) 0<=V.getD (V.length-1) 0/\∀ g,g<=4294967295 ->
  g<=((O.getD (k+V.length) 0*4294967296+O.getD (k+V.length-1) 0)*4294967296+O.getD (k+V.length-2) 0)/(V.getD (V.length-1) 0*4294967296+V.getD (V.length-2) 0) ->
  (g=4294967295\/((O.getD (k+V.length) 0*4294967296+O.getD (k+V.length-1) 0)*4294967296+O.getD (k+V.length-2) 0)/(V.getD (V.length-1) 0*4294967296+V.getD (V.length-2) 0)<=g) ->
  val O/4294967296^k/val V<=g/\g<=val O/4294967296^k/val V+1:=by
 have t3:=aaq h.A5 (j:=k) hn (λi hi=>h.zero hV hi);have t2:=anO hV hn rfl;have hU:val O/4294967296^k<4294967296*val V:=by
  rw[cS (pw k)];have:=h.lt;rw[bS]at this;rw[show 4294967296*val V*4294967296^k=val V*(4294967296^k*4294967296)by simp only[bT,eC,bO]];exact this
 have w1:=h.A5.getD (k+V.length-1);have w2:=h.A5.getD (k+V.length-2);have w3:=hV.getD (V.length-2);refine⟨?_,λg g1 g2 g3=>?_⟩
 .have hP:=pw (V.length-2);have h1:val V<(V.getD (V.length-1) 0*4294967296+V.getD (V.length-2) 0+1)*4294967296^(V.length-2):=by
   rw[<-t2,<-cS hP];omega
  have h2:val O/4294967296^k/4294967296^(V.length-2)<4294967296*(V.getD (V.length-1) 0*4294967296+V.getD (V.length-2) 0+1):=by
   rw[cS hP];refine ca hU ?_;rw[bO];exact de _ (dU h1)
  rw[t3]at h2;omega
 .rw [<-t3,<-t2]at g2 g3;exact ah2 (pw _) (by rw[t2];omega) hU g1 g2 g3
def tD.XW{U0 k m x:Nat}{V O Q O':List Nat}(h:tD U0 V (k+1) m O Q)(hV:iZ V)(mc:iZ O')(hv:val O'+x*(4294967296^k*val V)=val O+4294967296^(k+V.length+1)*1)
 (hs:∀ i,k+V.length<i->O'.getD i 0=O.getD i 0):val O'<4294967296^(k+V.length+1)/\0<x:=by
 have h1:val O'<4294967296^(k+V.length+1):=aaD mc λi hi=>by rw[hs i aC];exact h.zero hV aC 
 refine⟨h1,?_⟩;rcases fc x with h0|h0
 .subst h0;rw[dc]at hv;omega
 .exact h0
def tD.acd{U0 k m x κ:Nat}{V O Q O' O2:List Nat}(h:tD U0 V (k+1) m O Q)(hV:iZ V)(hk:k<m-V.length)(mc:iZ O')(hv:val O'+x*(4294967296^k*val V)=val O+4294967296^(k+V.length+1)*1)
 (hs:∀ i,k+V.length<i->O'.getD i 0=O.getD i 0) (hx:x<=4294967295) (wE:x<=val O/4294967296^k/val V+1) (yd:0<val V) (o9:O2.length=m) (Vd:iZ O2) (hκ:κ<=1)
 (h2:val O2+4294967296^(k+V.length+1)*κ=val O'+4294967296^k*val V) (lj:∀ i,k+V.length<i->O2.getD i 0=O'.getD i 0):tD U0 V k m O2 (Q.set k (x-1)):=by
 obtain⟨h1,h0⟩:=h.XW hV mc hv hs;have h3:val O2<4294967296^(k+V.length+1):=aaD Vd λi hi=>by rw[lj i aC,hs i aC];exact h.zero hV aC 
 rw[cI]at hv;obtain⟨_,_,e,l⟩:=ad2 (pw k) yd hv h1 wE hκ h2 h3;exact h.step (x:=x-1) hk o9 Vd aC e l
def aji{L:List Nat}{x s l:Nat}(hk:iZ L)(hl:L.length=l+1)(hx:L.getD l 0=x)(pd:x≠0)(hs:s=32-iB x):
 s<32/\(ij (val L*2^s)).length=l+1/\2147483648<=(ij (val L*2^s)).getD l 0/\4294967296^l*2147483648<=val L*2^s/\val L*2^s<4294967296^(l+1):=by
 have nK:x<4294967296:=by rw[<-hx];exact hk.getD l
 have lh:=pF pd;have om:iB x<=32:=mK.2 nK;have h1:=vP pd;have h2:=tv x;have e1:2^(iB x-1)*2^s=2147483648:=by rw[<-bK,(aC:iB x-1+s=31)]
 have e2:2^iB x*2^s=4294967296:=by rw[<-bK,(aC:iB x+s=32)]
 have hp:0<2^s:=bL aE;have hv:val L=val (L.take l)+4294967296^l*x:=by
  have:=xN L l;rw[cW aC,hx]at this;exact this
 have E3:val (L.take l)<4294967296^l:=by
  have:=po (hk.take l);rw[cF,dF aC]at this;exact this
 have g1:4294967296^l*2147483648<=val L*2^s:=by
  rw[<-e1,<-bO];refine bY _ ?_;rw[hv];exact bH (de _ h1) (Nat.le_add_left _ _)
 have g2:val L*2^s<4294967296^(l+1):=by
  have e3:4294967296^(l+1)=4294967296^l*(2^iB x*2^s):=by rw[bS,e2]
  rw[e3,<-bO];refine dG ?_ hp;rw[hv];have:=de (4294967296^l) (show x+1<=2^iB x from h2);rw[b9,cI]at this;omega
 have hlen:(ij (val L*2^s)).length=l+1:=by
  have u1:=xB g2;have u2:¬(ij (val L*2^s)).length<=l:=λh=>by
   have:=Hw h;have:=pw l;omega
  omega
 refine⟨aC,hlen,?_,g1,g2⟩;rw[JV (mQ _),kP];unfold pS;rw[cH (by rw[cS (pw l),bT 4294967296,<-bS];exact g2),dC (pw l),bT];exact g1
def tD.start{A s:Nat}{V O:List Nat}(hO:iZ O)(hv:val O=A*2^s){la:Nat}(hA:A<4294967296^la)(hl:O.length=la+1)(hs:s<32)(hn:1<=V.length)(jZ:V.length<=la)(hV:4294967296^(V.length-1)*2147483648<=val V):
 tD (A*2^s) V (la+1-V.length) (la+1) O (List.replicate (la+1-V.length) 0):=by
 refine⟨hl,aH,hO,iZ.FI _,by rw[CI,cT,cg,hv],?_,λi _=>?_⟩
 .rw [hv];have GJ:2^s<=2^31:=b5 aE aC;have agx:(2:Nat)^31=2147483648:= aE ;rw[agx]at GJ;have h1:A*2^s<4294967296^la*2^s:=dG hA (bL aE);have h2:=de (4294967296^la) GJ;have h3:=bY (4294967296^(la+1-V.length)) hV;rw[gR,<-bK,(aC:V.length-1+(la+1-V.length)=la)]at h3;omega
 .rw [bE,fB];split<;>rfl
end Go.Proofs.YtgdahmmlddfimaaGreatDoor.Fp
namespace Go.Proofs.YtgdahmmlddfimaaGreatDoor
open Go.RowKit Fp Pu
def IN(n:Nat)(h:n<4294967296):IntKind.u64.wrap ((n:Int)*2^32)=((n*4294967296:Nat):Int):=by rw[IntKind.wrap_u64];omega
def Ip(a b:Nat)(ha:a<4294967296)(hb:b<4294967296):bits .or .u64 ((a*4294967296:Nat):Int) (b:Int)=((a*4294967296+b:Nat):Int):=by
 rw[L3 _ _ aC aC,Nat.or_comm,show a*4294967296=a*2^32 by rfl,K4 b a 32 (by simpa using hb),Nat.add_comm]
def alF{T n n' p:Nat}{L L':List Nat}{z:Nat}(hn:n=n')(hp:p<L.length)(hs:L.set p z=L'):Bx.le (.row false T n 1 λi' j'=>if i'=p/\0<=j'/\j'<0+1 then[.v (.int .u32 (z:Int))].getD (j'-0) .any else(qW L) i' j') (.row false T n' 1 (qW L')):=hs▸QA hn hp
def S5(q rest third v w:Nat)(x:Nat):PS:=⟨32,true,[(0,.e (.v (.int .u64 ((q-x:Nat):Int)))),(1,.e (.v (.int .u64 ((rest+(x*v):Nat):Int)))),(2,.e (.v (.int .u32 (third:Int)))),(3,.e (.v (.int .u32 (v:Int)))),(4,.e (.v (.int .u32 (w:Int))))],[]⟩
def ZM(L:List Nat)(d:Nat)(x:Nat):PS:=⟨34,false,[(8,.e (iP ((L.length:Int)-1-(x:Int)))),(7,.e (.v (.int .u32 ((val L/4294967296^(L.length-x)%d:Nat):Int)))),(6,.own 11),(0,.e (ik L)),(1,.e (.v (.int .u32 (d:Int))))],[(11,.row false 171 L.length 1 (qW (qt 0 (val L/d) (L.length-x) L.length)))]⟩
def ad8(h l d:Nat)(h1:h<d)(h2:l<4294967296)(h3:d<4294967296):ie 356 [.v (.int .u32 (h:Int)),.v (.int .u32 (l:Int)),.v (.int .u32 (d:Int))] (.iE [.v (.int .u32 (((h*4294967296+l)/d:Nat):Int)),.v (.int .u32 (((h*4294967296+l)%d:Nat):Int))]):=by
 have e1:(h*4294967296+l)/d<4294967296:=by rw[cS aC];omega
 have e2:(h*4294967296+l)%d<4294967296:=fQ (bV _ aC) h3;exact ak call356 func356 (ae [ah 10 ((d:Int) != 0) aN,tF 14 ((d:Int)<=h) aC,.o 18 (.int (sR _ aC):aj (.v (.int .u64 (IntKind.u64.wrap (h:Int)))) (.v (.int .u64 (h:Int)))),.a (aC:0<=(32:Int)/\(32:Int)<=((64:Nat):Int)),.o 19 (.int (IN _ aC):aj (.v (.int .u64 (IntKind.u64.wrap ((h:Int)*2^32)))) (.v (.int .u64 ((h*4294967296:Nat):Int)))),.o 21 (.int (sR _ aC):aj (.v (.int .u64 (IntKind.u64.wrap (l:Int)))) (.v (.int .u64 (l:Int)))),.o 22 (.int (Ip _ _ aC aC):aj (.v (.int .u64 (bits .or .u64 ((h*4294967296:Nat):Int) (l:Int)))) (.v (.int .u64 ((h*4294967296+l:Nat):Int)))),.o 25 (.int (sR _ aC):aj (.v (.int .u64 (IntKind.u64.wrap (d:Int)))) (.v (.int .u64 (d:Int)))),.a (aC:0<((d:Int):Int)),
  Cx ((h*4294967296+l:Nat):Int) aC,.o 27 (.int (FY _):aj (.v (.int .u32 (IntKind.u32.wrap (((h*4294967296+l)/d:Nat):Int)))) (.v (.int .u32 ((((h*4294967296+l)/d)%4294967296:Nat):Int)))),.o 30 (.int (sR _ aC):aj (.v (.int .u64 (IntKind.u64.wrap (d:Int)))) (.v (.int .u64 (d:Int)))),.a (aC:0<((d:Int):Int)),.o 32 (.int (FY _):aj (.v (.int .u32 (IntKind.u32.wrap (((h*4294967296+l)%d:Nat):Int)))) (.v (.int .u32 ((((h*4294967296+l)%d)%4294967296:Nat):Int))))]<|rQ (.iE [.v (.int .u32 ((((h*4294967296+l)/d)%4294967296:Nat):Int)),.v (.int .u32 ((((h*4294967296+l)%d)%4294967296:Nat):Int))]) (.iE [.v (.int .u32 (((h*4294967296+l)/d:Nat):Int)),.v (.int .u32 (((h*4294967296+l)%d:Nat):Int))]) (by rw[cH e1,cH e2])) 
def aph(q rest third v w N:Nat)(hq:q<=4294967295)(hr:rest<9223372036854775808)(ht:third<4294967296)(hv:v<4294967296)(hw:w<4294967296)(hNq:N<=q)(jc:∀ x,x<N->uB q rest third v w x)(g1:¬rest+N*v<4294967296):ie 357 [.v (.int .u64 (q:Int)),.v (.int .u64 (rest:Int)),.v (.int .u32 (third:Int)),.v (.int .u32 (v:Int)),.v (.int .u32 (w:Int))] (.v (.int .u64 ((q-N:Nat):Int))):=
 ak call357 func357 (af [.s (Sp.jT (S5 q rest third v w) 0 N aC (λx hx lJ=>by
    obtain⟨g1,g2⟩:=jc x aC;have m1:(q-x)*w<=4294967295*4294967295:=dR aC aC;have g3:0<q-x:=by
     rcases fc (q-x)with h|h
     .rw [h,dc]at g2;omega
     .exact h
    exact iL (ae [tT 12 (((rest+(x*v):Nat):Int)<4294967296) aC,.o 16 (.int (sR _ aC):aj (.v (.int .u64 (IntKind.u64.wrap (w:Int)))) (.v (.int .u64 (w:Int)))),
     Cx (((q-x:Nat):Int)*(w:Int)) aC,.a (aC:0<=(32:Int)/\(32:Int)<=((64:Nat):Int)),.o 19 (.int (IN _ aC):aj (.v (.int .u64 (IntKind.u64.wrap (((rest+(x*v):Nat):Int)*2^32)))) (.v (.int .u64 (((rest+(x*v))*4294967296:Nat):Int)))),.o 21 (.int (sR _ aC):aj (.v (.int .u64 (IntKind.u64.wrap (third:Int)))) (.v (.int .u64 (third:Int)))),.o 22 (.int (Ip _ _ aC aC):aj (.v (.int .u64 (bits .or .u64 (((rest+(x*v))*4294967296:Nat):Int) (third:Int)))) (.v (.int .u64 ((((rest+(x*v))*4294967296)+third:Nat):Int)))),tT 23 (((((rest+(x*v))*4294967296)+third:Nat):Int)<(((q-x)*w:Nat):Int)) (Int.ofNat_lt.2 g2),Cx (((q-x:Nat):Int)-1) aC,.o 29 (.int (sR _ aC):aj (.v (.int .u64 (IntKind.u64.wrap (v:Int)))) (.v (.int .u64 (v:Int)))),Cx (((rest+(x*v):Nat):Int)+v) aC]<|.e (af [.o 0 (.int aP:aj (.v (.int .u64 (((q-x:Nat):Int)-1))) (.v (.int .u64 ((q-(x+1):Nat):Int)))),.o 1 (.int aP:aj (.v (.int .u64 (((rest+(x*v))+v:Nat):Int))) (.v (.int .u64 ((rest+((x+1)*v):Nat):Int))))])) aF)
  (λhx=>by
    have m1:(q-N)*w<=4294967295*4294967295:=dR aC aC;exact iL (af [tF 12 (((rest+(N*v):Nat):Int)<4294967296) aC]) aF) aI:jS 1 f357 (S5 q rest third v w 0) (.exit 0) ⟨32,true,[(0,.e (.v (.int .u64 ((q-N:Nat):Int))))],[]⟩) (af [.o 0 (.int aP:aj (.v (.int .u64 (q:Int))) (.v (.int .u64 ((q-0:Nat):Int)))),.o 1 (.int aP:aj (.v (.int .u64 (rest:Int))) (.v (.int .u64 ((rest+(0*v):Nat):Int))))])]) 
def ai4(L:List Nat)(d:Nat)(hk:iZ L)(hl:L.length<=1000000)(BY:0<d)(BZ:d<4294967296):ie 335 [ik L,.v (.int .u32 (d:Int))] (.iE [ik (pT (val L/d) L.length),.v (.int .u32 ((val L%d:Nat):Int))]):=
 an call335 func335 (ae [.a (aC:0<=((L.length:Int):Int)/\((L.length:Int):Int)<=((L.length:Int):Int)),.a (aC:((4:Nat):Int)*(L.length:Int)<=281474976710656/\((L.length:Int):Int)<=9223372036854775807),iF ((L.length:Int)-1) aC,.s (Sp.jT (ZM L d) 0 L.length aC (λx hx lJ=>by
    have U4:((L.length:Int)-1-(x:Int)).toNat=L.length-1-x:= aC ;have hld:((L.getD ((L.length:Int)-1-(x:Int)).toNat 0:Nat):Int)=(pS (val L) (L.length-1-x):Int):=by rw[U4,JV hk]
    have xt:=amB (a:=val L) (k:=L.length-1-x) BY BZ;have uI:L.length-1-x+1=L.length-x:= aC ;have mY:L.length-(x+1)=L.length-1-x:= aC ;rw[uI]at xt;have E7:=bV (val L/4294967296^(L.length-x)) BY;have Oi:=Nc (val L) (L.length-1-x);have Dt:(qt 0 (val L/d) (L.length-x) L.length).set ((L.length:Int)-1-(x:Int)).toNat ((val L/4294967296^(L.length-x)%d*4294967296+pS (val L) (L.length-1-x))/d)=qt 0 (val L/d) (L.length-(x+1)) L.length:=by
     rw[U4,xt.1,<-uI,aiN,mY]
    exact iL (ae [tT 16 (0<=((L.length:Int)-1-(x:Int))) aC,iX ((L.length:Int)-1-(x:Int)) (L.length) aC,.o 26 (.int hld:aj (.v (.int .u32 ((L.getD ((L.length:Int)-1-(x:Int)).toNat 0:Nat):Int))) (.v (.int .u32 (pS (val L) (L.length-1-x):Int)))),.c (ad8 (val L/4294967296^(L.length-x)%d) (pS (val L) (L.length-1-x)) d aC aC aC),iX ((L.length:Int)-1-(x:Int)) (L.length) aC,.a (aC:(((L.length:Int)-1-(x:Int))).toNat<L.length),iF (((L.length:Int)-1-(x:Int))-1) aC]<|.e (af [.o 8 (aq (((L.length:Int)-1-(x:Int))-1) ((L.length:Int)-1-((x+1:Nat):Int)) aP),.o 7 (.int (by rw[xt.2,mY]):aj (.v (.int .u32 ((((val L/4294967296^(L.length-x)%d)*4294967296+(pS (val L) (L.length-1-x)))%d:Nat):Int))) (.v (.int .u32 ((val L/4294967296^(L.length-(x+1))%d:Nat):Int)))),.b 11 (alF rfl (by rw[aiM];omega) Dt:Bx.le (.row false 171 L.length 1 (λi' j'=>if i'=(((L.length:Int)-1-(x:Int))).toNat/\0<=j'/\j'<0+1 then[.v (.int .u32 ((((val L/4294967296^(L.length-x)%d)*4294967296+(pS (val L) (L.length-1-x)))/d:Nat):Int))].getD (j'-0) .any else(qW (qt 0 (val L/d) (L.length-x) L.length)) i' j')) (.row false 171 L.length 1 (qW (qt 0 (val L/d) (L.length-(x+1)) L.length))))])) aF)
  (λhx=>by
    exact iL (af [tF 16 (0<=((L.length:Int)-1-(L.length:Int))) aC]) aF) aI:jS 4 f335 (ZM L d 0) (.exit 0) ⟨34,false,[(7,.e (.v (.int .u32 ((val L/4294967296^(L.length-L.length)%d:Nat):Int)))),(6,.own 11)],[(11,.row false 171 L.length 1 (qW (qt 0 (val L/d) (L.length-L.length) L.length)))]⟩) (af [.o 8 (aq ((L.length:Int)-1) ((L.length:Int)-1-((0:Nat):Int)) aP),.o 7 (.int (by rw[dQ,dx (po hk),Nat.zero_mod];rfl):aj (.v (.int .u32 0)) (.v (.int .u32 ((val L/4294967296^(L.length-0)%d:Nat):Int)))),.b 11 (Y1 rfl (λi=>by rw[dQ,aiL (bF _),ad4]):Bx.le (.row false 171 L.length 1 (λ_ j_=>[.v (.int .u32 0)].getD j_ .any)) (.row false 171 L.length 1 (qW (qt 0 (val L/d) (L.length-0) L.length))))])]<|rR (.iE [ik (pT (val L/d) L.length),.v (.int .u32 ((val L%d:Nat):Int))]) (.iE (.cons (by rw[dA,aiO];exact ZV (BH _ _).symm) (.cons (.ji (by rw[dA,cU,fW])) .nil)):E.le (.iE [.sl false L.length 1 (qW (qt 0 (val L/d) (L.length-L.length) L.length)),.v (.int .u32 ((val L/4294967296^(L.length-L.length)%d:Nat):Int))]) (.iE [ik (pT (val L/d) L.length),.v (.int .u32 ((val L%d:Nat):Int))]))) 
def abc(w:World)(T S:List Nat)(e:Ending)(w':World):Prop:=∃ A c B d,e = .returned (.tuple #[.slice A T.length c,.slice B S.length d])/\Sl w' A c T/\Sl w' B d S/\iV w w'
def Ow.rx{w:World}{base:Nat}{v:Value}{L:List Nat}(h:Ow w base v L)(hl:L≠[]):∃ g cap R,v = .slice (some ⟨g,0,none⟩) L.length cap/\base<=g/\g<w.heap.size/\Rx w g L R/\L.length<=cap/\cap<=maxLen:=by
 rcases h.row.2 with⟨_,h0⟩|⟨g,cap,cur,rfl,hb,hg,ph,oo,mX,He⟩
 .exact absurd (dH h0) hl
 .refine ⟨g,cap,cur.toList.drop L.length,rfl,hb,(dr.1 hg).1,?_,ph,oo⟩;unfold Rx;rw[hg];rw[cI]at He;rw[<-He,apG]
def Rx.sl{w:World}{b cap:Nat}{L:List Nat}{R:List Value}(h:Rx w b L R)(hk:iZ L)(hc:L.length<=cap)(hm:cap<=maxLen)(n:Nat):Sl w (some ⟨b,0,none⟩) cap (L.take n):=
 ⟨by rw[cF];omega,by unfold maxLen at hm;omega,hk.take n,(λh=>by cases h),λi x hx=>by
  rw[dM]at hx;split at hx
  .obtain ⟨hi,yB⟩:=cE.1 hx;refine⟨_,_,rfl,h.lt,?_⟩;rw[cD,h.cell hi];simp[bE,hx]
  .cases hx⟩
def aiz(x:Nat)(hx:x<4294967296)(w:World):
 Calls prog 336 #[.int .u32 x] w λe w'=>e = .returned (.int .i64 ((32-iB x:Nat):Int))/\w=w':=by
 have om:iB x<=32:=mK.2 hx;have H:=aqi (λw=>Ww x hx w);go_enter func336,ntmps336;go_wp2_with fail;refine(H.out _).mono ?_;rintro e w' ⟨rfl,rfl⟩;go_wp2;go_ret;exact⟨pz aC,rfl⟩
def S7(q rest third v w0 N:Nat)(w:World)(hq:q<=4294967295)(hr:rest<9223372036854775808)(ht:third<4294967296)(hv:v<4294967296)(hw:w0<4294967296)(hNq:N<=q)(jc:∀ x,x<N->uB q rest third v w0 x)(hN:¬uB q rest third v w0 N):
 Calls prog 357 #[.int .u64 q,.int .u64 rest,.int .u32 third,.int .u32 v,.int .u32 w0] w λe w'=>e = .returned (.int .u64 ((q-N:Nat):Int))/\w=w':=by
 have HLO:=aqi jc;have HNN:=aqi hN;clear jc hN;go_enter func357,ntmps357;go_wp2;go_loop [0,1] (λa b=>∃ k:Nat,k<=N/\a = .int .u64 ((q-k:Nat):Int)/\b = .int .u64 ((rest+k*v:Nat):Int)) (λa _=>(intOf a).toNat+0*N)
 case atStart=>exact⟨0,cj _,by go_num,by go_num⟩
 case round=>
  obtain⟨k,hk,rfl,rfl⟩:=hrel;have m1:(q-k)*w0<=4294967295*4294967295:=dR aC aC;have m2:(q-k)*w0=(q-k)*w0:=rfl;by_cases iK:k<N
  .have hc:=HLO.out k iK;have vk:0<q-k:= aC ;have Vb:rest+(k+1)*v=rest+k*v+v:=by rw[cr,cv];omega
   have HX:=aqi Vb;clear Vb;unfold uB at hc;have Dw:IntKind.u64.wrap (((q-k:Nat):Int)*(w0:Int))=(((q-k)*w0:Nat):Int):=by rw[<-fC];exact sR _ aC 
   generalize rest+k*v=y at *
   generalize hz:(q-k)*w0=z at *
   have G8:q-k=q-(k+1)+1:= aC ;have HQ:=aqi G8;obtain⟨p,hp⟩:∃ p,p=q-k:=⟨_,rfl⟩
   rw[<-hp]at Dw vk G8 HQ ⊢;have HP:=aqi hp;have Dm:p<=4294967295:= aC ;clear hp hz G8;have Hc:=IN y hc.1;have xp:=Ip y third hc.1 ht;have g2:=hc.2;have g1:=hc.1;clear hc;rw[show((y*4294967296:Nat):Int)=y*4294967296 by omega]at xp Hc;have d1:decide ((y:Int)<4294967296)=true:=bC aC;have d2:decide ((y:Int)*4294967296+(third:Int)<z)=true:=bC aC;have pW:IntKind.u64.wrap ((p:Int)-1)=((p-1:Nat):Int):=by rw[IntKind.wrap_u64];omega
   go_wp2;go_round
   case rel=>
    have e1:=HP.out;exact⟨k+1,aC,by go_num,by rw[HX.out];go_num⟩
   case measure=>simp[intOf];omega
  .obtain rfl:k=N:= aC ;have hn:=HNN.out;clear HNN HLO;unfold uB at hn;have Dw:IntKind.u64.wrap (((q-k:Nat):Int)*(w0:Int))=(((q-k)*w0:Nat):Int):=by rw[<-fC];exact sR _ aC 
   generalize rest+k*v=y at *
   generalize (q-k)*w0=z at *
   obtain⟨p,hp⟩:∃ p,p=q-k:=⟨_,rfl⟩
   rw[<-hp]at Dw ⊢;have HP:=aqi hp;clear hp;by_cases g1:y<4294967296
   .have Hc:=IN y g1;have xp:=Ip y third g1 ht;rw[show((y*4294967296:Nat):Int)=y*4294967296 by omega]at xp Hc;have d1:decide ((y:Int)<4294967296)=true:=bC aC;have d2:decide ((y:Int)*4294967296+(third:Int)<z)=false:=bD aC;clear hn;go_wp2;go_ret;exact⟨pz (by rw[<-HP.out]),rfl⟩
   .have d1:decide ((y:Int)<4294967296)=false:=bD aC ;clear hn Dw;go_wp2;go_ret;exact⟨pz (by rw[<-HP.out]),rfl⟩
def agu(iI next third v w0:Nat)(hv:2147483648<=v)(tV:v<4294967296)(hn:next<4294967296)(ht:third<4294967296)(hw:w0<4294967296)(htv:iI<=v):
 ∃ g,g<=4294967295/\g<=((iI*4294967296+next)*4294967296+third)/(v*4294967296+w0)/\(g=4294967295\/((iI*4294967296+next)*4294967296+third)/(v*4294967296+w0)<=g) /\
  ∀ w,Calls prog 337 #[.int .u32 iI,.int .u32 next,.int .u32 third,.int .u32 v,.int .u32 w0] w λe w'=>e = .returned (.int .u64 (g:Int))/\∃ m,w'=w.drewN m:=by
 by_cases k1:v<=iI
 .obtain ⟨N,hN3,nJ,ze,tI,g1,g2⟩:=S6 (X:=iI*4294967296+next) (q:=4294967295) (rest:=(iI-v)*4294967296+next+v) (third:=third) (v:=v) (w:=w0) aC (bF _) hv hw;refine⟨4294967295-N,aC,g1,g2.elim (λh=>.inl (by rw[h])) .inr,λw=>?_⟩;clear g1 g2;have H:=λw=>S7 4294967295 ((iI-v)*4294967296+next+v) third v w0 N w aC aC ht tV hw nJ ze tI
  clear ze tI;obtain rfl:v=iI:= aC ;have vq:(v-v)*4294967296+next+v=next+v:= aC 
  rw[vq,gJ]at H;have HD:=aqi H;clear H;have d1:decide ((v:Int)<=v)=true:=bC aC;go_enter func337,ntmps337;go_wp2_with fail;refine(HD.out _).mono ?_;rintro e w' ⟨rfl,rfl⟩;go_wp2;go_ret;exact⟨rfl,0,rfl⟩
 .have d1:=c9 (iI*4294967296+next) v;have d2:=bV (iI*4294967296+next) (aC:0<v);have d3:(iI*4294967296+next)/v<4294967296:=by rw[cS aC];omega
  obtain⟨N,hN3,nJ,ze,tI,g1,g2⟩:=S6 (X:=iI*4294967296+next) (q:=(iI*4294967296+next)/v) (rest:=(iI*4294967296+next)%v) (third:=third) (v:=v) (w:=w0) (by rw[bT];exact d1) aC hv hw;have g3:=ad3 (x:=iI*4294967296+next) (v:=v) (w:=w0) (third:=third) aC ht;refine⟨(iI*4294967296+next)/v-N,aC,g1,.inr ?_,λw=>?_⟩
  .rcases g2 with rfl|g2
   .exact g3
   .exact g2
  have H:=λw=>S7 ((iI*4294967296+next)/v) ((iI*4294967296+next)%v) third v w0 N w (Nat.le_of_lt_succ d3) (fQ d2 aC) ht tV hw nJ ze tI
  rw[Int.natCast_ediv,Int.natCast_emod]at H;have HD:=aqi H;clear H g1 g2 g3 nJ ze tI d1 d2 d3;have d1:decide ((v:Int)<=iI)=false:=bD aC;have Hc:=IN iI aC;have xp:=Ip iI next aC hn
  rw[show((iI*4294967296:Nat):Int)=iI*4294967296 by omega]at xp Hc;have pd:((iI*4294967296+next:Nat):Int)<18446744073709551616:= aC ;rw[show((iI*4294967296+next:Nat):Int)=iI*4294967296+(next:Int)by omega]at xp pd;have tp:((v:Int)==0)=false:= aN ;go_enter func337,ntmps337;go_wp2;go_quiet (exact Calls.quiet_of_same ((HD.out _).mono λ_ _ ⟨h1,h2⟩=>⟨h1,h2.symm⟩));go_wp2;go_ret;exact⟨rfl,_,rfl⟩
def Fp.iV.anS{w0 w w':World}{g n:Nat}(h:iV w0 w)(k:uo g (w.drewN n) w')(hg:w0.heap.size<=g):iV w0 w':=
 (below_drewN h n).trans (k.below.mono hg)
def Fp.iV.only{w0 w w':World}{g:Nat}(h:iV w0 w)(k:uo g w w')(hg:w0.heap.size<=g):iV w0 w':=
 Below.trans h (k.below.mono hg)
def Sl.TR{w:World}{g cap:Nat}{L:List Nat}(h:Sl w (some ⟨g,0,none⟩) cap L){b:Nat}(hb:g≠b)(i:Nat)(v:Value):Sl (w.setCell ⟨b,i,none⟩ v) (some ⟨g,0,none⟩) cap L:=
 h.pO (λb' o _ e=>by cases e;exact hb) (uo.IM (uo.refl b w) i v)
def Sl.drewN{w:World}{A:Option Addr}{c:Nat}{L:List Nat}(h:Sl w A c L)(n:Nat):Sl (w.drewN n) A c L:=h.below (below_drewN (Below.refl _ _) n)
def akq{P:Program}{f:FuncId}{args:Array Value}{w:World}{n:Nat}{v:Value}
 (h:Calls P f args (w.drewN n) λe w'=>e = .returned v/\∃ m,w'=(w.drewN n).drewN m):Calls P f args (w.drewN n) λe w''=>e = .returned v/\∃ m,w''=w.drewN m:=
 h.mono λ_ _ ⟨he,m,hm⟩=>⟨he,n+m,by rw[hm,World.drewN_drewN]⟩
set_option maxRecDepth 100000 in
set_option maxHeartbeats 8000000 in
def aeg(A B:Option Addr)(c d:Nat)(L M:List Nat)(w:World)(lx ly s:Nat)(G3:lx=(iT L).length)(Kn:ly=(iT M).length)(xt:s=32-iB ((iT M).getD (ly-1) 0))(hs:Sl w A c L)(hr:Sl w B d M)(vh:Tb w)(h1:L.length<=100000)(h2:M.length<=100000)(tJ:val M<=val L)(hlen:2<=ly):
 Calls prog 322 #[.slice A L.length c,.slice B M.length d] w (abc w (pT (val L/val M) (lx+1-ly)) (rI (s%32) ((ij (val L%val M*2^s)).drop (s/32)))):=by
 have H1:=wL A c L w hs;have H2:=wL B d M w hr;have Ur:=qw L;unfold np at Ur;have sW:=qw M;unfold np at sW;have eL:=qZ L;have eM:=qZ M;rw[<-eL,<-eM]at tJ ⊢;have lj:=hs.vO;have oE:=hr.vO;have NV:=Bf M;have UE:iT (iT L)=iT L:=Bf L;have UH:iT (iT M)=iT M:=Bf M;have H3:=KO A B c d (iT L) (iT M) w lj oE aC aC;generalize iT L=X at *
 generalize iT M=Y at *
 have pV:0<=lp (val X) (val Y):=by unfold lp;split<;>(try split)<;>omega
 generalize lp (val X) (val Y)=cm at *
 have UG:Y.length<=X.length:=by
  apply ct;intro h;have:=L6 lj.ok NV (aC:X.length<Y.length);omega
 clear eL eM hs hr tJ;rw[<-G3]at UG H1 H3 Ur;rw[<-Kn]at UG H2 H3 sW;have pd:Y.getD (ly-1) 0≠0:=by
  have:=(CH Y).1 NV aC;have e:Y.getD (ly-1) 0=Y[Y.length-1]'(aC):=by
   rw[bE,(aC:ly-1=Y.length-1)];simp[(aC:Y.length-1<Y.length)]
  rw[e];exact this
 have HN:=aji oE.ok (l:=ly-1) aC rfl pd xt;rw[(aC:ly-1+1=ly)]at HN;obtain⟨x,hx⟩:∃ x,x=Y.getD (ly-1) 0:=⟨_,rfl⟩
 have nK:x<4294967296:=by rw[hx];exact oE.ok.getD _
 have H4:=aqi (λw=>aiz x nK w);rw[<-hx]at xt;rw[<-xt]at H4;obtain⟨ab,ao,rfl,sX,c1⟩:=oE.mS (i:=ly-1) aC;have Fi:Y[ly-1]'(aC)=x:=by rw[hx];simp[bE,(aC:ly-1<Y.length)]
 rw[Fi]at c1;have aha:s<32:=HN.1;have HNh:=aqi HN;have H5:=λw (h:Sl w A c X)=>Xv A c X s w h aC aC 
 have H6:=λw (h:Sl w (some ⟨ab,ao,none⟩) d Y)=>Xv (some ⟨ab,ao,none⟩) d Y s w h aC aC 
 rw[UE,<-G3,(aC:s/32+lx+1=lx+1)]at H5;rw[UH,<-Kn,(aC:s/32+ly+1=ly+1)]at H6;have H5h:=aqi H5;have H6h:=aqi H6;have HX:=aqi G3;have HY:=aqi Kn;have HS2:=aqi lj;have HR2:=aqi oE;have H1h:=aqi H1;have H2h:=aqi H2;have H3h:=aqi H3;clear H1 H2 H3 H5 H6 UE UH HN G3 Kn hx Fi xt pd lj oE NV;have Dw:(ly:Int)-1=((ly-1:Nat):Int):= aC ;have d0:decide (cm<0)=false:=bD aC;have d2:decide ((lx:Int)+1<=(lx:Int))=false:=bD aC;have qT:=Hy (lx+1-ly) aC;rw[show((lx+1-ly:Nat):Int)=lx+1-(ly:Int)by omega]at qT;have d1:((ly:Int)==1)=false:= aN ;go_enter func322,ntmps322;go_wp2_with fail;refine H1h.out.mono ?_;rintro e w' ⟨rfl,rfl⟩;go_wp2_with fail;refine H2h.out.mono ?_;rintro e w' ⟨rfl,rfl⟩;go_wp2_with fail;refine H3h.out.mono ?_;rintro e w1 ⟨rfl,lh⟩;have c2:=c1;rw[<-(lh.cell (p:=⟨ab,ao+(ly-1),none⟩) sX)]at c2;go_wp2_with fail;refine(H4.out _).mono ?_;rintro e w2 ⟨rfl,rfl⟩;go_wp2_with fail;refine(H5h.out _ (HS2.out.below lh)).mono ?_;rintro e w2 ⟨T,v1,he,EV,GO,lQ,om⟩;obtain⟨g,cap,R,Vu,UX,UY,Uw,EX,agL⟩:=lQ.rx (by intro h;rw[h]at GO;simp at GO);have UA:=aqi lQ.ok;rw[GO]at Vu EX;subst Vu;subst he;clear lQ;have HTv:=aqi EV;have HTl:=aqi GO;clear EV GO;go_wp2_with fail;refine(H6h.out _ ((HR2.out.below lh).below om)).mono ?_;rintro e w3 ⟨S,v2,he,Uz,De,lQ,sG⟩;have J6:=Uw.rk (sG.block g UY);obtain⟨g',cap',R',tV,agR,ao0,_,aoX,_⟩:=lQ.rx (by intro h;rw[h]at De;simp at De);obtain⟨_,_,e2,NY⟩:=lQ.sl;rw[tV]at e2;cases e2;have Kf:g'≠g:= aC 
 have H7:=wL (some ⟨g',0,none⟩) cap' S w3 NY;have hV:iT S=ij (val Y*2^s):=by rw[sx lQ.ok,Uz]
 have Aq:=NY.vO;rw[hV]at H7 Aq;rw[HNh.out.2.1,De]at H7;rw[De]at tV;have agH:iV w w3:=(lh.trans om).trans sG;subst tV;subst he;have H7h:=aqi H7;clear lQ NY hV Uz De H7 Uw om sG;go_wp2_with fail;refine H7h.out.mono ?_;rintro e w4 ⟨rfl,rfl⟩;go_wp2;go_loop [9] (λu=>u = .slice (some ⟨g,0,none⟩) (lx+1) cap) (λ_=>0)
 case atStart=>rfl
 case round=>
  subst hrel;go_wp2;have zh:=Rw.AS w3 (lx+1-ly);have Kp:=HNh.out.2.1;have ze:=HNh.out.2.2.1;have tI:=HNh.out.2.2.2.1;have UC:=mQ (val Y*2^s);have N9:=kP (val Y*2^s);rw[<-N9]at tI;generalize ij (val Y*2^s)=V at *
  have y9:=tD.start (A:=val X) (s:=s) (V:=V) (O:=T) UA.out HTv.out (la:=lx) (by rw[HX.out];exact po HS2.out.ok) HTl.out aha aC aC (by rw[Kp];exact tI);have Uy:=Aq.alloc (.cells (pn (List.replicate (lx+1-ly) 0)).toArray 171);have Ux:Rx (w3.alloc (.cells (pn (List.replicate (lx+1-ly) 0)).toArray 171)) g T R:=J6.rk ((iV.alloc w3 _).block g (by have:=J6.lt;omega));rw[Kp]at y9;have HD0:=aqi y9;have HR0:=aqi zh;have HRx:=aqi Ux;have HSV:=aqi Uy;have HE0:=aqi (agH.trans (iV.alloc w3 (.cells (pn (List.replicate (lx+1-ly) 0)).toArray 171)));have HnV:=aqi Kp;have HVok:=aqi UC;have HVv:=aqi N9;have HN1:=aqi ze;have hgq:g<w3.heap.size:=J6.lt;have UZ:w.heap.size<=g:=bH lh.size UX;clear y9 zh Ux Uy Aq J6 Kp UC N9 ze tI HTv HTl UA H1h H2h H3h H4 H5h H6h H7h c1 c2 d2 qT lh UX agR UY HNh HS2 HR2;go_loopw [13] (λj wr=>∃ (k:Nat) (O Q:List Nat),k<=lx+1-ly/\j = .int .i64 ((k:Int)-1)/\tD (val X*2^s) V k (lx+1) O Q/\Rx wr g O R/\Rw wr w3.heap.size Q/\Sl wr (some ⟨g',0,none⟩) cap' V/\iV w wr) (λj _=>(intOf j+1).toNat)
  case atStart=>
   exact⟨lx+1-ly,T,_,bF _,by go_num,HD0.out,HRx.out,HR0.out,HSV.out,HE0.out⟩
  case round=>
   clear HD0 HRx HR0 HSV HE0;obtain⟨k,O,Q,hk,rfl,hD,EU,NX,Aq,UQ⟩:=hrel;have HE:=aqi UQ;have HSV:=aqi Aq;have HRQ:=aqi NX;have HRO:=aqi EU;have HD:=aqi hD;clear hD UQ;rcases k with _|t
   .have hO:=HD.out.Wx;have Vk:=HRO.out.sl HD.out.A5 (cap:=cap) aC agL ly;have HZ:=PK (some ⟨g,0,none⟩) cap (O.take ly) s wr Vk bc aC;have e1:(O.take ly).length=ly:=by rw[cF];omega
    rw[e1]at HZ;have HZh:=aqi HZ;have HQs:=aqi (HRQ.out.sl HD.out.DZ (by rw[HD.out.Hs];omega));have yd:0<val V:=by
     have:=HD.out.lt;rcases fc (val V)with h|h
     .rw [h,dc]at this;omega
     .exact h
    have UF:0<val Y:=by
     rw[HVv.out]at yd;exact Nat.pos_of_mul_pos_right yd
    have On:=aed (a:=val X) (b:=val Y) (s:=s) (q:=val Q) (r:=val O) UF (by rw[<-HVv.out];exact HD.out.eq) (by rw[<-HVv.out];have:=HD.out.lt;rw[cU,cI]at this;exact this);have E3:val (O.take ly)=val O:=by
     rw[aoh HD.out.A5,cH];have:=HD.out.lt;rw[cU,cI]at this;refine fQ this ?_;have h:=po HVok.out;rw[HnV.out]at h;exact h
    have Us:iT (O.take ly)=ij (val X%val Y*2^s):=by rw[sx (HD.out.A5.take ly),E3,On.2]
    rw[Us]at HZh;have J4:=HD.out.Hs;rw[HnV.out]at J4;have Uu:pT (val X/val Y) (lx+1-ly)=Q:=Nd HD.out.DZ J4 On.1;have HQd:=aqi Uu;generalize rI (s%32) ((ij (val X%val Y*2^s)).drop (s/32))=Z at *
    have HQl:=aqi J4;clear On E3 Us Uu Vk HZ e1 J4 hO yd UF Aq EU NX;go_wp2_with fail;refine HZh.out.mono ?_;rintro e w5 ⟨AZ,cZ,rfl,hZs,UI⟩;go_wp2;go_ret2;have hq:=HQs.out.below UI;rw[HQl.out]at hq;exact⟨_,_,_,_,by rw[BH];rfl,by rw[HQd.out];exact hq,hZs,HE.out.trans UI⟩
   .have hO:=HD.out.Wx;have c4:=EU.cell (i:=t+ly) aC;have c5:=EU.cell (i:=t+ly-1) aC;have c6:=EU.cell (i:=t+ly-2) aC;obtain⟨_,_,e1,_,c7⟩:=Aq.mS (i:=ly-1) (by rw[HnV.out];omega);obtain⟨_,_,e2,_,c8⟩:=Aq.mS (i:=ly-2) (by rw[HnV.out];omega);cases e1;cases e2;rw[cD]at c7 c8;have v7:V[ly-1]'(by rw[HnV.out];omega)=V.getD (ly-1) 0:=by simp[bE,HnV.out,(aC:ly-1<ly)]
    have v8:V[ly-2]'(by rw[HnV.out];omega)=V.getD (ly-2) 0:=by simp[bE,HnV.out,(aC:ly-2<ly)]
    rw[v7]at c7;rw[v8]at c8;clear v7 v8;have mc:=HD.out.A5;have o4:=mc.getD (t+ly);have o5:=mc.getD (t+ly-1);have o6:=mc.getD (t+ly-2);have o7:=HVok.out.getD (ly-1);have o8:=HVok.out.getD (ly-2);have hG:=HD.out.agt HVok.out (by rw[HnV.out];omega) (by rw[HnV.out];exact HN1.out);rw[HnV.out]at hG;obtain⟨gd,g1,g2,g3,g4⟩:=agu (O.getD (t+ly) 0) (O.getD (t+ly-1) 0) (O.getD (t+ly-2) 0) (V.getD (ly-1) 0) (V.getD (ly-2) 0) HN1.out o7 o5 o6 o8 hG.1;have HGq:=aqi (hG.2 gd g1 g2 g3);have HG:=aqi g4;clear hG g2 g3 g4 mc Aq EU NX;generalize O.getD (t+ly) 0=x4 at *
    generalize O.getD (t+ly-1) 0=x5 at *
    generalize O.getD (t+ly-2) 0=x6 at *
    have HV1:=aqi (rfl:V.getD (ly-1) 0=V.getD (ly-1) 0);generalize hx7:V.getD (ly-1) 0=x7 at *
    generalize V.getD (ly-2) 0=x8 at *
    clear hx7 HV1;have i1:(((t+1:Nat):Int)-1)=(t:Int):= aC ;have i2:((t:Int)+ly).toNat=t+ly:= aC ;have i3:((t:Int)+ly-1).toNat=t+ly-1:= aC ;have i4:((t:Int)+ly-2).toNat=t+ly-2:= aC ;have i6:((ly:Int)-2)=((ly-2:Nat):Int):= aC ;have p1:IntKind.i64.wrap ((t:Int)+ly)=(t:Int)+ly:=i64_in _ aC aC;have p2:IntKind.i64.wrap ((t:Int)+ly-1)=(t:Int)+ly-1:=i64_in _ aC aC;have p3:IntKind.i64.wrap ((t:Int)+ly-2)=(t:Int)+ly-2:=i64_in _ aC aC;have p4:IntKind.i64.wrap ((ly-1:Nat):Int)=((ly-1:Nat):Int):=i64_in _ aC aC;have p5:IntKind.i64.wrap ((ly-2:Nat):Int)=((ly-2:Nat):Int):=i64_in _ aC aC;have j6:((ly-1:Nat):Int)<ly:= aC ;have j7:((ly-2:Nat):Int)<ly:= aC ;have j0:0<=(t:Int)+ly:= aC ;have j1:0<=(t:Int)+ly-1:= aC ;have j2:0<=(t:Int)+ly-2:= aC ;have j3:(t:Int)+ly<lx+1:= aC ;have j4:(t:Int)+ly-1<(lx:Int)+1:= aC ;have j5:(t:Int)+ly-2<(lx:Int)+1:= aC ;rw[i1];clear i1;go_wp2;go_quiet (exact akq (HG.out _));go_wp2_with fail;have HTk:=anv g t (cap-t) cap' gd O V R (some ⟨g',0,none⟩) (wr.drewN nq) (HRO.out.rk rfl) (HSV.out.drewN nq) (λb' o _ e=>by cases e;exact Kf) HD.out.A5 (by rw[HnV.out];omega) g1 aC;rw[HnV.out,(aC:ly+1=t+ly+1-t)]at HTk;refine HTk.mono ?_;rintro e w5 ⟨O',δ,rfl,Uv,rq,E9,hδ,lV,Kx,Fa⟩;have HRO':=aqi Uv;have HON:=aqi Fa;have HSV5:=aqi ((HSV.out.drewN nq).pO (λb' o _ e=>by cases e;exact Kf) Fa);have HRQ5:=aqi (show Rw w5 w3.heap.size Q from(Fa.pO _ aC).trans HRQ.out);have HE5:=aqi (show iV w w5 from Fp.iV.anS HE.out Fa UZ);have hPt:=pw t;have UD:0<val V:=by
     have:=HD.out.lt;rcases fc (val V)with h|h
     .rw [h,dc]at this;omega
     .exact h
    have wg:IntKind.u32.wrap (gd:Int)=gd:=by rw[IntKind.wrap_u32];omega
    have htm:(t:Int)<lx+1-(ly:Int):= aC ;have Vp:t<Q.length:=by rw[HD.out.Hs,HnV.out];omega
    have NW:=bJ Vp;have cq:=HRQ5.out.cell NW;have fq:=HRQ5.out.frozen t;generalize Q[t]=q0 at *
    have HQG:=aqi NW;clear NW Vp c4 c5 c6 c7 c8 HRO HRQ HSV HE HTk Uv Fa;rcases gv δ 1 with VJ|hδ1
    .obtain rfl:δ=0:= aC ;have Uo:=S9 hPt UD (by rw[lV,cT,cg]) HGq.out.1;have HDS:=aqi (HD.out.step (x:=gd) (by rw[HnV.out];omega) (by rw[rq,hO]) E9 aC (by rw[lV,cT,cg]) Uo.2);clear Uo lV Kx E9 rq HD HGq;have HRQ6:=aqi (λx:Nat=>HRQ5.out.set t x);have HRO6:=aqi (λv:Value=>HRO'.out.rk (w':=w5.setCell ⟨w3.heap.size,t,none⟩ v) (by simp only[World.setCell,fH];rw[bA aC]));have HSV6:=aqi (λv:Value=>HSV5.out.TR (b:=w3.heap.size) aC t v);have HE6:=aqi (λv:Value=>HE5.out.setCell (p:=⟨w3.heap.size,t,none⟩) (by show w.heap.size<=w3.heap.size;omega) v);go_wp2;go_roundw
     case rel=>exact⟨t,O',Q.set t gd,aC,by go_num,HDS.out,HRO6.out _,HRQ6.out _,HSV6.out _,HE6.out _⟩
     case measure=>simp[intOf]
    .obtain rfl:δ=1:= aC ;have sZ:=HD.out.XW (x:=gd) HVok.out E9 (by rw[HnV.out];exact lV) (by rw[HnV.out];exact Kx);have qS:=sZ.2;have HB:=aqi (λ(κ:Nat) (O2:List Nat)=>HD.out.acd (x:=gd) (κ:=κ) (O2:=O2) HVok.out (by rw[HnV.out];omega) E9 (by rw[HnV.out];exact lV) (by rw[HnV.out];exact Kx) g1 HGq.out.2 UD);have HP0:=aqi (yV.start E9 t V);have U7:O'.length=lx+1:=by rw[rq,hO]
     have HL':=aqi U7;have hxm:IntKind.u64.wrap ((gd:Int)-1)=((gd-1:Nat):Int):=by rw[IntKind.wrap_u64];omega
     have wg1:IntKind.u32.wrap ((gd-1:Nat):Int)=((gd-1:Nat):Int):=by rw[IntKind.wrap_u32];omega
     clear sZ lV Kx E9 rq U7 HD HGq wg cq fq;go_wp2;go_loopw [15,125] (λcy i wr2=>∃ (k c':Nat) (O2:List Nat),k<=ly/\i = .int .i64 k/\cy = .int .u32 c'/\yV O' t V k O2 c'/\Rx wr2 g O2 R/\uo g w5 wr2) (λ_ i _=>ly-(intOf i).toNat)
     case atStart=>exact⟨0,0,O',cj _,rfl,rfl,HP0.out,HRO'.out,uo.refl _ _⟩
     case round=>
      clear HP0 HRO';obtain⟨k,c',O2,yi,rfl,rfl,hP,BS,G6⟩:=hrel;have HP:=aqi hP;have BX:=hP.MV;have o9:O2.length=lx+1:=by rw[hP.len];exact HL'.out
      have HL2:=aqi o9;clear hP;by_cases iK:k<ly
      .have AE:k<V.length:=by rw[HnV.out];exact iK
       obtain⟨_,_,e1,_,c1⟩:=(HSV5.out.pO (λb' o _ e=>by cases e;exact Kf) G6).mS AE;cases e1;rw[cD]at c1;have v7:V[k]=V.getD k 0:=by simp[bE,AE]
       rw[v7]at c1;have rf:t+k<O2.length:= aC ;have c2:=BS.cell rf;have c3:=BS.frozen (t+k);have rh:V.getD k 0<4294967296:=HVok.out.getD k;have Hf:O2.getD (t+k) 0<4294967296:=HP.out.ok.getD _;have HST:=aqi (HP.out.step HVok.out AE (by rw[HL'.out,HnV.out];omega));have HRS:=aqi (λx:Nat=>BS.set rf x);have HOS:=aqi (λ(v:Value)=>G6.IM (t+k) v);have HA:=aqi (λw=>Ga (O2.getD (t+k) 0) (V.getD k 0) c' w Hf rh BX);clear BS G6 HP v7 AE rf o9 HL2;generalize O2.getD (t+k) 0=u at *
       generalize V.getD k 0=y at *
       have Az:((t:Int)+k).toNat=t+k:= aC ;have EY:0<=(t:Int)+k:= aC ;have hi3:(t:Int)+k<lx+1:= aC ;go_wp2_with fail;refine(HA.out _).mono ?_;rintro e w6 ⟨rfl,rfl⟩;go_wp2;go_roundw
       case rel=>
        exact⟨k+1,(u+y+c')/4294967296,O2.set (t+k) ((u+y+c')%4294967296),aC,by go_num,rfl,HST.out,HRS.out _,HOS.out _⟩
       case measure=>simp[intOf];omega
      .obtain rfl:k=ly:= aC ;have J3:=(show yV O' t V V.length O2 c' by rw[HnV.out];exact HP.out).Pn (by rw[HL'.out,HnV.out];omega);rw[HnV.out]at J3;obtain⟨q1,q2,⟨κ,q3,q4⟩,q5⟩:=J3;have rf:t+k<O2.length:= aC ;have c2:=BS.cell rf;have c3:=BS.frozen (t+k);have Hf:O2.getD (t+k) 0<4294967296:=HP.out.ok.getD _;have HDS:=aqi (HB.out κ _ (by rw[q1];exact HL'.out) q2 q3 (by rw[HnV.out];exact q4) (by rw[HnV.out];exact q5));have HRS:=aqi (λx:Nat=>BS.set rf x);have HOS:=aqi (λ(v:Value)=>G6.IM (t+k) v);have J5:∀ v:Value,Rw (wr.setCell ⟨g,t+k,none⟩ v) w3.heap.size Q:=λv=>((HOS.out v).pO _ aC).trans HRQ5.out
       have hcq:∀ v:Value,(wr.setCell ⟨g,t+k,none⟩ v).cell? ⟨w3.heap.size,t,none⟩=some (.int .u32 (q0:Int)):=λv=>(J5 v).cell HQG.out
       have hfq:∀ v:Value,(wr.setCell ⟨g,t+k,none⟩ v).frozen? ⟨w3.heap.size,t,none⟩=false:=λv=>(J5 v).frozen t
       have HRQ8:=aqi (λ(v:Value) (x:Nat)=>(J5 v).set t x);have HRO8:=aqi (λ(x:Nat) (v:Value)=>(HRS.out x).rk (w':=(wr.setCell ⟨g,t+k,none⟩ (.int .u32 (x:Int))).setCell ⟨w3.heap.size,t,none⟩ v) (by simp only[World.setCell,fH];rw[bA aC]));have HSV8:=aqi (λ(v v2:Value)=>(HSV5.out.pO (λb' o _ e=>by cases e;exact Kf) (HOS.out v)).TR (b:=w3.heap.size) aC t v2);have HE8:=aqi (λ(v v2:Value)=>(Fp.iV.only HE5.out (HOS.out v) UZ).setCell (p:=⟨w3.heap.size,t,none⟩) (by show w.heap.size<=w3.heap.size;omega) v2);clear J5 HRS HOS BS G6 HP q1 q2 q3 q4 q5 rf o9 HL2;generalize O2.getD (t+k) 0=u at *
       have Az:((t:Int)+k).toNat=t+k:= aC ;have EY:0<=(t:Int)+k:= aC ;have hi3:(t:Int)+k<lx+1:= aC ;have hi4:IntKind.u32.wrap ((u:Int)+c')=(((u+c')%4294967296:Nat):Int):=by rw[IntKind.wrap_u32];omega
       generalize (u+c')%4294967296=uu at *
       go_wp2;go_roundw
       case rel=>exact⟨t,O2.set (t+k) uu,Q.set t (gd-1),aC,by go_num,HDS.out,HRO8.out _ _,HRQ8.out _ _,HSV8.out _ _,HE8.out _ _⟩
       case measure=>simp[intOf]
def amS:E.le (.v (.slice none 0 0)) (ik []):=λbs br w v h=>by
 obtain rfl:=iQ.kX h;exact .sl false 0 1 _ none 0 (λ_ _=>undef) (bF _) aE (λ_=>rfl) (λi j hi=>absurd hi (bG i)) (λi j hi=>absurd hi (bG i)) (λi j hi=>absurd hi (bG i)) (λi j hi=>absurd hi (bG i))
def amT{x:Nat}:E.le (.sl false 1 1 λi_ j_=>[.v (.int .u32 (x:Int))].getD (i_*1+j_) (.v (.bool false))) (ik [x]):=.sl λi j hi hj=>by
 obtain rfl:i=0:= aC ;obtain rfl:j=0:= aC ;exact⟨.refl _,rfl⟩
def SJ(L:List Nat)(hk:iZ L):ie 260 [ik L] (ik L):=Iq hk call260 (λA c w h _=>MZ A c L w h) λA c B w e w' h hB ⟨h1,h2⟩=>by
 subst h2;exact⟨_,h1,Below.refl _ _,CE hB (Below.refl _ _) ⟨bF _,h.len,h.ok,λhn=>by have:=h.zL hn;have:=h.cap;omega,h.cell⟩⟩
def SL(L:List Nat)(hk:iZ L)(hl:L.length<=1000000):ie 204 [ik L] (ik L):=Iq hk call204 (λA c w h _=>M1 A c L w h aC) λA c B w e w' h hB r=>rl B w e w' hB r
def aiW(L M:List Nat)(hL:iZ L)(hM:iZ M)(h1:L.length<=100000)(h2:M.length<=100000)(hc:lp (val (iT L)) (val (iT M))<0):ie 322 [ik L,ik M] (.iE [ik [],ik (iT L)]):=by
 have ta:=qw L;have tb:=qw M;unfold np at ta tb;exact ak call322 func322 (ae [ag [ik L] (vF _ aD),ag [ik M] (vF _ aD),ag [ik (iT L),ik (iT M)] (PG _ _ (iZ.iT aD) (iZ.iT aD) aC aC),tB 25 (bC hc),ag [ik (iT L)] (SL _ (iZ.iT aD) aC)]<|rR (.iE [ik [],ik (iT L)]) (.iE (.cons amS (.cons (.refl _) .nil)):E.le (.iE [.v (.slice none 0 0),ik (iT L)]) (.iE [ik [],ik (iT L)]))) 
def aiX(L M:List Nat)(hL:iZ L)(hM:iZ M)(h1:L.length<=100000)(h2:M.length<=100000)(hc:¬lp (val (iT L)) (val (iT M))<0)(hl:(iT M).length=1)(BY:0<(iT M).getD 0 0)(BZ:(iT M).getD 0 0<4294967296):ie 322 [ik L,ik M] (.iE [ik (pT (val (iT L)/(iT M).getD 0 0) (iT L).length),ik [val (iT L)%(iT M).getD 0 0]]):=by
 have ta:=qw L;have tb:=qw M;unfold np at ta tb;exact ak call322 func322 (ae [ag [ik L] (vF _ aD),ag [ik M] (vF _ aD),ag [ik (iT L),ik (iT M)] (PG _ _ (iZ.iT aD) (iZ.iT aD) aC aC),tB 25 (bD hc),ah 30 (((iT M).length:Int)==1) (by rw[hl];rfl),iX 0 ((iT M).length) aC,.c (ai4 (iT L) ((iT M).getD 0 0) (iZ.iT aD) aC BY BZ)]<|rR (.iE [ik (pT (val (iT L)/(iT M).getD 0 0) (iT L).length),ik [val (iT L)%(iT M).getD 0 0]]) (.iE (.cons (.refl _) (.cons amT .nil)):E.le (.iE [ik (pT (val (iT L)/((iT M).getD 0 0)) (iT L).length),(.sl false 1 1 λi_ j_=>[.v (.int .u32 ((val (iT L)%((iT M).getD 0 0):Nat):Int))].getD (i_*1+j_) (.v (.bool false)))]) (.iE [ik (pT (val (iT L)/(iT M).getD 0 0) (iT L).length),ik [val (iT L)%(iT M).getD 0 0]]))) 
def PH(L M:List Nat)(hL:iZ L)(hM:iZ M)(h1:L.length<=100000)(h2:M.length<=100000)(h0:val M≠0):∃ T S:List Nat,ie 322 [ik L,ik M] (.iE [ik T,ik S])/\val T=val L/val M/\val S=val L%val M/\iZ T/\iZ S/\T.length<=L.length/\S.length<=L.length+1:=by
 have ta:=qw L;have tb:=qw M;unfold np at ta tb;have e1:=qZ L;have e2:=qZ M;by_cases hc:lp (val (iT L)) (val (iT M))<0
 .refine ⟨[],iT L,aiW L M hL hM h1 h2 hc,?_,?_,iZ.nil,hL.iT,cj _,aC⟩
  .rw [e1,e2]at hc;have:val L<val M:=by unfold lp at hc;split at hc<;>(try split at hc)<;>omega
   rw[dx this];rfl
  .rw [e1,e2]at hc;have:val L<val M:=by unfold lp at hc;split at hc<;>(try split at hc)<;>omega
   rw[cH this,e1]
 .have tJ:val M<=val L:=by rw[e1,e2]at hc;unfold lp at hc;split at hc<;>(try split at hc)<;>omega
  have kB:iT M≠[]:=by intro h;rw[h]at e2;exact h0 e2.symm
  have hlen:(iT M).length≠0:=by simpa using kB
  by_cases hl:(iT M).length=1
  .obtain ⟨x,hx⟩:=List.length_eq_one_iff.1 hl;have mc:=hM.iT;rw[hx]at mc;have VC:x=val M:=by rw[<-e2,hx];simp[val]
   have hg:(iT M).getD 0 0=x:=by rw[hx];rfl
   have:=aiX L M hL hM h1 h2 hc hl (by rw[hg];omega) (by rw[hg];exact mc.head);rw[hg]at this;refine⟨_,_,this,?_,?_,Gr _ _,iZ.cons (fQ (bV _ aC) mc.head) iZ.nil,by rw[BH];exact ta,aH⟩
   .rw [IZ,cH,e1,VC];exact cQ (cw _ _) (po hL.iT)
   .simp [val,e1,VC]
  .refine ⟨_,_,Cn hL hM call322 (λA c B d w h k hT=>aeg A B c d L M w _ _ _ rfl rfl rfl h k hT h1 h2 tJ aC) (λB w e w' hB ⟨A1,c1,B1,d1,q1,q2,q3,q4⟩=>⟨_,q1,q4,kJ.iE (.cons (CE hB q4 q2) (.cons (CE hB q4 q3) (.nil _ _ _)))⟩),?_,?_,Gr _ _,Cj _ _,?_,?_⟩
   .rw [IZ,cH];rw[cS aC];have g1:=po hL.iT;rw[e1]at g1;refine ca g1 ?_;obtain⟨l,rq⟩:∃ l,(iT M).length=l+1:=⟨(iT M).length-1,aC⟩
    have g2:4294967296^l<=val M:=by
     apply ct;intro q;have q2:(ij (val M)).length<=l:=xB aC;rw[<-sx hM]at q2;omega
    have g3:=de (4294967296^((iT L).length+1-(iT M).length)) g2;rw[<-bK]at g3;refine bH ?_ g3;exact b5 aE aC 
   .rw [L7 (mQ _),kP,ev _ (bL aE)]
   .rw [BH];omega
   .rw [LK,fe];have hb:32-iB ((iT M).getD ((iT M).length-1) 0)<33:= aC ;have:=aii (mQ (val L%val M)) (32-iB ((iT M).getD ((iT M).length-1) 0));rw[kP]at this;have h3:(ij (val L%val M)).length<=(ij (val L)).length:=nA (fj _ _);rw[<-sx hL]at h3;omega
def AX(m n:Nat)(h1:(ij m).length<=256)(h2:(ij n).length<=256)(h0:n≠0):ie 286 [ik (ij m),ik (ij n)] (.iE [ik (ij (m/n)),ik (ij (m%n)),iP 0]):=by
 obtain⟨T,S,tl,hT,hS,oT,oS,_,_⟩:=PH (ij m) (ij n) (mQ m) (mQ n) aC aC (by rw[kP];exact h0);rw[kP,kP]at hT hS;have hz:iT (ij n)=ij n:=wW n;have hl:=rP h0;have o9:(((iT (ij n)).length:Int)==0)=false:=by rw[hz];exact qa hl
 exact ak call286 func286 (ae [.c (Xk (ij m) (ij n) aD aD),ag [ik (ij n)] (vF _ (mQ _)),ai 18 (((iT (ij n)).length:Int)==0) o9,ag [ik (ij m),ik (ij n)] tl,ag [ik T] (vF _ aD),ag [ik (iT T)] (SJ _ (iZ.iT aD)),ag [ik S] (vF _ aD),ag [ik (iT S)] (SJ _ (iZ.iT aD))]<|rQ (.iE [ik (iT T),ik (iT S),iP 0]) (.iE [ik (ij (m/n)),ik (ij (m%n)),iP 0]) (by rw[sx oT,sx oS,hT,hS])) 
def Yn(a b:Dy)(p:Nat)(up:Bool)(ha:a.ix)(hb:b.ix)(b0:b.m≠0)(iA:8<=p)(im:p<=512):ie 251 [iz a,iz b,iP p,bP up] (.iE [iz (qm a b p up),iP (rN a b p up)]):=by
 by_cases a0:a.m=0
 .have e1:qm a b p up=iS/\rN a b p up=0:=by unfold qm rN;rw[bB a0,bB a0];exact⟨rfl,rfl⟩
  exact ak call251 func251 (ae [.o 18 (.e (xX _ _):aj (.sl true 2 3 λi_ j_=>(jg a++jg b).getD (i_*3+j_) (.v (.bool false))) (oD [a,b])),ag [iP p,oD [a,b]] (yN _ _ _ aD aD aC aC),ai 21 ((0:Int) != 0) aE,ai 28 (((ij b.m).length:Int)==0) (qa (rP b0)),ah 34 (((ij a.m).length:Int)==0) (wM (vz.2 a0)),.o 35 (.e Bm:aj (.agg ar) (iz iS))]<|rQ (.iE [iz iS,iP 0]) (.iE [iz (qm a b p up),iP (rN a b p up)]) (by rw[e1.1,e1.2])) 
 .have va:=ha.ij;have vb:=hb.ij;have xa:=ha.exp;have xb:=hb.exp;have ra:=ha.range.resolve_left a0;have rb:=hb.range.resolve_left b0;have pa:=pF a0;have pb:=pF b0;have hK:lX a b p 3=p+3+iB b.m-iB a.m:=rfl;have bs:=sC a0 (lX a b p 3);have z1:(ij (a.m*2^lX a b p 3)).length<=256:=pY aC;have hq:=Nf a0 b0 p 3 aE;have q0:a.m*2^lX a b p 3/b.m≠0:=by intro q;rw[q,tE]at hq;omega
  have z2:(ij (a.m*2^lX a b p 3/b.m)).length<=256:=pY (by have:=xS (cw (a.m*2^lX a b p 3) b.m);omega);have z3:(ij (a.m*2^lX a b p 3%b.m)).length<=256:=pY (by have:=xS (dU (bV (a.m*2^lX a b p 3) (eE b0)));omega);have mr:decide (0<(iB (a.m*2^lX a b p 3%b.m):Int))=decide (a.m*2^lX a b p 3%b.m≠0):=by
   by_cases h:a.m*2^lX a b p 3%b.m=0
   .rw [h,tE];rfl
   .have:=pF h;rw[bC h,bC aC]
  obtain⟨d1,d2⟩:=aee a0 b0 p up;have h0:a.m*2^lX a b p 3/b.m≠0\/a.m*2^lX a b p 3/b.m=0/\a.e-(lX a b p 3:Int)-b.e=0/\decide (0<(iB (a.m*2^lX a b p 3%b.m):Int))=false:=.inl q0;have hm:decide (0<(iB (a.m*2^lX a b p 3%b.m):Int))=true->p<iB (a.m*2^lX a b p 3/b.m):=λ_=>hq
  exact ak call251 func251 (ae [.o 18 (.e (xX _ _):aj (.sl true 2 3 λi_ j_=>(jg a++jg b).getD (i_*3+j_) (.v (.bool false))) (oD [a,b])),ag [iP p,oD [a,b]] (yN _ _ _ aD aD aC aC),ai 21 ((0:Int) != 0) aE,ai 28 (((ij b.m).length:Int)==0) (qa (rP b0)),ai 34 (((ij a.m).length:Int)==0) (qa (rP a0)),iF ((p:Int)+3) aC,ag [iz b] (JF _ aD),iF (((p:Int)+3)+(iB (Dy.m b):Int)) aC,ag [iz a] (JF _ aD),
   iF ((((p:Int)+3)+(iB (Dy.m b):Int))-(iB (Dy.m a):Int)) aC,.o 44 (aq (if((((p:Int)+3)+(iB (Dy.m b):Int))-(iB (Dy.m a):Int))>0 then((((p:Int)+3)+(iB (Dy.m b):Int))-(iB (Dy.m a):Int))else 0) (lX a b p 3:Int) aM),.c (xJ a.m (lX a b p 3) aC aC aC),ag [ik (ij (a.m*2^(lX a b p 3))),ik (ij b.m)] (AX _ _ aC aC aD),
   iF (a.e-(lX a b p 3:Int)) aC,iF ((a.e-(lX a b p 3:Int))-b.e) aC,ag [ik (ij ((a.m*2^(lX a b p 3))%b.m))] (ue _ aC),.c (IA (! (a.neg==b.neg)) ((a.m*2^(lX a b p 3))/b.m) ((a.e-(lX a b p 3:Int))-b.e) (decide (0<(iB ((a.m*2^(lX a b p 3))%b.m):Int))) up p aC aD aC aC aC aC aD)]<|rQ (.iE [iz (kI (!(a.neg==b.neg)) ((a.m*2^(lX a b p 3))/b.m) ((a.e-(lX a b p 3:Int))-b.e) (decide (0<(iB ((a.m*2^(lX a b p 3))%b.m):Int))) p up),iP (kp (!(a.neg==b.neg)) ((a.m*2^(lX a b p 3))/b.m) ((a.e-(lX a b p 3:Int))-b.e) (decide (0<(iB ((a.m*2^(lX a b p 3))%b.m):Int))) p up)]) (.iE [iz (qm a b p up),iP (rN a b p up)]) (by rw[<-d1,<-d2,<-mr];rfl)) 
def Yl(a b:Dy)(p:Nat)(ha:a.ix)(hb:b.ix)(b0:b.m≠0)(iA:8<=p)(im:p<=512):ie 207 [iz a,iz b,iP p] (.iE [iz (qm a b p false),iP (rN a b p false)]):=
 ak call207 func207 (af [.c (Yn a b p false aD aD aD aC aC)]) 
def Ym(a b:Dy)(p:Nat)(ha:a.ix)(hb:b.ix)(b0:b.m≠0)(iA:8<=p)(im:p<=512):ie 208 [iz a,iz b,iP p] (.iE [iz (qm a b p true),iP (rN a b p true)]):=
 ak call208 func208 (af [.c (Yn a b p true aD aD aD aC aC)]) 
def V0(l:List Iv)(i:Nat):PS:=⟨19,true,[(7,.e (iP i)),(6,.e (iP l.length)),(5,.e (iu l))],[]⟩
def VZ(l:List Iv)(N:Nat)(i:Nat):PS:=⟨19,true,[(7,.e (iP i)),(6,.e (iP l.length)),(5,.e (iu l))],[]⟩
def mf(a:Iv):E.le (.sl true 1 7 λi j=>(iN a).getD (i*7+j) (.v (.bool false))) (iu [a]):=.sl λi j hi hj=>by
 obtain rfl:i=0:= aC ;rcases j with _|_|_|_|_|_|_|j
 all_goals first|exact⟨.refl _,rfl⟩|omega
def AO(a b:Iv):E.le (.sl true 2 7 λi j=>(iN a++iN b).getD (i*7+j) (.v (.bool false))) (iu [a,b]):=.sl λi j hi hj=>by
 obtain rfl|rfl:i=0\/i=1:= aC 
 all_goals
  rcases j with _|_|_|_|_|_|_|j
  all_goals first|exact⟨.refl _,rfl⟩|omega
def vy{x:Iv}(h:x.ix)(ha:x.all=false):x.lo.ix/\x.hi.ix/\jf x.lo x.hi<=0:=by
 rcases h with⟨h1,_⟩|⟨_,h⟩
 .rw [ha]at h1;cases h1
 .exact h
def V2{x:Iv}(h:x.ix)(ha:x.all=true):x.lo=iS/\x.hi=iS:=by
 rcases h with⟨_,h⟩|⟨h1,_⟩
 .exact h
 .rw [ha]at h1;cases h1
def oz : ie 138 [] (iy il):=
 ak call138 func138 (af [.o 1 (.e Me:aj (.agg [bP false,.v (.slice none 0 0),iP 0,bP false,.v (.slice none 0 0),iP 0,bP true]) (iy il))]) 
def DE(lo hi:Dy)(e f:Int):ie 146 [iz lo,iP e,iz hi,iP f] (iy (mA lo e hi f)):=by
 by_cases he:e=0
 .by_cases hf:f=0
  .exact ak call146 func146 (ae [ai 10 (e != 0) (by rw[he];rfl),ai 13 (f != 0) (by rw[hf];rfl)]<|rQ (iy (Iv.mk lo hi false)) (iy (mA lo e hi f)) (by rw[show mA lo e hi f=⟨lo,hi,false⟩by unfold mA;rw[bA (by simp[he,hf])]];try rfl)) 
  .exact ak call146 func146 (ae [ai 10 (e != 0) (by rw[he];rfl),ah 13 (f != 0) (by simpa using hf),.c oz]<|rQ (iy il) (iy (mA lo e hi f)) (by rw[show mA lo e hi f=il by unfold mA;rw[bB (.inr hf)]])) 
 .exact ak call146 func146 (ae [ah 10 (e != 0) (by simpa using he),.c oz]<|rQ (iy il) (iy (mA lo e hi f)) (by rw[show mA lo e hi f=il by unfold mA;rw[bB (.inl he)]])) 
def V4 : ie 200 [iz iS] (bP true):=
 ak call200 func200 (af [ai 4 iS.neg rfl,ah 10 (((ij iS.m).length:Int)==0) (wM (vz.2 rfl)),ah 15 (iS.e==0) rfl]) 
def rj(x:Iv)(hx:x.ix):ie 127 [iy x] (bP true):=by
 by_cases lO:x.all=true
 .obtain ⟨h1,h2⟩:=V2 hx lO;exact ak call127 func127 (af [ah 5 x.all lO,.c (by rw[h1];exact V4:ie 200 [iz x.lo] (bP true)),.c (by rw[h2];exact V4:ie 200 [iz x.hi] (bP true))]) 
 .replace lO:x.all=false:=by simpa using lO
  obtain⟨h1,h2,h3⟩:=vy hx lO;exact ak call127 func127 (af [ai 5 x.all lO,ag [iz x.lo] (sT _ aD),ag [iz x.hi] (sT _ aD),ag [iz x.lo,iz x.hi] (nR _ _ aD aD),tB 30 (bC h3)]) 
def V1(l:List Iv)(hl:l.length<=1000)(hv:∀ i,i<l.length->(l.getD i il).ix)(ha:∀ i,i<l.length->(l.getD i il).all=false):ie 143 [iu l] (bP true):=
 ak call143 func143 (af [.s (Sp.jT (V0 l) 0 l.length aC (λi hi nP=>by
    have Vv:=hv i aC;have Oa:=ha i aC;exact iL (af [tT 8 ((i:Int)<l.length) aC,iX (i:Int) (l.length) aC,ai 12 ((l.getD i il).all) Oa,.c (rj (l.getD i il) aD),
     iF ((i:Int)+1) aC]) aF)
  (λhi=>by
    exact iL (af [tF 8 ((l.length:Int)<l.length) aC]) aF) aI:jS 2 f143 (V0 l 0) (.exit 0) ⟨19,true,[],[]⟩) .nil]) 
def Pd(l:List Iv)(hl:l.length<=1000)(hv:∀ i,i<l.length->(l.getD i il).ix)(N:Nat)(hN:N<l.length)(ha:∀ i,i<N->(l.getD i il).all=false)(tI:(l.getD N il).all=true):ie 143 [iu l] (bP false):=
 ak call143 func143 (af [.s (Sp.jT (VZ l N) 0 N aC (λi hi nP=>by
    have Vv:=hv i aC;have Oa:=ha i aC;exact iL (af [tT 8 ((i:Int)<l.length) aC,iX (i:Int) (l.length) aC,ai 12 ((l.getD i il).all) Oa,.c (rj (l.getD i il) aD),
     iF ((i:Int)+1) aC]) aF)
  (λhi=>by
    exact iL (af [tT 8 ((N:Int)<l.length) aC,iX (N:Int) (l.length) aC,ah 12 ((l.getD N il).all) tI]) aF) aI:jS 2 f143 (VZ l N 0) .ret ⟨19,true,[(2,.e (bP false))],[]⟩) .nil]) 
def qJ(x:Iv)(hx:x.ix):ie 143 [iu [x]] (bP (!x.all)):=by
 have hv:∀ i,i<[x].length->([x].getD i il).ix:=λi hi=>(match i,hi with
  | 0,_=>hx
  |n+1,hi=>absurd hi aH)
 cases lO:x.all with
 |true=>exact Pd [x] aH hv 0 aH (λi hi=>absurd hi (bG i)) lO
 |false=>exact V1 [x] aH hv (λi hi=>(match i,hi with
  | 0,_=>lO
  |n+1,hi=>absurd hi aH))
def AN(x y:Iv)(hx:x.ix)(hy:y.ix):ie 143 [iu [x,y]] (bP (!(x.all||y.all))):=by
 have hv:∀ i,i<[x,y].length->([x,y].getD i il).ix:=λi hi=>(match i,hi with
  | 0,_=>hx
  | 1,_=>hy
  |n+2,hi=>absurd hi aH)
 cases lO:x.all with
 |true=>exact Pd [x,y] aH hv 0 aH (λi hi=>absurd hi (bG i)) lO
 |false=>cases B6:y.all with
  |true=>exact Pd [x,y] aH hv 1 aH (λi hi=>(match i,hi with
   | 0,_=>lO
   |n+1,hi=>absurd hi aC)) B6
  |false=>exact V1 [x,y] aH hv (λi hi=>(match i,hi with
   | 0,_=>lO
   | 1,_=>B6
   |n+2,hi=>absurd hi aH))
def xA(x y:Iv)(p:Nat)(hx:x.ix)(hy:y.ix)(iA:8<=p)(im:p<=512):ie 61 [iy x,iy y,iP p] (iy (jX x y p)):=by
 by_cases hk:(x.all||y.all)=true
 .exact ak call61 func61 (ae [.o 13 (.e (AO _ _):aj (.sl true 2 7 λi_ j_=>(iN x++iN y).getD (i_*7+j_) (.v (.bool false))) (iu [x,y])),ag [iu [x,y]] (AN _ _ aD aD),ai 14 (!(x.all||y.all)) (by rw[hk];rfl),.c oz]<|rQ (iy il) (iy (jX x y p)) (by rw[show jX x y p=il by unfold jX;rw[bB hk]])) 
 .replace hk:(x.all||y.all)=false:=by simpa using hk
  have lO:x.all=false:=by cases h:x.all;rfl;rw[h]at hk;simp at hk
  have B6:y.all=false:=by cases h:y.all;rfl;rw[h]at hk;simp at hk
  obtain⟨v1,v2,v3⟩:=vy hx lO;obtain⟨v4,v5,v6⟩:=vy hy B6;exact ak call61 func61 (ae [.o 13 (.e (AO _ _):aj (.sl true 2 7 λi_ j_=>(iN x++iN y).getD (i_*7+j_) (.v (.bool false))) (iu [x,y])),ag [iu [x,y]] (AN _ _ aD aD),ah 14 (!(x.all||y.all)) (by rw[hk];rfl),ag [iP p] (wI _),ah 18 (nm (p:Int)) (vK.2 ⟨aC,aC⟩),.c (Yj x.lo y.lo p aD aD aC aC),.c (D6 x.hi y.hi p aD aD aC aC),.c (DE (iM (iH x.lo y.lo) p false) (iM (iH x.hi y.hi) p true) (jY (iH x.lo y.lo) p false) (jY (iH x.hi y.hi) p true))]<|rQ (iy (mA (iM (iH x.lo y.lo) p false) (jY (iH x.lo y.lo) p false) (iM (iH x.hi y.hi) p true) (jY (iH x.hi y.hi) p true))) (iy (jX x y p)) (by rw[show jX x y p=_ by unfold jX;rw[bA (by rw[hk];decide)]])) 
def KD(x:Iv)(hx:x.ix):ie 205 [iy x] (iy (qK x)):=by
 by_cases lO:x.all=true
 .exact ak call205 func205 (ae [.o 4 (.e (mf _):aj (.sl true 1 7 λi_ j_=>(iN x).getD (i_*7+j_) (.v (.bool false))) (iu [x])),ag [iu [x]] (qJ _ aD),ai 5 (!x.all) (by rw[lO];rfl),.c oz]<|rQ (iy il) (iy (qK x)) (by rw[show qK x=il by unfold qK;rw[bB lO]])) 
 .replace lO:x.all=false:=by simpa using lO
  obtain⟨v1,v2,v3⟩:=vy hx lO;exact ak call205 func205 (ae [.o 4 (.e (mf _):aj (.sl true 1 7 λi_ j_=>(iN x).getD (i_*7+j_) (.v (.bool false))) (iu [x])),ag [iu [x]] (qJ _ aD),ah 5 (!x.all) (by rw[lO];rfl),ag [iz x.hi] (ve _ aD),ag [iz x.lo] (ve _ aD)]<|rQ (iy (Iv.mk (iO x.hi) (iO x.lo) false)) (iy (qK x)) (by rw[show qK x=⟨iO x.hi,iO x.lo,false⟩by unfold qK;rw[bA (by rw[lO];decide)]];try rfl)) 
def zF(x y:Iv)(p:Nat)(hx:x.ix)(hy:y.ix)(iA:8<=p)(im:p<=512):ie 140 [iy x,iy y,iP p] (iy (r7 x y p)):=by
 have hn:=Ch hy;exact ak call140 func140 (af [.c (KD y aD),.c (xA x (qK y) p aD aD aC aC)]) 
def sM(d:Dy)(hd:d.ix):ie 62 [iz d] (iy (jP d)):=
 ak call62 func62 (af [ag [iz d] (sT _ aD)]) 
def Gu(d:Dy)(hd:d.ix):ie 174 [iz d] (iz (mR d)):=by
 have hl:=hd.ij;by_cases h0:d.m=0
 .have e1:mR d=iS:=by
   rcases hd.canon with q|q
   .unfold mR iS;rw[q.1,q.2.2]
   .omega
  exact ak call174 func174 (ae [ag [iz d] (sT _ aD),ah 10 (((ij d.m).length:Int)==0) (wM (vz.2 h0)),.o 12 (.e Bm:aj (.agg ar) (iz iS))]<|rQ (iz iS) (iz (mR d)) (by rw[e1])) 
 .exact ak call174 func174 (af [ag [iz d] (sT _ aD),ai 10 (((ij d.m).length:Int)==0) (qa (rP h0)),ag [ik (ij d.m)] (SL _ (mQ _) aC)]) 
def Fm(a b:Dy)(ha:a.ix)(hb:b.ix):ie 210 [iz a,iz b] (iz (jB a b)):=by
 have hc:=EB a b;by_cases h:(jf a b<=0)
 .exact ak call210 func210 (ae [ag [iz a,iz b] (nR _ _ aD aD),tB 8 (bC h)]<|rQ (iz a) (iz (jB a b)) (by unfold jB;rw[bA aC])) 
 .exact ak call210 func210 (ae [ag [iz a,iz b] (nR _ _ aD aD),tB 8 (bD h)]<|rQ (iz b) (iz (jB a b)) (by unfold jB;rw[bB aC])) 
def Fo(a b:Dy)(ha:a.ix)(hb:b.ix):ie 209 [iz a,iz b] (iz (jy a b)):=by
 have hc:=EB a b;by_cases h:(0<=jf a b)
 .exact ak call209 func209 (ae [ag [iz a,iz b] (nR _ _ aD aD),tB 8 (bC h)]<|rQ (iz a) (iz (jy a b)) (by unfold jy;rw[bA aC])) 
 .exact ak call209 func209 (ae [ag [iz a,iz b] (nR _ _ aD aD),tB 8 (bD h)]<|rQ (iz b) (iz (jy a b)) (by unfold jy;rw[bB aC])) 
def Ca(x:Iv)(hx:x.ix):ie 132 [iy x] (iP (nc x)):=by
 by_cases lO:x.all=true
 .exact ak call132 func132 (ae [.o 5 (.e (mf _):aj (.sl true 1 7 λi_ j_=>(iN x).getD (i_*7+j_) (.v (.bool false))) (iu [x])),ag [iu [x]] (qJ _ aD),ai 6 (!x.all) (by rw[lO];rfl)]<|rQ (iP 0) (iP (nc x)) (by rw[show nc x=0 by unfold nc;rw[bB lO]])) 
 .replace lO:x.all=false:=by simpa using lO
  obtain⟨v1,v2,v3⟩:=vy hx lO;by_cases h1:0<x.lo.jq
  .exact ak call132 func132 (ae [.o 5 (.e (mf _):aj (.sl true 1 7 λi_ j_=>(iN x).getD (i_*7+j_) (.v (.bool false))) (iu [x])),ag [iu [x]] (qJ _ aD),ah 6 (!x.all) (by rw[lO];rfl),ag [iz x.lo] (qd _ aD),tB 12 (bC h1)]<|rQ (iP 1) (iP (nc x)) (by rw[show nc x=1 by unfold nc;rw[bA (by rw[lO];decide)];simp[h1]])) 
  .by_cases h2:x.hi.jq<0
   .exact ak call132 func132 (ae [.o 5 (.e (mf _):aj (.sl true 1 7 λi_ j_=>(iN x).getD (i_*7+j_) (.v (.bool false))) (iu [x])),ag [iu [x]] (qJ _ aD),ah 6 (!x.all) (by rw[lO];rfl),ag [iz x.lo] (qd _ aD),tB 12 (bD h1),ag [iz x.hi] (qd _ aD),tB 17 (bC h2)]<|rQ (iP (-1)) (iP (nc x)) (by rw[show nc x = -1 by unfold nc;rw[bA (by rw[lO];decide)];simp[h1,h2]])) 
   .exact ak call132 func132 (ae [.o 5 (.e (mf _):aj (.sl true 1 7 λi_ j_=>(iN x).getD (i_*7+j_) (.v (.bool false))) (iu [x])),ag [iu [x]] (qJ _ aD),ah 6 (!x.all) (by rw[lO];rfl),ag [iz x.lo] (qd _ aD),tB 12 (bD h1),ag [iz x.hi] (qd _ aD),tB 17 (bD h2)]<|rQ (iP 0) (iP (nc x)) (by rw[show nc x=0 by unfold nc;rw[bA (by rw[lO];decide)];simp[h1,h2]])) 
def Pe(x:Iv)(hx:x.ix)(lO:x.all=false):ie 182 [iy x] (.iE [iz (nM x),bP true]):=by
 obtain⟨v1,v2,v3⟩:=vy hx lO;have w1:=Ag v1;have w2:=Ag v2;exact ak call182 func182 (af [.o 5 (.e (mf _):aj (.sl true 1 7 λi_ j_=>(iN x).getD (i_*7+j_) (.v (.bool false))) (iu [x])),ag [iu [x]] (qJ _ aD),ah 6 (!x.all) (by rw[lO];rfl),.c (Gu x.lo aD),.c (Gu x.hi aD),.c (Fo (mR x.lo) (mR x.hi) aD aD)]) 
def ahE(x:Iv)(hx:x.ix)(lO:x.all=false):ie 287 [iy x] (.iE [iz (pP x),bP true]):=by
 obtain⟨v1,v2,v3⟩:=vy hx lO;have w1:=Ag v1;have w2:=Ag v2;by_cases hs:nc x=0
 .exact ak call287 func287 (ae [.o 5 (.e (mf _):aj (.sl true 1 7 λi_ j_=>(iN x).getD (i_*7+j_) (.v (.bool false))) (iu [x])),ag [iu [x]] (qJ _ aD),ah 6 (!x.all) (by rw[lO];rfl),.c (Ca x aD),ah 11 ((nc x)==0) (by rw[hs];rfl),.o 12 (.e Bm:aj (.agg ar) (iz iS))]<|rQ (.iE [iz iS,bP true]) (.iE [iz (pP x),bP true]) (by rw[show pP x=iS by unfold pP;rw[bB hs]])) 
 .exact ak call287 func287 (ae [.o 5 (.e (mf _):aj (.sl true 1 7 λi_ j_=>(iN x).getD (i_*7+j_) (.v (.bool false))) (iu [x])),ag [iu [x]] (qJ _ aD),ah 6 (!x.all) (by rw[lO];rfl),.c (Ca x aD),ai 11 ((nc x)==0) (by simpa using hs),.c (Gu x.lo aD),.c (Gu x.hi aD),.c (Fm (mR x.lo) (mR x.hi) aD aD)]<|rQ (.iE [iz (jB (mR x.lo) (mR x.hi)),bP true]) (.iE [iz (pP x),bP true]) (by rw[show pP x=jB (mR x.lo) (mR x.hi)by unfold pP;rw[bA hs]])) 
def Pc(x:Iv)(hx:x.ix):ie 252 [iy x] (iy (ky x)):=by
 by_cases lO:x.all=true
 .exact ak call252 func252 (ae [.o 8 (.e (mf _):aj (.sl true 1 7 λi_ j_=>(iN x).getD (i_*7+j_) (.v (.bool false))) (iu [x])),ag [iu [x]] (qJ _ aD),ai 9 (!x.all) (by rw[lO];rfl),.c oz]<|rQ (iy il) (iy (ky x)) (by rw[show ky x=il by unfold ky;rw[bB lO]])) 
 .replace lO:x.all=false:=by simpa using lO
  obtain⟨v1,v2,v3⟩:=vy hx lO;exact ak call252 func252 (ae [.o 8 (.e (mf _):aj (.sl true 1 7 λi_ j_=>(iN x).getD (i_*7+j_) (.v (.bool false))) (iu [x])),ag [iu [x]] (qJ _ aD),ah 9 (!x.all) (by rw[lO];rfl),.c (ahE x aD lO),.c (Pe x aD lO)]<|rQ (iy (Iv.mk (pP x) (nM x) false)) (iy (ky x)) (by rw[show ky x=⟨pP x,nM x,false⟩by unfold ky;rw[bA (by rw[lO];decide)]];try rfl)) 
def ahz(x y:Iv)(p:Nat)(gd gu:FuncId)(DD:Dy->Dy->Bool->Dy)(EE:Dy->Dy->Bool->Int):PS:=⟨96,true,[(41,.e (iP 0)),(40,.e (.agg (iN (Iv.mk x.lo y.lo x.lo.neg)++[ik (ij x.lo.m),iP x.lo.e]++iN (Iv.mk y.hi x.hi y.lo.neg)++[ik (ij y.lo.m),iP y.lo.e]++jg x.hi++jg y.hi))),(12,.box 12 0),(10,.box 10 0),(2,.e (iP p)),(3,.e (.fn gd [])),(4,.e (.fn gu []))],[(12,.cells 39 (iN (Iv.mk (DD x.lo y.lo false) (DD x.lo y.lo true) false))),(10,.cells 39 au)]⟩
def ahA(x y:Iv)(p:Nat)(gd gu:FuncId)(DD:Dy->Dy->Bool->Dy)(EE:Dy->Dy->Bool->Int):PS:=⟨96,true,[(41,.e (iP (0+1))),(40,.e (.agg (iN (Iv.mk x.lo y.lo x.lo.neg)++[ik (ij x.lo.m),iP x.lo.e]++iN (Iv.mk y.hi x.hi y.lo.neg)++[ik (ij y.lo.m),iP y.lo.e]++jg x.hi++jg y.hi))),(12,.box 12 0),(10,.box 10 0),(2,.e (iP p)),(3,.e (.fn gd [])),(4,.e (.fn gu []))],[(12,.cells 39 (iN (Iv.mk (jB (DD x.lo y.lo false) (DD x.lo y.hi false)) (jy (DD x.lo y.lo true) (DD x.lo y.hi true)) false))),(10,.cells 39 au)]⟩
def ahB(x y:Iv)(p:Nat)(gd gu:FuncId)(DD:Dy->Dy->Bool->Dy)(EE:Dy->Dy->Bool->Int):PS:=⟨96,true,[(41,.e (iP ((0+1)+1))),(40,.e (.agg (iN (Iv.mk x.lo y.lo x.lo.neg)++[ik (ij x.lo.m),iP x.lo.e]++iN (Iv.mk y.hi x.hi y.lo.neg)++[ik (ij y.lo.m),iP y.lo.e]++jg x.hi++jg y.hi))),(12,.box 12 0),(10,.box 10 0),(2,.e (iP p)),(3,.e (.fn gd [])),(4,.e (.fn gu []))],[(12,.cells 39 (iN (Iv.mk (jB (jB (DD x.lo y.lo false) (DD x.lo y.hi false)) (DD x.hi y.lo false)) (jy (jy (DD x.lo y.lo true) (DD x.lo y.hi true)) (DD x.hi y.lo true)) false))),(10,.cells 39 au)]⟩
def ahC(x y:Iv)(p:Nat)(gd gu:FuncId)(DD:Dy->Dy->Bool->Dy)(EE:Dy->Dy->Bool->Int):PS:=⟨96,true,[(41,.e (iP (((0+1)+1)+1))),(40,.e (.agg (iN (Iv.mk x.lo y.lo x.lo.neg)++[ik (ij x.lo.m),iP x.lo.e]++iN (Iv.mk y.hi x.hi y.lo.neg)++[ik (ij y.lo.m),iP y.lo.e]++jg x.hi++jg y.hi))),(12,.box 12 0),(10,.box 10 0),(2,.e (iP p)),(3,.e (.fn gd [])),(4,.e (.fn gu []))],[(12,.cells 39 (iN (Iv.mk (jB (jB (jB (DD x.lo y.lo false) (DD x.lo y.hi false)) (DD x.hi y.lo false)) (DD x.hi y.hi false)) (jy (jy (jy (DD x.lo y.lo true) (DD x.lo y.hi true)) (DD x.hi y.lo true)) (DD x.hi y.hi true)) false))),(10,.cells 39 au)]⟩
def VX(x y:Iv)(p:Nat)(gd gu:FuncId)(DD:Dy->Dy->Bool->Dy)(EE:Dy->Dy->Bool->Int)(hd:∀ a b,(a=x.lo\/a=x.hi)->(b=y.lo\/b=y.hi)->ie gd [iz a,iz b,iP (p:Int)] (.iE [iz (DD a b false),iP (EE a b false)]))
  (hu:∀ a b,(a=x.lo\/a=x.hi)->(b=y.lo\/b=y.hi)->ie gu [iz a,iz b,iP (p:Int)] (.iE [iz (DD a b true),iP (EE a b true)])) (hv:∀ a b up,(DD a b up).ix):ie 206 [iy x,iy y,iP p,.fn gd [],.fn gu []] (iy (qf DD EE x y)):=by
 exact ak call206 func206 (ae [.u 5,ah 42 (decide ((0:Int)<4)) aE]<|.w ((EE x.lo y.lo false)=0)
  (λk1=>.w ((EE x.lo y.lo true)=0)
   (λk2=>ae [.j 3 (ahz x y p gd gu DD EE)
   (af [iX 0 4 aC,iX 0 2 aC,iX 1 2 aC,.c (hd _ _ (.inl rfl) (.inl rfl):ie gd ((iz x.lo)::(iz y.lo)::(iP p)::[]) _),iX 0 2 aC,iX 1 2 aC,.c (hu _ _ (.inl rfl) (.inl rfl):ie gu ((iz x.lo)::(iz y.lo)::(iP p)::[]) _),tB 66 (bu k1),tB 69 (bu k2),ah 73 ((0:Int)==0) aE,ah 84 ((0:Int)==0) aE]),
    iF (0+1) aC,ah 42 (decide (((0+1):Int)<4)) aE]<|.w ((EE x.lo y.hi false)=0)
    (λk3=>.w ((EE x.lo y.hi true)=0)
     (λk4=>ae [.j 3 (ahA x y p gd gu DD EE)
   (ae [iX (0+1) 4 aC,iX 0 2 aC,iX 1 2 aC,.c (hd _ _ (.inl rfl) (.inr rfl):ie gd ((iz x.lo)::(iz y.hi)::(iP p)::[]) _),iX 0 2 aC,iX 1 2 aC,.c (hu _ _ (.inl rfl) (.inr rfl):ie gu ((iz x.lo)::(iz y.hi)::(iP p)::[]) _),tB 66 (bu k3),tB 69 (bu k4),ai 73 (((0+1):Int)==0) aE,ag [iz (DD x.lo y.hi false),iz (DD x.lo y.lo false)] (nR _ _ (hv _ _ _) (hv _ _ _))]<|.w ((jf (DD x.lo y.hi false) (DD x.lo y.lo false))<0)
    (λm1=>ae [tB 79 (bC m1),ai 84 (((0+1):Int)==0) aE,ag [iz (DD x.lo y.hi true),iz (DD x.lo y.lo true)] (nR _ _ (hv _ _ _) (hv _ _ _))]<|.w (0<(jf (DD x.lo y.hi true) (DD x.lo y.lo true)))
     (λm2=>ae [tB 90 (bC m2)]<|.e (af [.b 12 (.ji (by rw[show jB (DD x.lo y.lo false) (DD x.lo y.hi false)=(DD x.lo y.hi false)from bB m1,show jy (DD x.lo y.lo true) (DD x.lo y.hi true)=(DD x.lo y.hi true)from bB m2]):Bx.le (.cells 39 (iN (Iv.mk (DD x.lo y.hi false) (DD x.lo y.hi true) false))) (.cells 39 (iN (Iv.mk (jB (DD x.lo y.lo false) (DD x.lo y.hi false)) (jy (DD x.lo y.lo true) (DD x.lo y.hi true)) false))))]))
     (λm2=>ae [tB 90 (bD m2)]<|.e (af [.b 12 (.ji (by rw[show jB (DD x.lo y.lo false) (DD x.lo y.hi false)=(DD x.lo y.hi false)from bB m1,show jy (DD x.lo y.lo true) (DD x.lo y.hi true)=(DD x.lo y.lo true)from bA m2]):Bx.le (.cells 39 (iN (Iv.mk (DD x.lo y.hi false) (DD x.lo y.lo true) false))) (.cells 39 (iN (Iv.mk (jB (DD x.lo y.lo false) (DD x.lo y.hi false)) (jy (DD x.lo y.lo true) (DD x.lo y.hi true)) false))))])))
    (λm1=>ae [tB 79 (bD m1),ai 84 (((0+1):Int)==0) aE,ag [iz (DD x.lo y.hi true),iz (DD x.lo y.lo true)] (nR _ _ (hv _ _ _) (hv _ _ _))]<|.w (0<(jf (DD x.lo y.hi true) (DD x.lo y.lo true)))
     (λm2=>ae [tB 90 (bC m2)]<|.e (af [.b 12 (.ji (by rw[show jB (DD x.lo y.lo false) (DD x.lo y.hi false)=(DD x.lo y.lo false)from bA m1,show jy (DD x.lo y.lo true) (DD x.lo y.hi true)=(DD x.lo y.hi true)from bB m2]):Bx.le (.cells 39 (iN (Iv.mk (DD x.lo y.lo false) (DD x.lo y.hi true) false))) (.cells 39 (iN (Iv.mk (jB (DD x.lo y.lo false) (DD x.lo y.hi false)) (jy (DD x.lo y.lo true) (DD x.lo y.hi true)) false))))]))
     (λm2=>ae [tB 90 (bD m2)]<|.e (af [.b 12 (.ji (by rw[show jB (DD x.lo y.lo false) (DD x.lo y.hi false)=(DD x.lo y.lo false)from bA m1,show jy (DD x.lo y.lo true) (DD x.lo y.hi true)=(DD x.lo y.lo true)from bA m2]):Bx.le (.cells 39 (iN (Iv.mk (DD x.lo y.lo false) (DD x.lo y.lo true) false))) (.cells 39 (iN (Iv.mk (jB (DD x.lo y.lo false) (DD x.lo y.hi false)) (jy (DD x.lo y.lo true) (DD x.lo y.hi true)) false))))])))),
      iF ((0+1)+1) aC,ah 42 (decide ((((0+1)+1):Int)<4)) aE]<|.w ((EE x.hi y.lo false)=0)
      (λk5=>.w ((EE x.hi y.lo true)=0)
       (λk6=>ae [.j 3 (ahB x y p gd gu DD EE)
   (ae [iX ((0+1)+1) 4 aC,iX 0 2 aC,iX 1 2 aC,.c (hd _ _ (.inr rfl) (.inl rfl):ie gd ((iz x.hi)::(iz y.lo)::(iP p)::[]) _),iX 0 2 aC,iX 1 2 aC,.c (hu _ _ (.inr rfl) (.inl rfl):ie gu ((iz x.hi)::(iz y.lo)::(iP p)::[]) _),tB 66 (bu k5),tB 69 (bu k6),ai 73 ((((0+1)+1):Int)==0) aE,ag [iz (DD x.hi y.lo false),iz (jB (DD x.lo y.lo false) (DD x.lo y.hi false))] (nR _ _ (hv _ _ _) (vD (hv _ _ _) (hv _ _ _)))]<|.w ((jf (DD x.hi y.lo false) (jB (DD x.lo y.lo false) (DD x.lo y.hi false)))<0)
    (λm1=>ae [tB 79 (bC m1),ai 84 ((((0+1)+1):Int)==0) aE,ag [iz (DD x.hi y.lo true),iz (jy (DD x.lo y.lo true) (DD x.lo y.hi true))] (nR _ _ (hv _ _ _) (tw (hv _ _ _) (hv _ _ _)))]<|.w (0<(jf (DD x.hi y.lo true) (jy (DD x.lo y.lo true) (DD x.lo y.hi true))))
     (λm2=>ae [tB 90 (bC m2)]<|.e (af [.b 12 (.ji (by rw[show jB (jB (DD x.lo y.lo false) (DD x.lo y.hi false)) (DD x.hi y.lo false)=(DD x.hi y.lo false)from bB m1,show jy (jy (DD x.lo y.lo true) (DD x.lo y.hi true)) (DD x.hi y.lo true)=(DD x.hi y.lo true)from bB m2]):Bx.le (.cells 39 (iN (Iv.mk (DD x.hi y.lo false) (DD x.hi y.lo true) false))) (.cells 39 (iN (Iv.mk (jB (jB (DD x.lo y.lo false) (DD x.lo y.hi false)) (DD x.hi y.lo false)) (jy (jy (DD x.lo y.lo true) (DD x.lo y.hi true)) (DD x.hi y.lo true)) false))))]))
     (λm2=>ae [tB 90 (bD m2)]<|.e (af [.b 12 (.ji (by rw[show jB (jB (DD x.lo y.lo false) (DD x.lo y.hi false)) (DD x.hi y.lo false)=(DD x.hi y.lo false)from bB m1,show jy (jy (DD x.lo y.lo true) (DD x.lo y.hi true)) (DD x.hi y.lo true)=(jy (DD x.lo y.lo true) (DD x.lo y.hi true))from bA m2]):Bx.le (.cells 39 (iN (Iv.mk (DD x.hi y.lo false) (jy (DD x.lo y.lo true) (DD x.lo y.hi true)) false))) (.cells 39 (iN (Iv.mk (jB (jB (DD x.lo y.lo false) (DD x.lo y.hi false)) (DD x.hi y.lo false)) (jy (jy (DD x.lo y.lo true) (DD x.lo y.hi true)) (DD x.hi y.lo true)) false))))])))
    (λm1=>ae [tB 79 (bD m1),ai 84 ((((0+1)+1):Int)==0) aE,ag [iz (DD x.hi y.lo true),iz (jy (DD x.lo y.lo true) (DD x.lo y.hi true))] (nR _ _ (hv _ _ _) (tw (hv _ _ _) (hv _ _ _)))]<|.w (0<(jf (DD x.hi y.lo true) (jy (DD x.lo y.lo true) (DD x.lo y.hi true))))
     (λm2=>ae [tB 90 (bC m2)]<|.e (af [.b 12 (.ji (by rw[show jB (jB (DD x.lo y.lo false) (DD x.lo y.hi false)) (DD x.hi y.lo false)=(jB (DD x.lo y.lo false) (DD x.lo y.hi false))from bA m1,show jy (jy (DD x.lo y.lo true) (DD x.lo y.hi true)) (DD x.hi y.lo true)=(DD x.hi y.lo true)from bB m2]):Bx.le (.cells 39 (iN (Iv.mk (jB (DD x.lo y.lo false) (DD x.lo y.hi false)) (DD x.hi y.lo true) false))) (.cells 39 (iN (Iv.mk (jB (jB (DD x.lo y.lo false) (DD x.lo y.hi false)) (DD x.hi y.lo false)) (jy (jy (DD x.lo y.lo true) (DD x.lo y.hi true)) (DD x.hi y.lo true)) false))))]))
     (λm2=>ae [tB 90 (bD m2)]<|.e (af [.b 12 (.ji (by rw[show jB (jB (DD x.lo y.lo false) (DD x.lo y.hi false)) (DD x.hi y.lo false)=(jB (DD x.lo y.lo false) (DD x.lo y.hi false))from bA m1,show jy (jy (DD x.lo y.lo true) (DD x.lo y.hi true)) (DD x.hi y.lo true)=(jy (DD x.lo y.lo true) (DD x.lo y.hi true))from bA m2]):Bx.le (.cells 39 (iN (Iv.mk (jB (DD x.lo y.lo false) (DD x.lo y.hi false)) (jy (DD x.lo y.lo true) (DD x.lo y.hi true)) false))) (.cells 39 (iN (Iv.mk (jB (jB (DD x.lo y.lo false) (DD x.lo y.hi false)) (DD x.hi y.lo false)) (jy (jy (DD x.lo y.lo true) (DD x.lo y.hi true)) (DD x.hi y.lo true)) false))))])))),
        iF (((0+1)+1)+1) aC,ah 42 (decide (((((0+1)+1)+1):Int)<4)) aE]<|.w ((EE x.hi y.hi false)=0)
        (λk7=>.w ((EE x.hi y.hi true)=0)
         (λk8=>ae [.j 3 (ahC x y p gd gu DD EE)
   (ae [iX (((0+1)+1)+1) 4 aC,iX 0 2 aC,iX 1 2 aC,.c (hd _ _ (.inr rfl) (.inr rfl):ie gd ((iz x.hi)::(iz y.hi)::(iP p)::[]) _),iX 0 2 aC,iX 1 2 aC,.c (hu _ _ (.inr rfl) (.inr rfl):ie gu ((iz x.hi)::(iz y.hi)::(iP p)::[]) _),tB 66 (bu k7),tB 69 (bu k8),ai 73 (((((0+1)+1)+1):Int)==0) aE,ag [iz (DD x.hi y.hi false),iz (jB (jB (DD x.lo y.lo false) (DD x.lo y.hi false)) (DD x.hi y.lo false))] (nR _ _ (hv _ _ _) (vD (vD (hv _ _ _) (hv _ _ _)) (hv _ _ _)))]<|.w ((jf (DD x.hi y.hi false) (jB (jB (DD x.lo y.lo false) (DD x.lo y.hi false)) (DD x.hi y.lo false)))<0)
    (λm1=>ae [tB 79 (bC m1),ai 84 (((((0+1)+1)+1):Int)==0) aE,ag [iz (DD x.hi y.hi true),iz (jy (jy (DD x.lo y.lo true) (DD x.lo y.hi true)) (DD x.hi y.lo true))] (nR _ _ (hv _ _ _) (tw (tw (hv _ _ _) (hv _ _ _)) (hv _ _ _)))]<|.w (0<(jf (DD x.hi y.hi true) (jy (jy (DD x.lo y.lo true) (DD x.lo y.hi true)) (DD x.hi y.lo true))))
     (λm2=>ae [tB 90 (bC m2)]<|.e (af [.b 12 (.ji (by rw[show jB (jB (jB (DD x.lo y.lo false) (DD x.lo y.hi false)) (DD x.hi y.lo false)) (DD x.hi y.hi false)=(DD x.hi y.hi false)from bB m1,show jy (jy (jy (DD x.lo y.lo true) (DD x.lo y.hi true)) (DD x.hi y.lo true)) (DD x.hi y.hi true)=(DD x.hi y.hi true)from bB m2]):Bx.le (.cells 39 (iN (Iv.mk (DD x.hi y.hi false) (DD x.hi y.hi true) false))) (.cells 39 (iN (Iv.mk (jB (jB (jB (DD x.lo y.lo false) (DD x.lo y.hi false)) (DD x.hi y.lo false)) (DD x.hi y.hi false)) (jy (jy (jy (DD x.lo y.lo true) (DD x.lo y.hi true)) (DD x.hi y.lo true)) (DD x.hi y.hi true)) false))))]))
     (λm2=>ae [tB 90 (bD m2)]<|.e (af [.b 12 (.ji (by rw[show jB (jB (jB (DD x.lo y.lo false) (DD x.lo y.hi false)) (DD x.hi y.lo false)) (DD x.hi y.hi false)=(DD x.hi y.hi false)from bB m1,show jy (jy (jy (DD x.lo y.lo true) (DD x.lo y.hi true)) (DD x.hi y.lo true)) (DD x.hi y.hi true)=(jy (jy (DD x.lo y.lo true) (DD x.lo y.hi true)) (DD x.hi y.lo true))from bA m2]):Bx.le (.cells 39 (iN (Iv.mk (DD x.hi y.hi false) (jy (jy (DD x.lo y.lo true) (DD x.lo y.hi true)) (DD x.hi y.lo true)) false))) (.cells 39 (iN (Iv.mk (jB (jB (jB (DD x.lo y.lo false) (DD x.lo y.hi false)) (DD x.hi y.lo false)) (DD x.hi y.hi false)) (jy (jy (jy (DD x.lo y.lo true) (DD x.lo y.hi true)) (DD x.hi y.lo true)) (DD x.hi y.hi true)) false))))])))
    (λm1=>ae [tB 79 (bD m1),ai 84 (((((0+1)+1)+1):Int)==0) aE,ag [iz (DD x.hi y.hi true),iz (jy (jy (DD x.lo y.lo true) (DD x.lo y.hi true)) (DD x.hi y.lo true))] (nR _ _ (hv _ _ _) (tw (tw (hv _ _ _) (hv _ _ _)) (hv _ _ _)))]<|.w (0<(jf (DD x.hi y.hi true) (jy (jy (DD x.lo y.lo true) (DD x.lo y.hi true)) (DD x.hi y.lo true))))
     (λm2=>ae [tB 90 (bC m2)]<|.e (af [.b 12 (.ji (by rw[show jB (jB (jB (DD x.lo y.lo false) (DD x.lo y.hi false)) (DD x.hi y.lo false)) (DD x.hi y.hi false)=(jB (jB (DD x.lo y.lo false) (DD x.lo y.hi false)) (DD x.hi y.lo false))from bA m1,show jy (jy (jy (DD x.lo y.lo true) (DD x.lo y.hi true)) (DD x.hi y.lo true)) (DD x.hi y.hi true)=(DD x.hi y.hi true)from bB m2]):Bx.le (.cells 39 (iN (Iv.mk (jB (jB (DD x.lo y.lo false) (DD x.lo y.hi false)) (DD x.hi y.lo false)) (DD x.hi y.hi true) false))) (.cells 39 (iN (Iv.mk (jB (jB (jB (DD x.lo y.lo false) (DD x.lo y.hi false)) (DD x.hi y.lo false)) (DD x.hi y.hi false)) (jy (jy (jy (DD x.lo y.lo true) (DD x.lo y.hi true)) (DD x.hi y.lo true)) (DD x.hi y.hi true)) false))))]))
     (λm2=>ae [tB 90 (bD m2)]<|.e (af [.b 12 (.ji (by rw[show jB (jB (jB (DD x.lo y.lo false) (DD x.lo y.hi false)) (DD x.hi y.lo false)) (DD x.hi y.hi false)=(jB (jB (DD x.lo y.lo false) (DD x.lo y.hi false)) (DD x.hi y.lo false))from bA m1,show jy (jy (jy (DD x.lo y.lo true) (DD x.lo y.hi true)) (DD x.hi y.lo true)) (DD x.hi y.hi true)=(jy (jy (DD x.lo y.lo true) (DD x.lo y.hi true)) (DD x.hi y.lo true))from bA m2]):Bx.le (.cells 39 (iN (Iv.mk (jB (jB (DD x.lo y.lo false) (DD x.lo y.hi false)) (DD x.hi y.lo false)) (jy (jy (DD x.lo y.lo true) (DD x.lo y.hi true)) (DD x.hi y.lo true)) false))) (.cells 39 (iN (Iv.mk (jB (jB (jB (DD x.lo y.lo false) (DD x.lo y.hi false)) (DD x.hi y.lo false)) (DD x.hi y.hi false)) (jy (jy (jy (DD x.lo y.lo true) (DD x.lo y.hi true)) (DD x.hi y.lo true)) (DD x.hi y.hi true)) false))))])))),
          iF ((((0+1)+1)+1)+1) aC,ai 42 (decide ((((((0+1)+1)+1)+1):Int)<4)) aE]<|rQ (iy (Iv.mk (jB (jB (jB (DD x.lo y.lo false) (DD x.lo y.hi false)) (DD x.hi y.lo false)) (DD x.hi y.hi false)) (jy (jy (jy (DD x.lo y.lo true) (DD x.lo y.hi true)) (DD x.hi y.lo true)) (DD x.hi y.hi true)) false)) (iy (qf DD EE x y)) (by rw[show qf DD EE x y=⟨jB (jB (jB (DD x.lo y.lo false) (DD x.lo y.hi false)) (DD x.hi y.lo false)) (DD x.hi y.hi false),jy (jy (jy (DD x.lo y.lo true) (DD x.lo y.hi true)) (DD x.hi y.lo true)) (DD x.hi y.hi true),false⟩from bB ⟨⟨k1,k2⟩,⟨k3,k4⟩,⟨k5,k6⟩,⟨k7,k8⟩⟩];try rfl))
         (λk8=>ae [iX (((0+1)+1)+1) 4 aC,iX 0 2 aC,iX 1 2 aC,.c (hd _ _ (.inr rfl) (.inr rfl):ie gd ((iz x.hi)::(iz y.hi)::(iP p)::[]) _),iX 0 2 aC,iX 1 2 aC,.c (hu _ _ (.inr rfl) (.inr rfl):ie gu ((iz x.hi)::(iz y.hi)::(iP p)::[]) _),tB 66 (bu k7),tB 69 (bw k8),.c oz]<|rQ (iy il) (iy (qf DD EE x y)) (by rw[show qf DD EE x y=il from bA (by rintro⟨⟨q0,r0⟩,⟨q1,r1⟩,⟨q2,r2⟩,⟨q3,r3⟩⟩;exact k8 r3)])))
        (λk7=>ae [iX (((0+1)+1)+1) 4 aC,iX 0 2 aC,iX 1 2 aC,.c (hd _ _ (.inr rfl) (.inr rfl):ie gd ((iz x.hi)::(iz y.hi)::(iP p)::[]) _),iX 0 2 aC,iX 1 2 aC,.c (hu _ _ (.inr rfl) (.inr rfl):ie gu ((iz x.hi)::(iz y.hi)::(iP p)::[]) _),tB 66 (bw k7),.c oz]<|rQ (iy il) (iy (qf DD EE x y)) (by rw[show qf DD EE x y=il from bA (by rintro⟨⟨q0,r0⟩,⟨q1,r1⟩,⟨q2,r2⟩,⟨q3,r3⟩⟩;exact k7 q3)])))
       (λk6=>ae [iX ((0+1)+1) 4 aC,iX 0 2 aC,iX 1 2 aC,.c (hd _ _ (.inr rfl) (.inl rfl):ie gd ((iz x.hi)::(iz y.lo)::(iP p)::[]) _),iX 0 2 aC,iX 1 2 aC,.c (hu _ _ (.inr rfl) (.inl rfl):ie gu ((iz x.hi)::(iz y.lo)::(iP p)::[]) _),tB 66 (bu k5),tB 69 (bw k6),.c oz]<|rQ (iy il) (iy (qf DD EE x y)) (by rw[show qf DD EE x y=il from bA (by rintro⟨⟨q0,r0⟩,⟨q1,r1⟩,⟨q2,r2⟩,⟨q3,r3⟩⟩;exact k6 r2)])))
      (λk5=>ae [iX ((0+1)+1) 4 aC,iX 0 2 aC,iX 1 2 aC,.c (hd _ _ (.inr rfl) (.inl rfl):ie gd ((iz x.hi)::(iz y.lo)::(iP p)::[]) _),iX 0 2 aC,iX 1 2 aC,.c (hu _ _ (.inr rfl) (.inl rfl):ie gu ((iz x.hi)::(iz y.lo)::(iP p)::[]) _),tB 66 (bw k5),.c oz]<|rQ (iy il) (iy (qf DD EE x y)) (by rw[show qf DD EE x y=il from bA (by rintro⟨⟨q0,r0⟩,⟨q1,r1⟩,⟨q2,r2⟩,⟨q3,r3⟩⟩;exact k5 q2)])))
     (λk4=>ae [iX (0+1) 4 aC,iX 0 2 aC,iX 1 2 aC,.c (hd _ _ (.inl rfl) (.inr rfl):ie gd ((iz x.lo)::(iz y.hi)::(iP p)::[]) _),iX 0 2 aC,iX 1 2 aC,.c (hu _ _ (.inl rfl) (.inr rfl):ie gu ((iz x.lo)::(iz y.hi)::(iP p)::[]) _),tB 66 (bu k3),tB 69 (bw k4),.c oz]<|rQ (iy il) (iy (qf DD EE x y)) (by rw[show qf DD EE x y=il from bA (by rintro⟨⟨q0,r0⟩,⟨q1,r1⟩,⟨q2,r2⟩,⟨q3,r3⟩⟩;exact k4 r1)])))
    (λk3=>ae [iX (0+1) 4 aC,iX 0 2 aC,iX 1 2 aC,.c (hd _ _ (.inl rfl) (.inr rfl):ie gd ((iz x.lo)::(iz y.hi)::(iP p)::[]) _),iX 0 2 aC,iX 1 2 aC,.c (hu _ _ (.inl rfl) (.inr rfl):ie gu ((iz x.lo)::(iz y.hi)::(iP p)::[]) _),tB 66 (bw k3),.c oz]<|rQ (iy il) (iy (qf DD EE x y)) (by rw[show qf DD EE x y=il from bA (by rintro⟨⟨q0,r0⟩,⟨q1,r1⟩,⟨q2,r2⟩,⟨q3,r3⟩⟩;exact k3 q1)])))
   (λk2=>ae [iX 0 4 aC,iX 0 2 aC,iX 1 2 aC,.c (hd _ _ (.inl rfl) (.inl rfl):ie gd ((iz x.lo)::(iz y.lo)::(iP p)::[]) _),iX 0 2 aC,iX 1 2 aC,.c (hu _ _ (.inl rfl) (.inl rfl):ie gu ((iz x.lo)::(iz y.lo)::(iP p)::[]) _),tB 66 (bu k1),tB 69 (bw k2),.c oz]<|rQ (iy il) (iy (qf DD EE x y)) (by rw[show qf DD EE x y=il from bA (by rintro⟨⟨q0,r0⟩,⟨q1,r1⟩,⟨q2,r2⟩,⟨q3,r3⟩⟩;exact k2 r0)])))
  (λk1=>ae [iX 0 4 aC,iX 0 2 aC,iX 1 2 aC,.c (hd _ _ (.inl rfl) (.inl rfl):ie gd ((iz x.lo)::(iz y.lo)::(iP p)::[]) _),iX 0 2 aC,iX 1 2 aC,.c (hu _ _ (.inl rfl) (.inl rfl):ie gu ((iz x.lo)::(iz y.lo)::(iP p)::[]) _),tB 66 (bw k1),.c oz]<|rQ (iy il) (iy (qf DD EE x y)) (by rw[show qf DD EE x y=il from bA (by rintro⟨⟨q0,r0⟩,⟨q1,r1⟩,⟨q2,r2⟩,⟨q3,r3⟩⟩;exact k1 q0)]))) 
def amK{y:Iv}(hy:y.ix)(hs:nc y≠0):y.lo.m≠0/\y.hi.m≠0:=by
 unfold nc at hs;have ha:y.all=false:=by
  cases h:y.all with
  |false=>rfl
  |true=>rw[h]at hs;exact absurd rfl hs
 obtain⟨v1,v2,v3⟩:=vy hy ha;rw[ha]at hs;simp only[bR,bI]at hs;have z:∀ d:Dy,d.m=0->d.jq=0:=λd h=>by unfold Dy.jq;rw[bB h]
 have hc:=EC y.lo y.hi;rw[hc]at v3;constructor
 .intro h0;have:=z _ h0;rw[this]at hs v3;split at hs
  .omega
  .split at hs
   .split at v3<;>omega
   .exact hs rfl
 .intro h0;have:=z _ h0;rw[this]at hs v3;split at hs
  .split at v3<;>omega
  .split at hs
   .omega
   .exact hs rfl
def ad9(a b:Dy){p:Nat}(up:Bool)(hp:1<=p)(im:p<=4096):(qm a b p up).ix:=by
 unfold qm;split
 .exact tC
 .exact uA _ _ _ _ _ _ hp im
def vv(x y:Iv)(p:Nat)(hx:x.ix)(hy:y.ix)(iA:8<=p)(im:p<=512):ie 212 [iy x,iy y,iP p] (iy (iY x y p)):=by
 by_cases hk:(x.all||y.all)=true
 .exact ak call212 func212 (ae [.o 9 (.e (AO _ _):aj (.sl true 2 7 λi_ j_=>(iN x++iN y).getD (i_*7+j_) (.v (.bool false))) (iu [x,y])),ag [iu [x,y]] (AN _ _ aD aD),ai 10 (!(x.all||y.all)) (by rw[hk];rfl),.c oz]<|rQ (iy il) (iy (iY x y p)) (by rw[show iY x y p=il by unfold iY;rw[bB hk]])) 
 .replace hk:(x.all||y.all)=false:=by simpa using hk
  have lO:x.all=false:=by cases h:x.all;rfl;rw[h]at hk;simp at hk
  have B6:y.all=false:=by cases h:y.all;rfl;rw[h]at hk;simp at hk
  obtain⟨v1,v2,v3⟩:=vy hx lO;obtain⟨v4,v5,v6⟩:=vy hy B6;exact ak call212 func212 (ae [.o 9 (.e (AO _ _):aj (.sl true 2 7 λi_ j_=>(iN x++iN y).getD (i_*7+j_) (.v (.bool false))) (iu [x,y])),ag [iu [x,y]] (AN _ _ aD aD),ah 10 (!(x.all||y.all)) (by rw[hk];rfl),ag [iP p] (wI _),ah 14 (nm (p:Int)) (vK.2 ⟨aC,aC⟩),.c (VX x y p 254 255 (λa b up=>iM (nC a b) p up) (λa b up=>jY (nC a b) p up) (λa b ha hb=>Le a b p (by rcases ha with rfl|rfl;exact v1;exact v2) (by rcases hb with rfl|rfl;exact v4;exact v5) iA im) (λa b ha hb=>Lf a b p (by rcases ha with rfl|rfl;exact v1;exact v2) (by rcases hb with rfl|rfl;exact v4;exact v5) iA im) (λa b up=>uA _ _ _ _ _ _ aC aC))]<|rQ (iy (qf (λa b up=>iM (nC a b) p up) (λa b up=>jY (nC a b) p up) x y)) (iy (iY x y p)) (by rw[show iY x y p=_ by unfold iY;rw[bA (by rw[hk];decide)]];rfl)) 
def uN(x y:Iv)(p:Nat)(hx:x.ix)(hy:y.ix)(iA:8<=p)(im:p<=512):ie 141 [iy x,iy y,iP p] (iy (jO x y p)):=by
 by_cases hk:(x.all||y.all)=true
 .exact ak call141 func141 (ae [.o 9 (.e (AO _ _):aj (.sl true 2 7 λi_ j_=>(iN x++iN y).getD (i_*7+j_) (.v (.bool false))) (iu [x,y])),ag [iu [x,y]] (AN _ _ aD aD),ai 10 (!(x.all||y.all)) (by rw[hk];rfl),.c oz]<|rQ (iy il) (iy (jO x y p)) (by rw[show jO x y p=il by unfold jO;rw[bB (by rw[hk];rfl)]])) 
 .replace hk:(x.all||y.all)=false:=by simpa using hk
  have lO:x.all=false:=by cases h:x.all;rfl;rw[h]at hk;simp at hk
  have B6:y.all=false:=by cases h:y.all;rfl;rw[h]at hk;simp at hk
  obtain⟨v1,v2,v3⟩:=vy hx lO;obtain⟨v4,v5,v6⟩:=vy hy B6;by_cases hs:nc y=0
  .exact ak call141 func141 (ae [.o 9 (.e (AO _ _):aj (.sl true 2 7 λi_ j_=>(iN x++iN y).getD (i_*7+j_) (.v (.bool false))) (iu [x,y])),ag [iu [x,y]] (AN _ _ aD aD),ah 10 (!(x.all||y.all)) (by rw[hk];rfl),ag [iP p] (wI _),ah 14 (nm (p:Int)) (vK.2 ⟨aC,aC⟩),.c (Ca y aD),ah 20 ((nc y)==0) (by rw[hs];rfl),.c oz]<|rQ (iy il) (iy (jO x y p)) (by rw[show jO x y p=il by unfold jO;rw[bB (by rw[hk,bC hs];rfl)]])) 
  .obtain ⟨n1,n2⟩:=amK hy hs;exact ak call141 func141 (ae [.o 9 (.e (AO _ _):aj (.sl true 2 7 λi_ j_=>(iN x++iN y).getD (i_*7+j_) (.v (.bool false))) (iu [x,y])),ag [iu [x,y]] (AN _ _ aD aD),ah 10 (!(x.all||y.all)) (by rw[hk];rfl),ag [iP p] (wI _),ah 14 (nm (p:Int)) (vK.2 ⟨aC,aC⟩),.c (Ca y aD),ai 20 ((nc y)==0) (by simpa using hs),.c (VX x y p 207 208 (λa b up=>qm a b p up) (λa b up=>rN a b p up) (λa b ha hb=>Yl a b p (by rcases ha with rfl|rfl;exact v1;exact v2) (by rcases hb with rfl|rfl;exact v4;exact v5) (by rcases hb with rfl|rfl;exact n1;exact n2) iA im) (λa b ha hb=>Ym a b p (by rcases ha with rfl|rfl;exact v1;exact v2) (by rcases hb with rfl|rfl;exact v4;exact v5) (by rcases hb with rfl|rfl;exact n1;exact n2) iA im) (λa b up=>ad9 a b up aC aC))]<|rQ (iy (qf (λa b up=>qm a b p up) (λa b up=>rN a b p up) x y)) (iy (jO x y p)) (by rw[show jO x y p=_ by unfold jO;rw[bA (by rw[hk,bD hs];decide)]])) 
def ahM(d:RD)(h:d.Zero):ie 200 [jj d] (bP true):=by
 obtain⟨h1,h2,h3⟩:=h;exact ak call200 func200 (af [ai 4 d.neg h1,ah 10 ((d.L.length:Int)==0) (wM (by rw[h2];rfl)),ah 15 (d.e==0) (by rw[h3];rfl)]) 
def V3(d:RD)(h:¬d.Zero):ie 200 [jj d] (bP false):=by
 by_cases h1:d.neg=true
 .exact ak call200 func200 (af [ah 4 d.neg h1]) 
 .replace h1:d.neg=false:=by simpa using h1
  by_cases h2:d.L=[]
  .have h3:¬d.e=0:=λq=>h ⟨h1,h2,q⟩
   exact ak call200 func200 (af [ai 4 d.neg h1,ah 10 ((d.L.length:Int)==0) (wM (by rw[h2];rfl)),ai 15 (d.e==0) (by simpa using h3)]) 
  .exact ak call200 func200 (af [ai 4 d.neg h1,ai 10 ((d.L.length:Int)==0) (qa (λq=>h2 (apZ.1 q)))]) 
def ahL(x:RI)(g:x.iW)(h:x.Ok):ie 127 [wP x] (bP true):=by
 have:=rj x.iv h.valid;rwa[<-Ho,h.eq g]at this
def ahJ(x:RI)(g:x.iW)(h:¬x.Ok):ie 127 [wP x] (bP false):=by
 have ga:=g.lo;have gb:=g.hi;by_cases ha:x.all=true
 .by_cases h1:x.lo.Zero
  .have h2:¬x.hi.Zero:=λq=>h (.inl ⟨ha,h1,q⟩)
   exact ak call127 func127 (af [ah 5 x.all ha,.c (ahM x.lo h1),.c (V3 x.hi h2)]) 
  .exact ak call127 func127 (af [ah 5 x.all ha,.c (V3 x.lo h1)]) 
 .replace ha:x.all=false:=by simpa using ha
  by_cases h1:x.lo.Ok
  .by_cases h2:x.hi.Ok
   .have h3:¬jf x.lo.dy x.hi.dy<=0:=λq=>h (.inr ⟨ha,h1,h2,q⟩)
    have v1:=h1.valid;have v2:=h2.valid;have e1:wP x=iy x.iv:=by rw[<-Ho,show x.iv.raw=x by show RI.mk x.lo.dy.raw x.hi.dy.raw x.all=x;rw[h1.eq ga,h2.eq gb]]
    rw[e1];exact ak call127 func127 (af [ai 5 x.iv.all ha,ag [iz x.iv.lo] (sT _ aD),ag [iz x.iv.hi] (sT _ aD),ag [iz x.iv.lo,iz x.iv.hi] (nR _ _ aD aD),tB 30 (bD h3)]) 
   .exact ak call127 func127 (af [ai 5 x.all ha,ag [jj x.lo] (BJ _ aD true (by simp[h1])),ag [jj x.hi] (BJ _ aD false (by simp[h2]))]) 
  .exact ak call127 func127 (af [ai 5 x.all ha,ag [jj x.lo] (BJ _ aD false (by simp[h1]))]) 
def ahK(x:RI)(g:x.iW):ie 127 [wP x] (bP (oW x)):=by
 by_cases h:x.Ok
 .rw [uh.2 h];exact ahL x g h
 .rw [show oW x=false by simpa using λq=>h (uh.1 q)];exact ahJ x g h
abbrev je(xs:List Iv):Nat->Nat->E:=λi j=>(iN (xs.getD i il)).getD j .any
abbrev lM(M:List (List Iv)):Nat->Nat->E:=λi _=>iu (M.getD i [])
abbrev nL(M:List (List Iv)):Nat->Nat:=λq=>(M.getD q []).length
abbrev pk(M:List (List Iv)):Nat->Nat->Nat->E:=λq i j=>(iN ((M.getD q []).getD i il)).getD j .any
def tZ(x:Iv)(j:Nat)(hj:j<7):((iN x).getD j .any).nr 2=true:=by
 rcases j with _|_|_|_|_|_|_|j
 all_goals first|rfl|omega
def V7(xs:List Iv):(iu xs).nr 2=true:=rfl
def KE{T n:Nat}{xs:List Iv}{y:Iv}(hn:n=xs.length):
 Bx.le (.row true T (n+[y].length) 7 λi j=>if i<n then je xs i j else(E.kY (iu [y])) (i-n) j) (.row true T (xs++[y]).length 7 (je (xs++[y]))):=by
 subst hn;refine .row aH λi j hi hj=>⟨.ji ?_,tZ _ _ hj⟩
 by_cases h:i<xs.length
 .rw [bB h];show(iN (xs.getD i il)).getD j .any=(iN ((xs++[y]).getD i il)).getD j .any;congr 2;simp[bE,dO h]
 .have oc:i=xs.length:=by simp at hi;omega
  subst oc;rw[bA h,dA];show(iN y).getD j .any=(iN ((xs++[y]).getD xs.length il)).getD j .any;congr 2;simp[bE]
def aiJ{T n:Nat}{M:List (List Iv)}{r:List Iv}{p:E}{m:Nat}(hn:n=M.length)(hm:m=1)(hp:∀ j,j<1->p.kY 0 j=iu r):
 Bx.le (.row true T (n+m) 1 λi j=>if i<n then lM M i j else(E.kY p) (i-n) j) (.row true T (M++[r]).length 1 (lM (M++[r]))):=by
 subst hn hm;refine .row aH λi j hi hj=>⟨.ji ?_,V7 _⟩
 by_cases h:i<M.length
 .rw [bB h];show iu (M.getD i [])=iu ((M++[r]).getD i []);congr 1;simp[bE,dO h]
 .have oc:i=M.length:= aC ;subst oc;rw[bA h,dA,hp j hj];show iu r=iu ((M++[r]).getD M.length []);congr 1;simp[bE]
def qL{α:Type}(y:α):[y].length=1:=rfl
def Qh{n i:Nat}{F:Nat->Iv}(h:i<n):((List.range n).map F).getD i il=F i:=by
 simp[bE,h]
def aiI{n:Nat}{M:List (List Iv)}(hn:n=M.length):E.le (.sl true n 1 λk _=>.sl true (nL M k) 7 (pk M k)) (lW M):=by subst hn;exact .refl _
end Go.Proofs.YtgdahmmlddfimaaGreatDoor
namespace Go.Proofs.YtgdahmmlddfimaaGreatDoor.Fp
section
variable {a b:Dy} {k:Int}
end
def agp{m gm p:Nat}{e ge K:Int}(hp:1<=p)(hg:iB gm<=p)(tJ:-16384<=ge)(k1:K<=e)(k2:K<=ge)
 (h:gm*2^(ge-K).toNat<=m*2^(e-K).toNat):gm*2^(ge-K).toNat<=lR m e false p false*2^(e+ko m e p-K).toNat:=by
 have hq:lR m e false p false=m/2^ko m e p:=by unfold lR;simp
 rw[hq];have hm:=c9 m (2^ko m e p);have hr:=bV m (bL (n:=ko m e p) (aE:0<2));obtain⟨k,hk⟩:∃ k,k=ko m e p:=⟨_,rfl⟩
 rw[<-hk]at hm hr ⊢;have e1:(e+(k:Int)-K).toNat=k+(e-K).toNat:= aC ;rw[e1,bK];generalize hE:2^(e-K).toNat=E at *
 have NR:0<E:=by rw[<-hE];exact bL aE 
 have hmE:m*E<(m/2^k+1)*(2^k*E):=by
  rw[<-bO];refine dG ?_ NR;rw[cr,cv,bT];omega
 by_cases hc:e+k<=ge
 .
  have e2:(ge-K).toNat=(ge-(e+k)).toNat+(k+(e-K).toNat):= aC ;rw[e2,bK,bK 2 k,hE]at h ⊢;rw[<-bO]at h ⊢;generalize gm*2^(ge-(e+k)).toNat=g at *
  have:g<m/2^k+1:=by
   apply ct;intro h';have:=bY (2^k*E) (aC:m/2^k+1<=g);omega
  exact bY _ aC 
 .by_cases oO:k=0
  .subst oO;rw[cU,fW,cv];exact h
  .
   have hb:(iB m:Int)-p=k:=by unfold ko at hk;omega
   have G4:m≠0:=by intro h0;rw[h0]at hb;simp[iB]at hb;omega
   have h1:=vP G4;have h2:2^(iB m-1-k)<=m/2^k:=by
    rw[dC (bL aE),<-bK];exact bH (b5 aE (by have:=pF G4;omega)) h1
   have h3:gm<2^p:=mK.1 hg;refine bH (bY _ (dU h3)) (bH ?_ (bY _ h2));rw[<-hE,<-bK,<-bK,<-bK];exact b5 aE aC 
def Uj{m gm p:Nat}{e ge K:Int}(hp:1<=p)(hg:iB gm<=p)(tJ:-16384<=ge)(k1:K<=e)(k2:K<=ge)
 (h:m*2^(e-K).toNat<=gm*2^(ge-K).toNat):lR m e false p true*2^(e+ko m e p-K).toNat<=gm*2^(ge-K).toNat:=by
 have Vh:lR m e false p false=m/2^ko m e p:=by unfold lR;simp
 have G8:lR m e false p true=m/2^ko m e p+if m%2^ko m e p≠0 then 1 else 0:=by unfold lR;simp
 have hm:=c9 m (2^ko m e p);obtain⟨k,hk⟩:∃ k,k=ko m e p:=⟨_,rfl⟩
 rw[G8];rw[<-hk]at hm ⊢;have e1:(e+(k:Int)-K).toNat=k+(e-K).toNat:= aC ;rw[e1,bK];generalize hE:2^(e-K).toNat=E at *
 have NR:0<E:=by rw[<-hE];exact bL aE 
 by_cases hr:m%2^k=0
 .rw [bA aC,cg,<-bO];refine bH (apw ?_) h;congr 1;rw[bT];omega
 .rw [bB hr];have oO:k≠0:=by intro h0;rw[h0,cU,dZ]at hr;exact hr rfl
  have iK:m/2^k*(2^k*E)<gm*2^(ge-K).toNat:=by
   refine ca ?_ h;rw[<-bO];refine dG ?_ NR;rw[bT];omega
  by_cases hc:e+k<=ge
  .have e2:(ge-K).toNat=(ge-(e+k)).toNat+(k+(e-K).toNat):= aC ;have e3:gm*2^(ge-K).toNat=gm*2^(ge-(e+k)).toNat*(2^k*E):=by rw[e2,bK,bK 2 k,hE,bO]
   rw[e3]at iK ⊢;generalize gm*2^(ge-(e+k)).toNat=g at *
   have:m/2^k<g:=aqb iK;exact bY _ this
  .
   exfalso;have hb:(iB m:Int)-p=k:=by unfold ko at hk;omega
   have G4:m≠0:=by intro h0;rw[h0]at hr;simp at hr
   have h1:=vP G4;have J9:=pF G4;have h3:gm<2^p:=mK.1 hg;have h4:gm*2^(ge-K).toNat<=2^(iB m-1)*E:=by
    refine bH (bY _ (dU h3)) ?_;rw[<-hE,<-bK,<-bK];exact b5 aE aC 
   have h5:2^(iB m-1-k)<=m/2^k:=by
    rw[dC (bL aE),<-bK];exact bH (b5 aE aC) h1
   have h6:2^(iB m-1)*E<=m/2^k*(2^k*E):=by
    rw[<-bO];refine bY _ ?_;have:=bY (2^k) h5;rw[<-bK]at this;exact bH (b5 aE aC) this
   omega
def P2(k:Int):Rat:=(2:Rat)^k
def o0(k:Int):0<P2 k:=Rat.zpow_pos aE 
def sc(a b:Int):P2 (a+b)=P2 a*P2 b:=Rat.zpow_add aE a b
def Ad(n:Nat):P2 (n:Int)=((2^n:Nat):Rat):=by unfold P2;rw[Rat.zpow_natCast];simp
def Mp:P2 0=1:=by have:=Ad 0;simpa using this
def F7{e k:Int}(h:k<=e):P2 e=((2^(e-k).toNat:Nat):Rat)*P2 k:=by
 rw[<-Ad,<-sc];congr 1;omega
def xD{x y:Rat}(k:Int):x*P2 k<=y*P2 k↔x<=y:=
 ⟨λh=>fX h (o0 k),λh=>cO h (b7 (o0 k))⟩
def wK{m n:Nat}{e f K:Int}(h1:K<=e)(h2:K<=f):(m:Rat)*P2 e<=(n:Rat)*P2 f↔m*2^(e-K).toNat<=n*2^(f-K).toNat:=by
 rw[F7 h1,F7 h2,<-fE,<-fE,xD,<-dE,<-dE,dV]
def Dy.q(d:Dy):Rat:=((d.num d.e:Int):Rat)*P2 d.e
def zU{d:Dy}{k:Int}(h:qx d k):d.q=((d.num k:Int):Rat)*P2 k:=by
 unfold Dy.q;rcases h with h|h
 .rw [xF h,xF h];simp
 .rw [KS h (cN _),F7 h,<-fE,Rat.intCast_mul,eF]
def qk(a b:Dy):jf a b<=0↔a.q<=b.q:=by
 obtain⟨k,ka,kb⟩:∃ k:Int,k<=a.e/\k<=b.e:=⟨min a.e b.e,aC,aC⟩
 rw[ub (.inr ka) (.inr kb),zU (.inr ka),zU (.inr kb),xD,gN]
def Yc(a b:Dy):(iH a b).q=a.q+b.q:=by
 obtain⟨k,ka,kb⟩:∃ k:Int,k<=a.e/\k<=b.e:=⟨min a.e b.e,aC,aC⟩
 rw[zU (Jb (.inr ka) (.inr kb)),zU (.inr ka),zU (.inr kb),LP (.inr ka) (.inr kb),Rat.intCast_add,Rat.add_mul]
def rX(a:Dy):(iO a).q = -a.q:=by
 rw[zU (Mv (.inr (cN a.e))),PO,apB,apC];rfl
def s6(s:Bool)(m:Nat)(e:Int):(canon s m e).q=if s then -((m:Rat)*P2 e)else(m:Rat)*P2 e:=by
 rw[zU (Bs (cN e)),DY (cN e)];have:(e-e).toNat=0:= aC ;rw[this];cases s<;>simp[apB,apC,eF]
def rY(a:Dy):a.q=if a.neg then -((a.m:Rat)*P2 a.e)else(a.m:Rat)*P2 a.e:=by
 unfold Dy.q Dy.num Dy.kG;have:(a.e-a.e).toNat=0:= aC ;rw[this];cases a.neg<;>simp[apB,apC,eF]
def FF(a b:Dy):(yL a b).q=a.q*b.q:=by
 unfold yL;rw[s6,rY a,rY b,sc,dE];cases a.neg<;>cases b.neg<;>simp<;>grind
def xH:iS.q=0:=by rw[rY];simp[iS]
def akn{a b:Dy}(ha:a.oe)(hb:b.oe)(h:a.q=b.q):a=b:=by
 obtain⟨k,ka,kb⟩:∃ k:Int,k<=a.e/\k<=b.e:=⟨min a.e b.e,aC,aC⟩
 refine Nj ha hb (.inr ka) (.inr kb) ?_;rw[zU (.inr ka),zU (.inr kb)]at h;have h1:=(xD (x:=((a.num k:Int):Rat)) (y:=((b.num k:Int):Rat)) k).1 (by rw[h];exact cP);have h2:=(xD (x:=((b.num k:Int):Rat)) (y:=((a.num k:Int):Rat)) k).1 (by rw[h];exact cP);rw[gN]at h1 h2;omega
def Cr(n:Int):(jv n).q=(n:Rat):=by
 unfold jv;rw[zU (k:=0) (Mu (cN 0)),PN (cN 0),Mp];simp
def A7(d:Dy):0<=(mR d).q/\d.q<=(mR d).q /\ -d.q<=(mR d).q/\((mR d).q=d.q\/(mR d).q = -d.q):=by
 have h:(mR d).q=(d.m:Rat)*P2 d.e:=by rw[rY];rfl
 have h0:0<=(d.m:Rat)*P2 d.e:=ck dk (b7 (o0 _));rw[h,rY d];cases d.neg<;>simp<;>grind
def uR(d:Dy):(0<d.jq↔0<d.q)/\(d.jq<0↔d.q<0):=by
 have h:=o0 d.e;have hm:d.m≠0->0<(d.m:Rat)*P2 d.e:=λh0=>fk (gO.2 aC) h
 rw[rY];unfold Dy.jq;by_cases h0:d.m=0
 .simp [h0]
 .have:=hm h0;rw[bA h0];cases d.neg<;>simp<;>grind
def Iw(a b:Dy):a.q<=(jy a b).q/\b.q<=(jy a b).q/\((jy a b).q=a.q\/(jy a b).q=b.q):=
 ⟨(qk _ _).1 (DT a b),(qk _ _).1 (WZ a b),by unfold jy;split;exact .inr rfl;exact .inl rfl⟩
def D4(a b:Dy):(jB a b).q<=a.q/\(jB a b).q<=b.q/\((jB a b).q=a.q\/(jB a b).q=b.q):=
 ⟨(qk _ _).1 (HI a b),(qk _ _).1 (W0 a b),by unfold jB;split;exact .inr rfl;exact .inl rfl⟩
def GM(p:Nat)(g:Rat):Prop:=∃ (m:Nat) (e:Int),iB m<=p /\ -16384<=e/\(iB m:Int)+e<=16384/\g=(m:Rat)*P2 e
def G(p:Nat)(g:Rat):Prop:=GM p g\/GM p (-g)
def GM.Ij{p:Nat}{g:Rat}(h:GM p g):0<=g:=by
 obtain⟨m,e,_,_,_,rfl⟩:=h;exact ck dk (b7 (o0 _))
def Bo(p:Nat):GM p 0:=⟨0,0,by simp[tE],aC,by simp[tE],aH⟩
def G.neg{p:Nat}{g:Rat}(h:G p g):G p (-g):=by
 rcases h with h|h
 .exact .inr (by rw[fY];exact h)
 .exact .inl h
def G.pos{p:Nat}{g:Rat}(h:G p g)(h0:0<=g):GM p g:=by
 rcases h with h|h
 .exact h
 .have:=h.Ij;have:g=0:= aK ;rw[this];exact Bo p
def Sd(k:Nat):iB (2^k)=k+1:=Aj (bF _) (apt aE aC)
def Bw:iB 1=1:=Sd 0
section
variable {m p:Nat} {e:Int}
def aax(hp:1<=p)(im:p<=4096)(ho:mW m e false p false=true):
 GM p (((2^p-1:Nat):Rat)*P2 (16384-p))/\((2^p-1:Nat):Rat)*P2 (16384-p)<=(m:Rat)*P2 e/\∀ g,GM p g->g<=((2^p-1:Nat):Rat)*P2 (16384-p):=by
 have yr:2<=2^p:=by
  have:=b5 (n:=2) aE hp;omega
 have hb:iB (2^p-1)=p:=by
  obtain⟨j,rfl⟩:∃ j,p=j+1:=⟨p-1,aC⟩
  have h2:2^(j+1)=2^j*2:=bS _ _;have h3:=bL (n:=j) (aE:0<2);exact Aj aC aC 
 refine⟨⟨_,_,apw hb,aC,aC,rfl⟩,?_,?_⟩
 .obtain ⟨c1,c2⟩:=JC m e p;unfold mW at ho;simp only[bQ,cL]at ho;obtain⟨o1,o2⟩:=ho;have hq:=vP o1;have J9:=pF o1;obtain⟨K,k1,k2⟩:∃ K:Int,K<=e/\K<=16384-p:=⟨min e (16384-p),aC,aC⟩
  rw[wK k2 k1];have h1:2^(iB (lR m e false p false)-1)*2^ko m e p<=m:=bH (bY _ hq) c1;have h2:=bY (2^(e-K).toNat) h1;rw[<-bK,<-bK]at h2;refine bH (bY _ (fA _ _)) (bH ?_ h2);rw[<-bK];exact b5 aE aC 
 .rintro g ⟨gm,ge,b1,b2,b3,rfl⟩;by_cases hc:ge<=16384-p
  .have:gm<2^p:=mK.1 b1;rw[wK (K:=ge) (cN _) hc];have e0:(ge-ge).toNat=0:= aC ;rw[e0,cU,cI];exact bH (aC:gm<=2^p-1) (gV _ (bL aE))
  .rw [wK (K:=16384-p) aC (cN _)];have e0:((16384:Int)-p-(16384-p)).toNat=0:= aC ;rw[e0,cU,cI];have h1:gm<2^(16384-ge).toNat:=by
    by_cases h0:gm=0
    .rw [h0];exact bL aE 
    .exact mK.1 aC 
   have h2:=dG h1 (bL (n:=(ge-(16384-p)).toNat) (aE:0<2));by_cases hg:ge<=16384
   .rw [<-bK,show(16384-ge).toNat+(ge-(16384-(p:Int))).toNat=p by omega]at h2;omega
   .have:gm=0:=by
     rw[show(16384-ge).toNat=0 by omega]at h1;simpa using h1
    rw[this,dc];omega
def aaw(hp:1<=p)(ho:¬mW m e false p false=true):
 GM p (((lR m e false p false:Nat):Rat)*P2 (e+ko m e p))/\((lR m e false p false:Nat):Rat)*P2 (e+ko m e p)<=(m:Rat)*P2 e /\
 ∀ g,GM p g->g<=(m:Rat)*P2 e->g<=((lR m e false p false:Nat):Rat)*P2 (e+ko m e p):=by
 obtain⟨c1,c2⟩:=JC m e p;have hk:-16384<=e+(ko m e p:Int):=by unfold ko;omega
 refine⟨?_,?_,?_⟩
 .by_cases h0:lR m e false p false=0
  .rw [h0];simpa using Bo p
  .have hq:lR m e false p false<2^p:=by
    have:=Tc m e p;unfold lR;simpa using this
   unfold mW at ho;simp only[du,h0,fg,fT,di,cL]at ho;exact⟨_,_,mK.2 hq,hk,aC,rfl⟩
 .rw [wK (K:=e) aC (cN _)];rw[show(e-e).toNat=0 by omega,show(e+(ko m e p:Int)-e).toNat=ko m e p by omega,cU,cI];exact c1
 .rintro g ⟨gm,ge,b1,b2,b3,rfl⟩ h;obtain⟨K,k1,k2⟩:∃ K:Int,K<=e/\K<=ge:=⟨min e ge,aC,aC⟩
  rw[wK k2 k1]at h;rw[wK (K:=K) k2 aC];exact agp hp b1 b2 k1 k2 h
def SA(hp:1<=p)(ho:mW m e false p true=true)(g:Rat)(hg:GM p g):¬(m:Rat)*P2 e<=g:=by
 obtain⟨gm,ge,b1,b2,b3,rfl⟩:=hg;intro h;obtain⟨K,k1,k2⟩:∃ K:Int,K<=e/\K<=ge:=⟨min e ge,aC,aC⟩
 rw[wK k1 k2]at h;have h:=Uj hp b1 b2 k1 k2 h;unfold mW at ho;simp only[bQ,cL]at ho;obtain⟨o1,o2⟩:=ho;have hq:=vP o1;have J9:=pF o1;have h3:gm<2^iB gm:=tv gm;have h4:=dG h3 (bL (n:=(ge-K).toNat) (aE:0<2));have h5:=bY (2^(e+(ko m e p:Int)-K).toNat) hq;rw[<-bK]at h4 h5;have h6:2^(iB gm+(ge-K).toNat)<=2^(iB (lR m e false p true)-1+(e+(ko m e p:Int)-K).toNat):=b5 aE aC;omega
def Sz(hp:1<=p)(ho:¬mW m e false p true=true):
 GM p (((lR m e false p true:Nat):Rat)*P2 (e+ko m e p))/\(m:Rat)*P2 e<=((lR m e false p true:Nat):Rat)*P2 (e+ko m e p) /\
 ∀ g,GM p g->(m:Rat)*P2 e<=g->((lR m e false p true:Nat):Rat)*P2 (e+ko m e p)<=g:=by
 obtain⟨c1,c2⟩:=JC m e p;have hk:-16384<=e+(ko m e p:Int):=by unfold ko;omega
 refine⟨?_,?_,?_⟩
 .by_cases h0:lR m e false p true=0
  .rw [h0];simpa using Bo p
  .unfold mW at ho;simp only[du,h0,fg,fT,di,cL]at ho;rcases Nat.lt_or_eq_of_le (SZ m e false p true)with hq|hq
   .exact ⟨_,_,mK.2 hq,hk,aC,rfl⟩
   .rw [hq]at ho ⊢;rw[Sd]at ho;refine⟨1,p+(e+ko m e p),by rw[Bw];exact hp,aC,by rw[Bw];omega,?_⟩;rw[sc (p:Int),Ad p,show((1:Nat):Rat)=1 from rfl,fZ]
 .rw [wK (K:=e) (cN _) aC];rw[show(e-e).toNat=0 by omega,show(e+(ko m e p:Int)-e).toNat=ko m e p by omega,cU,cI];exact c2
 .rintro g ⟨gm,ge,b1,b2,b3,rfl⟩ h;obtain⟨K,k1,k2⟩:∃ K:Int,K<=e/\K<=ge:=⟨min e ge,aC,aC⟩
  rw[wK k1 k2]at h;rw[wK (K:=K) aC k2];exact Uj hp b1 b2 k1 k2 h
end
def Dn(p:Nat)(v:Rat)(D:Dy)(E:Int):Prop:=(E=0->G p D.q/\D.q<=v)/\∀ g,G p g->g<=v->E=0/\g<=D.q
def Up(p:Nat)(v:Rat)(D:Dy)(E:Int):Prop:=(E=0->G p D.q/\v<=D.q)/\∀ g,G p g->v<=g->E=0/\D.q<=g
def Dn.of{p:Nat}{v w:Rat}{D:Dy}{E:Int}(h:Dn p v D E)(k:∀ g,G p g->(g<=v↔g<=w)):Dn p w D E:=
 ⟨λe=>⟨(h.1 e).1,(k _ (h.1 e).1).1 (h.1 e).2⟩,λg hg hw=>h.2 g hg ((k g hg).2 hw)⟩
def Up.of{p:Nat}{v w:Rat}{D:Dy}{E:Int}(h:Up p v D E)(k:∀ g,G p g->(v<=g↔w<=g)):Up p w D E:=
 ⟨λe=>⟨(h.1 e).1,(k _ (h.1 e).1).1 (h.1 e).2⟩,λg hg hw=>h.2 g hg ((k g hg).2 hw)⟩
def Gm(neg:Bool)(m:Nat)(e:Int){p:Nat}(hp:1<=p)(im:p<=4096):Dn p (canon neg m e).q (kI neg m e false p false) (kp neg m e false p false):=by
 have hv:0<=(m:Rat)*P2 e:=ck dk (b7 (o0 _));rw[s6];cases neg
 .
  have hE:kp false m e false p false=0:=by unfold kp;simp
  rw[hE];unfold kI;simp only[bne_self_eq_false,bR,bI];by_cases ho:mW m e false p false=true
  .obtain ⟨t1,t2,t3⟩:=aax hp im ho;rw[bB ho];(first|unfold Dn|unfold Up);rw[s6];simp only[bR,bI];refine⟨λ_=>⟨.inl t1,t2⟩,λg hg hle=>⟨trivial,?_⟩⟩;by_cases h0:0<=g
   .exact t3 g (hg.pos h0)
   .have:=t1.Ij;grind
  .obtain ⟨t1,t2,t3⟩:=aaw hp ho;rw[bA ho];(first|unfold Dn|unfold Up);rw[s6];simp only[bR,bI];refine⟨λ_=>⟨.inl t1,t2⟩,λg hg hle=>⟨trivial,?_⟩⟩;by_cases h0:0<=g
   .exact t3 g (hg.pos h0) hle
   .have:=t1.Ij;grind
 .unfold kI kp;simp only[Bool.bne_false,ap0,bN];by_cases ho:mW m e false p true=true
  .rw [bB ho,bB ho];refine⟨λh=>by simp at h,λg hg hle=>?_⟩;exact absurd (show(m:Rat)*P2 e <= -g by grind) (SA hp ho _ (hg.neg.pos aK))
  .obtain ⟨t1,t2,t3⟩:=Sz hp ho;rw[bA ho,bA ho];(first|unfold Dn|unfold Up);rw[s6];simp only[bN];refine⟨λ_=>⟨.inr (by rw[fY];exact t1),aK⟩,λg hg hle=>⟨trivial,?_⟩⟩;have:=t3 (-g) (hg.neg.pos aK) aK 
   grind
def Gn(neg:Bool)(m:Nat)(e:Int){p:Nat}(hp:1<=p)(im:p<=4096):Up p (canon neg m e).q (kI neg m e false p true) (kp neg m e false p true):=by
 have hv:0<=(m:Rat)*P2 e:=ck dk (b7 (o0 _));rw[s6];cases neg
 .unfold kI kp;simp only[Bool.bne_true,fp,ap0,bN,bR,bI];by_cases ho:mW m e false p true=true
  .rw [bB ho,bB ho];refine⟨λh=>by simp at h,λg hg hle=>?_⟩;exact absurd hle (SA hp ho _ (hg.pos aK))
  .obtain ⟨t1,t2,t3⟩:=Sz hp ho;rw[bA ho,bA ho];(first|unfold Dn|unfold Up);rw[s6];simp only[bR,bI];exact⟨λ_=>⟨.inl t1,t2⟩,λg hg hle=>⟨trivial,t3 g (hg.pos aK) hle⟩⟩
 .have hE:kp true m e false p true=0:=by unfold kp;simp
  rw[hE];unfold kI;simp only[bne_self_eq_false,bR,bI,bN];by_cases ho:mW m e false p false=true
  .obtain ⟨t1,t2,t3⟩:=aax hp im ho;rw[bB ho];(first|unfold Dn|unfold Up);rw[s6];simp only[bN];refine⟨λ_=>⟨.inr (by rw[fY];exact t1),aK⟩,λg hg hle=>⟨trivial,?_⟩⟩;by_cases h0:0 <= -g
   .have:=t3 (-g) (hg.neg.pos h0);grind
   .have:=t1.Ij;grind
  .obtain ⟨t1,t2,t3⟩:=aaw hp ho;rw[bA ho];(first|unfold Dn|unfold Up);rw[s6];simp only[bN];refine⟨λ_=>⟨.inr (by rw[fY];exact t1),aK⟩,λg hg hle=>⟨trivial,?_⟩⟩;by_cases h0:0 <= -g
   .have:=t3 (-g) (hg.neg.pos h0) aK;grind
   .have:=t1.Ij;grind
def yO{d:Dy}(hd:d.oe){p:Nat}(hp:1<=p)(im:p<=4096):Dn p d.q (iM d p false) (jY d p false):=by
 have:=Gm d.neg d.m d.e hp im;rwa[hd.Jw]at this
def yP{d:Dy}(hd:d.oe){p:Nat}(hp:1<=p)(im:p<=4096):Up p d.q (iM d p true) (jY d p true):=by
 have:=Gn d.neg d.m d.e hp im;rwa[hd.Jw]at this
def NJ{N p:Nat}{e:Int}(hb:p<iB N){g:Rat}(hg:GM p g):g<=(N:Rat)*P2 e\/((N+1:Nat):Rat)*P2 e<=g:=by
 obtain⟨gm,ge,b1,b2,b3,rfl⟩:=hg;by_cases hc:e<=ge
 .rw [wK (K:=e) hc (cN _),wK (K:=e) (cN _) hc,show(e-e).toNat=0 by omega];omega
 .left;rw[wK (K:=ge) (cN _) aC,show(ge-ge).toNat=0 by omega,cU,cI];have h1:gm<2^p:=mK.1 b1;have h2:2^p<=N:=yH.1 hb;exact bH (dU (ca h1 h2)) (gV _ (bL aE))
def Sb{N p:Nat}{e:Int}(hb:p<iB N){x y:Rat}(x1:(N:Rat)*P2 e<x)(x2:x<((N+1:Nat):Rat)*P2 e)(y1:(N:Rat)*P2 e<y)(y2:y<((N+1:Nat):Rat)*P2 e){g:Rat}(hg:G p g):
 (g<=x↔g<=y)/\(x<=g↔y<=g)/\(g <= -x↔g <= -y)/\(-x<=g ↔ -y<=g):=by
 have hv:0<=(N:Rat)*P2 e:=ck dk (b7 (o0 _));have hG:∀ g,G p g->g<=(N:Rat)*P2 e\/((N+1:Nat):Rat)*P2 e<=g:=by
  intro g hg;by_cases h0:0<=g
  .exact NJ hb (hg.pos h0)
  .left;grind
 have h1:=hG g hg;have h2:=hG (-g) hg.neg;generalize (N:Rat)*P2 e=A at *
 generalize ((N+1:Nat):Rat)*P2 e=B at *
 refine⟨?_,?_,?_,?_⟩<;>constructor<;>intro h<;>grind
def EH{N p:Nat}(E:Int)(hb:p<iB N)(neg up:Bool):kI neg N E true p up=kI neg (2*N+1) (E-1) false p up/\kp neg N E true p up=kp neg (2*N+1) (E-1) false p up:=by
 have h1:(2*N+1)/2^1=N:= aC ;have h:=JB (N:=2*N+1) (E:=E-1) (more:=false) (d:=1) (p:=p) neg up (by rw[h1];exact hb);have h2:decide ((2*N+1)%2^1≠0)=true:= aH ;rw[h1,h2,(aC:E-1+((1:Nat):Int)=E)]at h;exact h
def Ta{a b:Dy}(b0:b.m≠0){p:Nat}(hp:1<=p)(im:p<=4096):Dn p (a.q/b.q) (qm a b p false) (rN a b p false)/\Up p (a.q/b.q) (qm a b p true) (rN a b p true):=by
 by_cases a0:a.m=0
 .have hq:a.q=0:=by rw[rY,a0];simp
  have h0:(0:Rat)/b.q=0:=by rw[dm,Rat.zero_mul]
  unfold qm rN;rw[hq,h0,bB a0,bB a0,bB a0,bB a0];have hz:G p 0:=.inl (Bo p);exact⟨⟨λ_=>⟨by rw[xH];exact hz,by rw[xH];exact cP⟩,λg _ h=>⟨rfl,by rw[xH];exact h⟩⟩,⟨λ_=>⟨by rw[xH];exact hz,by rw[xH];exact cP⟩,λg _ h=>⟨rfl,by rw[xH];exact h⟩⟩⟩
 .have hb:=Nf a0 b0 p 2 aE ;unfold qm rN;rw[bA a0,bA a0,bA a0,bA a0];generalize hk:lX a b p 2=k at *
  generalize hs:(a.neg != b.neg)=s;generalize hE:a.e-b.e-(k:Int)=E0;have hB:(0:Rat)<(b.m:Rat):=gO.2 aC;have Ut:=o0 b.e;have hP:=o0 E0;obtain⟨w,hw⟩:∃ w:Rat,w=(a.m:Rat)*P2 a.e/((b.m:Rat)*P2 b.e):=⟨_,rfl⟩
  have Vy:w*((b.m:Rat)*P2 b.e)=(a.m:Rat)*P2 a.e:=by
   have:(b.m:Rat)*P2 b.e≠0:=by have:=fk hB Ut;grind
   rw[hw];exact er this
  have lV:a.q/b.q=if s then -w else w:=by
   have uG:b.q≠0:=by
    have:=fk hB Ut;rw[rY b];cases b.neg<;>simp<;>grind
   have hq:(if s then -w else w)*b.q=a.q:=by
    rw[rY a,rY b,<-hs,<-Vy];cases a.neg<;>cases b.neg<;>simp<;>grind
   rw[<-hq,ap1 uG]
  have Oj:=c9 (a.m*2^k) b.m;have hr:=bV (a.m*2^k) (aC:0<b.m);generalize hN:a.m*2^k/b.m=N at *
  generalize hR:a.m*2^k%b.m=R at *
  have agO:(b.m:Rat)*(N:Rat)+(R:Rat)=(a.m:Rat)*((2^k:Nat):Rat):=by rw[<-dE,<-dE,<-eG,Oj]
  have hae:P2 a.e=((2^k:Nat):Rat)*P2 b.e*P2 E0:=by rw[<-Ad,<-sc,<-sc];congr 1;omega
  have KA:w*(b.m:Rat)=((b.m:Rat)*(N:Rat)+(R:Rat))*P2 E0:=by
   have:w*(b.m:Rat)*P2 b.e=((b.m:Rat)*(N:Rat)+(R:Rat))*P2 E0*P2 b.e:=by
    rw[agO,fE,Vy,hae];grind
   have kB:P2 b.e≠0:= aK ;have h2:=congrArg (· / P2 b.e) this;simp only[ap1 kB]at h2;exact h2
  by_cases h0:R=0
  .have OV:w=(N:Rat)*P2 E0:=by
    rw[h0]at KA;have kB:(b.m:Rat)≠0:= aK ;have h2:w*(b.m:Rat)=((N:Rat)*P2 E0)*(b.m:Rat):=by rw[KA];simp;grind
    have h3:=congrArg (· / (b.m:Rat)) h2;simp only[ap1 kB]at h3;exact h3
   have hc:a.q/b.q=(canon s N E0).q:=by rw[lV,s6,OV]
   rw[hc,bD (by simpa using h0)];exact⟨Gm _ _ _ hp im,Gn _ _ _ hp im⟩
  .have zh:(0:Rat)<(R:Rat):=gO.2 aC ;have hRb:(R:Rat)<(b.m:Rat):=Rat.natCast_lt_natCast.2 hr;have w1:(N:Rat)*P2 E0<w:=by
    apply aqc (c:=(b.m:Rat)) _ (b7 hB);rw[KA];have:=fk zh hP
    grind
   have w2:w<((N+1:Nat):Rat)*P2 E0:=by
    apply aqc (c:=(b.m:Rat)) _ (b7 hB);rw[KA,eG];have:=fk (show(0:Rat)<(b.m:Rat)-(R:Rat)by grind) hP;simp
    grind
   have hh:P2 E0=2*P2 (E0-1):=by
    rw[F7 (aC:E0-1<=E0),show(E0-(E0-1)).toNat=1 by omega];simp
   have v1:(N:Rat)*P2 E0<((2*N+1:Nat):Rat)*P2 (E0-1):=by
    have:=o0 (E0-1);rw[hh,eG,dE];simp;grind
   have v2:((2*N+1:Nat):Rat)*P2 (E0-1)<((N+1:Nat):Rat)*P2 E0:=by
    have:=o0 (E0-1);rw[hh,eG,dE,eG];simp;grind
   rw[bC (by simpa using h0),(EH E0 hb s false).1,(EH E0 hb s false).2,(EH E0 hb s true).1,(EH E0 hb s true).2,lV];have A:=Gm s (2*N+1) (E0-1) hp im;have B:=Gn s (2*N+1) (E0-1) hp im;rw[s6]at A B;refine⟨A.of λg hg=>?_,B.of λg hg=>?_⟩
   .obtain ⟨k1,k2,k3,k4⟩:=Sb hb v1 v2 w1 w2 hg;cases s
    .exact k1
    .exact k3
   .obtain ⟨k1,k2,k3,k4⟩:=Sb hb v1 v2 w1 w2 hg;cases s
    .exact k2
    .exact k4
def Iv.kr(x:Iv)(r:Rat):Prop:=x.all=true\/(x.lo.q<=r/\r<=x.hi.q)
def Sub(x y:Iv):Prop:=y.all=true\/(x.all=false/\y.lo.q<=x.lo.q/\x.hi.q<=y.hi.q)
def Sub.kr{x y:Iv}(h:Sub x y){r:Rat}(k:x.kr r):y.kr r:=by
 rcases h with h|⟨h1,h2,h3⟩
 .exact .inl h
 .rcases k with k|⟨k1,k2⟩
  .rw [h1]at k;cases k
  .exact .inr ⟨aK,aK⟩
def Sub.yF{x y:Iv}(h:Sub x y)(k:y.all=false):x.all=false/\y.lo.q<=x.lo.q/\x.hi.q<=y.hi.q:=by
 rcases h with h|h
 .rw [h]at k;cases k
 .exact h
def Iv.ix.q{x:Iv}(h:x.ix):x.lo.q<=x.hi.q:=by
 rcases h with⟨_,h2,h3⟩|⟨_,_,_,h⟩
 .rw [h2,h3];exact cP
 .exact (qk _ _).1 h
def Iv.ix.BF{x:Iv}(h:x.ix):x.lo.oe/\x.hi.oe:=by
 rcases h with⟨_,h2,h3⟩|⟨_,h2,h3,_⟩
 .rw [h2,h3];exact⟨tC.canon,tC.canon⟩
 .exact ⟨h2.canon,h3.canon⟩
def Iv.ix.BV{x:Iv}(h:x.ix):x.kr x.lo.q:=.inr ⟨cP,h.q⟩
def Iv.ix.EW{x:Iv}(h:x.ix):x.kr x.hi.q:=.inr ⟨h.q,cP⟩
structure F4(p:Nat)(S:Rat->Prop)(X:Iv):Prop where
 kr:∀ r,S r->X.kr r
 on:X.all=false->G p X.lo.q/\G p X.hi.q
 zI:∀ L U,G p L->G p U->(∀ r,S r->L<=r/\r<=U)->X.all=false/\L<=X.lo.q/\X.hi.q<=U
def Mx{x y:Iv}(hx:x.ix)(hy:y.ix)(xa:x.all=false)(ya:y.all=false){p:Nat}(hp:1<=p)(im:p<=4096):
 F4 p (λr=>∃ a b,x.kr a/\y.kr b/\r=a+b) (jX x y p):=by
 have A:=yO (Ey hx.BF.1 hy.BF.1) hp im;have B:=yP (Ey hx.BF.2 hy.BF.2) hp im;rw[Yc]at A B;unfold jX mA;rw[xa,ya];simp only[apy,bR,bI];have kr:∀ r,(∃ a b,x.kr a/\y.kr b/\r=a+b)->x.lo.q+y.lo.q<=r/\r<=x.hi.q+y.hi.q:=by
  rintro r ⟨a,b,ha,hb,rfl⟩;rcases ha with ha|ha
  .rw [xa]at ha;cases ha
  .rcases hb with hb|hb
   .rw [ya]at hb;cases hb
   .grind
 have zI:∀ L U,G p L->G p U->(∀ r,(∃ a b,x.kr a/\y.kr b/\r=a+b)->L<=r/\r<=U) ->
  (jY (iH x.lo y.lo) p false=0/\L<=(iM (iH x.lo y.lo) p false).q)/\jY (iH x.hi y.hi) p true=0/\(iM (iH x.hi y.hi) p true).q<=U:=λL U hL hU h=>
  ⟨A.2 L hL (h _ ⟨_,_,hx.BV,hy.BV,rfl⟩).1,B.2 U hU (h _ ⟨_,_,hx.EW,hy.EW,rfl⟩).2⟩
 split
 .rename_i he;refine⟨λ_ _=>.inl rfl,λh=>absurd h aE,λL U hL hU h=>?_⟩;obtain⟨⟨e1,_⟩,e2,_⟩:=zI L U hL hU h;rcases he with he|he
  .exact absurd e1 he
  .exact absurd e2 he
 .rename_i he;obtain⟨a1,a2⟩:=A.1 aC;obtain⟨b1,b2⟩:=B.1 aC;refine⟨λr hr=>.inr ?_,λ_=>⟨a1,b1⟩,λL U hL hU h=>?_⟩
  .obtain ⟨h1,h2⟩:=kr r hr;exact⟨bX a2 h1,bX h2 b2⟩
  .obtain ⟨⟨_,e1⟩,_,e2⟩:=zI L U hL hU h;exact⟨rfl,e1,e2⟩
def Jf{x y:Iv}(p:Nat)(h:x.all=true\/y.all=true):jX x y p=il:=by
 unfold jX;rw[bB (by rcases h with h|h<;>rw[h]<;>simp)]
def CO{x y:Iv}(hx:x.ix)(hy:y.ix){p:Nat}(hp:1<=p)(im:p<=4096){a b:Rat}(ha:x.kr a)(hb:y.kr b):(jX x y p).kr (a+b):=by
 cases xa:x.all
 .cases ya:y.all
  .exact (Mx hx hy xa ya hp im).kr _ ⟨a,b,ha,hb,rfl⟩
  .rw [Jf p (.inr ya)];exact .inl rfl
 .rw [Jf p (.inl xa)];exact .inl rfl
def Ub{p:Nat}{D:Dy->Dy->Bool->Dy}{E:Dy->Dy->Bool->Int}{f:Rat->Rat->Rat}{x y:Iv}{S:Rat->Prop}
 (hD:∀ a b,(a=x.lo\/a=x.hi)->(b=y.lo\/b=y.hi)->Dn p (f a.q b.q) (D a b false) (E a b false)/\Up p (f a.q b.q) (D a b true) (E a b true)/\S (f a.q b.q))
 (hS:∀ r,S r->(f x.lo.q y.lo.q<=r\/f x.lo.q y.hi.q<=r\/f x.hi.q y.lo.q<=r\/f x.hi.q y.hi.q<=r)/\(r<=f x.lo.q y.lo.q\/r<=f x.lo.q y.hi.q\/r<=f x.hi.q y.lo.q\/r<=f x.hi.q y.hi.q)):
 F4 p S (qf D E x y):=by
 obtain⟨a1,a2,a3⟩:=hD x.lo y.lo (.inl rfl) (.inl rfl);obtain⟨b1,b2,b3⟩:=hD x.lo y.hi (.inl rfl) (.inr rfl);obtain⟨c1,c2,c3⟩:=hD x.hi y.lo (.inr rfl) (.inl rfl);obtain⟨d1,d2,d3⟩:=hD x.hi y.hi (.inr rfl) (.inr rfl);have zI:∀ L U,G p L->G p U->(∀ r,S r->L<=r/\r<=U) ->
  ((E x.lo y.lo false=0/\L<=(D x.lo y.lo false).q)/\E x.lo y.lo true=0/\(D x.lo y.lo true).q<=U)/\((E x.lo y.hi false=0/\L<=(D x.lo y.hi false).q)/\E x.lo y.hi true=0/\(D x.lo y.hi true).q<=U) /\
  ((E x.hi y.lo false=0/\L<=(D x.hi y.lo false).q)/\E x.hi y.lo true=0/\(D x.hi y.lo true).q<=U)/\((E x.hi y.hi false=0/\L<=(D x.hi y.hi false).q)/\E x.hi y.hi true=0/\(D x.hi y.hi true).q<=U):=λL U hL hU h=>
  ⟨⟨a1.2 L hL (h _ a3).1,a2.2 U hU (h _ a3).2⟩,⟨b1.2 L hL (h _ b3).1,b2.2 U hU (h _ b3).2⟩,⟨c1.2 L hL (h _ c3).1,c2.2 U hU (h _ c3).2⟩,⟨d1.2 L hL (h _ d3).1,d2.2 U hU (h _ d3).2⟩⟩
 unfold qf;split
 .rename_i he;obtain⟨⟨e1,e2⟩,⟨e3,e4⟩,⟨e5,e6⟩,⟨e7,e8⟩⟩:=he;obtain⟨ga,la⟩:=a1.1 e1;obtain⟨gA,lA⟩:=a2.1 e2;obtain⟨gb,lb⟩:=b1.1 e3;obtain⟨gB,lB⟩:=b2.1 e4;obtain⟨gc,lc⟩:=c1.1 e5;obtain⟨gC,lC⟩:=c2.1 e6;obtain⟨gd,ld⟩:=d1.1 e7;obtain⟨gD,lD⟩:=d2.1 e8;obtain⟨m1,m2,m3⟩:=D4 (D x.lo y.lo false) (D x.lo y.hi false);obtain⟨m4,m5,m6⟩:=D4 (jB (D x.lo y.lo false) (D x.lo y.hi false)) (D x.hi y.lo false);obtain⟨m7,m8,m9⟩:=D4 (jB (jB (D x.lo y.lo false) (D x.lo y.hi false)) (D x.hi y.lo false)) (D x.hi y.hi false);obtain⟨n1,n2,n3⟩:=Iw (D x.lo y.lo true) (D x.lo y.hi true);obtain⟨n4,n5,n6⟩:=Iw (jy (D x.lo y.lo true) (D x.lo y.hi true)) (D x.hi y.lo true);obtain⟨n7,n8,n9⟩:=Iw (jy (jy (D x.lo y.lo true) (D x.lo y.hi true)) (D x.hi y.lo true)) (D x.hi y.hi true);generalize (jB (D x.lo y.lo false) (D x.lo y.hi false))=u1 at *
  generalize (jB u1 (D x.hi y.lo false))=u2 at *
  generalize (jB u2 (D x.hi y.hi false))=u3 at *
  generalize (jy (D x.lo y.lo true) (D x.lo y.hi true))=v1 at *
  generalize (jy v1 (D x.hi y.lo true))=v2 at *
  generalize (jy v2 (D x.hi y.hi true))=v3 at *
  refine⟨λr hr=>.inr ?_,λ_=>⟨?_,?_⟩,λL U hL hU h=>⟨rfl,?_,?_⟩⟩
  .obtain ⟨h1,h2⟩:=hS r hr;constructor
   .show u3.q<=r;rcases h1 with h1|h1|h1|h1<;>grind
   .show r<=v3.q;rcases h2 with h1|h1|h1|h1<;>grind
  .show G p u3.q;rcases m9 with h|h
   .rw [h];rcases m6 with h|h
    .rw [h];rcases m3 with h|h<;>rw[h]<;>assumption
    .rw [h];assumption
   .rw [h];assumption
  .show G p v3.q;rcases n9 with h|h
   .rw [h];rcases n6 with h|h
    .rw [h];rcases n3 with h|h<;>rw[h]<;>assumption
    .rw [h];assumption
   .rw [h];assumption
  .obtain ⟨⟨⟨_,k1⟩,_,k2⟩,⟨⟨_,k3⟩,_,k4⟩,⟨⟨_,k5⟩,_,k6⟩,⟨⟨_,k7⟩,_,k8⟩⟩:=zI L U hL hU h;show L<=u3.q;rcases m9 with h|h
   .rw [h];rcases m6 with h|h
    .rw [h];rcases m3 with h|h<;>rw[h]<;>assumption
    .rw [h];assumption
   .rw [h];assumption
  .obtain ⟨⟨⟨_,k1⟩,_,k2⟩,⟨⟨_,k3⟩,_,k4⟩,⟨⟨_,k5⟩,_,k6⟩,⟨⟨_,k7⟩,_,k8⟩⟩:=zI L U hL hU h;show v3.q<=U;rcases n9 with h|h
   .rw [h];rcases n6 with h|h
    .rw [h];rcases n3 with h|h<;>rw[h]<;>assumption
    .rw [h];assumption
   .rw [h];assumption
 .rename_i he;refine⟨λ_ _=>.inl rfl,λh=>absurd h aE,λL U hL hU h=>?_⟩;obtain⟨⟨⟨k1,_⟩,k2,_⟩,⟨⟨k3,_⟩,k4,_⟩,⟨⟨k5,_⟩,k6,_⟩,⟨⟨k7,_⟩,k8,_⟩⟩:=zI L U hL hU h;exact absurd ⟨⟨k1,k2⟩,⟨k3,k4⟩,⟨k5,k6⟩,k7,k8⟩ he
def SV{a b c d x y:Rat}(h1:a<=x)(h2:x<=b)(h3:c<=y)(h4:y<=d):
 (a*c<=x*y\/a*d<=x*y\/b*c<=x*y\/b*d<=x*y)/\(x*y<=a*c\/x*y<=a*d\/x*y<=b*c\/x*y<=b*d):=by
 have mono:∀ {u v w:Rat},u<=v->0<=w->u*w<=v*w:=λh k=>cO h k
 have anti:∀ {u v w:Rat},u<=v->w<=0->v*w<=u*w:=by
  intro u v w h k;have:=mono h (show 0 <= -w by grind)
  grind
 have side:∀ t:Rat,(t*c<=t*y\/t*d<=t*y)/\(t*y<=t*c\/t*y<=t*d):=by
  intro t;rw[gh t c,gh t d,gh t y];rcases Rat.le_total (a:=0) (b:=t)with h|h
  .exact ⟨.inl (mono h3 h),.inr (mono h4 h)⟩
  .exact ⟨.inr (anti h4 h),.inl (anti h3 h)⟩
 have sa:=side a;have sb:=side b;rcases Rat.le_total (a:=0) (b:=y)with h|h
 .have m1:=mono h1 h;have m2:=mono h2 h;clear mono anti side;constructor
  .rcases sa.1 with k|k<;>grind
  .rcases sb.2 with k|k<;>grind
 .have m1:=anti h1 h;have m2:=anti h2 h;clear mono anti side;constructor
  .rcases sb.1 with k|k<;>grind
  .rcases sa.2 with k|k<;>grind
def Iv.kr.kq{x:Iv}{r:Rat}(h:x.kr r)(k:x.all=false):x.lo.q<=r/\r<=x.hi.q:=by
 rcases h with h|h
 .rw [k]at h;cases h
 .exact h
def BE(a b:Dy):(yL a b).oe:=ux _ _ _
def PB{x y:Iv}(hx:x.ix)(hy:y.ix)(xa:x.all=false)(ya:y.all=false){p:Nat}(hp:1<=p)(im:p<=4096):
 F4 p (λr=>∃ a b,x.kr a/\y.kr b/\r=a*b) (iY x y p):=by
 unfold iY;rw[xa,ya];simp only[apy,bR,bI];refine Ub (f:=λa b=>a*b) (λa b ha hb=>⟨?_,?_,a.q,b.q,?_,?_,rfl⟩) (λr ⟨a,b,ha,hb,e⟩=>?_)
 .have:=yO (BE a b) hp im;rwa[FF]at this
 .have:=yP (BE a b) hp im;rwa[FF]at this
 .rcases ha with rfl|rfl;exact hx.BV;exact hx.EW
 .rcases hb with rfl|rfl;exact hy.BV;exact hy.EW
 .obtain ⟨h1,h2⟩:=ha.kq xa;obtain⟨h3,h4⟩:=hb.kq ya;rw[e];exact SV h1 h2 h3 h4
def KM{x y:Iv}(p:Nat)(h:x.all=true\/y.all=true):iY x y p=il:=by
 unfold iY;rw[bB (by rcases h with h|h<;>rw[h]<;>simp)]
def PD{x y:Iv}(hx:x.ix)(hy:y.ix){p:Nat}(hp:1<=p)(im:p<=4096){a b:Rat}(ha:x.kr a)(hb:y.kr b):(iY x y p).kr (a*b):=by
 cases xa:x.all
 .cases ya:y.all
  .exact (PB hx hy xa ya hp im).kr _ ⟨a,b,ha,hb,rfl⟩
  .rw [KM p (.inr ya)];exact .inl rfl
 .rw [KM p (.inl xa)];exact .inl rfl
def Pa{b c:Rat}(h0:0<c)(h:c<=b):b⁻¹<=c⁻¹:=by
 have hb:0<b:= aK ;apply fX (c:=b*c) _ (fk hb h0);have e1:b⁻¹*(b*c)=c:=by rw[<-fE,apD _ aK,fZ]
 have e2:c⁻¹*(b*c)=b:=by rw[gh b c,<-fE,apD _ aK,fZ]
 rw[e1,e2];exact h
def Xw(b:Rat):(-b)⁻¹ = -b⁻¹:=by
 by_cases h:b=0
 .rw [h];simp
 .have h1:(-b)⁻¹*(-b)=1:=apD _ aK ;have h2:b⁻¹*b=1:=apD _ h;have h3:(-b)⁻¹*(-b)*b⁻¹=b⁻¹:=by rw[h1,fZ]
  grind
def VV{b c:Rat}(h0:b<0)(h:c<=b):b⁻¹<=c⁻¹:=by
 have:=Pa (b:=-c) (c:=-b) aK aK;rw[Xw,Xw]at this
 grind
def ZS{y:Iv}(_hy:y.ix)(h:nc y≠0):y.all=false/\(0<y.lo.q\/y.hi.q<0):=by
 unfold nc at h;cases ya:y.all
 .rw [ya]at h;simp only[bR,bI]at h;refine⟨rfl,?_⟩;split at h
  .rename_i h1;exact .inl ((uR _).1.1 h1)
  .split at h
   .rename_i h1;exact .inr ((uR _).2.1 h1)
   .exact absurd rfl h
 .rw [ya]at h;simp at h
def QV{y:Iv}(ya:y.all=false)(h:0<y.lo.q\/y.hi.q<0):nc y≠0:=by
 unfold nc;rw[ya];simp only[bR,bI];rcases h with h|h
 .rw [bB ((uR _).1.2 h)];decide
 .split
  .decide
  .rw [bB ((uR _).2.2 h)];decide
def aiA{d:Dy}(h:d.q≠0):d.m≠0:=by
 intro h0;apply h;rw[rY,h0];simp
def JD{x y:Iv}(hx:x.ix)(hy:y.ix)(xa:x.all=false)(hs:nc y≠0){p:Nat}(hp:1<=p)(im:p<=4096):
 F4 p (λr=>∃ a b,x.kr a/\y.kr b/\r=a/b) (jO x y p):=by
 obtain⟨ya,h0⟩:=ZS hy hs;have hle:=hy.q;unfold jO;rw[xa,ya,bD hs];simp only[apy,bR,bI];refine Ub (f:=λa b=>a/b) (λa b ha hb=>?_) (λr ⟨a,b,ha,hb,e⟩=>?_)
 .have b0:b.m≠0:=aiA (by rcases hb with rfl|rfl<;>grind);obtain⟨h1,h2⟩:=Ta (a:=a) b0 hp im;refine⟨h1,h2,a.q,b.q,?_,?_,rfl⟩
  .rcases ha with rfl|rfl;exact hx.BV;exact hx.EW
  .rcases hb with rfl|rfl;exact hy.BV;exact hy.EW
 .obtain ⟨h1,h2⟩:=ha.kq xa;obtain⟨h3,h4⟩:=hb.kq ya;have i1:y.hi.q⁻¹<=b⁻¹:=by
   rcases h0 with h0|h0
   .exact Pa aK h4
   .exact VV aK h4
  have i2:b⁻¹<=y.lo.q⁻¹:=by
   rcases h0 with h0|h0
   .exact Pa h0 h3
   .exact VV aK h3
  obtain⟨k1,k2⟩:=SV h1 h2 i1 i2;rw[e];simp only[dm];exact⟨aK,aK⟩
def Gs{x y:Iv}(p:Nat)(h:x.all=true\/nc y=0):jO x y p=il:=by
 unfold jO;rw[bB (by rcases h with h|h<;>rw[h]<;>simp)]
def JE{x y:Iv}(hx:x.ix)(hy:y.ix){p:Nat}(hp:1<=p)(im:p<=4096){a b:Rat}(ha:x.kr a)(hb:y.kr b):(jO x y p).kr (a/b):=by
 cases xa:x.all
 .by_cases hs:nc y=0
  .rw [Gs p (.inr hs)];exact .inl rfl
  .exact (JD hx hy xa hs hp im).kr _ ⟨a,b,ha,hb,rfl⟩
 .rw [Gs p (.inl xa)];exact .inl rfl
def DP{x:Iv}(h:x.lo.q<=x.hi.q):x.hi.q<=(nM x).q /\ -x.lo.q<=(nM x).q/\((nM x).q=x.hi.q\/(nM x).q = -x.lo.q):=by
 obtain⟨a1,a2,a3,a4⟩:=A7 x.lo;obtain⟨b1,b2,b3,b4⟩:=A7 x.hi;obtain⟨c1,c2,c3⟩:=Iw (mR x.lo) (mR x.hi);unfold nM;generalize (jy (mR x.lo) (mR x.hi)).q=M at *
 refine⟨aK,aK,?_⟩;rcases c3 with c3|c3
 .rcases a4 with a4|a4
  .grind
  .grind
 .rcases b4 with b4|b4
  .grind
  .grind
def aiD{x x':Iv}(hx:x.ix)(yB:x'.ix)(h:Sub x x')(xa:x'.all=false):(nM x).q<=(nM x').q:=by
 obtain⟨h1,h2,h3⟩:=h.yF xa;obtain⟨a1,a2,a3⟩:=DP hx.q;obtain⟨b1,b2,b3⟩:=DP yB.q
 grind
def Pw{x:Iv}(hx:x.ix)(xa:x.all=false):0<=(pP x).q/\(x.lo.q<=0->0<=x.hi.q->(pP x).q=0)/\(0<x.lo.q->(pP x).q=x.lo.q)/\(x.hi.q<0->(pP x).q = -x.hi.q):=by
 have hle:=hx.q;obtain⟨a1,a2,a3,a4⟩:=A7 x.lo;obtain⟨b1,b2,b3,b4⟩:=A7 x.hi;obtain⟨c1,c2,c3⟩:=D4 (mR x.lo) (mR x.hi);by_cases hs:nc x=0
 .have hn:¬(0<x.lo.q\/x.hi.q<0):=λh=>QV xa h hs
  have:pP x=iS:=by unfold pP;rw[bB hs]
  rw[this,xH];refine⟨cP,λ_ _=>rfl,λh=>absurd (.inl h) hn,λh=>absurd (.inr h) hn⟩
 .obtain ⟨_,h0⟩:=ZS hx hs;have:pP x=jB (mR x.lo) (mR x.hi):=by unfold pP;rw[bA hs]
  rw[this];generalize (jB (mR x.lo) (mR x.hi)).q=M at *
  generalize (mR x.lo).q=u at *
  generalize (mR x.hi).q=v at *
  refine⟨aK,aK,aK,aK⟩
def aoT{x x':Iv}(hx:x.ix)(yB:x'.ix)(h:Sub x x'):Sub (ky x) (ky x'):=by
 cases xa:x'.all
 .obtain ⟨h1,h2,h3⟩:=h.yF xa;unfold ky;rw[h1,xa];refine .inr ⟨rfl,?_,aiD hx yB h xa⟩;show(pP x').q<=(pP x).q;obtain⟨a1,a2,a3,a4⟩:=Pw hx h1;obtain⟨b1,b2,b3,b4⟩:=Pw yB xa;have:=hx.q;by_cases c1:0<x'.lo.q
  .rw [b3 c1,a3 aK];exact h2
  .by_cases c2:x'.hi.q<0
   .rw [b4 c2,a4 aK];grind
   .rw [b2 aK aK];exact a1
 .refine .inl ?_;unfold ky;rw[bB xa];rfl
def Jc{x:Iv}(hx:x.ix){r s:Rat}(h:x.kr r)(hs:s=r/\0<=r\/s = -r/\r<=0):(ky x).kr s:=by
 unfold ky;cases xa:x.all
 .obtain ⟨h1,h2⟩:=h.kq xa;obtain⟨a1,a2,a3⟩:=DP hx.q;obtain⟨b1,b2,b3,b4⟩:=Pw hx xa;refine .inr ⟨?_,?_⟩
  .show (pP x).q<=s;by_cases c1:0<x.lo.q
   .rw [b3 c1];grind
   .by_cases c2:x.hi.q<0
    .rw [b4 c2];grind
    .rw [b2 aK aK];grind
  .show s<=(nM x).q
   grind
 .exact .inl rfl
def Qb(d:Dy):(jP d).kr d.q:=.inr ⟨cP,cP⟩
def A4(n:Int):(jQ n).kr (n:Rat):=by have:=Qb (jv n);rwa[Cr]at this
def jJ(d:Dy)(p:Nat)(up:Bool):Nat->Dy×Int
 | 0=>(iM d p up,jY d p up)
 |k+1=>if(jJ d p up k).2≠0 then jJ d p up k else(iM (yL (jJ d p up k).1 d) p up,jY (yL (jJ d p up k).1 d) p up)
def lY(d:Dy)(n p:Nat)(up:Bool):Dy×Int:=if d.jq<0 then(iO (jJ (iO d) p (!up) (n-1)).1,(jJ (iO d) p (!up) (n-1)).2)else jJ d p up (n-1)
def vJ(x:Iv)(n:Nat):Iv:=if n%2=0 then ky x else x
def lN(x:Iv)(n p:Nat):Iv:=
 if x.all then il else if n=0 then jP ⟨false,1,0⟩
 else mA (lY (vJ x n).lo n p false).1 (lY (vJ x n).lo n p false).2 (lY (vJ x n).hi n p true).1 (lY (vJ x n).hi n p true).2
def oH(r:Rat):Nat->Rat
 | 0=>1
 |n+1=>oH r n*r
def Eb{r:Rat}(h:0<=r):∀ n,0<=oH r n
 | 0=>by show(0:Rat)<=1;decide
 |n+1=>ck (Eb h n) h
def IG{a b:Rat}(h0:0<=a)(h:a<=b):∀ n,oH a n<=oH b n
 | 0=>cP
 |n+1=>by
  have ih:=IG h0 h n;have m1:=cO ih h0;have m2:=dh h (Eb (bX h0 h) n);exact bX m1 m2
def Ea(r:Rat):∀ n,oH (-r) n=if n%2=0 then oH r n else -oH r n
 | 0=>rfl
 |n+1=>by
  have ih:=Ea r n;simp only[oH,ih];have:n%2=0\/n%2=1:= aC ;rcases this with h|h
  .have h':(n+1)%2=1:= aC ;rw[h,h'];simp;grind
  .have h':(n+1)%2=0:= aC ;rw[h,h'];simp;grind
def QB{a b:Rat}{n:Nat}(hn:n%2=1)(h:a<=b):oH a n<=oH b n:=by
 by_cases h0:0<=a
 .exact IG h0 h n
 .have ea:=Ea (-a) n;rw[fY,hn]at ea;simp only[apE,bI]at ea;by_cases hb:0<=b
  .have h1:=Eb (show 0 <= -a by grind) n;have h2:=Eb hb n
   grind
  .have eb:=Ea (-b) n;rw[fY,hn]at eb;simp only[apE,bI]at eb;have:=IG (show 0 <= -b by grind) (show -b <= -a by grind) n
   grind
def Qd{d:Dy}(hd:d.oe)(h0:0<=d.q){p:Nat}(hp:1<=p)(im:p<=4096):∀ k,(jJ d p false k).2=0->0<=(jJ d p false k).1.q/\(jJ d p false k).1.q<=oH d.q (k+1)
 | 0,he=>by
  have A:=yO hd hp im;refine⟨(A.2 0 (.inl (Bo p)) h0).2,?_⟩;have:=(A.1 he).2;simp only[oH,fZ];exact this
 |k+1,he=>by
  by_cases hk:(jJ d p false k).2≠0
  .exfalso;simp only[jJ,bB hk]at he;exact hk he
  .have oO:(jJ d p false k).2=0:= aC ;obtain⟨i1,i2⟩:=Qd hd h0 hp im k oO;have A:=yO (BE (jJ d p false k).1 d) hp im;rw[FF]at A;simp only[jJ,bA hk]at he ⊢;refine⟨(A.2 0 (.inl (Bo p)) (ck i1 h0)).2,?_⟩;have h1:=(A.1 he).2;have h2:=cO i2 h0;exact bX h1 h2
def Qf{d:Dy}(hd:d.oe)(h0:0<=d.q){p:Nat}(hp:1<=p)(im:p<=4096):∀ k,(jJ d p true k).2=0->oH d.q (k+1)<=(jJ d p true k).1.q
 | 0,he=>by
  have A:=yP hd hp im;have:=(A.1 he).2;simp only[oH,fZ];exact this
 |k+1,he=>by
  by_cases hk:(jJ d p true k).2≠0
  .exfalso;simp only[jJ,bB hk]at he;exact hk he
  .have oO:(jJ d p true k).2=0:= aC ;have i2:=Qf hd h0 hp im k oO;have A:=yP (BE (jJ d p true k).1 d) hp im;rw[FF]at A;simp only[jJ,bA hk]at he ⊢;have h1:=(A.1 he).2;have h2:=cO i2 h0;exact bX h2 h1
def aev{d:Dy}(hd:d.oe){n p:Nat}(hn:1<=n)(hs:0<=d.q\/n%2=1)(hp:1<=p)(im:p<=4096)(he:(lY d n p false).2=0):(lY d n p false).1.q<=oH d.q n:=by
 unfold lY at he ⊢;by_cases h:d.jq<0
 .rw [bB h]at he ⊢;have hq:=(uR d).2.1 h;have B3:=hs.resolve_left aK;have:=Qf (PL hd) (by rw[rX];grind) hp im (n-1) he;rw[(aC:n-1+1=n),rX,Ea,B3]at this;simp only[apE,bI]at this;show(iO _).q<=_;rw[rX];simp only[fp]
  grind
 .rw [bA h]at he ⊢;have h0:0<=d.q:=by
   apply dW.1;intro iK;exact h ((uR d).2.2 iK)
  have:=(Qd hd h0 hp im (n-1) he).2;rwa[(aC:n-1+1=n)]at this
def aew{d:Dy}(hd:d.oe){n p:Nat}(hn:1<=n)(hs:0<=d.q\/n%2=1)(hp:1<=p)(im:p<=4096)(he:(lY d n p true).2=0):oH d.q n<=(lY d n p true).1.q:=by
 unfold lY at he ⊢;by_cases h:d.jq<0
 .rw [bB h]at he ⊢;have hq:=(uR d).2.1 h;have B3:=hs.resolve_left aK;have:=(Qd (PL hd) (by rw[rX];grind) hp im (n-1) he).2;rw[(aC:n-1+1=n),rX,Ea,B3]at this;simp only[apE,bI]at this;show _<=(iO _).q;rw[rX];simp only[fI]
  grind
 .rw [bA h]at he ⊢;have h0:0<=d.q:=by
   apply dW.1;intro iK;exact h ((uR d).2.2 iK)
  have:=Qf hd h0 hp im (n-1) he;rwa[(aC:n-1+1=n)]at this
def akm{x:Iv}(hx:x.ix){n p:Nat}(hp:1<=p)(im:p<=4096){r:Rat}(h:x.kr r):(lN x n p).kr (oH r n):=by
 unfold lN;cases xa:x.all
 .simp only[bR,bI];by_cases hn:n=0
  .rw [bB hn];subst hn;have e:(⟨false,1,0⟩:Dy).q=1:= aL ;refine .inr ⟨?_,?_⟩
   .show (⟨false,1,0⟩:Dy).q<=1;rw[e];exact cP
   .show 1<=(⟨false,1,0⟩:Dy).q;rw[e];exact cP
  .rw [bA hn];obtain⟨s,hs,vq,hsn⟩:∃ s,(vJ x n).kr s/\(n%2=0->0<=(vJ x n).lo.q/\0<=s)/\oH r n=oH s n:=by
    unfold vJ;by_cases rp:n%2=0
    .rw [bB rp];have hl:0<=(ky x).lo.q:=by
      unfold ky;rw[xa];show 0<=(pP x).q;unfold pP;split
      .rw [xH];exact cP
      .obtain ⟨_,_,m⟩:=D4 (mR x.lo) (mR x.hi);rcases m with m|m<;>rw[m]
       .exact (A7 x.lo).1
       .exact (A7 x.hi).1
     by_cases hr:0<=r
     .exact ⟨r,Jc hx h (.inl ⟨rfl,hr⟩),λ_=>⟨hl,hr⟩,rfl⟩
     .refine ⟨-r,Jc hx h (.inr ⟨rfl,aK⟩),λ_=>⟨hl,aK⟩,?_⟩;rw[Ea,bB rp]
    .rw [bA rp];exact⟨r,h,λq=>absurd q rp,rfl⟩
   have AJ:(vJ x n).ix:=by unfold vJ;split;exact Jd hx;exact hx
   have ya:(vJ x n).all=false:=by
    unfold vJ;split
    .unfold ky;rw[xa];rfl
    .exact xa
   rw[hsn];generalize vJ x n=y at *
   obtain⟨s1,s2⟩:=hs.kq ya;obtain⟨c1,c2⟩:=AJ.BF;unfold mA;split
   .exact .inl rfl
   .rename_i he;have B3:¬n%2=0->n%2=1:=λq=> aC 
    refine .inr ⟨?_,?_⟩
    .refine bX (aev c1 aC ?_ hp im aC) ?_
     .by_cases rp:n%2=0
      .exact .inl (vq rp).1
      .exact .inr (B3 rp)
     .by_cases rp:n%2=0
      .exact IG (vq rp).1 s1 n
      .exact QB (B3 rp) s1
    .refine bX ?_ (aew c2 aC ?_ hp im aC)
     .by_cases rp:n%2=0
      .exact IG (vq rp).2 s2 n
      .exact QB (B3 rp) s2
     .by_cases rp:n%2=0
      .exact .inl (bX (vq rp).2 s2)
      .exact .inr (B3 rp)
 .rw [bB rfl];exact .inl rfl
end Go.Proofs.YtgdahmmlddfimaaGreatDoor.Fp
namespace Go.Proofs.YtgdahmmlddfimaaGreatDoor
open Go.RowKit Fp Pu
structure nF where
 kind:Nat
 a:Nat
 b:Nat
 n:Nat
 cn:Int
 cd:Int
structure ki where
 iw:Nat
 ig:List nF
 iC:List Nat
structure jN where
 tape:ki
 iG:Nat
 params:List Iv
def iR:nF:=⟨0,0,0,0,0,0⟩
def K0(o:nF):List E:=[iP (o.kind:Int),iP (o.a:Int),iP (o.b:Int),iP (o.n:Int),iP o.cn,iP o.cd]
def xG(o:nF):E:=.agg (K0 o)
def mG(l:List nF):E:=.sl true l.length 6 λi j=>(K0 (l.getD i iR)).getD j .any
def mF(l:List Nat):E:=.sl true l.length 1 λi _=>iP (l.getD i 0:Int)
def anC(t:ki):List E:=[iP (t.iw:Int),mG t.ig,mF t.iC]
def kW(t:ki):E:=.agg (anC t)
def anb(s:jN):List E:=[iP (s.tape.iw:Int),mG s.tape.ig,mF s.tape.iC,iP (s.iG:Int),iu s.params]
def kf(s:jN):E:=.agg (anb s)
def nO(n d:Int):Bool:=decide (1<=d)&&(decide (d<=1073741824)&&(decide (-1073741824<=n)&&(decide (n<=1073741824)&&decide (Nat.gcd n.natAbs d.natAbs=1))))
def Qi{n d:Int}(h:nO n d=true):1<=d/\d<=1073741824 /\ -1073741824<=n/\n<=1073741824:=by
 unfold nO at h;simp only[bQ,cL]at h;exact⟨h.1,h.2.1,h.2.2.1,h.2.2.2.1⟩
def GD(f:FuncId)(x:Iv)(p:Nat):Prop:=∃ y:Iv,y.ix/\ie f [iy x,iP (p:Int)] (iy y)
def vR:Prop:=∀ (x:Iv) (p:Nat),x.ix->8<=p->p<=512->GD 312 x p/\GD 314 x p/\GD 315 x p/\GD 316 x p/\GD 319 x p
structure og(o:nF)(m:Nat):Prop where
 k3:o.kind=1\/3<=o.kind
 yD:o.kind<=13
 a:if o.kind=1 then o.a=0 else o.a<m
 b:if 3<=o.kind/\o.kind<=6 then o.b<m else o.b=0
 n:if o.kind=8 then o.n<=16 else o.n=0
 c:if o.kind=1 then nO o.cn o.cd=true else o.cn=0/\o.cd=0
 f:o.kind<=8\/vR
structure Af(t:ki):Prop where
 iw:t.iw<=8
 ig:t.ig.length<=200
 iC:t.iC.length<=200
 op:∀ i,i<t.ig.length->og (t.ig.getD i iR) (t.iw+i)
 out:∀ i,i<t.iC.length->t.iC.getD i 0<t.iw+t.ig.length
def qN(l:List Iv):Prop:=∀ i,i<l.length->(l.getD i il).ix/\(l.getD i il).all=false
structure mq(s:jN):Prop where
 tape:Af s.tape
 s1:1<=s.iG
 s4:s.iG<=4
 iC:s.tape.iC.length=s.iG
 iw:s.tape.iw=s.iG+s.params.length
 p4:s.params.length<=4
 params:qN s.params
structure kE(n:Nat)(b:List Iv):Prop where
 len:b.length=n
 ok:qN b
def sY(l:List Iv):Bool:=(List.range l.length).any λi=>(l.getD i il).all
def wQ(d:Dy){p:Nat}(hp:1<=p)(im:p<=4096)(up:Bool):(iM d p up).ix:=uA _ _ _ _ _ _ hp im
def A6(d:Dy){p:Nat}(hp:1<=p)(im:p<=4096)(up:Bool):∀ k,(jJ d p up k).1.ix
 | 0=>wQ _ hp im _
 |k+1=>by
  unfold jJ;split
  .exact A6 d hp im up k
  .exact wQ _ hp im _
def Tu(d:Dy)(n:Nat){p:Nat}(hp:1<=p)(im:p<=4096)(up:Bool):(lY d n p up).1.ix:=by
 unfold lY;split
 .exact wN (A6 _ hp im _ _)
 .exact A6 _ hp im _ _
def XM:canon false 1 0=⟨false,1,0⟩:=by
 have h1:(canon false 1 0).neg=false:= aL ;have h2:(canon false 1 0).m=1:= aL ;have h3:(canon false 1 0).e=0:= aL ;generalize canon false 1 0=d at *
 cases d;simp_all
def Il:(⟨false,1,0⟩:Dy).ix:=by
 have h2:oR (canon false 1 0):= aL ;rw[<-XM];exact⟨ux _ _ _,h2⟩
def Ld{x:Iv}(hx:x.ix)(n:Nat){p:Nat}(hp:1<=p)(im:p<=4096):(lN x n p).ix:=by
 have hh:=akm hx (n:=n) hp im hx.BV;revert hh;unfold lN;split
 .intro _;exact mw
 .split
  .intro _;exact rH Il
  .unfold mA;split
   .intro _;exact mw
   .intro hh;obtain⟨h1,h2⟩:=hh.kq rfl;exact .inr ⟨rfl,Tu _ _ hp im _,Tu _ _ hp im _,(qk _ _).2 (bX h1 h2)⟩
def nG(l:List Iv):Prop:=∀ i,(l.getD i il).ix
def nG.push{l:List Iv}(h:nG l){y:Iv}(hy:y.ix):nG (l++[y]):=λi=>by
 rw[bE,ew];split
 .have:=h i;rwa[bE]at this
 .rcases i-l.length with _|j
  .exact hy
  .exact mw
def qN.L8{l:List Iv}(h:qN l):nG l:=λi=>by
 by_cases hi:i<l.length
 .exact (h i hi).1
 .rw [bE,cz aC];exact mw
def nG.append{l r:List Iv}(h:nG l)(k:nG r):nG (l++r):=λi=>by
 rw[bE,ew];split
 .have:=h i;rwa[bE]at this
 .have:=k (i-l.length);rwa[bE]at this
def zE(a b:List Iv):Bool:=(List.range a.length).all λi=>ri (a.getD i il) (b.getD i il)
def Ff(x y:Iv):Iv:=if x.all||y.all then il else⟨jB x.lo y.lo,jy x.hi y.hi,false⟩
def vQ(x:Iv)(p:Nat):Dy:=iM (iH x.hi (iO x.lo)) p true
def CL(x:Iv)(p:Nat):Int:=jY (iH x.hi (iO x.lo)) p true
def ahd{x y:Iv}(hx:x.ix)(hy:y.ix):(Ff x y).ix:=by
 unfold Ff;cases xa:x.all
 .cases ya:y.all
  .obtain ⟨x1,x2⟩:x.lo.ix/\x.hi.ix:=hx.kq;obtain⟨y1,y2⟩:y.lo.ix/\y.hi.ix:=hy.kq;refine .inr ⟨rfl,vD x1 y1,tw x2 y2,?_⟩;rw[qk];have hq:=hx.q;obtain⟨a1,a2,_⟩:=D4 x.lo y.lo;obtain⟨b1,b2,_⟩:=Iw x.hi y.hi
   grind
  .exact mw
 .exact mw
def aek(s:Bool)(L:List Nat)(e:Int)(hk:iZ L)(hl:L.length<=256)(mP:-1000000<=e)(lZ:e<=1000000):ie 219 [bP s,ik L,iP e] (iz (canon s (val L) e)):=by
 refine⟨call219,λw B vs hK hB hr=>?_⟩;obtain⟨v1,vs,rfl,h1,hr⟩:=hr.ni;obtain⟨v2,vs,rfl,h2,hr⟩:=hr.ni;obtain⟨v3,vs,rfl,h3,hr⟩:=hr.ni;obtain rfl:=hr.rS;obtain rfl:=iQ.kX h1;obtain rfl:=iQ.kX h3;obtain⟨A,c,rfl,s1⟩:=yQ hk h2;exact(JG s A c L e w s1 aC (by have:=qw L;unfold np at this;omega) mP lZ hK).mono λe w' h=>rd B w e w' hB h
def anU(x y:Nat):E.le (.sl false 2 1 λi j=>[E.v (.int .u32 (x:Int)),.v (.int .u32 (y:Int))].getD (i*1+j) (.v (.bool false))) (ik [x,y]):=.sl λi j hi hj=>by
 obtain rfl:j=0:= aC ;obtain rfl|rfl:i=0\/i=1:= aC 
 .exact ⟨.refl _,rfl⟩
 .exact ⟨.refl _,rfl⟩
def B8(n:Nat):jv (n:Int)=canon false n 0:=by
 unfold jv kR;rw[bD aC,fi]
def Fl(n:Nat)(h:n<4294967296):(jv (n:Int)).ix:=by
 rw[B8];refine⟨ux _ _ _,?_⟩;by_cases h0:n=0
 .subst h0;exact .inl rfl
 .have:=CX (s:=false) (e:=0) h0;have hb:iB n<=32:=mK.2 h;refine .inr ⟨aC,aC,?_,aC⟩;obtain⟨h1,h2,h3,h4⟩:=this;have:=pF h3;omega
def aoi(x y:Nat):val [x,y]=x+4294967296*y:=by simp[val]
def R4(d:Dy)(n p:Nat)(x:Nat):PS:=⟨41,true,[(14,.e (iP ((x+1:Nat):Int))),(13,.e (iP ((jJ d p false x).2))),(12,.box 12 0),(10,.box 10 0),(5,.box 5 0),(1,.e (iP n)),(2,.e (iP p)),(4,.e (.fn 254 []))],[(12,.cells 31 (jg ((jJ d p false x).1))),(10,.cells 31 ar),(5,.cells 31 (jg d))]⟩
def R5(d:Dy)(n N p:Nat)(x:Nat):PS:=⟨41,true,[(14,.e (iP ((x+1:Nat):Int))),(13,.e (iP ((jJ d p false x).2))),(12,.box 12 0),(10,.box 10 0),(5,.box 5 0),(1,.e (iP n)),(2,.e (iP p)),(4,.e (.fn 254 []))],[(12,.cells 31 (jg ((jJ d p false x).1))),(10,.cells 31 ar),(5,.cells 31 (jg d))]⟩
def R6(d:Dy)(n p:Nat)(x:Nat):PS:=⟨41,true,[(14,.e (iP ((x+1:Nat):Int))),(13,.e (iP ((jJ d p true x).2))),(12,.box 12 0),(10,.box 10 0),(5,.box 5 0),(1,.e (iP n)),(2,.e (iP p)),(4,.e (.fn 255 []))],[(12,.cells 31 (jg ((jJ d p true x).1))),(10,.cells 31 ar),(5,.cells 31 (jg d))]⟩
def R7(d:Dy)(n N p:Nat)(x:Nat):PS:=⟨41,true,[(14,.e (iP ((x+1:Nat):Int))),(13,.e (iP ((jJ d p true x).2))),(12,.box 12 0),(10,.box 10 0),(5,.box 5 0),(1,.e (iP n)),(2,.e (iP p)),(4,.e (.fn 255 []))],[(12,.cells 31 (jg ((jJ d p true x).1))),(10,.cells 31 ar),(5,.cells 31 (jg d))]⟩
def abC(s:Bool)(m:Nat)(e:Int)(hl:(ij m).length<=256)(mP:-1000000<=e)(lZ:e<=1000000):ie 219 [bP s,ik (ij m),iP e] (iz (canon s m e)):=by
 refine⟨call219,λw B vs hK hB hr=>?_⟩;obtain⟨v1,vs,rfl,h1,hr⟩:=hr.ni;obtain⟨v2,vs,rfl,h2,hr⟩:=hr.ni;obtain⟨v3,vs,rfl,h3,hr⟩:=hr.ni;obtain rfl:=hr.rS;obtain rfl:=iQ.kX h1;obtain rfl:=iQ.kX h3;obtain⟨A,c,rfl,s1⟩:=yQ (mQ m) h2;exact(Sx s m e A c w s1 hl mP lZ hK).mono λe w' h=>rd B w e w' hB h
def abD(d:Dy)(hl:(ij d.m).length<=100000000)(mP:-10000000<=d.e)(lZ:d.e<=10000000):ie 222 [iz d] (.iE [iz (sS d),iP (vc d)]):=
 zT call222 (λA c w h _=>adx d A c w h aC aC aC) Ql
def abM(k:Int)(h1:-32768<=k)(h2:k<=32768):ie 233 [iP k] (bP true):=
 ak call233 func233 (af [tT 4 ((-32768)<=k) aC,tT 7 (k<=32768) aC]) 
def MF(d:Dy)(k:Int)(hv:d.ix)(h1:-32768<=k)(h2:k<=32768):ie 177 [iz d,iP k] (.iE [iz (sS (canon d.neg d.m (d.e+k))),iP (vc (canon d.neg d.m (d.e+k)))]):=by
 have hl:=hv.ij;have he:=hv.exp;have lh:=Sv (mQ d.m) hl d.neg (d.e+k);obtain⟨om,sG⟩:=Su (mQ d.m) hl d.neg (d.e+k) aC aC;rw[kP]at lh om sG;exact ak call177 func177 (af [ag [iz d] (sT _ aD),.c (abM k aC aC),iF (d.e+k) aC,ag [bP d.neg,ik (ij d.m),iP (d.e+k)] (abC _ _ _ aC aC aC),ag [iz (canon d.neg d.m (d.e+k))] (abD _ aC aC aC)]) 
def Gb(n:Nat)(h:n<4294967296):ie 189 [iP n] (iz (jv (n:Int))):=by
 have ok2:iZ [n%4294967296,n/4294967296%4294967296]:=iZ.cons (bV _ aE) (iZ.cons (bV _ aE) iZ.nil);exact ak call189 func189 (ae [.o 5 (.int (sR _ aC):aj (.v (.int .u64 (IntKind.u64.wrap (n:Int)))) (.v (.int .u64 (n:Int)))),tF 7 ((n:Int)<0) aC,tF 11 ((n:Int)<0) aC,.o 13 (.int (FY _):aj (.v (.int .u32 (IntKind.u32.wrap (n:Int)))) (.v (.int .u32 ((n%4294967296:Nat):Int)))),.a (aC:0<=(32:Int)/\(32:Int)<=((64:Nat):Int)),.o 15 (.int (ZO _):aj (.v (.int .u64 ((n:Int)/2^32))) (.v (.int .u64 ((n/4294967296:Nat):Int)))),.o 16 (.int (FY _):aj (.v (.int .u32 (IntKind.u32.wrap ((n/4294967296:Nat):Int)))) (.v (.int .u32 (((n/4294967296)%4294967296:Nat):Int)))),.o 17 (.e (anU _ _):aj (.sl false 2 1 λi_ j_=>[.v (.int .u32 ((n%4294967296:Nat):Int)),.v (.int .u32 (((n/4294967296)%4294967296:Nat):Int))].getD (i_*1+j_) (.v (.bool false))) (ik [n%4294967296,(n/4294967296)%4294967296])),ag [bP false,ik [n%4294967296,(n/4294967296)%4294967296],iP 0] (aek _ _ _ ok2 aH aE aE)]<|rQ (iz (canon false (val [n%4294967296,(n/4294967296)%4294967296]) 0)) (iz (jv (n:Int))) (by rw[aoi,(aC:n%4294967296+4294967296*(n/4294967296%4294967296)=n),B8])) 
def ahv:jv 1=⟨false,1,0⟩:=by rw[show(1:Int)=((1:Nat):Int)from rfl,B8];exact XM
def ME:ie 189 [iP 1] (iz ⟨false,1,0⟩):=by
 have:=Gb 1 aE;rwa[show((1:Nat):Int)=1 from rfl,ahv]at this
def Jm(d:Dy)(p:Nat)(hd:d.ix)(iA:8<=p)(im:p<=512):ie 290 [iz d,iP p] (.iE [iz (iM d p false),iP (jY d p false)]):=
 ak call290 func290 (af [.c (Lg d p false aD aC aC)]) 
def Jn(d:Dy)(p:Nat)(hd:d.ix)(iA:8<=p)(im:p<=512):ie 289 [iz d,iP p] (.iE [iz (iM d p true),iP (jY d p true)]):=
 ak call289 func289 (af [.c (Lg d p true aD aC aC)]) 
def Qe(d:Dy)(p:Nat)(up:Bool)(N:Nat)(h:(jJ d p up N).2≠0):∀ k,jJ d p up (N+k)=jJ d p up N
 | 0=>rfl
 |k+1=>by
  have ih:=Qe d p up N h k;show(if(jJ d p up (N+k)).2≠0 then jJ d p up (N+k)else _)=_;rw[ih,bB h]
def Cq{d:Dy}{p:Nat}{up:Bool}{k:Nat}(h:(jJ d p up k).2=0):jJ d p up (k+1)=(iM (nC (jJ d p up k).1 d) p up,jY (nC (jJ d p up k).1 d) p up):=by
 show(if(jJ d p up k).2≠0 then _ else _)=_;rw[bA (not_not_intro h)];rfl
def ab1(d:Dy)(n p:Nat)(hd:d.ix)(hn:1<=n)(mY:n<=16)(iA:8<=p)(im:p<=512)(jc:∀ x,x<n-1->(jJ d p false x).2=0):ie 288 [iz d,iP n,iP p,.fn 290 [],.fn 254 []] (.iE [iz (jJ d p false (n-1)).1,iP (jJ d p false (n-1)).2]):=
 ak call288 func288 (af [.c (Jm d p aD aC aC),.s (Sp.jT (R4 d n p) 0 (n-1) aC (λx hx lJ=>by
    have pd:=jc x aC;have hv:=A6 d (aC:1<=p) (aC:p<=4096) false x;exact iL (ae [tT 24 (((x+1:Nat):Int)<n) aC,ah 27 (((jJ d p false x).2)==0) (by rw[pd];rfl),.c (Le ((jJ d p false x).1) d p aD aD aC aC),
     iF (((x+1:Nat):Int)+1) aC]<|.e (af [.o 13 (aq (jY (nC ((jJ d p false x).1) d) p false) ((jJ d p false (x+1)).2) (by rw[Cq pd])),.b 12 (.ji (by rw[Cq pd]):Bx.le (.cells 31 (jg (iM (nC ((jJ d p false x).1) d) p false))) (.cells 31 (jg ((jJ d p false (x+1)).1))))])) aF)
  (λhx=>by
    exact iL (af [tF 24 ((((n-1)+1:Nat):Int)<n) aC]) aF) aI:jS 3 f288 (R4 d n p 0) (.exit 0) ⟨41,true,[(13,.e (iP ((jJ d p false (n-1)).2))),(12,.box 12 0),(10,.box 10 0)],[(12,.cells 31 (jg ((jJ d p false (n-1)).1))),(10,.cells 31 ar)]⟩) (af [.o 14 (aq 1 ((0+1:Nat):Int) rfl),.o 13 (aq (jY d p false) ((jJ d p false 0).2) rfl),.b 12 (.ji rfl:Bx.le (.cells 31 (jg (iM d p false))) (.cells 31 (jg ((jJ d p false 0).1))))])]) 
def ab2(d:Dy)(n N p:Nat)(hd:d.ix)(hn:1<=n)(mY:n<=16)(iA:8<=p)(im:p<=512)(nJ:N<n-1)(jc:∀ x,x<N->(jJ d p false x).2=0)(hN:(jJ d p false N).2≠0):ie 288 [iz d,iP n,iP p,.fn 290 [],.fn 254 []] (.iE [iz (jJ d p false N).1,iP (jJ d p false N).2]):=
 ak call288 func288 (af [.c (Jm d p aD aC aC),.s (Sp.jT (R5 d n N p) 0 N aC (λx hx lJ=>by
    have pd:=jc x aC;have hv:=A6 d (aC:1<=p) (aC:p<=4096) false x;exact iL (ae [tT 24 (((x+1:Nat):Int)<n) aC,ah 27 (((jJ d p false x).2)==0) (by rw[pd];rfl),.c (Le ((jJ d p false x).1) d p aD aD aC aC),
     iF (((x+1:Nat):Int)+1) aC]<|.e (af [.o 13 (aq (jY (nC ((jJ d p false x).1) d) p false) ((jJ d p false (x+1)).2) (by rw[Cq pd])),.b 12 (.ji (by rw[Cq pd]):Bx.le (.cells 31 (jg (iM (nC ((jJ d p false x).1) d) p false))) (.cells 31 (jg ((jJ d p false (x+1)).1))))])) aF)
  (λhx=>by
    exact iL (af [tT 24 (((N+1:Nat):Int)<n) aC,ai 27 (((jJ d p false N).2)==0) (by simpa using hN)]) aF) aI:jS 3 f288 (R5 d n N p 0) (.exit 0) ⟨41,true,[(13,.e (iP ((jJ d p false N).2))),(12,.box 12 0),(10,.box 10 0)],[(12,.cells 31 (jg ((jJ d p false N).1))),(10,.cells 31 ar)]⟩) (af [.o 14 (aq 1 ((0+1:Nat):Int) rfl),.o 13 (aq (jY d p false) ((jJ d p false 0).2) rfl),.b 12 (.ji rfl:Bx.le (.cells 31 (jg (iM d p false))) (.cells 31 (jg ((jJ d p false 0).1))))])]) 
def ab3(d:Dy)(n p:Nat)(hd:d.ix)(hn:1<=n)(mY:n<=16)(iA:8<=p)(im:p<=512):ie 288 [iz d,iP n,iP p,.fn 290 [],.fn 254 []] (.iE [iz (jJ d p false (n-1)).1,iP (jJ d p false (n-1)).2]):=by
 by_cases h:∃ x,x<n-1/\decide ((jJ d p false x).2≠0)=true
 .obtain ⟨N,h1,h2,h3⟩:=uO h;have hN:(jJ d p false N).2≠0:=cR h2;have:=ab2 d n N p hd hn mY iA im h1 (λx hx=>by simpa using h3 x hx) hN;have e:=Qe d p false N hN (n-1-N);rw[(aC:N+(n-1-N)=n-1)]at e;rw[e];exact this
 .exact ab1 d n p hd hn mY iA im λx hx=>ct λq=>h ⟨x,hx,bC q⟩
def ab4(d:Dy)(n p:Nat)(hd:d.ix)(hn:1<=n)(mY:n<=16)(iA:8<=p)(im:p<=512)(jc:∀ x,x<n-1->(jJ d p true x).2=0):ie 288 [iz d,iP n,iP p,.fn 289 [],.fn 255 []] (.iE [iz (jJ d p true (n-1)).1,iP (jJ d p true (n-1)).2]):=
 ak call288 func288 (af [.c (Jn d p aD aC aC),.s (Sp.jT (R6 d n p) 0 (n-1) aC (λx hx lJ=>by
    have pd:=jc x aC;have hv:=A6 d (aC:1<=p) (aC:p<=4096) true x;exact iL (ae [tT 24 (((x+1:Nat):Int)<n) aC,ah 27 (((jJ d p true x).2)==0) (by rw[pd];rfl),.c (Lf ((jJ d p true x).1) d p aD aD aC aC),
     iF (((x+1:Nat):Int)+1) aC]<|.e (af [.o 13 (aq (jY (nC ((jJ d p true x).1) d) p true) ((jJ d p true (x+1)).2) (by rw[Cq pd])),.b 12 (.ji (by rw[Cq pd]):Bx.le (.cells 31 (jg (iM (nC ((jJ d p true x).1) d) p true))) (.cells 31 (jg ((jJ d p true (x+1)).1))))])) aF)
  (λhx=>by
    exact iL (af [tF 24 ((((n-1)+1:Nat):Int)<n) aC]) aF) aI:jS 3 f288 (R6 d n p 0) (.exit 0) ⟨41,true,[(13,.e (iP ((jJ d p true (n-1)).2))),(12,.box 12 0),(10,.box 10 0)],[(12,.cells 31 (jg ((jJ d p true (n-1)).1))),(10,.cells 31 ar)]⟩) (af [.o 14 (aq 1 ((0+1:Nat):Int) rfl),.o 13 (aq (jY d p true) ((jJ d p true 0).2) rfl),.b 12 (.ji rfl:Bx.le (.cells 31 (jg (iM d p true))) (.cells 31 (jg ((jJ d p true 0).1))))])]) 
def ab5(d:Dy)(n N p:Nat)(hd:d.ix)(hn:1<=n)(mY:n<=16)(iA:8<=p)(im:p<=512)(nJ:N<n-1)(jc:∀ x,x<N->(jJ d p true x).2=0)(hN:(jJ d p true N).2≠0):ie 288 [iz d,iP n,iP p,.fn 289 [],.fn 255 []] (.iE [iz (jJ d p true N).1,iP (jJ d p true N).2]):=
 ak call288 func288 (af [.c (Jn d p aD aC aC),.s (Sp.jT (R7 d n N p) 0 N aC (λx hx lJ=>by
    have pd:=jc x aC;have hv:=A6 d (aC:1<=p) (aC:p<=4096) true x;exact iL (ae [tT 24 (((x+1:Nat):Int)<n) aC,ah 27 (((jJ d p true x).2)==0) (by rw[pd];rfl),.c (Lf ((jJ d p true x).1) d p aD aD aC aC),
     iF (((x+1:Nat):Int)+1) aC]<|.e (af [.o 13 (aq (jY (nC ((jJ d p true x).1) d) p true) ((jJ d p true (x+1)).2) (by rw[Cq pd])),.b 12 (.ji (by rw[Cq pd]):Bx.le (.cells 31 (jg (iM (nC ((jJ d p true x).1) d) p true))) (.cells 31 (jg ((jJ d p true (x+1)).1))))])) aF)
  (λhx=>by
    exact iL (af [tT 24 (((N+1:Nat):Int)<n) aC,ai 27 (((jJ d p true N).2)==0) (by simpa using hN)]) aF) aI:jS 3 f288 (R7 d n N p 0) (.exit 0) ⟨41,true,[(13,.e (iP ((jJ d p true N).2))),(12,.box 12 0),(10,.box 10 0)],[(12,.cells 31 (jg ((jJ d p true N).1))),(10,.cells 31 ar)]⟩) (af [.o 14 (aq 1 ((0+1:Nat):Int) rfl),.o 13 (aq (jY d p true) ((jJ d p true 0).2) rfl),.b 12 (.ji rfl:Bx.le (.cells 31 (jg (iM d p true))) (.cells 31 (jg ((jJ d p true 0).1))))])]) 
def ab6(d:Dy)(n p:Nat)(hd:d.ix)(hn:1<=n)(mY:n<=16)(iA:8<=p)(im:p<=512):ie 288 [iz d,iP n,iP p,.fn 289 [],.fn 255 []] (.iE [iz (jJ d p true (n-1)).1,iP (jJ d p true (n-1)).2]):=by
 by_cases h:∃ x,x<n-1/\decide ((jJ d p true x).2≠0)=true
 .obtain ⟨N,h1,h2,h3⟩:=uO h;have hN:(jJ d p true N).2≠0:=cR h2;have:=ab5 d n N p hd hn mY iA im h1 (λx hx=>by simpa using h3 x hx) hN;have e:=Qe d p true N hN (n-1-N);rw[(aC:N+(n-1-N)=n-1)]at e;rw[e];exact this
 .exact ab4 d n p hd hn mY iA im λx hx=>ct λq=>h ⟨x,hx,bC q⟩
def RW(d:Dy)(n p:Nat)(hd:d.ix)(h0:¬d.jq<0)(hn:1<=n)(mY:n<=16)(iA:8<=p)(im:p<=512):ie 253 [iz d,iP n,iP p,bP false] (.iE [iz (lY d n p false).1,iP (lY d n p false).2]):=
 ak call253 func253 (ae [ag [iz d] (qd _ aD),tB 14 (bD h0),.c (ab3 d n p aD aC aC aC aC)]<|rQ (.iE [iz ((jJ d p false (n-1)).1),iP ((jJ d p false (n-1)).2)]) (.iE [iz (lY d n p false).1,iP (lY d n p false).2]) (by unfold lY;rw[bA h0])) 
def RX(d:Dy)(n p:Nat)(hd:d.ix)(h0:¬d.jq<0)(hn:1<=n)(mY:n<=16)(iA:8<=p)(im:p<=512):ie 253 [iz d,iP n,iP p,bP true] (.iE [iz (lY d n p true).1,iP (lY d n p true).2]):=
 ak call253 func253 (ae [ag [iz d] (qd _ aD),tB 14 (bD h0),.c (ab6 d n p aD aC aC aC aC)]<|rQ (.iE [iz ((jJ d p true (n-1)).1),iP ((jJ d p true (n-1)).2)]) (.iE [iz (lY d n p true).1,iP (lY d n p true).2]) (by unfold lY;rw[bA h0])) 
def ZR{d:Dy}(h:d.jq<0):¬(iO d).jq<0:=by
 rw[(uR _).2,rX];have:=(uR d).2.1 h
 grind
def abG(d:Dy)(n p:Nat)(hd:d.ix)(h0:¬d.jq<0)(hn:1<=n)(mY:n<=16)(iA:8<=p)(im:p<=512):ie 253 [iz d,iP (n:Int),iP (p:Int),bP false] (.iE [iz (jJ d p false (n-1)).1,iP (jJ d p false (n-1)).2]):=by
 have:=RW d n p hd h0 hn mY iA im;unfold lY at this;rwa[bA h0]at this
def abH(d:Dy)(n p:Nat)(hd:d.ix)(h0:¬d.jq<0)(hn:1<=n)(mY:n<=16)(iA:8<=p)(im:p<=512):ie 253 [iz d,iP (n:Int),iP (p:Int),bP true] (.iE [iz (jJ d p true (n-1)).1,iP (jJ d p true (n-1)).2]):=by
 have:=RX d n p hd h0 hn mY iA im;unfold lY at this;rwa[bA h0]at this
def abE(d:Dy)(n p:Nat)(hd:d.ix)(h0:d.jq<0)(hn:1<=n)(mY:n<=16)(iA:8<=p)(im:p<=512):ie 253 [iz d,iP n,iP p,bP false] (.iE [iz (lY d n p false).1,iP (lY d n p false).2]):=by
 have G5:=wN hd;have h1:=ZR h0;have hv:=A6 (iO d) (aC:1<=p) (aC:p<=4096) true (n-1);exact ak call253 func253 (ae [ag [iz d] (qd _ aD),tB 14 (bC h0),ag [iz d] (ve _ aD),ag [iz (iO d),iP n,iP p,bP true] (abH _ _ _ G5 h1 hn mY iA im),ag [iz ((jJ (iO d) p true (n-1)).1)] (ve _ aD)]<|rQ (.iE [iz (iO ((jJ (iO d) p true (n-1)).1)),iP ((jJ (iO d) p true (n-1)).2)]) (.iE [iz (lY d n p false).1,iP (lY d n p false).2]) (by unfold lY;rw[bB h0];rfl)) 
def RY(d:Dy)(n p:Nat)(hd:d.ix)(hn:1<=n)(mY:n<=16)(iA:8<=p)(im:p<=512):ie 253 [iz d,iP (n:Int),iP (p:Int),bP false] (.iE [iz (lY d n p false).1,iP (lY d n p false).2]):=by
 by_cases h0:d.jq<0
 .exact abE d n p hd h0 hn mY iA im
 .exact RW d n p hd h0 hn mY iA im
def abF(d:Dy)(n p:Nat)(hd:d.ix)(h0:d.jq<0)(hn:1<=n)(mY:n<=16)(iA:8<=p)(im:p<=512):ie 253 [iz d,iP n,iP p,bP true] (.iE [iz (lY d n p true).1,iP (lY d n p true).2]):=by
 have G5:=wN hd;have h1:=ZR h0;have hv:=A6 (iO d) (aC:1<=p) (aC:p<=4096) false (n-1);exact ak call253 func253 (ae [ag [iz d] (qd _ aD),tB 14 (bC h0),ag [iz d] (ve _ aD),ag [iz (iO d),iP n,iP p,bP false] (abG _ _ _ G5 h1 hn mY iA im),ag [iz ((jJ (iO d) p false (n-1)).1)] (ve _ aD)]<|rQ (.iE [iz (iO ((jJ (iO d) p false (n-1)).1)),iP ((jJ (iO d) p false (n-1)).2)]) (.iE [iz (lY d n p true).1,iP (lY d n p true).2]) (by unfold lY;rw[bB h0];rfl)) 
def RZ(d:Dy)(n p:Nat)(hd:d.ix)(hn:1<=n)(mY:n<=16)(iA:8<=p)(im:p<=512):ie 253 [iz d,iP (n:Int),iP (p:Int),bP true] (.iE [iz (lY d n p true).1,iP (lY d n p true).2]):=by
 by_cases h0:d.jq<0
 .exact abF d n p hd h0 hn mY iA im
 .exact RX d n p hd h0 hn mY iA im
def ab7(x:Iv)(n p:Nat)(hx:x.ix)(ha:x.all=true)(hn:n<=16)(iA:8<=p)(im:p<=512):ie 211 [iy x,iP n,iP p] (iy (lN x n p)):=
 ak call211 func211 (ae [.o 12 (.e (mf _):aj (.sl true 1 7 λi_ j_=>(iN x).getD (i_*7+j_) (.v (.bool false))) (iu [x])),ag [iu [x]] (qJ _ aD),ai 13 (!x.all) (by rw[ha];rfl),.c oz]<|rQ (iy il) (iy (lN x n p)) (by unfold lN;rw[bB ha])) 
def aca(x:Iv)(n p:Nat)(hx:x.ix)(ha:x.all=false)(h0:n=0)(iA:8<=p)(im:p<=512):ie 211 [iy x,iP n,iP p] (iy (lN x n p)):=by
 have v1:=Il;exact ak call211 func211 (ae [.o 12 (.e (mf _):aj (.sl true 1 7 λi_ j_=>(iN x).getD (i_*7+j_) (.v (.bool false))) (iu [x])),ag [iu [x]] (qJ _ aD),ah 13 (!x.all) (by rw[ha];rfl),ag [iP p] (wI _),ah 17 (nm (p:Int)) (vK.2 ⟨aC,aC⟩),tF 22 ((n:Int)<0) aC,tF 26 (16<(n:Int)) aC,ah 30 ((n:Int)==0) (wM h0),ag [iP 1] ME,.c (sM (Dy.mk false 1 0) aD)]<|rQ (iy (jP (Dy.mk false 1 0))) (iy (lN x n p)) (by unfold lN;rw[bA (by rw[ha];decide),bB h0])) 
def ab8(x:Iv)(n p:Nat)(hx:x.ix)(ha:x.all=false)(h0:n≠0)(hn:n<=16)(he:n%2=0)(iA:8<=p)(im:p<=512):ie 211 [iy x,iP n,iP p] (iy (lN x n p)):=by
 have va:=Jd hx;obtain⟨w1,w2⟩:=va.kq;exact ak call211 func211 (ae [.o 12 (.e (mf _):aj (.sl true 1 7 λi_ j_=>(iN x).getD (i_*7+j_) (.v (.bool false))) (iu [x])),ag [iu [x]] (qJ _ aD),ah 13 (!x.all) (by rw[ha];rfl),ag [iP p] (wI _),ah 17 (nm (p:Int)) (vK.2 ⟨aC,aC⟩),tF 22 ((n:Int)<0) aC,tF 26 (16<(n:Int)) aC,ai 30 ((n:Int)==0) (qa h0),.a (aC:0<(2:Int)),.o 34 (aq (Int.tmod (n:Int) 2) ((n%2:Nat):Int) (by rw[aqd aC];omega)),ah 35 (((n%2:Nat):Int)==0) (wM he),.c (Pc x aD),ag [iz ((ky x).lo),iP n,iP p,bP false] (RY _ _ _ aD aC aC aC aC),ag [iz ((ky x).hi),iP n,iP p,bP true] (RZ _ _ _ aD aC aC aC aC),.c (DE ((lY ((ky x).lo) n p false).1) ((lY ((ky x).hi) n p true).1) ((lY ((ky x).lo) n p false).2) ((lY ((ky x).hi) n p true).2))]<|rQ (iy (mA ((lY ((ky x).lo) n p false).1) ((lY ((ky x).lo) n p false).2) ((lY ((ky x).hi) n p true).1) ((lY ((ky x).hi) n p true).2))) (iy (lN x n p)) (by unfold lN vJ;rw[bA (by rw[ha];decide),bA h0,bB he])) 
def ab9(x:Iv)(n p:Nat)(hx:x.ix)(ha:x.all=false)(h0:n≠0)(hn:n<=16)(he:¬n%2=0)(iA:8<=p)(im:p<=512):ie 211 [iy x,iP n,iP p] (iy (lN x n p)):=by
 have va:=hx;obtain⟨w1,w2⟩:=va.kq;exact ak call211 func211 (ae [.o 12 (.e (mf _):aj (.sl true 1 7 λi_ j_=>(iN x).getD (i_*7+j_) (.v (.bool false))) (iu [x])),ag [iu [x]] (qJ _ aD),ah 13 (!x.all) (by rw[ha];rfl),ag [iP p] (wI _),ah 17 (nm (p:Int)) (vK.2 ⟨aC,aC⟩),tF 22 ((n:Int)<0) aC,tF 26 (16<(n:Int)) aC,ai 30 ((n:Int)==0) (qa h0),.a (aC:0<(2:Int)),.o 34 (aq (Int.tmod (n:Int) 2) ((n%2:Nat):Int) (by rw[aqd aC];omega)),ai 35 (((n%2:Nat):Int)==0) (qa he),ag [iz x.lo,iP n,iP p,bP false] (RY _ _ _ aD aC aC aC aC),ag [iz x.hi,iP n,iP p,bP true] (RZ _ _ _ aD aC aC aC aC),.c (DE ((lY x.lo n p false).1) ((lY x.hi n p true).1) ((lY x.lo n p false).2) ((lY x.hi n p true).2))]<|rQ (iy (mA ((lY x.lo n p false).1) ((lY x.lo n p false).2) ((lY x.hi n p true).1) ((lY x.hi n p true).2))) (iy (lN x n p)) (by unfold lN vJ;rw[bA (by rw[ha];decide),bA h0,bA he])) 
def Ge(x:Iv)(n p:Nat)(hx:x.ix)(hn:n<=16)(iA:8<=p)(im:p<=512):ie 211 [iy x,iP (n:Int),iP (p:Int)] (iy (lN x n p)):=by
 cases ha:x.all with
 |true=>exact ab7 x n p hx ha hn iA im
 |false=>
  by_cases h0:n=0
  .exact aca x n p hx ha h0 iA im
  .by_cases he:n%2=0
   .exact ab8 x n p hx ha h0 hn he iA im
   .exact ab9 x n p hx ha h0 hn he iA im
def abP(x y:Iv)(hx:x.ix)(hy:y.ix)(xa:x.all=false)(ya:y.all=false):ie 242 [iy x,iy y] (iy (Ff x y)):=by
 obtain⟨v1,v2⟩:=hx.kq;obtain⟨v3,v4⟩:=hy.kq;exact ak call242 func242 (ae [.o 7 (.e (AO _ _):aj (.sl true 2 7 λi_ j_=>(iN x++iN y).getD (i_*7+j_) (.v (.bool false))) (iu [x,y])),ag [iu [x,y]] (AN _ _ aD aD),ah 8 (!(x.all||y.all)) (by rw[xa,ya];rfl),.c (Fm x.lo y.lo aD aD),.c (Fo x.hi y.hi aD aD)]<|rQ (iy (Iv.mk (jB x.lo y.lo) (jy x.hi y.hi) false)) (iy (Ff x y)) (by unfold Ff;rw[xa,ya];rfl)) 
def Sa(z:Int):(z==0)=decide (z=0):=by by_cases h:z=0<;>simp[h]
def MG(x:Iv)(p:Nat)(hx:x.ix)(xa:x.all=false)(iA:8<=p)(im:p<=512):ie 244 [iy x,iP p] (.iE [iz (vQ x p),bP (decide (CL x p=0))]):=by
 obtain⟨v1,v2⟩:=hx.kq;have v3:=wN v1;exact ak call244 func244 (ae [.o 9 (.e (mf _):aj (.sl true 1 7 λi_ j_=>(iN x).getD (i_*7+j_) (.v (.bool false))) (iu [x])),ag [iu [x]] (qJ _ aD),ah 10 (!x.all) (by rw[xa];rfl),ag [iP p] (wI _),ah 14 (nm (p:Int)) (vK.2 ⟨aC,aC⟩),ag [iz x.lo] (ve _ aD),.c (D6 x.hi (iO x.lo) p aD aD aC aC)]<|rQ (.iE [iz (iM (iH x.hi (iO x.lo)) p true),bP ((jY (iH x.hi (iO x.lo)) p true)==0)]) (.iE [iz (vQ x p),bP (decide (CL x p=0))]) (by rw[Sa];rfl)) 
def Jk(x y:Iv):ri x y=(y.all||(!x.all&&(decide (jf y.lo x.lo<=0)&&decide (jf x.hi y.hi<=0)))):=rfl
def abQ(x y:Iv)(hx:x.ix)(hy:y.ix):ie 82 [iy x,iy y] (bP (ri x y)):=by
 obtain⟨v1,v2⟩:=hx.kq;obtain⟨v3,v4⟩:=hy.kq;exact ak call82 func82 (ae [.c (rj x aD),.c (rj y aD)]<|.w (y.all=true)
  (λk1=>ae [tB 14 k1]<|rQ (bP true) (bP (ri x y)) (by rw[Jk];simp[k1]))
  (λk1=>ae [tB 14 (bt k1)]<|.w (x.all=true)
   (λk2=>ae [tB 17 k2]<|rQ (bP false) (bP (ri x y)) (by rw[Jk];simp[k1,k2]))
   (λk2=>ae [tB 17 (bt k2),ag [iz y.lo,iz x.lo] (nR _ _ aD aD)]<|.w ((jf y.lo x.lo)<=0)
    (λk3=>ae [tB 25 (bC k3),ag [iz x.hi,iz y.hi] (nR _ _ aD aD)]<|rQ (bP (decide ((jf x.hi y.hi)<=0))) (bP (ri x y)) (by rw[Jk];simp[k1,k2,k3]))
    (λk3=>ae [tB 25 (bD k3)]<|rQ (bP false) (bP (ri x y)) (by rw[Jk];simp[k1,k2,k3]))))) 
def aoV{α:Type}{l:List α}{i:Nat}{d:α}(h:i<l.length):l.getD i d=l[i]:=by
 rw[bE,bJ h];rfl
def DH{T n n' k:Nat}{F:Nat->Iv}{y:Iv}(hn:n=k)(uH:n'=k+1)(hy:y=F k):
 Bx.le (.row true T (n+[y].length) 7 λi j=>if i<n then je ((List.range k).map F) i j else(E.kY (iu [y])) (i-n) j) (.row true T n' 7 (je ((List.range (k+1)).map F))):=by
 subst hn uH hy;refine .row rfl λi j hi hj=>⟨.ji ?_,tZ _ _ hj⟩
 have hi:i<n+1:=hi;by_cases h:i<n
 .rw [bB h];simp only[je];rw[Qh h,Qh hi]
 .have oc:i=n:= aC ;subst oc;rw[bA h,dA];simp only[je];rw[Qh hi];rfl
def Pv{n:Nat}{M:List (List Iv)}(hn:n=M.length):E.le (.sl true n 1 (lM M)) (lW M):=by subst hn;exact .refl _
def DG{n:Nat}{M:List Iv}(hn:n=M.length):E.le (.sl true n 7 (je M)) (iu M):=by subst hn;exact .refl _
def DX(n:Nat)(h:n<4294967296):(jQ (n:Int)).ix:=rH (Fl n h)
structure Fp.Iv.NN(x:Iv):Prop where
 lo:x.lo.neg=false
 hi:x.hi.neg=false
def Sw(m:Nat)(e:Int):(canon false m e).neg=false:=by unfold canon;split<;>rfl
def aj6{d:Dy}(h:d.neg=false):(jP d).NN:=⟨h,h⟩
def XF(n:Nat):(jQ (n:Int)).NN:=by
 refine aj6 ?_;rw[B8];exact Sw _ _
def ahq{c:Nat}(hc:0<c):(jv (c:Int)).m≠0:=by
 rw[B8];exact(CX (s:=false) (e:=0) aC).2.2.1
def ajj{c:Nat}(hc:0<c):nc (jQ (c:Int))=1:=by
 unfold nc jQ jP;simp only[bR,bI];rw[bB];unfold Dy.jq;rw[bA (ahq hc),show(jv (c:Int)).neg=false by rw[B8];exact Sw _ _];simp
section
variable {m m':List (List Iv)} {h h':Iv} {n p:Nat}
def Ik(j:Nat)(hj:j<4294967296):(jQ (j:Int)).ix:=rH (Fl j hj)
end
def ako{d:Dy}(h:d.neg=false):0<=d.q:=by
 rw[rY,h];exact ck dk (b7 (o0 _))
structure Lq(x y:Iv):Prop where
 v:x.ix
 v':y.ix
 nn:x.NN
 nn':y.NN
 le:y.all=true\/(x.all=false/\x.hi.q<=y.hi.q)
def Fp.Iv.kr.nn{x:Iv}{r:Rat}(h:x.kr r)(k:x.all=false)(hx:x.NN):0<=r/\r<=x.hi.q:=by
 obtain⟨h1,h2⟩:=h.kq k;have:=ako hx.lo;exact⟨aK,h2⟩
def XG(c:Nat):(jQ (c:Int)).lo.q=(c:Rat)/\(jQ (c:Int)).hi.q=(c:Rat)/\(jQ (c:Int)).all=false:=by
 refine⟨?_,?_,rfl⟩
 .show (jv _).q=_;rw[Cr];exact eF c
 .show (jv _).q=_;rw[Cr];exact eF c
def Lq.num(c:Nat)(hc:c<4294967296):Lq (jQ (c:Int)) (jQ (c:Int)):=⟨Ik c hc,Ik c hc,XF c,XF c,.inr ⟨rfl,cP⟩⟩
def Qr(s:Bool)(m:Nat)(e:Int)(hl:(ij m).length<=3000)(mP:-1000000<=e)(lZ:e<=1000000):ie 169 [bP s,ik (ij m),iP e] (iz (canon s m e)):=by
 refine⟨call169,λw B vs hK hB hr=>?_⟩;obtain⟨v1,vs,rfl,h1,hr⟩:=hr.ni;obtain⟨v2,vs,rfl,h2,hr⟩:=hr.ni;obtain⟨v3,vs,rfl,h3,hr⟩:=hr.ni;obtain rfl:=hr.rS;obtain rfl:=iQ.kX h1;obtain rfl:=iQ.kX h3;obtain⟨A,c,rfl,s1⟩:=yQ (mQ m) h2;have:=Li s A c (ij m) e w s1 hl mP lZ;rw[kP]at this;exact this.mono λe w' h=>rd B w e w' hB h
def Ln(a:Dy)(ha:a.ix):ie 74 [iz a] (bP true):=zT call74 (λA c w h _=>ald a A c w h ha) rv
def Qs(a:Dy):ie 157 [iz a] (iP a.jq):=zT call157 (λA c w h _=>ak9 a A c w h) rv
def ak3(a:Dy):ie 159 [iz a] (iz (iO a)):=
 zT call159 (λA c w h _=>by
  have:=ak2 a.neg A c (ij a.m) a.e w h (wW _);rw[kP]at this;exact this) rd
def Lj(a:Dy)(ha:Bq a):ie 158 [iz a] (iP a.iI):=zT call158 (λA c w h _=>alc a A c w h ha) rv
def akZ(n:Nat)(hn:n<4294967296):ie 126 [iP (n:Int)] (iz (canon false n 0)):=by
 refine⟨call126,λw B vs hK hB hr=>?_⟩;obtain⟨v1,vs,rfl,h1,hr⟩:=hr.ni;obtain rfl:=hr.rS;obtain rfl:=iQ.kX h1;exact(akY n w hn).mono λe w' h=>rd B w e w' hB h
def Qq(a b:Dy)(r:Bool)(hr:r=true↔a=b)(ha:(ij a.m).length<=100000)(hb:(ij b.m).length<=100000):ie 34 [iz a,iz b] (bP r):=
 XZ call34 (λA c A' c' w h k _=>akU a b A A' c c' w _ h k ha hb hr) rv
end Go.Proofs.YtgdahmmlddfimaaGreatDoor
namespace Go.Proofs.YtgdahmmlddfimaaGreatDoor.Fp
end Go.Proofs.YtgdahmmlddfimaaGreatDoor.Fp
namespace Go.Proofs.YtgdahmmlddfimaaGreatDoor
open Go.RowKit Fp Pu
def ak6(d:Dy)(k:Int)(hd:d.ix)(oq:-32768<=k)(yi:k<=32768)(hr:oR (canon d.neg d.m (d.e+k))):ie 125 [iz d,iP k] (.iE [iz (canon d.neg d.m (d.e+k)),iP 0]):=by
 refine⟨call125,λw B vs hK hB Ha=>?_⟩;obtain⟨v1,vs,rfl,h1,Ha⟩:=Ha.ni;obtain⟨v2,vs,rfl,h2,Ha⟩:=Ha.ni;obtain rfl:=Ha.rS;obtain⟨A,c,rfl,s1⟩:=JH h1;obtain rfl:=iQ.kX h2;have:=ak7 d.neg A c (ij d.m) d.e k w s1 hd.xf oq yi (by rw[kP];exact hr);rw[kP]at this;exact this.mono λe w' h=>Ql B w e w' hB h
def St{n:Int}{e:Int}:canon (jv n).neg (jv n).m ((jv n).e+e)=kR n e:=by
 unfold jv kR;by_cases h:n.natAbs=0
 .rw [h,Ez,Ez];show canon false 0 _=_;rw[Ez]
 .have h1:=Gt h;rw[show canon (decide (n<0)) n.natAbs 0=⟨decide (n<0),n.natAbs/2^kn n.natAbs,0+(kn n.natAbs:Int)⟩by unfold canon;rw[bA h]];show canon (decide (n<0)) (n.natAbs/2^kn n.natAbs) (0+(kn n.natAbs:Int)+e)=_;rw[<-MX _ _ _ (kn n.natAbs),h1];congr 1;omega
def y4{n e:Int}(h1:n.natAbs<4294967296)(h2:-1000<=e)(h3:e<=1000):(kR n e).ix:=by
 refine⟨ux _ _ _,?_⟩;unfold kR;by_cases h0:n.natAbs=0
 .rw [h0,Ez];exact .inl rfl
 .have:=CX (s:=decide (n<0)) (e:=e) h0;have hb:iB n.natAbs<=32:=mK.2 h1;obtain⟨h4,h5,h6,_⟩:=this;have:=pF h6;exact .inr ⟨aC,aC,aC,aC⟩
def tY{n:Int}(h1:n.natAbs<4294967296):(jv n).ix:=y4 h1 aE aE 
def akW(k:Nat)(w:World)(h0:0<k)(hn:k<4294967296):
 Calls prog 126 #[.int .i64 (-(k:Int))] w (yW w (canon true k 0)):=by
 have hm:=Ai k aC;have qD:(k:Int)%4294967296=k:= aC ;rw[qD]at hm;have hd:(k:Int)/4294967296=0:= aC ;have iK:(-(k:Int))<0:= aC ;have Oi:decide ((-(k:Int))<0)=true:=bC iK;have hu:IntKind.u64.wrap (-(k:Int))=18446744073709551616-k:=by rw[IntKind.wrap_u64];omega
 have hs:IntKind.u64.wrap (-(18446744073709551616-(k:Int)))=k:=by rw[IntKind.wrap_u64];omega
 have HC:=aqi (λ(A:Option Addr) c w (h:Sl w A c [k,0])=>Li true A c [k,0] 0 w h aH aE aE);have hv:val [k,0]=k:= aH ;rw[hv]at HC;clear hv;generalize canon true k 0=d at *
 generalize hN:(-(k:Int))=N at *
 go_enter func126,ntmps126;go_wp2_with fail;refine(HC.out _ _ _ (Sl.LZ _ _ aH _ _ k 0 rfl rfl hn aE)).mono ?_;rintro r w1 ⟨A1,c1,rfl,wD,lh⟩;have mr:iV (w.alloc (.cells #[.bool false,.slice none 0 0,.int .i64 0] 31)) w1:=(iV.alloc _ _).trans lh;have bx:=(j8.new w false none 0 0 0).ext mr;have b0:=bx.c0;have b1:=bx.c1;have b2:=bx.c2;have f0:=bx.fr 0;have f1:=bx.fr 1;have f2:=bx.fr 2;go_wp2;exact vY rfl rfl rfl (bx.set _ _ _ _ _) rfl (bx.wS wD _ _ _ _ _) (j8.vL ((iV.alloc _ _).trans mr) (bF _) _ _ _ _ _)
def VP(k:Nat)(h0:0<k):jv (-(k:Int))=canon true k 0:=by
 unfold jv kR;rw[bC (show(-(k:Int))<0 by omega),gK,fi]
def akX(n:Int)(h:n.natAbs<4294967296):ie 126 [iP n] (iz (jv n)):=by
 by_cases h0:0<=n
 .obtain ⟨k,rfl⟩:=fU h0;rw[B8];exact akZ k aC 
 .obtain ⟨k,rfl⟩:∃ k:Nat,n = -(k:Int):=⟨n.natAbs,aC⟩
  rw[VP k aC];refine⟨call126,λw B vs hK hB hr=>?_⟩;obtain⟨v1,vs,rfl,h1,hr⟩:=hr.ni;obtain rfl:=hr.rS;obtain rfl:=iQ.kX h1;exact(akW k w aC aC).mono λe w' h=>rd B w e w' hB h
end Go.Proofs.YtgdahmmlddfimaaGreatDoor
