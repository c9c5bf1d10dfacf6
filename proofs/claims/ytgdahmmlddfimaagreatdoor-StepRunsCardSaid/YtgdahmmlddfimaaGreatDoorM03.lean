/- Lemmas that the last file uses. -/
import Derived.Test.YtgdahmmlddfimaaGreatDoorM02
import Derived.Deep.Slices
import Derived.Carry
import Derived.Scope
set_option linter.unusedSimpArgs false
set_option linter.unusedVariables false
set_option linter.defProp false
set_option maxHeartbeats 4000000
open Go.Proofs.Tryz
namespace Go.Proofs.YtgdahmmlddfimaaGreatDoor.Fp
structure Iv where
 lo:Dy
 hi:Dy
 all:Bool
def ia:Iv:=⟨ju,ju,true⟩
def Iv.ij(x:Iv):Prop:=(x.all=true/\x.lo=ju/\x.hi=ju)\/(x.all=false/\x.lo.ij/\x.hi.ij/\jj x.lo x.hi<=0)
def mi:ia.ij:=.inl ⟨rfl,rfl,rfl⟩
def mf(lo:Dy)(e:Int)(hi:Dy)(f:Int):Iv:=if e≠0\/f≠0 then ia else⟨lo,hi,false⟩
def xr(a b:Dy):Dy:=canon (a.neg != b.neg) (a.m*b.m) (a.e+b.e)
def qe(x:Iv):Iv:=if x.all then ia else⟨jt x.hi,jt x.lo,false⟩
def jf(x y:Iv)(p:Nat):Iv:=
 if x.all||y.all then ia else mf (kf (iL x.lo y.lo) p false) (jS (iL x.lo y.lo) p false) (kf (iL x.hi y.hi) p true) (jS (iL x.hi y.hi) p true)
def rP(x y:Iv)(p:Nat):Iv:=jf x (qe y) p
def acM{x y:Int}:xI x y<=0↔x<=y:=by
 unfold xI;split
 .constructor<;>intro<;>omega
 .split<;>constructor<;>intro<;>omega
def sW{a b:Dy}{k:Int}(ha:ru a k)(hb:ru b k):jj a b<=0↔a.num k<=b.num k:=by rw[Ft ha hb,acM]
def le_trans{a b c:Dy}(h1:jj a b<=0)(h2:jj b c<=0):jj a c<=0:=by
 obtain⟨k,ka,kb,kc⟩:∃ k:Int,k<=a.e/\k<=b.e/\k<=c.e:=⟨min a.e (min b.e c.e),aC,aC,aC⟩
 rw[sW (.inr ka) (.inr kb)]at h1;rw[sW (.inr kb) (.inr kc)]at h2;rw[sW (.inr ka) (.inr kc)];omega
def CO(a:Dy):jj a a<=0:=by rw[sW (k:=a.e) (.inr (cv _)) (.inr (cv _))];exact cv _
def ahe(a b:Dy):jj a b<=0\/jj b a<=0:=by
 obtain⟨k,ka,kb⟩:∃ k:Int,k<=a.e/\k<=b.e:=⟨min a.e b.e,aC,aC⟩
 rw[sW (.inr ka) (.inr kb),sW (.inr kb) (.inr ka)];omega
def ail{a b:Dy}(h:jj a b<=0):jj (jt b) (jt a)<=0:=by
 obtain⟨k,ka,kb⟩:∃ k:Int,k<=a.e/\k<=b.e:=⟨min a.e b.e,aC,aC⟩
 rw[sW (.inr ka) (.inr kb)]at h;rw[sW (k:=k) (Lv (.inr kb)) (Lv (.inr ka)),Ov,Ov];omega
def amg{a b c d:Dy}(h1:jj a b<=0)(h2:jj c d<=0):jj (iL a c) (iL b d)<=0:=by
 obtain⟨k,ka,kb,kc,kd⟩:∃ k:Int,k<=a.e/\k<=b.e/\k<=c.e/\k<=d.e:=⟨min (min a.e b.e) (min c.e d.e),aC,aC,aC,aC⟩
 rw[sW (.inr ka) (.inr kb)]at h1;rw[sW (.inr kc) (.inr kd)]at h2;rw[sW (k:=k) (Ij (.inr ka) (.inr kc)) (Ij (.inr kb) (.inr kd)),KV (.inr ka) (.inr kc),KV (.inr kb) (.inr kd)];omega
def IP(m:Nat)(e:Int)(p:Nat):
 lp m e false p false*2^jP m e p<=m/\m<=lp m e false p true*2^jP m e p:=by
 have h:=cI m (2^jP m e p);have hr:=bH m (bw (n:=jP m e p) (aE:0<2));unfold lp;simp only[bE,false_and,bn,bR,false_or,true_and];rw[bG];generalize m/2^jP m e p=q at *
 generalize 2^jP m e p=P at *
 refine⟨aC,?_⟩;rw[bX,bG q];split
 .omega
 .omega
def LM{s:Bool}{m n:Nat}{e f K:Int}(h1:K<=e)(h2:K<=f)(h:m*2^(e-K).toNat<=n*2^(f-K).toNat):
 (s=false->jj (canon s m e) (canon s n f)<=0)/\(s=true->jj (canon s n f) (canon s m e)<=0):=by
 constructor
 .rintro rfl;rw[sW (Az h1) (Az h2),WU h1,WU h2]
  exact_mod_cast h
 .rintro rfl;rw[sW (Az h2) (Az h1),C2 h1,C2 h2];simp only[bB];omega
def R4(neg:Bool)(m:Nat)(e:Int)(p:Nat)(up:Bool)(he:jR neg m e false p up=0)(_hp:1<=p):
 (up=true->jj (canon neg m e) (kg neg m e false p up)<=0)/\(up=false->jj (kg neg m e false p up) (canon neg m e)<=0):=by
 rw[Fx]at he;obtain⟨c1,c2⟩:=IP m e p;have e1:(e-e).toNat=0:= aC ;have e2:(e+(jP m e p:Int)-e).toNat=jP m e p:= aC ;have hk:e<=e+(jP m e p:Int):= aC ;have A:=λs:Bool=>LM (s:=s) (m:=lp m e false p false) (n:=m) (e:=e+jP m e p) (f:=e) (K:=e) hk (cv _) (by rw[e1,e2];simpa using c1)
 have B:=λs:Bool=>LM (s:=s) (m:=m) (n:=lp m e false p true) (e:=e) (f:=e+jP m e p) (K:=e) (cv _) hk (by rw[e1,e2];simpa using c2)
 unfold kg;by_cases ho:mI m e false p (neg != up)=true
 .have hn:¬(neg != up)=true:=λh=>he ⟨ho,h⟩
  rw[a6 ho,aZ hn];have Uv:neg=up:=by cases neg<;>cases up<;>simp at hn ⊢
  have mK:(neg != up)=false:=by rw[Uv];simp
  rw[mK]at ho;unfold mI at ho;simp only[bF,cC]at ho;obtain⟨o1,o2⟩:=ho;have hq:=tV o1;have Jp:=o0 o1;obtain⟨K,k1,k2⟩:∃ K:Int,K<=e/\K<=16384-p:=⟨min e (16384-p),aC,aC⟩
  have C:(2^p-1)*2^((16384:Int)-p-K).toNat<=m*2^(e-K).toNat:=by
   have h1:2^(iq (lp m e false p false)-1)*2^jP m e p<=m:=bk (bL _ hq) c1;have h2:=bL (2^(e-K).toNat) h1;rw[<-bt,<-bt]at h2;refine bk (bL _ (dP _ _)) (bk ?_ h2);rw[<-bt];exact bK aE aC 
  have D:=LM (s:=neg) k2 k1 C;subst Uv;cases neg
  .exact ⟨λh=>absurd h aE,λ_=>D.1 rfl⟩
  .exact ⟨λ_=>D.2 rfl,λh=>absurd h aE⟩
 .rw [aZ ho];cases neg<;>cases up
  .exact ⟨λh=>absurd h aE,λ_=>(A false).1 rfl⟩
  .exact ⟨λ_=>(B false).1 rfl,λh=>absurd h aE⟩
  .exact ⟨λh=>absurd h aE,λ_=>(B true).2 rfl⟩
  .exact ⟨λ_=>(A true).2 rfl,λh=>absurd h aE⟩
def XY{d:Dy}(hd:d.nn)(p:Nat)(hp:1<=p):
 (jS d p true=0->jj d (kf d p true)<=0)/\(jS d p false=0->jj (kf d p false) d<=0):=by
 have h:=hd.B0;constructor
 .intro he;have:=(R4 d.neg d.m d.e p true he hp).1 rfl;rwa[h]at this
 .intro he;have:=(R4 d.neg d.m d.e p false he hp).2 rfl;rwa[h]at this
def qG{x y:Iv}(hx:x.ij)(hy:y.ij){p:Nat}(hp:1<=p)(ig:p<=4096):(jf x y p).ij:=by
 unfold jf;rcases hx with⟨h,_⟩|⟨h1,h2,h3,h4⟩
 .rw [h];exact mi
 .rcases hy with⟨h,_⟩|⟨k1,k2,k3,k4⟩
  .rw [h,h1];exact mi
  .rw [h1,k1];simp only[gR,bE,bn];unfold mf;by_cases he:jS (iL x.lo y.lo) p false≠0\/jS (iL x.hi y.hi) p true≠0
   .rw [a6 he];exact mi
   .rw [aZ he];have e1:jS (iL x.lo y.lo) p false=0:= aC ;have e2:jS (iL x.hi y.hi) p true=0:= aC ;refine .inr ⟨rfl,tp _ _ _ _ _ _ hp ig,tp _ _ _ _ _ _ hp ig,?_⟩;exact le_trans ((XY (yW h2.canon k2.canon) p hp).2 e1) (le_trans (amg h4 k4) ((XY (yW h3.canon k3.canon) p hp).1 e2))
def CY{x:Iv}(hx:x.ij):(qe x).ij:=by
 unfold qe;rcases hx with⟨h,_⟩|⟨h1,h2,h3,h4⟩
 .rw [a6 h];exact mi
 .rw [h1];exact .inr ⟨rfl,zZ h3,zZ h2,ail h4⟩
def jd(a b:Dy):Dy:=if jj b a<0 then b else a
def ja(a b:Dy):Dy:=if 0<jj b a then b else a
def GF(a b:Dy):jj (jd a b) a<=0:=by
 unfold jd;split
 .omega
 .exact CO a
def Wb(a b:Dy):jj (jd a b) b<=0:=by
 unfold jd;split
 .exact CO b
 .rcases ahe a b with h|h
  .exact h
  .have h0:jj b a=0:= aC ;obtain⟨k,ka,kb⟩:∃ k:Int,k<=a.e/\k<=b.e:=⟨min a.e b.e,aC,aC⟩
   rw[Ft (k:=k) (.inr kb) (.inr ka)]at h0;rw[sW (.inr ka) (.inr kb)];unfold xI at h0;split at h0
   .omega
   .split at h0<;>omega
def Fu(a b:Dy):jj a b = -jj b a:=by
 obtain⟨k,ka,kb⟩:∃ k:Int,k<=a.e/\k<=b.e:=⟨min a.e b.e,aC,aC⟩
 rw[Ft (k:=k) (.inr ka) (.inr kb),Ft (k:=k) (.inr kb) (.inr ka)];unfold xI;split<;>split<;>(try split)<;>omega
def Et(a b:Dy):jj a (ja a b)<=0:=by
 unfold ja;split
 .rw [Fu];omega
 .exact CO a
def Wa(a b:Dy):jj b (ja a b)<=0:=by
 unfold ja;split
 .exact CO b
 .omega
def um{a b:Dy}(ha:a.ij)(hb:b.ij):(jd a b).ij:=by unfold jd;split;exact hb;exact ha
def sE{a b:Dy}(ha:a.ij)(hb:b.ij):(ja a b).ij:=by unfold ja;split;exact hb;exact ha
def pD(D : Dy->Dy->Bool->Dy)(E : Dy->Dy->Bool->Int)(x y : Iv) : Iv:=
 if(E x.lo y.lo false=0/\E x.lo y.lo true=0)/\(E x.lo y.hi false=0/\E x.lo y.hi true=0)/\(E x.hi y.lo false=0/\E x.hi y.lo true=0)/\(E x.hi y.hi false=0/\E x.hi y.hi true=0)then
  ⟨jd (jd (jd (D x.lo y.lo false) (D x.lo y.hi false)) (D x.hi y.lo false)) (D x.hi y.hi false),
   ja (ja (ja (D x.lo y.lo true) (D x.lo y.hi true)) (D x.hi y.lo true)) (D x.hi y.hi true),false⟩
 else ia
def Ta{D:Dy->Dy->Bool->Dy}{E:Dy->Dy->Bool->Int}{x y:Iv}(hv:∀ a b up,(D a b up).ij)
 (hle:E x.lo y.lo false=0->E x.lo y.lo true=0->jj (D x.lo y.lo false) (D x.lo y.lo true)<=0):(pD D E x y).ij:=by
 unfold pD;split
 .rename_i h;refine .inr ⟨rfl,um (um (um (hv _ _ _) (hv _ _ _)) (hv _ _ _)) (hv _ _ _),sE (sE (sE (hv _ _ _) (hv _ _ _)) (hv _ _ _)) (hv _ _ _),?_⟩;refine le_trans (GF _ _) (le_trans (GF _ _) (le_trans (GF _ _) (le_trans (hle h.1.1 h.1.2) ?_)));exact le_trans (Et _ _) (le_trans (Et _ _) (Et _ _))
 .exact mi
def iD(x y:Iv)(p:Nat):Iv:=
 if x.all||y.all then ia else pD (λa b up=>kf (xr a b) p up) (λa b up=>jS (xr a b) p up) x y
def nV(x y:Iv){p:Nat}(hp:1<=p)(ig:p<=4096):(iD x y p).ij:=by
 unfold iD;split
 .exact mi
 .exact Ta (λ_ _ _=>tp _ _ _ _ _ _ hp ig) (λh1 h2=>R3 _ _ _ _ _ h1 h2)
def lv(a b:Dy)(p:Nat)(g:Nat):Nat:=p+g+iq b.m-iq a.m
def pK(a b:Dy)(p:Nat)(up:Bool):Dy:=
 if a.m=0 then ju else kg (a.neg != b.neg) (a.m*2^lv a b p 2/b.m) (a.e-b.e-lv a b p 2) (decide (a.m*2^lv a b p 2%b.m≠0)) p up
def q9(a b:Dy)(p:Nat)(up:Bool):Int:=
 if a.m=0 then 0 else jR (a.neg != b.neg) (a.m*2^lv a b p 2/b.m) (a.e-b.e-lv a b p 2) (decide (a.m*2^lv a b p 2%b.m≠0)) p up
def L4{a b:Dy}(a0:a.m≠0)(b0:b.m≠0)(p g:Nat)(hg:2<=g):p<iq (a.m*2^lv a b p g/b.m):=by
 have h1:=tV a0;have h2:=sf b.m;have ha:=o0 a0;have h3:2^p<=a.m*2^lv a b p g/b.m:=by
  rw[dc aC];refine bk (cL _ (dq h2)) (bk ?_ (bL _ h1));rw[<-bt,<-bt];exact bK aE (by unfold lv;omega)
 exact wm.2 h3
def adh{a b:Dy}(a0:a.m≠0)(b0:b.m≠0)(p:Nat)(up:Bool):
 kg (a.neg != b.neg) (a.m*2^lv a b p 3/b.m) (a.e-lv a b p 3-b.e) (decide (a.m*2^lv a b p 3%b.m≠0)) p up=pK a b p up /\
 jR (a.neg != b.neg) (a.m*2^lv a b p 3/b.m) (a.e-lv a b p 3-b.e) (decide (a.m*2^lv a b p 3%b.m≠0)) p up=q9 a b p up:=by
 obtain⟨d,hd⟩:∃ d,lv a b p 3=lv a b p 2+d:=⟨lv a b p 3-lv a b p 2,by unfold lv;omega⟩
 have hb:=L4 a0 b0 p 2 aE;unfold pK q9;rw[aZ a0,aZ a0,hd];generalize lv a b p 2=k at *
 have hB:0<b.m:= aC ;have hP:=bw (n:=d) (aE:0<2);have e1:a.m*2^(k+d)/b.m/2^d=a.m*2^k/b.m:=by
  rw[dt,bt,<-bC,Nat.mul_div_mul_right _ _ hP]
 have e2:(decide (a.m*2^(k+d)%b.m≠0)||decide (a.m*2^(k+d)/b.m%2^d≠0))=decide (a.m*2^k%b.m≠0):=by
  have h1:a.m*2^(k+d)%(b.m*2^d)=a.m*2^k%b.m*2^d:=by rw[bt,<-bC,Nat.mul_mod_mul_right]
  have h2:a.m*2^(k+d)%(b.m*2^d)=a.m*2^(k+d)%b.m+b.m*(a.m*2^(k+d)/b.m%2^d):=Nat.mod_mul;rw[h1]at h2;rw[dI];simp only[ev,cC];constructor
  .intro h h0;rw[h0,cJ]at h2;rcases h with h|h
   .omega
   .have:=fP hB (dR h);omega
  .intro h;apply bU;intro hn;have n1:a.m*2^(k+d)%b.m=0:=by
    apply bU;intro h';exact hn (.inl h')
   have n2:a.m*2^(k+d)/b.m%2^d=0:=by
    apply bU;intro h';exact hn (.inr h')
   rw[n1,n2,cF]at h2;have:=fP (dR h) hP;omega
 have h:=IN (N:=a.m*2^(k+d)/b.m) (E:=a.e-((k+d:Nat):Int)-b.e) (more:=decide (a.m*2^(k+d)%b.m≠0)) (d:=d) (p:=p) (a.neg != b.neg) up (by rw[e1];exact hb);rw[e1,e2,(aC:a.e-((k+d:Nat):Int)-b.e+(d:Int)=a.e-b.e-(k:Int))]at h;exact⟨h.1.symm,h.2.symm⟩
def nM(x:Iv):Int:=if x.all then 0 else if 0<x.lo.iM then 1 else if x.hi.iM<0 then -1 else 0
def jv(x y:Iv)(p:Nat):Iv:=
 if x.all||y.all||decide (nM y=0)then ia else pD (λa b up=>pK a b p up) (λa b up=>q9 a b p up) x y
def qI(x y:Iv){p:Nat}(hp:1<=p)(ig:p<=4096):(jv x y p).ij:=by
 unfold jv;split
 .exact mi
 .refine Ta (λa b up=>?_) (λh1 h2=>?_)
  .unfold pK;split
   .exact rU
   .exact tp _ _ _ _ _ _ hp ig
  .unfold pK q9 at *
   split
   .exact CO _
   .rename_i h;rw[aZ h]at h1 h2;exact R3 _ _ _ _ _ h1 h2
def mD(d:Dy):Dy:=⟨false,d.m,d.e⟩
def yN{d:Dy}(h:d.ij):(mD d).ij:=by
 refine⟨?_,h.range⟩;rcases h.canon with⟨h1,_,h3⟩|h1
 .exact .inl ⟨h1,rfl,h3⟩
 .exact .inr h1
def aas(d:Dy)(k:Int):(mD d).num k=(d.jO k:Int):=by unfold Dy.num mD Dy.jO;simp
def nj(x:Iv):Dy:=ja (mD x.lo) (mD x.hi)
def pk(x:Iv):Dy:=if nM x=0 then ju else jd (mD x.lo) (mD x.hi)
def jV(x:Iv):Iv:=if x.all then ia else⟨pk x,nj x,false⟩
def j9(d:Dy):Iv:=⟨d,d,false⟩
def s8{d:Dy}(h:d.ij):(j9 d).ij:=.inr ⟨rfl,h,h,CO d⟩
def J6{x:Iv}(h1:x.lo.ij)(h2:x.hi.ij):(nj x).ij:=sE (yN h1) (yN h2)
def Il{x:Iv}(h:x.ij):(jV x).ij:=by
 unfold jV;rcases h with⟨h,_⟩|⟨h,h1,h2,_⟩
 .rw [h];exact mi
 .rw [h];have v1:=yN h1;have v2:=yN h2;refine .inr ⟨rfl,?_,J6 h1 h2,?_⟩
  .show (pk x).ij;unfold pk;split
   .exact rU
   .exact um v1 v2
  .show jj (pk x) (nj x)<=0;unfold pk;split
   .refine le_trans (b:=mD x.lo) ?_ (Et _ _);rw[sW (a:=ju) (b:=mD x.lo) (k:=x.lo.e) (.inl rfl) (.inr (cv _)),wA rfl,aas];omega
   .exact le_trans (GF _ _) (Et _ _)
def iW(n:Int):Dy:=j8 n 0
def jx(n:Int):Iv:=j9 (iW n)
def akq(r:List Iv)(p:Nat):Option Dy:=
 r.foldl (λs x=>s.bind λs=>if x.all then none else if jS (iL s (nj x)) p true≠0 then none else some (kf (iL s (nj x)) p true)) (some ju)
def aip(m:List (List Iv))(p:Nat):Option Dy:=
 m.foldl (λs r=>s.bind λs=>(akq r p).map λn=>if 0<jj n s then n else s) (some ju)
def Xd(u:Iv)(p:Nat):Nat->Iv
 | 0=>jx 1
 |j+1=>iD (Xd u p j) (jv u (jx (j+1:Nat)) p) p
def mL(m:List (List Iv))(h:Iv)(k p:Nat):Option Iv:=
 (aip m p).bind λn=>
  let u:=iD (jV h) (j9 n) p
  if u.all||decide (0<=jj u.hi (iW (k+2:Nat)))then none
  else
   let e:=jv (Xd u p (k+1)) (rP (jx 1) (jv u (jx (k+2:Nat)) p) p) p
   if e.all then none else some ⟨jt e.hi,e.hi,false⟩
end Go.Proofs.YtgdahmmlddfimaaGreatDoor.Fp
namespace Go.Proofs.YtgdahmmlddfimaaGreatDoor
open Go.RowKit Fp Pu
def iJ(x:Iv):List E:=[bP x.lo.neg,ic (gY x.lo.m),iP x.lo.e,bP x.hi.neg,ic (gY x.hi.m),iP x.hi.e,bP x.all]
def ik(x:Iv):E:=.agg (iJ x)
def ib(l:List Iv):E:=.sl true l.length 7 λi j=>(iJ (l.getD i ia)).getD j .any
def kN(m:List (List Iv)):E:=.sl true m.length 1 λi _=>ib (m.getD i [])
def zK(x y:Iv):Bool:=y.all||(!x.all&&(decide (jj y.lo x.lo<=0)&&decide (jj x.hi y.hi<=0)))
def C0:E.le (.v (.slice none 0 0)) (ic (gY 0)):=by
 have:ic (gY 0) = .sl false 0 1 λi _=>.v (.int .u32 (((gY 0).getD i 0:Nat):Int)):=by unfold ic;rw[oB];rfl
 rw[this];exact .nil _ _ _
def Lb:E.le (.agg [bP false,.v (.slice none 0 0),iP 0,bP false,.v (.slice none 0 0),iP 0,bP true]) (ik ia):=
 .agg (.cons (.refl _) (.cons C0 (.cons (.refl _) (.cons (.refl _) (.cons C0 (.cons (.refl _) (.cons (.refl _) .nil)))))))
structure RD where
 neg:Bool
 L:List Nat
 e:Int
structure RI where
 lo:RD
 hi:RD
 all:Bool
def By(d:RD):List E:=[bP d.neg,ic d.L,iP d.e]
def kX(d:RD):E:=.agg (By d)
def Ah(x:RI):List E:=[bP x.lo.neg,ic x.lo.L,iP x.lo.e,bP x.hi.neg,ic x.hi.L,iP x.hi.e,bP x.all]
def vt(x:RI):E:=.agg (Ah x)
def ko:RD:=⟨false,[],0⟩
def jF:RI:=⟨ko,ko,true⟩
def jz(l:List RI):E:=.sl true l.length 7 λi j=>(Ah (l.getD i jF)).getD j .any
structure RD.jE(d:RD):Prop where
 ok:iN d.L
 lo:-9223372036854775808<=d.e
 hi:d.e<=9223372036854775807
structure RI.jE(x:RI):Prop where
 lo:x.lo.jE
 hi:x.hi.jE
def Pn:ko.jE:=⟨iN.nil,aE,aE⟩
def Yh:jF.jE:=⟨Pn,Pn⟩
def RD.dy(d:RD):Dy:=⟨d.neg,val d.L,d.e⟩
def RD.Ok(d:RD):Prop:=pA d.neg d.L d.e
def RD.Zero(d:RD):Prop:=d.neg=false/\d.L=[]/\d.e=0
def RI.iv(x:RI):Iv:=⟨x.lo.dy,x.hi.dy,x.all⟩
def RI.Ok(x:RI):Prop:=(x.all=true/\x.lo.Zero/\x.hi.Zero)\/(x.all=false/\x.lo.Ok/\x.hi.Ok/\jj x.lo.dy x.hi.dy<=0)
def Fp.Dy.raw(d:Dy):RD:=⟨d.neg,gY d.m,d.e⟩
def Fp.Iv.raw(x:Iv):RI:=⟨x.lo.raw,x.hi.raw,x.all⟩
def RD.Ok.valid{d:RD}(h:d.Ok):d.dy.ij:=h.2.2
def RD.Ok.eq{d:RD}(h:d.Ok)(g:d.jE):d.dy.raw=d:=by
 obtain⟨n,L,e⟩:=d;show RD.mk n (gY (val L)) e=_;rw[<-pA.FI h g.ok]
def RD.Zero.eq{d:RD}(h:d.Zero):d.dy=ju/\d.dy.raw=d:=by
 obtain⟨n,L,e⟩:=d;obtain⟨rfl,rfl,rfl⟩:=h;refine⟨rfl,?_⟩;show RD.mk false (gY 0) 0=_;rw[oB]
def RI.Ok.valid{x:RI}(h:x.Ok):x.iv.ij:=by
 rcases h with⟨h1,h2,h3⟩|⟨h1,h2,h3,h4⟩
 .exact .inl ⟨h1,h2.eq.1,h3.eq.1⟩
 .exact .inr ⟨h1,h2.valid,h3.valid,h4⟩
def RI.Ok.eq{x:RI}(h:x.Ok)(g:x.jE):x.iv.raw=x:=by
 obtain⟨lo,hi,a⟩:=x;rcases h with⟨h1,h2,h3⟩|⟨h1,h2,h3,h4⟩
 .show RI.mk lo.dy.raw hi.dy.raw a=_;rw[h2.eq.2,h3.eq.2]
 .show RI.mk lo.dy.raw hi.dy.raw a=_;rw[h2.eq g.lo,h3.eq g.hi]
def Fp.Dy.OU(d:Dy):d.raw.dy=d:=by show Dy.mk d.neg (val (gY d.m)) d.e=d;rw[kr]
def IW(d:Dy):kX d.raw=ie d:=rfl
def Gv(x:Iv):vt x.raw=ik x:=rfl
def Fp.Dy.ij.Jc{d:Dy}(h:d.ij):d.raw.jE:=⟨mz _,by have:=h.exp;show -9223372036854775808<=d.e;omega,by have:=h.exp;show d.e<=9223372036854775807;omega⟩
def Fp.Dy.ij.Kh{d:Dy}(h:d.ij):d.raw.Ok:=h.vN
def Fp.Iv.ij.Kh{x:Iv}(h:x.ij):x.raw.Ok:=by
 rcases h with⟨h1,h2,h3⟩|⟨h1,h2,h3,h4⟩
 .refine .inl ⟨h1,?_,?_⟩
  .show x.lo.raw.Zero;rw[h2];exact⟨rfl,oB,rfl⟩
  .show x.hi.raw.Zero;rw[h3];exact⟨rfl,oB,rfl⟩
 .refine .inr ⟨h1,h2.Kh,h3.Kh,?_⟩;show jj x.lo.raw.dy x.hi.raw.dy<=0;rw[Dy.OU,Dy.OU];exact h4
def Fp.Iv.ij.jW{x:Iv}(h:x.ij):x.lo.ij/\x.hi.ij:=by
 rcases h with⟨_,h2,h3⟩|⟨_,h2,h3,_⟩
 .rw [h2,h3];exact⟨rU,rU⟩
 .exact ⟨h2,h3⟩
def Fp.Iv.ij.Jc{x:Iv}(h:x.ij):x.raw.jE:=⟨h.jW.1.Jc,h.jW.2.Jc⟩
def ano:ia.raw=jF:=by
 show RI.mk ju.raw ju.raw true=RI.mk ko ko true;have:ju.raw=ko:=by show RD.mk false (gY 0) 0=_;rw[oB];rfl
 rw[this]
def C8(l:List Iv):List RI:=l.map Iv.raw
def aeJ(l:List Iv)(i:Nat):(C8 l).getD i jF=(l.getD i ia).raw:=by
 unfold C8;rw[bh,bh,b6];cases l[i]? with
 |none=>exact ano.symm
 |some x=>rfl
def Vt(l:List Iv):jz (C8 l)=ib l:=by
 unfold jz ib;rw[show(C8 l).length=l.length by simp[C8]];congr 1;funext i j;rw[aeJ];rfl
def B5(d:RD)(g:d.jE)(b:Bool)(hb:b=true↔d.Ok):gW 91 [kX d] (bP b):=by
 refine⟨call91,λw B vs hK hB hr=>?_⟩;obtain⟨v1,vs,rfl,h1,hr⟩:=hr.mG;obtain rfl:=hr.qU;obtain⟨us,rfl,q⟩:=iC.BV (show iC _ _ w (.agg _) v1 from h1);obtain⟨u1,us,rfl,k1,q⟩:=q.mG;obtain⟨u2,us,rfl,k2,q⟩:=q.mG;obtain⟨u3,us,rfl,k3,q⟩:=q.mG;obtain rfl:=q.qU;obtain rfl:=iC.kC k1;obtain rfl:=iC.kC k3;obtain⟨A,c,rfl,hs⟩:=xx g.ok k2;exact(B6 d.neg A c d.L d.e w b hs g.lo g.hi hb).mono λe w' h=>rv B w e w' hB h
def G8(d:RD)(g:d.jE)(b:Bool)(hb:b=true↔d.Ok):gW 74 [kX d] (bP b):=by
 refine⟨call74,λw B vs hK hB hr=>?_⟩;obtain⟨v1,vs,rfl,h1,hr⟩:=hr.mG;obtain rfl:=hr.qU;obtain⟨us,rfl,q⟩:=iC.BV (show iC _ _ w (.agg _) v1 from h1);obtain⟨u1,us,rfl,k1,q⟩:=q.mG;obtain⟨u2,us,rfl,k2,q⟩:=q.mG;obtain⟨u3,us,rfl,k3,q⟩:=q.mG;obtain rfl:=q.qU;obtain rfl:=iC.kC k1;obtain rfl:=iC.kC k3;obtain⟨A,c,rfl,hs⟩:=xx g.ok k2;exact(KA d.neg A c d.L d.e w b hs g.lo g.hi hb).mono λe w' h=>rv B w e w' hB h
def zY{a b:Nat}(h:a=b):((a:Int) != (b:Int))=false:=by simp[h]
def Ka{a b:Nat}(h:a=b):((a:Int)==b)=true:=by simp[h]
open Classical in
noncomputable def nL(x:RI):Bool:=decide x.Ok
def s7{x:RI}:nL x=true↔x.Ok:=by unfold nL;simp
open Classical in
open Go.ChangeShapes Go.WideShapes Go.ChangeAt
abbrev nK:Nat->Prop:=λ_=>False
def acA{W:World}{a:Addr}{v:Value}(h:W.cell? a=some v):a.spot=none:=by
 obtain⟨b,o,s⟩:=a;rcases s with _|q
 .rfl
 .exfalso;unfold World.cell? at h;split at h<;>simp at h
def KB{W:World}{a:Addr}{len cap sz:Nat}{nl:Bool}(el:Nat->Nat->E)(hl:len<=cap)(hm:cap<=maxLen)(kY:0<sz)
 (h1:∀ i j,i<len->j<sz->(el i j).one=true/\(nl=true->(el i j).mN=true)/\(el i j).nr 2=true)
 (hx:∀ i,i<len->∃ cs,W.cells? 0 (a.add (i*sz)) sz=some cs/\∀ j,j<sz->∃ v,cs[j]? = some v/\iC nK nK W (el i j) v):
 iC nK nK W (.sl nl len sz el) (.slice (some a) len cap):=by
 have Us:cap<=9223372036854775807:=by simpa[maxLen]using hm
 have cellAt:∀ i j,i<len->j<sz->∃ v,W.cell? (a.add (i*sz+j))=some v/\iC nK nK W (el i j) v:=by
  intro i j hi hj;obtain⟨cs,h2,h3⟩:=hx i hi;obtain⟨v,h4,h5⟩:=h3 j hj;refine⟨v,?_,h5⟩;rw[<-Deep.add_add,(World.cells?_some h2).2.2 j hj,h4]
 by_cases h0:len=0
 .subst h0;exact .sl nl 0 sz el _ cap (λ_ _=>.bool false) aC Us (λh=>by cases h) (λi j hi=>absurd hi aC) (λi j hi=>absurd hi aC) (λi j hi=>absurd hi aC) (λi j hi=>absurd hi aC)
 .obtain ⟨b,o,s⟩:=a;have hs:s=none:=by
   obtain⟨v,h2,_⟩:=cellAt 0 0 aC kY;rw[cJ,b5,show(⟨b,o,s⟩:Addr).add 0=⟨b,o,s⟩from rfl]at h2;exact acA h2
  subst hs;have cell2:∀ i j,∃ v:Value,i<len->j<sz->W.cell? ⟨b,o+(i*sz+j),none⟩=some v/\iC nK nK W (el i j) v:=by
   intro i j;by_cases hi:i<len
   .by_cases hj:j<sz
    .obtain ⟨v,h2,h3⟩:=cellAt i j hi hj;rw[BU]at h2;exact⟨v,λ_ _=>⟨h2,h3⟩⟩
    .exact ⟨.bool false,λ_ h=>absurd h hj⟩
   .exact ⟨.bool false,λh=>absurd h hi⟩
  let f:Nat->Nat->Value:=λi j=>Classical.choose (cell2 i j)
  have hf:∀ i j,i<len->j<sz->W.cell? ⟨b,o+(i*sz+j),none⟩=some (f i j)/\iC nK nK W (el i j) (f i j):=λi j=>cO (cell2 i j)
  refine .sl nl len sz el _ cap f hl Us (λh=>by cases h) (λi j hi hj=>?_) (λi j hi hj=>(h1 i j hi hj).2.2) (λi j hi hj=>?_) (λi j hi hj=>(hf i j hi hj).2)
  .exact ⟨(hf i j hi hj).2.one (h1 i j hi hj).1,λq=>(hf i j hi hj).2.mN ((h1 i j hi hj).2.1 q)⟩
  .exact ⟨b,o,rfl,id,block_lt_of_cell (hf i j hi hj).1,(hf i j hi hj).1⟩
def Ll(W:World)(d:RD)(cs:List Value):Prop:=d.jE/\cs.length=3/\∀ j,j<3->∃ v,cs[j]? = some v/\iC nK nK W ((By d).getD j .any) v
def Lm(W:World)(x:RI)(cs:List Value):Prop:=x.jE/\cs.length=7/\∀ j,j<7->∃ v,cs[j]? = some v/\iC nK nK W ((Ah x).getD j .any) v
section
variable {H:Type} {enc:TypeId×Value->H} {W:World} {fuel:Nat} {cs:List Value} {x:DataW H×List MemPlace}
def OE(h:DataW.trod enc prog W 0 (λ_=>true) true fuel 31 cs=some x)(iB:∀ p ∈ x.2,p.block<W.heap.size):∃ d,Ll W d cs:=by
 obtain⟨s,A,L,cap,e,rfl,rf,h1,h2⟩:=aiB h iB;refine⟨⟨s,L,e⟩,⟨rf.ok,h1,h2⟩,rfl,λj hj=>?_⟩;rcases j with _|_|_|j
 .exact ⟨_,rfl,.v _⟩
 .exact ⟨_,rfl,BK (w:=W) (λ_ h=>h.elim) (.refl _) rf⟩
 .exact ⟨_,rfl,.v _⟩
 .omega
def aiG(h:DataW.trod enc prog W 0 (λ_=>true) true fuel 39 cs=some x)(iB:∀ p ∈ x.2,p.block<W.heap.size):∃ d,Lm W d cs:=by
 obtain⟨xs,n,rfl,rfl,hl,lW,hf⟩:=DataW.trod_struct underlying39 h;have hC:prog.cellsOf 39=7:= aF ;have hD:prog.cellsOf 31=3:= aF ;have hB:prog.cellsOf 4=1:= aF ;rw[hC]at hl;obtain⟨c0,c1,c2,c3,c4,c5,c6,rfl⟩:=ahx hl;have h0:=hf 0 _ rfl;have h1:=hf 1 _ rfl;have h2:=hf 2 _ rfl;simp only[ff,fg,eh]at h0 h1 h2;simp only[hD,hB,fh,fi,eF,fj]at h0 h1 h2;rw[bu (by rw[lW];decide)]at h0 h1 h2;obtain⟨lo,g1,_,k1⟩:=OE h0 (λp hp=>iB p (dj.2 ⟨_,cA _,hp⟩));obtain⟨hi,g2,_,k2⟩:=OE h1 (λp hp=>iB p (dj.2 ⟨_,cA _,hp⟩));obtain⟨al,e2,_⟩:=DataW.trod_bool underlying4 h2;simp at e2;subst e2;refine⟨⟨lo,hi,al⟩,⟨g1,g2⟩,rfl,λj hj=>?_⟩;rcases j with _|_|_|_|_|_|_|j
 .exact k1 0 aE 
 .exact k1 1 aE 
 .exact k1 2 aE 
 .exact k2 0 aE 
 .exact k2 1 aE 
 .exact k2 2 aE 
 .exact ⟨_,rfl,.v _⟩
 .omega
def akf(x:RI)(j:Nat)(hj:j<7):((Ah x).getD j .any).one=true/\(((Ah x).getD j .any).mN=true)/\((Ah x).getD j .any).nr 2=true:=by
 rcases j with _|_|_|_|_|_|_|j
 all_goals first|exact⟨rfl,rfl,rfl⟩|omega
def W2(h:DataW.trod enc prog W 0 (λ_=>true) true fuel 26 cs=some x)(iB:∀ p ∈ x.2,p.block<W.heap.size):
  ∃ l v,cs=[v]/\(∀ y,y ∈ l->y.jE)/\iC nK nK W (jz l) v:=by
 have hC:prog.cellsOf 39=7:= aF ;rcases Deep.open_slice underlying26 h with⟨rfl,_⟩|⟨a,len,cap,m,n,D,Pl,rfl,hb,hl,hm,rY,rfl,hx⟩
 .exact ⟨[],_,rfl,(λy hy=>by cases hy),.sl true 0 7 _ none 0 (λ_ _=>.bool false) (bg _) aE (λ_=>rfl) (λi j hi=>absurd hi (bj i)) (λi j hi=>absurd hi (bj i)) (λi j hi=>absurd hi (bj i)) (λi j hi=>absurd hi (bj i))⟩
 .simp only[bB]at rY;subst rY;have ex:∀ i,∃ y:RI,i<len->∃ cs',W.cells? 0 (a.add (i*7)) 7=some cs'/\Lm W y cs':=by
   intro i;by_cases hi:i<len
   .obtain ⟨cs',h1,h2⟩:=hx i aC ;rw[hC]at h1;obtain⟨y,hy⟩:=aiG h2 (λp hp=>iB p (List.mem_append_right _ (dj.2 ⟨i,bS.2 aC,hp⟩)));exact⟨y,λ_=>⟨cs',h1,hy⟩⟩
   .exact ⟨jF,λh=>absurd h hi⟩
  let X:Nat->RI:=λi=>Classical.choose (ex i)
  have hX:∀ i,i<len->∃ cs',W.cells? 0 (a.add (i*7)) 7=some cs'/\Lm W (X i) cs':=λi=>cO (ex i)
  have hlen:((List.range len).map X).length=len:= aH ;refine⟨(List.range len).map X,_,rfl,?_,?_⟩
  .intro y hy;obtain⟨i,hi,rfl⟩:=cX.1 hy;obtain⟨cs',_,h2⟩:=hX i (bS.1 hi);exact h2.1
  .have y9:∀ i,i<len->((List.range len).map X).getD i jF=X i:=by
    intro i hi;rw[bh,b6,gS hi];rfl
   have:=KB (W:=W) (a:=a) (len:=len) (cap:=m) (nl:=true) (λi j=>(Ah (((List.range len).map X).getD i jF)).getD j .any) hl hm (show 0<7 by decide)
    (λi j _ hj=>let⟨h1,h2,h3⟩:=akf (((List.range len).map X).getD i jF) j hj;⟨h1,λ_=>h2,h3⟩)
    (λi hi=>by
     obtain⟨cs',h1,h2,_,h3⟩:=hX i hi;exact⟨cs',h1,λj hj=>by rw[y9 i hi];exact h3 j hj⟩)
   unfold jz;rw[hlen];exact this
end
def afh{P:Program}{c:OpenClaim}(h:P.funcs.any Func.goes=false)(hs:c.start = .entering):false=c.goesBy P:=by
 have h1:∀ g:Nat,(P.funcs[g]?).any Func.goes=false:=by
  intro g;cases hg:P.funcs[g]? with
  |none=>rfl
  |some fn=>
   rw[Option.any_some];rw[Array.any_eq_false]at h;obtain⟨hl,he⟩:=cT.1 hg;have:=h g hl;rw[he]at this;simpa using this
 have h2:∀ f,P.goes f=false:=by
  intro f;unfold Program.goes;rw[h,Bool.and_false,et,cK];intro g _;rw[h1 g];decide
 unfold OpenClaim.goesBy Program.goesAt Program.goesFrom;rw[hs];cases P.funcNamed c.func with
 |none=>rfl
 |some f=>simp[h2 f]
def aeq:Tryz.pinned.checked.prog.funcs.any Func.goes=false:= aF 
def Vf(k:IntKind)(l:List Int):E:=.sl true l.length 1 λi _=>.v (.int k (l.getD i 0))
def ZY{k:IntKind}{z:Int}(h:(Lit.int k z).wf=true):kA k z:=by
 cases k<;>(simp[Lit.wf,IntKind.min,IntKind.max,IntKind.signed,IntKind.bits]at h;simp only[kA];omega)
def aiC{H:Type}{enc:TypeId×Value->H}{W:World}{fuel:Nat}{cs:List Value}{x:DataW H×List MemPlace}{t e:TypeId}{k:IntKind}(hk:∀ z,pQ (.int k z)=false)(ht:prog.underlying t=some (.slice e))(he:prog.underlying e=some (.int k))(hC:prog.cellsOf e=1)
  (h:DataW.trod enc prog W 0 (λ_=>true) true fuel t cs=some x):∃ l v,cs=[v]/\(∀ z,z ∈ l->kA k z)/\iC nK nK W (Vf k l) v:=by
 rcases Deep.open_slice ht h with⟨rfl,_⟩|⟨a,len,cap,m,n,D,Pl,rfl,hb,hl,hm,rY,rfl,hx⟩
 .exact ⟨[],_,rfl,(λy hy=>by cases hy),.sl true 0 1 _ none 0 (λ_ _=>.bool false) (bg _) aE (λ_=>rfl) (λi j hi=>absurd hi (bj i)) (λi j hi=>absurd hi (bj i)) (λi j hi=>absurd hi (bj i)) (λi j hi=>absurd hi (bj i))⟩
 .simp only[bB]at rY;subst rY;have ex:∀ i,∃ z:Int,i<len->W.cells? 0 (a.add (i*1)) 1=some [.int k z]/\kA k z:=by
   intro i;by_cases hi:i<len
   .obtain ⟨cs',h1,h2⟩:=hx i aC ;rw[hC]at h1;obtain⟨z,hz,_,hw⟩:=DataW.trod_int he h2;subst hz;exact⟨z,λ_=>⟨h1,ZY hw⟩⟩
   .exact ⟨0,λh=>absurd h hi⟩
  let X:Nat->Int:=λi=>Classical.choose (ex i)
  have hX:∀ i,i<len->W.cells? 0 (a.add (i*1)) 1=some [.int k (X i)]/\kA k (X i):=λi=>cO (ex i)
  have hlen:((List.range len).map X).length=len:= aH ;refine⟨(List.range len).map X,_,rfl,?_,?_⟩
  .intro r hr;obtain⟨i,hi,rfl⟩:=cX.1 hr;exact(hX i (bS.1 hi)).2
  .have y9:∀ i,i<len->((List.range len).map X).getD i 0=X i:=by
    intro i hi;rw[bh,b6,gS hi];rfl
   have:=KB (W:=W) (a:=a) (len:=len) (cap:=m) (nl:=true) (λi _=>.v (.int k (((List.range len).map X).getD i 0))) hl hm (show 0<1 by decide)
    (λi j _ hj=>⟨rfl,λ_=>by show(!pQ _)=true;rw[hk];rfl,rfl⟩)
    (λi hi=>by
     refine⟨[.int k (X i)],(hX i hi).1,λj hj=>?_⟩;obtain rfl:j=0:= aC ;exact⟨_,rfl,by rw[y9 i hi];exact .v _⟩)
   unfold Vf;rw[hlen];exact this
end Go.Proofs.YtgdahmmlddfimaaGreatDoor
namespace Go.Proofs.YtgdahmmlddfimaaGreatDoor.Pu
open Go.RowKit
inductive R where
 |nil
 |iS
 |a (p:Prop) (r:R)
 |w (p:Prop) (r1:p->R) (r2:¬p->R)
def R.ok:R->Prop
 | .nil=>True
 | .iS=>False
 | .a p r=>p/\r.ok
 | .w p r1 r2=>(∀ h:p,(r1 h).ok)/\(∀ h:¬p,(r2 h).ok)
inductive Tr(P:Program)(K:World->Prop) where
 |nil
 |c {f:FuncId} {args:List E} {jQ:E} (h:PC P K f args jQ) (t:Tr P K)
 |cf {f:FuncId} {args:List E} {jQ:E} (h:Ih P K f args jQ) (t:Tr P K)
 |cn {f:FuncId} {args:List E} {nl:Bool} {T:TypeId} {n sz:Nat} {el:Nat->Nat->E} (h:tW P K f args nl T n sz el) (t:Tr P K)
 |g {op:BinOp} {ty:TypeId} {x y:E} {v:Value} (h:pB P op ty x y v) (t:Tr P K)
 |gi {op:BinOp} {ty:TypeId} {x y:E} {v:Value} (h:pB P op ty x y v) (t:Tr P K)
 |m {l:List (Int×FuncId×List FuncId)} {z:Int} {e:E} (h:CW l z=some e) (t:Tr P K)
 |o (d:Nat) {p q:PV} (h:PV.le p q) (t:Tr P K)
 |bo (t:Tr P K)
 |a {p:Prop} (h:p) (t:Tr P K)
 |w (p:Prop) (t1:p->Tr P K) (t2:¬p->Tr P K)
 |s {c:Code} {σ τ:PS} {e:Ex} (h:Sp P K c σ (λe' τ'=>e'=e/\τ'=τ)) (l t:Tr P K)
 |j (c:Nat) (τ:PS) (tj t:Tr P K)
 |v (d:Nat) {p q:PV} (h:PV.le p q) (t:Tr P K)
 |b (d:Nat) {p q:Bx} (h:Bx.le p q) (t:Tr P K)
 |z (id:Nat) (t:Tr P K)
 |y (s id:Nat) (nl:Bool) (T:TypeId) (sz:Nat) (el:Nat->Nat->E) (t:Tr P K)
 |yf (d off id:Nat) (nl:Bool) (T:TypeId) (sz:Nat) (el:Nat->Nat->E) (t:Tr P K)
 |e (t:Tr P K)
 |k (ts bs:List Nat) (t:Tr P K)
 |u (n:Nat) (t:Tr P K)
 |x (h:False)
 |r {p q:E} (h:E.le p q)
 |rb {p q:Bx} (h:Bx.le p q)
section
variable {P:Program} {K:World->Prop}
def EY:List (Nat×PV)->Tr P K->(Tr P K->R)->R
 | [],t,k=>k t
 | (d,q)::l,t,k=>match t with
  | .o d' (p:=p) (q:=q') _ t'=>if Nat.beq d' d then .a (PV.le p q') (EY l t' k)else .a (PV.le q q) (EY l t k)
  |t=>.a (PV.le q q) (EY l t k)
def DA:List (Nat×Bx)->Tr P K->R->R
 | [],_,r=>r
 | (d,q)::l,t,r=>match t with
  | .b d' (p:=p) (q:=q') _ t'=>if Nat.beq d' d then .a (Bx.le p q') (DA l t' r)else .a (Bx.le q q) (DA l t r)
  |t=>.a (Bx.le q q) (DA l t r)
def ET(σ:PS)(t:Tr P K)(r:R):R:=EY σ.t t λt=>DA σ.b t r
def Tr.ex:Tr P K->(Tr P K->R)->R
 | .nil,fin=>fin .nil
 | .e t,fin=>fin t
 | @Tr.c _ _ f args jQ _ t,fin=>.a (PC P K f args jQ) (t.ex fin)
 | @Tr.cf _ _ f args jQ _ t,fin=>.a (Ih P K f args jQ) (t.ex fin)
 | @Tr.cn _ _ f args nl T n sz el _ t,fin=>.a (tW P K f args nl T n sz el) (t.ex fin)
 | @Tr.g _ _ op₁ ty₁ xe₁ ye₁ ve₁ _ t,fin=>.a (pB P op₁ ty₁ xe₁ ye₁ ve₁) (t.ex fin)
 | @Tr.gi _ _ op₁ ty₁ xe₁ ye₁ ve₁ _ t,fin=>.a (pB P op₁ ty₁ xe₁ ye₁ ve₁) (t.ex fin)
 | @Tr.m _ _ l₁ z₁ e₁ _ t,fin=>.a (CW l₁ z₁=some e₁) (t.ex fin)
 | .o _ (p:=p) (q:=q) _ t,fin=>.a (PV.le p q) (t.ex fin)
 | .bo t,fin=>.a True (t.ex fin)
 | .a (p:=p) _ t,fin=>.a p (t.ex fin)
 | .w p t1 t2,fin=>.w p (λh=>(t1 h).ex fin) (λh=>(t2 h).ex fin)
 | @Tr.s _ _ c₁ σ τ e₁ _ l t,fin=>ET σ l (.a (Sp P K c₁ σ (λe' τ'=>e'=e₁/\τ'=τ)) (t.ex fin))
 | .j _ τ tj t,fin=>.a (tj.ex λt=>ET τ t .nil).ok (t.ex fin)
 | .v _ (p:=p) (q:=q) _ t,fin=>.a (PV.le p q) (t.ex fin)
 | .b _ _ t,fin=>t.ex fin
 | .z _ t,fin=>t.ex fin
 | .y _ _ _ _ _ _ t,fin=>t.ex fin
 | .yf _ _ _ _ _ _ _ t,fin=>t.ex fin
 | .k _ _ t,fin=>t.ex fin
 | .u _ t,fin=>t.ex fin
 | .x _,fin=>.a False .nil
 | .r (p:=p) (q:=q) _,fin=>.a (E.le p q) .nil
 | .rb (p:=p) (q:=q) _,fin=>.a (Bx.le p q) .nil
def amz{l:List (Nat×PV)}{t:Tr P K}{k:Tr P K->R}(hk:∀ t,(k t).ok):(EY l t k).ok:=by
 induction l generalizing t with
 |nil=>exact hk t
 |cons x l ih=>
  obtain⟨d,q⟩:=x;cases t with
  |o d' h t'=>
   simp only[EY];split
   .exact ⟨h,ih⟩
   .exact ⟨PV.le.refl q,ih⟩
  |_=>exact⟨PV.le.refl q,ih⟩
def aaP{l:List (Nat×Bx)}{t:Tr P K}{r:R}(hr:r.ok):(DA l t r).ok:=by
 induction l generalizing t with
 |nil=>exact hr
 |cons x l ih=>
  obtain⟨d,q⟩:=x;cases t with
  |b d' h t'=>
   simp only[DA];split
   .exact ⟨h,ih⟩
   .exact ⟨Bx.le.refl q,ih⟩
  |_=>exact⟨Bx.le.refl q,ih⟩
def PE{σ:PS}{t:Tr P K}{r:R}(hr:r.ok):(ET σ t r).ok:=amz λ_=>aaP hr
def Tr.Mj{fin:Tr P K->R}(hf:∀ t,(fin t).ok)(t:Tr P K):(t.ex fin).ok:=by
 induction t generalizing fin with
 |nil=>exact hf _
 |e t=>exact hf _
 |c h t ih=>exact⟨h,ih hf⟩
 |cf h t ih=>exact⟨h,ih hf⟩
 |cn h t ih=>exact⟨h,ih hf⟩
 |g h t ih=>exact⟨h,ih hf⟩
 |gi h t ih=>exact⟨h,ih hf⟩
 |m h t ih=>exact⟨h,ih hf⟩
 |o d h t ih=>exact⟨h,ih hf⟩
 |bo t ih=>exact⟨trivial,ih hf⟩
 |a h t ih=>exact⟨h,ih hf⟩
 |w p t1 t2 Gq Gr=>exact⟨λh=>Gq h hf,λh=>Gr h hf⟩
 |s h l t ihl ND=>exact PE ⟨h,ND hf⟩
 |j c τ tj t ihj ND=>exact⟨ihj λ_=>PE trivial,ND hf⟩
 |v d h t ih=>exact⟨h,ih hf⟩
 |b d h t ih=>exact ih hf
 |z id t ih=>exact ih hf
 |y s id nl T sz el t ih=>exact ih hf
 |yf d off id nl T sz el t ih=>exact ih hf
 |k ts bs t ih=>exact ih hf
 |u n t ih=>exact ih hf
 |x h=>exact h.elim
 |r h=>exact⟨h,trivial⟩
 |rb h=>exact⟨h,trivial⟩
def PL(υ:PS):List (Nat×PV)->R->R
 | [],r=>r
 | (d,q)::l,r=>.a (PV.le (υ.get d) q) (PL υ l r)
def IA(υ:PS):List (Nat×Bx)->R->R
 | [],r=>r
 | (d,q)::l,r=>match υ.bo d with
  |some b=>.a (Bx.le b q) (IA υ l r)
  |none=>.iS
def KU(υ σ:PS)(r:R):R:=if Nat.beq υ.n σ.n&&(σ.b.all (λx=>x.2.nl)||(σ.nl==υ.nl))&&G9 σ then PL υ σ.t (IA υ σ.b r)else .iS
def Tr.tail:Tr P K->Tr P K
 | .c _ t=>t
 | .cf _ t=>t
 | .cn _ t=>t
 | .g _ t=>t
 | .gi _ t=>t
 | .m _ t=>t
 | .bo t=>t
 | .a _ t=>t
 |_=>.nil
def Ox:List Prop->Tr P K->(Tr P K->R)->R
 | [],t,k=>k t
 |p::l,t,k=>.a p (Ox l t.tail k)
def RM(d:Option Tmp)(t:Tr P K):qu:=match d with
 |some d=>match t with
  | @Tr.c _ _ _ _ jQ _ _=>{ cl:=[(d,jQ)] }
  | @Tr.cf _ _ _ _ jQ _ _=>{ cl:=[(d,jQ)] }
  | @Tr.g _ _ _ _ _ _ ve₁ _ _=>{ cl:=[(d,.v ve₁)] }
  | @Tr.gi _ _ _ _ _ _ ve₁ _ _=>{ gi:=[(d,ve₁)] }
  | @Tr.m _ _ _ _ e₁ _ _=>{ cl:=[(d,e₁)] }
  | @Tr.cn _ _ _ _ nl T n sz el _ _=>{ nw:=[(d,.row nl T n sz el)] }
  | .bo _=>{ nw:=[(d,.cells 0 [])] }
  |_=>{}
 |none=>{}
def GX:Tr P K->(Tr P K->R)->R
 | .w p t1 t2,k=>.w p (λh=>GX (t1 h) k) (λh=>GX (t2 h) k)
 | .x _,_=>.a False .nil
 |t,k=>k t
def OI(o:Oper)(u:kq)(t:Tr P K)(k:kq->Tr P K->R):R:=match o.dst,t with
 |some d,.o d' (q:=q) _ t'=>if Nat.beq d' d then .a (PV.le u.r q) (k { u with r:=q,jB:=PV.le u.r q::u.jB } t')else k u t
 |_,t=>k u t
def OD(T:List TI)(gZ:Array Oper)(σ:PS)(o:Oper)(t:Tr P K)(k:kq->Tr P K->R):R:=
 if wc σ o.dst then match Ar gZ σ o with
  |some false=>k { r:=.e (.v (.tuple #[])),rd:=(looks gZ o).map σ.get } t
  |some true=>GX t λt=>match jD P K T (RM o.dst t) σ o with
   |some u=>Ox u.jB t λt=>GX t λt=>OI o u t λu t=>k { u with rd:=(looks gZ o).map σ.get,hb:=σ.pd u.f,ob:=σ.xq u.f } t
   |none=>.iS
  |none=>.iS
 else .iS
def OG(T:List TI)(gZ:Array Oper)(k:List (Oper×kq)->PS->Tr P K->R):List Oper->List (Oper×kq)->PS->Tr P K->R
 | [],us,σ,t=>k us σ t
 |o::l,us,σ,t=>OD T gZ σ o t λu t'=>OG T gZ k l ((o,u)::us) (σ.app o.dst u) t'
def rN(c:Bool):Tr P K->PS->(Tr P K->PS->R)->R
 | .w p t1 t2,σ,k=>.w p (λh=>rN c (t1 h) σ k) (λh=>rN c (t2 h) σ k)
 | .x _,_,_=>.a False .nil
 | .v d (q:=q) _ t,σ,k=>match q with
  | .e x=>if wc σ (some d)then .a (PV.le (σ.get d) (.e x)) (rN c t (σ.put (some d) (.e x)) k)else .iS
  |_=>.iS
 | .k ts bs t,σ,k=>if c then k (.k ts bs t) σ else if G9 (σ.cut ts bs)then rN c t (σ.cut ts bs) k else .iS
 | .z id t,σ,k=>if c then k (.z id t) σ else match σ.bo id with
  |some b=>match b.as with
   |some e=>rN c t (σ.uQ id e) k
   |none=>.iS
  |none=>.iS
 | .y s id nl T sz el t,σ,k=>if c then k (.y s id nl T sz el t) σ else match σ.bo id,σ.get s with
  |none,.e (.v (.slice none 0 0))=>if !σ.nl||nl then rN c t (σ.Du s id (.row nl T 0 sz el)) k else .iS
  |_,_=>.iS
 | .yf d off id nl T sz el t,σ,k=>if c then k (.yf d off id nl T sz el t) σ else match σ.Lz d off id (.row nl T 0 sz el)with
  |some τ=>if !σ.nl||nl then rN c t τ k else .iS
  |none=>.iS
 |t,σ,k=>k t σ
def KR(c:Code)(σ:PS)(t:Tr P K)(k:Ex->PS->Tr P K->R):R:=match t with
 | @Tr.s _ _ _ σ' τ e _ _ t=>KU σ σ' (.a (Sp P K c σ' (λe' τ'=>e'=e/\τ'=τ)) (k e τ t))
 |_=>.iS
def Ex.qE:Ex->Ex->Bool
 | .normal,.normal=>true
 | .ret,.ret=>true
 | .exit a,.exit b=>Nat.beq a b
 |_,_=>false
def FH(e:Ex)(τ:PS)(e':Ex)(υ:PS)(_:Tr P K):R:=if Ex.qE e' e then KU υ τ .nil else .iS
def acP:Operand->Nat
 | .tmp t=>2*t
 |_=>1
def jn(c:Nat)(g:PS->Tr P K->(Ex->PS->Tr P K->R)->R)(σ:PS)(t:Tr P K)(k:Ex->PS->Tr P K->R):R:=match t with
 | .j c' τ tj t'=>if Nat.beq c' c then .a (g σ tj (FH .normal τ)).ok (k .normal τ t')else g σ t k
 |t=>g σ t k
def Tr.isS:Tr P K->Bool
 | .s ..=>true
 |_=>false
def ZO(g f:PS->Tr P K->(Ex->PS->Tr P K->R)->R):Nat->PS->Tr P K->(Ex->PS->Tr P K->R)->R
 | 0,_,_,_=>.iS
 |n+1,σ,t,k=>rN false t σ λt σ=>if t.isS then g σ t k else f σ t λe τ t=>match e with
  | .normal=>ZO g f n τ t k
  |e=>k e τ t
def vP(T:List TI):Code->PS->Tr P K->(Ex->PS->Tr P K->R)->R
 | .skip,σ,t,k=>k .normal σ t
 | .region _ gZ d,σ,t,k=>OG T gZ (λus τ t=>if !d||EF gZ 0 us.reverse then k .normal τ t else .iS) gZ.toList [] σ t
 | .seq a b,σ,t,k=>vP T a σ t λe τ t=>match e with
  | .normal=>vP T b τ t k
  |e=>k e τ t
 | .cond c a b,σ,t,k=>rN true t σ λt σ=>jn (acP c) (λσ t k=>rN true t σ λt σ=>match σ.op c with
  | .e (.v (.bool true))=>vP T a σ t k
  | .e (.v (.bool false))=>vP T b σ t k
  |_=>.iS) σ t k
 | .block id b,σ,t,k=>rN true t σ λt σ=>jn (2*id+1) (λσ t k=>vP T b σ t λe τ t=>match e with
  | .exit i=>if Nat.beq i id then k .normal τ t else k (.exit i) τ t
  |e=>k e τ t) σ t k
 | .exit id,σ,t,k=>rN false t σ λt σ=>k (.exit id) σ t
 | .ret,σ,t,k=>rN false t σ λt σ=>k .ret σ t
 | .loop b,σ,t,k=>rN false t σ λt σ=>match t with
  | .u n t=>ZO (KR (.loop b)) (vP T b) n σ t k
  |t=>KR (.loop b) σ t k
 | .label _,σ,t,k=>k .normal σ t
 | .scope b,σ,t,k=>vP T b σ t k
 |_,_,_,_=>.iS
def Xa{t:Tr P K}{k:Tr P K->R}(h:(GX t k).ok):∃ t',(k t').ok:=by
 induction t with
 |w p t1 t2 Gq Gr=>
  by_cases hp:p
  .exact Gq hp (h.1 hp)
  .exact Gr hp (h.2 hp)
 |x hf=>exact hf.elim
 |_=>exact⟨_,h⟩
def ais{l:List Prop}{t:Tr P K}{k:Tr P K->R}(h:(Ox l t k).ok):(∀ q,q ∈ l->q)/\∃ t',(k t').ok:=by
 induction l generalizing t with
 |nil=>exact⟨λq hq=>by simp at hq,t,h⟩
 |cons p l ih=>
  obtain⟨h1,h2⟩:=ih h.2;refine⟨λq hq=>?_,h2⟩;rcases cV.1 hq with hq|hq
  .subst hq;exact h.1
  .exact h1 q hq
variable {T:List TI} {gZ:Array Oper} {σ:PS} {o:Oper}
def aiM{O:qu}{u:kq}{t:Tr P K}{k:kq->Tr P K->R}(hO:O.ov=[])(hu:jD P K T O σ o=some u)(ho:∀ q,q ∈ u.jB->q)(h:(OI o u t k).ok):
 ∃ O' u' t',uK P K T O' σ o=some u'/\(∀ q,q ∈ u'.jB->q)/\(k u' t').ok:=by
 have plain:(k u t).ok->∃ O' u' t',uK P K T O' σ o=some u'/\(∀ q,q ∈ u'.jB->q)/\(k u' t').ok:=by
  intro h;refine⟨O,u,t,?_,ho,h⟩;unfold uK;rw[hu,hO];cases o.dst<;>rfl
 unfold OI at h;split at h
 .rename_i d d' p q hpq t' hd;split at h
  .obtain ⟨h1,h2⟩:=h;refine⟨⟨O.cl,[(d,q)],O.nw,O.gi⟩,_,t',?_,λx hx=>?_,h2⟩
   .unfold uK;have he:jD P K T ⟨O.cl,[(d,q)],O.nw,O.gi⟩ σ o=jD P K T O σ o:=by cases O;rfl
    rw[he,hu,hd];simp[look]
   .rcases cV.1 hx with hx|hx
    .subst hx;exact h1
    .exact ho x hx
  .exact plain h
 .exact plain h
def aiz{t:Tr P K}{k:kq->Tr P K->R}(h:(OD T gZ σ o t k).ok):∃ u t',(∃ O,rE P K T O gZ σ o=some u)/\(∀ q,q ∈ u.jB->q)/\(k u t').ok:=by
 unfold OD at h;split at h
 .rename_i hi;split at h
  .rename_i hw;refine⟨_,t,⟨{},?_⟩,λq hq=>by simp at hq,h⟩;unfold rE;rw[a6 hi,hw]
  .rename_i hw;obtain⟨t1,h1⟩:=Xa h;split at h1
   .rename_i u hu;obtain⟨ho,t2,h2⟩:=ais h1;obtain⟨t2,h2⟩:=Xa h2;obtain⟨O',u',t3,xi,ho',h3⟩:=aiM (by
     unfold RM;cases o.dst with
     |none=>rfl
     |some d=>cases t1<;>rfl) hu ho h2
    refine⟨{ u' with rd:=(looks gZ o).map σ.get,hb:=σ.pd u'.f,ob:=σ.xq u'.f },t3,⟨O',?_⟩,ho',h3⟩;unfold rE;rw[a6 hi,hw,xi]
   .exact h1.elim
  .exact h.elim
 .exact h.elim
def aiL{k:List (Oper×kq)->PS->Tr P K->R}{l:List Oper}{us:List (Oper×kq)}{t:Tr P K}(h:(OG T gZ k l us σ t).ok):
 ∃ vs τ t',wN P K T gZ vs σ τ/\vs.map (·.1)=l/\(∀ x,x ∈ vs->∀ q,q ∈ x.2.jB->q)/\(k (vs.reverse++us) τ t').ok:=by
 induction l generalizing us σ t with
 |nil=>exact⟨[],σ,t,su.refl σ,rfl,λx hx=>by simp at hx,h⟩
 |cons o l ih=>
  obtain⟨u,t1,h1,h2,h3⟩:=aiz h;obtain⟨vs,τ,t',k1,k2,k3,k4⟩:=ih h3;refine⟨(o,u)::vs,τ,t',⟨h1,k1⟩,by simp[k2],λx hx=>?_,by simpa using k4⟩;rcases cV.1 hx with hx|hx
  .subst hx;exact h2
  .exact k3 x hx
def PS.le.set{σ:PS}{d:Nat}{x:E}(hd:wc σ (some d)=true)(h:PV.le (σ.get d) (.e x)):PS.le σ (σ.put (some d) (.e x)):=λw0 B a w L _ r=>by
 have Cj:d<σ.n:=by simpa[wc,fm]using hd
 refine⟨L,r.hd,by rw[PS.Og];exact r.hs,λt=>?_,λid b hb=>r.hb id b hb,r.hv,r.hn,r.hw,r.hi,r.he,r.hl⟩;rw[PS.Mz];by_cases e:d=t
 .subst e;rw[a6 rfl];exact h _ _ _ _ _ (r.ht d)
 .rw [aZ e];exact r.ht t
def C5{c:Bool}{t:Tr P K}{σ:PS}{k:Tr P K->PS->R}(h:(rN c t σ k).ok):∃ t' τ,PS.le σ τ/\(k t' τ).ok:=by
 induction t generalizing σ with
 |w p t1 t2 Gq Gr=>
  by_cases hp:p
  .exact Gq hp (h.1 hp)
  .exact Gr hp (h.2 hp)
 |k ts bs t ih=>
  simp only[rN]at h;split at h
  .exact ⟨_,σ,PS.le.refl σ,h⟩
  split at h
  .rename_i hr;obtain⟨t',τ,h1,h2⟩:=ih h;exact⟨t',τ,(PS.le.cut ts bs hr).trans h1,h2⟩
  .exact h.elim
 |v d h0 t ih=>
  simp only[rN]at h;split at h
  .rename_i x;split at h
   .rename_i hd;obtain⟨t',τ,h1,h2⟩:=ih h.2;exact⟨t',τ,(PS.le.set hd h.1).trans h1,h2⟩
   .exact h.elim
  .exact h.elim
 |z id t ih=>
  simp only[rN]at h;split at h
  .exact ⟨_,σ,PS.le.refl σ,h⟩
  split at h
  .rename_i b hb;split at h
   .rename_i e he;obtain⟨t',τ,h1,h2⟩:=ih h;exact⟨t',τ,(PS.le.freeze id hb he).trans h1,h2⟩
   .exact h.elim
  .exact h.elim
 |y s id nl T sz el t ih=>
  simp only[rN]at h;split at h
  .exact ⟨_,σ,PS.le.refl σ,h⟩
  split at h
  .rename_i hb hg;split at h
   .rename_i hn;obtain⟨t',τ,h1,h2⟩:=ih h;exact⟨t',τ,(PS.le.aax s id hb hg (λe=>by rw[e]at hn;simpa using hn)).trans h1,h2⟩
   .exact h.elim
  .exact h.elim
 |yf d off id nl T sz el t ih=>
  simp only[rN]at h;split at h
  .exact ⟨_,σ,PS.le.refl σ,h⟩
  split at h
  .rename_i τ0 hb;split at h
   .rename_i hn;obtain⟨t',τ,h1,h2⟩:=ih h;exact⟨t',τ,(PS.le.aay hb (λe=>by rw[e]at hn;simpa using hn)).trans h1,h2⟩
   .exact h.elim
  .exact h.elim
 |x hf=>exact hf.elim
 |_=>exact⟨_,σ,PS.le.refl σ,h⟩
def amA{υ:PS}{l:List (Nat×PV)}{r:R}(h:(PL υ l r).ok):xB υ l/\r.ok:=by
 induction l with
 |nil=>exact⟨trivial,h⟩
 |cons x l ih=>obtain⟨d,q⟩:=x;exact⟨⟨h.1,(ih h.2).1⟩,(ih h.2).2⟩
def abd{υ:PS}{l:List (Nat×Bx)}{r:R}(h:(IA υ l r).ok):wK υ l/\r.ok:=by
 induction l with
 |nil=>exact⟨trivial,h⟩
 |cons x l ih=>
  obtain⟨d,q⟩:=x;simp only[IA]at h;split at h
  .rename_i b hb;exact⟨⟨⟨b,hb,h.1⟩,(ih h.2).1⟩,(ih h.2).2⟩
  .exact h.elim
def Za{υ σ:PS}{r:R}(h:(KU υ σ r).ok):PS.le υ σ/\r.ok:=by
 unfold KU at h;split at h
 .rename_i hc;simp only[bF,ev,beq_iff_eq]at hc;obtain⟨⟨h1,h2⟩,h3⟩:=hc;obtain⟨h4,h5⟩:=amA h;obtain⟨h6,h7⟩:=abd h5;refine⟨?_,h7⟩;rcases h2 with h2|h2
  .exact PS.le.ag7 (kO.1 h1) h2 h3 h4 h6
  .exact PS.le.pj (kO.1 h1) h2 h3 h4 h6
 .exact h.elim
def akY(hT:mH P T){w0:World}{B:Nat->Prop}{a:Act}{w:World}{L:Lk}(g:Gd P K w0 B){us:List (Oper×kq)}{τ:PS}{Q:Exit->Act->World->Prop}(h:wN P K T gZ us σ τ)(ho:∀ x,x ∈ us->∀ q,q ∈ x.2.jB->q)
 (r:iZ w0 B σ a w L) (hq:∀ a' w' L',iZ w0 B τ a' w' L'->Q .normal a' w'):wpList P gZ Q (us.map (·.1)) a w:=by
 induction us generalizing σ a w L with
 |nil=>exact hq a w L (r.qE h)
 |cons x us ih=>
  obtain⟨⟨O,h1⟩,h2⟩:=h;rw[eo];unfold wpList;rcases SN hT g r h1 (ho x aH) (wpList P gZ Q (us.map (·.1))) Q (λa' w' L' hr=>ih h2 (λy hy=>ho y (by simp[hy])) hr)with⟨p1,p2⟩|⟨p1,p2⟩
  .rw [a6 p1];exact .inl p2
  .rw [aZ (by rw[p1];simp)];exact p2
def aj6(hT:mH P T)(hm:P.follows .mixedOrders=true){w0:World}{B:Nat->Prop}{a:Act}{w:World}{L:Lk}(g:Gd P K w0 B){id:Nat}{draw:Bool}{us:List (Oper×kq)}{τ:PS}{Q:Exit->Act->World->Prop}
 (h:wN P K T gZ us σ τ) (hl:us.map (·.1)=gZ.toList) (ho:∀ x,x ∈ us->∀ q,q ∈ x.2.jB->q) (hp:(!draw||EF gZ 0 us)=true) (r:iZ w0 B σ a w L)
 (hq:∀ a' w' L',iZ w0 B τ a' w' L'->Q .normal a' w'):(Code.region id gZ draw).wp P Q a w:=by
 cases draw with
 |false=>exact wp_region_list (by rw[<-hl];exact akY hT g h ho r hq)
 |true=>
  obtain⟨R,r1,r2,r3⟩:=ahf hl (by simpa using hp);refine wp_region_any hm (aaz hT g hq gZ.size (Array.replicate gZ.size false) R σ a w.drew L r2 aH r3 (λx hx=>ho x.2 ?_) (by rw[r1];exact h) r.drew);rw[<-r1];exact cX.2 ⟨x,hx,rfl⟩
def Y5{c:Code}{t:Tr P K}{k:Ex->PS->Tr P K->R}(h:(KR c σ t k).ok):Sp P K c σ (λe τ=>∃ t',(k e τ t').ok):=by
 unfold KR at h;split at h
 .obtain ⟨h1,h2,h3⟩:=Za h;exact Sp.pre h1 (h2.mono λe τ ⟨q1,q2⟩=>by subst q1 q2;exact⟨_,h3⟩)
 .exact h.elim
def Ex.ak6{a b:Ex}(h:Ex.qE a b=true):a=b:=by
 cases a<;>cases b<;>first|rfl|(cases h;done)|exact congrArg Ex.exit (kO.1 h)
def SG{e e':Ex}{τ υ:PS}{t:Tr P K}(h:(FH e τ e' υ t).ok):e'=e/\PS.le υ τ:=by
 unfold FH at h;split at h
 .rename_i he;exact⟨Ex.ak6 he,(Za h).1⟩
 .exact h.elim
def VC{c:Code}{cb:Nat}{g:PS->Tr P K->(Ex->PS->Tr P K->R)->R}(hg:∀ σ t k,(g σ t k).ok->Sp P K c σ (λe τ=>∃ t',(k e τ t').ok)){σ:PS}{t:Tr P K}{k:Ex->PS->Tr P K->R}(h:(jn cb g σ t k).ok):
 Sp P K c σ (λe τ=>∃ t',(k e τ t').ok):=by
 unfold jn at h;split at h
 .rename_i c' τ tj t;split at h
  .refine (hg _ _ _ h.1).post λe υ ⟨t',ht⟩=>?_
   obtain⟨he,hl⟩:=SG ht;exact⟨τ,hl,t,by rw[he];exact h.2⟩
  .exact hg _ _ _ h
 .exact hg _ _ _ h
def th(P:Program)(K:World->Prop)(b:Code)(σ:PS)(Q:Ex->PS->Prop):Prop:=
 ∀ (w0:World) (B:Nat->Prop) (a:Act) (w:World) (L:Lk),Gd P K w0 B->iZ w0 B σ a w L->∀ bf k cs,
  ∃ e a' w',(∃ ex τ L',e=Ex.to ex/\Q ex τ/\iZ w0 B τ a' w' L')/\Arrives P (lone (bf.at a (.code b :: .inLoop b::k)) cs w) bf k cs e a' w'
def th.loop{b:Code}{σ:PS}{Q:Ex->PS->Prop}(h:th P K b σ Q):Sp P K (.loop b) σ Q:=by
 intro w0 B a w L g r bf k cs;obtain⟨e,a',w',hq,tz⟩:=h w0 B a w L g r bf k cs;exact⟨e,a',w',hq,.of_steps (.one step_loop) tz⟩
def th.pre{b:Code}{σ τ:PS}{Q:Ex->PS->Prop}(h:PS.le σ τ)(k:th P K b τ Q):th P K b σ Q:=λw0 B a w L g r=>
 let⟨L',r'⟩:=h w0 B a w L (λb hb=>(g.hB b hb).1) r;k w0 B a w L' g r'
def th.step{b:Code}{σ:PS}{Q:Ex->PS->Prop}(h:Sp P K b σ (λe τ=>(e = .normal/\th P K b τ Q)\/(e ≠ .normal/\Q e τ))):th P K b σ Q:=by
 intro w0 B a w L g r bf k cs;obtain⟨e,a₁,w₁,⟨ex,υ,L2,rfl,hq,nR⟩,tz⟩:=h w0 B a w L g r bf (.inLoop b::k) cs;rcases hq with⟨rfl,hs⟩|⟨jl,hq⟩
 .obtain ⟨e₂,a₂,w₂,Np,MV⟩:=hs w0 B a₁ w₁ L2 g nR bf k cs;exact⟨e₂,a₂,w₂,Np,.of_steps (Steps.trans tz (.one step_inLoop)) MV⟩
 .cases ex with
  |normal=>exact absurd rfl jl
  |exit i=>exact⟨_,a₁,w₁,⟨.exit i,υ,L2,rfl,hq,nR⟩,.pass (x:=.inLoop b) rfl (λ_ _=>.inl (by simp[Ex.to])) tz⟩
  |ret=>exact⟨_,a₁,w₁,⟨.ret,υ,L2,rfl,hq,nR⟩,.pass (x:=.inLoop b) rfl (λ_ _=>.inl (by simp[Ex.to])) tz⟩
def Mk{id : Nat} : ∀ {k k' : List Item},exitTo id k=some k'->k'.length<=k.length
  | [],_,h => by simp[exitTo]at h
  |x::k,k',h => by
    cases x
    all_goals
      simp only[exitTo]at h
      first
        | (have := Mk h;simp only[cQ];omega)
        | (split at h
           . cases h;simp
           . have := Mk h;simp only[cQ];omega)
def Steps.LG{m m1 m':Machine}(hs:step P m = .next m1)(jl:m≠m')(h:Steps P m m'):Steps P m1 m':=by
 obtain⟨n,hn⟩:=h;cases n with
 |zero=>simp only[runN,Stepped.next.injEq]at hn;exact absurd hn jl
 |succ n=>exact⟨n,by simpa only[runN,hs]using hn⟩
def th.ait{b:Code}{σ:PS}{Q:Ex->PS->Prop}(h:Sp P K (.loop b) σ Q):th P K b σ Q:=by
 intro w0 B a w L g r bf k cs;obtain⟨e,a',w',⟨ex,τ,L',rfl,hq,hr⟩,tz⟩:=h w0 B a w L g r bf k cs;have todo:∀ (f g:Frame) (w w':World),lone f cs w=lone g cs w'->f.todo=g.todo:=λf g w w' e=>by
  have e1:=congrArg Machine.gs e;simp only[lone,Array.mk.injEq,List.cons.injEq,fw]at e1;injection e1 with e2;rw[e2]
 have ne:∀ (a₁:Act) (k₁:List Item) (w₁:World),k₁.length<=k.length->lone (bf.at a (.code (.loop b)::k)) cs w≠lone (bf.at a₁ k₁) cs w₁:=λa₁ k₁ w₁ hk e=>by
  have:=congrArg List.length (todo _ _ _ _ e);simp[Frame.at]at this;omega
 refine⟨_,a',w',⟨ex,τ,L',rfl,hq,hr⟩,?_⟩;cases ex with
 |normal=>exact Steps.LG step_loop (ne _ _ _ (bg _)) tz
 |exit i=>exact λk' hk=>Steps.LG step_loop (ne _ _ _ (Mk hk)) (tz k' hk)
 |ret=>
  obtain⟨td,hs⟩:=tz;refine⟨td,Steps.LG step_loop (λe=>?_) hs⟩;have e1:=congrArg Machine.gs e;simp only[lone,Array.mk.injEq,List.cons.injEq,fw]at e1;injection e1 with e2;have e3:=congrArg Frame.mode e2;simp[Frame.at]at e3
def Md(hT:mH P T)(hm:P.follows .mixedOrders=true){c:Code}{σ:PS}{t:Tr P K}{k:Ex->PS->Tr P K->R}(h:(vP T c σ t k).ok):Sp P K c σ (λe τ=>∃ t',(k e τ t').ok):=by
 induction c generalizing σ t k with
 |skip=>exact λw0 B a w L g r=>wp_skip ⟨.normal,_,L,rfl,⟨t,h⟩,r⟩
 |region id gZ d=>
  obtain⟨vs,τ,t',h1,h2,h3,h4⟩:=aiL h;split at h4
  .rename_i hp;simp only[fS,List.reverse_reverse]at hp;exact λw0 B a w L g r=>aj6 hT hm g h1 h2 h3 hp r λa' w' L' hr=>⟨.normal,τ,L',rfl,⟨t',h4⟩,hr⟩
  .exact h4.elim
 |seq x y NF NG=>
  intro w0 B a w L g r;refine wp_seq (Code.wp_mono ?_ (NF h w0 B a w L g r));rintro ex a' w' ⟨e1,τ1,L',rfl,⟨t',ht⟩,hr⟩;cases e1 with
  |normal=>exact NG ht w0 B a' w' L' g hr
  |exit i=>exact⟨.exit i,τ1,L',rfl,⟨t',ht⟩,hr⟩
  |ret=>exact⟨.ret,τ1,L',rfl,⟨t',ht⟩,hr⟩
 |cond c x y NF NG=>
  obtain⟨t1,τ,hle,h1⟩:=C5 h;refine Sp.pre hle (VC (λσ t k h=>?_) h1);obtain⟨t1,τ,hle,h1⟩:=C5 h;refine Sp.pre hle ?_;split at h1
  .rename_i hc;intro w0 B a w L g r;have hv:=r.op c;rw[hc]at hv;exact wp_cond_true (iC.kC hv) (NF h1 w0 B a w L g r)
  .rename_i hc;intro w0 B a w L g r;have hv:=r.op c;rw[hc]at hv;exact wp_cond_false (iC.kC hv) (NG h1 w0 B a w L g r)
  .exact h1.elim
 |block id b ih=>
  obtain⟨t1,τ,hle,h1⟩:=C5 h;refine Sp.pre hle (VC (λσ t k h=>?_) h1);intro w0 B a w L g r;refine wp_block (Code.wp_mono ?_ (ih h w0 B a w L g r));rintro ex a' w' ⟨e1,τ1,L',rfl,⟨t',ht⟩,hr⟩;cases e1 with
  |normal=>exact⟨.normal,_,L',rfl,⟨t',ht⟩,hr⟩
  |ret=>exact⟨.ret,_,L',rfl,⟨t',ht⟩,hr⟩
  |exit i=>
   simp only at ht;show Exit.inBlock id _ (.exit i) a' w';split at ht
   .rename_i hi;have hi:=kO.1 hi;subst hi;simp only[Exit.inBlock,bB];exact⟨.normal,_,L',rfl,⟨t',ht⟩,hr⟩
   .rename_i hi;have hi:i≠id:=λe=>hi (kO.2 e)
    simp only[Exit.inBlock,hi,bn];exact⟨.exit i,_,L',rfl,⟨t',ht⟩,hr⟩
 |label l=>exact λw0 B a w L g r=>wp_label ⟨.normal,_,L,rfl,⟨t,h⟩,r⟩
 |scope b ih=>
  intro w0 B a w L g r;refine wp_scope_straight (Code.wp_mono ?_ (ih h w0 B a w L g r));rintro ex a' w' ⟨e1,τ1,L',rfl,⟨t',ht⟩,hr⟩;cases e1 with
  |normal=>exact⟨.normal,τ1,L',rfl,⟨t',ht⟩,hr⟩
  |ret=>exact⟨.ret,τ1,L',rfl,⟨t',ht⟩,hr⟩
  |exit i=>exact⟨.exit i,τ1,L',rfl,⟨t',ht⟩,hr⟩
 |exit id=>
  obtain⟨t1,τ,hle,h1⟩:=C5 h;exact Sp.pre hle λw0 B a w L g r=>wp_exit ⟨.exit id,_,L,rfl,⟨t1,h1⟩,r⟩
 |ret=>
  obtain⟨t1,τ,hle,h1⟩:=C5 h;exact Sp.pre hle λw0 B a w L g r=>wp_ret ⟨.ret,_,L,rfl,⟨t1,h1⟩,r⟩
 |loop b ih=>
  obtain⟨t1,τ,hle,h1⟩:=C5 h;refine Sp.pre hle ?_;split at h1
  .rename_i n t;clear hle h;refine th.loop ?_
   induction n generalizing τ t with
   |zero=>exact h1.elim
   |succ n ihn=>
    obtain⟨t2,τ2,hle,h1⟩:=C5 h1;split at h1
    .exact th.pre hle (th.ait (Y5 h1))
    refine th.pre hle (th.step ((ih h1).mono λe υ ⟨t',ht⟩=>?_));cases e with
    |normal=>exact .inl ⟨rfl,ihn _ _ ht⟩
    |exit i=>exact .inr ⟨aH,t',ht⟩
    |ret=>exact .inr ⟨aH,t',ht⟩
  .exact Y5 h1
 |_=>exact h.elim
def Sp.tr(hT:mH P T)(hm:P.follows .mixedOrders=true){c:Code}{σ τ:PS}{e:Ex}(t:Tr P K)(h:vP T c σ t (FH e τ)=t.ex λt=>ET τ t .nil):
 Sp P K c σ (λe' τ'=>e'=e/\τ'=τ):=by
 have hk:=Tr.Mj (fin:=λt=>ET τ t .nil) (λt=>PE trivial) t;rw[<-h]at hk;refine(Md hT hm hk).post λe' υ ⟨t',ht⟩=>?_
 obtain⟨he,hl⟩:=SG ht;exact⟨τ,hl,he,rfl⟩
def S7(T:List TI)(fn:Func)(jQ:E)(e:Ex)(τ:PS)(_:Tr P K):R:=match e with
 | .exit _=>.iS
 |_=>match KD T fn τ with
  |some r=>.a (E.le r jQ) .nil
  |none=>.iS
def OZ(T:List TI)(fn:Func)(nl:Bool)(args:List E)(jQ:E)(t:Tr P K):R:=match fn.body with
 |some c=>if Nat.ble args.length fn.ntmps then vP T c (Bi fn nl args) t (S7 T fn jQ)else .iS
 |none=>.iS
def PC.PR(hT:mH P T)(hm:P.follows .mixedOrders=true)(hp:∀ w w',K w->Below w.heap.size w w'->K w'){f:FuncId}{fn:Func}{args:List E}{jQ:E}(wX:∀ (vs:Array Value) (w:World),(callFunc f vs).run P w = .ok (.enter f vs) w)
 (hf:P.funcs[f]? = some fn) (nl:Bool) (t:Tr P K) (h:OZ T fn nl args jQ t=t.ex λ_=>.a (E.le jQ jQ) .nil):PC P K f args jQ:=by
 have hk:=Tr.Mj (fin:=λ_=>.a (E.le jQ jQ) .nil) (λt=>⟨E.le.refl jQ,trivial⟩) t;rw[<-h]at hk;unfold OZ at hk;split at hk
 .rename_i c hb;split at hk
  .rename_i hn;refine PC.Oa hT hm hp wX hf hb (cG hn) nl ((Md hT hm hk).mono λe τ ⟨t',ht⟩=>?_);unfold S7 at ht;split at ht
   .exact ht.elim
   .rename_i jl;split at ht
    .rename_i r hr;refine⟨?_,r,hr,ht.1⟩;cases e with
     |normal=>exact .inr rfl
     |ret=>exact .inl rfl
     |exit i=>exact absurd rfl (jl i)
    .exact ht.elim
  .exact hk.elim
 .exact hk.elim
def S6(fn:Func)(b:Bx)(e:Ex)(τ:PS)(_:Tr P K):R:=match e with
 | .exit _=>.iS
 |_=>match fn.results.toList with
  | [.tmp t]=>match τ.get t with
   | .own id=>match τ.bo id with
    |some c=>.a (Bx.le c b) .nil
    |none=>.iS
   |_=>.iS
  |_=>.iS
def OY(T:List TI)(fn:Func)(args:List E)(b:Bx)(t:Tr P K):R:=match fn.body with
 |some c=>if Nat.ble args.length fn.ntmps then vP T c (Bi fn true args) t (S6 fn b)else .iS
 |none=>.iS
def tW.PR(hT:mH P T)(hm:P.follows .mixedOrders=true)(hp:∀ w w',K w->Below w.heap.size w w'->K w'){f:FuncId}{fn:Func}{args:List E}{nl:Bool}{T0:TypeId}{n sz:Nat}{el:Nat->Nat->E}(wX:∀ (vs:Array Value) (w:World),(callFunc f vs).run P w = .ok (.enter f vs) w)
 (hf:P.funcs[f]? = some fn) (t:Tr P K) (h:OY T fn args (.row nl T0 n sz el) t=t.ex λ_=>.a (Bx.le (.row nl T0 n sz el) (.row nl T0 n sz el)) .nil):tW P K f args nl T0 n sz el:=by
 have hk:=Tr.Mj (fin:=λ_=>.a (Bx.le (.row nl T0 n sz el) (.row nl T0 n sz el)) .nil) (λt=>⟨Bx.le.refl _,trivial⟩) t;rw[<-h]at hk;unfold OY at hk;split at hk
 .rename_i c hb;split at hk
  .rename_i hn;refine tW.Oa hT hm hp wX hf hb (cG hn) true ((Md hT hm hk).mono λe τ ⟨t',ht⟩=>?_);unfold S6 at ht;split at ht
   .exact ht.elim
   .rename_i jl;split at ht
    .rename_i t0 hr;split at ht
     .rename_i id hg;split at ht
      .rename_i c' hc;refine⟨?_,t0,id,c',hr,hg,hc,λbs br L w hk=>ht.1.2 _ _ _ _ _ hk⟩;cases e with
       |normal=>exact .inr rfl
       |ret=>exact .inl rfl
       |exit i=>exact absurd rfl (jl i)
      .exact ht.elim
     .exact ht.elim
    .exact ht.elim
  .exact hk.elim
 .exact hk.elim
def Sp.jC{b:Code}{e:Ex}{τ:PS}(f:Nat->PS)(lo hi:Nat)(h0:lo<=hi)(go:∀ x,(lo<=x/\x<=hi)->x<hi->Sp P K b (f x) (λe' υ=>e' = .normal/\υ=f (x+1)))
 (out:(lo<=hi/\hi<=hi)->Sp P K b (f hi) (λe' υ=>e'=e/\υ=τ)) (he:e ≠ .normal):Sp P K (.loop b) (f lo) (λe' υ=>e'=e/\υ=τ):=by
 refine Sp.fam f (λx=>lo<=x/\x<=hi) (λx=>hi-x) (λx hx=>?_) lo ⟨bg _,h0⟩ (PS.le.refl _);rcases Nat.lt_or_eq_of_le hx.2 with iB|heq
 .exact Sp.aec (x+1) (go x hx iB) ⟨aC,aC⟩ aC (PS.le.refl _)
 .subst heq;exact Sp.aed (out hx) he (PS.le.refl _)
def iz(z:Int)(h:-9223372036854775808<=z/\z<=9223372036854775807):Tr P K->Tr P K:=.a (p:=kA .i64 z) h
def BF(z:Int)(h:0<=z/\z<=18446744073709551615):Tr P K->Tr P K:=.a (p:=kA .u64 z) h
def iX(z:Int)(n:Nat)(h:0<=z/\z<n):Tr P K->Tr P K:=.a h
def tB(d:Nat){a b:Bool}(h:a=b):Tr P K->Tr P K:=.o d (PV.le.bool h)
def ah(d:Nat)(a:Bool)(h:a=true):Tr P K->Tr P K:=tB d h
def ai(d:Nat)(a:Bool)(h:a=false):Tr P K->Tr P K:=tB d h
def tT(d:Nat)(p:Prop)[Decidable p](h:p):Tr P K->Tr P K:=.o d (PV.le.bool (a7 h))
def tF(d:Nat)(p:Prop)[Decidable p](h:¬p):Tr P K->Tr P K:=.o d (PV.le.bool (bc h))
def rQ(p q:E)(h:p=q):Tr P K:=.r (E.le.iT h)
def rR(q:E){p:E}(h:E.le p q):Tr P K:=.r h
def ae(l:List (Tr P K->Tr P K))(t:Tr P K):Tr P K:=l.foldr (λf t=>f t) t
def af(l:List (Tr P K->Tr P K)):Tr P K:=ae l .nil
end
end Go.Proofs.YtgdahmmlddfimaaGreatDoor.Pu
namespace Go.Proofs.YtgdahmmlddfimaaGreatDoor
open Go.RowKit Fp Pu
def tr(nl:Bool){f:FuncId}{fn:Func}{args:List E}{jQ:E}(wX:∀ (vs:Array Value) (w:World),(callFunc f vs).run prog w = .ok (.enter f vs) w)
 (hf:prog.funcs[f]? = some fn) (t:Tr prog Tb) (h:OZ TT fn nl args jQ t=t.ex λ_=>.a (E.le jQ jQ) .nil):gW f args jQ:=
 PC.PR Lt mixed Ql wX hf nl t h
def ag(args:List E){f:FuncId}{ko:E}(h:gW f args ko):Tr prog Tb->Tr prog Tb:=.c h
def ak{f:FuncId}{fn:Func}{args:List E}{jQ:E}(wX:∀ (vs:Array Value) (w:World),(callFunc f vs).run prog w = .ok (.enter f vs) w)
 (hf:prog.funcs[f]? = some fn) (t:Tr prog Tb) (h:OZ TT fn true args jQ t=t.ex λ_=>.a (E.le jQ jQ) .nil:=by kernel_rfl):gW f args jQ:=tr true wX hf t h
def an{f:FuncId}{fn:Func}{args:List E}{jQ:E}(wX:∀ (vs:Array Value) (w:World),(callFunc f vs).run prog w = .ok (.enter f vs) w)
 (hf:prog.funcs[f]? = some fn) (t:Tr prog Tb) (h:OZ TT fn false args jQ t=t.ex λ_=>.a (E.le jQ jQ) .nil:=by kernel_rfl):gW f args jQ:=tr false wX hf t h
def iF{c:Code}{σ τ:PS}{e:Ex}(t:Tr prog Tb)(h:vP TT c σ t (FH e τ)=t.ex λt=>ET τ t .nil):
 Sp prog Tb c σ (λe' τ'=>e'=e/\τ'=τ):=Sp.tr Lt mixed t h
abbrev jA(k:Nat)(fn:Func)(σ:PS)(e:Ex)(τ:PS):Prop:=Sp prog Tb (.loop (abz k fn)) σ (λe' τ'=>e'=e/\τ'=τ)
def Ve(nl:Bool)(n N:Nat)(el:Nat->Nat->E)(g:FuncId)(cap:List E)(i:Nat):PS:=⟨19,false,[(8,.e (iP i)),(7,.e (iP n)),(0,.e (.sl nl n 1 el)),(1,.e (.fn g cap))],[]⟩
def Vd(nl:Bool)(n:Nat)(el:Nat->Nat->E)(g:FuncId)(cap:List E)(i:Nat):PS:=⟨19,false,[(8,.e (iP i)),(7,.e (iP n)),(0,.e (.sl nl n 1 el)),(1,.e (.fn g cap))],[]⟩
def VP(nl:Bool)(n:Nat)(el:Nat->Nat->E)(g:FuncId)(cap:List E)(i:Nat):PS:=⟨19,false,[(8,.e (iP i)),(7,.e (iP n)),(0,.e (.sl nl n 1 el)),(1,.e (.fn g cap))],[]⟩
def Vr(nl:Bool)(n N:Nat)(el:Nat->Nat->E)(g:FuncId)(cap:List E)(i:Nat):PS:=⟨19,false,[(8,.e (iP i)),(7,.e (iP n)),(0,.e (.sl nl n 7 el)),(1,.e (.fn g cap))],[]⟩
def Vq(nl:Bool)(n:Nat)(el:Nat->Nat->E)(g:FuncId)(cap:List E)(i:Nat):PS:=⟨19,false,[(8,.e (iP i)),(7,.e (iP n)),(0,.e (.sl nl n 7 el)),(1,.e (.fn g cap))],[]⟩
def X3(nl:Bool)(n N:Nat)(el:Nat->Nat->E)(g:FuncId)(cap:List E)(i:Nat):PS:=⟨19,false,[(8,.e (iP i)),(7,.e (iP n)),(0,.e (.sl nl n 1 el)),(1,.e (.fn g cap))],[]⟩
def X2(nl:Bool)(n:Nat)(el:Nat->Nat->E)(g:FuncId)(cap:List E)(i:Nat):PS:=⟨19,false,[(8,.e (iP i)),(7,.e (iP n)),(0,.e (.sl nl n 1 el)),(1,.e (.fn g cap))],[]⟩
def rh{p:Nat->Bool}{n:Nat}(h:∃ i,i<n/\p i=true):∃ N,N<n/\p N=true/\∀ i,i<N->p i=false:=by
 induction n with
 |zero=>obtain⟨i,h1,_⟩:=h;omega
 |succ n ih=>
  by_cases hn:∃ i,i<n/\p i=true
  .obtain ⟨N,h1,h2,h3⟩:=ih hn;exact⟨N,aC,h2,h3⟩
  .obtain ⟨i,h1,h2⟩:=h;have:i=n:=by
    by_cases q:i=n
    .exact q
    .exact absurd ⟨i,aC,h2⟩ hn
   subst this;exact⟨i,h1,h2,λj hj=>by simpa using λq=>hn ⟨j,hj,q⟩⟩
def agB(nl:Bool)(n:Nat)(el:Nat->Nat->E)(g:FuncId)(cap:List E)(p:Nat->Bool)(hp:∀ i,i<n->gW g ((el i 0)::cap) (bP (p i)))(N:Nat)(hl:n<=1000000)(mQ:N<n)(je:∀ i,i<N->p i=false)(hN:p N=true):gW 154 [.sl nl n 1 el,.fn g cap] (iP N):=
 an call154 func154 (af [.s (Sp.jC (Ve nl n N el g cap) 0 N aC (λi hi nQ=>by
    exact iF (af [tT 9 ((i:Int)<n) aC,iX (i:Int) n aC,.c (hp i aC:gW g ((el i 0)::cap) _),ai 16 (p i) (je i aC),iz ((i:Int)+1) aC]) aF)
  (λhi=>by
    exact iF (af [tT 9 ((N:Int)<n) aC,iX (N:Int) n aC,.c (hp N aC:gW g ((el N 0)::cap) _),ah 16 (p N) hN]) aF) aI:jA 2 f154 (Ve nl n N el g cap 0) .ret ⟨19,false,[(4,.e (iP N))],[]⟩) .nil]) 
def agD(nl:Bool)(n:Nat)(el:Nat->Nat->E)(g:FuncId)(cap:List E)(p:Nat->Bool)(hp:∀ i,i<n->gW g ((el i 0)::cap) (bP (p i)))(hl:n<=1000000)(je:∀ i,i<n->p i=false):gW 154 [.sl nl n 1 el,.fn g cap] (iP (-1)):=
 an call154 func154 (af [.s (Sp.jC (Vd nl n el g cap) 0 n aC (λi hi nQ=>by
    exact iF (af [tT 9 ((i:Int)<n) aC,iX (i:Int) n aC,.c (hp i aC:gW g ((el i 0)::cap) _),ai 16 (p i) (je i aC),iz ((i:Int)+1) aC]) aF)
  (λhi=>by
    exact iF (af [tF 9 ((n:Int)<n) aC]) aF) aI:jA 2 f154 (Vd nl n el g cap 0) (.exit 0) ⟨19,false,[],[]⟩) .nil]) 
def agC(nl:Bool)(n:Nat)(el:Nat->Nat->E)(g:FuncId)(cap:List E)(p:Nat->Bool)(hp:∀ i,i<n->gW g ((el i 0)::cap) (bP (p i)))(N:Nat)(hl:n<=1000000)(mQ:N<n)(je:∀ i,i<N->p i=false)(hN:p N=true):gW 67 [.sl nl n 1 el,.fn g cap] (bP true):=
 an call67 func67 (af [ag [.sl nl n 1 el,.fn g cap] (agB nl n el g cap p hp N hl mQ je hN),tT 8 (0<=(N:Int)) aC]) 
def NK(nl:Bool)(n:Nat)(el:Nat->Nat->E)(g:FuncId)(cap:List E)(p:Nat->Bool)(hp:∀ i,i<n->gW g ((el i 0)::cap) (bP (p i)))(hl:n<=1000000)(je:∀ i,i<n->p i=false):gW 67 [.sl nl n 1 el,.fn g cap] (bP false):=
 an call67 func67 (af [ag [.sl nl n 1 el,.fn g cap] (agD nl n el g cap p hp hl je),ai 8 (decide ((0:Int)<=(-1))) aE]) 
def agA(nl:Bool)(n:Nat)(el:Nat->Nat->E)(g:FuncId)(cap:List E)(p:Nat->Bool)(hp:∀ i,i<n->gW g ((el i 0)::cap) (bP (p i)))(hl:n<=1000000):gW 67 [.sl nl n 1 el,.fn g cap] (bP ((List.range n).any p)):=by
 by_cases h:∃ i,i<n/\p i=true
 .obtain ⟨N,h1,h2,h3⟩:∃ N,N<n/\p N=true/\∀ i,i<N->p i=false:=rh h;refine(agC nl n el g cap p hp N hl h1 h3 h2).jQ (.iT ?_);rw[dz.2 ⟨N,bS.2 h1,h2⟩]
 .refine (NK nl n el g cap p hp hl λi hi=>by simpa using λq=>h ⟨i,hi,q⟩).jQ (.iT ?_);rw[cK.2 λi hi q=>h ⟨i,bS.1 hi,q⟩]
def ahq(nl:Bool)(n:Nat)(el:Nat->Nat->E)(g:FuncId)(cap:List E)(p:Nat->Bool)(hp:∀ i,i<n->gW g ((el i 0)::cap) (bP (p i)))(hl:n<=1000000)(je:∀ i,i<n->p i=false):gW 302 [.sl nl n 1 el,.fn g cap] (iP (-1)):=
 an call302 func302 (af [.s (Sp.jC (VP nl n el g cap) 0 n aC (λi hi nQ=>by
    exact iF (af [tT 9 ((i:Int)<n) aC,iX (i:Int) n aC,.c (hp i aC:gW g ((el i 0)::cap) _),ai 16 (p i) (je i aC),iz ((i:Int)+1) aC]) aF)
  (λhi=>by
    exact iF (af [tF 9 ((n:Int)<n) aC]) aF) aI:jA 2 f302 (VP nl n el g cap 0) (.exit 0) ⟨19,false,[],[]⟩) .nil]) 
def VR(nl:Bool)(n:Nat)(el:Nat->Nat->E)(g:FuncId)(cap:List E)(p:Nat->Bool)(hp:∀ i,i<n->gW g ((el i 0)::cap) (bP (p i)))(hl:n<=1000000)(je:∀ i,i<n->p i=false):gW 267 [.sl nl n 1 el,.fn g cap] (bP false):=
 an call267 func267 (af [ag [.sl nl n 1 el,.fn g cap] (ahq nl n el g cap p hp hl je),ai 8 (decide ((0:Int)<=(-1))) aE]) 
def agW(nl:Bool)(n:Nat)(el:Nat->Nat->E)(g:FuncId)(cap:List E)(p:Nat->Bool)(hp:∀ i,i<n->gW g ((.agg [el i 0,el i 1,el i 2,el i 3,el i 4,el i 5,el i 6])::cap) (bP (p i)))(N:Nat)(hl:n<=1000000)(mQ:N<n)(je:∀ i,i<N->p i=false)(hN:p N=true):gW 130 [.sl nl n 7 el,.fn g cap] (iP N):=
 an call130 func130 (af [.s (Sp.jC (Vr nl n N el g cap) 0 N aC (λi hi nQ=>by
    exact iF (af [tT 9 ((i:Int)<n) aC,iX (i:Int) n aC,.c (hp i aC:gW g ((.agg [el i 0,el i 1,el i 2,el i 3,el i 4,el i 5,el i 6])::cap) _),ai 16 (p i) (je i aC),iz ((i:Int)+1) aC]) aF)
  (λhi=>by
    exact iF (af [tT 9 ((N:Int)<n) aC,iX (N:Int) n aC,.c (hp N aC:gW g ((.agg [el N 0,el N 1,el N 2,el N 3,el N 4,el N 5,el N 6])::cap) _),ah 16 (p N) hN]) aF) aI:jA 2 f130 (Vr nl n N el g cap 0) .ret ⟨19,false,[(4,.e (iP N))],[]⟩) .nil]) 
def agY(nl:Bool)(n:Nat)(el:Nat->Nat->E)(g:FuncId)(cap:List E)(p:Nat->Bool)(hp:∀ i,i<n->gW g ((.agg [el i 0,el i 1,el i 2,el i 3,el i 4,el i 5,el i 6])::cap) (bP (p i)))(hl:n<=1000000)(je:∀ i,i<n->p i=false):gW 130 [.sl nl n 7 el,.fn g cap] (iP (-1)):=
 an call130 func130 (af [.s (Sp.jC (Vq nl n el g cap) 0 n aC (λi hi nQ=>by
    exact iF (af [tT 9 ((i:Int)<n) aC,iX (i:Int) n aC,.c (hp i aC:gW g ((.agg [el i 0,el i 1,el i 2,el i 3,el i 4,el i 5,el i 6])::cap) _),ai 16 (p i) (je i aC),iz ((i:Int)+1) aC]) aF)
  (λhi=>by
    exact iF (af [tF 9 ((n:Int)<n) aC]) aF) aI:jA 2 f130 (Vq nl n el g cap 0) (.exit 0) ⟨19,false,[],[]⟩) .nil]) 
def agX(nl:Bool)(n:Nat)(el:Nat->Nat->E)(g:FuncId)(cap:List E)(p:Nat->Bool)(hp:∀ i,i<n->gW g ((.agg [el i 0,el i 1,el i 2,el i 3,el i 4,el i 5,el i 6])::cap) (bP (p i)))(N:Nat)(hl:n<=1000000)(mQ:N<n)(je:∀ i,i<N->p i=false)(hN:p N=true):gW 53 [.sl nl n 7 el,.fn g cap] (bP true):=
 an call53 func53 (af [ag [.sl nl n 7 el,.fn g cap] (agW nl n el g cap p hp N hl mQ je hN),tT 8 (0<=(N:Int)) aC]) 
def CL(nl:Bool)(n:Nat)(el:Nat->Nat->E)(g:FuncId)(cap:List E)(p:Nat->Bool)(hp:∀ i,i<n->gW g ((.agg [el i 0,el i 1,el i 2,el i 3,el i 4,el i 5,el i 6])::cap) (bP (p i)))(hl:n<=1000000)(je:∀ i,i<n->p i=false):gW 53 [.sl nl n 7 el,.fn g cap] (bP false):=
 an call53 func53 (af [ag [.sl nl n 7 el,.fn g cap] (agY nl n el g cap p hp hl je),ai 8 (decide ((0:Int)<=(-1))) aE]) 
def JZ(nl:Bool)(n:Nat)(el:Nat->Nat->E)(g:FuncId)(cap:List E)(p:Nat->Bool)(hp:∀ i,i<n->gW g ((.agg [el i 0,el i 1,el i 2,el i 3,el i 4,el i 5,el i 6])::cap) (bP (p i)))(hl:n<=1000000):gW 53 [.sl nl n 7 el,.fn g cap] (bP ((List.range n).any p)):=by
 by_cases h:∃ i,i<n/\p i=true
 .obtain ⟨N,h1,h2,h3⟩:∃ N,N<n/\p N=true/\∀ i,i<N->p i=false:=rh h;refine(agX nl n el g cap p hp N hl h1 h3 h2).jQ (.iT ?_);rw[dz.2 ⟨N,bS.2 h1,h2⟩]
 .refine (CL nl n el g cap p hp hl λi hi=>by simpa using λq=>h ⟨i,hi,q⟩).jQ (.iT ?_);rw[cK.2 λi hi q=>h ⟨i,bS.1 hi,q⟩]
def akr(nl:Bool)(n:Nat)(el:Nat->Nat->E)(g:FuncId)(cap:List E)(p:Nat->Bool)(hp:∀ i,i<n->gW g ((el i 0)::cap) (bP (p i)))(N:Nat)(hl:n<=1000000)(mQ:N<n)(je:∀ i,i<N->p i=false)(hN:p N=true):gW 128 [.sl nl n 1 el,.fn g cap] (iP N):=
 an call128 func128 (af [.s (Sp.jC (X3 nl n N el g cap) 0 N aC (λi hi nQ=>by
    exact iF (af [tT 9 ((i:Int)<n) aC,iX (i:Int) n aC,.c (hp i aC:gW g ((el i 0)::cap) _),ai 16 (p i) (je i aC),iz ((i:Int)+1) aC]) aF)
  (λhi=>by
    exact iF (af [tT 9 ((N:Int)<n) aC,iX (N:Int) n aC,.c (hp N aC:gW g ((el N 0)::cap) _),ah 16 (p N) hN]) aF) aI:jA 2 f128 (X3 nl n N el g cap 0) .ret ⟨19,false,[(4,.e (iP N))],[]⟩) .nil]) 
def akw(nl:Bool)(n:Nat)(el:Nat->Nat->E)(g:FuncId)(cap:List E)(p:Nat->Bool)(hp:∀ i,i<n->gW g ((el i 0)::cap) (bP (p i)))(hl:n<=1000000)(je:∀ i,i<n->p i=false):gW 128 [.sl nl n 1 el,.fn g cap] (iP (-1)):=
 an call128 func128 (af [.s (Sp.jC (X2 nl n el g cap) 0 n aC (λi hi nQ=>by
    exact iF (af [tT 9 ((i:Int)<n) aC,iX (i:Int) n aC,.c (hp i aC:gW g ((el i 0)::cap) _),ai 16 (p i) (je i aC),iz ((i:Int)+1) aC]) aF)
  (λhi=>by
    exact iF (af [tF 9 ((n:Int)<n) aC]) aF) aI:jA 2 f128 (X2 nl n el g cap 0) (.exit 0) ⟨19,false,[],[]⟩) .nil]) 
def aku(nl:Bool)(n:Nat)(el:Nat->Nat->E)(g:FuncId)(cap:List E)(p:Nat->Bool)(hp:∀ i,i<n->gW g ((el i 0)::cap) (bP (p i)))(N:Nat)(hl:n<=1000000)(mQ:N<n)(je:∀ i,i<N->p i=false)(hN:p N=true):gW 50 [.sl nl n 1 el,.fn g cap] (bP true):=
 an call50 func50 (af [ag [.sl nl n 1 el,.fn g cap] (akr nl n el g cap p hp N hl mQ je hN),tT 8 (0<=(N:Int)) aC]) 
def KI(nl:Bool)(n:Nat)(el:Nat->Nat->E)(g:FuncId)(cap:List E)(p:Nat->Bool)(hp:∀ i,i<n->gW g ((el i 0)::cap) (bP (p i)))(hl:n<=1000000)(je:∀ i,i<n->p i=false):gW 50 [.sl nl n 1 el,.fn g cap] (bP false):=
 an call50 func50 (af [ag [.sl nl n 1 el,.fn g cap] (akw nl n el g cap p hp hl je),ai 8 (decide ((0:Int)<=(-1))) aE]) 
def X4(nl:Bool)(n:Nat)(el:Nat->Nat->E)(g:FuncId)(cap:List E)(p:Nat->Bool)(hp:∀ i,i<n->gW g ((el i 0)::cap) (bP (p i)))(hl:n<=1000000):gW 50 [.sl nl n 1 el,.fn g cap] (bP ((List.range n).any p)):=by
 by_cases h:∃ i,i<n/\p i=true
 .obtain ⟨N,h1,h2,h3⟩:∃ N,N<n/\p N=true/\∀ i,i<N->p i=false:=rh h;refine(aku nl n el g cap p hp N hl h1 h3 h2).jQ (.iT ?_);rw[dz.2 ⟨N,bS.2 h1,h2⟩]
 .refine (KI nl n el g cap p hp hl λi hi=>by simpa using λq=>h ⟨i,hi,q⟩).jQ (.iT ?_);rw[cK.2 λi hi q=>h ⟨i,bS.1 hi,q⟩]
def Wl(a b:List Nat)(x:Nat):PS:=⟨67,false,[(20,.e (iP x)),(19,.e (iP a.length)),(18,.e (ic a)),(5,.own 17),(1,.e (ic b))],[(17,.row false 171 (a.length+b.length) 1 (qp (lN a b x)))]⟩
def Wm(a b:List Nat)(x:Nat)(k:Nat):PS:=⟨67,false,[(27,.e (iP k)),(26,.e (iP b.length)),(25,.e (ic b)),(8,.e (.v (.int .u64 (((nu (a.getD x 0) x b (lN a b x) k).2:Nat):Int)))),(7,.e (.v (.int .u32 (a.getD x 0:Int)))),(6,.e (iP x)),(20,.e (iP x)),(19,.e (iP a.length)),(18,.e (ic a)),(5,.own 17),(1,.e (ic b))],[(17,.row false 171 (a.length+b.length) 1 (qp ((nu (a.getD x 0) x b (lN a b x) k).1)))]⟩
def ah8(a b:List Nat)(ha:iN a)(hb:iN b)(h1:a.length<=3000)(h2:b.length<=3000):gW 269 [ic a,ic b] (ic (lN a b a.length)):=
 an call269 func269 (ae [iz ((a.length:Int)+b.length) aC,.a (aC:0<=(((a.length:Int)+b.length):Int)/\(((a.length:Int)+b.length):Int)<=(((a.length:Int)+b.length):Int)),.a (aC:((4:Nat):Int)*((a.length:Int)+b.length)<=281474976710656/\(((a.length:Int)+b.length):Int)<=9223372036854775807),.s (Sp.jC (Wl a b) 0 a.length aC (λx hx k0=>by
    have f1:=ha.getD x;have so:=GJ ha hb x aC;have g1:=so.len;have g2:=(GH f1 hb so.ok (i:=x) aC b.length aC).len;have g3:=(GH f1 hb so.ok (i:=x) aC b.length aC).lt;exact iF (ae [tT 21 ((x:Int)<a.length) aC,iX (x:Int) (a.length) aC,.s (Sp.jC (Wm a b x) 0 b.length aC (λk hk D7=>by
    have f2:=hb.getD k;have q:=GH f1 hb so.ok (i:=x) aC k aC;have f3:=q.ok.getD (x+k);have f4:=q.lt;have f5:=q.len;have f6:=Wo f1 f2;exact iF (ae [tT 28 ((k:Int)<b.length) aC,iX (k:Int) (b.length) aC,.o 33 (.int (sd _ aC):aj (.v (.int .u64 (IntKind.u64.wrap (a.getD x 0:Int)))) (.v (.int .u64 (a.getD x 0:Int)))),.o 35 (.int (sd _ aC):aj (.v (.int .u64 (IntKind.u64.wrap (b.getD k 0:Int)))) (.v (.int .u64 (b.getD k 0:Int)))),
     BF ((a.getD x 0:Int)*(b.getD k 0:Int)) aC,iz ((x:Int)+k) aC,iX ((x+k:Nat):Int) (a.length+b.length) aC,.a (aC:(x+k)<(a.length+b.length)),.o 43 (.int (sd _ aC):aj (.v (.int .u64 (IntKind.u64.wrap ((((nu (a.getD x 0) x b (lN a b x) k).1).getD (x+k) 0:Nat):Int)))) (.v (.int .u64 ((((nu (a.getD x 0) x b (lN a b x) k).1).getD (x+k) 0:Nat):Int)))),
     BF ((((a.getD x 0)*(b.getD k 0):Nat):Int)+((((nu (a.getD x 0) x b (lN a b x) k).1).getD (x+k) 0:Nat):Int)) aC,
     BF (((((a.getD x 0)*(b.getD k 0))+(((nu (a.getD x 0) x b (lN a b x) k).1).getD (x+k) 0):Nat):Int)+(((nu (a.getD x 0) x b (lN a b x) k).2:Nat):Int)) aC,
     iz ((x:Int)+k) aC,.o 52 (.int (E3 _):aj (.v (.int .u32 (IntKind.u32.wrap (((((a.getD x 0)*(b.getD k 0))+(((nu (a.getD x 0) x b (lN a b x) k).1).getD (x+k) 0))+(nu (a.getD x 0) x b (lN a b x) k).2:Nat):Int)))) (.v (.int .u32 ((((((a.getD x 0)*(b.getD k 0))+(((nu (a.getD x 0) x b (lN a b x) k).1).getD (x+k) 0))+(nu (a.getD x 0) x b (lN a b x) k).2)%4294967296:Nat):Int)))),.a (aC:0<=(32:Int)/\(32:Int)<=((64:Nat):Int)),.o 54 (.int (YX _):aj (.v (.int .u64 ((((((a.getD x 0)*(b.getD k 0))+(((nu (a.getD x 0) x b (lN a b x) k).1).getD (x+k) 0))+(nu (a.getD x 0) x b (lN a b x) k).2:Nat):Int)/2^32))) (.v (.int .u64 ((((((a.getD x 0)*(b.getD k 0))+(((nu (a.getD x 0) x b (lN a b x) k).1).getD (x+k) 0))+(nu (a.getD x 0) x b (lN a b x) k).2)/4294967296:Nat):Int)))),
     iX ((x+k:Nat):Int) (a.length+b.length) aC,.a (aC:(x+k)<(a.length+b.length)),iz ((k:Int)+1) aC]<|.e (af [.o 8 (.int aO:aj (.v (.int .u64 ((((((a.getD x 0)*(b.getD k 0))+(((nu (a.getD x 0) x b (lN a b x) k).1).getD (x+k) 0))+(nu (a.getD x 0) x b (lN a b x) k).2)/4294967296:Nat):Int))) (.v (.int .u64 (((nu (a.getD x 0) x b (lN a b x) (k+1)).2:Nat):Int)))),.b 17 (Pe rfl aC:Bx.le (.row false 171 (a.length+b.length) 1 (λi' j'=>if i'=(x+k)/\0<=j'/\j'<0+1 then[.v (.int .u32 ((((((a.getD x 0)*(b.getD k 0))+(((nu (a.getD x 0) x b (lN a b x) k).1).getD (x+k) 0))+(nu (a.getD x 0) x b (lN a b x) k).2)%4294967296:Nat):Int))].getD (j'-0) .any else(qp ((nu (a.getD x 0) x b (lN a b x) k).1)) i' j')) (.row false 171 (a.length+b.length) 1 (qp ((nu (a.getD x 0) x b (lN a b x) (k+1)).1))))])) aF)
  (λhk=>by
    exact iF (af [tF 28 ((b.length:Int)<b.length) aC]) aF) aI:jA 7 f269 (Wm a b x 0) (.exit 2) ⟨67,false,[(8,.e (.v (.int .u64 (((nu (a.getD x 0) x b (lN a b x) b.length).2:Nat):Int)))),(6,.e (iP x)),(20,.e (iP x)),(19,.e (iP a.length)),(18,.e (ic a)),(5,.own 17),(1,.e (ic b))],[(17,.row false 171 (a.length+b.length) 1 (qp ((nu (a.getD x 0) x b (lN a b x) b.length).1)))]⟩) (af [.o 8 (.int aO:aj (.v (.int .u64 0)) (.v (.int .u64 (((nu (a.getD x 0) x b (lN a b x) 0).2:Nat):Int)))),.b 17 (.iT rfl:Bx.le (.row false 171 (a.length+b.length) 1 (qp (lN a b x))) (.row false 171 (a.length+b.length) 1 (qp ((nu (a.getD x 0) x b (lN a b x) 0).1))))]),
     iz ((x:Int)+b.length) aC,.o 63 (.int (E3 _):aj (.v (.int .u32 (IntKind.u32.wrap (((nu (a.getD x 0) x b (lN a b x) b.length).2:Nat):Int)))) (.v (.int .u32 (((nu (a.getD x 0) x b (lN a b x) b.length).2%4294967296:Nat):Int)))),
     iX ((x+b.length:Nat):Int) (a.length+b.length) aC,.a (aC:(x+b.length)<(a.length+b.length)),iz ((x:Int)+1) aC]<|.e (af [.b 17 (Pe rfl aC:Bx.le (.row false 171 (a.length+b.length) 1 (λi' j'=>if i'=(x+b.length)/\0<=j'/\j'<0+1 then[.v (.int .u32 (((nu (a.getD x 0) x b (lN a b x) b.length).2%4294967296:Nat):Int))].getD (j'-0) .any else(qp ((nu (a.getD x 0) x b (lN a b x) b.length).1)) i' j')) (.row false 171 (a.length+b.length) 1 (qp (lN a b (x+1)))))])) aF)
  (λhx=>by
    exact iF (af [tF 21 ((a.length:Int)<a.length) aC]) aF) aI:jA 3 f269 (Wl a b 0) (.exit 0) ⟨67,false,[(5,.own 17)],[(17,.row false 171 (a.length+b.length) 1 (qp (lN a b a.length)))]⟩) (af [.b 17 (X5 rfl (λi=>by simp[lN,bh,eP];split<;>rfl):Bx.le (.row false 171 (a.length+b.length) 1 (λ_ j_=>[.v (.int .u32 0)].getD j_ .any)) (.row false 171 (a.length+b.length) 1 (qp (lN a b 0))))])]<|rR (ic (lN a b a.length)) (Y3 (by rw[(GJ ha hb a.length aC).len]):E.le (.sl false (a.length+b.length) 1 (qp (lN a b a.length))) (ic (lN a b a.length)))) 
def Oj(L:List Nat)(h:L.length<=256):gW 268 [ic L] (bP false):=
 ak call268 func268 (af [tF 5 (256<(L.length:Int)) aC]) 
def ah7(L:List Nat)(h1:L.length<=256):gW 230 [(.sl true 1 1 λi_ j_=>[ic L].getD (i_*1+j_) (.v (.bool false)))] (bP false):=
 ak call230 func230 (af [.c (VR true 1 _ 268 [] (λ_=>false) (λi hi=>(match i,hi with|0,_=>Oj _ h1|n+1,hi=>absurd hi aC)) aC (λ_ _=>rfl):gW 267 [(.sl true 1 1 λi_ j_=>[ic L].getD (i_*1+j_) (.v (.bool false))),.fn 268 []] _)]) 
def Wu(L:List Nat)(M:List Nat)(h1:L.length<=256)(h2:M.length<=256):gW 230 [(.sl true 2 1 λi_ j_=>[ic L,ic M].getD (i_*1+j_) (.v (.bool false)))] (bP false):=
 ak call230 func230 (af [.c (VR true 2 _ 268 [] (λ_=>false) (λi hi=>(match i,hi with|0,_=>Oj _ h1|1,_=>Oj _ h2|n+2,hi=>absurd hi aC)) aC (λ_ _=>rfl):gW 267 [(.sl true 2 1 λi_ j_=>[ic L,ic M].getD (i_*1+j_) (.v (.bool false))),.fn 268 []] _)]) 
def ah9(L M:List Nat)(hL:iN L)(hM:iN M)(h1:L.length<=256)(h2:M.length<=256)(hf:(gY (val L*val M)).length<=256):gW 234 [ic L,ic M] (.ix [ic (gY (val L*val M)),iP 0]):=by
 have ka:=hL.iG;have kb:=hM.iG;have ta:=pV L;have tb:=pV M;unfold mR at ta tb;have km:=(GJ ka kb _ (bg _)).ok;have he:iG (lN (iG L) (iG M) (iG L).length)=gY (val L*val M):=by rw[rS km,am9 ka kb,qs,qs]
 have hd:(iG (lN (iG L) (iG M) (iG L).length)).length<=256:=by rw[he];exact hf
 exact ak call234 func234 (ae [.c (Wu L M aD aD),ag [ic L] (uq _ hL),ag [ic M] (uq _ hM),ag [ic (iG L),ic (iG M)] (ah8 _ _ ka kb aC aC),ag [ic (lN (iG L) (iG M) (iG L).length)] (Ws _ km hd)]<|rQ (.ix [ic (iG (lN (iG L) (iG M) (iG L).length)),iP 0]) (.ix [ic (gY (val L*val M)),iP 0]) (by rw[he])) 
def zW(m n:Nat)(h1:(gY m).length<=256)(h2:(gY n).length<=256)(hf:(gY (m*n)).length<=256):gW 234 [ic (gY m),ic (gY n)] (.ix [ic (gY (m*n)),iP 0]):=by
 have:=ah9 (gY m) (gY n) (mz m) (mz n) h1 h2 (by rw[kr,kr];exact hf);rwa[kr,kr]at this
def wC(m n:Nat)(h1:(gY m).length<=256)(h2:n<=65536)(h3:(gY (m*2^n)).length<=256):gW 283 [ic (gY m),iP n] (ic (gY (m*2^n))):=
 ak call283 func283 (af [ag [ic (gY m),iP n] (Ol _ _ aC aC aC)]) 
def OW(m n:Nat)(h1:(gY m).length<=256)(h2:n<=65536):gW 284 [ic (gY m),iP n] (.ix [ic (gY (m/2^n)),bP (decide (m%2^n≠0))]):=by
 have hb:=BX h1;have hq:(gY (m/2^n)).length<=256:=py (by have:=uH (bY m (2^n));omega);have vY:(gY (m/2^n*2^n)).length<=256:=py (by have:=uH (de m (2^n));omega);have hr:(gY (m/2^iq m)).length<=256:=py (by have:=uH (bY m (2^iq m));omega);have nR:(gY (m/2^iq m*2^iq m)).length<=256:=py (by have:=uH (de m (2^iq m));omega);by_cases hn:iq m<n
 .have q1:=Se (dq hn);have q2:=Se (bg (iq m));exact ak call284 func284 (ae [ag [ic (gY m)] (sZ _ aC),tT 11 ((iq m:Int)<n) aC,ag [ic (gY m)] (sZ _ aC),ag [ic (gY m),iP (iq m:Int)] (Om _ _ aC aC),.c (wC (m/2^(iq m)) (iq m) aC aC aC),ag [ic (gY ((m/2^(iq m))*2^(iq m))),ic (gY m)] (yl _ _ aC aC)]<|rQ (.ix [ic (gY (m/2^(iq m))),bP ((kE ((m/2^(iq m))*2^(iq m)) m) != 0)]) (.ix [ic (gY (m/2^n)),bP (decide (m%2^n≠0))]) (by rw[V0,q1.1,q1.2,q2.1,q2.2])) 
 .exact ak call284 func284 (ae [ag [ic (gY m)] (sZ _ aC),tF 11 ((iq m:Int)<n) aC,ag [ic (gY m),iP n] (Om _ _ aC aC),.c (wC (m/2^n) n aC aC aC),ag [ic (gY ((m/2^n)*2^n)),ic (gY m)] (yl _ _ aC aC)]<|rQ (.ix [ic (gY (m/2^n)),bP ((kE ((m/2^n)*2^n) m) != 0)]) (.ix [ic (gY (m/2^n)),bP (decide (m%2^n≠0))]) (by rw[V0])) 
abbrev PX:E:=.sl false 1 1 λi_ j_=>[.v (.int .u32 1)].getD (i_*1+j_) (.v (.bool false))
abbrev K5(p):=ic (gY (0*2^((0-(jk 0 0 p)).toNat)))
def oD(m:Nat)(e:Int)(p:Nat):Nat:=if jk m e p<=e then m*2^(e-jk m e p).toNat else m/2^(jk m e p-e).toNat
def sx(m:Nat)(e:Int)(more:Bool)(p:Nat):Bool:=if jk m e p<=e then more else(more||decide (m%2^(jk m e p-e).toNat≠0))
def acY(m:Nat)(e:Int)(more:Bool)(p:Nat):od m e more p false=oD m e p:=by unfold od oD;simp
def LY{m:Nat}{e:Int}{more:Bool}{p:Nat}(hm:more=true->p<iq m):od m e more p true=oD m e p+if sx m e more p=true then 1 else 0:=by
 unfold od oD sx;by_cases hU:jk m e p<=e
 .have hmo:more=false:=by
   cases Nk:more with
   |false=>rfl
   |true=>have:=hm Nk;unfold jk at hU;omega
  simp[hU,hmo]
 .simp [hU]
def ajt(m:Nat)(e:Int)(more up:Bool)(p:Nat)(h1:(gY m).length<=256)(h0:m≠0)(il:8<=p)(ig:p<=512)(mB:-45000<=e)(lF:e<=45000)(hm:more=true->p<iq m):gW 285 [.agg [ic (gY m),iP e,bP more],iP (p:Int),bP up] (.ix [ie (kg false m e more p up),iP (jR false m e more p up)]):=by
 have UE:=R1 (e:=e) true h0 hm (aC:1<=p);have vZ:=R1 (e:=e) false h0 hm (aC:1<=p);have hb:=BX h1;have Jp:=o0 h0;have hqb:=R0 (e:=e) (more:=more) (p:=p) (up:=true) h0;have hqa:=R0 (e:=e) (more:=more) (p:=p) (up:=false) h0;rw[acY]at vZ hqa;have hu1:-16384<=(jk m e p):=by unfold jk;omega
 have hu2:(jk m e p)<=60000:=by unfold jk;omega
 have hu3:(jk m e p)<=max (e+8192) (-16384):=by unfold jk;omega
 have fa:(gY (oD m e p)).length<=256:=py aC;have fb:(gY (od m e more p true)).length<=256:=py aC;have f1:(gY 1).length<=256:=py aE;cases up with
 |true=>
  exact ak call285 func285 (ae [ag [ic (gY m)] (sZ _ aC),iz (e+(iq m:Int)) aC,iz ((e+(iq m:Int))-(p:Int)) aC,.o 21 (aq (if(-16384)>((e+(iq m:Int))-(p:Int))then(-16384)else((e+(iq m:Int))-(p:Int))) (jk m e p) (by unfold jk;split<;>omega)),.j 58 ⟨84,true,[(9,.e (ic (gY (oD m e p)))),(10,.e (bP (sx m e more p))),(8,.e (iP (jk m e p))),(6,.box 6 0),(1,.e (iP p)),(2,.e (bP true))],[(6,.cells 31 ar)]⟩
   (.w ((jk m e p)<=e)
    (λm1=>by
     have fx:(gY (m*2^(e-(jk m e p)).toNat)).length<=256:=by have:=fa;rwa[show oD m e p=_ from a6 m1]at this
     exact ae [.v 29 (.bool (a7 m1)),iz (e-(jk m e p)) aC,.o 35 (aq (e-(jk m e p)) ((e-(jk m e p)).toNat:Int) aC),.c (wC m ((e-(jk m e p)).toNat:Nat) aC aC aC)]<|.e (af [.o 9 (.e (.iT (by rw[show oD m e p=_ from a6 m1])):aj (ic (gY (m*2^((e-(jk m e p)).toNat)))) (ic (gY (oD m e p)))),tB 10 (by simp[sx,m1]:more=(sx m e more p))]))
    (λm1=>ae [.v 29 (.bool (bc m1)),iz ((jk m e p)-e) aC,.o 43 (aq ((jk m e p)-e) (((jk m e p)-e).toNat:Int) aC),.c (OW m (((jk m e p)-e).toNat:Nat) aC aC)]<|.w (more=true)
     (λm2=>ae [tB 48 m2]<|.e (af [.o 9 (.e (.iT (by rw[show oD m e p=_ from aZ m1])):aj (ic (gY (m/2^(((jk m e p)-e).toNat)))) (ic (gY (oD m e p)))),tB 10 (by simp[sx,m1,m2]:true=(sx m e more p))]))
     (λm2=>ae [tB 48 (aW m2)]<|.e (af [.o 9 (.e (.iT (by rw[show oD m e p=_ from aZ m1])):aj (ic (gY (m/2^(((jk m e p)-e).toNat)))) (ic (gY (oD m e p)))),tB 10 (by simp[sx,m1,m2]:(decide (m%2^(((jk m e p)-e).toNat)≠0))=(sx m e more p))])))),.j 110 ⟨84,true,[(9,.e (ic (gY (od m e more p true)))),(8,.e (iP (jk m e p))),(6,.box 6 0),(1,.e (iP p)),(2,.e (bP true))],[(6,.cells 31 ar)]⟩
   (.w (sx m e more p=true)
    (λm1=>by
     have fx:(gY (oD m e p+1)).length<=256:=by have:=fb;rwa[LY hm,a6 m1]at this
     exact ae [.v 55 (.bool m1),.o 58 (.e yx:aj PX (ic (gY 1))),ag [ic (gY (oD m e p)),ic (gY 1)] (GL _ _ aC aC aC)]<|.e (af [.o 9 (.e (.iT (by rw[LY hm,a6 m1])):aj (ic (gY ((oD m e p)+1))) (ic (gY (od m e more p true))))]))
    (λm1=>ae [.v 55 (.bool (aW m1))]<|.e (af [.o 9 (.e (.iT (by rw[LY hm,aZ m1,bR])):aj (ic (gY (oD m e p))) (ic (gY (od m e more p true))))]))),ag [ic (gY (od m e more p true))] (sZ _ aC),iz ((iq (od m e more p true):Int)+(jk m e p)) aC]<|.w (16384<((iq (od m e more p true):Int)+(jk m e p)))
   (λk1=>by
    have w1:=(UE.resolve_left (λh=>absurd k1 aC)).2.resolve_right (λh=>absurd h.1 aE);exact ae [tB 66 (a7 k1),.o 68 (.e sH:aj (.agg ar) (ie ju))]<|rQ (.ix [ie ju,iP 9]) (.ix [ie (kg false m e more p true),iP (jR false m e more p true)]) (by rw[w1.2.1,w1.2.2]))
   (λk1=>by
    have w1:=UE.resolve_right (λh=>k1 h.1);have hd:mZ (canon false (od m e more p true) (jk m e p)):=by rw[<-w1.2.1];exact(tp false m e more p true aC aC).range
    exact ae [tB 66 (bc k1),ag [bP false,ic (gY (od m e more p true)),iP (jk m e p)] (B4 _ _ _ aC aC aC aD)]<|rQ (.ix [ie (canon false (od m e more p true) (jk m e p)),iP 0]) (.ix [ie (kg false m e more p true),iP (jR false m e more p true)]) (by rw[w1.2.1,w1.2.2]))) 
 |false=>
  exact ak call285 func285 (ae [ag [ic (gY m)] (sZ _ aC),iz (e+(iq m:Int)) aC,iz ((e+(iq m:Int))-(p:Int)) aC,.o 21 (aq (if(-16384)>((e+(iq m:Int))-(p:Int))then(-16384)else((e+(iq m:Int))-(p:Int))) (jk m e p) (by unfold jk;split<;>omega)),.j 58 ⟨84,true,[(9,.e (ic (gY (oD m e p)))),(10,.e (bP (sx m e more p))),(8,.e (iP (jk m e p))),(6,.box 6 0),(1,.e (iP p)),(2,.e (bP false))],[(6,.cells 31 ar)]⟩
   (.w ((jk m e p)<=e)
    (λm1=>by
     have fx:(gY (m*2^(e-(jk m e p)).toNat)).length<=256:=by have:=fa;rwa[show oD m e p=_ from a6 m1]at this
     exact ae [.v 29 (.bool (a7 m1)),iz (e-(jk m e p)) aC,.o 35 (aq (e-(jk m e p)) ((e-(jk m e p)).toNat:Int) aC),.c (wC m ((e-(jk m e p)).toNat:Nat) aC aC aC)]<|.e (af [.o 9 (.e (.iT (by rw[show oD m e p=_ from a6 m1])):aj (ic (gY (m*2^((e-(jk m e p)).toNat)))) (ic (gY (oD m e p)))),tB 10 (by simp[sx,m1]:more=(sx m e more p))]))
    (λm1=>ae [.v 29 (.bool (bc m1)),iz ((jk m e p)-e) aC,.o 43 (aq ((jk m e p)-e) (((jk m e p)-e).toNat:Int) aC),.c (OW m (((jk m e p)-e).toNat:Nat) aC aC)]<|.w (more=true)
     (λm2=>ae [tB 48 m2]<|.e (af [.o 9 (.e (.iT (by rw[show oD m e p=_ from aZ m1])):aj (ic (gY (m/2^(((jk m e p)-e).toNat)))) (ic (gY (oD m e p)))),tB 10 (by simp[sx,m1,m2]:true=(sx m e more p))]))
     (λm2=>ae [tB 48 (aW m2)]<|.e (af [.o 9 (.e (.iT (by rw[show oD m e p=_ from aZ m1])):aj (ic (gY (m/2^(((jk m e p)-e).toNat)))) (ic (gY (oD m e p)))),tB 10 (by simp[sx,m1,m2]:(decide (m%2^(((jk m e p)-e).toNat)≠0))=(sx m e more p))])))),ag [ic (gY (oD m e p))] (sZ _ aC),iz ((iq (oD m e p):Int)+(jk m e p)) aC]<|.w (16384<((iq (oD m e p):Int)+(jk m e p)))
   (λk1=>by
    have w1:=(vZ.resolve_left (λh=>absurd k1 aC)).2.resolve_left (λh=>absurd h.1 aE);have hd:mZ (canon false ((1*2^p)-1) (16384-(p:Int))):=by rw[bZ,<-w1.2.1];exact(tp false m e more p false aC aC).range
    have g0:iq (1*2^p)=p+1:=by rw[bZ];exact yR (bg _) (gM aE aC)
    have g1:(gY 1).length<=256:=py aE;have g2:(gY (1*2^p)).length<=256:=py aC;have g4:1<=1*2^p:=by rw[bZ];exact bw aE 
    have g3:(gY ((1*2^p)-1)).length<=256:=py (by have:=uH (dP (1*2^p) 1);omega);exact ae [tB 66 (a7 k1),.o 70 (.e yx:aj PX (ic (gY 1))),.c (wC 1 p aC aC aC),.o 73 (.e yx:aj PX (ic (gY 1))),ag [ic (gY (1*2^p)),ic (gY 1)] (CX _ _ aC aC aC),iz (16384-(p:Int)) aC,ag [bP false,ic (gY ((1*2^p)-1)),iP (16384-(p:Int))] (B4 _ _ _ aC aC aC aD)]<|rQ (.ix [ie (canon false ((1*2^p)-1) (16384-(p:Int))),iP 0]) (.ix [ie (kg false m e more p false),iP (jR false m e more p false)]) (by rw[w1.2.1,w1.2.2,bZ]))
   (λk1=>by
    have w1:=vZ.resolve_right (λh=>k1 h.1);have hd:mZ (canon false (oD m e p) (jk m e p)):=by rw[<-w1.2.1];exact(tp false m e more p false aC aC).range
    exact ae [tB 66 (bc k1),ag [bP false,ic (gY (oD m e p)),iP (jk m e p)] (B4 _ _ _ aC aC aC aD)]<|rQ (.ix [ie (canon false (oD m e p) (jk m e p)),iP 0]) (.ix [ie (kg false m e more p false),iP (jR false m e more p false)]) (by rw[w1.2.1,w1.2.2]))) 
def aju(up:Bool)(p:Nat)(il:8<=p)(ig:p<=512):gW 285 [.agg [ic (gY 0),iP 0,bP false],iP (p:Int),bP up] (.ix [ie (kg false 0 0 false p up),iP (jR false 0 0 false p up)]):=by
 have hU:jk 0 0 p = -(p:Int):=by unfold jk;rw[sJ];omega
 have hK:jP 0 0 p=0:=by unfold jP;rw[sJ];omega
 have hQ:lp 0 0 false p up=0:=by unfold lp;rw[hK];simp
 have hO:mI 0 0 false p up=false:=by unfold mI;rw[hQ];simp
 have qa:(false != up)=up:=by cases up<;>rfl
 have k2:kg false 0 0 false p up=ju:=by unfold kg;rw[qa,hO,aZ aE,hQ];rfl
 have k3:jR false 0 0 false p up=0:=by unfold jR;rw[qa,hO];rfl
 have lz:iq 0=0:=rfl;have l0:(gY 0).length<=256:=by rw[oB];decide
 have l1:(gY (0*2^(0-jk 0 0 p).toNat)).length<=256:=by rw[cJ];exact l0
 have lb:iq (0*2^(0-jk 0 0 p).toNat)=0:=by rw[cJ];rfl
 have hd:mZ (canon false (0*2^(0-jk 0 0 p).toNat) (jk 0 0 p)):=by rw[cJ];exact .inl rfl
 by_cases UL:up=true
 .exact ak call285 func285 (ae [ag [ic (gY 0)] (sZ _ aC),iz (0+(iq 0:Int)) aC,iz ((0+(iq 0:Int))-(p:Int)) aC,.o 21 (aq (if(-16384)>((0+(iq 0:Int))-(p:Int))then(-16384)else((0+(iq 0:Int))-(p:Int))) (jk 0 0 p) (by unfold jk;rw[sJ];split<;>omega)),tT 29 ((jk 0 0 p)<=0) aC,iz (0-(jk 0 0 p)) aC,.o 35 (aq (0-(jk 0 0 p)) ((0-(jk 0 0 p)).toNat:Int) aC),.c (wC 0 ((0-(jk 0 0 p)).toNat:Nat) aC aC aC),ah 52 up UL,ag [K5 p] (sZ _ aC),
   iz ((iq (0*2^((0-(jk 0 0 p)).toNat)):Int)+(jk 0 0 p)) aC,tF 66 (16384<((iq (0*2^((0-(jk 0 0 p)).toNat)):Int)+(jk 0 0 p))) aC,ag [bP false,K5 p,iP (jk 0 0 p)] (B4 _ _ _ aC aC aC aD)]<|rQ (.ix [ie (canon false (0*2^((0-(jk 0 0 p)).toNat)) (jk 0 0 p)),iP 0]) (.ix [ie (kg false 0 0 false p up),iP (jR false 0 0 false p up)]) (by rw[k2,k3,cJ];rfl)) 
 .exact ak call285 func285 (ae [ag [ic (gY 0)] (sZ _ aC),iz (0+(iq 0:Int)) aC,iz ((0+(iq 0:Int))-(p:Int)) aC,.o 21 (aq (if(-16384)>((0+(iq 0:Int))-(p:Int))then(-16384)else((0+(iq 0:Int))-(p:Int))) (jk 0 0 p) (by unfold jk;rw[sJ];split<;>omega)),tT 29 ((jk 0 0 p)<=0) aC,iz (0-(jk 0 0 p)) aC,.o 35 (aq (0-(jk 0 0 p)) ((0-(jk 0 0 p)).toNat:Int) aC),.c (wC 0 ((0-(jk 0 0 p)).toNat:Nat) aC aC aC),ai 52 up (by simpa using UL),ag [K5 p] (sZ _ aC),
   iz ((iq (0*2^((0-(jk 0 0 p)).toNat)):Int)+(jk 0 0 p)) aC,tF 66 (16384<((iq (0*2^((0-(jk 0 0 p)).toNat)):Int)+(jk 0 0 p))) aC,ag [bP false,K5 p,iP (jk 0 0 p)] (B4 _ _ _ aC aC aC aD)]<|rQ (.ix [ie (canon false (0*2^((0-(jk 0 0 p)).toNat)) (jk 0 0 p)),iP 0]) (.ix [ie (kg false 0 0 false p up),iP (jR false 0 0 false p up)]) (by rw[k2,k3,cJ];rfl)) 
def EJ(m:Nat)(e:Int)(more up:Bool)(p:Nat)(h1:(gY m).length<=256)(h0:m≠0\/m=0/\e=0/\more=false)(il:8<=p)(ig:p<=512)(mB:-45000<=e)(lF:e<=45000)(hm:more=true->p<iq m):gW 285 [.agg [ic (gY m),iP e,bP more],iP (p:Int),bP up] (.ix [ie (kg false m e more p up),iP (jR false m e more p up)]):=by
 rcases h0 with h0|⟨rfl,rfl,rfl⟩
 .exact ajt m e more up p h1 h0 il ig mB lF hm
 .exact aju up p il ig
def lH(p:Int):Bool:=decide (8<=p)&&decide (p<=512)
def sj{p:Int}:lH p=true↔8<=p/\p<=512:=by simp[lH]
def wi(p:Int):gW 144 [iP p] (bP (lH p)):=by
 by_cases h:8<=p
 .exact ak call144 func144 (ae [tB 4 (a7 h)]<|rQ (bP (decide (p<=512))) (bP (lH p)) (by simp[lH,h])) 
 .exact ak call144 func144 (ae [tB 4 (bc h)]<|rQ (bP false) (bP (lH p)) (by simp[lH,h])) 
def ajx(p:Int):gW 281 [iP p] (bP (lH p)):=by
 by_cases h:8<=p
 .exact ak call281 func281 (ae [tB 4 (a7 h)]<|rQ (bP (decide (p<=512))) (bP (lH p)) (by simp[lH,h])) 
 .exact ak call281 func281 (ae [tB 4 (bc h)]<|rQ (bP false) (bP (lH p)) (by simp[lH,h])) 
def Xu(l:List Dy)(p:Nat)(i:Nat):PS:=⟨20,true,[(9,.e (iP i)),(8,.e (iP l.length)),(7,.e (nO l)),(0,.e (iP p))],[]⟩
def G7(neg:Bool)(m:Nat)(e:Int)(more up:Bool)(p:Nat)(h1:(gY m).length<=256)(h0:m≠0\/m=0/\e=0/\more=false)(il:8<=p)(ig:p<=512)(mB:-45000<=e)(lF:e<=45000)(hm:more=true->p<iq m):gW 250 [bP neg,.agg [ic (gY m),iP e,bP more],iP p,bP up] (.ix [ie (kg neg m e more p up),iP (jR neg m e more p up)]):=by
 cases neg with
 |true=>
  have hs:=R5 true m e more p up;change _/\(jR false m e more p (!(up==true))=0->_->jt (kg false m e more p (!(up==true)))=_)/\((jR false m e more p (!(up==true))≠0\/_)->kg false m e more p (!(up==true))=_)at hs;have hE:jR true m e more p up=jR false m e more p (!(up==true)):=hs.1;have hv:=tp false m e more p (!(up==true)) (aC:1<=p) aC;by_cases hz:jR false m e more p (!(up==true))=0
  .exact ak call250 func250 (ae [ag [.agg [ic (gY m),iP e,bP more],iP p,bP (!(up==true))] (EJ _ _ _ _ _ aC aD aC aC aC aC aD),ah 22 ((jR false m e more p (!(up==true)))==0) (by rw[hz];rfl),ag [ie (kg false m e more p (!(up==true)))] (xK _ aD)]<|rQ (.ix [ie (jt (kg false m e more p (!(up==true)))),iP (jR false m e more p (!(up==true)))]) (.ix [ie (kg true m e more p up),iP (jR true m e more p up)]) (by rw[hs.2.1 hz rfl,hE])) 
  .exact ak call250 func250 (ae [ag [.agg [ic (gY m),iP e,bP more],iP p,bP (!(up==true))] (EJ _ _ _ _ _ aC aD aC aC aC aC aD),ai 22 ((jR false m e more p (!(up==true)))==0) (by simpa using hz)]<|rQ (.ix [ie (kg false m e more p (!(up==true))),iP (jR false m e more p (!(up==true)))]) (.ix [ie (kg true m e more p up),iP (jR true m e more p up)]) (by rw[hs.2.2 (.inl hz),hE])) 
 |false=>
  have hs:=R5 false m e more p up;change _/\(jR false m e more p (!(up==false))=0->_->jt (kg false m e more p (!(up==false)))=_)/\((jR false m e more p (!(up==false))≠0\/_)->kg false m e more p (!(up==false))=_)at hs;have hE:jR false m e more p up=jR false m e more p (!(up==false)):=hs.1;have hv:=tp false m e more p (!(up==false)) (aC:1<=p) aC;by_cases hz:jR false m e more p (!(up==false))=0
  .exact ak call250 func250 (ae [ag [.agg [ic (gY m),iP e,bP more],iP p,bP (!(up==false))] (EJ _ _ _ _ _ aC aD aC aC aC aC aD),ah 22 ((jR false m e more p (!(up==false)))==0) (by rw[hz];rfl)]<|rQ (.ix [ie (kg false m e more p (!(up==false))),iP (jR false m e more p (!(up==false)))]) (.ix [ie (kg false m e more p up),iP (jR false m e more p up)]) (by rw[hs.2.2 (.inr rfl),hE])) 
  .exact ak call250 func250 (ae [ag [.agg [ic (gY m),iP e,bP more],iP p,bP (!(up==false))] (EJ _ _ _ _ _ aC aD aC aC aC aC aD),ai 22 ((jR false m e more p (!(up==false)))==0) (by simpa using hz)]<|rQ (.ix [ie (kg false m e more p (!(up==false))),iP (jR false m e more p (!(up==false)))]) (.ix [ie (kg false m e more p up),iP (jR false m e more p up)]) (by rw[hs.2.2 (.inl hz),hE])) 
def ajw(d:Dy):gW 282 [ie d] (.agg [ic (gY d.m),iP d.e,bP false]):=
 ak call282 func282 (.nil) 
def Xv(p:Nat)(l:List Dy)(hl:l.length<=1000)(hv:∀ i,i<l.length->(l.getD i ju).ij)(il:8<=p)(ig:p<=512):gW 247 [iP p,nO l] (iP 0):=
 ak call247 func247 (af [.s (Sp.jC (Xu l p) 0 l.length aC (λi hi nQ=>by
    have UP:=hv i nQ;exact iF (af [tT 10 ((i:Int)<l.length) aC,iX (i:Int) (l.length) aC,ag [ie (l.getD i ju)] (oq _ aD),iz ((i:Int)+1) aC]) aF)
  (λhi=>by
    exact iF (af [tF 10 ((l.length:Int)<l.length) aC]) aF) aI:jA 2 f247 (Xu l p 0) (.exit 0) ⟨20,true,[(0,.e (iP p))],[]⟩) .nil,ag [iP p] (ajx _),ah 18 (lH (p:Int)) (sj.2 ⟨aC,aC⟩)]) 
def OV(p:Nat)(a:Dy)(ha:a.ij)(il:8<=p)(ig:p<=512):gW 247 [iP (p:Int),nO [a]] (iP 0):=
 Xv p [a] aH (λi hi=>(match i,hi with
  | 0,_=>ha
  |n+1,hi=>absurd hi aH)) il ig
def xt(p:Nat)(a b:Dy)(ha:a.ij)(hb:b.ij)(il:8<=p)(ig:p<=512):gW 247 [iP (p:Int),nO [a,b]] (iP 0):=
 Xv p [a,b] aH (λi hi=>(match i,hi with
  | 0,_=>ha
  | 1,_=>hb
  |n+2,hi=>absurd hi aH)) il ig
def Kv(d:Dy)(p:Nat)(up:Bool)(hd:d.ij)(il:8<=p)(ig:p<=512):gW 248 [ie d,iP p,bP up] (.ix [ie (kf d p up),iP (jS d p up)]):=by
 have hl:=hd.gY;have hz:d.m≠0\/d.m=0/\d.e=0/\false=false:=by
  by_cases h:d.m=0
  .rcases hd.canon with q|q
   .exact .inr ⟨h,q.2.2,rfl⟩
   .omega
  .exact .inl h
 have JR:-45000<=d.e:=by have:=hd.exp;omega
 have uZ:d.e<=45000:=by have:=hd.exp;omega
 have hm:false=true->p<iq d.m:=λh=>by cases h
 exact ak call248 func248 (af [.o 11 (.e (L8 _):aj (.sl true 1 3 λi_ j_=>(jq d).getD (i_*3+j_) (.v (.bool false))) (nO [d])),ag [iP p,nO [d]] (OV _ _ aD aC aC),ai 14 ((0:Int) != 0) aE,.c (ajw d),.c (G7 d.neg d.m d.e false up p aC aD aC aC aC aC aD)]) 
def DI{a b:Nat}:kE a b<0↔a<b:=by
 unfold kE;split
 .simp_all
 .split<;>simp_all
def Kw(a b:Dy)(p:Nat)(ha:a.ij)(hb:b.ij)(a0:a.m≠0)(b0:b.m≠0)(ht:b.iw<=a.iw)(il:8<=p)(ig:p<=512):gW 249 [ie a,ie b,iP p] (.ix [.agg [ic (gY (mo a b p)),iP (jo a b p),bP (nD a b p)],bP (pU a b p)]):=by
 have sz:=KX ha hb a0 b0 ht ig;have sp:=PK ha hb a0 b0 ht ig;obtain⟨l1,l2,l3,l4,l5,l6,l7,l8,l9⟩:=sz;obtain⟨l10,l11,l12⟩:=sp;obtain⟨r1,r2,r3⟩:=Pa a b p;have va:=ha.gY;have vb:=hb.gY;have xa:=ha.exp;have xb:=hb.exp;have ta:=Ht a0;have tb:=Ht b0;have ba:=BX va;have bb:=BX vb;have z1:(gY (a.m*2^((a.e-(jo a b p)).toNat))).length<=256:=py (aC:iq (oh a b p)<=_);have zy:(gY (nf b (jo a b p))).length<=256:=py aC;have z3:(gY (nd a b p)).length<=256:=py aC;have zm:(gY (mo a b p)).length<=256:=py aC;have z5:(gY 1).length<=256:=py aE;exact ak call249 func249 (ae [ag [ie a] (oo _ aD),iz ((Dy.iw a)-(p:Int)) aC,iz (((Dy.iw a)-(p:Int))-8) aC,ag [ie a] (oo _ aD),ag [ie b] (oo _ aD),iz ((Dy.iw a)-(Dy.iw b)) aC,.j 62 ⟨109,true,[(8,.e (iP (jo a b p))),(6,.box 6 0),(4,.box 4 0),(3,.box 3 0)],[(6,.cells 215 [.v (.slice none 0 0),iP 0,bP false]),(4,.cells 31 (jq b)),(3,.cells 31 (jq a))]⟩
   (.w (((Dy.iw a)-(Dy.iw b))<=2)
    (λm1=>ae [.v 31 (.bool (a7 m1))]<|.e (af [.o 8 (aq (if b.e<(if(((Dy.iw a)-(p:Int))-8)<a.e then(((Dy.iw a)-(p:Int))-8)else a.e)then b.e else(if(((Dy.iw a)-(p:Int))-8)<a.e then(((Dy.iw a)-(p:Int))-8)else a.e)) (jo a b p) (by unfold jo;rw[a6 m1];split<;>split<;>omega))]))
    (λm1=>ae [.v 31 (.bool (bc m1))]<|.e (af [.o 8 (aq (if(((Dy.iw a)-(p:Int))-8)<a.e then(((Dy.iw a)-(p:Int))-8)else a.e) (jo a b p) (by unfold jo;rw[aZ m1];split<;>omega))]))),
  iz (a.e-(jo a b p)) aC,.o 41 (aq (a.e-(jo a b p)) ((a.e-(jo a b p)).toNat:Int) aC),.c (wC a.m ((a.e-(jo a b p)).toNat) aC aC aC),.j 92 ⟨109,true,[(10,.e (ic (gY (nf b (jo a b p))))),(11,.e (bP (nU b (jo a b p)))),(9,.e (ic (gY (a.m*2^((a.e-(jo a b p)).toNat))))),(8,.e (iP (jo a b p))),(6,.box 6 0),(4,.box 4 0),(3,.box 3 0)],[(6,.cells 215 [.v (.slice none 0 0),iP 0,bP false]),(4,.cells 31 (jq b)),(3,.cells 31 (jq a))]⟩
   (.w ((jo a b p)<=b.e)
    (λm1=>by
     have z2:(gY (b.m*2^((b.e-(jo a b p)).toNat))).length<=256:=by have:=zy;rwa[show nf b (jo a b p)=_ from a6 m1]at this
     exact ae [.v 46 (.bool (a7 m1)),iz (b.e-(jo a b p)) aC,.o 52 (aq (b.e-(jo a b p)) ((b.e-(jo a b p)).toNat:Int) aC),.c (wC b.m ((b.e-(jo a b p)).toNat) aC aC aC)]<|.e (af [.o 10 (.e (.iT (by rw[show nf b (jo a b p)=_ from a6 m1])):aj (ic (gY (b.m*2^((b.e-(jo a b p)).toNat)))) (ic (gY (nf b (jo a b p))))),tB 11 (by simp[nU,m1]:false=(nU b (jo a b p)))]))
    (λm1=>ae [.v 46 (.bool (bc m1)),iz ((jo a b p)-b.e) aC,.o 60 (aq ((jo a b p)-b.e) (((jo a b p)-b.e).toNat:Int) aC),.c (OW b.m (((jo a b p)-b.e).toNat) aC aC)]<|.e (af [.o 10 (.e (.iT (by rw[show nf b (jo a b p)=_ from aZ m1])):aj (ic (gY (b.m/2^(((jo a b p)-b.e).toNat)))) (ic (gY (nf b (jo a b p))))),tB 11 (by simp[nU,m1]:(decide (b.m%2^(((jo a b p)-b.e).toNat)≠0))=(nU b (jo a b p)))])))]<|.w (a.neg=b.neg)
  (λk1=>by
   have eT:pU a b p=false:=by unfold pU;simp[k1]
   have eY:nd a b p=nf b (jo a b p):=by unfold nd;simp[k1]
   have eM:mo a b p=oh a b p+nf b (jo a b p):=by unfold mo;rw[a6 k1,eY]
   have eS:nD a b p=nU b (jo a b p):=by unfold nD;rw[eT];simp
   have z4:(gY ((a.m*2^((a.e-(jo a b p)).toNat))+nf b (jo a b p))).length<=256:=by have:=zm;rwa[eM]at this
   exact ae [tB 68 (aV k1),ag [ic (gY (a.m*2^((a.e-(jo a b p)).toNat))),ic (gY (nf b (jo a b p)))] (GL _ _ aC aC aC)]<|rQ (.ix [.agg [ic (gY ((a.m*2^((a.e-(jo a b p)).toNat))+(nf b (jo a b p)))),iP (jo a b p),bP (nU b (jo a b p))],bP false]) (.ix [.agg [ic (gY (mo a b p)),iP (jo a b p),bP (nD a b p)],bP (pU a b p)]) (by rw[eM,eS,eT];rfl))
  (λk1=>ae [tB 68 (aU k1),.j 158 ⟨109,true,[(10,.e (ic (gY (nd a b p)))),(11,.e (bP (nU b (jo a b p)))),(9,.e (ic (gY (a.m*2^((a.e-(jo a b p)).toNat))))),(8,.e (iP (jo a b p))),(6,.box 6 0)],[(6,.cells 215 [.v (.slice none 0 0),iP 0,bP false])]⟩
   (.w (nU b (jo a b p)=true)
    (λm1=>by
     have z6:(gY ((nf b (jo a b p))+1)).length<=256:=py (by rw[show(nf b (jo a b p))+1=nd a b p by(unfold nd;simp[k1,m1])];omega);exact ae [.v 79 (.bool m1),.o 82 (.e yx:aj (.sl false 1 1 λi_ j_=>[.v (.int .u32 1)].getD (i_*1+j_) (.v (.bool false))) (ic (gY 1))),ag [ic (gY (nf b (jo a b p))),ic (gY 1)] (GL _ _ aC aC aC)]<|.e (af [.o 10 (.e (.iT (by unfold nd;simp[k1,m1])):aj (ic (gY ((nf b (jo a b p))+1))) (ic (gY (nd a b p))))]))
    (λm1=>ae [.v 79 (.bool (aW m1))]<|.e (af [.o 10 (.e (.iT (by unfold nd;simp[k1,m1])):aj (ic (gY (nf b (jo a b p)))) (ic (gY (nd a b p))))]))),ag [ic (gY (a.m*2^((a.e-(jo a b p)).toNat))),ic (gY (nd a b p))] (yl _ _ aC aC)]<|.w ((kE (a.m*2^((a.e-(jo a b p)).toNat)) (nd a b p))<0)
   (λk2=>by
    have hc:oh a b p<nd a b p:=DI.1 k2;have eT:pU a b p=true:=by unfold pU;simp[k1,hc]
    have eM:mo a b p=nd a b p-oh a b p:=by unfold mo;rw[aZ k1,a6 hc]
    have eS:nD a b p=false:=by unfold nD;rw[eT];simp
    have z4:(gY (nd a b p-(a.m*2^((a.e-(jo a b p)).toNat)))).length<=256:=by have:=zm;rwa[eM]at this
    have z7:(a.m*2^((a.e-(jo a b p)).toNat))<=nd a b p:=dq hc;exact ae [tB 89 (a7 k2),ag [ic (gY (nd a b p)),ic (gY (a.m*2^((a.e-(jo a b p)).toNat)))] (CX _ _ aC aC aC)]<|rQ (.ix [.agg [ic (gY ((nd a b p)-(a.m*2^((a.e-(jo a b p)).toNat)))),iP (jo a b p),bP false],bP true]) (.ix [.agg [ic (gY (mo a b p)),iP (jo a b p),bP (nD a b p)],bP (pU a b p)]) (by rw[eM,eS,eT];rfl))
   (λk2=>by
    have hc:¬oh a b p<nd a b p:=λh=>k2 (DI.2 h)
    have eT:pU a b p=false:=by unfold pU;simp[hc]
    have eM:mo a b p=oh a b p-nd a b p:=by unfold mo;rw[aZ k1,aZ hc]
    have eS:nD a b p=nU b (jo a b p):=by unfold nD;rw[eT];simp
    have z4:(gY ((a.m*2^((a.e-(jo a b p)).toNat))-nd a b p)).length<=256:=by have:=zm;rwa[eM]at this
    have z7:nd a b p<=(a.m*2^((a.e-(jo a b p)).toNat)):=Nat.le_of_not_lt hc;exact ae [tB 89 (bc k2),ag [ic (gY (a.m*2^((a.e-(jo a b p)).toNat))),ic (gY (nd a b p))] (CX _ _ aC aC aC)]<|rQ (.ix [.agg [ic (gY ((a.m*2^((a.e-(jo a b p)).toNat))-(nd a b p))),iP (jo a b p),bP (nU b (jo a b p))],bP false]) (.ix [.agg [ic (gY (mo a b p)),iP (jo a b p),bP (nD a b p)],bP (pU a b p)]) (by rw[eM,eS,eT];rfl)))) 
def BC(p:Nat)(up:Bool):kf ju p up=ju/\jS ju p up=0:=by
 have hK:jP 0 0 p=0:=by unfold jP;rw[sJ];omega
 have hQ:∀ o,lp 0 0 false p o=0:=by intro o;unfold lp;rw[hK];simp
 have hO:∀ o,mI 0 0 false p o=false:=by intro o;unfold mI;rw[hQ];simp
 unfold kf jS kg jR;simp only[ju,hO,hQ];exact⟨rfl,rfl⟩
def Xq(a b:Dy)(p:Nat)(up:Bool)(ha:a.ij)(hb:b.ij)(il:8<=p)(ig:p<=512):gW 203 [ie a,ie b,iP p,bP up] (.ix [ie (kf (iL a b) p up),iP (jS (iL a b) p up)]):=by
 by_cases a0:a.m=0
 .have e1:iL a b=b:=by unfold iL;rw[a6 a0]
  exact ak call203 func203 (ae [.o 16 (.e (wR _ _):aj (.sl true 2 3 λi_ j_=>(jq a++jq b).getD (i_*3+j_) (.v (.bool false))) (nO [a,b])),ag [iP p,nO [a,b]] (xt _ _ _ aD aD aC aC),ai 19 ((0:Int) != 0) aE,ah 26 (((gY a.m).length:Int)==0) (s5 (sD.2 a0)),.c (Kv b p up aD aC aC)]<|rQ (.ix [ie (kf b p up),iP (jS b p up)]) (.ix [ie (kf (iL a b) p up),iP (jS (iL a b) p up)]) (by rw[e1])) 
 .by_cases b0:b.m=0
  .have e1:iL a b=a:=by unfold iL;rw[aZ a0,a6 b0]
   exact ak call203 func203 (ae [.o 16 (.e (wR _ _):aj (.sl true 2 3 λi_ j_=>(jq a++jq b).getD (i_*3+j_) (.v (.bool false))) (nO [a,b])),ag [iP p,nO [a,b]] (xt _ _ _ aD aD aC aC),ai 19 ((0:Int) != 0) aE,ai 26 (((gY a.m).length:Int)==0) (nC (pJ a0)),ah 37 (((gY b.m).length:Int)==0) (s5 (sD.2 b0)),.c (Kv a p up aD aC aC)]<|rQ (.ix [ie (kf a p up),iP (jS a p up)]) (.ix [ie (kf (iL a b) p up),iP (jS (iL a b) p up)]) (by rw[e1])) 
  .by_cases ht:a.iw<b.iw
   .have sT:a.iw<=b.iw:= aC ;have law:=Zo (p:=p) hb ha b0 a0 up;have siz:=KX hb ha b0 a0 sT ig;have prt:=PK hb ha b0 a0 sT ig;obtain⟨l1,l2,_,_,_,_,_,_,_⟩:=siz;have z1:(gY (mo b a p)).length<=256:=py aC;have rY:=prt.2.2;have y1:-45000<=jo b a p:= aC ;have y2:jo b a p<=45000:= aC ;by_cases hz:mo b a p=0
    .by_cases hl:nD b a p=true
     .have h0:mo b a p≠0:=by intro q;have:=rY hl;rw[q,sJ]at this;omega
      exact absurd hz h0
     .replace hz:mo b a p=0/\nD b a p=false:=⟨hz,by simpa using hl⟩
      have Ed:iL a b=ju:=by rw[PJ a0 b0];exact law.1 hz
      exact ak call203 func203 (ae [.o 16 (.e (wR _ _):aj (.sl true 2 3 λi_ j_=>(jq a++jq b).getD (i_*3+j_) (.v (.bool false))) (nO [a,b])),ag [iP p,nO [a,b]] (xt _ _ _ aD aD aC aC),ai 19 ((0:Int) != 0) aE,ai 26 (((gY a.m).length:Int)==0) (nC (pJ a0)),ai 37 (((gY b.m).length:Int)==0) (nC (pJ b0)),ag [ie a] (oo _ aD),ag [ie b] (oo _ aD),tB 48 (a7 ht),.c (Kw b a p aD aD aD aD aD aC aC),ah 61 (((gY (mo b a p)).length:Int)==0) (s5 (sD.2 hz.1)),ai 64 (nD b a p) hz.2,.o 67 (.e sH:aj (.agg ar) (ie ju))]<|rQ (.ix [ie ju,iP 0]) (.ix [ie (kf (iL a b) p up),iP (jS (iL a b) p up)]) (by rw[Ed,(BC p up).1,(BC p up).2])) 
    .have h0:mo b a p≠0\/mo b a p=0/\jo b a p=0/\nD b a p=false:=.inl hz;obtain⟨q1,q2⟩:=law.2 (λq=>hz q.1);rw[<-PJ a0 b0]at q1 q2;exact ak call203 func203 (ae [.o 16 (.e (wR _ _):aj (.sl true 2 3 λi_ j_=>(jq a++jq b).getD (i_*3+j_) (.v (.bool false))) (nO [a,b])),ag [iP p,nO [a,b]] (xt _ _ _ aD aD aC aC),ai 19 ((0:Int) != 0) aE,ai 26 (((gY a.m).length:Int)==0) (nC (pJ a0)),ai 37 (((gY b.m).length:Int)==0) (nC (pJ b0)),ag [ie a] (oo _ aD),ag [ie b] (oo _ aD),tB 48 (a7 ht),.c (Kw b a p aD aD aD aD aD aC aC),ai 61 (((gY (mo b a p)).length:Int)==0) (nC (pJ hz)),.c (G7 (! (b.neg==(pU b a p))) (mo b a p) (jo b a p) (nD b a p) up p aC aD aC aC aC aC aD)]<|rQ (.ix [ie (kg (!(b.neg==(pU b a p))) (mo b a p) (jo b a p) (nD b a p) p up),iP (jR (!(b.neg==(pU b a p))) (mo b a p) (jo b a p) (nD b a p) p up)]) (.ix [ie (kf (iL a b) p up),iP (jS (iL a b) p up)]) (by rw[<-q1,<-q2];rfl)) 
   .have sT:b.iw<=a.iw:= aC ;have law:=Zo (p:=p) ha hb a0 b0 up;have siz:=KX ha hb a0 b0 sT ig;have prt:=PK ha hb a0 b0 sT ig;obtain⟨l1,l2,_,_,_,_,_,_,_⟩:=siz;have z1:(gY (mo a b p)).length<=256:=py aC;have rY:=prt.2.2;have y1:-45000<=jo a b p:= aC ;have y2:jo a b p<=45000:= aC ;by_cases hz:mo a b p=0
    .by_cases hl:nD a b p=true
     .have h0:mo a b p≠0:=by intro q;have:=rY hl;rw[q,sJ]at this;omega
      exact absurd hz h0
     .replace hz:mo a b p=0/\nD a b p=false:=⟨hz,by simpa using hl⟩
      have Ed:iL a b=ju:=by exact law.1 hz
      exact ak call203 func203 (ae [.o 16 (.e (wR _ _):aj (.sl true 2 3 λi_ j_=>(jq a++jq b).getD (i_*3+j_) (.v (.bool false))) (nO [a,b])),ag [iP p,nO [a,b]] (xt _ _ _ aD aD aC aC),ai 19 ((0:Int) != 0) aE,ai 26 (((gY a.m).length:Int)==0) (nC (pJ a0)),ai 37 (((gY b.m).length:Int)==0) (nC (pJ b0)),ag [ie a] (oo _ aD),ag [ie b] (oo _ aD),tB 48 (bc ht),.c (Kw a b p aD aD aD aD aD aC aC),ah 61 (((gY (mo a b p)).length:Int)==0) (s5 (sD.2 hz.1)),ai 64 (nD a b p) hz.2,.o 67 (.e sH:aj (.agg ar) (ie ju))]<|rQ (.ix [ie ju,iP 0]) (.ix [ie (kf (iL a b) p up),iP (jS (iL a b) p up)]) (by rw[Ed,(BC p up).1,(BC p up).2])) 
    .have h0:mo a b p≠0\/mo a b p=0/\jo a b p=0/\nD a b p=false:=.inl hz;obtain⟨q1,q2⟩:=law.2 (λq=>hz q.1);exact ak call203 func203 (ae [.o 16 (.e (wR _ _):aj (.sl true 2 3 λi_ j_=>(jq a++jq b).getD (i_*3+j_) (.v (.bool false))) (nO [a,b])),ag [iP p,nO [a,b]] (xt _ _ _ aD aD aC aC),ai 19 ((0:Int) != 0) aE,ai 26 (((gY a.m).length:Int)==0) (nC (pJ a0)),ai 37 (((gY b.m).length:Int)==0) (nC (pJ b0)),ag [ie a] (oo _ aD),ag [ie b] (oo _ aD),tB 48 (bc ht),.c (Kw a b p aD aD aD aD aD aC aC),ai 61 (((gY (mo a b p)).length:Int)==0) (nC (pJ hz)),.c (G7 (! (a.neg==(pU a b p))) (mo a b p) (jo a b p) (nD a b p) up p aC aD aC aC aC aC aD)]<|rQ (.ix [ie (kg (!(a.neg==(pU a b p))) (mo a b p) (jo a b p) (nD a b p) p up),iP (jR (!(a.neg==(pU a b p))) (mo a b p) (jo a b p) (nD a b p) p up)]) (.ix [ie (kf (iL a b) p up),iP (jS (iL a b) p up)]) (by rw[<-q1,<-q2];rfl)) 
def Xw(a b:Dy)(p:Nat)(up:Bool)(ha:a.ij)(hb:b.ij)(il:8<=p)(ig:p<=512):gW 291 [ie a,ie b,iP p,bP up] (.ix [ie (kf (nc a b) p up),iP (jS (nc a b) p up)]):=by
 by_cases a0:a.m=0
 .have e1:nc a b=ju:=by unfold nc;rw[a0,cJ];rfl
  exact ak call291 func291 (ae [.o 16 (.e (wR _ _):aj (.sl true 2 3 λi_ j_=>(jq a++jq b).getD (i_*3+j_) (.v (.bool false))) (nO [a,b])),ag [iP p,nO [a,b]] (xt _ _ _ aD aD aC aC),ai 19 ((0:Int) != 0) aE,ah 25 (((gY a.m).length:Int)==0) (s5 (sD.2 a0)),.o 32 (.e sH:aj (.agg ar) (ie ju))]<|rQ (.ix [ie ju,iP 0]) (.ix [ie (kf (nc a b) p up),iP (jS (nc a b) p up)]) (by rw[e1,(BC p up).1,(BC p up).2])) 
 .by_cases b0:b.m=0
  .have e1:nc a b=ju:=by unfold nc;rw[b0,cF];rfl
   exact ak call291 func291 (ae [.o 16 (.e (wR _ _):aj (.sl true 2 3 λi_ j_=>(jq a++jq b).getD (i_*3+j_) (.v (.bool false))) (nO [a,b])),ag [iP p,nO [a,b]] (xt _ _ _ aD aD aC aC),ai 19 ((0:Int) != 0) aE,ai 25 (((gY a.m).length:Int)==0) (nC (pJ a0)),ah 30 (((gY b.m).length:Int)==0) (s5 (sD.2 b0)),.o 32 (.e sH:aj (.agg ar) (ie ju))]<|rQ (.ix [ie ju,iP 0]) (.ix [ie (kf (nc a b) p up),iP (jS (nc a b) p up)]) (by rw[e1,(BC p up).1,(BC p up).2])) 
  .have va:=ha.gY;have vb:=hb.gY;have xa:=ha.exp;have xb:=hb.exp;have ra:=ha.range.resolve_left a0;have rb:=hb.range.resolve_left b0;have bm:=abt a.m b.m;have z1:(gY (a.m*b.m)).length<=256:=py aC;have m0:a.m*b.m≠0:=dD a0 b0;have h0:a.m*b.m≠0\/a.m*b.m=0/\a.e+b.e=0/\false=false:=.inl m0;have hm:false=true->p<iq (a.m*b.m):=λh=>by cases h
   obtain⟨q1,q2⟩:=XX (a.neg != b.neg) up (a.m*b.m) (a.e+b.e) p m0;change kf (nc a b) p up=_ at q1;change jS (nc a b) p up=_ at q2;exact ak call291 func291 (ae [.o 16 (.e (wR _ _):aj (.sl true 2 3 λi_ j_=>(jq a++jq b).getD (i_*3+j_) (.v (.bool false))) (nO [a,b])),ag [iP p,nO [a,b]] (xt _ _ _ aD aD aC aC),ai 19 ((0:Int) != 0) aE,ai 25 (((gY a.m).length:Int)==0) (nC (pJ a0)),ai 30 (((gY b.m).length:Int)==0) (nC (pJ b0)),ag [ic (gY a.m),ic (gY b.m)] (zW _ _ aC aC aC),iz (a.e+b.e) aC,.c (G7 (! (a.neg==b.neg)) (a.m*b.m) (a.e+b.e) false up p aC aD aC aC aC aC aD)]<|rQ (.ix [ie (kg (!(a.neg==b.neg)) (a.m*b.m) (a.e+b.e) false p up),iP (jR (!(a.neg==b.neg)) (a.m*b.m) (a.e+b.e) false p up)]) (.ix [ie (kf (nc a b) p up),iP (jS (nc a b) p up)]) (by rw[q1,q2];rfl)) 
def ajs(a b:Dy)(p:Nat)(ha:a.ij)(hb:b.ij)(il:8<=p)(ig:p<=512):gW 145 [ie a,ie b,iP p] (.ix [ie (kf (iL a b) p false),iP (jS (iL a b) p false)]):=
 ak call145 func145 (af [.c (Xq a b p false aD aD aC aC)]) 
def Xp(a b:Dy)(p:Nat)(ha:a.ij)(hb:b.ij)(il:8<=p)(ig:p<=512):gW 136 [ie a,ie b,iP p] (.ix [ie (kf (iL a b) p true),iP (jS (iL a b) p true)]):=
 ak call136 func136 (af [.c (Xq a b p true aD aD aC aC)]) 
def Kt(a b:Dy)(p:Nat)(ha:a.ij)(hb:b.ij)(il:8<=p)(ig:p<=512):gW 254 [ie a,ie b,iP p] (.ix [ie (kf (nc a b) p false),iP (jS (nc a b) p false)]):=
 ak call254 func254 (af [.c (Xw a b p false aD aD aC aC)]) 
def Ku(a b:Dy)(p:Nat)(ha:a.ij)(hb:b.ij)(il:8<=p)(ig:p<=512):gW 255 [ie a,ie b,iP p] (.ix [ie (kf (nc a b) p true),iP (jS (nc a b) p true)]):=
 ak call255 func255 (af [.c (Xw a b p true aD aD aC aC)]) 
end Go.Proofs.YtgdahmmlddfimaaGreatDoor
namespace Go.Proofs.YtgdahmmlddfimaaGreatDoor.Fp
def ahc{U V P q:Nat}(hP:0<P)(hV:9223372036854775808<=V/P)(hUV:U<4294967296*V)(h1:q<=4294967295)(h2:q<=U/P/(V/P))(h3:q=4294967295\/U/P/(V/P)<=q):
 U/V<=q/\q<=U/V+1:=by
 have MQ:0<V/P:= aC ;have wV:0<V:=by
  apply bU;intro h;have:V=0:= aC ;rw[this,Nat.zero_div]at MQ;omega
 have hVm:=cI V P;have hVr:=bH V hP;have hUm:=cI U P;have hUr:=bH U hP;constructor
 .
  rcases h3 with h3|h3
  .have:U/V<4294967296:=by rw[cD wV];exact hUV
   omega
  .refine bk ?_ h3;rw[dc MQ,dc hP,bC];have h4:V/P*P<=V:=de V P;exact bk (cL _ h4) (de U V)
 .
  have h4:q*(V/P)<=U/P:=(dc MQ).1 h2;have h5:q*V<=q*(V/P)*P+q*P:=by
   have:V<=V/P*P+P:=by rw[bG];omega
   have:=cL q this;rw[bO,<-bC]at this;exact this
  have h6:q*(V/P)*P<=U:=bk (bL P h4) (de U P);have h7:(q+1)*P<=V/P*P:=bL P aC;have h8:V/P*P<=V:=de V P;have h9:q*V<U+V:=by
   rw[bX,bZ]at h7;omega
  apply bU;intro h;have qw:(U/V+2)*V<=q*V:=bL V aC;have se:=cI U V;have h12:=bH U wV;rw[bX,bG (U/V)]at qw;omega
def ac2{x v w third q rest:Nat}(hx:q*v+rest=x)(hq:q<=4294967295)(hw:w<4294967296)(hv:0<v)
 (h:4294967296<=rest\/q*w<=rest*4294967296+third):q<=(x*4294967296+third)/(v*4294967296+w):=by
 rw[dc aC,bO,<-hx];have e:q*(v*4294967296)=q*v*4294967296:=by rw[bC]
 rw[e,bX];rcases h with h|h
 .have h1:q*w<=4294967295*4294967295:=dA hq aC ;omega
 .omega
def R9{x v w third q rest:Nat}(hx:q*v+rest=x)(hv:0<v)(h:rest*4294967296+third<q*w):
 (x*4294967296+third)/(v*4294967296+w)<=q-1/\0<q/\(q-1)*v+(rest+v)=x:=by
 have hq:0<q:=by
  apply bU;intro h';have:q=0:= aC ;subst this;rw[cJ]at h;omega
 obtain⟨r,rfl⟩:∃ r,q=r+1:=⟨q-1,aC⟩
 refine⟨?_,hq,?_⟩
 .have e1:(r+1)*(v*4294967296+w)=(r+1)*v*4294967296+(r+1)*w:=by rw[bO,<-bC]
  have e2:((r+1)*v+rest)*4294967296=(r+1)*v*4294967296+rest*4294967296:=bX _ _ _;have:(x*4294967296+third)/(v*4294967296+w)<r+1:=by
   have hd:0<v*4294967296+w:= aC ;have e4:x*4294967296=(r+1)*v*4294967296+rest*4294967296:=hx▸e2;refine(cD hd).2 ?_;rw[e1,e4];clear e1 e2 e4 hd hx hq;generalize (r+1)*v=a at *
   generalize (r+1)*w=z at *
   exact Nat.add_lt_add_left h _|>λh=>by rw[<-cR]at h;exact h
  omega
 .have e3:(r+1)*v=r*v+v:=gU r v;rw[eG];rw[e3]at hx;clear e3 h hq;generalize r*v=a at *
  omega
def ac4{x v w third:Nat}(hv:0<v)(ht:third<4294967296):(x*4294967296+third)/(v*4294967296+w)<=x/v:=by
 have h1:(x*4294967296+third)/(v*4294967296+w)<=(x*4294967296+third)/(v*4294967296):=gV aC aC;refine bk h1 ?_;rw[bG v,<-dt];have:(x*4294967296+third)/4294967296=x:= aC ;rw[this];exact bg _
structure xE(O0:List Nat)(j q:Nat)(V:List Nat)(k:Nat)(O:List Nat)(c b:Nat):Prop where
 len:O.length=O0.length
 ok:iN O
 vl:val O+q*(4294967296^j*val (V.take k))=val O0+4294967296^(j+k)*(c+b)
 qE:∀ i,j+k<=i->O.getD i 0=O0.getD i 0
 Ru:c<4294967296
 Rc:b<=1
def xE.start{O0:List Nat}(h:iN O0)(j q:Nat)(V:List Nat):xE O0 j q V 0 O0 0 0:=
 ⟨rfl,h,by simp[val],λ_ _=>rfl,aE,aE⟩
def amD{q y c b u:Nat}(hq:q<=4294967295)(hy:y<4294967296)(hc:c<4294967296)(hb:b<=1)(hu:u<4294967296):
 q*y+c<18446744073709551616/\(q*y+c)/4294967296<4294967296 /\
 ((u+18446744073709551616-(q*y+c)%4294967296-b)%18446744073709551616)/9223372036854775808<=1 /\
 ((u+18446744073709551616-(q*y+c)%4294967296-b)%18446744073709551616)%4294967296+(q*y+c)%4294967296+b =
  u+4294967296*(((u+18446744073709551616-(q*y+c)%4294967296-b)%18446744073709551616)/9223372036854775808):=by
 have h1:q*y<=4294967295*4294967295:=dA hq aC;generalize q*y=z at *
 omega
def xE.step{O0 V O:List Nat}{j q k c b:Nat}(h:xE O0 j q V k O c b){u' b':Nat}(hk:k<V.length)(hj:j+V.length<O0.length)(hu:u'<4294967296)(hc:(q*V.getD k 0+c)/4294967296<4294967296)(hb:b'<=1)
 (hd:u'+(q*V.getD k 0+c)%4294967296+b=O.getD (j+k) 0+4294967296*b'):
 xE O0 j q V (k+1) (O.set (j+k) u') ((q*V.getD k 0+c)/4294967296) b':=by
 have qx:j+k<O.length:=by rw[h.len];omega
 refine⟨by rw[c9];exact h.len,h.ok.set _ hu,?_,λi hi=>?_,hc,hb⟩
 .have e:=ef (q*V.getD k 0+c) 4294967296;have h1:=Dk (x:=u') qx;have h2:=h.vl;have h3:u'+(q*V.getD k 0+c)+b=O.getD (j+k) 0+4294967296*((q*V.getD k 0+c)/4294967296+b'):= aC ;have h4:=congrArg (4294967296^(j+k) * ·) h3;simp only[bO]at h4;rw[wJ,bO (4294967296^j),bO q,<-bC (4294967296^j),<-bt,show q*(4294967296^(j+k)*V.getD k 0)=4294967296^(j+k)*(q*V.getD k 0)from dQ _ _ _,
   show j+(k+1)=j+k+1 from rfl,bD,bC,bO 4294967296,bO (4294967296^(j+k))]
  rw[bO]at h2;omega
 .rw [AW aC];exact h.qE i aC 
def xE.NU{O0 V O:List Nat}{j q c b:Nat}(h:xE O0 j q V V.length O c b)(hj:j+V.length<O0.length){t:Nat}
 (ht:t=(O.getD (j+V.length) 0+18446744073709551616-c-b)%18446744073709551616):
 (O.set (j+V.length) (t%4294967296)).length=O0.length/\iN (O.set (j+V.length) (t%4294967296))/\t/9223372036854775808<=1 /\
 val (O.set (j+V.length) (t%4294967296))+q*(4294967296^j*val V)=val O0+4294967296^(j+V.length+1)*(t/9223372036854775808) /\
 ∀ i,j+V.length<i->(O.set (j+V.length) (t%4294967296)).getD i 0=O0.getD i 0:=by
 have qx:j+V.length<O.length:=by rw[h.len];omega
 have hc:=h.Ru;have hb:=h.Rc;have hu:=h.ok.getD (j+V.length);have hd:t%4294967296+c+b=O.getD (j+V.length) 0+4294967296*(t/9223372036854775808):= aC ;refine⟨by rw[c9];exact h.len,h.ok.set _ (bH _ aE),aC,?_,λi hi=>by rw[AW aC];exact h.qE i aC⟩;have h1:=Dk (x:=t%4294967296) qx;have h2:=h.vl;rw[eV]at h2;have h4:=congrArg (4294967296^(j+V.length) * ·) hd;simp only[bO]at h4;rw[bD,bC];rw[bO]at h2;omega
structure xC(O0:List Nat)(j:Nat)(V:List Nat)(k:Nat)(O:List Nat)(c:Nat):Prop where
 len:O.length=O0.length
 ok:iN O
 vl:val O+4294967296^(j+k)*c=val O0+4294967296^j*val (V.take k)
 qE:∀ i,j+k<=i->O.getD i 0=O0.getD i 0
 LL:c<=1
def xC.start{O0:List Nat}(h:iN O0)(j:Nat)(V:List Nat):xC O0 j V 0 O0 0:=
 ⟨rfl,h,by simp[val],λ_ _=>rfl,aE⟩
def xC.step{O0 V O:List Nat}{j k c:Nat}(h:xC O0 j V k O c)(hV:iN V)(hk:k<V.length)(hj:j+V.length<O0.length):
 xC O0 j V (k+1) (O.set (j+k) ((O.getD (j+k) 0+V.getD k 0+c)%4294967296)) ((O.getD (j+k) 0+V.getD k 0+c)/4294967296):=by
 have qx:j+k<O.length:=by rw[h.len];omega
 have hu:=h.ok.getD (j+k);have hy:=hV.getD k;have hc:=h.LL;refine⟨by rw[c9];exact h.len,h.ok.set _ (bH _ aE),?_,λi hi=>by rw[AW aC];exact h.qE i aC,aC⟩;have h1:=Dk (x:=(O.getD (j+k) 0+V.getD k 0+c)%4294967296) qx;have h2:=h.vl;have h4:=congrArg (4294967296^(j+k) * ·) (ef (O.getD (j+k) 0+V.getD k 0+c) 4294967296);simp only[bO]at h4;rw[wJ,bO (4294967296^j),<-bC (4294967296^j),<-bt,show j+(k+1)=j+k+1 from rfl,bD,bC];omega
def xC.NU{O0 V O:List Nat}{j c:Nat}(h:xC O0 j V V.length O c)(hj:j+V.length<O0.length):
 (O.set (j+V.length) ((O.getD (j+V.length) 0+c)%4294967296)).length=O0.length/\iN (O.set (j+V.length) ((O.getD (j+V.length) 0+c)%4294967296)) /\
 (∃ κ,κ<=1/\val (O.set (j+V.length) ((O.getD (j+V.length) 0+c)%4294967296))+4294967296^(j+V.length+1)*κ=val O0+4294967296^j*val V) /\
 ∀ i,j+V.length<i->(O.set (j+V.length) ((O.getD (j+V.length) 0+c)%4294967296)).getD i 0=O0.getD i 0:=by
 have qx:j+V.length<O.length:=by rw[h.len];omega
 have hu:=h.ok.getD (j+V.length);have hc:=h.LL;refine⟨by rw[c9];exact h.len,h.ok.set _ (bH _ aE),⟨(O.getD (j+V.length) 0+c)/4294967296,aC,?_⟩,λi hi=>by rw[AW aC];exact h.qE i aC⟩;have h1:=Dk (x:=(O.getD (j+V.length) 0+c)%4294967296) qx;have h2:=h.vl;rw[eV]at h2;have h4:=congrArg (4294967296^(j+V.length) * ·) (ef (O.getD (j+V.length) 0+c) 4294967296);simp only[bO]at h4;rw[bD,bC];omega
def ZP{O:List Nat}(h:iN O){k:Nat}(hz:∀ i,k<=i->O.getD i 0=0):val O<4294967296^k:=by
 by_cases hk:O.length<=k
 .exact bQ (oL h) (bK aE hk)
 .rw [E5 O k aC];have:val (O.drop k)=0:=by
   rw[Hz];intro x hx;obtain⟨i,hi⟩:=dk.1 hx;rw[dv]at hi;have:=hz (k+i) aC;rw[bh,hi]at this;exact this
  rw[this,cF,bR];have h1:=oL (h.take k);rw[b9,dg aC]at h1;exact h1
def amP{O:List Nat}(h:iN O){k:Nat}(hv:val O<4294967296^k){i:Nat}(hi:k<=i):O.getD i 0=0:=by
 have h1:val (O.drop k)=0:=by rw[Hy h,cW hv]
 rw[Hz]at h1;rw[bh];cases hg:O[i]? with
 |none=>rfl
 |some x=>exact h1 x (dk.2 ⟨i-k,by rw[dv,(aC:k+(i-k)=i)];exact hg⟩)
def Sa{u u' V P x:Nat}(hP:0<P)(hV:0<V)(h:u'+x*(P*V)=u)(hx:u/P/V<=x):x=u/P/V/\u'<V*P:=by
 have h1:x*V<=u/P:=by
  rw[dc hP,bC,bG V P];omega
 have h2:x<=u/P/V:=(dc hV).2 h1;have h3:x=u/P/V:= aC ;refine⟨h3,?_⟩;have e1:=cI u P;have e2:=bH u hP;have e3:=cI (u/P) V;have e4:=bH (u/P) hV;rw[<-h3]at e3;have e5:P*(u/P)=x*(P*V)+P*(u/P%V):=by
  rw[<-e3,bO,e3,bG V x,dQ]
 have e6:P*(u/P%V)+P<=V*P:=by
  rw[bG V P,<-Nat.mul_succ];exact cL P e4
 omega
def ac3{u u' u'' V P R x κ:Nat}(hP:0<P)(hV:0<V)(h:u'+x*(P*V)=u+R)(h':u'<R)(hx:x<=u/P/V+1)
 (hk:κ<=1) (h2:u''+R*κ=u'+P*V) (h3:u''<R):0<x/\x-1=u/P/V/\u''+(x-1)*(P*V)=u/\u''<V*P:=by
 have oz:u/P<x*V:=by
  rw[cD hP,bC,bG V P];omega
 have JR:u/P/V<x:=by rw[cD hV];exact oz
 have uZ:x=u/P/V+1:=Nat.le_antisymm hx JR;obtain⟨y,hy⟩:∃ y,y=u/P/V:=⟨_,rfl⟩
 rw[<-hy]at uZ;subst uZ;rw[eG];have e0:(y+1)*(P*V)=y*(P*V)+P*V:=gU _ _;have e1:y*(P*V)<=u:=by
  have:y*V<=u/P:=by rw[hy];exact de _ _
  have:=(dc hP).1 this;rw[bC,bG V P]at this;exact this
 have hκ:κ=1:=by
  apply bU;intro q;obtain rfl:κ=0:= aC ;omega
 subst hκ;have e2:u''+y*(P*V)=u:= aC ;exact⟨aC,hy,e2,(Sa hP hV e2 aC).2⟩
def tu(q rest third v w x:Nat):Prop:=rest+x*v<4294967296/\(rest+x*v)*4294967296+third<(q-x)*w
def R7{X q rest third v w:Nat}(hx:q*v+rest=X)(hq:q<=4294967295)(hv:2147483648<=v)(hw:w<4294967296):
 ∃ N,N<=2/\N<=q/\(∀ x,x<N->tu q rest third v w x)/\¬tu q rest third v w N/\q-N<=(X*4294967296+third)/(v*4294967296+w)/\(N=0\/(X*4294967296+third)/(v*4294967296+w)<=q-N):=by
 have stop:∀ {q' r':Nat},q'*v+r'=X->q'<=4294967295->¬(r'<4294967296/\r'*4294967296+third<q'*w)->q'<=(X*4294967296+third)/(v*4294967296+w):=fun {q' r'} h1 h2 h3=>
  ac2 h1 h2 hw aC (by
   by_cases hr:4294967296<=r'
   .exact .inl hr
   .refine .inr (Nat.le_of_not_lt λhn=>h3 ⟨Nat.lt_of_not_le hr,hn⟩))
 by_cases h0:tu q rest third v w 0
 .have g0:=h0;unfold tu at g0;rw[cJ,bR,dx]at g0;obtain⟨k1,k2,k3⟩:=R9 hx aC g0.2;by_cases h1:tu q rest third v w 1
  .have g1:=h1;unfold tu at g1;rw[bZ]at g1;obtain⟨l1,l2,l3⟩:=R9 k3 aC g1.2;have h2:¬tu q rest third v w 2:=λh=>by unfold tu at h;omega
   refine⟨2,bg _,aC,λx hx=>?_,h2,?_,.inr l1⟩
   .obtain rfl|rfl:x=0\/x=1:= aC 
    .exact h0
    .exact h1
   .refine stop (r':=rest+v+v) l3 aC λh=> aC 
  .refine ⟨1,aE,k2,λx hx=>?_,h1,?_,.inr k1⟩
   .obtain rfl:x=0:= aC ;exact h0
   .unfold tu at h1;rw[bZ]at h1;exact stop k3 aC h1
 .refine ⟨0,aE,bV _,λx hx=>absurd hx (bj x),h0,?_,.inl rfl⟩;unfold tu at h0;rw[cJ,bR,dx]at h0;exact stop hx hq h0
def adg{a b s q r:Nat}(hb:0<b)(h:r+b*2^s*q=a*2^s)(hr:r<b*2^s):q=a/b/\r=a%b*2^s:=by
 have hp:0<2^s:=bw aE;have h1:r%2^s=0:=by
  have:=congrArg (· % 2^s) h;simp only[fR]at this;rw[bC,dQ,dY]at this;exact this
 obtain⟨t,ht⟩:∃ t,r=t*2^s:=⟨r/2^s,by rw[Nat.div_mul_cancel (Nat.dvd_of_mod_eq_zero h1)]⟩
 subst ht;have h2:(t+b*q)*2^s=a*2^s:=by rw[bX,<-h,gq]
 have h3:=aoP hp h2;have h4:t<b:=aoQ hr;constructor
 .rw [<-h3,e9 _ _ hb,cW h4,b5]
 .rw [<-h3,dY,ca h4]
def ZB{O:List Nat}(h:iN O){j n:Nat}(hn:2<=n)(hz:∀ i,j+n<i->O.getD i 0=0):
 val O/4294967296^j/4294967296^(n-2)=(O.getD (j+n) 0*4294967296+O.getD (j+n-1) 0)*4294967296+O.getD (j+n-2) 0:=by
 rw[dt,<-bt,<-Hy h];have e:∀ (l:List Nat),iN l->(∀ i,2<i->l.getD i 0=0)->val l=(l.getD 2 0*4294967296+l.getD 1 0)*4294967296+l.getD 0 0:=by
  intro l hl hz;rcases l with _|⟨a,_|⟨b,_|⟨c,l⟩⟩⟩
  .rfl
  .simp [val]
  .simp [val];omega
  .have:val l=0:=by
    rw[Hz];intro x hx;obtain⟨i,hi⟩:=dk.1 hx;have:=hz (i+3) aC;rw[bh]at this;simp only[aop,hi]at this;exact this
   simp[val,this];omega
 have g:∀ i,(O.drop (j+(n-2))).getD i 0=O.getD (j+(n-2)+i) 0:=λi=>by
  rw[bh,dv,bh]
 rw[e _ (h.drop _) (λi hi=>by rw[g];exact hz _ aC),g,g,g];rw[(aC:j+(n-2)+2=j+n),(aC:j+(n-2)+1=j+n-1),(aC:j+(n-2)+0=j+n-2)]
def amN{V:List Nat}(h:iN V){n:Nat}(hn:2<=n)(hl:V.length=n):val V/4294967296^(n-2)=V.getD (n-1) 0*4294967296+V.getD (n-2) 0:=by
 have:=ZB (O:=V) h (j:=0) (n:=n) hn (λi hi=>by rw[bh,cj aC];rfl);rw[cE,fF,b5]at this;rw[this,show V.getD n 0=0 by rw[bh,cj aC];rfl];omega
end Go.Proofs.YtgdahmmlddfimaaGreatDoor.Fp
namespace Go.Proofs.YtgdahmmlddfimaaGreatDoor
open Go.RowKit Fp
def Rx(w:World)(b:Nat)(L:List Nat)(R:List Value):Prop:=w.heap[b]? = some (.cells (oK L++R).toArray 171 (0,0))
section
variable {w w':World} {b:Nat} {L:List Nat} {R:List Value}
def Rx.lt(h:Rx w b L R):b<w.heap.size:=(cT.1 h).1
def Rx.cell(h:Rx w b L R){i:Nat}(hi:i<L.length):w.cell? ⟨b,i,none⟩=some (.int .u32 (L.getD i 0:Int)):=by
 unfold Rx at h;simp only[World.cell?,h];simp[oK,hi,dM]
def Rx.frozen(h:Rx w b L R)(i:Nat):w.frozen? ⟨b,i,none⟩=false:=by
 unfold Rx at h;simp[World.frozen?,h]
def Rx.set(h:Rx w b L R){i:Nat}(hi:i<L.length)(x:Nat):Rx (w.setCell ⟨b,i,none⟩ (.int .u32 (x:Int))) b (L.set i x) R:=by
 unfold Rx at h ⊢;simp only[World.setCell,fe,h];simp[oK,List.map_set,List.set_append,hi]
def Rx.qE(h:Rx w b L R)(hb:w'.heap[b]? = w.heap[b]?):Rx w' b L R:=by unfold Rx at h ⊢;rw[hb];exact h
end
structure tg(b:Nat)(w w':World):Prop where
 below:Below b w w'
 size:w'.heap.size=w.heap.size
 pj:∀ x,x≠b->w'.heap[x]? = w.heap[x]?
def tg.refl(b:Nat)(w:World):tg b w w:=⟨Below.refl _ _,rfl,λ_ _=>rfl⟩
def tg.Hj{b:Nat}{w w':World}(h:tg b w w')(i:Nat)(v:Value):tg b w (w'.setCell ⟨b,i,none⟩ v):=
 ⟨h.below.setCell (p:=⟨b,i,none⟩) (bg _) v,by
  have:(w'.setCell ⟨b,i,none⟩ v).heap.size=w'.heap.size:=by simp[World.setCell]
  rw[this,h.size],λx hx=>by
  rw[<-h.pj x hx];simp only[World.setCell,fe];rw[aZ (λe=>hx e.symm)]⟩
def Qb(b:Nat)(A:Option Addr):Prop:=∀ b' o s,A=some ⟨b',o,s⟩->b'≠b
def Sl.pj{w w':World}{A:Option Addr}{c b:Nat}{L:List Nat}(h:Sl w A c L)(ha:Qb b A)(ho:tg b w w'):Sl w' A c L:=
 ⟨h.cap,h.ri,h.ok,h.yo,λi x hx=>by
  obtain⟨b',o,e,h1,h2⟩:=h.cell i x hx;refine⟨b',o,e,by rw[ho.size];exact h1,?_⟩;rw[<-h2];exact(World.cell?_of_block (w:=w) (w':=w') (ho.pj b' (ha _ _ _ e)))⟩
def Z4{u m b:Nat}(hm:m<4294967296)(hb:b<=4294967296):
 IntKind.u64.wrap (IntKind.u64.wrap ((u:Int)-m)-(b:Int))=(((u+18446744073709551616-m-b)%18446744073709551616:Nat):Int):=by
 rw[IntKind.wrap_u64,IntKind.wrap_u64];omega
def amB(b j cu c q:Nat)(O V:List Nat)(R:List Value)(A:Option Addr)(w:World)(hu:Rx w b O R)(hv:Sl w A c V)(hA:Qb b A)(kj:iN O)(hj:j+V.length<O.length)(hq:q<=4294967295)(hl:O.length<=1000000):
 Calls prog 338 #[.slice (some ⟨b,j,none⟩) (V.length+1) cu,.slice A V.length c,.int .u64 q] w λe w'=>∃ (O':List Nat) (δ:Nat),e = .returned (.bool (decide (δ=1)))/\Rx w' b O' R/\O'.length=O.length/\iN O'/\δ<=1 /\
  val O'+q*(4294967296^j*val V)=val O+4294967296^(j+V.length+1)*δ/\(∀ i,j+V.length<i->O'.getD i 0=O.getD i 0)/\tg b w w':=by
 obtain⟨n,hn⟩:∃ n,n=V.length:=⟨_,rfl⟩
 rw[<-hn]at hj ⊢;have HN:=aoX hn;have HJ:=aoX hj;clear hn;have jG:n<=1000000:= aC ;have hjl:j<=1000000:= aC ;clear hj;have HT0:=aoX (xE.start kj j q V);clear kj;have HO:=aoX (tg.refl b w);have HU:=aoX hu;clear hu;go_enter func338,ntmps338;go_wp2;go_loopw [7,8,9,10,11,12,16] (λcy bo _ _ _ _ i wr=>∃ (k c' b':Nat) (O':List Nat),k<=n/\i = .int .i64 k/\cy = .int .u64 c'/\bo = .int .u64 b'/\xE O j q V k O' c' b'/\Rx wr b O' R/\tg b w wr) (λ_ _ _ _ _ _ i _=>n-(intOf i).toNat)
 case atStart=>
  exact⟨0,0,0,O,bV _,rfl,rfl,rfl,HT0.out,HU.out,HO.out⟩
 case round=>
  obtain⟨k,c',b',O',hk,rfl,rfl,rfl,ht,hR,ho⟩:=hrel;clear HT0 HO HU;have HTk:=aoX ht;have jK:=ht.Rc;have A9:=ht.Ru;have HOl:=aoX ht.len;clear ht;have Ny:=hv.pj hA ho;by_cases iB:k<n
  .have zj:k<V.length:=by rw[<-HN.out];exact iB
   obtain⟨ab,ao,e1,_,c1⟩:=Ny.mv zj;have qD:V.getD k 0<4294967296:=hv.ok.getD k;have UY:V[k]=V.getD k 0:=by simp[bh,zj]
   rw[UY]at c1;have qx:j+k<O'.length:=by rw[HOl.out];have:=HJ.out;omega
   have c2:=hR.cell qx;have c3:=hR.frozen (j+k);have Gm:O'.getD (j+k) 0<4294967296:=HTk.out.ok.getD _;obtain⟨uY,kJ,Gi,UC⟩:=amD hq qD A9 jK Gm;have HST:=aoX (HTk.out.step (b':=((O'.getD (j+k) 0+18446744073709551616-(q*V.getD k 0+c')%4294967296-b')%18446744073709551616)/9223372036854775808) zj (by rw[<-HN.out];exact HJ.out) (bH _ aE) kJ Gi UC);have HRS:=aoX (λx:Nat=>hR.set qx x);have HOS:=aoX (λ(v:Value)=>ho.Hj (j+k) v);clear hR ho HTk qx UY zj UC HOl Ny;subst e1;have hm1:q*V.getD k 0<=4294967295*4294967295:=dA hq aC;have CC:IntKind.u64.wrap ((q:Int)*(V.getD k 0:Int))=((q*V.getD k 0:Nat):Int):=by rw[<-eR];exact sd _ aC 
   generalize V.getD k 0=y at *
   generalize q*y=z at *
   have JP:IntKind.u64.wrap ((z:Int)+c')=((z+c':Nat):Int):=by rw[<-fX];exact sd _ aC 
   generalize O'.getD (j+k) 0=u at *
   generalize z+c'=s at *
   have zp:bits .and .u64 (s:Int) 4294967295=((s%4294967296:Nat):Int):=by rw[yQ s aC];omega
   have an0:s%4294967296<4294967296:=bH _ aE;have hd:(s:Int)/4294967296=((s/4294967296:Nat):Int):= aC ;generalize s%4294967296=m at *
   generalize s/4294967296=s2 at *
   have hsb:=Z4 (u:=u) (m:=m) (b:=b') aC aC;generalize (u+18446744073709551616-m-b')%18446744073709551616=t at *
   have zf:(j:Int)+k=((j+k:Nat):Int):= aC ;go_wp2;go_roundw
   case rel=>
    have e1:((t:Int)%4294967296)=((t%4294967296:Nat):Int):= aC ;exact⟨k+1,s2,t/9223372036854775808,O'.set (j+k) (t%4294967296),aC,by go_num,by go_num,by go_num,HST.out,by rw[e1];exact HRS.out _,HOS.out _⟩
   case measure=>simp[intOf];omega
  .obtain rfl:k=n:= aC ;have Na:j+k<O.length:=HJ.out;have HTk':=aoX (show xE O j q V V.length O' c' b' by rw[<-HN.out];exact HTk.out);have HL:=HTk'.out.NU (t:=(O'.getD (j+k) 0+18446744073709551616-c'-b')%18446744073709551616) (by rw[<-HN.out];exact Na) (by rw[<-HN.out]);rw[<-HN.out]at HL;have HT:=aoX HL;clear HL;have qx:j+k<O'.length:=by rw[HOl.out];exact Na
   have c2:=hR.cell qx;have c3:=hR.frozen (j+k);have Gm:O'.getD (j+k) 0<4294967296:=HTk.out.ok.getD _;have HRS:=aoX (λx:Nat=>hR.set qx x);have HOS:=aoX (λ(v:Value)=>ho.Hj (j+k) v);clear hR ho HTk HTk' qx Na HOl Ny;generalize O'.getD (j+k) 0=u at *
   have hsb:=Z4 (u:=u) (m:=c') (b:=b') A9 aC;have htl:(u+18446744073709551616-c'-b')%18446744073709551616<18446744073709551616:=bH _ aE;generalize (u+18446744073709551616-c'-b')%18446744073709551616=t at *
   have zf:(j:Int)+k=((j+k:Nat):Int):= aC ;go_wp2;go_ret;have e1:((t:Int)%4294967296)=((t%4294967296:Nat):Int):= aC ;obtain⟨t1,t2,t3,t4,t5⟩:=HT.out;exact⟨O'.set (j+k) (t%4294967296),t/9223372036854775808,KF (a:=(((t:Int)/9223372036854775808)==1)) (by rw[dI,beq_iff_eq,gN];omega),by rw[e1];exact HRS.out _,t1,t2,t3,t4,t5,HOS.out _⟩
def WE(A:Option Addr)(c:Nat)(L:List Nat)(n:Nat)(w:World)(hs:Sl w A c L)(hlen:L.length<=100000000)(hn:n<=65536):
 Calls prog 293 #[.slice A L.length c,.int .i64 n] w (λe w'=>∃ T v,e = .returned v/\val T=val L*2^n/\T.length=n/32+(iG L).length+1/\Ow w' w.heap.size v T/\iI w w'):=by
 have hT:=aoX (vj A c L w hs);have kJ:=hs.uC;have ot:=pV L;have hC:=kJ.cap;have hL:=hs.ri;unfold mR at ot;have hv:=aoX (qs L);generalize iG L=M at *
 obtain⟨m,hm⟩:∃ m,m=M.length:=⟨_,rfl⟩
 rw[<-hm]at hT ot hC;have HM:=aoX hm;clear hm;have qk:=N5 (n/32) (n/32+m+1) aC aC;rw[show((n/32:Nat):Int)=n/32 by omega,show((n/32+m+1:Nat):Int)=n/32+m+1 by omega]at qk;have FZ:=aoX (Ow.zS w w.heap.size (n/32) (n/32+m+1) (bg _) aC aC);go_enter func293,ntmps293;go_wp2_with fail;refine hT.out.mono ?_;rintro e w' ⟨rfl,rfl⟩;go_wp2;go_loopw [5,6,23] (λv cy i wr=>∃ (k q:Nat) (O:List Nat),k<=m/\i = .int .i64 k/\cy = .int .u64 q/\q<2^(n%32)/\O.length=n/32+k/\val O+4294967296^(n/32+k)*q=val (M.take k)*2^(n%32)*4294967296^(n/32)/\Ow wr w.heap.size v O/\iI w wr) (λ_ _ i _=>m-(intOf i).toNat)
 case atStart=>
  exact⟨0,0,List.replicate (n/32) 0,bV _,rfl,rfl,bw aE,aH,by simp[BP],FZ.out,iI.alloc _ _⟩
 case round=>
  obtain⟨k,q,O,hk,rfl,rfl,hq,hO,lq,lk,hb⟩:=hrel;have HV:=aoX lq;have HO:=aoX hO;have FY:O.length<=200000000:= aC ;have vY:=aoX hq;clear lq hO hq;obtain⟨OA,Oc,rfl,xd⟩:=lk.sl;by_cases iB:k<m
  .have pO:k<M.length:=by have:=HM.out;omega
   obtain⟨ab,ao,rfl,_,c1⟩:=(kJ.below hb).mv pO;have nh:M[k]<4294967296:=kJ.ok.get pO;have HX:=aoX (Pz (c:=q) (s:=n%32) (n0:=n/32) pO HO.out HV.out);generalize M[k]=x at *
   obtain⟨hw,wa,wb⟩:=PA x q (n%32) nh (bH _ aE) vY.out;generalize x*2^(n%32)+q=z at *
   have CE:=aoX wb;clear wb;have kY:O.length+[z%4294967296].length<=10000000000:= aN ;go_wp2_with (at_builtin;go_must (refine sG aG _ _ aG w.heap.size _ O aG (lk.alloc _) _ _ _ [z%4294967296] aG aG (Sl.ux _ _ (z%4294967296) aC aC) kY (r8 hb.size _) ?_);intro v' w1 pf hg qi)
   go_roundw
   case rel=>
    exact⟨k+1,z/4294967296,O++[z%4294967296],aC,by go_num,by go_num,CE.out,by rw[cg,HO.out];rfl,HX.out,pf,(hb.trans (iI.alloc _ _)).own _ _ (lk.alloc _) hg⟩
   case measure=>simp[intOf];omega
  .obtain rfl:k=m:= aC ;have kY:O.length+[q].length<=10000000000:= aN ;have JK:q<4294967296:=by
    have:=vY.out;have hp:2^(n%32)<=2^31:=bK aE aC;have e31:(2:Nat)^31=2147483648:= aE ;omega
   have UB:(q:Int)%4294967296=q:= aC ;go_wp2_with (at_builtin;go_must (refine sG aG _ _ aG w.heap.size _ O aG (lk.alloc _) _ _ _ [q] aG aG (Sl.ux _ _ q aC aC) kY (r8 hb.size _) ?_);intro v' w1 pf hg qi)
   go_ret;refine⟨O++[q],v',rfl,?_,by rw[cg,HO.out,<-HM.out];rfl,pf,(hb.trans (iI.alloc _ _)).own _ _ (lk.alloc _) hg⟩;have h:=HV.out;rw[cH (by rw[HM.out];exact bg _)]at h;rw[vE,HO.out,qX,Ap,cF,bR,h,<-hv.out,sF,bC,<-bt];congr 2;omega
end Go.Proofs.YtgdahmmlddfimaaGreatDoor
namespace Go.Proofs.YtgdahmmlddfimaaGreatDoor.Fp
def pr(n k:Nat):Nat:=n/4294967296^k%4294967296
def LZ(n k:Nat):pr n k<4294967296:=bH _ aE 
def ac1(k:Nat):pr 0 k=0:=by unfold pr;rw[Nat.zero_div]
def pw(k:Nat):0<4294967296^k:=bw aE 
def Jb{L:List Nat}(h:iN L)(k:Nat):L.getD k 0=pr (val L) k:=by
 unfold pr;rw[<-Hy h];by_cases hk:k<L.length
 .rw [fc hk,show val (L[k]::L.drop (k+1))=L[k]+4294967296*val (L.drop (k+1))from rfl,dY,ca (h.get hk)];simp[bh,hk]
 .rw [dZ aC,bh,cj aC];rfl
def mod_succ(n k:Nat):n%4294967296^(k+1)=n%4294967296^k+4294967296^k*pr n k:=by
 rw[bD,Nat.mod_mul];rfl
def pt(n m:Nat):List Nat:=(List.range m).map (pr n)
def AN(n m:Nat):(pt n m).length=m:=by simp[pt]
def FB(n m:Nat):iN (pt n m):=λx hx=>by
 obtain⟨k,_,rfl⟩:=cX.1 hx;exact LZ n k
def ac6{n m k:Nat}(h:k<m):(pt n m).getD k 0=pr n k:=by
 simp[pt,bh,h]
def ac5(m i:Nat):(pt 0 m).getD i 0=0:=by
 by_cases h:i<m
 .rw [ac6 h,ac1]
 .rw [bh,cj (by rw[AN];omega)];rfl
def ac7(n m:Nat):pt n (m+1)=pt n m++[pr n m]:=by simp[pt,List.range_succ]
def Hw(n m:Nat):val (pt n m)=n%4294967296^m:=by
 induction m with
 |zero=>simp[pt,val];omega
 |succ m ih=>
  rw[ac7,vE,ih,AN,mod_succ];rfl
def am7{L M:List Nat}(hL:iN L)(hM:iN M)(hl:L.length=M.length)(hv:val L=val M):L=M:=by
 apply fZ hl;intro i h1 h2;have e1:=Jb hL i;have e2:=Jb hM i;rw[hv,<-e2]at e1;simpa[bh,h1,h2]using e1
def ac8{L:List Nat}(h:iN L):pt (val L) L.length=L:=
 am7 (FB _ _) h (AN _ _) (by rw[Hw,ca (oL h)])
def L3{L:List Nat}{n m:Nat}(h:iN L)(hl:L.length=m)(hv:val L=n):pt n m=L:=by subst hl hv;exact ac8 h
def pR(a b k m:Nat):List Nat:=(List.range m).map λj=>if j<k then pr a j else pr b j
def ahT(a b k m:Nat):(pR a b k m).length=m:=by simp[pR]
def ahV(a b m:Nat):pR a b 0 m=pt b m:=by simp[pR,pt]
def ahS{a b k m:Nat}(h:m<=k):pR a b k m=pt a m:=by
 unfold pR pt;exact eH λj hj=>a6 (bQ (bS.1 hj) h)
def an8{a b k m:Nat}:(pR a b k m).set k (pr a k)=pR a b (k+1) m:=by
 apply fZ
 .simp [pR]
 .intro j h1 h2;have hj:j<m:=by simpa[pR]using h2
  rw[List.getElem_set];by_cases h:k=j
  .subst h;simp[pR]
  .rw [aZ h];simp only[pR,List.getElem_map,List.getElem_range];by_cases q:j<k
   .rw [a6 q,a6 aC]
   .rw [aZ q,aZ aC]
def ahU{a b k m:Nat}:(pR a b (k+1) m).set k (pr b k)=pR a b k m:=by
 apply fZ
 .simp [pR]
 .intro j h1 h2;have hj:j<m:=by simpa[pR]using h2
  rw[List.getElem_set];by_cases h:k=j
  .subst h;simp[pR]
  .rw [aZ h];simp only[pR,List.getElem_map,List.getElem_range];by_cases q:j<k
   .rw [a6 q,a6 aC]
   .rw [aZ q,aZ aC]
def adi(a k:Nat):a/4294967296^k=4294967296*(a/4294967296^(k+1))+pr a k:=by
 rw[bD,<-dt];unfold pr;omega
def alA{a d k:Nat}(hd:0<d)(Bb:d<4294967296):(a/4294967296^(k+1)%d*4294967296+pr a k)/d=pr (a/d) k/\(a/4294967296^(k+1)%d*4294967296+pr a k)%d=a/4294967296^k%d:=by
 have e1:=adi a k;have e2:=cI (a/4294967296^(k+1)) d;have e3:=bH (a/4294967296^(k+1)) hd;have e4:=LZ a k;have e5:a/4294967296^k=d*(4294967296*(a/4294967296^(k+1)/d))+(a/4294967296^(k+1)%d*4294967296+pr a k):=by
  rw[e1,dQ];omega
 have e6:(a/4294967296^(k+1)%d*4294967296+pr a k)/d<4294967296:=by
  rw[cD hd];have:=bL 4294967296 (show a/4294967296^(k+1)%d+1<=d from e3);omega
 constructor
 .conv=>rhs;unfold pr
  rw[dt,bG d,<-dt,e5,aoq hd,fU,ca e6]
 .rw [e5,fU]
structure sI(U0:Nat)(V:List Nat)(k m:Nat)(O Q:List Nat):Prop where
 VL:O.length=m
 Gz:Q.length=m-V.length
 Ab:iN O
 C3:iN Q
 eq:val O+val V*val Q=U0
 lt:val O<val V*4294967296^k
 qz:∀ i,i<k->Q.getD i 0=0
def sI.step{U0 k m x:Nat}{V O Q O2:List Nat}(h:sI U0 V (k+1) m O Q)(hk:k<m-V.length)(hl:O2.length=m)(kj:iN O2)(hx:x<4294967296)
 (he:val O2+x*(4294967296^k*val V)=val O) (iB:val O2<val V*4294967296^k):sI U0 V k m O2 (Q.set k x):=by
 have zi:k<Q.length:=by rw[h.Gz];exact hk
 have hv:=Dk (x:=x) zi;rw[h.qz k (ew k),cF,bR]at hv;refine⟨hl,by rw[c9];exact h.Gz,kj,h.C3.set _ hx,?_,iB,λi hi=>by rw[AW aC];exact h.qz i aC⟩;rw[hv,bO,show val V*(4294967296^k*x)=x*(4294967296^k*val V)by simp only[bG,dQ,bC]];have:=h.eq;omega
def sI.zero{U0 k m:Nat}{V O Q:List Nat}(h:sI U0 V (k+1) m O Q)(hV:iN V){i:Nat}(hi:k+V.length<i):O.getD i 0=0:=by
 refine amP h.Ab (k:=k+V.length+1) ?_ hi;refine fB h.lt ?_;have:=dh (oL hV) (pw (k+1));rw[<-bt,(aC:V.length+(k+1)=k+V.length+1)]at this;exact this
def sI.afw{U0 k m:Nat}{V O Q:List Nat}(h:sI U0 V (k+1) m O Q)(hV:iN V)(hn:2<=V.length)(hN:2147483648<=V.getD (V.length-1) 0):
 O.getD (k+V.length) 0<=V.getD (V.length-1) 0/\∀ g,g<=4294967295 ->
  g<=((O.getD (k+V.length) 0*4294967296+O.getD (k+V.length-1) 0)*4294967296+O.getD (k+V.length-2) 0)/(V.getD (V.length-1) 0*4294967296+V.getD (V.length-2) 0) ->
  (g=4294967295\/((O.getD (k+V.length) 0*4294967296+O.getD (k+V.length-1) 0)*4294967296+O.getD (k+V.length-2) 0)/(V.getD (V.length-1) 0*4294967296+V.getD (V.length-2) 0)<=g) ->
  val O/4294967296^k/val V<=g/\g<=val O/4294967296^k/val V+1:=by
 have t3:=ZB h.Ab (j:=k) hn (λi hi=>h.zero hV hi);have t2:=amN hV hn rfl;have hU:val O/4294967296^k<4294967296*val V:=by
  rw[cD (pw k)];have:=h.lt;rw[bD]at this;rw[show 4294967296*val V*4294967296^k=val V*(4294967296^k*4294967296)by simp only[bG,dQ,bC]];exact this
 have w1:=h.Ab.getD (k+V.length-1);have w2:=h.Ab.getD (k+V.length-2);have w3:=hV.getD (V.length-2);refine⟨?_,λg g1 g2 g3=>?_⟩
 .have hP:=pw (V.length-2);have h1:val V<(V.getD (V.length-1) 0*4294967296+V.getD (V.length-2) 0+1)*4294967296^(V.length-2):=by
   rw[<-t2,<-cD hP];omega
  have h2:val O/4294967296^k/4294967296^(V.length-2)<4294967296*(V.getD (V.length-1) 0*4294967296+V.getD (V.length-2) 0+1):=by
   rw[cD hP];refine bQ hU ?_;rw[bC];exact cL _ (dq h1)
  rw[t3]at h2;omega
 .rw [<-t3,<-t2]at g2 g3;exact ahc (pw _) (by rw[t2];omega) hU g1 g2 g3
def sI.W6{U0 k m x:Nat}{V O Q O':List Nat}(h:sI U0 V (k+1) m O Q)(hV:iN V)(kj:iN O')(hv:val O'+x*(4294967296^k*val V)=val O+4294967296^(k+V.length+1)*1)
 (hs:∀ i,k+V.length<i->O'.getD i 0=O.getD i 0):val O'<4294967296^(k+V.length+1)/\0<x:=by
 have h1:val O'<4294967296^(k+V.length+1):=ZP kj λi hi=>by rw[hs i aC];exact h.zero hV aC 
 refine⟨h1,?_⟩;rcases ep x with h0|h0
 .subst h0;rw[cJ]at hv;omega
 .exact h0
def sI.abi{U0 k m x κ:Nat}{V O Q O' O2:List Nat}(h:sI U0 V (k+1) m O Q)(hV:iN V)(hk:k<m-V.length)(kj:iN O')(hv:val O'+x*(4294967296^k*val V)=val O+4294967296^(k+V.length+1)*1)
 (hs:∀ i,k+V.length<i->O'.getD i 0=O.getD i 0) (hx:x<=4294967295) (uZ:x<=val O/4294967296^k/val V+1) (wV:0<val V) (ot:O2.length=m) (Uw:iN O2) (hκ:κ<=1)
 (h2:val O2+4294967296^(k+V.length+1)*κ=val O'+4294967296^k*val V) (kJ:∀ i,k+V.length<i->O2.getD i 0=O'.getD i 0):sI U0 V k m O2 (Q.set k (x-1)):=by
 obtain⟨h1,h0⟩:=h.W6 hV kj hv hs;have h3:val O2<4294967296^(k+V.length+1):=ZP Uw λi hi=>by rw[kJ i aC,hs i aC];exact h.zero hV aC 
 rw[b8]at hv;obtain⟨_,_,e,l⟩:=ac3 (pw k) wV hv h1 uZ hκ h2 h3;exact h.step (x:=x-1) hk ot Uw aC e l
def aiq{L:List Nat}{x s l:Nat}(hk:iN L)(hl:L.length=l+1)(hx:L.getD l 0=x)(oz:x≠0)(hs:s=32-iq x):
 s<32/\(gY (val L*2^s)).length=l+1/\2147483648<=(gY (val L*2^s)).getD l 0/\4294967296^l*2147483648<=val L*2^s/\val L*2^s<4294967296^(l+1):=by
 have nh:x<4294967296:=by rw[<-hx];exact hk.getD l
 have jK:=o0 oz;have kK:iq x<=32:=mj.2 nh;have h1:=tV oz;have h2:=sf x;have e1:2^(iq x-1)*2^s=2147483648:=by rw[<-bt,(aC:iq x-1+s=31)]
 have e2:2^iq x*2^s=4294967296:=by rw[<-bt,(aC:iq x+s=32)]
 have hp:0<2^s:=bw aE;have hv:val L=val (L.take l)+4294967296^l*x:=by
  have:=wJ L l;rw[cH aC,hx]at this;exact this
 have D3:val (L.take l)<4294967296^l:=by
  have:=oL (hk.take l);rw[b9,dg aC]at this;exact this
 have g1:4294967296^l*2147483648<=val L*2^s:=by
  rw[<-e1,<-bC];refine bL _ ?_;rw[hv];exact bk (cL _ h1) (Nat.le_add_left _ _)
 have g2:val L*2^s<4294967296^(l+1):=by
  have e3:4294967296^(l+1)=4294967296^l*(2^iq x*2^s):=by rw[bD,e2]
  rw[e3,<-bC];refine dh ?_ hp;rw[hv];have:=cL (4294967296^l) (show x+1<=2^iq x from h2);rw[bO,b8]at this;omega
 have hlen:(gY (val L*2^s)).length=l+1:=by
  have u1:=wk g2;have u2:¬(gY (val L*2^s)).length<=l:=λh=>by
   have:=Es h;have:=pw l;omega
  omega
 refine⟨aC,hlen,?_,g1,g2⟩;rw[Jb (mz _),kr];unfold pr;rw[ca (by rw[cD (pw l),bG 4294967296,<-bD];exact g2),dc (pw l),bG];exact g1
def sI.start{A s:Nat}{V O:List Nat}(hO:iN O)(hv:val O=A*2^s){la:Nat}(hA:A<4294967296^la)(hl:O.length=la+1)(hs:s<32)(hn:1<=V.length)(jG:V.length<=la)(hV:4294967296^(V.length-1)*2147483648<=val V):
 sI (A*2^s) V (la+1-V.length) (la+1) O (List.replicate (la+1-V.length) 0):=by
 refine⟨hl,aH,hO,iN.EL _,by rw[BP,cF,bR,hv],?_,λi _=>?_⟩
 .rw [hv];have FW:2^s<=2^31:=bK aE aC;have afA:(2:Nat)^31=2147483648:= aE ;rw[afA]at FW;have h1:A*2^s<4294967296^la*2^s:=dh hA (bw aE);have h2:=cL (4294967296^la) FW;have h3:=bL (4294967296^(la+1-V.length)) hV;rw[gq,<-bt,(aC:V.length-1+(la+1-V.length)=la)]at h3;omega
 .rw [bh,eP];split<;>rfl
end Go.Proofs.YtgdahmmlddfimaaGreatDoor.Fp
namespace Go.Proofs.YtgdahmmlddfimaaGreatDoor
open Go.RowKit Fp Pu
def Hk(n:Nat)(h:n<4294967296):IntKind.u64.wrap ((n:Int)*2^32)=((n*4294967296:Nat):Int):=by rw[IntKind.wrap_u64];omega
def GU(a b:Nat)(ha:a<4294967296)(hb:b<4294967296):bits .or .u64 ((a*4294967296:Nat):Int) (b:Int)=((a*4294967296+b:Nat):Int):=by
 rw[K3 _ _ aC aC,Nat.or_comm,show a*4294967296=a*2^32 by rfl,Kl b a 32 (by simpa using hb),Nat.add_comm]
def akx{T n n' p:Nat}{L L':List Nat}{z:Nat}(hn:n=n')(hp:p<L.length)(hs:L.set p z=L'):Bx.le (.row false T n 1 λi' j'=>if i'=p/\0<=j'/\j'<0+1 then[.v (.int .u32 (z:Int))].getD (j'-0) .any else(qp L) i' j') (.row false T n' 1 (qp L')):=hs▸Pe hn hp
def R6(q rest third v w:Nat)(x:Nat):PS:=⟨32,true,[(0,.e (.v (.int .u64 ((q-x:Nat):Int)))),(1,.e (.v (.int .u64 ((rest+(x*v):Nat):Int)))),(2,.e (.v (.int .u32 (third:Int)))),(3,.e (.v (.int .u32 (v:Int)))),(4,.e (.v (.int .u32 (w:Int))))],[]⟩
def YV(L:List Nat)(d:Nat)(x:Nat):PS:=⟨34,false,[(8,.e (iP ((L.length:Int)-1-(x:Int)))),(7,.e (.v (.int .u32 ((val L/4294967296^(L.length-x)%d:Nat):Int)))),(6,.own 11),(0,.e (ic L)),(1,.e (.v (.int .u32 (d:Int))))],[(11,.row false 171 L.length 1 (qp (pR 0 (val L/d) (L.length-x) L.length)))]⟩
def ac9(h l d:Nat)(h1:h<d)(h2:l<4294967296)(h3:d<4294967296):gW 356 [.v (.int .u32 (h:Int)),.v (.int .u32 (l:Int)),.v (.int .u32 (d:Int))] (.ix [.v (.int .u32 (((h*4294967296+l)/d:Nat):Int)),.v (.int .u32 (((h*4294967296+l)%d:Nat):Int))]):=by
 have e1:(h*4294967296+l)/d<4294967296:=by rw[cD aC];omega
 have e2:(h*4294967296+l)%d<4294967296:=fB (bH _ aC) h3;exact ak call356 func356 (ae [ah 10 ((d:Int) != 0) aN,tF 14 ((d:Int)<=h) aC,.o 18 (.int (sd _ aC):aj (.v (.int .u64 (IntKind.u64.wrap (h:Int)))) (.v (.int .u64 (h:Int)))),.a (aC:0<=(32:Int)/\(32:Int)<=((64:Nat):Int)),.o 19 (.int (Hk _ aC):aj (.v (.int .u64 (IntKind.u64.wrap ((h:Int)*2^32)))) (.v (.int .u64 ((h*4294967296:Nat):Int)))),.o 21 (.int (sd _ aC):aj (.v (.int .u64 (IntKind.u64.wrap (l:Int)))) (.v (.int .u64 (l:Int)))),.o 22 (.int (GU _ _ aC aC):aj (.v (.int .u64 (bits .or .u64 ((h*4294967296:Nat):Int) (l:Int)))) (.v (.int .u64 ((h*4294967296+l:Nat):Int)))),.o 25 (.int (sd _ aC):aj (.v (.int .u64 (IntKind.u64.wrap (d:Int)))) (.v (.int .u64 (d:Int)))),.a (aC:0<((d:Int):Int)),
  BF ((h*4294967296+l:Nat):Int) aC,.o 27 (.int (E3 _):aj (.v (.int .u32 (IntKind.u32.wrap (((h*4294967296+l)/d:Nat):Int)))) (.v (.int .u32 ((((h*4294967296+l)/d)%4294967296:Nat):Int)))),.o 30 (.int (sd _ aC):aj (.v (.int .u64 (IntKind.u64.wrap (d:Int)))) (.v (.int .u64 (d:Int)))),.a (aC:0<((d:Int):Int)),.o 32 (.int (E3 _):aj (.v (.int .u32 (IntKind.u32.wrap (((h*4294967296+l)%d:Nat):Int)))) (.v (.int .u32 ((((h*4294967296+l)%d)%4294967296:Nat):Int))))]<|rQ (.ix [.v (.int .u32 ((((h*4294967296+l)/d)%4294967296:Nat):Int)),.v (.int .u32 ((((h*4294967296+l)%d)%4294967296:Nat):Int))]) (.ix [.v (.int .u32 (((h*4294967296+l)/d:Nat):Int)),.v (.int .u32 (((h*4294967296+l)%d:Nat):Int))]) (by rw[ca e1,ca e2])) 
def an9(q rest third v w N:Nat)(hq:q<=4294967295)(hr:rest<9223372036854775808)(ht:third<4294967296)(hv:v<4294967296)(hw:w<4294967296)(hNq:N<=q)(je:∀ x,x<N->tu q rest third v w x)(g1:¬rest+N*v<4294967296):gW 357 [.v (.int .u64 (q:Int)),.v (.int .u64 (rest:Int)),.v (.int .u32 (third:Int)),.v (.int .u32 (v:Int)),.v (.int .u32 (w:Int))] (.v (.int .u64 ((q-N:Nat):Int))):=
 ak call357 func357 (af [.s (Sp.jC (R6 q rest third v w) 0 N aC (λx hx k0=>by
    obtain⟨g1,g2⟩:=je x aC;have m1:(q-x)*w<=4294967295*4294967295:=dA aC aC;have g3:0<q-x:=by
     rcases ep (q-x)with h|h
     .rw [h,cJ]at g2;omega
     .exact h
    exact iF (ae [tT 12 (((rest+(x*v):Nat):Int)<4294967296) aC,.o 16 (.int (sd _ aC):aj (.v (.int .u64 (IntKind.u64.wrap (w:Int)))) (.v (.int .u64 (w:Int)))),
     BF (((q-x:Nat):Int)*(w:Int)) aC,.a (aC:0<=(32:Int)/\(32:Int)<=((64:Nat):Int)),.o 19 (.int (Hk _ aC):aj (.v (.int .u64 (IntKind.u64.wrap (((rest+(x*v):Nat):Int)*2^32)))) (.v (.int .u64 (((rest+(x*v))*4294967296:Nat):Int)))),.o 21 (.int (sd _ aC):aj (.v (.int .u64 (IntKind.u64.wrap (third:Int)))) (.v (.int .u64 (third:Int)))),.o 22 (.int (GU _ _ aC aC):aj (.v (.int .u64 (bits .or .u64 (((rest+(x*v))*4294967296:Nat):Int) (third:Int)))) (.v (.int .u64 ((((rest+(x*v))*4294967296)+third:Nat):Int)))),tT 23 (((((rest+(x*v))*4294967296)+third:Nat):Int)<(((q-x)*w:Nat):Int)) (Int.ofNat_lt.2 g2),BF (((q-x:Nat):Int)-1) aC,.o 29 (.int (sd _ aC):aj (.v (.int .u64 (IntKind.u64.wrap (v:Int)))) (.v (.int .u64 (v:Int)))),BF (((rest+(x*v):Nat):Int)+v) aC]<|.e (af [.o 0 (.int aO:aj (.v (.int .u64 (((q-x:Nat):Int)-1))) (.v (.int .u64 ((q-(x+1):Nat):Int)))),.o 1 (.int aO:aj (.v (.int .u64 (((rest+(x*v))+v:Nat):Int))) (.v (.int .u64 ((rest+((x+1)*v):Nat):Int))))])) aF)
  (λhx=>by
    have m1:(q-N)*w<=4294967295*4294967295:=dA aC aC;exact iF (af [tF 12 (((rest+(N*v):Nat):Int)<4294967296) aC]) aF) aI:jA 1 f357 (R6 q rest third v w 0) (.exit 0) ⟨32,true,[(0,.e (.v (.int .u64 ((q-N:Nat):Int))))],[]⟩) (af [.o 0 (.int aO:aj (.v (.int .u64 (q:Int))) (.v (.int .u64 ((q-0:Nat):Int)))),.o 1 (.int aO:aj (.v (.int .u64 (rest:Int))) (.v (.int .u64 ((rest+(0*v):Nat):Int))))])]) 
def aib(L:List Nat)(d:Nat)(hk:iN L)(hl:L.length<=1000000)(Ba:0<d)(Bb:d<4294967296):gW 335 [ic L,.v (.int .u32 (d:Int))] (.ix [ic (pt (val L/d) L.length),.v (.int .u32 ((val L%d:Nat):Int))]):=
 an call335 func335 (ae [.a (aC:0<=((L.length:Int):Int)/\((L.length:Int):Int)<=((L.length:Int):Int)),.a (aC:((4:Nat):Int)*(L.length:Int)<=281474976710656/\((L.length:Int):Int)<=9223372036854775807),iz ((L.length:Int)-1) aC,.s (Sp.jC (YV L d) 0 L.length aC (λx hx k0=>by
    have Ul:((L.length:Int)-1-(x:Int)).toNat=L.length-1-x:= aC ;have hld:((L.getD ((L.length:Int)-1-(x:Int)).toNat 0:Nat):Int)=(pr (val L) (L.length-1-x):Int):=by rw[Ul,Jb hk]
    have vZ:=alA (a:=val L) (k:=L.length-1-x) Ba Bb;have tD:L.length-1-x+1=L.length-x:= aC ;have mK:L.length-(x+1)=L.length-1-x:= aC ;rw[tD]at vZ;have D8:=bH (val L/4294967296^(L.length-x)) Ba;have MZ:=LZ (val L) (L.length-1-x);have Cz:(pR 0 (val L/d) (L.length-x) L.length).set ((L.length:Int)-1-(x:Int)).toNat ((val L/4294967296^(L.length-x)%d*4294967296+pr (val L) (L.length-1-x))/d)=pR 0 (val L/d) (L.length-(x+1)) L.length:=by
     rw[Ul,vZ.1,<-tD,ahU,mK]
    exact iF (ae [tT 16 (0<=((L.length:Int)-1-(x:Int))) aC,iX ((L.length:Int)-1-(x:Int)) (L.length) aC,.o 26 (.int hld:aj (.v (.int .u32 ((L.getD ((L.length:Int)-1-(x:Int)).toNat 0:Nat):Int))) (.v (.int .u32 (pr (val L) (L.length-1-x):Int)))),.c (ac9 (val L/4294967296^(L.length-x)%d) (pr (val L) (L.length-1-x)) d aC aC aC),iX ((L.length:Int)-1-(x:Int)) (L.length) aC,.a (aC:(((L.length:Int)-1-(x:Int))).toNat<L.length),iz (((L.length:Int)-1-(x:Int))-1) aC]<|.e (af [.o 8 (aq (((L.length:Int)-1-(x:Int))-1) ((L.length:Int)-1-((x+1:Nat):Int)) aO),.o 7 (.int (by rw[vZ.2,mK]):aj (.v (.int .u32 ((((val L/4294967296^(L.length-x)%d)*4294967296+(pr (val L) (L.length-1-x)))%d:Nat):Int))) (.v (.int .u32 ((val L/4294967296^(L.length-(x+1))%d:Nat):Int)))),.b 11 (akx rfl (by rw[ahT];omega) Cz:Bx.le (.row false 171 L.length 1 (λi' j'=>if i'=(((L.length:Int)-1-(x:Int))).toNat/\0<=j'/\j'<0+1 then[.v (.int .u32 ((((val L/4294967296^(L.length-x)%d)*4294967296+(pr (val L) (L.length-1-x)))/d:Nat):Int))].getD (j'-0) .any else(qp (pR 0 (val L/d) (L.length-x) L.length)) i' j')) (.row false 171 L.length 1 (qp (pR 0 (val L/d) (L.length-(x+1)) L.length))))])) aF)
  (λhx=>by
    exact iF (af [tF 16 (0<=((L.length:Int)-1-(L.length:Int))) aC]) aF) aI:jA 4 f335 (YV L d 0) (.exit 0) ⟨34,false,[(7,.e (.v (.int .u32 ((val L/4294967296^(L.length-L.length)%d:Nat):Int)))),(6,.own 11)],[(11,.row false 171 L.length 1 (qp (pR 0 (val L/d) (L.length-L.length) L.length)))]⟩) (af [.o 8 (aq ((L.length:Int)-1) ((L.length:Int)-1-((0:Nat):Int)) aO),.o 7 (.int (by rw[dx,cW (oL hk),Nat.zero_mod];rfl):aj (.v (.int .u32 0)) (.v (.int .u32 ((val L/4294967296^(L.length-0)%d:Nat):Int)))),.b 11 (X5 rfl (λi=>by rw[dx,ahS (bg _),ac5]):Bx.le (.row false 171 L.length 1 (λ_ j_=>[.v (.int .u32 0)].getD j_ .any)) (.row false 171 L.length 1 (qp (pR 0 (val L/d) (L.length-0) L.length))))])]<|rR (.ix [ic (pt (val L/d) L.length),.v (.int .u32 ((val L%d:Nat):Int))]) (.ix (.cons (by rw[dp,ahV];exact Y3 (AN _ _).symm) (.cons (.iT (by rw[dp,cE,fF])) .nil)):E.le (.ix [.sl false L.length 1 (qp (pR 0 (val L/d) (L.length-L.length) L.length)),.v (.int .u32 ((val L/4294967296^(L.length-L.length)%d:Nat):Int))]) (.ix [ic (pt (val L/d) L.length),.v (.int .u32 ((val L%d:Nat):Int))]))) 
def aao(w:World)(T S:List Nat)(e:Ending)(w':World):Prop:=∃ A c B d,e = .returned (.tuple #[.slice A T.length c,.slice B S.length d])/\Sl w' A c T/\Sl w' B d S/\iI w w'
def Ow.rx{w:World}{base:Nat}{v:Value}{L:List Nat}(h:Ow w base v L)(hl:L≠[]):∃ g cap R,v = .slice (some ⟨g,0,none⟩) L.length cap/\base<=g/\g<w.heap.size/\Rx w g L R/\L.length<=cap/\cap<=maxLen:=by
 rcases h.row.2 with⟨_,h0⟩|⟨g,cap,cur,rfl,hb,hg,oG,nI,mJ,Gl⟩
 .exact absurd (di h0) hl
 .refine ⟨g,cap,cur.toList.drop L.length,rfl,hb,(cT.1 hg).1,?_,oG,nI⟩;unfold Rx;rw[hg];rw[b8]at Gl;rw[<-Gl,aom]
def Rx.sl{w:World}{b cap:Nat}{L:List Nat}{R:List Value}(h:Rx w b L R)(hk:iN L)(hc:L.length<=cap)(hm:cap<=maxLen)(n:Nat):Sl w (some ⟨b,0,none⟩) cap (L.take n):=
 ⟨by rw[b9];omega,by unfold maxLen at hm;omega,hk.take n,(λh=>by cases h),λi x hx=>by
  rw[du]at hx;split at hx
  .obtain ⟨hi,xj⟩:=b7.1 hx;refine⟨_,_,rfl,h.lt,?_⟩;rw[b5,h.cell hi];simp[bh,hx]
  .cases hx⟩
def ahG(x:Nat)(hx:x<4294967296)(w:World):
 Calls prog 336 #[.int .u32 x] w λe w'=>e = .returned (.int .i64 ((32-iq x:Nat):Int))/\w=w':=by
 have kK:iq x<=32:=mj.2 hx;have H:=aoX (λw=>VK x hx w);go_enter func336,ntmps336;go_wp2_with fail;refine(H.out _).mono ?_;rintro e w' ⟨rfl,rfl⟩;go_wp2;go_ret;exact⟨oQ aC,rfl⟩
def R8(q rest third v w0 N:Nat)(w:World)(hq:q<=4294967295)(hr:rest<9223372036854775808)(ht:third<4294967296)(hv:v<4294967296)(hw:w0<4294967296)(hNq:N<=q)(je:∀ x,x<N->tu q rest third v w0 x)(hN:¬tu q rest third v w0 N):
 Calls prog 357 #[.int .u64 q,.int .u64 rest,.int .u32 third,.int .u32 v,.int .u32 w0] w λe w'=>e = .returned (.int .u64 ((q-N:Nat):Int))/\w=w':=by
 have HLO:=aoX je;have HNN:=aoX hN;clear je hN;go_enter func357,ntmps357;go_wp2;go_loop [0,1] (λa b=>∃ k:Nat,k<=N/\a = .int .u64 ((q-k:Nat):Int)/\b = .int .u64 ((rest+k*v:Nat):Int)) (λa _=>(intOf a).toNat+0*N)
 case atStart=>exact⟨0,bV _,by go_num,by go_num⟩
 case round=>
  obtain⟨k,hk,rfl,rfl⟩:=hrel;have m1:(q-k)*w0<=4294967295*4294967295:=dA aC aC;have m2:(q-k)*w0=(q-k)*w0:=rfl;by_cases iB:k<N
  .have hc:=HLO.out k iB;have uf:0<q-k:= aC ;have Uu:rest+(k+1)*v=rest+k*v+v:=by rw[bX,bZ];omega
   have HX:=aoX Uu;clear Uu;unfold tu at hc;have CC:IntKind.u64.wrap (((q-k:Nat):Int)*(w0:Int))=(((q-k)*w0:Nat):Int):=by rw[<-eR];exact sd _ aC 
   generalize rest+k*v=y at *
   generalize hz:(q-k)*w0=z at *
   have Gf:q-k=q-(k+1)+1:= aC ;have HQ:=aoX Gf;obtain⟨p,hp⟩:∃ p,p=q-k:=⟨_,rfl⟩
   rw[<-hp]at CC uf Gf HQ ⊢;have HP:=aoX hp;have Cv:p<=4294967295:= aC ;clear hp hz Gf;have Gj:=Hk y hc.1;have vW:=GU y third hc.1 ht;have g2:=hc.2;have g1:=hc.1;clear hc;rw[show((y*4294967296:Nat):Int)=y*4294967296 by omega]at vW Gj;have d1:decide ((y:Int)<4294967296)=true:=a7 aC;have d2:decide ((y:Int)*4294967296+(third:Int)<z)=true:=a7 aC;have hm1:IntKind.u64.wrap ((p:Int)-1)=((p-1:Nat):Int):=by rw[IntKind.wrap_u64];omega
   go_wp2;go_round
   case rel=>
    have e1:=HP.out;exact⟨k+1,aC,by go_num,by rw[HX.out];go_num⟩
   case measure=>simp[intOf];omega
  .obtain rfl:k=N:= aC ;have hn:=HNN.out;clear HNN HLO;unfold tu at hn;have CC:IntKind.u64.wrap (((q-k:Nat):Int)*(w0:Int))=(((q-k)*w0:Nat):Int):=by rw[<-eR];exact sd _ aC 
   generalize rest+k*v=y at *
   generalize (q-k)*w0=z at *
   obtain⟨p,hp⟩:∃ p,p=q-k:=⟨_,rfl⟩
   rw[<-hp]at CC ⊢;have HP:=aoX hp;clear hp;by_cases g1:y<4294967296
   .have Gj:=Hk y g1;have vW:=GU y third g1 ht;rw[show((y*4294967296:Nat):Int)=y*4294967296 by omega]at vW Gj;have d1:decide ((y:Int)<4294967296)=true:=a7 aC;have d2:decide ((y:Int)*4294967296+(third:Int)<z)=false:=bc aC;clear hn;go_wp2;go_ret;exact⟨oQ (by rw[<-HP.out]),rfl⟩
   .have d1:decide ((y:Int)<4294967296)=false:=bc aC ;clear hn CC;go_wp2;go_ret;exact⟨oQ (by rw[<-HP.out]),rfl⟩
def afx(iw next third v w0:Nat)(hv:2147483648<=v)(r7:v<4294967296)(hn:next<4294967296)(ht:third<4294967296)(hw:w0<4294967296)(htv:iw<=v):
 ∃ g,g<=4294967295/\g<=((iw*4294967296+next)*4294967296+third)/(v*4294967296+w0)/\(g=4294967295\/((iw*4294967296+next)*4294967296+third)/(v*4294967296+w0)<=g) /\
  ∀ w,Calls prog 337 #[.int .u32 iw,.int .u32 next,.int .u32 third,.int .u32 v,.int .u32 w0] w λe w'=>e = .returned (.int .u64 (g:Int))/\∃ m,w'=w.drewN m:=by
 by_cases k1:v<=iw
 .obtain ⟨N,hN3,mQ,xO,sN,g1,g2⟩:=R7 (X:=iw*4294967296+next) (q:=4294967295) (rest:=(iw-v)*4294967296+next+v) (third:=third) (v:=v) (w:=w0) aC (bg _) hv hw;refine⟨4294967295-N,aC,g1,g2.elim (λh=>.inl (by rw[h])) .inr,λw=>?_⟩;clear g1 g2;have H:=λw=>R8 4294967295 ((iw-v)*4294967296+next+v) third v w0 N w aC aC ht r7 hw mQ xO sN
  clear xO sN;obtain rfl:v=iw:= aC ;have ug:(v-v)*4294967296+next+v=next+v:= aC 
  rw[ug,fX]at H;have HD:=aoX H;clear H;have d1:decide ((v:Int)<=v)=true:=a7 aC;go_enter func337,ntmps337;go_wp2_with fail;refine(HD.out _).mono ?_;rintro e w' ⟨rfl,rfl⟩;go_wp2;go_ret;exact⟨rfl,0,rfl⟩
 .have d1:=cI (iw*4294967296+next) v;have d2:=bH (iw*4294967296+next) (aC:0<v);have d3:(iw*4294967296+next)/v<4294967296:=by rw[cD aC];omega
  obtain⟨N,hN3,mQ,xO,sN,g1,g2⟩:=R7 (X:=iw*4294967296+next) (q:=(iw*4294967296+next)/v) (rest:=(iw*4294967296+next)%v) (third:=third) (v:=v) (w:=w0) (by rw[bG];exact d1) aC hv hw;have g3:=ac4 (x:=iw*4294967296+next) (v:=v) (w:=w0) (third:=third) aC ht;refine⟨(iw*4294967296+next)/v-N,aC,g1,.inr ?_,λw=>?_⟩
  .rcases g2 with rfl|g2
   .exact g3
   .exact g2
  have H:=λw=>R8 ((iw*4294967296+next)/v) ((iw*4294967296+next)%v) third v w0 N w (Nat.le_of_lt_succ d3) (fB d2 aC) ht r7 hw mQ xO sN
  rw[Int.natCast_ediv,Int.natCast_emod]at H;have HD:=aoX H;clear H g1 g2 g3 mQ xO sN d1 d2 d3;have d1:decide ((v:Int)<=iw)=false:=bc aC;have Gj:=Hk iw aC;have vW:=GU iw next aC hn
  rw[show((iw*4294967296:Nat):Int)=iw*4294967296 by omega]at vW Gj;have oz:((iw*4294967296+next:Nat):Int)<18446744073709551616:= aC ;rw[show((iw*4294967296+next:Nat):Int)=iw*4294967296+(next:Int)by omega]at vW oz;have sA:((v:Int)==0)=false:= aN ;go_enter func337,ntmps337;go_wp2;go_quiet (exact Calls.quiet_of_same ((HD.out _).mono λ_ _ ⟨h1,h2⟩=>⟨h1,h2.symm⟩));go_wp2;go_ret;exact⟨rfl,_,rfl⟩
def Fp.iI.amR{w0 w w':World}{g n:Nat}(h:iI w0 w)(k:tg g (w.drewN n) w')(hg:w0.heap.size<=g):iI w0 w':=
 (below_drewN h n).trans (k.below.mono hg)
def Fp.iI.only{w0 w w':World}{g:Nat}(h:iI w0 w)(k:tg g w w')(hg:w0.heap.size<=g):iI w0 w':=
 Below.trans h (k.below.mono hg)
def Sl.S2{w:World}{g cap:Nat}{L:List Nat}(h:Sl w (some ⟨g,0,none⟩) cap L){b:Nat}(hb:g≠b)(i:Nat)(v:Value):Sl (w.setCell ⟨b,i,none⟩ v) (some ⟨g,0,none⟩) cap L:=
 h.pj (λb' o _ e=>by cases e;exact hb) (tg.Hj (tg.refl b w) i v)
def Sl.drewN{w:World}{A:Option Addr}{c:Nat}{L:List Nat}(h:Sl w A c L)(n:Nat):Sl (w.drewN n) A c L:=h.below (below_drewN (Below.refl _ _) n)
def ajb{P:Program}{f:FuncId}{args:Array Value}{w:World}{n:Nat}{v:Value}
 (h:Calls P f args (w.drewN n) λe w'=>e = .returned v/\∃ m,w'=(w.drewN n).drewN m):Calls P f args (w.drewN n) λe w''=>e = .returned v/\∃ m,w''=w.drewN m:=
 h.mono λ_ _ ⟨he,m,hm⟩=>⟨he,n+m,by rw[hm,World.drewN_drewN]⟩
set_option maxRecDepth 100000 in
set_option maxHeartbeats 8000000 in
def adj(A B:Option Addr)(c d:Nat)(L M:List Nat)(w:World)(lx ly s:Nat)(zo:lx=(iG L).length)(JC:ly=(iG M).length)(vZ:s=32-iq ((iG M).getD (ly-1) 0))(hs:Sl w A c L)(hr:Sl w B d M)(ua:Tb w)(h1:L.length<=100000)(h2:M.length<=100000)(sO:val M<=val L)(hlen:2<=ly):
 Calls prog 322 #[.slice A L.length c,.slice B M.length d] w (aao w (pt (val L/val M) (lx+1-ly)) (qW (s%32) ((gY (val L%val M*2^s)).drop (s/32)))):=by
 have H1:=vj A c L w hs;have H2:=vj B d M w hr;have TK:=pV L;unfold mR at TK;have vU:=pV M;unfold mR at vU;have eL:=qs L;have eM:=qs M;rw[<-eL,<-eM]at sO ⊢;have kJ:=hs.uC;have nR:=hr.uC;have MH:=An M;have TZ:iG (iG L)=iG L:=An L;have T5:iG (iG M)=iG M:=An M;have H3:=J9 A B c d (iG L) (iG M) w kJ nR aC aC;generalize iG L=X at *
 generalize iG M=Y at *
 have px:0<=kE (val X) (val Y):=by unfold kE;split<;>(try split)<;>omega
 generalize kE (val X) (val Y)=cm at *
 have T4:Y.length<=X.length:=by
  apply bU;intro h;have:=K6 kJ.ok MH (aC:X.length<Y.length);omega
 clear eL eM hs hr sO;rw[<-zo]at T4 H1 H3 TK;rw[<-JC]at T4 H2 H3 vU;have oz:Y.getD (ly-1) 0≠0:=by
  have:=(BO Y).1 MH aC;have e:Y.getD (ly-1) 0=Y[Y.length-1]'(aC):=by
   rw[bh,(aC:ly-1=Y.length-1)];simp[(aC:Y.length-1<Y.length)]
  rw[e];exact this
 have HN:=aiq nR.ok (l:=ly-1) aC rfl oz vZ;rw[(aC:ly-1+1=ly)]at HN;obtain⟨x,hx⟩:∃ x,x=Y.getD (ly-1) 0:=⟨_,rfl⟩
 have nh:x<4294967296:=by rw[hx];exact nR.ok.getD _
 have H4:=aoX (λw=>ahG x nh w);rw[<-hx]at vZ;rw[<-vZ]at H4;obtain⟨ab,ao,rfl,hab,c1⟩:=nR.mv (i:=ly-1) aC;have Eg:Y[ly-1]'(aC)=x:=by rw[hx];simp[bh,(aC:ly-1<Y.length)]
 rw[Eg]at c1;have agf:s<32:=HN.1;have HNh:=aoX HN;have H5:=λw (h:Sl w A c X)=>WE A c X s w h aC aC 
 have H6:=λw (h:Sl w (some ⟨ab,ao,none⟩) d Y)=>WE (some ⟨ab,ao,none⟩) d Y s w h aC aC 
 rw[TZ,<-zo,(aC:s/32+lx+1=lx+1)]at H5;rw[T5,<-JC,(aC:s/32+ly+1=ly+1)]at H6;have H5h:=aoX H5;have H6h:=aoX H6;have HX:=aoX zo;have HY:=aoX JC;have HS2:=aoX kJ;have HR2:=aoX nR;have H1h:=aoX H1;have H2h:=aoX H2;have H3h:=aoX H3;clear H1 H2 H3 H5 H6 TZ T5 HN zo JC hx Eg vZ oz kJ nR MH;have CC:(ly:Int)-1=((ly-1:Nat):Int):= aC ;have d0:decide (cm<0)=false:=bc aC;have d2:decide ((lx:Int)+1<=(lx:Int))=false:=bc aC;have qk:=GD (lx+1-ly) aC;rw[show((lx+1-ly:Nat):Int)=lx+1-(ly:Int)by omega]at qk;have d1:((ly:Int)==1)=false:= aN ;go_enter func322,ntmps322;go_wp2_with fail;refine H1h.out.mono ?_;rintro e w' ⟨rfl,rfl⟩;go_wp2_with fail;refine H2h.out.mono ?_;rintro e w' ⟨rfl,rfl⟩;go_wp2_with fail;refine H3h.out.mono ?_;rintro e w1 ⟨rfl,jK⟩;have c2:=c1;rw[<-(jK.cell (p:=⟨ab,ao+(ly-1),none⟩) hab)]at c2;go_wp2_with fail;refine(H4.out _).mono ?_;rintro e w2 ⟨rfl,rfl⟩;go_wp2_with fail;refine(H5h.out _ (HS2.out.below jK)).mono ?_;rintro e w2 ⟨T,v1,he,DW,F0,lk,kK⟩;obtain⟨g,cap,R,Gn,Uf,Ug,TP,Ci,afQ⟩:=lk.rx (by intro h;rw[h]at F0;simp at F0);have TV:=aoX lk.ok;rw[F0]at Gn Ci;subst Gn;subst he;clear lk;have HTv:=aoX DW;have HTl:=aoX F0;clear DW F0;go_wp2_with fail;refine(H6h.out _ ((HR2.out.below jK).below kK)).mono ?_;rintro e w3 ⟨S,v2,he,TU,Cf,lk,qj⟩;have Jj:=TP.qE (qj.block g Ug);obtain⟨g',cap',R',r7,afW,anT,_,anQ,_⟩:=lk.rx (by intro h;rw[h]at Cf;simp at Cf);obtain⟨_,_,e2,MK⟩:=lk.sl;rw[r7]at e2;cases e2;have Ju:g'≠g:= aC 
 have H7:=vj (some ⟨g',0,none⟩) cap' S w3 MK;have hV:iG S=gY (val Y*2^s):=by rw[rS lk.ok,TU]
 have y4:=MK.uC;rw[hV]at H7 y4;rw[HNh.out.2.1,Cf]at H7;rw[Cf]at r7;have afM:iI w w3:=(jK.trans kK).trans qj;subst r7;subst he;have H7h:=aoX H7;clear lk MK hV TU Cf H7 TP kK qj;go_wp2_with fail;refine H7h.out.mono ?_;rintro e w4 ⟨rfl,rfl⟩;go_wp2;go_loop [9] (λu=>u = .slice (some ⟨g,0,none⟩) (lx+1) cap) (λ_=>0)
 case atStart=>rfl
 case round=>
  subst hrel;go_wp2;have xR:=Rw.zS w3 (lx+1-ly);have JE:=HNh.out.2.1;have xO:=HNh.out.2.2.1;have sN:=HNh.out.2.2.2.1;have TX:=mz (val Y*2^s);have MR:=kr (val Y*2^s);rw[<-MR]at sN;generalize gY (val Y*2^s)=V at *
  have xN:=sI.start (A:=val X) (s:=s) (V:=V) (O:=T) TV.out HTv.out (la:=lx) (by rw[HX.out];exact oL HS2.out.ok) HTl.out agf aC aC (by rw[JE];exact sN);have TS:=y4.alloc (.cells (oK (List.replicate (lx+1-ly) 0)).toArray 171);have TR:Rx (w3.alloc (.cells (oK (List.replicate (lx+1-ly) 0)).toArray 171)) g T R:=Jj.qE ((iI.alloc w3 _).block g (by have:=Jj.lt;omega));rw[JE]at xN;have HD0:=aoX xN;have HR0:=aoX xR;have HRx:=aoX TR;have HSV:=aoX TS;have HE0:=aoX (afM.trans (iI.alloc w3 (.cells (oK (List.replicate (lx+1-ly) 0)).toArray 171)));have HnV:=aoX JE;have HVok:=aoX TX;have HVv:=aoX MR;have HN1:=aoX xO;have hgq:g<w3.heap.size:=Jj.lt;have Uh:w.heap.size<=g:=bk jK.size Uf;clear xN xR TR TS y4 Jj JE TX MR xO sN HTv HTl TV H1h H2h H3h H4 H5h H6h H7h c1 c2 d2 qk jK Uf afW Ug HNh HS2 HR2;go_loopw [13] (λj wr=>∃ (k:Nat) (O Q:List Nat),k<=lx+1-ly/\j = .int .i64 ((k:Int)-1)/\sI (val X*2^s) V k (lx+1) O Q/\Rx wr g O R/\Rw wr w3.heap.size Q/\Sl wr (some ⟨g',0,none⟩) cap' V/\iI w wr) (λj _=>(intOf j+1).toNat)
  case atStart=>
   exact⟨lx+1-ly,T,_,bg _,by go_num,HD0.out,HRx.out,HR0.out,HSV.out,HE0.out⟩
  case round=>
   clear HD0 HRx HR0 HSV HE0;obtain⟨k,O,Q,hk,rfl,hD,DU,MJ,y4,T9⟩:=hrel;have HE:=aoX T9;have HSV:=aoX y4;have HRQ:=aoX MJ;have HRO:=aoX DU;have HD:=aoX hD;clear hD T9;rcases k with _|t
   .have hO:=HD.out.VL;have UD:=HRO.out.sl HD.out.Ab (cap:=cap) aC afQ ly;have HZ:=On (some ⟨g,0,none⟩) cap (O.take ly) s wr UD aR aC;have e1:(O.take ly).length=ly:=by rw[b9];omega
    rw[e1]at HZ;have HZh:=aoX HZ;have HQs:=aoX (HRQ.out.sl HD.out.C3 (by rw[HD.out.Gz];omega));have wV:0<val V:=by
     have:=HD.out.lt;rcases ep (val V)with h|h
     .rw [h,cJ]at this;omega
     .exact h
    have T3:0<val Y:=by
     rw[HVv.out]at wV;exact Nat.pos_of_mul_pos_right wV
    have M4:=adg (a:=val X) (b:=val Y) (s:=s) (q:=val Q) (r:=val O) T3 (by rw[<-HVv.out];exact HD.out.eq) (by rw[<-HVv.out];have:=HD.out.lt;rw[cE,b8]at this;exact this);have D3:val (O.take ly)=val O:=by
     rw[anc HD.out.Ab,ca];have:=HD.out.lt;rw[cE,b8]at this;refine fB this ?_;have h:=oL HVok.out;rw[HnV.out]at h;exact h
    have TL:iG (O.take ly)=gY (val X%val Y*2^s):=by rw[rS (HD.out.Ab.take ly),D3,M4.2]
    rw[TL]at HZh;have Jh:=HD.out.Gz;rw[HnV.out]at Jh;have TN:pt (val X/val Y) (lx+1-ly)=Q:=L3 HD.out.C3 Jh M4.1;have HQd:=aoX TN;generalize qW (s%32) ((gY (val X%val Y*2^s)).drop (s/32))=Z at *
    have HQl:=aoX Jh;clear M4 D3 TL TN UD HZ e1 Jh hO wV T3 y4 DU MJ;go_wp2_with fail;refine HZh.out.mono ?_;rintro e w5 ⟨AZ,cZ,rfl,hZs,T6⟩;go_wp2;go_ret2;have hq:=HQs.out.below T6;rw[HQl.out]at hq;exact⟨_,_,_,_,by rw[AN];rfl,by rw[HQd.out];exact hq,hZs,HE.out.trans T6⟩
   .have hO:=HD.out.VL;have c4:=DU.cell (i:=t+ly) aC;have c5:=DU.cell (i:=t+ly-1) aC;have c6:=DU.cell (i:=t+ly-2) aC;obtain⟨_,_,e1,_,c7⟩:=y4.mv (i:=ly-1) (by rw[HnV.out];omega);obtain⟨_,_,e2,_,c8⟩:=y4.mv (i:=ly-2) (by rw[HnV.out];omega);cases e1;cases e2;rw[b5]at c7 c8;have v7:V[ly-1]'(by rw[HnV.out];omega)=V.getD (ly-1) 0:=by simp[bh,HnV.out,(aC:ly-1<ly)]
    have v8:V[ly-2]'(by rw[HnV.out];omega)=V.getD (ly-2) 0:=by simp[bh,HnV.out,(aC:ly-2<ly)]
    rw[v7]at c7;rw[v8]at c8;clear v7 v8;have kj:=HD.out.Ab;have o4:=kj.getD (t+ly);have o5:=kj.getD (t+ly-1);have o6:=kj.getD (t+ly-2);have o7:=HVok.out.getD (ly-1);have o8:=HVok.out.getD (ly-2);have hG:=HD.out.afw HVok.out (by rw[HnV.out];omega) (by rw[HnV.out];exact HN1.out);rw[HnV.out]at hG;obtain⟨gd,g1,g2,g3,g4⟩:=afx (O.getD (t+ly) 0) (O.getD (t+ly-1) 0) (O.getD (t+ly-2) 0) (V.getD (ly-1) 0) (V.getD (ly-2) 0) HN1.out o7 o5 o6 o8 hG.1;have HGq:=aoX (hG.2 gd g1 g2 g3);have HG:=aoX g4;clear hG g2 g3 g4 kj y4 DU MJ;generalize O.getD (t+ly) 0=x4 at *
    generalize O.getD (t+ly-1) 0=x5 at *
    generalize O.getD (t+ly-2) 0=x6 at *
    have HV1:=aoX (rfl:V.getD (ly-1) 0=V.getD (ly-1) 0);generalize hx7:V.getD (ly-1) 0=x7 at *
    generalize V.getD (ly-2) 0=x8 at *
    clear hx7 HV1;have i1:(((t+1:Nat):Int)-1)=(t:Int):= aC ;have i2:((t:Int)+ly).toNat=t+ly:= aC ;have i3:((t:Int)+ly-1).toNat=t+ly-1:= aC ;have i4:((t:Int)+ly-2).toNat=t+ly-2:= aC ;have i6:((ly:Int)-2)=((ly-2:Nat):Int):= aC ;have p1:IntKind.i64.wrap ((t:Int)+ly)=(t:Int)+ly:=i64_in _ aC aC;have p2:IntKind.i64.wrap ((t:Int)+ly-1)=(t:Int)+ly-1:=i64_in _ aC aC;have p3:IntKind.i64.wrap ((t:Int)+ly-2)=(t:Int)+ly-2:=i64_in _ aC aC;have p4:IntKind.i64.wrap ((ly-1:Nat):Int)=((ly-1:Nat):Int):=i64_in _ aC aC;have p5:IntKind.i64.wrap ((ly-2:Nat):Int)=((ly-2:Nat):Int):=i64_in _ aC aC;have j6:((ly-1:Nat):Int)<ly:= aC ;have j7:((ly-2:Nat):Int)<ly:= aC ;have j0:0<=(t:Int)+ly:= aC ;have j1:0<=(t:Int)+ly-1:= aC ;have j2:0<=(t:Int)+ly-2:= aC ;have j3:(t:Int)+ly<lx+1:= aC ;have j4:(t:Int)+ly-1<(lx:Int)+1:= aC ;have j5:(t:Int)+ly-2<(lx:Int)+1:= aC ;rw[i1];clear i1;go_wp2;go_quiet (exact ajb (HG.out _));go_wp2_with fail;have HTk:=amB g t (cap-t) cap' gd O V R (some ⟨g',0,none⟩) (wr.drewN nq) (HRO.out.qE rfl) (HSV.out.drewN nq) (λb' o _ e=>by cases e;exact Ju) HD.out.Ab (by rw[HnV.out];omega) g1 aC;rw[HnV.out,(aC:ly+1=t+ly+1-t)]at HTk;refine HTk.mono ?_;rintro e w5 ⟨O',δ,rfl,TO,qL,Ea,hδ,lq,JN,Eb⟩;have HRO':=aoX TO;have HON:=aoX Eb;have HSV5:=aoX ((HSV.out.drewN nq).pj (λb' o _ e=>by cases e;exact Ju) Eb);have HRQ5:=aoX (show Rw w5 w3.heap.size Q from(Eb.pj _ aC).trans HRQ.out);have HE5:=aoX (show iI w w5 from Fp.iI.amR HE.out Eb Uh);have hPt:=pw t;have TY:0<val V:=by
     have:=HD.out.lt;rcases ep (val V)with h|h
     .rw [h,cJ]at this;omega
     .exact h
    have wg:IntKind.u32.wrap (gd:Int)=gd:=by rw[IntKind.wrap_u32];omega
    have htm:(t:Int)<lx+1-(ly:Int):= aC ;have UI:t<Q.length:=by rw[HD.out.Gz,HnV.out];omega
    have MI:=bu UI;have cq:=HRQ5.out.cell MI;have fq:=HRQ5.out.frozen t;generalize Q[t]=q0 at *
    have HQG:=aoX MI;clear MI UI c4 c5 c6 c7 c8 HRO HRQ HSV HE HTk TO Eb;rcases fQ δ 1 with U6|hδ1
    .obtain rfl:δ=0:= aC ;have TJ:=Sa hPt TY (by rw[lq,cF,bR]) HGq.out.1;have HDS:=aoX (HD.out.step (x:=gd) (by rw[HnV.out];omega) (by rw[qL,hO]) Ea aC (by rw[lq,cF,bR]) TJ.2);clear TJ lq JN Ea qL HD HGq;have HRQ6:=aoX (λx:Nat=>HRQ5.out.set t x);have HRO6:=aoX (λv:Value=>HRO'.out.qE (w':=w5.setCell ⟨w3.heap.size,t,none⟩ v) (by simp only[World.setCell,fe];rw[aZ aC]));have HSV6:=aoX (λv:Value=>HSV5.out.S2 (b:=w3.heap.size) aC t v);have HE6:=aoX (λv:Value=>HE5.out.setCell (p:=⟨w3.heap.size,t,none⟩) (by show w.heap.size<=w3.heap.size;omega) v);go_wp2;go_roundw
     case rel=>exact⟨t,O',Q.set t gd,aC,by go_num,HDS.out,HRO6.out _,HRQ6.out _,HSV6.out _,HE6.out _⟩
     case measure=>simp[intOf]
    .obtain rfl:δ=1:= aC ;have ue:=HD.out.W6 (x:=gd) HVok.out Ea (by rw[HnV.out];exact lq) (by rw[HnV.out];exact JN);have Ck:=ue.2;have HB:=aoX (λ(κ:Nat) (O2:List Nat)=>HD.out.abi (x:=gd) (κ:=κ) (O2:=O2) HVok.out (by rw[HnV.out];omega) Ea (by rw[HnV.out];exact lq) (by rw[HnV.out];exact JN) g1 HGq.out.2 TY);have HP0:=aoX (xC.start Ea t V);have Un:O'.length=lx+1:=by rw[qL,hO]
     have HL':=aoX Un;have hxm:IntKind.u64.wrap ((gd:Int)-1)=((gd-1:Nat):Int):=by rw[IntKind.wrap_u64];omega
     have wg1:IntKind.u32.wrap ((gd-1:Nat):Int)=((gd-1:Nat):Int):=by rw[IntKind.wrap_u32];omega
     clear ue lq JN Ea qL Un HD HGq wg cq fq;go_wp2;go_loopw [15,125] (λcy i wr2=>∃ (k c':Nat) (O2:List Nat),k<=ly/\i = .int .i64 k/\cy = .int .u32 c'/\xC O' t V k O2 c'/\Rx wr2 g O2 R/\tg g w5 wr2) (λ_ i _=>ly-(intOf i).toNat)
     case atStart=>exact⟨0,0,O',bV _,rfl,rfl,HP0.out,HRO'.out,tg.refl _ _⟩
     case round=>
      clear HP0 HRO';obtain⟨k,c',O2,wZ,rfl,rfl,hP,A4,Gc⟩:=hrel;have HP:=aoX hP;have A9:=hP.LL;have ot:O2.length=lx+1:=by rw[hP.len];exact HL'.out
      have HL2:=aoX ot;clear hP;by_cases iB:k<ly
      .have zj:k<V.length:=by rw[HnV.out];exact iB
       obtain⟨_,_,e1,_,c1⟩:=(HSV5.out.pj (λb' o _ e=>by cases e;exact Ju) Gc).mv zj;cases e1;rw[b5]at c1;have v7:V[k]=V.getD k 0:=by simp[bh,zj]
       rw[v7]at c1;have qx:t+k<O2.length:= aC ;have c2:=A4.cell qx;have c3:=A4.frozen (t+k);have qD:V.getD k 0<4294967296:=HVok.out.getD k;have Gm:O2.getD (t+k) 0<4294967296:=HP.out.ok.getD _;have HST:=aoX (HP.out.step HVok.out zj (by rw[HL'.out,HnV.out];omega));have HRS:=aoX (λx:Nat=>A4.set qx x);have HOS:=aoX (λ(v:Value)=>Gc.Hj (t+k) v);have HA:=aoX (λw=>Fe (O2.getD (t+k) 0) (V.getD k 0) c' w Gm qD A9);clear A4 Gc HP v7 zj qx ot HL2;generalize O2.getD (t+k) 0=u at *
       generalize V.getD k 0=y at *
       have zf:((t:Int)+k).toNat=t+k:= aC ;have D0:0<=(t:Int)+k:= aC ;have hi3:(t:Int)+k<lx+1:= aC ;go_wp2_with fail;refine(HA.out _).mono ?_;rintro e w6 ⟨rfl,rfl⟩;go_wp2;go_roundw
       case rel=>
        exact⟨k+1,(u+y+c')/4294967296,O2.set (t+k) ((u+y+c')%4294967296),aC,by go_num,rfl,HST.out,HRS.out _,HOS.out _⟩
       case measure=>simp[intOf];omega
      .obtain rfl:k=ly:= aC ;have Jg:=(show xC O' t V V.length O2 c' by rw[HnV.out];exact HP.out).NU (by rw[HL'.out,HnV.out];omega);rw[HnV.out]at Jg;obtain⟨q1,q2,⟨κ,q3,q4⟩,q5⟩:=Jg;have qx:t+k<O2.length:= aC ;have c2:=A4.cell qx;have c3:=A4.frozen (t+k);have Gm:O2.getD (t+k) 0<4294967296:=HP.out.ok.getD _;have HDS:=aoX (HB.out κ _ (by rw[q1];exact HL'.out) q2 q3 (by rw[HnV.out];exact q4) (by rw[HnV.out];exact q5));have HRS:=aoX (λx:Nat=>A4.set qx x);have HOS:=aoX (λ(v:Value)=>Gc.Hj (t+k) v);have Ji:∀ v:Value,Rw (wr.setCell ⟨g,t+k,none⟩ v) w3.heap.size Q:=λv=>((HOS.out v).pj _ aC).trans HRQ5.out
       have hcq:∀ v:Value,(wr.setCell ⟨g,t+k,none⟩ v).cell? ⟨w3.heap.size,t,none⟩=some (.int .u32 (q0:Int)):=λv=>(Ji v).cell HQG.out
       have hfq:∀ v:Value,(wr.setCell ⟨g,t+k,none⟩ v).frozen? ⟨w3.heap.size,t,none⟩=false:=λv=>(Ji v).frozen t
       have HRQ8:=aoX (λ(v:Value) (x:Nat)=>(Ji v).set t x);have HRO8:=aoX (λ(x:Nat) (v:Value)=>(HRS.out x).qE (w':=(wr.setCell ⟨g,t+k,none⟩ (.int .u32 (x:Int))).setCell ⟨w3.heap.size,t,none⟩ v) (by simp only[World.setCell,fe];rw[aZ aC]));have HSV8:=aoX (λ(v v2:Value)=>(HSV5.out.pj (λb' o _ e=>by cases e;exact Ju) (HOS.out v)).S2 (b:=w3.heap.size) aC t v2);have HE8:=aoX (λ(v v2:Value)=>(Fp.iI.only HE5.out (HOS.out v) Uh).setCell (p:=⟨w3.heap.size,t,none⟩) (by show w.heap.size<=w3.heap.size;omega) v2);clear Ji HRS HOS A4 Gc HP q1 q2 q3 q4 q5 qx ot HL2;generalize O2.getD (t+k) 0=u at *
       have zf:((t:Int)+k).toNat=t+k:= aC ;have D0:0<=(t:Int)+k:= aC ;have hi3:(t:Int)+k<lx+1:= aC ;have hi4:IntKind.u32.wrap ((u:Int)+c')=(((u+c')%4294967296:Nat):Int):=by rw[IntKind.wrap_u32];omega
       generalize (u+c')%4294967296=uu at *
       go_wp2;go_roundw
       case rel=>exact⟨t,O2.set (t+k) uu,Q.set t (gd-1),aC,by go_num,HDS.out,HRO8.out _ _,HRQ8.out _ _,HSV8.out _ _,HE8.out _ _⟩
       case measure=>simp[intOf]
def alP:E.le (.v (.slice none 0 0)) (ic []):=λbs br w v h=>by
 obtain rfl:=iC.kC h;exact .sl false 0 1 _ none 0 (λ_ _=>undef) (bg _) aE (λ_=>rfl) (λi j hi=>absurd hi (bj i)) (λi j hi=>absurd hi (bj i)) (λi j hi=>absurd hi (bj i)) (λi j hi=>absurd hi (bj i))
def alQ{x:Nat}:E.le (.sl false 1 1 λi_ j_=>[.v (.int .u32 (x:Int))].getD (i_*1+j_) (.v (.bool false))) (ic [x]):=.sl λi j hi hj=>by
 obtain rfl:i=0:= aC ;obtain rfl:j=0:= aC ;exact⟨.refl _,rfl⟩
def RO(L:List Nat)(hk:iN L):gW 260 [ic L] (ic L):=GV hk call260 (λA c w h _=>LP A c L w h) λA c B w e w' h hB ⟨h1,h2⟩=>by
 subst h2;exact⟨_,h1,Below.refl _ _,BK hB (Below.refl _ _) ⟨bg _,h.len,h.ok,λhn=>by have:=h.yo hn;have:=h.cap;omega,h.cell⟩⟩
def RP(L:List Nat)(hk:iN L)(hl:L.length<=1000000):gW 204 [ic L] (ic L):=GV hk call204 (λA c w h _=>LR A c L w h aC) λA c B w e w' h hB r=>rl B w e w' hB r
def ah4(L M:List Nat)(hL:iN L)(hM:iN M)(h1:L.length<=100000)(h2:M.length<=100000)(hc:kE (val (iG L)) (val (iG M))<0):gW 322 [ic L,ic M] (.ix [ic [],ic (iG L)]):=by
 have ta:=pV L;have tb:=pV M;unfold mR at ta tb;exact ak call322 func322 (ae [ag [ic L] (uq _ aD),ag [ic M] (uq _ aD),ag [ic (iG L),ic (iG M)] (Oh _ _ (iN.iG aD) (iN.iG aD) aC aC),tB 25 (a7 hc),ag [ic (iG L)] (RP _ (iN.iG aD) aC)]<|rR (.ix [ic [],ic (iG L)]) (.ix (.cons alP (.cons (.refl _) .nil)):E.le (.ix [.v (.slice none 0 0),ic (iG L)]) (.ix [ic [],ic (iG L)]))) 
def ah5(L M:List Nat)(hL:iN L)(hM:iN M)(h1:L.length<=100000)(h2:M.length<=100000)(hc:¬kE (val (iG L)) (val (iG M))<0)(hl:(iG M).length=1)(Ba:0<(iG M).getD 0 0)(Bb:(iG M).getD 0 0<4294967296):gW 322 [ic L,ic M] (.ix [ic (pt (val (iG L)/(iG M).getD 0 0) (iG L).length),ic [val (iG L)%(iG M).getD 0 0]]):=by
 have ta:=pV L;have tb:=pV M;unfold mR at ta tb;exact ak call322 func322 (ae [ag [ic L] (uq _ aD),ag [ic M] (uq _ aD),ag [ic (iG L),ic (iG M)] (Oh _ _ (iN.iG aD) (iN.iG aD) aC aC),tB 25 (bc hc),ah 30 (((iG M).length:Int)==1) (by rw[hl];rfl),iX 0 ((iG M).length) aC,.c (aib (iG L) ((iG M).getD 0 0) (iN.iG aD) aC Ba Bb)]<|rR (.ix [ic (pt (val (iG L)/(iG M).getD 0 0) (iG L).length),ic [val (iG L)%(iG M).getD 0 0]]) (.ix (.cons (.refl _) (.cons alQ .nil)):E.le (.ix [ic (pt (val (iG L)/((iG M).getD 0 0)) (iG L).length),(.sl false 1 1 λi_ j_=>[.v (.int .u32 ((val (iG L)%((iG M).getD 0 0):Nat):Int))].getD (i_*1+j_) (.v (.bool false)))]) (.ix [ic (pt (val (iG L)/(iG M).getD 0 0) (iG L).length),ic [val (iG L)%(iG M).getD 0 0]]))) 
def Oi(L M:List Nat)(hL:iN L)(hM:iN M)(h1:L.length<=100000)(h2:M.length<=100000)(h0:val M≠0):∃ T S:List Nat,gW 322 [ic L,ic M] (.ix [ic T,ic S])/\val T=val L/val M/\val S=val L%val M/\iN T/\iN S/\T.length<=L.length/\S.length<=L.length+1:=by
 have ta:=pV L;have tb:=pV M;unfold mR at ta tb;have e1:=qs L;have e2:=qs M;by_cases hc:kE (val (iG L)) (val (iG M))<0
 .refine ⟨[],iG L,ah4 L M hL hM h1 h2 hc,?_,?_,iN.nil,hL.iG,bV _,aC⟩
  .rw [e1,e2]at hc;have:val L<val M:=by unfold kE at hc;split at hc<;>(try split at hc)<;>omega
   rw[cW this];rfl
  .rw [e1,e2]at hc;have:val L<val M:=by unfold kE at hc;split at hc<;>(try split at hc)<;>omega
   rw[ca this,e1]
 .have sO:val M<=val L:=by rw[e1,e2]at hc;unfold kE at hc;split at hc<;>(try split at hc)<;>omega
  have jl:iG M≠[]:=by intro h;rw[h]at e2;exact h0 e2.symm
  have hlen:(iG M).length≠0:=by simpa using jl
  by_cases hl:(iG M).length=1
  .obtain ⟨x,hx⟩:=List.length_eq_one_iff.1 hl;have kj:=hM.iG;rw[hx]at kj;have UX:x=val M:=by rw[<-e2,hx];simp[val]
   have hg:(iG M).getD 0 0=x:=by rw[hx];rfl
   have:=ah5 L M hL hM h1 h2 hc hl (by rw[hg];omega) (by rw[hg];exact kj.head);rw[hg]at this;refine⟨_,_,this,?_,?_,FB _ _,iN.cons (fB (bH _ aC) kj.head) iN.nil,by rw[AN];exact ta,aH⟩
   .rw [Hw,ca,e1,UX];exact cz (bY _ _) (oL hL.iG)
   .simp [val,e1,UX]
  .refine ⟨_,_,Bt hL hM call322 (λA c B d w h k hT=>adj A B c d L M w _ _ _ rfl rfl rfl h k hT h1 h2 sO aC) (λB w e w' hB ⟨A1,c1,B1,d1,q1,q2,q3,q4⟩=>⟨_,q1,q4,ki.ix (.cons (BK hB q4 q2) (.cons (BK hB q4 q3) (.nil _ _ _)))⟩),?_,?_,FB _ _,Bq _ _,?_,?_⟩
   .rw [Hw,ca];rw[cD aC];have g1:=oL hL.iG;rw[e1]at g1;refine bQ g1 ?_;obtain⟨l,qL⟩:∃ l,(iG M).length=l+1:=⟨(iG M).length-1,aC⟩
    have g2:4294967296^l<=val M:=by
     apply bU;intro q;have q2:(gY (val M)).length<=l:=wk aC;rw[<-rS hM]at q2;omega
    have g3:=cL (4294967296^((iG L).length+1-(iG M).length)) g2;rw[<-bt]at g3;refine bk ?_ g3;exact bK aE aC 
   .rw [K7 (mz _),kr,dL _ (bw aE)]
   .rw [AN];omega
   .rw [KP,er];have hb:32-iq ((iG M).getD ((iG M).length-1) 0)<33:= aC ;have:=ahp (mz (val L%val M)) (32-iq ((iG M).getD ((iG M).length-1) 0));rw[kr]at this;have h3:(gY (val L%val M)).length<=(gY (val L)).length:=mV (eC _ _);rw[<-rS hL]at h3;omega
def zV(m n:Nat)(h1:(gY m).length<=256)(h2:(gY n).length<=256)(h0:n≠0):gW 286 [ic (gY m),ic (gY n)] (.ix [ic (gY (m/n)),ic (gY (m%n)),iP 0]):=by
 obtain⟨T,S,F3,hT,hS,oT,oS,_,_⟩:=Oi (gY m) (gY n) (mz m) (mz n) aC aC (by rw[kr];exact h0);rw[kr,kr]at hT hS;have hz:iG (gY n)=gY n:=vD n;have hl:=pJ h0;have ot:(((iG (gY n)).length:Int)==0)=false:=by rw[hz];exact nC hl
 exact ak call286 func286 (ae [.c (Wu (gY m) (gY n) aD aD),ag [ic (gY n)] (uq _ (mz _)),ai 18 (((iG (gY n)).length:Int)==0) ot,ag [ic (gY m),ic (gY n)] F3,ag [ic T] (uq _ aD),ag [ic (iG T)] (RO _ (iN.iG aD)),ag [ic S] (uq _ aD),ag [ic (iG S)] (RO _ (iN.iG aD))]<|rQ (.ix [ic (iG T),ic (iG S),iP 0]) (.ix [ic (gY (m/n)),ic (gY (m%n)),iP 0]) (by rw[rS oT,rS oS,hT,hS])) 
def Xt(a b:Dy)(p:Nat)(up:Bool)(ha:a.ij)(hb:b.ij)(b0:b.m≠0)(il:8<=p)(ig:p<=512):gW 251 [ie a,ie b,iP p,bP up] (.ix [ie (pK a b p up),iP (q9 a b p up)]):=by
 by_cases a0:a.m=0
 .have e1:pK a b p up=ju/\q9 a b p up=0:=by unfold pK q9;rw[a6 a0,a6 a0];exact⟨rfl,rfl⟩
  exact ak call251 func251 (ae [.o 18 (.e (wR _ _):aj (.sl true 2 3 λi_ j_=>(jq a++jq b).getD (i_*3+j_) (.v (.bool false))) (nO [a,b])),ag [iP p,nO [a,b]] (xt _ _ _ aD aD aC aC),ai 21 ((0:Int) != 0) aE,ai 28 (((gY b.m).length:Int)==0) (nC (pJ b0)),ah 34 (((gY a.m).length:Int)==0) (s5 (sD.2 a0)),.o 35 (.e sH:aj (.agg ar) (ie ju))]<|rQ (.ix [ie ju,iP 0]) (.ix [ie (pK a b p up),iP (q9 a b p up)]) (by rw[e1.1,e1.2])) 
 .have va:=ha.gY;have vb:=hb.gY;have xa:=ha.exp;have xb:=hb.exp;have ra:=ha.range.resolve_left a0;have rb:=hb.range.resolve_left b0;have pa:=o0 a0;have pb:=o0 b0;have hK:lv a b p 3=p+3+iq b.m-iq a.m:=rfl;have bs:=q7 a0 (lv a b p 3);have z1:(gY (a.m*2^lv a b p 3)).length<=256:=py aC;have hq:=L4 a0 b0 p 3 aE;have q0:a.m*2^lv a b p 3/b.m≠0:=by intro q;rw[q,sJ]at hq;omega
  have z2:(gY (a.m*2^lv a b p 3/b.m)).length<=256:=py (by have:=uH (bY (a.m*2^lv a b p 3) b.m);omega);have z3:(gY (a.m*2^lv a b p 3%b.m)).length<=256:=py (by have:=uH (dq (bH (a.m*2^lv a b p 3) (dR b0)));omega);have lV:decide (0<(iq (a.m*2^lv a b p 3%b.m):Int))=decide (a.m*2^lv a b p 3%b.m≠0):=by
   by_cases h:a.m*2^lv a b p 3%b.m=0
   .rw [h,sJ];rfl
   .have:=o0 h;rw[a7 h,a7 aC]
  obtain⟨d1,d2⟩:=adh a0 b0 p up;have h0:a.m*2^lv a b p 3/b.m≠0\/a.m*2^lv a b p 3/b.m=0/\a.e-(lv a b p 3:Int)-b.e=0/\decide (0<(iq (a.m*2^lv a b p 3%b.m):Int))=false:=.inl q0;have hm:decide (0<(iq (a.m*2^lv a b p 3%b.m):Int))=true->p<iq (a.m*2^lv a b p 3/b.m):=λ_=>hq
  exact ak call251 func251 (ae [.o 18 (.e (wR _ _):aj (.sl true 2 3 λi_ j_=>(jq a++jq b).getD (i_*3+j_) (.v (.bool false))) (nO [a,b])),ag [iP p,nO [a,b]] (xt _ _ _ aD aD aC aC),ai 21 ((0:Int) != 0) aE,ai 28 (((gY b.m).length:Int)==0) (nC (pJ b0)),ai 34 (((gY a.m).length:Int)==0) (nC (pJ a0)),iz ((p:Int)+3) aC,ag [ie b] (IT _ aD),iz (((p:Int)+3)+(iq (Dy.m b):Int)) aC,ag [ie a] (IT _ aD),
   iz ((((p:Int)+3)+(iq (Dy.m b):Int))-(iq (Dy.m a):Int)) aC,.o 44 (aq (if((((p:Int)+3)+(iq (Dy.m b):Int))-(iq (Dy.m a):Int))>0 then((((p:Int)+3)+(iq (Dy.m b):Int))-(iq (Dy.m a):Int))else 0) (lv a b p 3:Int) aM),.c (wC a.m (lv a b p 3) aC aC aC),ag [ic (gY (a.m*2^(lv a b p 3))),ic (gY b.m)] (zV _ _ aC aC aD),
   iz (a.e-(lv a b p 3:Int)) aC,iz ((a.e-(lv a b p 3:Int))-b.e) aC,ag [ic (gY ((a.m*2^(lv a b p 3))%b.m))] (sZ _ aC),.c (G7 (! (a.neg==b.neg)) ((a.m*2^(lv a b p 3))/b.m) ((a.e-(lv a b p 3:Int))-b.e) (decide (0<(iq ((a.m*2^(lv a b p 3))%b.m):Int))) up p aC aD aC aC aC aC aD)]<|rQ (.ix [ie (kg (!(a.neg==b.neg)) ((a.m*2^(lv a b p 3))/b.m) ((a.e-(lv a b p 3:Int))-b.e) (decide (0<(iq ((a.m*2^(lv a b p 3))%b.m):Int))) p up),iP (jR (!(a.neg==b.neg)) ((a.m*2^(lv a b p 3))/b.m) ((a.e-(lv a b p 3:Int))-b.e) (decide (0<(iq ((a.m*2^(lv a b p 3))%b.m):Int))) p up)]) (.ix [ie (pK a b p up),iP (q9 a b p up)]) (by rw[<-d1,<-d2,<-lV];rfl)) 
def Xr(a b:Dy)(p:Nat)(ha:a.ij)(hb:b.ij)(b0:b.m≠0)(il:8<=p)(ig:p<=512):gW 207 [ie a,ie b,iP p] (.ix [ie (pK a b p false),iP (q9 a b p false)]):=
 ak call207 func207 (af [.c (Xt a b p false aD aD aD aC aC)]) 
def Xs(a b:Dy)(p:Nat)(ha:a.ij)(hb:b.ij)(b0:b.m≠0)(il:8<=p)(ig:p<=512):gW 208 [ie a,ie b,iP p] (.ix [ie (pK a b p true),iP (q9 a b p true)]):=
 ak call208 func208 (af [.c (Xt a b p true aD aD aD aC aC)]) 
def Vl(l:List Iv)(i:Nat):PS:=⟨19,true,[(7,.e (iP i)),(6,.e (iP l.length)),(5,.e (ib l))],[]⟩
def Vk(l:List Iv)(N:Nat)(i:Nat):PS:=⟨19,true,[(7,.e (iP i)),(6,.e (iP l.length)),(5,.e (ib l))],[]⟩
def lh(a:Iv):E.le (.sl true 1 7 λi j=>(iJ a).getD (i*7+j) (.v (.bool false))) (ib [a]):=.sl λi j hi hj=>by
 obtain rfl:i=0:= aC ;rcases j with _|_|_|_|_|_|_|j
 all_goals first|exact⟨.refl _,rfl⟩|omega
def zP(a b:Iv):E.le (.sl true 2 7 λi j=>(iJ a++iJ b).getD (i*7+j) (.v (.bool false))) (ib [a,b]):=.sl λi j hi hj=>by
 obtain rfl|rfl:i=0\/i=1:= aC 
 all_goals
  rcases j with _|_|_|_|_|_|_|j
  all_goals first|exact⟨.refl _,rfl⟩|omega
def uh{x:Iv}(h:x.ij)(ha:x.all=false):x.lo.ij/\x.hi.ij/\jj x.lo x.hi<=0:=by
 rcases h with⟨h1,_⟩|⟨_,h⟩
 .rw [ha]at h1;cases h1
 .exact h
def Vn{x:Iv}(h:x.ij)(ha:x.all=true):x.lo=ju/\x.hi=ju:=by
 rcases h with⟨_,h⟩|⟨h1,_⟩
 .exact h
 .rw [ha]at h1;cases h1
def nS : gW 138 [] (ik ia):=
 ak call138 func138 (af [.o 1 (.e Lb:aj (.agg [bP false,.v (.slice none 0 0),iP 0,bP false,.v (.slice none 0 0),iP 0,bP true]) (ik ia))]) 
def CK(lo hi:Dy)(e f:Int):gW 146 [ie lo,iP e,ie hi,iP f] (ik (mf lo e hi f)):=by
 by_cases he:e=0
 .by_cases hf:f=0
  .exact ak call146 func146 (ae [ai 10 (e != 0) (by rw[he];rfl),ai 13 (f != 0) (by rw[hf];rfl)]<|rQ (ik (Iv.mk lo hi false)) (ik (mf lo e hi f)) (by rw[show mf lo e hi f=⟨lo,hi,false⟩by unfold mf;rw[aZ (by simp[he,hf])]];try rfl)) 
  .exact ak call146 func146 (ae [ai 10 (e != 0) (by rw[he];rfl),ah 13 (f != 0) (by simpa using hf),.c nS]<|rQ (ik ia) (ik (mf lo e hi f)) (by rw[show mf lo e hi f=ia by unfold mf;rw[a6 (.inr hf)]])) 
 .exact ak call146 func146 (ae [ah 10 (e != 0) (by simpa using he),.c nS]<|rQ (ik ia) (ik (mf lo e hi f)) (by rw[show mf lo e hi f=ia by unfold mf;rw[a6 (.inl he)]])) 
def Vp : gW 200 [ie ju] (bP true):=
 ak call200 func200 (af [ai 4 ju.neg rfl,ah 10 (((gY ju.m).length:Int)==0) (s5 (sD.2 rfl)),ah 15 (ju.e==0) rfl]) 
def qd(x:Iv)(hx:x.ij):gW 127 [ik x] (bP true):=by
 by_cases lg:x.all=true
 .obtain ⟨h1,h2⟩:=Vn hx lg;exact ak call127 func127 (af [ah 5 x.all lg,.c (by rw[h1];exact Vp:gW 200 [ie x.lo] (bP true)),.c (by rw[h2];exact Vp:gW 200 [ie x.hi] (bP true))]) 
 .replace lg:x.all=false:=by simpa using lg
  obtain⟨h1,h2,h3⟩:=uh hx lg;exact ak call127 func127 (af [ai 5 x.all lg,ag [ie x.lo] (oq _ aD),ag [ie x.hi] (oq _ aD),ag [ie x.lo,ie x.hi] (nF _ _ aD aD),tB 30 (a7 h3)]) 
def Vm(l:List Iv)(hl:l.length<=1000)(hv:∀ i,i<l.length->(l.getD i ia).ij)(ha:∀ i,i<l.length->(l.getD i ia).all=false):gW 143 [ib l] (bP true):=
 ak call143 func143 (af [.s (Sp.jC (Vl l) 0 l.length aC (λi hi nQ=>by
    have UP:=hv i aC;have MS:=ha i aC;exact iF (af [tT 8 ((i:Int)<l.length) aC,iX (i:Int) (l.length) aC,ai 12 ((l.getD i ia).all) MS,.c (qd (l.getD i ia) aD),
     iz ((i:Int)+1) aC]) aF)
  (λhi=>by
    exact iF (af [tF 8 ((l.length:Int)<l.length) aC]) aF) aI:jA 2 f143 (Vl l 0) (.exit 0) ⟨19,true,[],[]⟩) .nil]) 
def NO(l:List Iv)(hl:l.length<=1000)(hv:∀ i,i<l.length->(l.getD i ia).ij)(N:Nat)(hN:N<l.length)(ha:∀ i,i<N->(l.getD i ia).all=false)(sN:(l.getD N ia).all=true):gW 143 [ib l] (bP false):=
 ak call143 func143 (af [.s (Sp.jC (Vk l N) 0 N aC (λi hi nQ=>by
    have UP:=hv i aC;have MS:=ha i aC;exact iF (af [tT 8 ((i:Int)<l.length) aC,iX (i:Int) (l.length) aC,ai 12 ((l.getD i ia).all) MS,.c (qd (l.getD i ia) aD),
     iz ((i:Int)+1) aC]) aF)
  (λhi=>by
    exact iF (af [tT 8 ((N:Int)<l.length) aC,iX (N:Int) (l.length) aC,ah 12 ((l.getD N ia).all) sN]) aF) aI:jA 2 f143 (Vk l N 0) .ret ⟨19,true,[(2,.e (bP false))],[]⟩) .nil]) 
def qn(x:Iv)(hx:x.ij):gW 143 [ib [x]] (bP (!x.all)):=by
 have hv:∀ i,i<[x].length->([x].getD i ia).ij:=λi hi=>(match i,hi with
  | 0,_=>hx
  |n+1,hi=>absurd hi aH)
 cases lg:x.all with
 |true=>exact NO [x] aH hv 0 aH (λi hi=>absurd hi (bj i)) lg
 |false=>exact Vm [x] aH hv (λi hi=>(match i,hi with
  | 0,_=>lg
  |n+1,hi=>absurd hi aH))
def zO(x y:Iv)(hx:x.ij)(hy:y.ij):gW 143 [ib [x,y]] (bP (!(x.all||y.all))):=by
 have hv:∀ i,i<[x,y].length->([x,y].getD i ia).ij:=λi hi=>(match i,hi with
  | 0,_=>hx
  | 1,_=>hy
  |n+2,hi=>absurd hi aH)
 cases lg:x.all with
 |true=>exact NO [x,y] aH hv 0 aH (λi hi=>absurd hi (bj i)) lg
 |false=>cases Bh:y.all with
  |true=>exact NO [x,y] aH hv 1 aH (λi hi=>(match i,hi with
   | 0,_=>lg
   |n+1,hi=>absurd hi aC)) Bh
  |false=>exact Vm [x,y] aH hv (λi hi=>(match i,hi with
   | 0,_=>lg
   | 1,_=>Bh
   |n+2,hi=>absurd hi aH))
def wh(x y:Iv)(p:Nat)(hx:x.ij)(hy:y.ij)(il:8<=p)(ig:p<=512):gW 61 [ik x,ik y,iP p] (ik (jf x y p)):=by
 by_cases hk:(x.all||y.all)=true
 .exact ak call61 func61 (ae [.o 13 (.e (zP _ _):aj (.sl true 2 7 λi_ j_=>(iJ x++iJ y).getD (i_*7+j_) (.v (.bool false))) (ib [x,y])),ag [ib [x,y]] (zO _ _ aD aD),ai 14 (!(x.all||y.all)) (by rw[hk];rfl),.c nS]<|rQ (ik ia) (ik (jf x y p)) (by rw[show jf x y p=ia by unfold jf;rw[a6 hk]])) 
 .replace hk:(x.all||y.all)=false:=by simpa using hk
  have lg:x.all=false:=by cases h:x.all;rfl;rw[h]at hk;simp at hk
  have Bh:y.all=false:=by cases h:y.all;rfl;rw[h]at hk;simp at hk
  obtain⟨v1,v2,v3⟩:=uh hx lg;obtain⟨v4,v5,v6⟩:=uh hy Bh;exact ak call61 func61 (ae [.o 13 (.e (zP _ _):aj (.sl true 2 7 λi_ j_=>(iJ x++iJ y).getD (i_*7+j_) (.v (.bool false))) (ib [x,y])),ag [ib [x,y]] (zO _ _ aD aD),ah 14 (!(x.all||y.all)) (by rw[hk];rfl),ag [iP p] (wi _),ah 18 (lH (p:Int)) (sj.2 ⟨aC,aC⟩),.c (ajs x.lo y.lo p aD aD aC aC),.c (Xp x.hi y.hi p aD aD aC aC),.c (CK (kf (iL x.lo y.lo) p false) (kf (iL x.hi y.hi) p true) (jS (iL x.lo y.lo) p false) (jS (iL x.hi y.hi) p true))]<|rQ (ik (mf (kf (iL x.lo y.lo) p false) (jS (iL x.lo y.lo) p false) (kf (iL x.hi y.hi) p true) (jS (iL x.hi y.hi) p true))) (ik (jf x y p)) (by rw[show jf x y p=_ by unfold jf;rw[aZ (by rw[hk];decide)]])) 
def JW(x:Iv)(hx:x.ij):gW 205 [ik x] (ik (qe x)):=by
 by_cases lg:x.all=true
 .exact ak call205 func205 (ae [.o 4 (.e (lh _):aj (.sl true 1 7 λi_ j_=>(iJ x).getD (i_*7+j_) (.v (.bool false))) (ib [x])),ag [ib [x]] (qn _ aD),ai 5 (!x.all) (by rw[lg];rfl),.c nS]<|rQ (ik ia) (ik (qe x)) (by rw[show qe x=ia by unfold qe;rw[a6 lg]])) 
 .replace lg:x.all=false:=by simpa using lg
  obtain⟨v1,v2,v3⟩:=uh hx lg;exact ak call205 func205 (ae [.o 4 (.e (lh _):aj (.sl true 1 7 λi_ j_=>(iJ x).getD (i_*7+j_) (.v (.bool false))) (ib [x])),ag [ib [x]] (qn _ aD),ah 5 (!x.all) (by rw[lg];rfl),ag [ie x.hi] (xK _ aD),ag [ie x.lo] (xK _ aD)]<|rQ (ik (Iv.mk (jt x.hi) (jt x.lo) false)) (ik (qe x)) (by rw[show qe x=⟨jt x.hi,jt x.lo,false⟩by unfold qe;rw[aZ (by rw[lg];decide)]];try rfl)) 
def JY(x y:Iv)(p:Nat)(hx:x.ij)(hy:y.ij)(il:8<=p)(ig:p<=512):gW 140 [ik x,ik y,iP p] (ik (rP x y p)):=by
 have hn:=CY hy;exact ak call140 func140 (af [.c (JW y aD),.c (wh x (qe y) p aD aD aC aC)]) 
def ui(d:Dy)(hd:d.ij):gW 62 [ie d] (ik (j9 d)):=
 ak call62 func62 (af [ag [ie d] (oq _ aD)]) 
def FE(d:Dy)(hd:d.ij):gW 174 [ie d] (ie (mD d)):=by
 have hl:=hd.gY;by_cases h0:d.m=0
 .have e1:mD d=ju:=by
   rcases hd.canon with q|q
   .unfold mD ju;rw[q.1,q.2.2]
   .omega
  exact ak call174 func174 (ae [ag [ie d] (oq _ aD),ah 10 (((gY d.m).length:Int)==0) (s5 (sD.2 h0)),.o 12 (.e sH:aj (.agg ar) (ie ju))]<|rQ (ie ju) (ie (mD d)) (by rw[e1])) 
 .exact ak call174 func174 (af [ag [ie d] (oq _ aD),ai 10 (((gY d.m).length:Int)==0) (nC (pJ h0)),ag [ic (gY d.m)] (RP _ (mz _) aC)]) 
def Ek(a b:Dy)(ha:a.ij)(hb:b.ij):gW 210 [ie a,ie b] (ie (jd a b)):=by
 have hc:=Fu a b;by_cases h:(jj a b<=0)
 .exact ak call210 func210 (ae [ag [ie a,ie b] (nF _ _ aD aD),tB 8 (a7 h)]<|rQ (ie a) (ie (jd a b)) (by unfold jd;rw[aZ aC])) 
 .exact ak call210 func210 (ae [ag [ie a,ie b] (nF _ _ aD aD),tB 8 (bc h)]<|rQ (ie b) (ie (jd a b)) (by unfold jd;rw[a6 aC])) 
def El(a b:Dy)(ha:a.ij)(hb:b.ij):gW 209 [ie a,ie b] (ie (ja a b)):=by
 have hc:=Fu a b;by_cases h:(0<=jj a b)
 .exact ak call209 func209 (ae [ag [ie a,ie b] (nF _ _ aD aD),tB 8 (a7 h)]<|rQ (ie a) (ie (ja a b)) (by unfold ja;rw[aZ aC])) 
 .exact ak call209 func209 (ae [ag [ie a,ie b] (nF _ _ aD aD),tB 8 (bc h)]<|rQ (ie b) (ie (ja a b)) (by unfold ja;rw[a6 aC])) 
def JX(x:Iv)(hx:x.ij):gW 132 [ik x] (iP (nM x)):=by
 by_cases lg:x.all=true
 .exact ak call132 func132 (ae [.o 5 (.e (lh _):aj (.sl true 1 7 λi_ j_=>(iJ x).getD (i_*7+j_) (.v (.bool false))) (ib [x])),ag [ib [x]] (qn _ aD),ai 6 (!x.all) (by rw[lg];rfl)]<|rQ (iP 0) (iP (nM x)) (by rw[show nM x=0 by unfold nM;rw[a6 lg]])) 
 .replace lg:x.all=false:=by simpa using lg
  obtain⟨v1,v2,v3⟩:=uh hx lg;by_cases h1:0<x.lo.iM
  .exact ak call132 func132 (ae [.o 5 (.e (lh _):aj (.sl true 1 7 λi_ j_=>(iJ x).getD (i_*7+j_) (.v (.bool false))) (ib [x])),ag [ib [x]] (qn _ aD),ah 6 (!x.all) (by rw[lg];rfl),ag [ie x.lo] (mT _ aD),tB 12 (a7 h1)]<|rQ (iP 1) (iP (nM x)) (by rw[show nM x=1 by unfold nM;rw[aZ (by rw[lg];decide)];simp[h1]])) 
  .by_cases h2:x.hi.iM<0
   .exact ak call132 func132 (ae [.o 5 (.e (lh _):aj (.sl true 1 7 λi_ j_=>(iJ x).getD (i_*7+j_) (.v (.bool false))) (ib [x])),ag [ib [x]] (qn _ aD),ah 6 (!x.all) (by rw[lg];rfl),ag [ie x.lo] (mT _ aD),tB 12 (bc h1),ag [ie x.hi] (mT _ aD),tB 17 (a7 h2)]<|rQ (iP (-1)) (iP (nM x)) (by rw[show nM x = -1 by unfold nM;rw[aZ (by rw[lg];decide)];simp[h1,h2]])) 
   .exact ak call132 func132 (ae [.o 5 (.e (lh _):aj (.sl true 1 7 λi_ j_=>(iJ x).getD (i_*7+j_) (.v (.bool false))) (ib [x])),ag [ib [x]] (qn _ aD),ah 6 (!x.all) (by rw[lg];rfl),ag [ie x.lo] (mT _ aD),tB 12 (bc h1),ag [ie x.hi] (mT _ aD),tB 17 (bc h2)]<|rQ (iP 0) (iP (nM x)) (by rw[show nM x=0 by unfold nM;rw[aZ (by rw[lg];decide)];simp[h1,h2]])) 
def NP(x:Iv)(hx:x.ij)(lg:x.all=false):gW 182 [ik x] (.ix [ie (nj x),bP true]):=by
 obtain⟨v1,v2,v3⟩:=uh hx lg;have w1:=yN v1;have w2:=yN v2;exact ak call182 func182 (af [.o 5 (.e (lh _):aj (.sl true 1 7 λi_ j_=>(iJ x).getD (i_*7+j_) (.v (.bool false))) (ib [x])),ag [ib [x]] (qn _ aD),ah 6 (!x.all) (by rw[lg];rfl),.c (FE x.lo aD),.c (FE x.hi aD),.c (El (mD x.lo) (mD x.hi) aD aD)]) 
def agN(x:Iv)(hx:x.ij)(lg:x.all=false):gW 287 [ik x] (.ix [ie (pk x),bP true]):=by
 obtain⟨v1,v2,v3⟩:=uh hx lg;have w1:=yN v1;have w2:=yN v2;by_cases hs:nM x=0
 .exact ak call287 func287 (ae [.o 5 (.e (lh _):aj (.sl true 1 7 λi_ j_=>(iJ x).getD (i_*7+j_) (.v (.bool false))) (ib [x])),ag [ib [x]] (qn _ aD),ah 6 (!x.all) (by rw[lg];rfl),.c (JX x aD),ah 11 ((nM x)==0) (by rw[hs];rfl),.o 12 (.e sH:aj (.agg ar) (ie ju))]<|rQ (.ix [ie ju,bP true]) (.ix [ie (pk x),bP true]) (by rw[show pk x=ju by unfold pk;rw[a6 hs]])) 
 .exact ak call287 func287 (ae [.o 5 (.e (lh _):aj (.sl true 1 7 λi_ j_=>(iJ x).getD (i_*7+j_) (.v (.bool false))) (ib [x])),ag [ib [x]] (qn _ aD),ah 6 (!x.all) (by rw[lg];rfl),.c (JX x aD),ai 11 ((nM x)==0) (by simpa using hs),.c (FE x.lo aD),.c (FE x.hi aD),.c (Ek (mD x.lo) (mD x.hi) aD aD)]<|rQ (.ix [ie (jd (mD x.lo) (mD x.hi)),bP true]) (.ix [ie (pk x),bP true]) (by rw[show pk x=jd (mD x.lo) (mD x.hi)by unfold pk;rw[aZ hs]])) 
def NN(x:Iv)(hx:x.ij):gW 252 [ik x] (ik (jV x)):=by
 by_cases lg:x.all=true
 .exact ak call252 func252 (ae [.o 8 (.e (lh _):aj (.sl true 1 7 λi_ j_=>(iJ x).getD (i_*7+j_) (.v (.bool false))) (ib [x])),ag [ib [x]] (qn _ aD),ai 9 (!x.all) (by rw[lg];rfl),.c nS]<|rQ (ik ia) (ik (jV x)) (by rw[show jV x=ia by unfold jV;rw[a6 lg]])) 
 .replace lg:x.all=false:=by simpa using lg
  obtain⟨v1,v2,v3⟩:=uh hx lg;exact ak call252 func252 (ae [.o 8 (.e (lh _):aj (.sl true 1 7 λi_ j_=>(iJ x).getD (i_*7+j_) (.v (.bool false))) (ib [x])),ag [ib [x]] (qn _ aD),ah 9 (!x.all) (by rw[lg];rfl),.c (agN x aD lg),.c (NP x aD lg)]<|rQ (ik (Iv.mk (pk x) (nj x) false)) (ik (jV x)) (by rw[show jV x=⟨pk x,nj x,false⟩by unfold jV;rw[aZ (by rw[lg];decide)]];try rfl)) 
def agI(x y:Iv)(p:Nat)(gd gu:FuncId)(DD:Dy->Dy->Bool->Dy)(EE:Dy->Dy->Bool->Int):PS:=⟨96,true,[(41,.e (iP 0)),(40,.e (.agg (iJ (Iv.mk x.lo y.lo x.lo.neg)++[ic (gY x.lo.m),iP x.lo.e]++iJ (Iv.mk y.hi x.hi y.lo.neg)++[ic (gY y.lo.m),iP y.lo.e]++jq x.hi++jq y.hi))),(12,.box 12 0),(10,.box 10 0),(2,.e (iP p)),(3,.e (.fn gd [])),(4,.e (.fn gu []))],[(12,.cells 39 (iJ (Iv.mk (DD x.lo y.lo false) (DD x.lo y.lo true) false))),(10,.cells 39 au)]⟩
def agJ(x y:Iv)(p:Nat)(gd gu:FuncId)(DD:Dy->Dy->Bool->Dy)(EE:Dy->Dy->Bool->Int):PS:=⟨96,true,[(41,.e (iP (0+1))),(40,.e (.agg (iJ (Iv.mk x.lo y.lo x.lo.neg)++[ic (gY x.lo.m),iP x.lo.e]++iJ (Iv.mk y.hi x.hi y.lo.neg)++[ic (gY y.lo.m),iP y.lo.e]++jq x.hi++jq y.hi))),(12,.box 12 0),(10,.box 10 0),(2,.e (iP p)),(3,.e (.fn gd [])),(4,.e (.fn gu []))],[(12,.cells 39 (iJ (Iv.mk (jd (DD x.lo y.lo false) (DD x.lo y.hi false)) (ja (DD x.lo y.lo true) (DD x.lo y.hi true)) false))),(10,.cells 39 au)]⟩
def agK(x y:Iv)(p:Nat)(gd gu:FuncId)(DD:Dy->Dy->Bool->Dy)(EE:Dy->Dy->Bool->Int):PS:=⟨96,true,[(41,.e (iP ((0+1)+1))),(40,.e (.agg (iJ (Iv.mk x.lo y.lo x.lo.neg)++[ic (gY x.lo.m),iP x.lo.e]++iJ (Iv.mk y.hi x.hi y.lo.neg)++[ic (gY y.lo.m),iP y.lo.e]++jq x.hi++jq y.hi))),(12,.box 12 0),(10,.box 10 0),(2,.e (iP p)),(3,.e (.fn gd [])),(4,.e (.fn gu []))],[(12,.cells 39 (iJ (Iv.mk (jd (jd (DD x.lo y.lo false) (DD x.lo y.hi false)) (DD x.hi y.lo false)) (ja (ja (DD x.lo y.lo true) (DD x.lo y.hi true)) (DD x.hi y.lo true)) false))),(10,.cells 39 au)]⟩
def agL(x y:Iv)(p:Nat)(gd gu:FuncId)(DD:Dy->Dy->Bool->Dy)(EE:Dy->Dy->Bool->Int):PS:=⟨96,true,[(41,.e (iP (((0+1)+1)+1))),(40,.e (.agg (iJ (Iv.mk x.lo y.lo x.lo.neg)++[ic (gY x.lo.m),iP x.lo.e]++iJ (Iv.mk y.hi x.hi y.lo.neg)++[ic (gY y.lo.m),iP y.lo.e]++jq x.hi++jq y.hi))),(12,.box 12 0),(10,.box 10 0),(2,.e (iP p)),(3,.e (.fn gd [])),(4,.e (.fn gu []))],[(12,.cells 39 (iJ (Iv.mk (jd (jd (jd (DD x.lo y.lo false) (DD x.lo y.hi false)) (DD x.hi y.lo false)) (DD x.hi y.hi false)) (ja (ja (ja (DD x.lo y.lo true) (DD x.lo y.hi true)) (DD x.hi y.lo true)) (DD x.hi y.hi true)) false))),(10,.cells 39 au)]⟩
def Vj(x y:Iv)(p:Nat)(gd gu:FuncId)(DD:Dy->Dy->Bool->Dy)(EE:Dy->Dy->Bool->Int)(hd:∀ a b,(a=x.lo\/a=x.hi)->(b=y.lo\/b=y.hi)->gW gd [ie a,ie b,iP (p:Int)] (.ix [ie (DD a b false),iP (EE a b false)]))
  (hu:∀ a b,(a=x.lo\/a=x.hi)->(b=y.lo\/b=y.hi)->gW gu [ie a,ie b,iP (p:Int)] (.ix [ie (DD a b true),iP (EE a b true)])) (hv:∀ a b up,(DD a b up).ij):gW 206 [ik x,ik y,iP p,.fn gd [],.fn gu []] (ik (pD DD EE x y)):=by
 exact ak call206 func206 (ae [.u 5,ah 42 (decide ((0:Int)<4)) aE]<|.w ((EE x.lo y.lo false)=0)
  (λk1=>.w ((EE x.lo y.lo true)=0)
   (λk2=>ae [.j 3 (agI x y p gd gu DD EE)
   (af [iX 0 4 aC,iX 0 2 aC,iX 1 2 aC,.c (hd _ _ (.inl rfl) (.inl rfl):gW gd ((ie x.lo)::(ie y.lo)::(iP p)::[]) _),iX 0 2 aC,iX 1 2 aC,.c (hu _ _ (.inl rfl) (.inl rfl):gW gu ((ie x.lo)::(ie y.lo)::(iP p)::[]) _),tB 66 (aX k1),tB 69 (aX k2),ah 73 ((0:Int)==0) aE,ah 84 ((0:Int)==0) aE]),
    iz (0+1) aC,ah 42 (decide (((0+1):Int)<4)) aE]<|.w ((EE x.lo y.hi false)=0)
    (λk3=>.w ((EE x.lo y.hi true)=0)
     (λk4=>ae [.j 3 (agJ x y p gd gu DD EE)
   (ae [iX (0+1) 4 aC,iX 0 2 aC,iX 1 2 aC,.c (hd _ _ (.inl rfl) (.inr rfl):gW gd ((ie x.lo)::(ie y.hi)::(iP p)::[]) _),iX 0 2 aC,iX 1 2 aC,.c (hu _ _ (.inl rfl) (.inr rfl):gW gu ((ie x.lo)::(ie y.hi)::(iP p)::[]) _),tB 66 (aX k3),tB 69 (aX k4),ai 73 (((0+1):Int)==0) aE,ag [ie (DD x.lo y.hi false),ie (DD x.lo y.lo false)] (nF _ _ (hv _ _ _) (hv _ _ _))]<|.w ((jj (DD x.lo y.hi false) (DD x.lo y.lo false))<0)
    (λm1=>ae [tB 79 (a7 m1),ai 84 (((0+1):Int)==0) aE,ag [ie (DD x.lo y.hi true),ie (DD x.lo y.lo true)] (nF _ _ (hv _ _ _) (hv _ _ _))]<|.w (0<(jj (DD x.lo y.hi true) (DD x.lo y.lo true)))
     (λm2=>ae [tB 90 (a7 m2)]<|.e (af [.b 12 (.iT (by rw[show jd (DD x.lo y.lo false) (DD x.lo y.hi false)=(DD x.lo y.hi false)from a6 m1,show ja (DD x.lo y.lo true) (DD x.lo y.hi true)=(DD x.lo y.hi true)from a6 m2]):Bx.le (.cells 39 (iJ (Iv.mk (DD x.lo y.hi false) (DD x.lo y.hi true) false))) (.cells 39 (iJ (Iv.mk (jd (DD x.lo y.lo false) (DD x.lo y.hi false)) (ja (DD x.lo y.lo true) (DD x.lo y.hi true)) false))))]))
     (λm2=>ae [tB 90 (bc m2)]<|.e (af [.b 12 (.iT (by rw[show jd (DD x.lo y.lo false) (DD x.lo y.hi false)=(DD x.lo y.hi false)from a6 m1,show ja (DD x.lo y.lo true) (DD x.lo y.hi true)=(DD x.lo y.lo true)from aZ m2]):Bx.le (.cells 39 (iJ (Iv.mk (DD x.lo y.hi false) (DD x.lo y.lo true) false))) (.cells 39 (iJ (Iv.mk (jd (DD x.lo y.lo false) (DD x.lo y.hi false)) (ja (DD x.lo y.lo true) (DD x.lo y.hi true)) false))))])))
    (λm1=>ae [tB 79 (bc m1),ai 84 (((0+1):Int)==0) aE,ag [ie (DD x.lo y.hi true),ie (DD x.lo y.lo true)] (nF _ _ (hv _ _ _) (hv _ _ _))]<|.w (0<(jj (DD x.lo y.hi true) (DD x.lo y.lo true)))
     (λm2=>ae [tB 90 (a7 m2)]<|.e (af [.b 12 (.iT (by rw[show jd (DD x.lo y.lo false) (DD x.lo y.hi false)=(DD x.lo y.lo false)from aZ m1,show ja (DD x.lo y.lo true) (DD x.lo y.hi true)=(DD x.lo y.hi true)from a6 m2]):Bx.le (.cells 39 (iJ (Iv.mk (DD x.lo y.lo false) (DD x.lo y.hi true) false))) (.cells 39 (iJ (Iv.mk (jd (DD x.lo y.lo false) (DD x.lo y.hi false)) (ja (DD x.lo y.lo true) (DD x.lo y.hi true)) false))))]))
     (λm2=>ae [tB 90 (bc m2)]<|.e (af [.b 12 (.iT (by rw[show jd (DD x.lo y.lo false) (DD x.lo y.hi false)=(DD x.lo y.lo false)from aZ m1,show ja (DD x.lo y.lo true) (DD x.lo y.hi true)=(DD x.lo y.lo true)from aZ m2]):Bx.le (.cells 39 (iJ (Iv.mk (DD x.lo y.lo false) (DD x.lo y.lo true) false))) (.cells 39 (iJ (Iv.mk (jd (DD x.lo y.lo false) (DD x.lo y.hi false)) (ja (DD x.lo y.lo true) (DD x.lo y.hi true)) false))))])))),
      iz ((0+1)+1) aC,ah 42 (decide ((((0+1)+1):Int)<4)) aE]<|.w ((EE x.hi y.lo false)=0)
      (λk5=>.w ((EE x.hi y.lo true)=0)
       (λk6=>ae [.j 3 (agK x y p gd gu DD EE)
   (ae [iX ((0+1)+1) 4 aC,iX 0 2 aC,iX 1 2 aC,.c (hd _ _ (.inr rfl) (.inl rfl):gW gd ((ie x.hi)::(ie y.lo)::(iP p)::[]) _),iX 0 2 aC,iX 1 2 aC,.c (hu _ _ (.inr rfl) (.inl rfl):gW gu ((ie x.hi)::(ie y.lo)::(iP p)::[]) _),tB 66 (aX k5),tB 69 (aX k6),ai 73 ((((0+1)+1):Int)==0) aE,ag [ie (DD x.hi y.lo false),ie (jd (DD x.lo y.lo false) (DD x.lo y.hi false))] (nF _ _ (hv _ _ _) (um (hv _ _ _) (hv _ _ _)))]<|.w ((jj (DD x.hi y.lo false) (jd (DD x.lo y.lo false) (DD x.lo y.hi false)))<0)
    (λm1=>ae [tB 79 (a7 m1),ai 84 ((((0+1)+1):Int)==0) aE,ag [ie (DD x.hi y.lo true),ie (ja (DD x.lo y.lo true) (DD x.lo y.hi true))] (nF _ _ (hv _ _ _) (sE (hv _ _ _) (hv _ _ _)))]<|.w (0<(jj (DD x.hi y.lo true) (ja (DD x.lo y.lo true) (DD x.lo y.hi true))))
     (λm2=>ae [tB 90 (a7 m2)]<|.e (af [.b 12 (.iT (by rw[show jd (jd (DD x.lo y.lo false) (DD x.lo y.hi false)) (DD x.hi y.lo false)=(DD x.hi y.lo false)from a6 m1,show ja (ja (DD x.lo y.lo true) (DD x.lo y.hi true)) (DD x.hi y.lo true)=(DD x.hi y.lo true)from a6 m2]):Bx.le (.cells 39 (iJ (Iv.mk (DD x.hi y.lo false) (DD x.hi y.lo true) false))) (.cells 39 (iJ (Iv.mk (jd (jd (DD x.lo y.lo false) (DD x.lo y.hi false)) (DD x.hi y.lo false)) (ja (ja (DD x.lo y.lo true) (DD x.lo y.hi true)) (DD x.hi y.lo true)) false))))]))
     (λm2=>ae [tB 90 (bc m2)]<|.e (af [.b 12 (.iT (by rw[show jd (jd (DD x.lo y.lo false) (DD x.lo y.hi false)) (DD x.hi y.lo false)=(DD x.hi y.lo false)from a6 m1,show ja (ja (DD x.lo y.lo true) (DD x.lo y.hi true)) (DD x.hi y.lo true)=(ja (DD x.lo y.lo true) (DD x.lo y.hi true))from aZ m2]):Bx.le (.cells 39 (iJ (Iv.mk (DD x.hi y.lo false) (ja (DD x.lo y.lo true) (DD x.lo y.hi true)) false))) (.cells 39 (iJ (Iv.mk (jd (jd (DD x.lo y.lo false) (DD x.lo y.hi false)) (DD x.hi y.lo false)) (ja (ja (DD x.lo y.lo true) (DD x.lo y.hi true)) (DD x.hi y.lo true)) false))))])))
    (λm1=>ae [tB 79 (bc m1),ai 84 ((((0+1)+1):Int)==0) aE,ag [ie (DD x.hi y.lo true),ie (ja (DD x.lo y.lo true) (DD x.lo y.hi true))] (nF _ _ (hv _ _ _) (sE (hv _ _ _) (hv _ _ _)))]<|.w (0<(jj (DD x.hi y.lo true) (ja (DD x.lo y.lo true) (DD x.lo y.hi true))))
     (λm2=>ae [tB 90 (a7 m2)]<|.e (af [.b 12 (.iT (by rw[show jd (jd (DD x.lo y.lo false) (DD x.lo y.hi false)) (DD x.hi y.lo false)=(jd (DD x.lo y.lo false) (DD x.lo y.hi false))from aZ m1,show ja (ja (DD x.lo y.lo true) (DD x.lo y.hi true)) (DD x.hi y.lo true)=(DD x.hi y.lo true)from a6 m2]):Bx.le (.cells 39 (iJ (Iv.mk (jd (DD x.lo y.lo false) (DD x.lo y.hi false)) (DD x.hi y.lo true) false))) (.cells 39 (iJ (Iv.mk (jd (jd (DD x.lo y.lo false) (DD x.lo y.hi false)) (DD x.hi y.lo false)) (ja (ja (DD x.lo y.lo true) (DD x.lo y.hi true)) (DD x.hi y.lo true)) false))))]))
     (λm2=>ae [tB 90 (bc m2)]<|.e (af [.b 12 (.iT (by rw[show jd (jd (DD x.lo y.lo false) (DD x.lo y.hi false)) (DD x.hi y.lo false)=(jd (DD x.lo y.lo false) (DD x.lo y.hi false))from aZ m1,show ja (ja (DD x.lo y.lo true) (DD x.lo y.hi true)) (DD x.hi y.lo true)=(ja (DD x.lo y.lo true) (DD x.lo y.hi true))from aZ m2]):Bx.le (.cells 39 (iJ (Iv.mk (jd (DD x.lo y.lo false) (DD x.lo y.hi false)) (ja (DD x.lo y.lo true) (DD x.lo y.hi true)) false))) (.cells 39 (iJ (Iv.mk (jd (jd (DD x.lo y.lo false) (DD x.lo y.hi false)) (DD x.hi y.lo false)) (ja (ja (DD x.lo y.lo true) (DD x.lo y.hi true)) (DD x.hi y.lo true)) false))))])))),
        iz (((0+1)+1)+1) aC,ah 42 (decide (((((0+1)+1)+1):Int)<4)) aE]<|.w ((EE x.hi y.hi false)=0)
        (λk7=>.w ((EE x.hi y.hi true)=0)
         (λk8=>ae [.j 3 (agL x y p gd gu DD EE)
   (ae [iX (((0+1)+1)+1) 4 aC,iX 0 2 aC,iX 1 2 aC,.c (hd _ _ (.inr rfl) (.inr rfl):gW gd ((ie x.hi)::(ie y.hi)::(iP p)::[]) _),iX 0 2 aC,iX 1 2 aC,.c (hu _ _ (.inr rfl) (.inr rfl):gW gu ((ie x.hi)::(ie y.hi)::(iP p)::[]) _),tB 66 (aX k7),tB 69 (aX k8),ai 73 (((((0+1)+1)+1):Int)==0) aE,ag [ie (DD x.hi y.hi false),ie (jd (jd (DD x.lo y.lo false) (DD x.lo y.hi false)) (DD x.hi y.lo false))] (nF _ _ (hv _ _ _) (um (um (hv _ _ _) (hv _ _ _)) (hv _ _ _)))]<|.w ((jj (DD x.hi y.hi false) (jd (jd (DD x.lo y.lo false) (DD x.lo y.hi false)) (DD x.hi y.lo false)))<0)
    (λm1=>ae [tB 79 (a7 m1),ai 84 (((((0+1)+1)+1):Int)==0) aE,ag [ie (DD x.hi y.hi true),ie (ja (ja (DD x.lo y.lo true) (DD x.lo y.hi true)) (DD x.hi y.lo true))] (nF _ _ (hv _ _ _) (sE (sE (hv _ _ _) (hv _ _ _)) (hv _ _ _)))]<|.w (0<(jj (DD x.hi y.hi true) (ja (ja (DD x.lo y.lo true) (DD x.lo y.hi true)) (DD x.hi y.lo true))))
     (λm2=>ae [tB 90 (a7 m2)]<|.e (af [.b 12 (.iT (by rw[show jd (jd (jd (DD x.lo y.lo false) (DD x.lo y.hi false)) (DD x.hi y.lo false)) (DD x.hi y.hi false)=(DD x.hi y.hi false)from a6 m1,show ja (ja (ja (DD x.lo y.lo true) (DD x.lo y.hi true)) (DD x.hi y.lo true)) (DD x.hi y.hi true)=(DD x.hi y.hi true)from a6 m2]):Bx.le (.cells 39 (iJ (Iv.mk (DD x.hi y.hi false) (DD x.hi y.hi true) false))) (.cells 39 (iJ (Iv.mk (jd (jd (jd (DD x.lo y.lo false) (DD x.lo y.hi false)) (DD x.hi y.lo false)) (DD x.hi y.hi false)) (ja (ja (ja (DD x.lo y.lo true) (DD x.lo y.hi true)) (DD x.hi y.lo true)) (DD x.hi y.hi true)) false))))]))
     (λm2=>ae [tB 90 (bc m2)]<|.e (af [.b 12 (.iT (by rw[show jd (jd (jd (DD x.lo y.lo false) (DD x.lo y.hi false)) (DD x.hi y.lo false)) (DD x.hi y.hi false)=(DD x.hi y.hi false)from a6 m1,show ja (ja (ja (DD x.lo y.lo true) (DD x.lo y.hi true)) (DD x.hi y.lo true)) (DD x.hi y.hi true)=(ja (ja (DD x.lo y.lo true) (DD x.lo y.hi true)) (DD x.hi y.lo true))from aZ m2]):Bx.le (.cells 39 (iJ (Iv.mk (DD x.hi y.hi false) (ja (ja (DD x.lo y.lo true) (DD x.lo y.hi true)) (DD x.hi y.lo true)) false))) (.cells 39 (iJ (Iv.mk (jd (jd (jd (DD x.lo y.lo false) (DD x.lo y.hi false)) (DD x.hi y.lo false)) (DD x.hi y.hi false)) (ja (ja (ja (DD x.lo y.lo true) (DD x.lo y.hi true)) (DD x.hi y.lo true)) (DD x.hi y.hi true)) false))))])))
    (λm1=>ae [tB 79 (bc m1),ai 84 (((((0+1)+1)+1):Int)==0) aE,ag [ie (DD x.hi y.hi true),ie (ja (ja (DD x.lo y.lo true) (DD x.lo y.hi true)) (DD x.hi y.lo true))] (nF _ _ (hv _ _ _) (sE (sE (hv _ _ _) (hv _ _ _)) (hv _ _ _)))]<|.w (0<(jj (DD x.hi y.hi true) (ja (ja (DD x.lo y.lo true) (DD x.lo y.hi true)) (DD x.hi y.lo true))))
     (λm2=>ae [tB 90 (a7 m2)]<|.e (af [.b 12 (.iT (by rw[show jd (jd (jd (DD x.lo y.lo false) (DD x.lo y.hi false)) (DD x.hi y.lo false)) (DD x.hi y.hi false)=(jd (jd (DD x.lo y.lo false) (DD x.lo y.hi false)) (DD x.hi y.lo false))from aZ m1,show ja (ja (ja (DD x.lo y.lo true) (DD x.lo y.hi true)) (DD x.hi y.lo true)) (DD x.hi y.hi true)=(DD x.hi y.hi true)from a6 m2]):Bx.le (.cells 39 (iJ (Iv.mk (jd (jd (DD x.lo y.lo false) (DD x.lo y.hi false)) (DD x.hi y.lo false)) (DD x.hi y.hi true) false))) (.cells 39 (iJ (Iv.mk (jd (jd (jd (DD x.lo y.lo false) (DD x.lo y.hi false)) (DD x.hi y.lo false)) (DD x.hi y.hi false)) (ja (ja (ja (DD x.lo y.lo true) (DD x.lo y.hi true)) (DD x.hi y.lo true)) (DD x.hi y.hi true)) false))))]))
     (λm2=>ae [tB 90 (bc m2)]<|.e (af [.b 12 (.iT (by rw[show jd (jd (jd (DD x.lo y.lo false) (DD x.lo y.hi false)) (DD x.hi y.lo false)) (DD x.hi y.hi false)=(jd (jd (DD x.lo y.lo false) (DD x.lo y.hi false)) (DD x.hi y.lo false))from aZ m1,show ja (ja (ja (DD x.lo y.lo true) (DD x.lo y.hi true)) (DD x.hi y.lo true)) (DD x.hi y.hi true)=(ja (ja (DD x.lo y.lo true) (DD x.lo y.hi true)) (DD x.hi y.lo true))from aZ m2]):Bx.le (.cells 39 (iJ (Iv.mk (jd (jd (DD x.lo y.lo false) (DD x.lo y.hi false)) (DD x.hi y.lo false)) (ja (ja (DD x.lo y.lo true) (DD x.lo y.hi true)) (DD x.hi y.lo true)) false))) (.cells 39 (iJ (Iv.mk (jd (jd (jd (DD x.lo y.lo false) (DD x.lo y.hi false)) (DD x.hi y.lo false)) (DD x.hi y.hi false)) (ja (ja (ja (DD x.lo y.lo true) (DD x.lo y.hi true)) (DD x.hi y.lo true)) (DD x.hi y.hi true)) false))))])))),
          iz ((((0+1)+1)+1)+1) aC,ai 42 (decide ((((((0+1)+1)+1)+1):Int)<4)) aE]<|rQ (ik (Iv.mk (jd (jd (jd (DD x.lo y.lo false) (DD x.lo y.hi false)) (DD x.hi y.lo false)) (DD x.hi y.hi false)) (ja (ja (ja (DD x.lo y.lo true) (DD x.lo y.hi true)) (DD x.hi y.lo true)) (DD x.hi y.hi true)) false)) (ik (pD DD EE x y)) (by rw[show pD DD EE x y=⟨jd (jd (jd (DD x.lo y.lo false) (DD x.lo y.hi false)) (DD x.hi y.lo false)) (DD x.hi y.hi false),ja (ja (ja (DD x.lo y.lo true) (DD x.lo y.hi true)) (DD x.hi y.lo true)) (DD x.hi y.hi true),false⟩from a6 ⟨⟨k1,k2⟩,⟨k3,k4⟩,⟨k5,k6⟩,⟨k7,k8⟩⟩];try rfl))
         (λk8=>ae [iX (((0+1)+1)+1) 4 aC,iX 0 2 aC,iX 1 2 aC,.c (hd _ _ (.inr rfl) (.inr rfl):gW gd ((ie x.hi)::(ie y.hi)::(iP p)::[]) _),iX 0 2 aC,iX 1 2 aC,.c (hu _ _ (.inr rfl) (.inr rfl):gW gu ((ie x.hi)::(ie y.hi)::(iP p)::[]) _),tB 66 (aX k7),tB 69 (aY k8),.c nS]<|rQ (ik ia) (ik (pD DD EE x y)) (by rw[show pD DD EE x y=ia from aZ (by rintro⟨⟨q0,r0⟩,⟨q1,r1⟩,⟨q2,r2⟩,⟨q3,r3⟩⟩;exact k8 r3)])))
        (λk7=>ae [iX (((0+1)+1)+1) 4 aC,iX 0 2 aC,iX 1 2 aC,.c (hd _ _ (.inr rfl) (.inr rfl):gW gd ((ie x.hi)::(ie y.hi)::(iP p)::[]) _),iX 0 2 aC,iX 1 2 aC,.c (hu _ _ (.inr rfl) (.inr rfl):gW gu ((ie x.hi)::(ie y.hi)::(iP p)::[]) _),tB 66 (aY k7),.c nS]<|rQ (ik ia) (ik (pD DD EE x y)) (by rw[show pD DD EE x y=ia from aZ (by rintro⟨⟨q0,r0⟩,⟨q1,r1⟩,⟨q2,r2⟩,⟨q3,r3⟩⟩;exact k7 q3)])))
       (λk6=>ae [iX ((0+1)+1) 4 aC,iX 0 2 aC,iX 1 2 aC,.c (hd _ _ (.inr rfl) (.inl rfl):gW gd ((ie x.hi)::(ie y.lo)::(iP p)::[]) _),iX 0 2 aC,iX 1 2 aC,.c (hu _ _ (.inr rfl) (.inl rfl):gW gu ((ie x.hi)::(ie y.lo)::(iP p)::[]) _),tB 66 (aX k5),tB 69 (aY k6),.c nS]<|rQ (ik ia) (ik (pD DD EE x y)) (by rw[show pD DD EE x y=ia from aZ (by rintro⟨⟨q0,r0⟩,⟨q1,r1⟩,⟨q2,r2⟩,⟨q3,r3⟩⟩;exact k6 r2)])))
      (λk5=>ae [iX ((0+1)+1) 4 aC,iX 0 2 aC,iX 1 2 aC,.c (hd _ _ (.inr rfl) (.inl rfl):gW gd ((ie x.hi)::(ie y.lo)::(iP p)::[]) _),iX 0 2 aC,iX 1 2 aC,.c (hu _ _ (.inr rfl) (.inl rfl):gW gu ((ie x.hi)::(ie y.lo)::(iP p)::[]) _),tB 66 (aY k5),.c nS]<|rQ (ik ia) (ik (pD DD EE x y)) (by rw[show pD DD EE x y=ia from aZ (by rintro⟨⟨q0,r0⟩,⟨q1,r1⟩,⟨q2,r2⟩,⟨q3,r3⟩⟩;exact k5 q2)])))
     (λk4=>ae [iX (0+1) 4 aC,iX 0 2 aC,iX 1 2 aC,.c (hd _ _ (.inl rfl) (.inr rfl):gW gd ((ie x.lo)::(ie y.hi)::(iP p)::[]) _),iX 0 2 aC,iX 1 2 aC,.c (hu _ _ (.inl rfl) (.inr rfl):gW gu ((ie x.lo)::(ie y.hi)::(iP p)::[]) _),tB 66 (aX k3),tB 69 (aY k4),.c nS]<|rQ (ik ia) (ik (pD DD EE x y)) (by rw[show pD DD EE x y=ia from aZ (by rintro⟨⟨q0,r0⟩,⟨q1,r1⟩,⟨q2,r2⟩,⟨q3,r3⟩⟩;exact k4 r1)])))
    (λk3=>ae [iX (0+1) 4 aC,iX 0 2 aC,iX 1 2 aC,.c (hd _ _ (.inl rfl) (.inr rfl):gW gd ((ie x.lo)::(ie y.hi)::(iP p)::[]) _),iX 0 2 aC,iX 1 2 aC,.c (hu _ _ (.inl rfl) (.inr rfl):gW gu ((ie x.lo)::(ie y.hi)::(iP p)::[]) _),tB 66 (aY k3),.c nS]<|rQ (ik ia) (ik (pD DD EE x y)) (by rw[show pD DD EE x y=ia from aZ (by rintro⟨⟨q0,r0⟩,⟨q1,r1⟩,⟨q2,r2⟩,⟨q3,r3⟩⟩;exact k3 q1)])))
   (λk2=>ae [iX 0 4 aC,iX 0 2 aC,iX 1 2 aC,.c (hd _ _ (.inl rfl) (.inl rfl):gW gd ((ie x.lo)::(ie y.lo)::(iP p)::[]) _),iX 0 2 aC,iX 1 2 aC,.c (hu _ _ (.inl rfl) (.inl rfl):gW gu ((ie x.lo)::(ie y.lo)::(iP p)::[]) _),tB 66 (aX k1),tB 69 (aY k2),.c nS]<|rQ (ik ia) (ik (pD DD EE x y)) (by rw[show pD DD EE x y=ia from aZ (by rintro⟨⟨q0,r0⟩,⟨q1,r1⟩,⟨q2,r2⟩,⟨q3,r3⟩⟩;exact k2 r0)])))
  (λk1=>ae [iX 0 4 aC,iX 0 2 aC,iX 1 2 aC,.c (hd _ _ (.inl rfl) (.inl rfl):gW gd ((ie x.lo)::(ie y.lo)::(iP p)::[]) _),iX 0 2 aC,iX 1 2 aC,.c (hu _ _ (.inl rfl) (.inl rfl):gW gu ((ie x.lo)::(ie y.lo)::(iP p)::[]) _),tB 66 (aY k1),.c nS]<|rQ (ik ia) (ik (pD DD EE x y)) (by rw[show pD DD EE x y=ia from aZ (by rintro⟨⟨q0,r0⟩,⟨q1,r1⟩,⟨q2,r2⟩,⟨q3,r3⟩⟩;exact k1 q0)]))) 
def alI{y:Iv}(hy:y.ij)(hs:nM y≠0):y.lo.m≠0/\y.hi.m≠0:=by
 unfold nM at hs;have ha:y.all=false:=by
  cases h:y.all with
  |false=>rfl
  |true=>rw[h]at hs;exact absurd rfl hs
 obtain⟨v1,v2,v3⟩:=uh hy ha;rw[ha]at hs;simp only[bE,bn]at hs;have z:∀ d:Dy,d.m=0->d.iM=0:=λd h=>by unfold Dy.iM;rw[a6 h]
 have hc:=DG y.lo y.hi;rw[hc]at v3;constructor
 .intro h0;have:=z _ h0;rw[this]at hs v3;split at hs
  .omega
  .split at hs
   .split at v3<;>omega
   .exact hs rfl
 .intro h0;have:=z _ h0;rw[this]at hs v3;split at hs
  .split at v3<;>omega
  .split at hs
   .omega
   .exact hs rfl
def ada(a b:Dy){p:Nat}(up:Bool)(hp:1<=p)(ig:p<=4096):(pK a b p up).ij:=by
 unfold pK;split
 .exact rU
 .exact tp _ _ _ _ _ _ hp ig
def sC(x y:Iv)(p:Nat)(hx:x.ij)(hy:y.ij)(il:8<=p)(ig:p<=512):gW 212 [ik x,ik y,iP p] (ik (iD x y p)):=by
 by_cases hk:(x.all||y.all)=true
 .exact ak call212 func212 (ae [.o 9 (.e (zP _ _):aj (.sl true 2 7 λi_ j_=>(iJ x++iJ y).getD (i_*7+j_) (.v (.bool false))) (ib [x,y])),ag [ib [x,y]] (zO _ _ aD aD),ai 10 (!(x.all||y.all)) (by rw[hk];rfl),.c nS]<|rQ (ik ia) (ik (iD x y p)) (by rw[show iD x y p=ia by unfold iD;rw[a6 hk]])) 
 .replace hk:(x.all||y.all)=false:=by simpa using hk
  have lg:x.all=false:=by cases h:x.all;rfl;rw[h]at hk;simp at hk
  have Bh:y.all=false:=by cases h:y.all;rfl;rw[h]at hk;simp at hk
  obtain⟨v1,v2,v3⟩:=uh hx lg;obtain⟨v4,v5,v6⟩:=uh hy Bh;exact ak call212 func212 (ae [.o 9 (.e (zP _ _):aj (.sl true 2 7 λi_ j_=>(iJ x++iJ y).getD (i_*7+j_) (.v (.bool false))) (ib [x,y])),ag [ib [x,y]] (zO _ _ aD aD),ah 10 (!(x.all||y.all)) (by rw[hk];rfl),ag [iP p] (wi _),ah 14 (lH (p:Int)) (sj.2 ⟨aC,aC⟩),.c (Vj x y p 254 255 (λa b up=>kf (nc a b) p up) (λa b up=>jS (nc a b) p up) (λa b ha hb=>Kt a b p (by rcases ha with rfl|rfl;exact v1;exact v2) (by rcases hb with rfl|rfl;exact v4;exact v5) il ig) (λa b ha hb=>Ku a b p (by rcases ha with rfl|rfl;exact v1;exact v2) (by rcases hb with rfl|rfl;exact v4;exact v5) il ig) (λa b up=>tp _ _ _ _ _ _ aC aC))]<|rQ (ik (pD (λa b up=>kf (nc a b) p up) (λa b up=>jS (nc a b) p up) x y)) (ik (iD x y p)) (by rw[show iD x y p=_ by unfold iD;rw[aZ (by rw[hk];decide)]];rfl)) 
def zL(x y:Iv)(p:Nat)(hx:x.ij)(hy:y.ij)(il:8<=p)(ig:p<=512):gW 141 [ik x,ik y,iP p] (ik (jv x y p)):=by
 by_cases hk:(x.all||y.all)=true
 .exact ak call141 func141 (ae [.o 9 (.e (zP _ _):aj (.sl true 2 7 λi_ j_=>(iJ x++iJ y).getD (i_*7+j_) (.v (.bool false))) (ib [x,y])),ag [ib [x,y]] (zO _ _ aD aD),ai 10 (!(x.all||y.all)) (by rw[hk];rfl),.c nS]<|rQ (ik ia) (ik (jv x y p)) (by rw[show jv x y p=ia by unfold jv;rw[a6 (by rw[hk];rfl)]])) 
 .replace hk:(x.all||y.all)=false:=by simpa using hk
  have lg:x.all=false:=by cases h:x.all;rfl;rw[h]at hk;simp at hk
  have Bh:y.all=false:=by cases h:y.all;rfl;rw[h]at hk;simp at hk
  obtain⟨v1,v2,v3⟩:=uh hx lg;obtain⟨v4,v5,v6⟩:=uh hy Bh;by_cases hs:nM y=0
  .exact ak call141 func141 (ae [.o 9 (.e (zP _ _):aj (.sl true 2 7 λi_ j_=>(iJ x++iJ y).getD (i_*7+j_) (.v (.bool false))) (ib [x,y])),ag [ib [x,y]] (zO _ _ aD aD),ah 10 (!(x.all||y.all)) (by rw[hk];rfl),ag [iP p] (wi _),ah 14 (lH (p:Int)) (sj.2 ⟨aC,aC⟩),.c (JX y aD),ah 20 ((nM y)==0) (by rw[hs];rfl),.c nS]<|rQ (ik ia) (ik (jv x y p)) (by rw[show jv x y p=ia by unfold jv;rw[a6 (by rw[hk,a7 hs];rfl)]])) 
  .obtain ⟨n1,n2⟩:=alI hy hs;exact ak call141 func141 (ae [.o 9 (.e (zP _ _):aj (.sl true 2 7 λi_ j_=>(iJ x++iJ y).getD (i_*7+j_) (.v (.bool false))) (ib [x,y])),ag [ib [x,y]] (zO _ _ aD aD),ah 10 (!(x.all||y.all)) (by rw[hk];rfl),ag [iP p] (wi _),ah 14 (lH (p:Int)) (sj.2 ⟨aC,aC⟩),.c (JX y aD),ai 20 ((nM y)==0) (by simpa using hs),.c (Vj x y p 207 208 (λa b up=>pK a b p up) (λa b up=>q9 a b p up) (λa b ha hb=>Xr a b p (by rcases ha with rfl|rfl;exact v1;exact v2) (by rcases hb with rfl|rfl;exact v4;exact v5) (by rcases hb with rfl|rfl;exact n1;exact n2) il ig) (λa b ha hb=>Xs a b p (by rcases ha with rfl|rfl;exact v1;exact v2) (by rcases hb with rfl|rfl;exact v4;exact v5) (by rcases hb with rfl|rfl;exact n1;exact n2) il ig) (λa b up=>ada a b up aC aC))]<|rQ (ik (pD (λa b up=>pK a b p up) (λa b up=>q9 a b p up) x y)) (ik (jv x y p)) (by rw[show jv x y p=_ by unfold jv;rw[aZ (by rw[hk,bc hs];decide)]])) 
def agV(d:RD)(h:d.Zero):gW 200 [kX d] (bP true):=by
 obtain⟨h1,h2,h3⟩:=h;exact ak call200 func200 (af [ai 4 d.neg h1,ah 10 ((d.L.length:Int)==0) (s5 (by rw[h2];rfl)),ah 15 (d.e==0) (by rw[h3];rfl)]) 
def Vo(d:RD)(h:¬d.Zero):gW 200 [kX d] (bP false):=by
 by_cases h1:d.neg=true
 .exact ak call200 func200 (af [ah 4 d.neg h1]) 
 .replace h1:d.neg=false:=by simpa using h1
  by_cases h2:d.L=[]
  .have h3:¬d.e=0:=λq=>h ⟨h1,h2,q⟩
   exact ak call200 func200 (af [ai 4 d.neg h1,ah 10 ((d.L.length:Int)==0) (s5 (by rw[h2];rfl)),ai 15 (d.e==0) (by simpa using h3)]) 
  .exact ak call200 func200 (af [ai 4 d.neg h1,ai 10 ((d.L.length:Int)==0) (nC (λq=>h2 (gQ.1 q)))]) 
def agU(x:RI)(g:x.jE)(h:x.Ok):gW 127 [vt x] (bP true):=by
 have:=qd x.iv h.valid;rwa[<-Gv,h.eq g]at this
def agS(x:RI)(g:x.jE)(h:¬x.Ok):gW 127 [vt x] (bP false):=by
 have ga:=g.lo;have gb:=g.hi;by_cases ha:x.all=true
 .by_cases h1:x.lo.Zero
  .have h2:¬x.hi.Zero:=λq=>h (.inl ⟨ha,h1,q⟩)
   exact ak call127 func127 (af [ah 5 x.all ha,.c (agV x.lo h1),.c (Vo x.hi h2)]) 
  .exact ak call127 func127 (af [ah 5 x.all ha,.c (Vo x.lo h1)]) 
 .replace ha:x.all=false:=by simpa using ha
  by_cases h1:x.lo.Ok
  .by_cases h2:x.hi.Ok
   .have h3:¬jj x.lo.dy x.hi.dy<=0:=λq=>h (.inr ⟨ha,h1,h2,q⟩)
    have v1:=h1.valid;have v2:=h2.valid;have e1:vt x=ik x.iv:=by rw[<-Gv,show x.iv.raw=x by show RI.mk x.lo.dy.raw x.hi.dy.raw x.all=x;rw[h1.eq ga,h2.eq gb]]
    rw[e1];exact ak call127 func127 (af [ai 5 x.iv.all ha,ag [ie x.iv.lo] (oq _ aD),ag [ie x.iv.hi] (oq _ aD),ag [ie x.iv.lo,ie x.iv.hi] (nF _ _ aD aD),tB 30 (bc h3)]) 
   .exact ak call127 func127 (af [ai 5 x.all ha,ag [kX x.lo] (B5 _ aD true (by simp[h1])),ag [kX x.hi] (B5 _ aD false (by simp[h2]))]) 
  .exact ak call127 func127 (af [ai 5 x.all ha,ag [kX x.lo] (B5 _ aD false (by simp[h1]))]) 
def agT(x:RI)(g:x.jE):gW 127 [vt x] (bP (nL x)):=by
 by_cases h:x.Ok
 .rw [s7.2 h];exact agU x g h
 .rw [show nL x=false by simpa using λq=>h (s7.1 q)];exact agS x g h
abbrev iK(xs:List Iv):Nat->Nat->E:=λi j=>(iJ (xs.getD i ia)).getD j .any
abbrev mE(M:List (List Iv)):Nat->Nat->E:=λi _=>ib (M.getD i [])
abbrev ni(M:List (List Iv)):Nat->Nat:=λq=>(M.getD q []).length
abbrev oI(M:List (List Iv)):Nat->Nat->Nat->E:=λq i j=>(iJ ((M.getD q []).getD i ia)).getD j .any
def tI(x:Iv)(j:Nat)(hj:j<7):((iJ x).getD j .any).nr 2=true:=by
 rcases j with _|_|_|_|_|_|_|j
 all_goals first|rfl|omega
def Vs(xs:List Iv):(ib xs).nr 2=true:=rfl
def J0{T n:Nat}{xs:List Iv}{y:Iv}(hn:n=xs.length):
 Bx.le (.row true T (n+[y].length) 7 λi j=>if i<n then iK xs i j else(E.kG (ib [y])) (i-n) j) (.row true T (xs++[y]).length 7 (iK (xs++[y]))):=by
 subst hn;refine .row aH λi j hi hj=>⟨.iT ?_,tI _ _ hj⟩
 by_cases h:i<xs.length
 .rw [a6 h];show(iJ (xs.getD i ia)).getD j .any=(iJ ((xs++[y]).getD i ia)).getD j .any;congr 2;simp[bh,dN h]
 .have mC:i=xs.length:=by simp at hi;omega
  subst mC;rw[aZ h,dp];show(iJ y).getD j .any=(iJ ((xs++[y]).getD xs.length ia)).getD j .any;congr 2;simp[bh]
def ahQ{T n:Nat}{M:List (List Iv)}{r:List Iv}{p:E}{m:Nat}(hn:n=M.length)(hm:m=1)(hp:∀ j,j<1->p.kG 0 j=ib r):
 Bx.le (.row true T (n+m) 1 λi j=>if i<n then mE M i j else(E.kG p) (i-n) j) (.row true T (M++[r]).length 1 (mE (M++[r]))):=by
 subst hn hm;refine .row aH λi j hi hj=>⟨.iT ?_,Vs _⟩
 by_cases h:i<M.length
 .rw [a6 h];show ib (M.getD i [])=ib ((M++[r]).getD i []);congr 1;simp[bh,dN h]
 .have mC:i=M.length:= aC ;subst mC;rw[aZ h,dp,hp j hj];show ib r=ib ((M++[r]).getD M.length []);congr 1;simp[bh]
def oP{α:Type}(y:α):[y].length=1:=rfl
def OS{n i:Nat}{F:Nat->Iv}(h:i<n):((List.range n).map F).getD i ia=F i:=by
 simp[bh,h]
def ahP{n:Nat}{M:List (List Iv)}(hn:n=M.length):E.le (.sl true n 1 λk _=>.sl true (ni M k) 7 (oI M k)) (kN M):=by subst hn;exact .refl _
end Go.Proofs.YtgdahmmlddfimaaGreatDoor
namespace Go.Proofs.YtgdahmmlddfimaaGreatDoor.Fp
section
variable {a b:Dy} {k:Int}
end
def afl{m gm p:Nat}{e ge K:Int}(hp:1<=p)(hg:iq gm<=p)(sO:-16384<=ge)(k1:K<=e)(k2:K<=ge)
 (h:gm*2^(ge-K).toNat<=m*2^(e-K).toNat):gm*2^(ge-K).toNat<=lp m e false p false*2^(e+jP m e p-K).toNat:=by
 have hq:lp m e false p false=m/2^jP m e p:=by unfold lp;simp
 rw[hq];have hm:=cI m (2^jP m e p);have hr:=bH m (bw (n:=jP m e p) (aE:0<2));obtain⟨k,hk⟩:∃ k,k=jP m e p:=⟨_,rfl⟩
 rw[<-hk]at hm hr ⊢;have e1:(e+(k:Int)-K).toNat=k+(e-K).toNat:= aC ;rw[e1,bt];generalize hE:2^(e-K).toNat=E at *
 have ME:0<E:=by rw[<-hE];exact bw aE 
 have hmE:m*E<(m/2^k+1)*(2^k*E):=by
  rw[<-bC];refine dh ?_ ME;rw[bX,bZ,bG];omega
 by_cases hc:e+k<=ge
 .
  have e2:(ge-K).toNat=(ge-(e+k)).toNat+(k+(e-K).toNat):= aC ;rw[e2,bt,bt 2 k,hE]at h ⊢;rw[<-bC]at h ⊢;generalize gm*2^(ge-(e+k)).toNat=g at *
  have:g<m/2^k+1:=by
   apply bU;intro h';have:=bL (2^k*E) (aC:m/2^k+1<=g);omega
  exact bL _ aC 
 .by_cases og:k=0
  .subst og;rw[cE,fF,bZ];exact h
  .
   have hb:(iq m:Int)-p=k:=by unfold jP at hk;omega
   have Co:m≠0:=by intro h0;rw[h0]at hb;simp[iq]at hb;omega
   have h1:=tV Co;have h2:2^(iq m-1-k)<=m/2^k:=by
    rw[dc (bw aE),<-bt];exact bk (bK aE (by have:=o0 Co;omega)) h1
   have h3:gm<2^p:=mj.1 hg;refine bk (bL _ (dq h3)) (bk ?_ (bL _ h2));rw[<-hE,<-bt,<-bt,<-bt];exact bK aE aC 
def Tv{m gm p:Nat}{e ge K:Int}(hp:1<=p)(hg:iq gm<=p)(sO:-16384<=ge)(k1:K<=e)(k2:K<=ge)
 (h:m*2^(e-K).toNat<=gm*2^(ge-K).toNat):lp m e false p true*2^(e+jP m e p-K).toNat<=gm*2^(ge-K).toNat:=by
 have UA:lp m e false p false=m/2^jP m e p:=by unfold lp;simp
 have Gf:lp m e false p true=m/2^jP m e p+if m%2^jP m e p≠0 then 1 else 0:=by unfold lp;simp
 have hm:=cI m (2^jP m e p);obtain⟨k,hk⟩:∃ k,k=jP m e p:=⟨_,rfl⟩
 rw[Gf];rw[<-hk]at hm ⊢;have e1:(e+(k:Int)-K).toNat=k+(e-K).toNat:= aC ;rw[e1,bt];generalize hE:2^(e-K).toNat=E at *
 have ME:0<E:=by rw[<-hE];exact bw aE 
 by_cases hr:m%2^k=0
 .rw [aZ aC,bR,<-bC];refine bk (gP ?_) h;congr 1;rw[bG];omega
 .rw [a6 hr];have og:k≠0:=by intro h0;rw[h0,cE,dE]at hr;exact hr rfl
  have iB:m/2^k*(2^k*E)<gm*2^(ge-K).toNat:=by
   refine bQ ?_ h;rw[<-bC];refine dh ?_ ME;rw[bG];omega
  by_cases hc:e+k<=ge
  .have e2:(ge-K).toNat=(ge-(e+k)).toNat+(k+(e-K).toNat):= aC ;have e3:gm*2^(ge-K).toNat=gm*2^(ge-(e+k)).toNat*(2^k*E):=by rw[e2,bt,bt 2 k,hE,bC]
   rw[e3]at iB ⊢;generalize gm*2^(ge-(e+k)).toNat=g at *
   have:m/2^k<g:=aoQ iB;exact bL _ this
  .
   exfalso;have hb:(iq m:Int)-p=k:=by unfold jP at hk;omega
   have Co:m≠0:=by intro h0;rw[h0]at hr;simp at hr
   have h1:=tV Co;have Jp:=o0 Co;have h3:gm<2^p:=mj.1 hg;have h4:gm*2^(ge-K).toNat<=2^(iq m-1)*E:=by
    refine bk (bL _ (dq h3)) ?_;rw[<-hE,<-bt,<-bt];exact bK aE aC 
   have h5:2^(iq m-1-k)<=m/2^k:=by
    rw[dc (bw aE),<-bt];exact bk (bK aE aC) h1
   have h6:2^(iq m-1)*E<=m/2^k*(2^k*E):=by
    rw[<-bC];refine bL _ ?_;have:=bL (2^k) h5;rw[<-bt]at this;exact bk (bK aE aC) this
   omega
def P2(k:Int):Rat:=(2:Rat)^k
def nN(k:Int):0<P2 k:=Rat.zpow_pos aE 
def rA(a b:Int):P2 (a+b)=P2 a*P2 b:=Rat.zpow_add aE a b
def yK(n:Nat):P2 (n:Int)=((2^n:Nat):Rat):=by unfold P2;rw[Rat.zpow_natCast];simp
def Lp:P2 0=1:=by have:=yK 0;simpa using this
def Fb{e k:Int}(h:k<=e):P2 e=((2^(e-k).toNat:Nat):Rat)*P2 k:=by
 rw[<-yK,<-rA];congr 1;omega
def wq{x y:Rat}(k:Int):x*P2 k<=y*P2 k↔x<=y:=
 ⟨λh=>fG h (nN k),λh=>cw h (bJ (nN k))⟩
def vi{m n:Nat}{e f K:Int}(h1:K<=e)(h2:K<=f):(m:Rat)*P2 e<=(n:Rat)*P2 f↔m*2^(e-K).toNat<=n*2^(f-K).toNat:=by
 rw[Fb h1,Fb h2,<-eX,<-eX,wq,<-df,<-df,dB]
def Dy.q(d:Dy):Rat:=((d.num d.e:Int):Rat)*P2 d.e
def yA{d:Dy}{k:Int}(h:ru d k):d.q=((d.num k:Int):Rat)*P2 k:=by
 unfold Dy.q;rcases h with h|h
 .rw [wA h,wA h];simp
 .rw [Ke h (cv _),Fb h,<-eX,Rat.intCast_mul,dU]
def pT(a b:Dy):jj a b<=0↔a.q<=b.q:=by
 obtain⟨k,ka,kb⟩:∃ k:Int,k<=a.e/\k<=b.e:=⟨min a.e b.e,aC,aC⟩
 rw[sW (.inr ka) (.inr kb),yA (.inr ka),yA (.inr kb),wq,gh]
def OP(a b:Dy):(iL a b).q=a.q+b.q:=by
 obtain⟨k,ka,kb⟩:∃ k:Int,k<=a.e/\k<=b.e:=⟨min a.e b.e,aC,aC⟩
 rw[yA (Ij (.inr ka) (.inr kb)),yA (.inr ka),yA (.inr kb),KV (.inr ka) (.inr kb),Rat.intCast_add,Rat.add_mul]
def rn(a:Dy):(jt a).q = -a.q:=by
 rw[yA (Lv (.inr (cv a.e))),Ov,ado,aoh];rfl
def r9(s:Bool)(m:Nat)(e:Int):(canon s m e).q=if s then -((m:Rat)*P2 e)else(m:Rat)*P2 e:=by
 rw[yA (Az (cv e)),C2 (cv e)];have:(e-e).toNat=0:= aC ;rw[this];cases s<;>simp[ado,aoh,dU]
def qV(a:Dy):a.q=if a.neg then -((a.m:Rat)*P2 a.e)else(a.m:Rat)*P2 a.e:=by
 unfold Dy.q Dy.num Dy.jO;have:(a.e-a.e).toNat=0:= aC ;rw[this];cases a.neg<;>simp[ado,aoh,dU]
def EI(a b:Dy):(xr a b).q=a.q*b.q:=by
 unfold xr;rw[r9,qV a,qV b,rA,df];cases a.neg<;>cases b.neg<;>simp<;>grind
def tN:ju.q=0:=by rw[qV];simp[ju]
def ai9{a b:Dy}(ha:a.nn)(hb:b.nn)(h:a.q=b.q):a=b:=by
 obtain⟨k,ka,kb⟩:∃ k:Int,k<=a.e/\k<=b.e:=⟨min a.e b.e,aC,aC⟩
 refine St ha hb (.inr ka) (.inr kb) ?_;rw[yA (.inr ka),yA (.inr kb)]at h;have h1:=(wq (x:=((a.num k:Int):Rat)) (y:=((b.num k:Int):Rat)) k).1 (by rw[h];exact cr);have h2:=(wq (x:=((b.num k:Int):Rat)) (y:=((a.num k:Int):Rat)) k).1 (by rw[h];exact cr);rw[gh]at h1 h2;omega
def Bw(n:Int):(iW n).q=(n:Rat):=by
 unfold iW;rw[yA (k:=0) (Lu (cv 0)),Ou (cv 0),Lp];simp
def Ae(d:Dy):0<=(mD d).q/\d.q<=(mD d).q /\ -d.q<=(mD d).q/\((mD d).q=d.q\/(mD d).q = -d.q):=by
 have h:(mD d).q=(d.m:Rat)*P2 d.e:=by rw[qV];rfl
 have h0:0<=(d.m:Rat)*P2 d.e:=bW cS (bJ (nN _));rw[h,qV d];cases d.neg<;>simp<;>grind
def sk(d:Dy):(0<d.iM↔0<d.q)/\(d.iM<0↔d.q<0):=by
 have h:=nN d.e;have hm:d.m≠0->0<(d.m:Rat)*P2 d.e:=λh0=>eD (gj.2 aC) h
 rw[qV];unfold Dy.iM;by_cases h0:d.m=0
 .simp [h0]
 .have:=hm h0;rw[aZ h0];cases d.neg<;>simp<;>grind
def G4(a b:Dy):a.q<=(ja a b).q/\b.q<=(ja a b).q/\((ja a b).q=a.q\/(ja a b).q=b.q):=
 ⟨(pT _ _).1 (Et a b),(pT _ _).1 (Wa a b),by unfold ja;split;exact .inr rfl;exact .inl rfl⟩
def C7(a b:Dy):(jd a b).q<=a.q/\(jd a b).q<=b.q/\((jd a b).q=a.q\/(jd a b).q=b.q):=
 ⟨(pT _ _).1 (GF a b),(pT _ _).1 (Wb a b),by unfold jd;split;exact .inr rfl;exact .inl rfl⟩
def GM(p:Nat)(g:Rat):Prop:=∃ (m:Nat) (e:Int),iq m<=p /\ -16384<=e/\(iq m:Int)+e<=16384/\g=(m:Rat)*P2 e
def G(p:Nat)(g:Rat):Prop:=GM p g\/GM p (-g)
def GM.GP{p:Nat}{g:Rat}(h:GM p g):0<=g:=by
 obtain⟨m,e,_,_,_,rfl⟩:=h;exact bW cS (bJ (nN _))
def At(p:Nat):GM p 0:=⟨0,0,by simp[sJ],aC,by simp[sJ],aH⟩
def G.neg{p:Nat}{g:Rat}(h:G p g):G p (-g):=by
 rcases h with h|h
 .exact .inr (by rw[fH];exact h)
 .exact .inl h
def G.pos{p:Nat}{g:Rat}(h:G p g)(h0:0<=g):GM p g:=by
 rcases h with h|h
 .exact h
 .have:=h.GP;have:g=0:= aK ;rw[this];exact At p
def Ri(k:Nat):iq (2^k)=k+1:=yR (bg _) (gM aE aC)
def xH:iq 1=1:=Ri 0
section
variable {m p:Nat} {e:Int}
def ZJ(hp:1<=p)(ig:p<=4096)(ho:mI m e false p false=true):
 GM p (((2^p-1:Nat):Rat)*P2 (16384-p))/\((2^p-1:Nat):Rat)*P2 (16384-p)<=(m:Rat)*P2 e/\∀ g,GM p g->g<=((2^p-1:Nat):Rat)*P2 (16384-p):=by
 have xf:2<=2^p:=by
  have:=bK (n:=2) aE hp;omega
 have hb:iq (2^p-1)=p:=by
  obtain⟨j,rfl⟩:∃ j,p=j+1:=⟨p-1,aC⟩
  have h2:2^(j+1)=2^j*2:=bD _ _;have h3:=bw (n:=j) (aE:0<2);exact yR aC aC 
 refine⟨⟨_,_,gP hb,aC,aC,rfl⟩,?_,?_⟩
 .obtain ⟨c1,c2⟩:=IP m e p;unfold mI at ho;simp only[bF,cC]at ho;obtain⟨o1,o2⟩:=ho;have hq:=tV o1;have Jp:=o0 o1;obtain⟨K,k1,k2⟩:∃ K:Int,K<=e/\K<=16384-p:=⟨min e (16384-p),aC,aC⟩
  rw[vi k2 k1];have h1:2^(iq (lp m e false p false)-1)*2^jP m e p<=m:=bk (bL _ hq) c1;have h2:=bL (2^(e-K).toNat) h1;rw[<-bt,<-bt]at h2;refine bk (bL _ (dP _ _)) (bk ?_ h2);rw[<-bt];exact bK aE aC 
 .rintro g ⟨gm,ge,b1,b2,b3,rfl⟩;by_cases hc:ge<=16384-p
  .have:gm<2^p:=mj.1 b1;rw[vi (K:=ge) (cv _) hc];have e0:(ge-ge).toNat=0:= aC ;rw[e0,cE,b8];exact bk (aC:gm<=2^p-1) (gw _ (bw aE))
  .rw [vi (K:=16384-p) aC (cv _)];have e0:((16384:Int)-p-(16384-p)).toNat=0:= aC ;rw[e0,cE,b8];have h1:gm<2^(16384-ge).toNat:=by
    by_cases h0:gm=0
    .rw [h0];exact bw aE 
    .exact mj.1 aC 
   have h2:=dh h1 (bw (n:=(ge-(16384-p)).toNat) (aE:0<2));by_cases hg:ge<=16384
   .rw [<-bt,show(16384-ge).toNat+(ge-(16384-(p:Int))).toNat=p by omega]at h2;omega
   .have:gm=0:=by
     rw[show(16384-ge).toNat=0 by omega]at h1;simpa using h1
    rw[this,cJ];omega
def ZI(hp:1<=p)(ho:¬mI m e false p false=true):
 GM p (((lp m e false p false:Nat):Rat)*P2 (e+jP m e p))/\((lp m e false p false:Nat):Rat)*P2 (e+jP m e p)<=(m:Rat)*P2 e /\
 ∀ g,GM p g->g<=(m:Rat)*P2 e->g<=((lp m e false p false:Nat):Rat)*P2 (e+jP m e p):=by
 obtain⟨c1,c2⟩:=IP m e p;have hk:-16384<=e+(jP m e p:Int):=by unfold jP;omega
 refine⟨?_,?_,?_⟩
 .by_cases h0:lp m e false p false=0
  .rw [h0];simpa using At p
  .have hq:lp m e false p false<2^p:=by
    have:=Sc m e p;unfold lp;simpa using this
   unfold mI at ho;simp only[cU,h0,eu,fD,cY,cC]at ho;exact⟨_,_,mj.2 hq,hk,aC,rfl⟩
 .rw [vi (K:=e) aC (cv _)];rw[show(e-e).toNat=0 by omega,show(e+(jP m e p:Int)-e).toNat=jP m e p by omega,cE,b8];exact c1
 .rintro g ⟨gm,ge,b1,b2,b3,rfl⟩ h;obtain⟨K,k1,k2⟩:∃ K:Int,K<=e/\K<=ge:=⟨min e ge,aC,aC⟩
  rw[vi k2 k1]at h;rw[vi (K:=K) k2 aC];exact afl hp b1 b2 k1 k2 h
def RJ(hp:1<=p)(ho:mI m e false p true=true)(g:Rat)(hg:GM p g):¬(m:Rat)*P2 e<=g:=by
 obtain⟨gm,ge,b1,b2,b3,rfl⟩:=hg;intro h;obtain⟨K,k1,k2⟩:∃ K:Int,K<=e/\K<=ge:=⟨min e ge,aC,aC⟩
 rw[vi k1 k2]at h;have h:=Tv hp b1 b2 k1 k2 h;unfold mI at ho;simp only[bF,cC]at ho;obtain⟨o1,o2⟩:=ho;have hq:=tV o1;have Jp:=o0 o1;have h3:gm<2^iq gm:=sf gm;have h4:=dh h3 (bw (n:=(ge-K).toNat) (aE:0<2));have h5:=bL (2^(e+(jP m e p:Int)-K).toNat) hq;rw[<-bt]at h4 h5;have h6:2^(iq gm+(ge-K).toNat)<=2^(iq (lp m e false p true)-1+(e+(jP m e p:Int)-K).toNat):=bK aE aC;omega
def RH(hp:1<=p)(ho:¬mI m e false p true=true):
 GM p (((lp m e false p true:Nat):Rat)*P2 (e+jP m e p))/\(m:Rat)*P2 e<=((lp m e false p true:Nat):Rat)*P2 (e+jP m e p) /\
 ∀ g,GM p g->(m:Rat)*P2 e<=g->((lp m e false p true:Nat):Rat)*P2 (e+jP m e p)<=g:=by
 obtain⟨c1,c2⟩:=IP m e p;have hk:-16384<=e+(jP m e p:Int):=by unfold jP;omega
 refine⟨?_,?_,?_⟩
 .by_cases h0:lp m e false p true=0
  .rw [h0];simpa using At p
  .unfold mI at ho;simp only[cU,h0,eu,fD,cY,cC]at ho;rcases Nat.lt_or_eq_of_le (R2 m e false p true)with hq|hq
   .exact ⟨_,_,mj.2 hq,hk,aC,rfl⟩
   .rw [hq]at ho ⊢;rw[Ri]at ho;refine⟨1,p+(e+jP m e p),by rw[xH];exact hp,aC,by rw[xH];omega,?_⟩;rw[rA (p:Int),yK p,show((1:Nat):Rat)=1 from rfl,fI]
 .rw [vi (K:=e) (cv _) aC];rw[show(e-e).toNat=0 by omega,show(e+(jP m e p:Int)-e).toNat=jP m e p by omega,cE,b8];exact c2
 .rintro g ⟨gm,ge,b1,b2,b3,rfl⟩ h;obtain⟨K,k1,k2⟩:∃ K:Int,K<=e/\K<=ge:=⟨min e ge,aC,aC⟩
  rw[vi k1 k2]at h;rw[vi (K:=K) aC k2];exact Tv hp b1 b2 k1 k2 h
end
def Dn(p:Nat)(v:Rat)(D:Dy)(E:Int):Prop:=(E=0->G p D.q/\D.q<=v)/\∀ g,G p g->g<=v->E=0/\g<=D.q
def Up(p:Nat)(v:Rat)(D:Dy)(E:Int):Prop:=(E=0->G p D.q/\v<=D.q)/\∀ g,G p g->v<=g->E=0/\D.q<=g
def Dn.of{p:Nat}{v w:Rat}{D:Dy}{E:Int}(h:Dn p v D E)(k:∀ g,G p g->(g<=v↔g<=w)):Dn p w D E:=
 ⟨λe=>⟨(h.1 e).1,(k _ (h.1 e).1).1 (h.1 e).2⟩,λg hg hw=>h.2 g hg ((k g hg).2 hw)⟩
def Up.of{p:Nat}{v w:Rat}{D:Dy}{E:Int}(h:Up p v D E)(k:∀ g,G p g->(v<=g↔w<=g)):Up p w D E:=
 ⟨λe=>⟨(h.1 e).1,(k _ (h.1 e).1).1 (h.1 e).2⟩,λg hg hw=>h.2 g hg ((k g hg).2 hw)⟩
def Fy(neg:Bool)(m:Nat)(e:Int){p:Nat}(hp:1<=p)(ig:p<=4096):Dn p (canon neg m e).q (kg neg m e false p false) (jR neg m e false p false):=by
 have hv:0<=(m:Rat)*P2 e:=bW cS (bJ (nN _));rw[r9];cases neg
 .
  have hE:jR false m e false p false=0:=by unfold jR;simp
  rw[hE];unfold kg;simp only[bne_self_eq_false,bE,bn];by_cases ho:mI m e false p false=true
  .obtain ⟨t1,t2,t3⟩:=ZJ hp ig ho;rw[a6 ho];(first|unfold Dn|unfold Up);rw[r9];simp only[bE,bn];refine⟨λ_=>⟨.inl t1,t2⟩,λg hg hle=>⟨trivial,?_⟩⟩;by_cases h0:0<=g
   .exact t3 g (hg.pos h0)
   .have:=t1.GP;grind
  .obtain ⟨t1,t2,t3⟩:=ZI hp ho;rw[aZ ho];(first|unfold Dn|unfold Up);rw[r9];simp only[bE,bn];refine⟨λ_=>⟨.inl t1,t2⟩,λg hg hle=>⟨trivial,?_⟩⟩;by_cases h0:0<=g
   .exact t3 g (hg.pos h0) hle
   .have:=t1.GP;grind
 .unfold kg jR;simp only[Bool.bne_false,Bool.and_true,bB];by_cases ho:mI m e false p true=true
  .rw [a6 ho,a6 ho];refine⟨λh=>by simp at h,λg hg hle=>?_⟩;exact absurd (show(m:Rat)*P2 e <= -g by grind) (RJ hp ho _ (hg.neg.pos aK))
  .obtain ⟨t1,t2,t3⟩:=RH hp ho;rw[aZ ho,aZ ho];(first|unfold Dn|unfold Up);rw[r9];simp only[bB];refine⟨λ_=>⟨.inr (by rw[fH];exact t1),aK⟩,λg hg hle=>⟨trivial,?_⟩⟩;have:=t3 (-g) (hg.neg.pos aK) aK 
   grind
def Fz(neg:Bool)(m:Nat)(e:Int){p:Nat}(hp:1<=p)(ig:p<=4096):Up p (canon neg m e).q (kg neg m e false p true) (jR neg m e false p true):=by
 have hv:0<=(m:Rat)*P2 e:=bW cS (bJ (nN _));rw[r9];cases neg
 .unfold kg jR;simp only[Bool.bne_true,ek,Bool.and_true,bB,bE,bn];by_cases ho:mI m e false p true=true
  .rw [a6 ho,a6 ho];refine⟨λh=>by simp at h,λg hg hle=>?_⟩;exact absurd hle (RJ hp ho _ (hg.pos aK))
  .obtain ⟨t1,t2,t3⟩:=RH hp ho;rw[aZ ho,aZ ho];(first|unfold Dn|unfold Up);rw[r9];simp only[bE,bn];exact⟨λ_=>⟨.inl t1,t2⟩,λg hg hle=>⟨trivial,t3 g (hg.pos aK) hle⟩⟩
 .have hE:jR true m e false p true=0:=by unfold jR;simp
  rw[hE];unfold kg;simp only[bne_self_eq_false,bE,bn,bB];by_cases ho:mI m e false p false=true
  .obtain ⟨t1,t2,t3⟩:=ZJ hp ig ho;rw[a6 ho];(first|unfold Dn|unfold Up);rw[r9];simp only[bB];refine⟨λ_=>⟨.inr (by rw[fH];exact t1),aK⟩,λg hg hle=>⟨trivial,?_⟩⟩;by_cases h0:0 <= -g
   .have:=t3 (-g) (hg.neg.pos h0);grind
   .have:=t1.GP;grind
  .obtain ⟨t1,t2,t3⟩:=ZI hp ho;rw[aZ ho];(first|unfold Dn|unfold Up);rw[r9];simp only[bB];refine⟨λ_=>⟨.inr (by rw[fH];exact t1),aK⟩,λg hg hle=>⟨trivial,?_⟩⟩;by_cases h0:0 <= -g
   .have:=t3 (-g) (hg.neg.pos h0) aK;grind
   .have:=t1.GP;grind
def xv{d:Dy}(hd:d.nn){p:Nat}(hp:1<=p)(ig:p<=4096):Dn p d.q (kf d p false) (jS d p false):=by
 have:=Fy d.neg d.m d.e hp ig;rwa[hd.B0]at this
def xw{d:Dy}(hd:d.nn){p:Nat}(hp:1<=p)(ig:p<=4096):Up p d.q (kf d p true) (jS d p true):=by
 have:=Fz d.neg d.m d.e hp ig;rwa[hd.B0]at this
def Mw{N p:Nat}{e:Int}(hb:p<iq N){g:Rat}(hg:GM p g):g<=(N:Rat)*P2 e\/((N+1:Nat):Rat)*P2 e<=g:=by
 obtain⟨gm,ge,b1,b2,b3,rfl⟩:=hg;by_cases hc:e<=ge
 .rw [vi (K:=e) hc (cv _),vi (K:=e) (cv _) hc,show(e-e).toNat=0 by omega];omega
 .left;rw[vi (K:=ge) (cv _) aC,show(ge-ge).toNat=0 by omega,cE,b8];have h1:gm<2^p:=mj.1 b1;have h2:2^p<=N:=wm.1 hb;exact bk (dq (bQ h1 h2)) (gw _ (bw aE))
def Rh{N p:Nat}{e:Int}(hb:p<iq N){x y:Rat}(x1:(N:Rat)*P2 e<x)(x2:x<((N+1:Nat):Rat)*P2 e)(y1:(N:Rat)*P2 e<y)(y2:y<((N+1:Nat):Rat)*P2 e){g:Rat}(hg:G p g):
 (g<=x↔g<=y)/\(x<=g↔y<=g)/\(g <= -x↔g <= -y)/\(-x<=g ↔ -y<=g):=by
 have hv:0<=(N:Rat)*P2 e:=bW cS (bJ (nN _));have hG:∀ g,G p g->g<=(N:Rat)*P2 e\/((N+1:Nat):Rat)*P2 e<=g:=by
  intro g hg;by_cases h0:0<=g
  .exact Mw hb (hg.pos h0)
  .left;grind
 have h1:=hG g hg;have h2:=hG (-g) hg.neg;generalize (N:Rat)*P2 e=A at *
 generalize ((N+1:Nat):Rat)*P2 e=B at *
 refine⟨?_,?_,?_,?_⟩<;>constructor<;>intro h<;>grind
def DJ{N p:Nat}(E:Int)(hb:p<iq N)(neg up:Bool):kg neg N E true p up=kg neg (2*N+1) (E-1) false p up/\jR neg N E true p up=jR neg (2*N+1) (E-1) false p up:=by
 have h1:(2*N+1)/2^1=N:= aC ;have h:=IN (N:=2*N+1) (E:=E-1) (more:=false) (d:=1) (p:=p) neg up (by rw[h1];exact hb);have h2:decide ((2*N+1)%2^1≠0)=true:= aH ;rw[h1,h2,(aC:E-1+((1:Nat):Int)=E)]at h;exact h
def Sb{a b:Dy}(b0:b.m≠0){p:Nat}(hp:1<=p)(ig:p<=4096):Dn p (a.q/b.q) (pK a b p false) (q9 a b p false)/\Up p (a.q/b.q) (pK a b p true) (q9 a b p true):=by
 by_cases a0:a.m=0
 .have hq:a.q=0:=by rw[qV,a0];simp
  have h0:(0:Rat)/b.q=0:=by rw[cP,Rat.zero_mul]
  unfold pK q9;rw[hq,h0,a6 a0,a6 a0,a6 a0,a6 a0];have hz:G p 0:=.inl (At p);exact⟨⟨λ_=>⟨by rw[tN];exact hz,by rw[tN];exact cr⟩,λg _ h=>⟨rfl,by rw[tN];exact h⟩⟩,⟨λ_=>⟨by rw[tN];exact hz,by rw[tN];exact cr⟩,λg _ h=>⟨rfl,by rw[tN];exact h⟩⟩⟩
 .have hb:=L4 a0 b0 p 2 aE ;unfold pK q9;rw[aZ a0,aZ a0,aZ a0,aZ a0];generalize hk:lv a b p 2=k at *
  generalize hs:(a.neg != b.neg)=s;generalize hE:a.e-b.e-(k:Int)=E0;have hB:(0:Rat)<(b.m:Rat):=gj.2 aC;have TM:=nN b.e;have hP:=nN E0;obtain⟨w,hw⟩:∃ w:Rat,w=(a.m:Rat)*P2 a.e/((b.m:Rat)*P2 b.e):=⟨_,rfl⟩
  have US:w*((b.m:Rat)*P2 b.e)=(a.m:Rat)*P2 a.e:=by
   have:(b.m:Rat)*P2 b.e≠0:=by have:=eD hB TM;grind
   rw[hw];exact dJ this
  have lq:a.q/b.q=if s then -w else w:=by
   have tC:b.q≠0:=by
    have:=eD hB TM;rw[qV b];cases b.neg<;>simp<;>grind
   have hq:(if s then -w else w)*b.q=a.q:=by
    rw[qV a,qV b,<-hs,<-US];cases a.neg<;>cases b.neg<;>simp<;>grind
   rw[<-hq,aoF tC]
  have M0:=cI (a.m*2^k) b.m;have hr:=bH (a.m*2^k) (aC:0<b.m);generalize hN:a.m*2^k/b.m=N at *
  generalize hR:a.m*2^k%b.m=R at *
  have afT:(b.m:Rat)*(N:Rat)+(R:Rat)=(a.m:Rat)*((2^k:Nat):Rat):=by rw[<-df,<-df,<-dV,M0]
  have hae:P2 a.e=((2^k:Nat):Rat)*P2 b.e*P2 E0:=by rw[<-yK,<-rA,<-rA];congr 1;omega
  have JQ:w*(b.m:Rat)=((b.m:Rat)*(N:Rat)+(R:Rat))*P2 E0:=by
   have:w*(b.m:Rat)*P2 b.e=((b.m:Rat)*(N:Rat)+(R:Rat))*P2 E0*P2 b.e:=by
    rw[afT,eX,US,hae];grind
   have jl:P2 b.e≠0:= aK ;have h2:=congrArg (· / P2 b.e) this;simp only[aoF jl]at h2;exact h2
  by_cases h0:R=0
  .have JP:w=(N:Rat)*P2 E0:=by
    rw[h0]at JQ;have jl:(b.m:Rat)≠0:= aK ;have h2:w*(b.m:Rat)=((N:Rat)*P2 E0)*(b.m:Rat):=by rw[JQ];simp;grind
    have h3:=congrArg (· / (b.m:Rat)) h2;simp only[aoF jl]at h3;exact h3
   have hc:a.q/b.q=(canon s N E0).q:=by rw[lq,r9,JP]
   rw[hc,bc (by simpa using h0)];exact⟨Fy _ _ _ hp ig,Fz _ _ _ hp ig⟩
  .have xR:(0:Rat)<(R:Rat):=gj.2 aC ;have hRb:(R:Rat)<(b.m:Rat):=Rat.natCast_lt_natCast.2 hr;have w1:(N:Rat)*P2 E0<w:=by
    apply aoR (c:=(b.m:Rat)) _ (bJ hB);rw[JQ];have:=eD xR hP
    grind
   have w2:w<((N+1:Nat):Rat)*P2 E0:=by
    apply aoR (c:=(b.m:Rat)) _ (bJ hB);rw[JQ,dV];have:=eD (show(0:Rat)<(b.m:Rat)-(R:Rat)by grind) hP;simp
    grind
   have hh:P2 E0=2*P2 (E0-1):=by
    rw[Fb (aC:E0-1<=E0),show(E0-(E0-1)).toNat=1 by omega];simp
   have v1:(N:Rat)*P2 E0<((2*N+1:Nat):Rat)*P2 (E0-1):=by
    have:=nN (E0-1);rw[hh,dV,df];simp;grind
   have v2:((2*N+1:Nat):Rat)*P2 (E0-1)<((N+1:Nat):Rat)*P2 E0:=by
    have:=nN (E0-1);rw[hh,dV,df,dV];simp;grind
   rw[a7 (by simpa using h0),(DJ E0 hb s false).1,(DJ E0 hb s false).2,(DJ E0 hb s true).1,(DJ E0 hb s true).2,lq];have A:=Fy s (2*N+1) (E0-1) hp ig;have B:=Fz s (2*N+1) (E0-1) hp ig;rw[r9]at A B;refine⟨A.of λg hg=>?_,B.of λg hg=>?_⟩
   .obtain ⟨k1,k2,k3,k4⟩:=Rh hb v1 v2 w1 w2 hg;cases s
    .exact k1
    .exact k3
   .obtain ⟨k1,k2,k3,k4⟩:=Rh hb v1 v2 w1 w2 hg;cases s
    .exact k2
    .exact k4
def Iv.jX(x:Iv)(r:Rat):Prop:=x.all=true\/(x.lo.q<=r/\r<=x.hi.q)
def Sub(x y:Iv):Prop:=y.all=true\/(x.all=false/\y.lo.q<=x.lo.q/\x.hi.q<=y.hi.q)
def Sub.jX{x y:Iv}(h:Sub x y){r:Rat}(k:x.jX r):y.jX r:=by
 rcases h with h|⟨h1,h2,h3⟩
 .exact .inl h
 .rcases k with k|⟨k1,k2⟩
  .rw [h1]at k;cases k
  .exact .inr ⟨aK,aK⟩
def Sub.xn{x y:Iv}(h:Sub x y)(k:y.all=false):x.all=false/\y.lo.q<=x.lo.q/\x.hi.q<=y.hi.q:=by
 rcases h with h|h
 .rw [h]at k;cases k
 .exact h
def Iv.ij.q{x:Iv}(h:x.ij):x.lo.q<=x.hi.q:=by
 rcases h with⟨_,h2,h3⟩|⟨_,_,_,h⟩
 .rw [h2,h3];exact cr
 .exact (pT _ _).1 h
def Iv.ij.yX{x:Iv}(h:x.ij):x.lo.nn/\x.hi.nn:=by
 rcases h with⟨_,h2,h3⟩|⟨_,h2,h3,_⟩
 .rw [h2,h3];exact⟨rU.canon,rU.canon⟩
 .exact ⟨h2.canon,h3.canon⟩
def Iv.ij.A7{x:Iv}(h:x.ij):x.jX x.lo.q:=.inr ⟨cr,h.q⟩
def Iv.ij.DY{x:Iv}(h:x.ij):x.jX x.hi.q:=.inr ⟨h.q,cr⟩
structure E8(p:Nat)(S:Rat->Prop)(X:Iv):Prop where
 jX:∀ r,S r->X.jX r
 on:X.all=false->G p X.lo.q/\G p X.hi.q
 yd:∀ L U,G p L->G p U->(∀ r,S r->L<=r/\r<=U)->X.all=false/\L<=X.lo.q/\X.hi.q<=U
def Lx{x y:Iv}(hx:x.ij)(hy:y.ij)(xa:x.all=false)(ya:y.all=false){p:Nat}(hp:1<=p)(ig:p<=4096):
 E8 p (λr=>∃ a b,x.jX a/\y.jX b/\r=a+b) (jf x y p):=by
 have A:=xv (yW hx.yX.1 hy.yX.1) hp ig;have B:=xw (yW hx.yX.2 hy.yX.2) hp ig;rw[OP]at A B;unfold jf mf;rw[xa,ya];simp only[gR,bE,bn];have jX:∀ r,(∃ a b,x.jX a/\y.jX b/\r=a+b)->x.lo.q+y.lo.q<=r/\r<=x.hi.q+y.hi.q:=by
  rintro r ⟨a,b,ha,hb,rfl⟩;rcases ha with ha|ha
  .rw [xa]at ha;cases ha
  .rcases hb with hb|hb
   .rw [ya]at hb;cases hb
   .grind
 have yd:∀ L U,G p L->G p U->(∀ r,(∃ a b,x.jX a/\y.jX b/\r=a+b)->L<=r/\r<=U) ->
  (jS (iL x.lo y.lo) p false=0/\L<=(kf (iL x.lo y.lo) p false).q)/\jS (iL x.hi y.hi) p true=0/\(kf (iL x.hi y.hi) p true).q<=U:=λL U hL hU h=>
  ⟨A.2 L hL (h _ ⟨_,_,hx.A7,hy.A7,rfl⟩).1,B.2 U hU (h _ ⟨_,_,hx.DY,hy.DY,rfl⟩).2⟩
 split
 .rename_i he;refine⟨λ_ _=>.inl rfl,λh=>absurd h aE,λL U hL hU h=>?_⟩;obtain⟨⟨e1,_⟩,e2,_⟩:=yd L U hL hU h;rcases he with he|he
  .exact absurd e1 he
  .exact absurd e2 he
 .rename_i he;obtain⟨a1,a2⟩:=A.1 aC;obtain⟨b1,b2⟩:=B.1 aC;refine⟨λr hr=>.inr ?_,λ_=>⟨a1,b1⟩,λL U hL hU h=>?_⟩
  .obtain ⟨h1,h2⟩:=jX r hr;exact⟨bN a2 h1,bN h2 b2⟩
  .obtain ⟨⟨_,e1⟩,_,e2⟩:=yd L U hL hU h;exact⟨rfl,e1,e2⟩
def Io{x y:Iv}(p:Nat)(h:x.all=true\/y.all=true):jf x y p=ia:=by
 unfold jf;rw[a6 (by rcases h with h|h<;>rw[h]<;>simp)]
def BT{x y:Iv}(hx:x.ij)(hy:y.ij){p:Nat}(hp:1<=p)(ig:p<=4096){a b:Rat}(ha:x.jX a)(hb:y.jX b):(jf x y p).jX (a+b):=by
 cases xa:x.all
 .cases ya:y.all
  .exact (Lx hx hy xa ya hp ig).jX _ ⟨a,b,ha,hb,rfl⟩
  .rw [Io p (.inr ya)];exact .inl rfl
 .rw [Io p (.inl xa)];exact .inl rfl
def Tc{p:Nat}{D:Dy->Dy->Bool->Dy}{E:Dy->Dy->Bool->Int}{f:Rat->Rat->Rat}{x y:Iv}{S:Rat->Prop}
 (hD:∀ a b,(a=x.lo\/a=x.hi)->(b=y.lo\/b=y.hi)->Dn p (f a.q b.q) (D a b false) (E a b false)/\Up p (f a.q b.q) (D a b true) (E a b true)/\S (f a.q b.q))
 (hS:∀ r,S r->(f x.lo.q y.lo.q<=r\/f x.lo.q y.hi.q<=r\/f x.hi.q y.lo.q<=r\/f x.hi.q y.hi.q<=r)/\(r<=f x.lo.q y.lo.q\/r<=f x.lo.q y.hi.q\/r<=f x.hi.q y.lo.q\/r<=f x.hi.q y.hi.q)):
 E8 p S (pD D E x y):=by
 obtain⟨a1,a2,a3⟩:=hD x.lo y.lo (.inl rfl) (.inl rfl);obtain⟨b1,b2,b3⟩:=hD x.lo y.hi (.inl rfl) (.inr rfl);obtain⟨c1,c2,c3⟩:=hD x.hi y.lo (.inr rfl) (.inl rfl);obtain⟨d1,d2,d3⟩:=hD x.hi y.hi (.inr rfl) (.inr rfl);have yd:∀ L U,G p L->G p U->(∀ r,S r->L<=r/\r<=U) ->
  ((E x.lo y.lo false=0/\L<=(D x.lo y.lo false).q)/\E x.lo y.lo true=0/\(D x.lo y.lo true).q<=U)/\((E x.lo y.hi false=0/\L<=(D x.lo y.hi false).q)/\E x.lo y.hi true=0/\(D x.lo y.hi true).q<=U) /\
  ((E x.hi y.lo false=0/\L<=(D x.hi y.lo false).q)/\E x.hi y.lo true=0/\(D x.hi y.lo true).q<=U)/\((E x.hi y.hi false=0/\L<=(D x.hi y.hi false).q)/\E x.hi y.hi true=0/\(D x.hi y.hi true).q<=U):=λL U hL hU h=>
  ⟨⟨a1.2 L hL (h _ a3).1,a2.2 U hU (h _ a3).2⟩,⟨b1.2 L hL (h _ b3).1,b2.2 U hU (h _ b3).2⟩,⟨c1.2 L hL (h _ c3).1,c2.2 U hU (h _ c3).2⟩,⟨d1.2 L hL (h _ d3).1,d2.2 U hU (h _ d3).2⟩⟩
 unfold pD;split
 .rename_i he;obtain⟨⟨e1,e2⟩,⟨e3,e4⟩,⟨e5,e6⟩,⟨e7,e8⟩⟩:=he;obtain⟨ga,la⟩:=a1.1 e1;obtain⟨gA,lA⟩:=a2.1 e2;obtain⟨gb,lb⟩:=b1.1 e3;obtain⟨gB,lB⟩:=b2.1 e4;obtain⟨gc,lc⟩:=c1.1 e5;obtain⟨gC,lC⟩:=c2.1 e6;obtain⟨gd,ld⟩:=d1.1 e7;obtain⟨gD,lD⟩:=d2.1 e8;obtain⟨m1,m2,m3⟩:=C7 (D x.lo y.lo false) (D x.lo y.hi false);obtain⟨m4,m5,m6⟩:=C7 (jd (D x.lo y.lo false) (D x.lo y.hi false)) (D x.hi y.lo false);obtain⟨m7,m8,m9⟩:=C7 (jd (jd (D x.lo y.lo false) (D x.lo y.hi false)) (D x.hi y.lo false)) (D x.hi y.hi false);obtain⟨n1,n2,n3⟩:=G4 (D x.lo y.lo true) (D x.lo y.hi true);obtain⟨n4,n5,n6⟩:=G4 (ja (D x.lo y.lo true) (D x.lo y.hi true)) (D x.hi y.lo true);obtain⟨n7,n8,n9⟩:=G4 (ja (ja (D x.lo y.lo true) (D x.lo y.hi true)) (D x.hi y.lo true)) (D x.hi y.hi true);generalize (jd (D x.lo y.lo false) (D x.lo y.hi false))=u1 at *
  generalize (jd u1 (D x.hi y.lo false))=u2 at *
  generalize (jd u2 (D x.hi y.hi false))=u3 at *
  generalize (ja (D x.lo y.lo true) (D x.lo y.hi true))=v1 at *
  generalize (ja v1 (D x.hi y.lo true))=v2 at *
  generalize (ja v2 (D x.hi y.hi true))=v3 at *
  refine⟨λr hr=>.inr ?_,λ_=>⟨?_,?_⟩,λL U hL hU h=>⟨rfl,?_,?_⟩⟩
  .obtain ⟨h1,h2⟩:=hS r hr;constructor
   .show u3.q<=r;rcases h1 with h1|h1|h1|h1<;>grind
   .show r<=v3.q;rcases h2 with h1|h1|h1|h1<;>grind
  .show G p u3.q;rcases m9 with h|h
   .rw [h];rcases m6 with h|h
    .rw [h];rcases m3 with h|h<;>rw[h]<;>assumption
    .rw [h];assumption
   .rw [h];assumption
  .show G p v3.q;rcases n9 with h|h
   .rw [h];rcases n6 with h|h
    .rw [h];rcases n3 with h|h<;>rw[h]<;>assumption
    .rw [h];assumption
   .rw [h];assumption
  .obtain ⟨⟨⟨_,k1⟩,_,k2⟩,⟨⟨_,k3⟩,_,k4⟩,⟨⟨_,k5⟩,_,k6⟩,⟨⟨_,k7⟩,_,k8⟩⟩:=yd L U hL hU h;show L<=u3.q;rcases m9 with h|h
   .rw [h];rcases m6 with h|h
    .rw [h];rcases m3 with h|h<;>rw[h]<;>assumption
    .rw [h];assumption
   .rw [h];assumption
  .obtain ⟨⟨⟨_,k1⟩,_,k2⟩,⟨⟨_,k3⟩,_,k4⟩,⟨⟨_,k5⟩,_,k6⟩,⟨⟨_,k7⟩,_,k8⟩⟩:=yd L U hL hU h;show v3.q<=U;rcases n9 with h|h
   .rw [h];rcases n6 with h|h
    .rw [h];rcases n3 with h|h<;>rw[h]<;>assumption
    .rw [h];assumption
   .rw [h];assumption
 .rename_i he;refine⟨λ_ _=>.inl rfl,λh=>absurd h aE,λL U hL hU h=>?_⟩;obtain⟨⟨⟨k1,_⟩,k2,_⟩,⟨⟨k3,_⟩,k4,_⟩,⟨⟨k5,_⟩,k6,_⟩,⟨⟨k7,_⟩,k8,_⟩⟩:=yd L U hL hU h;exact absurd ⟨⟨k1,k2⟩,⟨k3,k4⟩,⟨k5,k6⟩,k7,k8⟩ he
def RY{a b c d x y:Rat}(h1:a<=x)(h2:x<=b)(h3:c<=y)(h4:y<=d):
 (a*c<=x*y\/a*d<=x*y\/b*c<=x*y\/b*d<=x*y)/\(x*y<=a*c\/x*y<=a*d\/x*y<=b*c\/x*y<=b*d):=by
 have mono:∀ {u v w:Rat},u<=v->0<=w->u*w<=v*w:=λh k=>cw h k
 have anti:∀ {u v w:Rat},u<=v->w<=0->v*w<=u*w:=by
  intro u v w h k;have:=mono h (show 0 <= -w by grind)
  grind
 have side:∀ t:Rat,(t*c<=t*y\/t*d<=t*y)/\(t*y<=t*c\/t*y<=t*d):=by
  intro t;rw[fJ t c,fJ t d,fJ t y];rcases Rat.le_total (a:=0) (b:=t)with h|h
  .exact ⟨.inl (mono h3 h),.inr (mono h4 h)⟩
  .exact ⟨.inr (anti h4 h),.inl (anti h3 h)⟩
 have sa:=side a;have sb:=side b;rcases Rat.le_total (a:=0) (b:=y)with h|h
 .have m1:=mono h1 h;have m2:=mono h2 h;clear mono anti side;constructor
  .rcases sa.1 with k|k<;>grind
  .rcases sb.2 with k|k<;>grind
 .have m1:=anti h1 h;have m2:=anti h2 h;clear mono anti side;constructor
  .rcases sb.1 with k|k<;>grind
  .rcases sa.2 with k|k<;>grind
def Iv.jX.jW{x:Iv}{r:Rat}(h:x.jX r)(k:x.all=false):x.lo.q<=r/\r<=x.hi.q:=by
 rcases h with h|h
 .rw [k]at h;cases h
 .exact h
def AJ(a b:Dy):(xr a b).nn:=tl _ _ _
def Od{x y:Iv}(hx:x.ij)(hy:y.ij)(xa:x.all=false)(ya:y.all=false){p:Nat}(hp:1<=p)(ig:p<=4096):
 E8 p (λr=>∃ a b,x.jX a/\y.jX b/\r=a*b) (iD x y p):=by
 unfold iD;rw[xa,ya];simp only[gR,bE,bn];refine Tc (f:=λa b=>a*b) (λa b ha hb=>⟨?_,?_,a.q,b.q,?_,?_,rfl⟩) (λr ⟨a,b,ha,hb,e⟩=>?_)
 .have:=xv (AJ a b) hp ig;rwa[EI]at this
 .have:=xw (AJ a b) hp ig;rwa[EI]at this
 .rcases ha with rfl|rfl;exact hx.A7;exact hx.DY
 .rcases hb with rfl|rfl;exact hy.A7;exact hy.DY
 .obtain ⟨h1,h2⟩:=ha.jW xa;obtain⟨h3,h4⟩:=hb.jW ya;rw[e];exact RY h1 h2 h3 h4
def J8{x y:Iv}(p:Nat)(h:x.all=true\/y.all=true):iD x y p=ia:=by
 unfold iD;rw[a6 (by rcases h with h|h<;>rw[h]<;>simp)]
def Oe{x y:Iv}(hx:x.ij)(hy:y.ij){p:Nat}(hp:1<=p)(ig:p<=4096){a b:Rat}(ha:x.jX a)(hb:y.jX b):(iD x y p).jX (a*b):=by
 cases xa:x.all
 .cases ya:y.all
  .exact (Od hx hy xa ya hp ig).jX _ ⟨a,b,ha,hb,rfl⟩
  .rw [J8 p (.inr ya)];exact .inl rfl
 .rw [J8 p (.inl xa)];exact .inl rfl
def NL{b c:Rat}(h0:0<c)(h:c<=b):b⁻¹<=c⁻¹:=by
 have hb:0<b:= aK ;apply fG (c:=b*c) _ (eD hb h0);have e1:b⁻¹*(b*c)=c:=by rw[<-eX,aoi _ aK,fI]
 have e2:c⁻¹*(b*c)=b:=by rw[fJ b c,<-eX,aoi _ aK,fI]
 rw[e1,e2];exact h
def WG(b:Rat):(-b)⁻¹ = -b⁻¹:=by
 by_cases h:b=0
 .rw [h];simp
 .have h1:(-b)⁻¹*(-b)=1:=aoi _ aK ;have h2:b⁻¹*b=1:=aoi _ h;have h3:(-b)⁻¹*(-b)*b⁻¹=b⁻¹:=by rw[h1,fI]
  grind
def Vh{b c:Rat}(h0:b<0)(h:c<=b):b⁻¹<=c⁻¹:=by
 have:=NL (b:=-c) (c:=-b) aK aK;rw[WG,WG]at this
 grind
def Y0{y:Iv}(_hy:y.ij)(h:nM y≠0):y.all=false/\(0<y.lo.q\/y.hi.q<0):=by
 unfold nM at h;cases ya:y.all
 .rw [ya]at h;simp only[bE,bn]at h;refine⟨rfl,?_⟩;split at h
  .rename_i h1;exact .inl ((sk _).1.1 h1)
  .split at h
   .rename_i h1;exact .inr ((sk _).2.1 h1)
   .exact absurd rfl h
 .rw [ya]at h;simp at h
def PB{y:Iv}(ya:y.all=false)(h:0<y.lo.q\/y.hi.q<0):nM y≠0:=by
 unfold nM;rw[ya];simp only[bE,bn];rcases h with h|h
 .rw [a6 ((sk _).1.2 h)];decide
 .split
  .decide
  .rw [a6 ((sk _).2.2 h)];decide
def ahH{d:Dy}(h:d.q≠0):d.m≠0:=by
 intro h0;apply h;rw[qV,h0];simp
def IQ{x y:Iv}(hx:x.ij)(hy:y.ij)(xa:x.all=false)(hs:nM y≠0){p:Nat}(hp:1<=p)(ig:p<=4096):
 E8 p (λr=>∃ a b,x.jX a/\y.jX b/\r=a/b) (jv x y p):=by
 obtain⟨ya,h0⟩:=Y0 hy hs;have hle:=hy.q;unfold jv;rw[xa,ya,bc hs];simp only[gR,bE,bn];refine Tc (f:=λa b=>a/b) (λa b ha hb=>?_) (λr ⟨a,b,ha,hb,e⟩=>?_)
 .have b0:b.m≠0:=ahH (by rcases hb with rfl|rfl<;>grind);obtain⟨h1,h2⟩:=Sb (a:=a) b0 hp ig;refine⟨h1,h2,a.q,b.q,?_,?_,rfl⟩
  .rcases ha with rfl|rfl;exact hx.A7;exact hx.DY
  .rcases hb with rfl|rfl;exact hy.A7;exact hy.DY
 .obtain ⟨h1,h2⟩:=ha.jW xa;obtain⟨h3,h4⟩:=hb.jW ya;have i1:y.hi.q⁻¹<=b⁻¹:=by
   rcases h0 with h0|h0
   .exact NL aK h4
   .exact Vh aK h4
  have i2:b⁻¹<=y.lo.q⁻¹:=by
   rcases h0 with h0|h0
   .exact NL h0 h3
   .exact Vh aK h3
  obtain⟨k1,k2⟩:=RY h1 h2 i1 i2;rw[e];simp only[cP];exact⟨aK,aK⟩
def FC{x y:Iv}(p:Nat)(h:x.all=true\/nM y=0):jv x y p=ia:=by
 unfold jv;rw[a6 (by rcases h with h|h<;>rw[h]<;>simp)]
def IS{x y:Iv}(hx:x.ij)(hy:y.ij){p:Nat}(hp:1<=p)(ig:p<=4096){a b:Rat}(ha:x.jX a)(hb:y.jX b):(jv x y p).jX (a/b):=by
 cases xa:x.all
 .by_cases hs:nM y=0
  .rw [FC p (.inr hs)];exact .inl rfl
  .exact (IQ hx hy xa hs hp ig).jX _ ⟨a,b,ha,hb,rfl⟩
 .rw [FC p (.inl xa)];exact .inl rfl
def CS{x:Iv}(h:x.lo.q<=x.hi.q):x.hi.q<=(nj x).q /\ -x.lo.q<=(nj x).q/\((nj x).q=x.hi.q\/(nj x).q = -x.lo.q):=by
 obtain⟨a1,a2,a3,a4⟩:=Ae x.lo;obtain⟨b1,b2,b3,b4⟩:=Ae x.hi;obtain⟨c1,c2,c3⟩:=G4 (mD x.lo) (mD x.hi);unfold nj;generalize (ja (mD x.lo) (mD x.hi)).q=M at *
 refine⟨aK,aK,?_⟩;rcases c3 with c3|c3
 .rcases a4 with a4|a4
  .grind
  .grind
 .rcases b4 with b4|b4
  .grind
  .grind
def ahK{x x':Iv}(hx:x.ij)(xj:x'.ij)(h:Sub x x')(xa:x'.all=false):(nj x).q<=(nj x').q:=by
 obtain⟨h1,h2,h3⟩:=h.xn xa;obtain⟨a1,a2,a3⟩:=CS hx.q;obtain⟨b1,b2,b3⟩:=CS xj.q
 grind
def N7{x:Iv}(hx:x.ij)(xa:x.all=false):0<=(pk x).q/\(x.lo.q<=0->0<=x.hi.q->(pk x).q=0)/\(0<x.lo.q->(pk x).q=x.lo.q)/\(x.hi.q<0->(pk x).q = -x.hi.q):=by
 have hle:=hx.q;obtain⟨a1,a2,a3,a4⟩:=Ae x.lo;obtain⟨b1,b2,b3,b4⟩:=Ae x.hi;obtain⟨c1,c2,c3⟩:=C7 (mD x.lo) (mD x.hi);by_cases hs:nM x=0
 .have hn:¬(0<x.lo.q\/x.hi.q<0):=λh=>PB xa h hs
  have:pk x=ju:=by unfold pk;rw[a6 hs]
  rw[this,tN];refine⟨cr,λ_ _=>rfl,λh=>absurd (.inl h) hn,λh=>absurd (.inr h) hn⟩
 .obtain ⟨_,h0⟩:=Y0 hx hs;have:pk x=jd (mD x.lo) (mD x.hi):=by unfold pk;rw[aZ hs]
  rw[this];generalize (jd (mD x.lo) (mD x.hi)).q=M at *
  generalize (mD x.lo).q=u at *
  generalize (mD x.hi).q=v at *
  refine⟨aK,aK,aK,aK⟩
def anM{x x':Iv}(hx:x.ij)(xj:x'.ij)(h:Sub x x'):Sub (jV x) (jV x'):=by
 cases xa:x'.all
 .obtain ⟨h1,h2,h3⟩:=h.xn xa;unfold jV;rw[h1,xa];refine .inr ⟨rfl,?_,ahK hx xj h xa⟩;show(pk x').q<=(pk x).q;obtain⟨a1,a2,a3,a4⟩:=N7 hx h1;obtain⟨b1,b2,b3,b4⟩:=N7 xj xa;have:=hx.q;by_cases c1:0<x'.lo.q
  .rw [b3 c1,a3 aK];exact h2
  .by_cases c2:x'.hi.q<0
   .rw [b4 c2,a4 aK];grind
   .rw [b2 aK aK];exact a1
 .refine .inl ?_;unfold jV;rw[a6 xa];rfl
def Ik{x:Iv}(hx:x.ij){r s:Rat}(h:x.jX r)(hs:s=r/\0<=r\/s = -r/\r<=0):(jV x).jX s:=by
 unfold jV;cases xa:x.all
 .obtain ⟨h1,h2⟩:=h.jW xa;obtain⟨a1,a2,a3⟩:=CS hx.q;obtain⟨b1,b2,b3,b4⟩:=N7 hx xa;refine .inr ⟨?_,?_⟩
  .show (pk x).q<=s;by_cases c1:0<x.lo.q
   .rw [b3 c1];grind
   .by_cases c2:x.hi.q<0
    .rw [b4 c2];grind
    .rw [b2 aK aK];grind
  .show s<=(nj x).q
   grind
 .exact .inl rfl
def OL(d:Dy):(j9 d).jX d.q:=.inr ⟨cr,cr⟩
def Aa(n:Int):(jx n).jX (n:Rat):=by have:=OL (iW n);rwa[Bw]at this
def jr(d:Dy)(p:Nat)(up:Bool):Nat->Dy×Int
 | 0=>(kf d p up,jS d p up)
 |k+1=>if(jr d p up k).2≠0 then jr d p up k else(kf (xr (jr d p up k).1 d) p up,jS (xr (jr d p up k).1 d) p up)
def lE(d:Dy)(n p:Nat)(up:Bool):Dy×Int:=if d.iM<0 then(jt (jr (jt d) p (!up) (n-1)).1,(jr (jt d) p (!up) (n-1)).2)else jr d p up (n-1)
def uy(x:Iv)(n:Nat):Iv:=if n%2=0 then jV x else x
def kZ(x:Iv)(n p:Nat):Iv:=
 if x.all then ia else if n=0 then j9 ⟨false,1,0⟩
 else mf (lE (uy x n).lo n p false).1 (lE (uy x n).lo n p false).2 (lE (uy x n).hi n p true).1 (lE (uy x n).hi n p true).2
def nX(r:Rat):Nat->Rat
 | 0=>1
 |n+1=>nX r n*r
def Dd{r:Rat}(h:0<=r):∀ n,0<=nX r n
 | 0=>by show(0:Rat)<=1;decide
 |n+1=>bW (Dd h n) h
def Hc{a b:Rat}(h0:0<=a)(h:a<=b):∀ n,nX a n<=nX b n
 | 0=>cr
 |n+1=>by
  have ih:=Hc h0 h n;have m1:=cw ih h0;have m2:=cN h (Dd (bN h0 h) n);exact bN m1 m2
def Dc(r:Rat):∀ n,nX (-r) n=if n%2=0 then nX r n else -nX r n
 | 0=>rfl
 |n+1=>by
  have ih:=Dc r n;simp only[nX,ih];have:n%2=0\/n%2=1:= aC ;rcases this with h|h
  .have h':(n+1)%2=1:= aC ;rw[h,h'];simp;grind
  .have h':(n+1)%2=0:= aC ;rw[h,h'];simp;grind
def Pf{a b:Rat}{n:Nat}(hn:n%2=1)(h:a<=b):nX a n<=nX b n:=by
 by_cases h0:0<=a
 .exact Hc h0 h n
 .have ea:=Dc (-a) n;rw[fH,hn]at ea;simp only[aoj,bn]at ea;by_cases hb:0<=b
  .have h1:=Dd (show 0 <= -a by grind) n;have h2:=Dd hb n
   grind
  .have eb:=Dc (-b) n;rw[fH,hn]at eb;simp only[aoj,bn]at eb;have:=Hc (show 0 <= -b by grind) (show -b <= -a by grind) n
   grind
def OM{d:Dy}(hd:d.nn)(h0:0<=d.q){p:Nat}(hp:1<=p)(ig:p<=4096):∀ k,(jr d p false k).2=0->0<=(jr d p false k).1.q/\(jr d p false k).1.q<=nX d.q (k+1)
 | 0,he=>by
  have A:=xv hd hp ig;refine⟨(A.2 0 (.inl (At p)) h0).2,?_⟩;have:=(A.1 he).2;simp only[nX,fI];exact this
 |k+1,he=>by
  by_cases hk:(jr d p false k).2≠0
  .exfalso;simp only[jr,a6 hk]at he;exact hk he
  .have og:(jr d p false k).2=0:= aC ;obtain⟨i1,i2⟩:=OM hd h0 hp ig k og;have A:=xv (AJ (jr d p false k).1 d) hp ig;rw[EI]at A;simp only[jr,aZ hk]at he ⊢;refine⟨(A.2 0 (.inl (At p)) (bW i1 h0)).2,?_⟩;have h1:=(A.1 he).2;have h2:=cw i2 h0;exact bN h1 h2
def OO{d:Dy}(hd:d.nn)(h0:0<=d.q){p:Nat}(hp:1<=p)(ig:p<=4096):∀ k,(jr d p true k).2=0->nX d.q (k+1)<=(jr d p true k).1.q
 | 0,he=>by
  have A:=xw hd hp ig;have:=(A.1 he).2;simp only[nX,fI];exact this
 |k+1,he=>by
  by_cases hk:(jr d p true k).2≠0
  .exfalso;simp only[jr,a6 hk]at he;exact hk he
  .have og:(jr d p true k).2=0:= aC ;have i2:=OO hd h0 hp ig k og;have A:=xw (AJ (jr d p true k).1 d) hp ig;rw[EI]at A;simp only[jr,aZ hk]at he ⊢;have h1:=(A.1 he).2;have h2:=cw i2 h0;exact bN h2 h1
def adJ{d:Dy}(hd:d.nn){n p:Nat}(hn:1<=n)(hs:0<=d.q\/n%2=1)(hp:1<=p)(ig:p<=4096)(he:(lE d n p false).2=0):(lE d n p false).1.q<=nX d.q n:=by
 unfold lE at he ⊢;by_cases h:d.iM<0
 .rw [a6 h]at he ⊢;have hq:=(sk d).2.1 h;have Bf:=hs.resolve_left aK;have:=OO (Oo hd) (by rw[rn];grind) hp ig (n-1) he;rw[(aC:n-1+1=n),rn,Dc,Bf]at this;simp only[aoj,bn]at this;show(jt _).q<=_;rw[rn];simp only[ek]
  grind
 .rw [aZ h]at he ⊢;have h0:0<=d.q:=by
   apply dC.1;intro iB;exact h ((sk d).2.2 iB)
  have:=(OM hd h0 hp ig (n-1) he).2;rwa[(aC:n-1+1=n)]at this
def adK{d:Dy}(hd:d.nn){n p:Nat}(hn:1<=n)(hs:0<=d.q\/n%2=1)(hp:1<=p)(ig:p<=4096)(he:(lE d n p true).2=0):nX d.q n<=(lE d n p true).1.q:=by
 unfold lE at he ⊢;by_cases h:d.iM<0
 .rw [a6 h]at he ⊢;have hq:=(sk d).2.1 h;have Bf:=hs.resolve_left aK;have:=(OM (Oo hd) (by rw[rn];grind) hp ig (n-1) he).2;rw[(aC:n-1+1=n),rn,Dc,Bf]at this;simp only[aoj,bn]at this;show _<=(jt _).q;rw[rn];simp only[fk]
  grind
 .rw [aZ h]at he ⊢;have h0:0<=d.q:=by
   apply dC.1;intro iB;exact h ((sk d).2.2 iB)
  have:=OO hd h0 hp ig (n-1) he;rwa[(aC:n-1+1=n)]at this
def ai8{x:Iv}(hx:x.ij){n p:Nat}(hp:1<=p)(ig:p<=4096){r:Rat}(h:x.jX r):(kZ x n p).jX (nX r n):=by
 unfold kZ;cases xa:x.all
 .simp only[bE,bn];by_cases hn:n=0
  .rw [a6 hn];subst hn;have e:(⟨false,1,0⟩:Dy).q=1:= aL ;refine .inr ⟨?_,?_⟩
   .show (⟨false,1,0⟩:Dy).q<=1;rw[e];exact cr
   .show 1<=(⟨false,1,0⟩:Dy).q;rw[e];exact cr
  .rw [aZ hn];obtain⟨s,hs,ug,hsn⟩:∃ s,(uy x n).jX s/\(n%2=0->0<=(uy x n).lo.q/\0<=s)/\nX r n=nX s n:=by
    unfold uy;by_cases qK:n%2=0
    .rw [a6 qK];have hl:0<=(jV x).lo.q:=by
      unfold jV;rw[xa];show 0<=(pk x).q;unfold pk;split
      .rw [tN];exact cr
      .obtain ⟨_,_,m⟩:=C7 (mD x.lo) (mD x.hi);rcases m with m|m<;>rw[m]
       .exact (Ae x.lo).1
       .exact (Ae x.hi).1
     by_cases hr:0<=r
     .exact ⟨r,Ik hx h (.inl ⟨rfl,hr⟩),λ_=>⟨hl,hr⟩,rfl⟩
     .refine ⟨-r,Ik hx h (.inr ⟨rfl,aK⟩),λ_=>⟨hl,aK⟩,?_⟩;rw[Dc,a6 qK]
    .rw [aZ qK];exact⟨r,h,λq=>absurd q qK,rfl⟩
   have zE:(uy x n).ij:=by unfold uy;split;exact Il hx;exact hx
   have ya:(uy x n).all=false:=by
    unfold uy;split
    .unfold jV;rw[xa];rfl
    .exact xa
   rw[hsn];generalize uy x n=y at *
   obtain⟨s1,s2⟩:=hs.jW ya;obtain⟨c1,c2⟩:=zE.yX;unfold mf;split
   .exact .inl rfl
   .rename_i he;have Bf:¬n%2=0->n%2=1:=λq=> aC 
    refine .inr ⟨?_,?_⟩
    .refine bN (adJ c1 aC ?_ hp ig aC) ?_
     .by_cases qK:n%2=0
      .exact .inl (ug qK).1
      .exact .inr (Bf qK)
     .by_cases qK:n%2=0
      .exact Hc (ug qK).1 s1 n
      .exact Pf (Bf qK) s1
    .refine bN ?_ (adK c2 aC ?_ hp ig aC)
     .by_cases qK:n%2=0
      .exact Hc (ug qK).2 s2 n
      .exact Pf (Bf qK) s2
     .by_cases qK:n%2=0
      .exact .inl (bN (ug qK).2 s2)
      .exact .inr (Bf qK)
 .rw [a6 rfl];exact .inl rfl
end Go.Proofs.YtgdahmmlddfimaaGreatDoor.Fp
namespace Go.Proofs.YtgdahmmlddfimaaGreatDoor
open Go.RowKit Fp Pu
structure ng where
 kind:Nat
 a:Nat
 b:Nat
 n:Nat
 cn:Int
 cd:Int
structure pX where
 im:Nat
 gZ:List ng
 iu:List Nat
structure jc where
 tape:pX
 iy:Nat
 params:List Iv
def iE:ng:=⟨0,0,0,0,0,0⟩
def Kk(o:ng):List E:=[iP (o.kind:Int),iP (o.a:Int),iP (o.b:Int),iP (o.n:Int),iP o.cn,iP o.cd]
def wB(o:ng):E:=.agg (Kk o)
def kU(l:List ng):E:=.sl true l.length 6 λi j=>(Kk (l.getD i iE)).getD j .any
def kT(l:List Nat):E:=.sl true l.length 1 λi _=>iP (l.getD i 0:Int)
def amF(t:pX):List E:=[iP (t.im:Int),kU t.gZ,kT t.iu]
def Hp(t:pX):E:=.agg (amF t)
def ami(s:jc):List E:=[iP (s.tape.im:Int),kU s.tape.gZ,kT s.tape.iu,iP (s.iy:Int),ib s.params]
def iV(s:jc):E:=.agg (ami s)
def nv(n d:Int):Bool:=decide (1<=d)&&(decide (d<=1073741824)&&(decide (-1073741824<=n)&&(decide (n<=1073741824)&&decide (Nat.gcd n.natAbs d.natAbs=1))))
def OT{n d:Int}(h:nv n d=true):1<=d/\d<=1073741824 /\ -1073741824<=n/\n<=1073741824:=by
 unfold nv at h;simp only[bF,cC]at h;exact⟨h.1,h.2.1,h.2.2.1,h.2.2.2.1⟩
def FO(f:FuncId)(x:Iv)(p:Nat):Prop:=∃ y:Iv,y.ij/\gW f [ik x,iP (p:Int)] (ik y)
def uD:Prop:=∀ (x:Iv) (p:Nat),x.ij->8<=p->p<=512->FO 312 x p/\FO 314 x p/\FO 315 x p/\FO 316 x p/\FO 319 x p
structure nZ(o:ng)(m:Nat):Prop where
 k3:o.kind=1\/3<=o.kind
 xm:o.kind<=13
 a:if o.kind=1 then o.a=0 else o.a<m
 b:if 3<=o.kind/\o.kind<=6 then o.b<m else o.b=0
 n:if o.kind=8 then o.n<=16 else o.n=0
 c:if o.kind=1 then nv o.cn o.cd=true else o.cn=0/\o.cd=0
 f:o.kind<=8\/uD
structure yM(t:pX):Prop where
 im:t.im<=8
 gZ:t.gZ.length<=200
 iu:t.iu.length<=200
 op:∀ i,i<t.gZ.length->nZ (t.gZ.getD i iE) (t.im+i)
 out:∀ i,i<t.iu.length->t.iu.getD i 0<t.im+t.gZ.length
def pq(l:List Iv):Prop:=∀ i,i<l.length->(l.getD i ia).ij/\(l.getD i ia).all=false
structure kz(s:jc):Prop where
 tape:yM s.tape
 s1:1<=s.iy
 s4:s.iy<=4
 iu:s.tape.iu.length=s.iy
 im:s.tape.im=s.iy+s.params.length
 p4:s.params.length<=4
 params:pq s.params
structure jh(n:Nat)(b:List Iv):Prop where
 len:b.length=n
 ok:pq b
def nP(l:List Iv):Bool:=(List.range l.length).any λi=>(l.getD i ia).all
def mF(h:Dy):Iv:=⟨ju,h,false⟩
def NH(x f:List Iv)(h:Dy)(p i:Nat):Iv:=jf (x.getD i ia) (iD (mF h) (f.getD i ia) p) p
def zI(x f:List Iv)(h:Dy)(p:Nat):List Iv:=(List.range x.length).map (NH x f h p)
def Zd{h:Dy}(hv:h.ij)(h0:0<=h.q):(mF h).ij:=.inr ⟨rfl,rU,hv,by show jj ju h<=0;rw[pT,tN];exact h0⟩
def wE(d:Dy){p:Nat}(hp:1<=p)(ig:p<=4096)(up:Bool):(kf d p up).ij:=tp _ _ _ _ _ _ hp ig
def Ad(d:Dy){p:Nat}(hp:1<=p)(ig:p<=4096)(up:Bool):∀ k,(jr d p up k).1.ij
 | 0=>wE _ hp ig _
 |k+1=>by
  unfold jr;split
  .exact Ad d hp ig up k
  .exact wE _ hp ig _
def SH(d:Dy)(n:Nat){p:Nat}(hp:1<=p)(ig:p<=4096)(up:Bool):(lE d n p up).1.ij:=by
 unfold lE;split
 .exact zZ (Ad _ hp ig _ _)
 .exact Ad _ hp ig _ _
def WX:canon false 1 0=⟨false,1,0⟩:=by
 have h1:(canon false 1 0).neg=false:= aL ;have h2:(canon false 1 0).m=1:= aL ;have h3:(canon false 1 0).e=0:= aL ;generalize canon false 1 0=d at *
 cases d;simp_all
def EB:(⟨false,1,0⟩:Dy).ij:=by
 have h2:mZ (canon false 1 0):= aL ;rw[<-WX];exact⟨tl _ _ _,h2⟩
def Kr{x:Iv}(hx:x.ij)(n:Nat){p:Nat}(hp:1<=p)(ig:p<=4096):(kZ x n p).ij:=by
 have hh:=ai8 hx (n:=n) hp ig hx.A7;revert hh;unfold kZ;split
 .intro _;exact mi
 .split
  .intro _;exact s8 EB
  .unfold mf;split
   .intro _;exact mi
   .intro hh;obtain⟨h1,h2⟩:=hh.jW rfl;exact .inr ⟨rfl,SH _ _ hp ig _,SH _ _ hp ig _,(pT _ _).2 (bN h1 h2)⟩
def mu(l:List Iv):Prop:=∀ i,(l.getD i ia).ij
def mu.push{l:List Iv}(h:mu l){y:Iv}(hy:y.ij):mu (l++[y]):=λi=>by
 rw[bh,dM];split
 .have:=h i;rwa[bh]at this
 .rcases i-l.length with _|j
  .exact hy
  .exact mi
def pq.PZ{l:List Iv}(h:pq l):mu l:=λi=>by
 by_cases hi:i<l.length
 .exact (h i hi).1
 .rw [bh,cj aC];exact mi
def mu.append{l r:List Iv}(h:mu l)(k:mu r):mu (l++r):=λi=>by
 rw[bh,dM];split
 .have:=h i;rwa[bh]at this
 .have:=k (i-l.length);rwa[bh]at this
def afJ{l:List Iv}(h:nP l=false)(v:mu l):pq l:=λi hi=>⟨v i,by simpa using List.any_eq_false.1 h i (bS.2 hi)⟩
def agp{x f:List Iv}{h:Dy}(hx:mu x){p:Nat}(hp:1<=p)(ig:p<=4096)(i:Nat):(NH x f h p i).ij:=qG (hx i) (nV _ _ hp ig) hp ig
def JV(x f:List Iv)(h:Dy)(p:Nat):(zI x f h p).length=x.length:=by simp[zI]
def JU{x f:List Iv}{h:Dy}{p i:Nat}(hi:i<x.length):(zI x f h p).getD i ia=NH x f h p i:=by
 simp[zI,bh,hi]
def agq{x f:List Iv}{h:Dy}(hx:mu x){p:Nat}(hp:1<=p)(ig:p<=4096):mu (zI x f h p):=λi=>by
 by_cases hi:i<x.length
 .rw [JU hi];exact agp hx hp ig i
 .rw [bh,cj (by rw[JV];omega)];exact mi
def ve(a b:List Iv):Bool:=(List.range a.length).all λi=>zK (a.getD i ia) (b.getD i ia)
def vR(x:Iv)(d:Dy):Bool:=decide (ml (iL x.lo (jt d))=0)&&decide (ml (iL x.hi d)=0)
def re(x:Iv)(d:Dy):Iv:=⟨kt (iL x.lo (jt d)),kt (iL x.hi d),false⟩
def rV(x:List Iv)(d:Dy):Bool:=(List.range x.length).all λi=>vR (x.getD i ia) d
def qJ(x:List Iv)(d:Dy):List Iv:=if rV x d then(List.range x.length).map λi=>re (x.getD i ia) d else[]
def qC(x y:Iv):Iv:=if x.all||y.all then ia else⟨jd x.lo y.lo,ja x.hi y.hi,false⟩
def ns(x y:List Iv):List Iv:=(List.range x.length).map λi=>qC (x.getD i ia) (y.getD i ia)
def oW(x:Iv)(p:Nat):Dy:=kf (iL x.hi (jt x.lo)) p true
def vG(x:Iv)(p:Nat):Int:=jS (iL x.hi (jt x.lo)) p true
def nY(x:List Iv)(p:Nat):Nat->Dy
 | 0=>ju
 |k+1=>if 0<jj (oW (x.getD k ia) p) (nY x p k)then oW (x.getD k ia) p else nY x p k
def HW(x:List Iv)(p:Nat):Bool:=(List.range x.length).all λi=>decide (vG (x.getD i ia) p=0)
def UK{x y:Iv}(hx:x.ij)(hy:y.ij):(qC x y).ij:=by
 unfold qC;cases xa:x.all
 .cases ya:y.all
  .obtain ⟨x1,x2⟩:x.lo.ij/\x.hi.ij:=hx.jW;obtain⟨y1,y2⟩:y.lo.ij/\y.hi.ij:=hy.jW;refine .inr ⟨rfl,um x1 y1,sE x2 y2,?_⟩;rw[pT];have hq:=hx.q;obtain⟨a1,a2,_⟩:=C7 x.lo y.lo;obtain⟨b1,b2,_⟩:=G4 x.hi y.hi
   grind
  .exact mi
 .exact mi
def UJ{x y:List Iv}{n:Nat}(hx:jh n x)(hy:jh n y):jh n (ns x y):=by
 refine⟨by simp[ns,hx.len],λi hi=>?_⟩;have mC:i<x.length:=by simpa[ns]using hi
 have e:(ns x y).getD i ia=qC (x.getD i ia) (y.getD i ia):=by simp[ns,bh,mC]
 obtain⟨v1,a1⟩:=hx.ok i mC;obtain⟨v2,a2⟩:=hy.ok i (by rw[hy.len,<-hx.len];exact mC);rw[e];refine⟨UK v1 v2,?_⟩;unfold qC;rw[a1,a2];rfl
def afv{x:Iv}(hx:x.ij){d:Dy}(hd:d.ij)(h0:0<=d.q)(h:vR x d=true):(re x d).ij:=by
 unfold vR at h;rw[bF,cC,cC]at h;obtain⟨h1,h2⟩:=h;have r1:mZ (iL x.lo (jt d)):=bU λq=>by rw[DF q]at h1;cases h1
 have r2:mZ (iL x.hi d):=bU λq=>by rw[DF q]at h2;cases h2
 obtain⟨c1,c2⟩:=hx.yX;unfold re;refine .inr ⟨rfl,IL (yW c1 (zZ hd).canon),IL (yW c2 hd.canon),?_⟩;show jj (kt _) (kt _)<=0;rw[yY r1,yY r2,pT,OP,OP,rn];have:=hx.q
 grind
def FV{x:List Iv}{n:Nat}(hx:jh n x){d:Dy}(hd:d.ij)(h0:0<=d.q)(h:rV x d=true):jh n (qJ x d):=by
 unfold qJ;rw[a6 h];refine⟨by simp[hx.len],λi hi=>?_⟩;have mC:i<x.length:=by simpa using hi
 have e:((List.range x.length).map λi=>re (x.getD i ia) d).getD i ia=re (x.getD i ia) d:=by simp[bh,mC]
 rw[e];exact⟨afv (hx.ok i mC).1 hd h0 (bM.1 h i (bS.2 mC)),rfl⟩
def adn(s:Bool)(L:List Nat)(e:Int)(hk:iN L)(hl:L.length<=256)(mB:-1000000<=e)(lF:e<=1000000):gW 219 [bP s,ic L,iP e] (ie (canon s (val L) e)):=by
 refine⟨call219,λw B vs hK hB hr=>?_⟩;obtain⟨v1,vs,rfl,h1,hr⟩:=hr.mG;obtain⟨v2,vs,rfl,h2,hr⟩:=hr.mG;obtain⟨v3,vs,rfl,h3,hr⟩:=hr.mG;obtain rfl:=hr.qU;obtain rfl:=iC.kC h1;obtain rfl:=iC.kC h3;obtain⟨A,c,rfl,s1⟩:=xx hk h2;exact(IU s A c L e w s1 aC (by have:=pV L;unfold mR at this;omega) mB lF hK).mono λe w' h=>rd B w e w' hB h
def amT(x y:Nat):E.le (.sl false 2 1 λi j=>[E.v (.int .u32 (x:Int)),.v (.int .u32 (y:Int))].getD (i*1+j) (.v (.bool false))) (ic [x,y]):=.sl λi j hi hj=>by
 obtain rfl:j=0:= aC ;obtain rfl|rfl:i=0\/i=1:= aC 
 .exact ⟨.refl _,rfl⟩
 .exact ⟨.refl _,rfl⟩
def CI(n:Nat):iW (n:Int)=canon false n 0:=by
 unfold iW j8;rw[bc aC,eB]
def Ej(n:Nat)(h:n<4294967296):(iW (n:Int)).ij:=by
 rw[CI];refine⟨tl _ _ _,?_⟩;by_cases h0:n=0
 .subst h0;exact .inl rfl
 .have:=BZ (s:=false) (e:=0) h0;have hb:iq n<=32:=mj.2 h;refine .inr ⟨aC,aC,?_,aC⟩;obtain⟨h1,h2,h3,h4⟩:=this;have:=o0 h3;omega
def ane(x y:Nat):val [x,y]=x+4294967296*y:=by simp[val]
end Go.Proofs.YtgdahmmlddfimaaGreatDoor
