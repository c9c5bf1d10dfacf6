/- Lemmas that the last file uses. -/
import Derived.Test.YtgdahmmlddfimaaGreatDoorM04
set_option linter.unusedSimpArgs false
set_option linter.unusedVariables false
set_option linter.defProp false
set_option maxHeartbeats 4000000
open Go.Proofs.Tryz
namespace Go.Proofs.YtgdahmmlddfimaaGreatDoor
open Go.RowKit Fp Pu
noncomputable def Vw(t:pX)(im:List (List Iv))(k p:Nat)(x:Nat):PS:=⟨98,true,[(21,.e (iP x)),(20,.e (iP t.gZ.length)),(19,.e (kU t.gZ)),(9,.own 15),(4,.box 4 0),(2,.e (iP k)),(3,.e (iP p))],[(15,.row true 26 ((iR t.gZ im k p x).length) 1 (mE (iR t.gZ im k p x))),(4,.cells 25 [iP t.im,kU t.gZ,kT t.iu])]⟩
noncomputable def Vx(t:pX)(im:List (List Iv))(k p:Nat)(x:Nat):PS:=⟨98,true,[(12,.own 12),(85,.e (iP x)),(84,.e (iP t.iu.length)),(83,.e (kT t.iu)),(9,.own 15)],[(12,.row true 26 (((t.iu.take x).map λj=>(iR t.gZ im k p t.gZ.length).getD j []).length) 1 (mE ((t.iu.take x).map λj=>(iR t.gZ im k p t.gZ.length).getD j []))),(15,.row true 26 ((iR t.gZ im k p t.gZ.length).length) 1 (mE (iR t.gZ im k p t.gZ.length)))]⟩
abbrev VM(n:Nat)(M:List (List Iv)):E:=.nB false true n 1 λk _=>.nB true true (ni M k) 7 (oI M k)
def Vu(s:jc)(n:Nat)(M:List (List Iv))(k:Nat)(x:Nat):PS:=⟨43,true,[(7,.own 7),(14,.e (iP x)),(13,.e (iP n)),(12,.e (VM n M)),(3,.box 3 0),(2,.e (iP k))],[(7,.row true 26 (((M.take x).map λc=>c.take (k+1)).length) 1 (mE ((M.take x).map λc=>c.take (k+1)))),(3,.cells 28 [iP s.tape.im,kU s.tape.gZ,kT s.tape.iu,iP s.iy,ib s.params])]⟩
def Vv(s:jc)(n:Nat)(M:List (List Iv))(k:Nat)(x:Nat):PS:=⟨43,true,[(31,.e (iP x)),(30,.e (iP s.params.length)),(29,.e (ib s.params)),(7,.own 7),(2,.e (iP k))],[(7,.row true 26 (((M.map λc=>c.take (k+1))++(s.params.take x).map λa=>oc a k).length) 1 (mE ((M.map λc=>c.take (k+1))++(s.params.take x).map λa=>oc a k)))]⟩
noncomputable def nT(s:jc)(x:List Iv)(p n i:Nat):List (List Iv):=(List.range x.length).map λq=>(iU s x p n).getD q []++(if q<i then[CZ s (iU s x p n) p n q]else[])
def Vz(s:jc)(x:List Iv)(k p:Nat)(w:Nat):PS:=⟨72,true,[(9,.own 9),(18,.e (iP w)),(17,.e (iP x.length)),(16,.e (ib x)),(4,.box 4 0),(2,.e (iP k)),(3,.e (iP p))],[(9,.jH true 26 39 w 7 (ni (x.map λy=>[y])) (oI (x.map λy=>[y])) .none),(4,.cells 28 [iP s.tape.im,kU s.tape.gZ,kT s.tape.iu,iP s.iy,ib s.params])]⟩
noncomputable def VA(s:jc)(x:List Iv)(k p:Nat)(m:Nat):PS:=⟨72,true,[(29,.e (iP m)),(28,.e (iP k)),(9,.own 9),(4,.box 4 0),(3,.e (iP p))],[(9,.jH true 26 39 x.length 7 (ni (iU s x p m)) (oI (iU s x p m)) .none),(4,.cells 28 [iP s.tape.im,kU s.tape.gZ,kT s.tape.iu,iP s.iy,ib s.params])]⟩
noncomputable def VB(s:jc)(x:List Iv)(k p m:Nat)(w:Nat):PS:=⟨72,true,[(47,.e (iP w)),(46,.e (iP x.length)),(14,.box 14 0),(13,.e (kN (rF s.tape (qR s (iU s x p m) m) m p))),(12,.e (iP m)),(29,.e (iP m)),(28,.e (iP k)),(9,.own 9),(4,.box 4 0),(3,.e (iP p))],[(14,.cells 39 (iJ (jY (m+1)))),(9,.jH true 26 39 x.length 7 (ni (nT s x p m w)) (oI (nT s x p m w)) .none),(4,.cells 28 [iP s.tape.im,kU s.tape.gZ,kT s.tape.iu,iP s.iy,ib s.params])]⟩
def zT{T n n':Nat}{M M':List (List Iv)}{r:List Iv}{p:E}(hn:n=M.length)(uW:n'=M'.length)(hp:∀ j,j<1->p.kG 0 j=ib r)(hM:M'=M++[r]):
 Bx.le (.row true T (n+1) 1 λi j=>if i<n then mE M i j else(E.kG p) (i-n) j) (.row true T n' 1 (mE M')):=by
 subst hM uW;exact ahQ hn rfl hp
def ahO{T n n':Nat}{M:List (List Iv)}{e:Nat->Nat->E}(hn:n=M.length)(uW:n'=M.length):Bx.le (.row true T (0+n) 1 λi j=>if i<0 then e i j else(E.kG (kN M)) (i-0) j) (.row true T n' 1 (mE M)):=by
 subst uW;refine .row aC λi j hi hj=>?_
 rw[aZ (bj i),dx];exact⟨.iT rfl,Vs _⟩
def V8{T n:Nat}{e:Nat->Nat->E}{M:List (List Iv)}(h:M=[])(hn:n=M.length):Bx.le (.row true T 0 1 e) (.row true T n 1 (mE M)):=by
 subst hn h;exact .row rfl λi j hi=>absurd hi (bj i)
def N6{α β:Type}(f:α->β)(l:List α)(d:α){x:Nat}(hx:x<l.length):(l.take (x+1)).map f=(l.take x).map f++[f (l.getD x d)]:=by
 rw[aoA,bu hx,gv];congr 1;rw[bh,bu hx];rfl
def ag1(t:pX)(im:List (List Iv))(k p:Nat)(h:yM t)(hi:vI (k+1) im)(hl:im.length=t.im)(hk:k<=16)(il:8<=p)(ig:p<=512):gW 187 [Hp t,kN im,iP k,iP p] (kN (rF t im k p)):=by
 have h8:=h.im;have Ec:=h.gZ;have an4:=h.iu;have JA:=Hd (p:=p) t.gZ im k t.gZ.length;exact ak call187 func187 (ae [.bo,.a (aC:(0+im.length)*24<=140737488355328),.s (Sp.jC (Vw t im k p) 0 t.gZ.length aC (λx hx k0=>by
    have iA:=h.op x aC;have JA:=Hd (p:=p) t.gZ im k x;have qb:=KJ (aC:1<=p) (aC:p<=4096) h hi hl x aC;by_cases lP:((t.gZ.getD x iE)).kind=1
    .have lf:(iR t.gZ im k p (x+1))=(iR t.gZ im k p x)++[rj (t.gZ.getD x iE) (iR t.gZ im k p x) k p]:=rfl;have og:((t.gZ.getD x iE)).kind=1:=lP;obtain⟨o1,o2,o3,sS⟩:=iA.num og;rw[show rj (t.gZ.getD x iE) (iR t.gZ im k p x) k p=(oc (rp (t.gZ.getD x iE).cn (t.gZ.getD x iE).cd p) k)by unfold rj;rw[a6 og]]at lf;exact iF (ae [tT 22 ((x:Int)<t.gZ.length) aC,iX (x:Int) (t.gZ.length) aC,ah 47 (((t.gZ.getD x iE).kind:Int)==1) (aV aC),.c (Xn ((t.gZ.getD x iE).cn) ((t.gZ.getD x iE).cd) p aD aC aC),.c (Yq (rp ((t.gZ.getD x iE).cn) ((t.gZ.getD x iE).cd) p) (Pk _ _ aC aC) k aC),.a (aC:((iR t.gZ im k p x).length+1)*24<=140737488355328),iz ((x:Int)+1) aC]<|.e (af [.b 15 (zT rfl rfl (λj hj=>by obtain rfl:j=0:= aC;rfl) lf:Bx.le (.row true 26 ((iR t.gZ im k p x).length+1) 1 (λi_ j_=>if i_<(iR t.gZ im k p x).length then(mE (iR t.gZ im k p x)) i_ j_ else(E.kG (.sl true 1 1 λi_ j_=>[ib (oc (rp ((t.gZ.getD x iE).cn) ((t.gZ.getD x iE).cd) p) k)].getD (i_*1+j_) (.v (.bool false)))) (i_-(iR t.gZ im k p x).length) j_)) (.row true 26 ((iR t.gZ im k p (x+1)).length) 1 (mE (iR t.gZ im k p (x+1)))))])) aF 
    .by_cases hk:((t.gZ.getD x iE)).kind<=6
     .by_cases h3:((t.gZ.getD x iE)).kind=3
      .have lf:(iR t.gZ im k p (x+1))=(iR t.gZ im k p x)++[rj (t.gZ.getD x iE) (iR t.gZ im k p x) k p]:=rfl
       have pe:((t.gZ.getD x iE)).kind≠1:=lP;have og:((t.gZ.getD x iE)).kind<=6:=hk;have Jx:=iA.xm;have Jy:=iA.k3.resolve_left pe;have Jo:=iA.Dr pe;have JF:=EC iA;have s1:=qb (t.gZ.getD x iE).a aC;obtain⟨o1,o2,o3,o4,o5,o6⟩:=iA.BW pe og;have s2:=qb (t.gZ.getD x iE).b aC;rw[show rj (t.gZ.getD x iE) (iR t.gZ im k p x) k p=(nA (t.gZ.getD x iE) ((iR t.gZ im k p x).getD (t.gZ.getD x iE).a []) ((iR t.gZ im k p x).getD ((t.gZ.getD x iE).b) []) p)by unfold rj xG;rw[aZ pe,a7 og];rfl]at lf;exact iF (ae [tT 22 ((x:Int)<t.gZ.length) aC,iX (x:Int) (t.gZ.length) aC,ai 47 (((t.gZ.getD x iE).kind:Int)==1) (aU aC),ah 58 (((t.gZ.getD x iE).kind:Int)==3) (aV aC),iX ((t.gZ.getD x iE).a:Int) ((iR t.gZ im k p x).length) aC,.a (aC:(t.gZ.getD x iE).a<(iR t.gZ im k p x).length),iX ((t.gZ.getD x iE).b:Int) ((iR t.gZ im k p x).length) aC,.a (aC:(t.gZ.getD x iE).b<(iR t.gZ im k p x).length),ag [iP ((t.gZ.getD x iE).kind:Int),iP ((t.gZ.getD x iE).n:Int),ib ((iR t.gZ im k p x).getD ((t.gZ.getD x iE).a) []),ib ((iR t.gZ im k p x).getD ((t.gZ.getD x iE).b) []),iP p] (Hh (t.gZ.getD x iE) _ _ (k+1) p aC aC aD aD il ig aC aC aC iA.f),.a (aC:((iR t.gZ im k p x).length+1)*24<=140737488355328),iz ((x:Int)+1) aC]<|.e (af [.b 15 (zT rfl rfl (λj hj=>by obtain rfl:j=0:= aC;rfl) lf:Bx.le (.row true 26 ((iR t.gZ im k p x).length+1) 1 (λi_ j_=>if i_<(iR t.gZ im k p x).length then(mE (iR t.gZ im k p x)) i_ j_ else(E.kG (.sl true 1 1 λi_ j_=>[ib (nA (t.gZ.getD x iE) ((iR t.gZ im k p x).getD ((t.gZ.getD x iE).a) []) ((iR t.gZ im k p x).getD ((t.gZ.getD x iE).b) []) p)].getD (i_*1+j_) (.v (.bool false)))) (i_-(iR t.gZ im k p x).length) j_)) (.row true 26 ((iR t.gZ im k p (x+1)).length) 1 (mE (iR t.gZ im k p (x+1)))))])) aF 
      .by_cases h4:((t.gZ.getD x iE)).kind=4
       .have lf:(iR t.gZ im k p (x+1))=(iR t.gZ im k p x)++[rj (t.gZ.getD x iE) (iR t.gZ im k p x) k p]:=rfl;have pe:((t.gZ.getD x iE)).kind≠1:=lP;have og:((t.gZ.getD x iE)).kind<=6:=hk;have Jx:=iA.xm;have Jy:=iA.k3.resolve_left pe;have Jo:=iA.Dr pe;have JF:=EC iA;have s1:=qb (t.gZ.getD x iE).a aC;obtain⟨o1,o2,o3,o4,o5,o6⟩:=iA.BW pe og;have s2:=qb (t.gZ.getD x iE).b aC;rw[show rj (t.gZ.getD x iE) (iR t.gZ im k p x) k p=(nA (t.gZ.getD x iE) ((iR t.gZ im k p x).getD (t.gZ.getD x iE).a []) ((iR t.gZ im k p x).getD ((t.gZ.getD x iE).b) []) p)by unfold rj xG;rw[aZ pe,a7 og];rfl]at lf;exact iF (ae [tT 22 ((x:Int)<t.gZ.length) aC,iX (x:Int) (t.gZ.length) aC,ai 47 (((t.gZ.getD x iE).kind:Int)==1) (aU aC),ai 58 (((t.gZ.getD x iE).kind:Int)==3) (aU aC),ah 59 (((t.gZ.getD x iE).kind:Int)==4) (aV aC),
         iX ((t.gZ.getD x iE).a:Int) ((iR t.gZ im k p x).length) aC,.a (aC:(t.gZ.getD x iE).a<(iR t.gZ im k p x).length),
         iX ((t.gZ.getD x iE).b:Int) ((iR t.gZ im k p x).length) aC,.a (aC:(t.gZ.getD x iE).b<(iR t.gZ im k p x).length),ag [iP ((t.gZ.getD x iE).kind:Int),iP ((t.gZ.getD x iE).n:Int),ib ((iR t.gZ im k p x).getD ((t.gZ.getD x iE).a) []),ib ((iR t.gZ im k p x).getD ((t.gZ.getD x iE).b) []),iP p] (Hh (t.gZ.getD x iE) _ _ (k+1) p aC aC aD aD il ig aC aC aC iA.f),.a (aC:((iR t.gZ im k p x).length+1)*24<=140737488355328),iz ((x:Int)+1) aC]<|.e (af [.b 15 (zT rfl rfl (λj hj=>by obtain rfl:j=0:= aC;rfl) lf:Bx.le (.row true 26 ((iR t.gZ im k p x).length+1) 1 (λi_ j_=>if i_<(iR t.gZ im k p x).length then(mE (iR t.gZ im k p x)) i_ j_ else(E.kG (.sl true 1 1 λi_ j_=>[ib (nA (t.gZ.getD x iE) ((iR t.gZ im k p x).getD ((t.gZ.getD x iE).a) []) ((iR t.gZ im k p x).getD ((t.gZ.getD x iE).b) []) p)].getD (i_*1+j_) (.v (.bool false)))) (i_-(iR t.gZ im k p x).length) j_)) (.row true 26 ((iR t.gZ im k p (x+1)).length) 1 (mE (iR t.gZ im k p (x+1)))))])) aF 
       .by_cases h5:((t.gZ.getD x iE)).kind=5
        .have lf:(iR t.gZ im k p (x+1))=(iR t.gZ im k p x)++[rj (t.gZ.getD x iE) (iR t.gZ im k p x) k p]:=rfl
         have pe:((t.gZ.getD x iE)).kind≠1:=lP;have og:((t.gZ.getD x iE)).kind<=6:=hk;have Jx:=iA.xm;have Jy:=iA.k3.resolve_left pe;have Jo:=iA.Dr pe;have JF:=EC iA;have s1:=qb (t.gZ.getD x iE).a aC;obtain⟨o1,o2,o3,o4,o5,o6⟩:=iA.BW pe og;have s2:=qb (t.gZ.getD x iE).b aC;rw[show rj (t.gZ.getD x iE) (iR t.gZ im k p x) k p=(nA (t.gZ.getD x iE) ((iR t.gZ im k p x).getD (t.gZ.getD x iE).a []) ((iR t.gZ im k p x).getD ((t.gZ.getD x iE).b) []) p)by unfold rj xG;rw[aZ pe,a7 og];rfl]at lf;exact iF (ae [tT 22 ((x:Int)<t.gZ.length) aC,iX (x:Int) (t.gZ.length) aC,ai 47 (((t.gZ.getD x iE).kind:Int)==1) (aU aC),ai 58 (((t.gZ.getD x iE).kind:Int)==3) (aU aC),ai 59 (((t.gZ.getD x iE).kind:Int)==4) (aU aC),ah 60 (((t.gZ.getD x iE).kind:Int)==5) (aV aC),iX ((t.gZ.getD x iE).a:Int) ((iR t.gZ im k p x).length) aC,.a (aC:(t.gZ.getD x iE).a<(iR t.gZ im k p x).length),iX ((t.gZ.getD x iE).b:Int) ((iR t.gZ im k p x).length) aC,.a (aC:(t.gZ.getD x iE).b<(iR t.gZ im k p x).length),ag [iP ((t.gZ.getD x iE).kind:Int),iP ((t.gZ.getD x iE).n:Int),ib ((iR t.gZ im k p x).getD ((t.gZ.getD x iE).a) []),ib ((iR t.gZ im k p x).getD ((t.gZ.getD x iE).b) []),iP p] (Hh (t.gZ.getD x iE) _ _ (k+1) p aC aC aD aD il ig aC aC aC iA.f),.a (aC:((iR t.gZ im k p x).length+1)*24<=140737488355328),iz ((x:Int)+1) aC]<|.e (af [.b 15 (zT rfl rfl (λj hj=>by obtain rfl:j=0:= aC;rfl) lf:Bx.le (.row true 26 ((iR t.gZ im k p x).length+1) 1 (λi_ j_=>if i_<(iR t.gZ im k p x).length then(mE (iR t.gZ im k p x)) i_ j_ else(E.kG (.sl true 1 1 λi_ j_=>[ib (nA (t.gZ.getD x iE) ((iR t.gZ im k p x).getD ((t.gZ.getD x iE).a) []) ((iR t.gZ im k p x).getD ((t.gZ.getD x iE).b) []) p)].getD (i_*1+j_) (.v (.bool false)))) (i_-(iR t.gZ im k p x).length) j_)) (.row true 26 ((iR t.gZ im k p (x+1)).length) 1 (mE (iR t.gZ im k p (x+1)))))])) aF 
        .have lf:(iR t.gZ im k p (x+1))=(iR t.gZ im k p x)++[rj (t.gZ.getD x iE) (iR t.gZ im k p x) k p]:=rfl;have pe:((t.gZ.getD x iE)).kind≠1:=lP;have og:((t.gZ.getD x iE)).kind<=6:=hk;have Jx:=iA.xm;have Jy:=iA.k3.resolve_left pe;have Jo:=iA.Dr pe;have JF:=EC iA;have s1:=qb (t.gZ.getD x iE).a aC;obtain⟨o1,o2,o3,o4,o5,o6⟩:=iA.BW pe og;have s2:=qb (t.gZ.getD x iE).b aC;rw[show rj (t.gZ.getD x iE) (iR t.gZ im k p x) k p=(nA (t.gZ.getD x iE) ((iR t.gZ im k p x).getD (t.gZ.getD x iE).a []) ((iR t.gZ im k p x).getD ((t.gZ.getD x iE).b) []) p)by unfold rj xG;rw[aZ pe,a7 og];rfl]at lf;exact iF (ae [tT 22 ((x:Int)<t.gZ.length) aC,iX (x:Int) (t.gZ.length) aC,ai 47 (((t.gZ.getD x iE).kind:Int)==1) (aU aC),ai 58 (((t.gZ.getD x iE).kind:Int)==3) (aU aC),ai 59 (((t.gZ.getD x iE).kind:Int)==4) (aU aC),ai 60 (((t.gZ.getD x iE).kind:Int)==5) (aU aC),ah 61 (((t.gZ.getD x iE).kind:Int)==6) (aV aC),
          iX ((t.gZ.getD x iE).a:Int) ((iR t.gZ im k p x).length) aC,.a (aC:(t.gZ.getD x iE).a<(iR t.gZ im k p x).length),
          iX ((t.gZ.getD x iE).b:Int) ((iR t.gZ im k p x).length) aC,.a (aC:(t.gZ.getD x iE).b<(iR t.gZ im k p x).length),ag [iP ((t.gZ.getD x iE).kind:Int),iP ((t.gZ.getD x iE).n:Int),ib ((iR t.gZ im k p x).getD ((t.gZ.getD x iE).a) []),ib ((iR t.gZ im k p x).getD ((t.gZ.getD x iE).b) []),iP p] (Hh (t.gZ.getD x iE) _ _ (k+1) p aC aC aD aD il ig aC aC aC iA.f),.a (aC:((iR t.gZ im k p x).length+1)*24<=140737488355328),iz ((x:Int)+1) aC]<|.e (af [.b 15 (zT rfl rfl (λj hj=>by obtain rfl:j=0:= aC;rfl) lf:Bx.le (.row true 26 ((iR t.gZ im k p x).length+1) 1 (λi_ j_=>if i_<(iR t.gZ im k p x).length then(mE (iR t.gZ im k p x)) i_ j_ else(E.kG (.sl true 1 1 λi_ j_=>[ib (nA (t.gZ.getD x iE) ((iR t.gZ im k p x).getD ((t.gZ.getD x iE).a) []) ((iR t.gZ im k p x).getD ((t.gZ.getD x iE).b) []) p)].getD (i_*1+j_) (.v (.bool false)))) (i_-(iR t.gZ im k p x).length) j_)) (.row true 26 ((iR t.gZ im k p (x+1)).length) 1 (mE (iR t.gZ im k p (x+1)))))])) aF 
     .have lf:(iR t.gZ im k p (x+1))=(iR t.gZ im k p x)++[rj (t.gZ.getD x iE) (iR t.gZ im k p x) k p]:=rfl;have pe:((t.gZ.getD x iE)).kind≠1:=lP;have og:¬((t.gZ.getD x iE)).kind<=6:=hk;have Jx:=iA.xm;have Jy:=iA.k3.resolve_left pe;have Jo:=iA.Dr pe;have JF:=EC iA;have s1:=qb (t.gZ.getD x iE).a aC;rw[show rj (t.gZ.getD x iE) (iR t.gZ im k p x) k p=(nA (t.gZ.getD x iE) ((iR t.gZ im k p x).getD (t.gZ.getD x iE).a []) ((iR t.gZ im k p x).getD ((t.gZ.getD x iE).a) []) p)by unfold rj xG;rw[aZ pe,bc og];rfl]at lf;exact iF (ae [tT 22 ((x:Int)<t.gZ.length) aC,iX (x:Int) (t.gZ.length) aC,ai 47 (((t.gZ.getD x iE).kind:Int)==1) (aU aC),ai 58 (((t.gZ.getD x iE).kind:Int)==3) (aU aC),ai 59 (((t.gZ.getD x iE).kind:Int)==4) (aU aC),ai 60 (((t.gZ.getD x iE).kind:Int)==5) (aU aC),ai 61 (((t.gZ.getD x iE).kind:Int)==6) (aU aC),
       iX ((t.gZ.getD x iE).a:Int) ((iR t.gZ im k p x).length) aC,.a (aC:(t.gZ.getD x iE).a<(iR t.gZ im k p x).length),
       iX ((t.gZ.getD x iE).a:Int) ((iR t.gZ im k p x).length) aC,.a (aC:(t.gZ.getD x iE).a<(iR t.gZ im k p x).length),ag [iP ((t.gZ.getD x iE).kind:Int),iP ((t.gZ.getD x iE).n:Int),ib ((iR t.gZ im k p x).getD ((t.gZ.getD x iE).a) []),ib ((iR t.gZ im k p x).getD ((t.gZ.getD x iE).a) []),iP p] (Hh (t.gZ.getD x iE) _ _ (k+1) p aC aC aD aD il ig aC aC aC iA.f),.a (aC:((iR t.gZ im k p x).length+1)*24<=140737488355328),iz ((x:Int)+1) aC]<|.e (af [.b 15 (zT rfl rfl (λj hj=>by obtain rfl:j=0:= aC;rfl) lf:Bx.le (.row true 26 ((iR t.gZ im k p x).length+1) 1 (λi_ j_=>if i_<(iR t.gZ im k p x).length then(mE (iR t.gZ im k p x)) i_ j_ else(E.kG (.sl true 1 1 λi_ j_=>[ib (nA (t.gZ.getD x iE) ((iR t.gZ im k p x).getD ((t.gZ.getD x iE).a) []) ((iR t.gZ im k p x).getD ((t.gZ.getD x iE).a) []) p)].getD (i_*1+j_) (.v (.bool false)))) (i_-(iR t.gZ im k p x).length) j_)) (.row true 26 ((iR t.gZ im k p (x+1)).length) 1 (mE (iR t.gZ im k p (x+1)))))])) aF)
  (λhx=>by
    exact iF (af [tF 22 ((t.gZ.length:Int)<t.gZ.length) aC]) aF) aI:jA 3 f187 (Vw t im k p 0) (.exit 0) ⟨98,true,[(9,.own 15),(4,.box 4 0)],[(15,.row true 26 ((iR t.gZ im k p t.gZ.length).length) 1 (mE (iR t.gZ im k p t.gZ.length))),(4,.cells 25 [iP t.im,kU t.gZ,kT t.iu])]⟩) (af [.b 15 (ahO rfl rfl:Bx.le (.row true 26 (0+im.length) 1 (λi_ j_=>if i_<0 then(λi_ j_=>([]:List E).getD (i_*1+j_) (.v (.bool false))) i_ j_ else(E.kG (kN im)) (i_-0) j_)) (.row true 26 ((iR t.gZ im k p 0).length) 1 (mE (iR t.gZ im k p 0))))]),.y 12 12 true 26 1 (mE []),.s (Sp.jC (Vx t im k p) 0 t.iu.length aC (λx hx k0=>by
    have ho_:=h.out x aC;have anV:((t.iu.take x).map λj=>(iR t.gZ im k p t.gZ.length).getD j []).length<=200:=by rw[ck,b9];omega
    exact iF (ae [tT 86 ((x:Int)<t.iu.length) aC,iX (x:Int) (t.iu.length) aC,iX (t.iu.getD x 0:Int) ((iR t.gZ im k p t.gZ.length).length) aC,.a (aC:(t.iu.getD x 0)<(iR t.gZ im k p t.gZ.length).length),.a (aC:(((t.iu.take x).map λj=>(iR t.gZ im k p t.gZ.length).getD j []).length+1)*24<=140737488355328),
     iz ((x:Int)+1) aC]<|.e (af [.b 12 (zT rfl rfl (λj hj=>by obtain rfl:j=0:= aC;rfl) (N6 _ t.iu 0 aC):Bx.le (.row true 26 (((t.iu.take x).map λj=>(iR t.gZ im k p t.gZ.length).getD j []).length+1) 1 (λi_ j_=>if i_<((t.iu.take x).map λj=>(iR t.gZ im k p t.gZ.length).getD j []).length then(mE ((t.iu.take x).map λj=>(iR t.gZ im k p t.gZ.length).getD j [])) i_ j_ else(E.kG (.sl true 1 1 λi_ j_=>[ib ((iR t.gZ im k p t.gZ.length).getD (t.iu.getD x 0) [])].getD (i_*1+j_) (.v (.bool false)))) (i_-((t.iu.take x).map λj=>(iR t.gZ im k p t.gZ.length).getD j []).length) j_)) (.row true 26 (((t.iu.take (x+1)).map λj=>(iR t.gZ im k p t.gZ.length).getD j []).length) 1 (mE ((t.iu.take (x+1)).map λj=>(iR t.gZ im k p t.gZ.length).getD j []))))])) aF)
  (λhx=>by
    exact iF (ae [tF 86 ((t.iu.length:Int)<t.iu.length) aC,.z 12]<|.e (af [.o 12 (.e (V9 rfl):aj (.sl true (((t.iu.take t.iu.length).map λj=>(iR t.gZ im k p t.gZ.length).getD j []).length) 1 (mE ((t.iu.take t.iu.length).map λj=>(iR t.gZ im k p t.gZ.length).getD j []))) (kN ((t.iu.take t.iu.length).map λj=>(iR t.gZ im k p t.gZ.length).getD j [])))])) aF) aI:jA 17 f187 (Vx t im k p 0) (.exit 3) ⟨98,true,[(12,.e (kN ((t.iu.take t.iu.length).map λj=>(iR t.gZ im k p t.gZ.length).getD j [])))],[]⟩) (af [.b 12 (V8 aH rfl:Bx.le (.row true 26 0 1 (mE [])) (.row true 26 (((t.iu.take 0).map λj=>(iR t.gZ im k p t.gZ.length).getD j []).length) 1 (mE ((t.iu.take 0).map λj=>(iR t.gZ im k p t.gZ.length).getD j []))))])]<|rQ (kN ((t.iu.take t.iu.length).map λj=>(iR t.gZ im k p t.gZ.length).getD j [])) (kN (rF t im k p)) (by unfold rF;rw[eV])) 
def amC{M:List (List Iv)}{x q m:Nat}{e:Nat->Nat->E}(hq:q=m)(hm:m<=(M.getD x []).length):E.le (.sl true (0+q) 7 λi j=>if i<0 then e i j else oI M x (i-0) j) (ib ((M.getD x []).take m)):=by
 subst hq;have hl:((M.getD x []).take q).length=0+q:=by rw[b9];omega
 unfold ib;rw[hl];refine .sl λi j hi hj=>?_
 rw[aZ (bj i),dx];refine⟨.iT ?_,tI _ _ hj⟩;show(iJ ((M.getD x []).getD i ia)).getD j .any=(iJ (((M.getD x []).take q).getD i ia)).getD j .any;congr 2;simp only[bh];rw[List.getElem?_take_of_lt aC]
def ag0(s:jc)(n k:Nat)(M:List (List Iv))(h:kz s)(hn:n=M.length)(hn8:n<=8)(hk:k<=16)(hM:∀ i,i<n->k+1<=(M.getD i []).length)(afF:∀ i,i<n->(M.getD i []).length<=17):gW 188 [iV s,VM n M,iP k] (kN (qR s M k)):=by
 have p4:=h.p4;exact ak call188 func188 (ae [.y 7 7 true 26 1 (mE []),.s (Sp.jC (Vu s n M k) 0 n aC (λx hx k0=>by
    have zo:ni M x=(M.getD x []).length:=rfl;have hmx:=hM x aC;have an2:=afF x aC;have hla:((M.take x).map λc=>c.take (k+1)).length<=8:=by rw[ck,b9];omega
    exact iF (ae [tT 15 ((x:Int)<n) aC,iX (x:Int) n aC,.bo,iz ((k:Int)+1) aC,.a (aC:0<=(((k+1:Nat):Int):Int)/\(((k+1:Nat):Int):Int)<=(ni M x:Int)),.bo,.a (aC:(0+(k+1))*88<=140737488355328),.o 24 (.e (amC aC hmx):aj (.sl true (0+(k+1)) 7 (λi_ j_=>if i_<0 then(λi_ j_=>([]:List E).getD (i_*7+j_) (.v (.bool false))) i_ j_ else(E.kG (.nB true true (k+1) 7 (E.kG (.nB true true (ni M x) 7 (oI M x))))) (i_-0) j_)) (ib ((M.getD x []).take (k+1)))),.o 25 (.refl _:aj (.sl true 1 1 λi_ j_=>[ib ((M.getD x []).take (k+1))].getD (i_*1+j_) (.v (.bool false))) (.sl true 1 1 λi_ j_=>[ib ((M.getD x []).take (k+1))].getD (i_*1+j_) (.v (.bool false)))),.a (aC:(((M.take x).map λc=>c.take (k+1)).length+1)*24<=140737488355328),iz ((x:Int)+1) aC]<|.e (af [.b 7 (zT rfl rfl (λj hj=>by obtain rfl:j=0:= aC;rfl) (N6 _ M [] aC):Bx.le (.row true 26 (((M.take x).map λc=>c.take (k+1)).length+1) 1 (λi_ j_=>if i_<((M.take x).map λc=>c.take (k+1)).length then(mE ((M.take x).map λc=>c.take (k+1))) i_ j_ else(E.kG (.sl true 1 1 λi_ j_=>[ib ((M.getD x []).take (k+1))].getD (i_*1+j_) (.v (.bool false)))) (i_-((M.take x).map λc=>c.take (k+1)).length) j_)) (.row true 26 (((M.take (x+1)).map λc=>c.take (k+1)).length) 1 (mE ((M.take (x+1)).map λc=>c.take (k+1)))))])) aF)
  (λhx=>by
    exact iF (af [tF 15 ((n:Int)<n) aC]) aF) aI:jA 3 f188 (Vu s n M k 0) (.exit 0) ⟨43,true,[(7,.own 7),(3,.box 3 0),(2,.e (iP k))],[(7,.row true 26 (((M.take n).map λc=>c.take (k+1)).length) 1 (mE ((M.take n).map λc=>c.take (k+1)))),(3,.cells 28 [iP s.tape.im,kU s.tape.gZ,kT s.tape.iu,iP s.iy,ib s.params])]⟩) (af [.b 7 (V8 aH rfl:Bx.le (.row true 26 0 1 (mE [])) (.row true 26 (((M.take 0).map λc=>c.take (k+1)).length) 1 (mE ((M.take 0).map λc=>c.take (k+1)))))]),.s (Sp.jC (Vv s n M k) 0 s.params.length aC (λx hx k0=>by
    have vp:=(h.params x aC).1;have Cn:((M.map λc=>c.take (k+1))++(s.params.take x).map λa=>oc a k).length<=16:=by rw[cg,ck,ck,b9];omega
    exact iF (ae [tT 32 ((x:Int)<s.params.length) aC,iX (x:Int) (s.params.length) aC,.c (Yq (s.params.getD x ia) aD k aC),.a (aC:(((M.map λc=>c.take (k+1))++(s.params.take x).map λa=>oc a k).length+1)*24<=140737488355328),iz ((x:Int)+1) aC]<|.e (af [.b 7 (zT rfl rfl (λj hj=>by obtain rfl:j=0:= aC;rfl) (by rw[N6 (λa=>oc a k) s.params ia aC,aos]):Bx.le (.row true 26 (((M.map λc=>c.take (k+1))++(s.params.take x).map λa=>oc a k).length+1) 1 (λi_ j_=>if i_<((M.map λc=>c.take (k+1))++(s.params.take x).map λa=>oc a k).length then(mE ((M.map λc=>c.take (k+1))++(s.params.take x).map λa=>oc a k)) i_ j_ else(E.kG (.sl true 1 1 λi_ j_=>[ib (oc (s.params.getD x ia) k)].getD (i_*1+j_) (.v (.bool false)))) (i_-((M.map λc=>c.take (k+1))++(s.params.take x).map λa=>oc a k).length) j_)) (.row true 26 (((M.map λc=>c.take (k+1))++(s.params.take (x+1)).map λa=>oc a k).length) 1 (mE ((M.map λc=>c.take (k+1))++(s.params.take (x+1)).map λa=>oc a k))))])) aF)
  (λhx=>by
    exact iF (ae [tF 32 ((s.params.length:Int)<s.params.length) aC,.z 7]<|.e (af [.o 7 (.e (V9 rfl):aj (.sl true (((M.map λc=>c.take (k+1))++(s.params.take s.params.length).map λa=>oc a k).length) 1 (mE ((M.map λc=>c.take (k+1))++(s.params.take s.params.length).map λa=>oc a k))) (kN ((M.map λc=>c.take (k+1))++(s.params.take s.params.length).map λa=>oc a k)))])) aF) aI:jA 8 f188 (Vv s n M k 0) (.exit 2) ⟨43,true,[(7,.e (kN ((M.map λc=>c.take (k+1))++(s.params.take s.params.length).map λa=>oc a k)))],[]⟩) (af [.b 7 (Bx.le.iT (by rw[hn,eV];simp):Bx.le (.row true 26 (((M.take n).map λc=>c.take (k+1)).length) 1 (mE ((M.take n).map λc=>c.take (k+1)))) (.row true 26 (((M.map λc=>c.take (k+1))++(s.params.take 0).map λa=>oc a k).length) 1 (mE ((M.map λc=>c.take (k+1))++(s.params.take 0).map λa=>oc a k))))])]<|rQ (kN ((M.map λc=>c.take (k+1))++(s.params.take s.params.length).map λa=>oc a k)) (kN (qR s M k)) (by unfold qR;rw[eV])) 
def uj(s:jc)(x:List Iv)(p:Nat):∀ n,(iU s x p n).length=x.length
 | 0=>by simp[iU]
 |n+1=>by simp[iU]
def Vy(s:jc)(x:List Iv)(p n i:Nat):(nT s x p n i).length=x.length:=by simp[nT]
def J1{s:jc}{x:List Iv}{p n i q:Nat}(h:q<x.length):(nT s x p n i).getD q []=(iU s x p n).getD q []++(if q<i then[CZ s (iU s x p n) p n q]else[]):=by
 simp[nT,bh,h]
def ag5(s:jc)(x:List Iv)(p n:Nat):nT s x p n 0=iU s x p n:=by
 have hl:=uj s x p n;apply fZ (by rw[Vy,hl]);intro q h1 h2;have h3:q<x.length:=by rw[Vy]at h1;exact h1
 have e:=J1 (s:=s) (p:=p) (n:=n) (i:=0) h3;rw[aZ (bj q),fS]at e;rw[bh,bu h1,bh,bu h2]at e;exact e
def ag3(s:jc)(x:List Iv)(p n:Nat):nT s x p n x.length=iU s x p (n+1):=by
 unfold nT;show _=(List.range x.length).map λi=>(iU s x p n).getD i []++[CZ s (iU s x p n) p n i]
 exact eH λq hq=>by rw[a6 (bS.1 hq)]
def Em{s:jc}(h:kz s){x:List Iv}(hx:jh s.iy x){p:Nat}(il:8<=p)(ig:p<=512):∀ n,n<=16->vI (n+1) (iU s x p n)
 | 0,_=>λi hi=>by
  have mC:i<x.length:=by rw[uj]at hi;exact hi
  have e:(iU s x p 0).getD i []=[x.getD i ia]:=by simp[iU,bh,mC]
  rw[e];exact⟨rfl,mu.push mu.nil (hx.ok i mC).1⟩
 |n+1,hn=>λi hi=>by
  have mC:i<x.length:=by rw[uj]at hi;exact hi
  have e:(iU s x p (n+1)).getD i []=(iU s x p n).getD i []++[CZ s (iU s x p n) p n i]:=by simp[iU,bh,mC]
  have hs:=Em h hx il ig n aC i (by rw[uj];exact mC);rw[e];refine⟨by rw[cg,hs.len];rfl,hs.ok.push ?_⟩;unfold CZ;exact qI _ _ aC aC 
def agw{s:jc}(h:kz s){M:List (List Iv)}{n:Nat}(hM:vI (n+1) M)(hl:M.length=s.iy):vI (n+1) (qR s M n)/\(qR s M n).length=s.tape.im:=by
 refine⟨λi hi=>?_,by unfold qR;rw[cg,ck,ck,h.im,hl]⟩;unfold qR at hi ⊢;rw[cg,ck,ck]at hi;rw[bh,dM,ck];split
 .rename_i h1;rw[b6,bu h1];have:=hM i h1;rw[bh,bu h1]at this;show kI (n+1) ((M[i]).take (n+1));rw[cH (by have:=this.len;simp at this;omega)];exact this
 .rename_i h1;have h2:i-M.length<s.params.length:= aC ;rw[b6,bu h2];have:=(h.params _ h2).1;rw[bh,bu h2]at this;exact RX this n
def akB{T1 T0 n x:Nat}{M M':List (List Iv)}{y:Iv}(h:∀ q,q<n->M'.getD q []=if q=x then M.getD q []++[y]else M.getD q []):
 Bx.le (.jH true T1 T0 n 7 (λq=>if q=x then ni M q+[y].length else ni M q) (λq i j=>if q=x then(if i<ni M q then oI M q i j else(E.kG (ib [y])) (i-ni M q) j)else oI M q i j) none)
  (.jH true T1 T0 n 7 (ni M') (oI M') none):=by
 refine .jH rfl (λq hq=>?_) (λq i j hq hi hj=>⟨.iT ?_,tI _ _ hj⟩)
 .simp only[ni,h q hq];split
  .rw [cg]
  .rfl
 .simp only[oI,ni,h q hq]at hi ⊢;by_cases e:q=x
  .rw [a6 e]at hi;rw[a6 e,a6 e];by_cases iB:i<(M.getD q []).length
   .rw [a6 iB];congr 2;simp only[bh]at iB ⊢;rw[dN iB]
   .rw [aZ iB];have D0:i=(M.getD q []).length:=by
     rw[fO]at hi;omega
    subst D0;rw[dp];show(iJ y).getD j .any=_;congr 2;simp[bh]
  .rw [aZ e,aZ e]
def agM(y:Iv)(j:Nat)(hj:j<7):(iJ y).getD (0*7+j) (.v (.bool false))=(iJ y).getD j .any:=by
 rcases j with _|_|_|_|_|_|_|j
 all_goals first|rfl|omega
def akA{T1 T0 x:Nat}{X:List Iv}{e:Nat->Nat->E}(hx:x<X.length)(he:∀ j,j<7->e 0 j=(iJ (X.getD x ia)).getD j .any):
 Bx.le (.jH true T1 T0 (x+1) 7 (λk=>if k<x then ni (X.map λy=>[y]) k else 1) (λk=>if k<x then oI (X.map λy=>[y]) k else e) none) (.jH true T1 T0 (x+1) 7 (ni (X.map λy=>[y])) (oI (X.map λy=>[y])) none):=by
 have e0:(X.map λy=>[y]).getD x []=[X.getD x ia]:=by simp[bh,hx]
 refine .jH rfl (λk hk=>?_) (λk i j hk hi hj=>⟨.iT ?_,tI _ _ hj⟩)
 .by_cases h:k<x
  .rw [a6 h]
  .obtain rfl:k=x:= aC ;rw[aZ h];simp only[ni,e0];rfl
 .by_cases h:k<x
  .rw [a6 h]
  .obtain rfl:k=x:= aC ;simp only[h,bn]at hi ⊢;obtain rfl:i=0:= aC ;rw[he j hj];simp only[oI,e0];rfl
def ag4{s:jc}{x:List Iv}{p n i:Nat}(q:Nat)(hq:q<x.length):(nT s x p n (i+1)).getD q []=if q=i then(nT s x p n i).getD q []++[CZ s (iU s x p n) p n q]else(nT s x p n i).getD q []:=by
 rw[J1 hq,J1 hq];by_cases h:q=i
 .subst h;rw[a6 rfl,a6 (ew _),aZ (gl _),fS]
 .rw [aZ h];by_cases h2:q<i
  .rw [a6 h2,a6 aC]
  .rw [aZ h2,aZ aC]
def ag6(s:jc)(x:List Iv)(k p:Nat)(h:kz s)(hx:jh s.iy x)(hk:k<=16)(il:8<=p)(ig:p<=512):gW 115 [iV s,ib x,iP k,iP p] (kN (iU s x p k)):=by
 have s4:=h.s4;have lx:=hx.len;exact ak call115 func115 (ae [.y 9 9 true 26 1 (mE []),.s (Sp.jC (Vz s x k p) 0 x.length aC (λw hw af3=>by
    have vx:=hx.ok w aC;exact iF (ae [tT 19 ((w:Int)<x.length) aC,iX (w:Int) (x.length) aC,.bo,.a (aC:0<1),.a (aC:(w+1)*24<=140737488355328),iz ((w:Int)+1) aC]<|.e (af [.b 9 (akA aC λj hj=>agM _ j hj:Bx.le (.jH true 26 39 (w+1) 7 (λk_=>if k_<w then(ni (x.map λy=>[y])) k_ else(λ_=>1) (k_-w)) (λk_=>if k_<w then(oI (x.map λy=>[y])) k_ else(λ_=>λi_ j_=>(iJ (x.getD w ia)).getD (i_*7+j_) (.v (.bool false))) (k_-w)) .none) (.jH true 26 39 (w+1) 7 (ni (x.map λy=>[y])) (oI (x.map λy=>[y])) .none))])) aF)
  (λhw=>by
    exact iF (af [tF 19 ((x.length:Int)<x.length) aC]) aF) aI:jA 3 f115 (Vz s x k p 0) (.exit 0) ⟨72,true,[(9,.own 9),(4,.box 4 0),(2,.e (iP k)),(3,.e (iP p))],[(9,.jH true 26 39 x.length 7 (ni (x.map λy=>[y])) (oI (x.map λy=>[y])) .none),(4,.cells 28 [iP s.tape.im,kU s.tape.gZ,kT s.tape.iu,iP s.iy,ib s.params])]⟩) (af [.b 9 (Bx.le.akz:Bx.le (.row true 26 0 1 (mE [])) (.jH true 26 39 0 7 (ni (x.map λy=>[y])) (oI (x.map λy=>[y])) .none))]),.s (Sp.jC (VA s x k p) 0 k aC (λm hm anW=>by
    have Jv:=Em h hx il ig m aC;have lG:=agw h Jv (by rw[uj,hx.len]);have hfs:=ael (aC:1<=p) (aC:p<=4096) h.tape lG.1 lG.2;have Bc:(rF s.tape (qR s (iU s x p m) m) m p).length=x.length:=by unfold rF;rw[ck,h.iu,hx.len]
    have hwv:=yF (m+1) aC;exact iF (ae [tT 30 ((m:Int)<k) aC,.c (ag0 s x.length m (iU s x p m) h (uj _ _ _ _).symm aC aC (λi hi=>by rw[(Jv i (by rw[uj];exact hi)).len];exact bg _) (λi hi=>by rw[(Jv i (by rw[uj];exact hi)).len];omega):gW 188 [iV s,(.nB false true x.length 1 λk_ _=>.nB true true ((ni (iU s x p m)) k_) 7 ((oI (iU s x p m)) k_)),iP m] _),.c (ag1 s.tape (qR s (iU s x p m) m) m p h.tape lG.1 lG.2 aC il ig),iz ((m:Int)+1) aC,.c (Fi (m+1) aC),.c (ui (iW ((m+1:Nat):Int)) (Ej _ aC)),.s (Sp.jC (VB s x k p m) 0 x.length aC (λw hw af3=>by
    have Ud:=hfs w (by rw[Bc];omega);have anR:=Ud.len;have anS:=Ud.ok m;have Cz:∀ q,q<x.length->(nT s x p m (w+1)).getD q []=if q=w then(nT s x p m w).getD q []++[jv (((rF s.tape (qR s (iU s x p m) m) m p).getD w []).getD m ia) (jY (m+1)) p]else(nT s x p m w).getD q []:=λq hq=>by
     rw[ag4 q hq];by_cases e:q=w
     .subst e;rw[a6 rfl,a6 rfl];rfl
     .rw [aZ e,aZ e]
    have JA:ni (nT s x p m w) w=m+1:=by
     show(List.getD (nT s x p m w) w []).length=m+1;rw[J1 aC,aZ (gl _),fS];exact(Jv w (by rw[uj];omega)).len
    have qy:=oP (jv (((rF s.tape (qR s (iU s x p m) m) m p).getD w []).getD m ia) (jY (m+1)) p);exact iF (ae [tT 48 ((w:Int)<x.length) aC,iX (w:Int) (x.length) aC,.a (aC:w<x.length),iX (w:Int) ((rF s.tape (qR s (iU s x p m) m) m p).length) aC,
     iX (m:Int) (((rF s.tape (qR s (iU s x p m) m) m p).getD w []).length) aC,.c (zL (((rF s.tape (qR s (iU s x p m) m) m p).getD w []).getD m ia) (jY (m+1)) p aD aD aC aC),.o 66 (.e (lh _):aj (.sl true 1 7 λi_ j_=>(iJ (jv (((rF s.tape (qR s (iU s x p m) m) m p).getD w []).getD m ia) (jY (m+1)) p)).getD (i_*7+j_) (.v (.bool false))) (ib [jv (((rF s.tape (qR s (iU s x p m) m) m p).getD w []).getD m ia) (jY (m+1)) p])),.a (aC:w<x.length),.a (aC:((ni (nT s x p m w)) w+[jv (((rF s.tape (qR s (iU s x p m) m) m p).getD w []).getD m ia) (jY (m+1)) p].length)*88<=140737488355328),
     iX (w:Int) (x.length) aC,.a (rfl:w=w),.a (rfl:w=w),.a (aC:w<x.length),iz ((w:Int)+1) aC]<|.e (af [.b 9 (akB (M:=(nT s x p m w)) (M':=(nT s x p m (w+1))) (x:=w) (y:=(jv (((rF s.tape (qR s (iU s x p m) m) m p).getD w []).getD m ia) (jY (m+1)) p)) Cz:Bx.le (.jH true 26 39 x.length 7 (λq=>if q=w then(ni (nT s x p m w)) q+[jv (((rF s.tape (qR s (iU s x p m) m) m p).getD w []).getD m ia) (jY (m+1)) p].length else(ni (nT s x p m w)) q) (λq i j=>if q=w then(if i<(ni (nT s x p m w)) q then(oI (nT s x p m w)) q i j else(E.kG (ib [jv (((rF s.tape (qR s (iU s x p m) m) m p).getD w []).getD m ia) (jY (m+1)) p])) (i-(ni (nT s x p m w)) q) j)else(oI (nT s x p m w)) q i j) .none) (.jH true 26 39 x.length 7 (ni (nT s x p m (w+1))) (oI (nT s x p m (w+1))) .none))])) aF)
  (λhw=>by
    exact iF (af [tF 48 ((x.length:Int)<x.length) aC]) aF) aI:jA 13 f115 (VB s x k p m 0) (.exit 4) ⟨72,true,[(29,.e (iP m)),(28,.e (iP k)),(9,.own 9),(4,.box 4 0),(3,.e (iP p))],[(9,.jH true 26 39 x.length 7 (ni (nT s x p m x.length)) (oI (nT s x p m x.length)) .none),(4,.cells 28 [iP s.tape.im,kU s.tape.gZ,kT s.tape.iu,iP s.iy,ib s.params])]⟩) (af [.b 9 (.iT (by rw[ag5]):Bx.le (.jH true 26 39 x.length 7 (ni (iU s x p m)) (oI (iU s x p m)) .none) (.jH true 26 39 x.length 7 (ni (nT s x p m 0)) (oI (nT s x p m 0)) .none))]),
     iz ((m:Int)+1) aC]<|.e (af [.b 9 (.iT (by rw[ag3]):Bx.le (.jH true 26 39 x.length 7 (ni (nT s x p m x.length)) (oI (nT s x p m x.length)) .none) (.jH true 26 39 x.length 7 (ni (iU s x p (m+1))) (oI (iU s x p (m+1))) .none))])) aF)
  (λhm=>by
    exact iF (af [tF 30 ((k:Int)<k) aC]) aF) aI:jA 8 f115 (VA s x k p 0) (.exit 2) ⟨72,true,[(9,.own 9)],[(9,.jH true 26 39 x.length 7 (ni (iU s x p k)) (oI (iU s x p k)) .none)]⟩) (af [.b 9 (.iT rfl:Bx.le (.jH true 26 39 x.length 7 (ni (x.map λy=>[y])) (oI (x.map λy=>[y])) .none) (.jH true 26 39 x.length 7 (ni (iU s x p 0)) (oI (iU s x p 0)) .none))])]<|rR (kN (iU s x p k)) (ahP (uj _ _ _ _).symm:E.le (.sl true x.length 1 λk_ _=>.sl true ((ni (iU s x p k)) k_) 7 ((oI (iU s x p k)) k_)) (kN (iU s x p k)))) 
def ag2(s:jc)(x:List Iv)(p:Nat)(h:kz s)(hx:jh s.iy x)(il:8<=p)(ig:p<=512):gW 114 [iV s,ib x,iP p] (bP true):=by
 have s1:=h.s1;have s4:=h.s4;have lx:=hx.len;exact ak call114 func114 (af [.c (EX s aD),.c (yS x aC aC hx.ok),ah 18 ((x.length:Int)==s.iy) (aV aC),tT 22 (8<=(p:Int)) aC,tT 26 ((p:Int)<=512) aC]) 
def LS(s:jc)(x:List Iv)(k p:Nat)(h:kz s)(hx:jh s.iy x)(il:8<=p)(ig:p<=512)(hk:k<=16):gW 41 [iV s,ib x,iP k,iP p] (.ix [kN (iU s x p k),iP 0]):=by
 have s1:=h.s1;have s4:=h.s4;have lx:=hx.len;exact ak call41 func41 (af [.c (ag2 s x p h hx il ig),tF 16 ((k:Int)<0) aC,tF 19 (16<(k:Int)) aC,.c (ag6 s x k p h hx hk il ig)]) 
def Sy(s:jc)(x:List Iv)(d:Dy)(p:Nat)(k:Nat):PS:=⟨55,true,[(22,.e (iP k)),(10,.pC 121 [.box 5,.box 4,.box 6,.box 7]),(7,.box 7 0),(6,.box 6 0),(5,.box 5 0),(4,.box 4 0)],[(7,.cells 3 [iP p]),(6,.cells 31 (jq d)),(5,.cells 26 [ib x]),(4,.cells 28 [iP s.tape.im,kU s.tape.gZ,kT s.tape.iu,iP s.iy,ib s.params])]⟩
noncomputable def SB(s:jc)(x:List Iv)(d:Dy)(p:Nat)(N:Nat)(j:Nat):PS:=⟨55,true,[(36,.e (iP j)),(14,.e (ib (lK s x d p j))),(7,.box 7 0),(6,.box 6 0),(5,.box 5 0),(4,.box 4 0)],[(7,.cells 3 [iP p]),(6,.cells 31 (jq d)),(5,.cells 26 [ib x]),(4,.cells 28 [iP s.tape.im,kU s.tape.gZ,kT s.tape.iu,iP s.iy,ib s.params])]⟩
def adH(s:jc)(x:List Iv)(d:Dy)(p:Nat)(h:kz s)(hx:jh s.iy x)(hd:d.ij)(h0:0<d.iM)(il:8<=p)(ig:p<=512)(je:∀ k:Nat,k<24->qH s x d p ((k:Int)-20)=false)(N:Nat)(mQ:N<10)(ub:∀ j,j<=N->jh s.iy (lK s x d p j))(hw:∀ j,j<N->lO s x d (lK s x d p j) p≠[]/\rJ s x d (lO s x d (lK s x d p j) p) p=false)(jl:lO s x d (lK s x d p N) p≠[])(hN:rJ s x d (lO s x d (lK s x d p N) p) p=true):gW 43 [iV s,ib x,ie d,iP p] (.ix [ib (lO s x d (lK s x d p N) p),iP 0]):=by
 have hbN:=ub N (bg _);have kK:=Dl hx (aC:1<=p) (aC:p<=4096) jl;exact ak call43 func43 (af [.c (Cb s x d p h hx hd h0 il ig),.s (Sp.jC (Sy s x d p) 0 24 aC (λk hk D7=>by
    exact iF (af [tT 23 ((k:Int)<24) aC,iz ((k:Int)-20) aC,ag [iP ((k:Int)-20),(.iQ 1 λj_=>[ib x].getD j_ .any),(.iQ 5 λj_=>[iP s.tape.im,kU s.tape.gZ,kT s.tape.iu,iP s.iy,ib s.params].getD j_ .any),(.iQ 3 λj_=>[bP d.neg,ic (gY d.m),iP d.e].getD j_ .any),(.iQ 1 λj_=>[iP p].getD j_ .any)] (Fg _ _ _ _ h hx hd h0 il ig _ aC aC),ai 31 (qH s x d p ((k:Int)-20)) (je k aC),iz ((k:Int)+1) aC]) aF)
  (λhk=>by
    exact iF (af [ai 23 (decide ((24:Int)<24)) aE]) aF) aI:jA 5 Tryz.f43 (Sy s x d p 0) (.exit 0) ⟨55,true,[(7,.box 7 0),(6,.box 6 0),(5,.box 5 0),(4,.box 4 0)],[(7,.cells 3 [iP p]),(6,.cells 31 (jq d)),(5,.cells 26 [ib x]),(4,.cells 28 [iP s.tape.im,kU s.tape.gZ,kT s.tape.iu,iP s.iy,ib s.params])]⟩) .nil,.s (Sp.jC (SB s x d p N) 0 N aC (λj hj Ur=>by
    have y6:=ub j aC;obtain⟨jl,Gb⟩:=hw j aC;have kK:=Dl hx (aC:1<=p) (aC:p<=4096) jl;exact iF (ae [tT 37 ((j:Int)<10) aC,.c (H8 s x d (lK s x d p j) p h hx hd h0 y6 il ig),ai 46 (((lO s x d (lK s x d p j) p).length:Int)==0) (yg jl),.c (Cs s x d (lO s x d (lK s x d p j) p) p h hx hd h0 kK il ig),ai 52 (rJ s x d (lO s x d (lK s x d p j) p) p) Gb,iz ((j:Int)+1) aC]<|.e (af [.o 14 (.e (.iT rfl):aj (ib (lO s x d (lK s x d p j) p)) (ib (lK s x d p (j+1))))])) aF)
  (λhj=>by
    have y6:=ub N (bg _);have kK:=Dl hx (aC:1<=p) (aC:p<=4096) jl;exact iF (af [tT 37 ((N:Int)<10) aC,.c (H8 s x d (lK s x d p N) p h hx hd h0 y6 il ig),ai 46 (((lO s x d (lK s x d p N) p).length:Int)==0) (yg jl),.c (Cs s x d (lO s x d (lK s x d p N) p) p h hx hd h0 kK il ig),ah 52 (rJ s x d (lO s x d (lK s x d p N) p) p) hN]) aF) aI:jA 13 Tryz.f43 (SB s x d p N 0) .ret ⟨55,true,[(9,.e (iP 0)),(8,.e (ib (lO s x d (lK s x d p N) p)))],[]⟩) (af [.o 14 (.e (.iT rfl):aj (ib x) (ib (lK s x d p 0)))])]) 
def SC:Option (List Iv)->E
 |some b=>.ix [ib b,iP 0]
 |none=>.ix [.v (.slice none 0 0),iP 12]
def SD(s:jc)(x:List Iv)(d:Dy)(p:Nat)(h:kz s)(hx:jh s.iy x)(hd:d.ij)(h0:0<d.iM)(il:8<=p)(ig:p<=512):∃ o,gW 43 [iV s,ib x,ie d,iP p] (SC o)/\(∀ b,o=some b->jh s.iy b/\rJ s x d b p=true)/\(o=none->∀ k:Nat,k<24->qH s x d p ((k:Int)-20)=false):=by
 have p1:1<=p:= aC ;have p2:p<=4096:= aC ;by_cases ha:∃ N:Nat,N<24/\qH s x d p ((N:Int)-20)=true
 .obtain ⟨N,n1,n2,n3⟩:=rh (p:=λN=>qH s x d p ((N:Int)-20)) ha;refine⟨some _,SE s x d p h hx hd h0 il ig N n1 (λk hk=>n3 k hk) n2,λb hb=>?_,λq=>by cases q⟩;cases hb;have n4:=n2;unfold qH at n4;rw[bF]at n4;exact⟨FV hx (Hv (k:=(N:Int)-20) aC aC) (KQ (Hu _)) n4.1,n4.2⟩
 .have je:∀ k:Nat,k<24->qH s x d p ((k:Int)-20)=false:=λk hk=>by
   cases hc:qH s x d p ((k:Int)-20)with
   |false=>rfl
   |true=>exact absurd ⟨k,hk,hc⟩ ha
  have ub:∀ N,(∀ j,j<N->lO s x d (lK s x d p j) p≠[])->∀ j,j<=N->jh s.iy (lK s x d p j):=λN jl j hj=>by
   rcases j with _|j
   .exact hx
   .exact Dl hx p1 p2 (jl j aC)
  by_cases qw:∃ N:Nat,N<10/\decide (lO s x d (lK s x d p N) p=[]\/rJ s x d (lO s x d (lK s x d p N) p) p=true)=true
  .obtain ⟨N,n1,n2,n3⟩:=rh qw;have hw:∀ j,j<N->lO s x d (lK s x d p j) p≠[]/\rJ s x d (lO s x d (lK s x d p j) p) p=false:=λj hj=>by
    have:=eE (n3 j hj);exact⟨λq=>this (.inl q),aW λq=>this (.inr q)⟩
   have hb:=ub N λj hj=>(hw j hj).1
   by_cases he:lO s x d (lK s x d p N) p=[]
   .exact ⟨none,adI s x d p h hx hd h0 il ig je N n1 hb hw he,(λb q=>by cases q),λ_=>je⟩
   .have hN:=(cB n2).resolve_left he;refine⟨some _,adH s x d p h hx hd h0 il ig je N n1 hb hw he hN,λb q=>?_,λq=>by cases q⟩;cases q;exact⟨Dl hx p1 p2 he,hN⟩
  .have hw:∀ j,j<10->lO s x d (lK s x d p j) p≠[]/\rJ s x d (lO s x d (lK s x d p j) p) p=false:=λj hj=>
    ⟨λq=>qw ⟨j,hj,a7 (.inl q)⟩,aW λq=>qw ⟨j,hj,a7 (.inr q)⟩⟩
   exact⟨none,adG s x d p h hx hd h0 il ig je (ub 10 λj hj=>(hw j hj).1) hw,(λb q=>by cases q),λ_=>je⟩
noncomputable def mL(s:jc)(tube:List Iv)(t:Iv)(k p:Nat):List Iv:=kR (λi=>iD (((iU s tube p (k+1)).getD i []).getD (k+1) ia) (kZ t (k+1) p) p) tube.length
noncomputable def om(s:jc)(x tube:List Iv)(t:Iv)(k p:Nat):List Iv:=kR (λi=>jf (np ((iU s x p k).getD i []) t p) ((mL s tube t k p).getD i ia) p) x.length
def oJ:jc:=⟨⟨1,[],[0]⟩,1,[]⟩
def Ty:om oJ [⟨j8 1 0,j8 1 0,false⟩] [⟨j8 2 (-1),j8 3 (-1),false⟩] ⟨j8 1 (-2),j8 1 (-2),false⟩ 1 24=[⟨j8 82 (-6),j8 83 (-6),false⟩]:=by
 unfold om;show[_]=[_]
 congr 1
abbrev gX:List Iv:=[⟨j8 1 0,j8 1 0,false⟩]
abbrev gH:Dy:=j8 1 (-6)
def MB:qH oJ gX gH 53 (-5)=true:= aL 
def afs:∀ k:Nat,k<15->qH oJ gX gH 53 ((k:Int)-20)=false:= aL 
noncomputable def oV(s:jc)(x:List Iv)(d:Dy)(b:List Iv)(p:Nat):Nat->List Iv
 | 0=>b
 |k+1=>kS s x d (oV s x d b p k) p
noncomputable abbrev gT:List Iv:=oV oJ gX gH (qJ gX (oj (-5))) 53 4
def TB:∀ k,k<=4->(oV oJ gX gH (qJ gX (oj (-5))) 53 k).length=1:= aL 
def yj(x y:Iv):Bool:=decide (jj (ja x.lo y.lo) (jd x.hi y.hi)<=0)
def oO(x y:Iv):Iv:=⟨ja x.lo y.lo,jd x.hi y.hi,false⟩
def ahX{x y:Iv}(h:yj x y=true):¬0<jj (ja x.lo y.lo) (jd x.hi y.hi):=by have:=cB h;omega
def ahW{x y:Iv}(h:yj x y=false):0<jj (ja x.lo y.lo) (jd x.hi y.hi):=by have:=eE h;omega
def ahY{x y:Iv}(hx:x.ij)(hy:y.ij)(xa:x.all=false)(ya:y.all=false)(h:yj x y=true):(oO x y).ij:=by
 obtain⟨w1,w2⟩:=hx.jW;obtain⟨w3,w4⟩:=hy.jW;exact .inr ⟨rfl,sE w1 w3,um w2 w4,cB h⟩
def si(a b:List Iv):List Iv:=(List.range a.length).map λj_=>oO (a.getD j_ ia) (b.getD j_ ia)
def Eu(a b:List Iv):Bool:=(List.range a.length).all λj_=>yj (a.getD j_ ia) (b.getD j_ ia)
def Rn(a b:List Iv)(i:Nat):PS:=⟨39,true,[(6,.own 6),(16,.e (iP i)),(15,.e (iP a.length)),(0,.e (ib a)),(1,.e (ib b))],[(6,.row true 39 i 7 (iK ((List.range i).map (λj_=>oO (a.getD j_ ia) (b.getD j_ ia)))))]⟩
def Rm(a b:List Iv)(N:Nat)(i:Nat):PS:=⟨39,true,[(6,.own 6),(16,.e (iP i)),(15,.e (iP a.length)),(0,.e (ib a)),(1,.e (ib b))],[(6,.row true 39 i 7 (iK ((List.range i).map (λj_=>oO (a.getD j_ ia) (b.getD j_ ia)))))]⟩
noncomputable def Zw(s:jc)(x:List Iv)(d:Dy)(b:List Iv)(n p:Nat)(k:Nat):PS:=⟨45,true,[(32,.e (iP k)),(31,.e (iP n)),(13,.e (ib (oV s x d b p k))),(8,.box 8 0),(6,.box 6 0),(1,.e (ib x)),(5,.e (iP p))],[(8,.cells 31 (jq d)),(6,.cells 28 [iP s.tape.im,kU s.tape.gZ,kT s.tape.iu,iP s.iy,ib s.params])]⟩
noncomputable def Zx(s:jc)(x:List Iv)(d:Dy)(b:List Iv)(n p:Nat)(N:Nat)(k:Nat):PS:=⟨45,true,[(32,.e (iP k)),(31,.e (iP n)),(13,.e (ib (oV s x d b p k))),(8,.box 8 0),(6,.box 6 0),(1,.e (ib x)),(5,.e (iP p))],[(8,.cells 31 (jq d)),(6,.cells 28 [iP s.tape.im,kU s.tape.gZ,kT s.tape.iu,iP s.iy,ib s.params])]⟩
def Wj(x y:Iv)(hx:x.ij)(hy:y.ij)(xa:x.all=false)(ya:y.all=false)(hm:yj x y=true):gW 142 [ik x,ik y] (.ix [ik (oO x y),bP true]):=by
 obtain⟨w1,w2⟩:=hx.jW;obtain⟨w3,w4⟩:=hy.jW;have w5:=sE w1 w3;have w6:=um w2 w4;exact ak call142 func142 (ae [.c (qd x aD),.c (qd y aD),ai 19 x.all xa,ai 23 y.all ya,.c (El x.lo y.lo aD aD),.c (Ek x.hi y.hi aD aD),ag [ie (ja x.lo y.lo),ie (jd x.hi y.hi)] (nF _ _ aD aD),tF 41 (0<(jj (ja x.lo y.lo) (jd x.hi y.hi))) (ahX hm)]<|rR (.ix [ik (oO x y),bP true]) (.iT rfl:E.le (.ix [ik (Iv.mk (ja x.lo y.lo) (jd x.hi y.hi) false),bP true]) (.ix [ik (oO x y),bP true]))) 
def Zq:tf au (iJ Aj):=by
 have e1:E.le (.v (.slice none 0 0)) (ic (gY 0)):=by rw[oB];exact .nil _ _ _
 exact .cons (.refl _) (.cons e1 (.cons (.refl _) (.cons (.refl _) (.cons e1 (.cons (.refl _) (.cons (.refl _) .nil))))))
def ahZ(x y:Iv)(hx:x.ij)(hy:y.ij)(xa:x.all=false)(ya:y.all=false)(hm:yj x y=false):gW 142 [ik x,ik y] (.ix [ik Aj,bP false]):=by
 obtain⟨w1,w2⟩:=hx.jW;obtain⟨w3,w4⟩:=hy.jW;have w5:=sE w1 w3;have w6:=um w2 w4;exact ak call142 func142 (ae [.c (qd x aD),.c (qd y aD),ai 19 x.all xa,ai 23 y.all ya,.c (El x.lo y.lo aD aD),.c (Ek x.hi y.hi aD aD),ag [ie (ja x.lo y.lo),ie (jd x.hi y.hi)] (nF _ _ aD aD),tT 41 (0<(jj (ja x.lo y.lo) (jd x.hi y.hi))) (ahW hm)]<|rR (.ix [ik Aj,bP false]) (.ix (.cons (.agg Zq) (.cons (.refl _) .nil)):E.le (.ix [.agg au,bP false]) (.ix [ik Aj,bP false]))) 
def abG(a b:List Iv)(a1:1<=a.length)(a8:a.length<=8)(hl:b.length=a.length)(ha:pq a)(hb:pq b)(je:∀ i,i<a.length->yj (a.getD i ia) (b.getD i ia)=true):gW 65 [ib a,ib b] (.ix [ib (si a b),bP true]):=
 ak call65 func65 (ae [.c (IH a b aC aC aC aD aD),.y 6 6 true 39 7 (iK ((List.range 0).map (λj_=>oO (a.getD j_ ia) (b.getD j_ ia)))),.s (Sp.jC (Rn a b) 0 a.length aC (λi hi nQ=>by
    obtain⟨v1,v2⟩:=ha i aC;obtain⟨v3,v4⟩:=hb i aC;have v5:=je i aC;have qy:=oP (oO (a.getD i ia) (b.getD i ia));exact iF (ae [tT 17 ((i:Int)<a.length) aC,iX (i:Int) (a.length) aC,iX (i:Int) (b.length) aC,.c (Wj (a.getD i ia) (b.getD i ia) aD aD aD aD aD),.o 35 (.e (lh _):aj (.sl true 1 7 λi_ j_=>(iJ (oO (a.getD i ia) (b.getD i ia))).getD (i_*7+j_) (.v (.bool false))) (ib [oO (a.getD i ia) (b.getD i ia)])),.a (aC:(i+[oO (a.getD i ia) (b.getD i ia)].length)*88<=140737488355328),iz ((i:Int)+1) aC]<|.e (af [.b 6 (wj rfl rfl rfl:Bx.le (.row true 39 (i+[oO (a.getD i ia) (b.getD i ia)].length) 7 (λi_ j_=>if i_<i then(iK ((List.range i).map (λj_=>oO (a.getD j_ ia) (b.getD j_ ia)))) i_ j_ else(E.kG (ib [oO (a.getD i ia) (b.getD i ia)])) (i_-i) j_)) (.row true 39 (i+1) 7 (iK ((List.range (i+1)).map (λj_=>oO (a.getD j_ ia) (b.getD j_ ia))))))])) aF)
  (λhi=>by
    exact iF (ae [tF 17 ((a.length:Int)<a.length) aC,.z 6]<|.e (af [.o 6 (.e (xZ aH):aj (.sl true a.length 7 (iK ((List.range a.length).map (λj_=>oO (a.getD j_ ia) (b.getD j_ ia))))) (ib ((List.range a.length).map (λj_=>oO (a.getD j_ ia) (b.getD j_ ia)))))])) aF) aI:jA 5 Tryz.f65 (Rn a b 0) (.exit 0) ⟨39,true,[(6,.e (ib ((List.range a.length).map (λj_=>oO (a.getD j_ ia) (b.getD j_ ia)))))],[]⟩) .nil]<|rR (.ix [ib (si a b),bP true]) (.iT rfl:E.le (.ix [ib ((List.range a.length).map (λj_=>oO (a.getD j_ ia) (b.getD j_ ia))),bP true]) (.ix [ib (si a b),bP true]))) 
def abE(a b:List Iv)(a1:1<=a.length)(a8:a.length<=8)(hl:b.length=a.length)(ha:pq a)(hb:pq b)(N:Nat)(mQ:N<a.length)(je:∀ i,i<N->yj (a.getD i ia) (b.getD i ia)=true)(hN:yj (a.getD N ia) (b.getD N ia)=false):gW 65 [ib a,ib b] (.ix [.v (.slice none 0 0),bP false]):=
 ak call65 func65 (af [.c (IH a b aC aC aC aD aD),.y 6 6 true 39 7 (iK ((List.range 0).map (λj_=>oO (a.getD j_ ia) (b.getD j_ ia)))),.s (Sp.jC (Rm a b N) 0 N aC (λi hi nQ=>by
    obtain⟨v1,v2⟩:=ha i aC;obtain⟨v3,v4⟩:=hb i aC;have v5:=je i aC;have qy:=oP (oO (a.getD i ia) (b.getD i ia));exact iF (ae [tT 17 ((i:Int)<a.length) aC,iX (i:Int) (a.length) aC,iX (i:Int) (b.length) aC,.c (Wj (a.getD i ia) (b.getD i ia) aD aD aD aD aD),.o 35 (.e (lh _):aj (.sl true 1 7 λi_ j_=>(iJ (oO (a.getD i ia) (b.getD i ia))).getD (i_*7+j_) (.v (.bool false))) (ib [oO (a.getD i ia) (b.getD i ia)])),.a (aC:(i+[oO (a.getD i ia) (b.getD i ia)].length)*88<=140737488355328),iz ((i:Int)+1) aC]<|.e (af [.b 6 (wj rfl rfl rfl:Bx.le (.row true 39 (i+[oO (a.getD i ia) (b.getD i ia)].length) 7 (λi_ j_=>if i_<i then(iK ((List.range i).map (λj_=>oO (a.getD j_ ia) (b.getD j_ ia)))) i_ j_ else(E.kG (ib [oO (a.getD i ia) (b.getD i ia)])) (i_-i) j_)) (.row true 39 (i+1) 7 (iK ((List.range (i+1)).map (λj_=>oO (a.getD j_ ia) (b.getD j_ ia))))))])) aF)
  (λhi=>by
    obtain⟨v1,v2⟩:=ha N aC;obtain⟨v3,v4⟩:=hb N aC;exact iF (af [tT 17 ((N:Int)<a.length) aC,iX (N:Int) (a.length) aC,iX (N:Int) (b.length) aC,.c (ahZ (a.getD N ia) (b.getD N ia) aD aD aD aD aD)]) aF) aI:jA 5 Tryz.f65 (Rm a b N 0) .ret ⟨39,true,[(5,.e (bP false)),(4,.e (.v (.slice none 0 0)))],[]⟩) .nil]) 
def Ob(a b:List Iv):E:=if Eu a b then .ix [ib (si a b),bP true]else .ix [.v (.slice none 0 0),bP false]
def abF(a b:List Iv)(a1:1<=a.length)(a8:a.length<=8)(hl:b.length=a.length)(ha:pq a)(hb:pq b):gW 65 [ib a,ib b] (Ob a b):=by
 unfold Ob;cases hm:Eu a b with
 |true=>exact abG a b a1 a8 hl ha hb λi hi=>bM.1 hm i (bS.2 hi)
 |false=>
  obtain⟨i,hi,hn⟩:=aok.1 hm;obtain⟨N,h1,h2,h3⟩:=rh (p:=λi=>!(yj (a.getD i ia) (b.getD i ia))) ⟨i,bS.1 hi,by simpa using hn⟩;exact abE a b a1 a8 hl ha hb N h1 (λi hi=>by simpa using h3 i hi) (by simpa using h2)
def Wi{n:Nat}{a b:List Iv}(ha:jh n a)(hb:jh n b)(h:Eu a b=true):jh n (si a b):=by
 refine⟨by simp[si,ha.len],λi hi=>?_⟩;have mC:i<a.length:=by simpa[si]using hi
 have e:(si a b).getD i ia=oO (a.getD i ia) (b.getD i ia):=getD_map mC;rw[e];obtain⟨x1,x2⟩:=ha.ok i mC;obtain⟨y1,y2⟩:=hb.ok i (by rw[hb.len,<-ha.len];exact mC);exact⟨ahY x1 y1 x2 y2 (bM.1 h i (bS.2 mC)),rfl⟩
def aiT{P:Program}{K:World->Prop}{f:FuncId}{args:List E}{nl:Bool}{T:TypeId}{n sz:Nat}{el:Nat->Nat->E}(h:tW P K f args nl T n sz el):PC P K f args (.sl nl n sz el):=
 ⟨h.call,λw B vs hK hB hr=>(h.run w B vs hK hB hr).mono λe w' ⟨v,he,hb,g,lM,tA,xU⟩=>⟨v,he,hb,by
  rcases lM with⟨rfl,rfl⟩|⟨b,c,cur,rfl,hg,oG,nI,mJ,ke,jG⟩
  .exact .sl nl 0 sz el none 0 g (bg _) aE (λ_=>rfl) (λi j hi=>absurd hi (bj i)) (λi j hi=>absurd hi (bj i)) (λi j hi=>absurd hi (bj i)) (λi j hi=>absurd hi (bj i))
  .have oF:=tA b rfl;refine .sl nl n sz el _ c g oG (by unfold maxLen at nI;omega) (λh=>by cases h) (λi j hi hj=>⟨(ke i j hi hj).2,λhn=>jG hn _ (dG (ke i j hi hj).1)⟩) (λi j hi hj=>(xU i j hi hj).2)
    (λi j hi hj=>⟨b,0,rfl,λhB'=>absurd (hB b hB').1 aC,oF.2,?_⟩) (λi j hi hj=>(xU i j hi hj).1.qt (λ_ h=>.inl h) (λ_ h=>h))
   rw[b5];simp only[World.cell?,hg];simpa using(ke i j hi hj).1⟩⟩
def AL(r:List Iv)(h0:0<r.length)(hl:r.length<=1000):gW 63 [ib r] (ib r):=aiT (Fh r h0 hl)
def KZ{s:jc}{x:List Iv}{d:Dy}{b:List Iv}{p:Nat}(hx:jh s.iy x)(hp:1<=p)(ig:p<=4096)(hb:jh s.iy b):∀ k,(∀ j,j<k->oV s x d b p (j+1)≠[])->jh s.iy (oV s x d b p k)
 | 0,_=>hb
 |k+1,h=>JT hx hp ig (h k (ew k))
def amI(s:jc)(x:List Iv)(d:Dy)(b:List Iv)(n p:Nat)(h:kz s)(hx:jh s.iy x)(hd:d.ij)(h0:0<d.iM)(hb:jh s.iy b)(il:8<=p)(ig:p<=512)(hn:n<=100)(hh:rJ s x d b p=true)(jl:∀ k,k<n->(oV s x d b p (k+1))≠[]):gW 94 [iV s,ib x,ie d,ib b,iP n,iP p] (ib (oV s x d b p n)):=by
 have s1:=h.s1;have s4:=h.s4;have Cn:=hb.len;have JJ:p<=4096:= aC ;exact ak call94 func94 (af [tF 15 ((n:Int)<0) aC,tF 18 (100<(n:Int)) aC,.c (by rw[<-hh];exact Cs s x d b p h hx hd h0 hb il ig:gW 123 [iV s,ib x,ie d,ib b,iP p] (bP true)),ag [ib b] (AL _ aC aC),.s (Sp.jC (Zw s x d b n p) 0 n aC (λk hk D7=>by
    have xS:=KZ hx (aC:1<=p) JJ hb k (λj hj=>jl j aC);exact iF (ae [tT 33 ((k:Int)<n) aC,.c (CG s x d (oV s x d b p k) p h hx hd h0 xS il ig),ai 42 (((kS s x d (oV s x d b p k) p).length:Int)==0) (yg (jl k aC)),
     iz ((k:Int)+1) aC]<|.e (af [.o 13 (.e (.iT rfl):aj (ib (kS s x d (oV s x d b p k) p)) (ib (oV s x d b p (k+1))))])) aF)
  (λhk=>by
    exact iF (af [tF 33 ((n:Int)<n) aC]) aF) aI:jA 5 Tryz.f94 (Zw s x d b n p 0) (.exit 0) ⟨45,true,[(13,.e (ib (oV s x d b p n)))],[]⟩) (af [.o 13 (.e (.iT rfl):aj (ib b) (ib (oV s x d b p 0)))])]) 
def amJ(s:jc)(x:List Iv)(d:Dy)(b:List Iv)(n p:Nat)(h:kz s)(hx:jh s.iy x)(hd:d.ij)(h0:0<d.iM)(hb:jh s.iy b)(il:8<=p)(ig:p<=512)(hn:n<=100)(hh:rJ s x d b p=true)(N:Nat)(mQ:N<n)(jl:∀ k,k<N->(oV s x d b p (k+1))≠[])(hN:(oV s x d b p (N+1))=[]):gW 94 [iV s,ib x,ie d,ib b,iP n,iP p] (.v (.slice none 0 0)):=by
 have s1:=h.s1;have s4:=h.s4;have Cn:=hb.len;have JJ:p<=4096:= aC ;exact ak call94 func94 (af [tF 15 ((n:Int)<0) aC,tF 18 (100<(n:Int)) aC,.c (by rw[<-hh];exact Cs s x d b p h hx hd h0 hb il ig:gW 123 [iV s,ib x,ie d,ib b,iP p] (bP true)),ag [ib b] (AL _ aC aC),.s (Sp.jC (Zx s x d b n p N) 0 N aC (λk hk D7=>by
    have xS:=KZ hx (aC:1<=p) JJ hb k (λj hj=>jl j aC);exact iF (ae [tT 33 ((k:Int)<n) aC,.c (CG s x d (oV s x d b p k) p h hx hd h0 xS il ig),ai 42 (((kS s x d (oV s x d b p k) p).length:Int)==0) (yg (jl k aC)),
     iz ((k:Int)+1) aC]<|.e (af [.o 13 (.e (.iT rfl):aj (ib (kS s x d (oV s x d b p k) p)) (ib (oV s x d b p (k+1))))])) aF)
  (λhk=>by
    have xS:=KZ hx (aC:1<=p) JJ hb N (λj hj=>jl j aC);exact iF (af [tT 33 ((N:Int)<n) aC,.c (CG s x d (oV s x d b p N) p h hx hd h0 xS il ig),ah 42 (((kS s x d (oV s x d b p N) p).length:Int)==0) (by rw[show kS s x d (oV s x d b p N) p=[]from hN];rfl)]) aF) aI:jA 5 Tryz.f94 (Zx s x d b n p N 0) .ret ⟨45,true,[(12,.e (.v (.slice none 0 0)))],[]⟩) (af [.o 13 (.e (.iT rfl):aj (ib b) (ib (oV s x d b p 0)))])]) 
noncomputable def qf(s:jc)(x:List Iv)(d:Dy)(b:List Iv)(p:Nat):List Iv:=@ite (List Iv) (∀ k,k<4->oV s x d b p (k+1)≠[]) (Classical.propDecidable _) (oV s x d b p 4) b
def PT{s:jc}{x:List Iv}{d:Dy}{b:List Iv}{p:Nat}(hx:jh s.iy x)(hp:1<=p)(ig:p<=4096)(hb:jh s.iy b):jh s.iy (qf s x d b p):=by
 unfold qf;split
 .rename_i h;exact KZ hx hp ig hb 4 h
 .exact hb
def ZV(z:Iv)(p N:Nat)(x:Nat):PS:=⟨39,true,[(8,.e (iP ((2*x+3:Nat):Int))),(7,.box 7 0),(6,.box 6 0),(5,.box 5 0),(4,.box 4 0),(2,.box 2 0)],[(7,.cells 39 (iJ (vh z p x))),(6,.cells 39 (iJ (oA z p x))),(5,.cells 39 (iJ (oR z p))),(4,.cells 39 au),(2,.cells 272 [iP p])]⟩
def anl(z:Iv)(p N:Nat)(hz:z.ij)(il:8<=p)(ig:p<=512)(h2:N<=1000)(je:∀ x,x<N->po (oA z p x) p=false)(hN:po (oA z p N) p=true):gW 348 [.agg [iP p],ik z] (ik (En z p N)):=by
 have hsq:=KT hz (aC:1<=p) (aC:p<=4096);have t0:=yh hz il ig N;have s0:=CP hz il ig N;have r0:=Dw t0;have a0:=qG s0 r0 (aC:1<=p) (aC:p<=4096);exact ak call348 func348 (ae [ag [ik z,iP p] (Q1 _ aD _ aC aC),.s (Sp.jC (ZV z p N) 0 N aC (λx hx k0=>by
    have t0:=yh hz il ig x;have s0:=CP hz il ig x;have q0:(iD (oA z p x) (oR z p) p).ij:=nV _ _ aC aC;have n1:(jx ((2*x+3:Nat):Int)).ij:=C1 _ aC;have d1:(jv (iD (oA z p x) (oR z p) p) (jx ((2*x+3:Nat):Int)) p).ij:=qI _ _ aC aC;exact iF (ae [.c (La p (oA z p x) aD aC aC),ai 17 (po (oA z p x) p) (je x aC),.c (K9 p (oA z p x) (oR z p) aD aD aC aC),.c (xA ((2*x+3:Nat):Int) aC),.c (HI p (iD (oA z p x) (oR z p) p) (jx ((2*x+3:Nat):Int)) aD aD aC aC),.c (BR p (vh z p x) (jv (iD (oA z p x) (oR z p) p) (jx ((2*x+3:Nat):Int)) p) aD aD aC aC),iz (((2*x+3:Nat):Int)+2) aC]<|.e (af [.o 8 (aq (((2*x+3)+2:Nat):Int) ((2*(x+1)+3:Nat):Int) aO),.b 7 (.iT rfl:Bx.le (.cells 39 (iJ (jf (vh z p x) (jv (iD (oA z p x) (oR z p) p) (jx ((2*x+3:Nat):Int)) p) p))) (.cells 39 (iJ (vh z p (x+1))))),.b 6 (.iT rfl:Bx.le (.cells 39 (iJ (iD (oA z p x) (oR z p) p))) (.cells 39 (iJ (oA z p (x+1)))))])) aF)
  (λhx=>by
    have t0:=yh hz il ig N;have s0:=CP hz il ig N;have q0:(iD (oA z p N) (oR z p) p).ij:=nV _ _ aC aC;have n1:(jx ((2*N+3:Nat):Int)).ij:=C1 _ aC;have d1:(jv (iD (oA z p N) (oR z p) p) (jx ((2*N+3:Nat):Int)) p).ij:=qI _ _ aC aC;exact iF (af [.c (La p (oA z p N) aD aC aC),ah 17 (po (oA z p N) p) hN]) aF) aI:jA 4 f348 (ZV z p N 0) (.exit 0) ⟨39,true,[(7,.box 7 0),(6,.box 6 0),(4,.box 4 0),(2,.box 2 0)],[(7,.cells 39 (iJ (vh z p N))),(6,.cells 39 (iJ (oA z p N))),(4,.cells 39 au),(2,.cells 272 [iP p])]⟩) (af [.o 8 (aq 3 ((2*0+3:Nat):Int) aO),.b 7 (.iT rfl:Bx.le (.cells 39 (iJ z)) (.cells 39 (iJ (vh z p 0)))),.b 6 (.iT rfl:Bx.le (.cells 39 (iJ z)) (.cells 39 (iJ (oA z p 0))))]),ag [ik (oA z p N)] (Z5 _ aD),.c (BR p (vh z p N) (rB (oA z p N)) aD aD aC aC),.c (Ix (jf (vh z p N) (rB (oA z p N)) p) aD 1 aC aC)]<|rR (ik (En z p N)) (.refl _:E.le (ik (mh (jf (vh z p N) (rB (oA z p N)) p) 1)) (ik (En z p N)))) 
def Dp(f:Nat->Rat)(X:Iv):Prop:=∃ N0,∀ M,N0<=M->X.jX (f M)
def Dp.mono{f:Nat->Rat}{X Y:Iv}(h:Dp f X)(k:∀ r,X.jX r->Y.jX r):Dp f Y:=h.imp λ_ h M hM=>k _ (h M hM)
def ZW{z:Iv}(hz:z.ij)(hb:z.all=true\/Sub z (pY (-1))){p:Nat}(il:8<=p)(ig:p<=512):∃ Z,Z.ij/\(∀ r,z.jX r->iY r*2<=1->Dp (λM=>AQ r M*2) Z)/\gW 348 [.agg [iP p],ik z] (ik Z):=by
 obtain⟨N,h1,h2,h3⟩:=ahj hz hb il ig;exact⟨En z p N,ahi hz il ig N,λr hr ha=>⟨N,λM hM=>ahh hz hr ha il ig h1 M hM⟩,anl z p N hz il ig h1 h2 h3⟩
def amK{p:Nat}(il:8<=p)(ig:p<=512):(jv (jx 1) (jx 3) p).ij/\(jv (jx 1) (jx 3) p).jX (1/3)/\Sub (jv (jx 1) (jx 3) p) (pY (-1)):=by
 have v1:(jx 1).ij:=wu aE;have v3:(jx 3).ij:=wu aE;have h1:=Aa 1;have h3:=Aa 3;refine⟨qI _ _ aC aC,?_,?_⟩
 .have:=IS v1 v3 (p:=p) aC aC h1 h3;rwa[show((1:Int):Rat)/((3:Int):Rat)=1/3 from rfl]at this
 .have hs:nM (jx 3)≠0:=PB rfl (.inl (by show 0<(iW 3).q;rw[Bw];decide));refine Fm (IQ v1 v3 rfl hs (p:=p) aC aC) aC aE aE ?_;rintro r ⟨a,b,ha,hb,rfl⟩;obtain⟨a1,a2⟩:=ha.jW rfl;obtain⟨b1,b2⟩:=hb.jW rfl;change (iW 1).q<=a at a1;change a<=(iW 1).q at a2;change (iW 3).q<=b at b1;change b<=(iW 3).q at b2;rw[Bw]at a1 a2 b1 b2;have ea:a=1:=fM a2 a1;have eb:b=3:=fM b2 b1;subst ea eb;have:P2 (-1)=1/2:= aL ;rw[this];exact⟨aL,aL⟩
def anB(p:Nat)(Z:Iv)(hZ:Z.ij)(hL:gW 348 [.agg [iP (((min (p+16) 512):Nat):Int)],ik (jv (jx 1) (jx 3) (min (p+16) 512))] (ik Z))(il:8<=p)(ig:p<=512):gW 350 [iP p] (ik (mg Z p)):=by
 have v1:(jx 1).ij:=wu aE;have v3:(jx 3).ij:=wu aE;exact ak call350 func350 (af [tF 5 ((p:Int)<8) aC,tF 8 (512<(p:Int)) aC,.c (P6 p 16 aC aC),.c (xA 1 aC),.c (xA 3 aC),.c (HI (min (p+16) 512) (jx 1) (jx 3) aD aD aC aC),ag [.agg [iP ((min (p+16) 512:Nat):Int)],ik (jv (jx 1) (jx 3) (min (p+16) 512))] hL,.c (Fj Z aD p aC aC)]) 
def anA{p:Nat}(il:8<=p)(ig:p<=512):∃ Z,Z.ij/\Dp (λM=>AQ (1/3) M*2) Z/\gW 350 [iP (p:Int)] (ik Z):=by
 obtain⟨t1,t2,t3⟩:=amK (p:=min (p+16) 512) aC aC;obtain⟨Z,h1,h2,h3⟩:=ZW t1 (.inr t3) (p:=min (p+16) 512) aC aC;refine⟨mg Z p,EO h1 aC aC,(h2 _ t2 aL).mono λr hr=>Hb h1 aC aC hr,anB p Z h1 h3 il ig⟩
def yH:Iv:=⟨ju,ju,false⟩
def Z9:E.le (.agg au) (ik yH):=
 .agg (.cons (.refl _) (.cons C0 (.cons (.refl _) (.cons (.refl _) (.cons C0 (.cons (.refl _) (.cons (.refl _) .nil)))))))
def anG(d:Dy)(p:Nat)(hd:d.ij)(h1:jj d ⟨false,1,0⟩=0)(il:8<=p)(ig:p<=512):gW 331 [ie d,iP p] (ik yH):=by
 have v1:=EB;exact ak call331 func331 (ae [ag [iP 1] LD,ag [ie d,ie (Dy.mk false 1 0)] (nF _ _ aD aD),ah 12 ((jj d (Dy.mk false 1 0))==0) (by rw[h1];rfl)]<|rR (ik yH) (Z9:E.le (.agg au) (ik yH))) 
def anH(d:Dy)(p:Nat)(Z Y:Iv)(hd:d.ij)(h1:¬jj d ⟨false,1,0⟩=0)(UH:-20000<=d.iw)(sT:d.iw<=20000)(hZ:Z.ij)(hY:Y.ij)(hL:gW 348 [.agg [iP (((min (p+40) 512):Nat):Int)],ik (jv (jf (mh (mg (j9 d) (min (p+40) 512)) (0-(Dy.iw d))) (jx (-1)) (min (p+40) 512)) (jf (mh (mg (j9 d) (min (p+40) 512)) (0-(Dy.iw d))) (jx 1) (min (p+40) 512)) (min (p+40) 512))] (ik Z))(hL2:gW 350 [iP (((min (p+40) 512):Nat):Int)] (ik Y))(il:8<=p)(ig:p<=512):gW 331 [ie d,iP p] (ik (mg (jf Z (iD (jx d.iw) Y (min (p+40) 512)) (min (p+40) 512)) p)):=by
 have v1:=EB;have vp:=s8 hd;have vr:(mg (j9 d) (min (p+40) 512)).ij:=EO vp aC aC;have vs:(mh (mg (j9 d) (min (p+40) 512)) (0-(Dy.iw d))).ij:=Hg vr _;have n1:(jx 1).ij:=wu aE;have n2:(jx (-1)).ij:=wu aE;have a1:(jf (mh (mg (j9 d) (min (p+40) 512)) (0-(Dy.iw d))) (jx (-1)) (min (p+40) 512)).ij:=qG vs n2 aC aC;have a2:(jf (mh (mg (j9 d) (min (p+40) 512)) (0-(Dy.iw d))) (jx 1) (min (p+40) 512)).ij:=qG vs n1 aC aC;have a3:(jv (jf (mh (mg (j9 d) (min (p+40) 512)) (0-(Dy.iw d))) (jx (-1)) (min (p+40) 512)) (jf (mh (mg (j9 d) (min (p+40) 512)) (0-(Dy.iw d))) (jx 1) (min (p+40) 512)) (min (p+40) 512)).ij:=qI _ _ aC aC;have nt:(jx d.iw).ij:=wu aC;have m1:(iD (jx d.iw) Y (min (p+40) 512)).ij:=nV _ _ aC aC;have m2:(jf Z (iD (jx d.iw) Y (min (p+40) 512)) (min (p+40) 512)).ij:=qG hZ m1 aC aC;exact ak call331 func331 (af [ag [iP 1] LD,ag [ie d,ie (Dy.mk false 1 0)] (nF _ _ aD aD),ai 12 ((jj d (Dy.mk false 1 0))==0) (by simpa using h1),.c (P6 p 40 aC aC),ag [ie d] (oo _ aD),.c (ui d aD),.c (Fj (j9 d) aD (min (p+40) 512) aC aC),
  iz (0-(Dy.iw d)) aC,.c (Ix (mg (j9 d) (min (p+40) 512)) aD (0-(Dy.iw d)) aC aC),.c (xA (-1) aC),.c (BR (min (p+40) 512) (mh (mg (j9 d) (min (p+40) 512)) (0-(Dy.iw d))) (jx (-1)) aD aD aC aC),.c (xA 1 aC),.c (BR (min (p+40) 512) (mh (mg (j9 d) (min (p+40) 512)) (0-(Dy.iw d))) (jx 1) aD aD aC aC),.c (HI (min (p+40) 512) (jf (mh (mg (j9 d) (min (p+40) 512)) (0-(Dy.iw d))) (jx (-1)) (min (p+40) 512)) (jf (mh (mg (j9 d) (min (p+40) 512)) (0-(Dy.iw d))) (jx 1) (min (p+40) 512)) aD aD aC aC),ag [.agg [iP ((min (p+40) 512:Nat):Int)],ik (jv (jf (mh (mg (j9 d) (min (p+40) 512)) (0-(Dy.iw d))) (jx (-1)) (min (p+40) 512)) (jf (mh (mg (j9 d) (min (p+40) 512)) (0-(Dy.iw d))) (jx 1) (min (p+40) 512)) (min (p+40) 512))] hL,.c (xA (Dy.iw d) aC),ag [iP ((min (p+40) 512:Nat):Int)] hL2,.c (K9 (min (p+40) 512) (jx (Dy.iw d)) Y aD aD aC aC),.c (BR (min (p+40) 512) Z (iD (jx (Dy.iw d)) Y (min (p+40) 512)) aD aD aC aC),.c (Fj (jf Z (iD (jx (Dy.iw d)) Y (min (p+40) 512)) (min (p+40) 512)) aD p aC aC)]) 
def Z7{d:Dy}(hd:d.ij)(hq:0<d.q){p:Nat}(il:8<=p)(ig:p<=512):∃ Z,Z.ij/\Dp (LQ d) Z/\gW 331 [ie d,iP (p:Int)] (ik Z):=by
 by_cases h1:jj d ⟨false,1,0⟩=0
 .refine ⟨yH,.inr ⟨rfl,rU,rU,CO _⟩,⟨0,λM _=>?_⟩,anG d p hd h1 il ig⟩;have e:d=⟨false,1,0⟩:=by
   refine ai9 hd.canon EB.canon (fM ((pT _ _).1 aC) ((pT _ _).1 ?_));rw[Fu];have:=Fu d ⟨false,1,0⟩;omega
  rw[e,aal];exact .inr ⟨by show ju.q<=0;rw[tN];exact cr,by show 0<=ju.q;rw[tN];exact cr⟩
 .have hm:=EG hq;obtain⟨t1,t2⟩:=ZD hd hm;obtain⟨P,hP⟩:∃ P,P=min (p+40) 512:=⟨_,rfl⟩
  have p1:8<=P:= aC ;have p2:P<=512:= aC ;obtain⟨z1,z2,z3⟩:=ahE hd hq p1 p2;obtain⟨Z,a1,a2,a3⟩:=ZW z1 z3 p1 p2;obtain⟨Y,b1,b2,b3⟩:=anA p1 p2;have m1:(iD (jx d.iw) Y P).ij:=nV _ _ aC aC;have m2:=qG a1 m1 (p:=P) aC aC;refine⟨mg (jf Z (iD (jx d.iw) Y P) P) p,EO m2 aC aC,?_,?_⟩
  .have hz:=P9 hq;have ha:iY (As d)*2<=1:=by
    have:=yO (x:=As d) (b:=1/3) aK aK 
    grind
   obtain⟨N1,c1⟩:=a2 _ z2 ha;obtain⟨N2,c2⟩:=b2;refine⟨max N1 N2,λM hM=>Hb m2 aC aC ?_⟩;exact BT a1 m1 aC aC (c1 M aC) (Oe (wu aC) b1 aC aC (Aa d.iw) (c2 M aC))
  .subst hP;have e:Er d (min (p+40) 512)=jv (jf (mh (mg (j9 d) (min (p+40) 512)) (0-(Dy.iw d))) (jx (-1)) (min (p+40) 512)) (jf (mh (mg (j9 d) (min (p+40) 512)) (0-(Dy.iw d))) (jx 1) (min (p+40) 512)) (min (p+40) 512):=by unfold Er uk;rw[(aC:-d.iw=0-d.iw)]
   rw[e]at a3;exact anH d p Z Y hd h1 aC aC a1 b1 a3 b3 il ig
def anC(x:Iv)(p:Nat)(hx:x.ij)(il:8<=p)(ig:p<=512)(xa:x.all=true):gW 314 [ik x,iP p] (ik ia):=
 ak call314 func314 (af [.c (Dm x p aD aC aC),ai 7 (!x.all) (by rw[xa];rfl),.c nS]) 
def anF(x:Iv)(p:Nat)(hx:x.ij)(il:8<=p)(ig:p<=512)(xa:x.all=false)(h1:x.lo.iM<=0):gW 314 [ik x,iP p] (ik ia):=by
 obtain⟨w1,w2⟩:=hx.jW;exact ak call314 func314 (af [.c (Dm x p aD aC aC),ah 7 (!x.all) (by rw[xa];rfl),ag [ie x.lo] (mT _ aD),tB 13 (a7 h1),.c nS]) 
def anE(x:Iv)(p:Nat)(hx:x.ij)(il:8<=p)(ig:p<=512)(xa:x.all=false)(h1:¬x.lo.iM<=0)(Z1 Z2:Iv)(z1:Z1.ij)(z2:Z2.ij)(k1:gW 331 [ie x.lo,iP (p:Int)] (ik Z1))(k2:gW 331 [ie x.hi,iP (p:Int)] (ik Z2)):gW 314 [ik x,iP p] (ik (uJ Z1 Z2)):=by
 obtain⟨w1,w2⟩:=hx.jW;exact ak call314 func314 (af [.c (Dm x p aD aC aC),ah 7 (!x.all) (by rw[xa];rfl),ag [ie x.lo] (mT _ aD),tB 13 (bc h1),ag [ie x.lo,iP p] k1,ag [ie x.hi,iP p] k2,.c (Z6 Z1 Z2 aD aD)]) 
def anD{x:Iv}(hx:x.ij){p:Nat}(il:8<=p)(ig:p<=512):∃ Z,Z.ij/\gW 314 [ik x,iP (p:Int)] (ik Z):=by
 cases xa:x.all with
 |true=>exact⟨ia,mi,anC x p hx il ig xa⟩
 |false=>
  by_cases h1:x.lo.iM<=0
  .exact ⟨ia,mi,anF x p hx il ig xa h1⟩
  .obtain ⟨w1,w2⟩:=hx.jW;have q1:0<x.lo.q:=(sk _).1.1 aC;have q2:0<x.hi.q:=by have:=hx.q;grind
   obtain⟨Z1,z1,⟨N1,l1⟩,k1⟩:=Z7 w1 q1 il ig;obtain⟨Z2,z2,⟨N2,l2⟩,k2⟩:=Z7 w2 q2 il ig;refine⟨uJ Z1 Z2,SI z1 z2 λa b=>?_,anE x p hx il ig xa h1 Z1 Z2 z1 z2 k1 k2⟩;have e1:=((l1 (max N1 N2) aC).jW a).1;have e2:=((l2 (max N1 N2) aC).jW b).2;have e3:=aak q1 hx.q (max N1 N2);exact bN e1 (bN e3 e2)
def vf(a s:Nat):Prop:=s*s<=a/\a<(s+1)*(s+1)
def XZ(a:Nat):∃ s,vf a s:=by
 induction a with
 |zero=>exact⟨0,aE,aE⟩
 |succ a ih=>
  obtain⟨s,h1,h2⟩:=ih;by_cases h:(s+1)*(s+1)<=a+1
  .refine ⟨s+1,h,?_⟩;have:(s+1+1)*(s+1+1)=(s+1)*(s+1)+2*(s+1)+1:=by
    simp only[bX,bO,bZ,b8];omega
   omega
  .exact ⟨s,aC,aC⟩
def aki{a s t:Nat}(h:vf a s)(ht:t*t<=a):t<=s:=by
 apply bU;intro iB;have:=dA (aC:s+1<=t) (aC:s+1<=t);have:=h.2;omega
def pS(a x:Nat):Nat:=(x+a/x)/2
def ain{a s x:Nat}(h:vf a s)(hx:0<x):s<=pS a x:=by
 unfold pS;apply bU;intro iB;have h1:x+a/x<2*s:=by generalize a/x=q at *;omega
 have h2:a<(a/x+1)*x:=by
  have:=cI a x;have:=bH a hx;rw[bX,bZ,bG (a/x)];omega
 have hq:a/x+1<=2*s-x/\x<=2*s:=by
  generalize a/x=q at *
  omega
 have h3:(a/x+1)*x<=(2*s-x)*x:=bL x hq.1;have an6:=hq.2;have h4:(2*s-x)*x<=s*s:=by
  obtain⟨k,hk⟩:∃ k,2*s=x+k:=⟨2*s-x,by clear h1 h2 h3 iB hq;omega⟩
  rw[show 2*s-x=k by clear h1 h2 h3 iB hq;omega];clear h1 h2 h3 iB hq;rcases Nat.le_total x s with qc|qc
  .obtain ⟨e,rfl⟩:∃ e,s=x+e:=⟨s-x,aC⟩
   obtain rfl:k=x+2*e:= aC ;simp only[bX,bO,bG x e,bC];have:0<=e*e:=bV _;have e1:e*(2*x)=2*(e*x):=dQ e 2 x;omega
  .obtain ⟨e,rfl⟩:∃ e,x=s+e:=⟨x-s,aC⟩
   obtain⟨f,hf⟩:∃ f,s=k+f:=⟨s-k,aC⟩
   obtain rfl:f=e:= aC ;subst hf;simp only[bX,bO,bG f k];have:0<=f*f:=bV _;omega
 have:=h.1;omega
def aim{a s x:Nat}(h:vf a s)(hx:0<x)(hs:s<=x)(hy:x<=pS a x):x=s:=by
 have h1:x<=a/x:=by unfold pS at hy;omega
 have h2:x*x<=a:=(dc hx).1 h1;have:=aki h h2;omega
def kF(a x:Nat):Nat->Nat
 | 0=>x
 |k+1=>pS a (kF a x k)
def akj(a:Nat){s:Nat}(h:vf a s):s<=2^((iq a+1)/2):=by
 apply bU;intro iB;have h1:(2^((iq a+1)/2))*(2^((iq a+1)/2))<=s*s:=dA aC aC;rw[<-bt]at h1;have h2:=sf a;have h3:2^iq a<=2^((iq a+1)/2+(iq a+1)/2):=bK aE aC;have:=h.1;omega
def akh{a x s:Nat}(h:vf a s)(ha:0<a)(hx:s<=x):∃ N,N<=x/\(∀ k,k<N->pS a (kF a x k)<kF a x k)/\kF a x N<=pS a (kF a x N)/\kF a x N=s/\∀ k,k<=N->s<=kF a x k/\kF a x k<=x:=by
 have hs:0<s:=by
  apply bU;intro h0;obtain rfl:s=0:= aC ;have:=h.2;omega
 have sO:∀ k,s<=kF a x k:=λk=>by
  induction k with
  |zero=>exact hx
  |succ k ih=>exact ain h aC 
 have hex:∃ k,k<x+1/\decide (kF a x k<=pS a (kF a x k))=true:=by
  apply bU;intro hc;have hd:∀ k,k<x+1->pS a (kF a x k)<kF a x k:=λk hk=>by
   apply bU;intro q;exact hc ⟨k,hk,a7 aC⟩
  have hb:∀ k,k<=x+1->kF a x k+k<=x:=by
   intro k hk
   induction k with
   |zero=>exact bg _
   |succ k ih=>
    have:=ih aC;have:=hd k aC;show pS a (kF a x k)+(k+1)<=x;omega
  have:=hb (x+1) (bg _);omega
 obtain⟨N,n1,n2,n3⟩:=rh hex;have n2':=cB n2;have iB:∀ k,k<N->pS a (kF a x k)<kF a x k:=λk hk=>by
  have:=eE (n3 k hk);omega
 have hle:∀ k,k<=N->kF a x k<=x:=by
  intro k hk
  induction k with
  |zero=>exact bg _
  |succ k ih=>
   have:=ih aC;have:=iB k aC;show pS a (kF a x k)<=x;omega
 have e:=aim h (by have:=sO N;omega) (sO N) n2';exact⟨N,aC,iB,n2',e,λk hk=>⟨sO k,hle k hk⟩⟩
def vy(m s:Nat)(e:Int)(p:Nat)(up:Bool):Dy:=kg false s e (decide (s*s≠m)) p up
def Am(m s:Nat)(e:Int)(p:Nat)(up:Bool):Int:=jR false s e (decide (s*s≠m)) p up
def alS{m s:Nat}{e:Int}{p:Nat}(h:vf m s)(hb:p<iq s)(hp:1<=p)(ig:p<=4096)(he:Am m s e p false=0):0<=(vy m s e p false).q/\(vy m s e p false).q<=(s:Rat)*P2 e:=by
 unfold vy Am at *
 by_cases hx:s*s=m
 .rw [bc aC]at he ⊢;have A:=Fy false s e hp ig;rw[r9]at A;simp only[bE,bn]at A;exact⟨(A.2 0 (.inl (At p)) (bW cS (bJ (nN e)))).2,(A.1 he).2⟩
 .rw [a7 aC]at he ⊢;obtain⟨h1,h2⟩:=DJ e hb false false;rw[h1];rw[h2]at he;have A:=Fy false (2*s+1) (e-1) hp ig;rw[r9]at A;simp only[bE,bn]at A;have h0:=(A.2 0 (.inl (At p)) (bW cS (bJ (nN (e-1))))).2;obtain⟨g,hl⟩:=A.1 he;refine⟨h0,?_⟩;rcases Mw (e:=e) hb (g.pos h0)with k|k
  .exact k
  .exfalso;have ee:P2 e=P2 (e-1)*2:=by
    have:=rA (e-1) 1;rw[(aC:e-1+1=e),show P2 1=2 by decide +kernel]at this;exact this
   have xf:=nN (e-1);have c1:((2*s+1:Nat):Rat)=2*(s:Rat)+1:=by rw[dV,df];rfl
   have c2:((s+1:Nat):Rat)=(s:Rat)+1:=by rw[dV];rfl
   rw[c1]at hl;rw[c2,ee]at k
   grind
def alR{m s:Nat}{e:Int}{p:Nat}(h:vf m s)(hb:p<iq s)(hp:1<=p)(ig:p<=4096)(he:Am m s e p true=0):0<=(vy m s e p true).q/\(m:Rat)*(P2 e*P2 e)<=(vy m s e p true).q*(vy m s e p true).q:=by
 have xf:=nN e;have s0:(0:Rat)<=(s:Rat):=cS;have key:∀ D:Rat,(s:Rat)*P2 e<=D->(s*s≠m->((s+1:Nat):Rat)*P2 e<=D)->0<=D/\(m:Rat)*(P2 e*P2 e)<=D*D:=by
  intro D h1 h2;have d0:0<=D:=bN (bW s0 (bJ xf)) h1;refine⟨d0,?_⟩;have sq:∀ t:Nat,m<=t*t->(t:Rat)*P2 e<=D->(m:Rat)*(P2 e*P2 e)<=D*D:=by
   intro t ht hD;have t0:(0:Rat)<=(t:Rat):=cS;have c:(m:Rat)<=(t:Rat)*(t:Rat):=by
    have:=dB.2 ht;rwa[df]at this
   have m1:=cw c (bW (bJ xf) (bJ xf));have m2:=cw hD (bW t0 (bJ xf));have m3:=cN hD d0;generalize (t:Rat)=T at *
   generalize P2 e=P at *
   have e1:T*T*(P*P)=T*P*(T*P):= aK 
   grind
  by_cases hx:s*s=m
  .exact sq s aC h1
  .exact sq (s+1) (by have:=h.2;omega) (h2 hx)
 unfold vy Am at *
 by_cases hx:s*s=m
 .rw [bc aC]at he ⊢;have A:=Fz false s e hp ig;rw[r9]at A;simp only[bE,bn]at A;exact key _ (A.1 he).2 (λq=>absurd hx q)
 .rw [a7 aC]at he ⊢;obtain⟨h1,h2⟩:=DJ e hb false true;rw[h1];rw[h2]at he;have A:=Fz false (2*s+1) (e-1) hp ig;rw[r9]at A;simp only[bE,bn]at A;obtain⟨g,hl⟩:=A.1 he;have ee:P2 e=P2 (e-1)*2:=by
   have:=rA (e-1) 1;rw[(aC:e-1+1=e),show P2 1=2 by decide +kernel]at this;exact this
  have il:=nN (e-1);have c1:((2*s+1:Nat):Rat)=2*(s:Rat)+1:=by rw[dV,df];rfl
  rw[c1]at hl;have h0:0<=(kg false (2*s+1) (e-1) false p true).q:=bN (bW aK (bJ il)) hl;have iB:(s:Rat)*P2 e<(kg false (2*s+1) (e-1) false p true).q:=by rw[ee];grind
  refine key _ (bJ iB) λ_=>?_
  rcases Mw (e:=e) hb (g.pos h0)with k|k
  .exact absurd iB (dC.2 k)
  .exact k
def alT{a b:Rat}(ha:0<=a)(hb:0<=b)(h:a*a<=b*b):a<=b:=by
 apply dC.1;intro iB;have m1:=cN (bJ iB) hb;have m2:=dW iB (show 0<a by grind)
 grind
def alU{m s n t:Nat}{e f:Int}{p:Nat}(h:vf m s)(k:vf n t)(hb:p<iq s)(kb:p<iq t)(hp:1<=p)(ig:p<=4096)(hle:(m:Rat)*(P2 e*P2 e)<=(n:Rat)*(P2 f*P2 f)):
 (mf (vy m s e p false) (Am m s e p false) (vy n t f p true) (Am n t f p true)).ij:=by
 unfold mf;split
 .exact mi
 .rename_i he;obtain⟨a0,a1⟩:=alS (e:=e) h hb hp ig aC;obtain⟨b0,b1⟩:=alR (e:=f) k kb hp ig aC;refine .inr ⟨rfl,tp _ _ _ _ _ _ hp ig,tp _ _ _ _ _ _ hp ig,?_⟩;rw[pT];refine alT a0 b0 ?_;have s0:(0:Rat)<=(s:Rat):=cS;have xf:=nN e;have m1:=cN a1 a0;have m2:=cw a1 (bW s0 (bJ xf));have c:(s:Rat)*(s:Rat)<=(m:Rat):=by
   have:=dB.2 h.1;rwa[df]at this
  have m3:=cw c (bW (bJ xf) (bJ xf));generalize (vy m s e p false).q=A at *
  generalize (s:Rat)=S at *
  generalize P2 e=P at *
  have e1:S*S*(P*P)=S*P*(S*P):= aK 
  grind
def WA(m N:Nat)(x:Nat):PS:=⟨43,true,[(5,.e (ic (gY (kF m (2^((iq m+1)/2)) x)))),(0,.e (ic (gY m)))],[]⟩
def Wq(L M:List Nat)(hL:iN L)(hM:iN M)(h1:L.length<=3000)(h2:M.length<=3000):∃ S:List Nat,gW 262 [ic L,ic M] (ic S)/\val S=val L+val M/\iN S/\S.length=max L.length M.length+1:=by
 obtain⟨n,hn⟩:∃ n,n=max L.length M.length+1:=⟨_,rfl⟩
 have iB:val L+val M<4294967296^n:=by
  have a:=oL hL;have b:=oL hM;have e:4294967296^n=4294967296^max L.length M.length*4294967296:=by rw[hn,bD]
  have c:=bK (show 0<4294967296 by decide) (Nat.le_max_left L.length M.length);have d:=bK (show 0<4294967296 by decide) (Nat.le_max_right L.length M.length);omega
 refine⟨pt (val L+val M) n,?_,by rw[Hw,ca iB],FB _ _,by rw[AN,hn]⟩;refine Bt hL hM call262 (λA c B d w h k _=>WC A B c d L M w h k h1 h2) λB w e w' hB r=>?_
 obtain⟨S,v1,v2,v3,r⟩:=r;rw[L3 v2 (by rw[v3,hn]) v1];exact rl B w e w' hB r
def aia(L:List Nat)(n:Nat)(hL:iN L)(h1:L.length<=3000)(hn:n<=65536):∃ S:List Nat,gW 293 [ic L,iP (n:Int)] (ic S)/\val S=val L*2^n/\iN S:=by
 obtain⟨m,hm⟩:∃ m,m=n/32+(iG L).length+1:=⟨_,rfl⟩
 have iB:val L*2^n<4294967296^m:=by
  have a:=oL hL.iG;rw[qs]at a;have e:4294967296^m=4294967296^(iG L).length*2^(32*(n/32+1)):=by
   rw[hm,(aC:n/32+(iG L).length+1=(iG L).length+(n/32+1)),bt,Nat.pow_mul]
  rw[e];exact Nat.mul_lt_mul_of_lt_of_le a (bK aE aC) (bw aE)
 refine⟨pt (val L*2^n) m,?_,by rw[Hw,ca iB],FB _ _⟩;refine GW hL call293 (λA c w h _=>WD A c L n w h aC hn) λA c B w e w' h hB r=>?_
 obtain⟨S,v1,v2,v3,r⟩:=r;rw[L3 v2 (by rw[v3,hm]) v1];exact rl B w e w' hB r
def Al(L:List Nat):List Nat:=qW (1%32) ((iG L).drop (1/32))
def Wy(L:List Nat)(hL:iN L)(h1:L.length<=3000):gW 232 [ic L,iP 1] (ic (Al L)):=
 GW (n:=((1:Nat):Int)) hL call232 (λA c w h _=>On A c L 1 w h aC aE) λA c B w e w' h hB r=>rl B w e w' hB r
def YW{L:List Nat}(hL:iN L):iG (Al L)=gY (val L/2):=by
 unfold Al;rw[rS (Bq _ _),K7 hL.iG,qs]
def WN(m x:Nat):pS m x<=max x (m/x):=by
 unfold pS;generalize m/x=q;omega
def VS(a b:Nat):(gY (max a b)).length<=max (gY a).length (gY b).length:=by
 rcases Nat.le_total a b with h|h
 .rw [Nat.max_eq_right h];omega
 .rw [Nat.max_eq_left h];omega
def ah6(m:Nat)(h:(gY m).length<=256):gW 231 [ic (gY m)] (.ix [ic (gY m),iP 0]):=by
 have:=Ws (gY m) (mz m) (by rw[vD];exact h);rwa[vD]at this
def aic(m N:Nat)(h1:(gY m).length<=256)(h0:m≠0)(pG:∀ k,k<N->pS m (kF m (2^((iq m+1)/2)) k)<(kF m (2^((iq m+1)/2)) k))(qa:(kF m (2^((iq m+1)/2)) N)<=pS m (kF m (2^((iq m+1)/2)) N))(lG:∀ k,k<=N->0<(kF m (2^((iq m+1)/2)) k)/\(kF m (2^((iq m+1)/2)) k)<=(2^((iq m+1)/2))):gW 387 [ic (gY m)] (.ix [ic (gY (kF m (2^((iq m+1)/2)) N)),iP 0]):=by
 have bm:=o0 h0;have bl:=BX h1;have z0:(gY (2^((iq m+1)/2))).length<=256:=py (by rw[show(2^((iq m+1)/2))=1*2^((iq m+1)/2)by omega,q7 aE];show 1+_<=_;omega);have hlen:∀ k,k<=N->(gY (kF m (2^((iq m+1)/2)) k)).length<=256:=λk hk=>bk (mV (lG k hk).2) z0
 obtain⟨S0,Cf,sv,oS0⟩:=aia (gY 1) ((iq m+1)/2) (mz 1) aL aC;rw[kr,bZ]at sv;have hS0:gW 263 [ic S0] (ic (gY (2^((iq m+1)/2)))):=by
  have:=uq S0 oS0;rwa[rS oS0,sv]at this
 have zN:=hlen N aC;exact ak call387 func387 (af [.c (ah7 (gY m) aD),ag [ic (gY m)] (sZ _ aC),ai 15 ((iq m:Int)==0) (nC aC),.o 16 (.e yx:aj (.sl false 1 1 λi_ j_=>[.v (.int .u32 1)].getD (i_*1+j_) (.v (.bool false))) (ic (gY 1))),iz ((iq m:Int)+1) aC,.a (aC:0<(2:Int)),
  iz (((iq m)+1:Nat):Int) aC,ag [ic (gY 1),iP ((((iq m)+1)/2:Nat):Int)] Cf,ag [ic S0] hS0,.s (Sp.jC (WA m N) 0 N aC (λx hx k0=>by
    obtain⟨xl,xu⟩:=lG x aC;obtain⟨Tq,Sq,F3,dT,dS,oT,oS,lT,lS⟩:=Oi (gY m) (gY (kF m (2^((iq m+1)/2)) x)) (mz m) (mz _) aC (by have:=hlen x aC;omega) (by rw[kr];omega);rw[kr,kr]at dT;have zx:=hlen x aC;have MO:gW 263 [ic Tq] (ic (gY (m/(kF m (2^((iq m+1)/2)) x)))):=by
     have:=uq Tq oT;rwa[rS oT,dT]at this
    have zt:(gY (m/(kF m (2^((iq m+1)/2)) x))).length<=257:=bk (mV (bY _ _)) aC;obtain⟨Uq,hU,uv,oU,lU⟩:=Wq (gY (kF m (2^((iq m+1)/2)) x)) (gY (m/(kF m (2^((iq m+1)/2)) x))) (mz _) (mz _) aC aC;rw[kr,kr]at uv;have hV:=Wy Uq oU aC;have DW:gW 263 [ic (Al Uq)] (ic (gY (pS m (kF m (2^((iq m+1)/2)) x)))):=by
     have:=uq (Al Uq) (Bq _ _);rwa[YW oU,uv]at this
    have zn:(gY (pS m (kF m (2^((iq m+1)/2)) x))).length<=257:=bk (mV (WN m (kF m (2^((iq m+1)/2)) x))) (by have:=VS (kF m (2^((iq m+1)/2)) x) (m/(kF m (2^((iq m+1)/2)) x));omega);exact iF (ae [ag [ic (gY m),ic (gY (kF m (2^((iq m+1)/2)) x))] F3,ag [ic Tq] MO,ag [ic (gY (kF m (2^((iq m+1)/2)) x)),ic (gY (m/(kF m (2^((iq m+1)/2)) x)))] hU,ag [ic Uq,iP 1] hV,ag [ic (Al Uq)] DW,ag [ic (gY (pS m (kF m (2^((iq m+1)/2)) x))),ic (gY (kF m (2^((iq m+1)/2)) x))] (yl _ _ aC aC),tF 37 (0<=(kE (pS m (kF m (2^((iq m+1)/2)) x)) (kF m (2^((iq m+1)/2)) x))) (by have:=pG x aC;have:=DI.2 this;omega)]<|.e (af [.o 5 (.e (.iT rfl):aj (ic (gY (pS m (kF m (2^((iq m+1)/2)) x)))) (ic (gY (kF m (2^((iq m+1)/2)) (x+1)))))])) aF)
  (λhx=>by
    obtain⟨xl,xu⟩:=lG N aC;obtain⟨Tq,Sq,F3,dT,dS,oT,oS,lT,lS⟩:=Oi (gY m) (gY (kF m (2^((iq m+1)/2)) N)) (mz m) (mz _) aC (by have:=hlen N aC;omega) (by rw[kr];omega);rw[kr,kr]at dT;have zx:=hlen N aC;have MO:gW 263 [ic Tq] (ic (gY (m/(kF m (2^((iq m+1)/2)) N)))):=by
     have:=uq Tq oT;rwa[rS oT,dT]at this
    have zt:(gY (m/(kF m (2^((iq m+1)/2)) N))).length<=257:=bk (mV (bY _ _)) aC;obtain⟨Uq,hU,uv,oU,lU⟩:=Wq (gY (kF m (2^((iq m+1)/2)) N)) (gY (m/(kF m (2^((iq m+1)/2)) N))) (mz _) (mz _) aC aC;rw[kr,kr]at uv;have hV:=Wy Uq oU aC;have DW:gW 263 [ic (Al Uq)] (ic (gY (pS m (kF m (2^((iq m+1)/2)) N)))):=by
     have:=uq (Al Uq) (Bq _ _);rwa[YW oU,uv]at this
    have zn:(gY (pS m (kF m (2^((iq m+1)/2)) N))).length<=257:=bk (mV (WN m (kF m (2^((iq m+1)/2)) N))) (by have:=VS (kF m (2^((iq m+1)/2)) N) (m/(kF m (2^((iq m+1)/2)) N));omega);exact iF (af [ag [ic (gY m),ic (gY (kF m (2^((iq m+1)/2)) N))] F3,ag [ic Tq] MO,ag [ic (gY (kF m (2^((iq m+1)/2)) N)),ic (gY (m/(kF m (2^((iq m+1)/2)) N)))] hU,ag [ic Uq,iP 1] hV,ag [ic (Al Uq)] DW,ag [ic (gY (pS m (kF m (2^((iq m+1)/2)) N))),ic (gY (kF m (2^((iq m+1)/2)) N))] (yl _ _ aC aC),tT 37 (0<=(kE (pS m (kF m (2^((iq m+1)/2)) N)) (kF m (2^((iq m+1)/2)) N))) (by have:=qa;have:¬kE (pS m (kF m (2^((iq m+1)/2)) N)) (kF m (2^((iq m+1)/2)) N)<0:=λq=>absurd (DI.1 q) aC;omega),ag [ic (gY (kF m (2^((iq m+1)/2)) N))] (ah6 _ aC)]) aF) aI:jA 7 f387 (WA m N 0) .ret ⟨43,true,[(3,.e (iP 0)),(2,.e (ic (gY (kF m (2^((iq m+1)/2)) N))))],[]⟩) (af [.o 5 (.e (.iT rfl):aj (ic (gY (2^((iq m+1)/2)))) (ic (gY (kF m (2^((iq m+1)/2)) 0))))])]) 
def WB(m s:Nat)(h1:(gY m).length<=256)(h0:m≠0)(hr:vf m s):gW 387 [ic (gY m)] (.ix [ic (gY s),iP 0]):=by
 obtain⟨N,_,a,b,c,d⟩:=akh hr (dR h0) (akj m hr);have hs:0<s:=by
  apply bU;intro h;obtain rfl:s=0:= aC ;have:=hr.2;omega
 have:=aic m N h1 h0 a b λk hk=>⟨by have:=(d k hk).1;omega,(d k hk).2⟩
 rwa[c]at this
noncomputable def lX(m:Nat):Nat:=Classical.choose (XZ m)
def Da(m:Nat):vf m (lX m):=cO (XZ m)
def tc(d:Dy)(p:Nat):Nat:=if Int.tmod (d.e-((2*p+4-iq d.m:Nat):Int)) 2=0 then 2*p+4-iq d.m else 2*p+4-iq d.m+1
noncomputable def vC(d:Dy)(p:Nat)(up:Bool):Dy:=vy (d.m*2^tc d p) (lX (d.m*2^tc d p)) ((d.e-(tc d p:Int))/2) p up
noncomputable def vz(d:Dy)(p:Nat)(up:Bool):Int:=Am (d.m*2^tc d p) (lX (d.m*2^tc d p)) ((d.e-(tc d p:Int))/2) p up
def KS(d:Dy)(p:Nat):d.e-(tc d p:Int)=2*((d.e-(tc d p:Int))/2):=by
 have key:∀ x:Int,Int.tmod x 2=0↔x%2=0:=λx=>by rw[<-Int.dvd_iff_tmod_eq_zero,<-Int.dvd_iff_emod_eq_zero]
 have:(d.e-(tc d p:Int))%2=0:=by
  unfold tc;split
  .rename_i h;exact(key _).1 h
  .rename_i h;have h2:¬(d.e-((2*p+4-iq d.m:Nat):Int))%2=0:=λq=>h ((key _).2 q)
   clear h;omega
 omega
def Y7(s:Nat):s<=s*s:=by
 by_cases h:s=0
 .subst h;exact bV _
 .exact gp s (dR h)
def Y9{d:Dy}(hn:d.neg=false)(K:Nat){E:Int}(h:d.e-(K:Int)=2*E):((d.m*2^K:Nat):Rat)*(P2 E*P2 E)=d.q:=by
 rw[qV,hn,aZ aE,<-rA,df,<-yK,eX,<-rA,show(K:Int)+(E+E)=d.e by omega]
def Pb{m s p:Nat}(h:vf m s)(hm:2*p+4<=iq m):p<iq s:=by
 apply bU;intro hb;have h1:s<2^iq s:=sf s;have h2:2^iq s<=2^p:=bK aE aC;have h3:=dA (aC:s+1<=2^p) (aC:s+1<=2^p);rw[<-bt]at h3;have h4:=h.2;have h5:iq m<=p+p:=mj.2 (bQ h4 h3);omega
def X0(m s:Nat):((kE (s*s) m) != 0)=decide (s*s≠m):=by
 unfold kE;generalize s*s=q;rcases Nat.lt_trichotomy q m with h|h|h
 .rw [a6 h,a7 aC];rfl
 .subst h;simp
 .rw [aZ aC,a6 h,a7 aC];rfl
def ajA(d:Dy)(p:Nat)(up:Bool)(hd:d.ij)(hn:d.neg=false)(h0:d.m≠0)(il:8<=p)(ig:p<=512)(qK:Int.tmod (d.e-((2*p+4-(iq d.m):Nat):Int)) 2=0):gW 355 [ie d,iP p,bP up] (.ix [ie (vC d p up),iP (vz d p up)]):=by
 have hl:=hd.gY;have hx:=hd.exp;have hr:=hd.range.resolve_left h0;have bp:=o0 h0;have hK:tc d p=(2*p+4-(iq d.m)):=by unfold tc;rw[a6 qK]
 have he:=KS d p;rw[hK]at he;have hb:=q7 h0 (2*p+4-(iq d.m));have z1:(gY (d.m*2^(2*p+4-(iq d.m)))).length<=256:=py aC;have tw:(d.m*2^(2*p+4-(iq d.m)))≠0:=dD h0 (ej (bw aE));have sS:=Da (d.m*2^(2*p+4-(iq d.m)));have Cy:=Pb sS (p:=p) aC;have z2:(gY (lX (d.m*2^(2*p+4-(iq d.m)))*lX (d.m*2^(2*p+4-(iq d.m))))).length<=256:=bk (mV sS.1) z1;have z3:(gY (lX (d.m*2^(2*p+4-(iq d.m))))).length<=256:=bk (mV (bk (Y7 _) sS.1)) z1;have h00:lX (d.m*2^(2*p+4-(iq d.m)))≠0\/lX (d.m*2^(2*p+4-(iq d.m)))=0/\(d.e-((2*p+4-(iq d.m):Nat):Int))/2=0/\((kE (lX (d.m*2^(2*p+4-(iq d.m)))*lX (d.m*2^(2*p+4-(iq d.m)))) (d.m*2^(2*p+4-(iq d.m)))) != 0)=false:=.inl (λq=>by rw[q,sJ]at Cy;omega);have rY:((kE (lX (d.m*2^(2*p+4-(iq d.m)))*lX (d.m*2^(2*p+4-(iq d.m)))) (d.m*2^(2*p+4-(iq d.m)))) != 0)=true->p<iq (lX (d.m*2^(2*p+4-(iq d.m)))):=λ_=>Cy
 exact ak call355 func355 (ae [.o 17 (.e (L8 _):aj (.sl true 1 3 λi_ j_=>(jq d).getD (i_*3+j_) (.v (.bool false))) (nO [d])),ag [iP p,nO [d]] (OV _ _ aD aC aC),ah 20 ((0:Int)==0) aE,ai 23 d.neg hn,ai 26 ((0:Int) != 0) aE,ai 31 (((gY d.m).length:Int)==0) (nC (pJ h0)),
  iz (2*(p:Int)) aC,iz (((2*p:Nat):Int)+4) aC,ag [ie d] (IT _ aD),iz ((((2*p)+4:Nat):Int)-(iq (Dy.m d):Int)) aC,.o 41 (aq (if((((2*p)+4:Nat):Int)-(iq (Dy.m d):Int))>0 then((((2*p)+4:Nat):Int)-(iq (Dy.m d):Int))else 0) ((2*p+4-(iq d.m):Nat):Int) aM),
  iz (d.e-((2*p+4-(iq d.m):Nat):Int)) aC,.a (aC:0<(2:Int)),ai 47 ((Int.tmod (d.e-((2*p+4-(iq d.m):Nat):Int)) 2) != 0) (by simpa using qK),.c (wC d.m (2*p+4-(iq d.m)) aC aC aC),ag [ic (gY (d.m*2^(2*p+4-(iq d.m))))] (WB _ _ aC aD (Da _)),ag [ic (gY (lX (d.m*2^(2*p+4-(iq d.m))))),ic (gY (lX (d.m*2^(2*p+4-(iq d.m)))))] (zW _ _ aC aC aC),
  iz (d.e-((2*p+4-(iq d.m):Nat):Int)) aC,.a (aC:0<(2:Int)),iz (d.e-((2*p+4-(iq d.m):Nat):Int)) aC,.o 70 (aq (Int.tdiv (d.e-((2*p+4-(iq d.m):Nat):Int)) 2) ((d.e-((2*p+4-(iq d.m):Nat):Int))/2) (by generalize hy:(d.e-((2*p+4-(iq d.m):Nat):Int))/2=y at *;rw[he];exact aoT _ aE)),ag [ic (gY ((lX (d.m*2^(2*p+4-(iq d.m))))*(lX (d.m*2^(2*p+4-(iq d.m)))))),ic (gY (d.m*2^(2*p+4-(iq d.m))))] (yl _ _ aC aC),ag [.agg [ic (gY (lX (d.m*2^(2*p+4-(iq d.m))))),iP ((d.e-((2*p+4-(iq d.m):Nat):Int))/2),bP ((kE ((lX (d.m*2^(2*p+4-(iq d.m))))*(lX (d.m*2^(2*p+4-(iq d.m))))) (d.m*2^(2*p+4-(iq d.m)))) != 0)],iP p,bP up] (EJ _ _ _ _ _ aC aD aC aC aC aC aD)]<|rQ (.ix [ie (kg false (lX (d.m*2^(2*p+4-(iq d.m)))) ((d.e-((2*p+4-(iq d.m):Nat):Int))/2) ((kE ((lX (d.m*2^(2*p+4-(iq d.m))))*(lX (d.m*2^(2*p+4-(iq d.m))))) (d.m*2^(2*p+4-(iq d.m)))) != 0) p up),iP (jR false (lX (d.m*2^(2*p+4-(iq d.m)))) ((d.e-((2*p+4-(iq d.m):Nat):Int))/2) ((kE ((lX (d.m*2^(2*p+4-(iq d.m))))*(lX (d.m*2^(2*p+4-(iq d.m))))) (d.m*2^(2*p+4-(iq d.m)))) != 0) p up)]) (.ix [ie (vC d p up),iP (vz d p up)]) (by unfold vC vz vy Am;rw[hK,X0])) 
def ajB(d:Dy)(p:Nat)(up:Bool)(hd:d.ij)(hn:d.neg=false)(h0:d.m≠0)(il:8<=p)(ig:p<=512)(qK:¬Int.tmod (d.e-((2*p+4-(iq d.m):Nat):Int)) 2=0):gW 355 [ie d,iP p,bP up] (.ix [ie (vC d p up),iP (vz d p up)]):=by
 have hl:=hd.gY;have hx:=hd.exp;have hr:=hd.range.resolve_left h0;have bp:=o0 h0;have hK:tc d p=((2*p+4-(iq d.m))+1):=by unfold tc;rw[aZ qK]
 have he:=KS d p;rw[hK]at he;have hb:=q7 h0 ((2*p+4-(iq d.m))+1);have z1:(gY (d.m*2^((2*p+4-(iq d.m))+1))).length<=256:=py aC;have tw:(d.m*2^((2*p+4-(iq d.m))+1))≠0:=dD h0 (ej (bw aE));have sS:=Da (d.m*2^((2*p+4-(iq d.m))+1));have Cy:=Pb sS (p:=p) aC;have z2:(gY (lX (d.m*2^((2*p+4-(iq d.m))+1))*lX (d.m*2^((2*p+4-(iq d.m))+1)))).length<=256:=bk (mV sS.1) z1;have z3:(gY (lX (d.m*2^((2*p+4-(iq d.m))+1)))).length<=256:=bk (mV (bk (Y7 _) sS.1)) z1;have h00:lX (d.m*2^((2*p+4-(iq d.m))+1))≠0\/lX (d.m*2^((2*p+4-(iq d.m))+1))=0/\(d.e-(((2*p+4-(iq d.m))+1:Nat):Int))/2=0/\((kE (lX (d.m*2^((2*p+4-(iq d.m))+1))*lX (d.m*2^((2*p+4-(iq d.m))+1))) (d.m*2^((2*p+4-(iq d.m))+1))) != 0)=false:=.inl (λq=>by rw[q,sJ]at Cy;omega);have rY:((kE (lX (d.m*2^((2*p+4-(iq d.m))+1))*lX (d.m*2^((2*p+4-(iq d.m))+1))) (d.m*2^((2*p+4-(iq d.m))+1))) != 0)=true->p<iq (lX (d.m*2^((2*p+4-(iq d.m))+1))):=λ_=>Cy
 exact ak call355 func355 (ae [.o 17 (.e (L8 _):aj (.sl true 1 3 λi_ j_=>(jq d).getD (i_*3+j_) (.v (.bool false))) (nO [d])),ag [iP p,nO [d]] (OV _ _ aD aC aC),ah 20 ((0:Int)==0) aE,ai 23 d.neg hn,ai 26 ((0:Int) != 0) aE,ai 31 (((gY d.m).length:Int)==0) (nC (pJ h0)),
  iz (2*(p:Int)) aC,iz (((2*p:Nat):Int)+4) aC,ag [ie d] (IT _ aD),iz ((((2*p)+4:Nat):Int)-(iq (Dy.m d):Int)) aC,.o 41 (aq (if((((2*p)+4:Nat):Int)-(iq (Dy.m d):Int))>0 then((((2*p)+4:Nat):Int)-(iq (Dy.m d):Int))else 0) ((2*p+4-(iq d.m):Nat):Int) aM),
  iz (d.e-((2*p+4-(iq d.m):Nat):Int)) aC,.a (aC:0<(2:Int)),ah 47 ((Int.tmod (d.e-((2*p+4-(iq d.m):Nat):Int)) 2) != 0) (by simpa using qK),
  iz (((2*p+4-(iq d.m):Nat):Int)+1) aC,.c (wC d.m ((2*p+4-(iq d.m))+1) aC aC aC),ag [ic (gY (d.m*2^((2*p+4-(iq d.m))+1)))] (WB _ _ aC aD (Da _)),ag [ic (gY (lX (d.m*2^((2*p+4-(iq d.m))+1)))),ic (gY (lX (d.m*2^((2*p+4-(iq d.m))+1))))] (zW _ _ aC aC aC),
  iz (d.e-(((2*p+4-(iq d.m))+1:Nat):Int)) aC,.a (aC:0<(2:Int)),iz (d.e-(((2*p+4-(iq d.m))+1:Nat):Int)) aC,.o 70 (aq (Int.tdiv (d.e-(((2*p+4-(iq d.m))+1:Nat):Int)) 2) ((d.e-(((2*p+4-(iq d.m))+1:Nat):Int))/2) (by generalize hy:(d.e-(((2*p+4-(iq d.m))+1:Nat):Int))/2=y at *;rw[he];exact aoT _ aE)),ag [ic (gY ((lX (d.m*2^((2*p+4-(iq d.m))+1)))*(lX (d.m*2^((2*p+4-(iq d.m))+1))))),ic (gY (d.m*2^((2*p+4-(iq d.m))+1)))] (yl _ _ aC aC),ag [.agg [ic (gY (lX (d.m*2^((2*p+4-(iq d.m))+1)))),iP ((d.e-(((2*p+4-(iq d.m))+1:Nat):Int))/2),bP ((kE ((lX (d.m*2^((2*p+4-(iq d.m))+1)))*(lX (d.m*2^((2*p+4-(iq d.m))+1)))) (d.m*2^((2*p+4-(iq d.m))+1))) != 0)],iP p,bP up] (EJ _ _ _ _ _ aC aD aC aC aC aC aD)]<|rQ (.ix [ie (kg false (lX (d.m*2^((2*p+4-(iq d.m))+1))) ((d.e-(((2*p+4-(iq d.m))+1:Nat):Int))/2) ((kE ((lX (d.m*2^((2*p+4-(iq d.m))+1)))*(lX (d.m*2^((2*p+4-(iq d.m))+1)))) (d.m*2^((2*p+4-(iq d.m))+1))) != 0) p up),iP (jR false (lX (d.m*2^((2*p+4-(iq d.m))+1))) ((d.e-(((2*p+4-(iq d.m))+1:Nat):Int))/2) ((kE ((lX (d.m*2^((2*p+4-(iq d.m))+1)))*(lX (d.m*2^((2*p+4-(iq d.m))+1)))) (d.m*2^((2*p+4-(iq d.m))+1))) != 0) p up)]) (.ix [ie (vC d p up),iP (vz d p up)]) (by unfold vC vz vy Am;rw[hK,X0])) 
def Xx(d:Dy)(p:Nat)(up:Bool)(hd:d.ij)(hn:d.neg=false)(h0:d.m≠0)(il:8<=p)(ig:p<=512):gW 355 [ie d,iP p,bP up] (.ix [ie (vC d p up),iP (vz d p up)]):=by
 by_cases h:Int.tmod (d.e-((2*p+4-(iq d.m):Nat):Int)) 2=0
 .exact ajA d p up hd hn h0 il ig h
 .exact ajB d p up hd hn h0 il ig h
def ajy(d:Dy)(p:Nat)(hd:d.ij)(hn:d.neg=false)(h0:d.m≠0)(il:8<=p)(ig:p<=512):gW 333 [ie d,iP p] (.ix [ie (vC d p false),iP (vz d p false)]):=
 ak call333 func333 (af [.c (Xx d p false aD aD aD aC aC)]) 
def ajz(d:Dy)(p:Nat)(hd:d.ij)(hn:d.neg=false)(h0:d.m≠0)(il:8<=p)(ig:p<=512):gW 334 [ie d,iP p] (.ix [ie (vC d p true),iP (vz d p true)]):=
 ak call334 func334 (af [.c (Xx d p true aD aD aD aC aC)]) 
def agO(x:Iv)(p:Nat)(hx:x.ij)(il:8<=p)(ig:p<=512)(xa:x.all=true):gW 319 [ik x,iP p] (ik ia):=
 ak call319 func319 (af [.o 10 (.e (lh _):aj (.sl true 1 7 λi_ j_=>(iJ x).getD (i_*7+j_) (.v (.bool false))) (ib [x])),ag [ib [x]] (qn _ aD),ai 11 (!x.all) (by rw[xa];rfl),.c nS]) 
def agQ(x:Iv)(p:Nat)(hx:x.ij)(il:8<=p)(ig:p<=512)(xa:x.all=false)(h1:x.lo.iM<=0):gW 319 [ik x,iP p] (ik ia):=by
 obtain⟨w1,w2⟩:=hx.jW;exact ak call319 func319 (af [.o 10 (.e (lh _):aj (.sl true 1 7 λi_ j_=>(iJ x).getD (i_*7+j_) (.v (.bool false))) (ib [x])),ag [ib [x]] (qn _ aD),ah 11 (!x.all) (by rw[xa];rfl),ag [iP p] (wi _),ah 15 (lH (p:Int)) (sj.2 ⟨aC,aC⟩),ag [ie x.lo] (mT _ aD),tB 22 (a7 h1),.c nS]) 
def agR(x:Iv)(p:Nat)(hx:x.ij)(il:8<=p)(ig:p<=512)(xa:x.all=false)(h1:¬x.lo.iM<=0)(n1:x.lo.neg=false)(n2:x.hi.neg=false)(m1:x.lo.m≠0)(m2:x.hi.m≠0):gW 319 [ik x,iP p] (ik (mf (vC x.lo p false) (vz x.lo p false) (vC x.hi p true) (vz x.hi p true))):=by
 obtain⟨w1,w2⟩:=hx.jW;exact ak call319 func319 (af [.o 10 (.e (lh _):aj (.sl true 1 7 λi_ j_=>(iJ x).getD (i_*7+j_) (.v (.bool false))) (ib [x])),ag [ib [x]] (qn _ aD),ah 11 (!x.all) (by rw[xa];rfl),ag [iP p] (wi _),ah 15 (lH (p:Int)) (sj.2 ⟨aC,aC⟩),ag [ie x.lo] (mT _ aD),tB 22 (bc h1),.c (ajy x.lo p aD aD aD aC aC),.c (ajz x.hi p aD aD aD aC aC),.c (CK (vC x.lo p false) (vC x.hi p true) (vz x.lo p false) (vz x.hi p true))]) 
def Xc{d:Dy}(h:0<d.q):d.neg=false/\d.m≠0:=by
 have hm:d.m≠0:=λq=>by rw[qV,q]at h;simp at h
 refine⟨?_,hm⟩;cases hn:d.neg
 .rfl
 .rw [qV,hn,a6 rfl]at h;have:=bW (show(0:Rat)<=(d.m:Rat)from cS) (bJ (nN d.e))
  grind
def Y6{d:Dy}{p:Nat}(il:8<=p)(h0:d.m≠0):p<iq (lX (d.m*2^tc d p)):=by
 refine Pb (Da _) ?_;rw[q7 h0];unfold tc;split<;>omega
def agP{x:Iv}(hx:x.ij){p:Nat}(il:8<=p)(ig:p<=512):∃ Z,Z.ij/\gW 319 [ik x,iP (p:Int)] (ik Z):=by
 cases xa:x.all with
 |true=>exact⟨ia,mi,agO x p hx il ig xa⟩
 |false=>
  by_cases h1:x.lo.iM<=0
  .exact ⟨ia,mi,agQ x p hx il ig xa h1⟩
  .have q1:0<x.lo.q:=(sk _).1.1 aC ;have q2:0<x.hi.q:=by have:=hx.q;grind
   obtain⟨n1,m1⟩:=Xc q1;obtain⟨n2,m2⟩:=Xc q2;refine⟨_,?_,agR x p hx il ig xa h1 n1 n2 m1 m2⟩;refine alU (Da _) (Da _) (Y6 il m1) (Y6 il m2) aC aC ?_;rw[Y9 n1 _ (KS _ _),Y9 n2 _ (KS _ _)];exact hx.q
def jZ(X b:Nat):Nat->Nat
 | 0=>2^b
 |k+1=>jZ X b k*X/2^b/(k+1)
def Tf{X b:Nat}(h:X<=2^(b+1))(t:Nat):t*X/2^b<=2*t:=by
 have hp:0<2^b:=bw aE;have h1:t*X<=t*(2^b*2):=cL t (by rw[<-bD];exact h);have h2:t*X/2^b<=t*(2^b*2)/2^b:=Nat.div_le_div_right h1;have h3:t*(2^b*2)/2^b=2*t:=by
  rw[show t*(2^b*2)=2^b*(2*t)by rw[dQ,bG t 2]];exact aoU _ hp
 omega
def FP{X b:Nat}(h:X<=2^(b+1)):∀ k,jZ X b k<=2^(b+1)
 | 0=>by show 2^b<=2^(b+1);rw[bD];omega
 | 1=>by
  show 2^b*X/2^b/1<=_;rw[fF,aoU _ (bw aE)];exact h
 |k+2=>by
  have ih:=FP h (k+1);have h1:=Tf h (jZ X b (k+1));show jZ X b (k+1)*X/2^b/(k+2)<=_;have h2:jZ X b (k+1)*X/2^b/(k+2)<=jZ X b (k+1)*X/2^b/2:=gV aC aE;omega
def aet{X b:Nat}(h:X<=2^(b+1))(k:Nat)(hk:3<=k):jZ X b (k+1)*2<=jZ X b k:=by
 have h1:=Tf h (jZ X b k);have h2:jZ X b (k+1)<=jZ X b k*X/2^b/4:=gV aC aE;omega
def Te{X b:Nat}(h:X<=2^(b+1)):∀ j,jZ X b (3+j)*2^j<=2^(b+1)
 | 0=>by rw[cE,b8];exact FP h 3
 |j+1=>by
  have ih:=Te h j;have h1:=aet h (3+j) aC;have h2:=bL (2^j) h1;rw[bD,show jZ X b (3+(j+1))*(2^j*2)=jZ X b (3+j+1)*2*2^j by rw[bC,bG 2 (2^j)];rfl];omega
def aeu{X b:Nat}(h:X<=2^(b+1)):∃ N,1<=N/\N<=b+5/\(∀ k,k<N->jZ X b k≠0)/\jZ X b N=0:=by
 have hz:jZ X b (3+(b+2))=0:=by
  have h1:=Te h (b+2);apply bU;intro jl;have h2:2^(b+2)<=jZ X b (3+(b+2))*2^(b+2):=gp _ (dR jl);have h3:2^(b+2)=2^(b+1)*2:=bD (n:=2) (m:=b+1);have h4:0<2^(b+1):=bw aE;omega
 obtain⟨N,n1,n2,n3⟩:=rh (p:=λk=>decide (jZ X b k=0)) (n:=b+6) ⟨3+(b+2),aC,a7 hz⟩;have n2':=cB n2;refine⟨N,?_,aC,λk hk=>eE (n3 k hk),n2'⟩;rcases N with _|N
 .have:0<2^b:=bw aE ;have e:2^b=0:=n2';omega
 .omega
def afH{f:Nat->Nat}{B:Nat}(h0:f 0<2^B)(h:∀ k,f (k+1)*2<=f k):∃ N,N<=B/\(∀ k,k<N->f k≠0)/\f N=0:=by
 have hp:∀ k,f k*2^k<=f 0:=by
  intro k
  induction k with
  |zero=>rw[cE,b8];exact bg _
  |succ k ih=>
   have:=bL (2^k) (h k);rw[bD,show f (k+1)*(2^k*2)=f (k+1)*2*2^k by rw[bC,bG 2 (2^k)]];omega
 have hz:f B=0:=by
  apply bU;intro jl;have h2:2^B<=f B*2^B:=gp _ (dR jl);have:=hp B;omega
 obtain⟨N,n1,n2,n3⟩:=rh (p:=λk=>decide (f k=0)) (n:=B+1) ⟨B,aC,a7 hz⟩;exact⟨N,aC,λk hk=>eE (n3 k hk),cB n2⟩
def jJ(a b:Bool×Nat):Bool×Nat:=if a.1=b.1 then(a.1,a.2+b.2)else if a.2<b.2 then(b.1,b.2-a.2)else(a.1,a.2-b.2)
def pM(a:Bool×Nat):Int:=if a.1 then -(a.2:Int)else(a.2:Int)
def Mp(a b:Bool×Nat):pM (jJ a b)=pM a+pM b:=by
 obtain⟨s,m⟩:=a;obtain⟨t,n⟩:=b;unfold jJ pM;cases s<;>cases t<;>simp<;>(try split)<;>(try simp)<;>omega
def xL(a b:Bool×Nat):(jJ a b).2<=a.2+b.2:=by
 unfold jJ;split
 .exact bg _
 .split
  .show b.2-a.2<=_;omega
  .show a.2-b.2<=_;omega
def AU(a:Bool×Nat)(b:Nat):Dy:=canon a.1 a.2 (-(b:Int))
def Td(a:Bool×Nat)(b:Nat):(AU a b).q=(pM a:Rat)*P2 (-(b:Int)):=by
 unfold AU pM;rw[r9];cases a.1
 .simp only[bE,bn];rw[dU]
 .simp only[bB];rw[ado,dU];grind
def Ja(a:Bool×Nat):Bool×Nat:=jJ a (true,16777216)
def I9(a:Bool×Nat):Bool×Nat:=jJ a (false,16777216)
def s6(a:Bool×Nat)(b p:Nat):Iv:=mf (kf (AU (Ja a) b) p false) (jS (AU (Ja a) b) p false) (kf (AU (I9 a) b) p true) (jS (AU (I9 a) b) p true)
def aij(a:Bool×Nat)(b:Nat){p:Nat}(hp:1<=p)(ig:p<=4096):(s6 a b p).ij:=by
 unfold s6 mf;split
 .exact mi
 .rename_i he;have c1:(AU (Ja a) b).nn:=tl _ _ _;have c2:(AU (I9 a) b).nn:=tl _ _ _;have A:=xv c1 hp ig;have B:=xw c2 hp ig;refine .inr ⟨rfl,wE _ hp ig _,wE _ hp ig _,?_⟩;rw[pT];refine bN (A.1 aC).2 (bN ?_ (B.1 aC).2);rw[Td,Td,wq,gh];unfold Ja I9;rw[Mp,Mp];simp[pM]
def AH(m n:Nat)(h1:(gY m).length<=256)(h2:n<=65536)(h3:(gY (m*2^n)).length<=256):gW 379 [ic (gY m),iP n] (ic (gY (m*2^n))):=
 ak call379 func379 (af [ag [ic (gY m),iP n] (Ol _ _ aD aC aD)]) 
def wO(m n:Nat)(h1:(gY m).length<=256)(h2:n<=65536):gW 380 [ic (gY m),iP n] (ic (gY (m/2^n))):=
 ak call380 func380 (af [ag [ic (gY m),iP n] (Om _ _ aD aC)]) 
def LI(m:Nat)(z:Int)(h1:(gY m).length<=256)(h2:0<=z)(h3:z<=65536)(h4:(gY (m*2^z.toNat)).length<=256):gW 379 [ic (gY m),iP z] (ic (gY (m*2^z.toNat))):=by
 have:=AH m z.toNat h1 aC h4;rwa[show(z.toNat:Int)=z by omega]at this
def aco(m:Nat)(z:Int)(h1:(gY m).length<=256)(h2:0<=z)(h3:z<=65536):gW 380 [ic (gY m),iP z] (ic (gY (m/2^z.toNat))):=by
 have:=wO m z.toNat h1 aC;rwa[show(z.toNat:Int)=z by omega]at this
def lQ{m k:Nat}(h:m<2^k)(hk:k<=8192):(gY m).length<=256:=py (bk (mj.2 h) hk)
def tJ{n:Nat}(h:n<4294967296):(gY n).length<=256:=lQ (k:=32) h aE 
def agx(n:Nat):(iW n).neg=false/\0<=(iW n).e/\(iW n).m*2^(iW n).e.toNat=n/\(iW n).m<=n:=by
 by_cases h:n=0
 .subst h;decide
 .have e1:(iW (n:Int))=canon false n 0:=CI n;have e2:canon false n 0=⟨false,n/2^jN n,(jN n:Int)⟩:=by unfold canon;rw[aZ h];simp
  rw[e1,e2];refine⟨rfl,Int.natCast_nonneg _,?_,bY _ _⟩;show n/2^jN n*2^(jN n:Int).toNat=n;rw[fT];exact FD h
def LK(n:Nat)(h:n<4294967296):gW 381 [iP n] (.agg [bP false,ic (gY n)]):=by
 obtain⟨p1,p2,p3,p4⟩:=agx n;have hv:=Ej n h;have he:=hv.exp;have z1:=hv.gY;have z2:(gY ((iW n).m*2^(Int.toNat (iW n).e))).length<=256:=by rw[p3];exact tJ h
 exact ak call381 func381 (ae [.c (Fi n aC),ag [ic (gY ((iW (n:Int)).m)),iP ((iW (n:Int)).e)] (LI _ _ aD aC aC aD)]<|rQ (.agg [bP ((iW (n:Int)).neg),ic (gY (((iW (n:Int)).m)*2^(Int.toNat ((iW (n:Int)).e))))]) (.agg [bP false,ic (gY n)]) (by rw[p1,p3])) 
def abw(m:Nat):((iq m:Int)==0)=decide (m=0):=by
 by_cases h:m=0
 .subst h;rw[sJ];rfl
 .have:=o0 h;rw[bc h];exact nC aC 
def DP(a:Bool×Nat)(ha:(gY a.2).length<=256):gW 386 [.agg [bP a.1,ic (gY a.2)]] (bP (decide (a.2=0))):=
 ak call386 func386 (ae [ag [ic (gY a.2)] (sZ _ aC)]<|rQ (bP ((iq a.2:Int)==0)) (bP (decide (a.2=0))) (by rw[abw])) 
def wS(a:Bool×Nat):gW 376 [.agg [bP a.1,ic (gY a.2)]] (.agg [bP (!a.1),ic (gY a.2)]):=
 ak call376 func376 (.nil) 
def ad9(a:Bool×Nat)(ha:(gY a.2).length<=256)(b:Bool×Nat)(hb:(gY b.2).length<=256)(h:a.1=b.1)(hs:(gY (a.2+b.2)).length<=256):gW 385 [.agg [bP a.1,ic (gY a.2)],.agg [bP b.1,ic (gY b.2)]] (.agg [bP a.1,ic (gY (a.2+b.2))]):=
 ak call385 func385 (af [ah 13 (a.1==b.1) (by rw[h];simp),ag [ic (gY a.2),ic (gY b.2)] (GL _ _ aD aD aD)]) 
def ad7(a:Bool×Nat)(ha:(gY a.2).length<=256)(b:Bool×Nat)(hb:(gY b.2).length<=256)(h:¬a.1=b.1)(h2:a.2<b.2):gW 385 [.agg [bP a.1,ic (gY a.2)],.agg [bP b.1,ic (gY b.2)]] (.agg [bP b.1,ic (gY (b.2-a.2))]):=
 ak call385 func385 (af [ai 13 (a.1==b.1) (by simpa using h),ag [ic (gY a.2),ic (gY b.2)] (yl _ _ aC aC),tT 31 ((kE a.2 b.2)<0) (DI.2 h2),ag [ic (gY b.2),ic (gY a.2)] (CX _ _ aD aD aC)]) 
def ad8(a:Bool×Nat)(ha:(gY a.2).length<=256)(b:Bool×Nat)(hb:(gY b.2).length<=256)(h:¬a.1=b.1)(h2:¬a.2<b.2):gW 385 [.agg [bP a.1,ic (gY a.2)],.agg [bP b.1,ic (gY b.2)]] (.agg [bP a.1,ic (gY (a.2-b.2))]):=
 ak call385 func385 (af [ai 13 (a.1==b.1) (by simpa using h),ag [ic (gY a.2),ic (gY b.2)] (yl _ _ aC aC),tF 31 ((kE a.2 b.2)<0) λq=>h2 (DI.1 q),ag [ic (gY a.2),ic (gY b.2)] (CX _ _ aD aD aC)]) 
def tv(a:Bool×Nat)(ha:(gY a.2).length<=256)(b:Bool×Nat)(hb:(gY b.2).length<=256)(hs:(gY (a.2+b.2)).length<=256):gW 385 [.agg [bP a.1,ic (gY a.2)],.agg [bP b.1,ic (gY b.2)]] (.agg [bP ((jJ a b).1),ic (gY ((jJ a b).2))]):=by
 unfold jJ;split
 .rename_i h;exact ad9 a ha b hb h hs
 .rename_i h;split
  .rename_i h2;exact ad7 a ha b hb h h2
  .rename_i h2;exact ad8 a ha b hb h h2
def Mo(a:Bool×Nat)(ha:(gY a.2).length<=256)(c:Bool×Nat)(hc:(gY c.2).length<=256)(b:Nat)(hb:b<=65536)(hm:(gY (a.2*c.2)).length<=256):gW 382 [.agg [bP a.1,ic (gY a.2)],.agg [bP c.1,ic (gY c.2)],iP b] (.agg [bP (a.1 != c.1),ic (gY (a.2*c.2/2^b))]):=
 ak call382 func382 (af [ag [ic (gY a.2),ic (gY c.2)] (zW _ _ aD aD aD),.c (wO (a.2*c.2) b aD aC)]) 
def FL(a:Bool×Nat)(ha:(gY a.2).length<=256)(n:Nat)(h0:n≠0)(hn:n<4294967296):gW 388 [.agg [bP a.1,ic (gY a.2)],iP n] (.agg [bP a.1,ic (gY (a.2/n))]):=by
 have zn:(gY n).length<=256:=tJ hn;exact ak call388 func388 (af [.c (LK n aC),ag [ic (gY a.2),ic (gY n)] (zV _ _ aC aC aD)]) 
def rM(d:Dy)(b:Nat):Bool×Nat:=(d.neg,if d.e+(b:Int)<0 then d.m/2^(0-(d.e+(b:Int))).toNat else d.m*2^(d.e+(b:Int)).toNat)
def ab5(d:Dy)(hd:d.ij)(b:Nat)(hb:b<=30000)(h:d.e+(b:Int)<0):gW 384 [ie d,iP b] (.agg [bP ((rM d b).1),ic (gY ((rM d b).2))]):=by
 have hx:=hd.exp;have z1:=hd.gY;exact ak call384 func384 (ae [iz (d.e+(b:Int)) aC,tB 11 (a7 h),iz (0-(d.e+(b:Int))) aC,ag [ic (gY d.m),iP (0-(d.e+(b:Int)))] (aco _ _ aD aC aC)]<|rQ (.agg [bP d.neg,ic (gY (d.m/2^(Int.toNat (0-(d.e+(b:Int))))))]) (.agg [bP ((rM d b).1),ic (gY ((rM d b).2))]) (by unfold rM;rw[a6 h])) 
def ab4(d:Dy)(hd:d.ij)(b:Nat)(hb:b<=30000)(h:¬d.e+(b:Int)<0)(hs:(gY (d.m*2^(Int.toNat (d.e+(b:Int))))).length<=256):gW 384 [ie d,iP b] (.agg [bP ((rM d b).1),ic (gY ((rM d b).2))]):=by
 have hx:=hd.exp;have z1:=hd.gY;exact ak call384 func384 (ae [iz (d.e+(b:Int)) aC,tB 11 (bc h),iz (d.e+(b:Int)) aC,ag [ic (gY d.m),iP (d.e+(b:Int))] (LI _ _ aD aC aC aD)]<|rQ (.agg [bP d.neg,ic (gY (d.m*2^(Int.toNat (d.e+(b:Int)))))]) (.agg [bP ((rM d b).1),ic (gY ((rM d b).2))]) (by unfold rM;rw[aZ h])) 
def Kf{d:Dy}{b K:Nat}(h:d.iw+(b:Int)<=K):(rM d b).2<2^K:=by
 by_cases h0:d.m=0
 .have:(rM d b).2=0:=by unfold rM;simp only[h0];split<;>simp
  rw[this];exact bw aE 
 .rw [Ht h0]at h;have hm:=sf d.m;unfold rM;simp only;split
  .rename_i hc;obtain⟨k,hk⟩:∃ k,k=(0-(d.e+(b:Int))).toNat:=⟨_,rfl⟩
   rw[<-hk];by_cases hb:iq d.m<=k
   .rw [cW (bQ hm (bK aE hb))];exact bw aE 
   .refine (cD (bw aE)).2 (bQ hm ?_);rw[<-bt];exact bK aE aC 
  .rename_i hc;obtain⟨k,hk⟩:∃ k,k=(d.e+(b:Int)).toNat:=⟨_,rfl⟩
   rw[<-hk];have:=dh hm (bw (n:=k) (show 0<2 by decide));rw[<-bt]at this;exact bQ this (bK aE aC)
def LJ(d:Dy)(hd:d.ij)(b K:Nat)(hb:b<=30000)(hK:K<=8192)(h:d.iw+(b:Int)<=K):gW 384 [ie d,iP (b:Int)] (.agg [bP ((rM d b).1),ic (gY ((rM d b).2))]):=by
 by_cases hc:d.e+(b:Int)<0
 .exact ab5 d hd b hb hc
 .refine ab4 d hd b hb hc ?_;have:=Kf h;unfold rM at this;rw[aZ hc]at this;exact lQ this hK
def mP(f:Nat->Nat):Nat->Bool×Nat
 | 0=>(false,f 0)
 |k+1=>jJ (mP f k) (decide ((k+1)%2=1),f (k+1)/(2*(k+1)+1))
def Qv{f:Nat->Nat}(hf:∀ k,f (k+1)<=f k):∀ n,(n%2=0->pM (mP f n)<=f 0/\(f 0:Int)-(f 1/3:Nat)<=pM (mP f n)-(f (n+1)/(2*(n+1)+1):Nat))/\(n%2=1->(f 0:Int)-(f 1/3:Nat)<=pM (mP f n)/\pM (mP f n)+(f (n+1)/(2*(n+1)+1):Nat)<=f 0)
 | 0=>⟨λ_=>⟨by simp[mP,pM],by simp[mP,pM]⟩,λh=> aC⟩
 |n+1=>by
  obtain⟨e,o⟩:=Qv hf n;have hq:f (n+1+1)/(2*(n+1+1)+1)<=f (n+1)/(2*(n+1)+1):=Nat.div_le_div (hf (n+1)) aC aC;have hv:pM (mP f (n+1))=pM (mP f n)+pM (decide ((n+1)%2=1),f (n+1)/(2*(n+1)+1)):=Mp _ _;generalize f (n+1)/(2*(n+1)+1)=q1 at *
  generalize f (n+1+1)/(2*(n+1+1)+1)=q2 at *
  generalize f 1/3=q0 at *
  rcases aoV n with h|h
  .obtain ⟨e1,e2⟩:=e h;rw[show decide ((n+1)%2=1)=true from a7 aC]at hv;simp only[pM,bB]at hv;exact⟨λq=> aC,λ_=>⟨by unfold pM at *;omega,by unfold pM at *;omega⟩⟩
  .obtain ⟨e1,e2⟩:=o h;rw[show decide ((n+1)%2=1)=false from bc aC]at hv;simp only[pM,bE,bn]at hv;exact⟨λ_=>⟨by unfold pM at *;omega,by unfold pM at *;omega⟩,λq=> aC⟩
def LA{f:Nat->Nat}(hf:∀ k,f (k+1)<=f k)(n:Nat):(mP f n).2<=f 0/\f 0<=(mP f n).2+f 1/3:=by
 have ht:=Qv hf n;have h1:f 1/3<=f 0:=bk (bY _ _) (hf 0);have hb:(f 0:Int)-(f 1/3:Nat)<=pM (mP f n)/\pM (mP f n)<=f 0:=by
  rcases aoV n with h|h
  .have:=ht.1 h;generalize f (n+1)/(2*(n+1)+1)=q at *
   omega
  .have:=ht.2 h;generalize f (n+1)/(2*(n+1)+1)=q at *
   omega
 generalize mP f n=s at *
 generalize f 1/3=q at *
 obtain⟨b,m⟩:=s;cases b
 .simp only[pM,bE,bn]at hb ⊢;omega
 .simp only[pM,bB]at hb ⊢;omega
def Iq{f:Nat->Nat}(hf:∀ k,f (k+1)<=f k):∀ k,f k<=f 0
 | 0=>bg _
 |k+1=>bk (hf k) (Iq hf k)
def Dv{f:Nat->Nat}(hf:∀ k,f (k+1)<=f k){B:Nat}(hB:B<=8191)(hz:f 0<2^B)(k:Nat):(gY (f k)).length<=256:=lQ (cz (Iq hf k) hz) aC 
def Ir{f:Nat->Nat}(hf:∀ k,f (k+1)<=f k){B:Nat}(hB:B<=8191)(hz:f 0<2^B)(k:Nat):(gY (mP f k).2).length<=256/\(gY (f (k+1)/(2*(k+1)+1))).length<=256:=⟨lQ (cz (LA hf k).1 hz) aC,lQ (cz (bk (bY _ _) (Iq hf (k+1))) hz) aC⟩
def Qw{f:Nat->Nat}(hf:∀ k,f (k+1)<=f k){B:Nat}(hB:B<=8191)(hz:f 0<2^B)(k:Nat):(gY ((mP f k).2+f (k+1)/(2*(k+1)+1))).length<=256:=by
 have h1:=(LA hf k).1;have h2:=bk (bY (f (k+1)) (2*(k+1)+1)) (Iq hf (k+1));refine lQ (k:=B+1) ?_ aC;rw[bD];omega
def sB(n b:Nat):Nat->Nat
 | 0=>1*2^b/n
 |k+1=>sB n b k/(n*n)
def Vg{n b:Nat}(hn:2<=n)(k:Nat):sB n b (k+1)*2<=sB n b k:=by
 show sB n b k/(n*n)*2<=_;have h1:sB n b k/(n*n)<=sB n b k/2:=gV (by have:=dA hn hn;omega) aE;omega
def NM(n b:Nat):sB n b 0<2^(b+1):=by
 show 1*2^b/n<_;rw[bZ,bD];have:=bY (2^b) n;have:0<2^b:=bw aE;omega
def agF{n b:Nat}(hn:2<=n):∃ N,N<=b+1/\(∀ k,k<N->sB n b (k+1)≠0)/\sB n b (N+1)=0:=by
 obtain⟨N,h1,h2,h3⟩:=afH (NM n b) (Vg hn);rcases N with _|N
 .refine ⟨0,aC,λk hk=>absurd hk (bj _),?_⟩;have:=Vg (b:=b) hn 0;omega
 .exact ⟨N,aC,λk hk=>h2 (k+1) aC,h3⟩
def aiV{T x y f g:Nat}(hT:65536<=T)(hf:f=T/5)(JR:x<=f)(uZ:f<=x+f/(5*5)/3)(hy:y<=T/239)(hg:g=(jJ (false,x*2^4) (true,y*2^2)).2):2<=g/\g<=T*4/\g/2<=T*2:=by
 have h16:(2:Nat)^4=16:=rfl;have h4:(2:Nat)^2=4:=rfl;have e:g=x*16-y*4:=by
  rw[hg,h16,h4];unfold jJ;rw[aZ (show ¬false=true from Bool.false_ne_true),aZ (by show ¬x*16<y*4;omega)]
 omega
def Qu(f:Nat->Nat)(g:FuncId)(cap:List E)(N:Nat)(x:Nat):PS:=⟨30,true,[(6,.e (iP ((x+1:Nat):Int))),(5,.box 5 0),(4,.box 4 0),(2,.box 2 0),(1,.e (.fn g cap))],[(5,.cells 278 [bP ((mP f x).1),ic (gY ((mP f x).2))]),(4,.cells 278 [bP false,.v (.slice none 0 0)]),(2,.cells 278 [bP false,ic (gY (f x))])]⟩
def abO(f:Nat->Nat)(g:FuncId)(cap:List E)(N:Nat)(hp:∀ k,k<=N->gW g ((.agg [bP false,ic (gY (f k))])::cap) (.agg [bP false,ic (gY (f (k+1)))]))(hf:∀ k,f (k+1)<=f k)(B:Nat)(hB:B<=8191)(hz:f 0<2^B)(h0:∀ k,k<N->f (k+1)≠0)(hN:f (N+1)=0)(sN:N<=100000):gW 390 [.agg [bP false,ic (gY (f 0))],.fn g cap] (.agg [bP ((mP f N).1),ic (gY ((mP f N).2))]):=by
 have z00:=Dv hf hB hz 0;exact ak call390 func390 (af [.s (Sp.jC (Qu f g cap N) 0 N aC (λx hx k0=>by
    have z1:=Dv hf hB hz (x+1);have z0:=Dv hf hB hz x;have zs:=(Ir hf hB hz x).1;have zt:=(Ir hf hB hz x).2;have zu:=Qw hf hB hz x;exact iF (ae [.c (hp x aC:gW g ((.agg [bP false,ic (gY (f x))])::cap) _),ag [.agg [bP false,ic (gY (f (x+1)))]] (DP (false,(f (x+1))) aD),tF 15 ((f (x+1))=0) (h0 x aC),
     iz (2*((x+1:Nat):Int)) aC,iz (((2*(x+1):Nat):Int)+1) aC,ag [.agg [bP false,ic (gY (f (x+1)))],iP (((2*(x+1))+1:Nat):Int)] (FL (false,(f (x+1))) aD ((2*(x+1))+1) aC aC),.a (aC:0<(2:Int))]<|.w ((x+1)%2=1)
     (λho=>ae [ah 24 ((((x+1)%2:Nat):Int)==1) (by rw[ho];rfl),ag [.agg [bP false,ic (gY ((f (x+1))/((2*(x+1))+1)))]] (wS (false,((f (x+1))/((2*(x+1))+1)))),ag [.agg [bP ((mP f x).1),ic (gY ((mP f x).2))],.agg [bP (!false),ic (gY ((f (x+1))/((2*(x+1))+1)))]] (tv (mP f x) aD ((!false),((f (x+1))/((2*(x+1))+1))) aD aD),
      iz (((x+1:Nat):Int)+1) aC]<|.e (af [.b 5 (.iT (by first|rfl|simp[mP,ho]):Bx.le (.cells 278 [bP ((jJ (mP f x) ((!false),((f (x+1))/((2*(x+1))+1)))).1),ic (gY ((jJ (mP f x) ((!false),((f (x+1))/((2*(x+1))+1)))).2))]) (.cells 278 [bP ((mP f (x+1)).1),ic (gY ((mP f (x+1)).2))]))]))
     (λho=>ae [ai 24 ((((x+1)%2:Nat):Int)==1) aN,ag [.agg [bP ((mP f x).1),ic (gY ((mP f x).2))],.agg [bP false,ic (gY ((f (x+1))/((2*(x+1))+1)))]] (tv (mP f x) aD (false,((f (x+1))/((2*(x+1))+1))) aD aD),
      iz (((x+1:Nat):Int)+1) aC]<|.e (af [.b 5 (.iT (by first|rfl|simp[mP,ho]):Bx.le (.cells 278 [bP ((jJ (mP f x) (false,((f (x+1))/((2*(x+1))+1)))).1),ic (gY ((jJ (mP f x) (false,((f (x+1))/((2*(x+1))+1)))).2))]) (.cells 278 [bP ((mP f (x+1)).1),ic (gY ((mP f (x+1)).2))]))]))) aF)
  (λhx=>by
    have z1:=Dv hf hB hz (N+1);have z0:=Dv hf hB hz N;have zs:=(Ir hf hB hz N).1;have zt:=(Ir hf hB hz N).2;have zu:=Qw hf hB hz N;exact iF (af [.c (hp N aC:gW g ((.agg [bP false,ic (gY (f N))])::cap) _),ag [.agg [bP false,ic (gY (f (N+1)))]] (DP (false,(f (N+1))) aD),tB 15 (a7 hN)]) aF) aI:jA 4 f390 (Qu f g cap N 0) .ret ⟨30,true,[(4,.box 4 0)],[(4,.cells 278 [bP ((mP f N).1),ic (gY ((mP f N).2))])]⟩) (af [.o 6 (aq 1 ((0+1:Nat):Int) aO),.b 5 (.iT (by first|rfl|simp[mP,ho]):Bx.le (.cells 278 [bP false,ic (gY (f 0))]) (.cells 278 [bP ((mP f 0).1),ic (gY ((mP f 0).2))]))])]) 
def abZ(m n:Nat)(hm:(gY m).length<=256)(rI:n≠0)(hn:n<60000):gW 391 [.agg [bP false,ic (gY m)],(.iQ 1 λj_=>[iP n].getD j_ .any)] (.agg [bP false,ic (gY (m/(n*n)))]):=by
 have hnn:n*n<3600000000:=aoW hn hn;have hnz:n*n≠0:=dD rI rI;exact ak call391 func391 (af [iz ((n:Int)*(n:Int)) aC,ag [.agg [bP false,ic (gY m)],iP ((n*n:Nat):Int)] (FL (false,m) aD (n*n) aC aC)]) 
def ab0(n b:Nat)(S:Bool×Nat)(rI:n≠0)(hn:n<60000)(hb:b<=8000)(hS:gW 390 [.agg [bP false,ic (gY (1*2^b/n))],.fn 391 [(.iQ 1 λj_=>[iP n].getD j_ .any)]] (.agg [bP S.1,ic (gY S.2)])):gW 389 [iP n,iP b] (.agg [bP S.1,ic (gY S.2)]):=by
 have z0:(gY 1).length<=256:=tJ aE;have z1:(gY (1*2^b)).length<=256:=lQ (k:=b+1) (by rw[bD,bZ];have:0<2^b:=bw aE;omega) aC;exact ak call389 func389 (af [.o 6 (.e yx:aj (.sl false 1 1 λi_ j_=>[.v (.int .u32 1)].getD (i_*1+j_) (.v (.bool false))) (ic (gY 1))),.c (AH 1 b aD aC aD),ag [.agg [bP false,ic (gY (1*2^b))],iP n] (FL (false,(1*2^b)) aD n aC aC),ag [.agg [bP false,ic (gY ((1*2^b)/n))],.fn 391 [(.iQ 1 λj_=>[iP n].getD j_ .any)]] hS]) 
def Rr(n b:Nat)(rI:2<=n)(hn:n<60000)(hb:b<=8000):∃ S:Bool×Nat,S.2<=2^b/n/\2^b/n<=S.2+2^b/n/(n*n)/3/\gW 389 [iP (n:Int),iP (b:Int)] (.agg [bP S.1,ic (gY S.2)]):=by
 obtain⟨N,h1,h2,h3⟩:=agF (b:=b) rI;have hf:∀ k,sB n b (k+1)<=sB n b k:=λk=>bY _ _
 obtain⟨r1,r2⟩:=LA hf N;have e0:sB n b 0=2^b/n:=by show 1*2^b/n=_;rw[bZ]
 have e1:sB n b 1=2^b/n/(n*n):=by show sB n b 0/(n*n)=_;rw[e0]
 refine⟨mP (sB n b) N,by rw[<-e0];exact r1,by rw[<-e1,<-e0];exact r2,?_⟩;exact ab0 n b _ aC hn hb (abO (sB n b) 391 _ N (λk _=>abZ (sB n b k) n (Dv hf (aC:b+1<=8191) (NM n b) k) aC hn) hf (b+1) aC (NM n b) h2 h3 aC)
def ab6(b:Nat)(x y:Bool×Nat)(zx:x.2<2^b)(zy:y.2<2^b)(hb:b<=8000)(hx:gW 389 [iP ((5:Nat):Int),iP (b:Int)] (.agg [bP x.1,ic (gY x.2)]))(hy:gW 389 [iP ((239:Nat):Int),iP (b:Int)] (.agg [bP y.1,ic (gY y.2)])):gW 378 [iP b] (.agg [bP ((jJ (false,x.2*2^4) (true,y.2*2^2)).1),ic (gY ((jJ (false,x.2*2^4) (true,y.2*2^2)).2))]):=by
 have z1:(gY x.2).length<=256:=lQ zx aC;have z2:(gY y.2).length<=256:=lQ zy aC;have e5:2^(b+5)=2^b*32:=by rw[bt]
 have z3:(gY (x.2*2^4)).length<=256:=lQ (k:=b+5) aC aC;have z4:(gY (y.2*2^2)).length<=256:=lQ (k:=b+5) aC aC;have z5:(gY (x.2*2^4+y.2*2^2)).length<=256:=lQ (k:=b+5) aC aC;exact ak call378 func378 (af [ag [iP 5,iP b] hx,ag [iP 239,iP b] hy,.c (AH x.2 4 aD aC aD),.c (AH y.2 2 aD aC aD),ag [.agg [bP false,ic (gY (x.2*2^4))],.agg [bP true,ic (gY (y.2*2^2))]] (tv (false,(x.2*2^4)) aD (true,(y.2*2^2)) aD aD)]) 
def Rs(b:Nat)(jK:16<=b)(hb:b<=8000):∃ c:Bool×Nat,2<=c.2/\c.2<=2^b*4/\c.2/2<=2^b*2/\gW 378 [iP (b:Int)] (.agg [bP c.1,ic (gY c.2)]):=by
 obtain⟨x,x1,x2,hx⟩:=Rr 5 b aE aE hb;obtain⟨y,y1,y2,hy⟩:=Rr 239 b aE aE hb;have hT:65536<=2^b:=by have:=bK (show 0<2 by decide) jK;omega
 obtain⟨g1,g2,g3⟩:=aiV hT rfl x1 x2 y1 rfl;exact⟨_,g1,g2,g3,ab6 b x y aC aC hb hx hy⟩
def ZM(n:Nat)(h:n<4294967296):bits .and .u32 (n:Int) 3=((n%4:Nat):Int):=by
 have:=bits_and_u32_nat n 3 h aE;rw[show((3:Int))=((3:Nat):Int)from rfl,this];exact congrArg _ (aoO n 2)
def agj(k:Nat)(h:k<=3):bits .and .i64 (4-(k:Int)) 3=(((4-k)%4:Nat):Int):=by
 rcases(aC:k=0\/k=1\/k=2\/k=3)with rfl|rfl|rfl|rfl<;>decide
def aea{x:Bool×Nat}{m:Nat}(h:m<=x.2):jJ x (!x.1,m)=(x.1,x.2-m):=by
 unfold jJ;rw[aZ (by show ¬x.1 = !x.1;cases x.1<;>decide),aZ (by show ¬x.2<m;omega)]
def ajI(n:Nat):n%4<=3:= aC 
def ajH(n:Nat):(4-n)%4<=3:= aC 
def ajJ{x:Bool×Nat}{H b t:Nat}(h0:1<=H)(hH:H<=2^(b+t+40)*2):(jJ x (!x.1,x.2/H*H)).2/2^(t+40)<=2^(b+1):=by
 rw[aea (de _ _)];show(x.2-x.2/H*H)/_<=_;have h1:x.2-x.2/H*H=x.2%H:=by
  have:=cI x.2 H;rw[bG H]at this;omega
 have h2:=bH x.2 (aC:0<H);rw[h1];refine Nat.div_le_of_le_mul (bk (dq h2) (bk hH (gP ?_)));rw[<-bt,(aC:t+40+(b+1)=b+t+40+1)];exact(bD 2 (b+t+40)).symm
def lj(x:Bool×Nat):Nat->Bool
 | 0=>false
 |k+1=>(lj x k != x.1)
def jL(x:Bool×Nat)(b:Nat):Nat->(Bool×Nat)×(Bool×Nat)
 | 0=>((false,0),(false,1*2^b))
 |k+1=>if(k+1)%2=1 then(jJ (jL x b k).1 ((if 2<=(k+1)%4 then !(lj x (k+1))else lj x (k+1)),jZ x.2 b (k+1)),(jL x b k).2)
  else((jL x b k).1,jJ (jL x b k).2 ((if 2<=(k+1)%4 then !(lj x (k+1))else lj x (k+1)),jZ x.2 b (k+1)))
def YR{x:Bool×Nat}{b:Nat}(h:x.2<=2^(b+1)):∀ k,(jL x b k).1.2<=(k+1)*2^(b+1)/\(jL x b k).2.2<=(k+1)*2^(b+1)
 | 0=>⟨bV _,by show 1*2^b<=_;have:=bD (n:=2) (m:=b);omega⟩
 |k+1=>by
  obtain⟨h1,h2⟩:=YR h k;have h3:=FP h (k+1);have h4:(k+1+1)*2^(b+1)=(k+1)*2^(b+1)+2^(b+1):=gU _ _;unfold jL;split
  .refine ⟨bk (xL _ _) ?_,by rw[h4];exact bk h2 (Nat.le_add_right _ _)⟩;rw[h4];exact Nat.add_le_add h1 h3
  .refine ⟨by rw[h4];exact bk h1 (Nat.le_add_right _ _),bk (xL _ _) ?_⟩;rw[h4];exact Nat.add_le_add h2 h3
def YS{x:Bool×Nat}{b:Nat}(h:x.2<=2^(b+1))(hb:b<=3000){k:Nat}(hk:k<=b+5):(jL x b k).1.2<2^(b+14)/\(jL x b k).2.2<2^(b+14):=by
 obtain⟨h1,h2⟩:=YR h k;have h3:(k+1)*2^(b+1)<2^(b+14):=by
  rw[(aC:b+14=13+(b+1)),bt 2 13];exact dh aC (bw aE)
 exact⟨cz h1 h3,cz h2 h3⟩
def aes{T:TypeId}:Bx.le (.cells T [bP false,.v (.slice none 0 0)]) (.cells T [bP false,ic (gY 0)]):=
 .cells (λ_=>rfl) (.cons (.refl _) (.cons C0 .nil))
structure aaq(x:Bool×Nat)(b k:Nat):Prop where
 t0:(gY (jZ x.2 b k)).length<=256
 t1:(gY (jZ x.2 b (k+1))).length<=256
 tm:(gY (jZ x.2 b k*x.2)).length<=256
 tq:(gY (jZ x.2 b k*x.2/2^b)).length<=256
 s0:(gY (jL x b k).1.2).length<=256
 c0:(gY (jL x b k).2.2).length<=256
 s1:(gY ((jL x b k).1.2+jZ x.2 b (k+1))).length<=256
 c1:(gY ((jL x b k).2.2+jZ x.2 b (k+1))).length<=256
def YQ{x:Bool×Nat}{b:Nat}(h:x.2<=2^(b+1))(hb:b<=3000){k:Nat}(hk:k<=b+5):aaq x b k:=by
 have hp:(2:Nat)^(b+2)=2^(b+1)*2:=bD _ _;have hq:(0:Nat)<2^(b+1):=bw aE;have t0:=FP h k;have t1:=FP h (k+1);obtain⟨s,c⟩:=YS h hb hk;have hm:jZ x.2 b k*x.2<2^(b+2+(b+2)):=by
  rw[bt];exact aoW aC aC 
 have e14:(2:Nat)^(b+15)=2^(b+14)*2:=bD _ _;have e13:(2:Nat)^(b+1)<=2^(b+14):=bK aE aC;exact⟨lQ (k:=b+2) aC aC,lQ (k:=b+2) aC aC,lQ hm aC,lQ (cz (bY _ _) hm) aC,
  lQ s aC,lQ c aC,lQ (k:=b+15) aC aC,lQ (k:=b+15) aC aC⟩
def We{s:Bool}{m b:Nat}(h:m<2^4000)(hb:b<=8000):mZ (canon s m (-(b:Int))):=by
 by_cases h0:m=0
 .subst h0;exact .inl rfl
 .have e:canon s m (-(b:Int))=⟨s,m/2^jN m,-(b:Int)+jN m⟩:=by unfold canon;rw[aZ h0]
  have h1:iq m<=4000:=mj.2 h;have h2:=uH (bY m (2^jN m));have h3:jN m<=4000:=by
   have:=GZ h0;apply bU;intro hc;have:=bK (show 0<2 by decide) (aC:4000<=jN m);omega
  rw[e];exact .inr ⟨by show iq (m/2^jN m)<=4096;omega,by show -16384 <= -(b:Int)+jN m;omega,by show -(b:Int)+jN m<=16384;omega,by show(iq (m/2^jN m):Int)+(-(b:Int)+jN m)<=16384;omega⟩
def Ko{a b i j n:Nat}(ha:a<2^i)(hb:b<2^j)(hi:i<=n)(hj:j<=n):a+b<2^(n+1):=by
 have h1:=bK (show 0<2 by decide) hi;have h2:=bK (show 0<2 by decide) hj;have e:2^(n+1)=2^n*2:=bD _ _;omega
def aeb{a b:Bool×Nat}{i j n:Nat}(ha:a.2<2^i)(hb:b.2<2^j)(hi:i<=n)(hj:j<=n):(jJ a b).2<2^(n+1):=cz (xL _ _) (Ko ha hb hi hj)
def Wf{s:Bool}{m:Nat}{e:Int}(h:mZ (canon s m e)):(canon s m e).ij:=⟨tl _ _ _,h⟩
def G3{m i k:Nat}(h:m<2^i)(hk:i<=k):m<2^k:=bQ h (bK aE hk)
def pZ(a c:Bool×Nat):Bool×Nat:=if a.1=true/\a.2%c.2≠0 then jJ (a.1,a.2/c.2) (true,1)else(a.1,a.2/c.2)
def S8(a c:Bool×Nat):(pZ a c).2<=a.2/c.2+1:=by
 unfold pZ;split
 .exact xL _ _
 .exact Nat.le_succ _
def aen(a c:Bool×Nat):(pZ a c).2*c.2<=a.2+c.2:=by
 refine bk (bL c.2 (S8 a c)) ?_;rw[gU];exact Nat.add_le_add_right (de _ _) _
def V3{lo hi:Dy}{e f:Int}(h:e≠0\/f≠0):mf lo e hi f=ia:=a6 h
def ahI{lo hi:Dy}{e f:Int}(h:e=0)(k:f=0):mf lo e hi f=⟨lo,hi,false⟩:=aZ (by rw[h,k];decide)
def Yw(x:Bool×Nat)(b N:Nat)(i:Nat):PS:=⟨43,true,[(8,.e (iP ((i+1:Nat):Int))),(7,.box 7 0),(5,.box 5 0),(4,.box 4 0),(2,.box 2 0),(1,.e (iP b))],[(5,.cells 278 [bP (((jL x b i).2).1),ic (gY (((jL x b i).2).2))]),(7,.cells 278 [bP (lj x i),ic (gY (jZ x.2 b i))]),(4,.cells 278 [bP (((jL x b i).1).1),ic (gY (((jL x b i).1).2))]),(2,.cells 278 [bP x.1,ic (gY x.2)])]⟩
def J4(n i:Nat):(gY n).getD i 0<4294967296:=by
 by_cases h:i<(gY n).length
 .rw [bh,bu h];exact mz n _ (cA h)
 .rw [bh,cj aC];decide
def acm(d:Dy)(b t m:Nat)(cp:Bool×Nat)(hd:d.ij)(ht:t=d.iw.toNat)(jK:16<=b)(kK:b<=2000)(sT:t<=2000)(K:Nat)(hK:K<=6000)(zx:m<2^K)(zc:2<=cp.2)(zd:(gY cp.2).length<=256)(rW:gW 378 [iP (((b+t)+40:Nat):Int)] (.agg [bP cp.1,ic (gY cp.2)]))(uT:gW 384 [ie d,iP (((b+t)+40:Nat):Int)] (.agg [bP true,ic (gY m)]))(hn:0<(gY (m/(cp.2/2^1))).length):gW 374 [ie d,iP b] (.ix [.agg [bP ((jJ (true,m) (false,((m/(cp.2/2^1))*(cp.2/2^1)))).1),ic (gY ((jJ (true,m) (false,((m/(cp.2/2^1))*(cp.2/2^1)))).2/2^(t+40)))],iP (((4-((gY (m/(cp.2/2^1))).getD 0 0%4))%4:Nat):Int)]):=by
 have Nv:=Hs hd;have zX:(gY m).length<=256:=lQ zx aC;have zH:(gY (cp.2/2^1)).length<=256:=bk (mV (bY _ _)) zd;have nH:(cp.2/2^1)≠0:= aC ;have mM:((m/(cp.2/2^1))*(cp.2/2^1))<=m:=de _ _;have zN:(gY (m/(cp.2/2^1))).length<=256:=bk (mV (bY _ _)) zX;have zM:(gY ((m/(cp.2/2^1))*(cp.2/2^1))).length<=256:=bk (mV mM) zX;have zA:(gY (m+((m/(cp.2/2^1))*(cp.2/2^1)))).length<=256:=lQ (k:=K+1) (by have:=bD 2 K;omega) aC;have zR:(gY (jJ (true,m) (false,((m/(cp.2/2^1))*(cp.2/2^1)))).2).length<=256:=bk (mV (xL _ _)) zA;have zm:(gY (m%(cp.2/2^1))).length<=256:=bk (mV (eC _ _)) zX;have hg:(gY (m/(cp.2/2^1))).getD 0 0<4294967296:=J4 _ 0;have h4:(gY (m/(cp.2/2^1))).getD 0 0%4<=3:= aC ;exact ak call374 func374 (af [ag [ie d] (oo _ aD),.o 19 (aq (if 0>(Dy.iw d)then 0 else(Dy.iw d)) t aM),iz ((b:Int)+t) aC,
  iz (((b+t:Nat):Int)+40) aC,ag [iP (((b+t)+40:Nat):Int)] rW,.c (wO cp.2 1 aD aC),ag [ie d,iP (((b+t)+40:Nat):Int)] uT,ag [ic (gY m),ic (gY (cp.2/2^1))] (zV _ _ aC aC aD),ag [ic (gY (m/(cp.2/2^1))),ic (gY (cp.2/2^1))] (zW _ _ aD aD aD),ag [.agg [bP true,ic (gY m)],.agg [bP false,ic (gY ((m/(cp.2/2^1))*(cp.2/2^1)))]] (tv (true,m) aD (false,((m/(cp.2/2^1))*(cp.2/2^1))) aD aD),tT 61 (0<((gY (m/(cp.2/2^1))).length:Int)) aC,iX 0 ((gY (m/(cp.2/2^1))).length) aC,.o 65 (.int (ZM _ aC):aj (.v (.int .u32 (bits .and .u32 (((gY (m/(cp.2/2^1))).getD 0 0:Nat):Int) 3))) (.v (.int .u32 ((((gY (m/(cp.2/2^1))).getD 0 0)%4:Nat):Int)))),.o 66 (aq (IntKind.i64.wrap ((((gY (m/(cp.2/2^1))).getD 0 0)%4:Nat):Int)) ((((gY (m/(cp.2/2^1))).getD 0 0)%4:Nat):Int) (U7 _ aC)),
  iz (4-((((gY (m/(cp.2/2^1))).getD 0 0)%4:Nat):Int)) aC,.o 71 (aq (bits .and .i64 (4-((((gY (m/(cp.2/2^1))).getD 0 0)%4:Nat):Int)) 3) (((4-((gY (m/(cp.2/2^1))).getD 0 0%4))%4:Nat):Int) (agj _ aC)),
  iz ((t:Int)+40) aC,.c (wO ((jJ (true,m) (false,((m/(cp.2/2^1))*(cp.2/2^1)))).2) (t+40) aD aC)]) 
def acj(d:Dy)(b t m:Nat)(cp:Bool×Nat)(hd:d.ij)(ht:t=d.iw.toNat)(jK:16<=b)(kK:b<=2000)(sT:t<=2000)(K:Nat)(hK:K<=6000)(zx:m<2^K)(zc:2<=cp.2)(zd:(gY cp.2).length<=256)(rW:gW 378 [iP (((b+t)+40:Nat):Int)] (.agg [bP cp.1,ic (gY cp.2)]))(uT:gW 384 [ie d,iP (((b+t)+40:Nat):Int)] (.agg [bP true,ic (gY m)]))(hn:¬0<(gY (m/(cp.2/2^1))).length):gW 374 [ie d,iP b] (.ix [.agg [bP ((jJ (true,m) (false,((m/(cp.2/2^1))*(cp.2/2^1)))).1),ic (gY ((jJ (true,m) (false,((m/(cp.2/2^1))*(cp.2/2^1)))).2/2^(t+40)))],iP 0]):=by
 have Nv:=Hs hd;have zX:(gY m).length<=256:=lQ zx aC;have zH:(gY (cp.2/2^1)).length<=256:=bk (mV (bY _ _)) zd;have nH:(cp.2/2^1)≠0:= aC ;have mM:((m/(cp.2/2^1))*(cp.2/2^1))<=m:=de _ _;have zN:(gY (m/(cp.2/2^1))).length<=256:=bk (mV (bY _ _)) zX;have zM:(gY ((m/(cp.2/2^1))*(cp.2/2^1))).length<=256:=bk (mV mM) zX;have zA:(gY (m+((m/(cp.2/2^1))*(cp.2/2^1)))).length<=256:=lQ (k:=K+1) (by have:=bD 2 K;omega) aC;have zR:(gY (jJ (true,m) (false,((m/(cp.2/2^1))*(cp.2/2^1)))).2).length<=256:=bk (mV (xL _ _)) zA;have zm:(gY (m%(cp.2/2^1))).length<=256:=bk (mV (eC _ _)) zX;have hg:(gY (m/(cp.2/2^1))).getD 0 0<4294967296:=J4 _ 0;have h4:(gY (m/(cp.2/2^1))).getD 0 0%4<=3:= aC ;exact ak call374 func374 (af [ag [ie d] (oo _ aD),.o 19 (aq (if 0>(Dy.iw d)then 0 else(Dy.iw d)) t aM),iz ((b:Int)+t) aC,
  iz (((b+t:Nat):Int)+40) aC,ag [iP (((b+t)+40:Nat):Int)] rW,.c (wO cp.2 1 aD aC),ag [ie d,iP (((b+t)+40:Nat):Int)] uT,ag [ic (gY m),ic (gY (cp.2/2^1))] (zV _ _ aC aC aD),ag [ic (gY (m/(cp.2/2^1))),ic (gY (cp.2/2^1))] (zW _ _ aD aD aD),ag [.agg [bP true,ic (gY m)],.agg [bP false,ic (gY ((m/(cp.2/2^1))*(cp.2/2^1)))]] (tv (true,m) aD (false,((m/(cp.2/2^1))*(cp.2/2^1))) aD aD),tF 61 (0<((gY (m/(cp.2/2^1))).length:Int)) aC,iz (4-0) aC,.o 71 (aq (bits .and .i64 (4-0) 3) 0 aE),iz ((t:Int)+40) aC,.c (wO ((jJ (true,m) (false,((m/(cp.2/2^1))*(cp.2/2^1)))).2) (t+40) aD aC)]) 
def acn(d:Dy)(b t m:Nat)(cp:Bool×Nat)(hd:d.ij)(ht:t=d.iw.toNat)(jK:16<=b)(kK:b<=2000)(sT:t<=2000)(K:Nat)(hK:K<=6000)(zx:m<2^K)(zc:2<=cp.2)(zd:(gY cp.2).length<=256)(rW:gW 378 [iP (((b+t)+40:Nat):Int)] (.agg [bP cp.1,ic (gY cp.2)]))(uT:gW 384 [ie d,iP (((b+t)+40:Nat):Int)] (.agg [bP false,ic (gY m)]))(hn:0<(gY (m/(cp.2/2^1))).length):gW 374 [ie d,iP b] (.ix [.agg [bP ((jJ (false,m) (true,((m/(cp.2/2^1))*(cp.2/2^1)))).1),ic (gY ((jJ (false,m) (true,((m/(cp.2/2^1))*(cp.2/2^1)))).2/2^(t+40)))],iP (((gY (m/(cp.2/2^1))).getD 0 0%4:Nat):Int)]):=by
 have Nv:=Hs hd;have zX:(gY m).length<=256:=lQ zx aC;have zH:(gY (cp.2/2^1)).length<=256:=bk (mV (bY _ _)) zd;have nH:(cp.2/2^1)≠0:= aC ;have mM:((m/(cp.2/2^1))*(cp.2/2^1))<=m:=de _ _;have zN:(gY (m/(cp.2/2^1))).length<=256:=bk (mV (bY _ _)) zX;have zM:(gY ((m/(cp.2/2^1))*(cp.2/2^1))).length<=256:=bk (mV mM) zX;have zA:(gY (m+((m/(cp.2/2^1))*(cp.2/2^1)))).length<=256:=lQ (k:=K+1) (by have:=bD 2 K;omega) aC;have zR:(gY (jJ (false,m) (true,((m/(cp.2/2^1))*(cp.2/2^1)))).2).length<=256:=bk (mV (xL _ _)) zA;have zm:(gY (m%(cp.2/2^1))).length<=256:=bk (mV (eC _ _)) zX;have hg:(gY (m/(cp.2/2^1))).getD 0 0<4294967296:=J4 _ 0;have h4:(gY (m/(cp.2/2^1))).getD 0 0%4<=3:= aC ;exact ak call374 func374 (af [ag [ie d] (oo _ aD),.o 19 (aq (if 0>(Dy.iw d)then 0 else(Dy.iw d)) t aM),iz ((b:Int)+t) aC,
  iz (((b+t:Nat):Int)+40) aC,ag [iP (((b+t)+40:Nat):Int)] rW,.c (wO cp.2 1 aD aC),ag [ie d,iP (((b+t)+40:Nat):Int)] uT,ag [ic (gY m),ic (gY (cp.2/2^1))] (zV _ _ aC aC aD),ag [ic (gY (m/(cp.2/2^1))),ic (gY (cp.2/2^1))] (zW _ _ aD aD aD),ag [.agg [bP false,ic (gY m)],.agg [bP true,ic (gY ((m/(cp.2/2^1))*(cp.2/2^1)))]] (tv (false,m) aD (true,((m/(cp.2/2^1))*(cp.2/2^1))) aD aD),tT 61 (0<((gY (m/(cp.2/2^1))).length:Int)) aC,iX 0 ((gY (m/(cp.2/2^1))).length) aC,.o 65 (.int (ZM _ aC):aj (.v (.int .u32 (bits .and .u32 (((gY (m/(cp.2/2^1))).getD 0 0:Nat):Int) 3))) (.v (.int .u32 ((((gY (m/(cp.2/2^1))).getD 0 0)%4:Nat):Int)))),.o 66 (aq (IntKind.i64.wrap ((((gY (m/(cp.2/2^1))).getD 0 0)%4:Nat):Int)) ((((gY (m/(cp.2/2^1))).getD 0 0)%4:Nat):Int) (U7 _ aC)),
  iz ((t:Int)+40) aC,.c (wO ((jJ (false,m) (true,((m/(cp.2/2^1))*(cp.2/2^1)))).2) (t+40) aD aC)]) 
def ack(d:Dy)(b t m:Nat)(cp:Bool×Nat)(hd:d.ij)(ht:t=d.iw.toNat)(jK:16<=b)(kK:b<=2000)(sT:t<=2000)(K:Nat)(hK:K<=6000)(zx:m<2^K)(zc:2<=cp.2)(zd:(gY cp.2).length<=256)(rW:gW 378 [iP (((b+t)+40:Nat):Int)] (.agg [bP cp.1,ic (gY cp.2)]))(uT:gW 384 [ie d,iP (((b+t)+40:Nat):Int)] (.agg [bP false,ic (gY m)]))(hn:¬0<(gY (m/(cp.2/2^1))).length):gW 374 [ie d,iP b] (.ix [.agg [bP ((jJ (false,m) (true,((m/(cp.2/2^1))*(cp.2/2^1)))).1),ic (gY ((jJ (false,m) (true,((m/(cp.2/2^1))*(cp.2/2^1)))).2/2^(t+40)))],iP 0]):=by
 have Nv:=Hs hd;have zX:(gY m).length<=256:=lQ zx aC;have zH:(gY (cp.2/2^1)).length<=256:=bk (mV (bY _ _)) zd;have nH:(cp.2/2^1)≠0:= aC ;have mM:((m/(cp.2/2^1))*(cp.2/2^1))<=m:=de _ _;have zN:(gY (m/(cp.2/2^1))).length<=256:=bk (mV (bY _ _)) zX;have zM:(gY ((m/(cp.2/2^1))*(cp.2/2^1))).length<=256:=bk (mV mM) zX;have zA:(gY (m+((m/(cp.2/2^1))*(cp.2/2^1)))).length<=256:=lQ (k:=K+1) (by have:=bD 2 K;omega) aC;have zR:(gY (jJ (false,m) (true,((m/(cp.2/2^1))*(cp.2/2^1)))).2).length<=256:=bk (mV (xL _ _)) zA;have zm:(gY (m%(cp.2/2^1))).length<=256:=bk (mV (eC _ _)) zX;have hg:(gY (m/(cp.2/2^1))).getD 0 0<4294967296:=J4 _ 0;have h4:(gY (m/(cp.2/2^1))).getD 0 0%4<=3:= aC ;exact ak call374 func374 (af [ag [ie d] (oo _ aD),.o 19 (aq (if 0>(Dy.iw d)then 0 else(Dy.iw d)) t aM),iz ((b:Int)+t) aC,
  iz (((b+t:Nat):Int)+40) aC,ag [iP (((b+t)+40:Nat):Int)] rW,.c (wO cp.2 1 aD aC),ag [ie d,iP (((b+t)+40:Nat):Int)] uT,ag [ic (gY m),ic (gY (cp.2/2^1))] (zV _ _ aC aC aD),ag [ic (gY (m/(cp.2/2^1))),ic (gY (cp.2/2^1))] (zW _ _ aD aD aD),ag [.agg [bP false,ic (gY m)],.agg [bP true,ic (gY ((m/(cp.2/2^1))*(cp.2/2^1)))]] (tv (false,m) aD (true,((m/(cp.2/2^1))*(cp.2/2^1))) aD aD),tF 61 (0<((gY (m/(cp.2/2^1))).length:Int)) aC,iz ((t:Int)+40) aC,.c (wO ((jJ (false,m) (true,((m/(cp.2/2^1))*(cp.2/2^1)))).2) (t+40) aD aC)]) 
def aci(d:Dy)(b:Nat)(hd:d.ij)(jK:16<=b)(kK:b<=1000)(ht:d.iw<=100):∃ (r:Bool×Nat) (k:Nat),r.2<=2^(b+1)/\k<=3/\gW 374 [ie d,iP (b:Int)] (.ix [.agg [bP r.1,ic (gY r.2)],iP (k:Int)]):=by
 obtain⟨t,sT⟩:∃ t,t=d.iw.toNat:=⟨_,rfl⟩
 obtain⟨cp,c1,c2,c3,rW⟩:=Rs (b+t+40) aC aC;have uT:=LJ d hd (b+t+40) 6000 aC aE aC;have iB:=Kf (d:=d) (b:=b+t+40) (K:=6000) aC;generalize rM d (b+t+40)=x at uT iB;have hp:(2:Nat)^(b+t+40+3)=2^(b+t+40)*8:=by rw[bt]
 have zd:(gY cp.2).length<=256:=lQ (k:=b+t+40+3) (by have:0<2^(b+t+40):=bw aE;omega) aC;obtain⟨sg,m⟩:=x;have hle:=ajJ (x:=(sg,m)) (H:=cp.2/2^1) (b:=b) (t:=t) aC c3;by_cases hn:0<(gY (m/(cp.2/2^1))).length
 .cases sg with
  |false=>exact⟨((jJ (false,m) (true,m/(cp.2/2^1)*(cp.2/2^1))).1,(jJ (false,m) (true,m/(cp.2/2^1)*(cp.2/2^1))).2/2^(t+40)),_,hle,ajI _,acn d b t m cp hd sT jK aC aC 6000 aE iB c1 zd rW uT hn⟩
  |true=>exact⟨((jJ (true,m) (false,m/(cp.2/2^1)*(cp.2/2^1))).1,(jJ (true,m) (false,m/(cp.2/2^1)*(cp.2/2^1))).2/2^(t+40)),_,hle,ajH _,acm d b t m cp hd sT jK aC aC 6000 aE iB c1 zd rW uT hn⟩
 .cases sg with
  |false=>exact⟨((jJ (false,m) (true,m/(cp.2/2^1)*(cp.2/2^1))).1,(jJ (false,m) (true,m/(cp.2/2^1)*(cp.2/2^1))).2/2^(t+40)),_,hle,bV 3,ack d b t m cp hd sT jK aC aC 6000 aE iB c1 zd rW uT hn⟩
  |true=>exact⟨((jJ (true,m) (false,m/(cp.2/2^1)*(cp.2/2^1))).1,(jJ (true,m) (false,m/(cp.2/2^1)*(cp.2/2^1))).2/2^(t+40)),_,hle,bV 3,acj d b t m cp hd sT jK aC aC 6000 aE iB c1 zd rW uT hn⟩
def acp(x:Bool×Nat)(b N:Nat)(uZ:x.2<=2^(b+1))(hb:b<=3000)(sN:N<=b+4)(h0:∀ k,k<N+1->jZ x.2 b k≠0)(hN:jZ x.2 b (N+1)=0):gW 375 [.agg [bP x.1,ic (gY x.2)],iP b] (.ix [.agg [bP (((jL x b N).1).1),ic (gY (((jL x b N).1).2))],.agg [bP (((jL x b N).2).1),ic (gY (((jL x b N).2).2))]]):=by
 have zx:(gY x.2).length<=256:=lQ (k:=b+2) (by have e:2^(b+2)=2^(b+1)*2:=bD _ _;have:0<2^(b+1):=bw aE;omega) aC;have z0:(gY 1).length<=256:=tJ aE;have z1:(gY (1*2^b)).length<=256:=lQ (k:=b+1) (by rw[bD,bZ];have:0<2^b:=bw aE;omega) aC;exact ak call375 func375 (af [.o 10 (.e yx:aj (.sl false 1 1 λi_ j_=>[.v (.int .u32 1)].getD (i_*1+j_) (.v (.bool false))) (ic (gY 1))),.c (AH 1 b aD aC aD),.s (Sp.jC (Yw x b N) 0 N aC (λi hi nQ=>by
    have SF:=YQ uZ hb (k:=i) aC;obtain⟨f0,f1,f2,f3,f4,f5,f6,f7⟩:=SF;exact iF (ae [ag [.agg [bP (lj x i),ic (gY (jZ x.2 b i))],.agg [bP x.1,ic (gY x.2)],iP b] (Mo ((lj x i),(jZ x.2 b i)) aD x aD _ aC aD),ag [.agg [bP ((lj x i) != x.1),ic (gY ((jZ x.2 b i)*x.2/2^b))],iP ((i+1:Nat):Int)] (FL (((lj x i) != x.1),((jZ x.2 b i)*x.2/2^b)) aD (i+1) aC aC),ag [.agg [bP (lj x (i+1)),ic (gY (jZ x.2 b (i+1)))]] (DP ((lj x (i+1)),(jZ x.2 b (i+1))) aD),tF 25 ((jZ x.2 b (i+1))=0) (h0 (i+1) aC),.a (aC:0<(4:Int))]<|.w (2<=(i+1)%4)
     (λh4=>ae [tT 31 (2<=(((i+1)%4:Nat):Int)) aC,ag [.agg [bP (lj x (i+1)),ic (gY (jZ x.2 b (i+1)))]] (wS ((lj x (i+1)),(jZ x.2 b (i+1)))),.a (aC:0<(2:Int))]<|.w ((i+1)%2=1)
      (λho=>ae [ah 36 ((((i+1)%2:Nat):Int)==1) (by rw[ho];rfl),ag [.agg [bP (((jL x b i).1).1),ic (gY (((jL x b i).1).2))],.agg [bP (!(lj x (i+1))),ic (gY (jZ x.2 b (i+1)))]] (tv ((jL x b i).1) aD ((!(lj x (i+1))),(jZ x.2 b (i+1))) aD aD),
       iz (((i+1:Nat):Int)+1) aC]<|.e (af [.b 5 (.iT (by first|rfl|simp[jL,lj,jZ,ho,h4]|simp[jL,lj,jZ]):Bx.le (.cells 278 [bP (((jL x b i).2).1),ic (gY (((jL x b i).2).2))]) (.cells 278 [bP (((jL x b (i+1)).2).1),ic (gY (((jL x b (i+1)).2).2))])),.b 4 (.iT (by first|rfl|simp[jL,lj,jZ,ho,h4]|simp[jL,lj,jZ]):Bx.le (.cells 278 [bP ((jJ ((jL x b i).1) ((!(lj x (i+1))),(jZ x.2 b (i+1)))).1),ic (gY ((jJ ((jL x b i).1) ((!(lj x (i+1))),(jZ x.2 b (i+1)))).2))]) (.cells 278 [bP (((jL x b (i+1)).1).1),ic (gY (((jL x b (i+1)).1).2))]))]))
      (λho=>ae [ai 36 ((((i+1)%2:Nat):Int)==1) aN,ag [.agg [bP (((jL x b i).2).1),ic (gY (((jL x b i).2).2))],.agg [bP (!(lj x (i+1))),ic (gY (jZ x.2 b (i+1)))]] (tv ((jL x b i).2) aD ((!(lj x (i+1))),(jZ x.2 b (i+1))) aD aD),
       iz (((i+1:Nat):Int)+1) aC]<|.e (af [.b 5 (.iT (by first|rfl|simp[jL,lj,jZ,ho,h4]|simp[jL,lj,jZ]):Bx.le (.cells 278 [bP ((jJ ((jL x b i).2) ((!(lj x (i+1))),(jZ x.2 b (i+1)))).1),ic (gY ((jJ ((jL x b i).2) ((!(lj x (i+1))),(jZ x.2 b (i+1)))).2))]) (.cells 278 [bP (((jL x b (i+1)).2).1),ic (gY (((jL x b (i+1)).2).2))])),.b 4 (.iT (by first|rfl|simp[jL,lj,jZ,ho,h4]|simp[jL,lj,jZ]):Bx.le (.cells 278 [bP (((jL x b i).1).1),ic (gY (((jL x b i).1).2))]) (.cells 278 [bP (((jL x b (i+1)).1).1),ic (gY (((jL x b (i+1)).1).2))]))])))
     (λh4=>ae [tF 31 (2<=(((i+1)%4:Nat):Int)) aC,.a (aC:0<(2:Int))]<|.w ((i+1)%2=1)
      (λho=>ae [ah 36 ((((i+1)%2:Nat):Int)==1) (by rw[ho];rfl),ag [.agg [bP (((jL x b i).1).1),ic (gY (((jL x b i).1).2))],.agg [bP (lj x (i+1)),ic (gY (jZ x.2 b (i+1)))]] (tv ((jL x b i).1) aD ((lj x (i+1)),(jZ x.2 b (i+1))) aD aD),
       iz (((i+1:Nat):Int)+1) aC]<|.e (af [.b 5 (.iT (by first|rfl|simp[jL,lj,jZ,ho,h4]|simp[jL,lj,jZ]):Bx.le (.cells 278 [bP (((jL x b i).2).1),ic (gY (((jL x b i).2).2))]) (.cells 278 [bP (((jL x b (i+1)).2).1),ic (gY (((jL x b (i+1)).2).2))])),.b 4 (.iT (by first|rfl|simp[jL,lj,jZ,ho,h4]|simp[jL,lj,jZ]):Bx.le (.cells 278 [bP ((jJ ((jL x b i).1) ((lj x (i+1)),(jZ x.2 b (i+1)))).1),ic (gY ((jJ ((jL x b i).1) ((lj x (i+1)),(jZ x.2 b (i+1)))).2))]) (.cells 278 [bP (((jL x b (i+1)).1).1),ic (gY (((jL x b (i+1)).1).2))]))]))
      (λho=>ae [ai 36 ((((i+1)%2:Nat):Int)==1) aN,ag [.agg [bP (((jL x b i).2).1),ic (gY (((jL x b i).2).2))],.agg [bP (lj x (i+1)),ic (gY (jZ x.2 b (i+1)))]] (tv ((jL x b i).2) aD ((lj x (i+1)),(jZ x.2 b (i+1))) aD aD),
       iz (((i+1:Nat):Int)+1) aC]<|.e (af [.b 5 (.iT (by first|rfl|simp[jL,lj,jZ,ho,h4]|simp[jL,lj,jZ]):Bx.le (.cells 278 [bP ((jJ ((jL x b i).2) ((lj x (i+1)),(jZ x.2 b (i+1)))).1),ic (gY ((jJ ((jL x b i).2) ((lj x (i+1)),(jZ x.2 b (i+1)))).2))]) (.cells 278 [bP (((jL x b (i+1)).2).1),ic (gY (((jL x b (i+1)).2).2))])),.b 4 (.iT (by first|rfl|simp[jL,lj,jZ,ho,h4]|simp[jL,lj,jZ]):Bx.le (.cells 278 [bP (((jL x b i).1).1),ic (gY (((jL x b i).1).2))]) (.cells 278 [bP (((jL x b (i+1)).1).1),ic (gY (((jL x b (i+1)).1).2))]))])))) aF)
  (λhi=>by
    have SF:=YQ uZ hb (k:=N) aC;obtain⟨f0,f1,f2,f3,f4,f5,f6,f7⟩:=SF;exact iF (af [ag [.agg [bP (lj x N),ic (gY (jZ x.2 b N))],.agg [bP x.1,ic (gY x.2)],iP b] (Mo ((lj x N),(jZ x.2 b N)) aD x aD _ aC aD),ag [.agg [bP ((lj x N) != x.1),ic (gY ((jZ x.2 b N)*x.2/2^b))],iP ((N+1:Nat):Int)] (FL (((lj x N) != x.1),((jZ x.2 b N)*x.2/2^b)) aD (N+1) aC aC),ag [.agg [bP (lj x (N+1)),ic (gY (jZ x.2 b (N+1)))]] (DP ((lj x (N+1)),(jZ x.2 b (N+1))) aD),tB 25 (a7 hN)]) aF) aI:jA 6 f375 (Yw x b N 0) .ret ⟨43,true,[(5,.box 5 0),(4,.box 4 0)],[(5,.cells 278 [bP (((jL x b N).2).1),ic (gY (((jL x b N).2).2))]),(4,.cells 278 [bP (((jL x b N).1).1),ic (gY (((jL x b N).1).2))])]⟩) (af [.o 8 (aq 1 ((0+1:Nat):Int) aO),.b 5 (.iT (by first|rfl|simp[jL,lj,jZ,ho,h4]|simp[jL,lj,jZ]):Bx.le (.cells 278 [bP false,ic (gY (1*2^b))]) (.cells 278 [bP (((jL x b 0).2).1),ic (gY (((jL x b 0).2).2))])),.b 7 (.iT (by first|rfl|simp[jL,lj,jZ,ho,h4]|simp[jL,lj,jZ]):Bx.le (.cells 278 [bP false,ic (gY (1*2^b))]) (.cells 278 [bP (lj x 0),ic (gY (jZ x.2 b 0))])),.b 4 (aes:Bx.le (.cells 278 [bP false,.v (.slice none 0 0)]) (.cells 278 [bP (((jL x b 0).1).1),ic (gY (((jL x b 0).1).2))]))])]) 
def acq(x:Bool×Nat)(b:Nat)(uZ:x.2<=2^(b+1))(hb:b<=3000):∃ s c:Bool×Nat,s.2<2^(b+14)/\c.2<2^(b+14)/\gW 375 [.agg [bP x.1,ic (gY x.2)],iP (b:Int)] (.ix [.agg [bP s.1,ic (gY s.2)],.agg [bP c.1,ic (gY c.2)]]):=by
 obtain⟨N,n1,n2,n3,n4⟩:=aeu uZ;obtain⟨M,rfl⟩:∃ M,N=M+1:=⟨N-1,aC⟩
 obtain⟨a1,a2⟩:=YS uZ hb (k:=M) aC;exact⟨_,_,a1,a2,acp x b M uZ hb aC n3 n4⟩
def AI(a:Bool×Nat)(b p:Nat)(ha:a.2<2^3000)(hb:b<=8000)(il:8<=p)(ig:p<=512):gW 377 [.agg [bP a.1,ic (gY a.2)],iP b,iP p] (ik (s6 a b p)):=by
 have z1:(gY 1).length<=256:=tJ aE;have z2:(gY (1*2^24)).length<=256:=tJ aE;have z3:(gY a.2).length<=256:=lQ ha aE;have hs:=Ko (n:=3000) ha (show 1*2^24<2^25 by decide) aE aE;have z4:(gY (a.2+1*2^24)).length<=256:=lQ hs aE;have l1:=cz (show(jJ a ((!false),(1*2^24))).2<=_ from xL _ _) hs;have l2:=cz (show(jJ a (false,(1*2^24))).2<=_ from xL _ _) hs;have z5:(gY (jJ a ((!false),(1*2^24))).2).length<=256:=lQ l1 aE;have z6:(gY (jJ a (false,(1*2^24))).2).length<=256:=lQ l2 aE;have e3:(0-(b:Int)) = -(b:Int):=Int.zero_sub _;have r1:mZ (canon (jJ a ((!false),(1*2^24))).1 (jJ a ((!false),(1*2^24))).2 (0-(b:Int))):=by rw[e3];exact We (G3 (k:=4000) l1 aE) hb
 have r2:mZ (canon (jJ a (false,(1*2^24))).1 (jJ a (false,(1*2^24))).2 (0-(b:Int))):=by rw[e3];exact We (G3 (k:=4000) l2 aE) hb
 have v1:(canon (jJ a ((!false),(1*2^24))).1 (jJ a ((!false),(1*2^24))).2 (0-(b:Int))).ij:=Wf r1;have v2:(canon (jJ a (false,(1*2^24))).1 (jJ a (false,(1*2^24))).2 (0-(b:Int))).ij:=Wf r2;have hN:s6 a b p=mf (kf (canon (jJ a ((!false),(1*2^24))).1 (jJ a ((!false),(1*2^24))).2 (0-(b:Int))) p false) (jS (canon (jJ a ((!false),(1*2^24))).1 (jJ a ((!false),(1*2^24))).2 (0-(b:Int))) p false) (kf (canon (jJ a (false,(1*2^24))).1 (jJ a (false,(1*2^24))).2 (0-(b:Int))) p true) (jS (canon (jJ a (false,(1*2^24))).1 (jJ a (false,(1*2^24))).2 (0-(b:Int))) p true):=by rw[e3];rfl
 exact ak call377 func377 (ae [.o 14 (.e yx:aj (.sl false 1 1 λi_ j_=>[.v (.int .u32 1)].getD (i_*1+j_) (.v (.bool false))) (ic (gY 1))),.c (AH 1 24 aD aC aD),ag [.agg [bP false,ic (gY (1*2^24))]] (wS (false,(1*2^24))),ag [.agg [bP a.1,ic (gY a.2)],.agg [bP (!false),ic (gY (1*2^24))]] (tv a aD ((!false),(1*2^24)) aD aD),ag [.agg [bP a.1,ic (gY a.2)],.agg [bP false,ic (gY (1*2^24))]] (tv a aD (false,(1*2^24)) aD aD),iz (0-(b:Int)) aC,ag [bP ((jJ a ((!false),(1*2^24))).1),ic (gY ((jJ a ((!false),(1*2^24))).2)),iP (0-(b:Int))] (B4 _ _ _ aD aC aC aD),
  iz (0-(b:Int)) aC,ag [bP ((jJ a (false,(1*2^24))).1),ic (gY ((jJ a (false,(1*2^24))).2)),iP (0-(b:Int))] (B4 _ _ _ aD aC aC aD),ai 45 ((0:Int) != 0) aE,ai 48 ((0:Int) != 0) aE,.c (Iy (canon ((jJ a (!false,(1*2^24))).1) ((jJ a (!false,(1*2^24))).2) (0-(b:Int))) p aD aC aC),.c (Iz (canon ((jJ a (false,(1*2^24))).1) ((jJ a (false,(1*2^24))).2) (0-(b:Int))) p aD aC aC)]<|.w ((jS (canon ((jJ a ((!false),(1*2^24))).1) ((jJ a ((!false),(1*2^24))).2) (0-(b:Int))) p false)=0)
  (λk1=>ae [tB 64 (aX k1)]<|.w ((jS (canon ((jJ a (false,(1*2^24))).1) ((jJ a (false,(1*2^24))).2) (0-(b:Int))) p true)=0)
   (λk2=>ae [tB 67 (aX k2)]<|rQ (ik (Iv.mk (kf (canon ((jJ a ((!false),(1*2^24))).1) ((jJ a ((!false),(1*2^24))).2) (0-(b:Int))) p false) (kf (canon ((jJ a (false,(1*2^24))).1) ((jJ a (false,(1*2^24))).2) (0-(b:Int))) p true) false)) (ik (s6 a b p)) (by rw[hN,ahI k1 k2]))
   (λk2=>ae [tB 67 (aY k2),.c nS]<|rQ (ik ia) (ik (s6 a b p)) (by rw[hN,V3 (.inr k2)])))
  (λk1=>ae [tB 64 (aY k1),.c nS]<|rQ (ik ia) (ik (s6 a b p)) (by rw[hN,V3 (.inl k1)]))) 
def acg(d:Dy)(p:Nat)(hd:d.ij)(h0:d.iM=0)(il:8<=p)(ig:p<=512):gW 353 [ie d,bP true,iP p] (ik (jx 1)):=by
 have hv:=sV (n:=1) aE;exact ak call353 func353 (af [ag [ie d] (mT _ aD),ah 14 ((Dy.iM d)==0) (by rw[h0];rfl),ag [iP 1] (rC _ aC),.c (ui (iW 1) aD)]) 
def ab7(d:Dy)(p:Nat)(r s c:Bool×Nat)(hd:d.ij)(h0:d.iM≠0)(qg:gW 374 [ie d,iP ((p+64:Nat):Int)] (.ix [.agg [bP r.1,ic (gY r.2)],iP 0]))(qh:gW 375 [.agg [bP r.1,ic (gY r.2)],iP ((p+64:Nat):Int)] (.ix [.agg [bP s.1,ic (gY s.2)],.agg [bP c.1,ic (gY c.2)]]))(zs:s.2<2^3000)(zc:c.2<2^3000)(il:8<=p)(ig:p<=512):gW 353 [ie d,bP true,iP p] (ik (s6 c (p+64) p)):=by
 have zk:c.2<2^3000:=zc;exact ak call353 func353 (af [ag [ie d] (mT _ aD),ai 14 ((Dy.iM d)==0) (by simpa using h0),iz ((p:Int)+64) aC,ag [ie d,iP ((p+64:Nat):Int)] qg,ag [.agg [bP r.1,ic (gY r.2)],iP ((p+64:Nat):Int)] qh,iz (0+1) aC,.a (aC:0<(4:Int)),.o 38 (aq (Int.tmod (0+1) 4) 1 aE),ah 40 ((1:Int)==1) aE,ag [.agg [bP c.1,ic (gY c.2)],iP ((p+64:Nat):Int),iP p] (AI c _ _ aD aC aC aC)]) 
def ab8(d:Dy)(p:Nat)(r s c:Bool×Nat)(hd:d.ij)(h0:d.iM≠0)(qg:gW 374 [ie d,iP ((p+64:Nat):Int)] (.ix [.agg [bP r.1,ic (gY r.2)],iP 1]))(qh:gW 375 [.agg [bP r.1,ic (gY r.2)],iP ((p+64:Nat):Int)] (.ix [.agg [bP s.1,ic (gY s.2)],.agg [bP c.1,ic (gY c.2)]]))(zs:s.2<2^3000)(zc:c.2<2^3000)(il:8<=p)(ig:p<=512):gW 353 [ie d,bP true,iP p] (ik (s6 ((!s.1),s.2) (p+64) p)):=by
 have zk:((!s.1),s.2).2<2^3000:=zs;exact ak call353 func353 (af [ag [ie d] (mT _ aD),ai 14 ((Dy.iM d)==0) (by simpa using h0),iz ((p:Int)+64) aC,ag [ie d,iP ((p+64:Nat):Int)] qg,ag [.agg [bP r.1,ic (gY r.2)],iP ((p+64:Nat):Int)] qh,iz (1+1) aC,.a (aC:0<(4:Int)),.o 38 (aq (Int.tmod (1+1) 4) 2 aE),ai 40 ((2:Int)==1) aE,ah 43 ((2:Int)==2) aE,ag [.agg [bP s.1,ic (gY s.2)]] (wS (s.1,s.2)),ag [.agg [bP (!s.1),ic (gY s.2)],iP ((p+64:Nat):Int),iP p] (AI ((!s.1),s.2) _ _ aD aC aC aC)]) 
def ab9(d:Dy)(p:Nat)(r s c:Bool×Nat)(hd:d.ij)(h0:d.iM≠0)(qg:gW 374 [ie d,iP ((p+64:Nat):Int)] (.ix [.agg [bP r.1,ic (gY r.2)],iP 2]))(qh:gW 375 [.agg [bP r.1,ic (gY r.2)],iP ((p+64:Nat):Int)] (.ix [.agg [bP s.1,ic (gY s.2)],.agg [bP c.1,ic (gY c.2)]]))(zs:s.2<2^3000)(zc:c.2<2^3000)(il:8<=p)(ig:p<=512):gW 353 [ie d,bP true,iP p] (ik (s6 ((!c.1),c.2) (p+64) p)):=by
 have zk:((!c.1),c.2).2<2^3000:=zc;exact ak call353 func353 (af [ag [ie d] (mT _ aD),ai 14 ((Dy.iM d)==0) (by simpa using h0),iz ((p:Int)+64) aC,ag [ie d,iP ((p+64:Nat):Int)] qg,ag [.agg [bP r.1,ic (gY r.2)],iP ((p+64:Nat):Int)] qh,iz (2+1) aC,.a (aC:0<(4:Int)),.o 38 (aq (Int.tmod (2+1) 4) 3 aE),ai 40 ((3:Int)==1) aE,ai 43 ((3:Int)==2) aE,ah 47 ((3:Int)==3) aE,ag [.agg [bP c.1,ic (gY c.2)]] (wS (c.1,c.2)),ag [.agg [bP (!c.1),ic (gY c.2)],iP ((p+64:Nat):Int),iP p] (AI ((!c.1),c.2) _ _ aD aC aC aC)]) 
def aca(d:Dy)(p:Nat)(r s c:Bool×Nat)(hd:d.ij)(h0:d.iM≠0)(qg:gW 374 [ie d,iP ((p+64:Nat):Int)] (.ix [.agg [bP r.1,ic (gY r.2)],iP 3]))(qh:gW 375 [.agg [bP r.1,ic (gY r.2)],iP ((p+64:Nat):Int)] (.ix [.agg [bP s.1,ic (gY s.2)],.agg [bP c.1,ic (gY c.2)]]))(zs:s.2<2^3000)(zc:c.2<2^3000)(il:8<=p)(ig:p<=512):gW 353 [ie d,bP true,iP p] (ik (s6 s (p+64) p)):=by
 have zk:s.2<2^3000:=zs;exact ak call353 func353 (af [ag [ie d] (mT _ aD),ai 14 ((Dy.iM d)==0) (by simpa using h0),iz ((p:Int)+64) aC,ag [ie d,iP ((p+64:Nat):Int)] qg,ag [.agg [bP r.1,ic (gY r.2)],iP ((p+64:Nat):Int)] qh,iz (3+1) aC,.a (aC:0<(4:Int)),.o 38 (aq (Int.tmod (3+1) 4) 0 aE),ai 40 ((0:Int)==1) aE,ai 43 ((0:Int)==2) aE,ai 47 ((0:Int)==3) aE,ag [.agg [bP s.1,ic (gY s.2)],iP ((p+64:Nat):Int),iP p] (AI s _ _ aD aC aC aC)]) 
def ach(d:Dy)(p:Nat)(hd:d.ij)(h0:d.iM=0)(il:8<=p)(ig:p<=512):gW 353 [ie d,bP false,iP p] (ik (j9 d)):=
 ak call353 func353 (af [ag [ie d] (mT _ aD),ah 14 ((Dy.iM d)==0) (by rw[h0];rfl),.c (ui d aD)]) 
def acb(d:Dy)(p:Nat)(r s c:Bool×Nat)(hd:d.ij)(h0:d.iM≠0)(qg:gW 374 [ie d,iP ((p+64:Nat):Int)] (.ix [.agg [bP r.1,ic (gY r.2)],iP 0]))(qh:gW 375 [.agg [bP r.1,ic (gY r.2)],iP ((p+64:Nat):Int)] (.ix [.agg [bP s.1,ic (gY s.2)],.agg [bP c.1,ic (gY c.2)]]))(zs:s.2<2^3000)(zc:c.2<2^3000)(il:8<=p)(ig:p<=512):gW 353 [ie d,bP false,iP p] (ik (s6 s (p+64) p)):=by
 have zk:s.2<2^3000:=zs;exact ak call353 func353 (af [ag [ie d] (mT _ aD),ai 14 ((Dy.iM d)==0) (by simpa using h0),iz ((p:Int)+64) aC,ag [ie d,iP ((p+64:Nat):Int)] qg,ag [.agg [bP r.1,ic (gY r.2)],iP ((p+64:Nat):Int)] qh,.a (aC:0<(4:Int)),.o 38 (aq (Int.tmod 0 4) 0 aE),ai 40 ((0:Int)==1) aE,ai 43 ((0:Int)==2) aE,ai 47 ((0:Int)==3) aE,ag [.agg [bP s.1,ic (gY s.2)],iP ((p+64:Nat):Int),iP p] (AI s _ _ aD aC aC aC)]) 
def acd(d:Dy)(p:Nat)(r s c:Bool×Nat)(hd:d.ij)(h0:d.iM≠0)(qg:gW 374 [ie d,iP ((p+64:Nat):Int)] (.ix [.agg [bP r.1,ic (gY r.2)],iP 1]))(qh:gW 375 [.agg [bP r.1,ic (gY r.2)],iP ((p+64:Nat):Int)] (.ix [.agg [bP s.1,ic (gY s.2)],.agg [bP c.1,ic (gY c.2)]]))(zs:s.2<2^3000)(zc:c.2<2^3000)(il:8<=p)(ig:p<=512):gW 353 [ie d,bP false,iP p] (ik (s6 c (p+64) p)):=by
 have zk:c.2<2^3000:=zc;exact ak call353 func353 (af [ag [ie d] (mT _ aD),ai 14 ((Dy.iM d)==0) (by simpa using h0),iz ((p:Int)+64) aC,ag [ie d,iP ((p+64:Nat):Int)] qg,ag [.agg [bP r.1,ic (gY r.2)],iP ((p+64:Nat):Int)] qh,.a (aC:0<(4:Int)),.o 38 (aq (Int.tmod 1 4) 1 aE),ah 40 ((1:Int)==1) aE,ag [.agg [bP c.1,ic (gY c.2)],iP ((p+64:Nat):Int),iP p] (AI c _ _ aD aC aC aC)]) 
def ace(d:Dy)(p:Nat)(r s c:Bool×Nat)(hd:d.ij)(h0:d.iM≠0)(qg:gW 374 [ie d,iP ((p+64:Nat):Int)] (.ix [.agg [bP r.1,ic (gY r.2)],iP 2]))(qh:gW 375 [.agg [bP r.1,ic (gY r.2)],iP ((p+64:Nat):Int)] (.ix [.agg [bP s.1,ic (gY s.2)],.agg [bP c.1,ic (gY c.2)]]))(zs:s.2<2^3000)(zc:c.2<2^3000)(il:8<=p)(ig:p<=512):gW 353 [ie d,bP false,iP p] (ik (s6 ((!s.1),s.2) (p+64) p)):=by
 have zk:((!s.1),s.2).2<2^3000:=zs;exact ak call353 func353 (af [ag [ie d] (mT _ aD),ai 14 ((Dy.iM d)==0) (by simpa using h0),iz ((p:Int)+64) aC,ag [ie d,iP ((p+64:Nat):Int)] qg,ag [.agg [bP r.1,ic (gY r.2)],iP ((p+64:Nat):Int)] qh,.a (aC:0<(4:Int)),.o 38 (aq (Int.tmod 2 4) 2 aE),ai 40 ((2:Int)==1) aE,ah 43 ((2:Int)==2) aE,ag [.agg [bP s.1,ic (gY s.2)]] (wS (s.1,s.2)),ag [.agg [bP (!s.1),ic (gY s.2)],iP ((p+64:Nat):Int),iP p] (AI ((!s.1),s.2) _ _ aD aC aC aC)]) 
def acf(d:Dy)(p:Nat)(r s c:Bool×Nat)(hd:d.ij)(h0:d.iM≠0)(qg:gW 374 [ie d,iP ((p+64:Nat):Int)] (.ix [.agg [bP r.1,ic (gY r.2)],iP 3]))(qh:gW 375 [.agg [bP r.1,ic (gY r.2)],iP ((p+64:Nat):Int)] (.ix [.agg [bP s.1,ic (gY s.2)],.agg [bP c.1,ic (gY c.2)]]))(zs:s.2<2^3000)(zc:c.2<2^3000)(il:8<=p)(ig:p<=512):gW 353 [ie d,bP false,iP p] (ik (s6 ((!c.1),c.2) (p+64) p)):=by
 have zk:((!c.1),c.2).2<2^3000:=zc;exact ak call353 func353 (af [ag [ie d] (mT _ aD),ai 14 ((Dy.iM d)==0) (by simpa using h0),iz ((p:Int)+64) aC,ag [ie d,iP ((p+64:Nat):Int)] qg,ag [.agg [bP r.1,ic (gY r.2)],iP ((p+64:Nat):Int)] qh,.a (aC:0<(4:Int)),.o 38 (aq (Int.tmod 3 4) 3 aE),ai 40 ((3:Int)==1) aE,ai 43 ((3:Int)==2) aE,ah 47 ((3:Int)==3) aE,ag [.agg [bP c.1,ic (gY c.2)]] (wS (c.1,c.2)),ag [.agg [bP (!c.1),ic (gY c.2)],iP ((p+64:Nat):Int),iP p] (AI ((!c.1),c.2) _ _ aD aC aC aC)]) 
def Rt{d:Dy}(hd:d.ij)(ht:d.iw<=100)(cs:Bool){p:Nat}(il:8<=p)(ig:p<=512):∃ Z,Z.ij/\gW 353 [ie d,bP cs,iP (p:Int)] (ik Z):=by
 by_cases h0:d.iM=0
 .cases cs with
  |true=>exact⟨_,wu aE,acg d p hd h0 il ig⟩
  |false=>exact⟨_,s8 hd,ach d p hd h0 il ig⟩
 .obtain ⟨r,k,hr,hk,qg⟩:=aci d (p+64) hd aC aC ht;obtain⟨s,c,zs,zc,qh⟩:=acq r (p+64) hr aC;have zs:=G3 zs (k:=3000) aC;have zc:=G3 zc (k:=3000) aC;have hv:∀ a:Bool×Nat,(s6 a (p+64) p).ij:=λa=>aij a _ aC aC 
  rcases(aC:k=0\/k=1\/k=2\/k=3)with rfl|rfl|rfl|rfl
  .cases cs with
   |true=>exact⟨_,hv _,ab7 d p r s c hd h0 qg qh zs zc il ig⟩
   |false=>exact⟨_,hv _,acb d p r s c hd h0 qg qh zs zc il ig⟩
  .cases cs with
   |true=>exact⟨_,hv _,ab8 d p r s c hd h0 qg qh zs zc il ig⟩
   |false=>exact⟨_,hv _,acd d p r s c hd h0 qg qh zs zc il ig⟩
  .cases cs with
   |true=>exact⟨_,hv _,ab9 d p r s c hd h0 qg qh zs zc il ig⟩
   |false=>exact⟨_,hv _,ace d p r s c hd h0 qg qh zs zc il ig⟩
  .cases cs with
   |true=>exact⟨_,hv _,aca d p r s c hd h0 qg qh zs zc il ig⟩
   |false=>exact⟨_,hv _,acf d p r s c hd h0 qg qh zs zc il ig⟩
def agz:(iW (-1)).neg=true/\(iW (-1)).m=1/\(iW (-1)).e=0:= aL 
def acu : gW 381 [iP (-1)] (.agg [bP true,ic (gY 1)]):=by
 obtain⟨q1,q2,q3⟩:=agz;have z1:(gY (iW (-1)).m).length<=256:=by rw[q2];exact tJ aE 
 have z2:(gY ((iW (-1)).m*2^(Int.toNat (iW (-1)).e))).length<=256:=by rw[q2,q3];exact tJ aE 
 exact ak call381 func381 (ae [ag [iP (-1)] (rC _ aC),ag [ic (gY ((iW (-1)).m)),iP ((iW (-1)).e)] (LI _ _ aD aC aC aD)]<|rQ (.agg [bP ((iW (-1)).neg),ic (gY (((iW (-1)).m)*2^(Int.toNat ((iW (-1)).e))))]) (.agg [bP true,ic (gY 1)]) (by rw[q1,q2,q3];rfl)) 
def abY(a c:Bool×Nat)(za:(gY a.2).length<=256)(zc:(gY c.2).length<=256)(c0:c.2≠0)(zs:(gY (a.2/c.2+1)).length<=256)(h1:a.1=false):gW 383 [.agg [bP a.1,ic (gY a.2)],.agg [bP c.1,ic (gY c.2)]] (.agg [bP ((pZ a c).1),ic (gY ((pZ a c).2))]):=by
 have zq:(gY (a.2/c.2)).length<=256:=bk (mV (bY _ _)) za;have zr:(gY (a.2%c.2)).length<=256:=bk (mV (eC _ _)) za;have z1:(gY 1).length<=256:=tJ aE;have e:pZ a c=(a.1,a.2/c.2):=by unfold pZ;rw[aZ (by rw[h1];exact λq=>Bool.noConfusion q.1)]
 exact ak call383 func383 (ae [ag [ic (gY a.2),ic (gY c.2)] (zV _ _ aC aC aD),ai 19 a.1 h1,ai 23 a.1 h1]<|rQ (.agg [bP false,ic (gY (a.2/c.2))]) (.agg [bP ((pZ a c).1),ic (gY ((pZ a c).2))]) (by rw[e,h1])) 
def abV(a c:Bool×Nat)(za:(gY a.2).length<=256)(zc:(gY c.2).length<=256)(c0:c.2≠0)(zs:(gY (a.2/c.2+1)).length<=256)(h1:a.1=true)(h2:a.2%c.2=0):gW 383 [.agg [bP a.1,ic (gY a.2)],.agg [bP c.1,ic (gY c.2)]] (.agg [bP ((pZ a c).1),ic (gY ((pZ a c).2))]):=by
 have zq:(gY (a.2/c.2)).length<=256:=bk (mV (bY _ _)) za;have zr:(gY (a.2%c.2)).length<=256:=bk (mV (eC _ _)) za;have z1:(gY 1).length<=256:=tJ aE;have e:pZ a c=(a.1,a.2/c.2):=by unfold pZ;rw[aZ (λq=>q.2 h2)]
 exact ak call383 func383 (ae [ag [ic (gY a.2),ic (gY c.2)] (zV _ _ aC aC aD),ah 19 a.1 h1,ah 23 a.1 h1,ag [ic (gY (a.2%c.2))] (sZ _ aC),tF 27 (0<(iq (a.2%c.2):Int)) (by rw[h2,sJ];decide)]<|rQ (.agg [bP true,ic (gY (a.2/c.2))]) (.agg [bP ((pZ a c).1),ic (gY ((pZ a c).2))]) (by rw[e,h1])) 
def abW(a c:Bool×Nat)(za:(gY a.2).length<=256)(zc:(gY c.2).length<=256)(c0:c.2≠0)(zs:(gY (a.2/c.2+1)).length<=256)(h1:a.1=true)(h2:a.2%c.2≠0):gW 383 [.agg [bP a.1,ic (gY a.2)],.agg [bP c.1,ic (gY c.2)]] (.agg [bP ((pZ a c).1),ic (gY ((pZ a c).2))]):=by
 have zq:(gY (a.2/c.2)).length<=256:=bk (mV (bY _ _)) za;have zr:(gY (a.2%c.2)).length<=256:=bk (mV (eC _ _)) za;have z1:(gY 1).length<=256:=tJ aE;have e:pZ a c=jJ (a.1,a.2/c.2) (true,1):=by unfold pZ;rw[a6 ⟨h1,h2⟩]
 exact ak call383 func383 (ae [ag [ic (gY a.2),ic (gY c.2)] (zV _ _ aC aC aD),ah 19 a.1 h1,ah 23 a.1 h1,ag [ic (gY (a.2%c.2))] (sZ _ aC),tT 27 (0<(iq (a.2%c.2):Int)) (by have:=o0 h2;omega),.c acu,ag [.agg [bP true,ic (gY (a.2/c.2))],.agg [bP true,ic (gY 1)]] (tv (true,(a.2/c.2)) aD (true,1) aD aD)]<|rQ (.agg [bP ((jJ (true,(a.2/c.2)) (true,1)).1),ic (gY ((jJ (true,(a.2/c.2)) (true,1)).2))]) (.agg [bP ((pZ a c).1),ic (gY ((pZ a c).2))]) (by rw[e,h1])) 
def abX(a c:Bool×Nat)(za:(gY a.2).length<=256)(zc:(gY c.2).length<=256)(c0:c.2≠0)(zs:(gY (a.2/c.2+1)).length<=256):gW 383 [.agg [bP a.1,ic (gY a.2)],.agg [bP c.1,ic (gY c.2)]] (.agg [bP ((pZ a c).1),ic (gY ((pZ a c).2))]):=by
 cases h1:a.1 with
 |false=>rw[<-h1];exact abY a c za zc c0 zs h1
 |true=>
  rw[<-h1];by_cases h2:a.2%c.2=0
  .exact abV a c za zc c0 zs h1 h2
  .exact abW a c za zc c0 zs h1 h2
def ab3(x:Iv)(n p t w2 sg eg mm:Nat)(cp u v c1 a0 a1 k l0 d0 d1:Bool×Nat)(hx:x.ij)(xa:x.all=false)(hn:n<=3)(ig:p<=2000)(ht:(t:Int)=max (max x.lo.iw x.hi.iw) 0)(t2:t<=2000)(zd:(gY d1.2).length<=256)(rW:gW 378 [iP (((p+t)+40:Nat):Int)] (.agg [bP cp.1,ic (gY cp.2)]))(hU:gW 384 [ie x.hi,iP (((p+t)+40:Nat):Int)] (.agg [bP u.1,ic (gY u.2)]))(hV:gW 384 [ie x.lo,iP (((p+t)+40:Nat):Int)] (.agg [bP v.1,ic (gY v.2)]))(hW:gW 379 [ic (gY cp.2),iP ((1:Nat):Int)] (ic (gY w2)))(DS:gW 382 [.agg [bP false,ic (gY n)],.agg [bP cp.1,ic (gY cp.2)],iP ((0:Nat):Int)] (.agg [bP c1.1,ic (gY c1.2)]))(hS:gW 380 [ic (gY c1.2),iP ((1:Nat):Int)] (ic (gY sg)))(hE:gW 379 [ic (gY 1),iP (((t+24)+4:Nat):Int)] (ic (gY eg)))(uR:gW 385 [.agg [bP u.1,ic (gY u.2)],.agg [bP (!false),ic (gY sg)]] (.agg [bP a0.1,ic (gY a0.2)]))(A0:gW 385 [.agg [bP a0.1,ic (gY a0.2)],.agg [bP false,ic (gY eg)]] (.agg [bP a1.1,ic (gY a1.2)]))(hK:gW 383 [.agg [bP a1.1,ic (gY a1.2)],.agg [bP false,ic (gY w2)]] (.agg [bP k.1,ic (gY k.2)]))(hM:gW 234 [ic (gY k.2),ic (gY w2)] (.ix [ic (gY mm),iP 0]))(vS:gW 385 [.agg [bP k.1,ic (gY mm)],.agg [bP false,ic (gY sg)]] (.agg [bP l0.1,ic (gY l0.2)]))(xN:gW 385 [.agg [bP l0.1,ic (gY l0.2)],.agg [bP (!v.1),ic (gY v.2)]] (.agg [bP d0.1,ic (gY d0.2)]))(DT:gW 385 [.agg [bP d0.1,ic (gY d0.2)],.agg [bP false,ic (gY eg)]] (.agg [bP d1.1,ic (gY d1.2)]))(hz:d1.2=0):gW 354 [ik x,iP n,iP p] (bP true):=by
 obtain⟨w1,w2'⟩:=hx.jW;have z1:(gY 1).length<=256:=tJ aE;exact ak call354 func354 (af [ag [ie x.lo] (oo _ aD),ag [ie x.hi] (oo _ aD),.o 24 (aq (if 0>(if(Dy.iw x.hi)>(Dy.iw x.lo)then(Dy.iw x.hi)else(Dy.iw x.lo))then 0 else(if(Dy.iw x.hi)>(Dy.iw x.lo)then(Dy.iw x.hi)else(Dy.iw x.lo))) t (by(repeat' split)<;>omega)),
  iz ((p:Int)+t) aC,iz (((p+t:Nat):Int)+40) aC,ag [iP (((p+t)+40:Nat):Int)] rW,ag [ic (gY cp.2),iP 1] hW,.c (LK n aC),ag [.agg [bP false,ic (gY n)],.agg [bP cp.1,ic (gY cp.2)],iP 0] DS,ag [ic (gY c1.2),iP 1] hS,.o 42 (.e yx:aj (.sl false 1 1 λi_ j_=>[.v (.int .u32 1)].getD (i_*1+j_) (.v (.bool false))) (ic (gY 1))),iz ((t:Int)+24) aC,iz (((t+24:Nat):Int)+4) aC,ag [ic (gY 1),iP (((t+24)+4:Nat):Int)] hE,ag [ie x.hi,iP (((p+t)+40:Nat):Int)] hU,ag [.agg [bP false,ic (gY sg)]] (wS (false,sg)),ag [.agg [bP u.1,ic (gY u.2)],.agg [bP (!false),ic (gY sg)]] uR,ag [.agg [bP a0.1,ic (gY a0.2)],.agg [bP false,ic (gY eg)]] A0,ag [.agg [bP a1.1,ic (gY a1.2)],.agg [bP false,ic (gY w2)]] hK,ag [ic (gY k.2),ic (gY w2)] hM,ag [.agg [bP k.1,ic (gY mm)],.agg [bP false,ic (gY sg)]] vS,ag [ie x.lo,iP (((p+t)+40:Nat):Int)] hV,ag [.agg [bP v.1,ic (gY v.2)]] (wS (v.1,v.2)),ag [.agg [bP l0.1,ic (gY l0.2)],.agg [bP (!v.1),ic (gY v.2)]] xN,ag [.agg [bP d0.1,ic (gY d0.2)],.agg [bP false,ic (gY eg)]] DT,ag [.agg [bP d1.1,ic (gY d1.2)]] (DP (d1.1,d1.2) aD),tB 83 (a7 hz)]) 
def ab2(x:Iv)(n p t w2 sg eg mm:Nat)(cp u v c1 a0 a1 k l0 d0 d1:Bool×Nat)(hx:x.ij)(xa:x.all=false)(hn:n<=3)(ig:p<=2000)(ht:(t:Int)=max (max x.lo.iw x.hi.iw) 0)(t2:t<=2000)(zd:(gY d1.2).length<=256)(rW:gW 378 [iP (((p+t)+40:Nat):Int)] (.agg [bP cp.1,ic (gY cp.2)]))(hU:gW 384 [ie x.hi,iP (((p+t)+40:Nat):Int)] (.agg [bP u.1,ic (gY u.2)]))(hV:gW 384 [ie x.lo,iP (((p+t)+40:Nat):Int)] (.agg [bP v.1,ic (gY v.2)]))(hW:gW 379 [ic (gY cp.2),iP ((1:Nat):Int)] (ic (gY w2)))(DS:gW 382 [.agg [bP false,ic (gY n)],.agg [bP cp.1,ic (gY cp.2)],iP ((0:Nat):Int)] (.agg [bP c1.1,ic (gY c1.2)]))(hS:gW 380 [ic (gY c1.2),iP ((1:Nat):Int)] (ic (gY sg)))(hE:gW 379 [ic (gY 1),iP (((t+24)+4:Nat):Int)] (ic (gY eg)))(uR:gW 385 [.agg [bP u.1,ic (gY u.2)],.agg [bP (!false),ic (gY sg)]] (.agg [bP a0.1,ic (gY a0.2)]))(A0:gW 385 [.agg [bP a0.1,ic (gY a0.2)],.agg [bP false,ic (gY eg)]] (.agg [bP a1.1,ic (gY a1.2)]))(hK:gW 383 [.agg [bP a1.1,ic (gY a1.2)],.agg [bP false,ic (gY w2)]] (.agg [bP k.1,ic (gY k.2)]))(hM:gW 234 [ic (gY k.2),ic (gY w2)] (.ix [ic (gY mm),iP 0]))(vS:gW 385 [.agg [bP k.1,ic (gY mm)],.agg [bP false,ic (gY sg)]] (.agg [bP l0.1,ic (gY l0.2)]))(xN:gW 385 [.agg [bP l0.1,ic (gY l0.2)],.agg [bP (!v.1),ic (gY v.2)]] (.agg [bP d0.1,ic (gY d0.2)]))(DT:gW 385 [.agg [bP d0.1,ic (gY d0.2)],.agg [bP false,ic (gY eg)]] (.agg [bP d1.1,ic (gY d1.2)]))(hz:¬d1.2=0):gW 354 [ik x,iP n,iP p] (bP (!d1.1)):=by
 obtain⟨w1,w2'⟩:=hx.jW;have z1:(gY 1).length<=256:=tJ aE;exact ak call354 func354 (af [ag [ie x.lo] (oo _ aD),ag [ie x.hi] (oo _ aD),.o 24 (aq (if 0>(if(Dy.iw x.hi)>(Dy.iw x.lo)then(Dy.iw x.hi)else(Dy.iw x.lo))then 0 else(if(Dy.iw x.hi)>(Dy.iw x.lo)then(Dy.iw x.hi)else(Dy.iw x.lo))) t (by(repeat' split)<;>omega)),
  iz ((p:Int)+t) aC,iz (((p+t:Nat):Int)+40) aC,ag [iP (((p+t)+40:Nat):Int)] rW,ag [ic (gY cp.2),iP 1] hW,.c (LK n aC),ag [.agg [bP false,ic (gY n)],.agg [bP cp.1,ic (gY cp.2)],iP 0] DS,ag [ic (gY c1.2),iP 1] hS,.o 42 (.e yx:aj (.sl false 1 1 λi_ j_=>[.v (.int .u32 1)].getD (i_*1+j_) (.v (.bool false))) (ic (gY 1))),iz ((t:Int)+24) aC,iz (((t+24:Nat):Int)+4) aC,ag [ic (gY 1),iP (((t+24)+4:Nat):Int)] hE,ag [ie x.hi,iP (((p+t)+40:Nat):Int)] hU,ag [.agg [bP false,ic (gY sg)]] (wS (false,sg)),ag [.agg [bP u.1,ic (gY u.2)],.agg [bP (!false),ic (gY sg)]] uR,ag [.agg [bP a0.1,ic (gY a0.2)],.agg [bP false,ic (gY eg)]] A0,ag [.agg [bP a1.1,ic (gY a1.2)],.agg [bP false,ic (gY w2)]] hK,ag [ic (gY k.2),ic (gY w2)] hM,ag [.agg [bP k.1,ic (gY mm)],.agg [bP false,ic (gY sg)]] vS,ag [ie x.lo,iP (((p+t)+40:Nat):Int)] hV,ag [.agg [bP v.1,ic (gY v.2)]] (wS (v.1,v.2)),ag [.agg [bP l0.1,ic (gY l0.2)],.agg [bP (!v.1),ic (gY v.2)]] xN,ag [.agg [bP d0.1,ic (gY d0.2)],.agg [bP false,ic (gY eg)]] DT,ag [.agg [bP d1.1,ic (gY d1.2)]] (DP (d1.1,d1.2) aD),tB 83 (bc hz)]) 
def FK{a b:Bool×Nat}{i j n:Nat}(ha:a.2<2^i)(hb:b.2<2^j)(hi:i<=n)(hj:j<=n)(hn:n<=8000):∃ r:Bool×Nat,r.2<2^(n+1)/\gW 385 [.agg [bP a.1,ic (gY a.2)],.agg [bP b.1,ic (gY b.2)]] (.agg [bP r.1,ic (gY r.2)]):=
 ⟨jJ a b,aeb ha hb hi hj,tv a (lQ ha aC) b (lQ hb aC) (lQ (Ko ha hb hi hj) aC)⟩
def ab1{x:Iv}(hx:x.ij)(xa:x.all=false)(n:Nat)(hn:n<=3)(p:Nat)(ig:p<=1000)(h1:x.lo.iw<=100)(h2:x.hi.iw<=100):∃ r:Bool,gW 354 [ik x,iP (n:Int),iP (p:Int)] (bP r):=by
 obtain⟨w1,w2⟩:=hx.jW;obtain⟨t,ht⟩:∃ t:Nat,(t:Int)=max (max x.lo.iw x.hi.iw) 0:=⟨(max (max x.lo.iw x.hi.iw) 0).toNat,aC⟩
 obtain⟨cp,c1,c2,c3,rW⟩:=Rs (p+t+40) aC aC;have hU:=LJ x.hi w2 (p+t+40) 6000 aC aE aC;have hV:=LJ x.lo w1 (p+t+40) 6000 aC aE aC;have yu:=Kf (d:=x.hi) (b:=p+t+40) (K:=6000) aC;have yv:=Kf (d:=x.lo) (b:=p+t+40) (K:=6000) aC;have yc:=G3 (m:=cp.2) (i:=p+t+40+3) (k:=2000) (by have e:(2:Nat)^(p+t+40+3)=2^(p+t+40)*8:=bt 2 _ 3;have:0<2^(p+t+40):=bw aE;omega) aC;generalize rM x.hi (p+t+40)=u at hU yu;generalize rM x.lo (p+t+40)=v at hV yv;obtain⟨K,hK⟩:∃ K,K=6000:=⟨_,rfl⟩
 rw[<-hK]at yu yv;obtain⟨J,hJ⟩:∃ J,J=2000:=⟨_,rfl⟩
 rw[<-hJ]at yc;have zc:(gY cp.2).length<=256:=lQ yc aC;have yw:cp.2*2^1<2^(J+1):=by have e:2^(J+1)=2^J*2:=bD _ _;omega
 have hW:=AH cp.2 1 zc aE (lQ yw aC);have w0:cp.2*2^1≠0:= aC ;generalize cp.2*2^1=w at hW yw w0;have yn:n*cp.2<2^(J+2):=by have e:2^(J+2)=2^J*4:=bt 2 J 2;have:=bL cp.2 hn;omega
 have DS:=Mo (false,n) (tJ (by show n<_;omega)) cp zc 0 aE (lQ yn aC);have y1:n*cp.2/2^0<2^(J+2):=cz (bY _ _) yn;obtain⟨q,hq⟩:∃ q:Bool×Nat,q=(false != cp.1,n*cp.2/2^0):=⟨_,rfl⟩
 have yq:q.2<2^(J+2):=by rw[hq];exact y1
 have TH:gW 382 [.agg [bP false,ic (gY n)],.agg [bP cp.1,ic (gY cp.2)],iP ((0:Nat):Int)] (.agg [bP q.1,ic (gY q.2)]):=by rw[hq];exact DS
 clear DS hq;have hS:=wO q.2 1 (lQ yq aC) aE;have ys:q.2/2^1<2^(J+2):=cz (bY _ _) yq;generalize q.2/2^1=sg at hS ys;have ye:1*2^(t+24+4)<2^K:=by rw[bZ];exact gM aE aC 
 have hE:=AH 1 (t+24+4) (tJ aE) aC (lQ ye aC);generalize 1*2^(t+24+4)=eg at hE ye;obtain⟨a0,x0,uR⟩:=FK (b:=(!false,sg)) yu ys (n:=K) aC aC aC;obtain⟨a1,x1,A0⟩:=FK (b:=(false,eg)) x0 ye (n:=K+1) aC aC aC;have yf:a1.2/w+1<2^(K+3):=by
  have e:2^(K+3)=2^(K+1+1)*2:=bD _ _;have:=bY a1.2 w;have:0<2^(K+1+1):=bw aE;omega
 have hF:=abX a1 (false,w) (lQ x1 aC) (lQ yw aC) w0 (lQ yf aC);have yk:=cz (S8 a1 (false,w)) yf;have ym:(pZ a1 (false,w)).2*w<2^(K+3):=cz (aen a1 (false,w)) (Ko (n:=K+2) x1 yw aC aC);generalize pZ a1 (false,w)=k at hF yk ym;have hM:=zW k.2 w (lQ yk aC) (lQ yw aC) (lQ ym aC);generalize k.2*w=mm at hM ym;obtain⟨l0,x2,vS⟩:=FK (a:=(k.1,mm)) (b:=(false,sg)) ym ys (n:=K+3) aC aC aC;obtain⟨d0,x3,xN⟩:=FK (b:=(!v.1,v.2)) x2 yv (n:=K+4) aC aC aC;obtain⟨d1,x4,DT⟩:=FK (b:=(false,eg)) x3 ye (n:=K+5) aC aC aC;by_cases hz:d1.2=0
 .exact ⟨_,ab3 x n p t w sg eg mm cp u v q a0 a1 k l0 d0 d1 hx xa hn aC ht aC (lQ x4 aC) rW hU hV hW TH hS hE uR A0 hF hM vS xN DT hz⟩
 .exact ⟨_,ab2 x n p t w sg eg mm cp u v q a0 a1 k l0 d0 d1 hx xa hn aC ht aC (lQ x4 aC) rW hU hV hW TH hS hE uR A0 hF hM vS xN DT hz⟩
def lL:Iv:=⟨iW (-1),iW 1,false⟩
def Ao:lL.ij:=.inr ⟨rfl,show(iW (-1)).ij from sV aE,show(iW 1).ij from sV aE,aL⟩
def yU : gW 352 [] (ik lL):=by
 have h1:(iW (-1)).ij:=sV aE;have h2:(iW 1).ij:=sV aE;exact ak call352 func352 (ae [ag [iP (-1)] (rC _ aC),ag [iP 1] (rC _ aC)]<|rR (ik lL) (.iT rfl:E.le (ik (Iv.mk (iW (-1)) (iW 1) false)) (ik lL))) 
def aaR(x y:Iv)(hx:x.ij)(hy:y.ij)(xa:(x.all||y.all)=true):gW 242 [ik x,ik y] (ik ia):=
 ak call242 func242 (af [.o 7 (.e (zP _ _):aj (.sl true 2 7 λi_ j_=>(iJ x++iJ y).getD (i_*7+j_) (.v (.bool false))) (ib [x,y])),ag [ib [x,y]] (zO _ _ aD aD),ai 8 (!(x.all||y.all)) (by rw[xa];rfl),.c nS]) 
def aaS{x y:Iv}(hx:x.ij)(hy:y.ij):∃ Z,Z.ij/\gW 242 [ik x,ik y] (ik Z):=by
 cases h:(x.all||y.all)with
 |true=>exact⟨ia,mi,aaR x y hx hy h⟩
 |false=>
  obtain⟨h1,h2⟩:=eO.1 h;exact⟨qC x y,UK hx hy,QZ x y hx hy h1 h2⟩
def aaZ(x:Iv)(hx:x.ij)(xa:x.all=true):gW 142 [ik x,ik lL] (.ix [ik lL,bP true]):=by
 have hu:=Ao;exact ak call142 func142 (af [.c (qd x aD),.c (qd lL aD),ah 19 x.all xa]) 
def aa1(x:Iv)(hx:x.ij)(xa:x.all=false)(h:0<jj (ja x.lo lL.lo) (jd x.hi lL.hi)):gW 142 [ik x,ik lL] (.ix [ik yH,bP false]):=by
 have hu:=Ao;obtain⟨v1,v2⟩:=hx.jW;obtain⟨v3,v4⟩:=hu.jW;have m1:=sE v1 v3;have m2:=um v2 v4;exact ak call142 func142 (ae [.c (qd x aD),.c (qd lL aD),ai 19 x.all xa,ai 23 lL.all rfl,.c (El x.lo lL.lo aD aD),.c (Ek x.hi lL.hi aD aD),ag [ie (ja x.lo lL.lo),ie (jd x.hi lL.hi)] (nF _ _ aD aD),tB 41 (a7 h)]<|rR (.ix [ik yH,bP false]) (.ix (.cons Z9 (.cons (.refl _) .nil)):E.le (.ix [.agg au,bP false]) (.ix [ik yH,bP false]))) 
def aa2(x:Iv)(hx:x.ij)(xa:x.all=false)(h:¬0<jj (ja x.lo lL.lo) (jd x.hi lL.hi)):gW 142 [ik x,ik lL] (.ix [ik (Iv.mk (ja x.lo lL.lo) (jd x.hi lL.hi) false),bP true]):=by
 have hu:=Ao;obtain⟨v1,v2⟩:=hx.jW;obtain⟨v3,v4⟩:=hu.jW;have m1:=sE v1 v3;have m2:=um v2 v4;exact ak call142 func142 (af [.c (qd x aD),.c (qd lL aD),ai 19 x.all xa,ai 23 lL.all rfl,.c (El x.lo lL.lo aD aD),.c (Ek x.hi lL.hi aD aD),ag [ie (ja x.lo lL.lo),ie (jd x.hi lL.hi)] (nF _ _ aD aD),tB 41 (bc h)]) 
structure yI(Y:Iv):Prop where
 v:Y.ij
 f:Y.all=false
 l:jj lL.lo Y.lo<=0
 h:jj Y.hi lL.hi<=0
def am6:yI lL:=⟨Ao,rfl,aL,aL⟩
def aa0{x:Iv}(hx:x.ij):(∃ Y,yI Y/\gW 142 [ik x,ik lL] (.ix [ik Y,bP true]))\/gW 142 [ik x,ik lL] (.ix [ik yH,bP false]):=by
 cases xa:x.all with
 |true=>exact .inl ⟨lL,am6,aaZ x hx xa⟩
 |false=>
  by_cases h:0<jj (ja x.lo lL.lo) (jd x.hi lL.hi)
  .exact .inr (aa1 x hx xa h)
  .have v1:(ja x.lo lL.lo).ij:=sE hx.jW.1 Ao.jW.1;have v2:(jd x.hi lL.hi).ij:=um hx.jW.2 Ao.jW.2;have h1:jj lL.lo (ja x.lo lL.lo)<=0:=Wa _ _;have h2:jj (jd x.hi lL.hi) lL.hi<=0:=Wb _ _;have hq:=aa2 x hx xa h;have h3:jj (ja x.lo lL.lo) (jd x.hi lL.hi)<=0:= aC ;generalize ja x.lo lL.lo=a at *
   generalize jd x.hi lL.hi=b at *
   exact .inl ⟨⟨a,b,false⟩,⟨.inr ⟨rfl,v1,v2,h3⟩,rfl,h1,h2⟩,hq⟩
def yI.up{Y:Iv}(h:yI Y):yI ⟨Y.lo,iW 1,false⟩:=by
 have e:=h.v.jW;refine⟨.inr ⟨rfl,e.1,sV (n:=1) aE,?_⟩,rfl,h.l,show jj (iW 1) (iW 1)<=0 by decide +kernel⟩;have:=h.v.q;rw[pT];exact bN this ((pT _ _).1 h.h)
def yI.dn{Y:Iv}(h:yI Y):yI ⟨iW (-1),Y.hi,false⟩:=by
 have e:=h.v.jW;refine⟨.inr ⟨rfl,sV (n:=-1) aE,e.2,?_⟩,rfl,show jj (iW (-1)) (iW (-1))<=0 by decide +kernel,h.h⟩;have:=h.v.q;rw[pT];exact bN ((pT _ _).1 h.l) this
def II(p:Nat)(il:8<=p)(ig:p<=512):gW 351 [iP p] (bP true):=
 ak call351 func351 (af [tT 4 (8<=(p:Int)) aC,tT 7 ((p:Int)<=512) aC]) 
def abP(x:Iv)(cs:Bool)(p:Nat)(hx:x.ij)(xa:x.all=true)(il:8<=p)(ig:p<=512):gW 332 [ik x,bP cs,iP p] (ik ia):=
 ak call332 func332 (af [.c (II p aC aC),.c (qd x aD),ah 22 x.all xa,.c nS]) 
def abS(x:Iv)(cs:Bool)(p:Nat)(hx:x.ij)(xa:x.all=false)(il:8<=p)(ig:p<=512)(hu:100<x.lo.iw\/100<x.hi.iw\/¬vG x 64=0\/0<=jj (oW x 64) (iW 7)):gW 332 [ik x,bP cs,iP p] (ik lL):=by
 obtain⟨w1,w2⟩:=hx.jW;have h7:(iW 7).ij:=sV aE;have wv:(oW x 64).ij:=wE _ aE aE _;exact ak call332 func332 (ae [.c (II p aC aC),.c (qd x aD),ai 22 x.all xa,ag [ie x.lo] (oo _ aD)]<|.w (100<(Dy.iw x.lo))
  (λk1=>af [tB 28 (a7 k1),.c yU])
  (λk1=>ae [tB 28 (bc k1),ag [ie x.hi] (oo _ aD)]<|.w (100<(Dy.iw x.hi))
   (λk2=>af [tB 33 (a7 k2),.c yU])
   (λk2=>ae [tB 33 (bc k2),.c (DB x 64 aD aD aC aC)]<|.w (vG x 64=0)
    (λk3=>ae [tB 40 (a7 k3),ag [iP 7] (rC _ aC),ag [ie (oW x 64),ie (iW 7)] (nF _ _ aD aD)]<|.w (0<=(jj (oW x 64) (iW 7)))
     (λk4=>af [tB 47 (a7 k4),.c yU])
     (λk4=>.x (by rcases hu with q|q|q|q<;>contradiction)))
    (λk3=>af [tB 40 (bc k3),.c yU])))) 
def abR(x:Iv)(cs:Bool)(p:Nat)(hx:x.ij)(xa:x.all=false)(il:8<=p)(ig:p<=512)(h1:¬100<x.lo.iw)(h2:¬100<x.hi.iw)(h3:vG x 64=0)(h4:¬0<=jj (oW x 64) (iW 7))(P1 P2 H:Iv)(xP:∀ c,c=cs->gW 353 [ie x.lo,bP c,iP (p:Int)] (ik P1))(xQ:∀ c,c=cs->gW 353 [ie x.hi,bP c,iP (p:Int)] (ik P2))(hH:gW 242 [ik P1,ik P2] (ik H))(vU:gW 142 [ik H,ik lL] (.ix [ik yH,bP false])):gW 332 [ik x,bP cs,iP p] (ik lL):=by
 obtain⟨w1,w2⟩:=hx.jW;have h7:(iW 7).ij:=sV aE;have wv:(oW x 64).ij:=wE _ aE aE _;exact ak call332 func332 (af [.c (II p aC aC),.c (qd x aD),ai 22 x.all xa,ag [ie x.lo] (oo _ aD),tB 28 (bc h1),ag [ie x.hi] (oo _ aD),tB 33 (bc h2),.c (DB x 64 aD aD aC aC),tB 40 (a7 h3),ag [iP 7] (rC _ aC),ag [ie (oW x 64),ie (iW 7)] (nF _ _ aD aD),tB 47 (bc h4),ag [ie x.lo,bP cs,iP p] (xP cs aH),ag [ie x.hi,bP cs,iP p] (xQ cs aH),ag [ik P1,ik P2] hH,.c yU,ag [ik H,ik lL] vU,.c yU]) 
def q8(cs:Bool)(R:Nat->Bool)(x Y:Iv):Iv:=if jj x.lo x.hi=0 then Y else⟨if R (if cs=true then 2 else 3)=true then iW (-1)else Y.lo,if R (if cs=true then 0 else 1)=true then iW 1 else Y.hi,Y.all⟩
def abQ(x:Iv)(cs:Bool)(p:Nat)(hx:x.ij)(xa:x.all=false)(il:8<=p)(ig:p<=512)(h1:¬100<x.lo.iw)(h2:¬100<x.hi.iw)(h3:vG x 64=0)(h4:¬0<=jj (oW x 64) (iW 7))(P1 P2 H Y:Iv)(hY:yI Y)(xP:∀ c,c=cs->gW 353 [ie x.lo,bP c,iP (p:Int)] (ik P1))(xQ:∀ c,c=cs->gW 353 [ie x.hi,bP c,iP (p:Int)] (ik P2))(hH:gW 242 [ik P1,ik P2] (ik H))(vU:gW 142 [ik H,ik lL] (.ix [ik Y,bP true]))(R:Nat->Bool)(hM:∀ s:Nat,s<=3->gW 354 [ik x,iP (s:Int),iP ((p+64:Nat):Int)] (bP (R s))):gW 332 [ik x,bP cs,iP p] (ik (q8 cs R x Y)):=by
 obtain⟨w1,w2⟩:=hx.jW;have h7:(iW 7).ij:=sV aE;have wv:(oW x 64).ij:=wE _ aE aE _;exact ak call332 func332 (ae [.c (II p aC aC),.c (qd x aD),ai 22 x.all xa,ag [ie x.lo] (oo _ aD),tB 28 (bc h1),ag [ie x.hi] (oo _ aD),tB 33 (bc h2),.c (DB x 64 aD aD aC aC),tB 40 (a7 h3),ag [iP 7] (rC _ aC),ag [ie (oW x 64),ie (iW 7)] (nF _ _ aD aD),tB 47 (bc h4)]<|.w ((jj x.lo x.hi)=0)
  (λk1=>ae [ag [ie x.lo,bP cs,iP p] (xP cs aH),ag [ie x.hi,bP cs,iP p] (xQ cs aH),ag [ik P1,ik P2] hH,.c yU,ag [ik H,ik lL] vU,ag [ie x.lo,ie x.hi] (nF _ _ aD aD),tB 74 (aV k1)]<|rQ (ik Y) (ik (q8 cs R x Y)) (by unfold q8;simp[k1]))
  (λk1=>.w (cs=true)
   (λk2=>ae [tB 53 k2,ag [ie x.lo,bP true,iP p] (xP true (by simp[k2])),tB 58 k2,ag [ie x.hi,bP true,iP p] (xQ true (by simp[k2])),ag [ik P1,ik P2] hH,.c yU,ag [ik H,ik lL] vU,ag [ie x.lo,ie x.hi] (nF _ _ aD aD),tB 74 (aU k1),tB 76 k2,
    iz ((p:Int)+64) aC,ag [ik x,iP 0,iP ((p+64:Nat):Int)] (hM 0 aE)]<|.w (R 0=true)
    (λk3=>ae [tB 81 k3,ag [iP 1] (rC _ aC),iz ((p:Int)+64) aC,ag [ik x,iP 2,iP ((p+64:Nat):Int)] (hM 2 aE)]<|.w (R 2=true)
     (λk4=>ae [tB 88 k4,ag [iP (-1)] (rC _ aC)]<|rQ (ik (Iv.mk (iW (-1)) (iW 1) Y.all)) (ik (q8 cs R x Y)) (by unfold q8;simp[k1,k2,k3,k4]))
     (λk4=>ae [tB 88 (aW k4)]<|rQ (ik (Iv.mk Y.lo (iW 1) Y.all)) (ik (q8 cs R x Y)) (by unfold q8;simp[k1,k2,k3,k4])))
    (λk3=>ae [tB 81 (aW k3),iz ((p:Int)+64) aC,ag [ik x,iP 2,iP ((p+64:Nat):Int)] (hM 2 aE)]<|.w (R 2=true)
     (λk4=>ae [tB 88 k4,ag [iP (-1)] (rC _ aC)]<|rQ (ik (Iv.mk (iW (-1)) Y.hi Y.all)) (ik (q8 cs R x Y)) (by unfold q8;simp[k1,k2,k3,k4]))
     (λk4=>ae [tB 88 (aW k4)]<|rQ (ik Y) (ik (q8 cs R x Y)) (by unfold q8;simp[k1,k2,k3,k4]))))
   (λk2=>ae [tB 53 (aW k2),ag [ie x.lo,bP false,iP p] (xP false (by simp[k2])),tB 58 (aW k2),ag [ie x.hi,bP false,iP p] (xQ false (by simp[k2])),ag [ik P1,ik P2] hH,.c yU,ag [ik H,ik lL] vU,ag [ie x.lo,ie x.hi] (nF _ _ aD aD),tB 74 (aU k1),tB 76 (aW k2),iz ((p:Int)+64) aC,ag [ik x,iP 1,iP ((p+64:Nat):Int)] (hM 1 aE)]<|.w (R 1=true)
    (λk3=>ae [tB 81 k3,ag [iP 1] (rC _ aC),iz ((p:Int)+64) aC,ag [ik x,iP 3,iP ((p+64:Nat):Int)] (hM 3 aE)]<|.w (R 3=true)
     (λk4=>ae [tB 88 k4,ag [iP (-1)] (rC _ aC)]<|rQ (ik (Iv.mk (iW (-1)) (iW 1) Y.all)) (ik (q8 cs R x Y)) (by unfold q8;simp[k1,k2,k3,k4]))
     (λk4=>ae [tB 88 (aW k4)]<|rQ (ik (Iv.mk Y.lo (iW 1) Y.all)) (ik (q8 cs R x Y)) (by unfold q8;simp[k1,k2,k3,k4])))
    (λk3=>ae [tB 81 (aW k3),iz ((p:Int)+64) aC,ag [ik x,iP 3,iP ((p+64:Nat):Int)] (hM 3 aE)]<|.w (R 3=true)
     (λk4=>ae [tB 88 k4,ag [iP (-1)] (rC _ aC)]<|rQ (ik (Iv.mk (iW (-1)) Y.hi Y.all)) (ik (q8 cs R x Y)) (by unfold q8;simp[k1,k2,k3,k4]))
     (λk4=>ae [tB 88 (aW k4)]<|rQ (ik Y) (ik (q8 cs R x Y)) (by unfold q8;simp[k1,k2,k3,k4])))))) 
def Rq{x:Iv}(hx:x.ij)(cs:Bool){p:Nat}(il:8<=p)(ig:p<=512):∃ Z,Z.ij/\gW 332 [ik x,bP cs,iP (p:Int)] (ik Z):=by
 cases xa:x.all with
 |true=>exact⟨_,mi,abP x cs p hx xa il ig⟩
 |false=>
  by_cases hu:100<x.lo.iw\/100<x.hi.iw\/¬vG x 64=0\/0<=jj (oW x 64) (iW 7)
  .exact ⟨_,Ao,abS x cs p hx xa il ig hu⟩
  have h1:¬100<x.lo.iw:=λq=>hu (.inl q)
  have h2:¬100<x.hi.iw:=λq=>hu (.inr (.inl q))
  have h3:vG x 64=0:=bU λq=>hu (.inr (.inr (.inl q)))
  have h4:¬0<=jj (oW x 64) (iW 7):=λq=>hu (.inr (.inr (.inr q)))
  obtain⟨w1,w2⟩:=hx.jW;obtain⟨P1,g1,xP⟩:=Rt w1 aC cs il ig;obtain⟨P2,g2,xQ⟩:=Rt w2 aC cs il ig;replace xP:∀ c,c=cs->gW 353 [ie x.lo,bP c,iP (p:Int)] (ik P1):=λc h=>h▸xP
  replace xQ:∀ c,c=cs->gW 353 [ie x.hi,bP c,iP (p:Int)] (ik P2):=λc h=>h▸xQ
  obtain⟨H,g3,hH⟩:=aaS g1 g2;rcases aa0 g3 with⟨Y,hY,vU⟩|vU
  rotate_left
  .exact ⟨_,Ao,abR x cs p hx xa il ig h1 h2 h3 h4 P1 P2 H xP xQ hH vU⟩
  have ya:=hY.f;have v0:=hY.v;have v1:(Iv.mk (iW (-1)) (iW 1) Y.all).ij:=by rw[ya];exact Ao
  have v2:(Iv.mk Y.lo (iW 1) Y.all).ij:=by rw[ya];exact hY.up.v
  have v3:(Iv.mk (iW (-1)) Y.hi Y.all).ij:=by rw[ya];exact hY.dn.v
  have v4:(Iv.mk Y.lo Y.hi Y.all).ij:=hY.v;have hm:∀ s:Nat,∃ r,s<=3->gW 354 [ik x,iP (s:Int),iP ((p+64:Nat):Int)] (bP r):=λs=>by
   by_cases hs:s<=3
   .obtain ⟨r,m⟩:=ab1 hx xa s aC (p+64) aC aC aC ;exact⟨r,λ_=>m⟩
   .exact ⟨true,λh=>absurd h hs⟩
  refine⟨q8 cs (λs=>Classical.choose (hm s)) x Y,?_,abQ x cs p hx xa il ig h1 h2 h3 h4 P1 P2 H Y hY xP xQ hH vU (λs=>Classical.choose (hm s)) λs hs=>cO (hm s) hs⟩;generalize (λs=>Classical.choose (hm s))=R;unfold q8;by_cases q1:jj x.lo x.hi=0
  .rw [a6 q1];exact v0
  rw[aZ q1];by_cases q2:R (if cs=true then 2 else 3)=true<;>by_cases q3:R (if cs=true then 0 else 1)=true<;>simp only[q2,q3,bB,bn,bE]<;>assumption
def acs(x Z:Iv)(p:Nat)(hZ:gW 332 [ik x,bP false,iP (p:Int)] (ik Z)):gW 315 [ik x,iP p] (ik Z):=
 ak call315 func315 (af [ag [ik x,bP false,iP p] hZ]) 
def acr{x:Iv}(hx:x.ij){p:Nat}(il:8<=p)(ig:p<=512):∃ Z,Z.ij/\gW 315 [ik x,iP (p:Int)] (ik Z):=by
 obtain⟨Z,h1,h2⟩:=Rq hx false il ig;exact⟨Z,h1,acs x Z p h2⟩
def abU(x Z:Iv)(p:Nat)(hZ:gW 332 [ik x,bP true,iP (p:Int)] (ik Z)):gW 316 [ik x,iP p] (ik Z):=
 ak call316 func316 (af [ag [ik x,bP true,iP p] hZ]) 
def abT{x:Iv}(hx:x.ij){p:Nat}(il:8<=p)(ig:p<=512):∃ Z,Z.ij/\gW 316 [ik x,iP (p:Int)] (ik Z):=by
 obtain⟨Z,h1,h2⟩:=Rq hx true il ig;exact⟨Z,h1,abU x Z p h2⟩
def aer:uD:=λ_ _ hx il ig=>⟨anv hx il ig,anD hx il ig,acr hx il ig,abT hx il ig,agP hx il ig⟩
structure oY where
 kind:Int
 a:Int
 b:Int
 n:Int
 cn:Int
 cd:Int
structure jU where
 im:Int
 gZ:List oY
 iu:List Int
 iy:Int
 params:List RI
def lI:oY:=⟨0,0,0,0,0,0⟩
def Ai(o:oY):List E:=[iP o.kind,iP o.a,iP o.b,iP o.n,iP o.cn,iP o.cd]
def EN(o:oY):E:=.agg (Ai o)
def ky(l:List oY):E:=.sl true l.length 6 λi j=>(Ai (l.getD i lI)).getD j .any
def kD(l:List Int):E:=.sl true l.length 1 λi _=>iP (l.getD i 0)
def Pj(s:jU):List E:=[iP s.im,ky s.gZ,kD s.iu,iP s.iy,jz s.params]
def lr(s:jU):E:=.agg (Pj s)
structure oY.jE(o:oY):Prop where
 kind:kA .i64 o.kind
 a:kA .i64 o.a
 b:kA .i64 o.b
 n:kA .i64 o.n
 cn:kA .i64 o.cn
 cd:kA .i64 o.cd
structure jU.jE(s:jU):Prop where
 im:kA .i64 s.im
 gZ:∀ i,(s.gZ.getD i lI).jE
 iu:∀ i,kA .i64 (s.iu.getD i 0)
 iy:kA .i64 s.iy
 params:∀ i,(s.params.getD i jF).jE
structure jU.oZ(s:jU):Prop where
 gZ:s.gZ.length<=1000
 params:s.params.length<=1000
def kn(o:oY)(m:Int):Bool:=
 if o.kind=1 then nv o.cn o.cd&&decide (o.a=0/\o.b=0/\o.n=0)
 else if 3<=o.kind/\o.kind<=6 then decide (o.cn=0/\o.cd=0/\0<=o.a/\o.a<m/\0<=o.b/\o.b<m/\o.n=0)
 else if o.kind=8 then decide (o.cn=0/\o.cd=0/\0<=o.a/\o.a<m/\o.b=0/\0<=o.n/\o.n<=16)
 else if o.kind=7\/9<=o.kind/\o.kind<=13 then decide (o.cn=0/\o.cd=0/\0<=o.a/\o.a<m/\o.b=0/\o.n=0)
 else false
def Pc(s:jU):Bool:=(List.range s.gZ.length).all λi=>kn (s.gZ.getD i lI) (s.im+(i:Int))
def yy(s:jU)(k:Int):Bool:=decide (0<=k/\k<s.im+(s.gZ.length:Int))
def yC(s:jU):Bool:=(List.range s.iu.length).all λi=>yy s (s.iu.getD i 0)
noncomputable def nW(x:RI):Bool:=nL x && !x.all
noncomputable def EP(s:jU):Bool:=(List.range s.params.length).all λi=>nW (s.params.getD i jF)
noncomputable def lY(s:jU):Bool:=decide (0<=s.im/\s.im<=8/\s.gZ.length<=200/\s.iu.length<=200)&&Pc s&&yC s
 && decide (1<=s.iy/\s.iy<=4/\(s.iu.length:Int)=s.iy/\s.im=s.iy+(s.params.length:Int)/\s.params.length<=4)&&EP s
noncomputable def AD(n:Int)(b:List RI):Bool:=decide ((b.length:Int)=n)&&(List.range b.length).all λi=>nW (b.getD i jF)
noncomputable def BD(d:RD):Bool:=@decide d.Ok (Classical.propDecidable _)
def wF{d:RD}:BD d=true↔d.Ok:=@gN _ (Classical.propDecidable _)
def Ff{n:Nat}{f:Nat->Bool}(h:¬(List.range n).all f=true):∃ N,N<n/\(!f N)=true/\∀ k,k<N->(!f k)=false:=by
 refine rh ?_;apply bU;intro q;apply h;refine bM.2 λi hi=>?_
 cases hf:f i with
 |true=>rfl
 |false=>exact absurd ⟨i,bS.1 hi,by rw[hf];rfl⟩ q
def Qy{n:Nat}{f:Nat->Bool}:((List.range n).any λi=>!f i) = !((List.range n).all f):=by
 rw[dI];simp
def akE{s:jU}(h:¬(0<=s.im/\s.im<=8/\s.gZ.length<=200/\s.iu.length<=200/\1<=s.iy/\s.iy<=4/\(s.iu.length:Int)=s.iy/\s.params.length<=4/\s.im=s.iy+(s.params.length:Int))):lY s=false:=by
 refine aW λq=>h ?_
 unfold lY at q;simp only[bF,cC]at q;obtain⟨⟨⟨⟨a,_⟩,_⟩,b⟩,_⟩:=q;exact⟨a.1,a.2.1,a.2.2.1,a.2.2.2,b.1,b.2.1,b.2.2.1,b.2.2.2.2,b.2.2.2.1⟩
def oY.v(o:oY):ng:=⟨o.kind.toNat,o.a.toNat,o.b.toNat,o.n.toNat,o.cn,o.cd⟩
def jU.v(s:jU):jc:=⟨⟨s.im.toNat,s.gZ.map oY.v,s.iu.map Int.toNat⟩,s.iy.toNat,s.params.map RI.iv⟩
def nZ.of{k a b n m:Nat}{cn cd:Int}(k3:k=1\/3<=k)(xm:k<=13)(ha:k=1->a=0)(A6:¬k=1->a<m)(hb:3<=k/\k<=6->b<m)(mU:¬(3<=k/\k<=6)->b=0)
 (hn:k=8->n<=16) (uW:¬k=8->n=0) (hc:k=1->nv cn cd=true) (Ch:¬k=1->cn=0/\cd=0):nZ ⟨k,a,b,n,cn,cd⟩ m:=by
 refine⟨k3,xm,?_,?_,?_,?_,.inr aer⟩
 .show if k=1 then a=0 else a<m
  split<;>simp_all
 .show if 3<=k/\k<=6 then b<m else b=0
  split
  .rename_i h;exact hb h
  .rename_i h;exact mU h
 .show if k=8 then n<=16 else n=0
  split
  .rename_i h;exact hn h
  .rename_i h;exact uW h
 .show if k=1 then nv cn cd=true else cn=0/\cd=0
  split
  .rename_i h;exact hc h
  .rename_i h;exact Ch h
def akl{o:oY}{m:Nat}(h:kn o (m:Int)=true):nZ o.v m/\0<=o.kind/\0<=o.a/\0<=o.b/\0<=o.n:=by
 obtain⟨k,a,b,n,cn,cd⟩:=o;unfold kn at h;simp only at h;show nZ ⟨k.toNat,a.toNat,b.toNat,n.toNat,cn,cd⟩ m/\0<=k/\0<=a/\0<=b/\0<=n;split at h
 .rename_i hk;rw[bF,cC]at h;obtain⟨hr,h1,h2,h3⟩:=h;exact⟨nZ.of aC aC aC aC aC aC aC aC (λ_=>hr) aC,aC,aC,aC,aC⟩
 .rename_i lP;split at h
  .rename_i hk;have h:=cB h;exact⟨nZ.of aC aC aC aC aC aC aC aC aC aC,aC,aC,aC,aC⟩
  .split at h
   .rename_i hk;have h:=cB h;exact⟨nZ.of aC aC aC aC aC aC aC aC aC aC,aC,aC,aC,aC⟩
   .split at h
    .rename_i vV hk;have h:=cB h;exact⟨nZ.of aC aC aC aC aC aC aC aC aC aC,aC,aC,aC,aC⟩
    .cases h
def akn{o:oY}(h1:0<=o.kind)(h2:0<=o.a)(h3:0<=o.b)(h4:0<=o.n):Kk o.v=Ai o:=by
 obtain⟨k,a,b,n,cn,cd⟩:=o;simp only[Kk,Ai,oY.v]at *
 rw[eZ h1,eZ h2,eZ h3,eZ h4]
def Ya{s:jU}(g:s.jE)(h:lY s=true):kz s.v/\lr s=iV s.v:=by
 unfold lY at h;simp only[bF,cC]at h;obtain⟨⟨⟨⟨⟨i0,i8,l1,l2⟩,ho⟩,hu⟩,s1,s4,e1,e2,p4⟩,hp⟩:=h;have ho:=bM.1 ho;have hu:=bM.1 hu;have hp:=bM.1 hp;have opAt:∀ i,i<s.gZ.length->(s.gZ.map oY.v).getD i iE=(s.gZ.getD i lI).v:=λi hi=>by simp[bh,hi]
 have ouAt:∀ i,i<s.iu.length->(s.iu.map Int.toNat).getD i 0=(s.iu.getD i 0).toNat:=λi hi=>by simp[bh,hi]
 have paAt:∀ i,i<s.params.length->(s.params.map RI.iv).getD i ia=(s.params.getD i jF).iv:=λi hi=>by simp[bh,hi]
 have op:∀ i,i<s.gZ.length->nZ (s.gZ.getD i lI).v (s.im.toNat+i)/\0<=(s.gZ.getD i lI).kind/\0<=(s.gZ.getD i lI).a/\0<=(s.gZ.getD i lI).b/\0<=(s.gZ.getD i lI).n:=λi hi=>by
  have:=ho i (bS.2 hi);exact akl (by rwa[show((s.im.toNat+i:Nat):Int)=s.im+(i:Int)by omega])
 have ou:∀ i,i<s.iu.length->0<=s.iu.getD i 0/\s.iu.getD i 0<s.im+(s.gZ.length:Int):=λi hi=>cB (hu i (bS.2 hi))
 have pa:∀ i,i<s.params.length->(s.params.getD i jF).Ok/\(s.params.getD i jF).all=false:=λi hi=>by
  have:=hp i (bS.2 hi);unfold nW at this;rw[bF]at this;exact⟨s7.1 this.1,by simpa using this.2⟩
 refine⟨⟨⟨?_,?_,?_,?_,?_⟩,?_,?_,?_,?_,?_,?_⟩,?_⟩
 .show s.im.toNat<=8;omega
 .show (s.gZ.map oY.v).length<=200;rw[ck];exact l1
 .show (s.iu.map Int.toNat).length<=200;rw[ck];exact l2
 .intro i hi;have hi:i<s.gZ.length:=by simpa[jU.v]using hi
  show nZ ((s.gZ.map oY.v).getD i iE) (s.im.toNat+i);rw[opAt i hi];exact(op i hi).1
 .intro i hi;have hi:i<s.iu.length:=by simpa[jU.v]using hi
  show(s.iu.map Int.toNat).getD i 0<s.im.toNat+(s.gZ.map oY.v).length;rw[ouAt i hi,ck];have:=ou i hi;omega
 .show 1<=s.iy.toNat;omega
 .show s.iy.toNat<=4;omega
 .show (s.iu.map Int.toNat).length=s.iy.toNat;rw[ck];omega
 .show s.im.toNat=s.iy.toNat+(s.params.map RI.iv).length;rw[ck];omega
 .show (s.params.map RI.iv).length<=4;rw[ck];exact p4
 .intro i hi;have hi:i<s.params.length:=by simpa[jU.v]using hi
  show((s.params.map RI.iv).getD i ia).ij/\((s.params.map RI.iv).getD i ia).all=false;rw[paAt i hi];exact⟨(pa i hi).1.valid,(pa i hi).2⟩
 .have e1:iP s.im=iP (s.im.toNat:Int):=by rw[eZ i0]
  have e2:iP s.iy=iP (s.iy.toNat:Int):=by rw[eZ (aC:0<=s.iy)]
  have e3:ky s.gZ=kU (s.gZ.map oY.v):=by
   unfold ky kU;rw[ck];congr 1;funext i j;by_cases hi:i<s.gZ.length
   .rw [opAt i hi];obtain⟨_,h1,h2,h3,h4⟩:=op i hi;rw[akn h1 h2 h3 h4]
   .have a1:s.gZ.getD i lI=lI:=by rw[bh,cj aC];rfl
    have a2:(s.gZ.map oY.v).getD i iE=iE:=by rw[bh,cj (by rw[ck];omega)];rfl
    rw[a1,a2];rfl
  have e4:kD s.iu=kT (s.iu.map Int.toNat):=by
   unfold kD kT;rw[ck];congr 1;funext i j;by_cases hi:i<s.iu.length
   .rw [ouAt i hi,eZ (ou i hi).1]
   .rw [bh,cj aC,bh (l:=s.iu.map Int.toNat),cj (by rw[ck];omega)];rfl
  have e5:jz s.params=ib (s.params.map RI.iv):=by
   rw[<-Vt];congr 1;apply fV;intro i;unfold C8;rw[b6,b6];by_cases hi:i<s.params.length
   .have h1:=(pa i hi).1;have g1:=g.params i;rw[bu hi];rw[bh,bu hi]at h1 g1;exact congrArg some (RI.Ok.eq (x:=s.params[i]) h1 g1).symm
   .rw [cj aC];rfl
  show E.agg [iP s.im,ky s.gZ,kD s.iu,iP s.iy,jz s.params]=_;rw[e1,e2,e3,e4,e5];rfl
def X6(s:jU)(N:Nat)(x:Nat):PS:=⟨85,true,[(31,.e (iP x)),(30,.e (iP s.gZ.length)),(29,.e (ky s.gZ)),(3,.box 3 0),(1,.box 1 0)],[(3,.cells 25 [iP s.im,ky s.gZ,kD s.iu]),(1,.cells 28 [iP s.im,ky s.gZ,kD s.iu,iP s.iy,jz s.params])]⟩
def X7(s:jU)(x:Nat):PS:=⟨85,true,[(31,.e (iP x)),(30,.e (iP s.gZ.length)),(29,.e (ky s.gZ)),(3,.box 3 0),(1,.box 1 0)],[(3,.cells 25 [iP s.im,ky s.gZ,kD s.iu]),(1,.cells 28 [iP s.im,ky s.gZ,kD s.iu,iP s.iy,jz s.params])]⟩
def X8(s:jU)(x:Nat):PS:=⟨85,true,[(31,.e (iP x)),(30,.e (iP s.gZ.length)),(29,.e (ky s.gZ)),(3,.box 3 0),(1,.box 1 0)],[(3,.cells 25 [iP s.im,ky s.gZ,kD s.iu]),(1,.cells 28 [iP s.im,ky s.gZ,kD s.iu,iP s.iy,jz s.params])]⟩
def X9(s:jU)(x:Nat):PS:=⟨85,true,[(31,.e (iP x)),(30,.e (iP s.gZ.length)),(29,.e (ky s.gZ)),(3,.box 3 0),(1,.box 1 0)],[(3,.cells 25 [iP s.im,ky s.gZ,kD s.iu]),(1,.cells 28 [iP s.im,ky s.gZ,kD s.iu,iP s.iy,jz s.params])]⟩
def rK{a b:Bool}(h:a=true↔b=true):a=b:=dI.2 h
def mS{a b:Bool}(h:a=b):bP a=bP b:=h▸rfl
def mX{o:oY}{m:Int}{b:Bool}(h:b=kn o m:=by simp_all[kn,Rg]<;>(repeat' split)<;>intros<;>omega):bP b=bP (kn o m):=mS h
noncomputable def aix(o:oY)(m:Int)(g:o.jE)(C:Bool)(hC:C=decide (o.cn=0/\o.cd=0))(q1:¬o.a<0)(q2:¬o.b<0):Tr prog Tb:=
  .w (o.kind=1)
  (λk1=>ae [tB 21 (aV k1),.c (Ks o.cn o.cd)]<|.w (nv o.cn o.cd=true)
   (λk2=>ae [tB 24 k2]<|.w (o.a=0)
    (λk3=>ae [tB 28 (aV k3)]<|.w (o.b=0)
     (λk4=>ae [tB 33 (aV k4)]<|rQ (bP (o.n==0)) (bP (kn o m)) mX)
     (λk4=>ae [tB 33 (aU k4)]<|rQ (bP false) (bP (kn o m)) mX))
    (λk3=>ae [tB 28 (aU k3)]<|rQ (bP false) (bP (kn o m)) mX))
   (λk2=>ae [tB 24 (aW k2)]<|rQ (bP false) (bP (kn o m)) mX))
  (λk1=>ae [tB 21 (aU k1),.j 80 ⟨111,true,[(40,.e (bP (decide (3<=o.kind/\o.kind<=6)))),(19,.e (iP o.kind)),(5,.e (bP C)),(2,.box 2 0),(1,.e (iP m))],[(2,.cells 107 [iP o.kind,iP o.a,iP o.b,iP o.n,iP o.cn,iP o.cd])]⟩
   (.w (o.kind=3)
    (λm1=>ae [.v 40 (.bool (aV m1))]<|.e (af [tB 40 (rK aJ:true=(decide (3<=o.kind/\o.kind<=6)))]))
    (λm1=>ae [.v 40 (.bool (aU m1))]<|.w (o.kind=4)
     (λm2=>ae [tB 42 (aV m2)]<|.e (af [tB 40 (rK aJ:true=(decide (3<=o.kind/\o.kind<=6)))]))
     (λm2=>ae [tB 42 (aU m2)]<|.w (o.kind=5)
      (λm3=>ae [tB 43 (aV m3)]<|.e (af [tB 40 (rK aJ:true=(decide (3<=o.kind/\o.kind<=6)))]))
      (λm3=>ae [tB 43 (aU m3)]<|.e (af [tB 40 (rK aJ:(o.kind==6)=(decide (3<=o.kind/\o.kind<=6)))])))))]<|.w (3<=o.kind/\o.kind<=6)
   (λk2=>ae [.v 40 (.bool (a7 k2))]<|.w (C=true)
    (λk3=>ae [tB 45 k3]<|.w (o.a<m)
     (λk4=>ae [tB 50 (a7 k4)]<|.w (o.b<m)
      (λk5=>ae [tB 56 (a7 k5)]<|rQ (bP (o.n==0)) (bP (kn o m)) mX)
      (λk5=>ae [tB 56 (bc k5)]<|rQ (bP false) (bP (kn o m)) mX))
     (λk4=>ae [tB 50 (bc k4)]<|rQ (bP false) (bP (kn o m)) mX))
    (λk3=>ae [tB 45 (aW k3)]<|rQ (bP false) (bP (kn o m)) mX))
   (λk2=>ae [.v 40 (.bool (bc k2))]<|.w (o.kind=8)
    (λk3=>ae [tB 64 (aV k3)]<|.w (C=true)
     (λk4=>ae [tB 65 k4]<|.w (o.a<m)
      (λk5=>ae [tB 70 (a7 k5)]<|.w (o.b=0)
       (λk6=>ae [tB 75 (aV k6)]<|.w (0<=o.n)
        (λk7=>ae [tB 80 (a7 k7)]<|rQ (bP (decide (o.n<=16))) (bP (kn o m)) mX)
        (λk7=>ae [tB 80 (bc k7)]<|rQ (bP false) (bP (kn o m)) mX))
       (λk6=>ae [tB 75 (aU k6)]<|rQ (bP false) (bP (kn o m)) mX))
      (λk5=>ae [tB 70 (bc k5)]<|rQ (bP false) (bP (kn o m)) mX))
     (λk4=>ae [tB 65 (aW k4)]<|rQ (bP false) (bP (kn o m)) mX))
    (λk3=>ae [tB 64 (aU k3),.j 174 ⟨111,true,[(87,.e (bP (decide (o.kind=7\/9<=o.kind/\o.kind<=13)))),(5,.e (bP C)),(2,.box 2 0),(1,.e (iP m))],[(2,.cells 107 [iP o.kind,iP o.a,iP o.b,iP o.n,iP o.cn,iP o.cd])]⟩
   (.w (o.kind=7)
    (λm1=>ae [.v 87 (.bool (aV m1))]<|.e (af [tB 87 (rK aJ:true=(decide (o.kind=7\/9<=o.kind/\o.kind<=13)))]))
    (λm1=>ae [.v 87 (.bool (aU m1))]<|.w (o.kind=9)
     (λm2=>ae [tB 89 (aV m2)]<|.e (af [tB 87 (rK aJ:true=(decide (o.kind=7\/9<=o.kind/\o.kind<=13)))]))
     (λm2=>ae [tB 89 (aU m2)]<|.w (o.kind=10)
      (λm3=>ae [tB 90 (aV m3)]<|.e (af [tB 87 (rK aJ:true=(decide (o.kind=7\/9<=o.kind/\o.kind<=13)))]))
      (λm3=>ae [tB 90 (aU m3)]<|.w (o.kind=11)
       (λm4=>ae [tB 91 (aV m4)]<|.e (af [tB 87 (rK aJ:true=(decide (o.kind=7\/9<=o.kind/\o.kind<=13)))]))
       (λm4=>ae [tB 91 (aU m4)]<|.w (o.kind=12)
        (λm5=>ae [tB 92 (aV m5)]<|.e (af [tB 87 (rK aJ:true=(decide (o.kind=7\/9<=o.kind/\o.kind<=13)))]))
        (λm5=>ae [tB 92 (aU m5)]<|.e (af [tB 87 (rK aJ:(o.kind==13)=(decide (o.kind=7\/9<=o.kind/\o.kind<=13)))])))))))]<|.w (o.kind=7\/9<=o.kind/\o.kind<=13)
     (λk4=>ae [.v 87 (.bool (a7 k4))]<|.w (C=true)
      (λk5=>ae [tB 94 k5]<|.w (o.a<m)
       (λk6=>ae [tB 99 (a7 k6)]<|.w (o.b=0)
        (λk7=>ae [tB 104 (aV k7)]<|rQ (bP (o.n==0)) (bP (kn o m)) mX)
        (λk7=>ae [tB 104 (aU k7)]<|rQ (bP false) (bP (kn o m)) mX))
       (λk6=>ae [tB 99 (bc k6)]<|rQ (bP false) (bP (kn o m)) mX))
      (λk5=>ae [tB 94 (aW k5)]<|rQ (bP false) (bP (kn o m)) mX))
     (λk4=>ae [.v 87 (.bool (bc k4))]<|rQ (bP false) (bP (kn o m)) mX))))
def GR(o:oY)(m:Int)(g:o.jE):gW 178 [EN o,iP m] (bP (kn o m)):=
 ak call178 func178 (.w (o.a<0)
  (λk1=>ae [tB 8 (a7 k1)]<|rQ (bP false) (bP (kn o m)) mX)
  (λk1=>ae [tB 8 (bc k1)]<|.w (o.b<0)
   (λk2=>ae [tB 12 (a7 k2)]<|rQ (bP false) (bP (kn o m)) mX)
   (λk2=>ae [tB 12 (bc k2),.g (WZ g.cn g.cd rfl:pB prog .eql 93 (.agg [iP o.cn,iP o.cd]) (.agg [iP 0,iP 0]) (.bool (decide (o.cn=0/\o.cd=0))))]<|aix o m g (decide (o.cn=0/\o.cd=0)) rfl k1 k2))) 
def amo(s:jU)(g:s.jE)(k:Int)(h0:0<=s.im)(h8:s.im<=8)(l2:s.gZ.length<=200):gW 179 [iP k,(.iQ 3 λj_=>[iP s.im,ky s.gZ,kD s.iu].getD j_ .any)] (bP (!yy s k)):=
 ak call179 func179 (.w (k<0)
  (λk1=>ae [tB 5 (a7 k1)]<|rQ (bP true) (bP (!yy s k)) (mS (by unfold yy;rw[dI];simp_all)))
  (λk1=>ae [tB 5 (bc k1),iz (s.im+(s.gZ.length:Int)) aC]<|rQ (bP (decide ((s.im+(s.gZ.length:Int))<=k))) (bP (!yy s k)) (mS (by unfold yy;rw[dI];simp_all)))) 
def amq(x:RI)(g:x.jE):gW 180 [vt x] (bP (!nW x)):=by
 have ga:=g.lo;have gb:=g.hi;by_cases ha:x.all=true
 .have e:nW x=false:=by unfold nW;rw[ha];simp
  rw[e];exact ak call180 func180 (af [ah 4 x.all ha]) 
 .replace ha:x.all=false:=by simpa using ha
  by_cases h1:x.lo.Ok
  .by_cases h2:x.hi.Ok
   .have v1:=h1.valid;have v2:=h2.valid;have e1:vt x=ik x.iv:=by rw[<-Gv,show x.iv.raw=x by show RI.mk x.lo.dy.raw x.hi.dy.raw x.all=x;rw[h1.eq ga,h2.eq gb]]
    rw[e1];by_cases h3:jj x.lo.dy x.hi.dy<=0
    .have e:nW x=true:=by unfold nW;rw[s7.2 (.inr ⟨ha,h1,h2,h3⟩),ha];rfl
     rw[e];exact ak call180 func180 (af [ai 4 x.iv.all ha,ag [ie x.iv.lo] (oq _ aD),ag [ie x.iv.hi] (oq _ aD),ag [ie x.iv.lo,ie x.iv.hi] (nF _ _ aD aD),tF 23 (0<(jj x.iv.lo x.iv.hi)) (by show ¬0<jj x.lo.dy x.hi.dy;omega)]) 
    .have e:nW x=false:=by unfold nW;rw[show nL x=false by simpa using λq=>(s7.1 q).elim (λq=>by rw[ha]at q;exact Bool.noConfusion q.1) λq=>h3 q.2.2.2];rfl
     rw[e];exact ak call180 func180 (af [ai 4 x.iv.all ha,ag [ie x.iv.lo] (oq _ aD),ag [ie x.iv.hi] (oq _ aD),ag [ie x.iv.lo,ie x.iv.hi] (nF _ _ aD aD),tT 23 (0<(jj x.iv.lo x.iv.hi)) (by show 0<jj x.lo.dy x.hi.dy;omega)]) 
   .have e:nW x=false:=by unfold nW;rw[show nL x=false by simpa using λq=>(s7.1 q).elim (λq=>by rw[ha]at q;exact Bool.noConfusion q.1) λq=>h2 q.2.2.1];rfl
    rw[e];exact ak call180 func180 (af [ai 4 x.all ha,ag [kX x.lo] (B5 _ aD true (by simp[h1])),ag [kX x.hi] (B5 _ aD false (by simp[h2]))]) 
  .have e:nW x=false:=by unfold nW;rw[show nL x=false by simpa using λq=>(s7.1 q).elim (λq=>by rw[ha]at q;exact Bool.noConfusion q.1) λq=>h1 q.2.1];rfl
   rw[e];exact ak call180 func180 (af [ai 4 x.all ha,ag [kX x.lo] (B5 _ aD false (by simp[h1]))]) 
def OH(s:jU)(h0:0<=s.im)(h8:s.im<=8)(l2:s.gZ.length<=200)(lu:s.iu.length<=200)(g:s.jE):gW 67 [kD s.iu,.fn 179 [(.iQ 3 λj_=>[iP s.im,ky s.gZ,kD s.iu].getD j_ .any)]] (bP (!yC s)):=by
 have:=agA true s.iu.length (λi _=>iP (s.iu.getD i 0)) 179 [(.iQ 3 λj_=>[iP s.im,ky s.gZ,kD s.iu].getD j_ .any)] (λi=>!yy s (s.iu.getD i 0)) (λi _=>amo s g _ h0 h8 l2) (aC:s.iu.length<=1000000);rwa[Qy]at this
def W7(f:FuncId)(l:List RI)(hf:∀ i,gW f [vt (l.getD i jF)] (bP (!nW (l.getD i jF))))(hl:l.length<=1000):gW 53 [jz l,.fn f []] (bP (!((List.range l.length).all λi=>nW (l.getD i jF)))):=by
 have:=JZ true l.length (λi j=>(Ah (l.getD i jF)).getD j .any) f [] (λi=>!nW (l.getD i jF)) (λi _=>hf i) (aC:l.length<=1000000);rwa[Qy]at this
def ams(s:jU)(g:s.jE)(sm:s.oZ)(hc:¬(0<=s.im/\s.im<=8/\s.gZ.length<=200/\s.iu.length<=200)):gW 105 [lr s] (bP false):=
 ak call105 func105 (.w (s.im<0)
  (λk1=>af [tB 10 (a7 k1)])
  (λk1=>ae [tB 10 (bc k1)]<|.w (8<s.im)
   (λk2=>af [tB 14 (a7 k2)])
   (λk2=>ae [tB 14 (bc k2)]<|.w (200<(s.gZ.length:Int))
    (λk3=>af [tB 20 (a7 k3)])
    (λk3=>ae [tB 20 (bc k3)]<|.w (200<(s.iu.length:Int))
     (λk4=>af [tB 26 (a7 k4)])
     (λk4=>.x aC))))) 
def amt(s:jU)(g:s.jE)(sm:s.oZ)(i0:0<=s.im)(i8:s.im<=8)(l1:s.gZ.length<=200)(l2:s.iu.length<=200)(N:Nat)(mQ:N<s.gZ.length)(je:∀ k,k<N->(kn (s.gZ.getD k lI) (s.im+(k:Int)))=true)(hN:(kn (s.gZ.getD N lI) (s.im+(N:Int)))=false):gW 105 [lr s] (bP false):=
 ak call105 func105 (af [tF 10 (s.im<0) aC,tF 14 (8<s.im) aC,tF 20 (200<(s.gZ.length:Int)) aC,tF 26 (200<(s.iu.length:Int)) aC,.s (Sp.jC (X6 s N) 0 N aC (λx hx k0=>by
    have pG:=g.gZ x;exact iF (af [tT 32 ((x:Int)<s.gZ.length) aC,iX (x:Int) (s.gZ.length) aC,iz (s.im+(x:Int)) aC,.c (GR (s.gZ.getD x lI) (s.im+(x:Int)) pG),ai 42 (!(kn (s.gZ.getD x lI) (s.im+(x:Int)))) (by rw[je x aC];rfl),iz ((x:Int)+1) aC]) aF)
  (λhx=>by
    have pG:=g.gZ N;exact iF (af [tT 32 ((N:Int)<s.gZ.length) aC,iX (N:Int) (s.gZ.length) aC,iz (s.im+(N:Int)) aC,.c (GR (s.gZ.getD N lI) (s.im+(N:Int)) pG),ah 42 (!(kn (s.gZ.getD N lI) (s.im+(N:Int)))) (by rw[hN];rfl)]) aF) aI:jA 5 f105 (X6 s N 0) .ret ⟨85,true,[(2,.e (bP false))],[]⟩) .nil]) 
def amu(s:jU)(g:s.jE)(sm:s.oZ)(i0:0<=s.im)(i8:s.im<=8)(l1:s.gZ.length<=200)(l2:s.iu.length<=200)(je:∀ k,k<s.gZ.length->(kn (s.gZ.getD k lI) (s.im+(k:Int)))=true)(hu:yC s=false):gW 105 [lr s] (bP false):=
 ak call105 func105 (af [tF 10 (s.im<0) aC,tF 14 (8<s.im) aC,tF 20 (200<(s.gZ.length:Int)) aC,tF 26 (200<(s.iu.length:Int)) aC,.s (Sp.jC (X7 s) 0 s.gZ.length aC (λx hx k0=>by
    have pG:=g.gZ x;exact iF (af [tT 32 ((x:Int)<s.gZ.length) aC,iX (x:Int) (s.gZ.length) aC,iz (s.im+(x:Int)) aC,.c (GR (s.gZ.getD x lI) (s.im+(x:Int)) pG),ai 42 (!(kn (s.gZ.getD x lI) (s.im+(x:Int)))) (by rw[je x aC];rfl),iz ((x:Int)+1) aC]) aF)
  (λhx=>by
    exact iF (af [tF 32 ((s.gZ.length:Int)<s.gZ.length) aC]) aF) aI:jA 5 f105 (X7 s 0) (.exit 0) ⟨85,true,[(3,.box 3 0),(1,.box 1 0)],[(3,.cells 25 [iP s.im,ky s.gZ,kD s.iu]),(1,.cells 28 [iP s.im,ky s.gZ,kD s.iu,iP s.iy,jz s.params])]⟩) .nil,ag [kD s.iu,.fn 179 [(.iQ 3 λj_=>[iP s.im,ky s.gZ,kD s.iu].getD j_ .any)]] (OH s aC aC aC aC g),ah 47 (!(yC s)) (by rw[hu];rfl)]) 
def amv(s:jU)(g:s.jE)(sm:s.oZ)(i0:0<=s.im)(i8:s.im<=8)(l1:s.gZ.length<=200)(l2:s.iu.length<=200)(je:∀ k,k<s.gZ.length->(kn (s.gZ.getD k lI) (s.im+(k:Int)))=true)(hu:yC s=true)(hc:¬(1<=s.iy/\s.iy<=4/\(s.iu.length:Int)=s.iy/\s.im=s.iy+(s.params.length:Int)/\s.params.length<=4)):gW 105 [lr s] (bP false):=by
 have sp:=sm.params;exact ak call105 func105 (ae [tF 10 (s.im<0) aC,tF 14 (8<s.im) aC,tF 20 (200<(s.gZ.length:Int)) aC,tF 26 (200<(s.iu.length:Int)) aC,.s (Sp.jC (X8 s) 0 s.gZ.length aC (λx hx k0=>by
    have pG:=g.gZ x;exact iF (af [tT 32 ((x:Int)<s.gZ.length) aC,iX (x:Int) (s.gZ.length) aC,iz (s.im+(x:Int)) aC,.c (GR (s.gZ.getD x lI) (s.im+(x:Int)) pG),ai 42 (!(kn (s.gZ.getD x lI) (s.im+(x:Int)))) (by rw[je x aC];rfl),iz ((x:Int)+1) aC]) aF)
  (λhx=>by
    exact iF (af [tF 32 ((s.gZ.length:Int)<s.gZ.length) aC]) aF) aI:jA 5 f105 (X8 s 0) (.exit 0) ⟨85,true,[(3,.box 3 0),(1,.box 1 0)],[(3,.cells 25 [iP s.im,ky s.gZ,kD s.iu]),(1,.cells 28 [iP s.im,ky s.gZ,kD s.iu,iP s.iy,jz s.params])]⟩) .nil,ag [kD s.iu,.fn 179 [(.iQ 3 λj_=>[iP s.im,ky s.gZ,kD s.iu].getD j_ .any)]] (OH s aC aC aC aC g),ai 47 (!(yC s)) (by rw[hu];rfl)]<|.w (s.iy<1)
  (λk1=>af [tB 50 (a7 k1)])
  (λk1=>ae [tB 50 (bc k1)]<|.w (4<s.iy)
   (λk2=>af [tB 54 (a7 k2)])
   (λk2=>ae [tB 54 (bc k2)]<|.w ((s.iu.length:Int)=s.iy)
    (λk3=>ae [tB 62 (aX k3),iz (s.iy+(s.params.length:Int)) aC]<|.w (s.im=(s.iy+(s.params.length:Int)))
     (λk4=>ae [tB 73 (aX k4)]<|.w (4<(s.params.length:Int))
      (λk5=>af [tB 79 (a7 k5)])
      (λk5=>.x aC))
     (λk4=>af [tB 73 (aY k4)]))
    (λk3=>af [tB 62 (aY k3)])))) 
def amw(s:jU)(g:s.jE)(sm:s.oZ)(i0:0<=s.im)(i8:s.im<=8)(l1:s.gZ.length<=200)(l2:s.iu.length<=200)(je:∀ k,k<s.gZ.length->(kn (s.gZ.getD k lI) (s.im+(k:Int)))=true)(hu:yC s=true)(s1:1<=s.iy)(s4:s.iy<=4)(e1:(s.iu.length:Int)=s.iy)(e2:s.im=s.iy+(s.params.length:Int))(p4:s.params.length<=4):gW 105 [lr s] (bP (EP s)):=by
 have sp:=sm.params;exact ak call105 func105 (ae [tF 10 (s.im<0) aC,tF 14 (8<s.im) aC,tF 20 (200<(s.gZ.length:Int)) aC,tF 26 (200<(s.iu.length:Int)) aC,.s (Sp.jC (X9 s) 0 s.gZ.length aC (λx hx k0=>by
    have pG:=g.gZ x;exact iF (af [tT 32 ((x:Int)<s.gZ.length) aC,iX (x:Int) (s.gZ.length) aC,iz (s.im+(x:Int)) aC,.c (GR (s.gZ.getD x lI) (s.im+(x:Int)) pG),ai 42 (!(kn (s.gZ.getD x lI) (s.im+(x:Int)))) (by rw[je x aC];rfl),iz ((x:Int)+1) aC]) aF)
  (λhx=>by
    exact iF (af [tF 32 ((s.gZ.length:Int)<s.gZ.length) aC]) aF) aI:jA 5 f105 (X9 s 0) (.exit 0) ⟨85,true,[(3,.box 3 0),(1,.box 1 0)],[(3,.cells 25 [iP s.im,ky s.gZ,kD s.iu]),(1,.cells 28 [iP s.im,ky s.gZ,kD s.iu,iP s.iy,jz s.params])]⟩) .nil,ag [kD s.iu,.fn 179 [(.iQ 3 λj_=>[iP s.im,ky s.gZ,kD s.iu].getD j_ .any)]] (OH s aC aC aC aC g),ai 47 (!(yC s)) (by rw[hu];rfl),tF 50 (s.iy<1) aC,tF 54 (4<s.iy) aC,ai 62 ((s.iu.length:Int) != s.iy) (by simp[e1]),iz (s.iy+(s.params.length:Int)) aC,ai 73 (s.im != (s.iy+(s.params.length:Int))) (by simp[e2]),tF 79 (4<(s.params.length:Int)) aC,.c (W7 180 s.params (λi=>amq _ (g.params i)) aC:gW 53 [jz s.params,.fn 180 []] _)]<|rQ (bP (!(!(EP s)))) (bP (EP s)) (mS aH)) 
def amx(s:jU)(g:s.jE)(sm:s.oZ):gW 105 [lr s] (bP (lY s)):=by
 by_cases c1:0<=s.im/\s.im<=8/\s.gZ.length<=200/\s.iu.length<=200
 rotate_left
 .rw [show lY s=false by unfold lY;rw[bc c1];rfl];exact ams s g sm c1
 obtain⟨i0,i8,l1,l2⟩:=c1;by_cases c2:Pc s=true
 rotate_left
 .rw [show lY s=false by unfold lY;rw[aW c2];simp];obtain⟨N,n1,n2,n3⟩:=Ff c2;exact amt s g sm i0 i8 l1 l2 N n1 (λk hk=>by simpa using n3 k hk) (by simpa using n2)
 have je:∀ k,k<s.gZ.length->kn (s.gZ.getD k lI) (s.im+(k:Int))=true:=λk hk=>bM.1 c2 k (bS.2 hk)
 cases hu:yC s with
 |false=>
  rw[show lY s=false by unfold lY;rw[hu];simp];exact amu s g sm i0 i8 l1 l2 je hu
 |true=>
  by_cases c3:1<=s.iy/\s.iy<=4/\(s.iu.length:Int)=s.iy/\s.im=s.iy+(s.params.length:Int)/\s.params.length<=4
  .rw [show lY s=EP s by unfold lY;rw[a7 (⟨i0,i8,l1,l2⟩:_/\_),c2,hu,a7 c3];simp];obtain⟨s1,s4,e1,e2,p4⟩:=c3;exact amw s g sm i0 i8 l1 l2 je hu s1 s4 e1 e2 p4
  .rw [show lY s=false by unfold lY;rw[bc c3];simp];exact amv s g sm i0 i8 l1 l2 je hu c3
def Yt(a:List Iv)(t:Iv)(p:Nat)(n:Nat):PS:=⟨38,true,[(8,.e (iP ((a.length:Int)-2-(n:Int)))),(7,.box 7 0),(6,.box 6 0),(4,.box 4 0),(0,.e (ib a)),(2,.e (iP p))],[(7,.cells 39 (iJ (vX a t p (a.length-1) n))),(6,.cells 39 au),(4,.cells 39 (iJ t))]⟩
noncomputable def XU(s:jc)(y:List Iv)(t:Iv)(k p:Nat)(i:Nat):PS:=⟨54,true,[(15,.own 15),(37,.e (iP i)),(36,.e (iP ((iU s y p (k+1)).length:Int))),(35,.e (kN (iU s y p (k+1)))),(14,.box 14 0),(3,.e (iP k)),(4,.e (iP p))],[(15,.row true 39 i 7 (iK ((List.range i).map (λi=>iD (((iU s y p (k+1)).getD i []).getD (k+1) ia) (kZ t (k+1) p) p)))),(14,.cells 39 (iJ (kZ t (k+1) p)))]⟩
noncomputable def QG(s:jc)(x y:List Iv)(t:Iv)(k p:Nat)(i:Nat):PS:=⟨89,true,[(17,.own 17),(65,.e (iP i)),(64,.e (iP ((iU s x p k).length:Int))),(16,.e (ib (mL s y t k p))),(14,.e (kN (iU s x p k))),(9,.box 9 0),(5,.e (iP p))],[(17,.row true 39 i 7 (iK ((List.range i).map (λi=>jf (np ((iU s x p k).getD i []) t p) ((mL s y t k p).getD i ia) p)))),(9,.cells 39 (iJ t))]⟩
noncomputable def QH(s:jc)(x y:List Iv)(t:Iv)(k p:Nat)(i:Nat):PS:=⟨89,true,[(17,.own 17),(65,.e (iP i)),(64,.e (iP ((iU s x p k).length:Int))),(16,.e (ib (mL s y t k p))),(14,.e (kN (iU s x p k))),(9,.box 9 0),(5,.e (iP p))],[(17,.row true 39 i 7 (iK ((List.range i).map (λi=>jf (np ((iU s x p k).getD i []) t p) ((mL s y t k p).getD i ia) p)))),(9,.cells 39 (iJ t))]⟩
def Rd(s:jc)(x:List Iv)(h:kz s)(hx:jh s.iy x):gW 163 [ib x,(.iQ 5 λj_=>[iP s.tape.im,kU s.tape.gZ,kT s.tape.iu,iP s.iy,ib s.params].getD j_ .any)] (bP false):=by
 have s1:=h.s1;have s4:=h.s4;have lx:=hx.len;exact ak call163 func163 (af [.c (yS x aC aC hx.ok),ai 12 ((x.length:Int) != (s.iy:Int)) (zY aC)]) 
def uG(s:jc)(x:List Iv)(h:kz s)(hx:jh s.iy x):gW 86 [iV s,(.sl true 1 1 λi_ j_=>[ib x].getD (i_*1+j_) (.v (.bool false)))] (bP true):=
 ak call86 func86 (af [.c (EX s h),.c (KI true 1 _ 163 [(.iQ 5 λj_=>[iP s.tape.im,kU s.tape.gZ,kT s.tape.iu,iP s.iy,ib s.params].getD j_ .any)] (λ_=>false) (λi hi=>by obtain rfl:i=0:= aC;exact Rd s _ h aD) aC (λ_ _=>rfl):gW 50 [(.sl true 1 1 λi_ j_=>[ib x].getD (i_*1+j_) (.v (.bool false))),.fn 163 [(.iQ 5 λj_=>[iP s.tape.im,kU s.tape.gZ,kT s.tape.iu,iP s.iy,ib s.params].getD j_ .any)]] _)]) 
def afI(s:jc)(x:List Iv)(h:kz s)(hx:jh s.iy x)(y:List Iv)(hy:jh s.iy y):gW 50 [kN [x,y],.fn 163 [(.iQ 5 λj_=>[iP s.tape.im,kU s.tape.gZ,kT s.tape.iu,iP s.iy,ib s.params].getD j_ .any)]] (bP false):=
 KI true 2 (λi _=>ib ([x,y].getD i [])) 163 _ (λ_=>false) (λi hi=>by obtain rfl|rfl:i=0\/i=1:= aC <;>exact Rd s _ h aD) aC (λ_ _=>rfl)
def Re(s:jc)(x:List Iv)(h:kz s)(hx:jh s.iy x)(y:List Iv)(hy:jh s.iy y):gW 86 [iV s,kN [x,y]] (bP true):=
 ak call86 func86 (af [.c (EX s h),ag [kN [x,y],.fn 163 [(.iQ 5 λj_=>[iP s.tape.im,kU s.tape.gZ,kT s.tape.iu,iP s.iy,ib s.params].getD j_ .any)]] (afI s x h hx y hy)]) 
def Xb(p:Int):gW 87 [iP p] (bP (decide (8<=p)&&decide (p<=512))):=
 ak call87 func87 (.w (8<=p)
  (λk1=>ae [tB 4 (a7 k1)]<|rQ (bP (decide (p<=512))) (bP (decide (8<=p)&&decide (p<=512))) (mS (by simp[k1])))
  (λk1=>ae [tB 4 (bc k1)]<|rQ (bP false) (bP (decide (8<=p)&&decide (p<=512))) (mS (by simp[k1])))) 
def W5(k:Int):gW 93 [iP k] (bP (decide (1<=k)&&decide (k<=15))):=
 ak call93 func93 (.w (1<=k)
  (λk1=>ae [tB 4 (a7 k1)]<|rQ (bP (decide (k<=15))) (bP (decide (1<=k)&&decide (k<=15))) (mS (by simp[k1])))
  (λk1=>ae [tB 4 (bc k1)]<|rQ (bP false) (bP (decide (1<=k)&&decide (k<=15))) (mS (by simp[k1])))) 
def vk(p:Nat)(h1:8<=p)(h2:p<=512):gW 87 [iP (p:Int)] (bP true):=by
 have:=Xb (p:Int);rwa[show(decide (8<=(p:Int))&&decide ((p:Int)<=512))=true from aN]at this
def Ac(k:Nat)(h1:1<=k)(h2:k<=15):gW 93 [iP (k:Int)] (bP true):=by
 have:=W5 (k:Int);rwa[show(decide (1<=(k:Int))&&decide ((k:Int)<=15))=true from aN]at this
def Zy(t:Iv)(ht:t.ij)(ta:t.all=false)(t0:0<=t.lo.iM):gW 147 [ik t] (bP true):=by
 obtain⟨w1,w2⟩:=ht.jW;exact ak call147 func147 (af [ai 4 t.all ta,.c (qd t aD),ag [ie t.lo] (mT _ aD),tB 14 (a7 t0)]) 
def Yu(a:List Iv)(t:Iv)(n p:Nat)(h1:1<=n)(nG:n<=17)(ha:kI n a)(ht:t.ij)(il:8<=p)(ig:p<=512):gW 149 [ib a,ik t,iP p] (ik (np a t p)):=by
 have la:=ha.len;have va0:=ha.ok 0;have va1:=ha.ok (a.length-1);exact ak call149 func149 (ae [.o 10 (.e (Bn _):aj (.sl true 1 1 λi_ j_=>[ib a].getD (i_*1+j_) (.v (.bool false))) (kN [a])),.c (vJ [a] n aC aC aH (AB aD)),
  iz ((a.length:Int)-1) aC,.o 17 (aq ((a.length:Int)-1) ((a.length-1:Nat):Int) aC),iX ((a.length-1:Nat):Int) (a.length) aC,
  iz ((a.length:Int)-2) aC,.s (Sp.jC (Yt a t p) 0 (a.length-1) aC (λn hn anX=>by
    have v1:=Uy (h:=t) (m:=a.length-1) (aC:1<=p) (aC:p<=4096) ha.ok n;have v2:=ha.ok (a.length-1-(n+1));have v3:(iD (vX a t p (a.length-1) n) t p).ij:=nV _ _ aC aC;have en:((a.length:Int)-2-(n:Int)).toNat=a.length-1-(n+1):= aC ;exact iF (ae [tT 24 (0<=((a.length:Int)-2-(n:Int))) aC,.o 28 (aq ((a.length:Int)-2-(n:Int)) ((a.length-1-(n+1):Nat):Int) aC),
     iX ((a.length-1-(n+1):Nat):Int) (a.length) aC,.c (sC (vX a t p (a.length-1) n) t p aD aD aC aC),.c (wh (a.getD (a.length-1-(n+1)) ia) (iD (vX a t p (a.length-1) n) t p) p aD aD aC aC),iz (((a.length:Int)-2-(n:Int))-1) aC]<|.e (af [.o 8 (aq (((a.length:Int)-2-(n:Int))-1) ((a.length:Int)-2-((n+1:Nat):Int)) aO),.b 7 (.iT rfl:Bx.le (.cells 39 (iJ (jf (a.getD (a.length-1-(n+1)) ia) (iD (vX a t p (a.length-1) n) t p) p))) (.cells 39 (iJ (vX a t p (a.length-1) (n+1)))))])) aF)
  (λhn=>by
    exact iF (af [tF 24 (0<=((a.length:Int)-2-((a.length-1:Nat):Int))) aC]) aF) aI:jA 5 f149 (Yt a t p 0) (.exit 0) ⟨38,true,[(7,.box 7 0),(6,.box 6 0)],[(7,.cells 39 (iJ (vX a t p (a.length-1) (a.length-1)))),(6,.cells 39 au)]⟩) (af [.o 8 (aq ((a.length:Int)-2) ((a.length:Int)-2-((0:Nat):Int)) aO),.b 7 (.iT rfl:Bx.le (.cells 39 (iJ (a.getD (a.length-1) ia))) (.cells 39 (iJ (vX a t p (a.length-1) 0))))])]<|rR (ik (np a t p)) (.iT rfl:E.le (ik (vX a t p (a.length-1) (a.length-1))) (ik (np a t p)))) 
def ahb(x:Iv):gW 214 [ik x] (bP x.all):=
 ak call214 func214 (.nil) 
def CN(b:List Iv):E:=if nP b then .ix [.v (.slice none 0 0),iP 11]else .ix [ib b,iP 0]
def VG(b:List Iv)(hl:b.length<=1000):gW 150 [ib b] (CN b):=
 ak call150 func150 (ae [.c (JZ true _ _ 214 [] (λi=>(b.getD i ia).all) (λi _=>ahb _) aC:gW 53 [ib b,.fn 214 []] _)]<|.w (nP b=true)
  (λk1=>ae [tB 5 k1]<|rQ (.ix [.v (.slice none 0 0),iP 11]) (CN b) (by unfold CN;rw[show nP b=true from k1];rfl))
  (λk1=>ae [tB 5 (aW k1)]<|rQ (.ix [ib b,iP 0]) (CN b) (by unfold CN;rw[show nP b=false from aW k1];rfl))) 
def XV(s:jc)(y:List Iv)(t:Iv)(k p:Nat)(h:kz s)(hy:jh s.iy y)(ht:t.ij)(lP:1<=k)(hk:k<=15)(il:8<=p)(ig:p<=512):gW 148 [iV s,ib y,ik t,iP k,iP p] (.ix [ib (mL s y t k p),iP 0]):=by
 have e0:=uj s y p (k+1);have s1:=h.s1;have s4:=h.s4;have ly:=hy.len;have v2:=Kr ht (k+1) (aC:1<=p) (aC:p<=4096);exact ak call148 func148 (ae [iz ((k:Int)+1) aC,.c (LS s y (k+1) p h aD il ig aC),ai 28 ((0:Int) != 0) aE,iz ((k:Int)+1) aC,ag [ik t,iP ((k+1:Nat):Int),iP p] (Fk _ _ _ aD aC aC aC),.y 15 15 true 39 7 (iK ((List.range 0).map (λi=>iD (((iU s y p (k+1)).getD i []).getD (k+1) ia) (kZ t (k+1) p) p))),.s (Sp.jC (XU s y t k p) 0 ((iU s y p (k+1)).length) aC (λi hi nQ=>by
    have hs:=Em h hy il ig (k+1) aC i aC;have rf:=hs.len;have v1:=hs.ok (k+1);have v2:=Kr ht (k+1) (aC:1<=p) (aC:p<=4096);have qy:=oP (iD (((iU s y p (k+1)).getD i []).getD (k+1) ia) (kZ t (k+1) p) p);exact iF (ae [tT 38 ((i:Int)<((iU s y p (k+1)).length:Int)) aC,iX (i:Int) ((iU s y p (k+1)).length) aC,iz ((k:Int)+1) aC,
     iX ((k+1:Nat):Int) (((iU s y p (k+1)).getD i []).length) aC,.c (sC (((iU s y p (k+1)).getD i []).getD (k+1) ia) (kZ t (k+1) p) p aD aD aC aC),.o 50 (.e (lh _):aj (.sl true 1 7 λi_ j_=>(iJ (iD (((iU s y p (k+1)).getD i []).getD (k+1) ia) (kZ t (k+1) p) p)).getD (i_*7+j_) (.v (.bool false))) (ib [iD (((iU s y p (k+1)).getD i []).getD (k+1) ia) (kZ t (k+1) p) p])),.a (aC:(i+[iD (((iU s y p (k+1)).getD i []).getD (k+1) ia) (kZ t (k+1) p) p].length)*88<=140737488355328),iz ((i:Int)+1) aC]<|.e (af [.b 15 (wj rfl rfl rfl:Bx.le (.row true 39 (i+[iD (((iU s y p (k+1)).getD i []).getD (k+1) ia) (kZ t (k+1) p) p].length) 7 (λi_ j_=>if i_<i then(iK ((List.range i).map (λi=>iD (((iU s y p (k+1)).getD i []).getD (k+1) ia) (kZ t (k+1) p) p))) i_ j_ else(E.kG (ib [iD (((iU s y p (k+1)).getD i []).getD (k+1) ia) (kZ t (k+1) p) p])) (i_-i) j_)) (.row true 39 (i+1) 7 (iK ((List.range (i+1)).map (λi=>iD (((iU s y p (k+1)).getD i []).getD (k+1) ia) (kZ t (k+1) p) p)))))])) aF)
  (λhi=>by
    exact iF (ae [tF 38 (((iU s y p (k+1)).length:Int)<((iU s y p (k+1)).length:Int)) aC,.z 15]<|.e (af [.o 15 (.e (xZ aH):aj (.sl true ((iU s y p (k+1)).length) 7 (iK ((List.range ((iU s y p (k+1)).length)).map (λi=>iD (((iU s y p (k+1)).getD i []).getD (k+1) ia) (kZ t (k+1) p) p)))) (ib ((List.range ((iU s y p (k+1)).length)).map (λi=>iD (((iU s y p (k+1)).getD i []).getD (k+1) ia) (kZ t (k+1) p) p))))])) aF) aI:jA 7 f148 (XU s y t k p 0) (.exit 0) ⟨54,true,[(15,.e (ib ((List.range ((iU s y p (k+1)).length)).map (λi=>iD (((iU s y p (k+1)).getD i []).getD (k+1) ia) (kZ t (k+1) p) p))))],[]⟩) .nil]<|rQ (.ix [ib ((List.range ((iU s y p (k+1)).length)).map (λi=>iD (((iU s y p (k+1)).getD i []).getD (k+1) ia) (kZ t (k+1) p) p)),iP 0]) (.ix [ib (mL s y t k p),iP 0]) (by unfold mL kR;rw[e0])) 
def aha{b:List Iv}(h:nP b=true)(hl:b.length<=1000):gW 150 [ib b] (.ix [.v (.slice none 0 0),iP 11]):=by
 have:=VG b hl;unfold CN at this;rwa[h]at this
def ag9{b:List Iv}(h:nP b=false)(hl:b.length<=1000):gW 150 [ib b] (.ix [ib b,iP 0]):=by
 have:=VG b hl;unfold CN at this;rwa[h]at this
def KE(s:jc)(y:List Iv)(t:Iv)(k p:Nat):(mL s y t k p).length=y.length:=wT _ _
def O8{s:jc}{y:List Iv}{t:Iv}{k p:Nat}(il:8<=p)(ig:p<=512){i:Nat}(hi:i<y.length):((mL s y t k p).getD i ia).ij:=by
 unfold mL;rw[DQ hi];exact nV _ _ aC aC 
def Me{a:List Iv}{t:Iv}{p:Nat}(hp:1<=p)(ig:p<=4096)(va:mu a):(np a t p).ij:=Uy hp ig va _
def QJ(s:jc)(x y:List Iv)(t:Iv)(k p:Nat)(h:kz s)(hx:jh s.iy x)(hy:jh s.iy y)(ht:t.ij)(ta:t.all=false)(t0:0<=t.lo.iM)(lP:1<=k)(hk:k<=15)(il:8<=p)(ig:p<=512)(MG:nP (om s x y t k p)=false):gW 64 [iV s,ib x,ib y,ik t,iP k,iP p] (.ix [ib (om s x y t k p),iP 0]):=by
 have e0:=uj s x p k;have Nr:=KE s y t k p;have s1:=h.s1;have s4:=h.s4;have lx:=hx.len;have ly:=hy.len;have eA:((List.range (iU s x p k).length).map (λi=>jf (np ((iU s x p k).getD i []) t p) ((mL s y t k p).getD i ia) p))=om s x y t k p:=by unfold om kR;rw[e0]
 have FX:=MG;rw[<-eA]at FX ⊢;exact ak call64 func64 (af [.o 23 (.e (Bm _ _):aj (.sl true 2 1 λi_ j_=>[ib x,ib y].getD (i_*1+j_) (.v (.bool false))) (kN [x,y])),.c (Re s x h aD y aD),ag [iP p] (vk _ aC aC),ag [iP k] (Ac _ aC aC),.c (Zy t ht ta t0),.c (LS s x k p h aD il ig aC),ai 49 ((0:Int) != 0) aE,.c (XV s y t k p h hy ht lP hk il ig),ai 61 ((0:Int) != 0) aE,.y 17 17 true 39 7 (iK ((List.range 0).map (λi=>jf (np ((iU s x p k).getD i []) t p) ((mL s y t k p).getD i ia) p))),.s (Sp.jC (QG s x y t k p) 0 ((iU s x p k).length) aC (λi hi nQ=>by
    have hs:=Em h hx il ig k aC i aC;have rf:=hs.len;have Nr:=KE s y t k p;have v1:=Me (t:=t) (aC:1<=p) (aC:p<=4096) hs.ok;have v2:=O8 (s:=s) (t:=t) (k:=k) il ig (y:=y) (i:=i) aC;have qy:=oP (jf (np ((iU s x p k).getD i []) t p) ((mL s y t k p).getD i ia) p);exact iF (ae [tT 66 ((i:Int)<((iU s x p k).length:Int)) aC,iX (i:Int) ((iU s x p k).length) aC,.c (Yu ((iU s x p k).getD i []) t (k+1) p aC aC hs ht il ig),
     iX (i:Int) ((mL s y t k p).length) aC,.c (wh (np ((iU s x p k).getD i []) t p) ((mL s y t k p).getD i ia) p aD aD aC aC),.o 82 (.e (lh _):aj (.sl true 1 7 λi_ j_=>(iJ (jf (np ((iU s x p k).getD i []) t p) ((mL s y t k p).getD i ia) p)).getD (i_*7+j_) (.v (.bool false))) (ib [jf (np ((iU s x p k).getD i []) t p) ((mL s y t k p).getD i ia) p])),.a (aC:(i+[jf (np ((iU s x p k).getD i []) t p) ((mL s y t k p).getD i ia) p].length)*88<=140737488355328),iz ((i:Int)+1) aC]<|.e (af [.b 17 (wj rfl rfl rfl:Bx.le (.row true 39 (i+[jf (np ((iU s x p k).getD i []) t p) ((mL s y t k p).getD i ia) p].length) 7 (λi_ j_=>if i_<i then(iK ((List.range i).map (λi=>jf (np ((iU s x p k).getD i []) t p) ((mL s y t k p).getD i ia) p))) i_ j_ else(E.kG (ib [jf (np ((iU s x p k).getD i []) t p) ((mL s y t k p).getD i ia) p])) (i_-i) j_)) (.row true 39 (i+1) 7 (iK ((List.range (i+1)).map (λi=>jf (np ((iU s x p k).getD i []) t p) ((mL s y t k p).getD i ia) p)))))])) aF)
  (λhi=>by
    exact iF (ae [tF 66 (((iU s x p k).length:Int)<((iU s x p k).length:Int)) aC,.z 17]<|.e (af [.o 17 (.e (xZ aH):aj (.sl true ((iU s x p k).length) 7 (iK ((List.range ((iU s x p k).length)).map (λi=>jf (np ((iU s x p k).getD i []) t p) ((mL s y t k p).getD i ia) p)))) (ib ((List.range ((iU s x p k).length)).map (λi=>jf (np ((iU s x p k).getD i []) t p) ((mL s y t k p).getD i ia) p))))])) aF) aI:jA 13 Tryz.f64 (QG s x y t k p 0) (.exit 1) ⟨89,true,[(17,.e (ib ((List.range ((iU s x p k).length)).map (λi=>jf (np ((iU s x p k).getD i []) t p) ((mL s y t k p).getD i ia) p))))],[]⟩) .nil,ag [ib ((List.range ((iU s x p k).length)).map (λi=>jf (np ((iU s x p k).getD i []) t p) ((mL s y t k p).getD i ia) p))] (ag9 FX aN)]) 
def aaF(s:jc)(x y:List Iv)(t:Iv)(k p:Nat)(h:kz s)(hx:jh s.iy x)(hy:jh s.iy y)(ht:t.ij)(ta:t.all=false)(t0:0<=t.lo.iM)(lP:1<=k)(hk:k<=15)(il:8<=p)(ig:p<=512)(MG:nP (om s x y t k p)=true):gW 64 [iV s,ib x,ib y,ik t,iP k,iP p] (.ix [.v (.slice none 0 0),iP 11]):=by
 have e0:=uj s x p k;have Nr:=KE s y t k p;have s1:=h.s1;have s4:=h.s4;have lx:=hx.len;have ly:=hy.len;have eA:((List.range (iU s x p k).length).map (λi=>jf (np ((iU s x p k).getD i []) t p) ((mL s y t k p).getD i ia) p))=om s x y t k p:=by unfold om kR;rw[e0]
 have FX:=MG;rw[<-eA]at FX;exact ak call64 func64 (af [.o 23 (.e (Bm _ _):aj (.sl true 2 1 λi_ j_=>[ib x,ib y].getD (i_*1+j_) (.v (.bool false))) (kN [x,y])),.c (Re s x h aD y aD),ag [iP p] (vk _ aC aC),ag [iP k] (Ac _ aC aC),.c (Zy t ht ta t0),.c (LS s x k p h aD il ig aC),ai 49 ((0:Int) != 0) aE,.c (XV s y t k p h hy ht lP hk il ig),ai 61 ((0:Int) != 0) aE,.y 17 17 true 39 7 (iK ((List.range 0).map (λi=>jf (np ((iU s x p k).getD i []) t p) ((mL s y t k p).getD i ia) p))),.s (Sp.jC (QH s x y t k p) 0 ((iU s x p k).length) aC (λi hi nQ=>by
    have hs:=Em h hx il ig k aC i aC;have rf:=hs.len;have Nr:=KE s y t k p;have v1:=Me (t:=t) (aC:1<=p) (aC:p<=4096) hs.ok;have v2:=O8 (s:=s) (t:=t) (k:=k) il ig (y:=y) (i:=i) aC;have qy:=oP (jf (np ((iU s x p k).getD i []) t p) ((mL s y t k p).getD i ia) p);exact iF (ae [tT 66 ((i:Int)<((iU s x p k).length:Int)) aC,iX (i:Int) ((iU s x p k).length) aC,.c (Yu ((iU s x p k).getD i []) t (k+1) p aC aC hs ht il ig),
     iX (i:Int) ((mL s y t k p).length) aC,.c (wh (np ((iU s x p k).getD i []) t p) ((mL s y t k p).getD i ia) p aD aD aC aC),.o 82 (.e (lh _):aj (.sl true 1 7 λi_ j_=>(iJ (jf (np ((iU s x p k).getD i []) t p) ((mL s y t k p).getD i ia) p)).getD (i_*7+j_) (.v (.bool false))) (ib [jf (np ((iU s x p k).getD i []) t p) ((mL s y t k p).getD i ia) p])),.a (aC:(i+[jf (np ((iU s x p k).getD i []) t p) ((mL s y t k p).getD i ia) p].length)*88<=140737488355328),iz ((i:Int)+1) aC]<|.e (af [.b 17 (wj rfl rfl rfl:Bx.le (.row true 39 (i+[jf (np ((iU s x p k).getD i []) t p) ((mL s y t k p).getD i ia) p].length) 7 (λi_ j_=>if i_<i then(iK ((List.range i).map (λi=>jf (np ((iU s x p k).getD i []) t p) ((mL s y t k p).getD i ia) p))) i_ j_ else(E.kG (ib [jf (np ((iU s x p k).getD i []) t p) ((mL s y t k p).getD i ia) p])) (i_-i) j_)) (.row true 39 (i+1) 7 (iK ((List.range (i+1)).map (λi=>jf (np ((iU s x p k).getD i []) t p) ((mL s y t k p).getD i ia) p)))))])) aF)
  (λhi=>by
    exact iF (ae [tF 66 (((iU s x p k).length:Int)<((iU s x p k).length:Int)) aC,.z 17]<|.e (af [.o 17 (.e (xZ aH):aj (.sl true ((iU s x p k).length) 7 (iK ((List.range ((iU s x p k).length)).map (λi=>jf (np ((iU s x p k).getD i []) t p) ((mL s y t k p).getD i ia) p)))) (ib ((List.range ((iU s x p k).length)).map (λi=>jf (np ((iU s x p k).getD i []) t p) ((mL s y t k p).getD i ia) p))))])) aF) aI:jA 13 Tryz.f64 (QH s x y t k p 0) (.exit 1) ⟨89,true,[(17,.e (ib ((List.range ((iU s x p k).length)).map (λi=>jf (np ((iU s x p k).getD i []) t p) ((mL s y t k p).getD i ia) p))))],[]⟩) .nil,ag [ib ((List.range ((iU s x p k).length)).map (λi=>jf (np ((iU s x p k).getD i []) t p) ((mL s y t k p).getD i ia) p))] (aha FX aN)]) 
def QI(s:jc)(x y:List Iv)(t:Iv)(k p:Nat):(om s x y t k p).length=x.length:=wT _ _
def afK{b:List Iv}(h:nP b=false){i:Nat}(hi:i<b.length):(b.getD i ia).all=false:=by
 have:=cK.1 h i (bS.2 hi);simpa using this
def LC{s:jc}{x y:List Iv}{t:Iv}{k p:Nat}(h:kz s)(hx:jh s.iy x)(hy:jh s.iy y)(hk:k<=15)(il:8<=p)(ig:p<=512)(hn:nP (om s x y t k p)=false):jh s.iy (om s x y t k p):=by
 refine⟨by rw[QI,hx.len],λi hi=>⟨?_,afK hn hi⟩⟩;rw[QI]at hi;have hs:=Em h hx il ig k aC i (by rw[uj];exact hi);unfold om;rw[DQ hi];exact qG (Me aC aC hs.ok) (O8 il ig (by rw[hy.len,<-hx.len];exact hi)) aC aC 
noncomputable def DL(s:jc)(x:List Iv)(d:Dy)(p:Nat):Option (List Iv):=@dite (Option (List Iv)) (kz s/\jh s.iy x/\d.ij/\0<d.iM/\8<=p/\p<=512) (Classical.propDecidable _) (λh=>Classical.choose (SD s x d p h.1 h.2.1 h.2.2.1 h.2.2.2.1 h.2.2.2.2.1 h.2.2.2.2.2)) (λ_=>none)
def FG(s:jc)(x:List Iv)(d:Dy)(p:Nat)(h:kz s)(hx:jh s.iy x)(hd:d.ij)(h0:0<d.iM)(il:8<=p)(ig:p<=512):gW 43 [iV s,ib x,ie d,iP (p:Int)] (SC (DL s x d p))/\(∀ b,DL s x d p=some b->jh s.iy b/\rJ s x d b p=true):=by
 have hh:kz s/\jh s.iy x/\d.ij/\0<d.iM/\8<=p/\p<=512:=⟨h,hx,hd,h0,il,ig⟩
 unfold DL;rw[fK hh];have:=cO (SD s x d p h hx hd h0 il ig);exact⟨this.1,this.2.1⟩
def adD(s:jc)(x:List Iv)(d:Dy)(p:Nat)(h:kz s)(hx:jh s.iy x)(hd:d.ij)(h0:0<d.iM)(il:8<=p)(ig:p<=512)(hn:DL s x d p=none):gW 43 [iV s,ib x,ie d,iP (p:Int)] (.ix [.v (.slice none 0 0),iP 12]):=by
 have:=(FG s x d p h hx hd h0 il ig).1;rwa[hn]at this
def adE(s:jc)(x:List Iv)(d:Dy)(p:Nat)(h:kz s)(hx:jh s.iy x)(hd:d.ij)(h0:0<d.iM)(il:8<=p)(ig:p<=512){b:List Iv}(hn:DL s x d p=some b):gW 43 [iV s,ib x,ie d,iP (p:Int)] (.ix [ib b,iP 0]):=by
 have:=(FG s x d p h hx hd h0 il ig).1;rwa[hn]at this
def alY(s:jc)(x:List Iv)(h:kz s)(hx:jh s.iy x)(p:Nat)(il:8<=p)(ig:p<=512)(k:Int)(d:RD)(gd:d.jE)(hd:¬d.Ok):gW 32 [iV s,ib x,kX d,iP k,iP p] (.ix [.v (.slice none 0 0),.v (.slice none 0 0),iP 1]):=by
 have hdk:BD d=false:=aW λq=>hd (wF.1 q)
 have s1:=h.s1;have s4:=h.s4;have lx:=hx.len;exact ak call32 func32 (af [.c (uG s x h aD),ag [kX d] (B5 _ aD false (by simp[hd]))]) 
def al0(s:jc)(x:List Iv)(h:kz s)(hx:jh s.iy x)(p:Nat)(il:8<=p)(ig:p<=512)(k:Int)(d:Dy)(hd:d.ij)(h0:¬0<d.iM):gW 32 [iV s,ib x,ie d,iP k,iP p] (.ix [.v (.slice none 0 0),.v (.slice none 0 0),iP 1]):=by
 have s1:=h.s1;have s4:=h.s4;have lx:=hx.len;exact ak call32 func32 (af [.c (uG s x h aD),ag [ie d] (oq _ aD),ag [ie d] (mT _ aD),tT 29 ((Dy.iM d)<=0) aC]) 
def al4(s:jc)(x:List Iv)(h:kz s)(hx:jh s.iy x)(p:Nat)(il:8<=p)(ig:p<=512)(k:Int)(d:Dy)(hd:d.ij)(h0:0<d.iM)(hk:(decide (1<=k)&&decide (k<=15))=false):gW 32 [iV s,ib x,ie d,iP k,iP p] (.ix [.v (.slice none 0 0),.v (.slice none 0 0),iP 2]):=by
 have s1:=h.s1;have s4:=h.s4;have lx:=hx.len;exact ak call32 func32 (af [.c (uG s x h aD),ag [ie d] (oq _ aD),ag [ie d] (mT _ aD),tF 29 ((Dy.iM d)<=0) aC,ag [iP p] (vk _ aC aC),.c (by have:=W5 k;rwa[show(decide (1<=k)&&decide (k<=15))=false from hk]at this:gW 93 [iP k] (bP false))]) 
def al2(s:jc)(x:List Iv)(h:kz s)(hx:jh s.iy x)(p:Nat)(il:8<=p)(ig:p<=512)(k:Nat)(d:Dy)(hd:d.ij)(h0:0<d.iM)(lP:1<=k)(hk:k<=15)(hE:gW 43 [iV s,ib x,ie d,iP p] (.ix [.v (.slice none 0 0),iP 12])):gW 32 [iV s,ib x,ie d,iP k,iP p] (.ix [.v (.slice none 0 0),.v (.slice none 0 0),iP 12]):=by
 have s1:=h.s1;have s4:=h.s4;have lx:=hx.len;exact ak call32 func32 (af [.c (uG s x h aD),ag [ie d] (oq _ aD),ag [ie d] (mT _ aD),tF 29 ((Dy.iM d)<=0) aC,ag [iP p] (vk _ aC aC),ag [iP k] (Ac _ aC aC),ag [iV s,ib x,ie d,iP p] hE,ah 49 ((12:Int) != 0) aE]) 
def al5(s:jc)(x:List Iv)(h:kz s)(hx:jh s.iy x)(p:Nat)(il:8<=p)(ig:p<=512)(k:Nat)(d:Dy)(hd:d.ij)(h0:0<d.iM)(lP:1<=k)(hk:k<=15)(b:List Iv)(hE:gW 43 [iV s,ib x,ie d,iP p] (.ix [ib b,iP 0]))(u:List Iv)(hu:0<u.length)(hT:gW 94 [iV s,ib x,ie d,ib b,iP 4,iP (p:Int)] (ib u))(hA:gW 64 [iV s,ib x,ib u,ik (j9 d),iP (k:Int),iP (p:Int)] (.ix [.v (.slice none 0 0),iP 11])):gW 32 [iV s,ib x,ie d,iP k,iP p] (.ix [.v (.slice none 0 0),.v (.slice none 0 0),iP 11]):=by
 have s1:=h.s1;have s4:=h.s4;have lx:=hx.len;exact ak call32 func32 (af [.c (uG s x h aD),ag [ie d] (oq _ aD),ag [ie d] (mT _ aD),tF 29 ((Dy.iM d)<=0) aC,ag [iP p] (vk _ aC aC),ag [iP k] (Ac _ aC aC),ag [iV s,ib x,ie d,iP p] hE,ai 49 ((0:Int) != 0) aE,ag [iV s,ib x,ie d,ib b,iP 4,iP p] hT,ai 59 ((u.length:Int)==0) (yg λq=>by rw[q]at hu;exact gl _ hu),.c (ui d aD),ag [iV s,ib x,ib u,ik (j9 d),iP k,iP p] hA,ah 73 ((11:Int) != 0) aE]) 
def al6(s:jc)(x:List Iv)(h:kz s)(hx:jh s.iy x)(p:Nat)(il:8<=p)(ig:p<=512)(k:Nat)(d:Dy)(hd:d.ij)(h0:0<d.iM)(lP:1<=k)(hk:k<=15)(b:List Iv)(hE:gW 43 [iV s,ib x,ie d,iP p] (.ix [ib b,iP 0]))(u:List Iv)(hu:0<u.length)(hT:gW 94 [iV s,ib x,ie d,ib b,iP 4,iP (p:Int)] (ib u))(w:List Iv)(hA:gW 64 [iV s,ib x,ib u,ik (j9 d),iP (k:Int),iP (p:Int)] (.ix [ib w,iP 0]))(hM:gW 65 [ib w,ib u] (.ix [.v (.slice none 0 0),bP false])):gW 32 [iV s,ib x,ie d,iP k,iP p] (.ix [.v (.slice none 0 0),.v (.slice none 0 0),iP 1]):=by
 have s1:=h.s1;have s4:=h.s4;have lx:=hx.len;exact ak call32 func32 (af [.c (uG s x h aD),ag [ie d] (oq _ aD),ag [ie d] (mT _ aD),tF 29 ((Dy.iM d)<=0) aC,ag [iP p] (vk _ aC aC),ag [iP k] (Ac _ aC aC),ag [iV s,ib x,ie d,iP p] hE,ai 49 ((0:Int) != 0) aE,ag [iV s,ib x,ie d,ib b,iP 4,iP p] hT,ai 59 ((u.length:Int)==0) (yg λq=>by rw[q]at hu;exact gl _ hu),.c (ui d aD),ag [iV s,ib x,ib u,ik (j9 d),iP k,iP p] hA,ai 73 ((0:Int) != 0) aE,ag [ib w,ib u] hM]) 
def al7(s:jc)(x:List Iv)(h:kz s)(hx:jh s.iy x)(p:Nat)(il:8<=p)(ig:p<=512)(k:Nat)(d:Dy)(hd:d.ij)(h0:0<d.iM)(lP:1<=k)(hk:k<=15)(b:List Iv)(hE:gW 43 [iV s,ib x,ie d,iP p] (.ix [ib b,iP 0]))(u:List Iv)(hu:0<u.length)(hT:gW 94 [iV s,ib x,ie d,ib b,iP 4,iP (p:Int)] (ib u))(w m:List Iv)(hA:gW 64 [iV s,ib x,ib u,ik (j9 d),iP (k:Int),iP (p:Int)] (.ix [ib w,iP 0]))(hM:gW 65 [ib w,ib u] (.ix [ib m,bP true])):gW 32 [iV s,ib x,ie d,iP k,iP p] (.ix [ib u,ib m,iP 0]):=by
 have s1:=h.s1;have s4:=h.s4;have lx:=hx.len;exact ak call32 func32 (af [.c (uG s x h aD),ag [ie d] (oq _ aD),ag [ie d] (mT _ aD),tF 29 ((Dy.iM d)<=0) aC,ag [iP p] (vk _ aC aC),ag [iP k] (Ac _ aC aC),ag [iV s,ib x,ie d,iP p] hE,ai 49 ((0:Int) != 0) aE,ag [iV s,ib x,ie d,ib b,iP 4,iP p] hT,ai 59 ((u.length:Int)==0) (yg λq=>by rw[q]at hu;exact gl _ hu),.c (ui d aD),ag [iV s,ib x,ib u,ik (j9 d),iP k,iP p] hA,ai 73 ((0:Int) != 0) aE,ag [ib w,ib u] hM]) 
def alZ(s:jc)(x:List Iv)(h:kz s)(hx:jh s.iy x)(p:Nat)(il:8<=p)(ig:p<=512)(k:Nat)(d:Dy)(hd:d.ij)(h0:0<d.iM)(lP:1<=k)(hk:k<=15)(b:List Iv)(hE:gW 43 [iV s,ib x,ie d,iP p] (.ix [ib b,iP 0]))(hT:gW 94 [iV s,ib x,ie d,ib b,iP 4,iP (p:Int)] (.v (.slice none 0 0)))(hA:gW 64 [iV s,ib x,ib b,ik (j9 d),iP (k:Int),iP (p:Int)] (.ix [.v (.slice none 0 0),iP 11])):gW 32 [iV s,ib x,ie d,iP k,iP p] (.ix [.v (.slice none 0 0),.v (.slice none 0 0),iP 11]):=by
 have s1:=h.s1;have s4:=h.s4;have lx:=hx.len;exact ak call32 func32 (af [.c (uG s x h aD),ag [ie d] (oq _ aD),ag [ie d] (mT _ aD),tF 29 ((Dy.iM d)<=0) aC,ag [iP p] (vk _ aC aC),ag [iP k] (Ac _ aC aC),ag [iV s,ib x,ie d,iP p] hE,ai 49 ((0:Int) != 0) aE,ag [iV s,ib x,ie d,ib b,iP 4,iP p] hT,ah 59 ((0:Int)==0) aE,.c (ui d aD),ag [iV s,ib x,ib b,ik (j9 d),iP k,iP p] hA,ah 73 ((11:Int) != 0) aE]) 
def al1(s:jc)(x:List Iv)(h:kz s)(hx:jh s.iy x)(p:Nat)(il:8<=p)(ig:p<=512)(k:Nat)(d:Dy)(hd:d.ij)(h0:0<d.iM)(lP:1<=k)(hk:k<=15)(b:List Iv)(hE:gW 43 [iV s,ib x,ie d,iP p] (.ix [ib b,iP 0]))(hT:gW 94 [iV s,ib x,ie d,ib b,iP 4,iP (p:Int)] (.v (.slice none 0 0)))(w:List Iv)(hA:gW 64 [iV s,ib x,ib b,ik (j9 d),iP (k:Int),iP (p:Int)] (.ix [ib w,iP 0]))(hM:gW 65 [ib w,ib b] (.ix [.v (.slice none 0 0),bP false])):gW 32 [iV s,ib x,ie d,iP k,iP p] (.ix [.v (.slice none 0 0),.v (.slice none 0 0),iP 1]):=by
 have s1:=h.s1;have s4:=h.s4;have lx:=hx.len;exact ak call32 func32 (af [.c (uG s x h aD),ag [ie d] (oq _ aD),ag [ie d] (mT _ aD),tF 29 ((Dy.iM d)<=0) aC,ag [iP p] (vk _ aC aC),ag [iP k] (Ac _ aC aC),ag [iV s,ib x,ie d,iP p] hE,ai 49 ((0:Int) != 0) aE,ag [iV s,ib x,ie d,ib b,iP 4,iP p] hT,ah 59 ((0:Int)==0) aE,.c (ui d aD),ag [iV s,ib x,ib b,ik (j9 d),iP k,iP p] hA,ai 73 ((0:Int) != 0) aE,ag [ib w,ib b] hM]) 
def al3(s:jc)(x:List Iv)(h:kz s)(hx:jh s.iy x)(p:Nat)(il:8<=p)(ig:p<=512)(k:Nat)(d:Dy)(hd:d.ij)(h0:0<d.iM)(lP:1<=k)(hk:k<=15)(b:List Iv)(hE:gW 43 [iV s,ib x,ie d,iP p] (.ix [ib b,iP 0]))(hT:gW 94 [iV s,ib x,ie d,ib b,iP 4,iP (p:Int)] (.v (.slice none 0 0)))(w m:List Iv)(hA:gW 64 [iV s,ib x,ib b,ik (j9 d),iP (k:Int),iP (p:Int)] (.ix [ib w,iP 0]))(hM:gW 65 [ib w,ib b] (.ix [ib m,bP true])):gW 32 [iV s,ib x,ie d,iP k,iP p] (.ix [ib b,ib m,iP 0]):=by
 have s1:=h.s1;have s4:=h.s4;have lx:=hx.len;exact ak call32 func32 (af [.c (uG s x h aD),ag [ie d] (oq _ aD),ag [ie d] (mT _ aD),tF 29 ((Dy.iM d)<=0) aC,ag [iP p] (vk _ aC aC),ag [iP k] (Ac _ aC aC),ag [iV s,ib x,ie d,iP p] hE,ai 49 ((0:Int) != 0) aE,ag [iV s,ib x,ie d,ib b,iP 4,iP p] hT,ah 59 ((0:Int)==0) aE,.c (ui d aD),ag [iV s,ib x,ib b,ik (j9 d),iP k,iP p] hA,ai 73 ((0:Int) != 0) aE,ag [ib w,ib b] hM]) 
def PG:Int ⊕ (List Iv×List Iv)->E
 | .inl e=>.ix [.v (.slice none 0 0),.v (.slice none 0 0),iP e]
 | .inr q=>.ix [ib q.1,ib q.2,iP 0]
def s8{d:Dy}(hd:d.ij):(j9 d).ij:=.inr ⟨rfl,hd,hd,by show jj d d<=0;rw[pT];exact cr⟩
noncomputable def BM(s:jc)(x:List Iv)(d:Dy)(b:List Iv)(k p:Nat):Int ⊕ (List Iv×List Iv):=
 if nP (om s x (qf s x d b p) (j9 d) k p)then .inl 11
 else if Eu (om s x (qf s x d b p) (j9 d) k p) (qf s x d b p)then .inr (qf s x d b p,si (om s x (qf s x d b p) (j9 d) k p) (qf s x d b p))else .inl 1
def Zb(s:jc)(x:List Iv)(h:kz s)(hx:jh s.iy x)(p:Nat)(il:8<=p)(ig:p<=512)(k:Nat)(d:Dy)(hd:d.ij)(h0:0<d.iM)(lP:1<=k)(hk:k<=15)(b:List Iv)(hb:jh s.iy b)(hh:rJ s x d b p=true)(hE:gW 43 [iV s,ib x,ie d,iP p] (.ix [ib b,iP 0])):gW 32 [iV s,ib x,ie d,iP (k:Int),iP (p:Int)] (PG (BM s x d b k p)):=by
 have s1:=h.s1;have s4:=h.s4;have hu:=PT (d:=d) hx (aC:1<=p) (aC:p<=4096) hb;have hul:=hu.len;have TE:0<=(j9 d).lo.iM:=by show 0<=d.iM;omega
 have hT:(∃ _:0<(qf s x d b p).length,gW 94 [iV s,ib x,ie d,ib b,iP 4,iP (p:Int)] (ib (qf s x d b p)))\/(qf s x d b p=b/\gW 94 [iV s,ib x,ie d,ib b,iP 4,iP (p:Int)] (.v (.slice none 0 0))):=by
  by_cases jl:∀ k,k<4->oV s x d b p (k+1)≠[]
  .left;have e:qf s x d b p=oV s x d b p 4:=by unfold qf;rw[a6 jl]
   refine⟨aC,?_⟩;rw[e];exact amI s x d b 4 p h hx hd h0 hb il ig aE hh jl
  .right;refine⟨by unfold qf;rw[aZ jl],?_⟩;obtain⟨N,h1,h2,h3⟩:=rh (p:=λk=>decide (oV s x d b p (k+1)=[])) (n:=4) (by
    apply bU;intro q;exact jl λk hk e=>q ⟨k,hk,a7 e⟩)
   exact amJ s x d b 4 p h hx hd h0 hb il ig aE hh N h1 (λk hk=>eE (h3 k hk)) (cB h2)
 unfold BM;cases hA:nP (om s x (qf s x d b p) (j9 d) k p)with
 |true=>
  have h1:=aaF s x (qf s x d b p) (j9 d) k p h hx hu (s8 hd) rfl TE lP hk il ig hA;simp only[bB,PG];rcases hT with⟨l,hT⟩|⟨e,hT⟩
  .exact al5 s x h hx p il ig k d hd h0 lP hk b hE _ l hT h1
  .rw [e]at h1;exact alZ s x h hx p il ig k d hd h0 lP hk b hE hT h1
 |false=>
  have h1:=QJ s x (qf s x d b p) (j9 d) k p h hx hu (s8 hd) rfl TE lP hk il ig hA;have ho:=LC (t:=j9 d) (k:=k) h hx hu hk il ig hA;have qy:=ho.len;have h2:=abF (om s x (qf s x d b p) (j9 d) k p) (qf s x d b p) aC aC aC ho.ok hu.ok;unfold Ob at h2;simp only[bE,bn];cases hM:Eu (om s x (qf s x d b p) (j9 d) k p) (qf s x d b p)with
  |true=>
   rw[hM]at h2;simp only[bB]at h2 ⊢;rcases hT with⟨l,hT⟩|⟨e,hT⟩
   .exact al7 s x h hx p il ig k d hd h0 lP hk b hE _ l hT _ _ h1 h2
   .generalize om s x (qf s x d b p) (j9 d) k p=w at h1 h2 ⊢;rw[e]at h1 h2 ⊢;exact al3 s x h hx p il ig k d hd h0 lP hk b hE hT _ _ h1 h2
  |false=>
   rw[hM]at h2;simp only[bE,bn]at h2 ⊢;rcases hT with⟨l,hT⟩|⟨e,hT⟩
   .exact al6 s x h hx p il ig k d hd h0 lP hk b hE _ l hT _ h1 h2
   .generalize om s x (qf s x d b p) (j9 d) k p=w at h1 h2 ⊢;rw[e]at h1 h2;exact al1 s x h hx p il ig k d hd h0 lP hk b hE hT _ h1 h2
def alX{s:jc}{x:List Iv}{d:Dy}{b:List Iv}{k p:Nat}(h:kz s)(hx:jh s.iy x)(hb:jh s.iy b)(hk:k<=15)(il:8<=p)(ig:p<=512):
 (∀ e,BM s x d b k p = .inl e->0<e/\e<=12)/\∀ q,BM s x d b k p = .inr q->jh s.iy q.1/\jh s.iy q.2:=by
 have hu:=PT (d:=d) hx (aC:1<=p) (aC:p<=4096) hb;unfold BM;split
 .exact ⟨λe he=>by cases he;decide,λq hq=>by cases hq⟩
 .rename_i hA;split
  .rename_i hM;refine⟨λe he=>(by cases he),λq hq=>?_⟩;cases hq;exact⟨hu,Wi (LC h hx hu hk il ig (by simpa using hA)) hu hM⟩
  .exact ⟨λe he=>by cases he;decide,λq hq=>by cases hq⟩
noncomputable def wI(s:jc)(x:List Iv)(d:RD)(k:Int)(p:Nat):Int ⊕ (List Iv×List Iv):=
 if BD d=false then .inl 1 else if ¬0<d.dy.iM then .inl 1 else if(decide (1<=k)&&decide (k<=15))=false then .inl 2 else
 match DL s x d.dy p with
 |none=>.inl 12
 |some b=>BM s x d.dy b k.toNat p
def PF{s:jc}{x:List Iv}{d:RD}{k:Int}{p:Nat}(h:kz s)(hx:jh s.iy x)(il:8<=p)(ig:p<=512):
 (∀ e,wI s x d k p = .inl e->0<e/\e<=12)/\∀ q,wI s x d k p = .inr q->d.Ok/\jh s.iy q.1/\jh s.iy q.2:=by
 unfold wI;split
 .exact ⟨λe he=>by cases he;decide,λq hq=>by cases hq⟩
 rename_i hd;have hd:d.Ok:=wF.1 (by simpa using hd);split
 .exact ⟨λe he=>by cases he;decide,λq hq=>by cases hq⟩
 rename_i h0;split
 .exact ⟨λe he=>by cases he;decide,λq hq=>by cases hq⟩
 rename_i hk;have Cl:1<=k/\k<=15:=by simpa using hk
 split
 .exact ⟨λe he=>by cases he;decide,λq hq=>by cases hq⟩
 .rename_i b hb;have hB:=(FG s x d.dy p h hx hd.valid aC il ig).2 b hb;obtain⟨q1,q2⟩:=alX (d:=d.dy) (k:=k.toNat) h hx hB.1 aC il ig;exact⟨q1,λq hq=>⟨hd,q2 q hq⟩⟩
def Zc(s:jc)(x:List Iv)(h:kz s)(hx:jh s.iy x)(p:Nat)(il:8<=p)(ig:p<=512)(k:Int)(d:RD)(gd:d.jE):gW 32 [iV s,ib x,kX d,iP k,iP (p:Int)] (PG (wI s x d k p)):=by
 unfold wI;split
 .rename_i hd;exact alY s x h hx p il ig k d gd λq=>by rw[wF.2 q]at hd;cases hd
 rename_i hd;have hd:d.Ok:=wF.1 (by simpa using hd);have e:kX d=ie d.dy:=by rw[<-IW,hd.eq gd]
 rw[e];split
 .rename_i h0;exact al0 s x h hx p il ig k d.dy hd.valid h0
 rename_i h0;have h0:0<d.dy.iM:= aC ;split
 .rename_i hk;exact al4 s x h hx p il ig k d.dy hd.valid h0 hk
 rename_i hk;have Cl:1<=k/\k<=15:=by simpa using hk
 obtain⟨n,rfl⟩:=eU (aC:0<=k);have hE:=(FG s x d.dy p h hx hd.valid h0 il ig).1;split
 .rename_i hn;exact al2 s x h hx p il ig n d.dy hd.valid h0 aC aC (adD s x d.dy p h hx hd.valid h0 il ig hn)
 .rename_i b hb;have hB:=(FG s x d.dy p h hx hd.valid h0 il ig).2 b hb;exact Zb s x h hx p il ig n d.dy hd.valid h0 aC aC b hB.1 hB.2 (adE s x d.dy p h hx hd.valid h0 il ig hb)
def mW(l:List RD):E:=.sl true l.length 3 λi j=>(By (l.getD i ko)).getD j .any
noncomputable def mA(s:jc)(x:List Iv)(ds:List RD)(k:Int)(p:Nat):Nat->List Iv
 | 0=>x
 |n+1=>match wI s (mA s x ds k p n) (ds.getD n ko) k p with
  | .inr q=>q.2
  | .inl _=>mA s x ds k p n
noncomputable def xz(s:jc)(x:List Iv)(ds:List RD)(k:Int)(p:Nat)(n:Nat):List Iv:=match wI s (mA s x ds k p n) (ds.getD n ko) k p with
 | .inr q=>q.1
 | .inl _=>[]
def kB(ds:List RD):Nat->Dy
 | 0=>ju
 |n+1=>kt (iL (kB ds n) (ds.getD n ko).dy)
def Yp(a b:Dy)(u v:List Iv):List E:=jq a++jq b++[ib u,ib v]
noncomputable def rO(s:jc)(x:List Iv)(ds:List RD)(k:Int)(p:Nat)(i j:Nat):E:=(Yp (kB ds i) (kB ds (i+1)) (xz s x ds k p i) (mA s x ds k p (i+1))).getD j .any
def P7{T:Nat}:Bx.le (.cells T ar) (.cells T (jq ju)):=by
 have e1:E.le (.v (.slice none 0 0)) (ic (gY 0)):=by rw[oB];exact .nil _ _ _
 exact .cells (λ_=>rfl) (.cons (.refl _) (.cons e1 (.cons (.refl _) .nil)))
def Pr(a b:Dy)(u v:List Iv)(j:Nat)(hj:j<8):((Yp a b u v).getD j .any).nr 2=true:=by
 rcases j with _|_|_|_|_|_|_|_|j
 all_goals first|rfl|omega
def Ps{T i:Nat}{el:Nat->Nat->E}{b:E}(hb:∀ j,j<8->b.kG 0 j=el i j)(hn:∀ i j,j<8->(el i j).nr 2=true):Bx.le (.row true T (i+1) 8 λi_ j_=>if i_<i then el i_ j_ else(E.kG b) (i_-i) j_) (.row true T (i+1) 8 el):=.row rfl λa j ha hj=>by
 by_cases h:a<i
 .exact ⟨.iT (by rw[a6 h]),hn _ _ hj⟩
 .obtain rfl:a=i:= aC ;exact⟨.iT (by rw[aZ h,dp];exact hb j hj),hn _ _ hj⟩
def wU(s:jc)(x:List Iv)(ds:List RD)(k:Int)(p:Nat)(n:Nat):Prop:=(∃ q,wI s (mA s x ds k p n) (ds.getD n ko) k p = .inr q)/\ml (iL (kB ds n) (ds.getD n ko).dy)=0
noncomputable def Yb(s:jc)(x:List Iv)(ds:List RD)(k:Int)(p:Nat)(i:Nat):PS:=⟨85,true,[(42,.e (iP i)),(41,.e (iP ds.length)),(40,.e (mW ds)),(13,.box 13 0),(12,.box 12 0),(10,.box 10 0),(5,.box 5 0),(1,.e (ib (mA s x ds k p i))),(3,.e (iP k)),(4,.e (iP p))],[(70,.row true 33 i 8 (rO s x ds k p)),(12,.oE true 50 [.e (ib x),.own 70]),(13,.cells 31 (jq (kB ds i))),(10,.cells 50 [.v (.slice none 0 0),.v (.slice none 0 0)]),(5,.cells 28 [iP s.tape.im,kU s.tape.gZ,kT s.tape.iu,iP s.iy,ib s.params])]⟩
noncomputable def Yc(s:jc)(x:List Iv)(ds:List RD)(k:Int)(p:Nat)(N:Nat)(i:Nat):PS:=⟨85,true,[(42,.e (iP i)),(41,.e (iP ds.length)),(40,.e (mW ds)),(13,.box 13 0),(12,.box 12 0),(10,.box 10 0),(5,.box 5 0),(1,.e (ib (mA s x ds k p i))),(3,.e (iP k)),(4,.e (iP p))],[(70,.row true 33 i 8 (rO s x ds k p)),(12,.oE true 50 [.e (ib x),.own 70]),(13,.cells 31 (jq (kB ds i))),(10,.cells 50 [.v (.slice none 0 0),.v (.slice none 0 0)]),(5,.cells 28 [iP s.tape.im,kU s.tape.gZ,kT s.tape.iu,iP s.iy,ib s.params])]⟩
noncomputable def Yd(s:jc)(x:List Iv)(ds:List RD)(k:Int)(p:Nat)(N:Nat)(i:Nat):PS:=⟨85,true,[(42,.e (iP i)),(41,.e (iP ds.length)),(40,.e (mW ds)),(13,.box 13 0),(12,.box 12 0),(10,.box 10 0),(5,.box 5 0),(1,.e (ib (mA s x ds k p i))),(3,.e (iP k)),(4,.e (iP p))],[(70,.row true 33 i 8 (rO s x ds k p)),(12,.oE true 50 [.e (ib x),.own 70]),(13,.cells 31 (jq (kB ds i))),(10,.cells 50 [.v (.slice none 0 0),.v (.slice none 0 0)]),(5,.cells 28 [iP s.tape.im,kU s.tape.gZ,kT s.tape.iu,iP s.iy,ib s.params])]⟩
def tO{s:jc}{x:List Iv}{ds:List RD}{k:Int}{p:Nat}(h:kz s)(hx:jh s.iy x)(il:8<=p)(ig:p<=512):∀ n,(∀ i,i<n->wU s x ds k p i)->jh s.iy (mA s x ds k p n)/\(kB ds n).ij
 | 0,_=>⟨hx,rU⟩
 |n+1,hg=>by
  obtain⟨h1,h2⟩:=tO h hx il ig n λi hi=>hg i (Nat.lt_succ_of_lt hi)
  obtain⟨⟨q,hq⟩,_⟩:=hg n (ew n);obtain⟨h3,h4,h5⟩:=(PF h h1 il ig).2 q hq;refine⟨?_,IL (yW h2.canon h3.valid.canon)⟩;show jh s.iy (match wI s (mA s x ds k p n) (ds.getD n ko) k p with | .inr q=>q.2 | .inl _=>mA s x ds k p n);rw[hq];exact h5
def De{s:jc}{x:List Iv}{ds:List RD}{k:Int}{p:Nat}(h:kz s)(hx:jh s.iy x)(il:8<=p)(ig:p<=512)(gd:∀ i,(ds.getD i ko).jE){n:Nat}(hb:jh s.iy (mA s x ds k p n))(hq:∃ q,wI s (mA s x ds k p n) (ds.getD n ko) k p = .inr q):
 gW 32 [iV s,ib (mA s x ds k p n),kX (ds.getD n ko),iP k,iP (p:Int)] (.ix [ib (xz s x ds k p n),ib (mA s x ds k p (n+1)),iP 0])/\(ds.getD n ko).Ok/\jh s.iy (xz s x ds k p n)/\jh s.iy (mA s x ds k p (n+1)):=by
 obtain⟨q,hq⟩:=hq;have h1:=Zc s _ h hb p il ig k (ds.getD n ko) (gd n);obtain⟨h3,h4,h5⟩:=(PF h hb il ig).2 q hq;have e1:xz s x ds k p n=q.1:=by unfold xz;rw[hq]
 have e2:mA s x ds k p (n+1)=q.2:=by
  show(match wI s (mA s x ds k p n) (ds.getD n ko) k p with | .inr q=>q.2 | .inl _=>mA s x ds k p n)=_;rw[hq]
 rw[hq]at h1;rw[e1,e2];exact⟨h1,h3,h4,h5⟩
def Ip(a:Dy)(ha:a.ij)(d:RD)(gd:d.jE)(hd:d.Ok):gW 88 [ie a,kX d] (.ix [ie (kt (iL a d.dy)),iP (ml (iL a d.dy))]):=by
 rw[show kX d=ie d.dy by rw[<-IW,hd.eq gd]];exact Dx a d.dy ha hd.valid
def akG(s:jc)(x:List Iv)(ds:List RD)(k:Int)(p:Nat)(h:kz s)(hx:jh s.iy x)(gd:∀ i,(ds.getD i ko).jE)(DZ:ds.length<=1000)(il:8<=p)(ig:p<=512)(kj:∀ i,i<ds.length->wU s x ds k p i):gW 30 [iV s,ib x,mW ds,iP k,iP p] (.ix [.agg [ib x,.sl true ds.length 8 (rO s x ds k p)],iP 0]):=by
 have s1:=h.s1;have s4:=h.s4;have lx:=hx.len;exact ak call30 func30 (ae [.c (uG s x h aD),ag [iP p] (vk _ aC aC),tF 35 (1000<(ds.length:Int)) aC,ag [ib x] (AL _ aC aC),.yf 12 1 70 true 33 8 (rO s x ds k p),.s (Sp.jC (Yb s x ds k p) 0 ds.length aC (λi hi nQ=>by
    obtain⟨jK,kK⟩:=tO h hx il ig i λj hj=>kj j aC 
    have oF:=jK.len;have lf:=De h hx il ig gd jK (kj i aC).1;have rf:=lf.2.2.2.len;have wW:gW 88 [ie (kB ds i),kX (ds.getD i ko)] (.ix [ie (kB ds (i+1)),iP 0]):=by
     have:=Ip (kB ds i) kK _ (gd i) lf.2.1;rwa[(kj i aC).2]at this
    exact iF (ae [tT 43 ((i:Int)<ds.length) aC,iX (i:Int) (ds.length) aC,ag [iV s,ib (mA s x ds k p i),kX (ds.getD i ko),iP k,iP p] lf.1,ai 57 ((0:Int) != 0) aE,ag [ie (kB ds i),kX (ds.getD i ko)] wW,ai 67 ((0:Int) != 0) aE,ag [ib (mA s x ds k p (i+1))] (AL _ aC aC),.a (aC:(i+1)*128<=140737488355328),iz ((i:Int)+1) aC]<|.e (af [.b 70 (Ps (λj hj=>by rcases j with _|_|_|_|_|_|_|_|j<;>first|rfl|omega) λi j hj=>Pr _ _ _ _ j hj:Bx.le (.row true 33 (i+1) 8 (λi_ j_=>if i_<i then(rO s x ds k p) i_ j_ else(E.kG (.sl true 1 8 λi_ j_=>[bP ((kB ds i).neg),ic (gY ((kB ds i).m)),iP ((kB ds i).e),bP ((kB ds (i+1)).neg),ic (gY ((kB ds (i+1)).m)),iP ((kB ds (i+1)).e),ib (xz s x ds k p i),ib (mA s x ds k p (i+1))].getD (i_*8+j_) (.v (.bool false)))) (i_-i) j_)) (.row true 33 (i+1) 8 (rO s x ds k p)))])) aF)
  (λhi=>by
    exact iF (af [tF 43 ((ds.length:Int)<ds.length) aC,.z 70]) aF) aI:jA 8 Tryz.f30 (Yb s x ds k p 0) (.exit 1) ⟨85,true,[(12,.box 12 0),(10,.box 10 0)],[(12,.oE true 50 [.e (ib x),.e (.sl true ds.length 8 (rO s x ds k p))]),(10,.cells 50 [.v (.slice none 0 0),.v (.slice none 0 0)])]⟩) (af [.b 13 (P7:Bx.le (.cells 31 ar) (.cells 31 (jq (kB ds 0))))])]<|rR (.ix [.agg [ib x,.sl true ds.length 8 (rO s x ds k p)],iP 0]) (.iT rfl:E.le (.ix [.agg [ib x,.sl true ds.length 8 (rO s x ds k p)],iP 0]) (.ix [.agg [ib x,.sl true ds.length 8 (rO s x ds k p)],iP 0]))) 
def akK(s:jc)(x:List Iv)(ds:List RD)(k:Int)(p:Nat)(h:kz s)(hx:jh s.iy x)(gd:∀ i,(ds.getD i ko).jE)(DZ:ds.length<=1000)(il:8<=p)(ig:p<=512)(N:Nat)(mQ:N<ds.length)(kj:∀ i,i<N->wU s x ds k p i)(e:Int)(he:e≠0)(hS:gW 32 [iV s,ib (mA s x ds k p N),kX (ds.getD N ko),iP k,iP (p:Int)] (.ix [.v (.slice none 0 0),.v (.slice none 0 0),iP e])):gW 30 [iV s,ib x,mW ds,iP k,iP p] (.ix [.agg [.v (.slice none 0 0),.v (.slice none 0 0)],iP e]):=by
 have s1:=h.s1;have s4:=h.s4;have lx:=hx.len;exact ak call30 func30 (af [.c (uG s x h aD),ag [iP p] (vk _ aC aC),tF 35 (1000<(ds.length:Int)) aC,ag [ib x] (AL _ aC aC),.yf 12 1 70 true 33 8 (rO s x ds k p),.s (Sp.jC (Yc s x ds k p N) 0 N aC (λi hi nQ=>by
    obtain⟨jK,kK⟩:=tO h hx il ig i λj hj=>kj j aC 
    have oF:=jK.len;have lf:=De h hx il ig gd jK (kj i aC).1;have rf:=lf.2.2.2.len;have wW:gW 88 [ie (kB ds i),kX (ds.getD i ko)] (.ix [ie (kB ds (i+1)),iP 0]):=by
     have:=Ip (kB ds i) kK _ (gd i) lf.2.1;rwa[(kj i aC).2]at this
    exact iF (ae [tT 43 ((i:Int)<ds.length) aC,iX (i:Int) (ds.length) aC,ag [iV s,ib (mA s x ds k p i),kX (ds.getD i ko),iP k,iP p] lf.1,ai 57 ((0:Int) != 0) aE,ag [ie (kB ds i),kX (ds.getD i ko)] wW,ai 67 ((0:Int) != 0) aE,ag [ib (mA s x ds k p (i+1))] (AL _ aC aC),.a (aC:(i+1)*128<=140737488355328),iz ((i:Int)+1) aC]<|.e (af [.b 70 (Ps (λj hj=>by rcases j with _|_|_|_|_|_|_|_|j<;>first|rfl|omega) λi j hj=>Pr _ _ _ _ j hj:Bx.le (.row true 33 (i+1) 8 (λi_ j_=>if i_<i then(rO s x ds k p) i_ j_ else(E.kG (.sl true 1 8 λi_ j_=>[bP ((kB ds i).neg),ic (gY ((kB ds i).m)),iP ((kB ds i).e),bP ((kB ds (i+1)).neg),ic (gY ((kB ds (i+1)).m)),iP ((kB ds (i+1)).e),ib (xz s x ds k p i),ib (mA s x ds k p (i+1))].getD (i_*8+j_) (.v (.bool false)))) (i_-i) j_)) (.row true 33 (i+1) 8 (rO s x ds k p)))])) aF)
  (λhi=>by
    obtain⟨jK,kK⟩:=tO h hx il ig N λj hj=>kj j aC 
    have oF:=jK.len;exact iF (af [tT 43 ((N:Int)<ds.length) aC,iX (N:Int) (ds.length) aC,ag [iV s,ib (mA s x ds k p N),kX (ds.getD N ko),iP k,iP p] hS,tB 57 (aY he)]) aF) aI:jA 8 Tryz.f30 (Yc s x ds k p N 0) .ret ⟨85,true,[(11,.e (iP e)),(10,.box 10 0)],[(10,.cells 50 [.v (.slice none 0 0),.v (.slice none 0 0)])]⟩) (af [.b 13 (P7:Bx.le (.cells 31 ar) (.cells 31 (jq (kB ds 0))))])]) 
def akI(s:jc)(x:List Iv)(ds:List RD)(k:Int)(p:Nat)(h:kz s)(hx:jh s.iy x)(gd:∀ i,(ds.getD i ko).jE)(DZ:ds.length<=1000)(il:8<=p)(ig:p<=512)(N:Nat)(mQ:N<ds.length)(kj:∀ i,i<N->wU s x ds k p i)(lf:gW 32 [iV s,ib (mA s x ds k p N),kX (ds.getD N ko),iP k,iP (p:Int)] (.ix [ib (xz s x ds k p N),ib (mA s x ds k p (N+1)),iP 0])/\True)(e:Int)(he:e≠0)(hS:gW 88 [ie (kB ds N),kX (ds.getD N ko)] (.ix [ie ju,iP e])):gW 30 [iV s,ib x,mW ds,iP k,iP p] (.ix [.agg [.v (.slice none 0 0),.v (.slice none 0 0)],iP e]):=by
 have s1:=h.s1;have s4:=h.s4;have lx:=hx.len;exact ak call30 func30 (af [.c (uG s x h aD),ag [iP p] (vk _ aC aC),tF 35 (1000<(ds.length:Int)) aC,ag [ib x] (AL _ aC aC),.yf 12 1 70 true 33 8 (rO s x ds k p),.s (Sp.jC (Yd s x ds k p N) 0 N aC (λi hi nQ=>by
    obtain⟨jK,kK⟩:=tO h hx il ig i λj hj=>kj j aC 
    have oF:=jK.len;have lf:=De h hx il ig gd jK (kj i aC).1;have rf:=lf.2.2.2.len;have wW:gW 88 [ie (kB ds i),kX (ds.getD i ko)] (.ix [ie (kB ds (i+1)),iP 0]):=by
     have:=Ip (kB ds i) kK _ (gd i) lf.2.1;rwa[(kj i aC).2]at this
    exact iF (ae [tT 43 ((i:Int)<ds.length) aC,iX (i:Int) (ds.length) aC,ag [iV s,ib (mA s x ds k p i),kX (ds.getD i ko),iP k,iP p] lf.1,ai 57 ((0:Int) != 0) aE,ag [ie (kB ds i),kX (ds.getD i ko)] wW,ai 67 ((0:Int) != 0) aE,ag [ib (mA s x ds k p (i+1))] (AL _ aC aC),.a (aC:(i+1)*128<=140737488355328),iz ((i:Int)+1) aC]<|.e (af [.b 70 (Ps (λj hj=>by rcases j with _|_|_|_|_|_|_|_|j<;>first|rfl|omega) λi j hj=>Pr _ _ _ _ j hj:Bx.le (.row true 33 (i+1) 8 (λi_ j_=>if i_<i then(rO s x ds k p) i_ j_ else(E.kG (.sl true 1 8 λi_ j_=>[bP ((kB ds i).neg),ic (gY ((kB ds i).m)),iP ((kB ds i).e),bP ((kB ds (i+1)).neg),ic (gY ((kB ds (i+1)).m)),iP ((kB ds (i+1)).e),ib (xz s x ds k p i),ib (mA s x ds k p (i+1))].getD (i_*8+j_) (.v (.bool false)))) (i_-i) j_)) (.row true 33 (i+1) 8 (rO s x ds k p)))])) aF)
  (λhi=>by
    obtain⟨jK,kK⟩:=tO h hx il ig N λj hj=>kj j aC 
    have oF:=jK.len;exact iF (af [tT 43 ((N:Int)<ds.length) aC,iX (N:Int) (ds.length) aC,ag [iV s,ib (mA s x ds k p N),kX (ds.getD N ko),iP k,iP p] lf.1,ai 57 ((0:Int) != 0) aE,ag [ie (kB ds N),kX (ds.getD N ko)] hS,tB 67 (aY he)]) aF) aI:jA 8 Tryz.f30 (Yd s x ds k p N 0) .ret ⟨85,true,[(11,.e (iP e)),(10,.box 10 0)],[(10,.cells 50 [.v (.slice none 0 0),.v (.slice none 0 0)])]⟩) (af [.b 13 (P7:Bx.le (.cells 31 ar) (.cells 31 (jq (kB ds 0))))])]) 
def W1{a b c d e f:Int}(ha:kA .i64 a)(hb:kA .i64 b)(hc:kA .i64 c)(hd:kA .i64 d)(he:kA .i64 e)(hf:kA .i64 f):
 prog.keyLits 10 107 [.int .i64 a,.int .i64 b,.int .i64 c,.int .i64 d,.int .i64 e,.int .i64 f]=some [.int .i64 a,.int .i64 b,.int .i64 c,.int .i64 d,.int .i64 e,.int .i64 f]:=by
 have c1:prog.cellsOf 107=6:= aF ;have c2:prog.cellsOf 3=1:= aF ;have c3:prog.cellsOf 93=2:= aF ;have r:prog.keyLits 9 93 [.int .i64 e,.int .i64 f]=some [.int .i64 e,.int .i64 f]:=by
  unfold Program.keyLits;rw[underlying93];simp[c3,c2,fA,Bj he,Bj hf]
 unfold Program.keyLits;rw[underlying107];simp[c1,c2,c3,fA,Bj ha,Bj hb,Bj hc,Bj hd,r]
def Kj{a b c d e f a' b' c' d' e' f':Int}(ha:kA .i64 a)(hb:kA .i64 b)(hc:kA .i64 c)(hd:kA .i64 d)(he:kA .i64 e)(hf:kA .i64 f)
 (A6:kA .i64 a') (mU:kA .i64 b') (Ch:kA .i64 c') (Cj:kA .i64 d') (he':kA .i64 e') (hf':kA .i64 f'):
 pB prog .eql 107 (.agg [iP a,iP b,iP c,iP d,iP e,iP f]) (.agg [iP a',iP b',iP c',iP d',iP e',iP f']) (.bool (decide (a=a'/\b=b'/\c=c'/\d=d'/\e=e'/\f=f'))):=
 aiv (W1 ha hb hc hd he hf) (W1 A6 mU Ch Cj he' hf') aF aF rfl
def vu:kA .i64 0:=by unfold kA;decide
def am4{d:Int}(h0:0<=d)(h:d<=1073741824):IntKind.u64.wrap d=(d.natAbs:Int):=by rw[IntKind.wrap_u64];omega
def RT{a b:Nat}:0<=kE a b↔b<=a:=by
 unfold kE;split
 .simp;omega
 .split<;>simp<;>omega
def Xl(m n:Nat)(hl:(gY m).length<=1000)(hn:n<=65536):gW 168 [ic (gY m),iP (n:Int)] (ic (gY (m*2^n))):=
 GW (mz m) call168 (λA c w h _=>ajS A c (gY m) n w h hl hn) λA c B w e w' h hB r=>by rw[kr]at r;exact rl B w e w' hB r
def ajp(m n:Nat)(hl:(gY m).length<=3000)(hn:(gY n).length<=3000):gW 170 [ic (gY m),ic (gY n)] (ic (gY (m+n))):=
 Bt (mz m) (mz n) call170 (λA c B d w h k _=>ajW A B c d (gY m) (gY n) w h k hl hn) λB w e w' hB r=>by rw[kr,kr]at r;exact rl B w e w' hB r
def Xm(m n:Nat)(hl:(gY m).length<=3000)(hn:n<=m):gW 171 [ic (gY m),ic (gY n)] (ic (gY (m-n))):=
 Bt (mz m) (mz n) call171 (λA c B d w h k _=>ajT A B c d (gY m) (gY n) w h k hl (mV hn) (by rw[kr,kr];exact hn)) λB w e w' hB r=>by rw[kr,kr]at r;exact rl B w e w' hB r
def ajo(m n:Nat)(hl:(gY m).length<=3000)(hn:(gY n).length<=3000):gW 97 [ic (gY m),ic (gY n)] (iP (kE m n)):=by
 refine Bt (mz m) (mz n) call97 (λA c B d w h k _=>XP A B c d (gY m) (gY n) w h k (vD _) (vD _) aC aC) ?_;rw[kr,kr];exact rv
def XQ(a b:Dy)(ha:Av a)(hb:Av b):gW 96 [ie a,ie b] (ie (iL a b)):=by
 obtain⟨ha1,ha2,ha3⟩:=ha;obtain⟨jK,kK,qj⟩:=hb;have ba:=BX ha1;have bb:=BX jK;obtain⟨k,hk⟩:∃ k,min a.e b.e=k:=⟨_,rfl⟩
 exact ak call96 func96 (.w (((gY a.m).length:Int)=0)
  (λk1=>by
   have a0:a.m=0:=sD.1 aC;exact ae [tB 11 (aV k1)]<|rQ (ie b) (ie (iL a b)) (by rw[show iL a b=b by unfold iL;rw[a6 a0]]))
  (λk1=>by
   have a0:a.m≠0:=λh=>k1 (by rw[sD.2 h];rfl)
   exact ae [tB 11 (aU k1)]<|.w (((gY b.m).length:Int)=0)
    (λk2=>by
     have b0:b.m=0:=sD.1 aC;exact ae [tB 16 (aV k2)]<|rQ (ie a) (ie (iL a b)) (by rw[show iL a b=a by unfold iL;rw[aZ a0,a6 b0]]))
    (λk2=>by
     have b0:b.m≠0:=λh=>k2 (by rw[sD.2 h];rfl)
     have hX:(gY (a.m*2^((a.e-k).toNat))).length<=1400:=py (by rw[q7 a0];omega);have hY:(gY (b.m*2^((b.e-k).toNat))).length<=1400:=py (by rw[q7 b0];omega);have hP:=aho hX hY;have hM:(gY ((a.m*2^((a.e-k).toNat))-(b.m*2^((b.e-k).toNat)))).length<=1400:=bk (mV (dP _ _)) hX;have hN:(gY ((b.m*2^((b.e-k).toNat))-(a.m*2^((a.e-k).toNat)))).length<=1400:=bk (mV (dP _ _)) hY;exact ae [tB 16 (aU k2),.o 22 (aq (if b.e<a.e then b.e else a.e) k (by rw[<-hk];split<;>omega)),iz (a.e-k) aC,.o 28 (aq (a.e-k) ((a.e-k).toNat:Int) aC),ag [ic (gY a.m),iP ((a.e-k).toNat:Int)] (Xl _ _ aC aC),iz (b.e-k) aC,.o 35 (aq (b.e-k) ((b.e-k).toNat:Int) aC),ag [ic (gY b.m),iP ((b.e-k).toNat:Int)] (Xl _ _ aC aC)]<|.w (a.neg=b.neg)
      (λk3=>ae [tB 41 (aV k3),ag [ic (gY (a.m*2^((a.e-k).toNat))),ic (gY (b.m*2^((b.e-k).toNat)))] (ajp _ _ aC aC),ag [bP a.neg,ic (gY ((a.m*2^((a.e-k).toNat))+(b.m*2^((b.e-k).toNat)))),iP k] (O5 _ _ _ aC aC aC)]<|rQ (ie (canon a.neg ((a.m*2^((a.e-k).toNat))+(b.m*2^((b.e-k).toNat))) k)) (ie (iL a b)) (by have h:=Zk (s:=a.neg) a0 b0 hk;rw[show(⟨a.neg,b.m,b.e⟩:Dy)=b by rw[k3]]at h;exact congrArg ie h.symm))
      (λk3=>ae [tB 41 (aU k3),ag [ic (gY (a.m*2^((a.e-k).toNat))),ic (gY (b.m*2^((b.e-k).toNat)))] (ajo _ _ aC aC)]<|.w (0<=(kE (a.m*2^((a.e-k).toNat)) (b.m*2^((b.e-k).toNat))))
       (λk4=>by
        have hc:(b.m*2^((b.e-k).toNat))<=(a.m*2^((a.e-k).toNat)):=RT.1 k4;exact ae [tB 52 (a7 k4),ag [ic (gY (a.m*2^((a.e-k).toNat))),ic (gY (b.m*2^((b.e-k).toNat)))] (Xm _ _ aC aC),ag [bP a.neg,ic (gY ((a.m*2^((a.e-k).toNat))-(b.m*2^((b.e-k).toNat)))),iP k] (O5 _ _ _ aC aC aC)]<|rQ (ie (canon a.neg ((a.m*2^((a.e-k).toNat))-(b.m*2^((b.e-k).toNat))) k)) (ie (iL a b)) (congrArg ie (Zi (s:=a.neg) (t:=b.neg) a0 b0 hk k3 hc).symm))
       (λk4=>by
        have hc:(a.m*2^((a.e-k).toNat))<(b.m*2^((b.e-k).toNat)):=Nat.lt_of_not_le λh=>k4 (RT.2 h)
        exact ae [tB 52 (bc k4),ag [ic (gY (b.m*2^((b.e-k).toNat))),ic (gY (a.m*2^((a.e-k).toNat)))] (Xm _ _ aC aC),ag [bP b.neg,ic (gY ((b.m*2^((b.e-k).toNat))-(a.m*2^((a.e-k).toNat)))),iP k] (O5 _ _ _ aC aC aC)]<|rQ (ie (canon b.neg ((b.m*2^((b.e-k).toNat))-(a.m*2^((a.e-k).toNat))) k)) (ie (iL a b)) (congrArg ie (Zj (s:=a.neg) (t:=b.neg) a0 b0 hk k3 hc).symm)))))) 
def XO(a b:Dy)(ha:Av a)(hb:Av b):gW 75 [ie a,ie b] (iP (jj a b)):=by
 have hn:Av (jt b):=⟨hb.len,hb.lo,hb.hi⟩
 exact ak call75 func75 (ae [ag [ie a] (O6 _),ag [ie b] (O6 _)]<|.w ((Dy.iM a)=(Dy.iM b))
  (λk1=>ae [tB 13 (aX k1)]<|.w ((Dy.iM a)=0)
   (λk2=>ae [tB 18 (aV k2)]<|rQ (iP 0) (iP (jj a b)) (by rw[DH,aZ (by simpa using k1),a6 k2]))
   (λk2=>ae [tB 18 (aU k2),ag [ie a] (Kz _ ha),ag [ie b] (Kz _ hb)]<|.w ((Dy.iw a)=(Dy.iw b))
    (λk3=>ae [tB 23 (aX k3),ag [ie b] (ajV _),.c (XQ a (jt b) ha hn),ag [ie (iL a (jt b))] (O6 _)]<|rQ (iP (Dy.iM (iL a (jt b)))) (iP (jj a b)) (by rw[DH,aZ (by simpa using k1),aZ k2,aZ (by simpa using k3)]))
    (λk3=>ae [tB 23 (aY k3),ag [ie a] (Kz _ ha),ag [ie b] (Kz _ hb)]<|.w ((decide ((Dy.iw a)<(Dy.iw b)))=(decide (0<(Dy.iM a))))
     (λk4=>ae [tB 31 (aV k4)]<|rQ (iP (-1)) (iP (jj a b)) (by rw[DH,aZ (by simpa using k1),aZ k2,a6 k3,a6 (by simpa using k4)]))
     (λk4=>ae [tB 31 (aU k4)]<|rQ (iP 1) (iP (jj a b)) (by rw[DH,aZ (by simpa using k1),aZ k2,a6 k3,aZ (by simpa using k4)])))))
  (λk1=>ae [tB 13 (aY k1)]<|.w ((Dy.iM a)<(Dy.iM b))
   (λk2=>ae [tB 16 (a7 k2)]<|rQ (iP (-1)) (iP (jj a b)) (by rw[DH,a6 k1,a6 k2]))
   (λk2=>ae [tB 16 (bc k2)]<|rQ (iP 1) (iP (jj a b)) (by rw[DH,a6 k1,aZ k2])))) 
def Tn(a b:Nat)(x:Nat):PS:=⟨12,true,[(0,.e (.v (.int .u64 (((my a b x).1:Nat):Int)))),(1,.e (.v (.int .u64 (((my a b x).2:Nat):Int))))],[]⟩
def XE(s:jU)(N:Nat)(x:Nat):PS:=⟨131,true,[(4,.e (iP x)),(3,.box 3 0),(1,.box 1 0)],[(3,.cells 25 [iP s.im,ky s.gZ,kD s.iu]),(1,.cells 28 [iP s.im,ky s.gZ,kD s.iu,iP s.iy,jz s.params])]⟩
def Xz(s:jU)(x:Nat):PS:=⟨131,true,[(4,.e (iP x)),(3,.box 3 0),(1,.box 1 0)],[(3,.cells 25 [iP s.im,ky s.gZ,kD s.iu]),(1,.cells 28 [iP s.im,ky s.gZ,kD s.iu,iP s.iy,jz s.params])]⟩
def XF(s:jU)(N:Nat)(x:Nat):PS:=⟨131,true,[(5,.e (iP x)),(3,.box 3 0),(1,.box 1 0)],[(3,.cells 25 [iP s.im,ky s.gZ,kD s.iu]),(1,.cells 28 [iP s.im,ky s.gZ,kD s.iu,iP s.iy,jz s.params])]⟩
def XA(s:jU)(x:Nat):PS:=⟨131,true,[(4,.e (iP x)),(3,.box 3 0),(1,.box 1 0)],[(3,.cells 25 [iP s.im,ky s.gZ,kD s.iu]),(1,.cells 28 [iP s.im,ky s.gZ,kD s.iu,iP s.iy,jz s.params])]⟩
def XG(s:jU)(N:Nat)(x:Nat):PS:=⟨131,true,[(5,.e (iP x)),(3,.box 3 0),(1,.box 1 0)],[(3,.cells 25 [iP s.im,ky s.gZ,kD s.iu]),(1,.cells 28 [iP s.im,ky s.gZ,kD s.iu,iP s.iy,jz s.params])]⟩
def XB(s:jU)(x:Nat):PS:=⟨131,true,[(4,.e (iP x)),(3,.box 3 0),(1,.box 1 0)],[(3,.cells 25 [iP s.im,ky s.gZ,kD s.iu]),(1,.cells 28 [iP s.im,ky s.gZ,kD s.iu,iP s.iy,jz s.params])]⟩
def XH(s:jU)(x:Nat):PS:=⟨131,true,[(5,.e (iP x)),(3,.box 3 0),(1,.box 1 0)],[(3,.cells 25 [iP s.im,ky s.gZ,kD s.iu]),(1,.cells 28 [iP s.im,ky s.gZ,kD s.iu,iP s.iy,jz s.params])]⟩
def XI(s:jU)(N:Nat)(x:Nat):PS:=⟨131,true,[(6,.e (iP x)),(1,.box 1 0)],[(1,.cells 28 [iP s.im,ky s.gZ,kD s.iu,iP s.iy,jz s.params])]⟩
def XC(s:jU)(x:Nat):PS:=⟨131,true,[(4,.e (iP x)),(3,.box 3 0),(1,.box 1 0)],[(3,.cells 25 [iP s.im,ky s.gZ,kD s.iu]),(1,.cells 28 [iP s.im,ky s.gZ,kD s.iu,iP s.iy,jz s.params])]⟩
def XJ(s:jU)(x:Nat):PS:=⟨131,true,[(5,.e (iP x)),(3,.box 3 0),(1,.box 1 0)],[(3,.cells 25 [iP s.im,ky s.gZ,kD s.iu]),(1,.cells 28 [iP s.im,ky s.gZ,kD s.iu,iP s.iy,jz s.params])]⟩
def XK(s:jU)(N:Nat)(x:Nat):PS:=⟨131,true,[(6,.e (iP x)),(1,.box 1 0)],[(1,.cells 28 [iP s.im,ky s.gZ,kD s.iu,iP s.iy,jz s.params])]⟩
def XD(s:jU)(x:Nat):PS:=⟨131,true,[(4,.e (iP x)),(3,.box 3 0),(1,.box 1 0)],[(3,.cells 25 [iP s.im,ky s.gZ,kD s.iu]),(1,.cells 28 [iP s.im,ky s.gZ,kD s.iu,iP s.iy,jz s.params])]⟩
def XL(s:jU)(x:Nat):PS:=⟨131,true,[(5,.e (iP x)),(3,.box 3 0),(1,.box 1 0)],[(3,.cells 25 [iP s.im,ky s.gZ,kD s.iu]),(1,.cells 28 [iP s.im,ky s.gZ,kD s.iu,iP s.iy,jz s.params])]⟩
def XM(s:jU)(x:Nat):PS:=⟨131,true,[(6,.e (iP x)),(1,.box 1 0)],[(1,.cells 28 [iP s.im,ky s.gZ,kD s.iu,iP s.iy,jz s.params])]⟩
def Xi(s:jU)(b:List RI)(N:Nat)(x:Nat):PS:=⟨35,true,[(5,.e (iP x)),(1,.e (jz b))],[]⟩
def Xj(s:jU)(b:List RI)(N:Nat)(x:Nat):PS:=⟨35,true,[(5,.e (iP x)),(1,.e (jz b))],[]⟩
def Xk(s:jU)(b:List RI)(x:Nat):PS:=⟨35,true,[(5,.e (iP x)),(1,.e (jz b))],[]⟩
def aeD(a b N:Nat)(ha:a<18446744073709551616)(hb:b<18446744073709551616)(je:∀ k,k<N->(my a b k).2≠0)(hN:(my a b N).2=0):gW 256 [.v (.int .u64 (a:Int)),.v (.int .u64 (b:Int))] (.v (.int .u64 (((my a b N).1:Nat):Int))):=
 ak call256 func256 (af [.s (Sp.jC (Tn a b) 0 N aC (λx hx k0=>by
    have lV:=je x aC;exact iF (ae [ah 6 ((((my a b x).2:Nat):Int) != 0) (Ww (je x aC)),.a (aC:0<((((my a b x).2:Nat):Int):Int))]<|.e (af [.o 0 (.int aO:aj (.v (.int .u64 (((my a b x).2:Nat):Int))) (.v (.int .u64 (((my a b (x+1)).1:Nat):Int)))),.o 1 (.int aO:aj (.v (.int .u64 ((((my a b x).1)%((my a b x).2):Nat):Int))) (.v (.int .u64 (((my a b (x+1)).2:Nat):Int))))])) aF)
  (λhx=>by
    exact iF (af [ai 6 ((((my a b N).2:Nat):Int) != 0) (Wv hN)]) aF) aI:jA 1 f256 (Tn a b 0) (.exit 0) ⟨12,true,[(0,.e (.v (.int .u64 (((my a b N).1:Nat):Int))))],[]⟩) (af [.o 0 (.int aO:aj (.v (.int .u64 (a:Int))) (.v (.int .u64 (((my a b 0).1:Nat):Int)))),.o 1 (.int aO:aj (.v (.int .u64 (b:Int))) (.v (.int .u64 (((my a b 0).2:Nat):Int))))])]) 
def aeE(a b:Nat)(ha:a<18446744073709551616)(hb:b<18446744073709551616):gW 256 [.v (.int .u64 (a:Int)),.v (.int .u64 (b:Int))] (.v (.int .u64 (Nat.gcd a b:Int))):=by
 obtain⟨N,h1,h2⟩:=SJ b a;have hg:=Ma a b N;rw[h2,Nat.gcd_zero_right]at hg;rw[<-hg];exact aeD a b N ha hb h1 h2
def alM(m:Nat)(h:m<=1073741824):gW 257 [iP m] (.v (.int .u64 (m:Int))):=
 ak call257 func257 (af [tF 4 ((m:Int)<0) aC,.o 11 (.int (sd _ aC):aj (.v (.int .u64 (IntKind.u64.wrap (m:Int)))) (.v (.int .u64 (m:Int))))]) 
def alK(m:Nat)(h0:0<m)(h:m<=1073741824):gW 257 [iP (-(m:Int))] (.v (.int .u64 (m:Int))):=
 ak call257 func257 (ae [tT 4 ((-(m:Int))<0) aC,iz ((-(m:Int))+1) aC,iz (0-((-(m:Int))+1)) aC,.o 7 (aq (0-((-(m:Int))+1)) ((m-1:Nat):Int) aC),.o 8 (.int (sd _ aC):aj (.v (.int .u64 (IntKind.u64.wrap ((m-1:Nat):Int)))) (.v (.int .u64 ((m-1:Nat):Int)))),BF (((m-1:Nat):Int)+1) aC]<|rQ (.v (.int .u64 (((m-1)+1:Nat):Int))) (.v (.int .u64 (m:Int))) (by rw[(aC:m-1+1=m)])) 
def alL(n:Int)(h1:-1073741824<=n)(h2:n<=1073741824):gW 257 [iP n] (.v (.int .u64 (n.natAbs:Int))):=by
 by_cases h:0<=n
 .obtain ⟨m,rfl⟩:=eU h;exact alM m aC 
 .obtain ⟨m,rfl⟩:∃ m:Nat,n = -(m:Int):=⟨n.natAbs,aC⟩
  rw[fY,eB];exact alK m aC aC 
def ajr(n d:Int):gW 217 [.agg [iP n,iP d]] (bP (nv n d)):=
 ak call217 func217 (.w (1<=d)
  (λk1=>ae [tB 5 (a7 k1)]<|.w (d<=1073741824)
   (λk2=>ae [tB 9 (a7 k2)]<|.w ((-1073741824)<=n)
    (λk3=>ae [tB 14 (a7 k3)]<|.w (n<=1073741824)
     (λk4=>ae [tB 19 (a7 k4),ag [iP n] (alL _ aC aC),.o 27 (.int (am4 aC aC):aj (.v (.int .u64 (IntKind.u64.wrap d))) (.v (.int .u64 (Int.natAbs d:Int)))),.c (aeE (Int.natAbs n) (Int.natAbs d) aC aC)]<|rQ (bP ((Nat.gcd (Int.natAbs n) (Int.natAbs d):Int)==1)) (bP (nv n d)) (by unfold nv;simp[yr,k1,k2,k3,k4]))
     (λk4=>ae [tB 19 (bc k4)]<|rQ (bP false) (bP (nv n d)) (by unfold nv;simp[yr,k1,k2,k3,k4])))
    (λk3=>ae [tB 14 (bc k3)]<|rQ (bP false) (bP (nv n d)) (by unfold nv;simp[yr,k1,k2,k3])))
   (λk2=>ae [tB 9 (bc k2)]<|rQ (bP false) (bP (nv n d)) (by unfold nv;simp[yr,k1,k2])))
  (λk1=>ae [tB 5 (bc k1)]<|rQ (bP false) (bP (nv n d)) (by unfold nv;simp[yr,k1]))) 
def C4(o:oY)(m:Int)(g:o.jE):gW 161 [EN o,iP m] (bP (kn o m)):=
 ak call161 func161 (.w (o.kind=1)
  (λk1=>ae [tB 13 (aV k1),.c (ajr o.cn o.cd)]<|.w (nv o.cn o.cd=true)
   (λk2=>ae [tB 19 k2,ai 47 (decide ((0:Int)<0)) aE,ai 52 (decide ((1:Int)<0)) aE,.g (Kj g.kind g.a g.b g.n g.cn g.cd g.kind vu vu vu g.cn g.cd:pB prog .eql 107 (EN o) (.agg [iP o.kind,iP 0,iP 0,iP 0,iP o.cn,iP o.cd]) (.bool (decide (o.kind=o.kind/\o.a=0/\o.b=0/\o.n=0/\o.cn=o.cn/\o.cd=o.cd))))]<|.w (o.kind=o.kind/\o.a=0/\o.b=0/\o.n=0/\o.cn=o.cn/\o.cd=o.cd)
    (λk3=>ae [tB 58 (a7 k3),ah 61 ((0:Int)==0) aE]<|rQ (bP true) (bP (kn o m)) mX)
    (λk3=>ae [tB 58 (bc k3)]<|rQ (bP false) (bP (kn o m)) mX))
   (λk2=>ae [tB 19 (aW k2)]<|rQ (bP false) (bP (kn o m)) mX))
  (λk1=>ae [tB 13 (aU k1),.j 42 ⟨85,true,[(21,.e (bP (decide (3<=o.kind/\o.kind<=6)))),(11,.e (iP o.kind)),(6,.box 6 0),(2,.box 2 0),(1,.e (iP m))],[(6,.cells 107 [iP o.kind,iP 0,iP 0,iP 0,iP 0,iP 0]),(2,.cells 107 [iP o.kind,iP o.a,iP o.b,iP o.n,iP o.cn,iP o.cd])]⟩
   (.w (o.kind=3)
    (λm1=>ae [.v 21 (.bool (aV m1))]<|.e (af [tB 21 (rK aJ:true=(decide (3<=o.kind/\o.kind<=6)))]))
    (λm1=>ae [.v 21 (.bool (aU m1))]<|.w (o.kind=4)
     (λm2=>ae [tB 23 (aV m2)]<|.e (af [tB 21 (rK aJ:true=(decide (3<=o.kind/\o.kind<=6)))]))
     (λm2=>ae [tB 23 (aU m2)]<|.w (o.kind=5)
      (λm3=>ae [tB 24 (aV m3)]<|.e (af [tB 21 (rK aJ:true=(decide (3<=o.kind/\o.kind<=6)))]))
      (λm3=>ae [tB 24 (aU m3)]<|.e (af [tB 21 (rK aJ:(o.kind==6)=(decide (3<=o.kind/\o.kind<=6)))])))))]<|.w (3<=o.kind/\o.kind<=6)
   (λk2=>ae [.v 21 (.bool (a7 k2)),ah 47 (decide ((0:Int)<2)) aE,ah 52 (decide ((1:Int)<2)) aE,.g (Kj g.kind g.a g.b g.n g.cn g.cd g.kind g.a g.b vu vu vu:pB prog .eql 107 (EN o) (.agg [iP o.kind,iP o.a,iP o.b,iP 0,iP 0,iP 0]) (.bool (decide (o.kind=o.kind/\o.a=o.a/\o.b=o.b/\o.n=0/\o.cn=0/\o.cd=0))))]<|.w (o.kind=o.kind/\o.a=o.a/\o.b=o.b/\o.n=0/\o.cn=0/\o.cd=0)
    (λk3=>ae [tB 58 (a7 k3),ai 61 ((2:Int)==0) aE]<|.w (0<=o.a)
     (λk4=>ae [tB 65 (a7 k4)]<|.w (o.a<m)
      (λk5=>ae [tB 70 (a7 k5)]<|.w (0<=o.b)
       (λk6=>ae [tB 75 (a7 k6)]<|rQ (bP (decide (o.b<m))) (bP (kn o m)) mX)
       (λk6=>ae [tB 75 (bc k6)]<|rQ (bP false) (bP (kn o m)) mX))
      (λk5=>ae [tB 70 (bc k5)]<|rQ (bP false) (bP (kn o m)) mX))
     (λk4=>ae [tB 65 (bc k4)]<|rQ (bP false) (bP (kn o m)) mX))
    (λk3=>ae [tB 58 (bc k3)]<|rQ (bP false) (bP (kn o m)) mX))
   (λk2=>ae [.v 21 (.bool (bc k2)),.j 52 ⟨85,true,[(26,.e (bP (decide (o.kind=7\/9<=o.kind/\o.kind<=13)))),(11,.e (iP o.kind)),(6,.box 6 0),(2,.box 2 0),(1,.e (iP m))],[(6,.cells 107 [iP o.kind,iP 0,iP 0,iP 0,iP 0,iP 0]),(2,.cells 107 [iP o.kind,iP o.a,iP o.b,iP o.n,iP o.cn,iP o.cd])]⟩
   (.w (o.kind=7)
    (λm1=>ae [.v 26 (.bool (aV m1))]<|.e (af [tB 26 (rK aJ:true=(decide (o.kind=7\/9<=o.kind/\o.kind<=13)))]))
    (λm1=>ae [.v 26 (.bool (aU m1))]<|.w (o.kind=9)
     (λm2=>ae [tB 28 (aV m2)]<|.e (af [tB 26 (rK aJ:true=(decide (o.kind=7\/9<=o.kind/\o.kind<=13)))]))
     (λm2=>ae [tB 28 (aU m2)]<|.w (o.kind=10)
      (λm3=>ae [tB 29 (aV m3)]<|.e (af [tB 26 (rK aJ:true=(decide (o.kind=7\/9<=o.kind/\o.kind<=13)))]))
      (λm3=>ae [tB 29 (aU m3)]<|.w (o.kind=11)
       (λm4=>ae [tB 30 (aV m4)]<|.e (af [tB 26 (rK aJ:true=(decide (o.kind=7\/9<=o.kind/\o.kind<=13)))]))
       (λm4=>ae [tB 30 (aU m4)]<|.w (o.kind=12)
        (λm5=>ae [tB 31 (aV m5)]<|.e (af [tB 26 (rK aJ:true=(decide (o.kind=7\/9<=o.kind/\o.kind<=13)))]))
        (λm5=>ae [tB 31 (aU m5)]<|.e (af [tB 26 (rK aJ:(o.kind==13)=(decide (o.kind=7\/9<=o.kind/\o.kind<=13)))])))))))]<|.w (o.kind=7\/9<=o.kind/\o.kind<=13)
    (λk3=>ae [.v 26 (.bool (a7 k3)),ah 47 (decide ((0:Int)<1)) aE,ai 52 (decide ((1:Int)<1)) aE,.g (Kj g.kind g.a g.b g.n g.cn g.cd g.kind g.a vu vu vu vu:pB prog .eql 107 (EN o) (.agg [iP o.kind,iP o.a,iP 0,iP 0,iP 0,iP 0]) (.bool (decide (o.kind=o.kind/\o.a=o.a/\o.b=0/\o.n=0/\o.cn=0/\o.cd=0))))]<|.w (o.kind=o.kind/\o.a=o.a/\o.b=0/\o.n=0/\o.cn=0/\o.cd=0)
     (λk4=>ae [tB 58 (a7 k4),ai 61 ((1:Int)==0) aE]<|.w (0<=o.a)
      (λk5=>ae [tB 65 (a7 k5)]<|.w (o.a<m)
       (λk6=>ae [tB 70 (a7 k6)]<|.w (0<=o.b)
        (λk7=>ae [tB 75 (a7 k7)]<|rQ (bP (decide (o.b<m))) (bP (kn o m)) mX)
        (λk7=>ae [tB 75 (bc k7)]<|rQ (bP false) (bP (kn o m)) mX))
       (λk6=>ae [tB 70 (bc k6)]<|rQ (bP false) (bP (kn o m)) mX))
      (λk5=>ae [tB 65 (bc k5)]<|rQ (bP false) (bP (kn o m)) mX))
     (λk4=>ae [tB 58 (bc k4)]<|rQ (bP false) (bP (kn o m)) mX))
    (λk3=>ae [.v 26 (.bool (bc k3))]<|.w (o.kind=8)
     (λk4=>ae [tB 34 (aV k4)]<|.w (o.n<0)
      (λk5=>ae [tB 40 (a7 k5)]<|rQ (bP false) (bP (kn o m)) mX)
      (λk5=>ae [tB 40 (bc k5)]<|.w (16<o.n)
       (λk6=>ae [tB 44 (a7 k6)]<|rQ (bP false) (bP (kn o m)) mX)
       (λk6=>ae [tB 44 (bc k6),ah 47 (decide ((0:Int)<1)) aE,ai 52 (decide ((1:Int)<1)) aE,.g (Kj g.kind g.a g.b g.n g.cn g.cd g.kind g.a vu g.n vu vu:pB prog .eql 107 (EN o) (.agg [iP o.kind,iP o.a,iP 0,iP o.n,iP 0,iP 0]) (.bool (decide (o.kind=o.kind/\o.a=o.a/\o.b=0/\o.n=o.n/\o.cn=0/\o.cd=0))))]<|.w (o.kind=o.kind/\o.a=o.a/\o.b=0/\o.n=o.n/\o.cn=0/\o.cd=0)
        (λk7=>ae [tB 58 (a7 k7),ai 61 ((1:Int)==0) aE]<|.w (0<=o.a)
         (λk8=>ae [tB 65 (a7 k8)]<|.w (o.a<m)
          (λk9=>ae [tB 70 (a7 k9)]<|.w (0<=o.b)
           (λk10=>ae [tB 75 (a7 k10)]<|rQ (bP (decide (o.b<m))) (bP (kn o m)) mX)
           (λk10=>ae [tB 75 (bc k10)]<|rQ (bP false) (bP (kn o m)) mX))
          (λk9=>ae [tB 70 (bc k9)]<|rQ (bP false) (bP (kn o m)) mX))
         (λk8=>ae [tB 65 (bc k8)]<|rQ (bP false) (bP (kn o m)) mX))
        (λk7=>ae [tB 58 (bc k7)]<|rQ (bP false) (bP (kn o m)) mX))))
     (λk4=>ae [tB 34 (aU k4)]<|rQ (bP false) (bP (kn o m)) mX))))) 
def Wt(L:List Nat):((L.length:Int)=0)↔L=[]:=by rw[<-gQ];omega
def zB(d:RD):Bool:=!d.neg&&decide (d.L=[])&&(d.e==0)
def Ib{d:RD}:zB d=true↔d.Zero:=by simp[zB,RD.Zero,and_assoc]
def G6(d:RD):gW 165 [kX d] (bP (zB d)):=
 ak call165 func165 (.w (d.neg=true)
  (λk1=>ae [tB 4 k1]<|rQ (bP false) (bP (zB d)) (by simp[zB,k1]))
  (λk1=>ae [tB 4 (aW k1)]<|.w ((d.L.length:Int)=0)
   (λk2=>ae [tB 10 (aV k2)]<|rQ (bP (d.e==0)) (bP (zB d)) (by simp[zB,k1,show d.L=[]from(Wt _).1 k2]))
   (λk2=>ae [tB 10 (aU k2)]<|rQ (bP false) (bP (zB d)) (by simp[zB,k1,show ¬d.L=[]from λq=>k2 ((Wt _).2 q)])))) 
def Ag(x:RI)(g:x.jE):gW 90 [vt x] (bP (nL x)):=by
 have ga:=g.lo;have gb:=g.hi;by_cases ha:x.all=true
 .have nb:∀ q:x.all=false,False:=λq=>by rw[ha]at q;cases q
  by_cases h1:x.lo.Zero
  .by_cases h2:x.hi.Zero
   .rw [s7.2 (.inl ⟨ha,h1,h2⟩)];exact ak call90 func90 (af [ah 4 x.all ha,.c (G6 x.lo),ah 7 (zB x.lo) (Ib.2 h1),.c (G6 x.hi),ah 11 (zB x.hi) (Ib.2 h2)]) 
   .have e:nL x=false:=by simpa using λq=>(s7.1 q).elim (λq=>h2 q.2.2) λq=>nb q.1
    rw[e];exact ak call90 func90 (af [ah 4 x.all ha,.c (G6 x.lo),ah 7 (zB x.lo) (Ib.2 h1),.c (G6 x.hi),ai 11 (zB x.hi) (aW λq=>h2 (Ib.1 q))]) 
  .have e:nL x=false:=by simpa using λq=>(s7.1 q).elim (λq=>h1 q.2.1) λq=>nb q.1
   rw[e];exact ak call90 func90 (af [ah 4 x.all ha,.c (G6 x.lo),ai 7 (zB x.lo) (aW λq=>h1 (Ib.1 q))]) 
 .replace ha:x.all=false:=by simpa using ha
  by_cases h1:x.lo.Ok
  .by_cases h2:x.hi.Ok
   .have v1:=h1.valid;have v2:=h2.valid;have e1:vt x=ik x.iv:=by rw[<-Gv,show x.iv.raw=x by show RI.mk x.lo.dy.raw x.hi.dy.raw x.all=x;rw[h1.eq ga,h2.eq gb]]
    rw[e1];by_cases h3:jj x.lo.dy x.hi.dy<=0
    .rw [s7.2 (.inr ⟨ha,h1,h2,h3⟩)];exact ak call90 func90 (af [ai 4 x.iv.all ha,ag [ie x.iv.lo] (BB _ aD),ag [ie x.iv.hi] (BB _ aD),.c (XO x.iv.lo x.iv.hi v1.Ev v2.Ev),tB 27 (a7 h3)]) 
    .have e:nL x=false:=by simpa using λq=>(s7.1 q).elim (λq=>by rw[ha]at q;exact Bool.noConfusion q.1) λq=>h3 q.2.2.2
     rw[e];exact ak call90 func90 (af [ai 4 x.iv.all ha,ag [ie x.iv.lo] (BB _ aD),ag [ie x.iv.hi] (BB _ aD),.c (XO x.iv.lo x.iv.hi v1.Ev v2.Ev),tB 27 (bc h3)]) 
   .have e:nL x=false:=by simpa using λq=>(s7.1 q).elim (λq=>by rw[ha]at q;exact Bool.noConfusion q.1) λq=>h2 q.2.2.1
    rw[e];exact ak call90 func90 (af [ai 4 x.all ha,ag [kX x.lo] (G8 _ aD _ wF),ah 15 (BD x.lo) (wF.2 h1),ag [kX x.hi] (G8 _ aD _ wF),ai 19 (BD x.hi) (aW λq=>h2 (wF.1 q))]) 
  .have e:nL x=false:=by simpa using λq=>(s7.1 q).elim (λq=>by rw[ha]at q;exact Bool.noConfusion q.1) λq=>h1 q.2.1
   rw[e];exact ak call90 func90 (af [ai 4 x.all ha,ag [kX x.lo] (G8 _ aD _ wF),ai 15 (BD x.lo) (aW λq=>h1 (wF.1 q))]) 
def ajc(s:jU)(g:s.jE)(sm:s.oZ)(hc:¬(0<=s.im/\s.im<=8/\s.gZ.length<=200/\s.iu.length<=200/\1<=s.iy/\s.iy<=4/\(s.iu.length:Int)=s.iy/\s.params.length<=4/\s.im=s.iy+(s.params.length:Int))):gW 77 [lr s] (bP false):=by
 have sp:=sm.params;have sq:=sm.gZ;exact ak call77 func77 (.w (s.im<0)
  (λk1=>af [tB 11 (a7 k1)])
  (λk1=>ae [tB 11 (bc k1)]<|.w (8<s.im)
   (λk2=>af [tB 15 (a7 k2)])
   (λk2=>ae [tB 15 (bc k2)]<|.w (200<(s.gZ.length:Int))
    (λk3=>af [tB 21 (a7 k3)])
    (λk3=>ae [tB 21 (bc k3)]<|.w (200<(s.iu.length:Int))
     (λk4=>af [tB 27 (a7 k4)])
     (λk4=>ae [tB 27 (bc k4)]<|.w (s.iy<1)
      (λk5=>af [tB 32 (a7 k5)])
      (λk5=>ae [tB 32 (bc k5)]<|.w (4<s.iy)
       (λk6=>af [tB 37 (a7 k6)])
       (λk6=>ae [tB 37 (bc k6)]<|.w ((s.iu.length:Int)=s.iy)
        (λk7=>ae [tB 45 (aX k7)]<|.w (4<(s.params.length:Int))
         (λk8=>af [tB 51 (a7 k8)])
         (λk8=>ae [tB 51 (bc k8),iz (s.iy+(s.params.length:Int)) aC]<|.w (s.im=(s.iy+(s.params.length:Int)))
          (λk9=>.x (by exact absurd ⟨aC,aC,aC,aC,aC,aC,aC,aC,aC⟩ hc))
          (λk9=>af [tB 62 (aY k9)])))
        (λk7=>af [tB 45 (aY k7)])))))))) 
def ajd(s:jU)(g:s.jE)(sm:s.oZ)(i0:0<=s.im)(i8:s.im<=8)(l1:s.gZ.length<=200)(l2:s.iu.length<=200)(s1:1<=s.iy)(s4:s.iy<=4)(e1:(s.iu.length:Int)=s.iy)(e2:s.im=s.iy+(s.params.length:Int))(p4:s.params.length<=4)(N:Nat)(mQ:N<s.gZ.length)(je:∀ k,k<N->(kn (s.gZ.getD k lI) (s.im+(k:Int)))=true)(hN:(kn (s.gZ.getD N lI) (s.im+(N:Int)))=false):gW 77 [lr s] (bP false):=by
 have sp:=sm.params;have sq:=sm.gZ;exact ak call77 func77 (af [tF 11 (s.im<0) aC,tF 15 (8<s.im) aC,tF 21 (200<(s.gZ.length:Int)) aC,tF 27 (200<(s.iu.length:Int)) aC,tF 32 (s.iy<1) aC,tF 37 (4<s.iy) aC,ai 45 ((s.iu.length:Int) != s.iy) (by simp[e1]),tF 51 (4<(s.params.length:Int)) aC,iz (s.iy+(s.params.length:Int)) aC,ai 62 (s.im != (s.iy+(s.params.length:Int))) (by simp[e2]),.s (Sp.jC (XE s N) 0 N aC (λx hx k0=>by
    have pG:=g.gZ x;exact iF (af [tT 68 ((x:Int)<s.gZ.length) aC,iX (x:Int) (s.gZ.length) aC,iz (s.im+(x:Int)) aC,.c (C4 (s.gZ.getD x lI) (s.im+(x:Int)) pG),ai 81 (!(kn (s.gZ.getD x lI) (s.im+(x:Int)))) (by rw[je x aC];rfl),iz ((x:Int)+1) aC]) aF)
  (λhx=>by
    have pG:=g.gZ N;exact iF (af [tT 68 ((N:Int)<s.gZ.length) aC,iX (N:Int) (s.gZ.length) aC,iz (s.im+(N:Int)) aC,.c (C4 (s.gZ.getD N lI) (s.im+(N:Int)) pG),ah 81 (!(kn (s.gZ.getD N lI) (s.im+(N:Int)))) (by rw[hN];rfl)]) aF) aI:jA 5 Tryz.f77 (XE s N 0) .ret ⟨131,true,[(2,.e (bP false))],[]⟩) .nil]) 
def aje(s:jU)(g:s.jE)(sm:s.oZ)(i0:0<=s.im)(i8:s.im<=8)(l1:s.gZ.length<=200)(l2:s.iu.length<=200)(s1:1<=s.iy)(s4:s.iy<=4)(e1:(s.iu.length:Int)=s.iy)(e2:s.im=s.iy+(s.params.length:Int))(p4:s.params.length<=4)(je:∀ k,k<s.gZ.length->(kn (s.gZ.getD k lI) (s.im+(k:Int)))=true)(N:Nat)(mQ:N<s.iu.length)(qA:∀ k,k<N->0<=(s.iu.getD k 0)/\(s.iu.getD k 0)<s.im+(s.gZ.length:Int))(hN:(s.iu.getD N 0)<0):gW 77 [lr s] (bP false):=by
 have sp:=sm.params;have sq:=sm.gZ;exact ak call77 func77 (af [tF 11 (s.im<0) aC,tF 15 (8<s.im) aC,tF 21 (200<(s.gZ.length:Int)) aC,tF 27 (200<(s.iu.length:Int)) aC,tF 32 (s.iy<1) aC,tF 37 (4<s.iy) aC,ai 45 ((s.iu.length:Int) != s.iy) (by simp[e1]),tF 51 (4<(s.params.length:Int)) aC,iz (s.iy+(s.params.length:Int)) aC,ai 62 (s.im != (s.iy+(s.params.length:Int))) (by simp[e2]),.s (Sp.jC (Xz s) 0 s.gZ.length aC (λx hx k0=>by
    have pG:=g.gZ x;exact iF (af [tT 68 ((x:Int)<s.gZ.length) aC,iX (x:Int) (s.gZ.length) aC,iz (s.im+(x:Int)) aC,.c (C4 (s.gZ.getD x lI) (s.im+(x:Int)) pG),ai 81 (!(kn (s.gZ.getD x lI) (s.im+(x:Int)))) (by rw[je x aC];rfl),iz ((x:Int)+1) aC]) aF)
  (λhx=>by
    exact iF (af [tF 68 ((s.gZ.length:Int)<s.gZ.length) aC]) aF) aI:jA 5 Tryz.f77 (Xz s 0) (.exit 0) ⟨131,true,[(3,.box 3 0),(1,.box 1 0)],[(3,.cells 25 [iP s.im,ky s.gZ,kD s.iu]),(1,.cells 28 [iP s.im,ky s.gZ,kD s.iu,iP s.iy,jz s.params])]⟩) .nil,.s (Sp.jC (XF s N) 0 N aC (λx hx k0=>by
    have JI:=qA x aC;exact iF (af [tT 86 ((x:Int)<s.iu.length) aC,iX (x:Int) (s.iu.length) aC,tF 94 ((s.iu.getD x 0)<0) aC,iX (x:Int) (s.iu.length) aC,
     iz (s.im+(s.gZ.length:Int)) aC,tF 107 ((s.im+(s.gZ.length:Int))<=(s.iu.getD x 0)) aC,iz ((x:Int)+1) aC]) aF)
  (λhx=>by
    exact iF (af [tT 86 ((N:Int)<s.iu.length) aC,iX (N:Int) (s.iu.length) aC,tB 94 (a7 hN)]) aF) aI:jA 10 Tryz.f77 (XF s N 0) .ret ⟨131,true,[(2,.e (bP false))],[]⟩) .nil]) 
def ajf(s:jU)(g:s.jE)(sm:s.oZ)(i0:0<=s.im)(i8:s.im<=8)(l1:s.gZ.length<=200)(l2:s.iu.length<=200)(s1:1<=s.iy)(s4:s.iy<=4)(e1:(s.iu.length:Int)=s.iy)(e2:s.im=s.iy+(s.params.length:Int))(p4:s.params.length<=4)(je:∀ k,k<s.gZ.length->(kn (s.gZ.getD k lI) (s.im+(k:Int)))=true)(N:Nat)(mQ:N<s.iu.length)(qA:∀ k,k<N->0<=(s.iu.getD k 0)/\(s.iu.getD k 0)<s.im+(s.gZ.length:Int))(hN:0<=(s.iu.getD N 0))(hM:s.im+(s.gZ.length:Int)<=(s.iu.getD N 0)):gW 77 [lr s] (bP false):=by
 have sp:=sm.params;have sq:=sm.gZ;exact ak call77 func77 (af [tF 11 (s.im<0) aC,tF 15 (8<s.im) aC,tF 21 (200<(s.gZ.length:Int)) aC,tF 27 (200<(s.iu.length:Int)) aC,tF 32 (s.iy<1) aC,tF 37 (4<s.iy) aC,ai 45 ((s.iu.length:Int) != s.iy) (by simp[e1]),tF 51 (4<(s.params.length:Int)) aC,iz (s.iy+(s.params.length:Int)) aC,ai 62 (s.im != (s.iy+(s.params.length:Int))) (by simp[e2]),.s (Sp.jC (XA s) 0 s.gZ.length aC (λx hx k0=>by
    have pG:=g.gZ x;exact iF (af [tT 68 ((x:Int)<s.gZ.length) aC,iX (x:Int) (s.gZ.length) aC,iz (s.im+(x:Int)) aC,.c (C4 (s.gZ.getD x lI) (s.im+(x:Int)) pG),ai 81 (!(kn (s.gZ.getD x lI) (s.im+(x:Int)))) (by rw[je x aC];rfl),iz ((x:Int)+1) aC]) aF)
  (λhx=>by
    exact iF (af [tF 68 ((s.gZ.length:Int)<s.gZ.length) aC]) aF) aI:jA 5 Tryz.f77 (XA s 0) (.exit 0) ⟨131,true,[(3,.box 3 0),(1,.box 1 0)],[(3,.cells 25 [iP s.im,ky s.gZ,kD s.iu]),(1,.cells 28 [iP s.im,ky s.gZ,kD s.iu,iP s.iy,jz s.params])]⟩) .nil,.s (Sp.jC (XG s N) 0 N aC (λx hx k0=>by
    have JI:=qA x aC;exact iF (af [tT 86 ((x:Int)<s.iu.length) aC,iX (x:Int) (s.iu.length) aC,tF 94 ((s.iu.getD x 0)<0) aC,iX (x:Int) (s.iu.length) aC,
     iz (s.im+(s.gZ.length:Int)) aC,tF 107 ((s.im+(s.gZ.length:Int))<=(s.iu.getD x 0)) aC,iz ((x:Int)+1) aC]) aF)
  (λhx=>by
    exact iF (af [tT 86 ((N:Int)<s.iu.length) aC,iX (N:Int) (s.iu.length) aC,tF 94 ((s.iu.getD N 0)<0) aC,iX (N:Int) (s.iu.length) aC,
    iz (s.im+(s.gZ.length:Int)) aC,tB 107 (a7 hM)]) aF) aI:jA 10 Tryz.f77 (XG s N 0) .ret ⟨131,true,[(2,.e (bP false))],[]⟩) .nil]) 
def ajg(s:jU)(g:s.jE)(sm:s.oZ)(i0:0<=s.im)(i8:s.im<=8)(l1:s.gZ.length<=200)(l2:s.iu.length<=200)(s1:1<=s.iy)(s4:s.iy<=4)(e1:(s.iu.length:Int)=s.iy)(e2:s.im=s.iy+(s.params.length:Int))(p4:s.params.length<=4)(je:∀ k,k<s.gZ.length->(kn (s.gZ.getD k lI) (s.im+(k:Int)))=true)(qA:∀ k,k<s.iu.length->0<=(s.iu.getD k 0)/\(s.iu.getD k 0)<s.im+(s.gZ.length:Int))(N:Nat)(mQ:N<s.params.length)(qB:∀ k,k<N->nL (s.params.getD k jF)=true/\(s.params.getD k jF).all=false)(hN:(s.params.getD N jF).all=true):gW 77 [lr s] (bP false):=by
 have sp:=sm.params;have sq:=sm.gZ;exact ak call77 func77 (af [tF 11 (s.im<0) aC,tF 15 (8<s.im) aC,tF 21 (200<(s.gZ.length:Int)) aC,tF 27 (200<(s.iu.length:Int)) aC,tF 32 (s.iy<1) aC,tF 37 (4<s.iy) aC,ai 45 ((s.iu.length:Int) != s.iy) (by simp[e1]),tF 51 (4<(s.params.length:Int)) aC,iz (s.iy+(s.params.length:Int)) aC,ai 62 (s.im != (s.iy+(s.params.length:Int))) (by simp[e2]),.s (Sp.jC (XB s) 0 s.gZ.length aC (λx hx k0=>by
    have pG:=g.gZ x;exact iF (af [tT 68 ((x:Int)<s.gZ.length) aC,iX (x:Int) (s.gZ.length) aC,iz (s.im+(x:Int)) aC,.c (C4 (s.gZ.getD x lI) (s.im+(x:Int)) pG),ai 81 (!(kn (s.gZ.getD x lI) (s.im+(x:Int)))) (by rw[je x aC];rfl),iz ((x:Int)+1) aC]) aF)
  (λhx=>by
    exact iF (af [tF 68 ((s.gZ.length:Int)<s.gZ.length) aC]) aF) aI:jA 5 Tryz.f77 (XB s 0) (.exit 0) ⟨131,true,[(3,.box 3 0),(1,.box 1 0)],[(3,.cells 25 [iP s.im,ky s.gZ,kD s.iu]),(1,.cells 28 [iP s.im,ky s.gZ,kD s.iu,iP s.iy,jz s.params])]⟩) .nil,.s (Sp.jC (XH s) 0 s.iu.length aC (λx hx k0=>by
    have JI:=qA x aC;exact iF (af [tT 86 ((x:Int)<s.iu.length) aC,iX (x:Int) (s.iu.length) aC,tF 94 ((s.iu.getD x 0)<0) aC,iX (x:Int) (s.iu.length) aC,
     iz (s.im+(s.gZ.length:Int)) aC,tF 107 ((s.im+(s.gZ.length:Int))<=(s.iu.getD x 0)) aC,iz ((x:Int)+1) aC]) aF)
  (λhx=>by
    exact iF (af [tF 86 ((s.iu.length:Int)<s.iu.length) aC]) aF) aI:jA 10 Tryz.f77 (XH s 0) (.exit 2) ⟨131,true,[(1,.box 1 0)],[(1,.cells 28 [iP s.im,ky s.gZ,kD s.iu,iP s.iy,jz s.params])]⟩) .nil,.s (Sp.jC (XI s N) 0 N aC (λx hx k0=>by
    have ze:=g.params x;exact iF (af [tT 113 ((x:Int)<s.params.length) aC,iX (x:Int) (s.params.length) aC,ai 121 ((s.params.getD x jF).all) ((qB x aC).2),
     iX (x:Int) (s.params.length) aC,.c (Ag (s.params.getD x jF) aD),ai 129 (!(nL (s.params.getD x jF))) (by rw[(qB x aC).1];rfl),iz ((x:Int)+1) aC]) aF)
  (λhx=>by
    have ze:=g.params N;exact iF (af [tT 113 ((N:Int)<s.params.length) aC,iX (N:Int) (s.params.length) aC,ah 121 ((s.params.getD N jF).all) hN]) aF) aI:jA 15 Tryz.f77 (XI s N 0) .ret ⟨131,true,[(2,.e (bP false))],[]⟩) .nil]) 
def ajh(s:jU)(g:s.jE)(sm:s.oZ)(i0:0<=s.im)(i8:s.im<=8)(l1:s.gZ.length<=200)(l2:s.iu.length<=200)(s1:1<=s.iy)(s4:s.iy<=4)(e1:(s.iu.length:Int)=s.iy)(e2:s.im=s.iy+(s.params.length:Int))(p4:s.params.length<=4)(je:∀ k,k<s.gZ.length->(kn (s.gZ.getD k lI) (s.im+(k:Int)))=true)(qA:∀ k,k<s.iu.length->0<=(s.iu.getD k 0)/\(s.iu.getD k 0)<s.im+(s.gZ.length:Int))(N:Nat)(mQ:N<s.params.length)(qB:∀ k,k<N->nL (s.params.getD k jF)=true/\(s.params.getD k jF).all=false)(hN:(s.params.getD N jF).all=false)(hM:nL (s.params.getD N jF)=false):gW 77 [lr s] (bP false):=by
 have sp:=sm.params;have sq:=sm.gZ;exact ak call77 func77 (af [tF 11 (s.im<0) aC,tF 15 (8<s.im) aC,tF 21 (200<(s.gZ.length:Int)) aC,tF 27 (200<(s.iu.length:Int)) aC,tF 32 (s.iy<1) aC,tF 37 (4<s.iy) aC,ai 45 ((s.iu.length:Int) != s.iy) (by simp[e1]),tF 51 (4<(s.params.length:Int)) aC,iz (s.iy+(s.params.length:Int)) aC,ai 62 (s.im != (s.iy+(s.params.length:Int))) (by simp[e2]),.s (Sp.jC (XC s) 0 s.gZ.length aC (λx hx k0=>by
    have pG:=g.gZ x;exact iF (af [tT 68 ((x:Int)<s.gZ.length) aC,iX (x:Int) (s.gZ.length) aC,iz (s.im+(x:Int)) aC,.c (C4 (s.gZ.getD x lI) (s.im+(x:Int)) pG),ai 81 (!(kn (s.gZ.getD x lI) (s.im+(x:Int)))) (by rw[je x aC];rfl),iz ((x:Int)+1) aC]) aF)
  (λhx=>by
    exact iF (af [tF 68 ((s.gZ.length:Int)<s.gZ.length) aC]) aF) aI:jA 5 Tryz.f77 (XC s 0) (.exit 0) ⟨131,true,[(3,.box 3 0),(1,.box 1 0)],[(3,.cells 25 [iP s.im,ky s.gZ,kD s.iu]),(1,.cells 28 [iP s.im,ky s.gZ,kD s.iu,iP s.iy,jz s.params])]⟩) .nil,.s (Sp.jC (XJ s) 0 s.iu.length aC (λx hx k0=>by
    have JI:=qA x aC;exact iF (af [tT 86 ((x:Int)<s.iu.length) aC,iX (x:Int) (s.iu.length) aC,tF 94 ((s.iu.getD x 0)<0) aC,iX (x:Int) (s.iu.length) aC,
     iz (s.im+(s.gZ.length:Int)) aC,tF 107 ((s.im+(s.gZ.length:Int))<=(s.iu.getD x 0)) aC,iz ((x:Int)+1) aC]) aF)
  (λhx=>by
    exact iF (af [tF 86 ((s.iu.length:Int)<s.iu.length) aC]) aF) aI:jA 10 Tryz.f77 (XJ s 0) (.exit 2) ⟨131,true,[(1,.box 1 0)],[(1,.cells 28 [iP s.im,ky s.gZ,kD s.iu,iP s.iy,jz s.params])]⟩) .nil,.s (Sp.jC (XK s N) 0 N aC (λx hx k0=>by
    have ze:=g.params x;exact iF (af [tT 113 ((x:Int)<s.params.length) aC,iX (x:Int) (s.params.length) aC,ai 121 ((s.params.getD x jF).all) ((qB x aC).2),
     iX (x:Int) (s.params.length) aC,.c (Ag (s.params.getD x jF) aD),ai 129 (!(nL (s.params.getD x jF))) (by rw[(qB x aC).1];rfl),iz ((x:Int)+1) aC]) aF)
  (λhx=>by
    have ze:=g.params N;exact iF (af [tT 113 ((N:Int)<s.params.length) aC,iX (N:Int) (s.params.length) aC,ai 121 ((s.params.getD N jF).all) hN,iX (N:Int) (s.params.length) aC,.c (Ag (s.params.getD N jF) aD),ah 129 (!(nL (s.params.getD N jF))) (by rw[hM];rfl)]) aF) aI:jA 15 Tryz.f77 (XK s N 0) .ret ⟨131,true,[(2,.e (bP false))],[]⟩) .nil]) 
def aji(s:jU)(g:s.jE)(sm:s.oZ)(i0:0<=s.im)(i8:s.im<=8)(l1:s.gZ.length<=200)(l2:s.iu.length<=200)(s1:1<=s.iy)(s4:s.iy<=4)(e1:(s.iu.length:Int)=s.iy)(e2:s.im=s.iy+(s.params.length:Int))(p4:s.params.length<=4)(je:∀ k,k<s.gZ.length->(kn (s.gZ.getD k lI) (s.im+(k:Int)))=true)(qA:∀ k,k<s.iu.length->0<=(s.iu.getD k 0)/\(s.iu.getD k 0)<s.im+(s.gZ.length:Int))(qB:∀ k,k<s.params.length->nL (s.params.getD k jF)=true/\(s.params.getD k jF).all=false):gW 77 [lr s] (bP true):=by
 have sp:=sm.params;have sq:=sm.gZ;exact ak call77 func77 (af [tF 11 (s.im<0) aC,tF 15 (8<s.im) aC,tF 21 (200<(s.gZ.length:Int)) aC,tF 27 (200<(s.iu.length:Int)) aC,tF 32 (s.iy<1) aC,tF 37 (4<s.iy) aC,ai 45 ((s.iu.length:Int) != s.iy) (by simp[e1]),tF 51 (4<(s.params.length:Int)) aC,iz (s.iy+(s.params.length:Int)) aC,ai 62 (s.im != (s.iy+(s.params.length:Int))) (by simp[e2]),.s (Sp.jC (XD s) 0 s.gZ.length aC (λx hx k0=>by
    have pG:=g.gZ x;exact iF (af [tT 68 ((x:Int)<s.gZ.length) aC,iX (x:Int) (s.gZ.length) aC,iz (s.im+(x:Int)) aC,.c (C4 (s.gZ.getD x lI) (s.im+(x:Int)) pG),ai 81 (!(kn (s.gZ.getD x lI) (s.im+(x:Int)))) (by rw[je x aC];rfl),iz ((x:Int)+1) aC]) aF)
  (λhx=>by
    exact iF (af [tF 68 ((s.gZ.length:Int)<s.gZ.length) aC]) aF) aI:jA 5 Tryz.f77 (XD s 0) (.exit 0) ⟨131,true,[(3,.box 3 0),(1,.box 1 0)],[(3,.cells 25 [iP s.im,ky s.gZ,kD s.iu]),(1,.cells 28 [iP s.im,ky s.gZ,kD s.iu,iP s.iy,jz s.params])]⟩) .nil,.s (Sp.jC (XL s) 0 s.iu.length aC (λx hx k0=>by
    have JI:=qA x aC;exact iF (af [tT 86 ((x:Int)<s.iu.length) aC,iX (x:Int) (s.iu.length) aC,tF 94 ((s.iu.getD x 0)<0) aC,iX (x:Int) (s.iu.length) aC,
     iz (s.im+(s.gZ.length:Int)) aC,tF 107 ((s.im+(s.gZ.length:Int))<=(s.iu.getD x 0)) aC,iz ((x:Int)+1) aC]) aF)
  (λhx=>by
    exact iF (af [tF 86 ((s.iu.length:Int)<s.iu.length) aC]) aF) aI:jA 10 Tryz.f77 (XL s 0) (.exit 2) ⟨131,true,[(1,.box 1 0)],[(1,.cells 28 [iP s.im,ky s.gZ,kD s.iu,iP s.iy,jz s.params])]⟩) .nil,.s (Sp.jC (XM s) 0 s.params.length aC (λx hx k0=>by
    have ze:=g.params x;exact iF (af [tT 113 ((x:Int)<s.params.length) aC,iX (x:Int) (s.params.length) aC,ai 121 ((s.params.getD x jF).all) ((qB x aC).2),
     iX (x:Int) (s.params.length) aC,.c (Ag (s.params.getD x jF) aD),ai 129 (!(nL (s.params.getD x jF))) (by rw[(qB x aC).1];rfl),iz ((x:Int)+1) aC]) aF)
  (λhx=>by
    exact iF (af [tF 113 ((s.params.length:Int)<s.params.length) aC]) aF) aI:jA 15 Tryz.f77 (XM s 0) (.exit 4) ⟨131,true,[],[]⟩) .nil]) 
def Af(s:jU)(g:s.jE)(sm:s.oZ):gW 77 [lr s] (bP (lY s)):=by
 by_cases hc:0<=s.im/\s.im<=8/\s.gZ.length<=200/\s.iu.length<=200/\1<=s.iy/\s.iy<=4/\(s.iu.length:Int)=s.iy/\s.params.length<=4/\s.im=s.iy+(s.params.length:Int)
 rotate_left
 .rw [show lY s=false from akE hc];exact ajc s g sm hc
 obtain⟨i0,i8,l1,l2,s1,s4,e1,p4,e2⟩:=hc;by_cases c2:Pc s=true
 rotate_left
 .rw [show lY s=false by unfold lY;rw[aW c2];simp];obtain⟨N,n1,n2,n3⟩:=Ff c2;exact ajd s g sm i0 i8 l1 l2 s1 s4 e1 e2 p4 N n1 (λk hk=>by simpa using n3 k hk) (by simpa using n2)
 have je:∀ k,k<s.gZ.length->kn (s.gZ.getD k lI) (s.im+(k:Int))=true:=λk hk=>bM.1 c2 k (bS.2 hk)
 by_cases c3:yC s=true
 rotate_left
 .rw [show lY s=false by unfold lY;rw[aW c3];simp];obtain⟨N,n1,n2,n3⟩:=Ff c3;have qA:∀ k,k<N->0<=s.iu.getD k 0/\s.iu.getD k 0<s.im+(s.gZ.length:Int):=λk hk=>by simpa[yy]using n3 k hk
  have hN:¬(0<=s.iu.getD N 0/\s.iu.getD N 0<s.im+(s.gZ.length:Int)):=λq=>by
   rw[show yy s (s.iu.getD N 0)=true from a7 q]at n2;cases n2
  by_cases h0:s.iu.getD N 0<0
  .exact aje s g sm i0 i8 l1 l2 s1 s4 e1 e2 p4 je N n1 qA h0
  .exact ajf s g sm i0 i8 l1 l2 s1 s4 e1 e2 p4 je N n1 qA aC aC 
 have qA:∀ k,k<s.iu.length->0<=s.iu.getD k 0/\s.iu.getD k 0<s.im+(s.gZ.length:Int):=λk hk=>by simpa[yy]using List.all_eq_true.1 c3 k (bS.2 hk)
 by_cases c4:EP s=true
 .rw [show lY s=true by unfold lY;rw[a7 (⟨i0,i8,l1,l2⟩:_/\_),c2,c3,a7 (⟨s1,s4,e1,e2,p4⟩:_/\_),c4];rfl];exact aji s g sm i0 i8 l1 l2 s1 s4 e1 e2 p4 je qA λk hk=>by simpa[nW]using List.all_eq_true.1 c4 k (bS.2 hk)
 .rw [show lY s=false by unfold lY;rw[aW c4];simp];obtain⟨N,n1,n2,n3⟩:=Ff c4;have qB:∀ k,k<N->nL (s.params.getD k jF)=true/\(s.params.getD k jF).all=false:=λk hk=>by simpa[nW]using n3 k hk
  cases ha:(s.params.getD N jF).all with
  |true=>exact ajg s g sm i0 i8 l1 l2 s1 s4 e1 e2 p4 je qA N n1 qB ha
  |false=>exact ajh s g sm i0 i8 l1 l2 s1 s4 e1 e2 p4 je qA N n1 qB ha (by
   cases hk:nL (s.params.getD N jF)with
   |false=>rfl
   |true=>rw[show nW (s.params.getD N jF)=true by unfold nW;rw[hk,ha];rfl]at n2;cases n2)
def ajj(s:jU)(g:s.jE)(sm:s.oZ)(b:List RI)(gb:∀ i,(b.getD i jF).jE)(oF:b.length<=1000)(hs:lY s=false):gW 89 [lr s,jz b] (bP false):=
 ak call89 func89 (af [ag [lr s] (Af _ g sm),ah 8 (!(lY s)) (by rw[hs];rfl)]) 
def ajk(s:jU)(g:s.jE)(sm:s.oZ)(b:List RI)(gb:∀ i,(b.getD i jF).jE)(oF:b.length<=1000)(hs:lY s=true)(hl:¬(b.length:Int)=s.iy):gW 89 [lr s,jz b] (bP false):=
 ak call89 func89 (af [ag [lr s] (Af _ g sm),ai 8 (!(lY s)) (by rw[hs];rfl),ah 14 ((b.length:Int) != s.iy) (by simpa using hl)]) 
def ajl(s:jU)(g:s.jE)(sm:s.oZ)(b:List RI)(gb:∀ i,(b.getD i jF).jE)(oF:b.length<=1000)(hs:lY s=true)(hl:(b.length:Int)=s.iy)(N:Nat)(mQ:N<b.length)(qB:∀ k,k<N->nL (b.getD k jF)=true/\(b.getD k jF).all=false)(hN:(b.getD N jF).all=true):gW 89 [lr s,jz b] (bP false):=
 ak call89 func89 (af [ag [lr s] (Af _ g sm),ai 8 (!(lY s)) (by rw[hs];rfl),ai 14 ((b.length:Int) != s.iy) (by simp[hl]),.s (Sp.jC (Xi s b N) 0 N aC (λx hx k0=>by
    have ze:=gb x;exact iF (af [tT 19 ((x:Int)<b.length) aC,iX (x:Int) (b.length) aC,ai 26 ((b.getD x jF).all) ((qB x aC).2),iX (x:Int) (b.length) aC,.c (Ag (b.getD x jF) aD),ai 33 (!(nL (b.getD x jF))) (by rw[(qB x aC).1];rfl),iz ((x:Int)+1) aC]) aF)
  (λhx=>by
    have ze:=gb N;exact iF (af [tT 19 ((N:Int)<b.length) aC,iX (N:Int) (b.length) aC,ah 26 ((b.getD N jF).all) hN]) aF) aI:jA 4 Tryz.f89 (Xi s b N 0) .ret ⟨35,true,[(4,.e (bP false))],[]⟩) .nil]) 
def ajm(s:jU)(g:s.jE)(sm:s.oZ)(b:List RI)(gb:∀ i,(b.getD i jF).jE)(oF:b.length<=1000)(hs:lY s=true)(hl:(b.length:Int)=s.iy)(N:Nat)(mQ:N<b.length)(qB:∀ k,k<N->nL (b.getD k jF)=true/\(b.getD k jF).all=false)(hN:(b.getD N jF).all=false)(hM:nL (b.getD N jF)=false):gW 89 [lr s,jz b] (bP false):=
 ak call89 func89 (af [ag [lr s] (Af _ g sm),ai 8 (!(lY s)) (by rw[hs];rfl),ai 14 ((b.length:Int) != s.iy) (by simp[hl]),.s (Sp.jC (Xj s b N) 0 N aC (λx hx k0=>by
    have ze:=gb x;exact iF (af [tT 19 ((x:Int)<b.length) aC,iX (x:Int) (b.length) aC,ai 26 ((b.getD x jF).all) ((qB x aC).2),iX (x:Int) (b.length) aC,.c (Ag (b.getD x jF) aD),ai 33 (!(nL (b.getD x jF))) (by rw[(qB x aC).1];rfl),iz ((x:Int)+1) aC]) aF)
  (λhx=>by
    have ze:=gb N;exact iF (af [tT 19 ((N:Int)<b.length) aC,iX (N:Int) (b.length) aC,ai 26 ((b.getD N jF).all) hN,iX (N:Int) (b.length) aC,.c (Ag (b.getD N jF) aD),ah 33 (!(nL (b.getD N jF))) (by rw[hM];rfl)]) aF) aI:jA 4 Tryz.f89 (Xj s b N 0) .ret ⟨35,true,[(4,.e (bP false))],[]⟩) .nil]) 
def ajn(s:jU)(g:s.jE)(sm:s.oZ)(b:List RI)(gb:∀ i,(b.getD i jF).jE)(oF:b.length<=1000)(hs:lY s=true)(hl:(b.length:Int)=s.iy)(qB:∀ k,k<b.length->nL (b.getD k jF)=true/\(b.getD k jF).all=false):gW 89 [lr s,jz b] (bP true):=
 ak call89 func89 (af [ag [lr s] (Af _ g sm),ai 8 (!(lY s)) (by rw[hs];rfl),ai 14 ((b.length:Int) != s.iy) (by simp[hl]),.s (Sp.jC (Xk s b) 0 b.length aC (λx hx k0=>by
    have ze:=gb x;exact iF (af [tT 19 ((x:Int)<b.length) aC,iX (x:Int) (b.length) aC,ai 26 ((b.getD x jF).all) ((qB x aC).2),iX (x:Int) (b.length) aC,.c (Ag (b.getD x jF) aD),ai 33 (!(nL (b.getD x jF))) (by rw[(qB x aC).1];rfl),iz ((x:Int)+1) aC]) aF)
  (λhx=>by
    exact iF (af [tF 19 ((b.length:Int)<b.length) aC]) aF) aI:jA 4 Tryz.f89 (Xk s b 0) (.exit 0) ⟨35,true,[],[]⟩) .nil]) 
noncomputable def vL(s:jU)(b:List RI):Bool:=lY s&&AD s.iy b
def OR(s:jU)(g:s.jE)(sm:s.oZ)(b:List RI)(gb:∀ i,(b.getD i jF).jE)(oF:b.length<=1000):gW 89 [lr s,jz b] (bP (vL s b)):=by
 unfold vL;cases hs:lY s with
 |false=>exact ajj s g sm b gb oF hs
 |true=>
  rw[cY];by_cases hl:(b.length:Int)=s.iy
  rotate_left
  .rw [show AD s.iy b=false by unfold AD;rw[bc hl];rfl];exact ajk s g sm b gb oF hs hl
  by_cases c4:((List.range b.length).all λi=>nW (b.getD i jF))=true
  .rw [show AD s.iy b=true by unfold AD;rw[a7 hl,c4];rfl];exact ajn s g sm b gb oF hs hl λk hk=>by simpa[nW]using List.all_eq_true.1 c4 k (bS.2 hk)
  .rw [show AD s.iy b=false by unfold AD;rw[aW c4];simp];obtain⟨N,n1,n2,n3⟩:=Ff c4;have qB:∀ k,k<N->nL (b.getD k jF)=true/\(b.getD k jF).all=false:=λk hk=>by simpa[nW]using n3 k hk
   cases ha:(b.getD N jF).all with
   |true=>exact ajl s g sm b gb oF hs hl N n1 qB ha
   |false=>exact ajm s g sm b gb oF hs hl N n1 qB ha (by
    cases hk:nL (b.getD N jF)with
    |false=>rfl
    |true=>rw[show nW (b.getD N jF)=true by unfold nW;rw[hk,ha];rfl]at n2;cases n2)
def agu:(prog.info? 26).map (λi=>(i.zero,i.size,i.bytes))=some (some (.slice none 0 0),1,24):= aF 
def aab(n:Nat):∀ u,u ∈ Builtin.zeroCells (Value.cells (.slice none 0 0)) n->pQ u=false:=by
 intro u hu;simp only[Builtin.zeroCells,fo,fp]at hu;obtain⟨q,hq,rfl⟩:=hu;have hc:Value.cells (.slice none 0 0) = #[.slice none 0 0]:=rfl;rw[hc]at hq ⊢;have hs:(#[Value.slice none 0 0]:Array Value).size=1:=rfl;rw[hs,dE];rfl
set_option maxRecDepth 100000 in
def afp(n:Nat)(hn:n<=1000000):tW prog Tb 129 [.v (.slice none 0 0),iP (n:Int)] true 26 0 1 (λ_ _=>.any):=by
 refine⟨call129,λw B vs hK hB hr=>?_⟩;obtain⟨v1,vs,rfl,h1,hr⟩:=hr.mG;obtain⟨v2,vs,rfl,h2,hr⟩:=hr.mG;obtain rfl:=hr.qU;obtain rfl:=iC.kC h1;obtain rfl:=iC.kC h2;show Calls _ _ #[.slice none 0 0,.int .i64 (n:Int)] w _;clear h1 h2 hr hB hK;by_cases h0:n=0
 .subst h0;go_enter func129,ntmps129;go_wp2;go_ret;exact⟨_,rfl,Below.refl _ _,λ_ _=>undef,.inl ⟨rfl,rfl⟩,λx hx=>by simp[Value.ownBlock]at hx,λi j hi=>absurd hi (bj _)⟩
 .obtain ⟨i,hi,hz,h1,h2⟩:=info_parts agu;have hw:IntKind.i64.wrap ((n:Int)-0)=n:=i64_in _ aC aC;have JP:IntKind.i64.wrap (n:Int)=n:=i64_in _ aC aC;have e2:decide ((n:Int)<0)=false:=bc aC;have e3:decide ((0:Int)<n)=true:=a7 aC;have Ci:n<=grownCap w n 0 26:=grownCap_ge w n 0 _;go_enter func129,ntmps129;go_wp2_with (at_builtin;go_must (refine Z3 aG _ _ _ _ aG _ i _ underlying72 underlying3 hi hz aC n aC aC (by rw[h2];omega) aG aG ?_))
  go_ret;have wa:(Value.cells (.slice none 0 0)).size=1:=rfl;refine⟨_,rfl,Qs w _,λ_ _=>undef,.inr ⟨w.heap.size,grownCap w n 0 26,_,rfl,heap_alloc_new w _,bV _,grownCap_le_maxLen w n 0 _ (by unfold maxLen;omega),?_,λi j hi=>absurd hi (bj _),λ_ u hu=>?_⟩,λx hx=>?_,λi j hi=>absurd hi (bj _)⟩
  .simp only[gy,size_zeroCells,wa,<-bX];congr 1;omega
  .rcases eK.1 hu with hu|hu
   .exact aab _ u hu
   .exact aab _ u hu
  .simp [Value.ownBlock]at hx;subst hx;exact⟨bg _,Qt w _⟩
end Go.Proofs.YtgdahmmlddfimaaGreatDoor
namespace Go.Proofs.YtgdahmmlddfimaaGreatDoor.Fp
def acv{s:Bool}{m:Nat}{e:Int}(hm:iq m<=60000)(mB:-60000<=e)(lF:e<=60000):(gY (canon s m e).m).length<=2900 /\ -200000<=(canon s m e).e/\(canon s m e).e<=200000:=by
 by_cases h0:m=0
 .subst h0;rw[DE];exact⟨by rw[show ju.m=0 from rfl,oB];decide,aE,aE⟩
 .obtain ⟨h1,h2,h3,h4⟩:=BZ (s:=s) (e:=e) h0;have h5:=o0 h3;exact⟨NW aC,aC,aC⟩
def WT{a:Dy}{k:Int}(h:k<=a.e):iq (a.num k).natAbs<=iq a.m+(a.e-k).toNat:=by
 have e:(a.num k).natAbs=a.m*2^(a.e-k).toNat:=by
  unfold Dy.num Dy.jO;split
  .rw [fY];exact eB _
  .exact eB _
 rw[e];by_cases h0:a.m=0
 .rw [h0,cJ];exact bV _
 .rw [q7 h0];exact bg _
def ame{a b:Dy}(ha:a.ij)(hb:b.ij):(gY (iL a b).m).length<=2900 /\ -200000<=(iL a b).e/\(iL a b).e<=200000:=by
 have h1:=ha.bits;have h2:=hb.bits;have h3:=ha.exp;have h4:=hb.exp;have la:=ha.len;have lb:=hb.len;unfold iL;split
 .exact ⟨aC,aC,aC⟩
 .split
  .exact ⟨aC,aC,aC⟩
  .have g1:=WT (a:=a) (k:=min a.e b.e) aC ;have g2:=WT (a:=b) (k:=min a.e b.e) aC;refine acv ?_ aC aC;obtain⟨K,hK⟩:∃ K,K=40000:=⟨_,rfl⟩
   have g3:=mj.1 (bk g1 (aC:iq a.m+(a.e-min a.e b.e).toNat<=K));have g4:=mj.1 (bk g2 (aC:iq b.m+(b.e-min a.e b.e).toNat<=K));refine bk ((mj (k:=K+1)).2 ?_) (aC:K+1<=60000);have g5:(a.num (min a.e b.e)+b.num (min a.e b.e)).natAbs<=(a.num (min a.e b.e)).natAbs+(b.num (min a.e b.e)).natAbs:=Int.natAbs_add_le _ _;rw[bD];generalize 2^K=P at *
   omega
end Go.Proofs.YtgdahmmlddfimaaGreatDoor.Fp
