/- Lemmas that the last file uses. -/
import Derived.Test.YtkdddbdjilcofaaGreatDoorM03
import Derived.DeepKeys
set_option linter.unusedSimpArgs false
set_option linter.unusedVariables false
set_option linter.defProp false
set_option maxHeartbeats 4000000
open Go.Proofs.Tryz
namespace Go.Proofs.YtkdddbdjilcofaaGreatDoor
open Go.RowKit Fp Pu
def Qw(a b:List Iv)(g:FuncId)(cap:List E)(i:Nat):PS:=⟨32,false,[(17,.e (iP i)),(16,.e (iP a.length)),(15,.e (gZ a)),(1,.e (gZ b)),(2,.e (.fn g cap))],[]⟩
def Qv(a b:List Iv)(g:FuncId)(cap:List E)(N:Nat)(i:Nat):PS:=⟨32,false,[(17,.e (iP i)),(16,.e (iP a.length)),(15,.e (gZ a)),(1,.e (gZ b)),(2,.e (.fn g cap))],[]⟩
def Qz(x:List Iv)(d:Dy)(i:Nat):PS:=⟨60,true,[(6,.own 6),(28,.e (iP i)),(27,.e (iP x.length)),(26,.e (gZ x)),(3,.box 3 0)],[(6,.row true 44 i 7 (iG ((List.range i).map (λj_=>qw (x.getD j_ gU) d)))),(3,.cells 31 (iu d))]⟩
def Qx(x:List Iv)(d:Dy)(N:Nat)(i:Nat):PS:=⟨60,true,[(6,.own 6),(28,.e (iP i)),(27,.e (iP x.length)),(26,.e (gZ x)),(3,.box 3 0)],[(6,.row true 44 i 7 (iG ((List.range i).map (λj_=>qw (x.getD j_ gU) d)))),(3,.cells 31 (iu d))]⟩
def Qy(x:List Iv)(d:Dy)(N:Nat)(i:Nat):PS:=⟨60,true,[(6,.own 6),(28,.e (iP i)),(27,.e (iP x.length)),(26,.e (gZ x)),(3,.box 3 0)],[(6,.row true 44 i 7 (iG ((List.range i).map (λj_=>qw (x.getD j_ gU) d)))),(3,.cells 31 (iu d))]⟩
def QA(a b:List Iv)(i:Nat):PS:=⟨30,true,[(5,.own 5),(13,.e (iP i)),(12,.e (iP a.length)),(0,.e (gZ a)),(1,.e (gZ b))],[(5,.row true 44 i 7 (iG ((List.range i).map (λj_=>pW (a.getD j_ gU) (b.getD j_ gU)))))]⟩
def QI(x:List Iv)(p:Nat)(i:Nat):PS:=⟨42,true,[(22,.e (iP i)),(21,.e (iP x.length)),(20,.e (gZ x)),(6,.box 6 0),(4,.box 4 0),(1,.e (iP p))],[(6,.cells 31 (iu (nE x p i))),(4,.cells 31 ar)]⟩
def QH(x:List Iv)(p:Nat)(N:Nat)(i:Nat):PS:=⟨42,true,[(22,.e (iP i)),(21,.e (iP x.length)),(20,.e (gZ x)),(6,.box 6 0),(4,.box 4 0),(1,.e (iP p))],[(6,.cells 31 (iu (nE x p i))),(4,.cells 31 ar)]⟩
def aaN(x:Iv)(hx:x.gY)(xa:x.all=false):gR 63 [ib x] (bP false):=
 ak call63 func63 (af [ai 4 x.all xa,.c (re x aD)]) 
def ux(b:List Iv)(h1:1<=b.length)(h8:b.length<=8)(hb:qa b):gR 25 [gZ b] (bP true):=
 ak call25 func25 (af [tT 5 (1<=(b.length:Int)) aC,tT 9 ((b.length:Int)<=8) aC,.c (Cm true _ _ 63 [] (λ_=>false) (λi hi=>aaN _ (hb i hi).1 (hb i hi).2) aC (λ_ _=>rfl):gR 22 [gZ b,.fn 63 []] _)]) 
def QU(a b:List Iv)(a1:1<=a.length)(a8:a.length<=8)(hl:b.length=a.length)(ha:qa a)(hb:qa b):gR 104 [gZ a,gZ b] (bP true):=
 ak call104 func104 (af [.c (ux a aC aC aD),.c (ux b aC aC aD),ah 16 ((a.length:Int)==b.length) (N6 aC)]) 
def ZT(a b:List Iv)(g:FuncId)(cap:List E)(f:Nat->Bool)(hl:b.length=a.length)(h8:a.length<=1000)(hp:∀ i,i<a.length->gR g ((ib (a.getD i gU))::(ib (b.getD i gU))::cap) (bP (f i)))(jJ:∀ i,i<a.length->f i=true):gR 105 [gZ a,gZ b,.fn g cap] (bP true):=
 an call105 func105 (af [ai 14 ((a.length:Int) != (b.length:Int)) (vc aC),.s (Sp.jH (Qw a b g cap) 0 a.length aC (λi hi oR=>by
    exact iB (af [tT 18 ((i:Int)<a.length) aC,iX (i:Int) (a.length) aC,iX (i:Int) (b.length) aC,.c (hp i aC:gR g ((ib (a.getD i gU))::(ib (b.getD i gU))::cap) _),ah 29 (f i) (jJ i aC),ik ((i:Int)+1) aC]) aF)
  (λhi=>by
    exact iB (af [tF 18 ((a.length:Int)<a.length) aC]) aF) aI:jD 4 f105 (Qw a b g cap 0) (.exit 0) ⟨32,false,[],[]⟩) .nil]) 
def ZR(a b:List Iv)(g:FuncId)(cap:List E)(f:Nat->Bool)(hl:b.length=a.length)(h8:a.length<=1000)(hp:∀ i,i<a.length->gR g ((ib (a.getD i gU))::(ib (b.getD i gU))::cap) (bP (f i)))(N:Nat)(pU:N<a.length)(jJ:∀ i,i<N->f i=true)(hN:f N=false):gR 105 [gZ a,gZ b,.fn g cap] (bP false):=
 an call105 func105 (af [ai 14 ((a.length:Int) != (b.length:Int)) (vc aC),.s (Sp.jH (Qv a b g cap N) 0 N aC (λi hi oR=>by
    exact iB (af [tT 18 ((i:Int)<a.length) aC,iX (i:Int) (a.length) aC,iX (i:Int) (b.length) aC,.c (hp i aC:gR g ((ib (a.getD i gU))::(ib (b.getD i gU))::cap) _),ah 29 (f i) (jJ i aC),ik ((i:Int)+1) aC]) aF)
  (λhi=>by
    exact iB (af [tT 18 ((N:Int)<a.length) aC,iX (N:Int) (a.length) aC,iX (N:Int) (b.length) aC,.c (hp N aC:gR g ((ib (a.getD N gU))::(ib (b.getD N gU))::cap) _),ai 29 (f N) hN]) aF) aI:jD 4 f105 (Qv a b g cap N 0) .ret ⟨32,false,[(6,.e (bP false))],[]⟩) .nil]) 
def ZS(a b:List Iv)(g:FuncId)(cap:List E)(f:Nat->Bool)(hl:b.length=a.length)(h8:a.length<=1000)(hp:∀ i,i<a.length->gR g ((ib (a.getD i gU))::(ib (b.getD i gU))::cap) (bP (f i))):gR 105 [gZ a,gZ b,.fn g cap] (bP ((List.range a.length).all f)):=by
 by_cases h:∃ i,i<a.length/\(!(f i))=true
 .obtain ⟨N,h1,h2,h3⟩:=sL (p:=λi=>!(f i)) h;refine(ZR a b g cap f hl h8 hp N h1 (λi hi=>by simpa using h3 i hi) (by simpa using h2)).jT (.iM ?_);rw[show(List.range a.length).all f=false from am8.2 ⟨N,bW.2 h1,by simpa using h2⟩]
 .have hh:∀ i,i<a.length->f i=true:=λi hi=>by
   cases hf:f i
   .exact absurd ⟨i,hi,by rw[hf];rfl⟩ h
   .rfl
  refine(ZT a b g cap f hl h8 hp hh).jT (.iM ?_);rw[show(List.range a.length).all f=true from bN.2 λi hi=>hh i (bW.1 hi)]
def QS(a b:List Iv)(a1:1<=a.length)(a8:a.length<=8)(hl:b.length=a.length)(ha:qa a)(hb:qa b):gR 53 [gZ a,gZ b] (bP (uT a b)):=
 ak call53 func53 (af [.c (QU a b aC aC aC aD aD),.c (ZS a b 106 [] (λi=>AJ (a.getD i gU) (b.getD i gU)) hl aC (λi hi=>ZY _ _ (ha i hi).1 (hb i aC).1))]) 
def Md{x:Iv}{d:Dy}(h:vJ x d=true):kp (iJ x.lo (jo d))=0/\kp (iJ x.hi d)=0:=by
 unfold vJ at h;rwa[bF,b9,b9]at h
def aaJ(x:List Iv)(d:Dy)(x1:1<=x.length)(x8:x.length<=8)(hx:qa x)(hd:d.gY)(h0:¬d.iK<0)(jJ:∀ i,i<x.length->vJ (x.getD i gU) d=true):gR 87 [gZ x,gV d] (.ig [gZ ((List.range x.length).map (λj_=>qw (x.getD j_ gU) d)),iP 0]):=
 ak call87 func87 (af [.c (ux x aC aC aD),ag [gV d] (ng _ aD),ag [gV d] (mP _ aD),tB 24 (a7 h0),.y 6 6 true 44 7 (iG ((List.range 0).map (λj_=>qw (x.getD j_ gU) d))),.s (Sp.jH (Qz x d) 0 x.length aC (λi hi oR=>by
    obtain⟨w1,w2⟩:=(hx i aC).1.j8;obtain⟨g1,g2⟩:=Md (jJ i aC);have rE:=pE (Iv.mk (jq (iJ (x.getD i gU).lo (jo d))) (jq (iJ (x.getD i gU).hi d)) false);exact iB (ae [tT 29 ((i:Int)<x.length) aC,iX (i:Int) (x.length) aC,ag [gV ((x.getD i gU).lo),gV d] (EG _ _ aD aD),.c (EC ((x.getD i gU).hi) d aD aD),ai 47 ((kp (iJ ((x.getD i gU).lo) (jo d))) != 0) (by rw[g1];rfl),ai 50 ((kp (iJ ((x.getD i gU).hi) d)) != 0) (by rw[g2];rfl),.o 56 (.e (lG _):aj (.sl true 1 7 λi_ j_=>(iF (Iv.mk (jq (iJ ((x.getD i gU).lo) (jo d))) (jq (iJ ((x.getD i gU).hi) d)) false)).getD (i_*7+j_) (.v (.bool false))) (gZ [Iv.mk (jq (iJ ((x.getD i gU).lo) (jo d))) (jq (iJ ((x.getD i gU).hi) d)) false])),.a (aC:(i+[Iv.mk (jq (iJ ((x.getD i gU).lo) (jo d))) (jq (iJ ((x.getD i gU).hi) d)) false].length)*88<=140737488355328),ik ((i:Int)+1) aC]<|.e (af [.b 6 (Cn rfl rfl rfl:Bx.le (.row true 44 (i+[Iv.mk (jq (iJ ((x.getD i gU).lo) (jo d))) (jq (iJ ((x.getD i gU).hi) d)) false].length) 7 (λi_ j_=>if i_<i then(iG ((List.range i).map (λj_=>qw (x.getD j_ gU) d))) i_ j_ else(E.kJ (gZ [Iv.mk (jq (iJ ((x.getD i gU).lo) (jo d))) (jq (iJ ((x.getD i gU).hi) d)) false])) (i_-i) j_)) (.row true 44 (i+1) 7 (iG ((List.range (i+1)).map (λj_=>qw (x.getD j_ gU) d)))))])) aF)
  (λhi=>by
    exact iB (ae [tF 29 ((x.length:Int)<x.length) aC,.z 6]<|.e (af [.o 6 (.e (DQ aH):aj (.sl true x.length 7 (iG ((List.range x.length).map (λj_=>qw (x.getD j_ gU) d)))) (gZ ((List.range x.length).map (λj_=>qw (x.getD j_ gU) d))))])) aF) aI:jD 5 Tryz.f87 (Qz x d 0) (.exit 0) ⟨60,true,[(6,.e (gZ ((List.range x.length).map (λj_=>qw (x.getD j_ gU) d))))],[]⟩) .nil]) 
def aaH(x:List Iv)(d:Dy)(x1:1<=x.length)(x8:x.length<=8)(hx:qa x)(hd:d.gY)(h0:¬d.iK<0)(N:Nat)(pU:N<x.length)(jJ:∀ i,i<N->vJ (x.getD i gU) d=true)(hN:kp (iJ (x.getD N gU).lo (jo d))≠0):gR 87 [gZ x,gV d] (.ig [.v (.slice none 0 0),iP 9]):=
 ak call87 func87 (af [.c (ux x aC aC aD),ag [gV d] (ng _ aD),ag [gV d] (mP _ aD),tB 24 (a7 h0),.y 6 6 true 44 7 (iG ((List.range 0).map (λj_=>qw (x.getD j_ gU) d))),.s (Sp.jH (Qx x d N) 0 N aC (λi hi oR=>by
    obtain⟨w1,w2⟩:=(hx i aC).1.j8;obtain⟨g1,g2⟩:=Md (jJ i aC);have rE:=pE (Iv.mk (jq (iJ (x.getD i gU).lo (jo d))) (jq (iJ (x.getD i gU).hi d)) false);exact iB (ae [tT 29 ((i:Int)<x.length) aC,iX (i:Int) (x.length) aC,ag [gV ((x.getD i gU).lo),gV d] (EG _ _ aD aD),.c (EC ((x.getD i gU).hi) d aD aD),ai 47 ((kp (iJ ((x.getD i gU).lo) (jo d))) != 0) (by rw[g1];rfl),ai 50 ((kp (iJ ((x.getD i gU).hi) d)) != 0) (by rw[g2];rfl),.o 56 (.e (lG _):aj (.sl true 1 7 λi_ j_=>(iF (Iv.mk (jq (iJ ((x.getD i gU).lo) (jo d))) (jq (iJ ((x.getD i gU).hi) d)) false)).getD (i_*7+j_) (.v (.bool false))) (gZ [Iv.mk (jq (iJ ((x.getD i gU).lo) (jo d))) (jq (iJ ((x.getD i gU).hi) d)) false])),.a (aC:(i+[Iv.mk (jq (iJ ((x.getD i gU).lo) (jo d))) (jq (iJ ((x.getD i gU).hi) d)) false].length)*88<=140737488355328),ik ((i:Int)+1) aC]<|.e (af [.b 6 (Cn rfl rfl rfl:Bx.le (.row true 44 (i+[Iv.mk (jq (iJ ((x.getD i gU).lo) (jo d))) (jq (iJ ((x.getD i gU).hi) d)) false].length) 7 (λi_ j_=>if i_<i then(iG ((List.range i).map (λj_=>qw (x.getD j_ gU) d))) i_ j_ else(E.kJ (gZ [Iv.mk (jq (iJ ((x.getD i gU).lo) (jo d))) (jq (iJ ((x.getD i gU).hi) d)) false])) (i_-i) j_)) (.row true 44 (i+1) 7 (iG ((List.range (i+1)).map (λj_=>qw (x.getD j_ gU) d)))))])) aF)
  (λhi=>by
    obtain⟨w1,w2⟩:=(hx N aC).1.j8;exact iB (af [tT 29 ((N:Int)<x.length) aC,iX (N:Int) (x.length) aC,ag [gV ((x.getD N gU).lo),gV d] (EG _ _ aD aD),.c (EC ((x.getD N gU).hi) d aD aD),ah 47 ((kp (iJ ((x.getD N gU).lo) (jo d))) != 0) (by simpa using hN)]) aF) aI:jD 5 Tryz.f87 (Qx x d N 0) .ret ⟨60,true,[(5,.e (iP 9)),(4,.e (.v (.slice none 0 0)))],[]⟩) .nil]) 
def aaI(x:List Iv)(d:Dy)(x1:1<=x.length)(x8:x.length<=8)(hx:qa x)(hd:d.gY)(h0:¬d.iK<0)(N:Nat)(pU:N<x.length)(jJ:∀ i,i<N->vJ (x.getD i gU) d=true)(hM:kp (iJ (x.getD N gU).lo (jo d))=0)(hN:kp (iJ (x.getD N gU).hi d)≠0):gR 87 [gZ x,gV d] (.ig [.v (.slice none 0 0),iP 9]):=
 ak call87 func87 (af [.c (ux x aC aC aD),ag [gV d] (ng _ aD),ag [gV d] (mP _ aD),tB 24 (a7 h0),.y 6 6 true 44 7 (iG ((List.range 0).map (λj_=>qw (x.getD j_ gU) d))),.s (Sp.jH (Qy x d N) 0 N aC (λi hi oR=>by
    obtain⟨w1,w2⟩:=(hx i aC).1.j8;obtain⟨g1,g2⟩:=Md (jJ i aC);have rE:=pE (Iv.mk (jq (iJ (x.getD i gU).lo (jo d))) (jq (iJ (x.getD i gU).hi d)) false);exact iB (ae [tT 29 ((i:Int)<x.length) aC,iX (i:Int) (x.length) aC,ag [gV ((x.getD i gU).lo),gV d] (EG _ _ aD aD),.c (EC ((x.getD i gU).hi) d aD aD),ai 47 ((kp (iJ ((x.getD i gU).lo) (jo d))) != 0) (by rw[g1];rfl),ai 50 ((kp (iJ ((x.getD i gU).hi) d)) != 0) (by rw[g2];rfl),.o 56 (.e (lG _):aj (.sl true 1 7 λi_ j_=>(iF (Iv.mk (jq (iJ ((x.getD i gU).lo) (jo d))) (jq (iJ ((x.getD i gU).hi) d)) false)).getD (i_*7+j_) (.v (.bool false))) (gZ [Iv.mk (jq (iJ ((x.getD i gU).lo) (jo d))) (jq (iJ ((x.getD i gU).hi) d)) false])),.a (aC:(i+[Iv.mk (jq (iJ ((x.getD i gU).lo) (jo d))) (jq (iJ ((x.getD i gU).hi) d)) false].length)*88<=140737488355328),ik ((i:Int)+1) aC]<|.e (af [.b 6 (Cn rfl rfl rfl:Bx.le (.row true 44 (i+[Iv.mk (jq (iJ ((x.getD i gU).lo) (jo d))) (jq (iJ ((x.getD i gU).hi) d)) false].length) 7 (λi_ j_=>if i_<i then(iG ((List.range i).map (λj_=>qw (x.getD j_ gU) d))) i_ j_ else(E.kJ (gZ [Iv.mk (jq (iJ ((x.getD i gU).lo) (jo d))) (jq (iJ ((x.getD i gU).hi) d)) false])) (i_-i) j_)) (.row true 44 (i+1) 7 (iG ((List.range (i+1)).map (λj_=>qw (x.getD j_ gU) d)))))])) aF)
  (λhi=>by
    obtain⟨w1,w2⟩:=(hx N aC).1.j8;exact iB (af [tT 29 ((N:Int)<x.length) aC,iX (N:Int) (x.length) aC,ag [gV ((x.getD N gU).lo),gV d] (EG _ _ aD aD),.c (EC ((x.getD N gU).hi) d aD aD),ai 47 ((kp (iJ ((x.getD N gU).lo) (jo d))) != 0) (by rw[hM];rfl),ah 50 ((kp (iJ ((x.getD N gU).hi) d)) != 0) (by simpa using hN)]) aF) aI:jD 5 Tryz.f87 (Qy x d N 0) .ret ⟨60,true,[(5,.e (iP 9)),(4,.e (.v (.slice none 0 0)))],[]⟩) .nil]) 
def Al(x:List Iv)(d:Dy):Int:=if rB x d then 0 else 9
def QR(x:List Iv)(d:Dy)(x1:1<=x.length)(x8:x.length<=8)(hx:qa x)(hd:d.gY)(h0:¬d.iK<0):gR 87 [gZ x,gV d] (.ig [gZ (rP x d),iP (Al x d)]):=by
 unfold rP Al;cases hg:rB x d with
 |true=>
  rw[aZ rfl,aZ rfl];exact aaJ x d x1 x8 hx hd h0 λi hi=>bN.1 hg i (bW.2 hi)
 |false=>
  rw[aY aE,aY aE];obtain⟨i,hi,hb⟩:=am8.1 hg;obtain⟨N,h1,h2,h3⟩:=sL (p:=λi=>!(vJ (x.getD i gU) d)) ⟨i,bW.1 hi,by simpa using hb⟩;have jJ:∀ i,i<N->vJ (x.getD i gU) d=true:=λi hi=>by simpa using h3 i hi
  have h2:vJ (x.getD N gU) d=false:=by simpa using h2
  have key:gR 87 [gZ x,gV d] (.ig [.v (.slice none 0 0),iP 9]):=by
   by_cases hM:kp (iJ (x.getD N gU).lo (jo d))=0
   .exact aaI x d x1 x8 hx hd h0 N h1 jJ hM λq=>by
     unfold vJ at h2;rw[hM,q]at h2;exact absurd h2 aE 
   .exact aaH x d x1 x8 hx hd h0 N h1 jJ hM
  exact key.jT (.ig (.cons (.nil _ _ _) (.cons (.refl _) .nil)))
def aaK(a b:List Iv)(a1:1<=a.length)(a8:a.length<=8)(hl:b.length=a.length)(ha:qa a)(hb:qa b):gR 88 [gZ a,gZ b] (gZ (mZ a b)):=
 ak call88 func88 (ae [.c (QU a b aC aC aC aD aD),.y 5 5 true 44 7 (iG ((List.range 0).map (λj_=>pW (a.getD j_ gU) (b.getD j_ gU)))),.s (Sp.jH (QA a b) 0 a.length aC (λi hi oR=>by
    obtain⟨w1,w2⟩:=ha i aC;obtain⟨w3,w4⟩:=hb i aC;have rE:=pE (pW (a.getD i gU) (b.getD i gU));exact iB (ae [tT 14 ((i:Int)<a.length) aC,iX (i:Int) (a.length) aC,iX (i:Int) (b.length) aC,.c (QB (a.getD i gU) (b.getD i gU) aD aD aD aD),.o 26 (.e (lG _):aj (.sl true 1 7 λi_ j_=>(iF (pW (a.getD i gU) (b.getD i gU))).getD (i_*7+j_) (.v (.bool false))) (gZ [pW (a.getD i gU) (b.getD i gU)])),.a (aC:(i+[pW (a.getD i gU) (b.getD i gU)].length)*88<=140737488355328),ik ((i:Int)+1) aC]<|.e (af [.b 5 (Cn rfl rfl rfl:Bx.le (.row true 44 (i+[pW (a.getD i gU) (b.getD i gU)].length) 7 (λi_ j_=>if i_<i then(iG ((List.range i).map (λj_=>pW (a.getD j_ gU) (b.getD j_ gU)))) i_ j_ else(E.kJ (gZ [pW (a.getD i gU) (b.getD i gU)])) (i_-i) j_)) (.row true 44 (i+1) 7 (iG ((List.range (i+1)).map (λj_=>pW (a.getD j_ gU) (b.getD j_ gU))))))])) aF)
  (λhi=>by
    exact iB (ae [tF 14 ((a.length:Int)<a.length) aC,.z 5]<|.e (af [.o 5 (.e (DQ aH):aj (.sl true a.length 7 (iG ((List.range a.length).map (λj_=>pW (a.getD j_ gU) (b.getD j_ gU))))) (gZ ((List.range a.length).map (λj_=>pW (a.getD j_ gU) (b.getD j_ gU)))))])) aF) aI:jD 5 Tryz.f88 (QA a b 0) (.exit 0) ⟨30,true,[(5,.e (gZ ((List.range a.length).map (λj_=>pW (a.getD j_ gU) (b.getD j_ gU)))))],[]⟩) .nil]<|rR (gZ (mZ a b)) (.refl _:E.le (gZ ((List.range a.length).map (λj_=>pW (a.getD j_ gU) (b.getD j_ gU)))) (gZ (mZ a b)))) 
def QT(p:Int):gR 140 [iP p] (bP (mI p)):=
 ak call140 func140 (.w (8<=p)
  (λk1=>ae [tB 4 (a6 k1)]<|rQ (bP (decide (p<=512))) (bP (mI p)) (by unfold mI;simp[k1]))
  (λk1=>ae [tB 4 (a7 k1)]<|rQ (bP false) (bP (mI p)) (by unfold mI;simp[k1]))) 
def QV:tH ar (iu iq):=.cons (.refl _) (.cons Cy (.cons (.refl _) .nil))
def KP(x:List Iv)(p k:Nat):nE x p (k+1)=if 0<iO (oB (x.getD k gU) p) (nE x p k)then oB (x.getD k gU) p else nE x p k:=rfl
def PH(x:Iv){p:Nat}(hp:1<=p)(gX:p<=4096):(oB x p).gY:=wo _ hp gX _
def KQ(x:List Iv){p:Nat}(hp:1<=p)(gX:p<=4096):∀ k,(nE x p k).gY
 | 0=>rn
 |k+1=>by
  unfold nE;split
  .exact PH _ hp gX
  .exact KQ x hp gX k
def aaQ(x:List Iv)(p:Nat)(x1:1<=x.length)(x8:x.length<=8)(hx:qa x)(ic:8<=p)(gX:p<=512)(jJ:∀ i,i<x.length->vv (x.getD i gU) p=0):gR 89 [gZ x,iP p] (.ig [gV (nE x p x.length),bP true]):=
 ak call89 func89 (af [.c (ux x aC aC aD),.c (QT (p:Int)),ah 16 (mI (p:Int)) (rY.2 ⟨aC,aC⟩),.s (Sp.jH (QI x p) 0 x.length aC (λi hi oR=>by
    obtain⟨w1,w2⟩:=hx i aC;have MQ:=jJ i aC;have w3:=PH (x.getD i gU) (aC:1<=p) (aC:p<=4096);have w4:=KQ x (aC:1<=p) (aC:p<=4096) i;exact iB (ae [tT 23 ((i:Int)<x.length) aC,iX (i:Int) (x.length) aC,.c (Db (x.getD i gU) p aD aD aC aC),tB 31 (a6 MQ),ag [gV (oB (x.getD i gU) p),gV (nE x p i)] (kI _ _ aD aD)]<|.w (0<iO (oB (x.getD i gU) p) (nE x p i))
     (λhc=>by
      have BZ:nE x p (i+1)=oB (x.getD i gU) p:=by rw[KP,aZ hc]
      exact ae [tB 38 (a6 hc),ik ((i:Int)+1) aC]<|.e (af [.b 6 (.iM (by rw[BZ]):Bx.le (.cells 31 (iu (oB (x.getD i gU) p))) (.cells 31 (iu (nE x p (i+1)))))]))
     (λhc=>by
      have BZ:nE x p (i+1)=nE x p i:=by rw[KP,aY hc]
      exact ae [tB 38 (a7 hc),ik ((i:Int)+1) aC]<|.e (af [.b 6 (.iM (by rw[BZ]):Bx.le (.cells 31 (iu (nE x p i))) (.cells 31 (iu (nE x p (i+1)))))]))) aF)
  (λhi=>by
    exact iB (af [tF 23 ((x.length:Int)<x.length) aC]) aF) aI:jD 5 Tryz.f89 (QI x p 0) (.exit 0) ⟨42,true,[(6,.box 6 0),(4,.box 4 0)],[(6,.cells 31 (iu (nE x p x.length))),(4,.cells 31 ar)]⟩) (af [.b 6 (.cells (λ_=>rfl) QV:Bx.le (.cells 31 ar) (.cells 31 (iu (nE x p 0))))])]) 
def aaO(x:List Iv)(p:Nat)(x1:1<=x.length)(x8:x.length<=8)(hx:qa x)(ic:8<=p)(gX:p<=512)(N:Nat)(pU:N<x.length)(jJ:∀ i,i<N->vv (x.getD i gU) p=0)(hN:vv (x.getD N gU) p≠0):gR 89 [gZ x,iP p] (.ig [gV iq,bP false]):=
 ak call89 func89 (af [.c (ux x aC aC aD),.c (QT (p:Int)),ah 16 (mI (p:Int)) (rY.2 ⟨aC,aC⟩),.s (Sp.jH (QH x p N) 0 N aC (λi hi oR=>by
    obtain⟨w1,w2⟩:=hx i aC;have MQ:=jJ i aC;have w3:=PH (x.getD i gU) (aC:1<=p) (aC:p<=4096);have w4:=KQ x (aC:1<=p) (aC:p<=4096) i;exact iB (ae [tT 23 ((i:Int)<x.length) aC,iX (i:Int) (x.length) aC,.c (Db (x.getD i gU) p aD aD aC aC),tB 31 (a6 MQ),ag [gV (oB (x.getD i gU) p),gV (nE x p i)] (kI _ _ aD aD)]<|.w (0<iO (oB (x.getD i gU) p) (nE x p i))
     (λhc=>by
      have BZ:nE x p (i+1)=oB (x.getD i gU) p:=by rw[KP,aZ hc]
      exact ae [tB 38 (a6 hc),ik ((i:Int)+1) aC]<|.e (af [.b 6 (.iM (by rw[BZ]):Bx.le (.cells 31 (iu (oB (x.getD i gU) p))) (.cells 31 (iu (nE x p (i+1)))))]))
     (λhc=>by
      have BZ:nE x p (i+1)=nE x p i:=by rw[KP,aY hc]
      exact ae [tB 38 (a7 hc),ik ((i:Int)+1) aC]<|.e (af [.b 6 (.iM (by rw[BZ]):Bx.le (.cells 31 (iu (nE x p i))) (.cells 31 (iu (nE x p (i+1)))))]))) aF)
  (λhi=>by
    obtain⟨w1,w2⟩:=hx N aC;exact iB (af [tT 23 ((N:Int)<x.length) aC,iX (N:Int) (x.length) aC,.c (Db (x.getD N gU) p aD aD aC aC),tB 31 (a7 hN),.o 34 (.e qN:aj (.agg ar) (gV iq))]) aF) aI:jD 5 Tryz.f89 (QH x p N 0) .ret ⟨42,true,[(5,.e (bP false)),(4,.box 4 0)],[(4,.cells 31 (iu iq))]⟩) (af [.b 6 (.cells (λ_=>rfl) QV:Bx.le (.cells 31 ar) (.cells 31 (iu (nE x p 0))))])]) 
def alT(x:List Iv){p:Nat}(hp:1<=p)(gX:p<=4096):(r6 x p).gY:=by
 unfold r6;split
 .exact KQ x hp gX _
 .exact rn
def aaP(x:List Iv)(p:Nat)(x1:1<=x.length)(x8:x.length<=8)(hx:qa x)(ic:8<=p)(gX:p<=512):gR 89 [gZ x,iP (p:Int)] (.ig [gV (r6 x p),bP (G8 x p)]):=by
 unfold r6;cases hw:G8 x p with
 |true=>
  rw[aZ rfl];exact aaQ x p x1 x8 hx ic gX λi hi=>cC (bN.1 hw i (bW.2 hi))
 |false=>
  rw[aY aE];obtain⟨i,hi,hb⟩:=am8.1 hw;obtain⟨N,h1,h2,h3⟩:=sL (p:=λi=>!(decide (vv (x.getD i gU) p=0))) ⟨i,bW.1 hi,by simpa using hb⟩;exact aaO x p x1 x8 hx ic gX N h1 (λi hi=>by simpa using h3 i hi) (by simpa using h2)
end Go.Proofs.YtkdddbdjilcofaaGreatDoor
namespace Go.Proofs.YtkdddbdjilcofaaGreatDoor.Pu
open Go.RowKit
def Xk{bs br:Nat->Prop}{w:World}{xs:List Value}{a:Value}(h:ix bs br w (.agg (xs.map E.v)) a):a = .agg xs.toArray:=by
 generalize he:E.agg (xs.map E.v)=e at h;cases h with
 |agg l vs hl k=>
  cases he;rw[ca]at hl;have:vs=xs:=fH λi=>by
   cases hx:xs[i]? with
   |none=>rw[List.getElem?_eq_none_iff]at hx ⊢;omega
   |some x=>
    obtain⟨v,hv⟩:∃ v,vs[i]? = some v:=by
     have hi:i<xs.length:=(bY.1 hx).1;exact⟨vs[i]'(aC),bt aC⟩
    rw[hv,ix.kz (k i (.v x) v (by rw[cr,hx];rfl) hv)]
  rw[this]
 |_=>cases he
def WL{P:Program}{t:TypeId}{m D D':Nat}(hm:m<=10000)(hk:P.keyTypeAt m t=true)(hg:P.eqGuardType P.depth t=false){xs ys:List Value}{la lb:List Lit}
 (hx:P.keyLits D t xs=some la) (hy:P.keyLits D' t ys=some lb) (fx:(Value.agg xs.toArray).formed P t=true) (fy:(Value.agg ys.toArray).formed P t=true) {c:Bool} (hc:c=true↔la=lb):
 oN P .eql t (.agg (xs.map E.v)) (.agg (ys.map E.v)) (.bool c):=by
 intro bs br w a b ox oy ha hb;obtain rfl:=Xk ha;obtain rfl:=Xk hb;constructor
 .simp only[eqGuard,eR,bB,bk,Sem.run_bind,run_program,Result.andThen_ok,hg,dX,bw,Sem.run_pure]
 .obtain ⟨r,hr,afl⟩:=run_equalIn_deep (10000-m) m t hk w _ _ _ _ la lb fx fy (by simpa[Value.cells]using hx) (by simpa[Value.cells]using hy);rw[(aC:10000-m+m=10000)]at hr;have e:r=c:=by rw[dz,afl,hc]
  subst e;have:(Op.equal t (.agg xs.toArray) (.agg ys.toArray)).run P w = .ok r w:=hr;simp only[binOp,Sem.run_bind,this,Result.andThen_ok,Sem.run_pure]
end Go.Proofs.YtkdddbdjilcofaaGreatDoor.Pu
namespace Go.Proofs.YtkdddbdjilcofaaGreatDoor
open Go.RowKit Fp Pu
def WM{t:TypeId}{m:Nat}(hm:m<=10000)(hk:prog.keyTypeAt m t=true)(hg:prog.eqGuardType prog.depth t=false){xs:List Value}(hx:(prog.keyLits 10 t xs).isSome=true)
 (fx:(Value.agg xs.toArray).formed prog t=true):oN prog .eql t (.agg (xs.map E.v)) (.agg (xs.map E.v)) (.bool true):=by
 obtain⟨l,hl⟩:=fN.1 hx;exact WL hm hk hg hl hl fx fx aH 
def JZ{a b c d e f:Int}(h:a=0/\b=0/\c=0/\d=0/\e=0/\f=0):
 oN prog .eql 91 (.agg [iP a,iP b,iP c,iP d,iP e,iP f]) (.agg [iP 0,iP 0,iP 0,iP 0,iP 0,iP 0]) (.bool true):=by
 obtain⟨rfl,rfl,rfl,rfl,rfl,rfl⟩:=h;exact WM (m:=10) (xs:=[.int .i64 0,.int .i64 0,.int .i64 0,.int .i64 0,.int .i64 0,.int .i64 0]) aE aF aF aF aF 
def Oo{a b:Int}(h:a=0/\b=0):oN prog .eql 89 (.agg [iP a,iP b]) (.agg [iP 0,iP 0]) (.bool true):=by
 obtain⟨rfl,rfl⟩:=h;exact WM (m:=10) (xs:=[.int .i64 0,.int .i64 0]) aE aF aF aF aF 
def UT{d:Nat}{n:Int}(h:kP .i64 n):prog.keyLits (d+1) 3 [.int .i64 n]=some [.int .i64 n]:=by
 have hw:(Lit.int .i64 n).wf=true:=by
  unfold kP at h;simp[Lit.wf,IntKind.min,IntKind.max,IntKind.signed,IntKind.bits];omega
 unfold Program.keyLits;rw[underlying3];simp[hw]
def W4{a b:Int}(ha:kP .i64 a)(hb:kP .i64 b):prog.keyLits 10 89 [.int .i64 a,.int .i64 b]=some [.int .i64 a,.int .i64 b]:=by
 have c1:prog.cellsOf 89=2:= aF ;have c2:prog.cellsOf 3=1:= aF ;unfold Program.keyLits;rw[underlying89];simp[c1,c2,gq,UT ha,UT hb]
def WK{a b:Int}{r:Bool}(ha:kP .i64 a)(hb:kP .i64 b)(h:decide (a=0/\b=0)=r):oN prog .eql 89 (.agg [iP a,iP b]) (.agg [iP 0,iP 0]) (.bool r):=
 WL (m:=10) (xs:=[.int .i64 a,.int .i64 b]) (ys:=[.int .i64 0,.int .i64 0]) aE aF aF (W4 ha hb) (W4 aS aS) aF aF (by subst h;simp)
def ajE{P:Program}(w:World)(t tx ty e:TypeId)(i:TypeInfo)(z:Value)(ht:P.underlying t=some (.slice e))(hx:P.underlying tx=some (.int .i64))(hi:P.info? e=some i)(hz:i.zero=some z)
 (tg:i.size≠0) (n:Nat) (h0:0<n) (Fk:n<=1000000) (Tn:n*i.bytes<=281474976710656):
 (Builtin.append_ #[t,tx] ty #[.slice none 0 0,.int .i64 (n:Int)]).run P w =
  .ok (.slice (some ⟨w.heap.size,0,none⟩) n (grownCap w n 0 e)) (w.drew.alloc (.cells (Builtin.zeroCells z.cells n++Builtin.zeroCells z.cells (grownCap w n 0 e-n)) e)):=by
 have hn:n≠0:= aC ;have hns:n*i.size≠0:=dg hn tg;have ae2:¬(9223372036854775807<(n:Int)):= aC ;have ae0:¬(281474976710656<Builtin.nextslicecap n 0*i.bytes):=by rw[nextslicecap_zero h0];omega
 have hw:IntKind.i64.wrap (n:Int)=n:=i64_in _ aC aC;have FC:¬((n:Int)<0):= aC ;have ae1:¬(281474976710656<(n:Int)*(i.bytes:Int)):=by
  have:(n:Int)*(i.bytes:Int)=((n*i.bytes:Nat):Int):= aH ;rw[this];omega
 simp[Builtin.append_,run_underlying ht,run_underlying hx,sizeOf,typeInfo,zeroValue,hi,hz,asInt,asIntOf,hw,FC,ae1,hn,hns,ae2,ae0,Question.forced,run_firstCells_none,newRow,grownCap]
def alW{P:Program}{w:World}{gT:Array Oper}{rest:List Oper}{o:Oper}{a:Act}{Q:Exit->Act->World->Prop}(BQ:o.guard=none)(s x:Operand)(t tx:TypeId)
 (ho:o.op = .call { callee:=.builtin .append,args:=#[s,x],argTypes:=#[t,tx] })
 (e:TypeId) (i:TypeInfo) (z:Value) (ht:P.underlying t=some (.slice e)) (hx:P.underlying tx=some (.int .i64)) (hi:P.info? e=some i) (hz:i.zero=some z)
 (tg:i.size≠0) (n:Nat) (h0:0<n) (Fk:n<=1000000) (Tn:n*i.bytes<=281474976710656) (hs:a.eval s = .slice none 0 0) (hxx:a.eval x = .int .i64 (n:Int))
 (h:wpList P gT Q rest (a.put o.dst (.slice (some ⟨w.heap.size,0,none⟩) n (grownCap w n 0 e))) (w.drew.alloc (.cells (Builtin.zeroCells z.cells n++Builtin.zeroCells z.cells (grownCap w n 0 e-n)) e))):wpList P gT Q (o::rest) a w:=by
 refine wpList_plain BQ λK hK=>?_
 have kC:=ajE (P:=P) w t tx o.type e i z ht hx hi hz tg n h0 Fk Tn;unfold Oper.wp;simp[execOp,ho,resolve,invoke,builtin,hs,hxx,kC,Result.andThen];exact hK _ _ h
def ZC(w:World)(o:Obj):Below w.heap.size w (w.alloc o).drew:=⟨rfl,rfl,rfl,by rw[show(w.alloc o).drew.heap=w.heap.push o from rfl,Array.size_push];omega,λx hx=>Below.heap_alloc w _ x hx⟩
def ZD(w:World)(o:Obj):w.heap.size<(w.alloc o).drew.heap.size:=by rw[show(w.alloc o).drew.heap=w.heap.push o from rfl,Array.size_push];omega
def afO:(prog.info? 44).map (λi=>(i.zero,i.size,i.bytes))=some (some (.agg #[.bool false,.slice none 0 0,.int .i64 0,.bool false,.slice none 0 0,.int .i64 0,.bool false]),7,88):= aF 
def Zd(n:Nat):∀ u,u ∈ Builtin.zeroCells (Value.cells (.agg #[.bool false,.slice none 0 0,.int .i64 0,.bool false,.slice none 0 0,.int .i64 0,.bool false])) n->qk u=false:=by
 intro u hu;simp only[Builtin.zeroCells,fK,fL]at hu;obtain⟨q,hq,rfl⟩:=hu;have hc:Value.cells (.agg #[.bool false,.slice none 0 0,.int .i64 0,.bool false,.slice none 0 0,.int .i64 0,.bool false]) = #[.bool false,.slice none 0 0,.int .i64 0,.bool false,.slice none 0 0,.int .i64 0,.bool false]:=rfl;rw[hc]at hq ⊢;have hs:(#[Value.bool false,.slice none 0 0,.int .i64 0,.bool false,.slice none 0 0,.int .i64 0,.bool false]:Array Value).size=7:=rfl;rw[hs];have h7:q%7<7:=bE _ aE;generalize q%7=k at h7;rcases k with _|_|_|_|_|_|_|k
 all_goals first|rfl|omega
set_option maxRecDepth 100000 in
def aeT(n:Nat)(hn:n<=1000000):vz prog Tb 221 [.v (.slice none 0 0),iP (n:Int)] true 44 0 7 (iG []):=by
 refine⟨call221,λw B vs hK hB hr=>?_⟩;obtain⟨v1,vs,rfl,h1,hr⟩:=hr.nj;obtain⟨v2,vs,rfl,h2,hr⟩:=hr.nj;obtain rfl:=hr.rW;obtain rfl:=ix.kz h1;obtain rfl:=ix.kz h2;show Calls _ _ #[.slice none 0 0,.int .i64 (n:Int)] w _;clear h1 h2 hr hB hK;by_cases h0:n=0
 .subst h0;go_enter func221,ntmps221;go_wp2;go_ret;exact⟨_,rfl,Below.refl _ _,λ_ _=>undef,.inl ⟨rfl,rfl⟩,λx hx=>by simp[Value.ownBlock]at hx,λi j hi=>absurd hi (bn _)⟩
 .obtain ⟨i,hi,hz,h1,h2⟩:=info_parts afO;have hw:IntKind.i64.wrap ((n:Int)-0)=n:=i64_in _ aC aC;have Nb:IntKind.i64.wrap (n:Int)=n:=i64_in _ aC aC;have e2:decide ((n:Int)<0)=false:=a7 aC;have e3:decide ((0:Int)<n)=true:=a6 aC;have Ds:n<=grownCap w n 0 44:=grownCap_ge w n 0 _;go_enter func221,ntmps221;go_wp2_with (at_builtin;go_must (refine alW aG _ _ _ _ aG _ i _ underlying26 underlying3 hi hz aC n aC aC (by rw[h2];omega) aG aG ?_))
  go_ret;have hz7:(#[Value.bool false,.slice none 0 0,.int .i64 0,.bool false,.slice none 0 0,.int .i64 0,.bool false]:Array Value).size=7:=rfl;refine⟨_,rfl,ZC w _,λ_ _=>undef,.inr ⟨w.heap.size,grownCap w n 0 44,_,rfl,heap_alloc_new w _,bV _,grownCap_le_maxLen w n 0 _ (by unfold maxLen;omega),?_,λi j hi=>absurd hi (bn _),λ_ u hu=>?_⟩,λx hx=>?_,λi j hi=>absurd hi (bn _)⟩
  .simp only[amO,size_zeroCells,hz7,<-bR];congr 1;omega
  .rcases eU.1 hu with hu|hu
   .exact Zd _ u hu
   .exact Zd _ u hu
  .simp [Value.ownBlock]at hx;subst hx;exact⟨bc _,ZD w _⟩
abbrev xm(f:FuncId)(args:List E)(nl:Bool)(T:TypeId)(n sz:Nat)(el:Nat->Nat->E):Prop:=vz prog Tb f args nl T n sz el
def YP{f:FuncId}{fn:Func}{args:List E}{nl:Bool}{T0:TypeId}{n sz:Nat}{el:Nat->Nat->E}(wM:∀ (vs:Array Value) (w:World),(callFunc f vs).run prog w = .ok (.enter f vs) w)
 (hf:prog.funcs[f]? = some fn) (t:Tr prog Tb) (h:OO TT fn args (.row nl T0 n sz el) t=t.ex λ_=>.a (Bx.le (.row nl T0 n sz el) (.row nl T0 n sz el)) .nil):xm f args nl T0 n sz el:=
 vz.Pw K1 mixed P4 wM hf t h
def YE(t:pt)(x:Nat):PS:=⟨46,true,[(28,.e (iP x)),(27,.e (iP t.gT.length)),(26,.e (kH t.gT)),(1,.box 1 0)],[(1,.cells 25 [iP t.ie,kH t.gT,kG t.iw])]⟩
def YA(s:jB)(x:Nat):PS:=⟨85,true,[(31,.e (iP x)),(30,.e (iP s.tape.gT.length)),(29,.e (kH s.tape.gT)),(3,.box 3 0),(1,.box 1 0)],[(3,.cells 25 [iP s.tape.ie,kH s.tape.gT,kG s.tape.iw]),(1,.cells 28 [iP s.tape.ie,kH s.tape.gT,kG s.tape.iw,iP s.iI,gZ s.params])]⟩
noncomputable def YD(t:pt)(xs:List Iv)(p:Nat)(x:Nat):PS:=⟨75,true,[(26,.e (iP x)),(25,.e (iP t.gT.length)),(24,.e (kH t.gT)),(7,.own 22),(2,.e (iP p))],[(22,.row true 44 ((jI t.gT xs p x).length) 7 (iG (jI t.gT xs p x)))]⟩
def WQ(k:Nat)(h1:3<=k)(h2:k<=6):gR 242 [iP k] (iP 2):=
 ak call242 func242 (ae [ai 5 ((k:Int)==1) (aT aC)]<|.w ((k:Int)=3)
  (λk1=>af [tB 7 (aU k1)])
  (λk1=>ae [tB 7 (aT k1)]<|.w ((k:Int)=4)
   (λk2=>af [tB 8 (aU k2)])
   (λk2=>ae [tB 8 (aT k2)]<|.w ((k:Int)=5)
    (λk3=>af [tB 9 (aU k3)])
    (λk3=>ae [tB 9 (aT k3)]<|.w ((k:Int)=6)
     (λk4=>af [tB 10 (aU k4)])
     (λk4=>.x aC))))) 
def Ot(k:Nat)(h1:7<=k)(h2:k<=13):gR 242 [iP k] (iP 1):=
 ak call242 func242 (ae [ai 5 ((k:Int)==1) (aT aC),ai 7 ((k:Int)==3) (aT aC),ai 8 ((k:Int)==4) (aT aC),ai 9 ((k:Int)==5) (aT aC),ai 10 ((k:Int)==6) (aT aC)]<|.w ((k:Int)=7)
  (λk1=>af [tB 12 (aU k1)])
  (λk1=>ae [tB 12 (aT k1)]<|.w ((k:Int)=8)
   (λk2=>af [tB 13 (aU k2)])
   (λk2=>ae [tB 13 (aT k2)]<|.w ((k:Int)=9)
    (λk3=>af [tB 14 (aU k3)])
    (λk3=>ae [tB 14 (aT k3)]<|.w ((k:Int)=10)
     (λk4=>af [tB 15 (aU k4)])
     (λk4=>ae [tB 15 (aT k4)]<|.w ((k:Int)=11)
      (λk5=>af [tB 16 (aU k5)])
      (λk5=>ae [tB 16 (aT k5)]<|.w ((k:Int)=12)
       (λk6=>af [tB 17 (aU k6)])
       (λk6=>ae [tB 17 (aT k6)]<|.w ((k:Int)=13)
        (λk7=>af [tB 18 (aU k7)])
        (λk7=>.x aC)))))))) 
def WO(k:Nat)(h1:k=1):gR 242 [iP k] (iP 0):=
 ak call242 func242 (af [ah 5 ((k:Int)==1) (aU aC)]) 
def ahY{a b:Int}(h:pG a b=true):oN prog .eql 89 (.agg [iP a,iP b]) (.agg [iP 0,iP 0]) (.bool false):=by
 obtain⟨h1,h2,h3,h4⟩:=OI h;exact WK aS aS (a7 aC)
def nF.Br{o:mL}{m:Nat}(h:nF o m)(oe:o.kind≠1)(hk:o.kind<=6):3<=o.kind/\o.a<m/\o.b<m/\o.n=0/\o.cn=0/\o.cd=0:=by
 have h3:=h.k3.resolve_left oe;have ha:=h.a;have hb:=h.b;have hn:=h.n;have hc:=h.c;rw[aY oe]at ha hc;rw[aZ ⟨h3,hk⟩]at hb;rw[aY aC]at hn;exact⟨h3,ha,hb,hn,hc.1,hc.2⟩
def nF.pow{o:mL}{m:Nat}(h:nF o m)(hk:o.kind=8):o.a<m/\o.b=0/\o.n<=16/\o.cn=0/\o.cd=0:=by
 have ha:=h.a;have hb:=h.b;have hn:=h.n;have hc:=h.c;rw[aY aC]at ha hb hc;rw[aZ hk]at hn;exact⟨ha,hb,hn,hc.1,hc.2⟩
def nF.un{o:mL}{m:Nat}(h:nF o m)(hk:¬o.kind<=6)(vP:o.kind≠8):o.kind<=13/\o.a<m/\o.b=0/\o.n=0/\o.cn=0/\o.cd=0:=by
 have ha:=h.a;have hb:=h.b;have hn:=h.n;have hc:=h.c;rw[aY aC]at ha hb hc;rw[aY vP]at hn;exact⟨h.wX,ha,hb,hn,hc.1,hc.2⟩
def nF.num{o:mL}{m:Nat}(h:nF o m)(hk:o.kind=1):o.a=0/\o.b=0/\o.n=0/\pG o.cn o.cd=true:=by
 have ha:=h.a;have hb:=h.b;have hn:=h.n;have hc:=h.c;rw[aZ hk]at ha hc;rw[aY aC]at hb hn;exact⟨ha,hb,hn,hc⟩
def nF.C1{o:mL}{m:Nat}(h:nF o m)(hk:o.kind≠1):o.a<m:=by
 have ha:=h.a;rwa[aY hk]at ha
def aiq(o:mL)(m:Nat)(h:nF o m)(hk:o.kind=1):gR 273 [wk o,iP m] (bP true):=by
 obtain⟨h2,h3,h4,sG⟩:=h.num hk;exact ak call273 func273 (af [.c (WO o.kind aC),ai 14 (decide ((0:Int)<0)) aE,ah 17 ((0:Int)==0) aE,.c (J8 o.cn o.cd),ah 20 (pG o.cn o.cd) sG,ai 26 ((o.kind:Int)==8) (aT aC),ai 37 (decide ((0:Int)<0)) aE,ai 49 (decide ((1:Int)<0)) aE,.g (JZ ⟨aC,aC,aC,aC,aC,aC⟩:oN prog .eql 91 (.agg [iP 0,iP o.a,iP o.b,iP o.n,iP 0,iP 0]) (.agg [iP 0,iP 0,iP 0,iP 0,iP 0,iP 0]) (.bool true))]) 
def aip(o:mL)(m:Nat)(h:nF o m)(oe:o.kind≠1)(hk:o.kind<=6):gR 273 [wk o,iP m] (bP true):=by
 obtain⟨h1,h2,h3,h4,h5,h6⟩:=h.Br oe hk;exact ak call273 func273 (af [.c (WQ o.kind aC aC),ai 14 (decide ((2:Int)<0)) aE,ai 17 ((2:Int)==0) aE,ai 26 ((o.kind:Int)==8) (aT aC),ah 37 (decide ((0:Int)<2)) aE,tF 40 ((o.a:Int)<0) aC,tF 45 ((m:Int)<=o.a) aC,ah 49 (decide ((1:Int)<2)) aE,tF 52 ((o.b:Int)<0) aC,tF 57 ((m:Int)<=o.b) aC,.g (JZ ⟨aC,aC,aC,aC,aC,aC⟩:oN prog .eql 91 (.agg [iP 0,iP 0,iP 0,iP o.n,iP o.cn,iP o.cd]) (.agg [iP 0,iP 0,iP 0,iP 0,iP 0,iP 0]) (.bool true))]) 
def ais(o:mL)(m:Nat)(h:nF o m)(hk:o.kind=8):gR 273 [wk o,iP m] (bP true):=by
 obtain⟨h2,h3,h4,h5,h6⟩:=h.pow hk;exact ak call273 func273 (af [.c (Ot o.kind aC aC),ai 14 (decide ((1:Int)<0)) aE,ai 17 ((1:Int)==0) aE,ah 26 ((o.kind:Int)==8) (aU aC),tF 29 ((o.n:Int)<0) aC,tF 33 (16<(o.n:Int)) aC,ah 37 (decide ((0:Int)<1)) aE,tF 40 ((o.a:Int)<0) aC,tF 45 ((m:Int)<=o.a) aC,ai 49 (decide ((1:Int)<1)) aE,.g (JZ ⟨aC,aC,aC,aC,aC,aC⟩:oN prog .eql 91 (.agg [iP 0,iP 0,iP o.b,iP 0,iP o.cn,iP o.cd]) (.agg [iP 0,iP 0,iP 0,iP 0,iP 0,iP 0]) (.bool true))]) 
def ait(o:mL)(m:Nat)(h:nF o m)(hk:¬o.kind<=6)(vP:o.kind≠8):gR 273 [wk o,iP m] (bP true):=by
 obtain⟨h1,h2,h3,h4,h5,h6⟩:=h.un hk vP;exact ak call273 func273 (af [.c (Ot o.kind aC aC),ai 14 (decide ((1:Int)<0)) aE,ai 17 ((1:Int)==0) aE,ai 26 ((o.kind:Int)==8) (aT aC),ah 37 (decide ((0:Int)<1)) aE,tF 40 ((o.a:Int)<0) aC,tF 45 ((m:Int)<=o.a) aC,ai 49 (decide ((1:Int)<1)) aE,.g (JZ ⟨aC,aC,aC,aC,aC,aC⟩:oN prog .eql 91 (.agg [iP 0,iP 0,iP o.b,iP o.n,iP o.cn,iP o.cd]) (.agg [iP 0,iP 0,iP 0,iP 0,iP 0,iP 0]) (.bool true))]) 
def akG(o:mL)(m:Nat)(h:nF o m)(hk:o.kind=1):gR 59 [wk o,iP m] (bP true):=by
 obtain⟨h2,h3,h4,sG⟩:=h.num hk;exact ak call59 func59 (af [tF 8 ((o.a:Int)<0) aC,tF 12 ((o.b:Int)<0) aC,.g (ahY sG:oN prog .eql 89 (.agg [iP o.cn,iP o.cd]) (.agg [iP 0,iP 0]) (.bool false)),ah 21 ((o.kind:Int)==1) (aU aC),.c (J8 o.cn o.cd),ah 24 (pG o.cn o.cd) sG,ah 28 ((o.a:Int)==0) (aU aC),ah 33 ((o.b:Int)==0) (aU aC),ah 38 ((o.n:Int)==0) (aU aC)]) 
def akF(o:mL)(m:Nat)(h:nF o m)(oe:o.kind≠1)(hk:o.kind<=6):gR 59 [wk o,iP m] (bP true):=by
 obtain⟨h1,h2,h3,h4,h5,h6⟩:=h.Br oe hk;exact ak call59 func59 (ae [tF 8 ((o.a:Int)<0) aC,tF 12 ((o.b:Int)<0) aC,.g (Oo ⟨aC,aC⟩:oN prog .eql 89 (.agg [iP o.cn,iP o.cd]) (.agg [iP 0,iP 0]) (.bool true)),ai 21 ((o.kind:Int)==1) (aT aC)]<|.w ((o.kind:Int)=3)
  (λk1=>af [tB 41 (aU k1),tT 50 ((o.a:Int)<m) aC,tT 56 ((o.b:Int)<m) aC,ah 61 ((o.n:Int)==0) (aU aC)])
  (λk1=>ae [tB 41 (aT k1)]<|.w ((o.kind:Int)=4)
   (λk2=>af [tB 42 (aU k2),tT 50 ((o.a:Int)<m) aC,tT 56 ((o.b:Int)<m) aC,ah 61 ((o.n:Int)==0) (aU aC)])
   (λk2=>ae [tB 42 (aT k2)]<|.w ((o.kind:Int)=5)
    (λk3=>af [tB 43 (aU k3),tT 50 ((o.a:Int)<m) aC,tT 56 ((o.b:Int)<m) aC,ah 61 ((o.n:Int)==0) (aU aC)])
    (λk3=>ae [tB 43 (aT k3)]<|.w ((o.kind:Int)=6)
     (λk4=>af [tB 44 (aU k4),tT 50 ((o.a:Int)<m) aC,tT 56 ((o.b:Int)<m) aC,ah 61 ((o.n:Int)==0) (aU aC)])
     (λk4=>.x aC))))) 
def akI(o:mL)(m:Nat)(h:nF o m)(hk:o.kind=8):gR 59 [wk o,iP m] (bP true):=by
 obtain⟨h2,h3,h4,h5,h6⟩:=h.pow hk;exact ak call59 func59 (af [tF 8 ((o.a:Int)<0) aC,tF 12 ((o.b:Int)<0) aC,.g (Oo ⟨aC,aC⟩:oN prog .eql 89 (.agg [iP o.cn,iP o.cd]) (.agg [iP 0,iP 0]) (.bool true)),ai 21 ((o.kind:Int)==1) (aT aC),ai 41 ((o.kind:Int)==3) (aT aC),ai 42 ((o.kind:Int)==4) (aT aC),ai 43 ((o.kind:Int)==5) (aT aC),ai 44 ((o.kind:Int)==6) (aT aC),ah 64 ((o.kind:Int)==8) (aU aC),tT 70 ((o.a:Int)<m) aC,ah 75 ((o.b:Int)==0) (aU aC),tT 80 (0<=(o.n:Int)) aC,tT 85 ((o.n:Int)<=16) aC]) 
def akJ(o:mL)(m:Nat)(h:nF o m)(hk:¬o.kind<=6)(vP:o.kind≠8):gR 59 [wk o,iP m] (bP true):=by
 obtain⟨h1,h2,h3,h4,h5,h6⟩:=h.un hk vP;exact ak call59 func59 (ae [tF 8 ((o.a:Int)<0) aC,tF 12 ((o.b:Int)<0) aC,.g (Oo ⟨aC,aC⟩:oN prog .eql 89 (.agg [iP o.cn,iP o.cd]) (.agg [iP 0,iP 0]) (.bool true)),ai 21 ((o.kind:Int)==1) (aT aC),ai 41 ((o.kind:Int)==3) (aT aC),ai 42 ((o.kind:Int)==4) (aT aC),ai 43 ((o.kind:Int)==5) (aT aC),ai 44 ((o.kind:Int)==6) (aT aC),ai 64 ((o.kind:Int)==8) (aT aC)]<|.w ((o.kind:Int)=7)
  (λk1=>af [tB 88 (aU k1),tT 99 ((o.a:Int)<m) aC,ah 104 ((o.b:Int)==0) (aU aC),ah 109 ((o.n:Int)==0) (aU aC)])
  (λk1=>ae [tB 88 (aT k1)]<|.w ((o.kind:Int)=9)
   (λk2=>af [tB 89 (aU k2),tT 99 ((o.a:Int)<m) aC,ah 104 ((o.b:Int)==0) (aU aC),ah 109 ((o.n:Int)==0) (aU aC)])
   (λk2=>ae [tB 89 (aT k2)]<|.w ((o.kind:Int)=10)
    (λk3=>af [tB 90 (aU k3),tT 99 ((o.a:Int)<m) aC,ah 104 ((o.b:Int)==0) (aU aC),ah 109 ((o.n:Int)==0) (aU aC)])
    (λk3=>ae [tB 90 (aT k3)]<|.w ((o.kind:Int)=11)
     (λk4=>af [tB 91 (aU k4),tT 99 ((o.a:Int)<m) aC,ah 104 ((o.b:Int)==0) (aU aC),ah 109 ((o.n:Int)==0) (aU aC)])
     (λk4=>ae [tB 91 (aT k4)]<|.w ((o.kind:Int)=12)
      (λk5=>af [tB 92 (aU k5),tT 99 ((o.a:Int)<m) aC,ah 104 ((o.b:Int)==0) (aU aC),ah 109 ((o.n:Int)==0) (aU aC)])
      (λk5=>ae [tB 92 (aT k5)]<|.w ((o.kind:Int)=13)
       (λk6=>af [tB 93 (aU k6),tT 99 ((o.a:Int)<m) aC,ah 104 ((o.b:Int)==0) (aU aC),ah 109 ((o.n:Int)==0) (aU aC)])
       (λk6=>.x aC))))))) 
def air(o:mL)(m:Nat)(h:nF o m):gR 273 [wk o,iP (m:Int)] (bP true):=by
 by_cases oe:o.kind=1
 .exact aiq o m h oe
 by_cases hk:o.kind<=6
 .exact aip o m h oe hk
 .by_cases vP:o.kind=8
  .exact ais o m h vP
  .exact ait o m h hk vP
def akH(o:mL)(m:Nat)(h:nF o m):gR 59 [wk o,iP (m:Int)] (bP true):=by
 by_cases oe:o.kind=1
 .exact akG o m h oe
 by_cases hk:o.kind<=6
 .exact akF o m h oe hk
 .by_cases vP:o.kind=8
  .exact akI o m h vP
  .exact akJ o m h hk vP
def ak2(t:pt)(k:Nat)(hk:k<t.ie+t.gT.length)(h8:t.ie<=8)(aeY:t.gT.length<=200):gR 274 [iP k,(.iN 3 λj_=>[iP t.ie,kH t.gT,kG t.iw].getD j_ .any)] (bP false):=
 ak call274 func274 (af [tF 5 ((k:Int)<0) aC,ik ((t.ie:Int)+t.gT.length) aC,tF 14 (((t.ie+t.gT.length:Nat):Int)<=k) aC]) 
def YF(t:pt)(h:yl t):gR 240 [GW t] (bP true):=by
 have h8:=h.ie;have DG:=h.gT;have DH:=h.iw;exact ak call240 func240 (af [tF 7 ((t.ie:Int)<0) aC,tF 11 (8<(t.ie:Int)) aC,tF 17 (200<(t.gT.length:Int)) aC,tF 23 (200<(t.iw.length:Int)) aC,.s (Sp.jH (YE t) 0 t.gT.length aC (λx hx mw=>by
    have il:=h.op x aC;exact iB (af [tT 29 ((x:Int)<t.gT.length) aC,iX (x:Int) (t.gT.length) aC,ik ((t.ie:Int)+x) aC,ag [wk (t.gT.getD x iy),iP ((t.ie+x:Nat):Int)] (air _ _ il),ik ((x:Int)+1) aC]) aF)
  (λhx=>by
    exact iB (af [tF 29 ((t.gT.length:Int)<t.gT.length) aC]) aF) aI:jD 4 f240 (YE t 0) (.exit 0) ⟨46,true,[(1,.box 1 0)],[(1,.cells 25 [iP t.ie,kH t.gT,kG t.iw])]⟩) .nil,.c (Nr true _ _ 274 [(.iN 3 λj_=>[iP t.ie,kH t.gT,kG t.iw].getD j_ .any)] (λ_=>false) (λi hi=>ak2 t _ (h.out i hi) h8 DG) aC (λ_ _=>rfl):gR 60 [kG t.iw,.fn 274 [(.iN 3 λj_=>[iP t.ie,kH t.gT,kG t.iw].getD j_ .any)]] _)]) 
def akL(t:pt)(k:Nat)(hk:k<t.ie+t.gT.length)(h8:t.ie<=8)(aeY:t.gT.length<=200):gR 61 [iP k,(.iN 3 λj_=>[iP t.ie,kH t.gT,kG t.iw].getD j_ .any)] (bP false):=
 ak call61 func61 (af [tF 5 ((k:Int)<0) aC,ik ((t.ie:Int)+t.gT.length) aC,tF 14 (((t.ie+t.gT.length:Nat):Int)<=k) aC]) 
def akN(x:Iv)(hx:x.gY)(xa:x.all=false):gR 62 [ib x] (bP false):=by
 obtain⟨w1,w2,w3⟩:=ud hx xa;exact ak call62 func62 (af [ai 4 x.all xa,ag [gV x.lo] (ng _ aD),ag [gV x.hi] (ng _ aD),ag [gV x.lo,gV x.hi] (kI _ _ aD aD),tF 23 (0<(iO x.lo x.hi)) aC]) 
def zI(s:jB)(h:lM s):gR 24 [kU s] (bP true):=by
 have h8:=h.tape.ie;have DG:=h.tape.gT;have DH:=h.tape.iw;have s1:=h.s1;have s4:=h.s4;have ho:=h.iw;have hi:=h.ie;have p4:=h.p4;exact ak call24 func24 (af [tF 10 ((s.tape.ie:Int)<0) aC,tF 14 (8<(s.tape.ie:Int)) aC,tF 20 (200<(s.tape.gT.length:Int)) aC,tF 26 (200<(s.tape.iw.length:Int)) aC,.s (Sp.jH (YA s) 0 s.tape.gT.length aC (λx hx mw=>by
    have il:=h.tape.op x aC;exact iB (af [tT 32 ((x:Int)<s.tape.gT.length) aC,iX (x:Int) (s.tape.gT.length) aC,ik ((s.tape.ie:Int)+x) aC,ag [wk (s.tape.gT.getD x iy),iP ((s.tape.ie+x:Nat):Int)] (akH _ _ il),ik ((x:Int)+1) aC]) aF)
  (λhx=>by
    exact iB (af [tF 32 ((s.tape.gT.length:Int)<s.tape.gT.length) aC]) aF) aI:jD 5 Tryz.f24 (YA s 0) (.exit 0) ⟨85,true,[(3,.box 3 0),(1,.box 1 0)],[(3,.cells 25 [iP s.tape.ie,kH s.tape.gT,kG s.tape.iw]),(1,.cells 28 [iP s.tape.ie,kH s.tape.gT,kG s.tape.iw,iP s.iI,gZ s.params])]⟩) .nil,.c (Nr true _ _ 61 [(.iN 3 λj_=>[iP s.tape.ie,kH s.tape.gT,kG s.tape.iw].getD j_ .any)] (λ_=>false) (λi hi=>akL s.tape _ (h.tape.out i hi) h8 DG) aC (λ_ _=>rfl):gR 60 [kG s.tape.iw,.fn 61 [(.iN 3 λj_=>[iP s.tape.ie,kH s.tape.gT,kG s.tape.iw].getD j_ .any)]] _),tF 50 ((s.iI:Int)<1) aC,tF 54 (4<(s.iI:Int)) aC,ai 62 ((s.tape.iw.length:Int) != (s.iI:Int)) (vc aC),
  ik ((s.iI:Int)+s.params.length) aC,ai 73 ((s.tape.ie:Int) != ((s.iI+s.params.length:Nat):Int)) (vc aC),tF 79 (4<(s.params.length:Int)) aC,.c (Cm true _ _ 62 [] (λ_=>false) (λi hi=>akN _ (h.params i hi).1 (h.params i hi).2) aC (λ_ _=>rfl):gR 22 [gZ s.params,.fn 62 []] _)]) 
def Qh(o:mL)(x y:Iv)(p:Nat)(hx:x.gY)(hy:y.gY)(r1:3<=o.kind)(r2:o.kind<=13)(r3:o.n<=16)(ic:8<=p)(gX:p<=512)(hF:o.kind<=8\/uq):gR 243 [iP o.kind,iP o.n,ib x,ib y,iP p] (ib (mE o x y p)):=
 ak call243 func243 (.w ((o.kind:Int)=3)
  (λk1=>ae [tB 13 (aU k1),.c (yZ x y p aD aD aC aC)]<|rQ (ib (jE x y p)) (ib (mE o x y p)) (by unfold mE;simp[(aC:o.kind=3)]))
  (λk1=>ae [tB 13 (aT k1)]<|.w ((o.kind:Int)=4)
   (λk2=>ae [tB 19 (aU k2),.c (JB x y p aD aD aC aC)]<|rQ (ib (rJ x y p)) (ib (mE o x y p)) (by unfold mE;simp[(aC:¬o.kind=3),(aC:o.kind=4)]))
   (λk2=>ae [tB 19 (aT k2)]<|.w ((o.kind:Int)=5)
    (λk3=>ae [tB 25 (aU k3),.c (tp x y p aD aD aC aC)]<|rQ (ib (iz x y p)) (ib (mE o x y p)) (by unfold mE;simp[(aC:¬o.kind=3),(aC:¬o.kind=4),(aC:o.kind=5)]))
    (λk3=>ae [tB 25 (aT k3)]<|.w ((o.kind:Int)=6)
     (λk4=>ae [tB 31 (aU k4),.c (y3 x y p aD aD aC aC)]<|rQ (ib (jj x y p)) (ib (mE o x y p)) (by unfold mE;simp[(aC:¬o.kind=3),(aC:¬o.kind=4),(aC:¬o.kind=5),(aC:o.kind=6)]))
     (λk4=>ae [tB 31 (aT k4)]<|.w ((o.kind:Int)=7)
      (λk5=>ae [tB 37 (aU k5),.c (Jz x aD)]<|rQ (ib (pD x)) (ib (mE o x y p)) (by unfold mE;simp[(aC:¬o.kind=3),(aC:¬o.kind=4),(aC:¬o.kind=5),(aC:¬o.kind=6),(aC:o.kind=7)]))
      (λk5=>ae [tB 37 (aT k5)]<|.w ((o.kind:Int)=8)
       (λk6=>ae [tB 41 (aU k6),ag [ib x,iP o.n,iP p] (Hz _ _ _ aD aC aC aC)]<|rQ (ib (mD x o.n p)) (ib (mE o x y p)) (by unfold mE;simp[(aC:¬o.kind=3),(aC:¬o.kind=4),(aC:¬o.kind=5),(aC:¬o.kind=6),(aC:¬o.kind=7),(aC:o.kind=8)]))
       (λk6=>ae [tB 41 (aT k6)]<|.w ((o.kind:Int)=9)
        (λk7=>ae [tB 47 (aU k7),ag [ib x,iP p] (SB _ aD _ aC aC (hF.resolve_left aC))]<|rQ (ib (uD x p)) (ib (mE o x y p)) (by unfold mE;simp[(aC:¬o.kind=3),(aC:¬o.kind=4),(aC:¬o.kind=5),(aC:¬o.kind=6),(aC:¬o.kind=7),(aC:¬o.kind=8),(aC:o.kind=9)]))
        (λk7=>ae [tB 47 (aT k7)]<|.w ((o.kind:Int)=10)
         (λk8=>ae [tB 52 (aU k8),ag [ib x,iP p] (SC _ aD _ aC aC (hF.resolve_left aC))]<|rQ (ib (uE x p)) (ib (mE o x y p)) (by unfold mE;simp[(aC:¬o.kind=3),(aC:¬o.kind=4),(aC:¬o.kind=5),(aC:¬o.kind=6),(aC:¬o.kind=7),(aC:¬o.kind=8),(aC:¬o.kind=9),(aC:o.kind=10)]))
         (λk8=>ae [tB 52 (aT k8)]<|.w ((o.kind:Int)=11)
          (λk9=>ae [tB 57 (aU k9),ag [ib x,iP p] (SD _ aD _ aC aC (hF.resolve_left aC))]<|rQ (ib (uF x p)) (ib (mE o x y p)) (by unfold mE;simp[(aC:¬o.kind=3),(aC:¬o.kind=4),(aC:¬o.kind=5),(aC:¬o.kind=6),(aC:¬o.kind=7),(aC:¬o.kind=8),(aC:¬o.kind=9),(aC:¬o.kind=10),(aC:o.kind=11)]))
          (λk9=>ae [tB 57 (aT k9)]<|.w ((o.kind:Int)=12)
           (λk10=>ae [tB 62 (aU k10),ag [ib x,iP p] (Sz _ aD _ aC aC (hF.resolve_left aC))]<|rQ (ib (uC x p)) (ib (mE o x y p)) (by unfold mE;simp[(aC:¬o.kind=3),(aC:¬o.kind=4),(aC:¬o.kind=5),(aC:¬o.kind=6),(aC:¬o.kind=7),(aC:¬o.kind=8),(aC:¬o.kind=9),(aC:¬o.kind=10),(aC:¬o.kind=11),(aC:o.kind=12)]))
           (λk10=>ae [tB 62 (aT k10)]<|.w ((o.kind:Int)=13)
            (λk11=>ae [tB 67 (aU k11),ag [ib x,iP p] (SG _ aD _ aC aC (hF.resolve_left aC))]<|rQ (ib (o9 x p)) (ib (mE o x y p)) (by unfold mE;simp[(aC:¬o.kind=3),(aC:¬o.kind=4),(aC:¬o.kind=5),(aC:¬o.kind=6),(aC:¬o.kind=7),(aC:¬o.kind=8),(aC:¬o.kind=9),(aC:¬o.kind=10),(aC:¬o.kind=11),(aC:¬o.kind=12),(aC:o.kind=13)]))
            (λk11=>.x aC)))))))))))) 
def aaR{nl:Bool}{T n n' sz:Nat}{f g h:Nat->Nat->E}(hn:n=n')(hh:∀ i j,i<n->j<sz->g i j=h i j/\(h i j).nr 2=true):Bx.le (.row nl T (0+n) sz λi j=>if i<0 then f i j else g (i-0) j) (.row nl T n' sz h):=
 .row aC λi j hi hj=>by
  have mo:i<n:= aC ;simp only[bn,bk,dt];exact⟨.iM (hh i j mo hj).1,(hh i j mo hj).2⟩
def Hv(r:List Iv)(h0:0<r.length)(hl:r.length<=1000):xm 198 [gZ r] true 44 r.length 7 (iG r):=
 YP call198 func198 (ae [.a (aC:0<r.length),.bo,.a (aC:(0+r.length)*88<=140737488355328)]<|.rb (aaR rfl λi j hi hj=>⟨rfl,tn _ _ hj⟩:Bx.le (.row true 44 (0+r.length) 7 (λi_ j_=>if i_<0 then(λi_ j_=>([]:List E).getD (i_*7+j_) (.v (.bool false))) i_ j_ else(E.kJ (gZ r)) (i_-0) j_)) (.row true 44 r.length 7 (iG r)))) aF 
def PF{T n n' x:Nat}{t:pt}{xs:List Iv}{p:Nat}{y:Iv}(hn:n=(jI t.gT xs p x).length)(tX:n'=(jI t.gT xs p (x+1)).length)(hy:xt (t.gT.getD x iy) (jI t.gT xs p x) p=y):
 Bx.le (.row true T (n+[y].length) 7 λi j=>if i<n then iG (jI t.gT xs p x) i j else(E.kJ (gZ [y])) (i-n) j) (.row true T n' 7 (iG (jI t.gT xs p (x+1)))):=by
 subst tX hy;exact JC hn
def D3{o:mL}{m:Nat}(h:nF o m):o.n<=16:=by
 have:=h.n;split at this<;>omega
def ak0(t:pt)(xs:List Iv)(p:Nat)(h:yl t)(h1:1<=xs.length)(hx:xs.length=t.ie)(hv:lY xs)(ic:8<=p)(gX:p<=512):gR 219 [GW t,gZ xs,iP p] (gZ (jI t.gT xs p t.gT.length)):=by
 have h8:=h.ie;have DG:=h.gT;exact ak call219 func219 (af [.c (YF t aD),ai 19 ((xs.length:Int) != (t.ie:Int)) (vc hx),.cn (Hv _ aC aC:xm 198 [gZ xs] true 44 xs.length 7 (iG xs)),.s (Sp.jH (YD t xs p) 0 t.gT.length aC (λx hx mw=>by
    have il:=h.op x aC;have th:=KK t.gT hv (aC:1<=p) (aC:p<=4096) x;have Jd:=PE t.gT xs p x;have w1:=th (t.gT.getD x iy).a;by_cases oe:((t.gT.getD x iy)).kind=1
    .have nN:((t.gT.getD x iy)).kind=1:=oe;obtain⟨o1,o2,o3,sG⟩:=il.num nN;have pA:xt (t.gT.getD x iy) (jI t.gT xs p x) p=(qK (t.gT.getD x iy).cn (t.gT.getD x iy).cd p):=by unfold xt;rw[aZ nN]
     have rE:=pE (qK (t.gT.getD x iy).cn (t.gT.getD x iy).cd p);exact iB (ae [tT 27 ((x:Int)<t.gT.length) aC,iX (x:Int) (t.gT.length) aC,.c (WO ((t.gT.getD x iy).kind:Nat) aC),ah 50 ((0:Int)==0) aE,.c (W3 ((t.gT.getD x iy).cn) ((t.gT.getD x iy).cd) p aD aC aC),.o 71 (.e (lG _):aj (.sl true 1 7 λi_ j_=>(iF (qK ((t.gT.getD x iy).cn) ((t.gT.getD x iy).cd) p)).getD (i_*7+j_) (.v (.bool false))) (gZ [qK ((t.gT.getD x iy).cn) ((t.gT.getD x iy).cd) p])),.a (aC:((jI t.gT xs p x).length+[qK ((t.gT.getD x iy).cn) ((t.gT.getD x iy).cd) p].length)*88<=140737488355328),ik ((x:Int)+1) aC]<|.e (af [.b 22 (PF rfl rfl pA:Bx.le (.row true 44 ((jI t.gT xs p x).length+[qK ((t.gT.getD x iy).cn) ((t.gT.getD x iy).cd) p].length) 7 (λi_ j_=>if i_<(jI t.gT xs p x).length then(iG (jI t.gT xs p x)) i_ j_ else(E.kJ (gZ [qK ((t.gT.getD x iy).cn) ((t.gT.getD x iy).cd) p])) (i_-(jI t.gT xs p x).length) j_)) (.row true 44 ((jI t.gT xs p (x+1)).length) 7 (iG (jI t.gT xs p (x+1)))))])) aF 
    .by_cases hk:((t.gT.getD x iy)).kind<=6
     .have oE:((t.gT.getD x iy)).kind≠1:=oe;have nN:((t.gT.getD x iy)).kind<=6:=hk;have pA:xt (t.gT.getD x iy) (jI t.gT xs p x) p=(mE (t.gT.getD x iy) ((jI t.gT xs p x).getD ((t.gT.getD x iy).a) gU) ((jI t.gT xs p x).getD ((t.gT.getD x iy).b) gU) p):=by unfold xt xv;rw[aY oE,a6 nN];rfl
      obtain⟨o1,o2,o3,o4,o5,o6⟩:=il.Br oE nN;have w2:=th (t.gT.getD x iy).b;have o7:=il.wX;have rE:=pE (mE (t.gT.getD x iy) ((jI t.gT xs p x).getD ((t.gT.getD x iy).a) gU) ((jI t.gT xs p x).getD ((t.gT.getD x iy).b) gU) p);exact iB (ae [tT 27 ((x:Int)<t.gT.length) aC,iX (x:Int) (t.gT.length) aC,.c (WQ ((t.gT.getD x iy).kind:Nat) aC aC),ai 50 ((2:Int)==0) aE,ai 56 ((2:Int)==1) aE,iX ((t.gT.getD x iy).a:Int) ((jI t.gT xs p x).length) aC,.a (aC:(t.gT.getD x iy).a<(jI t.gT xs p x).length),
       iX ((t.gT.getD x iy).b:Int) ((jI t.gT xs p x).length) aC,.a (aC:(t.gT.getD x iy).b<(jI t.gT xs p x).length),ag [iP ((t.gT.getD x iy).kind:Int),iP ((t.gT.getD x iy).n:Int),ib ((jI t.gT xs p x).getD (t.gT.getD x iy).a gU),ib ((jI t.gT xs p x).getD (t.gT.getD x iy).b gU),iP p] (Qh (t.gT.getD x iy) _ _ _ aD aD aC aC aC aC aC il.f),.o 71 (.e (lG _):aj (.sl true 1 7 λi_ j_=>(iF (mE (t.gT.getD x iy) ((jI t.gT xs p x).getD (t.gT.getD x iy).a gU) ((jI t.gT xs p x).getD (t.gT.getD x iy).b gU) p)).getD (i_*7+j_) (.v (.bool false))) (gZ [mE (t.gT.getD x iy) ((jI t.gT xs p x).getD (t.gT.getD x iy).a gU) ((jI t.gT xs p x).getD (t.gT.getD x iy).b gU) p])),.a (aC:((jI t.gT xs p x).length+[mE (t.gT.getD x iy) ((jI t.gT xs p x).getD (t.gT.getD x iy).a gU) ((jI t.gT xs p x).getD (t.gT.getD x iy).b gU) p].length)*88<=140737488355328),
       ik ((x:Int)+1) aC]<|.e (af [.b 22 (PF rfl rfl pA:Bx.le (.row true 44 ((jI t.gT xs p x).length+[mE (t.gT.getD x iy) ((jI t.gT xs p x).getD (t.gT.getD x iy).a gU) ((jI t.gT xs p x).getD (t.gT.getD x iy).b gU) p].length) 7 (λi_ j_=>if i_<(jI t.gT xs p x).length then(iG (jI t.gT xs p x)) i_ j_ else(E.kJ (gZ [mE (t.gT.getD x iy) ((jI t.gT xs p x).getD (t.gT.getD x iy).a gU) ((jI t.gT xs p x).getD (t.gT.getD x iy).b gU) p])) (i_-(jI t.gT xs p x).length) j_)) (.row true 44 ((jI t.gT xs p (x+1)).length) 7 (iG (jI t.gT xs p (x+1)))))])) aF 
     .have oE:((t.gT.getD x iy)).kind≠1:=oe;have nN:¬((t.gT.getD x iy)).kind<=6:=hk;have pA:xt (t.gT.getD x iy) (jI t.gT xs p x) p=(mE (t.gT.getD x iy) ((jI t.gT xs p x).getD ((t.gT.getD x iy).a) gU) gU p):=by unfold xt xv;rw[aY oE,a7 nN];rfl
      have w2:=lL;have o2:=il.C1 oE;have o7:=il.wX;have o8:=D3 il;have rE:=pE (mE (t.gT.getD x iy) ((jI t.gT xs p x).getD ((t.gT.getD x iy).a) gU) gU p);exact iB (ae [tT 27 ((x:Int)<t.gT.length) aC,iX (x:Int) (t.gT.length) aC,.c (Ot ((t.gT.getD x iy).kind:Nat) aC aC),ai 50 ((1:Int)==0) aE,ah 56 ((1:Int)==1) aE,iX ((t.gT.getD x iy).a:Int) ((jI t.gT xs p x).length) aC,.a (aC:(t.gT.getD x iy).a<(jI t.gT xs p x).length),.o 66 (.e KO:aj (.agg [bP false,.v (.slice none 0 0),iP 0,bP false,.v (.slice none 0 0),iP 0,bP true]) (ib gU)),ag [iP ((t.gT.getD x iy).kind:Int),iP ((t.gT.getD x iy).n:Int),ib ((jI t.gT xs p x).getD (t.gT.getD x iy).a gU),ib gU,iP p] (Qh (t.gT.getD x iy) _ _ _ aD aD aC aC aC aC aC il.f),.o 71 (.e (lG _):aj (.sl true 1 7 λi_ j_=>(iF (mE (t.gT.getD x iy) ((jI t.gT xs p x).getD (t.gT.getD x iy).a gU) gU p)).getD (i_*7+j_) (.v (.bool false))) (gZ [mE (t.gT.getD x iy) ((jI t.gT xs p x).getD (t.gT.getD x iy).a gU) gU p])),.a (aC:((jI t.gT xs p x).length+[mE (t.gT.getD x iy) ((jI t.gT xs p x).getD (t.gT.getD x iy).a gU) gU p].length)*88<=140737488355328),ik ((x:Int)+1) aC]<|.e (af [.b 22 (PF rfl rfl pA:Bx.le (.row true 44 ((jI t.gT xs p x).length+[mE (t.gT.getD x iy) ((jI t.gT xs p x).getD (t.gT.getD x iy).a gU) gU p].length) 7 (λi_ j_=>if i_<(jI t.gT xs p x).length then(iG (jI t.gT xs p x)) i_ j_ else(E.kJ (gZ [mE (t.gT.getD x iy) ((jI t.gT xs p x).getD (t.gT.getD x iy).a gU) gU p])) (i_-(jI t.gT xs p x).length) j_)) (.row true 44 ((jI t.gT xs p (x+1)).length) 7 (iG (jI t.gT xs p (x+1)))))])) aF)
  (λhx=>by
    exact iB (ae [tF 27 ((t.gT.length:Int)<t.gT.length) aC,.z 22]<|.e (af [.o 7 (.e (DQ aH):aj (.sl true ((jI t.gT xs p t.gT.length).length) 7 (iG (jI t.gT xs p t.gT.length))) (gZ (jI t.gT xs p t.gT.length)))])) aF) aI:jD 5 f219 (YD t xs p 0) (.exit 0) ⟨75,true,[(7,.e (gZ (jI t.gT xs p t.gT.length)))],[]⟩) (af [.b 22 (.iM rfl:Bx.le (.row true 44 xs.length 7 (iG xs)) (.row true 44 ((jI t.gT xs p 0).length) 7 (iG (jI t.gT xs p 0))))])]) 
def nZ(m:List (List Iv)):Nat->List Iv
 | 0=>[]
 |k+1=>nZ m k++m.getD k []
def Lq(m:List (List Iv))(k:Nat):(nZ m (k+1)).length=(nZ m k).length+(m.getD k []).length:=by simp[nZ]
def agj{T n n':Nat}{xs r:List Iv}(hn:n=xs.length)(tX:n'=(xs++r).length):Bx.le (.row true T (n+r.length) 7 λi j=>if i<n then iG xs i j else(E.kJ (gZ r)) (i-n) j) (.row true T n' 7 (iG (xs++r))):=by
 subst hn tX;refine .row aH λi j hi hj=>⟨.iM ?_,tn _ _ hj⟩
 by_cases h:i<xs.length
 .rw [aZ h];show(iF (xs.getD i gU)).getD j .any=(iF ((xs++r).getD i gU)).getD j .any;congr 2;simp[bd,dw h]
 .rw [aY h];show(iF (r.getD (i-xs.length) gU)).getD j .any=(iF ((xs++r).getD i gU)).getD j .any;congr 2;simp[bd,fI (aC:xs.length<=i)]
def DW(a b:List Iv):E.le (.sl true 2 1 λi j=>[gZ a,gZ b].getD (i*1+j) (.v (.bool false))) (kS [a,b]):=.sl λi j hi hj=>by
 obtain rfl:j=0:= aC ;obtain rfl|rfl:i=0\/i=1:= aC 
 all_goals exact⟨.refl _,rfl⟩
def ajx{n:Nat}:E.le (.sl true n 1 λk _=>.sl true ((λ_=>0) k) 7 ((λ_ _ _=>.any) k)) (kS (List.replicate n [])):=by
 have h:kS (List.replicate n []) = .sl true n 1 λi _=>gZ ((List.replicate n []).getD i []):=by unfold kS;rw[List.length_replicate]
 rw[h];refine .sl λi j hi hj=>⟨?_,rfl⟩
 have e:(List.replicate n ([]:List Iv)).getD i []=[]:=by simp[bd,hi]
 rw[e];exact .sl λq _ hq _=>absurd hq (bn _)
def Q5(m:List (List Iv))(x:Nat):PS:=⟨36,true,[(11,.e (iP x)),(10,.e (iP m.length)),(9,.e (kS m)),(3,.e (iP ((nZ m x).length:Int))),(0,.e (kS m))],[]⟩
def Q6(m:List (List Iv))(x:Nat):PS:=⟨36,true,[(27,.e (iP x)),(26,.e (iP m.length)),(25,.e (kS m)),(6,.own 24)],[(24,.row true 44 ((nZ m x).length) 7 (iG (nZ m x)))]⟩
noncomputable def Te(t:pt)(xs:List Iv)(p:Nat)(x:Nat):PS:=⟨91,true,[(43,.e (iP x)),(42,.e (iP 0)),(11,.own 41),(10,.e (gZ (jI t.gT xs p t.gT.length))),(4,.box 4 0),(3,.e (iP p))],[(41,.jC true 26 44 t.iw.length 7 (λ_=>0) (λ_ _ _=>.any) .none),(4,.cells 25 [iP t.ie,kH t.gT,kG t.iw])]⟩
noncomputable def Td(t:pt)(xs:List Iv)(p:Nat)(x:Nat):PS:=⟨91,true,[(16,.own 16),(77,.e (iP x)),(76,.e (iP t.iw.length)),(75,.e (kG t.iw)),(11,.own 41),(10,.e (gZ (jI t.gT xs p t.gT.length)))],[(16,.row true 44 x 7 (iG ((List.range x).map (λj_=>(jI t.gT xs p t.gT.length).getD (t.iw.getD j_ 0) gU)))),(41,.jC true 26 44 t.iw.length 7 (λ_=>0) (λ_ _ _=>.any) .none)]⟩
def acg(m:List (List Iv))(hl:m.length<=1000)(hb:∀ k,k<=m.length->(nZ m k).length<=1000):gR 183 [kS m] (gZ (nZ m m.length)):=by
 have Aq:=hb m.length (bc _);exact ak call183 func183 (af [.s (Sp.jH (Q5 m) 0 m.length aC (λx hx mw=>by
    have iQ:=hb (x+1) aC;rw[Lq]at iQ;exact iB (ae [tT 12 ((x:Int)<m.length) aC,iX (x:Int) (m.length) aC,ik (((nZ m x).length:Int)+((m.getD x []).length:Int)) aC,tF 20 ((((nZ m x).length+(m.getD x []).length:Nat):Int)<0) aC,ik ((x:Int)+1) aC]<|.e (af [.o 3 (aq (((nZ m x).length+(m.getD x []).length:Nat):Int) ((nZ m (x+1)).length:Int) (by rw[Lq]))])) aF)
  (λhx=>by
    exact iB (af [tF 12 ((m.length:Int)<m.length) aC]) aF) aI:jD 3 f183 (Q5 m 0) (.exit 0) ⟨36,true,[(3,.e (iP ((nZ m m.length).length:Int))),(0,.e (kS m))],[]⟩) (af [.o 3 (aq 0 ((nZ m 0).length:Int) rfl)]),.cn (aeT _ aC:xm 221 [.v (.slice none 0 0),iP ((nZ m m.length).length:Int)] true 44 0 7 (iG [])),.s (Sp.jH (Q6 m) 0 m.length aC (λx hx mw=>by
    have iQ:=hb (x+1) aC;rw[Lq]at iQ;exact iB (ae [tT 28 ((x:Int)<m.length) aC,iX (x:Int) (m.length) aC,.a (aC:((nZ m x).length+(m.getD x []).length)*88<=140737488355328),ik ((x:Int)+1) aC]<|.e (af [.b 24 (agj rfl rfl:Bx.le (.row true 44 ((nZ m x).length+(m.getD x []).length) 7 (λi_ j_=>if i_<(nZ m x).length then(iG (nZ m x)) i_ j_ else(E.kJ (gZ (m.getD x []))) (i_-(nZ m x).length) j_)) (.row true 44 ((nZ m (x+1)).length) 7 (iG (nZ m (x+1)))))])) aF)
  (λhx=>by
    exact iB (ae [tF 28 ((m.length:Int)<m.length) aC,.z 24]<|.e (af [.o 6 (.e (DQ aH):aj (.sl true ((nZ m m.length).length) 7 (iG (nZ m m.length))) (gZ (nZ m m.length)))])) aF) aI:jD 11 f183 (Q6 m 0) (.exit 2) ⟨36,true,[(6,.e (gZ (nZ m m.length)))],[]⟩) (af [.b 24 (.iM rfl:Bx.le (.row true 44 0 7 (iG [])) (.row true 44 ((nZ m 0).length) 7 (iG (nZ m 0))))])]) 
def RA(a b:List Iv)(ha:a.length<=400)(hb:b.length<=400):gR 183 [kS [a,b]] (gZ (a++b)):=by
 have e1:nZ [a,b] 1=a:=rfl;have e2:nZ [a,b] 2=a++b:=rfl;have:=acg [a,b] aH λk hk=>by
  have hk:k<=2:=hk;rcases k with _|_|_|k
  .exact bV _
  .rw [e1];omega
  .rw [e2,cA];omega
  .omega
 rwa[show[a,b].length=2 from rfl,e2]at this
def L5(p:Int):gR 181 [iP p] (bP (mI p)):=
 ak call181 func181 (.w (8<=p)
  (λk1=>ae [tB 4 (a6 k1)]<|rQ (bP (decide (p<=512))) (bP (mI p)) (by unfold mI;simp[k1]))
  (λk1=>ae [tB 4 (a7 k1)]<|rQ (bP false) (bP (mI p)) (by unfold mI;simp[k1]))) 
def ad8(x:Iv)(hx:x.gY):gR 241 [ib x] (bP false):=
 ak call241 func241 (af [.c (re x aD)]) 
def ad9(t:pt)(xs:List Iv)(p:Nat)(h:yl t)(h1:1<=xs.length)(hx:xs.length=t.ie)(hv:lY xs)(ic:8<=p)(gX:p<=512):gR 218 [GW t,gZ xs,iP p] (bP true):=by
 have h8:=h.ie;exact ak call218 func218 (af [.c (YF t aD),ah 14 ((xs.length:Int)==t.ie) (N6 hx),.c (L5 (p:Int)),ah 18 (mI (p:Int)) (rY.2 ⟨aC,aC⟩),.c (Cm true _ _ 241 [] (λ_=>false) (λi hi=>ad8 _ (hv i)) aC (λ_ _=>rfl):gR 22 [gZ xs,.fn 241 []] _)]) 
def adU(t:pt)(xs:List Iv)(p:Nat):(List.range t.iw.length).map (λj=>(jI t.gT xs p t.gT.length).getD (t.iw.getD j 0) gU)=kn t xs p:=by
 unfold kn;apply fH;intro i;rw[cr,cr];by_cases hi:i<t.iw.length
 .rw [bt (by simpa using hi),bt hi];simp[bd,hi]
 .rw [b7 (by simpa using hi),b7 aC];rfl
def Tf(t:pt)(xs:List Iv)(p:Nat)(h:yl t)(h1:1<=xs.length)(hx:xs.length=t.ie)(hv:lY xs)(ic:8<=p)(gX:p<=512):gR 182 [GW t,gZ xs,iP 0,iP p] (.ig [gZ (kn t xs p),kS (List.replicate t.iw.length [])]):=by
 have h8:=h.ie;have DG:=h.gT;have DH:=h.iw;exact ak call182 func182 (ae [.c (ad9 t xs p h h1 hx hv aC aC),ai 26 (decide ((0:Int)<0)) aE,tF 32 ((t.ie:Int)<0) aC,.c (ak0 t xs p h h1 hx hv aC aC),.a (aC:0<=((t.iw.length:Int):Int)/\((t.iw.length:Int):Int)<=((t.iw.length:Int):Int)),.a (aC:((24:Nat):Int)*(t.iw.length:Int)<=281474976710656/\((t.iw.length:Int):Int)<=9223372036854775807),.s (Sp.jH (Te t xs p) 0 0 aC (λx hx mw=>by
    exact absurd mw (bn _))
  (λhx=>by
    exact iB (af [ai 44 (decide ((0:Int)<0)) aE]) aF) aI:jD 6 f182 (Te t xs p 0) (.exit 0) ⟨91,true,[(11,.own 41),(10,.e (gZ (jI t.gT xs p t.gT.length))),(4,.box 4 0)],[(41,.jC true 26 44 t.iw.length 7 (λ_=>0) (λ_ _ _=>.any) .none),(4,.cells 25 [iP t.ie,kH t.gT,kG t.iw])]⟩) .nil,.y 16 16 true 44 7 (iG ((List.range 0).map (λj_=>(jI t.gT xs p t.gT.length).getD (t.iw.getD j_ 0) gU))),.s (Sp.jH (Td t xs p) 0 t.iw.length aC (λx hx mw=>by
    have hot:=h.out x aC;have Jd:=PE t.gT xs p t.gT.length;have rE:=pE ((jI t.gT xs p t.gT.length).getD (t.iw.getD x 0) gU);exact iB (ae [tT 78 ((x:Int)<t.iw.length) aC,iX (x:Int) (t.iw.length) aC,iX (t.iw.getD x 0:Int) ((jI t.gT xs p t.gT.length).length) aC,.o 86 (.e (lG _):aj (.sl true 1 7 λi_ j_=>(iF ((jI t.gT xs p t.gT.length).getD (t.iw.getD x 0) gU)).getD (i_*7+j_) (.v (.bool false))) (gZ [(jI t.gT xs p t.gT.length).getD (t.iw.getD x 0) gU])),.a (aC:(x+[(jI t.gT xs p t.gT.length).getD (t.iw.getD x 0) gU].length)*88<=140737488355328),ik ((x:Int)+1) aC]<|.e (af [.b 16 (Cn rfl rfl rfl:Bx.le (.row true 44 (x+[(jI t.gT xs p t.gT.length).getD (t.iw.getD x 0) gU].length) 7 (λi_ j_=>if i_<x then(iG ((List.range x).map (λj_=>(jI t.gT xs p t.gT.length).getD (t.iw.getD j_ 0) gU))) i_ j_ else(E.kJ (gZ [(jI t.gT xs p t.gT.length).getD (t.iw.getD x 0) gU])) (i_-x) j_)) (.row true 44 (x+1) 7 (iG ((List.range (x+1)).map (λj_=>(jI t.gT xs p t.gT.length).getD (t.iw.getD j_ 0) gU)))))])) aF)
  (λhx=>by
    exact iB (ae [tF 78 ((t.iw.length:Int)<t.iw.length) aC,.z 16]<|.e (af [.o 16 (.e (DQ aH):aj (.sl true t.iw.length 7 (iG ((List.range t.iw.length).map (λj_=>(jI t.gT xs p t.gT.length).getD (t.iw.getD j_ 0) gU)))) (gZ ((List.range t.iw.length).map (λj_=>(jI t.gT xs p t.gT.length).getD (t.iw.getD j_ 0) gU))))])) aF) aI:jD 17 f182 (Td t xs p 0) (.exit 4) ⟨91,true,[(16,.e (gZ ((List.range t.iw.length).map (λj_=>(jI t.gT xs p t.gT.length).getD (t.iw.getD j_ 0) gU)))),(11,.own 41)],[(41,.jC true 26 44 t.iw.length 7 (λ_=>0) (λ_ _ _=>.any) .none)]⟩) .nil]<|rR (.ig [gZ (kn t xs p),kS (List.replicate t.iw.length [])]) (.ig (.cons (.iM (by rw[adU])) (.cons ajx .nil)):E.le (.ig [gZ ((List.range t.iw.length).map (λj_=>(jI t.gT xs p t.gT.length).getD (t.iw.getD j_ 0) gU)),(.sl true t.iw.length 1 λk_ _=>.sl true ((λ_=>0) k_) 7 ((λ_ _ _=>.any) k_))]) (.ig [gZ (kn t xs p),kS (List.replicate t.iw.length [])]))) 
def ad4(x:Iv):gR 217 [ib x] (bP x.all):=
 ak call217 func217 (.nil) 
def Fh(l:List Iv)(hl:l.length<=1000):gR 179 [gZ l] (bP (qy l)):=
 ak call179 func179 (af [.c (Nx true _ _ 217 [] (λi=>(l.getD i gU).all) (λi hi=>ad4 _) aC:gR 22 [gZ l,.fn 217 []] _)]) 
def S9(x:Iv)(hx:x.gY):gR 180 [ib x] (bP false):=
 ak call180 func180 (af [.c (re x aD)]) 
def ai9(n:Nat)(hn:n<=1000):gR 184 [kS (List.replicate n []),.fn 179 []] (bP false):=by
 have e:∀ i,i<n->(List.replicate n ([]:List Iv)).getD i []=[]:=λi hi=>by simp[bd,hi]
 refine ajt true _ _ 179 [] (λ_=>false) (λi hi=>?_) (by simpa using by omega) (λ_ _=>rfl);have mo:i<n:=by simpa using hi
 show gR 179 [gZ ((List.replicate n []).getD i [])] _;rw[e i mo];exact Fh [] aH 
def WD{l:List Iv}(h:qa l):qy l=false:=by
 unfold qy;rw[cW];intro i hi;rw[(h i (bW.1 hi)).2];decide
def Ie{s:jB}{b:List Iv}(h:lM s)(hb:ko s.iI b):yl s.tape/\1<=(b++s.params).length/\(b++s.params).length=s.tape.ie/\lY (b++s.params):=by
 have h1:=h.s1;have h2:=h.ie;have h3:=hb.len;refine⟨h.tape,?_,?_,hb.ok.PD.append h.params.PD⟩
 .rw [cA];omega
 .rw [cA];omega
def ad5(s:jB)(b:List Iv)(p:Nat)(h:lM s)(hb:ko s.iI b)(ic:8<=p)(gX:p<=512)(hn:qy (kn s.tape (b++s.params) p)=true):gR 150 [kU s,gZ b,iP 0,iP p] (.ig [.v (.slice none 0 0),.v (.slice none 0 0),iP 11]):=by
 have s4:=h.s4;have p4:=h.p4;have FA:=hb.len;have DH:=h.tape.iw;have BW:=WD hb.ok;have Av:=IH s.tape (b++s.params) p;obtain⟨f1,f2,f3,f4⟩:=Ie h hb;exact ak call150 func150 (af [.c (zI s aD),ai 21 ((b.length:Int) != (s.iI:Int)) (vc hb.len),.c (Fh b aC),ai 25 (qy b) BW,.c (Cm true _ _ 180 [] (λ_=>false) (λi hi=>S9 _ (hb.ok i hi).1) aC (λ_ _=>rfl):gR 22 [gZ b,.fn 180 []] _),.c (L5 (p:Int)),ah 32 (mI (p:Int)) (rY.2 ⟨aC,aC⟩),.o 40 (.e (DW _ _):aj (.sl true 2 1 λi_ j_=>[gZ b,gZ s.params].getD (i_*1+j_) (.v (.bool false))) (kS [b,s.params])),ag [kS [b,s.params]] (RA b s.params aC aC),.c (Tf s.tape (b++s.params) p f1 f2 f3 f4 aC aC),.c (Fh (kn s.tape (b++s.params) p) aC),ah 48 (qy (kn s.tape (b++s.params) p)) hn]) 
def ad6(s:jB)(b:List Iv)(p:Nat)(h:lM s)(hb:ko s.iI b)(ic:8<=p)(gX:p<=512)(hn:qy (kn s.tape (b++s.params) p)=false):gR 150 [kU s,gZ b,iP 0,iP p] (.ig [gZ (kn s.tape (b++s.params) p),kS (List.replicate s.tape.iw.length []),iP 0]):=by
 have s4:=h.s4;have p4:=h.p4;have FA:=hb.len;have DH:=h.tape.iw;have BW:=WD hb.ok;have Av:=IH s.tape (b++s.params) p;obtain⟨f1,f2,f3,f4⟩:=Ie h hb;exact ak call150 func150 (af [.c (zI s aD),ai 21 ((b.length:Int) != (s.iI:Int)) (vc hb.len),.c (Fh b aC),ai 25 (qy b) BW,.c (Cm true _ _ 180 [] (λ_=>false) (λi hi=>S9 _ (hb.ok i hi).1) aC (λ_ _=>rfl):gR 22 [gZ b,.fn 180 []] _),.c (L5 (p:Int)),ah 32 (mI (p:Int)) (rY.2 ⟨aC,aC⟩),.o 40 (.e (DW _ _):aj (.sl true 2 1 λi_ j_=>[gZ b,gZ s.params].getD (i_*1+j_) (.v (.bool false))) (kS [b,s.params])),ag [kS [b,s.params]] (RA b s.params aC aC),.c (Tf s.tape (b++s.params) p f1 f2 f3 f4 aC aC),.c (Fh (kn s.tape (b++s.params) p) aC),ai 48 (qy (kn s.tape (b++s.params) p)) hn,ag [kS (List.replicate s.tape.iw.length []),.fn 179 []] (ai9 _ aC)]) 
def ad7(s:jB)(b:List Iv)(p:Nat)(h:lM s)(hb:ko s.iI b)(ic:8<=p)(gX:p<=512)(hn:qy (kn s.tape (b++s.params) p)=true):gR 101 [kU s,gZ b,iP p] (.ig [.v (.slice none 0 0),iP 11]):=
 ak call101 func101 (af [.c (ad5 s b p h hb ic gX hn)]) 
def Ta(s:jB)(b:List Iv)(p:Nat)(h:lM s)(hb:ko s.iI b)(ic:8<=p)(gX:p<=512)(hn:qy (kn s.tape (b++s.params) p)=false):gR 101 [kU s,gZ b,iP p] (.ig [gZ (kn s.tape (b++s.params) p),iP 0]):=
 ak call101 func101 (af [.c (ad6 s b p h hb ic gX hn)]) 
noncomputable def UO(s:jB)(x:List Iv)(d:Dy)(b:List Iv)(p:Nat)(N:Nat)(i:Nat):PS:=⟨66,true,[(14,.own 14),(42,.e (iP i)),(41,.e (iP x.length)),(13,.box 13 0),(11,.e (gZ (kn s.tape (b++s.params) p))),(1,.e (gZ x)),(4,.e (iP p))],[(14,.row true 44 i 7 (iG ((List.range i).map (λj_=>(jE (x.getD j_ gU) (iz (me d) ((kn s.tape (b++s.params) p).getD j_ gU) p) p))))),(13,.cells 44 (ar++iu d++[bP false]))]⟩
noncomputable def UP(s:jB)(x:List Iv)(d:Dy)(b:List Iv)(p:Nat)(i:Nat):PS:=⟨66,true,[(14,.own 14),(42,.e (iP i)),(41,.e (iP x.length)),(13,.box 13 0),(11,.e (gZ (kn s.tape (b++s.params) p))),(1,.e (gZ x)),(4,.e (iP p))],[(14,.row true 44 i 7 (iG ((List.range i).map (λj_=>(jE (x.getD j_ gU) (iz (me d) ((kn s.tape (b++s.params) p).getD j_ gU) p) p))))),(13,.cells 44 (ar++iu d++[bP false]))]⟩
def Sc(s:jB)(x:List Iv)(d:Dy)(p:Nat)(N:Nat)(k:Nat):PS:=⟨55,true,[(22,.e (iP k)),(10,.oW 41 [.box 5,.box 4,.box 6,.box 7]),(7,.box 7 0),(6,.box 6 0),(5,.box 5 0),(4,.box 4 0)],[(7,.cells 3 [iP p]),(6,.cells 31 (iu d)),(5,.cells 26 [gZ x]),(4,.cells 28 [iP s.tape.ie,kH s.tape.gT,kG s.tape.iw,iP s.iI,gZ s.params])]⟩
def Sd(s:jB)(x:List Iv)(d:Dy)(p:Nat)(k:Nat):PS:=⟨55,true,[(22,.e (iP k)),(10,.oW 41 [.box 5,.box 4,.box 6,.box 7]),(7,.box 7 0),(6,.box 6 0),(5,.box 5 0),(4,.box 4 0)],[(7,.cells 3 [iP p]),(6,.cells 31 (iu d)),(5,.cells 26 [gZ x]),(4,.cells 28 [iP s.tape.ie,kH s.tape.gT,kG s.tape.iw,iP s.iI,gZ s.params])]⟩
noncomputable def Sg(s:jB)(x:List Iv)(d:Dy)(p:Nat)(N:Nat)(j:Nat):PS:=⟨55,true,[(36,.e (iP j)),(14,.e (gZ (k0 s x d p j))),(7,.box 7 0),(6,.box 6 0),(5,.box 5 0),(4,.box 4 0)],[(7,.cells 3 [iP p]),(6,.cells 31 (iu d)),(5,.cells 26 [gZ x]),(4,.cells 28 [iP s.tape.ie,kH s.tape.gT,kG s.tape.iw,iP s.iI,gZ s.params])]⟩
def Se(s:jB)(x:List Iv)(d:Dy)(p:Nat)(k:Nat):PS:=⟨55,true,[(22,.e (iP k)),(10,.oW 41 [.box 5,.box 4,.box 6,.box 7]),(7,.box 7 0),(6,.box 6 0),(5,.box 5 0),(4,.box 4 0)],[(7,.cells 3 [iP p]),(6,.cells 31 (iu d)),(5,.cells 26 [gZ x]),(4,.cells 28 [iP s.tape.ie,kH s.tape.gT,kG s.tape.iw,iP s.iI,gZ s.params])]⟩
noncomputable def Sh(s:jB)(x:List Iv)(d:Dy)(p:Nat)(j:Nat):PS:=⟨55,true,[(36,.e (iP j)),(14,.e (gZ (k0 s x d p j))),(7,.box 7 0),(6,.box 6 0),(5,.box 5 0),(4,.box 4 0)],[(7,.cells 3 [iP p]),(6,.cells 31 (iu d)),(5,.cells 26 [gZ x]),(4,.cells 28 [iP s.tape.ie,kH s.tape.gT,kG s.tape.iw,iP s.iI,gZ s.params])]⟩
def aas(x:Iv)(hx:x.gY)(xa:x.all=false):gR 136 [ib x] (bP false):=
 ak call136 func136 (af [.c (re x aD),ai 8 x.all xa]) 
def Ia(s:jB)(b:List Iv)(hb:ko s.iI b)(h4:s.iI<=4):gR 86 [kU s,gZ b] (bP true):=by
 have FA:=hb.len;exact ak call86 func86 (af [ah 9 ((b.length:Int)==s.iI) (N6 hb.len),.c (Cm true _ _ 136 [] (λ_=>false) (λi hi=>aas _ (hb.ok i hi).1 (hb.ok i hi).2) aC (λ_ _=>rfl):gR 22 [gZ b,.fn 136 []] _)]) 
def BI(s:jB)(x:List Iv)(d:Dy)(p:Nat)(h:lM s)(hx:ko s.iI x)(hd:d.gY)(h0:0<d.iK)(ic:8<=p)(gX:p<=512):gR 40 [kU s,gZ x,gV d,iP p] (bP true):=by
 have s4:=h.s4;exact ak call40 func40 (af [.c (zI s aD),.c (Ia s x hx aC),ag [gV d] (ng _ aD),ag [gV d] (mP _ aD),tB 23 (a6 h0),tT 27 (8<=(p:Int)) aC,tT 31 ((p:Int)<=512) aC]) 
def afH(s:jB)(x:List Iv)(d:Dy)(b:List Iv)(p:Nat)(h:lM s)(hx:ko s.iI x)(hd:d.gY)(h0:0<d.iK)(hb:ko s.iI b)(ic:8<=p)(gX:p<=512)(hn:qy (kn s.tape (b++s.params) p)=true):gR 52 [kU s,gZ x,gV d,gZ b,iP p] (.v (.slice none 0 0)):=by
 have s4:=h.s4;exact ak call52 func52 (af [.c (BI s x d p h hx hd h0 ic gX),.c (Ia s b hb s4),.c (ad7 s b p h hb ic gX hn),ah 37 ((11:Int) != 0) aE]) 
def Pm(d:Dy):E.le (.agg (ar++iu d++[bP false])) (ib (me d)):=
 .agg (.cons (.refl _) (.cons Cy (.cons (.refl _) (.cons (.refl _) (.cons (.refl _) (.cons (.refl _) (.cons (.refl _) .nil)))))))
def afI(s:jB)(x:List Iv)(d:Dy)(b:List Iv)(p:Nat)(h:lM s)(hx:ko s.iI x)(hd:d.gY)(h0:0<d.iK)(hb:ko s.iI b)(ic:8<=p)(gX:p<=512)(hn:qy (kn s.tape (b++s.params) p)=false)(N:Nat)(pU:N<x.length)(jJ:∀ i,i<N->(jE (x.getD i gU) (iz (me d) ((kn s.tape (b++s.params) p).getD i gU) p) p).all=false)(hN:(jE (x.getD N gU) (iz (me d) ((kn s.tape (b++s.params) p).getD N gU) p) p).all=true):gR 52 [kU s,gZ x,gV d,gZ b,iP p] (.v (.slice none 0 0)):=by
 have s4:=h.s4;have yQ:=hx.len;have DH:=h.iw;have Av:=IH s.tape (b++s.params) p;obtain⟨f1,f2,f3,f4⟩:=Ie h hb;have fv:=SI s.tape f4 (aC:1<=p) (aC:p<=4096);have hq:0<d.q:=(rH d).1.1 h0;have hst:=Yt hd (bG hq);exact ak call52 func52 (af [.c (BI s x d p h hx hd h0 ic gX),.c (Ia s b hb s4),.c (Ta s b p h hb ic gX hn),ai 37 ((0:Int) != 0) aE,.y 14 14 true 44 7 (iG ((List.range 0).map (λj_=>(jE (x.getD j_ gU) (iz (me d) ((kn s.tape (b++s.params) p).getD j_ gU) p) p)))),.s (Sp.jH (UO s x d b p N) 0 N aC (λi hi oR=>by
    have w1:=(hx.ok i aC).1;have w2:=fv i;have w3:=og (me d) ((kn s.tape (b++s.params) p).getD i gU) (aC:1<=p) (aC:p<=4096);have rE:=pE (jE (x.getD i gU) (iz (me d) ((kn s.tape (b++s.params) p).getD i gU) p) p);exact iB (ae [tT 43 ((i:Int)<x.length) aC,iX (i:Int) (x.length) aC,.o 49 (.e (Pm d):aj (.agg (ar++iu d++[bP false])) (ib (me d))),iX (i:Int) ((kn s.tape (b++s.params) p).length) aC,.c (tp (me d) ((kn s.tape (b++s.params) p).getD i gU) p aD aD aC aC),.c (yZ (x.getD i gU) (iz (me d) ((kn s.tape (b++s.params) p).getD i gU) p) p aD aD aC aC),ai 59 ((jE (x.getD i gU) (iz (me d) ((kn s.tape (b++s.params) p).getD i gU) p) p).all) (jJ i aC),.o 62 (.e (lG _):aj (.sl true 1 7 λi_ j_=>(iF (jE (x.getD i gU) (iz (me d) ((kn s.tape (b++s.params) p).getD i gU) p) p)).getD (i_*7+j_) (.v (.bool false))) (gZ [jE (x.getD i gU) (iz (me d) ((kn s.tape (b++s.params) p).getD i gU) p) p])),.a (aC:(i+[jE (x.getD i gU) (iz (me d) ((kn s.tape (b++s.params) p).getD i gU) p) p].length)*88<=140737488355328),ik ((i:Int)+1) aC]<|.e (af [.b 14 (Cn rfl rfl rfl:Bx.le (.row true 44 (i+[jE (x.getD i gU) (iz (me d) ((kn s.tape (b++s.params) p).getD i gU) p) p].length) 7 (λi_ j_=>if i_<i then(iG ((List.range i).map (λj_=>(jE (x.getD j_ gU) (iz (me d) ((kn s.tape (b++s.params) p).getD j_ gU) p) p)))) i_ j_ else(E.kJ (gZ [jE (x.getD i gU) (iz (me d) ((kn s.tape (b++s.params) p).getD i gU) p) p])) (i_-i) j_)) (.row true 44 (i+1) 7 (iG ((List.range (i+1)).map (λj_=>(jE (x.getD j_ gU) (iz (me d) ((kn s.tape (b++s.params) p).getD j_ gU) p) p))))))])) aF)
  (λhi=>by
    have w1:=(hx.ok N aC).1;have w2:=fv N;have w3:=og (me d) ((kn s.tape (b++s.params) p).getD N gU) (aC:1<=p) (aC:p<=4096);exact iB (af [tT 43 ((N:Int)<x.length) aC,iX (N:Int) (x.length) aC,.o 49 (.e (Pm d):aj (.agg (ar++iu d++[bP false])) (ib (me d))),iX (N:Int) ((kn s.tape (b++s.params) p).length) aC,.c (tp (me d) ((kn s.tape (b++s.params) p).getD N gU) p aD aD aC aC),.c (yZ (x.getD N gU) (iz (me d) ((kn s.tape (b++s.params) p).getD N gU) p) p aD aD aC aC),ah 59 ((jE (x.getD N gU) (iz (me d) ((kn s.tape (b++s.params) p).getD N gU) p) p).all) hN]) aF) aI:jD 9 Tryz.f52 (UO s x d b p N 0) .ret ⟨66,true,[(10,.e (.v (.slice none 0 0)))],[]⟩) .nil]) 
def afJ(s:jB)(x:List Iv)(d:Dy)(b:List Iv)(p:Nat)(h:lM s)(hx:ko s.iI x)(hd:d.gY)(h0:0<d.iK)(hb:ko s.iI b)(ic:8<=p)(gX:p<=512)(hn:qy (kn s.tape (b++s.params) p)=false)(jJ:∀ i,i<x.length->(jE (x.getD i gU) (iz (me d) ((kn s.tape (b++s.params) p).getD i gU) p) p).all=false):gR 52 [kU s,gZ x,gV d,gZ b,iP p] (gZ ((List.range x.length).map (λj_=>(jE (x.getD j_ gU) (iz (me d) ((kn s.tape (b++s.params) p).getD j_ gU) p) p)))):=by
 have s4:=h.s4;have yQ:=hx.len;have DH:=h.iw;have Av:=IH s.tape (b++s.params) p;obtain⟨f1,f2,f3,f4⟩:=Ie h hb;have fv:=SI s.tape f4 (aC:1<=p) (aC:p<=4096);have hq:0<d.q:=(rH d).1.1 h0;have hst:=Yt hd (bG hq);exact ak call52 func52 (af [.c (BI s x d p h hx hd h0 ic gX),.c (Ia s b hb s4),.c (Ta s b p h hb ic gX hn),ai 37 ((0:Int) != 0) aE,.y 14 14 true 44 7 (iG ((List.range 0).map (λj_=>(jE (x.getD j_ gU) (iz (me d) ((kn s.tape (b++s.params) p).getD j_ gU) p) p)))),.s (Sp.jH (UP s x d b p) 0 x.length aC (λi hi oR=>by
    have w1:=(hx.ok i aC).1;have w2:=fv i;have w3:=og (me d) ((kn s.tape (b++s.params) p).getD i gU) (aC:1<=p) (aC:p<=4096);have rE:=pE (jE (x.getD i gU) (iz (me d) ((kn s.tape (b++s.params) p).getD i gU) p) p);exact iB (ae [tT 43 ((i:Int)<x.length) aC,iX (i:Int) (x.length) aC,.o 49 (.e (Pm d):aj (.agg (ar++iu d++[bP false])) (ib (me d))),iX (i:Int) ((kn s.tape (b++s.params) p).length) aC,.c (tp (me d) ((kn s.tape (b++s.params) p).getD i gU) p aD aD aC aC),.c (yZ (x.getD i gU) (iz (me d) ((kn s.tape (b++s.params) p).getD i gU) p) p aD aD aC aC),ai 59 ((jE (x.getD i gU) (iz (me d) ((kn s.tape (b++s.params) p).getD i gU) p) p).all) (jJ i aC),.o 62 (.e (lG _):aj (.sl true 1 7 λi_ j_=>(iF (jE (x.getD i gU) (iz (me d) ((kn s.tape (b++s.params) p).getD i gU) p) p)).getD (i_*7+j_) (.v (.bool false))) (gZ [jE (x.getD i gU) (iz (me d) ((kn s.tape (b++s.params) p).getD i gU) p) p])),.a (aC:(i+[jE (x.getD i gU) (iz (me d) ((kn s.tape (b++s.params) p).getD i gU) p) p].length)*88<=140737488355328),ik ((i:Int)+1) aC]<|.e (af [.b 14 (Cn rfl rfl rfl:Bx.le (.row true 44 (i+[jE (x.getD i gU) (iz (me d) ((kn s.tape (b++s.params) p).getD i gU) p) p].length) 7 (λi_ j_=>if i_<i then(iG ((List.range i).map (λj_=>(jE (x.getD j_ gU) (iz (me d) ((kn s.tape (b++s.params) p).getD j_ gU) p) p)))) i_ j_ else(E.kJ (gZ [jE (x.getD i gU) (iz (me d) ((kn s.tape (b++s.params) p).getD i gU) p) p])) (i_-i) j_)) (.row true 44 (i+1) 7 (iG ((List.range (i+1)).map (λj_=>(jE (x.getD j_ gU) (iz (me d) ((kn s.tape (b++s.params) p).getD j_ gU) p) p))))))])) aF)
  (λhi=>by
    exact iB (ae [tF 43 ((x.length:Int)<x.length) aC,.z 14]<|.e (af [.o 14 (.e (DQ aH):aj (.sl true x.length 7 (iG ((List.range x.length).map (λj_=>(jE (x.getD j_ gU) (iz (me d) ((kn s.tape (b++s.params) p).getD j_ gU) p) p))))) (gZ ((List.range x.length).map (λj_=>(jE (x.getD j_ gU) (iz (me d) ((kn s.tape (b++s.params) p).getD j_ gU) p) p)))))])) aF) aI:jD 9 Tryz.f52 (UP s x d b p 0) (.exit 0) ⟨66,true,[(14,.e (gZ ((List.range x.length).map (λj_=>(jE (x.getD j_ gU) (iz (me d) ((kn s.tape (b++s.params) p).getD j_ gU) p) p)))))],[]⟩) .nil]) 
def Ju(s:jB)(x:List Iv)(d:Dy)(b:List Iv)(p:Nat)(h:lM s)(hx:ko s.iI x)(hd:d.gY)(h0:0<d.iK)(hb:ko s.iI b)(ic:8<=p)(gX:p<=512):gR 52 [kU s,gZ x,gV d,gZ b,iP p] (gZ (kW s x d b p)):=by
 unfold kW;cases hn:qy (kn s.tape (b++s.params) p)with
 |true=>rw[aZ rfl];exact(afH s x d b p h hx hd h0 hb ic gX hn).jT (.nil _ _ _)
 |false=>
  rw[aY aE];cases ha:qy (yX x (kn s.tape (b++s.params) p) d p)with
  |true=>
   rw[aZ rfl];unfold qy at ha;rw[dJ,Jw]at ha;obtain⟨i,hi,lQ⟩:=ha;obtain⟨N,h1,h2,h3⟩:=sL (p:=λi=>((yX x (kn s.tape (b++s.params) p) d p).getD i gU).all) ⟨i,bW.1 hi,lQ⟩;refine(afI s x d b p h hx hd h0 hb ic gX hn N h1 (λi hi=>?_) ?_).jT (.nil _ _ _)
   .have:=h3 i hi;rw[Jv (aC:i<x.length)]at this;exact this
   .rw [Jv h1]at h2;exact h2
  |false=>
   rw[aY aE];refine afJ s x d b p h hx hd h0 hb ic gX hn λi hi=>?_
   unfold qy at ha;rw[cW,Jw]at ha;have:=ha i (bW.2 hi);rw[Jv hi]at this;exact aV this
def afw(s:jB)(x:List Iv)(d:Dy)(b:List Iv)(p:Nat)(h:lM s)(hx:ko s.iI x)(hd:d.gY)(h0:0<d.iK)(hb:ko s.iI b)(ic:8<=p)(gX:p<=512)(hi:(kW s x d b p)=[]):gR 17 [kU s,gZ x,gV d,gZ b,iP p] (bP false):=
 ak call17 func17 (af [.c (Ju s x d b p h hx hd h0 hb ic gX),ai 20 (decide (0<((kW s x d b p).length:Int))) (by rw[hi];rfl)]) 
def yx{n:Nat}{b:List Iv}(h:ko n b)(h1:1<=n)(h4:n<=4):1<=b.length/\b.length<=4/\qa b:=⟨by rw[h.len];exact h1,by rw[h.len];exact h4,h.ok⟩
def afx(s:jB)(x:List Iv)(d:Dy)(b:List Iv)(p:Nat)(h:lM s)(hx:ko s.iI x)(hd:d.gY)(h0:0<d.iK)(hb:ko s.iI b)(ic:8<=p)(gX:p<=512)(hi:(kW s x d b p)≠[]):gR 17 [kU s,gZ x,gV d,gZ b,iP p] (bP (uT x b&&uT (kW s x d b p) b)):=by
 have s1:=h.s1;have s4:=h.s4;obtain⟨x1,x4,xo⟩:=yx hx s1 s4;obtain⟨b1,b4,bo⟩:=yx hb s1 s4;have yQ:=hx.len;have FA:=hb.len;have Du:=Nn hx (aC:1<=p) (aC:p<=4096) hi;obtain⟨i1,i4,io⟩:=yx Du s1 s4;have hli:=Du.len;exact ak call17 func17 (ae [.c (Ju s x d b p h hx hd h0 hb ic gX),tT 20 (0<((kW s x d b p).length:Int)) aC,.c (QS x b aC aC aC aD aD)]<|.w (uT x b=true)
  (λk1=>ae [tB 24 k1,.c (QS (kW s x d b p) b aC aC aC aD aD)]<|rQ (bP (uT (kW s x d b p) b)) (bP (uT x b&&uT (kW s x d b p) b)) (by simp[k1]))
  (λk1=>ae [tB 24 (aV k1)]<|rQ (bP false) (bP (uT x b&&uT (kW s x d b p) b)) (by simp[k1]))) 
def FF(s:jB)(x:List Iv)(d:Dy)(b:List Iv)(p:Nat)(h:lM s)(hx:ko s.iI x)(hd:d.gY)(h0:0<d.iK)(hb:ko s.iI b)(ic:8<=p)(gX:p<=512):gR 17 [kU s,gZ x,gV d,gZ b,iP p] (bP (se s x d b p)):=by
 unfold se;by_cases hi:(kW s x d b p)=[]
 .have:=afw s x d b p h hx hd h0 hb ic gX hi;rwa[hi,show(!([]:List Iv).isEmpty&&(uT x b&&uT [] b))=false from rfl]
 .have:=afx s x d b p h hx hd h0 hb ic gX hi;have e:((kW s x d b p)).isEmpty=false:=by
   cases q:(kW s x d b p)with
   |nil=>exact absurd q hi
   |cons _ _=>rfl
  rwa[e,dX,e9]
def alq(k:Int)(h1:-100<=k)(h2:k<=100):gR 57 [gV ⟨false,1,0⟩,iP k] (.ig [gV (jz k),iP 0]):=by
 have:=Da ⟨false,1,0⟩ k D2 aC aC;have e:canon false 1 (0+k)=jz k:=by rw[Int.zero_add];exact Q3 k
 have e2:jq (canon false 1 (0+k))=jz k:=by rw[e];exact Ab (Px h1 h2)
 have e3:kp (canon false 1 (0+k))=0:=by rw[e];exact EN (Px h1 h2)
 change gR 57 [gV ⟨false,1,0⟩,iP k] (.ig [gV (jq (canon false 1 (0+k))),iP (kp (canon false 1 (0+k)))])at this;rwa[e2,e3]at this
def aeS(x:List Iv)(d:Dy):(Al x d==0)=rB x d:=by
 unfold Al;cases rB x d<;>rfl
def Tk(x:List Iv)(k:Int)(x1:1<=x.length)(x8:x.length<=8)(hx:qa x)(k1:-100<=k)(k2:k<=100):gR 42 [gZ x,iP k] (.ig [gZ (rP x (jz k)),bP (rB x (jz k))]):=by
 have v:=G3 k1 k2;have sg:=Py k;exact ak call42 func42 (ae [ag [iP 1] (qR _ aC),ag [gV (iS 1),iP k] (alq _ aC aC),ai 16 ((0:Int) != 0) aE,ag [gZ x,gV (jz k)] (QR _ _ aC aC aD aD aD)]<|rR (.ig [gZ (rP x (jz k)),bP (rB x (jz k))]) (.ig (.cons (.refl _) (.cons (.iM (by rw[aeS])) .nil)):E.le (.ig [gZ (rP x (jz k)),bP ((Al x (jz k))==0)]) (.ig [gZ (rP x (jz k)),bP (rB x (jz k))]))) 
def ZL(s:jB)(x:List Iv)(d:Dy)(p:Nat)(h:lM s)(hx:ko s.iI x)(hd:d.gY)(h0:0<d.iK)(ic:8<=p)(gX:p<=512)(k:Int)(k1:-100<=k)(k2:k<=100)(hg:(rB x (jz k))=false):gR 41 [iP k,(.iN 1 λj_=>[gZ x].getD j_ .any),(.iN 5 λj_=>[iP s.tape.ie,kH s.tape.gT,kG s.tape.iw,iP s.iI,gZ s.params].getD j_ .any),(.iN 3 λj_=>[bP d.neg,gW (gS d.m),iP d.e].getD j_ .any),(.iN 1 λj_=>[iP p].getD j_ .any)] (.ig [gZ (rP x (jz k)),bP false]):=by
 have s1:=h.s1;have s4:=h.s4;obtain⟨x1,x4,xo⟩:=yx hx s1 s4;exact ak call41 func41 (af [.c (Tk x k aC aC xo aC aC),ai 15 (rB x (jz k)) hg]) 
def ZM(s:jB)(x:List Iv)(d:Dy)(p:Nat)(h:lM s)(hx:ko s.iI x)(hd:d.gY)(h0:0<d.iK)(ic:8<=p)(gX:p<=512)(k:Int)(k1:-100<=k)(k2:k<=100)(hg:(rB x (jz k))=true):gR 41 [iP k,(.iN 1 λj_=>[gZ x].getD j_ .any),(.iN 5 λj_=>[iP s.tape.ie,kH s.tape.gT,kG s.tape.iw,iP s.iI,gZ s.params].getD j_ .any),(.iN 3 λj_=>[bP d.neg,gW (gS d.m),iP d.e].getD j_ .any),(.iN 1 λj_=>[iP p].getD j_ .any)] (.ig [gZ (rP x (jz k)),bP (se s x d (rP x (jz k)) p)]):=by
 have s1:=h.s1;have s4:=h.s4;obtain⟨x1,x4,xo⟩:=yx hx s1 s4;have hb:=Mc hx (G3 k1 k2) (Yh (Py k)) hg;exact ak call41 func41 (af [.c (Tk x k aC aC xo aC aC),ah 15 (rB x (jz k)) hg,.c (FF s x d (rP x (jz k)) p h hx hd h0 hb ic gX)]) 
def EB(s:jB)(x:List Iv)(d:Dy)(p:Nat)(h:lM s)(hx:ko s.iI x)(hd:d.gY)(h0:0<d.iK)(ic:8<=p)(gX:p<=512)(k:Int)(k1:-100<=k)(k2:k<=100):gR 41 [iP k,(.iN 1 λj_=>[gZ x].getD j_ .any),(.iN 5 λj_=>[iP s.tape.ie,kH s.tape.gT,kG s.tape.iw,iP s.iI,gZ s.params].getD j_ .any),(.iN 3 λj_=>[bP d.neg,gW (gS d.m),iP d.e].getD j_ .any),(.iN 1 λj_=>[iP p].getD j_ .any)] (.ig [gZ (rP x (jz k)),bP (rM s x d p k)]):=by
 unfold rM;cases hg:rB x (jz k)with
 |false=>exact ZL s x d p h hx hd h0 ic gX k k1 k2 hg
 |true=>exact ZM s x d p h hx hd h0 ic gX k k1 k2 hg
def ajM(d:Dy)(hd:d.gY):gR 57 [gV d,iP (-3)] (.ig [gV (zC d),iP (Pc d)]):=Da d (-3) hd aE aE 
def Tj{x:List Iv}{d:Dy}:Al x d=0↔rB x d=true:=by
 unfold Al;cases rB x d<;>simp
def alU(s:jB)(x:List Iv)(d:Dy)(b:List Iv)(p:Nat)(h:lM s)(hx:ko s.iI x)(hd:d.gY)(h0:0<d.iK)(hb:ko s.iI b)(ic:8<=p)(gX:p<=512)(hi:(kW s x d b p)=[]):gR 43 [kU s,gZ x,gV d,gZ b,iP p] (.v (.slice none 0 0)):=
 ak call43 func43 (af [.c (Ju s x d b p h hx hd h0 hb ic gX),ah 26 (((kW s x d b p).length:Int)==0) (by rw[hi];rfl)]) 
def F1{l:List Iv}(h:l≠[]):((l.length:Int)==0)=false:=nA λq=>h (am3.1 q)
def alV(s:jB)(x:List Iv)(d:Dy)(b:List Iv)(p:Nat)(h:lM s)(hx:ko s.iI x)(hd:d.gY)(h0:0<d.iK)(hb:ko s.iI b)(ic:8<=p)(gX:p<=512)(hi:(kW s x d b p)≠[]):gR 43 [kU s,gZ x,gV d,gZ b,iP p] (gZ (lj s x d b p)):=by
 have s1:=h.s1;have s4:=h.s4;obtain⟨x1,x4,xo⟩:=yx hx s1 s4;obtain⟨b1,b4,bo⟩:=yx hb s1 s4;have yQ:=hx.len;have FA:=hb.len;have Du:=Nn hx (aC:1<=p) (aC:p<=4096) hi;obtain⟨i1,i4,io⟩:=yx Du s1 s4;have hli:=Du.len;have hho:=Uw hx Du;obtain⟨u1,u4,uo⟩:=yx hho s1 s4;have wv:=alT (mZ x (kW s x d b p)) (aC:1<=p) (aC:p<=4096);have sv:=XH (r6 (mZ x (kW s x d b p)) p);have sn:=aiz (XG (Y6 (mZ x (kW s x d b p)) p));exact ak call43 func43 (ae [.c (Ju s x d b p h hx hd h0 hb ic gX),ai 26 (((kW s x d b p).length:Int)==0) (F1 hi),.c (aaK x (kW s x d b p) aC aC aC aD aD),ag [gZ (mZ x (kW s x d b p)),iP p] (aaP _ _ aC aC aD aC aC)]<|.w (G8 (mZ x (kW s x d b p)) p=true)
  (λk1=>ae [tB 35 k1,ag [gV (r6 (mZ x (kW s x d b p)) p)] (mP _ aD)]<|.w ((Dy.iK (r6 (mZ x (kW s x d b p)) p))=0)
   (λk2=>ae [tB 41 (aU k2)]<|rQ (gZ (mZ x (kW s x d b p))) (gZ (lj s x d b p)) (by unfold lj;rw[aY hi];simp[k1,k2]))
   (λk2=>ae [tB 41 (aT k2),ag [gV (r6 (mZ x (kW s x d b p)) p),iP (-3)] (ajM _ aD)]<|.w ((Pc (r6 (mZ x (kW s x d b p)) p))=0)
    (λk3=>ae [tB 50 (aW k3),ag [gZ (mZ x (kW s x d b p)),gV (zC (r6 (mZ x (kW s x d b p)) p))] (QR _ _ aC aC aD aD aD)]<|.w ((Al (mZ x (kW s x d b p)) (zC (r6 (mZ x (kW s x d b p)) p)))=0)
     (λk4=>ae [tB 59 (aU k4)]<|rQ (gZ (rP (mZ x (kW s x d b p)) (zC (r6 (mZ x (kW s x d b p)) p)))) (gZ (lj s x d b p)) (by unfold lj;rw[aY hi];simp[k1,k2,k3,Tj.1 k4]))
     (λk4=>ae [tB 59 (aT k4)]<|rQ (gZ (mZ x (kW s x d b p))) (gZ (lj s x d b p)) (by unfold lj;rw[aY hi];simp[k1,k2,k3,show ¬rB _ _=true from λq=>k4 (Tj.2 q)])))
    (λk3=>ae [tB 50 (aX k3)]<|rQ (gZ (mZ x (kW s x d b p))) (gZ (lj s x d b p)) (by unfold lj;rw[aY hi];simp[k1,k2,k3]))))
  (λk1=>ae [tB 35 (aV k1)]<|rQ (gZ (mZ x (kW s x d b p))) (gZ (lj s x d b p)) (by unfold lj;rw[aY hi];simp[k1]))) 
def G9(s:jB)(x:List Iv)(d:Dy)(b:List Iv)(p:Nat)(h:lM s)(hx:ko s.iI x)(hd:d.gY)(h0:0<d.iK)(hb:ko s.iI b)(ic:8<=p)(gX:p<=512):gR 43 [kU s,gZ x,gV d,gZ b,iP p] (gZ (lj s x d b p)):=by
 by_cases hi:(kW s x d b p)=[]
 .have:=alU s x d b p h hx hd h0 hb ic gX hi;unfold lj;rw[aZ hi];exact this.jT (.nil _ _ _)
 .exact alV s x d b p h hx hd h0 hb ic gX hi
def adh(s:jB)(x:List Iv)(d:Dy)(p:Nat)(h:lM s)(hx:ko s.iI x)(hd:d.gY)(h0:0<d.iK)(ic:8<=p)(gX:p<=512)(N:Nat)(pU:N<24)(jJ:∀ k:Nat,k<N->rM s x d p ((k:Int)-20)=false)(hN:rM s x d p ((N:Int)-20)=true):gR 13 [kU s,gZ x,gV d,iP p] (.ig [gZ (rP x (jz ((N:Int)-20))),iP 0]):=
 ak call13 func13 (af [.c (BI s x d p h hx hd h0 ic gX),.s (Sp.jH (Sc s x d p N) 0 N aC (λk hk Jf=>by
    exact iB (af [tT 23 ((k:Int)<24) aC,ik ((k:Int)-20) aC,ag [iP ((k:Int)-20),(.iN 1 λj_=>[gZ x].getD j_ .any),(.iN 5 λj_=>[iP s.tape.ie,kH s.tape.gT,kG s.tape.iw,iP s.iI,gZ s.params].getD j_ .any),(.iN 3 λj_=>[bP d.neg,gW (gS d.m),iP d.e].getD j_ .any),(.iN 1 λj_=>[iP p].getD j_ .any)] (EB _ _ _ _ h hx hd h0 ic gX _ aC aC),ai 31 (rM s x d p ((k:Int)-20)) (jJ k aC),ik ((k:Int)+1) aC]) aF)
  (λhk=>by
    exact iB (af [tT 23 ((N:Int)<24) aC,ik ((N:Int)-20) aC,ag [iP ((N:Int)-20),(.iN 1 λj_=>[gZ x].getD j_ .any),(.iN 5 λj_=>[iP s.tape.ie,kH s.tape.gT,kG s.tape.iw,iP s.iI,gZ s.params].getD j_ .any),(.iN 3 λj_=>[bP d.neg,gW (gS d.m),iP d.e].getD j_ .any),(.iN 1 λj_=>[iP p].getD j_ .any)] (EB _ _ _ _ h hx hd h0 ic gX _ aC aC),ah 31 (rM s x d p ((N:Int)-20)) hN]) aF) aI:jD 5 Tryz.f13 (Sc s x d p N 0) .ret ⟨55,true,[(9,.e (iP 0)),(8,.e (gZ (rP x (jz ((N:Int)-20)))))],[]⟩) .nil]) 
def adj(s:jB)(x:List Iv)(d:Dy)(p:Nat)(h:lM s)(hx:ko s.iI x)(hd:d.gY)(h0:0<d.iK)(ic:8<=p)(gX:p<=512)(jJ:∀ k:Nat,k<24->rM s x d p ((k:Int)-20)=false)(N:Nat)(pU:N<10)(tU:∀ j,j<=N->ko s.iI (k0 s x d p j))(hw:∀ j,j<N->lj s x d (k0 s x d p j) p≠[]/\se s x d (lj s x d (k0 s x d p j) p) p=false)(hN:lj s x d (k0 s x d p N) p=[]):gR 13 [kU s,gZ x,gV d,iP p] (.ig [.v (.slice none 0 0),iP 12]):=
 ak call13 func13 (af [.c (BI s x d p h hx hd h0 ic gX),.s (Sp.jH (Sd s x d p) 0 24 aC (λk hk Jf=>by
    exact iB (af [tT 23 ((k:Int)<24) aC,ik ((k:Int)-20) aC,ag [iP ((k:Int)-20),(.iN 1 λj_=>[gZ x].getD j_ .any),(.iN 5 λj_=>[iP s.tape.ie,kH s.tape.gT,kG s.tape.iw,iP s.iI,gZ s.params].getD j_ .any),(.iN 3 λj_=>[bP d.neg,gW (gS d.m),iP d.e].getD j_ .any),(.iN 1 λj_=>[iP p].getD j_ .any)] (EB _ _ _ _ h hx hd h0 ic gX _ aC aC),ai 31 (rM s x d p ((k:Int)-20)) (jJ k aC),ik ((k:Int)+1) aC]) aF)
  (λhk=>by
    exact iB (af [ai 23 (decide ((24:Int)<24)) aE]) aF) aI:jD 5 Tryz.f13 (Sd s x d p 0) (.exit 0) ⟨55,true,[(7,.box 7 0),(6,.box 6 0),(5,.box 5 0),(4,.box 4 0)],[(7,.cells 3 [iP p]),(6,.cells 31 (iu d)),(5,.cells 26 [gZ x]),(4,.cells 28 [iP s.tape.ie,kH s.tape.gT,kG s.tape.iw,iP s.iI,gZ s.params])]⟩) .nil,.s (Sp.jH (Sg s x d p N) 0 N aC (λj hj Ue=>by
    have yI:=tU j aC;obtain⟨jh,FD⟩:=hw j aC;have lQ:=CU hx (aC:1<=p) (aC:p<=4096) jh;exact iB (ae [tT 37 ((j:Int)<10) aC,.c (G9 s x d (k0 s x d p j) p h hx hd h0 yI ic gX),ai 46 (((lj s x d (k0 s x d p j) p).length:Int)==0) (F1 jh),.c (FF s x d (lj s x d (k0 s x d p j) p) p h hx hd h0 lQ ic gX),ai 52 (se s x d (lj s x d (k0 s x d p j) p) p) FD,ik ((j:Int)+1) aC]<|.e (af [.o 14 (.e (.iM rfl):aj (gZ (lj s x d (k0 s x d p j) p)) (gZ (k0 s x d p (j+1))))])) aF)
  (λhj=>by
    have yI:=tU N (bc _);exact iB (af [tT 37 ((N:Int)<10) aC,.c (G9 s x d (k0 s x d p N) p h hx hd h0 yI ic gX),ah 46 (((lj s x d (k0 s x d p N) p).length:Int)==0) (by rw[hN];rfl)]) aF) aI:jD 13 Tryz.f13 (Sg s x d p N 0) (.exit 2) ⟨55,true,[],[]⟩) (af [.o 14 (.e (.iM rfl):aj (gZ x) (gZ (k0 s x d p 0)))])]) 
def adg(s:jB)(x:List Iv)(d:Dy)(p:Nat)(h:lM s)(hx:ko s.iI x)(hd:d.gY)(h0:0<d.iK)(ic:8<=p)(gX:p<=512)(jJ:∀ k:Nat,k<24->rM s x d p ((k:Int)-20)=false)(tU:∀ j,j<=10->ko s.iI (k0 s x d p j))(hw:∀ j,j<10->lj s x d (k0 s x d p j) p≠[]/\se s x d (lj s x d (k0 s x d p j) p) p=false):gR 13 [kU s,gZ x,gV d,iP p] (.ig [.v (.slice none 0 0),iP 12]):=
 ak call13 func13 (af [.c (BI s x d p h hx hd h0 ic gX),.s (Sp.jH (Se s x d p) 0 24 aC (λk hk Jf=>by
    exact iB (af [tT 23 ((k:Int)<24) aC,ik ((k:Int)-20) aC,ag [iP ((k:Int)-20),(.iN 1 λj_=>[gZ x].getD j_ .any),(.iN 5 λj_=>[iP s.tape.ie,kH s.tape.gT,kG s.tape.iw,iP s.iI,gZ s.params].getD j_ .any),(.iN 3 λj_=>[bP d.neg,gW (gS d.m),iP d.e].getD j_ .any),(.iN 1 λj_=>[iP p].getD j_ .any)] (EB _ _ _ _ h hx hd h0 ic gX _ aC aC),ai 31 (rM s x d p ((k:Int)-20)) (jJ k aC),ik ((k:Int)+1) aC]) aF)
  (λhk=>by
    exact iB (af [ai 23 (decide ((24:Int)<24)) aE]) aF) aI:jD 5 Tryz.f13 (Se s x d p 0) (.exit 0) ⟨55,true,[(7,.box 7 0),(6,.box 6 0),(5,.box 5 0),(4,.box 4 0)],[(7,.cells 3 [iP p]),(6,.cells 31 (iu d)),(5,.cells 26 [gZ x]),(4,.cells 28 [iP s.tape.ie,kH s.tape.gT,kG s.tape.iw,iP s.iI,gZ s.params])]⟩) .nil,.s (Sp.jH (Sh s x d p) 0 10 aC (λj hj Ue=>by
    have yI:=tU j aC;obtain⟨jh,FD⟩:=hw j aC;have lQ:=CU hx (aC:1<=p) (aC:p<=4096) jh;exact iB (ae [tT 37 ((j:Int)<10) aC,.c (G9 s x d (k0 s x d p j) p h hx hd h0 yI ic gX),ai 46 (((lj s x d (k0 s x d p j) p).length:Int)==0) (F1 jh),.c (FF s x d (lj s x d (k0 s x d p j) p) p h hx hd h0 lQ ic gX),ai 52 (se s x d (lj s x d (k0 s x d p j) p) p) FD,ik ((j:Int)+1) aC]<|.e (af [.o 14 (.e (.iM rfl):aj (gZ (lj s x d (k0 s x d p j) p)) (gZ (k0 s x d p (j+1))))])) aF)
  (λhj=>by
    exact iB (af [ai 37 (decide ((10:Int)<10)) aE]) aF) aI:jD 13 Tryz.f13 (Sh s x d p 0) (.exit 2) ⟨55,true,[],[]⟩) (af [.o 14 (.e (.iM rfl):aj (gZ x) (gZ (k0 s x d p 0)))])]) 
def Km:Iv:=⟨iq,iq,false⟩
def ajG:Km.gY:=.inr ⟨rfl,rn,rn,aL⟩
abbrev jU(n:Nat):Iv:=ml (iS (n:Int))
def lV(p:Nat)(T:Nat->Iv)(a:Nat):Nat->Iv
 | 0=>T a
 |n+1=>jE (lV p T a n) (T (a+n+1)) p
def oY(p:Nat)(s:Iv)(T:Nat->Iv)(a:Nat):Nat->Iv
 | 0=>s
 |n+1=>rJ (oY p s T a n) (T (a+n)) p
def nJ(x:Iv)(k:Nat):List Iv:=x::List.replicate k Km
structure kA(n:Nat)(a:List Iv):Prop where
 len:a.length=n
 ok:lY a
def kQ(f:Nat->Iv)(n:Nat):List Iv:=(List.range n).map f
def C3(a b:List Iv)(p:Nat):List Iv:=kQ (λi=>jE (a.getD i gU) (b.getD i gU) p) a.length
def Eh(a b:List Iv)(p:Nat):List Iv:=kQ (λi=>rJ (a.getD i gU) (b.getD i gU) p) a.length
def DY(a:List Iv):List Iv:=kQ (λi=>pD (a.getD i gU)) a.length
def sN(a b:List Iv)(p:Nat):List Iv:=kQ (λk=>lV p (λi=>iz (a.getD i gU) (b.getD (k-i) gU) p) 0 k) a.length
def iU(f:Nat->List Iv->Iv):Nat->List Iv
 | 0=>[]
 |k+1=>iU f k++[f k (iU f k)]
def qS(a b:List Iv)(p k:Nat)(out:List Iv):Iv:=jj (oY p (a.getD k gU) (λi=>iz (out.getD i gU) (b.getD (k-i) gU) p) 0 k) (b.getD 0 gU) p
def Ae(a b:List Iv)(p:Nat):List Iv:=iU (qS a b p) a.length
def oV(a:List Iv)(p:Nat):Nat->List Iv
 | 0=>a
 |k+1=>sN (oV a p k) a p
def D8(a:List Iv)(n p:Nat):List Iv:=if n=0 then kQ (λi=>iz (jU 0) (a.getD i gU) p) a.length else oV a p (n-1)
def sQ(a:List Iv)(n p:Nat):List Iv:=(D8 a n p).set 0 (mD (a.getD 0 gU) n p)
noncomputable def pS(a:List Iv)(p k:Nat)(out:List Iv):Iv:=
 if k=0 then uD (a.getD 0 gU) p else jj (lV p (λi=>iz (iz (jU i) (a.getD i gU) p) (out.getD (k-i) gU) p) 1 (k-1)) (jU k) p
noncomputable def Ai(a:List Iv)(p:Nat):List Iv:=iU (pS a p) a.length
def rh(a out:List Iv)(p k:Nat):Nat->Iv
 | 0=>jU 0
 |n+1=>jE (rh a out p k n) (iz (iz (jU (n+1)) (out.getD (n+1) gU) p) (a.getD (k-(n+1)) gU) p) p
noncomputable def mG(a:List Iv)(p k:Nat)(out:List Iv):Iv:=
 if k=0 then uE (a.getD 0 gU) p else jj (rJ (a.getD k gU) (jj (rh a out p k (k-1)) (jU k) p) p) (a.getD 0 gU) p
noncomputable def DT(a:List Iv)(p:Nat):List Iv:=iU (mG a p) a.length
def qG(a:List Iv)(p k:Nat)(f:List Iv):Iv:=jj (lV p (λi=>iz (iz (jU i) (a.getD i gU) p) (f.getD (k-i) gU) p) 1 (k-1)) (jU k) p
noncomputable def lE(a:List Iv)(p:Nat):Nat->List Iv×List Iv
 | 0=>([uF (a.getD 0 gU) p],[uC (a.getD 0 gU) p])
 |k+1=>((lE a p k).1++[qG a p (k+1) (lE a p k).2],(lE a p k).2++[pD (qG a p (k+1) (lE a p k).1)])
noncomputable def nQ(a:List Iv)(p k:Nat)(out:List Iv):Iv:=
 if k=0 then o9 (a.getD 0 gU) p else jj (oY p (a.getD k gU) (λi=>iz (out.getD i gU) (out.getD (k-i) gU) p) 1 (k-1)) (lK (o9 (a.getD 0 gU) p) 1) p
noncomputable def Bg(a:List Iv)(p:Nat):List Iv:=iU (nQ a p) a.length
noncomputable def nd(o:mL)(a b:List Iv)(p:Nat):List Iv:=
 if o.kind=3 then C3 a b p else if o.kind=4 then Eh a b p else if o.kind=5 then sN a b p else if o.kind=6 then Ae a b p
 else if o.kind=7 then DY a else if o.kind=8 then sQ a o.n p else if o.kind=9 then Ai a p else if o.kind=10 then DT a p
 else if o.kind=11 then(lE a p (a.length-1)).1 else if o.kind=12 then(lE a p (a.length-1)).2 else if o.kind=13 then Bg a p else[]
noncomputable def qF(o:mL)(l:List (List Iv))(k p:Nat):List Iv:=if o.kind=1 then nJ (qK o.cn o.cd p) k else nd o (l.getD o.a []) (l.getD (if xv o then o.b else o.a) []) p
noncomputable def iL(gT:List mL)(ie:List (List Iv))(k p:Nat):Nat->List (List Iv)
 | 0=>ie
 |i+1=>iL gT ie k p i++[qF (gT.getD i iy) (iL gT ie k p i) k p]
noncomputable def qT(t:pt)(ie:List (List Iv))(k p:Nat):List (List Iv):=t.iw.map λj=>(iL t.gT ie k p t.gT.length).getD j []
def qj(s:jB)(x:List (List Iv))(k:Nat):List (List Iv):=x.map (λc=>c.take (k+1))++s.params.map λa=>nJ a k
noncomputable def Cx(s:jB)(x:List (List Iv))(p n i:Nat):Iv:=jj (((qT s.tape (qj s x n) n p).getD i []).getD n gU) (jU (n+1)) p
noncomputable def je(s:jB)(x:List Iv)(p:Nat):Nat->List (List Iv)
 | 0=>x.map λy=>[y]
 |n+1=>(List.range x.length).map λi=>(je s x p n).getD i []++[Cx s (je s x p n) p n i]
def lY.nil:lY []:=λ_=>lL
def getD_map{α:Type}{n i:Nat}{f:Nat->α}{d:α}(h:i<n):((List.range n).map f).getD i d=f i:=by simp[bd,h]
def IN{f:Nat->Iv}{n i:Nat}(h:i<n):(kQ f n).getD i gU=f i:=getD_map h
def yE(f:Nat->Iv)(n:Nat):(kQ f n).length=n:=by simp[kQ]
def Fi{f:Nat->Iv}{n:Nat}(h:∀ i,i<n->(f i).gY):kA n (kQ f n):=⟨yE _ _,λi=>by
 by_cases hi:i<n
 .rw [IN hi];exact h i hi
 .rw [bd,b7 (by rw[yE];omega)];exact lL⟩
def xZ(f:Nat->List Iv->Iv):∀ n,(iU f n).length=n
 | 0=>rfl
 |n+1=>by simp[iU,xZ f n]
def A7{f:Nat->List Iv->Iv}(n:Nat)(h:∀ k l,k<n->kA k l->(f k l).gY):kA n (iU f n):=by
 induction n with
 |zero=>exact⟨rfl,lY.nil⟩
 |succ n ih=>
  have:=ih λk l hk=>h k l aC 
  exact⟨xZ _ _,this.ok.push (h n _ aC this)⟩
def amg(k:Nat):lY (List.replicate k Km):=λi=>by
 rw[bd,eF];split
 .exact ajG
 .exact lL
def RB{x:Iv}(hx:x.gY)(k:Nat):kA (k+1) (nJ x k):=⟨by simp[nJ],(lY.push lY.nil hx).append (amg k)⟩
def yb(n:Nat)(h:n<4294967296):(jU n).gY:=vi (DP n h)
section
variable {p:Nat} (hp:1<=p) (gX:p<=4096)
include hp gX
def Pn{x y:Iv}(hx:x.gY)(hy:y.gY):(rJ x y p).gY:=qP hx (Cw hy) hp gX
def GV{T:Nat->Iv}{a:Nat}:∀ n,(∀ i,a<=i->i<=a+n->(T i).gY)->(lV p T a n).gY
 | 0,h=>h a (bc _) (bc _)
 |n+1,h=>qP (GV n λi h1 h2=>h i h1 aC) (h _ aC aC) hp gX
def JE{s:Iv}(hs:s.gY){T:Nat->Iv}{a:Nat}:∀ n,(∀ i,a<=i->i<a+n->(T i).gY)->(oY p s T a n).gY
 | 0,_=>hs
 |n+1,h=>Pn hp gX (JE hs n λi h1 h2=>h i h1 aC) (h _ aC aC)
def Zz{n:Nat}{a b:List Iv}(ha:kA n a)(hb:kA n b):kA n (C3 a b p):=ha.len▸Fi λi _=>qP (ha.ok i) (hb.ok i) hp gX
def aks{n:Nat}{a b:List Iv}(ha:kA n a)(hb:kA n b):kA n (Eh a b p):=ha.len▸Fi λi _=>Pn hp gX (ha.ok i) (hb.ok i)
end
def ahJ{n:Nat}{a:List Iv}(ha:kA n a):kA n (DY a):=ha.len▸Fi λi _=>Cw (ha.ok i)
section
variable {p:Nat} (hp:1<=p) (gX:p<=4096)
include hp gX
def V5{n:Nat}{a:List Iv}(ha:kA n a)(b:List Iv):kA n (sN a b p):=ha.len▸Fi λi _=>GV hp gX _ λ_ _ _=>og _ _ hp gX
def acN{n:Nat}{a:List Iv}(ha:kA n a)(b:List Iv):kA n (Ae a b p):=ha.len▸A7 _ λ_ _ _ _=>qc _ _ hp gX
def NS{n:Nat}{a:List Iv}(ha:kA n a):∀ k,kA n (oV a p k)
 | 0=>ha
 |k+1=>V5 hp gX (NS ha k) a
def aiv{n:Nat}{a:List Iv}(ha:kA n a)(k:Nat):kA n (D8 a k p):=by
 unfold D8;split
 .exact ha.len▸Fi λi _=>og _ _ hp gX
 .exact NS hp gX ha _
end
def kA.set{n:Nat}{a:List Iv}(ha:kA n a)(i:Nat){x:Iv}(hx:x.gY):kA n (a.set i x):=⟨by simp[ha.len],λj=>by
 rw[bd,List.getElem?_set];split
 .split
  .exact hx
  .exact lL
 .have:=ha.ok j;rwa[bd]at this⟩
section
variable {p:Nat} (hp:1<=p) (gX:p<=4096)
include hp gX
def aiw{n:Nat}{a:List Iv}(ha:kA n a)(k:Nat):kA n (sQ a k p):=(aiv hp gX ha k).set 0 (W0 (ha.ok 0) k hp gX)
def adE{n:Nat}{a:List Iv}(ha:kA n a):kA n (Ai a p):=ha.len▸A7 _ λk l _ _=>by
 unfold pS;split
 .exact LU _ _
 .exact qc _ _ hp gX
def agY{n:Nat}{a:List Iv}(ha:kA n a):kA n (DT a p):=ha.len▸A7 _ λk l _ _=>by
 unfold mG;split
 .exact LV _ _
 .exact qc _ _ hp gX
def akr{n:Nat}{a:List Iv}(ha:kA n a):kA n (Bg a p):=ha.len▸A7 _ λk l _ _=>by
 unfold nQ;split
 .exact Fc _ _
 .exact qc _ _ hp gX
def Oy(a f:List Iv)(k:Nat):(qG a p k f).gY:=qc _ _ hp gX
def GL(a:List Iv):∀ k,kA (k+1) (lE a p k).1/\kA (k+1) (lE a p k).2
 | 0=>⟨⟨rfl,lY.push lY.nil (SE _ _)⟩,⟨rfl,lY.push lY.nil (SA _ _)⟩⟩
 |k+1=>by
  obtain⟨h1,h2⟩:=GL a k;exact⟨⟨by simp[lE,h1.len],h1.ok.push (Oy hp gX _ _ _)⟩,⟨by simp[lE,h2.len],h2.ok.push (Cw (Oy hp gX _ _ _))⟩⟩
def ZG(o:mL){n:Nat}{a b:List Iv}(ha:kA (n+1) a)(hb:kA (n+1) b)(hk:3<=o.kind)(vO:o.kind<=13):kA (n+1) (nd o a b p):=by
 have hl:a.length-1+1=n+1:=by rw[ha.len];rfl
 unfold nd;split
 .exact Zz hp gX ha hb
 split
 .exact aks hp gX ha hb
 split
 .exact V5 hp gX ha b
 split
 .exact acN hp gX ha b
 split
 .exact ahJ ha
 split
 .exact aiw hp gX ha _
 split
 .exact adE hp gX ha
 split
 .exact agY hp gX ha
 split
 .exact hl▸(GL hp gX a _).1
 split
 .exact hl▸(GL hp gX a _).2
 split
 .exact akr hp gX ha
 .omega
def vC(n:Nat)(l:List (List Iv)):Prop:=∀ i,i<l.length->kA n (l.getD i [])
end
def vC.push{n:Nat}{l:List (List Iv)}(h:vC n l){y:List Iv}(hy:kA n y):vC n (l++[y]):=λi hi=>by
 rw[bd,eB];split
 .rename_i h1;have:=h i h1;rwa[bd]at this
 .obtain rfl:i=l.length:=by simp at hi;omega
  simpa using hy
section
variable {p:Nat} (hp:1<=p) (gX:p<=4096)
include hp gX
end
def GK{p:Nat}(gT:List mL)(ie:List (List Iv))(k:Nat):∀ i,(iL gT ie k p i).length=ie.length+i
 | 0=>rfl
 |i+1=>by simp only[iL,cA,GK gT ie k i,cM,amR];omega
section
variable {p:Nat} (hp:1<=p) (gX:p<=4096)
include hp gX
def ah0{o:mL}{m n:Nat}(h:nF o m){l:List (List Iv)}(hl:vC (n+1) l)(hm:l.length=m):kA (n+1) (qF o l n p):=by
 have h3:=h.k3;have ha:=h.a;have hb:=h.b;unfold qF;split
 .exact RB (O8 _ _ hp gX) n
 .rename_i hk;rw[aY hk]at ha;refine ZG hp gX o (hl _ aC) (hl _ ?_) (h3.resolve_left hk) h.wX;unfold xv;by_cases h6:o.kind<=6
  .rw [aZ ⟨h3.resolve_left hk,h6⟩]at hb;simp only[h6,ff,bw];omega
  .simp only[h6,gF,bB,bk];omega
def Kj{t:pt}(h:yl t){ie:List (List Iv)}{n:Nat}(hi:vC (n+1) ie)(hl:ie.length=t.ie):∀ i,i<=t.gT.length->vC (n+1) (iL t.gT ie n p i)
 | 0,_=>hi
 |i+1,hle=>(Kj h hi hl i aC).push (ah0 hp gX (h.op i aC) (Kj h hi hl i aC) (by rw[GK,hl]))
def adT{t:pt}(h:yl t){ie:List (List Iv)}{n:Nat}(hi:vC (n+1) ie)(hl:ie.length=t.ie):vC (n+1) (qT t ie n p):=λi im=>by
 unfold qT at im ⊢;have MR:i<t.iw.length:=by simpa using im
 have:=h.out i MR;rw[bd,cr,bt MR];rw[bd,bt MR]at this;exact Kj hp gX h hi hl _ (bc _) _ (by rw[GK,hl];exact this)
end
def Qj(m:List (List Iv))(x:Nat):PS:=⟨29,true,[(7,.e (iP x)),(6,.e (iP m.length)),(5,.e (kS m)),(0,.e (kS m))],[]⟩
def X2(p:Nat)(z:Int)(g:FuncId)(cap:List E)(T:Nat->Iv)(A:Nat)(x:Nat):PS:=⟨28,true,[(10,.e (iP ((A+x+1:Nat):Int))),(9,.box 9 0),(8,.box 8 0),(1,.e (iP z)),(2,.e (iP p)),(3,.e (.fn g cap))],[(9,.cells 44 (iF (lV p T A x))),(8,.cells 44 au)]⟩
def XN(p:Nat)(z:Int)(g:FuncId)(cap:List E)(s:Iv)(T:Nat->Iv)(A:Nat)(x:Nat):PS:=⟨25,true,[(11,.e (iP ((A+x:Nat):Int))),(10,.box 10 0),(5,.box 5 0),(2,.e (iP z)),(3,.e (iP p)),(4,.e (.fn g cap))],[(10,.cells 44 au),(5,.cells 44 (iF (oY p s T A x)))]⟩
def XK(a b:List Iv)(g:FuncId)(cap:List E)(T:Nat->Iv)(x:Nat):PS:=⟨37,true,[(19,.e (iP x)),(18,.e (iP a.length)),(7,.own 16),(0,.e (gZ a)),(1,.e (gZ b)),(2,.e (.fn g cap))],[(16,.row true 44 x 7 (iG (kQ T x)))]⟩
def XS(a b:List Iv)(p:Nat)(x:Nat):PS:=⟨31,true,[(19,.e (iP x)),(18,.e (iP a.length)),(7,.own 16),(5,.box 5 0),(4,.box 4 0),(3,.box 3 0)],[(16,.row true 44 x 7 (iG (kQ (λk=>lV p (λi=>iz (a.getD i gU) (b.getD (k-i) gU) p) 0 k) x))),(5,.cells 3 [iP p]),(4,.cells 26 [gZ b]),(3,.cells 26 [gZ a])]⟩
def XJ(a b:List Iv)(p:Nat)(x:Nat):PS:=⟨43,true,[(20,.e (iP x)),(19,.e (iP a.length)),(7,.mT 7 1 0 0),(5,.box 5 0),(4,.box 4 0),(0,.e (gZ a))],[(7,.jC true 26 44 1 7 (λ_=>x) (λ_=>iG (iU (qS a b p) x)) .none),(5,.cells 3 [iP p]),(4,.cells 26 [gZ b])]⟩
def wE(m:List (List Iv))(n:Nat)(rU:1<=n)(hn:n<=17)(hl:m.length<=100)(hm:∀ i,i<m.length->(m.getD i []).length=n):gR 191 [kS m] (bP true):=
 ak call191 func191 (af [.s (Sp.jH (Qj m) 0 m.length aC (λx hx mw=>by
    have e1:=hm x aC;have e0:=hm 0 aC;exact iB (af [tT 8 ((x:Int)<m.length) aC,iX (x:Int) (m.length) aC,tF 13 (((m.getD x []).length:Int)<1) aC,tF 17 (17<((m.getD x []).length:Int)) aC,
     iX 0 (m.length) aC,ai 26 (((m.getD x []).length:Int) != ((m.getD 0 []).length:Int)) (vc aC),ik ((x:Int)+1) aC]) aF)
  (λhx=>by
    exact iB (af [tF 8 ((m.length:Int)<m.length) aC]) aF) aI:jD 2 f191 (Qj m 0) (.exit 0) ⟨29,true,[],[]⟩) .nil]) 
def Bq{a:List Iv}{n:Nat}(ha:a.length=n)(i:Nat)(hi:i<[a].length):([a].getD i []).length=n:=by
 obtain rfl:i=0:=by simp at hi;omega
 exact ha
def Ht{a b:List Iv}{n:Nat}(ha:a.length=n)(hb:b.length=n)(i:Nat)(hi:i<[a,b].length):([a,b].getD i []).length=n:=by
 rcases i with _|_|i
 .exact ha
 .exact hb
 .simp at hi;omega
def Ct(a:List Iv):E.le (.sl true 1 1 λi j=>[gZ a].getD (i*1+j) (.v (.bool false))) (kS [a]):=.sl λi j hi hj=>by
 obtain rfl:i=0:= aC ;obtain rfl:j=0:= aC ;exact⟨.iM rfl,rfl⟩
def L7{T i n:Nat}{f:Nat->Iv}{y:Iv}(hn:n=i)(hy:y=f i):
 Bx.le (.row true T (n+[y].length) 7 λa j=>if a<n then iG (kQ f i) a j else(E.kJ (gZ [y])) (a-n) j) (.row true T (i+1) 7 (iG (kQ f (i+1)))):=by
 subst hy;have e:kQ f (i+1)=kQ f i++[f i]:=by simp[kQ,am5]
 have h:=JC (T:=T) (n:=n) (xs:=kQ f i) (y:=f i) (by rw[yE];exact hn);rw[<-e]at h;have e2:(kQ f (i+1)).length=i+1:=yE _ _;rw[e2]at h;exact h
def aiO{T i n:Nat}{f:Nat->List Iv->Iv}{y:Iv}(hn:n=i)(hy:y=f i (iU f i)):
 Bx.le (.row true T (n+[y].length) 7 λa j=>if a<n then iG (iU f i) a j else(E.kJ (gZ [y])) (a-n) j) (.row true T (i+1) 7 (iG (iU f (i+1)))):=by
 subst hy;have h:=JC (T:=T) (n:=n) (xs:=iU f i) (y:=f i (iU f i)) (by rw[xZ];exact hn);have e2:(iU f i++[f i (iU f i)]).length=i+1:=xZ f (i+1);rw[e2]at h;exact h
def OZ{T:Nat}{el el':Nat->Nat->E}:Bx.le (.row true T 0 7 el) (.row true T 0 7 el'):=.row rfl λi j hi=>absurd hi (bn i)
def Ba{n:Nat}{xs:List Iv}(h:n=xs.length):E.le (.sl true n 7 (iG xs)) (gZ xs):=by subst h;exact .refl _
def agN(L:List Nat):vy (gW L):=by
 intro bs bs' br w v h hv;cases hv with
 |sl _ _ _ _ A c f hc hm h0 hl hr cell k=>
  refine .sl _ _ _ _ A c f hc hm h0 hl hr (λi j hi hj=>?_) (λi j hi hj=>?_)
  .obtain ⟨b,o,e,hb,im,ki⟩:=cell i j hi hj;refine⟨b,o,e,λhx=>?_,im,ki⟩;rcases h b hx with q|q
   .exact hb q
   .have e:=ix.kz (k i j hi hj);rw[e]at ki;exact q _ _ ki
  .have e:=ix.kz (k i j hi hj);rw[e];exact .v _
def agO(x:Value):vy (.v x):=λbs bs' br w v _ hv=>(ix.kz hv) ▸ .v _
def VA(x:Iv)(j:Nat)(hj:j<7):vy ((iF x).getD j .any):=by
 rcases j with _|_|_|_|_|_|_|j
 all_goals first|exact agO _|exact agN _|omega
def F2(x:Iv):vy (ib x):=by
 intro bs bs' br w v h hv;obtain⟨vs,rfl,hr⟩:=hv.C6;refine j9.agg ⟨hr.len,λi p y hp hy=>?_⟩;have hi:i<7:=by
  rcases fA i 7 with q|q
  .exact q
  .rw [b7 (by exact q)]at hp;cases hp
 have hq:=VA x i hi bs bs' br w y h;rw[bd,hp]at hq;exact hq (hr.kD i p y hp hy)
def VB{n:Nat}(xs:List Iv):Et n 7 (iG xs):=λi j _ hj=>VA _ j hj
def Ko(A n p:Nat)(z:Int)(hz:z=((A+n:Nat):Int))(g:FuncId)(cap:List E)(T:Nat->Iv)(hA:A+n<=1000)(ic:8<=p)(gX:p<=512)(hT:∀ i,A<=i->i<=A+n->(T i).gY/\gR g (iP (i:Int)::cap) (ib (T i))):gR 192 [iP A,iP z,iP p,.fn g cap] (ib (lV p T A n)):=by
 have v0:=(hT A aC aC).1;exact ak call192 func192 (af [.c ((hT A aC aC).2:gR g ((iP A)::cap) _),ik ((A:Int)+1) aC,.s (Sp.jH (X2 p z g cap T A) 0 n aC (λx hx mw=>by
    have v1:=GV (aC:1<=p) (aC:p<=4096) x λi h1 h2=>(hT i h1 aC).1
    have v2:=(hT (A+x+1) aC aC).1;exact iB (ae [tT 18 (((A+x+1:Nat):Int)<=z) aC,.c ((hT (A+x+1) aC aC).2:gR g ((iP ((A+x+1:Nat):Int))::cap) _),.c (yZ (lV p T A x) (T (A+x+1)) p aD aD aC aC),ik (((A+x+1:Nat):Int)+1) aC]<|.e (af [.o 10 (aq (((A+x+1)+1:Nat):Int) ((A+(x+1)+1:Nat):Int) aO),.b 9 (.iM rfl:Bx.le (.cells 44 (iF (jE (lV p T A x) (T (A+x+1)) p))) (.cells 44 (iF (lV p T A (x+1)))))])) aF)
  (λhx=>by
    exact iB (af [tF 18 (((A+n+1:Nat):Int)<=z) aC]) aF) aI:jD 3 f192 (X2 p z g cap T A 0) (.exit 0) ⟨28,true,[(9,.box 9 0),(8,.box 8 0)],[(9,.cells 44 (iF (lV p T A n))),(8,.cells 44 au)]⟩) (af [.o 10 (aq ((A+1:Nat):Int) ((A+0+1:Nat):Int) aO),.b 9 (.iM rfl:Bx.le (.cells 44 (iF (T A))) (.cells 44 (iF (lV p T A 0))))])]) 
def XO(s:Iv)(hs:s.gY)(A n p:Nat)(z:Int)(hz:z=((A+n:Nat):Int)-1)(g:FuncId)(cap:List E)(T:Nat->Iv)(hA:A+n<=1000)(ic:8<=p)(gX:p<=512)(hT:∀ i,A<=i->i<A+n->(T i).gY/\gR g (iP (i:Int)::cap) (ib (T i))):gR 194 [ib s,iP A,iP z,iP p,.fn g cap] (ib (oY p s T A n)):=
 ak call194 func194 (af [.s (Sp.jH (XN p z g cap s T A) 0 n aC (λx hx mw=>by
    have v1:=JE (aC:1<=p) (aC:p<=4096) hs x λi h1 h2=>(hT i h1 aC).1
    have v2:=(hT (A+x) aC aC).1;exact iB (ae [tT 15 (((A+x:Nat):Int)<=z) aC,.c ((hT (A+x) aC aC).2:gR g ((iP ((A+x:Nat):Int))::cap) _),.c (JB (oY p s T A x) (T (A+x)) p aD aD aC aC),
     ik (((A+x:Nat):Int)+1) aC]<|.e (af [.o 11 (aq (((A+x)+1:Nat):Int) ((A+(x+1):Nat):Int) aO),.b 5 (.iM rfl:Bx.le (.cells 44 (iF (rJ (oY p s T A x) (T (A+x)) p))) (.cells 44 (iF (oY p s T A (x+1)))))])) aF)
  (λhx=>by
    exact iB (af [tF 15 (((A+n:Nat):Int)<=z) aC]) aF) aI:jD 2 f194 (XN p z g cap s T A 0) (.exit 0) ⟨25,true,[(10,.box 10 0),(5,.box 5 0)],[(10,.cells 44 au),(5,.cells 44 (iF (oY p s T A n)))]⟩) (af [.o 11 (aq A ((A+0:Nat):Int) aO),.b 5 (.iM rfl:Bx.le (.cells 44 (iF s)) (.cells 44 (iF (oY p s T A 0))))])]) 
def Bc(n:Nat)(hn:n<4294967296):gR 199 [iP n] (ib (jU n)):=
 ak call199 func199 (af [.c (ED n aC),.c (AK (iS (n:Int)) (DP _ aC))]) 
def aci{x:Iv}{k:Nat}:E.le (.sl true (k+1) 7 λi' j'=>if i'=0/\0<=j'/\j'<0+7 then(iF x).getD (j'-0) .any else au.getD j' .any) (gZ (nJ x k)):=by
 have hl:(nJ x k).length=k+1:=by simp[nJ]
 unfold gZ;rw[hl];refine .sl λi j hi hj=>⟨?_,tn _ _ hj⟩
 by_cases h:i=0
 .subst h;rw[aZ ⟨rfl,bV _,aC⟩];exact .iM rfl
 .rw [aY λq=>h q.1];obtain⟨m,rfl⟩:∃ m,i=m+1:=⟨i-1,aC⟩
  have e:(nJ x k).getD (m+1) gU=Km:=by
   simp only[nJ,bd,amM,eF];rw[aZ aC];rfl
  rw[e];have e1:E.le (.v (.slice none 0 0)) (gW (gS 0)):=by rw[nU];exact .nil _ _ _
  rcases j with _|_|_|_|_|_|_|j
  all_goals first|exact e1|exact .refl _|omega
def XI(x:Iv)(hx:x.gY)(k:Nat)(hk:k<=16):gR 118 [ib x,iP k] (gZ (nJ x k)):=
 ak call118 func118 (ae [tF 7 ((k:Int)<0) aC,tF 10 (16<(k:Int)) aC,ik ((k:Int)+1) aC,.a (aC:0<=(((k+1:Nat):Int):Int)/\(((k+1:Nat):Int):Int)<=(((k+1:Nat):Int):Int)),.a (aC:((88:Nat):Int)*((k+1:Nat):Int)<=281474976710656/\(((k+1:Nat):Int):Int)<=9223372036854775807),iX 0 (k+1) aC,.a (aC:0<(k+1))]<|rR (gZ (nJ x k)) (aci:E.le (.sl true (k+1) 7 (λi' j'=>if i'=0/\0<=j'/\j'<0+7 then[bP x.lo.neg,gW (gS x.lo.m),iP x.lo.e,bP x.hi.neg,gW (gS x.hi.m),iP x.hi.e,bP x.all].getD (j'-0) .any else(λ_ j_=>au.getD j_ .any) i' j')) (gZ (nJ x k)))) 
def Pe(a b:List Iv)(n:Nat)(h1:1<=n)(np:n<=17)(ha:a.length=n)(hb:b.length=n)(g:FuncId)(cap:List E)(T:Nat->Iv)(hf:∀ i,i<n->gR g (ib (a.getD i gU)::ib (b.getD i gU)::cap) (ib (T i))):gR 187 [gZ a,gZ b,.fn g cap] (gZ (kQ T a.length)):=
 ak call187 func187 (af [.o 11 (.e (DW _ _):aj (.sl true 2 1 λi_ j_=>[gZ a,gZ b].getD (i_*1+j_) (.v (.bool false))) (kS [a,b])),.c (wE [a,b] n aC aC aH (Ht aD aD)),.a (aC:0<=(0:Int)/\(0:Int)<=((a.length:Int):Int)),.a (aC:((88:Nat):Int)*(a.length:Int)<=281474976710656/\((a.length:Int):Int)<=9223372036854775807),.s (Sp.jH (XK a b g cap T) 0 a.length aC (λx hx mw=>by
    have rE:=pE (T x);exact iB (ae [tT 20 ((x:Int)<a.length) aC,iX (x:Int) (a.length) aC,iX (x:Int) (b.length) aC,.c (hf x aC:gR g ((ib (a.getD x gU))::(ib (b.getD x gU))::cap) _),.o 33 (.e (lG _):aj (.sl true 1 7 λi_ j_=>(iF (T x)).getD (i_*7+j_) (.v (.bool false))) (gZ [T x])),.a (aC:(x+[T x].length)*88<=140737488355328),ik ((x:Int)+1) aC]<|.e (af [.b 16 (L7 rfl rfl:Bx.le (.row true 44 (x+[T x].length) 7 (λi_ j_=>if i_<x then(iG (kQ T x)) i_ j_ else(E.kJ (gZ [T x])) (i_-x) j_)) (.row true 44 (x+1) 7 (iG (kQ T (x+1)))))])) aF)
  (λhx=>by
    exact iB (ae [tF 20 ((a.length:Int)<a.length) aC,.z 16]<|.e (af [.o 7 (.e (Ba (yE _ _).symm):aj (.sl true a.length 7 (iG (kQ T a.length))) (gZ (kQ T a.length)))])) aF) aI:jD 5 f187 (XK a b g cap T 0) (.exit 0) ⟨37,true,[(7,.e (gZ (kQ T a.length)))],[]⟩) (af [.b 16 (OZ:Bx.le (.row true 44 0 7 (λ_ j_=>au.getD j_ .any)) (.row true 44 0 7 (iG (kQ T 0))))])]) 
def ajO(x y:Iv)(p:Nat)(hx:x.gY)(hy:y.gY)(ic:8<=p)(gX:p<=512):gR 188 [ib x,ib y,(.iN 1 λj_=>[iP p].getD j_ .any)] (ib (jE x y p)):=
 ak call188 func188 (af [.c (yZ x y p aD aD aC aC)]) 
def ajP(a b:List Iv)(n p:Nat)(h1:1<=n)(np:n<=17)(ha:kA n a)(hb:kA n b)(ic:8<=p)(gX:p<=512):gR 161 [gZ a,gZ b,iP p] (gZ (C3 a b p)):=by
 have la:=ha.len;have lb:=hb.len;exact ak call161 func161 (ae [.c (Pe a b n h1 np la lb _ _ (λi=>jE (a.getD i gU) (b.getD i gU) p) λi hi=>ajO _ _ p (ha.ok i) (hb.ok i) ic gX:gR 187 [gZ a,gZ b,.fn 188 [(.iN 1 λj_=>[iP p].getD j_ .any)]] _)]<|rR (gZ (C3 a b p)) (.iM rfl:E.le (gZ (kQ (λi=>jE (a.getD i gU) (b.getD i gU) p) a.length)) (gZ (C3 a b p)))) 
def aj5(x y:Iv)(p:Nat)(hx:x.gY)(hy:y.gY)(ic:8<=p)(gX:p<=512):gR 189 [ib x,ib y,(.iN 1 λj_=>[iP p].getD j_ .any)] (ib (rJ x y p)):=
 ak call189 func189 (af [.c (JB x y p aD aD aC aC)]) 
def aj6(a b:List Iv)(n p:Nat)(h1:1<=n)(np:n<=17)(ha:kA n a)(hb:kA n b)(ic:8<=p)(gX:p<=512):gR 162 [gZ a,gZ b,iP p] (gZ (Eh a b p)):=by
 have la:=ha.len;have lb:=hb.len;exact ak call162 func162 (ae [.c (Pe a b n h1 np la lb _ _ (λi=>rJ (a.getD i gU) (b.getD i gU) p) λi hi=>aj5 _ _ p (ha.ok i) (hb.ok i) ic gX:gR 187 [gZ a,gZ b,.fn 189 [(.iN 1 λj_=>[iP p].getD j_ .any)]] _)]<|rR (gZ (Eh a b p)) (.iM rfl:E.le (gZ (kQ (λi=>rJ (a.getD i gU) (b.getD i gU) p) a.length)) (gZ (Eh a b p)))) 
def ajW(x y:Iv)(hx:x.gY):gR 196 [ib x,ib y] (ib (pD x)):=
 ak call196 func196 (af [.c (Jz x aD)]) 
def ajX(a:List Iv)(n:Nat)(h1:1<=n)(np:n<=17)(ha:kA n a):gR 165 [gZ a] (gZ (DY a)):=by
 have la:=ha.len;exact ak call165 func165 (ae [.c (Pe a a n h1 np la la _ _ (λi=>pD (a.getD i gU)) λi hi=>ajW _ _ (ha.ok i):gR 187 [gZ a,gZ a,.fn 196 []] _)]<|rR (gZ (DY a)) (.iM rfl:E.le (gZ (kQ (λi=>pD (a.getD i gU)) a.length)) (gZ (DY a)))) 
def XR(a b:List Iv)(i k p:Nat)(hi:i<=k)(hk:k<a.length)(Jb:k<b.length)(l17:b.length<=17)(va:lY a)(vb:lY b)(ic:8<=p)(gX:p<=512):gR 193 [iP i,(.iN 1 λj_=>[gZ a].getD j_ .any),(.iN 1 λj_=>[gZ b].getD j_ .any),(.iN 1 λj_=>[iP k].getD j_ .any),(.iN 1 λj_=>[iP p].getD j_ .any)] (ib (iz (a.getD i gU) (b.getD (k-i) gU) p)):=by
 have v1:=va i;have v2:=vb (k-i);exact ak call193 func193 (af [iX (i:Int) (a.length) aC,ik ((k:Int)-i) aC,.o 14 (aq ((k:Int)-i) ((k-i:Nat):Int) aC),
  iX ((k-i:Nat):Int) (b.length) aC,.c (tp (a.getD i gU) (b.getD (k-i) gU) p aD aD aC aC)]) 
def ajV(a b:List Iv)(n p:Nat)(h1:1<=n)(np:n<=17)(ha:kA n a)(hb:kA n b)(ic:8<=p)(gX:p<=512):gR 163 [gZ a,gZ b,iP p] (gZ (sN a b p)):=by
 have la:=ha.len;have lb:=hb.len;exact ak call163 func163 (ae [.o 11 (.e (DW _ _):aj (.sl true 2 1 λi_ j_=>[gZ a,gZ b].getD (i_*1+j_) (.v (.bool false))) (kS [a,b])),.c (wE [a,b] n aC aC aH (Ht aD aD)),.a (aC:0<=(0:Int)/\(0:Int)<=((a.length:Int):Int)),.a (aC:((88:Nat):Int)*(a.length:Int)<=281474976710656/\((a.length:Int):Int)<=9223372036854775807),.s (Sp.jH (XS a b p) 0 a.length aC (λx hx mw=>by
    have rE:=pE (lV p (λi=>iz (a.getD i gU) (b.getD (x-i) gU) p) 0 x);exact iB (ae [tT 20 ((x:Int)<a.length) aC,.c (Ko 0 x p _ aC _ _ (λi=>iz (a.getD i gU) (b.getD (x-i) gU) p) aC ic gX λi h1 h2=>⟨og _ _ aC aC,XR a b i x p aC aC aC aC ha.ok hb.ok ic gX⟩:gR 192 [iP 0,iP x,iP p,.fn 193 [(.iN 1 λj_=>[gZ a].getD j_ .any),(.iN 1 λj_=>[gZ b].getD j_ .any),(.iN 1 λj_=>[iP x].getD j_ .any),(.iN 1 λj_=>[iP p].getD j_ .any)]] _),.o 27 (.e (lG _):aj (.sl true 1 7 λi_ j_=>(iF (lV p (λi=>iz (a.getD i gU) (b.getD (x-i) gU) p) 0 x)).getD (i_*7+j_) (.v (.bool false))) (gZ [lV p (λi=>iz (a.getD i gU) (b.getD (x-i) gU) p) 0 x])),.a (aC:(x+[lV p (λi=>iz (a.getD i gU) (b.getD (x-i) gU) p) 0 x].length)*88<=140737488355328),ik ((x:Int)+1) aC]<|.e (af [.b 16 (L7 rfl rfl:Bx.le (.row true 44 (x+[lV p (λi=>iz (a.getD i gU) (b.getD (x-i) gU) p) 0 x].length) 7 (λi_ j_=>if i_<x then(iG (kQ (λk=>lV p (λi=>iz (a.getD i gU) (b.getD (k-i) gU) p) 0 k) x)) i_ j_ else(E.kJ (gZ [lV p (λi=>iz (a.getD i gU) (b.getD (x-i) gU) p) 0 x])) (i_-x) j_)) (.row true 44 (x+1) 7 (iG (kQ (λk=>lV p (λi=>iz (a.getD i gU) (b.getD (k-i) gU) p) 0 k) (x+1)))))])) aF)
  (λhx=>by
    exact iB (ae [tF 20 ((a.length:Int)<a.length) aC,.z 16]<|.e (af [.o 7 (.e (Ba (yE _ _).symm):aj (.sl true a.length 7 (iG (kQ (λk=>lV p (λi=>iz (a.getD i gU) (b.getD (k-i) gU) p) 0 k) a.length))) (gZ (kQ (λk=>lV p (λi=>iz (a.getD i gU) (b.getD (k-i) gU) p) 0 k) a.length)))])) aF) aI:jD 5 f163 (XS a b p 0) (.exit 0) ⟨31,true,[(7,.e (gZ (kQ (λk=>lV p (λi=>iz (a.getD i gU) (b.getD (k-i) gU) p) 0 k) a.length)))],[]⟩) (af [.b 16 (OZ:Bx.le (.row true 44 0 7 (λ_ j_=>au.getD j_ .any)) (.row true 44 0 7 (iG (kQ (λk=>lV p (λi=>iz (a.getD i gU) (b.getD (k-i) gU) p) 0 k) 0))))])]<|rR (gZ (sN a b p)) (.iM rfl:E.le (gZ (kQ (λk=>lV p (λi=>iz (a.getD i gU) (b.getD (k-i) gU) p) 0 k) a.length)) (gZ (sN a b p)))) 
def OR{T1 T0 x:Nat}{f:Nat->List Iv->Iv}{y:Iv}(hy:y=f x (iU f x)):Bx.le (.jC true T1 T0 1 7 (λq=>if q=0 then x+[y].length else x) (λq i j=>if q=0 then(if i<x then iG (iU f x) i j else(E.kJ (gZ [y])) (i-x) j)else iG (iU f x) i j) none)
 (.jC true T1 T0 1 7 (λ_=>x+1) (λ_=>iG (iU f (x+1))) none):=by
 subst hy;refine .jC rfl (λk hk=>?_) (λk i j hk hi hj=>?_)
 .obtain rfl:k=0:= aC ;rfl
 .obtain rfl:k=0:= aC ;refine⟨.iM ?_,tn _ _ hj⟩;rw[aZ rfl];have hi:i<x+1:=hi;by_cases h:i<x
  .rw [aZ h];show(iF ((iU f x).getD i gU)).getD j .any=(iF ((iU f x++[f x (iU f x)]).getD i gU)).getD j .any;congr 2;simp[bd,dw (show i<(iU f x).length by rw[xZ];exact h)]
  .obtain rfl:i=x:= aC ;rw[aY h,cX];show(iF (f i (iU f i))).getD j .any=(iF ((iU f i++[f i (iU f i)]).getD i gU)).getD j .any;congr 2;have e:=xZ f i;simp[bd,e]
def aiM{T1 T0:Nat}{ln:Nat->Nat}{el el':Nat->Nat->Nat->E}(h:∀ k,k<1->ln k=0):Bx.le (.jC true T1 T0 1 7 ln el none) (.jC true T1 T0 1 7 (λ_=>0) el' none):=
 .jC rfl h λk i j hk hi=>by rw[h k hk]at hi;exact absurd hi (bn i)
def ajQ(out b:List Iv)(i k p m:Nat)(hi:i<m)(hik:i<=k)(Jb:k<b.length)(l17:b.length<=17)(vo:lY out)(vb:lY b)(ic:8<=p)(gX:p<=512):gR 195 [iP i,(.iN 1 λ_=>.sl true m 7 (iG out)),(.iN 1 λj_=>[gZ b].getD j_ .any),(.iN 1 λj_=>[iP k].getD j_ .any),(.iN 1 λj_=>[iP p].getD j_ .any)] (ib (iz (out.getD i gU) (b.getD (k-i) gU) p)):=by
 have v1:=vo i;have v2:=vb (k-i);exact ak call195 func195 (af [iX (i:Int) m aC,ik ((k:Int)-i) aC,.o 14 (aq ((k:Int)-i) ((k-i:Nat):Int) aC),
  iX ((k-i:Nat):Int) (b.length) aC,.c (tp (out.getD i gU) (b.getD (k-i) gU) p aD aD aC aC)]) 
def ajR(a b:List Iv)(n p:Nat)(h1:1<=n)(np:n<=17)(ha:kA n a)(hb:kA n b)(ic:8<=p)(gX:p<=512):gR 164 [gZ a,gZ b,iP p] (gZ (Ae a b p)):=by
 have la:=ha.len;have lb:=hb.len;have vb0:=hb.ok 0;exact ak call164 func164 (ae [.o 12 (.e (DW _ _):aj (.sl true 2 1 λi_ j_=>[gZ a,gZ b].getD (i_*1+j_) (.v (.bool false))) (kS [a,b])),.c (wE [a,b] n aC aC aH (Ht aD aD)),.a (aC:0<=(0:Int)/\(0:Int)<=((a.length:Int):Int)),.a (aC:((88:Nat):Int)*(a.length:Int)<=281474976710656/\((a.length:Int):Int)<=9223372036854775807),.s (Sp.jH (XJ a b p) 0 a.length aC (λx hx mw=>by
    have pz:kA x (iU (qS a b p) x):=A7 x λk l _ _=>qc _ _ aC aC 
    have nS:(λ_:Nat=>x) 0=x:=rfl;have rE:=pE (jj (oY p (a.getD x gU) (λi=>iz ((iU (qS a b p) x).getD i gU) (b.getD (x-i) gU) p) 0 x) (b.getD 0 gU) p);have vls:=JE (aC:1<=p) (aC:p<=4096) (ha.ok x) (T:=(λi=>iz ((iU (qS a b p) x).getD i gU) (b.getD (x-i) gU) p)) (a:=0) x λ_ _ _=>og _ _ aC aC 
    exact iB (ae [tT 21 ((x:Int)<a.length) aC,iX (x:Int) (a.length) aC,ik ((x:Int)-1) aC,.c (XO _ (ha.ok x) 0 x p _ aC _ _ (λi=>iz ((iU (qS a b p) x).getD i gU) (b.getD (x-i) gU) p) aC ic gX λi h1 h2=>⟨og _ _ aC aC,ajQ _ b i x p _ (aC:i<x) aC aC aC pz.ok hb.ok ic gX⟩:gR 194 [ib (a.getD x gU),iP 0,iP ((x:Int)-1),iP p,.fn 195 [(.iN 1 λ_=>(.sl true ((λ_=>x) 0) 7 ((λ_=>iG (iU (qS a b p) x)) 0))),(.iN 1 λj_=>[gZ b].getD j_ .any),(.iN 1 λj_=>[iP x].getD j_ .any),(.iN 1 λj_=>[iP p].getD j_ .any)]] _),.a (F2 _:vy (ib (oY p (a.getD x gU) (λi=>iz ((iU (qS a b p) x).getD i gU) (b.getD (x-i) gU) p) 0 x))),.a (aC:0<1),iX 0 (b.length) aC,.c (y3 (oY p (a.getD x gU) (λi=>iz ((iU (qS a b p) x).getD i gU) (b.getD (x-i) gU) p) 0 x) (b.getD 0 gU) p aD aD aC aC),.o 39 (.e (lG _):aj (.sl true 1 7 λi_ j_=>(iF (jj (oY p (a.getD x gU) (λi=>iz ((iU (qS a b p) x).getD i gU) (b.getD (x-i) gU) p) 0 x) (b.getD 0 gU) p)).getD (i_*7+j_) (.v (.bool false))) (gZ [jj (oY p (a.getD x gU) (λi=>iz ((iU (qS a b p) x).getD i gU) (b.getD (x-i) gU) p) 0 x) (b.getD 0 gU) p])),.a (aC:0<1),.a (aC:((λ_=>x) 0+[jj (oY p (a.getD x gU) (λi=>iz ((iU (qS a b p) x).getD i gU) (b.getD (x-i) gU) p) 0 x) (b.getD 0 gU) p].length)*88<=140737488355328),.a (rfl:0=0),.a (rfl:0=0),.a (aC:0<1),ik ((x:Int)+1) aC]<|.e (af [.b 7 (OR rfl:Bx.le (.jC true 26 44 1 7 (λq=>if q=0 then(λ_=>x) q+[jj (oY p (a.getD x gU) (λi=>iz ((iU (qS a b p) x).getD i gU) (b.getD (x-i) gU) p) 0 x) (b.getD 0 gU) p].length else(λ_=>x) q) (λq i j=>if q=0 then(if i<(λ_=>x) q then(λ_=>iG (iU (qS a b p) x)) q i j else(E.kJ (gZ [jj (oY p (a.getD x gU) (λi=>iz ((iU (qS a b p) x).getD i gU) (b.getD (x-i) gU) p) 0 x) (b.getD 0 gU) p])) (i-(λ_=>x) q) j)else(λ_=>iG (iU (qS a b p) x)) q i j) .none) (.jC true 26 44 1 7 (λ_=>(x+1)) (λ_=>iG (iU (qS a b p) (x+1))) .none))])) aF)
  (λhx=>by
    exact iB (af [tF 21 ((a.length:Int)<a.length) aC]) aF) aI:jD 5 f164 (XJ a b p 0) (.exit 0) ⟨43,true,[(7,.mT 7 1 0 0)],[(7,.jC true 26 44 1 7 (λ_=>a.length) (λ_=>iG (iU (qS a b p) a.length)) .none)]⟩) (af [.b 7 (aiM (λ_ _=>rfl):Bx.le (.jC true 26 44 1 7 (λ_=>0) (λ_=>λ_ j_=>au.getD j_ .any) .none) (.jC true 26 44 1 7 (λ_=>0) (λ_=>iG (iU (qS a b p) 0)) .none))]),.a (aC:0<1)]<|rR (gZ (Ae a b p)) (Ba (xs:=Ae a b p) (by unfold Ae;rw[xZ]):E.le (.sl true ((λ_=>a.length) 0) 7 ((λ_=>iG (iU (qS a b p) a.length)) 0)) (gZ (Ae a b p)))) 
def XT(a b:List Iv)(p:Nat)(x:Nat):PS:=⟨31,true,[(19,.e (iP x)),(18,.e (iP a.length)),(7,.own 16),(5,.box 5 0),(4,.box 4 0),(3,.box 3 0)],[(16,.row true 44 x 7 (iG (kQ (λk=>lV p (λi=>iz (a.getD i gU) (b.getD (k-i) gU) p) 0 k) x))),(5,.cells 3 [iP p]),(4,.cells 26 [gZ b]),(3,.cells 26 [gZ a])]⟩
def XW(a:List Iv)(p k:Nat)(x:Nat):PS:=⟨71,true,[(39,.e (iP x)),(38,.e (iP a.length)),(7,.own 15),(0,.e (gZ a)),(1,.e (iP k)),(2,.e (iP p))],[(15,.row true 44 a.length 7 (iG (kQ (λi=>if i<x then(λi=>iz (jU 0) (a.getD i gU) p) i else(λi=>a.getD i gU) i) a.length)))]⟩
def XX(a:List Iv)(p k:Nat)(x:Nat):PS:=⟨71,true,[(55,.e (iP x)),(7,.own 60),(54,.e (iP ((k:Int)-1))),(0,.e (gZ a)),(1,.e (iP k)),(2,.e (iP p))],[(60,.row true 44 ((oV a p x).length) 7 (iG (oV a p x)))]⟩
noncomputable def XL(a:List Iv)(p:Nat)(x:Nat):PS:=⟨43,true,[(6,.box 6 0),(5,.mT 5 1 0 0),(3,.box 3 0),(2,.box 2 0)],[(6,.cells 3 [iP x]),(5,.jC true 26 44 1 7 (λ_=>x) (λ_=>iG (iU (pS a p) x)) .none),(3,.cells 3 [iP p]),(2,.cells 26 [gZ a])]⟩
def XU(a b:List Iv)(n p:Nat)(h1:1<=n)(np:n<=17)(ha:kA n a)(hb:kA n b)(ic:8<=p)(gX:p<=512):xm 163 [gZ a,gZ b,iP p] true 44 a.length 7 (iG (sN a b p)):=by
 have la:=ha.len;have lb:=hb.len;exact YP call163 func163 (ae [.o 11 (.e (DW _ _):aj (.sl true 2 1 λi_ j_=>[gZ a,gZ b].getD (i_*1+j_) (.v (.bool false))) (kS [a,b])),.c (wE [a,b] n aC aC aH (Ht aD aD)),.a (aC:0<=(0:Int)/\(0:Int)<=((a.length:Int):Int)),.a (aC:((88:Nat):Int)*(a.length:Int)<=281474976710656/\((a.length:Int):Int)<=9223372036854775807),.s (Sp.jH (XT a b p) 0 a.length aC (λx hx mw=>by
    have rE:=pE (lV p (λi=>iz (a.getD i gU) (b.getD (x-i) gU) p) 0 x);exact iB (ae [tT 20 ((x:Int)<a.length) aC,.c (Ko 0 x p _ aC _ _ (λi=>iz (a.getD i gU) (b.getD (x-i) gU) p) aC ic gX λi h1 h2=>⟨og _ _ aC aC,XR a b i x p aC aC aC aC ha.ok hb.ok ic gX⟩:gR 192 [iP 0,iP x,iP p,.fn 193 [(.iN 1 λj_=>[gZ a].getD j_ .any),(.iN 1 λj_=>[gZ b].getD j_ .any),(.iN 1 λj_=>[iP x].getD j_ .any),(.iN 1 λj_=>[iP p].getD j_ .any)]] _),.o 27 (.e (lG _):aj (.sl true 1 7 λi_ j_=>(iF (lV p (λi=>iz (a.getD i gU) (b.getD (x-i) gU) p) 0 x)).getD (i_*7+j_) (.v (.bool false))) (gZ [lV p (λi=>iz (a.getD i gU) (b.getD (x-i) gU) p) 0 x])),.a (aC:(x+[lV p (λi=>iz (a.getD i gU) (b.getD (x-i) gU) p) 0 x].length)*88<=140737488355328),ik ((x:Int)+1) aC]<|.e (af [.b 16 (L7 rfl rfl:Bx.le (.row true 44 (x+[lV p (λi=>iz (a.getD i gU) (b.getD (x-i) gU) p) 0 x].length) 7 (λi_ j_=>if i_<x then(iG (kQ (λk=>lV p (λi=>iz (a.getD i gU) (b.getD (k-i) gU) p) 0 k) x)) i_ j_ else(E.kJ (gZ [lV p (λi=>iz (a.getD i gU) (b.getD (x-i) gU) p) 0 x])) (i_-x) j_)) (.row true 44 (x+1) 7 (iG (kQ (λk=>lV p (λi=>iz (a.getD i gU) (b.getD (k-i) gU) p) 0 k) (x+1)))))])) aF)
  (λhx=>by
    exact iB (af [tF 20 ((a.length:Int)<a.length) aC]) aF) aI:jD 5 f163 (XT a b p 0) (.exit 0) ⟨31,true,[(7,.own 16)],[(16,.row true 44 a.length 7 (iG (kQ (λk=>lV p (λi=>iz (a.getD i gU) (b.getD (k-i) gU) p) 0 k) a.length)))]⟩) (af [.b 16 (OZ:Bx.le (.row true 44 0 7 (λ_ j_=>au.getD j_ .any)) (.row true 44 0 7 (iG (kQ (λk=>lV p (λi=>iz (a.getD i gU) (b.getD (k-i) gU) p) 0 k) 0))))])]<|.rb (.refl _:Bx.le (.row true 44 a.length 7 (iG (kQ (λk=>lV p (λi=>iz (a.getD i gU) (b.getD (k-i) gU) p) 0 k) a.length))) (.row true 44 a.length 7 (iG (sN a b p))))) aF 
def Pg{n:Nat}{xs:List Iv}{y:Iv}(h:n=xs.length):E.le (.sl true n 7 λi' j'=>if i'=0/\0<=j'/\j'<0+7 then(iF y).getD (j'-0) .any else iG xs i' j') (gZ (xs.set 0 y)):=by
 have hl:(xs.set 0 y).length=n:=by simp[h]
 unfold gZ;rw[hl];refine .sl λi j hi hj=>⟨?_,tn _ _ hj⟩
 by_cases h0:i=0
 .subst h0;rw[aZ ⟨rfl,bV _,aC⟩];have e:(xs.set 0 y).getD 0 gU=y:=by
   cases xs with
   |nil=>simp at h;omega
   |cons x xs=>rfl
  rw[e];exact .refl _
 .rw [aY λq=>h0 q.1];have e:(xs.set 0 y).getD i gU=xs.getD i gU:=by
   simp only[bd,List.getElem?_set,aY λq:0=i=>h0 q.symm]
  rw[e];exact .refl _
def aj7{T n x:Nat}{f g:Nat->Iv}{y:Iv}(hy:y=f x):Bx.le (.row true T n 7 λi' j'=>if i'=x/\0<=j'/\j'<0+7 then(iF y).getD (j'-0) .any else iG (kQ (λi=>if i<x then f i else g i) n) i' j')
 (.row true T n 7 (iG (kQ (λi=>if i<x+1 then f i else g i) n))):=.row rfl λi j hi hj=>⟨.iM (by
 subst hy;by_cases h:i=x
 .subst h;rw[aZ ⟨rfl,bV _,aC⟩];show _=(iF ((kQ _ n).getD i gU)).getD j .any;rw[IN hi,aZ (ej _)];rfl
 .rw [aY λq=>h q.1];show(iF ((kQ _ n).getD i gU)).getD j .any=(iF ((kQ _ n).getD i gU)).getD j .any;rw[IN hi,IN hi];by_cases q:i<x
  .rw [aZ q,aZ aC]
  .rw [aY q,aY aC]),tn _ _ hj⟩
def aee(a:List Iv):kQ (λi=>a.getD i gU) a.length=a:=by
 apply fR (yE _ _);intro i h1 h2;simp[kQ,bd,h2]
def aed{f g:Nat->Iv}{n:Nat}(h:∀ i,i<n->f i=g i):kQ f n=kQ g n:=by
 unfold kQ;exact fc λi hi=>h i (bW.1 hi)
def Gb{a:List Iv}{p:Nat}:∀ k,(oV a p k).length=a.length
 | 0=>rfl
 |k+1=>by simp only[oV,sN,yE];exact Gb k
def ajZ(a:List Iv)(n p k:Nat)(h1:1<=n)(np:n<=17)(ha:kA n a)(ic:8<=p)(gX:p<=512)(hk:k<=16)(h0:k=0):gR 166 [gZ a,iP k,iP p] (gZ (sQ a k p)):=by
 have la:=ha.len;have va0:=ha.ok 0;exact ak call166 func166 (ae [.o 11 (.e (Ct _):aj (.sl true 1 1 λi_ j_=>[gZ a].getD (i_*1+j_) (.v (.bool false))) (kS [a])),.c (wE [a] n aC aC aH (Bq aD)),.cn (Hv _ aC aC:xm 198 [gZ a] true 44 a.length 7 (iG a)),tF 18 ((k:Int)<0) aC,tF 21 (16<(k:Int)) aC,ah 36 ((k:Int)==0) (aU aC),.s (Sp.jH (XW a p k) 0 a.length aC (λx hx mw=>by
    have vx:=ha.ok x;have v0:=yb 0 aC;exact iB (ae [tT 40 ((x:Int)<a.length) aC,.c (Bc 0 aC),iX (x:Int) (a.length) aC,.c (tp (jU 0) (a.getD x gU) p aD aD aC aC),
     iX (x:Int) (a.length) aC,.a (aC:x<a.length),ik ((x:Int)+1) aC]<|.e (af [.b 15 (aj7 rfl:Bx.le (.row true 44 a.length 7 (λi' j'=>if i'=x/\0<=j'/\j'<0+7 then[bP (((iz (jU 0) (a.getD x gU) p).lo).neg),gW (gS (((iz (jU 0) (a.getD x gU) p).lo).m)),iP (((iz (jU 0) (a.getD x gU) p).lo).e),bP (((iz (jU 0) (a.getD x gU) p).hi).neg),gW (gS (((iz (jU 0) (a.getD x gU) p).hi).m)),iP (((iz (jU 0) (a.getD x gU) p).hi).e),bP ((iz (jU 0) (a.getD x gU) p).all)].getD (j'-0) .any else(iG (kQ (λi=>if i<x then(λi=>iz (jU 0) (a.getD i gU) p) i else(λi=>a.getD i gU) i) a.length)) i' j')) (.row true 44 a.length 7 (iG (kQ (λi=>if i<(x+1)then(λi=>iz (jU 0) (a.getD i gU) p) i else(λi=>a.getD i gU) i) a.length))))])) aF)
  (λhx=>by
    exact iB (af [tF 40 ((a.length:Int)<a.length) aC]) aF) aI:jD 13 f166 (XW a p k 0) (.exit 3) ⟨71,true,[(7,.own 15),(0,.e (gZ a)),(1,.e (iP k)),(2,.e (iP p))],[(15,.row true 44 a.length 7 (iG (kQ (λi=>if i<a.length then(λi=>iz (jU 0) (a.getD i gU) p) i else(λi=>a.getD i gU) i) a.length)))]⟩) (af [.b 15 (.iM (by simp only[bn,bk,aee]):Bx.le (.row true 44 a.length 7 (iG a)) (.row true 44 a.length 7 (iG (kQ (λi=>if i<0 then(λi=>iz (jU 0) (a.getD i gU) p) i else(λi=>a.getD i gU) i) a.length))))]),
  ik ((k:Int)-1) aC,.u 2,tF 56 (0<((k:Int)-1)) aC,iX 0 (a.length) aC,ag [ib (a.getD 0 gU),iP k,iP p] (Hz _ _ _ aD aC aC aC),iX 0 (a.length) aC,.a (aC:0<a.length)]<|rR (gZ (sQ a k p)) ((Pg (yE _ _).symm).trans (.iM (by unfold sQ D8;rw[aZ h0,aed λi hi=>aZ hi])):E.le (.sl true a.length 7 (λi' j'=>if i'=0/\0<=j'/\j'<0+7 then[bP (((mD (a.getD 0 gU) k p).lo).neg),gW (gS (((mD (a.getD 0 gU) k p).lo).m)),iP (((mD (a.getD 0 gU) k p).lo).e),bP (((mD (a.getD 0 gU) k p).hi).neg),gW (gS (((mD (a.getD 0 gU) k p).hi).m)),iP (((mD (a.getD 0 gU) k p).hi).e),bP ((mD (a.getD 0 gU) k p).all)].getD (j'-0) .any else(iG (kQ (λi=>if i<a.length then(λi=>iz (jU 0) (a.getD i gU) p) i else(λi=>a.getD i gU) i) a.length)) i' j')) (gZ (sQ a k p)))) 
def aj0(a:List Iv)(n p k:Nat)(h1:1<=n)(np:n<=17)(ha:kA n a)(ic:8<=p)(gX:p<=512)(hk:k<=16)(h0:k=1):gR 166 [gZ a,iP k,iP p] (gZ (sQ a k p)):=by
 have la:=ha.len;have va0:=ha.ok 0;exact ak call166 func166 (ae [.o 11 (.e (Ct _):aj (.sl true 1 1 λi_ j_=>[gZ a].getD (i_*1+j_) (.v (.bool false))) (kS [a])),.c (wE [a] n aC aC aH (Bq aD)),.cn (Hv _ aC aC:xm 198 [gZ a] true 44 a.length 7 (iG a)),tF 18 ((k:Int)<0) aC,tF 21 (16<(k:Int)) aC,ai 36 ((k:Int)==0) (aT aC),ik ((k:Int)-1) aC,.u 2,tF 56 (0<((k:Int)-1)) aC,iX 0 (a.length) aC,ag [ib (a.getD 0 gU),iP k,iP p] (Hz _ _ _ aD aC aC aC),iX 0 (a.length) aC,.a (aC:0<a.length)]<|rR (gZ (sQ a k p)) ((Pg rfl).trans (.iM (by unfold sQ D8;rw[aY aC,h0];rfl)):E.le (.sl true a.length 7 (λi' j'=>if i'=0/\0<=j'/\j'<0+7 then[bP (((mD (a.getD 0 gU) k p).lo).neg),gW (gS (((mD (a.getD 0 gU) k p).lo).m)),iP (((mD (a.getD 0 gU) k p).lo).e),bP (((mD (a.getD 0 gU) k p).hi).neg),gW (gS (((mD (a.getD 0 gU) k p).hi).m)),iP (((mD (a.getD 0 gU) k p).hi).e),bP ((mD (a.getD 0 gU) k p).all)].getD (j'-0) .any else(iG a) i' j')) (gZ (sQ a k p)))) 
def Xr{T n n':Nat}{xs:List Iv}(h:n=n'):Bx.le (.row true T n 7 (iG xs)) (.row true T n' 7 (iG xs)):=.row h λi j _ hj=>⟨.refl _,tn _ _ hj⟩
def aj1(a:List Iv)(n p k:Nat)(h1:1<=n)(np:n<=17)(ha:kA n a)(ic:8<=p)(gX:p<=512)(hk:k<=16)(h0:2<=k):gR 166 [gZ a,iP k,iP p] (gZ (sQ a k p)):=by
 have la:=ha.len;have va0:=ha.ok 0;have DB:=Gb (a:=a) (p:=p) (k-1);exact ak call166 func166 (ae [.o 11 (.e (Ct _):aj (.sl true 1 1 λi_ j_=>[gZ a].getD (i_*1+j_) (.v (.bool false))) (kS [a])),.c (wE [a] n aC aC aH (Bq aD)),.cn (Hv _ aC aC:xm 198 [gZ a] true 44 a.length 7 (iG a)),tF 18 ((k:Int)<0) aC,tF 21 (16<(k:Int)) aC,ai 36 ((k:Int)==0) (aT aC),ik ((k:Int)-1) aC,.u 2,tT 56 (0<((k:Int)-1)) aC,.cn (XU a a n p h1 np ha ha ic gX:xm 163 [.sl true a.length 7 (iG a),gZ a,iP p] true 44 a.length 7 (iG (sN a a p))),.a (VB _:Et a.length 7 (iG (sN a a p))),
  ik (0+1) aC,.k [55,7,54,0,1,2] [60],.s (Sp.jH (XX a p k) 1 (k-1) aC (λx hx mw=>by
    have DB:=Gb (a:=a) (p:=p) x;exact iB (ae [tT 56 ((x:Int)<((k:Int)-1)) aC,.cn (XU (oV a p x) a n p h1 np (NS aC aC ha x) ha ic gX:xm 163 [.sl true ((oV a p x).length) 7 (iG (oV a p x)),gZ a,iP p] true 44 ((oV a p x).length) 7 (iG (sN (oV a p x) a p))),.a (VB _:Et ((oV a p x).length) 7 (iG (sN (oV a p x) a p))),ik ((x:Int)+1) aC]<|.e (af [.b 60 (Xr (xs:=(oV a p (x+1))) (by simp only[Gb]):Bx.le (.row true 44 ((oV a p x).length) 7 (iG (sN (oV a p x) a p))) (.row true 44 ((oV a p (x+1)).length) 7 (iG (oV a p (x+1)))))])) aF)
  (λhx=>by
    exact iB (af [tF 56 (((k-1:Nat):Int)<((k:Int)-1)) aC]) aF) aI:jD 18 f166 (XX a p k 1) (.exit 5) ⟨71,true,[(7,.own 60),(0,.e (gZ a)),(1,.e (iP k)),(2,.e (iP p))],[(60,.row true 44 ((oV a p (k-1)).length) 7 (iG (oV a p (k-1))))]⟩) (af [.o 55 (aq (0+1) 1 aO),.b 60 (Xr (xs:=(oV a p 1)) (by simp only[Gb]):Bx.le (.row true 44 a.length 7 (iG (sN a a p))) (.row true 44 ((oV a p 1).length) 7 (iG (oV a p 1))))]),
  iX 0 (a.length) aC,ag [ib (a.getD 0 gU),iP k,iP p] (Hz _ _ _ aD aC aC aC),iX 0 ((oV a p (k-1)).length) aC,.a (aC:0<(oV a p (k-1)).length)]<|rR (gZ (sQ a k p)) ((Pg rfl).trans (.iM (by unfold sQ D8;rw[aY aC])):E.le (.sl true ((oV a p (k-1)).length) 7 (λi' j'=>if i'=0/\0<=j'/\j'<0+7 then[bP (((mD (a.getD 0 gU) k p).lo).neg),gW (gS (((mD (a.getD 0 gU) k p).lo).m)),iP (((mD (a.getD 0 gU) k p).lo).e),bP (((mD (a.getD 0 gU) k p).hi).neg),gW (gS (((mD (a.getD 0 gU) k p).hi).m)),iP (((mD (a.getD 0 gU) k p).hi).e),bP ((mD (a.getD 0 gU) k p).all)].getD (j'-0) .any else(iG (oV a p (k-1))) i' j')) (gZ (sQ a k p)))) 
def aj2(a:List Iv)(n p k:Nat)(h1:1<=n)(np:n<=17)(ha:kA n a)(ic:8<=p)(gX:p<=512)(hk:k<=16):gR 166 [gZ a,iP (k:Int),iP (p:Int)] (gZ (sQ a k p)):=by
 by_cases h0:k=0
 .exact ajZ a n p k h1 np ha ic gX hk h0
 by_cases h2:k=1
 .exact aj0 a n p k h1 np ha ic gX hk h2
 .exact aj1 a n p k h1 np ha ic gX hk aC 
def Xf{T1 T0:Nat}{f:Nat->List Iv->Iv}{y:Iv}{e0 e1:Nat->Nat->Nat->E}(hy:y=f 0 []):Bx.le (.jC true T1 T0 1 7 (λq=>if q=0 then 0+[y].length else 0) (λq i j=>if q=0 then(if i<0 then e0 q i j else(E.kJ (gZ [y])) (i-0) j)else e1 q i j) none)
 (.jC true T1 T0 1 7 (λ_=>1) (λ_=>iG (iU f 1)) none):=by
 subst hy;refine .jC rfl (λk hk=>?_) (λk i j hk hi hj=>?_)
 .obtain rfl:k=0:= aC ;rfl
 .obtain rfl:k=0:= aC ;rw[aZ rfl]at hi;have hi:i<0+1:=hi;obtain rfl:i=0:= aC ;exact⟨.iM rfl,tn _ _ hj⟩
def aiN{T:Nat}{f:Nat->List Iv->Iv}{y:Iv}{e:Nat->Nat->E}(hy:y=f 0 []):Bx.le (.row true T (0+[y].length) 7 λa j=>if a<0 then e a j else(E.kJ (gZ [y])) (a-0) j) (.row true T 1 7 (iG (iU f 1))):=by
 subst hy;refine .row rfl λi j hi hj=>?_
 have hi:i<0+1:=hi;obtain rfl:i=0:= aC ;exact⟨.iM rfl,tn _ _ hj⟩
def ajS(a out:List Iv)(i k p m:Nat)(T4:1<=i)(hi:i<=k)(hk:k<a.length)(hm:k<=m)(l17:a.length<=17)(va:lY a)(vo:lY out)(ic:8<=p)(gX:p<=512):gR 202 [iP i,(.iN 1 λj_=>[gZ a].getD j_ .any),(.iN 1 λj_=>[iP p].getD j_ .any),(.iN 1 λ_=>.sl true m 7 (iG out)),(.iN 1 λj_=>[iP k].getD j_ .any)] (ib (iz (iz (jU i) (a.getD i gU) p) (out.getD (k-i) gU) p)):=by
 have v1:=va i;have v2:=vo (k-i);have v3:=yb i aC;have v4:(iz (jU i) (a.getD i gU) p).gY:=og _ _ aC aC;exact ak call202 func202 (af [.c (Bc i aC),iX (i:Int) (a.length) aC,.c (tp (jU i) (a.getD i gU) p aD aD aC aC),ik ((k:Int)-i) aC,.o 18 (aq ((k:Int)-i) ((k-i:Nat):Int) aC),iX ((k-i:Nat):Int) m aC,.c (tp (iz (jU i) (a.getD i gU) p) (out.getD (k-i) gU) p aD aD aC aC)]) 
def ajT(a:List Iv)(n p:Nat)(h1:1<=n)(np:n<=17)(ha:kA n a)(ic:8<=p)(gX:p<=512)(hF:uq):gR 167 [gZ a,iP p] (gZ (Ai a p)):=by
 have la:=ha.len;have va0:=ha.ok 0;have pf:(λ_:Nat=>(0:Nat)) 0=0:=rfl;have Uk:=pE (uD (a.getD 0 gU) p);exact ak call167 func167 (ae [.o 9 (.e (Ct _):aj (.sl true 1 1 λi_ j_=>[gZ a].getD (i_*1+j_) (.v (.bool false))) (kS [a])),.c (wE [a] n aC aC aH (Bq aD)),.a (aC:0<=(0:Int)/\(0:Int)<=((a.length:Int):Int)),.a (aC:((88:Nat):Int)*(a.length:Int)<=281474976710656/\((a.length:Int):Int)<=9223372036854775807),.a (aC:0<1),
  iX 0 (a.length) aC,ag [ib (a.getD 0 gU),iP p] (SB _ aD _ aC aC hF),.o 21 (.e (lG _):aj (.sl true 1 7 λi_ j_=>(iF (uD (a.getD 0 gU) p)).getD (i_*7+j_) (.v (.bool false))) (gZ [uD (a.getD 0 gU) p])),.a (aC:0<1),.a (aC:((λ_=>0) 0+[uD (a.getD 0 gU) p].length)*88<=140737488355328),.a (rfl:0=0),.a (rfl:0=0),.a (aC:0<1),.s (Sp.jH (XL a p) 1 a.length aC (λx hx mw=>by
    have nS:(λ_:Nat=>x) 0=x:=rfl;have pz:kA x (iU (pS a p) x):=A7 x λk l _ _=>by unfold pS;split<;>first|exact LU _ _|exact qc _ _ aC aC 
    have vs:=GV (aC:1<=p) (aC:p<=4096) (T:=(λi=>(iz (iz (jU i) (a.getD i gU) p) ((iU (pS a p) x).getD (x-i) gU) p))) (a:=1) (x-1) λ_ _ _=>og _ _ aC aC 
    have vw:=yb x aC;have rE:=pE (jj (lV p (λi=>(iz (iz (jU i) (a.getD i gU) p) ((iU (pS a p) x).getD (x-i) gU) p)) 1 (x-1)) (jU x) p);exact iB (ae [tT 26 ((x:Int)<a.length) aC,.c (Ko 1 (x-1) p _ aC _ _ (λi=>(iz (iz (jU i) (a.getD i gU) p) ((iU (pS a p) x).getD (x-i) gU) p)) aC ic gX λi h1 h2=>⟨og _ _ aC aC,ajS a _ i x p _ h1 aC aC aC aC ha.ok pz.ok ic gX⟩:gR 192 [iP 1,iP x,iP p,.fn 202 [(.iN 1 λj_=>[gZ a].getD j_ .any),(.iN 1 λj_=>[iP p].getD j_ .any),(.iN 1 λ_=>(.sl true ((λ_=>x) 0) 7 ((λ_=>iG (iU (pS a p) x)) 0))),(.iN 1 λj_=>[iP x].getD j_ .any)]] _),.a (F2 _:vy (ib (lV p (λi=>(iz (iz (jU i) (a.getD i gU) p) ((iU (pS a p) x).getD (x-i) gU) p)) 1 (x-1)))),.a (aC:0<1),.c (Bc x aC),.c (y3 (lV p (λi=>(iz (iz (jU i) (a.getD i gU) p) ((iU (pS a p) x).getD (x-i) gU) p)) 1 (x-1)) (jU x) p aD aD aC aC),.o 39 (.e (lG _):aj (.sl true 1 7 λi_ j_=>(iF (jj (lV p (λi=>(iz (iz (jU i) (a.getD i gU) p) ((iU (pS a p) x).getD (x-i) gU) p)) 1 (x-1)) (jU x) p)).getD (i_*7+j_) (.v (.bool false))) (gZ [jj (lV p (λi=>(iz (iz (jU i) (a.getD i gU) p) ((iU (pS a p) x).getD (x-i) gU) p)) 1 (x-1)) (jU x) p])),.a (aC:0<1),.a (aC:((λ_=>x) 0+[jj (lV p (λi=>(iz (iz (jU i) (a.getD i gU) p) ((iU (pS a p) x).getD (x-i) gU) p)) 1 (x-1)) (jU x) p].length)*88<=140737488355328),.a (rfl:0=0),.a (rfl:0=0),.a (aC:0<1),ik ((x:Int)+1) aC]<|.e (af [.b 5 (OR (by unfold pS;rw[aY aC]):Bx.le (.jC true 26 44 1 7 (λq=>if q=0 then(λ_=>x) q+[jj (lV p (λi=>(iz (iz (jU i) (a.getD i gU) p) ((iU (pS a p) x).getD (x-i) gU) p)) 1 (x-1)) (jU x) p].length else(λ_=>x) q) (λq i j=>if q=0 then(if i<(λ_=>x) q then(λ_=>iG (iU (pS a p) x)) q i j else(E.kJ (gZ [jj (lV p (λi=>(iz (iz (jU i) (a.getD i gU) p) ((iU (pS a p) x).getD (x-i) gU) p)) 1 (x-1)) (jU x) p])) (i-(λ_=>x) q) j)else(λ_=>iG (iU (pS a p) x)) q i j) .none) (.jC true 26 44 1 7 (λ_=>(x+1)) (λ_=>iG (iU (pS a p) (x+1))) .none))])) aF)
  (λhx=>by
    exact iB (af [tF 26 ((a.length:Int)<a.length) aC]) aF) aI:jD 6 f167 (XL a p 1) (.exit 0) ⟨43,true,[(5,.mT 5 1 0 0)],[(5,.jC true 26 44 1 7 (λ_=>a.length) (λ_=>iG (iU (pS a p) a.length)) .none)]⟩) (af [.b 5 (Xf rfl:Bx.le (.jC true 26 44 1 7 (λq=>if q=0 then(λ_=>0) q+[uD (a.getD 0 gU) p].length else(λ_=>0) q) (λq i j=>if q=0 then(if i<(λ_=>0) q then(λ_=>λ_ j_=>au.getD j_ .any) q i j else(E.kJ (gZ [uD (a.getD 0 gU) p])) (i-(λ_=>0) q) j)else(λ_=>λ_ j_=>au.getD j_ .any) q i j) .none) (.jC true 26 44 1 7 (λ_=>1) (λ_=>iG (iU (pS a p) 1)) .none))]),.a (aC:0<1)]<|rR (gZ (Ai a p)) (Ba (xs:=Ai a p) (by unfold Ai;rw[xZ]):E.le (.sl true ((λ_=>a.length) 0) 7 ((λ_=>iG (iU (pS a p) a.length)) 0)) (gZ (Ai a p)))) 
def iH(f:Nat->Rat):Nat->Rat
 | 0=>0
 |n+1=>iH f n+f n
def pY{f g:Nat->Rat}:∀ n,(∀ i,i<n->f i=g i)->iH f n=iH g n
 | 0,_=>rfl
 |n+1,h=>by rw[iH,iH,pY n (λi hi=>h i aC),h n aC]
def CO{f g:Nat->Rat}:∀ n,(∀ i,i<n->f i<=g i)->iH f n<=iH g n
 | 0,_=>b6
 |n+1,h=>by
  have h1:=CO n (λi hi=>h i aC);have h2:=h n aC;rw[iH,iH];grind
def CP{f:Nat->Rat}(n:Nat)(h:∀ i,i<n->0<=f i):0<=iH f n:=by
 induction n with
 |zero=>exact b6
 |succ n ih=>
  have h1:=ih (λi hi=>h i aC);have h2:=h n aC;rw[iH];grind
def Bh(f:Nat->Rat)(c:Rat):∀ n,iH (λi=>c*f i) n=c*iH f n
 | 0=>by simp[iH]
 |n+1=>by rw[iH,iH,Bh f c n];grind
def Ei(f:Nat->Rat)(c:Rat):∀ n,iH (λi=>f i*c) n=iH f n*c
 | 0=>by simp[iH]
 |n+1=>by rw[iH,iH,Ei f c n];grind
def GR(f g:Nat->Rat):∀ n,iH (λi=>f i+g i) n=iH f n+iH g n
 | 0=>by simp only[iH];grind
 |n+1=>by rw[iH,iH,iH,GR f g n];grind
def GS(f:Nat->Nat->Rat)(m:Nat):∀ n,iH (λi=>iH (λj=>f i j) m) n=iH (λj=>iH (λi=>f i j) n) m
 | 0=>by
  have:∀ m,iH (λ_=>(0:Rat)) m=0:=by
   intro m
   induction m with
   |zero=>rfl
   |succ m ih=>rw[iH,ih];grind
  exact(this m).symm
 |n+1=>by
  rw[iH,GS f m n,<-GR];rfl
def Yx(f:Nat->Rat):∀ n,iH f (n+1)=f 0+iH (λi=>f (i+1)) n
 | 0=>by simp only[iH];grind
 |n+1=>by rw[iH,Yx f n,iH];grind
def iR(x:Rat):Rat:=if 0<=x then x else -x
def mN(x:Rat):0<=iR x/\x<=iR x /\ -x<=iR x/\(iR x=x/\0<=x\/iR x = -x/\x<=0):=by unfold iR;split<;>grind
def xr{x b:Rat}(h1:x<=b)(h2:-x<=b):iR x<=b:=by unfold iR;split<;>grind
def P6(x y:Rat):iR (x+y)<=iR x+iR y:=by
 obtain⟨a1,a2,a3,_⟩:=mN x;obtain⟨b1,b2,b3,_⟩:=mN y;exact xr aK aK 
def yp(x y:Rat):iR (x*y)=iR x*iR y:=by
 obtain⟨_,_,_,a⟩:=mN x;obtain⟨_,_,_,b⟩:=mN y;obtain⟨c1,_,_,c⟩:=mN (x*y);rcases a with⟨e1,h1⟩|⟨e1,h1⟩<;>rcases b with⟨e2,h2⟩|⟨e2,h2⟩<;>rw[e1,e2]
 .have:=bQ h1 h2;grind
 .have:=bQ h1 (show 0 <= -y by grind);grind
 .have:=bQ (show 0 <= -x by grind) h2;grind
 .have:=bQ (show 0 <= -x by grind) (show 0 <= -y by grind);grind
def C2(f:Nat->Rat):∀ n,iR (iH f n)<=iH (λi=>iR (f i)) n
 | 0=>by simp[iH,iR]
 |n+1=>by
  have h1:=C2 f n;have h2:=P6 (iH f n) (f n);rw[iH,iH];grind
def P7:iR 0=0:=rfl
abbrev QM:=Nat->Nat->Rat
def qm(n:Nat)(A B:QM):QM:=λi j=>iH (λq=>A i q*B q j) n
def xX:QM:=λi j=>if i=j then 1 else 0
def TQ(n:Nat)(M:QM)(t:Rat):Nat->QM
 | 0=>xX
 |j+1=>λi l=>t/((j+1:Nat):Rat)*qm n (TQ n M t j) M i l
def SQ(n:Nat)(M:QM)(t:Rat):Nat->QM
 | 0=>xX
 |j+1=>λi l=>SQ n M t j i l+TQ n M t (j+1) i l
def WG(j:Nat):(jk (j:Int)).jR ((j:Nat):Rat):=by have:=zh (j:Int);rwa[dN]at this
section
variable {m:List (List Iv)} {h:Iv} {M:QM} {t:Rat} {n p:Nat}
def zT(n:Nat)(A:QM)(b:Rat):Prop:=∀ i,i<n->iH (λl=>iR (A i l)) n<=b
def aju{A B:QM}{a b:Rat}(_h0:0<=a)(hb:0<=b)(h1:zT n A a)(h2:zT n B b):zT n (qm n A B) (a*b):=by
 intro i hi;have e1:iH (λl=>iR (qm n A B i l)) n<=iH (λl=>iH (λq=>iR (A i q)*iR (B q l)) n) n:=
  CO n λl _=>by
   have:=C2 (λq=>A i q*B q l) n;rw[show(λq=>iR (A i q*B q l))=λq=>iR (A i q)*iR (B q l)from funext λq=>yp _ _]at this;exact this
 rw[GS]at e1;have e2:iH (λq=>iH (λl=>iR (A i q)*iR (B q l)) n) n<=iH (λq=>iR (A i q)*b) n:=
  CO n λq hq=>by
   rw[Bh];exact cG (h2 q hq) (mN _).1
 rw[Ei]at e2;exact bH e1 (bH e2 (cj (h1 i hi) hb))
def eQ(c:Rat):Nat->Rat
 | 0=>1
 |j+1=>eQ c j*(c/((j+1:Nat):Rat))
def AT(j:Nat):(0:Rat)<((j+1:Nat):Rat):=fT.2 aC 
def RT{a b:Rat}(h1:0<=a)(h2:0<b):0<=a/b:=by
 rw[cL];exact bQ h1 (bG (fo.2 h2))
def vG{c:Rat}(h:0<=c):∀ j,0<=eQ c j
 | 0=>by simp only[eQ];decide
 |j+1=>bQ (vG h j) (RT h (AT j))
def akz(n i:Nat):iH (λl=>iR (xX i l)) n<=1/\(n<=i->iH (λl=>iR (xX i l)) n=0):=by
 induction n with
 |zero=>exact⟨by simp only[iH];grind,λ_=>rfl⟩
 |succ n ih=>
  have e1:iR 1=1:= aE ;simp only[iH,xX]at ih ⊢;by_cases h:i=n
  .have:=ih.2 aC ;rw[this,aZ h,e1];exact⟨aK,λh'=>absurd h' aC⟩
  .rw [aY h,P7,Rat.add_zero];exact⟨ih.1,λh'=>ih.2 aC⟩
def ajr{A:QM}{b:Rat}(h:zT n A b){i l:Nat}(hi:i<n)(hl:l<n):iR (A i l)<=b:=by
 have h1:=h i hi;have:∀ m,l<m->iR (A i l)<=iH (λl=>iR (A i l)) m:=by
  intro m hm
  induction m with
  |zero=>omega
  |succ m ih=>
   rw[iH];have h0:=CP m (f:=λl=>iR (A i l)) λi _=>(mN _).1
   have h2:=(mN (A i m)).1;by_cases hq:l=m
   .subst hq;grind
   .have:=ih aC;grind
 exact bH (this n hl) h1
end
def Kw(g:Nat->Nat->Rat):∀ m,iH (λj=>iH (g j) (m-j)) m=iH (λs=>iH (λj=>g j (s-j)) (s+1)) m
 | 0=>rfl
 |m+1=>by
  have ih:=Kw g m;have e1:iH (λj=>iH (g j) (m+1-j)) m=iH (λj=>iH (g j) (m-j)+g j (m-j)) m:=
   pY m λj hj=>by rw[(aC:m+1-j=m-j+1)];rfl
  have h1:iH (g m) (m+1-m)=g m 0:=by
   rw[(aC:m+1-m=0+1)];simp only[iH];grind
  have h2:iH (λj=>g j (m-j)) (m+1)=iH (λj=>g j (m-j)) m+g m (m-m):=rfl;show iH (λj=>iH (g j) (m+1-j)) m+iH (g m) (m+1-m)=iH (λs=>iH (λj=>g j (s-j)) (s+1)) m+iH (λj=>g j (m-j)) (m+1);rw[e1,GR,h1,h2,ih,cX]
  grind
def GU{f:Nat->Rat}(h:∀ i,0<=f i){m k:Nat}(hk:m<=k):iH f m<=iH f k:=by
 induction k with
 |zero=>
  have:m=0:= aC ;rw[this];exact b6
 |succ k ih=>
  by_cases hm:m=k+1
  .rw [hm];exact b6
  .have:=ih aC ;have:=h k;rw[iH];grind
def Ej(f:Nat->Rat)(m:Nat):∀ d,iH f (m+d)=iH f m+iH (λi=>f (m+i)) d
 | 0=>by simp only[iH,bS];grind
 |d+1=>by
  show iH f (m+d)+f (m+d)=_;rw[Ej f m d,iH];grind
def Iz(c:Rat)(j:Nat):eQ c (j+1)*((j+1:Nat):Rat)=c*eQ c j:=by
 have h:c/((j+1:Nat):Rat)*((j+1:Nat):Rat)=c:=dA (by have:=AT j;grind);simp only[eQ];grind
def Ib(a b:Rat):∀ s,iH (λj=>eQ b j*eQ a (s-j)) (s+1)=eQ (a+b) s
 | 0=>by
  show 0+eQ b 0*eQ a 0=1;simp only[eQ];grind
 |s+1=>by
  have ih:=Ib a b s;have hp:=AT s;have key:iH (λj=>eQ b j*eQ a (s+1-j)) (s+2)*((s+1:Nat):Rat)=(a+b)*eQ (a+b) s:=by
   have e0:iH (λj=>eQ b j*eQ a (s+1-j)) (s+2)*((s+1:Nat):Rat)=iH (λj=>(j:Rat)*(eQ b j*eQ a (s+1-j))+eQ b j*(((s+1-j:Nat):Rat)*eQ a (s+1-j))) (s+2):=by
    rw[<-Ei];refine pY _ λj hj=>?_
    have:((s+1:Nat):Rat)=(j:Rat)+((s+1-j:Nat):Rat):=by rw[<-dP];congr 1;omega
    rw[this];grind
   rw[e0,GR];have e1:iH (λj=>(j:Rat)*(eQ b j*eQ a (s+1-j))) (s+2)=b*eQ (a+b) s:=by
    rw[Yx,<-ih,<-Bh];have z:(((0:Nat):Rat))=0:=rfl;rw[z,Rat.zero_mul,Rat.zero_add];refine pY _ λj hj=>?_
    have h1:=Iz b j;rw[(aC:s+1-(j+1)=s-j)]
    grind
   have e2:iH (λj=>eQ b j*(((s+1-j:Nat):Rat)*eQ a (s+1-j))) (s+2)=a*eQ (a+b) s:=by
    rw[(aC:s+2=(s+1)+1),iH,cX,<-ih,<-Bh];have z:(((0:Nat):Rat))=0:=rfl;rw[z,Rat.zero_mul,Rat.mul_zero,Rat.add_zero];refine pY _ λj hj=>?_
    have h1:=Iz a (s-j);rw[(aC:s+1-j=s-j+1)]
    grind
   rw[e1,e2];grind
  have h2:=Iz (a+b) s;have h3:iH (λj=>eQ b j*eQ a (s+1-j)) (s+2)*((s+1:Nat):Rat)=eQ (a+b) (s+1)*((s+1:Nat):Rat):=by rw[key,h2]
  exact fp (fh (by rw[h3];exact b6) hp) (fh (by rw[h3];exact b6) hp)
def E5(c:Rat):∀ j,iR (eQ c j)=eQ (iR c) j
 | 0=>by simp only[eQ];decide
 |j+1=>by
  simp only[eQ];rw[yp,E5 c j];congr 1;rw[cL,cL,yp];congr 1;have:=fo.2 (AT j);unfold iR;rw[aZ (bG this)]
def vj(v:Rat):Nat->Rat
 | 0=>1
 |j+1=>vj v j*v
def WX(v:Rat)(i:Nat):∀ j,vj v (i+j)=vj v i*vj v j
 | 0=>by simp only[vj,bS];grind
 |j+1=>by
  show vj v (i+j)*v=_;rw[WX v i j,vj];grind
def WY{v:Rat}(h:0<=v):∀ j,0<=vj v j
 | 0=>by simp only[vj];decide
 |j+1=>bQ (WY h j) h
def LH(c v:Rat):∀ j,eQ (c*v) j=eQ c j*vj v j
 | 0=>by simp only[eQ,vj];grind
 |j+1=>by
  simp only[eQ,vj];rw[LH c v j];simp only[cL];grind
def Qi(q:Rat):∃ n:Nat,q<=(n:Rat):=by
 refine⟨q.ceil.toNat,?_⟩;have h1:q<=(q.ceil:Rat):=Rat.le_ceil;have h2:((q.ceil:Int):Rat)<=((q.ceil.toNat:Nat):Rat):=by
  rw[<-dN,fS];omega
 exact bH h1 h2
def Pr{z:Rat}{J:Nat}(hz:0<=z)(hJ:z*2<=(J:Rat)){m:Nat}(hm:J<=m):eQ z (m+1)*2<=eQ z m:=by
 have h0:=vG hz m;have h1:=Iz z m;have hp:=AT m;have Mh:z*2<=((m+1:Nat):Rat):=bH hJ (dv.2 aC);apply fh (c:=((m+1:Nat):Rat)) _ hp;have h2:=cG Mh h0
 grind
def Ps{z:Rat}{J:Nat}(hz:0<=z)(hJ:z*2<=(J:Rat)){m:Nat}(hm:J<=m):∀ d,iH (λi=>eQ z (m+i)) d+eQ z (m+d)*2<=eQ z m*2
 | 0=>by simp only[iH,bS];grind
 |d+1=>by
  have ih:=Ps hz hJ hm d;have h1:=Pr hz hJ (aC:J<=m+d);rw[iH,(aC:m+(d+1)=m+d+1)]
  grind
def YB{z:Rat}{J:Nat}(hz:0<=z)(hJ:z*2<=(J:Rat)):∀ r:Nat,eQ z (J+r)*((2^r:Nat):Rat)<=eQ z J
 | 0=> aH 
 |r+1=>by
  have ih:=YB hz hJ r;have h1:=Pr hz hJ (aC:J<=J+r);have hp:(0:Rat)<=((2^r:Nat):Rat):=cQ;have h2:=cj h1 hp;rw[show(2^(r+1):Nat)=2^r*2 from bC _ _,c9,(aC:J+(r+1)=J+r+1)];have e:((2:Nat):Rat)=2:=rfl;rw[e];grind
def YC{z ε:Rat}(hz:0<=z)(hε:0<ε):∃ m0,∀ m,m0<=m->∀ d,iH (λi=>eQ z (m+i)) d<=ε:=by
 obtain⟨J,hJ⟩:=Qi (z*2);obtain⟨r,hr⟩:=Qi (eQ z J*2/ε);refine⟨J+r,λm hm d=>?_⟩;obtain⟨t,rfl⟩:∃ t,m=J+t:=⟨m-J,aC⟩
 have h1:=Ps hz hJ (aC:J<=J+t) d;have h2:=YB hz hJ t;have h3:=vG hz (J+t+d);have h4:=vG hz (J+t);have sG:(r:Rat)<=((2^t:Nat):Rat):=dv.2 (du (ck (aC:r<=t) Nat.lt_two_pow_self));have h5:eQ z J*2<=ε*((2^t:Nat):Rat):=by
  have h6:eQ z J*2/ε*ε=eQ z J*2:=dA aK;have h7:=cj (bH hr sG) (bG hε)
  grind
 have hp:(0:Rat)<((2^t:Nat):Rat):=fT.2 (bj aE);have h8:eQ z (J+t)*2<=ε:=by
  apply fh (c:=((2^t:Nat):Rat)) _ hp
  grind
 grind
def MP(n:Nat)(M:QM):Nat->QM
 | 0=>xX
 |j+1=>qm n (MP n M j) M
section
variable {n:Nat} {M:QM}
def K0(t:Rat):∀ j i l,TQ n M t j i l=eQ t j*MP n M j i l
 | 0,i,l=>by simp only[TQ,eQ,MP];grind
 |j+1,i,l=>by
  show t/((j+1:Nat):Rat)*iH (λq=>TQ n M t j i q*M q l) n=eQ t j*(t/((j+1:Nat):Rat))*iH (λq=>MP n M j i q*M q l) n;rw[pY n λq _=>show TQ n M t j i q*M q l=eQ t j*(MP n M j i q*M q l)by rw[K0 t j i q];grind,Bh]
  grind
def Ew(t:Rat)(i l:Nat):∀ N,SQ n M t N i l=iH (λj=>eQ t j*MP n M j i l) (N+1)
 | 0=>by simp only[SQ,iH,eQ,MP];grind
 |N+1=>by
  show SQ n M t N i l+TQ n M t (N+1) i l=_;rw[Ew t i l N,K0];rfl
def ahk(A:QM)(i:Nat){l:Nat}(hl:l<n):qm n A xX i l=A i l:=by
 have:∀ m,iH (λq=>A i q*xX q l) m=if l<m then A i l else 0:=by
  intro m
  induction m with
  |zero=>simp[iH]
  |succ m ih=>
   rw[iH,ih];unfold xX;by_cases h1:l<m
   .rw [aZ h1,aY (aC:¬m=l),aZ (aC:l<m+1)];grind
   .by_cases h2:m=l
    .subst h2;rw[aY h1,aZ rfl,aZ (aC:m<m+1)];grind
    .rw [aY h1,aY h2,aY (aC:¬l<m+1)];grind
 unfold qm;rw[this,aZ hl]
def ahj(A B C:QM)(i l:Nat):qm n A (qm n B C) i l=qm n (qm n A B) C i l:=by
 unfold qm;have e1:∀ q,A i q*iH (λr=>B q r*C r l) n=iH (λr=>A i q*(B q r*C r l)) n:=λq=>(Bh _ _ n).symm
 have e2:∀ r,iH (λq=>A i q*B q r) n*C r l=iH (λq=>A i q*B q r*C r l) n:=λr=>(Ei _ _ n).symm
 rw[pY n λq _=>e1 q,pY (f:=λq=>iH (λq_1=>A i q_1*B q_1 q) n*C q l) n λr _=>e2 r,GS];exact pY n λr _=>pY n λq _=> aK 
def PR(j:Nat):∀ k i l,l<n->qm n (MP n M j) (MP n M k) i l=MP n M (j+k) i l
 | 0,i,l,hl=>ahk _ i hl
 |k+1,i,l,hl=>by
  show qm n (MP n M j) (qm n (MP n M k) M) i l=qm n (MP n M (j+k)) M i l;rw[ahj];exact pY n λq hq=>by rw[PR j k i q hq]
def PT{v:Rat}(hv:0<=v)(h:zT n M v):∀ j,zT n (MP n M j) (vj v j)
 | 0=>λi _=>(akz n i).1
 |j+1=>aju (WY hv j) hv (PT hv h j) h
def ajs(n:Nat)(M:QM):∃ v,0<=v/\zT n M v:=by
 refine⟨iH (λi=>iH (λl=>iR (M i l)) n) n,CP n λi _=>CP n λl _=>(mN _).1,λi hi=>?_⟩;have:∀ m,i<m->iH (λl=>iR (M i l)) n<=iH (λi=>iH (λl=>iR (M i l)) n) m:=by
  intro m hm
  induction m with
  |zero=>omega
  |succ m ih=>
   rw[iH];have h0:0<=iH (λl=>iR (M m l)) n:=CP n λl _=>(mN _).1
   have h1:0<=iH (λi=>iH (λl=>iR (M i l)) n) m:=CP m λi _=>CP n λl _=>(mN _).1
   by_cases hq:i=m
   .subst hq;grind
   .have:=ih aC;grind
 exact this n hi
def aio(a b:Rat)(N:Nat)(i:Nat){l:Nat}(hl:l<n):qm n (SQ n M b N) (SQ n M a N) i l=iH (λj=>iH (λk=>eQ b j*eQ a k*MP n M (j+k) i l) (N+1)) (N+1):=by
 unfold qm;have e1:∀ q,SQ n M b N i q*SQ n M a N q l=iH (λj=>iH (λk=>eQ b j*eQ a k*(MP n M j i q*MP n M k q l)) (N+1)) (N+1):=by
  intro q;rw[Ew,Ew,<-Ei];refine pY _ λj _=>?_
  rw[<-Bh];exact pY _ λk _=> aK 
 rw[pY n λq _=>e1 q,GS];refine pY _ λj _=>?_
 rw[GS];refine pY _ λk _=>?_
 rw[<-PR j k i l hl,Bh];rfl
def alm(a b:Rat)(N:Nat)(i l:Nat):iH (λj=>iH (λk=>eQ b j*eQ a k*MP n M (j+k) i l) (N+1-j)) (N+1)=SQ n M (a+b) N i l:=by
 rw[Kw (λj k=>eQ b j*eQ a k*MP n M (j+k) i l),Ew];refine pY _ λs _=>?_
 rw[<-Ib,<-Ei];exact pY _ λj hj=>by rw[(aC:j+(s-j)=s)]
def Yq(g:Nat->Nat->Rat)(m:Nat):iH (λj=>iH (g j) m) m=iH (λj=>iH (g j) (m-j)) m+iH (λj=>iH (λk=>g j (m-j+k)) j) m:=by
 rw[<-GR];refine pY _ λj hj=>?_
 rw[<-Ej,(aC:m-j+j=m)]
def aeQ{v:Rat}(hv:0<=v)(h:zT n M v)(a b:Rat)(N:Nat){i l:Nat}(hi:i<n)(hl:l<n):
 iR (qm n (SQ n M b N) (SQ n M a N) i l-SQ n M (a+b) N i l)<=iH (λs=>eQ (iR a*v+iR b*v) (N+1+s)) (N+1):=by
 have hx:0<=iR a*v:=bQ (mN a).1 hv;have hy:0<=iR b*v:=bQ (mN b).1 hv;have e1:qm n (SQ n M b N) (SQ n M a N) i l=SQ n M (a+b) N i l+iH (λj=>iH (λk=>eQ b j*eQ a (N+1-j+k)*MP n M (j+(N+1-j+k)) i l) j) (N+1):=by
  have:=Yq (λj k=>eQ b j*eQ a k*MP n M (j+k) i l) (N+1);rw[alm,<-aio a b N i hl]at this;exact this
 have e2:qm n (SQ n M b N) (SQ n M a N) i l-SQ n M (a+b) N i l=iH (λj=>iH (λk=>eQ b j*eQ a (N+1-j+k)*MP n M (j+(N+1-j+k)) i l) j) (N+1):= aK ;rw[e2];have e3:iR (iH (λj=>iH (λk=>eQ b j*eQ a (N+1-j+k)*MP n M (j+(N+1-j+k)) i l) j) (N+1))<=iH (λj=>iH (λk=>eQ (iR b*v) j*eQ (iR a*v) (N+1-j+k)) j) (N+1):=by
  refine bH (C2 _ _) (CO _ λj _=>bH (C2 _ _) (CO _ λk _=>?_));rw[yp,yp,E5,E5,LH,LH];have hr:=ajr (PT hv h (j+(N+1-j+k))) hi hl;rw[WX]at hr;have h1:=vG (mN b).1 j;have h2:=vG (mN a).1 (N+1-j+k);have h3:=cG hr (bQ h1 h2)
  grind
 refine bH e3 ?_;have q1:iH (λj=>iH (λk=>eQ (iR b*v) j*eQ (iR a*v) k) (N+1)) (N+1)=iH (λj=>iH (λk=>eQ (iR b*v) j*eQ (iR a*v) k) (N+1-j)) (N+1)+iH (λj=>iH (λk=>eQ (iR b*v) j*eQ (iR a*v) (N+1-j+k)) j) (N+1):=
  Yq (λj k=>eQ (iR b*v) j*eQ (iR a*v) k) (N+1)
 have q2:iH (λj=>iH (λk=>eQ (iR b*v) j*eQ (iR a*v) k) (N+1-j)) (N+1)=iH (λs=>eQ (iR a*v+iR b*v) s) (N+1):=by
  rw[Kw (λj k=>eQ (iR b*v) j*eQ (iR a*v) k)];exact pY _ λs _=>Ib _ _ s
 have G0:∀ j k,0<=eQ (iR b*v) j*eQ (iR a*v) k:=λj k=>bQ (vG hy j) (vG hx k)
 have q3:iH (λj=>iH (λk=>eQ (iR b*v) j*eQ (iR a*v) k) (N+1)) (N+1)<=iH (λs=>eQ (iR a*v+iR b*v) s) (N+1+(N+1)):=by
  rw[<-pY (f:=λs=>iH (λj=>eQ (iR b*v) j*eQ (iR a*v) (s-j)) (s+1)) _ λs _=>Ib _ _ s,<-Kw (λj k=>eQ (iR b*v) j*eQ (iR a*v) k)];refine bH (CO _ λj hj=>GU (λk=>G0 j k) (aC:N+1<=N+1+(N+1)-j)) ?_;exact GU (λj=>CP _ λk _=>G0 j k) aC 
 rw[Ej (λs=>eQ (iR a*v+iR b*v) s) (N+1) (N+1),q1,q2]at q3;have cancel:∀ A B C:Rat,A+B<=A+C->B<=C:=by intro A B C h;grind
 exact cancel _ _ _ q3
def aeR(n:Nat)(M:QM)(a b:Rat){ε:Rat}(hε:0<ε):∃ N0,∀ N,N0<=N->∀ i l,i<n->l<n->iR (qm n (SQ n M b N) (SQ n M a N) i l-SQ n M (a+b) N i l)<=ε:=by
 obtain⟨v,hv,h⟩:=ajs n M;have hz:0<=iR a*v+iR b*v:=by
  have hx:0<=iR a*v:=bQ (mN a).1 hv;have hy:0<=iR b*v:=bQ (mN b).1 hv
  grind
 obtain⟨m0,h0⟩:=YC hz hε;exact⟨m0,λN hN i l hi hl=>bH (aeQ hv h a b N hi hl) (h0 (N+1) aC (N+1))⟩
def Zt(N:Nat)(i l:Nat):SQ n M 0 N i l=xX i l:=by
 induction N with
 |zero=>rfl
 |succ N ih=>
  show SQ n M 0 N i l+TQ n M 0 (N+1) i l=_;rw[ih,K0];simp only[eQ,cL];grind
end
def pr(f:Nat->Rat)(X:Iv):Prop:=∀ ε,0<ε->∃ N0,∀ N,N0<=N->∃ r,X.jR r/\iR (f N-r)<=ε
def pr.Ol{f:Nat->Rat}{X:Iv}{k:Nat}(h:∀ N,k<=N->X.jR (f N)):pr f X:=λε hε=>
 ⟨k,λN hN=>⟨f N,h N hN,by rw[Rat.sub_self,P7];exact bG hε⟩⟩
def pr.all{f:Nat->Rat}{X:Iv}(h:X.all=true):pr f X:=pr.Ol (k:=0) λ_ _=>.inl h
def pr.shift{f g:Nat->Rat}{X:Iv}(h:pr f X)(k:∀ ε,0<ε->∃ N0,∀ N,N0<=N->iR (g N-f N)<=ε):pr g X:=λε hε=>by
 obtain⟨N1,h1⟩:=h (ε/2) aK;obtain⟨N2,h2⟩:=k (ε/2) aK;refine⟨max N1 N2,λN hN=>?_⟩;obtain⟨r,hr,hd⟩:=h1 N aC;have hg:=h2 N aC;refine⟨r,hr,?_⟩;have:=P6 (g N-f N) (f N-r);rw[show g N-f N+(f N-r)=g N-r by grind]at this
 grind
def EQ(c:Rat)(N:Nat):Rat:=iH (eQ c) (N+1)
def ahX(j:Nat):MP 1 (λ_ _=>1) j 0 0=1:=by
 induction j with
 |zero=>rfl
 |succ j ih=>
  show iH (λq=>MP 1 (λ_ _=>1) j 0 q*1) 1=1;simp only[iH];rw[ih];grind
def Hj(c:Rat)(N:Nat):SQ 1 (λ_ _=>1) c N 0 0=EQ c N:=by
 rw[Ew];exact pY _ λj _=>by rw[ahX];grind
def KT(a b:Rat){ε:Rat}(hε:0<ε):∃ N0,∀ N,N0<=N->iR (EQ (a+b) N-EQ a N*EQ b N)<=ε:=by
 obtain⟨N0,h0⟩:=aeR 1 (λ_ _=>1) a b hε;refine⟨N0,λN hN=>?_⟩;have:=h0 N hN 0 0 aE aE;rw[show qm 1 (SQ 1 (λ_ _=>1) b N) (SQ 1 (λ_ _=>1) a N) 0 0=EQ a N*EQ b N by
  show iH (λq=>SQ 1 (λ_ _=>1) b N 0 q*SQ 1 (λ_ _=>1) a N q 0) 1=_;simp only[iH];rw[Hj,Hj];grind,Hj]at this
 obtain⟨_,a2,a3,_⟩:=mN (EQ a N*EQ b N-EQ (a+b) N);exact xr aK aK 
def Zk(N:Nat):EQ 0 N=1:=by
 rw[<-Hj,Zt];rfl
def Qn{x:Iv}{r s:Rat}(hx:x.gY)(h:x.jR r)(hs:iR s<=iR r):(qQ x).jR s:=by
 unfold qQ;cases xa:x.all
 .obtain ⟨h1,h2⟩:=h.j8 xa;obtain⟨m1,m2,_⟩:=Cs hx.q;obtain⟨_,a2,a3,a4⟩:=mN r;obtain⟨_,b2,b3,_⟩:=mN s;have hr:iR r<=(kB x).q:= aK ;refine .inr ⟨?_,?_⟩
  .show (jo (kB x)).q<=s;rw[qJ];grind
  .show s<=(kB x).q
   grind
 .rw [aZ rfl];exact .inl xa
def CZ{a b:Int}(h:a<=b):P2 a<=P2 b:=by
 rw[Ev h];have h1:(1:Rat)<=((2^(b-a).toNat:Nat):Rat):=by
  have:=dv.2 (Nat.one_le_two_pow (n:=(b-a).toNat));exact this
 have:=cj h1 (bG (mX a))
 grind
def KB{i:Nat}(h:i<2):i=0\/i=1:= aC 
def KW(d:Rat)(f g:Nat->Rat):Prop:=∃ N0,∀ N,N0<=N->iR (f N-g N)<=d
def KW.neg{d:Rat}{f g:Nat->Rat}(h:KW d f g):KW d (λN=>-f N) (λN=>-g N):=by
 obtain⟨N1,h1⟩:=h;refine⟨N1,λN hN=>?_⟩;obtain⟨_,a2,a3,_⟩:=mN (f N-g N);have:=h1 N hN;exact xr aK aK 
def Zl:Dy:=⟨false,1014047155841371404857783918912611814895143950022408150448898879701903863171748812343190420115852101928445847465915947005,-398⟩
def Zm:Dy:=⟨false,2028094311682742809715567837825223629790287900044816300897797759403807726343497624686380840231704203856891694931831894109,-399⟩
def HF:Iv:=⟨Zl,Zm,false⟩
def after{N:Nat}(h:100<=N):∃ d,N=100+d:=⟨N-100,aC⟩
def zq(k:Int):Rat×Rat:=if k%4=0 then(1,0)else if k%4=1 then(0,1)else if k%4=2 then(-1,0)else(0,-1)
def kZ(r:Iv)(p:Nat):Nat->Iv
 | 0=>jk 1
 |j+1=>jj (iz (kZ r p j) r p) (jk ((j+1:Nat):Int)) p
def Pd(r:Iv)(p j:Nat):Iv:=if 2<=j%4 then pD (kZ r p j)else kZ r p j
def Kn(r:Iv)(p:Nat):Nat->Iv
 | 0=>jk 0
 |j+1=>if(j+1)%2=1 then jE (Kn r p j) (Pd r p (j+1)) p else Kn r p j
def qH(n:Int):(pP n).q=P2 n:=by unfold pP;rw[qI];simp
def wu{r:Iv}{p:Nat}(_hr:r.gY)(ic:8<=p)(gX:p<=512):∀ j,(kZ r p j).gY
 | 0=>Cz 1 aE 
 |j+1=>qc _ _ aC aC 
def ajN{r:Iv}{p:Nat}(hr:r.gY)(ic:8<=p)(gX:p<=512)(j:Nat):(Pd r p j).gY:=by
 unfold Pd;split
 .exact Cw (wu hr ic gX j)
 .exact wu hr ic gX j
def XZ{r:Iv}{p:Nat}(hr:r.gY)(ic:8<=p)(gX:p<=512):∀ j,(Kn r p j).gY
 | 0=>Cz 0 aE 
 |j+1=>by
  unfold Kn;split
  .exact qP (XZ hr ic gX j) (ajN hr ic gX _) aC aC 
  .exact XZ hr ic gX j
def Pf{r:Iv}{p:Nat}(hr:r.gY)(ic:8<=p)(gX:p<=512){ρ:Rat}(h:r.jR ρ):∀ j,j<4294967296->(kZ r p j).jR (eQ ρ j)
 | 0,_=>zh 1
 |j+1,hj=>by
  have e:eQ ρ (j+1)=eQ ρ j*ρ/((j+1:Nat):Rat):=by simp only[eQ,cL];grind
  rw[e];exact It (og _ _ aC aC) (Of (j+1) hj) aC aC (NQ (wu hr ic gX j) hr aC aC (Pf hr ic gX h j aC) h) (WG (j+1))
def X3{r:Iv}{p:Nat}:∀ {j d:Nat},(kZ r p (j+d)).all=false->(kZ r p j).all=false
 |_,0,h=>h
 |j,d+1,h=>by
  apply X3 (d:=d);cases ha:(kZ r p (j+d)).all
  .rfl
  .exfalso;have:kZ r p (j+(d+1))=gU:=by
    show jj (iz (kZ r p (j+d)) r p) _ p=_;rw[JK p (.inl ha),EZ p (.inl rfl)]
   rw[this]at h;cases h
def pv(n:Int):Iv:=⟨jo (pP n),pP n,false⟩
def Dc{n:Int}{r:Rat}:(pv n).jR r ↔ -P2 n<=r/\r<=P2 n:=by
 unfold Iv.jR pv;simp only[bB,false_or];rw[qJ,qH]
def zS{p:Nat}(hp:1<=p){n:Int}(h1:-1000<=n)(h2:n<=1000):G p (P2 n):=.inl ⟨1,n,by rw[xw];exact hp,aC,by rw[xw];omega,aH⟩
def EH{p:Nat}{S:Rat->Prop}{X:Iv}(h:Es p S X)(hp:1<=p){n:Int}(h1:-1000<=n)(h2:n<=1000)(hs:∀ r,S r -> -P2 n<=r/\r<=P2 n):Sub X (pv n):=by
 obtain⟨a,b,c⟩:=h.xS _ _ (zS hp h1 h2).neg (zS hp h1 h2) hs;refine .inr ⟨a,?_,?_⟩
 .show (jo (pP n)).q<=_;rw[qJ,qH];exact b
 .show _<=(pP n).q;rw[qH];exact c
def P8{a b u v:Rat}(h1:-u<=a)(h2:a<=u)(h3:-v<=b)(h4:b<=v):-(u*v)<=a*b/\a*b<=u*v:=by
 have ha:iR a<=u:=xr h2 aK;have hb:iR b<=v:=xr h4 aK;have hm:=yp a b;have h0:=(mN b).1;have hu:0<=u:=bH (mN a).1 ha;have m1:=cj ha h0;have m2:=cG hb hu;obtain⟨_,c2,c3,_⟩:=mN (a*b);constructor<;>grind
def TN(j:Nat):P2 (-(j:Int))*P2 (-1)=P2 (-((j+1:Nat):Int)):=by
 rw[<-pH];congr 1;omega
def acO{a u:Rat}{n:Nat}(h1:-u<=a)(h2:a<=u):-u<=a/((n+1:Nat):Rat)/\a/((n+1:Nat):Rat)<=u:=by
 have hp:=AT n;have Tl:(1:Rat)<=((n+1:Nat):Rat):=by
  have:=dv (a:=1) (b:=n+1);exact this.2 aC 
 have e:=dA (a:=a) (b:=((n+1:Nat):Rat)) aK;have hu:0<=u:= aK ;generalize a/((n+1:Nat):Rat)=x at *
 generalize ((n+1:Nat):Rat)=c at *
 constructor
 .apply dc.1;intro im;have m:=dm im hp;have m2:=cG Tl hu
  grind
 .apply dc.1;intro im;have m:=dm im hp;have m2:=cG Tl hu
  grind
def X5{y:Iv}(hy:y.gY)(h:Sub y (pv (-1))){p:Nat}(ic:8<=p)(gX:p<=512):∀ j,j<=900->Sub (kZ y p j) (pv (-(j:Int)))
 | 0,_=>by
  have e:(jk 1).lo.q=1/\(jk 1).hi.q=1/\(jk 1).all=false:=WE 1;refine .inr ⟨e.2.2,?_,?_⟩
  .show (jo (pP _)).q<=_;rw[qJ,qH,show(kZ y p 0).lo.q=1 from e.1];decide +kernel
  .show _<=(pP _).q;rw[qH,show(kZ y p 0).hi.q=1 from e.2.1];decide +kernel
 |j+1,hj=>by
  have ih:=X5 hy h ic gX j aC;have vT:=wu hy ic gX j;obtain⟨ta,_⟩:=ih.wY rfl;obtain⟨ya,_⟩:=h.wY rfl;have B:=NP vT hy ta ya (aC:1<=p) aC;have s1:Sub (iz (kZ y p j) y p) (pv (-((j+1:Nat):Int))):=EH B aC aC aC (by
   rintro r ⟨a,b,ha,hb,rfl⟩;obtain⟨a1,a2⟩:=Dc.1 (ih.jR ha);obtain⟨b1,b2⟩:=Dc.1 (h.jR hb);rw[<-TN];exact P8 a1 a2 b1 b2)
  have vm:(iz (kZ y p j) y p).gY:=og _ _ aC aC;obtain⟨ma,_⟩:=s1.wY rfl;have vn:=Of (j+1) aC;have hs:nn (jk ((j+1:Nat):Int))≠0:=by rw[ahS aC];decide
  exact EH (Is vm vn ma hs (aC:1<=p) aC) aC aC aC (by
   rintro r ⟨a,b,ha,hb,rfl⟩;obtain⟨a1,a2⟩:=Dc.1 (s1.jR ha);obtain⟨b1,b2⟩:=hb.j8 rfl;have e:=WE (j+1);rw[e.1]at b1;rw[e.2.1]at b2;rw[show b=((j+1:Nat):Rat)from fp b2 b1];exact acO a1 a2)
def oL(x:Iv)(p:Nat):Bool:=x.all||(decide ((kB x).m=0)||decide ((kB x).ij <= -(p:Int)))
def YK{d:Dy}(hm:d.m≠0){n:Int}(h:iR d.q<=P2 n):d.ij<=n+1:=by
 apply bL;intro im;have hT:d.ij=(ia d.m:Int)+d.e:=by unfold Dy.ij;rw[aY hm]
 have hb:0<ia d.m:=wb.2 (by rw[cw];omega);have h1:2^(ia d.m-1)<=d.m:=wb.1 aC;have h2:((2^(ia d.m-1):Nat):Rat)<=(d.m:Rat):=dv.2 h1;have h3:=cj h2 (bG (mX d.e));rw[<-ur,<-pH,show((ia d.m-1:Nat):Int)+d.e=d.ij-1 by rw[hT];omega]at h3;have h4:iR d.q=(d.m:Rat)*P2 d.e:=by
  have h0:0<=(d.m:Rat)*P2 d.e:=bQ cQ (bG (mX _));rw[pF];unfold iR;cases d.neg
  .simp only[bB,bk];rw[aZ h0]
  .simp only[bw];split<;>grind
 have h5:=CZ (aC:n+1<=d.ij-1);have h6:P2 (n+1)=P2 n*2:=by rw[pH];congr 1
 have:=mX n
 grind
def YH{x:Iv}(hx:x.gY){p:Nat}(h:Sub x (pv (-((p+1:Nat):Int)))):oL x p=true:=by
 unfold oL;cases ha:x.all
 .by_cases hm:(kB x).m=0
  .rw [a6 hm];rfl
  .obtain ⟨_,k1,k2⟩:=h.wY rfl;obtain⟨m1,m2,m3⟩:=Cs hx.q;replace k1:(jo (pP (-((p+1:Nat):Int)))).q<=x.lo.q:=k1;replace k2:x.hi.q<=(pP (-((p+1:Nat):Int))).q:=k2;rw[qJ,qH]at k1;rw[qH]at k2;have hq:=hx.q;have qh:=mX (-((p+1:Nat):Int));generalize hu:P2 (-((p+1:Nat):Int))=u at *
   have hle:iR (kB x).q<=u:=xr (by rcases m3 with m3|m3<;>grind) (by rcases m3 with m3|m3<;>grind);have:=YK hm (hu▸hle);rw[a6 (show(kB x).ij <= -(p:Int)by omega)];simp
 .rfl
def X4{y:Iv}(h:y.all=true)(p:Nat):kZ y p 1=gU:=by
 show jj (iz (jk 1) y p) _ p=_;rw[JK p (.inr h),EZ p (.inl rfl)]
def adK{y:Iv}(hy:y.gY)(h:y.all=true\/Sub y (pv (-1))){p:Nat}(ic:8<=p)(gX:p<=512):∃ N,1<=N/\N<=1000/\(∀ x,1<=x->x<N->oL (kZ y p x) p=false)/\oL (kZ y p N) p=true:=by
 have ex:∃ x,x<900/\decide (1<=x/\oL (kZ y p x) p=true)=true:=by
  rcases h with h|h
  .exact ⟨1,aC,a6 ⟨aC,by rw[X4 h];rfl⟩⟩
  .exact ⟨p+1,aC,a6 ⟨aC,YH (wu hy ic gX _) (X5 hy h ic gX (p+1) aC)⟩⟩
 obtain⟨N,n1,n2,n3⟩:=sL (p:=λx=>decide (1<=x/\oL (kZ y p x) p=true)) ex;have n2':=cC n2;refine⟨N,n2'.1,aC,λx h1 h2=>?_,n2'.2⟩;have:=fU (n3 x h2);cases hc:oL (kZ y p x) p
 .rfl
 .exact absurd ⟨h1,hc⟩ this
def tO(y:Iv)(p:Nat):Nat->Iv
 | 0=>jk 1
 |j+1=>jE (tO y p j) (kZ y p (j+1)) p
def yD(y:Iv)(p N:Nat):Iv:=jE (tO y p N) (qQ (kZ y p N)) p
def Dl{y:Iv}(hy:y.gY){p:Nat}(ic:8<=p)(gX:p<=512):∀ j,(tO y p j).gY
 | 0=>Cz 1 aE 
 |j+1=>qP (Dl hy ic gX j) (wu hy ic gX _) aC aC 
def adJ{y:Iv}(hy:y.gY){p:Nat}(ic:8<=p)(gX:p<=512)(N:Nat):(yD y p N).gY:=qP (Dl hy ic gX N) (C8 (wu hy ic gX N)) aC aC 
def lJ(x:Iv)(p:Nat):Iv:=if x.all then gU else lH (jZ x.lo p false) (jO x.lo p false) (jZ x.hi p true) (jO x.hi p true)
def uy(a b:Iv):Iv:=if a.all||b.all then gU else⟨a.lo,b.hi,false⟩
def Ed{x:Iv}(hx:x.gY){p:Nat}(hp:1<=p)(gX:p<=4096):(lJ x p).gY:=by
 unfold lJ;cases xa:x.all
 .obtain ⟨c1,c2⟩:=hx.yz;simp only[bB,bk];unfold lH;split
  .exact lL
  .rename_i he;have A:=xg c1 hp gX;have B:=xh c2 hp gX;refine .inr ⟨rfl,wo _ hp gX _,wo _ hp gX _,?_⟩;rw[oJ];exact bH (A.1 aC).2 (bH hx.q (B.1 aC).2)
 .exact lL
def GH{x:Iv}(hx:x.gY){p:Nat}(hp:1<=p)(gX:p<=4096){r:Rat}(h:x.jR r):(lJ x p).jR r:=by
 unfold lJ;cases xa:x.all
 .obtain ⟨c1,c2⟩:=hx.yz;obtain⟨h1,h2⟩:=h.j8 xa;simp only[bB,bk];unfold lH;split
  .exact .inl rfl
  .rename_i he;have A:=xg c1 hp gX;have B:=xh c2 hp gX;exact .inr ⟨bH (A.1 aC).2 h1,bH h2 (B.1 aC).2⟩
 .exact .inl rfl
def ajp{x:Iv}(hx:x.gY){p:Nat}(hp:1<=p)(gX:p<=4096){n:Int}(h1:-1000<=n)(h2:n<=1000)(h:Sub x (pv n)):Sub (lJ x p) (pv n):=by
 obtain⟨xa,k1,k2⟩:=h.wY rfl;replace k1:(jo (pP n)).q<=x.lo.q:=k1;replace k2:x.hi.q<=(pP n).q:=k2;rw[qJ,qH]at k1;rw[qH]at k2;obtain⟨c1,c2⟩:=hx.yz;have A:=(xg c1 hp gX).2 _ (zS hp h1 h2).neg k1;have B:=(xh c2 hp gX).2 _ (zS hp h1 h2) k2;unfold lJ lH;rw[xa];simp only[bB,bk];rw[aY aC];refine .inr ⟨rfl,?_,?_⟩
 .show (jo (pP n)).q<=_;rw[qJ,qH];exact A.2
 .show _<=(pP n).q;rw[qH];exact B.2
def agH{f g:Nat->Rat}{A B:Iv}(hA:pr f A)(hB:pr g B)(h:∀ ε,0<ε->∃ N0,∀ N,N0<=N->f N<=g N+ε)(aa:A.all=false)(ba:B.all=false):A.lo.q<=B.hi.q:=by
 apply dc.1;intro im;obtain⟨ε,hε⟩:∃ ε,ε=(A.lo.q-B.hi.q)/4:=⟨_,rfl⟩
 have h0:0<ε:=by rw[hε];grind
 obtain⟨N1,h1⟩:=hA ε h0;obtain⟨N2,h2⟩:=hB ε h0;obtain⟨N3,h3⟩:=h ε h0;obtain⟨r,hr,hd⟩:=h1 (max N1 (max N2 N3)) aC;obtain⟨s,hs,he⟩:=h2 (max N1 (max N2 N3)) aC;have h4:=h3 (max N1 (max N2 N3)) aC;obtain⟨r1,r2⟩:=hr.j8 aa;obtain⟨s1,s2⟩:=hs.j8 ba;obtain⟨_,a2,a3,_⟩:=mN (f (max N1 (max N2 N3))-r);obtain⟨_,b2,b3,_⟩:=mN (g (max N1 (max N2 N3))-s)
 grind
def Zj{c:Rat}(h:0<=c)(N:Nat):1<=EQ c N:=by
 have:=GU (f:=eQ c) (λi=>vG h i) (aC:1<=N+1);have e:iH (eQ c) 1=1:=by show 0+1=1;grind
 unfold EQ;rw[e]at this;exact this
def Zi(c:Rat){ε:Rat}(hε:0<ε):∃ N0,∀ N,N0<=N -> -ε<=EQ c N:=by
 obtain⟨N0,h0⟩:=KT (c/2) (c/2) hε;rw[show c/2+c/2=c by grind]at h0;refine⟨N0,λN hN=>?_⟩;have h:=h0 N hN;have hs:0<=EQ (c/2) N*EQ (c/2) N:=by
  by_cases k:0<=EQ (c/2) N
  .exact bQ k k
  .have:=bQ (show 0 <= -EQ (c/2) N by grind) (show 0 <= -EQ (c/2) N by grind)
   grind
 obtain⟨_,a2,a3,_⟩:=mN (EQ c N-EQ (c/2) N*EQ (c/2) N)
 grind
def Zf{c:Rat}(h:0<=c):∃ M:Rat,0<M/\∀ N,EQ c N<=M:=by
 obtain⟨m0,h0⟩:=YC h (show(0:Rat)<1 by decide);have hs:0<=iH (eQ c) m0:=by
  have:=GU (f:=eQ c) (λi=>vG h i) (bV m0);exact this
 refine⟨iH (eQ c) m0+1,aK,λN=>?_⟩;unfold EQ;by_cases hN:m0<=N+1
 .obtain ⟨d,hd⟩:∃ d,N+1=m0+d:=⟨N+1-m0,aC⟩
  rw[hd,Ej];have:=h0 m0 (bc _) d
  grind
 .have:=GU (f:=eQ c) (λi=>vG h i) (aC:N+1<=m0)
  grind
def Zh{a b:Rat}(h:a<=b){ε:Rat}(hε:0<ε):∃ N0,∀ N,N0<=N->EQ a N<=EQ b N+ε:=by
 have hd:0<=b-a:= aK ;obtain⟨N1,h1⟩:=KT a (b-a) (show 0<ε/2 by grind);rw[show a+(b-a)=b by grind]at h1;obtain⟨M,s8,hM⟩:∃ M:Rat,0<M/\∀ N,EQ (b-a) N<=M:=Zf hd;obtain⟨N2,h2⟩:=Zi a (show 0<ε/(2*M)by rw[cL];exact dO hε (fo.2 aK));refine⟨max N1 N2,λN hN=>?_⟩;have k1:=h1 N aC;have k2:=h2 N aC;have e:ε/(2*M)*M=ε/2:=by
  have:=dA (a:=ε) (b:=2*M) aK 
  grind
 have k3:=Zj hd N;have k4:=hM N;obtain⟨_,a2,a3,_⟩:=mN (EQ b N-EQ a N*EQ (b-a) N);generalize EQ a N=x at *
 generalize EQ (b-a) N=y at *
 generalize EQ b N=z at *
 generalize ε/(2*M)=δ at *
 have m1:=bQ (show 0<=x+δ by grind) (show 0<=y-1 by grind);have hδ:0<=δ:=by
  apply dc.1;intro im;have:=dm im s8
  grind
 have m2:=cG (show y-1<=M by grind) hδ
 grind
def Sv{y:Iv}{r:Rat}(hy:y.gY)(h:y.jR r){p:Nat}(ic:8<=p)(gX:p<=512):∀ j,j<4294967296->(tO y p j).jR (EQ r j)
 | 0,_=>by
  have:EQ r 0=1:=by unfold EQ;simp only[iH,eQ];grind
  rw[this];exact zh 1
 |j+1,hj=>Bo (Dl hy ic gX j) (wu hy ic gX (j+1)) aC aC (Sv hy h ic gX j aC) (Pf hy ic gX h (j+1) hj)
def adG{y:Iv}(h:y.all=true){p N:Nat}(hN:1<=N):(yD y p N).all=true:=by
 have ht:(kZ y p N).all=true:=by
  cases hc:(kZ y p N).all
  .obtain ⟨d,rfl⟩:∃ d,N=1+d:=⟨N-1,aC⟩
   have:=X3 hc;rw[X4 h]at this;cases this
  .rfl
 unfold yD;rw[Hq p (.inr (by unfold qQ;rw[ht];simpa using ht))];rfl
def adH{y:Iv}{r:Rat}(hy:y.gY)(h:y.jR r)(hr:iR r*2<=1){p:Nat}(ic:8<=p)(gX:p<=512){N:Nat}(hN:1<=N)(sA:N<=1000)(M:Nat)(hM:N<=M):(yD y p N).jR (EQ r M):=by
 obtain⟨d,rfl⟩:∃ d,M=N+d:=⟨M-N,aC⟩
 have e1:EQ r (N+d)=EQ r N+iH (λi=>eQ r (N+1+i)) d:=by
  unfold EQ;rw[(aC:N+d+1=N+1+d),Ej]
 have hz:=(mN r).1;have t:=Ps hz (J:=1) (by exact hr) (aC:1<=N+1) d;have p0:=vG hz (N+1+d);have b1:iR (iH (λi=>eQ r (N+1+i)) d)<=iH (λi=>eQ (iR r) (N+1+i)) d:=by
  have:=C2 (λi=>eQ r (N+1+i)) d;rwa[pY d λi _=>E5 r (N+1+i)]at this
 have e3:eQ (iR r) (N+1)*2<=eQ (iR r) N:=Pr hz (J:=1) (by exact hr) (aC:1<=N);rw[e1];refine Bo (Dl hy ic gX N) (C8 (wu hy ic gX N)) aC aC (Sv hy h ic gX N aC) (Qn (wu hy ic gX N) (Pf hy ic gX h N aC) ?_);rw[E5];grind
def adI{y:Iv}{r:Rat}(hy:y.gY)(h:y.jR r)(hb:y.all=true\/Sub y (pv (-1))){p:Nat}(ic:8<=p)(gX:p<=512){N:Nat}(hN:1<=N)(sA:N<=1000):pr (EQ r) (yD y p N):=by
 rcases hb with hb|hb
 .exact pr.all (adG hb hN)
 .refine pr.Ol (k:=N) λM hM=>adH hy h ?_ ic gX hN sA M hM
  obtain⟨b1,b2⟩:=Dc.1 (hb.jR h);have e:P2 (-1)=1/2:= aL ;rw[e]at b1 b2;have:=xr (x:=r) (b:=1/2) aK aK 
  grind
def oz(x:Iv)(p:Nat):Iv:=if(jQ x).all then gU else lH (jZ (w9 (jQ x).lo (jQ x).lo) p false) (jO (w9 (jQ x).lo (jQ x).lo) p false) (jZ (w9 (jQ x).hi (jQ x).hi) p true) (jO (w9 (jQ x).hi (jQ x).hi) p true)
def P5{x:Iv}(xa:x.all=false):0<=(jQ x).lo.q:=by
 unfold jQ;rw[xa];show 0<=(oI x).q;unfold oI;split
 .rw [tA];exact b6
 .obtain ⟨_,_,m⟩:=CE (lN x.lo) (lN x.hi);rcases m with m|m<;>rw[m]
  .exact (zp x.lo).1
  .exact (zp x.hi).1
def zV(x:Iv):(jQ x).all=x.all:=by unfold jQ;cases h:x.all<;>simp[h,gU]
def Pj{x:Iv}(hx:x.gY){p:Nat}(hp:1<=p)(gX:p<=4096){r:Rat}(h:x.jR r):(oz x p).jR (r*r):=by
 unfold oz;rw[zV];cases xa:x.all
 .simp only[bB,bk];obtain⟨s,hs,h0,e⟩:∃ s,(jQ x).jR s/\0<=s/\r*r=s*s:=by
   by_cases hr:0<=r
   .exact ⟨r,Hn hx h (.inl ⟨rfl,hr⟩),hr,rfl⟩
   .exact ⟨-r,Hn hx h (.inr ⟨rfl,aK⟩),aK,aK⟩
  have hl:=P5 xa;have ya:(jQ x).all=false:=by rw[zV];exact xa
  obtain⟨s1,s2⟩:=hs.j8 ya;rw[e];unfold lH;split
  .exact .inl rfl
  .rename_i he;have A:=xg (Aa (jQ x).lo (jQ x).lo) hp gX;have B:=xh (Aa (jQ x).hi (jQ x).hi) hp gX;rw[D9]at A B;have a1:=(A.1 aC).2;have b1:=(B.1 aC).2;refine .inr ⟨?_,?_⟩
   .have m1:=cj s1 hl;have m2:=cG s1 h0;show _<=s*s;exact bH a1 (bH m1 (by rw[fk s];rw[fk (jQ x).lo.q s];exact m2))
   .have m1:=cj s2 h0;have m2:=cG s2 (bH h0 s2);exact bH (bH m1 m2) b1
 .exact .inl rfl
def Kt{x:Iv}(hx:x.gY){p:Nat}(hp:1<=p)(gX:p<=4096):(oz x p).gY:=by
 cases xa:x.all
 .have h1:=Pj hx hp gX hx.An;unfold oz at h1 ⊢;rw[zV,xa]at h1 ⊢;simp only[bB,bk]at h1 ⊢;unfold lH at h1 ⊢;split
  .exact lL
  .rename_i he;rw[aY he]at h1;obtain⟨h2,h3⟩:=h1.j8 rfl;refine .inr ⟨rfl,wo _ hp gX _,wo _ hp gX _,?_⟩;rw[oJ];exact bH h2 h3
 .unfold oz;rw[zV,xa];exact lL
def pr.sqr{f:Nat->Rat}{X:Iv}(hx:X.gY)(h:pr f X){p:Nat}(hp:1<=p)(gX:p<=4096):pr (λN=>f N*f N) (oz X p):=by
 cases xa:X.all
 .intro ε hε;obtain⟨B,hB⟩:∃ B,B=iR X.lo.q+iR X.hi.q+1:=⟨_,rfl⟩
  have a0:=mN X.lo.q;have b0:=mN X.hi.q;have xE:1<=B:= aK ;have Mf:0<2*B:= aK ;obtain⟨δ,hδ⟩:∃ δ,δ=min 1 (ε/(2*B)):=⟨_,rfl⟩
  have hεB:0<ε/(2*B):=by rw[cL];exact dO hε (fo.2 Mf)
  have UN:0<δ:=by rw[hδ];grind
  have hδ1:δ<=1:=by rw[hδ];grind
  have hδ2:δ*(2*B)<=ε:=by
   have h1:δ<=ε/(2*B):=by rw[hδ];grind
   have h2:=cj h1 (bG Mf);rwa[dA aK]at h2
  obtain⟨N0,h0⟩:=h δ UN;refine⟨N0,λN hN=>?_⟩;obtain⟨r,hr,hd⟩:=h0 N hN;refine⟨r*r,Pj hx hp gX hr,?_⟩;obtain⟨r1,r2⟩:=hr.j8 xa;rw[show f N*f N-r*r=(f N-r)*(f N+r)by grind,yp];have hs:iR (f N+r)<=2*B:=by
   obtain⟨_,c2,c3,_⟩:=mN (f N-r);exact xr aK aK 
  have h3:=cG hs (mN (f N-r)).1;have h4:=cj hd (bG Mf)
  grind
 .exact pr.all (by unfold oz;rw[zV,xa];rfl)
def Zg(r:Rat):∀ ε,0<ε->∃ N0,∀ N,N0<=N->iR (EQ r N-EQ (r*P2 (-1)) N*EQ (r*P2 (-1)) N)<=ε:=by
 intro ε hε;have e:r*P2 (-1)+r*P2 (-1)=r:=by
  have:P2 (-1)=1/2:= aL ;rw[this];grind
 have:=KT (r*P2 (-1)) (r*P2 (-1)) hε;rwa[e]at this
def agG{r:Rat}{X:Iv}(hx:X.gY)(h:pr (EQ (r*P2 (-1))) X){p:Nat}(hp:1<=p)(gX:p<=4096):pr (EQ r) (oz X p):=(h.sqr hx hp gX).shift (Zg r)
def ajL{y:Iv}{n:Int}(h:Sub y (pv n)):(lK y (-1)).all=true\/Sub (lK y (-1)) (pv (n-1)):=by
 obtain⟨ya,k1,k2⟩:=h.wY rfl;replace k1:(jo (pP n)).q<=y.lo.q:=k1;replace k2:y.hi.q<=(pP n).q:=k2;rw[qJ,qH]at k1;rw[qH]at k2;unfold lK lH;rw[ya];simp only[bB,bk];split
 .exact .inl rfl
 .rename_i he;have e:P2 (n-1)=P2 n*P2 (-1):=by rw[<-pH];congr 1
  refine .inr (.inr ⟨rfl,?_,?_⟩)
  .show (jo (pP (n-1))).q<=(tD y.lo (-1)).q;rw[qJ,qH,Bb aC,e,<-gM,uZ];exact k1
  .show (tD y.hi (-1)).q<=(pP (n-1)).q;rw[qH,Bb aC,e,uZ];exact k2
def tK(z:Rat)(k:Nat):Rat:=nB z (2*k+1)/((2*k+1:Nat):Rat)
def AQ(z:Rat)(N:Nat):Rat:=iH (tK z) (N+1)
def nT(z:Iv)(p:Nat):Nat->Iv
 | 0=>z
 |k+1=>iz (nT z p k) (oz z p) p
def uW(z:Iv)(p:Nat):Nat->Iv
 | 0=>z
 |k+1=>jE (uW z p k) (jj (nT z p (k+1)) (jk ((2*k+3:Nat):Int)) p) p
noncomputable def DS(z:Iv)(p N:Nat):Iv:=lK (jE (uW z p N) (qQ (nT z p N)) p) 1
def xT{z:Iv}(hz:z.gY){p:Nat}(ic:8<=p)(gX:p<=512):∀ k,(nT z p k).gY
 | 0=>hz
 |_+1=>og _ _ aC aC 
def Cp{z:Iv}(hz:z.gY){p:Nat}(ic:8<=p)(gX:p<=512):∀ k,(uW z p k).gY
 | 0=>hz
 |k+1=>qP (Cp hz ic gX k) (qc _ _ aC aC) aC aC 
def agE{z:Iv}(hz:z.gY){p:Nat}(ic:8<=p)(gX:p<=512)(N:Nat):(DS z p N).gY:=GN (qP (Cp hz ic gX N) (C8 (xT hz ic gX N)) aC aC) 1
def O5(r:Rat)(k:Nat):nB r (2*(k+1)+1)=nB r (2*k+1)*(r*r):=by
 show nB r (2*k+1)*r*r=_
 grind
def NF{z:Iv}{r:Rat}(hz:z.gY)(h:z.jR r){p:Nat}(ic:8<=p)(gX:p<=512):∀ k,(nT z p k).jR (nB r (2*k+1))
 | 0=>by
  have e:nB r (2*0+1)=r:=by show 1*r=r;grind
  rw[e];exact h
 |k+1=>by
  rw[O5];exact NQ (xT hz ic gX k) (Kt hz aC aC) aC aC (NF hz h ic gX k) (Pj hz aC aC h)
def Vu{z:Iv}{r:Rat}(hz:z.gY)(h:z.jR r){p:Nat}(ic:8<=p)(gX:p<=512):∀ k,k<1000000->(uW z p k).jR (AQ r k)
 | 0,_=>by
  have e:AQ r 0=r:=by
   show 0+1*r/((2*0+1:Nat):Rat)=r;have:((2*0+1:Nat):Rat)=1:=rfl;rw[this,cL,show(1:Rat)⁻¹=1 by decide +kernel];grind
  rw[e];exact h
 |k+1,hk=>Bo (Cp hz ic gX k) (qc _ _ aC aC) aC aC (Vu hz h ic gX k aC)
  (It (xT hz ic gX (k+1)) (Of (2*k+3) aC) aC aC (NF hz h ic gX (k+1)) (WG (2*k+3)))
def K4(r:Rat):∀ n,iR (nB r n)=nB (iR r) n
 | 0=>by show iR 1=1;decide +kernel
 |n+1=>by simp only[nB];rw[yp,K4 r n]
def Zx(r:Rat)(k:Nat):iR (tK r k)<=nB (iR r) (2*k+1):=by
 unfold tK;have hp:(0:Rat)<((2*k+1:Nat):Rat):=AT (2*k);have h1:(1:Rat)<=((2*k+1:Nat):Rat):=by
  have:=dv (a:=1) (b:=2*k+1);exact this.2 aC 
 have h0:=CK (mN r).1 (2*k+1);rw[cL,yp,K4];have hi:=fo.2 hp;have e:iR (((2*k+1:Nat):Rat)⁻¹)=((2*k+1:Nat):Rat)⁻¹:=by unfold iR;rw[aZ (bG hi)]
 rw[e,<-cL];have x0:=RT h0 hp;have xc:=dA (a:=nB (iR r) (2*k+1)) (b:=((2*k+1:Nat):Rat)) aK;generalize nB (iR r) (2*k+1)/((2*k+1:Nat):Rat)=x at *
 have:=cG h1 x0
 grind
def Qo{r:Rat}(hr:iR r*2<=1)(N:Nat):∀ d,iH (λi=>iR (tK r (N+1+i))) d+nB (iR r) (2*(N+d)+1)<=nB (iR r) (2*N+1)
 | 0=>by simp only[iH,bS];grind
 |d+1=>by
  have ih:=Qo hr N d;have h1:=Zx r (N+1+d);have e:2*(N+1+d)+1=2*(N+d+1)+1:= aC ;rw[e,O5]at h1;have e2:2*(N+(d+1))+1=2*(N+d+1)+1:= aC ;rw[e2,O5,iH];have h0:=CK (mN r).1 (2*(N+d)+1);have hz:=(mN r).1;have hs:iR r*iR r*4<=1:=by
   have m:=cG hr (show 0<=iR r*2 by grind)
   grind
  generalize nB (iR r) (2*(N+d)+1)=u at *
  generalize iR r*iR r=v at *
  have m2:=cG hs h0
  grind
def agD{z:Iv}{r:Rat}(hz:z.gY)(h:z.jR r)(hr:iR r*2<=1){p:Nat}(ic:8<=p)(gX:p<=512){N:Nat}(hN:N<=1000):∀ M,N<=M->(DS z p N).jR (AQ r M*2):=by
 intro M hM;obtain⟨d,rfl⟩:∃ d,M=N+d:=⟨M-N,aC⟩
 have e1:AQ r (N+d)=AQ r N+iH (λi=>tK r (N+1+i)) d:=by
  unfold AQ;rw[(aC:N+d+1=N+1+d),Ej]
 have t:=Qo hr N d;have b1:=C2 (λi=>tK r (N+1+i)) d;have p0:=CK (mN r).1 (2*(N+d)+1);have e2:P2 1=2:= aL ;rw[<-e2,e1];refine Pb (Bo (Cp hz ic gX N) (C8 (xT hz ic gX N)) aC aC (Vu hz h ic gX N aC) (Qn (xT hz ic gX N) (NF hz h ic gX N) ?_)) 1;rw[K4];grind
def akq{z:Iv}(hz:z.gY)(h:Sub z (pv (-1))){p:Nat}(ic:8<=p)(gX:p<=512):Sub (oz z p) (pv (-1)):=by
 obtain⟨za,k1,k2⟩:=h.wY rfl;replace k1:(jo (pP (-1))).q<=z.lo.q:=k1;replace k2:z.hi.q<=(pP (-1)).q:=k2;have e:P2 (-1)=1/2:= aL ;rw[qJ,qH,e]at k1;rw[qH,e]at k2;have hl:=P5 za;have ha:(jQ z).gY:=Ho hz;have hq:=ha.q;have hh:(jQ z).hi.q<=1/2:=by
  unfold jQ;rw[za];show(kB z).q<=1/2;obtain⟨_,_,m⟩:=Cs hz.q;have:=hz.q;rcases m with m|m<;>grind
 have G1:=zS (p:=p) aC (n:=-1) aE aE;have A:=xg (Aa (jQ z).lo (jQ z).lo) (p:=p) aC aC;have B:=xh (Aa (jQ z).hi (jQ z).hi) (p:=p) aC aC;rw[D9]at A B;rw[e]at G1;have jJ:0<=(jQ z).lo.q*(jQ z).lo.q:=bQ hl hl;have hhi:(jQ z).hi.q*(jQ z).hi.q<=1/2:=by
  have h0:0<=(jQ z).hi.q:=bH hl hq;have m:=cG hh h0
  grind
 have a1:=A.2 (-(1/2)) G1.neg aK;have b1:=B.2 (1/2) G1 hhi;unfold oz lH;rw[zV,za];simp only[bB,bk];rw[aY aC];refine .inr ⟨rfl,?_,?_⟩
 .show (jo (pP (-1))).q<=_;rw[qJ,qH,e];exact a1.2
 .show _<=(pP (-1)).q;rw[qH,e];exact b1.2
def Vt{z:Iv}(hz:z.gY)(h:Sub z (pv (-1))){p:Nat}(ic:8<=p)(gX:p<=512):∀ k,k<=900->Sub (nT z p k) (pv (-((k+1:Nat):Int)))
 | 0,_=>h
 |k+1,hk=>by
  have ih:=Vt hz h ic gX k aC;have sq:=akq hz h ic gX;have vT:=xT hz ic gX k;obtain⟨ta,_⟩:=ih.wY rfl;obtain⟨ya,_⟩:=sq.wY rfl;exact EH (NP vT (Kt hz aC aC) ta ya (aC:1<=p) aC) aC aC aC (by
   rintro r ⟨a,b,ha,hb,rfl⟩;obtain⟨a1,a2⟩:=Dc.1 (ih.jR ha);obtain⟨b1,b2⟩:=Dc.1 (sq.jR hb);rw[<-TN];exact P8 a1 a2 b1 b2)
def agF{z:Iv}(hz:z.gY)(h:z.all=true\/Sub z (pv (-1))){p:Nat}(ic:8<=p)(gX:p<=512):∃ N,N<=1000/\(∀ x,x<N->oL (nT z p x) p=false)/\oL (nT z p N) p=true:=by
 have ex:∃ x,x<900/\oL (nT z p x) p=true:=by
  rcases h with h|h
  .exact ⟨0,aC,by show oL z p=true;unfold oL;rw[h];rfl⟩
  .exact ⟨p,aC,YH (xT hz ic gX _) (Vt hz h ic gX p aC)⟩
 obtain⟨N,n1,n2,n3⟩:=sL ex;exact⟨N,aC,n3,n2⟩
def ZK{a b:Rat}(h:a<=b)(k:Nat):tK a k<=tK b k:=by
 unfold tK;rw[cL,cL];exact cj (O4 aC h) (bG (fo.2 (AT (2*k))))
def Hf{a b:Rat}(h:a<=b)(N:Nat):AQ a N<=AQ b N:=CO _ λk _=>ZK h k
def GB{d:Dy}(h:d.m≠0):iR d.q<P2 d.ij:=by
 have hT:d.ij=(ia d.m:Int)+d.e:=by unfold Dy.ij;rw[aY h]
 have h1:(d.m:Rat)<((2^ia d.m:Nat):Rat):=Rat.natCast_lt_natCast.2 (ql d.m);have h2:=dm h1 (mX d.e);rw[<-ur,<-pH]at h2;have h0:0<=(d.m:Rat)*P2 d.e:=bQ cQ (bG (mX _));have h4:iR d.q=(d.m:Rat)*P2 d.e:=by
  rw[pF];unfold iR;cases d.neg
  .simp only[bB,bk];rw[aZ h0]
  .simp only[bw];split<;>grind
 rw[h4,hT];exact h2
def OG{d:Dy}(h:d.m≠0):P2 (d.ij-1)<=iR d.q:=by
 have hT:d.ij=(ia d.m:Int)+d.e:=by unfold Dy.ij;rw[aY h]
 have hb:0<ia d.m:=wb.2 (by rw[cw];omega);have h1:2^(ia d.m-1)<=d.m:=wb.1 aC;have h2:((2^(ia d.m-1):Nat):Rat)<=(d.m:Rat):=dv.2 h1;have h3:=cj h2 (bG (mX d.e));rw[<-ur,<-pH,show((ia d.m-1:Nat):Int)+d.e=d.ij-1 by rw[hT];omega]at h3;have h4:iR d.q=(d.m:Rat)*P2 d.e:=by
  have h0:0<=(d.m:Rat)*P2 d.e:=bQ cQ (bG (mX _));rw[pF];unfold iR;cases d.neg
  .simp only[bB,bk];rw[aZ h0]
  .simp only[bw];split<;>grind
 rw[h4];exact h3
def D7{d:Dy}(h:0<d.q):d.m≠0:=λe=>by
 have:d.q=0:=by rw[pF,e];simp
 grind
def Hp{r:Rat}(h:0<r):iR r=r:=by unfold iR;rw[aZ (bG h)]
def wh(d:Dy):Rat:=d.q*P2 (-d.ij)
def zP(d:Dy):Rat:=(wh d-1)/(wh d+1)
def PU(k:Int):P2 k*P2 (-k)=1:=by rw[<-pH,(aC:k + -k=0),KX]
def V2{d:Dy}(h:0<d.q):1/2<=wh d/\wh d<1:=by
 have h1:=OG (D7 h);have h2:=GB (D7 h);rw[Hp h]at h1 h2;have hp:=mX (-d.ij);have e1:=PU d.ij;have e2:P2 (d.ij-1)*P2 (-d.ij)=1/2:=by
  rw[<-pH,(aC:d.ij-1 + -d.ij = -1)];decide +kernel
 have m1:=cj h1 (bG hp);have m2:=dm h2 hp;unfold wh;constructor<;>grind
def L4{a b:Rat}(ha:0<=a)(h:a<=b):(a-1)/(a+1)<=(b-1)/(b+1):=by
 have h1:0<a+1:= aK ;have h2:0<b+1:= aK ;have e1:=dA (a:=a-1) (b:=a+1) aK;have e2:=dA (a:=b-1) (b:=b+1) aK;generalize (a-1)/(a+1)=x at *
 generalize (b-1)/(b+1)=y at *
 apply dc.1;intro im;have m1:=dm im h1;have hy:y<1:=by
  apply gK.1;intro hle;have:=cj hle (bG h2)
  grind
 have m2:=cG h (show 0<=1-y by grind)
 grind
def PK{d:Dy}(h:0<d.q):-(1/3)<=zP d/\zP d<=0:=by
 obtain⟨h1,h2⟩:=V2 h;have a:=L4 (show(0:Rat)<=1/2 by decide +kernel) h1;have b:=L4 (show 0<=wh d by grind) (bG h2);have e1:((1:Rat)/2-1)/(1/2+1) = -(1/3):= aL ;have e2:((1:Rat)-1)/(1+1)=0:= aL ;rw[e1]at a;rw[e2]at b;exact⟨a,b⟩
def KR(z:Rat)(N:Nat):AQ (-z) N = -AQ z N:=by
 have:∀ n,iH (tK (-z)) n = -iH (tK z) n:=by
  intro n
  induction n with
  |zero=>simp[iH]
  |succ n ih=>
   rw[iH,iH,ih];have:tK (-z) n = -tK z n:=by
    unfold tK;rw[CJ,aY aC];simp only[cL];grind
   rw[this];grind
 exact this _
def PL(N:Nat):AQ 0 N=0:=by
 have:=KR 0 N;rw[show -(0:Rat)=0 by decide +kernel]at this
 grind
def Ze(N:Nat):0<=AQ (1/3) N:=by
 have:=Hf (show(0:Rat)<=1/3 by decide +kernel) N;rwa[PL]at this
def LQ(d:Dy)(N:Nat):Rat:=AQ (zP d) N*2+(d.ij:Rat)*(AQ (1/3) N*2)
def alh{a b:Dy}(ha:0<a.q)(h:a.q<=b.q):a.ij<=b.ij:=by
 have hb:0<b.q:= aK ;have h1:=OG (D7 ha);have h2:=GB (D7 hb);rw[Hp ha]at h1;rw[Hp hb]at h2;apply bL;intro im;have:=CZ (aC:b.ij<=a.ij-1)
 grind
def Zo{a b:Dy}(ha:0<a.q)(h:a.q<=b.q)(N:Nat):LQ a N<=LQ b N:=by
 have hb:0<b.q:= aK ;have ht:=alh ha h;obtain⟨a1,a2⟩:=PK ha;obtain⟨b1,b2⟩:=PK hb;have c0:=Ze N;unfold LQ;rcases Int.lt_or_eq_of_le ht with im|heq
 .have k1:=Hf a2 N;rw[PL]at k1;have k2:=Hf b1 N;rw[KR]at k2;have k3:(a.ij:Rat)+1<=(b.ij:Rat):=by
   have:=fS (a:=a.ij+1) (b:=b.ij);have:=this.2 aC;rwa[Rat.intCast_add]at this
  have k4:=cj k3 (show 0<=AQ (1/3) N*2 by grind)
  grind
 .have hm:wh a<=wh b:=by
   unfold wh;rw[heq];exact cj h (bG (mX _))
  have hz:zP a<=zP b:=L4 (by have:=(V2 ha).1;grind) hm;have:=Hf hz N;rw[heq]
  grind
def Zp(N:Nat):LQ ⟨false,1,0⟩ N=0:=by
 have e1:zP ⟨false,1,0⟩ = -(1/3):= aL ;have e2:((⟨false,1,0⟩:Dy).ij:Rat)=1:= aL ;unfold LQ;rw[e1,e2,KR];grind
noncomputable def ue(d:Dy)(p:Nat):Iv:=lK (lJ (ml d) p) (-d.ij)
noncomputable def DU(d:Dy)(p:Nat):Iv:=jj (jE (ue d p) (jk (-1)) p) (jE (ue d p) (jk 1) p) p
def YL{d:Dy}(hd:d.gY)(h:d.m≠0):-16384<=d.ij-1/\d.ij<=16384:=by
 have hT:d.ij=(ia d.m:Int)+d.e:=by unfold Dy.ij;rw[aY h]
 have hb:0<ia d.m:=wb.2 (by rw[cw];omega);have h1:=hd.range;unfold mB at h1;have h2:=hd.exp;constructor
 .omega
 .rw [hT]
  first|omega|(rcases h1 with h1|h1<;>first|omega|exact absurd h1 h)
def ajq{d:Dy}(hd:d.gY)(h:0<d.q){p:Nat}(ic:8<=p)(gX:p<=512)(ha:(lJ (ml d) p).all=false):P2 (d.ij-1)<=(lJ (ml d) p).lo.q/\(lJ (ml d) p).hi.q<=P2 d.ij:=by
 have hm:=D7 h;obtain⟨t1,t2⟩:=YL hd hm;have q1:=OG hm;have q2:=GB hm;rw[Hp h]at q1 q2;have A:=xg hd.canon (p:=p) aC aC;have B:=xh hd.canon (p:=p) aC aC;have G1:G p (P2 (d.ij-1)):=.inl ⟨1,d.ij-1,by rw[xw];omega,t1,by rw[xw];omega,aH⟩;have he:¬(jO d p false≠0\/jO d p true≠0):=by
  intro hc;unfold lJ lH at ha;rw[show(ml d).all=false from rfl]at ha;simp only[bB,bk]at ha;rw[aZ (show jO (ml d).lo p false≠0\/jO (ml d).hi p true≠0 from hc)]at ha;cases ha
 have e1:(lJ (ml d) p).lo=jZ d p false/\(lJ (ml d) p).hi=jZ d p true:=by
  unfold lJ lH;rw[show(ml d).all=false from rfl];simp only[bB,bk];rw[aY (show ¬(jO (ml d).lo p false≠0\/jO (ml d).hi p true≠0)from he)];exact⟨rfl,rfl⟩
 rw[e1.1,e1.2];refine⟨(A.2 _ G1 q1).2,?_⟩;by_cases ht:d.ij<=16383
 .have G2:G p (P2 d.ij):=.inl ⟨1,d.ij,by rw[xw];omega,aC,by rw[xw];omega,aH⟩;exact(B.2 _ G2 (bG q2)).2
 .obtain ⟨g,_⟩:=B.1 aC ;have Um:0<=(jZ d p true).q:=bH (bG h) (B.1 aC).2;obtain⟨m,e,hb,_,hr,hv⟩:=g.pos Um;rw[hv];have h1:(m:Rat)<=((2^ia m:Nat):Rat):=dv.2 (du (ql m));have h2:=cj h1 (bG (mX e));rw[<-ur,<-pH]at h2;exact bH h2 (CZ aC)
def agV{d:Dy}(hd:d.gY){p:Nat}(ic:8<=p)(gX:p<=512):(ue d p).jR (wh d):=Pb (GH (vi hd) aC aC (OB d)) _
def agX{d:Dy}(hd:d.gY){p:Nat}(ic:8<=p)(gX:p<=512):(ue d p).gY:=GN (Ed (vi hd) aC aC) _
def agW{d:Dy}(hd:d.gY)(h:0<d.q){p:Nat}(ic:8<=p)(gX:p<=512)(ha:(ue d p).all=false):1/2<=(ue d p).lo.q/\(ue d p).hi.q<=1:=by
 unfold ue lK at ha ⊢;cases ra:(lJ (ml d) p).all
 .rw [ra]at ha;obtain⟨h1,h2⟩:=ajq hd h ic gX ra;simp only[bB,bk]at ha ⊢;unfold lH at ha ⊢;split
  .rename_i he;rw[aZ he]at ha;cases ha
  .rename_i he;have e1:=PU d.ij;have e2:P2 (d.ij-1)*P2 (-d.ij)=1/2:=by
    rw[<-pH,(aC:d.ij-1 + -d.ij = -1)];decide +kernel
   refine⟨?_,?_⟩
   .show 1/2<=(tD _ _).q;rw[Bb aC,<-e2,uZ];exact h1
   .show (tD _ _).q<=1;rw[Bb aC,<-e1,uZ];exact h2
 .rw [ra]at ha;cases ha
def ae6{a b:Rat}(h1:-(1/2)<=a)(h2:a<=1/2)(hb:1<=b):-(1/2)<=a/b/\a/b<=1/2:=by
 have e:=dA (a:=a) (b:=b) aK;generalize a/b=x at *
 constructor
 .apply dc.1;intro im;have:=dm im (show 0<b by grind)
  grind
 .apply dc.1;intro im;have:=dm im (show 0<b by grind)
  grind
def agZ{d:Dy}(hd:d.gY)(h:0<d.q){p:Nat}(ic:8<=p)(gX:p<=512):(DU d p).gY/\(DU d p).jR (zP d)/\((DU d p).all=true\/Sub (DU d p) (pv (-1))):=by
 have vM:=agX hd ic gX;have hM:=agV hd ic gX;have vn:(jk (-1)).gY:=wi aE;have v1:(jk 1).gY:=wi aE;have vA:(jE (ue d p) (jk (-1)) p).gY:=qP vM vn aC aC;have vB:(jE (ue d p) (jk 1) p).gY:=qP vM v1 aC aC;have e1:((-1:Int):Rat) = -1:= aL ;have e2:((1:Int):Rat)=1:= aL ;have hA:=Bo vM vn (p:=p) aC aC hM (zh (-1));have hB:=Bo vM v1 (p:=p) aC aC hM (zh 1);rw[e1,show wh d + -1=wh d-1 by grind]at hA;rw[e2]at hB;refine⟨qc _ _ aC aC,It vA vB aC aC hA hB,?_⟩;cases ma:(ue d p).all
 .right;obtain⟨m1,m2⟩:=agW hd h ic gX ma;have one:∀ (n:Int) r,(jk n).jR r->r=(n:Rat):=λn r hr=>by
   obtain⟨r1,r2⟩:=hr.j8 rfl;replace r1:(iS n).q<=r:=r1;replace r2:r<=(iS n).q:=r2;rw[A5]at r1 r2;exact fp r2 r1
  have g1:G p (1/2):=by have:=zS (p:=p) aC (n:=-1) aE aE;rwa[show P2 (-1)=1/2 by decide +kernel]at this
  have g2:G p 1:=by have:=zS (p:=p) aC (n:=0) aE aE;rwa[KX]at this
  have g4:G p 2:=by have:=zS (p:=p) aC (n:=1) aE aE;rwa[show P2 1=2 by decide +kernel]at this
  obtain⟨aa,a1,a2⟩:=(K5 vM vn ma rfl (aC:1<=p) aC).xS (-(1/2)) (1/2) g1.neg g1 (by
   rintro r ⟨a,b,ha,hb,rfl⟩;obtain⟨b1,b2⟩:=ha.j8 ma;rw[one _ b hb,e1];constructor<;>grind)
  obtain⟨ba,b1,b2⟩:=(K5 vM v1 ma rfl (aC:1<=p) aC).xS 1 2 g2 g4 (by
   rintro r ⟨a,b,ha,hb,rfl⟩;obtain⟨b1,b2⟩:=ha.j8 ma;rw[one _ b hb,e2];constructor<;>grind)
  refine EH (Is vA vB aa (Ph ba (.inl aK)) (aC:1<=p) aC) aC aE aE ?_;rintro r ⟨a,b,ha,hb,rfl⟩;obtain⟨x1,x2⟩:=ha.j8 aa;obtain⟨y1,y2⟩:=hb.j8 ba;rw[show P2 (-1)=1/2 by decide +kernel];exact ae6 aK aK aK 
 .left;show(jj (jE (ue d p) (jk (-1)) p) (jE (ue d p) (jk 1) p) p).all=true;rw[Hq p (.inl ma),EZ p (.inl rfl)];rfl
def adF{d:Dy}(hd:d.gY)(h:d.m≠0){p:Nat}(ic:8<=p)(gX:p<=512){n:Int}(h1:d.ij<=n)(h2:-1000<=n)(h3:n<=1000):Sub (lJ (ml d) p) (pv n):=by
 refine ajp (vi hd) aC aC h2 h3 (.inr ⟨rfl,?_,?_⟩)
 .show (jo (pP n)).q<=d.q;rw[qJ,qH];have:=GB h;have hl:=CZ h1;obtain⟨_,a2,a3,_⟩:=mN d.q
  grind
 .show d.q<=(pP n).q;rw[qH];have:=GB h;have hl:=CZ h1;obtain⟨_,a2,a3,_⟩:=mN d.q
  grind
def Y0(y:Iv)(p n:Nat)(x:Nat):PS:=⟨32,true,[(7,.e (iP ((x+1:Nat):Int))),(6,.box 6 0),(5,.box 5 0),(4,.box 4 0),(3,.box 3 0),(2,.box 2 0)],[(6,.cells 44 (iF (tO y p x))),(5,.cells 44 (iF (kZ y p x))),(4,.cells 44 au),(3,.cells 44 (iF y)),(2,.cells 203 [iP p])]⟩
def agI{f:Nat->Rat}{X Y:Iv}(h:pr f X)(k:∀ r,X.jR r->Y.jR r):pr f Y:=λε hε=>by
 obtain⟨N0,h0⟩:=h ε hε;exact⟨N0,λN hN=>by obtain⟨r,h1,h2⟩:=h0 N hN;exact⟨r,k r h1,h2⟩⟩
def ivW{x:Iv}(hx:x.gY)(ha:x.all=true):x=gU:=by
 obtain⟨h1,h2⟩:=U5 hx ha;obtain⟨a,b,c⟩:=x;simp only at h1 h2 ha;rw[h1,h2,ha];rfl
def Z3(x:Iv)(hx:x.gY)(xa:x.all=true)(k:Int)(k1:-32768<=k)(k2:k<=32768):gR 209 [ib x,iP k] (ib (lK x k)):=
 ak call209 func209 (ae [.o 10 (.e (lG _):aj (.sl true 1 7 λi_ j_=>(iF x).getD (i_*7+j_) (.v (.bool false))) (gZ [x])),ag [gZ [x]] (pM _ aD),ai 11 (!x.all) (by rw[xa];rfl),.c nv]<|rQ (ib gU) (ib (lK x k)) (by rw[show(lK x k)=gU by unfold lK;rw[aZ xa]])) 
def Z4(x:Iv)(hx:x.gY)(xa:x.all=false)(k:Int)(k1:-32768<=k)(k2:k<=32768):gR 209 [ib x,iP k] (ib (lK x k)):=by
 obtain⟨v1,v2⟩:=hx.j8;exact ak call209 func209 (ae [.o 10 (.e (lG _):aj (.sl true 1 7 λi_ j_=>(iF x).getD (i_*7+j_) (.v (.bool false))) (gZ [x])),ag [gZ [x]] (pM _ aD),ah 11 (!x.all) (by rw[xa];rfl),.c (Da x.lo k aD aC aC),.c (Da x.hi k aD aC aC),.c (Cl (jq (canon x.lo.neg x.lo.m (x.lo.e+k))) (jq (canon x.hi.neg x.hi.m (x.hi.e+k))) (kp (canon x.lo.neg x.lo.m (x.lo.e+k))) (kp (canon x.hi.neg x.hi.m (x.hi.e+k))))]<|rQ (ib (lH (jq (canon x.lo.neg x.lo.m (x.lo.e+k))) (kp (canon x.lo.neg x.lo.m (x.lo.e+k))) (jq (canon x.hi.neg x.hi.m (x.hi.e+k))) (kp (canon x.hi.neg x.hi.m (x.hi.e+k))))) (ib (lK x k)) (by unfold lK;rw[aY (by rw[xa];decide)];simp only[ajI,ajJ])) 
def Hy(x:Iv)(hx:x.gY)(k:Int)(k1:-32768<=k)(k2:k<=32768):gR 209 [ib x,iP k] (ib (lK x k)):=by
 cases xa:x.all with
 |true=>exact Z3 x hx xa k k1 k2
 |false=>exact Z4 x hx xa k k1 k2
def ZZ(x:Iv)(hx:x.gY)(xa:x.all=true)(p:Nat)(ic:8<=p)(gX:p<=512):gR 254 [ib x,iP p] (ib (lJ x p)):=
 ak call254 func254 (ae [.o 10 (.e (lG _):aj (.sl true 1 7 λi_ j_=>(iF x).getD (i_*7+j_) (.v (.bool false))) (gZ [x])),ag [gZ [x]] (pM _ aD),ai 11 (!x.all) (by rw[xa];rfl),.c nv]<|rQ (ib gU) (ib (lJ x p)) (by rw[show(lJ x p)=gU by unfold lJ;rw[aZ xa]])) 
def Z0(x:Iv)(hx:x.gY)(xa:x.all=false)(p:Nat)(ic:8<=p)(gX:p<=512):gR 254 [ib x,iP p] (ib (lJ x p)):=by
 obtain⟨v1,v2⟩:=hx.j8;exact ak call254 func254 (ae [.o 10 (.e (lG _):aj (.sl true 1 7 λi_ j_=>(iF x).getD (i_*7+j_) (.v (.bool false))) (gZ [x])),ag [gZ [x]] (pM _ aD),ah 11 (!x.all) (by rw[xa];rfl),ag [iP p] (vZ _),ah 15 (mI (p:Int)) (rY.2 ⟨aC,aC⟩),.c (HI x.lo p aD aC aC),.c (HW x.hi p aD aC aC),.c (Cl (jZ x.lo p false) (jZ x.hi p true) (jO x.lo p false) (jO x.hi p true))]<|rQ (ib (lH (jZ x.lo p false) (jO x.lo p false) (jZ x.hi p true) (jO x.hi p true))) (ib (lJ x p)) (by unfold lJ;rw[aY (by rw[xa];decide)])) 
def EF(x:Iv)(hx:x.gY)(p:Nat)(ic:8<=p)(gX:p<=512):gR 254 [ib x,iP p] (ib (lJ x p)):=by
 cases xa:x.all with
 |true=>exact ZZ x hx xa p ic gX
 |false=>exact Z0 x hx xa p ic gX
def Z5(x:Iv)(hx:x.gY)(xa:x.all=true)(p:Nat)(ic:8<=p)(gX:p<=512):gR 288 [ib x,iP p] (ib (oz x p)):=by
 have ha:(jQ x).all=true:=by rw[zV,xa]
 exact ak call288 func288 (ae [.c (Nu x aD),ah 13 ((jQ x).all) ha,.c nv]<|rQ (ib gU) (ib (oz x p)) (by unfold oz;rw[aZ ha])) 
def Z6(x:Iv)(hx:x.gY)(xa:x.all=false)(p:Nat)(ic:8<=p)(gX:p<=512):gR 288 [ib x,iP p] (ib (oz x p)):=by
 have ha:(jQ x).all=false:=by rw[zV,xa]
 have hv:=Ho hx;obtain⟨v1,v2⟩:=hv.j8;exact ak call288 func288 (ae [.c (Nu x aD),ai 13 ((jQ x).all) ha,ag [iP p] (vZ _),ah 16 (mI (p:Int)) (rY.2 ⟨aC,aC⟩),.c (J9 ((jQ x).lo) ((jQ x).lo) p aD aD aC aC),.c (Ka ((jQ x).hi) ((jQ x).hi) p aD aD aC aC),.c (Cl (jZ (jt ((jQ x).lo) ((jQ x).lo)) p false) (jZ (jt ((jQ x).hi) ((jQ x).hi)) p true) (jO (jt ((jQ x).lo) ((jQ x).lo)) p false) (jO (jt ((jQ x).hi) ((jQ x).hi)) p true))]<|rQ (ib (lH (jZ (jt ((jQ x).lo) ((jQ x).lo)) p false) (jO (jt ((jQ x).lo) ((jQ x).lo)) p false) (jZ (jt ((jQ x).hi) ((jQ x).hi)) p true) (jO (jt ((jQ x).hi) ((jQ x).hi)) p true))) (ib (oz x p)) (by unfold oz;rw[aY (by rw[ha];decide)];rfl)) 
def QC(x:Iv)(hx:x.gY)(p:Nat)(ic:8<=p)(gX:p<=512):gR 288 [ib x,iP (p:Int)] (ib (oz x p)):=by
 cases xa:x.all with
 |true=>exact Z5 x hx xa p ic gX
 |false=>exact Z6 x hx xa p ic gX
def La(x:Iv)(hx:x.gY)(xa:x.all=true):gR 65 [ib x] (.ig [gV iq,bP false]):=
 ak call65 func65 (af [.o 5 (.e (lG _):aj (.sl true 1 7 λi_ j_=>(iF x).getD (i_*7+j_) (.v (.bool false))) (gZ [x])),ag [gZ [x]] (pM _ aD),ai 6 (!x.all) (by rw[xa];rfl),.o 8 (.e qN:aj (.agg ar) (gV iq))]) 
def xj(n:Int)(h:n.natAbs<4294967296):gR 252 [iP n] (ib (jk n)):=by
 have hv:=sJ h;exact ak call252 func252 (af [ag [iP n] (qR _ aC),.c (AK (iS n) aD)]) 
def Bm(p:Nat)(x y:Iv)(hx:x.gY)(hy:y.gY)(ic:8<=p)(gX:p<=512):gR 257 [.agg [iP p],ib x,ib y] (ib (jE x y p)):=
 ak call257 func257 (af [.c (yZ x y p aD aD aC aC)]) 
def KM(p:Nat)(x y:Iv)(hx:x.gY)(hy:y.gY)(ic:8<=p)(gX:p<=512):gR 259 [.agg [iP p],ib x,ib y] (ib (iz x y p)):=
 ak call259 func259 (af [.c (tp x y p aD aD aC aC)]) 
def G7(p:Nat)(x y:Iv)(hx:x.gY)(hy:y.gY)(ic:8<=p)(gX:p<=512):gR 256 [.agg [iP p],ib x,ib y] (ib (jj x y p)):=
 ak call256 func256 (af [.c (y3 x y p aD aD aC aC)]) 
def alQ(p:Nat)(x:Iv)(hx:x.gY)(xa:x.all=true)(ic:8<=p)(gX:p<=512):gR 289 [.agg [iP p],ib x] (bP (oL x p)):=
 ak call289 func289 (ae [.c (La x hx xa)]<|rQ (bP true) (bP (oL x p)) (by unfold oL;rw[xa];rfl)) 
def YG{x:Iv}(xa:x.all=false)(p:Nat):oL x p=(((kB x).iK==0)||decide ((kB x).ij<=0-(p:Int))):=by
 unfold oL;rw[xa,am2];congr 1
 .unfold Dy.iK;by_cases h:(kB x).m=0
  .simp [h]
  .simp only[h,bk,gF];split<;>rfl
 .rw [show(0:Int)-p = -(p:Int)by omega]
def alR(p:Nat)(x:Iv)(hx:x.gY)(xa:x.all=false)(ic:8<=p)(gX:p<=512):gR 289 [.agg [iP p],ib x] (bP (oL x p)):=by
 have hm:=F6 hx.j8.1 hx.j8.2;exact ak call289 func289 (ae [.c (FW x hx xa),ag [gV (kB x)] (mP _ aD)]<|.w ((Dy.iK (kB x))=0)
  (λk1=>ae [tB 17 (aU k1)]<|rQ (bP true) (bP (oL x p)) (by rw[YG xa];simp[k1]))
  (λk1=>ae [tB 17 (aT k1),ag [gV (kB x)] (mQ _ aD),ik (0-(p:Int)) aC]<|rQ (bP (decide ((Dy.ij (kB x))<=(0-(p:Int))))) (bP (oL x p)) (by rw[YG xa];simp[k1]))) 
def KN(p:Nat)(x:Iv)(hx:x.gY)(ic:8<=p)(gX:p<=512):gR 289 [.agg [iP p],ib x] (bP (oL x p)):=by
 cases xa:x.all with
 |true=>exact alQ p x hx xa ic gX
 |false=>exact alR p x hx xa ic gX
def alX(x:Iv)(hx:x.gY)(xa:x.all=true):gR 290 [ib x] (ib (qQ x)):=
 ak call290 func290 (ae [.c (La x hx xa),.c nv]<|rQ (ib gU) (ib (qQ x)) (by rw[show qQ x=gU by unfold qQ;rw[aZ xa];exact ivW hx xa])) 
def alY(x:Iv)(hx:x.gY)(xa:x.all=false):gR 290 [ib x] (ib (qQ x)):=by
 have hm:=F6 hx.j8.1 hx.j8.2;exact ak call290 func290 (ae [.c (FW x hx xa),ag [gV (kB x)] (yB _ aD)]<|rQ (ib (Iv.mk (jo (kB x)) (kB x) false)) (ib (qQ x)) (by unfold qQ;rw[aY (by rw[xa];decide)];try rfl)) 
def Y8(x:Iv)(hx:x.gY):gR 290 [ib x] (ib (qQ x)):=by
 cases xa:x.all with
 |true=>exact alX x hx xa
 |false=>exact alY x hx xa
def alL(y:Iv)(p n:Nat)(hy:y.gY)(ic:8<=p)(gX:p<=512)(h2:n<=1000)(jJ:∀ x,x<n->oL (kZ y p (x+1)) p=false)(hN:oL (kZ y p (n+1)) p=true):gR 287 [.agg [iP p],ib y] (ib (yD y p (n+1))):=by
 have t0:=wu hy ic gX n;have s0:=Dl hy ic gX n;have t1:(iz (kZ y p n) y p).gY:=og _ _ aC aC;have n1:(jk ((n+1:Nat):Int)).gY:=Cz _ aC;have t2:(jj (iz (kZ y p n) y p) (jk ((n+1:Nat):Int)) p).gY:=qc _ _ aC aC;have a1:(jE (tO y p n) (jj (iz (kZ y p n) y p) (jk ((n+1:Nat):Int)) p) p).gY:=qP s0 t2 aC aC;have r1:=C8 t2;exact ak call287 func287 (ae [.c (xj 1 aC),.c (xj 1 aC),.s (Sp.jH (Y0 y p n) 0 n aC (λx hx mw=>by
    have t0:=wu hy ic gX x;have s0:=Dl hy ic gX x;have t1:(iz (kZ y p x) y p).gY:=og _ _ aC aC;have n1:(jk ((x+1:Nat):Int)).gY:=Cz _ aC;have t2:(jj (iz (kZ y p x) y p) (jk ((x+1:Nat):Int)) p).gY:=qc _ _ aC aC;exact iB (ae [.c (KM p (kZ y p x) y aD aD aC aC),.c (xj ((x+1:Nat):Int) aC),.c (G7 p (iz (kZ y p x) y p) (jk ((x+1:Nat):Int)) aD aD aC aC),.c (Bm p (tO y p x) (jj (iz (kZ y p x) y p) (jk ((x+1:Nat):Int)) p) aD aD aC aC),.c (KN p (jj (iz (kZ y p x) y p) (jk ((x+1:Nat):Int)) p) aD aC aC),ai 26 (oL (jj (iz (kZ y p x) y p) (jk ((x+1:Nat):Int)) p) p) (jJ x aC),
     ik (((x+1:Nat):Int)+1) aC]<|.e (af [.b 6 (.iM rfl:Bx.le (.cells 44 (iF (jE (tO y p x) (jj (iz (kZ y p x) y p) (jk ((x+1:Nat):Int)) p) p))) (.cells 44 (iF (tO y p (x+1))))),.b 5 (.iM rfl:Bx.le (.cells 44 (iF (jj (iz (kZ y p x) y p) (jk ((x+1:Nat):Int)) p))) (.cells 44 (iF (kZ y p (x+1)))))])) aF)
  (λhx=>by
    exact iB (af [.c (KM p (kZ y p n) y aD aD aC aC),.c (xj ((n+1:Nat):Int) aC),.c (G7 p (iz (kZ y p n) y p) (jk ((n+1:Nat):Int)) aD aD aC aC),.c (Bm p (tO y p n) (jj (iz (kZ y p n) y p) (jk ((n+1:Nat):Int)) p) aD aD aC aC),.c (KN p (jj (iz (kZ y p n) y p) (jk ((n+1:Nat):Int)) p) aD aC aC),ah 26 (oL (jj (iz (kZ y p n) y p) (jk ((n+1:Nat):Int)) p) p) hN]) aF) aI:jD 4 f287 (Y0 y p n 0) (.exit 0) ⟨32,true,[(6,.box 6 0),(5,.box 5 0),(4,.box 4 0),(2,.box 2 0)],[(6,.cells 44 (iF (jE (tO y p n) (jj (iz (kZ y p n) y p) (jk ((n+1:Nat):Int)) p) p))),(5,.cells 44 (iF (jj (iz (kZ y p n) y p) (jk ((n+1:Nat):Int)) p))),(4,.cells 44 au),(2,.cells 203 [iP p])]⟩) (af [.o 7 (aq 1 ((0+1:Nat):Int) aO),.b 6 (.iM rfl:Bx.le (.cells 44 (iF (jk 1))) (.cells 44 (iF (tO y p 0)))),.b 5 (.iM rfl:Bx.le (.cells 44 (iF (jk 1))) (.cells 44 (iF (kZ y p 0))))]),ag [ib (jj (iz (kZ y p n) y p) (jk ((n+1:Nat):Int)) p)] (Y8 _ aD),.c (Bm p (jE (tO y p n) (jj (iz (kZ y p n) y p) (jk ((n+1:Nat):Int)) p) p) (qQ (jj (iz (kZ y p n) y p) (jk ((n+1:Nat):Int)) p)) aD aD aC aC)]<|rR (ib (yD y p (n+1))) (.iM rfl:E.le (ib (jE (jE (tO y p n) (jj (iz (kZ y p n) y p) (jk ((n+1:Nat):Int)) p) p) (qQ (jj (iz (kZ y p n) y p) (jk ((n+1:Nat):Int)) p)) p)) (ib (yD y p (n+1))))) 
def alM{y:Iv}(hy:y.gY)(hb:y.all=true\/Sub y (pv (-1))){p:Nat}(ic:8<=p)(gX:p<=512):∃ Z,Z.gY/\(∀ r,y.jR r->pr (EQ r) Z)/\gR 287 [.agg [iP (p:Int)],ib y] (ib Z):=by
 obtain⟨N,h1,h2,h3,h4⟩:=adK hy hb ic gX;obtain⟨n,rfl⟩:∃ n,N=n+1:=⟨N-1,aC⟩
 exact⟨yD y p (n+1),adJ hy ic gX _,λr hr=>adI hy hr hb ic gX h1 h2,alL y p n hy ic gX aC (λx hx=>h3 (x+1) aC aC) h4⟩
def alO(y Z:Iv)(p:Nat)(ae3:gR 287 [.agg [iP (p:Int)],ib y] (ib Z)):gR 255 [.agg [iP p],ib y,iP 0] (ib Z):=
 ak call255 func255 (af [ah 8 ((0:Int)==0) aE,ag [.agg [iP p],ib y] ae3]) 
def alN(y Z:Iv)(p n:Nat)(hy:y.gY)(hZ:Z.gY)(hn:n<=1000)(hH:gR 255 [.agg [iP (p:Int)],ib (lK y (-1)),iP (n:Int)] (ib Z))(ic:8<=p)(gX:p<=512):gR 255 [.agg [iP p],ib y,iP ((n+1:Nat):Int)] (ib (oz Z p)):=
 ak call255 func255 (af [ai 8 (((n+1:Nat):Int)==0) (nA aC),.c (Hy y aD (-1) aC aC),ik (((n+1:Nat):Int)-1) aC,.c (by rw[show(((n+1:Nat):Int)-1)=(n:Int)by omega];exact hH:gR 255 [.agg [iP p],ib (lK y (-1)),iP (((n+1:Nat):Int)-1)] (ib Z)),ag [ib Z,iP p] (QC _ aD _ aC aC)]) 
def Y1{p:Nat}(ic:8<=p)(gX:p<=512):∀ (n:Nat) {y:Iv},n<=500->y.gY->(y.all=true\/Sub y (pv ((n:Int)-1)))->∃ Z,Z.gY/\(∀ r,y.jR r->pr (EQ r) Z)/\gR 255 [.agg [iP (p:Int)],ib y,iP (n:Int)] (ib Z)
 | 0,y,_,hy,hb=>by
  obtain⟨Z,h1,h2,h3⟩:=alM hy (by simpa using hb) ic gX;exact⟨Z,h1,h2,alO y Z p h3⟩
 |n+1,y,hn,hy,hb=>by
  have hs:=GN hy (-1);have nh:(lK y (-1)).all=true\/Sub (lK y (-1)) (pv ((n:Int)-1)):=by
   rcases hb with hb|hb
   .left;unfold lK;rw[aZ hb];rfl
   .have:=ajL hb;rwa[show(((n+1:Nat):Int)-1-1)=(n:Int)-1 by omega]at this
  obtain⟨Z,h1,h2,h3⟩:=Y1 ic gX n aC hs nh;exact⟨oz Z p,Kt h1 aC aC,λr hr=>agG h1 (h2 _ (Pb hr (-1))) aC aC,alN y Z p n hy h1 aC h3 ic gX⟩
def PI(p m:Nat)(h1:p<=512)(h2:m<=1000):gR 253 [iP p,iP m] (.agg [iP ((min (p+m) 512:Nat):Int)]):=
 ak call253 func253 (af [ik ((p:Int)+m) aC,.o 8 (aq (if 512<((p+m:Nat):Int)then 512 else((p+m:Nat):Int)) ((min (p+m) 512:Nat):Int) aM)]) 
def amd(d:Dy)(p:Nat)(hd:d.gY)(h0:d.iK=0)(ic:8<=p)(gX:p<=512):gR 230 [gV d,iP p] (ib (jk 1)):=
 ak call230 func230 (af [ag [gV d] (mP _ aD),ah 9 ((Dy.iK d)==0) (by rw[h0];rfl),.c (xj 1 aC)]) 
def GY{d:Dy}(hd:d.gY):-100000<=d.ij:=by
 unfold Dy.ij;have:=hd.exp;split<;>omega
def alj{d:Dy}(h:d.m=0):d.ij=0:=by unfold Dy.ij;rw[aZ h]
def amc(d:Dy)(p:Nat)(Z:Iv)(hd:d.gY)(h0:d.iK≠0)(ht:d.ij<=100)(hZ:Z.gY)(hH:gR 255 [.agg [iP (((min (p+(((d.ij+1).toNat)+24)) 512):Nat):Int)],ib (lJ (ml d) (min (p+(((d.ij+1).toNat)+24)) 512)),iP ((((d.ij+1).toNat):Nat):Int)] (ib Z))(ic:8<=p)(gX:p<=512):gR 230 [gV d,iP p] (ib (lJ Z p)):=by
 have sH:-100000<=d.ij:=GY hd;have vp:=vi hd;exact ak call230 func230 (af [ag [gV d] (mP _ aD),ai 9 ((Dy.iK d)==0) (by simpa using h0),ag [gV d] (mQ _ aD),ik ((Dy.ij d)+1) aC,.o 14 (aq (if 0>((Dy.ij d)+1)then 0 else((Dy.ij d)+1)) ((d.ij+1).toNat:Int) aM),ik (((d.ij+1).toNat:Int)+24) aC,.c (PI p (((d.ij+1).toNat)+24) aC aC),.c (AK d aD),.c (EF (ml d) aD (min (p+(((d.ij+1).toNat)+24)) 512) aC aC),ag [.agg [iP ((min (p+(((d.ij+1).toNat)+24)) 512:Nat):Int)],ib (lJ (ml d) (min (p+(((d.ij+1).toNat)+24)) 512)),iP ((d.ij+1).toNat:Int)] hH,.c (EF Z aD p aC aC)]) 
def akg{d:Dy}(h:d.iK≠0):d.m≠0:=λq=>h (by unfold Dy.iK;rw[aZ q])
def Zb{d:Dy}(hd:d.gY)(ht:d.ij<=100){p:Nat}(ic:8<=p)(gX:p<=512):∃ Z,Z.gY/\pr (EQ d.q) Z/\gR 230 [gV d,iP (p:Int)] (ib Z):=by
 by_cases h0:d.iK=0
 .refine ⟨jk 1,wi aE,?_,amd d p hd h0 ic gX⟩;have hq:d.q=0:=by
   have h1:=rH d;rw[h0]at h1;have a:=h1.1.2;have b:=h1.2.2;have:¬0<d.q:=λq=>absurd (a q) aE 
   have:¬d.q<0:=λq=>absurd (b q) aE 
   grind
  rw[hq];exact pr.Ol (k:=0) λN _=>by rw[Zk];exact zh 1
 .have hm:=akg h0;obtain⟨P,hP⟩:∃ P,P=min (p+((d.ij+1).toNat+24)) 512:=⟨_,rfl⟩
  have hb:=adF hd hm (p:=P) aC aC (n:=((d.ij+1).toNat:Int)-1) aC aC aC;obtain⟨Z,h1,h2,h3⟩:=Y1 (p:=P) aC aC ((d.ij+1).toNat) aC (Ed (vi hd) aC aC) (.inr hb);subst hP;refine⟨lJ Z p,Ed h1 aC aC,?_,amc d p Z hd h0 ht h1 h3 ic gX⟩;have hl:=h2 _ (GH (vi hd) aC aC (OB d));exact agI hl λr hr=>GH h1 aC aC hr
def Y9(a b:Iv)(ha:a.gY)(hb:b.gY):gR 229 [ib a,ib b] (ib (uy a b)):=
 ak call229 func229 (.w (a.all=true)
  (λk1=>ae [tB 6 k1,.c nv]<|rQ (ib gU) (ib (uy a b)) (by unfold uy;simp[k1]))
  (λk1=>ae [tB 6 (aV k1)]<|.w (b.all=true)
   (λk2=>ae [tB 9 k2,.c nv]<|rQ (ib gU) (ib (uy a b)) (by unfold uy;simp[k1,k2]))
   (λk2=>ae [tB 9 (aV k2)]<|rQ (ib (Iv.mk a.lo b.hi false)) (ib (uy a b)) (by unfold uy;simp[k1,k2])))) 
def tv(d:Dy):Bool:=decide (iO (lN d) (iS 1000)<=0)
def Hb(d:Dy)(hd:d.gY):gR 228 [gV d] (bP (tv d)):=by
 have ha:=yo hd;have hi:(iS 1000).gY:=sJ aE;exact ak call228 func228 (af [.c (Dj d aD),ag [iP 1000] (qR _ aC),ag [gV (lN d),gV (iS 1000)] (kI _ _ aD aD)]) 
def CW(x:Iv)(p:Nat)(hx:x.gY)(ic:8<=p)(gX:p<=512):gR 227 [ib x,iP p] (bP (!x.all)):=
 ak call227 func227 (.w (x.all=true)
  (λk1=>ae [tB 6 k1]<|rQ (bP false) (bP (!x.all)) (by simp[k1]))
  (λk1=>ae [tB 6 (aV k1),.c (re x aD),tT 14 (8<=(p:Int)) aC,tT 18 ((p:Int)<=512) aC]<|rQ (bP true) (bP (!x.all)) (by simp[k1]))) 
def alZ(x:Iv)(p:Nat)(hx:x.gY)(ic:8<=p)(gX:p<=512)(xa:x.all=true):gR 201 [ib x,iP p] (ib gU):=
 ak call201 func201 (af [.c (CW x p aD aC aC),ai 7 (!x.all) (by rw[xa];rfl),.c nv]) 
def al3(x:Iv)(p:Nat)(hx:x.gY)(ic:8<=p)(gX:p<=512)(xa:x.all=false)(h1:tv x.lo=false):gR 201 [ib x,iP p] (ib gU):=by
 obtain⟨w1,w2⟩:=hx.j8;exact ak call201 func201 (af [.c (CW x p aD aC aC),ah 7 (!x.all) (by rw[xa];rfl),.c (Hb x.lo aD),ai 12 (tv x.lo) h1,.c nv]) 
def al1(x:Iv)(p:Nat)(hx:x.gY)(ic:8<=p)(gX:p<=512)(xa:x.all=false)(h1:tv x.lo=true)(h2:tv x.hi=false):gR 201 [ib x,iP p] (ib gU):=by
 obtain⟨w1,w2⟩:=hx.j8;exact ak call201 func201 (af [.c (CW x p aD aC aC),ah 7 (!x.all) (by rw[xa];rfl),.c (Hb x.lo aD),ah 12 (tv x.lo) h1,.c (Hb x.hi aD),ai 18 (tv x.hi) h2,.c nv]) 
def al2(x:Iv)(p:Nat)(hx:x.gY)(ic:8<=p)(gX:p<=512)(xa:x.all=false)(h1:tv x.lo=true)(h2:tv x.hi=true)(Z1 Z2:Iv)(z1:Z1.gY)(z2:Z2.gY)(k1:gR 230 [gV x.lo,iP (p:Int)] (ib Z1))(k2:gR 230 [gV x.hi,iP (p:Int)] (ib Z2)):gR 201 [ib x,iP p] (ib (uy Z1 Z2)):=by
 obtain⟨w1,w2⟩:=hx.j8;exact ak call201 func201 (af [.c (CW x p aD aC aC),ah 7 (!x.all) (by rw[xa];rfl),.c (Hb x.lo aD),ah 12 (tv x.lo) h1,.c (Hb x.hi aD),ah 18 (tv x.hi) h2,ag [gV x.lo,iP p] k1,ag [gV x.hi,iP p] k2,.c (Y9 Z1 Z2 aD aD)]) 
def V0{d:Dy}(hd:d.gY)(h:tv d=true):d.ij<=100:=by
 by_cases h0:d.m=0
 .rw [alj h0];decide
 .unfold tv at h;rw[b9,oJ,A5]at h;have hq:=zp d;have ha:iR d.q<=P2 10:=by
   have:P2 10=1024:= aL ;rw[this];have aeX:((1000:Int):Rat)=1000:=rfl;rw[aeX]at h;exact xr aK aK 
  have:=YK h0 ha;omega
def So{a b:Iv}(ha:a.gY)(hb:b.gY)(h:a.all=false->b.all=false->a.lo.q<=b.hi.q):(uy a b).gY:=by
 unfold uy;cases xa:a.all
 .cases xb:b.all
  .exact .inr ⟨rfl,ha.j8.1,hb.j8.2,(oJ _ _).2 (h xa xb)⟩
  .exact lL
 .exact lL
def al0{x:Iv}(hx:x.gY){p:Nat}(ic:8<=p)(gX:p<=512):∃ Z,Z.gY/\gR 201 [ib x,iP (p:Int)] (ib Z):=by
 cases xa:x.all with
 |true=>exact⟨gU,lL,alZ x p hx ic gX xa⟩
 |false=>
  cases h1:tv x.lo with
  |false=>exact⟨gU,lL,al3 x p hx ic gX xa h1⟩
  |true=>
   cases h2:tv x.hi with
   |false=>exact⟨gU,lL,al1 x p hx ic gX xa h1 h2⟩
   |true=>
    obtain⟨w1,w2⟩:=hx.j8;obtain⟨Z1,z1,l1,k1⟩:=Zb w1 (V0 w1 h1) ic gX;obtain⟨Z2,z2,l2,k2⟩:=Zb w2 (V0 w2 h2) ic gX;exact⟨uy Z1 Z2,So z1 z2 λa b=>agH l1 l2 (λε hε=>Zh hx.q hε) a b,al2 x p hx ic gX xa h1 h2 Z1 Z2 z1 z2 k1 k2⟩
noncomputable def XP(a:List Iv)(p:Nat)(x:Nat):PS:=⟨76,true,[(6,.e (iP x)),(5,.own 15),(0,.e (gZ a)),(1,.e (iP p))],[(15,.row true 44 x 7 (iG (iU (mG a p) x)))]⟩
noncomputable def XQ(a:List Iv)(p x:Nat)(z:Nat):PS:=⟨76,true,[(8,.e (iP ((z+1:Nat):Int))),(7,.box 7 0),(6,.e (iP x)),(5,.own 15),(0,.e (gZ a)),(1,.e (iP p))],[(7,.cells 44 (iF (rh a (iU (mG a p) x) p x z))),(15,.row true 44 x 7 (iG (iU (mG a p) x)))]⟩
noncomputable def X0(a:List Iv)(p:Nat)(y:Nat):PS:=⟨59,true,[(6,.box 6 0),(5,.own 26),(4,.own 16),(3,.box 3 0),(2,.box 2 0)],[(6,.cells 3 [iP ((y+1:Nat):Int)]),(26,.row true 44 (y+1) 7 (iG (lE a p y).2)),(16,.row true 44 (y+1) 7 (iG (lE a p y).1)),(3,.cells 3 [iP p]),(2,.cells 26 [gZ a])]⟩
noncomputable def X1(a:List Iv)(p:Nat)(x:Nat):PS:=⟨52,true,[(7,.box 7 0),(6,.box 6 0),(5,.mT 5 1 0 0),(3,.box 3 0),(0,.e (gZ a))],[(7,.cells 3 [iP x]),(6,.cells 44 (iF (lK (o9 (a.getD 0 gU) p) 1))),(5,.jC true 26 44 1 7 (λ_=>x) (λ_=>iG (iU (nQ a p) x)) .none),(3,.cells 3 [iP p])]⟩
def NH{a out:List Iv}{p k:Nat}(hp:1<=p)(gX:p<=4096):∀ n,(rh a out p k n).gY
 | 0=>yb 0 aE 
 |n+1=>qP (NH hp gX n) (og _ _ hp gX) hp gX
def ajU(a:List Iv)(n p:Nat)(h1:1<=n)(np:n<=17)(ha:kA n a)(ic:8<=p)(gX:p<=512)(hF:uq):gR 168 [gZ a,iP p] (gZ (DT a p)):=by
 have la:=ha.len;have va0:=ha.ok 0;have pf:(λ_:Nat=>(0:Nat)) 0=0:=rfl;have Uk:=pE (uE (a.getD 0 gU) p);exact ak call168 func168 (ae [.o 10 (.e (Ct _):aj (.sl true 1 1 λi_ j_=>[gZ a].getD (i_*1+j_) (.v (.bool false))) (kS [a])),.c (wE [a] n aC aC aH (Bq aD)),.a (aC:0<=(0:Int)/\(0:Int)<=((a.length:Int):Int)),.a (aC:((88:Nat):Int)*(a.length:Int)<=281474976710656/\((a.length:Int):Int)<=9223372036854775807),
  iX 0 (a.length) aC,ag [ib (a.getD 0 gU),iP p] (SC _ aD _ aC aC hF),.o 22 (.e (lG _):aj (.sl true 1 7 λi_ j_=>(iF (uE (a.getD 0 gU) p)).getD (i_*7+j_) (.v (.bool false))) (gZ [uE (a.getD 0 gU) p])),.a (aC:(0+[uE (a.getD 0 gU) p].length)*88<=140737488355328),.s (Sp.jH (XP a p) 1 a.length aC (λx hx mw=>by
    have nS:(λ_:Nat=>x) 0=x:=rfl;have pz:kA x (iU (mG a p) x):=A7 x λk l _ _=>by unfold mG;split<;>first|exact LV _ _|exact qc _ _ aC aC 
    have v0:=yb 0 aC;have vw:=yb x aC;have vx:=ha.ok x;have vg:=NH (a:=a) (out:=(iU (mG a p) x)) (k:=x) (aC:1<=p) (aC:p<=4096) (x-1);have vd:(jj (rh a (iU (mG a p) x) p x (x-1)) (jU x) p).gY:=qc _ _ aC aC;have vs:(rJ (a.getD x gU) (jj (rh a (iU (mG a p) x) p x (x-1)) (jU x) p) p).gY:=Pn aC aC vx vd;have rE:=pE (jj (rJ (a.getD x gU) (jj (rh a (iU (mG a p) x) p x (x-1)) (jU x) p) p) (a.getD 0 gU) p);exact iB (ae [tT 27 ((x:Int)<a.length) aC,.c (Bc 0 aC),.s (Sp.jH (XQ a p x) 0 (x-1) aC (λz hz ams=>by
    have v1:=NH (a:=a) (out:=(iU (mG a p) x)) (k:=x) (aC:1<=p) (aC:p<=4096) z;have v2:=yb (z+1) aC;have v3:=pz.ok (z+1);have v4:=ha.ok (x-(z+1));have v5:(iz (jU (z+1)) ((iU (mG a p) x).getD (z+1) gU) p).gY:=og _ _ aC aC;have v6:(iz (iz (jU (z+1)) ((iU (mG a p) x).getD (z+1) gU) p) (a.getD (x-(z+1)) gU) p).gY:=og _ _ aC aC;exact iB (ae [tT 33 (((z+1:Nat):Int)<x) aC,.c (Bc (z+1) aC),iX ((z+1:Nat):Int) x aC,.a (aC:(z+1)<x),.c (tp (jU (z+1)) ((iU (mG a p) x).getD (z+1) gU) p aD aD aC aC),ik ((x:Int)-((z+1:Nat):Int)) aC,.o 48 (aq ((x:Int)-((z+1:Nat):Int)) ((x-(z+1):Nat):Int) aC),iX ((x-(z+1):Nat):Int) (a.length) aC,.c (tp (iz (jU (z+1)) ((iU (mG a p) x).getD (z+1) gU) p) (a.getD (x-(z+1)) gU) p aD aD aC aC),.c (yZ (rh a (iU (mG a p) x) p x z) (iz (iz (jU (z+1)) ((iU (mG a p) x).getD (z+1) gU) p) (a.getD (x-(z+1)) gU) p) p aD aD aC aC),
     ik (((z+1:Nat):Int)+1) aC]<|.e (af [.b 7 (.iM rfl:Bx.le (.cells 44 (iF (jE (rh a (iU (mG a p) x) p x z) (iz (iz (jU (z+1)) ((iU (mG a p) x).getD (z+1) gU) p) (a.getD (x-(z+1)) gU) p) p))) (.cells 44 (iF (rh a (iU (mG a p) x) p x (z+1)))))])) aF)
  (λhz=>by
    exact iB (af [tF 33 ((((x-1)+1:Nat):Int)<x) aC]) aF) aI:jD 10 f168 (XQ a p x 0) (.exit 2) ⟨76,true,[(7,.box 7 0),(6,.e (iP x)),(5,.own 15),(0,.e (gZ a)),(1,.e (iP p))],[(7,.cells 44 (iF (rh a (iU (mG a p) x) p x (x-1)))),(15,.row true 44 x 7 (iG (iU (mG a p) x)))]⟩) (af [.o 8 (aq 1 ((0+1:Nat):Int) aO),.b 7 (.iM rfl:Bx.le (.cells 44 (iF (jU 0))) (.cells 44 (iF (rh a (iU (mG a p) x) p x 0))))]),
     iX (x:Int) (a.length) aC,.c (Bc x aC),.c (y3 (rh a (iU (mG a p) x) p x (x-1)) (jU x) p aD aD aC aC),.c (JB (a.getD x gU) (jj (rh a (iU (mG a p) x) p x (x-1)) (jU x) p) p aD aD aC aC),iX 0 (a.length) aC,.c (y3 (rJ (a.getD x gU) (jj (rh a (iU (mG a p) x) p x (x-1)) (jU x) p) p) (a.getD 0 gU) p aD aD aC aC),.o 73 (.e (lG _):aj (.sl true 1 7 λi_ j_=>(iF (jj (rJ (a.getD x gU) (jj (rh a (iU (mG a p) x) p x (x-1)) (jU x) p) p) (a.getD 0 gU) p)).getD (i_*7+j_) (.v (.bool false))) (gZ [jj (rJ (a.getD x gU) (jj (rh a (iU (mG a p) x) p x (x-1)) (jU x) p) p) (a.getD 0 gU) p])),.a (aC:(x+[jj (rJ (a.getD x gU) (jj (rh a (iU (mG a p) x) p x (x-1)) (jU x) p) p) (a.getD 0 gU) p].length)*88<=140737488355328),ik ((x:Int)+1) aC]<|.e (af [.b 15 (aiO rfl (by unfold mG;rw[aY aC]):Bx.le (.row true 44 (x+[jj (rJ (a.getD x gU) (jj (rh a (iU (mG a p) x) p x (x-1)) (jU x) p) p) (a.getD 0 gU) p].length) 7 (λi_ j_=>if i_<x then(iG (iU (mG a p) x)) i_ j_ else(E.kJ (gZ [jj (rJ (a.getD x gU) (jj (rh a (iU (mG a p) x) p x (x-1)) (jU x) p) p) (a.getD 0 gU) p])) (i_-x) j_)) (.row true 44 (x+1) 7 (iG (iU (mG a p) (x+1)))))])) aF)
  (λhx=>by
    exact iB (ae [tF 27 ((a.length:Int)<a.length) aC,.z 15]<|.e (af [.o 5 (.e (Ba (xZ _ _).symm):aj (.sl true a.length 7 (iG (iU (mG a p) a.length))) (gZ (iU (mG a p) a.length)))])) aF) aI:jD 6 f168 (XP a p 1) (.exit 0) ⟨76,true,[(5,.e (gZ (iU (mG a p) a.length)))],[]⟩) (af [.b 15 (aiN rfl:Bx.le (.row true 44 (0+[uE (a.getD 0 gU) p].length) 7 (λi_ j_=>if i_<0 then(λ_ j_=>au.getD j_ .any) i_ j_ else(E.kJ (gZ [uE (a.getD 0 gU) p])) (i_-0) j_)) (.row true 44 1 7 (iG (iU (mG a p) 1))))])]<|rR (gZ (DT a p)) (.iM rfl:E.le (gZ (iU (mG a p) a.length)) (gZ (DT a p)))) 
def ajY(a out:List Iv)(i k p m:Nat)(T4:1<=i)(hi:i<=k)(hk:k<a.length)(hm:k<=m)(l17:a.length<=17)(va:lY a)(vo:lY out)(ic:8<=p)(gX:p<=512):gR 207 [iP i,(.iN 1 λj_=>[gZ a].getD j_ .any),(.iN 1 λj_=>[iP p].getD j_ .any),(.iN 1 λj_=>[.sl true m 7 (iG out)].getD j_ .any),(.iN 1 λj_=>[iP k].getD j_ .any)] (ib (iz (iz (jU i) (a.getD i gU) p) (out.getD (k-i) gU) p)):=by
 have v1:=va i;have v2:=vo (k-i);have v3:=yb i aC;have v4:(iz (jU i) (a.getD i gU) p).gY:=og _ _ aC aC;exact ak call207 func207 (af [.c (Bc i aC),iX (i:Int) (a.length) aC,.c (tp (jU i) (a.getD i gU) p aD aD aC aC),ik ((k:Int)-i) aC,.o 18 (aq ((k:Int)-i) ((k-i:Nat):Int) aC),iX ((k-i:Nat):Int) m aC,.c (tp (iz (jU i) (a.getD i gU) p) (out.getD (k-i) gU) p aD aD aC aC)]) 
def XV(a out:List Iv)(k p m:Nat)(oe:1<=k)(hk:k<a.length)(hm:k<=m)(l17:a.length<=17)(va:lY a)(vo:lY out)(ic:8<=p)(gX:p<=512):gR 206 [.sl true m 7 (iG out),(.iN 1 λj_=>[iP k].getD j_ .any),(.iN 1 λj_=>[iP p].getD j_ .any),(.iN 1 λj_=>[gZ a].getD j_ .any)] (ib (qG a p k out)):=by
 have vs:=GV (aC:1<=p) (aC:p<=4096) (T:=(λi=>(iz (iz (jU i) (a.getD i gU) p) (out.getD (k-i) gU) p))) (a:=1) (k-1) λ_ _ _=>og _ _ aC aC 
 have vw:=yb k aC;exact ak call206 func206 (ae [.c (Ko 1 (k-1) p _ aC _ _ (λi=>(iz (iz (jU i) (a.getD i gU) p) (out.getD (k-i) gU) p)) aC ic gX λi h1 h2=>⟨og _ _ aC aC,ajY a out i k p m h1 aC hk hm l17 va vo ic gX⟩:gR 192 [iP 1,iP k,iP p,.fn 207 [(.iN 1 λj_=>[gZ a].getD j_ .any),(.iN 1 λj_=>[iP p].getD j_ .any),(.iN 1 λj_=>[.sl true m 7 (iG out)].getD j_ .any),(.iN 1 λj_=>[iP k].getD j_ .any)]] _),.c (Bc k aC),.c (y3 (lV p (λi=>(iz (iz (jU i) (a.getD i gU) p) (out.getD (k-i) gU) p)) 1 (k-1)) (jU k) p aD aD aC aC)]<|rR (ib (qG a p k out)) (.iM rfl:E.le (ib (jj (lV p (λi=>(iz (iz (jU i) (a.getD i gU) p) (out.getD (k-i) gU) p)) 1 (k-1)) (jU k) p)) (ib (qG a p k out)))) 
def XE{T y:Nat}{xs:List Iv}{v:Iv}(h:xs.length=y+1):Bx.le (.row true T ((y+1)+[v].length) 7 λi j=>if i<y+1 then iG xs i j else(E.kJ (gZ [v])) (i-(y+1)) j) (.row true T (y+1+1) 7 (iG (xs++[v]))):=by
 have e:=JC (T:=T) (n:=y+1) (xs:=xs) (y:=v) h.symm;have e2:(xs++[v]).length=y+1+1:=by simp[h]
 rw[e2]at e;exact e
def XD{T:Nat}{v:Iv}{e:Nat->Nat->E}:Bx.le (.row true T (0+[v].length) 7 λa j=>if a<0 then e a j else(E.kJ (gZ [v])) (a-0) j) (.row true T (0+1) 7 (iG [v])):=.row rfl λi j hi hj=>by
 have hi:i<0+1:=hi;obtain rfl:i=0:= aC ;exact⟨.iM rfl,tn _ _ hj⟩
def XY(a:List Iv)(n p:Nat)(h1:1<=n)(np:n<=17)(ha:kA n a)(ic:8<=p)(gX:p<=512)(hF:uq):gR 169 [gZ a,iP p] (.ig [gZ (lE a p (a.length-1)).1,gZ (lE a p (a.length-1)).2]):=by
 have la:=ha.len;have va0:=ha.ok 0;have pz:=GL (aC:1<=p) (aC:p<=4096) a (a.length-1);have afu:=pE (uF (a.getD 0 gU) p);have afv:=pE (uC (a.getD 0 gU) p);exact ak call169 func169 (ae [.o 11 (.e (Ct _):aj (.sl true 1 1 λi_ j_=>[gZ a].getD (i_*1+j_) (.v (.bool false))) (kS [a])),.c (wE [a] n aC aC aH (Bq aD)),.a (aC:0<=(0:Int)/\(0:Int)<=((a.length:Int):Int)),.a (aC:((88:Nat):Int)*(a.length:Int)<=281474976710656/\((a.length:Int):Int)<=9223372036854775807),
  iX 0 (a.length) aC,ag [ib (a.getD 0 gU),iP p] (SD _ aD _ aC aC hF),.o 22 (.e (lG _):aj (.sl true 1 7 λi_ j_=>(iF (uF (a.getD 0 gU) p)).getD (i_*7+j_) (.v (.bool false))) (gZ [uF (a.getD 0 gU) p])),.a (aC:(0+[uF (a.getD 0 gU) p].length)*88<=140737488355328),.a (aC:0<=(0:Int)/\(0:Int)<=((a.length:Int):Int)),.a (aC:((88:Nat):Int)*(a.length:Int)<=281474976710656/\((a.length:Int):Int)<=9223372036854775807),iX 0 (a.length) aC,ag [ib (a.getD 0 gU),iP p] (Sz _ aD _ aC aC hF),.o 32 (.e (lG _):aj (.sl true 1 7 λi_ j_=>(iF (uC (a.getD 0 gU) p)).getD (i_*7+j_) (.v (.bool false))) (gZ [uC (a.getD 0 gU) p])),.a (aC:(0+[uC (a.getD 0 gU) p].length)*88<=140737488355328),.s (Sp.jH (X0 a p) 0 (a.length-1) aC (λy hy amr=>by
    have pz:=GL (aC:1<=p) (aC:p<=4096) a y;have vp:=Oy (aC:1<=p) (aC:p<=4096) a (lE a p y).1 (y+1);have afu:=pE (qG a p (y+1) (lE a p y).2);have afv:=pE (pD (qG a p (y+1) (lE a p y).1));exact iB (ae [tT 37 (((y+1:Nat):Int)<a.length) aC,ag [.sl true (y+1) 7 (iG (lE a p y).2),(.iN 1 λj_=>[iP ((y+1:Nat):Int)].getD j_ .any),(.iN 1 λj_=>[iP p].getD j_ .any),(.iN 1 λj_=>[gZ a].getD j_ .any)] (XV a (lE a p y).2 (y+1) p _ aC aC aC aC ha.ok pz.2.ok ic gX),.a (F2 _:vy (ib (qG a p (y+1) (lE a p y).2))),ag [.sl true (y+1) 7 (iG (lE a p y).1),(.iN 1 λj_=>[iP ((y+1:Nat):Int)].getD j_ .any),(.iN 1 λj_=>[iP p].getD j_ .any),(.iN 1 λj_=>[gZ a].getD j_ .any)] (XV a (lE a p y).1 (y+1) p _ aC aC aC aC ha.ok pz.1.ok ic gX),.a (F2 _:vy (ib (qG a p (y+1) (lE a p y).1))),.c (Jz (qG a p (y+1) (lE a p y).1) aD),.o 50 (.e (lG _):aj (.sl true 1 7 λi_ j_=>(iF (qG a p (y+1) (lE a p y).2)).getD (i_*7+j_) (.v (.bool false))) (gZ [qG a p (y+1) (lE a p y).2])),.a (aC:((y+1)+[qG a p (y+1) (lE a p y).2].length)*88<=140737488355328),.o 54 (.e (lG _):aj (.sl true 1 7 λi_ j_=>(iF (pD (qG a p (y+1) (lE a p y).1))).getD (i_*7+j_) (.v (.bool false))) (gZ [pD (qG a p (y+1) (lE a p y).1)])),.a (aC:((y+1)+[pD (qG a p (y+1) (lE a p y).1)].length)*88<=140737488355328),ik (((y+1:Nat):Int)+1) aC]<|.e (af [.b 26 (XE pz.2.len:Bx.le (.row true 44 ((y+1)+[pD (qG a p (y+1) (lE a p y).1)].length) 7 (λi_ j_=>if i_<(y+1)then(iG (lE a p y).2) i_ j_ else(E.kJ (gZ [pD (qG a p (y+1) (lE a p y).1)])) (i_-(y+1)) j_)) (.row true 44 ((y+1)+1) 7 (iG (lE a p (y+1)).2))),.b 16 (XE pz.1.len:Bx.le (.row true 44 ((y+1)+[qG a p (y+1) (lE a p y).2].length) 7 (λi_ j_=>if i_<(y+1)then(iG (lE a p y).1) i_ j_ else(E.kJ (gZ [qG a p (y+1) (lE a p y).2])) (i_-(y+1)) j_)) (.row true 44 ((y+1)+1) 7 (iG (lE a p (y+1)).1)))])) aF)
  (λhy=>by
    exact iB (af [tF 37 ((((a.length-1)+1:Nat):Int)<a.length) aC]) aF) aI:jD 6 f169 (X0 a p 0) (.exit 0) ⟨59,true,[(5,.own 26),(4,.own 16)],[(26,.row true 44 ((a.length-1)+1) 7 (iG (lE a p (a.length-1)).2)),(16,.row true 44 ((a.length-1)+1) 7 (iG (lE a p (a.length-1)).1))]⟩) (af [.b 6 (.iM rfl:Bx.le (.cells 3 [iP 1]) (.cells 3 [iP ((0+1:Nat):Int)])),.b 26 (XD:Bx.le (.row true 44 (0+[uC (a.getD 0 gU) p].length) 7 (λi_ j_=>if i_<0 then(λ_ j_=>au.getD j_ .any) i_ j_ else(E.kJ (gZ [uC (a.getD 0 gU) p])) (i_-0) j_)) (.row true 44 (0+1) 7 (iG (lE a p 0).2))),.b 16 (XD:Bx.le (.row true 44 (0+[uF (a.getD 0 gU) p].length) 7 (λi_ j_=>if i_<0 then(λ_ j_=>au.getD j_ .any) i_ j_ else(E.kJ (gZ [uF (a.getD 0 gU) p])) (i_-0) j_)) (.row true 44 (0+1) 7 (iG (lE a p 0).1)))])]<|rR (.ig [gZ (lE a p (a.length-1)).1,gZ (lE a p (a.length-1)).2]) (.ig (.cons (Ba (by rw[pz.1.len])) (.cons (Ba (by rw[pz.2.len])) .nil)):E.le (.ig [.sl true ((a.length-1)+1) 7 (iG (lE a p (a.length-1)).1),.sl true ((a.length-1)+1) 7 (iG (lE a p (a.length-1)).2)]) (.ig [gZ (lE a p (a.length-1)).1,gZ (lE a p (a.length-1)).2]))) 
def aj3(out:List Iv)(i k p m:Nat)(T4:1<=i)(hi:i<k)(hm:k<=m)(k17:k<=17)(vo:lY out)(ic:8<=p)(gX:p<=512):gR 210 [iP i,(.iN 1 λ_=>.sl true m 7 (iG out)),(.iN 1 λj_=>[iP k].getD j_ .any),(.iN 1 λj_=>[iP p].getD j_ .any)] (ib (iz (out.getD i gU) (out.getD (k-i) gU) p)):=by
 have v1:=vo i;have v2:=vo (k-i);exact ak call210 func210 (af [iX (i:Int) m aC,ik ((k:Int)-i) aC,.o 13 (aq ((k:Int)-i) ((k-i:Nat):Int) aC),
  iX ((k-i:Nat):Int) m aC,.c (tp (out.getD i gU) (out.getD (k-i) gU) p aD aD aC aC)]) 
def aj4(a:List Iv)(n p:Nat)(h1:1<=n)(np:n<=17)(ha:kA n a)(ic:8<=p)(gX:p<=512)(hF:uq):gR 170 [gZ a,iP p] (gZ (Bg a p)):=by
 have la:=ha.len;have va0:=ha.ok 0;have pf:(λ_:Nat=>(0:Nat)) 0=0:=rfl;have Uk:=pE (o9 (a.getD 0 gU) p);exact ak call170 func170 (ae [.o 10 (.e (Ct _):aj (.sl true 1 1 λi_ j_=>[gZ a].getD (i_*1+j_) (.v (.bool false))) (kS [a])),.c (wE [a] n aC aC aH (Bq aD)),.a (aC:0<=(0:Int)/\(0:Int)<=((a.length:Int):Int)),.a (aC:((88:Nat):Int)*(a.length:Int)<=281474976710656/\((a.length:Int):Int)<=9223372036854775807),.a (aC:0<1),
  iX 0 (a.length) aC,ag [ib (a.getD 0 gU),iP p] (SG _ aD _ aC aC hF),.o 22 (.e (lG _):aj (.sl true 1 7 λi_ j_=>(iF (o9 (a.getD 0 gU) p)).getD (i_*7+j_) (.v (.bool false))) (gZ [o9 (a.getD 0 gU) p])),.a (aC:0<1),.a (aC:((λ_=>0) 0+[o9 (a.getD 0 gU) p].length)*88<=140737488355328),.a (rfl:0=0),.a (rfl:0=0),.a (aC:0<1),.a (aC:0<1),.a (aC:0<1),.a (aH:0<=(0:Int)/\(0:Int)<(((λq=>if q=0 then(λ_=>0) q+[o9 (a.getD 0 gU) p].length else(λ_=>0) q) 0:Nat):Int)),.a (aC:0<1),.a (aH:0<(λq=>if q=0 then(λ_=>0) q+[o9 (a.getD 0 gU) p].length else(λ_=>0) q) 0),.c (Hy ([o9 (a.getD 0 gU) p].getD 0 gU) (Fc _ _) 1 aE aE),.s (Sp.jH (X1 a p) 1 a.length aC (λx hx mw=>by
    have nS:(λ_:Nat=>x) 0=x:=rfl;have pz:kA x (iU (nQ a p) x):=A7 x λk l _ _=>by unfold nQ;split<;>first|exact Fc _ _|exact qc _ _ aC aC 
    have vls:=JE (aC:1<=p) (aC:p<=4096) (ha.ok x) (T:=(λi=>iz ((iU (nQ a p) x).getD i gU) ((iU (nQ a p) x).getD (x-i) gU) p)) (a:=1) (x-1) λ_ _ _=>og _ _ aC aC 
    have vx:=ha.ok x;have vsc:(lK (o9 (a.getD 0 gU) p) 1).gY:=GN (Fc _ _) 1;have rE:=pE (jj (oY p (a.getD x gU) (λi=>iz ((iU (nQ a p) x).getD i gU) ((iU (nQ a p) x).getD (x-i) gU) p) 1 (x-1)) (lK (o9 (a.getD 0 gU) p) 1) p);exact iB (ae [tT 31 ((x:Int)<a.length) aC,iX (x:Int) (a.length) aC,ik ((x:Int)-1) aC,.c (XO _ (ha.ok x) 1 (x-1) p _ aC _ _ (λi=>iz ((iU (nQ a p) x).getD i gU) ((iU (nQ a p) x).getD (x-i) gU) p) aC ic gX λi h1 h2=>⟨og _ _ aC aC,aj3 _ i x p _ h1 aC aC aC pz.ok ic gX⟩:gR 194 [ib (a.getD x gU),iP 1,iP ((x:Int)-1),iP p,.fn 210 [(.iN 1 λ_=>(.sl true ((λ_=>x) 0) 7 ((λ_=>iG (iU (nQ a p) x)) 0))),(.iN 1 λj_=>[iP x].getD j_ .any),(.iN 1 λj_=>[iP p].getD j_ .any)]] _),.a (F2 _:vy (ib (oY p (a.getD x gU) (λi=>iz ((iU (nQ a p) x).getD i gU) ((iU (nQ a p) x).getD (x-i) gU) p) 1 (x-1)))),.a (aC:0<1),.c (y3 (oY p (a.getD x gU) (λi=>iz ((iU (nQ a p) x).getD i gU) ((iU (nQ a p) x).getD (x-i) gU) p) 1 (x-1)) (lK (o9 (a.getD 0 gU) p) 1) p aD aD aC aC),.o 48 (.e (lG _):aj (.sl true 1 7 λi_ j_=>(iF (jj (oY p (a.getD x gU) (λi=>iz ((iU (nQ a p) x).getD i gU) ((iU (nQ a p) x).getD (x-i) gU) p) 1 (x-1)) (lK (o9 (a.getD 0 gU) p) 1) p)).getD (i_*7+j_) (.v (.bool false))) (gZ [jj (oY p (a.getD x gU) (λi=>iz ((iU (nQ a p) x).getD i gU) ((iU (nQ a p) x).getD (x-i) gU) p) 1 (x-1)) (lK (o9 (a.getD 0 gU) p) 1) p])),.a (aC:0<1),.a (aC:((λ_=>x) 0+[jj (oY p (a.getD x gU) (λi=>iz ((iU (nQ a p) x).getD i gU) ((iU (nQ a p) x).getD (x-i) gU) p) 1 (x-1)) (lK (o9 (a.getD 0 gU) p) 1) p].length)*88<=140737488355328),.a (rfl:0=0),.a (rfl:0=0),.a (aC:0<1),ik ((x:Int)+1) aC]<|.e (af [.b 5 (OR (by unfold nQ;rw[aY aC]):Bx.le (.jC true 26 44 1 7 (λq=>if q=0 then(λ_=>x) q+[jj (oY p (a.getD x gU) (λi=>iz ((iU (nQ a p) x).getD i gU) ((iU (nQ a p) x).getD (x-i) gU) p) 1 (x-1)) (lK (o9 (a.getD 0 gU) p) 1) p].length else(λ_=>x) q) (λq i j=>if q=0 then(if i<(λ_=>x) q then(λ_=>iG (iU (nQ a p) x)) q i j else(E.kJ (gZ [jj (oY p (a.getD x gU) (λi=>iz ((iU (nQ a p) x).getD i gU) ((iU (nQ a p) x).getD (x-i) gU) p) 1 (x-1)) (lK (o9 (a.getD 0 gU) p) 1) p])) (i-(λ_=>x) q) j)else(λ_=>iG (iU (nQ a p) x)) q i j) .none) (.jC true 26 44 1 7 (λ_=>(x+1)) (λ_=>iG (iU (nQ a p) (x+1))) .none))])) aF)
  (λhx=>by
    exact iB (af [tF 31 ((a.length:Int)<a.length) aC]) aF) aI:jD 7 f170 (X1 a p 1) (.exit 0) ⟨52,true,[(5,.mT 5 1 0 0)],[(5,.jC true 26 44 1 7 (λ_=>a.length) (λ_=>iG (iU (nQ a p) a.length)) .none)]⟩) (af [.b 5 (Xf rfl:Bx.le (.jC true 26 44 1 7 (λq=>if q=0 then(λ_=>0) q+[o9 (a.getD 0 gU) p].length else(λ_=>0) q) (λq i j=>if q=0 then(if i<(λ_=>0) q then(λ_=>λ_ j_=>au.getD j_ .any) q i j else(E.kJ (gZ [o9 (a.getD 0 gU) p])) (i-(λ_=>0) q) j)else(λ_=>λ_ j_=>au.getD j_ .any) q i j) .none) (.jC true 26 44 1 7 (λ_=>1) (λ_=>iG (iU (nQ a p) 1)) .none))]),.a (aC:0<1)]<|rR (gZ (Bg a p)) (Ba (xs:=Bg a p) (by unfold Bg;rw[xZ]):E.le (.sl true ((λ_=>a.length) 0) 7 ((λ_=>iG (iU (nQ a p) a.length)) 0)) (gZ (Bg a p)))) 
def GO(o:mL)(a b:List Iv)(n p:Nat)(h1:1<=n)(np:n<=17)(ha:kA n a)(hb:kA n b)(ic:8<=p)(gX:p<=512)(r1:3<=o.kind)(r2:o.kind<=13)(r3:o.n<=16)(hF:o.kind<=8\/uq):gR 120 [iP o.kind,iP o.n,gZ a,gZ b,iP p] (gZ (nd o a b p)):=
 ak call120 func120 (.w ((o.kind:Int)=3)
  (λk1=>ae [tB 17 (aU k1),.c (ajP a b n p h1 np ha hb ic gX)]<|rQ (gZ (C3 a b p)) (gZ (nd o a b p)) (by unfold nd;simp[(aC:o.kind=3)]))
  (λk1=>ae [tB 17 (aT k1)]<|.w ((o.kind:Int)=4)
   (λk2=>ae [tB 23 (aU k2),.c (aj6 a b n p h1 np ha hb ic gX)]<|rQ (gZ (Eh a b p)) (gZ (nd o a b p)) (by unfold nd;simp[(aC:¬o.kind=3),(aC:o.kind=4)]))
   (λk2=>ae [tB 23 (aT k2)]<|.w ((o.kind:Int)=5)
    (λk3=>ae [tB 29 (aU k3),.c (ajV a b n p h1 np ha hb ic gX)]<|rQ (gZ (sN a b p)) (gZ (nd o a b p)) (by unfold nd;simp[(aC:¬o.kind=3),(aC:¬o.kind=4),(aC:o.kind=5)]))
    (λk3=>ae [tB 29 (aT k3)]<|.w ((o.kind:Int)=6)
     (λk4=>ae [tB 35 (aU k4),.c (ajR a b n p h1 np ha hb ic gX)]<|rQ (gZ (Ae a b p)) (gZ (nd o a b p)) (by unfold nd;simp[(aC:¬o.kind=3),(aC:¬o.kind=4),(aC:¬o.kind=5),(aC:o.kind=6)]))
     (λk4=>ae [tB 35 (aT k4)]<|.w ((o.kind:Int)=7)
      (λk5=>ae [tB 41 (aU k5),.c (ajX a n h1 np ha)]<|rQ (gZ (DY a)) (gZ (nd o a b p)) (by unfold nd;simp[(aC:¬o.kind=3),(aC:¬o.kind=4),(aC:¬o.kind=5),(aC:¬o.kind=6),(aC:o.kind=7)]))
      (λk5=>ae [tB 41 (aT k5)]<|.w ((o.kind:Int)=8)
       (λk6=>ae [tB 45 (aU k6),ag [gZ a,iP o.n,iP p] (aj2 a n p o.n h1 np ha ic gX r3)]<|rQ (gZ (sQ a o.n p)) (gZ (nd o a b p)) (by unfold nd;simp[(aC:¬o.kind=3),(aC:¬o.kind=4),(aC:¬o.kind=5),(aC:¬o.kind=6),(aC:¬o.kind=7),(aC:o.kind=8)]))
       (λk6=>ae [tB 45 (aT k6)]<|.w ((o.kind:Int)=9)
        (λk7=>ae [tB 51 (aU k7),.c (ajT a n p h1 np ha ic gX (hF.resolve_left aC))]<|rQ (gZ (Ai a p)) (gZ (nd o a b p)) (by unfold nd;simp[(aC:¬o.kind=3),(aC:¬o.kind=4),(aC:¬o.kind=5),(aC:¬o.kind=6),(aC:¬o.kind=7),(aC:¬o.kind=8),(aC:o.kind=9)]))
        (λk7=>ae [tB 51 (aT k7)]<|.w ((o.kind:Int)=10)
         (λk8=>ae [tB 56 (aU k8),.c (ajU a n p h1 np ha ic gX (hF.resolve_left aC))]<|rQ (gZ (DT a p)) (gZ (nd o a b p)) (by unfold nd;simp[(aC:¬o.kind=3),(aC:¬o.kind=4),(aC:¬o.kind=5),(aC:¬o.kind=6),(aC:¬o.kind=7),(aC:¬o.kind=8),(aC:¬o.kind=9),(aC:o.kind=10)]))
         (λk8=>ae [tB 56 (aT k8)]<|.w ((o.kind:Int)=11)
          (λk9=>ae [tB 61 (aU k9),.c (XY a n p h1 np ha ic gX (hF.resolve_left aC))]<|rQ (gZ ((lE a p (a.length-1)).1)) (gZ (nd o a b p)) (by unfold nd;simp[(aC:¬o.kind=3),(aC:¬o.kind=4),(aC:¬o.kind=5),(aC:¬o.kind=6),(aC:¬o.kind=7),(aC:¬o.kind=8),(aC:¬o.kind=9),(aC:¬o.kind=10),(aC:o.kind=11)]))
          (λk9=>ae [tB 61 (aT k9)]<|.w ((o.kind:Int)=12)
           (λk10=>ae [tB 70 (aU k10),.c (XY a n p h1 np ha ic gX (hF.resolve_left aC))]<|rQ (gZ ((lE a p (a.length-1)).2)) (gZ (nd o a b p)) (by unfold nd;simp[(aC:¬o.kind=3),(aC:¬o.kind=4),(aC:¬o.kind=5),(aC:¬o.kind=6),(aC:¬o.kind=7),(aC:¬o.kind=8),(aC:¬o.kind=9),(aC:¬o.kind=10),(aC:¬o.kind=11),(aC:o.kind=12)]))
           (λk10=>ae [tB 70 (aT k10)]<|.w ((o.kind:Int)=13)
            (λk11=>ae [tB 79 (aU k11),.c (aj4 a n p h1 np ha ic gX (hF.resolve_left aC))]<|rQ (gZ (Bg a p)) (gZ (nd o a b p)) (by unfold nd;simp[(aC:¬o.kind=3),(aC:¬o.kind=4),(aC:¬o.kind=5),(aC:¬o.kind=6),(aC:¬o.kind=7),(aC:¬o.kind=8),(aC:¬o.kind=9),(aC:¬o.kind=10),(aC:¬o.kind=11),(aC:¬o.kind=12),(aC:o.kind=13)]))
            (λk11=>.x aC)))))))))))) 
noncomputable def Ve(t:pt)(ie:List (List Iv))(k p:Nat)(x:Nat):PS:=⟨98,true,[(21,.e (iP x)),(20,.e (iP t.gT.length)),(19,.e (kH t.gT)),(9,.own 15),(4,.box 4 0),(2,.e (iP k)),(3,.e (iP p))],[(15,.row true 26 ((iL t.gT ie k p x).length) 1 (mc (iL t.gT ie k p x))),(4,.cells 25 [iP t.ie,kH t.gT,kG t.iw])]⟩
noncomputable def Vf(t:pt)(ie:List (List Iv))(k p:Nat)(x:Nat):PS:=⟨98,true,[(12,.own 12),(85,.e (iP x)),(84,.e (iP t.iw.length)),(83,.e (kG t.iw)),(9,.own 15)],[(12,.row true 26 (((t.iw.take x).map λj=>(iL t.gT ie k p t.gT.length).getD j []).length) 1 (mc ((t.iw.take x).map λj=>(iL t.gT ie k p t.gT.length).getD j []))),(15,.row true 26 ((iL t.gT ie k p t.gT.length).length) 1 (mc (iL t.gT ie k p t.gT.length)))]⟩
abbrev Vs(n:Nat)(M:List (List Iv)):E:=.nf false true n 1 λk _=>.nf true true (mO M k) 7 (oi M k)
def Vc(s:jB)(n:Nat)(M:List (List Iv))(k:Nat)(x:Nat):PS:=⟨43,true,[(7,.own 7),(14,.e (iP x)),(13,.e (iP n)),(12,.e (Vs n M)),(3,.box 3 0),(2,.e (iP k))],[(7,.row true 26 (((M.take x).map λc=>c.take (k+1)).length) 1 (mc ((M.take x).map λc=>c.take (k+1)))),(3,.cells 28 [iP s.tape.ie,kH s.tape.gT,kG s.tape.iw,iP s.iI,gZ s.params])]⟩
def Vd(s:jB)(n:Nat)(M:List (List Iv))(k:Nat)(x:Nat):PS:=⟨43,true,[(31,.e (iP x)),(30,.e (iP s.params.length)),(29,.e (gZ s.params)),(7,.own 7),(2,.e (iP k))],[(7,.row true 26 (((M.map λc=>c.take (k+1))++(s.params.take x).map λa=>nJ a k).length) 1 (mc ((M.map λc=>c.take (k+1))++(s.params.take x).map λa=>nJ a k)))]⟩
noncomputable def nx(s:jB)(x:List Iv)(p n i:Nat):List (List Iv):=(List.range x.length).map λq=>(je s x p n).getD q []++(if q<i then[Cx s (je s x p n) p n q]else[])
def Vh(s:jB)(x:List Iv)(k p:Nat)(w:Nat):PS:=⟨72,true,[(9,.own 9),(18,.e (iP w)),(17,.e (iP x.length)),(16,.e (gZ x)),(4,.box 4 0),(2,.e (iP k)),(3,.e (iP p))],[(9,.jC true 26 44 w 7 (mO (x.map λy=>[y])) (oi (x.map λy=>[y])) .none),(4,.cells 28 [iP s.tape.ie,kH s.tape.gT,kG s.tape.iw,iP s.iI,gZ s.params])]⟩
noncomputable def Vi(s:jB)(x:List Iv)(k p:Nat)(m:Nat):PS:=⟨72,true,[(29,.e (iP m)),(28,.e (iP k)),(9,.own 9),(4,.box 4 0),(3,.e (iP p))],[(9,.jC true 26 44 x.length 7 (mO (je s x p m)) (oi (je s x p m)) .none),(4,.cells 28 [iP s.tape.ie,kH s.tape.gT,kG s.tape.iw,iP s.iI,gZ s.params])]⟩
noncomputable def Vj(s:jB)(x:List Iv)(k p m:Nat)(w:Nat):PS:=⟨72,true,[(47,.e (iP w)),(46,.e (iP x.length)),(14,.box 14 0),(13,.e (kS (qT s.tape (qj s (je s x p m) m) m p))),(12,.e (iP m)),(29,.e (iP m)),(28,.e (iP k)),(9,.own 9),(4,.box 4 0),(3,.e (iP p))],[(14,.cells 44 (iF (jU (m+1)))),(9,.jC true 26 44 x.length 7 (mO (nx s x p m w)) (oi (nx s x p m w)) .none),(4,.cells 28 [iP s.tape.ie,kH s.tape.gT,kG s.tape.iw,iP s.iI,gZ s.params])]⟩
def y7{T n n':Nat}{M M':List (List Iv)}{r:List Iv}{p:E}(hn:n=M.length)(tX:n'=M'.length)(hp:∀ j,j<1->p.kJ 0 j=gZ r)(hM:M'=M++[r]):
 Bx.le (.row true T (n+1) 1 λi j=>if i<n then mc M i j else(E.kJ p) (i-n) j) (.row true T n' 1 (mc M')):=by
 subst hM tX;exact ahd hn rfl hp
def ahb{T n n':Nat}{M:List (List Iv)}{e:Nat->Nat->E}(hn:n=M.length)(tX:n'=M.length):Bx.le (.row true T (0+n) 1 λi j=>if i<0 then e i j else(E.kJ (kS M)) (i-0) j) (.row true T n' 1 (mc M)):=by
 subst tX;refine .row aC λi j hi hj=>?_
 rw[aY (bn i),dt];exact⟨.iM rfl,Va _⟩
def VS{T n:Nat}{e:Nat->Nat->E}{M:List (List Iv)}(h:M=[])(hn:n=M.length):Bx.le (.row true T 0 1 e) (.row true T n 1 (mc M)):=by
 subst hn h;exact .row rfl λi j hi=>absurd hi (bn i)
def NK{α β:Type}(f:α->β)(l:List α)(d:α){x:Nat}(hx:x<l.length):(l.take (x+1)).map f=(l.take x).map f++[f (l.getD x d)]:=by
 rw[amY,bt hx,fC];congr 1;rw[bd,bt hx];rfl
def agl(t:pt)(ie:List (List Iv))(k p:Nat)(h:yl t)(hi:vC (k+1) ie)(hl:ie.length=t.ie)(hk:k<=16)(ic:8<=p)(gX:p<=512):gR 71 [GW t,kS ie,iP k,iP p] (kS (qT t ie k p)):=by
 have h8:=h.ie;have DG:=h.gT;have amy:=h.iw;have Jd:=GK (p:=p) t.gT ie k t.gT.length;exact ak call71 func71 (ae [.bo,.a (aC:(0+ie.length)*24<=140737488355328),.s (Sp.jH (Ve t ie k p) 0 t.gT.length aC (λx hx mw=>by
    have il:=h.op x aC;have Jd:=GK (p:=p) t.gT ie k x;have pz:=Kj (aC:1<=p) (aC:p<=4096) h hi hl x aC;by_cases oe:((t.gT.getD x iy)).kind=1
    .have pA:(iL t.gT ie k p (x+1))=(iL t.gT ie k p x)++[qF (t.gT.getD x iy) (iL t.gT ie k p x) k p]:=rfl;have nN:((t.gT.getD x iy)).kind=1:=oe;obtain⟨o1,o2,o3,sG⟩:=il.num nN;rw[show qF (t.gT.getD x iy) (iL t.gT ie k p x) k p=(nJ (qK (t.gT.getD x iy).cn (t.gT.getD x iy).cd p) k)by unfold qF;rw[aZ nN]]at pA;exact iB (ae [tT 22 ((x:Int)<t.gT.length) aC,iX (x:Int) (t.gT.length) aC,ah 47 (((t.gT.getD x iy).kind:Int)==1) (aU aC),.c (W3 ((t.gT.getD x iy).cn) ((t.gT.getD x iy).cd) p aD aC aC),.c (XI (qK ((t.gT.getD x iy).cn) ((t.gT.getD x iy).cd) p) (O8 _ _ aC aC) k aC),.a (aC:((iL t.gT ie k p x).length+1)*24<=140737488355328),ik ((x:Int)+1) aC]<|.e (af [.b 15 (y7 rfl rfl (λj hj=>by obtain rfl:j=0:= aC;rfl) pA:Bx.le (.row true 26 ((iL t.gT ie k p x).length+1) 1 (λi_ j_=>if i_<(iL t.gT ie k p x).length then(mc (iL t.gT ie k p x)) i_ j_ else(E.kJ (.sl true 1 1 λi_ j_=>[gZ (nJ (qK ((t.gT.getD x iy).cn) ((t.gT.getD x iy).cd) p) k)].getD (i_*1+j_) (.v (.bool false)))) (i_-(iL t.gT ie k p x).length) j_)) (.row true 26 ((iL t.gT ie k p (x+1)).length) 1 (mc (iL t.gT ie k p (x+1)))))])) aF 
    .by_cases hk:((t.gT.getD x iy)).kind<=6
     .by_cases h3:((t.gT.getD x iy)).kind=3
      .have pA:(iL t.gT ie k p (x+1))=(iL t.gT ie k p x)++[qF (t.gT.getD x iy) (iL t.gT ie k p x) k p]:=rfl
       have oE:((t.gT.getD x iy)).kind≠1:=oe;have nN:((t.gT.getD x iy)).kind<=6:=hk;have I9:=il.wX;have Ja:=il.k3.resolve_left oE;have IY:=il.C1 oE;have Jl:=D3 il;have s1:=pz (t.gT.getD x iy).a aC;obtain⟨o1,o2,o3,o4,o5,o6⟩:=il.Br oE nN;have s2:=pz (t.gT.getD x iy).b aC;rw[show qF (t.gT.getD x iy) (iL t.gT ie k p x) k p=(nd (t.gT.getD x iy) ((iL t.gT ie k p x).getD (t.gT.getD x iy).a []) ((iL t.gT ie k p x).getD ((t.gT.getD x iy).b) []) p)by unfold qF xv;rw[aY oE,a6 nN];rfl]at pA;exact iB (ae [tT 22 ((x:Int)<t.gT.length) aC,iX (x:Int) (t.gT.length) aC,ai 47 (((t.gT.getD x iy).kind:Int)==1) (aT aC),ah 58 (((t.gT.getD x iy).kind:Int)==3) (aU aC),iX ((t.gT.getD x iy).a:Int) ((iL t.gT ie k p x).length) aC,.a (aC:(t.gT.getD x iy).a<(iL t.gT ie k p x).length),iX ((t.gT.getD x iy).b:Int) ((iL t.gT ie k p x).length) aC,.a (aC:(t.gT.getD x iy).b<(iL t.gT ie k p x).length),ag [iP ((t.gT.getD x iy).kind:Int),iP ((t.gT.getD x iy).n:Int),gZ ((iL t.gT ie k p x).getD ((t.gT.getD x iy).a) []),gZ ((iL t.gT ie k p x).getD ((t.gT.getD x iy).b) []),iP p] (GO (t.gT.getD x iy) _ _ (k+1) p aC aC aD aD ic gX aC aC aC il.f),.a (aC:((iL t.gT ie k p x).length+1)*24<=140737488355328),ik ((x:Int)+1) aC]<|.e (af [.b 15 (y7 rfl rfl (λj hj=>by obtain rfl:j=0:= aC;rfl) pA:Bx.le (.row true 26 ((iL t.gT ie k p x).length+1) 1 (λi_ j_=>if i_<(iL t.gT ie k p x).length then(mc (iL t.gT ie k p x)) i_ j_ else(E.kJ (.sl true 1 1 λi_ j_=>[gZ (nd (t.gT.getD x iy) ((iL t.gT ie k p x).getD ((t.gT.getD x iy).a) []) ((iL t.gT ie k p x).getD ((t.gT.getD x iy).b) []) p)].getD (i_*1+j_) (.v (.bool false)))) (i_-(iL t.gT ie k p x).length) j_)) (.row true 26 ((iL t.gT ie k p (x+1)).length) 1 (mc (iL t.gT ie k p (x+1)))))])) aF 
      .by_cases h4:((t.gT.getD x iy)).kind=4
       .have pA:(iL t.gT ie k p (x+1))=(iL t.gT ie k p x)++[qF (t.gT.getD x iy) (iL t.gT ie k p x) k p]:=rfl;have oE:((t.gT.getD x iy)).kind≠1:=oe;have nN:((t.gT.getD x iy)).kind<=6:=hk;have I9:=il.wX;have Ja:=il.k3.resolve_left oE;have IY:=il.C1 oE;have Jl:=D3 il;have s1:=pz (t.gT.getD x iy).a aC;obtain⟨o1,o2,o3,o4,o5,o6⟩:=il.Br oE nN;have s2:=pz (t.gT.getD x iy).b aC;rw[show qF (t.gT.getD x iy) (iL t.gT ie k p x) k p=(nd (t.gT.getD x iy) ((iL t.gT ie k p x).getD (t.gT.getD x iy).a []) ((iL t.gT ie k p x).getD ((t.gT.getD x iy).b) []) p)by unfold qF xv;rw[aY oE,a6 nN];rfl]at pA;exact iB (ae [tT 22 ((x:Int)<t.gT.length) aC,iX (x:Int) (t.gT.length) aC,ai 47 (((t.gT.getD x iy).kind:Int)==1) (aT aC),ai 58 (((t.gT.getD x iy).kind:Int)==3) (aT aC),ah 59 (((t.gT.getD x iy).kind:Int)==4) (aU aC),
         iX ((t.gT.getD x iy).a:Int) ((iL t.gT ie k p x).length) aC,.a (aC:(t.gT.getD x iy).a<(iL t.gT ie k p x).length),
         iX ((t.gT.getD x iy).b:Int) ((iL t.gT ie k p x).length) aC,.a (aC:(t.gT.getD x iy).b<(iL t.gT ie k p x).length),ag [iP ((t.gT.getD x iy).kind:Int),iP ((t.gT.getD x iy).n:Int),gZ ((iL t.gT ie k p x).getD ((t.gT.getD x iy).a) []),gZ ((iL t.gT ie k p x).getD ((t.gT.getD x iy).b) []),iP p] (GO (t.gT.getD x iy) _ _ (k+1) p aC aC aD aD ic gX aC aC aC il.f),.a (aC:((iL t.gT ie k p x).length+1)*24<=140737488355328),ik ((x:Int)+1) aC]<|.e (af [.b 15 (y7 rfl rfl (λj hj=>by obtain rfl:j=0:= aC;rfl) pA:Bx.le (.row true 26 ((iL t.gT ie k p x).length+1) 1 (λi_ j_=>if i_<(iL t.gT ie k p x).length then(mc (iL t.gT ie k p x)) i_ j_ else(E.kJ (.sl true 1 1 λi_ j_=>[gZ (nd (t.gT.getD x iy) ((iL t.gT ie k p x).getD ((t.gT.getD x iy).a) []) ((iL t.gT ie k p x).getD ((t.gT.getD x iy).b) []) p)].getD (i_*1+j_) (.v (.bool false)))) (i_-(iL t.gT ie k p x).length) j_)) (.row true 26 ((iL t.gT ie k p (x+1)).length) 1 (mc (iL t.gT ie k p (x+1)))))])) aF 
       .by_cases h5:((t.gT.getD x iy)).kind=5
        .have pA:(iL t.gT ie k p (x+1))=(iL t.gT ie k p x)++[qF (t.gT.getD x iy) (iL t.gT ie k p x) k p]:=rfl
         have oE:((t.gT.getD x iy)).kind≠1:=oe;have nN:((t.gT.getD x iy)).kind<=6:=hk;have I9:=il.wX;have Ja:=il.k3.resolve_left oE;have IY:=il.C1 oE;have Jl:=D3 il;have s1:=pz (t.gT.getD x iy).a aC;obtain⟨o1,o2,o3,o4,o5,o6⟩:=il.Br oE nN;have s2:=pz (t.gT.getD x iy).b aC;rw[show qF (t.gT.getD x iy) (iL t.gT ie k p x) k p=(nd (t.gT.getD x iy) ((iL t.gT ie k p x).getD (t.gT.getD x iy).a []) ((iL t.gT ie k p x).getD ((t.gT.getD x iy).b) []) p)by unfold qF xv;rw[aY oE,a6 nN];rfl]at pA;exact iB (ae [tT 22 ((x:Int)<t.gT.length) aC,iX (x:Int) (t.gT.length) aC,ai 47 (((t.gT.getD x iy).kind:Int)==1) (aT aC),ai 58 (((t.gT.getD x iy).kind:Int)==3) (aT aC),ai 59 (((t.gT.getD x iy).kind:Int)==4) (aT aC),ah 60 (((t.gT.getD x iy).kind:Int)==5) (aU aC),iX ((t.gT.getD x iy).a:Int) ((iL t.gT ie k p x).length) aC,.a (aC:(t.gT.getD x iy).a<(iL t.gT ie k p x).length),iX ((t.gT.getD x iy).b:Int) ((iL t.gT ie k p x).length) aC,.a (aC:(t.gT.getD x iy).b<(iL t.gT ie k p x).length),ag [iP ((t.gT.getD x iy).kind:Int),iP ((t.gT.getD x iy).n:Int),gZ ((iL t.gT ie k p x).getD ((t.gT.getD x iy).a) []),gZ ((iL t.gT ie k p x).getD ((t.gT.getD x iy).b) []),iP p] (GO (t.gT.getD x iy) _ _ (k+1) p aC aC aD aD ic gX aC aC aC il.f),.a (aC:((iL t.gT ie k p x).length+1)*24<=140737488355328),ik ((x:Int)+1) aC]<|.e (af [.b 15 (y7 rfl rfl (λj hj=>by obtain rfl:j=0:= aC;rfl) pA:Bx.le (.row true 26 ((iL t.gT ie k p x).length+1) 1 (λi_ j_=>if i_<(iL t.gT ie k p x).length then(mc (iL t.gT ie k p x)) i_ j_ else(E.kJ (.sl true 1 1 λi_ j_=>[gZ (nd (t.gT.getD x iy) ((iL t.gT ie k p x).getD ((t.gT.getD x iy).a) []) ((iL t.gT ie k p x).getD ((t.gT.getD x iy).b) []) p)].getD (i_*1+j_) (.v (.bool false)))) (i_-(iL t.gT ie k p x).length) j_)) (.row true 26 ((iL t.gT ie k p (x+1)).length) 1 (mc (iL t.gT ie k p (x+1)))))])) aF 
        .have pA:(iL t.gT ie k p (x+1))=(iL t.gT ie k p x)++[qF (t.gT.getD x iy) (iL t.gT ie k p x) k p]:=rfl;have oE:((t.gT.getD x iy)).kind≠1:=oe;have nN:((t.gT.getD x iy)).kind<=6:=hk;have I9:=il.wX;have Ja:=il.k3.resolve_left oE;have IY:=il.C1 oE;have Jl:=D3 il;have s1:=pz (t.gT.getD x iy).a aC;obtain⟨o1,o2,o3,o4,o5,o6⟩:=il.Br oE nN;have s2:=pz (t.gT.getD x iy).b aC;rw[show qF (t.gT.getD x iy) (iL t.gT ie k p x) k p=(nd (t.gT.getD x iy) ((iL t.gT ie k p x).getD (t.gT.getD x iy).a []) ((iL t.gT ie k p x).getD ((t.gT.getD x iy).b) []) p)by unfold qF xv;rw[aY oE,a6 nN];rfl]at pA;exact iB (ae [tT 22 ((x:Int)<t.gT.length) aC,iX (x:Int) (t.gT.length) aC,ai 47 (((t.gT.getD x iy).kind:Int)==1) (aT aC),ai 58 (((t.gT.getD x iy).kind:Int)==3) (aT aC),ai 59 (((t.gT.getD x iy).kind:Int)==4) (aT aC),ai 60 (((t.gT.getD x iy).kind:Int)==5) (aT aC),ah 61 (((t.gT.getD x iy).kind:Int)==6) (aU aC),
          iX ((t.gT.getD x iy).a:Int) ((iL t.gT ie k p x).length) aC,.a (aC:(t.gT.getD x iy).a<(iL t.gT ie k p x).length),
          iX ((t.gT.getD x iy).b:Int) ((iL t.gT ie k p x).length) aC,.a (aC:(t.gT.getD x iy).b<(iL t.gT ie k p x).length),ag [iP ((t.gT.getD x iy).kind:Int),iP ((t.gT.getD x iy).n:Int),gZ ((iL t.gT ie k p x).getD ((t.gT.getD x iy).a) []),gZ ((iL t.gT ie k p x).getD ((t.gT.getD x iy).b) []),iP p] (GO (t.gT.getD x iy) _ _ (k+1) p aC aC aD aD ic gX aC aC aC il.f),.a (aC:((iL t.gT ie k p x).length+1)*24<=140737488355328),ik ((x:Int)+1) aC]<|.e (af [.b 15 (y7 rfl rfl (λj hj=>by obtain rfl:j=0:= aC;rfl) pA:Bx.le (.row true 26 ((iL t.gT ie k p x).length+1) 1 (λi_ j_=>if i_<(iL t.gT ie k p x).length then(mc (iL t.gT ie k p x)) i_ j_ else(E.kJ (.sl true 1 1 λi_ j_=>[gZ (nd (t.gT.getD x iy) ((iL t.gT ie k p x).getD ((t.gT.getD x iy).a) []) ((iL t.gT ie k p x).getD ((t.gT.getD x iy).b) []) p)].getD (i_*1+j_) (.v (.bool false)))) (i_-(iL t.gT ie k p x).length) j_)) (.row true 26 ((iL t.gT ie k p (x+1)).length) 1 (mc (iL t.gT ie k p (x+1)))))])) aF 
     .have pA:(iL t.gT ie k p (x+1))=(iL t.gT ie k p x)++[qF (t.gT.getD x iy) (iL t.gT ie k p x) k p]:=rfl;have oE:((t.gT.getD x iy)).kind≠1:=oe;have nN:¬((t.gT.getD x iy)).kind<=6:=hk;have I9:=il.wX;have Ja:=il.k3.resolve_left oE;have IY:=il.C1 oE;have Jl:=D3 il;have s1:=pz (t.gT.getD x iy).a aC;rw[show qF (t.gT.getD x iy) (iL t.gT ie k p x) k p=(nd (t.gT.getD x iy) ((iL t.gT ie k p x).getD (t.gT.getD x iy).a []) ((iL t.gT ie k p x).getD ((t.gT.getD x iy).a) []) p)by unfold qF xv;rw[aY oE,a7 nN];rfl]at pA;exact iB (ae [tT 22 ((x:Int)<t.gT.length) aC,iX (x:Int) (t.gT.length) aC,ai 47 (((t.gT.getD x iy).kind:Int)==1) (aT aC),ai 58 (((t.gT.getD x iy).kind:Int)==3) (aT aC),ai 59 (((t.gT.getD x iy).kind:Int)==4) (aT aC),ai 60 (((t.gT.getD x iy).kind:Int)==5) (aT aC),ai 61 (((t.gT.getD x iy).kind:Int)==6) (aT aC),
       iX ((t.gT.getD x iy).a:Int) ((iL t.gT ie k p x).length) aC,.a (aC:(t.gT.getD x iy).a<(iL t.gT ie k p x).length),
       iX ((t.gT.getD x iy).a:Int) ((iL t.gT ie k p x).length) aC,.a (aC:(t.gT.getD x iy).a<(iL t.gT ie k p x).length),ag [iP ((t.gT.getD x iy).kind:Int),iP ((t.gT.getD x iy).n:Int),gZ ((iL t.gT ie k p x).getD ((t.gT.getD x iy).a) []),gZ ((iL t.gT ie k p x).getD ((t.gT.getD x iy).a) []),iP p] (GO (t.gT.getD x iy) _ _ (k+1) p aC aC aD aD ic gX aC aC aC il.f),.a (aC:((iL t.gT ie k p x).length+1)*24<=140737488355328),ik ((x:Int)+1) aC]<|.e (af [.b 15 (y7 rfl rfl (λj hj=>by obtain rfl:j=0:= aC;rfl) pA:Bx.le (.row true 26 ((iL t.gT ie k p x).length+1) 1 (λi_ j_=>if i_<(iL t.gT ie k p x).length then(mc (iL t.gT ie k p x)) i_ j_ else(E.kJ (.sl true 1 1 λi_ j_=>[gZ (nd (t.gT.getD x iy) ((iL t.gT ie k p x).getD ((t.gT.getD x iy).a) []) ((iL t.gT ie k p x).getD ((t.gT.getD x iy).a) []) p)].getD (i_*1+j_) (.v (.bool false)))) (i_-(iL t.gT ie k p x).length) j_)) (.row true 26 ((iL t.gT ie k p (x+1)).length) 1 (mc (iL t.gT ie k p (x+1)))))])) aF)
  (λhx=>by
    exact iB (af [tF 22 ((t.gT.length:Int)<t.gT.length) aC]) aF) aI:jD 3 Tryz.f71 (Ve t ie k p 0) (.exit 0) ⟨98,true,[(9,.own 15),(4,.box 4 0)],[(15,.row true 26 ((iL t.gT ie k p t.gT.length).length) 1 (mc (iL t.gT ie k p t.gT.length))),(4,.cells 25 [iP t.ie,kH t.gT,kG t.iw])]⟩) (af [.b 15 (ahb rfl rfl:Bx.le (.row true 26 (0+ie.length) 1 (λi_ j_=>if i_<0 then(λi_ j_=>([]:List E).getD (i_*1+j_) (.v (.bool false))) i_ j_ else(E.kJ (kS ie)) (i_-0) j_)) (.row true 26 ((iL t.gT ie k p 0).length) 1 (mc (iL t.gT ie k p 0))))]),.y 12 12 true 26 1 (mc []),.s (Sp.jH (Vf t ie k p) 0 t.iw.length aC (λx hx mw=>by
    have ho_:=h.out x aC;have amq:((t.iw.take x).map λj=>(iL t.gT ie k p t.gT.length).getD j []).length<=200:=by rw[ca,b8];omega
    exact iB (ae [tT 86 ((x:Int)<t.iw.length) aC,iX (x:Int) (t.iw.length) aC,iX (t.iw.getD x 0:Int) ((iL t.gT ie k p t.gT.length).length) aC,.a (aC:(t.iw.getD x 0)<(iL t.gT ie k p t.gT.length).length),.a (aC:(((t.iw.take x).map λj=>(iL t.gT ie k p t.gT.length).getD j []).length+1)*24<=140737488355328),
     ik ((x:Int)+1) aC]<|.e (af [.b 12 (y7 rfl rfl (λj hj=>by obtain rfl:j=0:= aC;rfl) (NK _ t.iw 0 aC):Bx.le (.row true 26 (((t.iw.take x).map λj=>(iL t.gT ie k p t.gT.length).getD j []).length+1) 1 (λi_ j_=>if i_<((t.iw.take x).map λj=>(iL t.gT ie k p t.gT.length).getD j []).length then(mc ((t.iw.take x).map λj=>(iL t.gT ie k p t.gT.length).getD j [])) i_ j_ else(E.kJ (.sl true 1 1 λi_ j_=>[gZ ((iL t.gT ie k p t.gT.length).getD (t.iw.getD x 0) [])].getD (i_*1+j_) (.v (.bool false)))) (i_-((t.iw.take x).map λj=>(iL t.gT ie k p t.gT.length).getD j []).length) j_)) (.row true 26 (((t.iw.take (x+1)).map λj=>(iL t.gT ie k p t.gT.length).getD j []).length) 1 (mc ((t.iw.take (x+1)).map λj=>(iL t.gT ie k p t.gT.length).getD j []))))])) aF)
  (λhx=>by
    exact iB (ae [tF 86 ((t.iw.length:Int)<t.iw.length) aC,.z 12]<|.e (af [.o 12 (.e (VT rfl):aj (.sl true (((t.iw.take t.iw.length).map λj=>(iL t.gT ie k p t.gT.length).getD j []).length) 1 (mc ((t.iw.take t.iw.length).map λj=>(iL t.gT ie k p t.gT.length).getD j []))) (kS ((t.iw.take t.iw.length).map λj=>(iL t.gT ie k p t.gT.length).getD j [])))])) aF) aI:jD 17 Tryz.f71 (Vf t ie k p 0) (.exit 3) ⟨98,true,[(12,.e (kS ((t.iw.take t.iw.length).map λj=>(iL t.gT ie k p t.gT.length).getD j [])))],[]⟩) (af [.b 12 (VS aH rfl:Bx.le (.row true 26 0 1 (mc [])) (.row true 26 (((t.iw.take 0).map λj=>(iL t.gT ie k p t.gT.length).getD j []).length) 1 (mc ((t.iw.take 0).map λj=>(iL t.gT ie k p t.gT.length).getD j []))))])]<|rQ (kS ((t.iw.take t.iw.length).map λj=>(iL t.gT ie k p t.gT.length).getD j [])) (kS (qT t ie k p)) (by unfold qT;rw[eG])) 
def akY{M:List (List Iv)}{x q m:Nat}{e:Nat->Nat->E}(hq:q=m)(hm:m<=(M.getD x []).length):E.le (.sl true (0+q) 7 λi j=>if i<0 then e i j else oi M x (i-0) j) (gZ ((M.getD x []).take m)):=by
 subst hq;have hl:((M.getD x []).take q).length=0+q:=by rw[b8];omega
 unfold gZ;rw[hl];refine .sl λi j hi hj=>?_
 rw[aY (bn i),dt];refine⟨.iM ?_,tn _ _ hj⟩;show(iF ((M.getD x []).getD i gU)).getD j .any=(iF (((M.getD x []).take q).getD i gU)).getD j .any;congr 2;simp only[bd];rw[List.getElem?_take_of_lt aC]
def agk(s:jB)(n k:Nat)(M:List (List Iv))(h:lM s)(hn:n=M.length)(hn8:n<=8)(hk:k<=16)(hM:∀ i,i<n->k+1<=(M.getD i []).length)(ae4:∀ i,i<n->(M.getD i []).length<=17):gR 72 [kU s,Vs n M,iP k] (kS (qj s M k)):=by
 have p4:=h.p4;exact ak call72 func72 (ae [.y 7 7 true 26 1 (mc []),.s (Sp.jH (Vc s n M k) 0 n aC (λx hx mw=>by
    have yQ:mO M x=(M.getD x []).length:=rfl;have Jj:=hM x aC;have amw:=ae4 x aC;have hla:((M.take x).map λc=>c.take (k+1)).length<=8:=by rw[ca,b8];omega
    exact iB (ae [tT 15 ((x:Int)<n) aC,iX (x:Int) n aC,.bo,ik ((k:Int)+1) aC,.a (aC:0<=(((k+1:Nat):Int):Int)/\(((k+1:Nat):Int):Int)<=(mO M x:Int)),.bo,.a (aC:(0+(k+1))*88<=140737488355328),.o 24 (.e (akY aC Jj):aj (.sl true (0+(k+1)) 7 (λi_ j_=>if i_<0 then(λi_ j_=>([]:List E).getD (i_*7+j_) (.v (.bool false))) i_ j_ else(E.kJ (.nf true true (k+1) 7 (E.kJ (.nf true true (mO M x) 7 (oi M x))))) (i_-0) j_)) (gZ ((M.getD x []).take (k+1)))),.o 25 (.refl _:aj (.sl true 1 1 λi_ j_=>[gZ ((M.getD x []).take (k+1))].getD (i_*1+j_) (.v (.bool false))) (.sl true 1 1 λi_ j_=>[gZ ((M.getD x []).take (k+1))].getD (i_*1+j_) (.v (.bool false)))),.a (aC:(((M.take x).map λc=>c.take (k+1)).length+1)*24<=140737488355328),ik ((x:Int)+1) aC]<|.e (af [.b 7 (y7 rfl rfl (λj hj=>by obtain rfl:j=0:= aC;rfl) (NK _ M [] aC):Bx.le (.row true 26 (((M.take x).map λc=>c.take (k+1)).length+1) 1 (λi_ j_=>if i_<((M.take x).map λc=>c.take (k+1)).length then(mc ((M.take x).map λc=>c.take (k+1))) i_ j_ else(E.kJ (.sl true 1 1 λi_ j_=>[gZ ((M.getD x []).take (k+1))].getD (i_*1+j_) (.v (.bool false)))) (i_-((M.take x).map λc=>c.take (k+1)).length) j_)) (.row true 26 (((M.take (x+1)).map λc=>c.take (k+1)).length) 1 (mc ((M.take (x+1)).map λc=>c.take (k+1)))))])) aF)
  (λhx=>by
    exact iB (af [tF 15 ((n:Int)<n) aC]) aF) aI:jD 3 Tryz.f72 (Vc s n M k 0) (.exit 0) ⟨43,true,[(7,.own 7),(3,.box 3 0),(2,.e (iP k))],[(7,.row true 26 (((M.take n).map λc=>c.take (k+1)).length) 1 (mc ((M.take n).map λc=>c.take (k+1)))),(3,.cells 28 [iP s.tape.ie,kH s.tape.gT,kG s.tape.iw,iP s.iI,gZ s.params])]⟩) (af [.b 7 (VS aH rfl:Bx.le (.row true 26 0 1 (mc [])) (.row true 26 (((M.take 0).map λc=>c.take (k+1)).length) 1 (mc ((M.take 0).map λc=>c.take (k+1)))))]),.s (Sp.jH (Vd s n M k) 0 s.params.length aC (λx hx mw=>by
    have vp:=(h.params x aC).1;have FA:((M.map λc=>c.take (k+1))++(s.params.take x).map λa=>nJ a k).length<=16:=by rw[cA,ca,ca,b8];omega
    exact iB (ae [tT 32 ((x:Int)<s.params.length) aC,iX (x:Int) (s.params.length) aC,.c (XI (s.params.getD x gU) aD k aC),.a (aC:(((M.map λc=>c.take (k+1))++(s.params.take x).map λa=>nJ a k).length+1)*24<=140737488355328),ik ((x:Int)+1) aC]<|.e (af [.b 7 (y7 rfl rfl (λj hj=>by obtain rfl:j=0:= aC;rfl) (by rw[NK (λa=>nJ a k) s.params gU aC,amQ]):Bx.le (.row true 26 (((M.map λc=>c.take (k+1))++(s.params.take x).map λa=>nJ a k).length+1) 1 (λi_ j_=>if i_<((M.map λc=>c.take (k+1))++(s.params.take x).map λa=>nJ a k).length then(mc ((M.map λc=>c.take (k+1))++(s.params.take x).map λa=>nJ a k)) i_ j_ else(E.kJ (.sl true 1 1 λi_ j_=>[gZ (nJ (s.params.getD x gU) k)].getD (i_*1+j_) (.v (.bool false)))) (i_-((M.map λc=>c.take (k+1))++(s.params.take x).map λa=>nJ a k).length) j_)) (.row true 26 (((M.map λc=>c.take (k+1))++(s.params.take (x+1)).map λa=>nJ a k).length) 1 (mc ((M.map λc=>c.take (k+1))++(s.params.take (x+1)).map λa=>nJ a k))))])) aF)
  (λhx=>by
    exact iB (ae [tF 32 ((s.params.length:Int)<s.params.length) aC,.z 7]<|.e (af [.o 7 (.e (VT rfl):aj (.sl true (((M.map λc=>c.take (k+1))++(s.params.take s.params.length).map λa=>nJ a k).length) 1 (mc ((M.map λc=>c.take (k+1))++(s.params.take s.params.length).map λa=>nJ a k))) (kS ((M.map λc=>c.take (k+1))++(s.params.take s.params.length).map λa=>nJ a k)))])) aF) aI:jD 8 Tryz.f72 (Vd s n M k 0) (.exit 2) ⟨43,true,[(7,.e (kS ((M.map λc=>c.take (k+1))++(s.params.take s.params.length).map λa=>nJ a k)))],[]⟩) (af [.b 7 (Bx.le.iM (by rw[hn,eG];simp):Bx.le (.row true 26 (((M.take n).map λc=>c.take (k+1)).length) 1 (mc ((M.take n).map λc=>c.take (k+1)))) (.row true 26 (((M.map λc=>c.take (k+1))++(s.params.take 0).map λa=>nJ a k).length) 1 (mc ((M.map λc=>c.take (k+1))++(s.params.take 0).map λa=>nJ a k))))])]<|rQ (kS ((M.map λc=>c.take (k+1))++(s.params.take s.params.length).map λa=>nJ a k)) (kS (qj s M k)) (by unfold qj;rw[eG])) 
def uV(s:jB)(x:List Iv)(p:Nat):∀ n,(je s x p n).length=x.length
 | 0=>by simp[je]
 |n+1=>by simp[je]
def Vg(s:jB)(x:List Iv)(p n i:Nat):(nx s x p n i).length=x.length:=by simp[nx]
def JD{s:jB}{x:List Iv}{p n i q:Nat}(h:q<x.length):(nx s x p n i).getD q []=(je s x p n).getD q []++(if q<i then[Cx s (je s x p n) p n q]else[]):=by
 simp[nx,bd,h]
def agp(s:jB)(x:List Iv)(p n:Nat):nx s x p n 0=je s x p n:=by
 have hl:=uV s x p n;apply fR (by rw[Vg,hl]);intro q h1 h2;have h3:q<x.length:=by rw[Vg]at h1;exact h1
 have e:=JD (s:=s) (p:=p) (n:=n) (i:=0) h3;rw[aY (bn q),fD]at e;rw[bd,bt h1,bd,bt h2]at e;exact e
def agn(s:jB)(x:List Iv)(p n:Nat):nx s x p n x.length=je s x p (n+1):=by
 unfold nx;show _=(List.range x.length).map λi=>(je s x p n).getD i []++[Cx s (je s x p n) p n i]
 exact fc λq hq=>by rw[aZ (bW.1 hq)]
def FX{s:jB}(h:lM s){x:List Iv}(hx:ko s.iI x){p:Nat}(ic:8<=p)(gX:p<=512):∀ n,n<=16->vC (n+1) (je s x p n)
 | 0,_=>λi hi=>by
  have mo:i<x.length:=by rw[uV]at hi;exact hi
  have e:(je s x p 0).getD i []=[x.getD i gU]:=by simp[je,bd,mo]
  rw[e];exact⟨rfl,lY.push lY.nil (hx.ok i mo).1⟩
 |n+1,hn=>λi hi=>by
  have mo:i<x.length:=by rw[uV]at hi;exact hi
  have e:(je s x p (n+1)).getD i []=(je s x p n).getD i []++[Cx s (je s x p n) p n i]:=by simp[je,bd,mo]
  have hs:=FX h hx ic gX n aC i (by rw[uV];exact mo);rw[e];refine⟨by rw[cA,hs.len];rfl,hs.ok.push ?_⟩;unfold Cx;exact qc _ _ aC aC 
def afQ{s:jB}(h:lM s){M:List (List Iv)}{n:Nat}(hM:vC (n+1) M)(hl:M.length=s.iI):vC (n+1) (qj s M n)/\(qj s M n).length=s.tape.ie:=by
 refine⟨λi hi=>?_,by unfold qj;rw[cA,ca,ca,h.ie,hl]⟩;unfold qj at hi ⊢;rw[cA,ca,ca]at hi;rw[bd,eB,ca];split
 .rename_i h1;rw[cr,bt h1];have:=hM i h1;rw[bd,bt h1]at this;show kA (n+1) ((M[i]).take (n+1));rw[cN (by have:=this.len;simp at this;omega)];exact this
 .rename_i h1;have h2:i-M.length<s.params.length:= aC ;rw[cr,bt h2];have:=(h.params _ h2).1;rw[bd,bt h2]at this;exact RB this n
def ajA{T1 T0 n x:Nat}{M M':List (List Iv)}{y:Iv}(h:∀ q,q<n->M'.getD q []=if q=x then M.getD q []++[y]else M.getD q []):
 Bx.le (.jC true T1 T0 n 7 (λq=>if q=x then mO M q+[y].length else mO M q) (λq i j=>if q=x then(if i<mO M q then oi M q i j else(E.kJ (gZ [y])) (i-mO M q) j)else oi M q i j) none)
  (.jC true T1 T0 n 7 (mO M') (oi M') none):=by
 refine .jC rfl (λq hq=>?_) (λq i j hq hi hj=>⟨.iM ?_,tn _ _ hj⟩)
 .simp only[mO,h q hq];split
  .rw [cA]
  .rfl
 .simp only[oi,mO,h q hq]at hi ⊢;by_cases e:q=x
  .rw [aZ e]at hi;rw[aZ e,aZ e];by_cases im:i<(M.getD q []).length
   .rw [aZ im];congr 2;simp only[bd]at im ⊢;rw[dw im]
   .rw [aY im];have Dt:i=(M.getD q []).length:=by
     rw[fw]at hi;omega
    subst Dt;rw[cX];show(iF y).getD j .any=_;congr 2;simp[bd]
  .rw [aY e,aY e]
def af5(y:Iv)(j:Nat)(hj:j<7):(iF y).getD (0*7+j) (.v (.bool false))=(iF y).getD j .any:=by
 rcases j with _|_|_|_|_|_|_|j
 all_goals first|rfl|omega
def ajz{T1 T0 x:Nat}{X:List Iv}{e:Nat->Nat->E}(hx:x<X.length)(he:∀ j,j<7->e 0 j=(iF (X.getD x gU)).getD j .any):
 Bx.le (.jC true T1 T0 (x+1) 7 (λk=>if k<x then mO (X.map λy=>[y]) k else 1) (λk=>if k<x then oi (X.map λy=>[y]) k else e) none) (.jC true T1 T0 (x+1) 7 (mO (X.map λy=>[y])) (oi (X.map λy=>[y])) none):=by
 have e0:(X.map λy=>[y]).getD x []=[X.getD x gU]:=by simp[bd,hx]
 refine .jC rfl (λk hk=>?_) (λk i j hk hi hj=>⟨.iM ?_,tn _ _ hj⟩)
 .by_cases h:k<x
  .rw [aZ h]
  .obtain rfl:k=x:= aC ;rw[aY h];simp only[mO,e0];rfl
 .by_cases h:k<x
  .rw [aZ h]
  .obtain rfl:k=x:= aC ;simp only[h,bk]at hi ⊢;obtain rfl:i=0:= aC ;rw[he j hj];simp only[oi,e0];rfl
def ago{s:jB}{x:List Iv}{p n i:Nat}(q:Nat)(hq:q<x.length):(nx s x p n (i+1)).getD q []=if q=i then(nx s x p n i).getD q []++[Cx s (je s x p n) p n q]else(nx s x p n i).getD q []:=by
 rw[JD hq,JD hq];by_cases h:q=i
 .subst h;rw[aZ rfl,aZ (ej _),aY (Nat.lt_irrefl _),fD]
 .rw [aY h];by_cases h2:q<i
  .rw [aZ h2,aZ aC]
  .rw [aY h2,aY aC]
def agq(s:jB)(x:List Iv)(k p:Nat)(h:lM s)(hx:ko s.iI x)(hk:k<=16)(ic:8<=p)(gX:p<=512):gR 34 [kU s,gZ x,iP k,iP p] (kS (je s x p k)):=by
 have s4:=h.s4;have lx:=hx.len;exact ak call34 func34 (ae [.y 9 9 true 26 1 (mc []),.s (Sp.jH (Vh s x k p) 0 x.length aC (λw hw afp=>by
    have vx:=hx.ok w aC;exact iB (ae [tT 19 ((w:Int)<x.length) aC,iX (w:Int) (x.length) aC,.bo,.a (aC:0<1),.a (aC:(w+1)*24<=140737488355328),ik ((w:Int)+1) aC]<|.e (af [.b 9 (ajz aC λj hj=>af5 _ j hj:Bx.le (.jC true 26 44 (w+1) 7 (λk_=>if k_<w then(mO (x.map λy=>[y])) k_ else(λ_=>1) (k_-w)) (λk_=>if k_<w then(oi (x.map λy=>[y])) k_ else(λ_=>λi_ j_=>(iF (x.getD w gU)).getD (i_*7+j_) (.v (.bool false))) (k_-w)) .none) (.jC true 26 44 (w+1) 7 (mO (x.map λy=>[y])) (oi (x.map λy=>[y])) .none))])) aF)
  (λhw=>by
    exact iB (af [tF 19 ((x.length:Int)<x.length) aC]) aF) aI:jD 3 Tryz.f34 (Vh s x k p 0) (.exit 0) ⟨72,true,[(9,.own 9),(4,.box 4 0),(2,.e (iP k)),(3,.e (iP p))],[(9,.jC true 26 44 x.length 7 (mO (x.map λy=>[y])) (oi (x.map λy=>[y])) .none),(4,.cells 28 [iP s.tape.ie,kH s.tape.gT,kG s.tape.iw,iP s.iI,gZ s.params])]⟩) (af [.b 9 (Bx.le.ajy:Bx.le (.row true 26 0 1 (mc [])) (.jC true 26 44 0 7 (mO (x.map λy=>[y])) (oi (x.map λy=>[y])) .none))]),.s (Sp.jH (Vi s x k p) 0 k aC (λm hm Jg=>by
    have I7:=FX h hx ic gX m aC;have lg:=afQ h I7 (by rw[uV,hx.len]);have hfs:=adT (aC:1<=p) (aC:p<=4096) h.tape lg.1 lg.2;have Av:(qT s.tape (qj s (je s x p m) m) m p).length=x.length:=by unfold qT;rw[ca,h.iw,hx.len]
    have hwv:=yb (m+1) aC;exact iB (ae [tT 30 ((m:Int)<k) aC,.c (agk s x.length m (je s x p m) h (uV _ _ _ _).symm aC aC (λi hi=>by rw[(I7 i (by rw[uV];exact hi)).len];exact bc _) (λi hi=>by rw[(I7 i (by rw[uV];exact hi)).len];omega):gR 72 [kU s,(.nf false true x.length 1 λk_ _=>.nf true true ((mO (je s x p m)) k_) 7 ((oi (je s x p m)) k_)),iP m] _),.c (agl s.tape (qj s (je s x p m) m) m p h.tape lg.1 lg.2 aC ic gX),ik ((m:Int)+1) aC,.c (ED (m+1) aC),.c (AK (iS ((m+1:Nat):Int)) (DP _ aC)),.s (Sp.jH (Vj s x k p m) 0 x.length aC (λw hw afp=>by
    have TV:=hfs w (by rw[Av];omega);have amm:=TV.len;have amn:=TV.ok m;have B8:∀ q,q<x.length->(nx s x p m (w+1)).getD q []=if q=w then(nx s x p m w).getD q []++[jj (((qT s.tape (qj s (je s x p m) m) m p).getD w []).getD m gU) (jU (m+1)) p]else(nx s x p m w).getD q []:=λq hq=>by
     rw[ago q hq];by_cases e:q=w
     .subst e;rw[aZ rfl,aZ rfl];rfl
     .rw [aY e,aY e]
    have Jd:mO (nx s x p m w) w=m+1:=by
     show(List.getD (nx s x p m w) w []).length=m+1;rw[JD aC,aY (Nat.lt_irrefl _),fD];exact(I7 w (by rw[uV];omega)).len
    have rE:=pE (jj (((qT s.tape (qj s (je s x p m) m) m p).getD w []).getD m gU) (jU (m+1)) p);exact iB (ae [tT 48 ((w:Int)<x.length) aC,iX (w:Int) (x.length) aC,.a (aC:w<x.length),iX (w:Int) ((qT s.tape (qj s (je s x p m) m) m p).length) aC,
     iX (m:Int) (((qT s.tape (qj s (je s x p m) m) m p).getD w []).length) aC,.c (y3 (((qT s.tape (qj s (je s x p m) m) m p).getD w []).getD m gU) (jU (m+1)) p aD aD aC aC),.o 66 (.e (lG _):aj (.sl true 1 7 λi_ j_=>(iF (jj (((qT s.tape (qj s (je s x p m) m) m p).getD w []).getD m gU) (jU (m+1)) p)).getD (i_*7+j_) (.v (.bool false))) (gZ [jj (((qT s.tape (qj s (je s x p m) m) m p).getD w []).getD m gU) (jU (m+1)) p])),.a (aC:w<x.length),.a (aC:((mO (nx s x p m w)) w+[jj (((qT s.tape (qj s (je s x p m) m) m p).getD w []).getD m gU) (jU (m+1)) p].length)*88<=140737488355328),
     iX (w:Int) (x.length) aC,.a (rfl:w=w),.a (rfl:w=w),.a (aC:w<x.length),ik ((w:Int)+1) aC]<|.e (af [.b 9 (ajA (M:=(nx s x p m w)) (M':=(nx s x p m (w+1))) (x:=w) (y:=(jj (((qT s.tape (qj s (je s x p m) m) m p).getD w []).getD m gU) (jU (m+1)) p)) B8:Bx.le (.jC true 26 44 x.length 7 (λq=>if q=w then(mO (nx s x p m w)) q+[jj (((qT s.tape (qj s (je s x p m) m) m p).getD w []).getD m gU) (jU (m+1)) p].length else(mO (nx s x p m w)) q) (λq i j=>if q=w then(if i<(mO (nx s x p m w)) q then(oi (nx s x p m w)) q i j else(E.kJ (gZ [jj (((qT s.tape (qj s (je s x p m) m) m p).getD w []).getD m gU) (jU (m+1)) p])) (i-(mO (nx s x p m w)) q) j)else(oi (nx s x p m w)) q i j) .none) (.jC true 26 44 x.length 7 (mO (nx s x p m (w+1))) (oi (nx s x p m (w+1))) .none))])) aF)
  (λhw=>by
    exact iB (af [tF 48 ((x.length:Int)<x.length) aC]) aF) aI:jD 13 Tryz.f34 (Vj s x k p m 0) (.exit 4) ⟨72,true,[(29,.e (iP m)),(28,.e (iP k)),(9,.own 9),(4,.box 4 0),(3,.e (iP p))],[(9,.jC true 26 44 x.length 7 (mO (nx s x p m x.length)) (oi (nx s x p m x.length)) .none),(4,.cells 28 [iP s.tape.ie,kH s.tape.gT,kG s.tape.iw,iP s.iI,gZ s.params])]⟩) (af [.b 9 (.iM (by rw[agp]):Bx.le (.jC true 26 44 x.length 7 (mO (je s x p m)) (oi (je s x p m)) .none) (.jC true 26 44 x.length 7 (mO (nx s x p m 0)) (oi (nx s x p m 0)) .none))]),
     ik ((m:Int)+1) aC]<|.e (af [.b 9 (.iM (by rw[agn]):Bx.le (.jC true 26 44 x.length 7 (mO (nx s x p m x.length)) (oi (nx s x p m x.length)) .none) (.jC true 26 44 x.length 7 (mO (je s x p (m+1))) (oi (je s x p (m+1))) .none))])) aF)
  (λhm=>by
    exact iB (af [tF 30 ((k:Int)<k) aC]) aF) aI:jD 8 Tryz.f34 (Vi s x k p 0) (.exit 2) ⟨72,true,[(9,.own 9)],[(9,.jC true 26 44 x.length 7 (mO (je s x p k)) (oi (je s x p k)) .none)]⟩) (af [.b 9 (.iM rfl:Bx.le (.jC true 26 44 x.length 7 (mO (x.map λy=>[y])) (oi (x.map λy=>[y])) .none) (.jC true 26 44 x.length 7 (mO (je s x p 0)) (oi (je s x p 0)) .none))])]<|rR (kS (je s x p k)) (ahc (uV _ _ _ _).symm:E.le (.sl true x.length 1 λk_ _=>.sl true ((mO (je s x p k)) k_) 7 ((oi (je s x p k)) k_)) (kS (je s x p k)))) 
def agm(s:jB)(x:List Iv)(p:Nat)(h:lM s)(hx:ko s.iI x)(ic:8<=p)(gX:p<=512):gR 33 [kU s,gZ x,iP p] (bP true):=by
 have s1:=h.s1;have s4:=h.s4;have lx:=hx.len;exact ak call33 func33 (af [.c (zI s aD),.c (ux x aC aC hx.ok),ah 18 ((x.length:Int)==s.iI) (aU aC),tT 22 (8<=(p:Int)) aC,tT 26 ((p:Int)<=512) aC]) 
def Rz(s:jB)(x:List Iv)(k p:Nat)(h:lM s)(hx:ko s.iI x)(ic:8<=p)(gX:p<=512)(hk:k<=16):gR 11 [kU s,gZ x,iP k,iP p] (.ig [kS (je s x p k),iP 0]):=by
 have s1:=h.s1;have s4:=h.s4;have lx:=hx.len;exact ak call11 func11 (af [.c (agm s x p h hx ic gX),tF 16 ((k:Int)<0) aC,tF 19 (16<(k:Int)) aC,.c (agq s x k p h hx hk ic gX)]) 
def kj(j:Int):Nat:=4+(j%4).toNat
def nD(j:Int):Dy:=canon false (kj j) (j/4)
def JQ(j:Int):4<=kj j/\kj j<=7:=by unfold kj;omega
def JN(j:Int):(nD j).q=(kj j:Rat)*P2 (j/4):=by
 unfold nD;rw[qI];rfl
def ahq(j:Int):0<(nD j).q:=by
 rw[JN];refine dO ?_ (mX _);have:=(JQ j).1
 exact_mod_cast (aC:0<kj j)
def Gg(j:Int):0<(nD j).iK:=(rH _).1.2 (ahq j)
def NX(j:Int):(nD j).q<(nD (j+1)).q:=by
 rw[JN,JN];have p:=mX (j/4);by_cases h:j%4=3
 .have e1:(j+1)/4=j/4+1:= aC ;have e2:kj (j+1)=4:=by unfold kj;omega
  have e3:kj j=7:=by unfold kj;omega
  rw[e1,e2,e3,pH,show P2 1=2 by have:=ur 1;simpa using this];have h1:((7:Nat):Rat)*P2 (j/4)<((8:Nat):Rat)*P2 (j/4):=dm (by exact_mod_cast (aE:7<8)) p;have h2:((8:Nat):Rat)*P2 (j/4)=((4:Nat):Rat)*(P2 (j/4)*2):=by
   rw[show((8:Nat):Rat)=8 from rfl,show((4:Nat):Rat)=4 from rfl]
   grind
  rw[<-h2];exact h1
 .have e1:(j+1)/4=j/4:= aC ;have e2:kj (j+1)=kj j+1:=by unfold kj;omega
  rw[e1,e2];exact dm (by exact_mod_cast ej _) p
def We(j:Int):∀ n:Nat,(nD j).q<(nD (j+((n+1:Nat):Int))).q
 | 0=>NX j
 |n+1=>by
  have h1:=We j n;have h2:=NX (j+((n+1:Nat):Int));rw[(aC:j+((n+1:Nat):Int)+1=j+((n+1+1:Nat):Int))]at h2
  grind
def AS{i j:Int}(h:i<j):(nD i).q<(nD j).q:=by
 have:=We i (j-i-1).toNat
 rwa[(aC:i+(((j-i-1).toNat+1:Nat):Int)=j)]at this
def NU{i j:Int}(h:i<=j):(nD i).q<=(nD j).q:=by
 by_cases e:i=j
 .subst e;exact b6
 .exact bG (AS aC)
def Wd{i j:Int}:iO (nD i) (nD j)<=0↔i<=j:=by
 rw[oJ];refine⟨λh=>?_,NU⟩;by_cases q:i<=j
 .exact q
 .exact absurd (AS (aC:j<i)) (dc.2 h)
def JL{i j:Int}:iO (nD i) (nD j)<0↔i<j:=by
 rw[W2];refine⟨λh=>?_,AS⟩;by_cases q:i<j
 .exact q
 .exact absurd h (dc.2 (NU (aC:j<=i)))
def Cv(k:Int):nD (4*(k-2))=jz k:=by
 unfold nD;rw[show kj (4*(k-2))=4 by unfold kj;omega,(aC:4*(k-2)/4=k-2)];show canon false 4 (k-2)=⟨false,1,k⟩
 have e:canon false 4 (k-2)=⟨false,4/2^jl 4,k-2+jl 4⟩:=rfl;rw[e,show jl 4=2 by decide +kernel];simp
def V9{j e:Int}(h:j=4*e):nD j=⟨false,1,e+2⟩:=by
 have:=Cv (e+2);rw[(aC:4*(e+2-2)=j)]at this;rw[this];rfl
def Wa{j e:Int}(h:j=4*e+1):nD j=⟨false,5,e⟩:=by
 unfold nD;rw[show kj j=5 by unfold kj;omega,(aC:j/4=e)];have e:canon false 5 e=⟨false,5/2^jl 5,e+jl 5⟩:=rfl;rw[e,show jl 5=0 by decide +kernel];simp
def Wb{j e:Int}(h:j=4*e+2):nD j=⟨false,3,e+1⟩:=by
 unfold nD;rw[show kj j=6 by unfold kj;omega,(aC:j/4=e)];have e:canon false 6 e=⟨false,6/2^jl 6,e+jl 6⟩:=rfl;rw[e,show jl 6=1 by decide +kernel];simp
def Wc{j e:Int}(h:j=4*e+3):nD j=⟨false,7,e⟩:=by
 unfold nD;rw[show kj j=7 by unfold kj;omega,(aC:j/4=e)];have e:canon false 7 e=⟨false,7/2^jl 7,e+jl 7⟩:=rfl;rw[e,show jl 7=0 by decide +kernel];simp
def Ge(j:Int):∃ e:Int,(j=4*e/\nD j=⟨false,1,e+2⟩)\/(j=4*e+1/\nD j=⟨false,5,e⟩)\/(j=4*e+2/\nD j=⟨false,3,e+1⟩)\/(j=4*e+3/\nD j=⟨false,7,e⟩):=by
 refine⟨j/4,?_⟩;have:j%4=0\/j%4=1\/j%4=2\/j%4=3:= aC ;rcases this with h|h|h|h
 .exact .inl ⟨aC,V9 aC⟩
 .exact .inr (.inl ⟨aC,Wa aC⟩)
 .exact .inr (.inr (.inl ⟨aC,Wb aC⟩))
 .exact .inr (.inr (.inr ⟨aC,Wc aC⟩))
def NT(j:Int):ia (nD j).m<=3:=by
 obtain⟨e,⟨_,h⟩|⟨_,h⟩|⟨_,h⟩|⟨_,h⟩⟩:=Ge j<;>rw[h]<;>simp only<;>decide +kernel
def NW(j:Int):(nD j).m≠0:=by
 obtain⟨e,⟨_,h⟩|⟨_,h⟩|⟨_,h⟩|⟨_,h⟩⟩:=Ge j<;>rw[h]<;>simp only<;>decide
def JM(j:Int):j/4<=(nD j).e/\(nD j).e<=j/4+2:=by
 obtain⟨e,⟨g,h⟩|⟨g,h⟩|⟨g,h⟩|⟨g,h⟩⟩:=Ge j<;>rw[h]<;>simp only<;>omega
def uh{j:Int}(h1:-60000<=j)(h2:j<=60000):(nD j).gY:=by
 have hb:=NT j;have he:=JM j;refine⟨rq _ _ _,.inr ⟨aC,aC,aC,aC⟩⟩
def Gh(j:Int):(nD j).ij=j/4+3:=by
 obtain⟨e,⟨g,h⟩|⟨g,h⟩|⟨g,h⟩|⟨g,h⟩⟩:=Ge j
 .rw [h,show Dy.ij ⟨false,1,e+2⟩=(ia 1:Int)+(e+2)from rfl,show ia 1=1 by decide +kernel];omega
 .rw [h,show Dy.ij ⟨false,5,e⟩=(ia 5:Int)+e from rfl,show ia 5=3 by decide +kernel];omega
 .rw [h,show Dy.ij ⟨false,3,e+1⟩=(ia 3:Int)+(e+1)from rfl,show ia 3=2 by decide +kernel];omega
 .rw [h,show Dy.ij ⟨false,7,e⟩=(ia 7:Int)+e from rfl,show ia 7=3 by decide +kernel];omega
def qn(m:Nat)(e:Int):Dy:=if ia m<=3 then⟨false,m,e⟩else canon false (m/2^(ia m-3)) (e+((ia m-3:Nat):Int))
def ahp{j:Int}(h1:-16384<=(nD j).e)(h2:j/4+3<=16384):(nD j).gY:=by
 have ht:=Gh j;unfold Dy.ij at ht;rw[aY (NW j)]at ht;have hb:=nR (NW j);have hc:=NT j;exact⟨rq _ _ _,.inr ⟨aC,h1,aC,aC⟩⟩
def Ob{d:Dy}(hd:d.gY)(hs:0<d.iK):∃ j:Int,qn d.m d.e=nD j/\(nD j).gY/\(nD j).q<=d.q:=by
 have hm:d.m≠0/\d.neg=false:=by
  rcases CN d with⟨_,h⟩|⟨_,_,h⟩|⟨h0,hn,_⟩
  .omega
  .omega
  .exact ⟨h0,hn⟩
 obtain⟨h0,hn⟩:=hm;have ho:d.m%2=1:=by
  rcases hd.canon with⟨h,_⟩|h
  .exact absurd h h0
  .exact h
 have hr:=hd.range;unfold mB at hr;obtain⟨r1,r2,r3,r4⟩:=hr.resolve_left h0;obtain⟨neg,m,e⟩:=d;simp only at h0 hn ho r1 r2 r3 r4 ⊢;subst hn;by_cases hb:ia m<=3
 .unfold qn;rw[aZ hb];have h8:m<8:=bJ (ql m) (bI aE hb);have key:∃ j:Int,(⟨false,m,e⟩:Dy)=nD j:=by
   have:m=1\/m=3\/m=5\/m=7:= aC ;rcases this with rfl|rfl|rfl|rfl
   .exact ⟨4*(e-2),by rw[V9 (e:=e-2) aC];congr 1;omega⟩
   .exact ⟨4*(e-1)+2,by rw[Wb (e:=e-1) aC];congr 1;omega⟩
   .exact ⟨4*e+1,(Wa rfl).symm⟩
   .exact ⟨4*e+3,(Wc rfl).symm⟩
  obtain⟨j,hj⟩:=key;refine⟨j,hj,?_,?_⟩
  .rw [<-hj];exact hd
  .rw [<-hj];exact b6
 .obtain ⟨k,hk⟩:∃ k,ia m=k+3:=⟨ia m-3,aC⟩
  have xN:4<=m/2^k:=by
   have:=rK h0;rw[hk,(aC:k+3-1=2+k),bh]at this;rw[cP (bj aE)];exact this
  have ua:m/2^k<8:=by
   have:=ql m;rw[hk,(aC:k+3=3+k),bh]at this;rw[ct (bj aE)];exact this
  have hj:qn m e=nD (4*(e+(k:Int))+((m/2^k:Nat):Int)-4):=by
   unfold qn;rw[aY hb,(aC:ia m-3=k)];generalize m/2^k=q at xN ua;unfold nD;rw[show kj (4*(e+(k:Int))+(q:Int)-4)=q by unfold kj;omega,show(4*(e+(k:Int))+(q:Int)-4)/4=e+(k:Int)by omega]
  refine⟨_,hj,?_,?_⟩
  .have h1:=(JM (4*(e+(k:Int))+((m/2^k:Nat):Int)-4)).1;exact ahp aC aC 
  .rw [<-hj];unfold qn;rw[aY hb,(aC:ia m-3=k),qI,pF];show((m/2^k:Nat):Rat)*P2 (e+(k:Int))<=(m:Rat)*P2 e;rw[Int.add_comm,pH,ur,<-dM];refine(uZ e).2 ?_;have:=cU m (2^k)
   exact_mod_cast this
def rA(h:Dy)(iV:Int):Nat->Dy->Bool
 | 0,m=>decide (iO m (jz (0-iV))<=0)
 |r+1,m=>if kp (jt m h)=0 then rA h iV r (jq (jt m h))else decide (m.ij+((r+1:Nat):Int)*h.ij<=0-iV)
def jy(h:Dy):Nat->Dy->Dy
 | 0,m=>m
 |i+1,m=>jq (jt (jy h i m) h)
def qE(h:Dy)(i:Nat)(m:Dy):Bool:=kp (jt (jy h i m) h)==0
def NR(h:Dy):∀ i m,jy h (i+1) m=jy h i (jq (jt m h))
 | 0,_=>rfl
 |i+1,m=>by
  show jq (jt (jy h (i+1) m) h)=jq (jt (jy h i (jq (jt m h))) h);rw[NR h i m]
def ahW(h:Dy)(i:Nat)(m:Dy):qE h (i+1) m=qE h i (jq (jt m h)):=by
 unfold qE;rw[NR]
def sM{h m:Dy}(hm:m.gY):∀ i,(jy h i m).gY
 | 0=>hm
 |_+1=>EO (rq _ _ _)
def LZ{h:Dy}{iV:Int}:∀ (N k:Nat) (m:Dy),N<=k->(∀ i,i<N->qE h i m=true)->rA h iV k m=rA h iV (k-N) (jy h N m)
 | 0,_,_,_,_=>rfl
 |N+1,k,m,hN,ho=>by
  obtain⟨k,rfl⟩:∃ k',k=k'+1:=⟨k-1,aC⟩
  have h0:=ho 0 aC;have e:rA h iV (k+1) m=rA h iV k (jq (jt m h)):=aZ (fP.1 h0);rw[e,LZ N k _ aC λi hi=>by rw[<-ahW];exact ho (i+1) aC,<-NR,(aC:k+1-(N+1)=k-N)]
def II{h:Dy}{iV:Int}{k:Nat}{m:Dy}(ho:∀ i,i<k->qE h i m=true):rA h iV k m=decide (iO (jy h k m) (jz (0-iV))<=0):=by
 rw[LZ k k m (bc _) ho,cX];rfl
def IJ{h:Dy}{iV:Int}{k N:Nat}{m:Dy}(hN:N<k)(ho:∀ i,i<N->qE h i m=true)(hn:qE h N m=false):
 rA h iV k m=decide ((jy h N m).ij+((k:Int)-N)*h.ij<=0-iV):=by
 rw[LZ N k m aC ho];obtain⟨r,hr⟩:∃ r,k-N=r+1:=⟨k-N-1,aC⟩
 rw[hr];have e:rA h iV (r+1) (jy h N m)=decide ((jy h N m).ij+((r+1:Nat):Int)*h.ij<=0-iV):=aY (beq_eq_false_iff_ne.1 hn);rw[e,show((r+1:Nat):Int)=k-(N:Int)by omega]
def JX(h m:Dy)(k:Nat):(∀ i,i<k->qE h i m=true)\/∃ N,N<k/\(∀ i,i<N->qE h i m=true)/\qE h N m=false:=by
 induction k with
 |zero=>exact .inl λi hi=>absurd hi (bn i)
 |succ k ih=>
  rcases ih with h1|⟨N,h1,h2,h3⟩
  .cases hk:qE h k m with
   |true=>
    refine .inl λi hi=>?_
    by_cases q:i=k
    .subst q;exact hk
    .exact h1 i aC 
   |false=>exact .inr ⟨k,ej _,h1,hk⟩
  .exact .inr ⟨N,aC,h2,h3⟩
def SX{h:Dy}{t t':Int}(ht:t<=t'):∀ (k:Nat) (m:Dy),rA h t' k m=true->rA h t k m=true
 | 0,m,hf=>by
  have h1:=cC hf;refine a6 ?_;rw[oJ]at h1 ⊢;refine bH h1 ?_;have e:∀ z:Int,(jz z).q=P2 z:=λz=>by rw[pF];show((1:Nat):Rat)*P2 z=P2 z;simp
  rw[e,e];exact CZ aC 
 |k+1,m,hf=>by
  unfold rA at hf ⊢;split
  .rename_i hc;rw[aZ hc]at hf;exact SX ht k _ hf
  .rename_i hc;rw[aY hc]at hf;have h1:=cC hf;exact a6 aC 
def qd(l:List Dy)(h:Dy)(k:Nat)(iV:Int):Bool:=(List.range l.length).all λi=>rA h iV k (l.getD i iq)
def adV{l:List Dy}{h:Dy}{k:Nat}{t t':Int}(ht:t<=t')(hf:qd l h k t'=true):qd l h k t=true:=
 bN.2 λi hi=>SX ht _ _ (bN.1 hf i hi)
structure Eu(F E:Int->Bool)(j0:Int)(n1 n2:Nat):Prop where
 a:∀ n:Nat,n<n1 -> -248<=j0-n/\F (j0-n)=false
 b:j0-n1 < -248\/F (j0-n1)=true
 c:n2<=40
 d:∀ n:Nat,n<n2 -> -248<=j0-n1-n/\E (j0-n1-n)=false
 e:n2=40\/j0-n1-n2 < -248\/E (j0-n1-n2)=true
def ND{P:Nat->Bool}{n:Nat}(h:P n=true):∃ N,N<=n/\P N=true/\∀ k,k<N->P k=false:=by
 induction n using Nat.strongRecOn with
 |ind n ih=>
  by_cases q:∃ k,k<n/\P k=true
  .obtain ⟨k,h1,h2⟩:=q;obtain⟨N,h3,h4,h5⟩:=ih k h1 h2;exact⟨N,aC,h4,h5⟩
  .exact ⟨n,bc _,h,λk hk=>by
    cases hp:P k with
    |false=>rfl
    |true=>exact absurd ⟨k,hk,hp⟩ q⟩
def ag0(F E:Int->Bool)(j0:Int):∃ n1 n2,Eu F E j0 n1 n2:=by
 obtain⟨n1,_,h1,h2⟩:=ND (P:=λn=>decide (j0-(n:Int) < -248)||F (j0-(n:Int))) (n:=(j0+249).toNat) (by
  rw[dx];exact .inl (a6 aC))
 obtain⟨n2,h3,h4,h5⟩:=ND (P:=λn=>decide (n=40)||decide (j0-(n1:Int)-n < -248)||E (j0-(n1:Int)-n)) (n:=40) aH ;simp only[dx,b9,eD,anl]at h1 h2 h4 h5;refine⟨n1,n2,λn hn=>⟨by have:=(h2 n hn).1;omega,(h2 n hn).2⟩,h1,h3,λn hn=>⟨by have:=(h5 n hn).1.2;omega,(h5 n hn).2⟩,?_⟩;rcases h4 with(h|h)|h
 .exact .inl h
 .exact .inr (.inl h)
 .exact .inr (.inr h)
def CY(j0:Int)(n1 n2:Nat):Prop:=n2<40 /\ -248<=j0-n1-n2
def ag1{F F' E:Int->Bool}{j0 j0':Int}{n1 n2 m1 m2:Nat}(h:Eu F E j0 n1 n2)(h':Eu F' E j0' m1 m2)(hj:j0'<=j0)(hF:∀ j,F' j=true->F j=true)
 (hf:CY j0 n1 n2) (hf':CY j0' m1 m2):j0'-m1-m2<=j0-n1-n2:=by
 apply bL;intro hc;obtain⟨f1,f2⟩:=hf;obtain⟨g1,g2⟩:=hf';have e':E (j0'-m1-m2)=true:=by
  rcases h'.e with q|q|q
  .omega
  .omega
  .exact q
 have b':F' (j0'-m1)=true:=by
  rcases h'.b with q|q
  .omega
  .exact q
 have hle:j0'-m1<=j0-n1:=by
  apply bL;intro q;have:=(h.a (j0-(j0'-m1)).toNat aC).2;rw[(aC:j0-((j0-(j0'-m1)).toNat:Int)=j0'-m1),hF _ b']at this;cases this
 have:=(h.d (j0-n1-(j0'-m1-m2)).toNat aC).2;rw[(aC:j0-(n1:Int)-((j0-n1-(j0'-m1-m2)).toNat:Int)=j0'-m1-m2),e']at this;cases this
abbrev ru(l:List Dy)(i j:Nat):E:=(iu (l.getD i iq)).getD j .any
noncomputable def VN(s:jB)(x:List Iv)(k p:Nat)(q:Nat):PS:=⟨49,true,[(12,.own 12),(29,.e (iP q)),(28,.e (iP ((je s x p k).length:Int))),(27,.e (kS (je s x p k))),(2,.e (iP k))],[(12,.row true 31 q 3 (ru ((List.range q).map λi=>kB (((je s x p k).getD i []).getD k gU))))]⟩
noncomputable def VO(s:jB)(x:List Iv)(k p:Nat)(q:Nat):PS:=⟨49,true,[(12,.own 12),(29,.e (iP q)),(28,.e (iP ((je s x p k).length:Int))),(27,.e (kS (je s x p k))),(2,.e (iP k))],[(12,.row true 31 q 3 (ru ((List.range q).map λi=>kB (((je s x p k).getD i []).getD k gU))))]⟩
def Qb{n:Nat}{f:Nat->Bool}(h:¬(List.range n).all f=true):∃ N,N<n/\(!f N)=true/\∀ k,k<N->(!f k)=false:=by
 have hx:∃ N,N<n/\f N=false:=by
  apply bL;intro q;apply h;refine bN.2 λi hi=>?_
  cases hf:f i with
  |true=>rfl
  |false=>exact absurd ⟨i,bW.1 hi,hf⟩ q
 obtain⟨M,hM,hf⟩:=hx;obtain⟨N,h1,h2,h3⟩:=ND (P:=λi=>!f i) (n:=M) (by rw[hf];rfl);exact⟨N,aC,h2,h3⟩
def ahl{a b:Dy}(h:a.m=0):jt a b=iq:=by
 unfold jt canon;rw[h,cD,aZ rfl];rfl
def ahm{a b:Dy}(h:b.m=0):jt a b=iq:=by
 unfold jt canon;rw[h,cI,aZ rfl];rfl
def Il:jq iq=iq/\kp iq=0:=⟨Ab (.inl rfl),EN (.inl rfl)⟩
def aaA{a b:Nat}(h1:a≠0)(h2:b≠0):ia a+ia b-1<=ia (a*b):=by
 have p1:=rK h1;have p2:=rK h2;have q1:=nR h1;have q2:=nR h2;have h:=dk p1 p2;rw[<-bh]at h;apply bL;intro q;have h3:=lZ.1 (aC:ia (a*b)<=ia a-1+(ia b-1));omega
def V6{a b:Dy}(ha:a.gY)(hb:b.gY)(h1:a.m≠0)(h2:b.m≠0)(hs:4096<ia a.m+ia b.m-1):jq (jt a b)=iq/\kp (jt a b)=9:=by
 have o1:=ha.canon.resolve_left λq=>h1 q.1
 have o2:=hb.canon.resolve_left λq=>h2 q.1
 have hm:(jt a b).m=a.m*b.m:=by
  unfold jt canon;rw[aY (dg h1 h2)];have:(a.m*b.m)%2=1:=by rw[Nat.mul_mod,o1,o2]
  have hz:jl (a.m*b.m)=0:=Ip this;rw[hz,cw,eI]
 have lQ:=aaA h1 h2;have hn:¬mB (jt a b):=λq=>by
  unfold mB at q;rw[hm]at q;rcases q with q|q
  .exact dg h1 h2 q
  .omega
 exact⟨Ik hn,EM hn⟩
def Ix(m:Nat)(h:(gS m).length<=256):gR 91 [gW (gS m)] (iP (ia m:Int)):=
 ak call91 func91 (af [ag [gW (gS m)] (sj _ aC)]) 
def aab(a b:Dy)(ha:a.gY)(hb:b.gY)(h1:a.m=0):gR 66 [gV a,gV b] (.ig [gV (jq (jt a b)),iP (kp (jt a b))]):=
 ak call66 func66 (ae [ag [gV a] (ng _ aD),ag [gV b] (ng _ aD),ah 20 (((gS a.m).length:Int)==0) (tw (wa.2 h1)),.o 27 (.e qN:aj (.agg ar) (gV iq))]<|rQ (.ig [gV iq,iP 0]) (.ig [gV (jq (jt a b)),iP (kp (jt a b))]) (by rw[ahl h1,Il.1,Il.2])) 
def aac(a b:Dy)(ha:a.gY)(hb:b.gY)(h1:a.m≠0)(h2:b.m=0):gR 66 [gV a,gV b] (.ig [gV (jq (jt a b)),iP (kp (jt a b))]):=
 ak call66 func66 (ae [ag [gV a] (ng _ aD),ag [gV b] (ng _ aD),ai 20 (((gS a.m).length:Int)==0) (nA (pg h1)),ah 25 (((gS b.m).length:Int)==0) (tw (wa.2 h2)),.o 27 (.e qN:aj (.agg ar) (gV iq))]<|rQ (.ig [gV iq,iP 0]) (.ig [gV (jq (jt a b)),iP (kp (jt a b))]) (by rw[ahm h2,Il.1,Il.2])) 
def aad(a b:Dy)(ha:a.gY)(hb:b.gY)(h1:a.m≠0)(h2:b.m≠0)(hs:4096<ia a.m+ia b.m-1):gR 66 [gV a,gV b] (.ig [gV (jq (jt a b)),iP (kp (jt a b))]):=by
 have la:=ha.gS;have lb:=hb.gS;have ea:=ha.exp;have eb:=hb.exp;have ra:=(ha.range.resolve_left h1).1;have rb:=(hb.range.resolve_left h2).1;exact ak call66 func66 (ae [ag [gV a] (ng _ aD),ag [gV b] (ng _ aD),ai 20 (((gS a.m).length:Int)==0) (nA (pg h1)),ai 25 (((gS b.m).length:Int)==0) (nA (pg h2)),.c (Ix a.m aC),.c (Ix b.m aC),ik ((ia a.m:Int)+(ia b.m:Int)) aC,
  ik (((ia a.m:Int)+(ia b.m:Int))-1) aC,tT 36 (4096<(((ia a.m:Int)+(ia b.m:Int))-1)) aC,.o 37 (.e qN:aj (.agg ar) (gV iq))]<|rQ (.ig [gV iq,iP 9]) (.ig [gV (jq (jt a b)),iP (kp (jt a b))]) (by rw[(V6 ha hb h1 h2 hs).1,(V6 ha hb h1 h2 hs).2])) 
def aae(a b:Dy)(ha:a.gY)(hb:b.gY)(h1:a.m≠0)(h2:b.m≠0)(hs:¬4096<ia a.m+ia b.m-1):gR 66 [gV a,gV b] (.ig [gV (jq (jt a b)),iP (kp (jt a b))]):=by
 have la:=ha.gS;have lb:=hb.gS;have ea:=ha.exp;have eb:=hb.exp;have ra:=(ha.range.resolve_left h1).1;have rb:=(hb.range.resolve_left h2).1;have Uc:(gS (a.m*b.m)).length<=256:=JH (by have:=QO a.m b.m;omega);have iQ:=Ln (mH (a.m*b.m)) Uc (!(a.neg==b.neg)) (a.e+b.e);obtain⟨lQ,qV⟩:=Lj (mH (a.m*b.m)) Uc (!(a.neg==b.neg)) (a.e+b.e) aC aC;rw[kf]at iQ lQ qV;exact ak call66 func66 (ae [ag [gV a] (ng _ aD),ag [gV b] (ng _ aD),ai 20 (((gS a.m).length:Int)==0) (nA (pg h1)),ai 25 (((gS b.m).length:Int)==0) (nA (pg h2)),.c (Ix a.m aC),.c (Ix b.m aC),ik ((ia a.m:Int)+(ia b.m:Int)) aC,
  ik (((ia a.m:Int)+(ia b.m:Int))-1) aC,tF 36 (4096<(((ia a.m:Int)+(ia b.m:Int))-1)) aC,ag [gW (gS a.m),gW (gS b.m)] (xV _ _ aC aC aC),ik (a.e+b.e) aC,ag [bP (!(a.neg==b.neg)),gW (gS (a.m*b.m)),iP (a.e+b.e)] (Qp _ _ _ aC aC aC),ag [gV (canon (!(a.neg==b.neg)) (a.m*b.m) (a.e+b.e))] (Qq _ aC aC aC)]<|rR (.ig [gV (jq (jt a b)),iP (kp (jt a b))]) (.iM rfl:E.le (.ig [gV (jq (canon (!(a.neg==b.neg)) (a.m*b.m) (a.e+b.e))),iP (kp (canon (!(a.neg==b.neg)) (a.m*b.m) (a.e+b.e)))]) (.ig [gV (jq (jt a b)),iP (kp (jt a b))]))) 
def vD(a b:Dy)(ha:a.gY)(hb:b.gY):gR 66 [gV a,gV b] (.ig [gV (jq (jt a b)),iP (kp (jt a b))]):=by
 by_cases h1:a.m=0
 .exact aab a b ha hb h1
 by_cases h2:b.m=0
 .exact aac a b ha hb h1 h2
 by_cases hs:4096<ia a.m+ia b.m-1
 .exact aad a b ha hb h1 h2 hs
 .exact aae a b ha hb h1 h2 hs
def qb(k:Int):gR 27 [iP k] (gV (jz k)):=
 ak call27 func27 (ae [.o 3 (.e w8:aj (.sl false 1 1 λi_ j_=>[.v (.int .u32 1)].getD (i_*1+j_) (.v (.bool false))) (gW (gS 1)))]<|rR (gV (jz k)) (.iM rfl:E.le (gV (Dy.mk false 1 k)) (gV (jz k)))) 
def NV(j:Int):(nD j).m<8:=by
 have h:=ql (nD j).m;exact bJ h (bI aE (NT j))
def Gf(j:Int):(gS (nD j).m).length=1/\(gS (nD j).m).getD 0 0=(nD j).m:=by
 have h8:=NV j;rw[AM (NW j),cO aC,nU,bX aC];exact⟨rfl,rfl⟩
def ahr(j:Int):(nD j).m*2^((nD j).e-j/4).toNat=kj j:=by
 obtain⟨e,⟨g,h⟩|⟨g,h⟩|⟨g,h⟩|⟨g,h⟩⟩:=Ge j
 .rw [h,show kj j=4 by unfold kj;omega];show 1*2^(e+2-j/4).toNat=4;rw[show(e+2-j/4).toNat=2 by omega]
 .rw [h,show kj j=5 by unfold kj;omega];show 5*2^(e-j/4).toNat=5;rw[show(e-j/4).toNat=0 by omega]
 .rw [h,show kj j=6 by unfold kj;omega];show 3*2^(e+1-j/4).toNat=6;rw[show(e+1-j/4).toNat=1 by omega]
 .rw [h,show kj j=7 by unfold kj;omega];show 7*2^(e-j/4).toNat=7;rw[show(e-j/4).toNat=0 by omega]
def Wf(j:Int):nD (j-1)=if kj j=4 then canon false 7 (j/4-1)else canon false (kj j-1) (j/4):=by
 split
 .rename_i h;have:j%4=0:=by unfold kj at h;omega
  unfold nD;rw[show kj (j-1)=7 by unfold kj;omega,show(j-1)/4=j/4-1 by omega]
 .rename_i h;have:j%4≠0:=by unfold kj at h;omega
  unfold nD;rw[show kj (j-1)=kj j-1 by unfold kj;omega,show(j-1)/4=j/4 by omega]
def Vv{m:Nat}(h0:0<m)(h:m<4294967296):E.le (.sl false 1 1 λi j=>[E.v (.int .u32 (m:Int))].getD (i*1+j) (.v (.bool false))) (gW (gS m)):=by
 have e1:gS m=[m]:=by rw[AM aC,cO h,nU,bX h]
 rw[e1];refine .sl λi j hi hj=>?_
 obtain rfl:i=0:= aC ;obtain rfl:j=0:= aC ;exact⟨.refl _,rfl⟩
def Wg(j:Int):IntKind.i64.wrap ((((gS (nD j).m).getD 0 0:Nat):Int)*2^((nD j).e-j/4).toNat)=(kj j:Int):=by
 rw[(Gf j).2];have h:=ahr j;have e:((nD j).m:Int)*2^((nD j).e-j/4).toNat=(((nD j).m*2^((nD j).e-j/4).toNat:Nat):Int):=by rw[ek,Int.natCast_pow];rfl
 rw[e,h];have:=JQ j;exact i64_in _ aC aC 
def aaT(j:Int)(h1:-30000<=j)(h2:j<=30000)(h4:kj j=4):gR 29 [gV (nD j)] (.ig [gV (nD (j-1)),bP true]):=by
 have hv:(nD j).gY:=uh aC aC;have hw:(nD (j-1)).gY:=uh aC aC;have hm:=JQ j;have he:=JM j;have hl:=(Gf j).1;have ns:=(Gf j).2;have h8:=NV j;have ht:=Gh j;have hp:=Wf j;rw[aZ h4]at hp;have hr:=hw.range;rw[hp]at hr;have hl7:(gS 7).length<=256:=bg (uX (k:=1) aE) aE;exact ak call29 func29 (ae [ag [gV (nD j)] (mQ _ aD),ik ((Dy.ij (nD j))-3) aC,.o 10 (aq ((Dy.ij (nD j))-3) (j/4) (by rw[Gh];omega)),iX 0 ((gS ((nD j).m)).length) aC,.o 15 (aq (IntKind.i64.wrap (((gS ((nD j).m)).getD 0 0:Nat):Int)) (((gS ((nD j).m)).getD 0 0:Nat):Int) (Jt _ aC)),ik (((nD j).e)-(j/4)) aC,.a (aC:0<=((((nD j).e)-(j/4)):Int)/\((((nD j).e)-(j/4)):Int)<=((64:Nat):Int)),.o 20 (aq (IntKind.i64.wrap ((((gS ((nD j).m)).getD 0 0:Nat):Int)*2^((((nD j).e)-(j/4))).toNat)) (kj j:Int) (Wg j)),ik ((kj j:Int)-1) aC,.o 22 (aq ((kj j:Int)-1) ((kj j-1:Nat):Int) aC),ah 24 (((kj j-1:Nat):Int)==3) (aU aC),ik ((j/4)-1) aC,.o 29 (.int aE:aj (.v (.int .u32 (IntKind.u32.wrap 7))) (.v (.int .u32 7))),.o 30 (.e (Vv (m:=7) aC aC):aj (.sl false 1 1 λi_ j_=>[.v (.int .u32 7)].getD (i_*1+j_) (.v (.bool false))) (gW (gS 7))),ag [bP false,gW (gS 7),iP ((j/4)-1)] (xA _ _ _ aD aC aC aD),ah 37 ((0:Int)==0) aE]<|rQ (.ig [gV (canon false 7 ((j/4)-1)),bP true]) (.ig [gV (nD (j-1)),bP true]) (by rw[hp])) 
def aaU(j:Int)(h1:-30000<=j)(h2:j<=30000)(h4:¬kj j=4):gR 29 [gV (nD j)] (.ig [gV (nD (j-1)),bP true]):=by
 have hv:(nD j).gY:=uh aC aC;have hw:(nD (j-1)).gY:=uh aC aC;have hm:=JQ j;have he:=JM j;have hl:=(Gf j).1;have ns:=(Gf j).2;have h8:=NV j;have ht:=Gh j;have hp:=Wf j;rw[aY h4]at hp;have hr:=hw.range;rw[hp]at hr;have hl7:(gS (kj j-1)).length<=256:=bg (uX (k:=1) aC) aE;exact ak call29 func29 (ae [ag [gV (nD j)] (mQ _ aD),ik ((Dy.ij (nD j))-3) aC,.o 10 (aq ((Dy.ij (nD j))-3) (j/4) (by rw[Gh];omega)),iX 0 ((gS ((nD j).m)).length) aC,.o 15 (aq (IntKind.i64.wrap (((gS ((nD j).m)).getD 0 0:Nat):Int)) (((gS ((nD j).m)).getD 0 0:Nat):Int) (Jt _ aC)),ik (((nD j).e)-(j/4)) aC,.a (aC:0<=((((nD j).e)-(j/4)):Int)/\((((nD j).e)-(j/4)):Int)<=((64:Nat):Int)),.o 20 (aq (IntKind.i64.wrap ((((gS ((nD j).m)).getD 0 0:Nat):Int)*2^((((nD j).e)-(j/4))).toNat)) (kj j:Int) (Wg j)),ik ((kj j:Int)-1) aC,.o 22 (aq ((kj j:Int)-1) ((kj j-1:Nat):Int) aC),ai 24 (((kj j-1:Nat):Int)==3) (aT aC),.o 29 (.int (by rw[IntKind.wrap_u32];omega):aj (.v (.int .u32 (IntKind.u32.wrap ((kj j-1:Nat):Int)))) (.v (.int .u32 ((kj j-1:Nat):Int)))),.o 30 (.e (Vv (m:=(kj j-1)) aC aC):aj (.sl false 1 1 λi_ j_=>[.v (.int .u32 ((kj j-1:Nat):Int))].getD (i_*1+j_) (.v (.bool false))) (gW (gS (kj j-1)))),ag [bP false,gW (gS (kj j-1)),iP (j/4)] (xA _ _ _ aD aC aC aD),ah 37 ((0:Int)==0) aE]<|rQ (.ig [gV (canon false (kj j-1) (j/4)),bP true]) (.ig [gV (nD (j-1)),bP true]) (by rw[hp])) 
def zY(j:Int)(h1:-30000<=j)(h2:j<=30000):gR 29 [gV (nD j)] (.ig [gV (nD (j-1)),bP true]):=by
 by_cases h4:kj j=4
 .exact aaT j h1 h2 h4
 .exact aaU j h1 h2 h4
def ahN{d:Dy}(h0:0<d.iK)(h3:ia d.m<=3):lN d=qn d.m d.e:=by
 unfold qn lN;rw[aZ h3]
def abp(d:Dy)(hv:d.gY)(h0:0<d.iK)(h3:ia d.m<=3):gR 15 [gV d] (.ig [gV (qn d.m d.e),bP true]):=by
 obtain⟨j,yM,MI,_⟩:=Ob hv h0;have hl:=hv.gS;have he:=hv.exp;have hb:ia d.m<=4096:=by
  rcases hv.range with q|q
  .rw [q,rO];omega
  .exact q.1
 exact ak call15 func15 (ae [ag [gV d] (ng _ aD),ag [gV d] (mP _ aD),tF 15 ((Dy.iK d)<=0) aC,ag [gV d] (Dk _ aD),
  ik ((ia (Dy.m d):Int)-3) aC,tT 22 (((ia (Dy.m d):Int)-3)<=0) aC,.c (Dj d aD)]<|rQ (.ig [gV (lN d),bP true]) (.ig [gV (qn d.m d.e),bP true]) (by rw[ahN h0 h3])) 
def abq(d:Dy)(hv:d.gY)(h0:0<d.iK)(h3:¬ia d.m<=3):gR 15 [gV d] (.ig [gV (qn d.m d.e),bP true]):=by
 obtain⟨j,yM,MI,_⟩:=Ob hv h0;have hl:=hv.gS;have he:=hv.exp;have hb:ia d.m<=4096:=by
  rcases hv.range with q|q
  .rw [q,rO];omega
  .exact q.1
 have hlq:=bg (mC (bT d.m (2^(ia d.m-3)))) hl;have hr:=MI.range;rw[<-yM]at hr;unfold qn at hr;rw[aY h3]at hr;exact ak call15 func15 (ae [ag [gV d] (ng _ aD),ag [gV d] (mP _ aD),tF 15 ((Dy.iK d)<=0) aC,ag [gV d] (Dk _ aD),
  ik ((ia (Dy.m d):Int)-3) aC,.o 20 (aq ((ia (Dy.m d):Int)-3) ((ia d.m-3:Nat):Int) aC),tF 22 (((ia d.m-3:Nat):Int)<=0) aC,ag [gW (gS d.m),iP ((ia d.m-3:Nat):Int)] (JP _ _ aC aC),ik (d.e+((ia d.m-3:Nat):Int)) aC,ag [bP false,gW (gS (d.m/2^(ia d.m-3))),iP (d.e+((ia d.m-3:Nat):Int))] (xA _ _ _ aD aC aC aD),ah 43 ((0:Int)==0) aE]<|rQ (.ig [gV (canon false (d.m/2^(ia d.m-3)) (d.e+((ia d.m-3:Nat):Int))),bP true]) (.ig [gV (qn d.m d.e),bP true]) (by unfold qn;rw[aY h3])) 
def QY(d:Dy)(hv:d.gY)(h0:0<d.iK):gR 15 [gV d] (.ig [gV (qn d.m d.e),bP true]):=by
 by_cases h3:ia d.m<=3
 .exact abp d hv h0 h3
 .exact abq d hv h0 h3
def ac2(d:Dy)(j:Nat)(hj:j<3):((iu d).getD j .any).nr 2=true:=by
 rcases j with _|_|_|j
 all_goals first|rfl|omega
def adb{T n:Nat}{xs:List Dy}{y:Dy}(hn:n=xs.length):
 Bx.le (.row true T (n+[y].length) 3 λi j=>if i<n then ru xs i j else(E.kJ (kg [y])) (i-n) j) (.row true T (xs++[y]).length 3 (ru (xs++[y]))):=by
 subst hn;refine .row aH λi j hi hj=>⟨.iM ?_,ac2 _ _ hj⟩
 by_cases h:i<xs.length
 .rw [aZ h];show(iu (xs.getD i iq)).getD j .any=(iu ((xs++[y]).getD i iq)).getD j .any;congr 2;simp[bd,dw h]
 .have mo:i=xs.length:=by simp at hi;omega
  subst mo;rw[aY h,cX];show(iu y).getD j .any=(iu ((xs++[y]).getD xs.length iq)).getD j .any;congr 2;simp[bd]
def R9{T n k:Nat}{F:Nat->Dy}{y:Dy}(hn:n=k)(hy:y=F k):
 Bx.le (.row true T (n+[y].length) 3 λi j=>if i<n then ru ((List.range k).map F) i j else(E.kJ (kg [y])) (i-n) j) (.row true T (k+1) 3 (ru ((List.range (k+1)).map F))):=by
 subst hn hy;have h:=adb (T:=T) (n:=n) (xs:=(List.range n).map F) (y:=F n) aH;have e:(List.range n).map F++[F n]=(List.range (n+1)).map F:=by rw[am5,fC];rfl
 rw[e]at h;have e2:((List.range (n+1)).map F).length=n+1:= aH ;rw[e2]at h;exact h
def R8{T:Nat}{e e':Nat->Nat->E}:Bx.le (.row true T 0 3 e) (.row true T 0 3 e'):=.row rfl λi j hi=>absurd hi (bn i)
def ada{n:Nat}{xs:List Dy}(h:n=xs.length):E.le (.sl true n 3 (ru xs)) (kg xs):=by subst h;exact .refl _
def abl(s:jB)(x:List Iv)(k p:Nat)(h:lM s)(hx:ko s.iI x)(hk:k<=16)(ic:8<=p)(gX:p<=512)(hm:∀ q,q<(je s x p k).length->(((je s x p k).getD q []).getD k gU).all=false):gR 26 [kU s,gZ x,iP k,iP p] (.ig [kg ((List.range ((je s x p k).length)).map λi=>kB (((je s x p k).getD i []).getD k gU)),bP true]):=by
 have hj:=FX h hx ic gX k hk;have T6:=uV s x p k;have lx:=hx.len;have s4:=h.s4;exact ak call26 func26 (ae [.c (Rz s x k p h hx ic gX aC),ai 26 ((0:Int) != 0) aE,.y 12 12 true 31 3 (ru []),.s (Sp.jH (VN s x k p) 0 ((je s x p k).length) aC (λq hq afo=>by
    have Fx:=hj q aC;have ML:=Fx.len;have MM:=Fx.ok k;have FB:=hm q aC;have rE:[kB (((je s x p k).getD q []).getD k gU)].length=1:=rfl;exact iB (ae [tT 30 ((q:Int)<((je s x p k).length:Int)) aC,iX (q:Int) ((je s x p k).length) aC,iX (k:Int) (((je s x p k).getD q []).length) aC,.c (FW (((je s x p k).getD q []).getD k gU) aD FB),.o 45 (.e (E4 _):aj (.sl true 1 3 λi_ j_=>(iu (kB (((je s x p k).getD q []).getD k gU))).getD (i_*3+j_) (.v (.bool false))) (kg [kB (((je s x p k).getD q []).getD k gU)])),.a (aC:(q+[kB (((je s x p k).getD q []).getD k gU)].length)*40<=140737488355328),ik ((q:Int)+1) aC]<|.e (af [.b 12 (R9 rfl rfl:Bx.le (.row true 31 (q+[kB (((je s x p k).getD q []).getD k gU)].length) 3 (λi_ j_=>if i_<q then(ru ((List.range q).map λi=>kB (((je s x p k).getD i []).getD k gU))) i_ j_ else(E.kJ (kg [kB (((je s x p k).getD q []).getD k gU)])) (i_-q) j_)) (.row true 31 (q+1) 3 (ru ((List.range (q+1)).map λi=>kB (((je s x p k).getD i []).getD k gU)))))])) aF)
  (λhq=>by
    exact iB (af [tF 30 (((je s x p k).length:Int)<((je s x p k).length:Int)) aC]) aF) aI:jD 6 Tryz.f26 (VN s x k p 0) (.exit 0) ⟨49,true,[(12,.own 12)],[(12,.row true 31 ((je s x p k).length) 3 (ru ((List.range ((je s x p k).length)).map λi=>kB (((je s x p k).getD i []).getD k gU))))]⟩) (af [.b 12 (R8:Bx.le (.row true 31 0 3 (ru [])) (.row true 31 0 3 (ru ((List.range 0).map λi=>kB (((je s x p k).getD i []).getD k gU)))))])]<|rR (.ig [kg ((List.range ((je s x p k).length)).map λi=>kB (((je s x p k).getD i []).getD k gU)),bP true]) (.ig (.cons (ada aH) (.cons (.refl _) .nil)):E.le (.ig [.sl true ((je s x p k).length) 3 (ru ((List.range ((je s x p k).length)).map λi=>kB (((je s x p k).getD i []).getD k gU))),bP true]) (.ig [kg ((List.range ((je s x p k).length)).map λi=>kB (((je s x p k).getD i []).getD k gU)),bP true]))) 
def abj(s:jB)(x:List Iv)(k p:Nat)(h:lM s)(hx:ko s.iI x)(hk:k<=16)(ic:8<=p)(gX:p<=512)(N:Nat)(hN:N<(je s x p k).length)(hm:∀ q,q<N->(((je s x p k).getD q []).getD k gU).all=false)(MU:(((je s x p k).getD N []).getD k gU).all=true):gR 26 [kU s,gZ x,iP k,iP p] (.ig [.v (.slice none 0 0),bP false]):=by
 have hj:=FX h hx ic gX k hk;have T6:=uV s x p k;have lx:=hx.len;have s4:=h.s4;exact ak call26 func26 (af [.c (Rz s x k p h hx ic gX aC),ai 26 ((0:Int) != 0) aE,.y 12 12 true 31 3 (ru []),.s (Sp.jH (VO s x k p) 0 N aC (λq hq afo=>by
    have Fx:=hj q aC;have ML:=Fx.len;have MM:=Fx.ok k;have FB:=hm q aC;have rE:[kB (((je s x p k).getD q []).getD k gU)].length=1:=rfl;exact iB (ae [tT 30 ((q:Int)<((je s x p k).length:Int)) aC,iX (q:Int) ((je s x p k).length) aC,iX (k:Int) (((je s x p k).getD q []).length) aC,.c (FW (((je s x p k).getD q []).getD k gU) aD FB),.o 45 (.e (E4 _):aj (.sl true 1 3 λi_ j_=>(iu (kB (((je s x p k).getD q []).getD k gU))).getD (i_*3+j_) (.v (.bool false))) (kg [kB (((je s x p k).getD q []).getD k gU)])),.a (aC:(q+[kB (((je s x p k).getD q []).getD k gU)].length)*40<=140737488355328),ik ((q:Int)+1) aC]<|.e (af [.b 12 (R9 rfl rfl:Bx.le (.row true 31 (q+[kB (((je s x p k).getD q []).getD k gU)].length) 3 (λi_ j_=>if i_<q then(ru ((List.range q).map λi=>kB (((je s x p k).getD i []).getD k gU))) i_ j_ else(E.kJ (kg [kB (((je s x p k).getD q []).getD k gU)])) (i_-q) j_)) (.row true 31 (q+1) 3 (ru ((List.range (q+1)).map λi=>kB (((je s x p k).getD i []).getD k gU)))))])) aF)
  (λhq=>by
    have MM:=(hj N aC).ok k;have ML:=(hj N aC).len;have FB:=MU;exact iB (af [tT 30 ((N:Int)<((je s x p k).length:Int)) aC,iX (N:Int) ((je s x p k).length) aC,iX (k:Int) (((je s x p k).getD N []).length) aC,.c (La (((je s x p k).getD N []).getD k gU) MM FB)]) aF) aI:jD 6 Tryz.f26 (VO s x k p 0) .ret ⟨49,true,[(9,.e (bP false)),(8,.e (.v (.slice none 0 0)))],[]⟩) (af [.b 12 (R8:Bx.le (.row true 31 0 3 (ru [])) (.row true 31 0 3 (ru ((List.range 0).map λi=>kB (((je s x p k).getD i []).getD k gU)))))])]) 
noncomputable def we(s:jB)(x:List Iv)(k p:Nat):List Dy:=((List.range ((je s x p k).length)).map λi=>kB (((je s x p k).getD i []).getD k gU))
noncomputable def AP(s:jB)(x:List Iv)(k p:Nat):Bool:=(List.range (je s x p k).length).all λq=>!(((je s x p k).getD q []).getD k gU).all
def abk(s:jB)(x:List Iv)(k p:Nat)(h:lM s)(hx:ko s.iI x)(hk:k<=16)(ic:8<=p)(gX:p<=512):gR 26 [kU s,gZ x,iP k,iP p] (if AP s x k p=true then .ig [kg (we s x k p),bP true]else .ig [.v (.slice none 0 0),bP false]):=by
 by_cases hb:AP s x k p=true
 .rw [aZ hb];exact abl s x k p h hx hk ic gX λq hq=>by simpa using List.all_eq_true.1 hb q (bW.2 hq)
 .rw [aY hb];obtain⟨N,n1,n2,n3⟩:=Qb hb;exact abj s x k p h hx hk ic gX N n1 (λq hq=>by simpa using n3 q hq) (by simpa using n2)
def ag9{s:jB}{x:List Iv}{k p:Nat}(h:lM s)(hx:ko s.iI x)(hk:k<=16)(ic:8<=p)(gX:p<=512)(hb:AP s x k p=true):(we s x k p).length<=4/\∀ i,((we s x k p).getD i iq).gY:=by
 have hj:=FX h hx ic gX k hk;have T6:=uV s x p k;have lx:=hx.len;have s4:=h.s4;refine⟨by unfold we;rw[ca,List.length_range];omega,λi=>?_⟩;by_cases hi:i<(je s x p k).length
 .have e:(we s x k p).getD i iq=kB (((je s x p k).getD i []).getD k gU):=by simp[we,bd,hi]
  rw[e];have hv:=(hj i hi).ok k;obtain⟨v1,v2⟩:=hv.j8;exact F6 v1 v2
 .have e:(we s x k p).getD i iq=iq:=by
   rw[bd,b7 (by unfold we;rw[ca,List.length_range];omega)];rfl
  rw[e];exact rn
end Go.Proofs.YtkdddbdjilcofaaGreatDoor
