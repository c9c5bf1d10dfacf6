/- Lemmas that the last file uses. -/
import Derived.Test.YtkdddbdjilcofaaGreatDoorM03
import Derived.DeepKeys
set_option linter.unusedSimpArgs false
set_option linter.unusedVariables false
set_option linter.defProp false
set_option maxHeartbeats 4000000
open Go.Proofs.Tryz
namespace Go.Proofs.YtkdddbdjilcofaaGreatDoor
open Go.RowKit Fp Pu
def Qi(a b:List Iv)(g:FuncId)(cap:List E)(i:Nat):PS:=⟨32,false,[(17,.e (iP i)),(16,.e (iP a.length)),(15,.e (gY a)),(1,.e (gY b)),(2,.e (.fn g cap))],[]⟩
def Qh(a b:List Iv)(g:FuncId)(cap:List E)(N:Nat)(i:Nat):PS:=⟨32,false,[(17,.e (iP i)),(16,.e (iP a.length)),(15,.e (gY a)),(1,.e (gY b)),(2,.e (.fn g cap))],[]⟩
def Ql(x:List Iv)(d:Dy)(i:Nat):PS:=⟨60,true,[(6,.own 6),(28,.e (iP i)),(27,.e (iP x.length)),(26,.e (gY x)),(3,.box 3 0)],[(6,.row true 44 i 7 (iF ((List.range i).map (λj_=>qo (x.getD j_ gT) d)))),(3,.cells 31 (iq d))]⟩
def Qj(x:List Iv)(d:Dy)(N:Nat)(i:Nat):PS:=⟨60,true,[(6,.own 6),(28,.e (iP i)),(27,.e (iP x.length)),(26,.e (gY x)),(3,.box 3 0)],[(6,.row true 44 i 7 (iF ((List.range i).map (λj_=>qo (x.getD j_ gT) d)))),(3,.cells 31 (iq d))]⟩
def Qk(x:List Iv)(d:Dy)(N:Nat)(i:Nat):PS:=⟨60,true,[(6,.own 6),(28,.e (iP i)),(27,.e (iP x.length)),(26,.e (gY x)),(3,.box 3 0)],[(6,.row true 44 i 7 (iF ((List.range i).map (λj_=>qo (x.getD j_ gT) d)))),(3,.cells 31 (iq d))]⟩
def Qm(a b:List Iv)(i:Nat):PS:=⟨30,true,[(5,.own 5),(13,.e (iP i)),(12,.e (iP a.length)),(0,.e (gY a)),(1,.e (gY b))],[(5,.row true 44 i 7 (iF ((List.range i).map (λj_=>pP (a.getD j_ gT) (b.getD j_ gT)))))]⟩
def Qu(x:List Iv)(p:Nat)(i:Nat):PS:=⟨42,true,[(22,.e (iP i)),(21,.e (iP x.length)),(20,.e (gY x)),(6,.box 6 0),(4,.box 4 0),(1,.e (iP p))],[(6,.cells 31 (iq (nv x p i))),(4,.cells 31 ar)]⟩
def Qt(x:List Iv)(p:Nat)(N:Nat)(i:Nat):PS:=⟨42,true,[(22,.e (iP i)),(21,.e (iP x.length)),(20,.e (gY x)),(6,.box 6 0),(4,.box 4 0),(1,.e (iP p))],[(6,.cells 31 (iq (nv x p i))),(4,.cells 31 ar)]⟩
def aaA(x:Iv)(hx:x.gX)(xa:x.all=false):gQ 63 [ia x] (bP false):=
 ak call63 func63 (af [ai 4 x.all xa,.c (qV x aD)]) 
def ug(b:List Iv)(h1:1<=b.length)(h8:b.length<=8)(hb:pU b):gQ 25 [gY b] (bP true):=
 ak call25 func25 (af [tT 5 (1<=(b.length:Int)) aC,tT 9 ((b.length:Int)<=8) aC,.c (Cb true _ _ 63 [] (λ_=>false) (λi hi=>aaA _ (hb i hi).1 (hb i hi).2) aC (λ_ _=>rfl):gQ 22 [gY b,.fn 63 []] _)]) 
def QF(a b:List Iv)(a1:1<=a.length)(a8:a.length<=8)(hl:b.length=a.length)(ha:pU a)(hb:pU b):gQ 104 [gY a,gY b] (bP true):=
 ak call104 func104 (af [.c (ug a aC aC aD),.c (ug b aC aC aD),ah 16 ((a.length:Int)==b.length) (NN aC)]) 
def ZG(a b:List Iv)(g:FuncId)(cap:List E)(f:Nat->Bool)(hl:b.length=a.length)(h8:a.length<=1000)(hp:∀ i,i<a.length->gQ g ((ia (a.getD i gT))::(ia (b.getD i gT))::cap) (bP (f i)))(jG:∀ i,i<a.length->f i=true):gQ 105 [gY a,gY b,.fn g cap] (bP true):=
 an call105 func105 (af [ai 14 ((a.length:Int) != (b.length:Int)) (uS aC),.s (Sp.jE (Qi a b g cap) 0 a.length aC (λi hi oM=>by
    exact iA (af [tT 18 ((i:Int)<a.length) aC,iX (i:Int) (a.length) aC,iX (i:Int) (b.length) aC,.c (hp i aC:gQ g ((ia (a.getD i gT))::(ia (b.getD i gT))::cap) _),ah 29 (f i) (jG i aC),ij ((i:Int)+1) aC]) aF)
  (λhi=>by
    exact iA (af [tF 18 ((a.length:Int)<a.length) aC]) aF) aI:jB 4 f105 (Qi a b g cap 0) (.exit 0) ⟨32,false,[],[]⟩) .nil]) 
def ZE(a b:List Iv)(g:FuncId)(cap:List E)(f:Nat->Bool)(hl:b.length=a.length)(h8:a.length<=1000)(hp:∀ i,i<a.length->gQ g ((ia (a.getD i gT))::(ia (b.getD i gT))::cap) (bP (f i)))(N:Nat)(pN:N<a.length)(jG:∀ i,i<N->f i=true)(hN:f N=false):gQ 105 [gY a,gY b,.fn g cap] (bP false):=
 an call105 func105 (af [ai 14 ((a.length:Int) != (b.length:Int)) (uS aC),.s (Sp.jE (Qh a b g cap N) 0 N aC (λi hi oM=>by
    exact iA (af [tT 18 ((i:Int)<a.length) aC,iX (i:Int) (a.length) aC,iX (i:Int) (b.length) aC,.c (hp i aC:gQ g ((ia (a.getD i gT))::(ia (b.getD i gT))::cap) _),ah 29 (f i) (jG i aC),ij ((i:Int)+1) aC]) aF)
  (λhi=>by
    exact iA (af [tT 18 ((N:Int)<a.length) aC,iX (N:Int) (a.length) aC,iX (N:Int) (b.length) aC,.c (hp N aC:gQ g ((ia (a.getD N gT))::(ia (b.getD N gT))::cap) _),ai 29 (f N) hN]) aF) aI:jB 4 f105 (Qh a b g cap N 0) .ret ⟨32,false,[(6,.e (bP false))],[]⟩) .nil]) 
def ZF(a b:List Iv)(g:FuncId)(cap:List E)(f:Nat->Bool)(hl:b.length=a.length)(h8:a.length<=1000)(hp:∀ i,i<a.length->gQ g ((ia (a.getD i gT))::(ia (b.getD i gT))::cap) (bP (f i))):gQ 105 [gY a,gY b,.fn g cap] (bP ((List.range a.length).all f)):=by
 by_cases h:∃ i,i<a.length/\(!(f i))=true
 .obtain ⟨N,h1,h2,h3⟩:=sG (p:=λi=>!(f i)) h;refine(ZE a b g cap f hl h8 hp N h1 (λi hi=>by simpa using h3 i hi) (by simpa using h2)).jP (.iL ?_);rw[show(List.range a.length).all f=false from amE.2 ⟨N,bW.2 h1,by simpa using h2⟩]
 .have hh:∀ i,i<a.length->f i=true:=λi hi=>by
   cases hf:f i
   .exact absurd ⟨i,hi,by rw[hf];rfl⟩ h
   .rfl
  refine(ZG a b g cap f hl h8 hp hh).jP (.iL ?_);rw[show(List.range a.length).all f=true from bN.2 λi hi=>hh i (bW.1 hi)]
def QD(a b:List Iv)(a1:1<=a.length)(a8:a.length<=8)(hl:b.length=a.length)(ha:pU a)(hb:pU b):gQ 53 [gY a,gY b] (bP (uK a b)):=
 ak call53 func53 (af [.c (QF a b aC aC aC aD aD),.c (ZF a b 106 [] (λi=>Az (a.getD i gT) (b.getD i gT)) hl aC (λi hi=>ZL _ _ (ha i hi).1 (hb i aC).1))]) 
def LY{x:Iv}{d:Dy}(h:vv x d=true):kg (iI x.lo (jl d))=0/\kg (iI x.hi d)=0:=by
 unfold vv at h;rwa[bE,b9,b9]at h
def aaw(x:List Iv)(d:Dy)(x1:1<=x.length)(x8:x.length<=8)(hx:pU x)(hd:d.gX)(h0:¬d.iJ<0)(jG:∀ i,i<x.length->vv (x.getD i gT) d=true):gQ 87 [gY x,gU d] (.ie [gY ((List.range x.length).map (λj_=>qo (x.getD j_ gT) d)),iP 0]):=
 ak call87 func87 (af [.c (ug x aC aC aD),ag [gU d] (mZ _ aD),ag [gU d] (mJ _ aD),tB 24 (a7 h0),.y 6 6 true 44 7 (iF ((List.range 0).map (λj_=>qo (x.getD j_ gT) d))),.s (Sp.jE (Ql x d) 0 x.length aC (λi hi oM=>by
    obtain⟨w1,w2⟩:=(hx i aC).1.jW;obtain⟨g1,g2⟩:=LY (jG i aC);have rq:=pA (Iv.mk (jm (iI (x.getD i gT).lo (jl d))) (jm (iI (x.getD i gT).hi d)) false);exact iA (ae [tT 29 ((i:Int)<x.length) aC,iX (i:Int) (x.length) aC,ag [gU ((x.getD i gT).lo),gU d] (Es _ _ aD aD),.c (Eo ((x.getD i gT).hi) d aD aD),ai 47 ((kg (iI ((x.getD i gT).lo) (jl d))) != 0) (by rw[g1];rfl),ai 50 ((kg (iI ((x.getD i gT).hi) d)) != 0) (by rw[g2];rfl),.o 56 (.e (lq _):aj (.sl true 1 7 λi_ j_=>(iE (Iv.mk (jm (iI ((x.getD i gT).lo) (jl d))) (jm (iI ((x.getD i gT).hi) d)) false)).getD (i_*7+j_) (.v (.bool false))) (gY [Iv.mk (jm (iI ((x.getD i gT).lo) (jl d))) (jm (iI ((x.getD i gT).hi) d)) false])),.a (aC:(i+[Iv.mk (jm (iI ((x.getD i gT).lo) (jl d))) (jm (iI ((x.getD i gT).hi) d)) false].length)*88<=140737488355328),ij ((i:Int)+1) aC]<|.e (af [.b 6 (Cc rfl rfl rfl:Bx.le (.row true 44 (i+[Iv.mk (jm (iI ((x.getD i gT).lo) (jl d))) (jm (iI ((x.getD i gT).hi) d)) false].length) 7 (λi_ j_=>if i_<i then(iF ((List.range i).map (λj_=>qo (x.getD j_ gT) d))) i_ j_ else(E.kE (gY [Iv.mk (jm (iI ((x.getD i gT).lo) (jl d))) (jm (iI ((x.getD i gT).hi) d)) false])) (i_-i) j_)) (.row true 44 (i+1) 7 (iF ((List.range (i+1)).map (λj_=>qo (x.getD j_ gT) d)))))])) aF)
  (λhi=>by
    exact iA (ae [tF 29 ((x.length:Int)<x.length) aC,.z 6]<|.e (af [.o 6 (.e (DB aH):aj (.sl true x.length 7 (iF ((List.range x.length).map (λj_=>qo (x.getD j_ gT) d)))) (gY ((List.range x.length).map (λj_=>qo (x.getD j_ gT) d))))])) aF) aI:jB 5 Tryz.f87 (Ql x d 0) (.exit 0) ⟨60,true,[(6,.e (gY ((List.range x.length).map (λj_=>qo (x.getD j_ gT) d))))],[]⟩) .nil]) 
def aau(x:List Iv)(d:Dy)(x1:1<=x.length)(x8:x.length<=8)(hx:pU x)(hd:d.gX)(h0:¬d.iJ<0)(N:Nat)(pN:N<x.length)(jG:∀ i,i<N->vv (x.getD i gT) d=true)(hN:kg (iI (x.getD N gT).lo (jl d))≠0):gQ 87 [gY x,gU d] (.ie [.v (.slice none 0 0),iP 9]):=
 ak call87 func87 (af [.c (ug x aC aC aD),ag [gU d] (mZ _ aD),ag [gU d] (mJ _ aD),tB 24 (a7 h0),.y 6 6 true 44 7 (iF ((List.range 0).map (λj_=>qo (x.getD j_ gT) d))),.s (Sp.jE (Qj x d N) 0 N aC (λi hi oM=>by
    obtain⟨w1,w2⟩:=(hx i aC).1.jW;obtain⟨g1,g2⟩:=LY (jG i aC);have rq:=pA (Iv.mk (jm (iI (x.getD i gT).lo (jl d))) (jm (iI (x.getD i gT).hi d)) false);exact iA (ae [tT 29 ((i:Int)<x.length) aC,iX (i:Int) (x.length) aC,ag [gU ((x.getD i gT).lo),gU d] (Es _ _ aD aD),.c (Eo ((x.getD i gT).hi) d aD aD),ai 47 ((kg (iI ((x.getD i gT).lo) (jl d))) != 0) (by rw[g1];rfl),ai 50 ((kg (iI ((x.getD i gT).hi) d)) != 0) (by rw[g2];rfl),.o 56 (.e (lq _):aj (.sl true 1 7 λi_ j_=>(iE (Iv.mk (jm (iI ((x.getD i gT).lo) (jl d))) (jm (iI ((x.getD i gT).hi) d)) false)).getD (i_*7+j_) (.v (.bool false))) (gY [Iv.mk (jm (iI ((x.getD i gT).lo) (jl d))) (jm (iI ((x.getD i gT).hi) d)) false])),.a (aC:(i+[Iv.mk (jm (iI ((x.getD i gT).lo) (jl d))) (jm (iI ((x.getD i gT).hi) d)) false].length)*88<=140737488355328),ij ((i:Int)+1) aC]<|.e (af [.b 6 (Cc rfl rfl rfl:Bx.le (.row true 44 (i+[Iv.mk (jm (iI ((x.getD i gT).lo) (jl d))) (jm (iI ((x.getD i gT).hi) d)) false].length) 7 (λi_ j_=>if i_<i then(iF ((List.range i).map (λj_=>qo (x.getD j_ gT) d))) i_ j_ else(E.kE (gY [Iv.mk (jm (iI ((x.getD i gT).lo) (jl d))) (jm (iI ((x.getD i gT).hi) d)) false])) (i_-i) j_)) (.row true 44 (i+1) 7 (iF ((List.range (i+1)).map (λj_=>qo (x.getD j_ gT) d)))))])) aF)
  (λhi=>by
    obtain⟨w1,w2⟩:=(hx N aC).1.jW;exact iA (af [tT 29 ((N:Int)<x.length) aC,iX (N:Int) (x.length) aC,ag [gU ((x.getD N gT).lo),gU d] (Es _ _ aD aD),.c (Eo ((x.getD N gT).hi) d aD aD),ah 47 ((kg (iI ((x.getD N gT).lo) (jl d))) != 0) (by simpa using hN)]) aF) aI:jB 5 Tryz.f87 (Qj x d N 0) .ret ⟨60,true,[(5,.e (iP 9)),(4,.e (.v (.slice none 0 0)))],[]⟩) .nil]) 
def aav(x:List Iv)(d:Dy)(x1:1<=x.length)(x8:x.length<=8)(hx:pU x)(hd:d.gX)(h0:¬d.iJ<0)(N:Nat)(pN:N<x.length)(jG:∀ i,i<N->vv (x.getD i gT) d=true)(hM:kg (iI (x.getD N gT).lo (jl d))=0)(hN:kg (iI (x.getD N gT).hi d)≠0):gQ 87 [gY x,gU d] (.ie [.v (.slice none 0 0),iP 9]):=
 ak call87 func87 (af [.c (ug x aC aC aD),ag [gU d] (mZ _ aD),ag [gU d] (mJ _ aD),tB 24 (a7 h0),.y 6 6 true 44 7 (iF ((List.range 0).map (λj_=>qo (x.getD j_ gT) d))),.s (Sp.jE (Qk x d N) 0 N aC (λi hi oM=>by
    obtain⟨w1,w2⟩:=(hx i aC).1.jW;obtain⟨g1,g2⟩:=LY (jG i aC);have rq:=pA (Iv.mk (jm (iI (x.getD i gT).lo (jl d))) (jm (iI (x.getD i gT).hi d)) false);exact iA (ae [tT 29 ((i:Int)<x.length) aC,iX (i:Int) (x.length) aC,ag [gU ((x.getD i gT).lo),gU d] (Es _ _ aD aD),.c (Eo ((x.getD i gT).hi) d aD aD),ai 47 ((kg (iI ((x.getD i gT).lo) (jl d))) != 0) (by rw[g1];rfl),ai 50 ((kg (iI ((x.getD i gT).hi) d)) != 0) (by rw[g2];rfl),.o 56 (.e (lq _):aj (.sl true 1 7 λi_ j_=>(iE (Iv.mk (jm (iI ((x.getD i gT).lo) (jl d))) (jm (iI ((x.getD i gT).hi) d)) false)).getD (i_*7+j_) (.v (.bool false))) (gY [Iv.mk (jm (iI ((x.getD i gT).lo) (jl d))) (jm (iI ((x.getD i gT).hi) d)) false])),.a (aC:(i+[Iv.mk (jm (iI ((x.getD i gT).lo) (jl d))) (jm (iI ((x.getD i gT).hi) d)) false].length)*88<=140737488355328),ij ((i:Int)+1) aC]<|.e (af [.b 6 (Cc rfl rfl rfl:Bx.le (.row true 44 (i+[Iv.mk (jm (iI ((x.getD i gT).lo) (jl d))) (jm (iI ((x.getD i gT).hi) d)) false].length) 7 (λi_ j_=>if i_<i then(iF ((List.range i).map (λj_=>qo (x.getD j_ gT) d))) i_ j_ else(E.kE (gY [Iv.mk (jm (iI ((x.getD i gT).lo) (jl d))) (jm (iI ((x.getD i gT).hi) d)) false])) (i_-i) j_)) (.row true 44 (i+1) 7 (iF ((List.range (i+1)).map (λj_=>qo (x.getD j_ gT) d)))))])) aF)
  (λhi=>by
    obtain⟨w1,w2⟩:=(hx N aC).1.jW;exact iA (af [tT 29 ((N:Int)<x.length) aC,iX (N:Int) (x.length) aC,ag [gU ((x.getD N gT).lo),gU d] (Es _ _ aD aD),.c (Eo ((x.getD N gT).hi) d aD aD),ai 47 ((kg (iI ((x.getD N gT).lo) (jl d))) != 0) (by rw[hM];rfl),ah 50 ((kg (iI ((x.getD N gT).hi) d)) != 0) (by simpa using hN)]) aF) aI:jB 5 Tryz.f87 (Qk x d N 0) .ret ⟨60,true,[(5,.e (iP 9)),(4,.e (.v (.slice none 0 0)))],[]⟩) .nil]) 
def Ad(x:List Iv)(d:Dy):Int:=if rm x d then 0 else 9
def QC(x:List Iv)(d:Dy)(x1:1<=x.length)(x8:x.length<=8)(hx:pU x)(hd:d.gX)(h0:¬d.iJ<0):gQ 87 [gY x,gU d] (.ie [gY (rI x d),iP (Ad x d)]):=by
 unfold rI Ad;cases hg:rm x d with
 |true=>
  rw[aZ rfl,aZ rfl];exact aaw x d x1 x8 hx hd h0 λi hi=>bN.1 hg i (bW.2 hi)
 |false=>
  rw[aY aE,aY aE];obtain⟨i,hi,hb⟩:=amE.1 hg;obtain⟨N,h1,h2,h3⟩:=sG (p:=λi=>!(vv (x.getD i gT) d)) ⟨i,bW.1 hi,by simpa using hb⟩;have jG:∀ i,i<N->vv (x.getD i gT) d=true:=λi hi=>by simpa using h3 i hi
  have h2:vv (x.getD N gT) d=false:=by simpa using h2
  have key:gQ 87 [gY x,gU d] (.ie [.v (.slice none 0 0),iP 9]):=by
   by_cases hM:kg (iI (x.getD N gT).lo (jl d))=0
   .exact aav x d x1 x8 hx hd h0 N h1 jG hM λq=>by
     unfold vv at h2;rw[hM,q]at h2;exact absurd h2 aE 
   .exact aau x d x1 x8 hx hd h0 N h1 jG hM
  exact key.jP (.ie (.cons (.nil _ _ _) (.cons (.refl _) .nil)))
def aax(a b:List Iv)(a1:1<=a.length)(a8:a.length<=8)(hl:b.length=a.length)(ha:pU a)(hb:pU b):gQ 88 [gY a,gY b] (gY (mT a b)):=
 ak call88 func88 (ae [.c (QF a b aC aC aC aD aD),.y 5 5 true 44 7 (iF ((List.range 0).map (λj_=>pP (a.getD j_ gT) (b.getD j_ gT)))),.s (Sp.jE (Qm a b) 0 a.length aC (λi hi oM=>by
    obtain⟨w1,w2⟩:=ha i aC;obtain⟨w3,w4⟩:=hb i aC;have rq:=pA (pP (a.getD i gT) (b.getD i gT));exact iA (ae [tT 14 ((i:Int)<a.length) aC,iX (i:Int) (a.length) aC,iX (i:Int) (b.length) aC,.c (Qn (a.getD i gT) (b.getD i gT) aD aD aD aD),.o 26 (.e (lq _):aj (.sl true 1 7 λi_ j_=>(iE (pP (a.getD i gT) (b.getD i gT))).getD (i_*7+j_) (.v (.bool false))) (gY [pP (a.getD i gT) (b.getD i gT)])),.a (aC:(i+[pP (a.getD i gT) (b.getD i gT)].length)*88<=140737488355328),ij ((i:Int)+1) aC]<|.e (af [.b 5 (Cc rfl rfl rfl:Bx.le (.row true 44 (i+[pP (a.getD i gT) (b.getD i gT)].length) 7 (λi_ j_=>if i_<i then(iF ((List.range i).map (λj_=>pP (a.getD j_ gT) (b.getD j_ gT)))) i_ j_ else(E.kE (gY [pP (a.getD i gT) (b.getD i gT)])) (i_-i) j_)) (.row true 44 (i+1) 7 (iF ((List.range (i+1)).map (λj_=>pP (a.getD j_ gT) (b.getD j_ gT))))))])) aF)
  (λhi=>by
    exact iA (ae [tF 14 ((a.length:Int)<a.length) aC,.z 5]<|.e (af [.o 5 (.e (DB aH):aj (.sl true a.length 7 (iF ((List.range a.length).map (λj_=>pP (a.getD j_ gT) (b.getD j_ gT))))) (gY ((List.range a.length).map (λj_=>pP (a.getD j_ gT) (b.getD j_ gT)))))])) aF) aI:jB 5 Tryz.f88 (Qm a b 0) (.exit 0) ⟨30,true,[(5,.e (gY ((List.range a.length).map (λj_=>pP (a.getD j_ gT) (b.getD j_ gT)))))],[]⟩) .nil]<|rR (gY (mT a b)) (.refl _:E.le (gY ((List.range a.length).map (λj_=>pP (a.getD j_ gT) (b.getD j_ gT)))) (gY (mT a b)))) 
def QE(p:Int):gQ 140 [iP p] (bP (mC p)):=
 ak call140 func140 (.w (8<=p)
  (λk1=>ae [tB 4 (a6 k1)]<|rQ (bP (decide (p<=512))) (bP (mC p)) (by unfold mC;simp[k1]))
  (λk1=>ae [tB 4 (a7 k1)]<|rQ (bP false) (bP (mC p)) (by unfold mC;simp[k1]))) 
def QG:tA ar (iq il):=.cons (.refl _) (.cons Cn (.cons (.refl _) .nil))
def KB(x:List Iv)(p k:Nat):nv x p (k+1)=if 0<iN (oq (x.getD k gT) p) (nv x p k)then oq (x.getD k gT) p else nv x p k:=rfl
def Pr(x:Iv){p:Nat}(hp:1<=p)(gW:p<=4096):(oq x p).gX:=vY _ hp gW _
def KC(x:List Iv){p:Nat}(hp:1<=p)(gW:p<=4096):∀ k,(nv x p k).gX
 | 0=>rf
 |k+1=>by
  unfold nv;split
  .exact Pr _ hp gW
  .exact KC x hp gW k
def aaD(x:List Iv)(p:Nat)(x1:1<=x.length)(x8:x.length<=8)(hx:pU x)(ib:8<=p)(gW:p<=512)(jG:∀ i,i<x.length->ve (x.getD i gT) p=0):gQ 89 [gY x,iP p] (.ie [gU (nv x p x.length),bP true]):=
 ak call89 func89 (af [.c (ug x aC aC aD),.c (QE (p:Int)),ah 16 (mC (p:Int)) (rO.2 ⟨aC,aC⟩),.s (Sp.jE (Qu x p) 0 x.length aC (λi hi oM=>by
    obtain⟨w1,w2⟩:=hx i aC;have MC:=jG i aC;have w3:=Pr (x.getD i gT) (aC:1<=p) (aC:p<=4096);have w4:=KC x (aC:1<=p) (aC:p<=4096) i;exact iA (ae [tT 23 ((i:Int)<x.length) aC,iX (i:Int) (x.length) aC,.c (CW (x.getD i gT) p aD aD aC aC),tB 31 (a6 MC),ag [gU (oq (x.getD i gT) p),gU (nv x p i)] (kH _ _ aD aD)]<|.w (0<iN (oq (x.getD i gT) p) (nv x p i))
     (λhc=>by
      have BN:nv x p (i+1)=oq (x.getD i gT) p:=by rw[KB,aZ hc]
      exact ae [tB 38 (a6 hc),ij ((i:Int)+1) aC]<|.e (af [.b 6 (.iL (by rw[BN]):Bx.le (.cells 31 (iq (oq (x.getD i gT) p))) (.cells 31 (iq (nv x p (i+1)))))]))
     (λhc=>by
      have BN:nv x p (i+1)=nv x p i:=by rw[KB,aY hc]
      exact ae [tB 38 (a7 hc),ij ((i:Int)+1) aC]<|.e (af [.b 6 (.iL (by rw[BN]):Bx.le (.cells 31 (iq (nv x p i))) (.cells 31 (iq (nv x p (i+1)))))]))) aF)
  (λhi=>by
    exact iA (af [tF 23 ((x.length:Int)<x.length) aC]) aF) aI:jB 5 Tryz.f89 (Qu x p 0) (.exit 0) ⟨42,true,[(6,.box 6 0),(4,.box 4 0)],[(6,.cells 31 (iq (nv x p x.length))),(4,.cells 31 ar)]⟩) (af [.b 6 (.cells (λ_=>rfl) QG:Bx.le (.cells 31 ar) (.cells 31 (iq (nv x p 0))))])]) 
def aaB(x:List Iv)(p:Nat)(x1:1<=x.length)(x8:x.length<=8)(hx:pU x)(ib:8<=p)(gW:p<=512)(N:Nat)(pN:N<x.length)(jG:∀ i,i<N->ve (x.getD i gT) p=0)(hN:ve (x.getD N gT) p≠0):gQ 89 [gY x,iP p] (.ie [gU il,bP false]):=
 ak call89 func89 (af [.c (ug x aC aC aD),.c (QE (p:Int)),ah 16 (mC (p:Int)) (rO.2 ⟨aC,aC⟩),.s (Sp.jE (Qt x p N) 0 N aC (λi hi oM=>by
    obtain⟨w1,w2⟩:=hx i aC;have MC:=jG i aC;have w3:=Pr (x.getD i gT) (aC:1<=p) (aC:p<=4096);have w4:=KC x (aC:1<=p) (aC:p<=4096) i;exact iA (ae [tT 23 ((i:Int)<x.length) aC,iX (i:Int) (x.length) aC,.c (CW (x.getD i gT) p aD aD aC aC),tB 31 (a6 MC),ag [gU (oq (x.getD i gT) p),gU (nv x p i)] (kH _ _ aD aD)]<|.w (0<iN (oq (x.getD i gT) p) (nv x p i))
     (λhc=>by
      have BN:nv x p (i+1)=oq (x.getD i gT) p:=by rw[KB,aZ hc]
      exact ae [tB 38 (a6 hc),ij ((i:Int)+1) aC]<|.e (af [.b 6 (.iL (by rw[BN]):Bx.le (.cells 31 (iq (oq (x.getD i gT) p))) (.cells 31 (iq (nv x p (i+1)))))]))
     (λhc=>by
      have BN:nv x p (i+1)=nv x p i:=by rw[KB,aY hc]
      exact ae [tB 38 (a7 hc),ij ((i:Int)+1) aC]<|.e (af [.b 6 (.iL (by rw[BN]):Bx.le (.cells 31 (iq (nv x p i))) (.cells 31 (iq (nv x p (i+1)))))]))) aF)
  (λhi=>by
    obtain⟨w1,w2⟩:=hx N aC;exact iA (af [tT 23 ((N:Int)<x.length) aC,iX (N:Int) (x.length) aC,.c (CW (x.getD N gT) p aD aD aC aC),tB 31 (a7 hN),.o 34 (.e qH:aj (.agg ar) (gU il))]) aF) aI:jB 5 Tryz.f89 (Qt x p N 0) .ret ⟨42,true,[(5,.e (bP false)),(4,.box 4 0)],[(4,.cells 31 (iq il))]⟩) (af [.b 6 (.cells (λ_=>rfl) QG:Bx.le (.cells 31 ar) (.cells 31 (iq (nv x p 0))))])]) 
def alr(x:List Iv){p:Nat}(hp:1<=p)(gW:p<=4096):(rT x p).gX:=by
 unfold rT;split
 .exact KC x hp gW _
 .exact rf
def aaC(x:List Iv)(p:Nat)(x1:1<=x.length)(x8:x.length<=8)(hx:pU x)(ib:8<=p)(gW:p<=512):gQ 89 [gY x,iP (p:Int)] (.ie [gU (rT x p),bP (GO x p)]):=by
 unfold rT;cases hw:GO x p with
 |true=>
  rw[aZ rfl];exact aaD x p x1 x8 hx ib gW λi hi=>cJ (bN.1 hw i (bW.2 hi))
 |false=>
  rw[aY aE];obtain⟨i,hi,hb⟩:=amE.1 hw;obtain⟨N,h1,h2,h3⟩:=sG (p:=λi=>!(decide (ve (x.getD i gT) p=0))) ⟨i,bW.1 hi,by simpa using hb⟩;exact aaB x p x1 x8 hx ib gW N h1 (λi hi=>by simpa using h3 i hi) (by simpa using h2)
end Go.Proofs.YtkdddbdjilcofaaGreatDoor
namespace Go.Proofs.YtkdddbdjilcofaaGreatDoor.Pu
open Go.RowKit
def W5{bs br:Nat->Prop}{w:World}{xs:List Value}{a:Value}(h:ix bs br w (.agg (xs.map E.v)) a):a = .agg xs.toArray:=by
 generalize he:E.agg (xs.map E.v)=e at h;cases h with
 |agg l vs hl k=>
  cases he;rw[ca]at hl;have:vs=xs:=fI λi=>by
   cases hx:xs[i]? with
   |none=>rw[List.getElem?_eq_none_iff]at hx ⊢;omega
   |some x=>
    obtain⟨v,hv⟩:∃ v,vs[i]? = some v:=by
     have hi:i<xs.length:=(b5.1 hx).1;exact⟨vs[i]'(aC),bt aC⟩
    rw[hv,ix.ku (k i (.v x) v (by rw[cr,hx];rfl) hv)]
  rw[this]
 |_=>cases he
def Ww{P:Program}{t:TypeId}{m D D':Nat}(hm:m<=10000)(hk:P.keyTypeAt m t=true)(hg:P.eqGuardType P.depth t=false){xs ys:List Value}{la lb:List Lit}
 (hx:P.keyLits D t xs=some la) (hy:P.keyLits D' t ys=some lb) (fx:(Value.agg xs.toArray).formed P t=true) (fy:(Value.agg ys.toArray).formed P t=true) {c:Bool} (hc:c=true↔la=lb):
 qk P .eql t (.agg (xs.map E.v)) (.agg (ys.map E.v)) (.bool c):=by
 intro bs br w a b ox oy ha hb;obtain rfl:=W5 ha;obtain rfl:=W5 hb;constructor
 .simp only[eqGuard,eR,bB,bj,Sem.run_bind,run_program,Result.andThen_ok,hg,dW,bw,Sem.run_pure]
 .obtain ⟨r,hr,ae7⟩:=run_equalIn_deep (10000-m) m t hk w _ _ _ _ la lb fx fy (by simpa[Value.cells]using hx) (by simpa[Value.cells]using hy);rw[(aC:10000-m+m=10000)]at hr;have e:r=c:=by rw[dz,ae7,hc]
  subst e;have:(Op.equal t (.agg xs.toArray) (.agg ys.toArray)).run P w = .ok r w:=hr;simp only[binOp,Sem.run_bind,this,Result.andThen_ok,Sem.run_pure]
end Go.Proofs.YtkdddbdjilcofaaGreatDoor.Pu
namespace Go.Proofs.YtkdddbdjilcofaaGreatDoor
open Go.RowKit Fp Pu
def Wx{t:TypeId}{m:Nat}(hm:m<=10000)(hk:prog.keyTypeAt m t=true)(hg:prog.eqGuardType prog.depth t=false){xs:List Value}(hx:(prog.keyLits 10 t xs).isSome=true)
 (fx:(Value.agg xs.toArray).formed prog t=true):qk prog .eql t (.agg (xs.map E.v)) (.agg (xs.map E.v)) (.bool true):=by
 obtain⟨l,hl⟩:=fc.1 hx;exact Ww hm hk hg hl hl fx fx aH 
def JM{a b c d e f:Int}(h:a=0/\b=0/\c=0/\d=0/\e=0/\f=0):
 qk prog .eql 91 (.agg [iP a,iP b,iP c,iP d,iP e,iP f]) (.agg [iP 0,iP 0,iP 0,iP 0,iP 0,iP 0]) (.bool true):=by
 obtain⟨rfl,rfl,rfl,rfl,rfl,rfl⟩:=h;exact Wx (m:=10) (xs:=[.int .i64 0,.int .i64 0,.int .i64 0,.int .i64 0,.int .i64 0,.int .i64 0]) aE aF aF aF aF 
def N8{a b:Int}(h:a=0/\b=0):qk prog .eql 89 (.agg [iP a,iP b]) (.agg [iP 0,iP 0]) (.bool true):=by
 obtain⟨rfl,rfl⟩:=h;exact Wx (m:=10) (xs:=[.int .i64 0,.int .i64 0]) aE aF aF aF aF 
def UE{d:Nat}{n:Int}(h:kP .i64 n):prog.keyLits (d+1) 3 [.int .i64 n]=some [.int .i64 n]:=by
 have hw:(Lit.int .i64 n).wf=true:=by
  unfold kP at h;simp[Lit.wf,IntKind.min,IntKind.max,IntKind.signed,IntKind.bits];omega
 unfold Program.keyLits;rw[underlying3];simp[hw]
def WN{a b:Int}(ha:kP .i64 a)(hb:kP .i64 b):prog.keyLits 10 89 [.int .i64 a,.int .i64 b]=some [.int .i64 a,.int .i64 b]:=by
 have c1:prog.cellsOf 89=2:= aF ;have c2:prog.cellsOf 3=1:= aF ;unfold Program.keyLits;rw[underlying89];simp[c1,c2,gq,UE ha,UE hb]
def Wv{a b:Int}{r:Bool}(ha:kP .i64 a)(hb:kP .i64 b)(h:decide (a=0/\b=0)=r):qk prog .eql 89 (.agg [iP a,iP b]) (.agg [iP 0,iP 0]) (.bool r):=
 Ww (m:=10) (xs:=[.int .i64 a,.int .i64 b]) (ys:=[.int .i64 0,.int .i64 0]) aE aF aF (WN ha hb) (WN aS aS) aF aF (by subst h;simp)
def ajn{P:Program}(w:World)(t tx ty e:TypeId)(i:TypeInfo)(z:Value)(ht:P.underlying t=some (.slice e))(hx:P.underlying tx=some (.int .i64))(hi:P.info? e=some i)(hz:i.zero=some z)
 (s8:i.size≠0) (n:Nat) (h0:0<n) (E6:n<=1000000) (S5:n*i.bytes<=281474976710656):
 (Builtin.append_ #[t,tx] ty #[.slice none 0 0,.int .i64 (n:Int)]).run P w =
  .ok (.slice (some ⟨w.heap.size,0,none⟩) n (grownCap w n 0 e)) (w.drew.alloc (.cells (Builtin.zeroCells z.cells n++Builtin.zeroCells z.cells (grownCap w n 0 e-n)) e)):=by
 have hn:n≠0:= aC ;have hns:n*i.size≠0:=df hn s8;have aeO:¬(9223372036854775807<(n:Int)):= aC ;have aeM:¬(281474976710656<Builtin.nextslicecap n 0*i.bytes):=by rw[nextslicecap_zero h0];omega
 have hw:IntKind.i64.wrap (n:Int)=n:=i64_in _ aC aC;have Fm:¬((n:Int)<0):= aC ;have aeN:¬(281474976710656<(n:Int)*(i.bytes:Int)):=by
  have:(n:Int)*(i.bytes:Int)=((n*i.bytes:Nat):Int):= aH ;rw[this];omega
 simp[Builtin.append_,run_underlying ht,run_underlying hx,sizeOf,typeInfo,zeroValue,hi,hz,asInt,asIntOf,hw,Fm,aeN,hn,hns,aeO,aeM,Question.forced,run_firstCells_none,newRow,grownCap]
def alv{P:Program}{w:World}{gS:Array Oper}{rest:List Oper}{o:Oper}{a:Act}{Q:Exit->Act->World->Prop}(BF:o.guard=none)(s x:Operand)(t tx:TypeId)
 (ho:o.op = .call { callee:=.builtin .append,args:=#[s,x],argTypes:=#[t,tx] })
 (e:TypeId) (i:TypeInfo) (z:Value) (ht:P.underlying t=some (.slice e)) (hx:P.underlying tx=some (.int .i64)) (hi:P.info? e=some i) (hz:i.zero=some z)
 (s8:i.size≠0) (n:Nat) (h0:0<n) (E6:n<=1000000) (S5:n*i.bytes<=281474976710656) (hs:a.eval s = .slice none 0 0) (hxx:a.eval x = .int .i64 (n:Int))
 (h:wpList P gS Q rest (a.put o.dst (.slice (some ⟨w.heap.size,0,none⟩) n (grownCap w n 0 e))) (w.drew.alloc (.cells (Builtin.zeroCells z.cells n++Builtin.zeroCells z.cells (grownCap w n 0 e-n)) e))):wpList P gS Q (o::rest) a w:=by
 refine wpList_plain BF λK hK=>?_
 have ky:=ajn (P:=P) w t tx o.type e i z ht hx hi hz s8 n h0 E6 S5;unfold Oper.wp;simp[execOp,ho,resolve,invoke,builtin,hs,hxx,ky,Result.andThen];exact hK _ _ h
def Zp(w:World)(o:Obj):Below w.heap.size w (w.alloc o).drew:=⟨rfl,rfl,rfl,by rw[show(w.alloc o).drew.heap=w.heap.push o from rfl,Array.size_push];omega,λx hx=>Below.heap_alloc w _ x hx⟩
def Zq(w:World)(o:Obj):w.heap.size<(w.alloc o).drew.heap.size:=by rw[show(w.alloc o).drew.heap=w.heap.push o from rfl,Array.size_push];omega
def afA:(prog.info? 44).map (λi=>(i.zero,i.size,i.bytes))=some (some (.agg #[.bool false,.slice none 0 0,.int .i64 0,.bool false,.slice none 0 0,.int .i64 0,.bool false]),7,88):= aF 
def YZ(n:Nat):∀ u,u ∈ Builtin.zeroCells (Value.cells (.agg #[.bool false,.slice none 0 0,.int .i64 0,.bool false,.slice none 0 0,.int .i64 0,.bool false])) n->qf u=false:=by
 intro u hu;simp only[Builtin.zeroCells,fL,fM]at hu;obtain⟨q,hq,rfl⟩:=hu;have hc:Value.cells (.agg #[.bool false,.slice none 0 0,.int .i64 0,.bool false,.slice none 0 0,.int .i64 0,.bool false]) = #[.bool false,.slice none 0 0,.int .i64 0,.bool false,.slice none 0 0,.int .i64 0,.bool false]:=rfl;rw[hc]at hq ⊢;have hs:(#[Value.bool false,.slice none 0 0,.int .i64 0,.bool false,.slice none 0 0,.int .i64 0,.bool false]:Array Value).size=7:=rfl;rw[hs];have h7:q%7<7:=bF _ aE;generalize q%7=k at h7;rcases k with _|_|_|_|_|_|_|k
 all_goals first|rfl|omega
set_option maxRecDepth 100000 in
def aeF(n:Nat)(hn:n<=1000000):vh prog Tb 221 [.v (.slice none 0 0),iP (n:Int)] true 44 0 7 (iF []):=by
 refine⟨call221,λw B vs hK hB hr=>?_⟩;obtain⟨v1,vs,rfl,h1,hr⟩:=hr.nc;obtain⟨v2,vs,rfl,h2,hr⟩:=hr.nc;obtain rfl:=hr.rM;obtain rfl:=ix.ku h1;obtain rfl:=ix.ku h2;show Calls _ _ #[.slice none 0 0,.int .i64 (n:Int)] w _;clear h1 h2 hr hB hK;by_cases h0:n=0
 .subst h0;go_enter func221,ntmps221;go_wp2;go_ret;exact⟨_,rfl,Below.refl _ _,λ_ _=>undef,.inl ⟨rfl,rfl⟩,λx hx=>by simp[Value.ownBlock]at hx,λi j hi=>absurd hi (bk _)⟩
 .obtain ⟨i,hi,hz,h1,h2⟩:=info_parts afA;have hw:IntKind.i64.wrap ((n:Int)-0)=n:=i64_in _ aC aC;have MW:IntKind.i64.wrap (n:Int)=n:=i64_in _ aC aC;have e2:decide ((n:Int)<0)=false:=a7 aC;have e3:decide ((0:Int)<n)=true:=a6 aC;have Dc:n<=grownCap w n 0 44:=grownCap_ge w n 0 _;go_enter func221,ntmps221;go_wp2_with (at_builtin;go_must (refine alv aG _ _ _ _ aG _ i _ underlying26 underlying3 hi hz aC n aC aC (by rw[h2];omega) aG aG ?_))
  go_ret;have hz7:(#[Value.bool false,.slice none 0 0,.int .i64 0,.bool false,.slice none 0 0,.int .i64 0,.bool false]:Array Value).size=7:=rfl;refine⟨_,rfl,Zp w _,λ_ _=>undef,.inr ⟨w.heap.size,grownCap w n 0 44,_,rfl,heap_alloc_new w _,bV _,grownCap_le_maxLen w n 0 _ (by unfold maxLen;omega),?_,λi j hi=>absurd hi (bk _),λ_ u hu=>?_⟩,λx hx=>?_,λi j hi=>absurd hi (bk _)⟩
  .simp only[aml,size_zeroCells,hz7,<-bS];congr 1;omega
  .rcases eU.1 hu with hu|hu
   .exact YZ _ u hu
   .exact YZ _ u hu
  .simp [Value.ownBlock]at hx;subst hx;exact⟨bc _,Zq w _⟩
abbrev xd(f:FuncId)(args:List E)(nl:Bool)(T:TypeId)(n sz:Nat)(el:Nat->Nat->E):Prop:=vh prog Tb f args nl T n sz el
def YA{f:FuncId}{fn:Func}{args:List E}{nl:Bool}{T0:TypeId}{n sz:Nat}{el:Nat->Nat->E}(wE:∀ (vs:Array Value) (w:World),(callFunc f vs).run prog w = .ok (.enter f vs) w)
 (hf:prog.funcs[f]? = some fn) (t:Tr prog Tb) (h:Oz TT fn args (.row nl T0 n sz el) t=t.ex λ_=>.a (Bx.le (.row nl T0 n sz el) (.row nl T0 n sz el)) .nil):xd f args nl T0 n sz el:=
 vh.Pg KO mixed PL wE hf t h
def Yp(t:pn)(x:Nat):PS:=⟨46,true,[(28,.e (iP x)),(27,.e (iP t.gS.length)),(26,.e (kD t.gS)),(1,.box 1 0)],[(1,.cells 25 [iP t.ic,kD t.gS,kC t.iu])]⟩
def Yl(s:jz)(x:Nat):PS:=⟨85,true,[(31,.e (iP x)),(30,.e (iP s.tape.gS.length)),(29,.e (kD s.tape.gS)),(3,.box 3 0),(1,.box 1 0)],[(3,.cells 25 [iP s.tape.ic,kD s.tape.gS,kC s.tape.iu]),(1,.cells 28 [iP s.tape.ic,kD s.tape.gS,kC s.tape.iu,iP s.iH,gY s.params])]⟩
noncomputable def Yo(t:pn)(xs:List Iv)(p:Nat)(x:Nat):PS:=⟨75,true,[(26,.e (iP x)),(25,.e (iP t.gS.length)),(24,.e (kD t.gS)),(7,.own 22),(2,.e (iP p))],[(22,.row true 44 ((jF t.gS xs p x).length) 7 (iF (jF t.gS xs p x)))]⟩
def WA(k:Nat)(h1:3<=k)(h2:k<=6):gQ 242 [iP k] (iP 2):=
 ak call242 func242 (ae [ai 5 ((k:Int)==1) (aT aC)]<|.w ((k:Int)=3)
  (λk1=>af [tB 7 (aU k1)])
  (λk1=>ae [tB 7 (aT k1)]<|.w ((k:Int)=4)
   (λk2=>af [tB 8 (aU k2)])
   (λk2=>ae [tB 8 (aT k2)]<|.w ((k:Int)=5)
    (λk3=>af [tB 9 (aU k3)])
    (λk3=>ae [tB 9 (aT k3)]<|.w ((k:Int)=6)
     (λk4=>af [tB 10 (aU k4)])
     (λk4=>.x aC))))) 
def Ob(k:Nat)(h1:7<=k)(h2:k<=13):gQ 242 [iP k] (iP 1):=
 ak call242 func242 (ae [ai 5 ((k:Int)==1) (aT aC),ai 7 ((k:Int)==3) (aT aC),ai 8 ((k:Int)==4) (aT aC),ai 9 ((k:Int)==5) (aT aC),ai 10 ((k:Int)==6) (aT aC)]<|.w ((k:Int)=7)
  (λk1=>af [tB 12 (aU k1)])
  (λk1=>ae [tB 12 (aT k1)]<|.w ((k:Int)=8)
   (λk2=>af [tB 13 (aU k2)])
   (λk2=>ae [tB 13 (aT k2)]<|.w ((k:Int)=9)
    (λk3=>af [tB 14 (aU k3)])
    (λk3=>ae [tB 14 (aT k3)]<|.w ((k:Int)=10)
     (λk4=>af [tB 15 (aU k4)])
     (λk4=>ae [tB 15 (aT k4)]<|.w ((k:Int)=11)
      (λk5=>af [tB 16 (aU k5)])
      (λk5=>ae [tB 16 (aT k5)]<|.w ((k:Int)=12)
       (λk6=>af [tB 17 (aU k6)])
       (λk6=>ae [tB 17 (aT k6)]<|.w ((k:Int)=13)
        (λk7=>af [tB 18 (aU k7)])
        (λk7=>.x aC)))))))) 
def Wz(k:Nat)(h1:k=1):gQ 242 [iP k] (iP 0):=
 ak call242 func242 (af [ah 5 ((k:Int)==1) (aU aC)]) 
def ahH{a b:Int}(h:pB a b=true):qk prog .eql 89 (.agg [iP a,iP b]) (.agg [iP 0,iP 0]) (.bool false):=by
 obtain⟨h1,h2,h3,h4⟩:=Ot h;exact Wv aS aS (a7 aC)
def nx.Bg{o:mF}{m:Nat}(h:nx o m)(nX:o.kind≠1)(hk:o.kind<=6):3<=o.kind/\o.a<m/\o.b<m/\o.n=0/\o.cn=0/\o.cd=0:=by
 have h3:=h.k3.resolve_left nX;have ha:=h.a;have hb:=h.b;have hn:=h.n;have hc:=h.c;rw[aY nX]at ha hc;rw[aZ ⟨h3,hk⟩]at hb;rw[aY aC]at hn;exact⟨h3,ha,hb,hn,hc.1,hc.2⟩
def nx.pow{o:mF}{m:Nat}(h:nx o m)(hk:o.kind=8):o.a<m/\o.b=0/\o.n<=16/\o.cn=0/\o.cd=0:=by
 have ha:=h.a;have hb:=h.b;have hn:=h.n;have hc:=h.c;rw[aY aC]at ha hb hc;rw[aZ hk]at hn;exact⟨ha,hb,hn,hc.1,hc.2⟩
def nx.un{o:mF}{m:Nat}(h:nx o m)(hk:¬o.kind<=6)(vF:o.kind≠8):o.kind<=13/\o.a<m/\o.b=0/\o.n=0/\o.cn=0/\o.cd=0:=by
 have ha:=h.a;have hb:=h.b;have hn:=h.n;have hc:=h.c;rw[aY aC]at ha hb hc;rw[aY vF]at hn;exact⟨h.wQ,ha,hb,hn,hc.1,hc.2⟩
def nx.num{o:mF}{m:Nat}(h:nx o m)(hk:o.kind=1):o.a=0/\o.b=0/\o.n=0/\pB o.cn o.cd=true:=by
 have ha:=h.a;have hb:=h.b;have hn:=h.n;have hc:=h.c;rw[aZ hk]at ha hc;rw[aY aC]at hb hn;exact⟨ha,hb,hn,hc⟩
def nx.CM{o:mF}{m:Nat}(h:nx o m)(hk:o.kind≠1):o.a<m:=by
 have ha:=h.a;rwa[aY hk]at ha
def ah8(o:mF)(m:Nat)(h:nx o m)(hk:o.kind=1):gQ 273 [vW o,iP m] (bP true):=by
 obtain⟨h2,h3,h4,sB⟩:=h.num hk;exact ak call273 func273 (af [.c (Wz o.kind aC),ai 14 (decide ((0:Int)<0)) aE,ah 17 ((0:Int)==0) aE,.c (JU o.cn o.cd),ah 20 (pB o.cn o.cd) sB,ai 26 ((o.kind:Int)==8) (aT aC),ai 37 (decide ((0:Int)<0)) aE,ai 49 (decide ((1:Int)<0)) aE,.g (JM ⟨aC,aC,aC,aC,aC,aC⟩:qk prog .eql 91 (.agg [iP 0,iP o.a,iP o.b,iP o.n,iP 0,iP 0]) (.agg [iP 0,iP 0,iP 0,iP 0,iP 0,iP 0]) (.bool true))]) 
def ah7(o:mF)(m:Nat)(h:nx o m)(nX:o.kind≠1)(hk:o.kind<=6):gQ 273 [vW o,iP m] (bP true):=by
 obtain⟨h1,h2,h3,h4,h5,h6⟩:=h.Bg nX hk;exact ak call273 func273 (af [.c (WA o.kind aC aC),ai 14 (decide ((2:Int)<0)) aE,ai 17 ((2:Int)==0) aE,ai 26 ((o.kind:Int)==8) (aT aC),ah 37 (decide ((0:Int)<2)) aE,tF 40 ((o.a:Int)<0) aC,tF 45 ((m:Int)<=o.a) aC,ah 49 (decide ((1:Int)<2)) aE,tF 52 ((o.b:Int)<0) aC,tF 57 ((m:Int)<=o.b) aC,.g (JM ⟨aC,aC,aC,aC,aC,aC⟩:qk prog .eql 91 (.agg [iP 0,iP 0,iP 0,iP o.n,iP o.cn,iP o.cd]) (.agg [iP 0,iP 0,iP 0,iP 0,iP 0,iP 0]) (.bool true))]) 
def aia(o:mF)(m:Nat)(h:nx o m)(hk:o.kind=8):gQ 273 [vW o,iP m] (bP true):=by
 obtain⟨h2,h3,h4,h5,h6⟩:=h.pow hk;exact ak call273 func273 (af [.c (Ob o.kind aC aC),ai 14 (decide ((1:Int)<0)) aE,ai 17 ((1:Int)==0) aE,ah 26 ((o.kind:Int)==8) (aU aC),tF 29 ((o.n:Int)<0) aC,tF 33 (16<(o.n:Int)) aC,ah 37 (decide ((0:Int)<1)) aE,tF 40 ((o.a:Int)<0) aC,tF 45 ((m:Int)<=o.a) aC,ai 49 (decide ((1:Int)<1)) aE,.g (JM ⟨aC,aC,aC,aC,aC,aC⟩:qk prog .eql 91 (.agg [iP 0,iP 0,iP o.b,iP 0,iP o.cn,iP o.cd]) (.agg [iP 0,iP 0,iP 0,iP 0,iP 0,iP 0]) (.bool true))]) 
def aib(o:mF)(m:Nat)(h:nx o m)(hk:¬o.kind<=6)(vF:o.kind≠8):gQ 273 [vW o,iP m] (bP true):=by
 obtain⟨h1,h2,h3,h4,h5,h6⟩:=h.un hk vF;exact ak call273 func273 (af [.c (Ob o.kind aC aC),ai 14 (decide ((1:Int)<0)) aE,ai 17 ((1:Int)==0) aE,ai 26 ((o.kind:Int)==8) (aT aC),ah 37 (decide ((0:Int)<1)) aE,tF 40 ((o.a:Int)<0) aC,tF 45 ((m:Int)<=o.a) aC,ai 49 (decide ((1:Int)<1)) aE,.g (JM ⟨aC,aC,aC,aC,aC,aC⟩:qk prog .eql 91 (.agg [iP 0,iP 0,iP o.b,iP o.n,iP o.cn,iP o.cd]) (.agg [iP 0,iP 0,iP 0,iP 0,iP 0,iP 0]) (.bool true))]) 
def akp(o:mF)(m:Nat)(h:nx o m)(hk:o.kind=1):gQ 59 [vW o,iP m] (bP true):=by
 obtain⟨h2,h3,h4,sB⟩:=h.num hk;exact ak call59 func59 (af [tF 8 ((o.a:Int)<0) aC,tF 12 ((o.b:Int)<0) aC,.g (ahH sB:qk prog .eql 89 (.agg [iP o.cn,iP o.cd]) (.agg [iP 0,iP 0]) (.bool false)),ah 21 ((o.kind:Int)==1) (aU aC),.c (JU o.cn o.cd),ah 24 (pB o.cn o.cd) sB,ah 28 ((o.a:Int)==0) (aU aC),ah 33 ((o.b:Int)==0) (aU aC),ah 38 ((o.n:Int)==0) (aU aC)]) 
def ako(o:mF)(m:Nat)(h:nx o m)(nX:o.kind≠1)(hk:o.kind<=6):gQ 59 [vW o,iP m] (bP true):=by
 obtain⟨h1,h2,h3,h4,h5,h6⟩:=h.Bg nX hk;exact ak call59 func59 (ae [tF 8 ((o.a:Int)<0) aC,tF 12 ((o.b:Int)<0) aC,.g (N8 ⟨aC,aC⟩:qk prog .eql 89 (.agg [iP o.cn,iP o.cd]) (.agg [iP 0,iP 0]) (.bool true)),ai 21 ((o.kind:Int)==1) (aT aC)]<|.w ((o.kind:Int)=3)
  (λk1=>af [tB 41 (aU k1),tT 50 ((o.a:Int)<m) aC,tT 56 ((o.b:Int)<m) aC,ah 61 ((o.n:Int)==0) (aU aC)])
  (λk1=>ae [tB 41 (aT k1)]<|.w ((o.kind:Int)=4)
   (λk2=>af [tB 42 (aU k2),tT 50 ((o.a:Int)<m) aC,tT 56 ((o.b:Int)<m) aC,ah 61 ((o.n:Int)==0) (aU aC)])
   (λk2=>ae [tB 42 (aT k2)]<|.w ((o.kind:Int)=5)
    (λk3=>af [tB 43 (aU k3),tT 50 ((o.a:Int)<m) aC,tT 56 ((o.b:Int)<m) aC,ah 61 ((o.n:Int)==0) (aU aC)])
    (λk3=>ae [tB 43 (aT k3)]<|.w ((o.kind:Int)=6)
     (λk4=>af [tB 44 (aU k4),tT 50 ((o.a:Int)<m) aC,tT 56 ((o.b:Int)<m) aC,ah 61 ((o.n:Int)==0) (aU aC)])
     (λk4=>.x aC))))) 
def akr(o:mF)(m:Nat)(h:nx o m)(hk:o.kind=8):gQ 59 [vW o,iP m] (bP true):=by
 obtain⟨h2,h3,h4,h5,h6⟩:=h.pow hk;exact ak call59 func59 (af [tF 8 ((o.a:Int)<0) aC,tF 12 ((o.b:Int)<0) aC,.g (N8 ⟨aC,aC⟩:qk prog .eql 89 (.agg [iP o.cn,iP o.cd]) (.agg [iP 0,iP 0]) (.bool true)),ai 21 ((o.kind:Int)==1) (aT aC),ai 41 ((o.kind:Int)==3) (aT aC),ai 42 ((o.kind:Int)==4) (aT aC),ai 43 ((o.kind:Int)==5) (aT aC),ai 44 ((o.kind:Int)==6) (aT aC),ah 64 ((o.kind:Int)==8) (aU aC),tT 70 ((o.a:Int)<m) aC,ah 75 ((o.b:Int)==0) (aU aC),tT 80 (0<=(o.n:Int)) aC,tT 85 ((o.n:Int)<=16) aC]) 
def aks(o:mF)(m:Nat)(h:nx o m)(hk:¬o.kind<=6)(vF:o.kind≠8):gQ 59 [vW o,iP m] (bP true):=by
 obtain⟨h1,h2,h3,h4,h5,h6⟩:=h.un hk vF;exact ak call59 func59 (ae [tF 8 ((o.a:Int)<0) aC,tF 12 ((o.b:Int)<0) aC,.g (N8 ⟨aC,aC⟩:qk prog .eql 89 (.agg [iP o.cn,iP o.cd]) (.agg [iP 0,iP 0]) (.bool true)),ai 21 ((o.kind:Int)==1) (aT aC),ai 41 ((o.kind:Int)==3) (aT aC),ai 42 ((o.kind:Int)==4) (aT aC),ai 43 ((o.kind:Int)==5) (aT aC),ai 44 ((o.kind:Int)==6) (aT aC),ai 64 ((o.kind:Int)==8) (aT aC)]<|.w ((o.kind:Int)=7)
  (λk1=>af [tB 88 (aU k1),tT 99 ((o.a:Int)<m) aC,ah 104 ((o.b:Int)==0) (aU aC),ah 109 ((o.n:Int)==0) (aU aC)])
  (λk1=>ae [tB 88 (aT k1)]<|.w ((o.kind:Int)=9)
   (λk2=>af [tB 89 (aU k2),tT 99 ((o.a:Int)<m) aC,ah 104 ((o.b:Int)==0) (aU aC),ah 109 ((o.n:Int)==0) (aU aC)])
   (λk2=>ae [tB 89 (aT k2)]<|.w ((o.kind:Int)=10)
    (λk3=>af [tB 90 (aU k3),tT 99 ((o.a:Int)<m) aC,ah 104 ((o.b:Int)==0) (aU aC),ah 109 ((o.n:Int)==0) (aU aC)])
    (λk3=>ae [tB 90 (aT k3)]<|.w ((o.kind:Int)=11)
     (λk4=>af [tB 91 (aU k4),tT 99 ((o.a:Int)<m) aC,ah 104 ((o.b:Int)==0) (aU aC),ah 109 ((o.n:Int)==0) (aU aC)])
     (λk4=>ae [tB 91 (aT k4)]<|.w ((o.kind:Int)=12)
      (λk5=>af [tB 92 (aU k5),tT 99 ((o.a:Int)<m) aC,ah 104 ((o.b:Int)==0) (aU aC),ah 109 ((o.n:Int)==0) (aU aC)])
      (λk5=>ae [tB 92 (aT k5)]<|.w ((o.kind:Int)=13)
       (λk6=>af [tB 93 (aU k6),tT 99 ((o.a:Int)<m) aC,ah 104 ((o.b:Int)==0) (aU aC),ah 109 ((o.n:Int)==0) (aU aC)])
       (λk6=>.x aC))))))) 
def ah9(o:mF)(m:Nat)(h:nx o m):gQ 273 [vW o,iP (m:Int)] (bP true):=by
 by_cases nX:o.kind=1
 .exact ah8 o m h nX
 by_cases hk:o.kind<=6
 .exact ah7 o m h nX hk
 .by_cases vF:o.kind=8
  .exact aia o m h vF
  .exact aib o m h hk vF
def akq(o:mF)(m:Nat)(h:nx o m):gQ 59 [vW o,iP (m:Int)] (bP true):=by
 by_cases nX:o.kind=1
 .exact akp o m h nX
 by_cases hk:o.kind<=6
 .exact ako o m h nX hk
 .by_cases vF:o.kind=8
  .exact akr o m h vF
  .exact aks o m h hk vF
def akL(t:pn)(k:Nat)(hk:k<t.ic+t.gS.length)(h8:t.ic<=8)(aeK:t.gS.length<=200):gQ 274 [iP k,(.iM 3 λj_=>[iP t.ic,kD t.gS,kC t.iu].getD j_ .any)] (bP false):=
 ak call274 func274 (af [tF 5 ((k:Int)<0) aC,ij ((t.ic:Int)+t.gS.length) aC,tF 14 (((t.ic+t.gS.length:Nat):Int)<=k) aC]) 
def Yq(t:pn)(h:xW t):gQ 240 [GD t] (bP true):=by
 have h8:=h.ic;have Dr:=h.gS;have Ds:=h.iu;exact ak call240 func240 (af [tF 7 ((t.ic:Int)<0) aC,tF 11 (8<(t.ic:Int)) aC,tF 17 (200<(t.gS.length:Int)) aC,tF 23 (200<(t.iu.length:Int)) aC,.s (Sp.jE (Yp t) 0 t.gS.length aC (λx hx mn=>by
    have ik:=h.op x aC;exact iA (af [tT 29 ((x:Int)<t.gS.length) aC,iX (x:Int) (t.gS.length) aC,ij ((t.ic:Int)+x) aC,ag [vW (t.gS.getD x iw),iP ((t.ic+x:Nat):Int)] (ah9 _ _ ik),ij ((x:Int)+1) aC]) aF)
  (λhx=>by
    exact iA (af [tF 29 ((t.gS.length:Int)<t.gS.length) aC]) aF) aI:jB 4 f240 (Yp t 0) (.exit 0) ⟨46,true,[(1,.box 1 0)],[(1,.cells 25 [iP t.ic,kD t.gS,kC t.iu])]⟩) .nil,.c (Nb true _ _ 274 [(.iM 3 λj_=>[iP t.ic,kD t.gS,kC t.iu].getD j_ .any)] (λ_=>false) (λi hi=>akL t _ (h.out i hi) h8 Dr) aC (λ_ _=>rfl):gQ 60 [kC t.iu,.fn 274 [(.iM 3 λj_=>[iP t.ic,kD t.gS,kC t.iu].getD j_ .any)]] _)]) 
def aku(t:pn)(k:Nat)(hk:k<t.ic+t.gS.length)(h8:t.ic<=8)(aeK:t.gS.length<=200):gQ 61 [iP k,(.iM 3 λj_=>[iP t.ic,kD t.gS,kC t.iu].getD j_ .any)] (bP false):=
 ak call61 func61 (af [tF 5 ((k:Int)<0) aC,ij ((t.ic:Int)+t.gS.length) aC,tF 14 (((t.ic+t.gS.length:Nat):Int)<=k) aC]) 
def akw(x:Iv)(hx:x.gX)(xa:x.all=false):gQ 62 [ia x] (bP false):=by
 obtain⟨w1,w2,w3⟩:=tV hx xa;exact ak call62 func62 (af [ai 4 x.all xa,ag [gU x.lo] (mZ _ aD),ag [gU x.hi] (mZ _ aD),ag [gU x.lo,gU x.hi] (kH _ _ aD aD),tF 23 (0<(iN x.lo x.hi)) aC]) 
def zw(s:jz)(h:lH s):gQ 24 [kQ s] (bP true):=by
 have h8:=h.tape.ic;have Dr:=h.tape.gS;have Ds:=h.tape.iu;have s1:=h.s1;have s4:=h.s4;have ho:=h.iu;have hi:=h.ic;have p4:=h.p4;exact ak call24 func24 (af [tF 10 ((s.tape.ic:Int)<0) aC,tF 14 (8<(s.tape.ic:Int)) aC,tF 20 (200<(s.tape.gS.length:Int)) aC,tF 26 (200<(s.tape.iu.length:Int)) aC,.s (Sp.jE (Yl s) 0 s.tape.gS.length aC (λx hx mn=>by
    have ik:=h.tape.op x aC;exact iA (af [tT 32 ((x:Int)<s.tape.gS.length) aC,iX (x:Int) (s.tape.gS.length) aC,ij ((s.tape.ic:Int)+x) aC,ag [vW (s.tape.gS.getD x iw),iP ((s.tape.ic+x:Nat):Int)] (akq _ _ ik),ij ((x:Int)+1) aC]) aF)
  (λhx=>by
    exact iA (af [tF 32 ((s.tape.gS.length:Int)<s.tape.gS.length) aC]) aF) aI:jB 5 Tryz.f24 (Yl s 0) (.exit 0) ⟨85,true,[(3,.box 3 0),(1,.box 1 0)],[(3,.cells 25 [iP s.tape.ic,kD s.tape.gS,kC s.tape.iu]),(1,.cells 28 [iP s.tape.ic,kD s.tape.gS,kC s.tape.iu,iP s.iH,gY s.params])]⟩) .nil,.c (Nb true _ _ 61 [(.iM 3 λj_=>[iP s.tape.ic,kD s.tape.gS,kC s.tape.iu].getD j_ .any)] (λ_=>false) (λi hi=>aku s.tape _ (h.tape.out i hi) h8 Dr) aC (λ_ _=>rfl):gQ 60 [kC s.tape.iu,.fn 61 [(.iM 3 λj_=>[iP s.tape.ic,kD s.tape.gS,kC s.tape.iu].getD j_ .any)]] _),tF 50 ((s.iH:Int)<1) aC,tF 54 (4<(s.iH:Int)) aC,ai 62 ((s.tape.iu.length:Int) != (s.iH:Int)) (uS aC),
  ij ((s.iH:Int)+s.params.length) aC,ai 73 ((s.tape.ic:Int) != ((s.iH+s.params.length:Nat):Int)) (uS aC),tF 79 (4<(s.params.length:Int)) aC,.c (Cb true _ _ 62 [] (λ_=>false) (λi hi=>akw _ (h.params i hi).1 (h.params i hi).2) aC (λ_ _=>rfl):gQ 22 [gY s.params,.fn 62 []] _)]) 
def P3(o:mF)(x y:Iv)(p:Nat)(hx:x.gX)(hy:y.gX)(r1:3<=o.kind)(r2:o.kind<=13)(r3:o.n<=16)(ib:8<=p)(gW:p<=512)(hF:o.kind<=8\/ue):gQ 243 [iP o.kind,iP o.n,ia x,ia y,iP p] (ia (mz o x y p)):=
 ak call243 func243 (.w ((o.kind:Int)=3)
  (λk1=>ae [tB 13 (aU k1),.c (yP x y p aD aD aC aC)]<|rQ (ia (jC x y p)) (ia (mz o x y p)) (by unfold mz;simp[(aC:o.kind=3)]))
  (λk1=>ae [tB 13 (aT k1)]<|.w ((o.kind:Int)=4)
   (λk2=>ae [tB 19 (aU k2),.c (Jn x y p aD aD aC aC)]<|rQ (ia (rD x y p)) (ia (mz o x y p)) (by unfold mz;simp[(aC:¬o.kind=3),(aC:o.kind=4)]))
   (λk2=>ae [tB 19 (aT k2)]<|.w ((o.kind:Int)=5)
    (λk3=>ae [tB 25 (aU k3),.c (tg x y p aD aD aC aC)]<|rQ (ia (iy x y p)) (ia (mz o x y p)) (by unfold mz;simp[(aC:¬o.kind=3),(aC:¬o.kind=4),(aC:o.kind=5)]))
    (λk3=>ae [tB 25 (aT k3)]<|.w ((o.kind:Int)=6)
     (λk4=>ae [tB 31 (aU k4),.c (yQ x y p aD aD aC aC)]<|rQ (ia (jh x y p)) (ia (mz o x y p)) (by unfold mz;simp[(aC:¬o.kind=3),(aC:¬o.kind=4),(aC:¬o.kind=5),(aC:o.kind=6)]))
     (λk4=>ae [tB 31 (aT k4)]<|.w ((o.kind:Int)=7)
      (λk5=>ae [tB 37 (aU k5),.c (Jl x aD)]<|rQ (ia (pz x)) (ia (mz o x y p)) (by unfold mz;simp[(aC:¬o.kind=3),(aC:¬o.kind=4),(aC:¬o.kind=5),(aC:¬o.kind=6),(aC:o.kind=7)]))
      (λk5=>ae [tB 37 (aT k5)]<|.w ((o.kind:Int)=8)
       (λk6=>ae [tB 41 (aU k6),ag [ia x,iP o.n,iP p] (Hh _ _ _ aD aC aC aC)]<|rQ (ia (my x o.n p)) (ia (mz o x y p)) (by unfold mz;simp[(aC:¬o.kind=3),(aC:¬o.kind=4),(aC:¬o.kind=5),(aC:¬o.kind=6),(aC:¬o.kind=7),(aC:o.kind=8)]))
       (λk6=>ae [tB 41 (aT k6)]<|.w ((o.kind:Int)=9)
        (λk7=>ae [tB 47 (aU k7),ag [ia x,iP p] (Si _ aD _ aC aC (hF.resolve_left aC))]<|rQ (ia (um x p)) (ia (mz o x y p)) (by unfold mz;simp[(aC:¬o.kind=3),(aC:¬o.kind=4),(aC:¬o.kind=5),(aC:¬o.kind=6),(aC:¬o.kind=7),(aC:¬o.kind=8),(aC:o.kind=9)]))
        (λk7=>ae [tB 47 (aT k7)]<|.w ((o.kind:Int)=10)
         (λk8=>ae [tB 52 (aU k8),ag [ia x,iP p] (Sj _ aD _ aC aC (hF.resolve_left aC))]<|rQ (ia (uq x p)) (ia (mz o x y p)) (by unfold mz;simp[(aC:¬o.kind=3),(aC:¬o.kind=4),(aC:¬o.kind=5),(aC:¬o.kind=6),(aC:¬o.kind=7),(aC:¬o.kind=8),(aC:¬o.kind=9),(aC:o.kind=10)]))
         (λk8=>ae [tB 52 (aT k8)]<|.w ((o.kind:Int)=11)
          (λk9=>ae [tB 57 (aU k9),ag [ia x,iP p] (Sk _ aD _ aC aC (hF.resolve_left aC))]<|rQ (ia (ur x p)) (ia (mz o x y p)) (by unfold mz;simp[(aC:¬o.kind=3),(aC:¬o.kind=4),(aC:¬o.kind=5),(aC:¬o.kind=6),(aC:¬o.kind=7),(aC:¬o.kind=8),(aC:¬o.kind=9),(aC:¬o.kind=10),(aC:o.kind=11)]))
          (λk9=>ae [tB 57 (aT k9)]<|.w ((o.kind:Int)=12)
           (λk10=>ae [tB 62 (aU k10),ag [ia x,iP p] (Sg _ aD _ aC aC (hF.resolve_left aC))]<|rQ (ia (uk x p)) (ia (mz o x y p)) (by unfold mz;simp[(aC:¬o.kind=3),(aC:¬o.kind=4),(aC:¬o.kind=5),(aC:¬o.kind=6),(aC:¬o.kind=7),(aC:¬o.kind=8),(aC:¬o.kind=9),(aC:¬o.kind=10),(aC:¬o.kind=11),(aC:o.kind=12)]))
           (λk10=>ae [tB 62 (aT k10)]<|.w ((o.kind:Int)=13)
            (λk11=>ae [tB 67 (aU k11),ag [ia x,iP p] (Sn _ aD _ aC aC (hF.resolve_left aC))]<|rQ (ia (oX x p)) (ia (mz o x y p)) (by unfold mz;simp[(aC:¬o.kind=3),(aC:¬o.kind=4),(aC:¬o.kind=5),(aC:¬o.kind=6),(aC:¬o.kind=7),(aC:¬o.kind=8),(aC:¬o.kind=9),(aC:¬o.kind=10),(aC:¬o.kind=11),(aC:¬o.kind=12),(aC:o.kind=13)]))
            (λk11=>.x aC)))))))))))) 
def aaE{nl:Bool}{T n n' sz:Nat}{f g h:Nat->Nat->E}(hn:n=n')(hh:∀ i j,i<n->j<sz->g i j=h i j/\(h i j).nr 2=true):Bx.le (.row nl T (0+n) sz λi j=>if i<0 then f i j else g (i-0) j) (.row nl T n' sz h):=
 .row aC λi j hi hj=>by
  have mi:i<n:= aC ;simp only[bk,bj,dr];exact⟨.iL (hh i j mi hj).1,(hh i j mi hj).2⟩
def He(r:List Iv)(h0:0<r.length)(hl:r.length<=1000):xd 198 [gY r] true 44 r.length 7 (iF r):=
 YA call198 func198 (ae [.a (aC:0<r.length),.bo,.a (aC:(0+r.length)*88<=140737488355328)]<|.rb (aaE rfl λi j hi hj=>⟨rfl,tf _ _ hj⟩:Bx.le (.row true 44 (0+r.length) 7 (λi_ j_=>if i_<0 then(λi_ j_=>([]:List E).getD (i_*7+j_) (.v (.bool false))) i_ j_ else(E.kE (gY r)) (i_-0) j_)) (.row true 44 r.length 7 (iF r)))) aF 
def Pq{T n n' x:Nat}{t:pn}{xs:List Iv}{p:Nat}{y:Iv}(hn:n=(jF t.gS xs p x).length)(uF:n'=(jF t.gS xs p (x+1)).length)(hy:xj (t.gS.getD x iw) (jF t.gS xs p x) p=y):
 Bx.le (.row true T (n+[y].length) 7 λi j=>if i<n then iF (jF t.gS xs p x) i j else(E.kE (gY [y])) (i-n) j) (.row true T n' 7 (iF (jF t.gS xs p (x+1)))):=by
 subst uF hy;exact Jo hn
def DP{o:mF}{m:Nat}(h:nx o m):o.n<=16:=by
 have:=h.n;split at this<;>omega
def akJ(t:pn)(xs:List Iv)(p:Nat)(h:xW t)(h1:1<=xs.length)(hx:xs.length=t.ic)(hv:lQ xs)(ib:8<=p)(gW:p<=512):gQ 219 [GD t,gY xs,iP p] (gY (jF t.gS xs p t.gS.length)):=by
 have h8:=h.ic;have Dr:=h.gS;exact ak call219 func219 (af [.c (Yq t aD),ai 19 ((xs.length:Int) != (t.ic:Int)) (uS hx),.cn (He _ aC aC:xd 198 [gY xs] true 44 xs.length 7 (iF xs)),.s (Sp.jE (Yo t xs p) 0 t.gS.length aC (λx hx mn=>by
    have ik:=h.op x aC;have s9:=Kw t.gS hv (aC:1<=p) (aC:p<=4096) x;have IY:=Pp t.gS xs p x;have w1:=s9 (t.gS.getD x iw).a;by_cases nX:((t.gS.getD x iw)).kind=1
    .have nI:((t.gS.getD x iw)).kind=1:=nX;obtain⟨o1,o2,o3,sB⟩:=ik.num nI;have pv:xj (t.gS.getD x iw) (jF t.gS xs p x) p=(qE (t.gS.getD x iw).cn (t.gS.getD x iw).cd p):=by unfold xj;rw[aZ nI]
     have rq:=pA (qE (t.gS.getD x iw).cn (t.gS.getD x iw).cd p);exact iA (ae [tT 27 ((x:Int)<t.gS.length) aC,iX (x:Int) (t.gS.length) aC,.c (Wz ((t.gS.getD x iw).kind:Nat) aC),ah 50 ((0:Int)==0) aE,.c (WM ((t.gS.getD x iw).cn) ((t.gS.getD x iw).cd) p aD aC aC),.o 71 (.e (lq _):aj (.sl true 1 7 λi_ j_=>(iE (qE ((t.gS.getD x iw).cn) ((t.gS.getD x iw).cd) p)).getD (i_*7+j_) (.v (.bool false))) (gY [qE ((t.gS.getD x iw).cn) ((t.gS.getD x iw).cd) p])),.a (aC:((jF t.gS xs p x).length+[qE ((t.gS.getD x iw).cn) ((t.gS.getD x iw).cd) p].length)*88<=140737488355328),ij ((x:Int)+1) aC]<|.e (af [.b 22 (Pq rfl rfl pv:Bx.le (.row true 44 ((jF t.gS xs p x).length+[qE ((t.gS.getD x iw).cn) ((t.gS.getD x iw).cd) p].length) 7 (λi_ j_=>if i_<(jF t.gS xs p x).length then(iF (jF t.gS xs p x)) i_ j_ else(E.kE (gY [qE ((t.gS.getD x iw).cn) ((t.gS.getD x iw).cd) p])) (i_-(jF t.gS xs p x).length) j_)) (.row true 44 ((jF t.gS xs p (x+1)).length) 7 (iF (jF t.gS xs p (x+1)))))])) aF 
    .by_cases hk:((t.gS.getD x iw)).kind<=6
     .have oA:((t.gS.getD x iw)).kind≠1:=nX;have nI:((t.gS.getD x iw)).kind<=6:=hk;have pv:xj (t.gS.getD x iw) (jF t.gS xs p x) p=(mz (t.gS.getD x iw) ((jF t.gS xs p x).getD ((t.gS.getD x iw).a) gT) ((jF t.gS xs p x).getD ((t.gS.getD x iw).b) gT) p):=by unfold xj xk;rw[aY oA,a6 nI];rfl
      obtain⟨o1,o2,o3,o4,o5,o6⟩:=ik.Bg oA nI;have w2:=s9 (t.gS.getD x iw).b;have o7:=ik.wQ;have rq:=pA (mz (t.gS.getD x iw) ((jF t.gS xs p x).getD ((t.gS.getD x iw).a) gT) ((jF t.gS xs p x).getD ((t.gS.getD x iw).b) gT) p);exact iA (ae [tT 27 ((x:Int)<t.gS.length) aC,iX (x:Int) (t.gS.length) aC,.c (WA ((t.gS.getD x iw).kind:Nat) aC aC),ai 50 ((2:Int)==0) aE,ai 56 ((2:Int)==1) aE,iX ((t.gS.getD x iw).a:Int) ((jF t.gS xs p x).length) aC,.a (aC:(t.gS.getD x iw).a<(jF t.gS xs p x).length),
       iX ((t.gS.getD x iw).b:Int) ((jF t.gS xs p x).length) aC,.a (aC:(t.gS.getD x iw).b<(jF t.gS xs p x).length),ag [iP ((t.gS.getD x iw).kind:Int),iP ((t.gS.getD x iw).n:Int),ia ((jF t.gS xs p x).getD (t.gS.getD x iw).a gT),ia ((jF t.gS xs p x).getD (t.gS.getD x iw).b gT),iP p] (P3 (t.gS.getD x iw) _ _ _ aD aD aC aC aC aC aC ik.f),.o 71 (.e (lq _):aj (.sl true 1 7 λi_ j_=>(iE (mz (t.gS.getD x iw) ((jF t.gS xs p x).getD (t.gS.getD x iw).a gT) ((jF t.gS xs p x).getD (t.gS.getD x iw).b gT) p)).getD (i_*7+j_) (.v (.bool false))) (gY [mz (t.gS.getD x iw) ((jF t.gS xs p x).getD (t.gS.getD x iw).a gT) ((jF t.gS xs p x).getD (t.gS.getD x iw).b gT) p])),.a (aC:((jF t.gS xs p x).length+[mz (t.gS.getD x iw) ((jF t.gS xs p x).getD (t.gS.getD x iw).a gT) ((jF t.gS xs p x).getD (t.gS.getD x iw).b gT) p].length)*88<=140737488355328),
       ij ((x:Int)+1) aC]<|.e (af [.b 22 (Pq rfl rfl pv:Bx.le (.row true 44 ((jF t.gS xs p x).length+[mz (t.gS.getD x iw) ((jF t.gS xs p x).getD (t.gS.getD x iw).a gT) ((jF t.gS xs p x).getD (t.gS.getD x iw).b gT) p].length) 7 (λi_ j_=>if i_<(jF t.gS xs p x).length then(iF (jF t.gS xs p x)) i_ j_ else(E.kE (gY [mz (t.gS.getD x iw) ((jF t.gS xs p x).getD (t.gS.getD x iw).a gT) ((jF t.gS xs p x).getD (t.gS.getD x iw).b gT) p])) (i_-(jF t.gS xs p x).length) j_)) (.row true 44 ((jF t.gS xs p (x+1)).length) 7 (iF (jF t.gS xs p (x+1)))))])) aF 
     .have oA:((t.gS.getD x iw)).kind≠1:=nX;have nI:¬((t.gS.getD x iw)).kind<=6:=hk;have pv:xj (t.gS.getD x iw) (jF t.gS xs p x) p=(mz (t.gS.getD x iw) ((jF t.gS xs p x).getD ((t.gS.getD x iw).a) gT) gT p):=by unfold xj xk;rw[aY oA,a7 nI];rfl
      have w2:=lG;have o2:=ik.CM oA;have o7:=ik.wQ;have o8:=DP ik;have rq:=pA (mz (t.gS.getD x iw) ((jF t.gS xs p x).getD ((t.gS.getD x iw).a) gT) gT p);exact iA (ae [tT 27 ((x:Int)<t.gS.length) aC,iX (x:Int) (t.gS.length) aC,.c (Ob ((t.gS.getD x iw).kind:Nat) aC aC),ai 50 ((1:Int)==0) aE,ah 56 ((1:Int)==1) aE,iX ((t.gS.getD x iw).a:Int) ((jF t.gS xs p x).length) aC,.a (aC:(t.gS.getD x iw).a<(jF t.gS xs p x).length),.o 66 (.e KA:aj (.agg [bP false,.v (.slice none 0 0),iP 0,bP false,.v (.slice none 0 0),iP 0,bP true]) (ia gT)),ag [iP ((t.gS.getD x iw).kind:Int),iP ((t.gS.getD x iw).n:Int),ia ((jF t.gS xs p x).getD (t.gS.getD x iw).a gT),ia gT,iP p] (P3 (t.gS.getD x iw) _ _ _ aD aD aC aC aC aC aC ik.f),.o 71 (.e (lq _):aj (.sl true 1 7 λi_ j_=>(iE (mz (t.gS.getD x iw) ((jF t.gS xs p x).getD (t.gS.getD x iw).a gT) gT p)).getD (i_*7+j_) (.v (.bool false))) (gY [mz (t.gS.getD x iw) ((jF t.gS xs p x).getD (t.gS.getD x iw).a gT) gT p])),.a (aC:((jF t.gS xs p x).length+[mz (t.gS.getD x iw) ((jF t.gS xs p x).getD (t.gS.getD x iw).a gT) gT p].length)*88<=140737488355328),ij ((x:Int)+1) aC]<|.e (af [.b 22 (Pq rfl rfl pv:Bx.le (.row true 44 ((jF t.gS xs p x).length+[mz (t.gS.getD x iw) ((jF t.gS xs p x).getD (t.gS.getD x iw).a gT) gT p].length) 7 (λi_ j_=>if i_<(jF t.gS xs p x).length then(iF (jF t.gS xs p x)) i_ j_ else(E.kE (gY [mz (t.gS.getD x iw) ((jF t.gS xs p x).getD (t.gS.getD x iw).a gT) gT p])) (i_-(jF t.gS xs p x).length) j_)) (.row true 44 ((jF t.gS xs p (x+1)).length) 7 (iF (jF t.gS xs p (x+1)))))])) aF)
  (λhx=>by
    exact iA (ae [tF 27 ((t.gS.length:Int)<t.gS.length) aC,.z 22]<|.e (af [.o 7 (.e (DB aH):aj (.sl true ((jF t.gS xs p t.gS.length).length) 7 (iF (jF t.gS xs p t.gS.length))) (gY (jF t.gS xs p t.gS.length)))])) aF) aI:jB 5 f219 (Yo t xs p 0) (.exit 0) ⟨75,true,[(7,.e (gY (jF t.gS xs p t.gS.length)))],[]⟩) (af [.b 22 (.iL rfl:Bx.le (.row true 44 xs.length 7 (iF xs)) (.row true 44 ((jF t.gS xs p 0).length) 7 (iF (jF t.gS xs p 0))))])]) 
def nU(m:List (List Iv)):Nat->List Iv
 | 0=>[]
 |k+1=>nU m k++m.getD k []
def Lc(m:List (List Iv))(k:Nat):(nU m (k+1)).length=(nU m k).length+(m.getD k []).length:=by simp[nU]
def af4{T n n':Nat}{xs r:List Iv}(hn:n=xs.length)(uF:n'=(xs++r).length):Bx.le (.row true T (n+r.length) 7 λi j=>if i<n then iF xs i j else(E.kE (gY r)) (i-n) j) (.row true T n' 7 (iF (xs++r))):=by
 subst hn uF;refine .row aH λi j hi hj=>⟨.iL ?_,tf _ _ hj⟩
 by_cases h:i<xs.length
 .rw [aZ h];show(iE (xs.getD i gT)).getD j .any=(iE ((xs++r).getD i gT)).getD j .any;congr 2;simp[bd,dw h]
 .rw [aY h];show(iE (r.getD (i-xs.length) gT)).getD j .any=(iE ((xs++r).getD i gT)).getD j .any;congr 2;simp[bd,fJ (aC:xs.length<=i)]
def DH(a b:List Iv):E.le (.sl true 2 1 λi j=>[gY a,gY b].getD (i*1+j) (.v (.bool false))) (kK [a,b]):=.sl λi j hi hj=>by
 obtain rfl:j=0:= aC ;obtain rfl|rfl:i=0\/i=1:= aC 
 all_goals exact⟨.refl _,rfl⟩
def ajg{n:Nat}:E.le (.sl true n 1 λk _=>.sl true ((λ_=>0) k) 7 ((λ_ _ _=>.any) k)) (kK (List.replicate n [])):=by
 have h:kK (List.replicate n []) = .sl true n 1 λi _=>gY ((List.replicate n []).getD i []):=by unfold kK;rw[List.length_replicate]
 rw[h];refine .sl λi j hi hj=>⟨?_,rfl⟩
 have e:(List.replicate n ([]:List Iv)).getD i []=[]:=by simp[bd,hi]
 rw[e];exact .sl λq _ hq _=>absurd hq (bk _)
def QQ(m:List (List Iv))(x:Nat):PS:=⟨36,true,[(11,.e (iP x)),(10,.e (iP m.length)),(9,.e (kK m)),(3,.e (iP ((nU m x).length:Int))),(0,.e (kK m))],[]⟩
def QR(m:List (List Iv))(x:Nat):PS:=⟨36,true,[(27,.e (iP x)),(26,.e (iP m.length)),(25,.e (kK m)),(6,.own 24)],[(24,.row true 44 ((nU m x).length) 7 (iF (nU m x)))]⟩
noncomputable def SV(t:pn)(xs:List Iv)(p:Nat)(x:Nat):PS:=⟨91,true,[(43,.e (iP x)),(42,.e (iP 0)),(11,.own 41),(10,.e (gY (jF t.gS xs p t.gS.length))),(4,.box 4 0),(3,.e (iP p))],[(41,.jA true 26 44 t.iu.length 7 (λ_=>0) (λ_ _ _=>.any) .none),(4,.cells 25 [iP t.ic,kD t.gS,kC t.iu])]⟩
noncomputable def SU(t:pn)(xs:List Iv)(p:Nat)(x:Nat):PS:=⟨91,true,[(16,.own 16),(77,.e (iP x)),(76,.e (iP t.iu.length)),(75,.e (kC t.iu)),(11,.own 41),(10,.e (gY (jF t.gS xs p t.gS.length)))],[(16,.row true 44 x 7 (iF ((List.range x).map (λj_=>(jF t.gS xs p t.gS.length).getD (t.iu.getD j_ 0) gT)))),(41,.jA true 26 44 t.iu.length 7 (λ_=>0) (λ_ _ _=>.any) .none)]⟩
def ab8(m:List (List Iv))(hl:m.length<=1000)(hb:∀ k,k<=m.length->(nU m k).length<=1000):gQ 183 [kK m] (gY (nU m m.length)):=by
 have Ai:=hb m.length (bc _);exact ak call183 func183 (af [.s (Sp.jE (QQ m) 0 m.length aC (λx hx mn=>by
    have iO:=hb (x+1) aC;rw[Lc]at iO;exact iA (ae [tT 12 ((x:Int)<m.length) aC,iX (x:Int) (m.length) aC,ij (((nU m x).length:Int)+((m.getD x []).length:Int)) aC,tF 20 ((((nU m x).length+(m.getD x []).length:Nat):Int)<0) aC,ij ((x:Int)+1) aC]<|.e (af [.o 3 (aq (((nU m x).length+(m.getD x []).length:Nat):Int) ((nU m (x+1)).length:Int) (by rw[Lc]))])) aF)
  (λhx=>by
    exact iA (af [tF 12 ((m.length:Int)<m.length) aC]) aF) aI:jB 3 f183 (QQ m 0) (.exit 0) ⟨36,true,[(3,.e (iP ((nU m m.length).length:Int))),(0,.e (kK m))],[]⟩) (af [.o 3 (aq 0 ((nU m 0).length:Int) rfl)]),.cn (aeF _ aC:xd 221 [.v (.slice none 0 0),iP ((nU m m.length).length:Int)] true 44 0 7 (iF [])),.s (Sp.jE (QR m) 0 m.length aC (λx hx mn=>by
    have iO:=hb (x+1) aC;rw[Lc]at iO;exact iA (ae [tT 28 ((x:Int)<m.length) aC,iX (x:Int) (m.length) aC,.a (aC:((nU m x).length+(m.getD x []).length)*88<=140737488355328),ij ((x:Int)+1) aC]<|.e (af [.b 24 (af4 rfl rfl:Bx.le (.row true 44 ((nU m x).length+(m.getD x []).length) 7 (λi_ j_=>if i_<(nU m x).length then(iF (nU m x)) i_ j_ else(E.kE (gY (m.getD x []))) (i_-(nU m x).length) j_)) (.row true 44 ((nU m (x+1)).length) 7 (iF (nU m (x+1)))))])) aF)
  (λhx=>by
    exact iA (ae [tF 28 ((m.length:Int)<m.length) aC,.z 24]<|.e (af [.o 6 (.e (DB aH):aj (.sl true ((nU m m.length).length) 7 (iF (nU m m.length))) (gY (nU m m.length)))])) aF) aI:jB 11 f183 (QR m 0) (.exit 2) ⟨36,true,[(6,.e (gY (nU m m.length)))],[]⟩) (af [.b 24 (.iL rfl:Bx.le (.row true 44 0 7 (iF [])) (.row true 44 ((nU m 0).length) 7 (iF (nU m 0))))])]) 
def Ri(a b:List Iv)(ha:a.length<=400)(hb:b.length<=400):gQ 183 [kK [a,b]] (gY (a++b)):=by
 have e1:nU [a,b] 1=a:=rfl;have e2:nU [a,b] 2=a++b:=rfl;have:=ab8 [a,b] aH λk hk=>by
  have hk:k<=2:=hk;rcases k with _|_|_|k
  .exact bV _
  .rw [e1];omega
  .rw [e2,cA];omega
  .omega
 rwa[show[a,b].length=2 from rfl,e2]at this
def LO(p:Int):gQ 181 [iP p] (bP (mC p)):=
 ak call181 func181 (.w (8<=p)
  (λk1=>ae [tB 4 (a6 k1)]<|rQ (bP (decide (p<=512))) (bP (mC p)) (by unfold mC;simp[k1]))
  (λk1=>ae [tB 4 (a7 k1)]<|rQ (bP false) (bP (mC p)) (by unfold mC;simp[k1]))) 
def adU(x:Iv)(hx:x.gX):gQ 241 [ia x] (bP false):=
 ak call241 func241 (af [.c (qV x aD)]) 
def adV(t:pn)(xs:List Iv)(p:Nat)(h:xW t)(h1:1<=xs.length)(hx:xs.length=t.ic)(hv:lQ xs)(ib:8<=p)(gW:p<=512):gQ 218 [GD t,gY xs,iP p] (bP true):=by
 have h8:=h.ic;exact ak call218 func218 (af [.c (Yq t aD),ah 14 ((xs.length:Int)==t.ic) (NN hx),.c (LO (p:Int)),ah 18 (mC (p:Int)) (rO.2 ⟨aC,aC⟩),.c (Cb true _ _ 241 [] (λ_=>false) (λi hi=>adU _ (hv i)) aC (λ_ _=>rfl):gQ 22 [gY xs,.fn 241 []] _)]) 
def adH(t:pn)(xs:List Iv)(p:Nat):(List.range t.iu.length).map (λj=>(jF t.gS xs p t.gS.length).getD (t.iu.getD j 0) gT)=ke t xs p:=by
 unfold ke;apply fI;intro i;rw[cr,cr];by_cases hi:i<t.iu.length
 .rw [bt (by simpa using hi),bt hi];simp[bd,hi]
 .rw [b7 (by simpa using hi),b7 aC];rfl
def SW(t:pn)(xs:List Iv)(p:Nat)(h:xW t)(h1:1<=xs.length)(hx:xs.length=t.ic)(hv:lQ xs)(ib:8<=p)(gW:p<=512):gQ 182 [GD t,gY xs,iP 0,iP p] (.ie [gY (ke t xs p),kK (List.replicate t.iu.length [])]):=by
 have h8:=h.ic;have Dr:=h.gS;have Ds:=h.iu;exact ak call182 func182 (ae [.c (adV t xs p h h1 hx hv aC aC),ai 26 (decide ((0:Int)<0)) aE,tF 32 ((t.ic:Int)<0) aC,.c (akJ t xs p h h1 hx hv aC aC),.a (aC:0<=((t.iu.length:Int):Int)/\((t.iu.length:Int):Int)<=((t.iu.length:Int):Int)),.a (aC:((24:Nat):Int)*(t.iu.length:Int)<=281474976710656/\((t.iu.length:Int):Int)<=9223372036854775807),.s (Sp.jE (SV t xs p) 0 0 aC (λx hx mn=>by
    exact absurd mn (bk _))
  (λhx=>by
    exact iA (af [ai 44 (decide ((0:Int)<0)) aE]) aF) aI:jB 6 f182 (SV t xs p 0) (.exit 0) ⟨91,true,[(11,.own 41),(10,.e (gY (jF t.gS xs p t.gS.length))),(4,.box 4 0)],[(41,.jA true 26 44 t.iu.length 7 (λ_=>0) (λ_ _ _=>.any) .none),(4,.cells 25 [iP t.ic,kD t.gS,kC t.iu])]⟩) .nil,.y 16 16 true 44 7 (iF ((List.range 0).map (λj_=>(jF t.gS xs p t.gS.length).getD (t.iu.getD j_ 0) gT))),.s (Sp.jE (SU t xs p) 0 t.iu.length aC (λx hx mn=>by
    have hot:=h.out x aC;have IY:=Pp t.gS xs p t.gS.length;have rq:=pA ((jF t.gS xs p t.gS.length).getD (t.iu.getD x 0) gT);exact iA (ae [tT 78 ((x:Int)<t.iu.length) aC,iX (x:Int) (t.iu.length) aC,iX (t.iu.getD x 0:Int) ((jF t.gS xs p t.gS.length).length) aC,.o 86 (.e (lq _):aj (.sl true 1 7 λi_ j_=>(iE ((jF t.gS xs p t.gS.length).getD (t.iu.getD x 0) gT)).getD (i_*7+j_) (.v (.bool false))) (gY [(jF t.gS xs p t.gS.length).getD (t.iu.getD x 0) gT])),.a (aC:(x+[(jF t.gS xs p t.gS.length).getD (t.iu.getD x 0) gT].length)*88<=140737488355328),ij ((x:Int)+1) aC]<|.e (af [.b 16 (Cc rfl rfl rfl:Bx.le (.row true 44 (x+[(jF t.gS xs p t.gS.length).getD (t.iu.getD x 0) gT].length) 7 (λi_ j_=>if i_<x then(iF ((List.range x).map (λj_=>(jF t.gS xs p t.gS.length).getD (t.iu.getD j_ 0) gT))) i_ j_ else(E.kE (gY [(jF t.gS xs p t.gS.length).getD (t.iu.getD x 0) gT])) (i_-x) j_)) (.row true 44 (x+1) 7 (iF ((List.range (x+1)).map (λj_=>(jF t.gS xs p t.gS.length).getD (t.iu.getD j_ 0) gT)))))])) aF)
  (λhx=>by
    exact iA (ae [tF 78 ((t.iu.length:Int)<t.iu.length) aC,.z 16]<|.e (af [.o 16 (.e (DB aH):aj (.sl true t.iu.length 7 (iF ((List.range t.iu.length).map (λj_=>(jF t.gS xs p t.gS.length).getD (t.iu.getD j_ 0) gT)))) (gY ((List.range t.iu.length).map (λj_=>(jF t.gS xs p t.gS.length).getD (t.iu.getD j_ 0) gT))))])) aF) aI:jB 17 f182 (SU t xs p 0) (.exit 4) ⟨91,true,[(16,.e (gY ((List.range t.iu.length).map (λj_=>(jF t.gS xs p t.gS.length).getD (t.iu.getD j_ 0) gT)))),(11,.own 41)],[(41,.jA true 26 44 t.iu.length 7 (λ_=>0) (λ_ _ _=>.any) .none)]⟩) .nil]<|rR (.ie [gY (ke t xs p),kK (List.replicate t.iu.length [])]) (.ie (.cons (.iL (by rw[adH])) (.cons ajg .nil)):E.le (.ie [gY ((List.range t.iu.length).map (λj_=>(jF t.gS xs p t.gS.length).getD (t.iu.getD j_ 0) gT)),(.sl true t.iu.length 1 λk_ _=>.sl true ((λ_=>0) k_) 7 ((λ_ _ _=>.any) k_))]) (.ie [gY (ke t xs p),kK (List.replicate t.iu.length [])]))) 
def adQ(x:Iv):gQ 217 [ia x] (bP x.all):=
 ak call217 func217 (.nil) 
def E3(l:List Iv)(hl:l.length<=1000):gQ 179 [gY l] (bP (qp l)):=
 ak call179 func179 (af [.c (Ni true _ _ 217 [] (λi=>(l.getD i gT).all) (λi hi=>adQ _) aC:gQ 22 [gY l,.fn 217 []] _)]) 
def SP(x:Iv)(hx:x.gX):gQ 180 [ia x] (bP false):=
 ak call180 func180 (af [.c (qV x aD)]) 
def aiS(n:Nat)(hn:n<=1000):gQ 184 [kK (List.replicate n []),.fn 179 []] (bP false):=by
 have e:∀ i,i<n->(List.replicate n ([]:List Iv)).getD i []=[]:=λi hi=>by simp[bd,hi]
 refine ajc true _ _ 179 [] (λ_=>false) (λi hi=>?_) (by simpa using by omega) (λ_ _=>rfl);have mi:i<n:=by simpa using hi
 show gQ 179 [gY ((List.replicate n []).getD i [])] _;rw[e i mi];exact E3 [] aH 
def Wp{l:List Iv}(h:pU l):qp l=false:=by
 unfold qp;rw[cW];intro i hi;rw[(h i (bW.1 hi)).2];decide
def Hq{s:jz}{b:List Iv}(h:lH s)(hb:kf s.iH b):xW s.tape/\1<=(b++s.params).length/\(b++s.params).length=s.tape.ic/\lQ (b++s.params):=by
 have h1:=h.s1;have h2:=h.ic;have h3:=hb.len;refine⟨h.tape,?_,?_,hb.ok.Po.append h.params.Po⟩
 .rw [cA];omega
 .rw [cA];omega
def adR(s:jz)(b:List Iv)(p:Nat)(h:lH s)(hb:kf s.iH b)(ib:8<=p)(gW:p<=512)(hn:qp (ke s.tape (b++s.params) p)=true):gQ 150 [kQ s,gY b,iP 0,iP p] (.ie [.v (.slice none 0 0),.v (.slice none 0 0),iP 11]):=by
 have s4:=h.s4;have p4:=h.p4;have Fk:=hb.len;have Ds:=h.tape.iu;have BL:=Wp hb.ok;have Am:=Iq s.tape (b++s.params) p;obtain⟨f1,f2,f3,f4⟩:=Hq h hb;exact ak call150 func150 (af [.c (zw s aD),ai 21 ((b.length:Int) != (s.iH:Int)) (uS hb.len),.c (E3 b aC),ai 25 (qp b) BL,.c (Cb true _ _ 180 [] (λ_=>false) (λi hi=>SP _ (hb.ok i hi).1) aC (λ_ _=>rfl):gQ 22 [gY b,.fn 180 []] _),.c (LO (p:Int)),ah 32 (mC (p:Int)) (rO.2 ⟨aC,aC⟩),.o 40 (.e (DH _ _):aj (.sl true 2 1 λi_ j_=>[gY b,gY s.params].getD (i_*1+j_) (.v (.bool false))) (kK [b,s.params])),ag [kK [b,s.params]] (Ri b s.params aC aC),.c (SW s.tape (b++s.params) p f1 f2 f3 f4 aC aC),.c (E3 (ke s.tape (b++s.params) p) aC),ah 48 (qp (ke s.tape (b++s.params) p)) hn]) 
def adS(s:jz)(b:List Iv)(p:Nat)(h:lH s)(hb:kf s.iH b)(ib:8<=p)(gW:p<=512)(hn:qp (ke s.tape (b++s.params) p)=false):gQ 150 [kQ s,gY b,iP 0,iP p] (.ie [gY (ke s.tape (b++s.params) p),kK (List.replicate s.tape.iu.length []),iP 0]):=by
 have s4:=h.s4;have p4:=h.p4;have Fk:=hb.len;have Ds:=h.tape.iu;have BL:=Wp hb.ok;have Am:=Iq s.tape (b++s.params) p;obtain⟨f1,f2,f3,f4⟩:=Hq h hb;exact ak call150 func150 (af [.c (zw s aD),ai 21 ((b.length:Int) != (s.iH:Int)) (uS hb.len),.c (E3 b aC),ai 25 (qp b) BL,.c (Cb true _ _ 180 [] (λ_=>false) (λi hi=>SP _ (hb.ok i hi).1) aC (λ_ _=>rfl):gQ 22 [gY b,.fn 180 []] _),.c (LO (p:Int)),ah 32 (mC (p:Int)) (rO.2 ⟨aC,aC⟩),.o 40 (.e (DH _ _):aj (.sl true 2 1 λi_ j_=>[gY b,gY s.params].getD (i_*1+j_) (.v (.bool false))) (kK [b,s.params])),ag [kK [b,s.params]] (Ri b s.params aC aC),.c (SW s.tape (b++s.params) p f1 f2 f3 f4 aC aC),.c (E3 (ke s.tape (b++s.params) p) aC),ai 48 (qp (ke s.tape (b++s.params) p)) hn,ag [kK (List.replicate s.tape.iu.length []),.fn 179 []] (aiS _ aC)]) 
def adT(s:jz)(b:List Iv)(p:Nat)(h:lH s)(hb:kf s.iH b)(ib:8<=p)(gW:p<=512)(hn:qp (ke s.tape (b++s.params) p)=true):gQ 101 [kQ s,gY b,iP p] (.ie [.v (.slice none 0 0),iP 11]):=
 ak call101 func101 (af [.c (adR s b p h hb ib gW hn)]) 
def SR(s:jz)(b:List Iv)(p:Nat)(h:lH s)(hb:kf s.iH b)(ib:8<=p)(gW:p<=512)(hn:qp (ke s.tape (b++s.params) p)=false):gQ 101 [kQ s,gY b,iP p] (.ie [gY (ke s.tape (b++s.params) p),iP 0]):=
 ak call101 func101 (af [.c (adS s b p h hb ib gW hn)]) 
noncomputable def Uz(s:jz)(x:List Iv)(d:Dy)(b:List Iv)(p:Nat)(N:Nat)(i:Nat):PS:=⟨66,true,[(14,.own 14),(42,.e (iP i)),(41,.e (iP x.length)),(13,.box 13 0),(11,.e (gY (ke s.tape (b++s.params) p))),(1,.e (gY x)),(4,.e (iP p))],[(14,.row true 44 i 7 (iF ((List.range i).map (λj_=>(jC (x.getD j_ gT) (iy (lX d) ((ke s.tape (b++s.params) p).getD j_ gT) p) p))))),(13,.cells 44 (ar++iq d++[bP false]))]⟩
noncomputable def UA(s:jz)(x:List Iv)(d:Dy)(b:List Iv)(p:Nat)(i:Nat):PS:=⟨66,true,[(14,.own 14),(42,.e (iP i)),(41,.e (iP x.length)),(13,.box 13 0),(11,.e (gY (ke s.tape (b++s.params) p))),(1,.e (gY x)),(4,.e (iP p))],[(14,.row true 44 i 7 (iF ((List.range i).map (λj_=>(jC (x.getD j_ gT) (iy (lX d) ((ke s.tape (b++s.params) p).getD j_ gT) p) p))))),(13,.cells 44 (ar++iq d++[bP false]))]⟩
def RW(s:jz)(x:List Iv)(d:Dy)(p:Nat)(N:Nat)(k:Nat):PS:=⟨55,true,[(22,.e (iP k)),(10,.oP 41 [.box 5,.box 4,.box 6,.box 7]),(7,.box 7 0),(6,.box 6 0),(5,.box 5 0),(4,.box 4 0)],[(7,.cells 3 [iP p]),(6,.cells 31 (iq d)),(5,.cells 26 [gY x]),(4,.cells 28 [iP s.tape.ic,kD s.tape.gS,kC s.tape.iu,iP s.iH,gY s.params])]⟩
def RX(s:jz)(x:List Iv)(d:Dy)(p:Nat)(k:Nat):PS:=⟨55,true,[(22,.e (iP k)),(10,.oP 41 [.box 5,.box 4,.box 6,.box 7]),(7,.box 7 0),(6,.box 6 0),(5,.box 5 0),(4,.box 4 0)],[(7,.cells 3 [iP p]),(6,.cells 31 (iq d)),(5,.cells 26 [gY x]),(4,.cells 28 [iP s.tape.ic,kD s.tape.gS,kC s.tape.iu,iP s.iH,gY s.params])]⟩
noncomputable def R0(s:jz)(x:List Iv)(d:Dy)(p:Nat)(N:Nat)(j:Nat):PS:=⟨55,true,[(36,.e (iP j)),(14,.e (gY (kW s x d p j))),(7,.box 7 0),(6,.box 6 0),(5,.box 5 0),(4,.box 4 0)],[(7,.cells 3 [iP p]),(6,.cells 31 (iq d)),(5,.cells 26 [gY x]),(4,.cells 28 [iP s.tape.ic,kD s.tape.gS,kC s.tape.iu,iP s.iH,gY s.params])]⟩
def RY(s:jz)(x:List Iv)(d:Dy)(p:Nat)(k:Nat):PS:=⟨55,true,[(22,.e (iP k)),(10,.oP 41 [.box 5,.box 4,.box 6,.box 7]),(7,.box 7 0),(6,.box 6 0),(5,.box 5 0),(4,.box 4 0)],[(7,.cells 3 [iP p]),(6,.cells 31 (iq d)),(5,.cells 26 [gY x]),(4,.cells 28 [iP s.tape.ic,kD s.tape.gS,kC s.tape.iu,iP s.iH,gY s.params])]⟩
noncomputable def R1(s:jz)(x:List Iv)(d:Dy)(p:Nat)(j:Nat):PS:=⟨55,true,[(36,.e (iP j)),(14,.e (gY (kW s x d p j))),(7,.box 7 0),(6,.box 6 0),(5,.box 5 0),(4,.box 4 0)],[(7,.cells 3 [iP p]),(6,.cells 31 (iq d)),(5,.cells 26 [gY x]),(4,.cells 28 [iP s.tape.ic,kD s.tape.gS,kC s.tape.iu,iP s.iH,gY s.params])]⟩
def aaf(x:Iv)(hx:x.gX)(xa:x.all=false):gQ 136 [ia x] (bP false):=
 ak call136 func136 (af [.c (qV x aD),ai 8 x.all xa]) 
def Hn(s:jz)(b:List Iv)(hb:kf s.iH b)(h4:s.iH<=4):gQ 86 [kQ s,gY b] (bP true):=by
 have Fk:=hb.len;exact ak call86 func86 (af [ah 9 ((b.length:Int)==s.iH) (NN hb.len),.c (Cb true _ _ 136 [] (λ_=>false) (λi hi=>aaf _ (hb.ok i hi).1 (hb.ok i hi).2) aC (λ_ _=>rfl):gQ 22 [gY b,.fn 136 []] _)]) 
def Bw(s:jz)(x:List Iv)(d:Dy)(p:Nat)(h:lH s)(hx:kf s.iH x)(hd:d.gX)(h0:0<d.iJ)(ib:8<=p)(gW:p<=512):gQ 40 [kQ s,gY x,gU d,iP p] (bP true):=by
 have s4:=h.s4;exact ak call40 func40 (af [.c (zw s aD),.c (Hn s x hx aC),ag [gU d] (mZ _ aD),ag [gU d] (mJ _ aD),tB 23 (a6 h0),tT 27 (8<=(p:Int)) aC,tT 31 ((p:Int)<=512) aC]) 
def aft(s:jz)(x:List Iv)(d:Dy)(b:List Iv)(p:Nat)(h:lH s)(hx:kf s.iH x)(hd:d.gX)(h0:0<d.iJ)(hb:kf s.iH b)(ib:8<=p)(gW:p<=512)(hn:qp (ke s.tape (b++s.params) p)=true):gQ 52 [kQ s,gY x,gU d,gY b,iP p] (.v (.slice none 0 0)):=by
 have s4:=h.s4;exact ak call52 func52 (af [.c (Bw s x d p h hx hd h0 ib gW),.c (Hn s b hb s4),.c (adT s b p h hb ib gW hn),ah 37 ((11:Int) != 0) aE]) 
def O7(d:Dy):E.le (.agg (ar++iq d++[bP false])) (ia (lX d)):=
 .agg (.cons (.refl _) (.cons Cn (.cons (.refl _) (.cons (.refl _) (.cons (.refl _) (.cons (.refl _) (.cons (.refl _) .nil)))))))
def afu(s:jz)(x:List Iv)(d:Dy)(b:List Iv)(p:Nat)(h:lH s)(hx:kf s.iH x)(hd:d.gX)(h0:0<d.iJ)(hb:kf s.iH b)(ib:8<=p)(gW:p<=512)(hn:qp (ke s.tape (b++s.params) p)=false)(N:Nat)(pN:N<x.length)(jG:∀ i,i<N->(jC (x.getD i gT) (iy (lX d) ((ke s.tape (b++s.params) p).getD i gT) p) p).all=false)(hN:(jC (x.getD N gT) (iy (lX d) ((ke s.tape (b++s.params) p).getD N gT) p) p).all=true):gQ 52 [kQ s,gY x,gU d,gY b,iP p] (.v (.slice none 0 0)):=by
 have s4:=h.s4;have yG:=hx.len;have Ds:=h.iu;have Am:=Iq s.tape (b++s.params) p;obtain⟨f1,f2,f3,f4⟩:=Hq h hb;have fv:=Sr s.tape f4 (aC:1<=p) (aC:p<=4096);have hq:0<d.q:=(rB d).1.1 h0;have hst:=Ye hd (bG hq);exact ak call52 func52 (af [.c (Bw s x d p h hx hd h0 ib gW),.c (Hn s b hb s4),.c (SR s b p h hb ib gW hn),ai 37 ((0:Int) != 0) aE,.y 14 14 true 44 7 (iF ((List.range 0).map (λj_=>(jC (x.getD j_ gT) (iy (lX d) ((ke s.tape (b++s.params) p).getD j_ gT) p) p)))),.s (Sp.jE (Uz s x d b p N) 0 N aC (λi hi oM=>by
    have w1:=(hx.ok i aC).1;have w2:=fv i;have w3:=nY (lX d) ((ke s.tape (b++s.params) p).getD i gT) (aC:1<=p) (aC:p<=4096);have rq:=pA (jC (x.getD i gT) (iy (lX d) ((ke s.tape (b++s.params) p).getD i gT) p) p);exact iA (ae [tT 43 ((i:Int)<x.length) aC,iX (i:Int) (x.length) aC,.o 49 (.e (O7 d):aj (.agg (ar++iq d++[bP false])) (ia (lX d))),iX (i:Int) ((ke s.tape (b++s.params) p).length) aC,.c (tg (lX d) ((ke s.tape (b++s.params) p).getD i gT) p aD aD aC aC),.c (yP (x.getD i gT) (iy (lX d) ((ke s.tape (b++s.params) p).getD i gT) p) p aD aD aC aC),ai 59 ((jC (x.getD i gT) (iy (lX d) ((ke s.tape (b++s.params) p).getD i gT) p) p).all) (jG i aC),.o 62 (.e (lq _):aj (.sl true 1 7 λi_ j_=>(iE (jC (x.getD i gT) (iy (lX d) ((ke s.tape (b++s.params) p).getD i gT) p) p)).getD (i_*7+j_) (.v (.bool false))) (gY [jC (x.getD i gT) (iy (lX d) ((ke s.tape (b++s.params) p).getD i gT) p) p])),.a (aC:(i+[jC (x.getD i gT) (iy (lX d) ((ke s.tape (b++s.params) p).getD i gT) p) p].length)*88<=140737488355328),ij ((i:Int)+1) aC]<|.e (af [.b 14 (Cc rfl rfl rfl:Bx.le (.row true 44 (i+[jC (x.getD i gT) (iy (lX d) ((ke s.tape (b++s.params) p).getD i gT) p) p].length) 7 (λi_ j_=>if i_<i then(iF ((List.range i).map (λj_=>(jC (x.getD j_ gT) (iy (lX d) ((ke s.tape (b++s.params) p).getD j_ gT) p) p)))) i_ j_ else(E.kE (gY [jC (x.getD i gT) (iy (lX d) ((ke s.tape (b++s.params) p).getD i gT) p) p])) (i_-i) j_)) (.row true 44 (i+1) 7 (iF ((List.range (i+1)).map (λj_=>(jC (x.getD j_ gT) (iy (lX d) ((ke s.tape (b++s.params) p).getD j_ gT) p) p))))))])) aF)
  (λhi=>by
    have w1:=(hx.ok N aC).1;have w2:=fv N;have w3:=nY (lX d) ((ke s.tape (b++s.params) p).getD N gT) (aC:1<=p) (aC:p<=4096);exact iA (af [tT 43 ((N:Int)<x.length) aC,iX (N:Int) (x.length) aC,.o 49 (.e (O7 d):aj (.agg (ar++iq d++[bP false])) (ia (lX d))),iX (N:Int) ((ke s.tape (b++s.params) p).length) aC,.c (tg (lX d) ((ke s.tape (b++s.params) p).getD N gT) p aD aD aC aC),.c (yP (x.getD N gT) (iy (lX d) ((ke s.tape (b++s.params) p).getD N gT) p) p aD aD aC aC),ah 59 ((jC (x.getD N gT) (iy (lX d) ((ke s.tape (b++s.params) p).getD N gT) p) p).all) hN]) aF) aI:jB 9 Tryz.f52 (Uz s x d b p N 0) .ret ⟨66,true,[(10,.e (.v (.slice none 0 0)))],[]⟩) .nil]) 
def afv(s:jz)(x:List Iv)(d:Dy)(b:List Iv)(p:Nat)(h:lH s)(hx:kf s.iH x)(hd:d.gX)(h0:0<d.iJ)(hb:kf s.iH b)(ib:8<=p)(gW:p<=512)(hn:qp (ke s.tape (b++s.params) p)=false)(jG:∀ i,i<x.length->(jC (x.getD i gT) (iy (lX d) ((ke s.tape (b++s.params) p).getD i gT) p) p).all=false):gQ 52 [kQ s,gY x,gU d,gY b,iP p] (gY ((List.range x.length).map (λj_=>(jC (x.getD j_ gT) (iy (lX d) ((ke s.tape (b++s.params) p).getD j_ gT) p) p)))):=by
 have s4:=h.s4;have yG:=hx.len;have Ds:=h.iu;have Am:=Iq s.tape (b++s.params) p;obtain⟨f1,f2,f3,f4⟩:=Hq h hb;have fv:=Sr s.tape f4 (aC:1<=p) (aC:p<=4096);have hq:0<d.q:=(rB d).1.1 h0;have hst:=Ye hd (bG hq);exact ak call52 func52 (af [.c (Bw s x d p h hx hd h0 ib gW),.c (Hn s b hb s4),.c (SR s b p h hb ib gW hn),ai 37 ((0:Int) != 0) aE,.y 14 14 true 44 7 (iF ((List.range 0).map (λj_=>(jC (x.getD j_ gT) (iy (lX d) ((ke s.tape (b++s.params) p).getD j_ gT) p) p)))),.s (Sp.jE (UA s x d b p) 0 x.length aC (λi hi oM=>by
    have w1:=(hx.ok i aC).1;have w2:=fv i;have w3:=nY (lX d) ((ke s.tape (b++s.params) p).getD i gT) (aC:1<=p) (aC:p<=4096);have rq:=pA (jC (x.getD i gT) (iy (lX d) ((ke s.tape (b++s.params) p).getD i gT) p) p);exact iA (ae [tT 43 ((i:Int)<x.length) aC,iX (i:Int) (x.length) aC,.o 49 (.e (O7 d):aj (.agg (ar++iq d++[bP false])) (ia (lX d))),iX (i:Int) ((ke s.tape (b++s.params) p).length) aC,.c (tg (lX d) ((ke s.tape (b++s.params) p).getD i gT) p aD aD aC aC),.c (yP (x.getD i gT) (iy (lX d) ((ke s.tape (b++s.params) p).getD i gT) p) p aD aD aC aC),ai 59 ((jC (x.getD i gT) (iy (lX d) ((ke s.tape (b++s.params) p).getD i gT) p) p).all) (jG i aC),.o 62 (.e (lq _):aj (.sl true 1 7 λi_ j_=>(iE (jC (x.getD i gT) (iy (lX d) ((ke s.tape (b++s.params) p).getD i gT) p) p)).getD (i_*7+j_) (.v (.bool false))) (gY [jC (x.getD i gT) (iy (lX d) ((ke s.tape (b++s.params) p).getD i gT) p) p])),.a (aC:(i+[jC (x.getD i gT) (iy (lX d) ((ke s.tape (b++s.params) p).getD i gT) p) p].length)*88<=140737488355328),ij ((i:Int)+1) aC]<|.e (af [.b 14 (Cc rfl rfl rfl:Bx.le (.row true 44 (i+[jC (x.getD i gT) (iy (lX d) ((ke s.tape (b++s.params) p).getD i gT) p) p].length) 7 (λi_ j_=>if i_<i then(iF ((List.range i).map (λj_=>(jC (x.getD j_ gT) (iy (lX d) ((ke s.tape (b++s.params) p).getD j_ gT) p) p)))) i_ j_ else(E.kE (gY [jC (x.getD i gT) (iy (lX d) ((ke s.tape (b++s.params) p).getD i gT) p) p])) (i_-i) j_)) (.row true 44 (i+1) 7 (iF ((List.range (i+1)).map (λj_=>(jC (x.getD j_ gT) (iy (lX d) ((ke s.tape (b++s.params) p).getD j_ gT) p) p))))))])) aF)
  (λhi=>by
    exact iA (ae [tF 43 ((x.length:Int)<x.length) aC,.z 14]<|.e (af [.o 14 (.e (DB aH):aj (.sl true x.length 7 (iF ((List.range x.length).map (λj_=>(jC (x.getD j_ gT) (iy (lX d) ((ke s.tape (b++s.params) p).getD j_ gT) p) p))))) (gY ((List.range x.length).map (λj_=>(jC (x.getD j_ gT) (iy (lX d) ((ke s.tape (b++s.params) p).getD j_ gT) p) p)))))])) aF) aI:jB 9 Tryz.f52 (UA s x d b p 0) (.exit 0) ⟨66,true,[(14,.e (gY ((List.range x.length).map (λj_=>(jC (x.getD j_ gT) (iy (lX d) ((ke s.tape (b++s.params) p).getD j_ gT) p) p)))))],[]⟩) .nil]) 
def Jg(s:jz)(x:List Iv)(d:Dy)(b:List Iv)(p:Nat)(h:lH s)(hx:kf s.iH x)(hd:d.gX)(h0:0<d.iJ)(hb:kf s.iH b)(ib:8<=p)(gW:p<=512):gQ 52 [kQ s,gY x,gU d,gY b,iP p] (gY (kS s x d b p)):=by
 unfold kS;cases hn:qp (ke s.tape (b++s.params) p)with
 |true=>rw[aZ rfl];exact(aft s x d b p h hx hd h0 hb ib gW hn).jP (.nil _ _ _)
 |false=>
  rw[aY aE];cases ha:qp (yN x (ke s.tape (b++s.params) p) d p)with
  |true=>
   rw[aZ rfl];unfold qp at ha;rw[dJ,Ji]at ha;obtain⟨i,hi,lL⟩:=ha;obtain⟨N,h1,h2,h3⟩:=sG (p:=λi=>((yN x (ke s.tape (b++s.params) p) d p).getD i gT).all) ⟨i,bW.1 hi,lL⟩;refine(afu s x d b p h hx hd h0 hb ib gW hn N h1 (λi hi=>?_) ?_).jP (.nil _ _ _)
   .have:=h3 i hi;rw[Jh (aC:i<x.length)]at this;exact this
   .rw [Jh h1]at h2;exact h2
  |false=>
   rw[aY aE];refine afv s x d b p h hx hd h0 hb ib gW hn λi hi=>?_
   unfold qp at ha;rw[cW,Ji]at ha;have:=ha i (bW.2 hi);rw[Jh hi]at this;exact aV this
def afi(s:jz)(x:List Iv)(d:Dy)(b:List Iv)(p:Nat)(h:lH s)(hx:kf s.iH x)(hd:d.gX)(h0:0<d.iJ)(hb:kf s.iH b)(ib:8<=p)(gW:p<=512)(hi:(kS s x d b p)=[]):gQ 17 [kQ s,gY x,gU d,gY b,iP p] (bP false):=
 ak call17 func17 (af [.c (Jg s x d b p h hx hd h0 hb ib gW),ai 20 (decide (0<((kS s x d b p).length:Int))) (by rw[hi];rfl)]) 
def yb{n:Nat}{b:List Iv}(h:kf n b)(h1:1<=n)(h4:n<=4):1<=b.length/\b.length<=4/\pU b:=⟨by rw[h.len];exact h1,by rw[h.len];exact h4,h.ok⟩
def afj(s:jz)(x:List Iv)(d:Dy)(b:List Iv)(p:Nat)(h:lH s)(hx:kf s.iH x)(hd:d.gX)(h0:0<d.iJ)(hb:kf s.iH b)(ib:8<=p)(gW:p<=512)(hi:(kS s x d b p)≠[]):gQ 17 [kQ s,gY x,gU d,gY b,iP p] (bP (uK x b&&uK (kS s x d b p) b)):=by
 have s1:=h.s1;have s4:=h.s4;obtain⟨x1,x4,xo⟩:=yb hx s1 s4;obtain⟨b1,b4,bo⟩:=yb hb s1 s4;have yG:=hx.len;have Fk:=hb.len;have De:=M7 hx (aC:1<=p) (aC:p<=4096) hi;obtain⟨i1,i4,io⟩:=yb De s1 s4;have hli:=De.len;exact ak call17 func17 (ae [.c (Jg s x d b p h hx hd h0 hb ib gW),tT 20 (0<((kS s x d b p).length:Int)) aC,.c (QD x b aC aC aC aD aD)]<|.w (uK x b=true)
  (λk1=>ae [tB 24 k1,.c (QD (kS s x d b p) b aC aC aC aD aD)]<|rQ (bP (uK (kS s x d b p) b)) (bP (uK x b&&uK (kS s x d b p) b)) (by simp[k1]))
  (λk1=>ae [tB 24 (aV k1)]<|rQ (bP false) (bP (uK x b&&uK (kS s x d b p) b)) (by simp[k1]))) 
def Dp(s:jz)(x:List Iv)(d:Dy)(b:List Iv)(p:Nat)(h:lH s)(hx:kf s.iH x)(hd:d.gX)(h0:0<d.iJ)(hb:kf s.iH b)(ib:8<=p)(gW:p<=512):gQ 17 [kQ s,gY x,gU d,gY b,iP p] (bP (rZ s x d b p)):=by
 unfold rZ;by_cases hi:(kS s x d b p)=[]
 .have:=afi s x d b p h hx hd h0 hb ib gW hi;rwa[hi,show(!([]:List Iv).isEmpty&&(uK x b&&uK [] b))=false from rfl]
 .have:=afj s x d b p h hx hd h0 hb ib gW hi;have e:((kS s x d b p)).isEmpty=false:=by
   cases q:(kS s x d b p)with
   |nil=>exact absurd q hi
   |cons _ _=>rfl
  rwa[e,dW,e9]
def akY(k:Int)(h1:-100<=k)(h2:k<=100):gQ 57 [gU ⟨false,1,0⟩,iP k] (.ie [gU (jy k),iP 0]):=by
 have:=CU ⟨false,1,0⟩ k DO aC aC;have e:canon false 1 (0+k)=jy k:=by rw[Int.zero_add];exact QO k
 have e2:jm (canon false 1 (0+k))=jy k:=by rw[e];exact zT (Ph h1 h2)
 have e3:kg (canon false 1 (0+k))=0:=by rw[e];exact Ez (Ph h1 h2)
 change gQ 57 [gU ⟨false,1,0⟩,iP k] (.ie [gU (jm (canon false 1 (0+k))),iP (kg (canon false 1 (0+k)))])at this;rwa[e2,e3]at this
def aeE(x:List Iv)(d:Dy):(Ad x d==0)=rm x d:=by
 unfold Ad;cases rm x d<;>rfl
def S2(x:List Iv)(k:Int)(x1:1<=x.length)(x8:x.length<=8)(hx:pU x)(k1:-100<=k)(k2:k<=100):gQ 42 [gY x,iP k] (.ie [gY (rI x (jy k)),bP (rm x (jy k))]):=by
 have v:=GI k1 k2;have sg:=Pj k;exact ak call42 func42 (ae [ag [iP 1] (qL _ aC),ag [gU (iR 1),iP k] (akY _ aC aC),ai 16 ((0:Int) != 0) aE,ag [gY x,gU (jy k)] (QC _ _ aC aC aD aD aD)]<|rR (.ie [gY (rI x (jy k)),bP (rm x (jy k))]) (.ie (.cons (.refl _) (.cons (.iL (by rw[aeE])) .nil)):E.le (.ie [gY (rI x (jy k)),bP ((Ad x (jy k))==0)]) (.ie [gY (rI x (jy k)),bP (rm x (jy k))]))) 
def Zy(s:jz)(x:List Iv)(d:Dy)(p:Nat)(h:lH s)(hx:kf s.iH x)(hd:d.gX)(h0:0<d.iJ)(ib:8<=p)(gW:p<=512)(k:Int)(k1:-100<=k)(k2:k<=100)(hg:(rm x (jy k))=false):gQ 41 [iP k,(.iM 1 λj_=>[gY x].getD j_ .any),(.iM 5 λj_=>[iP s.tape.ic,kD s.tape.gS,kC s.tape.iu,iP s.iH,gY s.params].getD j_ .any),(.iM 3 λj_=>[bP d.neg,gV (gR d.m),iP d.e].getD j_ .any),(.iM 1 λj_=>[iP p].getD j_ .any)] (.ie [gY (rI x (jy k)),bP false]):=by
 have s1:=h.s1;have s4:=h.s4;obtain⟨x1,x4,xo⟩:=yb hx s1 s4;exact ak call41 func41 (af [.c (S2 x k aC aC xo aC aC),ai 15 (rm x (jy k)) hg]) 
def Zz(s:jz)(x:List Iv)(d:Dy)(p:Nat)(h:lH s)(hx:kf s.iH x)(hd:d.gX)(h0:0<d.iJ)(ib:8<=p)(gW:p<=512)(k:Int)(k1:-100<=k)(k2:k<=100)(hg:(rm x (jy k))=true):gQ 41 [iP k,(.iM 1 λj_=>[gY x].getD j_ .any),(.iM 5 λj_=>[iP s.tape.ic,kD s.tape.gS,kC s.tape.iu,iP s.iH,gY s.params].getD j_ .any),(.iM 3 λj_=>[bP d.neg,gV (gR d.m),iP d.e].getD j_ .any),(.iM 1 λj_=>[iP p].getD j_ .any)] (.ie [gY (rI x (jy k)),bP (rZ s x d (rI x (jy k)) p)]):=by
 have s1:=h.s1;have s4:=h.s4;obtain⟨x1,x4,xo⟩:=yb hx s1 s4;have hb:=LX hx (GI k1 k2) (X2 (Pj k)) hg;exact ak call41 func41 (af [.c (S2 x k aC aC xo aC aC),ah 15 (rm x (jy k)) hg,.c (Dp s x d (rI x (jy k)) p h hx hd h0 hb ib gW)]) 
def En(s:jz)(x:List Iv)(d:Dy)(p:Nat)(h:lH s)(hx:kf s.iH x)(hd:d.gX)(h0:0<d.iJ)(ib:8<=p)(gW:p<=512)(k:Int)(k1:-100<=k)(k2:k<=100):gQ 41 [iP k,(.iM 1 λj_=>[gY x].getD j_ .any),(.iM 5 λj_=>[iP s.tape.ic,kD s.tape.gS,kC s.tape.iu,iP s.iH,gY s.params].getD j_ .any),(.iM 3 λj_=>[bP d.neg,gV (gR d.m),iP d.e].getD j_ .any),(.iM 1 λj_=>[iP p].getD j_ .any)] (.ie [gY (rI x (jy k)),bP (rF s x d p k)]):=by
 unfold rF;cases hg:rm x (jy k)with
 |false=>exact Zy s x d p h hx hd h0 ib gW k k1 k2 hg
 |true=>exact Zz s x d p h hx hd h0 ib gW k k1 k2 hg
def ajv(d:Dy)(hd:d.gX):gQ 57 [gU d,iP (-3)] (.ie [gU (zh d),iP (OW d)]):=CU d (-3) hd aE aE 
def S1{x:List Iv}{d:Dy}:Ad x d=0↔rm x d=true:=by
 unfold Ad;cases rm x d<;>simp
def als(s:jz)(x:List Iv)(d:Dy)(b:List Iv)(p:Nat)(h:lH s)(hx:kf s.iH x)(hd:d.gX)(h0:0<d.iJ)(hb:kf s.iH b)(ib:8<=p)(gW:p<=512)(hi:(kS s x d b p)=[]):gQ 43 [kQ s,gY x,gU d,gY b,iP p] (.v (.slice none 0 0)):=
 ak call43 func43 (af [.c (Jg s x d b p h hx hd h0 hb ib gW),ah 26 (((kS s x d b p).length:Int)==0) (by rw[hi];rfl)]) 
def FM{l:List Iv}(h:l≠[]):((l.length:Int)==0)=false:=ns λq=>h (amA.1 q)
def alu(s:jz)(x:List Iv)(d:Dy)(b:List Iv)(p:Nat)(h:lH s)(hx:kf s.iH x)(hd:d.gX)(h0:0<d.iJ)(hb:kf s.iH b)(ib:8<=p)(gW:p<=512)(hi:(kS s x d b p)≠[]):gQ 43 [kQ s,gY x,gU d,gY b,iP p] (gY (k0 s x d b p)):=by
 have s1:=h.s1;have s4:=h.s4;obtain⟨x1,x4,xo⟩:=yb hx s1 s4;obtain⟨b1,b4,bo⟩:=yb hb s1 s4;have yG:=hx.len;have Fk:=hb.len;have De:=M7 hx (aC:1<=p) (aC:p<=4096) hi;obtain⟨i1,i4,io⟩:=yb De s1 s4;have hli:=De.len;have hho:=Uf hx De;obtain⟨u1,u4,uo⟩:=yb hho s1 s4;have wv:=alr (mT x (kS s x d b p)) (aC:1<=p) (aC:p<=4096);have sv:=Xs (rT (mT x (kS s x d b p)) p);have sn:=aij (Xr (YS (mT x (kS s x d b p)) p));exact ak call43 func43 (ae [.c (Jg s x d b p h hx hd h0 hb ib gW),ai 26 (((kS s x d b p).length:Int)==0) (FM hi),.c (aax x (kS s x d b p) aC aC aC aD aD),ag [gY (mT x (kS s x d b p)),iP p] (aaC _ _ aC aC aD aC aC)]<|.w (GO (mT x (kS s x d b p)) p=true)
  (λk1=>ae [tB 35 k1,ag [gU (rT (mT x (kS s x d b p)) p)] (mJ _ aD)]<|.w ((Dy.iJ (rT (mT x (kS s x d b p)) p))=0)
   (λk2=>ae [tB 41 (aU k2)]<|rQ (gY (mT x (kS s x d b p))) (gY (k0 s x d b p)) (by unfold k0;rw[aY hi];simp[k1,k2]))
   (λk2=>ae [tB 41 (aT k2),ag [gU (rT (mT x (kS s x d b p)) p),iP (-3)] (ajv _ aD)]<|.w ((OW (rT (mT x (kS s x d b p)) p))=0)
    (λk3=>ae [tB 50 (aW k3),ag [gY (mT x (kS s x d b p)),gU (zh (rT (mT x (kS s x d b p)) p))] (QC _ _ aC aC aD aD aD)]<|.w ((Ad (mT x (kS s x d b p)) (zh (rT (mT x (kS s x d b p)) p)))=0)
     (λk4=>ae [tB 59 (aU k4)]<|rQ (gY (rI (mT x (kS s x d b p)) (zh (rT (mT x (kS s x d b p)) p)))) (gY (k0 s x d b p)) (by unfold k0;rw[aY hi];simp[k1,k2,k3,S1.1 k4]))
     (λk4=>ae [tB 59 (aT k4)]<|rQ (gY (mT x (kS s x d b p))) (gY (k0 s x d b p)) (by unfold k0;rw[aY hi];simp[k1,k2,k3,show ¬rm _ _=true from λq=>k4 (S1.2 q)])))
    (λk3=>ae [tB 50 (aX k3)]<|rQ (gY (mT x (kS s x d b p))) (gY (k0 s x d b p)) (by unfold k0;rw[aY hi];simp[k1,k2,k3]))))
  (λk1=>ae [tB 35 (aV k1)]<|rQ (gY (mT x (kS s x d b p))) (gY (k0 s x d b p)) (by unfold k0;rw[aY hi];simp[k1]))) 
def GP(s:jz)(x:List Iv)(d:Dy)(b:List Iv)(p:Nat)(h:lH s)(hx:kf s.iH x)(hd:d.gX)(h0:0<d.iJ)(hb:kf s.iH b)(ib:8<=p)(gW:p<=512):gQ 43 [kQ s,gY x,gU d,gY b,iP p] (gY (k0 s x d b p)):=by
 by_cases hi:(kS s x d b p)=[]
 .have:=als s x d b p h hx hd h0 hb ib gW hi;unfold k0;rw[aZ hi];exact this.jP (.nil _ _ _)
 .exact alu s x d b p h hx hd h0 hb ib gW hi
def ac0(s:jz)(x:List Iv)(d:Dy)(p:Nat)(h:lH s)(hx:kf s.iH x)(hd:d.gX)(h0:0<d.iJ)(ib:8<=p)(gW:p<=512)(N:Nat)(pN:N<24)(jG:∀ k:Nat,k<N->rF s x d p ((k:Int)-20)=false)(hN:rF s x d p ((N:Int)-20)=true):gQ 13 [kQ s,gY x,gU d,iP p] (.ie [gY (rI x (jy ((N:Int)-20))),iP 0]):=
 ak call13 func13 (af [.c (Bw s x d p h hx hd h0 ib gW),.s (Sp.jE (RW s x d p N) 0 N aC (λk hk I0=>by
    exact iA (af [tT 23 ((k:Int)<24) aC,ij ((k:Int)-20) aC,ag [iP ((k:Int)-20),(.iM 1 λj_=>[gY x].getD j_ .any),(.iM 5 λj_=>[iP s.tape.ic,kD s.tape.gS,kC s.tape.iu,iP s.iH,gY s.params].getD j_ .any),(.iM 3 λj_=>[bP d.neg,gV (gR d.m),iP d.e].getD j_ .any),(.iM 1 λj_=>[iP p].getD j_ .any)] (En _ _ _ _ h hx hd h0 ib gW _ aC aC),ai 31 (rF s x d p ((k:Int)-20)) (jG k aC),ij ((k:Int)+1) aC]) aF)
  (λhk=>by
    exact iA (af [tT 23 ((N:Int)<24) aC,ij ((N:Int)-20) aC,ag [iP ((N:Int)-20),(.iM 1 λj_=>[gY x].getD j_ .any),(.iM 5 λj_=>[iP s.tape.ic,kD s.tape.gS,kC s.tape.iu,iP s.iH,gY s.params].getD j_ .any),(.iM 3 λj_=>[bP d.neg,gV (gR d.m),iP d.e].getD j_ .any),(.iM 1 λj_=>[iP p].getD j_ .any)] (En _ _ _ _ h hx hd h0 ib gW _ aC aC),ah 31 (rF s x d p ((N:Int)-20)) hN]) aF) aI:jB 5 Tryz.f13 (RW s x d p N 0) .ret ⟨55,true,[(9,.e (iP 0)),(8,.e (gY (rI x (jy ((N:Int)-20)))))],[]⟩) .nil]) 
def ac2(s:jz)(x:List Iv)(d:Dy)(p:Nat)(h:lH s)(hx:kf s.iH x)(hd:d.gX)(h0:0<d.iJ)(ib:8<=p)(gW:p<=512)(jG:∀ k:Nat,k<24->rF s x d p ((k:Int)-20)=false)(N:Nat)(pN:N<10)(tJ:∀ j,j<=N->kf s.iH (kW s x d p j))(hw:∀ j,j<N->k0 s x d (kW s x d p j) p≠[]/\rZ s x d (k0 s x d (kW s x d p j) p) p=false)(hN:k0 s x d (kW s x d p N) p=[]):gQ 13 [kQ s,gY x,gU d,iP p] (.ie [.v (.slice none 0 0),iP 12]):=
 ak call13 func13 (af [.c (Bw s x d p h hx hd h0 ib gW),.s (Sp.jE (RX s x d p) 0 24 aC (λk hk I0=>by
    exact iA (af [tT 23 ((k:Int)<24) aC,ij ((k:Int)-20) aC,ag [iP ((k:Int)-20),(.iM 1 λj_=>[gY x].getD j_ .any),(.iM 5 λj_=>[iP s.tape.ic,kD s.tape.gS,kC s.tape.iu,iP s.iH,gY s.params].getD j_ .any),(.iM 3 λj_=>[bP d.neg,gV (gR d.m),iP d.e].getD j_ .any),(.iM 1 λj_=>[iP p].getD j_ .any)] (En _ _ _ _ h hx hd h0 ib gW _ aC aC),ai 31 (rF s x d p ((k:Int)-20)) (jG k aC),ij ((k:Int)+1) aC]) aF)
  (λhk=>by
    exact iA (af [ai 23 (decide ((24:Int)<24)) aE]) aF) aI:jB 5 Tryz.f13 (RX s x d p 0) (.exit 0) ⟨55,true,[(7,.box 7 0),(6,.box 6 0),(5,.box 5 0),(4,.box 4 0)],[(7,.cells 3 [iP p]),(6,.cells 31 (iq d)),(5,.cells 26 [gY x]),(4,.cells 28 [iP s.tape.ic,kD s.tape.gS,kC s.tape.iu,iP s.iH,gY s.params])]⟩) .nil,.s (Sp.jE (R0 s x d p N) 0 N aC (λj hj TW=>by
    have yy:=tJ j aC;obtain⟨jf,Fo⟩:=hw j aC;have lL:=CI hx (aC:1<=p) (aC:p<=4096) jf;exact iA (ae [tT 37 ((j:Int)<10) aC,.c (GP s x d (kW s x d p j) p h hx hd h0 yy ib gW),ai 46 (((k0 s x d (kW s x d p j) p).length:Int)==0) (FM jf),.c (Dp s x d (k0 s x d (kW s x d p j) p) p h hx hd h0 lL ib gW),ai 52 (rZ s x d (k0 s x d (kW s x d p j) p) p) Fo,ij ((j:Int)+1) aC]<|.e (af [.o 14 (.e (.iL rfl):aj (gY (k0 s x d (kW s x d p j) p)) (gY (kW s x d p (j+1))))])) aF)
  (λhj=>by
    have yy:=tJ N (bc _);exact iA (af [tT 37 ((N:Int)<10) aC,.c (GP s x d (kW s x d p N) p h hx hd h0 yy ib gW),ah 46 (((k0 s x d (kW s x d p N) p).length:Int)==0) (by rw[hN];rfl)]) aF) aI:jB 13 Tryz.f13 (R0 s x d p N 0) (.exit 2) ⟨55,true,[],[]⟩) (af [.o 14 (.e (.iL rfl):aj (gY x) (gY (kW s x d p 0)))])]) 
def acZ(s:jz)(x:List Iv)(d:Dy)(p:Nat)(h:lH s)(hx:kf s.iH x)(hd:d.gX)(h0:0<d.iJ)(ib:8<=p)(gW:p<=512)(jG:∀ k:Nat,k<24->rF s x d p ((k:Int)-20)=false)(tJ:∀ j,j<=10->kf s.iH (kW s x d p j))(hw:∀ j,j<10->k0 s x d (kW s x d p j) p≠[]/\rZ s x d (k0 s x d (kW s x d p j) p) p=false):gQ 13 [kQ s,gY x,gU d,iP p] (.ie [.v (.slice none 0 0),iP 12]):=
 ak call13 func13 (af [.c (Bw s x d p h hx hd h0 ib gW),.s (Sp.jE (RY s x d p) 0 24 aC (λk hk I0=>by
    exact iA (af [tT 23 ((k:Int)<24) aC,ij ((k:Int)-20) aC,ag [iP ((k:Int)-20),(.iM 1 λj_=>[gY x].getD j_ .any),(.iM 5 λj_=>[iP s.tape.ic,kD s.tape.gS,kC s.tape.iu,iP s.iH,gY s.params].getD j_ .any),(.iM 3 λj_=>[bP d.neg,gV (gR d.m),iP d.e].getD j_ .any),(.iM 1 λj_=>[iP p].getD j_ .any)] (En _ _ _ _ h hx hd h0 ib gW _ aC aC),ai 31 (rF s x d p ((k:Int)-20)) (jG k aC),ij ((k:Int)+1) aC]) aF)
  (λhk=>by
    exact iA (af [ai 23 (decide ((24:Int)<24)) aE]) aF) aI:jB 5 Tryz.f13 (RY s x d p 0) (.exit 0) ⟨55,true,[(7,.box 7 0),(6,.box 6 0),(5,.box 5 0),(4,.box 4 0)],[(7,.cells 3 [iP p]),(6,.cells 31 (iq d)),(5,.cells 26 [gY x]),(4,.cells 28 [iP s.tape.ic,kD s.tape.gS,kC s.tape.iu,iP s.iH,gY s.params])]⟩) .nil,.s (Sp.jE (R1 s x d p) 0 10 aC (λj hj TW=>by
    have yy:=tJ j aC;obtain⟨jf,Fo⟩:=hw j aC;have lL:=CI hx (aC:1<=p) (aC:p<=4096) jf;exact iA (ae [tT 37 ((j:Int)<10) aC,.c (GP s x d (kW s x d p j) p h hx hd h0 yy ib gW),ai 46 (((k0 s x d (kW s x d p j) p).length:Int)==0) (FM jf),.c (Dp s x d (k0 s x d (kW s x d p j) p) p h hx hd h0 lL ib gW),ai 52 (rZ s x d (k0 s x d (kW s x d p j) p) p) Fo,ij ((j:Int)+1) aC]<|.e (af [.o 14 (.e (.iL rfl):aj (gY (k0 s x d (kW s x d p j) p)) (gY (kW s x d p (j+1))))])) aF)
  (λhj=>by
    exact iA (af [ai 37 (decide ((10:Int)<10)) aE]) aF) aI:jB 13 Tryz.f13 (R1 s x d p 0) (.exit 2) ⟨55,true,[],[]⟩) (af [.o 14 (.e (.iL rfl):aj (gY x) (gY (kW s x d p 0)))])]) 
def J7:Iv:=⟨il,il,false⟩
def ajp:J7.gX:=.inr ⟨rfl,rf,rf,aL⟩
abbrev jQ(n:Nat):Iv:=mg (iR (n:Int))
def lN(p:Nat)(T:Nat->Iv)(a:Nat):Nat->Iv
 | 0=>T a
 |n+1=>jC (lN p T a n) (T (a+n+1)) p
def oR(p:Nat)(s:Iv)(T:Nat->Iv)(a:Nat):Nat->Iv
 | 0=>s
 |n+1=>rD (oR p s T a n) (T (a+n)) p
def nB(x:Iv)(k:Nat):List Iv:=x::List.replicate k J7
structure kr(n:Nat)(a:List Iv):Prop where
 len:a.length=n
 ok:lQ a
def kI(f:Nat->Iv)(n:Nat):List Iv:=(List.range n).map f
def CO(a b:List Iv)(p:Nat):List Iv:=kI (λi=>jC (a.getD i gT) (b.getD i gT) p) a.length
def D5(a b:List Iv)(p:Nat):List Iv:=kI (λi=>rD (a.getD i gT) (b.getD i gT) p) a.length
def DK(a:List Iv):List Iv:=kI (λi=>pz (a.getD i gT)) a.length
def sI(a b:List Iv)(p:Nat):List Iv:=kI (λk=>lN p (λi=>iy (a.getD i gT) (b.getD (k-i) gT) p) 0 k) a.length
def iT(f:Nat->List Iv->Iv):Nat->List Iv
 | 0=>[]
 |k+1=>iT f k++[f k (iT f k)]
def qM(a b:List Iv)(p k:Nat)(out:List Iv):Iv:=jh (oR p (a.getD k gT) (λi=>iy (out.getD i gT) (b.getD (k-i) gT) p) 0 k) (b.getD 0 gT) p
def zW(a b:List Iv)(p:Nat):List Iv:=iT (qM a b p) a.length
def oN(a:List Iv)(p:Nat):Nat->List Iv
 | 0=>a
 |k+1=>sI (oN a p k) a p
def DU(a:List Iv)(n p:Nat):List Iv:=if n=0 then kI (λi=>iy (jQ 0) (a.getD i gT) p) a.length else oN a p (n-1)
def sL(a:List Iv)(n p:Nat):List Iv:=(DU a n p).set 0 (my (a.getD 0 gT) n p)
noncomputable def pL(a:List Iv)(p k:Nat)(out:List Iv):Iv:=
 if k=0 then um (a.getD 0 gT) p else jh (lN p (λi=>iy (iy (jQ i) (a.getD i gT) p) (out.getD (k-i) gT) p) 1 (k-1)) (jQ k) p
noncomputable def Aa(a:List Iv)(p:Nat):List Iv:=iT (pL a p) a.length
def qX(a out:List Iv)(p k:Nat):Nat->Iv
 | 0=>jQ 0
 |n+1=>jC (qX a out p k n) (iy (iy (jQ (n+1)) (out.getD (n+1) gT) p) (a.getD (k-(n+1)) gT) p) p
noncomputable def mA(a:List Iv)(p k:Nat)(out:List Iv):Iv:=
 if k=0 then uq (a.getD 0 gT) p else jh (rD (a.getD k gT) (jh (qX a out p k (k-1)) (jQ k) p) p) (a.getD 0 gT) p
noncomputable def DF(a:List Iv)(p:Nat):List Iv:=iT (mA a p) a.length
def qA(a:List Iv)(p k:Nat)(f:List Iv):Iv:=jh (lN p (λi=>iy (iy (jQ i) (a.getD i gT) p) (f.getD (k-i) gT) p) 1 (k-1)) (jQ k) p
noncomputable def lk(a:List Iv)(p:Nat):Nat->List Iv×List Iv
 | 0=>([ur (a.getD 0 gT) p],[uk (a.getD 0 gT) p])
 |k+1=>((lk a p k).1++[qA a p (k+1) (lk a p k).2],(lk a p k).2++[pz (qA a p (k+1) (lk a p k).1)])
noncomputable def nL(a:List Iv)(p k:Nat)(out:List Iv):Iv:=
 if k=0 then oX (a.getD 0 gT) p else jh (oR p (a.getD k gT) (λi=>iy (out.getD i gT) (out.getD (k-i) gT) p) 1 (k-1)) (lF (oX (a.getD 0 gT) p) 1) p
noncomputable def A5(a:List Iv)(p:Nat):List Iv:=iT (nL a p) a.length
noncomputable def mX(o:mF)(a b:List Iv)(p:Nat):List Iv:=
 if o.kind=3 then CO a b p else if o.kind=4 then D5 a b p else if o.kind=5 then sI a b p else if o.kind=6 then zW a b p
 else if o.kind=7 then DK a else if o.kind=8 then sL a o.n p else if o.kind=9 then Aa a p else if o.kind=10 then DF a p
 else if o.kind=11 then(lk a p (a.length-1)).1 else if o.kind=12 then(lk a p (a.length-1)).2 else if o.kind=13 then A5 a p else[]
noncomputable def qy(o:mF)(l:List (List Iv))(k p:Nat):List Iv:=if o.kind=1 then nB (qE o.cn o.cd p) k else mX o (l.getD o.a []) (l.getD (if xk o then o.b else o.a) []) p
noncomputable def iK(gS:List mF)(ic:List (List Iv))(k p:Nat):Nat->List (List Iv)
 | 0=>ic
 |i+1=>iK gS ic k p i++[qy (gS.getD i iw) (iK gS ic k p i) k p]
noncomputable def qN(t:pn)(ic:List (List Iv))(k p:Nat):List (List Iv):=t.iu.map λj=>(iK t.gS ic k p t.gS.length).getD j []
def qe(s:jz)(x:List (List Iv))(k:Nat):List (List Iv):=x.map (λc=>c.take (k+1))++s.params.map λa=>nB a k
noncomputable def Cm(s:jz)(x:List (List Iv))(p n i:Nat):Iv:=jh (((qN s.tape (qe s x n) n p).getD i []).getD n gT) (jQ (n+1)) p
noncomputable def jc(s:jz)(x:List Iv)(p:Nat):Nat->List (List Iv)
 | 0=>x.map λy=>[y]
 |n+1=>(List.range x.length).map λi=>(jc s x p n).getD i []++[Cm s (jc s x p n) p n i]
def lQ.nil:lQ []:=λ_=>lG
def getD_map{α:Type}{n i:Nat}{f:Nat->α}{d:α}(h:i<n):((List.range n).map f).getD i d=f i:=by simp[bd,h]
def Ix{f:Nat->Iv}{n i:Nat}(h:i<n):(kI f n).getD i gT=f i:=getD_map h
def yp(f:Nat->Iv)(n:Nat):(kI f n).length=n:=by simp[kI]
def E4{f:Nat->Iv}{n:Nat}(h:∀ i,i<n->(f i).gX):kr n (kI f n):=⟨yp _ _,λi=>by
 by_cases hi:i<n
 .rw [Ix hi];exact h i hi
 .rw [bd,b7 (by rw[yp];omega)];exact lG⟩
def xP(f:Nat->List Iv->Iv):∀ n,(iT f n).length=n
 | 0=>rfl
 |n+1=>by simp[iT,xP f n]
def AR{f:Nat->List Iv->Iv}(n:Nat)(h:∀ k l,k<n->kr k l->(f k l).gX):kr n (iT f n):=by
 induction n with
 |zero=>exact⟨rfl,lQ.nil⟩
 |succ n ih=>
  have:=ih λk l hk=>h k l aC 
  exact⟨xP _ _,this.ok.push (h n _ aC this)⟩
def alP(k:Nat):lQ (List.replicate k J7):=λi=>by
 rw[bd,eE];split
 .exact ajp
 .exact lG
def Rj{x:Iv}(hx:x.gX)(k:Nat):kr (k+1) (nB x k):=⟨by simp[nB],(lQ.push lQ.nil hx).append (alP k)⟩
def xQ(n:Nat)(h:n<4294967296):(jQ n).gX:=uV (DA n h)
section
variable {p:Nat} (hp:1<=p) (gW:p<=4096)
include hp gW
def O8{x y:Iv}(hx:x.gX)(hy:y.gX):(rD x y p).gX:=qJ hx (Cl hy) hp gW
def GC{T:Nat->Iv}{a:Nat}:∀ n,(∀ i,a<=i->i<=a+n->(T i).gX)->(lN p T a n).gX
 | 0,h=>h a (bc _) (bc _)
 |n+1,h=>qJ (GC n λi h1 h2=>h i h1 aC) (h _ aC aC) hp gW
def Jr{s:Iv}(hs:s.gX){T:Nat->Iv}{a:Nat}:∀ n,(∀ i,a<=i->i<a+n->(T i).gX)->(oR p s T a n).gX
 | 0,_=>hs
 |n+1,h=>O8 hp gW (Jr hs n λi h1 h2=>h i h1 aC) (h _ aC aC)
def Zm{n:Nat}{a b:List Iv}(ha:kr n a)(hb:kr n b):kr n (CO a b p):=ha.len▸E4 λi _=>qJ (ha.ok i) (hb.ok i) hp gW
def akb{n:Nat}{a b:List Iv}(ha:kr n a)(hb:kr n b):kr n (D5 a b p):=ha.len▸E4 λi _=>O8 hp gW (ha.ok i) (hb.ok i)
end
def aht{n:Nat}{a:List Iv}(ha:kr n a):kr n (DK a):=ha.len▸E4 λi _=>Cl (ha.ok i)
section
variable {p:Nat} (hp:1<=p) (gW:p<=4096)
include hp gW
def VQ{n:Nat}{a:List Iv}(ha:kr n a)(b:List Iv):kr n (sI a b p):=ha.len▸E4 λi _=>GC hp gW _ λ_ _ _=>nY _ _ hp gW
def acy{n:Nat}{a:List Iv}(ha:kr n a)(b:List Iv):kr n (zW a b p):=ha.len▸AR _ λ_ _ _ _=>pX _ _ hp gW
def NF{n:Nat}{a:List Iv}(ha:kr n a):∀ k,kr n (oN a p k)
 | 0=>ha
 |k+1=>VQ hp gW (NF ha k) a
def aid{n:Nat}{a:List Iv}(ha:kr n a)(k:Nat):kr n (DU a k p):=by
 unfold DU;split
 .exact ha.len▸E4 λi _=>nY _ _ hp gW
 .exact NF hp gW ha _
end
def kr.set{n:Nat}{a:List Iv}(ha:kr n a)(i:Nat){x:Iv}(hx:x.gX):kr n (a.set i x):=⟨by simp[ha.len],λj=>by
 rw[bd,List.getElem?_set];split
 .split
  .exact hx
  .exact lG
 .have:=ha.ok j;rwa[bd]at this⟩
section
variable {p:Nat} (hp:1<=p) (gW:p<=4096)
include hp gW
def aie{n:Nat}{a:List Iv}(ha:kr n a)(k:Nat):kr n (sL a k p):=(aid hp gW ha k).set 0 (WL (ha.ok 0) k hp gW)
def adm{n:Nat}{a:List Iv}(ha:kr n a):kr n (Aa a p):=ha.len▸AR _ λk l _ _=>by
 unfold pL;split
 .exact LG _ _
 .exact pX _ _ hp gW
def agK{n:Nat}{a:List Iv}(ha:kr n a):kr n (DF a p):=ha.len▸AR _ λk l _ _=>by
 unfold mA;split
 .exact LH _ _
 .exact pX _ _ hp gW
def aka{n:Nat}{a:List Iv}(ha:kr n a):kr n (A5 a p):=ha.len▸AR _ λk l _ _=>by
 unfold nL;split
 .exact EW _ _
 .exact pX _ _ hp gW
def Og(a f:List Iv)(k:Nat):(qA a p k f).gX:=pX _ _ hp gW
def Gu(a:List Iv):∀ k,kr (k+1) (lk a p k).1/\kr (k+1) (lk a p k).2
 | 0=>⟨⟨rfl,lQ.push lQ.nil (Sm _ _)⟩,⟨rfl,lQ.push lQ.nil (Sh _ _)⟩⟩
 |k+1=>by
  obtain⟨h1,h2⟩:=Gu a k;exact⟨⟨by simp[lk,h1.len],h1.ok.push (Og hp gW _ _ _)⟩,⟨by simp[lk,h2.len],h2.ok.push (Cl (Og hp gW _ _ _))⟩⟩
def Zt(o:mF){n:Nat}{a b:List Iv}(ha:kr (n+1) a)(hb:kr (n+1) b)(hk:3<=o.kind)(vE:o.kind<=13):kr (n+1) (mX o a b p):=by
 have hl:a.length-1+1=n+1:=by rw[ha.len];rfl
 unfold mX;split
 .exact Zm hp gW ha hb
 split
 .exact akb hp gW ha hb
 split
 .exact VQ hp gW ha b
 split
 .exact acy hp gW ha b
 split
 .exact aht ha
 split
 .exact aie hp gW ha _
 split
 .exact adm hp gW ha
 split
 .exact agK hp gW ha
 split
 .exact hl▸(Gu hp gW a _).1
 split
 .exact hl▸(Gu hp gW a _).2
 split
 .exact aka hp gW ha
 .omega
def vi(n:Nat)(l:List (List Iv)):Prop:=∀ i,i<l.length->kr n (l.getD i [])
end
def vi.push{n:Nat}{l:List (List Iv)}(h:vi n l){y:List Iv}(hy:kr n y):vi n (l++[y]):=λi hi=>by
 rw[bd,eA];split
 .rename_i h1;have:=h i h1;rwa[bd]at this
 .obtain rfl:i=l.length:=by simp at hi;omega
  simpa using hy
section
variable {p:Nat} (hp:1<=p) (gW:p<=4096)
include hp gW
end
def Gt{p:Nat}(gS:List mF)(ic:List (List Iv))(k:Nat):∀ i,(iK gS ic k p i).length=ic.length+i
 | 0=>rfl
 |i+1=>by simp only[iK,cA,Gt gS ic k i,cM,amo];omega
section
variable {p:Nat} (hp:1<=p) (gW:p<=4096)
include hp gW
def ahJ{o:mF}{m n:Nat}(h:nx o m){l:List (List Iv)}(hl:vi (n+1) l)(hm:l.length=m):kr (n+1) (qy o l n p):=by
 have h3:=h.k3;have ha:=h.a;have hb:=h.b;unfold qy;split
 .exact Rj (OS _ _ hp gW) n
 .rename_i hk;rw[aY hk]at ha;refine Zt hp gW o (hl _ aC) (hl _ ?_) (h3.resolve_left hk) h.wQ;unfold xk;by_cases h6:o.kind<=6
  .rw [aZ ⟨h3.resolve_left hk,h6⟩]at hb;simp only[h6,fg,bw];omega
  .simp only[h6,gE,bB,bj];omega
def J4{t:pn}(h:xW t){ic:List (List Iv)}{n:Nat}(hi:vi (n+1) ic)(hl:ic.length=t.ic):∀ i,i<=t.gS.length->vi (n+1) (iK t.gS ic n p i)
 | 0,_=>hi
 |i+1,hle=>(J4 h hi hl i aC).push (ahJ hp gW (h.op i aC) (J4 h hi hl i aC) (by rw[Gt,hl]))
def adG{t:pn}(h:xW t){ic:List (List Iv)}{n:Nat}(hi:vi (n+1) ic)(hl:ic.length=t.ic):vi (n+1) (qN t ic n p):=λi im=>by
 unfold qN at im ⊢;have MD:i<t.iu.length:=by simpa using im
 have:=h.out i MD;rw[bd,cr,bt MD];rw[bd,bt MD]at this;exact J4 hp gW h hi hl _ (bc _) _ (by rw[Gt,hl];exact this)
end
def P5(m:List (List Iv))(x:Nat):PS:=⟨29,true,[(7,.e (iP x)),(6,.e (iP m.length)),(5,.e (kK m)),(0,.e (kK m))],[]⟩
def XN(p:Nat)(z:Int)(g:FuncId)(cap:List E)(T:Nat->Iv)(A:Nat)(x:Nat):PS:=⟨28,true,[(10,.e (iP ((A+x+1:Nat):Int))),(9,.box 9 0),(8,.box 8 0),(1,.e (iP z)),(2,.e (iP p)),(3,.e (.fn g cap))],[(9,.cells 44 (iE (lN p T A x))),(8,.cells 44 au)]⟩
def Xy(p:Nat)(z:Int)(g:FuncId)(cap:List E)(s:Iv)(T:Nat->Iv)(A:Nat)(x:Nat):PS:=⟨25,true,[(11,.e (iP ((A+x:Nat):Int))),(10,.box 10 0),(5,.box 5 0),(2,.e (iP z)),(3,.e (iP p)),(4,.e (.fn g cap))],[(10,.cells 44 au),(5,.cells 44 (iE (oR p s T A x)))]⟩
def Xv(a b:List Iv)(g:FuncId)(cap:List E)(T:Nat->Iv)(x:Nat):PS:=⟨37,true,[(19,.e (iP x)),(18,.e (iP a.length)),(7,.own 16),(0,.e (gY a)),(1,.e (gY b)),(2,.e (.fn g cap))],[(16,.row true 44 x 7 (iF (kI T x)))]⟩
def XD(a b:List Iv)(p:Nat)(x:Nat):PS:=⟨31,true,[(19,.e (iP x)),(18,.e (iP a.length)),(7,.own 16),(5,.box 5 0),(4,.box 4 0),(3,.box 3 0)],[(16,.row true 44 x 7 (iF (kI (λk=>lN p (λi=>iy (a.getD i gT) (b.getD (k-i) gT) p) 0 k) x))),(5,.cells 3 [iP p]),(4,.cells 26 [gY b]),(3,.cells 26 [gY a])]⟩
def Xu(a b:List Iv)(p:Nat)(x:Nat):PS:=⟨43,true,[(20,.e (iP x)),(19,.e (iP a.length)),(7,.mP 7 1 0 0),(5,.box 5 0),(4,.box 4 0),(0,.e (gY a))],[(7,.jA true 26 44 1 7 (λ_=>x) (λ_=>iF (iT (qM a b p) x)) .none),(5,.cells 3 [iP p]),(4,.cells 26 [gY b])]⟩
def wk(m:List (List Iv))(n:Nat)(rK:1<=n)(hn:n<=17)(hl:m.length<=100)(hm:∀ i,i<m.length->(m.getD i []).length=n):gQ 191 [kK m] (bP true):=
 ak call191 func191 (af [.s (Sp.jE (P5 m) 0 m.length aC (λx hx mn=>by
    have e1:=hm x aC;have e0:=hm 0 aC;exact iA (af [tT 8 ((x:Int)<m.length) aC,iX (x:Int) (m.length) aC,tF 13 (((m.getD x []).length:Int)<1) aC,tF 17 (17<((m.getD x []).length:Int)) aC,
     iX 0 (m.length) aC,ai 26 (((m.getD x []).length:Int) != ((m.getD 0 []).length:Int)) (uS aC),ij ((x:Int)+1) aC]) aF)
  (λhx=>by
    exact iA (af [tF 8 ((m.length:Int)<m.length) aC]) aF) aI:jB 2 f191 (P5 m 0) (.exit 0) ⟨29,true,[],[]⟩) .nil]) 
def Bf{a:List Iv}{n:Nat}(ha:a.length=n)(i:Nat)(hi:i<[a].length):([a].getD i []).length=n:=by
 obtain rfl:i=0:=by simp at hi;omega
 exact ha
def Hc{a b:List Iv}{n:Nat}(ha:a.length=n)(hb:b.length=n)(i:Nat)(hi:i<[a,b].length):([a,b].getD i []).length=n:=by
 rcases i with _|_|i
 .exact ha
 .exact hb
 .simp at hi;omega
def Ci(a:List Iv):E.le (.sl true 1 1 λi j=>[gY a].getD (i*1+j) (.v (.bool false))) (kK [a]):=.sl λi j hi hj=>by
 obtain rfl:i=0:= aC ;obtain rfl:j=0:= aC ;exact⟨.iL rfl,rfl⟩
def LR{T i n:Nat}{f:Nat->Iv}{y:Iv}(hn:n=i)(hy:y=f i):
 Bx.le (.row true T (n+[y].length) 7 λa j=>if a<n then iF (kI f i) a j else(E.kE (gY [y])) (a-n) j) (.row true T (i+1) 7 (iF (kI f (i+1)))):=by
 subst hy;have e:kI f (i+1)=kI f i++[f i]:=by simp[kI,amC]
 have h:=Jo (T:=T) (n:=n) (xs:=kI f i) (y:=f i) (by rw[yp];exact hn);rw[<-e]at h;have e2:(kI f (i+1)).length=i+1:=yp _ _;rw[e2]at h;exact h
def aix{T i n:Nat}{f:Nat->List Iv->Iv}{y:Iv}(hn:n=i)(hy:y=f i (iT f i)):
 Bx.le (.row true T (n+[y].length) 7 λa j=>if a<n then iF (iT f i) a j else(E.kE (gY [y])) (a-n) j) (.row true T (i+1) 7 (iF (iT f (i+1)))):=by
 subst hy;have h:=Jo (T:=T) (n:=n) (xs:=iT f i) (y:=f i (iT f i)) (by rw[xP];exact hn);have e2:(iT f i++[f i (iT f i)]).length=i+1:=xP f (i+1);rw[e2]at h;exact h
def OM{T:Nat}{el el':Nat->Nat->E}:Bx.le (.row true T 0 7 el) (.row true T 0 7 el'):=.row rfl λi j hi=>absurd hi (bk i)
def AU{n:Nat}{xs:List Iv}(h:n=xs.length):E.le (.sl true n 7 (iF xs)) (gY xs):=by subst h;exact .refl _
def agz(L:List Nat):vf (gV L):=by
 intro bs bs' br w v h hv;cases hv with
 |sl _ _ _ _ A c f hc hm h0 hl hr cell k=>
  refine .sl _ _ _ _ A c f hc hm h0 hl hr (λi j hi hj=>?_) (λi j hi hj=>?_)
  .obtain ⟨b,o,e,hb,im,j8⟩:=cell i j hi hj;refine⟨b,o,e,λhx=>?_,im,j8⟩;rcases h b hx with q|q
   .exact hb q
   .have e:=ix.ku (k i j hi hj);rw[e]at j8;exact q _ _ j8
  .have e:=ix.ku (k i j hi hj);rw[e];exact .v _
def agA(x:Value):vf (.v x):=λbs bs' br w v _ hv=>(ix.ku hv) ▸ .v _
def Vl(x:Iv)(j:Nat)(hj:j<7):vf ((iE x).getD j .any):=by
 rcases j with _|_|_|_|_|_|_|j
 all_goals first|exact agA _|exact agz _|omega
def FN(x:Iv):vf (ia x):=by
 intro bs bs' br w v h hv;obtain⟨vs,rfl,hr⟩:=hv.CQ;refine jX.agg ⟨hr.len,λi p y hp hy=>?_⟩;have hi:i<7:=by
  rcases fB i 7 with q|q
  .exact q
  .rw [b7 (by exact q)]at hp;cases hp
 have hq:=Vl x i hi bs bs' br w y h;rw[bd,hp]at hq;exact hq (hr.kA i p y hp hy)
def Vm{n:Nat}(xs:List Iv):Eg n 7 (iF xs):=λi j _ hj=>Vl _ j hj
def J9(A n p:Nat)(z:Int)(hz:z=((A+n:Nat):Int))(g:FuncId)(cap:List E)(T:Nat->Iv)(hA:A+n<=1000)(ib:8<=p)(gW:p<=512)(hT:∀ i,A<=i->i<=A+n->(T i).gX/\gQ g (iP (i:Int)::cap) (ia (T i))):gQ 192 [iP A,iP z,iP p,.fn g cap] (ia (lN p T A n)):=by
 have v0:=(hT A aC aC).1;exact ak call192 func192 (af [.c ((hT A aC aC).2:gQ g ((iP A)::cap) _),ij ((A:Int)+1) aC,.s (Sp.jE (XN p z g cap T A) 0 n aC (λx hx mn=>by
    have v1:=GC (aC:1<=p) (aC:p<=4096) x λi h1 h2=>(hT i h1 aC).1
    have v2:=(hT (A+x+1) aC aC).1;exact iA (ae [tT 18 (((A+x+1:Nat):Int)<=z) aC,.c ((hT (A+x+1) aC aC).2:gQ g ((iP ((A+x+1:Nat):Int))::cap) _),.c (yP (lN p T A x) (T (A+x+1)) p aD aD aC aC),ij (((A+x+1:Nat):Int)+1) aC]<|.e (af [.o 10 (aq (((A+x+1)+1:Nat):Int) ((A+(x+1)+1:Nat):Int) aO),.b 9 (.iL rfl:Bx.le (.cells 44 (iE (jC (lN p T A x) (T (A+x+1)) p))) (.cells 44 (iE (lN p T A (x+1)))))])) aF)
  (λhx=>by
    exact iA (af [tF 18 (((A+n+1:Nat):Int)<=z) aC]) aF) aI:jB 3 f192 (XN p z g cap T A 0) (.exit 0) ⟨28,true,[(9,.box 9 0),(8,.box 8 0)],[(9,.cells 44 (iE (lN p T A n))),(8,.cells 44 au)]⟩) (af [.o 10 (aq ((A+1:Nat):Int) ((A+0+1:Nat):Int) aO),.b 9 (.iL rfl:Bx.le (.cells 44 (iE (T A))) (.cells 44 (iE (lN p T A 0))))])]) 
def Xz(s:Iv)(hs:s.gX)(A n p:Nat)(z:Int)(hz:z=((A+n:Nat):Int)-1)(g:FuncId)(cap:List E)(T:Nat->Iv)(hA:A+n<=1000)(ib:8<=p)(gW:p<=512)(hT:∀ i,A<=i->i<A+n->(T i).gX/\gQ g (iP (i:Int)::cap) (ia (T i))):gQ 194 [ia s,iP A,iP z,iP p,.fn g cap] (ia (oR p s T A n)):=
 ak call194 func194 (af [.s (Sp.jE (Xy p z g cap s T A) 0 n aC (λx hx mn=>by
    have v1:=Jr (aC:1<=p) (aC:p<=4096) hs x λi h1 h2=>(hT i h1 aC).1
    have v2:=(hT (A+x) aC aC).1;exact iA (ae [tT 15 (((A+x:Nat):Int)<=z) aC,.c ((hT (A+x) aC aC).2:gQ g ((iP ((A+x:Nat):Int))::cap) _),.c (Jn (oR p s T A x) (T (A+x)) p aD aD aC aC),
     ij (((A+x:Nat):Int)+1) aC]<|.e (af [.o 11 (aq (((A+x)+1:Nat):Int) ((A+(x+1):Nat):Int) aO),.b 5 (.iL rfl:Bx.le (.cells 44 (iE (rD (oR p s T A x) (T (A+x)) p))) (.cells 44 (iE (oR p s T A (x+1)))))])) aF)
  (λhx=>by
    exact iA (af [tF 15 (((A+n:Nat):Int)<=z) aC]) aF) aI:jB 2 f194 (Xy p z g cap s T A 0) (.exit 0) ⟨25,true,[(10,.box 10 0),(5,.box 5 0)],[(10,.cells 44 au),(5,.cells 44 (iE (oR p s T A n)))]⟩) (af [.o 11 (aq A ((A+0:Nat):Int) aO),.b 5 (.iL rfl:Bx.le (.cells 44 (iE s)) (.cells 44 (iE (oR p s T A 0))))])]) 
def AW(n:Nat)(hn:n<4294967296):gQ 199 [iP n] (ia (jQ n)):=
 ak call199 func199 (af [.c (Ep n aC),.c (AA (iR (n:Int)) (DA _ aC))]) 
def aca{x:Iv}{k:Nat}:E.le (.sl true (k+1) 7 λi' j'=>if i'=0/\0<=j'/\j'<0+7 then(iE x).getD (j'-0) .any else au.getD j' .any) (gY (nB x k)):=by
 have hl:(nB x k).length=k+1:=by simp[nB]
 unfold gY;rw[hl];refine .sl λi j hi hj=>⟨?_,tf _ _ hj⟩
 by_cases h:i=0
 .subst h;rw[aZ ⟨rfl,bV _,aC⟩];exact .iL rfl
 .rw [aY λq=>h q.1];obtain⟨m,rfl⟩:∃ m,i=m+1:=⟨i-1,aC⟩
  have e:(nB x k).getD (m+1) gT=J7:=by
   simp only[nB,bd,amj,eE];rw[aZ aC];rfl
  rw[e];have e1:E.le (.v (.slice none 0 0)) (gV (gR 0)):=by rw[nP];exact .nil _ _ _
  rcases j with _|_|_|_|_|_|_|j
  all_goals first|exact e1|exact .refl _|omega
def Xt(x:Iv)(hx:x.gX)(k:Nat)(hk:k<=16):gQ 118 [ia x,iP k] (gY (nB x k)):=
 ak call118 func118 (ae [tF 7 ((k:Int)<0) aC,tF 10 (16<(k:Int)) aC,ij ((k:Int)+1) aC,.a (aC:0<=(((k+1:Nat):Int):Int)/\(((k+1:Nat):Int):Int)<=(((k+1:Nat):Int):Int)),.a (aC:((88:Nat):Int)*((k+1:Nat):Int)<=281474976710656/\(((k+1:Nat):Int):Int)<=9223372036854775807),iX 0 (k+1) aC,.a (aC:0<(k+1))]<|rR (gY (nB x k)) (aca:E.le (.sl true (k+1) 7 (λi' j'=>if i'=0/\0<=j'/\j'<0+7 then[bP x.lo.neg,gV (gR x.lo.m),iP x.lo.e,bP x.hi.neg,gV (gR x.hi.m),iP x.hi.e,bP x.all].getD (j'-0) .any else(λ_ j_=>au.getD j_ .any) i' j')) (gY (nB x k)))) 
def OY(a b:List Iv)(n:Nat)(h1:1<=n)(ni:n<=17)(ha:a.length=n)(hb:b.length=n)(g:FuncId)(cap:List E)(T:Nat->Iv)(hf:∀ i,i<n->gQ g (ia (a.getD i gT)::ia (b.getD i gT)::cap) (ia (T i))):gQ 187 [gY a,gY b,.fn g cap] (gY (kI T a.length)):=
 ak call187 func187 (af [.o 11 (.e (DH _ _):aj (.sl true 2 1 λi_ j_=>[gY a,gY b].getD (i_*1+j_) (.v (.bool false))) (kK [a,b])),.c (wk [a,b] n aC aC aH (Hc aD aD)),.a (aC:0<=(0:Int)/\(0:Int)<=((a.length:Int):Int)),.a (aC:((88:Nat):Int)*(a.length:Int)<=281474976710656/\((a.length:Int):Int)<=9223372036854775807),.s (Sp.jE (Xv a b g cap T) 0 a.length aC (λx hx mn=>by
    have rq:=pA (T x);exact iA (ae [tT 20 ((x:Int)<a.length) aC,iX (x:Int) (a.length) aC,iX (x:Int) (b.length) aC,.c (hf x aC:gQ g ((ia (a.getD x gT))::(ia (b.getD x gT))::cap) _),.o 33 (.e (lq _):aj (.sl true 1 7 λi_ j_=>(iE (T x)).getD (i_*7+j_) (.v (.bool false))) (gY [T x])),.a (aC:(x+[T x].length)*88<=140737488355328),ij ((x:Int)+1) aC]<|.e (af [.b 16 (LR rfl rfl:Bx.le (.row true 44 (x+[T x].length) 7 (λi_ j_=>if i_<x then(iF (kI T x)) i_ j_ else(E.kE (gY [T x])) (i_-x) j_)) (.row true 44 (x+1) 7 (iF (kI T (x+1)))))])) aF)
  (λhx=>by
    exact iA (ae [tF 20 ((a.length:Int)<a.length) aC,.z 16]<|.e (af [.o 7 (.e (AU (yp _ _).symm):aj (.sl true a.length 7 (iF (kI T a.length))) (gY (kI T a.length)))])) aF) aI:jB 5 f187 (Xv a b g cap T 0) (.exit 0) ⟨37,true,[(7,.e (gY (kI T a.length)))],[]⟩) (af [.b 16 (OM:Bx.le (.row true 44 0 7 (λ_ j_=>au.getD j_ .any)) (.row true 44 0 7 (iF (kI T 0))))])]) 
def ajx(x y:Iv)(p:Nat)(hx:x.gX)(hy:y.gX)(ib:8<=p)(gW:p<=512):gQ 188 [ia x,ia y,(.iM 1 λj_=>[iP p].getD j_ .any)] (ia (jC x y p)):=
 ak call188 func188 (af [.c (yP x y p aD aD aC aC)]) 
def ajy(a b:List Iv)(n p:Nat)(h1:1<=n)(ni:n<=17)(ha:kr n a)(hb:kr n b)(ib:8<=p)(gW:p<=512):gQ 161 [gY a,gY b,iP p] (gY (CO a b p)):=by
 have la:=ha.len;have lb:=hb.len;exact ak call161 func161 (ae [.c (OY a b n h1 ni la lb _ _ (λi=>jC (a.getD i gT) (b.getD i gT) p) λi hi=>ajx _ _ p (ha.ok i) (hb.ok i) ib gW:gQ 187 [gY a,gY b,.fn 188 [(.iM 1 λj_=>[iP p].getD j_ .any)]] _)]<|rR (gY (CO a b p)) (.iL rfl:E.le (gY (kI (λi=>jC (a.getD i gT) (b.getD i gT) p) a.length)) (gY (CO a b p)))) 
def ajO(x y:Iv)(p:Nat)(hx:x.gX)(hy:y.gX)(ib:8<=p)(gW:p<=512):gQ 189 [ia x,ia y,(.iM 1 λj_=>[iP p].getD j_ .any)] (ia (rD x y p)):=
 ak call189 func189 (af [.c (Jn x y p aD aD aC aC)]) 
def ajP(a b:List Iv)(n p:Nat)(h1:1<=n)(ni:n<=17)(ha:kr n a)(hb:kr n b)(ib:8<=p)(gW:p<=512):gQ 162 [gY a,gY b,iP p] (gY (D5 a b p)):=by
 have la:=ha.len;have lb:=hb.len;exact ak call162 func162 (ae [.c (OY a b n h1 ni la lb _ _ (λi=>rD (a.getD i gT) (b.getD i gT) p) λi hi=>ajO _ _ p (ha.ok i) (hb.ok i) ib gW:gQ 187 [gY a,gY b,.fn 189 [(.iM 1 λj_=>[iP p].getD j_ .any)]] _)]<|rR (gY (D5 a b p)) (.iL rfl:E.le (gY (kI (λi=>rD (a.getD i gT) (b.getD i gT) p) a.length)) (gY (D5 a b p)))) 
def ajF(x y:Iv)(hx:x.gX):gQ 196 [ia x,ia y] (ia (pz x)):=
 ak call196 func196 (af [.c (Jl x aD)]) 
def ajG(a:List Iv)(n:Nat)(h1:1<=n)(ni:n<=17)(ha:kr n a):gQ 165 [gY a] (gY (DK a)):=by
 have la:=ha.len;exact ak call165 func165 (ae [.c (OY a a n h1 ni la la _ _ (λi=>pz (a.getD i gT)) λi hi=>ajF _ _ (ha.ok i):gQ 187 [gY a,gY a,.fn 196 []] _)]<|rR (gY (DK a)) (.iL rfl:E.le (gY (kI (λi=>pz (a.getD i gT)) a.length)) (gY (DK a)))) 
def XC(a b:List Iv)(i k p:Nat)(hi:i<=k)(hk:k<a.length)(IW:k<b.length)(l17:b.length<=17)(va:lQ a)(vb:lQ b)(ib:8<=p)(gW:p<=512):gQ 193 [iP i,(.iM 1 λj_=>[gY a].getD j_ .any),(.iM 1 λj_=>[gY b].getD j_ .any),(.iM 1 λj_=>[iP k].getD j_ .any),(.iM 1 λj_=>[iP p].getD j_ .any)] (ia (iy (a.getD i gT) (b.getD (k-i) gT) p)):=by
 have v1:=va i;have v2:=vb (k-i);exact ak call193 func193 (af [iX (i:Int) (a.length) aC,ij ((k:Int)-i) aC,.o 14 (aq ((k:Int)-i) ((k-i:Nat):Int) aC),
  iX ((k-i:Nat):Int) (b.length) aC,.c (tg (a.getD i gT) (b.getD (k-i) gT) p aD aD aC aC)]) 
def ajE(a b:List Iv)(n p:Nat)(h1:1<=n)(ni:n<=17)(ha:kr n a)(hb:kr n b)(ib:8<=p)(gW:p<=512):gQ 163 [gY a,gY b,iP p] (gY (sI a b p)):=by
 have la:=ha.len;have lb:=hb.len;exact ak call163 func163 (ae [.o 11 (.e (DH _ _):aj (.sl true 2 1 λi_ j_=>[gY a,gY b].getD (i_*1+j_) (.v (.bool false))) (kK [a,b])),.c (wk [a,b] n aC aC aH (Hc aD aD)),.a (aC:0<=(0:Int)/\(0:Int)<=((a.length:Int):Int)),.a (aC:((88:Nat):Int)*(a.length:Int)<=281474976710656/\((a.length:Int):Int)<=9223372036854775807),.s (Sp.jE (XD a b p) 0 a.length aC (λx hx mn=>by
    have rq:=pA (lN p (λi=>iy (a.getD i gT) (b.getD (x-i) gT) p) 0 x);exact iA (ae [tT 20 ((x:Int)<a.length) aC,.c (J9 0 x p _ aC _ _ (λi=>iy (a.getD i gT) (b.getD (x-i) gT) p) aC ib gW λi h1 h2=>⟨nY _ _ aC aC,XC a b i x p aC aC aC aC ha.ok hb.ok ib gW⟩:gQ 192 [iP 0,iP x,iP p,.fn 193 [(.iM 1 λj_=>[gY a].getD j_ .any),(.iM 1 λj_=>[gY b].getD j_ .any),(.iM 1 λj_=>[iP x].getD j_ .any),(.iM 1 λj_=>[iP p].getD j_ .any)]] _),.o 27 (.e (lq _):aj (.sl true 1 7 λi_ j_=>(iE (lN p (λi=>iy (a.getD i gT) (b.getD (x-i) gT) p) 0 x)).getD (i_*7+j_) (.v (.bool false))) (gY [lN p (λi=>iy (a.getD i gT) (b.getD (x-i) gT) p) 0 x])),.a (aC:(x+[lN p (λi=>iy (a.getD i gT) (b.getD (x-i) gT) p) 0 x].length)*88<=140737488355328),ij ((x:Int)+1) aC]<|.e (af [.b 16 (LR rfl rfl:Bx.le (.row true 44 (x+[lN p (λi=>iy (a.getD i gT) (b.getD (x-i) gT) p) 0 x].length) 7 (λi_ j_=>if i_<x then(iF (kI (λk=>lN p (λi=>iy (a.getD i gT) (b.getD (k-i) gT) p) 0 k) x)) i_ j_ else(E.kE (gY [lN p (λi=>iy (a.getD i gT) (b.getD (x-i) gT) p) 0 x])) (i_-x) j_)) (.row true 44 (x+1) 7 (iF (kI (λk=>lN p (λi=>iy (a.getD i gT) (b.getD (k-i) gT) p) 0 k) (x+1)))))])) aF)
  (λhx=>by
    exact iA (ae [tF 20 ((a.length:Int)<a.length) aC,.z 16]<|.e (af [.o 7 (.e (AU (yp _ _).symm):aj (.sl true a.length 7 (iF (kI (λk=>lN p (λi=>iy (a.getD i gT) (b.getD (k-i) gT) p) 0 k) a.length))) (gY (kI (λk=>lN p (λi=>iy (a.getD i gT) (b.getD (k-i) gT) p) 0 k) a.length)))])) aF) aI:jB 5 f163 (XD a b p 0) (.exit 0) ⟨31,true,[(7,.e (gY (kI (λk=>lN p (λi=>iy (a.getD i gT) (b.getD (k-i) gT) p) 0 k) a.length)))],[]⟩) (af [.b 16 (OM:Bx.le (.row true 44 0 7 (λ_ j_=>au.getD j_ .any)) (.row true 44 0 7 (iF (kI (λk=>lN p (λi=>iy (a.getD i gT) (b.getD (k-i) gT) p) 0 k) 0))))])]<|rR (gY (sI a b p)) (.iL rfl:E.le (gY (kI (λk=>lN p (λi=>iy (a.getD i gT) (b.getD (k-i) gT) p) 0 k) a.length)) (gY (sI a b p)))) 
def OD{T1 T0 x:Nat}{f:Nat->List Iv->Iv}{y:Iv}(hy:y=f x (iT f x)):Bx.le (.jA true T1 T0 1 7 (λq=>if q=0 then x+[y].length else x) (λq i j=>if q=0 then(if i<x then iF (iT f x) i j else(E.kE (gY [y])) (i-x) j)else iF (iT f x) i j) none)
 (.jA true T1 T0 1 7 (λ_=>x+1) (λ_=>iF (iT f (x+1))) none):=by
 subst hy;refine .jA rfl (λk hk=>?_) (λk i j hk hi hj=>?_)
 .obtain rfl:k=0:= aC ;rfl
 .obtain rfl:k=0:= aC ;refine⟨.iL ?_,tf _ _ hj⟩;rw[aZ rfl];have hi:i<x+1:=hi;by_cases h:i<x
  .rw [aZ h];show(iE ((iT f x).getD i gT)).getD j .any=(iE ((iT f x++[f x (iT f x)]).getD i gT)).getD j .any;congr 2;simp[bd,dw (show i<(iT f x).length by rw[xP];exact h)]
  .obtain rfl:i=x:= aC ;rw[aY h,cX];show(iE (f i (iT f i))).getD j .any=(iE ((iT f i++[f i (iT f i)]).getD i gT)).getD j .any;congr 2;have e:=xP f i;simp[bd,e]
def aiv{T1 T0:Nat}{ln:Nat->Nat}{el el':Nat->Nat->Nat->E}(h:∀ k,k<1->ln k=0):Bx.le (.jA true T1 T0 1 7 ln el none) (.jA true T1 T0 1 7 (λ_=>0) el' none):=
 .jA rfl h λk i j hk hi=>by rw[h k hk]at hi;exact absurd hi (bk i)
def ajz(out b:List Iv)(i k p m:Nat)(hi:i<m)(hik:i<=k)(IW:k<b.length)(l17:b.length<=17)(vo:lQ out)(vb:lQ b)(ib:8<=p)(gW:p<=512):gQ 195 [iP i,(.iM 1 λ_=>.sl true m 7 (iF out)),(.iM 1 λj_=>[gY b].getD j_ .any),(.iM 1 λj_=>[iP k].getD j_ .any),(.iM 1 λj_=>[iP p].getD j_ .any)] (ia (iy (out.getD i gT) (b.getD (k-i) gT) p)):=by
 have v1:=vo i;have v2:=vb (k-i);exact ak call195 func195 (af [iX (i:Int) m aC,ij ((k:Int)-i) aC,.o 14 (aq ((k:Int)-i) ((k-i:Nat):Int) aC),
  iX ((k-i:Nat):Int) (b.length) aC,.c (tg (out.getD i gT) (b.getD (k-i) gT) p aD aD aC aC)]) 
def ajA(a b:List Iv)(n p:Nat)(h1:1<=n)(ni:n<=17)(ha:kr n a)(hb:kr n b)(ib:8<=p)(gW:p<=512):gQ 164 [gY a,gY b,iP p] (gY (zW a b p)):=by
 have la:=ha.len;have lb:=hb.len;have vb0:=hb.ok 0;exact ak call164 func164 (ae [.o 12 (.e (DH _ _):aj (.sl true 2 1 λi_ j_=>[gY a,gY b].getD (i_*1+j_) (.v (.bool false))) (kK [a,b])),.c (wk [a,b] n aC aC aH (Hc aD aD)),.a (aC:0<=(0:Int)/\(0:Int)<=((a.length:Int):Int)),.a (aC:((88:Nat):Int)*(a.length:Int)<=281474976710656/\((a.length:Int):Int)<=9223372036854775807),.s (Sp.jE (Xu a b p) 0 a.length aC (λx hx mn=>by
    have pt:kr x (iT (qM a b p) x):=AR x λk l _ _=>pX _ _ aC aC 
    have nN:(λ_:Nat=>x) 0=x:=rfl;have rq:=pA (jh (oR p (a.getD x gT) (λi=>iy ((iT (qM a b p) x).getD i gT) (b.getD (x-i) gT) p) 0 x) (b.getD 0 gT) p);have vls:=Jr (aC:1<=p) (aC:p<=4096) (ha.ok x) (T:=(λi=>iy ((iT (qM a b p) x).getD i gT) (b.getD (x-i) gT) p)) (a:=0) x λ_ _ _=>nY _ _ aC aC 
    exact iA (ae [tT 21 ((x:Int)<a.length) aC,iX (x:Int) (a.length) aC,ij ((x:Int)-1) aC,.c (Xz _ (ha.ok x) 0 x p _ aC _ _ (λi=>iy ((iT (qM a b p) x).getD i gT) (b.getD (x-i) gT) p) aC ib gW λi h1 h2=>⟨nY _ _ aC aC,ajz _ b i x p _ (aC:i<x) aC aC aC pt.ok hb.ok ib gW⟩:gQ 194 [ia (a.getD x gT),iP 0,iP ((x:Int)-1),iP p,.fn 195 [(.iM 1 λ_=>(.sl true ((λ_=>x) 0) 7 ((λ_=>iF (iT (qM a b p) x)) 0))),(.iM 1 λj_=>[gY b].getD j_ .any),(.iM 1 λj_=>[iP x].getD j_ .any),(.iM 1 λj_=>[iP p].getD j_ .any)]] _),.a (FN _:vf (ia (oR p (a.getD x gT) (λi=>iy ((iT (qM a b p) x).getD i gT) (b.getD (x-i) gT) p) 0 x))),.a (aC:0<1),iX 0 (b.length) aC,.c (yQ (oR p (a.getD x gT) (λi=>iy ((iT (qM a b p) x).getD i gT) (b.getD (x-i) gT) p) 0 x) (b.getD 0 gT) p aD aD aC aC),.o 39 (.e (lq _):aj (.sl true 1 7 λi_ j_=>(iE (jh (oR p (a.getD x gT) (λi=>iy ((iT (qM a b p) x).getD i gT) (b.getD (x-i) gT) p) 0 x) (b.getD 0 gT) p)).getD (i_*7+j_) (.v (.bool false))) (gY [jh (oR p (a.getD x gT) (λi=>iy ((iT (qM a b p) x).getD i gT) (b.getD (x-i) gT) p) 0 x) (b.getD 0 gT) p])),.a (aC:0<1),.a (aC:((λ_=>x) 0+[jh (oR p (a.getD x gT) (λi=>iy ((iT (qM a b p) x).getD i gT) (b.getD (x-i) gT) p) 0 x) (b.getD 0 gT) p].length)*88<=140737488355328),.a (rfl:0=0),.a (rfl:0=0),.a (aC:0<1),ij ((x:Int)+1) aC]<|.e (af [.b 7 (OD rfl:Bx.le (.jA true 26 44 1 7 (λq=>if q=0 then(λ_=>x) q+[jh (oR p (a.getD x gT) (λi=>iy ((iT (qM a b p) x).getD i gT) (b.getD (x-i) gT) p) 0 x) (b.getD 0 gT) p].length else(λ_=>x) q) (λq i j=>if q=0 then(if i<(λ_=>x) q then(λ_=>iF (iT (qM a b p) x)) q i j else(E.kE (gY [jh (oR p (a.getD x gT) (λi=>iy ((iT (qM a b p) x).getD i gT) (b.getD (x-i) gT) p) 0 x) (b.getD 0 gT) p])) (i-(λ_=>x) q) j)else(λ_=>iF (iT (qM a b p) x)) q i j) .none) (.jA true 26 44 1 7 (λ_=>(x+1)) (λ_=>iF (iT (qM a b p) (x+1))) .none))])) aF)
  (λhx=>by
    exact iA (af [tF 21 ((a.length:Int)<a.length) aC]) aF) aI:jB 5 f164 (Xu a b p 0) (.exit 0) ⟨43,true,[(7,.mP 7 1 0 0)],[(7,.jA true 26 44 1 7 (λ_=>a.length) (λ_=>iF (iT (qM a b p) a.length)) .none)]⟩) (af [.b 7 (aiv (λ_ _=>rfl):Bx.le (.jA true 26 44 1 7 (λ_=>0) (λ_=>λ_ j_=>au.getD j_ .any) .none) (.jA true 26 44 1 7 (λ_=>0) (λ_=>iF (iT (qM a b p) 0)) .none))]),.a (aC:0<1)]<|rR (gY (zW a b p)) (AU (xs:=zW a b p) (by unfold zW;rw[xP]):E.le (.sl true ((λ_=>a.length) 0) 7 ((λ_=>iF (iT (qM a b p) a.length)) 0)) (gY (zW a b p)))) 
def XE(a b:List Iv)(p:Nat)(x:Nat):PS:=⟨31,true,[(19,.e (iP x)),(18,.e (iP a.length)),(7,.own 16),(5,.box 5 0),(4,.box 4 0),(3,.box 3 0)],[(16,.row true 44 x 7 (iF (kI (λk=>lN p (λi=>iy (a.getD i gT) (b.getD (k-i) gT) p) 0 k) x))),(5,.cells 3 [iP p]),(4,.cells 26 [gY b]),(3,.cells 26 [gY a])]⟩
def XH(a:List Iv)(p k:Nat)(x:Nat):PS:=⟨71,true,[(39,.e (iP x)),(38,.e (iP a.length)),(7,.own 15),(0,.e (gY a)),(1,.e (iP k)),(2,.e (iP p))],[(15,.row true 44 a.length 7 (iF (kI (λi=>if i<x then(λi=>iy (jQ 0) (a.getD i gT) p) i else(λi=>a.getD i gT) i) a.length)))]⟩
def XI(a:List Iv)(p k:Nat)(x:Nat):PS:=⟨71,true,[(55,.e (iP x)),(7,.own 60),(54,.e (iP ((k:Int)-1))),(0,.e (gY a)),(1,.e (iP k)),(2,.e (iP p))],[(60,.row true 44 ((oN a p x).length) 7 (iF (oN a p x)))]⟩
noncomputable def Xw(a:List Iv)(p:Nat)(x:Nat):PS:=⟨43,true,[(6,.box 6 0),(5,.mP 5 1 0 0),(3,.box 3 0),(2,.box 2 0)],[(6,.cells 3 [iP x]),(5,.jA true 26 44 1 7 (λ_=>x) (λ_=>iF (iT (pL a p) x)) .none),(3,.cells 3 [iP p]),(2,.cells 26 [gY a])]⟩
def XF(a b:List Iv)(n p:Nat)(h1:1<=n)(ni:n<=17)(ha:kr n a)(hb:kr n b)(ib:8<=p)(gW:p<=512):xd 163 [gY a,gY b,iP p] true 44 a.length 7 (iF (sI a b p)):=by
 have la:=ha.len;have lb:=hb.len;exact YA call163 func163 (ae [.o 11 (.e (DH _ _):aj (.sl true 2 1 λi_ j_=>[gY a,gY b].getD (i_*1+j_) (.v (.bool false))) (kK [a,b])),.c (wk [a,b] n aC aC aH (Hc aD aD)),.a (aC:0<=(0:Int)/\(0:Int)<=((a.length:Int):Int)),.a (aC:((88:Nat):Int)*(a.length:Int)<=281474976710656/\((a.length:Int):Int)<=9223372036854775807),.s (Sp.jE (XE a b p) 0 a.length aC (λx hx mn=>by
    have rq:=pA (lN p (λi=>iy (a.getD i gT) (b.getD (x-i) gT) p) 0 x);exact iA (ae [tT 20 ((x:Int)<a.length) aC,.c (J9 0 x p _ aC _ _ (λi=>iy (a.getD i gT) (b.getD (x-i) gT) p) aC ib gW λi h1 h2=>⟨nY _ _ aC aC,XC a b i x p aC aC aC aC ha.ok hb.ok ib gW⟩:gQ 192 [iP 0,iP x,iP p,.fn 193 [(.iM 1 λj_=>[gY a].getD j_ .any),(.iM 1 λj_=>[gY b].getD j_ .any),(.iM 1 λj_=>[iP x].getD j_ .any),(.iM 1 λj_=>[iP p].getD j_ .any)]] _),.o 27 (.e (lq _):aj (.sl true 1 7 λi_ j_=>(iE (lN p (λi=>iy (a.getD i gT) (b.getD (x-i) gT) p) 0 x)).getD (i_*7+j_) (.v (.bool false))) (gY [lN p (λi=>iy (a.getD i gT) (b.getD (x-i) gT) p) 0 x])),.a (aC:(x+[lN p (λi=>iy (a.getD i gT) (b.getD (x-i) gT) p) 0 x].length)*88<=140737488355328),ij ((x:Int)+1) aC]<|.e (af [.b 16 (LR rfl rfl:Bx.le (.row true 44 (x+[lN p (λi=>iy (a.getD i gT) (b.getD (x-i) gT) p) 0 x].length) 7 (λi_ j_=>if i_<x then(iF (kI (λk=>lN p (λi=>iy (a.getD i gT) (b.getD (k-i) gT) p) 0 k) x)) i_ j_ else(E.kE (gY [lN p (λi=>iy (a.getD i gT) (b.getD (x-i) gT) p) 0 x])) (i_-x) j_)) (.row true 44 (x+1) 7 (iF (kI (λk=>lN p (λi=>iy (a.getD i gT) (b.getD (k-i) gT) p) 0 k) (x+1)))))])) aF)
  (λhx=>by
    exact iA (af [tF 20 ((a.length:Int)<a.length) aC]) aF) aI:jB 5 f163 (XE a b p 0) (.exit 0) ⟨31,true,[(7,.own 16)],[(16,.row true 44 a.length 7 (iF (kI (λk=>lN p (λi=>iy (a.getD i gT) (b.getD (k-i) gT) p) 0 k) a.length)))]⟩) (af [.b 16 (OM:Bx.le (.row true 44 0 7 (λ_ j_=>au.getD j_ .any)) (.row true 44 0 7 (iF (kI (λk=>lN p (λi=>iy (a.getD i gT) (b.getD (k-i) gT) p) 0 k) 0))))])]<|.rb (.refl _:Bx.le (.row true 44 a.length 7 (iF (kI (λk=>lN p (λi=>iy (a.getD i gT) (b.getD (k-i) gT) p) 0 k) a.length))) (.row true 44 a.length 7 (iF (sI a b p))))) aF 
def O3{n:Nat}{xs:List Iv}{y:Iv}(h:n=xs.length):E.le (.sl true n 7 λi' j'=>if i'=0/\0<=j'/\j'<0+7 then(iE y).getD (j'-0) .any else iF xs i' j') (gY (xs.set 0 y)):=by
 have hl:(xs.set 0 y).length=n:=by simp[h]
 unfold gY;rw[hl];refine .sl λi j hi hj=>⟨?_,tf _ _ hj⟩
 by_cases h0:i=0
 .subst h0;rw[aZ ⟨rfl,bV _,aC⟩];have e:(xs.set 0 y).getD 0 gT=y:=by
   cases xs with
   |nil=>simp at h;omega
   |cons x xs=>rfl
  rw[e];exact .refl _
 .rw [aY λq=>h0 q.1];have e:(xs.set 0 y).getD i gT=xs.getD i gT:=by
   simp only[bd,List.getElem?_set,aY λq:0=i=>h0 q.symm]
  rw[e];exact .refl _
def ajQ{T n x:Nat}{f g:Nat->Iv}{y:Iv}(hy:y=f x):Bx.le (.row true T n 7 λi' j'=>if i'=x/\0<=j'/\j'<0+7 then(iE y).getD (j'-0) .any else iF (kI (λi=>if i<x then f i else g i) n) i' j')
 (.row true T n 7 (iF (kI (λi=>if i<x+1 then f i else g i) n))):=.row rfl λi j hi hj=>⟨.iL (by
 subst hy;by_cases h:i=x
 .subst h;rw[aZ ⟨rfl,bV _,aC⟩];show _=(iE ((kI _ n).getD i gT)).getD j .any;rw[Ix hi,aZ (eh _)];rfl
 .rw [aY λq=>h q.1];show(iE ((kI _ n).getD i gT)).getD j .any=(iE ((kI _ n).getD i gT)).getD j .any;rw[Ix hi,Ix hi];by_cases q:i<x
  .rw [aZ q,aZ aC]
  .rw [aY q,aY aC]),tf _ _ hj⟩
def ad0(a:List Iv):kI (λi=>a.getD i gT) a.length=a:=by
 apply fR (yp _ _);intro i h1 h2;simp[kI,bd,h2]
def adZ{f g:Nat->Iv}{n:Nat}(h:∀ i,i<n->f i=g i):kI f n=kI g n:=by
 unfold kI;exact fe λi hi=>h i (bW.1 hi)
def FX{a:List Iv}{p:Nat}:∀ k,(oN a p k).length=a.length
 | 0=>rfl
 |k+1=>by simp only[oN,sI,yp];exact FX k
def ajI(a:List Iv)(n p k:Nat)(h1:1<=n)(ni:n<=17)(ha:kr n a)(ib:8<=p)(gW:p<=512)(hk:k<=16)(h0:k=0):gQ 166 [gY a,iP k,iP p] (gY (sL a k p)):=by
 have la:=ha.len;have va0:=ha.ok 0;exact ak call166 func166 (ae [.o 11 (.e (Ci _):aj (.sl true 1 1 λi_ j_=>[gY a].getD (i_*1+j_) (.v (.bool false))) (kK [a])),.c (wk [a] n aC aC aH (Bf aD)),.cn (He _ aC aC:xd 198 [gY a] true 44 a.length 7 (iF a)),tF 18 ((k:Int)<0) aC,tF 21 (16<(k:Int)) aC,ah 36 ((k:Int)==0) (aU aC),.s (Sp.jE (XH a p k) 0 a.length aC (λx hx mn=>by
    have vx:=ha.ok x;have v0:=xQ 0 aC;exact iA (ae [tT 40 ((x:Int)<a.length) aC,.c (AW 0 aC),iX (x:Int) (a.length) aC,.c (tg (jQ 0) (a.getD x gT) p aD aD aC aC),
     iX (x:Int) (a.length) aC,.a (aC:x<a.length),ij ((x:Int)+1) aC]<|.e (af [.b 15 (ajQ rfl:Bx.le (.row true 44 a.length 7 (λi' j'=>if i'=x/\0<=j'/\j'<0+7 then[bP (((iy (jQ 0) (a.getD x gT) p).lo).neg),gV (gR (((iy (jQ 0) (a.getD x gT) p).lo).m)),iP (((iy (jQ 0) (a.getD x gT) p).lo).e),bP (((iy (jQ 0) (a.getD x gT) p).hi).neg),gV (gR (((iy (jQ 0) (a.getD x gT) p).hi).m)),iP (((iy (jQ 0) (a.getD x gT) p).hi).e),bP ((iy (jQ 0) (a.getD x gT) p).all)].getD (j'-0) .any else(iF (kI (λi=>if i<x then(λi=>iy (jQ 0) (a.getD i gT) p) i else(λi=>a.getD i gT) i) a.length)) i' j')) (.row true 44 a.length 7 (iF (kI (λi=>if i<(x+1)then(λi=>iy (jQ 0) (a.getD i gT) p) i else(λi=>a.getD i gT) i) a.length))))])) aF)
  (λhx=>by
    exact iA (af [tF 40 ((a.length:Int)<a.length) aC]) aF) aI:jB 13 f166 (XH a p k 0) (.exit 3) ⟨71,true,[(7,.own 15),(0,.e (gY a)),(1,.e (iP k)),(2,.e (iP p))],[(15,.row true 44 a.length 7 (iF (kI (λi=>if i<a.length then(λi=>iy (jQ 0) (a.getD i gT) p) i else(λi=>a.getD i gT) i) a.length)))]⟩) (af [.b 15 (.iL (by simp only[bk,bj,ad0]):Bx.le (.row true 44 a.length 7 (iF a)) (.row true 44 a.length 7 (iF (kI (λi=>if i<0 then(λi=>iy (jQ 0) (a.getD i gT) p) i else(λi=>a.getD i gT) i) a.length))))]),
  ij ((k:Int)-1) aC,.u 2,tF 56 (0<((k:Int)-1)) aC,iX 0 (a.length) aC,ag [ia (a.getD 0 gT),iP k,iP p] (Hh _ _ _ aD aC aC aC),iX 0 (a.length) aC,.a (aC:0<a.length)]<|rR (gY (sL a k p)) ((O3 (yp _ _).symm).trans (.iL (by unfold sL DU;rw[aZ h0,adZ λi hi=>aZ hi])):E.le (.sl true a.length 7 (λi' j'=>if i'=0/\0<=j'/\j'<0+7 then[bP (((my (a.getD 0 gT) k p).lo).neg),gV (gR (((my (a.getD 0 gT) k p).lo).m)),iP (((my (a.getD 0 gT) k p).lo).e),bP (((my (a.getD 0 gT) k p).hi).neg),gV (gR (((my (a.getD 0 gT) k p).hi).m)),iP (((my (a.getD 0 gT) k p).hi).e),bP ((my (a.getD 0 gT) k p).all)].getD (j'-0) .any else(iF (kI (λi=>if i<a.length then(λi=>iy (jQ 0) (a.getD i gT) p) i else(λi=>a.getD i gT) i) a.length)) i' j')) (gY (sL a k p)))) 
def ajJ(a:List Iv)(n p k:Nat)(h1:1<=n)(ni:n<=17)(ha:kr n a)(ib:8<=p)(gW:p<=512)(hk:k<=16)(h0:k=1):gQ 166 [gY a,iP k,iP p] (gY (sL a k p)):=by
 have la:=ha.len;have va0:=ha.ok 0;exact ak call166 func166 (ae [.o 11 (.e (Ci _):aj (.sl true 1 1 λi_ j_=>[gY a].getD (i_*1+j_) (.v (.bool false))) (kK [a])),.c (wk [a] n aC aC aH (Bf aD)),.cn (He _ aC aC:xd 198 [gY a] true 44 a.length 7 (iF a)),tF 18 ((k:Int)<0) aC,tF 21 (16<(k:Int)) aC,ai 36 ((k:Int)==0) (aT aC),ij ((k:Int)-1) aC,.u 2,tF 56 (0<((k:Int)-1)) aC,iX 0 (a.length) aC,ag [ia (a.getD 0 gT),iP k,iP p] (Hh _ _ _ aD aC aC aC),iX 0 (a.length) aC,.a (aC:0<a.length)]<|rR (gY (sL a k p)) ((O3 rfl).trans (.iL (by unfold sL DU;rw[aY aC,h0];rfl)):E.le (.sl true a.length 7 (λi' j'=>if i'=0/\0<=j'/\j'<0+7 then[bP (((my (a.getD 0 gT) k p).lo).neg),gV (gR (((my (a.getD 0 gT) k p).lo).m)),iP (((my (a.getD 0 gT) k p).lo).e),bP (((my (a.getD 0 gT) k p).hi).neg),gV (gR (((my (a.getD 0 gT) k p).hi).m)),iP (((my (a.getD 0 gT) k p).hi).e),bP ((my (a.getD 0 gT) k p).all)].getD (j'-0) .any else(iF a) i' j')) (gY (sL a k p)))) 
def Xc{T n n':Nat}{xs:List Iv}(h:n=n'):Bx.le (.row true T n 7 (iF xs)) (.row true T n' 7 (iF xs)):=.row h λi j _ hj=>⟨.refl _,tf _ _ hj⟩
def ajK(a:List Iv)(n p k:Nat)(h1:1<=n)(ni:n<=17)(ha:kr n a)(ib:8<=p)(gW:p<=512)(hk:k<=16)(h0:2<=k):gQ 166 [gY a,iP k,iP p] (gY (sL a k p)):=by
 have la:=ha.len;have va0:=ha.ok 0;have Dk:=FX (a:=a) (p:=p) (k-1);exact ak call166 func166 (ae [.o 11 (.e (Ci _):aj (.sl true 1 1 λi_ j_=>[gY a].getD (i_*1+j_) (.v (.bool false))) (kK [a])),.c (wk [a] n aC aC aH (Bf aD)),.cn (He _ aC aC:xd 198 [gY a] true 44 a.length 7 (iF a)),tF 18 ((k:Int)<0) aC,tF 21 (16<(k:Int)) aC,ai 36 ((k:Int)==0) (aT aC),ij ((k:Int)-1) aC,.u 2,tT 56 (0<((k:Int)-1)) aC,.cn (XF a a n p h1 ni ha ha ib gW:xd 163 [.sl true a.length 7 (iF a),gY a,iP p] true 44 a.length 7 (iF (sI a a p))),.a (Vm _:Eg a.length 7 (iF (sI a a p))),
  ij (0+1) aC,.k [55,7,54,0,1,2] [60],.s (Sp.jE (XI a p k) 1 (k-1) aC (λx hx mn=>by
    have Dk:=FX (a:=a) (p:=p) x;exact iA (ae [tT 56 ((x:Int)<((k:Int)-1)) aC,.cn (XF (oN a p x) a n p h1 ni (NF aC aC ha x) ha ib gW:xd 163 [.sl true ((oN a p x).length) 7 (iF (oN a p x)),gY a,iP p] true 44 ((oN a p x).length) 7 (iF (sI (oN a p x) a p))),.a (Vm _:Eg ((oN a p x).length) 7 (iF (sI (oN a p x) a p))),ij ((x:Int)+1) aC]<|.e (af [.b 60 (Xc (xs:=(oN a p (x+1))) (by simp only[FX]):Bx.le (.row true 44 ((oN a p x).length) 7 (iF (sI (oN a p x) a p))) (.row true 44 ((oN a p (x+1)).length) 7 (iF (oN a p (x+1)))))])) aF)
  (λhx=>by
    exact iA (af [tF 56 (((k-1:Nat):Int)<((k:Int)-1)) aC]) aF) aI:jB 18 f166 (XI a p k 1) (.exit 5) ⟨71,true,[(7,.own 60),(0,.e (gY a)),(1,.e (iP k)),(2,.e (iP p))],[(60,.row true 44 ((oN a p (k-1)).length) 7 (iF (oN a p (k-1))))]⟩) (af [.o 55 (aq (0+1) 1 aO),.b 60 (Xc (xs:=(oN a p 1)) (by simp only[FX]):Bx.le (.row true 44 a.length 7 (iF (sI a a p))) (.row true 44 ((oN a p 1).length) 7 (iF (oN a p 1))))]),
  iX 0 (a.length) aC,ag [ia (a.getD 0 gT),iP k,iP p] (Hh _ _ _ aD aC aC aC),iX 0 ((oN a p (k-1)).length) aC,.a (aC:0<(oN a p (k-1)).length)]<|rR (gY (sL a k p)) ((O3 rfl).trans (.iL (by unfold sL DU;rw[aY aC])):E.le (.sl true ((oN a p (k-1)).length) 7 (λi' j'=>if i'=0/\0<=j'/\j'<0+7 then[bP (((my (a.getD 0 gT) k p).lo).neg),gV (gR (((my (a.getD 0 gT) k p).lo).m)),iP (((my (a.getD 0 gT) k p).lo).e),bP (((my (a.getD 0 gT) k p).hi).neg),gV (gR (((my (a.getD 0 gT) k p).hi).m)),iP (((my (a.getD 0 gT) k p).hi).e),bP ((my (a.getD 0 gT) k p).all)].getD (j'-0) .any else(iF (oN a p (k-1))) i' j')) (gY (sL a k p)))) 
def ajL(a:List Iv)(n p k:Nat)(h1:1<=n)(ni:n<=17)(ha:kr n a)(ib:8<=p)(gW:p<=512)(hk:k<=16):gQ 166 [gY a,iP (k:Int),iP (p:Int)] (gY (sL a k p)):=by
 by_cases h0:k=0
 .exact ajI a n p k h1 ni ha ib gW hk h0
 by_cases h2:k=1
 .exact ajJ a n p k h1 ni ha ib gW hk h2
 .exact ajK a n p k h1 ni ha ib gW hk aC 
def W0{T1 T0:Nat}{f:Nat->List Iv->Iv}{y:Iv}{e0 e1:Nat->Nat->Nat->E}(hy:y=f 0 []):Bx.le (.jA true T1 T0 1 7 (λq=>if q=0 then 0+[y].length else 0) (λq i j=>if q=0 then(if i<0 then e0 q i j else(E.kE (gY [y])) (i-0) j)else e1 q i j) none)
 (.jA true T1 T0 1 7 (λ_=>1) (λ_=>iF (iT f 1)) none):=by
 subst hy;refine .jA rfl (λk hk=>?_) (λk i j hk hi hj=>?_)
 .obtain rfl:k=0:= aC ;rfl
 .obtain rfl:k=0:= aC ;rw[aZ rfl]at hi;have hi:i<0+1:=hi;obtain rfl:i=0:= aC ;exact⟨.iL rfl,tf _ _ hj⟩
def aiw{T:Nat}{f:Nat->List Iv->Iv}{y:Iv}{e:Nat->Nat->E}(hy:y=f 0 []):Bx.le (.row true T (0+[y].length) 7 λa j=>if a<0 then e a j else(E.kE (gY [y])) (a-0) j) (.row true T 1 7 (iF (iT f 1))):=by
 subst hy;refine .row rfl λi j hi hj=>?_
 have hi:i<0+1:=hi;obtain rfl:i=0:= aC ;exact⟨.iL rfl,tf _ _ hj⟩
def ajB(a out:List Iv)(i k p m:Nat)(TL:1<=i)(hi:i<=k)(hk:k<a.length)(hm:k<=m)(l17:a.length<=17)(va:lQ a)(vo:lQ out)(ib:8<=p)(gW:p<=512):gQ 202 [iP i,(.iM 1 λj_=>[gY a].getD j_ .any),(.iM 1 λj_=>[iP p].getD j_ .any),(.iM 1 λ_=>.sl true m 7 (iF out)),(.iM 1 λj_=>[iP k].getD j_ .any)] (ia (iy (iy (jQ i) (a.getD i gT) p) (out.getD (k-i) gT) p)):=by
 have v1:=va i;have v2:=vo (k-i);have v3:=xQ i aC;have v4:(iy (jQ i) (a.getD i gT) p).gX:=nY _ _ aC aC;exact ak call202 func202 (af [.c (AW i aC),iX (i:Int) (a.length) aC,.c (tg (jQ i) (a.getD i gT) p aD aD aC aC),ij ((k:Int)-i) aC,.o 18 (aq ((k:Int)-i) ((k-i:Nat):Int) aC),iX ((k-i:Nat):Int) m aC,.c (tg (iy (jQ i) (a.getD i gT) p) (out.getD (k-i) gT) p aD aD aC aC)]) 
def ajC(a:List Iv)(n p:Nat)(h1:1<=n)(ni:n<=17)(ha:kr n a)(ib:8<=p)(gW:p<=512)(hF:ue):gQ 167 [gY a,iP p] (gY (Aa a p)):=by
 have la:=ha.len;have va0:=ha.ok 0;have o0:(λ_:Nat=>(0:Nat)) 0=0:=rfl;have T5:=pA (um (a.getD 0 gT) p);exact ak call167 func167 (ae [.o 9 (.e (Ci _):aj (.sl true 1 1 λi_ j_=>[gY a].getD (i_*1+j_) (.v (.bool false))) (kK [a])),.c (wk [a] n aC aC aH (Bf aD)),.a (aC:0<=(0:Int)/\(0:Int)<=((a.length:Int):Int)),.a (aC:((88:Nat):Int)*(a.length:Int)<=281474976710656/\((a.length:Int):Int)<=9223372036854775807),.a (aC:0<1),
  iX 0 (a.length) aC,ag [ia (a.getD 0 gT),iP p] (Si _ aD _ aC aC hF),.o 21 (.e (lq _):aj (.sl true 1 7 λi_ j_=>(iE (um (a.getD 0 gT) p)).getD (i_*7+j_) (.v (.bool false))) (gY [um (a.getD 0 gT) p])),.a (aC:0<1),.a (aC:((λ_=>0) 0+[um (a.getD 0 gT) p].length)*88<=140737488355328),.a (rfl:0=0),.a (rfl:0=0),.a (aC:0<1),.s (Sp.jE (Xw a p) 1 a.length aC (λx hx mn=>by
    have nN:(λ_:Nat=>x) 0=x:=rfl;have pt:kr x (iT (pL a p) x):=AR x λk l _ _=>by unfold pL;split<;>first|exact LG _ _|exact pX _ _ aC aC 
    have vs:=GC (aC:1<=p) (aC:p<=4096) (T:=(λi=>(iy (iy (jQ i) (a.getD i gT) p) ((iT (pL a p) x).getD (x-i) gT) p))) (a:=1) (x-1) λ_ _ _=>nY _ _ aC aC 
    have vw:=xQ x aC;have rq:=pA (jh (lN p (λi=>(iy (iy (jQ i) (a.getD i gT) p) ((iT (pL a p) x).getD (x-i) gT) p)) 1 (x-1)) (jQ x) p);exact iA (ae [tT 26 ((x:Int)<a.length) aC,.c (J9 1 (x-1) p _ aC _ _ (λi=>(iy (iy (jQ i) (a.getD i gT) p) ((iT (pL a p) x).getD (x-i) gT) p)) aC ib gW λi h1 h2=>⟨nY _ _ aC aC,ajB a _ i x p _ h1 aC aC aC aC ha.ok pt.ok ib gW⟩:gQ 192 [iP 1,iP x,iP p,.fn 202 [(.iM 1 λj_=>[gY a].getD j_ .any),(.iM 1 λj_=>[iP p].getD j_ .any),(.iM 1 λ_=>(.sl true ((λ_=>x) 0) 7 ((λ_=>iF (iT (pL a p) x)) 0))),(.iM 1 λj_=>[iP x].getD j_ .any)]] _),.a (FN _:vf (ia (lN p (λi=>(iy (iy (jQ i) (a.getD i gT) p) ((iT (pL a p) x).getD (x-i) gT) p)) 1 (x-1)))),.a (aC:0<1),.c (AW x aC),.c (yQ (lN p (λi=>(iy (iy (jQ i) (a.getD i gT) p) ((iT (pL a p) x).getD (x-i) gT) p)) 1 (x-1)) (jQ x) p aD aD aC aC),.o 39 (.e (lq _):aj (.sl true 1 7 λi_ j_=>(iE (jh (lN p (λi=>(iy (iy (jQ i) (a.getD i gT) p) ((iT (pL a p) x).getD (x-i) gT) p)) 1 (x-1)) (jQ x) p)).getD (i_*7+j_) (.v (.bool false))) (gY [jh (lN p (λi=>(iy (iy (jQ i) (a.getD i gT) p) ((iT (pL a p) x).getD (x-i) gT) p)) 1 (x-1)) (jQ x) p])),.a (aC:0<1),.a (aC:((λ_=>x) 0+[jh (lN p (λi=>(iy (iy (jQ i) (a.getD i gT) p) ((iT (pL a p) x).getD (x-i) gT) p)) 1 (x-1)) (jQ x) p].length)*88<=140737488355328),.a (rfl:0=0),.a (rfl:0=0),.a (aC:0<1),ij ((x:Int)+1) aC]<|.e (af [.b 5 (OD (by unfold pL;rw[aY aC]):Bx.le (.jA true 26 44 1 7 (λq=>if q=0 then(λ_=>x) q+[jh (lN p (λi=>(iy (iy (jQ i) (a.getD i gT) p) ((iT (pL a p) x).getD (x-i) gT) p)) 1 (x-1)) (jQ x) p].length else(λ_=>x) q) (λq i j=>if q=0 then(if i<(λ_=>x) q then(λ_=>iF (iT (pL a p) x)) q i j else(E.kE (gY [jh (lN p (λi=>(iy (iy (jQ i) (a.getD i gT) p) ((iT (pL a p) x).getD (x-i) gT) p)) 1 (x-1)) (jQ x) p])) (i-(λ_=>x) q) j)else(λ_=>iF (iT (pL a p) x)) q i j) .none) (.jA true 26 44 1 7 (λ_=>(x+1)) (λ_=>iF (iT (pL a p) (x+1))) .none))])) aF)
  (λhx=>by
    exact iA (af [tF 26 ((a.length:Int)<a.length) aC]) aF) aI:jB 6 f167 (Xw a p 1) (.exit 0) ⟨43,true,[(5,.mP 5 1 0 0)],[(5,.jA true 26 44 1 7 (λ_=>a.length) (λ_=>iF (iT (pL a p) a.length)) .none)]⟩) (af [.b 5 (W0 rfl:Bx.le (.jA true 26 44 1 7 (λq=>if q=0 then(λ_=>0) q+[um (a.getD 0 gT) p].length else(λ_=>0) q) (λq i j=>if q=0 then(if i<(λ_=>0) q then(λ_=>λ_ j_=>au.getD j_ .any) q i j else(E.kE (gY [um (a.getD 0 gT) p])) (i-(λ_=>0) q) j)else(λ_=>λ_ j_=>au.getD j_ .any) q i j) .none) (.jA true 26 44 1 7 (λ_=>1) (λ_=>iF (iT (pL a p) 1)) .none))]),.a (aC:0<1)]<|rR (gY (Aa a p)) (AU (xs:=Aa a p) (by unfold Aa;rw[xP]):E.le (.sl true ((λ_=>a.length) 0) 7 ((λ_=>iF (iT (pL a p) a.length)) 0)) (gY (Aa a p)))) 
def iG(f:Nat->Rat):Nat->Rat
 | 0=>0
 |n+1=>iG f n+f n
def pS{f g:Nat->Rat}:∀ n,(∀ i,i<n->f i=g i)->iG f n=iG g n
 | 0,_=>rfl
 |n+1,h=>by rw[iG,iG,pS n (λi hi=>h i aC),h n aC]
def CC{f g:Nat->Rat}:∀ n,(∀ i,i<n->f i<=g i)->iG f n<=iG g n
 | 0,_=>b6
 |n+1,h=>by
  have h1:=CC n (λi hi=>h i aC);have h2:=h n aC;rw[iG,iG];grind
def CD{f:Nat->Rat}(n:Nat)(h:∀ i,i<n->0<=f i):0<=iG f n:=by
 induction n with
 |zero=>exact b6
 |succ n ih=>
  have h1:=ih (λi hi=>h i aC);have h2:=h n aC;rw[iG];grind
def A6(f:Nat->Rat)(c:Rat):∀ n,iG (λi=>c*f i) n=c*iG f n
 | 0=>by simp[iG]
 |n+1=>by rw[iG,iG,A6 f c n];grind
def D6(f:Nat->Rat)(c:Rat):∀ n,iG (λi=>f i*c) n=iG f n*c
 | 0=>by simp[iG]
 |n+1=>by rw[iG,iG,D6 f c n];grind
def Gz(f g:Nat->Rat):∀ n,iG (λi=>f i+g i) n=iG f n+iG g n
 | 0=>by simp only[iG];grind
 |n+1=>by rw[iG,iG,iG,Gz f g n];grind
def GA(f:Nat->Nat->Rat)(m:Nat):∀ n,iG (λi=>iG (λj=>f i j) m) n=iG (λj=>iG (λi=>f i j) n) m
 | 0=>by
  have:∀ m,iG (λ_=>(0:Rat)) m=0:=by
   intro m
   induction m with
   |zero=>rfl
   |succ m ih=>rw[iG,ih];grind
  exact(this m).symm
 |n+1=>by
  rw[iG,GA f m n,<-Gz];rfl
def Yi(f:Nat->Rat):∀ n,iG f (n+1)=f 0+iG (λi=>f (i+1)) n
 | 0=>by simp only[iG];grind
 |n+1=>by rw[iG,Yi f n,iG];grind
def iQ(x:Rat):Rat:=if 0<=x then x else -x
def mG(x:Rat):0<=iQ x/\x<=iQ x /\ -x<=iQ x/\(iQ x=x/\0<=x\/iQ x = -x/\x<=0):=by unfold iQ;split<;>grind
def xi{x b:Rat}(h1:x<=b)(h2:-x<=b):iQ x<=b:=by unfold iQ;split<;>grind
def PN(x y:Rat):iQ (x+y)<=iQ x+iQ y:=by
 obtain⟨a1,a2,a3,_⟩:=mG x;obtain⟨b1,b2,b3,_⟩:=mG y;exact xi aK aK 
def xY(x y:Rat):iQ (x*y)=iQ x*iQ y:=by
 obtain⟨_,_,_,a⟩:=mG x;obtain⟨_,_,_,b⟩:=mG y;obtain⟨c1,_,_,c⟩:=mG (x*y);rcases a with⟨e1,h1⟩|⟨e1,h1⟩<;>rcases b with⟨e2,h2⟩|⟨e2,h2⟩<;>rw[e1,e2]
 .have:=bQ h1 h2;grind
 .have:=bQ h1 (show 0 <= -y by grind);grind
 .have:=bQ (show 0 <= -x by grind) h2;grind
 .have:=bQ (show 0 <= -x by grind) (show 0 <= -y by grind);grind
def CN(f:Nat->Rat):∀ n,iQ (iG f n)<=iG (λi=>iQ (f i)) n
 | 0=>by simp[iG,iQ]
 |n+1=>by
  have h1:=CN f n;have h2:=PN (iG f n) (f n);rw[iG,iG];grind
def PO:iQ 0=0:=rfl
abbrev QM:=Nat->Nat->Rat
def qg(n:Nat)(A B:QM):QM:=λi j=>iG (λq=>A i q*B q j) n
def xM:QM:=λi j=>if i=j then 1 else 0
def TQ(n:Nat)(M:QM)(t:Rat):Nat->QM
 | 0=>xM
 |j+1=>λi l=>t/((j+1:Nat):Rat)*qg n (TQ n M t j) M i l
def SQ(n:Nat)(M:QM)(t:Rat):Nat->QM
 | 0=>xM
 |j+1=>λi l=>SQ n M t j i l+TQ n M t (j+1) i l
def Wr(j:Nat):(ji (j:Int)).jO ((j:Nat):Rat):=by have:=y4 (j:Int);rwa[dM]at this
section
variable {m:List (List Iv)} {h:Iv} {M:QM} {t:Rat} {n p:Nat}
def zI(n:Nat)(A:QM)(b:Rat):Prop:=∀ i,i<n->iG (λl=>iQ (A i l)) n<=b
def ajd{A B:QM}{a b:Rat}(_h0:0<=a)(hb:0<=b)(h1:zI n A a)(h2:zI n B b):zI n (qg n A B) (a*b):=by
 intro i hi;have e1:iG (λl=>iQ (qg n A B i l)) n<=iG (λl=>iG (λq=>iQ (A i q)*iQ (B q l)) n) n:=
  CC n λl _=>by
   have:=CN (λq=>A i q*B q l) n;rw[show(λq=>iQ (A i q*B q l))=λq=>iQ (A i q)*iQ (B q l)from funext λq=>xY _ _]at this;exact this
 rw[GA]at e1;have e2:iG (λq=>iG (λl=>iQ (A i q)*iQ (B q l)) n) n<=iG (λq=>iQ (A i q)*b) n:=
  CC n λq hq=>by
   rw[A6];exact cF (h2 q hq) (mG _).1
 rw[D6]at e2;exact bI e1 (bI e2 (cj (h1 i hi) hb))
def eQ(c:Rat):Nat->Rat
 | 0=>1
 |j+1=>eQ c j*(c/((j+1:Nat):Rat))
def AH(j:Nat):(0:Rat)<((j+1:Nat):Rat):=fT.2 aC 
def RC{a b:Rat}(h1:0<=a)(h2:0<b):0<=a/b:=by
 rw[cL];exact bQ h1 (bG (fp.2 h2))
def vq{c:Rat}(h:0<=c):∀ j,0<=eQ c j
 | 0=>by simp only[eQ];decide
 |j+1=>bQ (vq h j) (RC h (AH j))
def aki(n i:Nat):iG (λl=>iQ (xM i l)) n<=1/\(n<=i->iG (λl=>iQ (xM i l)) n=0):=by
 induction n with
 |zero=>exact⟨by simp only[iG];grind,λ_=>rfl⟩
 |succ n ih=>
  have e1:iQ 1=1:= aE ;simp only[iG,xM]at ih ⊢;by_cases h:i=n
  .have:=ih.2 aC ;rw[this,aZ h,e1];exact⟨aK,λh'=>absurd h' aC⟩
  .rw [aY h,PO,Rat.add_zero];exact⟨ih.1,λh'=>ih.2 aC⟩
def aja{A:QM}{b:Rat}(h:zI n A b){i l:Nat}(hi:i<n)(hl:l<n):iQ (A i l)<=b:=by
 have h1:=h i hi;have:∀ m,l<m->iQ (A i l)<=iG (λl=>iQ (A i l)) m:=by
  intro m hm
  induction m with
  |zero=>omega
  |succ m ih=>
   rw[iG];have h0:=CD m (f:=λl=>iQ (A i l)) λi _=>(mG _).1
   have h2:=(mG (A i m)).1;by_cases hq:l=m
   .subst hq;grind
   .have:=ih aC;grind
 exact bI (this n hl) h1
end
def Ki(g:Nat->Nat->Rat):∀ m,iG (λj=>iG (g j) (m-j)) m=iG (λs=>iG (λj=>g j (s-j)) (s+1)) m
 | 0=>rfl
 |m+1=>by
  have ih:=Ki g m;have e1:iG (λj=>iG (g j) (m+1-j)) m=iG (λj=>iG (g j) (m-j)+g j (m-j)) m:=
   pS m λj hj=>by rw[(aC:m+1-j=m-j+1)];rfl
  have h1:iG (g m) (m+1-m)=g m 0:=by
   rw[(aC:m+1-m=0+1)];simp only[iG];grind
  have h2:iG (λj=>g j (m-j)) (m+1)=iG (λj=>g j (m-j)) m+g m (m-m):=rfl;show iG (λj=>iG (g j) (m+1-j)) m+iG (g m) (m+1-m)=iG (λs=>iG (λj=>g j (s-j)) (s+1)) m+iG (λj=>g j (m-j)) (m+1);rw[e1,Gz,h1,h2,ih,cX]
  grind
def GB{f:Nat->Rat}(h:∀ i,0<=f i){m k:Nat}(hk:m<=k):iG f m<=iG f k:=by
 induction k with
 |zero=>
  have:m=0:= aC ;rw[this];exact b6
 |succ k ih=>
  by_cases hm:m=k+1
  .rw [hm];exact b6
  .have:=ih aC ;have:=h k;rw[iG];grind
def D7(f:Nat->Rat)(m:Nat):∀ d,iG f (m+d)=iG f m+iG (λi=>f (m+i)) d
 | 0=>by simp only[iG,bR];grind
 |d+1=>by
  show iG f (m+d)+f (m+d)=_;rw[D7 f m d,iG];grind
def Ih(c:Rat)(j:Nat):eQ c (j+1)*((j+1:Nat):Rat)=c*eQ c j:=by
 have h:c/((j+1:Nat):Rat)*((j+1:Nat):Rat)=c:=dA (by have:=AH j;grind);simp only[eQ];grind
def Ho(a b:Rat):∀ s,iG (λj=>eQ b j*eQ a (s-j)) (s+1)=eQ (a+b) s
 | 0=>by
  show 0+eQ b 0*eQ a 0=1;simp only[eQ];grind
 |s+1=>by
  have ih:=Ho a b s;have hp:=AH s;have key:iG (λj=>eQ b j*eQ a (s+1-j)) (s+2)*((s+1:Nat):Rat)=(a+b)*eQ (a+b) s:=by
   have e0:iG (λj=>eQ b j*eQ a (s+1-j)) (s+2)*((s+1:Nat):Rat)=iG (λj=>(j:Rat)*(eQ b j*eQ a (s+1-j))+eQ b j*(((s+1-j:Nat):Rat)*eQ a (s+1-j))) (s+2):=by
    rw[<-D6];refine pS _ λj hj=>?_
    have:((s+1:Nat):Rat)=(j:Rat)+((s+1-j:Nat):Rat):=by rw[<-dO];congr 1;omega
    rw[this];grind
   rw[e0,Gz];have e1:iG (λj=>(j:Rat)*(eQ b j*eQ a (s+1-j))) (s+2)=b*eQ (a+b) s:=by
    rw[Yi,<-ih,<-A6];have z:(((0:Nat):Rat))=0:=rfl;rw[z,Rat.zero_mul,Rat.zero_add];refine pS _ λj hj=>?_
    have h1:=Ih b j;rw[(aC:s+1-(j+1)=s-j)]
    grind
   have e2:iG (λj=>eQ b j*(((s+1-j:Nat):Rat)*eQ a (s+1-j))) (s+2)=a*eQ (a+b) s:=by
    rw[(aC:s+2=(s+1)+1),iG,cX,<-ih,<-A6];have z:(((0:Nat):Rat))=0:=rfl;rw[z,Rat.zero_mul,Rat.mul_zero,Rat.add_zero];refine pS _ λj hj=>?_
    have h1:=Ih a (s-j);rw[(aC:s+1-j=s-j+1)]
    grind
   rw[e1,e2];grind
  have h2:=Ih (a+b) s;have h3:iG (λj=>eQ b j*eQ a (s+1-j)) (s+2)*((s+1:Nat):Rat)=eQ (a+b) (s+1)*((s+1:Nat):Rat):=by rw[key,h2]
  exact fu (fi (by rw[h3];exact b6) hp) (fi (by rw[h3];exact b6) hp)
def EO(c:Rat):∀ j,iQ (eQ c j)=eQ (iQ c) j
 | 0=>by simp only[eQ];decide
 |j+1=>by
  simp only[eQ];rw[xY,EO c j];congr 1;rw[cL,cL,xY];congr 1;have:=fp.2 (AH j);unfold iQ;rw[aZ (bG this)]
def uW(v:Rat):Nat->Rat
 | 0=>1
 |j+1=>uW v j*v
def WI(v:Rat)(i:Nat):∀ j,uW v (i+j)=uW v i*uW v j
 | 0=>by simp only[uW,bR];grind
 |j+1=>by
  show uW v (i+j)*v=_;rw[WI v i j,uW];grind
def WJ{v:Rat}(h:0<=v):∀ j,0<=uW v j
 | 0=>by simp only[uW];decide
 |j+1=>bQ (WJ h j) h
def Lt(c v:Rat):∀ j,eQ (c*v) j=eQ c j*uW v j
 | 0=>by simp only[eQ,uW];grind
 |j+1=>by
  simp only[eQ,uW];rw[Lt c v j];simp only[cL];grind
def P4(q:Rat):∃ n:Nat,q<=(n:Rat):=by
 refine⟨q.ceil.toNat,?_⟩;have h1:q<=(q.ceil:Rat):=Rat.le_ceil;have h2:((q.ceil:Int):Rat)<=((q.ceil.toNat:Nat):Rat):=by
  rw[<-dM,fS];omega
 exact bI h1 h2
def Pc{z:Rat}{J:Nat}(hz:0<=z)(hJ:z*2<=(J:Rat)){m:Nat}(hm:J<=m):eQ z (m+1)*2<=eQ z m:=by
 have h0:=vq hz m;have h1:=Ih z m;have hp:=AH m;have L5:z*2<=((m+1:Nat):Rat):=bI hJ (du.2 aC);apply fi (c:=((m+1:Nat):Rat)) _ hp;have h2:=cF L5 h0
 grind
def Pd{z:Rat}{J:Nat}(hz:0<=z)(hJ:z*2<=(J:Rat)){m:Nat}(hm:J<=m):∀ d,iG (λi=>eQ z (m+i)) d+eQ z (m+d)*2<=eQ z m*2
 | 0=>by simp only[iG,bR];grind
 |d+1=>by
  have ih:=Pd hz hJ hm d;have h1:=Pc hz hJ (aC:J<=m+d);rw[iG,(aC:m+(d+1)=m+d+1)]
  grind
def Ym{z:Rat}{J:Nat}(hz:0<=z)(hJ:z*2<=(J:Rat)):∀ r:Nat,eQ z (J+r)*((2^r:Nat):Rat)<=eQ z J
 | 0=> aH 
 |r+1=>by
  have ih:=Ym hz hJ r;have h1:=Pc hz hJ (aC:J<=J+r);have hp:(0:Rat)<=((2^r:Nat):Rat):=cP;have h2:=cj h1 hp;rw[show(2^(r+1):Nat)=2^r*2 from bC _ _,c9,(aC:J+(r+1)=J+r+1)];have e:((2:Nat):Rat)=2:=rfl;rw[e];grind
def Yn{z ε:Rat}(hz:0<=z)(hε:0<ε):∃ m0,∀ m,m0<=m->∀ d,iG (λi=>eQ z (m+i)) d<=ε:=by
 obtain⟨J,hJ⟩:=P4 (z*2);obtain⟨r,hr⟩:=P4 (eQ z J*2/ε);refine⟨J+r,λm hm d=>?_⟩;obtain⟨t,rfl⟩:∃ t,m=J+t:=⟨m-J,aC⟩
 have h1:=Pd hz hJ (aC:J<=J+t) d;have h2:=Ym hz hJ t;have h3:=vq hz (J+t+d);have h4:=vq hz (J+t);have sB:(r:Rat)<=((2^t:Nat):Rat):=du.2 (dt (ck (aC:r<=t) Nat.lt_two_pow_self));have h5:eQ z J*2<=ε*((2^t:Nat):Rat):=by
  have h6:eQ z J*2/ε*ε=eQ z J*2:=dA aK;have h7:=cj (bI hr sB) (bG hε)
  grind
 have hp:(0:Rat)<((2^t:Nat):Rat):=fT.2 (bn aE);have h8:eQ z (J+t)*2<=ε:=by
  apply fi (c:=((2^t:Nat):Rat)) _ hp
  grind
 grind
def MP(n:Nat)(M:QM):Nat->QM
 | 0=>xM
 |j+1=>qg n (MP n M j) M
section
variable {n:Nat} {M:QM}
def KN(t:Rat):∀ j i l,TQ n M t j i l=eQ t j*MP n M j i l
 | 0,i,l=>by simp only[TQ,eQ,MP];grind
 |j+1,i,l=>by
  show t/((j+1:Nat):Rat)*iG (λq=>TQ n M t j i q*M q l) n=eQ t j*(t/((j+1:Nat):Rat))*iG (λq=>MP n M j i q*M q l) n;rw[pS n λq _=>show TQ n M t j i q*M q l=eQ t j*(MP n M j i q*M q l)by rw[KN t j i q];grind,A6]
  grind
def Ej(t:Rat)(i l:Nat):∀ N,SQ n M t N i l=iG (λj=>eQ t j*MP n M j i l) (N+1)
 | 0=>by simp only[SQ,iG,eQ,MP];grind
 |N+1=>by
  show SQ n M t N i l+TQ n M t (N+1) i l=_;rw[Ej t i l N,KN];rfl
def ag5(A:QM)(i:Nat){l:Nat}(hl:l<n):qg n A xM i l=A i l:=by
 have:∀ m,iG (λq=>A i q*xM q l) m=if l<m then A i l else 0:=by
  intro m
  induction m with
  |zero=>simp[iG]
  |succ m ih=>
   rw[iG,ih];unfold xM;by_cases h1:l<m
   .rw [aZ h1,aY (aC:¬m=l),aZ (aC:l<m+1)];grind
   .by_cases h2:m=l
    .subst h2;rw[aY h1,aZ rfl,aZ (aC:m<m+1)];grind
    .rw [aY h1,aY h2,aY (aC:¬l<m+1)];grind
 unfold qg;rw[this,aZ hl]
def ag4(A B C:QM)(i l:Nat):qg n A (qg n B C) i l=qg n (qg n A B) C i l:=by
 unfold qg;have e1:∀ q,A i q*iG (λr=>B q r*C r l) n=iG (λr=>A i q*(B q r*C r l)) n:=λq=>(A6 _ _ n).symm
 have e2:∀ r,iG (λq=>A i q*B q r) n*C r l=iG (λq=>A i q*B q r*C r l) n:=λr=>(D6 _ _ n).symm
 rw[pS n λq _=>e1 q,pS (f:=λq=>iG (λq_1=>A i q_1*B q_1 q) n*C q l) n λr _=>e2 r,GA];exact pS n λr _=>pS n λq _=> aK 
def PB(j:Nat):∀ k i l,l<n->qg n (MP n M j) (MP n M k) i l=MP n M (j+k) i l
 | 0,i,l,hl=>ag5 _ i hl
 |k+1,i,l,hl=>by
  show qg n (MP n M j) (qg n (MP n M k) M) i l=qg n (MP n M (j+k)) M i l;rw[ag4];exact pS n λq hq=>by rw[PB j k i q hq]
def PD{v:Rat}(hv:0<=v)(h:zI n M v):∀ j,zI n (MP n M j) (uW v j)
 | 0=>λi _=>(aki n i).1
 |j+1=>ajd (WJ hv j) hv (PD hv h j) h
def ajb(n:Nat)(M:QM):∃ v,0<=v/\zI n M v:=by
 refine⟨iG (λi=>iG (λl=>iQ (M i l)) n) n,CD n λi _=>CD n λl _=>(mG _).1,λi hi=>?_⟩;have:∀ m,i<m->iG (λl=>iQ (M i l)) n<=iG (λi=>iG (λl=>iQ (M i l)) n) m:=by
  intro m hm
  induction m with
  |zero=>omega
  |succ m ih=>
   rw[iG];have h0:0<=iG (λl=>iQ (M m l)) n:=CD n λl _=>(mG _).1
   have h1:0<=iG (λi=>iG (λl=>iQ (M i l)) n) m:=CD m λi _=>CD n λl _=>(mG _).1
   by_cases hq:i=m
   .subst hq;grind
   .have:=ih aC;grind
 exact this n hi
def ah6(a b:Rat)(N:Nat)(i:Nat){l:Nat}(hl:l<n):qg n (SQ n M b N) (SQ n M a N) i l=iG (λj=>iG (λk=>eQ b j*eQ a k*MP n M (j+k) i l) (N+1)) (N+1):=by
 unfold qg;have e1:∀ q,SQ n M b N i q*SQ n M a N q l=iG (λj=>iG (λk=>eQ b j*eQ a k*(MP n M j i q*MP n M k q l)) (N+1)) (N+1):=by
  intro q;rw[Ej,Ej,<-D6];refine pS _ λj _=>?_
  rw[<-A6];exact pS _ λk _=> aK 
 rw[pS n λq _=>e1 q,GA];refine pS _ λj _=>?_
 rw[GA];refine pS _ λk _=>?_
 rw[<-PB j k i l hl,A6];rfl
def akU(a b:Rat)(N:Nat)(i l:Nat):iG (λj=>iG (λk=>eQ b j*eQ a k*MP n M (j+k) i l) (N+1-j)) (N+1)=SQ n M (a+b) N i l:=by
 rw[Ki (λj k=>eQ b j*eQ a k*MP n M (j+k) i l),Ej];refine pS _ λs _=>?_
 rw[<-Ho,<-D6];exact pS _ λj hj=>by rw[(aC:j+(s-j)=s)]
def Yb(g:Nat->Nat->Rat)(m:Nat):iG (λj=>iG (g j) m) m=iG (λj=>iG (g j) (m-j)) m+iG (λj=>iG (λk=>g j (m-j+k)) j) m:=by
 rw[<-Gz];refine pS _ λj hj=>?_
 rw[<-D7,(aC:m-j+j=m)]
def aeC{v:Rat}(hv:0<=v)(h:zI n M v)(a b:Rat)(N:Nat){i l:Nat}(hi:i<n)(hl:l<n):
 iQ (qg n (SQ n M b N) (SQ n M a N) i l-SQ n M (a+b) N i l)<=iG (λs=>eQ (iQ a*v+iQ b*v) (N+1+s)) (N+1):=by
 have hx:0<=iQ a*v:=bQ (mG a).1 hv;have hy:0<=iQ b*v:=bQ (mG b).1 hv;have e1:qg n (SQ n M b N) (SQ n M a N) i l=SQ n M (a+b) N i l+iG (λj=>iG (λk=>eQ b j*eQ a (N+1-j+k)*MP n M (j+(N+1-j+k)) i l) j) (N+1):=by
  have:=Yb (λj k=>eQ b j*eQ a k*MP n M (j+k) i l) (N+1);rw[akU,<-ah6 a b N i hl]at this;exact this
 have e2:qg n (SQ n M b N) (SQ n M a N) i l-SQ n M (a+b) N i l=iG (λj=>iG (λk=>eQ b j*eQ a (N+1-j+k)*MP n M (j+(N+1-j+k)) i l) j) (N+1):= aK ;rw[e2];have e3:iQ (iG (λj=>iG (λk=>eQ b j*eQ a (N+1-j+k)*MP n M (j+(N+1-j+k)) i l) j) (N+1))<=iG (λj=>iG (λk=>eQ (iQ b*v) j*eQ (iQ a*v) (N+1-j+k)) j) (N+1):=by
  refine bI (CN _ _) (CC _ λj _=>bI (CN _ _) (CC _ λk _=>?_));rw[xY,xY,EO,EO,Lt,Lt];have hr:=aja (PD hv h (j+(N+1-j+k))) hi hl;rw[WI]at hr;have h1:=vq (mG b).1 j;have h2:=vq (mG a).1 (N+1-j+k);have h3:=cF hr (bQ h1 h2)
  grind
 refine bI e3 ?_;have q1:iG (λj=>iG (λk=>eQ (iQ b*v) j*eQ (iQ a*v) k) (N+1)) (N+1)=iG (λj=>iG (λk=>eQ (iQ b*v) j*eQ (iQ a*v) k) (N+1-j)) (N+1)+iG (λj=>iG (λk=>eQ (iQ b*v) j*eQ (iQ a*v) (N+1-j+k)) j) (N+1):=
  Yb (λj k=>eQ (iQ b*v) j*eQ (iQ a*v) k) (N+1)
 have q2:iG (λj=>iG (λk=>eQ (iQ b*v) j*eQ (iQ a*v) k) (N+1-j)) (N+1)=iG (λs=>eQ (iQ a*v+iQ b*v) s) (N+1):=by
  rw[Ki (λj k=>eQ (iQ b*v) j*eQ (iQ a*v) k)];exact pS _ λs _=>Ho _ _ s
 have G0:∀ j k,0<=eQ (iQ b*v) j*eQ (iQ a*v) k:=λj k=>bQ (vq hy j) (vq hx k)
 have q3:iG (λj=>iG (λk=>eQ (iQ b*v) j*eQ (iQ a*v) k) (N+1)) (N+1)<=iG (λs=>eQ (iQ a*v+iQ b*v) s) (N+1+(N+1)):=by
  rw[<-pS (f:=λs=>iG (λj=>eQ (iQ b*v) j*eQ (iQ a*v) (s-j)) (s+1)) _ λs _=>Ho _ _ s,<-Ki (λj k=>eQ (iQ b*v) j*eQ (iQ a*v) k)];refine bI (CC _ λj hj=>GB (λk=>G0 j k) (aC:N+1<=N+1+(N+1)-j)) ?_;exact GB (λj=>CD _ λk _=>G0 j k) aC 
 rw[D7 (λs=>eQ (iQ a*v+iQ b*v) s) (N+1) (N+1),q1,q2]at q3;have cancel:∀ A B C:Rat,A+B<=A+C->B<=C:=by intro A B C h;grind
 exact cancel _ _ _ q3
def aeD(n:Nat)(M:QM)(a b:Rat){ε:Rat}(hε:0<ε):∃ N0,∀ N,N0<=N->∀ i l,i<n->l<n->iQ (qg n (SQ n M b N) (SQ n M a N) i l-SQ n M (a+b) N i l)<=ε:=by
 obtain⟨v,hv,h⟩:=ajb n M;have hz:0<=iQ a*v+iQ b*v:=by
  have hx:0<=iQ a*v:=bQ (mG a).1 hv;have hy:0<=iQ b*v:=bQ (mG b).1 hv
  grind
 obtain⟨m0,h0⟩:=Yn hz hε;exact⟨m0,λN hN i l hi hl=>bI (aeC hv h a b N hi hl) (h0 (N+1) aC (N+1))⟩
def Zg(N:Nat)(i l:Nat):SQ n M 0 N i l=xM i l:=by
 induction N with
 |zero=>rfl
 |succ N ih=>
  show SQ n M 0 N i l+TQ n M 0 (N+1) i l=_;rw[ih,KN];simp only[eQ,cL];grind
end
def pk(f:Nat->Rat)(X:Iv):Prop:=∀ ε,0<ε->∃ N0,∀ N,N0<=N->∃ r,X.jO r/\iQ (f N-r)<=ε
def pk.N5{f:Nat->Rat}{X:Iv}{k:Nat}(h:∀ N,k<=N->X.jO (f N)):pk f X:=λε hε=>
 ⟨k,λN hN=>⟨f N,h N hN,by rw[Rat.sub_self,PO];exact bG hε⟩⟩
def pk.all{f:Nat->Rat}{X:Iv}(h:X.all=true):pk f X:=pk.N5 (k:=0) λ_ _=>.inl h
def pk.shift{f g:Nat->Rat}{X:Iv}(h:pk f X)(k:∀ ε,0<ε->∃ N0,∀ N,N0<=N->iQ (g N-f N)<=ε):pk g X:=λε hε=>by
 obtain⟨N1,h1⟩:=h (ε/2) aK;obtain⟨N2,h2⟩:=k (ε/2) aK;refine⟨max N1 N2,λN hN=>?_⟩;obtain⟨r,hr,hd⟩:=h1 N aC;have hg:=h2 N aC;refine⟨r,hr,?_⟩;have:=PN (g N-f N) (f N-r);rw[show g N-f N+(f N-r)=g N-r by grind]at this
 grind
def EQ(c:Rat)(N:Nat):Rat:=iG (eQ c) (N+1)
def ahG(j:Nat):MP 1 (λ_ _=>1) j 0 0=1:=by
 induction j with
 |zero=>rfl
 |succ j ih=>
  show iG (λq=>MP 1 (λ_ _=>1) j 0 q*1) 1=1;simp only[iG];rw[ih];grind
def GY(c:Rat)(N:Nat):SQ 1 (λ_ _=>1) c N 0 0=EQ c N:=by
 rw[Ej];exact pS _ λj _=>by rw[ahG];grind
def KF(a b:Rat){ε:Rat}(hε:0<ε):∃ N0,∀ N,N0<=N->iQ (EQ (a+b) N-EQ a N*EQ b N)<=ε:=by
 obtain⟨N0,h0⟩:=aeD 1 (λ_ _=>1) a b hε;refine⟨N0,λN hN=>?_⟩;have:=h0 N hN 0 0 aE aE;rw[show qg 1 (SQ 1 (λ_ _=>1) b N) (SQ 1 (λ_ _=>1) a N) 0 0=EQ a N*EQ b N by
  show iG (λq=>SQ 1 (λ_ _=>1) b N 0 q*SQ 1 (λ_ _=>1) a N q 0) 1=_;simp only[iG];rw[GY,GY];grind,GY]at this
 obtain⟨_,a2,a3,_⟩:=mG (EQ a N*EQ b N-EQ (a+b) N);exact xi aK aK 
def Y6(N:Nat):EQ 0 N=1:=by
 rw[<-GY,Zg];rfl
def P9{x:Iv}{r s:Rat}(hx:x.gX)(h:x.jO r)(hs:iQ s<=iQ r):(qK x).jO s:=by
 unfold qK;cases xa:x.all
 .obtain ⟨h1,h2⟩:=h.jW xa;obtain⟨m1,m2,_⟩:=Ch hx.q;obtain⟨_,a2,a3,a4⟩:=mG r;obtain⟨_,b2,b3,_⟩:=mG s;have hr:iQ r<=(kt x).q:= aK ;refine .inr ⟨?_,?_⟩
  .show (jl (kt x)).q<=s;rw[qD];grind
  .show s<=(kt x).q
   grind
 .rw [aZ rfl];exact .inl xa
def Eh{a b:Int}(h:a<=b):P2 a<=P2 b:=by
 rw[Ei h];have h1:(1:Rat)<=((2^(b-a).toNat:Nat):Rat):=by
  have:=du.2 (Nat.one_le_two_pow (n:=(b-a).toNat));exact this
 have:=cj h1 (bG (mW a))
 grind
def Kn{i:Nat}(h:i<2):i=0\/i=1:= aC 
def KJ(d:Rat)(f g:Nat->Rat):Prop:=∃ N0,∀ N,N0<=N->iQ (f N-g N)<=d
def KJ.neg{d:Rat}{f g:Nat->Rat}(h:KJ d f g):KJ d (λN=>-f N) (λN=>-g N):=by
 obtain⟨N1,h1⟩:=h;refine⟨N1,λN hN=>?_⟩;obtain⟨_,a2,a3,_⟩:=mG (f N-g N);have:=h1 N hN;exact xi aK aK 
def Y7:Dy:=⟨false,1014047155841371404857783918912611814895143950022408150448898879701903863171748812343190420115852101928445847465915947005,-398⟩
def Y8:Dy:=⟨false,2028094311682742809715567837825223629790287900044816300897797759403807726343497624686380840231704203856891694931831894109,-399⟩
def HF:Iv:=⟨Y7,Y8,false⟩
def after{N:Nat}(h:100<=N):∃ d,N=100+d:=⟨N-100,aC⟩
def zq(k:Int):Rat×Rat:=if k%4=0 then(1,0)else if k%4=1 then(0,1)else if k%4=2 then(-1,0)else(0,-1)
def kV(r:Iv)(p:Nat):Nat->Iv
 | 0=>ji 1
 |j+1=>jh (iy (kV r p j) r p) (ji ((j+1:Nat):Int)) p
def OX(r:Iv)(p j:Nat):Iv:=if 2<=j%4 then pz (kV r p j)else kV r p j
def J8(r:Iv)(p:Nat):Nat->Iv
 | 0=>ji 0
 |j+1=>if(j+1)%2=1 then jC (J8 r p j) (OX r p (j+1)) p else J8 r p j
def qB(n:Int):(pI n).q=P2 n:=by unfold pI;rw[qC];simp
def wa{r:Iv}{p:Nat}(_hr:r.gX)(ib:8<=p)(gW:p<=512):∀ j,(kV r p j).gX
 | 0=>Co 1 aE 
 |j+1=>pX _ _ aC aC 
def ajw{r:Iv}{p:Nat}(hr:r.gX)(ib:8<=p)(gW:p<=512)(j:Nat):(OX r p j).gX:=by
 unfold OX;split
 .exact Cl (wa hr ib gW j)
 .exact wa hr ib gW j
def XK{r:Iv}{p:Nat}(hr:r.gX)(ib:8<=p)(gW:p<=512):∀ j,(J8 r p j).gX
 | 0=>Co 0 aE 
 |j+1=>by
  unfold J8;split
  .exact qJ (XK hr ib gW j) (ajw hr ib gW _) aC aC 
  .exact XK hr ib gW j
def OZ{r:Iv}{p:Nat}(hr:r.gX)(ib:8<=p)(gW:p<=512){ρ:Rat}(h:r.jO ρ):∀ j,j<4294967296->(kV r p j).jO (eQ ρ j)
 | 0,_=>y4 1
 |j+1,hj=>by
  have e:eQ ρ (j+1)=eQ ρ j*ρ/((j+1:Nat):Rat):=by simp only[eQ,cL];grind
  rw[e];exact Ia (nY _ _ aC aC) (NV (j+1) hj) aC aC (NC (wa hr ib gW j) hr aC aC (OZ hr ib gW h j aC) h) (Wr (j+1))
def XO{r:Iv}{p:Nat}:∀ {j d:Nat},(kV r p (j+d)).all=false->(kV r p j).all=false
 |_,0,h=>h
 |j,d+1,h=>by
  apply XO (d:=d);cases ha:(kV r p (j+d)).all
  .rfl
  .exfalso;have:kV r p (j+(d+1))=gT:=by
    show jh (iy (kV r p (j+d)) r p) _ p=_;rw[Jx p (.inl ha),EL p (.inl rfl)]
   rw[this]at h;cases h
def po(n:Int):Iv:=⟨jl (pI n),pI n,false⟩
def CX{n:Int}{r:Rat}:(po n).jO r ↔ -P2 n<=r/\r<=P2 n:=by
 unfold Iv.jO po;simp only[bB,false_or];rw[qD,qB]
def zG{p:Nat}(hp:1<=p){n:Int}(h1:-1000<=n)(h2:n<=1000):G p (P2 n):=.inl ⟨1,n,by rw[xm];exact hp,aC,by rw[xm];omega,aH⟩
def Et{p:Nat}{S:Rat->Prop}{X:Iv}(h:Ef p S X)(hp:1<=p){n:Int}(h1:-1000<=n)(h2:n<=1000)(hs:∀ r,S r -> -P2 n<=r/\r<=P2 n):Sub X (po n):=by
 obtain⟨a,b,c⟩:=h.xH _ _ (zG hp h1 h2).neg (zG hp h1 h2) hs;refine .inr ⟨a,?_,?_⟩
 .show (jl (pI n)).q<=_;rw[qD,qB];exact b
 .show _<=(pI n).q;rw[qB];exact c
def PQ{a b u v:Rat}(h1:-u<=a)(h2:a<=u)(h3:-v<=b)(h4:b<=v):-(u*v)<=a*b/\a*b<=u*v:=by
 have ha:iQ a<=u:=xi h2 aK;have hb:iQ b<=v:=xi h4 aK;have hm:=xY a b;have h0:=(mG b).1;have hu:0<=u:=bI (mG a).1 ha;have m1:=cj ha h0;have m2:=cF hb hu;obtain⟨_,c2,c3,_⟩:=mG (a*b);constructor<;>grind
def Tx(j:Nat):P2 (-(j:Int))*P2 (-1)=P2 (-((j+1:Nat):Int)):=by
 rw[<-pV];congr 1;omega
def acz{a u:Rat}{n:Nat}(h1:-u<=a)(h2:a<=u):-u<=a/((n+1:Nat):Rat)/\a/((n+1:Nat):Rat)<=u:=by
 have hp:=AH n;have S3:(1:Rat)<=((n+1:Nat):Rat):=by
  have:=du (a:=1) (b:=n+1);exact this.2 aC 
 have e:=dA (a:=a) (b:=((n+1:Nat):Rat)) aK;have hu:0<=u:= aK ;generalize a/((n+1:Nat):Rat)=x at *
 generalize ((n+1:Nat):Rat)=c at *
 constructor
 .apply dk.1;intro im;have m:=dv im hp;have m2:=cF S3 hu
  grind
 .apply dk.1;intro im;have m:=dv im hp;have m2:=cF S3 hu
  grind
def XQ{y:Iv}(hy:y.gX)(h:Sub y (po (-1))){p:Nat}(ib:8<=p)(gW:p<=512):∀ j,j<=900->Sub (kV y p j) (po (-(j:Int)))
 | 0,_=>by
  have e:(ji 1).lo.q=1/\(ji 1).hi.q=1/\(ji 1).all=false:=Wq 1;refine .inr ⟨e.2.2,?_,?_⟩
  .show (jl (pI _)).q<=_;rw[qD,qB,show(kV y p 0).lo.q=1 from e.1];decide +kernel
  .show _<=(pI _).q;rw[qB,show(kV y p 0).hi.q=1 from e.2.1];decide +kernel
 |j+1,hj=>by
  have ih:=XQ hy h ib gW j aC;have vT:=wa hy ib gW j;obtain⟨ta,_⟩:=ih.wR rfl;obtain⟨ya,_⟩:=h.wR rfl;have B:=NB vT hy ta ya (aC:1<=p) aC;have s1:Sub (iy (kV y p j) y p) (po (-((j+1:Nat):Int))):=Et B aC aC aC (by
   rintro r ⟨a,b,ha,hb,rfl⟩;obtain⟨a1,a2⟩:=CX.1 (ih.jO ha);obtain⟨b1,b2⟩:=CX.1 (h.jO hb);rw[<-Tx];exact PQ a1 a2 b1 b2)
  have vm:(iy (kV y p j) y p).gX:=nY _ _ aC aC;obtain⟨ma,_⟩:=s1.wR rfl;have vn:=NV (j+1) aC;have hs:nh (ji ((j+1:Nat):Int))≠0:=by rw[ahB aC];decide
  exact Et (H9 vm vn ma hs (aC:1<=p) aC) aC aC aC (by
   rintro r ⟨a,b,ha,hb,rfl⟩;obtain⟨a1,a2⟩:=CX.1 (s1.jO ha);obtain⟨b1,b2⟩:=hb.jW rfl;have e:=Wq (j+1);rw[e.1]at b1;rw[e.2.1]at b2;rw[show b=((j+1:Nat):Rat)from fu b2 b1];exact acz a1 a2)
def oH(x:Iv)(p:Nat):Bool:=x.all||(decide ((kt x).m=0)||decide ((kt x).ig <= -(p:Int)))
def Yv{d:Dy}(hm:d.m≠0){n:Int}(h:iQ d.q<=P2 n):d.ig<=n+1:=by
 apply bM;intro im;have hT:d.ig=(gZ d.m:Int)+d.e:=by unfold Dy.ig;rw[aY hm]
 have hb:0<gZ d.m:=vQ.2 (by rw[cw];omega);have h1:2^(gZ d.m-1)<=d.m:=vQ.1 aC;have h2:((2^(gZ d.m-1):Nat):Rat)<=(d.m:Rat):=du.2 h1;have h3:=cj h2 (bG (mW d.e));rw[<-we,<-pV,show((gZ d.m-1:Nat):Int)+d.e=d.ig-1 by rw[hT];omega]at h3;have h4:iQ d.q=(d.m:Rat)*P2 d.e:=by
  have h0:0<=(d.m:Rat)*P2 d.e:=bQ cP (bG (mW _));rw[pQ];unfold iQ;cases d.neg
  .simp only[bB,bj];rw[aZ h0]
  .simp only[bw];split<;>grind
 have h5:=Eh (aC:n+1<=d.ig-1);have h6:P2 (n+1)=P2 n*2:=by rw[pV];congr 1
 have:=mW n
 grind
def Ys{x:Iv}(hx:x.gX){p:Nat}(h:Sub x (po (-((p+1:Nat):Int)))):oH x p=true:=by
 unfold oH;cases ha:x.all
 .by_cases hm:(kt x).m=0
  .rw [a6 hm];rfl
  .obtain ⟨_,k1,k2⟩:=h.wR rfl;obtain⟨m1,m2,m3⟩:=Ch hx.q;replace k1:(jl (pI (-((p+1:Nat):Int)))).q<=x.lo.q:=k1;replace k2:x.hi.q<=(pI (-((p+1:Nat):Int))).q:=k2;rw[qD,qB]at k1;rw[qB]at k2;have hq:=hx.q;have qb:=mW (-((p+1:Nat):Int));generalize hu:P2 (-((p+1:Nat):Int))=u at *
   have hle:iQ (kt x).q<=u:=xi (by rcases m3 with m3|m3<;>grind) (by rcases m3 with m3|m3<;>grind);have:=Yv hm (hu▸hle);rw[a6 (show(kt x).ig <= -(p:Int)by omega)];simp
 .rfl
def XP{y:Iv}(h:y.all=true)(p:Nat):kV y p 1=gT:=by
 show jh (iy (ji 1) y p) _ p=_;rw[Jx p (.inr h),EL p (.inl rfl)]
def adt{y:Iv}(hy:y.gX)(h:y.all=true\/Sub y (po (-1))){p:Nat}(ib:8<=p)(gW:p<=512):∃ N,1<=N/\N<=1000/\(∀ x,1<=x->x<N->oH (kV y p x) p=false)/\oH (kV y p N) p=true:=by
 have ex:∃ x,x<900/\decide (1<=x/\oH (kV y p x) p=true)=true:=by
  rcases h with h|h
  .exact ⟨1,aC,a6 ⟨aC,by rw[XP h];rfl⟩⟩
  .exact ⟨p+1,aC,a6 ⟨aC,Ys (wa hy ib gW _) (XQ hy h ib gW (p+1) aC)⟩⟩
 obtain⟨N,n1,n2,n3⟩:=sG (p:=λx=>decide (1<=x/\oH (kV y p x) p=true)) ex;have n2':=cJ n2;refine⟨N,n2'.1,aC,λx h1 h2=>?_,n2'.2⟩;have:=fU (n3 x h2);cases hc:oH (kV y p x) p
 .rfl
 .exact absurd ⟨h1,hc⟩ this
def tH(y:Iv)(p:Nat):Nat->Iv
 | 0=>ji 1
 |j+1=>jC (tH y p j) (kV y p (j+1)) p
def yo(y:Iv)(p N:Nat):Iv:=jC (tH y p N) (qK (kV y p N)) p
def C6{y:Iv}(hy:y.gX){p:Nat}(ib:8<=p)(gW:p<=512):∀ j,(tH y p j).gX
 | 0=>Co 1 aE 
 |j+1=>qJ (C6 hy ib gW j) (wa hy ib gW _) aC aC 
def ads{y:Iv}(hy:y.gX){p:Nat}(ib:8<=p)(gW:p<=512)(N:Nat):(yo y p N).gX:=qJ (C6 hy ib gW N) (CS (wa hy ib gW N)) aC aC 
def lE(x:Iv)(p:Nat):Iv:=if x.all then gT else lr (jV x.lo p false) (jL x.lo p false) (jV x.hi p true) (jL x.hi p true)
def uh(a b:Iv):Iv:=if a.all||b.all then gT else⟨a.lo,b.hi,false⟩
def D0{x:Iv}(hx:x.gX){p:Nat}(hp:1<=p)(gW:p<=4096):(lE x p).gX:=by
 unfold lE;cases xa:x.all
 .obtain ⟨c1,c2⟩:=hx.yg;simp only[bB,bj];unfold lr;split
  .exact lG
  .rename_i he;have A:=wY c1 hp gW;have B:=wZ c2 hp gW;refine .inr ⟨rfl,vY _ hp gW _,vY _ hp gW _,?_⟩;rw[oO];exact bI (A.1 aC).2 (bI hx.q (B.1 aC).2)
 .exact lG
def Gq{x:Iv}(hx:x.gX){p:Nat}(hp:1<=p)(gW:p<=4096){r:Rat}(h:x.jO r):(lE x p).jO r:=by
 unfold lE;cases xa:x.all
 .obtain ⟨c1,c2⟩:=hx.yg;obtain⟨h1,h2⟩:=h.jW xa;simp only[bB,bj];unfold lr;split
  .exact .inl rfl
  .rename_i he;have A:=wY c1 hp gW;have B:=wZ c2 hp gW;exact .inr ⟨bI (A.1 aC).2 h1,bI h2 (B.1 aC).2⟩
 .exact .inl rfl
def ai8{x:Iv}(hx:x.gX){p:Nat}(hp:1<=p)(gW:p<=4096){n:Int}(h1:-1000<=n)(h2:n<=1000)(h:Sub x (po n)):Sub (lE x p) (po n):=by
 obtain⟨xa,k1,k2⟩:=h.wR rfl;replace k1:(jl (pI n)).q<=x.lo.q:=k1;replace k2:x.hi.q<=(pI n).q:=k2;rw[qD,qB]at k1;rw[qB]at k2;obtain⟨c1,c2⟩:=hx.yg;have A:=(wY c1 hp gW).2 _ (zG hp h1 h2).neg k1;have B:=(wZ c2 hp gW).2 _ (zG hp h1 h2) k2;unfold lE lr;rw[xa];simp only[bB,bj];rw[aY aC];refine .inr ⟨rfl,?_,?_⟩
 .show (jl (pI n)).q<=_;rw[qD,qB];exact A.2
 .show _<=(pI n).q;rw[qB];exact B.2
def agt{f g:Nat->Rat}{A B:Iv}(hA:pk f A)(hB:pk g B)(h:∀ ε,0<ε->∃ N0,∀ N,N0<=N->f N<=g N+ε)(aa:A.all=false)(ba:B.all=false):A.lo.q<=B.hi.q:=by
 apply dk.1;intro im;obtain⟨ε,hε⟩:∃ ε,ε=(A.lo.q-B.hi.q)/4:=⟨_,rfl⟩
 have h0:0<ε:=by rw[hε];grind
 obtain⟨N1,h1⟩:=hA ε h0;obtain⟨N2,h2⟩:=hB ε h0;obtain⟨N3,h3⟩:=h ε h0;obtain⟨r,hr,hd⟩:=h1 (max N1 (max N2 N3)) aC;obtain⟨s,hs,he⟩:=h2 (max N1 (max N2 N3)) aC;have h4:=h3 (max N1 (max N2 N3)) aC;obtain⟨r1,r2⟩:=hr.jW aa;obtain⟨s1,s2⟩:=hs.jW ba;obtain⟨_,a2,a3,_⟩:=mG (f (max N1 (max N2 N3))-r);obtain⟨_,b2,b3,_⟩:=mG (g (max N1 (max N2 N3))-s)
 grind
def Y5{c:Rat}(h:0<=c)(N:Nat):1<=EQ c N:=by
 have:=GB (f:=eQ c) (λi=>vq h i) (aC:1<=N+1);have e:iG (eQ c) 1=1:=by show 0+1=1;grind
 unfold EQ;rw[e]at this;exact this
def Y4(c:Rat){ε:Rat}(hε:0<ε):∃ N0,∀ N,N0<=N -> -ε<=EQ c N:=by
 obtain⟨N0,h0⟩:=KF (c/2) (c/2) hε;rw[show c/2+c/2=c by grind]at h0;refine⟨N0,λN hN=>?_⟩;have h:=h0 N hN;have hs:0<=EQ (c/2) N*EQ (c/2) N:=by
  by_cases k:0<=EQ (c/2) N
  .exact bQ k k
  .have:=bQ (show 0 <= -EQ (c/2) N by grind) (show 0 <= -EQ (c/2) N by grind)
   grind
 obtain⟨_,a2,a3,_⟩:=mG (EQ c N-EQ (c/2) N*EQ (c/2) N)
 grind
def Y1{c:Rat}(h:0<=c):∃ M:Rat,0<M/\∀ N,EQ c N<=M:=by
 obtain⟨m0,h0⟩:=Yn h (show(0:Rat)<1 by decide);have hs:0<=iG (eQ c) m0:=by
  have:=GB (f:=eQ c) (λi=>vq h i) (bV m0);exact this
 refine⟨iG (eQ c) m0+1,aK,λN=>?_⟩;unfold EQ;by_cases hN:m0<=N+1
 .obtain ⟨d,hd⟩:∃ d,N+1=m0+d:=⟨N+1-m0,aC⟩
  rw[hd,D7];have:=h0 m0 (bc _) d
  grind
 .have:=GB (f:=eQ c) (λi=>vq h i) (aC:N+1<=m0)
  grind
def Y3{a b:Rat}(h:a<=b){ε:Rat}(hε:0<ε):∃ N0,∀ N,N0<=N->EQ a N<=EQ b N+ε:=by
 have hd:0<=b-a:= aK ;obtain⟨N1,h1⟩:=KF a (b-a) (show 0<ε/2 by grind);rw[show a+(b-a)=b by grind]at h1;obtain⟨M,sZ,hM⟩:∃ M:Rat,0<M/\∀ N,EQ (b-a) N<=M:=Y1 hd;obtain⟨N2,h2⟩:=Y4 a (show 0<ε/(2*M)by rw[cL];exact dN hε (fp.2 aK));refine⟨max N1 N2,λN hN=>?_⟩;have k1:=h1 N aC;have k2:=h2 N aC;have e:ε/(2*M)*M=ε/2:=by
  have:=dA (a:=ε) (b:=2*M) aK 
  grind
 have k3:=Y5 hd N;have k4:=hM N;obtain⟨_,a2,a3,_⟩:=mG (EQ b N-EQ a N*EQ (b-a) N);generalize EQ a N=x at *
 generalize EQ (b-a) N=y at *
 generalize EQ b N=z at *
 generalize ε/(2*M)=δ at *
 have m1:=bQ (show 0<=x+δ by grind) (show 0<=y-1 by grind);have hδ:0<=δ:=by
  apply dk.1;intro im;have:=dv im sZ
  grind
 have m2:=cF (show y-1<=M by grind) hδ
 grind
def Sc{y:Iv}{r:Rat}(hy:y.gX)(h:y.jO r){p:Nat}(ib:8<=p)(gW:p<=512):∀ j,j<4294967296->(tH y p j).jO (EQ r j)
 | 0,_=>by
  have:EQ r 0=1:=by unfold EQ;simp only[iG,eQ];grind
  rw[this];exact y4 1
 |j+1,hj=>Bd (C6 hy ib gW j) (wa hy ib gW (j+1)) aC aC (Sc hy h ib gW j aC) (OZ hy ib gW h (j+1) hj)
def adp{y:Iv}(h:y.all=true){p N:Nat}(hN:1<=N):(yo y p N).all=true:=by
 have ht:(kV y p N).all=true:=by
  cases hc:(kV y p N).all
  .obtain ⟨d,rfl⟩:∃ d,N=1+d:=⟨N-1,aC⟩
   have:=XO hc;rw[XP h]at this;cases this
  .rfl
 unfold yo;rw[G9 p (.inr (by unfold qK;rw[ht];simpa using ht))];rfl
def adq{y:Iv}{r:Rat}(hy:y.gX)(h:y.jO r)(hr:iQ r*2<=1){p:Nat}(ib:8<=p)(gW:p<=512){N:Nat}(hN:1<=N)(sr:N<=1000)(M:Nat)(hM:N<=M):(yo y p N).jO (EQ r M):=by
 obtain⟨d,rfl⟩:∃ d,M=N+d:=⟨M-N,aC⟩
 have e1:EQ r (N+d)=EQ r N+iG (λi=>eQ r (N+1+i)) d:=by
  unfold EQ;rw[(aC:N+d+1=N+1+d),D7]
 have hz:=(mG r).1;have t:=Pd hz (J:=1) (by exact hr) (aC:1<=N+1) d;have p0:=vq hz (N+1+d);have b1:iQ (iG (λi=>eQ r (N+1+i)) d)<=iG (λi=>eQ (iQ r) (N+1+i)) d:=by
  have:=CN (λi=>eQ r (N+1+i)) d;rwa[pS d λi _=>EO r (N+1+i)]at this
 have e3:eQ (iQ r) (N+1)*2<=eQ (iQ r) N:=Pc hz (J:=1) (by exact hr) (aC:1<=N);rw[e1];refine Bd (C6 hy ib gW N) (CS (wa hy ib gW N)) aC aC (Sc hy h ib gW N aC) (P9 (wa hy ib gW N) (OZ hy ib gW h N aC) ?_);rw[EO];grind
def adr{y:Iv}{r:Rat}(hy:y.gX)(h:y.jO r)(hb:y.all=true\/Sub y (po (-1))){p:Nat}(ib:8<=p)(gW:p<=512){N:Nat}(hN:1<=N)(sr:N<=1000):pk (EQ r) (yo y p N):=by
 rcases hb with hb|hb
 .exact pk.all (adp hb hN)
 .refine pk.N5 (k:=N) λM hM=>adq hy h ?_ ib gW hN sr M hM
  obtain⟨b1,b2⟩:=CX.1 (hb.jO h);have e:P2 (-1)=1/2:= aL ;rw[e]at b1 b2;have:=xi (x:=r) (b:=1/2) aK aK 
  grind
def om(x:Iv)(p:Nat):Iv:=if(jN x).all then gT else lr (jV (wV (jN x).lo (jN x).lo) p false) (jL (wV (jN x).lo (jN x).lo) p false) (jV (wV (jN x).hi (jN x).hi) p true) (jL (wV (jN x).hi (jN x).hi) p true)
def PM{x:Iv}(xa:x.all=false):0<=(jN x).lo.q:=by
 unfold jN;rw[xa];show 0<=(oF x).q;unfold oF;split
 .rw [tp];exact b6
 .obtain ⟨_,_,m⟩:=Ct (lI x.lo) (lI x.hi);rcases m with m|m<;>rw[m]
  .exact (y8 x.lo).1
  .exact (y8 x.hi).1
def zK(x:Iv):(jN x).all=x.all:=by unfold jN;cases h:x.all<;>simp[h,gT]
def O5{x:Iv}(hx:x.gX){p:Nat}(hp:1<=p)(gW:p<=4096){r:Rat}(h:x.jO r):(om x p).jO (r*r):=by
 unfold om;rw[zK];cases xa:x.all
 .simp only[bB,bj];obtain⟨s,hs,h0,e⟩:∃ s,(jN x).jO s/\0<=s/\r*r=s*s:=by
   by_cases hr:0<=r
   .exact ⟨r,G6 hx h (.inl ⟨rfl,hr⟩),hr,rfl⟩
   .exact ⟨-r,G6 hx h (.inr ⟨rfl,aK⟩),aK,aK⟩
  have hl:=PM xa;have ya:(jN x).all=false:=by rw[zK];exact xa
  obtain⟨s1,s2⟩:=hs.jW ya;rw[e];unfold lr;split
  .exact .inl rfl
  .rename_i he;have A:=wY (zS (jN x).lo (jN x).lo) hp gW;have B:=wZ (zS (jN x).hi (jN x).hi) hp gW;rw[DW]at A B;have a1:=(A.1 aC).2;have b1:=(B.1 aC).2;refine .inr ⟨?_,?_⟩
   .have m1:=cj s1 hl;have m2:=cF s1 h0;show _<=s*s;exact bI a1 (bI m1 (by rw[fm s];rw[fm (jN x).lo.q s];exact m2))
   .have m1:=cj s2 h0;have m2:=cF s2 (bI h0 s2);exact bI (bI m1 m2) b1
 .exact .inl rfl
def Kf{x:Iv}(hx:x.gX){p:Nat}(hp:1<=p)(gW:p<=4096):(om x p).gX:=by
 cases xa:x.all
 .have h1:=O5 hx hp gW hx.Af;unfold om at h1 ⊢;rw[zK,xa]at h1 ⊢;simp only[bB,bj]at h1 ⊢;unfold lr at h1 ⊢;split
  .exact lG
  .rename_i he;rw[aY he]at h1;obtain⟨h2,h3⟩:=h1.jW rfl;refine .inr ⟨rfl,vY _ hp gW _,vY _ hp gW _,?_⟩;rw[oO];exact bI h2 h3
 .unfold om;rw[zK,xa];exact lG
def pk.sqr{f:Nat->Rat}{X:Iv}(hx:X.gX)(h:pk f X){p:Nat}(hp:1<=p)(gW:p<=4096):pk (λN=>f N*f N) (om X p):=by
 cases xa:X.all
 .intro ε hε;obtain⟨B,hB⟩:∃ B,B=iQ X.lo.q+iQ X.hi.q+1:=⟨_,rfl⟩
  have a0:=mG X.lo.q;have b0:=mG X.hi.q;have vy:1<=B:= aK ;have L3:0<2*B:= aK ;obtain⟨δ,hδ⟩:∃ δ,δ=min 1 (ε/(2*B)):=⟨_,rfl⟩
  have hεB:0<ε/(2*B):=by rw[cL];exact dN hε (fp.2 L3)
  have Uy:0<δ:=by rw[hδ];grind
  have hδ1:δ<=1:=by rw[hδ];grind
  have hδ2:δ*(2*B)<=ε:=by
   have h1:δ<=ε/(2*B):=by rw[hδ];grind
   have h2:=cj h1 (bG L3);rwa[dA aK]at h2
  obtain⟨N0,h0⟩:=h δ Uy;refine⟨N0,λN hN=>?_⟩;obtain⟨r,hr,hd⟩:=h0 N hN;refine⟨r*r,O5 hx hp gW hr,?_⟩;obtain⟨r1,r2⟩:=hr.jW xa;rw[show f N*f N-r*r=(f N-r)*(f N+r)by grind,xY];have hs:iQ (f N+r)<=2*B:=by
   obtain⟨_,c2,c3,_⟩:=mG (f N-r);exact xi aK aK 
  have h3:=cF hs (mG (f N-r)).1;have h4:=cj hd (bG L3)
  grind
 .exact pk.all (by unfold om;rw[zK,xa];rfl)
def Y2(r:Rat):∀ ε,0<ε->∃ N0,∀ N,N0<=N->iQ (EQ r N-EQ (r*P2 (-1)) N*EQ (r*P2 (-1)) N)<=ε:=by
 intro ε hε;have e:r*P2 (-1)+r*P2 (-1)=r:=by
  have:P2 (-1)=1/2:= aL ;rw[this];grind
 have:=KF (r*P2 (-1)) (r*P2 (-1)) hε;rwa[e]at this
def ags{r:Rat}{X:Iv}(hx:X.gX)(h:pk (EQ (r*P2 (-1))) X){p:Nat}(hp:1<=p)(gW:p<=4096):pk (EQ r) (om X p):=(h.sqr hx hp gW).shift (Y2 r)
def aju{y:Iv}{n:Int}(h:Sub y (po n)):(lF y (-1)).all=true\/Sub (lF y (-1)) (po (n-1)):=by
 obtain⟨ya,k1,k2⟩:=h.wR rfl;replace k1:(jl (pI n)).q<=y.lo.q:=k1;replace k2:y.hi.q<=(pI n).q:=k2;rw[qD,qB]at k1;rw[qB]at k2;unfold lF lr;rw[ya];simp only[bB,bj];split
 .exact .inl rfl
 .rename_i he;have e:P2 (n-1)=P2 n*P2 (-1):=by rw[<-pV];congr 1
  refine .inr (.inr ⟨rfl,?_,?_⟩)
  .show (jl (pI (n-1))).q<=(tv y.lo (-1)).q;rw[qD,qB,AV aC,e,<-gL,uQ];exact k1
  .show (tv y.hi (-1)).q<=(pI (n-1)).q;rw[qB,AV aC,e,uQ];exact k2
def tE(z:Rat)(k:Nat):Rat:=nu z (2*k+1)/((2*k+1:Nat):Rat)
def AQ(z:Rat)(N:Nat):Rat:=iG (tE z) (N+1)
def nO(z:Iv)(p:Nat):Nat->Iv
 | 0=>z
 |k+1=>iy (nO z p k) (om z p) p
def uN(z:Iv)(p:Nat):Nat->Iv
 | 0=>z
 |k+1=>jC (uN z p k) (jh (nO z p (k+1)) (ji ((2*k+3:Nat):Int)) p) p
noncomputable def DE(z:Iv)(p N:Nat):Iv:=lF (jC (uN z p N) (qK (nO z p N)) p) 1
def xI{z:Iv}(hz:z.gX){p:Nat}(ib:8<=p)(gW:p<=512):∀ k,(nO z p k).gX
 | 0=>hz
 |_+1=>nY _ _ aC aC 
def Ce{z:Iv}(hz:z.gX){p:Nat}(ib:8<=p)(gW:p<=512):∀ k,(uN z p k).gX
 | 0=>hz
 |k+1=>qJ (Ce hz ib gW k) (pX _ _ aC aC) aC aC 
def agq{z:Iv}(hz:z.gX){p:Nat}(ib:8<=p)(gW:p<=512)(N:Nat):(DE z p N).gX:=Gv (qJ (Ce hz ib gW N) (CS (xI hz ib gW N)) aC aC) 1
def OP(r:Rat)(k:Nat):nu r (2*(k+1)+1)=nu r (2*k+1)*(r*r):=by
 show nu r (2*k+1)*r*r=_
 grind
def Nr{z:Iv}{r:Rat}(hz:z.gX)(h:z.jO r){p:Nat}(ib:8<=p)(gW:p<=512):∀ k,(nO z p k).jO (nu r (2*k+1))
 | 0=>by
  have e:nu r (2*0+1)=r:=by show 1*r=r;grind
  rw[e];exact h
 |k+1=>by
  rw[OP];exact NC (xI hz ib gW k) (Kf hz aC aC) aC aC (Nr hz h ib gW k) (O5 hz aC aC h)
def Vf{z:Iv}{r:Rat}(hz:z.gX)(h:z.jO r){p:Nat}(ib:8<=p)(gW:p<=512):∀ k,k<1000000->(uN z p k).jO (AQ r k)
 | 0,_=>by
  have e:AQ r 0=r:=by
   show 0+1*r/((2*0+1:Nat):Rat)=r;have:((2*0+1:Nat):Rat)=1:=rfl;rw[this,cL,show(1:Rat)⁻¹=1 by decide +kernel];grind
  rw[e];exact h
 |k+1,hk=>Bd (Ce hz ib gW k) (pX _ _ aC aC) aC aC (Vf hz h ib gW k aC)
  (Ia (xI hz ib gW (k+1)) (NV (2*k+3) aC) aC aC (Nr hz h ib gW (k+1)) (Wr (2*k+3)))
def KR(r:Rat):∀ n,iQ (nu r n)=nu (iQ r) n
 | 0=>by show iQ 1=1;decide +kernel
 |n+1=>by simp only[nu];rw[xY,KR r n]
def Zk(r:Rat)(k:Nat):iQ (tE r k)<=nu (iQ r) (2*k+1):=by
 unfold tE;have hp:(0:Rat)<((2*k+1:Nat):Rat):=AH (2*k);have h1:(1:Rat)<=((2*k+1:Nat):Rat):=by
  have:=du (a:=1) (b:=2*k+1);exact this.2 aC 
 have h0:=Cz (mG r).1 (2*k+1);rw[cL,xY,KR];have hi:=fp.2 hp;have e:iQ (((2*k+1:Nat):Rat)⁻¹)=((2*k+1:Nat):Rat)⁻¹:=by unfold iQ;rw[aZ (bG hi)]
 rw[e,<-cL];have x0:=RC h0 hp;have xc:=dA (a:=nu (iQ r) (2*k+1)) (b:=((2*k+1:Nat):Rat)) aK;generalize nu (iQ r) (2*k+1)/((2*k+1:Nat):Rat)=x at *
 have:=cF h1 x0
 grind
def Qa{r:Rat}(hr:iQ r*2<=1)(N:Nat):∀ d,iG (λi=>iQ (tE r (N+1+i))) d+nu (iQ r) (2*(N+d)+1)<=nu (iQ r) (2*N+1)
 | 0=>by simp only[iG,bR];grind
 |d+1=>by
  have ih:=Qa hr N d;have h1:=Zk r (N+1+d);have e:2*(N+1+d)+1=2*(N+d+1)+1:= aC ;rw[e,OP]at h1;have e2:2*(N+(d+1))+1=2*(N+d+1)+1:= aC ;rw[e2,OP,iG];have h0:=Cz (mG r).1 (2*(N+d)+1);have hz:=(mG r).1;have hs:iQ r*iQ r*4<=1:=by
   have m:=cF hr (show 0<=iQ r*2 by grind)
   grind
  generalize nu (iQ r) (2*(N+d)+1)=u at *
  generalize iQ r*iQ r=v at *
  have m2:=cF hs h0
  grind
def agp{z:Iv}{r:Rat}(hz:z.gX)(h:z.jO r)(hr:iQ r*2<=1){p:Nat}(ib:8<=p)(gW:p<=512){N:Nat}(hN:N<=1000):∀ M,N<=M->(DE z p N).jO (AQ r M*2):=by
 intro M hM;obtain⟨d,rfl⟩:∃ d,M=N+d:=⟨M-N,aC⟩
 have e1:AQ r (N+d)=AQ r N+iG (λi=>tE r (N+1+i)) d:=by
  unfold AQ;rw[(aC:N+d+1=N+1+d),D7]
 have t:=Qa hr N d;have b1:=CN (λi=>tE r (N+1+i)) d;have p0:=Cz (mG r).1 (2*(N+d)+1);have e2:P2 1=2:= aL ;rw[<-e2,e1];refine OV (Bd (Ce hz ib gW N) (CS (xI hz ib gW N)) aC aC (Vf hz h ib gW N aC) (P9 (xI hz ib gW N) (Nr hz h ib gW N) ?_)) 1;rw[KR];grind
def aj9{z:Iv}(hz:z.gX)(h:Sub z (po (-1))){p:Nat}(ib:8<=p)(gW:p<=512):Sub (om z p) (po (-1)):=by
 obtain⟨za,k1,k2⟩:=h.wR rfl;replace k1:(jl (pI (-1))).q<=z.lo.q:=k1;replace k2:z.hi.q<=(pI (-1)).q:=k2;have e:P2 (-1)=1/2:= aL ;rw[qD,qB,e]at k1;rw[qB,e]at k2;have hl:=PM za;have ha:(jN z).gX:=G7 hz;have hq:=ha.q;have hh:(jN z).hi.q<=1/2:=by
  unfold jN;rw[za];show(kt z).q<=1/2;obtain⟨_,_,m⟩:=Ch hz.q;have:=hz.q;rcases m with m|m<;>grind
 have G1:=zG (p:=p) aC (n:=-1) aE aE;have A:=wY (zS (jN z).lo (jN z).lo) (p:=p) aC aC;have B:=wZ (zS (jN z).hi (jN z).hi) (p:=p) aC aC;rw[DW]at A B;rw[e]at G1;have jG:0<=(jN z).lo.q*(jN z).lo.q:=bQ hl hl;have hhi:(jN z).hi.q*(jN z).hi.q<=1/2:=by
  have h0:0<=(jN z).hi.q:=bI hl hq;have m:=cF hh h0
  grind
 have a1:=A.2 (-(1/2)) G1.neg aK;have b1:=B.2 (1/2) G1 hhi;unfold om lr;rw[zK,za];simp only[bB,bj];rw[aY aC];refine .inr ⟨rfl,?_,?_⟩
 .show (jl (pI (-1))).q<=_;rw[qD,qB,e];exact a1.2
 .show _<=(pI (-1)).q;rw[qB,e];exact b1.2
def Ve{z:Iv}(hz:z.gX)(h:Sub z (po (-1))){p:Nat}(ib:8<=p)(gW:p<=512):∀ k,k<=900->Sub (nO z p k) (po (-((k+1:Nat):Int)))
 | 0,_=>h
 |k+1,hk=>by
  have ih:=Ve hz h ib gW k aC;have sq:=aj9 hz h ib gW;have vT:=xI hz ib gW k;obtain⟨ta,_⟩:=ih.wR rfl;obtain⟨ya,_⟩:=sq.wR rfl;exact Et (NB vT (Kf hz aC aC) ta ya (aC:1<=p) aC) aC aC aC (by
   rintro r ⟨a,b,ha,hb,rfl⟩;obtain⟨a1,a2⟩:=CX.1 (ih.jO ha);obtain⟨b1,b2⟩:=CX.1 (sq.jO hb);rw[<-Tx];exact PQ a1 a2 b1 b2)
def agr{z:Iv}(hz:z.gX)(h:z.all=true\/Sub z (po (-1))){p:Nat}(ib:8<=p)(gW:p<=512):∃ N,N<=1000/\(∀ x,x<N->oH (nO z p x) p=false)/\oH (nO z p N) p=true:=by
 have ex:∃ x,x<900/\oH (nO z p x) p=true:=by
  rcases h with h|h
  .exact ⟨0,aC,by show oH z p=true;unfold oH;rw[h];rfl⟩
  .exact ⟨p,aC,Ys (xI hz ib gW _) (Ve hz h ib gW p aC)⟩
 obtain⟨N,n1,n2,n3⟩:=sG ex;exact⟨N,aC,n3,n2⟩
def Zx{a b:Rat}(h:a<=b)(k:Nat):tE a k<=tE b k:=by
 unfold tE;rw[cL,cL];exact cj (OO aC h) (bG (fp.2 (AH (2*k))))
def GW{a b:Rat}(h:a<=b)(N:Nat):AQ a N<=AQ b N:=CC _ λk _=>Zx h k
def Gk{d:Dy}(h:d.m≠0):iQ d.q<P2 d.ig:=by
 have hT:d.ig=(gZ d.m:Int)+d.e:=by unfold Dy.ig;rw[aY h]
 have h1:(d.m:Rat)<((2^gZ d.m:Nat):Rat):=Rat.natCast_lt_natCast.2 (qw d.m);have h2:=dv h1 (mW d.e);rw[<-we,<-pV]at h2;have h0:0<=(d.m:Rat)*P2 d.e:=bQ cP (bG (mW _));have h4:iQ d.q=(d.m:Rat)*P2 d.e:=by
  rw[pQ];unfold iQ;cases d.neg
  .simp only[bB,bj];rw[aZ h0]
  .simp only[bw];split<;>grind
 rw[h4,hT];exact h2
def Oo{d:Dy}(h:d.m≠0):P2 (d.ig-1)<=iQ d.q:=by
 have hT:d.ig=(gZ d.m:Int)+d.e:=by unfold Dy.ig;rw[aY h]
 have hb:0<gZ d.m:=vQ.2 (by rw[cw];omega);have h1:2^(gZ d.m-1)<=d.m:=vQ.1 aC;have h2:((2^(gZ d.m-1):Nat):Rat)<=(d.m:Rat):=du.2 h1;have h3:=cj h2 (bG (mW d.e));rw[<-we,<-pV,show((gZ d.m-1:Nat):Int)+d.e=d.ig-1 by rw[hT];omega]at h3;have h4:iQ d.q=(d.m:Rat)*P2 d.e:=by
  have h0:0<=(d.m:Rat)*P2 d.e:=bQ cP (bG (mW _));rw[pQ];unfold iQ;cases d.neg
  .simp only[bB,bj];rw[aZ h0]
  .simp only[bw];split<;>grind
 rw[h4];exact h3
def DT{d:Dy}(h:0<d.q):d.m≠0:=λe=>by
 have:d.q=0:=by rw[pQ,e];simp
 grind
def G8{r:Rat}(h:0<r):iQ r=r:=by unfold iQ;rw[aZ (bG h)]
def vS(d:Dy):Rat:=d.q*P2 (-d.ig)
def zE(d:Dy):Rat:=(vS d-1)/(vS d+1)
def PE(k:Int):P2 k*P2 (-k)=1:=by rw[<-pV,(aC:k + -k=0),KK]
def VN{d:Dy}(h:0<d.q):1/2<=vS d/\vS d<1:=by
 have h1:=Oo (DT h);have h2:=Gk (DT h);rw[G8 h]at h1 h2;have hp:=mW (-d.ig);have e1:=PE d.ig;have e2:P2 (d.ig-1)*P2 (-d.ig)=1/2:=by
  rw[<-pV,(aC:d.ig-1 + -d.ig = -1)];decide +kernel
 have m1:=cj h1 (bG hp);have m2:=dv h2 hp;unfold vS;constructor<;>grind
def LN{a b:Rat}(ha:0<=a)(h:a<=b):(a-1)/(a+1)<=(b-1)/(b+1):=by
 have h1:0<a+1:= aK ;have h2:0<b+1:= aK ;have e1:=dA (a:=a-1) (b:=a+1) aK;have e2:=dA (a:=b-1) (b:=b+1) aK;generalize (a-1)/(a+1)=x at *
 generalize (b-1)/(b+1)=y at *
 apply dk.1;intro im;have m1:=dv im h1;have hy:y<1:=by
  apply gJ.1;intro hle;have:=cj hle (bG h2)
  grind
 have m2:=cF h (show 0<=1-y by grind)
 grind
def Pv{d:Dy}(h:0<d.q):-(1/3)<=zE d/\zE d<=0:=by
 obtain⟨h1,h2⟩:=VN h;have a:=LN (show(0:Rat)<=1/2 by decide +kernel) h1;have b:=LN (show 0<=vS d by grind) (bG h2);have e1:((1:Rat)/2-1)/(1/2+1) = -(1/3):= aL ;have e2:((1:Rat)-1)/(1+1)=0:= aL ;rw[e1]at a;rw[e2]at b;exact⟨a,b⟩
def KD(z:Rat)(N:Nat):AQ (-z) N = -AQ z N:=by
 have:∀ n,iG (tE (-z)) n = -iG (tE z) n:=by
  intro n
  induction n with
  |zero=>simp[iG]
  |succ n ih=>
   rw[iG,iG,ih];have:tE (-z) n = -tE z n:=by
    unfold tE;rw[Cy,aY aC];simp only[cL];grind
   rw[this];grind
 exact this _
def Pw(N:Nat):AQ 0 N=0:=by
 have:=KD 0 N;rw[show -(0:Rat)=0 by decide +kernel]at this
 grind
def Y0(N:Nat):0<=AQ (1/3) N:=by
 have:=GW (show(0:Rat)<=1/3 by decide +kernel) N;rwa[Pw]at this
def LQ(d:Dy)(N:Nat):Rat:=AQ (zE d) N*2+(d.ig:Rat)*(AQ (1/3) N*2)
def akQ{a b:Dy}(ha:0<a.q)(h:a.q<=b.q):a.ig<=b.ig:=by
 have hb:0<b.q:= aK ;have h1:=Oo (DT ha);have h2:=Gk (DT hb);rw[G8 ha]at h1;rw[G8 hb]at h2;apply bM;intro im;have:=Eh (aC:b.ig<=a.ig-1)
 grind
def Zb{a b:Dy}(ha:0<a.q)(h:a.q<=b.q)(N:Nat):LQ a N<=LQ b N:=by
 have hb:0<b.q:= aK ;have ht:=akQ ha h;obtain⟨a1,a2⟩:=Pv ha;obtain⟨b1,b2⟩:=Pv hb;have c0:=Y0 N;unfold LQ;rcases Int.lt_or_eq_of_le ht with im|heq
 .have k1:=GW a2 N;rw[Pw]at k1;have k2:=GW b1 N;rw[KD]at k2;have k3:(a.ig:Rat)+1<=(b.ig:Rat):=by
   have:=fS (a:=a.ig+1) (b:=b.ig);have:=this.2 aC;rwa[Rat.intCast_add]at this
  have k4:=cj k3 (show 0<=AQ (1/3) N*2 by grind)
  grind
 .have hm:vS a<=vS b:=by
   unfold vS;rw[heq];exact cj h (bG (mW _))
  have hz:zE a<=zE b:=LN (by have:=(VN ha).1;grind) hm;have:=GW hz N;rw[heq]
  grind
def Zc(N:Nat):LQ ⟨false,1,0⟩ N=0:=by
 have e1:zE ⟨false,1,0⟩ = -(1/3):= aL ;have e2:((⟨false,1,0⟩:Dy).ig:Rat)=1:= aL ;unfold LQ;rw[e1,e2,KD];grind
noncomputable def tX(d:Dy)(p:Nat):Iv:=lF (lE (mg d) p) (-d.ig)
noncomputable def DG(d:Dy)(p:Nat):Iv:=jh (jC (tX d p) (ji (-1)) p) (jC (tX d p) (ji 1) p) p
def Yw{d:Dy}(hd:d.gX)(h:d.m≠0):-16384<=d.ig-1/\d.ig<=16384:=by
 have hT:d.ig=(gZ d.m:Int)+d.e:=by unfold Dy.ig;rw[aY h]
 have hb:0<gZ d.m:=vQ.2 (by rw[cw];omega);have h1:=hd.range;unfold mv at h1;have h2:=hd.exp;constructor
 .omega
 .rw [hT]
  first|omega|(rcases h1 with h1|h1<;>first|omega|exact absurd h1 h)
def ai9{d:Dy}(hd:d.gX)(h:0<d.q){p:Nat}(ib:8<=p)(gW:p<=512)(ha:(lE (mg d) p).all=false):P2 (d.ig-1)<=(lE (mg d) p).lo.q/\(lE (mg d) p).hi.q<=P2 d.ig:=by
 have hm:=DT h;obtain⟨t1,t2⟩:=Yw hd hm;have q1:=Oo hm;have q2:=Gk hm;rw[G8 h]at q1 q2;have A:=wY hd.canon (p:=p) aC aC;have B:=wZ hd.canon (p:=p) aC aC;have G1:G p (P2 (d.ig-1)):=.inl ⟨1,d.ig-1,by rw[xm];omega,t1,by rw[xm];omega,aH⟩;have he:¬(jL d p false≠0\/jL d p true≠0):=by
  intro hc;unfold lE lr at ha;rw[show(mg d).all=false from rfl]at ha;simp only[bB,bj]at ha;rw[aZ (show jL (mg d).lo p false≠0\/jL (mg d).hi p true≠0 from hc)]at ha;cases ha
 have e1:(lE (mg d) p).lo=jV d p false/\(lE (mg d) p).hi=jV d p true:=by
  unfold lE lr;rw[show(mg d).all=false from rfl];simp only[bB,bj];rw[aY (show ¬(jL (mg d).lo p false≠0\/jL (mg d).hi p true≠0)from he)];exact⟨rfl,rfl⟩
 rw[e1.1,e1.2];refine⟨(A.2 _ G1 q1).2,?_⟩;by_cases ht:d.ig<=16383
 .have G2:G p (P2 d.ig):=.inl ⟨1,d.ig,by rw[xm];omega,aC,by rw[xm];omega,aH⟩;exact(B.2 _ G2 (bG q2)).2
 .obtain ⟨g,_⟩:=B.1 aC ;have T7:0<=(jV d p true).q:=bI (bG h) (B.1 aC).2;obtain⟨m,e,hb,_,hr,hv⟩:=g.pos T7;rw[hv];have h1:(m:Rat)<=((2^gZ m:Nat):Rat):=du.2 (dt (qw m));have h2:=cj h1 (bG (mW e));rw[<-we,<-pV]at h2;exact bI h2 (Eh aC)
def agH{d:Dy}(hd:d.gX){p:Nat}(ib:8<=p)(gW:p<=512):(tX d p).jO (vS d):=OV (Gq (uV hd) aC aC (Oi d)) _
def agJ{d:Dy}(hd:d.gX){p:Nat}(ib:8<=p)(gW:p<=512):(tX d p).gX:=Gv (D0 (uV hd) aC aC) _
def agI{d:Dy}(hd:d.gX)(h:0<d.q){p:Nat}(ib:8<=p)(gW:p<=512)(ha:(tX d p).all=false):1/2<=(tX d p).lo.q/\(tX d p).hi.q<=1:=by
 unfold tX lF at ha ⊢;cases ra:(lE (mg d) p).all
 .rw [ra]at ha;obtain⟨h1,h2⟩:=ai9 hd h ib gW ra;simp only[bB,bj]at ha ⊢;unfold lr at ha ⊢;split
  .rename_i he;rw[aZ he]at ha;cases ha
  .rename_i he;have e1:=PE d.ig;have e2:P2 (d.ig-1)*P2 (-d.ig)=1/2:=by
    rw[<-pV,(aC:d.ig-1 + -d.ig = -1)];decide +kernel
   refine⟨?_,?_⟩
   .show 1/2<=(tv _ _).q;rw[AV aC,<-e2,uQ];exact h1
   .show (tv _ _).q<=1;rw[AV aC,<-e1,uQ];exact h2
 .rw [ra]at ha;cases ha
def aeS{a b:Rat}(h1:-(1/2)<=a)(h2:a<=1/2)(hb:1<=b):-(1/2)<=a/b/\a/b<=1/2:=by
 have e:=dA (a:=a) (b:=b) aK;generalize a/b=x at *
 constructor
 .apply dk.1;intro im;have:=dv im (show 0<b by grind)
  grind
 .apply dk.1;intro im;have:=dv im (show 0<b by grind)
  grind
def agL{d:Dy}(hd:d.gX)(h:0<d.q){p:Nat}(ib:8<=p)(gW:p<=512):(DG d p).gX/\(DG d p).jO (zE d)/\((DG d p).all=true\/Sub (DG d p) (po (-1))):=by
 have vM:=agJ hd ib gW;have hM:=agH hd ib gW;have vn:(ji (-1)).gX:=vU aE;have v1:(ji 1).gX:=vU aE;have vA:(jC (tX d p) (ji (-1)) p).gX:=qJ vM vn aC aC;have vB:(jC (tX d p) (ji 1) p).gX:=qJ vM v1 aC aC;have e1:((-1:Int):Rat) = -1:= aL ;have e2:((1:Int):Rat)=1:= aL ;have hA:=Bd vM vn (p:=p) aC aC hM (y4 (-1));have hB:=Bd vM v1 (p:=p) aC aC hM (y4 1);rw[e1,show vS d + -1=vS d-1 by grind]at hA;rw[e2]at hB;refine⟨pX _ _ aC aC,Ia vA vB aC aC hA hB,?_⟩;cases ma:(tX d p).all
 .right;obtain⟨m1,m2⟩:=agI hd h ib gW ma;have one:∀ (n:Int) r,(ji n).jO r->r=(n:Rat):=λn r hr=>by
   obtain⟨r1,r2⟩:=hr.jW rfl;replace r1:(iR n).q<=r:=r1;replace r2:r<=(iR n).q:=r2;rw[AO]at r1 r2;exact fu r2 r1
  have g1:G p (1/2):=by have:=zG (p:=p) aC (n:=-1) aE aE;rwa[show P2 (-1)=1/2 by decide +kernel]at this
  have g2:G p 1:=by have:=zG (p:=p) aC (n:=0) aE aE;rwa[KK]at this
  have g4:G p 2:=by have:=zG (p:=p) aC (n:=1) aE aE;rwa[show P2 1=2 by decide +kernel]at this
  obtain⟨aa,a1,a2⟩:=(KS vM vn ma rfl (aC:1<=p) aC).xH (-(1/2)) (1/2) g1.neg g1 (by
   rintro r ⟨a,b,ha,hb,rfl⟩;obtain⟨b1,b2⟩:=ha.jW ma;rw[one _ b hb,e1];constructor<;>grind)
  obtain⟨ba,b1,b2⟩:=(KS vM v1 ma rfl (aC:1<=p) aC).xH 1 2 g2 g4 (by
   rintro r ⟨a,b,ha,hb,rfl⟩;obtain⟨b1,b2⟩:=ha.jW ma;rw[one _ b hb,e2];constructor<;>grind)
  refine Et (H9 vA vB aa (O4 ba (.inl aK)) (aC:1<=p) aC) aC aE aE ?_;rintro r ⟨a,b,ha,hb,rfl⟩;obtain⟨x1,x2⟩:=ha.jW aa;obtain⟨y1,y2⟩:=hb.jW ba;rw[show P2 (-1)=1/2 by decide +kernel];exact aeS aK aK aK 
 .left;show(jh (jC (tX d p) (ji (-1)) p) (jC (tX d p) (ji 1) p) p).all=true;rw[G9 p (.inl ma),EL p (.inl rfl)];rfl
def adn{d:Dy}(hd:d.gX)(h:d.m≠0){p:Nat}(ib:8<=p)(gW:p<=512){n:Int}(h1:d.ig<=n)(h2:-1000<=n)(h3:n<=1000):Sub (lE (mg d) p) (po n):=by
 refine ai8 (uV hd) aC aC h2 h3 (.inr ⟨rfl,?_,?_⟩)
 .show (jl (pI n)).q<=d.q;rw[qD,qB];have:=Gk h;have hl:=Eh h1;obtain⟨_,a2,a3,_⟩:=mG d.q
  grind
 .show d.q<=(pI n).q;rw[qB];have:=Gk h;have hl:=Eh h1;obtain⟨_,a2,a3,_⟩:=mG d.q
  grind
def YL(y:Iv)(p n:Nat)(x:Nat):PS:=⟨32,true,[(7,.e (iP ((x+1:Nat):Int))),(6,.box 6 0),(5,.box 5 0),(4,.box 4 0),(3,.box 3 0),(2,.box 2 0)],[(6,.cells 44 (iE (tH y p x))),(5,.cells 44 (iE (kV y p x))),(4,.cells 44 au),(3,.cells 44 (iE y)),(2,.cells 203 [iP p])]⟩
def agu{f:Nat->Rat}{X Y:Iv}(h:pk f X)(k:∀ r,X.jO r->Y.jO r):pk f Y:=λε hε=>by
 obtain⟨N0,h0⟩:=h ε hε;exact⟨N0,λN hN=>by obtain⟨r,h1,h2⟩:=h0 N hN;exact⟨r,k r h1,h2⟩⟩
def ivW{x:Iv}(hx:x.gX)(ha:x.all=true):x=gT:=by
 obtain⟨h1,h2⟩:=UO hx ha;obtain⟨a,b,c⟩:=x;simp only at h1 h2 ha;rw[h1,h2,ha];rfl
def ZO(x:Iv)(hx:x.gX)(xa:x.all=true)(k:Int)(k1:-32768<=k)(k2:k<=32768):gQ 209 [ia x,iP k] (ia (lF x k)):=
 ak call209 func209 (ae [.o 10 (.e (lq _):aj (.sl true 1 7 λi_ j_=>(iE x).getD (i_*7+j_) (.v (.bool false))) (gY [x])),ag [gY [x]] (pF _ aD),ai 11 (!x.all) (by rw[xa];rfl),.c nm]<|rQ (ia gT) (ia (lF x k)) (by rw[show(lF x k)=gT by unfold lF;rw[aZ xa]])) 
def ZP(x:Iv)(hx:x.gX)(xa:x.all=false)(k:Int)(k1:-32768<=k)(k2:k<=32768):gQ 209 [ia x,iP k] (ia (lF x k)):=by
 obtain⟨v1,v2⟩:=hx.jW;exact ak call209 func209 (ae [.o 10 (.e (lq _):aj (.sl true 1 7 λi_ j_=>(iE x).getD (i_*7+j_) (.v (.bool false))) (gY [x])),ag [gY [x]] (pF _ aD),ah 11 (!x.all) (by rw[xa];rfl),.c (CU x.lo k aD aC aC),.c (CU x.hi k aD aC aC),.c (Ca (jm (canon x.lo.neg x.lo.m (x.lo.e+k))) (jm (canon x.hi.neg x.hi.m (x.hi.e+k))) (kg (canon x.lo.neg x.lo.m (x.lo.e+k))) (kg (canon x.hi.neg x.hi.m (x.hi.e+k))))]<|rQ (ia (lr (jm (canon x.lo.neg x.lo.m (x.lo.e+k))) (kg (canon x.lo.neg x.lo.m (x.lo.e+k))) (jm (canon x.hi.neg x.hi.m (x.hi.e+k))) (kg (canon x.hi.neg x.hi.m (x.hi.e+k))))) (ia (lF x k)) (by unfold lF;rw[aY (by rw[xa];decide)];simp only[ajr,ajs])) 
def Hg(x:Iv)(hx:x.gX)(k:Int)(k1:-32768<=k)(k2:k<=32768):gQ 209 [ia x,iP k] (ia (lF x k)):=by
 cases xa:x.all with
 |true=>exact ZO x hx xa k k1 k2
 |false=>exact ZP x hx xa k k1 k2
def ZM(x:Iv)(hx:x.gX)(xa:x.all=true)(p:Nat)(ib:8<=p)(gW:p<=512):gQ 254 [ia x,iP p] (ia (lE x p)):=
 ak call254 func254 (ae [.o 10 (.e (lq _):aj (.sl true 1 7 λi_ j_=>(iE x).getD (i_*7+j_) (.v (.bool false))) (gY [x])),ag [gY [x]] (pF _ aD),ai 11 (!x.all) (by rw[xa];rfl),.c nm]<|rQ (ia gT) (ia (lE x p)) (by rw[show(lE x p)=gT by unfold lE;rw[aZ xa]])) 
def ZN(x:Iv)(hx:x.gX)(xa:x.all=false)(p:Nat)(ib:8<=p)(gW:p<=512):gQ 254 [ia x,iP p] (ia (lE x p)):=by
 obtain⟨v1,v2⟩:=hx.jW;exact ak call254 func254 (ae [.o 10 (.e (lq _):aj (.sl true 1 7 λi_ j_=>(iE x).getD (i_*7+j_) (.v (.bool false))) (gY [x])),ag [gY [x]] (pF _ aD),ah 11 (!x.all) (by rw[xa];rfl),ag [iP p] (vP _),ah 15 (mC (p:Int)) (rO.2 ⟨aC,aC⟩),.c (Hj x.lo p aD aC aC),.c (Hk x.hi p aD aC aC),.c (Ca (jV x.lo p false) (jV x.hi p true) (jL x.lo p false) (jL x.hi p true))]<|rQ (ia (lr (jV x.lo p false) (jL x.lo p false) (jV x.hi p true) (jL x.hi p true))) (ia (lE x p)) (by unfold lE;rw[aY (by rw[xa];decide)])) 
def Er(x:Iv)(hx:x.gX)(p:Nat)(ib:8<=p)(gW:p<=512):gQ 254 [ia x,iP p] (ia (lE x p)):=by
 cases xa:x.all with
 |true=>exact ZM x hx xa p ib gW
 |false=>exact ZN x hx xa p ib gW
def ZQ(x:Iv)(hx:x.gX)(xa:x.all=true)(p:Nat)(ib:8<=p)(gW:p<=512):gQ 288 [ia x,iP p] (ia (om x p)):=by
 have ha:(jN x).all=true:=by rw[zK,xa]
 exact ak call288 func288 (ae [.c (Nf x aD),ah 13 ((jN x).all) ha,.c nm]<|rQ (ia gT) (ia (om x p)) (by unfold om;rw[aZ ha])) 
def ZR(x:Iv)(hx:x.gX)(xa:x.all=false)(p:Nat)(ib:8<=p)(gW:p<=512):gQ 288 [ia x,iP p] (ia (om x p)):=by
 have ha:(jN x).all=false:=by rw[zK,xa]
 have hv:=G7 hx;obtain⟨v1,v2⟩:=hv.jW;exact ak call288 func288 (ae [.c (Nf x aD),ai 13 ((jN x).all) ha,ag [iP p] (vP _),ah 16 (mC (p:Int)) (rO.2 ⟨aC,aC⟩),.c (JV ((jN x).lo) ((jN x).lo) p aD aD aC aC),.c (JW ((jN x).hi) ((jN x).hi) p aD aD aC aC),.c (Ca (jV (jq ((jN x).lo) ((jN x).lo)) p false) (jV (jq ((jN x).hi) ((jN x).hi)) p true) (jL (jq ((jN x).lo) ((jN x).lo)) p false) (jL (jq ((jN x).hi) ((jN x).hi)) p true))]<|rQ (ia (lr (jV (jq ((jN x).lo) ((jN x).lo)) p false) (jL (jq ((jN x).lo) ((jN x).lo)) p false) (jV (jq ((jN x).hi) ((jN x).hi)) p true) (jL (jq ((jN x).hi) ((jN x).hi)) p true))) (ia (om x p)) (by unfold om;rw[aY (by rw[ha];decide)];rfl)) 
def Qo(x:Iv)(hx:x.gX)(p:Nat)(ib:8<=p)(gW:p<=512):gQ 288 [ia x,iP (p:Int)] (ia (om x p)):=by
 cases xa:x.all with
 |true=>exact ZQ x hx xa p ib gW
 |false=>exact ZR x hx xa p ib gW
def KX(x:Iv)(hx:x.gX)(xa:x.all=true):gQ 65 [ia x] (.ie [gU il,bP false]):=
 ak call65 func65 (af [.o 5 (.e (lq _):aj (.sl true 1 7 λi_ j_=>(iE x).getD (i_*7+j_) (.v (.bool false))) (gY [x])),ag [gY [x]] (pF _ aD),ai 6 (!x.all) (by rw[xa];rfl),.o 8 (.e qH:aj (.agg ar) (gU il))]) 
def w8(n:Int)(h:n.natAbs<4294967296):gQ 252 [iP n] (ia (ji n)):=by
 have hv:=sE h;exact ak call252 func252 (af [ag [iP n] (qL _ aC),.c (AA (iR n) aD)]) 
def Bb(p:Nat)(x y:Iv)(hx:x.gX)(hy:y.gX)(ib:8<=p)(gW:p<=512):gQ 257 [.agg [iP p],ia x,ia y] (ia (jC x y p)):=
 ak call257 func257 (af [.c (yP x y p aD aD aC aC)]) 
def Ky(p:Nat)(x y:Iv)(hx:x.gX)(hy:y.gX)(ib:8<=p)(gW:p<=512):gQ 259 [.agg [iP p],ia x,ia y] (ia (iy x y p)):=
 ak call259 func259 (af [.c (tg x y p aD aD aC aC)]) 
def GN(p:Nat)(x y:Iv)(hx:x.gX)(hy:y.gX)(ib:8<=p)(gW:p<=512):gQ 256 [.agg [iP p],ia x,ia y] (ia (jh x y p)):=
 ak call256 func256 (af [.c (yQ x y p aD aD aC aC)]) 
def alo(p:Nat)(x:Iv)(hx:x.gX)(xa:x.all=true)(ib:8<=p)(gW:p<=512):gQ 289 [.agg [iP p],ia x] (bP (oH x p)):=
 ak call289 func289 (ae [.c (KX x hx xa)]<|rQ (bP true) (bP (oH x p)) (by unfold oH;rw[xa];rfl)) 
def Yr{x:Iv}(xa:x.all=false)(p:Nat):oH x p=(((kt x).iJ==0)||decide ((kt x).ig<=0-(p:Int))):=by
 unfold oH;rw[xa,amz];congr 1
 .unfold Dy.iJ;by_cases h:(kt x).m=0
  .simp [h]
  .simp only[h,bj,gE];split<;>rfl
 .rw [show(0:Int)-p = -(p:Int)by omega]
def alp(p:Nat)(x:Iv)(hx:x.gX)(xa:x.all=false)(ib:8<=p)(gW:p<=512):gQ 289 [.agg [iP p],ia x] (bP (oH x p)):=by
 have hm:=FR hx.jW.1 hx.jW.2;exact ak call289 func289 (ae [.c (FH x hx xa),ag [gU (kt x)] (mJ _ aD)]<|.w ((Dy.iJ (kt x))=0)
  (λk1=>ae [tB 17 (aU k1)]<|rQ (bP true) (bP (oH x p)) (by rw[Yr xa];simp[k1]))
  (λk1=>ae [tB 17 (aT k1),ag [gU (kt x)] (mK _ aD),ij (0-(p:Int)) aC]<|rQ (bP (decide ((Dy.ig (kt x))<=(0-(p:Int))))) (bP (oH x p)) (by rw[Yr xa];simp[k1]))) 
def Kz(p:Nat)(x:Iv)(hx:x.gX)(ib:8<=p)(gW:p<=512):gQ 289 [.agg [iP p],ia x] (bP (oH x p)):=by
 cases xa:x.all with
 |true=>exact alo p x hx xa ib gW
 |false=>exact alp p x hx xa ib gW
def alw(x:Iv)(hx:x.gX)(xa:x.all=true):gQ 290 [ia x] (ia (qK x)):=
 ak call290 func290 (ae [.c (KX x hx xa),.c nm]<|rQ (ia gT) (ia (qK x)) (by rw[show qK x=gT by unfold qK;rw[aZ xa];exact ivW hx xa])) 
def alx(x:Iv)(hx:x.gX)(xa:x.all=false):gQ 290 [ia x] (ia (qK x)):=by
 have hm:=FR hx.jW.1 hx.jW.2;exact ak call290 func290 (ae [.c (FH x hx xa),ag [gU (kt x)] (yi _ aD)]<|rQ (ia (Iv.mk (jl (kt x)) (kt x) false)) (ia (qK x)) (by unfold qK;rw[aY (by rw[xa];decide)];try rfl)) 
def YU(x:Iv)(hx:x.gX):gQ 290 [ia x] (ia (qK x)):=by
 cases xa:x.all with
 |true=>exact alw x hx xa
 |false=>exact alx x hx xa
def ali(y:Iv)(p n:Nat)(hy:y.gX)(ib:8<=p)(gW:p<=512)(h2:n<=1000)(jG:∀ x,x<n->oH (kV y p (x+1)) p=false)(hN:oH (kV y p (n+1)) p=true):gQ 287 [.agg [iP p],ia y] (ia (yo y p (n+1))):=by
 have t0:=wa hy ib gW n;have s0:=C6 hy ib gW n;have t1:(iy (kV y p n) y p).gX:=nY _ _ aC aC;have n1:(ji ((n+1:Nat):Int)).gX:=Co _ aC;have t2:(jh (iy (kV y p n) y p) (ji ((n+1:Nat):Int)) p).gX:=pX _ _ aC aC;have a1:(jC (tH y p n) (jh (iy (kV y p n) y p) (ji ((n+1:Nat):Int)) p) p).gX:=qJ s0 t2 aC aC;have r1:=CS t2;exact ak call287 func287 (ae [.c (w8 1 aC),.c (w8 1 aC),.s (Sp.jE (YL y p n) 0 n aC (λx hx mn=>by
    have t0:=wa hy ib gW x;have s0:=C6 hy ib gW x;have t1:(iy (kV y p x) y p).gX:=nY _ _ aC aC;have n1:(ji ((x+1:Nat):Int)).gX:=Co _ aC;have t2:(jh (iy (kV y p x) y p) (ji ((x+1:Nat):Int)) p).gX:=pX _ _ aC aC;exact iA (ae [.c (Ky p (kV y p x) y aD aD aC aC),.c (w8 ((x+1:Nat):Int) aC),.c (GN p (iy (kV y p x) y p) (ji ((x+1:Nat):Int)) aD aD aC aC),.c (Bb p (tH y p x) (jh (iy (kV y p x) y p) (ji ((x+1:Nat):Int)) p) aD aD aC aC),.c (Kz p (jh (iy (kV y p x) y p) (ji ((x+1:Nat):Int)) p) aD aC aC),ai 26 (oH (jh (iy (kV y p x) y p) (ji ((x+1:Nat):Int)) p) p) (jG x aC),
     ij (((x+1:Nat):Int)+1) aC]<|.e (af [.b 6 (.iL rfl:Bx.le (.cells 44 (iE (jC (tH y p x) (jh (iy (kV y p x) y p) (ji ((x+1:Nat):Int)) p) p))) (.cells 44 (iE (tH y p (x+1))))),.b 5 (.iL rfl:Bx.le (.cells 44 (iE (jh (iy (kV y p x) y p) (ji ((x+1:Nat):Int)) p))) (.cells 44 (iE (kV y p (x+1)))))])) aF)
  (λhx=>by
    exact iA (af [.c (Ky p (kV y p n) y aD aD aC aC),.c (w8 ((n+1:Nat):Int) aC),.c (GN p (iy (kV y p n) y p) (ji ((n+1:Nat):Int)) aD aD aC aC),.c (Bb p (tH y p n) (jh (iy (kV y p n) y p) (ji ((n+1:Nat):Int)) p) aD aD aC aC),.c (Kz p (jh (iy (kV y p n) y p) (ji ((n+1:Nat):Int)) p) aD aC aC),ah 26 (oH (jh (iy (kV y p n) y p) (ji ((n+1:Nat):Int)) p) p) hN]) aF) aI:jB 4 f287 (YL y p n 0) (.exit 0) ⟨32,true,[(6,.box 6 0),(5,.box 5 0),(4,.box 4 0),(2,.box 2 0)],[(6,.cells 44 (iE (jC (tH y p n) (jh (iy (kV y p n) y p) (ji ((n+1:Nat):Int)) p) p))),(5,.cells 44 (iE (jh (iy (kV y p n) y p) (ji ((n+1:Nat):Int)) p))),(4,.cells 44 au),(2,.cells 203 [iP p])]⟩) (af [.o 7 (aq 1 ((0+1:Nat):Int) aO),.b 6 (.iL rfl:Bx.le (.cells 44 (iE (ji 1))) (.cells 44 (iE (tH y p 0)))),.b 5 (.iL rfl:Bx.le (.cells 44 (iE (ji 1))) (.cells 44 (iE (kV y p 0))))]),ag [ia (jh (iy (kV y p n) y p) (ji ((n+1:Nat):Int)) p)] (YU _ aD),.c (Bb p (jC (tH y p n) (jh (iy (kV y p n) y p) (ji ((n+1:Nat):Int)) p) p) (qK (jh (iy (kV y p n) y p) (ji ((n+1:Nat):Int)) p)) aD aD aC aC)]<|rR (ia (yo y p (n+1))) (.iL rfl:E.le (ia (jC (jC (tH y p n) (jh (iy (kV y p n) y p) (ji ((n+1:Nat):Int)) p) p) (qK (jh (iy (kV y p n) y p) (ji ((n+1:Nat):Int)) p)) p)) (ia (yo y p (n+1))))) 
def alj{y:Iv}(hy:y.gX)(hb:y.all=true\/Sub y (po (-1))){p:Nat}(ib:8<=p)(gW:p<=512):∃ Z,Z.gX/\(∀ r,y.jO r->pk (EQ r) Z)/\gQ 287 [.agg [iP (p:Int)],ia y] (ia Z):=by
 obtain⟨N,h1,h2,h3,h4⟩:=adt hy hb ib gW;obtain⟨n,rfl⟩:∃ n,N=n+1:=⟨N-1,aC⟩
 exact⟨yo y p (n+1),ads hy ib gW _,λr hr=>adr hy hr hb ib gW h1 h2,ali y p n hy ib gW aC (λx hx=>h3 (x+1) aC aC) h4⟩
def alm(y Z:Iv)(p:Nat)(aeP:gQ 287 [.agg [iP (p:Int)],ia y] (ia Z)):gQ 255 [.agg [iP p],ia y,iP 0] (ia Z):=
 ak call255 func255 (af [ah 8 ((0:Int)==0) aE,ag [.agg [iP p],ia y] aeP]) 
def alk(y Z:Iv)(p n:Nat)(hy:y.gX)(hZ:Z.gX)(hn:n<=1000)(hH:gQ 255 [.agg [iP (p:Int)],ia (lF y (-1)),iP (n:Int)] (ia Z))(ib:8<=p)(gW:p<=512):gQ 255 [.agg [iP p],ia y,iP ((n+1:Nat):Int)] (ia (om Z p)):=
 ak call255 func255 (af [ai 8 (((n+1:Nat):Int)==0) (ns aC),.c (Hg y aD (-1) aC aC),ij (((n+1:Nat):Int)-1) aC,.c (by rw[show(((n+1:Nat):Int)-1)=(n:Int)by omega];exact hH:gQ 255 [.agg [iP p],ia (lF y (-1)),iP (((n+1:Nat):Int)-1)] (ia Z)),ag [ia Z,iP p] (Qo _ aD _ aC aC)]) 
def YM{p:Nat}(ib:8<=p)(gW:p<=512):∀ (n:Nat) {y:Iv},n<=500->y.gX->(y.all=true\/Sub y (po ((n:Int)-1)))->∃ Z,Z.gX/\(∀ r,y.jO r->pk (EQ r) Z)/\gQ 255 [.agg [iP (p:Int)],ia y,iP (n:Int)] (ia Z)
 | 0,y,_,hy,hb=>by
  obtain⟨Z,h1,h2,h3⟩:=alj hy (by simpa using hb) ib gW;exact⟨Z,h1,h2,alm y Z p h3⟩
 |n+1,y,hn,hy,hb=>by
  have hs:=Gv hy (-1);have nF:(lF y (-1)).all=true\/Sub (lF y (-1)) (po ((n:Int)-1)):=by
   rcases hb with hb|hb
   .left;unfold lF;rw[aZ hb];rfl
   .have:=aju hb;rwa[show(((n+1:Nat):Int)-1-1)=(n:Int)-1 by omega]at this
  obtain⟨Z,h1,h2,h3⟩:=YM ib gW n aC hs nF;exact⟨om Z p,Kf h1 aC aC,λr hr=>ags h1 (h2 _ (OV hr (-1))) aC aC,alk y Z p n hy h1 aC h3 ib gW⟩
def Ps(p m:Nat)(h1:p<=512)(h2:m<=1000):gQ 253 [iP p,iP m] (.agg [iP ((min (p+m) 512:Nat):Int)]):=
 ak call253 func253 (af [ij ((p:Int)+m) aC,.o 8 (aq (if 512<((p+m:Nat):Int)then 512 else((p+m:Nat):Int)) ((min (p+m) 512:Nat):Int) aM)]) 
def alM(d:Dy)(p:Nat)(hd:d.gX)(h0:d.iJ=0)(ib:8<=p)(gW:p<=512):gQ 230 [gU d,iP p] (ia (ji 1)):=
 ak call230 func230 (af [ag [gU d] (mJ _ aD),ah 9 ((Dy.iJ d)==0) (by rw[h0];rfl),.c (w8 1 aC)]) 
def GG{d:Dy}(hd:d.gX):-100000<=d.ig:=by
 unfold Dy.ig;have:=hd.exp;split<;>omega
def akS{d:Dy}(h:d.m=0):d.ig=0:=by unfold Dy.ig;rw[aZ h]
def alL(d:Dy)(p:Nat)(Z:Iv)(hd:d.gX)(h0:d.iJ≠0)(ht:d.ig<=100)(hZ:Z.gX)(hH:gQ 255 [.agg [iP (((min (p+(((d.ig+1).toNat)+24)) 512):Nat):Int)],ia (lE (mg d) (min (p+(((d.ig+1).toNat)+24)) 512)),iP ((((d.ig+1).toNat):Nat):Int)] (ia Z))(ib:8<=p)(gW:p<=512):gQ 230 [gU d,iP p] (ia (lE Z p)):=by
 have sC:-100000<=d.ig:=GG hd;have vp:=uV hd;exact ak call230 func230 (af [ag [gU d] (mJ _ aD),ai 9 ((Dy.iJ d)==0) (by simpa using h0),ag [gU d] (mK _ aD),ij ((Dy.ig d)+1) aC,.o 14 (aq (if 0>((Dy.ig d)+1)then 0 else((Dy.ig d)+1)) ((d.ig+1).toNat:Int) aM),ij (((d.ig+1).toNat:Int)+24) aC,.c (Ps p (((d.ig+1).toNat)+24) aC aC),.c (AA d aD),.c (Er (mg d) aD (min (p+(((d.ig+1).toNat)+24)) 512) aC aC),ag [.agg [iP ((min (p+(((d.ig+1).toNat)+24)) 512:Nat):Int)],ia (lE (mg d) (min (p+(((d.ig+1).toNat)+24)) 512)),iP ((d.ig+1).toNat:Int)] hH,.c (Er Z aD p aC aC)]) 
def ajZ{d:Dy}(h:d.iJ≠0):d.m≠0:=λq=>h (by unfold Dy.iJ;rw[aZ q])
def YX{d:Dy}(hd:d.gX)(ht:d.ig<=100){p:Nat}(ib:8<=p)(gW:p<=512):∃ Z,Z.gX/\pk (EQ d.q) Z/\gQ 230 [gU d,iP (p:Int)] (ia Z):=by
 by_cases h0:d.iJ=0
 .refine ⟨ji 1,vU aE,?_,alM d p hd h0 ib gW⟩;have hq:d.q=0:=by
   have h1:=rB d;rw[h0]at h1;have a:=h1.1.2;have b:=h1.2.2;have:¬0<d.q:=λq=>absurd (a q) aE 
   have:¬d.q<0:=λq=>absurd (b q) aE 
   grind
  rw[hq];exact pk.N5 (k:=0) λN _=>by rw[Y6];exact y4 1
 .have hm:=ajZ h0;obtain⟨P,hP⟩:∃ P,P=min (p+((d.ig+1).toNat+24)) 512:=⟨_,rfl⟩
  have hb:=adn hd hm (p:=P) aC aC (n:=((d.ig+1).toNat:Int)-1) aC aC aC;obtain⟨Z,h1,h2,h3⟩:=YM (p:=P) aC aC ((d.ig+1).toNat) aC (D0 (uV hd) aC aC) (.inr hb);subst hP;refine⟨lE Z p,D0 h1 aC aC,?_,alL d p Z hd h0 ht h1 h3 ib gW⟩;have hl:=h2 _ (Gq (uV hd) aC aC (Oi d));exact agu hl λr hr=>Gq h1 aC aC hr
def YV(a b:Iv)(ha:a.gX)(hb:b.gX):gQ 229 [ia a,ia b] (ia (uh a b)):=
 ak call229 func229 (.w (a.all=true)
  (λk1=>ae [tB 6 k1,.c nm]<|rQ (ia gT) (ia (uh a b)) (by unfold uh;simp[k1]))
  (λk1=>ae [tB 6 (aV k1)]<|.w (b.all=true)
   (λk2=>ae [tB 9 k2,.c nm]<|rQ (ia gT) (ia (uh a b)) (by unfold uh;simp[k1,k2]))
   (λk2=>ae [tB 9 (aV k2)]<|rQ (ia (Iv.mk a.lo b.hi false)) (ia (uh a b)) (by unfold uh;simp[k1,k2])))) 
def tl(d:Dy):Bool:=decide (iN (lI d) (iR 1000)<=0)
def GR(d:Dy)(hd:d.gX):gQ 228 [gU d] (bP (tl d)):=by
 have ha:=xX hd;have hi:(iR 1000).gX:=sE aE;exact ak call228 func228 (af [.c (C4 d aD),ag [iP 1000] (qL _ aC),ag [gU (lI d),gU (iR 1000)] (kH _ _ aD aD)]) 
def CJ(x:Iv)(p:Nat)(hx:x.gX)(ib:8<=p)(gW:p<=512):gQ 227 [ia x,iP p] (bP (!x.all)):=
 ak call227 func227 (.w (x.all=true)
  (λk1=>ae [tB 6 k1]<|rQ (bP false) (bP (!x.all)) (by simp[k1]))
  (λk1=>ae [tB 6 (aV k1),.c (qV x aD),tT 14 (8<=(p:Int)) aC,tT 18 ((p:Int)<=512) aC]<|rQ (bP true) (bP (!x.all)) (by simp[k1]))) 
def aly(x:Iv)(p:Nat)(hx:x.gX)(ib:8<=p)(gW:p<=512)(xa:x.all=true):gQ 201 [ia x,iP p] (ia gT):=
 ak call201 func201 (af [.c (CJ x p aD aC aC),ai 7 (!x.all) (by rw[xa];rfl),.c nm]) 
def alC(x:Iv)(p:Nat)(hx:x.gX)(ib:8<=p)(gW:p<=512)(xa:x.all=false)(h1:tl x.lo=false):gQ 201 [ia x,iP p] (ia gT):=by
 obtain⟨w1,w2⟩:=hx.jW;exact ak call201 func201 (af [.c (CJ x p aD aC aC),ah 7 (!x.all) (by rw[xa];rfl),.c (GR x.lo aD),ai 12 (tl x.lo) h1,.c nm]) 
def alA(x:Iv)(p:Nat)(hx:x.gX)(ib:8<=p)(gW:p<=512)(xa:x.all=false)(h1:tl x.lo=true)(h2:tl x.hi=false):gQ 201 [ia x,iP p] (ia gT):=by
 obtain⟨w1,w2⟩:=hx.jW;exact ak call201 func201 (af [.c (CJ x p aD aC aC),ah 7 (!x.all) (by rw[xa];rfl),.c (GR x.lo aD),ah 12 (tl x.lo) h1,.c (GR x.hi aD),ai 18 (tl x.hi) h2,.c nm]) 
def alB(x:Iv)(p:Nat)(hx:x.gX)(ib:8<=p)(gW:p<=512)(xa:x.all=false)(h1:tl x.lo=true)(h2:tl x.hi=true)(Z1 Z2:Iv)(z1:Z1.gX)(z2:Z2.gX)(k1:gQ 230 [gU x.lo,iP (p:Int)] (ia Z1))(k2:gQ 230 [gU x.hi,iP (p:Int)] (ia Z2)):gQ 201 [ia x,iP p] (ia (uh Z1 Z2)):=by
 obtain⟨w1,w2⟩:=hx.jW;exact ak call201 func201 (af [.c (CJ x p aD aC aC),ah 7 (!x.all) (by rw[xa];rfl),.c (GR x.lo aD),ah 12 (tl x.lo) h1,.c (GR x.hi aD),ah 18 (tl x.hi) h2,ag [gU x.lo,iP p] k1,ag [gU x.hi,iP p] k2,.c (YV Z1 Z2 aD aD)]) 
def VL{d:Dy}(hd:d.gX)(h:tl d=true):d.ig<=100:=by
 by_cases h0:d.m=0
 .rw [akS h0];decide
 .unfold tl at h;rw[b9,oO,AO]at h;have hq:=y8 d;have ha:iQ d.q<=P2 10:=by
   have:P2 10=1024:= aL ;rw[this];have aeJ:((1000:Int):Rat)=1000:=rfl;rw[aeJ]at h;exact xi aK aK 
  have:=Yv h0 ha;omega
def R7{a b:Iv}(ha:a.gX)(hb:b.gX)(h:a.all=false->b.all=false->a.lo.q<=b.hi.q):(uh a b).gX:=by
 unfold uh;cases xa:a.all
 .cases xb:b.all
  .exact .inr ⟨rfl,ha.jW.1,hb.jW.2,(oO _ _).2 (h xa xb)⟩
  .exact lG
 .exact lG
def alz{x:Iv}(hx:x.gX){p:Nat}(ib:8<=p)(gW:p<=512):∃ Z,Z.gX/\gQ 201 [ia x,iP (p:Int)] (ia Z):=by
 cases xa:x.all with
 |true=>exact⟨gT,lG,aly x p hx ib gW xa⟩
 |false=>
  cases h1:tl x.lo with
  |false=>exact⟨gT,lG,alC x p hx ib gW xa h1⟩
  |true=>
   cases h2:tl x.hi with
   |false=>exact⟨gT,lG,alA x p hx ib gW xa h1 h2⟩
   |true=>
    obtain⟨w1,w2⟩:=hx.jW;obtain⟨Z1,z1,l1,k1⟩:=YX w1 (VL w1 h1) ib gW;obtain⟨Z2,z2,l2,k2⟩:=YX w2 (VL w2 h2) ib gW;exact⟨uh Z1 Z2,R7 z1 z2 λa b=>agt l1 l2 (λε hε=>Y3 hx.q hε) a b,alB x p hx ib gW xa h1 h2 Z1 Z2 z1 z2 k1 k2⟩
noncomputable def XA(a:List Iv)(p:Nat)(x:Nat):PS:=⟨76,true,[(6,.e (iP x)),(5,.own 15),(0,.e (gY a)),(1,.e (iP p))],[(15,.row true 44 x 7 (iF (iT (mA a p) x)))]⟩
noncomputable def XB(a:List Iv)(p x:Nat)(z:Nat):PS:=⟨76,true,[(8,.e (iP ((z+1:Nat):Int))),(7,.box 7 0),(6,.e (iP x)),(5,.own 15),(0,.e (gY a)),(1,.e (iP p))],[(7,.cells 44 (iE (qX a (iT (mA a p) x) p x z))),(15,.row true 44 x 7 (iF (iT (mA a p) x)))]⟩
noncomputable def XL(a:List Iv)(p:Nat)(y:Nat):PS:=⟨59,true,[(6,.box 6 0),(5,.own 26),(4,.own 16),(3,.box 3 0),(2,.box 2 0)],[(6,.cells 3 [iP ((y+1:Nat):Int)]),(26,.row true 44 (y+1) 7 (iF (lk a p y).2)),(16,.row true 44 (y+1) 7 (iF (lk a p y).1)),(3,.cells 3 [iP p]),(2,.cells 26 [gY a])]⟩
noncomputable def XM(a:List Iv)(p:Nat)(x:Nat):PS:=⟨52,true,[(7,.box 7 0),(6,.box 6 0),(5,.mP 5 1 0 0),(3,.box 3 0),(0,.e (gY a))],[(7,.cells 3 [iP x]),(6,.cells 44 (iE (lF (oX (a.getD 0 gT) p) 1))),(5,.jA true 26 44 1 7 (λ_=>x) (λ_=>iF (iT (nL a p) x)) .none),(3,.cells 3 [iP p])]⟩
def Nt{a out:List Iv}{p k:Nat}(hp:1<=p)(gW:p<=4096):∀ n,(qX a out p k n).gX
 | 0=>xQ 0 aE 
 |n+1=>qJ (Nt hp gW n) (nY _ _ hp gW) hp gW
def ajD(a:List Iv)(n p:Nat)(h1:1<=n)(ni:n<=17)(ha:kr n a)(ib:8<=p)(gW:p<=512)(hF:ue):gQ 168 [gY a,iP p] (gY (DF a p)):=by
 have la:=ha.len;have va0:=ha.ok 0;have o0:(λ_:Nat=>(0:Nat)) 0=0:=rfl;have T5:=pA (uq (a.getD 0 gT) p);exact ak call168 func168 (ae [.o 10 (.e (Ci _):aj (.sl true 1 1 λi_ j_=>[gY a].getD (i_*1+j_) (.v (.bool false))) (kK [a])),.c (wk [a] n aC aC aH (Bf aD)),.a (aC:0<=(0:Int)/\(0:Int)<=((a.length:Int):Int)),.a (aC:((88:Nat):Int)*(a.length:Int)<=281474976710656/\((a.length:Int):Int)<=9223372036854775807),
  iX 0 (a.length) aC,ag [ia (a.getD 0 gT),iP p] (Sj _ aD _ aC aC hF),.o 22 (.e (lq _):aj (.sl true 1 7 λi_ j_=>(iE (uq (a.getD 0 gT) p)).getD (i_*7+j_) (.v (.bool false))) (gY [uq (a.getD 0 gT) p])),.a (aC:(0+[uq (a.getD 0 gT) p].length)*88<=140737488355328),.s (Sp.jE (XA a p) 1 a.length aC (λx hx mn=>by
    have nN:(λ_:Nat=>x) 0=x:=rfl;have pt:kr x (iT (mA a p) x):=AR x λk l _ _=>by unfold mA;split<;>first|exact LH _ _|exact pX _ _ aC aC 
    have v0:=xQ 0 aC;have vw:=xQ x aC;have vx:=ha.ok x;have vg:=Nt (a:=a) (out:=(iT (mA a p) x)) (k:=x) (aC:1<=p) (aC:p<=4096) (x-1);have vd:(jh (qX a (iT (mA a p) x) p x (x-1)) (jQ x) p).gX:=pX _ _ aC aC;have vs:(rD (a.getD x gT) (jh (qX a (iT (mA a p) x) p x (x-1)) (jQ x) p) p).gX:=O8 aC aC vx vd;have rq:=pA (jh (rD (a.getD x gT) (jh (qX a (iT (mA a p) x) p x (x-1)) (jQ x) p) p) (a.getD 0 gT) p);exact iA (ae [tT 27 ((x:Int)<a.length) aC,.c (AW 0 aC),.s (Sp.jE (XB a p x) 0 (x-1) aC (λz hz al1=>by
    have v1:=Nt (a:=a) (out:=(iT (mA a p) x)) (k:=x) (aC:1<=p) (aC:p<=4096) z;have v2:=xQ (z+1) aC;have v3:=pt.ok (z+1);have v4:=ha.ok (x-(z+1));have v5:(iy (jQ (z+1)) ((iT (mA a p) x).getD (z+1) gT) p).gX:=nY _ _ aC aC;have v6:(iy (iy (jQ (z+1)) ((iT (mA a p) x).getD (z+1) gT) p) (a.getD (x-(z+1)) gT) p).gX:=nY _ _ aC aC;exact iA (ae [tT 33 (((z+1:Nat):Int)<x) aC,.c (AW (z+1) aC),iX ((z+1:Nat):Int) x aC,.a (aC:(z+1)<x),.c (tg (jQ (z+1)) ((iT (mA a p) x).getD (z+1) gT) p aD aD aC aC),ij ((x:Int)-((z+1:Nat):Int)) aC,.o 48 (aq ((x:Int)-((z+1:Nat):Int)) ((x-(z+1):Nat):Int) aC),iX ((x-(z+1):Nat):Int) (a.length) aC,.c (tg (iy (jQ (z+1)) ((iT (mA a p) x).getD (z+1) gT) p) (a.getD (x-(z+1)) gT) p aD aD aC aC),.c (yP (qX a (iT (mA a p) x) p x z) (iy (iy (jQ (z+1)) ((iT (mA a p) x).getD (z+1) gT) p) (a.getD (x-(z+1)) gT) p) p aD aD aC aC),
     ij (((z+1:Nat):Int)+1) aC]<|.e (af [.b 7 (.iL rfl:Bx.le (.cells 44 (iE (jC (qX a (iT (mA a p) x) p x z) (iy (iy (jQ (z+1)) ((iT (mA a p) x).getD (z+1) gT) p) (a.getD (x-(z+1)) gT) p) p))) (.cells 44 (iE (qX a (iT (mA a p) x) p x (z+1)))))])) aF)
  (λhz=>by
    exact iA (af [tF 33 ((((x-1)+1:Nat):Int)<x) aC]) aF) aI:jB 10 f168 (XB a p x 0) (.exit 2) ⟨76,true,[(7,.box 7 0),(6,.e (iP x)),(5,.own 15),(0,.e (gY a)),(1,.e (iP p))],[(7,.cells 44 (iE (qX a (iT (mA a p) x) p x (x-1)))),(15,.row true 44 x 7 (iF (iT (mA a p) x)))]⟩) (af [.o 8 (aq 1 ((0+1:Nat):Int) aO),.b 7 (.iL rfl:Bx.le (.cells 44 (iE (jQ 0))) (.cells 44 (iE (qX a (iT (mA a p) x) p x 0))))]),
     iX (x:Int) (a.length) aC,.c (AW x aC),.c (yQ (qX a (iT (mA a p) x) p x (x-1)) (jQ x) p aD aD aC aC),.c (Jn (a.getD x gT) (jh (qX a (iT (mA a p) x) p x (x-1)) (jQ x) p) p aD aD aC aC),iX 0 (a.length) aC,.c (yQ (rD (a.getD x gT) (jh (qX a (iT (mA a p) x) p x (x-1)) (jQ x) p) p) (a.getD 0 gT) p aD aD aC aC),.o 73 (.e (lq _):aj (.sl true 1 7 λi_ j_=>(iE (jh (rD (a.getD x gT) (jh (qX a (iT (mA a p) x) p x (x-1)) (jQ x) p) p) (a.getD 0 gT) p)).getD (i_*7+j_) (.v (.bool false))) (gY [jh (rD (a.getD x gT) (jh (qX a (iT (mA a p) x) p x (x-1)) (jQ x) p) p) (a.getD 0 gT) p])),.a (aC:(x+[jh (rD (a.getD x gT) (jh (qX a (iT (mA a p) x) p x (x-1)) (jQ x) p) p) (a.getD 0 gT) p].length)*88<=140737488355328),ij ((x:Int)+1) aC]<|.e (af [.b 15 (aix rfl (by unfold mA;rw[aY aC]):Bx.le (.row true 44 (x+[jh (rD (a.getD x gT) (jh (qX a (iT (mA a p) x) p x (x-1)) (jQ x) p) p) (a.getD 0 gT) p].length) 7 (λi_ j_=>if i_<x then(iF (iT (mA a p) x)) i_ j_ else(E.kE (gY [jh (rD (a.getD x gT) (jh (qX a (iT (mA a p) x) p x (x-1)) (jQ x) p) p) (a.getD 0 gT) p])) (i_-x) j_)) (.row true 44 (x+1) 7 (iF (iT (mA a p) (x+1)))))])) aF)
  (λhx=>by
    exact iA (ae [tF 27 ((a.length:Int)<a.length) aC,.z 15]<|.e (af [.o 5 (.e (AU (xP _ _).symm):aj (.sl true a.length 7 (iF (iT (mA a p) a.length))) (gY (iT (mA a p) a.length)))])) aF) aI:jB 6 f168 (XA a p 1) (.exit 0) ⟨76,true,[(5,.e (gY (iT (mA a p) a.length)))],[]⟩) (af [.b 15 (aiw rfl:Bx.le (.row true 44 (0+[uq (a.getD 0 gT) p].length) 7 (λi_ j_=>if i_<0 then(λ_ j_=>au.getD j_ .any) i_ j_ else(E.kE (gY [uq (a.getD 0 gT) p])) (i_-0) j_)) (.row true 44 1 7 (iF (iT (mA a p) 1))))])]<|rR (gY (DF a p)) (.iL rfl:E.le (gY (iT (mA a p) a.length)) (gY (DF a p)))) 
def ajH(a out:List Iv)(i k p m:Nat)(TL:1<=i)(hi:i<=k)(hk:k<a.length)(hm:k<=m)(l17:a.length<=17)(va:lQ a)(vo:lQ out)(ib:8<=p)(gW:p<=512):gQ 207 [iP i,(.iM 1 λj_=>[gY a].getD j_ .any),(.iM 1 λj_=>[iP p].getD j_ .any),(.iM 1 λj_=>[.sl true m 7 (iF out)].getD j_ .any),(.iM 1 λj_=>[iP k].getD j_ .any)] (ia (iy (iy (jQ i) (a.getD i gT) p) (out.getD (k-i) gT) p)):=by
 have v1:=va i;have v2:=vo (k-i);have v3:=xQ i aC;have v4:(iy (jQ i) (a.getD i gT) p).gX:=nY _ _ aC aC;exact ak call207 func207 (af [.c (AW i aC),iX (i:Int) (a.length) aC,.c (tg (jQ i) (a.getD i gT) p aD aD aC aC),ij ((k:Int)-i) aC,.o 18 (aq ((k:Int)-i) ((k-i:Nat):Int) aC),iX ((k-i:Nat):Int) m aC,.c (tg (iy (jQ i) (a.getD i gT) p) (out.getD (k-i) gT) p aD aD aC aC)]) 
def XG(a out:List Iv)(k p m:Nat)(nX:1<=k)(hk:k<a.length)(hm:k<=m)(l17:a.length<=17)(va:lQ a)(vo:lQ out)(ib:8<=p)(gW:p<=512):gQ 206 [.sl true m 7 (iF out),(.iM 1 λj_=>[iP k].getD j_ .any),(.iM 1 λj_=>[iP p].getD j_ .any),(.iM 1 λj_=>[gY a].getD j_ .any)] (ia (qA a p k out)):=by
 have vs:=GC (aC:1<=p) (aC:p<=4096) (T:=(λi=>(iy (iy (jQ i) (a.getD i gT) p) (out.getD (k-i) gT) p))) (a:=1) (k-1) λ_ _ _=>nY _ _ aC aC 
 have vw:=xQ k aC;exact ak call206 func206 (ae [.c (J9 1 (k-1) p _ aC _ _ (λi=>(iy (iy (jQ i) (a.getD i gT) p) (out.getD (k-i) gT) p)) aC ib gW λi h1 h2=>⟨nY _ _ aC aC,ajH a out i k p m h1 aC hk hm l17 va vo ib gW⟩:gQ 192 [iP 1,iP k,iP p,.fn 207 [(.iM 1 λj_=>[gY a].getD j_ .any),(.iM 1 λj_=>[iP p].getD j_ .any),(.iM 1 λj_=>[.sl true m 7 (iF out)].getD j_ .any),(.iM 1 λj_=>[iP k].getD j_ .any)]] _),.c (AW k aC),.c (yQ (lN p (λi=>(iy (iy (jQ i) (a.getD i gT) p) (out.getD (k-i) gT) p)) 1 (k-1)) (jQ k) p aD aD aC aC)]<|rR (ia (qA a p k out)) (.iL rfl:E.le (ia (jh (lN p (λi=>(iy (iy (jQ i) (a.getD i gT) p) (out.getD (k-i) gT) p)) 1 (k-1)) (jQ k) p)) (ia (qA a p k out)))) 
def Xp{T y:Nat}{xs:List Iv}{v:Iv}(h:xs.length=y+1):Bx.le (.row true T ((y+1)+[v].length) 7 λi j=>if i<y+1 then iF xs i j else(E.kE (gY [v])) (i-(y+1)) j) (.row true T (y+1+1) 7 (iF (xs++[v]))):=by
 have e:=Jo (T:=T) (n:=y+1) (xs:=xs) (y:=v) h.symm;have e2:(xs++[v]).length=y+1+1:=by simp[h]
 rw[e2]at e;exact e
def Xo{T:Nat}{v:Iv}{e:Nat->Nat->E}:Bx.le (.row true T (0+[v].length) 7 λa j=>if a<0 then e a j else(E.kE (gY [v])) (a-0) j) (.row true T (0+1) 7 (iF [v])):=.row rfl λi j hi hj=>by
 have hi:i<0+1:=hi;obtain rfl:i=0:= aC ;exact⟨.iL rfl,tf _ _ hj⟩
def XJ(a:List Iv)(n p:Nat)(h1:1<=n)(ni:n<=17)(ha:kr n a)(ib:8<=p)(gW:p<=512)(hF:ue):gQ 169 [gY a,iP p] (.ie [gY (lk a p (a.length-1)).1,gY (lk a p (a.length-1)).2]):=by
 have la:=ha.len;have va0:=ha.ok 0;have pt:=Gu (aC:1<=p) (aC:p<=4096) a (a.length-1);have afg:=pA (ur (a.getD 0 gT) p);have afh:=pA (uk (a.getD 0 gT) p);exact ak call169 func169 (ae [.o 11 (.e (Ci _):aj (.sl true 1 1 λi_ j_=>[gY a].getD (i_*1+j_) (.v (.bool false))) (kK [a])),.c (wk [a] n aC aC aH (Bf aD)),.a (aC:0<=(0:Int)/\(0:Int)<=((a.length:Int):Int)),.a (aC:((88:Nat):Int)*(a.length:Int)<=281474976710656/\((a.length:Int):Int)<=9223372036854775807),
  iX 0 (a.length) aC,ag [ia (a.getD 0 gT),iP p] (Sk _ aD _ aC aC hF),.o 22 (.e (lq _):aj (.sl true 1 7 λi_ j_=>(iE (ur (a.getD 0 gT) p)).getD (i_*7+j_) (.v (.bool false))) (gY [ur (a.getD 0 gT) p])),.a (aC:(0+[ur (a.getD 0 gT) p].length)*88<=140737488355328),.a (aC:0<=(0:Int)/\(0:Int)<=((a.length:Int):Int)),.a (aC:((88:Nat):Int)*(a.length:Int)<=281474976710656/\((a.length:Int):Int)<=9223372036854775807),iX 0 (a.length) aC,ag [ia (a.getD 0 gT),iP p] (Sg _ aD _ aC aC hF),.o 32 (.e (lq _):aj (.sl true 1 7 λi_ j_=>(iE (uk (a.getD 0 gT) p)).getD (i_*7+j_) (.v (.bool false))) (gY [uk (a.getD 0 gT) p])),.a (aC:(0+[uk (a.getD 0 gT) p].length)*88<=140737488355328),.s (Sp.jE (XL a p) 0 (a.length-1) aC (λy hy al0=>by
    have pt:=Gu (aC:1<=p) (aC:p<=4096) a y;have vp:=Og (aC:1<=p) (aC:p<=4096) a (lk a p y).1 (y+1);have afg:=pA (qA a p (y+1) (lk a p y).2);have afh:=pA (pz (qA a p (y+1) (lk a p y).1));exact iA (ae [tT 37 (((y+1:Nat):Int)<a.length) aC,ag [.sl true (y+1) 7 (iF (lk a p y).2),(.iM 1 λj_=>[iP ((y+1:Nat):Int)].getD j_ .any),(.iM 1 λj_=>[iP p].getD j_ .any),(.iM 1 λj_=>[gY a].getD j_ .any)] (XG a (lk a p y).2 (y+1) p _ aC aC aC aC ha.ok pt.2.ok ib gW),.a (FN _:vf (ia (qA a p (y+1) (lk a p y).2))),ag [.sl true (y+1) 7 (iF (lk a p y).1),(.iM 1 λj_=>[iP ((y+1:Nat):Int)].getD j_ .any),(.iM 1 λj_=>[iP p].getD j_ .any),(.iM 1 λj_=>[gY a].getD j_ .any)] (XG a (lk a p y).1 (y+1) p _ aC aC aC aC ha.ok pt.1.ok ib gW),.a (FN _:vf (ia (qA a p (y+1) (lk a p y).1))),.c (Jl (qA a p (y+1) (lk a p y).1) aD),.o 50 (.e (lq _):aj (.sl true 1 7 λi_ j_=>(iE (qA a p (y+1) (lk a p y).2)).getD (i_*7+j_) (.v (.bool false))) (gY [qA a p (y+1) (lk a p y).2])),.a (aC:((y+1)+[qA a p (y+1) (lk a p y).2].length)*88<=140737488355328),.o 54 (.e (lq _):aj (.sl true 1 7 λi_ j_=>(iE (pz (qA a p (y+1) (lk a p y).1))).getD (i_*7+j_) (.v (.bool false))) (gY [pz (qA a p (y+1) (lk a p y).1)])),.a (aC:((y+1)+[pz (qA a p (y+1) (lk a p y).1)].length)*88<=140737488355328),ij (((y+1:Nat):Int)+1) aC]<|.e (af [.b 26 (Xp pt.2.len:Bx.le (.row true 44 ((y+1)+[pz (qA a p (y+1) (lk a p y).1)].length) 7 (λi_ j_=>if i_<(y+1)then(iF (lk a p y).2) i_ j_ else(E.kE (gY [pz (qA a p (y+1) (lk a p y).1)])) (i_-(y+1)) j_)) (.row true 44 ((y+1)+1) 7 (iF (lk a p (y+1)).2))),.b 16 (Xp pt.1.len:Bx.le (.row true 44 ((y+1)+[qA a p (y+1) (lk a p y).2].length) 7 (λi_ j_=>if i_<(y+1)then(iF (lk a p y).1) i_ j_ else(E.kE (gY [qA a p (y+1) (lk a p y).2])) (i_-(y+1)) j_)) (.row true 44 ((y+1)+1) 7 (iF (lk a p (y+1)).1)))])) aF)
  (λhy=>by
    exact iA (af [tF 37 ((((a.length-1)+1:Nat):Int)<a.length) aC]) aF) aI:jB 6 f169 (XL a p 0) (.exit 0) ⟨59,true,[(5,.own 26),(4,.own 16)],[(26,.row true 44 ((a.length-1)+1) 7 (iF (lk a p (a.length-1)).2)),(16,.row true 44 ((a.length-1)+1) 7 (iF (lk a p (a.length-1)).1))]⟩) (af [.b 6 (.iL rfl:Bx.le (.cells 3 [iP 1]) (.cells 3 [iP ((0+1:Nat):Int)])),.b 26 (Xo:Bx.le (.row true 44 (0+[uk (a.getD 0 gT) p].length) 7 (λi_ j_=>if i_<0 then(λ_ j_=>au.getD j_ .any) i_ j_ else(E.kE (gY [uk (a.getD 0 gT) p])) (i_-0) j_)) (.row true 44 (0+1) 7 (iF (lk a p 0).2))),.b 16 (Xo:Bx.le (.row true 44 (0+[ur (a.getD 0 gT) p].length) 7 (λi_ j_=>if i_<0 then(λ_ j_=>au.getD j_ .any) i_ j_ else(E.kE (gY [ur (a.getD 0 gT) p])) (i_-0) j_)) (.row true 44 (0+1) 7 (iF (lk a p 0).1)))])]<|rR (.ie [gY (lk a p (a.length-1)).1,gY (lk a p (a.length-1)).2]) (.ie (.cons (AU (by rw[pt.1.len])) (.cons (AU (by rw[pt.2.len])) .nil)):E.le (.ie [.sl true ((a.length-1)+1) 7 (iF (lk a p (a.length-1)).1),.sl true ((a.length-1)+1) 7 (iF (lk a p (a.length-1)).2)]) (.ie [gY (lk a p (a.length-1)).1,gY (lk a p (a.length-1)).2]))) 
def ajM(out:List Iv)(i k p m:Nat)(TL:1<=i)(hi:i<k)(hm:k<=m)(k17:k<=17)(vo:lQ out)(ib:8<=p)(gW:p<=512):gQ 210 [iP i,(.iM 1 λ_=>.sl true m 7 (iF out)),(.iM 1 λj_=>[iP k].getD j_ .any),(.iM 1 λj_=>[iP p].getD j_ .any)] (ia (iy (out.getD i gT) (out.getD (k-i) gT) p)):=by
 have v1:=vo i;have v2:=vo (k-i);exact ak call210 func210 (af [iX (i:Int) m aC,ij ((k:Int)-i) aC,.o 13 (aq ((k:Int)-i) ((k-i:Nat):Int) aC),
  iX ((k-i:Nat):Int) m aC,.c (tg (out.getD i gT) (out.getD (k-i) gT) p aD aD aC aC)]) 
def ajN(a:List Iv)(n p:Nat)(h1:1<=n)(ni:n<=17)(ha:kr n a)(ib:8<=p)(gW:p<=512)(hF:ue):gQ 170 [gY a,iP p] (gY (A5 a p)):=by
 have la:=ha.len;have va0:=ha.ok 0;have o0:(λ_:Nat=>(0:Nat)) 0=0:=rfl;have T5:=pA (oX (a.getD 0 gT) p);exact ak call170 func170 (ae [.o 10 (.e (Ci _):aj (.sl true 1 1 λi_ j_=>[gY a].getD (i_*1+j_) (.v (.bool false))) (kK [a])),.c (wk [a] n aC aC aH (Bf aD)),.a (aC:0<=(0:Int)/\(0:Int)<=((a.length:Int):Int)),.a (aC:((88:Nat):Int)*(a.length:Int)<=281474976710656/\((a.length:Int):Int)<=9223372036854775807),.a (aC:0<1),
  iX 0 (a.length) aC,ag [ia (a.getD 0 gT),iP p] (Sn _ aD _ aC aC hF),.o 22 (.e (lq _):aj (.sl true 1 7 λi_ j_=>(iE (oX (a.getD 0 gT) p)).getD (i_*7+j_) (.v (.bool false))) (gY [oX (a.getD 0 gT) p])),.a (aC:0<1),.a (aC:((λ_=>0) 0+[oX (a.getD 0 gT) p].length)*88<=140737488355328),.a (rfl:0=0),.a (rfl:0=0),.a (aC:0<1),.a (aC:0<1),.a (aC:0<1),.a (aH:0<=(0:Int)/\(0:Int)<(((λq=>if q=0 then(λ_=>0) q+[oX (a.getD 0 gT) p].length else(λ_=>0) q) 0:Nat):Int)),.a (aC:0<1),.a (aH:0<(λq=>if q=0 then(λ_=>0) q+[oX (a.getD 0 gT) p].length else(λ_=>0) q) 0),.c (Hg ([oX (a.getD 0 gT) p].getD 0 gT) (EW _ _) 1 aE aE),.s (Sp.jE (XM a p) 1 a.length aC (λx hx mn=>by
    have nN:(λ_:Nat=>x) 0=x:=rfl;have pt:kr x (iT (nL a p) x):=AR x λk l _ _=>by unfold nL;split<;>first|exact EW _ _|exact pX _ _ aC aC 
    have vls:=Jr (aC:1<=p) (aC:p<=4096) (ha.ok x) (T:=(λi=>iy ((iT (nL a p) x).getD i gT) ((iT (nL a p) x).getD (x-i) gT) p)) (a:=1) (x-1) λ_ _ _=>nY _ _ aC aC 
    have vx:=ha.ok x;have vsc:(lF (oX (a.getD 0 gT) p) 1).gX:=Gv (EW _ _) 1;have rq:=pA (jh (oR p (a.getD x gT) (λi=>iy ((iT (nL a p) x).getD i gT) ((iT (nL a p) x).getD (x-i) gT) p) 1 (x-1)) (lF (oX (a.getD 0 gT) p) 1) p);exact iA (ae [tT 31 ((x:Int)<a.length) aC,iX (x:Int) (a.length) aC,ij ((x:Int)-1) aC,.c (Xz _ (ha.ok x) 1 (x-1) p _ aC _ _ (λi=>iy ((iT (nL a p) x).getD i gT) ((iT (nL a p) x).getD (x-i) gT) p) aC ib gW λi h1 h2=>⟨nY _ _ aC aC,ajM _ i x p _ h1 aC aC aC pt.ok ib gW⟩:gQ 194 [ia (a.getD x gT),iP 1,iP ((x:Int)-1),iP p,.fn 210 [(.iM 1 λ_=>(.sl true ((λ_=>x) 0) 7 ((λ_=>iF (iT (nL a p) x)) 0))),(.iM 1 λj_=>[iP x].getD j_ .any),(.iM 1 λj_=>[iP p].getD j_ .any)]] _),.a (FN _:vf (ia (oR p (a.getD x gT) (λi=>iy ((iT (nL a p) x).getD i gT) ((iT (nL a p) x).getD (x-i) gT) p) 1 (x-1)))),.a (aC:0<1),.c (yQ (oR p (a.getD x gT) (λi=>iy ((iT (nL a p) x).getD i gT) ((iT (nL a p) x).getD (x-i) gT) p) 1 (x-1)) (lF (oX (a.getD 0 gT) p) 1) p aD aD aC aC),.o 48 (.e (lq _):aj (.sl true 1 7 λi_ j_=>(iE (jh (oR p (a.getD x gT) (λi=>iy ((iT (nL a p) x).getD i gT) ((iT (nL a p) x).getD (x-i) gT) p) 1 (x-1)) (lF (oX (a.getD 0 gT) p) 1) p)).getD (i_*7+j_) (.v (.bool false))) (gY [jh (oR p (a.getD x gT) (λi=>iy ((iT (nL a p) x).getD i gT) ((iT (nL a p) x).getD (x-i) gT) p) 1 (x-1)) (lF (oX (a.getD 0 gT) p) 1) p])),.a (aC:0<1),.a (aC:((λ_=>x) 0+[jh (oR p (a.getD x gT) (λi=>iy ((iT (nL a p) x).getD i gT) ((iT (nL a p) x).getD (x-i) gT) p) 1 (x-1)) (lF (oX (a.getD 0 gT) p) 1) p].length)*88<=140737488355328),.a (rfl:0=0),.a (rfl:0=0),.a (aC:0<1),ij ((x:Int)+1) aC]<|.e (af [.b 5 (OD (by unfold nL;rw[aY aC]):Bx.le (.jA true 26 44 1 7 (λq=>if q=0 then(λ_=>x) q+[jh (oR p (a.getD x gT) (λi=>iy ((iT (nL a p) x).getD i gT) ((iT (nL a p) x).getD (x-i) gT) p) 1 (x-1)) (lF (oX (a.getD 0 gT) p) 1) p].length else(λ_=>x) q) (λq i j=>if q=0 then(if i<(λ_=>x) q then(λ_=>iF (iT (nL a p) x)) q i j else(E.kE (gY [jh (oR p (a.getD x gT) (λi=>iy ((iT (nL a p) x).getD i gT) ((iT (nL a p) x).getD (x-i) gT) p) 1 (x-1)) (lF (oX (a.getD 0 gT) p) 1) p])) (i-(λ_=>x) q) j)else(λ_=>iF (iT (nL a p) x)) q i j) .none) (.jA true 26 44 1 7 (λ_=>(x+1)) (λ_=>iF (iT (nL a p) (x+1))) .none))])) aF)
  (λhx=>by
    exact iA (af [tF 31 ((a.length:Int)<a.length) aC]) aF) aI:jB 7 f170 (XM a p 1) (.exit 0) ⟨52,true,[(5,.mP 5 1 0 0)],[(5,.jA true 26 44 1 7 (λ_=>a.length) (λ_=>iF (iT (nL a p) a.length)) .none)]⟩) (af [.b 5 (W0 rfl:Bx.le (.jA true 26 44 1 7 (λq=>if q=0 then(λ_=>0) q+[oX (a.getD 0 gT) p].length else(λ_=>0) q) (λq i j=>if q=0 then(if i<(λ_=>0) q then(λ_=>λ_ j_=>au.getD j_ .any) q i j else(E.kE (gY [oX (a.getD 0 gT) p])) (i-(λ_=>0) q) j)else(λ_=>λ_ j_=>au.getD j_ .any) q i j) .none) (.jA true 26 44 1 7 (λ_=>1) (λ_=>iF (iT (nL a p) 1)) .none))]),.a (aC:0<1)]<|rR (gY (A5 a p)) (AU (xs:=A5 a p) (by unfold A5;rw[xP]):E.le (.sl true ((λ_=>a.length) 0) 7 ((λ_=>iF (iT (nL a p) a.length)) 0)) (gY (A5 a p)))) 
def Gw(o:mF)(a b:List Iv)(n p:Nat)(h1:1<=n)(ni:n<=17)(ha:kr n a)(hb:kr n b)(ib:8<=p)(gW:p<=512)(r1:3<=o.kind)(r2:o.kind<=13)(r3:o.n<=16)(hF:o.kind<=8\/ue):gQ 120 [iP o.kind,iP o.n,gY a,gY b,iP p] (gY (mX o a b p)):=
 ak call120 func120 (.w ((o.kind:Int)=3)
  (λk1=>ae [tB 17 (aU k1),.c (ajy a b n p h1 ni ha hb ib gW)]<|rQ (gY (CO a b p)) (gY (mX o a b p)) (by unfold mX;simp[(aC:o.kind=3)]))
  (λk1=>ae [tB 17 (aT k1)]<|.w ((o.kind:Int)=4)
   (λk2=>ae [tB 23 (aU k2),.c (ajP a b n p h1 ni ha hb ib gW)]<|rQ (gY (D5 a b p)) (gY (mX o a b p)) (by unfold mX;simp[(aC:¬o.kind=3),(aC:o.kind=4)]))
   (λk2=>ae [tB 23 (aT k2)]<|.w ((o.kind:Int)=5)
    (λk3=>ae [tB 29 (aU k3),.c (ajE a b n p h1 ni ha hb ib gW)]<|rQ (gY (sI a b p)) (gY (mX o a b p)) (by unfold mX;simp[(aC:¬o.kind=3),(aC:¬o.kind=4),(aC:o.kind=5)]))
    (λk3=>ae [tB 29 (aT k3)]<|.w ((o.kind:Int)=6)
     (λk4=>ae [tB 35 (aU k4),.c (ajA a b n p h1 ni ha hb ib gW)]<|rQ (gY (zW a b p)) (gY (mX o a b p)) (by unfold mX;simp[(aC:¬o.kind=3),(aC:¬o.kind=4),(aC:¬o.kind=5),(aC:o.kind=6)]))
     (λk4=>ae [tB 35 (aT k4)]<|.w ((o.kind:Int)=7)
      (λk5=>ae [tB 41 (aU k5),.c (ajG a n h1 ni ha)]<|rQ (gY (DK a)) (gY (mX o a b p)) (by unfold mX;simp[(aC:¬o.kind=3),(aC:¬o.kind=4),(aC:¬o.kind=5),(aC:¬o.kind=6),(aC:o.kind=7)]))
      (λk5=>ae [tB 41 (aT k5)]<|.w ((o.kind:Int)=8)
       (λk6=>ae [tB 45 (aU k6),ag [gY a,iP o.n,iP p] (ajL a n p o.n h1 ni ha ib gW r3)]<|rQ (gY (sL a o.n p)) (gY (mX o a b p)) (by unfold mX;simp[(aC:¬o.kind=3),(aC:¬o.kind=4),(aC:¬o.kind=5),(aC:¬o.kind=6),(aC:¬o.kind=7),(aC:o.kind=8)]))
       (λk6=>ae [tB 45 (aT k6)]<|.w ((o.kind:Int)=9)
        (λk7=>ae [tB 51 (aU k7),.c (ajC a n p h1 ni ha ib gW (hF.resolve_left aC))]<|rQ (gY (Aa a p)) (gY (mX o a b p)) (by unfold mX;simp[(aC:¬o.kind=3),(aC:¬o.kind=4),(aC:¬o.kind=5),(aC:¬o.kind=6),(aC:¬o.kind=7),(aC:¬o.kind=8),(aC:o.kind=9)]))
        (λk7=>ae [tB 51 (aT k7)]<|.w ((o.kind:Int)=10)
         (λk8=>ae [tB 56 (aU k8),.c (ajD a n p h1 ni ha ib gW (hF.resolve_left aC))]<|rQ (gY (DF a p)) (gY (mX o a b p)) (by unfold mX;simp[(aC:¬o.kind=3),(aC:¬o.kind=4),(aC:¬o.kind=5),(aC:¬o.kind=6),(aC:¬o.kind=7),(aC:¬o.kind=8),(aC:¬o.kind=9),(aC:o.kind=10)]))
         (λk8=>ae [tB 56 (aT k8)]<|.w ((o.kind:Int)=11)
          (λk9=>ae [tB 61 (aU k9),.c (XJ a n p h1 ni ha ib gW (hF.resolve_left aC))]<|rQ (gY ((lk a p (a.length-1)).1)) (gY (mX o a b p)) (by unfold mX;simp[(aC:¬o.kind=3),(aC:¬o.kind=4),(aC:¬o.kind=5),(aC:¬o.kind=6),(aC:¬o.kind=7),(aC:¬o.kind=8),(aC:¬o.kind=9),(aC:¬o.kind=10),(aC:o.kind=11)]))
          (λk9=>ae [tB 61 (aT k9)]<|.w ((o.kind:Int)=12)
           (λk10=>ae [tB 70 (aU k10),.c (XJ a n p h1 ni ha ib gW (hF.resolve_left aC))]<|rQ (gY ((lk a p (a.length-1)).2)) (gY (mX o a b p)) (by unfold mX;simp[(aC:¬o.kind=3),(aC:¬o.kind=4),(aC:¬o.kind=5),(aC:¬o.kind=6),(aC:¬o.kind=7),(aC:¬o.kind=8),(aC:¬o.kind=9),(aC:¬o.kind=10),(aC:¬o.kind=11),(aC:o.kind=12)]))
           (λk10=>ae [tB 70 (aT k10)]<|.w ((o.kind:Int)=13)
            (λk11=>ae [tB 79 (aU k11),.c (ajN a n p h1 ni ha ib gW (hF.resolve_left aC))]<|rQ (gY (A5 a p)) (gY (mX o a b p)) (by unfold mX;simp[(aC:¬o.kind=3),(aC:¬o.kind=4),(aC:¬o.kind=5),(aC:¬o.kind=6),(aC:¬o.kind=7),(aC:¬o.kind=8),(aC:¬o.kind=9),(aC:¬o.kind=10),(aC:¬o.kind=11),(aC:¬o.kind=12),(aC:o.kind=13)]))
            (λk11=>.x aC)))))))))))) 
noncomputable def UY(t:pn)(ic:List (List Iv))(k p:Nat)(x:Nat):PS:=⟨98,true,[(21,.e (iP x)),(20,.e (iP t.gS.length)),(19,.e (kD t.gS)),(9,.own 15),(4,.box 4 0),(2,.e (iP k)),(3,.e (iP p))],[(15,.row true 26 ((iK t.gS ic k p x).length) 1 (lV (iK t.gS ic k p x))),(4,.cells 25 [iP t.ic,kD t.gS,kC t.iu])]⟩
noncomputable def UZ(t:pn)(ic:List (List Iv))(k p:Nat)(x:Nat):PS:=⟨98,true,[(12,.own 12),(85,.e (iP x)),(84,.e (iP t.iu.length)),(83,.e (kC t.iu)),(9,.own 15)],[(12,.row true 26 (((t.iu.take x).map λj=>(iK t.gS ic k p t.gS.length).getD j []).length) 1 (lV ((t.iu.take x).map λj=>(iK t.gS ic k p t.gS.length).getD j []))),(15,.row true 26 ((iK t.gS ic k p t.gS.length).length) 1 (lV (iK t.gS ic k p t.gS.length)))]⟩
abbrev Vd(n:Nat)(M:List (List Iv)):E:=.mY false true n 1 λk _=>.mY true true (mH M k) 7 (oc M k)
def UW(s:jz)(n:Nat)(M:List (List Iv))(k:Nat)(x:Nat):PS:=⟨43,true,[(7,.own 7),(14,.e (iP x)),(13,.e (iP n)),(12,.e (Vd n M)),(3,.box 3 0),(2,.e (iP k))],[(7,.row true 26 (((M.take x).map λc=>c.take (k+1)).length) 1 (lV ((M.take x).map λc=>c.take (k+1)))),(3,.cells 28 [iP s.tape.ic,kD s.tape.gS,kC s.tape.iu,iP s.iH,gY s.params])]⟩
def UX(s:jz)(n:Nat)(M:List (List Iv))(k:Nat)(x:Nat):PS:=⟨43,true,[(31,.e (iP x)),(30,.e (iP s.params.length)),(29,.e (gY s.params)),(7,.own 7),(2,.e (iP k))],[(7,.row true 26 (((M.map λc=>c.take (k+1))++(s.params.take x).map λa=>nB a k).length) 1 (lV ((M.map λc=>c.take (k+1))++(s.params.take x).map λa=>nB a k)))]⟩
noncomputable def nn(s:jz)(x:List Iv)(p n i:Nat):List (List Iv):=(List.range x.length).map λq=>(jc s x p n).getD q []++(if q<i then[Cm s (jc s x p n) p n q]else[])
def U2(s:jz)(x:List Iv)(k p:Nat)(w:Nat):PS:=⟨72,true,[(9,.own 9),(18,.e (iP w)),(17,.e (iP x.length)),(16,.e (gY x)),(4,.box 4 0),(2,.e (iP k)),(3,.e (iP p))],[(9,.jA true 26 44 w 7 (mH (x.map λy=>[y])) (oc (x.map λy=>[y])) .none),(4,.cells 28 [iP s.tape.ic,kD s.tape.gS,kC s.tape.iu,iP s.iH,gY s.params])]⟩
noncomputable def U3(s:jz)(x:List Iv)(k p:Nat)(m:Nat):PS:=⟨72,true,[(29,.e (iP m)),(28,.e (iP k)),(9,.own 9),(4,.box 4 0),(3,.e (iP p))],[(9,.jA true 26 44 x.length 7 (mH (jc s x p m)) (oc (jc s x p m)) .none),(4,.cells 28 [iP s.tape.ic,kD s.tape.gS,kC s.tape.iu,iP s.iH,gY s.params])]⟩
noncomputable def U4(s:jz)(x:List Iv)(k p m:Nat)(w:Nat):PS:=⟨72,true,[(47,.e (iP w)),(46,.e (iP x.length)),(14,.box 14 0),(13,.e (kK (qN s.tape (qe s (jc s x p m) m) m p))),(12,.e (iP m)),(29,.e (iP m)),(28,.e (iP k)),(9,.own 9),(4,.box 4 0),(3,.e (iP p))],[(14,.cells 44 (iE (jQ (m+1)))),(9,.jA true 26 44 x.length 7 (mH (nn s x p m w)) (oc (nn s x p m w)) .none),(4,.cells 28 [iP s.tape.ic,kD s.tape.gS,kC s.tape.iu,iP s.iH,gY s.params])]⟩
def yU{T n n':Nat}{M M':List (List Iv)}{r:List Iv}{p:E}(hn:n=M.length)(uF:n'=M'.length)(hp:∀ j,j<1->p.kE 0 j=gY r)(hM:M'=M++[r]):
 Bx.le (.row true T (n+1) 1 λi j=>if i<n then lV M i j else(E.kE p) (i-n) j) (.row true T n' 1 (lV M')):=by
 subst hM uF;exact agY hn rfl hp
def agW{T n n':Nat}{M:List (List Iv)}{e:Nat->Nat->E}(hn:n=M.length)(uF:n'=M.length):Bx.le (.row true T (0+n) 1 λi j=>if i<0 then e i j else(E.kE (kK M)) (i-0) j) (.row true T n' 1 (lV M)):=by
 subst uF;refine .row aC λi j hi hj=>?_
 rw[aY (bk i),dr];exact⟨.iL rfl,UT _⟩
def VD{T n:Nat}{e:Nat->Nat->E}{M:List (List Iv)}(h:M=[])(hn:n=M.length):Bx.le (.row true T 0 1 e) (.row true T n 1 (lV M)):=by
 subst hn h;exact .row rfl λi j hi=>absurd hi (bk i)
def Nw{α β:Type}(f:α->β)(l:List α)(d:α){x:Nat}(hx:x<l.length):(l.take (x+1)).map f=(l.take x).map f++[f (l.getD x d)]:=by
 rw[amv,bt hx,fD];congr 1;rw[bd,bt hx];rfl
def af6(t:pn)(ic:List (List Iv))(k p:Nat)(h:xW t)(hi:vi (k+1) ic)(hl:ic.length=t.ic)(hk:k<=16)(ib:8<=p)(gW:p<=512):gQ 71 [GD t,kK ic,iP k,iP p] (kK (qN t ic k p)):=by
 have h8:=h.ic;have Dr:=h.gS;have al7:=h.iu;have IY:=Gt (p:=p) t.gS ic k t.gS.length;exact ak call71 func71 (ae [.bo,.a (aC:(0+ic.length)*24<=140737488355328),.s (Sp.jE (UY t ic k p) 0 t.gS.length aC (λx hx mn=>by
    have ik:=h.op x aC;have IY:=Gt (p:=p) t.gS ic k x;have pt:=J4 (aC:1<=p) (aC:p<=4096) h hi hl x aC;by_cases nX:((t.gS.getD x iw)).kind=1
    .have pv:(iK t.gS ic k p (x+1))=(iK t.gS ic k p x)++[qy (t.gS.getD x iw) (iK t.gS ic k p x) k p]:=rfl;have nI:((t.gS.getD x iw)).kind=1:=nX;obtain⟨o1,o2,o3,sB⟩:=ik.num nI;rw[show qy (t.gS.getD x iw) (iK t.gS ic k p x) k p=(nB (qE (t.gS.getD x iw).cn (t.gS.getD x iw).cd p) k)by unfold qy;rw[aZ nI]]at pv;exact iA (ae [tT 22 ((x:Int)<t.gS.length) aC,iX (x:Int) (t.gS.length) aC,ah 47 (((t.gS.getD x iw).kind:Int)==1) (aU aC),.c (WM ((t.gS.getD x iw).cn) ((t.gS.getD x iw).cd) p aD aC aC),.c (Xt (qE ((t.gS.getD x iw).cn) ((t.gS.getD x iw).cd) p) (OS _ _ aC aC) k aC),.a (aC:((iK t.gS ic k p x).length+1)*24<=140737488355328),ij ((x:Int)+1) aC]<|.e (af [.b 15 (yU rfl rfl (λj hj=>by obtain rfl:j=0:= aC;rfl) pv:Bx.le (.row true 26 ((iK t.gS ic k p x).length+1) 1 (λi_ j_=>if i_<(iK t.gS ic k p x).length then(lV (iK t.gS ic k p x)) i_ j_ else(E.kE (.sl true 1 1 λi_ j_=>[gY (nB (qE ((t.gS.getD x iw).cn) ((t.gS.getD x iw).cd) p) k)].getD (i_*1+j_) (.v (.bool false)))) (i_-(iK t.gS ic k p x).length) j_)) (.row true 26 ((iK t.gS ic k p (x+1)).length) 1 (lV (iK t.gS ic k p (x+1)))))])) aF 
    .by_cases hk:((t.gS.getD x iw)).kind<=6
     .by_cases h3:((t.gS.getD x iw)).kind=3
      .have pv:(iK t.gS ic k p (x+1))=(iK t.gS ic k p x)++[qy (t.gS.getD x iw) (iK t.gS ic k p x) k p]:=rfl
       have oA:((t.gS.getD x iw)).kind≠1:=nX;have nI:((t.gS.getD x iw)).kind<=6:=hk;have IU:=ik.wQ;have IV:=ik.k3.resolve_left oA;have IH:=ik.CM oA;have I6:=DP ik;have s1:=pt (t.gS.getD x iw).a aC;obtain⟨o1,o2,o3,o4,o5,o6⟩:=ik.Bg oA nI;have s2:=pt (t.gS.getD x iw).b aC;rw[show qy (t.gS.getD x iw) (iK t.gS ic k p x) k p=(mX (t.gS.getD x iw) ((iK t.gS ic k p x).getD (t.gS.getD x iw).a []) ((iK t.gS ic k p x).getD ((t.gS.getD x iw).b) []) p)by unfold qy xk;rw[aY oA,a6 nI];rfl]at pv;exact iA (ae [tT 22 ((x:Int)<t.gS.length) aC,iX (x:Int) (t.gS.length) aC,ai 47 (((t.gS.getD x iw).kind:Int)==1) (aT aC),ah 58 (((t.gS.getD x iw).kind:Int)==3) (aU aC),iX ((t.gS.getD x iw).a:Int) ((iK t.gS ic k p x).length) aC,.a (aC:(t.gS.getD x iw).a<(iK t.gS ic k p x).length),iX ((t.gS.getD x iw).b:Int) ((iK t.gS ic k p x).length) aC,.a (aC:(t.gS.getD x iw).b<(iK t.gS ic k p x).length),ag [iP ((t.gS.getD x iw).kind:Int),iP ((t.gS.getD x iw).n:Int),gY ((iK t.gS ic k p x).getD ((t.gS.getD x iw).a) []),gY ((iK t.gS ic k p x).getD ((t.gS.getD x iw).b) []),iP p] (Gw (t.gS.getD x iw) _ _ (k+1) p aC aC aD aD ib gW aC aC aC ik.f),.a (aC:((iK t.gS ic k p x).length+1)*24<=140737488355328),ij ((x:Int)+1) aC]<|.e (af [.b 15 (yU rfl rfl (λj hj=>by obtain rfl:j=0:= aC;rfl) pv:Bx.le (.row true 26 ((iK t.gS ic k p x).length+1) 1 (λi_ j_=>if i_<(iK t.gS ic k p x).length then(lV (iK t.gS ic k p x)) i_ j_ else(E.kE (.sl true 1 1 λi_ j_=>[gY (mX (t.gS.getD x iw) ((iK t.gS ic k p x).getD ((t.gS.getD x iw).a) []) ((iK t.gS ic k p x).getD ((t.gS.getD x iw).b) []) p)].getD (i_*1+j_) (.v (.bool false)))) (i_-(iK t.gS ic k p x).length) j_)) (.row true 26 ((iK t.gS ic k p (x+1)).length) 1 (lV (iK t.gS ic k p (x+1)))))])) aF 
      .by_cases h4:((t.gS.getD x iw)).kind=4
       .have pv:(iK t.gS ic k p (x+1))=(iK t.gS ic k p x)++[qy (t.gS.getD x iw) (iK t.gS ic k p x) k p]:=rfl;have oA:((t.gS.getD x iw)).kind≠1:=nX;have nI:((t.gS.getD x iw)).kind<=6:=hk;have IU:=ik.wQ;have IV:=ik.k3.resolve_left oA;have IH:=ik.CM oA;have I6:=DP ik;have s1:=pt (t.gS.getD x iw).a aC;obtain⟨o1,o2,o3,o4,o5,o6⟩:=ik.Bg oA nI;have s2:=pt (t.gS.getD x iw).b aC;rw[show qy (t.gS.getD x iw) (iK t.gS ic k p x) k p=(mX (t.gS.getD x iw) ((iK t.gS ic k p x).getD (t.gS.getD x iw).a []) ((iK t.gS ic k p x).getD ((t.gS.getD x iw).b) []) p)by unfold qy xk;rw[aY oA,a6 nI];rfl]at pv;exact iA (ae [tT 22 ((x:Int)<t.gS.length) aC,iX (x:Int) (t.gS.length) aC,ai 47 (((t.gS.getD x iw).kind:Int)==1) (aT aC),ai 58 (((t.gS.getD x iw).kind:Int)==3) (aT aC),ah 59 (((t.gS.getD x iw).kind:Int)==4) (aU aC),
         iX ((t.gS.getD x iw).a:Int) ((iK t.gS ic k p x).length) aC,.a (aC:(t.gS.getD x iw).a<(iK t.gS ic k p x).length),
         iX ((t.gS.getD x iw).b:Int) ((iK t.gS ic k p x).length) aC,.a (aC:(t.gS.getD x iw).b<(iK t.gS ic k p x).length),ag [iP ((t.gS.getD x iw).kind:Int),iP ((t.gS.getD x iw).n:Int),gY ((iK t.gS ic k p x).getD ((t.gS.getD x iw).a) []),gY ((iK t.gS ic k p x).getD ((t.gS.getD x iw).b) []),iP p] (Gw (t.gS.getD x iw) _ _ (k+1) p aC aC aD aD ib gW aC aC aC ik.f),.a (aC:((iK t.gS ic k p x).length+1)*24<=140737488355328),ij ((x:Int)+1) aC]<|.e (af [.b 15 (yU rfl rfl (λj hj=>by obtain rfl:j=0:= aC;rfl) pv:Bx.le (.row true 26 ((iK t.gS ic k p x).length+1) 1 (λi_ j_=>if i_<(iK t.gS ic k p x).length then(lV (iK t.gS ic k p x)) i_ j_ else(E.kE (.sl true 1 1 λi_ j_=>[gY (mX (t.gS.getD x iw) ((iK t.gS ic k p x).getD ((t.gS.getD x iw).a) []) ((iK t.gS ic k p x).getD ((t.gS.getD x iw).b) []) p)].getD (i_*1+j_) (.v (.bool false)))) (i_-(iK t.gS ic k p x).length) j_)) (.row true 26 ((iK t.gS ic k p (x+1)).length) 1 (lV (iK t.gS ic k p (x+1)))))])) aF 
       .by_cases h5:((t.gS.getD x iw)).kind=5
        .have pv:(iK t.gS ic k p (x+1))=(iK t.gS ic k p x)++[qy (t.gS.getD x iw) (iK t.gS ic k p x) k p]:=rfl
         have oA:((t.gS.getD x iw)).kind≠1:=nX;have nI:((t.gS.getD x iw)).kind<=6:=hk;have IU:=ik.wQ;have IV:=ik.k3.resolve_left oA;have IH:=ik.CM oA;have I6:=DP ik;have s1:=pt (t.gS.getD x iw).a aC;obtain⟨o1,o2,o3,o4,o5,o6⟩:=ik.Bg oA nI;have s2:=pt (t.gS.getD x iw).b aC;rw[show qy (t.gS.getD x iw) (iK t.gS ic k p x) k p=(mX (t.gS.getD x iw) ((iK t.gS ic k p x).getD (t.gS.getD x iw).a []) ((iK t.gS ic k p x).getD ((t.gS.getD x iw).b) []) p)by unfold qy xk;rw[aY oA,a6 nI];rfl]at pv;exact iA (ae [tT 22 ((x:Int)<t.gS.length) aC,iX (x:Int) (t.gS.length) aC,ai 47 (((t.gS.getD x iw).kind:Int)==1) (aT aC),ai 58 (((t.gS.getD x iw).kind:Int)==3) (aT aC),ai 59 (((t.gS.getD x iw).kind:Int)==4) (aT aC),ah 60 (((t.gS.getD x iw).kind:Int)==5) (aU aC),iX ((t.gS.getD x iw).a:Int) ((iK t.gS ic k p x).length) aC,.a (aC:(t.gS.getD x iw).a<(iK t.gS ic k p x).length),iX ((t.gS.getD x iw).b:Int) ((iK t.gS ic k p x).length) aC,.a (aC:(t.gS.getD x iw).b<(iK t.gS ic k p x).length),ag [iP ((t.gS.getD x iw).kind:Int),iP ((t.gS.getD x iw).n:Int),gY ((iK t.gS ic k p x).getD ((t.gS.getD x iw).a) []),gY ((iK t.gS ic k p x).getD ((t.gS.getD x iw).b) []),iP p] (Gw (t.gS.getD x iw) _ _ (k+1) p aC aC aD aD ib gW aC aC aC ik.f),.a (aC:((iK t.gS ic k p x).length+1)*24<=140737488355328),ij ((x:Int)+1) aC]<|.e (af [.b 15 (yU rfl rfl (λj hj=>by obtain rfl:j=0:= aC;rfl) pv:Bx.le (.row true 26 ((iK t.gS ic k p x).length+1) 1 (λi_ j_=>if i_<(iK t.gS ic k p x).length then(lV (iK t.gS ic k p x)) i_ j_ else(E.kE (.sl true 1 1 λi_ j_=>[gY (mX (t.gS.getD x iw) ((iK t.gS ic k p x).getD ((t.gS.getD x iw).a) []) ((iK t.gS ic k p x).getD ((t.gS.getD x iw).b) []) p)].getD (i_*1+j_) (.v (.bool false)))) (i_-(iK t.gS ic k p x).length) j_)) (.row true 26 ((iK t.gS ic k p (x+1)).length) 1 (lV (iK t.gS ic k p (x+1)))))])) aF 
        .have pv:(iK t.gS ic k p (x+1))=(iK t.gS ic k p x)++[qy (t.gS.getD x iw) (iK t.gS ic k p x) k p]:=rfl;have oA:((t.gS.getD x iw)).kind≠1:=nX;have nI:((t.gS.getD x iw)).kind<=6:=hk;have IU:=ik.wQ;have IV:=ik.k3.resolve_left oA;have IH:=ik.CM oA;have I6:=DP ik;have s1:=pt (t.gS.getD x iw).a aC;obtain⟨o1,o2,o3,o4,o5,o6⟩:=ik.Bg oA nI;have s2:=pt (t.gS.getD x iw).b aC;rw[show qy (t.gS.getD x iw) (iK t.gS ic k p x) k p=(mX (t.gS.getD x iw) ((iK t.gS ic k p x).getD (t.gS.getD x iw).a []) ((iK t.gS ic k p x).getD ((t.gS.getD x iw).b) []) p)by unfold qy xk;rw[aY oA,a6 nI];rfl]at pv;exact iA (ae [tT 22 ((x:Int)<t.gS.length) aC,iX (x:Int) (t.gS.length) aC,ai 47 (((t.gS.getD x iw).kind:Int)==1) (aT aC),ai 58 (((t.gS.getD x iw).kind:Int)==3) (aT aC),ai 59 (((t.gS.getD x iw).kind:Int)==4) (aT aC),ai 60 (((t.gS.getD x iw).kind:Int)==5) (aT aC),ah 61 (((t.gS.getD x iw).kind:Int)==6) (aU aC),
          iX ((t.gS.getD x iw).a:Int) ((iK t.gS ic k p x).length) aC,.a (aC:(t.gS.getD x iw).a<(iK t.gS ic k p x).length),
          iX ((t.gS.getD x iw).b:Int) ((iK t.gS ic k p x).length) aC,.a (aC:(t.gS.getD x iw).b<(iK t.gS ic k p x).length),ag [iP ((t.gS.getD x iw).kind:Int),iP ((t.gS.getD x iw).n:Int),gY ((iK t.gS ic k p x).getD ((t.gS.getD x iw).a) []),gY ((iK t.gS ic k p x).getD ((t.gS.getD x iw).b) []),iP p] (Gw (t.gS.getD x iw) _ _ (k+1) p aC aC aD aD ib gW aC aC aC ik.f),.a (aC:((iK t.gS ic k p x).length+1)*24<=140737488355328),ij ((x:Int)+1) aC]<|.e (af [.b 15 (yU rfl rfl (λj hj=>by obtain rfl:j=0:= aC;rfl) pv:Bx.le (.row true 26 ((iK t.gS ic k p x).length+1) 1 (λi_ j_=>if i_<(iK t.gS ic k p x).length then(lV (iK t.gS ic k p x)) i_ j_ else(E.kE (.sl true 1 1 λi_ j_=>[gY (mX (t.gS.getD x iw) ((iK t.gS ic k p x).getD ((t.gS.getD x iw).a) []) ((iK t.gS ic k p x).getD ((t.gS.getD x iw).b) []) p)].getD (i_*1+j_) (.v (.bool false)))) (i_-(iK t.gS ic k p x).length) j_)) (.row true 26 ((iK t.gS ic k p (x+1)).length) 1 (lV (iK t.gS ic k p (x+1)))))])) aF 
     .have pv:(iK t.gS ic k p (x+1))=(iK t.gS ic k p x)++[qy (t.gS.getD x iw) (iK t.gS ic k p x) k p]:=rfl;have oA:((t.gS.getD x iw)).kind≠1:=nX;have nI:¬((t.gS.getD x iw)).kind<=6:=hk;have IU:=ik.wQ;have IV:=ik.k3.resolve_left oA;have IH:=ik.CM oA;have I6:=DP ik;have s1:=pt (t.gS.getD x iw).a aC;rw[show qy (t.gS.getD x iw) (iK t.gS ic k p x) k p=(mX (t.gS.getD x iw) ((iK t.gS ic k p x).getD (t.gS.getD x iw).a []) ((iK t.gS ic k p x).getD ((t.gS.getD x iw).a) []) p)by unfold qy xk;rw[aY oA,a7 nI];rfl]at pv;exact iA (ae [tT 22 ((x:Int)<t.gS.length) aC,iX (x:Int) (t.gS.length) aC,ai 47 (((t.gS.getD x iw).kind:Int)==1) (aT aC),ai 58 (((t.gS.getD x iw).kind:Int)==3) (aT aC),ai 59 (((t.gS.getD x iw).kind:Int)==4) (aT aC),ai 60 (((t.gS.getD x iw).kind:Int)==5) (aT aC),ai 61 (((t.gS.getD x iw).kind:Int)==6) (aT aC),
       iX ((t.gS.getD x iw).a:Int) ((iK t.gS ic k p x).length) aC,.a (aC:(t.gS.getD x iw).a<(iK t.gS ic k p x).length),
       iX ((t.gS.getD x iw).a:Int) ((iK t.gS ic k p x).length) aC,.a (aC:(t.gS.getD x iw).a<(iK t.gS ic k p x).length),ag [iP ((t.gS.getD x iw).kind:Int),iP ((t.gS.getD x iw).n:Int),gY ((iK t.gS ic k p x).getD ((t.gS.getD x iw).a) []),gY ((iK t.gS ic k p x).getD ((t.gS.getD x iw).a) []),iP p] (Gw (t.gS.getD x iw) _ _ (k+1) p aC aC aD aD ib gW aC aC aC ik.f),.a (aC:((iK t.gS ic k p x).length+1)*24<=140737488355328),ij ((x:Int)+1) aC]<|.e (af [.b 15 (yU rfl rfl (λj hj=>by obtain rfl:j=0:= aC;rfl) pv:Bx.le (.row true 26 ((iK t.gS ic k p x).length+1) 1 (λi_ j_=>if i_<(iK t.gS ic k p x).length then(lV (iK t.gS ic k p x)) i_ j_ else(E.kE (.sl true 1 1 λi_ j_=>[gY (mX (t.gS.getD x iw) ((iK t.gS ic k p x).getD ((t.gS.getD x iw).a) []) ((iK t.gS ic k p x).getD ((t.gS.getD x iw).a) []) p)].getD (i_*1+j_) (.v (.bool false)))) (i_-(iK t.gS ic k p x).length) j_)) (.row true 26 ((iK t.gS ic k p (x+1)).length) 1 (lV (iK t.gS ic k p (x+1)))))])) aF)
  (λhx=>by
    exact iA (af [tF 22 ((t.gS.length:Int)<t.gS.length) aC]) aF) aI:jB 3 Tryz.f71 (UY t ic k p 0) (.exit 0) ⟨98,true,[(9,.own 15),(4,.box 4 0)],[(15,.row true 26 ((iK t.gS ic k p t.gS.length).length) 1 (lV (iK t.gS ic k p t.gS.length))),(4,.cells 25 [iP t.ic,kD t.gS,kC t.iu])]⟩) (af [.b 15 (agW rfl rfl:Bx.le (.row true 26 (0+ic.length) 1 (λi_ j_=>if i_<0 then(λi_ j_=>([]:List E).getD (i_*1+j_) (.v (.bool false))) i_ j_ else(E.kE (kK ic)) (i_-0) j_)) (.row true 26 ((iK t.gS ic k p 0).length) 1 (lV (iK t.gS ic k p 0))))]),.y 12 12 true 26 1 (lV []),.s (Sp.jE (UZ t ic k p) 0 t.iu.length aC (λx hx mn=>by
    have ho_:=h.out x aC;have alZ:((t.iu.take x).map λj=>(iK t.gS ic k p t.gS.length).getD j []).length<=200:=by rw[ca,b8];omega
    exact iA (ae [tT 86 ((x:Int)<t.iu.length) aC,iX (x:Int) (t.iu.length) aC,iX (t.iu.getD x 0:Int) ((iK t.gS ic k p t.gS.length).length) aC,.a (aC:(t.iu.getD x 0)<(iK t.gS ic k p t.gS.length).length),.a (aC:(((t.iu.take x).map λj=>(iK t.gS ic k p t.gS.length).getD j []).length+1)*24<=140737488355328),
     ij ((x:Int)+1) aC]<|.e (af [.b 12 (yU rfl rfl (λj hj=>by obtain rfl:j=0:= aC;rfl) (Nw _ t.iu 0 aC):Bx.le (.row true 26 (((t.iu.take x).map λj=>(iK t.gS ic k p t.gS.length).getD j []).length+1) 1 (λi_ j_=>if i_<((t.iu.take x).map λj=>(iK t.gS ic k p t.gS.length).getD j []).length then(lV ((t.iu.take x).map λj=>(iK t.gS ic k p t.gS.length).getD j [])) i_ j_ else(E.kE (.sl true 1 1 λi_ j_=>[gY ((iK t.gS ic k p t.gS.length).getD (t.iu.getD x 0) [])].getD (i_*1+j_) (.v (.bool false)))) (i_-((t.iu.take x).map λj=>(iK t.gS ic k p t.gS.length).getD j []).length) j_)) (.row true 26 (((t.iu.take (x+1)).map λj=>(iK t.gS ic k p t.gS.length).getD j []).length) 1 (lV ((t.iu.take (x+1)).map λj=>(iK t.gS ic k p t.gS.length).getD j []))))])) aF)
  (λhx=>by
    exact iA (ae [tF 86 ((t.iu.length:Int)<t.iu.length) aC,.z 12]<|.e (af [.o 12 (.e (VE rfl):aj (.sl true (((t.iu.take t.iu.length).map λj=>(iK t.gS ic k p t.gS.length).getD j []).length) 1 (lV ((t.iu.take t.iu.length).map λj=>(iK t.gS ic k p t.gS.length).getD j []))) (kK ((t.iu.take t.iu.length).map λj=>(iK t.gS ic k p t.gS.length).getD j [])))])) aF) aI:jB 17 Tryz.f71 (UZ t ic k p 0) (.exit 3) ⟨98,true,[(12,.e (kK ((t.iu.take t.iu.length).map λj=>(iK t.gS ic k p t.gS.length).getD j [])))],[]⟩) (af [.b 12 (VD aH rfl:Bx.le (.row true 26 0 1 (lV [])) (.row true 26 (((t.iu.take 0).map λj=>(iK t.gS ic k p t.gS.length).getD j []).length) 1 (lV ((t.iu.take 0).map λj=>(iK t.gS ic k p t.gS.length).getD j []))))])]<|rQ (kK ((t.iu.take t.iu.length).map λj=>(iK t.gS ic k p t.gS.length).getD j [])) (kK (qN t ic k p)) (by unfold qN;rw[eG])) 
def akH{M:List (List Iv)}{x q m:Nat}{e:Nat->Nat->E}(hq:q=m)(hm:m<=(M.getD x []).length):E.le (.sl true (0+q) 7 λi j=>if i<0 then e i j else oc M x (i-0) j) (gY ((M.getD x []).take m)):=by
 subst hq;have hl:((M.getD x []).take q).length=0+q:=by rw[b8];omega
 unfold gY;rw[hl];refine .sl λi j hi hj=>?_
 rw[aY (bk i),dr];refine⟨.iL ?_,tf _ _ hj⟩;show(iE ((M.getD x []).getD i gT)).getD j .any=(iE (((M.getD x []).take q).getD i gT)).getD j .any;congr 2;simp only[bd];rw[List.getElem?_take_of_lt aC]
def af5(s:jz)(n k:Nat)(M:List (List Iv))(h:lH s)(hn:n=M.length)(hn8:n<=8)(hk:k<=16)(hM:∀ i,i<n->k+1<=(M.getD i []).length)(aeQ:∀ i,i<n->(M.getD i []).length<=17):gQ 72 [kQ s,Vd n M,iP k] (kK (qe s M k)):=by
 have p4:=h.p4;exact ak call72 func72 (ae [.y 7 7 true 26 1 (lV []),.s (Sp.jE (UW s n M k) 0 n aC (λx hx mn=>by
    have yG:mH M x=(M.getD x []).length:=rfl;have I4:=hM x aC;have al5:=aeQ x aC;have hla:((M.take x).map λc=>c.take (k+1)).length<=8:=by rw[ca,b8];omega
    exact iA (ae [tT 15 ((x:Int)<n) aC,iX (x:Int) n aC,.bo,ij ((k:Int)+1) aC,.a (aC:0<=(((k+1:Nat):Int):Int)/\(((k+1:Nat):Int):Int)<=(mH M x:Int)),.bo,.a (aC:(0+(k+1))*88<=140737488355328),.o 24 (.e (akH aC I4):aj (.sl true (0+(k+1)) 7 (λi_ j_=>if i_<0 then(λi_ j_=>([]:List E).getD (i_*7+j_) (.v (.bool false))) i_ j_ else(E.kE (.mY true true (k+1) 7 (E.kE (.mY true true (mH M x) 7 (oc M x))))) (i_-0) j_)) (gY ((M.getD x []).take (k+1)))),.o 25 (.refl _:aj (.sl true 1 1 λi_ j_=>[gY ((M.getD x []).take (k+1))].getD (i_*1+j_) (.v (.bool false))) (.sl true 1 1 λi_ j_=>[gY ((M.getD x []).take (k+1))].getD (i_*1+j_) (.v (.bool false)))),.a (aC:(((M.take x).map λc=>c.take (k+1)).length+1)*24<=140737488355328),ij ((x:Int)+1) aC]<|.e (af [.b 7 (yU rfl rfl (λj hj=>by obtain rfl:j=0:= aC;rfl) (Nw _ M [] aC):Bx.le (.row true 26 (((M.take x).map λc=>c.take (k+1)).length+1) 1 (λi_ j_=>if i_<((M.take x).map λc=>c.take (k+1)).length then(lV ((M.take x).map λc=>c.take (k+1))) i_ j_ else(E.kE (.sl true 1 1 λi_ j_=>[gY ((M.getD x []).take (k+1))].getD (i_*1+j_) (.v (.bool false)))) (i_-((M.take x).map λc=>c.take (k+1)).length) j_)) (.row true 26 (((M.take (x+1)).map λc=>c.take (k+1)).length) 1 (lV ((M.take (x+1)).map λc=>c.take (k+1)))))])) aF)
  (λhx=>by
    exact iA (af [tF 15 ((n:Int)<n) aC]) aF) aI:jB 3 Tryz.f72 (UW s n M k 0) (.exit 0) ⟨43,true,[(7,.own 7),(3,.box 3 0),(2,.e (iP k))],[(7,.row true 26 (((M.take n).map λc=>c.take (k+1)).length) 1 (lV ((M.take n).map λc=>c.take (k+1)))),(3,.cells 28 [iP s.tape.ic,kD s.tape.gS,kC s.tape.iu,iP s.iH,gY s.params])]⟩) (af [.b 7 (VD aH rfl:Bx.le (.row true 26 0 1 (lV [])) (.row true 26 (((M.take 0).map λc=>c.take (k+1)).length) 1 (lV ((M.take 0).map λc=>c.take (k+1)))))]),.s (Sp.jE (UX s n M k) 0 s.params.length aC (λx hx mn=>by
    have vp:=(h.params x aC).1;have Fk:((M.map λc=>c.take (k+1))++(s.params.take x).map λa=>nB a k).length<=16:=by rw[cA,ca,ca,b8];omega
    exact iA (ae [tT 32 ((x:Int)<s.params.length) aC,iX (x:Int) (s.params.length) aC,.c (Xt (s.params.getD x gT) aD k aC),.a (aC:(((M.map λc=>c.take (k+1))++(s.params.take x).map λa=>nB a k).length+1)*24<=140737488355328),ij ((x:Int)+1) aC]<|.e (af [.b 7 (yU rfl rfl (λj hj=>by obtain rfl:j=0:= aC;rfl) (by rw[Nw (λa=>nB a k) s.params gT aC,amn]):Bx.le (.row true 26 (((M.map λc=>c.take (k+1))++(s.params.take x).map λa=>nB a k).length+1) 1 (λi_ j_=>if i_<((M.map λc=>c.take (k+1))++(s.params.take x).map λa=>nB a k).length then(lV ((M.map λc=>c.take (k+1))++(s.params.take x).map λa=>nB a k)) i_ j_ else(E.kE (.sl true 1 1 λi_ j_=>[gY (nB (s.params.getD x gT) k)].getD (i_*1+j_) (.v (.bool false)))) (i_-((M.map λc=>c.take (k+1))++(s.params.take x).map λa=>nB a k).length) j_)) (.row true 26 (((M.map λc=>c.take (k+1))++(s.params.take (x+1)).map λa=>nB a k).length) 1 (lV ((M.map λc=>c.take (k+1))++(s.params.take (x+1)).map λa=>nB a k))))])) aF)
  (λhx=>by
    exact iA (ae [tF 32 ((s.params.length:Int)<s.params.length) aC,.z 7]<|.e (af [.o 7 (.e (VE rfl):aj (.sl true (((M.map λc=>c.take (k+1))++(s.params.take s.params.length).map λa=>nB a k).length) 1 (lV ((M.map λc=>c.take (k+1))++(s.params.take s.params.length).map λa=>nB a k))) (kK ((M.map λc=>c.take (k+1))++(s.params.take s.params.length).map λa=>nB a k)))])) aF) aI:jB 8 Tryz.f72 (UX s n M k 0) (.exit 2) ⟨43,true,[(7,.e (kK ((M.map λc=>c.take (k+1))++(s.params.take s.params.length).map λa=>nB a k)))],[]⟩) (af [.b 7 (Bx.le.iL (by rw[hn,eG];simp):Bx.le (.row true 26 (((M.take n).map λc=>c.take (k+1)).length) 1 (lV ((M.take n).map λc=>c.take (k+1)))) (.row true 26 (((M.map λc=>c.take (k+1))++(s.params.take 0).map λa=>nB a k).length) 1 (lV ((M.map λc=>c.take (k+1))++(s.params.take 0).map λa=>nB a k))))])]<|rQ (kK ((M.map λc=>c.take (k+1))++(s.params.take s.params.length).map λa=>nB a k)) (kK (qe s M k)) (by unfold qe;rw[eG])) 
def uM(s:jz)(x:List Iv)(p:Nat):∀ n,(jc s x p n).length=x.length
 | 0=>by simp[jc]
 |n+1=>by simp[jc]
def U1(s:jz)(x:List Iv)(p n i:Nat):(nn s x p n i).length=x.length:=by simp[nn]
def Jp{s:jz}{x:List Iv}{p n i q:Nat}(h:q<x.length):(nn s x p n i).getD q []=(jc s x p n).getD q []++(if q<i then[Cm s (jc s x p n) p n q]else[]):=by
 simp[nn,bd,h]
def aga(s:jz)(x:List Iv)(p n:Nat):nn s x p n 0=jc s x p n:=by
 have hl:=uM s x p n;apply fR (by rw[U1,hl]);intro q h1 h2;have h3:q<x.length:=by rw[U1]at h1;exact h1
 have e:=Jp (s:=s) (p:=p) (n:=n) (i:=0) h3;rw[aY (bk q),fE]at e;rw[bd,bt h1,bd,bt h2]at e;exact e
def af8(s:jz)(x:List Iv)(p n:Nat):nn s x p n x.length=jc s x p (n+1):=by
 unfold nn;show _=(List.range x.length).map λi=>(jc s x p n).getD i []++[Cm s (jc s x p n) p n i]
 exact fe λq hq=>by rw[aZ (bW.1 hq)]
def FI{s:jz}(h:lH s){x:List Iv}(hx:kf s.iH x){p:Nat}(ib:8<=p)(gW:p<=512):∀ n,n<=16->vi (n+1) (jc s x p n)
 | 0,_=>λi hi=>by
  have mi:i<x.length:=by rw[uM]at hi;exact hi
  have e:(jc s x p 0).getD i []=[x.getD i gT]:=by simp[jc,bd,mi]
  rw[e];exact⟨rfl,lQ.push lQ.nil (hx.ok i mi).1⟩
 |n+1,hn=>λi hi=>by
  have mi:i<x.length:=by rw[uM]at hi;exact hi
  have e:(jc s x p (n+1)).getD i []=(jc s x p n).getD i []++[Cm s (jc s x p n) p n i]:=by simp[jc,bd,mi]
  have hs:=FI h hx ib gW n aC i (by rw[uM];exact mi);rw[e];refine⟨by rw[cA,hs.len];rfl,hs.ok.push ?_⟩;unfold Cm;exact pX _ _ aC aC 
def afC{s:jz}(h:lH s){M:List (List Iv)}{n:Nat}(hM:vi (n+1) M)(hl:M.length=s.iH):vi (n+1) (qe s M n)/\(qe s M n).length=s.tape.ic:=by
 refine⟨λi hi=>?_,by unfold qe;rw[cA,ca,ca,h.ic,hl]⟩;unfold qe at hi ⊢;rw[cA,ca,ca]at hi;rw[bd,eA,ca];split
 .rename_i h1;rw[cr,bt h1];have:=hM i h1;rw[bd,bt h1]at this;show kr (n+1) ((M[i]).take (n+1));rw[cN (by have:=this.len;simp at this;omega)];exact this
 .rename_i h1;have h2:i-M.length<s.params.length:= aC ;rw[cr,bt h2];have:=(h.params _ h2).1;rw[bd,bt h2]at this;exact Rj this n
def ajj{T1 T0 n x:Nat}{M M':List (List Iv)}{y:Iv}(h:∀ q,q<n->M'.getD q []=if q=x then M.getD q []++[y]else M.getD q []):
 Bx.le (.jA true T1 T0 n 7 (λq=>if q=x then mH M q+[y].length else mH M q) (λq i j=>if q=x then(if i<mH M q then oc M q i j else(E.kE (gY [y])) (i-mH M q) j)else oc M q i j) none)
  (.jA true T1 T0 n 7 (mH M') (oc M') none):=by
 refine .jA rfl (λq hq=>?_) (λq i j hq hi hj=>⟨.iL ?_,tf _ _ hj⟩)
 .simp only[mH,h q hq];split
  .rw [cA]
  .rfl
 .simp only[oc,mH,h q hq]at hi ⊢;by_cases e:q=x
  .rw [aZ e]at hi;rw[aZ e,aZ e];by_cases im:i<(M.getD q []).length
   .rw [aZ im];congr 2;simp only[bd]at im ⊢;rw[dw im]
   .rw [aY im];have Dd:i=(M.getD q []).length:=by
     rw[fz]at hi;omega
    subst Dd;rw[cX];show(iE y).getD j .any=_;congr 2;simp[bd]
  .rw [aY e,aY e]
def afR(y:Iv)(j:Nat)(hj:j<7):(iE y).getD (0*7+j) (.v (.bool false))=(iE y).getD j .any:=by
 rcases j with _|_|_|_|_|_|_|j
 all_goals first|rfl|omega
def aji{T1 T0 x:Nat}{X:List Iv}{e:Nat->Nat->E}(hx:x<X.length)(he:∀ j,j<7->e 0 j=(iE (X.getD x gT)).getD j .any):
 Bx.le (.jA true T1 T0 (x+1) 7 (λk=>if k<x then mH (X.map λy=>[y]) k else 1) (λk=>if k<x then oc (X.map λy=>[y]) k else e) none) (.jA true T1 T0 (x+1) 7 (mH (X.map λy=>[y])) (oc (X.map λy=>[y])) none):=by
 have e0:(X.map λy=>[y]).getD x []=[X.getD x gT]:=by simp[bd,hx]
 refine .jA rfl (λk hk=>?_) (λk i j hk hi hj=>⟨.iL ?_,tf _ _ hj⟩)
 .by_cases h:k<x
  .rw [aZ h]
  .obtain rfl:k=x:= aC ;rw[aY h];simp only[mH,e0];rfl
 .by_cases h:k<x
  .rw [aZ h]
  .obtain rfl:k=x:= aC ;simp only[h,bj]at hi ⊢;obtain rfl:i=0:= aC ;rw[he j hj];simp only[oc,e0];rfl
def af9{s:jz}{x:List Iv}{p n i:Nat}(q:Nat)(hq:q<x.length):(nn s x p n (i+1)).getD q []=if q=i then(nn s x p n i).getD q []++[Cm s (jc s x p n) p n q]else(nn s x p n i).getD q []:=by
 rw[Jp hq,Jp hq];by_cases h:q=i
 .subst h;rw[aZ rfl,aZ (eh _),aY (Nat.lt_irrefl _),fE]
 .rw [aY h];by_cases h2:q<i
  .rw [aZ h2,aZ aC]
  .rw [aY h2,aY aC]
def agb(s:jz)(x:List Iv)(k p:Nat)(h:lH s)(hx:kf s.iH x)(hk:k<=16)(ib:8<=p)(gW:p<=512):gQ 34 [kQ s,gY x,iP k,iP p] (kK (jc s x p k)):=by
 have s4:=h.s4;have lx:=hx.len;exact ak call34 func34 (ae [.y 9 9 true 26 1 (lV []),.s (Sp.jE (U2 s x k p) 0 x.length aC (λw hw afb=>by
    have vx:=hx.ok w aC;exact iA (ae [tT 19 ((w:Int)<x.length) aC,iX (w:Int) (x.length) aC,.bo,.a (aC:0<1),.a (aC:(w+1)*24<=140737488355328),ij ((w:Int)+1) aC]<|.e (af [.b 9 (aji aC λj hj=>afR _ j hj:Bx.le (.jA true 26 44 (w+1) 7 (λk_=>if k_<w then(mH (x.map λy=>[y])) k_ else(λ_=>1) (k_-w)) (λk_=>if k_<w then(oc (x.map λy=>[y])) k_ else(λ_=>λi_ j_=>(iE (x.getD w gT)).getD (i_*7+j_) (.v (.bool false))) (k_-w)) .none) (.jA true 26 44 (w+1) 7 (mH (x.map λy=>[y])) (oc (x.map λy=>[y])) .none))])) aF)
  (λhw=>by
    exact iA (af [tF 19 ((x.length:Int)<x.length) aC]) aF) aI:jB 3 Tryz.f34 (U2 s x k p 0) (.exit 0) ⟨72,true,[(9,.own 9),(4,.box 4 0),(2,.e (iP k)),(3,.e (iP p))],[(9,.jA true 26 44 x.length 7 (mH (x.map λy=>[y])) (oc (x.map λy=>[y])) .none),(4,.cells 28 [iP s.tape.ic,kD s.tape.gS,kC s.tape.iu,iP s.iH,gY s.params])]⟩) (af [.b 9 (Bx.le.ajh:Bx.le (.row true 26 0 1 (lV [])) (.jA true 26 44 0 7 (mH (x.map λy=>[y])) (oc (x.map λy=>[y])) .none))]),.s (Sp.jE (U3 s x k p) 0 k aC (λm hm I1=>by
    have IS:=FI h hx ib gW m aC;have kY:=afC h IS (by rw[uM,hx.len]);have hfs:=adG (aC:1<=p) (aC:p<=4096) h.tape kY.1 kY.2;have Am:(qN s.tape (qe s (jc s x p m) m) m p).length=x.length:=by unfold qN;rw[ca,h.iu,hx.len]
    have hwv:=xQ (m+1) aC;exact iA (ae [tT 30 ((m:Int)<k) aC,.c (af5 s x.length m (jc s x p m) h (uM _ _ _ _).symm aC aC (λi hi=>by rw[(IS i (by rw[uM];exact hi)).len];exact bc _) (λi hi=>by rw[(IS i (by rw[uM];exact hi)).len];omega):gQ 72 [kQ s,(.mY false true x.length 1 λk_ _=>.mY true true ((mH (jc s x p m)) k_) 7 ((oc (jc s x p m)) k_)),iP m] _),.c (af6 s.tape (qe s (jc s x p m) m) m p h.tape kY.1 kY.2 aC ib gW),ij ((m:Int)+1) aC,.c (Ep (m+1) aC),.c (AA (iR ((m+1:Nat):Int)) (DA _ aC)),.s (Sp.jE (U4 s x k p m) 0 x.length aC (λw hw afb=>by
    have TE:=hfs w (by rw[Am];omega);have alV:=TE.len;have alW:=TE.ok m;have BW:∀ q,q<x.length->(nn s x p m (w+1)).getD q []=if q=w then(nn s x p m w).getD q []++[jh (((qN s.tape (qe s (jc s x p m) m) m p).getD w []).getD m gT) (jQ (m+1)) p]else(nn s x p m w).getD q []:=λq hq=>by
     rw[af9 q hq];by_cases e:q=w
     .subst e;rw[aZ rfl,aZ rfl];rfl
     .rw [aY e,aY e]
    have IY:mH (nn s x p m w) w=m+1:=by
     show(List.getD (nn s x p m w) w []).length=m+1;rw[Jp aC,aY (Nat.lt_irrefl _),fE];exact(IS w (by rw[uM];omega)).len
    have rq:=pA (jh (((qN s.tape (qe s (jc s x p m) m) m p).getD w []).getD m gT) (jQ (m+1)) p);exact iA (ae [tT 48 ((w:Int)<x.length) aC,iX (w:Int) (x.length) aC,.a (aC:w<x.length),iX (w:Int) ((qN s.tape (qe s (jc s x p m) m) m p).length) aC,
     iX (m:Int) (((qN s.tape (qe s (jc s x p m) m) m p).getD w []).length) aC,.c (yQ (((qN s.tape (qe s (jc s x p m) m) m p).getD w []).getD m gT) (jQ (m+1)) p aD aD aC aC),.o 66 (.e (lq _):aj (.sl true 1 7 λi_ j_=>(iE (jh (((qN s.tape (qe s (jc s x p m) m) m p).getD w []).getD m gT) (jQ (m+1)) p)).getD (i_*7+j_) (.v (.bool false))) (gY [jh (((qN s.tape (qe s (jc s x p m) m) m p).getD w []).getD m gT) (jQ (m+1)) p])),.a (aC:w<x.length),.a (aC:((mH (nn s x p m w)) w+[jh (((qN s.tape (qe s (jc s x p m) m) m p).getD w []).getD m gT) (jQ (m+1)) p].length)*88<=140737488355328),
     iX (w:Int) (x.length) aC,.a (rfl:w=w),.a (rfl:w=w),.a (aC:w<x.length),ij ((w:Int)+1) aC]<|.e (af [.b 9 (ajj (M:=(nn s x p m w)) (M':=(nn s x p m (w+1))) (x:=w) (y:=(jh (((qN s.tape (qe s (jc s x p m) m) m p).getD w []).getD m gT) (jQ (m+1)) p)) BW:Bx.le (.jA true 26 44 x.length 7 (λq=>if q=w then(mH (nn s x p m w)) q+[jh (((qN s.tape (qe s (jc s x p m) m) m p).getD w []).getD m gT) (jQ (m+1)) p].length else(mH (nn s x p m w)) q) (λq i j=>if q=w then(if i<(mH (nn s x p m w)) q then(oc (nn s x p m w)) q i j else(E.kE (gY [jh (((qN s.tape (qe s (jc s x p m) m) m p).getD w []).getD m gT) (jQ (m+1)) p])) (i-(mH (nn s x p m w)) q) j)else(oc (nn s x p m w)) q i j) .none) (.jA true 26 44 x.length 7 (mH (nn s x p m (w+1))) (oc (nn s x p m (w+1))) .none))])) aF)
  (λhw=>by
    exact iA (af [tF 48 ((x.length:Int)<x.length) aC]) aF) aI:jB 13 Tryz.f34 (U4 s x k p m 0) (.exit 4) ⟨72,true,[(29,.e (iP m)),(28,.e (iP k)),(9,.own 9),(4,.box 4 0),(3,.e (iP p))],[(9,.jA true 26 44 x.length 7 (mH (nn s x p m x.length)) (oc (nn s x p m x.length)) .none),(4,.cells 28 [iP s.tape.ic,kD s.tape.gS,kC s.tape.iu,iP s.iH,gY s.params])]⟩) (af [.b 9 (.iL (by rw[aga]):Bx.le (.jA true 26 44 x.length 7 (mH (jc s x p m)) (oc (jc s x p m)) .none) (.jA true 26 44 x.length 7 (mH (nn s x p m 0)) (oc (nn s x p m 0)) .none))]),
     ij ((m:Int)+1) aC]<|.e (af [.b 9 (.iL (by rw[af8]):Bx.le (.jA true 26 44 x.length 7 (mH (nn s x p m x.length)) (oc (nn s x p m x.length)) .none) (.jA true 26 44 x.length 7 (mH (jc s x p (m+1))) (oc (jc s x p (m+1))) .none))])) aF)
  (λhm=>by
    exact iA (af [tF 30 ((k:Int)<k) aC]) aF) aI:jB 8 Tryz.f34 (U3 s x k p 0) (.exit 2) ⟨72,true,[(9,.own 9)],[(9,.jA true 26 44 x.length 7 (mH (jc s x p k)) (oc (jc s x p k)) .none)]⟩) (af [.b 9 (.iL rfl:Bx.le (.jA true 26 44 x.length 7 (mH (x.map λy=>[y])) (oc (x.map λy=>[y])) .none) (.jA true 26 44 x.length 7 (mH (jc s x p 0)) (oc (jc s x p 0)) .none))])]<|rR (kK (jc s x p k)) (agX (uM _ _ _ _).symm:E.le (.sl true x.length 1 λk_ _=>.sl true ((mH (jc s x p k)) k_) 7 ((oc (jc s x p k)) k_)) (kK (jc s x p k)))) 
def af7(s:jz)(x:List Iv)(p:Nat)(h:lH s)(hx:kf s.iH x)(ib:8<=p)(gW:p<=512):gQ 33 [kQ s,gY x,iP p] (bP true):=by
 have s1:=h.s1;have s4:=h.s4;have lx:=hx.len;exact ak call33 func33 (af [.c (zw s aD),.c (ug x aC aC hx.ok),ah 18 ((x.length:Int)==s.iH) (aU aC),tT 22 (8<=(p:Int)) aC,tT 26 ((p:Int)<=512) aC]) 
def Rh(s:jz)(x:List Iv)(k p:Nat)(h:lH s)(hx:kf s.iH x)(ib:8<=p)(gW:p<=512)(hk:k<=16):gQ 11 [kQ s,gY x,iP k,iP p] (.ie [kK (jc s x p k),iP 0]):=by
 have s1:=h.s1;have s4:=h.s4;have lx:=hx.len;exact ak call11 func11 (af [.c (af7 s x p h hx ib gW),tF 16 ((k:Int)<0) aC,tF 19 (16<(k:Int)) aC,.c (agb s x k p h hx hk ib gW)]) 
def kz(j:Int):Nat:=4+(j%4).toNat
def nD(j:Int):Dy:=canon false (kz j) (j/4)
def JD(j:Int):4<=kz j/\kz j<=7:=by unfold kz;omega
def NJ(j:Int):(nD j).q=(kz j:Rat)*P2 (j/4):=by
 unfold nD;rw[qC];rfl
def aha(j:Int):0<(nD j).q:=by
 rw[NJ];refine dN ?_ (mW _);have:=(JD j).1
 exact_mod_cast (aC:0<kz j)
def yW(j:Int):0<(nD j).iJ:=(rB _).1.2 (aha j)
def V2(j:Int):(nD j).q<(nD (j+1)).q:=by
 rw[NJ,NJ];have p:=mW (j/4);by_cases h:j%4=3
 .have e1:(j+1)/4=j/4+1:= aC ;have e2:kz (j+1)=4:=by unfold kz;omega
  have e3:kz j=7:=by unfold kz;omega
  rw[e1,e2,e3,pV,show P2 1=2 by have:=we 1;simpa using this];have h1:((7:Nat):Rat)*P2 (j/4)<((8:Nat):Rat)*P2 (j/4):=dv (by exact_mod_cast (aE:7<8)) p;have h2:((8:Nat):Rat)*P2 (j/4)=((4:Nat):Rat)*(P2 (j/4)*2):=by
   rw[show((8:Nat):Rat)=8 from rfl,show((4:Nat):Rat)=4 from rfl]
   grind
  rw[<-h2];exact h1
 .have e1:(j+1)/4=j/4:= aC ;have e2:kz (j+1)=kz j+1:=by unfold kz;omega
  rw[e1,e2];exact dv (by exact_mod_cast eh _) p
def VZ(j:Int):∀ n:Nat,(nD j).q<(nD (j+((n+1:Nat):Int))).q
 | 0=>V2 j
 |n+1=>by
  have h1:=VZ j n;have h2:=V2 (j+((n+1:Nat):Int));rw[(aC:j+((n+1:Nat):Int)+1=j+((n+1+1:Nat):Int))]at h2
  grind
def NG{i j:Int}(h:i<j):(nD i).q<(nD j).q:=by
 have:=VZ i (j-i-1).toNat
 rwa[(aC:i+(((j-i-1).toNat+1:Nat):Int)=j)]at this
def VY{i j:Int}(h:i<=j):(nD i).q<=(nD j).q:=by
 by_cases e:i=j
 .subst e;exact b6
 .exact bG (NG aC)
def Jz{i j:Int}:iN (nD i) (nD j)<0↔i<j:=by
 rw[aii];refine⟨λh=>?_,NG⟩;by_cases q:i<j
 .exact q
 .exact absurd h (dk.2 (VY (aC:j<=i)))
def Ck(k:Int):nD (4*(k-2))=jy k:=by
 unfold nD;rw[show kz (4*(k-2))=4 by unfold kz;omega,(aC:4*(k-2)/4=k-2)];show canon false 4 (k-2)=⟨false,1,k⟩
 have e:canon false 4 (k-2)=⟨false,4/2^jj 4,k-2+jj 4⟩:=rfl;rw[e,show jj 4=2 by decide +kernel];simp
def VU{j e:Int}(h:j=4*e):nD j=⟨false,1,e+2⟩:=by
 have:=Ck (e+2);rw[(aC:4*(e+2-2)=j)]at this;rw[this];rfl
def VV{j e:Int}(h:j=4*e+1):nD j=⟨false,5,e⟩:=by
 unfold nD;rw[show kz j=5 by unfold kz;omega,(aC:j/4=e)];have e:canon false 5 e=⟨false,5/2^jj 5,e+jj 5⟩:=rfl;rw[e,show jj 5=0 by decide +kernel];simp
def VW{j e:Int}(h:j=4*e+2):nD j=⟨false,3,e+1⟩:=by
 unfold nD;rw[show kz j=6 by unfold kz;omega,(aC:j/4=e)];have e:canon false 6 e=⟨false,6/2^jj 6,e+jj 6⟩:=rfl;rw[e,show jj 6=1 by decide +kernel];simp
def VX{j e:Int}(h:j=4*e+3):nD j=⟨false,7,e⟩:=by
 unfold nD;rw[show kz j=7 by unfold kz;omega,(aC:j/4=e)];have e:canon false 7 e=⟨false,7/2^jj 7,e+jj 7⟩:=rfl;rw[e,show jj 7=0 by decide +kernel];simp
def DJ(j:Int):∃ e:Int,(j=4*e/\nD j=⟨false,1,e+2⟩)\/(j=4*e+1/\nD j=⟨false,5,e⟩)\/(j=4*e+2/\nD j=⟨false,3,e+1⟩)\/(j=4*e+3/\nD j=⟨false,7,e⟩):=by
 refine⟨j/4,?_⟩;have:j%4=0\/j%4=1\/j%4=2\/j%4=3:= aC ;rcases this with h|h|h|h
 .exact .inl ⟨aC,VU aC⟩
 .exact .inr (.inl ⟨aC,VV aC⟩)
 .exact .inr (.inr (.inl ⟨aC,VW aC⟩))
 .exact .inr (.inr (.inr ⟨aC,VX aC⟩))
def Jy(j:Int):gZ (nD j).m<=3:=by
 obtain⟨e,⟨_,h⟩|⟨_,h⟩|⟨_,h⟩|⟨_,h⟩⟩:=DJ j<;>rw[h]<;>simp only<;>decide +kernel
def NI(j:Int):(nD j).m≠0:=by
 obtain⟨e,⟨_,h⟩|⟨_,h⟩|⟨_,h⟩|⟨_,h⟩⟩:=DJ j<;>rw[h]<;>simp only<;>decide
def ag8(j:Int):(nD j).neg=false:=by
 obtain⟨e,⟨_,h⟩|⟨_,h⟩|⟨_,h⟩|⟨_,h⟩⟩:=DJ j<;>rw[h]
def JA(j:Int):j/4<=(nD j).e/\(nD j).e<=j/4+2:=by
 obtain⟨e,⟨g,h⟩|⟨g,h⟩|⟨g,h⟩|⟨g,h⟩⟩:=DJ j<;>rw[h]<;>simp only<;>omega
def uR{j:Int}(h1:-60000<=j)(h2:j<=60000):(nD j).gX:=by
 have hb:=Jy j;have he:=JA j;refine⟨ri _ _ _,.inr ⟨aC,aC,aC,aC⟩⟩
def F0(j:Int):(nD j).ig=j/4+3:=by
 obtain⟨e,⟨g,h⟩|⟨g,h⟩|⟨g,h⟩|⟨g,h⟩⟩:=DJ j
 .rw [h,show Dy.ig ⟨false,1,e+2⟩=(gZ 1:Int)+(e+2)from rfl,show gZ 1=1 by decide +kernel];omega
 .rw [h,show Dy.ig ⟨false,5,e⟩=(gZ 5:Int)+e from rfl,show gZ 5=3 by decide +kernel];omega
 .rw [h,show Dy.ig ⟨false,3,e+1⟩=(gZ 3:Int)+(e+1)from rfl,show gZ 3=2 by decide +kernel];omega
 .rw [h,show Dy.ig ⟨false,7,e⟩=(gZ 7:Int)+e from rfl,show gZ 7=3 by decide +kernel];omega
def rA(m:Nat)(e:Int):Dy:=if gZ m<=3 then⟨false,m,e⟩else canon false (m/2^(gZ m-3)) (e+((gZ m-3:Nat):Int))
def ag9{j:Int}(h1:-16384<=(nD j).e)(h2:j/4+3<=16384):(nD j).gX:=by
 have ht:=F0 j;unfold Dy.ig at ht;rw[aY (NI j)]at ht;have hb:=nM (NI j);have hc:=Jy j;exact⟨ri _ _ _,.inr ⟨aC,h1,aC,aC⟩⟩
def NS{d:Dy}(hd:d.gX)(hs:0<d.iJ):∃ j:Int,rA d.m d.e=nD j/\(nD j).gX/\(nD j).q<=d.q:=by
 have hm:d.m≠0/\d.neg=false:=by
  rcases D3 d with⟨_,h⟩|⟨_,_,h⟩|⟨h0,hn,_⟩
  .omega
  .omega
  .exact ⟨h0,hn⟩
 obtain⟨h0,hn⟩:=hm;have ho:d.m%2=1:=by
  rcases hd.canon with⟨h,_⟩|h
  .exact absurd h h0
  .exact h
 have hr:=hd.range;unfold mv at hr;obtain⟨r1,r2,r3,r4⟩:=hr.resolve_left h0;obtain⟨neg,m,e⟩:=d;simp only at h0 hn ho r1 r2 r3 r4 ⊢;subst hn;by_cases hb:gZ m<=3
 .unfold rA;rw[aZ hb];have h8:m<8:=bJ (qw m) (bH aE hb);have key:∃ j:Int,(⟨false,m,e⟩:Dy)=nD j:=by
   have:m=1\/m=3\/m=5\/m=7:= aC ;rcases this with rfl|rfl|rfl|rfl
   .exact ⟨4*(e-2),by rw[VU (e:=e-2) aC];congr 1;omega⟩
   .exact ⟨4*(e-1)+2,by rw[VW (e:=e-1) aC];congr 1;omega⟩
   .exact ⟨4*e+1,(VV rfl).symm⟩
   .exact ⟨4*e+3,(VX rfl).symm⟩
  obtain⟨j,hj⟩:=key;refine⟨j,hj,?_,?_⟩
  .rw [<-hj];exact hd
  .rw [<-hj];exact b6
 .obtain ⟨k,hk⟩:∃ k,gZ m=k+3:=⟨gZ m-3,aC⟩
  have BT:4<=m/2^k:=by
   have:=rS h0;rw[hk,(aC:k+3-1=2+k),bh]at this;rw[cT (bn aE)];exact this
  have wM:m/2^k<8:=by
   have:=qw m;rw[hk,(aC:k+3=3+k),bh]at this;rw[cv (bn aE)];exact this
  have hj:rA m e=nD (4*(e+(k:Int))+((m/2^k:Nat):Int)-4):=by
   unfold rA;rw[aY hb,(aC:gZ m-3=k)];generalize m/2^k=q at BT wM;unfold nD;rw[show kz (4*(e+(k:Int))+(q:Int)-4)=q by unfold kz;omega,show(4*(e+(k:Int))+(q:Int)-4)/4=e+(k:Int)by omega]
  refine⟨_,hj,?_,?_⟩
  .have h1:=(JA (4*(e+(k:Int))+((m/2^k:Nat):Int)-4)).1;exact ag9 aC aC 
  .rw [<-hj];unfold rA;rw[aY hb,(aC:gZ m-3=k),qC,pQ];show((m/2^k:Nat):Rat)*P2 (e+(k:Int))<=(m:Rat)*P2 e;rw[Int.add_comm,pV,we,<-en];refine(uQ e).2 ?_;have:=cU m (2^k)
   exact_mod_cast this
def ahx(j:Int):rA (nD j).m (nD j).e=nD j:=by
 unfold rA;rw[aZ (Jy j)];have:=ag8 j;revert this;cases nD j with
 |mk a b c=>intro h;simp only at h;rw[h]
def sj(h:Dy)(j9:Int):Nat->Dy->Bool
 | 0,m=>decide (iN m (jy (0-j9))<=0)
 |r+1,m=>if kg (jq m h)=0 then sj h j9 r (jm (jq m h))else decide (m.ig+((r+1:Nat):Int)*h.ig<=0-j9)
def jv(h:Dy):Nat->Dy->Dy
 | 0,m=>m
 |i+1,m=>jm (jq (jv h i m) h)
def qx(h:Dy)(i:Nat)(m:Dy):Bool:=kg (jq (jv h i m) h)==0
def ND(h:Dy):∀ i m,jv h (i+1) m=jv h i (jm (jq m h))
 | 0,_=>rfl
 |i+1,m=>by
  show jm (jq (jv h (i+1) m) h)=jm (jq (jv h i (jm (jq m h))) h);rw[ND h i m]
def ahF(h:Dy)(i:Nat)(m:Dy):qx h (i+1) m=qx h i (jm (jq m h)):=by
 unfold qx;rw[ND]
def sH{h m:Dy}(hm:m.gX):∀ i,(jv h i m).gX
 | 0=>hm
 |_+1=>EA (ri _ _ _)
def LL{h:Dy}{j9:Int}:∀ (N k:Nat) (m:Dy),N<=k->(∀ i,i<N->qx h i m=true)->sj h j9 k m=sj h j9 (k-N) (jv h N m)
 | 0,_,_,_,_=>rfl
 |N+1,k,m,hN,ho=>by
  obtain⟨k,rfl⟩:∃ k',k=k'+1:=⟨k-1,aC⟩
  have h0:=ho 0 aC;have e:sj h j9 (k+1) m=sj h j9 k (jm (jq m h)):=aZ (fP.1 h0);rw[e,LL N k _ aC λi hi=>by rw[<-ahF];exact ho (i+1) aC,<-ND,(aC:k+1-(N+1)=k-N)]
def Ir{h:Dy}{j9:Int}{k:Nat}{m:Dy}(ho:∀ i,i<k->qx h i m=true):sj h j9 k m=decide (iN (jv h k m) (jy (0-j9))<=0):=by
 rw[LL k k m (bc _) ho,cX];rfl
def Is{h:Dy}{j9:Int}{k N:Nat}{m:Dy}(hN:N<k)(ho:∀ i,i<N->qx h i m=true)(hn:qx h N m=false):
 sj h j9 k m=decide ((jv h N m).ig+((k:Int)-N)*h.ig<=0-j9):=by
 rw[LL N k m aC ho];obtain⟨r,hr⟩:∃ r,k-N=r+1:=⟨k-N-1,aC⟩
 rw[hr];have e:sj h j9 (r+1) (jv h N m)=decide ((jv h N m).ig+((r+1:Nat):Int)*h.ig<=0-j9):=aY (beq_eq_false_iff_ne.1 hn);rw[e,show((r+1:Nat):Int)=k-(N:Int)by omega]
def JK(h m:Dy)(k:Nat):(∀ i,i<k->qx h i m=true)\/∃ N,N<k/\(∀ i,i<N->qx h i m=true)/\qx h N m=false:=by
 induction k with
 |zero=>exact .inl λi hi=>absurd hi (bk i)
 |succ k ih=>
  rcases ih with h1|⟨N,h1,h2,h3⟩
  .cases hk:qx h k m with
   |true=>
    refine .inl λi hi=>?_
    by_cases q:i=k
    .subst q;exact hk
    .exact h1 i aC 
   |false=>exact .inr ⟨k,eh _,h1,hk⟩
  .exact .inr ⟨N,aC,h2,h3⟩
def qO(l:List Dy)(h:Dy)(k:Nat)(j9:Int):Bool:=(List.range l.length).all λi=>sj h j9 k (l.getD i il)
structure KI(F E:Int->Bool)(j0:Int)(n1 n2:Nat):Prop where
 a:∀ n:Nat,n<n1 -> -248<=j0-n/\F (j0-n)=false
 b:j0-n1 < -248\/F (j0-n1)=true
 c:n2<=40
 d:∀ n:Nat,n<n2 -> -248<=j0-n1-n/\E (j0-n1-n)=false
 e:n2=40\/j0-n1-n2 < -248\/E (j0-n1-n2)=true
def Nq{P:Nat->Bool}{n:Nat}(h:P n=true):∃ N,N<=n/\P N=true/\∀ k,k<N->P k=false:=by
 induction n using Nat.strongRecOn with
 |ind n ih=>
  by_cases q:∃ k,k<n/\P k=true
  .obtain ⟨k,h1,h2⟩:=q;obtain⟨N,h3,h4,h5⟩:=ih k h1 h2;exact⟨N,aC,h4,h5⟩
  .exact ⟨n,bc _,h,λk hk=>by
    cases hp:P k with
    |false=>rfl
    |true=>exact absurd ⟨k,hk,hp⟩ q⟩
def agM(F E:Int->Bool)(j0:Int):∃ n1 n2,KI F E j0 n1 n2:=by
 obtain⟨n1,_,h1,h2⟩:=Nq (P:=λn=>decide (j0-(n:Int) < -248)||F (j0-(n:Int))) (n:=(j0+249).toNat) (by
  rw[dx];exact .inl (a6 aC))
 obtain⟨n2,h3,h4,h5⟩:=Nq (P:=λn=>decide (n=40)||decide (j0-(n1:Int)-n < -248)||E (j0-(n1:Int)-n)) (n:=40) aH ;simp only[dx,b9,eC,amR]at h1 h2 h4 h5;refine⟨n1,n2,λn hn=>⟨by have:=(h2 n hn).1;omega,(h2 n hn).2⟩,h1,h3,λn hn=>⟨by have:=(h5 n hn).1.2;omega,(h5 n hn).2⟩,?_⟩;rcases h4 with(h|h)|h
 .exact .inl h
 .exact .inr (.inl h)
 .exact .inr (.inr h)
def GZ(j0:Int)(n1 n2:Nat):Prop:=n2<40 /\ -248<=j0-n1-n2
abbrev rj(l:List Dy)(i j:Nat):E:=(iq (l.getD i il)).getD j .any
noncomputable def Vy(s:jz)(x:List Iv)(k p:Nat)(q:Nat):PS:=⟨49,true,[(12,.own 12),(29,.e (iP q)),(28,.e (iP ((jc s x p k).length:Int))),(27,.e (kK (jc s x p k))),(2,.e (iP k))],[(12,.row true 31 q 3 (rj ((List.range q).map λi=>kt (((jc s x p k).getD i []).getD k gT))))]⟩
noncomputable def Vz(s:jz)(x:List Iv)(k p:Nat)(q:Nat):PS:=⟨49,true,[(12,.own 12),(29,.e (iP q)),(28,.e (iP ((jc s x p k).length:Int))),(27,.e (kK (jc s x p k))),(2,.e (iP k))],[(12,.row true 31 q 3 (rj ((List.range q).map λi=>kt (((jc s x p k).getD i []).getD k gT))))]⟩
def PU{n:Nat}{f:Nat->Bool}(h:¬(List.range n).all f=true):∃ N,N<n/\(!f N)=true/\∀ k,k<N->(!f k)=false:=by
 have hx:∃ N,N<n/\f N=false:=by
  apply bM;intro q;apply h;refine bN.2 λi hi=>?_
  cases hf:f i with
  |true=>rfl
  |false=>exact absurd ⟨i,bW.1 hi,hf⟩ q
 obtain⟨M,hM,hf⟩:=hx;obtain⟨N,h1,h2,h3⟩:=Nq (P:=λi=>!f i) (n:=M) (by rw[hf];rfl);exact⟨N,aC,h2,h3⟩
def ag6{a b:Dy}(h:a.m=0):jq a b=il:=by
 unfold jq canon;rw[h,cC,aZ rfl];rfl
def ag7{a b:Dy}(h:b.m=0):jq a b=il:=by
 unfold jq canon;rw[h,cH,aZ rfl];rfl
def Hy:jm il=il/\kg il=0:=⟨zT (.inl rfl),Ez (.inl rfl)⟩
def aan{a b:Nat}(h1:a≠0)(h2:b≠0):gZ a+gZ b-1<=gZ (a*b):=by
 have p1:=rS h1;have p2:=rS h2;have q1:=nM h1;have q2:=nM h2;have h:=dj p1 p2;rw[<-bh]at h;apply bM;intro q;have h3:=lR.1 (aC:gZ (a*b)<=gZ a-1+(gZ b-1));omega
def VR{a b:Dy}(ha:a.gX)(hb:b.gX)(h1:a.m≠0)(h2:b.m≠0)(hs:4096<gZ a.m+gZ b.m-1):jm (jq a b)=il/\kg (jq a b)=9:=by
 have o1:=ha.canon.resolve_left λq=>h1 q.1
 have o2:=hb.canon.resolve_left λq=>h2 q.1
 have hm:(jq a b).m=a.m*b.m:=by
  unfold jq canon;rw[aY (df h1 h2)];have:(a.m*b.m)%2=1:=by rw[Nat.mul_mod,o1,o2]
  have hz:jj (a.m*b.m)=0:=HI this;rw[hz,cw,eI]
 have lL:=aan h1 h2;have hn:¬mv (jq a b):=λq=>by
  unfold mv at q;rw[hm]at q;rcases q with q|q
  .exact df h1 h2 q
  .omega
 exact⟨Hw hn,Ey hn⟩
def Ie(m:Nat)(h:(gR m).length<=256):gQ 91 [gV (gR m)] (iP (gZ m:Int)):=
 ak call91 func91 (af [ag [gV (gR m)] (r8 _ aC)]) 
def ZW(a b:Dy)(ha:a.gX)(hb:b.gX)(h1:a.m=0):gQ 66 [gU a,gU b] (.ie [gU (jm (jq a b)),iP (kg (jq a b))]):=
 ak call66 func66 (ae [ag [gU a] (mZ _ aD),ag [gU b] (mZ _ aD),ah 20 (((gR a.m).length:Int)==0) (r9 (tW.2 h1)),.o 27 (.e qH:aj (.agg ar) (gU il))]<|rQ (.ie [gU il,iP 0]) (.ie [gU (jm (jq a b)),iP (kg (jq a b))]) (by rw[ag6 h1,Hy.1,Hy.2])) 
def ZX(a b:Dy)(ha:a.gX)(hb:b.gX)(h1:a.m≠0)(h2:b.m=0):gQ 66 [gU a,gU b] (.ie [gU (jm (jq a b)),iP (kg (jq a b))]):=
 ak call66 func66 (ae [ag [gU a] (mZ _ aD),ag [gU b] (mZ _ aD),ai 20 (((gR a.m).length:Int)==0) (ns (o9 h1)),ah 25 (((gR b.m).length:Int)==0) (r9 (tW.2 h2)),.o 27 (.e qH:aj (.agg ar) (gU il))]<|rQ (.ie [gU il,iP 0]) (.ie [gU (jm (jq a b)),iP (kg (jq a b))]) (by rw[ag7 h2,Hy.1,Hy.2])) 
def ZY(a b:Dy)(ha:a.gX)(hb:b.gX)(h1:a.m≠0)(h2:b.m≠0)(hs:4096<gZ a.m+gZ b.m-1):gQ 66 [gU a,gU b] (.ie [gU (jm (jq a b)),iP (kg (jq a b))]):=by
 have la:=ha.gR;have lb:=hb.gR;have ea:=ha.exp;have eb:=hb.exp;have ra:=(ha.range.resolve_left h1).1;have rb:=(hb.range.resolve_left h2).1;exact ak call66 func66 (ae [ag [gU a] (mZ _ aD),ag [gU b] (mZ _ aD),ai 20 (((gR a.m).length:Int)==0) (ns (o9 h1)),ai 25 (((gR b.m).length:Int)==0) (ns (o9 h2)),.c (Ie a.m aC),.c (Ie b.m aC),ij ((gZ a.m:Int)+(gZ b.m:Int)) aC,
  ij (((gZ a.m:Int)+(gZ b.m:Int))-1) aC,tT 36 (4096<(((gZ a.m:Int)+(gZ b.m:Int))-1)) aC,.o 37 (.e qH:aj (.agg ar) (gU il))]<|rQ (.ie [gU il,iP 9]) (.ie [gU (jm (jq a b)),iP (kg (jq a b))]) (by rw[(VR ha hb h1 h2 hs).1,(VR ha hb h1 h2 hs).2])) 
def ZZ(a b:Dy)(ha:a.gX)(hb:b.gX)(h1:a.m≠0)(h2:b.m≠0)(hs:¬4096<gZ a.m+gZ b.m-1):gQ 66 [gU a,gU b] (.ie [gU (jm (jq a b)),iP (kg (jq a b))]):=by
 have la:=ha.gR;have lb:=hb.gR;have ea:=ha.exp;have eb:=hb.exp;have ra:=(ha.range.resolve_left h1).1;have rb:=(hb.range.resolve_left h2).1;have TV:(gR (a.m*b.m)).length<=256:=Ju (by have:=Qz a.m b.m;omega);have iO:=La (mB (a.m*b.m)) TV (!(a.neg==b.neg)) (a.e+b.e);obtain⟨lL,qQ⟩:=K7 (mB (a.m*b.m)) TV (!(a.neg==b.neg)) (a.e+b.e) aC aC;rw[jY]at iO lL qQ;exact ak call66 func66 (ae [ag [gU a] (mZ _ aD),ag [gU b] (mZ _ aD),ai 20 (((gR a.m).length:Int)==0) (ns (o9 h1)),ai 25 (((gR b.m).length:Int)==0) (ns (o9 h2)),.c (Ie a.m aC),.c (Ie b.m aC),ij ((gZ a.m:Int)+(gZ b.m:Int)) aC,
  ij (((gZ a.m:Int)+(gZ b.m:Int))-1) aC,tF 36 (4096<(((gZ a.m:Int)+(gZ b.m:Int))-1)) aC,ag [gV (gR a.m),gV (gR b.m)] (xK _ _ aC aC aC),ij (a.e+b.e) aC,ag [bP (!(a.neg==b.neg)),gV (gR (a.m*b.m)),iP (a.e+b.e)] (Qb _ _ _ aC aC aC),ag [gU (canon (!(a.neg==b.neg)) (a.m*b.m) (a.e+b.e))] (Qc _ aC aC aC)]<|rR (.ie [gU (jm (jq a b)),iP (kg (jq a b))]) (.iL rfl:E.le (.ie [gU (jm (canon (!(a.neg==b.neg)) (a.m*b.m) (a.e+b.e))),iP (kg (canon (!(a.neg==b.neg)) (a.m*b.m) (a.e+b.e)))]) (.ie [gU (jm (jq a b)),iP (kg (jq a b))]))) 
def vj(a b:Dy)(ha:a.gX)(hb:b.gX):gQ 66 [gU a,gU b] (.ie [gU (jm (jq a b)),iP (kg (jq a b))]):=by
 by_cases h1:a.m=0
 .exact ZW a b ha hb h1
 by_cases h2:b.m=0
 .exact ZX a b ha hb h1 h2
 by_cases hs:4096<gZ a.m+gZ b.m-1
 .exact ZY a b ha hb h1 h2 hs
 .exact ZZ a b ha hb h1 h2 hs
def pW(k:Int):gQ 27 [iP k] (gU (jy k)):=
 ak call27 func27 (ae [.o 3 (.e wU:aj (.sl false 1 1 λi_ j_=>[.v (.int .u32 1)].getD (i_*1+j_) (.v (.bool false))) (gV (gR 1)))]<|rR (gU (jy k)) (.iL rfl:E.le (gU (Dy.mk false 1 k)) (gU (jy k)))) 
def NH(j:Int):(nD j).m<8:=by
 have h:=qw (nD j).m;exact bJ h (bH aE (Jy j))
def FZ(j:Int):(gR (nD j).m).length=1/\(gR (nD j).m).getD 0 0=(nD j).m:=by
 have h8:=NH j;rw[AB (NI j),cO aC,nP,bX aC];exact⟨rfl,rfl⟩
def ahb(j:Int):(nD j).m*2^((nD j).e-j/4).toNat=kz j:=by
 obtain⟨e,⟨g,h⟩|⟨g,h⟩|⟨g,h⟩|⟨g,h⟩⟩:=DJ j
 .rw [h,show kz j=4 by unfold kz;omega];show 1*2^(e+2-j/4).toNat=4;rw[show(e+2-j/4).toNat=2 by omega]
 .rw [h,show kz j=5 by unfold kz;omega];show 5*2^(e-j/4).toNat=5;rw[show(e-j/4).toNat=0 by omega]
 .rw [h,show kz j=6 by unfold kz;omega];show 3*2^(e+1-j/4).toNat=6;rw[show(e+1-j/4).toNat=1 by omega]
 .rw [h,show kz j=7 by unfold kz;omega];show 7*2^(e-j/4).toNat=7;rw[show(e-j/4).toNat=0 by omega]
def V0(j:Int):nD (j-1)=if kz j=4 then canon false 7 (j/4-1)else canon false (kz j-1) (j/4):=by
 split
 .rename_i h;have:j%4=0:=by unfold kz at h;omega
  unfold nD;rw[show kz (j-1)=7 by unfold kz;omega,show(j-1)/4=j/4-1 by omega]
 .rename_i h;have:j%4≠0:=by unfold kz at h;omega
  unfold nD;rw[show kz (j-1)=kz j-1 by unfold kz;omega,show(j-1)/4=j/4 by omega]
def Vg{m:Nat}(h0:0<m)(h:m<4294967296):E.le (.sl false 1 1 λi j=>[E.v (.int .u32 (m:Int))].getD (i*1+j) (.v (.bool false))) (gV (gR m)):=by
 have e1:gR m=[m]:=by rw[AB aC,cO h,nP,bX h]
 rw[e1];refine .sl λi j hi hj=>?_
 obtain rfl:i=0:= aC ;obtain rfl:j=0:= aC ;exact⟨.refl _,rfl⟩
def V1(j:Int):IntKind.i64.wrap ((((gR (nD j).m).getD 0 0:Nat):Int)*2^((nD j).e-j/4).toNat)=(kz j:Int):=by
 rw[(FZ j).2];have h:=ahb j;have e:((nD j).m:Int)*2^((nD j).e-j/4).toNat=(((nD j).m*2^((nD j).e-j/4).toNat:Nat):Int):=by rw[ej,Int.natCast_pow];rfl
 rw[e,h];have:=JD j;exact i64_in _ aC aC 
def aaG(j:Int)(h1:-30000<=j)(h2:j<=30000)(h4:kz j=4):gQ 29 [gU (nD j)] (.ie [gU (nD (j-1)),bP true]):=by
 have hv:(nD j).gX:=uR aC aC;have hw:(nD (j-1)).gX:=uR aC aC;have hm:=JD j;have he:=JA j;have hl:=(FZ j).1;have nj:=(FZ j).2;have h8:=NH j;have ht:=F0 j;have hp:=V0 j;rw[aZ h4]at hp;have hr:=hw.range;rw[hp]at hr;have hl7:(gR 7).length<=256:=bg (uO (k:=1) aE) aE;exact ak call29 func29 (ae [ag [gU (nD j)] (mK _ aD),ij ((Dy.ig (nD j))-3) aC,.o 10 (aq ((Dy.ig (nD j))-3) (j/4) (by rw[F0];omega)),iX 0 ((gR ((nD j).m)).length) aC,.o 15 (aq (IntKind.i64.wrap (((gR ((nD j).m)).getD 0 0:Nat):Int)) (((gR ((nD j).m)).getD 0 0:Nat):Int) (Jf _ aC)),ij (((nD j).e)-(j/4)) aC,.a (aC:0<=((((nD j).e)-(j/4)):Int)/\((((nD j).e)-(j/4)):Int)<=((64:Nat):Int)),.o 20 (aq (IntKind.i64.wrap ((((gR ((nD j).m)).getD 0 0:Nat):Int)*2^((((nD j).e)-(j/4))).toNat)) (kz j:Int) (V1 j)),ij ((kz j:Int)-1) aC,.o 22 (aq ((kz j:Int)-1) ((kz j-1:Nat):Int) aC),ah 24 (((kz j-1:Nat):Int)==3) (aU aC),ij ((j/4)-1) aC,.o 29 (.int aE:aj (.v (.int .u32 (IntKind.u32.wrap 7))) (.v (.int .u32 7))),.o 30 (.e (Vg (m:=7) aC aC):aj (.sl false 1 1 λi_ j_=>[.v (.int .u32 7)].getD (i_*1+j_) (.v (.bool false))) (gV (gR 7))),ag [bP false,gV (gR 7),iP ((j/4)-1)] (xr _ _ _ aD aC aC aD),ah 37 ((0:Int)==0) aE]<|rQ (.ie [gU (canon false 7 ((j/4)-1)),bP true]) (.ie [gU (nD (j-1)),bP true]) (by rw[hp])) 
def aaH(j:Int)(h1:-30000<=j)(h2:j<=30000)(h4:¬kz j=4):gQ 29 [gU (nD j)] (.ie [gU (nD (j-1)),bP true]):=by
 have hv:(nD j).gX:=uR aC aC;have hw:(nD (j-1)).gX:=uR aC aC;have hm:=JD j;have he:=JA j;have hl:=(FZ j).1;have nj:=(FZ j).2;have h8:=NH j;have ht:=F0 j;have hp:=V0 j;rw[aY h4]at hp;have hr:=hw.range;rw[hp]at hr;have hl7:(gR (kz j-1)).length<=256:=bg (uO (k:=1) aC) aE;exact ak call29 func29 (ae [ag [gU (nD j)] (mK _ aD),ij ((Dy.ig (nD j))-3) aC,.o 10 (aq ((Dy.ig (nD j))-3) (j/4) (by rw[F0];omega)),iX 0 ((gR ((nD j).m)).length) aC,.o 15 (aq (IntKind.i64.wrap (((gR ((nD j).m)).getD 0 0:Nat):Int)) (((gR ((nD j).m)).getD 0 0:Nat):Int) (Jf _ aC)),ij (((nD j).e)-(j/4)) aC,.a (aC:0<=((((nD j).e)-(j/4)):Int)/\((((nD j).e)-(j/4)):Int)<=((64:Nat):Int)),.o 20 (aq (IntKind.i64.wrap ((((gR ((nD j).m)).getD 0 0:Nat):Int)*2^((((nD j).e)-(j/4))).toNat)) (kz j:Int) (V1 j)),ij ((kz j:Int)-1) aC,.o 22 (aq ((kz j:Int)-1) ((kz j-1:Nat):Int) aC),ai 24 (((kz j-1:Nat):Int)==3) (aT aC),.o 29 (.int (by rw[IntKind.wrap_u32];omega):aj (.v (.int .u32 (IntKind.u32.wrap ((kz j-1:Nat):Int)))) (.v (.int .u32 ((kz j-1:Nat):Int)))),.o 30 (.e (Vg (m:=(kz j-1)) aC aC):aj (.sl false 1 1 λi_ j_=>[.v (.int .u32 ((kz j-1:Nat):Int))].getD (i_*1+j_) (.v (.bool false))) (gV (gR (kz j-1)))),ag [bP false,gV (gR (kz j-1)),iP (j/4)] (xr _ _ _ aD aC aC aD),ah 37 ((0:Int)==0) aE]<|rQ (.ie [gU (canon false (kz j-1) (j/4)),bP true]) (.ie [gU (nD (j-1)),bP true]) (by rw[hp])) 
def zO(j:Int)(h1:-30000<=j)(h2:j<=30000):gQ 29 [gU (nD j)] (.ie [gU (nD (j-1)),bP true]):=by
 by_cases h4:kz j=4
 .exact aaG j h1 h2 h4
 .exact aaH j h1 h2 h4
def ahy{d:Dy}(h0:0<d.iJ)(h3:gZ d.m<=3):lI d=rA d.m d.e:=by
 unfold rA lI;rw[aZ h3]
def abc(d:Dy)(hv:d.gX)(h0:0<d.iJ)(h3:gZ d.m<=3):gQ 15 [gU d] (.ie [gU (rA d.m d.e),bP true]):=by
 obtain⟨j,yC,Mw,_⟩:=NS hv h0;have hl:=hv.gR;have he:=hv.exp;have hb:gZ d.m<=4096:=by
  rcases hv.range with q|q
  .rw [q,rH];omega
  .exact q.1
 exact ak call15 func15 (ae [ag [gU d] (mZ _ aD),ag [gU d] (mJ _ aD),tF 15 ((Dy.iJ d)<=0) aC,ag [gU d] (C5 _ aD),
  ij ((gZ (Dy.m d):Int)-3) aC,tT 22 (((gZ (Dy.m d):Int)-3)<=0) aC,.c (C4 d aD)]<|rQ (.ie [gU (lI d),bP true]) (.ie [gU (rA d.m d.e),bP true]) (by rw[ahy h0 h3])) 
def abd(d:Dy)(hv:d.gX)(h0:0<d.iJ)(h3:¬gZ d.m<=3):gQ 15 [gU d] (.ie [gU (rA d.m d.e),bP true]):=by
 obtain⟨j,yC,Mw,_⟩:=NS hv h0;have hl:=hv.gR;have he:=hv.exp;have hb:gZ d.m<=4096:=by
  rcases hv.range with q|q
  .rw [q,rH];omega
  .exact q.1
 have hlq:=bg (mw (bT d.m (2^(gZ d.m-3)))) hl;have hr:=Mw.range;rw[<-yC]at hr;unfold rA at hr;rw[aY h3]at hr;exact ak call15 func15 (ae [ag [gU d] (mZ _ aD),ag [gU d] (mJ _ aD),tF 15 ((Dy.iJ d)<=0) aC,ag [gU d] (C5 _ aD),
  ij ((gZ (Dy.m d):Int)-3) aC,.o 20 (aq ((gZ (Dy.m d):Int)-3) ((gZ d.m-3:Nat):Int) aC),tF 22 (((gZ d.m-3:Nat):Int)<=0) aC,ag [gV (gR d.m),iP ((gZ d.m-3:Nat):Int)] (JC _ _ aC aC),ij (d.e+((gZ d.m-3:Nat):Int)) aC,ag [bP false,gV (gR (d.m/2^(gZ d.m-3))),iP (d.e+((gZ d.m-3:Nat):Int))] (xr _ _ _ aD aC aC aD),ah 43 ((0:Int)==0) aE]<|rQ (.ie [gU (canon false (d.m/2^(gZ d.m-3)) (d.e+((gZ d.m-3:Nat):Int))),bP true]) (.ie [gU (rA d.m d.e),bP true]) (by unfold rA;rw[aY h3])) 
def K3(d:Dy)(hv:d.gX)(h0:0<d.iJ):gQ 15 [gU d] (.ie [gU (rA d.m d.e),bP true]):=by
 by_cases h3:gZ d.m<=3
 .exact abc d hv h0 h3
 .exact abd d hv h0 h3
def acN(d:Dy)(j:Nat)(hj:j<3):((iq d).getD j .any).nr 2=true:=by
 rcases j with _|_|_|j
 all_goals first|rfl|omega
def acX{T n:Nat}{xs:List Dy}{y:Dy}(hn:n=xs.length):
 Bx.le (.row true T (n+[y].length) 3 λi j=>if i<n then rj xs i j else(E.kE (jZ [y])) (i-n) j) (.row true T (xs++[y]).length 3 (rj (xs++[y]))):=by
 subst hn;refine .row aH λi j hi hj=>⟨.iL ?_,acN _ _ hj⟩
 by_cases h:i<xs.length
 .rw [aZ h];show(iq (xs.getD i il)).getD j .any=(iq ((xs++[y]).getD i il)).getD j .any;congr 2;simp[bd,dw h]
 .have mi:i=xs.length:=by simp at hi;omega
  subst mi;rw[aY h,cX];show(iq y).getD j .any=(iq ((xs++[y]).getD xs.length il)).getD j .any;congr 2;simp[bd]
def RT{T n k:Nat}{F:Nat->Dy}{y:Dy}(hn:n=k)(hy:y=F k):
 Bx.le (.row true T (n+[y].length) 3 λi j=>if i<n then rj ((List.range k).map F) i j else(E.kE (jZ [y])) (i-n) j) (.row true T (k+1) 3 (rj ((List.range (k+1)).map F))):=by
 subst hn hy;have h:=acX (T:=T) (n:=n) (xs:=(List.range n).map F) (y:=F n) aH;have e:(List.range n).map F++[F n]=(List.range (n+1)).map F:=by rw[amC,fD];rfl
 rw[e]at h;have e2:((List.range (n+1)).map F).length=n+1:= aH ;rw[e2]at h;exact h
def RS{T:Nat}{e e':Nat->Nat->E}:Bx.le (.row true T 0 3 e) (.row true T 0 3 e'):=.row rfl λi j hi=>absurd hi (bk i)
def acW{n:Nat}{xs:List Dy}(h:n=xs.length):E.le (.sl true n 3 (rj xs)) (jZ xs):=by subst h;exact .refl _
def aa8(s:jz)(x:List Iv)(k p:Nat)(h:lH s)(hx:kf s.iH x)(hk:k<=16)(ib:8<=p)(gW:p<=512)(hm:∀ q,q<(jc s x p k).length->(((jc s x p k).getD q []).getD k gT).all=false):gQ 26 [kQ s,gY x,iP k,iP p] (.ie [jZ ((List.range ((jc s x p k).length)).map λi=>kt (((jc s x p k).getD i []).getD k gT)),bP true]):=by
 have hj:=FI h hx ib gW k hk;have TN:=uM s x p k;have lx:=hx.len;have s4:=h.s4;exact ak call26 func26 (ae [.c (Rh s x k p h hx ib gW aC),ai 26 ((0:Int) != 0) aE,.y 12 12 true 31 3 (rj []),.s (Sp.jE (Vy s x k p) 0 ((jc s x p k).length) aC (λq hq afa=>by
    have Fh:=hj q aC;have My:=Fh.len;have Mz:=Fh.ok k;have Fl:=hm q aC;have rq:[kt (((jc s x p k).getD q []).getD k gT)].length=1:=rfl;exact iA (ae [tT 30 ((q:Int)<((jc s x p k).length:Int)) aC,iX (q:Int) ((jc s x p k).length) aC,iX (k:Int) (((jc s x p k).getD q []).length) aC,.c (FH (((jc s x p k).getD q []).getD k gT) aD Fl),.o 45 (.e (EN _):aj (.sl true 1 3 λi_ j_=>(iq (kt (((jc s x p k).getD q []).getD k gT))).getD (i_*3+j_) (.v (.bool false))) (jZ [kt (((jc s x p k).getD q []).getD k gT)])),.a (aC:(q+[kt (((jc s x p k).getD q []).getD k gT)].length)*40<=140737488355328),ij ((q:Int)+1) aC]<|.e (af [.b 12 (RT rfl rfl:Bx.le (.row true 31 (q+[kt (((jc s x p k).getD q []).getD k gT)].length) 3 (λi_ j_=>if i_<q then(rj ((List.range q).map λi=>kt (((jc s x p k).getD i []).getD k gT))) i_ j_ else(E.kE (jZ [kt (((jc s x p k).getD q []).getD k gT)])) (i_-q) j_)) (.row true 31 (q+1) 3 (rj ((List.range (q+1)).map λi=>kt (((jc s x p k).getD i []).getD k gT)))))])) aF)
  (λhq=>by
    exact iA (af [tF 30 (((jc s x p k).length:Int)<((jc s x p k).length:Int)) aC]) aF) aI:jB 6 Tryz.f26 (Vy s x k p 0) (.exit 0) ⟨49,true,[(12,.own 12)],[(12,.row true 31 ((jc s x p k).length) 3 (rj ((List.range ((jc s x p k).length)).map λi=>kt (((jc s x p k).getD i []).getD k gT))))]⟩) (af [.b 12 (RS:Bx.le (.row true 31 0 3 (rj [])) (.row true 31 0 3 (rj ((List.range 0).map λi=>kt (((jc s x p k).getD i []).getD k gT)))))])]<|rR (.ie [jZ ((List.range ((jc s x p k).length)).map λi=>kt (((jc s x p k).getD i []).getD k gT)),bP true]) (.ie (.cons (acW aH) (.cons (.refl _) .nil)):E.le (.ie [.sl true ((jc s x p k).length) 3 (rj ((List.range ((jc s x p k).length)).map λi=>kt (((jc s x p k).getD i []).getD k gT))),bP true]) (.ie [jZ ((List.range ((jc s x p k).length)).map λi=>kt (((jc s x p k).getD i []).getD k gT)),bP true]))) 
def aa6(s:jz)(x:List Iv)(k p:Nat)(h:lH s)(hx:kf s.iH x)(hk:k<=16)(ib:8<=p)(gW:p<=512)(N:Nat)(hN:N<(jc s x p k).length)(hm:∀ q,q<N->(((jc s x p k).getD q []).getD k gT).all=false)(MG:(((jc s x p k).getD N []).getD k gT).all=true):gQ 26 [kQ s,gY x,iP k,iP p] (.ie [.v (.slice none 0 0),bP false]):=by
 have hj:=FI h hx ib gW k hk;have TN:=uM s x p k;have lx:=hx.len;have s4:=h.s4;exact ak call26 func26 (af [.c (Rh s x k p h hx ib gW aC),ai 26 ((0:Int) != 0) aE,.y 12 12 true 31 3 (rj []),.s (Sp.jE (Vz s x k p) 0 N aC (λq hq afa=>by
    have Fh:=hj q aC;have My:=Fh.len;have Mz:=Fh.ok k;have Fl:=hm q aC;have rq:[kt (((jc s x p k).getD q []).getD k gT)].length=1:=rfl;exact iA (ae [tT 30 ((q:Int)<((jc s x p k).length:Int)) aC,iX (q:Int) ((jc s x p k).length) aC,iX (k:Int) (((jc s x p k).getD q []).length) aC,.c (FH (((jc s x p k).getD q []).getD k gT) aD Fl),.o 45 (.e (EN _):aj (.sl true 1 3 λi_ j_=>(iq (kt (((jc s x p k).getD q []).getD k gT))).getD (i_*3+j_) (.v (.bool false))) (jZ [kt (((jc s x p k).getD q []).getD k gT)])),.a (aC:(q+[kt (((jc s x p k).getD q []).getD k gT)].length)*40<=140737488355328),ij ((q:Int)+1) aC]<|.e (af [.b 12 (RT rfl rfl:Bx.le (.row true 31 (q+[kt (((jc s x p k).getD q []).getD k gT)].length) 3 (λi_ j_=>if i_<q then(rj ((List.range q).map λi=>kt (((jc s x p k).getD i []).getD k gT))) i_ j_ else(E.kE (jZ [kt (((jc s x p k).getD q []).getD k gT)])) (i_-q) j_)) (.row true 31 (q+1) 3 (rj ((List.range (q+1)).map λi=>kt (((jc s x p k).getD i []).getD k gT)))))])) aF)
  (λhq=>by
    have Mz:=(hj N aC).ok k;have My:=(hj N aC).len;have Fl:=MG;exact iA (af [tT 30 ((N:Int)<((jc s x p k).length:Int)) aC,iX (N:Int) ((jc s x p k).length) aC,iX (k:Int) (((jc s x p k).getD N []).length) aC,.c (KX (((jc s x p k).getD N []).getD k gT) Mz Fl)]) aF) aI:jB 6 Tryz.f26 (Vz s x k p 0) .ret ⟨49,true,[(9,.e (bP false)),(8,.e (.v (.slice none 0 0)))],[]⟩) (af [.b 12 (RS:Bx.le (.row true 31 0 3 (rj [])) (.row true 31 0 3 (rj ((List.range 0).map λi=>kt (((jc s x p k).getD i []).getD k gT)))))])]) 
noncomputable def vR(s:jz)(x:List Iv)(k p:Nat):List Dy:=((List.range ((jc s x p k).length)).map λi=>kt (((jc s x p k).getD i []).getD k gT))
noncomputable def AF(s:jz)(x:List Iv)(k p:Nat):Bool:=(List.range (jc s x p k).length).all λq=>!(((jc s x p k).getD q []).getD k gT).all
def aa7(s:jz)(x:List Iv)(k p:Nat)(h:lH s)(hx:kf s.iH x)(hk:k<=16)(ib:8<=p)(gW:p<=512):gQ 26 [kQ s,gY x,iP k,iP p] (if AF s x k p=true then .ie [jZ (vR s x k p),bP true]else .ie [.v (.slice none 0 0),bP false]):=by
 by_cases hb:AF s x k p=true
 .rw [aZ hb];exact aa8 s x k p h hx hk ib gW λq hq=>by simpa using List.all_eq_true.1 hb q (bW.2 hq)
 .rw [aY hb];obtain⟨N,n1,n2,n3⟩:=PU hb;exact aa6 s x k p h hx hk ib gW N n1 (λq hq=>by simpa using n3 q hq) (by simpa using n2)
def agU{s:jz}{x:List Iv}{k p:Nat}(h:lH s)(hx:kf s.iH x)(hk:k<=16)(ib:8<=p)(gW:p<=512)(hb:AF s x k p=true):(vR s x k p).length<=4/\∀ i,((vR s x k p).getD i il).gX:=by
 have hj:=FI h hx ib gW k hk;have TN:=uM s x p k;have lx:=hx.len;have s4:=h.s4;refine⟨by unfold vR;rw[ca,List.length_range];omega,λi=>?_⟩;by_cases hi:i<(jc s x p k).length
 .have e:(vR s x k p).getD i il=kt (((jc s x p k).getD i []).getD k gT):=by simp[vR,bd,hi]
  rw[e];have hv:=(hj i hi).ok k;obtain⟨v1,v2⟩:=hv.jW;exact FR v1 v2
 .have e:(vR s x k p).getD i il=il:=by
   rw[bd,b7 (by unfold vR;rw[ca,List.length_range];omega)];rfl
  rw[e];exact rf
def RZ(s:jz)(x:List Iv)(d:Dy)(p:Nat)(k:Nat):PS:=⟨55,true,[(22,.e (iP k)),(10,.oP 41 [.box 5,.box 4,.box 6,.box 7]),(7,.box 7 0),(6,.box 6 0),(5,.box 5 0),(4,.box 4 0)],[(7,.cells 3 [iP p]),(6,.cells 31 (iq d)),(5,.cells 26 [gY x]),(4,.cells 28 [iP s.tape.ic,kD s.tape.gS,kC s.tape.iu,iP s.iH,gY s.params])]⟩
noncomputable def R2(s:jz)(x:List Iv)(d:Dy)(p:Nat)(N:Nat)(j:Nat):PS:=⟨55,true,[(36,.e (iP j)),(14,.e (gY (kW s x d p j))),(7,.box 7 0),(6,.box 6 0),(5,.box 5 0),(4,.box 4 0)],[(7,.cells 3 [iP p]),(6,.cells 31 (iq d)),(5,.cells 26 [gY x]),(4,.cells 28 [iP s.tape.ic,kD s.tape.gS,kC s.tape.iu,iP s.iH,gY s.params])]⟩
def ac1(s:jz)(x:List Iv)(d:Dy)(p:Nat)(h:lH s)(hx:kf s.iH x)(hd:d.gX)(h0:0<d.iJ)(ib:8<=p)(gW:p<=512)(jG:∀ k:Nat,k<24->rF s x d p ((k:Int)-20)=false)(N:Nat)(pN:N<10)(tJ:∀ j,j<=N->kf s.iH (kW s x d p j))(hw:∀ j,j<N->k0 s x d (kW s x d p j) p≠[]/\rZ s x d (k0 s x d (kW s x d p j) p) p=false)(jf:k0 s x d (kW s x d p N) p≠[])(hN:rZ s x d (k0 s x d (kW s x d p N) p) p=true):gQ 13 [kQ s,gY x,gU d,iP p] (.ie [gY (k0 s x d (kW s x d p N) p),iP 0]):=by
 have hbN:=tJ N (bc _);have lL:=CI hx (aC:1<=p) (aC:p<=4096) jf;exact ak call13 func13 (af [.c (Bw s x d p h hx hd h0 ib gW),.s (Sp.jE (RZ s x d p) 0 24 aC (λk hk I0=>by
    exact iA (af [tT 23 ((k:Int)<24) aC,ij ((k:Int)-20) aC,ag [iP ((k:Int)-20),(.iM 1 λj_=>[gY x].getD j_ .any),(.iM 5 λj_=>[iP s.tape.ic,kD s.tape.gS,kC s.tape.iu,iP s.iH,gY s.params].getD j_ .any),(.iM 3 λj_=>[bP d.neg,gV (gR d.m),iP d.e].getD j_ .any),(.iM 1 λj_=>[iP p].getD j_ .any)] (En _ _ _ _ h hx hd h0 ib gW _ aC aC),ai 31 (rF s x d p ((k:Int)-20)) (jG k aC),ij ((k:Int)+1) aC]) aF)
  (λhk=>by
    exact iA (af [ai 23 (decide ((24:Int)<24)) aE]) aF) aI:jB 5 Tryz.f13 (RZ s x d p 0) (.exit 0) ⟨55,true,[(7,.box 7 0),(6,.box 6 0),(5,.box 5 0),(4,.box 4 0)],[(7,.cells 3 [iP p]),(6,.cells 31 (iq d)),(5,.cells 26 [gY x]),(4,.cells 28 [iP s.tape.ic,kD s.tape.gS,kC s.tape.iu,iP s.iH,gY s.params])]⟩) .nil,.s (Sp.jE (R2 s x d p N) 0 N aC (λj hj TW=>by
    have yy:=tJ j aC;obtain⟨jf,Fo⟩:=hw j aC;have lL:=CI hx (aC:1<=p) (aC:p<=4096) jf;exact iA (ae [tT 37 ((j:Int)<10) aC,.c (GP s x d (kW s x d p j) p h hx hd h0 yy ib gW),ai 46 (((k0 s x d (kW s x d p j) p).length:Int)==0) (FM jf),.c (Dp s x d (k0 s x d (kW s x d p j) p) p h hx hd h0 lL ib gW),ai 52 (rZ s x d (k0 s x d (kW s x d p j) p) p) Fo,ij ((j:Int)+1) aC]<|.e (af [.o 14 (.e (.iL rfl):aj (gY (k0 s x d (kW s x d p j) p)) (gY (kW s x d p (j+1))))])) aF)
  (λhj=>by
    have yy:=tJ N (bc _);have lL:=CI hx (aC:1<=p) (aC:p<=4096) jf;exact iA (af [tT 37 ((N:Int)<10) aC,.c (GP s x d (kW s x d p N) p h hx hd h0 yy ib gW),ai 46 (((k0 s x d (kW s x d p N) p).length:Int)==0) (FM jf),.c (Dp s x d (k0 s x d (kW s x d p N) p) p h hx hd h0 lL ib gW),ah 52 (rZ s x d (k0 s x d (kW s x d p N) p) p) hN]) aF) aI:jB 13 Tryz.f13 (R2 s x d p N 0) .ret ⟨55,true,[(9,.e (iP 0)),(8,.e (gY (k0 s x d (kW s x d p N) p)))],[]⟩) (af [.o 14 (.e (.iL rfl):aj (gY x) (gY (kW s x d p 0)))])]) 
def R3:Option (List Iv)->E
 |some b=>.ie [gY b,iP 0]
 |none=>.ie [.v (.slice none 0 0),iP 12]
def R4(s:jz)(x:List Iv)(d:Dy)(p:Nat)(h:lH s)(hx:kf s.iH x)(hd:d.gX)(h0:0<d.iJ)(ib:8<=p)(gW:p<=512):∃ o,gQ 13 [kQ s,gY x,gU d,iP p] (R3 o)/\(∀ b,o=some b->kf s.iH b/\rZ s x d b p=true)/\(o=none->∀ k:Nat,k<24->rF s x d p ((k:Int)-20)=false):=by
 have p1:1<=p:= aC ;have p2:p<=4096:= aC ;by_cases ha:∃ N:Nat,N<24/\rF s x d p ((N:Int)-20)=true
 .obtain ⟨N,n1,n2,n3⟩:=sG (p:=λN=>rF s x d p ((N:Int)-20)) ha;refine⟨some _,ac0 s x d p h hx hd h0 ib gW N n1 (λk hk=>n3 k hk) n2,λb hb=>?_,λq=>by cases q⟩;cases hb;have n4:=n2;unfold rF at n4;rw[bE]at n4;exact⟨LX hx (GI (k:=(N:Int)-20) aC aC) (X2 (Pj _)) n4.1,n4.2⟩
 .have jG:∀ k:Nat,k<24->rF s x d p ((k:Int)-20)=false:=λk hk=>by
   cases hc:rF s x d p ((k:Int)-20)with
   |false=>rfl
   |true=>exact absurd ⟨k,hk,hc⟩ ha
  have tJ:∀ N,(∀ j,j<N->k0 s x d (kW s x d p j) p≠[])->∀ j,j<=N->kf s.iH (kW s x d p j):=λN jf j hj=>by
   rcases j with _|j
   .exact hx
   .exact CI hx p1 p2 (jf j aC)
  by_cases pM:∃ N:Nat,N<10/\decide (k0 s x d (kW s x d p N) p=[]\/rZ s x d (k0 s x d (kW s x d p N) p) p=true)=true
  .obtain ⟨N,n1,n2,n3⟩:=sG pM;have hw:∀ j,j<N->k0 s x d (kW s x d p j) p≠[]/\rZ s x d (k0 s x d (kW s x d p j) p) p=false:=λj hj=>by
    have:=fU (n3 j hj);exact⟨λq=>this (.inl q),aV λq=>this (.inr q)⟩
   have hb:=tJ N λj hj=>(hw j hj).1
   by_cases he:k0 s x d (kW s x d p N) p=[]
   .exact ⟨none,ac2 s x d p h hx hd h0 ib gW jG N n1 hb hw he,(λb q=>by cases q),λ_=>jG⟩
   .have hN:=(cJ n2).resolve_left he;refine⟨some _,ac1 s x d p h hx hd h0 ib gW jG N n1 hb hw he hN,λb q=>?_,λq=>by cases q⟩;cases q;exact⟨CI hx p1 p2 he,hN⟩
  .have hw:∀ j,j<10->k0 s x d (kW s x d p j) p≠[]/\rZ s x d (k0 s x d (kW s x d p j) p) p=false:=λj hj=>
    ⟨λq=>pM ⟨j,hj,a6 (.inl q)⟩,aV λq=>pM ⟨j,hj,a6 (.inr q)⟩⟩
   exact⟨none,acZ s x d p h hx hd h0 ib gW jG (tJ 10 λj hj=>(hw j hj).1) hw,(λb q=>by cases q),λ_=>jG⟩
end Go.Proofs.YtkdddbdjilcofaaGreatDoor
