/- Lemmas that the last file uses. -/
import Derived.Test.YtjkmahljfblobaaGreatDoorM03
import Derived.MapKept
import Derived.DeepKeys
set_option linter.unusedSimpArgs false
set_option linter.unusedVariables false
set_option linter.defProp false
set_option maxHeartbeats 4000000
open Go.Proofs.Tryz
namespace Go.Proofs.YtjkmahljfblobaaGreatDoor
open Go.RowKit Fp Pu
section
variable(x y:Iv)(p:Nat)(gd gu:FuncId)(DD:Dy->Dy->Bool->Dy)
def akZ(EE:Dy->Dy->Bool->Int):PS:=⟨96,true,[(41,.e<|iP 0),(40,.e<|.agg<|jS (Iv.mk x.lo y.lo x.lo.neg)++[iy<|im x.lo.m,iP x.lo.e]++jS (Iv.mk y.hi x.hi y.lo.neg)++[iy<|im y.lo.m,iP y.lo.e]++kG x.hi++kG y.hi),(12,.box 12 0),(10,.box 10 0),(2,.e<|iP p),(3,.e<|.fn gd []),(4,.e<|.fn gu [])],[(12,.cells 41<|jS<|Iv.mk (DD x.lo y.lo false) (DD x.lo y.lo true) false),(10,.cells 41 au)]⟩
def ak0(EE:Dy->Dy->Bool->Int):PS:=⟨96,true,[(41,.e<|iP<|0+1),(40,.e<|.agg<|jS (Iv.mk x.lo y.lo x.lo.neg)++[iy<|im x.lo.m,iP x.lo.e]++jS (Iv.mk y.hi x.hi y.lo.neg)++[iy<|im y.lo.m,iP y.lo.e]++kG x.hi++kG y.hi),(12,.box 12 0),(10,.box 10 0),(2,.e<|iP p),(3,.e<|.fn gd []),(4,.e<|.fn gu [])],[(12,.cells 41<|jS<|Iv.mk (jA (DD x.lo y.lo false)<|DD x.lo y.hi false) (jy (DD x.lo y.lo true)<|DD x.lo y.hi true) false),(10,.cells 41 au)]⟩
def ak1(EE:Dy->Dy->Bool->Int):PS:=⟨96,true,[(41,.e<|iP<|(0+1)+1),(40,.e<|.agg<|jS (Iv.mk x.lo y.lo x.lo.neg)++[iy<|im x.lo.m,iP x.lo.e]++jS (Iv.mk y.hi x.hi y.lo.neg)++[iy<|im y.lo.m,iP y.lo.e]++kG x.hi++kG y.hi),(12,.box 12 0),(10,.box 10 0),(2,.e<|iP p),(3,.e<|.fn gd []),(4,.e<|.fn gu [])],[(12,.cells 41<|jS<|Iv.mk (jA (jA (DD x.lo y.lo false)<|DD x.lo y.hi false)<|DD x.hi y.lo false) (jy (jy (DD x.lo y.lo true)<|DD x.lo y.hi true)<|DD x.hi y.lo true) false),(10,.cells 41 au)]⟩
def ak2(EE:Dy->Dy->Bool->Int):PS:=⟨96,true,[(41,.e<|iP<|((0+1)+1)+1),(40,.e<|.agg<|jS (Iv.mk x.lo y.lo x.lo.neg)++[iy<|im x.lo.m,iP x.lo.e]++jS (Iv.mk y.hi x.hi y.lo.neg)++[iy<|im y.lo.m,iP y.lo.e]++kG x.hi++kG y.hi),(12,.box 12 0),(10,.box 10 0),(2,.e<|iP p),(3,.e<|.fn gd []),(4,.e<|.fn gu [])],[(12,.cells 41<|jS<|Iv.mk (jA (jA (jA (DD x.lo y.lo false)<|DD x.lo y.hi false)<|DD x.hi y.lo false)<|DD x.hi y.hi false) (jy (jy (jy (DD x.lo y.lo true)<|DD x.lo y.hi true)<|DD x.hi y.lo true)<|DD x.hi y.hi true) false),(10,.cells 41 au)]⟩
def YT(EE:Dy->Dy->Bool->Int)(hd:∀ a b,(a=x.lo\/a=x.hi)->(b=y.lo\/b=y.hi)->il gd [iB a,iB b,iP (p:Int)] (.iH [iB<|DD a b false,iP<|EE a b false]))
  (hu:∀ a b,(a=x.lo\/a=x.hi)->(b=y.lo\/b=y.hi)->il gu [iB a,iB b,iP (p:Int)] (.iH [iB<|DD a b true,iP<|EE a b true])) (hv:∀ a b up,(DD a b up).ix):il 119 [iA x,iA y,iP p,.fn gd [],.fn gu []]<|iA<|qo DD EE x y:=by
 exact iE (ae [.u 5,ah 42 (decide ((0:Int)<4)) aE]<|.w ((EE x.lo y.lo false)=0)
  (λk1=>.w ((EE x.lo y.lo true)=0)
   (λk2=>ae [.j 3 (akZ x y p gd gu DD EE)
   (af [iX 0 4,iX 0 2,iX 1 2,.c (hd _ _ (.inl rfl)<|.inl rfl:il gd ((iB x.lo)::(iB y.lo)::(iP p)::[]) _),iX 0 2,iX 1 2,.c (hu _ _ (.inl rfl)<|.inl rfl:il gu ((iB x.lo)::(iB y.lo)::(iP p)::[]) _),tB 66<|bg k1,tB 69<|bg k2,ah 73 ((0:Int)==0) aE,ah 84 ((0:Int)==0) aE]),
    iL (0+1),ah 42 (decide (((0+1):Int)<4)) aE]<|.w ((EE x.lo y.hi false)=0)
    (λk3=>.w ((EE x.lo y.hi true)=0)
     (λk4=>ae [.j 3 (ak0 x y p gd gu DD EE)
   (ae [iX (0+1) 4,iX 0 2,iX 1 2,.c (hd _ _ (.inl rfl)<|.inr rfl:il gd ((iB x.lo)::(iB y.hi)::(iP p)::[]) _),iX 0 2,iX 1 2,.c (hu _ _ (.inl rfl)<|.inr rfl:il gu ((iB x.lo)::(iB y.hi)::(iP p)::[]) _),tB 66<|bg k3,tB 69<|bg k4,ai 73 (((0+1):Int)==0) aE,.c<|nE (DD x.lo y.hi false) (DD x.lo y.lo false) (hv _ _ _)<|hv _ _ _]<|.w ((jN (DD x.lo y.hi false)<|DD x.lo y.lo false)<0)
    (λm1=>ae [tB 79<|bu m1,ai 84 (((0+1):Int)==0) aE,.c<|nE (DD x.lo y.hi true) (DD x.lo y.lo true) (hv _ _ _)<|hv _ _ _]<|.w (0<(jN (DD x.lo y.hi true)<|DD x.lo y.lo true))
     (λm2=>ae [tB 90<|bu m2]<|.e<|af [.b 12 (.jq<|by rw[show jA (DD x.lo y.lo false) (DD x.lo y.hi false)=(DD x.lo y.hi false)from bk m1,show jy (DD x.lo y.lo true) (DD x.lo y.hi true)=(DD x.lo y.hi true)from bk m2]:Bx.le (.cells 41<|jS<|Iv.mk (DD x.lo y.hi false) (DD x.lo y.hi true) false)<|.cells 41<|jS<|Iv.mk (jA (DD x.lo y.lo false)<|DD x.lo y.hi false) (jy (DD x.lo y.lo true)<|DD x.lo y.hi true) false)])
     (λm2=>ae [tB 90<|bn m2]<|.e<|af [.b 12 (.jq<|by rw[show jA (DD x.lo y.lo false) (DD x.lo y.hi false)=(DD x.lo y.hi false)from bk m1,show jy (DD x.lo y.lo true) (DD x.lo y.hi true)=(DD x.lo y.lo true)from bj m2]:Bx.le (.cells 41<|jS<|Iv.mk (DD x.lo y.hi false) (DD x.lo y.lo true) false)<|.cells 41<|jS<|Iv.mk (jA (DD x.lo y.lo false)<|DD x.lo y.hi false) (jy (DD x.lo y.lo true)<|DD x.lo y.hi true) false)]))
    (λm1=>ae [tB 79<|bn m1,ai 84 (((0+1):Int)==0) aE,.c<|nE (DD x.lo y.hi true) (DD x.lo y.lo true) (hv _ _ _)<|hv _ _ _]<|.w (0<(jN (DD x.lo y.hi true)<|DD x.lo y.lo true))
     (λm2=>ae [tB 90<|bu m2]<|.e<|af [.b 12 (.jq<|by rw[show jA (DD x.lo y.lo false) (DD x.lo y.hi false)=(DD x.lo y.lo false)from bj m1,show jy (DD x.lo y.lo true) (DD x.lo y.hi true)=(DD x.lo y.hi true)from bk m2]:Bx.le (.cells 41<|jS<|Iv.mk (DD x.lo y.lo false) (DD x.lo y.hi true) false)<|.cells 41<|jS<|Iv.mk (jA (DD x.lo y.lo false)<|DD x.lo y.hi false) (jy (DD x.lo y.lo true)<|DD x.lo y.hi true) false)])
     (λm2=>ae [tB 90<|bn m2]<|.e<|af [.b 12 (.jq<|by rw[show jA (DD x.lo y.lo false) (DD x.lo y.hi false)=(DD x.lo y.lo false)from bj m1,show jy (DD x.lo y.lo true) (DD x.lo y.hi true)=(DD x.lo y.lo true)from bj m2]:Bx.le (.cells 41<|jS<|Iv.mk (DD x.lo y.lo false) (DD x.lo y.lo true) false)<|.cells 41<|jS<|Iv.mk (jA (DD x.lo y.lo false)<|DD x.lo y.hi false) (jy (DD x.lo y.lo true)<|DD x.lo y.hi true) false)]))),
      iL ((0+1)+1),ah 42 (decide ((((0+1)+1):Int)<4)) aE]<|.w ((EE x.hi y.lo false)=0)
      (λk5=>.w ((EE x.hi y.lo true)=0)
       (λk6=>ae [.j 3 (ak1 x y p gd gu DD EE)
   (ae [iX ((0+1)+1) 4,iX 0 2,iX 1 2,.c (hd _ _ (.inr rfl)<|.inl rfl:il gd ((iB x.hi)::(iB y.lo)::(iP p)::[]) _),iX 0 2,iX 1 2,.c (hu _ _ (.inr rfl)<|.inl rfl:il gu ((iB x.hi)::(iB y.lo)::(iP p)::[]) _),tB 66<|bg k5,tB 69<|bg k6,ai 73 ((((0+1)+1):Int)==0) aE,.c<|nE (DD x.hi y.lo false) (jA (DD x.lo y.lo false)<|DD x.lo y.hi false) (hv _ _ _)<|xo (hv _ _ _)<|hv _ _ _]<|.w ((jN (DD x.hi y.lo false)<|jA (DD x.lo y.lo false)<|DD x.lo y.hi false)<0)
    (λm1=>ae [tB 79<|bu m1,ai 84 ((((0+1)+1):Int)==0) aE,.c<|nE (DD x.hi y.lo true) (jy (DD x.lo y.lo true)<|DD x.lo y.hi true) (hv _ _ _)<|uI (hv _ _ _)<|hv _ _ _]<|.w (0<(jN (DD x.hi y.lo true)<|jy (DD x.lo y.lo true)<|DD x.lo y.hi true))
     (λm2=>ae [tB 90<|bu m2]<|.e<|af [.b 12 (.jq<|by rw[show jA (jA (DD x.lo y.lo false)<|DD x.lo y.hi false) (DD x.hi y.lo false)=(DD x.hi y.lo false)from bk m1,show jy (jy (DD x.lo y.lo true)<|DD x.lo y.hi true) (DD x.hi y.lo true)=(DD x.hi y.lo true)from bk m2]:Bx.le (.cells 41<|jS<|Iv.mk (DD x.hi y.lo false) (DD x.hi y.lo true) false)<|.cells 41<|jS<|Iv.mk (jA (jA (DD x.lo y.lo false)<|DD x.lo y.hi false)<|DD x.hi y.lo false) (jy (jy (DD x.lo y.lo true)<|DD x.lo y.hi true)<|DD x.hi y.lo true) false)])
     (λm2=>ae [tB 90<|bn m2]<|.e<|af [.b 12 (.jq<|by rw[show jA (jA (DD x.lo y.lo false)<|DD x.lo y.hi false) (DD x.hi y.lo false)=(DD x.hi y.lo false)from bk m1,show jy (jy (DD x.lo y.lo true)<|DD x.lo y.hi true) (DD x.hi y.lo true)=(jy (DD x.lo y.lo true)<|DD x.lo y.hi true)from bj m2]:Bx.le (.cells 41<|jS<|Iv.mk (DD x.hi y.lo false) (jy (DD x.lo y.lo true)<|DD x.lo y.hi true) false)<|.cells 41<|jS<|Iv.mk (jA (jA (DD x.lo y.lo false)<|DD x.lo y.hi false)<|DD x.hi y.lo false) (jy (jy (DD x.lo y.lo true)<|DD x.lo y.hi true)<|DD x.hi y.lo true) false)]))
    (λm1=>ae [tB 79<|bn m1,ai 84 ((((0+1)+1):Int)==0) aE,.c<|nE (DD x.hi y.lo true) (jy (DD x.lo y.lo true)<|DD x.lo y.hi true) (hv _ _ _)<|uI (hv _ _ _)<|hv _ _ _]<|.w (0<(jN (DD x.hi y.lo true)<|jy (DD x.lo y.lo true)<|DD x.lo y.hi true))
     (λm2=>ae [tB 90<|bu m2]<|.e<|af [.b 12 (.jq<|by rw[show jA (jA (DD x.lo y.lo false)<|DD x.lo y.hi false) (DD x.hi y.lo false)=(jA (DD x.lo y.lo false)<|DD x.lo y.hi false)from bj m1,show jy (jy (DD x.lo y.lo true)<|DD x.lo y.hi true) (DD x.hi y.lo true)=(DD x.hi y.lo true)from bk m2]:Bx.le (.cells 41<|jS<|Iv.mk (jA (DD x.lo y.lo false)<|DD x.lo y.hi false) (DD x.hi y.lo true) false)<|.cells 41<|jS<|Iv.mk (jA (jA (DD x.lo y.lo false)<|DD x.lo y.hi false)<|DD x.hi y.lo false) (jy (jy (DD x.lo y.lo true)<|DD x.lo y.hi true)<|DD x.hi y.lo true) false)])
     (λm2=>ae [tB 90<|bn m2]<|.e<|af [.b 12 (.jq<|by rw[show jA (jA (DD x.lo y.lo false)<|DD x.lo y.hi false) (DD x.hi y.lo false)=(jA (DD x.lo y.lo false)<|DD x.lo y.hi false)from bj m1,show jy (jy (DD x.lo y.lo true)<|DD x.lo y.hi true) (DD x.hi y.lo true)=(jy (DD x.lo y.lo true)<|DD x.lo y.hi true)from bj m2]:Bx.le (.cells 41<|jS<|Iv.mk (jA (DD x.lo y.lo false)<|DD x.lo y.hi false) (jy (DD x.lo y.lo true)<|DD x.lo y.hi true) false)<|.cells 41<|jS<|Iv.mk (jA (jA (DD x.lo y.lo false)<|DD x.lo y.hi false)<|DD x.hi y.lo false) (jy (jy (DD x.lo y.lo true)<|DD x.lo y.hi true)<|DD x.hi y.lo true) false)]))),
        iL (((0+1)+1)+1),ah 42 (decide (((((0+1)+1)+1):Int)<4)) aE]<|.w ((EE x.hi y.hi false)=0)
        (λk7=>.w ((EE x.hi y.hi true)=0)
         (λk8=>ae [.j 3 (ak2 x y p gd gu DD EE)
   (ae [iX (((0+1)+1)+1) 4,iX 0 2,iX 1 2,.c (hd _ _ (.inr rfl)<|.inr rfl:il gd ((iB x.hi)::(iB y.hi)::(iP p)::[]) _),iX 0 2,iX 1 2,.c (hu _ _ (.inr rfl)<|.inr rfl:il gu ((iB x.hi)::(iB y.hi)::(iP p)::[]) _),tB 66<|bg k7,tB 69<|bg k8,ai 73 (((((0+1)+1)+1):Int)==0) aE,.c<|nE (DD x.hi y.hi false) (jA (jA (DD x.lo y.lo false)<|DD x.lo y.hi false)<|DD x.hi y.lo false) (hv _ _ _)<|xo (xo (hv _ _ _)<|hv _ _ _)<|hv _ _ _]<|.w ((jN (DD x.hi y.hi false)<|jA (jA (DD x.lo y.lo false)<|DD x.lo y.hi false)<|DD x.hi y.lo false)<0)
    (λm1=>ae [tB 79<|bu m1,ai 84 (((((0+1)+1)+1):Int)==0) aE,.c<|nE (DD x.hi y.hi true) (jy (jy (DD x.lo y.lo true)<|DD x.lo y.hi true)<|DD x.hi y.lo true) (hv _ _ _)<|uI (uI (hv _ _ _)<|hv _ _ _)<|hv _ _ _]<|.w (0<(jN (DD x.hi y.hi true)<|jy (jy (DD x.lo y.lo true)<|DD x.lo y.hi true)<|DD x.hi y.lo true))
     (λm2=>ae [tB 90<|bu m2]<|.e<|af [.b 12 (.jq<|by rw[show jA (jA (jA (DD x.lo y.lo false)<|DD x.lo y.hi false)<|DD x.hi y.lo false) (DD x.hi y.hi false)=(DD x.hi y.hi false)from bk m1,show jy (jy (jy (DD x.lo y.lo true)<|DD x.lo y.hi true)<|DD x.hi y.lo true) (DD x.hi y.hi true)=(DD x.hi y.hi true)from bk m2]:Bx.le (.cells 41<|jS<|Iv.mk (DD x.hi y.hi false) (DD x.hi y.hi true) false)<|.cells 41<|jS<|Iv.mk (jA (jA (jA (DD x.lo y.lo false)<|DD x.lo y.hi false)<|DD x.hi y.lo false)<|DD x.hi y.hi false) (jy (jy (jy (DD x.lo y.lo true)<|DD x.lo y.hi true)<|DD x.hi y.lo true)<|DD x.hi y.hi true) false)])
     (λm2=>ae [tB 90<|bn m2]<|.e<|af [.b 12 (.jq<|by rw[show jA (jA (jA (DD x.lo y.lo false)<|DD x.lo y.hi false)<|DD x.hi y.lo false) (DD x.hi y.hi false)=(DD x.hi y.hi false)from bk m1,show jy (jy (jy (DD x.lo y.lo true)<|DD x.lo y.hi true)<|DD x.hi y.lo true) (DD x.hi y.hi true)=(jy (jy (DD x.lo y.lo true)<|DD x.lo y.hi true)<|DD x.hi y.lo true)from bj m2]:Bx.le (.cells 41<|jS<|Iv.mk (DD x.hi y.hi false) (jy (jy (DD x.lo y.lo true)<|DD x.lo y.hi true)<|DD x.hi y.lo true) false)<|.cells 41<|jS<|Iv.mk (jA (jA (jA (DD x.lo y.lo false)<|DD x.lo y.hi false)<|DD x.hi y.lo false)<|DD x.hi y.hi false) (jy (jy (jy (DD x.lo y.lo true)<|DD x.lo y.hi true)<|DD x.hi y.lo true)<|DD x.hi y.hi true) false)]))
    (λm1=>ae [tB 79<|bn m1,ai 84 (((((0+1)+1)+1):Int)==0) aE,.c<|nE (DD x.hi y.hi true) (jy (jy (DD x.lo y.lo true)<|DD x.lo y.hi true)<|DD x.hi y.lo true) (hv _ _ _)<|uI (uI (hv _ _ _)<|hv _ _ _)<|hv _ _ _]<|.w (0<(jN (DD x.hi y.hi true)<|jy (jy (DD x.lo y.lo true)<|DD x.lo y.hi true)<|DD x.hi y.lo true))
     (λm2=>ae [tB 90<|bu m2]<|.e<|af [.b 12 (.jq<|by rw[show jA (jA (jA (DD x.lo y.lo false)<|DD x.lo y.hi false)<|DD x.hi y.lo false) (DD x.hi y.hi false)=(jA (jA (DD x.lo y.lo false)<|DD x.lo y.hi false)<|DD x.hi y.lo false)from bj m1,show jy (jy (jy (DD x.lo y.lo true)<|DD x.lo y.hi true)<|DD x.hi y.lo true) (DD x.hi y.hi true)=(DD x.hi y.hi true)from bk m2]:Bx.le (.cells 41<|jS<|Iv.mk (jA (jA (DD x.lo y.lo false)<|DD x.lo y.hi false)<|DD x.hi y.lo false) (DD x.hi y.hi true) false)<|.cells 41<|jS<|Iv.mk (jA (jA (jA (DD x.lo y.lo false)<|DD x.lo y.hi false)<|DD x.hi y.lo false)<|DD x.hi y.hi false) (jy (jy (jy (DD x.lo y.lo true)<|DD x.lo y.hi true)<|DD x.hi y.lo true)<|DD x.hi y.hi true) false)])
     (λm2=>ae [tB 90<|bn m2]<|.e<|af [.b 12 (.jq<|by rw[show jA (jA (jA (DD x.lo y.lo false)<|DD x.lo y.hi false)<|DD x.hi y.lo false) (DD x.hi y.hi false)=(jA (jA (DD x.lo y.lo false)<|DD x.lo y.hi false)<|DD x.hi y.lo false)from bj m1,show jy (jy (jy (DD x.lo y.lo true)<|DD x.lo y.hi true)<|DD x.hi y.lo true) (DD x.hi y.hi true)=(jy (jy (DD x.lo y.lo true)<|DD x.lo y.hi true)<|DD x.hi y.lo true)from bj m2]:Bx.le (.cells 41<|jS<|Iv.mk (jA (jA (DD x.lo y.lo false)<|DD x.lo y.hi false)<|DD x.hi y.lo false) (jy (jy (DD x.lo y.lo true)<|DD x.lo y.hi true)<|DD x.hi y.lo true) false)<|.cells 41<|jS<|Iv.mk (jA (jA (jA (DD x.lo y.lo false)<|DD x.lo y.hi false)<|DD x.hi y.lo false)<|DD x.hi y.hi false) (jy (jy (jy (DD x.lo y.lo true)<|DD x.lo y.hi true)<|DD x.hi y.lo true)<|DD x.hi y.hi true) false)]))),
          iL ((((0+1)+1)+1)+1),ai 42 (decide ((((((0+1)+1)+1)+1):Int)<4)) aE]<|rQ (iA<|Iv.mk (jA (jA (jA (DD x.lo y.lo false)<|DD x.lo y.hi false)<|DD x.hi y.lo false)<|DD x.hi y.hi false) (jy (jy (jy (DD x.lo y.lo true)<|DD x.lo y.hi true)<|DD x.hi y.lo true)<|DD x.hi y.hi true) false) (iA<|qo DD EE x y)<|by rw[show qo DD EE x y=⟨jA (jA (jA (DD x.lo y.lo false)<|DD x.lo y.hi false)<|DD x.hi y.lo false)<|DD x.hi y.hi false,jy (jy (jy (DD x.lo y.lo true)<|DD x.lo y.hi true)<|DD x.hi y.lo true)<|DD x.hi y.hi true,false⟩from bk ⟨⟨k1,k2⟩,⟨k3,k4⟩,⟨k5,k6⟩,⟨k7,k8⟩⟩];try rfl)
         (λk8=>ae [iX (((0+1)+1)+1) 4,iX 0 2,iX 1 2,.c (hd _ _ (.inr rfl)<|.inr rfl:il gd ((iB x.hi)::(iB y.hi)::(iP p)::[]) _),iX 0 2,iX 1 2,.c (hu _ _ (.inr rfl)<|.inr rfl:il gu ((iB x.hi)::(iB y.hi)::(iP p)::[]) _),tB 66<|bg k7,tB 69<|bh k8,.c oC]<|rQ (iA iw) (iA<|qo DD EE x y)<|by rw[show qo DD EE x y=iw from bj<|by rintro⟨⟨q0,r0⟩,⟨q1,r1⟩,⟨q2,r2⟩,⟨q3,r3⟩⟩;exact k8 r3]))
        (λk7=>ae [iX (((0+1)+1)+1) 4,iX 0 2,iX 1 2,.c (hd _ _ (.inr rfl)<|.inr rfl:il gd ((iB x.hi)::(iB y.hi)::(iP p)::[]) _),iX 0 2,iX 1 2,.c (hu _ _ (.inr rfl)<|.inr rfl:il gu ((iB x.hi)::(iB y.hi)::(iP p)::[]) _),tB 66<|bh k7,.c oC]<|rQ (iA iw) (iA<|qo DD EE x y)<|by rw[show qo DD EE x y=iw from bj<|by rintro⟨⟨q0,r0⟩,⟨q1,r1⟩,⟨q2,r2⟩,⟨q3,r3⟩⟩;exact k7 q3]))
       (λk6=>ae [iX ((0+1)+1) 4,iX 0 2,iX 1 2,.c (hd _ _ (.inr rfl)<|.inl rfl:il gd ((iB x.hi)::(iB y.lo)::(iP p)::[]) _),iX 0 2,iX 1 2,.c (hu _ _ (.inr rfl)<|.inl rfl:il gu ((iB x.hi)::(iB y.lo)::(iP p)::[]) _),tB 66<|bg k5,tB 69<|bh k6,.c oC]<|rQ (iA iw) (iA<|qo DD EE x y)<|by rw[show qo DD EE x y=iw from bj<|by rintro⟨⟨q0,r0⟩,⟨q1,r1⟩,⟨q2,r2⟩,⟨q3,r3⟩⟩;exact k6 r2]))
      (λk5=>ae [iX ((0+1)+1) 4,iX 0 2,iX 1 2,.c (hd _ _ (.inr rfl)<|.inl rfl:il gd ((iB x.hi)::(iB y.lo)::(iP p)::[]) _),iX 0 2,iX 1 2,.c (hu _ _ (.inr rfl)<|.inl rfl:il gu ((iB x.hi)::(iB y.lo)::(iP p)::[]) _),tB 66<|bh k5,.c oC]<|rQ (iA iw) (iA<|qo DD EE x y)<|by rw[show qo DD EE x y=iw from bj<|by rintro⟨⟨q0,r0⟩,⟨q1,r1⟩,⟨q2,r2⟩,⟨q3,r3⟩⟩;exact k5 q2]))
     (λk4=>ae [iX (0+1) 4,iX 0 2,iX 1 2,.c (hd _ _ (.inl rfl)<|.inr rfl:il gd ((iB x.lo)::(iB y.hi)::(iP p)::[]) _),iX 0 2,iX 1 2,.c (hu _ _ (.inl rfl)<|.inr rfl:il gu ((iB x.lo)::(iB y.hi)::(iP p)::[]) _),tB 66<|bg k3,tB 69<|bh k4,.c oC]<|rQ (iA iw) (iA<|qo DD EE x y)<|by rw[show qo DD EE x y=iw from bj<|by rintro⟨⟨q0,r0⟩,⟨q1,r1⟩,⟨q2,r2⟩,⟨q3,r3⟩⟩;exact k4 r1]))
    (λk3=>ae [iX (0+1) 4,iX 0 2,iX 1 2,.c (hd _ _ (.inl rfl)<|.inr rfl:il gd ((iB x.lo)::(iB y.hi)::(iP p)::[]) _),iX 0 2,iX 1 2,.c (hu _ _ (.inl rfl)<|.inr rfl:il gu ((iB x.lo)::(iB y.hi)::(iP p)::[]) _),tB 66<|bh k3,.c oC]<|rQ (iA iw) (iA<|qo DD EE x y)<|by rw[show qo DD EE x y=iw from bj<|by rintro⟨⟨q0,r0⟩,⟨q1,r1⟩,⟨q2,r2⟩,⟨q3,r3⟩⟩;exact k3 q1]))
   (λk2=>ae [iX 0 4,iX 0 2,iX 1 2,.c (hd _ _ (.inl rfl)<|.inl rfl:il gd ((iB x.lo)::(iB y.lo)::(iP p)::[]) _),iX 0 2,iX 1 2,.c (hu _ _ (.inl rfl)<|.inl rfl:il gu ((iB x.lo)::(iB y.lo)::(iP p)::[]) _),tB 66<|bg k1,tB 69<|bh k2,.c oC]<|rQ (iA iw) (iA<|qo DD EE x y)<|by rw[show qo DD EE x y=iw from bj<|by rintro⟨⟨q0,r0⟩,⟨q1,r1⟩,⟨q2,r2⟩,⟨q3,r3⟩⟩;exact k2 r0]))
  (λk1=>ae [iX 0 4,iX 0 2,iX 1 2,.c (hd _ _ (.inl rfl)<|.inl rfl:il gd ((iB x.lo)::(iB y.lo)::(iP p)::[]) _),iX 0 2,iX 1 2,.c (hu _ _ (.inl rfl)<|.inl rfl:il gu ((iB x.lo)::(iB y.lo)::(iP p)::[]) _),tB 66<|bh k1,.c oC]<|rQ (iA iw) (iA<|qo DD EE x y)<|by rw[show qo DD EE x y=iw from bj<|by rintro⟨⟨q0,r0⟩,⟨q1,r1⟩,⟨q2,r2⟩,⟨q3,r3⟩⟩;exact k1 q0]))
end
def aqO{y:Iv}(hy:y.ix)(hs:nQ y≠0):y.lo.m≠0/\y.hi.m≠0:=by
 unfold nQ at hs;have ha:y.all=false:=by
  cases h:y.all with
  |false=>rfl
  |true=>rw[h]at hs;exact absurd rfl hs
 obtain⟨v1,v2,v3⟩:=vZ hy ha;rw[ha]at hs;simp only[bJ,bB]at hs;have z:∀ d:Dy,d.m=0->d.jL=0:=λd h=>by unfold Dy.jL;rw[bk h]
 have hc:=Vk y.lo y.hi;rw[hc]at v3;constructor
 .intro h0;have:=z _ h0;rw[this]at hs v3;split at hs
  .omega
  .split at hs
   .split at v3<;>omega
   .exact hs rfl
 .intro h0;have:=z _ h0;rw[this]at hs v3;split at hs
  .split at v3<;>omega
  .split at hs
   .omega
   .exact hs rfl
def ag0(a b:Dy){p:Nat}(up:Bool)(hp:1<=p)(iu:p<=4096):(nv a b p up).ix:=by
 unfold nv;split
 .exact ph
 .exact uq _ _ _ _ _ _ hp iu
section
variable(x y:Iv)(p:Nat)(hx:x.ix)(hy:y.ix)
def vY(iC:8<=p:=by omega)(iu:p<=512:=by omega):il 68 [iA x,iA y,iP p]<|iA<|kf x y p:=by
 by_cases hk:(x.all||y.all)=true
 .exact iE<|ae [.o 9<|.e<|AH x y,.c<|BX x y aD aD,ai 10 (!(x.all||y.all))<|by rw[hk];rfl,.c oC]<|rQ (iA iw) (iA<|kf x y p)<|by rw[show kf x y p=iw by unfold kf;rw[bk hk]]
 .replace hk:(x.all||y.all)=false:=by simpa using hk
  have lK:x.all=false:=by cases h:x.all;rfl;rw[h]at hk;simp at hk
  have Da:y.all=false:=by cases h:y.all;rfl;rw[h]at hk;simp at hk
  obtain⟨v1,v2,v3⟩:=vZ hx lK;obtain⟨v4,v5,v6⟩:=vZ hy Da;exact iE<|ae [.o 9<|.e<|AH x y,.c<|BX x y aD aD,ah 10 (!(x.all||y.all))<|by rw[hk];rfl,.c<|xi (p:Int),ah 14 (kA (p:Int))<|oo.2 ⟨aC,aC⟩,.c<|YT x y p 120 121 (λa b up=>jd (mI a b) p up) (λa b up=>jI (mI a b) p up) (λa b ha hb=>Km a b p (by rcases ha with rfl|rfl;exact v1;exact v2) (by rcases hb with rfl|rfl;exact v4;exact v5) iC iu) (λa b ha hb=>Nt a b p (by rcases ha with rfl|rfl;exact v1;exact v2) (by rcases hb with rfl|rfl;exact v4;exact v5) iC iu) λa b up=>uq _ _ _ _ _ _]<|rQ (iA<|qo (λa b up=>jd (mI a b) p up) (λa b up=>jI (mI a b) p up) x y) (iA<|kf x y p)<|by rw[show kf x y p=_ by unfold kf;rw[bj<|by rw[hk];decide]];rfl
def Jx(iC:8<=p:=by omega)(iu:p<=512:=by omega):il 99 [iA x,iA y,iP p]<|iA<|lv x y p:=by
 by_cases hk:(x.all||y.all)=true
 .exact iE<|ae [.o 9<|.e<|AH x y,.c<|BX x y aD aD,ai 10 (!(x.all||y.all))<|by rw[hk];rfl,.c oC]<|rQ (iA iw) (iA<|lv x y p)<|by rw[show lv x y p=iw by unfold lv;rw[bk<|by rw[hk];rfl]]
 .replace hk:(x.all||y.all)=false:=by simpa using hk
  have lK:x.all=false:=by cases h:x.all;rfl;rw[h]at hk;simp at hk
  have Da:y.all=false:=by cases h:y.all;rfl;rw[h]at hk;simp at hk
  obtain⟨v1,v2,v3⟩:=vZ hx lK;obtain⟨v4,v5,v6⟩:=vZ hy Da;by_cases hs:nQ y=0
  .exact iE<|ae [.o 9<|.e<|AH x y,.c<|BX x y aD aD,ah 10 (!(x.all||y.all))<|by rw[hk];rfl,.c<|xi (p:Int),ah 14 (kA (p:Int))<|oo.2 ⟨aC,aC⟩,.c<|JA y aD,ah 20 ((nQ y)==0)<|by rw[hs];rfl,.c oC]<|rQ (iA iw) (iA<|lv x y p)<|by rw[show lv x y p=iw by unfold lv;rw[bk<|by rw[hk,bu hs];rfl]]
  .obtain ⟨n1,n2⟩:=aqO hy hs;exact iE<|ae [.o 9<|.e<|AH x y,.c<|BX x y aD aD,ah 10 (!(x.all||y.all))<|by rw[hk];rfl,.c<|xi (p:Int),ah 14 (kA (p:Int))<|oo.2 ⟨aC,aC⟩,.c<|JA y aD,ai 20 ((nQ y)==0)<|by simpa using hs,.c<|YT x y p 169 170 (λa b up=>nv a b p up) (λa b up=>oX a b p up) (λa b ha hb=>SL a b p (by rcases ha with rfl|rfl;exact v1;exact v2) (by rcases hb with rfl|rfl;exact v4;exact v5) (by rcases hb with rfl|rfl;exact n1;exact n2) iC iu) (λa b ha hb=>abw a b p (by rcases ha with rfl|rfl;exact v1;exact v2) (by rcases hb with rfl|rfl;exact v4;exact v5) (by rcases hb with rfl|rfl;exact n1;exact n2) iC iu) λa b up=>ag0 a b up aC aC]<|rQ (iA<|qo (λa b up=>nv a b p up) (λa b up=>oX a b p up) x y) (iA<|lv x y p)<|by rw[show lv x y p=_ by unfold lv;rw[bj<|by rw[hk,bn hs];decide]]
end
def alc(d:RD)(h:d.Zero):il 113 [Cg d]<|bP true:=by
 obtain⟨h1,h2,h3⟩:=h;exact iE<|af [ai 4 d.neg h1,ah 10 ((d.L.length:Int)==0)<|ua<|by rw[h2];rfl,ah 15 (d.e==0)<|by rw[h3];rfl]
def Y0(d:RD)(h:¬d.Zero):il 113 [Cg d]<|bP false:=by
 by_cases h1:d.neg=true
 .exact iE<|af [ah 4 d.neg h1]
 .replace h1:d.neg=false:=by simpa using h1
  by_cases h2:d.L=[]
  .have h3:¬d.e=0:=λq=>h ⟨h1,h2,q⟩
   exact iE<|af [ai 4 d.neg h1,ah 10 ((d.L.length:Int)==0)<|ua<|by rw[h2];rfl,ai 15 (d.e==0)<|by simpa using h3]
  .exact iE<|af [ai 4 d.neg h1,ai 10 ((d.L.length:Int)==0)<|oj λq=>h2<|apI.1 q]
section
variable(x:RI)(g:x.lp)
def alb(h:x.Ok):il 66 [yC x]<|bP true:=by
 have:=qG x.iv h.valid;rwa[<-RB,h.eq g]at this
def ala(h:¬x.Ok):il 66 [yC x]<|bP false:=by
 have ga:=g.lo;have gb:=g.hi;by_cases ha:x.all=true
 .by_cases h1:x.lo.Zero
  .have h2:¬x.hi.Zero:=λq=>h (.inl ⟨ha,h1,q⟩)
   exact iE<|af [ah 5 x.all ha,ag [Cg x.lo]<|alc _ h1,ag [Cg x.hi]<|Y0 _ h2]
  .exact iE<|af [ah 5 x.all ha,ag [Cg x.lo]<|Y0 _ h1]
 .replace ha:x.all=false:=by simpa using ha
  by_cases h1:x.lo.Ok
  .by_cases h2:x.hi.Ok
   .have h3:¬jN x.lo.dy x.hi.dy<=0:=λq=>h (.inr ⟨ha,h1,h2,q⟩)
    have v1:=h1.valid;have v2:=h2.valid;have e1:yC x=iA x.iv:=by rw[<-RB,show x.iv.raw=x by show RI.mk x.lo.dy.raw x.hi.dy.raw x.all=x;rw[h1.eq ga,h2.eq gb]]
    rw[e1];exact iE<|af [ai 5 x.iv.all ha,.c<|sj x.iv.lo aD,.c<|sj x.iv.hi aD,.c<|nE x.iv.lo x.iv.hi aD aD,tB 30<|bn h3]
   .exact iE<|af [ai 5 x.all ha,.c<|FU x.lo aD true<|by simp[h1],.c<|FU x.hi aD false<|by simp[h2]]
  .exact iE<|af [ai 5 x.all ha,.c<|FU x.lo aD false<|by simp[h1]]
def YZ:il 66 [yC x]<|bP<|tw x:=by
 by_cases h:x.Ok
 .rw [AX.2 h];exact alb x g h
 .rw [show tw x=false by simpa using λq=>h<|AX.1 q];exact ala x g h
def amI:il 248 [yC x,(.jK 1 λj_=>[.fn 66 []].getD j_ .any)]<|bP<|!(tw x):=
 iE (af [ag [yC x]<|YZ _ aD])
end
def amH(r:List RI)(m:List<|List RI)(gr:∀ j,(r.getD j lE).lp)(hr:r.length<=1000000)(hm:0<m.length):il 247 [lj r,(.jK 1 λj_=>[ud m].getD j_ .any),(.jK 1 λj_=>[.fn 66 []].getD j_ .any)]<|bP<|decide (r.length≠(m.getD 0 []).length)||((List.range<|r.length).any λj=>!(tw<|r.getD j lE)):=by
 by_cases h:r.length=(m.getD 0 []).length
 .exact iE<|ae [iX 0<|m.length,ai 11 ((r.length:Int) != ((m.getD 0 []).length:Int))<|s5 h,.c (Dd true _ _ 248 _ (λj=>!(tw<|r.getD j lE)) λj hj=>amI _<|gr j:il 39 [lj r,.fn 248 [(.jK 1 λj_=>[.fn 66 []].getD j_ .any)]] _)]<|rQ (bP<|(List.range<|r.length).any λj=>!(tw<|r.getD j lE)) (bP<|decide (r.length≠(m.getD 0 []).length)||((List.range<|r.length).any λj=>!(tw<|r.getD j lE)))<|by rw[bn<|atY h];rfl
 .exact iE<|ae [iX 0<|m.length,ah 11 ((r.length:Int) != ((m.getD 0 []).length:Int))<|ang h]<|rQ (bP true) (bP<|decide (r.length≠(m.getD 0 []).length)||((List.range<|r.length).any λj=>!(tw<|r.getD j lE)))<|by rw[bu h];rfl
section
variable(m:List<|List RI)(g:Hz m)(hl:m.length<=1000000)(Jg:∀ i,(m.getD i []).length<=1000000)
def amJ:il 199 [ud m,.fn 66 []]<|bP<|zw m:=by
 by_cases h1:m.length<1
 .exact iE<|ae [tT 7 ((m.length:Int)<1) aC]<|rQ (bP false) (bP<|zw m)<|by rw[JP (λq=>by have:=q.n1;omega)]
 .by_cases h2:8<m.length
  .exact iE<|ae [tF 7 ((m.length:Int)<1) aC,tT 11 (8<(m.length:Int)) aC]<|rQ (bP false) (bP<|zw m)<|by rw[JP (λq=>by have:=q.n8;omega)]
  .by_cases h3:(m.getD 0 []).length<1
   .exact iE<|ae [tF 7 ((m.length:Int)<1) aC,tF 11 (8<(m.length:Int)) aC,iX 0<|m.length,tT 18 (((m.getD 0 []).length:Int)<1) aC]<|rQ (bP false) (bP<|zw m)<|by rw[JP (λq=>by have:=q.k1;omega)]
   .by_cases h4:8<(m.getD 0 []).length
    .exact iE<|ae [tF 7 ((m.length:Int)<1) aC,tF 11 (8<(m.length:Int)) aC,iX 0<|m.length,tF 18 (((m.getD 0 []).length:Int)<1) aC,iX 0<|m.length,tT 25 (8<((m.getD 0 []).length:Int)) aC]<|rQ (bP false) (bP<|zw m)<|by rw[JP (λq=>by have:=q.k8;omega)]
    .have hb:zw m = !((List.range m.length).any λi=>decide ((m.getD i []).length≠(m.getD 0 []).length)||((List.range<|(m.getD i []).length).any λj=>!(tw<|(m.getD i []).getD j lE))):=by
      by_cases hk:H9 m
      .rw [RT.2 hk];symm;rw[du,cI];intro i hi;have hi:=bN.1 hi;have Ey:decide ((m.getD i []).length≠(m.getD 0 []).length)=false:=bn<|atY<|hk.row i hi;rw[Ey,fu,atq,cI];intro j hj;rw[AX.2<|hk.ok i hi j<|bN.1 hj];decide
      .rw [JP hk];symm;rw[atr];apply ca;intro hc;rw[atq,cI]at hc;refine hk ⟨aC,aC,aC,aC,λi hi=>?_,λi hi j hj=>?_⟩
       .have:=hc i<|bN.2 hi;simp only[df,decide_not,ep,not_or,atq,atr,c9]at this;exact this.1
       .have:=hc i<|bN.2 hi;simp only[df,decide_not,ep,not_or,atq,atr,c9]at this;have:=cI.1 this.2 j<|bN.2 hj;exact AX.1<|by simpa using this
     exact iE<|ae [tF 7 ((m.length:Int)<1) aC,tF 11 (8<(m.length:Int)) aC,iX 0<|m.length,tF 18 (((m.getD 0 []).length:Int)<1) aC,iX 0<|m.length,tF 25 (8<((m.getD 0 []).length:Int)) aC,.c (He true _ _ 247 _ (λi=>decide ((m.getD i []).length≠(m.getD 0 []).length)||((List.range<|(m.getD i []).length).any λj=>!(tw<|(m.getD i []).getD j lE))) λi hi=>amH _ _ (λj=>g.at i j) (Jg i) aC:il 159 [ud m,.fn 247 [(.jK 1 λj_=>[ud m].getD j_ .any),(.jK 1 λj_=>[.fn 66 []].getD j_ .any)]] _)]<|rQ (bP<|!((List.range m.length).any λi=>decide ((m.getD i []).length≠(m.getD 0 []).length)||((List.range<|(m.getD i []).length).any λj=>!(tw<|(m.getD i []).getD j lE)))) (bP<|zw m)<|by rw[hb]
def amL:il 122 [ud m]<|bP<|zw m:=
 iE (af [ag [ud m,.fn 66 []]<|amJ _ g aC Jg])
end
def Uz(d:Dy)(n p:Nat)(x:Nat):PS:=⟨41,true,[(14,.e<|iP ((x+1:Nat):Int)),(13,.e<|iP<|(jE d p false x).2),(12,.box 12 0),(10,.box 10 0),(5,.box 5 0),(1,.e<|iP n),(2,.e<|iP p),(4,.e<|.fn 120 [])],[(12,.cells 37<|kG<|(jE d p false x).1),(10,.cells 37 ar),(5,.cells 37<|kG d)]⟩
def UA(d:Dy)(n N p:Nat)(x:Nat):PS:=⟨41,true,[(14,.e<|iP ((x+1:Nat):Int)),(13,.e<|iP<|(jE d p false x).2),(12,.box 12 0),(10,.box 10 0),(5,.box 5 0),(1,.e<|iP n),(2,.e<|iP p),(4,.e<|.fn 120 [])],[(12,.cells 37<|kG<|(jE d p false x).1),(10,.cells 37 ar),(5,.cells 37<|kG d)]⟩
def UB(d:Dy)(n p:Nat)(x:Nat):PS:=⟨41,true,[(14,.e<|iP ((x+1:Nat):Int)),(13,.e<|iP<|(jE d p true x).2),(12,.box 12 0),(10,.box 10 0),(5,.box 5 0),(1,.e<|iP n),(2,.e<|iP p),(4,.e<|.fn 121 [])],[(12,.cells 37<|kG<|(jE d p true x).1),(10,.cells 37 ar),(5,.cells 37<|kG d)]⟩
def UC(d:Dy)(n N p:Nat)(x:Nat):PS:=⟨41,true,[(14,.e<|iP ((x+1:Nat):Int)),(13,.e<|iP<|(jE d p true x).2),(12,.box 12 0),(10,.box 10 0),(5,.box 5 0),(1,.e<|iP n),(2,.e<|iP p),(4,.e<|.fn 121 [])],[(12,.cells 37<|kG<|(jE d p true x).1),(10,.cells 37 ar),(5,.cells 37<|kG d)]⟩
def FM(s:Bool)(m:Nat)(e:Int)(hl:(im m).length<=256)(nb:-1000000<=e:=by omega)(mv:e<=1000000:=by omega):il 123 [bP s,iy<|im m,iP e]<|iB<|canon s m e:=by
 refine⟨call123,λw B vs hK hB hr=>?_⟩;obtain⟨v1,vs,rfl,h1,hr⟩:=hr.nR;obtain⟨v2,vs,rfl,h2,hr⟩:=hr.nR;obtain⟨v3,vs,rfl,h3,hr⟩:=hr.nR;obtain rfl:=hr.sK;obtain rfl:=iO.kW h1;obtain rfl:=iO.kW h3;obtain⟨A,c,rfl,s1⟩:=Cn (nA m) h2;exact(U3 s m e A c w s1 hl nb mv hK).mono λe w' h=>rd B w e w' hB h
def Lb(d:Dy)(hl:(im d.m).length<=100000000)(nb:-10000000<=d.e)(mv:d.e<=10000000):il 184 [iB d]<|.iH [iB<|nZ d,iP<|rp d]:=
 GY call184 (λA c w h _=>agi d A c w h aC aC aC) SO
def UD(m n:Nat)(hl:(im m).length<=256)(hn:n<=65536)(hf:(im<|m*2^n).length<=256):il 206 [iy<|im m,iP n]<|iy<|im<|m*2^n:=
 iE (af [.c<|R5 m n hl hn hf])
def Uk{m n:Nat}:lf m n<0↔m<n:=by unfold lf;split<;>(try split)<;>omega
def Uj{m n:Nat}:¬lf m n<0↔n<=m:=by unfold lf;split<;>(try split)<;>omega
section
variable(a b:Dy)
noncomputable def acO(ha:a.ix)(hb:b.ix)(a0:a.m≠0)(b0:b.m≠0)(k:Int)(hk:min a.e b.e=k)(la:(im a.m).length<=256)(lb:(im b.m).length<=256)(e1:-16384<=k)(e2:a.e<=16384)(e3:b.e<=16384)(fa:(im<|a.m*2^(a.e-k).toNat).length<=256)(fb:(im<|b.m*2^(b.e-k).toNat).length<=256)(fab:(im<|(a.m*2^(a.e-k).toNat)+(b.m*2^(b.e-k).toNat)).length<=256)(fx:(im<|(a.m*2^(a.e-k).toNat)-(b.m*2^(b.e-k).toNat)).length<=256)(fy:(im<|(b.m*2^(b.e-k).toNat)-(a.m*2^(a.e-k).toNat)).length<=256)(Mh:a.neg=b.neg->jc a b=canon a.neg ((a.m*2^(a.e-k).toNat)+(b.m*2^(b.e-k).toNat)) k)(Mi:a.neg≠b.neg->(b.m*2^(b.e-k).toNat)<=(a.m*2^(a.e-k).toNat)->jc a b=canon a.neg ((a.m*2^(a.e-k).toNat)-(b.m*2^(b.e-k).toNat)) k)(Mj:a.neg≠b.neg->(a.m*2^(a.e-k).toNat)<(b.m*2^(b.e-k).toNat)->jc a b=canon b.neg ((b.m*2^(b.e-k).toNat)-(a.m*2^(a.e-k).toNat)) k):Tr prog Tb:=
  ae [iL<|a.e-k,.o 70<|aq (a.e-k) ((a.e-k).toNat:Int),ag [iy<|im a.m,iP ((a.e-k).toNat:Int)]<|UD a.m (a.e-k).toNat la aC fa,iL<|b.e-k,.o 77<|aq (b.e-k) ((b.e-k).toNat:Int),ag [iy<|im b.m,iP ((b.e-k).toNat:Int)]<|UD b.m (b.e-k).toNat lb aC fb]<|.w (a.neg=b.neg)
  (λk1=>ae [tB 83<|aZ k1,.c<|JX (a.m*2^(a.e-k).toNat) (b.m*2^(b.e-k).toNat) fa fb fab,ag [bP a.neg,iy<|im<|(a.m*2^(a.e-k).toNat)+(b.m*2^(b.e-k).toNat),iP k]<|FM _ _ _ fab,ag [iB<|canon a.neg ((a.m*2^(a.e-k).toNat)+(b.m*2^(b.e-k).toNat)) k]<|Lb _ (by have h:=Bo a.neg ((a.m*2^(a.e-k).toNat)+(b.m*2^(b.e-k).toNat)) k fab;omega) (by have h:=Bo a.neg ((a.m*2^(a.e-k).toNat)+(b.m*2^(b.e-k).toNat)) k fab;omega)<|by have h:=Bo a.neg ((a.m*2^(a.e-k).toNat)+(b.m*2^(b.e-k).toNat)) k fab;omega]<|rQ (.iH [iB<|nZ<|canon a.neg ((a.m*2^(a.e-k).toNat)+(b.m*2^(b.e-k).toNat)) k,iP<|rp<|canon a.neg ((a.m*2^(a.e-k).toNat)+(b.m*2^(b.e-k).toNat)) k]) (.iH [iB<|nZ<|jc a b,iP<|rp<|jc a b])<|by rw[Mh k1])
  (λk1=>ae [tB 83<|aY k1,.c<|AT (a.m*2^(a.e-k).toNat)<|b.m*2^(b.e-k).toNat]<|.w ((lf (a.m*2^(a.e-k).toNat)<|b.m*2^(b.e-k).toNat)<0)
   (λk2=>ae [tB 101<|bu k2,.c<|E6 (b.m*2^(b.e-k).toNat) (a.m*2^(a.e-k).toNat) fb fa<|dM<|Uk.1 k2,ag [bP b.neg,iy<|im<|(b.m*2^(b.e-k).toNat)-(a.m*2^(a.e-k).toNat),iP k]<|FM _ _ _ fy,ag [iB<|canon b.neg ((b.m*2^(b.e-k).toNat)-(a.m*2^(a.e-k).toNat)) k]<|Lb _ (by have h:=Bo b.neg ((b.m*2^(b.e-k).toNat)-(a.m*2^(a.e-k).toNat)) k fy;omega) (by have h:=Bo b.neg ((b.m*2^(b.e-k).toNat)-(a.m*2^(a.e-k).toNat)) k fy;omega)<|by have h:=Bo b.neg ((b.m*2^(b.e-k).toNat)-(a.m*2^(a.e-k).toNat)) k fy;omega]<|rQ (.iH [iB<|nZ<|canon b.neg ((b.m*2^(b.e-k).toNat)-(a.m*2^(a.e-k).toNat)) k,iP<|rp<|canon b.neg ((b.m*2^(b.e-k).toNat)-(a.m*2^(a.e-k).toNat)) k]) (.iH [iB<|nZ<|jc a b,iP<|rp<|jc a b])<|by rw[Mj k1<|Uk.1 k2])
   (λk2=>ae [tB 101<|bn k2,.c<|E6 (a.m*2^(a.e-k).toNat) (b.m*2^(b.e-k).toNat) fa fb<|Uj.1 k2,ag [bP a.neg,iy<|im<|(a.m*2^(a.e-k).toNat)-(b.m*2^(b.e-k).toNat),iP k]<|FM _ _ _ fx,ag [iB<|canon a.neg ((a.m*2^(a.e-k).toNat)-(b.m*2^(b.e-k).toNat)) k]<|Lb _ (by have h:=Bo a.neg ((a.m*2^(a.e-k).toNat)-(b.m*2^(b.e-k).toNat)) k fx;omega) (by have h:=Bo a.neg ((a.m*2^(a.e-k).toNat)-(b.m*2^(b.e-k).toNat)) k fx;omega)<|by have h:=Bo a.neg ((a.m*2^(a.e-k).toNat)-(b.m*2^(b.e-k).toNat)) k fx;omega]<|rQ (.iH [iB<|nZ<|canon a.neg ((a.m*2^(a.e-k).toNat)-(b.m*2^(b.e-k).toNat)) k,iP<|rp<|canon a.neg ((a.m*2^(a.e-k).toNat)-(b.m*2^(b.e-k).toNat)) k]) (.iH [iB<|nZ<|jc a b,iP<|rp<|jc a b])<|by rw[Mi k1<|Uj.1 k2]))
section
variable(ha:a.ix)(hb:b.ix)(a0:a.m≠0)(b0:b.m≠0)(k:Int)(hk:min a.e b.e=k)
def ae4(la:(im a.m).length<=256)(lb:(im b.m).length<=256)(e1:-16384<=k)(e2:a.e<=16384)(e3:b.e<=16384)(fa:(im<|a.m*2^(a.e-k).toNat).length<=256)(fb:(im<|b.m*2^(b.e-k).toNat).length<=256)(fab:(im<|(a.m*2^(a.e-k).toNat)+(b.m*2^(b.e-k).toNat)).length<=256)(fx:(im<|(a.m*2^(a.e-k).toNat)-(b.m*2^(b.e-k).toNat)).length<=256)(fy:(im<|(b.m*2^(b.e-k).toNat)-(a.m*2^(a.e-k).toNat)).length<=256)(Mh:a.neg=b.neg->jc a b=canon a.neg ((a.m*2^(a.e-k).toNat)+(b.m*2^(b.e-k).toNat)) k)(Mi:a.neg≠b.neg->(b.m*2^(b.e-k).toNat)<=(a.m*2^(a.e-k).toNat)->jc a b=canon a.neg ((a.m*2^(a.e-k).toNat)-(b.m*2^(b.e-k).toNat)) k)(Mj:a.neg≠b.neg->(a.m*2^(a.e-k).toNat)<(b.m*2^(b.e-k).toNat)->jc a b=canon b.neg ((b.m*2^(b.e-k).toNat)-(a.m*2^(a.e-k).toNat)) k)(hn:¬(4097<max a.iJ b.iJ-k/\(1<a.iJ-b.iJ\/1<b.iJ-a.iJ))):il 239 [iB a,iB b]<|.iH [iB<|nZ<|jc a b,iP<|rp<|jc a b]:=by
 have ta:-16384<=a.iJ/\a.iJ<=16384:=by
  unfold Dy.iJ;rw[bj a0];have:=ha.range.resolve_left a0;have:=ha.exp;omega
 have tb:-16384<=b.iJ/\b.iJ<=16384:=by
  unfold Dy.iJ;rw[bj b0];have:=hb.range.resolve_left b0;have:=hb.exp;omega
 exact iE (ae [ai 18 (((im a.m).length:Int)==0)<|oj<|qt a0,ai 23 (((im b.m).length:Int)==0)<|oj<|qt b0,.o 41<|aq (if b.e<a.e then b.e else a.e) k<|by rw[<-hk];split<;>omega,.c<|oY a aD,.c<|oY b aD,.o 48<|aq (if(Dy.iJ b)>(Dy.iJ a)then(Dy.iJ b)else(Dy.iJ a)) (max a.iJ b.iJ) aM,iL<|(max a.iJ b.iJ)-k]<|.w (4097<((max a.iJ b.iJ)-k))
  (λk1=>ae [tB 51<|bu k1,iL<|(Dy.iJ a)-(Dy.iJ b)]<|.w (1<((Dy.iJ a)-(Dy.iJ b)))
   (λk2=>.x<|by exact absurd ⟨k1,.inl k2⟩ hn)
   (λk2=>ae [tB 56<|bn k2,iL<|(Dy.iJ b)-(Dy.iJ a)]<|.w (1<((Dy.iJ b)-(Dy.iJ a)))
    (λk3=>.x<|by exact absurd ⟨k1,.inr k3⟩ hn)
    (λk3=>ae [tB 61<|bn k3]<|acO a b ha hb a0 b0 k hk la lb e1 e2 e3 fa fb fab fx fy Mh Mi Mj)))
  (λk1=>ae [tB 51<|bn k1]<|acO a b ha hb a0 b0 k hk la lb e1 e2 e3 fa fb fab fx fy Mh Mi Mj))
def ae2(e1:-16384<=k)(h1:4097<max a.iJ b.iJ-k)(h2:1<a.iJ-b.iJ\/1<b.iJ-a.iJ):il 239 [iB a,iB b]<|.iH [iB iY,iP 9]:=by
 have ta:-16384<=a.iJ/\a.iJ<=16384:=by
  unfold Dy.iJ;rw[bj a0];have:=ha.range.resolve_left a0;have:=ha.exp;omega
 have tb:-16384<=b.iJ/\b.iJ<=16384:=by
  unfold Dy.iJ;rw[bj b0];have:=hb.range.resolve_left b0;have:=hb.exp;omega
 exact iE (ae [ai 18 (((im a.m).length:Int)==0)<|oj<|qt a0,ai 23 (((im b.m).length:Int)==0)<|oj<|qt b0,.o 41<|aq (if b.e<a.e then b.e else a.e) k<|by rw[<-hk];split<;>omega,.c<|oY a aD,.c<|oY b aD,.o 48<|aq (if(Dy.iJ b)>(Dy.iJ a)then(Dy.iJ b)else(Dy.iJ a)) (max a.iJ b.iJ) aM,iL<|(max a.iJ b.iJ)-k,tB 51<|bu h1,
  iL ((Dy.iJ a)-(Dy.iJ b))]<|.w (1<((Dy.iJ a)-(Dy.iJ b)))
  (λk1=>af [tB 56<|bu k1,.o 64 (.e uQ:aj (.agg ar)<|iB iY)])
  (λk1=>ae [tB 56<|bn k1,iL<|(Dy.iJ b)-(Dy.iJ a)]<|.w (1<((Dy.iJ b)-(Dy.iJ a)))
   (λk2=>af [tB 61<|bu k2,.o 64 (.e uQ:aj (.agg ar)<|iB iY)])
   (λk2=>.x aC)))
end
def ae0(hb:b.ix)(a0:a.m=0):il 239 [iB a,iB b]<|.iH [iB b,iP 0]:=
 iE (af [ah 18 (((im a.m).length:Int)==0)<|ua<|xk.2 a0,ah 28 (((im a.m).length:Int)==0)<|ua<|xk.2 a0,.c (by have h:=FM b.neg b.m b.e hb.im (by have:=hb.exp;omega) (by have:=hb.exp;omega);rwa[hb.canon.DX]at h:il 123 [bP b.neg,iy<|im b.m,iP b.e]<|iB b)])
def ae1(ha:a.ix)(a0:a.m≠0)(b0:b.m=0):il 239 [iB a,iB b]<|.iH [iB a,iP 0]:=
 iE (af [ai 18 (((im a.m).length:Int)==0)<|oj<|qt a0,ah 23 (((im b.m).length:Int)==0)<|ua<|xk.2 b0,ai 28 (((im a.m).length:Int)==0)<|oj<|qt a0,.c (by have h:=FM a.neg a.m a.e ha.im (by have:=ha.exp;omega) (by have:=ha.exp;omega);rwa[ha.canon.DX]at h:il 123 [bP a.neg,iy<|im a.m,iP a.e]<|iB a)])
def ae3(ha:a.ix)(hb:b.ix):il 239 [iB a,iB b]<|.iH [iB<|nZ<|jc a b,iP<|rp<|jc a b]:=by
 by_cases a0:a.m=0
 .rw [show jc a b=b by unfold jc;rw[bk a0],Ir hb.range,Lu hb.range];exact ae0 a b hb a0
 by_cases b0:b.m=0
 .rw [show jc a b=a by unfold jc;rw[bj a0,bk b0],Ir ha.range,Lu ha.range];exact ae1 a b ha a0 b0
 obtain⟨k,hk⟩:∃ k,min a.e b.e=k:=⟨_,rfl⟩
 have xa:=ha.exp;have xb:=hb.exp;by_cases hn:4097<max a.iJ b.iJ-k/\(1<a.iJ-b.iJ\/1<b.iJ-a.iJ)
 .have kE:=arh ha hb a0 b0 hk hn.1 hn.2;rw[Po kE,Vd kE];exact ae2 a b ha hb a0 b0 k hk aC hn.1 hn.2
 .obtain ⟨f1,f2⟩:=ari ha hb a0 b0 hk hn;have len:∀ {m:Nat},iD m<=4098->(im m).length<=256:=λh=>bA (Zp (k:=129)<|bA h aE) aE 
  refine ae4 a b ha hb a0 b0 k hk ha.im hb.im aC aC aC (len aC) (len aC) (len<|afc f1 f2) (len<|bA (wH<|fm _ _) aC) (len<|bA (wH<|fm _ _) aC) (λh=>?_) (λh h'=>arc a0 b0 hk h h') (λh h'=>ard a0 b0 hk h h') hn;have:=are (s:=a.neg) a0 b0 hk;rw[<-this,show(⟨a.neg,b.m,b.e⟩:Dy)=b by rw[h]]
def UE(ha:a.ix)(hb:b.ix):il 186 [iB a,iB b]<|.iH [iB<|nZ<|jc a<|ki b,iP<|rp<|jc a<|ki b]:=by
 have hn:=yx hb;exact iE<|af [.c<|sj a aD,.c<|sj b aD,.c<|xL b aD,ag [iB a,iB<|ki b]<|ae3 _ _ aD aD]
end
def aev(k:Int)(h1:-32768<=k)(h2:k<=32768):il 183 [iP k]<|bP true:=
 iE (af [tT 4 ((-32768)<=k) aC,tT 7 (k<=32768) aC])
def O4(d:Dy)(k:Int)(hv:d.ix)(h1:-32768<=k)(h2:k<=32768):il 107 [iB d,iP k]<|.iH [iB<|nZ<|canon d.neg d.m<|d.e+k,iP<|rp<|canon d.neg d.m<|d.e+k]:=by
 have hl:=hv.im;have he:=hv.exp;have kI:=U2 (nA d.m) hl d.neg<|d.e+k;obtain⟨oB,tg⟩:=U1 (nA d.m) hl d.neg (d.e+k) aC aC;rw[lF]at kI oB tg;exact iE<|af [.c<|sj d aD,ag [iP k]<|aev _ aC aC,iL<|d.e+k,ag [bP d.neg,iy<|im d.m,iP<|d.e+k]<|FM _ _ _ aC,ag [iB<|canon d.neg d.m<|d.e+k]<|Lb _ aC aC aC]
def O3(n:Nat)(h:n<4294967296):il 71 [iP n]<|iB<|jm (n:Int):=by
 have ok2:iW [n%4294967296,n/4294967296%4294967296]:=iW.cons (bR _ aE)<|iW.cons (bR _ aE) iW.nil;exact iE<|ae [.o 5 (.int<|s7 _:aj (.v<|.int .u64<|IntKind.u64.wrap (n:Int))<|.v<|.int .u64 (n:Int)),tF 7 ((n:Int)<0) aC,tF 11 ((n:Int)<0) aC,.o 13 (.int<|DK _:aj (.v<|.int .u32<|IntKind.u32.wrap (n:Int))<|.v<|.int .u32 ((n%4294967296:Nat):Int)),.a (aC:0<=(32:Int)/\(32:Int)<=((64:Nat):Int)),.o 15 (.int<|S9 _:aj (.v<|.int .u64<|(n:Int)/2^32)<|.v<|.int .u64 ((n/4294967296:Nat):Int)),.o 16 (.int<|DK _:aj (.v<|.int .u32<|IntKind.u32.wrap ((n/4294967296:Nat):Int))<|.v<|.int .u32 (((n/4294967296)%4294967296:Nat):Int)),.o 17 (.e<|adj _ _:aj (.sl false 2 1 λi_ j_=>[.v<|.int .u32 ((n%4294967296:Nat):Int),.v<|.int .u32 (((n/4294967296)%4294967296:Nat):Int)].getD (i_*1+j_)<|.v<|.bool false)<|iy [n%4294967296,(n/4294967296)%4294967296]),.c<|V4 false [n%4294967296,(n/4294967296)%4294967296] 0 ok2 aH aE aE]<|rQ (iB<|canon false (val [n%4294967296,(n/4294967296)%4294967296]) 0) (iB<|jm (n:Int))<|by rw[adt,(aC:n%4294967296+4294967296*(n/4294967296%4294967296)=n),BV]
def akN:jm 1=⟨false,1,0⟩:=by rw[show(1:Int)=((1:Nat):Int)from rfl,BV];exact aa5
def OZ:il 71 [iP 1]<|iB ⟨false,1,0⟩:=by
 have:=O3 1 aE;rwa[show((1:Nat):Int)=1 from rfl,akN]at this
section
variable(d:Dy)(p:Nat)(hd:d.ix)
def Ih(iC:8<=p:=by omega)(iu:p<=512:=by omega):il 240 [iB d,iP p]<|.iH [iB<|jd d p false,iP<|jI d p false]:=
 iE (af [.c<|Nv d p false aD])
def Ii(iC:8<=p:=by omega)(iu:p<=512:=by omega):il 241 [iB d,iP p]<|.iH [iB<|jd d p true,iP<|jI d p true]:=
 iE (af [.c<|Nv d p true aD])
end
def SG(d:Dy)(p:Nat)(up:Bool)(N:Nat)(h:(jE d p up N).2≠0):∀ k,jE d p up (N+k)=jE d p up N
 | 0=>rfl
 |k+1=>by
  have ih:=SG d p up N h k;show(if(jE d p up<|N+k).2≠0 then jE d p up (N+k)else _)=_;rw[ih,bk h]
def Dx{d:Dy}{p:Nat}{up:Bool}{k:Nat}(h:(jE d p up k).2=0):jE d p up (k+1)=(jd (mI (jE d p up k).1 d) p up,jI (mI (jE d p up k).1 d) p up):=by
 show(if(jE d p up k).2≠0 then _ else _)=_;rw[bj<|atY h];rfl
section
variable(d:Dy)
def aeP(n p:Nat)(hd:d.ix)(hn:1<=n)(mw:n<=16)(iC:8<=p)(iu:p<=512)(ji:∀ x,x<n-1->(jE d p false x).2=0):il 363 [iB d,iP n,iP p,.fn 240 [],.fn 120 []]<|.iH [iB (jE d p false<|n-1).1,iP (jE d p false<|n-1).2]:=
 iE (af [ag [iB d,iP p]<|Ih _ _ aD,.s (Sp.jP (Uz d n p) 0 (n-1) aC (λx hx mX=>by
    have qh:=ji x aC;have hv:=Ce d (aC:1<=p) (aC:p<=4096) false x;exact iS (ae [tT 24 (((x+1:Nat):Int)<n) aC,ah 27 (((jE d p false x).2)==0)<|by rw[qh];rfl,.c<|Km ((jE d p false x).1) d p aD aD,
     iL (((x+1:Nat):Int)+1)]<|.e<|af [.o 13<|aq (jI (mI ((jE d p false x).1) d) p false) ((jE d p false<|x+1).2)<|by rw[Dx qh],.b 12 (.jq<|by rw[Dx qh]:Bx.le (.cells 37<|kG<|jd (mI ((jE d p false x).1) d) p false)<|.cells 37<|kG<|(jE d p false<|x+1).1)]) aF)
  (λhx=>by
    exact iS (af [tF 24 ((((n-1)+1:Nat):Int)<n) aC]) aF) aI:jM 3 f363 (Uz d n p 0) (.exit 0) ⟨41,true,[(13,.e<|iP<|(jE d p false<|n-1).2),(12,.box 12 0),(10,.box 10 0)],[(12,.cells 37<|kG<|(jE d p false<|n-1).1),(10,.cells 37 ar)]⟩)<|af [.o 14<|aq 1 ((0+1:Nat):Int) rfl,.o 13<|aq (jI d p false) ((jE d p false 0).2) rfl,.b 12<|.refl<|.cells 37<|kG<|(jE d p false 0).1]])
def aeQ(n N p:Nat)(hd:d.ix)(hn:1<=n)(mw:n<=16)(iC:8<=p)(iu:p<=512)(qd:N<n-1)(ji:∀ x,x<N->(jE d p false x).2=0)(hN:(jE d p false N).2≠0):il 363 [iB d,iP n,iP p,.fn 240 [],.fn 120 []]<|.iH [iB (jE d p false N).1,iP (jE d p false N).2]:=
 iE (af [ag [iB d,iP p]<|Ih _ _ aD,.s (Sp.jP (UA d n N p) 0 N aC (λx hx mX=>by
    have qh:=ji x aC;have hv:=Ce d (aC:1<=p) (aC:p<=4096) false x;exact iS (ae [tT 24 (((x+1:Nat):Int)<n) aC,ah 27 (((jE d p false x).2)==0)<|by rw[qh];rfl,.c<|Km ((jE d p false x).1) d p aD aD,
     iL (((x+1:Nat):Int)+1)]<|.e<|af [.o 13<|aq (jI (mI ((jE d p false x).1) d) p false) ((jE d p false<|x+1).2)<|by rw[Dx qh],.b 12 (.jq<|by rw[Dx qh]:Bx.le (.cells 37<|kG<|jd (mI ((jE d p false x).1) d) p false)<|.cells 37<|kG<|(jE d p false<|x+1).1)]) aF)
  (λhx=>by
    exact iS (af [tT 24 (((N+1:Nat):Int)<n) aC,ai 27 (((jE d p false N).2)==0)<|by simpa using hN]) aF) aI:jM 3 f363 (UA d n N p 0) (.exit 0) ⟨41,true,[(13,.e<|iP<|(jE d p false N).2),(12,.box 12 0),(10,.box 10 0)],[(12,.cells 37<|kG<|(jE d p false N).1),(10,.cells 37 ar)]⟩)<|af [.o 14<|aq 1 ((0+1:Nat):Int) rfl,.o 13<|aq (jI d p false) ((jE d p false 0).2) rfl,.b 12<|.refl<|.cells 37<|kG<|(jE d p false 0).1]])
section
variable(n p:Nat)(hd:d.ix)(hn:1<=n)(mw:n<=16)(iC:8<=p)(iu:p<=512)
def aeR:il 363 [iB d,iP n,iP p,.fn 240 [],.fn 120 []]<|.iH [iB (jE d p false<|n-1).1,iP (jE d p false<|n-1).2]:=by
 by_cases h:∃ x,x<n-1/\decide ((jE d p false x).2≠0)=true
 .obtain ⟨N,h1,h2,h3⟩:=sx h;have hN:(jE d p false N).2≠0:=cL h2;have:=aeQ d n N p hd hn mw iC iu h1 (λx hx=>by simpa using h3 x hx) hN;have e:=SG d p false N hN<|n-1-N;rw[(aC:N+(n-1-N)=n-1)]at e;rw[e];exact this
 .exact aeP d n p hd hn mw iC iu λx hx=>ca λq=>h ⟨x,hx,bu q⟩
def aeS(ji:∀ x,x<n-1->(jE d p true x).2=0):il 363 [iB d,iP n,iP p,.fn 241 [],.fn 121 []]<|.iH [iB (jE d p true<|n-1).1,iP (jE d p true<|n-1).2]:=
 iE (af [ag [iB d,iP p]<|Ii _ _ aD,.s (Sp.jP (UB d n p) 0 (n-1) aC (λx hx mX=>by
    have qh:=ji x aC;have hv:=Ce d (aC:1<=p) (aC:p<=4096) true x;exact iS (ae [tT 24 (((x+1:Nat):Int)<n) aC,ah 27 (((jE d p true x).2)==0)<|by rw[qh];rfl,.c<|Nt ((jE d p true x).1) d p aD aD aC aC,
     iL (((x+1:Nat):Int)+1)]<|.e<|af [.o 13<|aq (jI (mI ((jE d p true x).1) d) p true) ((jE d p true<|x+1).2)<|by rw[Dx qh],.b 12 (.jq<|by rw[Dx qh]:Bx.le (.cells 37<|kG<|jd (mI ((jE d p true x).1) d) p true)<|.cells 37<|kG<|(jE d p true<|x+1).1)]) aF)
  (λhx=>by
    exact iS (af [tF 24 ((((n-1)+1:Nat):Int)<n) aC]) aF) aI:jM 3 f363 (UB d n p 0) (.exit 0) ⟨41,true,[(13,.e<|iP<|(jE d p true<|n-1).2),(12,.box 12 0),(10,.box 10 0)],[(12,.cells 37<|kG<|(jE d p true<|n-1).1),(10,.cells 37 ar)]⟩)<|af [.o 14<|aq 1 ((0+1:Nat):Int) rfl,.o 13<|aq (jI d p true) ((jE d p true 0).2) rfl,.b 12<|.refl<|.cells 37<|kG<|(jE d p true 0).1]])
end
def aeT(n N p:Nat)(hd:d.ix)(hn:1<=n)(mw:n<=16)(iC:8<=p)(iu:p<=512)(qd:N<n-1)(ji:∀ x,x<N->(jE d p true x).2=0)(hN:(jE d p true N).2≠0):il 363 [iB d,iP n,iP p,.fn 241 [],.fn 121 []]<|.iH [iB (jE d p true N).1,iP (jE d p true N).2]:=
 iE (af [ag [iB d,iP p]<|Ii _ _ aD,.s (Sp.jP (UC d n N p) 0 N aC (λx hx mX=>by
    have qh:=ji x aC;have hv:=Ce d (aC:1<=p) (aC:p<=4096) true x;exact iS (ae [tT 24 (((x+1:Nat):Int)<n) aC,ah 27 (((jE d p true x).2)==0)<|by rw[qh];rfl,.c<|Nt ((jE d p true x).1) d p aD aD aC aC,
     iL (((x+1:Nat):Int)+1)]<|.e<|af [.o 13<|aq (jI (mI ((jE d p true x).1) d) p true) ((jE d p true<|x+1).2)<|by rw[Dx qh],.b 12 (.jq<|by rw[Dx qh]:Bx.le (.cells 37<|kG<|jd (mI ((jE d p true x).1) d) p true)<|.cells 37<|kG<|(jE d p true<|x+1).1)]) aF)
  (λhx=>by
    exact iS (af [tT 24 (((N+1:Nat):Int)<n) aC,ai 27 (((jE d p true N).2)==0)<|by simpa using hN]) aF) aI:jM 3 f363 (UC d n N p 0) (.exit 0) ⟨41,true,[(13,.e<|iP<|(jE d p true N).2),(12,.box 12 0),(10,.box 10 0)],[(12,.cells 37<|kG<|(jE d p true N).1),(10,.cells 37 ar)]⟩)<|af [.o 14<|aq 1 ((0+1:Nat):Int) rfl,.o 13<|aq (jI d p true) ((jE d p true 0).2) rfl,.b 12<|.refl<|.cells 37<|kG<|(jE d p true 0).1]])
def aeU(n p:Nat)(hd:d.ix)(hn:1<=n)(mw:n<=16)(iC:8<=p)(iu:p<=512):il 363 [iB d,iP n,iP p,.fn 241 [],.fn 121 []]<|.iH [iB (jE d p true<|n-1).1,iP (jE d p true<|n-1).2]:=by
 by_cases h:∃ x,x<n-1/\decide ((jE d p true x).2≠0)=true
 .obtain ⟨N,h1,h2,h3⟩:=sx h;have hN:(jE d p true N).2≠0:=cL h2;have:=aeT d n N p hd hn mw iC iu h1 (λx hx=>by simpa using h3 x hx) hN;have e:=SG d p true N hN<|n-1-N;rw[(aC:N+(n-1-N)=n-1)]at e;rw[e];exact this
 .exact aeS d n p hd hn mw iC iu λx hx=>ca λq=>h ⟨x,hx,bu q⟩
section
variable(n p:Nat)(hd:d.ix)(h0:¬d.jL<0)(hn:1<=n)(mw:n<=16)(iC:8<=p)(iu:p<=512)
def Ul:il 350 [iB d,iP n,iP p,bP false]<|.iH [iB (lV d n p false).1,iP (lV d n p false).2]:=
 iE (ae [.c<|pP d aD,tB 14<|bn h0,ag [iB d,iP n,iP p,.fn 240 [],.fn 120 []]<|aeR _ _ _ aD aC aC aC aC]<|rQ (.iH [iB<|(jE d p false<|n-1).1,iP<|(jE d p false<|n-1).2]) (.iH [iB (lV d n p false).1,iP (lV d n p false).2])<|by unfold lV;rw[bj h0])
def Um:il 350 [iB d,iP n,iP p,bP true]<|.iH [iB (lV d n p true).1,iP (lV d n p true).2]:=
 iE (ae [.c<|pP d aD,tB 14<|bn h0,ag [iB d,iP n,iP p,.fn 241 [],.fn 121 []]<|aeU _ _ _ aD aC aC aC aC]<|rQ (.iH [iB<|(jE d p true<|n-1).1,iP<|(jE d p true<|n-1).2]) (.iH [iB (lV d n p true).1,iP (lV d n p true).2])<|by unfold lV;rw[bj h0])
end
end
def acx{d:Dy}(h:d.jL<0):¬(ki d).jL<0:=by
 rw[(xw _).2,sN];have:=(xw d).2.1 h
 grind
section
variable(d:Dy)(n p:Nat)(hd:d.ix)
section
variable(h0:¬d.jL<0)(hn:1<=n)(mw:n<=16)(iC:8<=p)(iu:p<=512)
def aeq:il 350 [iB d,iP (n:Int),iP (p:Int),bP false]<|.iH [iB (jE d p false<|n-1).1,iP (jE d p false<|n-1).2]:=by
 have:=Ul d n p hd h0 hn mw iC iu;unfold lV at this;rwa[bj h0]at this
def aer:il 350 [iB d,iP (n:Int),iP (p:Int),bP true]<|.iH [iB (jE d p true<|n-1).1,iP (jE d p true<|n-1).2]:=by
 have:=Um d n p hd h0 hn mw iC iu;unfold lV at this;rwa[bj h0]at this
end
def aeo(h0:d.jL<0)(hn:1<=n)(mw:n<=16)(iC:8<=p)(iu:p<=512):il 350 [iB d,iP n,iP p,bP false]<|.iH [iB (lV d n p false).1,iP (lV d n p false).2]:=by
 have Jb:=yx hd;have h1:=acx h0;have hv:=Ce (ki d) (aC:1<=p) (aC:p<=4096) true<|n-1;exact iE<|ae [.c<|pP d aD,tB 14<|bu h0,.c<|xL d aD,ag [iB<|ki d,iP n,iP p,bP true]<|aer _ _ _ Jb h1 hn mw iC iu,.c<|xL ((jE (ki d) p true<|n-1).1) aD]<|rQ (.iH [iB<|ki<|(jE (ki d) p true<|n-1).1,iP<|(jE (ki d) p true<|n-1).2]) (.iH [iB (lV d n p false).1,iP (lV d n p false).2])<|by unfold lV;rw[bk h0];rfl
def Un(hn:1<=n)(mw:n<=16)(iC:8<=p)(iu:p<=512):il 350 [iB d,iP (n:Int),iP (p:Int),bP false]<|.iH [iB (lV d n p false).1,iP (lV d n p false).2]:=by
 by_cases h0:d.jL<0
 .exact aeo d n p hd h0 hn mw iC iu
 .exact Ul d n p hd h0 hn mw iC iu
def aep(h0:d.jL<0)(hn:1<=n)(mw:n<=16)(iC:8<=p)(iu:p<=512):il 350 [iB d,iP n,iP p,bP true]<|.iH [iB (lV d n p true).1,iP (lV d n p true).2]:=by
 have Jb:=yx hd;have h1:=acx h0;have hv:=Ce (ki d) (aC:1<=p) (aC:p<=4096) false<|n-1;exact iE<|ae [.c<|pP d aD,tB 14<|bu h0,.c<|xL d aD,ag [iB<|ki d,iP n,iP p,bP false]<|aeq _ _ _ Jb h1 hn mw iC iu,.c<|xL ((jE (ki d) p false<|n-1).1) aD]<|rQ (.iH [iB<|ki<|(jE (ki d) p false<|n-1).1,iP<|(jE (ki d) p false<|n-1).2]) (.iH [iB (lV d n p true).1,iP (lV d n p true).2])<|by unfold lV;rw[bk h0];rfl
def Uo(hn:1<=n)(mw:n<=16)(iC:8<=p)(iu:p<=512):il 350 [iB d,iP (n:Int),iP (p:Int),bP true]<|.iH [iB (lV d n p true).1,iP (lV d n p true).2]:=by
 by_cases h0:d.jL<0
 .exact aep d n p hd h0 hn mw iC iu
 .exact Um d n p hd h0 hn mw iC iu
end
section
variable(x:Iv)(n p:Nat)(hx:x.ix)
def aeV(ha:x.all=true)(hn:n<=16)(iC:8<=p)(iu:p<=512):il 317 [iA x,iP n,iP p]<|iA<|rE x n p:=
 iE (ae [.o 12<|.e<|mn x,.c<|qU x aD,ai 13 (!x.all)<|by rw[ha];rfl,.c oC]<|rQ (iA iw) (iA<|rE x n p)<|by unfold rE;rw[bk ha])
def aeY(ha:x.all=false)(h0:n=0)(iC:8<=p)(iu:p<=512):il 317 [iA x,iP n,iP p]<|iA<|rE x n p:=by
 have v1:=J7;exact iE<|ae [.o 12<|.e<|mn x,.c<|qU x aD,ah 13 (!x.all)<|by rw[ha];rfl,.c<|xi (p:Int),ah 17 (kA (p:Int))<|oo.2 ⟨aC,aC⟩,tF 22 ((n:Int)<0) aC,tF 26 (16<(n:Int)) aC,ah 30 ((n:Int)==0)<|ua h0,ag [iP 1] OZ,.c<|yh (Dy.mk false 1 0) aD]<|rQ (iA<|jx<|Dy.mk false 1 0) (iA<|rE x n p)<|by unfold rE;rw[bj<|by rw[ha];decide,bk h0]
section
variable(ha:x.all=false)(h0:n≠0)(hn:n<=16)
def aeW(he:n%2=0)(iC:8<=p)(iu:p<=512):il 317 [iA x,iP n,iP p]<|iA<|rE x n p:=by
 have va:=K1 hx;obtain⟨w1,w2⟩:=va.jX;exact iE<|ae [.o 12<|.e<|mn x,.c<|qU x aD,ah 13 (!x.all)<|by rw[ha];rfl,.c<|xi (p:Int),ah 17 (kA (p:Int))<|oo.2 ⟨aC,aC⟩,tF 22 ((n:Int)<0) aC,tF 26 (16<(n:Int)) aC,ai 30 ((n:Int)==0)<|oj h0,.a (aC:0<(2:Int)),.o 34<|aq (Int.tmod (n:Int) 2) ((n%2:Nat):Int)<|by rw[atZ aC];omega,ah 35 (((n%2:Nat):Int)==0)<|ua he,.c<|Ry x aD,ag [iB<|(kp x).lo,iP n,iP p,bP false]<|Un _ _ _ aD aC aC aC aC,ag [iB<|(kp x).hi,iP n,iP p,bP true]<|Uo _ _ _ aD aC aC aC aC,.c<|EN ((lV ((kp x).lo) n p false).1) ((lV ((kp x).hi) n p true).1) ((lV ((kp x).lo) n p false).2)<|(lV ((kp x).hi) n p true).2]<|rQ (iA<|mF ((lV ((kp x).lo) n p false).1) ((lV ((kp x).lo) n p false).2) ((lV ((kp x).hi) n p true).1)<|(lV ((kp x).hi) n p true).2) (iA<|rE x n p)<|by unfold rE wi;rw[bj<|by rw[ha];decide,bj h0,bk he]
def aeX(he:¬n%2=0)(iC:8<=p)(iu:p<=512):il 317 [iA x,iP n,iP p]<|iA<|rE x n p:=by
 have va:=hx;obtain⟨w1,w2⟩:=va.jX;exact iE<|ae [.o 12<|.e<|mn x,.c<|qU x aD,ah 13 (!x.all)<|by rw[ha];rfl,.c<|xi (p:Int),ah 17 (kA (p:Int))<|oo.2 ⟨aC,aC⟩,tF 22 ((n:Int)<0) aC,tF 26 (16<(n:Int)) aC,ai 30 ((n:Int)==0)<|oj h0,.a (aC:0<(2:Int)),.o 34<|aq (Int.tmod (n:Int) 2) ((n%2:Nat):Int)<|by rw[atZ aC];omega,ai 35 (((n%2:Nat):Int)==0)<|oj he,ag [iB x.lo,iP n,iP p,bP false]<|Un _ _ _ aD aC aC aC aC,ag [iB x.hi,iP n,iP p,bP true]<|Uo _ _ _ aD aC aC aC aC,.c<|EN ((lV x.lo n p false).1) ((lV x.hi n p true).1) ((lV x.lo n p false).2)<|(lV x.hi n p true).2]<|rQ (iA<|mF ((lV x.lo n p false).1) ((lV x.lo n p false).2) ((lV x.hi n p true).1)<|(lV x.hi n p true).2) (iA<|rE x n p)<|by unfold rE wi;rw[bj<|by rw[ha];decide,bj h0,bj he]
end
def Ux(hn:n<=16)(iC:8<=p)(iu:p<=512):il 317 [iA x,iP (n:Int),iP (p:Int)]<|iA<|rE x n p:=by
 cases ha:x.all with
 |true=>exact aeV x n p hx ha hn iC iu
 |false=>
  by_cases h0:n=0
  .exact aeY x n p hx ha h0 iC iu
  .by_cases he:n%2=0
   .exact aeW x n p hx ha h0 hn he iC iu
   .exact aeX x n p hx ha h0 hn he iC iu
end
def aey(x y:Iv)(hx:x.ix)(hy:y.ix)(xa:x.all=false)(ya:y.all=false):il 190 [iA x,iA y]<|iA<|Gr x y:=by
 obtain⟨v1,v2⟩:=hx.jX;obtain⟨v3,v4⟩:=hy.jX;exact iE<|ae [.o 7<|.e<|AH x y,.c<|BX x y aD aD,ah 8 (!(x.all||y.all))<|by rw[xa,ya];rfl,.c<|Jy x.lo y.lo aD aD,.c<|Jz x.hi y.hi aD aD]<|rQ (iA<|Iv.mk (jA x.lo y.lo) (jy x.hi y.hi) false) (iA<|Gr x y)<|by unfold Gr;rw[xa,ya];rfl
def UH(z:Int):(z==0)=decide (z=0):=by by_cases h:z=0<;>simp[h]
def O5(x:Iv)(p:Nat)(hx:x.ix)(xa:x.all=false)(iC:8<=p)(iu:p<=512):il 192 [iA x,iP p]<|.iH [iB<|wA x p,bP<|decide (DO x p=0)]:=by
 obtain⟨v1,v2⟩:=hx.jX;have v3:=yx v1;exact iE<|ae [.o 9<|.e<|mn x,.c<|qU x aD,ah 10 (!x.all)<|by rw[xa];rfl,.c<|xi (p:Int),ah 14 (kA (p:Int))<|oo.2 ⟨aC,aC⟩,.c<|xL x.lo aD,.c<|G6 x.hi (ki x.lo) p aD aD]<|rQ (.iH [iB<|jd (jc x.hi<|ki x.lo) p true,bP<|(jI (jc x.hi<|ki x.lo) p true)==0]) (.iH [iB<|wA x p,bP<|decide (DO x p=0)])<|by rw[UH];rfl
def Lc(x y:Iv):AE x y=(y.all||(!x.all&&(decide (jN y.lo x.lo<=0)&&decide (jN x.hi y.hi<=0)))):=rfl
def Ut(x y:Iv)(hx:x.ix)(hy:y.ix):il 56 [iA x,iA y]<|bP<|AE x y:=by
 obtain⟨v1,v2⟩:=hx.jX;obtain⟨v3,v4⟩:=hy.jX;exact iE (ae [.c<|qG x aD,.c<|qG y aD]<|.w (y.all=true)
  (λk1=>ae [tB 14 k1]<|rQ (bP true) (bP<|AE x y)<|by rw[Lc];simp[k1])
  (λk1=>ae [tB 14<|bc k1]<|.w (x.all=true)
   (λk2=>ae [tB 17 k2]<|rQ (bP false) (bP<|AE x y)<|by rw[Lc];simp[k1,k2])
   (λk2=>ae [tB 17<|bc k2,.c<|nE y.lo x.lo aD aD]<|.w ((jN y.lo x.lo)<=0)
    (λk3=>ae [tB 25<|bu k3,.c<|nE x.hi y.hi aD aD]<|rQ (bP<|decide ((jN x.hi y.hi)<=0)) (bP<|AE x y)<|by rw[Lc];simp[k1,k2,k3])
    (λk3=>ae [tB 25<|bn k3]<|rQ (bP false) (bP<|AE x y)<|by rw[Lc];simp[k1,k2,k3]))))
def ahu(k:Nat)(w:World)(h0:0<k)(hn:k<4294967296)(vL:Tb w):
 Calls prog 71 #[.int .i64 (-(k:Int))] w (Bh w<|canon true k 0):=by
 have hd:(k:Int)/4294967296=0:= aC ;have iN:(-(k:Int))<0:= aC ;have Eh:decide ((-(k:Int))<0)=true:=bu iN;have hu:IntKind.u64.wrap (-(k:Int))=18446744073709551616-k:=by rw[IntKind.wrap_u64];omega
 have hs:IntKind.u64.wrap (-(18446744073709551616-(k:Int)))=k:=by rw[IntKind.wrap_u64];omega
 have Mb:IntKind.u32.wrap (k:Int)=k:=by rw[IntKind.wrap_u32];omega
 have ht:(iT [k,0]).length<=256:=by have:=qN [k,0];unfold nf at this;simp at this;omega
 have HC:=auj λ(A:Option Addr) c w (h:Sl w A c [k,0]) (hT:Tb w)=>LK true A c [k,0] 0 w h aH ht aE aE hT;have hv:val [k,0]=k:= aH ;rw[hv]at HC;clear hv ht;generalize canon true k 0=d at *
 generalize hN:(-(k:Int))=N at *
 go_enter func71,ntmps71;go_wp2_with fail;refine(HC.out _ _ _ (Sl.Oe _ _ aH _ _ k 0 rfl rfl hn aE)<|vL.below<|by first|exact(ja.alloc _ _).trans (ja.alloc _ _)|exact ja.alloc _ _).mono ?_;rintro r w1 ⟨A1,c1,rfl,w8,kI⟩;have ml:ja (w.alloc<|.cells #[.bool false,.slice none 0 0,.int .i64 0] 37) w1:=(ja.alloc _ _).trans kI;have bx:=(jW.new w false none 0 0 0).ext ml;have b0:=bx.c0;have b1:=bx.c1;have b2:=bx.c2;have f0:=bx.fr 0;have f1:=bx.fr 1;have f2:=bx.fr 2;go_wp2;exact Br rfl rfl rfl (bx.set _ _ _ _ _) rfl (bx.xy w8 _ _ _ _ _) (jW.wq ((ja.alloc _ _).trans ml) (bw _) _ _ _ _ _)
def rL(n:Int)(h:n.natAbs<4294967296:=by omega):il 71 [iP n]<|iB<|jm n:=by
 by_cases h0:0<=n
 .obtain ⟨k,rfl⟩:=gP h0;exact O3 k aC 
 .obtain ⟨k,rfl⟩:∃ k:Nat,n = -(k:Int):=⟨n.natAbs,aC⟩
  rw[YJ k aC];refine⟨call71,λw B vs hK hB hr=>?_⟩;obtain⟨v1,vs,rfl,h1,hr⟩:=hr.nR;obtain rfl:=hr.sK;obtain rfl:=iO.kW h1;exact(ahu k w aC aC hK).mono λe w' h=>rd B w e w' hB h
def aqB(d:Dy)(k:Int):nZ (canon d.neg d.m<|d.e+k)=vD d k:=by unfold nZ vD;split<;>simp_all
def aqC(d:Dy)(k:Int):rp (canon d.neg d.m<|d.e+k)=Fu d k:=by unfold rp Fu;split<;>simp_all
def pt(a b:Nat):Nat->Nat×Nat
 | 0=>(a,b)
 |k+1=>((pt a b k).2,(pt a b k).1%(pt a b k).2)
def PO(a b:Nat):∀ k,pt a b (k+1)=pt b (a%b) k
 | 0=>rfl
 |k+1=>by
  show((pt a b<|k+1).2,(pt a b<|k+1).1%(pt a b<|k+1).2)=_;rw[PO a b k];rfl
def Wi(a b:Nat):∀ k,Nat.gcd (pt a b k).1 (pt a b k).2=Nat.gcd a b
 | 0=>rfl
 |k+1=>by
  show Nat.gcd (pt a b k).2 ((pt a b k).1%(pt a b k).2)=_;rw[<-Wi a b k];exact(Nat.gcd_comm _ _).trans<|(Nat.gcd_rec _ _).symm.trans<|Nat.gcd_comm _ _
def ahJ:∀ (b a:Nat),∃ N,(∀ k,k<N->(pt a b k).2≠0)/\(pt a b N).2=0:=by
 intro b
 induction b using Nat.strongRecOn with
 |ind b ih=>
  intro a;by_cases h:b=0
  .exact ⟨0,λk hk=>absurd hk<|bC k,h⟩
  .obtain ⟨N,h1,h2⟩:=ih (a%b) (bR a<|eF h) b;refine⟨N+1,λk hk=>?_,by rw[PO];exact h2⟩;rcases k with _|k
   .exact h
   .rw [PO];exact h1 k aC 
def uL(n d:Int)(p:Nat):Iv:=if qu n d then mF (nv (jm n) (jm d) p false) (oX (jm n) (jm d) p false) (nv (jm n) (jm d) p true) (oX (jm n) (jm d) p true)else iw
def YI{d:Int}(h:d≠0):(jm d).m≠0:=by
 intro q;have hq:=Dz d;rw[sO,q]at hq;have e:(d:Rat)=0:=by
  rw[<-hq];split<;>simp
 rw[show(0:Rat)=((0:Int):Rat)from rfl,Rat.intCast_inj]at e;exact h e
def VU{a b:Dy}(b0:b.m≠0){p:Nat}(hp:1<=p)(iu:p<=4096)(up:Bool):(nv a b p up).ix:=by
 unfold nv;split
 .exact ph
 .exact uq _ _ _ _ _ _ hp iu
def aqf(n d:Int){p:Nat}(hp:1<=p)(iu:p<=4096):(uL n d p).ix:=by
 unfold uL;split
 .rename_i h;obtain⟨r1,_⟩:=Nq h;have d0:(jm d).m≠0:=YI aC;unfold mF;split
  .exact ln
  .rename_i he;obtain⟨A,B⟩:=VP (a:=jm n) d0 hp iu;refine .inr ⟨rfl,VU d0 hp iu _,VU d0 hp iu _,?_⟩;rw[r6];exact bZ (A.1 aC).2 (B.1 aC).2
 .exact ln
def W5(a b:Nat)(x:Nat):PS:=⟨12,true,[(0,.e<|.v<|.int .u64 (((pt a b x).1:Nat):Int)),(1,.e<|.v<|.int .u64 (((pt a b x).2:Nat):Int))],[]⟩
def ai3(a b N:Nat)(ha:a<18446744073709551616)(hb:b<18446744073709551616)(ji:∀ k,k<N->(pt a b k).2≠0)(hN:(pt a b N).2=0):il 174 [.v<|.int .u64 (a:Int),.v<|.int .u64 (b:Int)]<|.v<|.int .u64 (((pt a b N).1:Nat):Int):=
 iE (af [.s (Sp.jP (W5 a b) 0 N aC (λx hx mX=>by
    have ml:=ji x aC;exact iS (ae [ah 6 ((((pt a b x).2:Nat):Int) != 0)<|anf<|ji x aC,.a (aC:0<((((pt a b x).2:Nat):Int):Int))]<|.e<|af [.o 0<|.int (k:=.u64) (by first|rfl|omega|(simp only[bT,bX];omega):(((pt a b x).2:Nat):Int)=(((pt a b<|x+1).1:Nat):Int)),.o 1<|.int (k:=.u64) (by first|rfl|omega|(simp only[bT,bX];omega):((((pt a b x).1)%((pt a b x).2):Nat):Int)=(((pt a b<|x+1).2:Nat):Int))]) aF)
  (λhx=>by
    exact iS (af [ai 6 ((((pt a b N).2:Nat):Int) != 0)<|ane hN]) aF) aI:jM 1 f174 (W5 a b 0) (.exit 0) ⟨12,true,[(0,.e<|.v<|.int .u64 (((pt a b N).1:Nat):Int))],[]⟩)<|af [.o 0<|.int (k:=.u64) (by first|rfl|omega|(simp only[bT,bX];omega):(a:Int)=(((pt a b 0).1:Nat):Int)),.o 1<|.int (k:=.u64) (by first|rfl|omega|(simp only[bT,bX];omega):(b:Int)=(((pt a b 0).2:Nat):Int))]])
def ai4(a b:Nat)(ha:a<18446744073709551616)(hb:b<18446744073709551616):il 174 [.v<|.int .u64 (a:Int),.v<|.int .u64 (b:Int)]<|.v<|.int .u64 (Nat.gcd a b:Int):=by
 obtain⟨N,h1,h2⟩:=ahJ b a;have hg:=Wi a b N;rw[h2,Nat.gcd_zero_right]at hg;rw[<-hg];exact ai3 a b N ha hb h1 h2
def aqR(m:Nat)(h:m<=1073741824):il 175 [iP m]<|.v<|.int .u64 (m:Int):=
 iE (af [tF 4 ((m:Int)<0) aC,.o 9 (.int<|s7 _:aj (.v<|.int .u64<|IntKind.u64.wrap (m:Int))<|.v<|.int .u64 (m:Int))])
def aqQ(m:Nat)(h0:0<m)(h:m<=1073741824):il 175 [iP (-(m:Int))]<|.v<|.int .u64 (m:Int):=
 iE (af [tT 4 ((-(m:Int))<0) aC,iL<|0-(-(m:Int)),.o 6<|aq (0-(-(m:Int))) m,.o 7 (.int<|s7 _:aj (.v<|.int .u64<|IntKind.u64.wrap (m:Int))<|.v<|.int .u64 (m:Int))])
def acA(n:Int)(h1:-1073741824<=n)(h2:n<=1073741824):il 175 [iP n]<|.v<|.int .u64 (n.natAbs:Int):=by
 by_cases h:0<=n
 .obtain ⟨m,rfl⟩:=gP h;exact aqR m aC 
 .obtain ⟨m,rfl⟩:∃ m:Nat,n = -(m:Int):=⟨n.natAbs,aC⟩
  rw[atQ,gN];exact aqQ m aC aC 
def J6(g:Nat):((g:Int)==1)=decide (g=1):=by
 by_cases h:g=1
 .subst h;rfl
 .rw [bn h];exact aY aC 
def Nr(n d:Int):il 103 [.agg [iP n,iP d]]<|bP<|qu n d:=
 iE (.w (1<=d)
  (λk1=>ae [tB 5<|bu k1]<|.w (d<=1073741824)
   (λk2=>ae [tB 9<|bu k2]<|.w ((-1073741824)<=n)
    (λk3=>ae [tB 14<|bu k3]<|.w (n<=1073741824)
     (λk4=>ae [tB 19<|bu k4,ag [iP n]<|acA _ aC aC,ag [iP d]<|acA _ aC aC,ag [.v<|.int .u64 (Int.natAbs n:Int),.v<|.int .u64 (Int.natAbs d:Int)]<|ai4 _ _ aC aC]<|rQ (bP<|(Nat.gcd (Int.natAbs n)<|Int.natAbs d:Int)==1) (bP<|qu n d)<|by unfold qu;simp[J6,k1,k2,k3,k4])
     (λk4=>ae [tB 19<|bn k4]<|rQ (bP false) (bP<|qu n d)<|by unfold qu;simp[J6,k1,k2,k3,k4]))
    (λk3=>ae [tB 14<|bn k3]<|rQ (bP false) (bP<|qu n d)<|by unfold qu;simp[J6,k1,k2,k3]))
   (λk2=>ae [tB 9<|bn k2]<|rQ (bP false) (bP<|qu n d)<|by unfold qu;simp[J6,k1,k2]))
  (λk1=>ae [tB 5<|bn k1]<|rQ (bP false) (bP<|qu n d)<|by unfold qu;simp[J6,k1]))
def ZV{lo hi:Dy}{e f:Int}(h:e≠0\/f≠0):mF lo e hi f=iw:=bk h
def amy{lo hi:Dy}{e f:Int}(h:e=0)(k:f=0):mF lo e hi f=⟨lo,hi,false⟩:=bj<|by rw[h,k];decide
def aoM(n d:Int)(p:Nat)(h:qu n d=true)(iC:8<=p)(iu:p<=512):il 275 [.agg [iP n,iP d],iP p]<|iA<|uL n d p:=by
 obtain⟨r1,r2,r3,r4⟩:=Nq h;have v1:=tU (n:=n) aC;have v2:=tU (n:=d) aC;have d0:(jm d).m≠0:=YI aC;exact iE (ae [ag [.agg [iP n,iP d]]<|Nr _ _,ai 11 (!(qu n d))<|by rw[h];rfl,.c<|rL n,.c<|rL d,.c<|SL (jm n) (jm d) p aD aD aD aC aC,.c<|rL n,.c<|rL d,.c<|abw (jm n) (jm d) p aD aD aD aC aC]<|.w ((oX (jm n) (jm d) p false)=0)
  (λk1=>ae [tB 36<|bg k1]<|.w ((oX (jm n) (jm d) p true)=0)
   (λk2=>ae [tB 39<|bg k2]<|rQ (iA<|Iv.mk (nv (jm n) (jm d) p false) (nv (jm n) (jm d) p true) false) (iA<|uL n d p)<|by unfold uL;rw[bk h,amy k1 k2])
   (λk2=>ae [tB 39<|bh k2,.o 41 (.e Ba:aj (.agg [bP false,.v<|.slice none 0 0,iP 0,bP false,.v<|.slice none 0 0,iP 0,bP true])<|iA iw)]<|rQ (iA iw) (iA<|uL n d p)<|by unfold uL;rw[bk h,ZV<|.inr k2]))
  (λk1=>ae [tB 36<|bh k1,.o 41 (.e Ba:aj (.agg [bP false,.v<|.slice none 0 0,iP 0,bP false,.v<|.slice none 0 0,iP 0,bP true])<|iA iw)]<|rQ (iA iw) (iA<|uL n d p)<|by unfold uL;rw[bk h,ZV<|.inl k1]))
section
variable(x:Iv)
noncomputable def FZ(p:Nat):Iv:=@dite Iv (∃ y:Iv,y.ix/\il 67 [iA x,iP (p:Int)] (iA y)) (Classical.propDecidable _) Classical.choose λ_=>iw
def aiD(p:Nat):(FZ x p).ix:=by
 unfold FZ;split
 .rename_i h;exact(dk h).1
 .exact ln
def aiC(hx:x.ix)(p:Nat)(iC:8<=p)(iu:p<=512)(hF:yH):il 67 [iA x,iP (p:Int)]<|iA<|FZ x p:=by
 have h:∃ y:Iv,y.ix/\il 67 [iA x,iP (p:Int)] (iA y):=(hF x p hx iC iu).1;unfold FZ;rw[dif_pos h];exact(dk h).2
noncomputable def F0(p:Nat):Iv:=@dite Iv (∃ y:Iv,y.ix/\il 318 [iA x,iP (p:Int)] (iA y)) (Classical.propDecidable _) Classical.choose λ_=>iw
def aiF(p:Nat):(F0 x p).ix:=by
 unfold F0;split
 .rename_i h;exact(dk h).1
 .exact ln
def aiE(hx:x.ix)(p:Nat)(iC:8<=p)(iu:p<=512)(hF:yH):il 318 [iA x,iP (p:Int)]<|iA<|F0 x p:=by
 have h:∃ y:Iv,y.ix/\il 318 [iA x,iP (p:Int)] (iA y):=(hF x p hx iC iu).2.1;unfold F0;rw[dif_pos h];exact(dk h).2
noncomputable def Al(p:Nat):Iv:=@dite Iv (∃ y:Iv,y.ix/\il 319 [iA x,iP (p:Int)] (iA y)) (Classical.propDecidable _) Classical.choose λ_=>iw
def Wx(p:Nat):(Al x p).ix:=by
 unfold Al;split
 .rename_i h;exact(dk h).1
 .exact ln
def Ww(hx:x.ix)(p:Nat)(iC:8<=p)(iu:p<=512)(hF:yH):il 319 [iA x,iP (p:Int)]<|iA<|Al x p:=by
 have h:∃ y:Iv,y.ix/\il 319 [iA x,iP (p:Int)] (iA y):=(hF x p hx iC iu).2.2.1;unfold Al;rw[dif_pos h];exact(dk h).2
noncomputable def Bt(p:Nat):Iv:=@dite Iv (∃ y:Iv,y.ix/\il 320 [iA x,iP (p:Int)] (iA y)) (Classical.propDecidable _) Classical.choose λ_=>iw
def Wv(p:Nat):(Bt x p).ix:=by
 unfold Bt;split
 .rename_i h;exact(dk h).1
 .exact ln
def Wu(hx:x.ix)(p:Nat)(iC:8<=p)(iu:p<=512)(hF:yH):il 320 [iA x,iP (p:Int)]<|iA<|Bt x p:=by
 have h:∃ y:Iv,y.ix/\il 320 [iA x,iP (p:Int)] (iA y):=(hF x p hx iC iu).2.2.2.1;unfold Bt;rw[dif_pos h];exact(dk h).2
noncomputable def F1(p:Nat):Iv:=@dite Iv (∃ y:Iv,y.ix/\il 321 [iA x,iP (p:Int)] (iA y)) (Classical.propDecidable _) Classical.choose λ_=>iw
def aiH(p:Nat):(F1 x p).ix:=by
 unfold F1;split
 .rename_i h;exact(dk h).1
 .exact ln
def aiG(hx:x.ix)(p:Nat)(iC:8<=p)(iu:p<=512)(hF:yH):il 321 [iA x,iP (p:Int)]<|iA<|F1 x p:=by
 have h:∃ y:Iv,y.ix/\il 321 [iA x,iP (p:Int)] (iA y):=(hF x p hx iC iu).2.2.2.2;unfold F1;rw[dif_pos h];exact(dk h).2
end
def O8(o:jv):Bool:=decide (o.kind<=6)
noncomputable def nC(o:jv)(x y:Iv)(p:Nat):Iv:=
 if o.kind=3 then kO x y p else if o.kind=4 then nn x y p else if o.kind=5 then kf x y p else if o.kind=6 then lv x y p
 else if o.kind=7 then tu x else if o.kind=8 then rE x o.n p else if o.kind=9 then FZ x p else if o.kind=10 then F0 x p
 else if o.kind=11 then Al x p else if o.kind=12 then Bt x p else if o.kind=13 then F1 x p else iw
noncomputable def Ae(o:jv)(l:List Iv)(p:Nat):Iv:=if o.kind=1 then uL o.cn o.cd p else nC o (l.getD o.a iw) (if O8 o then l.getD o.b iw else iw) p
noncomputable def jH(iq:List jv)(xs:List Iv)(p:Nat):Nat->List Iv
 | 0=>xs
 |k+1=>jH iq xs p k++[Ae (iq.getD k iU) (jH iq xs p k) p]
noncomputable def kH(t:je)(xs:List Iv)(p:Nat):List Iv:=t.iz.map λk=>(jH t.iq xs p t.iq.length).getD k iw
def Hs(iq:List jv)(xs:List Iv)(p:Nat):∀ k,(jH iq xs p k).length=xs.length+k
 | 0=>rfl
 |k+1=>by simp only[jH,cz,Hs iq xs p k,cS,eC];omega
def aee(o:jv){x y:Iv}(hx:x.ix)(hy:y.ix){p:Nat}(hp:1<=p)(iu:p<=4096):(nC o x y p).ix:=by
 unfold nC;split
 .exact pN hx hy hp iu
 split
 .exact pN hx (xr hy) hp iu
 split
 .exact pI _ _ hp iu
 split
 .exact vJ _ _ hp iu
 split
 .exact xr hx
 split
 .exact abr hx _ hp iu
 split
 .exact aiD _ _
 split
 .exact aiF _ _
 split
 .exact Wx _ _
 split
 .exact Wv _ _
 split
 .exact aiH _ _
 .exact ln
def aef(o:jv){l:List Iv}(hl:mS l){p:Nat}(hp:1<=p)(iu:p<=4096):(Ae o l p).ix:=by
 unfold Ae;split
 .exact aqf _ _ hp iu
 .exact aee o (hl _) (by split;exact hl _;exact ln) hp iu
def Ht(iq:List jv){xs:List Iv}(h:mS xs){p:Nat}(hp:1<=p)(iu:p<=4096):∀ k,mS (jH iq xs p k)
 | 0=>h
 |k+1=>(Ht iq h hp iu k).push<|aef _ (Ht iq h hp iu k) hp iu
def F3(t:je){xs:List Iv}(h:mS xs){p:Nat}(hp:1<=p)(iu:p<=4096):mS<|kH t xs p:=λi=>by
 unfold kH;rw[bt,cC];cases t.iz[i]? with
 |none=>exact ln
 |some k=>exact Ht t.iq h hp iu _ _
def yX(t:je)(xs:List Iv)(p:Nat):(kH t xs p).length=t.iz.length:=by simp[kH]
noncomputable def rM(o:jv)(v a b da db:Iv)(p:Nat):Iv:=
 if o.kind=1 then jj 0 else if o.kind=3 then kO da db p else if o.kind=4 then nn da db p else if o.kind=5 then kO (kf da b p) (kf a db p) p
 else if o.kind=6 then lv (nn da (kf v db p) p) b p else if o.kind=7 then tu da
 else if o.kind=8 then(if o.n=0 then kf (jj 0) da p else kf (kf (jj (o.n:Int)) (rE a (o.n-1) p) p) da p)
 else if o.kind=9 then kf v da p else if o.kind=10 then lv da a p
 else if o.kind=11 then kf (Bt a p) da p else if o.kind=12 then tu (kf (Al a p) da p)else if o.kind=13 then lv da (nd v 1) p else iw
noncomputable def xK(o:jv)(v:Iv)(l c:List Iv)(p:Nat):Iv:=
 if v.all then iw else rM o v (l.getD o.a iw) (l.getD o.b iw) (c.getD o.a iw) (c.getD o.b iw) p
def pK(n i:Nat):Nat->List Iv
 | 0=>[]
 |k+1=>pK n i k++[if k=i then jj 1 else jj 0]
noncomputable def kB(t:je)(l:List Iv)(i p:Nat):Nat->List Iv
 | 0=>pK t.iI i t.iI
 |k+1=>kB t l i p k++[xK (t.iq.getD k iU) (l.getD (t.iI+k) iw) l (kB t l i p k) p]
noncomputable def oD(t:je)(xs:List Iv)(p q i:Nat):Iv:=(kB t (jH t.iq xs p t.iq.length) i p t.iq.length).getD (t.iz.getD q 0) iw
def lH(n:Nat)(F:Nat->Nat->Iv)(i k:Nat):List<|List Iv:=(List.range n).map λq=>(List.range<|if q<k then i+1 else i).map<|F q
noncomputable def mD(t:je)(xs:List Iv)(p m:Nat):List<|List Iv:=lH t.iz.length (oD t xs p) m 0
def Sf{n:Nat}(h:n<4294967296):(jj (n:Int)).ix:=tz<|EL n h
def Sg:(jj 0).ix:=Sf (n:=0) aE 
def anz:(jj 1).ix:=Sf (n:=1) aE 
def xh{c:Prop}[Decidable c]{x y:Iv}(hx:x.ix)(hy:y.ix):(if c then x else y).ix:=by
 by_cases h:c
 .rwa [bk h]
 .rwa [bj h]
def agJ(o:jv){v a b da db:Iv}(hv:v.ix)(hd:da.ix)(he:db.ix){p:Nat}(hp:1<=p)(iu:p<=4096):(rM o v a b da db p).ix:=by
 unfold rM;exact xh Sg<|xh (pN hd he hp iu)<|xh (pN hd (xr he) hp iu)<|xh (pN (pI _ _ hp iu) (pI _ _ hp iu) hp iu) <|
  xh (vJ _ _ hp iu)<|xh (xr hd)<|xh (xh (pI _ _ hp iu)<|pI _ _ hp iu)<|xh (pI _ _ hp iu)<|xh (vJ _ _ hp iu) <|
  xh (pI _ _ hp iu)<|xh (xr<|pI _ _ hp iu)<|xh (vJ _ _ hp iu) ln
def Ty(n i:Nat):∀ k,(pK n i k).length=k
 | 0=>rfl
 |k+1=>by simp only[pK,cz,Ty n i k,cS,eC]
def adn(n i:Nat):∀ k,mS (pK n i k)
 | 0=>λ_=>ln
 |k+1=>(adn n i k).push<|by split;exact anz;exact Sg
def Ps(t:je)(l:List Iv)(i p:Nat):∀ k,(kB t l i p k).length=t.iI+k
 | 0=>Ty _ _ _
 |k+1=>by simp only[kB,cz,Ps t l i p k,cS,eC];omega
def agK(o:jv){v:Iv}(hv:v.ix){l c:List Iv}(hc:mS c){p:Nat}(hp:1<=p)(iu:p<=4096):(xK o v l c p).ix:=by
 unfold xK;split
 .exact ln
 .exact agJ o hv (hc _) (hc _) hp iu
def Lz(t:je){l:List Iv}(hl:mS l)(i:Nat){p:Nat}(hp:1<=p)(iu:p<=4096):∀ k,mS (kB t l i p k)
 | 0=>adn _ _ _
 |k+1=>(Lz t hl i hp iu k).push<|agK _ (hl _) (Lz t hl i hp iu k) hp iu
def RF(t:je){xs:List Iv}(h:mS xs){p:Nat}(hp:1<=p)(iu:p<=4096)(q i:Nat):(oD t xs p q i).ix:=Lz t (Ht t.iq h hp iu _) i hp iu _ _
def acJ(n:Nat)(F:Nat->Nat->Iv)(i k:Nat):(lH n F i k).length=n:=by simp[lH]
def Hh{n:Nat}{F:Nat->Nat->Iv}{i k q:Nat}(h:q<n):(lH n F i k).getD q []=(List.range<|if q<k then i+1 else i).map (F q):=by
 simp[lH,bt,h]
def aq3(n:Nat)(F:Nat->Nat->Iv)(i:Nat):lH n F i n=lH n F (i+1) 0:=by
 unfold lH;apply dQ;intro q hq;rw[bk<|bN.1 hq,bj<|bC _]
def aq4{T1 T0 n n':Nat}{F:Nat->Nat->Iv}(hn:n=n'):Bx.le (.iM true T1 T0 n 7 (λ_=>0) (λ_ _ _=>.any) .none)<|.iM true T1 T0 n' 7 (jJ<|lH n' F 0 0) (kK<|lH n' F 0 0) .none:=by
 subst hn;refine .iM rfl (λk hk=>?_) (λk i j hk hi hj=>absurd hi<|bC i);show 0=((lH n F 0 0).getD k []).length;rw[Hh hk];simp
def aq6{T1 T0 n n' m x k:Nat}{F:Nat->Nat->Iv}{y:Iv}(hn:n=n')(hm:m=n)(hx:k<n)(hy:y=F k x):
 Bx.le (.iM true T1 T0 n 7 (λq=>if q=k then jJ (lH m F x k) q+[y].length else jJ (lH m F x k) q)
  (λq i j=>if q=k then(if i<jJ (lH m F x k) q then kK (lH m F x k) q i j else(E.ky<|iG [y]) (i-jJ (lH m F x k) q) j)else kK (lH m F x k) q i j) .none)
  (.iM true T1 T0 n' 7 (jJ<|lH m F x<|k+1) (kK<|lH m F x<|k+1) .none):=by
 subst hn hm hy;have hl:∀ q,q<m->(if q=k then jJ (lH m F x k) q+[F k x].length else jJ (lH m F x k) q)=jJ (lH m F x<|k+1) q:=by
  intro q hq;simp only[jJ,Hh hq,cG,dV,cS,eC];by_cases h1:q=k
  .subst h1;simp
  .rw [bj h1];by_cases h2:q<k
   .rw [bk h2,bk aC]
   .rw [bj h2,bj aC]
 refine .iM rfl hl (λq i j hq hi hj=>⟨.jq ?_,AF _ _ hj⟩);have lg:=hi;rw[hl q hq]at lg;simp only[jJ,Hh hq,cG,dV]at lg;simp only[jJ,kK,Hh hq,cG,dV];rw[tC lg];by_cases h1:q=k
 .subst h1;rw[bk rfl,bj<|atT q];rw[bk<|gK q]at lg;by_cases h2:i<x
  .rw [bk h2,tC h2]
  .have:i=x:= aC ;subst this;rw[bj h2,dg];rfl
 .rw [bj h1];have e:(if q<k then x+1 else x)=if q<k+1 then x+1 else x:=by
   by_cases h2:q<k
   .rw [bk h2,bk aC]
   .rw [bj h2,bj aC]
  rw[e,tC lg]
def aq5{T1 T0 n n' m x:Nat}{F:Nat->Nat->Iv}(hn:n=n'):Bx.le (.iM true T1 T0 n 7 (jJ<|lH m F x m) (kK<|lH m F x m) .none)<|.iM true T1 T0 n' 7 (jJ<|lH m F (x+1) 0) (kK<|lH m F (x+1) 0) .none:=by
 subst hn;rw[aq3];exact .refl _
def mO(r:List Iv)(i p:Nat):Nat->Dy
 | 0=>iY
 |k+1=>if k=i then mO r i p k else jd (jc (mO r i p k)<|mq<|r.getD k iw) p true
section
variable(r:List Iv)
def xt(i p k:Nat):Bool:=decide (k=i)||decide (jI (jc (mO r i p k)<|mq<|r.getD k iw) p true=0)
def SJ(i p:Nat):Bool:=(List.range r.length).all<|xt r i p
def qm(i p:Nat):Iv:=
 if SJ r i p then
  if jI (jc (r.getD i iw).lo<|ki<|mO r i p r.length) p false=0/\jI (jc (r.getD i iw).hi<|mO r i p r.length) p true=0 then
   ⟨jd (jc (r.getD i iw).lo<|ki<|mO r i p r.length) p false,jd (jc (r.getD i iw).hi<|mO r i p r.length) p true,false⟩
  else iw
 else iw
def Np(i p k:Nat):mO r i p (k+1)=if k=i then mO r i p k else jd (jc (mO r i p k)<|mq<|r.getD k iw) p true:=rfl
end
def Kl(r:List Iv)(i:Nat){p:Nat}(hp:1<=p)(iu:p<=4096):∀ k,(mO r i p k).ix
 | 0=>ph
 |k+1=>by
  unfold mO;split
  .exact Kl r i hp iu k
  .exact rF _ hp iu _
def agW(r:List Iv)(i:Nat){p:Nat}(hp:1<=p)(iu:p<=4096):(qm r i p).lo.ix/\(qm r i p).hi.ix:=by
 unfold qm;split
 .split
  .exact ⟨rF _ hp iu _,rF _ hp iu _⟩
  .exact ⟨ph,ph⟩
 .exact ⟨ph,ph⟩
def wK(m:List<|List Iv)(p:Nat):List Iv:=(List.range m.length).map λi=>qm (m.getD i []) i p
def zV(m:List<|List Iv)(p:Nat):Nat->Iv
 | 0=>(m.getD 0 []).getD 0 iw
 |k+1=>kO (zV m p k) ((m.getD (k+1) []).getD (k+1) iw) p
def um(m:List<|List Iv):Bool:=(List.range m.length).any λi=>ni<|m.getD i []
def Ft:List<|Int×FuncId×List FuncId:=[(1,322,[]),(3,323,[73]),(4,324,[163]),
 (7,325,[]),(5,326,[73,68]),(6,327,[99,163,68]),
 (8,328,[68]),(9,329,[68]),(10,330,[99]),
 (11,331,[68]),(12,332,[68]),(13,333,[99])]
def s6(w:World)(b:Nat)(l:List MapEntry):World:={ w with heap:=w.heap.setIfInBounds b<|.map l.toArray l.length }
def abo{w:World}{b:Nat}(h:b<w.heap.size)(l:List MapEntry):(s6 w b l).heap[b]? = some (.map l.toArray l.length):=by simp[s6,h]
def abp{w:World}{b x:Nat}(h:x≠b)(l:List MapEntry):(s6 w b l).heap[x]? = w.heap[x]?:=by simp[s6,Ne.symm h]
def SD(w:World)(b:Nat)(l:List MapEntry):(s6 w b l).heap.size=w.heap.size:=by simp[s6]
def asD{P:Program}{w:World}{iq:Array Oper}{rest:List Oper}{o:Oper}{a:Act}{Q:Exit->Act->World->Prop}(hg:o.guard=none)(t:TypeId)(iK:o.op = .makeMap t none)
 (h:wpList P iq Q rest (a.put o.dst<|.map<|some w.heap.size)<|s6 (w.alloc<|.map #[] 0) w.heap.size []):wpList P iq Q (o::rest) a w:=by
 refine wpList_plain hg λK hK=>?_
 have e:s6 (w.alloc<|.map #[] 0) w.heap.size []=w.alloc (.map #[] 0):=by
  unfold s6;have:(w.alloc<|.map #[] 0).heap.setIfInBounds w.heap.size (.map ([]:List MapEntry).toArray ([]:List MapEntry).length)=(w.alloc<|.map #[] 0).heap:=by
   apply Array.ext_getElem?;intro i;rw[at3];split
   .rename_i hi;subst hi;rw[heap_alloc_new];simp
   .rfl
  rw[this]
 rw[e]at h;have hr:(Instr.makeMap t none).run P w = .ok (.map<|some w.heap.size) (w.alloc<|.map #[] 0):=by simp[Instr.makeMap]
 unfold Oper.wp;simp[execOp,iK,hr,Result.andThen];exact hK _ _ h
def yG{w:World}{iq:Array Oper}{rest:List Oper}{o:Oper}{a:Act}{Q:Exit->Act->World->Prop}(hg:o.guard=none)(t:TypeId)(m k x:Operand)(iK:o.op = .insert t m k x)
 (ti tk:TI) (kt et:TypeId) (nx:mA TT t=some ti) (hd:ti.d = .map kt et) (su:mA TT kt=some tk) (hdk:tk.d = .int .i64) (b:Nat) (l:List MapEntry) (z:Int) (v:Value) (hb:b<w.heap.size)
 (hm:a.eval m = .map (some b)) (hz:a.eval k = .int .i64 z) (hv:a.eval x=v) (hn:Instr.findNow (.int .i64) (.int .i64 z) l 0=some none)
 (h:wpList prog iq Q rest (a.put o.dst undef)<|s6 w b<|l++[⟨.int .i64 z,v,l.length⟩]):wpList prog iq Q (o::rest) a<|s6 w b l:=by
 have hu:prog.underlying t=some (.map kt et):=by rw[Bj.rj nx,hd]
 have hk:prog.underlying kt=some (.int .i64):=by rw[Bj.rj su,hdk]
 refine wpList_plain hg λK hK=>?_
 have hh:=abo hb l;have h1:(Instr.mapUpdate t (.map<|some b) (.int .i64 z) v).run prog (s6 w b l) = .ok () (s6 w b<|l++[⟨.int .i64 z,v,l.length⟩]):=by
  have e2:{ s6 w b l with heap:=(s6 w b l).heap.setIfInBounds b<|.map (l.toArray.push ⟨.int .i64 z,v,l.length⟩)<|l.length+1 }=s6 w b (l++[⟨.int .i64 z,v,l.length⟩]):=by
   simp[s6]
  rw[<-e2];simp[Instr.mapUpdate,run_underlying hu,MapKept.run_getObj_map hh,MapKept.run_checkKey hk (k:=.int .i64 z) (by simp[MapKept.IsKey]) false 9999,MapKept.run_findKey hk hn,MapKept.run_setObj_map _ hh,Result.andThen]
 unfold Oper.wp;simp[execOp,iK,hm,hz,hv,h1,Result.andThen];exact hK _ _ h
def aoC(cs:Array Value):Obj->Obj
 | .cells _ elem frozen=>.cells cs elem frozen
 |o=>o
def pv(w:World)(o:Obj):(w.alloc o).heap=w.heap.push o:=rfl
def As(w:World)(g:Nat)(cs:Array Value):(w.setRow g cs).heap=w.heap.modify g (aoC cs):=by
 unfold World.setRow;congr 1
def oJ(a:Act)(v:Value):a.put none v=a:=rfl
section
variable(a:Act)(d:Option Tmp)(v:Value)
def oq:(a.put d v).tmps.size=a.tmps.size:=by cases d<;>simp[Act.put]
def aoD:(a.put d v).defers=a.defers:=by cases d<;>rfl
end
def od{a:Act}{d:Tmp}{v:Value}(h:d<a.tmps.size):(a.put (some d) v).eval (.tmp d)=v:=by
 show(a.tmps.setIfInBounds d v).getD d undef=v;simp[h]
def oA{a:Act}{d t:Tmp}{v:Value}(h:¬d=t):(a.put (some d) v).eval (.tmp t)=a.eval (.tmp t):=by
 show(a.tmps.setIfInBounds d v).getD t undef=a.tmps.getD t undef;simp[gE h]
section
variable(bs:Nat->Prop)(w:World)
def Oz(g:FuncId)(v:Value):Prop:=∃ b,v = .pointer (some ⟨b,0,none⟩)/\¬bs b/\b<w.heap.size/\w.cell? ⟨b,0,none⟩=some (.func (.func g) #[] #[])
def OB(gs:List FuncId)(vs:List Value):Prop:=∀ (i:Nat) (g:FuncId) (v:Value),gs[i]? = some g->vs[i]? = some v->Oz bs w g v
end
section
variable{bs:Nat->Prop}{w:World}
def xJ{vs:List Value}:OB bs w [] vs:=λi g v h=>by simp at h
def wI{g:FuncId}{v:Value}{gs:List FuncId}{vs:List Value}(h:Oz bs w g v)(k:OB bs w gs vs):OB bs w (g::gs)<|v::vs:=λi g' v' hg hv=>by
 cases i with
 |zero=>simp at hg hv;subst hg hv;exact h
 |succ i=>exact k i g' v' (by simpa using hg)<|by simpa using hv
end
section
variable{w:World}{iq:Array Oper}{rest:List Oper}{o:Oper}{a:Act}{Q:Exit->Act->World->Prop}(hg:o.guard=none)(t:TypeId)
def Oq(x y:Operand)(iK:o.op = .store t x y)(ti:TI)(nx:mA TT t=some ti)(h1:ti.i.size=1)
 (b:Nat) (v c:Value) (E:TypeId) (hx:a.eval x = .pointer (some ⟨b,0,none⟩)) (hy:a.eval y=v) (hv:v.cells = #[v]) (ho:v.oneCell'=true) (hb:w.heap[b]? = some (.cells #[c] E (0,0)))
 (h:wpList prog iq Q rest (a.put o.dst undef)<|w.setRow b #[v]):wpList prog iq Q (o::rest) a w:=by
 refine wpList_plain hg λK hK=>?_
 have hr:=Ck Bj w nx b 0 E #[c] hb v (by rw[hv,h1];rfl) (by rw[hv];exact bw _) (by rw[hv];intro u hu;simp at hu;subst hu;exact ho);rw[hv]at hr;have e:((#[c]:Array Value).toList.take 0++(#[v]:Array Value).toList++(#[c]:Array Value).toList.drop (0+(#[v]:Array Value).toList.length)).toArray = #[v]:=rfl;rw[e]at hr;unfold Oper.wp;simp[execOp,iK,hx,hy,Instr.storeAt,Instr.sureAddr,hr,Result.andThen];exact hK _ _ h
def Oo(iK:o.op = .alloc t)(ti:TI)(nx:mA TT t=some ti)(z:Value)(hz:ti.i.zero=some z)(cs:Array Value)(hc:z.cells=cs)
 (h:wpList prog iq Q rest (a.put o.dst<|.pointer<|some ⟨w.heap.size,0,none⟩)<|w.alloc<|.cells cs t):wpList prog iq Q (o::rest) a w:=by
 refine wpList_plain hg λK hK=>?_
 subst hc;have hr:=NO Bj w nx hz;unfold Oper.wp;simp[execOp,iK,Instr.alloc,hr,newRow,run_newObj_alloc,Result.andThen];exact hK _ _ h
end
section
variable{P:Program}{w:World}{iq:Array Oper}{rest:List Oper}{o:Oper}{a:Act}{Q:Exit->Act->World->Prop}(hg:o.guard=none)
def wp_move(x:Operand)(iK:o.op = .move x\/o.op = .assign x)(v:Value)(hx:a.eval x=v)
 (h:wpList P iq Q rest (a.put o.dst v) w):wpList P iq Q (o::rest) a w:=by
 refine wpList_plain hg λK hK=>?_
 unfold Oper.wp;rcases iK with iK|iK
 .simp [execOp,iK,hx,Result.andThen];exact hK _ _ h
 .simp [execOp,iK,hx,Result.andThen];exact hK _ _ h
def Bb(f:FuncId)(cs:Array Operand)(iK:o.op = .makeFunc (.func f) #[] cs)(vs:Array Value)(hv:cs.map a.eval=vs)
 (h:wpList P iq Q rest (a.put o.dst<|.func (.func f) #[] vs) w):wpList P iq Q (o::rest) a w:=by
 refine wpList_plain hg λK hK=>?_
 unfold Oper.wp;simp[execOp,iK,Instr.makeFunc,hv,Result.andThen];exact hK _ _ h
end
set_option maxRecDepth 100000 in
def aqv:il 277 []<|.mp Ft:=by
 refine⟨call277,λw B vs hK hB hr=>?_⟩;obtain rfl:=hr.sK;show Calls _ _ #[] w _;clear hr hK;go_enter func277,ntmps277;refine wp_seq<|wp_region_list ?_;refine wp_move aG _ (.inr aG) _ aG<|wpList_nil ?_;refine wp_seq<|wp_region_list ?_;refine Oo aG _ aG _ aG _ aG #[.nilFunc] aG ?_;refine Oo aG _ aG _ aG _ aG #[.nilFunc] aG ?_;refine Oo aG _ aG _ aG _ aG #[.nilFunc] aG ?_;refine Oo aG _ aG _ aG _ aG #[.nilFunc] aG ?_;refine Oq aG _ _ _ aG _ aG aG _ (.func (.func 68) #[] #[]) .nilFunc 104 aG aG aG aG (by(simp only[pv,As,dY,eI,dr,dZ];repeat (first|rw[bk trivial]|rw[bk aC]|rw[bj aC]))) ?_;refine Oq aG _ _ _ aG _ aG aG _ (.func (.func 99) #[] #[]) .nilFunc 104 aG aG aG aG (by(simp only[pv,As,dY,eI,dr,dZ];repeat (first|rw[bk trivial]|rw[bk aC]|rw[bj aC]))) ?_;refine Oq aG _ _ _ aG _ aG aG _ (.func (.func 73) #[] #[]) .nilFunc 104 aG aG aG aG (by(simp only[pv,As,dY,eI,dr,dZ];repeat (first|rw[bk trivial]|rw[bk aC]|rw[bj aC]))) ?_;refine Oq aG _ _ _ aG _ aG aG _ (.func (.func 163) #[] #[]) .nilFunc 104 aG aG aG aG (by(simp only[pv,As,dY,eI,dr,dZ];repeat (first|rw[bk trivial]|rw[bk aC]|rw[bj aC]))) ?_;refine wpList_nil ?_;generalize hW:World.setRow _ _ _=W;have s0:W.heap.size=w.heap.size+4:=by rw[<-hW];simp[pv,As]
 have so:W.os=w.os:=by rw[<-hW];rfl
 have st:W.tape=w.tape:=by rw[<-hW];rfl
 have sp:W.output=w.output:=by rw[<-hW];rfl
 have s1:∀ x,x<w.heap.size->W.heap[x]? = w.heap[x]?:=λx hx=>by
  rw[<-hW];simp only[pv,As,dY,eI,dr,dZ]
  repeat (first|rw[bk trivial]|rw[bk aC]|rw[bj aC])
 generalize ha:Act.put _ _ _=a;have e1:a.eval (.tmp 1) = .pointer (some ⟨w.heap.size,0,none⟩):=by rw[<-ha];rfl
 have e2:a.eval (.tmp 2) = .pointer (some ⟨w.heap.size+1,0,none⟩):=by rw[<-ha,show w.heap.size+1=(w.alloc<|.cells #[.nilFunc] 104).heap.size by simp[pv]];rfl
 have e3:a.eval (.tmp 3) = .pointer (some ⟨w.heap.size+2,0,none⟩):=by rw[<-ha,show w.heap.size+2=((w.alloc<|.cells #[.nilFunc] 104).alloc<|.cells #[.nilFunc] 104).heap.size by simp[pv]];rfl
 have e4:a.eval (.tmp 4) = .pointer (some ⟨w.heap.size+3,0,none⟩):=by rw[<-ha,show w.heap.size+3=(((w.alloc<|.cells #[.nilFunc] 104).alloc<|.cells #[.nilFunc] 104).alloc<|.cells #[.nilFunc] 104).heap.size by simp[pv]];rfl
 have sz:a.tmps.size=17:=by rw[<-ha];rfl
 have hd:a.defers=[]:=by rw[<-ha];rfl
 have c1:W.heap[w.heap.size]? = some (.cells #[.func (.func 68) #[] #[]] 104 (0,0)):=by
  rw[<-hW];simp only[pv,As,dY,eI,dr,dZ]
  repeat (first|rw[bk trivial]|rw[bk aC]|rw[bj aC])
  rfl
 have c2:W.heap[w.heap.size+1]? = some (.cells #[.func (.func 99) #[] #[]] 104 (0,0)):=by
  rw[<-hW];simp only[pv,As,dY,eI,dr,dZ]
  repeat (first|rw[bk trivial]|rw[bk aC]|rw[bj aC])
  rfl
 have c3:W.heap[w.heap.size+2]? = some (.cells #[.func (.func 73) #[] #[]] 104 (0,0)):=by
  rw[<-hW];simp only[pv,As,dY,eI,dr,dZ]
  repeat (first|rw[bk trivial]|rw[bk aC]|rw[bj aC])
  rfl
 have c4:W.heap[w.heap.size+3]? = some (.cells #[.func (.func 163) #[] #[]] 104 (0,0)):=by
  rw[<-hW];simp only[pv,As,dY,eI,dr,dZ]
  repeat (first|rw[bk trivial]|rw[bk aC]|rw[bj aC])
  rfl
 clear hW ha;refine wp_seq<|wp_region_list ?_;refine asD aG _ aG ?_;refine yG aG _ _ _ _ aG _ _ _ _ aG aG aG aG _ _ _ (.func (.func 322) #[] #[]) (by simp[pv]) (by simp[oJ,oq,od,oA,e1,e2,e3,e4,sz]) aG aG aG ?_;refine Bb aG _ _ aG #[.pointer<|some ⟨w.heap.size+2,0,none⟩] (by simp[oJ,oq,od,oA,e1,e2,e3,e4,sz]) ?_;refine yG aG _ _ _ _ aG _ _ _ _ aG aG aG aG _ _ _ (.func (.func 323) #[] #[.pointer<|some ⟨w.heap.size+2,0,none⟩]) (by simp[pv]) (by simp[oJ,oq,od,oA,e1,e2,e3,e4,sz]) aG (by simp[oJ,oq,od,oA,e1,e2,e3,e4,sz]) aG ?_;refine Bb aG _ _ aG #[.pointer<|some ⟨w.heap.size+3,0,none⟩] (by simp[oJ,oq,od,oA,e1,e2,e3,e4,sz]) ?_;refine yG aG _ _ _ _ aG _ _ _ _ aG aG aG aG _ _ _ (.func (.func 324) #[] #[.pointer<|some ⟨w.heap.size+3,0,none⟩]) (by simp[pv]) (by simp[oJ,oq,od,oA,e1,e2,e3,e4,sz]) aG (by simp[oJ,oq,od,oA,e1,e2,e3,e4,sz]) aG ?_;refine yG aG _ _ _ _ aG _ _ _ _ aG aG aG aG _ _ _ (.func (.func 325) #[] #[]) (by simp[pv]) (by simp[oJ,oq,od,oA,e1,e2,e3,e4,sz]) aG aG aG ?_
 refine Bb aG _ _ aG #[.pointer<|some ⟨w.heap.size+2,0,none⟩,.pointer<|some ⟨w.heap.size,0,none⟩] (by simp[oJ,oq,od,oA,e1,e2,e3,e4,sz]) ?_;refine yG aG _ _ _ _ aG _ _ _ _ aG aG aG aG _ _ _ (.func (.func 326) #[] #[.pointer<|some ⟨w.heap.size+2,0,none⟩,.pointer<|some ⟨w.heap.size,0,none⟩]) (by simp[pv]) (by simp[oJ,oq,od,oA,e1,e2,e3,e4,sz]) aG (by simp[oJ,oq,od,oA,e1,e2,e3,e4,sz]) aG ?_;refine Bb aG _ _ aG #[.pointer<|some ⟨w.heap.size+1,0,none⟩,.pointer<|some ⟨w.heap.size+3,0,none⟩,.pointer<|some ⟨w.heap.size,0,none⟩] (by simp[oJ,oq,od,oA,e1,e2,e3,e4,sz]) ?_;refine yG aG _ _ _ _ aG _ _ _ _ aG aG aG aG _ _ _ (.func (.func 327) #[] #[.pointer<|some ⟨w.heap.size+1,0,none⟩,.pointer<|some ⟨w.heap.size+3,0,none⟩,.pointer<|some ⟨w.heap.size,0,none⟩]) (by simp[pv]) (by simp[oJ,oq,od,oA,e1,e2,e3,e4,sz]) aG (by simp[oJ,oq,od,oA,e1,e2,e3,e4,sz]) aG ?_;refine Bb aG _ _ aG #[.pointer<|some ⟨w.heap.size,0,none⟩] (by simp[oJ,oq,od,oA,e1,e2,e3,e4,sz]) ?_
 refine yG aG _ _ _ _ aG _ _ _ _ aG aG aG aG _ _ _ (.func (.func 328) #[] #[.pointer<|some ⟨w.heap.size,0,none⟩]) (by simp[pv]) (by simp[oJ,oq,od,oA,e1,e2,e3,e4,sz]) aG (by simp[oJ,oq,od,oA,e1,e2,e3,e4,sz]) aG ?_;refine Bb aG _ _ aG #[.pointer<|some ⟨w.heap.size,0,none⟩] (by simp[oJ,oq,od,oA,e1,e2,e3,e4,sz]) ?_;refine yG aG _ _ _ _ aG _ _ _ _ aG aG aG aG _ _ _ (.func (.func 329) #[] #[.pointer<|some ⟨w.heap.size,0,none⟩]) (by simp[pv]) (by simp[oJ,oq,od,oA,e1,e2,e3,e4,sz]) aG (by simp[oJ,oq,od,oA,e1,e2,e3,e4,sz]) aG ?_;refine Bb aG _ _ aG #[.pointer<|some ⟨w.heap.size+1,0,none⟩] (by simp[oJ,oq,od,oA,e1,e2,e3,e4,sz]) ?_;refine yG aG _ _ _ _ aG _ _ _ _ aG aG aG aG _ _ _ (.func (.func 330) #[] #[.pointer<|some ⟨w.heap.size+1,0,none⟩]) (by simp[pv]) (by simp[oJ,oq,od,oA,e1,e2,e3,e4,sz]) aG (by simp[oJ,oq,od,oA,e1,e2,e3,e4,sz]) aG ?_;refine Bb aG _ _ aG #[.pointer<|some ⟨w.heap.size,0,none⟩] (by simp[oJ,oq,od,oA,e1,e2,e3,e4,sz]) ?_
 refine yG aG _ _ _ _ aG _ _ _ _ aG aG aG aG _ _ _ (.func (.func 331) #[] #[.pointer<|some ⟨w.heap.size,0,none⟩]) (by simp[pv]) (by simp[oJ,oq,od,oA,e1,e2,e3,e4,sz]) aG (by simp[oJ,oq,od,oA,e1,e2,e3,e4,sz]) aG ?_;refine Bb aG _ _ aG #[.pointer<|some ⟨w.heap.size,0,none⟩] (by simp[oJ,oq,od,oA,e1,e2,e3,e4,sz]) ?_;refine yG aG _ _ _ _ aG _ _ _ _ aG aG aG aG _ _ _ (.func (.func 332) #[] #[.pointer<|some ⟨w.heap.size,0,none⟩]) (by simp[pv]) (by simp[oJ,oq,od,oA,e1,e2,e3,e4,sz]) aG (by simp[oJ,oq,od,oA,e1,e2,e3,e4,sz]) aG ?_;refine Bb aG _ _ aG #[.pointer<|some ⟨w.heap.size+1,0,none⟩] (by simp[oJ,oq,od,oA,e1,e2,e3,e4,sz]) ?_;refine yG aG _ _ _ _ aG _ _ _ _ aG aG aG aG _ _ _ (.func (.func 333) #[] #[.pointer<|some ⟨w.heap.size+1,0,none⟩]) (by simp[pv]) (by simp[oJ,oq,od,oA,e1,e2,e3,e4,sz]) aG (by simp[oJ,oq,od,oA,e1,e2,e3,e4,sz]) aG ?_;refine wp_move aG _ (.inl aG) (.map<|some W.heap.size) (by simp[oJ,oq,od,oA,sz]) ?_;refine wp_move aG _ (.inr aG) (.map<|some W.heap.size) (by simp[oJ,oq,od,oA,sz])<|wpList_nil ?_;refine wp_ret ?_;generalize hz:Act.put _ _ _=z;have z0:z.eval (.tmp 0) = .map (some W.heap.size):=by rw[<-hz];exact od<|by simp[oq,sz]
 have zd:z.defers=[]:=by rw[<-hz];simp only[aoD,hd]
 clear hz;refine⟨zd,.map<|some W.heap.size,?_,_,rfl,?_,?_⟩
 .rw [<-z0];unfold results;rw[show f277.results = #[.tmp 0]from rfl];simp;show _=z.tmps.getD 0 undef;simp
 .refine ⟨so,st,sp,by simp[SD,pv];omega,λx hx=>?_⟩;rw[abp aC,pv,dZ,bj aC,s1 x hx]
 .have bx:∀ (k:Nat) (g:FuncId),k<4->W.heap[w.heap.size+k]? = some (.cells #[.func (.func g) #[] #[]] 104 (0,0))->∀ L,Oz B (s6 (W.alloc<|.map #[] 0) W.heap.size L) g (.pointer<|some ⟨w.heap.size+k,0,none⟩):=λk g hk hc L=>by
   refine⟨_,rfl,λh=>?_,?_,?_⟩
   .have:=(hB _ h).1;omega
   .simp [SD,pv];omega
   .have e:(s6 (W.alloc<|.map #[] 0) W.heap.size L).heap[w.heap.size+k]? = some (.cells #[.func (.func g) #[] #[]] 104 (0,0)):=by
     rw[abp aC,pv,dZ,bj aC,hc]
    simp[World.cell?,e]
  have b1:=bx 0 _ aE c1;have b2:=bx 1 _ aE c2;have b3:=bx 2 _ aE c3;have b4:=bx 3 _ aE c4;refine .mp _ _ _ _ (λh=>?_) (by simp[SD,pv]) (abo (by simp[pv]) _) ?_
  .have:=(hB _ h).1;omega
  .exact ⟨⟨rfl,_,rfl,rfl,xJ⟩,⟨⟨rfl,_,rfl,rfl,wI (b3 _) xJ⟩,⟨⟨rfl,_,rfl,rfl,wI (b4 _) xJ⟩,⟨⟨rfl,_,rfl,rfl,xJ⟩,⟨⟨rfl,_,rfl,rfl,wI (b3 _)<|wI (b1 _) xJ⟩,⟨⟨rfl,_,rfl,rfl,wI (b2 _)<|wI (b4 _)<|wI (b1 _) xJ⟩,⟨⟨rfl,_,rfl,rfl,wI (b1 _) xJ⟩,⟨⟨rfl,_,rfl,rfl,wI (b1 _) xJ⟩,⟨⟨rfl,_,rfl,rfl,wI (b2 _) xJ⟩,⟨⟨rfl,_,rfl,rfl,wI (b1 _) xJ⟩,⟨⟨rfl,_,rfl,rfl,wI (b1 _) xJ⟩,⟨⟨rfl,_,rfl,rfl,wI (b2 _) xJ⟩,trivial⟩⟩⟩⟩⟩⟩⟩⟩⟩⟩⟩⟩
section
variable(a b:List Iv)(g:FuncId)(cap:List E)
def Us(i:Nat):PS:=⟨32,false,[(17,.e<|iP i),(16,.e<|iP a.length),(15,.e<|iG a),(1,.e<|iG b),(2,.e<|.fn g cap)],[]⟩
def Ur(N:Nat)(i:Nat):PS:=⟨32,false,[(17,.e<|iP i),(16,.e<|iP a.length),(15,.e<|iG a),(1,.e<|iG b),(2,.e<|.fn g cap)],[]⟩
end
def afp(x:Iv)(hx:x.ix)(xa:x.all=false):il 238 [iA x]<|bP false:=
 iE (af [ai 4 x.all xa,.c<|qG x aD])
def Im(b:List Iv)(h1:1<=b.length)(h8:b.length<=8)(hb:oW b):il 185 [iG b]<|bP true:=
 iE (af [tT 5 (1<=(b.length:Int)) aC,tT 9 ((b.length:Int)<=8) aC,.c (AG true _ _ 238 [] (λ_=>false) (λi hi=>afp _ (hb i hi).1 (hb i hi).2) aC λ_ _=>rfl:il 39 [iG b,.fn 238 []] _)])
def Ll(a b:List Iv)(a1:1<=a.length)(a8:a.length<=8)(hl:b.length=a.length)(ha:oW a)(hb:oW b):il 189 [iG a,iG b]<|bP true:=
 iE (af [ag [iG a]<|Im _ aC aC aD,ag [iG b]<|Im _ aC aC aD,ah 16 ((a.length:Int)==b.length)<|GO aC])
section
variable(a b:List Iv)(g:FuncId)(cap:List E)(f:Nat->Bool)(hl:b.length=a.length)(h8:a.length<=1000)(hp:∀ i,i<a.length->il g ((iA<|a.getD i iw)::(iA<|b.getD i iw)::cap) (bP<|f i))
def aet(ji:∀ i,i<a.length->f i=true):il 32 [iG a,iG b,.fn g cap]<|bP true:=
 pA (af [ai 14 ((a.length:Int) != (b.length:Int))<|s5,.s (Sp.jP (Us a b g cap) 0 a.length aC (λi hi mW=>by
    exact iS (af [tT 18 ((i:Int)<a.length) aC,iX (i:Int)<|a.length,iX (i:Int)<|b.length,.c (hp i aC:il g ((iA<|a.getD i iw)::(iA<|b.getD i iw)::cap) _),ah 29 (f i)<|ji i aC,iL<|(i:Int)+1]) aF)
  (λhi=>by
    exact iS (af [tF 18 ((a.length:Int)<a.length) aC]) aF) aI:jM 4 Tryz.f32 (Us a b g cap 0) (.exit 0) ⟨32,false,[],[]⟩) .nil])
def aes(N:Nat)(qd:N<a.length)(ji:∀ i,i<N->f i=true)(hN:f N=false):il 32 [iG a,iG b,.fn g cap]<|bP false:=
 pA (af [ai 14 ((a.length:Int) != (b.length:Int))<|s5,.s (Sp.jP (Ur a b g cap N) 0 N aC (λi hi mW=>by
    exact iS (af [tT 18 ((i:Int)<a.length) aC,iX (i:Int)<|a.length,iX (i:Int)<|b.length,.c (hp i aC:il g ((iA<|a.getD i iw)::(iA<|b.getD i iw)::cap) _),ah 29 (f i)<|ji i aC,iL<|(i:Int)+1]) aF)
  (λhi=>by
    exact iS (af [tT 18 ((N:Int)<a.length) aC,iX (N:Int)<|a.length,iX (N:Int)<|b.length,.c (hp N aC:il g ((iA<|a.getD N iw)::(iA<|b.getD N iw)::cap) _),ai 29 (f N) hN]) aF) aI:jM 4 Tryz.f32 (Ur a b g cap N 0) .ret ⟨32,false,[(6,.e<|bP false)],[]⟩) .nil])
def OY:il 32 [iG a,iG b,.fn g cap]<|bP<|(List.range a.length).all f:=by
 by_cases h:∃ i,i<a.length/\(!(f i))=true
 .obtain ⟨N,h1,h2,h3⟩:=sx (p:=λi=>!(f i)) h;refine(aes a b g cap f hl h8 hp N h1 (λi hi=>by simpa using h3 i hi)<|by simpa using h2).jk<|.jq ?_;rw[show(List.range a.length).all f=false from at0.2 ⟨N,bN.2 h1,by simpa using h2⟩]
 .have hh:∀ i,i<a.length->f i=true:=λi hi=>by
   cases hf:f i
   .exact absurd ⟨i,hi,by rw[hf];rfl⟩ h
   .rfl
  refine(aet a b g cap f hl h8 hp hh).jk<|.jq ?_;rw[show(List.range a.length).all f=true from bO.2 λi hi=>hh i<|bN.1 hi]
end
def UQ(p:Int):il 191 [iP p]<|bP<|kA p:=
 iE (.w (8<=p)
  (λk1=>ae [tB 4<|bu k1]<|rQ (bP<|decide (p<=512)) (bP<|kA p)<|by unfold kA;simp[k1])
  (λk1=>ae [tB 4<|bn k1]<|rQ (bP false) (bP<|kA p)<|by unfold kA;simp[k1]))
end Go.Proofs.YtjkmahljfblobaaGreatDoor
namespace Go.Proofs.YtjkmahljfblobaaGreatDoor.Pu
open Go.RowKit
def abG{bs br:Nat->Prop}{w:World}{xs:List Value}{a:Value}(h:iO bs br w (.agg<|xs.map E.v) a):a = .agg xs.toArray:=by
 generalize he:E.agg (xs.map E.v)=e at h;cases h with
 |agg l vs hl k=>
  cases he;rw[cG]at hl;have:vs=xs:=att λi=>by
   cases hx:xs[i]? with
   |none=>rw[List.getElem?_eq_none_iff]at hx ⊢;omega
   |some x=>
    obtain⟨v,hv⟩:∃ v,vs[i]? = some v:=by
     have hi:i<xs.length:=(cD.1 hx).1;exact⟨vs[i]'(aC),bD aC⟩
    rw[hv,iO.kW<|k i (.v x) v (by rw[cC,hx];rfl) hv]
  rw[this]
 |_=>cases he
def St{P:Program}{t:TypeId}{m D D':Nat}(hm:m<=10000)(hk:P.keyTypeAt m t=true)(hg:P.eqGuardType P.depth t=false){xs ys:List Value}{la lb:List Lit}
 (hx:P.keyLits D t xs=some la) (hy:P.keyLits D' t ys=some lb) (fx:(Value.agg xs.toArray).formed P t=true) (fy:(Value.agg ys.toArray).formed P t=true) {c:Bool} (hc:c=true↔la=lb):
 mP P .eql t (.agg<|xs.map E.v) (.agg<|ys.map E.v) (.bool c):=by
 intro bs br w a b ox oy ha hb;obtain rfl:=abG ha;obtain rfl:=abG hb;constructor
 .simp only[eqGuard,fI,bJ,bB,Sem.run_bind,run_program,Result.andThen_ok,hg,fg,bH,Sem.run_pure]
 .obtain ⟨r,hr,aka⟩:=run_equalIn_deep (10000-m) m t hk w _ _ _ _ la lb fx fy (by simpa[Value.cells]using hx) (by simpa[Value.cells]using hy);rw[(aC:10000-m+m=10000)]at hr;have e:r=c:=by rw[fw,aka,hc]
  subst e;have:(Op.equal t (.agg xs.toArray)<|.agg ys.toArray).run P w = .ok r w:=hr;simp only[binOp,Sem.run_bind,this,Result.andThen_ok,Sem.run_pure]
end Go.Proofs.YtjkmahljfblobaaGreatDoor.Pu
namespace Go.Proofs.YtjkmahljfblobaaGreatDoor
open Go.RowKit Fp Pu
def aa7{t:TypeId}{m:Nat}(hm:m<=10000)(hk:prog.keyTypeAt m t=true)(hg:prog.eqGuardType prog.depth t=false){xs:List Value}(hx:(prog.keyLits 10 t xs).isSome=true)
 (fx:(Value.agg xs.toArray).formed prog t=true):mP prog .eql t (.agg<|xs.map E.v) (.agg<|xs.map E.v)<|.bool true:=by
 obtain⟨l,hl⟩:=gJ.1 hx;exact St hm hk hg hl hl fx fx aH 
def Nc{a b c d e f:Int}(h:a=0/\b=0/\c=0/\d=0/\e=0/\f=0):
 mP prog .eql 153 (.agg [iP a,iP b,iP c,iP d,iP e,iP f]) (.agg [iP 0,iP 0,iP 0,iP 0,iP 0,iP 0]) (.bool true):=by
 obtain⟨rfl,rfl,rfl,rfl,rfl,rfl⟩:=h;exact aa7 (m:=10) (xs:=[.int .i64 0,.int .i64 0,.int .i64 0,.int .i64 0,.int .i64 0,.int .i64 0]) aE aF aF aF aF 
def Ss{a b:Int}(h:a=0/\b=0):mP prog .eql 78 (.agg [iP a,iP b]) (.agg [iP 0,iP 0])<|.bool true:=by
 obtain⟨rfl,rfl⟩:=h;exact aa7 (m:=10) (xs:=[.int .i64 0,.int .i64 0]) aE aF aF aF aF 
def Dc{d:Nat}{n:Int}(h:kC .i64 n):prog.keyLits (d+1) 3 [.int .i64 n]=some [.int .i64 n]:=by
 have hw:(Lit.int .i64 n).wf=true:=by
  unfold kC at h;simp[Lit.wf,IntKind.min,IntKind.max,IntKind.signed,IntKind.bits];omega
 unfold Program.keyLits;rw[underlying3];simp[hw]
def abt{a b:Int}(ha:kC .i64 a)(hb:kC .i64 b):prog.keyLits 10 78 [.int .i64 a,.int .i64 b]=some [.int .i64 a,.int .i64 b]:=by
 have c1:prog.cellsOf 78=2:= aF ;have c2:prog.cellsOf 3=1:= aF ;unfold Program.keyLits;rw[underlying78];simp[c1,c2,eX,Dc ha,Dc hb]
def aa6{a b:Int}{r:Bool}(ha:kC .i64 a)(hb:kC .i64 b)(h:decide (a=0/\b=0)=r):mP prog .eql 78 (.agg [iP a,iP b]) (.agg [iP 0,iP 0])<|.bool r:=
 St (m:=10) (xs:=[.int .i64 a,.int .i64 b]) (ys:=[.int .i64 0,.int .i64 0]) aE aF aF (abt ha hb) (abt aQ aQ) aF aF (by subst h;simp)
def anR{a b c d e f a' b' c' d' e' f':Int}{r:Bool}(hx:prog.keyLits 10 153 [.int .i64 a,.int .i64 b,.int .i64 c,.int .i64 d,.int .i64 e,.int .i64 f]=some [.int .i64 a,.int .i64 b,.int .i64 c,.int .i64 d,.int .i64 e,.int .i64 f])(hy:prog.keyLits 10 153 [.int .i64 a',.int .i64 b',.int .i64 c',.int .i64 d',.int .i64 e',.int .i64 f']=some [.int .i64 a',.int .i64 b',.int .i64 c',.int .i64 d',.int .i64 e',.int .i64 f'])
 (fx:(Value.agg<|List.toArray [.int .i64 a,.int .i64 b,.int .i64 c,.int .i64 d,.int .i64 e,.int .i64 f]).formed prog 153=true) (fy:(Value.agg<|List.toArray [.int .i64 a',.int .i64 b',.int .i64 c',.int .i64 d',.int .i64 e',.int .i64 f']).formed prog 153=true) (h:decide (a=a'/\b=b'/\c=c'/\d=d'/\e=e'/\f=f')=r):
 mP prog .eql 153 (.agg [iP a,iP b,iP c,iP d,iP e,iP f]) (.agg [iP a',iP b',iP c',iP d',iP e',iP f']) (.bool r):=
 St (m:=10) (xs:=[.int .i64 a,.int .i64 b,.int .i64 c,.int .i64 d,.int .i64 e,.int .i64 f]) (ys:=[.int .i64 a',.int .i64 b',.int .i64 c',.int .i64 d',.int .i64 e',.int .i64 f']) aE aF aF hx hy fx fy (by subst h;simp)
def Nd{a b:ByteArray}{r:Bool}(h:(a.toList==b.toList)=r):mP prog .eql 9 (.v<|.string a) (.v<|.string b)<|.bool r:=by
 intro bs br w x y ox oy hx hy;obtain rfl:=iO.kW hx;obtain rfl:=iO.kW hy;subst h;refine⟨by simp[eqGuard],?_⟩;show(Op.stringOp .eql a b).run prog w=_;unfold Op.stringOp;simp only[Sem.run_pure]
def aqx{P:Program}(w:World)(t tx ty e:TypeId)(i:TypeInfo)(z:Value)(ht:P.underlying t=some (.slice e))(hx:P.underlying tx=some (.int .i64))(hi:P.info? e=some i)(hz:i.zero=some z)
 (vo:i.size≠0) (n:Nat) (h0:0<n) (IZ:n<=1000000) (Xa:n*i.bytes<=281474976710656):
 (Builtin.append_ #[t,tx] ty #[.slice none 0 0,.int .i64 (n:Int)]).run P w =
  .ok (.slice (some ⟨w.heap.size,0,none⟩) n<|grownCap w n 0 e) (w.drew.alloc<|.cells (Builtin.zeroCells z.cells n++Builtin.zeroCells z.cells (grownCap w n 0 e-n)) e):=by
 have hn:n≠0:= aC ;have XZ:n*i.size≠0:=ej hn vo;have ajQ:¬(9223372036854775807<(n:Int)):= aC ;have ajO:¬(281474976710656<Builtin.nextslicecap n 0*i.bytes):=by rw[nextslicecap_zero h0];omega
 have hw:IntKind.i64.wrap (n:Int)=n:=i64_in _;have Jb:¬((n:Int)<0):= aC ;have ajP:¬(281474976710656<(n:Int)*(i.bytes:Int)):=by
  have:(n:Int)*(i.bytes:Int)=((n*i.bytes:Nat):Int):= aH ;rw[this];omega
 simp[Builtin.append_,run_underlying ht,run_underlying hx,sizeOf,typeInfo,zeroValue,hi,hz,asInt,asIntOf,hw,Jb,ajP,hn,XZ,ajQ,ajO,Question.forced,run_firstCells_none,newRow,grownCap]
def asC{P:Program}{w:World}{iq:Array Oper}{rest:List Oper}{o:Oper}{a:Act}{Q:Exit->Act->World->Prop}(El:o.guard=none)(s x:Operand)(t tx:TypeId)
 (ho:o.op = .call { callee:=.builtin .append,args:=#[s,x],argTypes:=#[t,tx] })
 (e:TypeId) (i:TypeInfo) (z:Value) (ht:P.underlying t=some (.slice e)) (hx:P.underlying tx=some (.int .i64)) (hi:P.info? e=some i) (hz:i.zero=some z)
 (vo:i.size≠0) (n:Nat) (h0:0<n) (IZ:n<=1000000) (Xa:n*i.bytes<=281474976710656) (hs:a.eval s = .slice none 0 0) (hxx:a.eval x = .int .i64 (n:Int))
 (h:wpList P iq Q rest (a.put o.dst<|.slice (some ⟨w.heap.size,0,none⟩) n<|grownCap w n 0 e)<|w.drew.alloc<|.cells (Builtin.zeroCells z.cells n++Builtin.zeroCells z.cells (grownCap w n 0 e-n)) e):wpList P iq Q (o::rest) a w:=by
 refine wpList_plain El λK hK=>?_
 have kr:=aqx (P:=P) w t tx o.type e i z ht hx hi hz vo n h0 IZ Xa;unfold Oper.wp;simp[execOp,ho,resolve,invoke,builtin,hs,hxx,kr,Result.andThen];exact hK _ _ h
def aeb(w:World)(o:Obj):Below w.heap.size w (w.alloc o).drew:=⟨rfl,rfl,rfl,by rw[show(w.alloc o).drew.heap=w.heap.push o from rfl,dY];omega,λx hx=>Below.heap_alloc w _ x hx⟩
def aec(w:World)(o:Obj):w.heap.size<(w.alloc o).drew.heap.size:=by rw[show(w.alloc o).drew.heap=w.heap.push o from rfl,dY];omega
def akF:(prog.info? 41).map (λi=>(i.zero,i.size,i.bytes))=some (some<|.agg #[.bool false,.slice none 0 0,.int .i64 0,.bool false,.slice none 0 0,.int .i64 0,.bool false],7,88):= aF 
def adO(n:Nat):∀ u,u ∈ Builtin.zeroCells (Value.cells<|.agg #[.bool false,.slice none 0 0,.int .i64 0,.bool false,.slice none 0 0,.int .i64 0,.bool false]) n->qs u=false:=by
 intro u hu;simp only[Builtin.zeroCells,gG,gH]at hu;obtain⟨q,hq,rfl⟩:=hu;have hc:Value.cells (.agg #[.bool false,.slice none 0 0,.int .i64 0,.bool false,.slice none 0 0,.int .i64 0,.bool false]) = #[.bool false,.slice none 0 0,.int .i64 0,.bool false,.slice none 0 0,.int .i64 0,.bool false]:=rfl;rw[hc]at hq ⊢;have hs:(#[Value.bool false,.slice none 0 0,.int .i64 0,.bool false,.slice none 0 0,.int .i64 0,.bool false]:Array Value).size=7:=rfl;rw[hs];have h7:q%7<7:=bR _ aE;generalize q%7=k at h7;rcases k with _|_|_|_|_|_|_|k
 all_goals first|rfl|omega
set_option maxRecDepth 100000 in
def W8(n:Nat)(hn:n<=1000000):wD prog Tb 140 [.v<|.slice none 0 0,iP (n:Int)] true 41 0 7<|jC []:=by
 refine⟨call140,λw B vs hK hB hr=>?_⟩;obtain⟨v1,vs,rfl,h1,hr⟩:=hr.nR;obtain⟨v2,vs,rfl,h2,hr⟩:=hr.nR;obtain rfl:=hr.sK;obtain rfl:=iO.kW h1;obtain rfl:=iO.kW h2;show Calls _ _ #[.slice none 0 0,.int .i64 (n:Int)] w _;clear h1 h2 hr hB hK;by_cases h0:n=0
 .subst h0;go_enter func140,ntmps140;go_wp2;go_ret;exact⟨_,rfl,Below.refl _ _,λ_ _=>undef,.inl ⟨rfl,rfl⟩,λx hx=>by simp[Value.ownBlock]at hx,λi j hi=>absurd hi<|bC _⟩
 .obtain ⟨i,hi,hz,h1,h2⟩:=info_parts akF;have hw:IntKind.i64.wrap ((n:Int)-0)=n:=i64_in _;have ED:IntKind.i64.wrap (n:Int)=n:=i64_in _;have e2:decide ((n:Int)<0)=false:=bn aC;have e3:decide ((0:Int)<n)=true:=bu aC;have Ga:n<=grownCap w n 0 41:=grownCap_ge w n 0 _;go_enter func140,ntmps140;go_wp2_with (at_builtin;go_must (refine asC aG _ _ _ _ aG _ i _ underlying23 underlying3 hi hz aC n aC aC (by rw[h2];omega) aG aG ?_))
  go_ret;have hz7:(#[Value.bool false,.slice none 0 0,.int .i64 0,.bool false,.slice none 0 0,.int .i64 0,.bool false]:Array Value).size=7:=rfl;refine⟨_,rfl,aeb w _,λ_ _=>undef,.inr ⟨w.heap.size,0,grownCap w n 0 41,_,rfl,heap_alloc_new w _,ck _,grownCap_le_maxLen w n 0 _<|by unfold maxLen;omega,?_,λi j hi=>absurd hi<|bC _,λ_ u hu=>?_⟩,λx hx=>?_,λi j hi=>absurd hi<|bC _⟩
  .simp only[atC,size_zeroCells,hz7,<-bT,cw];exact bU 7 aC 
  .rcases fM.1 hu with hu|hu
   .exact adO _ u hu
   .exact adO _ u hu
  .simp [Value.ownBlock]at hx;subst hx;exact⟨bw _,aec w _⟩
abbrev zZ(f:FuncId)(args:List E)(nl:Bool)(T:TypeId)(n sz:Nat)(el:Nat->Nat->E):Prop:=wD prog Tb f args nl T n sz el
def trn{f:FuncId}{fn:Func}{args:List E}{nl:Bool}{T0:TypeId}{n sz:Nat}{el:Nat->Nat->E}(ru:∀ (vs:Array Value) (w:World),(callFunc f vs).run prog w = .ok (.enter f vs) w)
 (hf:prog.funcs[f]? = some fn) (t:Tr prog Tb) (h:G9 TT fn args (.row nl T0 n sz el) t=t.ex λ_=>.a (Bx.le (.row nl T0 n sz el)<|.row nl T0 n sz el) .nil):zZ f args nl T0 n sz el:=
 wD.FA Bj mixed OL ru hf t h
abbrev yK(f:FuncId)(args:List E)(nl:Bool)(T1 T0:TypeId)(n sz:Nat)(len:Nat->Nat)(el:Nat->Nat->Nat->E):Prop:=yJ prog Tb f args nl T1 T0 n sz len el
def trr{f:FuncId}{fn:Func}{args:List E}{nl:Bool}{T1 T0:TypeId}{n sz:Nat}{len:Nat->Nat}{el:Nat->Nat->Nat->E}(ru:∀ (vs:Array Value) (w:World),(callFunc f vs).run prog w = .ok (.enter f vs) w)
 (hf:prog.funcs[f]? = some fn) (t:Tr prog Tb) (h:G9 TT fn args (.iM nl T1 T0 n sz len el none) t=t.ex λ_=>.a (Bx.le (.iM nl T1 T0 n sz len el none)<|.iM nl T1 T0 n sz len el none) .nil):yK f args nl T1 T0 n sz len el:=
 yJ.FA Bj mixed OL ru hf t h
abbrev uk(f:FuncId)(T:TypeId)(l l' args:List E)(jk:E):Prop:=wC prog Tb f T l l' args jk
def KN{f:FuncId}{fn:Func}{Tv:TypeId}{l l' args:List E}{jk:E}(ru:∀ (vs:Array Value) (w:World),(callFunc f vs).run prog w = .ok (.enter f vs) w)
 (hf:prog.funcs[f]? = some fn) (ha:(l.all E.mf&&(l.all (E.nr 3)&&(args.all (E.nr 3)&&l'.all (E.nr 3))))=true) (t:Nat->Tr prog Tb)
 (h:∀ b,G8 TT fn Tv b l l' args jk (t b)=(t b).ex λ_=>.a (Bx.le (.nN Tv b l')<|.nN Tv b l')<|.a (E.le jk jk) .nil):uk f Tv l l' args jk:=
 wC.FA Bj mixed ru hf ha t h
def ac5(t:je)(x:Nat):PS:=⟨46,true,[(28,.e<|iP x),(27,.e<|iP t.iq.length),(26,.e<|lG t.iq),(1,.box 1 0)],[(1,.cells 29 [iP t.iI,lG t.iq,lL t.iz])]⟩
def acY(s:lY)(x:Nat):PS:=⟨85,true,[(31,.e<|iP x),(30,.e<|iP s.tape.iq.length),(29,.e<|lG s.tape.iq),(3,.box 3 0),(1,.box 1 0)],[(3,.cells 29 [iP s.tape.iI,lG s.tape.iq,lL s.tape.iz]),(1,.cells 31 [iP s.tape.iI,lG s.tape.iq,lL s.tape.iz,iP s.jg,iG s.params])]⟩
noncomputable def ac3(t:je)(xs:List Iv)(p:Nat)(x:Nat):PS:=⟨75,true,[(26,.e<|iP x),(25,.e<|iP t.iq.length),(24,.e<|lG t.iq),(7,.own 22),(2,.e<|iP p)],[(22,.row true 41 ((jH t.iq xs p x).length) 7<|jC<|jH t.iq xs p x)]⟩
def abe(k:Nat)(h1:3<=k)(h2:k<=6):il 274 [iP k]<|iP 2:=
 iE (ae [ai 5 ((k:Int)==1)<|aY aC]<|.w ((k:Int)=3)
  (λk1=>af [tB 7<|aZ k1])
  (λk1=>ae [tB 7<|aY k1]<|.w ((k:Int)=4)
   (λk2=>af [tB 8<|aZ k2])
   (λk2=>ae [tB 8<|aY k2]<|.w ((k:Int)=5)
    (λk3=>af [tB 9<|aZ k3])
    (λk3=>ae [tB 9<|aY k3]<|.w ((k:Int)=6)
     (λk4=>af [tB 10<|aZ k4])
     (λk4=>.x aC)))))
def Sv(k:Nat)(h1:7<=k)(h2:k<=13):il 274 [iP k]<|iP 1:=
 iE (ae [ai 5 ((k:Int)==1)<|aY aC,ai 7 ((k:Int)==3)<|aY aC,ai 8 ((k:Int)==4)<|aY aC,ai 9 ((k:Int)==5)<|aY aC,ai 10 ((k:Int)==6)<|aY aC]<|.w ((k:Int)=7)
  (λk1=>af [tB 12<|aZ k1])
  (λk1=>ae [tB 12<|aY k1]<|.w ((k:Int)=8)
   (λk2=>af [tB 13<|aZ k2])
   (λk2=>ae [tB 13<|aY k2]<|.w ((k:Int)=9)
    (λk3=>af [tB 14<|aZ k3])
    (λk3=>ae [tB 14<|aY k3]<|.w ((k:Int)=10)
     (λk4=>af [tB 15<|aZ k4])
     (λk4=>ae [tB 15<|aY k4]<|.w ((k:Int)=11)
      (λk5=>af [tB 16<|aZ k5])
      (λk5=>ae [tB 16<|aY k5]<|.w ((k:Int)=12)
       (λk6=>af [tB 17<|aZ k6])
       (λk6=>ae [tB 17<|aY k6]<|.w ((k:Int)=13)
        (λk7=>af [tB 18<|aZ k7])
        (λk7=>.x aC))))))))
def abd(k:Nat)(h1:k=1):il 274 [iP k]<|iP 0:=
 iE (af [ah 5 ((k:Int)==1)<|aZ aC])
def anU{a b:Int}(h:qu a b=true):mP prog .eql 78 (.agg [iP a,iP b]) (.agg [iP 0,iP 0])<|.bool false:=by
 obtain⟨h1,h2,h3,h4⟩:=Nq h;exact aa6 aQ aQ<|bn aC
section
variable{o:jv}{m:Nat}(h:ns o m)
def ns.iV(oP:o.kind≠1)(hk:o.kind<=6):3<=o.kind/\o.a<m/\o.b<m/\o.n=0/\o.cn=0/\o.cd=0:=by
 have h3:=h.k3.resolve_left oP;have ha:=h.a;have hb:=h.b;have hn:=h.n;have hc:=h.c;rw[bj oP]at ha hc;rw[bk ⟨h3,hk⟩]at hb;rw[bj aC]at hn;exact⟨h3,ha,hb,hn,hc.1,hc.2⟩
def ns.pow(hk:o.kind=8):o.a<m/\o.b=0/\o.n<=16/\o.cn=0/\o.cd=0:=by
 have ha:=h.a;have hb:=h.b;have hn:=h.n;have hc:=h.c;rw[bj aC]at ha hb hc;rw[bk hk]at hn;exact⟨ha,hb,hn,hc.1,hc.2⟩
def ns.un(hk:¬o.kind<=6)(xR:o.kind≠8):o.kind<=13/\o.a<m/\o.b=0/\o.n=0/\o.cn=0/\o.cd=0:=by
 have ha:=h.a;have hb:=h.b;have hn:=h.n;have hc:=h.c;rw[bj aC]at ha hb hc;rw[bj xR]at hn;exact⟨h.BY,ha,hb,hn,hc.1,hc.2⟩
def ns.num(hk:o.kind=1):o.a=0/\o.b=0/\o.n=0/\qu o.cn o.cd=true:=by
 have ha:=h.a;have hb:=h.b;have hn:=h.n;have hc:=h.c;rw[bk hk]at ha hc;rw[bj aC]at hb hn;exact⟨ha,hb,hn,hc⟩
def ns.ON(hk:o.kind≠1):o.a<m:=by
 have ha:=h.a;rwa[bj hk]at ha
end
section
variable(o:jv)(m:Nat)(h:ns o m)
def aox(hk:o.kind=1):il 253 [rD o,iP m]<|bP true:=by
 obtain⟨h2,h3,h4,vk⟩:=h.num hk;exact iE<|af [ag [iP o.kind]<|abd _ aC,ai 14 (decide ((0:Int)<0)) aE,ah 17 ((0:Int)==0) aE,.c<|Nr o.cn o.cd,ah 20 (qu o.cn o.cd) vk,ai 26 ((o.kind:Int)==8)<|aY aC,ai 37 (decide ((0:Int)<0)) aE,ai 49 (decide ((1:Int)<0)) aE,.g (Nc ⟨aC,aC,aC,aC,aC,aC⟩:mP prog .eql 153 (.agg [iP 0,iP o.a,iP o.b,iP o.n,iP 0,iP 0]) (.agg [iP 0,iP 0,iP 0,iP 0,iP 0,iP 0])<|.bool true)]
def aow(oP:o.kind≠1)(hk:o.kind<=6):il 253 [rD o,iP m]<|bP true:=by
 obtain⟨h1,h2,h3,h4,h5,h6⟩:=h.iV oP hk;exact iE<|af [ag [iP o.kind]<|abe _ aC aC,ai 14 (decide ((2:Int)<0)) aE,ai 17 ((2:Int)==0) aE,ai 26 ((o.kind:Int)==8)<|aY aC,ah 37 (decide ((0:Int)<2)) aE,tF 40 ((o.a:Int)<0) aC,tF 45 ((m:Int)<=o.a) aC,ah 49 (decide ((1:Int)<2)) aE,tF 52 ((o.b:Int)<0) aC,tF 57 ((m:Int)<=o.b) aC,.g (Nc ⟨aC,aC,aC,aC,aC,aC⟩:mP prog .eql 153 (.agg [iP 0,iP 0,iP 0,iP o.n,iP o.cn,iP o.cd]) (.agg [iP 0,iP 0,iP 0,iP 0,iP 0,iP 0])<|.bool true)]
def aoz(hk:o.kind=8):il 253 [rD o,iP m]<|bP true:=by
 obtain⟨h2,h3,h4,h5,h6⟩:=h.pow hk;exact iE<|af [ag [iP o.kind]<|Sv _ aC aC,ai 14 (decide ((1:Int)<0)) aE,ai 17 ((1:Int)==0) aE,ah 26 ((o.kind:Int)==8)<|aZ aC,tF 29 ((o.n:Int)<0) aC,tF 33 (16<(o.n:Int)) aC,ah 37 (decide ((0:Int)<1)) aE,tF 40 ((o.a:Int)<0) aC,tF 45 ((m:Int)<=o.a) aC,ai 49 (decide ((1:Int)<1)) aE,.g (Nc ⟨aC,aC,aC,aC,aC,aC⟩:mP prog .eql 153 (.agg [iP 0,iP 0,iP o.b,iP 0,iP o.cn,iP o.cd]) (.agg [iP 0,iP 0,iP 0,iP 0,iP 0,iP 0])<|.bool true)]
def aoA(hk:¬o.kind<=6)(xR:o.kind≠8):il 253 [rD o,iP m]<|bP true:=by
 obtain⟨h1,h2,h3,h4,h5,h6⟩:=h.un hk xR;exact iE<|af [ag [iP o.kind]<|Sv _ aC aC,ai 14 (decide ((1:Int)<0)) aE,ai 17 ((1:Int)==0) aE,ai 26 ((o.kind:Int)==8)<|aY aC,ah 37 (decide ((0:Int)<1)) aE,tF 40 ((o.a:Int)<0) aC,tF 45 ((m:Int)<=o.a) aC,ai 49 (decide ((1:Int)<1)) aE,.g (Nc ⟨aC,aC,aC,aC,aC,aC⟩:mP prog .eql 153 (.agg [iP 0,iP 0,iP o.b,iP o.n,iP o.cn,iP o.cd]) (.agg [iP 0,iP 0,iP 0,iP 0,iP 0,iP 0])<|.bool true)]
def ars(hk:o.kind=1):il 129 [rD o,iP m]<|bP true:=by
 obtain⟨h2,h3,h4,vk⟩:=h.num hk;exact iE<|af [tF 8 ((o.a:Int)<0) aC,tF 12 ((o.b:Int)<0) aC,.g (anU vk:mP prog .eql 78 (.agg [iP o.cn,iP o.cd]) (.agg [iP 0,iP 0])<|.bool false),ah 21 ((o.kind:Int)==1)<|aZ aC,.c<|Nr o.cn o.cd,ah 24 (qu o.cn o.cd) vk,ah 28 ((o.a:Int)==0)<|aZ aC,ah 33 ((o.b:Int)==0)<|aZ aC,ah 38 ((o.n:Int)==0)<|aZ aC]
def arq(oP:o.kind≠1)(hk:o.kind<=6):il 129 [rD o,iP m]<|bP true:=by
 obtain⟨h1,h2,h3,h4,h5,h6⟩:=h.iV oP hk;exact iE (ae [tF 8 ((o.a:Int)<0) aC,tF 12 ((o.b:Int)<0) aC,.g (Ss ⟨aC,aC⟩:mP prog .eql 78 (.agg [iP o.cn,iP o.cd]) (.agg [iP 0,iP 0])<|.bool true),ai 21 ((o.kind:Int)==1)<|aY aC]<|.w ((o.kind:Int)=3)
  (λk1=>af [tB 41<|aZ k1,tT 50 ((o.a:Int)<m) aC,tT 56 ((o.b:Int)<m) aC,ah 61 ((o.n:Int)==0)<|aZ aC])
  (λk1=>ae [tB 41<|aY k1]<|.w ((o.kind:Int)=4)
   (λk2=>af [tB 42<|aZ k2,tT 50 ((o.a:Int)<m) aC,tT 56 ((o.b:Int)<m) aC,ah 61 ((o.n:Int)==0)<|aZ aC])
   (λk2=>ae [tB 42<|aY k2]<|.w ((o.kind:Int)=5)
    (λk3=>af [tB 43<|aZ k3,tT 50 ((o.a:Int)<m) aC,tT 56 ((o.b:Int)<m) aC,ah 61 ((o.n:Int)==0)<|aZ aC])
    (λk3=>ae [tB 43<|aY k3]<|.w ((o.kind:Int)=6)
     (λk4=>af [tB 44<|aZ k4,tT 50 ((o.a:Int)<m) aC,tT 56 ((o.b:Int)<m) aC,ah 61 ((o.n:Int)==0)<|aZ aC])
     (λk4=>.x aC)))))
def aru(hk:o.kind=8):il 129 [rD o,iP m]<|bP true:=by
 obtain⟨h2,h3,h4,h5,h6⟩:=h.pow hk;exact iE<|af [tF 8 ((o.a:Int)<0) aC,tF 12 ((o.b:Int)<0) aC,.g (Ss ⟨aC,aC⟩:mP prog .eql 78 (.agg [iP o.cn,iP o.cd]) (.agg [iP 0,iP 0])<|.bool true),ai 21 ((o.kind:Int)==1)<|aY aC,ai 41 ((o.kind:Int)==3)<|aY aC,ai 42 ((o.kind:Int)==4)<|aY aC,ai 43 ((o.kind:Int)==5)<|aY aC,ai 44 ((o.kind:Int)==6)<|aY aC,ah 64 ((o.kind:Int)==8)<|aZ aC,tT 70 ((o.a:Int)<m) aC,ah 75 ((o.b:Int)==0)<|aZ aC,tT 80 (0<=(o.n:Int)) aC,tT 85 ((o.n:Int)<=16) aC]
def arv(hk:¬o.kind<=6)(xR:o.kind≠8):il 129 [rD o,iP m]<|bP true:=by
 obtain⟨h1,h2,h3,h4,h5,h6⟩:=h.un hk xR;exact iE (ae [tF 8 ((o.a:Int)<0) aC,tF 12 ((o.b:Int)<0) aC,.g (Ss ⟨aC,aC⟩:mP prog .eql 78 (.agg [iP o.cn,iP o.cd]) (.agg [iP 0,iP 0])<|.bool true),ai 21 ((o.kind:Int)==1)<|aY aC,ai 41 ((o.kind:Int)==3)<|aY aC,ai 42 ((o.kind:Int)==4)<|aY aC,ai 43 ((o.kind:Int)==5)<|aY aC,ai 44 ((o.kind:Int)==6)<|aY aC,ai 64 ((o.kind:Int)==8)<|aY aC]<|.w ((o.kind:Int)=7)
  (λk1=>af [tB 88<|aZ k1,tT 99 ((o.a:Int)<m) aC,ah 104 ((o.b:Int)==0)<|aZ aC,ah 109 ((o.n:Int)==0)<|aZ aC])
  (λk1=>ae [tB 88<|aY k1]<|.w ((o.kind:Int)=9)
   (λk2=>af [tB 89<|aZ k2,tT 99 ((o.a:Int)<m) aC,ah 104 ((o.b:Int)==0)<|aZ aC,ah 109 ((o.n:Int)==0)<|aZ aC])
   (λk2=>ae [tB 89<|aY k2]<|.w ((o.kind:Int)=10)
    (λk3=>af [tB 90<|aZ k3,tT 99 ((o.a:Int)<m) aC,ah 104 ((o.b:Int)==0)<|aZ aC,ah 109 ((o.n:Int)==0)<|aZ aC])
    (λk3=>ae [tB 90<|aY k3]<|.w ((o.kind:Int)=11)
     (λk4=>af [tB 91<|aZ k4,tT 99 ((o.a:Int)<m) aC,ah 104 ((o.b:Int)==0)<|aZ aC,ah 109 ((o.n:Int)==0)<|aZ aC])
     (λk4=>ae [tB 91<|aY k4]<|.w ((o.kind:Int)=12)
      (λk5=>af [tB 92<|aZ k5,tT 99 ((o.a:Int)<m) aC,ah 104 ((o.b:Int)==0)<|aZ aC,ah 109 ((o.n:Int)==0)<|aZ aC])
      (λk5=>ae [tB 92<|aY k5]<|.w ((o.kind:Int)=13)
       (λk6=>af [tB 93<|aZ k6,tT 99 ((o.a:Int)<m) aC,ah 104 ((o.b:Int)==0)<|aZ aC,ah 109 ((o.n:Int)==0)<|aZ aC])
       (λk6=>.x aC)))))))
def aoy:il 253 [rD o,iP (m:Int)]<|bP true:=by
 by_cases oP:o.kind=1
 .exact aox o m h oP
 by_cases hk:o.kind<=6
 .exact aow o m h oP hk
 .by_cases xR:o.kind=8
  .exact aoz o m h xR
  .exact aoA o m h hk xR
def art:il 129 [rD o,iP (m:Int)]<|bP true:=by
 by_cases oP:o.kind=1
 .exact ars o m h oP
 by_cases hk:o.kind<=6
 .exact arq o m h oP hk
 .by_cases xR:o.kind=8
  .exact aru o m h xR
  .exact arv o m h hk xR
end
def arM(t:je)(k:Nat)(hk:k<t.iI+t.iq.length)(h8:t.iI<=8)(ajM:t.iq.length<=200):il 254 [iP k,(.jK 3 λj_=>[iP t.iI,lG t.iq,lL t.iz].getD j_ .any)]<|bP false:=
 iE (af [tF 5 ((k:Int)<0) aC,iL<|(t.iI:Int)+t.iq.length,tF 14 (((t.iI+t.iq.length:Nat):Int)<=k) aC])
def KH(t:je)(h:wF t):il 208 [jT t]<|bP true:=by
 have h8:=h.iI;have ss:=h.iq;have qq:=h.iz;exact iE (af [tF 7 ((t.iI:Int)<0) aC,tF 11 (8<(t.iI:Int)) aC,tF 17 (200<(t.iq.length:Int)) aC,tF 23 (200<(t.iz.length:Int)) aC,.s (Sp.jP (ac5 t) 0 t.iq.length aC (λx hx mX=>by
    have iK:=h.op x aC;exact iS (af [tT 29 ((x:Int)<t.iq.length) aC,iX (x:Int)<|t.iq.length,iL<|(t.iI:Int)+x,ag [rD<|t.iq.getD x iU,iP ((t.iI+x:Nat):Int)]<|aoy _ _ iK,iL<|(x:Int)+1]) aF)
  (λhx=>by
    exact iS (af [tF 29 ((t.iq.length:Int)<t.iq.length) aC]) aF) aI:jM 4 f208 (ac5 t 0) (.exit 0) ⟨46,true,[(1,.box 1 0)],[(1,.cells 29 [iP t.iI,lG t.iq,lL t.iz])]⟩) .nil,.c (Rs true _ _ 254 [(.jK 3 λj_=>[iP t.iI,lG t.iq,lL t.iz].getD j_ .any)] (λ_=>false) (λi hi=>arM t _ (h.out i hi) h8 ss) aC λ_ _=>rfl:il 130 [lL t.iz,.fn 254 [(.jK 3 λj_=>[iP t.iI,lG t.iq,lL t.iz].getD j_ .any)]] _)])
def arx(t:je)(k:Nat)(hk:k<t.iI+t.iq.length)(h8:t.iI<=8)(ajM:t.iq.length<=200):il 131 [iP k,(.jK 3 λj_=>[iP t.iI,lG t.iq,lL t.iz].getD j_ .any)]<|bP false:=
 iE (af [tF 5 ((k:Int)<0) aC,iL<|(t.iI:Int)+t.iq.length,tF 14 (((t.iI+t.iq.length:Nat):Int)<=k) aC])
def arz(x:Iv)(hx:x.ix)(xa:x.all=false):il 132 [iA x]<|bP false:=by
 obtain⟨w1,w2,w3⟩:=vZ hx xa;exact iE<|af [ai 4 x.all xa,.c<|sj x.lo aD,.c<|sj x.hi aD,.c<|nE x.lo x.hi aD aD,tF 23 (0<(jN x.lo x.hi)) aC]
def Hm(s:lY)(h:nK s):il 77 [kS s]<|bP true:=by
 have h8:=h.tape.iI;have ss:=h.tape.iq;have qq:=h.tape.iz;have s1:=h.s1;have s4:=h.s4;have ho:=h.iz;have hi:=h.iI;have p4:=h.p4;exact iE (af [tF 10 ((s.tape.iI:Int)<0) aC,tF 14 (8<(s.tape.iI:Int)) aC,tF 20 (200<(s.tape.iq.length:Int)) aC,tF 26 (200<(s.tape.iz.length:Int)) aC,.s (Sp.jP (acY s) 0 s.tape.iq.length aC (λx hx mX=>by
    have iK:=h.tape.op x aC;exact iS (af [tT 32 ((x:Int)<s.tape.iq.length) aC,iX (x:Int)<|s.tape.iq.length,iL<|(s.tape.iI:Int)+x,ag [rD<|s.tape.iq.getD x iU,iP ((s.tape.iI+x:Nat):Int)]<|art _ _ iK,iL<|(x:Int)+1]) aF)
  (λhx=>by
    exact iS (af [tF 32 ((s.tape.iq.length:Int)<s.tape.iq.length) aC]) aF) aI:jM 5 Tryz.f77 (acY s 0) (.exit 0) ⟨85,true,[(3,.box 3 0),(1,.box 1 0)],[(3,.cells 29 [iP s.tape.iI,lG s.tape.iq,lL s.tape.iz]),(1,.cells 31 [iP s.tape.iI,lG s.tape.iq,lL s.tape.iz,iP s.jg,iG s.params])]⟩) .nil,.c (Rs true _ _ 131 [(.jK 3 λj_=>[iP s.tape.iI,lG s.tape.iq,lL s.tape.iz].getD j_ .any)] (λ_=>false) (λi hi=>arx s.tape _ (h.tape.out i hi) h8 ss) aC λ_ _=>rfl:il 130 [lL s.tape.iz,.fn 131 [(.jK 3 λj_=>[iP s.tape.iI,lG s.tape.iq,lL s.tape.iz].getD j_ .any)]] _),tF 50 ((s.jg:Int)<1) aC,tF 54 (4<(s.jg:Int)) aC,ai 62 ((s.tape.iz.length:Int) != (s.jg:Int))<|s5,
  iL ((s.jg:Int)+s.params.length),ai 73 ((s.tape.iI:Int) != ((s.jg+s.params.length:Nat):Int))<|s5,tF 79 (4<(s.params.length:Int)) aC,.c (AG true _ _ 132 [] (λ_=>false) (λi hi=>arz _ (h.params i hi).1 (h.params i hi).2) aC λ_ _=>rfl:il 39 [iG s.params,.fn 132 []] _)])
def Ue(o:jv)(x y:Iv)(p:Nat)(hx:x.ix)(hy:y.ix)(r1:3<=o.kind)(r2:o.kind<=13)(r3:o.n<=16)(iC:8<=p)(iu:p<=512)(hF:o.kind<=8\/yH):il 276 [iP o.kind,iP o.n,iA x,iA y,iP p]<|iA<|nC o x y p:=
 iE (.w ((o.kind:Int)=3)
  (λk1=>ae [tB 13<|aZ k1,.c<|BW x y p aD aD]<|rQ (iA<|kO x y p) (iA<|nC o x y p)<|by unfold nC;simp[(aC:o.kind=3)])
  (λk1=>ae [tB 13<|aY k1]<|.w ((o.kind:Int)=4)
   (λk2=>ae [tB 19<|aZ k2,.c<|EO x y p aD aD]<|rQ (iA<|nn x y p) (iA<|nC o x y p)<|by unfold nC;simp[(aC:¬o.kind=3),(aC:o.kind=4)])
   (λk2=>ae [tB 19<|aY k2]<|.w ((o.kind:Int)=5)
    (λk3=>ae [tB 25<|aZ k3,.c<|vY x y p aD aD]<|rQ (iA<|kf x y p) (iA<|nC o x y p)<|by unfold nC;simp[(aC:¬o.kind=3),(aC:¬o.kind=4),(aC:o.kind=5)])
    (λk3=>ae [tB 25<|aY k3]<|.w ((o.kind:Int)=6)
     (λk4=>ae [tB 31<|aZ k4,.c<|Jx x y p aD aD]<|rQ (iA<|lv x y p) (iA<|nC o x y p)<|by unfold nC;simp[(aC:¬o.kind=3),(aC:¬o.kind=4),(aC:¬o.kind=5),(aC:o.kind=6)])
     (λk4=>ae [tB 31<|aY k4]<|.w ((o.kind:Int)=7)
      (λk5=>ae [tB 37<|aZ k5,.c<|MJ x aD]<|rQ (iA<|tu x) (iA<|nC o x y p)<|by unfold nC;simp[(aC:¬o.kind=3),(aC:¬o.kind=4),(aC:¬o.kind=5),(aC:¬o.kind=6),(aC:o.kind=7)])
      (λk5=>ae [tB 37<|aY k5]<|.w ((o.kind:Int)=8)
       (λk6=>ae [tB 41<|aZ k6,.c<|Ux x o.n p aD aC aC aC]<|rQ (iA<|rE x o.n p) (iA<|nC o x y p)<|by unfold nC;simp[(aC:¬o.kind=3),(aC:¬o.kind=4),(aC:¬o.kind=5),(aC:¬o.kind=6),(aC:¬o.kind=7),(aC:o.kind=8)])
       (λk6=>ae [tB 41<|aY k6]<|.w ((o.kind:Int)=9)
        (λk7=>ae [tB 47<|aZ k7,.c<|aiC x aD p aC aC<|hF.resolve_left aC]<|rQ (iA<|FZ x p) (iA<|nC o x y p)<|by unfold nC;simp[(aC:¬o.kind=3),(aC:¬o.kind=4),(aC:¬o.kind=5),(aC:¬o.kind=6),(aC:¬o.kind=7),(aC:¬o.kind=8),(aC:o.kind=9)])
        (λk7=>ae [tB 47<|aY k7]<|.w ((o.kind:Int)=10)
         (λk8=>ae [tB 52<|aZ k8,.c<|aiE x aD p aC aC<|hF.resolve_left aC]<|rQ (iA<|F0 x p) (iA<|nC o x y p)<|by unfold nC;simp[(aC:¬o.kind=3),(aC:¬o.kind=4),(aC:¬o.kind=5),(aC:¬o.kind=6),(aC:¬o.kind=7),(aC:¬o.kind=8),(aC:¬o.kind=9),(aC:o.kind=10)])
         (λk8=>ae [tB 52<|aY k8]<|.w ((o.kind:Int)=11)
          (λk9=>ae [tB 57<|aZ k9,.c<|Ww x aD p aC aC<|hF.resolve_left aC]<|rQ (iA<|Al x p) (iA<|nC o x y p)<|by unfold nC;simp[(aC:¬o.kind=3),(aC:¬o.kind=4),(aC:¬o.kind=5),(aC:¬o.kind=6),(aC:¬o.kind=7),(aC:¬o.kind=8),(aC:¬o.kind=9),(aC:¬o.kind=10),(aC:o.kind=11)])
          (λk9=>ae [tB 57<|aY k9]<|.w ((o.kind:Int)=12)
           (λk10=>ae [tB 62<|aZ k10,.c<|Wu x aD p aC aC<|hF.resolve_left aC]<|rQ (iA<|Bt x p) (iA<|nC o x y p)<|by unfold nC;simp[(aC:¬o.kind=3),(aC:¬o.kind=4),(aC:¬o.kind=5),(aC:¬o.kind=6),(aC:¬o.kind=7),(aC:¬o.kind=8),(aC:¬o.kind=9),(aC:¬o.kind=10),(aC:¬o.kind=11),(aC:o.kind=12)])
           (λk10=>ae [tB 62<|aY k10]<|.w ((o.kind:Int)=13)
            (λk11=>ae [tB 67<|aZ k11,.c<|aiG x aD p aC aC<|hF.resolve_left aC]<|rQ (iA<|F1 x p) (iA<|nC o x y p)<|by unfold nC;simp[(aC:¬o.kind=3),(aC:¬o.kind=4),(aC:¬o.kind=5),(aC:¬o.kind=6),(aC:¬o.kind=7),(aC:¬o.kind=8),(aC:¬o.kind=9),(aC:¬o.kind=10),(aC:¬o.kind=11),(aC:¬o.kind=12),(aC:o.kind=13)])
            (λk11=>.x aC))))))))))))
def UR{nl:Bool}{T n n' sz:Nat}{f g h:Nat->Nat->E}(hn:n=n')(hh:∀ i j,i<n->j<sz->g i j=h i j/\(h i j).nr 2=true):Bx.le (.row nl T (0+n) sz λi j=>if i<0 then f i j else g (i-0) j)<|.row nl T n' sz h:=
 .row aC λi j hi hj=>by
  have lg:i<n:= aC ;simp only[bC,bB,eD];exact⟨.jq (hh i j lg hj).1,(hh i j lg hj).2⟩
def Af(r:List Iv)(h0:0<r.length:=by omega)(hl:r.length<=1000:=by omega):zZ 135 [iG r] true 41 r.length 7<|jC r:=
 trn call135 func135 (ae [.a (aC:0<r.length),.bo,.a (aC:(0+r.length)*88<=140737488355328)]<|.rb (UR rfl λi j hi hj=>⟨rfl,AF _ _ hj⟩:Bx.le (.row true 41 (0+r.length) 7 λi_ j_=>if i_<0 then(λi_ j_=>([]:List E).getD (i_*7+j_)<|.v<|.bool false) i_ j_ else(E.ky<|iG r) (i_-0) j_)<|.row true 41 r.length 7<|jC r)) aF 
def TC{T n n' x:Nat}{t:je}{xs:List Iv}{p:Nat}{y:Iv}(hn:n=(jH t.iq xs p x).length)(sU:n'=(jH t.iq xs p<|x+1).length)(hy:Ae (t.iq.getD x iU) (jH t.iq xs p x) p=y):
 Bx.le (.row true T (n+[y].length) 7 λi j=>if i<n then jC (jH t.iq xs p x) i j else(E.ky<|iG [y]) (i-n) j) (.row true T n' 7<|jC<|jH t.iq xs p<|x+1):=by
 subst sU hy;exact RE hn
def aba{o:jv}{m:Nat}(h:ns o m):o.n<=16:=by
 have:=h.n;split at this<;>omega
def ac4(t:je)(xs:List Iv)(p:Nat)(h:wF t)(h1:1<=xs.length)(hx:xs.length=t.iI)(hv:mS xs)(iC:8<=p)(iu:p<=512):il 226 [jT t,iG xs,iP p]<|iG<|jH t.iq xs p t.iq.length:=by
 have h8:=h.iI;have ss:=h.iq;exact iE (af [ag [jT t]<|KH _ aD,ai 19 ((xs.length:Int) != (t.iI:Int))<|s5 hx,.cn (Af _:zZ 135 [iG xs] true 41 xs.length 7<|jC xs),.s (Sp.jP (ac3 t xs p) 0 t.iq.length aC (λx hx mX=>by
    have iK:=h.op x aC;have Az:=Ht t.iq hv (aC:1<=p) (aC:p<=4096) x;have C4:=Hs t.iq xs p x;have w1:=Az (t.iq.getD x iU).a;by_cases oP:((t.iq.getD x iU)).kind=1
    .have sG:((t.iq.getD x iU)).kind=1:=oP;obtain⟨o1,o2,o3,vk⟩:=iK.num sG;have sX:Ae (t.iq.getD x iU) (jH t.iq xs p x) p=(uL (t.iq.getD x iU).cn (t.iq.getD x iU).cd p):=by unfold Ae;rw[bk sG]
     have qB:=pJ<|uL (t.iq.getD x iU).cn (t.iq.getD x iU).cd p;exact iS (ae [tT 27 ((x:Int)<t.iq.length) aC,iX (x:Int)<|t.iq.length,ag [iP ((t.iq.getD x iU).kind:Int)]<|abd _ aC,ah 50 ((0:Int)==0) aE,.c<|aoM ((t.iq.getD x iU).cn) ((t.iq.getD x iU).cd) p aD aC aC,.o 71<|.e<|mn<|uL ((t.iq.getD x iU).cn) ((t.iq.getD x iU).cd) p,.a (aC:((jH t.iq xs p x).length+[uL ((t.iq.getD x iU).cn) ((t.iq.getD x iU).cd) p].length)*88<=140737488355328),iL<|(x:Int)+1]<|.e<|af [.b 22 (TC rfl rfl sX:Bx.le (.row true 41 ((jH t.iq xs p x).length+[uL ((t.iq.getD x iU).cn) ((t.iq.getD x iU).cd) p].length) 7 λi_ j_=>if i_<(jH t.iq xs p x).length then(jC<|jH t.iq xs p x) i_ j_ else(E.ky<|iG [uL ((t.iq.getD x iU).cn) ((t.iq.getD x iU).cd) p]) (i_-(jH t.iq xs p x).length) j_)<|.row true 41 ((jH t.iq xs p<|x+1).length) 7<|jC<|jH t.iq xs p<|x+1)]) aF 
    .by_cases hk:((t.iq.getD x iU)).kind<=6
     .have I8:((t.iq.getD x iU)).kind≠1:=oP;have sG:((t.iq.getD x iU)).kind<=6:=hk;have sX:Ae (t.iq.getD x iU) (jH t.iq xs p x) p=(nC (t.iq.getD x iU) ((jH t.iq xs p x).getD ((t.iq.getD x iU).a) iw) ((jH t.iq xs p x).getD ((t.iq.getD x iU).b) iw) p):=by unfold Ae O8;rw[bj I8,bu sG];rfl
      obtain⟨o1,o2,o3,o4,o5,o6⟩:=iK.iV I8 sG;have w2:=Az (t.iq.getD x iU).b;have o7:=iK.BY;have qB:=pJ<|nC (t.iq.getD x iU) ((jH t.iq xs p x).getD ((t.iq.getD x iU).a) iw) ((jH t.iq xs p x).getD ((t.iq.getD x iU).b) iw) p;exact iS (ae [tT 27 ((x:Int)<t.iq.length) aC,iX (x:Int)<|t.iq.length,ag [iP ((t.iq.getD x iU).kind:Int)]<|abe _ aC aC,ai 50 ((2:Int)==0) aE,ai 56 ((2:Int)==1) aE,iX ((t.iq.getD x iU).a:Int)<|(jH t.iq xs p x).length,.a (aC:(t.iq.getD x iU).a<(jH t.iq xs p x).length),iX ((t.iq.getD x iU).b:Int)<|(jH t.iq xs p x).length,.a (aC:(t.iq.getD x iU).b<(jH t.iq xs p x).length),ag [iP ((t.iq.getD x iU).kind:Int),iP ((t.iq.getD x iU).n:Int),iA<|(jH t.iq xs p x).getD (t.iq.getD x iU).a iw,iA<|(jH t.iq xs p x).getD (t.iq.getD x iU).b iw,iP p]<|Ue (t.iq.getD x iU) _ _ _ aD aD aC aC aC aC aC iK.f,.o 71<|.e<|mn<|nC (t.iq.getD x iU) ((jH t.iq xs p x).getD (t.iq.getD x iU).a iw) ((jH t.iq xs p x).getD (t.iq.getD x iU).b iw) p,.a (aC:((jH t.iq xs p x).length+[nC (t.iq.getD x iU) ((jH t.iq xs p x).getD (t.iq.getD x iU).a iw) ((jH t.iq xs p x).getD (t.iq.getD x iU).b iw) p].length)*88<=140737488355328),
       iL ((x:Int)+1)]<|.e<|af [.b 22 (TC rfl rfl sX:Bx.le (.row true 41 ((jH t.iq xs p x).length+[nC (t.iq.getD x iU) ((jH t.iq xs p x).getD (t.iq.getD x iU).a iw) ((jH t.iq xs p x).getD (t.iq.getD x iU).b iw) p].length) 7 λi_ j_=>if i_<(jH t.iq xs p x).length then(jC<|jH t.iq xs p x) i_ j_ else(E.ky<|iG [nC (t.iq.getD x iU) ((jH t.iq xs p x).getD (t.iq.getD x iU).a iw) ((jH t.iq xs p x).getD (t.iq.getD x iU).b iw) p]) (i_-(jH t.iq xs p x).length) j_)<|.row true 41 ((jH t.iq xs p<|x+1).length) 7<|jC<|jH t.iq xs p<|x+1)]) aF 
     .have I8:((t.iq.getD x iU)).kind≠1:=oP;have sG:¬((t.iq.getD x iU)).kind<=6:=hk;have sX:Ae (t.iq.getD x iU) (jH t.iq xs p x) p=(nC (t.iq.getD x iU) ((jH t.iq xs p x).getD ((t.iq.getD x iU).a) iw) iw p):=by unfold Ae O8;rw[bj I8,bn sG];rfl
      have w2:=ln;have o2:=iK.ON I8;have o7:=iK.BY;have o8:=aba iK;have qB:=pJ<|nC (t.iq.getD x iU) ((jH t.iq xs p x).getD ((t.iq.getD x iU).a) iw) iw p;exact iS (ae [tT 27 ((x:Int)<t.iq.length) aC,iX (x:Int)<|t.iq.length,ag [iP ((t.iq.getD x iU).kind:Int)]<|Sv _ aC aC,ai 50 ((1:Int)==0) aE,ah 56 ((1:Int)==1) aE,iX ((t.iq.getD x iU).a:Int)<|(jH t.iq xs p x).length,.a (aC:(t.iq.getD x iU).a<(jH t.iq xs p x).length),.o 66 (.e Ba:aj (.agg [bP false,.v<|.slice none 0 0,iP 0,bP false,.v<|.slice none 0 0,iP 0,bP true])<|iA iw),ag [iP ((t.iq.getD x iU).kind:Int),iP ((t.iq.getD x iU).n:Int),iA<|(jH t.iq xs p x).getD (t.iq.getD x iU).a iw,iA iw,iP p]<|Ue (t.iq.getD x iU) _ _ _ aD aD aC aC aC aC aC iK.f,.o 71<|.e<|mn<|nC (t.iq.getD x iU) ((jH t.iq xs p x).getD (t.iq.getD x iU).a iw) iw p,.a (aC:((jH t.iq xs p x).length+[nC (t.iq.getD x iU) ((jH t.iq xs p x).getD (t.iq.getD x iU).a iw) iw p].length)*88<=140737488355328),iL<|(x:Int)+1]<|.e<|af [.b 22 (TC rfl rfl sX:Bx.le (.row true 41 ((jH t.iq xs p x).length+[nC (t.iq.getD x iU) ((jH t.iq xs p x).getD (t.iq.getD x iU).a iw) iw p].length) 7 λi_ j_=>if i_<(jH t.iq xs p x).length then(jC<|jH t.iq xs p x) i_ j_ else(E.ky<|iG [nC (t.iq.getD x iU) ((jH t.iq xs p x).getD (t.iq.getD x iU).a iw) iw p]) (i_-(jH t.iq xs p x).length) j_)<|.row true 41 ((jH t.iq xs p<|x+1).length) 7<|jC<|jH t.iq xs p<|x+1)]) aF)
  (λhx=>by
    exact iS (ae [tF 27 ((t.iq.length:Int)<t.iq.length) aC,.z 22]<|.e<|af [.o 7 (.e<|xj aH:aj (.sl true ((jH t.iq xs p t.iq.length).length) 7<|jC<|jH t.iq xs p t.iq.length)<|iG<|jH t.iq xs p t.iq.length)]) aF) aI:jM 5 f226 (ac3 t xs p 0) (.exit 0) ⟨75,true,[(7,.e<|iG<|jH t.iq xs p t.iq.length)],[]⟩)<|af [.b 22<|.refl<|.row true 41 ((jH t.iq xs p 0).length) 7<|jC<|jH t.iq xs p 0]])
def pn(m:List<|List Iv):Nat->List Iv
 | 0=>[]
 |k+1=>pn m k++m.getD k []
def Pm(m:List<|List Iv)(k:Nat):(pn m<|k+1).length=(pn m k).length+(m.getD k []).length:=by simp[pn]
def alg{T n n':Nat}{xs r:List Iv}(hn:n=xs.length)(sU:n'=(xs++r).length):Bx.le (.row true T (n+r.length) 7 λi j=>if i<n then jC xs i j else(E.ky<|iG r) (i-n) j)<|.row true T n' 7<|jC<|xs++r:=by
 subst hn sU;refine .row aH λi j hi hj=>⟨.jq ?_,AF _ _ hj⟩
 by_cases h:i<xs.length
 .rw [bk h];show(jS<|xs.getD i iw).getD j .any=(jS<|(xs++r).getD i iw).getD j .any;congr 2;simp[bt,dh h]
 .rw [bj h];show(jS<|r.getD (i-xs.length) iw).getD j .any=(jS<|(xs++r).getD i iw).getD j .any;congr 2;simp[bt,dL (aC:xs.length<=i)]
def B6(a b:List Iv):E.le (.sl true 2 1 λi j=>[iG a,iG b].getD (i*1+j)<|.v<|.bool false)<|j9 [a,b]:=.sl λi j hi hj=>by
 obtain rfl:j=0:= aC ;obtain rfl|rfl:i=0\/i=1:= aC 
 all_goals exact⟨.refl _,rfl⟩
section
variable(m:List<|List Iv)
def U5(x:Nat):PS:=⟨36,true,[(11,.e<|iP x),(10,.e<|iP m.length),(9,.e<|j9 m),(3,.e<|iP ((pn m x).length:Int)),(0,.e<|j9 m)],[]⟩
def U6(x:Nat):PS:=⟨36,true,[(27,.e<|iP x),(26,.e<|iP m.length),(25,.e<|j9 m),(6,.own 24)],[(24,.row true 41 ((pn m x).length) 7<|jC<|pn m x)]⟩
def agt(hl:m.length<=1000)(hb:∀ k,k<=m.length->(pn m k).length<=1000):il 79 [j9 m]<|iG<|pn m m.length:=by
 have rO:=hb m.length<|bw _;exact iE (af [.s (Sp.jP (U5 m) 0 m.length aC (λx hx mX=>by
    have kI:=hb (x+1) aC;rw[Pm]at kI;exact iS (ae [tT 12 ((x:Int)<m.length) aC,iX (x:Int)<|m.length,iL<|((pn m x).length:Int)+((m.getD x []).length:Int),tF 20 ((((pn m x).length+(m.getD x []).length:Nat):Int)<0) aC,iL<|(x:Int)+1]<|.e<|af [.o 3<|aq (((pn m x).length+(m.getD x []).length:Nat):Int) ((pn m<|x+1).length:Int)<|by rw[Pm]]) aF)
  (λhx=>by
    exact iS (af [tF 12 ((m.length:Int)<m.length) aC]) aF) aI:jM 3 Tryz.f79 (U5 m 0) (.exit 0) ⟨36,true,[(3,.e<|iP ((pn m m.length).length:Int)),(0,.e<|j9 m)],[]⟩)<|af [.o 3<|aq 0 ((pn m 0).length:Int) rfl],.cn (W8 _ aC:zZ 140 [.v<|.slice none 0 0,iP ((pn m m.length).length:Int)] true 41 0 7<|jC []),.s (Sp.jP (U6 m) 0 m.length aC (λx hx mX=>by
    have kI:=hb (x+1) aC;rw[Pm]at kI;exact iS (ae [tT 28 ((x:Int)<m.length) aC,iX (x:Int)<|m.length,.a (aC:((pn m x).length+(m.getD x []).length)*88<=140737488355328),iL<|(x:Int)+1]<|.e<|af [.b 24 (alg rfl rfl:Bx.le (.row true 41 ((pn m x).length+(m.getD x []).length) 7 λi_ j_=>if i_<(pn m x).length then(jC<|pn m x) i_ j_ else(E.ky<|iG<|m.getD x []) (i_-(pn m x).length) j_)<|.row true 41 ((pn m<|x+1).length) 7<|jC<|pn m<|x+1)]) aF)
  (λhx=>by
    exact iS (ae [tF 28 ((m.length:Int)<m.length) aC,.z 24]<|.e<|af [.o 6 (.e<|xj aH:aj (.sl true ((pn m m.length).length) 7<|jC<|pn m m.length)<|iG<|pn m m.length)]) aF) aI:jM 11 Tryz.f79 (U6 m 0) (.exit 2) ⟨36,true,[(6,.e<|iG<|pn m m.length)],[]⟩)<|af [.b 24<|.refl<|.row true 41 ((pn m 0).length) 7<|jC<|pn m 0]])
end
def CH(a b:List Iv)(ha:a.length<=400:=by omega)(hb:b.length<=400:=by omega):il 79 [j9 [a,b]]<|iG<|a++b:=by
 have e1:pn [a,b] 1=a:=rfl;have e2:pn [a,b] 2=a++b:=rfl;have:=agt [a,b] aH λk hk=>by
  have hk:k<=2:=hk;rcases k with _|_|_|k
  .exact ck _
  .rw [e1];omega
  .rw [e2,cz];omega
  .omega
 rwa[show[a,b].length=2 from rfl,e2]at this
def L9(p:Int):il 157 [iP p]<|bP<|kA p:=
 iE (.w (8<=p)
  (λk1=>ae [tB 4<|bu k1]<|rQ (bP<|decide (p<=512)) (bP<|kA p)<|by unfold kA;simp[k1])
  (λk1=>ae [tB 4<|bn k1]<|rQ (bP false) (bP<|kA p)<|by unfold kA;simp[k1]))
def aiZ(x:Iv)(hx:x.ix):il 273 [iA x]<|bP false:=
 iE (af [.c<|qG x aD])
section
variable(t:je)(xs:List Iv)(p:Nat)
def WV(h:wF t)(h1:1<=xs.length)(hx:xs.length=t.iI)(hv:mS xs)(iC:8<=p)(iu:p<=512):il 225 [jT t,iG xs,iP p]<|bP true:=by
 have h8:=h.iI;exact iE<|af [.c<|KH t aD,ah 14 ((xs.length:Int)==t.iI)<|GO hx,ag [iP p]<|L9 _,ah 18 (kA (p:Int))<|oo.2 ⟨aC,aC⟩,.c (AG true _ _ 273 [] (λ_=>false) (λi hi=>aiZ _<|hv i) aC λ_ _=>rfl:il 39 [iG xs,.fn 273 []] _)]
def Wz:(List.range t.iz.length).map (λj=>(jH t.iq xs p t.iq.length).getD (t.iz.getD j 0) iw)=kH t xs p:=by
 unfold kH;apply att;intro i;rw[cC,cC];by_cases hi:i<t.iz.length
 .rw [bD<|by simpa using hi,bD hi];simp[bt,hi]
 .rw [bW<|by simpa using hi,bW aC];rfl
end
def aiV(x:Iv):il 224 [iA x]<|bP x.all:=
 iE (.nil)
def CP(l:List Iv)(hl:l.length<=1000:=by omega):il 155 [iG l]<|bP<|ni l:=
 iE (af [.c (Dd true _ _ 224 [] (λi=>(l.getD i iw).all) λi hi=>aiV _:il 39 [iG l,.fn 224 []] _)])
def Qe(x:Iv)(hx:x.ix):il 156 [iA x]<|bP false:=
 iE (af [.c<|qG x aD])
def Sc{l:List Iv}(h:oW l):ni l=false:=by
 unfold ni;rw[cI];intro i hi;rw[(h i<|bN.1 hi).2];decide
def Li{s:lY}{b:List Iv}(h:nK s)(hb:lN s.jg b):wF s.tape/\1<=(b++s.params).length/\(b++s.params).length=s.tape.iI/\mS (b++s.params):=by
 have h1:=h.s1;have h2:=h.iI;have h3:=hb.len;refine⟨h.tape,?_,?_,hb.ok.sc.append h.params.sc⟩
 .rw [cz];omega
 .rw [cz];omega
def jb(f:Nat->Rat):Nat->Rat
 | 0=>0
 |n+1=>jb f n+f n
def rH{f g:Nat->Rat}:∀ n,(∀ i,i<n->f i=g i)->jb f n=jb g n
 | 0,_=>rfl
 |n+1,h=>by rw[jb,jb,rH n λi hi=>h i aC,h n aC]
def Fx{f g:Nat->Rat}:∀ n,(∀ i,i<n->f i<=g i)->jb f n<=jb g n
 | 0,_=>cQ
 |n+1,h=>by
  have h1:=Fx n λi hi=>h i aC;have h2:=h n aC;rw[jb,jb];grind
def Fy{f:Nat->Rat}(n:Nat)(h:∀ i,i<n->0<=f i):0<=jb f n:=by
 induction n with
 |zero=>exact cQ
 |succ n ih=>
  have h1:=ih λi hi=>h i aC;have h2:=h n aC;rw[jb];grind
def DH(f:Nat->Rat)(c:Rat):∀ n,jb (λi=>c*f i) n=c*jb f n
 | 0=>by simp[jb]
 |n+1=>by rw[jb,jb,DH f c n];grind
def Hj(f:Nat->Rat)(c:Rat):∀ n,jb (λi=>f i*c) n=jb f n*c
 | 0=>by simp[jb]
 |n+1=>by rw[jb,jb,Hj f c n];grind
def KD(f g:Nat->Rat):∀ n,jb (λi=>f i+g i) n=jb f n+jb g n
 | 0=>by simp only[jb];grind
 |n+1=>by rw[jb,jb,jb,KD f g n];grind
def KE(f:Nat->Nat->Rat)(m:Nat):∀ n,jb (λi=>jb (λj=>f i j) m) n=jb (λj=>jb (λi=>f i j) n) m
 | 0=>by
  have:∀ m,jb (λ_=>(0:Rat)) m=0:=by
   intro m
   induction m with
   |zero=>rfl
   |succ m ih=>rw[jb,ih];grind
  exact(this m).symm
 |n+1=>by
  rw[jb,KE f m n,<-KD];rfl
def acN(f:Nat->Rat):∀ n,jb f (n+1)=f 0+jb (λi=>f<|i+1) n
 | 0=>by simp only[jb];grind
 |n+1=>by rw[jb,acN f n,jb];grind
def jr(x:Rat):Rat:=if 0<=x then x else -x
def nB(x:Rat):0<=jr x/\x<=jr x /\ -x<=jr x/\(jr x=x/\0<=x\/jr x = -x/\x<=0):=by unfold jr;split<;>grind
def Bk{x b:Rat}(h1:x<=b)(h2:-x<=b):jr x<=b:=by unfold jr;split<;>grind
def T3(x y:Rat):jr (x+y)<=jr x+jr y:=by
 obtain⟨a1,a2,a3,_⟩:=nB x;obtain⟨b1,b2,b3,_⟩:=nB y;exact Bk aK aK 
def Bl(x y:Rat):jr (x*y)=jr x*jr y:=by
 obtain⟨_,_,_,a⟩:=nB x;obtain⟨_,_,_,b⟩:=nB y;obtain⟨c1,_,_,c⟩:=nB<|x*y;rcases a with⟨e1,h1⟩|⟨e1,h1⟩<;>rcases b with⟨e2,h2⟩|⟨e2,h2⟩<;>rw[e1,e2]
 .have:=ct h1 h2;grind
 .have:=ct h1 (show 0 <= -y by grind);grind
 .have:=ct (show 0 <= -x by grind) h2;grind
 .have:=ct (show 0 <= -x by grind) (show 0 <= -y by grind);grind
def FH(f:Nat->Rat):∀ n,jr (jb f n)<=jb (λi=>jr<|f i) n
 | 0=>by simp[jb,jr]
 |n+1=>by
  have h1:=FH f n;have h2:=T3 (jb f n)<|f n;rw[jb,jb];grind
def T4:jr 0=0:=rfl
abbrev QM:=Nat->Nat->Rat
def rZ(n:Nat)(A B:QM):QM:=λi j=>jb (λq=>A i q*B q j) n
def AY:QM:=λi j=>if i=j then 1 else 0
def TQ(n:Nat)(M:QM)(t:Rat):Nat->QM
 | 0=>AY
 |j+1=>λi l=>t/((j+1:Nat):Rat)*rZ n (TQ n M t j) M i l
def SQ(n:Nat)(M:QM)(t:Rat):Nat->QM
 | 0=>AY
 |j+1=>λi l=>SQ n M t j i l+TQ n M t (j+1) i l
def aaZ(j:Nat):(jj (j:Int)).kq ((j:Nat):Rat):=by have:=Cb (j:Int);rwa[eG]at this
section
variable {m:List<|List Iv} {h:Iv} {M:QM} {t:Rat} {n p:Nat}
def Cw(n:Nat)(A:QM)(b:Rat):Prop:=∀ i,i<n->jb (λl=>jr<|A i l) n<=b
def ap9{A B:QM}{a b:Rat}(_h0:0<=a)(hb:0<=b)(h1:Cw n A a)(h2:Cw n B b):Cw n (rZ n A B)<|a*b:=by
 intro i hi;have e1:jb (λl=>jr<|rZ n A B i l) n<=jb (λl=>jb (λq=>jr (A i q)*jr (B q l)) n) n:=
  Fx n λl _=>by
   have:=FH (λq=>A i q*B q l) n;rw[show(λq=>jr<|A i q*B q l)=λq=>jr (A i q)*jr (B q l)from funext λq=>Bl _ _]at this;exact this
 rw[KE]at e1;have e2:jb (λq=>jb (λl=>jr (A i q)*jr (B q l)) n) n<=jb (λq=>jr (A i q)*b) n:=
  Fx n λq hq=>by
   rw[DH];exact dc (h2 q hq) (nB _).1
 rw[Hj]at e2;exact bZ e1<|bZ e2<|cN (h1 i hi) hb
def eQ(c:Rat):Nat->Rat
 | 0=>1
 |j+1=>eQ c j*(c/((j+1:Nat):Rat))
def Dl(j:Nat):(0:Rat)<((j+1:Nat):Rat):=gR.2 aC 
def VR{a b:Rat}(h1:0<=a)(h2:0<b):0<=a/b:=by
 rw[dp];exact ct h1<|b9<|fZ.2 h2
def xM{c:Rat}(h:0<=c):∀ j,0<=eQ c j
 | 0=>by simp only[eQ];decide
 |j+1=>ct (xM h j)<|VR h<|Dl j
def arf(n i:Nat):jb (λl=>jr<|AY i l) n<=1/\(n<=i->jb (λl=>jr<|AY i l) n=0):=by
 induction n with
 |zero=>exact⟨by simp only[jb];grind,λ_=>rfl⟩
 |succ n ih=>
  have e1:jr 1=1:= aE ;simp only[jb,AY]at ih ⊢;by_cases h:i=n
  .have:=ih.2 aC ;rw[this,bk h,e1];exact⟨aK,λh'=>absurd h' aC⟩
  .rw [bj h,T4,Rat.add_zero];exact⟨ih.1,λh'=>ih.2 aC⟩
def ap6{A:QM}{b:Rat}(h:Cw n A b){i l:Nat}(hi:i<n)(hl:l<n):jr (A i l)<=b:=by
 have h1:=h i hi;have:∀ m,l<m->jr (A i l)<=jb (λl=>jr<|A i l) m:=by
  intro m hm
  induction m with
  |zero=>omega
  |succ m ih=>
   rw[jb];have h0:=Fy m (f:=λl=>jr<|A i l) λi _=>(nB _).1
   have h2:=(nB<|A i m).1;by_cases hq:l=m
   .subst hq;grind
   .have:=ih aC;grind
 exact bZ (this n hl) h1
end
def N7(g:Nat->Nat->Rat):∀ m,jb (λj=>jb (g j)<|m-j) m=jb (λs=>jb (λj=>g j<|s-j)<|s+1) m
 | 0=>rfl
 |m+1=>by
  have ih:=N7 g m;have e1:jb (λj=>jb (g j)<|m+1-j) m=jb (λj=>jb (g j) (m-j)+g j (m-j)) m:=
   rH m λj hj=>by rw[(aC:m+1-j=m-j+1)];rfl
  have h1:jb (g m) (m+1-m)=g m 0:=by
   rw[(aC:m+1-m=0+1)];simp only[jb];grind
  have h2:jb (λj=>g j<|m-j) (m+1)=jb (λj=>g j<|m-j) m+g m (m-m):=rfl;show jb (λj=>jb (g j)<|m+1-j) m+jb (g m) (m+1-m)=jb (λs=>jb (λj=>g j<|s-j)<|s+1) m+jb (λj=>g j<|m-j) (m+1);rw[e1,KD,h1,h2,ih,dg]
  grind
def KF{f:Nat->Rat}(h:∀ i,0<=f i){m k:Nat}(hk:m<=k):jb f m<=jb f k:=by
 induction k with
 |zero=>
  have:m=0:= aC ;rw[this];exact cQ
 |succ k ih=>
  by_cases hm:m=k+1
  .rw [hm];exact cQ
  .have:=ih aC ;have:=h k;rw[jb];grind
def Hk(f:Nat->Rat)(m:Nat):∀ d,jb f (m+d)=jb f m+jb (λi=>f<|m+i) d
 | 0=>by simp only[jb,cj];grind
 |d+1=>by
  show jb f (m+d)+f (m+d)=_;rw[Hk f m d,jb];grind
def LN(c:Rat)(j:Nat):eQ c (j+1)*((j+1:Nat):Rat)=c*eQ c j:=by
 have h:c/((j+1:Nat):Rat)*((j+1:Nat):Rat)=c:=ev (by have:=Dl j;grind);simp only[eQ];grind
def Lg(a b:Rat):∀ s,jb (λj=>eQ b j*eQ a (s-j)) (s+1)=eQ (a+b) s
 | 0=>by
  show 0+eQ b 0*eQ a 0=1;simp only[eQ];grind
 |s+1=>by
  have ih:=Lg a b s;have hp:=Dl s;have key:jb (λj=>eQ b j*eQ a (s+1-j)) (s+2)*((s+1:Nat):Rat)=(a+b)*eQ (a+b) s:=by
   have e0:jb (λj=>eQ b j*eQ a (s+1-j)) (s+2)*((s+1:Nat):Rat)=jb (λj=>(j:Rat)*(eQ b j*eQ a (s+1-j))+eQ b j*(((s+1-j:Nat):Rat)*eQ a (s+1-j))) (s+2):=by
    rw[<-Hj];refine rH _ λj hj=>?_
    have:((s+1:Nat):Rat)=(j:Rat)+((s+1-j:Nat):Rat):=by rw[<-eH];congr 1;omega
    rw[this];grind
   rw[e0,KD];have e1:jb (λj=>(j:Rat)*(eQ b j*eQ a (s+1-j))) (s+2)=b*eQ (a+b) s:=by
    rw[acN,<-ih,<-DH];have z:(((0:Nat):Rat))=0:=rfl;rw[z,Rat.zero_mul,Rat.zero_add];refine rH _ λj hj=>?_
    have h1:=LN b j;rw[(aC:s+1-(j+1)=s-j)]
    grind
   have e2:jb (λj=>eQ b j*(((s+1-j:Nat):Rat)*eQ a (s+1-j))) (s+2)=a*eQ (a+b) s:=by
    rw[(aC:s+2=(s+1)+1),jb,dg,<-ih,<-DH];have z:(((0:Nat):Rat))=0:=rfl;rw[z,Rat.zero_mul,Rat.mul_zero,Rat.add_zero];refine rH _ λj hj=>?_
    have h1:=LN a<|s-j;rw[(aC:s+1-j=s-j+1)]
    grind
   rw[e1,e2];grind
  have h2:=LN (a+b) s;have h3:jb (λj=>eQ b j*eQ a (s+1-j)) (s+2)*((s+1:Nat):Rat)=eQ (a+b) (s+1)*((s+1:Nat):Rat):=by rw[key,h2]
  exact gh (fV (by rw[h3];exact cQ) hp)<|fV (by rw[h3];exact cQ) hp
def IF(c:Rat):∀ j,jr (eQ c j)=eQ (jr c) j
 | 0=>by simp only[eQ];decide
 |j+1=>by
  simp only[eQ];rw[Bl,IF c j];congr 1;rw[dp,dp,Bl];congr 1;have:=fZ.2<|Dl j;unfold jr;rw[bk<|b9 this]
def xv(v:Rat):Nat->Rat
 | 0=>1
 |j+1=>xv v j*v
def abl(v:Rat)(i:Nat):∀ j,xv v (i+j)=xv v i*xv v j
 | 0=>by simp only[xv,cj];grind
 |j+1=>by
  show xv v (i+j)*v=_;rw[abl v i j,xv];grind
def abm{v:Rat}(h:0<=v):∀ j,0<=xv v j
 | 0=>by simp only[xv];decide
 |j+1=>ct (abm h j) h
def PM(c v:Rat):∀ j,eQ (c*v) j=eQ c j*xv v j
 | 0=>by simp only[eQ,xv];grind
 |j+1=>by
  simp only[eQ,xv];rw[PM c v j];simp only[dp];grind
def Uf(q:Rat):∃ n:Nat,q<=(n:Rat):=by
 refine⟨q.ceil.toNat,?_⟩;have h1:q<=(q.ceil:Rat):=Rat.le_ceil;have h2:((q.ceil:Int):Rat)<=((q.ceil.toNat:Nat):Rat):=by
  rw[<-eG,gQ];omega
 exact bZ h1 h2
def Tn{z:Rat}{J:Nat}(hz:0<=z)(hJ:z*2<=(J:Rat)){m:Nat}(hm:J<=m):eQ z (m+1)*2<=eQ z m:=by
 have h0:=xM hz m;have h1:=LN z m;have hp:=Dl m;have Qr:z*2<=((m+1:Nat):Rat):=bZ hJ<|dW.2 aC;apply fV (c:=((m+1:Nat):Rat)) _ hp;have h2:=dc Qr h0
 grind
def To{z:Rat}{J:Nat}(hz:0<=z)(hJ:z*2<=(J:Rat)){m:Nat}(hm:J<=m):∀ d,jb (λi=>eQ z<|m+i) d+eQ z (m+d)*2<=eQ z m*2
 | 0=>by simp only[jb,cj];grind
 |d+1=>by
  have ih:=To hz hJ hm d;have h1:=Tn hz hJ (aC:J<=m+d);rw[jb,(aC:m+(d+1)=m+d+1)]
  grind
def ac0{z:Rat}{J:Nat}(hz:0<=z)(hJ:z*2<=(J:Rat)):∀ r:Nat,eQ z (J+r)*((2^r:Nat):Rat)<=eQ z J
 | 0=> aH 
 |r+1=>by
  have ih:=ac0 hz hJ r;have h1:=Tn hz hJ (aC:J<=J+r);have hp:(0:Rat)<=((2^r:Nat):Rat):=dv;have h2:=cN h1 hp;rw[show(2^(r+1):Nat)=2^r*2 from bM _ _,dG,(aC:J+(r+1)=J+r+1)];have e:((2:Nat):Rat)=2:=rfl;rw[e];grind
def ac1{z ε:Rat}(hz:0<=z)(hε:0<ε):∃ m0,∀ m,m0<=m->∀ d,jb (λi=>eQ z<|m+i) d<=ε:=by
 obtain⟨J,hJ⟩:=Uf<|z*2;obtain⟨r,hr⟩:=Uf<|eQ z J*2/ε;refine⟨J+r,λm hm d=>?_⟩;obtain⟨t,rfl⟩:∃ t,m=J+t:=⟨m-J,aC⟩
 have h1:=To hz hJ (aC:J<=J+t) d;have h2:=ac0 hz hJ t;have h3:=xM hz<|J+t+d;have h4:=xM hz<|J+t;have vk:(r:Rat)<=((2^t:Nat):Rat):=dW.2<|dM<|cO (aC:r<=t) Nat.lt_two_pow_self;have h5:eQ z J*2<=ε*((2^t:Nat):Rat):=by
  have h6:eQ z J*2/ε*ε=eQ z J*2:=ev aK;have h7:=cN (bZ hr vk)<|b9 hε
  grind
 have hp:(0:Rat)<((2^t:Nat):Rat):=gR.2<|bF aE;have h8:eQ z (J+t)*2<=ε:=by
  apply fV (c:=((2^t:Nat):Rat)) _ hp
  grind
 grind
def MP(n:Nat)(M:QM):Nat->QM
 | 0=>AY
 |j+1=>rZ n (MP n M j) M
section
variable {n:Nat} {M:QM}
def OK(t:Rat):∀ j i l,TQ n M t j i l=eQ t j*MP n M j i l
 | 0,i,l=>by simp only[TQ,eQ,MP];grind
 |j+1,i,l=>by
  show t/((j+1:Nat):Rat)*jb (λq=>TQ n M t j i q*M q l) n=eQ t j*(t/((j+1:Nat):Rat))*jb (λq=>MP n M j i q*M q l) n;rw[rH n λq _=>show TQ n M t j i q*M q l=eQ t j*(MP n M j i q*M q l)by rw[OK t j i q];grind,DH]
  grind
def Ia(t:Rat)(i l:Nat):∀ N,SQ n M t N i l=jb (λj=>eQ t j*MP n M j i l) (N+1)
 | 0=>by simp only[SQ,jb,eQ,MP];grind
 |N+1=>by
  show SQ n M t N i l+TQ n M t (N+1) i l=_;rw[Ia t i l N,OK];rfl
def am2(A:QM)(i:Nat){l:Nat}(hl:l<n):rZ n A AY i l=A i l:=by
 have:∀ m,jb (λq=>A i q*AY q l) m=if l<m then A i l else 0:=by
  intro m
  induction m with
  |zero=>simp[jb]
  |succ m ih=>
   rw[jb,ih];unfold AY;by_cases h1:l<m
   .rw [bk h1,bj (aC:¬m=l),bk (aC:l<m+1)];grind
   .by_cases h2:m=l
    .subst h2;rw[bj h1,bk rfl,bk (aC:m<m+1)];grind
    .rw [bj h1,bj h2,bj (aC:¬l<m+1)];grind
 unfold rZ;rw[this,bk hl]
def am1(A B C:QM)(i l:Nat):rZ n A (rZ n B C) i l=rZ n (rZ n A B) C i l:=by
 unfold rZ;have e1:∀ q,A i q*jb (λr=>B q r*C r l) n=jb (λr=>A i q*(B q r*C r l)) n:=λq=>(DH _ _ n).symm
 have e2:∀ r,jb (λq=>A i q*B q r) n*C r l=jb (λq=>A i q*B q r*C r l) n:=λr=>(Hj _ _ n).symm
 rw[rH n λq _=>e1 q,rH (f:=λq=>jb (λq_1=>A i q_1*B q_1 q) n*C q l) n λr _=>e2 r,KE];exact rH n λr _=>rH n λq _=> aK 
def TR(j:Nat):∀ k i l,l<n->rZ n (MP n M j) (MP n M k) i l=MP n M (j+k) i l
 | 0,i,l,hl=>am2 _ i hl
 |k+1,i,l,hl=>by
  show rZ n (MP n M j) (rZ n (MP n M k) M) i l=rZ n (MP n M<|j+k) M i l;rw[am1];exact rH n λq hq=>by rw[TR j k i q hq]
def TS{v:Rat}(hv:0<=v)(h:Cw n M v):∀ j,Cw n (MP n M j) (xv v j)
 | 0=>λi _=>(arf n i).1
 |j+1=>ap9 (abm hv j) hv (TS hv h j) h
def ap7(n:Nat)(M:QM):∃ v,0<=v/\Cw n M v:=by
 refine⟨jb (λi=>jb (λl=>jr<|M i l) n) n,Fy n λi _=>Fy n λl _=>(nB _).1,λi hi=>?_⟩;have:∀ m,i<m->jb (λl=>jr<|M i l) n<=jb (λi=>jb (λl=>jr<|M i l) n) m:=by
  intro m hm
  induction m with
  |zero=>omega
  |succ m ih=>
   rw[jb];have h0:0<=jb (λl=>jr<|M m l) n:=Fy n λl _=>(nB _).1
   have h1:0<=jb (λi=>jb (λl=>jr<|M i l) n) m:=Fy m λi _=>Fy n λl _=>(nB _).1
   by_cases hq:i=m
   .subst hq;grind
   .have:=ih aC;grind
 exact this n hi
def aov(a b:Rat)(N:Nat)(i:Nat){l:Nat}(hl:l<n):rZ n (SQ n M b N) (SQ n M a N) i l=jb (λj=>jb (λk=>eQ b j*eQ a k*MP n M (j+k) i l)<|N+1) (N+1):=by
 unfold rZ;have e1:∀ q,SQ n M b N i q*SQ n M a N q l=jb (λj=>jb (λk=>eQ b j*eQ a k*(MP n M j i q*MP n M k q l))<|N+1) (N+1):=by
  intro q;rw[Ia,Ia,<-Hj];refine rH _ λj _=>?_
  rw[<-DH];exact rH _ λk _=> aK 
 rw[rH n λq _=>e1 q,KE];refine rH _ λj _=>?_
 rw[KE];refine rH _ λk _=>?_
 rw[<-TR j k i l hl,DH];rfl
def arZ(a b:Rat)(N:Nat)(i l:Nat):jb (λj=>jb (λk=>eQ b j*eQ a k*MP n M (j+k) i l)<|N+1-j) (N+1)=SQ n M (a+b) N i l:=by
 rw[N7 λj k=>eQ b j*eQ a k*MP n M (j+k) i l,Ia];refine rH _ λs _=>?_
 rw[<-Lg,<-Hj];exact rH _ λj hj=>by rw[(aC:j+(s-j)=s)]
def acF(g:Nat->Nat->Rat)(m:Nat):jb (λj=>jb (g j) m) m=jb (λj=>jb (g j)<|m-j) m+jb (λj=>jb (λk=>g j<|m-j+k) j) m:=by
 rw[<-KD];refine rH _ λj hj=>?_
 rw[<-Hk,(aC:m-j+j=m)]
def ajH{v:Rat}(hv:0<=v)(h:Cw n M v)(a b:Rat)(N:Nat){i l:Nat}(hi:i<n)(hl:l<n):
 jr (rZ n (SQ n M b N) (SQ n M a N) i l-SQ n M (a+b) N i l)<=jb (λs=>eQ (jr a*v+jr b*v)<|N+1+s) (N+1):=by
 have hx:0<=jr a*v:=ct (nB a).1 hv;have hy:0<=jr b*v:=ct (nB b).1 hv;have e1:rZ n (SQ n M b N) (SQ n M a N) i l=SQ n M (a+b) N i l+jb (λj=>jb (λk=>eQ b j*eQ a (N+1-j+k)*MP n M (j+(N+1-j+k)) i l) j) (N+1):=by
  have:=acF (λj k=>eQ b j*eQ a k*MP n M (j+k) i l)<|N+1;rw[arZ,<-aov a b N i hl]at this;exact this
 have e2:rZ n (SQ n M b N) (SQ n M a N) i l-SQ n M (a+b) N i l=jb (λj=>jb (λk=>eQ b j*eQ a (N+1-j+k)*MP n M (j+(N+1-j+k)) i l) j) (N+1):= aK ;rw[e2];have e3:jr (jb (λj=>jb (λk=>eQ b j*eQ a (N+1-j+k)*MP n M (j+(N+1-j+k)) i l) j)<|N+1)<=jb (λj=>jb (λk=>eQ (jr b*v) j*eQ (jr a*v) (N+1-j+k)) j) (N+1):=by
  refine bZ (FH _ _)<|Fx _ λj _=>bZ (FH _ _)<|Fx _ λk _=>?_;rw[Bl,Bl,IF,IF,PM,PM];have hr:=ap6 (TS hv h<|j+(N+1-j+k)) hi hl;rw[abl]at hr;have h1:=xM (nB b).1 j;have h2:=xM (nB a).1<|N+1-j+k;have h3:=dc hr<|ct h1 h2
  grind
 refine bZ e3 ?_;have q1:jb (λj=>jb (λk=>eQ (jr b*v) j*eQ (jr a*v) k)<|N+1) (N+1)=jb (λj=>jb (λk=>eQ (jr b*v) j*eQ (jr a*v) k)<|N+1-j) (N+1)+jb (λj=>jb (λk=>eQ (jr b*v) j*eQ (jr a*v) (N+1-j+k)) j) (N+1):=
  acF (λj k=>eQ (jr b*v) j*eQ (jr a*v) k) (N+1)
 have q2:jb (λj=>jb (λk=>eQ (jr b*v) j*eQ (jr a*v) k)<|N+1-j) (N+1)=jb (λs=>eQ (jr a*v+jr b*v) s) (N+1):=by
  rw[N7 λj k=>eQ (jr b*v) j*eQ (jr a*v) k];exact rH _ λs _=>Lg _ _ s
 have G0:∀ j k,0<=eQ (jr b*v) j*eQ (jr a*v) k:=λj k=>ct (xM hy j)<|xM hx k
 have q3:jb (λj=>jb (λk=>eQ (jr b*v) j*eQ (jr a*v) k)<|N+1) (N+1)<=jb (λs=>eQ (jr a*v+jr b*v) s) (N+1+(N+1)):=by
  rw[<-rH (f:=λs=>jb (λj=>eQ (jr b*v) j*eQ (jr a*v) (s-j))<|s+1) _ λs _=>Lg _ _ s,<-N7 (λj k=>eQ (jr b*v) j*eQ (jr a*v) k)];refine bZ (Fx _ λj hj=>KF (λk=>G0 j k) (aC:N+1<=N+1+(N+1)-j)) ?_;exact KF (λj=>Fy _ λk _=>G0 j k) aC 
 rw[Hk (λs=>eQ (jr a*v+jr b*v) s) (N+1)<|N+1,q1,q2]at q3;have cancel:∀ A B C:Rat,A+B<=A+C->B<=C:=by intro A B C h;grind
 exact cancel _ _ _ q3
def ajI(n:Nat)(M:QM)(a b:Rat){ε:Rat}(hε:0<ε):∃ N0,∀ N,N0<=N->∀ i l,i<n->l<n->jr (rZ n (SQ n M b N) (SQ n M a N) i l-SQ n M (a+b) N i l)<=ε:=by
 obtain⟨v,hv,h⟩:=ap7 n M;have hz:0<=jr a*v+jr b*v:=by
  have hx:0<=jr a*v:=ct (nB a).1 hv;have hy:0<=jr b*v:=ct (nB b).1 hv
  grind
 obtain⟨m0,h0⟩:=ac1 hz hε;exact⟨m0,λN hN i l hi hl=>bZ (ajH hv h a b N hi hl)<|h0 (N+1) aC<|N+1⟩
def ad3(N:Nat)(i l:Nat):SQ n M 0 N i l=AY i l:=by
 induction N with
 |zero=>rfl
 |succ N ih=>
  show SQ n M 0 N i l+TQ n M 0 (N+1) i l=_;rw[ih,OK];simp only[eQ,dp];grind
end
def qO(f:Nat->Rat)(X:Iv):Prop:=∀ ε,0<ε->∃ N0,∀ N,N0<=N->∃ r,X.kq r/\jr (f N-r)<=ε
def qO.Sn{f:Nat->Rat}{X:Iv}{k:Nat}(h:∀ N,k<=N->X.kq (f N)):qO f X:=λε hε=>
 ⟨k,λN hN=>⟨f N,h N hN,by rw[Rat.sub_self,T4];exact b9 hε⟩⟩
def qO.all{f:Nat->Rat}{X:Iv}(h:X.all=true):qO f X:=qO.Sn (k:=0) λ_ _=>.inl h
def qO.shift{f g:Nat->Rat}{X:Iv}(h:qO f X)(k:∀ ε,0<ε->∃ N0,∀ N,N0<=N->jr (g N-f N)<=ε):qO g X:=λε hε=>by
 obtain⟨N1,h1⟩:=h (ε/2) aK;obtain⟨N2,h2⟩:=k (ε/2) aK;refine⟨max N1 N2,λN hN=>?_⟩;obtain⟨r,hr,hd⟩:=h1 N aC;have hg:=h2 N aC;refine⟨r,hr,?_⟩;have:=T3 (g N-f N)<|f N-r;rw[show g N-f N+(f N-r)=g N-r by grind]at this
 grind
def EQ(c:Rat)(N:Nat):Rat:=jb (eQ c)<|N+1
def anQ(j:Nat):MP 1 (λ_ _=>1) j 0 0=1:=by
 induction j with
 |zero=>rfl
 |succ j ih=>
  show jb (λq=>MP 1 (λ_ _=>1) j 0 q*1) 1=1;simp only[jb];rw[ih];grind
def KW(c:Rat)(N:Nat):SQ 1 (λ_ _=>1) c N 0 0=EQ c N:=by
 rw[Ia];exact rH _ λj _=>by rw[anQ];grind
def OC(a b:Rat){ε:Rat}(hε:0<ε):∃ N0,∀ N,N0<=N->jr (EQ (a+b) N-EQ a N*EQ b N)<=ε:=by
 obtain⟨N0,h0⟩:=ajI 1 (λ_ _=>1) a b hε;refine⟨N0,λN hN=>?_⟩;have:=h0 N hN 0 0 aE aE;rw[show rZ 1 (SQ 1 (λ_ _=>1) b N) (SQ 1 (λ_ _=>1) a N) 0 0=EQ a N*EQ b N by
  show jb (λq=>SQ 1 (λ_ _=>1) b N 0 q*SQ 1 (λ_ _=>1) a N q 0) 1=_;simp only[jb];rw[KW,KW];grind,KW]at this
 obtain⟨_,a2,a3,_⟩:=nB<|EQ a N*EQ b N-EQ (a+b) N;exact Bk aK aK 
def adV(N:Nat):EQ 0 N=1:=by
 rw[<-KW,ad3];rfl
def Uh{x:Iv}{r s:Rat}(hx:x.ix)(h:x.kq r)(hs:jr s<=jr r):(sE x).kq s:=by
 unfold sE;cases xa:x.all
 .obtain ⟨h1,h2⟩:=h.jX xa;obtain⟨m1,m2,_⟩:=EW hx.q;obtain⟨_,a2,a3,a4⟩:=nB r;obtain⟨_,b2,b3,_⟩:=nB s;have hr:jr r<=(mq x).q:= aK ;refine .inr ⟨?_,?_⟩
  .show (ki<|mq x).q<=s;rw[sN];grind
  .show s<=(mq x).q
   grind
 .rw [bk rfl];exact .inl xa
def HI{a b:Int}(h:a<=b):P2 a<=P2 b:=by
 rw[HW h];have h1:(1:Rat)<=((2^(b-a).toNat:Nat):Rat):=by
  have:=dW.2<|Nat.one_le_two_pow (n:=(b-a).toNat);exact this
 have:=cN h1<|b9<|pk a
 grind
def Oe{i:Nat}(h:i<2):i=0\/i=1:= aC 
def HF1:Dy:=⟨false,1014047155841371404857783918912611814895143950022408150448898879701903863171748812343190420115852101928445847465915947005,-398⟩
def HF2:Dy:=⟨false,2028094311682742809715567837825223629790287900044816300897797759403807726343497624686380840231704203856891694931831894109,-399⟩
def HF:Iv:=⟨HF1,HF2,false⟩
def after{N:Nat}(h:100<=N):∃ d,N=100+d:=⟨N-100,aC⟩
def zq(k:Int):Rat×Rat:=if k%4=0 then(1,0)else if k%4=1 then(0,1)else if k%4=2 then(-1,0)else(0,-1)
def mg(r:Iv)(p:Nat):Nat->Iv
 | 0=>jj 1
 |j+1=>lv (kf (mg r p j) r p) (jj ((j+1:Nat):Int)) p
def S6(r:Iv)(p j:Nat):Iv:=if 2<=j%4 then tu (mg r p j)else mg r p j
def NR(r:Iv)(p:Nat):Nat->Iv
 | 0=>jj 0
 |j+1=>if(j+1)%2=1 then kO (NR r p j) (S6 r p<|j+1) p else NR r p j
def sB(n:Int):(ri n).q=P2 n:=by unfold ri;rw[tA];simp
def yD{r:Iv}{p:Nat}(_hr:r.ix)(iC:8<=p)(iu:p<=512):∀ j,(mg r p j).ix
 | 0=>E7 1 aE 
 |j+1=>vJ _ _ 
def aqF{r:Iv}{p:Nat}(hr:r.ix)(iC:8<=p)(iu:p<=512)(j:Nat):(S6 r p j).ix:=by
 unfold S6;split
 .exact xr<|yD hr iC iu j
 .exact yD hr iC iu j
def acf{r:Iv}{p:Nat}(hr:r.ix)(iC:8<=p)(iu:p<=512):∀ j,(NR r p j).ix
 | 0=>E7 0 aE 
 |j+1=>by
  unfold NR;split
  .exact pN (acf hr iC iu j) (aqF hr iC iu _) aC aC 
  .exact acf hr iC iu j
def S7{r:Iv}{p:Nat}(hr:r.ix)(iC:8<=p)(iu:p<=512){ρ:Rat}(h:r.kq ρ):∀ j,j<4294967296->(mg r p j).kq (eQ ρ j)
 | 0,_=>Cb 1
 |j+1,hj=>by
  have e:eQ ρ (j+1)=eQ ρ j*ρ/((j+1:Nat):Rat):=by simp only[eQ,dp];grind
  rw[e];exact LD (pI _ _) (Sh (j+1) hj) aC aC (RZ (yD hr iC iu j) hr aC aC (S7 hr iC iu h j aC) h)<|aaZ<|j+1
def acg{r:Iv}{p:Nat}:∀ {j d:Nat},(mg r p<|j+d).all=false->(mg r p j).all=false
 |_,0,h=>h
 |j,d+1,h=>by
  apply acg (d:=d);cases ha:(mg r p<|j+d).all
  .rfl
  .exfalso;have:mg r p (j+(d+1))=iw:=by
    show lv (kf (mg r p<|j+d) r p) _ p=_;rw[M1 p<|.inl ha,ID p<|.inl rfl]
   rw[this]at h;cases h
def qP(n:Int):Iv:=⟨ki<|ri n,ri n,false⟩
def FO{n:Int}{r:Rat}:(qP n).kq r ↔ -P2 n<=r/\r<=P2 n:=by
 unfold Iv.kq qP;simp only[bJ,false_or];rw[sN,sB]
def Cv{p:Nat}(hp:1<=p){n:Int}(h1:-1000<=n)(h2:n<=1000):G p<|P2 n:=.inl ⟨1,n,by rw[Cz];exact hp,aC,by rw[Cz];omega,aH⟩
def Ij{p:Nat}{S:Rat->Prop}{X:Iv}(h:Hw p S X)(hp:1<=p){n:Int}(h1:-1000<=n)(h2:n<=1000)(hs:∀ r,S r -> -P2 n<=r/\r<=P2 n):Sub X<|qP n:=by
 obtain⟨a,b,c⟩:=h.AL _ _ (Cv hp h1 h2).neg (Cv hp h1 h2) hs;refine .inr ⟨a,?_,?_⟩
 .show (ki<|ri n).q<=_;rw[sN,sB];exact b
 .show _<=(ri n).q;rw[sB];exact c
def T5{a b u v:Rat}(h1:-u<=a)(h2:a<=u)(h3:-v<=b)(h4:b<=v):-(u*v)<=a*b/\a*b<=u*v:=by
 have ha:jr a<=u:=Bk h2 aK;have hb:jr b<=v:=Bk h4 aK;have hm:=Bl a b;have h0:=(nB b).1;have hu:0<=u:=bZ (nB a).1 ha;have m1:=cN ha h0;have m2:=dc hb hu;obtain⟨_,c2,c3,_⟩:=nB<|a*b;constructor<;>grind
def Xx(j:Nat):P2 (-(j:Int))*P2 (-1)=P2 (-((j+1:Nat):Int)):=by
 rw[<-sD];congr 1;omega
def ag2{a u:Rat}{n:Nat}(h1:-u<=a)(h2:a<=u):-u<=a/((n+1:Nat):Rat)/\a/((n+1:Nat):Rat)<=u:=by
 have hp:=Dl n;have W9:(1:Rat)<=((n+1:Nat):Rat):=by
  have:=dW (a:=1) (b:=n+1);exact this.2 aC 
 have e:=ev (a:=a) (b:=((n+1:Nat):Rat)) aK;have hu:0<=u:= aK ;generalize a/((n+1:Nat):Rat)=x at *
 generalize ((n+1:Nat):Rat)=c at *
 constructor
 .apply dX.1;intro iN;have m:=eJ iN hp;have m2:=dc W9 hu
  grind
 .apply dX.1;intro iN;have m:=eJ iN hp;have m2:=dc W9 hu
  grind
def aci{y:Iv}(hy:y.ix)(h:Sub y<|qP (-1)){p:Nat}(iC:8<=p)(iu:p<=512):∀ j,j<=900->Sub (mg y p j) (qP (-(j:Int)))
 | 0,_=>by
  have e:(jj 1).lo.q=1/\(jj 1).hi.q=1/\(jj 1).all=false:=aaY 1;refine .inr ⟨e.2.2,?_,?_⟩
  .show (ki<|ri _).q<=_;rw[sN,sB,show(mg y p 0).lo.q=1 from e.1];decide +kernel
  .show _<=(ri _).q;rw[sB,show(mg y p 0).hi.q=1 from e.2.1];decide +kernel
 |j+1,hj=>by
  have ih:=aci hy h iC iu j aC;have vT:=yD hy iC iu j;obtain⟨ta,_⟩:=ih.zj rfl;obtain⟨ya,_⟩:=h.zj rfl;have B:=RY vT hy ta ya (aC:1<=p) aC;have s1:Sub (kf (mg y p j) y p)<|qP (-((j+1:Nat):Int)):=Ij B aC aC aC (by
   rintro r ⟨a,b,ha,hb,rfl⟩;obtain⟨a1,a2⟩:=FO.1<|ih.kq ha;obtain⟨b1,b2⟩:=FO.1<|h.kq hb;rw[<-Xx];exact T5 a1 a2 b1 b2)
  have vm:(kf (mg y p j) y p).ix:=pI _ _;obtain⟨ma,_⟩:=s1.zj rfl;have vn:=Sh (j+1) aC;have hs:nQ (jj ((j+1:Nat):Int))≠0:=by rw[anA aC];decide
  exact Ij (LC vm vn ma hs (aC:1<=p) aC) aC aC aC (by
   rintro r ⟨a,b,ha,hb,rfl⟩;obtain⟨a1,a2⟩:=FO.1<|s1.kq ha;obtain⟨b1,b2⟩:=hb.jX rfl;have e:=aaY<|j+1;rw[e.1]at b1;rw[e.2.1]at b2;rw[show b=((j+1:Nat):Rat)from gh b2 b1];exact ag2 a1 a2)
def pY(x:Iv)(p:Nat):Bool:=x.all||(decide ((mq x).m=0)||decide ((mq x).iJ <= -(p:Int)))
def ac9{d:Dy}(hm:d.m≠0){n:Int}(h:jr d.q<=P2 n):d.iJ<=n+1:=by
 apply ca;intro iN;have hT:d.iJ=(iD d.m:Int)+d.e:=by unfold Dy.iJ;rw[bj hm]
 have hb:0<iD d.m:=yl.2 (by rw[cR];omega);have h1:2^(iD d.m-1)<=d.m:=yl.1 aC;have h2:((2^(iD d.m-1):Nat):Rat)<=(d.m:Rat):=dW.2 h1;have h3:=cN h2<|b9<|pk d.e;rw[<-Bg,<-sD,show((iD d.m-1:Nat):Int)+d.e=d.iJ-1 by rw[hT];omega]at h3;have h4:jr d.q=(d.m:Rat)*P2 d.e:=by
  have h0:0<=(d.m:Rat)*P2 d.e:=ct dv<|b9<|pk _;rw[sO];unfold jr;cases d.neg
  .simp only[bJ,bB];rw[bk h0]
  .simp only[bH];split<;>grind
 have h5:=HI (aC:n+1<=d.iJ-1);have h6:P2 (n+1)=P2 n*2:=by rw[sD];congr 1
 have:=pk n
 grind
def ac7{x:Iv}(hx:x.ix){p:Nat}(h:Sub x<|qP (-((p+1:Nat):Int))):pY x p=true:=by
 unfold pY;cases ha:x.all
 .by_cases hm:(mq x).m=0
  .rw [bu hm];rfl
  .obtain ⟨_,k1,k2⟩:=h.zj rfl;obtain⟨m1,m2,m3⟩:=EW hx.q;replace k1:(ki<|ri (-((p+1:Nat):Int))).q<=x.lo.q:=k1;replace k2:x.hi.q<=(ri (-((p+1:Nat):Int))).q:=k2;rw[sN,sB]at k1;rw[sB]at k2;have hq:=hx.q;have rU:=pk (-((p+1:Nat):Int));generalize hu:P2 (-((p+1:Nat):Int))=u at *
   have hle:jr (mq x).q<=u:=Bk (by rcases m3 with m3|m3<;>grind) (by rcases m3 with m3|m3<;>grind);have:=ac9 hm<|hu▸hle;rw[bu<|show(mq x).iJ <= -(p:Int)by omega];simp
 .rfl
def ach{y:Iv}(h:y.all=true)(p:Nat):mg y p 1=iw:=by
 show lv (kf (jj 1) y p) _ p=_;rw[M1 p<|.inr h,ID p<|.inl rfl]
def aiv{y:Iv}(hy:y.ix)(h:y.all=true\/Sub y (qP (-1))){p:Nat}(iC:8<=p)(iu:p<=512):∃ N,1<=N/\N<=1000/\(∀ x,1<=x->x<N->pY (mg y p x) p=false)/\pY (mg y p N) p=true:=by
 have ex:∃ x,x<900/\decide (1<=x/\pY (mg y p x) p=true)=true:=by
  rcases h with h|h
  .exact ⟨1,aC,bu ⟨aC,by rw[ach h];rfl⟩⟩
  .exact ⟨p+1,aC,bu ⟨aC,ac7 (yD hy iC iu _)<|aci hy h iC iu (p+1) aC⟩⟩
 obtain⟨N,n1,n2,n3⟩:=sx (p:=λx=>decide (1<=x/\pY (mg y p x) p=true)) ex;have n2':=cL n2;refine⟨N,n2'.1,aC,λx h1 h2=>?_,n2'.2⟩;have:=gl<|n3 x h2;cases hc:pY (mg y p x) p
 .rfl
 .exact absurd ⟨h1,hc⟩ this
def wO(y:Iv)(p:Nat):Nat->Iv
 | 0=>jj 1
 |j+1=>kO (wO y p j) (mg y p<|j+1) p
def Bs(y:Iv)(p N:Nat):Iv:=kO (wO y p N) (sE<|mg y p N) p
def FY{y:Iv}(hy:y.ix){p:Nat}(iC:8<=p)(iu:p<=512):∀ j,(wO y p j).ix
 | 0=>E7 1 aE 
 |j+1=>pN (FY hy iC iu j) (yD hy iC iu _) aC aC 
def aiu{y:Iv}(hy:y.ix){p:Nat}(iC:8<=p)(iu:p<=512)(N:Nat):(Bs y p N).ix:=pN (FY hy iC iu N) (FK<|yD hy iC iu N) aC aC 
def mG(x:Iv)(p:Nat):Iv:=if x.all then iw else mF (jd x.lo p false) (jI x.lo p false) (jd x.hi p true) (jI x.hi p true)
def wL(a b:Iv):Iv:=if a.all||b.all then iw else⟨a.lo,b.hi,false⟩
section
variable{x:Iv}(hx:x.ix){p:Nat}
def Hd(hp:1<=p:=by omega)(iu:p<=4096:=by omega):(mG x p).ix:=by
 unfold mG;cases xa:x.all
 .obtain ⟨c1,c2⟩:=hx.CG;simp only[bJ,bB];unfold mF;split
  .exact ln
  .rename_i he;have A:=zP c1 hp iu;have B:=zQ c2 hp iu;refine .inr ⟨rfl,rF _ hp iu _,rF _ hp iu _,?_⟩;rw[r6];exact bZ (A.1 aC).2<|bZ hx.q (B.1 aC).2
 .exact ln
def Kt(hp:1<=p)(iu:p<=4096){r:Rat}(h:x.kq r):(mG x p).kq r:=by
 unfold mG;cases xa:x.all
 .obtain ⟨c1,c2⟩:=hx.CG;obtain⟨h1,h2⟩:=h.jX xa;simp only[bJ,bB];unfold mF;split
  .exact .inl rfl
  .rename_i he;have A:=zP c1 hp iu;have B:=zQ c2 hp iu;exact .inr ⟨bZ (A.1 aC).2 h1,bZ h2 (B.1 aC).2⟩
 .exact .inl rfl
def ap3(hp:1<=p)(iu:p<=4096){n:Int}(h1:-1000<=n)(h2:n<=1000)(h:Sub x<|qP n):Sub (mG x p)<|qP n:=by
 obtain⟨xa,k1,k2⟩:=h.zj rfl;replace k1:(ki<|ri n).q<=x.lo.q:=k1;replace k2:x.hi.q<=(ri n).q:=k2;rw[sN,sB]at k1;rw[sB]at k2;obtain⟨c1,c2⟩:=hx.CG;have A:=(zP c1 hp iu).2 _ (Cv hp h1 h2).neg k1;have B:=(zQ c2 hp iu).2 _ (Cv hp h1 h2) k2;unfold mG mF;rw[xa];simp only[bJ,bB];rw[bj aC];refine .inr ⟨rfl,?_,?_⟩
 .show (ki<|ri n).q<=_;rw[sN,sB];exact A.2
 .show _<=(ri n).q;rw[sB];exact B.2
end
def al2{f g:Nat->Rat}{A B:Iv}(hA:qO f A)(hB:qO g B)(h:∀ ε,0<ε->∃ N0,∀ N,N0<=N->f N<=g N+ε)(aa:A.all=false)(ba:B.all=false):A.lo.q<=B.hi.q:=by
 apply dX.1;intro iN;obtain⟨ε,hε⟩:∃ ε,ε=(A.lo.q-B.hi.q)/4:=⟨_,rfl⟩
 have h0:0<ε:=by rw[hε];grind
 obtain⟨N1,h1⟩:=hA ε h0;obtain⟨N2,h2⟩:=hB ε h0;obtain⟨N3,h3⟩:=h ε h0;obtain⟨r,hr,hd⟩:=h1 (max N1<|max N2 N3) aC;obtain⟨s,hs,he⟩:=h2 (max N1<|max N2 N3) aC;have h4:=h3 (max N1<|max N2 N3) aC;obtain⟨r1,r2⟩:=hr.jX aa;obtain⟨s1,s2⟩:=hs.jX ba;obtain⟨_,a2,a3,_⟩:=nB<|f (max N1<|max N2 N3)-r;obtain⟨_,b2,b3,_⟩:=nB<|g (max N1<|max N2 N3)-s
 grind
def adU{c:Rat}(h:0<=c)(N:Nat):1<=EQ c N:=by
 have:=KF (f:=eQ c) (λi=>xM h i) (aC:1<=N+1);have e:jb (eQ c) 1=1:=by show 0+1=1;grind
 unfold EQ;rw[e]at this;exact this
def adT(c:Rat){ε:Rat}(hε:0<ε):∃ N0,∀ N,N0<=N -> -ε<=EQ c N:=by
 obtain⟨N0,h0⟩:=OC (c/2) (c/2) hε;rw[show c/2+c/2=c by grind]at h0;refine⟨N0,λN hN=>?_⟩;have h:=h0 N hN;have hs:0<=EQ (c/2) N*EQ (c/2) N:=by
  by_cases k:0<=EQ (c/2) N
  .exact ct k k
  .have:=ct (show 0 <= -EQ (c/2) N by grind) (show 0 <= -EQ (c/2) N by grind)
   grind
 obtain⟨_,a2,a3,_⟩:=nB<|EQ c N-EQ (c/2) N*EQ (c/2) N
 grind
def adQ{c:Rat}(h:0<=c):∃ M:Rat,0<M/\∀ N,EQ c N<=M:=by
 obtain⟨m0,h0⟩:=ac1 h (show(0:Rat)<1 by decide);have hs:0<=jb (eQ c) m0:=by
  have:=KF (f:=eQ c) (λi=>xM h i)<|ck m0;exact this
 refine⟨jb (eQ c) m0+1,aK,λN=>?_⟩;unfold EQ;by_cases hN:m0<=N+1
 .obtain ⟨d,hd⟩:∃ d,N+1=m0+d:=⟨N+1-m0,aC⟩
  rw[hd,Hk];have:=h0 m0 (bw _) d
  grind
 .have:=KF (f:=eQ c) (λi=>xM h i) (aC:N+1<=m0)
  grind
def adS{a b:Rat}(h:a<=b){ε:Rat}(hε:0<ε):∃ N0,∀ N,N0<=N->EQ a N<=EQ b N+ε:=by
 have hd:0<=b-a:= aK ;obtain⟨N1,h1⟩:=OC a (b-a) (show 0<ε/2 by grind);rw[show a+(b-a)=b by grind]at h1;obtain⟨M,vd,hM⟩:∃ M:Rat,0<M/\∀ N,EQ (b-a) N<=M:=adQ hd;obtain⟨N2,h2⟩:=adT a (show 0<ε/(2*M)by rw[dp];exact eZ hε<|fZ.2 aK);refine⟨max N1 N2,λN hN=>?_⟩;have k1:=h1 N aC;have k2:=h2 N aC;have e:ε/(2*M)*M=ε/2:=by
  have:=ev (a:=ε) (b:=2*M) aK 
  grind
 have k3:=adU hd N;have k4:=hM N;obtain⟨_,a2,a3,_⟩:=nB<|EQ b N-EQ a N*EQ (b-a) N;generalize EQ a N=x at *
 generalize EQ (b-a) N=y at *
 generalize EQ b N=z at *
 generalize ε/(2*M)=δ at *
 have m1:=ct (show 0<=x+δ by grind) (show 0<=y-1 by grind);have hδ:0<=δ:=by
  apply dX.1;intro iN;have:=eJ iN vd
  grind
 have m2:=dc (show y-1<=M by grind) hδ
 grind
def Wn{y:Iv}{r:Rat}(hy:y.ix)(h:y.kq r){p:Nat}(iC:8<=p)(iu:p<=512):∀ j,j<4294967296->(wO y p j).kq (EQ r j)
 | 0,_=>by
  have:EQ r 0=1:=by unfold EQ;simp only[jb,eQ];grind
  rw[this];exact Cb 1
 |j+1,hj=>DQ (FY hy iC iu j) (yD hy iC iu<|j+1) aC aC (Wn hy h iC iu j aC)<|S7 hy iC iu h (j+1) hj
def air{y:Iv}(h:y.all=true){p N:Nat}(hN:1<=N):(Bs y p N).all=true:=by
 have ht:(mg y p N).all=true:=by
  cases hc:(mg y p N).all
  .obtain ⟨d,rfl⟩:∃ d,N=1+d:=⟨N-1,aC⟩
   have:=acg hc;rw[ach h]at this;cases this
  .rfl
 unfold Bs;rw[K3 p<|.inr<|by unfold sE;rw[ht];simpa using ht];rfl
section
variable{y:Iv}{r:Rat}(hy:y.ix)(h:y.kq r)
def ais(hr:jr r*2<=1){p:Nat}(iC:8<=p)(iu:p<=512){N:Nat}(hN:1<=N)(ux:N<=1000)(M:Nat)(hM:N<=M):(Bs y p N).kq<|EQ r M:=by
 obtain⟨d,rfl⟩:∃ d,M=N+d:=⟨M-N,aC⟩
 have e1:EQ r (N+d)=EQ r N+jb (λi=>eQ r<|N+1+i) d:=by
  unfold EQ;rw[(aC:N+d+1=N+1+d),Hk]
 have hz:=(nB r).1;have t:=To hz (J:=1) (by exact hr) (aC:1<=N+1) d;have p0:=xM hz<|N+1+d;have b1:jr (jb (λi=>eQ r<|N+1+i) d)<=jb (λi=>eQ (jr r)<|N+1+i) d:=by
  have:=FH (λi=>eQ r<|N+1+i) d;rwa[rH d λi _=>IF r<|N+1+i]at this
 have e3:eQ (jr r) (N+1)*2<=eQ (jr r) N:=Tn hz (J:=1) (by exact hr) (aC:1<=N);rw[e1];refine DQ (FY hy iC iu N) (FK<|yD hy iC iu N) aC aC (Wn hy h iC iu N aC)<|Uh (yD hy iC iu N) (S7 hy iC iu h N aC) ?_;rw[IF];grind
def ait(hb:y.all=true\/Sub y (qP (-1))){p:Nat}(iC:8<=p)(iu:p<=512){N:Nat}(hN:1<=N)(ux:N<=1000):qO (EQ r)<|Bs y p N:=by
 rcases hb with hb|hb
 .exact qO.all<|air hb hN
 .refine qO.Sn (k:=N) λM hM=>ais hy h ?_ iC iu hN ux M hM
  obtain⟨b1,b2⟩:=FO.1<|hb.kq h;have e:P2 (-1)=1/2:= aL ;rw[e]at b1 b2;have:=Bk (x:=r) (b:=1/2) aK aK 
  grind
end
def qj(x:Iv)(p:Nat):Iv:=if(kp x).all then iw else mF (jd (zG (kp x).lo (kp x).lo) p false) (jI (zG (kp x).lo (kp x).lo) p false) (jd (zG (kp x).hi (kp x).hi) p true) (jI (zG (kp x).hi (kp x).hi) p true)
def TZ{x:Iv}(xa:x.all=false):0<=(kp x).lo.q:=by
 unfold kp;rw[xa];show 0<=(pT x).q;unfold pT;split
 .rw [zI];exact cQ
 .obtain ⟨_,_,m⟩:=Fh (mi x.lo)<|mi x.hi;rcases m with m|m<;>rw[m]
  .exact (Cf x.lo).1
  .exact (Cf x.hi).1
def Cy(x:Iv):(kp x).all=x.all:=by unfold kp;cases h:x.all<;>simp[h,iw]
section
variable{x:Iv}(hx:x.ix){p:Nat}(hp:1<=p)(iu:p<=4096)
def Td{r:Rat}(h:x.kq r):(qj x p).kq<|r*r:=by
 unfold qj;rw[Cy];cases xa:x.all
 .simp only[bJ,bB];obtain⟨s,hs,h0,e⟩:∃ s,(kp x).kq s/\0<=s/\r*r=s*s:=by
   by_cases hr:0<=r
   .exact ⟨r,K0 hx h<|.inl ⟨rfl,hr⟩,hr,rfl⟩
   .exact ⟨-r,K0 hx h<|.inr ⟨rfl,aK⟩,aK,aK⟩
  have hl:=TZ xa;have ya:(kp x).all=false:=by rw[Cy];exact xa
  obtain⟨s1,s2⟩:=hs.jX ya;rw[e];unfold mF;split
  .exact .inl rfl
  .rename_i he;have A:=zP (CF (kp x).lo (kp x).lo) hp iu;have B:=zQ (CF (kp x).hi (kp x).hi) hp iu;rw[G5]at A B;have a1:=(A.1 aC).2;have b1:=(B.1 aC).2;refine .inr ⟨?_,?_⟩
   .have m1:=cN s1 hl;have m2:=dc s1 h0;show _<=s*s;exact bZ a1<|bZ m1<|by rw[fY s];rw[fY (kp x).lo.q s];exact m2
   .have m1:=cN s2 h0;have m2:=dc s2<|bZ h0 s2;exact bZ (bZ m1 m2) b1
 .exact .inl rfl
def NX:(qj x p).ix:=by
 cases xa:x.all
 .have h1:=Td hx hp iu hx.CX;unfold qj at h1 ⊢;rw[Cy,xa]at h1 ⊢;simp only[bJ,bB]at h1 ⊢;unfold mF at h1 ⊢;split
  .exact ln
  .rename_i he;rw[bj he]at h1;obtain⟨h2,h3⟩:=h1.jX rfl;refine .inr ⟨rfl,rF _ hp iu _,rF _ hp iu _,?_⟩;rw[r6];exact bZ h2 h3
 .unfold qj;rw[Cy,xa];exact ln
end
def qO.sqr{f:Nat->Rat}{X:Iv}(hx:X.ix)(h:qO f X){p:Nat}(hp:1<=p)(iu:p<=4096):qO (λN=>f N*f N)<|qj X p:=by
 cases xa:X.all
 .intro ε hε;obtain⟨B,hB⟩:∃ B,B=jr X.lo.q+jr X.hi.q+1:=⟨_,rfl⟩
  have a0:=nB X.lo.q;have b0:=nB X.hi.q;have hB1:1<=B:= aK ;have Qp:0<2*B:= aK ;obtain⟨δ,hδ⟩:∃ δ,δ=min 1 (ε/(2*B)):=⟨_,rfl⟩
  have hεB:0<ε/(2*B):=by rw[dp];exact eZ hε<|fZ.2 Qp
  have Yy:0<δ:=by rw[hδ];grind
  have hδ1:δ<=1:=by rw[hδ];grind
  have hδ2:δ*(2*B)<=ε:=by
   have h1:δ<=ε/(2*B):=by rw[hδ];grind
   have h2:=cN h1<|b9 Qp;rwa[ev aK]at h2
  obtain⟨N0,h0⟩:=h δ Yy;refine⟨N0,λN hN=>?_⟩;obtain⟨r,hr,hd⟩:=h0 N hN;refine⟨r*r,Td hx hp iu hr,?_⟩;obtain⟨r1,r2⟩:=hr.jX xa;rw[show f N*f N-r*r=(f N-r)*(f N+r)by grind,Bl];have hs:jr (f N+r)<=2*B:=by
   obtain⟨_,c2,c3,_⟩:=nB<|f N-r;exact Bk aK aK 
  have h3:=dc hs (nB<|f N-r).1;have h4:=cN hd<|b9 Qp
  grind
 .exact qO.all<|by unfold qj;rw[Cy,xa];rfl
def adR(r:Rat):∀ ε,0<ε->∃ N0,∀ N,N0<=N->jr (EQ r N-EQ (r*P2 (-1)) N*EQ (r*P2 (-1)) N)<=ε:=by
 intro ε hε;have e:r*P2 (-1)+r*P2 (-1)=r:=by
  have:P2 (-1)=1/2:= aL ;rw[this];grind
 have:=OC (r*P2 (-1)) (r*P2 (-1)) hε;rwa[e]at this
def al1{r:Rat}{X:Iv}(hx:X.ix)(h:qO (EQ<|r*P2 (-1)) X){p:Nat}(hp:1<=p)(iu:p<=4096):qO (EQ r)<|qj X p:=(h.sqr hx hp iu).shift<|adR r
def aqE{y:Iv}{n:Int}(h:Sub y<|qP n):(nd y (-1)).all=true\/Sub (nd y (-1)) (qP<|n-1):=by
 obtain⟨ya,k1,k2⟩:=h.zj rfl;replace k1:(ki<|ri n).q<=y.lo.q:=k1;replace k2:y.hi.q<=(ri n).q:=k2;rw[sN,sB]at k1;rw[sB]at k2;unfold nd mF;rw[ya];simp only[bJ,bB];split
 .exact .inl rfl
 .rename_i he;have e:P2 (n-1)=P2 n*P2 (-1):=by rw[<-sD];congr 1
  refine .inr<|.inr ⟨rfl,?_,?_⟩
  .show (ki<|ri<|n-1).q<=(vD y.lo (-1)).q;rw[sN,sB,DF,e,<-atk,yr];exact k1
  .show (vD y.hi (-1)).q<=(ri<|n-1).q;rw[sB,DF,e,yr];exact k2
def vI(z:Rat)(k:Nat):Rat:=oK z (2*k+1)/((2*k+1:Nat):Rat)
def AQ(z:Rat)(N:Nat):Rat:=jb (vI z)<|N+1
def pH(z:Iv)(p:Nat):Nat->Iv
 | 0=>z
 |k+1=>kf (pH z p k) (qj z p) p
def yj(z:Iv)(p:Nat):Nat->Iv
 | 0=>z
 |k+1=>kO (yj z p k) (lv (pH z p<|k+1) (jj ((2*k+3:Nat):Int)) p) p
noncomputable def GF(z:Iv)(p N:Nat):Iv:=nd (kO (yj z p N) (sE<|pH z p N) p) 1
def AM{z:Iv}(hz:z.ix){p:Nat}(iC:8<=p)(iu:p<=512):∀ k,(pH z p k).ix
 | 0=>hz
 |_+1=>pI _ _ 
def ET{z:Iv}(hz:z.ix){p:Nat}(iC:8<=p)(iu:p<=512):∀ k,(yj z p k).ix
 | 0=>hz
 |k+1=>pN (ET hz iC iu k) (vJ _ _) aC aC 
def alY{z:Iv}(hz:z.ix){p:Nat}(iC:8<=p)(iu:p<=512)(N:Nat):(GF z p N).ix:=Ky (pN (ET hz iC iu N) (FK<|AM hz iC iu N) aC aC) 1
def S1(r:Rat)(k:Nat):oK r (2*(k+1)+1)=oK r (2*k+1)*(r*r):=by
 show oK r (2*k+1)*r*r=_
 grind
def RP{z:Iv}{r:Rat}(hz:z.ix)(h:z.kq r){p:Nat}(iC:8<=p)(iu:p<=512):∀ k,(pH z p k).kq (oK r<|2*k+1)
 | 0=>by
  have e:oK r (2*0+1)=r:=by show 1*r=r;grind
  rw[e];exact h
 |k+1=>by
  rw[S1];exact RZ (AM hz iC iu k) (NX hz aC aC) aC aC (RP hz h iC iu k)<|Td hz aC aC h
def Zm{z:Iv}{r:Rat}(hz:z.ix)(h:z.kq r){p:Nat}(iC:8<=p)(iu:p<=512):∀ k,k<1000000->(yj z p k).kq (AQ r k)
 | 0,_=>by
  have e:AQ r 0=r:=by
   show 0+1*r/((2*0+1:Nat):Rat)=r;have:((2*0+1:Nat):Rat)=1:=rfl;rw[this,dp,show(1:Rat)⁻¹=1 by decide +kernel];grind
  rw[e];exact h
 |k+1,hk=>DQ (ET hz iC iu k) (vJ _ _) aC aC (Zm hz h iC iu k aC)
  (LD (AM hz iC iu<|k+1) (Sh (2*k+3) aC) aC aC (RP hz h iC iu<|k+1)<|aaZ<|2*k+3)
def OQ(r:Rat):∀ n,jr (oK r n)=oK (jr r) n
 | 0=>by show jr 1=1;decide +kernel
 |n+1=>by simp only[oK];rw[Bl,OQ r n]
def ad7(r:Rat)(k:Nat):jr (vI r k)<=oK (jr r) (2*k+1):=by
 unfold vI;have hp:(0:Rat)<((2*k+1:Nat):Rat):=Dl<|2*k;have h1:(1:Rat)<=((2*k+1:Nat):Rat):=by
  have:=dW (a:=1) (b:=2*k+1);exact this.2 aC 
 have h0:=Fm (nB r).1<|2*k+1;rw[dp,Bl,OQ];have hi:=fZ.2 hp;have e:jr (((2*k+1:Nat):Rat)⁻¹)=((2*k+1:Nat):Rat)⁻¹:=by unfold jr;rw[bk<|b9 hi]
 rw[e,<-dp];have x0:=VR h0 hp;have xc:=ev (a:=oK (jr r)<|2*k+1) (b:=((2*k+1:Nat):Rat)) aK;generalize oK (jr r) (2*k+1)/((2*k+1:Nat):Rat)=x at *
 have:=dc h1 x0
 grind
def Ui{r:Rat}(hr:jr r*2<=1)(N:Nat):∀ d,jb (λi=>jr<|vI r<|N+1+i) d+oK (jr r) (2*(N+d)+1)<=oK (jr r) (2*N+1)
 | 0=>by simp only[jb,cj];grind
 |d+1=>by
  have ih:=Ui hr N d;have h1:=ad7 r<|N+1+d;have e:2*(N+1+d)+1=2*(N+d+1)+1:= aC ;rw[e,S1]at h1;have e2:2*(N+(d+1))+1=2*(N+d+1)+1:= aC ;rw[e2,S1,jb];have h0:=Fm (nB r).1<|2*(N+d)+1;have hz:=(nB r).1;have hs:jr r*jr r*4<=1:=by
   have m:=dc hr<|show 0<=jr r*2 by grind
   grind
  generalize oK (jr r) (2*(N+d)+1)=u at *
  generalize jr r*jr r=v at *
  have m2:=dc hs h0
  grind
def alX{z:Iv}{r:Rat}(hz:z.ix)(h:z.kq r)(hr:jr r*2<=1){p:Nat}(iC:8<=p)(iu:p<=512){N:Nat}(hN:N<=1000):∀ M,N<=M->(GF z p N).kq (AQ r M*2):=by
 intro M hM;obtain⟨d,rfl⟩:∃ d,M=N+d:=⟨M-N,aC⟩
 have e1:AQ r (N+d)=AQ r N+jb (λi=>vI r<|N+1+i) d:=by
  unfold AQ;rw[(aC:N+d+1=N+1+d),Hk]
 have t:=Ui hr N d;have b1:=FH (λi=>vI r<|N+1+i) d;have p0:=Fm (nB r).1<|2*(N+d)+1;have e2:P2 1=2:= aL ;rw[<-e2,e1];refine S5 (DQ (ET hz iC iu N) (FK<|AM hz iC iu N) aC aC (Zm hz h iC iu N aC)<|Uh (AM hz iC iu N) (RP hz h iC iu N) ?_) 1;rw[OQ];grind
def aqY{z:Iv}(hz:z.ix)(h:Sub z<|qP (-1)){p:Nat}(iC:8<=p)(iu:p<=512):Sub (qj z p)<|qP (-1):=by
 obtain⟨za,k1,k2⟩:=h.zj rfl;replace k1:(ki<|ri (-1)).q<=z.lo.q:=k1;replace k2:z.hi.q<=(ri (-1)).q:=k2;have e:P2 (-1)=1/2:= aL ;rw[sN,sB,e]at k1;rw[sB,e]at k2;have hl:=TZ za;have ha:(kp z).ix:=K1 hz;have hq:=ha.q;have hh:(kp z).hi.q<=1/2:=by
  unfold kp;rw[za];show(mq z).q<=1/2;obtain⟨_,_,m⟩:=EW hz.q;have:=hz.q;rcases m with m|m<;>grind
 have G1:=Cv (p:=p) aC (n:=-1) aE aE;have A:=zP (CF (kp z).lo (kp z).lo) (p:=p) aC aC;have B:=zQ (CF (kp z).hi (kp z).hi) (p:=p) aC aC;rw[G5]at A B;rw[e]at G1;have ji:0<=(kp z).lo.q*(kp z).lo.q:=ct hl hl;have hhi:(kp z).hi.q*(kp z).hi.q<=1/2:=by
  have h0:0<=(kp z).hi.q:=bZ hl hq;have m:=dc hh h0
  grind
 have a1:=A.2 (-(1/2)) G1.neg aK;have b1:=B.2 (1/2) G1 hhi;unfold qj mF;rw[Cy,za];simp only[bJ,bB];rw[bj aC];refine .inr ⟨rfl,?_,?_⟩
 .show (ki<|ri (-1)).q<=_;rw[sN,sB,e];exact a1.2
 .show _<=(ri (-1)).q;rw[sB,e];exact b1.2
def Zl{z:Iv}(hz:z.ix)(h:Sub z<|qP (-1)){p:Nat}(iC:8<=p)(iu:p<=512):∀ k,k<=900->Sub (pH z p k) (qP (-((k+1:Nat):Int)))
 | 0,_=>h
 |k+1,hk=>by
  have ih:=Zl hz h iC iu k aC;have sq:=aqY hz h iC iu;have vT:=AM hz iC iu k;obtain⟨ta,_⟩:=ih.zj rfl;obtain⟨ya,_⟩:=sq.zj rfl;exact Ij (RY vT (NX hz aC aC) ta ya (aC:1<=p) aC) aC aC aC (by
   rintro r ⟨a,b,ha,hb,rfl⟩;obtain⟨a1,a2⟩:=FO.1<|ih.kq ha;obtain⟨b1,b2⟩:=FO.1<|sq.kq hb;rw[<-Xx];exact T5 a1 a2 b1 b2)
def alZ{z:Iv}(hz:z.ix)(h:z.all=true\/Sub z (qP (-1))){p:Nat}(iC:8<=p)(iu:p<=512):∃ N,N<=1000/\(∀ x,x<N->pY (pH z p x) p=false)/\pY (pH z p N) p=true:=by
 have ex:∃ x,x<900/\pY (pH z p x) p=true:=by
  rcases h with h|h
  .exact ⟨0,aC,by show pY z p=true;unfold pY;rw[h];rfl⟩
  .exact ⟨p,aC,ac7 (AM hz iC iu _)<|Zl hz h iC iu p aC⟩
 obtain⟨N,n1,n2,n3⟩:=sx ex;exact⟨N,aC,n3,n2⟩
def ael{a b:Rat}(h:a<=b)(k:Nat):vI a k<=vI b k:=by
 unfold vI;rw[dp,dp];exact cN (SZ aC h)<|b9<|fZ.2<|Dl<|2*k
def KU{a b:Rat}(h:a<=b)(N:Nat):AQ a N<=AQ b N:=Fx _ λk _=>ael h k
def Kk{d:Dy}(h:d.m≠0):jr d.q<P2 d.iJ:=by
 have hT:d.iJ=(iD d.m:Int)+d.e:=by unfold Dy.iJ;rw[bj h]
 have h1:(d.m:Rat)<((2^iD d.m:Nat):Rat):=Rat.natCast_lt_natCast.2<|tp d.m;have h2:=eJ h1<|pk d.e;rw[<-Bg,<-sD]at h2;have h0:0<=(d.m:Rat)*P2 d.e:=ct dv<|b9<|pk _;have h4:jr d.q=(d.m:Rat)*P2 d.e:=by
  rw[sO];unfold jr;cases d.neg
  .simp only[bJ,bB];rw[bk h0]
  .simp only[bH];split<;>grind
 rw[h4,hT];exact h2
def SI{d:Dy}(h:d.m≠0):P2 (d.iJ-1)<=jr d.q:=by
 have hT:d.iJ=(iD d.m:Int)+d.e:=by unfold Dy.iJ;rw[bj h]
 have hb:0<iD d.m:=yl.2 (by rw[cR];omega);have h1:2^(iD d.m-1)<=d.m:=yl.1 aC;have h2:((2^(iD d.m-1):Nat):Rat)<=(d.m:Rat):=dW.2 h1;have h3:=cN h2<|b9<|pk d.e;rw[<-Bg,<-sD,show((iD d.m-1:Nat):Int)+d.e=d.iJ-1 by rw[hT];omega]at h3;have h4:jr d.q=(d.m:Rat)*P2 d.e:=by
  have h0:0<=(d.m:Rat)*P2 d.e:=ct dv<|b9<|pk _;rw[sO];unfold jr;cases d.neg
  .simp only[bJ,bB];rw[bk h0]
  .simp only[bH];split<;>grind
 rw[h4];exact h3
def G3{d:Dy}(h:0<d.q):d.m≠0:=λe=>by
 have:d.q=0:=by rw[sO,e];simp
 grind
def K2{r:Rat}(h:0<r):jr r=r:=by unfold jr;rw[bk<|b9 h]
def yp(d:Dy):Rat:=d.q*P2 (-d.iJ)
def Ct(d:Dy):Rat:=(yp d-1)/(yp d+1)
def TU(k:Int):P2 k*P2 (-k)=1:=by rw[<-sD,(aC:k + -k=0),OH]
def aaj{d:Dy}(h:0<d.q):1/2<=yp d/\yp d<1:=by
 have h1:=SI<|G3 h;have h2:=Kk<|G3 h;rw[K2 h]at h1 h2;have hp:=pk (-d.iJ);have e1:=TU d.iJ;have e2:P2 (d.iJ-1)*P2 (-d.iJ)=1/2:=by
  rw[<-sD,(aC:d.iJ-1 + -d.iJ = -1)];decide +kernel
 have m1:=cN h1<|b9 hp;have m2:=eJ h2 hp;unfold yp;constructor<;>grind
def Qc{a b:Rat}(ha:0<=a)(h:a<=b):(a-1)/(a+1)<=(b-1)/(b+1):=by
 have h1:0<a+1:= aK ;have h2:0<b+1:= aK ;have e1:=ev (a:=a-1) (b:=a+1) aK;have e2:=ev (a:=b-1) (b:=b+1) aK;generalize (a-1)/(a+1)=x at *
 generalize (b-1)/(b+1)=y at *
 apply dX.1;intro iN;have m1:=eJ iN h1;have hy:y<1:=by
  apply Rat.not_le.1;intro hle;have:=cN hle<|b9 h2
  grind
 have m2:=dc h<|show 0<=1-y by grind
 grind
def TL{d:Dy}(h:0<d.q):-(1/3)<=Ct d/\Ct d<=0:=by
 obtain⟨h1,h2⟩:=aaj h;have a:=Qc (show(0:Rat)<=1/2 by decide +kernel) h1;have b:=Qc (show 0<=yp d by grind)<|b9 h2;have e1:((1:Rat)/2-1)/(1/2+1) = -(1/3):= aL ;have e2:((1:Rat)-1)/(1+1)=0:= aL ;rw[e1]at a;rw[e2]at b;exact⟨a,b⟩
def Ox(z:Rat)(N:Nat):AQ (-z) N = -AQ z N:=by
 have:∀ n,jb (vI (-z)) n = -jb (vI z) n:=by
  intro n
  induction n with
  |zero=>simp[jb]
  |succ n ih=>
   rw[jb,jb,ih];have:vI (-z) n = -vI z n:=by
    unfold vI;rw[Fl,bj aC];simp only[dp];grind
   rw[this];grind
 exact this _
def TM(N:Nat):AQ 0 N=0:=by
 have:=Ox 0 N;rw[show -(0:Rat)=0 by decide +kernel]at this
 grind
def adP(N:Nat):0<=AQ (1/3) N:=by
 have:=KU (show(0:Rat)<=1/3 by decide +kernel) N;rwa[TM]at this
def LQ(d:Dy)(N:Nat):Rat:=AQ (Ct d) N*2+(d.iJ:Rat)*(AQ (1/3) N*2)
section
variable{a b:Dy}(ha:0<a.q)(h:a.q<=b.q)
def arS:a.iJ<=b.iJ:=by
 have hb:0<b.q:= aK ;have h1:=SI<|G3 ha;have h2:=Kk<|G3 hb;rw[K2 ha]at h1;rw[K2 hb]at h2;apply ca;intro iN;have:=HI (aC:b.iJ<=a.iJ-1)
 grind
def adY(N:Nat):LQ a N<=LQ b N:=by
 have hb:0<b.q:= aK ;have ht:=arS ha h;obtain⟨a1,a2⟩:=TL ha;obtain⟨b1,b2⟩:=TL hb;have c0:=adP N;unfold LQ;rcases Int.lt_or_eq_of_le ht with iN|heq
 .have k1:=KU a2 N;rw[TM]at k1;have k2:=KU b1 N;rw[Ox]at k2;have k3:(a.iJ:Rat)+1<=(b.iJ:Rat):=by
   have:=gQ (a:=a.iJ+1) (b:=b.iJ);have:=this.2 aC;rwa[Rat.intCast_add]at this
  have k4:=cN k3<|show 0<=AQ (1/3) N*2 by grind
  grind
 .have hm:yp a<=yp b:=by
   unfold yp;rw[heq];exact cN h<|b9<|pk _
  have hz:Ct a<=Ct b:=Qc (by have:=(aaj ha).1;grind) hm;have:=KU hz N;rw[heq]
  grind
end
def adZ(N:Nat):LQ ⟨false,1,0⟩ N=0:=by
 have e1:Ct ⟨false,1,0⟩ = -(1/3):= aL ;have e2:((⟨false,1,0⟩:Dy).iJ:Rat)=1:= aL ;unfold LQ;rw[e1,e2,Ox];grind
noncomputable def wb(d:Dy)(p:Nat):Iv:=nd (mG (jx d) p) (-d.iJ)
noncomputable def GH(d:Dy)(p:Nat):Iv:=lv (kO (wb d p) (jj (-1)) p) (kO (wb d p) (jj 1) p) p
section
variable{d:Dy}(hd:d.ix)
def ada(h:d.m≠0):-16384<=d.iJ-1/\d.iJ<=16384:=by
 have hT:d.iJ=(iD d.m:Int)+d.e:=by unfold Dy.iJ;rw[bj h]
 have hb:0<iD d.m:=yl.2 (by rw[cR];omega);have h1:=hd.range;unfold oi at h1;have h2:=hd.exp;constructor
 .omega
 .rw [hT]
  first|omega|(rcases h1 with h1|h1<;>first|omega|exact absurd h1 h)
def ap4(h:0<d.q){p:Nat}(iC:8<=p)(iu:p<=512)(ha:(mG (jx d) p).all=false):P2 (d.iJ-1)<=(mG (jx d) p).lo.q/\(mG (jx d) p).hi.q<=P2 d.iJ:=by
 have hm:=G3 h;obtain⟨t1,t2⟩:=ada hd hm;have q1:=SI hm;have q2:=Kk hm;rw[K2 h]at q1 q2;have A:=zP hd.canon (p:=p) aC aC;have B:=zQ hd.canon (p:=p) aC aC;have G1:G p<|P2<|d.iJ-1:=.inl ⟨1,d.iJ-1,by rw[Cz];omega,t1,by rw[Cz];omega,aH⟩;have he:¬(jI d p false≠0\/jI d p true≠0):=by
  intro hc;unfold mG mF at ha;rw[show(jx d).all=false from rfl]at ha;simp only[bJ,bB]at ha;rw[bk<|show jI (jx d).lo p false≠0\/jI (jx d).hi p true≠0 from hc]at ha;cases ha
 have e1:(mG (jx d) p).lo=jd d p false/\(mG (jx d) p).hi=jd d p true:=by
  unfold mG mF;rw[show(jx d).all=false from rfl];simp only[bJ,bB];rw[bj<|show ¬(jI (jx d).lo p false≠0\/jI (jx d).hi p true≠0)from he];exact⟨rfl,rfl⟩
 rw[e1.1,e1.2];refine⟨(A.2 _ G1 q1).2,?_⟩;by_cases ht:d.iJ<=16383
 .have G2:G p<|P2 d.iJ:=.inl ⟨1,d.iJ,by rw[Cz];omega,aC,by rw[Cz];omega,aH⟩;exact(B.2 _ G2<|b9 q2).2
 .obtain ⟨g,_⟩:=B.1 aC ;have X5:0<=(jd d p true).q:=bZ (b9 h) (B.1 aC).2;obtain⟨m,e,hb,_,hr,hv⟩:=g.pos X5;rw[hv];have h1:(m:Rat)<=((2^iD m:Nat):Rat):=dW.2<|dM<|tp m;have h2:=cN h1<|b9<|pk e;rw[<-Bg,<-sD]at h2;exact bZ h2<|HI aC
section
variable{p:Nat}(iC:8<=p)(iu:p<=512)
def amq:(wb d p).kq<|yp d:=S5 (Kt (tz hd) aC aC<|SB d) _
def ams:(wb d p).ix:=Ky (Hd<|tz hd) _
end
def amr(h:0<d.q){p:Nat}(iC:8<=p)(iu:p<=512)(ha:(wb d p).all=false):1/2<=(wb d p).lo.q/\(wb d p).hi.q<=1:=by
 unfold wb nd at ha ⊢;cases ra:(mG (jx d) p).all
 .rw [ra]at ha;obtain⟨h1,h2⟩:=ap4 hd h iC iu ra;simp only[bJ,bB]at ha ⊢;unfold mF at ha ⊢;split
  .rename_i he;rw[bk he]at ha;cases ha
  .rename_i he;have e1:=TU d.iJ;have e2:P2 (d.iJ-1)*P2 (-d.iJ)=1/2:=by
    rw[<-sD,(aC:d.iJ-1 + -d.iJ = -1)];decide +kernel
   refine⟨?_,?_⟩
   .show 1/2<=(vD _ _).q;rw[DF,<-e2,yr];exact h1
   .show (vD _ _).q<=1;rw[DF,<-e1,yr];exact h2
 .rw [ra]at ha;cases ha
end
def ajS{a b:Rat}(h1:-(1/2)<=a)(h2:a<=1/2)(hb:1<=b):-(1/2)<=a/b/\a/b<=1/2:=by
 have e:=ev (a:=a) (b:=b) aK;generalize a/b=x at *
 constructor
 .apply dX.1;intro iN;have:=eJ iN (show 0<b by grind)
  grind
 .apply dX.1;intro iN;have:=eJ iN (show 0<b by grind)
  grind
def amt{d:Dy}(hd:d.ix)(h:0<d.q){p:Nat}(iC:8<=p)(iu:p<=512):(GH d p).ix/\(GH d p).kq (Ct d)/\((GH d p).all=true\/Sub (GH d p) (qP (-1))):=by
 have vM:=ams hd iC iu;have hM:=amq hd iC iu;have vn:(jj (-1)).ix:=yy aE;have v1:(jj 1).ix:=yy aE;have vA:(kO (wb d p) (jj (-1)) p).ix:=pN vM vn aC aC;have vB:(kO (wb d p) (jj 1) p).ix:=pN vM v1 aC aC;have e1:((-1:Int):Rat) = -1:= aL ;have e2:((1:Int):Rat)=1:= aL ;have hA:=DQ vM vn (p:=p) aC aC hM<|Cb (-1);have hB:=DQ vM v1 (p:=p) aC aC hM<|Cb 1;rw[e1,show yp d + -1=yp d-1 by grind]at hA;rw[e2]at hB;refine⟨vJ _ _,LD vA vB aC aC hA hB,?_⟩;cases ma:(wb d p).all
 .right;obtain⟨m1,m2⟩:=amr hd h iC iu ma;have one:∀ (n:Int) r,(jj n).kq r->r=(n:Rat):=λn r hr=>by
   obtain⟨r1,r2⟩:=hr.jX rfl;replace r1:(jm n).q<=r:=r1;replace r2:r<=(jm n).q:=r2;rw[Dz]at r1 r2;exact gh r2 r1
  have g1:G p<|1/2:=by have:=Cv (p:=p) aC (n:=-1) aE aE;rwa[show P2 (-1)=1/2 by decide +kernel]at this
  have g2:G p 1:=by have:=Cv (p:=p) aC (n:=0) aE aE;rwa[OH]at this
  have g4:G p 2:=by have:=Cv (p:=p) aC (n:=1) aE aE;rwa[show P2 1=2 by decide +kernel]at this
  obtain⟨aa,a1,a2⟩:=(OR vM vn ma rfl (aC:1<=p) aC).AL (-(1/2)) (1/2) g1.neg g1 (by
   rintro r ⟨a,b,ha,hb,rfl⟩;obtain⟨b1,b2⟩:=ha.jX ma;rw[one _ b hb,e1];constructor<;>grind)
  obtain⟨ba,b1,b2⟩:=(OR vM v1 ma rfl (aC:1<=p) aC).AL 1 2 g2 g4 (by
   rintro r ⟨a,b,ha,hb,rfl⟩;obtain⟨b1,b2⟩:=ha.jX ma;rw[one _ b hb,e2];constructor<;>grind)
  refine Ij (LC vA vB aa (Ta ba<|.inl aK) (aC:1<=p) aC) aC aE aE ?_;rintro r ⟨a,b,ha,hb,rfl⟩;obtain⟨x1,x2⟩:=ha.jX aa;obtain⟨y1,y2⟩:=hb.jX ba;rw[show P2 (-1)=1/2 by decide +kernel];exact ajS aK aK aK 
 .left;show(lv (kO (wb d p) (jj (-1)) p) (kO (wb d p) (jj 1) p) p).all=true;rw[K3 p<|.inl ma,ID p<|.inl rfl];rfl
def aiq{d:Dy}(hd:d.ix)(h:d.m≠0){p:Nat}(iC:8<=p)(iu:p<=512){n:Int}(h1:d.iJ<=n)(h2:-1000<=n)(h3:n<=1000):Sub (mG (jx d) p)<|qP n:=by
 refine ap3 (tz hd) aC aC h2 h3<|.inr ⟨rfl,?_,?_⟩
 .show (ki<|ri n).q<=d.q;rw[sN,sB];have:=Kk h;have hl:=HI h1;obtain⟨_,a2,a3,_⟩:=nB d.q
  grind
 .show d.q<=(ri n).q;rw[sB];have:=Kk h;have hl:=HI h1;obtain⟨_,a2,a3,_⟩:=nB d.q
  grind
def adA(y:Iv)(p n:Nat)(x:Nat):PS:=⟨32,true,[(7,.e<|iP ((x+1:Nat):Int)),(6,.box 6 0),(5,.box 5 0),(4,.box 4 0),(3,.box 3 0),(2,.box 2 0)],[(6,.cells 41<|jS<|wO y p x),(5,.cells 41<|jS<|mg y p x),(4,.cells 41 au),(3,.cells 41<|jS y),(2,.cells 188 [iP p])]⟩
def al3{f:Nat->Rat}{X Y:Iv}(h:qO f X)(k:∀ r,X.kq r->Y.kq r):qO f Y:=λε hε=>by
 obtain⟨N0,h0⟩:=h ε hε;exact⟨N0,λN hN=>by obtain⟨r,h1,h2⟩:=h0 N hN;exact⟨r,k r h1,h2⟩⟩
def ivW{x:Iv}(hx:x.ix)(ha:x.all=true):x=iw:=by
 obtain⟨h1,h2⟩:=YY hx ha;obtain⟨a,b,c⟩:=x;simp only at h1 h2 ha;rw[h1,h2,ha];rfl
section
variable(x:Iv)(hx:x.ix)
def aeB(xa:x.all=true)(k:Int)(k1:-32768<=k)(k2:k<=32768):il 244 [iA x,iP k]<|iA<|nd x k:=
 iE (ae [.o 10<|.e<|mn x,.c<|qU x aD,ai 11 (!x.all)<|by rw[xa];rfl,.c oC]<|rQ (iA iw) (iA<|nd x k)<|by rw[show(nd x k)=iw by unfold nd;rw[bk xa]])
def aeC(xa:x.all=false)(k:Int)(k1:-32768<=k)(k2:k<=32768):il 244 [iA x,iP k]<|iA<|nd x k:=by
 obtain⟨v1,v2⟩:=hx.jX;exact iE<|ae [.o 10<|.e<|mn x,.c<|qU x aD,ah 11 (!x.all)<|by rw[xa];rfl,.c<|O4 x.lo k aD aC aC,.c<|O4 x.hi k aD aC aC,.c<|EN (nZ<|canon x.lo.neg x.lo.m<|x.lo.e+k) (nZ<|canon x.hi.neg x.hi.m<|x.hi.e+k) (rp<|canon x.lo.neg x.lo.m<|x.lo.e+k)<|rp<|canon x.hi.neg x.hi.m<|x.hi.e+k]<|rQ (iA<|mF (nZ<|canon x.lo.neg x.lo.m<|x.lo.e+k) (rp<|canon x.lo.neg x.lo.m<|x.lo.e+k) (nZ<|canon x.hi.neg x.hi.m<|x.hi.e+k)<|rp<|canon x.hi.neg x.hi.m<|x.hi.e+k) (iA<|nd x k)<|by unfold nd;rw[bj<|by rw[xa];decide];simp only[aqB,aqC]
def Ld(k:Int)(k1:-32768<=k:=by omega)(k2:k<=32768:=by omega):il 244 [iA x,iP k]<|iA<|nd x k:=by
 cases xa:x.all with
 |true=>exact aeB x hx xa k k1 k2
 |false=>exact aeC x hx xa k k1 k2
def aez(xa:x.all=true)(p:Nat)(iC:8<=p)(iu:p<=512):il 196 [iA x,iP p]<|iA<|mG x p:=
 iE (ae [.o 10<|.e<|mn x,.c<|qU x aD,ai 11 (!x.all)<|by rw[xa];rfl,.c oC]<|rQ (iA iw) (iA<|mG x p)<|by rw[show(mG x p)=iw by unfold mG;rw[bk xa]])
def aeA(xa:x.all=false)(p:Nat)(iC:8<=p)(iu:p<=512):il 196 [iA x,iP p]<|iA<|mG x p:=by
 obtain⟨v1,v2⟩:=hx.jX;exact iE<|ae [.o 10<|.e<|mn x,.c<|qU x aD,ah 11 (!x.all)<|by rw[xa];rfl,.c<|xi (p:Int),ah 15 (kA (p:Int))<|oo.2 ⟨aC,aC⟩,.c<|Ih x.lo p aD,.c<|Ii x.hi p aD,.c<|EN (jd x.lo p false) (jd x.hi p true) (jI x.lo p false)<|jI x.hi p true]<|rQ (iA<|mF (jd x.lo p false) (jI x.lo p false) (jd x.hi p true)<|jI x.hi p true) (iA<|mG x p)<|by unfold mG;rw[bj<|by rw[xa];decide]
def Ig(p:Nat)(iC:8<=p:=by omega)(iu:p<=512:=by omega):il 196 [iA x,iP p]<|iA<|mG x p:=by
 cases xa:x.all with
 |true=>exact aez x hx xa p iC iu
 |false=>exact aeA x hx xa p iC iu
def aeD(xa:x.all=true)(p:Nat)(iC:8<=p)(iu:p<=512):il 243 [iA x,iP p]<|iA<|qj x p:=by
 have ha:(kp x).all=true:=by rw[Cy,xa]
 exact iE<|ae [.c<|Ry x aD,ah 13 ((kp x).all) ha,.c oC]<|rQ (iA iw) (iA<|qj x p)<|by unfold qj;rw[bk ha]
def aeE(xa:x.all=false)(p:Nat)(iC:8<=p)(iu:p<=512):il 243 [iA x,iP p]<|iA<|qj x p:=by
 have ha:(kp x).all=false:=by rw[Cy,xa]
 have hv:=K1 hx;obtain⟨v1,v2⟩:=hv.jX;exact iE<|ae [.c<|Ry x aD,ai 13 ((kp x).all) ha,.c<|xi (p:Int),ah 16 (kA (p:Int))<|oo.2 ⟨aC,aC⟩,.c<|Km ((kp x).lo) ((kp x).lo) p aD aD,.c<|Nt ((kp x).hi) ((kp x).hi) p aD aD aC aC,.c<|EN (jd (mI ((kp x).lo)<|(kp x).lo) p false) (jd (mI ((kp x).hi)<|(kp x).hi) p true) (jI (mI ((kp x).lo)<|(kp x).lo) p false)<|jI (mI ((kp x).hi)<|(kp x).hi) p true]<|rQ (iA<|mF (jd (mI ((kp x).lo)<|(kp x).lo) p false) (jI (mI ((kp x).lo)<|(kp x).lo) p false) (jd (mI ((kp x).hi)<|(kp x).hi) p true)<|jI (mI ((kp x).hi)<|(kp x).hi) p true) (iA<|qj x p)<|by unfold qj;rw[bj<|by rw[ha];decide];rfl
def Uu(p:Nat)(iC:8<=p)(iu:p<=512):il 243 [iA x,iP (p:Int)]<|iA<|qj x p:=by
 cases xa:x.all with
 |true=>exact aeD x hx xa p iC iu
 |false=>exact aeE x hx xa p iC iu
def Uv(xa:x.all=true):il 160 [iA x]<|.iH [iB iY,bP false]:=
 iE (af [.o 5<|.e<|mn x,.c<|qU x aD,ai 6 (!x.all)<|by rw[xa];rfl,.o 8 (.e uQ:aj (.agg ar)<|iB iY)])
end
def zW(n:Int)(h:n.natAbs<4294967296:=by omega):il 194 [iP n]<|iA<|jj n:=by
 have hv:=tU h;exact iE<|af [.c<|rL n,.c<|yh (jm n) aD]
section
variable(p:Nat)(x y:Iv)(hx:x.ix)(hy:y.ix)
def DN(iC:8<=p:=by omega)(iu:p<=512:=by omega):il 289 [.agg [iP p],iA x,iA y]<|iA<|kO x y p:=
 iE (af [.c<|BW x y p aD aD])
def Om(iC:8<=p:=by omega)(iu:p<=512:=by omega):il 288 [.agg [iP p],iA x,iA y]<|iA<|kf x y p:=
 iE (af [.c<|vY x y p aD aD])
def KR(iC:8<=p:=by omega)(iu:p<=512:=by omega):il 287 [.agg [iP p],iA x,iA y]<|iA<|lv x y p:=
 iE (af [.c<|Jx x y p aD aD])
end
def asx(p:Nat)(x:Iv)(hx:x.ix)(xa:x.all=true)(iC:8<=p)(iu:p<=512):il 290 [.agg [iP p],iA x]<|bP<|pY x p:=
 iE (ae [ag [iA x]<|Uv _ hx xa]<|rQ (bP true) (bP<|pY x p)<|by unfold pY;rw[xa];rfl)
def ac6{x:Iv}(xa:x.all=false)(p:Nat):pY x p=(((mq x).jL==0)||decide ((mq x).iJ<=0-(p:Int))):=by
 unfold pY;rw[xa,fu];congr 1
 .unfold Dy.jL;by_cases h:(mq x).m=0
  .simp [h]
  .simp only[h,bB,decide_false];split<;>rfl
 .rw [show(0:Int)-p = -(p:Int)by omega]
section
variable(p:Nat)(x:Iv)(hx:x.ix)
def asy(xa:x.all=false)(iC:8<=p)(iu:p<=512):il 290 [.agg [iP p],iA x]<|bP<|pY x p:=by
 have hm:=EX hx.jX.1 hx.jX.2;exact iE (ae [.c<|Gz x hx xa,.c<|pP (mq x) aD]<|.w ((Dy.jL<|mq x)=0)
  (λk1=>ae [tB 17<|aZ k1]<|rQ (bP true) (bP<|pY x p)<|by rw[ac6 xa];simp[k1])
  (λk1=>ae [tB 17<|aY k1,.c<|oY (mq x) aD,iL<|0-(p:Int)]<|rQ (bP<|decide ((Dy.iJ<|mq x)<=(0-(p:Int)))) (bP<|pY x p)<|by rw[ac6 xa];simp[k1]))
def On(iC:8<=p:=by omega)(iu:p<=512:=by omega):il 290 [.agg [iP p],iA x]<|bP<|pY x p:=by
 cases xa:x.all with
 |true=>exact asx p x hx xa iC iu
 |false=>exact asy p x hx xa iC iu
end
section
variable(x:Iv)(hx:x.ix)
def asE(xa:x.all=true):il 291 [iA x]<|iA<|sE x:=
 iE (ae [ag [iA x]<|Uv _ hx xa,.c oC]<|rQ (iA iw) (iA<|sE x)<|by rw[show sE x=iw by unfold sE;rw[bk xa];exact ivW hx xa])
def asF(xa:x.all=false):il 291 [iA x]<|iA<|sE x:=by
 have hm:=EX hx.jX.1 hx.jX.2;exact iE<|ae [.c<|Gz x hx xa,.c<|xL (mq x) aD]<|rQ (iA<|Iv.mk (ki<|mq x) (mq x) false) (iA<|sE x)<|by unfold sE;rw[bj<|by rw[xa];decide];try rfl
def adJ:il 291 [iA x]<|iA<|sE x:=by
 cases xa:x.all with
 |true=>exact asE x hx xa
 |false=>exact asF x hx xa
end
def ass(y:Iv)(p n:Nat)(hy:y.ix)(iC:8<=p)(iu:p<=512)(h2:n<=1000)(ji:∀ x,x<n->pY (mg y p<|x+1) p=false)(hN:pY (mg y p<|n+1) p=true):il 242 [.agg [iP p],iA y]<|iA<|Bs y p<|n+1:=by
 have t0:=yD hy iC iu n;have s0:=FY hy iC iu n;have t1:(kf (mg y p n) y p).ix:=pI _ _;have n1:(jj ((n+1:Nat):Int)).ix:=E7 _;have t2:(lv (kf (mg y p n) y p) (jj ((n+1:Nat):Int)) p).ix:=vJ _ _;have a1:(kO (wO y p n) (lv (kf (mg y p n) y p) (jj ((n+1:Nat):Int)) p) p).ix:=pN s0 t2 aC aC;have r1:=FK t2;exact iE (ae [ag [iP 1]<|zW _,ag [iP 1]<|zW _,.s (Sp.jP (adA y p n) 0 n aC (λx hx mX=>by
    have t0:=yD hy iC iu x;have s0:=FY hy iC iu x;have t1:(kf (mg y p x) y p).ix:=pI _ _;have n1:(jj ((x+1:Nat):Int)).ix:=E7 _;have t2:(lv (kf (mg y p x) y p) (jj ((x+1:Nat):Int)) p).ix:=vJ _ _;exact iS (ae [ag [.agg [iP p],iA<|mg y p x,iA y]<|Om _ _ _ aD aD,ag [iP ((x+1:Nat):Int)]<|zW _,ag [.agg [iP p],iA<|kf (mg y p x) y p,iA<|jj ((x+1:Nat):Int)]<|KR _ _ _ aD aD,ag [.agg [iP p],iA<|wO y p x,iA<|lv (kf (mg y p x) y p) (jj ((x+1:Nat):Int)) p]<|DN _ _ _ aD aD,ag [.agg [iP p],iA<|lv (kf (mg y p x) y p) (jj ((x+1:Nat):Int)) p]<|On _ _ aD,ai 26 (pY (lv (kf (mg y p x) y p) (jj ((x+1:Nat):Int)) p) p)<|ji x aC,iL<|((x+1:Nat):Int)+1]<|.e<|af [.b 6<|.refl<|.cells 41<|jS<|wO y p<|x+1,.b 5<|.refl<|.cells 41<|jS<|mg y p<|x+1]) aF)
  (λhx=>by
    exact iS (af [ag [.agg [iP p],iA<|mg y p n,iA y]<|Om _ _ _ aD aD,ag [iP ((n+1:Nat):Int)]<|zW _,ag [.agg [iP p],iA<|kf (mg y p n) y p,iA<|jj ((n+1:Nat):Int)]<|KR _ _ _ aD aD,ag [.agg [iP p],iA<|wO y p n,iA<|lv (kf (mg y p n) y p) (jj ((n+1:Nat):Int)) p]<|DN _ _ _ aD aD,ag [.agg [iP p],iA<|lv (kf (mg y p n) y p) (jj ((n+1:Nat):Int)) p]<|On _ _ aD,ah 26 (pY (lv (kf (mg y p n) y p) (jj ((n+1:Nat):Int)) p) p) hN]) aF) aI:jM 4 f242 (adA y p n 0) (.exit 0) ⟨32,true,[(6,.box 6 0),(5,.box 5 0),(4,.box 4 0),(2,.box 2 0)],[(6,.cells 41<|jS<|kO (wO y p n) (lv (kf (mg y p n) y p) (jj ((n+1:Nat):Int)) p) p),(5,.cells 41<|jS<|lv (kf (mg y p n) y p) (jj ((n+1:Nat):Int)) p),(4,.cells 41 au),(2,.cells 188 [iP p])]⟩)<|af [.o 7<|aq 1 ((0+1:Nat):Int) aO,.b 6<|.refl<|.cells 41<|jS<|wO y p 0,.b 5<|.refl<|.cells 41<|jS<|mg y p 0],ag [iA<|lv (kf (mg y p n) y p) (jj ((n+1:Nat):Int)) p]<|adJ _ aD,ag [.agg [iP p],iA<|kO (wO y p n) (lv (kf (mg y p n) y p) (jj ((n+1:Nat):Int)) p) p,iA<|sE<|lv (kf (mg y p n) y p) (jj ((n+1:Nat):Int)) p]<|DN _ _ _ aD aD]<|rR (iA<|Bs y p<|n+1) (.jq rfl:E.le (iA<|kO (kO (wO y p n) (lv (kf (mg y p n) y p) (jj ((n+1:Nat):Int)) p) p) (sE<|lv (kf (mg y p n) y p) (jj ((n+1:Nat):Int)) p) p)<|iA<|Bs y p<|n+1))
def ast{y:Iv}(hy:y.ix)(hb:y.all=true\/Sub y (qP (-1))){p:Nat}(iC:8<=p)(iu:p<=512):∃ Z,Z.ix/\(∀ r,y.kq r->qO (EQ r) Z)/\il 242 [.agg [iP (p:Int)],iA y] (iA Z):=by
 obtain⟨N,h1,h2,h3,h4⟩:=aiv hy hb iC iu;obtain⟨n,rfl⟩:∃ n,N=n+1:=⟨N-1,aC⟩
 exact⟨Bs y p<|n+1,aiu hy iC iu _,λr hr=>ait hy hr hb iC iu h1 h2,ass y p n hy iC iu aC (λx hx=>h3 (x+1) aC aC) h4⟩
def asv(y Z:Iv)(p:Nat)(ajR:il 242 [.agg [iP (p:Int)],iA y]<|iA Z):il 197 [.agg [iP p],iA y,iP 0]<|iA Z:=
 iE (af [ah 8 ((0:Int)==0) aE,ag [.agg [iP p],iA y] ajR])
def asu(y Z:Iv)(p n:Nat)(hy:y.ix)(hZ:Z.ix)(hn:n<=1000)(hH:il 197 [.agg [iP (p:Int)],iA<|nd y (-1),iP (n:Int)]<|iA Z)(iC:8<=p)(iu:p<=512):il 197 [.agg [iP p],iA y,iP ((n+1:Nat):Int)]<|iA<|qj Z p:=
 iE (af [ai 8 (((n+1:Nat):Int)==0)<|oj aC,ag [iA y,iP (-1)]<|Ld _ aD _,iL<|((n+1:Nat):Int)-1,.c (by rw[show(((n+1:Nat):Int)-1)=(n:Int)by omega];exact hH:il 197 [.agg [iP p],iA<|nd y (-1),iP<|((n+1:Nat):Int)-1]<|iA Z),ag [iA Z,iP p]<|Uu _ aD _ aC aC])
def adB{p:Nat}(iC:8<=p)(iu:p<=512):∀ (n:Nat) {y:Iv},n<=500->y.ix->(y.all=true\/Sub y (qP<|(n:Int)-1))->∃ Z,Z.ix/\(∀ r,y.kq r->qO (EQ r) Z)/\il 197 [.agg [iP (p:Int)],iA y,iP (n:Int)] (iA Z)
 | 0,y,_,hy,hb=>by
  obtain⟨Z,h1,h2,h3⟩:=ast hy (by simpa using hb) iC iu;exact⟨Z,h1,h2,asv y Z p h3⟩
 |n+1,y,hn,hy,hb=>by
  have hs:=Ky hy (-1);have oe:(nd y (-1)).all=true\/Sub (nd y (-1)) (qP<|(n:Int)-1):=by
   rcases hb with hb|hb
   .left;unfold nd;rw[bk hb];rfl
   .have:=aqE hb;rwa[show(((n+1:Nat):Int)-1-1)=(n:Int)-1 by omega]at this
  obtain⟨Z,h1,h2,h3⟩:=adB iC iu n aC hs oe;exact⟨qj Z p,NX h1 aC aC,λr hr=>al1 h1 (h2 _<|S5 hr (-1)) aC aC,asu y Z p n hy h1 aC h3 iC iu⟩
def TH(p m:Nat)(h1:p<=512)(h2:m<=1000):il 195 [iP p,iP m]<|.agg [iP ((min (p+m) 512:Nat):Int)]:=
 iE (af [iL<|(p:Int)+m,.o 8<|aq (if 512<((p+m:Nat):Int)then 512 else((p+m:Nat):Int)) ((min (p+m) 512:Nat):Int) aM])
def asU(d:Dy)(p:Nat)(hd:d.ix)(h0:d.jL=0)(iC:8<=p)(iu:p<=512):il 117 [iB d,iP p]<|iA<|jj 1:=
 iE (af [.c<|pP d aD,ah 9 ((Dy.jL d)==0)<|by rw[h0];rfl,ag [iP 1]<|zW _])
def KK{d:Dy}(hd:d.ix):-100000<=d.iJ:=by
 unfold Dy.iJ;have:=hd.exp;split<;>omega
def arV{d:Dy}(h:d.m=0):d.iJ=0:=by unfold Dy.iJ;rw[bk h]
def asT(d:Dy)(p:Nat)(Z:Iv)(hd:d.ix)(h0:d.jL≠0)(ht:d.iJ<=100)(hZ:Z.ix)(hH:il 197 [.agg [iP (((min (p+(((d.iJ+1).toNat)+24)) 512):Nat):Int)],iA<|mG (jx d)<|min (p+(((d.iJ+1).toNat)+24)) 512,iP ((((d.iJ+1).toNat):Nat):Int)]<|iA Z)(iC:8<=p)(iu:p<=512):il 117 [iB d,iP p]<|iA<|mG Z p:=by
 have uE:-100000<=d.iJ:=KK hd;have vp:=tz hd;exact iE<|af [.c<|pP d aD,ai 9 ((Dy.jL d)==0)<|by simpa using h0,.c<|oY d aD,iL<|(Dy.iJ d)+1,.o 14<|aq (if 0>((Dy.iJ d)+1)then 0 else((Dy.iJ d)+1)) ((d.iJ+1).toNat:Int) aM,iL<|((d.iJ+1).toNat:Int)+24,ag [iP p,iP ((((d.iJ+1).toNat)+24:Nat):Int)]<|TH _ _ aC aC,.c<|yh d aD,ag [iA<|jx d,iP ((min (p+(((d.iJ+1).toNat)+24)) 512:Nat):Int)]<|Ig _ aD _,ag [.agg [iP ((min (p+(((d.iJ+1).toNat)+24)) 512:Nat):Int)],iA<|mG (jx d)<|min (p+(((d.iJ+1).toNat)+24)) 512,iP ((d.iJ+1).toNat:Int)] hH,ag [iA Z,iP p]<|Ig _ aD _]
def aqP{d:Dy}(h:d.jL≠0):d.m≠0:=λq=>h<|by unfold Dy.jL;rw[bk q]
def adM{d:Dy}(hd:d.ix)(ht:d.iJ<=100){p:Nat}(iC:8<=p)(iu:p<=512):∃ Z,Z.ix/\qO (EQ d.q) Z/\il 117 [iB d,iP (p:Int)] (iA Z):=by
 by_cases h0:d.jL=0
 .refine ⟨jj 1,yy aE,?_,asU d p hd h0 iC iu⟩;have hq:d.q=0:=by
   have h1:=xw d;rw[h0]at h1;have a:=h1.1.2;have b:=h1.2.2;have:¬0<d.q:=λq=>absurd (a q) aE 
   have:¬d.q<0:=λq=>absurd (b q) aE 
   grind
  rw[hq];exact qO.Sn (k:=0) λN _=>by rw[adV];exact Cb 1
 .have hm:=aqP h0;obtain⟨P,hP⟩:∃ P,P=min (p+((d.iJ+1).toNat+24)) 512:=⟨_,rfl⟩
  have hb:=aiq hd hm (p:=P) aC aC (n:=((d.iJ+1).toNat:Int)-1) aC aC aC;obtain⟨Z,h1,h2,h3⟩:=adB (p:=P) aC aC ((d.iJ+1).toNat) aC (Hd<|tz hd)<|.inr hb;subst hP;refine⟨mG Z p,Hd h1,?_,asT d p Z hd h0 ht h1 h3 iC iu⟩;have hl:=h2 _<|Kt (tz hd) aC aC<|SB d;exact al3 hl λr hr=>Kt h1 aC aC hr
def adK(a b:Iv)(ha:a.ix)(hb:b.ix):il 116 [iA a,iA b]<|iA<|wL a b:=
 iE (.w (a.all=true)
  (λk1=>ae [tB 6 k1,.c oC]<|rQ (iA iw) (iA<|wL a b)<|by unfold wL;simp[k1])
  (λk1=>ae [tB 6<|bc k1]<|.w (b.all=true)
   (λk2=>ae [tB 9 k2,.c oC]<|rQ (iA iw) (iA<|wL a b)<|by unfold wL;simp[k1,k2])
   (λk2=>ae [tB 9<|bc k2]<|rQ (iA<|Iv.mk a.lo b.hi false) (iA<|wL a b)<|by unfold wL;simp[k1,k2])))
def vz(d:Dy):Bool:=decide (jN (mi d) (jm 1000)<=0)
def KT(d:Dy)(hd:d.ix):il 115 [iB d]<|bP<|vz d:=by
 have ha:=yN hd;have hi:(jm 1000).ix:=tU aE;exact iE<|af [.c<|D1 d aD,.c<|rL 1000,.c<|nE (mi d) (jm 1000) aD aD]
section
variable(x:Iv)(p:Nat)(hx:x.ix)
def FE(iC:8<=p:=by omega)(iu:p<=512:=by omega):il 114 [iA x,iP p]<|bP<|!x.all:=
 iE (.w (x.all=true)
  (λk1=>ae [tB 6 k1]<|rQ (bP false) (bP<|!x.all)<|by simp[k1])
  (λk1=>ae [tB 6<|bc k1,.c<|qG x aD,tT 14 (8<=(p:Int)) aC,tT 18 ((p:Int)<=512) aC]<|rQ (bP true) (bP<|!x.all)<|by simp[k1]))
def asG(iC:8<=p)(iu:p<=512)(xa:x.all=true):il 67 [iA x,iP p]<|iA iw:=
 iE (af [ag [iA x,iP p]<|FE _ _ aD,ai 7 (!x.all)<|by rw[xa];rfl,.c oC])
section
variable(iC:8<=p)(iu:p<=512)(xa:x.all=false)
def asK(h1:vz x.lo=false):il 67 [iA x,iP p]<|iA iw:=by
 obtain⟨w1,w2⟩:=hx.jX;exact iE<|af [ag [iA x,iP p]<|FE _ _ aD,ah 7 (!x.all)<|by rw[xa];rfl,ag [iB x.lo]<|KT _ aD,ai 12 (vz x.lo) h1,.c oC]
def asI(h1:vz x.lo=true)(h2:vz x.hi=false):il 67 [iA x,iP p]<|iA iw:=by
 obtain⟨w1,w2⟩:=hx.jX;exact iE<|af [ag [iA x,iP p]<|FE _ _ aD,ah 7 (!x.all)<|by rw[xa];rfl,ag [iB x.lo]<|KT _ aD,ah 12 (vz x.lo) h1,ag [iB x.hi]<|KT _ aD,ai 18 (vz x.hi) h2,.c oC]
def asJ(h1:vz x.lo=true)(h2:vz x.hi=true)(Z1 Z2:Iv)(z1:Z1.ix)(z2:Z2.ix)(k1:il 117 [iB x.lo,iP (p:Int)]<|iA Z1)(k2:il 117 [iB x.hi,iP (p:Int)]<|iA Z2):il 67 [iA x,iP p]<|iA<|wL Z1 Z2:=by
 obtain⟨w1,w2⟩:=hx.jX;exact iE<|af [ag [iA x,iP p]<|FE _ _ aD,ah 7 (!x.all)<|by rw[xa];rfl,ag [iB x.lo]<|KT _ aD,ah 12 (vz x.lo) h1,ag [iB x.hi]<|KT _ aD,ah 18 (vz x.hi) h2,ag [iB x.lo,iP p] k1,ag [iB x.hi,iP p] k2,ag [iA Z1,iA Z2]<|adK _ _ aD aD]
end
end
def aaf{d:Dy}(hd:d.ix)(h:vz d=true):d.iJ<=100:=by
 by_cases h0:d.m=0
 .rw [arV h0];decide
 .unfold vz at h;rw[c9,r6,Dz]at h;have hq:=Cf d;have ha:jr d.q<=P2 10:=by
   have:P2 10=1024:= aL ;rw[this];have ajL:((1000:Int):Rat)=1000:=rfl;rw[ajL]at h;exact Bk aK aK 
  have:=ac9 h0 ha;omega
def Wh{a b:Iv}(ha:a.ix)(hb:b.ix)(h:a.all=false->b.all=false->a.lo.q<=b.hi.q):(wL a b).ix:=by
 unfold wL;cases xa:a.all
 .cases xb:b.all
  .exact .inr ⟨rfl,ha.jX.1,hb.jX.2,(r6 _ _).2<|h xa xb⟩
  .exact ln
 .exact ln
def asH{x:Iv}(hx:x.ix){p:Nat}(iC:8<=p)(iu:p<=512):∃ Z,Z.ix/\il 67 [iA x,iP (p:Int)] (iA Z):=by
 cases xa:x.all with
 |true=>exact⟨iw,ln,asG x p hx iC iu xa⟩
 |false=>
  cases h1:vz x.lo with
  |false=>exact⟨iw,ln,asK x p hx iC iu xa h1⟩
  |true=>
   cases h2:vz x.hi with
   |false=>exact⟨iw,ln,asI x p hx iC iu xa h1 h2⟩
   |true=>
    obtain⟨w1,w2⟩:=hx.jX;obtain⟨Z1,z1,l1,k1⟩:=adM w1 (aaf w1 h1) iC iu;obtain⟨Z2,z2,l2,k2⟩:=adM w2 (aaf w2 h2) iC iu;exact⟨wL Z1 Z2,Wh z1 z2 λa b=>al2 l1 l2 (λε hε=>adS hx.q hε) a b,asJ x p hx iC iu xa h1 h2 Z1 Z2 z1 z2 k1 k2⟩
section
variable(t:je)(l:List Iv)(i p:Nat)(x:Nat)
def WT:PS:=⟨95,true,[(10,.own 10),(20,.e<|iP x),(19,.e<|iP t.iI),(9,.e<|.mp Ft),(4,.box 4 0),(1,.e<|iG l),(2,.e<|iP i),(3,.e<|iP p)],[(10,.row true 41 ((pK t.iI i x).length) 7<|jC<|pK t.iI i x),(4,.cells 29 [iP t.iI,lG t.iq,lL t.iz])]⟩
noncomputable def WU:PS:=⟨95,true,[(36,.e<|iP x),(35,.e<|iP t.iq.length),(34,.e<|lG t.iq),(10,.own 10),(9,.e<|.mp Ft),(4,.box 4 0),(1,.e<|iG l),(3,.e<|iP p)],[(10,.row true 41 ((kB t l i p x).length) 7<|jC<|kB t l i p x),(4,.cells 29 [iP t.iI,lG t.iq,lL t.iz])]⟩
end
def IX(n:Int)(h:n.natAbs<4294967296:=by omega):il 278 [iP n]<|iA<|jj n:=by
 have hv:=tU h;exact iE<|af [.c<|rL n,.c<|yh (jm n) aD]
section
variable(o:jv)
def anu(v a b da db:Iv)(p:Nat):List E:=zF o++jS v++jS a++jS b++jS da++jS db++[iP (p:Int)]
def Sd(v:Iv)(p:Nat):E:=.agg<|zF o++jS v++au++au++au++au++[iP (p:Int)]
def wh(v a b da db:Iv)(p:Nat):E:=.agg<|anu o v a b da db p
def aqk(v:Iv)(p:Nat):il 322 [Sd o v p]<|iA<|jj 0:=
 iE (af [ag [iP 0]<|IX _])
section
variable(v a b da db:Iv)(p:Nat)
def aql(hv:v.ix)(ha:a.ix)(hb:b.ix)(hd:da.ix)(he:db.ix)(iC:8<=p)(iu:p<=512):il 323 [wh o v a b da db p,(.jK 1 λ_=>.fn 73 [])]<|iA<|kO da db p:=by
 have q1:1<=p:= aC ;have q2:p<=4096:= aC ;exact iE<|af [.c<|BW da db p aD aD]
def aqm(hv:v.ix)(ha:a.ix)(hb:b.ix)(hd:da.ix)(he:db.ix)(iC:8<=p)(iu:p<=512):il 324 [wh o v a b da db p,(.jK 1 λ_=>.fn 163 [])]<|iA<|nn da db p:=by
 have q1:1<=p:= aC ;have q2:p<=4096:= aC ;exact iE<|af [.c<|EO da db p aD aD]
def aqp(hv:v.ix)(ha:a.ix)(hb:b.ix)(hd:da.ix)(he:db.ix)(iC:8<=p)(iu:p<=512):il 325 [wh o v a b da db p]<|iA<|tu da:=by
 have q1:1<=p:= aC ;have q2:p<=4096:= aC ;exact iE<|af [.c<|MJ da aD]
def aqn(hv:v.ix)(ha:a.ix)(hb:b.ix)(hd:da.ix)(he:db.ix)(iC:8<=p)(iu:p<=512):il 326 [wh o v a b da db p,(.jK 1 λ_=>.fn 73 []),(.jK 1 λ_=>.fn 68 [])]<|iA<|kO (kf da b p) (kf a db p) p:=by
 have q1:1<=p:= aC ;have q2:p<=4096:= aC ;exact iE<|af [.c<|vY da b p aD aD,.c<|vY a db p aD aD,.c<|BW (kf da b p) (kf a db p) p (pI _ _ q1 q2)<|pI _ _ q1 q2]
def aqo(hv:v.ix)(ha:a.ix)(hb:b.ix)(hd:da.ix)(he:db.ix)(iC:8<=p)(iu:p<=512):il 327 [wh o v a b da db p,(.jK 1 λ_=>.fn 99 []),(.jK 1 λ_=>.fn 163 []),(.jK 1 λ_=>.fn 68 [])]<|iA<|lv (nn da (kf v db p) p) b p:=by
 have q1:1<=p:= aC ;have q2:p<=4096:= aC ;exact iE<|af [.c<|vY v db p aD aD,.c<|EO da (kf v db p) p aD<|pI _ _ q1 q2,.c<|Jx (nn da (kf v db p) p) b p (pN hd (xr<|pI _ _ q1 q2) q1 q2) aD]
def aqq(hv:v.ix)(ha:a.ix)(hb:b.ix)(hd:da.ix)(he:db.ix)(iC:8<=p)(iu:p<=512)(h0:o.n=0):il 328 [wh o v a b da db p,(.jK 1 λ_=>.fn 68 [])]<|iA<|kf (jj 0) da p:=by
 have q1:1<=p:= aC ;have q2:p<=4096:= aC ;have C5:=Sg;exact iE<|af [ah 7 ((o.n:Int)==0)<|ua h0,ag [iP 0]<|IX _,.c<|vY (jj 0) da p C5 aD]
def aqr(hv:v.ix)(ha:a.ix)(hb:b.ix)(hd:da.ix)(he:db.ix)(iC:8<=p)(iu:p<=512)(h0:o.n≠0)(hn:o.n<=16):il 328 [wh o v a b da db p,(.jK 1 λ_=>.fn 68 [])]<|iA<|kf (kf (jj (o.n:Int)) (rE a (o.n-1) p) p) da p:=by
 have q1:1<=p:= aC ;have q2:p<=4096:= aC ;have C5:=Sf (aC:o.n<4294967296);have hpw:=abr ha (o.n-1) q1 q2;exact iE<|af [ai 7 ((o.n:Int)==0)<|oj h0,ag [iP o.n]<|IX _,iL<|(o.n:Int)-1,.o 26<|aq ((o.n:Int)-1) ((o.n-1:Nat):Int),.c<|Ux a (o.n-1) p aD aC aC aC,.c<|vY (jj (o.n:Int)) (rE a (o.n-1) p) p C5 hpw,.c<|vY (kf (jj (o.n:Int)) (rE a (o.n-1) p) p) da p (pI _ _ q1 q2) aD]
def aqs(hv:v.ix)(ha:a.ix)(hb:b.ix)(hd:da.ix)(he:db.ix)(iC:8<=p)(iu:p<=512):il 329 [wh o v a b da db p,(.jK 1 λ_=>.fn 68 [])]<|iA<|kf v da p:=by
 have q1:1<=p:= aC ;have q2:p<=4096:= aC ;exact iE<|af [.c<|vY v da p aD aD]
def aqg(hv:v.ix)(ha:a.ix)(hb:b.ix)(hd:da.ix)(he:db.ix)(iC:8<=p)(iu:p<=512):il 330 [wh o v a b da db p,(.jK 1 λ_=>.fn 99 [])]<|iA<|lv da a p:=by
 have q1:1<=p:= aC ;have q2:p<=4096:= aC ;exact iE<|af [.c<|Jx da a p aD aD]
def aqh(hv:v.ix)(ha:a.ix)(hb:b.ix)(hd:da.ix)(he:db.ix)(iC:8<=p)(iu:p<=512)(hF:yH):il 331 [wh o v a b da db p,(.jK 1 λ_=>.fn 68 [])]<|iA<|kf (Bt a p) da p:=by
 have q1:1<=p:= aC ;have q2:p<=4096:= aC ;exact iE<|af [.c<|Wu a aD p aC aC hF,.c<|vY (Bt a p) da p (Wv _ _) aD]
def aqi(hv:v.ix)(ha:a.ix)(hb:b.ix)(hd:da.ix)(he:db.ix)(iC:8<=p)(iu:p<=512)(hF:yH):il 332 [wh o v a b da db p,(.jK 1 λ_=>.fn 68 [])]<|iA<|tu<|kf (Al a p) da p:=by
 have q1:1<=p:= aC ;have q2:p<=4096:= aC ;exact iE<|af [.c<|Ww a aD p aC aC hF,.c<|vY (Al a p) da p (Wx _ _) aD,.c<|MJ (kf (Al a p) da p)<|pI _ _ q1 q2]
def aqj(hv:v.ix)(ha:a.ix)(hb:b.ix)(hd:da.ix)(he:db.ix)(iC:8<=p)(iu:p<=512):il 333 [wh o v a b da db p,(.jK 1 λ_=>.fn 99 [])]<|iA<|lv da (nd v 1) p:=by
 have q1:1<=p:= aC ;have q2:p<=4096:= aC ;exact iE<|af [.c<|Ld v aD 1,.c<|Jx da (nd v 1) p aD<|Ky hv _]
end
end
def Fs(k:Nat):FuncId:=if k=1 then 322 else if k=3 then 323 else if k=4 then 324 else if k=7 then 325 else if k=5 then 326 else if k=6 then 327 else if k=8 then 328 else if k=9 then 329 else if k=10 then 330 else if k=11 then 331 else if k=12 then 332 else if k=13 then 333 else 0
def Fq(k:Nat):List E:=if k=1 then[]else if k=3 then[.jK 1 λ_=>.fn 73 []]else if k=4 then[.jK 1 λ_=>.fn 163 []]else if k=7 then[]else if k=5 then[.jK 1 λ_=>.fn 73 [],.jK 1 λ_=>.fn 68 []]else if k=6 then[.jK 1 λ_=>.fn 99 [],.jK 1 λ_=>.fn 163 [],.jK 1 λ_=>.fn 68 []]else if k=8 then[.jK 1 λ_=>.fn 68 []]else if k=9 then[.jK 1 λ_=>.fn 68 []]else if k=10 then[.jK 1 λ_=>.fn 99 []]else if k=11 then[.jK 1 λ_=>.fn 68 []]else if k=12 then[.jK 1 λ_=>.fn 68 []]else if k=13 then[.jK 1 λ_=>.fn 99 []]else[]
def ab8{k:Nat}(h:k=1\/3<=k)(h2:k<=13):AR Ft (k:Int)=some (.fn (Fs k)<|Fq k):=by
 have:k=1\/k=3\/k=4\/k=5\/k=6\/k=7\/k=8\/k=9\/k=10\/k=11\/k=12\/k=13:= aC ;rcases this with h|h|h|h|h|h|h|h|h|h|h|h<;>subst h<;>rfl
def aqt(k:Nat)(hk:k=1)(o:jv)(v:Iv)(p:Nat):il (Fs k) (Sd o v p::Fq k)<|iA<|jj 0:=by
 subst hk;exact aqk o v p
def aqu(o:jv)(v a b da db:Iv)(p:Nat)(hv:v.ix)(ha:a.ix)(hb:b.ix)(hd:da.ix)(he:db.ix)(iC:8<=p)(iu:p<=512)(hn:o.n<=16)(h1:3<=o.kind)(h2:o.kind<=13)(hF:o.kind<=8\/yH):il (Fs o.kind) (wh o v a b da db p::Fq o.kind)<|iA<|rM o v a b da db p:=by
 have:o.kind=3\/o.kind=4\/o.kind=5\/o.kind=6\/o.kind=7\/o.kind=8\/o.kind=9\/o.kind=10\/o.kind=11\/o.kind=12\/o.kind=13:= aC ;rcases this with h|h|h|h|h|h|h|h|h|h|h
 .rw [h];unfold rM;rw[bj aC,bk h];exact aql o v a b da db p hv ha hb hd he iC iu
 .rw [h];unfold rM;rw[bj aC,bj aC,bk h];exact aqm o v a b da db p hv ha hb hd he iC iu
 .rw [h];unfold rM;rw[bj aC,bj aC,bj aC,bk h];exact aqn o v a b da db p hv ha hb hd he iC iu
 .rw [h];unfold rM;rw[bj aC,bj aC,bj aC,bj aC,bk h];exact aqo o v a b da db p hv ha hb hd he iC iu
 .rw [h];unfold rM;rw[bj aC,bj aC,bj aC,bj aC,bj aC,bk h];exact aqp o v a b da db p hv ha hb hd he iC iu
 .rw [h];unfold rM;rw[bj aC,bj aC,bj aC,bj aC,bj aC,bj aC,bk h];by_cases h0:o.n=0
  .rw [bk h0];exact aqq o v a b da db p hv ha hb hd he iC iu h0
  .rw [bj h0];exact aqr o v a b da db p hv ha hb hd he iC iu h0 hn
 .rw [h];unfold rM;rw[bj aC,bj aC,bj aC,bj aC,bj aC,bj aC,bj aC,bk h];exact aqs o v a b da db p hv ha hb hd he iC iu
 .rw [h];unfold rM;rw[bj aC,bj aC,bj aC,bj aC,bj aC,bj aC,bj aC,bj aC,bk h];exact aqg o v a b da db p hv ha hb hd he iC iu
 .rw [h];unfold rM;rw[bj aC,bj aC,bj aC,bj aC,bj aC,bj aC,bj aC,bj aC,bj aC,bk h];exact aqh o v a b da db p hv ha hb hd he iC iu<|hF.resolve_left aC
 .rw [h];unfold rM;rw[bj aC,bj aC,bj aC,bj aC,bj aC,bj aC,bj aC,bj aC,bj aC,bj aC,bk h];exact aqi o v a b da db p hv ha hb hd he iC iu<|hF.resolve_left aC
 .rw [h];unfold rM;rw[bj aC,bj aC,bj aC,bj aC,bj aC,bj aC,bj aC,bj aC,bj aC,bj aC,bj aC,bk h];exact aqj o v a b da db p hv ha hb hd he iC iu
def aa9{o:jv}{m:Nat}(h:ns o m)(hm:1<=m):o.b<m:=by
 have:=h.b;split at this<;>omega
def adq{T n n' m i x:Nat}{y:Iv}(hn:n=(pK m i x).length)(sU:n'=(pK m i<|x+1).length)(hy:(if x=i then jj 1 else jj 0)=y):
 Bx.le (.row true T (n+[y].length) 7 λi_ j=>if i_<n then jC (pK m i x) i_ j else(E.ky<|iG [y]) (i_-n) j) (.row true T n' 7<|jC<|pK m i<|x+1):=by
 subst sU hy;exact RE hn
def Ly{T n n' i x p:Nat}{t:je}{l:List Iv}{y:Iv}(hn:n=(kB t l i p x).length)(sU:n'=(kB t l i p<|x+1).length)(hy:xK (t.iq.getD x iU) (l.getD (t.iI+x) iw) l (kB t l i p x) p=y):
 Bx.le (.row true T (n+[y].length) 7 λi_ j=>if i_<n then jC (kB t l i p x) i_ j else(E.ky<|iG [y]) (i_-n) j) (.row true T n' 7<|jC<|kB t l i p<|x+1):=by
 subst sU hy;exact RE hn
def agq(t:je)(l:List Iv)(i p:Nat)(h:wF t)(h1:1<=t.iI)(hl:l.length=t.iI+t.iq.length)(hv:mS l)(iC:8<=p)(iu:p<=512):il 227 [jT t,iG l,iP i,iP p]<|iG<|kB t l i p t.iq.length:=by
 have h8:=h.iI;have ss:=h.iq;exact iE (af [ag [] aqv,.y 10 10 true 41 7<|jC<|pK t.iI i 0,.s (Sp.jP (WT t l i p) 0 t.iI aC (λx hx mX=>by
    have C4:=Ty t.iI i x;exact iS (ae [tT 21 ((x:Int)<t.iI) aC,ag [iP 0]<|IX _]<|.w (x=i)
     (λwX=>by
      have sX:(if x=i then jj 1 else jj 0)=jj 1:=by rw[bk wX]
      have qB:=pJ<|jj 1;exact ae [ah 26 ((x:Int)==i)<|aZ aC,ag [iP 1]<|IX _,.o 30<|.e<|mn<|jj 1,.a (aC:((pK t.iI i x).length+[jj 1].length)*88<=140737488355328),iL<|(x:Int)+1]<|.e<|af [.b 10 (adq rfl rfl sX:Bx.le (.row true 41 ((pK t.iI i x).length+[jj 1].length) 7 λi_ j_=>if i_<(pK t.iI i x).length then(jC<|pK t.iI i x) i_ j_ else(E.ky<|iG [jj 1]) (i_-(pK t.iI i x).length) j_)<|.row true 41 ((pK t.iI i<|x+1).length) 7<|jC<|pK t.iI i<|x+1)])
     (λwX=>by
      have sX:(if x=i then jj 1 else jj 0)=jj 0:=by rw[bj wX]
      have qB:=pJ<|jj 0;exact ae [ai 26 ((x:Int)==i)<|aY aC,.o 30<|.e<|mn<|jj 0,.a (aC:((pK t.iI i x).length+[jj 0].length)*88<=140737488355328),
       iL ((x:Int)+1)]<|.e<|af [.b 10 (adq rfl rfl sX:Bx.le (.row true 41 ((pK t.iI i x).length+[jj 0].length) 7 λi_ j_=>if i_<(pK t.iI i x).length then(jC<|pK t.iI i x) i_ j_ else(E.ky<|iG [jj 0]) (i_-(pK t.iI i x).length) j_)<|.row true 41 ((pK t.iI i<|x+1).length) 7<|jC<|pK t.iI i<|x+1)])) aF)
  (λhx=>by
    exact iS (af [tF 21 ((t.iI:Int)<t.iI) aC]) aF) aI:jM 4 f227 (WT t l i p 0) (.exit 0) ⟨95,true,[(10,.own 10),(9,.e<|.mp Ft),(4,.box 4 0),(1,.e<|iG l),(3,.e<|iP p)],[(10,.row true 41 ((pK t.iI i t.iI).length) 7<|jC<|pK t.iI i t.iI),(4,.cells 29 [iP t.iI,lG t.iq,lL t.iz])]⟩)<|af [.b 10<|.refl<|.row true 41 ((pK t.iI i 0).length) 7<|jC<|pK t.iI i 0],.s (Sp.jP (WU t l i p) 0 t.iq.length aC (λx hx mX=>by
    have iK:=h.op x aC;have C4:=Ps t l i p x;have BA:=Lz t hv i (aC:1<=p) (aC:p<=4096) x;have XP:=iK.k3;by_cases oP:(t.iq.getD x iU).kind=1
    .by_cases Jp:(l.getD (t.iI+x) iw).all=true
     .have ze:=Jp;have sX:xK (t.iq.getD x iU) (l.getD (t.iI+x) iw) l (kB t l i p x) p=iw:=by unfold xK;rw[bk ze]
      have qB:=pJ iw;exact iS (ae [tT 37 ((x:Int)<t.iq.length) aC,iX (x:Int)<|t.iq.length,iL<|(t.iI:Int)+x,iX ((t.iI+x:Nat):Int)<|l.length,ai 53 (((t.iq.getD x iU).kind:Int) != 1)<|bg aC,.o 78 (.e Ba:aj (.agg [bP false,.v<|.slice none 0 0,iP 0,bP false,.v<|.slice none 0 0,iP 0,bP true])<|iA iw),ah 81 ((l.getD (t.iI+x) iw).all) ze,.o 91<|.e<|mn iw,.a (aC:((kB t l i p x).length+[iw].length)*88<=140737488355328),iL<|(x:Int)+1]<|.e<|af [.b 10 (Ly rfl rfl sX:Bx.le (.row true 41 ((kB t l i p x).length+[iw].length) 7 λi_ j_=>if i_<(kB t l i p x).length then(jC<|kB t l i p x) i_ j_ else(E.ky<|iG [iw]) (i_-(kB t l i p x).length) j_)<|.row true 41 ((kB t l i p<|x+1).length) 7<|jC<|kB t l i p<|x+1)]) aF 
     .have ze:(l.getD (t.iI+x) iw).all=false:=bc Jp;have sX:xK (t.iq.getD x iU) (l.getD (t.iI+x) iw) l (kB t l i p x) p=jj 0:=by unfold xK;rw[bj<|by rw[ze];decide];unfold rM;rw[bk oP]
      have qB:=pJ<|jj 0;exact iS (ae [tT 37 ((x:Int)<t.iq.length) aC,iX (x:Int)<|t.iq.length,iL<|(t.iI:Int)+x,iX ((t.iI+x:Nat):Int)<|l.length,ai 53 (((t.iq.getD x iU).kind:Int) != 1)<|bg aC,.o 78 (.e Ba:aj (.agg [bP false,.v<|.slice none 0 0,iP 0,bP false,.v<|.slice none 0 0,iP 0,bP true])<|iA iw),ai 81 ((l.getD (t.iI+x) iw).all) ze,.m (ab8 XP iK.BY:AR Ft ((t.iq.getD x iU).kind:Int)=some (.fn (Fs (t.iq.getD x iU).kind)<|Fq (t.iq.getD x iU).kind)),.c (aqt _ oP _ _ _:il (Fs (t.iq.getD x iU).kind) ((Sd (t.iq.getD x iU) (l.getD (t.iI+x) iw) p)::(Fq (t.iq.getD x iU).kind)) _),.o 91<|.e<|mn<|jj 0,.a (aC:((kB t l i p x).length+[jj 0].length)*88<=140737488355328),iL<|(x:Int)+1]<|.e<|af [.b 10 (Ly rfl rfl sX:Bx.le (.row true 41 ((kB t l i p x).length+[jj 0].length) 7 λi_ j_=>if i_<(kB t l i p x).length then(jC<|kB t l i p x) i_ j_ else(E.ky<|iG [jj 0]) (i_-(kB t l i p x).length) j_)<|.row true 41 ((kB t l i p<|x+1).length) 7<|jC<|kB t l i p<|x+1)]) aF 
    .by_cases Jp:(l.getD (t.iI+x) iw).all=true
     .have ze:=Jp;have h3:=iK.k3.resolve_left oP;have oa:=iK.ON oP;have ob:=aa9 iK aC;have sX:xK (t.iq.getD x iU) (l.getD (t.iI+x) iw) l (kB t l i p x) p=iw:=by unfold xK;rw[bk ze]
      have qB:=pJ iw;exact iS (ae [tT 37 ((x:Int)<t.iq.length) aC,iX (x:Int)<|t.iq.length,iL<|(t.iI:Int)+x,iX ((t.iI+x:Nat):Int)<|l.length,ah 53 (((t.iq.getD x iU).kind:Int) != 1)<|bh aC,iX ((t.iq.getD x iU).a:Int)<|l.length,iX ((t.iq.getD x iU).b:Int)<|l.length,
       iX ((t.iq.getD x iU).a:Int) ((kB t l i p x).length),.a (aC:(t.iq.getD x iU).a<(kB t l i p x).length),iX ((t.iq.getD x iU).b:Int)<|(kB t l i p x).length,.a (aC:(t.iq.getD x iU).b<(kB t l i p x).length),.o 78 (.e Ba:aj (.agg [bP false,.v<|.slice none 0 0,iP 0,bP false,.v<|.slice none 0 0,iP 0,bP true])<|iA iw),ah 81 ((l.getD (t.iI+x) iw).all) ze,.o 91<|.e<|mn iw,.a (aC:((kB t l i p x).length+[iw].length)*88<=140737488355328),iL<|(x:Int)+1]<|.e<|af [.b 10 (Ly rfl rfl sX:Bx.le (.row true 41 ((kB t l i p x).length+[iw].length) 7 λi_ j_=>if i_<(kB t l i p x).length then(jC<|kB t l i p x) i_ j_ else(E.ky<|iG [iw]) (i_-(kB t l i p x).length) j_)<|.row true 41 ((kB t l i p<|x+1).length) 7<|jC<|kB t l i p<|x+1)]) aF 
     .have ze:(l.getD (t.iI+x) iw).all=false:=bc Jp;have h3:=iK.k3.resolve_left oP;have oa:=iK.ON oP;have ob:=aa9 iK aC;have sX:xK (t.iq.getD x iU) (l.getD (t.iI+x) iw) l (kB t l i p x) p=rM (t.iq.getD x iU) (l.getD (t.iI+x) iw) (l.getD ((t.iq.getD x iU).a) iw) (l.getD ((t.iq.getD x iU).b) iw) ((kB t l i p x).getD ((t.iq.getD x iU).a) iw) ((kB t l i p x).getD ((t.iq.getD x iU).b) iw) p:=by unfold xK;rw[bj<|by rw[ze];decide]
      have qB:=pJ<|rM (t.iq.getD x iU) (l.getD (t.iI+x) iw) (l.getD ((t.iq.getD x iU).a) iw) (l.getD ((t.iq.getD x iU).b) iw) ((kB t l i p x).getD ((t.iq.getD x iU).a) iw) ((kB t l i p x).getD ((t.iq.getD x iU).b) iw) p;exact iS (ae [tT 37 ((x:Int)<t.iq.length) aC,iX (x:Int)<|t.iq.length,iL<|(t.iI:Int)+x,iX ((t.iI+x:Nat):Int)<|l.length,ah 53 (((t.iq.getD x iU).kind:Int) != 1)<|bh aC,iX ((t.iq.getD x iU).a:Int)<|l.length,iX ((t.iq.getD x iU).b:Int)<|l.length,
       iX ((t.iq.getD x iU).a:Int) ((kB t l i p x).length),.a (aC:(t.iq.getD x iU).a<(kB t l i p x).length),iX ((t.iq.getD x iU).b:Int)<|(kB t l i p x).length,.a (aC:(t.iq.getD x iU).b<(kB t l i p x).length),.o 78 (.e Ba:aj (.agg [bP false,.v<|.slice none 0 0,iP 0,bP false,.v<|.slice none 0 0,iP 0,bP true])<|iA iw),ai 81 ((l.getD (t.iI+x) iw).all) ze,.m (ab8 XP iK.BY:AR Ft ((t.iq.getD x iU).kind:Int)=some (.fn (Fs (t.iq.getD x iU).kind)<|Fq (t.iq.getD x iU).kind)),.c (aqu _ _ _ _ _ _ _ (hv _) (hv _) (hv _) (BA _) (BA _) iC iu (aba iK) h3 iK.BY iK.f:il (Fs (t.iq.getD x iU).kind) ((wh (t.iq.getD x iU) (l.getD (t.iI+x) iw) (l.getD (t.iq.getD x iU).a iw) (l.getD (t.iq.getD x iU).b iw) ((kB t l i p x).getD (t.iq.getD x iU).a iw) ((kB t l i p x).getD (t.iq.getD x iU).b iw) p)::(Fq (t.iq.getD x iU).kind)) _),.o 91<|.e<|mn<|rM (t.iq.getD x iU) (l.getD (t.iI+x) iw) (l.getD ((t.iq.getD x iU).a) iw) (l.getD ((t.iq.getD x iU).b) iw) ((kB t l i p x).getD ((t.iq.getD x iU).a) iw) ((kB t l i p x).getD ((t.iq.getD x iU).b) iw) p,.a (aC:((kB t l i p x).length+[rM (t.iq.getD x iU) (l.getD (t.iI+x) iw) (l.getD ((t.iq.getD x iU).a) iw) (l.getD ((t.iq.getD x iU).b) iw) ((kB t l i p x).getD ((t.iq.getD x iU).a) iw) ((kB t l i p x).getD ((t.iq.getD x iU).b) iw) p].length)*88<=140737488355328),
       iL ((x:Int)+1)]<|.e<|af [.b 10 (Ly rfl rfl sX:Bx.le (.row true 41 ((kB t l i p x).length+[rM (t.iq.getD x iU) (l.getD (t.iI+x) iw) (l.getD ((t.iq.getD x iU).a) iw) (l.getD ((t.iq.getD x iU).b) iw) ((kB t l i p x).getD ((t.iq.getD x iU).a) iw) ((kB t l i p x).getD ((t.iq.getD x iU).b) iw) p].length) 7 λi_ j_=>if i_<(kB t l i p x).length then(jC<|kB t l i p x) i_ j_ else(E.ky<|iG [rM (t.iq.getD x iU) (l.getD (t.iI+x) iw) (l.getD ((t.iq.getD x iU).a) iw) (l.getD ((t.iq.getD x iU).b) iw) ((kB t l i p x).getD ((t.iq.getD x iU).a) iw) ((kB t l i p x).getD ((t.iq.getD x iU).b) iw) p]) (i_-(kB t l i p x).length) j_)<|.row true 41 ((kB t l i p<|x+1).length) 7<|jC<|kB t l i p<|x+1)]) aF)
  (λhx=>by
    exact iS (ae [tF 37 ((t.iq.length:Int)<t.iq.length) aC,.z 10]<|.e<|af [.o 10 (.e<|xj aH:aj (.sl true ((kB t l i p t.iq.length).length) 7<|jC<|kB t l i p t.iq.length)<|iG<|kB t l i p t.iq.length)]) aF) aI:jM 12 f227 (WU t l i p 0) (.exit 2) ⟨95,true,[(10,.e<|iG<|kB t l i p t.iq.length)],[]⟩)<|af [.b 10<|.refl<|.row true 41 ((kB t l i p 0).length) 7<|jC<|kB t l i p 0]])
section
variable(t:je)(xs:List Iv)
noncomputable def W2(p m:Nat)(x:Nat):PS:=⟨91,true,[(43,.e<|iP x),(42,.e<|iP m),(11,.own 41),(10,.e<|iG<|jH t.iq xs p t.iq.length),(4,.box 4 0),(3,.e<|iP p)],[(41,.iM true 23 41 t.iz.length 7 (jJ<|lH t.iz.length (oD t xs p) x 0) (kK<|lH t.iz.length (oD t xs p) x 0) .none),(4,.cells 29 [iP t.iI,lG t.iq,lL t.iz])]⟩
noncomputable def W3(p m x:Nat)(k:Nat):PS:=⟨91,true,[(54,.e<|iP k),(53,.e<|iP t.iz.length),(52,.e<|lL t.iz),(13,.e<|iG<|kB t (jH t.iq xs p t.iq.length) x p t.iq.length),(43,.e<|iP x),(42,.e<|iP m),(11,.own 41),(10,.e<|iG<|jH t.iq xs p t.iq.length),(4,.box 4 0),(3,.e<|iP p)],[(41,.iM true 23 41 t.iz.length 7 (jJ<|lH t.iz.length (oD t xs p) x k) (kK<|lH t.iz.length (oD t xs p) x k) .none),(4,.cells 29 [iP t.iI,lG t.iq,lL t.iz])]⟩
noncomputable def W4(p m:Nat)(x:Nat):PS:=⟨91,true,[(16,.own 16),(77,.e<|iP x),(76,.e<|iP t.iz.length),(75,.e<|lL t.iz),(11,.own 41),(10,.e<|iG<|jH t.iq xs p t.iq.length)],[(16,.row true 41 x 7<|jC<|(List.range x).map λj_=>(jH t.iq xs p t.iq.length).getD (t.iz.getD j_ 0) iw),(41,.iM true 23 41 t.iz.length 7 (jJ<|lH t.iz.length (oD t xs p) m 0) (kK<|lH t.iz.length (oD t xs p) m 0) .none)]⟩
end
def aq2{n x k:Nat}{F:Nat->Nat->Iv}(h:k<n):jJ (lH n F x k) k=x:=by simp only[jJ,Hh h];simp
section
variable(t:je)(xs:List Iv)(p m:Nat)
def CQ(h:wF t)(h0:1<=xs.length)(hx:xs.length=t.iI)(hv:mS xs)(hm:m<=t.iI)(iC:8<=p:=by omega)(iu:p<=512:=by omega):il 158 [jT t,iG xs,iP m,iP p]<|.iH [iG<|kH t xs p,j9<|mD t xs p m]:=by
 have h8:=h.iI;have ss:=h.iq;have qq:=h.iz;have h1:1<=t.iI:= aC ;have Aw:(jH t.iq xs p t.iq.length).length=t.iI+t.iq.length:=by rw[Hs,hx]
 have Jq:=Ht t.iq hv (aC:1<=p) (aC:p<=4096) t.iq.length;exact iE (ae [.c<|WV t xs p h h0 hx hv aC aC,tF 26 ((m:Int)<0) aC,tF 32 ((t.iI:Int)<m) aC,.c<|ac4 t xs p h h0 hx hv aC aC,.a (aC:0<=((t.iz.length:Int):Int)/\((t.iz.length:Int):Int)<=((t.iz.length:Int):Int)),.a (aC:((24:Nat):Int)*(t.iz.length:Int)<=281474976710656/\((t.iz.length:Int):Int)<=9223372036854775807),.s (Sp.jP (W2 t xs p m) 0 m aC (λx hx mX=>by
    exact iS (ae [tT 44 ((x:Int)<m) aC,.c<|agq t (jH t.iq xs p t.iq.length) x p h h1 Aw Jq iC iu,.s (Sp.jP (W3 t xs p m x) 0 t.iz.length aC (λk hk tO=>by
    have X3:=h.out k aC;have hle:jJ (lH t.iz.length (oD t xs p) x k) k=x:=aq2 aC ;have By:=Ps t (jH t.iq xs p t.iq.length) x p t.iq.length;have qB:=pJ<|(kB t (jH t.iq xs p t.iq.length) x p t.iq.length).getD (t.iz.getD k 0) iw;exact iS (ae [tT 55 ((k:Int)<t.iz.length) aC,iX (k:Int)<|t.iz.length,iX (k:Int)<|t.iz.length,.a (aC:k<t.iz.length),
     iX (t.iz.getD k 0:Int) ((kB t (jH t.iq xs p t.iq.length) x p t.iq.length).length),.o 69<|.e<|mn<|(kB t (jH t.iq xs p t.iq.length) x p t.iq.length).getD (t.iz.getD k 0) iw,.a (aC:k<t.iz.length),.a (aC:((jJ<|lH t.iz.length (oD t xs p) x k) k+[(kB t (jH t.iq xs p t.iq.length) x p t.iq.length).getD (t.iz.getD k 0) iw].length)*88<=140737488355328),
     iX (k:Int) (t.iz.length),.a (rfl:k=k),.a (rfl:k=k),.a (aC:k<t.iz.length),iL<|(k:Int)+1]<|.e<|af [.b 41 (aq6 rfl rfl aC rfl:Bx.le (.iM true 23 41 t.iz.length 7 (λq=>if q=k then(jJ<|lH t.iz.length (oD t xs p) x k) q+[(kB t (jH t.iq xs p t.iq.length) x p t.iq.length).getD (t.iz.getD k 0) iw].length else(jJ<|lH t.iz.length (oD t xs p) x k) q) (λq i j=>if q=k then(if i<(jJ<|lH t.iz.length (oD t xs p) x k) q then(kK<|lH t.iz.length (oD t xs p) x k) q i j else(E.ky<|iG [(kB t (jH t.iq xs p t.iq.length) x p t.iq.length).getD (t.iz.getD k 0) iw]) (i-(jJ<|lH t.iz.length (oD t xs p) x k) q) j)else(kK<|lH t.iz.length (oD t xs p) x k) q i j) .none)<|.iM true 23 41 t.iz.length 7 (jJ<|lH t.iz.length (oD t xs p) x<|k+1) (kK<|lH t.iz.length (oD t xs p) x<|k+1) .none)]) aF)
  (λhk=>by
    exact iS (af [tF 55 ((t.iz.length:Int)<t.iz.length) aC]) aF) aI:jM 10 f158 (W3 t xs p m x 0) (.exit 2) ⟨91,true,[(43,.e<|iP x),(42,.e<|iP m),(11,.own 41),(10,.e<|iG<|jH t.iq xs p t.iq.length),(4,.box 4 0),(3,.e<|iP p)],[(41,.iM true 23 41 t.iz.length 7 (jJ<|lH t.iz.length (oD t xs p) x t.iz.length) (kK<|lH t.iz.length (oD t xs p) x t.iz.length) .none),(4,.cells 29 [iP t.iI,lG t.iq,lL t.iz])]⟩) .nil,
     iL ((x:Int)+1)]<|.e<|af [.b 41 (aq5 rfl:Bx.le (.iM true 23 41 t.iz.length 7 (jJ<|lH t.iz.length (oD t xs p) x t.iz.length) (kK<|lH t.iz.length (oD t xs p) x t.iz.length) .none)<|.iM true 23 41 t.iz.length 7 (jJ<|lH t.iz.length (oD t xs p) (x+1) 0) (kK<|lH t.iz.length (oD t xs p) (x+1) 0) .none)]) aF)
  (λhx=>by
    exact iS (af [tF 44 ((m:Int)<m) aC]) aF) aI:jM 6 f158 (W2 t xs p m 0) (.exit 0) ⟨91,true,[(11,.own 41),(10,.e<|iG<|jH t.iq xs p t.iq.length),(4,.box 4 0)],[(41,.iM true 23 41 t.iz.length 7 (jJ<|lH t.iz.length (oD t xs p) m 0) (kK<|lH t.iz.length (oD t xs p) m 0) .none),(4,.cells 29 [iP t.iI,lG t.iq,lL t.iz])]⟩)<|af [.b 41 (aq4 rfl:Bx.le (.iM true 23 41 t.iz.length 7 (λ_=>0) (λ_ _ _=>.any) .none)<|.iM true 23 41 t.iz.length 7 (jJ<|lH t.iz.length (oD t xs p) 0 0) (kK<|lH t.iz.length (oD t xs p) 0 0) .none)],.y 16 16 true 41 7<|jC<|(List.range 0).map λj_=>(jH t.iq xs p t.iq.length).getD (t.iz.getD j_ 0) iw,.s (Sp.jP (W4 t xs p m) 0 t.iz.length aC (λx hx mX=>by
    have X3:=h.out x aC;have C4:=Hs t.iq xs p t.iq.length;have qB:=pJ<|(jH t.iq xs p t.iq.length).getD (t.iz.getD x 0) iw;exact iS (ae [tT 78 ((x:Int)<t.iz.length) aC,iX (x:Int)<|t.iz.length,iX (t.iz.getD x 0:Int)<|(jH t.iq xs p t.iq.length).length,.o 86<|.e<|mn<|(jH t.iq xs p t.iq.length).getD (t.iz.getD x 0) iw,.a (aC:(x+[(jH t.iq xs p t.iq.length).getD (t.iz.getD x 0) iw].length)*88<=140737488355328),
     iL ((x:Int)+1)]<|.e<|af [.b 16 (zi rfl rfl rfl:Bx.le (.row true 41 (x+[(jH t.iq xs p t.iq.length).getD (t.iz.getD x 0) iw].length) 7 λi_ j_=>if i_<x then(jC<|(List.range x).map λj_=>(jH t.iq xs p t.iq.length).getD (t.iz.getD j_ 0) iw) i_ j_ else(E.ky<|iG [(jH t.iq xs p t.iq.length).getD (t.iz.getD x 0) iw]) (i_-x) j_)<|.row true 41 (x+1) 7<|jC<|(List.range<|x+1).map λj_=>(jH t.iq xs p t.iq.length).getD (t.iz.getD j_ 0) iw)]) aF)
  (λhx=>by
    exact iS (ae [tF 78 ((t.iz.length:Int)<t.iz.length) aC,.z 16]<|.e<|af [.o 16 (.e<|xj aH:aj (.sl true t.iz.length 7<|jC<|(List.range t.iz.length).map λj_=>(jH t.iq xs p t.iq.length).getD (t.iz.getD j_ 0) iw)<|iG<|(List.range t.iz.length).map λj_=>(jH t.iq xs p t.iq.length).getD (t.iz.getD j_ 0) iw)]) aF) aI:jM 17 f158 (W4 t xs p m 0) (.exit 4) ⟨91,true,[(16,.e<|iG<|(List.range t.iz.length).map λj_=>(jH t.iq xs p t.iq.length).getD (t.iz.getD j_ 0) iw),(11,.own 41)],[(41,.iM true 23 41 t.iz.length 7 (jJ<|lH t.iz.length (oD t xs p) m 0) (kK<|lH t.iz.length (oD t xs p) m 0) .none)]⟩) .nil]<|rR (.iH [iG<|kH t xs p,j9<|mD t xs p m]) (.iH<|.cons (.jq<|by rw[Wz])<|.cons (JQ (acJ _ _ _ _).symm) .nil:E.le (.iH [iG<|(List.range t.iz.length).map λj_=>(jH t.iq xs p t.iq.length).getD (t.iz.getD j_ 0) iw,(.sl true t.iz.length 1 λk_ _=>.sl true ((jJ<|lH t.iz.length (oD t xs p) m 0) k_) 7<|(kK<|lH t.iz.length (oD t xs p) m 0) k_)])<|.iH [iG<|kH t xs p,j9<|mD t xs p m]))
def yi:(mD t xs p m).length=t.iz.length:=acJ _ _ _ _
end
def JD{t:je}{xs:List Iv}{p m q:Nat}(h:q<t.iz.length):(mD t xs p m).getD q []=(List.range m).map (oD t xs p q):=by
 unfold mD;rw[Hh h,bj<|bC _]
def JE{t:je}{xs:List Iv}{p m:Nat}(hm:m<=1000)(q:Nat):((mD t xs p m).getD q []).length<=1000:=by
 by_cases h:q<t.iz.length
 .rw [JD h];simpa using hm
 .rw [bt,bW<|by rw[yi];omega];simp
section
variable(s:lY)(b:List Iv)(p:Nat)
section
variable(h:nK s)(hb:lN s.jg b)(iC:8<=p)(iu:p<=512)
def aiW(hn:ni (kH s.tape (b++s.params) p)=true):il 91 [kS s,iG b,iP s.jg,iP p]<|.iH [.v<|.slice none 0 0,.v<|.slice none 0 0,iP 11]:=by
 have s4:=h.s4;have p4:=h.p4;have XT:=hb.len;have qq:=h.tape.iz;have uB:=Sc hb.ok;have Ek:=yX s.tape (b++s.params) p;obtain⟨f1,f2,f3,f4⟩:=Li h hb;have wV:=yi s.tape (b++s.params) p s.jg;have qD:=h.iz;have X8:=h.iI;have tR:s.jg<=1000:= aC ;exact iE<|af [.c<|Hm s aD,ai 21 ((b.length:Int) != (s.jg:Int))<|s5 hb.len,.c<|CP b,ai 25 (ni b) uB,.c (AG true _ _ 156 [] (λ_=>false) (λi hi=>Qe _ (hb.ok i hi).1) aC λ_ _=>rfl:il 39 [iG b,.fn 156 []] _),.c<|L9 (p:Int),ah 32 (kA (p:Int))<|oo.2 ⟨aC,aC⟩,.o 40<|.e<|B6 b s.params,.c<|CH b s.params,ag [jT s.tape,iG<|b++s.params,iP s.jg,iP p]<|CQ _ _ _ _ f1 f2 f3 f4 aC,.c<|CP<|kH s.tape (b++s.params) p,ah 48 (ni<|kH s.tape (b++s.params) p) hn]
section
variable(hn:ni (kH s.tape (b++s.params) p)=false)
def aiX(mw:um (mD s.tape (b++s.params) p s.jg)=true):il 91 [kS s,iG b,iP s.jg,iP p]<|.iH [.v<|.slice none 0 0,.v<|.slice none 0 0,iP 11]:=by
 have s4:=h.s4;have p4:=h.p4;have XT:=hb.len;have qq:=h.tape.iz;have uB:=Sc hb.ok;have Ek:=yX s.tape (b++s.params) p;obtain⟨f1,f2,f3,f4⟩:=Li h hb;have wV:=yi s.tape (b++s.params) p s.jg;have qD:=h.iz;have X8:=h.iI;have tR:s.jg<=1000:= aC ;exact iE<|af [.c<|Hm s aD,ai 21 ((b.length:Int) != (s.jg:Int))<|s5 hb.len,.c<|CP b,ai 25 (ni b) uB,.c (AG true _ _ 156 [] (λ_=>false) (λi hi=>Qe _ (hb.ok i hi).1) aC λ_ _=>rfl:il 39 [iG b,.fn 156 []] _),.c<|L9 (p:Int),ah 32 (kA (p:Int))<|oo.2 ⟨aC,aC⟩,.o 40<|.e<|B6 b s.params,.c<|CH b s.params,ag [jT s.tape,iG<|b++s.params,iP s.jg,iP p]<|CQ _ _ _ _ f1 f2 f3 f4 aC,.c<|CP<|kH s.tape (b++s.params) p,ai 48 (ni<|kH s.tape (b++s.params) p) hn,.c (He true _ _ 155 [] (λi=>ni<|(mD s.tape (b++s.params) p s.jg).getD i []) λi hi=>CP _<|JE tR i:il 159 [j9<|mD s.tape (b++s.params) p s.jg,.fn 155 []] _),ah 51 (um<|mD s.tape (b++s.params) p s.jg) mw]
def aiY(mw:um (mD s.tape (b++s.params) p s.jg)=false):il 91 [kS s,iG b,iP s.jg,iP p]<|.iH [iG<|kH s.tape (b++s.params) p,j9<|mD s.tape (b++s.params) p s.jg,iP 0]:=by
 have s4:=h.s4;have p4:=h.p4;have XT:=hb.len;have qq:=h.tape.iz;have uB:=Sc hb.ok;have Ek:=yX s.tape (b++s.params) p;obtain⟨f1,f2,f3,f4⟩:=Li h hb;have wV:=yi s.tape (b++s.params) p s.jg;have qD:=h.iz;have X8:=h.iI;have tR:s.jg<=1000:= aC ;exact iE<|af [.c<|Hm s aD,ai 21 ((b.length:Int) != (s.jg:Int))<|s5 hb.len,.c<|CP b,ai 25 (ni b) uB,.c (AG true _ _ 156 [] (λ_=>false) (λi hi=>Qe _ (hb.ok i hi).1) aC λ_ _=>rfl:il 39 [iG b,.fn 156 []] _),.c<|L9 (p:Int),ah 32 (kA (p:Int))<|oo.2 ⟨aC,aC⟩,.o 40<|.e<|B6 b s.params,.c<|CH b s.params,ag [jT s.tape,iG<|b++s.params,iP s.jg,iP p]<|CQ _ _ _ _ f1 f2 f3 f4 aC,.c<|CP<|kH s.tape (b++s.params) p,ai 48 (ni<|kH s.tape (b++s.params) p) hn,.c (He true _ _ 155 [] (λi=>ni<|(mD s.tape (b++s.params) p s.jg).getD i []) λi hi=>CP _<|JE tR i:il 159 [j9<|mD s.tape (b++s.params) p s.jg,.fn 155 []] _),ai 51 (um<|mD s.tape (b++s.params) p s.jg) mw]
end
end
noncomputable def uG:Bool:=ni (kH s.tape (b++s.params) p)||um (mD s.tape (b++s.params) p s.jg)
noncomputable def ny:List<|List Iv:=(mD s.tape (b++s.params) p s.jg)
def ai0(iZ:il 91 [kS s,iG b,iP (s.jg:Int),iP (p:Int)]<|.iH [.v<|.slice none 0 0,.v<|.slice none 0 0,iP 11]):il 47 [kS s,iG b,iP p]<|.iH [.v<|.slice none 0 0,iP 11]:=
 iE (af [ag [kS s,iG b,iP s.jg,iP p] iZ])
section
variable(h:nK s)(hb:lN s.jg b)(iC:8<=p)(iu:p<=512)
def ai1(hn:ni (kH s.tape (b++s.params) p)=false)(mw:um (mD s.tape (b++s.params) p s.jg)=false):il 47 [kS s,iG b,iP p]<|.iH [j9<|mD s.tape (b++s.params) p s.jg,iP 0]:=
 iE (af [ag [kS s,iG b,iP s.jg,iP p]<|aiY _ _ _ h hb iC iu hn mw])
def WW(hn:uG s b p=true):il 47 [kS s,iG b,iP (p:Int)]<|.iH [.v<|.slice none 0 0,iP 11]:=by
 unfold uG at hn;refine ai0 s b p ?_;cases h1:ni (kH s.tape (b++s.params) p)with
 |true=>exact aiW s b p h hb iC iu h1
 |false=>
  rw[h1,fu]at hn;exact aiX s b p h hb iC iu h1 hn
def WX(hn:uG s b p=false):il 47 [kS s,iG b,iP (p:Int)]<|.iH [j9<|ny s b p,iP 0]:=by
 unfold uG at hn;rw[eo]at hn;exact ai1 s b p h hb iC iu hn.1 hn.2
end
end
section
variable(m:List<|List Iv)(g:FuncId)(cap:List E)(F:Nat->Nat->Iv)
def Wd(x:Nat):PS:=⟨44,true,[(15,.e<|iP x),(14,.e<|iP m.length),(13,.e<|j9 m),(5,.own 12),(1,.e<|.fn g cap)],[(12,.iM true 23 41 m.length 7 (jJ<|jl m.length (λq=>(m.getD q []).length) F x 0) (kK<|jl m.length (λq=>(m.getD q []).length) F x 0) .none)]⟩
def We(x:Nat)(k:Nat):PS:=⟨44,true,[(22,.e<|iP k),(21,.e<|iP ((m.getD x []).length:Int)),(20,.e<|iG<|m.getD x []),(6,.e<|iP x),(15,.e<|iP x),(14,.e<|iP m.length),(13,.e<|j9 m),(5,.own 12),(1,.e<|.fn g cap)],[(12,.iM true 23 41 m.length 7 (jJ<|jl m.length (λq=>(m.getD q []).length) F x k) (kK<|jl m.length (λq=>(m.getD q []).length) F x k) .none)]⟩
def amD(hl:m.length<=1000)(hr:∀ i,(m.getD i []).length<=1000)(hf:∀ i j,i<m.length->j<(m.getD i []).length->il g (iP (i:Int)::iP (j:Int)::iA ((m.getD i []).getD j iw)::cap) (iA<|F i j)):il 167 [j9 m,.fn g cap]<|j9<|rI m.length (λq=>(m.getD q []).length) F:=
 iE (ae [.a (aC:0<=((m.length:Int):Int)/\((m.length:Int):Int)<=((m.length:Int):Int)),.a (aC:((24:Nat):Int)*(m.length:Int)<=281474976710656/\((m.length:Int):Int)<=9223372036854775807),.s (Sp.jP (Wd m g cap F) 0 m.length aC (λx hx mX=>by
    have sY:=hr x;exact iS (ae [tT 16 ((x:Int)<m.length) aC,iX (x:Int)<|m.length,.s (Sp.jP (We m g cap F x) 0 ((m.getD x []).length) aC (λk hk tO=>by
    have sY:=hr x;have hle:jJ (jl m.length (λq=>(m.getD q []).length) F x k) x=k:=MT ;have h1:=pJ<|F x k;exact iS (ae [tT 23 ((k:Int)<((m.getD x []).length:Int)) aC,iX (k:Int)<|(m.getD x []).length,iX (x:Int)<|m.length,.a (aC:x<m.length),.c (hf x k aC aC:il g ((iP x)::(iP k)::(iA<|(m.getD x []).getD k iw)::cap) _),.o 38<|.e<|mn<|F x k,.a (aC:x<m.length),.a (aC:((jJ<|jl m.length (λq=>(m.getD q []).length) F x k) x+[F x k].length)*88<=140737488355328),iX (x:Int)<|m.length,.a (rfl:x=x),.a (rfl:x=x),.a (aC:x<m.length),
     iL ((k:Int)+1)]<|.e<|af [.b 12 (Ku rfl aC aC rfl:Bx.le (.iM true 23 41 m.length 7 (λq=>if q=x then(jJ<|jl m.length (λq=>(m.getD q []).length) F x k) q+[F x k].length else(jJ<|jl m.length (λq=>(m.getD q []).length) F x k) q) (λq i j=>if q=x then(if i<(jJ<|jl m.length (λq=>(m.getD q []).length) F x k) q then(kK<|jl m.length (λq=>(m.getD q []).length) F x k) q i j else(E.ky<|iG [F x k]) (i-(jJ<|jl m.length (λq=>(m.getD q []).length) F x k) q) j)else(kK<|jl m.length (λq=>(m.getD q []).length) F x k) q i j) .none)<|.iM true 23 41 m.length 7 (jJ<|jl m.length (λq=>(m.getD q []).length) F x<|k+1) (kK<|jl m.length (λq=>(m.getD q []).length) F x<|k+1) .none)]) aF)
  (λhk=>by
    exact iS (af [tF 23 (((m.getD x []).length:Int)<((m.getD x []).length:Int)) aC]) aF) aI:jM 6 f167 (We m g cap F x 0) (.exit 2) ⟨44,true,[(15,.e<|iP x),(14,.e<|iP m.length),(13,.e<|j9 m),(5,.own 12),(1,.e<|.fn g cap)],[(12,.iM true 23 41 m.length 7 (jJ<|jl m.length (λq=>(m.getD q []).length) F x<|(m.getD x []).length) (kK<|jl m.length (λq=>(m.getD q []).length) F x<|(m.getD x []).length) .none)]⟩) .nil,
     iL ((x:Int)+1)]<|.e<|af [.b 12 (NK rfl:Bx.le (.iM true 23 41 m.length 7 (jJ<|jl m.length (λq=>(m.getD q []).length) F x<|(m.getD x []).length) (kK<|jl m.length (λq=>(m.getD q []).length) F x<|(m.getD x []).length) .none)<|.iM true 23 41 m.length 7 (jJ<|jl m.length (λq=>(m.getD q []).length) F (x+1) 0) (kK<|jl m.length (λq=>(m.getD q []).length) F (x+1) 0) .none)]) aF)
  (λhx=>by
    exact iS (af [tF 16 ((m.length:Int)<m.length) aC]) aF) aI:jM 3 f167 (Wd m g cap F 0) (.exit 0) ⟨44,true,[(5,.own 12)],[(12,.iM true 23 41 m.length 7 (jJ<|jl m.length (λq=>(m.getD q []).length) F m.length 0) (kK<|jl m.length (λq=>(m.getD q []).length) F m.length 0) .none)]⟩)<|af [.b 12 (NJ rfl:Bx.le (.iM true 23 41 m.length 7 (λ_=>0) (λ_ _ _=>.any) .none)<|.iM true 23 41 m.length 7 (jJ<|jl m.length (λq=>(m.getD q []).length) F 0 0) (kK<|jl m.length (λq=>(m.getD q []).length) F 0 0) .none)]]<|rR (j9<|rI m.length (λq=>(m.getD q []).length) F) (by
      rw[<-Lm];exact JQ (Ln _ _ _ _ _).symm:E.le (.sl true m.length 1 λk_ _=>.sl true ((jJ<|jl m.length (λq=>(m.getD q []).length) F m.length 0) k_) 7<|(kK<|jl m.length (λq=>(m.getD q []).length) F m.length 0) k_)<|j9<|rI m.length (λq=>(m.getD q []).length) F))
end
def SK(m:List<|List Iv)(i:Nat):(xx m).getD i []=r7 (m.getD i []):=by
 unfold xx;rw[bt,bt,cC];cases m[i]? <;> rfl
def Fp.nJ.Ec{m:List<|List Iv}{n k:Nat}(h:nJ m n k):Hz<|xx m:=by
 intro r hr x hx;obtain⟨r',h1,rfl⟩:=cP.1 hr;obtain⟨x',h2,rfl⟩:=cP.1 hx;exact(h.ok _ h1 _ h2).Ec
def Fp.nJ.rok{m:List<|List Iv}{n k:Nat}(h:nJ m n k):H9<|xx m:=by
 have hl:(xx m).length=n:=by rw[<-h.iM];simp[xx]
 have Ey:∀ i,i<n->((xx m).getD i []).length=k:=λi hi=>by rw[SK,<-h.qV hi];simp[r7]
 have h1:=h.n1;refine⟨by have:=h.n1;omega,by have:=h.n8;omega,by rw[Ey 0 aC];exact h.k1,by rw[Ey 0 aC];exact h.k8,λi hi=>by rw[Ey 0 aC,Ey i aC],λi hi j hj=>?_⟩;have lg:i<n:= aC ;rw[Ey i lg]at hj;rw[SK,Qi];exact(h.A9 lg hj).xt
def E3(m:List<|List Iv)(n k:Nat)(h:nJ m n k):il 122 [j9 m]<|bP true:=by
 have:=amL (xx m) h.Ec (by have:=h.n8;simp[xx,h.iM];omega) (λi=>by rw[SK];have:=h.RO i;simp only[r7,cG];omega);rwa[RT.2 h.rok,amG]at this
def adC(z:Iv)(p N:Nat)(x:Nat):PS:=⟨39,true,[(8,.e<|iP ((2*x+3:Nat):Int)),(7,.box 7 0),(6,.box 6 0),(5,.box 5 0),(4,.box 4 0),(2,.box 2 0)],[(7,.cells 41<|jS<|yj z p x),(6,.cells 41<|jS<|pH z p x),(5,.cells 41<|jS<|qj z p),(4,.cells 41 au),(2,.cells 188 [iP p])]⟩
def asw(z:Iv)(p N:Nat)(hz:z.ix)(iC:8<=p)(iu:p<=512)(h2:N<=1000)(ji:∀ x,x<N->pY (pH z p x) p=false)(hN:pY (pH z p N) p=true):il 364 [.agg [iP p],iA z]<|iA<|GF z p N:=by
 have hsq:=NX hz (aC:1<=p) (aC:p<=4096);have t0:=AM hz iC iu N;have s0:=ET hz iC iu N;have r0:=FK t0;have a0:=pN s0 r0 (aC:1<=p) (aC:p<=4096);exact iE (ae [.c<|Uu z aD p aC aC,.s (Sp.jP (adC z p N) 0 N aC (λx hx mX=>by
    have t0:=AM hz iC iu x;have s0:=ET hz iC iu x;have q0:(kf (pH z p x) (qj z p) p).ix:=pI _ _;have n1:(jj ((2*x+3:Nat):Int)).ix:=E7 _;have d1:(lv (kf (pH z p x) (qj z p) p) (jj ((2*x+3:Nat):Int)) p).ix:=vJ _ _;exact iS (ae [.c<|On p (pH z p x) aD,ai 17 (pY (pH z p x) p)<|ji x aC,.c<|Om p (pH z p x) (qj z p) aD aD,.c<|zW ((2*x+3:Nat):Int),.c<|KR p (kf (pH z p x) (qj z p) p) (jj ((2*x+3:Nat):Int)) aD aD,.c<|DN p (yj z p x) (lv (kf (pH z p x) (qj z p) p) (jj ((2*x+3:Nat):Int)) p) aD aD,iL<|((2*x+3:Nat):Int)+2]<|.e<|af [.o 8<|aq (((2*x+3)+2:Nat):Int) ((2*(x+1)+3:Nat):Int) aO,.b 7<|.refl<|.cells 41<|jS<|yj z p<|x+1,.b 6<|.refl<|.cells 41<|jS<|pH z p<|x+1]) aF)
  (λhx=>by
    have t0:=AM hz iC iu N;have s0:=ET hz iC iu N;have q0:(kf (pH z p N) (qj z p) p).ix:=pI _ _;have n1:(jj ((2*N+3:Nat):Int)).ix:=E7 _;have d1:(lv (kf (pH z p N) (qj z p) p) (jj ((2*N+3:Nat):Int)) p).ix:=vJ _ _;exact iS (af [.c<|On p (pH z p N) aD,ah 17 (pY (pH z p N) p) hN]) aF) aI:jM 4 f364 (adC z p N 0) (.exit 0) ⟨39,true,[(7,.box 7 0),(6,.box 6 0),(4,.box 4 0),(2,.box 2 0)],[(7,.cells 41<|jS<|yj z p N),(6,.cells 41<|jS<|pH z p N),(4,.cells 41 au),(2,.cells 188 [iP p])]⟩)<|af [.o 8<|aq 3 ((2*0+3:Nat):Int) aO,.b 7<|.refl<|.cells 41<|jS<|yj z p 0,.b 6<|.refl<|.cells 41<|jS<|pH z p 0],.c<|adJ (pH z p N) aD,.c<|DN p (yj z p N) (sE<|pH z p N) aD aD,.c<|Ld (kO (yj z p N) (sE<|pH z p N) p) aD 1]<|rR (iA<|GF z p N) (.refl _:E.le (iA<|nd (kO (yj z p N) (sE<|pH z p N) p) 1)<|iA<|GF z p N))
def FF(f:Nat->Rat)(X:Iv):Prop:=∃ N0,∀ M,N0<=M->X.kq (f M)
def FF.mono{f:Nat->Rat}{X Y:Iv}(h:FF f X)(k:∀ r,X.kq r->Y.kq r):FF f Y:=h.imp λ_ h M hM=>k _<|h M hM
def adD{z:Iv}(hz:z.ix)(hb:z.all=true\/Sub z (qP (-1))){p:Nat}(iC:8<=p)(iu:p<=512):∃ Z,Z.ix/\(∀ r,z.kq r->jr r*2<=1->FF (λM=>AQ r M*2) Z)/\il 364 [.agg [iP p],iA z] (iA Z):=by
 obtain⟨N,h1,h2,h3⟩:=alZ hz hb iC iu;exact⟨GF z p N,alY hz iC iu N,λr hr ha=>⟨N,λM hM=>alX hz hr ha iC iu h1 M hM⟩,asw z p N hz iC iu h1 h2 h3⟩
def arO{p:Nat}(iC:8<=p)(iu:p<=512):(lv (jj 1) (jj 3) p).ix/\(lv (jj 1) (jj 3) p).kq (1/3)/\Sub (lv (jj 1) (jj 3) p) (qP (-1)):=by
 have v1:(jj 1).ix:=yy aE;have v3:(jj 3).ix:=yy aE;have h1:=Cb 1;have h3:=Cb 3;refine⟨vJ _ _,?_,?_⟩
 .have:=LD v1 v3 (p:=p) aC aC h1 h3;rwa[show((1:Int):Rat)/((3:Int):Rat)=1/3 from rfl]at this
 .have hs:nQ (jj 3)≠0:=Ta rfl (.inl<|by show 0<(jm 3).q;rw[Dz];decide);refine Ij (LC v1 v3 rfl hs (p:=p) aC aC) aC aE aE ?_;rintro r ⟨a,b,ha,hb,rfl⟩;obtain⟨a1,a2⟩:=ha.jX rfl;obtain⟨b1,b2⟩:=hb.jX rfl;change (jm 1).q<=a at a1;change a<=(jm 1).q at a2;change (jm 3).q<=b at b1;change b<=(jm 3).q at b2;rw[Dz]at a1 a2 b1 b2;have ea:a=1:=gh a2 a1;have eb:b=3:=gh b2 b1;subst ea eb;have:P2 (-1)=1/2:= aL ;rw[this];exact⟨aL,aL⟩
def asM(p:Nat)(Z:Iv)(hZ:Z.ix)(hL:il 364 [.agg [iP (((min (p+16) 512):Nat):Int)],iA<|lv (jj 1) (jj 3)<|min (p+16) 512]<|iA Z)(iC:8<=p)(iu:p<=512):il 365 [iP p]<|iA<|mG Z p:=by
 have v1:(jj 1).ix:=yy aE;have v3:(jj 3).ix:=yy aE;exact iE<|af [tF 5 ((p:Int)<8) aC,tF 8 (512<(p:Int)) aC,.c<|TH p 16 aC aC,.c<|zW 1,.c<|zW 3,.c<|KR (min (p+16) 512) (jj 1) (jj 3) aD aD,ag [.agg [iP ((min (p+16) 512:Nat):Int)],iA<|lv (jj 1) (jj 3)<|min (p+16) 512] hL,.c<|Ig Z aD p]
def asL{p:Nat}(iC:8<=p)(iu:p<=512):∃ Z,Z.ix/\FF (λM=>AQ (1/3) M*2) Z/\il 365 [iP (p:Int)] (iA Z):=by
 obtain⟨t1,t2,t3⟩:=arO (p:=min (p+16) 512) aC aC;obtain⟨Z,h1,h2,h3⟩:=adD t1 (.inr t3) (p:=min (p+16) 512) aC aC;refine⟨mG Z p,Hd h1,(h2 _ t2 aL).mono λr hr=>Kt h1 aC aC hr,asM p Z h1 h3 iC iu⟩
def Bd:Iv:=⟨iY,iY,false⟩
def adN:E.le (.agg au)<|iA Bd:=
 .agg (.cons (.refl _)<|.cons JZ<|.cons (.refl _)<|.cons (.refl _)<|.cons JZ<|.cons (.refl _)<|.cons (.refl _) .nil)
def asR(d:Dy)(p:Nat)(hd:d.ix)(h1:jN d ⟨false,1,0⟩=0)(iC:8<=p)(iu:p<=512):il 351 [iB d,iP p]<|iA Bd:=by
 have v1:=J7;exact iE<|ae [ag [iP 1] OZ,.c<|nE d (Dy.mk false 1 0) aD aD,ah 12 ((jN d<|Dy.mk false 1 0)==0)<|by rw[h1];rfl]<|rR (iA Bd) (adN:E.le (.agg au)<|iA Bd)
def asS(d:Dy)(p:Nat)(Z Y:Iv)(hd:d.ix)(h1:¬jN d ⟨false,1,0⟩=0)(Yc:-20000<=d.iJ)(uE:d.iJ<=20000)(hZ:Z.ix)(hY:Y.ix)(hL:il 364 [.agg [iP (((min (p+40) 512):Nat):Int)],iA<|lv (kO (nd (mG (jx d)<|min (p+40) 512)<|0-(Dy.iJ d)) (jj (-1))<|min (p+40) 512) (kO (nd (mG (jx d)<|min (p+40) 512)<|0-(Dy.iJ d)) (jj 1)<|min (p+40) 512)<|min (p+40) 512]<|iA Z)(hL2:il 365 [iP (((min (p+40) 512):Nat):Int)]<|iA Y)(iC:8<=p)(iu:p<=512):il 351 [iB d,iP p]<|iA<|mG (kO Z (kf (jj d.iJ) Y<|min (p+40) 512)<|min (p+40) 512) p:=by
 have v1:=J7;have vp:=tz hd;have vr:(mG (jx d)<|min (p+40) 512).ix:=Hd vp;have vs:(nd (mG (jx d)<|min (p+40) 512)<|0-(Dy.iJ d)).ix:=Ky vr _;have n1:(jj 1).ix:=yy aE;have n2:(jj (-1)).ix:=yy aE;have a1:(kO (nd (mG (jx d)<|min (p+40) 512)<|0-(Dy.iJ d)) (jj (-1))<|min (p+40) 512).ix:=pN vs n2 aC aC;have a2:(kO (nd (mG (jx d)<|min (p+40) 512)<|0-(Dy.iJ d)) (jj 1)<|min (p+40) 512).ix:=pN vs n1 aC aC;have a3:(lv (kO (nd (mG (jx d)<|min (p+40) 512)<|0-(Dy.iJ d)) (jj (-1))<|min (p+40) 512) (kO (nd (mG (jx d)<|min (p+40) 512)<|0-(Dy.iJ d)) (jj 1)<|min (p+40) 512)<|min (p+40) 512).ix:=vJ _ _;have nt:(jj d.iJ).ix:=yy aC;have m1:(kf (jj d.iJ) Y<|min (p+40) 512).ix:=pI _ _;have m2:(kO Z (kf (jj d.iJ) Y<|min (p+40) 512)<|min (p+40) 512).ix:=pN hZ m1 aC aC;exact iE<|af [ag [iP 1] OZ,.c<|nE d (Dy.mk false 1 0) aD aD,ai 12 ((jN d<|Dy.mk false 1 0)==0)<|by simpa using h1,.c<|TH p 40 aC aC,.c<|oY d aD,.c<|yh d aD,.c<|Ig (jx d) aD<|min (p+40) 512,iL<|0-(Dy.iJ d),.c<|Ld (mG (jx d)<|min (p+40) 512) aD<|0-(Dy.iJ d),.c<|zW (-1),.c<|DN (min (p+40) 512) (nd (mG (jx d)<|min (p+40) 512)<|0-(Dy.iJ d)) (jj (-1)) aD aD,.c<|zW 1,.c<|DN (min (p+40) 512) (nd (mG (jx d)<|min (p+40) 512)<|0-(Dy.iJ d)) (jj 1) aD aD,.c<|KR (min (p+40) 512) (kO (nd (mG (jx d)<|min (p+40) 512)<|0-(Dy.iJ d)) (jj (-1))<|min (p+40) 512) (kO (nd (mG (jx d)<|min (p+40) 512)<|0-(Dy.iJ d)) (jj 1)<|min (p+40) 512) aD aD,ag [.agg [iP ((min (p+40) 512:Nat):Int)],iA<|lv (kO (nd (mG (jx d)<|min (p+40) 512)<|0-(Dy.iJ d)) (jj (-1))<|min (p+40) 512) (kO (nd (mG (jx d)<|min (p+40) 512)<|0-(Dy.iJ d)) (jj 1)<|min (p+40) 512)<|min (p+40) 512] hL,.c<|zW<|Dy.iJ d,ag [iP ((min (p+40) 512:Nat):Int)] hL2,.c<|Om (min (p+40) 512) (jj<|Dy.iJ d) Y aD aD,.c<|DN (min (p+40) 512) Z (kf (jj<|Dy.iJ d) Y<|min (p+40) 512) aD aD,.c<|Ig (kO Z (kf (jj<|Dy.iJ d) Y<|min (p+40) 512)<|min (p+40) 512) aD p]
def adL{d:Dy}(hd:d.ix)(hq:0<d.q){p:Nat}(iC:8<=p)(iu:p<=512):∃ Z,Z.ix/\FF (LQ d) Z/\il 351 [iB d,iP (p:Int)] (iA Z):=by
 by_cases h1:jN d ⟨false,1,0⟩=0
 .refine ⟨Bd,.inr ⟨rfl,ph,ph,B2 _⟩,⟨0,λM _=>?_⟩,asR d p hd h1 iC iu⟩;have e:d=⟨false,1,0⟩:=by
   refine aoH hd.canon J7.canon<|gh ((r6 _ _).1 aC)<|(r6 _ _).1 ?_;rw[It];have:=It d ⟨false,1,0⟩;omega
  rw[e,adZ];exact .inr ⟨by show iY.q<=0;rw[zI];exact cQ,by show 0<=iY.q;rw[zI];exact cQ⟩
 .have hm:=G3 hq;obtain⟨t1,t2⟩:=ada hd hm;obtain⟨P,hP⟩:∃ P,P=min (p+40) 512:=⟨_,rfl⟩
  have p1:8<=P:= aC ;have p2:P<=512:= aC ;obtain⟨z1,z2,z3⟩:=amt hd hq p1 p2;obtain⟨Z,a1,a2,a3⟩:=adD z1 z3 p1 p2;obtain⟨Y,b1,b2,b3⟩:=asL p1 p2;have m1:(kf (jj d.iJ) Y P).ix:=pI _ _;have m2:=pN a1 m1 (p:=P) aC aC;refine⟨mG (kO Z (kf (jj d.iJ) Y P) P) p,Hd m2,?_,?_⟩
  .have hz:=TL hq;have ha:jr (Ct d)*2<=1:=by
    have:=Bk (x:=Ct d) (b:=1/3) aK aK 
    grind
   obtain⟨N1,c1⟩:=a2 _ z2 ha;obtain⟨N2,c2⟩:=b2;refine⟨max N1 N2,λM hM=>Kt m2 aC aC ?_⟩;exact DQ a1 m1 aC aC (c1 M aC)<|RZ (yy aC) b1 aC aC (Cb d.iJ)<|c2 M aC
  .subst hP;have e:GH d (min (p+40) 512)=lv (kO (nd (mG (jx d)<|min (p+40) 512)<|0-(Dy.iJ d)) (jj (-1))<|min (p+40) 512) (kO (nd (mG (jx d)<|min (p+40) 512)<|0-(Dy.iJ d)) (jj 1)<|min (p+40) 512) (min (p+40) 512):=by unfold GH wb;rw[(aC:-d.iJ=0-d.iJ)]
   rw[e]at a3;exact asS d p Z Y hd h1 aC aC a1 b1 a3 b3 iC iu
section
variable(x:Iv)(p:Nat)(hx:x.ix)(iC:8<=p)(iu:p<=512)
def asN(xa:x.all=true):il 318 [iA x,iP p]<|iA iw:=
 iE (af [.c<|FE x p aD,ai 7 (!x.all)<|by rw[xa];rfl,.c oC])
def asQ(xa:x.all=false)(h1:x.lo.jL<=0):il 318 [iA x,iP p]<|iA iw:=by
 obtain⟨w1,w2⟩:=hx.jX;exact iE<|af [.c<|FE x p aD,ah 7 (!x.all)<|by rw[xa];rfl,.c<|pP x.lo aD,tB 13<|bu h1,.c oC]
def asP(xa:x.all=false)(h1:¬x.lo.jL<=0)(Z1 Z2:Iv)(z1:Z1.ix)(z2:Z2.ix)(k1:il 351 [iB x.lo,iP (p:Int)]<|iA Z1)(k2:il 351 [iB x.hi,iP (p:Int)]<|iA Z2):il 318 [iA x,iP p]<|iA<|wL Z1 Z2:=by
 obtain⟨w1,w2⟩:=hx.jX;exact iE<|af [.c<|FE x p aD,ah 7 (!x.all)<|by rw[xa];rfl,.c<|pP x.lo aD,tB 13<|bn h1,ag [iB x.lo,iP p] k1,ag [iB x.hi,iP p] k2,.c<|adK Z1 Z2 aD aD]
end
def asO{x:Iv}(hx:x.ix){p:Nat}(iC:8<=p)(iu:p<=512):∃ Z,Z.ix/\il 318 [iA x,iP (p:Int)] (iA Z):=by
 cases xa:x.all with
 |true=>exact⟨iw,ln,asN x p hx iC iu xa⟩
 |false=>
  by_cases h1:x.lo.jL<=0
  .exact ⟨iw,ln,asQ x p hx iC iu xa h1⟩
  .obtain ⟨w1,w2⟩:=hx.jX;have q1:0<x.lo.q:=(xw _).1.1 aC;have q2:0<x.hi.q:=by have:=hx.q;grind
   obtain⟨Z1,z1,⟨N1,l1⟩,k1⟩:=adL w1 q1 iC iu;obtain⟨Z2,z2,⟨N2,l2⟩,k2⟩:=adL w2 q2 iC iu;refine⟨wL Z1 Z2,Wh z1 z2 λa b=>?_,asP x p hx iC iu xa h1 Z1 Z2 z1 z2 k1 k2⟩;have e1:=((l1 (max N1 N2) aC).jX a).1;have e2:=((l2 (max N1 N2) aC).jX b).2;have e3:=adY q1 hx.q<|max N1 N2;exact bZ e1<|bZ e3 e2
def xg(a s:Nat):Prop:=s*s<=a/\a<(s+1)*(s+1)
def abQ(a:Nat):∃ s,xg a s:=by
 induction a with
 |zero=>exact⟨0,aE,aE⟩
 |succ a ih=>
  obtain⟨s,h1,h2⟩:=ih;by_cases h:(s+1)*(s+1)<=a+1
  .refine ⟨s+1,h,?_⟩;have:(s+1+1)*(s+1+1)=(s+1)*(s+1)+2*(s+1)+1:=by
    simp only[bT,ch,bX,cE];omega
   omega
  .exact ⟨s,aC,aC⟩
def apR{a s t:Nat}(h:xg a s)(ht:t*t<=a):t<=s:=by
 apply ca;intro iN;have:=dU (aC:s+1<=t) (aC:s+1<=t);have:=h.2;omega
def qW(a x:Nat):Nat:=(x+a/x)/2
section
variable{a s x:Nat}(h:xg a s)(hx:0<x)
def ans:s<=qW a x:=by
 unfold qW;apply ca;intro iN;have h1:x+a/x<2*s:=by generalize a/x=q at *;omega
 have h2:a<(a/x+1)*x:=by
  have:=cW a x;have:=bR a hx;rw[bT,bX,bQ<|a/x];omega
 have hq:a/x+1<=2*s-x/\x<=2*s:=by
  generalize a/x=q at *
  omega
 have h3:(a/x+1)*x<=(2*s-x)*x:=bU x hq.1;have as9:=hq.2;have h4:(2*s-x)*x<=s*s:=by
  obtain⟨k,hk⟩:∃ k,2*s=x+k:=⟨2*s-x,by clear h1 h2 h3 iN hq;omega⟩
  rw[show 2*s-x=k by clear h1 h2 h3 iN hq;omega];clear h1 h2 h3 iN hq;rcases Nat.le_total x s with qF|qF
  .obtain ⟨e,rfl⟩:∃ e,s=x+e:=⟨s-x,aC⟩
   obtain rfl:k=x+2*e:= aC ;simp only[bT,ch,bQ x e,bI];have:0<=e*e:=ck _;have e1:e*(2*x)=2*(e*x):=eE e 2 x;omega
  .obtain ⟨e,rfl⟩:∃ e,x=s+e:=⟨x-s,aC⟩
   obtain⟨f,hf⟩:∃ f,s=k+f:=⟨s-k,aC⟩
   obtain rfl:f=e:= aC ;subst hf;simp only[bT,ch,bQ f k];have:0<=f*f:=ck _;omega
 have:=h.1;omega
def anr(hs:s<=x)(hy:x<=qW a x):x=s:=by
 have h1:x<=a/x:=by unfold qW at hy;omega
 have h2:x*x<=a:=(dF hx).1 h1;have:=apR h h2;omega
end
def kY(a x:Nat):Nat->Nat
 | 0=>x
 |k+1=>qW a<|kY a x k
def apS(a:Nat){s:Nat}(h:xg a s):s<=2^((iD a+1)/2):=by
 apply ca;intro iN;have h1:(2^((iD a+1)/2))*(2^((iD a+1)/2))<=s*s:=dU aC aC;rw[<-bE]at h1;have h2:=tp a;have h3:2^iD a<=2^((iD a+1)/2+(iD a+1)/2):=bY aE aC;have:=h.1;omega
def apQ{a x s:Nat}(h:xg a s)(ha:0<a)(hx:s<=x):∃ N,N<=x/\(∀ k,k<N->qW a (kY a x k)<kY a x k)/\kY a x N<=qW a (kY a x N)/\kY a x N=s/\∀ k,k<=N->s<=kY a x k/\kY a x k<=x:=by
 have hs:0<s:=by
  apply ca;intro h0;obtain rfl:s=0:= aC ;have:=h.2;omega
 have th:∀ k,s<=kY a x k:=λk=>by
  induction k with
  |zero=>exact hx
  |succ k ih=>exact ans h aC 
 have hex:∃ k,k<x+1/\decide (kY a x k<=qW a (kY a x k))=true:=by
  apply ca;intro hc;have hd:∀ k,k<x+1->qW a (kY a x k)<kY a x k:=λk hk=>by
   apply ca;intro q;exact hc ⟨k,hk,bu aC⟩
  have hb:∀ k,k<=x+1->kY a x k+k<=x:=by
   intro k hk
   induction k with
   |zero=>exact bw _
   |succ k ih=>
    have:=ih aC;have:=hd k aC;show qW a (kY a x k)+(k+1)<=x;omega
  have:=hb (x+1)<|bw _;omega
 obtain⟨N,n1,n2,n3⟩:=sx hex;have n2':=cL n2;have iN:∀ k,k<N->qW a (kY a x k)<kY a x k:=λk hk=>by
  have:=gl<|n3 k hk;omega
 have hle:∀ k,k<=N->kY a x k<=x:=by
  intro k hk
  induction k with
  |zero=>exact bw _
  |succ k ih=>
   have:=ih aC;have:=iN k aC;show qW a (kY a x k)<=x;omega
 have e:=anr h (by have:=th N;omega) (th N) n2';exact⟨N,aC,iN,n2',e,λk hk=>⟨th k,hle k hk⟩⟩
section
variable(m s:Nat)(e:Int)(p:Nat)(up:Bool)
def xA:Dy:=kD false s e (decide (s*s≠m)) p up
def Co:Int:=kn false s e (decide (s*s≠m)) p up
end
section
variable{m s:Nat}{e:Int}{p:Nat}
def aqV(h:xg m s)(hb:p<iD s)(hp:1<=p)(iu:p<=4096)(he:Co m s e p false=0):0<=(xA m s e p false).q/\(xA m s e p false).q<=(s:Rat)*P2 e:=by
 unfold xA Co at *
 by_cases hx:s*s=m
 .rw [bn aC]at he ⊢;have A:=Iy false s e hp iu;rw[tA]at A;simp only[bJ,bB]at A;exact⟨(A.2 0 (.inl<|Cu p)<|ct dv<|b9<|pk e).2,(A.1 he).2⟩
 .rw [bu aC]at he ⊢;obtain⟨h1,h2⟩:=FT e hb false false;rw[h1];rw[h2]at he;have A:=Iy false (2*s+1) (e-1) hp iu;rw[tA]at A;simp only[bJ,bB]at A;have h0:=(A.2 0 (.inl<|Cu p)<|ct dv<|b9<|pk<|e-1).2;obtain⟨g,hl⟩:=A.1 he;refine⟨h0,?_⟩;rcases Qf (e:=e) hb (g.pos h0)with k|k
  .exact k
  .exfalso;have ee:P2 e=P2 (e-1)*2:=by
    have:=sD (e-1) 1;rw[(aC:e-1+1=e),show P2 1=2 by decide +kernel]at this;exact this
   have y8:=pk<|e-1;have c1:((2*s+1:Nat):Rat)=2*(s:Rat)+1:=by rw[eH,dG];rfl
   have c2:((s+1:Nat):Rat)=(s:Rat)+1:=by rw[eH];rfl
   rw[c1]at hl;rw[c2,ee]at k
   grind
def aqU(h:xg m s)(hb:p<iD s)(hp:1<=p)(iu:p<=4096)(he:Co m s e p true=0):0<=(xA m s e p true).q/\(m:Rat)*(P2 e*P2 e)<=(xA m s e p true).q*(xA m s e p true).q:=by
 have y8:=pk e;have s0:(0:Rat)<=(s:Rat):=dv;have key:∀ D:Rat,(s:Rat)*P2 e<=D->(s*s≠m->((s+1:Nat):Rat)*P2 e<=D)->0<=D/\(m:Rat)*(P2 e*P2 e)<=D*D:=by
  intro D h1 h2;have d0:0<=D:=bZ (ct s0<|b9 y8) h1;refine⟨d0,?_⟩;have sq:∀ t:Nat,m<=t*t->(t:Rat)*P2 e<=D->(m:Rat)*(P2 e*P2 e)<=D*D:=by
   intro t ht hD;have t0:(0:Rat)<=(t:Rat):=dv;have c:(m:Rat)<=(t:Rat)*(t:Rat):=by
    have:=dW.2 ht;rwa[dG]at this
   have m1:=cN c<|ct (b9 y8)<|b9 y8;have m2:=cN hD<|ct t0<|b9 y8;have m3:=dc hD d0;generalize (t:Rat)=T at *
   generalize P2 e=P at *
   have e1:T*T*(P*P)=T*P*(T*P):= aK 
   grind
  by_cases hx:s*s=m
  .exact sq s aC h1
  .exact sq (s+1) (by have:=h.2;omega)<|h2 hx
 unfold xA Co at *
 by_cases hx:s*s=m
 .rw [bn aC]at he ⊢;have A:=Iz false s e hp iu;rw[tA]at A;simp only[bJ,bB]at A;exact key _ (A.1 he).2 λq=>absurd hx q
 .rw [bu aC]at he ⊢;obtain⟨h1,h2⟩:=FT e hb false true;rw[h1];rw[h2]at he;have A:=Iz false (2*s+1) (e-1) hp iu;rw[tA]at A;simp only[bJ,bB]at A;obtain⟨g,hl⟩:=A.1 he;have ee:P2 e=P2 (e-1)*2:=by
   have:=sD (e-1) 1;rw[(aC:e-1+1=e),show P2 1=2 by decide +kernel]at this;exact this
  have iC:=pk<|e-1;have c1:((2*s+1:Nat):Rat)=2*(s:Rat)+1:=by rw[eH,dG];rfl
  rw[c1]at hl;have h0:0<=(kD false (2*s+1) (e-1) false p true).q:=bZ (ct aK<|b9 iC) hl;have iN:(s:Rat)*P2 e<(kD false (2*s+1) (e-1) false p true).q:=by rw[ee];grind
  refine key _ (b9 iN) λ_=>?_
  rcases Qf (e:=e) hb (g.pos h0)with k|k
  .exact absurd iN<|dX.2 k
  .exact k
end
def aqW{a b:Rat}(ha:0<=a)(hb:0<=b)(h:a*a<=b*b):a<=b:=by
 apply dX.1;intro iN;have m1:=dc (b9 iN) hb;have m2:=eJ iN<|show 0<a by grind
 grind
def aqX{m s n t:Nat}{e f:Int}{p:Nat}(h:xg m s)(k:xg n t)(hb:p<iD s)(kb:p<iD t)(hp:1<=p)(iu:p<=4096)(hle:(m:Rat)*(P2 e*P2 e)<=(n:Rat)*(P2 f*P2 f)):
 (mF (xA m s e p false) (Co m s e p false) (xA n t f p true)<|Co n t f p true).ix:=by
 unfold mF;split
 .exact ln
 .rename_i he;obtain⟨a0,a1⟩:=aqV (e:=e) h hb hp iu aC;obtain⟨b0,b1⟩:=aqU (e:=f) k kb hp iu aC;refine .inr ⟨rfl,uq _ _ _ _ _ _ hp iu,uq _ _ _ _ _ _ hp iu,?_⟩;rw[r6];refine aqW a0 b0 ?_;have s0:(0:Rat)<=(s:Rat):=dv;have y8:=pk e;have m1:=dc a1 a0;have m2:=cN a1<|ct s0<|b9 y8;have c:(s:Rat)*(s:Rat)<=(m:Rat):=by
   have:=dW.2 h.1;rwa[dG]at this
  have m3:=cN c<|ct (b9 y8)<|b9 y8;generalize (xA m s e p false).q=A at *
  generalize (s:Rat)=S at *
  generalize P2 e=P at *
  have e1:S*S*(P*P)=S*P*(S*P):= aK 
  grind
def aaC(m N:Nat)(x:Nat):PS:=⟨43,true,[(5,.e<|iy<|im<|kY m (2^((iD m+1)/2)) x),(0,.e<|iy<|im m)],[]⟩
def aav(L M:List Nat)(hL:iW L)(hM:iW M)(h1:L.length<=3000)(h2:M.length<=3000):∃ S:List Nat,il 336 [iy L,iy M] (iy S)/\val S=val L+val M/\iW S/\S.length=max L.length M.length+1:=by
 obtain⟨n,hn⟩:∃ n,n=max L.length M.length+1:=⟨_,rfl⟩
 have iN:val L+val M<4294967296^n:=by
  have a:=pL hL;have b:=pL hM;have e:4294967296^n=4294967296^max L.length M.length*4294967296:=by rw[hn,bM]
  have c:=bY (show 0<4294967296 by decide)<|Nat.le_max_left L.length M.length;have d:=bY (show 0<4294967296 by decide)<|Nat.le_max_right L.length M.length;omega
 refine⟨qc (val L+val M) n,?_,by rw[KO,cF iN],IC _ _,by rw[CJ,hn]⟩;refine Kd hL hM call336 (λA c B d w h k _=>aaE A B c d L M w h k h1 h2) λB w e w' hB r=>?_
 obtain⟨S,v1,v2,v3,r⟩:=r;rw[PD v2 (by rw[v3,hn]) v1];exact rl B w e w' hB r
section
variable(L:List Nat)
def anh(n:Nat)(hL:iW L)(h1:L.length<=3000)(hn:n<=65536):∃ S:List Nat,il 236 [iy L,iP (n:Int)] (iy S)/\val S=val L*2^n/\iW S:=by
 obtain⟨m,hm⟩:∃ m,m=n/32+(iT L).length+1:=⟨_,rfl⟩
 have iN:val L*2^n<4294967296^m:=by
  have a:=pL hL.iT;rw[rk]at a;have e:4294967296^m=4294967296^(iT L).length*2^(32*(n/32+1)):=by
   rw[hm,(aC:n/32+(iT L).length+1=(iT L).length+(n/32+1)),bE,Nat.pow_mul]
  rw[e];exact Nat.mul_lt_mul_of_lt_of_le a (bY aE aC)<|bF aE
 refine⟨qc (val L*2^n) m,?_,by rw[KO,cF iN],IC _ _⟩;refine Nj hL call236 (λA c w h _=>aaG A c L n w h aC hn) λA c B w e w' h hB r=>?_
 obtain⟨S,v1,v2,v3,r⟩:=r;rw[PD v2 (by rw[v3,hm]) v1];exact rl B w e w' hB r
def Cm:List Nat:=r9 (1%32)<|(iT L).drop<|1/32
def aaA(hL:iW L)(h1:L.length<=3000):il 250 [iy L,iP 1]<|iy<|Cm L:=
 Nj (n:=((1:Nat):Int)) hL call250 (λA c w h _=>R7 A c L 1 w h aC aE) λA c B w e w' h hB r=>rl B w e w' hB r
end
def acv{L:List Nat}(hL:iW L):iT (Cm L)=im (val L/2):=by
 unfold Cm;rw[ug<|Dr _ _,Oj hL.iT,rk]
def aaM(m x:Nat):qW m x<=max x (m/x):=by
 unfold qW;generalize m/x=q;omega
def Zq(a b:Nat):(im<|max a b).length<=max (im a).length (im b).length:=by
 rcases Nat.le_total a b with h|h
 .rw [Nat.max_eq_right h];omega
 .rw [Nat.max_eq_left h];omega
def am8(m:Nat)(h:(im m).length<=256):il 233 [iy<|im m]<|.iH [iy<|im m,iP 0]:=by
 have:=aax (im m) (nA m) (by rw[DJ];exact h);rwa[DJ]at this
def anj(m N:Nat)(h1:(im m).length<=256)(h0:m≠0)(wU:∀ k,k<N->qW m (kY m (2^((iD m+1)/2)) k)<(kY m (2^((iD m+1)/2)) k))(qT:(kY m (2^((iD m+1)/2)) N)<=qW m (kY m (2^((iD m+1)/2)) N))(kP:∀ k,k<=N->0<(kY m (2^((iD m+1)/2)) k)/\(kY m (2^((iD m+1)/2)) k)<=(2^((iD m+1)/2))):il 386 [iy<|im m]<|.iH [iy<|im<|kY m (2^((iD m+1)/2)) N,iP 0]:=by
 have bm:=qa h0;have bl:=Ik h1;have z0:(im<|2^((iD m+1)/2)).length<=256:=qH (by rw[show(2^((iD m+1)/2))=1*2^((iD m+1)/2)by omega,s9 aE];show 1+_<=_;omega);have hlen:∀ k,k<=N->(im<|kY m (2^((iD m+1)/2)) k).length<=256:=λk hk=>bA (nG (kP k hk).2) z0
 obtain⟨S0,Ed,sv,oS0⟩:=anh (im 1) ((iD m+1)/2) (nA 1) aL aC;rw[lF,bX]at sv;have hS0:il 235 [iy S0]<|iy<|im<|2^((iD m+1)/2):=by
  have:=we S0 oS0;rwa[ug oS0,sv]at this
 have zN:=hlen N aC;exact iE (af [.c<|ana (im m) aD,.c<|uJ m,ai 15 ((iD m:Int)==0)<|oj aC,.o 16 (.e A0:aj (.sl false 1 1 λi_ j_=>[.v<|.int .u32 1].getD (i_*1+j_)<|.v<|.bool false)<|iy<|im 1),iL<|(iD m:Int)+1,.a (aC:0<(2:Int)),
  iL (((iD m)+1:Nat):Int),ag [iy<|im 1,iP ((((iD m)+1)/2:Nat):Int)] Ed,ag [iy S0] hS0,.s (Sp.jP (aaC m N) 0 N aC (λx hx mX=>by
    obtain⟨xl,xu⟩:=kP x aC;obtain⟨Tq,Sq,Ei,dT,dS,oT,oS,lT,lS⟩:=R3 (im m) (im<|kY m (2^((iD m+1)/2)) x) (nA m) (nA _) aC (by have:=hlen x aC;omega) (by rw[lF];omega);rw[lF,lF]at dT;have zx:=hlen x aC;have QA:il 235 [iy Tq]<|iy<|im<|m/(kY m (2^((iD m+1)/2)) x):=by
     have:=we Tq oT;rwa[ug oT,dT]at this
    have zt:(im<|m/(kY m (2^((iD m+1)/2)) x)).length<=257:=bA (nG<|cv _ _) aC;obtain⟨Uq,hU,uv,oU,lU⟩:=aav (im<|kY m (2^((iD m+1)/2)) x) (im<|m/(kY m (2^((iD m+1)/2)) x)) (nA _) (nA _) aC aC;rw[lF,lF]at uv;have hV:=aaA Uq oU aC;have F7:il 235 [iy<|Cm Uq]<|iy<|im<|qW m<|kY m (2^((iD m+1)/2)) x:=by
     have:=we (Cm Uq)<|Dr _ _;rwa[acv oU,uv]at this
    have zn:(im<|qW m<|kY m (2^((iD m+1)/2)) x).length<=257:=bA (nG<|aaM m<|kY m (2^((iD m+1)/2)) x) (by have:=Zq (kY m (2^((iD m+1)/2)) x)<|m/(kY m (2^((iD m+1)/2)) x);omega);exact iS (ae [ag [iy<|im m,iy<|im<|kY m (2^((iD m+1)/2)) x] Ei,ag [iy Tq] QA,ag [iy<|im<|kY m (2^((iD m+1)/2)) x,iy<|im<|m/(kY m (2^((iD m+1)/2)) x)] hU,ag [iy Uq,iP 1] hV,ag [iy<|Cm Uq] F7,.c<|AT (qW m<|kY m (2^((iD m+1)/2)) x)<|kY m (2^((iD m+1)/2)) x,tF 37 (0<=(lf (qW m<|kY m (2^((iD m+1)/2)) x)<|kY m (2^((iD m+1)/2)) x))<|by have:=wU x aC;have:=FR.2 this;omega]<|.e<|af [.o 5<|.refl<|.e<|iy<|im<|kY m (2^((iD m+1)/2))<|x+1]) aF)
  (λhx=>by
    obtain⟨xl,xu⟩:=kP N aC;obtain⟨Tq,Sq,Ei,dT,dS,oT,oS,lT,lS⟩:=R3 (im m) (im<|kY m (2^((iD m+1)/2)) N) (nA m) (nA _) aC (by have:=hlen N aC;omega) (by rw[lF];omega);rw[lF,lF]at dT;have zx:=hlen N aC;have QA:il 235 [iy Tq]<|iy<|im<|m/(kY m (2^((iD m+1)/2)) N):=by
     have:=we Tq oT;rwa[ug oT,dT]at this
    have zt:(im<|m/(kY m (2^((iD m+1)/2)) N)).length<=257:=bA (nG<|cv _ _) aC;obtain⟨Uq,hU,uv,oU,lU⟩:=aav (im<|kY m (2^((iD m+1)/2)) N) (im<|m/(kY m (2^((iD m+1)/2)) N)) (nA _) (nA _) aC aC;rw[lF,lF]at uv;have hV:=aaA Uq oU aC;have F7:il 235 [iy<|Cm Uq]<|iy<|im<|qW m<|kY m (2^((iD m+1)/2)) N:=by
     have:=we (Cm Uq)<|Dr _ _;rwa[acv oU,uv]at this
    have zn:(im<|qW m<|kY m (2^((iD m+1)/2)) N).length<=257:=bA (nG<|aaM m<|kY m (2^((iD m+1)/2)) N) (by have:=Zq (kY m (2^((iD m+1)/2)) N)<|m/(kY m (2^((iD m+1)/2)) N);omega);exact iS (af [ag [iy<|im m,iy<|im<|kY m (2^((iD m+1)/2)) N] Ei,ag [iy Tq] QA,ag [iy<|im<|kY m (2^((iD m+1)/2)) N,iy<|im<|m/(kY m (2^((iD m+1)/2)) N)] hU,ag [iy Uq,iP 1] hV,ag [iy<|Cm Uq] F7,.c<|AT (qW m<|kY m (2^((iD m+1)/2)) N)<|kY m (2^((iD m+1)/2)) N,tT 37 (0<=(lf (qW m<|kY m (2^((iD m+1)/2)) N)<|kY m (2^((iD m+1)/2)) N)) (by have:=qT;have:¬lf (qW m<|kY m (2^((iD m+1)/2)) N) (kY m (2^((iD m+1)/2)) N)<0:=λq=>absurd (FR.1 q) aC;omega),ag [iy<|im<|kY m (2^((iD m+1)/2)) N]<|am8 _ aC]) aF) aI:jM 7 f386 (aaC m N 0) .ret ⟨43,true,[(3,.e<|iP 0),(2,.e<|iy<|im<|kY m (2^((iD m+1)/2)) N)],[]⟩)<|af [.o 5<|.refl<|.e<|iy<|im<|kY m (2^((iD m+1)/2)) 0]])
def aaD(m s:Nat)(h1:(im m).length<=256)(h0:m≠0)(hr:xg m s):il 386 [iy<|im m]<|.iH [iy<|im s,iP 0]:=by
 obtain⟨N,_,a,b,c,d⟩:=apQ hr (eF h0)<|apS m hr;have hs:0<s:=by
  apply ca;intro h;obtain rfl:s=0:= aC ;have:=hr.2;omega
 have:=anj m N h1 h0 a b λk hk=>⟨by have:=(d k hk).1;omega,(d k hk).2⟩
 rwa[c]at this
noncomputable def mz(m:Nat):Nat:=Classical.choose<|abQ m
def Fj(m:Nat):xg m<|mz m:=dk<|abQ m
section
variable(d:Dy)(p:Nat)
def uN:Nat:=if Int.tmod (d.e-((2*p+4-iD d.m:Nat):Int)) 2=0 then 2*p+4-iD d.m else 2*p+4-iD d.m+1
noncomputable def xC(up:Bool):Dy:=xA (d.m*2^uN d p) (mz<|d.m*2^uN d p) ((d.e-(uN d p:Int))/2) p up
noncomputable def xB(up:Bool):Int:=Co (d.m*2^uN d p) (mz<|d.m*2^uN d p) ((d.e-(uN d p:Int))/2) p up
def NW:d.e-(uN d p:Int)=2*((d.e-(uN d p:Int))/2):=by
 have key:∀ x:Int,Int.tmod x 2=0↔x%2=0:=λx=>by rw[<-Int.dvd_iff_tmod_eq_zero,<-Int.dvd_iff_emod_eq_zero]
 have:(d.e-(uN d p:Int))%2=0:=by
  unfold uN;split
  .rename_i h;exact(key _).1 h
  .rename_i h;have h2:¬(d.e-((2*p+4-iD d.m:Nat):Int))%2=0:=λq=>h ((key _).2 q)
   clear h;omega
 omega
end
def acE(s:Nat):s<=s*s:=by
 by_cases h:s=0
 .subst h;exact ck _
 .exact gT s<|eF h
def acG{d:Dy}(hn:d.neg=false)(K:Nat){E:Int}(h:d.e-(K:Int)=2*E):((d.m*2^K:Nat):Rat)*(P2 E*P2 E)=d.q:=by
 rw[sO,hn,bj aE,<-sD,dG,<-Bg,fz,<-sD,show(K:Int)+(E+E)=d.e by omega]
def SX{m s p:Nat}(h:xg m s)(hm:2*p+4<=iD m):p<iD s:=by
 apply ca;intro hb;have h1:s<2^iD s:=tp s;have h2:2^iD s<=2^p:=bY aE aC;have h3:=dU (aC:s+1<=2^p) (aC:s+1<=2^p);rw[<-bE]at h3;have h4:=h.2;have h5:iD m<=p+p:=mU.2<|bV h4 h3;omega
def abR(m s:Nat):((lf (s*s) m) != 0)=decide (s*s≠m):=by
 unfold lf;generalize s*s=q;rcases Nat.lt_trichotomy q m with h|h|h
 .rw [bk h,bu aC];rfl
 .subst h;simp
 .rw [bj aC,bk h,bu aC];rfl
section
variable(d:Dy)(p:Nat)(up:Bool)(hd:d.ix)(hn:d.neg=false)(h0:d.m≠0)(iC:8<=p)(iu:p<=512)
def aoU(rS:Int.tmod (d.e-((2*p+4-(iD d.m):Nat):Int)) 2=0):il 370 [iB d,iP p,bP up]<|.iH [iB<|xC d p up,iP<|xB d p up]:=by
 have hl:=hd.im;have hx:=hd.exp;have hr:=hd.range.resolve_left h0;have bp:=qa h0;have hK:uN d p=(2*p+4-(iD d.m)):=by unfold uN;rw[bk rS]
 have he:=NW d p;rw[hK]at he;have hb:=s9 h0<|2*p+4-(iD d.m);have z1:(im<|d.m*2^(2*p+4-(iD d.m))).length<=256:=qH;have vd:(d.m*2^(2*p+4-(iD d.m)))≠0:=ej h0<|eP<|bF aE;have vk:=Fj<|d.m*2^(2*p+4-(iD d.m));have Ew:=SX vk (p:=p) aC;have z2:(im<|mz (d.m*2^(2*p+4-(iD d.m)))*mz (d.m*2^(2*p+4-(iD d.m)))).length<=256:=bA (nG vk.1) z1;have z3:(im<|mz<|d.m*2^(2*p+4-(iD d.m))).length<=256:=bA (nG<|bA (acE _) vk.1) z1;have h00:mz (d.m*2^(2*p+4-(iD d.m)))≠0\/mz (d.m*2^(2*p+4-(iD d.m)))=0/\(d.e-((2*p+4-(iD d.m):Nat):Int))/2=0/\((lf (mz (d.m*2^(2*p+4-(iD d.m)))*mz (d.m*2^(2*p+4-(iD d.m))))<|d.m*2^(2*p+4-(iD d.m))) != 0)=false:=.inl (λq=>by rw[q,uo]at Ew;omega);have rT:((lf (mz (d.m*2^(2*p+4-(iD d.m)))*mz (d.m*2^(2*p+4-(iD d.m))))<|d.m*2^(2*p+4-(iD d.m))) != 0)=true->p<iD (mz<|d.m*2^(2*p+4-(iD d.m))):=λ_=>Ew
 exact iE (ae [.o 17<|.e<|CK d,.c<|SM p d aD aC aC,ah 20 ((0:Int)==0) aE,ai 23 d.neg hn,ai 26 ((0:Int) != 0) aE,ai 31 (((im d.m).length:Int)==0)<|oj<|qt h0,iL<|2*(p:Int),iL<|((2*p:Nat):Int)+4,.c<|LJ d aD,
  iL ((((2*p)+4:Nat):Int)-(iD<|Dy.m d:Int)),.o 41<|aq (if((((2*p)+4:Nat):Int)-(iD<|Dy.m d:Int))>0 then((((2*p)+4:Nat):Int)-(iD<|Dy.m d:Int))else 0) ((2*p+4-(iD d.m):Nat):Int) aM,
  iL (d.e-((2*p+4-(iD d.m):Nat):Int)),.a (aC:0<(2:Int)),ai 47 ((Int.tmod (d.e-((2*p+4-(iD d.m):Nat):Int)) 2) != 0)<|by simpa using rS,.c<|yA d.m<|2*p+4-(iD d.m),ag [iy<|im<|d.m*2^(2*p+4-(iD d.m))]<|aaD _ _ aC aD<|Fj _,.c<|Ca (mz<|d.m*2^(2*p+4-(iD d.m))) (mz<|d.m*2^(2*p+4-(iD d.m))) aC aC aC,iL<|d.e-((2*p+4-(iD d.m):Nat):Int),.a (aC:0<(2:Int)),
  iL (d.e-((2*p+4-(iD d.m):Nat):Int)),.o 70<|aq (Int.tdiv (d.e-((2*p+4-(iD d.m):Nat):Int)) 2) ((d.e-((2*p+4-(iD d.m):Nat):Int))/2) (by generalize hy:(d.e-((2*p+4-(iD d.m):Nat):Int))/2=y at *;rw[he];exact auf _ aE),.c<|AT ((mz<|d.m*2^(2*p+4-(iD d.m)))*(mz<|d.m*2^(2*p+4-(iD d.m))))<|d.m*2^(2*p+4-(iD d.m)),.c<|G7 (mz<|d.m*2^(2*p+4-(iD d.m))) ((d.e-((2*p+4-(iD d.m):Nat):Int))/2) ((lf ((mz<|d.m*2^(2*p+4-(iD d.m)))*(mz<|d.m*2^(2*p+4-(iD d.m))))<|d.m*2^(2*p+4-(iD d.m))) != 0) up p aC aD aC aC aC aC aD]<|rQ (.iH [iB<|kD false (mz<|d.m*2^(2*p+4-(iD d.m))) ((d.e-((2*p+4-(iD d.m):Nat):Int))/2) ((lf ((mz<|d.m*2^(2*p+4-(iD d.m)))*(mz<|d.m*2^(2*p+4-(iD d.m))))<|d.m*2^(2*p+4-(iD d.m))) != 0) p up,iP<|kn false (mz<|d.m*2^(2*p+4-(iD d.m))) ((d.e-((2*p+4-(iD d.m):Nat):Int))/2) ((lf ((mz<|d.m*2^(2*p+4-(iD d.m)))*(mz<|d.m*2^(2*p+4-(iD d.m))))<|d.m*2^(2*p+4-(iD d.m))) != 0) p up]) (.iH [iB<|xC d p up,iP<|xB d p up])<|by unfold xC xB xA Co;rw[hK,abR])
def aoV(rS:¬Int.tmod (d.e-((2*p+4-(iD d.m):Nat):Int)) 2=0):il 370 [iB d,iP p,bP up]<|.iH [iB<|xC d p up,iP<|xB d p up]:=by
 have hl:=hd.im;have hx:=hd.exp;have hr:=hd.range.resolve_left h0;have bp:=qa h0;have hK:uN d p=((2*p+4-(iD d.m))+1):=by unfold uN;rw[bj rS]
 have he:=NW d p;rw[hK]at he;have hb:=s9 h0<|(2*p+4-(iD d.m))+1;have z1:(im<|d.m*2^((2*p+4-(iD d.m))+1)).length<=256:=qH;have vd:(d.m*2^((2*p+4-(iD d.m))+1))≠0:=ej h0<|eP<|bF aE;have vk:=Fj<|d.m*2^((2*p+4-(iD d.m))+1);have Ew:=SX vk (p:=p) aC;have z2:(im<|mz (d.m*2^((2*p+4-(iD d.m))+1))*mz (d.m*2^((2*p+4-(iD d.m))+1))).length<=256:=bA (nG vk.1) z1;have z3:(im<|mz<|d.m*2^((2*p+4-(iD d.m))+1)).length<=256:=bA (nG<|bA (acE _) vk.1) z1;have h00:mz (d.m*2^((2*p+4-(iD d.m))+1))≠0\/mz (d.m*2^((2*p+4-(iD d.m))+1))=0/\(d.e-(((2*p+4-(iD d.m))+1:Nat):Int))/2=0/\((lf (mz (d.m*2^((2*p+4-(iD d.m))+1))*mz (d.m*2^((2*p+4-(iD d.m))+1)))<|d.m*2^((2*p+4-(iD d.m))+1)) != 0)=false:=.inl (λq=>by rw[q,uo]at Ew;omega);have rT:((lf (mz (d.m*2^((2*p+4-(iD d.m))+1))*mz (d.m*2^((2*p+4-(iD d.m))+1)))<|d.m*2^((2*p+4-(iD d.m))+1)) != 0)=true->p<iD (mz<|d.m*2^((2*p+4-(iD d.m))+1)):=λ_=>Ew
 exact iE (ae [.o 17<|.e<|CK d,.c<|SM p d aD aC aC,ah 20 ((0:Int)==0) aE,ai 23 d.neg hn,ai 26 ((0:Int) != 0) aE,ai 31 (((im d.m).length:Int)==0)<|oj<|qt h0,iL<|2*(p:Int),iL<|((2*p:Nat):Int)+4,.c<|LJ d aD,
  iL ((((2*p)+4:Nat):Int)-(iD<|Dy.m d:Int)),.o 41<|aq (if((((2*p)+4:Nat):Int)-(iD<|Dy.m d:Int))>0 then((((2*p)+4:Nat):Int)-(iD<|Dy.m d:Int))else 0) ((2*p+4-(iD d.m):Nat):Int) aM,
  iL (d.e-((2*p+4-(iD d.m):Nat):Int)),.a (aC:0<(2:Int)),ah 47 ((Int.tmod (d.e-((2*p+4-(iD d.m):Nat):Int)) 2) != 0)<|by simpa using rS,
  iL (((2*p+4-(iD d.m):Nat):Int)+1),.c<|yA d.m<|(2*p+4-(iD d.m))+1,ag [iy<|im<|d.m*2^((2*p+4-(iD d.m))+1)]<|aaD _ _ aC aD<|Fj _,.c<|Ca (mz<|d.m*2^((2*p+4-(iD d.m))+1)) (mz<|d.m*2^((2*p+4-(iD d.m))+1)) aC aC aC,iL<|d.e-(((2*p+4-(iD d.m))+1:Nat):Int),.a (aC:0<(2:Int)),iL<|d.e-(((2*p+4-(iD d.m))+1:Nat):Int),.o 70<|aq (Int.tdiv (d.e-(((2*p+4-(iD d.m))+1:Nat):Int)) 2) ((d.e-(((2*p+4-(iD d.m))+1:Nat):Int))/2) (by generalize hy:(d.e-(((2*p+4-(iD d.m))+1:Nat):Int))/2=y at *;rw[he];exact auf _ aE),.c<|AT ((mz<|d.m*2^((2*p+4-(iD d.m))+1))*(mz<|d.m*2^((2*p+4-(iD d.m))+1)))<|d.m*2^((2*p+4-(iD d.m))+1),.c<|G7 (mz<|d.m*2^((2*p+4-(iD d.m))+1)) ((d.e-(((2*p+4-(iD d.m))+1:Nat):Int))/2) ((lf ((mz<|d.m*2^((2*p+4-(iD d.m))+1))*(mz<|d.m*2^((2*p+4-(iD d.m))+1)))<|d.m*2^((2*p+4-(iD d.m))+1)) != 0) up p aC aD aC aC aC aC aD]<|rQ (.iH [iB<|kD false (mz<|d.m*2^((2*p+4-(iD d.m))+1)) ((d.e-(((2*p+4-(iD d.m))+1:Nat):Int))/2) ((lf ((mz<|d.m*2^((2*p+4-(iD d.m))+1))*(mz<|d.m*2^((2*p+4-(iD d.m))+1)))<|d.m*2^((2*p+4-(iD d.m))+1)) != 0) p up,iP<|kn false (mz<|d.m*2^((2*p+4-(iD d.m))+1)) ((d.e-(((2*p+4-(iD d.m))+1:Nat):Int))/2) ((lf ((mz<|d.m*2^((2*p+4-(iD d.m))+1))*(mz<|d.m*2^((2*p+4-(iD d.m))+1)))<|d.m*2^((2*p+4-(iD d.m))+1)) != 0) p up]) (.iH [iB<|xC d p up,iP<|xB d p up])<|by unfold xC xB xA Co;rw[hK,abR])
def abB:il 370 [iB d,iP p,bP up]<|.iH [iB<|xC d p up,iP<|xB d p up]:=by
 by_cases h:Int.tmod (d.e-((2*p+4-(iD d.m):Nat):Int)) 2=0
 .exact aoU d p up hd hn h0 iC iu h
 .exact aoV d p up hd hn h0 iC iu h
end
section
variable(d:Dy)(p:Nat)(hd:d.ix)(hn:d.neg=false)(h0:d.m≠0)(iC:8<=p)(iu:p<=512)
def aoS:il 353 [iB d,iP p]<|.iH [iB<|xC d p false,iP<|xB d p false]:=
 iE (af [ag [iB d,iP p,bP false]<|abB _ _ _ aD aD aD aC aC])
def aoT:il 354 [iB d,iP p]<|.iH [iB<|xC d p true,iP<|xB d p true]:=
 iE (af [ag [iB d,iP p,bP true]<|abB _ _ _ aD aD aD aC aC])
end
section
variable(x:Iv)(p:Nat)(hx:x.ix)
def ak6(iC:8<=p)(iu:p<=512)(xa:x.all=true):il 321 [iA x,iP p]<|iA iw:=
 iE (af [.o 10<|.e<|mn x,.c<|qU x aD,ai 11 (!x.all)<|by rw[xa];rfl,.c oC])
section
variable(iC:8<=p)(iu:p<=512)(xa:x.all=false)
def ak8(h1:x.lo.jL<=0):il 321 [iA x,iP p]<|iA iw:=by
 obtain⟨w1,w2⟩:=hx.jX;exact iE<|af [.o 10<|.e<|mn x,.c<|qU x aD,ah 11 (!x.all)<|by rw[xa];rfl,.c<|xi (p:Int),ah 15 (kA (p:Int))<|oo.2 ⟨aC,aC⟩,.c<|pP x.lo aD,tB 22<|bu h1,.c oC]
def ak9(h1:¬x.lo.jL<=0)(n1:x.lo.neg=false)(n2:x.hi.neg=false)(m1:x.lo.m≠0)(m2:x.hi.m≠0):il 321 [iA x,iP p]<|iA<|mF (xC x.lo p false) (xB x.lo p false) (xC x.hi p true)<|xB x.hi p true:=by
 obtain⟨w1,w2⟩:=hx.jX;exact iE<|af [.o 10<|.e<|mn x,.c<|qU x aD,ah 11 (!x.all)<|by rw[xa];rfl,.c<|xi (p:Int),ah 15 (kA (p:Int))<|oo.2 ⟨aC,aC⟩,.c<|pP x.lo aD,tB 22<|bn h1,ag [iB x.lo,iP p]<|aoS _ _ aD aD aD aC aC,ag [iB x.hi,iP p]<|aoT _ _ aD aD aD aC aC,.c<|EN (xC x.lo p false) (xC x.hi p true) (xB x.lo p false)<|xB x.hi p true]
end
end
def abk{d:Dy}(h:0<d.q):d.neg=false/\d.m≠0:=by
 have hm:d.m≠0:=λq=>by rw[sO,q]at h;simp at h
 refine⟨?_,hm⟩;cases hn:d.neg
 .rfl
 .rw [sO,hn,bk rfl]at h;have:=ct (show(0:Rat)<=(d.m:Rat)from dv) (b9<|pk d.e)
  grind
def sqB{d:Dy}{p:Nat}(iC:8<=p)(h0:d.m≠0):p<iD (mz<|d.m*2^uN d p):=by
 refine SX (Fj _) ?_;rw[s9 h0];unfold uN;split<;>omega
def ak7{x:Iv}(hx:x.ix){p:Nat}(iC:8<=p)(iu:p<=512):∃ Z,Z.ix/\il 321 [iA x,iP (p:Int)] (iA Z):=by
 cases xa:x.all with
 |true=>exact⟨iw,ln,ak6 x p hx iC iu xa⟩
 |false=>
  by_cases h1:x.lo.jL<=0
  .exact ⟨iw,ln,ak8 x p hx iC iu xa h1⟩
  .have q1:0<x.lo.q:=(xw _).1.1 aC ;have q2:0<x.hi.q:=by have:=hx.q;grind
   obtain⟨n1,m1⟩:=abk q1;obtain⟨n2,m2⟩:=abk q2;refine⟨_,?_,ak9 x p hx iC iu xa h1 n1 n2 m1 m2⟩;refine aqX (Fj _) (Fj _) (sqB iC m1) (sqB iC m2) aC aC ?_;rw[acG n1 _<|NW _ _,acG n2 _<|NW _ _];exact hx.q
def kz(X b:Nat):Nat->Nat
 | 0=>2^b
 |k+1=>kz X b k*X/2^b/(k+1)
def WS{X b:Nat}(h:X<=2^(b+1))(t:Nat):t*X/2^b<=2*t:=by
 have hp:0<2^b:=bF aE;have h1:t*X<=t*(2^b*2):=cV t (by rw[<-bM];exact h);have h2:t*X/2^b<=t*(2^b*2)/2^b:=Nat.div_le_div_right h1;have h3:t*(2^b*2)/2^b=2*t:=by
  rw[show t*(2^b*2)=2^b*(2*t)by rw[eE,bQ t 2]];exact aug _ hp
 omega
def IW{X b:Nat}(h:X<=2^(b+1)):∀ k,kz X b k<=2^(b+1)
 | 0=>by show 2^b<=2^(b+1);rw[bM];omega
 | 1=>by
  show 2^b*X/2^b/1<=_;rw[fS,aug _<|bF aE];exact h
 |k+2=>by
  have ih:=IW h<|k+1;have h1:=WS h<|kz X b<|k+1;show kz X b (k+1)*X/2^b/(k+2)<=_;have h2:kz X b (k+1)*X/2^b/(k+2)<=kz X b (k+1)*X/2^b/2:=atp aC aE;omega
def aiT{X b:Nat}(h:X<=2^(b+1))(k:Nat)(hk:3<=k):kz X b (k+1)*2<=kz X b k:=by
 have h1:=WS h<|kz X b k;have h2:kz X b (k+1)<=kz X b k*X/2^b/4:=atp aC aE;omega
def WR{X b:Nat}(h:X<=2^(b+1)):∀ j,kz X b (3+j)*2^j<=2^(b+1)
 | 0=>by rw[cR,cE];exact IW h 3
 |j+1=>by
  have ih:=WR h j;have h1:=aiT h (3+j) aC;have h2:=bU (2^j) h1;rw[bM,show kz X b (3+(j+1))*(2^j*2)=kz X b (3+j+1)*2*2^j by rw[bI,bQ 2<|2^j];rfl];omega
def aiU{X b:Nat}(h:X<=2^(b+1)):∃ N,1<=N/\N<=b+5/\(∀ k,k<N->kz X b k≠0)/\kz X b N=0:=by
 have hz:kz X b (3+(b+2))=0:=by
  have h1:=WR h<|b+2;apply ca;intro jV;have h2:2^(b+2)<=kz X b (3+(b+2))*2^(b+2):=gT _<|eF jV;have h3:2^(b+2)=2^(b+1)*2:=bM (n:=2) (m:=b+1);have h4:0<2^(b+1):=bF aE;omega
 obtain⟨N,n1,n2,n3⟩:=sx (p:=λk=>decide (kz X b k=0)) (n:=b+6) ⟨3+(b+2),aC,bu hz⟩;have n2':=cL n2;refine⟨N,?_,aC,λk hk=>gl<|n3 k hk,n2'⟩;rcases N with _|N
 .have:0<2^b:=bF aE ;have e:2^b=0:=n2';omega
 .omega
def ajT{f:Nat->Nat}{B:Nat}(h0:f 0<2^B)(h:∀ k,f (k+1)*2<=f k):∃ N,N<=B/\(∀ k,k<N->f k≠0)/\f N=0:=by
 have hp:∀ k,f k*2^k<=f 0:=by
  intro k
  induction k with
  |zero=>rw[cR,cE];exact bw _
  |succ k ih=>
   have:=bU (2^k)<|h k;rw[bM,show f (k+1)*(2^k*2)=f (k+1)*2*2^k by rw[bI,bQ 2<|2^k]];omega
 have hz:f B=0:=by
  apply ca;intro jV;have h2:2^B<=f B*2^B:=gT _<|eF jV;have:=hp B;omega
 obtain⟨N,n1,n2,n3⟩:=sx (p:=λk=>decide (f k=0)) (n:=B+1) ⟨B,aC,bu hz⟩;exact⟨N,aC,λk hk=>gl<|n3 k hk,cL n2⟩
def jU(a b:Bool×Nat):Bool×Nat:=if a.1=b.1 then(a.1,a.2+b.2)else if a.2<b.2 then(b.1,b.2-a.2)else(a.1,a.2-b.2)
def qx(a:Bool×Nat):Int:=if a.1 then -(a.2:Int)else(a.2:Int)
def P5(a b:Bool×Nat):qx (jU a b)=qx a+qx b:=by
 obtain⟨s,m⟩:=a;obtain⟨t,n⟩:=b;unfold jU qx;cases s<;>cases t<;>simp<;>(try split)<;>(try simp)<;>omega
def Am(a b:Bool×Nat):(jU a b).2<=a.2+b.2:=by
 unfold jU;split
 .exact bw _
 .split
  .show b.2-a.2<=_;omega
  .show a.2-b.2<=_;omega
section
variable(a:Bool×Nat)
def CO(b:Nat):Dy:=canon a.1 a.2 (-(b:Int))
def WN(b:Nat):(CO a b).q=(qx a:Rat)*P2 (-(b:Int)):=by
 unfold CO qx;rw[tA];cases a.1
 .simp only[bJ,bB];rw[eG]
 .simp only[bH];rw[atj,eG];grind
def L8:Bool×Nat:=jU a (true,16777216)
def L7:Bool×Nat:=jU a (false,16777216)
def uK(b p:Nat):Iv:=mF (jd (CO (L8 a) b) p false) (jI (CO (L8 a) b) p false) (jd (CO (L7 a) b) p true)<|jI (CO (L7 a) b) p true
def anp(b:Nat){p:Nat}(hp:1<=p)(iu:p<=4096):(uK a b p).ix:=by
 unfold uK mF;split
 .exact ln
 .rename_i he;have c1:(CO (L8 a) b).nT:=uV _ _ _;have c2:(CO (L7 a) b).nT:=uV _ _ _;have A:=zP c1 hp iu;have B:=zQ c2 hp iu;refine .inr ⟨rfl,rF _ hp iu _,rF _ hp iu _,?_⟩;rw[r6];refine bZ (A.1 aC).2<|bZ ?_ (B.1 aC).2;rw[WN,WN,yr,gQ];unfold L8 L7;rw[P5,P5];simp[qx]
end
section
variable(m n:Nat)(h1:(im m).length<=256)
def CD(h2:n<=65536)(h3:(im<|m*2^n).length<=256):il 378 [iy<|im m,iP n]<|iy<|im<|m*2^n:=
 iE (af [.c<|R5 m n aD aC aD])
def yO(h2:n<=65536:=by omega):il 379 [iy<|im m,iP n]<|iy<|im<|m/2^n:=
 iE (af [.c<|R6 m n aD aC])
end
section
variable(m:Nat)(z:Int)(h1:(im m).length<=256)(h2:0<=z)(h3:z<=65536)
def Pd(h4:(im<|m*2^z.toNat).length<=256):il 378 [iy<|im m,iP z]<|iy<|im<|m*2^z.toNat:=by
 have:=CD m z.toNat h1 aC h4;rwa[show(z.toNat:Int)=z by omega]at this
def afY:il 379 [iy<|im m,iP z]<|iy<|im<|m/2^z.toNat:=by
 have:=yO m z.toNat h1;rwa[show(z.toNat:Int)=z by omega]at this
end
def mo{m k:Nat}(h:m<2^k)(hk:k<=8192):(im m).length<=256:=qH<|bA (mU.2 h) hk
def vu{n:Nat}(h:n<4294967296):(im n).length<=256:=mo (k:=32) h aE 
def akG(n:Nat):(jm n).neg=false/\0<=(jm n).e/\(jm n).m*2^(jm n).e.toNat=n/\(jm n).m<=n:=by
 by_cases h:n=0
 .subst h;decide
 .have e1:(jm (n:Int))=canon false n 0:=BV n;have e2:canon false n 0=⟨false,n/2^jZ n,(jZ n:Int)⟩:=by unfold canon;rw[bj h];simp
  rw[e1,e2];refine⟨rfl,Int.natCast_nonneg _,?_,cv _ _⟩;show n/2^jZ n*2^(jZ n:Int).toNat=n;rw[gz];exact IE h
def Pf(n:Nat)(h:n<4294967296):il 380 [iP n]<|.agg [bP false,iy<|im n]:=by
 obtain⟨p1,p2,p3,p4⟩:=akG n;have hv:=EL n h;have he:=hv.exp;have z1:=hv.im;have z2:(im<|(jm n).m*2^(Int.toNat (jm n).e)).length<=256:=by rw[p3];exact vu h
 exact iE<|ae [.c<|O3 n aC,ag [iy<|im<|(jm (n:Int)).m,iP<|(jm (n:Int)).e]<|Pd _ _ aD aC aC aD]<|rQ (.agg [bP<|(jm (n:Int)).neg,iy<|im<|((jm (n:Int)).m)*2^(Int.toNat<|(jm (n:Int)).e)]) (.agg [bP false,iy<|im n])<|by rw[p1,p3]
def afh(m:Nat):((iD m:Int)==0)=decide (m=0):=by
 by_cases h:m=0
 .subst h;rw[uo];rfl
 .have:=qa h;rw[bn h];exact oj aC 
section
variable(a:Bool×Nat)
def F2(ha:(im a.2).length<=256):il 385 [.agg [bP a.1,iy<|im a.2]]<|bP<|decide (a.2=0):=
 iE (ae [.c<|uJ a.2]<|rQ (bP<|(iD a.2:Int)==0) (bP<|decide (a.2=0))<|by rw[afh])
def yW:il 375 [.agg [bP a.1,iy<|im a.2]]<|.agg [bP<|!a.1,iy<|im a.2]:=
 iE (.nil)
section
variable(ha:(im a.2).length<=256)
section
variable(b:Bool×Nat)(hb:(im b.2).length<=256)
def aiB(h:a.1=b.1)(hs:(im<|a.2+b.2).length<=256):il 384 [.agg [bP a.1,iy<|im a.2],.agg [bP b.1,iy<|im b.2]]<|.agg [bP a.1,iy<|im<|a.2+b.2]:=
 iE (af [ah 13 (a.1==b.1)<|by rw[h];simp,.c<|JX a.2 b.2 aD aD aD])
def aiz(h:¬a.1=b.1)(h2:a.2<b.2):il 384 [.agg [bP a.1,iy<|im a.2],.agg [bP b.1,iy<|im b.2]]<|.agg [bP b.1,iy<|im<|b.2-a.2]:=
 iE (af [ai 13 (a.1==b.1)<|by simpa using h,.c<|AT a.2 b.2,tT 31 ((lf a.2 b.2)<0)<|FR.2 h2,.c<|E6 b.2 a.2 aD aD])
def aiA(h:¬a.1=b.1)(h2:¬a.2<b.2):il 384 [.agg [bP a.1,iy<|im a.2],.agg [bP b.1,iy<|im b.2]]<|.agg [bP a.1,iy<|im<|a.2-b.2]:=
 iE (af [ai 13 (a.1==b.1)<|by simpa using h,.c<|AT a.2 b.2,tF 31 ((lf a.2 b.2)<0) λq=>h2<|FR.1 q,.c<|E6 a.2 b.2 aD aD])
def uZ(hs:(im<|a.2+b.2).length<=256):il 384 [.agg [bP a.1,iy<|im a.2],.agg [bP b.1,iy<|im b.2]]<|.agg [bP<|(jU a b).1,iy<|im<|(jU a b).2]:=by
 unfold jU;split
 .rename_i h;exact aiB a ha b hb h hs
 .rename_i h;split
  .rename_i h2;exact aiz a ha b hb h h2
  .rename_i h2;exact aiA a ha b hb h h2
end
def P4(c:Bool×Nat)(hc:(im c.2).length<=256)(b:Nat)(hb:b<=65536)(hm:(im<|a.2*c.2).length<=256):il 381 [.agg [bP a.1,iy<|im a.2],.agg [bP c.1,iy<|im c.2],iP b]<|.agg [bP<|a.1 != c.1,iy<|im<|a.2*c.2/2^b]:=
 iE (af [.c<|Ca a.2 c.2 aD aD aD,ag [iy<|im<|a.2*c.2,iP b]<|yO _ _ aD])
def IS(n:Nat)(h0:n≠0:=by omega)(hn:n<4294967296:=by omega):il 387 [.agg [bP a.1,iy<|im a.2],iP n]<|.agg [bP a.1,iy<|im<|a.2/n]:=by
 have zn:(im n).length<=256:=vu hn;exact iE<|af [ag [iP n]<|Pf _ aC,.c<|B9 a.2 n aC aC aD]
end
end
def sL(d:Dy)(b:Nat):Bool×Nat:=(d.neg,if d.e+(b:Int)<0 then d.m/2^(0-(d.e+(b:Int))).toNat else d.m*2^(d.e+(b:Int)).toNat)
section
variable(d:Dy)(hd:d.ix)(b:Nat)(hb:b<=30000)
def afH(h:d.e+(b:Int)<0):il 383 [iB d,iP b]<|.agg [bP<|(sL d b).1,iy<|im<|(sL d b).2]:=by
 have hx:=hd.exp;have z1:=hd.im;exact iE<|ae [iL<|d.e+(b:Int),tB 11<|bu h,iL<|0-(d.e+(b:Int)),ag [iy<|im d.m,iP<|0-(d.e+(b:Int))]<|afY _ _ aD aC aC]<|rQ (.agg [bP d.neg,iy<|im<|d.m/2^(Int.toNat<|0-(d.e+(b:Int)))]) (.agg [bP<|(sL d b).1,iy<|im<|(sL d b).2])<|by unfold sL;rw[bk h]
def afG(h:¬d.e+(b:Int)<0)(hs:(im<|d.m*2^(Int.toNat<|d.e+(b:Int))).length<=256):il 383 [iB d,iP b]<|.agg [bP<|(sL d b).1,iy<|im<|(sL d b).2]:=by
 have hx:=hd.exp;have z1:=hd.im;exact iE<|ae [iL<|d.e+(b:Int),tB 11<|bn h,iL<|d.e+(b:Int),ag [iy<|im d.m,iP<|d.e+(b:Int)]<|Pd _ _ aD aC aC aD]<|rQ (.agg [bP d.neg,iy<|im<|d.m*2^(Int.toNat<|d.e+(b:Int))]) (.agg [bP<|(sL d b).1,iy<|im<|(sL d b).2])<|by unfold sL;rw[bj h]
end
def Nb{d:Dy}{b K:Nat}(h:d.iJ+(b:Int)<=K):(sL d b).2<2^K:=by
 by_cases h0:d.m=0
 .have:(sL d b).2=0:=by unfold sL;simp only[h0];split<;>simp
  rw[this];exact bF aE 
 .rw [KL h0]at h;have hm:=tp d.m;unfold sL;simp only;split
  .rename_i hc;obtain⟨k,hk⟩:∃ k,k=(0-(d.e+(b:Int))).toNat:=⟨_,rfl⟩
   rw[<-hk];by_cases hb:iD d.m<=k
   .rw [dB<|bV hm<|bY aE hb];exact bF aE 
   .refine (cT<|bF aE).2<|bV hm ?_;rw[<-bE];exact bY aE aC 
  .rename_i hc;obtain⟨k,hk⟩:∃ k,k=(d.e+(b:Int)).toNat:=⟨_,rfl⟩
   rw[<-hk];have:=dI hm (bF (n:=k)<|show 0<2 by decide);rw[<-bE]at this;exact bV this<|bY aE aC
def Pe(d:Dy)(hd:d.ix)(b K:Nat)(hb:b<=30000)(hK:K<=8192)(h:d.iJ+(b:Int)<=K):il 383 [iB d,iP (b:Int)]<|.agg [bP<|(sL d b).1,iy<|im<|(sL d b).2]:=by
 by_cases hc:d.e+(b:Int)<0
 .exact afH d hd b hb hc
 .refine afG d hd b hb hc ?_;have:=Nb h;unfold sL at this;rw[bj hc]at this;exact mo this hK
def mZ(f:Nat->Nat):Nat->Bool×Nat
 | 0=>(false,f 0)
 |k+1=>jU (mZ f k) (decide ((k+1)%2=1),f (k+1)/(2*(k+1)+1))
def Ua{f:Nat->Nat}(hf:∀ k,f (k+1)<=f k):∀ n,(n%2=0->qx (mZ f n)<=f 0/\(f 0:Int)-(f 1/3:Nat)<=qx (mZ f n)-(f (n+1)/(2*(n+1)+1):Nat))/\(n%2=1->(f 0:Int)-(f 1/3:Nat)<=qx (mZ f n)/\qx (mZ f n)+(f (n+1)/(2*(n+1)+1):Nat)<=f 0)
 | 0=>⟨λ_=>⟨by simp[mZ,qx],by simp[mZ,qx]⟩,λh=> aC⟩
 |n+1=>by
  obtain⟨e,o⟩:=Ua hf n;have hq:f (n+1+1)/(2*(n+1+1)+1)<=f (n+1)/(2*(n+1)+1):=Nat.div_le_div (hf<|n+1) aC aC;have hv:qx (mZ f<|n+1)=qx (mZ f n)+qx (decide ((n+1)%2=1),f (n+1)/(2*(n+1)+1)):=P5 _ _;generalize f (n+1)/(2*(n+1)+1)=q1 at *
  generalize f (n+1+1)/(2*(n+1+1)+1)=q2 at *
  generalize f 1/3=q0 at *
  rcases auh n with h|h
  .obtain ⟨e1,e2⟩:=e h;rw[show decide ((n+1)%2=1)=true from bu aC]at hv;simp only[qx,bH]at hv;exact⟨λq=> aC,λ_=>⟨by unfold qx at *;omega,by unfold qx at *;omega⟩⟩
  .obtain ⟨e1,e2⟩:=o h;rw[show decide ((n+1)%2=1)=false from bn aC]at hv;simp only[qx,bJ,bB]at hv;exact⟨λ_=>⟨by unfold qx at *;omega,by unfold qx at *;omega⟩,λq=> aC⟩
def OU{f:Nat->Nat}(hf:∀ k,f (k+1)<=f k)(n:Nat):(mZ f n).2<=f 0/\f 0<=(mZ f n).2+f 1/3:=by
 have ht:=Ua hf n;have h1:f 1/3<=f 0:=bA (cv _ _)<|hf 0;have hb:(f 0:Int)-(f 1/3:Nat)<=qx (mZ f n)/\qx (mZ f n)<=f 0:=by
  rcases auh n with h|h
  .have:=ht.1 h;generalize f (n+1)/(2*(n+1)+1)=q at *
   omega
  .have:=ht.2 h;generalize f (n+1)/(2*(n+1)+1)=q at *
   omega
 generalize mZ f n=s at *
 generalize f 1/3=q at *
 obtain⟨b,m⟩:=s;cases b
 .simp only[qx,bJ,bB]at hb ⊢;omega
 .simp only[qx,bH]at hb ⊢;omega
def K4{f:Nat->Nat}(hf:∀ k,f (k+1)<=f k):∀ k,f k<=f 0
 | 0=>bw _
 |k+1=>bA (hf k)<|K4 hf k
section
variable{f:Nat->Nat}(hf:∀ k,f (k+1)<=f k){B:Nat}(hB:B<=8191)(hz:f 0<2^B)(k:Nat)
def FJ:(im<|f k).length<=256:=mo (cO (K4 hf k) hz) aC 
def K5:(im (mZ f k).2).length<=256/\(im<|f (k+1)/(2*(k+1)+1)).length<=256:=⟨mo (cO (OU hf k).1 hz) aC,mo (cO (bA (cv _ _)<|K4 hf<|k+1) hz) aC⟩
def Ub:(im<|(mZ f k).2+f (k+1)/(2*(k+1)+1)).length<=256:=by
 have h1:=(OU hf k).1;have h2:=bA (cv (f<|k+1)<|2*(k+1)+1)<|K4 hf<|k+1;refine mo (k:=B+1) ?_ aC;rw[bM];omega
end
def tV(n b:Nat):Nat->Nat
 | 0=>1*2^b/n
 |k+1=>tV n b k/(n*n)
def YN{n b:Nat}(hn:2<=n)(k:Nat):tV n b (k+1)*2<=tV n b k:=by
 show tV n b k/(n*n)*2<=_;have h1:tV n b k/(n*n)<=tV n b k/2:=atp (by have:=dU hn hn;omega) aE;omega
def Ru(n b:Nat):tV n b 0<2^(b+1):=by
 show 1*2^b/n<_;rw[bX,bM];have:=cv (2^b) n;have:0<2^b:=bF aE;omega
def akQ{n b:Nat}(hn:2<=n):∃ N,N<=b+1/\(∀ k,k<N->tV n b (k+1)≠0)/\tV n b (N+1)=0:=by
 obtain⟨N,h1,h2,h3⟩:=ajT (Ru n b)<|YN hn;rcases N with _|N
 .refine ⟨0,aC,λk hk=>absurd hk<|bC _,?_⟩;have:=YN (b:=b) hn 0;omega
 .exact ⟨N,aC,λk hk=>h2 (k+1) aC,h3⟩
def aoq{T x y f g:Nat}(hT:65536<=T)(hf:f=T/5)(MF:x<=f)(sY:f<=x+f/(5*5)/3)(hy:y<=T/239)(hg:g=(jU (false,x*2^4) (true,y*2^2)).2):2<=g/\g<=T*4/\g/2<=T*2:=by
 have h16:(2:Nat)^4=16:=rfl;have h4:(2:Nat)^2=4:=rfl;have e:g=x*16-y*4:=by
  rw[hg,h16,h4];unfold jU;rw[bj<|show ¬false=true from Bool.false_ne_true,bj<|by show ¬x*16<y*4;omega]
 omega
section
variable(f:Nat->Nat)(g:FuncId)(cap:List E)
def T9(N:Nat)(x:Nat):PS:=⟨30,true,[(6,.e<|iP ((x+1:Nat):Int)),(5,.box 5 0),(4,.box 4 0),(2,.box 2 0),(1,.e<|.fn g cap)],[(5,.cells 287 [bP<|(mZ f x).1,iy<|im<|(mZ f x).2]),(4,.cells 287 [bP false,.v<|.slice none 0 0]),(2,.cells 287 [bP false,iy<|im<|f x])]⟩
def afq(N:Nat)(hp:∀ k,k<=N->il g ((.agg [bP false,iy<|im<|f k])::cap) (.agg [bP false,iy<|im<|f<|k+1]))(hf:∀ k,f (k+1)<=f k)(B:Nat)(hB:B<=8191)(hz:f 0<2^B)(h0:∀ k,k<N->f (k+1)≠0)(hN:f (N+1)=0)(ux:N<=100000):il 389 [.agg [bP false,iy<|im<|f 0],.fn g cap]<|.agg [bP<|(mZ f N).1,iy<|im<|(mZ f N).2]:=by
 have z00:=FJ hf hB hz 0;exact iE (af [.s (Sp.jP (T9 f g cap N) 0 N aC (λx hx mX=>by
    have z1:=FJ hf hB hz<|x+1;have z0:=FJ hf hB hz x;have zs:=(K5 hf hB hz x).1;have zt:=(K5 hf hB hz x).2;have zu:=Ub hf hB hz x;exact iS (ae [.c (hp x aC:il g ((.agg [bP false,iy<|im<|f x])::cap) _),ag [.agg [bP false,iy<|im<|f<|x+1]]<|F2 (false,(f<|x+1)) aD,tF 15 ((f<|x+1)=0)<|h0 x aC,
     iL (2*((x+1:Nat):Int)),iL<|((2*(x+1):Nat):Int)+1,ag [.agg [bP false,iy<|im<|f<|x+1],iP (((2*(x+1))+1:Nat):Int)]<|IS (false,(f<|x+1)) aD<|(2*(x+1))+1,.a (aC:0<(2:Int))]<|.w ((x+1)%2=1)
     (λho=>ae [ah 24 ((((x+1)%2:Nat):Int)==1)<|by rw[ho];rfl,ag [.agg [bP false,iy<|im<|(f<|x+1)/((2*(x+1))+1)]]<|yW (false,((f<|x+1)/((2*(x+1))+1))),ag [.agg [bP<|(mZ f x).1,iy<|im<|(mZ f x).2],.agg [bP<|!false,iy<|im<|(f<|x+1)/((2*(x+1))+1)]]<|uZ (mZ f x) aD ((!false),((f<|x+1)/((2*(x+1))+1))) aD aD,
      iL (((x+1:Nat):Int)+1)]<|.e<|af [.b 5 (.jq<|by first|rfl|simp[mZ,ho]:Bx.le (.cells 287 [bP<|(jU (mZ f x) ((!false),((f<|x+1)/((2*(x+1))+1)))).1,iy<|im<|(jU (mZ f x) ((!false),((f<|x+1)/((2*(x+1))+1)))).2])<|.cells 287 [bP<|(mZ f<|x+1).1,iy<|im<|(mZ f<|x+1).2])])
     (λho=>ae [ai 24 ((((x+1)%2:Nat):Int)==1) aN,ag [.agg [bP<|(mZ f x).1,iy<|im<|(mZ f x).2],.agg [bP false,iy<|im<|(f<|x+1)/((2*(x+1))+1)]]<|uZ (mZ f x) aD (false,((f<|x+1)/((2*(x+1))+1))) aD aD,
      iL (((x+1:Nat):Int)+1)]<|.e<|af [.b 5 (.jq<|by first|rfl|simp[mZ,ho]:Bx.le (.cells 287 [bP<|(jU (mZ f x) (false,((f<|x+1)/((2*(x+1))+1)))).1,iy<|im<|(jU (mZ f x) (false,((f<|x+1)/((2*(x+1))+1)))).2])<|.cells 287 [bP<|(mZ f<|x+1).1,iy<|im<|(mZ f<|x+1).2])])) aF)
  (λhx=>by
    have z1:=FJ hf hB hz<|N+1;have z0:=FJ hf hB hz N;have zs:=(K5 hf hB hz N).1;have zt:=(K5 hf hB hz N).2;have zu:=Ub hf hB hz N;exact iS (af [.c (hp N aC:il g ((.agg [bP false,iy<|im<|f N])::cap) _),ag [.agg [bP false,iy<|im<|f<|N+1]]<|F2 (false,(f<|N+1)) aD,tB 15<|bu hN]) aF) aI:jM 4 f389 (T9 f g cap N 0) .ret ⟨30,true,[(4,.box 4 0)],[(4,.cells 287 [bP<|(mZ f N).1,iy<|im<|(mZ f N).2])]⟩)<|af [.o 6<|aq 1 ((0+1:Nat):Int) aO,.b 5 (.jq<|by first|rfl|simp[mZ,ho]:Bx.le (.cells 287 [bP false,iy<|im<|f 0])<|.cells 287 [bP<|(mZ f 0).1,iy<|im<|(mZ f 0).2])]])
end
def afB(m n:Nat)(hm:(im m).length<=256)(sn:n≠0)(hn:n<60000):il 390 [.agg [bP false,iy<|im m],(.jK 1 λj_=>[iP n].getD j_ .any)]<|.agg [bP false,iy<|im<|m/(n*n)]:=by
 have sr:n*n<3600000000:=aui hn hn;have hnz:n*n≠0:=ej sn sn;exact iE<|af [iL<|(n:Int)*(n:Int),ag [.agg [bP false,iy<|im m],iP ((n*n:Nat):Int)]<|IS (false,m) aD<|n*n]
def afC(n b:Nat)(S:Bool×Nat)(sn:n≠0)(hn:n<60000)(hb:b<=8000)(hS:il 389 [.agg [bP false,iy<|im<|1*2^b/n],.fn 390 [(.jK 1 λj_=>[iP n].getD j_ .any)]]<|.agg [bP S.1,iy<|im S.2]):il 388 [iP n,iP b]<|.agg [bP S.1,iy<|im S.2]:=by
 have z0:(im 1).length<=256:=vu aE;have z1:(im<|1*2^b).length<=256:=mo (k:=b+1) (by rw[bM,bX];have:0<2^b:=bF aE;omega) aC;exact iE<|af [.o 6 (.e A0:aj (.sl false 1 1 λi_ j_=>[.v<|.int .u32 1].getD (i_*1+j_)<|.v<|.bool false)<|iy<|im 1),.c<|CD 1 b aD aC aD,ag [.agg [bP false,iy<|im<|1*2^b],iP n]<|IS (false,(1*2^b)) aD n,ag [.agg [bP false,iy<|im<|(1*2^b)/n],.fn 390 [(.jK 1 λj_=>[iP n].getD j_ .any)]] hS]
def UU(n b:Nat)(sn:2<=n)(hn:n<60000)(hb:b<=8000):∃ S:Bool×Nat,S.2<=2^b/n/\2^b/n<=S.2+2^b/n/(n*n)/3/\il 388 [iP (n:Int),iP (b:Int)] (.agg [bP S.1,iy<|im S.2]):=by
 obtain⟨N,h1,h2,h3⟩:=akQ (b:=b) sn;have hf:∀ k,tV n b (k+1)<=tV n b k:=λk=>cv _ _
 obtain⟨r1,r2⟩:=OU hf N;have e0:tV n b 0=2^b/n:=by show 1*2^b/n=_;rw[bX]
 have e1:tV n b 1=2^b/n/(n*n):=by show tV n b 0/(n*n)=_;rw[e0]
 refine⟨mZ (tV n b) N,by rw[<-e0];exact r1,by rw[<-e1,<-e0];exact r2,?_⟩;exact afC n b _ aC hn hb<|afq (tV n b) 390 _ N (λk _=>afB (tV n b k) n (FJ hf (aC:b+1<=8191) (Ru n b) k) aC hn) hf (b+1) aC (Ru n b) h2 h3 aC
def afI(b:Nat)(x y:Bool×Nat)(zx:x.2<2^b)(zy:y.2<2^b)(hb:b<=8000)(hx:il 388 [iP ((5:Nat):Int),iP (b:Int)]<|.agg [bP x.1,iy<|im x.2])(hy:il 388 [iP ((239:Nat):Int),iP (b:Int)]<|.agg [bP y.1,iy<|im y.2]):il 377 [iP b]<|.agg [bP<|(jU (false,x.2*2^4) (true,y.2*2^2)).1,iy<|im<|(jU (false,x.2*2^4) (true,y.2*2^2)).2]:=by
 have z1:(im x.2).length<=256:=mo zx aC;have z2:(im y.2).length<=256:=mo zy aC;have e5:2^(b+5)=2^b*32:=by rw[bE]
 have z3:(im<|x.2*2^4).length<=256:=mo (k:=b+5) aC aC;have z4:(im<|y.2*2^2).length<=256:=mo (k:=b+5) aC aC;have z5:(im<|x.2*2^4+y.2*2^2).length<=256:=mo (k:=b+5) aC aC;exact iE<|af [ag [iP 5,iP b] hx,ag [iP 239,iP b] hy,.c<|CD x.2 4 aD aC aD,.c<|CD y.2 2 aD aC aD,ag [.agg [bP false,iy<|im<|x.2*2^4],.agg [bP true,iy<|im<|y.2*2^2]]<|uZ (false,(x.2*2^4)) aD (true,(y.2*2^2)) aD aD]
def UW(b:Nat)(kI:16<=b)(hb:b<=8000):∃ c:Bool×Nat,2<=c.2/\c.2<=2^b*4/\c.2/2<=2^b*2/\il 377 [iP (b:Int)] (.agg [bP c.1,iy<|im c.2]):=by
 obtain⟨x,x1,x2,hx⟩:=UU 5 b aE aE hb;obtain⟨y,y1,y2,hy⟩:=UU 239 b aE aE hb;have hT:65536<=2^b:=by have:=bY (show 0<2 by decide) kI;omega
 obtain⟨g1,g2,g3⟩:=aoq hT rfl x1 x2 y1 rfl;exact⟨_,g1,g2,g3,afI b x y aC aC hb hx hy⟩
def adl(n:Nat)(h:n<4294967296):bits .and .u32 (n:Int) 3=((n%4:Nat):Int):=by
 have:=bits_and_u32_nat n 3 h aE;rw[show((3:Int))=((3:Nat):Int)from rfl,this];exact congrArg _<|aub n 2
def akx(k:Nat)(h:k<=3):bits .and .i64 (4-(k:Int)) 3=(((4-k)%4:Nat):Int):=by
 rcases(aC:k=0\/k=1\/k=2\/k=3)with rfl|rfl|rfl|rfl<;>decide
def aiI{x:Bool×Nat}{m:Nat}(h:m<=x.2):jU x (!x.1,m)=(x.1,x.2-m):=by
 unfold jU;rw[bj<|by show ¬x.1 = !x.1;cases x.1<;>decide,bj<|by show ¬x.2<m;omega]
def aoZ(n:Nat):n%4<=3:= aC 
def aoY(n:Nat):(4-n)%4<=3:= aC 
def ao0{x:Bool×Nat}{H b t:Nat}(h0:1<=H)(hH:H<=2^(b+t+40)*2):(jU x (!x.1,x.2/H*H)).2/2^(t+40)<=2^(b+1):=by
 rw[aiI<|dH _ _];show(x.2-x.2/H*H)/_<=_;have h1:x.2-x.2/H*H=x.2%H:=by
  have:=cW x.2 H;rw[bQ H]at this;omega
 have h2:=bR x.2 (aC:0<H);rw[h1];refine Nat.div_le_of_le_mul<|bA (dM h2)<|bA hH<|fL ?_;rw[<-bE,(aC:t+40+(b+1)=b+t+40+1)];exact(bM 2<|b+t+40).symm
def lM(x:Bool×Nat):Nat->Bool
 | 0=>false
 |k+1=>(lM x k != x.1)
def jY(x:Bool×Nat)(b:Nat):Nat->(Bool×Nat)×(Bool×Nat)
 | 0=>((false,0),(false,1*2^b))
 |k+1=>if(k+1)%2=1 then(jU (jY x b k).1 ((if 2<=(k+1)%4 then !(lM x<|k+1)else lM x (k+1)),kz x.2 b<|k+1),(jY x b k).2)
  else((jY x b k).1,jU (jY x b k).2 ((if 2<=(k+1)%4 then !(lM x<|k+1)else lM x (k+1)),kz x.2 b<|k+1))
def ack{x:Bool×Nat}{b:Nat}(h:x.2<=2^(b+1)):∀ k,(jY x b k).1.2<=(k+1)*2^(b+1)/\(jY x b k).2.2<=(k+1)*2^(b+1)
 | 0=>⟨ck _,by show 1*2^b<=_;have:=bM (n:=2) (m:=b);omega⟩
 |k+1=>by
  obtain⟨h1,h2⟩:=ack h k;have h3:=IW h<|k+1;have h4:(k+1+1)*2^(b+1)=(k+1)*2^(b+1)+2^(b+1):=ato _ _;unfold jY;split
  .refine ⟨bA (Am _ _) ?_,by rw[h4];exact bA h2<|Nat.le_add_right _ _⟩;rw[h4];exact Nat.add_le_add h1 h3
  .refine ⟨by rw[h4];exact bA h1<|Nat.le_add_right _ _,bA (Am _ _) ?_⟩;rw[h4];exact Nat.add_le_add h2 h3
def acm{x:Bool×Nat}{b:Nat}(h:x.2<=2^(b+1))(hb:b<=3000){k:Nat}(hk:k<=b+5):(jY x b k).1.2<2^(b+14)/\(jY x b k).2.2<2^(b+14):=by
 obtain⟨h1,h2⟩:=ack h k;have h3:(k+1)*2^(b+1)<2^(b+14):=by
  rw[(aC:b+14=13+(b+1)),bE 2 13];exact dI aC<|bF aE
 exact⟨cO h1 h3,cO h2 h3⟩
def aiS{T:TypeId}:Bx.le (.cells T [bP false,.v<|.slice none 0 0])<|.cells T [bP false,iy<|im 0]:=
 .cells (λ_=>rfl) (.cons (.refl _)<|.cons JZ .nil)
structure ad4(x:Bool×Nat)(b k:Nat):Prop where
 t0:(im<|kz x.2 b k).length<=256
 t1:(im<|kz x.2 b<|k+1).length<=256
 tm:(im<|kz x.2 b k*x.2).length<=256
 tq:(im<|kz x.2 b k*x.2/2^b).length<=256
 s0:(im (jY x b k).1.2).length<=256
 c0:(im (jY x b k).2.2).length<=256
 s1:(im<|(jY x b k).1.2+kz x.2 b (k+1)).length<=256
 c1:(im<|(jY x b k).2.2+kz x.2 b (k+1)).length<=256
def acj{x:Bool×Nat}{b:Nat}(h:x.2<=2^(b+1))(hb:b<=3000){k:Nat}(hk:k<=b+5):ad4 x b k:=by
 have hp:(2:Nat)^(b+2)=2^(b+1)*2:=bM _ _;have hq:(0:Nat)<2^(b+1):=bF aE;have t0:=IW h k;have t1:=IW h<|k+1;obtain⟨s,c⟩:=acm h hb hk;have hm:kz x.2 b k*x.2<2^(b+2+(b+2)):=by
  rw[bE];exact aui aC aC 
 have e14:(2:Nat)^(b+15)=2^(b+14)*2:=bM _ _;have e13:(2:Nat)^(b+1)<=2^(b+14):=bY aE aC;exact⟨mo (k:=b+2) aC aC,mo (k:=b+2) aC aC,mo hm aC,mo (cO (cv _ _) hm) aC,
  mo s aC,mo c aC,mo (k:=b+15) aC aC,mo (k:=b+15) aC aC⟩
def aad{s:Bool}{m b:Nat}(h:m<2^4000)(hb:b<=8000):oi<|canon s m (-(b:Int)):=by
 by_cases h0:m=0
 .subst h0;exact .inl rfl
 .have e:canon s m (-(b:Int))=⟨s,m/2^jZ m,-(b:Int)+jZ m⟩:=by unfold canon;rw[bj h0]
  have h1:iD m<=4000:=mU.2 h;have h2:=wH<|cv m<|2^jZ m;have h3:jZ m<=4000:=by
   have:=Kg h0;apply ca;intro hc;have:=bY (show 0<2 by decide) (aC:4000<=jZ m);omega
  rw[e];exact .inr ⟨by show iD (m/2^jZ m)<=4096;omega,by show -16384 <= -(b:Int)+jZ m;omega,by show -(b:Int)+jZ m<=16384;omega,by show(iD<|m/2^jZ m:Int)+(-(b:Int)+jZ m)<=16384;omega⟩
def Nk{a b i j n:Nat}(ha:a<2^i)(hb:b<2^j)(hi:i<=n)(hj:j<=n):a+b<2^(n+1):=by
 have h1:=bY (show 0<2 by decide) hi;have h2:=bY (show 0<2 by decide) hj;have e:2^(n+1)=2^n*2:=bM _ _;omega
def aiJ{a b:Bool×Nat}{i j n:Nat}(ha:a.2<2^i)(hb:b.2<2^j)(hi:i<=n)(hj:j<=n):(jU a b).2<2^(n+1):=cO (Am _ _)<|Nk ha hb hi hj
def aae{s:Bool}{m:Nat}{e:Int}(h:oi<|canon s m e):(canon s m e).ix:=⟨uV _ _ _,h⟩
def Kh{m i k:Nat}(h:m<2^i)(hk:i<=k):m<2^k:=bV h<|bY aE hk
section
variable(a c:Bool×Nat)
def qR:Bool×Nat:=if a.1=true/\a.2%c.2≠0 then jU (a.1,a.2/c.2) (true,1)else(a.1,a.2/c.2)
def WI:(qR a c).2<=a.2/c.2+1:=by
 unfold qR;split
 .exact Am _ _
 .exact Nat.le_succ _
def aiN:(qR a c).2*c.2<=a.2+c.2:=by
 refine bA (bU c.2<|WI a c) ?_;rw[ato];exact Nat.add_le_add_right (dH _ _) _
end
def ZU{lo hi:Dy}{e f:Int}(h:e≠0\/f≠0):mF lo e hi f=iw:=bk h
def amx{lo hi:Dy}{e f:Int}(h:e=0)(k:f=0):mF lo e hi f=⟨lo,hi,false⟩:=bj<|by rw[h,k];decide
end Go.Proofs.YtjkmahljfblobaaGreatDoor
