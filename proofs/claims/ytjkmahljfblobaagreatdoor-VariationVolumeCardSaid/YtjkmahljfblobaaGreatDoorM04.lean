/- Lemmas that the last file uses. -/
import Derived.Test.YtjkmahljfblobaaGreatDoorM03
import Derived.MapKept
import Derived.DeepKeys
set_option linter.unusedSimpArgs false
set_option linter.unusedVariables false
set_option linter.defProp false
set_option maxHeartbeats 4000000
open Go.Proofs.Tryz
namespace Go.Proofs.YtjkmahljfblobaaGreatDoor
open Go.RowKit Fp Pu
section
variable(x y:Iv)(p:Nat)(gd gu:FuncId)(DD:Dy->Dy->Bool->Dy)
def ajG(EE:Dy->Dy->Bool->Int):PS:=⟨96,true,[(41,.e<|iP 0),(40,.e<|.agg<|jt (Iv.mk x.lo y.lo x.lo.neg)++[il<|ib x.lo.m,iP x.lo.e]++jt (Iv.mk y.hi x.hi y.lo.neg)++[il<|ib y.lo.m,iP y.lo.e]++jf x.hi++jf y.hi),(12,.box 12 0),(10,.box 10 0),(2,.e<|iP p),(3,.e<|.fn gd []),(4,.e<|.fn gu [])],[(12,.cells 41<|jt<|Iv.mk (DD x.lo y.lo false) (DD x.lo y.lo true) false),(10,.cells 41 au)]⟩
def ajH(EE:Dy->Dy->Bool->Int):PS:=⟨96,true,[(41,.e<|iP<|0+1),(40,.e<|.agg<|jt (Iv.mk x.lo y.lo x.lo.neg)++[il<|ib x.lo.m,iP x.lo.e]++jt (Iv.mk y.hi x.hi y.lo.neg)++[il<|ib y.lo.m,iP y.lo.e]++jf x.hi++jf y.hi),(12,.box 12 0),(10,.box 10 0),(2,.e<|iP p),(3,.e<|.fn gd []),(4,.e<|.fn gu [])],[(12,.cells 41<|jt<|Iv.mk (jk (DD x.lo y.lo false)<|DD x.lo y.hi false) (jg (DD x.lo y.lo true)<|DD x.lo y.hi true) false),(10,.cells 41 au)]⟩
def ajI(EE:Dy->Dy->Bool->Int):PS:=⟨96,true,[(41,.e<|iP<|(0+1)+1),(40,.e<|.agg<|jt (Iv.mk x.lo y.lo x.lo.neg)++[il<|ib x.lo.m,iP x.lo.e]++jt (Iv.mk y.hi x.hi y.lo.neg)++[il<|ib y.lo.m,iP y.lo.e]++jf x.hi++jf y.hi),(12,.box 12 0),(10,.box 10 0),(2,.e<|iP p),(3,.e<|.fn gd []),(4,.e<|.fn gu [])],[(12,.cells 41<|jt<|Iv.mk (jk (jk (DD x.lo y.lo false)<|DD x.lo y.hi false)<|DD x.hi y.lo false) (jg (jg (DD x.lo y.lo true)<|DD x.lo y.hi true)<|DD x.hi y.lo true) false),(10,.cells 41 au)]⟩
def ajJ(EE:Dy->Dy->Bool->Int):PS:=⟨96,true,[(41,.e<|iP<|((0+1)+1)+1),(40,.e<|.agg<|jt (Iv.mk x.lo y.lo x.lo.neg)++[il<|ib x.lo.m,iP x.lo.e]++jt (Iv.mk y.hi x.hi y.lo.neg)++[il<|ib y.lo.m,iP y.lo.e]++jf x.hi++jf y.hi),(12,.box 12 0),(10,.box 10 0),(2,.e<|iP p),(3,.e<|.fn gd []),(4,.e<|.fn gu [])],[(12,.cells 41<|jt<|Iv.mk (jk (jk (jk (DD x.lo y.lo false)<|DD x.lo y.hi false)<|DD x.hi y.lo false)<|DD x.hi y.hi false) (jg (jg (jg (DD x.lo y.lo true)<|DD x.lo y.hi true)<|DD x.hi y.lo true)<|DD x.hi y.hi true) false),(10,.cells 41 au)]⟩
def XY(EE:Dy->Dy->Bool->Int)(hd:∀ a b,(a=x.lo\/a=x.hi)->(b=y.lo\/b=y.hi)->ic gd [iw a,iw b,iP (p:Int)] (.ix [iw<|DD a b false,iP<|EE a b false]))
  (hu:∀ a b,(a=x.lo\/a=x.hi)->(b=y.lo\/b=y.hi)->ic gu [iw a,iw b,iP (p:Int)] (.ix [iw<|DD a b true,iP<|EE a b true])) (hv:∀ a b up,(DD a b up).ig):ic 119 [im x,im y,iP p,.fn gd [],.fn gu []]<|im<|oK DD EE x y:=by
 exact iy (ae [.u 5,ah 42 (decide ((0:Int)<4)) aE]<|.w ((EE x.lo y.lo false)=0)
  (λk1=>.w ((EE x.lo y.lo true)=0)
   (λk2=>ae [.j 3 (ajG x y p gd gu DD EE)
   (af [iX 0 4,iX 0 2,iX 1 2,.c (hd _ _ (.inl rfl)<|.inl rfl:ic gd ((iw x.lo)::(iw y.lo)::(iP p)::[]) _),iX 0 2,iX 1 2,.c (hu _ _ (.inl rfl)<|.inl rfl:ic gu ((iw x.lo)::(iw y.lo)::(iP p)::[]) _),tB 66<|aV k1,tB 69<|aV k2,ah 73 ((0:Int)==0) aE,ah 84 ((0:Int)==0) aE]),
    iD (0+1),ah 42 (decide (((0+1):Int)<4)) aE]<|.w ((EE x.lo y.hi false)=0)
    (λk3=>.w ((EE x.lo y.hi true)=0)
     (λk4=>ae [.j 3 (ajH x y p gd gu DD EE)
   (ae [iX (0+1) 4,iX 0 2,iX 1 2,.c (hd _ _ (.inl rfl)<|.inr rfl:ic gd ((iw x.lo)::(iw y.hi)::(iP p)::[]) _),iX 0 2,iX 1 2,.c (hu _ _ (.inl rfl)<|.inr rfl:ic gu ((iw x.lo)::(iw y.hi)::(iP p)::[]) _),tB 66<|aV k3,tB 69<|aV k4,ai 73 (((0+1):Int)==0) aE,.c<|mF (DD x.lo y.hi false) (DD x.lo y.lo false) (hv _ _ _)<|hv _ _ _]<|.w ((jm (DD x.lo y.hi false)<|DD x.lo y.lo false)<0)
    (λm1=>ae [tB 79<|aZ m1,ai 84 (((0+1):Int)==0) aE,.c<|mF (DD x.lo y.hi true) (DD x.lo y.lo true) (hv _ _ _)<|hv _ _ _]<|.w (0<(jm (DD x.lo y.hi true)<|DD x.lo y.lo true))
     (λm2=>ae [tB 90<|aZ m2]<|.e<|af [.b 12 (.jP<|by rw[show jk (DD x.lo y.lo false) (DD x.lo y.hi false)=(DD x.lo y.hi false)from aY m1,show jg (DD x.lo y.lo true) (DD x.lo y.hi true)=(DD x.lo y.hi true)from aY m2]:Bx.le (.cells 41<|jt<|Iv.mk (DD x.lo y.hi false) (DD x.lo y.hi true) false)<|.cells 41<|jt<|Iv.mk (jk (DD x.lo y.lo false)<|DD x.lo y.hi false) (jg (DD x.lo y.lo true)<|DD x.lo y.hi true) false)])
     (λm2=>ae [tB 90<|a6 m2]<|.e<|af [.b 12 (.jP<|by rw[show jk (DD x.lo y.lo false) (DD x.lo y.hi false)=(DD x.lo y.hi false)from aY m1,show jg (DD x.lo y.lo true) (DD x.lo y.hi true)=(DD x.lo y.lo true)from aX m2]:Bx.le (.cells 41<|jt<|Iv.mk (DD x.lo y.hi false) (DD x.lo y.lo true) false)<|.cells 41<|jt<|Iv.mk (jk (DD x.lo y.lo false)<|DD x.lo y.hi false) (jg (DD x.lo y.lo true)<|DD x.lo y.hi true) false)]))
    (λm1=>ae [tB 79<|a6 m1,ai 84 (((0+1):Int)==0) aE,.c<|mF (DD x.lo y.hi true) (DD x.lo y.lo true) (hv _ _ _)<|hv _ _ _]<|.w (0<(jm (DD x.lo y.hi true)<|DD x.lo y.lo true))
     (λm2=>ae [tB 90<|aZ m2]<|.e<|af [.b 12 (.jP<|by rw[show jk (DD x.lo y.lo false) (DD x.lo y.hi false)=(DD x.lo y.lo false)from aX m1,show jg (DD x.lo y.lo true) (DD x.lo y.hi true)=(DD x.lo y.hi true)from aY m2]:Bx.le (.cells 41<|jt<|Iv.mk (DD x.lo y.lo false) (DD x.lo y.hi true) false)<|.cells 41<|jt<|Iv.mk (jk (DD x.lo y.lo false)<|DD x.lo y.hi false) (jg (DD x.lo y.lo true)<|DD x.lo y.hi true) false)])
     (λm2=>ae [tB 90<|a6 m2]<|.e<|af [.b 12 (.jP<|by rw[show jk (DD x.lo y.lo false) (DD x.lo y.hi false)=(DD x.lo y.lo false)from aX m1,show jg (DD x.lo y.lo true) (DD x.lo y.hi true)=(DD x.lo y.lo true)from aX m2]:Bx.le (.cells 41<|jt<|Iv.mk (DD x.lo y.lo false) (DD x.lo y.lo true) false)<|.cells 41<|jt<|Iv.mk (jk (DD x.lo y.lo false)<|DD x.lo y.hi false) (jg (DD x.lo y.lo true)<|DD x.lo y.hi true) false)]))),
      iD ((0+1)+1),ah 42 (decide ((((0+1)+1):Int)<4)) aE]<|.w ((EE x.hi y.lo false)=0)
      (λk5=>.w ((EE x.hi y.lo true)=0)
       (λk6=>ae [.j 3 (ajI x y p gd gu DD EE)
   (ae [iX ((0+1)+1) 4,iX 0 2,iX 1 2,.c (hd _ _ (.inr rfl)<|.inl rfl:ic gd ((iw x.hi)::(iw y.lo)::(iP p)::[]) _),iX 0 2,iX 1 2,.c (hu _ _ (.inr rfl)<|.inl rfl:ic gu ((iw x.hi)::(iw y.lo)::(iP p)::[]) _),tB 66<|aV k5,tB 69<|aV k6,ai 73 ((((0+1)+1):Int)==0) aE,.c<|mF (DD x.hi y.lo false) (jk (DD x.lo y.lo false)<|DD x.lo y.hi false) (hv _ _ _)<|xz (hv _ _ _)<|hv _ _ _]<|.w ((jm (DD x.hi y.lo false)<|jk (DD x.lo y.lo false)<|DD x.lo y.hi false)<0)
    (λm1=>ae [tB 79<|aZ m1,ai 84 ((((0+1)+1):Int)==0) aE,.c<|mF (DD x.hi y.lo true) (jg (DD x.lo y.lo true)<|DD x.lo y.hi true) (hv _ _ _)<|uM (hv _ _ _)<|hv _ _ _]<|.w (0<(jm (DD x.hi y.lo true)<|jg (DD x.lo y.lo true)<|DD x.lo y.hi true))
     (λm2=>ae [tB 90<|aZ m2]<|.e<|af [.b 12 (.jP<|by rw[show jk (jk (DD x.lo y.lo false)<|DD x.lo y.hi false) (DD x.hi y.lo false)=(DD x.hi y.lo false)from aY m1,show jg (jg (DD x.lo y.lo true)<|DD x.lo y.hi true) (DD x.hi y.lo true)=(DD x.hi y.lo true)from aY m2]:Bx.le (.cells 41<|jt<|Iv.mk (DD x.hi y.lo false) (DD x.hi y.lo true) false)<|.cells 41<|jt<|Iv.mk (jk (jk (DD x.lo y.lo false)<|DD x.lo y.hi false)<|DD x.hi y.lo false) (jg (jg (DD x.lo y.lo true)<|DD x.lo y.hi true)<|DD x.hi y.lo true) false)])
     (λm2=>ae [tB 90<|a6 m2]<|.e<|af [.b 12 (.jP<|by rw[show jk (jk (DD x.lo y.lo false)<|DD x.lo y.hi false) (DD x.hi y.lo false)=(DD x.hi y.lo false)from aY m1,show jg (jg (DD x.lo y.lo true)<|DD x.lo y.hi true) (DD x.hi y.lo true)=(jg (DD x.lo y.lo true)<|DD x.lo y.hi true)from aX m2]:Bx.le (.cells 41<|jt<|Iv.mk (DD x.hi y.lo false) (jg (DD x.lo y.lo true)<|DD x.lo y.hi true) false)<|.cells 41<|jt<|Iv.mk (jk (jk (DD x.lo y.lo false)<|DD x.lo y.hi false)<|DD x.hi y.lo false) (jg (jg (DD x.lo y.lo true)<|DD x.lo y.hi true)<|DD x.hi y.lo true) false)]))
    (λm1=>ae [tB 79<|a6 m1,ai 84 ((((0+1)+1):Int)==0) aE,.c<|mF (DD x.hi y.lo true) (jg (DD x.lo y.lo true)<|DD x.lo y.hi true) (hv _ _ _)<|uM (hv _ _ _)<|hv _ _ _]<|.w (0<(jm (DD x.hi y.lo true)<|jg (DD x.lo y.lo true)<|DD x.lo y.hi true))
     (λm2=>ae [tB 90<|aZ m2]<|.e<|af [.b 12 (.jP<|by rw[show jk (jk (DD x.lo y.lo false)<|DD x.lo y.hi false) (DD x.hi y.lo false)=(jk (DD x.lo y.lo false)<|DD x.lo y.hi false)from aX m1,show jg (jg (DD x.lo y.lo true)<|DD x.lo y.hi true) (DD x.hi y.lo true)=(DD x.hi y.lo true)from aY m2]:Bx.le (.cells 41<|jt<|Iv.mk (jk (DD x.lo y.lo false)<|DD x.lo y.hi false) (DD x.hi y.lo true) false)<|.cells 41<|jt<|Iv.mk (jk (jk (DD x.lo y.lo false)<|DD x.lo y.hi false)<|DD x.hi y.lo false) (jg (jg (DD x.lo y.lo true)<|DD x.lo y.hi true)<|DD x.hi y.lo true) false)])
     (λm2=>ae [tB 90<|a6 m2]<|.e<|af [.b 12 (.jP<|by rw[show jk (jk (DD x.lo y.lo false)<|DD x.lo y.hi false) (DD x.hi y.lo false)=(jk (DD x.lo y.lo false)<|DD x.lo y.hi false)from aX m1,show jg (jg (DD x.lo y.lo true)<|DD x.lo y.hi true) (DD x.hi y.lo true)=(jg (DD x.lo y.lo true)<|DD x.lo y.hi true)from aX m2]:Bx.le (.cells 41<|jt<|Iv.mk (jk (DD x.lo y.lo false)<|DD x.lo y.hi false) (jg (DD x.lo y.lo true)<|DD x.lo y.hi true) false)<|.cells 41<|jt<|Iv.mk (jk (jk (DD x.lo y.lo false)<|DD x.lo y.hi false)<|DD x.hi y.lo false) (jg (jg (DD x.lo y.lo true)<|DD x.lo y.hi true)<|DD x.hi y.lo true) false)]))),
        iD (((0+1)+1)+1),ah 42 (decide (((((0+1)+1)+1):Int)<4)) aE]<|.w ((EE x.hi y.hi false)=0)
        (λk7=>.w ((EE x.hi y.hi true)=0)
         (λk8=>ae [.j 3 (ajJ x y p gd gu DD EE)
   (ae [iX (((0+1)+1)+1) 4,iX 0 2,iX 1 2,.c (hd _ _ (.inr rfl)<|.inr rfl:ic gd ((iw x.hi)::(iw y.hi)::(iP p)::[]) _),iX 0 2,iX 1 2,.c (hu _ _ (.inr rfl)<|.inr rfl:ic gu ((iw x.hi)::(iw y.hi)::(iP p)::[]) _),tB 66<|aV k7,tB 69<|aV k8,ai 73 (((((0+1)+1)+1):Int)==0) aE,.c<|mF (DD x.hi y.hi false) (jk (jk (DD x.lo y.lo false)<|DD x.lo y.hi false)<|DD x.hi y.lo false) (hv _ _ _)<|xz (xz (hv _ _ _)<|hv _ _ _)<|hv _ _ _]<|.w ((jm (DD x.hi y.hi false)<|jk (jk (DD x.lo y.lo false)<|DD x.lo y.hi false)<|DD x.hi y.lo false)<0)
    (λm1=>ae [tB 79<|aZ m1,ai 84 (((((0+1)+1)+1):Int)==0) aE,.c<|mF (DD x.hi y.hi true) (jg (jg (DD x.lo y.lo true)<|DD x.lo y.hi true)<|DD x.hi y.lo true) (hv _ _ _)<|uM (uM (hv _ _ _)<|hv _ _ _)<|hv _ _ _]<|.w (0<(jm (DD x.hi y.hi true)<|jg (jg (DD x.lo y.lo true)<|DD x.lo y.hi true)<|DD x.hi y.lo true))
     (λm2=>ae [tB 90<|aZ m2]<|.e<|af [.b 12 (.jP<|by rw[show jk (jk (jk (DD x.lo y.lo false)<|DD x.lo y.hi false)<|DD x.hi y.lo false) (DD x.hi y.hi false)=(DD x.hi y.hi false)from aY m1,show jg (jg (jg (DD x.lo y.lo true)<|DD x.lo y.hi true)<|DD x.hi y.lo true) (DD x.hi y.hi true)=(DD x.hi y.hi true)from aY m2]:Bx.le (.cells 41<|jt<|Iv.mk (DD x.hi y.hi false) (DD x.hi y.hi true) false)<|.cells 41<|jt<|Iv.mk (jk (jk (jk (DD x.lo y.lo false)<|DD x.lo y.hi false)<|DD x.hi y.lo false)<|DD x.hi y.hi false) (jg (jg (jg (DD x.lo y.lo true)<|DD x.lo y.hi true)<|DD x.hi y.lo true)<|DD x.hi y.hi true) false)])
     (λm2=>ae [tB 90<|a6 m2]<|.e<|af [.b 12 (.jP<|by rw[show jk (jk (jk (DD x.lo y.lo false)<|DD x.lo y.hi false)<|DD x.hi y.lo false) (DD x.hi y.hi false)=(DD x.hi y.hi false)from aY m1,show jg (jg (jg (DD x.lo y.lo true)<|DD x.lo y.hi true)<|DD x.hi y.lo true) (DD x.hi y.hi true)=(jg (jg (DD x.lo y.lo true)<|DD x.lo y.hi true)<|DD x.hi y.lo true)from aX m2]:Bx.le (.cells 41<|jt<|Iv.mk (DD x.hi y.hi false) (jg (jg (DD x.lo y.lo true)<|DD x.lo y.hi true)<|DD x.hi y.lo true) false)<|.cells 41<|jt<|Iv.mk (jk (jk (jk (DD x.lo y.lo false)<|DD x.lo y.hi false)<|DD x.hi y.lo false)<|DD x.hi y.hi false) (jg (jg (jg (DD x.lo y.lo true)<|DD x.lo y.hi true)<|DD x.hi y.lo true)<|DD x.hi y.hi true) false)]))
    (λm1=>ae [tB 79<|a6 m1,ai 84 (((((0+1)+1)+1):Int)==0) aE,.c<|mF (DD x.hi y.hi true) (jg (jg (DD x.lo y.lo true)<|DD x.lo y.hi true)<|DD x.hi y.lo true) (hv _ _ _)<|uM (uM (hv _ _ _)<|hv _ _ _)<|hv _ _ _]<|.w (0<(jm (DD x.hi y.hi true)<|jg (jg (DD x.lo y.lo true)<|DD x.lo y.hi true)<|DD x.hi y.lo true))
     (λm2=>ae [tB 90<|aZ m2]<|.e<|af [.b 12 (.jP<|by rw[show jk (jk (jk (DD x.lo y.lo false)<|DD x.lo y.hi false)<|DD x.hi y.lo false) (DD x.hi y.hi false)=(jk (jk (DD x.lo y.lo false)<|DD x.lo y.hi false)<|DD x.hi y.lo false)from aX m1,show jg (jg (jg (DD x.lo y.lo true)<|DD x.lo y.hi true)<|DD x.hi y.lo true) (DD x.hi y.hi true)=(DD x.hi y.hi true)from aY m2]:Bx.le (.cells 41<|jt<|Iv.mk (jk (jk (DD x.lo y.lo false)<|DD x.lo y.hi false)<|DD x.hi y.lo false) (DD x.hi y.hi true) false)<|.cells 41<|jt<|Iv.mk (jk (jk (jk (DD x.lo y.lo false)<|DD x.lo y.hi false)<|DD x.hi y.lo false)<|DD x.hi y.hi false) (jg (jg (jg (DD x.lo y.lo true)<|DD x.lo y.hi true)<|DD x.hi y.lo true)<|DD x.hi y.hi true) false)])
     (λm2=>ae [tB 90<|a6 m2]<|.e<|af [.b 12 (.jP<|by rw[show jk (jk (jk (DD x.lo y.lo false)<|DD x.lo y.hi false)<|DD x.hi y.lo false) (DD x.hi y.hi false)=(jk (jk (DD x.lo y.lo false)<|DD x.lo y.hi false)<|DD x.hi y.lo false)from aX m1,show jg (jg (jg (DD x.lo y.lo true)<|DD x.lo y.hi true)<|DD x.hi y.lo true) (DD x.hi y.hi true)=(jg (jg (DD x.lo y.lo true)<|DD x.lo y.hi true)<|DD x.hi y.lo true)from aX m2]:Bx.le (.cells 41<|jt<|Iv.mk (jk (jk (DD x.lo y.lo false)<|DD x.lo y.hi false)<|DD x.hi y.lo false) (jg (jg (DD x.lo y.lo true)<|DD x.lo y.hi true)<|DD x.hi y.lo true) false)<|.cells 41<|jt<|Iv.mk (jk (jk (jk (DD x.lo y.lo false)<|DD x.lo y.hi false)<|DD x.hi y.lo false)<|DD x.hi y.hi false) (jg (jg (jg (DD x.lo y.lo true)<|DD x.lo y.hi true)<|DD x.hi y.lo true)<|DD x.hi y.hi true) false)]))),
          iD ((((0+1)+1)+1)+1),ai 42 (decide ((((((0+1)+1)+1)+1):Int)<4)) aE]<|rQ (im<|Iv.mk (jk (jk (jk (DD x.lo y.lo false)<|DD x.lo y.hi false)<|DD x.hi y.lo false)<|DD x.hi y.hi false) (jg (jg (jg (DD x.lo y.lo true)<|DD x.lo y.hi true)<|DD x.hi y.lo true)<|DD x.hi y.hi true) false) (im<|oK DD EE x y)<|by rw[show oK DD EE x y=⟨jk (jk (jk (DD x.lo y.lo false)<|DD x.lo y.hi false)<|DD x.hi y.lo false)<|DD x.hi y.hi false,jg (jg (jg (DD x.lo y.lo true)<|DD x.lo y.hi true)<|DD x.hi y.lo true)<|DD x.hi y.hi true,false⟩from aY ⟨⟨k1,k2⟩,⟨k3,k4⟩,⟨k5,k6⟩,⟨k7,k8⟩⟩];try rfl)
         (λk8=>ae [iX (((0+1)+1)+1) 4,iX 0 2,iX 1 2,.c (hd _ _ (.inr rfl)<|.inr rfl:ic gd ((iw x.hi)::(iw y.hi)::(iP p)::[]) _),iX 0 2,iX 1 2,.c (hu _ _ (.inr rfl)<|.inr rfl:ic gu ((iw x.hi)::(iw y.hi)::(iP p)::[]) _),tB 66<|aV k7,tB 69<|aW k8,.c nu]<|rQ (im ik) (im<|oK DD EE x y)<|by rw[show oK DD EE x y=ik from aX<|by rintro⟨⟨q0,r0⟩,⟨q1,r1⟩,⟨q2,r2⟩,⟨q3,r3⟩⟩;exact k8 r3]))
        (λk7=>ae [iX (((0+1)+1)+1) 4,iX 0 2,iX 1 2,.c (hd _ _ (.inr rfl)<|.inr rfl:ic gd ((iw x.hi)::(iw y.hi)::(iP p)::[]) _),iX 0 2,iX 1 2,.c (hu _ _ (.inr rfl)<|.inr rfl:ic gu ((iw x.hi)::(iw y.hi)::(iP p)::[]) _),tB 66<|aW k7,.c nu]<|rQ (im ik) (im<|oK DD EE x y)<|by rw[show oK DD EE x y=ik from aX<|by rintro⟨⟨q0,r0⟩,⟨q1,r1⟩,⟨q2,r2⟩,⟨q3,r3⟩⟩;exact k7 q3]))
       (λk6=>ae [iX ((0+1)+1) 4,iX 0 2,iX 1 2,.c (hd _ _ (.inr rfl)<|.inl rfl:ic gd ((iw x.hi)::(iw y.lo)::(iP p)::[]) _),iX 0 2,iX 1 2,.c (hu _ _ (.inr rfl)<|.inl rfl:ic gu ((iw x.hi)::(iw y.lo)::(iP p)::[]) _),tB 66<|aV k5,tB 69<|aW k6,.c nu]<|rQ (im ik) (im<|oK DD EE x y)<|by rw[show oK DD EE x y=ik from aX<|by rintro⟨⟨q0,r0⟩,⟨q1,r1⟩,⟨q2,r2⟩,⟨q3,r3⟩⟩;exact k6 r2]))
      (λk5=>ae [iX ((0+1)+1) 4,iX 0 2,iX 1 2,.c (hd _ _ (.inr rfl)<|.inl rfl:ic gd ((iw x.hi)::(iw y.lo)::(iP p)::[]) _),iX 0 2,iX 1 2,.c (hu _ _ (.inr rfl)<|.inl rfl:ic gu ((iw x.hi)::(iw y.lo)::(iP p)::[]) _),tB 66<|aW k5,.c nu]<|rQ (im ik) (im<|oK DD EE x y)<|by rw[show oK DD EE x y=ik from aX<|by rintro⟨⟨q0,r0⟩,⟨q1,r1⟩,⟨q2,r2⟩,⟨q3,r3⟩⟩;exact k5 q2]))
     (λk4=>ae [iX (0+1) 4,iX 0 2,iX 1 2,.c (hd _ _ (.inl rfl)<|.inr rfl:ic gd ((iw x.lo)::(iw y.hi)::(iP p)::[]) _),iX 0 2,iX 1 2,.c (hu _ _ (.inl rfl)<|.inr rfl:ic gu ((iw x.lo)::(iw y.hi)::(iP p)::[]) _),tB 66<|aV k3,tB 69<|aW k4,.c nu]<|rQ (im ik) (im<|oK DD EE x y)<|by rw[show oK DD EE x y=ik from aX<|by rintro⟨⟨q0,r0⟩,⟨q1,r1⟩,⟨q2,r2⟩,⟨q3,r3⟩⟩;exact k4 r1]))
    (λk3=>ae [iX (0+1) 4,iX 0 2,iX 1 2,.c (hd _ _ (.inl rfl)<|.inr rfl:ic gd ((iw x.lo)::(iw y.hi)::(iP p)::[]) _),iX 0 2,iX 1 2,.c (hu _ _ (.inl rfl)<|.inr rfl:ic gu ((iw x.lo)::(iw y.hi)::(iP p)::[]) _),tB 66<|aW k3,.c nu]<|rQ (im ik) (im<|oK DD EE x y)<|by rw[show oK DD EE x y=ik from aX<|by rintro⟨⟨q0,r0⟩,⟨q1,r1⟩,⟨q2,r2⟩,⟨q3,r3⟩⟩;exact k3 q1]))
   (λk2=>ae [iX 0 4,iX 0 2,iX 1 2,.c (hd _ _ (.inl rfl)<|.inl rfl:ic gd ((iw x.lo)::(iw y.lo)::(iP p)::[]) _),iX 0 2,iX 1 2,.c (hu _ _ (.inl rfl)<|.inl rfl:ic gu ((iw x.lo)::(iw y.lo)::(iP p)::[]) _),tB 66<|aV k1,tB 69<|aW k2,.c nu]<|rQ (im ik) (im<|oK DD EE x y)<|by rw[show oK DD EE x y=ik from aX<|by rintro⟨⟨q0,r0⟩,⟨q1,r1⟩,⟨q2,r2⟩,⟨q3,r3⟩⟩;exact k2 r0]))
  (λk1=>ae [iX 0 4,iX 0 2,iX 1 2,.c (hd _ _ (.inl rfl)<|.inl rfl:ic gd ((iw x.lo)::(iw y.lo)::(iP p)::[]) _),iX 0 2,iX 1 2,.c (hu _ _ (.inl rfl)<|.inl rfl:ic gu ((iw x.lo)::(iw y.lo)::(iP p)::[]) _),tB 66<|aW k1,.c nu]<|rQ (im ik) (im<|oK DD EE x y)<|by rw[show oK DD EE x y=ik from aX<|by rintro⟨⟨q0,r0⟩,⟨q1,r1⟩,⟨q2,r2⟩,⟨q3,r3⟩⟩;exact k1 q0]))
end
def aoe{y:Iv}(hy:y.ig)(hs:mV y≠0):y.lo.m≠0/\y.hi.m≠0:=by
 unfold mV at hs;have ha:y.all=false:=by
  cases h:y.all with
  |false=>rfl
  |true=>rw[h]at hs;exact absurd rfl hs
 obtain⟨v1,v2,v3⟩:=vj hy ha;rw[ha]at hs;simp only[bC,bh]at hs;have z:∀ d:Dy,d.m=0->d.jc=0:=λd h=>by unfold Dy.jc;rw[aY h]
 have hc:=Ui y.lo y.hi;rw[hc]at v3;constructor
 .intro h0;have:=z _ h0;rw[this]at hs v3;split at hs
  .omega
  .split at hs
   .split at v3<;>omega
   .exact hs rfl
 .intro h0;have:=z _ h0;rw[this]at hs v3;split at hs
  .split at v3<;>omega
  .split at hs
   .omega
   .exact hs rfl
def afH(a b:Dy){p:Nat}(up:Bool)(hp:1<=p)(ie:p<=4096):(nK a b p up).ig:=by
 unfold nK;split
 .exact qu
 .exact tn _ _ _ _ _ _ hp ie
section
variable(x y:Iv)(p:Nat)(hx:x.ig)(hy:y.ig)
def qp(iu:8<=p:=by omega)(ie:p<=512:=by omega):ic 68 [im x,im y,iP p]<|im<|iL x y p:=by
 by_cases hk:(x.all||y.all)=true
 .exact iy<|ae [.o 9<|.e<|yE x y,.c<|Bh x y aD aD,ai 10 (!(x.all||y.all))<|by rw[hk];rfl,.c nu]<|rQ (im ik) (im<|iL x y p)<|by rw[show iL x y p=ik by unfold iL;rw[aY hk]]
 .replace hk:(x.all||y.all)=false:=by simpa using hk
  have kJ:x.all=false:=by cases h:x.all;rfl;rw[h]at hk;simp at hk
  have Cq:y.all=false:=by cases h:y.all;rfl;rw[h]at hk;simp at hk
  obtain⟨v1,v2,v3⟩:=vj hx kJ;obtain⟨v4,v5,v6⟩:=vj hy Cq;exact iy<|ae [.o 9<|.e<|yE x y,.c<|Bh x y aD aD,ah 10 (!(x.all||y.all))<|by rw[hk];rfl,.c<|xw (p:Int),ah 14 (kT (p:Int))<|pH.2 ⟨aC,aC⟩,.c<|XY x y p 120 121 (λa b up=>jN (mW a b) p up) (λa b up=>jC (mW a b) p up) (λa b ha hb=>Mj a b p (by rcases ha with rfl|rfl;exact v1;exact v2) (by rcases hb with rfl|rfl;exact v4;exact v5) iu ie) (λa b ha hb=>Mk a b p (by rcases ha with rfl|rfl;exact v1;exact v2) (by rcases hb with rfl|rfl;exact v4;exact v5) iu ie) λa b up=>tn _ _ _ _ _ _]<|rQ (im<|oK (λa b up=>jN (mW a b) p up) (λa b up=>jC (mW a b) p up) x y) (im<|iL x y p)<|by rw[show iL x y p=_ by unfold iL;rw[aX<|by rw[hk];decide]];rfl
def wm(iu:8<=p:=by omega)(ie:p<=512:=by omega):ic 99 [im x,im y,iP p]<|im<|jh x y p:=by
 by_cases hk:(x.all||y.all)=true
 .exact iy<|ae [.o 9<|.e<|yE x y,.c<|Bh x y aD aD,ai 10 (!(x.all||y.all))<|by rw[hk];rfl,.c nu]<|rQ (im ik) (im<|jh x y p)<|by rw[show jh x y p=ik by unfold jh;rw[aY<|by rw[hk];rfl]]
 .replace hk:(x.all||y.all)=false:=by simpa using hk
  have kJ:x.all=false:=by cases h:x.all;rfl;rw[h]at hk;simp at hk
  have Cq:y.all=false:=by cases h:y.all;rfl;rw[h]at hk;simp at hk
  obtain⟨v1,v2,v3⟩:=vj hx kJ;obtain⟨v4,v5,v6⟩:=vj hy Cq;by_cases hs:mV y=0
  .exact iy<|ae [.o 9<|.e<|yE x y,.c<|Bh x y aD aD,ah 10 (!(x.all||y.all))<|by rw[hk];rfl,.c<|xw (p:Int),ah 14 (kT (p:Int))<|pH.2 ⟨aC,aC⟩,.c<|LH y aD,ah 20 ((mV y)==0)<|by rw[hs];rfl,.c nu]<|rQ (im ik) (im<|jh x y p)<|by rw[show jh x y p=ik by unfold jh;rw[aY<|by rw[hk,aZ hs];rfl]]
  .obtain ⟨n1,n2⟩:=aoe hy hs;exact iy<|ae [.o 9<|.e<|yE x y,.c<|Bh x y aD aD,ah 10 (!(x.all||y.all))<|by rw[hk];rfl,.c<|xw (p:Int),ah 14 (kT (p:Int))<|pH.2 ⟨aC,aC⟩,.c<|LH y aD,ai 20 ((mV y)==0)<|by simpa using hs,.c<|XY x y p 169 170 (λa b up=>nK a b p up) (λa b up=>q6 a b p up) (λa b ha hb=>aac a b p (by rcases ha with rfl|rfl;exact v1;exact v2) (by rcases hb with rfl|rfl;exact v4;exact v5) (by rcases hb with rfl|rfl;exact n1;exact n2) iu ie) (λa b ha hb=>aad a b p (by rcases ha with rfl|rfl;exact v1;exact v2) (by rcases hb with rfl|rfl;exact v4;exact v5) (by rcases hb with rfl|rfl;exact n1;exact n2) iu ie) λa b up=>afH a b up aC aC]<|rQ (im<|oK (λa b up=>nK a b p up) (λa b up=>q6 a b p up) x y) (im<|jh x y p)<|by rw[show jh x y p=_ by unfold jh;rw[aX<|by rw[hk,a6 hs];decide]]
end
def ajS(d:RD)(h:d.Zero):ic 113 [tO d]<|bP true:=by
 obtain⟨h1,h2,h3⟩:=h;exact iy<|af [ai 4 d.neg h1,ah 10 ((d.L.length:Int)==0)<|sY<|by rw[h2];rfl,ah 15 (d.e==0)<|by rw[h3];rfl]
def X4(d:RD)(h:¬d.Zero):ic 113 [tO d]<|bP false:=by
 by_cases h1:d.neg=true
 .exact iy<|af [ah 4 d.neg h1]
 .replace h1:d.neg=false:=by simpa using h1
  by_cases h2:d.L=[]
  .have h3:¬d.e=0:=λq=>h ⟨h1,h2,q⟩
   exact iy<|af [ai 4 d.neg h1,ah 10 ((d.L.length:Int)==0)<|sY<|by rw[h2];rfl,ai 15 (d.e==0)<|by simpa using h3]
  .exact iy<|af [ai 4 d.neg h1,ai 10 ((d.L.length:Int)==0)<|nG λq=>h2<|ari.1 q]
section
variable(x:RI)(g:x.kz)
def ajR(h:x.Ok):ic 66 [yP x]<|bP true:=by
 have:=pe x.iv h.valid;rwa[<-Qc,h.eq g]at this
def ajQ(h:¬x.Ok):ic 66 [yP x]<|bP false:=by
 have ga:=g.lo;have gb:=g.hi;by_cases ha:x.all=true
 .by_cases h1:x.lo.Zero
  .have h2:¬x.hi.Zero:=λq=>h (.inl ⟨ha,h1,q⟩)
   exact iy<|af [ah 5 x.all ha,.c<|ajS x.lo h1,.c<|X4 x.hi h2]
  .exact iy<|af [ah 5 x.all ha,.c<|X4 x.lo h1]
 .replace ha:x.all=false:=by simpa using ha
  by_cases h1:x.lo.Ok
  .by_cases h2:x.hi.Ok
   .have h3:¬jm x.lo.dy x.hi.dy<=0:=λq=>h (.inr ⟨ha,h1,h2,q⟩)
    have v1:=h1.valid;have v2:=h2.valid;have e1:yP x=im x.iv:=by rw[<-Qc,show x.iv.raw=x by show RI.mk x.lo.dy.raw x.hi.dy.raw x.all=x;rw[h1.eq ga,h2.eq gb]]
    rw[e1];exact iy<|af [ai 5 x.iv.all ha,.c<|qk x.iv.lo aD,.c<|qk x.iv.hi aD,.c<|mF x.iv.lo x.iv.hi aD aD,tB 30<|a6 h3]
   .exact iy<|af [ai 5 x.all ha,.c<|Dc x.lo aD true<|by simp[h1],.c<|Dc x.hi aD false<|by simp[h2]]
  .exact iy<|af [ai 5 x.all ha,.c<|Dc x.lo aD false<|by simp[h1]]
def X3:ic 66 [yP x]<|bP<|sF x:=by
 by_cases h:x.Ok
 .rw [Ab.2 h];exact ajR x g h
 .rw [show sF x=false by simpa using λq=>h<|Ab.1 q];exact ajQ x g h
def akL:ic 248 [yP x,(.ji 1 λj_=>[.fn 66 []].getD j_ .any)]<|bP<|!(sF x):=
 iy (af [.c<|X3 x aD])
end
def akK(r:List RI)(m:List<|List RI)(gr:∀ j,(r.getD j mq).kz)(hr:r.length<=1000000)(hm:0<m.length):ic 247 [oe r,(.ji 1 λj_=>[Ef m].getD j_ .any),(.ji 1 λj_=>[.fn 66 []].getD j_ .any)]<|bP<|decide (r.length≠(m.getD 0 []).length)||((List.range<|r.length).any λj=>!(sF<|r.getD j mq)):=by
 by_cases h:r.length=(m.getD 0 []).length
 .exact iy<|ae [iX 0<|m.length,ai 11 ((r.length:Int) != ((m.getD 0 []).length:Int))<|vt h,.c (II true _ _ 248 _ (λj=>!(sF<|r.getD j mq)) λj hj=>akL _<|gr j:ic 39 [oe r,.fn 248 [(.ji 1 λj_=>[.fn 66 []].getD j_ .any)]] _)]<|rQ (bP<|(List.range<|r.length).any λj=>!(sF<|r.getD j mq)) (bP<|decide (r.length≠(m.getD 0 []).length)||((List.range<|r.length).any λj=>!(sF<|r.getD j mq)))<|by rw[a6<|arp h];rfl
 .exact iy<|ae [iX 0<|m.length,ah 11 ((r.length:Int) != ((m.getD 0 []).length:Int))<|ala h]<|rQ (bP true) (bP<|decide (r.length≠(m.getD 0 []).length)||((List.range<|r.length).any λj=>!(sF<|r.getD j mq)))<|by rw[aZ h];rfl
section
variable(m:List<|List RI)(g:Gz m)(hl:m.length<=1000000)(A8:∀ i,(m.getD i []).length<=1000000)
def akM:ic 199 [Ef m,.fn 66 []]<|bP<|yH m:=by
 by_cases h1:m.length<1
 .exact iy<|ae [tT 7 ((m.length:Int)<1) aC]<|rQ (bP false) (bP<|yH m)<|by rw[IX (λq=>by have:=q.n1;omega)]
 .by_cases h2:8<m.length
  .exact iy<|ae [tF 7 ((m.length:Int)<1) aC,tT 11 (8<(m.length:Int)) aC]<|rQ (bP false) (bP<|yH m)<|by rw[IX (λq=>by have:=q.n8;omega)]
  .by_cases h3:(m.getD 0 []).length<1
   .exact iy<|ae [tF 7 ((m.length:Int)<1) aC,tF 11 (8<(m.length:Int)) aC,iX 0<|m.length,tT 18 (((m.getD 0 []).length:Int)<1) aC]<|rQ (bP false) (bP<|yH m)<|by rw[IX (λq=>by have:=q.k1;omega)]
   .by_cases h4:8<(m.getD 0 []).length
    .exact iy<|ae [tF 7 ((m.length:Int)<1) aC,tF 11 (8<(m.length:Int)) aC,iX 0<|m.length,tF 18 (((m.getD 0 []).length:Int)<1) aC,iX 0<|m.length,tT 25 (8<((m.getD 0 []).length:Int)) aC]<|rQ (bP false) (bP<|yH m)<|by rw[IX (λq=>by have:=q.k8;omega)]
    .have hb:yH m = !((List.range m.length).any λi=>decide ((m.getD i []).length≠(m.getD 0 []).length)||((List.range<|(m.getD i []).length).any λj=>!(sF<|(m.getD i []).getD j mq))):=by
      by_cases hk:GF m
      .rw [Qv.2 hk];symm;rw[di,cF];intro i hi;have hi:=bS.1 hi;have DL:decide ((m.getD i []).length≠(m.getD 0 []).length)=false:=a6<|arp<|hk.row i hi;rw[DL,fi,aqV,cF];intro j hj;rw[Ab.2<|hk.ok i hi j<|bS.1 hj];decide
      .rw [IX hk];symm;rw[arq];apply bQ;intro hc;rw[aqV,cF]at hc;refine hk ⟨aC,aC,aC,aC,λi hi=>?_,λi hi j hj=>?_⟩
       .have:=hc i<|bS.2 hi;simp only[cQ,decide_not,dz,not_or,aqV,arq,cz]at this;exact this.1
       .have:=hc i<|bS.2 hi;simp only[cQ,decide_not,dz,not_or,aqV,arq,cz]at this;have:=cF.1 this.2 j<|bS.2 hj;exact Ab.1<|by simpa using this
     exact iy<|ae [tF 7 ((m.length:Int)<1) aC,tF 11 (8<(m.length:Int)) aC,iX 0<|m.length,tF 18 (((m.getD 0 []).length:Int)<1) aC,iX 0<|m.length,tF 25 (8<((m.getD 0 []).length:Int)) aC,.c (Mv true _ _ 247 _ (λi=>decide ((m.getD i []).length≠(m.getD 0 []).length)||((List.range<|(m.getD i []).length).any λj=>!(sF<|(m.getD i []).getD j mq))) λi hi=>akK _ _ (λj=>g.at i j) (A8 i) aC:ic 159 [Ef m,.fn 247 [(.ji 1 λj_=>[Ef m].getD j_ .any),(.ji 1 λj_=>[.fn 66 []].getD j_ .any)]] _)]<|rQ (bP<|!((List.range m.length).any λi=>decide ((m.getD i []).length≠(m.getD 0 []).length)||((List.range<|(m.getD i []).length).any λj=>!(sF<|(m.getD i []).getD j mq)))) (bP<|yH m)<|by rw[hb]
def akN:ic 122 [Ef m]<|bP<|yH m:=
 iy (af [.c<|akM m g aC A8])
end
end Go.Proofs.YtjkmahljfblobaaGreatDoor
namespace Go.Proofs.YtjkmahljfblobaaGreatDoor.Fp
def jx(d:Dy)(p:Nat)(up:Bool):Nat->Dy×Int
 | 0=>(jN d p up,jC d p up)
 |k+1=>if(jx d p up k).2≠0 then jx d p up k else(jN (wC (jx d p up k).1 d) p up,jC (wC (jx d p up k).1 d) p up)
def lk(d:Dy)(n p:Nat)(up:Bool):Dy×Int:=if d.jc<0 then(jo (jx (jo d) p (!up)<|n-1).1,(jx (jo d) p (!up)<|n-1).2)else jx d p up (n-1)
def vz(x:Iv)(n:Nat):Iv:=if n%2=0 then iW x else x
def qU(x:Iv)(n p:Nat):Iv:=
 if x.all then ik else if n=0 then iJ ⟨false,1,0⟩
 else lH (lk (vz x n).lo n p false).1 (lk (vz x n).lo n p false).2 (lk (vz x n).hi n p true).1 (lk (vz x n).hi n p true).2
def og(r:Rat):Nat->Rat
 | 0=>1
 |n+1=>og r n*r
def Ek{r:Rat}(h:0<=r):∀ n,0<=og r n
 | 0=>by show(0:Rat)<=1;decide
 |n+1=>bH (Ek h n) h
def JA{a b:Rat}(h0:0<=a)(h:a<=b):∀ n,og a n<=og b n
 | 0=>bV
 |n+1=>by
  have ih:=JA h0 h n;have m1:=b8 ih h0;have m2:=bY h<|Ek (bw h0 h) n;exact bw m1 m2
def Ej(r:Rat):∀ n,og (-r) n=if n%2=0 then og r n else -og r n
 | 0=>rfl
 |n+1=>by
  have ih:=Ej r n;simp only[og,ih];have:n%2=0\/n%2=1:= aC ;rcases this with h|h
  .have h':(n+1)%2=1:= aC ;rw[h,h'];simp;grind
  .have h':(n+1)%2=0:= aC ;rw[h,h'];simp;grind
def RN{a b:Rat}{n:Nat}(hn:n%2=1)(h:a<=b):og a n<=og b n:=by
 by_cases h0:0<=a
 .exact JA h0 h n
 .have ea:=Ej (-a) n;rw[fX,hn]at ea;simp only[aqW,bh]at ea;by_cases hb:0<=b
  .have h1:=Ek (show 0 <= -a by grind) n;have h2:=Ek hb n
   grind
  .have eb:=Ej (-b) n;rw[fX,hn]at eb;simp only[aqW,bh]at eb;have:=JA (show 0 <= -b by grind) (show -b <= -a by grind) n
   grind
def Rh{d:Dy}(hd:d.mi)(h0:0<=d.q){p:Nat}(hp:1<=p)(ie:p<=4096):∀ k,(jx d p false k).2=0->0<=(jx d p false k).1.q/\(jx d p false k).1.q<=og d.q (k+1)
 | 0,he=>by
  have A:=yQ hd hp ie;refine⟨(A.2 0 (.inl<|Ap p) h0).2,?_⟩;have:=(A.1 he).2;simp only[og,er];exact this
 |k+1,he=>by
  by_cases hk:(jx d p false k).2≠0
  .exfalso;simp only[jx,aY hk]at he;exact hk he
  .have ux:(jx d p false k).2=0:= aC ;obtain⟨i1,i2⟩:=Rh hd h0 hp ie k ux;have A:=yQ (BX (jx d p false k).1 d) hp ie;rw[F4]at A;simp only[jx,aX hk]at he ⊢;refine⟨(A.2 0 (.inl<|Ap p)<|bH i1 h0).2,?_⟩;have h1:=(A.1 he).2;have h2:=b8 i2 h0;exact bw h1 h2
def Rj{d:Dy}(hd:d.mi)(h0:0<=d.q){p:Nat}(hp:1<=p)(ie:p<=4096):∀ k,(jx d p true k).2=0->og d.q (k+1)<=(jx d p true k).1.q
 | 0,he=>by
  have A:=vD hd hp ie;have:=(A.1 he).2;simp only[og,er];exact this
 |k+1,he=>by
  by_cases hk:(jx d p true k).2≠0
  .exfalso;simp only[jx,aY hk]at he;exact hk he
  .have ux:(jx d p true k).2=0:= aC ;have i2:=Rj hd h0 hp ie k ux;have A:=vD (BX (jx d p true k).1 d) hp ie;rw[F4]at A;simp only[jx,aX hk]at he ⊢;have h1:=(A.1 he).2;have h2:=b8 i2 h0;exact bw h2 h1
section
variable{d:Dy}(hd:d.mi){n p:Nat}(hn:1<=n)(hs:0<=d.q\/n%2=1)(hp:1<=p)(ie:p<=4096)
def ago(he:(lk d n p false).2=0):(lk d n p false).1.q<=og d.q n:=by
 unfold lk at he ⊢;by_cases h:d.jc<0
 .rw [aY h]at he ⊢;have hq:=(rX d).2.1 h;have Cn:=hs.resolve_left aK;have:=Rj (LW hd) (by rw[pt];grind) hp ie (n-1) he;rw[(aC:n-1+1=n),pt,Ej,Cn]at this;simp only[aqW,bh]at this;show(jo _).q<=_;rw[pt];simp only[eH]
  grind
 .rw [aX h]at he ⊢;have h0:0<=d.q:=by
   apply dt.1;intro iE;exact h<|(rX d).2.2 iE
  have:=(Rh hd h0 hp ie (n-1) he).2;rwa[(aC:n-1+1=n)]at this
def agp(he:(lk d n p true).2=0):og d.q n<=(lk d n p true).1.q:=by
 unfold lk at he ⊢;by_cases h:d.jc<0
 .rw [aY h]at he ⊢;have hq:=(rX d).2.1 h;have Cn:=hs.resolve_left aK;have:=(Rh (LW hd) (by rw[pt];grind) hp ie (n-1) he).2;rw[(aC:n-1+1=n),pt,Ej,Cn]at this;simp only[aqW,bh]at this;show _<=(jo _).q;rw[pt];simp only[fF]
  grind
 .rw [aX h]at he ⊢;have h0:0<=d.q:=by
   apply dt.1;intro iE;exact h<|(rX d).2.2 iE
  have:=Rj hd h0 hp ie (n-1) he;rwa[(aC:n-1+1=n)]at this
end
def amj{x:Iv}(hx:x.ig){n p:Nat}(hp:1<=p)(ie:p<=4096){r:Rat}(h:x.jr r):(qU x n p).jr<|og r n:=by
 unfold qU;cases xa:x.all
 .simp only[bC,bh];by_cases hn:n=0
  .rw [aY hn];subst hn;have e:(⟨false,1,0⟩:Dy).q=1:= aL ;refine .inr ⟨?_,?_⟩
   .show (⟨false,1,0⟩:Dy).q<=1;rw[e];exact bV
   .show 1<=(⟨false,1,0⟩:Dy).q;rw[e];exact bV
  .rw [aX hn];obtain⟨s,hs,vf,hsn⟩:∃ s,(vz x n).jr s/\(n%2=0->0<=(vz x n).lo.q/\0<=s)/\og r n=og s n:=by
    unfold vz;by_cases pZ:n%2=0
    .rw [aY pZ];have hl:0<=(iW x).lo.q:=by
      unfold iW;rw[xa];show 0<=(oN x).q;unfold oN;split
      .rw [s6];exact bV
      .obtain ⟨_,_,m⟩:=CI (my x.lo)<|my x.hi;rcases m with m|m<;>rw[m]
       .exact (Bs x.lo).1
       .exact (Bs x.hi).1
     by_cases hr:0<=r
     .exact ⟨r,GG hx h<|.inl ⟨rfl,hr⟩,λ_=>⟨hl,hr⟩,rfl⟩
     .refine ⟨-r,GG hx h<|.inr ⟨rfl,aK⟩,λ_=>⟨hl,aK⟩,?_⟩;rw[Ej,aY pZ]
    .rw [aX pZ];exact⟨r,h,λq=>absurd q pZ,rfl⟩
   have Bb:(vz x n).ig:=by unfold vz;split;exact xV hx;exact hx
   have ya:(vz x n).all=false:=by
    unfold vz;split
    .unfold iW;rw[xa];rfl
    .exact xa
   rw[hsn];generalize vz x n=y at *
   obtain⟨s1,s2⟩:=hs.jj ya;obtain⟨c1,c2⟩:=Bb.vK;unfold lH;split
   .exact .inl rfl
   .rename_i he;have Cn:¬n%2=0->n%2=1:=λq=> aC 
    refine .inr ⟨?_,?_⟩
    .refine bw (ago c1 aC ?_ hp ie aC) ?_
     .by_cases pZ:n%2=0
      .exact .inl (vf pZ).1
      .exact .inr<|Cn pZ
     .by_cases pZ:n%2=0
      .exact JA (vf pZ).1 s1 n
      .exact RN (Cn pZ) s1
    .refine bw ?_ (agp c2 aC ?_ hp ie aC)
     .by_cases pZ:n%2=0
      .exact JA (vf pZ).2 s2 n
      .exact RN (Cn pZ) s2
     .by_cases pZ:n%2=0
      .exact .inl<|bw (vf pZ).2 s2
      .exact .inr<|Cn pZ
 .rw [aY rfl];exact .inl rfl
end Go.Proofs.YtjkmahljfblobaaGreatDoor.Fp
namespace Go.Proofs.YtjkmahljfblobaaGreatDoor
open Go.RowKit Fp Pu
structure kZ where
 kind:Nat
 a:Nat
 b:Nat
 n:Nat
 cn:Int
 cd:Int
structure nC where
 iH:Nat
 ij:List kZ
 iB:List Nat
structure kp where
 tape:nC
 iN:Nat
 params:List Iv
def ja:kZ:=⟨0,0,0,0,0,0⟩
def F0(o:kZ):List E:=[iP (o.kind:Int),iP (o.a:Int),iP (o.b:Int),iP (o.n:Int),iP o.cn,iP o.cd]
def Ad(o:kZ):E:=.agg<|F0 o
def mo(l:List kZ):E:=.sl true l.length 6 λi j=>(F0<|l.getD i ja).getD j .any
def mg(l:List Nat):E:=.sl true l.length 1 λi _=>iP (l.getD i 0:Int)
def ao4(t:nC):List E:=[iP (t.iH:Int),mo t.ij,mg t.iB]
def Gk(t:nC):E:=.agg<|ao4 t
def aoK(s:kp):List E:=[iP (s.tape.iH:Int),mo s.tape.ij,mg s.tape.iB,iP (s.iN:Int),iA s.params]
def j8(s:kp):E:=.agg<|aoK s
def qt(n d:Int):Bool:=decide (1<=d)&&(decide (d<=1073741824)&&(decide (-1073741824<=n)&&(decide (n<=1073741824)&&decide (Nat.gcd n.natAbs d.natAbs=1))))
def Ro{n d:Int}(h:qt n d=true):1<=d/\d<=1073741824 /\ -1073741824<=n/\n<=1073741824:=by
 unfold qt at h;simp only[bD,cz]at h;exact⟨h.1,h.2.1,h.2.2.1,h.2.2.2.1⟩
def Hn(f:FuncId)(x:Iv)(p:Nat):Prop:=∃ y:Iv,y.ig/\ic f [im x,iP (p:Int)] (im y)
def xP:Prop:=∀ (x:Iv) (p:Nat),x.ig->8<=p->p<=512->Hn 67 x p/\Hn 318 x p/\Hn 319 x p/\Hn 320 x p/\Hn 321 x p
structure oj(o:kZ)(m:Nat):Prop where
 k3:o.kind=1\/3<=o.kind
 Cu:o.kind<=13
 a:if o.kind=1 then o.a=0 else o.a<m
 b:if 3<=o.kind/\o.kind<=6 then o.b<m else o.b=0
 n:if o.kind=8 then o.n<=16 else o.n=0
 c:if o.kind=1 then qt o.cn o.cd=true else o.cn=0/\o.cd=0
 f:o.kind<=8\/xP
structure BM(t:nC):Prop where
 iH:t.iH<=8
 ij:t.ij.length<=200
 iB:t.iB.length<=200
 op:∀ i,i<t.ij.length->oj (t.ij.getD i ja) (t.iH+i)
 out:∀ i,i<t.iB.length->t.iB.getD i 0<t.iH+t.ij.length
def qN(l:List Iv):Prop:=∀ i,i<l.length->(l.getD i ik).ig/\(l.getD i ik).all=false
structure mD(s:kp):Prop where
 tape:BM s.tape
 s1:1<=s.iN
 s4:s.iN<=4
 iB:s.tape.iB.length=s.iN
 iH:s.tape.iH=s.iN+s.params.length
 p4:s.params.length<=4
 params:qN s.params
structure kH(n:Nat)(b:List Iv):Prop where
 len:b.length=n
 ok:qN b
def nD(l:List Iv):Bool:=(List.range l.length).any λi=>(l.getD i ik).all
def mK(h:Dy):Iv:=⟨iR,h,false⟩
def P6(x f:List Iv)(h:Dy)(p i:Nat):Iv:=je (x.getD i ik) (iL (mK h) (f.getD i ik) p) p
def Bf(x f:List Iv)(h:Dy)(p:Nat):List Iv:=(List.range x.length).map<|P6 x f h p
def abl{h:Dy}(hv:h.ig)(h0:0<=h.q):(mK h).ig:=.inr ⟨rfl,qu,hv,by show jm iR h<=0;rw[pg,s6];exact h0⟩
def wF(d:Dy){p:Nat}(hp:1<=p)(ie:p<=4096)(up:Bool):(jN d p up).ig:=tn _ _ _ _ _ _ hp ie
def Br(d:Dy){p:Nat}(hp:1<=p)(ie:p<=4096)(up:Bool):∀ k,(jx d p up k).1.ig
 | 0=>wF _ hp ie _
 |k+1=>by
  unfold jx;split
  .exact Br d hp ie up k
  .exact wF _ hp ie _
def Vc(d:Dy)(n:Nat){p:Nat}(hp:1<=p)(ie:p<=4096)(up:Bool):(lk d n p up).1.ig:=by
 unfold lk;split
 .exact xD<|Br _ hp ie _ _
 .exact Br _ hp ie _ _
def ZC:canon false 1 0=⟨false,1,0⟩:=by
 have h1:(canon false 1 0).neg=false:= aL ;have h2:(canon false 1 0).m=1:= aL ;have h3:(canon false 1 0).e=0:= aL ;generalize canon false 1 0=d at *
 cases d;simp_all
def FZ:(⟨false,1,0⟩:Dy).ig:=by
 have h2:nj<|canon false 1 0:= aL ;rw[<-ZC];exact⟨tl _ _ _,h2⟩
def Z0{x:Iv}(hx:x.ig)(n:Nat){p:Nat}(hp:1<=p)(ie:p<=4096):(qU x n p).ig:=by
 have hh:=amj hx (n:=n) hp ie hx.zi;revert hh;unfold qU;split
 .intro _;exact kR
 .split
  .intro _;exact oP FZ
  .unfold lH;split
   .intro _;exact kR
   .intro hh;obtain⟨h1,h2⟩:=hh.jj rfl;exact .inr ⟨rfl,Vc _ _ hp ie _,Vc _ _ hp ie _,(pg _ _).2<|bw h1 h2⟩
def pC(l:List Iv):Prop:=∀ i,(l.getD i ik).ig
def pC.push{l:List Iv}(h:pC l){y:Iv}(hy:y.ig):pC<|l++[y]:=λi=>by
 rw[bc,eG];split
 .have:=h i;rwa[bc]at this
 .rcases i-l.length with _|j
  .exact hy
  .exact kR
def qN.Sn{l:List Iv}(h:qN l):pC l:=λi=>by
 by_cases hi:i<l.length
 .exact (h i hi).1
 .rw [bc,bX aC];exact kR
def pC.append{l r:List Iv}(h:pC l)(k:pC r):pC<|l++r:=λi=>by
 rw[bc,eG];split
 .have:=h i;rwa[bc]at this
 .have:=k<|i-l.length;rwa[bc]at this
def aiC{l:List Iv}(h:nD l=false)(v:pC l):qN l:=λi hi=>⟨v i,by simpa using List.any_eq_false.1 h i (bS.2 hi)⟩
def ajn{x f:List Iv}{h:Dy}(hx:pC x){p:Nat}(hp:1<=p)(ie:p<=4096)(i:Nat):(P6 x f h p i).ig:=nS (hx i) (lE _ _ hp ie) hp ie
def LF(x f:List Iv)(h:Dy)(p:Nat):(Bf x f h p).length=x.length:=by simp[Bf]
def LD{x f:List Iv}{h:Dy}{p i:Nat}(hi:i<x.length):(Bf x f h p).getD i ik=P6 x f h p i:=by
 simp[Bf,bc,hi]
def ajo{x f:List Iv}{h:Dy}(hx:pC x){p:Nat}(hp:1<=p)(ie:p<=4096):pC<|Bf x f h p:=λi=>by
 by_cases hi:i<x.length
 .rw [LD hi];exact ajn hx hp ie i
 .rw [bc,bX<|by rw[LF];omega];exact kR
def wi(a b:List Iv):Bool:=(List.range a.length).all λi=>zG (a.getD i ik)<|b.getD i ik
def wY(x:Iv)(d:Dy):Bool:=decide (mN (iM x.lo<|jo d)=0)&&decide (mN (iM x.hi d)=0)
def rq(x:Iv)(d:Dy):Iv:=⟨kQ<|iM x.lo<|jo d,kQ<|iM x.hi d,false⟩
def rZ(x:List Iv)(d:Dy):Bool:=(List.range x.length).all λi=>wY (x.getD i ik) d
def su(x:List Iv)(d:Dy):List Iv:=if rZ x d then(List.range x.length).map λi=>rq (x.getD i ik) d else[]
def q8(x y:Iv):Iv:=if x.all||y.all then ik else⟨jk x.lo y.lo,jg x.hi y.hi,false⟩
def ns(x y:List Iv):List Iv:=(List.range x.length).map λi=>q8 (x.getD i ik)<|y.getD i ik
def po(x:Iv)(p:Nat):Dy:=jN (iM x.hi<|jo x.lo) p true
def wN(x:Iv)(p:Nat):Int:=jC (iM x.hi<|jo x.lo) p true
def oh(x:List Iv)(p:Nat):Nat->Dy
 | 0=>iR
 |k+1=>if 0<jm (po (x.getD k ik) p) (oh x p k)then po (x.getD k ik) p else oh x p k
def JT(x:List Iv)(p:Nat):Bool:=(List.range x.length).all λi=>decide (wN (x.getD i ik) p=0)
def Xj{x y:Iv}(hx:x.ig)(hy:y.ig):(q8 x y).ig:=by
 unfold q8;cases xa:x.all
 .cases ya:y.all
  .obtain ⟨x1,x2⟩:x.lo.ig/\x.hi.ig:=hx.jj;obtain⟨y1,y2⟩:y.lo.ig/\y.hi.ig:=hy.jj;refine .inr ⟨rfl,xz x1 y1,uM x2 y2,?_⟩;rw[pg];have hq:=hx.q;obtain⟨a1,a2,_⟩:=CI x.lo y.lo;obtain⟨b1,b2,_⟩:=Bt x.hi y.hi
   grind
  .exact kR
 .exact kR
def Xi{x y:List Iv}{n:Nat}(hx:kH n x)(hy:kH n y):kH n<|ns x y:=by
 refine⟨by simp[ns,hx.len],λi hi=>?_⟩;have lg:i<x.length:=by simpa[ns]using hi
 have e:(ns x y).getD i ik=q8 (x.getD i ik) (y.getD i ik):=by simp[ns,bc,lg]
 obtain⟨v1,a1⟩:=hx.ok i lg;obtain⟨v2,a2⟩:=hy.ok i (by rw[hy.len,<-hx.len];exact lg);rw[e];refine⟨Xj v1 v2,?_⟩;unfold q8;rw[a1,a2];rfl
def aip{x:Iv}(hx:x.ig){d:Dy}(hd:d.ig)(h0:0<=d.q)(h:wY x d=true):(rq x d).ig:=by
 unfold wY at h;rw[bD,cz,cz]at h;obtain⟨h1,h2⟩:=h;have r1:nj<|iM x.lo<|jo d:=bQ λq=>by rw[Ks q]at h1;cases h1
 have r2:nj<|iM x.hi d:=bQ λq=>by rw[Ks q]at h2;cases h2
 obtain⟨c1,c2⟩:=hx.vK;unfold rq;refine .inr ⟨rfl,NQ<|xY c1 (xD hd).canon,NQ<|xY c2 hd.canon,?_⟩;show jm (kQ _) (kQ _)<=0;rw[BY r1,BY r2,pg,Jr,Jr,pt];have:=hx.q
 grind
def ON{x:List Iv}{n:Nat}(hx:kH n x){d:Dy}(hd:d.ig)(h0:0<=d.q)(h:rZ x d=true):kH n<|su x d:=by
 unfold su;rw[aY h];refine⟨by simp[hx.len],λi hi=>?_⟩;have lg:i<x.length:=by simpa using hi
 have e:((List.range x.length).map λi=>rq (x.getD i ik) d).getD i ik=rq (x.getD i ik) d:=by simp[bc,lg]
 rw[e];exact⟨aip (hx.ok i lg).1 hd h0<|bR.1 h i<|bS.2 lg,rfl⟩
def Tx(d:Dy)(n p:Nat)(x:Nat):PS:=⟨41,true,[(14,.e<|iP ((x+1:Nat):Int)),(13,.e<|iP<|(jx d p false x).2),(12,.box 12 0),(10,.box 10 0),(5,.box 5 0),(1,.e<|iP n),(2,.e<|iP p),(4,.e<|.fn 120 [])],[(12,.cells 37<|jf<|(jx d p false x).1),(10,.cells 37 ar),(5,.cells 37<|jf d)]⟩
def Ty(d:Dy)(n N p:Nat)(x:Nat):PS:=⟨41,true,[(14,.e<|iP ((x+1:Nat):Int)),(13,.e<|iP<|(jx d p false x).2),(12,.box 12 0),(10,.box 10 0),(5,.box 5 0),(1,.e<|iP n),(2,.e<|iP p),(4,.e<|.fn 120 [])],[(12,.cells 37<|jf<|(jx d p false x).1),(10,.cells 37 ar),(5,.cells 37<|jf d)]⟩
def Tz(d:Dy)(n p:Nat)(x:Nat):PS:=⟨41,true,[(14,.e<|iP ((x+1:Nat):Int)),(13,.e<|iP<|(jx d p true x).2),(12,.box 12 0),(10,.box 10 0),(5,.box 5 0),(1,.e<|iP n),(2,.e<|iP p),(4,.e<|.fn 121 [])],[(12,.cells 37<|jf<|(jx d p true x).1),(10,.cells 37 ar),(5,.cells 37<|jf d)]⟩
def TA(d:Dy)(n N p:Nat)(x:Nat):PS:=⟨41,true,[(14,.e<|iP ((x+1:Nat):Int)),(13,.e<|iP<|(jx d p true x).2),(12,.box 12 0),(10,.box 10 0),(5,.box 5 0),(1,.e<|iP n),(2,.e<|iP p),(4,.e<|.fn 121 [])],[(12,.cells 37<|jf<|(jx d p true x).1),(10,.cells 37 ar),(5,.cells 37<|jf d)]⟩
def ER(s:Bool)(m:Nat)(e:Int)(hl:(ib m).length<=256)(mO:-1000000<=e:=by omega)(lL:e<=1000000:=by omega):ic 123 [bP s,il<|ib m,iP e]<|iw<|canon s m e:=by
 refine⟨call123,λw B vs hK hB hr=>?_⟩;obtain⟨v1,vs,rfl,h1,hr⟩:=hr.mY;obtain⟨v2,vs,rfl,h2,hr⟩:=hr.mY;obtain⟨v3,vs,rfl,h3,hr⟩:=hr.mY;obtain rfl:=hr.re;obtain rfl:=iI.kG h1;obtain rfl:=iI.kG h3;obtain⟨A,c,rfl,s1⟩:=Aj (mJ m) h2;exact(T6 s m e A c w s1 hl mO lL hK).mono λe w' h=>rd B w e w' hB h
def Kg(d:Dy)(hl:(ib d.m).length<=100000000)(mO:-10000000<=d.e)(lL:d.e<=10000000):ic 184 [iw d]<|.ix [iw<|kQ d,iP<|mN d]:=
 Eb call184 (λA c w h _=>aeZ d A c w h aC aC aC) Rt
def TB(m n:Nat)(hl:(ib m).length<=256)(hn:n<=65536)(hf:(ib<|m*2^n).length<=256):ic 206 [il<|ib m,iP n]<|il<|ib<|m*2^n:=
 iy (af [.c<|QI m n hl hn hf])
def Te{m n:Nat}:kI m n<0↔m<n:=by unfold kI;split<;>(try split)<;>omega
def Td{m n:Nat}:¬kI m n<0↔n<=m:=by unfold kI;split<;>(try split)<;>omega
section
variable(a b:Dy)
noncomputable def abu(ha:a.ig)(hb:b.ig)(a0:a.m≠0)(b0:b.m≠0)(k:Int)(hk:min a.e b.e=k)(la:(ib a.m).length<=256)(lb:(ib b.m).length<=256)(e1:-16384<=k)(e2:a.e<=16384)(e3:b.e<=16384)(fa:(ib<|a.m*2^(a.e-k).toNat).length<=256)(fb:(ib<|b.m*2^(b.e-k).toNat).length<=256)(fab:(ib<|(a.m*2^(a.e-k).toNat)+(b.m*2^(b.e-k).toNat)).length<=256)(fx:(ib<|(a.m*2^(a.e-k).toNat)-(b.m*2^(b.e-k).toNat)).length<=256)(fy:(ib<|(b.m*2^(b.e-k).toNat)-(a.m*2^(a.e-k).toNat)).length<=256)(K6:a.neg=b.neg->iM a b=canon a.neg ((a.m*2^(a.e-k).toNat)+(b.m*2^(b.e-k).toNat)) k)(K7:a.neg≠b.neg->(b.m*2^(b.e-k).toNat)<=(a.m*2^(a.e-k).toNat)->iM a b=canon a.neg ((a.m*2^(a.e-k).toNat)-(b.m*2^(b.e-k).toNat)) k)(K8:a.neg≠b.neg->(a.m*2^(a.e-k).toNat)<(b.m*2^(b.e-k).toNat)->iM a b=canon b.neg ((b.m*2^(b.e-k).toNat)-(a.m*2^(a.e-k).toNat)) k):Tr prog Tb:=
  ae [iD<|a.e-k,.o 70<|aq (a.e-k) ((a.e-k).toNat:Int),.c<|TB a.m (a.e-k).toNat la aC fa,iD<|b.e-k,.o 77<|aq (b.e-k) ((b.e-k).toNat:Int),.c<|TB b.m (b.e-k).toNat lb aC fb]<|.w (a.neg=b.neg)
  (λk1=>ae [tB 83<|aT k1,.c<|I6 (a.m*2^(a.e-k).toNat) (b.m*2^(b.e-k).toNat) fa fb fab,.c<|ER a.neg ((a.m*2^(a.e-k).toNat)+(b.m*2^(b.e-k).toNat)) k fab,.c<|Kg (canon a.neg ((a.m*2^(a.e-k).toNat)+(b.m*2^(b.e-k).toNat)) k) (by have h:=AF a.neg ((a.m*2^(a.e-k).toNat)+(b.m*2^(b.e-k).toNat)) k fab;omega) (by have h:=AF a.neg ((a.m*2^(a.e-k).toNat)+(b.m*2^(b.e-k).toNat)) k fab;omega)<|by have h:=AF a.neg ((a.m*2^(a.e-k).toNat)+(b.m*2^(b.e-k).toNat)) k fab;omega]<|rQ (.ix [iw<|kQ<|canon a.neg ((a.m*2^(a.e-k).toNat)+(b.m*2^(b.e-k).toNat)) k,iP<|mN<|canon a.neg ((a.m*2^(a.e-k).toNat)+(b.m*2^(b.e-k).toNat)) k]) (.ix [iw<|kQ<|iM a b,iP<|mN<|iM a b])<|by rw[K6 k1])
  (λk1=>ae [tB 83<|aS k1,.c<|zW (a.m*2^(a.e-k).toNat)<|b.m*2^(b.e-k).toNat]<|.w ((kI (a.m*2^(a.e-k).toNat)<|b.m*2^(b.e-k).toNat)<0)
   (λk2=>ae [tB 101<|aZ k2,.c<|D8 (b.m*2^(b.e-k).toNat) (a.m*2^(a.e-k).toNat) fb fa<|dq<|Te.1 k2,.c<|ER b.neg ((b.m*2^(b.e-k).toNat)-(a.m*2^(a.e-k).toNat)) k fy,.c<|Kg (canon b.neg ((b.m*2^(b.e-k).toNat)-(a.m*2^(a.e-k).toNat)) k) (by have h:=AF b.neg ((b.m*2^(b.e-k).toNat)-(a.m*2^(a.e-k).toNat)) k fy;omega) (by have h:=AF b.neg ((b.m*2^(b.e-k).toNat)-(a.m*2^(a.e-k).toNat)) k fy;omega)<|by have h:=AF b.neg ((b.m*2^(b.e-k).toNat)-(a.m*2^(a.e-k).toNat)) k fy;omega]<|rQ (.ix [iw<|kQ<|canon b.neg ((b.m*2^(b.e-k).toNat)-(a.m*2^(a.e-k).toNat)) k,iP<|mN<|canon b.neg ((b.m*2^(b.e-k).toNat)-(a.m*2^(a.e-k).toNat)) k]) (.ix [iw<|kQ<|iM a b,iP<|mN<|iM a b])<|by rw[K8 k1<|Te.1 k2])
   (λk2=>ae [tB 101<|a6 k2,.c<|D8 (a.m*2^(a.e-k).toNat) (b.m*2^(b.e-k).toNat) fa fb<|Td.1 k2,.c<|ER a.neg ((a.m*2^(a.e-k).toNat)-(b.m*2^(b.e-k).toNat)) k fx,.c<|Kg (canon a.neg ((a.m*2^(a.e-k).toNat)-(b.m*2^(b.e-k).toNat)) k) (by have h:=AF a.neg ((a.m*2^(a.e-k).toNat)-(b.m*2^(b.e-k).toNat)) k fx;omega) (by have h:=AF a.neg ((a.m*2^(a.e-k).toNat)-(b.m*2^(b.e-k).toNat)) k fx;omega)<|by have h:=AF a.neg ((a.m*2^(a.e-k).toNat)-(b.m*2^(b.e-k).toNat)) k fx;omega]<|rQ (.ix [iw<|kQ<|canon a.neg ((a.m*2^(a.e-k).toNat)-(b.m*2^(b.e-k).toNat)) k,iP<|mN<|canon a.neg ((a.m*2^(a.e-k).toNat)-(b.m*2^(b.e-k).toNat)) k]) (.ix [iw<|kQ<|iM a b,iP<|mN<|iM a b])<|by rw[K7 k1<|Td.1 k2]))
section
variable(ha:a.ig)(hb:b.ig)(a0:a.m≠0)(b0:b.m≠0)(k:Int)(hk:min a.e b.e=k)
def adH(la:(ib a.m).length<=256)(lb:(ib b.m).length<=256)(e1:-16384<=k)(e2:a.e<=16384)(e3:b.e<=16384)(fa:(ib<|a.m*2^(a.e-k).toNat).length<=256)(fb:(ib<|b.m*2^(b.e-k).toNat).length<=256)(fab:(ib<|(a.m*2^(a.e-k).toNat)+(b.m*2^(b.e-k).toNat)).length<=256)(fx:(ib<|(a.m*2^(a.e-k).toNat)-(b.m*2^(b.e-k).toNat)).length<=256)(fy:(ib<|(b.m*2^(b.e-k).toNat)-(a.m*2^(a.e-k).toNat)).length<=256)(K6:a.neg=b.neg->iM a b=canon a.neg ((a.m*2^(a.e-k).toNat)+(b.m*2^(b.e-k).toNat)) k)(K7:a.neg≠b.neg->(b.m*2^(b.e-k).toNat)<=(a.m*2^(a.e-k).toNat)->iM a b=canon a.neg ((a.m*2^(a.e-k).toNat)-(b.m*2^(b.e-k).toNat)) k)(K8:a.neg≠b.neg->(a.m*2^(a.e-k).toNat)<(b.m*2^(b.e-k).toNat)->iM a b=canon b.neg ((b.m*2^(b.e-k).toNat)-(a.m*2^(a.e-k).toNat)) k)(hn:¬(4097<max a.iz b.iz-k/\(1<a.iz-b.iz\/1<b.iz-a.iz))):ic 239 [iw a,iw b]<|.ix [iw<|kQ<|iM a b,iP<|mN<|iM a b]:=by
 have ta:-16384<=a.iz/\a.iz<=16384:=by
  unfold Dy.iz;rw[aX a0];have:=ha.range.resolve_left a0;have:=ha.exp;omega
 have tb:-16384<=b.iz/\b.iz<=16384:=by
  unfold Dy.iz;rw[aX b0];have:=hb.range.resolve_left b0;have:=hb.exp;omega
 exact iy (ae [ai 18 (((ib a.m).length:Int)==0)<|nG<|pV a0,ai 23 (((ib b.m).length:Int)==0)<|nG<|pV b0,.o 41<|aq (if b.e<a.e then b.e else a.e) k<|by rw[<-hk];split<;>omega,.c<|oo a aD,.c<|oo b aD,.o 48<|aq (if(Dy.iz b)>(Dy.iz a)then(Dy.iz b)else(Dy.iz a)) (max a.iz b.iz) aM,iD<|(max a.iz b.iz)-k]<|.w (4097<((max a.iz b.iz)-k))
  (λk1=>ae [tB 51<|aZ k1,iD<|(Dy.iz a)-(Dy.iz b)]<|.w (1<((Dy.iz a)-(Dy.iz b)))
   (λk2=>.x<|by exact absurd ⟨k1,.inl k2⟩ hn)
   (λk2=>ae [tB 56<|a6 k2,iD<|(Dy.iz b)-(Dy.iz a)]<|.w (1<((Dy.iz b)-(Dy.iz a)))
    (λk3=>.x<|by exact absurd ⟨k1,.inr k3⟩ hn)
    (λk3=>ae [tB 61<|a6 k3]<|abu a b ha hb a0 b0 k hk la lb e1 e2 e3 fa fb fab fx fy K6 K7 K8)))
  (λk1=>ae [tB 51<|a6 k1]<|abu a b ha hb a0 b0 k hk la lb e1 e2 e3 fa fb fab fx fy K6 K7 K8))
def adG(e1:-16384<=k)(h1:4097<max a.iz b.iz-k)(h2:1<a.iz-b.iz\/1<b.iz-a.iz):ic 239 [iw a,iw b]<|.ix [iw iR,iP 9]:=by
 have ta:-16384<=a.iz/\a.iz<=16384:=by
  unfold Dy.iz;rw[aX a0];have:=ha.range.resolve_left a0;have:=ha.exp;omega
 have tb:-16384<=b.iz/\b.iz<=16384:=by
  unfold Dy.iz;rw[aX b0];have:=hb.range.resolve_left b0;have:=hb.exp;omega
 exact iy (ae [ai 18 (((ib a.m).length:Int)==0)<|nG<|pV a0,ai 23 (((ib b.m).length:Int)==0)<|nG<|pV b0,.o 41<|aq (if b.e<a.e then b.e else a.e) k<|by rw[<-hk];split<;>omega,.c<|oo a aD,.c<|oo b aD,.o 48<|aq (if(Dy.iz b)>(Dy.iz a)then(Dy.iz b)else(Dy.iz a)) (max a.iz b.iz) aM,iD<|(max a.iz b.iz)-k,tB 51<|aZ h1,
  iD ((Dy.iz a)-(Dy.iz b))]<|.w (1<((Dy.iz a)-(Dy.iz b)))
  (λk1=>af [tB 56<|aZ k1,.o 64 (.e tc:aj (.agg ar)<|iw iR)])
  (λk1=>ae [tB 56<|a6 k1,iD<|(Dy.iz b)-(Dy.iz a)]<|.w (1<((Dy.iz b)-(Dy.iz a)))
   (λk2=>af [tB 61<|aZ k2,.o 64 (.e tc:aj (.agg ar)<|iw iR)])
   (λk2=>.x aC)))
end
def adE(hb:b.ig)(a0:a.m=0):ic 239 [iw a,iw b]<|.ix [iw b,iP 0]:=
 iy (af [ah 18 (((ib a.m).length:Int)==0)<|sY<|wq.2 a0,ah 28 (((ib a.m).length:Int)==0)<|sY<|wq.2 a0,.c (by have h:=ER b.neg b.m b.e hb.ib (by have:=hb.exp;omega) (by have:=hb.exp;omega);rwa[hb.canon.C4]at h:ic 123 [bP b.neg,il<|ib b.m,iP b.e]<|iw b)])
def adF(ha:a.ig)(a0:a.m≠0)(b0:b.m=0):ic 239 [iw a,iw b]<|.ix [iw a,iP 0]:=
 iy (af [ai 18 (((ib a.m).length:Int)==0)<|nG<|pV a0,ah 23 (((ib b.m).length:Int)==0)<|sY<|wq.2 b0,ai 28 (((ib a.m).length:Int)==0)<|nG<|pV a0,.c (by have h:=ER a.neg a.m a.e ha.ib (by have:=ha.exp;omega) (by have:=ha.exp;omega);rwa[ha.canon.C4]at h:ic 123 [bP a.neg,il<|ib a.m,iP a.e]<|iw a)])
section
variable(ha:a.ig)(hb:b.ig)
def TC:ic 239 [iw a,iw b]<|.ix [iw<|kQ<|iM a b,iP<|mN<|iM a b]:=by
 by_cases a0:a.m=0
 .rw [show iM a b=b by unfold iM;rw[aY a0],BY hb.range,GX hb.range];exact adE a b hb a0
 by_cases b0:b.m=0
 .rw [show iM a b=a by unfold iM;rw[aX a0,aY b0],BY ha.range,GX ha.range];exact adF a b ha a0 b0
 obtain⟨k,hk⟩:∃ k,min a.e b.e=k:=⟨_,rfl⟩
 have xa:=ha.exp;have xb:=hb.exp;by_cases hn:4097<max a.iz b.iz-k/\(1<a.iz-b.iz\/1<b.iz-a.iz)
 .have kj:=aoE ha hb a0 b0 hk hn.1 hn.2;rw[NP kj,Ks kj];exact adG a b ha hb a0 b0 k hk aC hn.1 hn.2
 .obtain ⟨f1,f2⟩:=aoF ha hb a0 b0 hk hn;have len:∀ {m:Nat},iq m<=4098->(ib m).length<=256:=λh=>bg (FI (k:=129)<|bg h aE) aE 
  refine adH a b ha hb a0 b0 k hk ha.ib hb.ib aC aC aC (len aC) (len aC) (len<|adT f1 f2) (len<|bg (uW<|eU _ _) aC) (len<|bg (uW<|eU _ _) aC) (λh=>?_) (λh h'=>aoz a0 b0 hk h h') (λh h'=>aoA a0 b0 hk h h') hn;have:=aoC (s:=a.neg) a0 b0 hk;rw[<-this,show(⟨a.neg,b.m,b.e⟩:Dy)=b by rw[h]]
def GP:ic 186 [iw a,iw b]<|.ix [iw<|kQ<|iM a<|jo b,iP<|mN<|iM a<|jo b]:=by
 have hn:=xD hb;exact iy<|af [.c<|qk a aD,.c<|qk b aD,.c<|wU b aD,.c<|TC a (jo b) aD aD]
def GN:ic 187 [iw a,iw b]<|.ix [iw<|kQ<|iM a b,iP<|mN<|iM a b]:=
 iy (af [.c<|qk a aD,.c<|qk b aD,.c<|TC a b aD aD])
end
end
def adf(k:Int)(h1:-32768<=k)(h2:k<=32768):ic 183 [iP k]<|bP true:=
 iy (af [tT 4 ((-32768)<=k) aC,tT 7 (k<=32768) aC])
def Km(d:Dy)(k:Int)(hv:d.ig)(h1:-32768<=k)(h2:k<=32768):ic 107 [iw d,iP k]<|.ix [iw<|kQ<|canon d.neg d.m<|d.e+k,iP<|mN<|canon d.neg d.m<|d.e+k]:=by
 have hl:=hv.ib;have he:=hv.exp;have kE:=T4 (mJ d.m) hl d.neg<|d.e+k;obtain⟨lV,sx⟩:=T3 (mJ d.m) hl d.neg (d.e+k) aC aC;rw[kK]at kE lV sx;exact iy<|af [.c<|qk d aD,.c<|adf k aC aC,iD<|d.e+k,.c<|ER d.neg d.m (d.e+k) aC,.c<|Kg (canon d.neg d.m<|d.e+k) aC aC aC]
def Ny(n:Nat)(h:n<4294967296):ic 71 [iP n]<|iw<|iU (n:Int):=by
 have ok2:iQ [n%4294967296,n/4294967296%4294967296]:=iQ.cons (bJ _ aE)<|iQ.cons (bJ _ aE) iQ.nil;exact iy<|ae [.o 5 (.int<|sI _:aj (.v<|.int .u64<|IntKind.u64.wrap (n:Int))<|.v<|.int .u64 (n:Int)),tF 7 ((n:Int)<0) aC,tF 11 ((n:Int)<0) aC,.o 13 (.int<|Al _:aj (.v<|.int .u32<|IntKind.u32.wrap (n:Int))<|.v<|.int .u32 ((n%4294967296:Nat):Int)),.a (aC:0<=(32:Int)/\(32:Int)<=((64:Nat):Int)),.o 15 (.int<|MD _:aj (.v<|.int .u64<|(n:Int)/2^32)<|.v<|.int .u64 ((n/4294967296:Nat):Int)),.o 16 (.int<|Al _:aj (.v<|.int .u32<|IntKind.u32.wrap ((n/4294967296:Nat):Int))<|.v<|.int .u32 (((n/4294967296)%4294967296:Nat):Int)),.o 17 (.e<|Sh _ _:aj (.sl false 2 1 λi_ j_=>[.v<|.int .u32 ((n%4294967296:Nat):Int),.v<|.int .u32 (((n/4294967296)%4294967296:Nat):Int)].getD (i_*1+j_)<|.v<|.bool false)<|il [n%4294967296,(n/4294967296)%4294967296]),.c<|UW false [n%4294967296,(n/4294967296)%4294967296] 0 ok2 aH aE aE]<|rQ (iw<|canon false (val [n%4294967296,(n/4294967296)%4294967296]) 0) (iw<|iU (n:Int))<|by rw[abZ,(aC:n%4294967296+4294967296*(n/4294967296%4294967296)=n),xv]
def ajA:iU 1=⟨false,1,0⟩:=by rw[show(1:Int)=((1:Nat):Int)from rfl,xv];exact ZC
def Nx:ic 71 [iP 1]<|iw ⟨false,1,0⟩:=by
 have:=Ny 1 aE;rwa[show((1:Nat):Int)=1 from rfl,ajA]at this
section
variable(d:Dy)(p:Nat)(hd:d.ig)
def Kj(iu:8<=p:=by omega)(ie:p<=512:=by omega):ic 240 [iw d,iP p]<|.ix [iw<|jN d p false,iP<|jC d p false]:=
 iy (af [.c<|Ml d p false aD])
def Kk(iu:8<=p:=by omega)(ie:p<=512:=by omega):ic 241 [iw d,iP p]<|.ix [iw<|jN d p true,iP<|jC d p true]:=
 iy (af [.c<|Ml d p true aD])
end
def Ri(d:Dy)(p:Nat)(up:Bool)(N:Nat)(h:(jx d p up N).2≠0):∀ k,jx d p up (N+k)=jx d p up N
 | 0=>rfl
 |k+1=>by
  have ih:=Ri d p up N h k;show(if(jx d p up<|N+k).2≠0 then jx d p up (N+k)else _)=_;rw[ih,aY h]
def CH{d:Dy}{p:Nat}{up:Bool}{k:Nat}(h:(jx d p up k).2=0):jx d p up (k+1)=(jN (mW (jx d p up k).1 d) p up,jC (mW (jx d p up k).1 d) p up):=by
 show(if(jx d p up k).2≠0 then _ else _)=_;rw[aX<|arp h];rfl
section
variable(d:Dy)
def adt(n p:Nat)(hd:d.ig)(hn:1<=n)(lM:n<=16)(iu:8<=p)(ie:p<=512)(jH:∀ x,x<n-1->(jx d p false x).2=0):ic 363 [iw d,iP n,iP p,.fn 240 [],.fn 120 []]<|.ix [iw (jx d p false<|n-1).1,iP (jx d p false<|n-1).2]:=
 iy (af [.c<|Kj d p aD,.s (Sp.jX (Tx d n p) 0 (n-1) aC (λx hx mH=>by
    have o9:=jH x aC;have hv:=Br d (aC:1<=p) (aC:p<=4096) false x;exact iS (ae [tT 24 (((x+1:Nat):Int)<n) aC,ah 27 (((jx d p false x).2)==0)<|by rw[o9];rfl,.c<|Mj ((jx d p false x).1) d p aD aD aC aC,
     iD (((x+1:Nat):Int)+1)]<|.e<|af [.o 13<|aq (jC (mW ((jx d p false x).1) d) p false) ((jx d p false<|x+1).2)<|by rw[CH o9],.b 12 (.jP<|by rw[CH o9]:Bx.le (.cells 37<|jf<|jN (mW ((jx d p false x).1) d) p false)<|.cells 37<|jf<|(jx d p false<|x+1).1)]) aF)
  (λhx=>by
    exact iS (af [tF 24 ((((n-1)+1:Nat):Int)<n) aC]) aF) aI:jW 3 f363 (Tx d n p 0) (.exit 0) ⟨41,true,[(13,.e<|iP<|(jx d p false<|n-1).2),(12,.box 12 0),(10,.box 10 0)],[(12,.cells 37<|jf<|(jx d p false<|n-1).1),(10,.cells 37 ar)]⟩)<|af [.o 14<|aq 1 ((0+1:Nat):Int) rfl,.o 13<|aq (jC d p false) ((jx d p false 0).2) rfl,.b 12<|.refl<|.cells 37<|jf<|(jx d p false 0).1]])
def adu(n N p:Nat)(hd:d.ig)(hn:1<=n)(lM:n<=16)(iu:8<=p)(ie:p<=512)(pR:N<n-1)(jH:∀ x,x<N->(jx d p false x).2=0)(hN:(jx d p false N).2≠0):ic 363 [iw d,iP n,iP p,.fn 240 [],.fn 120 []]<|.ix [iw (jx d p false N).1,iP (jx d p false N).2]:=
 iy (af [.c<|Kj d p aD,.s (Sp.jX (Ty d n N p) 0 N aC (λx hx mH=>by
    have o9:=jH x aC;have hv:=Br d (aC:1<=p) (aC:p<=4096) false x;exact iS (ae [tT 24 (((x+1:Nat):Int)<n) aC,ah 27 (((jx d p false x).2)==0)<|by rw[o9];rfl,.c<|Mj ((jx d p false x).1) d p aD aD aC aC,
     iD (((x+1:Nat):Int)+1)]<|.e<|af [.o 13<|aq (jC (mW ((jx d p false x).1) d) p false) ((jx d p false<|x+1).2)<|by rw[CH o9],.b 12 (.jP<|by rw[CH o9]:Bx.le (.cells 37<|jf<|jN (mW ((jx d p false x).1) d) p false)<|.cells 37<|jf<|(jx d p false<|x+1).1)]) aF)
  (λhx=>by
    exact iS (af [tT 24 (((N+1:Nat):Int)<n) aC,ai 27 (((jx d p false N).2)==0)<|by simpa using hN]) aF) aI:jW 3 f363 (Ty d n N p 0) (.exit 0) ⟨41,true,[(13,.e<|iP<|(jx d p false N).2),(12,.box 12 0),(10,.box 10 0)],[(12,.cells 37<|jf<|(jx d p false N).1),(10,.cells 37 ar)]⟩)<|af [.o 14<|aq 1 ((0+1:Nat):Int) rfl,.o 13<|aq (jC d p false) ((jx d p false 0).2) rfl,.b 12<|.refl<|.cells 37<|jf<|(jx d p false 0).1]])
section
variable(n p:Nat)(hd:d.ig)(hn:1<=n)(lM:n<=16)(iu:8<=p)(ie:p<=512)
def adv:ic 363 [iw d,iP n,iP p,.fn 240 [],.fn 120 []]<|.ix [iw (jx d p false<|n-1).1,iP (jx d p false<|n-1).2]:=by
 by_cases h:∃ x,x<n-1/\decide ((jx d p false x).2≠0)=true
 .obtain ⟨N,h1,h2,h3⟩:=sD h;have hN:(jx d p false N).2≠0:=cN h2;have:=adu d n N p hd hn lM iu ie h1 (λx hx=>by simpa using h3 x hx) hN;have e:=Ri d p false N hN<|n-1-N;rw[(aC:N+(n-1-N)=n-1)]at e;rw[e];exact this
 .exact adt d n p hd hn lM iu ie λx hx=>bQ λq=>h ⟨x,hx,aZ q⟩
def adw(jH:∀ x,x<n-1->(jx d p true x).2=0):ic 363 [iw d,iP n,iP p,.fn 241 [],.fn 121 []]<|.ix [iw (jx d p true<|n-1).1,iP (jx d p true<|n-1).2]:=
 iy (af [.c<|Kk d p aD,.s (Sp.jX (Tz d n p) 0 (n-1) aC (λx hx mH=>by
    have o9:=jH x aC;have hv:=Br d (aC:1<=p) (aC:p<=4096) true x;exact iS (ae [tT 24 (((x+1:Nat):Int)<n) aC,ah 27 (((jx d p true x).2)==0)<|by rw[o9];rfl,.c<|Mk ((jx d p true x).1) d p aD aD aC aC,
     iD (((x+1:Nat):Int)+1)]<|.e<|af [.o 13<|aq (jC (mW ((jx d p true x).1) d) p true) ((jx d p true<|x+1).2)<|by rw[CH o9],.b 12 (.jP<|by rw[CH o9]:Bx.le (.cells 37<|jf<|jN (mW ((jx d p true x).1) d) p true)<|.cells 37<|jf<|(jx d p true<|x+1).1)]) aF)
  (λhx=>by
    exact iS (af [tF 24 ((((n-1)+1:Nat):Int)<n) aC]) aF) aI:jW 3 f363 (Tz d n p 0) (.exit 0) ⟨41,true,[(13,.e<|iP<|(jx d p true<|n-1).2),(12,.box 12 0),(10,.box 10 0)],[(12,.cells 37<|jf<|(jx d p true<|n-1).1),(10,.cells 37 ar)]⟩)<|af [.o 14<|aq 1 ((0+1:Nat):Int) rfl,.o 13<|aq (jC d p true) ((jx d p true 0).2) rfl,.b 12<|.refl<|.cells 37<|jf<|(jx d p true 0).1]])
end
def adx(n N p:Nat)(hd:d.ig)(hn:1<=n)(lM:n<=16)(iu:8<=p)(ie:p<=512)(pR:N<n-1)(jH:∀ x,x<N->(jx d p true x).2=0)(hN:(jx d p true N).2≠0):ic 363 [iw d,iP n,iP p,.fn 241 [],.fn 121 []]<|.ix [iw (jx d p true N).1,iP (jx d p true N).2]:=
 iy (af [.c<|Kk d p aD,.s (Sp.jX (TA d n N p) 0 N aC (λx hx mH=>by
    have o9:=jH x aC;have hv:=Br d (aC:1<=p) (aC:p<=4096) true x;exact iS (ae [tT 24 (((x+1:Nat):Int)<n) aC,ah 27 (((jx d p true x).2)==0)<|by rw[o9];rfl,.c<|Mk ((jx d p true x).1) d p aD aD aC aC,
     iD (((x+1:Nat):Int)+1)]<|.e<|af [.o 13<|aq (jC (mW ((jx d p true x).1) d) p true) ((jx d p true<|x+1).2)<|by rw[CH o9],.b 12 (.jP<|by rw[CH o9]:Bx.le (.cells 37<|jf<|jN (mW ((jx d p true x).1) d) p true)<|.cells 37<|jf<|(jx d p true<|x+1).1)]) aF)
  (λhx=>by
    exact iS (af [tT 24 (((N+1:Nat):Int)<n) aC,ai 27 (((jx d p true N).2)==0)<|by simpa using hN]) aF) aI:jW 3 f363 (TA d n N p 0) (.exit 0) ⟨41,true,[(13,.e<|iP<|(jx d p true N).2),(12,.box 12 0),(10,.box 10 0)],[(12,.cells 37<|jf<|(jx d p true N).1),(10,.cells 37 ar)]⟩)<|af [.o 14<|aq 1 ((0+1:Nat):Int) rfl,.o 13<|aq (jC d p true) ((jx d p true 0).2) rfl,.b 12<|.refl<|.cells 37<|jf<|(jx d p true 0).1]])
def ady(n p:Nat)(hd:d.ig)(hn:1<=n)(lM:n<=16)(iu:8<=p)(ie:p<=512):ic 363 [iw d,iP n,iP p,.fn 241 [],.fn 121 []]<|.ix [iw (jx d p true<|n-1).1,iP (jx d p true<|n-1).2]:=by
 by_cases h:∃ x,x<n-1/\decide ((jx d p true x).2≠0)=true
 .obtain ⟨N,h1,h2,h3⟩:=sD h;have hN:(jx d p true N).2≠0:=cN h2;have:=adx d n N p hd hn lM iu ie h1 (λx hx=>by simpa using h3 x hx) hN;have e:=Ri d p true N hN<|n-1-N;rw[(aC:N+(n-1-N)=n-1)]at e;rw[e];exact this
 .exact adw d n p hd hn lM iu ie λx hx=>bQ λq=>h ⟨x,hx,aZ q⟩
section
variable(n p:Nat)(hd:d.ig)(h0:¬d.jc<0)(hn:1<=n)(lM:n<=16)(iu:8<=p)(ie:p<=512)
def Tf:ic 350 [iw d,iP n,iP p,bP false]<|.ix [iw (lk d n p false).1,iP (lk d n p false).2]:=
 iy (ae [.c<|nL d aD,tB 14<|a6 h0,.c<|adv d n p aD aC aC aC aC]<|rQ (.ix [iw<|(jx d p false<|n-1).1,iP<|(jx d p false<|n-1).2]) (.ix [iw (lk d n p false).1,iP (lk d n p false).2])<|by unfold lk;rw[aX h0])
def Tg:ic 350 [iw d,iP n,iP p,bP true]<|.ix [iw (lk d n p true).1,iP (lk d n p true).2]:=
 iy (ae [.c<|nL d aD,tB 14<|a6 h0,.c<|ady d n p aD aC aC aC aC]<|rQ (.ix [iw<|(jx d p true<|n-1).1,iP<|(jx d p true<|n-1).2]) (.ix [iw (lk d n p true).1,iP (lk d n p true).2])<|by unfold lk;rw[aX h0])
end
end
def aa8{d:Dy}(h:d.jc<0):¬(jo d).jc<0:=by
 rw[(rX _).2,pt];have:=(rX d).2.1 h
 grind
section
variable(d:Dy)(n p:Nat)(hd:d.ig)
section
variable(h0:¬d.jc<0)(hn:1<=n)(lM:n<=16)(iu:8<=p)(ie:p<=512)
def ac7:ic 350 [iw d,iP (n:Int),iP (p:Int),bP false]<|.ix [iw (jx d p false<|n-1).1,iP (jx d p false<|n-1).2]:=by
 have:=Tf d n p hd h0 hn lM iu ie;unfold lk at this;rwa[aX h0]at this
def ac8:ic 350 [iw d,iP (n:Int),iP (p:Int),bP true]<|.ix [iw (jx d p true<|n-1).1,iP (jx d p true<|n-1).2]:=by
 have:=Tg d n p hd h0 hn lM iu ie;unfold lk at this;rwa[aX h0]at this
end
def ac5(h0:d.jc<0)(hn:1<=n)(lM:n<=16)(iu:8<=p)(ie:p<=512):ic 350 [iw d,iP n,iP p,bP false]<|.ix [iw (lk d n p false).1,iP (lk d n p false).2]:=by
 have Ig:=xD hd;have h1:=aa8 h0;have hv:=Br (jo d) (aC:1<=p) (aC:p<=4096) true<|n-1;exact iy<|ae [.c<|nL d aD,tB 14<|aZ h0,.c<|wU d aD,.c<|ac8 (jo d) n p Ig h1 hn lM iu ie,.c<|wU ((jx (jo d) p true<|n-1).1) aD]<|rQ (.ix [iw<|jo<|(jx (jo d) p true<|n-1).1,iP<|(jx (jo d) p true<|n-1).2]) (.ix [iw (lk d n p false).1,iP (lk d n p false).2])<|by unfold lk;rw[aY h0];rfl
def Th(hn:1<=n)(lM:n<=16)(iu:8<=p)(ie:p<=512):ic 350 [iw d,iP (n:Int),iP (p:Int),bP false]<|.ix [iw (lk d n p false).1,iP (lk d n p false).2]:=by
 by_cases h0:d.jc<0
 .exact ac5 d n p hd h0 hn lM iu ie
 .exact Tf d n p hd h0 hn lM iu ie
def ac6(h0:d.jc<0)(hn:1<=n)(lM:n<=16)(iu:8<=p)(ie:p<=512):ic 350 [iw d,iP n,iP p,bP true]<|.ix [iw (lk d n p true).1,iP (lk d n p true).2]:=by
 have Ig:=xD hd;have h1:=aa8 h0;have hv:=Br (jo d) (aC:1<=p) (aC:p<=4096) false<|n-1;exact iy<|ae [.c<|nL d aD,tB 14<|aZ h0,.c<|wU d aD,.c<|ac7 (jo d) n p Ig h1 hn lM iu ie,.c<|wU ((jx (jo d) p false<|n-1).1) aD]<|rQ (.ix [iw<|jo<|(jx (jo d) p false<|n-1).1,iP<|(jx (jo d) p false<|n-1).2]) (.ix [iw (lk d n p true).1,iP (lk d n p true).2])<|by unfold lk;rw[aY h0];rfl
def Ti(hn:1<=n)(lM:n<=16)(iu:8<=p)(ie:p<=512):ic 350 [iw d,iP (n:Int),iP (p:Int),bP true]<|.ix [iw (lk d n p true).1,iP (lk d n p true).2]:=by
 by_cases h0:d.jc<0
 .exact ac6 d n p hd h0 hn lM iu ie
 .exact Tg d n p hd h0 hn lM iu ie
end
section
variable(x:Iv)(n p:Nat)(hx:x.ig)
def adz(ha:x.all=true)(hn:n<=16)(iu:8<=p)(ie:p<=512):ic 317 [im x,iP n,iP p]<|im<|qU x n p:=
 iy (ae [.o 12<|.e<|lW x,.c<|qo x aD,ai 13 (!x.all)<|by rw[ha];rfl,.c nu]<|rQ (im ik) (im<|qU x n p)<|by unfold qU;rw[aY ha])
def adC(ha:x.all=false)(h0:n=0)(iu:8<=p)(ie:p<=512):ic 317 [im x,iP n,iP p]<|im<|qU x n p:=by
 have v1:=FZ;exact iy<|ae [.o 12<|.e<|lW x,.c<|qo x aD,ah 13 (!x.all)<|by rw[ha];rfl,.c<|xw (p:Int),ah 17 (kT (p:Int))<|pH.2 ⟨aC,aC⟩,tF 22 ((n:Int)<0) aC,tF 26 (16<(n:Int)) aC,ah 30 ((n:Int)==0)<|sY h0,ag [iP 1] Nx,.c<|rO (Dy.mk false 1 0) aD]<|rQ (im<|iJ<|Dy.mk false 1 0) (im<|qU x n p)<|by unfold qU;rw[aX<|by rw[ha];decide,aY h0]
section
variable(ha:x.all=false)(h0:n≠0)(hn:n<=16)
def adA(he:n%2=0)(iu:8<=p)(ie:p<=512):ic 317 [im x,iP n,iP p]<|im<|qU x n p:=by
 have va:=xV hx;obtain⟨w1,w2⟩:=va.jj;exact iy<|ae [.o 12<|.e<|lW x,.c<|qo x aD,ah 13 (!x.all)<|by rw[ha];rfl,.c<|xw (p:Int),ah 17 (kT (p:Int))<|pH.2 ⟨aC,aC⟩,tF 22 ((n:Int)<0) aC,tF 26 (16<(n:Int)) aC,ai 30 ((n:Int)==0)<|nG h0,.a (aC:0<(2:Int)),.o 34<|aq (Int.tmod (n:Int) 2) ((n%2:Nat):Int)<|by rw[ars aC];omega,ah 35 (((n%2:Nat):Int)==0)<|sY he,.c<|DW x aD,.c<|Th ((iW x).lo) n p aD aC aC aC aC,.c<|Ti ((iW x).hi) n p aD aC aC aC aC,.c<|DY ((lk ((iW x).lo) n p false).1) ((lk ((iW x).hi) n p true).1) ((lk ((iW x).lo) n p false).2)<|(lk ((iW x).hi) n p true).2]<|rQ (im<|lH ((lk ((iW x).lo) n p false).1) ((lk ((iW x).lo) n p false).2) ((lk ((iW x).hi) n p true).1)<|(lk ((iW x).hi) n p true).2) (im<|qU x n p)<|by unfold qU vz;rw[aX<|by rw[ha];decide,aX h0,aY he]
def adB(he:¬n%2=0)(iu:8<=p)(ie:p<=512):ic 317 [im x,iP n,iP p]<|im<|qU x n p:=by
 have va:=hx;obtain⟨w1,w2⟩:=va.jj;exact iy<|ae [.o 12<|.e<|lW x,.c<|qo x aD,ah 13 (!x.all)<|by rw[ha];rfl,.c<|xw (p:Int),ah 17 (kT (p:Int))<|pH.2 ⟨aC,aC⟩,tF 22 ((n:Int)<0) aC,tF 26 (16<(n:Int)) aC,ai 30 ((n:Int)==0)<|nG h0,.a (aC:0<(2:Int)),.o 34<|aq (Int.tmod (n:Int) 2) ((n%2:Nat):Int)<|by rw[ars aC];omega,ai 35 (((n%2:Nat):Int)==0)<|nG he,.c<|Th x.lo n p aD aC aC aC aC,.c<|Ti x.hi n p aD aC aC aC aC,.c<|DY ((lk x.lo n p false).1) ((lk x.hi n p true).1) ((lk x.lo n p false).2)<|(lk x.hi n p true).2]<|rQ (im<|lH ((lk x.lo n p false).1) ((lk x.lo n p false).2) ((lk x.hi n p true).1)<|(lk x.hi n p true).2) (im<|qU x n p)<|by unfold qU vz;rw[aX<|by rw[ha];decide,aX h0,aX he]
end
def Tw(hn:n<=16)(iu:8<=p)(ie:p<=512):ic 317 [im x,iP (n:Int),iP (p:Int)]<|im<|qU x n p:=by
 cases ha:x.all with
 |true=>exact adz x n p hx ha hn iu ie
 |false=>
  by_cases h0:n=0
  .exact adC x n p hx ha h0 iu ie
  .by_cases he:n%2=0
   .exact adA x n p hx ha h0 hn he iu ie
   .exact adB x n p hx ha h0 hn he iu ie
end
def Tp(x y:Iv)(hx:x.ig)(hy:y.ig)(xa:x.all=false)(ya:y.all=false):ic 190 [im x,im y]<|im<|q8 x y:=by
 obtain⟨v1,v2⟩:=hx.jj;obtain⟨v3,v4⟩:=hy.jj;exact iy<|ae [.o 7<|.e<|yE x y,.c<|Bh x y aD aD,ah 8 (!(x.all||y.all))<|by rw[xa,ya];rfl,.c<|IE x.lo y.lo aD aD,.c<|IF x.hi y.hi aD aD]<|rQ (im<|Iv.mk (jk x.lo y.lo) (jg x.hi y.hi) false) (im<|q8 x y)<|by unfold q8;rw[xa,ya];rfl
def TH(z:Int):(z==0)=decide (z=0):=by by_cases h:z=0<;>simp[h]
def ET(x:Iv)(p:Nat)(hx:x.ig)(xa:x.all=false)(iu:8<=p:=by omega)(ie:p<=512:=by omega):ic 192 [im x,iP p]<|.ix [iw<|po x p,bP<|decide (wN x p=0)]:=by
 obtain⟨v1,v2⟩:=hx.jj;have v3:=xD v1;exact iy<|ae [.o 9<|.e<|lW x,.c<|qo x aD,ah 10 (!x.all)<|by rw[xa];rfl,.c<|xw (p:Int),ah 14 (kT (p:Int))<|pH.2 ⟨aC,aC⟩,.c<|wU x.lo aD,.c<|wE x.hi (jo x.lo) p aD aD]<|rQ (.ix [iw<|jN (iM x.hi<|jo x.lo) p true,bP<|(jC (iM x.hi<|jo x.lo) p true)==0]) (.ix [iw<|po x p,bP<|decide (wN x p=0)])<|by rw[TH];rfl
def Kh(x y:Iv):zG x y=(y.all||(!x.all&&(decide (jm y.lo x.lo<=0)&&decide (jm x.hi y.hi<=0)))):=rfl
def Ts(x y:Iv)(hx:x.ig)(hy:y.ig):ic 56 [im x,im y]<|bP<|zG x y:=by
 obtain⟨v1,v2⟩:=hx.jj;obtain⟨v3,v4⟩:=hy.jj;exact iy (ae [.c<|pe x aD,.c<|pe y aD]<|.w (y.all=true)
  (λk1=>ae [tB 14 k1]<|rQ (bP true) (bP<|zG x y)<|by rw[Kh];simp[k1])
  (λk1=>ae [tB 14<|aU k1]<|.w (x.all=true)
   (λk2=>ae [tB 17 k2]<|rQ (bP false) (bP<|zG x y)<|by rw[Kh];simp[k1,k2])
   (λk2=>ae [tB 17<|aU k2,.c<|mF y.lo x.lo aD aD]<|.w ((jm y.lo x.lo)<=0)
    (λk3=>ae [tB 25<|aZ k3,.c<|mF x.hi y.hi aD aD]<|rQ (bP<|decide ((jm x.hi y.hi)<=0)) (bP<|zG x y)<|by rw[Kh];simp[k1,k2,k3])
    (λk3=>ae [tB 25<|a6 k3]<|rQ (bP false) (bP<|zG x y)<|by rw[Kh];simp[k1,k2,k3]))))
def af6(k:Nat)(w:World)(h0:0<k)(hn:k<4294967296)(uX:Tb w):
 Calls prog 71 #[.int .i64 (-(k:Int))] w (At w<|canon true k 0):=by
 have hd:(k:Int)/4294967296=0:= aC ;have iE:(-(k:Int))<0:= aC ;have Pf:decide ((-(k:Int))<0)=true:=aZ iE;have hu:IntKind.u64.wrap (-(k:Int))=18446744073709551616-k:=by rw[IntKind.wrap_u64];omega
 have hs:IntKind.u64.wrap (-(18446744073709551616-(k:Int)))=k:=by rw[IntKind.wrap_u64];omega
 have KZ:IntKind.u32.wrap (k:Int)=k:=by rw[IntKind.wrap_u32];omega
 have ht:(iO [k,0]).length<=256:=by have:=qh [k,0];unfold mS at this;simp at this;omega
 have HC:=arM λ(A:Option Addr) c w (h:Sl w A c [k,0]) (hT:Tb w)=>KB true A c [k,0] 0 w h aH ht aE aE hT;have hv:val [k,0]=k:= aH ;rw[hv]at HC;clear hv ht;generalize canon true k 0=d at *
 generalize hN:(-(k:Int))=N at *
 go_enter func71,ntmps71;go_wp2_with fail;refine(HC.out _ _ _ (Sl.MQ _ _ aH _ _ k 0 rfl rfl hn aE)<|uX.below<|by first|exact(iZ.alloc _ _).trans (iZ.alloc _ _)|exact iZ.alloc _ _).mono ?_;rintro r w1 ⟨A1,c1,rfl,uE,kE⟩;have ln:iZ (w.alloc<|.cells #[.bool false,.slice none 0 0,.int .i64 0] 37) w1:=(iZ.alloc _ _).trans kE;have bx:=(jQ.new w false none 0 0 0).ext ln;have b0:=bx.c0;have b1:=bx.c1;have b2:=bx.c2;have f0:=bx.fr 0;have f1:=bx.fr 1;have f2:=bx.fr 2;go_wp2;exact AI rfl rfl rfl (bx.set _ _ _ _ _) rfl (bx.wG uE _ _ _ _ _) (jQ.vF ((iZ.alloc _ _).trans ln) (a7 _) _ _ _ _ _)
def qY(n:Int)(h:n.natAbs<4294967296:=by omega):ic 71 [iP n]<|iw<|iU n:=by
 by_cases h0:0<=n
 .obtain ⟨k,rfl⟩:=gI h0;exact Ny k aC 
 .obtain ⟨k,rfl⟩:∃ k:Nat,n = -(k:Int):=⟨n.natAbs,aC⟩
  rw[XQ k aC];refine⟨call71,λw B vs hK hB hr=>?_⟩;obtain⟨v1,vs,rfl,h1,hr⟩:=hr.mY;obtain rfl:=hr.re;obtain rfl:=iI.kG h1;exact(af6 k w aC aC hK).mono λe w' h=>rd B w e w' hB h
def anU(d:Dy)(k:Int):kQ (canon d.neg d.m<|d.e+k)=uQ d k:=by unfold kQ uQ;split<;>simp_all
def anV(d:Dy)(k:Int):mN (canon d.neg d.m<|d.e+k)=Ep d k:=by unfold mN Ep;split<;>simp_all
def oJ(a b:Nat):Nat->Nat×Nat
 | 0=>(a,b)
 |k+1=>((oJ a b k).2,(oJ a b k).1%(oJ a b k).2)
def Ol(a b:Nat):∀ k,oJ a b (k+1)=oJ b (a%b) k
 | 0=>rfl
 |k+1=>by
  show((oJ a b<|k+1).2,(oJ a b<|k+1).1%(oJ a b<|k+1).2)=_;rw[Ol a b k];rfl
def Vf(a b:Nat):∀ k,Nat.gcd (oJ a b k).1 (oJ a b k).2=Nat.gcd a b
 | 0=>rfl
 |k+1=>by
  show Nat.gcd (oJ a b k).2 ((oJ a b k).1%(oJ a b k).2)=_;rw[<-Vf a b k];exact(gh _ _).trans<|(Nat.gcd_rec _ _).symm.trans<|gh _ _
def agu:∀ (b a:Nat),∃ N,(∀ k,k<N->(oJ a b k).2≠0)/\(oJ a b N).2=0:=by
 intro b
 induction b using Nat.strongRecOn with
 |ind b ih=>
  intro a;by_cases h:b=0
  .exact ⟨0,λk hk=>absurd hk<|bt k,h⟩
  .obtain ⟨N,h1,h2⟩:=ih (a%b) (bJ a<|dI h) b;refine⟨N+1,λk hk=>?_,by rw[Ol];exact h2⟩;rcases k with _|k
   .exact h
   .rw [Ol];exact h1 k aC 
def tQ(n d:Int)(p:Nat):Iv:=if qt n d then lH (nK (iU n) (iU d) p false) (q6 (iU n) (iU d) p false) (nK (iU n) (iU d) p true) (q6 (iU n) (iU d) p true)else ik
def XP{d:Int}(h:d≠0):(iU d).m≠0:=by
 intro q;have hq:=yM d;rw[qs,q]at hq;have e:(d:Rat)=0:=by
  rw[<-hq];split<;>simp
 rw[show(0:Rat)=((0:Int):Rat)from rfl,Rat.intCast_inj]at e;exact h e
def UM{a b:Dy}(b0:b.m≠0){p:Nat}(hp:1<=p)(ie:p<=4096)(up:Bool):(nK a b p up).ig:=by
 unfold nK;split
 .exact qu
 .exact tn _ _ _ _ _ _ hp ie
def anx(n d:Int){p:Nat}(hp:1<=p)(ie:p<=4096):(tQ n d p).ig:=by
 unfold tQ;split
 .rename_i h;obtain⟨r1,_⟩:=Ro h;have d0:(iU d).m≠0:=XP aC;unfold lH;split
  .exact kR
  .rename_i he;obtain⟨A,B⟩:=UI (a:=iU n) d0 hp ie;refine .inr ⟨rfl,UM d0 hp ie _,UM d0 hp ie _,?_⟩;rw[pg];exact bw (A.1 aC).2 (B.1 aC).2
 .exact kR
def V0(a b:Nat)(x:Nat):PS:=⟨12,true,[(0,.e<|.v<|.int .u64 (((oJ a b x).1:Nat):Int)),(1,.e<|.v<|.int .u64 (((oJ a b x).2:Nat):Int))],[]⟩
def ahH(a b N:Nat)(ha:a<18446744073709551616)(hb:b<18446744073709551616)(jH:∀ k,k<N->(oJ a b k).2≠0)(hN:(oJ a b N).2=0):ic 174 [.v<|.int .u64 (a:Int),.v<|.int .u64 (b:Int)]<|.v<|.int .u64 (((oJ a b N).1:Nat):Int):=
 iy (af [.s (Sp.jX (V0 a b) 0 N aC (λx hx mH=>by
    have ln:=jH x aC;exact iS (ae [ah 6 ((((oJ a b x).2:Nat):Int) != 0)<|Y8<|jH x aC,.a (aC:0<((((oJ a b x).2:Nat):Int):Int))]<|.e<|af [.o 0<|.int (k:=.u64) (by first|rfl|omega|(simp only[bL,bN];omega):(((oJ a b x).2:Nat):Int)=(((oJ a b<|x+1).1:Nat):Int)),.o 1<|.int (k:=.u64) (by first|rfl|omega|(simp only[bL,bN];omega):((((oJ a b x).1)%((oJ a b x).2):Nat):Int)=(((oJ a b<|x+1).2:Nat):Int))]) aF)
  (λhx=>by
    exact iS (af [ai 6 ((((oJ a b N).2:Nat):Int) != 0)<|Y7 hN]) aF) aI:jW 1 f174 (V0 a b 0) (.exit 0) ⟨12,true,[(0,.e<|.v<|.int .u64 (((oJ a b N).1:Nat):Int))],[]⟩)<|af [.o 0<|.int (k:=.u64) (by first|rfl|omega|(simp only[bL,bN];omega):(a:Int)=(((oJ a b 0).1:Nat):Int)),.o 1<|.int (k:=.u64) (by first|rfl|omega|(simp only[bL,bN];omega):(b:Int)=(((oJ a b 0).2:Nat):Int))]])
def ahI(a b:Nat)(ha:a<18446744073709551616)(hb:b<18446744073709551616):ic 174 [.v<|.int .u64 (a:Int),.v<|.int .u64 (b:Int)]<|.v<|.int .u64 (Nat.gcd a b:Int):=by
 obtain⟨N,h1,h2⟩:=agu b a;have hg:=Vf a b N;rw[h2,Nat.gcd_zero_right]at hg;rw[<-hg];exact ahH a b N ha hb h1 h2
def aoh(m:Nat)(h:m<=1073741824):ic 175 [iP m]<|.v<|.int .u64 (m:Int):=
 iy (af [tF 4 ((m:Int)<0) aC,.o 9 (.int<|sI _:aj (.v<|.int .u64<|IntKind.u64.wrap (m:Int))<|.v<|.int .u64 (m:Int))])
def aog(m:Nat)(h0:0<m)(h:m<=1073741824):ic 175 [iP (-(m:Int))]<|.v<|.int .u64 (m:Int):=
 iy (af [tT 4 ((-(m:Int))<0) aC,iD<|0-(-(m:Int)),.o 6<|aq (0-(-(m:Int))) m,.o 7 (.int<|sI _:aj (.v<|.int .u64<|IntKind.u64.wrap (m:Int))<|.v<|.int .u64 (m:Int))])
def abd(n:Int)(h1:-1073741824<=n)(h2:n<=1073741824):ic 175 [iP n]<|.v<|.int .u64 (n.natAbs:Int):=by
 by_cases h:0<=n
 .obtain ⟨m,rfl⟩:=gI h;exact aoh m aC 
 .obtain ⟨m,rfl⟩:∃ m:Nat,n = -(m:Int):=⟨n.natAbs,aC⟩
  rw[arf,dR];exact aog m aC aC 
def Jf(g:Nat):((g:Int)==1)=decide (g=1):=by
 by_cases h:g=1
 .subst h;rfl
 .rw [a6 h];exact aS aC 
def Mi(n d:Int):ic 103 [.agg [iP n,iP d]]<|bP<|qt n d:=
 iy (.w (1<=d)
  (λk1=>ae [tB 5<|aZ k1]<|.w (d<=1073741824)
   (λk2=>ae [tB 9<|aZ k2]<|.w ((-1073741824)<=n)
    (λk3=>ae [tB 14<|aZ k3]<|.w (n<=1073741824)
     (λk4=>ae [tB 19<|aZ k4,.c<|abd n aC aC,.c<|abd d aC aC,.c<|ahI (Int.natAbs n) (Int.natAbs d) aC aC]<|rQ (bP<|(Nat.gcd (Int.natAbs n)<|Int.natAbs d:Int)==1) (bP<|qt n d)<|by unfold qt;simp[Jf,k1,k2,k3,k4])
     (λk4=>ae [tB 19<|a6 k4]<|rQ (bP false) (bP<|qt n d)<|by unfold qt;simp[Jf,k1,k2,k3,k4]))
    (λk3=>ae [tB 14<|a6 k3]<|rQ (bP false) (bP<|qt n d)<|by unfold qt;simp[Jf,k1,k2,k3]))
   (λk2=>ae [tB 9<|a6 k2]<|rQ (bP false) (bP<|qt n d)<|by unfold qt;simp[Jf,k1,k2]))
  (λk1=>ae [tB 5<|a6 k1]<|rQ (bP false) (bP<|qt n d)<|by unfold qt;simp[Jf,k1]))
def Yv{lo hi:Dy}{e f:Int}(h:e≠0\/f≠0):lH lo e hi f=ik:=aY h
def akD{lo hi:Dy}{e f:Int}(h:e=0)(k:f=0):lH lo e hi f=⟨lo,hi,false⟩:=aX<|by rw[h,k];decide
def amq(n d:Int)(p:Nat)(h:qt n d=true)(iu:8<=p)(ie:p<=512):ic 275 [.agg [iP n,iP d],iP p]<|im<|tQ n d p:=by
 obtain⟨r1,r2,r3,r4⟩:=Ro h;have v1:=sC (n:=n) aC;have v2:=sC (n:=d) aC;have d0:(iU d).m≠0:=XP aC;exact iy (ae [.c<|Mi n d,ai 11 (!(qt n d))<|by rw[h];rfl,.c<|qY n,.c<|qY d,.c<|aac (iU n) (iU d) p aD aD aD aC aC,.c<|qY n,.c<|qY d,.c<|aad (iU n) (iU d) p aD aD aD aC aC]<|.w ((q6 (iU n) (iU d) p false)=0)
  (λk1=>ae [tB 36<|aV k1]<|.w ((q6 (iU n) (iU d) p true)=0)
   (λk2=>ae [tB 39<|aV k2]<|rQ (im<|Iv.mk (nK (iU n) (iU d) p false) (nK (iU n) (iU d) p true) false) (im<|tQ n d p)<|by unfold tQ;rw[aY h,akD k1 k2])
   (λk2=>ae [tB 39<|aW k2,.o 41 (.e BH:aj (.agg [bP false,.v<|.slice none 0 0,iP 0,bP false,.v<|.slice none 0 0,iP 0,bP true])<|im ik)]<|rQ (im ik) (im<|tQ n d p)<|by unfold tQ;rw[aY h,Yv<|.inr k2]))
  (λk1=>ae [tB 36<|aW k1,.o 41 (.e BH:aj (.agg [bP false,.v<|.slice none 0 0,iP 0,bP false,.v<|.slice none 0 0,iP 0,bP true])<|im ik)]<|rQ (im ik) (im<|tQ n d p)<|by unfold tQ;rw[aY h,Yv<|.inl k1]))
section
variable(x:Iv)
noncomputable def Fc(p:Nat):Iv:=@dite Iv (∃ y:Iv,y.ig/\ic 67 [im x,iP (p:Int)] (im y)) (Classical.propDecidable _) Classical.choose λ_=>ik
def ag7(p:Nat):(Fc x p).ig:=by
 unfold Fc;split
 .rename_i h;exact(cT h).1
 .exact kR
def ag6(hx:x.ig)(p:Nat)(iu:8<=p)(ie:p<=512)(hF:xP):ic 67 [im x,iP (p:Int)]<|im<|Fc x p:=by
 have h:∃ y:Iv,y.ig/\ic 67 [im x,iP (p:Int)] (im y):=(hF x p hx iu ie).1;unfold Fc;rw[dif_pos h];exact(cT h).2
noncomputable def Fe(p:Nat):Iv:=@dite Iv (∃ y:Iv,y.ig/\ic 318 [im x,iP (p:Int)] (im y)) (Classical.propDecidable _) Classical.choose λ_=>ik
def ag9(p:Nat):(Fe x p).ig:=by
 unfold Fe;split
 .rename_i h;exact(cT h).1
 .exact kR
def ag8(hx:x.ig)(p:Nat)(iu:8<=p)(ie:p<=512)(hF:xP):ic 318 [im x,iP (p:Int)]<|im<|Fe x p:=by
 have h:∃ y:Iv,y.ig/\ic 318 [im x,iP (p:Int)] (im y):=(hF x p hx iu ie).2.1;unfold Fe;rw[dif_pos h];exact(cT h).2
noncomputable def y8(p:Nat):Iv:=@dite Iv (∃ y:Iv,y.ig/\ic 319 [im x,iP (p:Int)] (im y)) (Classical.propDecidable _) Classical.choose λ_=>ik
def Vu(p:Nat):(y8 x p).ig:=by
 unfold y8;split
 .rename_i h;exact(cT h).1
 .exact kR
def Vt(hx:x.ig)(p:Nat)(iu:8<=p)(ie:p<=512)(hF:xP):ic 319 [im x,iP (p:Int)]<|im<|y8 x p:=by
 have h:∃ y:Iv,y.ig/\ic 319 [im x,iP (p:Int)] (im y):=(hF x p hx iu ie).2.2.1;unfold y8;rw[dif_pos h];exact(cT h).2
noncomputable def AL(p:Nat):Iv:=@dite Iv (∃ y:Iv,y.ig/\ic 320 [im x,iP (p:Int)] (im y)) (Classical.propDecidable _) Classical.choose λ_=>ik
def Vs(p:Nat):(AL x p).ig:=by
 unfold AL;split
 .rename_i h;exact(cT h).1
 .exact kR
def Vr(hx:x.ig)(p:Nat)(iu:8<=p)(ie:p<=512)(hF:xP):ic 320 [im x,iP (p:Int)]<|im<|AL x p:=by
 have h:∃ y:Iv,y.ig/\ic 320 [im x,iP (p:Int)] (im y):=(hF x p hx iu ie).2.2.2.1;unfold AL;rw[dif_pos h];exact(cT h).2
noncomputable def Ff(p:Nat):Iv:=@dite Iv (∃ y:Iv,y.ig/\ic 321 [im x,iP (p:Int)] (im y)) (Classical.propDecidable _) Classical.choose λ_=>ik
def ahb(p:Nat):(Ff x p).ig:=by
 unfold Ff;split
 .rename_i h;exact(cT h).1
 .exact kR
def aha(hx:x.ig)(p:Nat)(iu:8<=p)(ie:p<=512)(hF:xP):ic 321 [im x,iP (p:Int)]<|im<|Ff x p:=by
 have h:∃ y:Iv,y.ig/\ic 321 [im x,iP (p:Int)] (im y):=(hF x p hx iu ie).2.2.2.2;unfold Ff;rw[dif_pos h];exact(cT h).2
end
def NC(o:kZ):Bool:=decide (o.kind<=6)
noncomputable def nf(o:kZ)(x y:Iv)(p:Nat):Iv:=
 if o.kind=3 then je x y p else if o.kind=4 then kY x y p else if o.kind=5 then iL x y p else if o.kind=6 then jh x y p
 else if o.kind=7 then oO x else if o.kind=8 then qU x o.n p else if o.kind=9 then Fc x p else if o.kind=10 then Fe x p
 else if o.kind=11 then y8 x p else if o.kind=12 then AL x p else if o.kind=13 then Ff x p else ik
noncomputable def y6(o:kZ)(l:List Iv)(p:Nat):Iv:=if o.kind=1 then tQ o.cn o.cd p else nf o (l.getD o.a ik) (if NC o then l.getD o.b ik else ik) p
noncomputable def jy(ij:List kZ)(xs:List Iv)(p:Nat):Nat->List Iv
 | 0=>xs
 |k+1=>jy ij xs p k++[y6 (ij.getD k ja) (jy ij xs p k) p]
noncomputable def jZ(t:nC)(xs:List Iv)(p:Nat):List Iv:=t.iB.map λk=>(jy t.ij xs p t.ij.length).getD k ik
section
variable(s:kp)(x:List Iv)(h:Dy)(b:List Iv)(p:Nat)
noncomputable def lh:List Iv:=
 if nD (jZ s.tape (b++s.params) p)then[]else if nD (Bf x (jZ s.tape (b++s.params) p) h p)then[]else Bf x (jZ s.tape (b++s.params) p) h p
noncomputable def tD:Bool:=!(lh s x h b p).isEmpty&&(wi x b&&wi (lh s x h b p) b)
end
def JR(ij:List kZ)(xs:List Iv)(p:Nat):∀ k,(jy ij xs p k).length=xs.length+k
 | 0=>rfl
 |k+1=>by simp only[jy,cK,JR ij xs p k,cI,ff];omega
def acU(o:kZ){x y:Iv}(hx:x.ig)(hy:y.ig){p:Nat}(hp:1<=p)(ie:p<=4096):(nf o x y p).ig:=by
 unfold nf;split
 .exact nS hx hy hp ie
 split
 .exact nS hx (rU hy) hp ie
 split
 .exact lE _ _ hp ie
 split
 .exact oI _ _ hp ie
 split
 .exact rU hx
 split
 .exact Z0 hx _ hp ie
 split
 .exact ag7 _ _
 split
 .exact ag9 _ _
 split
 .exact Vu _ _
 split
 .exact Vs _ _
 split
 .exact ahb _ _
 .exact kR
def acV(o:kZ){l:List Iv}(hl:pC l){p:Nat}(hp:1<=p)(ie:p<=4096):(y6 o l p).ig:=by
 unfold y6;split
 .exact anx _ _ hp ie
 .exact acU o (hl _) (by split;exact hl _;exact kR) hp ie
def Gs(ij:List kZ){xs:List Iv}(h:pC xs){p:Nat}(hp:1<=p)(ie:p<=4096):∀ k,pC (jy ij xs p k)
 | 0=>h
 |k+1=>(Gs ij h hp ie k).push<|acV _ (Gs ij h hp ie k) hp ie
def Vx(t:nC){xs:List Iv}(h:pC xs){p:Nat}(hp:1<=p)(ie:p<=4096):pC<|jZ t xs p:=λi=>by
 unfold jZ;rw[bc,ch];cases t.iB[i]? with
 |none=>exact kR
 |some k=>exact Gs t.ij h hp ie _ _
def Dj(t:nC)(xs:List Iv)(p:Nat):(jZ t xs p).length=t.iB.length:=by simp[jZ]
def P5{s:kp}{x b:List Iv}{h:Dy}{p n:Nat}(hx:kH n x)(hp:1<=p)(ie:p<=4096)(jD:lh s x h b p≠[]):kH n<|lh s x h b p:=by
 unfold lh at jD ⊢;split at jD
 .exact absurd rfl jD
 .rename_i h1;rw[aX h1];split at jD
  .exact absurd rfl jD
  .rename_i h2;rw[aX h2];exact⟨by rw[LF,hx.len],aiC (by simpa using h2)<|ajo hx.ok.Sn hp ie⟩
noncomputable def qZ(o:kZ)(v a b da db:Iv)(p:Nat):Iv:=
 if o.kind=1 then iF 0 else if o.kind=3 then je da db p else if o.kind=4 then kY da db p else if o.kind=5 then je (iL da b p) (iL a db p) p
 else if o.kind=6 then jh (kY da (iL v db p) p) b p else if o.kind=7 then oO da
 else if o.kind=8 then(if o.n=0 then iL (iF 0) da p else iL (iL (iF (o.n:Int)) (qU a (o.n-1) p) p) da p)
 else if o.kind=9 then iL v da p else if o.kind=10 then jh da a p
 else if o.kind=11 then iL (AL a p) da p else if o.kind=12 then oO (iL (y8 a p) da p)else if o.kind=13 then jh da (mR v 1) p else ik
noncomputable def wS(o:kZ)(v:Iv)(l c:List Iv)(p:Nat):Iv:=
 if v.all then ik else qZ o v (l.getD o.a ik) (l.getD o.b ik) (c.getD o.a ik) (c.getD o.b ik) p
def pj(n i:Nat):Nat->List Iv
 | 0=>[]
 |k+1=>pj n i k++[if k=i then iF 1 else iF 0]
noncomputable def kg(t:nC)(l:List Iv)(i p:Nat):Nat->List Iv
 | 0=>pj t.iH i t.iH
 |k+1=>kg t l i p k++[wS (t.ij.getD k ja) (l.getD (t.iH+k) ik) l (kg t l i p k) p]
noncomputable def ot(t:nC)(xs:List Iv)(p q i:Nat):Iv:=(kg t (jy t.ij xs p t.ij.length) i p t.ij.length).getD (t.iB.getD q 0) ik
def kX(n:Nat)(F:Nat->Nat->Iv)(i k:Nat):List<|List Iv:=(List.range n).map λq=>(List.range<|if q<k then i+1 else i).map<|F q
noncomputable def rP(t:nC)(xs:List Iv)(p m:Nat):List<|List Iv:=kX t.iB.length (ot t xs p) m 0
def QV{n:Nat}(h:n<4294967296):(iF (n:Int)).ig:=oP<|zI n h
def QW:(iF 0).ig:=QV (n:=0) aE 
def alA:(iF 1).ig:=QV (n:=1) aE 
def wk{c:Prop}[Decidable c]{x y:Iv}(hx:x.ig)(hy:y.ig):(if c then x else y).ig:=by
 by_cases h:c
 .rwa [aY h]
 .rwa [aX h]
def afl(o:kZ){v a b da db:Iv}(hv:v.ig)(hd:da.ig)(he:db.ig){p:Nat}(hp:1<=p)(ie:p<=4096):(qZ o v a b da db p).ig:=by
 unfold qZ;exact wk QW<|wk (nS hd he hp ie)<|wk (nS hd (rU he) hp ie)<|wk (nS (lE _ _ hp ie) (lE _ _ hp ie) hp ie) <|
  wk (oI _ _ hp ie)<|wk (rU hd)<|wk (wk (lE _ _ hp ie)<|lE _ _ hp ie)<|wk (lE _ _ hp ie)<|wk (oI _ _ hp ie) <|
  wk (lE _ _ hp ie)<|wk (rU<|lE _ _ hp ie)<|wk (oI _ _ hp ie) kR
def Sj(n i:Nat):∀ k,(pj n i k).length=k
 | 0=>rfl
 |k+1=>by simp only[pj,cK,Sj n i k,cI,ff]
def abV(n i:Nat):∀ k,pC (pj n i k)
 | 0=>λ_=>kR
 |k+1=>(abV n i k).push<|by split;exact alA;exact QW
def NT(t:nC)(l:List Iv)(i p:Nat):∀ k,(kg t l i p k).length=t.iH+k
 | 0=>Sj _ _ _
 |k+1=>by simp only[kg,cK,NT t l i p k,cI,ff];omega
def afm(o:kZ){v:Iv}(hv:v.ig){l c:List Iv}(hc:pC c){p:Nat}(hp:1<=p)(ie:p<=4096):(wS o v l c p).ig:=by
 unfold wS;split
 .exact kR
 .exact afl o hv (hc _) (hc _) hp ie
def Kv(t:nC){l:List Iv}(hl:pC l)(i:Nat){p:Nat}(hp:1<=p)(ie:p<=4096):∀ k,pC (kg t l i p k)
 | 0=>abV _ _ _
 |k+1=>(Kv t hl i hp ie k).push<|afm _ (hl _) (Kv t hl i hp ie k) hp ie
def ajY(t:nC){xs:List Iv}(h:pC xs){p:Nat}(hp:1<=p)(ie:p<=4096)(q i:Nat):(ot t xs p q i).ig:=Kv t (Gs t.ij h hp ie _) i hp ie _ _
def abk(n:Nat)(F:Nat->Nat->Iv)(i k:Nat):(kX n F i k).length=n:=by simp[kX]
def Gf{n:Nat}{F:Nat->Nat->Iv}{i k q:Nat}(h:q<n):(kX n F i k).getD q []=(List.range<|if q<k then i+1 else i).map (F q):=by
 simp[kX,bc,h]
def aos(n:Nat)(F:Nat->Nat->Iv)(i:Nat):kX n F i n=kX n F (i+1) 0:=by
 unfold kX;apply ef;intro q hq;rw[aY<|bS.1 hq,aX<|bt _]
def aot{T1 T0 n n':Nat}{F:Nat->Nat->Iv}(hn:n=n'):Bx.le (.iT true T1 T0 n 7 (λ_=>0) (λ_ _ _=>.any) .none)<|.iT true T1 T0 n' 7 (jK<|kX n' F 0 0) (kF<|kX n' F 0 0) .none:=by
 subst hn;refine .iT rfl (λk hk=>?_) (λk i j hk hi hj=>absurd hi<|bt i);show 0=((kX n F 0 0).getD k []).length;rw[Gf hk];simp
def aov{T1 T0 n n' m x k:Nat}{F:Nat->Nat->Iv}{y:Iv}(hn:n=n')(hm:m=n)(hx:k<n)(hy:y=F k x):
 Bx.le (.iT true T1 T0 n 7 (λq=>if q=k then jK (kX m F x k) q+[y].length else jK (kX m F x k) q)
  (λq i j=>if q=k then(if i<jK (kX m F x k) q then kF (kX m F x k) q i j else(E.ng<|iA [y]) (i-jK (kX m F x k) q) j)else kF (kX m F x k) q i j) .none)
  (.iT true T1 T0 n' 7 (jK<|kX m F x<|k+1) (kF<|kX m F x<|k+1) .none):=by
 subst hn hm hy;have hl:∀ q,q<m->(if q=k then jK (kX m F x k) q+[F k x].length else jK (kX m F x k) q)=jK (kX m F x<|k+1) q:=by
  intro q hq;simp only[jK,Gf hq,cv,eu,cI,ff];by_cases h1:q=k
  .subst h1;simp
  .rw [aX h1];by_cases h2:q<k
   .rw [aY h2,aY aC]
   .rw [aX h2,aX aC]
 refine .iT rfl hl (λq i j hq hi hj=>⟨.jP ?_,DX _ _ hj⟩);have lg:=hi;rw[hl q hq]at lg;simp only[jK,Gf hq,cv,eu]at lg;simp only[jK,kF,Gf hq,cv,eu];rw[vC lg];by_cases h1:q=k
 .subst h1;rw[aY rfl,aX<|Nat.lt_irrefl q];rw[aY<|fQ q]at lg;by_cases h2:i<x
  .rw [aY h2,vC h2]
  .have:i=x:= aC ;subst this;rw[aX h2,dA];rfl
 .rw [aX h1];have e:(if q<k then x+1 else x)=if q<k+1 then x+1 else x:=by
   by_cases h2:q<k
   .rw [aY h2,aY aC]
   .rw [aX h2,aX aC]
  rw[e,vC lg]
def aou{T1 T0 n n' m x:Nat}{F:Nat->Nat->Iv}(hn:n=n'):Bx.le (.iT true T1 T0 n 7 (jK<|kX m F x m) (kF<|kX m F x m) .none)<|.iT true T1 T0 n' 7 (jK<|kX m F (x+1) 0) (kF<|kX m F (x+1) 0) .none:=by
 subst hn;rw[aos];exact .refl _
def oB(r:List Iv)(i p:Nat):Nat->Dy
 | 0=>iR
 |k+1=>if k=i then oB r i p k else jN (iM (oB r i p k)<|kn<|r.getD k ik) p true
section
variable(r:List Iv)
def Bp(i p k:Nat):Bool:=decide (k=i)||decide (jC (iM (oB r i p k)<|kn<|r.getD k ik) p true=0)
def Z3(i p:Nat):Bool:=(List.range r.length).all<|Bp r i p
def Da(i p:Nat):Iv:=
 if Z3 r i p then
  if jC (iM (r.getD i ik).lo<|jo<|oB r i p r.length) p false=0/\jC (iM (r.getD i ik).hi<|oB r i p r.length) p true=0 then
   ⟨jN (iM (r.getD i ik).lo<|jo<|oB r i p r.length) p false,jN (iM (r.getD i ik).hi<|oB r i p r.length) p true,false⟩
  else ik
 else ik
def Z4(i p k:Nat):oB r i p (k+1)=if k=i then oB r i p k else jN (iM (oB r i p k)<|kn<|r.getD k ik) p true:=rfl
end
def Rm(r:List Iv)(i:Nat){p:Nat}(hp:1<=p)(ie:p<=4096):∀ k,(oB r i p k).ig
 | 0=>qu
 |k+1=>by
  unfold oB;split
  .exact Rm r i hp ie k
  .exact wF _ hp ie _
def xN(m:List<|List Iv)(p:Nat):Nat->Iv
 | 0=>(m.getD 0 []).getD 0 ik
 |k+1=>je (xN m p k) ((m.getD (k+1) []).getD (k+1) ik) p
def EU(m:List<|List Iv):Bool:=(List.range m.length).any λi=>nD<|m.getD i []
def Eo:List<|Int×FuncId×List FuncId:=[(1,322,[]),(3,323,[73]),(4,324,[163]),
 (7,325,[]),(5,326,[73,68]),(6,327,[99,163,68]),
 (8,328,[68]),(9,329,[68]),(10,330,[99]),
 (11,331,[68]),(12,332,[68]),(13,333,[99])]
def sf(w:World)(b:Nat)(l:List MapEntry):World:={ w with heap:=w.heap.setIfInBounds b<|.map l.toArray l.length }
def ZX{w:World}{b:Nat}(h:b<w.heap.size)(l:List MapEntry):(sf w b l).heap[b]? = some (.map l.toArray l.length):=by simp[sf,h]
def ZY{w:World}{b x:Nat}(h:x≠b)(l:List MapEntry):(sf w b l).heap[x]? = w.heap[x]?:=by simp[sf,Ne.symm h]
def Rg(w:World)(b:Nat)(l:List MapEntry):(sf w b l).heap.size=w.heap.size:=by simp[sf]
def aqb{P:Program}{w:World}{ij:Array Oper}{rest:List Oper}{o:Oper}{a:Act}{Q:Exit->Act->World->Prop}(hg:o.guard=none)(t:TypeId)(iC:o.op = .makeMap t none)
 (h:wpList P ij Q rest (a.put o.dst<|.map<|some w.heap.size)<|sf (w.alloc<|.map #[] 0) w.heap.size []):wpList P ij Q (o::rest) a w:=by
 refine wpList_plain hg λK hK=>?_
 have e:sf (w.alloc<|.map #[] 0) w.heap.size []=w.alloc (.map #[] 0):=by
  unfold sf;have:(w.alloc<|.map #[] 0).heap.setIfInBounds w.heap.size (.map ([]:List MapEntry).toArray ([]:List MapEntry).length)=(w.alloc<|.map #[] 0).heap:=by
   apply Array.ext_getElem?;intro i;rw[arx];split
   .rename_i hi;subst hi;rw[heap_alloc_new];simp
   .rfl
  rw[this]
 rw[e]at h;have hr:(Instr.makeMap t none).run P w = .ok (.map<|some w.heap.size) (w.alloc<|.map #[] 0):=by simp[Instr.makeMap]
 unfold Oper.wp;simp[execOp,iC,hr,Result.andThen];exact hK _ _ h
def xO{w:World}{ij:Array Oper}{rest:List Oper}{o:Oper}{a:Act}{Q:Exit->Act->World->Prop}(hg:o.guard=none)(t:TypeId)(m k x:Operand)(iC:o.op = .insert t m k x)
 (ti tk:TI) (kt et:TypeId) (nE:lP TT t=some ti) (hd:ti.d = .map kt et) (htk:lP TT kt=some tk) (yr:tk.d = .int .i64) (b:Nat) (l:List MapEntry) (z:Int) (v:Value) (hb:b<w.heap.size)
 (hm:a.eval m = .map (some b)) (hz:a.eval k = .int .i64 z) (hv:a.eval x=v) (hn:Instr.findNow (.int .i64) (.int .i64 z) l 0=some none)
 (h:wpList prog ij Q rest (a.put o.dst undef)<|sf w b<|l++[⟨.int .i64 z,v,l.length⟩]):wpList prog ij Q (o::rest) a<|sf w b l:=by
 have hu:prog.underlying t=some (.map kt et):=by rw[CW.qK nE,hd]
 have hk:prog.underlying kt=some (.int .i64):=by rw[CW.qK htk,yr]
 refine wpList_plain hg λK hK=>?_
 have hh:=ZX hb l;have h1:(Instr.mapUpdate t (.map<|some b) (.int .i64 z) v).run prog (sf w b l) = .ok () (sf w b<|l++[⟨.int .i64 z,v,l.length⟩]):=by
  have e2:{ sf w b l with heap:=(sf w b l).heap.setIfInBounds b<|.map (l.toArray.push ⟨.int .i64 z,v,l.length⟩)<|l.length+1 }=sf w b (l++[⟨.int .i64 z,v,l.length⟩]):=by
   simp[sf]
  rw[<-e2];simp[Instr.mapUpdate,run_underlying hu,MapKept.run_getObj_map hh,MapKept.run_checkKey hk (k:=.int .i64 z) (by simp[MapKept.IsKey]) false 9999,MapKept.run_findKey hk hn,MapKept.run_setObj_map _ hh,Result.andThen]
 unfold Oper.wp;simp[execOp,iC,hm,hz,hv,h1,Result.andThen];exact hK _ _ h
def amg(cs:Array Value):Obj->Obj
 | .cells _ elem frozen=>.cells cs elem frozen
 |o=>o
def oL(w:World)(o:Obj):(w.alloc o).heap=w.heap.push o:=rfl
def zj(w:World)(g:Nat)(cs:Array Value):(w.setRow g cs).heap=w.heap.modify g (amg cs):=by
 unfold World.setRow;congr 1
def od(a:Act)(v:Value):a.put none v=a:=rfl
section
variable(a:Act)(d:Option Tmp)(v:Value)
def nQ:(a.put d v).tmps.size=a.tmps.size:=by cases d<;>simp[Act.put]
def amh:(a.put d v).defers=a.defers:=by cases d<;>rfl
end
def nM{a:Act}{d:Tmp}{v:Value}(h:d<a.tmps.size):(a.put (some d) v).eval (.tmp d)=v:=by
 show(a.tmps.setIfInBounds d v).getD d undef=v;simp[h]
def nV{a:Act}{d t:Tmp}{v:Value}(h:¬d=t):(a.put (some d) v).eval (.tmp t)=a.eval (.tmp t):=by
 show(a.tmps.setIfInBounds d v).getD t undef=a.tmps.getD t undef;simp[gp h]
section
variable(bs:Nat->Prop)(w:World)
def Nc(g:FuncId)(v:Value):Prop:=∃ b,v = .pointer (some ⟨b,0,none⟩)/\¬bs b/\b<w.heap.size/\w.cell? ⟨b,0,none⟩=some (.func (.func g) #[] #[])
def Nd(gs:List FuncId)(vs:List Value):Prop:=∀ (i:Nat) (g:FuncId) (v:Value),gs[i]? = some g->vs[i]? = some v->Nc bs w g v
end
section
variable{bs:Nat->Prop}{w:World}
def wR{vs:List Value}:Nd bs w [] vs:=λi g v h=>by simp at h
def vL{g:FuncId}{v:Value}{gs:List FuncId}{vs:List Value}(h:Nc bs w g v)(k:Nd bs w gs vs):Nd bs w (g::gs)<|v::vs:=λi g' v' hg hv=>by
 cases i with
 |zero=>simp at hg hv;subst hg hv;exact h
 |succ i=>exact k i g' v' (by simpa using hg)<|by simpa using hv
end
section
variable{w:World}{ij:Array Oper}{rest:List Oper}{o:Oper}{a:Act}{Q:Exit->Act->World->Prop}(hg:o.guard=none)(t:TypeId)
def M5(x y:Operand)(iC:o.op = .store t x y)(ti:TI)(nE:lP TT t=some ti)(h1:ti.i.size=1)
 (b:Nat) (v c:Value) (E:TypeId) (hx:a.eval x = .pointer (some ⟨b,0,none⟩)) (hy:a.eval y=v) (hv:v.cells = #[v]) (ho:v.oneCell'=true) (hb:w.heap[b]? = some (.cells #[c] E (0,0)))
 (h:wpList prog ij Q rest (a.put o.dst undef)<|w.setRow b #[v]):wpList prog ij Q (o::rest) a w:=by
 refine wpList_plain hg λK hK=>?_
 have hr:=By CW w nE b 0 E #[c] hb v (by rw[hv,h1];rfl) (by rw[hv];exact a7 _) (by rw[hv];intro u hu;simp at hu;subst hu;exact ho);rw[hv]at hr;have e:((#[c]:Array Value).toList.take 0++(#[v]:Array Value).toList++(#[c]:Array Value).toList.drop (0+(#[v]:Array Value).toList.length)).toArray = #[v]:=rfl;rw[e]at hr;unfold Oper.wp;simp[execOp,iC,hx,hy,Instr.storeAt,Instr.sureAddr,hr,Result.andThen];exact hK _ _ h
def M4(iC:o.op = .alloc t)(ti:TI)(nE:lP TT t=some ti)(z:Value)(hz:ti.i.zero=some z)(cs:Array Value)(hc:z.cells=cs)
 (h:wpList prog ij Q rest (a.put o.dst<|.pointer<|some ⟨w.heap.size,0,none⟩)<|w.alloc<|.cells cs t):wpList prog ij Q (o::rest) a w:=by
 refine wpList_plain hg λK hK=>?_
 subst hc;have hr:=Mz CW w nE hz;unfold Oper.wp;simp[execOp,iC,Instr.alloc,hr,newRow,run_newObj_alloc,Result.andThen];exact hK _ _ h
end
section
variable{P:Program}{w:World}{ij:Array Oper}{rest:List Oper}{o:Oper}{a:Act}{Q:Exit->Act->World->Prop}(hg:o.guard=none)
def wp_move(x:Operand)(iC:o.op = .move x\/o.op = .assign x)(v:Value)(hx:a.eval x=v)
 (h:wpList P ij Q rest (a.put o.dst v) w):wpList P ij Q (o::rest) a w:=by
 refine wpList_plain hg λK hK=>?_
 unfold Oper.wp;rcases iC with iC|iC
 .simp [execOp,iC,hx,Result.andThen];exact hK _ _ h
 .simp [execOp,iC,hx,Result.andThen];exact hK _ _ h
def Am(f:FuncId)(cs:Array Operand)(iC:o.op = .makeFunc (.func f) #[] cs)(vs:Array Value)(hv:cs.map a.eval=vs)
 (h:wpList P ij Q rest (a.put o.dst<|.func (.func f) #[] vs) w):wpList P ij Q (o::rest) a w:=by
 refine wpList_plain hg λK hK=>?_
 unfold Oper.wp;simp[execOp,iC,Instr.makeFunc,hv,Result.andThen];exact hK _ _ h
end
set_option maxRecDepth 100000 in
def anO:ic 277 []<|.mp Eo:=by
 refine⟨call277,λw B vs hK hB hr=>?_⟩;obtain rfl:=hr.re;show Calls _ _ #[] w _;clear hr hK;go_enter func277,ntmps277;refine wp_seq<|wp_region_list ?_;refine wp_move aG _ (.inr aG) _ aG<|wpList_nil ?_;refine wp_seq<|wp_region_list ?_;refine M4 aG _ aG _ aG _ aG #[.nilFunc] aG ?_;refine M4 aG _ aG _ aG _ aG #[.nilFunc] aG ?_;refine M4 aG _ aG _ aG _ aG #[.nilFunc] aG ?_;refine M4 aG _ aG _ aG _ aG #[.nilFunc] aG ?_;refine M5 aG _ _ _ aG _ aG aG _ (.func (.func 68) #[] #[]) .nilFunc 104 aG aG aG aG (by(simp only[oL,zj,dK,eB,cV,dL];repeat (first|rw[aY trivial]|rw[aY aC]|rw[aX aC]))) ?_;refine M5 aG _ _ _ aG _ aG aG _ (.func (.func 99) #[] #[]) .nilFunc 104 aG aG aG aG (by(simp only[oL,zj,dK,eB,cV,dL];repeat (first|rw[aY trivial]|rw[aY aC]|rw[aX aC]))) ?_;refine M5 aG _ _ _ aG _ aG aG _ (.func (.func 73) #[] #[]) .nilFunc 104 aG aG aG aG (by(simp only[oL,zj,dK,eB,cV,dL];repeat (first|rw[aY trivial]|rw[aY aC]|rw[aX aC]))) ?_;refine M5 aG _ _ _ aG _ aG aG _ (.func (.func 163) #[] #[]) .nilFunc 104 aG aG aG aG (by(simp only[oL,zj,dK,eB,cV,dL];repeat (first|rw[aY trivial]|rw[aY aC]|rw[aX aC]))) ?_;refine wpList_nil ?_;generalize hW:World.setRow _ _ _=W;have s0:W.heap.size=w.heap.size+4:=by rw[<-hW];simp[oL,zj]
 have so:W.os=w.os:=by rw[<-hW];rfl
 have st:W.tape=w.tape:=by rw[<-hW];rfl
 have sp:W.output=w.output:=by rw[<-hW];rfl
 have s1:∀ x,x<w.heap.size->W.heap[x]? = w.heap[x]?:=λx hx=>by
  rw[<-hW];simp only[oL,zj,dK,eB,cV,dL]
  repeat (first|rw[aY trivial]|rw[aY aC]|rw[aX aC])
 generalize ha:Act.put _ _ _=a;have e1:a.eval (.tmp 1) = .pointer (some ⟨w.heap.size,0,none⟩):=by rw[<-ha];rfl
 have e2:a.eval (.tmp 2) = .pointer (some ⟨w.heap.size+1,0,none⟩):=by rw[<-ha,show w.heap.size+1=(w.alloc<|.cells #[.nilFunc] 104).heap.size by simp[oL]];rfl
 have e3:a.eval (.tmp 3) = .pointer (some ⟨w.heap.size+2,0,none⟩):=by rw[<-ha,show w.heap.size+2=((w.alloc<|.cells #[.nilFunc] 104).alloc<|.cells #[.nilFunc] 104).heap.size by simp[oL]];rfl
 have e4:a.eval (.tmp 4) = .pointer (some ⟨w.heap.size+3,0,none⟩):=by rw[<-ha,show w.heap.size+3=(((w.alloc<|.cells #[.nilFunc] 104).alloc<|.cells #[.nilFunc] 104).alloc<|.cells #[.nilFunc] 104).heap.size by simp[oL]];rfl
 have sz:a.tmps.size=17:=by rw[<-ha];rfl
 have hd:a.defers=[]:=by rw[<-ha];rfl
 have c1:W.heap[w.heap.size]? = some (.cells #[.func (.func 68) #[] #[]] 104 (0,0)):=by
  rw[<-hW];simp only[oL,zj,dK,eB,cV,dL]
  repeat (first|rw[aY trivial]|rw[aY aC]|rw[aX aC])
  rfl
 have c2:W.heap[w.heap.size+1]? = some (.cells #[.func (.func 99) #[] #[]] 104 (0,0)):=by
  rw[<-hW];simp only[oL,zj,dK,eB,cV,dL]
  repeat (first|rw[aY trivial]|rw[aY aC]|rw[aX aC])
  rfl
 have c3:W.heap[w.heap.size+2]? = some (.cells #[.func (.func 73) #[] #[]] 104 (0,0)):=by
  rw[<-hW];simp only[oL,zj,dK,eB,cV,dL]
  repeat (first|rw[aY trivial]|rw[aY aC]|rw[aX aC])
  rfl
 have c4:W.heap[w.heap.size+3]? = some (.cells #[.func (.func 163) #[] #[]] 104 (0,0)):=by
  rw[<-hW];simp only[oL,zj,dK,eB,cV,dL]
  repeat (first|rw[aY trivial]|rw[aY aC]|rw[aX aC])
  rfl
 clear hW ha;refine wp_seq<|wp_region_list ?_;refine aqb aG _ aG ?_;refine xO aG _ _ _ _ aG _ _ _ _ aG aG aG aG _ _ _ (.func (.func 322) #[] #[]) (by simp[oL]) (by simp[od,nQ,nM,nV,e1,e2,e3,e4,sz]) aG aG aG ?_;refine Am aG _ _ aG #[.pointer<|some ⟨w.heap.size+2,0,none⟩] (by simp[od,nQ,nM,nV,e1,e2,e3,e4,sz]) ?_;refine xO aG _ _ _ _ aG _ _ _ _ aG aG aG aG _ _ _ (.func (.func 323) #[] #[.pointer<|some ⟨w.heap.size+2,0,none⟩]) (by simp[oL]) (by simp[od,nQ,nM,nV,e1,e2,e3,e4,sz]) aG (by simp[od,nQ,nM,nV,e1,e2,e3,e4,sz]) aG ?_;refine Am aG _ _ aG #[.pointer<|some ⟨w.heap.size+3,0,none⟩] (by simp[od,nQ,nM,nV,e1,e2,e3,e4,sz]) ?_;refine xO aG _ _ _ _ aG _ _ _ _ aG aG aG aG _ _ _ (.func (.func 324) #[] #[.pointer<|some ⟨w.heap.size+3,0,none⟩]) (by simp[oL]) (by simp[od,nQ,nM,nV,e1,e2,e3,e4,sz]) aG (by simp[od,nQ,nM,nV,e1,e2,e3,e4,sz]) aG ?_;refine xO aG _ _ _ _ aG _ _ _ _ aG aG aG aG _ _ _ (.func (.func 325) #[] #[]) (by simp[oL]) (by simp[od,nQ,nM,nV,e1,e2,e3,e4,sz]) aG aG aG ?_
 refine Am aG _ _ aG #[.pointer<|some ⟨w.heap.size+2,0,none⟩,.pointer<|some ⟨w.heap.size,0,none⟩] (by simp[od,nQ,nM,nV,e1,e2,e3,e4,sz]) ?_;refine xO aG _ _ _ _ aG _ _ _ _ aG aG aG aG _ _ _ (.func (.func 326) #[] #[.pointer<|some ⟨w.heap.size+2,0,none⟩,.pointer<|some ⟨w.heap.size,0,none⟩]) (by simp[oL]) (by simp[od,nQ,nM,nV,e1,e2,e3,e4,sz]) aG (by simp[od,nQ,nM,nV,e1,e2,e3,e4,sz]) aG ?_;refine Am aG _ _ aG #[.pointer<|some ⟨w.heap.size+1,0,none⟩,.pointer<|some ⟨w.heap.size+3,0,none⟩,.pointer<|some ⟨w.heap.size,0,none⟩] (by simp[od,nQ,nM,nV,e1,e2,e3,e4,sz]) ?_;refine xO aG _ _ _ _ aG _ _ _ _ aG aG aG aG _ _ _ (.func (.func 327) #[] #[.pointer<|some ⟨w.heap.size+1,0,none⟩,.pointer<|some ⟨w.heap.size+3,0,none⟩,.pointer<|some ⟨w.heap.size,0,none⟩]) (by simp[oL]) (by simp[od,nQ,nM,nV,e1,e2,e3,e4,sz]) aG (by simp[od,nQ,nM,nV,e1,e2,e3,e4,sz]) aG ?_;refine Am aG _ _ aG #[.pointer<|some ⟨w.heap.size,0,none⟩] (by simp[od,nQ,nM,nV,e1,e2,e3,e4,sz]) ?_
 refine xO aG _ _ _ _ aG _ _ _ _ aG aG aG aG _ _ _ (.func (.func 328) #[] #[.pointer<|some ⟨w.heap.size,0,none⟩]) (by simp[oL]) (by simp[od,nQ,nM,nV,e1,e2,e3,e4,sz]) aG (by simp[od,nQ,nM,nV,e1,e2,e3,e4,sz]) aG ?_;refine Am aG _ _ aG #[.pointer<|some ⟨w.heap.size,0,none⟩] (by simp[od,nQ,nM,nV,e1,e2,e3,e4,sz]) ?_;refine xO aG _ _ _ _ aG _ _ _ _ aG aG aG aG _ _ _ (.func (.func 329) #[] #[.pointer<|some ⟨w.heap.size,0,none⟩]) (by simp[oL]) (by simp[od,nQ,nM,nV,e1,e2,e3,e4,sz]) aG (by simp[od,nQ,nM,nV,e1,e2,e3,e4,sz]) aG ?_;refine Am aG _ _ aG #[.pointer<|some ⟨w.heap.size+1,0,none⟩] (by simp[od,nQ,nM,nV,e1,e2,e3,e4,sz]) ?_;refine xO aG _ _ _ _ aG _ _ _ _ aG aG aG aG _ _ _ (.func (.func 330) #[] #[.pointer<|some ⟨w.heap.size+1,0,none⟩]) (by simp[oL]) (by simp[od,nQ,nM,nV,e1,e2,e3,e4,sz]) aG (by simp[od,nQ,nM,nV,e1,e2,e3,e4,sz]) aG ?_;refine Am aG _ _ aG #[.pointer<|some ⟨w.heap.size,0,none⟩] (by simp[od,nQ,nM,nV,e1,e2,e3,e4,sz]) ?_
 refine xO aG _ _ _ _ aG _ _ _ _ aG aG aG aG _ _ _ (.func (.func 331) #[] #[.pointer<|some ⟨w.heap.size,0,none⟩]) (by simp[oL]) (by simp[od,nQ,nM,nV,e1,e2,e3,e4,sz]) aG (by simp[od,nQ,nM,nV,e1,e2,e3,e4,sz]) aG ?_;refine Am aG _ _ aG #[.pointer<|some ⟨w.heap.size,0,none⟩] (by simp[od,nQ,nM,nV,e1,e2,e3,e4,sz]) ?_;refine xO aG _ _ _ _ aG _ _ _ _ aG aG aG aG _ _ _ (.func (.func 332) #[] #[.pointer<|some ⟨w.heap.size,0,none⟩]) (by simp[oL]) (by simp[od,nQ,nM,nV,e1,e2,e3,e4,sz]) aG (by simp[od,nQ,nM,nV,e1,e2,e3,e4,sz]) aG ?_;refine Am aG _ _ aG #[.pointer<|some ⟨w.heap.size+1,0,none⟩] (by simp[od,nQ,nM,nV,e1,e2,e3,e4,sz]) ?_;refine xO aG _ _ _ _ aG _ _ _ _ aG aG aG aG _ _ _ (.func (.func 333) #[] #[.pointer<|some ⟨w.heap.size+1,0,none⟩]) (by simp[oL]) (by simp[od,nQ,nM,nV,e1,e2,e3,e4,sz]) aG (by simp[od,nQ,nM,nV,e1,e2,e3,e4,sz]) aG ?_;refine wp_move aG _ (.inl aG) (.map<|some W.heap.size) (by simp[od,nQ,nM,nV,sz]) ?_;refine wp_move aG _ (.inr aG) (.map<|some W.heap.size) (by simp[od,nQ,nM,nV,sz])<|wpList_nil ?_;refine wp_ret ?_;generalize hz:Act.put _ _ _=z;have z0:z.eval (.tmp 0) = .map (some W.heap.size):=by rw[<-hz];exact nM<|by simp[nQ,sz]
 have zd:z.defers=[]:=by rw[<-hz];simp only[amh,hd]
 clear hz;refine⟨zd,.map<|some W.heap.size,?_,_,rfl,?_,?_⟩
 .rw [<-z0];unfold results;rw[show f277.results = #[.tmp 0]from rfl];simp;show _=z.tmps.getD 0 undef;simp
 .refine ⟨so,st,sp,by simp[Rg,oL];omega,λx hx=>?_⟩;rw[ZY aC,oL,dL,aX aC,s1 x hx]
 .have bx:∀ (k:Nat) (g:FuncId),k<4->W.heap[w.heap.size+k]? = some (.cells #[.func (.func g) #[] #[]] 104 (0,0))->∀ L,Nc B (sf (W.alloc<|.map #[] 0) W.heap.size L) g (.pointer<|some ⟨w.heap.size+k,0,none⟩):=λk g hk hc L=>by
   refine⟨_,rfl,λh=>?_,?_,?_⟩
   .have:=(hB _ h).1;omega
   .simp [Rg,oL];omega
   .have e:(sf (W.alloc<|.map #[] 0) W.heap.size L).heap[w.heap.size+k]? = some (.cells #[.func (.func g) #[] #[]] 104 (0,0)):=by
     rw[ZY aC,oL,dL,aX aC,hc]
    simp[World.cell?,e]
  have b1:=bx 0 _ aE c1;have b2:=bx 1 _ aE c2;have b3:=bx 2 _ aE c3;have b4:=bx 3 _ aE c4;refine .mp _ _ _ _ (λh=>?_) (by simp[Rg,oL]) (ZX (by simp[oL]) _) ?_
  .have:=(hB _ h).1;omega
  .exact ⟨⟨rfl,_,rfl,rfl,wR⟩,⟨⟨rfl,_,rfl,rfl,vL (b3 _) wR⟩,⟨⟨rfl,_,rfl,rfl,vL (b4 _) wR⟩,⟨⟨rfl,_,rfl,rfl,wR⟩,⟨⟨rfl,_,rfl,rfl,vL (b3 _)<|vL (b1 _) wR⟩,⟨⟨rfl,_,rfl,rfl,vL (b2 _)<|vL (b4 _)<|vL (b1 _) wR⟩,⟨⟨rfl,_,rfl,rfl,vL (b1 _) wR⟩,⟨⟨rfl,_,rfl,rfl,vL (b1 _) wR⟩,⟨⟨rfl,_,rfl,rfl,vL (b2 _) wR⟩,⟨⟨rfl,_,rfl,rfl,vL (b1 _) wR⟩,⟨⟨rfl,_,rfl,rfl,vL (b1 _) wR⟩,⟨⟨rfl,_,rfl,rfl,vL (b2 _) wR⟩,trivial⟩⟩⟩⟩⟩⟩⟩⟩⟩⟩⟩⟩
def afh:jU 1=0:= aL 
def T5(e:Int):canon false 1 e=⟨false,1,e⟩:=by
 unfold canon;rw[aX aE,afh];simp
def pz(k:Int):Dy:=⟨false,1,k⟩
section
variable{k:Int}(h1:-100<=k)(h2:k<=100)
def Se:nj<|pz k:=.inr ⟨by show iq 1<=4096;rw[wP];decide,by show -16384<=k;omega,by show k<=16384;omega,by show(iq 1:Int)+k<=16384;rw[wP];omega⟩
def Sg:(pz k).ig:=⟨by have:=tl false 1 k;rwa[T5]at this,Se h1 h2⟩
end
def Sf(k:Int):¬(pz k).jc<0:=by
 rw[(rX _).2,qs];show ¬(if false=true then _ else((1:Nat):Rat)*P2 k)<0;rw[aX aE];have:=nJ k
 grind
def aba{d:Dy}(h:¬d.jc<0):0<=d.q:=by
 rw[(rX d).2]at h
 grind
noncomputable def sr(s:kp)(x:List Iv)(h:Dy)(p:Nat)(k:Int):Bool:=rZ x (pz k)&&tD s x h (su x<|pz k) p
def Bz(d:Dy):Dy:=kQ<|canon d.neg d.m<|d.e + -3
def RU(d:Dy):Int:=mN<|canon d.neg d.m<|d.e + -3
def sL(x:List Iv)(p:Nat):Dy:=if JT x p then oh x p x.length else iR
noncomputable def mc(s:kp)(x:List Iv)(h:Dy)(b:List Iv)(p:Nat):List Iv:=
 if lh s x h b p=[]then[]else
 if JT (ns x<|lh s x h b p) p=false\/(sL (ns x<|lh s x h b p) p).jc=0 then ns x (lh s x h b p)else
 if RU (sL (ns x<|lh s x h b p) p)≠0 then ns x (lh s x h b p)else
 if rZ (ns x<|lh s x h b p) (Bz<|sL (ns x<|lh s x h b p) p)then su (ns x<|lh s x h b p) (Bz<|sL (ns x<|lh s x h b p) p)else ns x (lh s x h b p)
noncomputable def lK(s:kp)(x:List Iv)(h:Dy)(p:Nat):Nat->List Iv
 | 0=>x
 |j+1=>mc s x h (lK s x h p j) p
def aaQ(d:Dy):(Bz d).ig:=NQ<|tl _ _ _
def aaP{d:Dy}(h:0<=d.q):0<=(Bz d).q:=by
 unfold Bz kQ;split
 .rw [si];rw[qs]at h;have p1:=nJ d.e;have p2:=nJ<|d.e + -3;have m0:(0:Rat)<=(d.m:Rat):=by exact_mod_cast b7 d.m
  split
  .rename_i hn;rw[aY hn]at h;have hm:(d.m:Rat)*P2 d.e=0:=by
    have:=bH m0<|bE p1
    grind
   have xi:(d.m:Rat)=0:=by
    rcases Rat.mul_eq_zero.1 hm with q|q
    .exact q
    .grind
   rw[xi]
   grind
  .exact bH m0<|bE p2
 .rw [s6];exact bV
def acd(x:List Iv)(p:Nat):∀ k,0<=(oh x p k).q
 | 0=>by show 0<=iR.q;rw[s6];exact bV
 |k+1=>by
  have ih:=acd x p k;show 0<=(if 0<jm (po (x.getD k ik) p) (oh x p k)then po (x.getD k ik) p else oh x p k).q;split
  .rename_i h;have:¬jm (po (x.getD k ik) p) (oh x p k)<=0:= aC ;rw[pg]at this
   grind
  .exact ih
def ace(x:List Iv)(p:Nat):0<=(sL x p).q:=by
 unfold sL;split
 .exact acd x p _
 .rw [s6];exact bV
def aml{d:Dy}(h:0<=d.q):¬d.jc<0:=by
 rw[(rX d).2]
 grind
def EF{s:kp}{x b:List Iv}{h:Dy}{p n:Nat}(hx:kH n x)(hp:1<=p)(ie:p<=4096)(jD:mc s x h b p≠[]):kH n<|mc s x h b p:=by
 unfold mc at jD ⊢;split at jD
 .exact absurd rfl jD
 .rename_i h1;rw[aX h1];have hh:=Xi hx<|P5 hx hp ie h1;split
  .exact hh
  .split
   .exact hh
   .split
    .rename_i hg;exact ON hh (aaQ _) (aaP<|ace _ _) hg
    .exact hh
section
variable(a b:List Iv)(g:FuncId)(cap:List E)
def Tk(i:Nat):PS:=⟨32,false,[(17,.e<|iP i),(16,.e<|iP a.length),(15,.e<|iA a),(1,.e<|iA b),(2,.e<|.fn g cap)],[]⟩
def Tj(N:Nat)(i:Nat):PS:=⟨32,false,[(17,.e<|iP i),(16,.e<|iP a.length),(15,.e<|iA a),(1,.e<|iA b),(2,.e<|.fn g cap)],[]⟩
end
section
variable(x:List Iv)(d:Dy)
def Tn(i:Nat):PS:=⟨60,true,[(6,.own 6),(28,.e<|iP i),(27,.e<|iP x.length),(26,.e<|iA x),(3,.box 3 0)],[(6,.row true 41 i 7<|jL<|(List.range i).map λj_=>rq (x.getD j_ ik) d),(3,.cells 37<|jf d)]⟩
def Tl(N:Nat)(i:Nat):PS:=⟨60,true,[(6,.own 6),(28,.e<|iP i),(27,.e<|iP x.length),(26,.e<|iA x),(3,.box 3 0)],[(6,.row true 41 i 7<|jL<|(List.range i).map λj_=>rq (x.getD j_ ik) d),(3,.cells 37<|jf d)]⟩
def Tm(N:Nat)(i:Nat):PS:=⟨60,true,[(6,.own 6),(28,.e<|iP i),(27,.e<|iP x.length),(26,.e<|iA x),(3,.box 3 0)],[(6,.row true 41 i 7<|jL<|(List.range i).map λj_=>rq (x.getD j_ ik) d),(3,.cells 37<|jf d)]⟩
end
def To(a b:List Iv)(i:Nat):PS:=⟨30,true,[(5,.own 5),(13,.e<|iP i),(12,.e<|iP a.length),(0,.e<|iA a),(1,.e<|iA b)],[(5,.row true 41 i 7<|jL<|(List.range i).map λj_=>q8 (a.getD j_ ik)<|b.getD j_ ik)]⟩
def TE(x:List Iv)(p:Nat)(i:Nat):PS:=⟨42,true,[(22,.e<|iP i),(21,.e<|iP x.length),(20,.e<|iA x),(6,.box 6 0),(4,.box 4 0),(1,.e<|iP p)],[(6,.cells 37<|jf<|oh x p i),(4,.cells 37 ar)]⟩
def TD(x:List Iv)(p:Nat)(N:Nat)(i:Nat):PS:=⟨42,true,[(22,.e<|iP i),(21,.e<|iP x.length),(20,.e<|iA x),(6,.box 6 0),(4,.box 4 0),(1,.e<|iP p)],[(6,.cells 37<|jf<|oh x p i),(4,.cells 37 ar)]⟩
def ad7(x:Iv)(hx:x.ig)(xa:x.all=false):ic 238 [im x]<|bP false:=
 iy (af [ai 4 x.all xa,.c<|pe x aD])
def C1(b:List Iv)(h1:1<=b.length)(h8:b.length<=8)(hb:qN b):ic 185 [iA b]<|bP true:=
 iy (af [tT 5 (1<=(b.length:Int)) aC,tT 9 ((b.length:Int)<=8) aC,.c (zJ true _ _ 238 [] (λ_=>false) (λi hi=>ad7 _ (hb i hi).1 (hb i hi).2) aC λ_ _=>rfl:ic 39 [iA b,.fn 238 []] _)])
section
variable(a b:List Iv)
def TR(a1:1<=a.length)(a8:a.length<=8)(hl:b.length=a.length)(ha:qN a)(hb:qN b):ic 189 [iA a,iA b]<|bP true:=
 iy (af [.c<|C1 a aC aC aD,.c<|C1 b aC aC aD,ah 16 ((a.length:Int)==b.length)<|FP aC])
section
variable(g:FuncId)(cap:List E)(f:Nat->Bool)(hl:b.length=a.length)(h8:a.length<=1000)(hp:∀ i,i<a.length->ic g ((im<|a.getD i ik)::(im<|b.getD i ik)::cap) (bP<|f i))
def adb(jH:∀ i,i<a.length->f i=true):ic 32 [iA a,iA b,.fn g cap]<|bP true:=
 sH (af [ai 14 ((a.length:Int) != (b.length:Int))<|vt,.s (Sp.jX (Tk a b g cap) 0 a.length aC (λi hi rA=>by
    exact iS (af [tT 18 ((i:Int)<a.length) aC,iX (i:Int)<|a.length,iX (i:Int)<|b.length,.c (hp i aC:ic g ((im<|a.getD i ik)::(im<|b.getD i ik)::cap) _),ah 29 (f i)<|jH i aC,iD<|(i:Int)+1]) aF)
  (λhi=>by
    exact iS (af [tF 18 ((a.length:Int)<a.length) aC]) aF) aI:jW 4 Tryz.f32 (Tk a b g cap 0) (.exit 0) ⟨32,false,[],[]⟩) .nil])
def ac9(N:Nat)(pR:N<a.length)(jH:∀ i,i<N->f i=true)(hN:f N=false):ic 32 [iA a,iA b,.fn g cap]<|bP false:=
 sH (af [ai 14 ((a.length:Int) != (b.length:Int))<|vt,.s (Sp.jX (Tj a b g cap N) 0 N aC (λi hi rA=>by
    exact iS (af [tT 18 ((i:Int)<a.length) aC,iX (i:Int)<|a.length,iX (i:Int)<|b.length,.c (hp i aC:ic g ((im<|a.getD i ik)::(im<|b.getD i ik)::cap) _),ah 29 (f i)<|jH i aC,iD<|(i:Int)+1]) aF)
  (λhi=>by
    exact iS (af [tT 18 ((N:Int)<a.length) aC,iX (N:Int)<|a.length,iX (N:Int)<|b.length,.c (hp N aC:ic g ((im<|a.getD N ik)::(im<|b.getD N ik)::cap) _),ai 29 (f N) hN]) aF) aI:jW 4 Tryz.f32 (Tj a b g cap N 0) .ret ⟨32,false,[(6,.e<|bP false)],[]⟩) .nil])
def ada:ic 32 [iA a,iA b,.fn g cap]<|bP<|(List.range a.length).all f:=by
 by_cases h:∃ i,i<a.length/\(!(f i))=true
 .obtain ⟨N,h1,h2,h3⟩:=sD (p:=λi=>!(f i)) h;refine(ac9 a b g cap f hl h8 hp N h1 (λi hi=>by simpa using h3 i hi)<|by simpa using h2).jA<|.jP ?_;rw[show(List.range a.length).all f=false from art.2 ⟨N,bS.2 h1,by simpa using h2⟩]
 .have hh:∀ i,i<a.length->f i=true:=λi hi=>by
   cases hf:f i
   .exact absurd ⟨i,hi,by rw[hf];rfl⟩ h
   .rfl
  refine(adb a b g cap f hl h8 hp hh).jA<|.jP ?_;rw[show(List.range a.length).all f=true from bR.2 λi hi=>hh i<|bS.1 hi]
end
def TO(a1:1<=a.length)(a8:a.length<=8)(hl:b.length=a.length)(ha:qN a)(hb:qN b):ic 110 [iA a,iA b]<|bP<|wi a b:=
 iy (af [.c<|TR a b aC aC aC aD aD,.c<|ada a b 56 [] (λi=>zG (a.getD i ik)<|b.getD i ik) hl aC λi hi=>Ts _ _ (ha i hi).1 (hb i aC).1])
end
def OO{x:Iv}{d:Dy}(h:wY x d=true):mN (iM x.lo<|jo d)=0/\mN (iM x.hi d)=0:=by
 unfold wY at h;rwa[bD,cz,cz]at h
section
variable(x:List Iv)(d:Dy)
section
variable(x1:1<=x.length)(x8:x.length<=8)(hx:qN x)(hd:d.ig)(h0:¬d.jc<0)
def ad5(jH:∀ i,i<x.length->wY (x.getD i ik) d=true):ic 108 [iA x,iw d]<|.ix [iA<|(List.range x.length).map λj_=>rq (x.getD j_ ik) d,iP 0]:=
 iy (af [.c<|C1 x aC aC aD,.c<|qk d aD,.c<|nL d aD,tB 24<|a6 h0,.y 6 6 true 41 7<|jL<|(List.range 0).map λj_=>rq (x.getD j_ ik) d,.s (Sp.jX (Tn x d) 0 x.length aC (λi hi rA=>by
    obtain⟨w1,w2⟩:=(hx i aC).1.jj;obtain⟨g1,g2⟩:=OO<|jH i aC;have sT:=qH<|Iv.mk (kQ<|iM (x.getD i ik).lo<|jo d) (kQ<|iM (x.getD i ik).hi d) false;exact iS (ae [tT 29 ((i:Int)<x.length) aC,iX (i:Int)<|x.length,.c<|GP ((x.getD i ik).lo) d aD aD,.c<|GN ((x.getD i ik).hi) d aD aD,ai 47 ((mN<|iM ((x.getD i ik).lo)<|jo d) != 0)<|by rw[g1];rfl,ai 50 ((mN<|iM ((x.getD i ik).hi) d) != 0)<|by rw[g2];rfl,.o 56<|.e<|lW<|Iv.mk (kQ<|iM ((x.getD i ik).lo)<|jo d) (kQ<|iM ((x.getD i ik).hi) d) false,.a (aC:(i+[Iv.mk (kQ<|iM ((x.getD i ik).lo)<|jo d) (kQ<|iM ((x.getD i ik).hi) d) false].length)*88<=140737488355328),iD<|(i:Int)+1]<|.e<|af [.b 6 (zL rfl rfl rfl:Bx.le (.row true 41 (i+[Iv.mk (kQ<|iM ((x.getD i ik).lo)<|jo d) (kQ<|iM ((x.getD i ik).hi) d) false].length) 7 λi_ j_=>if i_<i then(jL<|(List.range i).map λj_=>rq (x.getD j_ ik) d) i_ j_ else(E.ng<|iA [Iv.mk (kQ<|iM ((x.getD i ik).lo)<|jo d) (kQ<|iM ((x.getD i ik).hi) d) false]) (i_-i) j_)<|.row true 41 (i+1) 7<|jL<|(List.range<|i+1).map λj_=>rq (x.getD j_ ik) d)]) aF)
  (λhi=>by
    exact iS (ae [tF 29 ((x.length:Int)<x.length) aC,.z 6]<|.e<|af [.o 6 (.e<|zK aH:aj (.sl true x.length 7<|jL<|(List.range x.length).map λj_=>rq (x.getD j_ ik) d)<|iA<|(List.range x.length).map λj_=>rq (x.getD j_ ik) d)]) aF) aI:jW 5 f108 (Tn x d 0) (.exit 0) ⟨60,true,[(6,.e<|iA<|(List.range x.length).map λj_=>rq (x.getD j_ ik) d)],[]⟩) .nil])
section
variable(N:Nat)(pR:N<x.length)(jH:∀ i,i<N->wY (x.getD i ik) d=true)
def ad3(hN:mN (iM (x.getD N ik).lo<|jo d)≠0):ic 108 [iA x,iw d]<|.ix [.v<|.slice none 0 0,iP 9]:=
 iy (af [.c<|C1 x aC aC aD,.c<|qk d aD,.c<|nL d aD,tB 24<|a6 h0,.y 6 6 true 41 7<|jL<|(List.range 0).map λj_=>rq (x.getD j_ ik) d,.s (Sp.jX (Tl x d N) 0 N aC (λi hi rA=>by
    obtain⟨w1,w2⟩:=(hx i aC).1.jj;obtain⟨g1,g2⟩:=OO<|jH i aC;have sT:=qH<|Iv.mk (kQ<|iM (x.getD i ik).lo<|jo d) (kQ<|iM (x.getD i ik).hi d) false;exact iS (ae [tT 29 ((i:Int)<x.length) aC,iX (i:Int)<|x.length,.c<|GP ((x.getD i ik).lo) d aD aD,.c<|GN ((x.getD i ik).hi) d aD aD,ai 47 ((mN<|iM ((x.getD i ik).lo)<|jo d) != 0)<|by rw[g1];rfl,ai 50 ((mN<|iM ((x.getD i ik).hi) d) != 0)<|by rw[g2];rfl,.o 56<|.e<|lW<|Iv.mk (kQ<|iM ((x.getD i ik).lo)<|jo d) (kQ<|iM ((x.getD i ik).hi) d) false,.a (aC:(i+[Iv.mk (kQ<|iM ((x.getD i ik).lo)<|jo d) (kQ<|iM ((x.getD i ik).hi) d) false].length)*88<=140737488355328),iD<|(i:Int)+1]<|.e<|af [.b 6 (zL rfl rfl rfl:Bx.le (.row true 41 (i+[Iv.mk (kQ<|iM ((x.getD i ik).lo)<|jo d) (kQ<|iM ((x.getD i ik).hi) d) false].length) 7 λi_ j_=>if i_<i then(jL<|(List.range i).map λj_=>rq (x.getD j_ ik) d) i_ j_ else(E.ng<|iA [Iv.mk (kQ<|iM ((x.getD i ik).lo)<|jo d) (kQ<|iM ((x.getD i ik).hi) d) false]) (i_-i) j_)<|.row true 41 (i+1) 7<|jL<|(List.range<|i+1).map λj_=>rq (x.getD j_ ik) d)]) aF)
  (λhi=>by
    obtain⟨w1,w2⟩:=(hx N aC).1.jj;exact iS (af [tT 29 ((N:Int)<x.length) aC,iX (N:Int)<|x.length,.c<|GP ((x.getD N ik).lo) d aD aD,.c<|GN ((x.getD N ik).hi) d aD aD,ah 47 ((mN<|iM ((x.getD N ik).lo)<|jo d) != 0)<|by simpa using hN]) aF) aI:jW 5 f108 (Tl x d N 0) .ret ⟨60,true,[(5,.e<|iP 9),(4,.e<|.v<|.slice none 0 0)],[]⟩) .nil])
def ad4(hM:mN (iM (x.getD N ik).lo<|jo d)=0)(hN:mN (iM (x.getD N ik).hi d)≠0):ic 108 [iA x,iw d]<|.ix [.v<|.slice none 0 0,iP 9]:=
 iy (af [.c<|C1 x aC aC aD,.c<|qk d aD,.c<|nL d aD,tB 24<|a6 h0,.y 6 6 true 41 7<|jL<|(List.range 0).map λj_=>rq (x.getD j_ ik) d,.s (Sp.jX (Tm x d N) 0 N aC (λi hi rA=>by
    obtain⟨w1,w2⟩:=(hx i aC).1.jj;obtain⟨g1,g2⟩:=OO<|jH i aC;have sT:=qH<|Iv.mk (kQ<|iM (x.getD i ik).lo<|jo d) (kQ<|iM (x.getD i ik).hi d) false;exact iS (ae [tT 29 ((i:Int)<x.length) aC,iX (i:Int)<|x.length,.c<|GP ((x.getD i ik).lo) d aD aD,.c<|GN ((x.getD i ik).hi) d aD aD,ai 47 ((mN<|iM ((x.getD i ik).lo)<|jo d) != 0)<|by rw[g1];rfl,ai 50 ((mN<|iM ((x.getD i ik).hi) d) != 0)<|by rw[g2];rfl,.o 56<|.e<|lW<|Iv.mk (kQ<|iM ((x.getD i ik).lo)<|jo d) (kQ<|iM ((x.getD i ik).hi) d) false,.a (aC:(i+[Iv.mk (kQ<|iM ((x.getD i ik).lo)<|jo d) (kQ<|iM ((x.getD i ik).hi) d) false].length)*88<=140737488355328),iD<|(i:Int)+1]<|.e<|af [.b 6 (zL rfl rfl rfl:Bx.le (.row true 41 (i+[Iv.mk (kQ<|iM ((x.getD i ik).lo)<|jo d) (kQ<|iM ((x.getD i ik).hi) d) false].length) 7 λi_ j_=>if i_<i then(jL<|(List.range i).map λj_=>rq (x.getD j_ ik) d) i_ j_ else(E.ng<|iA [Iv.mk (kQ<|iM ((x.getD i ik).lo)<|jo d) (kQ<|iM ((x.getD i ik).hi) d) false]) (i_-i) j_)<|.row true 41 (i+1) 7<|jL<|(List.range<|i+1).map λj_=>rq (x.getD j_ ik) d)]) aF)
  (λhi=>by
    obtain⟨w1,w2⟩:=(hx N aC).1.jj;exact iS (af [tT 29 ((N:Int)<x.length) aC,iX (N:Int)<|x.length,.c<|GP ((x.getD N ik).lo) d aD aD,.c<|GN ((x.getD N ik).hi) d aD aD,ai 47 ((mN<|iM ((x.getD N ik).lo)<|jo d) != 0)<|by rw[hM];rfl,ah 50 ((mN<|iM ((x.getD N ik).hi) d) != 0)<|by simpa using hN]) aF) aI:jW 5 f108 (Tm x d N 0) .ret ⟨60,true,[(5,.e<|iP 9),(4,.e<|.v<|.slice none 0 0)],[]⟩) .nil])
end
end
def B8:Int:=if rZ x d then 0 else 9
def TN(x1:1<=x.length)(x8:x.length<=8)(hx:qN x)(hd:d.ig)(h0:¬d.jc<0):ic 108 [iA x,iw d]<|.ix [iA<|su x d,iP<|B8 x d]:=by
 unfold su B8;cases hg:rZ x d with
 |true=>
  rw[aY rfl,aY rfl];exact ad5 x d x1 x8 hx hd h0 λi hi=>bR.1 hg i<|bS.2 hi
 |false=>
  rw[aX aE,aX aE];obtain⟨i,hi,hb⟩:=art.1 hg;obtain⟨N,h1,h2,h3⟩:=sD (p:=λi=>!(wY (x.getD i ik) d)) ⟨i,bS.1 hi,by simpa using hb⟩;have jH:∀ i,i<N->wY (x.getD i ik) d=true:=λi hi=>by simpa using h3 i hi
  have h2:wY (x.getD N ik) d=false:=by simpa using h2
  have key:ic 108 [iA x,iw d]<|.ix [.v<|.slice none 0 0,iP 9]:=by
   by_cases hM:mN (iM (x.getD N ik).lo<|jo d)=0
   .exact ad4 x d x1 x8 hx hd h0 N h1 jH hM λq=>by
     unfold wY at h2;rw[hM,q]at h2;exact absurd h2 aE 
   .exact ad3 x d x1 x8 hx hd h0 N h1 jH hM
  exact key.jA<|.ix<|.cons (.nil _ _ _)<|.cons (.refl _) .nil
end
def ad6(a b:List Iv)(a1:1<=a.length)(a8:a.length<=8)(hl:b.length=a.length)(ha:qN a)(hb:qN b):ic 111 [iA a,iA b]<|iA<|ns a b:=
 iy (ae [.c<|TR a b aC aC aC aD aD,.y 5 5 true 41 7<|jL<|(List.range 0).map λj_=>q8 (a.getD j_ ik)<|b.getD j_ ik,.s (Sp.jX (To a b) 0 a.length aC (λi hi rA=>by
    obtain⟨w1,w2⟩:=ha i aC;obtain⟨w3,w4⟩:=hb i aC;have sT:=qH<|q8 (a.getD i ik)<|b.getD i ik;exact iS (ae [tT 14 ((i:Int)<a.length) aC,iX (i:Int)<|a.length,iX (i:Int)<|b.length,.c<|Tp (a.getD i ik) (b.getD i ik) aD aD aD aD,.o 26<|.e<|lW<|q8 (a.getD i ik)<|b.getD i ik,.a (aC:(i+[q8 (a.getD i ik)<|b.getD i ik].length)*88<=140737488355328),iD<|(i:Int)+1]<|.e<|af [.b 5 (zL rfl rfl rfl:Bx.le (.row true 41 (i+[q8 (a.getD i ik)<|b.getD i ik].length) 7 λi_ j_=>if i_<i then(jL<|(List.range i).map λj_=>q8 (a.getD j_ ik)<|b.getD j_ ik) i_ j_ else(E.ng<|iA [q8 (a.getD i ik)<|b.getD i ik]) (i_-i) j_)<|.row true 41 (i+1) 7<|jL<|(List.range<|i+1).map λj_=>q8 (a.getD j_ ik)<|b.getD j_ ik)]) aF)
  (λhi=>by
    exact iS (ae [tF 14 ((a.length:Int)<a.length) aC,.z 5]<|.e<|af [.o 5 (.e<|zK aH:aj (.sl true a.length 7<|jL<|(List.range a.length).map λj_=>q8 (a.getD j_ ik)<|b.getD j_ ik)<|iA<|(List.range a.length).map λj_=>q8 (a.getD j_ ik)<|b.getD j_ ik)]) aF) aI:jW 5 f111 (To a b 0) (.exit 0) ⟨30,true,[(5,.e<|iA<|(List.range a.length).map λj_=>q8 (a.getD j_ ik)<|b.getD j_ ik)],[]⟩) .nil]<|rR (iA<|ns a b) (.refl _:E.le (iA<|(List.range a.length).map λj_=>q8 (a.getD j_ ik)<|b.getD j_ ik)<|iA<|ns a b))
def TP(p:Int):ic 191 [iP p]<|bP<|kT p:=
 iy (.w (8<=p)
  (λk1=>ae [tB 4<|aZ k1]<|rQ (bP<|decide (p<=512)) (bP<|kT p)<|by unfold kT;simp[k1])
  (λk1=>ae [tB 4<|a6 k1]<|rQ (bP false) (bP<|kT p)<|by unfold kT;simp[k1]))
def TS:tW ar<|jf iR:=.cons (.refl _)<|.cons zZ<|.cons (.refl _) .nil
def M1(x:List Iv)(p k:Nat):oh x p (k+1)=if 0<jm (po (x.getD k ik) p) (oh x p k)then po (x.getD k ik) p else oh x p k:=rfl
def Sv(x:Iv){p:Nat}(hp:1<=p)(ie:p<=4096):(po x p).ig:=wF _ hp ie _
def M3(x:List Iv){p:Nat}(hp:1<=p)(ie:p<=4096):∀ k,(oh x p k).ig
 | 0=>qu
 |k+1=>by
  unfold oh;split
  .exact Sv _ hp ie
  .exact M3 x hp ie k
section
variable(x:List Iv)
section
variable(p:Nat)(x1:1<=x.length)(x8:x.length<=8)(hx:qN x)(iu:8<=p)(ie:p<=512)
def aea(jH:∀ i,i<x.length->wN (x.getD i ik) p=0):ic 112 [iA x,iP p]<|.ix [iw<|oh x p x.length,bP true]:=
 iy (af [.c<|C1 x aC aC aD,.c<|TP (p:Int),ah 16 (kT (p:Int))<|pH.2 ⟨aC,aC⟩,.s (Sp.jX (TE x p) 0 x.length aC (λi hi rA=>by
    obtain⟨w1,w2⟩:=hx i aC;have PD:=jH i aC;have w3:=Sv (x.getD i ik) (aC:1<=p) (aC:p<=4096);have w4:=M3 x (aC:1<=p) (aC:p<=4096) i;exact iS (ae [tT 23 ((i:Int)<x.length) aC,iX (i:Int)<|x.length,.c<|ET (x.getD i ik) p aD aD,tB 31<|aZ PD,.c<|mF (po (x.getD i ik) p) (oh x p i) aD aD]<|.w (0<jm (po (x.getD i ik) p) (oh x p i))
     (λhc=>by
      have sS:oh x p (i+1)=po (x.getD i ik) p:=by rw[M1,aY hc]
      exact ae [tB 38<|aZ hc,iD<|(i:Int)+1]<|.e<|af [.b 6 (.jP<|by rw[sS]:Bx.le (.cells 37<|jf<|po (x.getD i ik) p)<|.cells 37<|jf<|oh x p<|i+1)])
     (λhc=>by
      have sS:oh x p (i+1)=oh x p i:=by rw[M1,aX hc]
      exact ae [tB 38<|a6 hc,iD<|(i:Int)+1]<|.e<|af [.b 6 (.jP<|by rw[sS]:Bx.le (.cells 37<|jf<|oh x p i)<|.cells 37<|jf<|oh x p<|i+1)])) aF)
  (λhi=>by
    exact iS (af [tF 23 ((x.length:Int)<x.length) aC]) aF) aI:jW 5 f112 (TE x p 0) (.exit 0) ⟨42,true,[(6,.box 6 0),(4,.box 4 0)],[(6,.cells 37<|jf<|oh x p x.length),(4,.cells 37 ar)]⟩)<|af [.b 6 (.cells (λ_=>rfl) TS:Bx.le (.cells 37 ar)<|.cells 37<|jf<|oh x p 0)]])
def ad8(N:Nat)(pR:N<x.length)(jH:∀ i,i<N->wN (x.getD i ik) p=0)(hN:wN (x.getD N ik) p≠0):ic 112 [iA x,iP p]<|.ix [iw iR,bP false]:=
 iy (af [.c<|C1 x aC aC aD,.c<|TP (p:Int),ah 16 (kT (p:Int))<|pH.2 ⟨aC,aC⟩,.s (Sp.jX (TD x p N) 0 N aC (λi hi rA=>by
    obtain⟨w1,w2⟩:=hx i aC;have PD:=jH i aC;have w3:=Sv (x.getD i ik) (aC:1<=p) (aC:p<=4096);have w4:=M3 x (aC:1<=p) (aC:p<=4096) i;exact iS (ae [tT 23 ((i:Int)<x.length) aC,iX (i:Int)<|x.length,.c<|ET (x.getD i ik) p aD aD,tB 31<|aZ PD,.c<|mF (po (x.getD i ik) p) (oh x p i) aD aD]<|.w (0<jm (po (x.getD i ik) p) (oh x p i))
     (λhc=>by
      have sS:oh x p (i+1)=po (x.getD i ik) p:=by rw[M1,aY hc]
      exact ae [tB 38<|aZ hc,iD<|(i:Int)+1]<|.e<|af [.b 6 (.jP<|by rw[sS]:Bx.le (.cells 37<|jf<|po (x.getD i ik) p)<|.cells 37<|jf<|oh x p<|i+1)])
     (λhc=>by
      have sS:oh x p (i+1)=oh x p i:=by rw[M1,aX hc]
      exact ae [tB 38<|a6 hc,iD<|(i:Int)+1]<|.e<|af [.b 6 (.jP<|by rw[sS]:Bx.le (.cells 37<|jf<|oh x p i)<|.cells 37<|jf<|oh x p<|i+1)])) aF)
  (λhi=>by
    obtain⟨w1,w2⟩:=hx N aC;exact iS (af [tT 23 ((N:Int)<x.length) aC,iX (N:Int)<|x.length,.c<|ET (x.getD N ik) p aD aD,tB 31<|a6 hN,.o 34 (.e tc:aj (.agg ar)<|iw iR)]) aF) aI:jW 5 f112 (TD x p N 0) .ret ⟨42,true,[(5,.e<|bP false),(4,.box 4 0)],[(4,.cells 37<|jf iR)]⟩)<|af [.b 6 (.cells (λ_=>rfl) TS:Bx.le (.cells 37 ar)<|.cells 37<|jf<|oh x p 0)]])
end
def ap7{p:Nat}(hp:1<=p)(ie:p<=4096):(sL x p).ig:=by
 unfold sL;split
 .exact M3 x hp ie _
 .exact qu
def ad9(p:Nat)(x1:1<=x.length)(x8:x.length<=8)(hx:qN x)(iu:8<=p)(ie:p<=512):ic 112 [iA x,iP (p:Int)]<|.ix [iw<|sL x p,bP<|JT x p]:=by
 unfold sL;cases hw:JT x p with
 |true=>
  rw[aY rfl];exact aea x p x1 x8 hx iu ie λi hi=>cN<|bR.1 hw i<|bS.2 hi
 |false=>
  rw[aX aE];obtain⟨i,hi,hb⟩:=art.1 hw;obtain⟨N,h1,h2,h3⟩:=sD (p:=λi=>!(decide (wN (x.getD i ik) p=0))) ⟨i,bS.1 hi,by simpa using hb⟩;exact ad8 x p x1 x8 hx iu ie N h1 (λi hi=>by simpa using h3 i hi)<|by simpa using h2
end
end Go.Proofs.YtjkmahljfblobaaGreatDoor
namespace Go.Proofs.YtjkmahljfblobaaGreatDoor.Pu
open Go.RowKit
def aal{bs br:Nat->Prop}{w:World}{xs:List Value}{a:Value}(h:iI bs br w (.agg<|xs.map E.v) a):a = .agg xs.toArray:=by
 generalize he:E.agg (xs.map E.v)=e at h;cases h with
 |agg l vs hl k=>
  cases he;rw[cv]at hl;have:vs=xs:=aqX λi=>by
   cases hx:xs[i]? with
   |none=>rw[List.getElem?_eq_none_iff]at hx ⊢;omega
   |some x=>
    obtain⟨v,hv⟩:∃ v,vs[i]? = some v:=by
     have hi:i<xs.length:=(ca.1 hx).1;exact⟨vs[i]'(aC),bk aC⟩
    rw[hv,iI.kG<|k i (.v x) v (by rw[ch,hx];rfl) hv]
  rw[this]
 |_=>cases he
def ZE{P:Program}{t:TypeId}{m D D':Nat}(hm:m<=10000)(hk:P.keyTypeAt m t=true)(hg:P.eqGuardType P.depth t=false){xs ys:List Value}{la lb:List Lit}
 (hx:P.keyLits D t xs=some la) (hy:P.keyLits D' t ys=some lb) (fx:(Value.agg xs.toArray).formed P t=true) (fy:(Value.agg ys.toArray).formed P t=true) {c:Bool} (hc:c=true↔la=lb):
 rk P .eql t (.agg<|xs.map E.v) (.agg<|ys.map E.v) (.bool c):=by
 intro bs br w a b ox oy ha hb;obtain rfl:=aal ha;obtain rfl:=aal hb;constructor
 .simp only[eqGuard,fF,bC,bh,Sem.run_bind,run_program,Result.andThen_ok,hg,eH,bA,Sem.run_pure]
 .obtain ⟨r,hr,aiR⟩:=run_equalIn_deep (10000-m) m t hk w _ _ _ _ la lb fx fy (by simpa[Value.cells]using hx) (by simpa[Value.cells]using hy);rw[(aC:10000-m+m=10000)]at hr;have e:r=c:=by rw[eo,aiR,hc]
  subst e;have:(Op.equal t (.agg xs.toArray)<|.agg ys.toArray).run P w = .ok r w:=hr;simp only[binOp,Sem.run_bind,this,Result.andThen_ok,Sem.run_pure]
end Go.Proofs.YtjkmahljfblobaaGreatDoor.Pu
namespace Go.Proofs.YtjkmahljfblobaaGreatDoor
open Go.RowKit Fp Pu
def ZF{t:TypeId}{m:Nat}(hm:m<=10000)(hk:prog.keyTypeAt m t=true)(hg:prog.eqGuardType prog.depth t=false){xs:List Value}(hx:(prog.keyLits 10 t xs).isSome=true)
 (fx:(Value.agg xs.toArray).formed prog t=true):rk prog .eql t (.agg<|xs.map E.v) (.agg<|xs.map E.v)<|.bool true:=by
 obtain⟨l,hl⟩:=gz.1 hx;exact ZE hm hk hg hl hl fx fx aH 
def L9{a b c d e f:Int}(h:a=0/\b=0/\c=0/\d=0/\e=0/\f=0):
 rk prog .eql 153 (.agg [iP a,iP b,iP c,iP d,iP e,iP f]) (.agg [iP 0,iP 0,iP 0,iP 0,iP 0,iP 0]) (.bool true):=by
 obtain⟨rfl,rfl,rfl,rfl,rfl,rfl⟩:=h;exact ZF (m:=10) (xs:=[.int .i64 0,.int .i64 0,.int .i64 0,.int .i64 0,.int .i64 0,.int .i64 0]) aE aF aF aF aF 
def Q7{a b:Int}(h:a=0/\b=0):rk prog .eql 78 (.agg [iP a,iP b]) (.agg [iP 0,iP 0])<|.bool true:=by
 obtain⟨rfl,rfl⟩:=h;exact ZF (m:=10) (xs:=[.int .i64 0,.int .i64 0]) aE aF aF aF aF 
def XR{d:Nat}{n:Int}(h:lJ .i64 n):prog.keyLits (d+1) 3 [.int .i64 n]=some [.int .i64 n]:=by
 have hw:(Lit.int .i64 n).wf=true:=by
  unfold lJ at h;simp[Lit.wf,IntKind.min,IntKind.max,IntKind.signed,IntKind.bits];omega
 unfold Program.keyLits;rw[underlying3];simp[hw]
def Z6{a b:Int}(ha:lJ .i64 a)(hb:lJ .i64 b):prog.keyLits 10 78 [.int .i64 a,.int .i64 b]=some [.int .i64 a,.int .i64 b]:=by
 have c1:prog.cellsOf 78=2:= aF ;have c2:prog.cellsOf 3=1:= aF ;unfold Program.keyLits;rw[underlying78];simp[c1,c2,gU,XR ha,XR hb]
def ZD{a b:Int}{r:Bool}(ha:lJ .i64 a)(hb:lJ .i64 b)(h:decide (a=0/\b=0)=r):rk prog .eql 78 (.agg [iP a,iP b]) (.agg [iP 0,iP 0])<|.bool r:=
 ZE (m:=10) (xs:=[.int .i64 a,.int .i64 b]) (ys:=[.int .i64 0,.int .i64 0]) aE aF aF (Z6 ha hb) (Z6 aR aR) aF aF (by subst h;simp)
def anQ{P:Program}(w:World)(t tx ty e:TypeId)(i:TypeInfo)(z:Value)(ht:P.underlying t=some (.slice e))(hx:P.underlying tx=some (.int .i64))(hi:P.info? e=some i)(hz:i.zero=some z)
 (uF:i.size≠0) (n:Nat) (h0:0<n) (Hs:n<=1000000) (V7:n*i.bytes<=281474976710656):
 (Builtin.append_ #[t,tx] ty #[.slice none 0 0,.int .i64 (n:Int)]).run P w =
  .ok (.slice (some ⟨w.heap.size,0,none⟩) n<|grownCap w n 0 e) (w.drew.alloc<|.cells (Builtin.zeroCells z.cells n++Builtin.zeroCells z.cells (grownCap w n 0 e-n)) e):=by
 have hn:n≠0:= aC ;have WZ:n*i.size≠0:=dN hn uF;have aix:¬(9223372036854775807<(n:Int)):= aC ;have aiv:¬(281474976710656<Builtin.nextslicecap n 0*i.bytes):=by rw[nextslicecap_zero h0];omega
 have hw:IntKind.i64.wrap (n:Int)=n:=i64_in _;have Ig:¬((n:Int)<0):= aC ;have aiw:¬(281474976710656<(n:Int)*(i.bytes:Int)):=by
  have:(n:Int)*(i.bytes:Int)=((n*i.bytes:Nat):Int):= aH ;rw[this];omega
 simp[Builtin.append_,run_underlying ht,run_underlying hx,sizeOf,typeInfo,zeroValue,hi,hz,asInt,asIntOf,hw,Ig,aiw,hn,WZ,aix,aiv,Question.forced,run_firstCells_none,newRow,grownCap]
def aqa{P:Program}{w:World}{ij:Array Oper}{rest:List Oper}{o:Oper}{a:Act}{Q:Exit->Act->World->Prop}(Dv:o.guard=none)(s x:Operand)(t tx:TypeId)
 (ho:o.op = .call { callee:=.builtin .append,args:=#[s,x],argTypes:=#[t,tx] })
 (e:TypeId) (i:TypeInfo) (z:Value) (ht:P.underlying t=some (.slice e)) (hx:P.underlying tx=some (.int .i64)) (hi:P.info? e=some i) (hz:i.zero=some z)
 (uF:i.size≠0) (n:Nat) (h0:0<n) (Hs:n<=1000000) (V7:n*i.bytes<=281474976710656) (hs:a.eval s = .slice none 0 0) (hxx:a.eval x = .int .i64 (n:Int))
 (h:wpList P ij Q rest (a.put o.dst<|.slice (some ⟨w.heap.size,0,none⟩) n<|grownCap w n 0 e)<|w.drew.alloc<|.cells (Builtin.zeroCells z.cells n++Builtin.zeroCells z.cells (grownCap w n 0 e-n)) e):wpList P ij Q (o::rest) a w:=by
 refine wpList_plain Dv λK hK=>?_
 have ki:=anQ (P:=P) w t tx o.type e i z ht hx hi hz uF n h0 Hs V7;unfold Oper.wp;simp[execOp,ho,resolve,invoke,builtin,hs,hxx,ki,Result.andThen];exact hK _ _ h
def acR(w:World)(o:Obj):Below w.heap.size w (w.alloc o).drew:=⟨rfl,rfl,rfl,by rw[show(w.alloc o).drew.heap=w.heap.push o from rfl,dK];omega,λx hx=>Below.heap_alloc w _ x hx⟩
def acS(w:World)(o:Obj):w.heap.size<(w.alloc o).drew.heap.size:=by rw[show(w.alloc o).drew.heap=w.heap.push o from rfl,dK];omega
def ajr:(prog.info? 41).map (λi=>(i.zero,i.size,i.bytes))=some (some<|.agg #[.bool false,.slice none 0 0,.int .i64 0,.bool false,.slice none 0 0,.int .i64 0,.bool false],7,88):= aF 
def acp(n:Nat):∀ u,u ∈ Builtin.zeroCells (Value.cells<|.agg #[.bool false,.slice none 0 0,.int .i64 0,.bool false,.slice none 0 0,.int .i64 0,.bool false]) n->pU u=false:=by
 intro u hu;simp only[Builtin.zeroCells,gw,gy]at hu;obtain⟨q,hq,rfl⟩:=hu;have hc:Value.cells (.agg #[.bool false,.slice none 0 0,.int .i64 0,.bool false,.slice none 0 0,.int .i64 0,.bool false]) = #[.bool false,.slice none 0 0,.int .i64 0,.bool false,.slice none 0 0,.int .i64 0,.bool false]:=rfl;rw[hc]at hq ⊢;have hs:(#[Value.bool false,.slice none 0 0,.int .i64 0,.bool false,.slice none 0 0,.int .i64 0,.bool false]:Array Value).size=7:=rfl;rw[hs];have h7:q%7<7:=bJ _ aE;generalize q%7=k at h7;rcases k with _|_|_|_|_|_|_|k
 all_goals first|rfl|omega
set_option maxRecDepth 100000 in
def aio(n:Nat)(hn:n<=1000000):wO prog Tb 140 [.v<|.slice none 0 0,iP (n:Int)] true 41 0 7<|jL []:=by
 refine⟨call140,λw B vs hK hB hr=>?_⟩;obtain⟨v1,vs,rfl,h1,hr⟩:=hr.mY;obtain⟨v2,vs,rfl,h2,hr⟩:=hr.mY;obtain rfl:=hr.re;obtain rfl:=iI.kG h1;obtain rfl:=iI.kG h2;show Calls _ _ #[.slice none 0 0,.int .i64 (n:Int)] w _;clear h1 h2 hr hB hK;by_cases h0:n=0
 .subst h0;go_enter func140,ntmps140;go_wp2;go_ret;exact⟨_,rfl,Below.refl _ _,λ_ _=>undef,.inl ⟨rfl,rfl⟩,λx hx=>by simp[Value.ownBlock]at hx,λi j hi=>absurd hi<|bt _⟩
 .obtain ⟨i,hi,hz,h1,h2⟩:=info_parts ajr;have hw:IntKind.i64.wrap ((n:Int)-0)=n:=i64_in _;have Ly:IntKind.i64.wrap (n:Int)=n:=i64_in _;have e2:decide ((n:Int)<0)=false:=a6 aC;have e3:decide ((0:Int)<n)=true:=aZ aC;have Fl:n<=grownCap w n 0 41:=grownCap_ge w n 0 _;go_enter func140,ntmps140;go_wp2_with (at_builtin;go_must (refine aqa aG _ _ _ _ aG _ i _ underlying23 underlying3 hi hz aC n aC aC (by rw[h2];omega) aG aG ?_))
  go_ret;have hz7:(#[Value.bool false,.slice none 0 0,.int .i64 0,.bool false,.slice none 0 0,.int .i64 0,.bool false]:Array Value).size=7:=rfl;refine⟨_,rfl,acR w _,λ_ _=>undef,.inr ⟨w.heap.size,0,grownCap w n 0 41,_,rfl,heap_alloc_new w _,b7 _,grownCap_le_maxLen w n 0 _<|by unfold maxLen;omega,?_,λi j hi=>absurd hi<|bt _,λ_ u hu=>?_⟩,λx hx=>?_,λi j hi=>absurd hi<|bt _⟩
  .simp only[aq6,size_zeroCells,hz7,<-bL,bZ];exact bG 7 aC 
  .rcases fK.1 hu with hu|hu
   .exact acp _ u hu
   .exact acp _ u hu
  .simp [Value.ownBlock]at hx;subst hx;exact⟨a7 _,acS w _⟩
abbrev J3(f:FuncId)(args:List E)(nl:Bool)(T:TypeId)(n sz:Nat)(el:Nat->Nat->E):Prop:=wO prog Tb f args nl T n sz el
def trn{f:FuncId}{fn:Func}{args:List E}{nl:Bool}{T0:TypeId}{n sz:Nat}{el:Nat->Nat->E}(yp:∀ (vs:Array Value) (w:World),(callFunc f vs).run prog w = .ok (.enter f vs) w)
 (hf:prog.funcs[f]? = some fn) (t:Tr prog Tb) (h:Ru TT fn args (.row nl T0 n sz el) t=t.ex λ_=>.a (Bx.le (.row nl T0 n sz el)<|.row nl T0 n sz el) .nil):J3 f args nl T0 n sz el:=
 wO.Sc CW mixed SR yp hf t h
def abD(t:nC)(x:Nat):PS:=⟨46,true,[(28,.e<|iP x),(27,.e<|iP t.ij.length),(26,.e<|mo t.ij),(1,.box 1 0)],[(1,.cells 29 [iP t.iH,mo t.ij,mg t.iB])]⟩
def abx(s:kp)(x:Nat):PS:=⟨85,true,[(31,.e<|iP x),(30,.e<|iP s.tape.ij.length),(29,.e<|mo s.tape.ij),(3,.box 3 0),(1,.box 1 0)],[(3,.cells 29 [iP s.tape.iH,mo s.tape.ij,mg s.tape.iB]),(1,.cells 31 [iP s.tape.iH,mo s.tape.ij,mg s.tape.iB,iP s.iN,iA s.params])]⟩
noncomputable def abB(t:nC)(xs:List Iv)(p:Nat)(x:Nat):PS:=⟨75,true,[(26,.e<|iP x),(25,.e<|iP t.ij.length),(24,.e<|mo t.ij),(7,.own 22),(2,.e<|iP p)],[(22,.row true 41 ((jy t.ij xs p x).length) 7<|jL<|jy t.ij xs p x)]⟩
def ZK(k:Nat)(h1:3<=k)(h2:k<=6):ic 274 [iP k]<|iP 2:=
 iy (ae [ai 5 ((k:Int)==1)<|aS aC]<|.w ((k:Int)=3)
  (λk1=>af [tB 7<|aT k1])
  (λk1=>ae [tB 7<|aS k1]<|.w ((k:Int)=4)
   (λk2=>af [tB 8<|aT k2])
   (λk2=>ae [tB 8<|aS k2]<|.w ((k:Int)=5)
    (λk3=>af [tB 9<|aT k3])
    (λk3=>ae [tB 9<|aS k3]<|.w ((k:Int)=6)
     (λk4=>af [tB 10<|aT k4])
     (λk4=>.x aC)))))
def Ra(k:Nat)(h1:7<=k)(h2:k<=13):ic 274 [iP k]<|iP 1:=
 iy (ae [ai 5 ((k:Int)==1)<|aS aC,ai 7 ((k:Int)==3)<|aS aC,ai 8 ((k:Int)==4)<|aS aC,ai 9 ((k:Int)==5)<|aS aC,ai 10 ((k:Int)==6)<|aS aC]<|.w ((k:Int)=7)
  (λk1=>af [tB 12<|aT k1])
  (λk1=>ae [tB 12<|aS k1]<|.w ((k:Int)=8)
   (λk2=>af [tB 13<|aT k2])
   (λk2=>ae [tB 13<|aS k2]<|.w ((k:Int)=9)
    (λk3=>af [tB 14<|aT k3])
    (λk3=>ae [tB 14<|aS k3]<|.w ((k:Int)=10)
     (λk4=>af [tB 15<|aT k4])
     (λk4=>ae [tB 15<|aS k4]<|.w ((k:Int)=11)
      (λk5=>af [tB 16<|aT k5])
      (λk5=>ae [tB 16<|aS k5]<|.w ((k:Int)=12)
       (λk6=>af [tB 17<|aT k6])
       (λk6=>ae [tB 17<|aS k6]<|.w ((k:Int)=13)
        (λk7=>af [tB 18<|aT k7])
        (λk7=>.x aC))))))))
def ZJ(k:Nat)(h1:k=1):ic 274 [iP k]<|iP 0:=
 iy (af [ah 5 ((k:Int)==1)<|aT aC])
def alJ{a b:Int}(h:qt a b=true):rk prog .eql 78 (.agg [iP a,iP b]) (.agg [iP 0,iP 0])<|.bool false:=by
 obtain⟨h1,h2,h3,h4⟩:=Ro h;exact ZD aR aR<|a6 aC
section
variable{o:kZ}{m:Nat}(h:oj o m)
def oj.NB(mT:o.kind≠1)(hk:o.kind<=6):3<=o.kind/\o.a<m/\o.b<m/\o.n=0/\o.cn=0/\o.cd=0:=by
 have h3:=h.k3.resolve_left mT;have ha:=h.a;have hb:=h.b;have hn:=h.n;have hc:=h.c;rw[aX mT]at ha hc;rw[aY ⟨h3,hk⟩]at hb;rw[aX aC]at hn;exact⟨h3,ha,hb,hn,hc.1,hc.2⟩
def oj.pow(hk:o.kind=8):o.a<m/\o.b=0/\o.n<=16/\o.cn=0/\o.cd=0:=by
 have ha:=h.a;have hb:=h.b;have hn:=h.n;have hc:=h.c;rw[aX aC]at ha hb hc;rw[aY hk]at hn;exact⟨ha,hb,hn,hc.1,hc.2⟩
def oj.un(hk:¬o.kind<=6)(xg:o.kind≠8):o.kind<=13/\o.a<m/\o.b=0/\o.n=0/\o.cn=0/\o.cd=0:=by
 have ha:=h.a;have hb:=h.b;have hn:=h.n;have hc:=h.c;rw[aX aC]at ha hb hc;rw[aX xg]at hn;exact⟨h.Cu,ha,hb,hn,hc.1,hc.2⟩
def oj.num(hk:o.kind=1):o.a=0/\o.b=0/\o.n=0/\qt o.cn o.cd=true:=by
 have ha:=h.a;have hb:=h.b;have hn:=h.n;have hc:=h.c;rw[aY hk]at ha hc;rw[aX aC]at hb hn;exact⟨ha,hb,hn,hc⟩
def oj.No(hk:o.kind≠1):o.a<m:=by
 have ha:=h.a;rwa[aX hk]at ha
end
section
variable(o:kZ)(m:Nat)(h:oj o m)
def amc(hk:o.kind=1):ic 253 [Ad o,iP m]<|bP true:=by
 obtain⟨h2,h3,h4,uD⟩:=h.num hk;exact iy<|af [.c<|ZJ o.kind aC,ai 14 (decide ((0:Int)<0)) aE,ah 17 ((0:Int)==0) aE,.c<|Mi o.cn o.cd,ah 20 (qt o.cn o.cd) uD,ai 26 ((o.kind:Int)==8)<|aS aC,ai 37 (decide ((0:Int)<0)) aE,ai 49 (decide ((1:Int)<0)) aE,.g (L9 ⟨aC,aC,aC,aC,aC,aC⟩:rk prog .eql 153 (.agg [iP 0,iP o.a,iP o.b,iP o.n,iP 0,iP 0]) (.agg [iP 0,iP 0,iP 0,iP 0,iP 0,iP 0])<|.bool true)]
def amb(mT:o.kind≠1)(hk:o.kind<=6):ic 253 [Ad o,iP m]<|bP true:=by
 obtain⟨h1,h2,h3,h4,h5,h6⟩:=h.NB mT hk;exact iy<|af [.c<|ZK o.kind aC aC,ai 14 (decide ((2:Int)<0)) aE,ai 17 ((2:Int)==0) aE,ai 26 ((o.kind:Int)==8)<|aS aC,ah 37 (decide ((0:Int)<2)) aE,tF 40 ((o.a:Int)<0) aC,tF 45 ((m:Int)<=o.a) aC,ah 49 (decide ((1:Int)<2)) aE,tF 52 ((o.b:Int)<0) aC,tF 57 ((m:Int)<=o.b) aC,.g (L9 ⟨aC,aC,aC,aC,aC,aC⟩:rk prog .eql 153 (.agg [iP 0,iP 0,iP 0,iP o.n,iP o.cn,iP o.cd]) (.agg [iP 0,iP 0,iP 0,iP 0,iP 0,iP 0])<|.bool true)]
def ame(hk:o.kind=8):ic 253 [Ad o,iP m]<|bP true:=by
 obtain⟨h2,h3,h4,h5,h6⟩:=h.pow hk;exact iy<|af [.c<|Ra o.kind aC aC,ai 14 (decide ((1:Int)<0)) aE,ai 17 ((1:Int)==0) aE,ah 26 ((o.kind:Int)==8)<|aT aC,tF 29 ((o.n:Int)<0) aC,tF 33 (16<(o.n:Int)) aC,ah 37 (decide ((0:Int)<1)) aE,tF 40 ((o.a:Int)<0) aC,tF 45 ((m:Int)<=o.a) aC,ai 49 (decide ((1:Int)<1)) aE,.g (L9 ⟨aC,aC,aC,aC,aC,aC⟩:rk prog .eql 153 (.agg [iP 0,iP 0,iP o.b,iP 0,iP o.cn,iP o.cd]) (.agg [iP 0,iP 0,iP 0,iP 0,iP 0,iP 0])<|.bool true)]
def amf(hk:¬o.kind<=6)(xg:o.kind≠8):ic 253 [Ad o,iP m]<|bP true:=by
 obtain⟨h1,h2,h3,h4,h5,h6⟩:=h.un hk xg;exact iy<|af [.c<|Ra o.kind aC aC,ai 14 (decide ((1:Int)<0)) aE,ai 17 ((1:Int)==0) aE,ai 26 ((o.kind:Int)==8)<|aS aC,ah 37 (decide ((0:Int)<1)) aE,tF 40 ((o.a:Int)<0) aC,tF 45 ((m:Int)<=o.a) aC,ai 49 (decide ((1:Int)<1)) aE,.g (L9 ⟨aC,aC,aC,aC,aC,aC⟩:rk prog .eql 153 (.agg [iP 0,iP 0,iP o.b,iP o.n,iP o.cn,iP o.cd]) (.agg [iP 0,iP 0,iP 0,iP 0,iP 0,iP 0])<|.bool true)]
def aoM(hk:o.kind=1):ic 129 [Ad o,iP m]<|bP true:=by
 obtain⟨h2,h3,h4,uD⟩:=h.num hk;exact iy<|af [tF 8 ((o.a:Int)<0) aC,tF 12 ((o.b:Int)<0) aC,.g (alJ uD:rk prog .eql 78 (.agg [iP o.cn,iP o.cd]) (.agg [iP 0,iP 0])<|.bool false),ah 21 ((o.kind:Int)==1)<|aT aC,.c<|Mi o.cn o.cd,ah 24 (qt o.cn o.cd) uD,ah 28 ((o.a:Int)==0)<|aT aC,ah 33 ((o.b:Int)==0)<|aT aC,ah 38 ((o.n:Int)==0)<|aT aC]
def aoL(mT:o.kind≠1)(hk:o.kind<=6):ic 129 [Ad o,iP m]<|bP true:=by
 obtain⟨h1,h2,h3,h4,h5,h6⟩:=h.NB mT hk;exact iy (ae [tF 8 ((o.a:Int)<0) aC,tF 12 ((o.b:Int)<0) aC,.g (Q7 ⟨aC,aC⟩:rk prog .eql 78 (.agg [iP o.cn,iP o.cd]) (.agg [iP 0,iP 0])<|.bool true),ai 21 ((o.kind:Int)==1)<|aS aC]<|.w ((o.kind:Int)=3)
  (λk1=>af [tB 41<|aT k1,tT 50 ((o.a:Int)<m) aC,tT 56 ((o.b:Int)<m) aC,ah 61 ((o.n:Int)==0)<|aT aC])
  (λk1=>ae [tB 41<|aS k1]<|.w ((o.kind:Int)=4)
   (λk2=>af [tB 42<|aT k2,tT 50 ((o.a:Int)<m) aC,tT 56 ((o.b:Int)<m) aC,ah 61 ((o.n:Int)==0)<|aT aC])
   (λk2=>ae [tB 42<|aS k2]<|.w ((o.kind:Int)=5)
    (λk3=>af [tB 43<|aT k3,tT 50 ((o.a:Int)<m) aC,tT 56 ((o.b:Int)<m) aC,ah 61 ((o.n:Int)==0)<|aT aC])
    (λk3=>ae [tB 43<|aS k3]<|.w ((o.kind:Int)=6)
     (λk4=>af [tB 44<|aT k4,tT 50 ((o.a:Int)<m) aC,tT 56 ((o.b:Int)<m) aC,ah 61 ((o.n:Int)==0)<|aT aC])
     (λk4=>.x aC)))))
def aoO(hk:o.kind=8):ic 129 [Ad o,iP m]<|bP true:=by
 obtain⟨h2,h3,h4,h5,h6⟩:=h.pow hk;exact iy<|af [tF 8 ((o.a:Int)<0) aC,tF 12 ((o.b:Int)<0) aC,.g (Q7 ⟨aC,aC⟩:rk prog .eql 78 (.agg [iP o.cn,iP o.cd]) (.agg [iP 0,iP 0])<|.bool true),ai 21 ((o.kind:Int)==1)<|aS aC,ai 41 ((o.kind:Int)==3)<|aS aC,ai 42 ((o.kind:Int)==4)<|aS aC,ai 43 ((o.kind:Int)==5)<|aS aC,ai 44 ((o.kind:Int)==6)<|aS aC,ah 64 ((o.kind:Int)==8)<|aT aC,tT 70 ((o.a:Int)<m) aC,ah 75 ((o.b:Int)==0)<|aT aC,tT 80 (0<=(o.n:Int)) aC,tT 85 ((o.n:Int)<=16) aC]
def aoP(hk:¬o.kind<=6)(xg:o.kind≠8):ic 129 [Ad o,iP m]<|bP true:=by
 obtain⟨h1,h2,h3,h4,h5,h6⟩:=h.un hk xg;exact iy (ae [tF 8 ((o.a:Int)<0) aC,tF 12 ((o.b:Int)<0) aC,.g (Q7 ⟨aC,aC⟩:rk prog .eql 78 (.agg [iP o.cn,iP o.cd]) (.agg [iP 0,iP 0])<|.bool true),ai 21 ((o.kind:Int)==1)<|aS aC,ai 41 ((o.kind:Int)==3)<|aS aC,ai 42 ((o.kind:Int)==4)<|aS aC,ai 43 ((o.kind:Int)==5)<|aS aC,ai 44 ((o.kind:Int)==6)<|aS aC,ai 64 ((o.kind:Int)==8)<|aS aC]<|.w ((o.kind:Int)=7)
  (λk1=>af [tB 88<|aT k1,tT 99 ((o.a:Int)<m) aC,ah 104 ((o.b:Int)==0)<|aT aC,ah 109 ((o.n:Int)==0)<|aT aC])
  (λk1=>ae [tB 88<|aS k1]<|.w ((o.kind:Int)=9)
   (λk2=>af [tB 89<|aT k2,tT 99 ((o.a:Int)<m) aC,ah 104 ((o.b:Int)==0)<|aT aC,ah 109 ((o.n:Int)==0)<|aT aC])
   (λk2=>ae [tB 89<|aS k2]<|.w ((o.kind:Int)=10)
    (λk3=>af [tB 90<|aT k3,tT 99 ((o.a:Int)<m) aC,ah 104 ((o.b:Int)==0)<|aT aC,ah 109 ((o.n:Int)==0)<|aT aC])
    (λk3=>ae [tB 90<|aS k3]<|.w ((o.kind:Int)=11)
     (λk4=>af [tB 91<|aT k4,tT 99 ((o.a:Int)<m) aC,ah 104 ((o.b:Int)==0)<|aT aC,ah 109 ((o.n:Int)==0)<|aT aC])
     (λk4=>ae [tB 91<|aS k4]<|.w ((o.kind:Int)=12)
      (λk5=>af [tB 92<|aT k5,tT 99 ((o.a:Int)<m) aC,ah 104 ((o.b:Int)==0)<|aT aC,ah 109 ((o.n:Int)==0)<|aT aC])
      (λk5=>ae [tB 92<|aS k5]<|.w ((o.kind:Int)=13)
       (λk6=>af [tB 93<|aT k6,tT 99 ((o.a:Int)<m) aC,ah 104 ((o.b:Int)==0)<|aT aC,ah 109 ((o.n:Int)==0)<|aT aC])
       (λk6=>.x aC)))))))
def amd:ic 253 [Ad o,iP (m:Int)]<|bP true:=by
 by_cases mT:o.kind=1
 .exact amc o m h mT
 by_cases hk:o.kind<=6
 .exact amb o m h mT hk
 .by_cases xg:o.kind=8
  .exact ame o m h xg
  .exact amf o m h hk xg
def aoN:ic 129 [Ad o,iP (m:Int)]<|bP true:=by
 by_cases mT:o.kind=1
 .exact aoM o m h mT
 by_cases hk:o.kind<=6
 .exact aoL o m h mT hk
 .by_cases xg:o.kind=8
  .exact aoO o m h xg
  .exact aoP o m h hk xg
end
def ao5(t:nC)(k:Nat)(hk:k<t.iH+t.ij.length)(h8:t.iH<=8)(ait:t.ij.length<=200):ic 254 [iP k,(.ji 3 λj_=>[iP t.iH,mo t.ij,mg t.iB].getD j_ .any)]<|bP false:=
 iy (af [tF 5 ((k:Int)<0) aC,iD<|(t.iH:Int)+t.ij.length,tF 14 (((t.iH+t.ij.length:Nat):Int)<=k) aC])
def abE(t:nC)(h:BM t):ic 208 [Gk t]<|bP true:=by
 have h8:=h.iH;have DG:=h.ij;have zp:=h.iB;exact iy (af [tF 7 ((t.iH:Int)<0) aC,tF 11 (8<(t.iH:Int)) aC,tF 17 (200<(t.ij.length:Int)) aC,tF 23 (200<(t.iB.length:Int)) aC,.s (Sp.jX (abD t) 0 t.ij.length aC (λx hx mH=>by
    have iC:=h.op x aC;exact iS (af [tT 29 ((x:Int)<t.ij.length) aC,iX (x:Int)<|t.ij.length,iD<|(t.iH:Int)+x,.c<|amd (t.ij.getD x ja) (t.iH+x) iC,
     iD ((x:Int)+1)]) aF)
  (λhx=>by
    exact iS (af [tF 29 ((t.ij.length:Int)<t.ij.length) aC]) aF) aI:jW 4 f208 (abD t 0) (.exit 0) ⟨46,true,[(1,.box 1 0)],[(1,.cells 29 [iP t.iH,mo t.ij,mg t.iB])]⟩) .nil,.c (P9 true _ _ 254 [(.ji 3 λj_=>[iP t.iH,mo t.ij,mg t.iB].getD j_ .any)] (λ_=>false) (λi hi=>ao5 t _ (h.out i hi) h8 DG) aC λ_ _=>rfl:ic 130 [mg t.iB,.fn 254 [(.ji 3 λj_=>[iP t.iH,mo t.ij,mg t.iB].getD j_ .any)]] _)])
def aoR(t:nC)(k:Nat)(hk:k<t.iH+t.ij.length)(h8:t.iH<=8)(ait:t.ij.length<=200):ic 131 [iP k,(.ji 3 λj_=>[iP t.iH,mo t.ij,mg t.iB].getD j_ .any)]<|bP false:=
 iy (af [tF 5 ((k:Int)<0) aC,iD<|(t.iH:Int)+t.ij.length,tF 14 (((t.iH+t.ij.length:Nat):Int)<=k) aC])
def aoT(x:Iv)(hx:x.ig)(xa:x.all=false):ic 132 [im x]<|bP false:=by
 obtain⟨w1,w2,w3⟩:=vj hx xa;exact iy<|af [ai 4 x.all xa,.c<|qk x.lo aD,.c<|qk x.hi aD,.c<|mF x.lo x.hi aD aD,tF 23 (0<(jm x.lo x.hi)) aC]
def Ew(s:kp)(h:mD s):ic 77 [j8 s]<|bP true:=by
 have h8:=h.tape.iH;have DG:=h.tape.ij;have zp:=h.tape.iB;have s1:=h.s1;have s4:=h.s4;have ho:=h.iB;have hi:=h.iH;have p4:=h.p4;exact iy (af [tF 10 ((s.tape.iH:Int)<0) aC,tF 14 (8<(s.tape.iH:Int)) aC,tF 20 (200<(s.tape.ij.length:Int)) aC,tF 26 (200<(s.tape.iB.length:Int)) aC,.s (Sp.jX (abx s) 0 s.tape.ij.length aC (λx hx mH=>by
    have iC:=h.tape.op x aC;exact iS (af [tT 32 ((x:Int)<s.tape.ij.length) aC,iX (x:Int)<|s.tape.ij.length,iD<|(s.tape.iH:Int)+x,.c<|aoN (s.tape.ij.getD x ja) (s.tape.iH+x) iC,iD<|(x:Int)+1]) aF)
  (λhx=>by
    exact iS (af [tF 32 ((s.tape.ij.length:Int)<s.tape.ij.length) aC]) aF) aI:jW 5 Tryz.f77 (abx s 0) (.exit 0) ⟨85,true,[(3,.box 3 0),(1,.box 1 0)],[(3,.cells 29 [iP s.tape.iH,mo s.tape.ij,mg s.tape.iB]),(1,.cells 31 [iP s.tape.iH,mo s.tape.ij,mg s.tape.iB,iP s.iN,iA s.params])]⟩) .nil,.c (P9 true _ _ 131 [(.ji 3 λj_=>[iP s.tape.iH,mo s.tape.ij,mg s.tape.iB].getD j_ .any)] (λ_=>false) (λi hi=>aoR s.tape _ (h.tape.out i hi) h8 DG) aC λ_ _=>rfl:ic 130 [mg s.tape.iB,.fn 131 [(.ji 3 λj_=>[iP s.tape.iH,mo s.tape.ij,mg s.tape.iB].getD j_ .any)]] _),tF 50 ((s.iN:Int)<1) aC,tF 54 (4<(s.iN:Int)) aC,ai 62 ((s.tape.iB.length:Int) != (s.iN:Int))<|vt,
  iD ((s.iN:Int)+s.params.length),ai 73 ((s.tape.iH:Int) != ((s.iN+s.params.length:Nat):Int))<|vt,tF 79 (4<(s.params.length:Int)) aC,.c (zJ true _ _ 132 [] (λ_=>false) (λi hi=>aoT _ (h.params i hi).1 (h.params i hi).2) aC λ_ _=>rfl:ic 39 [iA s.params,.fn 132 []] _)])
def S3(o:kZ)(x y:Iv)(p:Nat)(hx:x.ig)(hy:y.ig)(r1:3<=o.kind)(r2:o.kind<=13)(r3:o.n<=16)(iu:8<=p)(ie:p<=512)(hF:o.kind<=8\/xP):ic 276 [iP o.kind,iP o.n,im x,im y,iP p]<|im<|nf o x y p:=
 iy (.w ((o.kind:Int)=3)
  (λk1=>ae [tB 13<|aT k1,.c<|uH x y p aD aD]<|rQ (im<|je x y p) (im<|nf o x y p)<|by unfold nf;simp[(aC:o.kind=3)])
  (λk1=>ae [tB 13<|aS k1]<|.w ((o.kind:Int)=4)
   (λk2=>ae [tB 19<|aT k2,.c<|IH x y p aD aD]<|rQ (im<|kY x y p) (im<|nf o x y p)<|by unfold nf;simp[(aC:¬o.kind=3),(aC:o.kind=4)])
   (λk2=>ae [tB 19<|aS k2]<|.w ((o.kind:Int)=5)
    (λk3=>ae [tB 25<|aT k3,.c<|qp x y p aD aD]<|rQ (im<|iL x y p) (im<|nf o x y p)<|by unfold nf;simp[(aC:¬o.kind=3),(aC:¬o.kind=4),(aC:o.kind=5)])
    (λk3=>ae [tB 25<|aS k3]<|.w ((o.kind:Int)=6)
     (λk4=>ae [tB 31<|aT k4,.c<|wm x y p aD aD]<|rQ (im<|jh x y p) (im<|nf o x y p)<|by unfold nf;simp[(aC:¬o.kind=3),(aC:¬o.kind=4),(aC:¬o.kind=5),(aC:o.kind=6)])
     (λk4=>ae [tB 31<|aS k4]<|.w ((o.kind:Int)=7)
      (λk5=>ae [tB 37<|aT k5,.c<|IG x aD]<|rQ (im<|oO x) (im<|nf o x y p)<|by unfold nf;simp[(aC:¬o.kind=3),(aC:¬o.kind=4),(aC:¬o.kind=5),(aC:¬o.kind=6),(aC:o.kind=7)])
      (λk5=>ae [tB 37<|aS k5]<|.w ((o.kind:Int)=8)
       (λk6=>ae [tB 41<|aT k6,.c<|Tw x o.n p aD aC aC aC]<|rQ (im<|qU x o.n p) (im<|nf o x y p)<|by unfold nf;simp[(aC:¬o.kind=3),(aC:¬o.kind=4),(aC:¬o.kind=5),(aC:¬o.kind=6),(aC:¬o.kind=7),(aC:o.kind=8)])
       (λk6=>ae [tB 41<|aS k6]<|.w ((o.kind:Int)=9)
        (λk7=>ae [tB 47<|aT k7,.c<|ag6 x aD p aC aC<|hF.resolve_left aC]<|rQ (im<|Fc x p) (im<|nf o x y p)<|by unfold nf;simp[(aC:¬o.kind=3),(aC:¬o.kind=4),(aC:¬o.kind=5),(aC:¬o.kind=6),(aC:¬o.kind=7),(aC:¬o.kind=8),(aC:o.kind=9)])
        (λk7=>ae [tB 47<|aS k7]<|.w ((o.kind:Int)=10)
         (λk8=>ae [tB 52<|aT k8,.c<|ag8 x aD p aC aC<|hF.resolve_left aC]<|rQ (im<|Fe x p) (im<|nf o x y p)<|by unfold nf;simp[(aC:¬o.kind=3),(aC:¬o.kind=4),(aC:¬o.kind=5),(aC:¬o.kind=6),(aC:¬o.kind=7),(aC:¬o.kind=8),(aC:¬o.kind=9),(aC:o.kind=10)])
         (λk8=>ae [tB 52<|aS k8]<|.w ((o.kind:Int)=11)
          (λk9=>ae [tB 57<|aT k9,.c<|Vt x aD p aC aC<|hF.resolve_left aC]<|rQ (im<|y8 x p) (im<|nf o x y p)<|by unfold nf;simp[(aC:¬o.kind=3),(aC:¬o.kind=4),(aC:¬o.kind=5),(aC:¬o.kind=6),(aC:¬o.kind=7),(aC:¬o.kind=8),(aC:¬o.kind=9),(aC:¬o.kind=10),(aC:o.kind=11)])
          (λk9=>ae [tB 57<|aS k9]<|.w ((o.kind:Int)=12)
           (λk10=>ae [tB 62<|aT k10,.c<|Vr x aD p aC aC<|hF.resolve_left aC]<|rQ (im<|AL x p) (im<|nf o x y p)<|by unfold nf;simp[(aC:¬o.kind=3),(aC:¬o.kind=4),(aC:¬o.kind=5),(aC:¬o.kind=6),(aC:¬o.kind=7),(aC:¬o.kind=8),(aC:¬o.kind=9),(aC:¬o.kind=10),(aC:¬o.kind=11),(aC:o.kind=12)])
           (λk10=>ae [tB 62<|aS k10]<|.w ((o.kind:Int)=13)
            (λk11=>ae [tB 67<|aT k11,.c<|aha x aD p aC aC<|hF.resolve_left aC]<|rQ (im<|Ff x p) (im<|nf o x y p)<|by unfold nf;simp[(aC:¬o.kind=3),(aC:¬o.kind=4),(aC:¬o.kind=5),(aC:¬o.kind=6),(aC:¬o.kind=7),(aC:¬o.kind=8),(aC:¬o.kind=9),(aC:¬o.kind=10),(aC:¬o.kind=11),(aC:¬o.kind=12),(aC:o.kind=13)])
            (λk11=>.x aC))))))))))))
def aeb{nl:Bool}{T n n' sz:Nat}{f g h:Nat->Nat->E}(hn:n=n')(hh:∀ i j,i<n->j<sz->g i j=h i j/\(h i j).nr 2=true):Bx.le (.row nl T (0+n) sz λi j=>if i<0 then f i j else g (i-0) j)<|.row nl T n' sz h:=
 .row aC λi j hi hj=>by
  have lg:i<n:= aC ;simp only[bt,bh,dQ];exact⟨.jP (hh i j lg hj).1,(hh i j lg hj).2⟩
def ac4(r:List Iv)(h0:0<r.length)(hl:r.length<=1000):J3 135 [iA r] true 41 r.length 7<|jL r:=
 trn call135 func135 (ae [.a (aC:0<r.length),.bo,.a (aC:(0+r.length)*88<=140737488355328)]<|.rb (aeb rfl λi j hi hj=>⟨rfl,DX _ _ hj⟩:Bx.le (.row true 41 (0+r.length) 7 λi_ j_=>if i_<0 then(λi_ j_=>([]:List E).getD (i_*7+j_)<|.v<|.bool false) i_ j_ else(E.ng<|iA r) (i_-0) j_)<|.row true 41 r.length 7<|jL r)) aF 
def So{T n n' x:Nat}{t:nC}{xs:List Iv}{p:Nat}{y:Iv}(hn:n=(jy t.ij xs p x).length)(uy:n'=(jy t.ij xs p<|x+1).length)(hy:y6 (t.ij.getD x ja) (jy t.ij xs p x) p=y):
 Bx.le (.row true T (n+[y].length) 7 λi j=>if i<n then jL (jy t.ij xs p x) i j else(E.ng<|iA [y]) (i-n) j) (.row true T n' 7<|jL<|jy t.ij xs p<|x+1):=by
 subst uy hy;exact Qe hn
def ZH{o:kZ}{m:Nat}(h:oj o m):o.n<=16:=by
 have:=h.n;split at this<;>omega
def abC(t:nC)(xs:List Iv)(p:Nat)(h:BM t)(h1:1<=xs.length)(hx:xs.length=t.iH)(hv:pC xs)(iu:8<=p)(ie:p<=512):ic 226 [Gk t,iA xs,iP p]<|iA<|jy t.ij xs p t.ij.length:=by
 have h8:=h.iH;have DG:=h.ij;exact iy (af [.c<|abE t aD,ai 19 ((xs.length:Int) != (t.iH:Int))<|vt hx,.cn (ac4 _ aC aC:J3 135 [iA xs] true 41 xs.length 7<|jL xs),.s (Sp.jX (abB t xs p) 0 t.ij.length aC (λx hx mH=>by
    have iC:=h.op x aC;have zD:=Gs t.ij hv (aC:1<=p) (aC:p<=4096) x;have Ln:=JR t.ij xs p x;have w1:=zD (t.ij.getD x ja).a;by_cases mT:((t.ij.getD x ja)).kind=1
    .have ux:((t.ij.getD x ja)).kind=1:=mT;obtain⟨o1,o2,o3,uD⟩:=iC.num ux;have r8:y6 (t.ij.getD x ja) (jy t.ij xs p x) p=(tQ (t.ij.getD x ja).cn (t.ij.getD x ja).cd p):=by unfold y6;rw[aY ux]
     have sT:=qH<|tQ (t.ij.getD x ja).cn (t.ij.getD x ja).cd p;exact iS (ae [tT 27 ((x:Int)<t.ij.length) aC,iX (x:Int)<|t.ij.length,.c<|ZJ ((t.ij.getD x ja).kind:Nat) aC,ah 50 ((0:Int)==0) aE,.c<|amq ((t.ij.getD x ja).cn) ((t.ij.getD x ja).cd) p aD aC aC,.o 71<|.e<|lW<|tQ ((t.ij.getD x ja).cn) ((t.ij.getD x ja).cd) p,.a (aC:((jy t.ij xs p x).length+[tQ ((t.ij.getD x ja).cn) ((t.ij.getD x ja).cd) p].length)*88<=140737488355328),iD<|(x:Int)+1]<|.e<|af [.b 22 (So rfl rfl r8:Bx.le (.row true 41 ((jy t.ij xs p x).length+[tQ ((t.ij.getD x ja).cn) ((t.ij.getD x ja).cd) p].length) 7 λi_ j_=>if i_<(jy t.ij xs p x).length then(jL<|jy t.ij xs p x) i_ j_ else(E.ng<|iA [tQ ((t.ij.getD x ja).cn) ((t.ij.getD x ja).cd) p]) (i_-(jy t.ij xs p x).length) j_)<|.row true 41 ((jy t.ij xs p<|x+1).length) 7<|jL<|jy t.ij xs p<|x+1)]) aF 
    .by_cases hk:((t.ij.getD x ja)).kind<=6
     .have H9:((t.ij.getD x ja)).kind≠1:=mT;have ux:((t.ij.getD x ja)).kind<=6:=hk;have r8:y6 (t.ij.getD x ja) (jy t.ij xs p x) p=(nf (t.ij.getD x ja) ((jy t.ij xs p x).getD ((t.ij.getD x ja).a) ik) ((jy t.ij xs p x).getD ((t.ij.getD x ja).b) ik) p):=by unfold y6 NC;rw[aX H9,aZ ux];rfl
      obtain⟨o1,o2,o3,o4,o5,o6⟩:=iC.NB H9 ux;have w2:=zD (t.ij.getD x ja).b;have o7:=iC.Cu;have sT:=qH<|nf (t.ij.getD x ja) ((jy t.ij xs p x).getD ((t.ij.getD x ja).a) ik) ((jy t.ij xs p x).getD ((t.ij.getD x ja).b) ik) p;exact iS (ae [tT 27 ((x:Int)<t.ij.length) aC,iX (x:Int)<|t.ij.length,.c<|ZK ((t.ij.getD x ja).kind:Nat) aC aC,ai 50 ((2:Int)==0) aE,ai 56 ((2:Int)==1) aE,iX ((t.ij.getD x ja).a:Int)<|(jy t.ij xs p x).length,.a (aC:(t.ij.getD x ja).a<(jy t.ij xs p x).length),
       iX ((t.ij.getD x ja).b:Int) ((jy t.ij xs p x).length),.a (aC:(t.ij.getD x ja).b<(jy t.ij xs p x).length),ag [iP ((t.ij.getD x ja).kind:Int),iP ((t.ij.getD x ja).n:Int),im<|(jy t.ij xs p x).getD (t.ij.getD x ja).a ik,im<|(jy t.ij xs p x).getD (t.ij.getD x ja).b ik,iP p]<|S3 (t.ij.getD x ja) _ _ _ aD aD aC aC aC aC aC iC.f,.o 71<|.e<|lW<|nf (t.ij.getD x ja) ((jy t.ij xs p x).getD (t.ij.getD x ja).a ik) ((jy t.ij xs p x).getD (t.ij.getD x ja).b ik) p,.a (aC:((jy t.ij xs p x).length+[nf (t.ij.getD x ja) ((jy t.ij xs p x).getD (t.ij.getD x ja).a ik) ((jy t.ij xs p x).getD (t.ij.getD x ja).b ik) p].length)*88<=140737488355328),
       iD ((x:Int)+1)]<|.e<|af [.b 22 (So rfl rfl r8:Bx.le (.row true 41 ((jy t.ij xs p x).length+[nf (t.ij.getD x ja) ((jy t.ij xs p x).getD (t.ij.getD x ja).a ik) ((jy t.ij xs p x).getD (t.ij.getD x ja).b ik) p].length) 7 λi_ j_=>if i_<(jy t.ij xs p x).length then(jL<|jy t.ij xs p x) i_ j_ else(E.ng<|iA [nf (t.ij.getD x ja) ((jy t.ij xs p x).getD (t.ij.getD x ja).a ik) ((jy t.ij xs p x).getD (t.ij.getD x ja).b ik) p]) (i_-(jy t.ij xs p x).length) j_)<|.row true 41 ((jy t.ij xs p<|x+1).length) 7<|jL<|jy t.ij xs p<|x+1)]) aF 
     .have H9:((t.ij.getD x ja)).kind≠1:=mT;have ux:¬((t.ij.getD x ja)).kind<=6:=hk;have r8:y6 (t.ij.getD x ja) (jy t.ij xs p x) p=(nf (t.ij.getD x ja) ((jy t.ij xs p x).getD ((t.ij.getD x ja).a) ik) ik p):=by unfold y6 NC;rw[aX H9,a6 ux];rfl
      have w2:=kR;have o2:=iC.No H9;have o7:=iC.Cu;have o8:=ZH iC;have sT:=qH<|nf (t.ij.getD x ja) ((jy t.ij xs p x).getD ((t.ij.getD x ja).a) ik) ik p;exact iS (ae [tT 27 ((x:Int)<t.ij.length) aC,iX (x:Int)<|t.ij.length,.c<|Ra ((t.ij.getD x ja).kind:Nat) aC aC,ai 50 ((1:Int)==0) aE,ah 56 ((1:Int)==1) aE,iX ((t.ij.getD x ja).a:Int)<|(jy t.ij xs p x).length,.a (aC:(t.ij.getD x ja).a<(jy t.ij xs p x).length),.o 66 (.e BH:aj (.agg [bP false,.v<|.slice none 0 0,iP 0,bP false,.v<|.slice none 0 0,iP 0,bP true])<|im ik),ag [iP ((t.ij.getD x ja).kind:Int),iP ((t.ij.getD x ja).n:Int),im<|(jy t.ij xs p x).getD (t.ij.getD x ja).a ik,im ik,iP p]<|S3 (t.ij.getD x ja) _ _ _ aD aD aC aC aC aC aC iC.f,.o 71<|.e<|lW<|nf (t.ij.getD x ja) ((jy t.ij xs p x).getD (t.ij.getD x ja).a ik) ik p,.a (aC:((jy t.ij xs p x).length+[nf (t.ij.getD x ja) ((jy t.ij xs p x).getD (t.ij.getD x ja).a ik) ik p].length)*88<=140737488355328),iD<|(x:Int)+1]<|.e<|af [.b 22 (So rfl rfl r8:Bx.le (.row true 41 ((jy t.ij xs p x).length+[nf (t.ij.getD x ja) ((jy t.ij xs p x).getD (t.ij.getD x ja).a ik) ik p].length) 7 λi_ j_=>if i_<(jy t.ij xs p x).length then(jL<|jy t.ij xs p x) i_ j_ else(E.ng<|iA [nf (t.ij.getD x ja) ((jy t.ij xs p x).getD (t.ij.getD x ja).a ik) ik p]) (i_-(jy t.ij xs p x).length) j_)<|.row true 41 ((jy t.ij xs p<|x+1).length) 7<|jL<|jy t.ij xs p<|x+1)]) aF)
  (λhx=>by
    exact iS (ae [tF 27 ((t.ij.length:Int)<t.ij.length) aC,.z 22]<|.e<|af [.o 7 (.e<|zK aH:aj (.sl true ((jy t.ij xs p t.ij.length).length) 7<|jL<|jy t.ij xs p t.ij.length)<|iA<|jy t.ij xs p t.ij.length)]) aF) aI:jW 5 f226 (abB t xs p 0) (.exit 0) ⟨75,true,[(7,.e<|iA<|jy t.ij xs p t.ij.length)],[]⟩)<|af [.b 22<|.refl<|.row true 41 ((jy t.ij xs p 0).length) 7<|jL<|jy t.ij xs p 0]])
def oG(m:List<|List Iv):Nat->List Iv
 | 0=>[]
 |k+1=>oG m k++m.getD k []
def NO(m:List<|List Iv)(k:Nat):(oG m<|k+1).length=(oG m k).length+(m.getD k []).length:=by simp[oG]
def ajX{T n n':Nat}{xs r:List Iv}(hn:n=xs.length)(uy:n'=(xs++r).length):Bx.le (.row true T (n+r.length) 7 λi j=>if i<n then jL xs i j else(E.ng<|iA r) (i-n) j)<|.row true T n' 7<|jL<|xs++r:=by
 subst hn uy;refine .row aH λi j hi hj=>⟨.jP ?_,DX _ _ hj⟩
 by_cases h:i<xs.length
 .rw [aY h];show(jt<|xs.getD i ik).getD j .any=(jt<|(xs++r).getD i ik).getD j .any;congr 2;simp[bc,fH h]
 .rw [aX h];show(jt<|r.getD (i-xs.length) ik).getD j .any=(jt<|(xs++r).getD i ik).getD j .any;congr 2;simp[bc,fI (aC:xs.length<=i)]
def IW(a b:List Iv):E.le (.sl true 2 1 λi j=>[iA a,iA b].getD (i*1+j)<|.v<|.bool false)<|jb [a,b]:=.sl λi j hi hj=>by
 obtain rfl:j=0:= aC ;obtain rfl|rfl:i=0\/i=1:= aC 
 all_goals exact⟨.refl _,rfl⟩
def anu{n:Nat}:E.le (.sl true n 1 λk _=>.sl true ((λ_=>0) k) 7<|(λ_ _ _=>.any) k)<|jb<|List.replicate n []:=by
 have h:jb (List.replicate n []) = .sl true n 1 λi _=>iA ((List.replicate n []).getD i []):=by unfold jb;rw[List.length_replicate]
 rw[h];refine .sl λi j hi hj=>⟨?_,rfl⟩
 have e:(List.replicate n ([]:List Iv)).getD i []=[]:=by simp[bc,hi]
 rw[e];exact .sl λq _ hq _=>absurd hq<|bt _
section
variable(m:List<|List Iv)(x:Nat)
def T8:PS:=⟨36,true,[(11,.e<|iP x),(10,.e<|iP m.length),(9,.e<|jb m),(3,.e<|iP ((oG m x).length:Int)),(0,.e<|jb m)],[]⟩
def T9:PS:=⟨36,true,[(27,.e<|iP x),(26,.e<|iP m.length),(25,.e<|jb m),(6,.own 24)],[(24,.row true 41 ((oG m x).length) 7<|jL<|oG m x)]⟩
end
section
variable(t:nC)(xs:List Iv)(p:Nat)(x:Nat)
noncomputable def VY:PS:=⟨91,true,[(43,.e<|iP x),(42,.e<|iP 0),(11,.own 41),(10,.e<|iA<|jy t.ij xs p t.ij.length),(4,.box 4 0),(3,.e<|iP p)],[(41,.iT true 23 41 t.iB.length 7 (λ_=>0) (λ_ _ _=>.any) .none),(4,.cells 29 [iP t.iH,mo t.ij,mg t.iB])]⟩
noncomputable def VU:PS:=⟨91,true,[(16,.own 16),(77,.e<|iP x),(76,.e<|iP t.iB.length),(75,.e<|mg t.iB),(11,.own 41),(10,.e<|iA<|jy t.ij xs p t.ij.length)],[(16,.row true 41 x 7<|jL<|(List.range x).map λj_=>(jy t.ij xs p t.ij.length).getD (t.iB.getD j_ 0) ik),(41,.iT true 23 41 t.iB.length 7 (λ_=>0) (λ_ _ _=>.any) .none)]⟩
end
def ae8(m:List<|List Iv)(hl:m.length<=1000)(hb:∀ k,k<=m.length->(oG m k).length<=1000):ic 79 [jb m]<|iA<|oG m m.length:=by
 have Cd:=hb m.length<|a7 _;exact iy (af [.s (Sp.jX (T8 m) 0 m.length aC (λx hx mH=>by
    have kE:=hb (x+1) aC;rw[NO]at kE;exact iS (ae [tT 12 ((x:Int)<m.length) aC,iX (x:Int)<|m.length,iD<|((oG m x).length:Int)+((m.getD x []).length:Int),tF 20 ((((oG m x).length+(m.getD x []).length:Nat):Int)<0) aC,iD<|(x:Int)+1]<|.e<|af [.o 3<|aq (((oG m x).length+(m.getD x []).length:Nat):Int) ((oG m<|x+1).length:Int)<|by rw[NO]]) aF)
  (λhx=>by
    exact iS (af [tF 12 ((m.length:Int)<m.length) aC]) aF) aI:jW 3 Tryz.f79 (T8 m 0) (.exit 0) ⟨36,true,[(3,.e<|iP ((oG m m.length).length:Int)),(0,.e<|jb m)],[]⟩)<|af [.o 3<|aq 0 ((oG m 0).length:Int) rfl],.cn (aio _ aC:J3 140 [.v<|.slice none 0 0,iP ((oG m m.length).length:Int)] true 41 0 7<|jL []),.s (Sp.jX (T9 m) 0 m.length aC (λx hx mH=>by
    have kE:=hb (x+1) aC;rw[NO]at kE;exact iS (ae [tT 28 ((x:Int)<m.length) aC,iX (x:Int)<|m.length,.a (aC:((oG m x).length+(m.getD x []).length)*88<=140737488355328),iD<|(x:Int)+1]<|.e<|af [.b 24 (ajX rfl rfl:Bx.le (.row true 41 ((oG m x).length+(m.getD x []).length) 7 λi_ j_=>if i_<(oG m x).length then(jL<|oG m x) i_ j_ else(E.ng<|iA<|m.getD x []) (i_-(oG m x).length) j_)<|.row true 41 ((oG m<|x+1).length) 7<|jL<|oG m<|x+1)]) aF)
  (λhx=>by
    exact iS (ae [tF 28 ((m.length:Int)<m.length) aC,.z 24]<|.e<|af [.o 6 (.e<|zK aH:aj (.sl true ((oG m m.length).length) 7<|jL<|oG m m.length)<|iA<|oG m m.length)]) aF) aI:jW 11 Tryz.f79 (T9 m 0) (.exit 2) ⟨36,true,[(6,.e<|iA<|oG m m.length)],[]⟩)<|af [.b 24<|.refl<|.row true 41 ((oG m 0).length) 7<|jL<|oG m 0]])
def GY(a b:List Iv)(ha:a.length<=400:=by omega)(hb:b.length<=400:=by omega):ic 79 [jb [a,b]]<|iA<|a++b:=by
 have e1:oG [a,b] 1=a:=rfl;have e2:oG [a,b] 2=a++b:=rfl;have:=ae8 [a,b] aH λk hk=>by
  have hk:k<=2:=hk;rcases k with _|_|_|k
  .exact b7 _
  .rw [e1];omega
  .rw [e2,cK];omega
  .omega
 rwa[show[a,b].length=2 from rfl,e2]at this
def Fh(p:Int):ic 157 [iP p]<|bP<|kT p:=
 iy (.w (8<=p)
  (λk1=>ae [tB 4<|aZ k1]<|rQ (bP<|decide (p<=512)) (bP<|kT p)<|by unfold kT;simp[k1])
  (λk1=>ae [tB 4<|a6 k1]<|rQ (bP false) (bP<|kT p)<|by unfold kT;simp[k1]))
def ahD(x:Iv)(hx:x.ig):ic 273 [im x]<|bP false:=
 iy (af [.c<|pe x aD])
section
variable(t:nC)(xs:List Iv)(p:Nat)
def VQ(h:BM t)(h1:1<=xs.length)(hx:xs.length=t.iH)(hv:pC xs)(iu:8<=p)(ie:p<=512):ic 225 [Gk t,iA xs,iP p]<|bP true:=by
 have h8:=h.iH;exact iy<|af [.c<|abE t aD,ah 14 ((xs.length:Int)==t.iH)<|FP hx,.c<|Fh (p:Int),ah 18 (kT (p:Int))<|pH.2 ⟨aC,aC⟩,.c (zJ true _ _ 273 [] (λ_=>false) (λi hi=>ahD _<|hv i) aC λ_ _=>rfl:ic 39 [iA xs,.fn 273 []] _)]
def Vw:(List.range t.iB.length).map (λj=>(jy t.ij xs p t.ij.length).getD (t.iB.getD j 0) ik)=jZ t xs p:=by
 unfold jZ;apply aqX;intro i;rw[ch,ch];by_cases hi:i<t.iB.length
 .rw [bk<|by simpa using hi,bk hi];simp[bc,hi]
 .rw [bX<|by simpa using hi,bX aC];rfl
def VZ(h:BM t)(h1:1<=xs.length)(hx:xs.length=t.iH)(hv:pC xs)(iu:8<=p)(ie:p<=512):ic 158 [Gk t,iA xs,iP 0,iP p]<|.ix [iA<|jZ t xs p,jb<|List.replicate t.iB.length []]:=by
 have h8:=h.iH;have DG:=h.ij;have zp:=h.iB;exact iy (ae [.c<|VQ t xs p h h1 hx hv aC aC,ai 26 (decide ((0:Int)<0)) aE,tF 32 ((t.iH:Int)<0) aC,.c<|abC t xs p h h1 hx hv aC aC,.a (aC:0<=((t.iB.length:Int):Int)/\((t.iB.length:Int):Int)<=((t.iB.length:Int):Int)),.a (aC:((24:Nat):Int)*(t.iB.length:Int)<=281474976710656/\((t.iB.length:Int):Int)<=9223372036854775807),.s (Sp.jX (VY t xs p) 0 0 aC (λx hx mH=>by
    exact absurd mH<|bt _)
  (λhx=>by
    exact iS (af [ai 44 (decide ((0:Int)<0)) aE]) aF) aI:jW 6 f158 (VY t xs p 0) (.exit 0) ⟨91,true,[(11,.own 41),(10,.e<|iA<|jy t.ij xs p t.ij.length),(4,.box 4 0)],[(41,.iT true 23 41 t.iB.length 7 (λ_=>0) (λ_ _ _=>.any) .none),(4,.cells 29 [iP t.iH,mo t.ij,mg t.iB])]⟩) .nil,.y 16 16 true 41 7<|jL<|(List.range 0).map λj_=>(jy t.ij xs p t.ij.length).getD (t.iB.getD j_ 0) ik,.s (Sp.jX (VU t xs p) 0 t.iB.length aC (λx hx mH=>by
    have W3:=h.out x aC;have Ln:=JR t.ij xs p t.ij.length;have sT:=qH<|(jy t.ij xs p t.ij.length).getD (t.iB.getD x 0) ik;exact iS (ae [tT 78 ((x:Int)<t.iB.length) aC,iX (x:Int)<|t.iB.length,iX (t.iB.getD x 0:Int)<|(jy t.ij xs p t.ij.length).length,.o 86<|.e<|lW<|(jy t.ij xs p t.ij.length).getD (t.iB.getD x 0) ik,.a (aC:(x+[(jy t.ij xs p t.ij.length).getD (t.iB.getD x 0) ik].length)*88<=140737488355328),
     iD ((x:Int)+1)]<|.e<|af [.b 16 (zL rfl rfl rfl:Bx.le (.row true 41 (x+[(jy t.ij xs p t.ij.length).getD (t.iB.getD x 0) ik].length) 7 λi_ j_=>if i_<x then(jL<|(List.range x).map λj_=>(jy t.ij xs p t.ij.length).getD (t.iB.getD j_ 0) ik) i_ j_ else(E.ng<|iA [(jy t.ij xs p t.ij.length).getD (t.iB.getD x 0) ik]) (i_-x) j_)<|.row true 41 (x+1) 7<|jL<|(List.range<|x+1).map λj_=>(jy t.ij xs p t.ij.length).getD (t.iB.getD j_ 0) ik)]) aF)
  (λhx=>by
    exact iS (ae [tF 78 ((t.iB.length:Int)<t.iB.length) aC,.z 16]<|.e<|af [.o 16 (.e<|zK aH:aj (.sl true t.iB.length 7<|jL<|(List.range t.iB.length).map λj_=>(jy t.ij xs p t.ij.length).getD (t.iB.getD j_ 0) ik)<|iA<|(List.range t.iB.length).map λj_=>(jy t.ij xs p t.ij.length).getD (t.iB.getD j_ 0) ik)]) aF) aI:jW 17 f158 (VU t xs p 0) (.exit 4) ⟨91,true,[(16,.e<|iA<|(List.range t.iB.length).map λj_=>(jy t.ij xs p t.ij.length).getD (t.iB.getD j_ 0) ik),(11,.own 41)],[(41,.iT true 23 41 t.iB.length 7 (λ_=>0) (λ_ _ _=>.any) .none)]⟩) .nil]<|rR (.ix [iA<|jZ t xs p,jb<|List.replicate t.iB.length []]) (.ix<|.cons (.jP<|by rw[Vw])<|.cons anu .nil:E.le (.ix [iA<|(List.range t.iB.length).map λj_=>(jy t.ij xs p t.ij.length).getD (t.iB.getD j_ 0) ik,(.sl true t.iB.length 1 λk_ _=>.sl true ((λ_=>0) k_) 7<|(λ_ _ _=>.any) k_)])<|.ix [iA<|jZ t xs p,jb<|List.replicate t.iB.length []]))
end
def ahw(x:Iv):ic 224 [im x]<|bP x.all:=
 iy (.nil)
def vS(l:List Iv)(hl:l.length<=1000:=by omega):ic 155 [iA l]<|bP<|nD l:=
 iy (af [.c (II true _ _ 224 [] (λi=>(l.getD i ik).all) λi hi=>ahw _:ic 39 [iA l,.fn 224 []] _)])
def Hp(x:Iv)(hx:x.ig):ic 156 [im x]<|bP false:=
 iy (af [.c<|pe x aD])
def am0(n:Nat)(hn:n<=1000):ic 159 [jb<|List.replicate n [],.fn 155 []]<|bP false:=by
 have e:∀ i,i<n->(List.replicate n ([]:List Iv)).getD i []=[]:=λi hi=>by simp[bc,hi]
 refine aaB true _ _ 155 [] (λ_=>false) (λi hi=>?_) (by simpa using by omega) λ_ _=>rfl;have lg:i<n:=by simpa using hi
 show ic 155 [iA<|(List.replicate n []).getD i []] _;rw[e i lg];exact vS [] aH 
def Ja{l:List Iv}(h:qN l):nD l=false:=by
 unfold nD;rw[cF];intro i hi;rw[(h i<|bS.1 hi).2];decide
def BU{s:kp}{b:List Iv}(h:mD s)(hb:kH s.iN b):BM s.tape/\1<=(b++s.params).length/\(b++s.params).length=s.tape.iH/\pC (b++s.params):=by
 have h1:=h.s1;have h2:=h.iH;have h3:=hb.len;refine⟨h.tape,?_,?_,hb.ok.Sn.append h.params.Sn⟩
 .rw [cK];omega
 .rw [cK];omega
section
variable(s:kp)(b:List Iv)(p:Nat)(h:mD s)(hb:kH s.iN b)(iu:8<=p)(ie:p<=512)
def ahA(hn:nD (jZ s.tape (b++s.params) p)=true):ic 91 [j8 s,iA b,iP 0,iP p]<|.ix [.v<|.slice none 0 0,.v<|.slice none 0 0,iP 11]:=by
 have s4:=h.s4;have p4:=h.p4;have DC:=hb.len;have zp:=h.tape.iB;have wc:=Ja hb.ok;have AS:=Dj s.tape (b++s.params) p;obtain⟨f1,f2,f3,f4⟩:=BU h hb;exact iy<|af [.c<|Ew s aD,ai 21 ((b.length:Int) != (s.iN:Int))<|vt hb.len,.c<|vS b,ai 25 (nD b) wc,.c (zJ true _ _ 156 [] (λ_=>false) (λi hi=>Hp _ (hb.ok i hi).1) aC λ_ _=>rfl:ic 39 [iA b,.fn 156 []] _),.c<|Fh (p:Int),ah 32 (kT (p:Int))<|pH.2 ⟨aC,aC⟩,.o 40<|.e<|IW b s.params,.c<|GY b s.params,.c<|VZ s.tape (b++s.params) p f1 f2 f3 f4 aC aC,.c<|vS<|jZ s.tape (b++s.params) p,ah 48 (nD<|jZ s.tape (b++s.params) p) hn]
def ahB(hn:nD (jZ s.tape (b++s.params) p)=false):ic 91 [j8 s,iA b,iP 0,iP p]<|.ix [iA<|jZ s.tape (b++s.params) p,jb<|List.replicate s.tape.iB.length [],iP 0]:=by
 have s4:=h.s4;have p4:=h.p4;have DC:=hb.len;have zp:=h.tape.iB;have wc:=Ja hb.ok;have AS:=Dj s.tape (b++s.params) p;obtain⟨f1,f2,f3,f4⟩:=BU h hb;exact iy<|af [.c<|Ew s aD,ai 21 ((b.length:Int) != (s.iN:Int))<|vt hb.len,.c<|vS b,ai 25 (nD b) wc,.c (zJ true _ _ 156 [] (λ_=>false) (λi hi=>Hp _ (hb.ok i hi).1) aC λ_ _=>rfl:ic 39 [iA b,.fn 156 []] _),.c<|Fh (p:Int),ah 32 (kT (p:Int))<|pH.2 ⟨aC,aC⟩,.o 40<|.e<|IW b s.params,.c<|GY b s.params,.c<|VZ s.tape (b++s.params) p f1 f2 f3 f4 aC aC,.c<|vS<|jZ s.tape (b++s.params) p,ai 48 (nD<|jZ s.tape (b++s.params) p) hn,.c<|am0 s.tape.iB.length aC]
def ahC(hn:nD (jZ s.tape (b++s.params) p)=true):ic 188 [j8 s,iA b,iP p]<|.ix [.v<|.slice none 0 0,iP 11]:=
 iy (af [.c<|ahA s b p h hb iu ie hn])
def VP(hn:nD (jZ s.tape (b++s.params) p)=false):ic 188 [j8 s,iA b,iP p]<|.ix [iA<|jZ s.tape (b++s.params) p,iP 0]:=
 iy (af [.c<|ahB s b p h hb iu ie hn])
end
def iK(f:Nat->Rat):Nat->Rat
 | 0=>0
 |n+1=>iK f n+f n
def ph{f g:Nat->Rat}:∀ n,(∀ i,i<n->f i=g i)->iK f n=iK g n
 | 0,_=>rfl
 |n+1,h=>by rw[iK,iK,ph n λi hi=>h i aC,h n aC]
def xM{f g:Nat->Rat}:∀ n,(∀ i,i<n->f i<=g i)->iK f n<=iK g n
 | 0,_=>bV
 |n+1,h=>by
  have h1:=xM n λi hi=>h i aC;have h2:=h n aC;rw[iK,iK];grind
def Ev{f:Nat->Rat}(n:Nat)(h:∀ i,i<n->0<=f i):0<=iK f n:=by
 induction n with
 |zero=>exact bV
 |succ n ih=>
  have h1:=ih λi hi=>h i aC;have h2:=h n aC;rw[iK];grind
def tU(f:Nat->Rat)(c:Rat):∀ n,iK (λi=>c*f i) n=c*iK f n
 | 0=>by simp[iK]
 |n+1=>by rw[iK,iK,tU f c n];grind
def Eu(f:Nat->Rat)(c:Rat):∀ n,iK (λi=>f i*c) n=iK f n*c
 | 0=>by simp[iK]
 |n+1=>by rw[iK,iK,Eu f c n];grind
def Et(f g:Nat->Rat):∀ n,iK (λi=>f i+g i) n=iK f n+iK g n
 | 0=>by simp only[iK];grind
 |n+1=>by rw[iK,iK,iK,Et f g n];grind
def JI(f:Nat->Nat->Rat)(m:Nat):∀ n,iK (λi=>iK (λj=>f i j) m) n=iK (λj=>iK (λi=>f i j) n) m
 | 0=>by
  have:∀ m,iK (λ_=>(0:Rat)) m=0:=by
   intro m
   induction m with
   |zero=>rfl
   |succ m ih=>rw[iK,ih];grind
  exact(this m).symm
 |n+1=>by
  rw[iK,JI f m n,<-Et];rfl
def ML(f:Nat->Rat):∀ n,iK f (n+1)=f 0+iK (λi=>f<|i+1) n
 | 0=>by simp only[iK];grind
 |n+1=>by rw[iK,ML f n,iK];grind
def iY(x:Rat):Rat:=if 0<=x then x else -x
def kU(x:Rat):0<=iY x/\x<=iY x /\ -x<=iY x/\(iY x=x/\0<=x\/iY x = -x/\x<=0):=by unfold iY;split<;>grind
def tZ{x b:Rat}(h1:x<=b)(h2:-x<=b):iY x<=b:=by unfold iY;split<;>grind
def BP(x y:Rat):iY (x+y)<=iY x+iY y:=by
 obtain⟨a1,a2,a3,_⟩:=kU x;obtain⟨b1,b2,b3,_⟩:=kU y;exact tZ aK aK 
def tg(x y:Rat):iY (x*y)=iY x*iY y:=by
 obtain⟨_,_,_,a⟩:=kU x;obtain⟨_,_,_,b⟩:=kU y;obtain⟨c1,_,_,c⟩:=kU<|x*y;rcases a with⟨e1,h1⟩|⟨e1,h1⟩<;>rcases b with⟨e2,h2⟩|⟨e2,h2⟩<;>rw[e1,e2]
 .have:=bH h1 h2;grind
 .have:=bH h1 (show 0 <= -y by grind);grind
 .have:=bH (show 0 <= -x by grind) h2;grind
 .have:=bH (show 0 <= -x by grind) (show 0 <= -y by grind);grind
def xW(f:Nat->Rat):∀ n,iY (iK f n)<=iK (λi=>iY<|f i) n
 | 0=>by simp[iK,iY]
 |n+1=>by
  have h1:=xW f n;have h2:=BP (iK f n)<|f n;rw[iK,iK];grind
def GH:iY 0=0:=rfl
abbrev QM:=Nat->Nat->Rat
def qG(n:Nat)(A B:QM):QM:=λi j=>iK (λq=>A i q*B q j) n
def uO:QM:=λi j=>if i=j then 1 else 0
def TQ(n:Nat)(M:QM)(t:Rat):Nat->QM
 | 0=>uO
 |j+1=>λi l=>t/((j+1:Nat):Rat)*qG n (TQ n M t j) M i l
def SQ(n:Nat)(M:QM)(t:Rat):Nat->QM
 | 0=>uO
 |j+1=>λi l=>SQ n M t j i l+TQ n M t (j+1) i l
def rF(n k:Nat)(X:List<|List Iv)(A:QM):Prop:=∀ i j,i<n->j<k->(pW X i j).jr (A i j)
def US{X Y:Nat->Iv}{f g:Nat->Rat}{p:Nat}(hp:1<=p)(ie:p<=4096)(hX:∀ q,(X q).ig)(hY:∀ q,(Y q).ig):∀ k,(∀ q,q<=k->(X q).jr (f q))->(∀ q,q<=k->(Y q).jr (g q)) ->
 (pO X Y p k).jr (iK (λq=>f q*g q)<|k+1)
 | 0,h1,h2=>by
  have:=zU (hX 0) (hY 0) hp ie (h1 0<|a7 _)<|h2 0<|a7 _;rw[show iK (λq=>f q*g q) (0+1)=f 0*g 0 by simp only[iK];grind];exact this
 |k+1,h1,h2=>vJ (Hb X Y hp ie k) (lE _ _ hp ie) hp ie (US hp ie hX hY k (λq hq=>h1 q aC) λq hq=>h2 q aC)
  (zU (hX _) (hY _) hp ie (h1 _<|a7 _)<|h2 _<|a7 _)
def akZ{a b:List<|List Iv}{A B:QM}{n k c p:Nat}(ga:jO a n k)(gb:jO b k c)(hp:1<=p)(ie:p<=4096)(h1:rF n k a A)(h2:rF k c b B):rF n c (sd a b p)<|qG k A B:=by
 intro i j hi hj;have k1:=ga.k1;rw[Og ga gb hi hj];have:=US (f:=λq=>A i q) (g:=λq=>B q j) hp ie (ue ga i) (λq=>ue gb q j) (k-1) (λq hq=>h1 i q hi aC) λq hq=>h2 q j aC hj;rwa[(aC:k-1+1=k)]at this
def anX{a:List<|List Iv}{x:Iv}{A:QM}{t:Rat}{n k p:Nat}(ga:jO a n k)(hx:x.ig)(hp:1<=p)(ie:p<=4096)(h1:rF n k a A)(h2:x.jr t):rF n k (uR a x p) λi j=>t*A i j:=by
 intro i j hi hj;rw[Oh ga hi hj];exact zU hx (ue ga i j) hp ie h2<|h1 i j hi hj
def acK{a b:List<|List Iv}{A B:QM}{n k p:Nat}(ga:jO a n k)(gb:jO b n k)(hp:1<=p)(ie:p<=4096)(h1:rF n k a A)(h2:rF n k b B):rF n k (Az a b p) λi j=>A i j+B i j:=by
 intro i j hi hj;rw[agc ga gb hi hj];exact vJ (ue ga i j) (ue gb i j) hp ie (h1 i j hi hj)<|h2 i j hi hj
def alF:(⟨false,1,0⟩:Dy).q=1:=by rw[qs];simp[GC]
def XK(n:Nat):rF n n (zF n) uO:=by
 intro i j hi hj;rw[agd hi hj];unfold uO;split
 .have:=Bq ⟨false,1,0⟩;rwa[alF]at this
 .have:=Bq iR;rwa[s6]at this
def Jd(j:Nat):(iF (j:Int)).jr ((j:Nat):Rat):=by have:=vy (j:Int);rwa[dD]at this
section
variable {m:List<|List Iv} {h:Iv} {M:QM} {t:Rat} {n p:Nat}
def abF(ga:jO m n n)(hh:h.ig)(hp:1<=p)(ie:p<=4096)(h1:rF n n m M)(h2:h.jr t):∀ j,j<4294967296->rF n n (sG m h p j) (TQ n M t j)
 | 0,_=>by unfold sG;rw[ga.iT];exact XK n
 |j+1,hj=>anX (FM (yS ga hp ie j) ga hp ie) (oI _ _ hp ie) hp ie (akZ (yS ga hp ie j) ga hp ie (abF ga hh hp ie h1 h2 j aC) h1)<|AH hh (se (j+1) hj) hp ie h2<|Jd<|j+1
def abq(ga:jO m n n)(hh:h.ig)(hp:1<=p)(ie:p<=4096)(h1:rF n n m M)(h2:h.jr t):∀ j,j<4294967296->rF n n (jT m h p j) (SQ n M t j)
 | 0,_=>by unfold jT;rw[ga.iT];exact XK n
 |j+1,hj=>acK (CN ga hp ie j) (yS ga hp ie<|j+1) hp ie (abq ga hh hp ie h1 h2 j aC)<|abF ga hh hp ie h1 h2 (j+1) hj
def xS(n:Nat)(A:QM)(b:Rat):Prop:=∀ i,i<n->iK (λl=>iY<|A i l) n<=b
def aaC{A B:QM}{a b:Rat}(_h0:0<=a)(hb:0<=b)(h1:xS n A a)(h2:xS n B b):xS n (qG n A B)<|a*b:=by
 intro i hi;have e1:iK (λl=>iY<|qG n A B i l) n<=iK (λl=>iK (λq=>iY (A i q)*iY (B q l)) n) n:=
  xM n λl _=>by
   have:=xW (λq=>A i q*B q l) n;rw[show(λq=>iY<|A i q*B q l)=λq=>iY (A i q)*iY (B q l)from funext λq=>tg _ _]at this;exact this
 rw[JI]at e1;have e2:iK (λq=>iK (λl=>iY (A i q)*iY (B q l)) n) n<=iK (λq=>iY (A i q)*b) n:=
  xM n λq hq=>by
   rw[tU];exact bY (h2 q hq) (kU _).1
 rw[Eu]at e2;exact bw e1<|bw e2<|b8 (h1 i hi) hb
def eQ(c:Rat):Nat->Rat
 | 0=>1
 |j+1=>eQ c j*(c/((j+1:Nat):Rat))
def xC(j:Nat):(0:Rat)<((j+1:Nat):Rat):=fk.2 aC 
def Ky{a b:Rat}(h1:0<=a)(h2:0<b):0<=a/b:=by
 rw[cD];exact bH h1<|bE<|dV.2 h2
def rp{c:Rat}(h:0<=c):∀ j,0<=eQ c j
 | 0=>by simp only[eQ];decide
 |j+1=>bH (rp h j)<|Ky h<|xC j
def abr(n i:Nat):iK (λl=>iY<|uO i l) n<=1/\(n<=i->iK (λl=>iY<|uO i l) n=0):=by
 induction n with
 |zero=>exact⟨by simp only[iK];grind,λ_=>rfl⟩
 |succ n ih=>
  have e1:iY 1=1:= aE ;simp only[iK,uO]at ih ⊢;by_cases h:i=n
  .have:=ih.2 aC ;rw[this,aY h,e1];exact⟨aK,λh'=>absurd h' aC⟩
  .rw [aX h,GH,Rat.add_zero];exact⟨ih.1,λh'=>ih.2 aC⟩
def SP{N:Rat}(hN:0<=N)(h1:xS n M N):∀ j,xS n (TQ n M t j) (eQ (iY t*N) j)
 | 0=>λi _=>(abr n i).1
 |j+1=>by
  have hc:0<=iY t*N:=bH (kU t).1 hN;intro i hi;have h:=aaC (rp hc j) hN (SP hN h1 j) h1 i hi;have e:(λl=>iY<|TQ n M t (j+1) i l)=λl=>iY (t/((j+1:Nat):Rat))*iY (qG n (TQ n M t j) M i l):=funext λl=>tg _ _
  rw[e,tU];have ht:iY (t/((j+1:Nat):Rat))=iY t/((j+1:Nat):Rat):=by
   rw[cD,cD,tg];congr 1;have:=dV.2<|xC j;unfold iY;rw[aY<|bE this]
  rw[ht];have h3:=bY h<|Ky (kU t).1<|xC j;refine bw h3 ?_;have:iY t/((j+1:Nat):Rat)*(eQ (iY t*N) j*N)=eQ (iY t*N) (j+1):=by
   simp only[eQ,cD];grind
  rw[this];exact bV
def RJ{A:QM}{b:Rat}(h:xS n A b){i l:Nat}(hi:i<n)(hl:l<n):iY (A i l)<=b:=by
 have h1:=h i hi;have:∀ m,l<m->iY (A i l)<=iK (λl=>iY<|A i l) m:=by
  intro m hm
  induction m with
  |zero=>omega
  |succ m ih=>
   rw[iK];have h0:=Ev m (f:=λl=>iY<|A i l) λi _=>(kU _).1
   have h2:=(kU<|A i m).1;by_cases hq:l=m
   .subst hq;grind
   .have:=ih aC;grind
 exact bw (this n hl) h1
def aby{c r:Rat}{k:Nat}(hc:0<=c)(hr:r=c/((k+2:Nat):Rat))(xn:r<=1):∀ d,(1-r)*iK (λs=>eQ c<|k+1+s) (d+1)+r*eQ c (k+1+d)<=eQ c (k+1)
 | 0=>by simp only[iK,bT];grind
 |d+1=>by
  have ih:=aby hc hr xn d;have h0:=rp hc<|k+1+d;have hq:c/((k+1+d+1:Nat):Rat)<=r:=by
   rw[hr,cD,cD];exact bY (IB (fk.2 aC)<|dC.2 aC) hc
  have hs:eQ c (k+1+(d+1))<=r*eQ c (k+1+d):=by
   show eQ c (k+1+d)*(c/((k+1+d+1:Nat):Rat))<=_;rw[fm r];exact bY hq h0
  rw[iK];generalize iK (λs=>eQ c<|k+1+s) (d+1)=S at *
  generalize eQ c (k+1+(d+1))=a' at *
  generalize eQ c (k+1+d)=a at *
  have:(1-r)*(S+a')+r*a'=(1-r)*S+a':= aK 
  grind
def SL(M:QM)(t:Rat)(k:Nat)(i l:Nat):∀ d,SQ n M t (k+d) i l=SQ n M t k i l+iK (λs=>TQ n M t (k+1+s) i l) d
 | 0=>by simp only[iK,bT];grind
 |d+1=>by
  show SQ n M t (k+d) i l+TQ n M t (k+d+1) i l=_;rw[SL M t k i l d,iK,(aC:k+d+1=k+1+d)]
  grind
def Zu{r:List Iv}{f:Nat->Rat}(hp:1<=p)(ie:p<=4096)(v:∀ i,(r.getD i ik).ig):∀ k,(∀ i,i<k->(r.getD i ik).jr (f i))->(∀ i,i<k->pL r p i)->iK (λi=>iY<|f i) k<=(kC r p k).q
 | 0,_,_=>by rw[show kC r p 0=iR from rfl,s6];exact bV
 |k+1,hs,hg=>by
  have ih:=Zu hp ie v k (λi hi=>hs i aC) λi hi=>hg i aC;obtain⟨g1,g2⟩:=hg k aC;have mv:∀ {x:Iv},x.ig->(kn x).mi:=λh=>YH (J6 h.vK.1)<|J6 h.vK.2
  have A:=vD (xY (s5 r hp ie k).canon<|mv<|v k) hp ie;rw[Jr]at A;obtain⟨a1,a2⟩:=A.1 g2;obtain⟨h1,h2⟩:=(hs k aC).jj g1;obtain⟨m1,m2,_⟩:=Cy (v k).q;have:iY (f k)<=(kn<|r.getD k ik).q:=tZ aK aK;rw[iK];have:kC r p (k+1)=jN (iM (kC r p k)<|kn<|r.getD k ik) p true:=rfl;rw[this];grind
def alr(ga:jO m n n)(hp:1<=p)(ie:p<=4096)(h1:rF n n m M){N:Dy}(hN:uN m p=some N):xS n M N.q/\0<=N.q/\N.ig/\N.neg=false:=by
 have AM:∀ i,i<n->∀ j,j<n->pL (m.getD i []) p j:=by
  intro i hi j hj;apply bQ;intro hc;rw[LY (i:=i) (by rw[ga.iT];exact hi) (by rw[ga.mQ hi];exact hj) hc]at hN;cases hN
 have e:uN m p=some (kB m p n):=by
  rw[<-ga.iT];exact FR λi hi j hj=>AM i (by rw[<-ga.iT];exact hi) j<|by rw[ga.mQ<|by rw[<-ga.iT];exact hi]at hj;exact hj
 rw[e]at hN;cases hN;refine⟨λi hi=>?_,Jq<|FQ m p n,CB m hp ie n,FQ m p n⟩;refine bw (Zu hp ie (ue ga i) n (λj hj=>h1 i j hi hj)<|AM i hi) ?_;have:∀ x,i<x->x<=n->(kC (m.getD i []) p n).q<=(kB m p x).q:=by
  intro x
  induction x with
  |zero=>intro h;omega
  |succ x ih=>
   intro h1 h2;rw[QQ,ga.mQ aC];obtain⟨a1,a2,_⟩:=Bt (kB m p x)<|kC (m.getD x []) p n;by_cases hx:i=x
   .subst hx;exact a2
   .have:=ih aC aC;grind
 exact this n hi<|a7 _
def ZQ{u:Iv}{c:Rat}(hu:u.ig)(hp:1<=p)(ie:p<=4096)(h:u.jr c):∀ j,j<4294967296->(oA u p j).jr (eQ c j)
 | 0,_=>vy 1
 |j+1,hj=>by
  have hv:(oA u p j).ig:=by
   cases j with
   |zero=>exact se 1 aE 
   |succ j=>exact lE _ _ hp ie
  exact zU hv (oI _ _ hp ie) hp ie (ZQ hu hp ie h j aC)<|AH hu (se (j+1) hj) hp ie h<|Jd<|j+1
section
variable(ga:jO m n n)(hh:h.ig)(hp:1<=p)(ie:p<=4096)(h1:rF n n m M)(h2:h.jr t)
def am4{k:Nat}(hk:k<1000){e:Iv}(he:tP m h k p=some e){i l:Nat}(hi:i<n)(hl:l<n)(d:Nat):
 e.jr (iK (λs=>TQ n M t (k+1+s) i l) d):=by
 unfold tP at he;cases hN:uN m p with
 |none=>rw[hN]at he;cases he
 |some N=>
  rw[hN]at he;simp only[dj]at he;obtain⟨r1,r2,r3,r4⟩:=alr ga hp ie h1 hN;have hu:(iL (iW h) (iJ N) p).jr<|iY t*N.q:=zU (xV hh) (oP r3) hp ie (GG hh h2 (kU t).2.2.2)<|Bq N;have uv:(iL (iW h) (iJ N) p).ig:=lE _ _ hp ie;generalize iL (iW h) (iJ N) p=u at *
  split at he
  .cases he
  .rename_i hc;simp only[dz,cz,not_or,Int.not_le]at hc;obtain⟨c1,c2⟩:=hc;have c1:u.all=false:=by simpa using c1
   split at he
   .cases he
   .rename_i hz;cases he;have hz:(jh (oA u p<|k+1) (kY (iF 1) (jh u (iF (k+2:Nat)) p) p) p).all=false:=by simpa using hz
    obtain⟨cc,nX⟩:∃ c,c=iY t*N.q:=⟨_,rfl⟩
    rw[<-nX]at hu;have nN:0<=cc:=by rw[nX];exact bH (kU t).1 r2
    have c4:=(Rk _ _).1 c2;rw[yM,dD]at c4;obtain⟨u1,u2⟩:=hu.jj c1;have iE:cc<((k+2:Nat):Rat):= aK ;have hK:(0:Rat)<((k+2:Nat):Rat):=fk.2 aC;have xn:cc/((k+2:Nat):Rat)<1:=by
     apply arn (c:=((k+2:Nat):Rat)) _<|bE hK;rw[de aK,er];exact iE
    have pv:(oA u p<|k+1).ig:=lE _ _ hp ie;have dv:(jh u (iF (k+2:Nat)) p).ig:=oI _ _ hp ie;have sv:(kY (iF 1) (jh u (iF (k+2:Nat)) p) p).ig:=nS (se 1 aE) (rU dv) hp ie;have hs:=abn (se 1 aE) dv hp ie (vy 1)<|AH uv (se<|k+2) hp ie hu<|Jd<|k+2;have hE:=(AH pv sv hp ie (ZQ uv hp ie hu (k+1) aC) hs).jj hz;generalize jh (oA u p<|k+1) (kY (iF 1) (jh u (iF (k+2:Nat)) p) p) p=E at *
    have o:((1:Int):Rat)=1:=rfl;rw[o]at hE;have Ba:iY (iK (λs=>TQ n M t (k+1+s) i l) d)<=E.hi.q:=by
     have e1:=xW (λs=>TQ n M t (k+1+s) i l) d;have e2:iK (λs=>iY<|TQ n M t (k+1+s) i l) d<=iK (λs=>eQ cc<|k+1+s) d:=xM d λs _=>by rw[nX];exact RJ (SP r2 r1<|k+1+s) hi hl
     have e3:iK (λs=>eQ cc<|k+1+s) d<=iK (λs=>eQ cc<|k+1+s) (d+1):=by
      rw[iK];have:=rp nN<|k+1+d;grind
     have e4:=aby nN rfl (bE xn) (k:=k) d;have e5:=rp nN<|k+1+d;have uC:0<=cc/((k+2:Nat):Rat):=Ky nN hK;generalize cc/((k+2:Nat):Rat)=r at *
     have e6:=bH uC e5;have tG:(0:Rat)<1-r:= aK ;refine bw (bw e1<|bw e2 e3)<|bw ?_ hE.2;apply eV (c:=1-r) _ tG;rw[de aK]
     grind
    obtain⟨a1,a2,a3,_⟩:=kU<|iK (λs=>TQ n M t (k+1+s) i l) d;refine .inr ⟨?_,?_⟩
    .show (jo E.hi).q<=_;rw[pt];grind
    .show _<=E.hi.q
     grind
def agP(ha:h.all=false){k:Nat}(hk:k<1000){X:List<|List Iv}(hX:yi m h k p=some X)(N:Nat)(hN:k<=N):
 rF n n X (SQ n M t N):=by
 unfold yi at hX;cases hr:tP m h k p with
 |none=>rw[hr]at hX;cases hX
 |some e=>
  rw[hr]at hX;simp only[dj]at hX;split at hX
  .cases hX
  .cases hX;intro i l hi hl;have s1:=CN (h:=h) ga hp ie k;obtain⟨_,_,_,v,_⟩:=aam ga ga hh hh hk hp ie (λi j _ _=>Sub.refl _) (Sub.refl _) ha hr;have v:e.ig:=by
    obtain⟨e',WC,_,v',_⟩:=aam ga ga hh hh hk hp ie (λi j _ _=>Sub.refl _) (Sub.refl _) ha hr;rw[hr]at WC;cases WC;exact v'
   rw[age s1 _ hi hl];obtain⟨d,rfl⟩:∃ d,N=k+d:=⟨N-k,aC⟩
   rw[SL];exact vJ (ue s1 i l) v hp ie (abq ga hh hp ie h1 h2 k aC i l hi hl)<|am4 ga hh hp ie h1 h2 hk hr hi hl d
end
end
def Gh(g:Nat->Nat->Rat):∀ m,iK (λj=>iK (g j)<|m-j) m=iK (λs=>iK (λj=>g j<|s-j)<|s+1) m
 | 0=>rfl
 |m+1=>by
  have ih:=Gh g m;have e1:iK (λj=>iK (g j)<|m+1-j) m=iK (λj=>iK (g j) (m-j)+g j (m-j)) m:=
   ph m λj hj=>by rw[(aC:m+1-j=m-j+1)];rfl
  have h1:iK (g m) (m+1-m)=g m 0:=by
   rw[(aC:m+1-m=0+1)];simp only[iK];grind
  have h2:iK (λj=>g j<|m-j) (m+1)=iK (λj=>g j<|m-j) m+g m (m-m):=rfl;show iK (λj=>iK (g j)<|m+1-j) m+iK (g m) (m+1-m)=iK (λs=>iK (λj=>g j<|s-j)<|s+1) m+iK (λj=>g j<|m-j) (m+1);rw[e1,Et,h1,h2,ih,dA]
  grind
def JJ{f:Nat->Rat}(h:∀ i,0<=f i){m k:Nat}(hk:m<=k):iK f m<=iK f k:=by
 induction k with
 |zero=>
  have:m=0:= aC ;rw[this];exact bV
 |succ k ih=>
  by_cases hm:m=k+1
  .rw [hm];exact bV
  .have:=ih aC ;have:=h k;rw[iK];grind
def Gg(f:Nat->Rat)(m:Nat):∀ d,iK f (m+d)=iK f m+iK (λi=>f<|m+i) d
 | 0=>by simp only[iK,bT];grind
 |d+1=>by
  show iK f (m+d)+f (m+d)=_;rw[Gg f m d,iK];grind
def E8(c:Rat)(j:Nat):eQ c (j+1)*((j+1:Nat):Rat)=c*eQ c j:=by
 have h:c/((j+1:Nat):Rat)*((j+1:Nat):Rat)=c:=de (by have:=xC j;grind);simp only[eQ];grind
def natCast_succ(j:Nat):((j+1:Nat):Rat)=(j:Rat)+1:=by rw[dJ];rfl
def EW(a b:Rat):∀ s,iK (λj=>eQ b j*eQ a (s-j)) (s+1)=eQ (a+b) s
 | 0=>by
  show 0+eQ b 0*eQ a 0=1;simp only[eQ];grind
 |s+1=>by
  have ih:=EW a b s;have hp:=xC s;have key:iK (λj=>eQ b j*eQ a (s+1-j)) (s+2)*((s+1:Nat):Rat)=(a+b)*eQ (a+b) s:=by
   have e0:iK (λj=>eQ b j*eQ a (s+1-j)) (s+2)*((s+1:Nat):Rat)=iK (λj=>(j:Rat)*(eQ b j*eQ a (s+1-j))+eQ b j*(((s+1-j:Nat):Rat)*eQ a (s+1-j))) (s+2):=by
    rw[<-Eu];refine ph _ λj hj=>?_
    have:((s+1:Nat):Rat)=(j:Rat)+((s+1-j:Nat):Rat):=by rw[<-dJ];congr 1;omega
    rw[this];grind
   rw[e0,Et];have e1:iK (λj=>(j:Rat)*(eQ b j*eQ a (s+1-j))) (s+2)=b*eQ (a+b) s:=by
    rw[ML,<-ih,<-tU];have z:(((0:Nat):Rat))=0:=rfl;rw[z,Rat.zero_mul,Rat.zero_add];refine ph _ λj hj=>?_
    have h1:=E8 b j;rw[(aC:s+1-(j+1)=s-j)]
    grind
   have e2:iK (λj=>eQ b j*(((s+1-j:Nat):Rat)*eQ a (s+1-j))) (s+2)=a*eQ (a+b) s:=by
    rw[(aC:s+2=(s+1)+1),iK,dA,<-ih,<-tU];have z:(((0:Nat):Rat))=0:=rfl;rw[z,Rat.zero_mul,Rat.mul_zero,Rat.add_zero];refine ph _ λj hj=>?_
    have h1:=E8 a<|s-j;rw[(aC:s+1-j=s-j+1)]
    grind
   rw[e1,e2];grind
  have h2:=E8 (a+b) s;have h3:iK (λj=>eQ b j*eQ a (s+1-j)) (s+2)*((s+1:Nat):Rat)=eQ (a+b) (s+1)*((s+1:Nat):Rat):=by rw[key,h2]
  exact fY (eV (by rw[h3];exact bV) hp)<|eV (by rw[h3];exact bV) hp
def E7(c:Rat):∀ j,iY (eQ c j)=eQ (iY c) j
 | 0=>by simp only[eQ];decide
 |j+1=>by
  simp only[eQ];rw[tg,E7 c j];congr 1;rw[cD,cD,tg];congr 1;have:=dV.2<|xC j;unfold iY;rw[aY<|bE this]
def wB(v:Rat):Nat->Rat
 | 0=>1
 |j+1=>wB v j*v
def ZT(v:Rat)(i:Nat):∀ j,wB v (i+j)=wB v i*wB v j
 | 0=>by simp only[wB,bT];grind
 |j+1=>by
  show wB v (i+j)*v=_;rw[ZT v i j,wB];grind
def ZU{v:Rat}(h:0<=v):∀ j,0<=wB v j
 | 0=>by simp only[wB];decide
 |j+1=>bH (ZU h j) h
def KD(c v:Rat):∀ j,eQ (c*v) j=eQ c j*wB v j
 | 0=>by simp only[eQ,wB];grind
 |j+1=>by
  simp only[eQ,wB];rw[KD c v j];simp only[cD];grind
def S4(q:Rat):∃ n:Nat,q<=(n:Rat):=by
 refine⟨q.ceil.toNat,?_⟩;have h1:q<=(q.ceil:Rat):=Rat.le_ceil;have h2:((q.ceil:Int):Rat)<=((q.ceil.toNat:Nat):Rat):=by
  rw[<-dD,gJ];omega
 exact bw h1 h2
def R8{z:Rat}{J:Nat}(hz:0<=z)(hJ:z*2<=(J:Rat)){m:Nat}(hm:J<=m):eQ z (m+1)*2<=eQ z m:=by
 have h0:=rp hz m;have h1:=E8 z m;have hp:=xC m;have OR:z*2<=((m+1:Nat):Rat):=bw hJ<|dC.2 aC;apply eV (c:=((m+1:Nat):Rat)) _ hp;have h2:=bY OR h0
 grind
def R9{z:Rat}{J:Nat}(hz:0<=z)(hJ:z*2<=(J:Rat)){m:Nat}(hm:J<=m):∀ d,iK (λi=>eQ z<|m+i) d+eQ z (m+d)*2<=eQ z m*2
 | 0=>by simp only[iK,bT];grind
 |d+1=>by
  have ih:=R9 hz hJ hm d;have h1:=R8 hz hJ (aC:J<=m+d);rw[iK,(aC:m+(d+1)=m+d+1)]
  grind
def abz{z:Rat}{J:Nat}(hz:0<=z)(hJ:z*2<=(J:Rat)):∀ r:Nat,eQ z (J+r)*((2^r:Nat):Rat)<=eQ z J
 | 0=> aH 
 |r+1=>by
  have ih:=abz hz hJ r;have h1:=R8 hz hJ (aC:J<=J+r);have hp:(0:Rat)<=((2^r:Nat):Rat):=cR;have h2:=b8 h1 hp;rw[show(2^(r+1):Nat)=2^r*2 from bF _ _,dr,(aC:J+(r+1)=J+r+1)];have e:((2:Nat):Rat)=2:=rfl;rw[e];grind
def abA{z ε:Rat}(hz:0<=z)(hε:0<ε):∃ m0,∀ m,m0<=m->∀ d,iK (λi=>eQ z<|m+i) d<=ε:=by
 obtain⟨J,hJ⟩:=S4<|z*2;obtain⟨r,hr⟩:=S4<|eQ z J*2/ε;refine⟨J+r,λm hm d=>?_⟩;obtain⟨t,rfl⟩:∃ t,m=J+t:=⟨m-J,aC⟩
 have h1:=R9 hz hJ (aC:J<=J+t) d;have h2:=abz hz hJ t;have h3:=rp hz<|J+t+d;have h4:=rp hz<|J+t;have uD:(r:Rat)<=((2^t:Nat):Rat):=dC.2<|dq<|ck (aC:r<=t) Nat.lt_two_pow_self;have h5:eQ z J*2<=ε*((2^t:Nat):Rat):=by
  have h6:eQ z J*2/ε*ε=eQ z J*2:=de aK;have h7:=b8 (bw hr uD)<|bE hε
  grind
 have hp:(0:Rat)<((2^t:Nat):Rat):=fk.2<|bn aE;have h8:eQ z (J+t)*2<=ε:=by
  apply eV (c:=((2^t:Nat):Rat)) _ hp
  grind
 grind
def MP(n:Nat)(M:QM):Nat->QM
 | 0=>uO
 |j+1=>qG n (MP n M j) M
section
variable {n:Nat} {M:QM}
def Nn(t:Rat):∀ j i l,TQ n M t j i l=eQ t j*MP n M j i l
 | 0,i,l=>by simp only[TQ,eQ,MP];grind
 |j+1,i,l=>by
  show t/((j+1:Nat):Rat)*iK (λq=>TQ n M t j i q*M q l) n=eQ t j*(t/((j+1:Nat):Rat))*iK (λq=>MP n M j i q*M q l) n;rw[ph n λq _=>show TQ n M t j i q*M q l=eQ t j*(MP n M j i q*M q l)by rw[Nn t j i q];grind,tU]
  grind
def EK(t:Rat)(i l:Nat):∀ N,SQ n M t N i l=iK (λj=>eQ t j*MP n M j i l) (N+1)
 | 0=>by simp only[SQ,iK,eQ,MP];grind
 |N+1=>by
  show SQ n M t N i l+TQ n M t (N+1) i l=_;rw[EK t i l N,Nn];rfl
def ak2(A:QM)(i:Nat){l:Nat}(hl:l<n):qG n A uO i l=A i l:=by
 have:∀ m,iK (λq=>A i q*uO q l) m=if l<m then A i l else 0:=by
  intro m
  induction m with
  |zero=>simp[iK]
  |succ m ih=>
   rw[iK,ih];unfold uO;by_cases h1:l<m
   .rw [aY h1,aX (aC:¬m=l),aY (aC:l<m+1)];grind
   .by_cases h2:m=l
    .subst h2;rw[aX h1,aY rfl,aY (aC:m<m+1)];grind
    .rw [aX h1,aX h2,aX (aC:¬l<m+1)];grind
 unfold qG;rw[this,aY hl]
def ak1(A B C:QM)(i l:Nat):qG n A (qG n B C) i l=qG n (qG n A B) C i l:=by
 unfold qG;have e1:∀ q,A i q*iK (λr=>B q r*C r l) n=iK (λr=>A i q*(B q r*C r l)) n:=λq=>(tU _ _ n).symm
 have e2:∀ r,iK (λq=>A i q*B q r) n*C r l=iK (λq=>A i q*B q r*C r l) n:=λr=>(Eu _ _ n).symm
 rw[ph n λq _=>e1 q,ph (f:=λq=>iK (λq_1=>A i q_1*B q_1 q) n*C q l) n λr _=>e2 r,JI];exact ph n λr _=>ph n λq _=> aK 
def SH(j:Nat):∀ k i l,l<n->qG n (MP n M j) (MP n M k) i l=MP n M (j+k) i l
 | 0,i,l,hl=>ak2 _ i hl
 |k+1,i,l,hl=>by
  show qG n (MP n M j) (qG n (MP n M k) M) i l=qG n (MP n M<|j+k) M i l;rw[ak1];exact ph n λq hq=>by rw[SH j k i q hq]
def Nj{v:Rat}(hv:0<=v)(h:xS n M v):∀ j,xS n (MP n M j) (wB v j)
 | 0=>λi _=>(abr n i).1
 |j+1=>aaC (ZU hv j) hv (Nj hv h j) h
def aaA(n:Nat)(M:QM):∃ v,0<=v/\xS n M v:=by
 refine⟨iK (λi=>iK (λl=>iY<|M i l) n) n,Ev n λi _=>Ev n λl _=>(kU _).1,λi hi=>?_⟩;have:∀ m,i<m->iK (λl=>iY<|M i l) n<=iK (λi=>iK (λl=>iY<|M i l) n) m:=by
  intro m hm
  induction m with
  |zero=>omega
  |succ m ih=>
   rw[iK];have h0:0<=iK (λl=>iY<|M m l) n:=Ev n λl _=>(kU _).1
   have h1:0<=iK (λi=>iK (λl=>iY<|M i l) n) m:=Ev m λi _=>Ev n λl _=>(kU _).1
   by_cases hq:i=m
   .subst hq;grind
   .have:=ih aC;grind
 exact this n hi
def al9(a b:Rat)(N:Nat)(i:Nat){l:Nat}(hl:l<n):qG n (SQ n M b N) (SQ n M a N) i l=iK (λj=>iK (λk=>eQ b j*eQ a k*MP n M (j+k) i l)<|N+1) (N+1):=by
 unfold qG;have e1:∀ q,SQ n M b N i q*SQ n M a N q l=iK (λj=>iK (λk=>eQ b j*eQ a k*(MP n M j i q*MP n M k q l))<|N+1) (N+1):=by
  intro q;rw[EK,EK,<-Eu];refine ph _ λj _=>?_
  rw[<-tU];exact ph _ λk _=> aK 
 rw[ph n λq _=>e1 q,JI];refine ph _ λj _=>?_
 rw[JI];refine ph _ λk _=>?_
 rw[<-SH j k i l hl,tU];rfl
def apg(a b:Rat)(N:Nat)(i l:Nat):iK (λj=>iK (λk=>eQ b j*eQ a k*MP n M (j+k) i l)<|N+1-j) (N+1)=SQ n M (a+b) N i l:=by
 rw[Gh λj k=>eQ b j*eQ a k*MP n M (j+k) i l,EK];refine ph _ λs _=>?_
 rw[<-EW,<-Eu];exact ph _ λj hj=>by rw[(aC:j+(s-j)=s)]
def MH(g:Nat->Nat->Rat)(m:Nat):iK (λj=>iK (g j) m) m=iK (λj=>iK (g j)<|m-j) m+iK (λj=>iK (λk=>g j<|m-j+k) j) m:=by
 rw[<-Et];refine ph _ λj hj=>?_
 rw[<-Gg,(aC:m-j+j=m)]
def ail{v:Rat}(hv:0<=v)(h:xS n M v)(a b:Rat)(N:Nat){i l:Nat}(hi:i<n)(hl:l<n):
 iY (qG n (SQ n M b N) (SQ n M a N) i l-SQ n M (a+b) N i l)<=iK (λs=>eQ (iY a*v+iY b*v)<|N+1+s) (N+1):=by
 have hx:0<=iY a*v:=bH (kU a).1 hv;have hy:0<=iY b*v:=bH (kU b).1 hv;have e1:qG n (SQ n M b N) (SQ n M a N) i l=SQ n M (a+b) N i l+iK (λj=>iK (λk=>eQ b j*eQ a (N+1-j+k)*MP n M (j+(N+1-j+k)) i l) j) (N+1):=by
  have:=MH (λj k=>eQ b j*eQ a k*MP n M (j+k) i l)<|N+1;rw[apg,<-al9 a b N i hl]at this;exact this
 have e2:qG n (SQ n M b N) (SQ n M a N) i l-SQ n M (a+b) N i l=iK (λj=>iK (λk=>eQ b j*eQ a (N+1-j+k)*MP n M (j+(N+1-j+k)) i l) j) (N+1):= aK ;rw[e2];have e3:iY (iK (λj=>iK (λk=>eQ b j*eQ a (N+1-j+k)*MP n M (j+(N+1-j+k)) i l) j)<|N+1)<=iK (λj=>iK (λk=>eQ (iY b*v) j*eQ (iY a*v) (N+1-j+k)) j) (N+1):=by
  refine bw (xW _ _)<|xM _ λj _=>bw (xW _ _)<|xM _ λk _=>?_;rw[tg,tg,E7,E7,KD,KD];have hr:=RJ (Nj hv h<|j+(N+1-j+k)) hi hl;rw[ZT]at hr;have h1:=rp (kU b).1 j;have h2:=rp (kU a).1<|N+1-j+k;have h3:=bY hr<|bH h1 h2
  grind
 refine bw e3 ?_;have q1:iK (λj=>iK (λk=>eQ (iY b*v) j*eQ (iY a*v) k)<|N+1) (N+1)=iK (λj=>iK (λk=>eQ (iY b*v) j*eQ (iY a*v) k)<|N+1-j) (N+1)+iK (λj=>iK (λk=>eQ (iY b*v) j*eQ (iY a*v) (N+1-j+k)) j) (N+1):=
  MH (λj k=>eQ (iY b*v) j*eQ (iY a*v) k) (N+1)
 have q2:iK (λj=>iK (λk=>eQ (iY b*v) j*eQ (iY a*v) k)<|N+1-j) (N+1)=iK (λs=>eQ (iY a*v+iY b*v) s) (N+1):=by
  rw[Gh λj k=>eQ (iY b*v) j*eQ (iY a*v) k];exact ph _ λs _=>EW _ _ s
 have G0:∀ j k,0<=eQ (iY b*v) j*eQ (iY a*v) k:=λj k=>bH (rp hy j)<|rp hx k
 have q3:iK (λj=>iK (λk=>eQ (iY b*v) j*eQ (iY a*v) k)<|N+1) (N+1)<=iK (λs=>eQ (iY a*v+iY b*v) s) (N+1+(N+1)):=by
  rw[<-ph (f:=λs=>iK (λj=>eQ (iY b*v) j*eQ (iY a*v) (s-j))<|s+1) _ λs _=>EW _ _ s,<-Gh (λj k=>eQ (iY b*v) j*eQ (iY a*v) k)];refine bw (xM _ λj hj=>JJ (λk=>G0 j k) (aC:N+1<=N+1+(N+1)-j)) ?_;exact JJ (λj=>Ev _ λk _=>G0 j k) aC 
 rw[Gg (λs=>eQ (iY a*v+iY b*v) s) (N+1)<|N+1,q1,q2]at q3;have cancel:∀ A B C:Rat,A+B<=A+C->B<=C:=by intro A B C h;grind
 exact cancel _ _ _ q3
def aim(n:Nat)(M:QM)(a b:Rat){ε:Rat}(hε:0<ε):∃ N0,∀ N,N0<=N->∀ i l,i<n->l<n->iY (qG n (SQ n M b N) (SQ n M a N) i l-SQ n M (a+b) N i l)<=ε:=by
 obtain⟨v,hv,h⟩:=aaA n M;have hz:0<=iY a*v+iY b*v:=by
  have hx:0<=iY a*v:=bH (kU a).1 hv;have hy:0<=iY b*v:=bH (kU b).1 hv
  grind
 obtain⟨m0,h0⟩:=abA hz hε;exact⟨m0,λN hN i l hi hl=>bw (ail hv h a b N hi hl)<|h0 (N+1) aC<|N+1⟩
def acD(N:Nat)(i l:Nat):SQ n M 0 N i l=uO i l:=by
 induction N with
 |zero=>rfl
 |succ N ih=>
  show SQ n M 0 N i l+TQ n M 0 (N+1) i l=_;rw[ih,Nn];simp only[eQ,cD];grind
end
def nd(f:Nat->Rat)(X:Iv):Prop:=∀ ε,0<ε->∃ N0,∀ N,N0<=N->∃ r,X.jr r/\iY (f N-r)<=ε
def nd.Q3{f:Nat->Rat}{X:Iv}{k:Nat}(h:∀ N,k<=N->X.jr (f N)):nd f X:=λε hε=>
 ⟨k,λN hN=>⟨f N,h N hN,by rw[Rat.sub_self,GH];exact bE hε⟩⟩
def nd.all{f:Nat->Rat}{X:Iv}(h:X.all=true):nd f X:=nd.Q3 (k:=0) λ_ _=>.inl h
def nd.shift{f g:Nat->Rat}{X:Iv}(h:nd f X)(k:∀ ε,0<ε->∃ N0,∀ N,N0<=N->iY (g N-f N)<=ε):nd g X:=λε hε=>by
 obtain⟨N1,h1⟩:=h (ε/2) aK;obtain⟨N2,h2⟩:=k (ε/2) aK;refine⟨max N1 N2,λN hN=>?_⟩;obtain⟨r,hr,hd⟩:=h1 N aC;have hg:=h2 N aC;refine⟨r,hr,?_⟩;have:=BP (g N-f N)<|f N-r;rw[show g N-f N+(f N-r)=g N-r by grind]at this
 grind
def nd.akO{f:Nat->Rat}{W R:Iv}{k:Nat}(hW:∀ N,k<=N->W.jr (f N))(hR:nd f R):Cz W R:=by
 refine akP λwa ra=>?_
 have key:∀ ε,0<ε->W.lo.q<=R.hi.q+ε/\R.lo.q<=W.hi.q+ε:=by
  intro ε hε;obtain⟨N0,h0⟩:=hR ε hε;obtain⟨r,hr,hd⟩:=h0 (max N0 k) aC;obtain⟨w1,w2⟩:=(hW (max N0 k) aC).jj wa;obtain⟨r1,r2⟩:=hr.jj ra;obtain⟨_,a2,a3,_⟩:=kU<|f (max N0 k)-r;constructor<;>grind
 constructor
 .apply dt.1;intro iE;have:=(key ((W.lo.q-R.hi.q)/2) aK).1
  grind
 .apply dt.1;intro iE;have:=(key ((R.lo.q-W.hi.q)/2) aK).2
  grind
def EQ(c:Rat)(N:Nat):Rat:=iK (eQ c)<|N+1
def alH(j:Nat):MP 1 (λ_ _=>1) j 0 0=1:=by
 induction j with
 |zero=>rfl
 |succ j ih=>
  show iK (λq=>MP 1 (λ_ _=>1) j 0 q*1) 1=1;simp only[iK];rw[ih];grind
def JY(c:Rat)(N:Nat):SQ 1 (λ_ _=>1) c N 0 0=EQ c N:=by
 rw[EK];exact ph _ λj _=>by rw[alH];grind
def JZ(a b:Rat){ε:Rat}(hε:0<ε):∃ N0,∀ N,N0<=N->iY (EQ (a+b) N-EQ a N*EQ b N)<=ε:=by
 obtain⟨N0,h0⟩:=aim 1 (λ_ _=>1) a b hε;refine⟨N0,λN hN=>?_⟩;have:=h0 N hN 0 0 aE aE;rw[show qG 1 (SQ 1 (λ_ _=>1) b N) (SQ 1 (λ_ _=>1) a N) 0 0=EQ a N*EQ b N by
  show iK (λq=>SQ 1 (λ_ _=>1) b N 0 q*SQ 1 (λ_ _=>1) a N q 0) 1=_;simp only[iK];rw[JY,JY];grind,JY]at this
 obtain⟨_,a2,a3,_⟩:=kU<|EQ a N*EQ b N-EQ (a+b) N;exact tZ aK aK 
def acv(N:Nat):EQ 0 N=1:=by
 rw[<-JY,acD];rfl
def S6{x:Iv}{r s:Rat}(hx:x.ig)(h:x.jr r)(hs:iY s<=iY r):(rH x).jr s:=by
 unfold rH;cases xa:x.all
 .obtain ⟨h1,h2⟩:=h.jj xa;obtain⟨m1,m2,_⟩:=Cy hx.q;obtain⟨_,a2,a3,a4⟩:=kU r;obtain⟨_,b2,b3,_⟩:=kU s;have hr:iY r<=(kn x).q:= aK ;refine .inr ⟨?_,?_⟩
  .show (jo<|kn x).q<=s;rw[pt];grind
  .show s<=(kn x).q
   grind
 .rw [aY rfl];exact .inl xa
def GA{a b:Int}(h:a<=b):P2 a<=P2 b:=by
 rw[GB h];have h1:(1:Rat)<=((2^(b-a).toNat:Nat):Rat):=by
  have:=dC.2<|Nat.one_le_two_pow (n:=(b-a).toNat);exact this
 have:=b8 h1<|bE<|nJ a
 grind
def C7(c:Rat):Nat->Rat×Rat
 | 0=>(1,0)
 |j+1=>(-(c/((j+1:Nat):Rat)*(C7 c j).2),c/((j+1:Nat):Rat)*(C7 c j).1)
def MQ{i:Nat}(h:i<2):i=0\/i=1:= aC 
def J0(d:Rat)(f g:Nat->Rat):Prop:=∃ N0,∀ N,N0<=N->iY (f N-g N)<=d
def afc(c:Rat):∀ j,C7 (-c) j=((C7 c j).1,-(C7 c j).2)
 | 0=>by simp[C7]
 |j+1=>by
  have e:-c/((j+1:Nat):Rat) = -(c/((j+1:Nat):Rat)):=by simp only[cD];grind
  simp only[C7,afc c j,e];congr 1<;>grind
def Hd{x y:Rat}(h0:0<=x)(h:x<=y):∀ j,eQ x j<=eQ y j
 | 0=>bV
 |j+1=>by
  have h1:=Hd h0 h j;have hp:=bE<|dV.2<|xC j;simp only[eQ,cD];have m1:=b8 h hp;have m2:=b8 h1<|bH h0 hp;have m3:=bY m1<|rp (bw h0 h) j
  grind
def J0.trans{d e:Rat}{f g k:Nat->Rat}(h:J0 d f g)(h':J0 e g k):J0 (d+e) f k:=by
 obtain⟨N1,h1⟩:=h;obtain⟨N2,h2⟩:=h';refine⟨max N1 N2,λN hN=>?_⟩;have:=BP (f N-g N)<|g N-k N;have a:=h1 N aC;have b:=h2 N aC;rw[show f N-k N=f N-g N+(g N-k N)by grind]
 grind
def HF1:Dy:=⟨false,1014047155841371404857783918912611814895143950022408150448898879701903863171748812343190420115852101928445847465915947005,-398⟩
def HF2:Dy:=⟨false,2028094311682742809715567837825223629790287900044816300897797759403807726343497624686380840231704203856891694931831894109,-399⟩
def HF:Iv:=⟨HF1,HF2,false⟩
def after{N:Nat}(h:100<=N):∃ d,N=100+d:=⟨N-100,aC⟩
def zq(k:Int):Rat×Rat:=if k%4=0 then(1,0)else if k%4=1 then(0,1)else if k%4=2 then(-1,0)else(0,-1)
def lF(r:Iv)(p:Nat):Nat->Iv
 | 0=>iF 1
 |j+1=>jh (iL (lF r p j) r p) (iF ((j+1:Nat):Int)) p
def RV(r:Iv)(p j:Nat):Iv:=if 2<=j%4 then oO (lF r p j)else lF r p j
def MC(r:Iv)(p:Nat):Nat->Iv
 | 0=>iF 0
 |j+1=>if(j+1)%2=1 then je (MC r p j) (RV r p<|j+1) p else MC r p j
def rD(n:Int):(qJ n).q=P2 n:=by unfold qJ;rw[si];simp
def xK{r:Iv}{p:Nat}(_hr:r.ig)(iu:8<=p)(ie:p<=512):∀ j,(lF r p j).ig
 | 0=>tN 1 aE 
 |j+1=>oI _ _ 
def an4{r:Iv}{p:Nat}(hr:r.ig)(iu:8<=p)(ie:p<=512)(j:Nat):(RV r p j).ig:=by
 unfold RV;split
 .exact rU<|xK hr iu ie j
 .exact xK hr iu ie j
def aaS{r:Iv}{p:Nat}(hr:r.ig)(iu:8<=p)(ie:p<=512):∀ j,(MC r p j).ig
 | 0=>tN 0 aE 
 |j+1=>by
  unfold MC;split
  .exact nS (aaS hr iu ie j) (an4 hr iu ie _) aC aC 
  .exact aaS hr iu ie j
def RW{r:Iv}{p:Nat}(hr:r.ig)(iu:8<=p)(ie:p<=512){ρ:Rat}(h:r.jr ρ):∀ j,j<4294967296->(lF r p j).jr (eQ ρ j)
 | 0,_=>vy 1
 |j+1,hj=>by
  have e:eQ ρ (j+1)=eQ ρ j*ρ/((j+1:Nat):Rat):=by simp only[eQ,cD];grind
  rw[e];exact AH (lE _ _) (se (j+1) hj) aC aC (zU (xK hr iu ie j) hr aC aC (RW hr iu ie h j aC) h)<|Jd<|j+1
def aaT{r:Iv}{p:Nat}:∀ {j d:Nat},(lF r p<|j+d).all=false->(lF r p j).all=false
 |_,0,h=>h
 |j,d+1,h=>by
  apply aaT (d:=d);cases ha:(lF r p<|j+d).all
  .rfl
  .exfalso;have:lF r p (j+(d+1))=ik:=by
    show jh (iL (lF r p<|j+d) r p) _ p=_;rw[zV p<|.inl ha,yg p<|.inl rfl]
   rw[this]at h;cases h
def qj(n:Int):Iv:=⟨jo<|qJ n,qJ n,false⟩
def EV{n:Int}{r:Rat}:(qj n).jr r ↔ -P2 n<=r/\r<=P2 n:=by
 unfold Iv.jr qj;simp only[bC,false_or];rw[pt,rD]
def BL{p:Nat}(hp:1<=p){n:Int}(h1:-1000<=n)(h2:n<=1000):G p<|P2 n:=.inl ⟨1,n,by rw[wP];exact hp,aC,by rw[wP];omega,aH⟩
def GQ{p:Nat}{S:Rat->Prop}{X:Iv}(h:BK p S X)(hp:1<=p){n:Int}(h1:-1000<=n)(h2:n<=1000)(hs:∀ r,S r -> -P2 n<=r/\r<=P2 n):Sub X<|qj n:=by
 obtain⟨a,b,c⟩:=h.vo _ _ (BL hp h1 h2).neg (BL hp h1 h2) hs;refine .inr ⟨a,?_,?_⟩
 .show (jo<|qJ n).q<=_;rw[pt,rD];exact b
 .show _<=(qJ n).q;rw[rD];exact c
def SU{a b u v:Rat}(h1:-u<=a)(h2:a<=u)(h3:-v<=b)(h4:b<=v):-(u*v)<=a*b/\a*b<=u*v:=by
 have ha:iY a<=u:=tZ h2 aK;have hb:iY b<=v:=tZ h4 aK;have hm:=tg a b;have h0:=(kU b).1;have hu:0<=u:=bw (kU a).1 ha;have m1:=b8 ha h0;have m2:=bY hb hu;obtain⟨_,c2,c3,_⟩:=kU<|a*b;constructor<;>grind
def Wu(j:Nat):P2 (-(j:Int))*P2 (-1)=P2 (-((j+1:Nat):Int)):=by
 rw[<-rG];congr 1;omega
def afL{a u:Rat}{n:Nat}(h1:-u<=a)(h2:a<=u):-u<=a/((n+1:Nat):Rat)/\a/((n+1:Nat):Rat)<=u:=by
 have hp:=xC n;have V6:(1:Rat)<=((n+1:Nat):Rat):=by
  have:=dC (a:=1) (b:=n+1);exact this.2 aC 
 have e:=de (a:=a) (b:=((n+1:Nat):Rat)) aK;have hu:0<=u:= aK ;generalize a/((n+1:Nat):Rat)=x at *
 generalize ((n+1:Nat):Rat)=c at *
 constructor
 .apply dt.1;intro iE;have m:=eC iE hp;have m2:=bY V6 hu
  grind
 .apply dt.1;intro iE;have m:=eC iE hp;have m2:=bY V6 hu
  grind
def aaV{y:Iv}(hy:y.ig)(h:Sub y<|qj (-1)){p:Nat}(iu:8<=p)(ie:p<=512):∀ j,j<=900->Sub (lF y p j) (qj (-(j:Int)))
 | 0,_=>by
  have e:(iF 1).lo.q=1/\(iF 1).hi.q=1/\(iF 1).all=false:=QX 1;refine .inr ⟨e.2.2,?_,?_⟩
  .show (jo<|qJ _).q<=_;rw[pt,rD,show(lF y p 0).lo.q=1 from e.1];decide +kernel
  .show _<=(qJ _).q;rw[rD,show(lF y p 0).hi.q=1 from e.2.1];decide +kernel
 |j+1,hj=>by
  have ih:=aaV hy h iu ie j aC;have vT:=xK hy iu ie j;obtain⟨ta,_⟩:=ih.r9 rfl;obtain⟨ya,_⟩:=h.r9 rfl;have B:=D7 vT hy ta ya (aC:1<=p) aC;have s1:Sub (iL (lF y p j) y p)<|qj (-((j+1:Nat):Int)):=GQ B aC aC aC (by
   rintro r ⟨a,b,ha,hb,rfl⟩;obtain⟨a1,a2⟩:=EV.1<|ih.jr ha;obtain⟨b1,b2⟩:=EV.1<|h.jr hb;rw[<-Wu];exact SU a1 a2 b1 b2)
  have vm:(iL (lF y p j) y p).ig:=lE _ _;obtain⟨ma,_⟩:=s1.r9 rfl;have vn:=se<|j+1;have hs:mV (iF ((j+1:Nat):Int))≠0:=by rw[Zw aC];decide
  exact GQ (B2 vm vn ma hs (aC:1<=p) aC) aC aC aC (by
   rintro r ⟨a,b,ha,hb,rfl⟩;obtain⟨a1,a2⟩:=EV.1<|s1.jr ha;obtain⟨b1,b2⟩:=hb.jj rfl;have e:=QX<|j+1;rw[e.1]at b1;rw[e.2.1]at b2;rw[show b=((j+1:Nat):Rat)from fY b2 b1];exact afL a1 a2)
def py(x:Iv)(p:Nat):Bool:=x.all||(decide ((kn x).m=0)||decide ((kn x).iz <= -(p:Int)))
def abJ{d:Dy}(hm:d.m≠0){n:Int}(h:iY d.q<=P2 n):d.iz<=n+1:=by
 apply bQ;intro iE;have hT:d.iz=(iq d.m:Int)+d.e:=by unfold Dy.iz;rw[aX hm]
 have hb:0<iq d.m:=xy.2 (by rw[cA];omega);have h1:2^(iq d.m-1)<=d.m:=xy.1 aC;have h2:((2^(iq d.m-1):Nat):Rat)<=(d.m:Rat):=dC.2 h1;have h3:=b8 h2<|bE<|nJ d.e;rw[<-As,<-rG,show((iq d.m-1:Nat):Int)+d.e=d.iz-1 by rw[hT];omega]at h3;have h4:iY d.q=(d.m:Rat)*P2 d.e:=by
  have h0:0<=(d.m:Rat)*P2 d.e:=bH cR<|bE<|nJ _;rw[qs];unfold iY;cases d.neg
  .simp only[bC,bh];rw[aY h0]
  .simp only[bA];split<;>grind
 have h5:=GA (aC:n+1<=d.iz-1);have h6:P2 (n+1)=P2 n*2:=by rw[rG];congr 1
 have:=nJ n
 grind
def abH{x:Iv}(hx:x.ig){p:Nat}(h:Sub x<|qj (-((p+1:Nat):Int))):py x p=true:=by
 unfold py;cases ha:x.all
 .by_cases hm:(kn x).m=0
  .rw [aZ hm];rfl
  .obtain ⟨_,k1,k2⟩:=h.r9 rfl;obtain⟨m1,m2,m3⟩:=Cy hx.q;replace k1:(jo<|qJ (-((p+1:Nat):Int))).q<=x.lo.q:=k1;replace k2:x.hi.q<=(qJ (-((p+1:Nat):Int))).q:=k2;rw[pt,rD]at k1;rw[rD]at k2;have hq:=hx.q;have q7:=nJ (-((p+1:Nat):Int));generalize hu:P2 (-((p+1:Nat):Int))=u at *
   have hle:iY (kn x).q<=u:=tZ (by rcases m3 with m3|m3<;>grind) (by rcases m3 with m3|m3<;>grind);have:=abJ hm<|hu▸hle;rw[aZ<|show(kn x).iz <= -(p:Int)by omega];simp
 .rfl
def aaU{y:Iv}(h:y.all=true)(p:Nat):lF y p 1=ik:=by
 show jh (iL (iF 1) y p) _ p=_;rw[zV p<|.inr h,yg p<|.inl rfl]
def ag1{y:Iv}(hy:y.ig)(h:y.all=true\/Sub y (qj (-1))){p:Nat}(iu:8<=p)(ie:p<=512):∃ N,1<=N/\N<=1000/\(∀ x,1<=x->x<N->py (lF y p x) p=false)/\py (lF y p N) p=true:=by
 have ex:∃ x,x<900/\decide (1<=x/\py (lF y p x) p=true)=true:=by
  rcases h with h|h
  .exact ⟨1,aC,aZ ⟨aC,by rw[aaU h];rfl⟩⟩
  .exact ⟨p+1,aC,aZ ⟨aC,abH (xK hy iu ie _)<|aaV hy h iu ie (p+1) aC⟩⟩
 obtain⟨N,n1,n2,n3⟩:=sD (p:=λx=>decide (1<=x/\py (lF y p x) p=true)) ex;have n2':=cN n2;refine⟨N,n2'.1,aC,λx h1 h2=>?_,n2'.2⟩;have:=gK<|n3 x h2;cases hc:py (lF y p x) p
 .rfl
 .exact absurd ⟨h1,hc⟩ this
def vP(y:Iv)(p:Nat):Nat->Iv
 | 0=>iF 1
 |j+1=>je (vP y p j) (lF y p<|j+1) p
def AK(y:Iv)(p N:Nat):Iv:=je (vP y p N) (rH<|lF y p N) p
def Fb{y:Iv}(hy:y.ig){p:Nat}(iu:8<=p)(ie:p<=512):∀ j,(vP y p j).ig
 | 0=>tN 1 aE 
 |j+1=>nS (Fb hy iu ie j) (xK hy iu ie _) aC aC 
def ag0{y:Iv}(hy:y.ig){p:Nat}(iu:8<=p)(ie:p<=512)(N:Nat):(AK y p N).ig:=nS (Fb hy iu ie N) (EO<|xK hy iu ie N) aC aC 
def lZ(x:Iv)(p:Nat):Iv:=if x.all then ik else lH (jN x.lo p false) (jC x.lo p false) (jN x.hi p true) (jC x.hi p true)
def tp(a b:Iv):Iv:=if a.all||b.all then ik else⟨a.lo,b.hi,false⟩
section
variable{x:Iv}(hx:x.ig){p:Nat}
def F9(hp:1<=p:=by omega)(ie:p<=4096:=by omega):(lZ x p).ig:=by
 unfold lZ;cases xa:x.all
 .obtain ⟨c1,c2⟩:=hx.vK;simp only[bC,bh];unfold lH;split
  .exact kR
  .rename_i he;have A:=yQ c1 hp ie;have B:=vD c2 hp ie;refine .inr ⟨rfl,wF _ hp ie _,wF _ hp ie _,?_⟩;rw[pg];exact bw (A.1 aC).2<|bw hx.q (B.1 aC).2
 .exact kR
def Jx(hp:1<=p)(ie:p<=4096){r:Rat}(h:x.jr r):(lZ x p).jr r:=by
 unfold lZ;cases xa:x.all
 .obtain ⟨c1,c2⟩:=hx.vK;obtain⟨h1,h2⟩:=h.jj xa;simp only[bC,bh];unfold lH;split
  .exact .inl rfl
  .rename_i he;have A:=yQ c1 hp ie;have B:=vD c2 hp ie;exact .inr ⟨bw (A.1 aC).2 h1,bw h2 (B.1 aC).2⟩
 .exact .inl rfl
def ann(hp:1<=p)(ie:p<=4096){n:Int}(h1:-1000<=n)(h2:n<=1000)(h:Sub x<|qj n):Sub (lZ x p)<|qj n:=by
 obtain⟨xa,k1,k2⟩:=h.r9 rfl;replace k1:(jo<|qJ n).q<=x.lo.q:=k1;replace k2:x.hi.q<=(qJ n).q:=k2;rw[pt,rD]at k1;rw[rD]at k2;obtain⟨c1,c2⟩:=hx.vK;have A:=(yQ c1 hp ie).2 _ (BL hp h1 h2).neg k1;have B:=(vD c2 hp ie).2 _ (BL hp h1 h2) k2;unfold lZ lH;rw[xa];simp only[bC,bh];rw[aX aC];refine .inr ⟨rfl,?_,?_⟩
 .show (jo<|qJ n).q<=_;rw[pt,rD];exact A.2
 .show _<=(qJ n).q;rw[rD];exact B.2
end
def Qo{f g:Nat->Rat}{A B:Iv}(hA:nd f A)(hB:nd g B)(h:∀ ε,0<ε->∃ N0,∀ N,N0<=N->f N<=g N+ε)(aa:A.all=false)(ba:B.all=false):A.lo.q<=B.hi.q:=by
 apply dt.1;intro iE;obtain⟨ε,hε⟩:∃ ε,ε=(A.lo.q-B.hi.q)/4:=⟨_,rfl⟩
 have h0:0<ε:=by rw[hε];grind
 obtain⟨N1,h1⟩:=hA ε h0;obtain⟨N2,h2⟩:=hB ε h0;obtain⟨N3,h3⟩:=h ε h0;obtain⟨r,hr,hd⟩:=h1 (max N1<|max N2 N3) aC;obtain⟨s,hs,he⟩:=h2 (max N1<|max N2 N3) aC;have h4:=h3 (max N1<|max N2 N3) aC;obtain⟨r1,r2⟩:=hr.jj aa;obtain⟨s1,s2⟩:=hs.jj ba;obtain⟨_,a2,a3,_⟩:=kU<|f (max N1<|max N2 N3)-r;obtain⟨_,b2,b3,_⟩:=kU<|g (max N1<|max N2 N3)-s
 grind
def acu{c:Rat}(h:0<=c)(N:Nat):1<=EQ c N:=by
 have:=JJ (f:=eQ c) (λi=>rp h i) (aC:1<=N+1);have e:iK (eQ c) 1=1:=by show 0+1=1;grind
 unfold EQ;rw[e]at this;exact this
def acs(c:Rat){ε:Rat}(hε:0<ε):∃ N0,∀ N,N0<=N -> -ε<=EQ c N:=by
 obtain⟨N0,h0⟩:=JZ (c/2) (c/2) hε;rw[show c/2+c/2=c by grind]at h0;refine⟨N0,λN hN=>?_⟩;have h:=h0 N hN;have hs:0<=EQ (c/2) N*EQ (c/2) N:=by
  by_cases k:0<=EQ (c/2) N
  .exact bH k k
  .have:=bH (show 0 <= -EQ (c/2) N by grind) (show 0 <= -EQ (c/2) N by grind)
   grind
 obtain⟨_,a2,a3,_⟩:=kU<|EQ c N-EQ (c/2) N*EQ (c/2) N
 grind
def Nf{c:Rat}(h:0<=c):∃ M:Rat,0<M/\∀ N,EQ c N<=M:=by
 obtain⟨m0,h0⟩:=abA h (show(0:Rat)<1 by decide);have hs:0<=iK (eQ c) m0:=by
  have:=JJ (f:=eQ c) (λi=>rp h i)<|b7 m0;exact this
 refine⟨iK (eQ c) m0+1,aK,λN=>?_⟩;unfold EQ;by_cases hN:m0<=N+1
 .obtain ⟨d,hd⟩:∃ d,N+1=m0+d:=⟨N+1-m0,aC⟩
  rw[hd,Gg];have:=h0 m0 (a7 _) d
  grind
 .have:=JJ (f:=eQ c) (λi=>rp h i) (aC:N+1<=m0)
  grind
def Gy{a b:Rat}(h:a<=b){ε:Rat}(hε:0<ε):∃ N0,∀ N,N0<=N->EQ a N<=EQ b N+ε:=by
 have hd:0<=b-a:= aK ;obtain⟨N1,h1⟩:=JZ a (b-a) (show 0<ε/2 by grind);rw[show a+(b-a)=b by grind]at h1;obtain⟨M,ui,hM⟩:∃ M:Rat,0<M/\∀ N,EQ (b-a) N<=M:=Nf hd;obtain⟨N2,h2⟩:=acs a (show 0<ε/(2*M)by rw[cD];exact ep hε<|dV.2 aK);refine⟨max N1 N2,λN hN=>?_⟩;have k1:=h1 N aC;have k2:=h2 N aC;have e:ε/(2*M)*M=ε/2:=by
  have:=de (a:=ε) (b:=2*M) aK 
  grind
 have k3:=acu hd N;have k4:=hM N;obtain⟨_,a2,a3,_⟩:=kU<|EQ b N-EQ a N*EQ (b-a) N;generalize EQ a N=x at *
 generalize EQ (b-a) N=y at *
 generalize EQ b N=z at *
 generalize ε/(2*M)=δ at *
 have m1:=bH (show 0<=x+δ by grind) (show 0<=y-1 by grind);have hδ:0<=δ:=by
  apply dt.1;intro iE;have:=eC iE ui
  grind
 have m2:=bY (show y-1<=M by grind) hδ
 grind
def Vn{y:Iv}{r:Rat}(hy:y.ig)(h:y.jr r){p:Nat}(iu:8<=p)(ie:p<=512):∀ j,j<4294967296->(vP y p j).jr (EQ r j)
 | 0,_=>by
  have:EQ r 0=1:=by unfold EQ;simp only[iK,eQ];grind
  rw[this];exact vy 1
 |j+1,hj=>vJ (Fb hy iu ie j) (xK hy iu ie<|j+1) aC aC (Vn hy h iu ie j aC)<|RW hy iu ie h (j+1) hj
def agX{y:Iv}(h:y.all=true){p N:Nat}(hN:1<=N):(AK y p N).all=true:=by
 have ht:(lF y p N).all=true:=by
  cases hc:(lF y p N).all
  .obtain ⟨d,rfl⟩:∃ d,N=1+d:=⟨N-1,aC⟩
   have:=aaT hc;rw[aaU h]at this;cases this
  .rfl
 unfold AK;rw[CY p<|.inr<|by unfold rH;rw[ht];simpa using ht];rfl
section
variable{y:Iv}{r:Rat}(hy:y.ig)(h:y.jr r)
def agY(hr:iY r*2<=1){p:Nat}(iu:8<=p)(ie:p<=512){N:Nat}(hN:1<=N)(ru:N<=1000)(M:Nat)(hM:N<=M):(AK y p N).jr<|EQ r M:=by
 obtain⟨d,rfl⟩:∃ d,M=N+d:=⟨M-N,aC⟩
 have e1:EQ r (N+d)=EQ r N+iK (λi=>eQ r<|N+1+i) d:=by
  unfold EQ;rw[(aC:N+d+1=N+1+d),Gg]
 have hz:=(kU r).1;have t:=R9 hz (J:=1) (by exact hr) (aC:1<=N+1) d;have p0:=rp hz<|N+1+d;have b1:iY (iK (λi=>eQ r<|N+1+i) d)<=iK (λi=>eQ (iY r)<|N+1+i) d:=by
  have:=xW (λi=>eQ r<|N+1+i) d;rwa[ph d λi _=>E7 r<|N+1+i]at this
 have e3:eQ (iY r) (N+1)*2<=eQ (iY r) N:=R8 hz (J:=1) (by exact hr) (aC:1<=N);rw[e1];refine vJ (Fb hy iu ie N) (EO<|xK hy iu ie N) aC aC (Vn hy h iu ie N aC)<|S6 (xK hy iu ie N) (RW hy iu ie h N aC) ?_;rw[E7];grind
def agZ(hb:y.all=true\/Sub y (qj (-1))){p:Nat}(iu:8<=p)(ie:p<=512){N:Nat}(hN:1<=N)(ru:N<=1000):nd (EQ r)<|AK y p N:=by
 rcases hb with hb|hb
 .exact nd.all<|agX hb hN
 .refine nd.Q3 (k:=N) λM hM=>agY hy h ?_ iu ie hN ru M hM
  obtain⟨b1,b2⟩:=EV.1<|hb.jr h;have e:P2 (-1)=1/2:= aL ;rw[e]at b1 b2;have:=tZ (x:=r) (b:=1/2) aK aK 
  grind
end
def pJ(x:Iv)(p:Nat):Iv:=if(iW x).all then ik else lH (jN (wC (iW x).lo (iW x).lo) p false) (jC (wC (iW x).lo (iW x).lo) p false) (jN (wC (iW x).hi (iW x).hi) p true) (jC (wC (iW x).hi (iW x).hi) p true)
def SS{x:Iv}(xa:x.all=false):0<=(iW x).lo.q:=by
 unfold iW;rw[xa];show 0<=(oN x).q;unfold oN;split
 .rw [s6];exact bV
 .obtain ⟨_,_,m⟩:=CI (my x.lo)<|my x.hi;rcases m with m|m<;>rw[m]
  .exact (Bs x.lo).1
  .exact (Bs x.hi).1
def BO(x:Iv):(iW x).all=x.all:=by unfold iW;cases h:x.all<;>simp[h,ik]
section
variable{x:Iv}(hx:x.ig){p:Nat}(hp:1<=p)(ie:p<=4096)
def RY{r:Rat}(h:x.jr r):(pJ x p).jr<|r*r:=by
 unfold pJ;rw[BO];cases xa:x.all
 .simp only[bC,bh];obtain⟨s,hs,h0,e⟩:∃ s,(iW x).jr s/\0<=s/\r*r=s*s:=by
   by_cases hr:0<=r
   .exact ⟨r,GG hx h<|.inl ⟨rfl,hr⟩,hr,rfl⟩
   .exact ⟨-r,GG hx h<|.inr ⟨rfl,aK⟩,aK,aK⟩
  have hl:=SS xa;have ya:(iW x).all=false:=by rw[BO];exact xa
  obtain⟨s1,s2⟩:=hs.jj ya;rw[e];unfold lH;split
  .exact .inl rfl
  .rename_i he;have A:=yQ (BX (iW x).lo (iW x).lo) hp ie;have B:=vD (BX (iW x).hi (iW x).hi) hp ie;rw[F4]at A B;have a1:=(A.1 aC).2;have b1:=(B.1 aC).2;refine .inr ⟨?_,?_⟩
   .have m1:=b8 s1 hl;have m2:=bY s1 h0;show _<=s*s;exact bw a1<|bw m1<|by rw[fm s];rw[fm (iW x).lo.q s];exact m2
   .have m1:=b8 s2 h0;have m2:=bY s2<|bw h0 s2;exact bw (bw m1 m2) b1
 .exact .inl rfl
def MI:(pJ x p).ig:=by
 cases xa:x.all
 .have h1:=RY hx hp ie hx.zi;unfold pJ at h1 ⊢;rw[BO,xa]at h1 ⊢;simp only[bC,bh]at h1 ⊢;unfold lH at h1 ⊢;split
  .exact kR
  .rename_i he;rw[aX he]at h1;obtain⟨h2,h3⟩:=h1.jj rfl;refine .inr ⟨rfl,wF _ hp ie _,wF _ hp ie _,?_⟩;rw[pg];exact bw h2 h3
 .unfold pJ;rw[BO,xa];exact kR
end
def nd.sqr{f:Nat->Rat}{X:Iv}(hx:X.ig)(h:nd f X){p:Nat}(hp:1<=p)(ie:p<=4096):nd (λN=>f N*f N)<|pJ X p:=by
 cases xa:X.all
 .intro ε hε;obtain⟨B,hB⟩:∃ B,B=iY X.lo.q+iY X.hi.q+1:=⟨_,rfl⟩
  have a0:=kU X.lo.q;have b0:=kU X.hi.q;have hB1:1<=B:= aK ;have OQ:0<2*B:= aK ;obtain⟨δ,hδ⟩:∃ δ,δ=min 1 (ε/(2*B)):=⟨_,rfl⟩
  have hεB:0<ε/(2*B):=by rw[cD];exact ep hε<|dV.2 OQ
  have XF:0<δ:=by rw[hδ];grind
  have hδ1:δ<=1:=by rw[hδ];grind
  have hδ2:δ*(2*B)<=ε:=by
   have h1:δ<=ε/(2*B):=by rw[hδ];grind
   have h2:=b8 h1<|bE OQ;rwa[de aK]at h2
  obtain⟨N0,h0⟩:=h δ XF;refine⟨N0,λN hN=>?_⟩;obtain⟨r,hr,hd⟩:=h0 N hN;refine⟨r*r,RY hx hp ie hr,?_⟩;obtain⟨r1,r2⟩:=hr.jj xa;rw[show f N*f N-r*r=(f N-r)*(f N+r)by grind,tg];have hs:iY (f N+r)<=2*B:=by
   obtain⟨_,c2,c3,_⟩:=kU<|f N-r;exact tZ aK aK 
  have h3:=bY hs (kU<|f N-r).1;have h4:=b8 hd<|bE OQ
  grind
 .exact nd.all<|by unfold pJ;rw[BO,xa];rfl
def acr(r:Rat):∀ ε,0<ε->∃ N0,∀ N,N0<=N->iY (EQ r N-EQ (r*P2 (-1)) N*EQ (r*P2 (-1)) N)<=ε:=by
 intro ε hε;have e:r*P2 (-1)+r*P2 (-1)=r:=by
  have:P2 (-1)=1/2:= aL ;rw[this];grind
 have:=JZ (r*P2 (-1)) (r*P2 (-1)) hε;rwa[e]at this
def akg{r:Rat}{X:Iv}(hx:X.ig)(h:nd (EQ<|r*P2 (-1)) X){p:Nat}(hp:1<=p)(ie:p<=4096):nd (EQ r)<|pJ X p:=(h.sqr hx hp ie).shift<|acr r
def anZ{y:Iv}{n:Int}(h:Sub y<|qj n):(mR y (-1)).all=true\/Sub (mR y (-1)) (qj<|n-1):=by
 obtain⟨ya,k1,k2⟩:=h.r9 rfl;replace k1:(jo<|qJ n).q<=y.lo.q:=k1;replace k2:y.hi.q<=(qJ n).q:=k2;rw[pt,rD]at k1;rw[rD]at k2;unfold mR lH;rw[ya];simp only[bC,bh];split
 .exact .inl rfl
 .rename_i he;have e:P2 (n-1)=P2 n*P2 (-1):=by rw[<-rG];congr 1
  refine .inr<|.inr ⟨rfl,?_,?_⟩
  .show (jo<|qJ<|n-1).q<=(uQ y.lo (-1)).q;rw[pt,rD,CL,e,<-aqR,xB];exact k1
  .show (uQ y.hi (-1)).q<=(qJ<|n-1).q;rw[rD,CL,e,xB];exact k2
def uV(z:Rat)(k:Nat):Rat:=og z (2*k+1)/((2*k+1:Nat):Rat)
def AQ(z:Rat)(N:Nat):Rat:=iK (uV z)<|N+1
def pf(z:Iv)(p:Nat):Nat->Iv
 | 0=>z
 |k+1=>iL (pf z p k) (pJ z p) p
def xx(z:Iv)(p:Nat):Nat->Iv
 | 0=>z
 |k+1=>je (xx z p k) (jh (pf z p<|k+1) (iF ((2*k+3:Nat):Int)) p) p
noncomputable def FH(z:Iv)(p N:Nat):Iv:=mR (je (xx z p N) (rH<|pf z p N) p) 1
def zQ{z:Iv}(hz:z.ig){p:Nat}(iu:8<=p)(ie:p<=512):∀ k,(pf z p k).ig
 | 0=>hz
 |_+1=>lE _ _ 
def D0{z:Iv}(hz:z.ig){p:Nat}(iu:8<=p)(ie:p<=512):∀ k,(xx z p k).ig
 | 0=>hz
 |k+1=>nS (D0 hz iu ie k) (oI _ _) aC aC 
def aka{z:Iv}(hz:z.ig){p:Nat}(iu:8<=p)(ie:p<=512)(N:Nat):(FH z p N).ig:=JB (nS (D0 hz iu ie N) (EO<|zQ hz iu ie N) aC aC) 1
def RP(r:Rat)(k:Nat):og r (2*(k+1)+1)=og r (2*k+1)*(r*r):=by
 show og r (2*k+1)*r*r=_
 grind
def Qn{z:Iv}{r:Rat}(hz:z.ig)(h:z.jr r){p:Nat}(iu:8<=p)(ie:p<=512):∀ k,(pf z p k).jr (og r<|2*k+1)
 | 0=>by
  have e:og r (2*0+1)=r:=by show 1*r=r;grind
  rw[e];exact h
 |k+1=>by
  rw[RP];exact zU (zQ hz iu ie k) (MI hz aC aC) aC aC (Qn hz h iu ie k)<|RY hz aC aC h
def Yh{z:Iv}{r:Rat}(hz:z.ig)(h:z.jr r){p:Nat}(iu:8<=p)(ie:p<=512):∀ k,k<1000000->(xx z p k).jr (AQ r k)
 | 0,_=>by
  have e:AQ r 0=r:=by
   show 0+1*r/((2*0+1:Nat):Rat)=r;have:((2*0+1:Nat):Rat)=1:=rfl;rw[this,cD,show(1:Rat)⁻¹=1 by decide +kernel];grind
  rw[e];exact h
 |k+1,hk=>vJ (D0 hz iu ie k) (oI _ _) aC aC (Yh hz h iu ie k aC)
  (AH (zQ hz iu ie<|k+1) (se<|2*k+3) aC aC (Qn hz h iu ie<|k+1)<|Jd<|2*k+3)
def Ns(r:Rat):∀ n,iY (og r n)=og (iY r) n
 | 0=>by show iY 1=1;decide +kernel
 |n+1=>by simp only[og];rw[tg,Ns r n]
def acH(r:Rat)(k:Nat):iY (uV r k)<=og (iY r) (2*k+1):=by
 unfold uV;have hp:(0:Rat)<((2*k+1:Nat):Rat):=xC<|2*k;have h1:(1:Rat)<=((2*k+1:Nat):Rat):=by
  have:=dC (a:=1) (b:=2*k+1);exact this.2 aC 
 have h0:=Ek (kU r).1<|2*k+1;rw[cD,tg,Ns];have hi:=dV.2 hp;have e:iY (((2*k+1:Nat):Rat)⁻¹)=((2*k+1:Nat):Rat)⁻¹:=by unfold iY;rw[aY<|bE hi]
 rw[e,<-cD];have x0:=Ky h0 hp;have xc:=de (a:=og (iY r)<|2*k+1) (b:=((2*k+1:Nat):Rat)) aK;generalize og (iY r) (2*k+1)/((2*k+1:Nat):Rat)=x at *
 have:=bY h1 x0
 grind
def S7{r:Rat}(hr:iY r*2<=1)(N:Nat):∀ d,iK (λi=>iY<|uV r<|N+1+i) d+og (iY r) (2*(N+d)+1)<=og (iY r) (2*N+1)
 | 0=>by simp only[iK,bT];grind
 |d+1=>by
  have ih:=S7 hr N d;have h1:=acH r<|N+1+d;have e:2*(N+1+d)+1=2*(N+d+1)+1:= aC ;rw[e,RP]at h1;have e2:2*(N+(d+1))+1=2*(N+d+1)+1:= aC ;rw[e2,RP,iK];have h0:=Ek (kU r).1<|2*(N+d)+1;have hz:=(kU r).1;have hs:iY r*iY r*4<=1:=by
   have m:=bY hr<|show 0<=iY r*2 by grind
   grind
  generalize og (iY r) (2*(N+d)+1)=u at *
  generalize iY r*iY r=v at *
  have m2:=bY hs h0
  grind
def aj9{z:Iv}{r:Rat}(hz:z.ig)(h:z.jr r)(hr:iY r*2<=1){p:Nat}(iu:8<=p)(ie:p<=512){N:Nat}(hN:N<=1000):∀ M,N<=M->(FH z p N).jr (AQ r M*2):=by
 intro M hM;obtain⟨d,rfl⟩:∃ d,M=N+d:=⟨M-N,aC⟩
 have e1:AQ r (N+d)=AQ r N+iK (λi=>uV r<|N+1+i) d:=by
  unfold AQ;rw[(aC:N+d+1=N+1+d),Gg]
 have t:=S7 hr N d;have b1:=xW (λi=>uV r<|N+1+i) d;have p0:=Ek (kU r).1<|2*(N+d)+1;have e2:P2 1=2:= aL ;rw[<-e2,e1];refine RS (vJ (D0 hz iu ie N) (EO<|zQ hz iu ie N) aC aC (Yh hz h iu ie N aC)<|S6 (zQ hz iu ie N) (Qn hz h iu ie N) ?_) 1;rw[Ns];grind
def aoq{z:Iv}(hz:z.ig)(h:Sub z<|qj (-1)){p:Nat}(iu:8<=p)(ie:p<=512):Sub (pJ z p)<|qj (-1):=by
 obtain⟨za,k1,k2⟩:=h.r9 rfl;replace k1:(jo<|qJ (-1)).q<=z.lo.q:=k1;replace k2:z.hi.q<=(qJ (-1)).q:=k2;have e:P2 (-1)=1/2:= aL ;rw[pt,rD,e]at k1;rw[rD,e]at k2;have hl:=SS za;have ha:(iW z).ig:=xV hz;have hq:=ha.q;have hh:(iW z).hi.q<=1/2:=by
  unfold iW;rw[za];show(kn z).q<=1/2;obtain⟨_,_,m⟩:=Cy hz.q;have:=hz.q;rcases m with m|m<;>grind
 have G1:=BL (p:=p) aC (n:=-1) aE aE;have A:=yQ (BX (iW z).lo (iW z).lo) (p:=p) aC aC;have B:=vD (BX (iW z).hi (iW z).hi) (p:=p) aC aC;rw[F4]at A B;rw[e]at G1;have jH:0<=(iW z).lo.q*(iW z).lo.q:=bH hl hl;have Pw:(iW z).hi.q*(iW z).hi.q<=1/2:=by
  have h0:0<=(iW z).hi.q:=bw hl hq;have m:=bY hh h0
  grind
 have a1:=A.2 (-(1/2)) G1.neg aK;have b1:=B.2 (1/2) G1 Pw;unfold pJ lH;rw[BO,za];simp only[bC,bh];rw[aX aC];refine .inr ⟨rfl,?_,?_⟩
 .show (jo<|qJ (-1)).q<=_;rw[pt,rD,e];exact a1.2
 .show _<=(qJ (-1)).q;rw[rD,e];exact b1.2
def Yg{z:Iv}(hz:z.ig)(h:Sub z<|qj (-1)){p:Nat}(iu:8<=p)(ie:p<=512):∀ k,k<=900->Sub (pf z p k) (qj (-((k+1:Nat):Int)))
 | 0,_=>h
 |k+1,hk=>by
  have ih:=Yg hz h iu ie k aC;have sq:=aoq hz h iu ie;have vT:=zQ hz iu ie k;obtain⟨ta,_⟩:=ih.r9 rfl;obtain⟨ya,_⟩:=sq.r9 rfl;exact GQ (D7 vT (MI hz aC aC) ta ya (aC:1<=p) aC) aC aC aC (by
   rintro r ⟨a,b,ha,hb,rfl⟩;obtain⟨a1,a2⟩:=EV.1<|ih.jr ha;obtain⟨b1,b2⟩:=EV.1<|sq.jr hb;rw[<-Wu];exact SU a1 a2 b1 b2)
def akb{z:Iv}(hz:z.ig)(h:z.all=true\/Sub z (qj (-1))){p:Nat}(iu:8<=p)(ie:p<=512):∃ N,N<=1000/\(∀ x,x<N->py (pf z p x) p=false)/\py (pf z p N) p=true:=by
 have ex:∃ x,x<900/\py (pf z p x) p=true:=by
  rcases h with h|h
  .exact ⟨0,aC,by show py z p=true;unfold py;rw[h];rfl⟩
  .exact ⟨p,aC,abH (zQ hz iu ie _)<|Yg hz h iu ie p aC⟩
 obtain⟨N,n1,n2,n3⟩:=sD ex;exact⟨N,aC,n3,n2⟩
def acY{a b:Rat}(h:a<=b)(k:Nat):uV a k<=uV b k:=by
 unfold uV;rw[cD,cD];exact b8 (RN aC h)<|bE<|dV.2<|xC<|2*k
def JX{a b:Rat}(h:a<=b)(N:Nat):AQ a N<=AQ b N:=xM _ λk _=>acY h k
def Js{d:Dy}(h:d.m≠0):iY d.q<P2 d.iz:=by
 have hT:d.iz=(iq d.m:Int)+d.e:=by unfold Dy.iz;rw[aX h]
 have h1:(d.m:Rat)<((2^iq d.m:Nat):Rat):=Rat.natCast_lt_natCast.2<|sc d.m;have h2:=eC h1<|nJ d.e;rw[<-As,<-rG]at h2;have h0:0<=(d.m:Rat)*P2 d.e:=bH cR<|bE<|nJ _;have h4:iY d.q=(d.m:Rat)*P2 d.e:=by
  rw[qs];unfold iY;cases d.neg
  .simp only[bC,bh];rw[aY h0]
  .simp only[bA];split<;>grind
 rw[h4,hT];exact h2
def Rl{d:Dy}(h:d.m≠0):P2 (d.iz-1)<=iY d.q:=by
 have hT:d.iz=(iq d.m:Int)+d.e:=by unfold Dy.iz;rw[aX h]
 have hb:0<iq d.m:=xy.2 (by rw[cA];omega);have h1:2^(iq d.m-1)<=d.m:=xy.1 aC;have h2:((2^(iq d.m-1):Nat):Rat)<=(d.m:Rat):=dC.2 h1;have h3:=b8 h2<|bE<|nJ d.e;rw[<-As,<-rG,show((iq d.m-1:Nat):Int)+d.e=d.iz-1 by rw[hT];omega]at h3;have h4:iY d.q=(d.m:Rat)*P2 d.e:=by
  have h0:0<=(d.m:Rat)*P2 d.e:=bH cR<|bE<|nJ _;rw[qs];unfold iY;cases d.neg
  .simp only[bC,bh];rw[aY h0]
  .simp only[bA];split<;>grind
 rw[h4];exact h3
def F3{d:Dy}(h:0<d.q):d.m≠0:=λe=>by
 have:d.q=0:=by rw[qs,e];simp
 grind
def J7{r:Rat}(h:0<r):iY r=r:=by unfold iY;rw[aY<|bE h]
def xA(d:Dy):Rat:=d.q*P2 (-d.iz)
def BJ(d:Dy):Rat:=(xA d-1)/(xA d+1)
def SJ(k:Int):P2 k*P2 (-k)=1:=by rw[<-rG,(aC:k + -k=0),GC]
def YO{d:Dy}(h:0<d.q):1/2<=xA d/\xA d<1:=by
 have h1:=Rl<|F3 h;have h2:=Js<|F3 h;rw[J7 h]at h1 h2;have hp:=nJ (-d.iz);have e1:=SJ d.iz;have e2:P2 (d.iz-1)*P2 (-d.iz)=1/2:=by
  rw[<-rG,(aC:d.iz-1 + -d.iz = -1)];decide +kernel
 have m1:=b8 h1<|bE hp;have m2:=eC h2 hp;unfold xA;constructor<;>grind
def OG{a b:Rat}(ha:0<=a)(h:a<=b):(a-1)/(a+1)<=(b-1)/(b+1):=by
 have h1:0<a+1:= aK ;have h2:0<b+1:= aK ;have e1:=de (a:=a-1) (b:=a+1) aK;have e2:=de (a:=b-1) (b:=b+1) aK;generalize (a-1)/(a+1)=x at *
 generalize (b-1)/(b+1)=y at *
 apply dt.1;intro iE;have m1:=eC iE h1;have hy:y<1:=by
  apply Rat.not_le.1;intro hle;have:=b8 hle<|bE h2
  grind
 have m2:=bY h<|show 0<=1-y by grind
 grind
def Sz{d:Dy}(h:0<d.q):-(1/3)<=BJ d/\BJ d<=0:=by
 obtain⟨h1,h2⟩:=YO h;have a:=OG (show(0:Rat)<=1/2 by decide +kernel) h1;have b:=OG (show 0<=xA d by grind)<|bE h2;have e1:((1:Rat)/2-1)/(1/2+1) = -(1/3):= aL ;have e2:((1:Rat)-1)/(1+1)=0:= aL ;rw[e1]at a;rw[e2]at b;exact⟨a,b⟩
def Na(z:Rat)(N:Nat):AQ (-z) N = -AQ z N:=by
 have:∀ n,iK (uV (-z)) n = -iK (uV z) n:=by
  intro n
  induction n with
  |zero=>simp[iK]
  |succ n ih=>
   rw[iK,iK,ih];have:uV (-z) n = -uV z n:=by
    unfold uV;rw[Ej,aX aC];simp only[cD];grind
   rw[this];grind
 exact this _
def SA(N:Nat):AQ 0 N=0:=by
 have:=Na 0 N;rw[show -(0:Rat)=0 by decide +kernel]at this
 grind
def acq(N:Nat):0<=AQ (1/3) N:=by
 have:=JX (show(0:Rat)<=1/3 by decide +kernel) N;rwa[SA]at this
def LQ(d:Dy)(N:Nat):Rat:=AQ (BJ d) N*2+(d.iz:Rat)*(AQ (1/3) N*2)
section
variable{a b:Dy}(ha:0<a.q)(h:a.q<=b.q)
def apc:a.iz<=b.iz:=by
 have hb:0<b.q:= aK ;have h1:=Rl<|F3 ha;have h2:=Js<|F3 hb;rw[J7 ha]at h1;rw[J7 hb]at h2;apply bQ;intro iE;have:=GA (aC:b.iz<=a.iz-1)
 grind
def acy(N:Nat):LQ a N<=LQ b N:=by
 have hb:0<b.q:= aK ;have ht:=apc ha h;obtain⟨a1,a2⟩:=Sz ha;obtain⟨b1,b2⟩:=Sz hb;have c0:=acq N;unfold LQ;rcases Int.lt_or_eq_of_le ht with iE|heq
 .have k1:=JX a2 N;rw[SA]at k1;have k2:=JX b1 N;rw[Na]at k2;have k3:(a.iz:Rat)+1<=(b.iz:Rat):=by
   have:=gJ (a:=a.iz+1) (b:=b.iz);have:=this.2 aC;rwa[Rat.intCast_add]at this
  have k4:=b8 k3<|show 0<=AQ (1/3) N*2 by grind
  grind
 .have hm:xA a<=xA b:=by
   unfold xA;rw[heq];exact b8 h<|bE<|nJ _
  have hz:BJ a<=BJ b:=OG (by have:=(YO ha).1;grind) hm;have:=JX hz N;rw[heq]
  grind
end
def acz(N:Nat):LQ ⟨false,1,0⟩ N=0:=by
 have e1:BJ ⟨false,1,0⟩ = -(1/3):= aL ;have e2:((⟨false,1,0⟩:Dy).iz:Rat)=1:= aL ;unfold LQ;rw[e1,e2,Na];grind
noncomputable def vq(d:Dy)(p:Nat):Iv:=mR (lZ (iJ d) p) (-d.iz)
noncomputable def FK(d:Dy)(p:Nat):Iv:=jh (je (vq d p) (iF (-1)) p) (je (vq d p) (iF 1) p) p
section
variable{d:Dy}(hd:d.ig)
def abK(h:d.m≠0):-16384<=d.iz-1/\d.iz<=16384:=by
 have hT:d.iz=(iq d.m:Int)+d.e:=by unfold Dy.iz;rw[aX h]
 have hb:0<iq d.m:=xy.2 (by rw[cA];omega);have h1:=hd.range;unfold nj at h1;have h2:=hd.exp;constructor
 .omega
 .rw [hT]
  first|omega|(rcases h1 with h1|h1<;>first|omega|exact absurd h1 h)
def ano(h:0<d.q){p:Nat}(iu:8<=p)(ie:p<=512)(ha:(lZ (iJ d) p).all=false):P2 (d.iz-1)<=(lZ (iJ d) p).lo.q/\(lZ (iJ d) p).hi.q<=P2 d.iz:=by
 have hm:=F3 h;obtain⟨t1,t2⟩:=abK hd hm;have q1:=Rl hm;have q2:=Js hm;rw[J7 h]at q1 q2;have A:=yQ hd.canon (p:=p) aC aC;have B:=vD hd.canon (p:=p) aC aC;have G1:G p<|P2<|d.iz-1:=.inl ⟨1,d.iz-1,by rw[wP];omega,t1,by rw[wP];omega,aH⟩;have he:¬(jC d p false≠0\/jC d p true≠0):=by
  intro hc;unfold lZ lH at ha;rw[show(iJ d).all=false from rfl]at ha;simp only[bC,bh]at ha;rw[aY<|show jC (iJ d).lo p false≠0\/jC (iJ d).hi p true≠0 from hc]at ha;cases ha
 have e1:(lZ (iJ d) p).lo=jN d p false/\(lZ (iJ d) p).hi=jN d p true:=by
  unfold lZ lH;rw[show(iJ d).all=false from rfl];simp only[bC,bh];rw[aX<|show ¬(jC (iJ d).lo p false≠0\/jC (iJ d).hi p true≠0)from he];exact⟨rfl,rfl⟩
 rw[e1.1,e1.2];refine⟨(A.2 _ G1 q1).2,?_⟩;by_cases ht:d.iz<=16383
 .have G2:G p<|P2 d.iz:=.inl ⟨1,d.iz,by rw[wP];omega,aC,by rw[wP];omega,aH⟩;exact(B.2 _ G2<|bE q2).2
 .obtain ⟨g,_⟩:=B.1 aC ;have W5:0<=(jN d p true).q:=bw (bE h) (B.1 aC).2;obtain⟨m,e,hb,_,hr,hv⟩:=g.pos W5;rw[hv];have h1:(m:Rat)<=((2^iq m:Nat):Rat):=dC.2<|dq<|sc m;have h2:=b8 h1<|bE<|nJ e;rw[<-As,<-rG]at h2;exact bw h2<|GA aC
section
variable{p:Nat}(iu:8<=p)(ie:p<=512)
def akv:(vq d p).jr<|xA d:=RS (Jx (oP hd) aC aC<|Bq d) _
def akx:(vq d p).ig:=JB (F9<|oP hd) _
end
def akw(h:0<d.q){p:Nat}(iu:8<=p)(ie:p<=512)(ha:(vq d p).all=false):1/2<=(vq d p).lo.q/\(vq d p).hi.q<=1:=by
 unfold vq mR at ha ⊢;cases ra:(lZ (iJ d) p).all
 .rw [ra]at ha;obtain⟨h1,h2⟩:=ano hd h iu ie ra;simp only[bC,bh]at ha ⊢;unfold lH at ha ⊢;split
  .rename_i he;rw[aY he]at ha;cases ha
  .rename_i he;have e1:=SJ d.iz;have e2:P2 (d.iz-1)*P2 (-d.iz)=1/2:=by
    rw[<-rG,(aC:d.iz-1 + -d.iz = -1)];decide +kernel
   refine⟨?_,?_⟩
   .show 1/2<=(uQ _ _).q;rw[CL,<-e2,xB];exact h1
   .show (uQ _ _).q<=1;rw[CL,<-e1,xB];exact h2
 .rw [ra]at ha;cases ha
end
def aiA{a b:Rat}(h1:-(1/2)<=a)(h2:a<=1/2)(hb:1<=b):-(1/2)<=a/b/\a/b<=1/2:=by
 have e:=de (a:=a) (b:=b) aK;generalize a/b=x at *
 constructor
 .apply dt.1;intro iE;have:=eC iE (show 0<b by grind)
  grind
 .apply dt.1;intro iE;have:=eC iE (show 0<b by grind)
  grind
def aky{d:Dy}(hd:d.ig)(h:0<d.q){p:Nat}(iu:8<=p)(ie:p<=512):(FK d p).ig/\(FK d p).jr (BJ d)/\((FK d p).all=true\/Sub (FK d p) (qj (-1))):=by
 have vM:=akx hd iu ie;have hM:=akv hd iu ie;have vn:(iF (-1)).ig:=xF aE;have v1:(iF 1).ig:=xF aE;have vA:(je (vq d p) (iF (-1)) p).ig:=nS vM vn aC aC;have vB:(je (vq d p) (iF 1) p).ig:=nS vM v1 aC aC;have e1:((-1:Int):Rat) = -1:= aL ;have e2:((1:Int):Rat)=1:= aL ;have hA:=vJ vM vn (p:=p) aC aC hM<|vy (-1);have hB:=vJ vM v1 (p:=p) aC aC hM<|vy 1;rw[e1,show xA d + -1=xA d-1 by grind]at hA;rw[e2]at hB;refine⟨oI _ _,AH vA vB aC aC hA hB,?_⟩;cases ma:(vq d p).all
 .right;obtain⟨m1,m2⟩:=akw hd h iu ie ma;have one:∀ (n:Int) r,(iF n).jr r->r=(n:Rat):=λn r hr=>by
   obtain⟨r1,r2⟩:=hr.jj rfl;replace r1:(iU n).q<=r:=r1;replace r2:r<=(iU n).q:=r2;rw[yM]at r1 r2;exact fY r2 r1
  have g1:G p<|1/2:=by have:=BL (p:=p) aC (n:=-1) aE aE;rwa[show P2 (-1)=1/2 by decide +kernel]at this
  have g2:G p 1:=by have:=BL (p:=p) aC (n:=0) aE aE;rwa[GC]at this
  have g4:G p 2:=by have:=BL (p:=p) aC (n:=1) aE aE;rwa[show P2 1=2 by decide +kernel]at this
  obtain⟨aa,a1,a2⟩:=(CX vM vn ma rfl (aC:1<=p) aC).vo (-(1/2)) (1/2) g1.neg g1 (by
   rintro r ⟨a,b,ha,hb,rfl⟩;obtain⟨b1,b2⟩:=ha.jj ma;rw[one _ b hb,e1];constructor<;>grind)
  obtain⟨ba,b1,b2⟩:=(CX vM v1 ma rfl (aC:1<=p) aC).vo 1 2 g2 g4 (by
   rintro r ⟨a,b,ha,hb,rfl⟩;obtain⟨b1,b2⟩:=ha.jj ma;rw[one _ b hb,e2];constructor<;>grind)
  refine GQ (B2 vA vB aa (JF ba<|.inl aK) (aC:1<=p) aC) aC aE aE ?_;rintro r ⟨a,b,ha,hb,rfl⟩;obtain⟨x1,x2⟩:=ha.jj aa;obtain⟨y1,y2⟩:=hb.jj ba;rw[show P2 (-1)=1/2 by decide +kernel];exact aiA aK aK aK 
 .left;show(jh (je (vq d p) (iF (-1)) p) (je (vq d p) (iF 1) p) p).all=true;rw[CY p<|.inl ma,yg p<|.inl rfl];rfl
def agT{d:Dy}(hd:d.ig)(h:d.m≠0){p:Nat}(iu:8<=p)(ie:p<=512){n:Int}(h1:d.iz<=n)(h2:-1000<=n)(h3:n<=1000):Sub (lZ (iJ d) p)<|qj n:=by
 refine ann (oP hd) aC aC h2 h3<|.inr ⟨rfl,?_,?_⟩
 .show (jo<|qJ n).q<=d.q;rw[pt,rD];have:=Js h;have hl:=GA h1;obtain⟨_,a2,a3,_⟩:=kU d.q
  grind
 .show d.q<=(qJ n).q;rw[rD];have:=Js h;have hl:=GA h1;obtain⟨_,a2,a3,_⟩:=kU d.q
  grind
def ab4(y:Iv)(p n:Nat)(x:Nat):PS:=⟨32,true,[(7,.e<|iP ((x+1:Nat):Int)),(6,.box 6 0),(5,.box 5 0),(4,.box 4 0),(3,.box 3 0),(2,.box 2 0)],[(6,.cells 41<|jt<|vP y p x),(5,.cells 41<|jt<|lF y p x),(4,.cells 41 au),(3,.cells 41<|jt y),(2,.cells 188 [iP p])]⟩
def akh{f:Nat->Rat}{X Y:Iv}(h:nd f X)(k:∀ r,X.jr r->Y.jr r):nd f Y:=λε hε=>by
 obtain⟨N0,h0⟩:=h ε hε;exact⟨N0,λN hN=>by obtain⟨r,h1,h2⟩:=h0 N hN;exact⟨r,k r h1,h2⟩⟩
def ivW{x:Iv}(hx:x.ig)(ha:x.all=true):x=ik:=by
 obtain⟨h1,h2⟩:=X2 hx ha;obtain⟨a,b,c⟩:=x;simp only at h1 h2 ha;rw[h1,h2,ha];rfl
section
variable(x:Iv)(hx:x.ig)
def adk(xa:x.all=true)(k:Int)(k1:-32768<=k)(k2:k<=32768):ic 244 [im x,iP k]<|im<|mR x k:=
 iy (ae [.o 10<|.e<|lW x,.c<|qo x aD,ai 11 (!x.all)<|by rw[xa];rfl,.c nu]<|rQ (im ik) (im<|mR x k)<|by rw[show(mR x k)=ik by unfold mR;rw[aY xa]])
def adl(xa:x.all=false)(k:Int)(k1:-32768<=k)(k2:k<=32768):ic 244 [im x,iP k]<|im<|mR x k:=by
 obtain⟨v1,v2⟩:=hx.jj;exact iy<|ae [.o 10<|.e<|lW x,.c<|qo x aD,ah 11 (!x.all)<|by rw[xa];rfl,.c<|Km x.lo k aD aC aC,.c<|Km x.hi k aD aC aC,.c<|DY (kQ<|canon x.lo.neg x.lo.m<|x.lo.e+k) (kQ<|canon x.hi.neg x.hi.m<|x.hi.e+k) (mN<|canon x.lo.neg x.lo.m<|x.lo.e+k)<|mN<|canon x.hi.neg x.hi.m<|x.hi.e+k]<|rQ (im<|lH (kQ<|canon x.lo.neg x.lo.m<|x.lo.e+k) (mN<|canon x.lo.neg x.lo.m<|x.lo.e+k) (kQ<|canon x.hi.neg x.hi.m<|x.hi.e+k)<|mN<|canon x.hi.neg x.hi.m<|x.hi.e+k) (im<|mR x k)<|by unfold mR;rw[aX<|by rw[xa];decide];simp only[anU,anV]
def Ki(k:Int)(k1:-32768<=k:=by omega)(k2:k<=32768:=by omega):ic 244 [im x,iP k]<|im<|mR x k:=by
 cases xa:x.all with
 |true=>exact adk x hx xa k k1 k2
 |false=>exact adl x hx xa k k1 k2
def adi(xa:x.all=true)(p:Nat)(iu:8<=p)(ie:p<=512):ic 196 [im x,iP p]<|im<|lZ x p:=
 iy (ae [.o 10<|.e<|lW x,.c<|qo x aD,ai 11 (!x.all)<|by rw[xa];rfl,.c nu]<|rQ (im ik) (im<|lZ x p)<|by rw[show(lZ x p)=ik by unfold lZ;rw[aY xa]])
def adj(xa:x.all=false)(p:Nat)(iu:8<=p)(ie:p<=512):ic 196 [im x,iP p]<|im<|lZ x p:=by
 obtain⟨v1,v2⟩:=hx.jj;exact iy<|ae [.o 10<|.e<|lW x,.c<|qo x aD,ah 11 (!x.all)<|by rw[xa];rfl,.c<|xw (p:Int),ah 15 (kT (p:Int))<|pH.2 ⟨aC,aC⟩,.c<|Kj x.lo p aD,.c<|Kk x.hi p aD,.c<|DY (jN x.lo p false) (jN x.hi p true) (jC x.lo p false)<|jC x.hi p true]<|rQ (im<|lH (jN x.lo p false) (jC x.lo p false) (jN x.hi p true)<|jC x.hi p true) (im<|lZ x p)<|by unfold lZ;rw[aX<|by rw[xa];decide]
def GO(p:Nat)(iu:8<=p:=by omega)(ie:p<=512:=by omega):ic 196 [im x,iP p]<|im<|lZ x p:=by
 cases xa:x.all with
 |true=>exact adi x hx xa p iu ie
 |false=>exact adj x hx xa p iu ie
def adm(xa:x.all=true)(p:Nat)(iu:8<=p)(ie:p<=512):ic 243 [im x,iP p]<|im<|pJ x p:=by
 have ha:(iW x).all=true:=by rw[BO,xa]
 exact iy<|ae [.c<|DW x aD,ah 13 ((iW x).all) ha,.c nu]<|rQ (im ik) (im<|pJ x p)<|by unfold pJ;rw[aY ha]
def adn(xa:x.all=false)(p:Nat)(iu:8<=p)(ie:p<=512):ic 243 [im x,iP p]<|im<|pJ x p:=by
 have ha:(iW x).all=false:=by rw[BO,xa]
 have hv:=xV hx;obtain⟨v1,v2⟩:=hv.jj;exact iy<|ae [.c<|DW x aD,ai 13 ((iW x).all) ha,.c<|xw (p:Int),ah 16 (kT (p:Int))<|pH.2 ⟨aC,aC⟩,.c<|Mj ((iW x).lo) ((iW x).lo) p aD aD aC aC,.c<|Mk ((iW x).hi) ((iW x).hi) p aD aD aC aC,.c<|DY (jN (mW ((iW x).lo)<|(iW x).lo) p false) (jN (mW ((iW x).hi)<|(iW x).hi) p true) (jC (mW ((iW x).lo)<|(iW x).lo) p false)<|jC (mW ((iW x).hi)<|(iW x).hi) p true]<|rQ (im<|lH (jN (mW ((iW x).lo)<|(iW x).lo) p false) (jC (mW ((iW x).lo)<|(iW x).lo) p false) (jN (mW ((iW x).hi)<|(iW x).hi) p true)<|jC (mW ((iW x).hi)<|(iW x).hi) p true) (im<|pJ x p)<|by unfold pJ;rw[aX<|by rw[ha];decide];rfl
def Tu(p:Nat)(iu:8<=p)(ie:p<=512):ic 243 [im x,iP (p:Int)]<|im<|pJ x p:=by
 cases xa:x.all with
 |true=>exact adm x hx xa p iu ie
 |false=>exact adn x hx xa p iu ie
def Tv(xa:x.all=true):ic 160 [im x]<|.ix [iw iR,bP false]:=
 iy (af [.o 5<|.e<|lW x,.c<|qo x aD,ai 6 (!x.all)<|by rw[xa];rfl,.o 8 (.e tc:aj (.agg ar)<|iw iR)])
end
def yW(n:Int)(h:n.natAbs<4294967296:=by omega):ic 194 [iP n]<|im<|iF n:=by
 have hv:=sC h;exact iy<|af [.c<|qY n,.c<|rO (iU n) aD]
section
variable(p:Nat)(x y:Iv)(hx:x.ig)(hy:y.ig)
def CT(iu:8<=p:=by omega)(ie:p<=512:=by omega):ic 289 [.agg [iP p],im x,im y]<|im<|je x y p:=
 iy (af [.c<|uH x y p aD aD])
def MX(iu:8<=p:=by omega)(ie:p<=512:=by omega):ic 288 [.agg [iP p],im x,im y]<|im<|iL x y p:=
 iy (af [.c<|qp x y p aD aD])
def JS(iu:8<=p:=by omega)(ie:p<=512:=by omega):ic 287 [.agg [iP p],im x,im y]<|im<|jh x y p:=
 iy (af [.c<|wm x y p aD aD])
end
def ap2(p:Nat)(x:Iv)(hx:x.ig)(xa:x.all=true)(iu:8<=p)(ie:p<=512):ic 290 [.agg [iP p],im x]<|bP<|py x p:=
 iy (ae [.c<|Tv x hx xa]<|rQ (bP true) (bP<|py x p)<|by unfold py;rw[xa];rfl)
def abG{x:Iv}(xa:x.all=false)(p:Nat):py x p=(((kn x).jc==0)||decide ((kn x).iz<=0-(p:Int))):=by
 unfold py;rw[xa,fi];congr 1
 .unfold Dy.jc;by_cases h:(kn x).m=0
  .simp [h]
  .simp only[h,bh,decide_false];split<;>rfl
 .rw [show(0:Int)-p = -(p:Int)by omega]
section
variable(p:Nat)(x:Iv)(hx:x.ig)
def ap3(xa:x.all=false)(iu:8<=p)(ie:p<=512):ic 290 [.agg [iP p],im x]<|bP<|py x p:=by
 have hm:=uL hx.jj.1 hx.jj.2;exact iy (ae [.c<|wo x hx xa,.c<|nL (kn x) aD]<|.w ((Dy.jc<|kn x)=0)
  (λk1=>ae [tB 17<|aT k1]<|rQ (bP true) (bP<|py x p)<|by rw[abG xa];simp[k1])
  (λk1=>ae [tB 17<|aS k1,.c<|oo (kn x) aD,iD<|0-(p:Int)]<|rQ (bP<|decide ((Dy.iz<|kn x)<=(0-(p:Int)))) (bP<|py x p)<|by rw[abG xa];simp[k1]))
def MY(iu:8<=p:=by omega)(ie:p<=512:=by omega):ic 290 [.agg [iP p],im x]<|bP<|py x p:=by
 cases xa:x.all with
 |true=>exact ap2 p x hx xa iu ie
 |false=>exact ap3 p x hx xa iu ie
end
section
variable(x:Iv)(hx:x.ig)
def aqc(xa:x.all=true):ic 291 [im x]<|im<|rH x:=
 iy (ae [.c<|Tv x hx xa,.c nu]<|rQ (im ik) (im<|rH x)<|by rw[show rH x=ik by unfold rH;rw[aY xa];exact ivW hx xa])
def aqd(xa:x.all=false):ic 291 [im x]<|im<|rH x:=by
 have hm:=uL hx.jj.1 hx.jj.2;exact iy<|ae [.c<|wo x hx xa,.c<|wU (kn x) aD]<|rQ (im<|Iv.mk (jo<|kn x) (kn x) false) (im<|rH x)<|by unfold rH;rw[aX<|by rw[xa];decide];try rfl
def acg:ic 291 [im x]<|im<|rH x:=by
 cases xa:x.all with
 |true=>exact aqc x hx xa
 |false=>exact aqd x hx xa
end
def apX(y:Iv)(p n:Nat)(hy:y.ig)(iu:8<=p)(ie:p<=512)(h2:n<=1000)(jH:∀ x,x<n->py (lF y p<|x+1) p=false)(hN:py (lF y p<|n+1) p=true):ic 242 [.agg [iP p],im y]<|im<|AK y p<|n+1:=by
 have t0:=xK hy iu ie n;have s0:=Fb hy iu ie n;have t1:(iL (lF y p n) y p).ig:=lE _ _;have n1:(iF ((n+1:Nat):Int)).ig:=tN _;have t2:(jh (iL (lF y p n) y p) (iF ((n+1:Nat):Int)) p).ig:=oI _ _;have a1:(je (vP y p n) (jh (iL (lF y p n) y p) (iF ((n+1:Nat):Int)) p) p).ig:=nS s0 t2 aC aC;have r1:=EO t2;exact iy (ae [.c<|yW 1,.c<|yW 1,.s (Sp.jX (ab4 y p n) 0 n aC (λx hx mH=>by
    have t0:=xK hy iu ie x;have s0:=Fb hy iu ie x;have t1:(iL (lF y p x) y p).ig:=lE _ _;have n1:(iF ((x+1:Nat):Int)).ig:=tN _;have t2:(jh (iL (lF y p x) y p) (iF ((x+1:Nat):Int)) p).ig:=oI _ _;exact iS (ae [.c<|MX p (lF y p x) y aD aD,.c<|yW ((x+1:Nat):Int),.c<|JS p (iL (lF y p x) y p) (iF ((x+1:Nat):Int)) aD aD,.c<|CT p (vP y p x) (jh (iL (lF y p x) y p) (iF ((x+1:Nat):Int)) p) aD aD,.c<|MY p (jh (iL (lF y p x) y p) (iF ((x+1:Nat):Int)) p) aD,ai 26 (py (jh (iL (lF y p x) y p) (iF ((x+1:Nat):Int)) p) p)<|jH x aC,
     iD (((x+1:Nat):Int)+1)]<|.e<|af [.b 6<|.refl<|.cells 41<|jt<|vP y p<|x+1,.b 5<|.refl<|.cells 41<|jt<|lF y p<|x+1]) aF)
  (λhx=>by
    exact iS (af [.c<|MX p (lF y p n) y aD aD,.c<|yW ((n+1:Nat):Int),.c<|JS p (iL (lF y p n) y p) (iF ((n+1:Nat):Int)) aD aD,.c<|CT p (vP y p n) (jh (iL (lF y p n) y p) (iF ((n+1:Nat):Int)) p) aD aD,.c<|MY p (jh (iL (lF y p n) y p) (iF ((n+1:Nat):Int)) p) aD,ah 26 (py (jh (iL (lF y p n) y p) (iF ((n+1:Nat):Int)) p) p) hN]) aF) aI:jW 4 f242 (ab4 y p n 0) (.exit 0) ⟨32,true,[(6,.box 6 0),(5,.box 5 0),(4,.box 4 0),(2,.box 2 0)],[(6,.cells 41<|jt<|je (vP y p n) (jh (iL (lF y p n) y p) (iF ((n+1:Nat):Int)) p) p),(5,.cells 41<|jt<|jh (iL (lF y p n) y p) (iF ((n+1:Nat):Int)) p),(4,.cells 41 au),(2,.cells 188 [iP p])]⟩)<|af [.o 7<|aq 1 ((0+1:Nat):Int) aO,.b 6<|.refl<|.cells 41<|jt<|vP y p 0,.b 5<|.refl<|.cells 41<|jt<|lF y p 0],.c<|acg (jh (iL (lF y p n) y p) (iF ((n+1:Nat):Int)) p) aD,.c<|CT p (je (vP y p n) (jh (iL (lF y p n) y p) (iF ((n+1:Nat):Int)) p) p) (rH<|jh (iL (lF y p n) y p) (iF ((n+1:Nat):Int)) p) aD aD]<|rR (im<|AK y p<|n+1) (.jP rfl:E.le (im<|je (je (vP y p n) (jh (iL (lF y p n) y p) (iF ((n+1:Nat):Int)) p) p) (rH<|jh (iL (lF y p n) y p) (iF ((n+1:Nat):Int)) p) p)<|im<|AK y p<|n+1))
def apY{y:Iv}(hy:y.ig)(hb:y.all=true\/Sub y (qj (-1))){p:Nat}(iu:8<=p)(ie:p<=512):∃ Z,Z.ig/\(∀ r,y.jr r->nd (EQ r) Z)/\ic 242 [.agg [iP (p:Int)],im y] (im Z):=by
 obtain⟨N,h1,h2,h3,h4⟩:=ag1 hy hb iu ie;obtain⟨n,rfl⟩:∃ n,N=n+1:=⟨N-1,aC⟩
 exact⟨AK y p<|n+1,ag0 hy iu ie _,λr hr=>agZ hy hr hb iu ie h1 h2,apX y p n hy iu ie aC (λx hx=>h3 (x+1) aC aC) h4⟩
def ap0(y Z:Iv)(p:Nat)(aiy:ic 242 [.agg [iP (p:Int)],im y]<|im Z):ic 197 [.agg [iP p],im y,iP 0]<|im Z:=
 iy (af [ah 8 ((0:Int)==0) aE,ag [.agg [iP p],im y] aiy])
def apZ(y Z:Iv)(p n:Nat)(hy:y.ig)(hZ:Z.ig)(hn:n<=1000)(hH:ic 197 [.agg [iP (p:Int)],im<|mR y (-1),iP (n:Int)]<|im Z)(iu:8<=p)(ie:p<=512):ic 197 [.agg [iP p],im y,iP ((n+1:Nat):Int)]<|im<|pJ Z p:=
 iy (af [ai 8 (((n+1:Nat):Int)==0)<|nG aC,.c<|Ki y aD (-1),iD<|((n+1:Nat):Int)-1,.c (by rw[show(((n+1:Nat):Int)-1)=(n:Int)by omega];exact hH:ic 197 [.agg [iP p],im<|mR y (-1),iP<|((n+1:Nat):Int)-1]<|im Z),.c<|Tu Z aD p aC aC])
def ab5{p:Nat}(iu:8<=p)(ie:p<=512):∀ (n:Nat) {y:Iv},n<=500->y.ig->(y.all=true\/Sub y (qj<|(n:Int)-1))->∃ Z,Z.ig/\(∀ r,y.jr r->nd (EQ r) Z)/\ic 197 [.agg [iP (p:Int)],im y,iP (n:Int)] (im Z)
 | 0,y,_,hy,hb=>by
  obtain⟨Z,h1,h2,h3⟩:=apY hy (by simpa using hb) iu ie;exact⟨Z,h1,h2,ap0 y Z p h3⟩
 |n+1,y,hn,hy,hb=>by
  have hs:=JB hy (-1);have oY:(mR y (-1)).all=true\/Sub (mR y (-1)) (qj<|(n:Int)-1):=by
   rcases hb with hb|hb
   .left;unfold mR;rw[aY hb];rfl
   .have:=anZ hb;rwa[show(((n+1:Nat):Int)-1-1)=(n:Int)-1 by omega]at this
  obtain⟨Z,h1,h2,h3⟩:=ab5 iu ie n aC hs oY;exact⟨pJ Z p,MI h1 aC aC,λr hr=>akg h1 (h2 _<|RS hr (-1)) aC aC,apZ y Z p n hy h1 aC h3 iu ie⟩
def Sw(p m:Nat)(h1:p<=512)(h2:m<=1000):ic 195 [iP p,iP m]<|.agg [iP ((min (p+m) 512:Nat):Int)]:=
 iy (af [iD<|(p:Int)+m,.o 8<|aq (if 512<((p+m:Nat):Int)then 512 else((p+m:Nat):Int)) ((min (p+m) 512:Nat):Int) aM])
def aqp(d:Dy)(p:Nat)(hd:d.ig)(h0:d.jc=0)(iu:8<=p)(ie:p<=512):ic 117 [iw d,iP p]<|im<|iF 1:=
 iy (af [.c<|nL d aD,ah 9 ((Dy.jc d)==0)<|by rw[h0];rfl,.c<|yW 1])
def JM{d:Dy}(hd:d.ig):-100000<=d.iz:=by
 unfold Dy.iz;have:=hd.exp;split<;>omega
def ape{d:Dy}(h:d.m=0):d.iz=0:=by unfold Dy.iz;rw[aY h]
def aqo(d:Dy)(p:Nat)(Z:Iv)(hd:d.ig)(h0:d.jc≠0)(ht:d.iz<=100)(hZ:Z.ig)(hH:ic 197 [.agg [iP (((min (p+(((d.iz+1).toNat)+24)) 512):Nat):Int)],im<|lZ (iJ d)<|min (p+(((d.iz+1).toNat)+24)) 512,iP ((((d.iz+1).toNat):Nat):Int)]<|im Z)(iu:8<=p)(ie:p<=512):ic 117 [iw d,iP p]<|im<|lZ Z p:=by
 have tI:-100000<=d.iz:=JM hd;have vp:=oP hd;exact iy<|af [.c<|nL d aD,ai 9 ((Dy.jc d)==0)<|by simpa using h0,.c<|oo d aD,iD<|(Dy.iz d)+1,.o 14<|aq (if 0>((Dy.iz d)+1)then 0 else((Dy.iz d)+1)) ((d.iz+1).toNat:Int) aM,iD<|((d.iz+1).toNat:Int)+24,.c<|Sw p (((d.iz+1).toNat)+24) aC aC,.c<|rO d aD,.c<|GO (iJ d) aD<|min (p+(((d.iz+1).toNat)+24)) 512,ag [.agg [iP ((min (p+(((d.iz+1).toNat)+24)) 512:Nat):Int)],im<|lZ (iJ d)<|min (p+(((d.iz+1).toNat)+24)) 512,iP ((d.iz+1).toNat:Int)] hH,.c<|GO Z aD p]
def aof{d:Dy}(h:d.jc≠0):d.m≠0:=λq=>h<|by unfold Dy.jc;rw[aY q]
def M6{d:Dy}(hd:d.ig)(ht:d.iz<=100){p:Nat}(iu:8<=p)(ie:p<=512):∃ Z,Z.ig/\nd (EQ d.q) Z/\ic 117 [iw d,iP (p:Int)] (im Z):=by
 by_cases h0:d.jc=0
 .refine ⟨iF 1,xF aE,?_,aqp d p hd h0 iu ie⟩;have hq:d.q=0:=by
   have h1:=rX d;rw[h0]at h1;have a:=h1.1.2;have b:=h1.2.2;have:¬0<d.q:=λq=>absurd (a q) aE 
   have:¬d.q<0:=λq=>absurd (b q) aE 
   grind
  rw[hq];exact nd.Q3 (k:=0) λN _=>by rw[acv];exact vy 1
 .have hm:=aof h0;obtain⟨P,hP⟩:∃ P,P=min (p+((d.iz+1).toNat+24)) 512:=⟨_,rfl⟩
  have hb:=agT hd hm (p:=P) aC aC (n:=((d.iz+1).toNat:Int)-1) aC aC aC;obtain⟨Z,h1,h2,h3⟩:=ab5 (p:=P) aC aC ((d.iz+1).toNat) aC (F9<|oP hd)<|.inr hb;subst hP;refine⟨lZ Z p,F9 h1,?_,aqo d p Z hd h0 ht h1 h3 iu ie⟩;have hl:=h2 _<|Jx (oP hd) aC aC<|Bq d;exact akh hl λr hr=>Jx h1 aC aC hr
def ach(a b:Iv)(ha:a.ig)(hb:b.ig):ic 116 [im a,im b]<|im<|tp a b:=
 iy (.w (a.all=true)
  (λk1=>ae [tB 6 k1,.c nu]<|rQ (im ik) (im<|tp a b)<|by unfold tp;simp[k1])
  (λk1=>ae [tB 6<|aU k1]<|.w (b.all=true)
   (λk2=>ae [tB 9 k2,.c nu]<|rQ (im ik) (im<|tp a b)<|by unfold tp;simp[k1,k2])
   (λk2=>ae [tB 9<|aU k2]<|rQ (im<|Iv.mk a.lo b.hi false) (im<|tp a b)<|by unfold tp;simp[k1,k2])))
def sX(d:Dy):Bool:=decide (jm (my d) (iU 1000)<=0)
def JW(d:Dy)(hd:d.ig):ic 115 [iw d]<|bP<|sX d:=by
 have ha:=Aw hd;have hi:(iU 1000).ig:=sC aE;exact iy<|af [.c<|Hc d aD,.c<|qY 1000,.c<|mF (my d) (iU 1000) aD aD]
section
variable(x:Iv)(p:Nat)(hx:x.ig)
def EG(iu:8<=p:=by omega)(ie:p<=512:=by omega):ic 114 [im x,iP p]<|bP<|!x.all:=
 iy (.w (x.all=true)
  (λk1=>ae [tB 6 k1]<|rQ (bP false) (bP<|!x.all)<|by simp[k1])
  (λk1=>ae [tB 6<|aU k1,.c<|pe x aD,tT 14 (8<=(p:Int)) aC,tT 18 ((p:Int)<=512) aC]<|rQ (bP true) (bP<|!x.all)<|by simp[k1]))
def aci(iu:8<=p)(ie:p<=512)(xa:x.all=true):ic 67 [im x,iP p]<|im ik:=
 iy (af [.c<|EG x p aD,ai 7 (!x.all)<|by rw[xa];rfl,.c nu])
section
variable(iu:8<=p)(ie:p<=512)(xa:x.all=false)
def acm(h1:sX x.lo=false):ic 67 [im x,iP p]<|im ik:=by
 obtain⟨w1,w2⟩:=hx.jj;exact iy<|af [.c<|EG x p aD,ah 7 (!x.all)<|by rw[xa];rfl,.c<|JW x.lo aD,ai 12 (sX x.lo) h1,.c nu]
def acj(h1:sX x.lo=true)(h2:sX x.hi=false):ic 67 [im x,iP p]<|im ik:=by
 obtain⟨w1,w2⟩:=hx.jj;exact iy<|af [.c<|EG x p aD,ah 7 (!x.all)<|by rw[xa];rfl,.c<|JW x.lo aD,ah 12 (sX x.lo) h1,.c<|JW x.hi aD,ai 18 (sX x.hi) h2,.c nu]
def ack(h1:sX x.lo=true)(h2:sX x.hi=true)(Z1 Z2:Iv)(z1:Z1.ig)(z2:Z2.ig)(k1:ic 117 [iw x.lo,iP (p:Int)]<|im Z1)(k2:ic 117 [iw x.hi,iP (p:Int)]<|im Z2):ic 67 [im x,iP p]<|im<|tp Z1 Z2:=by
 obtain⟨w1,w2⟩:=hx.jj;exact iy<|af [.c<|EG x p aD,ah 7 (!x.all)<|by rw[xa];rfl,.c<|JW x.lo aD,ah 12 (sX x.lo) h1,.c<|JW x.hi aD,ah 18 (sX x.hi) h2,ag [iw x.lo,iP p] k1,ag [iw x.hi,iP p] k2,.c<|ach Z1 Z2 aD aD]
end
end
def LS{d:Dy}(hd:d.ig)(h:sX d=true):d.iz<=100:=by
 by_cases h0:d.m=0
 .rw [ape h0];decide
 .unfold sX at h;rw[cz,pg,yM]at h;have hq:=Bs d;have ha:iY d.q<=P2 10:=by
   have:P2 10=1024:= aL ;rw[this];have ais:((1000:Int):Rat)=1000:=rfl;rw[ais]at h;exact tZ aK aK 
  have:=abJ h0 ha;omega
def Oi{a b:Iv}(ha:a.ig)(hb:b.ig)(h:a.all=false->b.all=false->a.lo.q<=b.hi.q):(tp a b).ig:=by
 unfold tp;cases xa:a.all
 .cases xb:b.all
  .exact .inr ⟨rfl,ha.jj.1,hb.jj.2,(pg _ _).2<|h xa xb⟩
  .exact kR
 .exact kR
def aqe{x:Iv}(hx:x.ig){p:Nat}(iu:8<=p)(ie:p<=512):∃ Z,Z.ig/\ic 67 [im x,iP (p:Int)] (im Z):=by
 cases xa:x.all with
 |true=>exact⟨ik,kR,aci x p hx iu ie xa⟩
 |false=>
  cases h1:sX x.lo with
  |false=>exact⟨ik,kR,acm x p hx iu ie xa h1⟩
  |true=>
   cases h2:sX x.hi with
   |false=>exact⟨ik,kR,acj x p hx iu ie xa h1 h2⟩
   |true=>
    obtain⟨w1,w2⟩:=hx.jj;obtain⟨Z1,z1,l1,k1⟩:=M6 w1 (LS w1 h1) iu ie;obtain⟨Z2,z2,l2,k2⟩:=M6 w2 (LS w2 h2) iu ie;exact⟨tp Z1 Z2,Oi z1 z2 λa b=>Qo l1 l2 (λε hε=>Gy hx.q hε) a b,ack x p hx iu ie xa h1 h2 Z1 Z2 z1 z2 k1 k2⟩
section
variable(t:nC)(l:List Iv)(i p:Nat)(x:Nat)
def VN:PS:=⟨95,true,[(10,.own 10),(20,.e<|iP x),(19,.e<|iP t.iH),(9,.e<|.mp Eo),(4,.box 4 0),(1,.e<|iA l),(2,.e<|iP i),(3,.e<|iP p)],[(10,.row true 41 ((pj t.iH i x).length) 7<|jL<|pj t.iH i x),(4,.cells 29 [iP t.iH,mo t.ij,mg t.iB])]⟩
noncomputable def VO:PS:=⟨95,true,[(36,.e<|iP x),(35,.e<|iP t.ij.length),(34,.e<|mo t.ij),(10,.own 10),(9,.e<|.mp Eo),(4,.box 4 0),(1,.e<|iA l),(3,.e<|iP p)],[(10,.row true 41 ((kg t l i p x).length) 7<|jL<|kg t l i p x),(4,.cells 29 [iP t.iH,mo t.ij,mg t.iB])]⟩
end
def Hq(n:Int)(h:n.natAbs<4294967296:=by omega):ic 278 [iP n]<|im<|iF n:=by
 have hv:=sC h;exact iy<|af [.c<|qY n,.c<|rO (iU n) aD]
section
variable(o:kZ)
def alq(v a b da db:Iv)(p:Nat):List E:=F0 o++jt v++jt a++jt b++jt da++jt db++[iP (p:Int)]
def QS(v:Iv)(p:Nat):E:=.agg<|F0 o++jt v++au++au++au++au++[iP (p:Int)]
def vw(v a b da db:Iv)(p:Nat):E:=.agg<|alq o v a b da db p
def anD(v:Iv)(p:Nat):ic 322 [QS o v p]<|im<|iF 0:=
 iy (af [.c<|Hq 0])
section
variable(v a b da db:Iv)(p:Nat)
def anE(hv:v.ig)(ha:a.ig)(hb:b.ig)(hd:da.ig)(he:db.ig)(iu:8<=p)(ie:p<=512):ic 323 [vw o v a b da db p,(.ji 1 λ_=>.fn 73 [])]<|im<|je da db p:=by
 have q1:1<=p:= aC ;have q2:p<=4096:= aC ;exact iy<|af [.c<|uH da db p aD aD]
def anF(hv:v.ig)(ha:a.ig)(hb:b.ig)(hd:da.ig)(he:db.ig)(iu:8<=p)(ie:p<=512):ic 324 [vw o v a b da db p,(.ji 1 λ_=>.fn 163 [])]<|im<|kY da db p:=by
 have q1:1<=p:= aC ;have q2:p<=4096:= aC ;exact iy<|af [.c<|IH da db p aD aD]
def anI(hv:v.ig)(ha:a.ig)(hb:b.ig)(hd:da.ig)(he:db.ig)(iu:8<=p)(ie:p<=512):ic 325 [vw o v a b da db p]<|im<|oO da:=by
 have q1:1<=p:= aC ;have q2:p<=4096:= aC ;exact iy<|af [.c<|IG da aD]
def anG(hv:v.ig)(ha:a.ig)(hb:b.ig)(hd:da.ig)(he:db.ig)(iu:8<=p)(ie:p<=512):ic 326 [vw o v a b da db p,(.ji 1 λ_=>.fn 73 []),(.ji 1 λ_=>.fn 68 [])]<|im<|je (iL da b p) (iL a db p) p:=by
 have q1:1<=p:= aC ;have q2:p<=4096:= aC ;exact iy<|af [.c<|qp da b p aD aD,.c<|qp a db p aD aD,.c<|uH (iL da b p) (iL a db p) p (lE _ _ q1 q2)<|lE _ _ q1 q2]
def anH(hv:v.ig)(ha:a.ig)(hb:b.ig)(hd:da.ig)(he:db.ig)(iu:8<=p)(ie:p<=512):ic 327 [vw o v a b da db p,(.ji 1 λ_=>.fn 99 []),(.ji 1 λ_=>.fn 163 []),(.ji 1 λ_=>.fn 68 [])]<|im<|jh (kY da (iL v db p) p) b p:=by
 have q1:1<=p:= aC ;have q2:p<=4096:= aC ;exact iy<|af [.c<|qp v db p aD aD,.c<|IH da (iL v db p) p aD<|lE _ _ q1 q2,.c<|wm (kY da (iL v db p) p) b p (nS hd (rU<|lE _ _ q1 q2) q1 q2) aD]
def anJ(hv:v.ig)(ha:a.ig)(hb:b.ig)(hd:da.ig)(he:db.ig)(iu:8<=p)(ie:p<=512)(h0:o.n=0):ic 328 [vw o v a b da db p,(.ji 1 λ_=>.fn 68 [])]<|im<|iL (iF 0) da p:=by
 have q1:1<=p:= aC ;have q2:p<=4096:= aC ;have Cm:=QW;exact iy<|af [ah 7 ((o.n:Int)==0)<|sY h0,.c<|Hq 0,.c<|qp (iF 0) da p Cm aD]
def anK(hv:v.ig)(ha:a.ig)(hb:b.ig)(hd:da.ig)(he:db.ig)(iu:8<=p)(ie:p<=512)(h0:o.n≠0)(hn:o.n<=16):ic 328 [vw o v a b da db p,(.ji 1 λ_=>.fn 68 [])]<|im<|iL (iL (iF (o.n:Int)) (qU a (o.n-1) p) p) da p:=by
 have q1:1<=p:= aC ;have q2:p<=4096:= aC ;have Cm:=QV (aC:o.n<4294967296);have hpw:=Z0 ha (o.n-1) q1 q2;exact iy<|af [ai 7 ((o.n:Int)==0)<|nG h0,.c<|Hq (o.n:Int),iD<|(o.n:Int)-1,.o 26<|aq ((o.n:Int)-1) ((o.n-1:Nat):Int),.c<|Tw a (o.n-1) p aD aC aC aC,.c<|qp (iF (o.n:Int)) (qU a (o.n-1) p) p Cm hpw,.c<|qp (iL (iF (o.n:Int)) (qU a (o.n-1) p) p) da p (lE _ _ q1 q2) aD]
def anL(hv:v.ig)(ha:a.ig)(hb:b.ig)(hd:da.ig)(he:db.ig)(iu:8<=p)(ie:p<=512):ic 329 [vw o v a b da db p,(.ji 1 λ_=>.fn 68 [])]<|im<|iL v da p:=by
 have q1:1<=p:= aC ;have q2:p<=4096:= aC ;exact iy<|af [.c<|qp v da p aD aD]
def anz(hv:v.ig)(ha:a.ig)(hb:b.ig)(hd:da.ig)(he:db.ig)(iu:8<=p)(ie:p<=512):ic 330 [vw o v a b da db p,(.ji 1 λ_=>.fn 99 [])]<|im<|jh da a p:=by
 have q1:1<=p:= aC ;have q2:p<=4096:= aC ;exact iy<|af [.c<|wm da a p aD aD]
def anA(hv:v.ig)(ha:a.ig)(hb:b.ig)(hd:da.ig)(he:db.ig)(iu:8<=p)(ie:p<=512)(hF:xP):ic 331 [vw o v a b da db p,(.ji 1 λ_=>.fn 68 [])]<|im<|iL (AL a p) da p:=by
 have q1:1<=p:= aC ;have q2:p<=4096:= aC ;exact iy<|af [.c<|Vr a aD p aC aC hF,.c<|qp (AL a p) da p (Vs _ _) aD]
def anB(hv:v.ig)(ha:a.ig)(hb:b.ig)(hd:da.ig)(he:db.ig)(iu:8<=p)(ie:p<=512)(hF:xP):ic 332 [vw o v a b da db p,(.ji 1 λ_=>.fn 68 [])]<|im<|oO<|iL (y8 a p) da p:=by
 have q1:1<=p:= aC ;have q2:p<=4096:= aC ;exact iy<|af [.c<|Vt a aD p aC aC hF,.c<|qp (y8 a p) da p (Vu _ _) aD,.c<|IG (iL (y8 a p) da p)<|lE _ _ q1 q2]
def anC(hv:v.ig)(ha:a.ig)(hb:b.ig)(hd:da.ig)(he:db.ig)(iu:8<=p)(ie:p<=512):ic 333 [vw o v a b da db p,(.ji 1 λ_=>.fn 99 [])]<|im<|jh da (mR v 1) p:=by
 have q1:1<=p:= aC ;have q2:p<=4096:= aC ;exact iy<|af [.c<|Ki v aD 1,.c<|wm da (mR v 1) p aD<|JB hv _]
end
end
def En(k:Nat):FuncId:=if k=1 then 322 else if k=3 then 323 else if k=4 then 324 else if k=7 then 325 else if k=5 then 326 else if k=6 then 327 else if k=8 then 328 else if k=9 then 329 else if k=10 then 330 else if k=11 then 331 else if k=12 then 332 else if k=13 then 333 else 0
def Em(k:Nat):List E:=if k=1 then[]else if k=3 then[.ji 1 λ_=>.fn 73 []]else if k=4 then[.ji 1 λ_=>.fn 163 []]else if k=7 then[]else if k=5 then[.ji 1 λ_=>.fn 73 [],.ji 1 λ_=>.fn 68 []]else if k=6 then[.ji 1 λ_=>.fn 99 [],.ji 1 λ_=>.fn 163 [],.ji 1 λ_=>.fn 68 []]else if k=8 then[.ji 1 λ_=>.fn 68 []]else if k=9 then[.ji 1 λ_=>.fn 68 []]else if k=10 then[.ji 1 λ_=>.fn 99 []]else if k=11 then[.ji 1 λ_=>.fn 68 []]else if k=12 then[.ji 1 λ_=>.fn 68 []]else if k=13 then[.ji 1 λ_=>.fn 99 []]else[]
def aaJ{k:Nat}(h:k=1\/3<=k)(h2:k<=13):zT Eo (k:Int)=some (.fn (En k)<|Em k):=by
 have:k=1\/k=3\/k=4\/k=5\/k=6\/k=7\/k=8\/k=9\/k=10\/k=11\/k=12\/k=13:= aC ;rcases this with h|h|h|h|h|h|h|h|h|h|h|h<;>subst h<;>rfl
def anM(k:Nat)(hk:k=1)(o:kZ)(v:Iv)(p:Nat):ic (En k) (QS o v p::Em k)<|im<|iF 0:=by
 subst hk;exact anD o v p
def anN(o:kZ)(v a b da db:Iv)(p:Nat)(hv:v.ig)(ha:a.ig)(hb:b.ig)(hd:da.ig)(he:db.ig)(iu:8<=p)(ie:p<=512)(hn:o.n<=16)(h1:3<=o.kind)(h2:o.kind<=13)(hF:o.kind<=8\/xP):ic (En o.kind) (vw o v a b da db p::Em o.kind)<|im<|qZ o v a b da db p:=by
 have:o.kind=3\/o.kind=4\/o.kind=5\/o.kind=6\/o.kind=7\/o.kind=8\/o.kind=9\/o.kind=10\/o.kind=11\/o.kind=12\/o.kind=13:= aC ;rcases this with h|h|h|h|h|h|h|h|h|h|h
 .rw [h];unfold qZ;rw[aX aC,aY h];exact anE o v a b da db p hv ha hb hd he iu ie
 .rw [h];unfold qZ;rw[aX aC,aX aC,aY h];exact anF o v a b da db p hv ha hb hd he iu ie
 .rw [h];unfold qZ;rw[aX aC,aX aC,aX aC,aY h];exact anG o v a b da db p hv ha hb hd he iu ie
 .rw [h];unfold qZ;rw[aX aC,aX aC,aX aC,aX aC,aY h];exact anH o v a b da db p hv ha hb hd he iu ie
 .rw [h];unfold qZ;rw[aX aC,aX aC,aX aC,aX aC,aX aC,aY h];exact anI o v a b da db p hv ha hb hd he iu ie
 .rw [h];unfold qZ;rw[aX aC,aX aC,aX aC,aX aC,aX aC,aX aC,aY h];by_cases h0:o.n=0
  .rw [aY h0];exact anJ o v a b da db p hv ha hb hd he iu ie h0
  .rw [aX h0];exact anK o v a b da db p hv ha hb hd he iu ie h0 hn
 .rw [h];unfold qZ;rw[aX aC,aX aC,aX aC,aX aC,aX aC,aX aC,aX aC,aY h];exact anL o v a b da db p hv ha hb hd he iu ie
 .rw [h];unfold qZ;rw[aX aC,aX aC,aX aC,aX aC,aX aC,aX aC,aX aC,aX aC,aY h];exact anz o v a b da db p hv ha hb hd he iu ie
 .rw [h];unfold qZ;rw[aX aC,aX aC,aX aC,aX aC,aX aC,aX aC,aX aC,aX aC,aX aC,aY h];exact anA o v a b da db p hv ha hb hd he iu ie<|hF.resolve_left aC
 .rw [h];unfold qZ;rw[aX aC,aX aC,aX aC,aX aC,aX aC,aX aC,aX aC,aX aC,aX aC,aX aC,aY h];exact anB o v a b da db p hv ha hb hd he iu ie<|hF.resolve_left aC
 .rw [h];unfold qZ;rw[aX aC,aX aC,aX aC,aX aC,aX aC,aX aC,aX aC,aX aC,aX aC,aX aC,aX aC,aY h];exact anC o v a b da db p hv ha hb hd he iu ie
def ZG{o:kZ}{m:Nat}(h:oj o m)(hm:1<=m):o.b<m:=by
 have:=h.b;split at this<;>omega
def abW{T n n' m i x:Nat}{y:Iv}(hn:n=(pj m i x).length)(uy:n'=(pj m i<|x+1).length)(hy:(if x=i then iF 1 else iF 0)=y):
 Bx.le (.row true T (n+[y].length) 7 λi_ j=>if i_<n then jL (pj m i x) i_ j else(E.ng<|iA [y]) (i_-n) j) (.row true T n' 7<|jL<|pj m i<|x+1):=by
 subst uy hy;exact Qe hn
def Ku{T n n' i x p:Nat}{t:nC}{l:List Iv}{y:Iv}(hn:n=(kg t l i p x).length)(uy:n'=(kg t l i p<|x+1).length)(hy:wS (t.ij.getD x ja) (l.getD (t.iH+x) ik) l (kg t l i p x) p=y):
 Bx.le (.row true T (n+[y].length) 7 λi_ j=>if i_<n then jL (kg t l i p x) i_ j else(E.ng<|iA [y]) (i_-n) j) (.row true T n' 7<|jL<|kg t l i p<|x+1):=by
 subst uy hy;exact Qe hn
def ae7(t:nC)(l:List Iv)(i p:Nat)(h:BM t)(h1:1<=t.iH)(hl:l.length=t.iH+t.ij.length)(hv:pC l)(iu:8<=p)(ie:p<=512):ic 227 [Gk t,iA l,iP i,iP p]<|iA<|kg t l i p t.ij.length:=by
 have h8:=h.iH;have DG:=h.ij;exact iy (af [ag [] anO,.y 10 10 true 41 7<|jL<|pj t.iH i 0,.s (Sp.jX (VN t l i p) 0 t.iH aC (λx hx mH=>by
    have Ln:=Sj t.iH i x;exact iS (ae [tT 21 ((x:Int)<t.iH) aC,.c<|Hq 0]<|.w (x=i)
     (λCj=>by
      have r8:(if x=i then iF 1 else iF 0)=iF 1:=by rw[aY Cj]
      have sT:=qH<|iF 1;exact ae [ah 26 ((x:Int)==i)<|aT aC,.c<|Hq 1,.o 30<|.e<|lW<|iF 1,.a (aC:((pj t.iH i x).length+[iF 1].length)*88<=140737488355328),
       iD ((x:Int)+1)]<|.e<|af [.b 10 (abW rfl rfl r8:Bx.le (.row true 41 ((pj t.iH i x).length+[iF 1].length) 7 λi_ j_=>if i_<(pj t.iH i x).length then(jL<|pj t.iH i x) i_ j_ else(E.ng<|iA [iF 1]) (i_-(pj t.iH i x).length) j_)<|.row true 41 ((pj t.iH i<|x+1).length) 7<|jL<|pj t.iH i<|x+1)])
     (λCj=>by
      have r8:(if x=i then iF 1 else iF 0)=iF 0:=by rw[aX Cj]
      have sT:=qH<|iF 0;exact ae [ai 26 ((x:Int)==i)<|aS aC,.o 30<|.e<|lW<|iF 0,.a (aC:((pj t.iH i x).length+[iF 0].length)*88<=140737488355328),
       iD ((x:Int)+1)]<|.e<|af [.b 10 (abW rfl rfl r8:Bx.le (.row true 41 ((pj t.iH i x).length+[iF 0].length) 7 λi_ j_=>if i_<(pj t.iH i x).length then(jL<|pj t.iH i x) i_ j_ else(E.ng<|iA [iF 0]) (i_-(pj t.iH i x).length) j_)<|.row true 41 ((pj t.iH i<|x+1).length) 7<|jL<|pj t.iH i<|x+1)])) aF)
  (λhx=>by
    exact iS (af [tF 21 ((t.iH:Int)<t.iH) aC]) aF) aI:jW 4 f227 (VN t l i p 0) (.exit 0) ⟨95,true,[(10,.own 10),(9,.e<|.mp Eo),(4,.box 4 0),(1,.e<|iA l),(3,.e<|iP p)],[(10,.row true 41 ((pj t.iH i t.iH).length) 7<|jL<|pj t.iH i t.iH),(4,.cells 29 [iP t.iH,mo t.ij,mg t.iB])]⟩)<|af [.b 10<|.refl<|.row true 41 ((pj t.iH i 0).length) 7<|jL<|pj t.iH i 0],.s (Sp.jX (VO t l i p) 0 t.ij.length aC (λx hx mH=>by
    have iC:=h.op x aC;have Ln:=NT t l i p x;have Wz:=Kv t hv i (aC:1<=p) (aC:p<=4096) x;have WO:=iC.k3;by_cases mT:(t.ij.getD x ja).kind=1
    .by_cases Iw:(l.getD (t.iH+x) ik).all=true
     .have yC:=Iw;have r8:wS (t.ij.getD x ja) (l.getD (t.iH+x) ik) l (kg t l i p x) p=ik:=by unfold wS;rw[aY yC]
      have sT:=qH ik;exact iS (ae [tT 37 ((x:Int)<t.ij.length) aC,iX (x:Int)<|t.ij.length,iD<|(t.iH:Int)+x,iX ((t.iH+x:Nat):Int)<|l.length,ai 53 (((t.ij.getD x ja).kind:Int) != 1)<|aV aC,.o 78 (.e BH:aj (.agg [bP false,.v<|.slice none 0 0,iP 0,bP false,.v<|.slice none 0 0,iP 0,bP true])<|im ik),ah 81 ((l.getD (t.iH+x) ik).all) yC,.o 91<|.e<|lW ik,.a (aC:((kg t l i p x).length+[ik].length)*88<=140737488355328),iD<|(x:Int)+1]<|.e<|af [.b 10 (Ku rfl rfl r8:Bx.le (.row true 41 ((kg t l i p x).length+[ik].length) 7 λi_ j_=>if i_<(kg t l i p x).length then(jL<|kg t l i p x) i_ j_ else(E.ng<|iA [ik]) (i_-(kg t l i p x).length) j_)<|.row true 41 ((kg t l i p<|x+1).length) 7<|jL<|kg t l i p<|x+1)]) aF 
     .have yC:(l.getD (t.iH+x) ik).all=false:=aU Iw;have r8:wS (t.ij.getD x ja) (l.getD (t.iH+x) ik) l (kg t l i p x) p=iF 0:=by unfold wS;rw[aX<|by rw[yC];decide];unfold qZ;rw[aY mT]
      have sT:=qH<|iF 0;exact iS (ae [tT 37 ((x:Int)<t.ij.length) aC,iX (x:Int)<|t.ij.length,iD<|(t.iH:Int)+x,iX ((t.iH+x:Nat):Int)<|l.length,ai 53 (((t.ij.getD x ja).kind:Int) != 1)<|aV aC,.o 78 (.e BH:aj (.agg [bP false,.v<|.slice none 0 0,iP 0,bP false,.v<|.slice none 0 0,iP 0,bP true])<|im ik),ai 81 ((l.getD (t.iH+x) ik).all) yC,.m (aaJ WO iC.Cu:zT Eo ((t.ij.getD x ja).kind:Int)=some (.fn (En (t.ij.getD x ja).kind)<|Em (t.ij.getD x ja).kind)),.c (anM _ mT _ _ _:ic (En (t.ij.getD x ja).kind) ((QS (t.ij.getD x ja) (l.getD (t.iH+x) ik) p)::(Em (t.ij.getD x ja).kind)) _),.o 91<|.e<|lW<|iF 0,.a (aC:((kg t l i p x).length+[iF 0].length)*88<=140737488355328),iD<|(x:Int)+1]<|.e<|af [.b 10 (Ku rfl rfl r8:Bx.le (.row true 41 ((kg t l i p x).length+[iF 0].length) 7 λi_ j_=>if i_<(kg t l i p x).length then(jL<|kg t l i p x) i_ j_ else(E.ng<|iA [iF 0]) (i_-(kg t l i p x).length) j_)<|.row true 41 ((kg t l i p<|x+1).length) 7<|jL<|kg t l i p<|x+1)]) aF 
    .by_cases Iw:(l.getD (t.iH+x) ik).all=true
     .have yC:=Iw;have h3:=iC.k3.resolve_left mT;have oa:=iC.No mT;have ob:=ZG iC aC;have r8:wS (t.ij.getD x ja) (l.getD (t.iH+x) ik) l (kg t l i p x) p=ik:=by unfold wS;rw[aY yC]
      have sT:=qH ik;exact iS (ae [tT 37 ((x:Int)<t.ij.length) aC,iX (x:Int)<|t.ij.length,iD<|(t.iH:Int)+x,iX ((t.iH+x:Nat):Int)<|l.length,ah 53 (((t.ij.getD x ja).kind:Int) != 1)<|aW aC,iX ((t.ij.getD x ja).a:Int)<|l.length,iX ((t.ij.getD x ja).b:Int)<|l.length,
       iX ((t.ij.getD x ja).a:Int) ((kg t l i p x).length),.a (aC:(t.ij.getD x ja).a<(kg t l i p x).length),iX ((t.ij.getD x ja).b:Int)<|(kg t l i p x).length,.a (aC:(t.ij.getD x ja).b<(kg t l i p x).length),.o 78 (.e BH:aj (.agg [bP false,.v<|.slice none 0 0,iP 0,bP false,.v<|.slice none 0 0,iP 0,bP true])<|im ik),ah 81 ((l.getD (t.iH+x) ik).all) yC,.o 91<|.e<|lW ik,.a (aC:((kg t l i p x).length+[ik].length)*88<=140737488355328),iD<|(x:Int)+1]<|.e<|af [.b 10 (Ku rfl rfl r8:Bx.le (.row true 41 ((kg t l i p x).length+[ik].length) 7 λi_ j_=>if i_<(kg t l i p x).length then(jL<|kg t l i p x) i_ j_ else(E.ng<|iA [ik]) (i_-(kg t l i p x).length) j_)<|.row true 41 ((kg t l i p<|x+1).length) 7<|jL<|kg t l i p<|x+1)]) aF 
     .have yC:(l.getD (t.iH+x) ik).all=false:=aU Iw;have h3:=iC.k3.resolve_left mT;have oa:=iC.No mT;have ob:=ZG iC aC;have r8:wS (t.ij.getD x ja) (l.getD (t.iH+x) ik) l (kg t l i p x) p=qZ (t.ij.getD x ja) (l.getD (t.iH+x) ik) (l.getD ((t.ij.getD x ja).a) ik) (l.getD ((t.ij.getD x ja).b) ik) ((kg t l i p x).getD ((t.ij.getD x ja).a) ik) ((kg t l i p x).getD ((t.ij.getD x ja).b) ik) p:=by unfold wS;rw[aX<|by rw[yC];decide]
      have sT:=qH<|qZ (t.ij.getD x ja) (l.getD (t.iH+x) ik) (l.getD ((t.ij.getD x ja).a) ik) (l.getD ((t.ij.getD x ja).b) ik) ((kg t l i p x).getD ((t.ij.getD x ja).a) ik) ((kg t l i p x).getD ((t.ij.getD x ja).b) ik) p;exact iS (ae [tT 37 ((x:Int)<t.ij.length) aC,iX (x:Int)<|t.ij.length,iD<|(t.iH:Int)+x,iX ((t.iH+x:Nat):Int)<|l.length,ah 53 (((t.ij.getD x ja).kind:Int) != 1)<|aW aC,iX ((t.ij.getD x ja).a:Int)<|l.length,iX ((t.ij.getD x ja).b:Int)<|l.length,
       iX ((t.ij.getD x ja).a:Int) ((kg t l i p x).length),.a (aC:(t.ij.getD x ja).a<(kg t l i p x).length),iX ((t.ij.getD x ja).b:Int)<|(kg t l i p x).length,.a (aC:(t.ij.getD x ja).b<(kg t l i p x).length),.o 78 (.e BH:aj (.agg [bP false,.v<|.slice none 0 0,iP 0,bP false,.v<|.slice none 0 0,iP 0,bP true])<|im ik),ai 81 ((l.getD (t.iH+x) ik).all) yC,.m (aaJ WO iC.Cu:zT Eo ((t.ij.getD x ja).kind:Int)=some (.fn (En (t.ij.getD x ja).kind)<|Em (t.ij.getD x ja).kind)),.c (anN _ _ _ _ _ _ _ (hv _) (hv _) (hv _) (Wz _) (Wz _) iu ie (ZH iC) h3 iC.Cu iC.f:ic (En (t.ij.getD x ja).kind) ((vw (t.ij.getD x ja) (l.getD (t.iH+x) ik) (l.getD (t.ij.getD x ja).a ik) (l.getD (t.ij.getD x ja).b ik) ((kg t l i p x).getD (t.ij.getD x ja).a ik) ((kg t l i p x).getD (t.ij.getD x ja).b ik) p)::(Em (t.ij.getD x ja).kind)) _),.o 91<|.e<|lW<|qZ (t.ij.getD x ja) (l.getD (t.iH+x) ik) (l.getD ((t.ij.getD x ja).a) ik) (l.getD ((t.ij.getD x ja).b) ik) ((kg t l i p x).getD ((t.ij.getD x ja).a) ik) ((kg t l i p x).getD ((t.ij.getD x ja).b) ik) p,.a (aC:((kg t l i p x).length+[qZ (t.ij.getD x ja) (l.getD (t.iH+x) ik) (l.getD ((t.ij.getD x ja).a) ik) (l.getD ((t.ij.getD x ja).b) ik) ((kg t l i p x).getD ((t.ij.getD x ja).a) ik) ((kg t l i p x).getD ((t.ij.getD x ja).b) ik) p].length)*88<=140737488355328),
       iD ((x:Int)+1)]<|.e<|af [.b 10 (Ku rfl rfl r8:Bx.le (.row true 41 ((kg t l i p x).length+[qZ (t.ij.getD x ja) (l.getD (t.iH+x) ik) (l.getD ((t.ij.getD x ja).a) ik) (l.getD ((t.ij.getD x ja).b) ik) ((kg t l i p x).getD ((t.ij.getD x ja).a) ik) ((kg t l i p x).getD ((t.ij.getD x ja).b) ik) p].length) 7 λi_ j_=>if i_<(kg t l i p x).length then(jL<|kg t l i p x) i_ j_ else(E.ng<|iA [qZ (t.ij.getD x ja) (l.getD (t.iH+x) ik) (l.getD ((t.ij.getD x ja).a) ik) (l.getD ((t.ij.getD x ja).b) ik) ((kg t l i p x).getD ((t.ij.getD x ja).a) ik) ((kg t l i p x).getD ((t.ij.getD x ja).b) ik) p]) (i_-(kg t l i p x).length) j_)<|.row true 41 ((kg t l i p<|x+1).length) 7<|jL<|kg t l i p<|x+1)]) aF)
  (λhx=>by
    exact iS (ae [tF 37 ((t.ij.length:Int)<t.ij.length) aC,.z 10]<|.e<|af [.o 10 (.e<|zK aH:aj (.sl true ((kg t l i p t.ij.length).length) 7<|jL<|kg t l i p t.ij.length)<|iA<|kg t l i p t.ij.length)]) aF) aI:jW 12 f227 (VO t l i p 0) (.exit 2) ⟨95,true,[(10,.e<|iA<|kg t l i p t.ij.length)],[]⟩)<|af [.b 10<|.refl<|.row true 41 ((kg t l i p 0).length) 7<|jL<|kg t l i p 0]])
section
variable(t:nC)(xs:List Iv)
noncomputable def VV(p m:Nat)(x:Nat):PS:=⟨91,true,[(43,.e<|iP x),(42,.e<|iP m),(11,.own 41),(10,.e<|iA<|jy t.ij xs p t.ij.length),(4,.box 4 0),(3,.e<|iP p)],[(41,.iT true 23 41 t.iB.length 7 (jK<|kX t.iB.length (ot t xs p) x 0) (kF<|kX t.iB.length (ot t xs p) x 0) .none),(4,.cells 29 [iP t.iH,mo t.ij,mg t.iB])]⟩
noncomputable def VW(p m x:Nat)(k:Nat):PS:=⟨91,true,[(54,.e<|iP k),(53,.e<|iP t.iB.length),(52,.e<|mg t.iB),(13,.e<|iA<|kg t (jy t.ij xs p t.ij.length) x p t.ij.length),(43,.e<|iP x),(42,.e<|iP m),(11,.own 41),(10,.e<|iA<|jy t.ij xs p t.ij.length),(4,.box 4 0),(3,.e<|iP p)],[(41,.iT true 23 41 t.iB.length 7 (jK<|kX t.iB.length (ot t xs p) x k) (kF<|kX t.iB.length (ot t xs p) x k) .none),(4,.cells 29 [iP t.iH,mo t.ij,mg t.iB])]⟩
noncomputable def VX(p m:Nat)(x:Nat):PS:=⟨91,true,[(16,.own 16),(77,.e<|iP x),(76,.e<|iP t.iB.length),(75,.e<|mg t.iB),(11,.own 41),(10,.e<|iA<|jy t.ij xs p t.ij.length)],[(16,.row true 41 x 7<|jL<|(List.range x).map λj_=>(jy t.ij xs p t.ij.length).getD (t.iB.getD j_ 0) ik),(41,.iT true 23 41 t.iB.length 7 (jK<|kX t.iB.length (ot t xs p) m 0) (kF<|kX t.iB.length (ot t xs p) m 0) .none)]⟩
end
def aor{n x k:Nat}{F:Nat->Nat->Iv}(h:k<n):jK (kX n F x k) k=x:=by simp only[jK,Gf h];simp
section
variable(t:nC)(xs:List Iv)(p m:Nat)
def OH(h:BM t)(h0:1<=xs.length)(hx:xs.length=t.iH)(hv:pC xs)(hm:m<=t.iH)(iu:8<=p)(ie:p<=512):ic 158 [Gk t,iA xs,iP m,iP p]<|.ix [iA<|jZ t xs p,jb<|rP t xs p m]:=by
 have h8:=h.iH;have DG:=h.ij;have zp:=h.iB;have h1:1<=t.iH:= aC ;have zC:(jy t.ij xs p t.ij.length).length=t.iH+t.ij.length:=by rw[JR,hx]
 have hvv:=Gs t.ij hv (aC:1<=p) (aC:p<=4096) t.ij.length;exact iy (ae [.c<|VQ t xs p h h0 hx hv aC aC,tF 26 ((m:Int)<0) aC,tF 32 ((t.iH:Int)<m) aC,.c<|abC t xs p h h0 hx hv aC aC,.a (aC:0<=((t.iB.length:Int):Int)/\((t.iB.length:Int):Int)<=((t.iB.length:Int):Int)),.a (aC:((24:Nat):Int)*(t.iB.length:Int)<=281474976710656/\((t.iB.length:Int):Int)<=9223372036854775807),.s (Sp.jX (VV t xs p m) 0 m aC (λx hx mH=>by
    exact iS (ae [tT 44 ((x:Int)<m) aC,.c<|ae7 t (jy t.ij xs p t.ij.length) x p h h1 zC hvv iu ie,.s (Sp.jX (VW t xs p m x) 0 t.iB.length aC (λk hk tA=>by
    have W3:=h.out k aC;have hle:jK (kX t.iB.length (ot t xs p) x k) k=x:=aor aC ;have Pe:=NT t (jy t.ij xs p t.ij.length) x p t.ij.length;have sT:=qH<|(kg t (jy t.ij xs p t.ij.length) x p t.ij.length).getD (t.iB.getD k 0) ik;exact iS (ae [tT 55 ((k:Int)<t.iB.length) aC,iX (k:Int)<|t.iB.length,iX (k:Int)<|t.iB.length,.a (aC:k<t.iB.length),
     iX (t.iB.getD k 0:Int) ((kg t (jy t.ij xs p t.ij.length) x p t.ij.length).length),.o 69<|.e<|lW<|(kg t (jy t.ij xs p t.ij.length) x p t.ij.length).getD (t.iB.getD k 0) ik,.a (aC:k<t.iB.length),.a (aC:((jK<|kX t.iB.length (ot t xs p) x k) k+[(kg t (jy t.ij xs p t.ij.length) x p t.ij.length).getD (t.iB.getD k 0) ik].length)*88<=140737488355328),
     iX (k:Int) (t.iB.length),.a (rfl:k=k),.a (rfl:k=k),.a (aC:k<t.iB.length),iD<|(k:Int)+1]<|.e<|af [.b 41 (aov rfl rfl aC rfl:Bx.le (.iT true 23 41 t.iB.length 7 (λq=>if q=k then(jK<|kX t.iB.length (ot t xs p) x k) q+[(kg t (jy t.ij xs p t.ij.length) x p t.ij.length).getD (t.iB.getD k 0) ik].length else(jK<|kX t.iB.length (ot t xs p) x k) q) (λq i j=>if q=k then(if i<(jK<|kX t.iB.length (ot t xs p) x k) q then(kF<|kX t.iB.length (ot t xs p) x k) q i j else(E.ng<|iA [(kg t (jy t.ij xs p t.ij.length) x p t.ij.length).getD (t.iB.getD k 0) ik]) (i-(jK<|kX t.iB.length (ot t xs p) x k) q) j)else(kF<|kX t.iB.length (ot t xs p) x k) q i j) .none)<|.iT true 23 41 t.iB.length 7 (jK<|kX t.iB.length (ot t xs p) x<|k+1) (kF<|kX t.iB.length (ot t xs p) x<|k+1) .none)]) aF)
  (λhk=>by
    exact iS (af [tF 55 ((t.iB.length:Int)<t.iB.length) aC]) aF) aI:jW 10 f158 (VW t xs p m x 0) (.exit 2) ⟨91,true,[(43,.e<|iP x),(42,.e<|iP m),(11,.own 41),(10,.e<|iA<|jy t.ij xs p t.ij.length),(4,.box 4 0),(3,.e<|iP p)],[(41,.iT true 23 41 t.iB.length 7 (jK<|kX t.iB.length (ot t xs p) x t.iB.length) (kF<|kX t.iB.length (ot t xs p) x t.iB.length) .none),(4,.cells 29 [iP t.iH,mo t.ij,mg t.iB])]⟩) .nil,
     iD ((x:Int)+1)]<|.e<|af [.b 41 (aou rfl:Bx.le (.iT true 23 41 t.iB.length 7 (jK<|kX t.iB.length (ot t xs p) x t.iB.length) (kF<|kX t.iB.length (ot t xs p) x t.iB.length) .none)<|.iT true 23 41 t.iB.length 7 (jK<|kX t.iB.length (ot t xs p) (x+1) 0) (kF<|kX t.iB.length (ot t xs p) (x+1) 0) .none)]) aF)
  (λhx=>by
    exact iS (af [tF 44 ((m:Int)<m) aC]) aF) aI:jW 6 f158 (VV t xs p m 0) (.exit 0) ⟨91,true,[(11,.own 41),(10,.e<|iA<|jy t.ij xs p t.ij.length),(4,.box 4 0)],[(41,.iT true 23 41 t.iB.length 7 (jK<|kX t.iB.length (ot t xs p) m 0) (kF<|kX t.iB.length (ot t xs p) m 0) .none),(4,.cells 29 [iP t.iH,mo t.ij,mg t.iB])]⟩)<|af [.b 41 (aot rfl:Bx.le (.iT true 23 41 t.iB.length 7 (λ_=>0) (λ_ _ _=>.any) .none)<|.iT true 23 41 t.iB.length 7 (jK<|kX t.iB.length (ot t xs p) 0 0) (kF<|kX t.iB.length (ot t xs p) 0 0) .none)],.y 16 16 true 41 7<|jL<|(List.range 0).map λj_=>(jy t.ij xs p t.ij.length).getD (t.iB.getD j_ 0) ik,.s (Sp.jX (VX t xs p m) 0 t.iB.length aC (λx hx mH=>by
    have W3:=h.out x aC;have Ln:=JR t.ij xs p t.ij.length;have sT:=qH<|(jy t.ij xs p t.ij.length).getD (t.iB.getD x 0) ik;exact iS (ae [tT 78 ((x:Int)<t.iB.length) aC,iX (x:Int)<|t.iB.length,iX (t.iB.getD x 0:Int)<|(jy t.ij xs p t.ij.length).length,.o 86<|.e<|lW<|(jy t.ij xs p t.ij.length).getD (t.iB.getD x 0) ik,.a (aC:(x+[(jy t.ij xs p t.ij.length).getD (t.iB.getD x 0) ik].length)*88<=140737488355328),
     iD ((x:Int)+1)]<|.e<|af [.b 16 (zL rfl rfl rfl:Bx.le (.row true 41 (x+[(jy t.ij xs p t.ij.length).getD (t.iB.getD x 0) ik].length) 7 λi_ j_=>if i_<x then(jL<|(List.range x).map λj_=>(jy t.ij xs p t.ij.length).getD (t.iB.getD j_ 0) ik) i_ j_ else(E.ng<|iA [(jy t.ij xs p t.ij.length).getD (t.iB.getD x 0) ik]) (i_-x) j_)<|.row true 41 (x+1) 7<|jL<|(List.range<|x+1).map λj_=>(jy t.ij xs p t.ij.length).getD (t.iB.getD j_ 0) ik)]) aF)
  (λhx=>by
    exact iS (ae [tF 78 ((t.iB.length:Int)<t.iB.length) aC,.z 16]<|.e<|af [.o 16 (.e<|zK aH:aj (.sl true t.iB.length 7<|jL<|(List.range t.iB.length).map λj_=>(jy t.ij xs p t.ij.length).getD (t.iB.getD j_ 0) ik)<|iA<|(List.range t.iB.length).map λj_=>(jy t.ij xs p t.ij.length).getD (t.iB.getD j_ 0) ik)]) aF) aI:jW 17 f158 (VX t xs p m 0) (.exit 4) ⟨91,true,[(16,.e<|iA<|(List.range t.iB.length).map λj_=>(jy t.ij xs p t.ij.length).getD (t.iB.getD j_ 0) ik),(11,.own 41)],[(41,.iT true 23 41 t.iB.length 7 (jK<|kX t.iB.length (ot t xs p) m 0) (kF<|kX t.iB.length (ot t xs p) m 0) .none)]⟩) .nil]<|rR (.ix [iA<|jZ t xs p,jb<|rP t xs p m]) (.ix<|.cons (.jP<|by rw[Vw])<|.cons (LO (abk _ _ _ _).symm) .nil:E.le (.ix [iA<|(List.range t.iB.length).map λj_=>(jy t.ij xs p t.ij.length).getD (t.iB.getD j_ 0) ik,(.sl true t.iB.length 1 λk_ _=>.sl true ((jK<|kX t.iB.length (ot t xs p) m 0) k_) 7<|(kF<|kX t.iB.length (ot t xs p) m 0) k_)])<|.ix [iA<|jZ t xs p,jb<|rP t xs p m]))
def IK:(rP t xs p m).length=t.iB.length:=abk _ _ _ _
end
def Qg{t:nC}{xs:List Iv}{p m q:Nat}(h:q<t.iB.length):(rP t xs p m).getD q []=(List.range m).map (ot t xs p q):=by
 unfold rP;rw[Gf h,aX<|bt _]
def X9{t:nC}{xs:List Iv}{p m:Nat}(hm:m<=1000)(q:Nat):((rP t xs p m).getD q []).length<=1000:=by
 by_cases h:q<t.iB.length
 .rw [Qg h];simpa using hm
 .rw [bc,bX<|by rw[IK];omega];simp
section
variable(s:kp)(b:List Iv)(p:Nat)
section
variable(h:mD s)(hb:kH s.iN b)(iu:8<=p)(ie:p<=512)
def ahx(hn:nD (jZ s.tape (b++s.params) p)=true):ic 91 [j8 s,iA b,iP s.iN,iP p]<|.ix [.v<|.slice none 0 0,.v<|.slice none 0 0,iP 11]:=by
 have s4:=h.s4;have p4:=h.p4;have DC:=hb.len;have zp:=h.tape.iB;have wc:=Ja hb.ok;have AS:=Dj s.tape (b++s.params) p;obtain⟨f1,f2,f3,f4⟩:=BU h hb;have Lj:=IK s.tape (b++s.params) p s.iN;have Xb:=h.iB;have W9:=h.iH;have xi:s.iN<=1000:= aC ;exact iy<|af [.c<|Ew s aD,ai 21 ((b.length:Int) != (s.iN:Int))<|vt hb.len,.c<|vS b,ai 25 (nD b) wc,.c (zJ true _ _ 156 [] (λ_=>false) (λi hi=>Hp _ (hb.ok i hi).1) aC λ_ _=>rfl:ic 39 [iA b,.fn 156 []] _),.c<|Fh (p:Int),ah 32 (kT (p:Int))<|pH.2 ⟨aC,aC⟩,.o 40<|.e<|IW b s.params,.c<|GY b s.params,.c<|OH s.tape (b++s.params) p s.iN f1 f2 f3 f4 aC aC aC,.c<|vS<|jZ s.tape (b++s.params) p,ah 48 (nD<|jZ s.tape (b++s.params) p) hn]
section
variable(hn:nD (jZ s.tape (b++s.params) p)=false)
def ahy(lM:EU (rP s.tape (b++s.params) p s.iN)=true):ic 91 [j8 s,iA b,iP s.iN,iP p]<|.ix [.v<|.slice none 0 0,.v<|.slice none 0 0,iP 11]:=by
 have s4:=h.s4;have p4:=h.p4;have DC:=hb.len;have zp:=h.tape.iB;have wc:=Ja hb.ok;have AS:=Dj s.tape (b++s.params) p;obtain⟨f1,f2,f3,f4⟩:=BU h hb;have Lj:=IK s.tape (b++s.params) p s.iN;have Xb:=h.iB;have W9:=h.iH;have xi:s.iN<=1000:= aC ;exact iy<|af [.c<|Ew s aD,ai 21 ((b.length:Int) != (s.iN:Int))<|vt hb.len,.c<|vS b,ai 25 (nD b) wc,.c (zJ true _ _ 156 [] (λ_=>false) (λi hi=>Hp _ (hb.ok i hi).1) aC λ_ _=>rfl:ic 39 [iA b,.fn 156 []] _),.c<|Fh (p:Int),ah 32 (kT (p:Int))<|pH.2 ⟨aC,aC⟩,.o 40<|.e<|IW b s.params,.c<|GY b s.params,.c<|OH s.tape (b++s.params) p s.iN f1 f2 f3 f4 aC aC aC,.c<|vS<|jZ s.tape (b++s.params) p,ai 48 (nD<|jZ s.tape (b++s.params) p) hn,.c (Mv true _ _ 155 [] (λi=>nD<|(rP s.tape (b++s.params) p s.iN).getD i []) λi hi=>vS _<|X9 xi i:ic 159 [jb<|rP s.tape (b++s.params) p s.iN,.fn 155 []] _),ah 51 (EU<|rP s.tape (b++s.params) p s.iN) lM]
def ahz(lM:EU (rP s.tape (b++s.params) p s.iN)=false):ic 91 [j8 s,iA b,iP s.iN,iP p]<|.ix [iA<|jZ s.tape (b++s.params) p,jb<|rP s.tape (b++s.params) p s.iN,iP 0]:=by
 have s4:=h.s4;have p4:=h.p4;have DC:=hb.len;have zp:=h.tape.iB;have wc:=Ja hb.ok;have AS:=Dj s.tape (b++s.params) p;obtain⟨f1,f2,f3,f4⟩:=BU h hb;have Lj:=IK s.tape (b++s.params) p s.iN;have Xb:=h.iB;have W9:=h.iH;have xi:s.iN<=1000:= aC ;exact iy<|af [.c<|Ew s aD,ai 21 ((b.length:Int) != (s.iN:Int))<|vt hb.len,.c<|vS b,ai 25 (nD b) wc,.c (zJ true _ _ 156 [] (λ_=>false) (λi hi=>Hp _ (hb.ok i hi).1) aC λ_ _=>rfl:ic 39 [iA b,.fn 156 []] _),.c<|Fh (p:Int),ah 32 (kT (p:Int))<|pH.2 ⟨aC,aC⟩,.o 40<|.e<|IW b s.params,.c<|GY b s.params,.c<|OH s.tape (b++s.params) p s.iN f1 f2 f3 f4 aC aC aC,.c<|vS<|jZ s.tape (b++s.params) p,ai 48 (nD<|jZ s.tape (b++s.params) p) hn,.c (Mv true _ _ 155 [] (λi=>nD<|(rP s.tape (b++s.params) p s.iN).getD i []) λi hi=>vS _<|X9 xi i:ic 159 [jb<|rP s.tape (b++s.params) p s.iN,.fn 155 []] _),ai 51 (EU<|rP s.tape (b++s.params) p s.iN) lM]
end
end
noncomputable def Ct:Bool:=nD (jZ s.tape (b++s.params) p)||EU (rP s.tape (b++s.params) p s.iN)
noncomputable def oz:List<|List Iv:=(rP s.tape (b++s.params) p s.iN)
def ahE(iV:ic 91 [j8 s,iA b,iP (s.iN:Int),iP (p:Int)]<|.ix [.v<|.slice none 0 0,.v<|.slice none 0 0,iP 11]):ic 47 [j8 s,iA b,iP p]<|.ix [.v<|.slice none 0 0,iP 11]:=
 iy (af [ag [j8 s,iA b,iP s.iN,iP p] iV])
section
variable(h:mD s)(hb:kH s.iN b)(iu:8<=p)(ie:p<=512)
def ahF(hn:nD (jZ s.tape (b++s.params) p)=false)(lM:EU (rP s.tape (b++s.params) p s.iN)=false):ic 47 [j8 s,iA b,iP p]<|.ix [jb<|rP s.tape (b++s.params) p s.iN,iP 0]:=
 iy (af [ag [j8 s,iA b,iP s.iN,iP p]<|ahz _ _ _ h hb iu ie hn lM])
def VR(hn:Ct s b p=true):ic 47 [j8 s,iA b,iP (p:Int)]<|.ix [.v<|.slice none 0 0,iP 11]:=by
 unfold Ct at hn;refine ahE s b p ?_;cases h1:nD (jZ s.tape (b++s.params) p)with
 |true=>exact ahx s b p h hb iu ie h1
 |false=>
  rw[h1,fi]at hn;exact ahy s b p h hb iu ie h1 hn
def VS(hn:Ct s b p=false):ic 47 [j8 s,iA b,iP (p:Int)]<|.ix [jb<|oz s b p,iP 0]:=by
 unfold Ct at hn;rw[fe]at hn;exact ahF s b p h hb iu ie hn.1 hn.2
end
end
section
variable(m:List<|List Iv)(g:FuncId)(cap:List E)(F:Nat->Nat->Iv)
def U2(x:Nat):PS:=⟨44,true,[(15,.e<|iP x),(14,.e<|iP m.length),(13,.e<|jb m),(5,.own 12),(1,.e<|.fn g cap)],[(12,.iT true 23 41 m.length 7 (jK<|jB m.length (λq=>(m.getD q []).length) F x 0) (kF<|jB m.length (λq=>(m.getD q []).length) F x 0) .none)]⟩
def U3(x:Nat)(k:Nat):PS:=⟨44,true,[(22,.e<|iP k),(21,.e<|iP ((m.getD x []).length:Int)),(20,.e<|iA<|m.getD x []),(6,.e<|iP x),(15,.e<|iP x),(14,.e<|iP m.length),(13,.e<|jb m),(5,.own 12),(1,.e<|.fn g cap)],[(12,.iT true 23 41 m.length 7 (jK<|jB m.length (λq=>(m.getD q []).length) F x k) (kF<|jB m.length (λq=>(m.getD q []).length) F x k) .none)]⟩
def YB(hl:m.length<=1000)(hr:∀ i,(m.getD i []).length<=1000)(hf:∀ i j,i<m.length->j<(m.getD i []).length->ic g (iP (i:Int)::iP (j:Int)::im ((m.getD i []).getD j ik)::cap) (im<|F i j)):ic 167 [jb m,.fn g cap]<|jb<|rj m.length (λq=>(m.getD q []).length) F:=
 iy (ae [.a (aC:0<=((m.length:Int):Int)/\((m.length:Int):Int)<=((m.length:Int):Int)),.a (aC:((24:Nat):Int)*(m.length:Int)<=281474976710656/\((m.length:Int):Int)<=9223372036854775807),.s (Sp.jX (U2 m g cap F) 0 m.length aC (λx hx mH=>by
    have uG:=hr x;exact iS (ae [tT 16 ((x:Int)<m.length) aC,iX (x:Int)<|m.length,.s (Sp.jX (U3 m g cap F x) 0 ((m.getD x []).length) aC (λk hk tA=>by
    have uG:=hr x;have hle:jK (jB m.length (λq=>(m.getD q []).length) F x k) x=k:=Qs aC ;have h1:=qH<|F x k;exact iS (ae [tT 23 ((k:Int)<((m.getD x []).length:Int)) aC,iX (k:Int)<|(m.getD x []).length,iX (x:Int)<|m.length,.a (aC:x<m.length),.c (hf x k aC aC:ic g ((iP x)::(iP k)::(im<|(m.getD x []).getD k ik)::cap) _),.o 38<|.e<|lW<|F x k,.a (aC:x<m.length),.a (aC:((jK<|jB m.length (λq=>(m.getD q []).length) F x k) x+[F x k].length)*88<=140737488355328),iX (x:Int)<|m.length,.a (rfl:x=x),.a (rfl:x=x),.a (aC:x<m.length),
     iD ((k:Int)+1)]<|.e<|af [.b 12 (Mw rfl aC aC rfl:Bx.le (.iT true 23 41 m.length 7 (λq=>if q=x then(jK<|jB m.length (λq=>(m.getD q []).length) F x k) q+[F x k].length else(jK<|jB m.length (λq=>(m.getD q []).length) F x k) q) (λq i j=>if q=x then(if i<(jK<|jB m.length (λq=>(m.getD q []).length) F x k) q then(kF<|jB m.length (λq=>(m.getD q []).length) F x k) q i j else(E.ng<|iA [F x k]) (i-(jK<|jB m.length (λq=>(m.getD q []).length) F x k) q) j)else(kF<|jB m.length (λq=>(m.getD q []).length) F x k) q i j) .none)<|.iT true 23 41 m.length 7 (jK<|jB m.length (λq=>(m.getD q []).length) F x<|k+1) (kF<|jB m.length (λq=>(m.getD q []).length) F x<|k+1) .none)]) aF)
  (λhk=>by
    exact iS (af [tF 23 (((m.getD x []).length:Int)<((m.getD x []).length:Int)) aC]) aF) aI:jW 6 f167 (U3 m g cap F x 0) (.exit 2) ⟨44,true,[(15,.e<|iP x),(14,.e<|iP m.length),(13,.e<|jb m),(5,.own 12),(1,.e<|.fn g cap)],[(12,.iT true 23 41 m.length 7 (jK<|jB m.length (λq=>(m.getD q []).length) F x<|(m.getD x []).length) (kF<|jB m.length (λq=>(m.getD q []).length) F x<|(m.getD x []).length) .none)]⟩) .nil,
     iD ((x:Int)+1)]<|.e<|af [.b 12 (RM rfl:Bx.le (.iT true 23 41 m.length 7 (jK<|jB m.length (λq=>(m.getD q []).length) F x<|(m.getD x []).length) (kF<|jB m.length (λq=>(m.getD q []).length) F x<|(m.getD x []).length) .none)<|.iT true 23 41 m.length 7 (jK<|jB m.length (λq=>(m.getD q []).length) F (x+1) 0) (kF<|jB m.length (λq=>(m.getD q []).length) F (x+1) 0) .none)]) aF)
  (λhx=>by
    exact iS (af [tF 16 ((m.length:Int)<m.length) aC]) aF) aI:jW 3 f167 (U2 m g cap F 0) (.exit 0) ⟨44,true,[(5,.own 12)],[(12,.iT true 23 41 m.length 7 (jK<|jB m.length (λq=>(m.getD q []).length) F m.length 0) (kF<|jB m.length (λq=>(m.getD q []).length) F m.length 0) .none)]⟩)<|af [.b 12 (RL rfl:Bx.le (.iT true 23 41 m.length 7 (λ_=>0) (λ_ _ _=>.any) .none)<|.iT true 23 41 m.length 7 (jK<|jB m.length (λq=>(m.getD q []).length) F 0 0) (kF<|jB m.length (λq=>(m.getD q []).length) F 0 0) .none)]]<|rR (jb<|rj m.length (λq=>(m.getD q []).length) F) (by
      rw[<-NG];exact LO (NH _ _ _ _ _).symm:E.le (.sl true m.length 1 λk_ _=>.sl true ((jK<|jB m.length (λq=>(m.getD q []).length) F m.length 0) k_) 7<|(kF<|jB m.length (λq=>(m.getD q []).length) F m.length 0) k_)<|jb<|rj m.length (λq=>(m.getD q []).length) F))
end
def Rp(m:List<|List Iv)(i:Nat):(wD m).getD i []=yN (m.getD i []):=by
 unfold wD;rw[bc,bc,ch];cases m[i]? <;> rfl
def Fp.jO.AM{m:List<|List Iv}{n k:Nat}(h:jO m n k):Gz<|wD m:=by
 intro r hr x hx;obtain⟨r',h1,rfl⟩:=cC.1 hr;obtain⟨x',h2,rfl⟩:=cC.1 hx;exact(h.ok _ h1 _ h2).AM
def Fp.jO.rok{m:List<|List Iv}{n k:Nat}(h:jO m n k):GF<|wD m:=by
 have hl:(wD m).length=n:=by rw[<-h.iT];simp[wD]
 have DL:∀ i,i<n->((wD m).getD i []).length=k:=λi hi=>by rw[Rp,<-h.mQ hi];simp[yN]
 have h1:=h.n1;refine⟨by have:=h.n1;omega,by have:=h.n8;omega,by rw[DL 0 aC];exact h.k1,by rw[DL 0 aC];exact h.k8,λi hi=>by rw[DL 0 aC,DL i aC],λi hi j hj=>?_⟩;have lg:i<n:= aC ;rw[DL i lg]at hj;rw[Rp,V1];exact(h.sJ lg hj).Bp
def yI(m:List<|List Iv)(n k:Nat)(h:jO m n k):ic 122 [jb m]<|bP true:=by
 have:=akN (wD m) h.AM (by have:=h.n8;simp[wD,h.iT];omega) (λi=>by rw[Rp];have:=h.IP i;simp only[yN,cv];omega);rwa[Qv.2 h.rok,akJ]at this
def agr(i j:Nat)(x:Iv)(b:List<|List Iv)(p:Nat)(hx:x.ig)(hy:((b.getD i []).getD j ik).ig)(hi:i<b.length)(hj:j<(b.getD i []).length)(iu:8<=p)(ie:p<=512):ic 231 [iP i,iP j,im x,(.ji 1 λj_=>[.fn 73 []].getD j_ .any),(.ji 1 λj_=>[jb b].getD j_ .any),(.ji 1 λj_=>[iP p].getD j_ .any)]<|im<|je x ((b.getD i []).getD j ik) p:=
 iy (af [iX (i:Int)<|b.length,iX (j:Int)<|(b.getD i []).length,.c<|uH x ((b.getD i []).getD j ik) p aD aD])
section
variable(a b:List<|List Iv)(n k p:Nat)(ga:jO a n k)(gb:jO b n k)(iu:8<=p)(ie:p<=512)
def ags:ic 171 [jb a,jb b,iP p,.fn 73 []]<|.ix [jb<|rj a.length (λq=>(a.getD q []).length) λi j=>je ((a.getD i []).getD j ik) ((b.getD i []).getD j ik) p,iP 0]:=by
 have ra:=ga.iT;have rb:=gb.iT;have n1:=ga.n1;have n8:=ga.n8;have la:=ga.mQ (aC:0<n);have lb:=gb.mQ (aC:0<n);exact iy<|af [.c<|yI a _ _ aD,.c<|yI b _ _ aD,.c<|FO (p:Int),ah 21 (kT (p:Int))<|pH.2 ⟨aC,aC⟩,ai 28 ((a.length:Int) != (b.length:Int))<|vt,iX 0<|a.length,iX 0<|b.length,ai 38 (((a.getD 0 []).length:Int) != ((b.getD 0 []).length:Int))<|vt,.c<|YB a 231 [(.ji 1 λj_=>[.fn 73 []].getD j_ .any),(.ji 1 λj_=>[jb b].getD j_ .any),(.ji 1 λj_=>[iP p].getD j_ .any)] (λi j=>je ((a.getD i []).getD j ik) ((b.getD i []).getD j ik) p) aC (λi=>bg (ga.IP i) aE) λi j hi hj=>agr _ _ _ _ _ (ga.sJ aC<|by rw[ga.mQ aC]at hj;exact hj) (gb.sJ aC<|by rw[ga.mQ aC]at hj;exact hj) aC (by rw[gb.mQ aC];rw[ga.mQ aC]at hj;exact hj) iu ie]
def YA:ic 101 [jb a,jb b,iP p]<|.ix [jb<|Az a b p,iP 0]:=
 iy (ae [.c<|ags a b n k p ga gb iu ie]<|rQ (.ix [jb<|rj a.length (λq=>(a.getD q []).length) λi j=>je ((a.getD i []).getD j ik) ((b.getD i []).getD j ik) p,iP 0]) (.ix [jb<|Az a b p,iP 0])<|by rw[ab9 ga gb])
end
def ab6(z:Iv)(p N:Nat)(x:Nat):PS:=⟨39,true,[(8,.e<|iP ((2*x+3:Nat):Int)),(7,.box 7 0),(6,.box 6 0),(5,.box 5 0),(4,.box 4 0),(2,.box 2 0)],[(7,.cells 41<|jt<|xx z p x),(6,.cells 41<|jt<|pf z p x),(5,.cells 41<|jt<|pJ z p),(4,.cells 41 au),(2,.cells 188 [iP p])]⟩
def ap1(z:Iv)(p N:Nat)(hz:z.ig)(iu:8<=p)(ie:p<=512)(h2:N<=1000)(jH:∀ x,x<N->py (pf z p x) p=false)(hN:py (pf z p N) p=true):ic 364 [.agg [iP p],im z]<|im<|FH z p N:=by
 have hsq:=MI hz (aC:1<=p) (aC:p<=4096);have t0:=zQ hz iu ie N;have s0:=D0 hz iu ie N;have r0:=EO t0;have a0:=nS s0 r0 (aC:1<=p) (aC:p<=4096);exact iy (ae [.c<|Tu z aD p aC aC,.s (Sp.jX (ab6 z p N) 0 N aC (λx hx mH=>by
    have t0:=zQ hz iu ie x;have s0:=D0 hz iu ie x;have q0:(iL (pf z p x) (pJ z p) p).ig:=lE _ _;have n1:(iF ((2*x+3:Nat):Int)).ig:=tN _;have d1:(jh (iL (pf z p x) (pJ z p) p) (iF ((2*x+3:Nat):Int)) p).ig:=oI _ _;exact iS (ae [.c<|MY p (pf z p x) aD,ai 17 (py (pf z p x) p)<|jH x aC,.c<|MX p (pf z p x) (pJ z p) aD aD,.c<|yW ((2*x+3:Nat):Int),.c<|JS p (iL (pf z p x) (pJ z p) p) (iF ((2*x+3:Nat):Int)) aD aD,.c<|CT p (xx z p x) (jh (iL (pf z p x) (pJ z p) p) (iF ((2*x+3:Nat):Int)) p) aD aD,iD<|((2*x+3:Nat):Int)+2]<|.e<|af [.o 8<|aq (((2*x+3)+2:Nat):Int) ((2*(x+1)+3:Nat):Int) aO,.b 7<|.refl<|.cells 41<|jt<|xx z p<|x+1,.b 6<|.refl<|.cells 41<|jt<|pf z p<|x+1]) aF)
  (λhx=>by
    have t0:=zQ hz iu ie N;have s0:=D0 hz iu ie N;have q0:(iL (pf z p N) (pJ z p) p).ig:=lE _ _;have n1:(iF ((2*N+3:Nat):Int)).ig:=tN _;have d1:(jh (iL (pf z p N) (pJ z p) p) (iF ((2*N+3:Nat):Int)) p).ig:=oI _ _;exact iS (af [.c<|MY p (pf z p N) aD,ah 17 (py (pf z p N) p) hN]) aF) aI:jW 4 f364 (ab6 z p N 0) (.exit 0) ⟨39,true,[(7,.box 7 0),(6,.box 6 0),(4,.box 4 0),(2,.box 2 0)],[(7,.cells 41<|jt<|xx z p N),(6,.cells 41<|jt<|pf z p N),(4,.cells 41 au),(2,.cells 188 [iP p])]⟩)<|af [.o 8<|aq 3 ((2*0+3:Nat):Int) aO,.b 7<|.refl<|.cells 41<|jt<|xx z p 0,.b 6<|.refl<|.cells 41<|jt<|pf z p 0],.c<|acg (pf z p N) aD,.c<|CT p (xx z p N) (rH<|pf z p N) aD aD,.c<|Ki (je (xx z p N) (rH<|pf z p N) p) aD 1]<|rR (im<|FH z p N) (.refl _:E.le (im<|mR (je (xx z p N) (rH<|pf z p N) p) 1)<|im<|FH z p N))
def EH(f:Nat->Rat)(X:Iv):Prop:=∃ N0,∀ M,N0<=M->X.jr (f M)
def EH.mono{f:Nat->Rat}{X Y:Iv}(h:EH f X)(k:∀ r,X.jr r->Y.jr r):EH f Y:=h.imp λ_ h M hM=>k _<|h M hM
def ab7{z:Iv}(hz:z.ig)(hb:z.all=true\/Sub z (qj (-1))){p:Nat}(iu:8<=p)(ie:p<=512):∃ Z,Z.ig/\(∀ r,z.jr r->iY r*2<=1->EH (λM=>AQ r M*2) Z)/\ic 364 [.agg [iP p],im z] (im Z):=by
 obtain⟨N,h1,h2,h3⟩:=akb hz hb iu ie;exact⟨FH z p N,aka hz iu ie N,λr hr ha=>⟨N,λM hM=>aj9 hz hr ha iu ie h1 M hM⟩,ap1 z p N hz iu ie h1 h2 h3⟩
def ao8{p:Nat}(iu:8<=p)(ie:p<=512):(jh (iF 1) (iF 3) p).ig/\(jh (iF 1) (iF 3) p).jr (1/3)/\Sub (jh (iF 1) (iF 3) p) (qj (-1)):=by
 have v1:(iF 1).ig:=xF aE;have v3:(iF 3).ig:=xF aE;have h1:=vy 1;have h3:=vy 3;refine⟨oI _ _,?_,?_⟩
 .have:=AH v1 v3 (p:=p) aC aC h1 h3;rwa[show((1:Int):Rat)/((3:Int):Rat)=1/3 from rfl]at this
 .have hs:mV (iF 3)≠0:=JF rfl (.inl<|by show 0<(iU 3).q;rw[yM];decide);refine GQ (B2 v1 v3 rfl hs (p:=p) aC aC) aC aE aE ?_;rintro r ⟨a,b,ha,hb,rfl⟩;obtain⟨a1,a2⟩:=ha.jj rfl;obtain⟨b1,b2⟩:=hb.jj rfl;change (iU 1).q<=a at a1;change a<=(iU 1).q at a2;change (iU 3).q<=b at b1;change b<=(iU 3).q at b2;rw[yM]at a1 a2 b1 b2;have ea:a=1:=fY a2 a1;have eb:b=3:=fY b2 b1;subst ea eb;have:P2 (-1)=1/2:= aL ;rw[this];exact⟨aL,aL⟩
def aqh(p:Nat)(Z:Iv)(hZ:Z.ig)(hL:ic 364 [.agg [iP (((min (p+16) 512):Nat):Int)],im<|jh (iF 1) (iF 3)<|min (p+16) 512]<|im Z)(iu:8<=p)(ie:p<=512):ic 365 [iP p]<|im<|lZ Z p:=by
 have v1:(iF 1).ig:=xF aE;have v3:(iF 3).ig:=xF aE;exact iy<|af [tF 5 ((p:Int)<8) aC,tF 8 (512<(p:Int)) aC,.c<|Sw p 16 aC aC,.c<|yW 1,.c<|yW 3,.c<|JS (min (p+16) 512) (iF 1) (iF 3) aD aD,ag [.agg [iP ((min (p+16) 512:Nat):Int)],im<|jh (iF 1) (iF 3)<|min (p+16) 512] hL,.c<|GO Z aD p]
def aqg{p:Nat}(iu:8<=p)(ie:p<=512):∃ Z,Z.ig/\EH (λM=>AQ (1/3) M*2) Z/\ic 365 [iP (p:Int)] (im Z):=by
 obtain⟨t1,t2,t3⟩:=ao8 (p:=min (p+16) 512) aC aC;obtain⟨Z,h1,h2,h3⟩:=ab7 t1 (.inr t3) (p:=min (p+16) 512) aC aC;refine⟨lZ Z p,F9 h1,(h2 _ t2 aL).mono λr hr=>Jx h1 aC aC hr,aqh p Z h1 h3 iu ie⟩
def Ao:Iv:=⟨iR,iR,false⟩
def aco:E.le (.agg au)<|im Ao:=
 .agg (.cons (.refl _)<|.cons zZ<|.cons (.refl _)<|.cons (.refl _)<|.cons zZ<|.cons (.refl _)<|.cons (.refl _) .nil)
def aqm(d:Dy)(p:Nat)(hd:d.ig)(h1:jm d ⟨false,1,0⟩=0)(iu:8<=p)(ie:p<=512):ic 351 [iw d,iP p]<|im Ao:=by
 have v1:=FZ;exact iy<|ae [ag [iP 1] Nx,.c<|mF d (Dy.mk false 1 0) aD aD,ah 12 ((jm d<|Dy.mk false 1 0)==0)<|by rw[h1];rfl]<|rR (im Ao) (aco:E.le (.agg au)<|im Ao)
def aqn(d:Dy)(p:Nat)(Z Y:Iv)(hd:d.ig)(h1:¬jm d ⟨false,1,0⟩=0)(Xg:-20000<=d.iz)(tI:d.iz<=20000)(hZ:Z.ig)(hY:Y.ig)(hL:ic 364 [.agg [iP (((min (p+40) 512):Nat):Int)],im<|jh (je (mR (lZ (iJ d)<|min (p+40) 512)<|0-(Dy.iz d)) (iF (-1))<|min (p+40) 512) (je (mR (lZ (iJ d)<|min (p+40) 512)<|0-(Dy.iz d)) (iF 1)<|min (p+40) 512)<|min (p+40) 512]<|im Z)(hL2:ic 365 [iP (((min (p+40) 512):Nat):Int)]<|im Y)(iu:8<=p)(ie:p<=512):ic 351 [iw d,iP p]<|im<|lZ (je Z (iL (iF d.iz) Y<|min (p+40) 512)<|min (p+40) 512) p:=by
 have v1:=FZ;have vp:=oP hd;have vr:(lZ (iJ d)<|min (p+40) 512).ig:=F9 vp;have vs:(mR (lZ (iJ d)<|min (p+40) 512)<|0-(Dy.iz d)).ig:=JB vr _;have n1:(iF 1).ig:=xF aE;have n2:(iF (-1)).ig:=xF aE;have a1:(je (mR (lZ (iJ d)<|min (p+40) 512)<|0-(Dy.iz d)) (iF (-1))<|min (p+40) 512).ig:=nS vs n2 aC aC;have a2:(je (mR (lZ (iJ d)<|min (p+40) 512)<|0-(Dy.iz d)) (iF 1)<|min (p+40) 512).ig:=nS vs n1 aC aC;have a3:(jh (je (mR (lZ (iJ d)<|min (p+40) 512)<|0-(Dy.iz d)) (iF (-1))<|min (p+40) 512) (je (mR (lZ (iJ d)<|min (p+40) 512)<|0-(Dy.iz d)) (iF 1)<|min (p+40) 512)<|min (p+40) 512).ig:=oI _ _;have nt:(iF d.iz).ig:=xF aC;have m1:(iL (iF d.iz) Y<|min (p+40) 512).ig:=lE _ _;have m2:(je Z (iL (iF d.iz) Y<|min (p+40) 512)<|min (p+40) 512).ig:=nS hZ m1 aC aC;exact iy<|af [ag [iP 1] Nx,.c<|mF d (Dy.mk false 1 0) aD aD,ai 12 ((jm d<|Dy.mk false 1 0)==0)<|by simpa using h1,.c<|Sw p 40 aC aC,.c<|oo d aD,.c<|rO d aD,.c<|GO (iJ d) aD<|min (p+40) 512,iD<|0-(Dy.iz d),.c<|Ki (lZ (iJ d)<|min (p+40) 512) aD<|0-(Dy.iz d),.c<|yW (-1),.c<|CT (min (p+40) 512) (mR (lZ (iJ d)<|min (p+40) 512)<|0-(Dy.iz d)) (iF (-1)) aD aD,.c<|yW 1,.c<|CT (min (p+40) 512) (mR (lZ (iJ d)<|min (p+40) 512)<|0-(Dy.iz d)) (iF 1) aD aD,.c<|JS (min (p+40) 512) (je (mR (lZ (iJ d)<|min (p+40) 512)<|0-(Dy.iz d)) (iF (-1))<|min (p+40) 512) (je (mR (lZ (iJ d)<|min (p+40) 512)<|0-(Dy.iz d)) (iF 1)<|min (p+40) 512) aD aD,ag [.agg [iP ((min (p+40) 512:Nat):Int)],im<|jh (je (mR (lZ (iJ d)<|min (p+40) 512)<|0-(Dy.iz d)) (iF (-1))<|min (p+40) 512) (je (mR (lZ (iJ d)<|min (p+40) 512)<|0-(Dy.iz d)) (iF 1)<|min (p+40) 512)<|min (p+40) 512] hL,.c<|yW<|Dy.iz d,ag [iP ((min (p+40) 512:Nat):Int)] hL2,.c<|MX (min (p+40) 512) (iF<|Dy.iz d) Y aD aD,.c<|CT (min (p+40) 512) Z (iL (iF<|Dy.iz d) Y<|min (p+40) 512) aD aD,.c<|GO (je Z (iL (iF<|Dy.iz d) Y<|min (p+40) 512)<|min (p+40) 512) aD p]
def acn{d:Dy}(hd:d.ig)(hq:0<d.q){p:Nat}(iu:8<=p)(ie:p<=512):∃ Z,Z.ig/\EH (LQ d) Z/\ic 351 [iw d,iP (p:Int)] (im Z):=by
 by_cases h1:jm d ⟨false,1,0⟩=0
 .refine ⟨Ao,.inr ⟨rfl,qu,qu,DZ _⟩,⟨0,λM _=>?_⟩,aqm d p hd h1 iu ie⟩;have e:d=⟨false,1,0⟩:=by
   refine amk hd.canon FZ.canon<|fY ((pg _ _).1 aC)<|(pg _ _).1 ?_;rw[C6];have:=C6 d ⟨false,1,0⟩;omega
  rw[e,acz];exact .inr ⟨by show iR.q<=0;rw[s6];exact bV,by show 0<=iR.q;rw[s6];exact bV⟩
 .have hm:=F3 hq;obtain⟨t1,t2⟩:=abK hd hm;obtain⟨P,hP⟩:∃ P,P=min (p+40) 512:=⟨_,rfl⟩
  have p1:8<=P:= aC ;have p2:P<=512:= aC ;obtain⟨z1,z2,z3⟩:=aky hd hq p1 p2;obtain⟨Z,a1,a2,a3⟩:=ab7 z1 z3 p1 p2;obtain⟨Y,b1,b2,b3⟩:=aqg p1 p2;have m1:(iL (iF d.iz) Y P).ig:=lE _ _;have m2:=nS a1 m1 (p:=P) aC aC;refine⟨lZ (je Z (iL (iF d.iz) Y P) P) p,F9 m2,?_,?_⟩
  .have hz:=Sz hq;have ha:iY (BJ d)*2<=1:=by
    have:=tZ (x:=BJ d) (b:=1/3) aK aK 
    grind
   obtain⟨N1,c1⟩:=a2 _ z2 ha;obtain⟨N2,c2⟩:=b2;refine⟨max N1 N2,λM hM=>Jx m2 aC aC ?_⟩;exact vJ a1 m1 aC aC (c1 M aC)<|zU (xF aC) b1 aC aC (vy d.iz)<|c2 M aC
  .subst hP;have e:FK d (min (p+40) 512)=jh (je (mR (lZ (iJ d)<|min (p+40) 512)<|0-(Dy.iz d)) (iF (-1))<|min (p+40) 512) (je (mR (lZ (iJ d)<|min (p+40) 512)<|0-(Dy.iz d)) (iF 1)<|min (p+40) 512) (min (p+40) 512):=by unfold FK vq;rw[(aC:-d.iz=0-d.iz)]
   rw[e]at a3;exact aqn d p Z Y hd h1 aC aC a1 b1 a3 b3 iu ie
section
variable(x:Iv)(p:Nat)(hx:x.ig)(iu:8<=p)(ie:p<=512)
def aqi(xa:x.all=true):ic 318 [im x,iP p]<|im ik:=
 iy (af [.c<|EG x p aD,ai 7 (!x.all)<|by rw[xa];rfl,.c nu])
def aql(xa:x.all=false)(h1:x.lo.jc<=0):ic 318 [im x,iP p]<|im ik:=by
 obtain⟨w1,w2⟩:=hx.jj;exact iy<|af [.c<|EG x p aD,ah 7 (!x.all)<|by rw[xa];rfl,.c<|nL x.lo aD,tB 13<|aZ h1,.c nu]
def aqk(xa:x.all=false)(h1:¬x.lo.jc<=0)(Z1 Z2:Iv)(z1:Z1.ig)(z2:Z2.ig)(k1:ic 351 [iw x.lo,iP (p:Int)]<|im Z1)(k2:ic 351 [iw x.hi,iP (p:Int)]<|im Z2):ic 318 [im x,iP p]<|im<|tp Z1 Z2:=by
 obtain⟨w1,w2⟩:=hx.jj;exact iy<|af [.c<|EG x p aD,ah 7 (!x.all)<|by rw[xa];rfl,.c<|nL x.lo aD,tB 13<|a6 h1,ag [iw x.lo,iP p] k1,ag [iw x.hi,iP p] k2,.c<|ach Z1 Z2 aD aD]
end
def aqj{x:Iv}(hx:x.ig){p:Nat}(iu:8<=p)(ie:p<=512):∃ Z,Z.ig/\ic 318 [im x,iP (p:Int)] (im Z):=by
 cases xa:x.all with
 |true=>exact⟨ik,kR,aqi x p hx iu ie xa⟩
 |false=>
  by_cases h1:x.lo.jc<=0
  .exact ⟨ik,kR,aql x p hx iu ie xa h1⟩
  .obtain ⟨w1,w2⟩:=hx.jj;have q1:0<x.lo.q:=(rX _).1.1 aC;have q2:0<x.hi.q:=by have:=hx.q;grind
   obtain⟨Z1,z1,⟨N1,l1⟩,k1⟩:=acn w1 q1 iu ie;obtain⟨Z2,z2,⟨N2,l2⟩,k2⟩:=acn w2 q2 iu ie;refine⟨tp Z1 Z2,Oi z1 z2 λa b=>?_,aqk x p hx iu ie xa h1 Z1 Z2 z1 z2 k1 k2⟩;have e1:=((l1 (max N1 N2) aC).jj a).1;have e2:=((l2 (max N1 N2) aC).jj b).2;have e3:=acy q1 hx.q<|max N1 N2;exact bw e1<|bw e3 e2
def wj(a s:Nat):Prop:=s*s<=a/\a<(s+1)*(s+1)
def aat(a:Nat):∃ s,wj a s:=by
 induction a with
 |zero=>exact⟨0,aE,aE⟩
 |succ a ih=>
  obtain⟨s,h1,h2⟩:=ih;by_cases h:(s+1)*(s+1)<=a+1
  .refine ⟨s+1,h,?_⟩;have:(s+1+1)*(s+1+1)=(s+1)*(s+1)+2*(s+1)+1:=by
    simp only[bL,bW,bN,b6];omega
   omega
  .exact ⟨s,aC,aC⟩
def ang{a s t:Nat}(h:wj a s)(ht:t*t<=a):t<=s:=by
 apply bQ;intro iE;have:=dB (aC:s+1<=t) (aC:s+1<=t);have:=h.2;omega
def qq(a x:Nat):Nat:=(x+a/x)/2
section
variable{a s x:Nat}(h:wj a s)(hx:0<x)
def alo:s<=qq a x:=by
 unfold qq;apply bQ;intro iE;have h1:x+a/x<2*s:=by generalize a/x=q at *;omega
 have h2:a<(a/x+1)*x:=by
  have:=cL a x;have:=bJ a hx;rw[bL,bN,bI<|a/x];omega
 have hq:a/x+1<=2*s-x/\x<=2*s:=by
  generalize a/x=q at *
  omega
 have h3:(a/x+1)*x<=(2*s-x)*x:=bG x hq.1;have aqG:=hq.2;have h4:(2*s-x)*x<=s*s:=by
  obtain⟨k,hk⟩:∃ k,2*s=x+k:=⟨2*s-x,by clear h1 h2 h3 iE hq;omega⟩
  rw[show 2*s-x=k by clear h1 h2 h3 iE hq;omega];clear h1 h2 h3 iE hq;rcases Nat.le_total x s with qc|qc
  .obtain ⟨e,rfl⟩:∃ e,s=x+e:=⟨s-x,aC⟩
   obtain rfl:k=x+2*e:= aC ;simp only[bL,bW,bI x e,bB];have:0<=e*e:=b7 _;have e1:e*(2*x)=2*(e*x):=en e 2 x;omega
  .obtain ⟨e,rfl⟩:∃ e,x=s+e:=⟨x-s,aC⟩
   obtain⟨f,hf⟩:∃ f,s=k+f:=⟨s-k,aC⟩
   obtain rfl:f=e:= aC ;subst hf;simp only[bL,bW,bI f k];have:0<=f*f:=b7 _;omega
 have:=h.1;omega
def aln(hs:s<=x)(hy:x<=qq a x):x=s:=by
 have h1:x<=a/x:=by unfold qq at hy;omega
 have h2:x*x<=a:=(dp hx).1 h1;have:=ang h h2;omega
end
def ky(a x:Nat):Nat->Nat
 | 0=>x
 |k+1=>qq a<|ky a x k
def anh(a:Nat){s:Nat}(h:wj a s):s<=2^((iq a+1)/2):=by
 apply bQ;intro iE;have h1:(2^((iq a+1)/2))*(2^((iq a+1)/2))<=s*s:=dB aC aC;rw[<-bj]at h1;have h2:=sc a;have h3:2^iq a<=2^((iq a+1)/2+(iq a+1)/2):=bO aE aC;have:=h.1;omega
def anf{a x s:Nat}(h:wj a s)(ha:0<a)(hx:s<=x):∃ N,N<=x/\(∀ k,k<N->qq a (ky a x k)<ky a x k)/\ky a x N<=qq a (ky a x N)/\ky a x N=s/\∀ k,k<=N->s<=ky a x k/\ky a x k<=x:=by
 have hs:0<s:=by
  apply bQ;intro h0;obtain rfl:s=0:= aC ;have:=h.2;omega
 have sA:∀ k,s<=ky a x k:=λk=>by
  induction k with
  |zero=>exact hx
  |succ k ih=>exact alo h aC 
 have hex:∃ k,k<x+1/\decide (ky a x k<=qq a (ky a x k))=true:=by
  apply bQ;intro hc;have hd:∀ k,k<x+1->qq a (ky a x k)<ky a x k:=λk hk=>by
   apply bQ;intro q;exact hc ⟨k,hk,aZ aC⟩
  have hb:∀ k,k<=x+1->ky a x k+k<=x:=by
   intro k hk
   induction k with
   |zero=>exact a7 _
   |succ k ih=>
    have:=ih aC;have:=hd k aC;show qq a (ky a x k)+(k+1)<=x;omega
  have:=hb (x+1)<|a7 _;omega
 obtain⟨N,n1,n2,n3⟩:=sD hex;have n2':=cN n2;have iE:∀ k,k<N->qq a (ky a x k)<ky a x k:=λk hk=>by
  have:=gK<|n3 k hk;omega
 have hle:∀ k,k<=N->ky a x k<=x:=by
  intro k hk
  induction k with
  |zero=>exact a7 _
  |succ k ih=>
   have:=ih aC;have:=iE k aC;show qq a (ky a x k)<=x;omega
 have e:=aln h (by have:=sA N;omega) (sA N) n2';exact⟨N,aC,iE,n2',e,λk hk=>⟨sA k,hle k hk⟩⟩
section
variable(m s:Nat)(e:Int)(p:Nat)(up:Bool)
def wI:Dy:=j9 false s e (decide (s*s≠m)) p up
def BB:Int:=jY false s e (decide (s*s≠m)) p up
end
section
variable{m s:Nat}{e:Int}{p:Nat}
def aon(h:wj m s)(hb:p<iq s)(hp:1<=p)(ie:p<=4096)(he:BB m s e p false=0):0<=(wI m s e p false).q/\(wI m s e p false).q<=(s:Rat)*P2 e:=by
 unfold wI BB at *
 by_cases hx:s*s=m
 .rw [a6 aC]at he ⊢;have A:=G5 false s e hp ie;rw[si]at A;simp only[bC,bh]at A;exact⟨(A.2 0 (.inl<|Ap p)<|bH cR<|bE<|nJ e).2,(A.1 he).2⟩
 .rw [aZ aC]at he ⊢;obtain⟨h1,h2⟩:=E3 e hb false false;rw[h1];rw[h2]at he;have A:=G5 false (2*s+1) (e-1) hp ie;rw[si]at A;simp only[bC,bh]at A;have h0:=(A.2 0 (.inl<|Ap p)<|bH cR<|bE<|nJ<|e-1).2;obtain⟨g,hl⟩:=A.1 he;refine⟨h0,?_⟩;rcases OI (e:=e) hb (g.pos h0)with k|k
  .exact k
  .exfalso;have ee:P2 e=P2 (e-1)*2:=by
    have:=rG (e-1) 1;rw[(aC:e-1+1=e),show P2 1=2 by decide +kernel]at this;exact this
   have yA:=nJ<|e-1;have c1:((2*s+1:Nat):Rat)=2*(s:Rat)+1:=by rw[dJ,dr];rfl
   have c2:((s+1:Nat):Rat)=(s:Rat)+1:=by rw[dJ];rfl
   rw[c1]at hl;rw[c2,ee]at k
   grind
def aom(h:wj m s)(hb:p<iq s)(hp:1<=p)(ie:p<=4096)(he:BB m s e p true=0):0<=(wI m s e p true).q/\(m:Rat)*(P2 e*P2 e)<=(wI m s e p true).q*(wI m s e p true).q:=by
 have yA:=nJ e;have s0:(0:Rat)<=(s:Rat):=cR;have key:∀ D:Rat,(s:Rat)*P2 e<=D->(s*s≠m->((s+1:Nat):Rat)*P2 e<=D)->0<=D/\(m:Rat)*(P2 e*P2 e)<=D*D:=by
  intro D h1 h2;have d0:0<=D:=bw (bH s0<|bE yA) h1;refine⟨d0,?_⟩;have sq:∀ t:Nat,m<=t*t->(t:Rat)*P2 e<=D->(m:Rat)*(P2 e*P2 e)<=D*D:=by
   intro t ht hD;have t0:(0:Rat)<=(t:Rat):=cR;have c:(m:Rat)<=(t:Rat)*(t:Rat):=by
    have:=dC.2 ht;rwa[dr]at this
   have m1:=b8 c<|bH (bE yA)<|bE yA;have m2:=b8 hD<|bH t0<|bE yA;have m3:=bY hD d0;generalize (t:Rat)=T at *
   generalize P2 e=P at *
   have e1:T*T*(P*P)=T*P*(T*P):= aK 
   grind
  by_cases hx:s*s=m
  .exact sq s aC h1
  .exact sq (s+1) (by have:=h.2;omega)<|h2 hx
 unfold wI BB at *
 by_cases hx:s*s=m
 .rw [a6 aC]at he ⊢;have A:=G6 false s e hp ie;rw[si]at A;simp only[bC,bh]at A;exact key _ (A.1 he).2 λq=>absurd hx q
 .rw [aZ aC]at he ⊢;obtain⟨h1,h2⟩:=E3 e hb false true;rw[h1];rw[h2]at he;have A:=G6 false (2*s+1) (e-1) hp ie;rw[si]at A;simp only[bC,bh]at A;obtain⟨g,hl⟩:=A.1 he;have ee:P2 e=P2 (e-1)*2:=by
   have:=rG (e-1) 1;rw[(aC:e-1+1=e),show P2 1=2 by decide +kernel]at this;exact this
  have iu:=nJ<|e-1;have c1:((2*s+1:Nat):Rat)=2*(s:Rat)+1:=by rw[dJ,dr];rfl
  rw[c1]at hl;have h0:0<=(j9 false (2*s+1) (e-1) false p true).q:=bw (bH aK<|bE iu) hl;have iE:(s:Rat)*P2 e<(j9 false (2*s+1) (e-1) false p true).q:=by rw[ee];grind
  refine key _ (bE iE) λ_=>?_
  rcases OI (e:=e) hb (g.pos h0)with k|k
  .exact absurd iE<|dt.2 k
  .exact k
end
def aoo{a b:Rat}(ha:0<=a)(hb:0<=b)(h:a*a<=b*b):a<=b:=by
 apply dt.1;intro iE;have m1:=bY (bE iE) hb;have m2:=eC iE<|show 0<a by grind
 grind
def aop{m s n t:Nat}{e f:Int}{p:Nat}(h:wj m s)(k:wj n t)(hb:p<iq s)(kb:p<iq t)(hp:1<=p)(ie:p<=4096)(hle:(m:Rat)*(P2 e*P2 e)<=(n:Rat)*(P2 f*P2 f)):
 (lH (wI m s e p false) (BB m s e p false) (wI n t f p true)<|BB n t f p true).ig:=by
 unfold lH;split
 .exact kR
 .rename_i he;obtain⟨a0,a1⟩:=aon (e:=e) h hb hp ie aC;obtain⟨b0,b1⟩:=aom (e:=f) k kb hp ie aC;refine .inr ⟨rfl,tn _ _ _ _ _ _ hp ie,tn _ _ _ _ _ _ hp ie,?_⟩;rw[pg];refine aoo a0 b0 ?_;have s0:(0:Rat)<=(s:Rat):=cR;have yA:=nJ e;have m1:=bY a1 a0;have m2:=b8 a1<|bH s0<|bE yA;have c:(s:Rat)*(s:Rat)<=(m:Rat):=by
   have:=dC.2 h.1;rwa[dr]at this
  have m3:=b8 c<|bH (bE yA)<|bE yA;generalize (wI m s e p false).q=A at *
  generalize (s:Rat)=S at *
  generalize P2 e=P at *
  have e1:S*S*(P*P)=S*P*(S*P):= aK 
  grind
end Go.Proofs.YtjkmahljfblobaaGreatDoor
