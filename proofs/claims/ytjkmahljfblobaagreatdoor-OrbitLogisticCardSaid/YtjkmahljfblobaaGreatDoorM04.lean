/- Lemmas that the last file uses. -/
import Derived.Test.YtjkmahljfblobaaGreatDoorM03
import Derived.MapKept
import Derived.DeepKeys
set_option linter.unusedSimpArgs false
set_option linter.unusedVariables false
set_option linter.defProp false
set_option maxHeartbeats 4000000
open Go.Proofs.Tryz
namespace Go.Proofs.YtjkmahljfblobaaGreatDoor
open Go.RowKit Fp Pu
def adG(x y:Iv)(p:Nat)(gd gu:FuncId)(DD:Dy->Dy->Bool->Dy)(EE:Dy->Dy->Bool->Int):PS:=⟨96,true,[(41,.e (iP 0)),(40,.e (.agg (iQ (Iv.mk x.lo y.lo x.lo.neg)++[iz (ia x.lo.m),iP x.lo.e]++iQ (Iv.mk y.hi x.hi y.lo.neg)++[iz (ia y.lo.m),iP y.lo.e]++jt x.hi++jt y.hi))),(12,.box 12 0),(10,.box 10 0),(2,.e (iP p)),(3,.e (.fn gd [])),(4,.e (.fn gu []))],[(12,.cells 41 (iQ (Iv.mk (DD x.lo y.lo false) (DD x.lo y.lo true) false))),(10,.cells 41 aq)]⟩
def adH(x y:Iv)(p:Nat)(gd gu:FuncId)(DD:Dy->Dy->Bool->Dy)(EE:Dy->Dy->Bool->Int):PS:=⟨96,true,[(41,.e (iP (0+1))),(40,.e (.agg (iQ (Iv.mk x.lo y.lo x.lo.neg)++[iz (ia x.lo.m),iP x.lo.e]++iQ (Iv.mk y.hi x.hi y.lo.neg)++[iz (ia y.lo.m),iP y.lo.e]++jt x.hi++jt y.hi))),(12,.box 12 0),(10,.box 10 0),(2,.e (iP p)),(3,.e (.fn gd [])),(4,.e (.fn gu []))],[(12,.cells 41 (iQ (Iv.mk (jy (DD x.lo y.lo false) (DD x.lo y.hi false)) (jv (DD x.lo y.lo true) (DD x.lo y.hi true)) false))),(10,.cells 41 aq)]⟩
def adI(x y:Iv)(p:Nat)(gd gu:FuncId)(DD:Dy->Dy->Bool->Dy)(EE:Dy->Dy->Bool->Int):PS:=⟨96,true,[(41,.e (iP ((0+1)+1))),(40,.e (.agg (iQ (Iv.mk x.lo y.lo x.lo.neg)++[iz (ia x.lo.m),iP x.lo.e]++iQ (Iv.mk y.hi x.hi y.lo.neg)++[iz (ia y.lo.m),iP y.lo.e]++jt x.hi++jt y.hi))),(12,.box 12 0),(10,.box 10 0),(2,.e (iP p)),(3,.e (.fn gd [])),(4,.e (.fn gu []))],[(12,.cells 41 (iQ (Iv.mk (jy (jy (DD x.lo y.lo false) (DD x.lo y.hi false)) (DD x.hi y.lo false)) (jv (jv (DD x.lo y.lo true) (DD x.lo y.hi true)) (DD x.hi y.lo true)) false))),(10,.cells 41 aq)]⟩
def adJ(x y:Iv)(p:Nat)(gd gu:FuncId)(DD:Dy->Dy->Bool->Dy)(EE:Dy->Dy->Bool->Int):PS:=⟨96,true,[(41,.e (iP (((0+1)+1)+1))),(40,.e (.agg (iQ (Iv.mk x.lo y.lo x.lo.neg)++[iz (ia x.lo.m),iP x.lo.e]++iQ (Iv.mk y.hi x.hi y.lo.neg)++[iz (ia y.lo.m),iP y.lo.e]++jt x.hi++jt y.hi))),(12,.box 12 0),(10,.box 10 0),(2,.e (iP p)),(3,.e (.fn gd [])),(4,.e (.fn gu []))],[(12,.cells 41 (iQ (Iv.mk (jy (jy (jy (DD x.lo y.lo false) (DD x.lo y.hi false)) (DD x.hi y.lo false)) (DD x.hi y.hi false)) (jv (jv (jv (DD x.lo y.lo true) (DD x.lo y.hi true)) (DD x.hi y.lo true)) (DD x.hi y.hi true)) false))),(10,.cells 41 aq)]⟩
def Tw(x y:Iv)(p:Nat)(gd gu:FuncId)(DD:Dy->Dy->Bool->Dy)(EE:Dy->Dy->Bool->Int)(hd:∀ a b,(a=x.lo\/a=x.hi)->(b=y.lo\/b=y.hi)->gW gd [ib a,ib b,iP (p:Int)] (.ik [ib (DD a b false),iP (EE a b false)]))
  (hu:∀ a b,(a=x.lo\/a=x.hi)->(b=y.lo\/b=y.hi)->gW gu [ib a,ib b,iP (p:Int)] (.ik [ib (DD a b true),iP (EE a b true)])) (hv:∀ a b up,(DD a b up).ic):gW 119 [ix x,ix y,iP p,.fn gd [],.fn gu []] (ix (pk DD EE x y)):=by
 exact aj call119 func119 (aa [.u 5,ag 42 (decide ((0:Int)<4)) aC]<|.w ((EE x.lo y.lo false)=0)
  (λk1=>.w ((EE x.lo y.lo true)=0)
   (λk2=>aa [.j 3 (adG x y p gd gu DD EE)
   (ae [iX 0 4 aA,iX 0 2 aA,iX 1 2 aA,.c (hd _ _ (.inl rfl) (.inl rfl):gW gd ((ib x.lo)::(ib y.lo)::(iP p)::[]) _),iX 0 2 aA,iX 1 2 aA,.c (hu _ _ (.inl rfl) (.inl rfl):gW gu ((ib x.lo)::(ib y.lo)::(iP p)::[]) _),tB 66 (bc k1),tB 69 (bc k2),ag 73 ((0:Int)==0) aC,ag 84 ((0:Int)==0) aC]),
    iA (0+1) aA,ag 42 (decide (((0+1):Int)<4)) aC]<|.w ((EE x.lo y.hi false)=0)
    (λk3=>.w ((EE x.lo y.hi true)=0)
     (λk4=>aa [.j 3 (adH x y p gd gu DD EE)
   (aa [iX (0+1) 4 aA,iX 0 2 aA,iX 1 2 aA,.c (hd _ _ (.inl rfl) (.inr rfl):gW gd ((ib x.lo)::(ib y.hi)::(iP p)::[]) _),iX 0 2 aA,iX 1 2 aA,.c (hu _ _ (.inl rfl) (.inr rfl):gW gu ((ib x.lo)::(ib y.hi)::(iP p)::[]) _),tB 66 (bc k3),tB 69 (bc k4),ah 73 (((0+1):Int)==0) aC,af [ib (DD x.lo y.hi false),ib (DD x.lo y.lo false)] (pK _ _ (hv _ _ _) (hv _ _ _))]<|.w ((ke (DD x.lo y.hi false) (DD x.lo y.lo false))<0)
    (λm1=>aa [tB 79 (bn m1),ah 84 (((0+1):Int)==0) aC,af [ib (DD x.lo y.hi true),ib (DD x.lo y.lo true)] (pK _ _ (hv _ _ _) (hv _ _ _))]<|.w (0<(ke (DD x.lo y.hi true) (DD x.lo y.lo true)))
     (λm2=>aa [tB 90 (bn m2)]<|.e (ae [.b 12 (.iD (by rw[show jy (DD x.lo y.lo false) (DD x.lo y.hi false)=(DD x.lo y.hi false)from bj m1,show jv (DD x.lo y.lo true) (DD x.lo y.hi true)=(DD x.lo y.hi true)from bj m2]):Bx.le (.cells 41 (iQ (Iv.mk (DD x.lo y.hi false) (DD x.lo y.hi true) false))) (.cells 41 (iQ (Iv.mk (jy (DD x.lo y.lo false) (DD x.lo y.hi false)) (jv (DD x.lo y.lo true) (DD x.lo y.hi true)) false))))]))
     (λm2=>aa [tB 90 (bp m2)]<|.e (ae [.b 12 (.iD (by rw[show jy (DD x.lo y.lo false) (DD x.lo y.hi false)=(DD x.lo y.hi false)from bj m1,show jv (DD x.lo y.lo true) (DD x.lo y.hi true)=(DD x.lo y.lo true)from bh m2]):Bx.le (.cells 41 (iQ (Iv.mk (DD x.lo y.hi false) (DD x.lo y.lo true) false))) (.cells 41 (iQ (Iv.mk (jy (DD x.lo y.lo false) (DD x.lo y.hi false)) (jv (DD x.lo y.lo true) (DD x.lo y.hi true)) false))))])))
    (λm1=>aa [tB 79 (bp m1),ah 84 (((0+1):Int)==0) aC,af [ib (DD x.lo y.hi true),ib (DD x.lo y.lo true)] (pK _ _ (hv _ _ _) (hv _ _ _))]<|.w (0<(ke (DD x.lo y.hi true) (DD x.lo y.lo true)))
     (λm2=>aa [tB 90 (bn m2)]<|.e (ae [.b 12 (.iD (by rw[show jy (DD x.lo y.lo false) (DD x.lo y.hi false)=(DD x.lo y.lo false)from bh m1,show jv (DD x.lo y.lo true) (DD x.lo y.hi true)=(DD x.lo y.hi true)from bj m2]):Bx.le (.cells 41 (iQ (Iv.mk (DD x.lo y.lo false) (DD x.lo y.hi true) false))) (.cells 41 (iQ (Iv.mk (jy (DD x.lo y.lo false) (DD x.lo y.hi false)) (jv (DD x.lo y.lo true) (DD x.lo y.hi true)) false))))]))
     (λm2=>aa [tB 90 (bp m2)]<|.e (ae [.b 12 (.iD (by rw[show jy (DD x.lo y.lo false) (DD x.lo y.hi false)=(DD x.lo y.lo false)from bh m1,show jv (DD x.lo y.lo true) (DD x.lo y.hi true)=(DD x.lo y.lo true)from bh m2]):Bx.le (.cells 41 (iQ (Iv.mk (DD x.lo y.lo false) (DD x.lo y.lo true) false))) (.cells 41 (iQ (Iv.mk (jy (DD x.lo y.lo false) (DD x.lo y.hi false)) (jv (DD x.lo y.lo true) (DD x.lo y.hi true)) false))))])))),
      iA ((0+1)+1) aA,ag 42 (decide ((((0+1)+1):Int)<4)) aC]<|.w ((EE x.hi y.lo false)=0)
      (λk5=>.w ((EE x.hi y.lo true)=0)
       (λk6=>aa [.j 3 (adI x y p gd gu DD EE)
   (aa [iX ((0+1)+1) 4 aA,iX 0 2 aA,iX 1 2 aA,.c (hd _ _ (.inr rfl) (.inl rfl):gW gd ((ib x.hi)::(ib y.lo)::(iP p)::[]) _),iX 0 2 aA,iX 1 2 aA,.c (hu _ _ (.inr rfl) (.inl rfl):gW gu ((ib x.hi)::(ib y.lo)::(iP p)::[]) _),tB 66 (bc k5),tB 69 (bc k6),ah 73 ((((0+1)+1):Int)==0) aC,af [ib (DD x.hi y.lo false),ib (jy (DD x.lo y.lo false) (DD x.lo y.hi false))] (pK _ _ (hv _ _ _) (yU (hv _ _ _) (hv _ _ _)))]<|.w ((ke (DD x.hi y.lo false) (jy (DD x.lo y.lo false) (DD x.lo y.hi false)))<0)
    (λm1=>aa [tB 79 (bn m1),ah 84 ((((0+1)+1):Int)==0) aC,af [ib (DD x.hi y.lo true),ib (jv (DD x.lo y.lo true) (DD x.lo y.hi true))] (pK _ _ (hv _ _ _) (vH (hv _ _ _) (hv _ _ _)))]<|.w (0<(ke (DD x.hi y.lo true) (jv (DD x.lo y.lo true) (DD x.lo y.hi true))))
     (λm2=>aa [tB 90 (bn m2)]<|.e (ae [.b 12 (.iD (by rw[show jy (jy (DD x.lo y.lo false) (DD x.lo y.hi false)) (DD x.hi y.lo false)=(DD x.hi y.lo false)from bj m1,show jv (jv (DD x.lo y.lo true) (DD x.lo y.hi true)) (DD x.hi y.lo true)=(DD x.hi y.lo true)from bj m2]):Bx.le (.cells 41 (iQ (Iv.mk (DD x.hi y.lo false) (DD x.hi y.lo true) false))) (.cells 41 (iQ (Iv.mk (jy (jy (DD x.lo y.lo false) (DD x.lo y.hi false)) (DD x.hi y.lo false)) (jv (jv (DD x.lo y.lo true) (DD x.lo y.hi true)) (DD x.hi y.lo true)) false))))]))
     (λm2=>aa [tB 90 (bp m2)]<|.e (ae [.b 12 (.iD (by rw[show jy (jy (DD x.lo y.lo false) (DD x.lo y.hi false)) (DD x.hi y.lo false)=(DD x.hi y.lo false)from bj m1,show jv (jv (DD x.lo y.lo true) (DD x.lo y.hi true)) (DD x.hi y.lo true)=(jv (DD x.lo y.lo true) (DD x.lo y.hi true))from bh m2]):Bx.le (.cells 41 (iQ (Iv.mk (DD x.hi y.lo false) (jv (DD x.lo y.lo true) (DD x.lo y.hi true)) false))) (.cells 41 (iQ (Iv.mk (jy (jy (DD x.lo y.lo false) (DD x.lo y.hi false)) (DD x.hi y.lo false)) (jv (jv (DD x.lo y.lo true) (DD x.lo y.hi true)) (DD x.hi y.lo true)) false))))])))
    (λm1=>aa [tB 79 (bp m1),ah 84 ((((0+1)+1):Int)==0) aC,af [ib (DD x.hi y.lo true),ib (jv (DD x.lo y.lo true) (DD x.lo y.hi true))] (pK _ _ (hv _ _ _) (vH (hv _ _ _) (hv _ _ _)))]<|.w (0<(ke (DD x.hi y.lo true) (jv (DD x.lo y.lo true) (DD x.lo y.hi true))))
     (λm2=>aa [tB 90 (bn m2)]<|.e (ae [.b 12 (.iD (by rw[show jy (jy (DD x.lo y.lo false) (DD x.lo y.hi false)) (DD x.hi y.lo false)=(jy (DD x.lo y.lo false) (DD x.lo y.hi false))from bh m1,show jv (jv (DD x.lo y.lo true) (DD x.lo y.hi true)) (DD x.hi y.lo true)=(DD x.hi y.lo true)from bj m2]):Bx.le (.cells 41 (iQ (Iv.mk (jy (DD x.lo y.lo false) (DD x.lo y.hi false)) (DD x.hi y.lo true) false))) (.cells 41 (iQ (Iv.mk (jy (jy (DD x.lo y.lo false) (DD x.lo y.hi false)) (DD x.hi y.lo false)) (jv (jv (DD x.lo y.lo true) (DD x.lo y.hi true)) (DD x.hi y.lo true)) false))))]))
     (λm2=>aa [tB 90 (bp m2)]<|.e (ae [.b 12 (.iD (by rw[show jy (jy (DD x.lo y.lo false) (DD x.lo y.hi false)) (DD x.hi y.lo false)=(jy (DD x.lo y.lo false) (DD x.lo y.hi false))from bh m1,show jv (jv (DD x.lo y.lo true) (DD x.lo y.hi true)) (DD x.hi y.lo true)=(jv (DD x.lo y.lo true) (DD x.lo y.hi true))from bh m2]):Bx.le (.cells 41 (iQ (Iv.mk (jy (DD x.lo y.lo false) (DD x.lo y.hi false)) (jv (DD x.lo y.lo true) (DD x.lo y.hi true)) false))) (.cells 41 (iQ (Iv.mk (jy (jy (DD x.lo y.lo false) (DD x.lo y.hi false)) (DD x.hi y.lo false)) (jv (jv (DD x.lo y.lo true) (DD x.lo y.hi true)) (DD x.hi y.lo true)) false))))])))),
        iA (((0+1)+1)+1) aA,ag 42 (decide (((((0+1)+1)+1):Int)<4)) aC]<|.w ((EE x.hi y.hi false)=0)
        (λk7=>.w ((EE x.hi y.hi true)=0)
         (λk8=>aa [.j 3 (adJ x y p gd gu DD EE)
   (aa [iX (((0+1)+1)+1) 4 aA,iX 0 2 aA,iX 1 2 aA,.c (hd _ _ (.inr rfl) (.inr rfl):gW gd ((ib x.hi)::(ib y.hi)::(iP p)::[]) _),iX 0 2 aA,iX 1 2 aA,.c (hu _ _ (.inr rfl) (.inr rfl):gW gu ((ib x.hi)::(ib y.hi)::(iP p)::[]) _),tB 66 (bc k7),tB 69 (bc k8),ah 73 (((((0+1)+1)+1):Int)==0) aC,af [ib (DD x.hi y.hi false),ib (jy (jy (DD x.lo y.lo false) (DD x.lo y.hi false)) (DD x.hi y.lo false))] (pK _ _ (hv _ _ _) (yU (yU (hv _ _ _) (hv _ _ _)) (hv _ _ _)))]<|.w ((ke (DD x.hi y.hi false) (jy (jy (DD x.lo y.lo false) (DD x.lo y.hi false)) (DD x.hi y.lo false)))<0)
    (λm1=>aa [tB 79 (bn m1),ah 84 (((((0+1)+1)+1):Int)==0) aC,af [ib (DD x.hi y.hi true),ib (jv (jv (DD x.lo y.lo true) (DD x.lo y.hi true)) (DD x.hi y.lo true))] (pK _ _ (hv _ _ _) (vH (vH (hv _ _ _) (hv _ _ _)) (hv _ _ _)))]<|.w (0<(ke (DD x.hi y.hi true) (jv (jv (DD x.lo y.lo true) (DD x.lo y.hi true)) (DD x.hi y.lo true))))
     (λm2=>aa [tB 90 (bn m2)]<|.e (ae [.b 12 (.iD (by rw[show jy (jy (jy (DD x.lo y.lo false) (DD x.lo y.hi false)) (DD x.hi y.lo false)) (DD x.hi y.hi false)=(DD x.hi y.hi false)from bj m1,show jv (jv (jv (DD x.lo y.lo true) (DD x.lo y.hi true)) (DD x.hi y.lo true)) (DD x.hi y.hi true)=(DD x.hi y.hi true)from bj m2]):Bx.le (.cells 41 (iQ (Iv.mk (DD x.hi y.hi false) (DD x.hi y.hi true) false))) (.cells 41 (iQ (Iv.mk (jy (jy (jy (DD x.lo y.lo false) (DD x.lo y.hi false)) (DD x.hi y.lo false)) (DD x.hi y.hi false)) (jv (jv (jv (DD x.lo y.lo true) (DD x.lo y.hi true)) (DD x.hi y.lo true)) (DD x.hi y.hi true)) false))))]))
     (λm2=>aa [tB 90 (bp m2)]<|.e (ae [.b 12 (.iD (by rw[show jy (jy (jy (DD x.lo y.lo false) (DD x.lo y.hi false)) (DD x.hi y.lo false)) (DD x.hi y.hi false)=(DD x.hi y.hi false)from bj m1,show jv (jv (jv (DD x.lo y.lo true) (DD x.lo y.hi true)) (DD x.hi y.lo true)) (DD x.hi y.hi true)=(jv (jv (DD x.lo y.lo true) (DD x.lo y.hi true)) (DD x.hi y.lo true))from bh m2]):Bx.le (.cells 41 (iQ (Iv.mk (DD x.hi y.hi false) (jv (jv (DD x.lo y.lo true) (DD x.lo y.hi true)) (DD x.hi y.lo true)) false))) (.cells 41 (iQ (Iv.mk (jy (jy (jy (DD x.lo y.lo false) (DD x.lo y.hi false)) (DD x.hi y.lo false)) (DD x.hi y.hi false)) (jv (jv (jv (DD x.lo y.lo true) (DD x.lo y.hi true)) (DD x.hi y.lo true)) (DD x.hi y.hi true)) false))))])))
    (λm1=>aa [tB 79 (bp m1),ah 84 (((((0+1)+1)+1):Int)==0) aC,af [ib (DD x.hi y.hi true),ib (jv (jv (DD x.lo y.lo true) (DD x.lo y.hi true)) (DD x.hi y.lo true))] (pK _ _ (hv _ _ _) (vH (vH (hv _ _ _) (hv _ _ _)) (hv _ _ _)))]<|.w (0<(ke (DD x.hi y.hi true) (jv (jv (DD x.lo y.lo true) (DD x.lo y.hi true)) (DD x.hi y.lo true))))
     (λm2=>aa [tB 90 (bn m2)]<|.e (ae [.b 12 (.iD (by rw[show jy (jy (jy (DD x.lo y.lo false) (DD x.lo y.hi false)) (DD x.hi y.lo false)) (DD x.hi y.hi false)=(jy (jy (DD x.lo y.lo false) (DD x.lo y.hi false)) (DD x.hi y.lo false))from bh m1,show jv (jv (jv (DD x.lo y.lo true) (DD x.lo y.hi true)) (DD x.hi y.lo true)) (DD x.hi y.hi true)=(DD x.hi y.hi true)from bj m2]):Bx.le (.cells 41 (iQ (Iv.mk (jy (jy (DD x.lo y.lo false) (DD x.lo y.hi false)) (DD x.hi y.lo false)) (DD x.hi y.hi true) false))) (.cells 41 (iQ (Iv.mk (jy (jy (jy (DD x.lo y.lo false) (DD x.lo y.hi false)) (DD x.hi y.lo false)) (DD x.hi y.hi false)) (jv (jv (jv (DD x.lo y.lo true) (DD x.lo y.hi true)) (DD x.hi y.lo true)) (DD x.hi y.hi true)) false))))]))
     (λm2=>aa [tB 90 (bp m2)]<|.e (ae [.b 12 (.iD (by rw[show jy (jy (jy (DD x.lo y.lo false) (DD x.lo y.hi false)) (DD x.hi y.lo false)) (DD x.hi y.hi false)=(jy (jy (DD x.lo y.lo false) (DD x.lo y.hi false)) (DD x.hi y.lo false))from bh m1,show jv (jv (jv (DD x.lo y.lo true) (DD x.lo y.hi true)) (DD x.hi y.lo true)) (DD x.hi y.hi true)=(jv (jv (DD x.lo y.lo true) (DD x.lo y.hi true)) (DD x.hi y.lo true))from bh m2]):Bx.le (.cells 41 (iQ (Iv.mk (jy (jy (DD x.lo y.lo false) (DD x.lo y.hi false)) (DD x.hi y.lo false)) (jv (jv (DD x.lo y.lo true) (DD x.lo y.hi true)) (DD x.hi y.lo true)) false))) (.cells 41 (iQ (Iv.mk (jy (jy (jy (DD x.lo y.lo false) (DD x.lo y.hi false)) (DD x.hi y.lo false)) (DD x.hi y.hi false)) (jv (jv (jv (DD x.lo y.lo true) (DD x.lo y.hi true)) (DD x.hi y.lo true)) (DD x.hi y.hi true)) false))))])))),
          iA ((((0+1)+1)+1)+1) aA,ah 42 (decide ((((((0+1)+1)+1)+1):Int)<4)) aC]<|rQ (ix (Iv.mk (jy (jy (jy (DD x.lo y.lo false) (DD x.lo y.hi false)) (DD x.hi y.lo false)) (DD x.hi y.hi false)) (jv (jv (jv (DD x.lo y.lo true) (DD x.lo y.hi true)) (DD x.hi y.lo true)) (DD x.hi y.hi true)) false)) (ix (pk DD EE x y)) (by rw[show pk DD EE x y=⟨jy (jy (jy (DD x.lo y.lo false) (DD x.lo y.hi false)) (DD x.hi y.lo false)) (DD x.hi y.hi false),jv (jv (jv (DD x.lo y.lo true) (DD x.lo y.hi true)) (DD x.hi y.lo true)) (DD x.hi y.hi true),false⟩from bj ⟨⟨k1,k2⟩,⟨k3,k4⟩,⟨k5,k6⟩,⟨k7,k8⟩⟩];try rfl))
         (λk8=>aa [iX (((0+1)+1)+1) 4 aA,iX 0 2 aA,iX 1 2 aA,.c (hd _ _ (.inr rfl) (.inr rfl):gW gd ((ib x.hi)::(ib y.hi)::(iP p)::[]) _),iX 0 2 aA,iX 1 2 aA,.c (hu _ _ (.inr rfl) (.inr rfl):gW gu ((ib x.hi)::(ib y.hi)::(iP p)::[]) _),tB 66 (bc k7),tB 69 (bg k8),.c rL]<|rQ (ix gZ) (ix (pk DD EE x y)) (by rw[show pk DD EE x y=gZ from bh (by rintro⟨⟨q0,r0⟩,⟨q1,r1⟩,⟨q2,r2⟩,⟨q3,r3⟩⟩;exact k8 r3)])))
        (λk7=>aa [iX (((0+1)+1)+1) 4 aA,iX 0 2 aA,iX 1 2 aA,.c (hd _ _ (.inr rfl) (.inr rfl):gW gd ((ib x.hi)::(ib y.hi)::(iP p)::[]) _),iX 0 2 aA,iX 1 2 aA,.c (hu _ _ (.inr rfl) (.inr rfl):gW gu ((ib x.hi)::(ib y.hi)::(iP p)::[]) _),tB 66 (bg k7),.c rL]<|rQ (ix gZ) (ix (pk DD EE x y)) (by rw[show pk DD EE x y=gZ from bh (by rintro⟨⟨q0,r0⟩,⟨q1,r1⟩,⟨q2,r2⟩,⟨q3,r3⟩⟩;exact k7 q3)])))
       (λk6=>aa [iX ((0+1)+1) 4 aA,iX 0 2 aA,iX 1 2 aA,.c (hd _ _ (.inr rfl) (.inl rfl):gW gd ((ib x.hi)::(ib y.lo)::(iP p)::[]) _),iX 0 2 aA,iX 1 2 aA,.c (hu _ _ (.inr rfl) (.inl rfl):gW gu ((ib x.hi)::(ib y.lo)::(iP p)::[]) _),tB 66 (bc k5),tB 69 (bg k6),.c rL]<|rQ (ix gZ) (ix (pk DD EE x y)) (by rw[show pk DD EE x y=gZ from bh (by rintro⟨⟨q0,r0⟩,⟨q1,r1⟩,⟨q2,r2⟩,⟨q3,r3⟩⟩;exact k6 r2)])))
      (λk5=>aa [iX ((0+1)+1) 4 aA,iX 0 2 aA,iX 1 2 aA,.c (hd _ _ (.inr rfl) (.inl rfl):gW gd ((ib x.hi)::(ib y.lo)::(iP p)::[]) _),iX 0 2 aA,iX 1 2 aA,.c (hu _ _ (.inr rfl) (.inl rfl):gW gu ((ib x.hi)::(ib y.lo)::(iP p)::[]) _),tB 66 (bg k5),.c rL]<|rQ (ix gZ) (ix (pk DD EE x y)) (by rw[show pk DD EE x y=gZ from bh (by rintro⟨⟨q0,r0⟩,⟨q1,r1⟩,⟨q2,r2⟩,⟨q3,r3⟩⟩;exact k5 q2)])))
     (λk4=>aa [iX (0+1) 4 aA,iX 0 2 aA,iX 1 2 aA,.c (hd _ _ (.inl rfl) (.inr rfl):gW gd ((ib x.lo)::(ib y.hi)::(iP p)::[]) _),iX 0 2 aA,iX 1 2 aA,.c (hu _ _ (.inl rfl) (.inr rfl):gW gu ((ib x.lo)::(ib y.hi)::(iP p)::[]) _),tB 66 (bc k3),tB 69 (bg k4),.c rL]<|rQ (ix gZ) (ix (pk DD EE x y)) (by rw[show pk DD EE x y=gZ from bh (by rintro⟨⟨q0,r0⟩,⟨q1,r1⟩,⟨q2,r2⟩,⟨q3,r3⟩⟩;exact k4 r1)])))
    (λk3=>aa [iX (0+1) 4 aA,iX 0 2 aA,iX 1 2 aA,.c (hd _ _ (.inl rfl) (.inr rfl):gW gd ((ib x.lo)::(ib y.hi)::(iP p)::[]) _),iX 0 2 aA,iX 1 2 aA,.c (hu _ _ (.inl rfl) (.inr rfl):gW gu ((ib x.lo)::(ib y.hi)::(iP p)::[]) _),tB 66 (bg k3),.c rL]<|rQ (ix gZ) (ix (pk DD EE x y)) (by rw[show pk DD EE x y=gZ from bh (by rintro⟨⟨q0,r0⟩,⟨q1,r1⟩,⟨q2,r2⟩,⟨q3,r3⟩⟩;exact k3 q1)])))
   (λk2=>aa [iX 0 4 aA,iX 0 2 aA,iX 1 2 aA,.c (hd _ _ (.inl rfl) (.inl rfl):gW gd ((ib x.lo)::(ib y.lo)::(iP p)::[]) _),iX 0 2 aA,iX 1 2 aA,.c (hu _ _ (.inl rfl) (.inl rfl):gW gu ((ib x.lo)::(ib y.lo)::(iP p)::[]) _),tB 66 (bc k1),tB 69 (bg k2),.c rL]<|rQ (ix gZ) (ix (pk DD EE x y)) (by rw[show pk DD EE x y=gZ from bh (by rintro⟨⟨q0,r0⟩,⟨q1,r1⟩,⟨q2,r2⟩,⟨q3,r3⟩⟩;exact k2 r0)])))
  (λk1=>aa [iX 0 4 aA,iX 0 2 aA,iX 1 2 aA,.c (hd _ _ (.inl rfl) (.inl rfl):gW gd ((ib x.lo)::(ib y.lo)::(iP p)::[]) _),iX 0 2 aA,iX 1 2 aA,.c (hu _ _ (.inl rfl) (.inl rfl):gW gu ((ib x.lo)::(ib y.lo)::(iP p)::[]) _),tB 66 (bg k1),.c rL]<|rQ (ix gZ) (ix (pk DD EE x y)) (by rw[show pk DD EE x y=gZ from bh (by rintro⟨⟨q0,r0⟩,⟨q1,r1⟩,⟨q2,r2⟩,⟨q3,r3⟩⟩;exact k1 q0)]))) 
def aiq{y:Iv}(hy:y.ic)(hs:oH y≠0):y.lo.m≠0/\y.hi.m≠0:=by
 unfold oH at hs;have ha:y.all=false:=by
  cases h:y.all with
  |false=>rfl
  |true=>rw[h]at hs;exact absurd rfl hs
 obtain⟨v1,v2,v3⟩:=tI hy ha;rw[ha]at hs;simp only[bV,bB]at hs;have z:∀ d:Dy,d.m=0->d.kf=0:=λd h=>by unfold Dy.kf;rw[bj h]
 have hc:=Qa y.lo y.hi;rw[hc]at v3;constructor
 .intro h0;have:=z _ h0;rw[this]at hs v3;split at hs
  .omega
  .split at hs
   .split at v3<;>omega
   .exact hs rfl
 .intro h0;have:=z _ h0;rw[this]at hs v3;split at hs
  .split at v3<;>omega
  .split at hs
   .omega
   .exact hs rfl
def Z2(a b:Dy){p:Nat}(up:Bool)(hp:1<=p)(ie:p<=4096):(mi a b p up).ic:=by
 unfold mi;split
 .exact oI
 .exact tl _ _ _ _ _ _ hp ie
def uE(x y:Iv)(p:Nat)(hx:x.ic)(hy:y.ic)(iu:8<=p)(ie:p<=512):gW 68 [ix x,ix y,iP p] (ix (kJ x y p)):=by
 by_cases hk:(x.all||y.all)=true
 .exact aj call68 func68 (aa [.o 9 (.e (zY _ _):ai (.sl true 2 7 λi_ j_=>(iQ x++iQ y).getD (i_*7+j_) (.v (.bool false))) (hH [x,y])),af [hH [x,y]] (Bh _ _ aB aB),ah 10 (!(x.all||y.all)) (by rw[hk];rfl),.c rL]<|rQ (ix gZ) (ix (kJ x y p)) (by rw[show kJ x y p=gZ by unfold kJ;rw[bj hk]])) 
 .replace hk:(x.all||y.all)=false:=by simpa using hk
  have lh:x.all=false:=by cases h:x.all;rfl;rw[h]at hk;simp at hk
  have zU:y.all=false:=by cases h:y.all;rfl;rw[h]at hk;simp at hk
  obtain⟨v1,v2,v3⟩:=tI hx lh;obtain⟨v4,v5,v6⟩:=tI hy zU;exact aj call68 func68 (aa [.o 9 (.e (zY _ _):ai (.sl true 2 7 λi_ j_=>(iQ x++iQ y).getD (i_*7+j_) (.v (.bool false))) (hH [x,y])),af [hH [x,y]] (Bh _ _ aB aB),ag 10 (!(x.all||y.all)) (by rw[hk];rfl),af [iP p] (zX _),ag 14 (kF (p:Int)) (oG.2 ⟨aA,aA⟩),.c (Tw x y p 120 121 (λa b up=>jd (mI a b) p up) (λa b up=>jI (mI a b) p up) (λa b ha hb=>Jv a b p (by rcases ha with rfl|rfl;exact v1;exact v2) (by rcases hb with rfl|rfl;exact v4;exact v5) iu ie) (λa b ha hb=>N9 a b p (by rcases ha with rfl|rfl;exact v1;exact v2) (by rcases hb with rfl|rfl;exact v4;exact v5) iu ie) (λa b up=>tl _ _ _ _ _ _ aA aA))]<|rQ (ix (pk (λa b up=>jd (mI a b) p up) (λa b up=>jI (mI a b) p up) x y)) (ix (kJ x y p)) (by rw[show kJ x y p=_ by unfold kJ;rw[bh (by rw[hk];decide)]];rfl)) 
def Iw(x y:Iv)(p:Nat)(hx:x.ic)(hy:y.ic)(iu:8<=p)(ie:p<=512):gW 99 [ix x,ix y,iP p] (ix (qQ x y p)):=by
 by_cases hk:(x.all||y.all)=true
 .exact aj call99 func99 (aa [.o 9 (.e (zY _ _):ai (.sl true 2 7 λi_ j_=>(iQ x++iQ y).getD (i_*7+j_) (.v (.bool false))) (hH [x,y])),af [hH [x,y]] (Bh _ _ aB aB),ah 10 (!(x.all||y.all)) (by rw[hk];rfl),.c rL]<|rQ (ix gZ) (ix (qQ x y p)) (by rw[show qQ x y p=gZ by unfold qQ;rw[bj (by rw[hk];rfl)]])) 
 .replace hk:(x.all||y.all)=false:=by simpa using hk
  have lh:x.all=false:=by cases h:x.all;rfl;rw[h]at hk;simp at hk
  have zU:y.all=false:=by cases h:y.all;rfl;rw[h]at hk;simp at hk
  obtain⟨v1,v2,v3⟩:=tI hx lh;obtain⟨v4,v5,v6⟩:=tI hy zU;by_cases hs:oH y=0
  .exact aj call99 func99 (aa [.o 9 (.e (zY _ _):ai (.sl true 2 7 λi_ j_=>(iQ x++iQ y).getD (i_*7+j_) (.v (.bool false))) (hH [x,y])),af [hH [x,y]] (Bh _ _ aB aB),ag 10 (!(x.all||y.all)) (by rw[hk];rfl),af [iP p] (zX _),ag 14 (kF (p:Int)) (oG.2 ⟨aA,aA⟩),.c (EW y aB),ag 20 ((oH y)==0) (by rw[hs];rfl),.c rL]<|rQ (ix gZ) (ix (qQ x y p)) (by rw[show qQ x y p=gZ by unfold qQ;rw[bj (by rw[hk,bn hs];rfl)]])) 
  .obtain ⟨n1,n2⟩:=aiq hy hs;exact aj call99 func99 (aa [.o 9 (.e (zY _ _):ai (.sl true 2 7 λi_ j_=>(iQ x++iQ y).getD (i_*7+j_) (.v (.bool false))) (hH [x,y])),af [hH [x,y]] (Bh _ _ aB aB),ag 10 (!(x.all||y.all)) (by rw[hk];rfl),af [iP p] (zX _),ag 14 (kF (p:Int)) (oG.2 ⟨aA,aA⟩),.c (EW y aB),ah 20 ((oH y)==0) (by simpa using hs),.c (Tw x y p 169 170 (λa b up=>mi a b p up) (λa b up=>mD a b p up) (λa b ha hb=>N8 a b p (by rcases ha with rfl|rfl;exact v1;exact v2) (by rcases hb with rfl|rfl;exact v4;exact v5) (by rcases hb with rfl|rfl;exact n1;exact n2) iu ie) (λa b ha hb=>V4 a b p (by rcases ha with rfl|rfl;exact v1;exact v2) (by rcases hb with rfl|rfl;exact v4;exact v5) (by rcases hb with rfl|rfl;exact n1;exact n2) iu ie) (λa b up=>Z2 a b up aA aA))]<|rQ (ix (pk (λa b up=>mi a b p up) (λa b up=>mD a b p up) x y)) (ix (qQ x y p)) (by rw[show qQ x y p=_ by unfold qQ;rw[bh (by rw[hk,bp hs];decide)]])) 
def adR(d:RD)(h:d.Zero):gW 113 [Da d] (bP true):=by
 obtain⟨h1,h2,h3⟩:=h;exact aj call113 func113 (ae [ah 4 d.neg h1,ag 10 ((d.L.length:Int)==0) (r9 (by rw[h2];rfl)),ag 15 (d.e==0) (by rw[h3];rfl)]) 
def TD(d:RD)(h:¬d.Zero):gW 113 [Da d] (bP false):=by
 by_cases h1:d.neg=true
 .exact aj call113 func113 (ae [ag 4 d.neg h1]) 
 .replace h1:d.neg=false:=by simpa using h1
  by_cases h2:d.L=[]
  .have h3:¬d.e=0:=λq=>h ⟨h1,h2,q⟩
   exact aj call113 func113 (ae [ah 4 d.neg h1,ag 10 ((d.L.length:Int)==0) (r9 (by rw[h2];rfl)),ah 15 (d.e==0) (by simpa using h3)]) 
  .exact aj call113 func113 (ae [ah 4 d.neg h1,ah 10 ((d.L.length:Int)==0) (oF (λq=>h2 (gq.1 q)))]) 
def adQ(x:RI)(g:x.rB)(h:x.Ok):gW 66 [BJ x] (bP true):=by
 have:=sX x.iv h.valid;rwa[<-TC,h.eq g]at this
def adO(x:RI)(g:x.rB)(h:¬x.Ok):gW 66 [BJ x] (bP false):=by
 have ga:=g.lo;have gb:=g.hi;by_cases ha:x.all=true
 .by_cases h1:x.lo.Zero
  .have h2:¬x.hi.Zero:=λq=>h (.inl ⟨ha,h1,q⟩)
   exact aj call66 func66 (ae [ag 5 x.all ha,.c (adR x.lo h1),.c (TD x.hi h2)]) 
  .exact aj call66 func66 (ae [ag 5 x.all ha,.c (TD x.lo h1)]) 
 .replace ha:x.all=false:=by simpa using ha
  by_cases h1:x.lo.Ok
  .by_cases h2:x.hi.Ok
   .have h3:¬ke x.lo.dy x.hi.dy<=0:=λq=>h (.inr ⟨ha,h1,h2,q⟩)
    have v1:=h1.valid;have v2:=h2.valid;have e1:BJ x=ix x.iv:=by rw[<-TC,show x.iv.raw=x by show RI.mk x.lo.dy.raw x.hi.dy.raw x.all=x;rw[h1.eq ga,h2.eq gb]]
    rw[e1];exact aj call66 func66 (ae [ah 5 x.iv.all ha,af [ib x.iv.lo] (rT _ aB),af [ib x.iv.hi] (rT _ aB),af [ib x.iv.lo,ib x.iv.hi] (pK _ _ aB aB),tB 30 (bp h3)]) 
   .exact aj call66 func66 (ae [ah 5 x.all ha,af [Da x.lo] (Lf _ aB true (by simp[h1])),af [Da x.hi] (Lf _ aB false (by simp[h2]))]) 
  .exact aj call66 func66 (ae [ah 5 x.all ha,af [Da x.lo] (Lf _ aB false (by simp[h1]))]) 
def adP(x:RI)(g:x.rB):gW 66 [BJ x] (bP (uR x)):=by
 by_cases h:x.Ok
 .rw [Jf.2 h];exact adQ x g h
 .rw [show uR x=false by simpa using λq=>h (Jf.1 q)];exact adO x g h
def afo(x:RI)(g:x.rB):gW 248 [BJ x,(.jD 1 λj_=>[.fn 66 []].getD j_ .any)] (bP (!(uR x))):=
 aj call248 func248 (ae [af [BJ x] (adP _ aB)]) 
def afn(r:List RI)(m:List (List RI))(gr:∀ j,(r.getD j sB).rB)(hr:r.length<=1000000)(hm:0<m.length):gW 247 [FY r,(.jD 1 λj_=>[BK m].getD j_ .any),(.jD 1 λj_=>[.fn 66 []].getD j_ .any)] (bP (decide (r.length≠(m.getD 0 []).length)||((List.range (r.length)).any λj=>!(uR (r.getD j sB))))):=by
 by_cases h:r.length=(m.getD 0 []).length
 .exact aj call247 func247 (aa [iX 0 (m.length) aA,ah 11 ((r.length:Int) != ((m.getD 0 []).length:Int)) (r8 h),.c (EX true _ _ 248 _ (λj=>!(uR (r.getD j sB))) (λj hj=>afo _ (gr j)) aA:gW 39 [FY r,.fn 248 [(.jD 1 λj_=>[.fn 66 []].getD j_ .any)]] _)]<|rQ (bP ((List.range (r.length)).any λj=>!(uR (r.getD j sB)))) (bP (decide (r.length≠(m.getD 0 []).length)||((List.range (r.length)).any λj=>!(uR (r.getD j sB))))) (by rw[bp (aks h)];rfl)) 
 .exact aj call247 func247 (aa [iX 0 (m.length) aA,ag 11 ((r.length:Int) != ((m.getD 0 []).length:Int)) (afY h)]<|rQ (bP true) (bP (decide (r.length≠(m.getD 0 []).length)||((List.range (r.length)).any λj=>!(uR (r.getD j sB))))) (by rw[bn h];rfl)) 
def afp(m:List (List RI))(g:DC m)(hl:m.length<=1000000)(EB:∀ i,(m.getD i []).length<=1000000):gW 199 [BK m,.fn 66 []] (bP (wO m)):=by
 by_cases h1:m.length<1
 .exact aj call199 func199 (aa [tT 7 ((m.length:Int)<1) aA]<|rQ (bP false) (bP (wO m)) (by rw[Fj (λq=>by have:=q.n1;omega)])) 
 .by_cases h2:8<m.length
  .exact aj call199 func199 (aa [tF 7 ((m.length:Int)<1) aA,tT 11 (8<(m.length:Int)) aA]<|rQ (bP false) (bP (wO m)) (by rw[Fj (λq=>by have:=q.n8;omega)])) 
  .by_cases h3:(m.getD 0 []).length<1
   .exact aj call199 func199 (aa [tF 7 ((m.length:Int)<1) aA,tF 11 (8<(m.length:Int)) aA,iX 0 (m.length) aA,tT 18 (((m.getD 0 []).length:Int)<1) aA]<|rQ (bP false) (bP (wO m)) (by rw[Fj (λq=>by have:=q.k1;omega)])) 
   .by_cases h4:8<(m.getD 0 []).length
    .exact aj call199 func199 (aa [tF 7 ((m.length:Int)<1) aA,tF 11 (8<(m.length:Int)) aA,iX 0 (m.length) aA,tF 18 (((m.getD 0 []).length:Int)<1) aA,iX 0 (m.length) aA,tT 25 (8<((m.getD 0 []).length:Int)) aA]<|rQ (bP false) (bP (wO m)) (by rw[Fj (λq=>by have:=q.k8;omega)])) 
    .have hb:wO m = !((List.range m.length).any λi=>decide ((m.getD i []).length≠(m.getD 0 []).length)||((List.range ((m.getD i []).length)).any λj=>!(uR ((m.getD i []).getD j sB)))):=by
      by_cases hk:DF m
      .rw [Nj.2 hk];symm;rw[de,cw];intro i hi;have hi:=bJ.1 hi;have A5:decide ((m.getD i []).length≠(m.getD 0 []).length)=false:=bp (aks (hk.row i hi));rw[A5,eG,gy,cw];intro j hj;rw[Jf.2 (hk.ok i hi j (bJ.1 hj))];decide
      .rw [Fj hk];symm;rw[gz];apply ch;intro hc;rw[gy,cw]at hc;refine hk ⟨aA,aA,aA,aA,λi hi=>?_,λi hi j hj=>?_⟩
       .have:=hc i (bJ.2 hi);simp only[cO,decide_not,dK,not_or,gy,gz,di]at this;exact this.1
       .have:=hc i (bJ.2 hi);simp only[cO,decide_not,dK,not_or,gy,gz,di]at this;have:=cw.1 this.2 j (bJ.2 hj);exact Jf.1 (by simpa using this)
     exact aj call199 func199 (aa [tF 7 ((m.length:Int)<1) aA,tF 11 (8<(m.length:Int)) aA,iX 0 (m.length) aA,tF 18 (((m.getD 0 []).length:Int)<1) aA,iX 0 (m.length) aA,tF 25 (8<((m.getD 0 []).length:Int)) aA,.c (BL true _ _ 247 _ (λi=>decide ((m.getD i []).length≠(m.getD 0 []).length)||((List.range ((m.getD i []).length)).any λj=>!(uR ((m.getD i []).getD j sB)))) (λi hi=>afn _ _ (λj=>g.at i j) (EB i) aA) aA:gW 159 [BK m,.fn 247 [(.jD 1 λj_=>[BK m].getD j_ .any),(.jD 1 λj_=>[.fn 66 []].getD j_ .any)]] _)]<|rQ (bP (!((List.range m.length).any λi=>decide ((m.getD i []).length≠(m.getD 0 []).length)||((List.range ((m.getD i []).length)).any λj=>!(uR ((m.getD i []).getD j sB)))))) (bP (wO m)) (by rw[hb])) 
def afr(m:List (List RI))(g:DC m)(hl:m.length<=1000000)(EB:∀ i,(m.getD i []).length<=1000000):gW 122 [BK m] (bP (wO m)):=
 aj call122 func122 (ae [.c (afp m g aA EB)]) 
def Pw(d:Dy)(n p:Nat)(x:Nat):PS:=⟨41,true,[(14,.e (iP ((x+1:Nat):Int))),(13,.e (iP ((jr d p false x).2))),(12,.box 12 0),(10,.box 10 0),(5,.box 5 0),(1,.e (iP n)),(2,.e (iP p)),(4,.e (.fn 120 []))],[(12,.cells 37 (jt ((jr d p false x).1))),(10,.cells 37 an),(5,.cells 37 (jt d))]⟩
def Px(d:Dy)(n N p:Nat)(x:Nat):PS:=⟨41,true,[(14,.e (iP ((x+1:Nat):Int))),(13,.e (iP ((jr d p false x).2))),(12,.box 12 0),(10,.box 10 0),(5,.box 5 0),(1,.e (iP n)),(2,.e (iP p)),(4,.e (.fn 120 []))],[(12,.cells 37 (jt ((jr d p false x).1))),(10,.cells 37 an),(5,.cells 37 (jt d))]⟩
def Py(d:Dy)(n p:Nat)(x:Nat):PS:=⟨41,true,[(14,.e (iP ((x+1:Nat):Int))),(13,.e (iP ((jr d p true x).2))),(12,.box 12 0),(10,.box 10 0),(5,.box 5 0),(1,.e (iP n)),(2,.e (iP p)),(4,.e (.fn 121 []))],[(12,.cells 37 (jt ((jr d p true x).1))),(10,.cells 37 an),(5,.cells 37 (jt d))]⟩
def Pz(d:Dy)(n N p:Nat)(x:Nat):PS:=⟨41,true,[(14,.e (iP ((x+1:Nat):Int))),(13,.e (iP ((jr d p true x).2))),(12,.box 12 0),(10,.box 10 0),(5,.box 5 0),(1,.e (iP n)),(2,.e (iP p)),(4,.e (.fn 121 []))],[(12,.cells 37 (jt ((jr d p true x).1))),(10,.cells 37 an),(5,.cells 37 (jt d))]⟩
def B8(s:Bool)(m:Nat)(e:Int)(hl:(ia m).length<=256)(ml:-1000000<=e)(lH:e<=1000000):gW 123 [bP s,iz (ia m),iP e] (ib (canon s m e)):=by
 refine⟨call123,λw B vs hK hB hr=>?_⟩;obtain⟨v1,vs,rfl,h1,hr⟩:=hr.mW;obtain⟨v2,vs,rfl,h2,hr⟩:=hr.mW;obtain⟨v3,vs,rfl,h3,hr⟩:=hr.mW;obtain rfl:=hr.qY;obtain rfl:=iC.kD h1;obtain rfl:=iC.kD h3;obtain⟨A,c,rfl,s1⟩:=zh (o9 m) h2;exact(PT s m e A c w s1 hl ml lH hK).mono λe w' h=>rd B w e w' hB h
def Gw(d:Dy)(hl:(ia d.m).length<=100000000)(ml:-10000000<=d.e)(lH:d.e<=10000000):gW 184 [ib d] (.ik [ib (nf d),iP (qg d)]):=
 C5 call184 (λA c w h _=>Zi d A c w h aA aA aA) Ob
def PA(m n:Nat)(hl:(ia m).length<=256)(hn:n<=65536)(hf:(ia (m*2^n)).length<=256):gW 206 [iz (ia m),iP n] (iz (ia (m*2^n))):=
 aj call206 func206 (ae [af [iz (ia m),iP n] (Ve _ _ hl hn hf)]) 
def Ph{m n:Nat}:mC m n<0↔m<n:=by unfold mC;split<;>(try split)<;>omega
def Pg{m n:Nat}:¬mC m n<0↔n<=m:=by unfold mC;split<;>(try split)<;>omega
noncomputable def WS(a b:Dy)(ha:a.ic)(hb:b.ic)(a0:a.m≠0)(b0:b.m≠0)(k:Int)(hk:min a.e b.e=k)(la:(ia a.m).length<=256)(lb:(ia b.m).length<=256)(e1:-16384<=k)(e2:a.e<=16384)(e3:b.e<=16384)(fa:(ia (a.m*2^(a.e-k).toNat)).length<=256)(fb:(ia (b.m*2^(b.e-k).toNat)).length<=256)(fab:(ia ((a.m*2^(a.e-k).toNat)+(b.m*2^(b.e-k).toNat))).length<=256)(fx:(ia ((a.m*2^(a.e-k).toNat)-(b.m*2^(b.e-k).toNat))).length<=256)(fy:(ia ((b.m*2^(b.e-k).toNat)-(a.m*2^(a.e-k).toNat))).length<=256)(Hr:a.neg=b.neg->iR a b=canon a.neg ((a.m*2^(a.e-k).toNat)+(b.m*2^(b.e-k).toNat)) k)(Hs:a.neg≠b.neg->(b.m*2^(b.e-k).toNat)<=(a.m*2^(a.e-k).toNat)->iR a b=canon a.neg ((a.m*2^(a.e-k).toNat)-(b.m*2^(b.e-k).toNat)) k)(Ht:a.neg≠b.neg->(a.m*2^(a.e-k).toNat)<(b.m*2^(b.e-k).toNat)->iR a b=canon b.neg ((b.m*2^(b.e-k).toNat)-(a.m*2^(a.e-k).toNat)) k):Tr prog Tb:=
  aa [iA (a.e-k) aA,.o 70 (al (a.e-k) ((a.e-k).toNat:Int) aA),.c (PA a.m (a.e-k).toNat la aA fa),iA (b.e-k) aA,.o 77 (al (b.e-k) ((b.e-k).toNat:Int) aA),.c (PA b.m (b.e-k).toNat lb aA fb)]<|.w (a.neg=b.neg)
  (λk1=>aa [tB 83 (aY k1),af [iz (ia (a.m*2^(a.e-k).toNat)),iz (ia (b.m*2^(b.e-k).toNat))] (I5 (a.m*2^(a.e-k).toNat) (b.m*2^(b.e-k).toNat) fa fb fab),af [bP a.neg,iz (ia ((a.m*2^(a.e-k).toNat)+(b.m*2^(b.e-k).toNat))),iP k] (B8 _ _ _ fab aA aA),af [ib (canon a.neg ((a.m*2^(a.e-k).toNat)+(b.m*2^(b.e-k).toNat)) k)] (Gw _ (by have h:=yi a.neg ((a.m*2^(a.e-k).toNat)+(b.m*2^(b.e-k).toNat)) k fab;omega) (by have h:=yi a.neg ((a.m*2^(a.e-k).toNat)+(b.m*2^(b.e-k).toNat)) k fab;omega) (by have h:=yi a.neg ((a.m*2^(a.e-k).toNat)+(b.m*2^(b.e-k).toNat)) k fab;omega))]<|rQ (.ik [ib (nf (canon a.neg ((a.m*2^(a.e-k).toNat)+(b.m*2^(b.e-k).toNat)) k)),iP (qg (canon a.neg ((a.m*2^(a.e-k).toNat)+(b.m*2^(b.e-k).toNat)) k))]) (.ik [ib (nf (iR a b)),iP (qg (iR a b))]) (by rw[Hr k1]))
  (λk1=>aa [tB 83 (aX k1),af [iz (ia (a.m*2^(a.e-k).toNat)),iz (ia (b.m*2^(b.e-k).toNat))] (I6 (a.m*2^(a.e-k).toNat) (b.m*2^(b.e-k).toNat) aA aA)]<|.w ((mC (a.m*2^(a.e-k).toNat) (b.m*2^(b.e-k).toNat))<0)
   (λk2=>aa [tB 101 (bn k2),af [iz (ia (b.m*2^(b.e-k).toNat)),iz (ia (a.m*2^(a.e-k).toNat))] (Fw (b.m*2^(b.e-k).toNat) (a.m*2^(a.e-k).toNat) fb fa (dU (Ph.1 k2))),af [bP b.neg,iz (ia ((b.m*2^(b.e-k).toNat)-(a.m*2^(a.e-k).toNat))),iP k] (B8 _ _ _ fy aA aA),af [ib (canon b.neg ((b.m*2^(b.e-k).toNat)-(a.m*2^(a.e-k).toNat)) k)] (Gw _ (by have h:=yi b.neg ((b.m*2^(b.e-k).toNat)-(a.m*2^(a.e-k).toNat)) k fy;omega) (by have h:=yi b.neg ((b.m*2^(b.e-k).toNat)-(a.m*2^(a.e-k).toNat)) k fy;omega) (by have h:=yi b.neg ((b.m*2^(b.e-k).toNat)-(a.m*2^(a.e-k).toNat)) k fy;omega))]<|rQ (.ik [ib (nf (canon b.neg ((b.m*2^(b.e-k).toNat)-(a.m*2^(a.e-k).toNat)) k)),iP (qg (canon b.neg ((b.m*2^(b.e-k).toNat)-(a.m*2^(a.e-k).toNat)) k))]) (.ik [ib (nf (iR a b)),iP (qg (iR a b))]) (by rw[Ht k1 (Ph.1 k2)]))
   (λk2=>aa [tB 101 (bp k2),af [iz (ia (a.m*2^(a.e-k).toNat)),iz (ia (b.m*2^(b.e-k).toNat))] (Fw (a.m*2^(a.e-k).toNat) (b.m*2^(b.e-k).toNat) fa fb (Pg.1 k2)),af [bP a.neg,iz (ia ((a.m*2^(a.e-k).toNat)-(b.m*2^(b.e-k).toNat))),iP k] (B8 _ _ _ fx aA aA),af [ib (canon a.neg ((a.m*2^(a.e-k).toNat)-(b.m*2^(b.e-k).toNat)) k)] (Gw _ (by have h:=yi a.neg ((a.m*2^(a.e-k).toNat)-(b.m*2^(b.e-k).toNat)) k fx;omega) (by have h:=yi a.neg ((a.m*2^(a.e-k).toNat)-(b.m*2^(b.e-k).toNat)) k fx;omega) (by have h:=yi a.neg ((a.m*2^(a.e-k).toNat)-(b.m*2^(b.e-k).toNat)) k fx;omega))]<|rQ (.ik [ib (nf (canon a.neg ((a.m*2^(a.e-k).toNat)-(b.m*2^(b.e-k).toNat)) k)),iP (qg (canon a.neg ((a.m*2^(a.e-k).toNat)-(b.m*2^(b.e-k).toNat)) k))]) (.ik [ib (nf (iR a b)),iP (qg (iR a b))]) (by rw[Hs k1 (Pg.1 k2)])))
def Yy(a b:Dy)(ha:a.ic)(hb:b.ic)(a0:a.m≠0)(b0:b.m≠0)(k:Int)(hk:min a.e b.e=k)(la:(ia a.m).length<=256)(lb:(ia b.m).length<=256)(e1:-16384<=k)(e2:a.e<=16384)(e3:b.e<=16384)(fa:(ia (a.m*2^(a.e-k).toNat)).length<=256)(fb:(ia (b.m*2^(b.e-k).toNat)).length<=256)(fab:(ia ((a.m*2^(a.e-k).toNat)+(b.m*2^(b.e-k).toNat))).length<=256)(fx:(ia ((a.m*2^(a.e-k).toNat)-(b.m*2^(b.e-k).toNat))).length<=256)(fy:(ia ((b.m*2^(b.e-k).toNat)-(a.m*2^(a.e-k).toNat))).length<=256)(Hr:a.neg=b.neg->iR a b=canon a.neg ((a.m*2^(a.e-k).toNat)+(b.m*2^(b.e-k).toNat)) k)(Hs:a.neg≠b.neg->(b.m*2^(b.e-k).toNat)<=(a.m*2^(a.e-k).toNat)->iR a b=canon a.neg ((a.m*2^(a.e-k).toNat)-(b.m*2^(b.e-k).toNat)) k)(Ht:a.neg≠b.neg->(a.m*2^(a.e-k).toNat)<(b.m*2^(b.e-k).toNat)->iR a b=canon b.neg ((b.m*2^(b.e-k).toNat)-(a.m*2^(a.e-k).toNat)) k)(hn:¬(4097<max a.iI b.iI-k/\(1<a.iI-b.iI\/1<b.iI-a.iI))):gW 239 [ib a,ib b] (.ik [ib (nf (iR a b)),iP (qg (iR a b))]):=by
 have ta:-16384<=a.iI/\a.iI<=16384:=by
  unfold Dy.iI;rw[bh a0];have:=ha.range.resolve_left a0;have:=ha.exp;omega
 have tb:-16384<=b.iI/\b.iI<=16384:=by
  unfold Dy.iI;rw[bh b0];have:=hb.range.resolve_left b0;have:=hb.exp;omega
 exact aj call239 func239 (aa [ah 18 (((ia a.m).length:Int)==0) (oF (pQ a0)),ah 23 (((ia b.m).length:Int)==0) (oF (pQ b0)),.o 41 (al (if b.e<a.e then b.e else a.e) k (by rw[<-hk];split<;>omega)),af [ib a] (sJ _ aB),af [ib b] (sJ _ aB),.o 48 (al (if(Dy.iI b)>(Dy.iI a)then(Dy.iI b)else(Dy.iI a)) (max a.iI b.iI) aK),iA ((max a.iI b.iI)-k) aA]<|.w (4097<((max a.iI b.iI)-k))
  (λk1=>aa [tB 51 (bn k1),iA ((Dy.iI a)-(Dy.iI b)) aA]<|.w (1<((Dy.iI a)-(Dy.iI b)))
   (λk2=>.x (by exact absurd ⟨k1,.inl k2⟩ hn))
   (λk2=>aa [tB 56 (bp k2),iA ((Dy.iI b)-(Dy.iI a)) aA]<|.w (1<((Dy.iI b)-(Dy.iI a)))
    (λk3=>.x (by exact absurd ⟨k1,.inr k3⟩ hn))
    (λk3=>aa [tB 61 (bp k3)]<|WS a b ha hb a0 b0 k hk la lb e1 e2 e3 fa fb fab fx fy Hr Hs Ht)))
  (λk1=>aa [tB 51 (bp k1)]<|WS a b ha hb a0 b0 k hk la lb e1 e2 e3 fa fb fab fx fy Hr Hs Ht)) 
def Yw(a b:Dy)(ha:a.ic)(hb:b.ic)(a0:a.m≠0)(b0:b.m≠0)(k:Int)(hk:min a.e b.e=k)(e1:-16384<=k)(h1:4097<max a.iI b.iI-k)(h2:1<a.iI-b.iI\/1<b.iI-a.iI):gW 239 [ib a,ib b] (.ik [ib iL,iP 9]):=by
 have ta:-16384<=a.iI/\a.iI<=16384:=by
  unfold Dy.iI;rw[bh a0];have:=ha.range.resolve_left a0;have:=ha.exp;omega
 have tb:-16384<=b.iI/\b.iI<=16384:=by
  unfold Dy.iI;rw[bh b0];have:=hb.range.resolve_left b0;have:=hb.exp;omega
 exact aj call239 func239 (aa [ah 18 (((ia a.m).length:Int)==0) (oF (pQ a0)),ah 23 (((ia b.m).length:Int)==0) (oF (pQ b0)),.o 41 (al (if b.e<a.e then b.e else a.e) k (by rw[<-hk];split<;>omega)),af [ib a] (sJ _ aB),af [ib b] (sJ _ aB),.o 48 (al (if(Dy.iI b)>(Dy.iI a)then(Dy.iI b)else(Dy.iI a)) (max a.iI b.iI) aK),iA ((max a.iI b.iI)-k) aA,tB 51 (bn h1),
  iA ((Dy.iI a)-(Dy.iI b)) aA]<|.w (1<((Dy.iI a)-(Dy.iI b)))
  (λk1=>ae [tB 56 (bn k1),.o 64 (.e tc:ai (.agg an) (ib iL))])
  (λk1=>aa [tB 56 (bp k1),iA ((Dy.iI b)-(Dy.iI a)) aA]<|.w (1<((Dy.iI b)-(Dy.iI a)))
   (λk2=>ae [tB 61 (bn k2),.o 64 (.e tc:ai (.agg an) (ib iL))])
   (λk2=>.x aA))) 
def Yu(a b:Dy)(hb:b.ic)(a0:a.m=0):gW 239 [ib a,ib b] (.ik [ib b,iP 0]):=
 aj call239 func239 (ae [ag 18 (((ia a.m).length:Int)==0) (r9 (uI.2 a0)),ag 28 (((ia a.m).length:Int)==0) (r9 (uI.2 a0)),.c (by have h:=B8 b.neg b.m b.e hb.ia (by have:=hb.exp;omega) (by have:=hb.exp;omega);rwa[hb.canon.AB]at h:gW 123 [bP b.neg,iz (ia b.m),iP b.e] (ib b))]) 
def Yv(a b:Dy)(ha:a.ic)(a0:a.m≠0)(b0:b.m=0):gW 239 [ib a,ib b] (.ik [ib a,iP 0]):=
 aj call239 func239 (ae [ah 18 (((ia a.m).length:Int)==0) (oF (pQ a0)),ag 23 (((ia b.m).length:Int)==0) (r9 (uI.2 b0)),ah 28 (((ia a.m).length:Int)==0) (oF (pQ a0)),.c (by have h:=B8 a.neg a.m a.e ha.ia (by have:=ha.exp;omega) (by have:=ha.exp;omega);rwa[ha.canon.AB]at h:gW 123 [bP a.neg,iz (ia a.m),iP a.e] (ib a))]) 
def Yx(a b:Dy)(ha:a.ic)(hb:b.ic):gW 239 [ib a,ib b] (.ik [ib (nf (iR a b)),iP (qg (iR a b))]):=by
 by_cases a0:a.m=0
 .rw [show iR a b=b by unfold iR;rw[bj a0],DS hb.range,GK hb.range];exact Yu a b hb a0
 by_cases b0:b.m=0
 .rw [show iR a b=a by unfold iR;rw[bh a0,bj b0],DS ha.range,GK ha.range];exact Yv a b ha a0 b0
 obtain⟨k,hk⟩:∃ k,min a.e b.e=k:=⟨_,rfl⟩
 have xa:=ha.exp;have xb:=hb.exp;by_cases hn:4097<max a.iI b.iI-k/\(1<a.iI-b.iI\/1<b.iI-a.iI)
 .have kg:=aiS ha hb a0 b0 hk hn.1 hn.2;rw[KS kg,P3 kg];exact Yw a b ha hb a0 b0 k hk aA hn.1 hn.2
 .obtain ⟨f1,f2⟩:=aiT ha hb a0 b0 hk hn;have len:∀ {m:Nat},iy m<=4098->(ia m).length<=256:=λh=>bK (Ud (k:=129) (bK h aC)) aC 
  refine Yy a b ha hb a0 b0 k hk ha.ia hb.ia aA aA aA (len aA) (len aA) (len (YH f1 f2)) (len (bK (vh (eA _ _)) aA)) (len (bK (vh (eA _ _)) aA)) (λh=>?_) (λh h'=>aiP a0 b0 hk h h') (λh h'=>aiQ a0 b0 hk h h') hn;have:=aiR (s:=a.neg) a0 b0 hk;rw[<-this,show(⟨a.neg,b.m,b.e⟩:Dy)=b by rw[h]]
def PB(a b:Dy)(ha:a.ic)(hb:b.ic):gW 186 [ib a,ib b] (.ik [ib (nf (iR a (kB b))),iP (qg (iR a (kB b)))]):=by
 have hn:=xK hb;exact aj call186 func186 (ae [af [ib a] (rT _ aB),af [ib b] (rT _ aB),af [ib b] (xp _ aB),af [ib a,ib (kB b)] (Yx _ _ aB aB)]) 
def X8(k:Int)(h1:-32768<=k)(h2:k<=32768):gW 183 [iP k] (bP true):=
 aj call183 func183 (ae [tT 4 ((-32768)<=k) aA,tT 7 (k<=32768) aA]) 
def KF(d:Dy)(k:Int)(hv:d.ic)(h1:-32768<=k)(h2:k<=32768):gW 107 [ib d,iP k] (.ik [ib (nf (canon d.neg d.m (d.e+k))),iP (qg (canon d.neg d.m (d.e+k)))]):=by
 have hl:=hv.ia;have he:=hv.exp;have kV:=PR (o9 d.m) hl d.neg (d.e+k);obtain⟨nh,rH⟩:=PQ (o9 d.m) hl d.neg (d.e+k) aA aA;rw[lW]at kV nh rH;exact aj call107 func107 (ae [af [ib d] (rT _ aB),.c (X8 k aA aA),iA (d.e+k) aA,af [bP d.neg,iz (ia d.m),iP (d.e+k)] (B8 _ _ _ aA aA aA),af [ib (canon d.neg d.m (d.e+k))] (Gw _ aA aA aA)]) 
def Pr(n:Nat)(h:n<4294967296):gW 71 [iP n] (ib (kO (n:Int))):=by
 have ok2:iM [n%4294967296,n/4294967296%4294967296]:=iM.cons (bI _ aC) (iM.cons (bI _ aC) iM.nil);exact aj call71 func71 (aa [.o 5 (.int (rz _ aA):ai (.v (.int .u64 (IntKind.u64.wrap (n:Int)))) (.v (.int .u64 (n:Int)))),tF 7 ((n:Int)<0) aA,tF 11 ((n:Int)<0) aA,.o 13 (.int (Aq _):ai (.v (.int .u32 (IntKind.u32.wrap (n:Int)))) (.v (.int .u32 ((n%4294967296:Nat):Int)))),.a (aA:0<=(32:Int)/\(32:Int)<=((64:Nat):Int)),.o 15 (.int (Oq _):ai (.v (.int .u64 ((n:Int)/2^32))) (.v (.int .u64 ((n/4294967296:Nat):Int)))),.o 16 (.int (Aq _):ai (.v (.int .u32 (IntKind.u32.wrap ((n/4294967296:Nat):Int)))) (.v (.int .u32 (((n/4294967296)%4294967296:Nat):Int)))),.o 17 (.e (Xh _ _):ai (.sl false 2 1 λi_ j_=>[.v (.int .u32 ((n%4294967296:Nat):Int)),.v (.int .u32 (((n/4294967296)%4294967296:Nat):Int))].getD (i_*1+j_) (.v (.bool false))) (iz [n%4294967296,(n/4294967296)%4294967296])),af [bP false,iz [n%4294967296,(n/4294967296)%4294967296],iP 0] (QS _ _ _ ok2 aF aC aC)]<|rQ (ib (canon false (val [n%4294967296,(n/4294967296)%4294967296]) 0)) (ib (kO (n:Int))) (by rw[Xp,(aA:n%4294967296+4294967296*(n/4294967296%4294967296)=n),CK])) 
def adx:kO 1=⟨false,1,0⟩:=by rw[show(1:Int)=((1:Nat):Int)from rfl,CK];exact VD
def X9:gW 71 [iP 1] (ib ⟨false,1,0⟩):=by
 have:=Pr 1 aC;rwa[show((1:Nat):Int)=1 from rfl,adx]at this
def KD(d:Dy)(p:Nat)(hd:d.ic)(iu:8<=p)(ie:p<=512):gW 240 [ib d,iP p] (.ik [ib (jd d p false),iP (jI d p false)]):=
 aj call240 func240 (ae [.c (Jx d p false aB aA aA)]) 
def KE(d:Dy)(p:Nat)(hd:d.ic)(iu:8<=p)(ie:p<=512):gW 241 [ib d,iP p] (.ik [ib (jd d p true),iP (jI d p true)]):=
 aj call241 func241 (ae [.c (Jx d p true aB aA aA)]) 
def N2(d:Dy)(p:Nat)(up:Bool)(N:Nat)(h:(jr d p up N).2≠0):∀ k,jr d p up (N+k)=jr d p up N
 | 0=>rfl
 |k+1=>by
  have ih:=N2 d p up N h k;show(if(jr d p up (N+k)).2≠0 then jr d p up (N+k)else _)=_;rw[ih,bj h]
def Aj{d:Dy}{p:Nat}{up:Bool}{k:Nat}(h:(jr d p up k).2=0):jr d p up (k+1)=(jd (mI (jr d p up k).1 d) p up,jI (mI (jr d p up k).1 d) p up):=by
 show(if(jr d p up k).2≠0 then _ else _)=_;rw[bh (aks h)];rfl
def Yj(d:Dy)(n p:Nat)(hd:d.ic)(hn:1<=n)(lI:n<=16)(iu:8<=p)(ie:p<=512)(jj:∀ x,x<n-1->(jr d p false x).2=0):gW 363 [ib d,iP n,iP p,.fn 240 [],.fn 120 []] (.ik [ib (jr d p false (n-1)).1,iP (jr d p false (n-1)).2]):=
 aj call363 func363 (ae [.c (KD d p aB aA aA),.s (Sp.jE (Pw d n p) 0 (n-1) aA (λx hx nF=>by
    have oZ:=jj x aA;have hv:=y7 d (aA:1<=p) (aA:p<=4096) false x;exact iF (aa [tT 24 (((x+1:Nat):Int)<n) aA,ag 27 (((jr d p false x).2)==0) (by rw[oZ];rfl),.c (Jv ((jr d p false x).1) d p aB aB aA aA),
     iA (((x+1:Nat):Int)+1) aA]<|.e (ae [.o 13 (al (jI (mI ((jr d p false x).1) d) p false) ((jr d p false (x+1)).2) (by rw[Aj oZ])),.b 12 (.iD (by rw[Aj oZ]):Bx.le (.cells 37 (jt (jd (mI ((jr d p false x).1) d) p false))) (.cells 37 (jt ((jr d p false (x+1)).1))))])) aD)
  (λhx=>by
    exact iF (ae [tF 24 ((((n-1)+1:Nat):Int)<n) aA]) aD) aG:jA 3 f363 (Pw d n p 0) (.exit 0) ⟨41,true,[(13,.e (iP ((jr d p false (n-1)).2))),(12,.box 12 0),(10,.box 10 0)],[(12,.cells 37 (jt ((jr d p false (n-1)).1))),(10,.cells 37 an)]⟩) (ae [.o 14 (al 1 ((0+1:Nat):Int) rfl),.o 13 (al (jI d p false) ((jr d p false 0).2) rfl),.b 12 (.iD rfl:Bx.le (.cells 37 (jt (jd d p false))) (.cells 37 (jt ((jr d p false 0).1))))])]) 
def Yk(d:Dy)(n N p:Nat)(hd:d.ic)(hn:1<=n)(lI:n<=16)(iu:8<=p)(ie:p<=512)(pV:N<n-1)(jj:∀ x,x<N->(jr d p false x).2=0)(hN:(jr d p false N).2≠0):gW 363 [ib d,iP n,iP p,.fn 240 [],.fn 120 []] (.ik [ib (jr d p false N).1,iP (jr d p false N).2]):=
 aj call363 func363 (ae [.c (KD d p aB aA aA),.s (Sp.jE (Px d n N p) 0 N aA (λx hx nF=>by
    have oZ:=jj x aA;have hv:=y7 d (aA:1<=p) (aA:p<=4096) false x;exact iF (aa [tT 24 (((x+1:Nat):Int)<n) aA,ag 27 (((jr d p false x).2)==0) (by rw[oZ];rfl),.c (Jv ((jr d p false x).1) d p aB aB aA aA),
     iA (((x+1:Nat):Int)+1) aA]<|.e (ae [.o 13 (al (jI (mI ((jr d p false x).1) d) p false) ((jr d p false (x+1)).2) (by rw[Aj oZ])),.b 12 (.iD (by rw[Aj oZ]):Bx.le (.cells 37 (jt (jd (mI ((jr d p false x).1) d) p false))) (.cells 37 (jt ((jr d p false (x+1)).1))))])) aD)
  (λhx=>by
    exact iF (ae [tT 24 (((N+1:Nat):Int)<n) aA,ah 27 (((jr d p false N).2)==0) (by simpa using hN)]) aD) aG:jA 3 f363 (Px d n N p 0) (.exit 0) ⟨41,true,[(13,.e (iP ((jr d p false N).2))),(12,.box 12 0),(10,.box 10 0)],[(12,.cells 37 (jt ((jr d p false N).1))),(10,.cells 37 an)]⟩) (ae [.o 14 (al 1 ((0+1:Nat):Int) rfl),.o 13 (al (jI d p false) ((jr d p false 0).2) rfl),.b 12 (.iD rfl:Bx.le (.cells 37 (jt (jd d p false))) (.cells 37 (jt ((jr d p false 0).1))))])]) 
def Yl(d:Dy)(n p:Nat)(hd:d.ic)(hn:1<=n)(lI:n<=16)(iu:8<=p)(ie:p<=512):gW 363 [ib d,iP n,iP p,.fn 240 [],.fn 120 []] (.ik [ib (jr d p false (n-1)).1,iP (jr d p false (n-1)).2]):=by
 by_cases h:∃ x,x<n-1/\decide ((jr d p false x).2≠0)=true
 .obtain ⟨N,h1,h2,h3⟩:=tK h;have hN:(jr d p false N).2≠0:=cK h2;have:=Yk d n N p hd hn lI iu ie h1 (λx hx=>by simpa using h3 x hx) hN;have e:=N2 d p false N hN (n-1-N);rw[(aA:N+(n-1-N)=n-1)]at e;rw[e];exact this
 .exact Yj d n p hd hn lI iu ie λx hx=>ch λq=>h ⟨x,hx,bn q⟩
def Ym(d:Dy)(n p:Nat)(hd:d.ic)(hn:1<=n)(lI:n<=16)(iu:8<=p)(ie:p<=512)(jj:∀ x,x<n-1->(jr d p true x).2=0):gW 363 [ib d,iP n,iP p,.fn 241 [],.fn 121 []] (.ik [ib (jr d p true (n-1)).1,iP (jr d p true (n-1)).2]):=
 aj call363 func363 (ae [.c (KE d p aB aA aA),.s (Sp.jE (Py d n p) 0 (n-1) aA (λx hx nF=>by
    have oZ:=jj x aA;have hv:=y7 d (aA:1<=p) (aA:p<=4096) true x;exact iF (aa [tT 24 (((x+1:Nat):Int)<n) aA,ag 27 (((jr d p true x).2)==0) (by rw[oZ];rfl),.c (N9 ((jr d p true x).1) d p aB aB aA aA),
     iA (((x+1:Nat):Int)+1) aA]<|.e (ae [.o 13 (al (jI (mI ((jr d p true x).1) d) p true) ((jr d p true (x+1)).2) (by rw[Aj oZ])),.b 12 (.iD (by rw[Aj oZ]):Bx.le (.cells 37 (jt (jd (mI ((jr d p true x).1) d) p true))) (.cells 37 (jt ((jr d p true (x+1)).1))))])) aD)
  (λhx=>by
    exact iF (ae [tF 24 ((((n-1)+1:Nat):Int)<n) aA]) aD) aG:jA 3 f363 (Py d n p 0) (.exit 0) ⟨41,true,[(13,.e (iP ((jr d p true (n-1)).2))),(12,.box 12 0),(10,.box 10 0)],[(12,.cells 37 (jt ((jr d p true (n-1)).1))),(10,.cells 37 an)]⟩) (ae [.o 14 (al 1 ((0+1:Nat):Int) rfl),.o 13 (al (jI d p true) ((jr d p true 0).2) rfl),.b 12 (.iD rfl:Bx.le (.cells 37 (jt (jd d p true))) (.cells 37 (jt ((jr d p true 0).1))))])]) 
def Yn(d:Dy)(n N p:Nat)(hd:d.ic)(hn:1<=n)(lI:n<=16)(iu:8<=p)(ie:p<=512)(pV:N<n-1)(jj:∀ x,x<N->(jr d p true x).2=0)(hN:(jr d p true N).2≠0):gW 363 [ib d,iP n,iP p,.fn 241 [],.fn 121 []] (.ik [ib (jr d p true N).1,iP (jr d p true N).2]):=
 aj call363 func363 (ae [.c (KE d p aB aA aA),.s (Sp.jE (Pz d n N p) 0 N aA (λx hx nF=>by
    have oZ:=jj x aA;have hv:=y7 d (aA:1<=p) (aA:p<=4096) true x;exact iF (aa [tT 24 (((x+1:Nat):Int)<n) aA,ag 27 (((jr d p true x).2)==0) (by rw[oZ];rfl),.c (N9 ((jr d p true x).1) d p aB aB aA aA),
     iA (((x+1:Nat):Int)+1) aA]<|.e (ae [.o 13 (al (jI (mI ((jr d p true x).1) d) p true) ((jr d p true (x+1)).2) (by rw[Aj oZ])),.b 12 (.iD (by rw[Aj oZ]):Bx.le (.cells 37 (jt (jd (mI ((jr d p true x).1) d) p true))) (.cells 37 (jt ((jr d p true (x+1)).1))))])) aD)
  (λhx=>by
    exact iF (ae [tT 24 (((N+1:Nat):Int)<n) aA,ah 27 (((jr d p true N).2)==0) (by simpa using hN)]) aD) aG:jA 3 f363 (Pz d n N p 0) (.exit 0) ⟨41,true,[(13,.e (iP ((jr d p true N).2))),(12,.box 12 0),(10,.box 10 0)],[(12,.cells 37 (jt ((jr d p true N).1))),(10,.cells 37 an)]⟩) (ae [.o 14 (al 1 ((0+1:Nat):Int) rfl),.o 13 (al (jI d p true) ((jr d p true 0).2) rfl),.b 12 (.iD rfl:Bx.le (.cells 37 (jt (jd d p true))) (.cells 37 (jt ((jr d p true 0).1))))])]) 
def Yo(d:Dy)(n p:Nat)(hd:d.ic)(hn:1<=n)(lI:n<=16)(iu:8<=p)(ie:p<=512):gW 363 [ib d,iP n,iP p,.fn 241 [],.fn 121 []] (.ik [ib (jr d p true (n-1)).1,iP (jr d p true (n-1)).2]):=by
 by_cases h:∃ x,x<n-1/\decide ((jr d p true x).2≠0)=true
 .obtain ⟨N,h1,h2,h3⟩:=tK h;have hN:(jr d p true N).2≠0:=cK h2;have:=Yn d n N p hd hn lI iu ie h1 (λx hx=>by simpa using h3 x hx) hN;have e:=N2 d p true N hN (n-1-N);rw[(aA:N+(n-1-N)=n-1)]at e;rw[e];exact this
 .exact Ym d n p hd hn lI iu ie λx hx=>ch λq=>h ⟨x,hx,bn q⟩
def Pj(d:Dy)(n p:Nat)(hd:d.ic)(h0:¬d.kf<0)(hn:1<=n)(lI:n<=16)(iu:8<=p)(ie:p<=512):gW 350 [ib d,iP n,iP p,bP false] (.ik [ib (ln d n p false).1,iP (ln d n p false).2]):=
 aj call350 func350 (aa [af [ib d] (uf _ aB),tB 14 (bp h0),.c (Yl d n p aB aA aA aA aA)]<|rQ (.ik [ib ((jr d p false (n-1)).1),iP ((jr d p false (n-1)).2)]) (.ik [ib (ln d n p false).1,iP (ln d n p false).2]) (by unfold ln;rw[bh h0])) 
def Pk(d:Dy)(n p:Nat)(hd:d.ic)(h0:¬d.kf<0)(hn:1<=n)(lI:n<=16)(iu:8<=p)(ie:p<=512):gW 350 [ib d,iP n,iP p,bP true] (.ik [ib (ln d n p true).1,iP (ln d n p true).2]):=
 aj call350 func350 (aa [af [ib d] (uf _ aB),tB 14 (bp h0),.c (Yo d n p aB aA aA aA aA)]<|rQ (.ik [ib ((jr d p true (n-1)).1),iP ((jr d p true (n-1)).2)]) (.ik [ib (ln d n p true).1,iP (ln d n p true).2]) (by unfold ln;rw[bh h0])) 
def WG{d:Dy}(h:d.kf<0):¬(kB d).kf<0:=by
 rw[(xP _).2,y8];have:=(xP d).2.1 h
 grind
def X3(d:Dy)(n p:Nat)(hd:d.ic)(h0:¬d.kf<0)(hn:1<=n)(lI:n<=16)(iu:8<=p)(ie:p<=512):gW 350 [ib d,iP (n:Int),iP (p:Int),bP false] (.ik [ib (jr d p false (n-1)).1,iP (jr d p false (n-1)).2]):=by
 have:=Pj d n p hd h0 hn lI iu ie;unfold ln at this;rwa[bh h0]at this
def X4(d:Dy)(n p:Nat)(hd:d.ic)(h0:¬d.kf<0)(hn:1<=n)(lI:n<=16)(iu:8<=p)(ie:p<=512):gW 350 [ib d,iP (n:Int),iP (p:Int),bP true] (.ik [ib (jr d p true (n-1)).1,iP (jr d p true (n-1)).2]):=by
 have:=Pk d n p hd h0 hn lI iu ie;unfold ln at this;rwa[bh h0]at this
def X1(d:Dy)(n p:Nat)(hd:d.ic)(h0:d.kf<0)(hn:1<=n)(lI:n<=16)(iu:8<=p)(ie:p<=512):gW 350 [ib d,iP n,iP p,bP false] (.ik [ib (ln d n p false).1,iP (ln d n p false).2]):=by
 have Eu:=xK hd;have h1:=WG h0;have hv:=y7 (kB d) (aA:1<=p) (aA:p<=4096) true (n-1);exact aj call350 func350 (aa [af [ib d] (uf _ aB),tB 14 (bn h0),af [ib d] (xp _ aB),af [ib (kB d),iP n,iP p,bP true] (X4 _ _ _ Eu h1 hn lI iu ie),af [ib ((jr (kB d) p true (n-1)).1)] (xp _ aB)]<|rQ (.ik [ib (kB ((jr (kB d) p true (n-1)).1)),iP ((jr (kB d) p true (n-1)).2)]) (.ik [ib (ln d n p false).1,iP (ln d n p false).2]) (by unfold ln;rw[bj h0];rfl)) 
def Pl(d:Dy)(n p:Nat)(hd:d.ic)(hn:1<=n)(lI:n<=16)(iu:8<=p)(ie:p<=512):gW 350 [ib d,iP (n:Int),iP (p:Int),bP false] (.ik [ib (ln d n p false).1,iP (ln d n p false).2]):=by
 by_cases h0:d.kf<0
 .exact X1 d n p hd h0 hn lI iu ie
 .exact Pj d n p hd h0 hn lI iu ie
def X2(d:Dy)(n p:Nat)(hd:d.ic)(h0:d.kf<0)(hn:1<=n)(lI:n<=16)(iu:8<=p)(ie:p<=512):gW 350 [ib d,iP n,iP p,bP true] (.ik [ib (ln d n p true).1,iP (ln d n p true).2]):=by
 have Eu:=xK hd;have h1:=WG h0;have hv:=y7 (kB d) (aA:1<=p) (aA:p<=4096) false (n-1);exact aj call350 func350 (aa [af [ib d] (uf _ aB),tB 14 (bn h0),af [ib d] (xp _ aB),af [ib (kB d),iP n,iP p,bP false] (X3 _ _ _ Eu h1 hn lI iu ie),af [ib ((jr (kB d) p false (n-1)).1)] (xp _ aB)]<|rQ (.ik [ib (kB ((jr (kB d) p false (n-1)).1)),iP ((jr (kB d) p false (n-1)).2)]) (.ik [ib (ln d n p true).1,iP (ln d n p true).2]) (by unfold ln;rw[bj h0];rfl)) 
def Pm(d:Dy)(n p:Nat)(hd:d.ic)(hn:1<=n)(lI:n<=16)(iu:8<=p)(ie:p<=512):gW 350 [ib d,iP (n:Int),iP (p:Int),bP true] (.ik [ib (ln d n p true).1,iP (ln d n p true).2]):=by
 by_cases h0:d.kf<0
 .exact X2 d n p hd h0 hn lI iu ie
 .exact Pk d n p hd h0 hn lI iu ie
def Yp(x:Iv)(n p:Nat)(hx:x.ic)(ha:x.all=true)(hn:n<=16)(iu:8<=p)(ie:p<=512):gW 317 [ix x,iP n,iP p] (ix (qs x n p)):=
 aj call317 func317 (aa [.o 12 (.e (kT _):ai (.sl true 1 7 λi_ j_=>(iQ x).getD (i_*7+j_) (.v (.bool false))) (hH [x])),af [hH [x]] (rK _ aB),ah 13 (!x.all) (by rw[ha];rfl),.c rL]<|rQ (ix gZ) (ix (qs x n p)) (by unfold qs;rw[bj ha])) 
def Ys(x:Iv)(n p:Nat)(hx:x.ic)(ha:x.all=false)(h0:n=0)(iu:8<=p)(ie:p<=512):gW 317 [ix x,iP n,iP p] (ix (qs x n p)):=by
 have v1:=VE;exact aj call317 func317 (aa [.o 12 (.e (kT _):ai (.sl true 1 7 λi_ j_=>(iQ x).getD (i_*7+j_) (.v (.bool false))) (hH [x])),af [hH [x]] (rK _ aB),ag 13 (!x.all) (by rw[ha];rfl),af [iP p] (zX _),ag 17 (kF (p:Int)) (oG.2 ⟨aA,aA⟩),tF 22 ((n:Int)<0) aA,tF 26 (16<(n:Int)) aA,ag 30 ((n:Int)==0) (r9 h0),af [iP 1] X9,.c (Bi (Dy.mk false 1 0) aB)]<|rQ (ix (iY (Dy.mk false 1 0))) (ix (qs x n p)) (by unfold qs;rw[bh (by rw[ha];decide),bj h0])) 
def Yq(x:Iv)(n p:Nat)(hx:x.ic)(ha:x.all=false)(h0:n≠0)(hn:n<=16)(he:n%2=0)(iu:8<=p)(ie:p<=512):gW 317 [ix x,iP n,iP p] (ix (qs x n p)):=by
 have va:=O9 hx;obtain⟨w1,w2⟩:=va.mM;exact aj call317 func317 (aa [.o 12 (.e (kT _):ai (.sl true 1 7 λi_ j_=>(iQ x).getD (i_*7+j_) (.v (.bool false))) (hH [x])),af [hH [x]] (rK _ aB),ag 13 (!x.all) (by rw[ha];rfl),af [iP p] (zX _),ag 17 (kF (p:Int)) (oG.2 ⟨aA,aA⟩),tF 22 ((n:Int)<0) aA,tF 26 (16<(n:Int)) aA,ah 30 ((n:Int)==0) (oF h0),.a (aA:0<(2:Int)),.o 34 (al (Int.tmod (n:Int) 2) ((n%2:Nat):Int) (by rw[akt aA];omega)),ag 35 (((n%2:Nat):Int)==0) (r9 he),.c (adE x aB),af [ib ((oL x).lo),iP n,iP p,bP false] (Pl _ _ _ aB aA aA aA aA),af [ib ((oL x).hi),iP n,iP p,bP true] (Pm _ _ _ aB aA aA aA aA),.c (Ix ((ln ((oL x).lo) n p false).1) ((ln ((oL x).hi) n p true).1) ((ln ((oL x).lo) n p false).2) ((ln ((oL x).hi) n p true).2))]<|rQ (ix (pF ((ln ((oL x).lo) n p false).1) ((ln ((oL x).lo) n p false).2) ((ln ((oL x).hi) n p true).1) ((ln ((oL x).hi) n p true).2))) (ix (qs x n p)) (by unfold qs tP;rw[bh (by rw[ha];decide),bh h0,bj he])) 
def Yr(x:Iv)(n p:Nat)(hx:x.ic)(ha:x.all=false)(h0:n≠0)(hn:n<=16)(he:¬n%2=0)(iu:8<=p)(ie:p<=512):gW 317 [ix x,iP n,iP p] (ix (qs x n p)):=by
 have va:=hx;obtain⟨w1,w2⟩:=va.mM;exact aj call317 func317 (aa [.o 12 (.e (kT _):ai (.sl true 1 7 λi_ j_=>(iQ x).getD (i_*7+j_) (.v (.bool false))) (hH [x])),af [hH [x]] (rK _ aB),ag 13 (!x.all) (by rw[ha];rfl),af [iP p] (zX _),ag 17 (kF (p:Int)) (oG.2 ⟨aA,aA⟩),tF 22 ((n:Int)<0) aA,tF 26 (16<(n:Int)) aA,ah 30 ((n:Int)==0) (oF h0),.a (aA:0<(2:Int)),.o 34 (al (Int.tmod (n:Int) 2) ((n%2:Nat):Int) (by rw[akt aA];omega)),ah 35 (((n%2:Nat):Int)==0) (oF he),af [ib x.lo,iP n,iP p,bP false] (Pl _ _ _ aB aA aA aA aA),af [ib x.hi,iP n,iP p,bP true] (Pm _ _ _ aB aA aA aA aA),.c (Ix ((ln x.lo n p false).1) ((ln x.hi n p true).1) ((ln x.lo n p false).2) ((ln x.hi n p true).2))]<|rQ (ix (pF ((ln x.lo n p false).1) ((ln x.lo n p false).2) ((ln x.hi n p true).1) ((ln x.hi n p true).2))) (ix (qs x n p)) (by unfold qs tP;rw[bh (by rw[ha];decide),bh h0,bh he])) 
def Pt(x:Iv)(n p:Nat)(hx:x.ic)(hn:n<=16)(iu:8<=p)(ie:p<=512):gW 317 [ix x,iP (n:Int),iP (p:Int)] (ix (qs x n p)):=by
 cases ha:x.all with
 |true=>exact Yp x n p hx ha hn iu ie
 |false=>
  by_cases h0:n=0
  .exact Ys x n p hx ha h0 iu ie
  .by_cases he:n%2=0
   .exact Yq x n p hx ha h0 hn he iu ie
   .exact Yr x n p hx ha h0 hn he iu ie
def Gx(x y:Iv):xD x y=(y.all||(!x.all&&(decide (ke y.lo x.lo<=0)&&decide (ke x.hi y.hi<=0)))):=rfl
def Pq(x y:Iv)(hx:x.ic)(hy:y.ic):gW 56 [ix x,ix y] (bP (xD x y)):=by
 obtain⟨v1,v2⟩:=hx.mM;obtain⟨v3,v4⟩:=hy.mM;exact aj call56 func56 (aa [.c (sX x aB),.c (sX y aB)]<|.w (y.all=true)
  (λk1=>aa [tB 14 k1]<|rQ (bP true) (bP (xD x y)) (by rw[Gx];simp[k1]))
  (λk1=>aa [tB 14 (aZ k1)]<|.w (x.all=true)
   (λk2=>aa [tB 17 k2]<|rQ (bP false) (bP (xD x y)) (by rw[Gx];simp[k1,k2]))
   (λk2=>aa [tB 17 (aZ k2),af [ib y.lo,ib x.lo] (pK _ _ aB aB)]<|.w ((ke y.lo x.lo)<=0)
    (λk3=>aa [tB 25 (bn k3),af [ib x.hi,ib y.hi] (pK _ _ aB aB)]<|rQ (bP (decide ((ke x.hi y.hi)<=0))) (bP (xD x y)) (by rw[Gx];simp[k1,k2,k3]))
    (λk3=>aa [tB 25 (bp k3)]<|rQ (bP false) (bP (xD x y)) (by rw[Gx];simp[k1,k2,k3]))))) 
def aax(k:Nat)(w:World)(h0:0<k)(hn:k<4294967296)(tn:Tb w):
 Calls prog 71 #[.int .i64 (-(k:Int))] w (yb w (canon true k 0)):=by
 have hd:(k:Int)/4294967296=0:= aA ;have iJ:(-(k:Int))<0:= aA ;have xv:decide ((-(k:Int))<0)=true:=bn iJ;have hu:IntKind.u64.wrap (-(k:Int))=18446744073709551616-k:=by rw[IntKind.wrap_u64];omega
 have hs:IntKind.u64.wrap (-(18446744073709551616-(k:Int)))=k:=by rw[IntKind.wrap_u64];omega
 have Hl:IntKind.u32.wrap (k:Int)=k:=by rw[IntKind.wrap_u32];omega
 have ht:(iH [k,0]).length<=256:=by have:=pJ [k,0];unfold mo at this;simp at this;omega
 have HC:=akH (λ(A:Option Addr) c w (h:Sl w A c [k,0]) (hT:Tb w)=>G2 true A c [k,0] 0 w h aF ht aC aC hT);have hv:val [k,0]=k:= aF ;rw[hv]at HC;clear hv ht;generalize canon true k 0=d at *
 generalize hN:(-(k:Int))=N at *
 go_enter func71,ntmps71;go_wp2_with fail;refine(HC.out _ _ _ (Sl.J9 _ _ aF _ _ k 0 rfl rfl hn aC) (tn.below (by first|exact(iT.alloc _ _).trans (iT.alloc _ _)|exact iT.alloc _ _))).mono ?_;rintro r w1 ⟨A1,c1,rfl,uy,kV⟩;have lG:iT (w.alloc (.cells #[.bool false,.slice none 0 0,.int .i64 0] 37)) w1:=(iT.alloc _ _).trans kV;have bx:=(jF.new w false none 0 0 0).ext lG;have b0:=bx.c0;have b1:=bx.c1;have b2:=bx.c2;have f0:=bx.fr 0;have f1:=bx.fr 1;have f2:=bx.fr 2;go_wp2;exact yl rfl rfl rfl (bx.set _ _ _ _ _) rfl (bx.uY uy _ _ _ _ _) (jF.tS ((iT.alloc _ _).trans lG) (bl _) _ _ _ _ _)
def Av(n:Int)(h:n.natAbs<4294967296):gW 71 [iP n] (ib (kO n)):=by
 by_cases h0:0<=n
 .obtain ⟨k,rfl⟩:=gn h0;exact Pr k aA 
 .obtain ⟨k,rfl⟩:∃ k:Nat,n = -(k:Int):=⟨n.natAbs,aA⟩
  rw[Tl k aA];refine⟨call71,λw B vs hK hB hr=>?_⟩;obtain⟨v1,vs,rfl,h1,hr⟩:=hr.mW;obtain rfl:=hr.qY;obtain rfl:=iC.kD h1;exact(aax k w aA aA hK).mono λe w' h=>rd B w e w' hB h
def aid(d:Dy)(k:Int):nf (canon d.neg d.m (d.e+k))=zf d k:=by unfold nf zf;split<;>simp_all
def aie(d:Dy)(k:Int):qg (canon d.neg d.m (d.e+k))=BR d k:=by unfold qg BR;split<;>simp_all
def od(a b:Nat):Nat->Nat×Nat
 | 0=>(a,b)
 |k+1=>((od a b k).2,(od a b k).1%(od a b k).2)
def Li(a b:Nat):∀ k,od a b (k+1)=od b (a%b) k
 | 0=>rfl
 |k+1=>by
  show((od a b (k+1)).2,(od a b (k+1)).1%(od a b (k+1)).2)=_;rw[Li a b k];rfl
def Q4(a b:Nat):∀ k,Nat.gcd (od a b k).1 (od a b k).2=Nat.gcd a b
 | 0=>rfl
 |k+1=>by
  show Nat.gcd (od a b k).2 ((od a b k).1%(od a b k).2)=_;rw[<-Q4 a b k];exact(Nat.gcd_comm _ _).trans ((Nat.gcd_rec _ _).symm.trans (Nat.gcd_comm _ _))
def aaM:∀ (b a:Nat),∃ N,(∀ k,k<N->(od a b k).2≠0)/\(od a b N).2=0:=by
 intro b
 induction b using Nat.strongRecOn with
 |ind b ih=>
  intro a;by_cases h:b=0
  .exact ⟨0,λk hk=>absurd hk (bu k),h⟩
  .obtain ⟨N,h1,h2⟩:=ih (a%b) (bI a (fF h)) b;refine⟨N+1,λk hk=>?_,by rw[Li];exact h2⟩;rcases k with _|k
   .exact h
   .rw [Li];exact h1 k aA 
def rO(n d:Int)(p:Nat):Iv:=if qt n d then pF (mi (kO n) (kO d) p false) (mD (kO n) (kO d) p false) (mi (kO n) (kO d) p true) (mD (kO n) (kO d) p true)else gZ
def Tk{d:Int}(h:d≠0):(kO d).m≠0:=by
 intro q;have hq:=N4 d;rw[vP,q]at hq;have e:(d:Rat)=0:=by
  rw[<-hq];split<;>simp
 rw[show(0:Rat)=((0:Int):Rat)from rfl,Rat.intCast_inj]at e;exact h e
def QI{a b:Dy}(b0:b.m≠0){p:Nat}(hp:1<=p)(ie:p<=4096)(up:Bool):(mi a b p up).ic:=by
 unfold mi;split
 .exact oI
 .exact tl _ _ _ _ _ _ hp ie
def ahS(n d:Int){p:Nat}(hp:1<=p)(ie:p<=4096):(rO n d p).ic:=by
 unfold rO;split
 .rename_i h;obtain⟨r1,_⟩:=Js h;have d0:(kO d).m≠0:=Tk aA;unfold pF;split
  .exact lX
  .rename_i he;obtain⟨A,B⟩:=Z4 (a:=kO n) d0 hp ie;refine .inr ⟨rfl,QI d0 hp ie _,QI d0 hp ie _,?_⟩;rw[s7];exact dt (A.1 aA).2 (B.1 aA).2
 .exact lX
def RN(a b:Nat)(x:Nat):PS:=⟨12,true,[(0,.e (.v (.int .u64 (((od a b x).1:Nat):Int)))),(1,.e (.v (.int .u64 (((od a b x).2:Nat):Int))))],[]⟩
def abO(a b N:Nat)(ha:a<18446744073709551616)(hb:b<18446744073709551616)(jj:∀ k,k<N->(od a b k).2≠0)(hN:(od a b N).2=0):gW 174 [.v (.int .u64 (a:Int)),.v (.int .u64 (b:Int))] (.v (.int .u64 (((od a b N).1:Nat):Int))):=
 aj call174 func174 (ae [.s (Sp.jE (RN a b) 0 N aA (λx hx nF=>by
    have lG:=jj x aA;exact iF (aa [ag 6 ((((od a b x).2:Nat):Int) != 0) (afX (jj x aA)),.a (aA:0<((((od a b x).2:Nat):Int):Int))]<|.e (ae [.o 0 (.int aM:ai (.v (.int .u64 (((od a b x).2:Nat):Int))) (.v (.int .u64 (((od a b (x+1)).1:Nat):Int)))),.o 1 (.int aM:ai (.v (.int .u64 ((((od a b x).1)%((od a b x).2):Nat):Int))) (.v (.int .u64 (((od a b (x+1)).2:Nat):Int))))])) aD)
  (λhx=>by
    exact iF (ae [ah 6 ((((od a b N).2:Nat):Int) != 0) (afW hN)]) aD) aG:jA 1 f174 (RN a b 0) (.exit 0) ⟨12,true,[(0,.e (.v (.int .u64 (((od a b N).1:Nat):Int))))],[]⟩) (ae [.o 0 (.int aM:ai (.v (.int .u64 (a:Int))) (.v (.int .u64 (((od a b 0).1:Nat):Int)))),.o 1 (.int aM:ai (.v (.int .u64 (b:Int))) (.v (.int .u64 (((od a b 0).2:Nat):Int))))])]) 
def abP(a b:Nat)(ha:a<18446744073709551616)(hb:b<18446744073709551616):gW 174 [.v (.int .u64 (a:Int)),.v (.int .u64 (b:Int))] (.v (.int .u64 (Nat.gcd a b:Int))):=by
 obtain⟨N,h1,h2⟩:=aaM b a;have hg:=Q4 a b N;rw[h2,Nat.gcd_zero_right]at hg;rw[<-hg];exact abO a b N ha hb h1 h2
def aiu(m:Nat)(h:m<=1073741824):gW 175 [iP m] (.v (.int .u64 (m:Int))):=
 aj call175 func175 (ae [tF 4 ((m:Int)<0) aA,.o 9 (.int (rz _ aA):ai (.v (.int .u64 (IntKind.u64.wrap (m:Int)))) (.v (.int .u64 (m:Int))))]) 
def ait(m:Nat)(h0:0<m)(h:m<=1073741824):gW 175 [iP (-(m:Int))] (.v (.int .u64 (m:Int))):=
 aj call175 func175 (ae [tT 4 ((-(m:Int))<0) aA,iA (0-(-(m:Int))) aA,.o 6 (al (0-(-(m:Int))) m aA),.o 7 (.int (rz _ aA):ai (.v (.int .u64 (IntKind.u64.wrap (m:Int)))) (.v (.int .u64 (m:Int))))]) 
def WI(n:Int)(h1:-1073741824<=n)(h2:n<=1073741824):gW 175 [iP n] (.v (.int .u64 (n.natAbs:Int))):=by
 by_cases h:0<=n
 .obtain ⟨m,rfl⟩:=gn h;exact aiu m aA 
 .obtain ⟨m,rfl⟩:∃ m:Nat,n = -(m:Int):=⟨n.natAbs,aA⟩
  rw[akg,fD];exact ait m aA aA 
def FI(g:Nat):((g:Int)==1)=decide (g=1):=by
 by_cases h:g=1
 .subst h;rfl
 .rw [bp h];exact aX aA 
def N6(n d:Int):gW 103 [.agg [iP n,iP d]] (bP (qt n d)):=
 aj call103 func103 (.w (1<=d)
  (λk1=>aa [tB 5 (bn k1)]<|.w (d<=1073741824)
   (λk2=>aa [tB 9 (bn k2)]<|.w ((-1073741824)<=n)
    (λk3=>aa [tB 14 (bn k3)]<|.w (n<=1073741824)
     (λk4=>aa [tB 19 (bn k4),af [iP n] (WI _ aA aA),af [iP d] (WI _ aA aA),af [.v (.int .u64 (Int.natAbs n:Int)),.v (.int .u64 (Int.natAbs d:Int))] (abP _ _ aA aA)]<|rQ (bP ((Nat.gcd (Int.natAbs n) (Int.natAbs d):Int)==1)) (bP (qt n d)) (by unfold qt;simp[FI,k1,k2,k3,k4]))
     (λk4=>aa [tB 19 (bp k4)]<|rQ (bP false) (bP (qt n d)) (by unfold qt;simp[FI,k1,k2,k3,k4])))
    (λk3=>aa [tB 14 (bp k3)]<|rQ (bP false) (bP (qt n d)) (by unfold qt;simp[FI,k1,k2,k3])))
   (λk2=>aa [tB 9 (bp k2)]<|rQ (bP false) (bP (qt n d)) (by unfold qt;simp[FI,k1,k2])))
  (λk1=>aa [tB 5 (bp k1)]<|rQ (bP false) (bP (qt n d)) (by unfold qt;simp[FI,k1]))) 
def UH{lo hi:Dy}{e f:Int}(h:e≠0\/f≠0):pF lo e hi f=gZ:=bj h
def afg{lo hi:Dy}{e f:Int}(h:e=0)(k:f=0):pF lo e hi f=⟨lo,hi,false⟩:=bh (by rw[h,k];decide)
def ahd(n d:Int)(p:Nat)(h:qt n d=true)(iu:8<=p)(ie:p<=512):gW 275 [.agg [iP n,iP d],iP p] (ix (rO n d p)):=by
 obtain⟨r1,r2,r3,r4⟩:=Js h;have v1:=Is (n:=n) aA;have v2:=Is (n:=d) aA;have d0:(kO d).m≠0:=Tk aA;exact aj call275 func275 (aa [af [.agg [iP n,iP d]] (N6 _ _),ah 11 (!(qt n d)) (by rw[h];rfl),af [iP n] (Av _ aA),af [iP d] (Av _ aA),.c (N8 (kO n) (kO d) p aB aB aB aA aA),af [iP n] (Av _ aA),af [iP d] (Av _ aA),.c (V4 (kO n) (kO d) p aB aB aB aA aA)]<|.w ((mD (kO n) (kO d) p false)=0)
  (λk1=>aa [tB 36 (bc k1)]<|.w ((mD (kO n) (kO d) p true)=0)
   (λk2=>aa [tB 39 (bc k2)]<|rQ (ix (Iv.mk (mi (kO n) (kO d) p false) (mi (kO n) (kO d) p true) false)) (ix (rO n d p)) (by unfold rO;rw[bj h,afg k1 k2]))
   (λk2=>aa [tB 39 (bg k2),.o 41 (.e xV:ai (.agg [bP false,.v (.slice none 0 0),iP 0,bP false,.v (.slice none 0 0),iP 0,bP true]) (ix gZ))]<|rQ (ix gZ) (ix (rO n d p)) (by unfold rO;rw[bj h,UH (.inr k2)])))
  (λk1=>aa [tB 36 (bg k1),.o 41 (.e xV:ai (.agg [bP false,.v (.slice none 0 0),iP 0,bP false,.v (.slice none 0 0),iP 0,bP true]) (ix gZ))]<|rQ (ix gZ) (ix (rO n d p)) (by unfold rO;rw[bj h,UH (.inl k1)]))) 
noncomputable def Ci(x:Iv)(p:Nat):Iv:=@dite Iv (∃ y:Iv,y.ic/\gW 67 [ix x,iP (p:Int)] (ix y)) (Classical.propDecidable _) Classical.choose (λ_=>gZ)
def abv(x:Iv)(p:Nat):(Ci x p).ic:=by
 unfold Ci;split
 .rename_i h;exact(dL h).1
 .exact lX
def abu(x:Iv)(hx:x.ic)(p:Nat)(iu:8<=p)(ie:p<=512)(hF:w8):gW 67 [ix x,iP (p:Int)] (ix (Ci x p)):=by
 have h:∃ y:Iv,y.ic/\gW 67 [ix x,iP (p:Int)] (ix y):=(hF x p hx iu ie).1;unfold Ci;rw[dif_pos h];exact(dL h).2
noncomputable def Cj(x:Iv)(p:Nat):Iv:=@dite Iv (∃ y:Iv,y.ic/\gW 318 [ix x,iP (p:Int)] (ix y)) (Classical.propDecidable _) Classical.choose (λ_=>gZ)
def abx(x:Iv)(p:Nat):(Cj x p).ic:=by
 unfold Cj;split
 .rename_i h;exact(dL h).1
 .exact lX
def abw(x:Iv)(hx:x.ic)(p:Nat)(iu:8<=p)(ie:p<=512)(hF:w8):gW 318 [ix x,iP (p:Int)] (ix (Cj x p)):=by
 have h:∃ y:Iv,y.ic/\gW 318 [ix x,iP (p:Int)] (ix y):=(hF x p hx iu ie).2.1;unfold Cj;rw[dif_pos h];exact(dL h).2
noncomputable def xq(x:Iv)(p:Nat):Iv:=@dite Iv (∃ y:Iv,y.ic/\gW 319 [ix x,iP (p:Int)] (ix y)) (Classical.propDecidable _) Classical.choose (λ_=>gZ)
def Ri(x:Iv)(p:Nat):(xq x p).ic:=by
 unfold xq;split
 .rename_i h;exact(dL h).1
 .exact lX
def Rh(x:Iv)(hx:x.ic)(p:Nat)(iu:8<=p)(ie:p<=512)(hF:w8):gW 319 [ix x,iP (p:Int)] (ix (xq x p)):=by
 have h:∃ y:Iv,y.ic/\gW 319 [ix x,iP (p:Int)] (ix y):=(hF x p hx iu ie).2.2.1;unfold xq;rw[dif_pos h];exact(dL h).2
noncomputable def yn(x:Iv)(p:Nat):Iv:=@dite Iv (∃ y:Iv,y.ic/\gW 320 [ix x,iP (p:Int)] (ix y)) (Classical.propDecidable _) Classical.choose (λ_=>gZ)
def Rg(x:Iv)(p:Nat):(yn x p).ic:=by
 unfold yn;split
 .rename_i h;exact(dL h).1
 .exact lX
def Rf(x:Iv)(hx:x.ic)(p:Nat)(iu:8<=p)(ie:p<=512)(hF:w8):gW 320 [ix x,iP (p:Int)] (ix (yn x p)):=by
 have h:∃ y:Iv,y.ic/\gW 320 [ix x,iP (p:Int)] (ix y):=(hF x p hx iu ie).2.2.2.1;unfold yn;rw[dif_pos h];exact(dL h).2
noncomputable def Ck(x:Iv)(p:Nat):Iv:=@dite Iv (∃ y:Iv,y.ic/\gW 321 [ix x,iP (p:Int)] (ix y)) (Classical.propDecidable _) Classical.choose (λ_=>gZ)
def abz(x:Iv)(p:Nat):(Ck x p).ic:=by
 unfold Ck;split
 .rename_i h;exact(dL h).1
 .exact lX
def aby(x:Iv)(hx:x.ic)(p:Nat)(iu:8<=p)(ie:p<=512)(hF:w8):gW 321 [ix x,iP (p:Int)] (ix (Ck x p)):=by
 have h:∃ y:Iv,y.ic/\gW 321 [ix x,iP (p:Int)] (ix y):=(hF x p hx iu ie).2.2.2.2;unfold Ck;rw[dif_pos h];exact(dL h).2
def KI(o:ji):Bool:=decide (o.kind<=6)
noncomputable def mB(o:ji)(x y:Iv)(p:Nat):Iv:=
 if o.kind=3 then kU x y p else if o.kind=4 then ky x y p else if o.kind=5 then kJ x y p else if o.kind=6 then qQ x y p
 else if o.kind=7 then rp x else if o.kind=8 then qs x o.n p else if o.kind=9 then Ci x p else if o.kind=10 then Cj x p
 else if o.kind=11 then xq x p else if o.kind=12 then yn x p else if o.kind=13 then Ck x p else gZ
noncomputable def xj(o:ji)(l:List Iv)(p:Nat):Iv:=if o.kind=1 then rO o.cn o.cd p else mB o (l.getD o.a gZ) (if KI o then l.getD o.b gZ else gZ) p
noncomputable def jl(gX:List ji)(xs:List Iv)(p:Nat):Nat->List Iv
 | 0=>xs
 |k+1=>jl gX xs p k++[xj (gX.getD k iG) (jl gX xs p k) p]
noncomputable def jT(t:iV)(xs:List Iv)(p:Nat):List Iv:=t.gY.map λk=>(jl t.gX xs p t.gX.length).getD k gZ
def Dt(gX:List ji)(xs:List Iv)(p:Nat):∀ k,(jl gX xs p k).length=xs.length+k
 | 0=>rfl
 |k+1=>by simp only[jl,bY,Dt gX xs p k,cE,dR];omega
def XS(o:ji){x y:Iv}(hx:x.ic)(hy:y.ic){p:Nat}(hp:1<=p)(ie:p<=4096):(mB o x y p).ic:=by
 unfold mB;split
 .exact pT hx hy hp ie
 split
 .exact pT hx (qX hy) hp ie
 split
 .exact nQ _ _ hp ie
 split
 .exact GW _ _ hp ie
 split
 .exact qX hx
 split
 .exact VZ hx _ hp ie
 split
 .exact abv _ _
 split
 .exact abx _ _
 split
 .exact Ri _ _
 split
 .exact Rg _ _
 split
 .exact abz _ _
 .exact lX
def XT(o:ji){l:List Iv}(hl:mf l){p:Nat}(hp:1<=p)(ie:p<=4096):(xj o l p).ic:=by
 unfold xj;split
 .exact ahS _ _ hp ie
 .exact XS o (hl _) (by split;exact hl _;exact lX) hp ie
def Du(gX:List ji){xs:List Iv}(h:mf xs){p:Nat}(hp:1<=p)(ie:p<=4096):∀ k,mf (jl gX xs p k)
 | 0=>h
 |k+1=>(Du gX h hp ie k).push (XT _ (Du gX h hp ie k) hp ie)
def Cl(t:iV){xs:List Iv}(h:mf xs){p:Nat}(hp:1<=p)(ie:p<=4096):mf (jT t xs p):=λi=>by
 unfold jT;rw[bk,cD];cases t.gY[i]? with
 |none=>exact lX
 |some k=>exact Du t.gX h hp ie _ _
def uj(t:iV)(xs:List Iv)(p:Nat):(jT t xs p).length=t.gY.length:=by simp[jT]
noncomputable def qi(o:ji)(v a b da db:Iv)(p:Nat):Iv:=
 if o.kind=1 then lM 0 else if o.kind=3 then kU da db p else if o.kind=4 then ky da db p else if o.kind=5 then kU (kJ da b p) (kJ a db p) p
 else if o.kind=6 then qQ (ky da (kJ v db p) p) b p else if o.kind=7 then rp da
 else if o.kind=8 then(if o.n=0 then kJ (lM 0) da p else kJ (kJ (lM (o.n:Int)) (qs a (o.n-1) p) p) da p)
 else if o.kind=9 then kJ v da p else if o.kind=10 then qQ da a p
 else if o.kind=11 then kJ (yn a p) da p else if o.kind=12 then rp (kJ (xq a p) da p)else if o.kind=13 then qQ da (uX v 1) p else gZ
noncomputable def vo(o:ji)(v:Iv)(l c:List Iv)(p:Nat):Iv:=
 if v.all then gZ else qi o v (l.getD o.a gZ) (l.getD o.b gZ) (c.getD o.a gZ) (c.getD o.b gZ) p
def nK(n i:Nat):Nat->List Iv
 | 0=>[]
 |k+1=>nK n i k++[if k=i then lM 1 else lM 0]
noncomputable def jV(t:iV)(l:List Iv)(i p:Nat):Nat->List Iv
 | 0=>nK t.iw i t.iw
 |k+1=>jV t l i p k++[vo (t.gX.getD k iG) (l.getD (t.iw+k) gZ) l (jV t l i p k) p]
noncomputable def nt(t:iV)(xs:List Iv)(p q i:Nat):Iv:=(jV t (jl t.gX xs p t.gX.length) i p t.gX.length).getD (t.gY.getD q 0) gZ
def kW(n:Nat)(F:Nat->Nat->Iv)(i k:Nat):List (List Iv):=(List.range n).map λq=>(List.range (if q<k then i+1 else i)).map (F q)
noncomputable def lu(t:iV)(xs:List Iv)(p m:Nat):List (List Iv):=kW t.gY.length (nt t xs p) m 0
def NG{n:Nat}(h:n<4294967296):(lM (n:Int)).ic:=tO (Ir n h)
def FB:(lM 0).ic:=NG (n:=0) aC 
def FC:(lM 1).ic:=NG (n:=1) aC 
def r6{c:Prop}[Decidable c]{x y:Iv}(hx:x.ic)(hy:y.ic):(if c then x else y).ic:=by
 by_cases h:c
 .rwa [bj h]
 .rwa [bh h]
def ZK(o:ji){v a b da db:Iv}(hv:v.ic)(hd:da.ic)(he:db.ic){p:Nat}(hp:1<=p)(ie:p<=4096):(qi o v a b da db p).ic:=by
 unfold qi;exact r6 FB<|r6 (pT hd he hp ie)<|r6 (pT hd (qX he) hp ie)<|r6 (pT (nQ _ _ hp ie) (nQ _ _ hp ie) hp ie) <|
  r6 (GW _ _ hp ie)<|r6 (qX hd)<|r6 (r6 (nQ _ _ hp ie) (nQ _ _ hp ie))<|r6 (nQ _ _ hp ie)<|r6 (GW _ _ hp ie) <|
  r6 (nQ _ _ hp ie)<|r6 (qX (nQ _ _ hp ie))<|r6 (GW _ _ hp ie) lX
def OH(n i:Nat):∀ k,(nK n i k).length=k
 | 0=>rfl
 |k+1=>by simp only[nK,bY,OH n i k,cE,dR]
def Xk(n i:Nat):∀ k,mf (nK n i k)
 | 0=>λ_=>lX
 |k+1=>(Xk n i k).push (by split;exact FC;exact FB)
def KW(t:iV)(l:List Iv)(i p:Nat):∀ k,(jV t l i p k).length=t.iw+k
 | 0=>OH _ _ _
 |k+1=>by simp only[jV,bY,KW t l i p k,cE,dR];omega
def ZL(o:ji){v:Iv}(hv:v.ic){l c:List Iv}(hc:mf c){p:Nat}(hp:1<=p)(ie:p<=4096):(vo o v l c p).ic:=by
 unfold vo;split
 .exact lX
 .exact ZK o hv (hc _) (hc _) hp ie
def GR(t:iV){l:List Iv}(hl:mf l)(i:Nat){p:Nat}(hp:1<=p)(ie:p<=4096):∀ k,mf (jV t l i p k)
 | 0=>Xk _ _ _
 |k+1=>(GR t hl i hp ie k).push (ZL _ (hl _) (GR t hl i hp ie k) hp ie)
def MV(t:iV){xs:List Iv}(h:mf xs){p:Nat}(hp:1<=p)(ie:p<=4096)(q i:Nat):(nt t xs p q i).ic:=GR t (Du t.gX h hp ie _) i hp ie _ _
def WN(n:Nat)(F:Nat->Nat->Iv)(i k:Nat):(kW n F i k).length=n:=by simp[kW]
def Dj{n:Nat}{F:Nat->Nat->Iv}{i k q:Nat}(h:q<n):(kW n F i k).getD q []=(List.range (if q<k then i+1 else i)).map (F q):=by
 simp[kW,bk,h]
def aiC(n:Nat)(F:Nat->Nat->Iv)(i:Nat):kW n F i n=kW n F (i+1) 0:=by
 unfold kW;apply dx;intro q hq;rw[bj (bJ.1 hq),bh (bu _)]
def aiD{T1 T0 n n':Nat}{F:Nat->Nat->Iv}(hn:n=n'):Bx.le (.il true T1 T0 n 7 (λ_=>0) (λ_ _ _=>.any) .none) (.il true T1 T0 n' 7 (jx (kW n' F 0 0)) (kp (kW n' F 0 0)) .none):=by
 subst hn;refine .il rfl (λk hk=>?_) (λk i j hk hi hj=>absurd hi (bu i));show 0=((kW n F 0 0).getD k []).length;rw[Dj hk];simp
def aiF{T1 T0 n n' m x k:Nat}{F:Nat->Nat->Iv}{y:Iv}(hn:n=n')(hm:m=n)(hx:k<n)(hy:y=F k x):
 Bx.le (.il true T1 T0 n 7 (λq=>if q=k then jx (kW m F x k) q+[y].length else jx (kW m F x k) q)
  (λq i j=>if q=k then(if i<jx (kW m F x k) q then kp (kW m F x k) q i j else(E.iS (hH [y])) (i-jx (kW m F x k) q) j)else kp (kW m F x k) q i j) .none)
  (.il true T1 T0 n' 7 (jx (kW m F x (k+1))) (kp (kW m F x (k+1))) .none):=by
 subst hn hm hy;have hl:∀ q,q<m->(if q=k then jx (kW m F x k) q+[F k x].length else jx (kW m F x k) q)=jx (kW m F x (k+1)) q:=by
  intro q hq;simp only[jx,Dj hq,cU,dB,cE,dR];by_cases h1:q=k
  .subst h1;simp
  .rw [bh h1];by_cases h2:q<k
   .rw [bj h2,bj aA]
   .rw [bh h2,bh aA]
 refine .il rfl hl (λq i j hq hi hj=>⟨.iD ?_,xE _ _ hj⟩);have kI:=hi;rw[hl q hq]at kI;simp only[jx,Dj hq,cU,dB]at kI;simp only[jx,kp,Dj hq,cU,dB];rw[rN kI];by_cases h1:q=k
 .subst h1;rw[bj rfl,bh (akj q)];rw[bj (fA q)]at kI;by_cases h2:i<x
  .rw [bj h2,rN h2]
  .have:i=x:= aA ;subst this;rw[bh h2,cV];rfl
 .rw [bh h1];have e:(if q<k then x+1 else x)=if q<k+1 then x+1 else x:=by
   by_cases h2:q<k
   .rw [bj h2,bj aA]
   .rw [bh h2,bh aA]
  rw[e,rN kI]
def aiE{T1 T0 n n' m x:Nat}{F:Nat->Nat->Iv}(hn:n=n'):Bx.le (.il true T1 T0 n 7 (jx (kW m F x m)) (kp (kW m F x m)) .none) (.il true T1 T0 n' 7 (jx (kW m F (x+1) 0)) (kp (kW m F (x+1) 0)) .none):=by
 subst hn;rw[aiC];exact .refl _
def lV(r:List Iv)(i p:Nat):Nat->Dy
 | 0=>iL
 |k+1=>if k=i then lV r i p k else jd (iR (lV r i p k) (o0 (r.getD k gZ))) p true
def uS(r:List Iv)(i p k:Nat):Bool:=decide (k=i)||decide (jI (iR (lV r i p k) (o0 (r.getD k gZ))) p true=0)
def N5(r:List Iv)(i p:Nat):Bool:=(List.range r.length).all (uS r i p)
def oU(r:List Iv)(i p:Nat):Iv:=
 if N5 r i p then
  if jI (iR (r.getD i gZ).lo (kB (lV r i p r.length))) p false=0/\jI (iR (r.getD i gZ).hi (lV r i p r.length)) p true=0 then
   ⟨jd (iR (r.getD i gZ).lo (kB (lV r i p r.length))) p false,jd (iR (r.getD i gZ).hi (lV r i p r.length)) p true,false⟩
  else gZ
 else gZ
def Jr(r:List Iv)(i p k:Nat):lV r i p (k+1)=if k=i then lV r i p k else jd (iR (lV r i p k) (o0 (r.getD k gZ))) p true:=rfl
def FR(r:List Iv)(i:Nat){p:Nat}(hp:1<=p)(ie:p<=4096):∀ k,(lV r i p k).ic
 | 0=>oI
 |k+1=>by
  unfold lV;split
  .exact FR r i hp ie k
  .exact tQ _ hp ie _
def ZY(r:List Iv)(i:Nat){p:Nat}(hp:1<=p)(ie:p<=4096):(oU r i p).lo.ic/\(oU r i p).hi.ic:=by
 unfold oU;split
 .split
  .exact ⟨tQ _ hp ie _,tQ _ hp ie _⟩
  .exact ⟨oI,oI⟩
 .exact ⟨oI,oI⟩
def ue(m:List (List Iv))(p:Nat):List Iv:=(List.range m.length).map λi=>oU (m.getD i []) i p
def vU(m:List (List Iv))(p:Nat):Nat->Iv
 | 0=>(m.getD 0 []).getD 0 gZ
 |k+1=>kU (vU m p k) ((m.getD (k+1) []).getD (k+1) gZ) p
def rE(m:List (List Iv)):Bool:=(List.range m.length).any λi=>mh (m.getD i [])
def BQ:List (Int×FuncId×List FuncId):=[(1,322,[]),(3,323,[73]),(4,324,[163]),
 (7,325,[]),(5,326,[73,68]),(6,327,[99,163,68]),
 (8,328,[68]),(9,329,[68]),(10,330,[99]),
 (11,331,[68]),(12,332,[68]),(13,333,[99])]
def rq(w:World)(b:Nat)(l:List MapEntry):World:={ w with heap:=w.heap.setIfInBounds b (.map l.toArray l.length) }
def VV{w:World}{b:Nat}(h:b<w.heap.size)(l:List MapEntry):(rq w b l).heap[b]? = some (.map l.toArray l.length):=by simp[rq,h]
def VW{w:World}{b x:Nat}(h:x≠b)(l:List MapEntry):(rq w b l).heap[x]? = w.heap[x]?:=by simp[rq,Ne.symm h]
def NY(w:World)(b:Nat)(l:List MapEntry):(rq w b l).heap.size=w.heap.size:=by simp[rq]
def ajP{P:Program}{w:World}{gX:Array Oper}{rest:List Oper}{o:Oper}{a:Act}{Q:Exit->Act->World->Prop}(hg:o.guard=none)(t:TypeId)(iq:o.op = .makeMap t none)
 (h:wpList P gX Q rest (a.put o.dst (.map (some w.heap.size))) (rq (w.alloc (.map #[] 0)) w.heap.size [])):wpList P gX Q (o::rest) a w:=by
 refine wpList_plain hg λK hK=>?_
 have e:rq (w.alloc (.map #[] 0)) w.heap.size []=w.alloc (.map #[] 0):=by
  unfold rq;have:(w.alloc (.map #[] 0)).heap.setIfInBounds w.heap.size (.map ([]:List MapEntry).toArray ([]:List MapEntry).length)=(w.alloc (.map #[] 0)).heap:=by
   apply Array.ext_getElem?;intro i;rw[aky];split
   .rename_i hi;subst hi;rw[heap_alloc_new];simp
   .rfl
  rw[this]
 rw[e]at h;have hr:(Instr.makeMap t none).run P w = .ok (.map (some w.heap.size)) (w.alloc (.map #[] 0)):=by simp[Instr.makeMap]
 unfold Oper.wp;simp[execOp,iq,hr,Result.andThen];exact hK _ _ h
def vV{w:World}{gX:Array Oper}{rest:List Oper}{o:Oper}{a:Act}{Q:Exit->Act->World->Prop}(hg:o.guard=none)(t:TypeId)(m k x:Operand)(iq:o.op = .insert t m k x)
 (ti tk:TI) (kt et:TypeId) (mN:lJ TT t=some ti) (hd:ti.d = .map kt et) (my:lJ TT kt=some tk) (hdk:tk.d = .int .i64) (b:Nat) (l:List MapEntry) (z:Int) (v:Value) (hb:b<w.heap.size)
 (hm:a.eval m = .map (some b)) (hz:a.eval k = .int .i64 z) (hv:a.eval x=v) (hn:Instr.findNow (.int .i64) (.int .i64 z) l 0=some none)
 (h:wpList prog gX Q rest (a.put o.dst undef) (rq w b (l++[⟨.int .i64 z,v,l.length⟩]))):wpList prog gX Q (o::rest) a (rq w b l):=by
 have hu:prog.underlying t=some (.map kt et):=by rw[yd.qd mN,hd]
 have hk:prog.underlying kt=some (.int .i64):=by rw[yd.qd my,hdk]
 refine wpList_plain hg λK hK=>?_
 have hh:=VV hb l;have h1:(Instr.mapUpdate t (.map (some b)) (.int .i64 z) v).run prog (rq w b l) = .ok () (rq w b (l++[⟨.int .i64 z,v,l.length⟩])):=by
  have e2:{ rq w b l with heap:=(rq w b l).heap.setIfInBounds b (.map (l.toArray.push ⟨.int .i64 z,v,l.length⟩) (l.length+1)) }=rq w b (l++[⟨.int .i64 z,v,l.length⟩]):=by
   simp[rq]
  rw[<-e2];simp[Instr.mapUpdate,run_underlying hu,MapKept.run_getObj_map hh,MapKept.run_checkKey hk (k:=.int .i64 z) (by simp[MapKept.IsKey]) false 9999,MapKept.run_findKey hk hn,MapKept.run_setObj_map _ hh,Result.andThen]
 unfold Oper.wp;simp[execOp,iq,hm,hz,hv,h1,Result.andThen];exact hK _ _ h
def ag4(cs:Array Value):Obj->Obj
 | .cells _ elem frozen=>.cells cs elem frozen
 |o=>o
def oi(w:World)(o:Obj):(w.alloc o).heap=w.heap.push o:=rfl
def xw(w:World)(g:Nat)(cs:Array Value):(w.setRow g cs).heap=w.heap.modify g (ag4 cs):=by
 unfold World.setRow;congr 1
def nA(a:Act)(v:Value):a.put none v=a:=rfl
def nk(a:Act)(d:Option Tmp)(v:Value):(a.put d v).tmps.size=a.tmps.size:=by cases d<;>simp[Act.put]
def ag5(a:Act)(d:Option Tmp)(v:Value):(a.put d v).defers=a.defers:=by cases d<;>rfl
def ng{a:Act}{d:Tmp}{v:Value}(h:d<a.tmps.size):(a.put (some d) v).eval (.tmp d)=v:=by
 show(a.tmps.setIfInBounds d v).getD d undef=v;simp[h]
def ns{a:Act}{d t:Tmp}{v:Value}(h:¬d=t):(a.put (some d) v).eval (.tmp t)=a.eval (.tmp t):=by
 show(a.tmps.setIfInBounds d v).getD t undef=a.tmps.getD t undef;simp[fm h]
def Ko(bs:Nat->Prop)(w:World)(g:FuncId)(v:Value):Prop:=∃ b,v = .pointer (some ⟨b,0,none⟩)/\¬bs b/\b<w.heap.size/\w.cell? ⟨b,0,none⟩=some (.func (.func g) #[] #[])
def Kp(bs:Nat->Prop)(w:World)(gs:List FuncId)(vs:List Value):Prop:=∀ (i:Nat) (g:FuncId) (v:Value),gs[i]? = some g->vs[i]? = some v->Ko bs w g v
def vn{bs:Nat->Prop}{w:World}{vs:List Value}:Kp bs w [] vs:=λi g v h=>by simp at h
def ub{bs:Nat->Prop}{w:World}{g:FuncId}{v:Value}{gs:List FuncId}{vs:List Value}(h:Ko bs w g v)(k:Kp bs w gs vs):Kp bs w (g::gs) (v::vs):=λi g' v' hg hv=>by
 cases i with
 |zero=>simp at hg hv;subst hg hv;exact h
 |succ i=>exact k i g' v' (by simpa using hg) (by simpa using hv)
def Ki{w:World}{gX:Array Oper}{rest:List Oper}{o:Oper}{a:Act}{Q:Exit->Act->World->Prop}(hg:o.guard=none)(t:TypeId)(x y:Operand)(iq:o.op = .store t x y)(ti:TI)(mN:lJ TT t=some ti)(h1:ti.i.size=1)
 (b:Nat) (v c:Value) (E:TypeId) (hx:a.eval x = .pointer (some ⟨b,0,none⟩)) (hy:a.eval y=v) (hv:v.cells = #[v]) (ho:v.oneCell'=true) (hb:w.heap[b]? = some (.cells #[c] E (0,0)))
 (h:wpList prog gX Q rest (a.put o.dst undef) (w.setRow b #[v])):wpList prog gX Q (o::rest) a w:=by
 refine wpList_plain hg λK hK=>?_
 have hr:=ze yd w mN b 0 E #[c] hb v (by rw[hv,h1];rfl) (by rw[hv];exact bl _) (by rw[hv];intro u hu;simp at hu;subst hu;exact ho);rw[hv]at hr;have e:((#[c]:Array Value).toList.take 0++(#[v]:Array Value).toList++(#[c]:Array Value).toList.drop (0+(#[v]:Array Value).toList.length)).toArray = #[v]:=rfl;rw[e]at hr;unfold Oper.wp;simp[execOp,iq,hx,hy,Instr.storeAt,Instr.sureAddr,hr,Result.andThen];exact hK _ _ h
def Kh{w:World}{gX:Array Oper}{rest:List Oper}{o:Oper}{a:Act}{Q:Exit->Act->World->Prop}(hg:o.guard=none)(t:TypeId)(iq:o.op = .alloc t)(ti:TI)(mN:lJ TT t=some ti)(z:Value)(hz:ti.i.zero=some z)(cs:Array Value)(hc:z.cells=cs)
 (h:wpList prog gX Q rest (a.put o.dst (.pointer (some ⟨w.heap.size,0,none⟩))) (w.alloc (.cells cs t))):wpList prog gX Q (o::rest) a w:=by
 refine wpList_plain hg λK hK=>?_
 subst hc;have hr:=JQ yd w mN hz;unfold Oper.wp;simp[execOp,iq,Instr.alloc,hr,newRow,run_newObj_alloc,Result.andThen];exact hK _ _ h
def wp_move{P:Program}{w:World}{gX:Array Oper}{rest:List Oper}{o:Oper}{a:Act}{Q:Exit->Act->World->Prop}(hg:o.guard=none)(x:Operand)(iq:o.op = .move x\/o.op = .assign x)(v:Value)(hx:a.eval x=v)
 (h:wpList P gX Q rest (a.put o.dst v) w):wpList P gX Q (o::rest) a w:=by
 refine wpList_plain hg λK hK=>?_
 unfold Oper.wp;rcases iq with iq|iq
 .simp [execOp,iq,hx,Result.andThen];exact hK _ _ h
 .simp [execOp,iq,hx,Result.andThen];exact hK _ _ h
def xW{P:Program}{w:World}{gX:Array Oper}{rest:List Oper}{o:Oper}{a:Act}{Q:Exit->Act->World->Prop}(hg:o.guard=none)(f:FuncId)(cs:Array Operand)(iq:o.op = .makeFunc (.func f) #[] cs)(vs:Array Value)(hv:cs.map a.eval=vs)
 (h:wpList P gX Q rest (a.put o.dst (.func (.func f) #[] vs)) w):wpList P gX Q (o::rest) a w:=by
 refine wpList_plain hg λK hK=>?_
 unfold Oper.wp;simp[execOp,iq,Instr.makeFunc,hv,Result.andThen];exact hK _ _ h
set_option maxRecDepth 100000 in
def ah8:gW 277 [] (.mp BQ):=by
 refine⟨call277,λw B vs hK hB hr=>?_⟩;obtain rfl:=hr.qY;show Calls _ _ #[] w _;clear hr hK;go_enter func277,ntmps277;refine wp_seq (wp_region_list ?_);refine wp_move aE _ (.inr aE) _ aE (wpList_nil ?_);refine wp_seq (wp_region_list ?_);refine Kh aE _ aE _ aE _ aE #[.nilFunc] aE ?_;refine Kh aE _ aE _ aE _ aE #[.nilFunc] aE ?_;refine Kh aE _ aE _ aE _ aE #[.nilFunc] aE ?_;refine Kh aE _ aE _ aE _ aE #[.nilFunc] aE ?_;refine Ki aE _ _ _ aE _ aE aE _ (.func (.func 68) #[] #[]) .nilFunc 104 aE aE aE aE (by(simp only[oi,xw,dC,dW,cY,dD];repeat (first|rw[bj trivial]|rw[bj aA]|rw[bh aA]))) ?_;refine Ki aE _ _ _ aE _ aE aE _ (.func (.func 99) #[] #[]) .nilFunc 104 aE aE aE aE (by(simp only[oi,xw,dC,dW,cY,dD];repeat (first|rw[bj trivial]|rw[bj aA]|rw[bh aA]))) ?_;refine Ki aE _ _ _ aE _ aE aE _ (.func (.func 73) #[] #[]) .nilFunc 104 aE aE aE aE (by(simp only[oi,xw,dC,dW,cY,dD];repeat (first|rw[bj trivial]|rw[bj aA]|rw[bh aA]))) ?_;refine Ki aE _ _ _ aE _ aE aE _ (.func (.func 163) #[] #[]) .nilFunc 104 aE aE aE aE (by(simp only[oi,xw,dC,dW,cY,dD];repeat (first|rw[bj trivial]|rw[bj aA]|rw[bh aA]))) ?_;refine wpList_nil ?_;generalize hW:World.setRow _ _ _=W;have s0:W.heap.size=w.heap.size+4:=by rw[<-hW];simp[oi,xw]
 have so:W.os=w.os:=by rw[<-hW];rfl
 have st:W.tape=w.tape:=by rw[<-hW];rfl
 have sp:W.output=w.output:=by rw[<-hW];rfl
 have s1:∀ x,x<w.heap.size->W.heap[x]? = w.heap[x]?:=λx hx=>by
  rw[<-hW];simp only[oi,xw,dC,dW,cY,dD]
  repeat (first|rw[bj trivial]|rw[bj aA]|rw[bh aA])
 generalize ha:Act.put _ _ _=a;have e1:a.eval (.tmp 1) = .pointer (some ⟨w.heap.size,0,none⟩):=by rw[<-ha];rfl
 have e2:a.eval (.tmp 2) = .pointer (some ⟨w.heap.size+1,0,none⟩):=by rw[<-ha,show w.heap.size+1=(w.alloc (.cells #[.nilFunc] 104)).heap.size by simp[oi]];rfl
 have e3:a.eval (.tmp 3) = .pointer (some ⟨w.heap.size+2,0,none⟩):=by rw[<-ha,show w.heap.size+2=((w.alloc (.cells #[.nilFunc] 104)).alloc (.cells #[.nilFunc] 104)).heap.size by simp[oi]];rfl
 have e4:a.eval (.tmp 4) = .pointer (some ⟨w.heap.size+3,0,none⟩):=by rw[<-ha,show w.heap.size+3=(((w.alloc (.cells #[.nilFunc] 104)).alloc (.cells #[.nilFunc] 104)).alloc (.cells #[.nilFunc] 104)).heap.size by simp[oi]];rfl
 have sz:a.tmps.size=17:=by rw[<-ha];rfl
 have hd:a.defers=[]:=by rw[<-ha];rfl
 have c1:W.heap[w.heap.size]? = some (.cells #[.func (.func 68) #[] #[]] 104 (0,0)):=by
  rw[<-hW];simp only[oi,xw,dC,dW,cY,dD]
  repeat (first|rw[bj trivial]|rw[bj aA]|rw[bh aA])
  rfl
 have c2:W.heap[w.heap.size+1]? = some (.cells #[.func (.func 99) #[] #[]] 104 (0,0)):=by
  rw[<-hW];simp only[oi,xw,dC,dW,cY,dD]
  repeat (first|rw[bj trivial]|rw[bj aA]|rw[bh aA])
  rfl
 have c3:W.heap[w.heap.size+2]? = some (.cells #[.func (.func 73) #[] #[]] 104 (0,0)):=by
  rw[<-hW];simp only[oi,xw,dC,dW,cY,dD]
  repeat (first|rw[bj trivial]|rw[bj aA]|rw[bh aA])
  rfl
 have c4:W.heap[w.heap.size+3]? = some (.cells #[.func (.func 163) #[] #[]] 104 (0,0)):=by
  rw[<-hW];simp only[oi,xw,dC,dW,cY,dD]
  repeat (first|rw[bj trivial]|rw[bj aA]|rw[bh aA])
  rfl
 clear hW ha;refine wp_seq (wp_region_list ?_);refine ajP aE _ aE ?_;refine vV aE _ _ _ _ aE _ _ _ _ aE aE aE aE _ _ _ (.func (.func 322) #[] #[]) (by simp[oi]) (by simp[nA,nk,ng,ns,e1,e2,e3,e4,sz]) aE aE aE ?_;refine xW aE _ _ aE #[.pointer (some ⟨w.heap.size+2,0,none⟩)] (by simp[nA,nk,ng,ns,e1,e2,e3,e4,sz]) ?_;refine vV aE _ _ _ _ aE _ _ _ _ aE aE aE aE _ _ _ (.func (.func 323) #[] #[.pointer (some ⟨w.heap.size+2,0,none⟩)]) (by simp[oi]) (by simp[nA,nk,ng,ns,e1,e2,e3,e4,sz]) aE (by simp[nA,nk,ng,ns,e1,e2,e3,e4,sz]) aE ?_;refine xW aE _ _ aE #[.pointer (some ⟨w.heap.size+3,0,none⟩)] (by simp[nA,nk,ng,ns,e1,e2,e3,e4,sz]) ?_;refine vV aE _ _ _ _ aE _ _ _ _ aE aE aE aE _ _ _ (.func (.func 324) #[] #[.pointer (some ⟨w.heap.size+3,0,none⟩)]) (by simp[oi]) (by simp[nA,nk,ng,ns,e1,e2,e3,e4,sz]) aE (by simp[nA,nk,ng,ns,e1,e2,e3,e4,sz]) aE ?_;refine vV aE _ _ _ _ aE _ _ _ _ aE aE aE aE _ _ _ (.func (.func 325) #[] #[]) (by simp[oi]) (by simp[nA,nk,ng,ns,e1,e2,e3,e4,sz]) aE aE aE ?_
 refine xW aE _ _ aE #[.pointer (some ⟨w.heap.size+2,0,none⟩),.pointer (some ⟨w.heap.size,0,none⟩)] (by simp[nA,nk,ng,ns,e1,e2,e3,e4,sz]) ?_;refine vV aE _ _ _ _ aE _ _ _ _ aE aE aE aE _ _ _ (.func (.func 326) #[] #[.pointer (some ⟨w.heap.size+2,0,none⟩),.pointer (some ⟨w.heap.size,0,none⟩)]) (by simp[oi]) (by simp[nA,nk,ng,ns,e1,e2,e3,e4,sz]) aE (by simp[nA,nk,ng,ns,e1,e2,e3,e4,sz]) aE ?_;refine xW aE _ _ aE #[.pointer (some ⟨w.heap.size+1,0,none⟩),.pointer (some ⟨w.heap.size+3,0,none⟩),.pointer (some ⟨w.heap.size,0,none⟩)] (by simp[nA,nk,ng,ns,e1,e2,e3,e4,sz]) ?_;refine vV aE _ _ _ _ aE _ _ _ _ aE aE aE aE _ _ _ (.func (.func 327) #[] #[.pointer (some ⟨w.heap.size+1,0,none⟩),.pointer (some ⟨w.heap.size+3,0,none⟩),.pointer (some ⟨w.heap.size,0,none⟩)]) (by simp[oi]) (by simp[nA,nk,ng,ns,e1,e2,e3,e4,sz]) aE (by simp[nA,nk,ng,ns,e1,e2,e3,e4,sz]) aE ?_;refine xW aE _ _ aE #[.pointer (some ⟨w.heap.size,0,none⟩)] (by simp[nA,nk,ng,ns,e1,e2,e3,e4,sz]) ?_
 refine vV aE _ _ _ _ aE _ _ _ _ aE aE aE aE _ _ _ (.func (.func 328) #[] #[.pointer (some ⟨w.heap.size,0,none⟩)]) (by simp[oi]) (by simp[nA,nk,ng,ns,e1,e2,e3,e4,sz]) aE (by simp[nA,nk,ng,ns,e1,e2,e3,e4,sz]) aE ?_;refine xW aE _ _ aE #[.pointer (some ⟨w.heap.size,0,none⟩)] (by simp[nA,nk,ng,ns,e1,e2,e3,e4,sz]) ?_;refine vV aE _ _ _ _ aE _ _ _ _ aE aE aE aE _ _ _ (.func (.func 329) #[] #[.pointer (some ⟨w.heap.size,0,none⟩)]) (by simp[oi]) (by simp[nA,nk,ng,ns,e1,e2,e3,e4,sz]) aE (by simp[nA,nk,ng,ns,e1,e2,e3,e4,sz]) aE ?_;refine xW aE _ _ aE #[.pointer (some ⟨w.heap.size+1,0,none⟩)] (by simp[nA,nk,ng,ns,e1,e2,e3,e4,sz]) ?_;refine vV aE _ _ _ _ aE _ _ _ _ aE aE aE aE _ _ _ (.func (.func 330) #[] #[.pointer (some ⟨w.heap.size+1,0,none⟩)]) (by simp[oi]) (by simp[nA,nk,ng,ns,e1,e2,e3,e4,sz]) aE (by simp[nA,nk,ng,ns,e1,e2,e3,e4,sz]) aE ?_;refine xW aE _ _ aE #[.pointer (some ⟨w.heap.size,0,none⟩)] (by simp[nA,nk,ng,ns,e1,e2,e3,e4,sz]) ?_
 refine vV aE _ _ _ _ aE _ _ _ _ aE aE aE aE _ _ _ (.func (.func 331) #[] #[.pointer (some ⟨w.heap.size,0,none⟩)]) (by simp[oi]) (by simp[nA,nk,ng,ns,e1,e2,e3,e4,sz]) aE (by simp[nA,nk,ng,ns,e1,e2,e3,e4,sz]) aE ?_;refine xW aE _ _ aE #[.pointer (some ⟨w.heap.size,0,none⟩)] (by simp[nA,nk,ng,ns,e1,e2,e3,e4,sz]) ?_;refine vV aE _ _ _ _ aE _ _ _ _ aE aE aE aE _ _ _ (.func (.func 332) #[] #[.pointer (some ⟨w.heap.size,0,none⟩)]) (by simp[oi]) (by simp[nA,nk,ng,ns,e1,e2,e3,e4,sz]) aE (by simp[nA,nk,ng,ns,e1,e2,e3,e4,sz]) aE ?_;refine xW aE _ _ aE #[.pointer (some ⟨w.heap.size+1,0,none⟩)] (by simp[nA,nk,ng,ns,e1,e2,e3,e4,sz]) ?_;refine vV aE _ _ _ _ aE _ _ _ _ aE aE aE aE _ _ _ (.func (.func 333) #[] #[.pointer (some ⟨w.heap.size+1,0,none⟩)]) (by simp[oi]) (by simp[nA,nk,ng,ns,e1,e2,e3,e4,sz]) aE (by simp[nA,nk,ng,ns,e1,e2,e3,e4,sz]) aE ?_;refine wp_move aE _ (.inl aE) (.map (some W.heap.size)) (by simp[nA,nk,ng,ns,sz]) ?_;refine wp_move aE _ (.inr aE) (.map (some W.heap.size)) (by simp[nA,nk,ng,ns,sz]) (wpList_nil ?_);refine wp_ret ?_;generalize hz:Act.put _ _ _=z;have z0:z.eval (.tmp 0) = .map (some W.heap.size):=by rw[<-hz];exact ng (by simp[nk,sz])
 have zd:z.defers=[]:=by rw[<-hz];simp only[ag5,hd]
 clear hz;refine⟨zd,.map (some W.heap.size),?_,_,rfl,?_,?_⟩
 .rw [<-z0];unfold results;rw[show f277.results = #[.tmp 0]from rfl];simp;show _=z.tmps.getD 0 undef;simp
 .refine ⟨so,st,sp,by simp[NY,oi];omega,λx hx=>?_⟩;rw[VW aA,oi,dD,bh aA,s1 x hx]
 .have bx:∀ (k:Nat) (g:FuncId),k<4->W.heap[w.heap.size+k]? = some (.cells #[.func (.func g) #[] #[]] 104 (0,0))->∀ L,Ko B (rq (W.alloc (.map #[] 0)) W.heap.size L) g (.pointer (some ⟨w.heap.size+k,0,none⟩)):=λk g hk hc L=>by
   refine⟨_,rfl,λh=>?_,?_,?_⟩
   .have:=(hB _ h).1;omega
   .simp [NY,oi];omega
   .have e:(rq (W.alloc (.map #[] 0)) W.heap.size L).heap[w.heap.size+k]? = some (.cells #[.func (.func g) #[] #[]] 104 (0,0)):=by
     rw[VW aA,oi,dD,bh aA,hc]
    simp[World.cell?,e]
  have b1:=bx 0 _ aC c1;have b2:=bx 1 _ aC c2;have b3:=bx 2 _ aC c3;have b4:=bx 3 _ aC c4;refine .mp _ _ _ _ (λh=>?_) (by simp[NY,oi]) (VV (by simp[oi]) _) ?_
  .have:=(hB _ h).1;omega
  .exact ⟨⟨rfl,_,rfl,rfl,vn⟩,⟨⟨rfl,_,rfl,rfl,ub (b3 _) vn⟩,⟨⟨rfl,_,rfl,rfl,ub (b4 _) vn⟩,⟨⟨rfl,_,rfl,rfl,vn⟩,⟨⟨rfl,_,rfl,rfl,ub (b3 _) (ub (b1 _) vn)⟩,⟨⟨rfl,_,rfl,rfl,ub (b2 _) (ub (b4 _) (ub (b1 _) vn))⟩,⟨⟨rfl,_,rfl,rfl,ub (b1 _) vn⟩,⟨⟨rfl,_,rfl,rfl,ub (b1 _) vn⟩,⟨⟨rfl,_,rfl,rfl,ub (b2 _) vn⟩,⟨⟨rfl,_,rfl,rfl,ub (b1 _) vn⟩,⟨⟨rfl,_,rfl,rfl,ub (b1 _) vn⟩,⟨⟨rfl,_,rfl,rfl,ub (b2 _) vn⟩,trivial⟩⟩⟩⟩⟩⟩⟩⟩⟩⟩⟩⟩
def Po(a b:List Iv)(g:FuncId)(cap:List E)(i:Nat):PS:=⟨32,false,[(17,.e (iP i)),(16,.e (iP a.length)),(15,.e (hH a)),(1,.e (hH b)),(2,.e (.fn g cap))],[]⟩
def Pn(a b:List Iv)(g:FuncId)(cap:List E)(N:Nat)(i:Nat):PS:=⟨32,false,[(17,.e (iP i)),(16,.e (iP a.length)),(15,.e (hH a)),(1,.e (hH b)),(2,.e (.fn g cap))],[]⟩
def YU(x:Iv)(hx:x.ic)(xa:x.all=false):gW 238 [ix x] (bP false):=
 aj call238 func238 (ae [ah 4 x.all xa,.c (sX x aB)]) 
def DM(b:List Iv)(h1:1<=b.length)(h8:b.length<=8)(hb:mq b):gW 185 [hH b] (bP true):=
 aj call185 func185 (ae [tT 5 (1<=(b.length:Int)) aA,tT 9 ((b.length:Int)<=8) aA,.c (xF true _ _ 238 [] (λ_=>false) (λi hi=>YU _ (hb i hi).1 (hb i hi).2) aA (λ_ _=>rfl):gW 39 [hH b,.fn 238 []] _)]) 
def GC(a b:List Iv)(a1:1<=a.length)(a8:a.length<=8)(hl:b.length=a.length)(ha:mq a)(hb:mq b):gW 189 [hH a,hH b] (bP true):=
 aj call189 func189 (ae [af [hH a] (DM _ aA aA aB),af [hH b] (DM _ aA aA aB),ag 16 ((a.length:Int)==b.length) (Fv aA)]) 
def X6(a b:List Iv)(g:FuncId)(cap:List E)(f:Nat->Bool)(hl:b.length=a.length)(h8:a.length<=1000)(hp:∀ i,i<a.length->gW g ((ix (a.getD i gZ))::(ix (b.getD i gZ))::cap) (bP (f i)))(jj:∀ i,i<a.length->f i=true):gW 32 [hH a,hH b,.fn g cap] (bP true):=
 ak call32 func32 (ae [ah 14 ((a.length:Int) != (b.length:Int)) (r8 aA),.s (Sp.jE (Po a b g cap) 0 a.length aA (λi hi mw=>by
    exact iF (ae [tT 18 ((i:Int)<a.length) aA,iX (i:Int) (a.length) aA,iX (i:Int) (b.length) aA,.c (hp i aA:gW g ((ix (a.getD i gZ))::(ix (b.getD i gZ))::cap) _),ag 29 (f i) (jj i aA),iA ((i:Int)+1) aA]) aD)
  (λhi=>by
    exact iF (ae [tF 18 ((a.length:Int)<a.length) aA]) aD) aG:jA 4 Tryz.f32 (Po a b g cap 0) (.exit 0) ⟨32,false,[],[]⟩) .nil]) 
def X5(a b:List Iv)(g:FuncId)(cap:List E)(f:Nat->Bool)(hl:b.length=a.length)(h8:a.length<=1000)(hp:∀ i,i<a.length->gW g ((ix (a.getD i gZ))::(ix (b.getD i gZ))::cap) (bP (f i)))(N:Nat)(pV:N<a.length)(jj:∀ i,i<N->f i=true)(hN:f N=false):gW 32 [hH a,hH b,.fn g cap] (bP false):=
 ak call32 func32 (ae [ah 14 ((a.length:Int) != (b.length:Int)) (r8 aA),.s (Sp.jE (Pn a b g cap N) 0 N aA (λi hi mw=>by
    exact iF (ae [tT 18 ((i:Int)<a.length) aA,iX (i:Int) (a.length) aA,iX (i:Int) (b.length) aA,.c (hp i aA:gW g ((ix (a.getD i gZ))::(ix (b.getD i gZ))::cap) _),ag 29 (f i) (jj i aA),iA ((i:Int)+1) aA]) aD)
  (λhi=>by
    exact iF (ae [tT 18 ((N:Int)<a.length) aA,iX (N:Int) (a.length) aA,iX (N:Int) (b.length) aA,.c (hp N aA:gW g ((ix (a.getD N gZ))::(ix (b.getD N gZ))::cap) _),ah 29 (f N) hN]) aD) aG:jA 4 Tryz.f32 (Pn a b g cap N 0) .ret ⟨32,false,[(6,.e (bP false))],[]⟩) .nil]) 
def Pp(a b:List Iv)(g:FuncId)(cap:List E)(f:Nat->Bool)(hl:b.length=a.length)(h8:a.length<=1000)(hp:∀ i,i<a.length->gW g ((ix (a.getD i gZ))::(ix (b.getD i gZ))::cap) (bP (f i))):gW 32 [hH a,hH b,.fn g cap] (bP ((List.range a.length).all f)):=by
 by_cases h:∃ i,i<a.length/\(!(f i))=true
 .obtain ⟨N,h1,h2,h3⟩:=tK (p:=λi=>!(f i)) h;refine(X5 a b g cap f hl h8 hp N h1 (λi hi=>by simpa using h3 i hi) (by simpa using h2)).jk (.iD ?_);rw[show(List.range a.length).all f=false from aku.2 ⟨N,bJ.2 h1,by simpa using h2⟩]
 .have hh:∀ i,i<a.length->f i=true:=λi hi=>by
   cases hf:f i
   .exact absurd ⟨i,hi,by rw[hf];rfl⟩ h
   .rfl
  refine(X6 a b g cap f hl h8 hp hh).jk (.iD ?_);rw[show(List.range a.length).all f=true from bG.2 λi hi=>hh i (bJ.1 hi)]
def PK(p:Int):gW 191 [iP p] (bP (kF p)):=
 aj call191 func191 (.w (8<=p)
  (λk1=>aa [tB 4 (bn k1)]<|rQ (bP (decide (p<=512))) (bP (kF p)) (by unfold kF;simp[k1]))
  (λk1=>aa [tB 4 (bp k1)]<|rQ (bP false) (bP (kF p)) (by unfold kF;simp[k1]))) 
end Go.Proofs.YtjkmahljfblobaaGreatDoor
namespace Go.Proofs.YtjkmahljfblobaaGreatDoor.Pu
open Go.RowKit
def Wc{bs br:Nat->Prop}{w:World}{xs:List Value}{a:Value}(h:iC bs br w (.agg (xs.map E.v)) a):a = .agg xs.toArray:=by
 generalize he:E.agg (xs.map E.v)=e at h;cases h with
 |agg l vs hl k=>
  cases he;rw[cU]at hl;have:vs=xs:=List.ext_getElem? λi=>by
   cases hx:xs[i]? with
   |none=>rw[List.getElem?_eq_none_iff]at hx ⊢;omega
   |some x=>
    obtain⟨v,hv⟩:∃ v,vs[i]? = some v:=by
     have hi:i<xs.length:=(ca.1 hx).1;exact⟨vs[i]'(aA),bw aA⟩
    rw[hv,iC.kD (k i (.v x) v (by rw[cD,hx];rfl) hv)]
  rw[this]
 |_=>cases he
def NQ{P:Program}{t:TypeId}{m D D':Nat}(hm:m<=10000)(hk:P.keyTypeAt m t=true)(hg:P.eqGuardType P.depth t=false){xs ys:List Value}{la lb:List Lit}
 (hx:P.keyLits D t xs=some la) (hy:P.keyLits D' t ys=some lb) (fx:(Value.agg xs.toArray).formed P t=true) (fy:(Value.agg ys.toArray).formed P t=true) {c:Bool} (hc:c=true↔la=lb):
 lN P .eql t (.agg (xs.map E.v)) (.agg (ys.map E.v)) (.bool c):=by
 intro bs br w a b ox oy ha hb;obtain rfl:=Wc ha;obtain rfl:=Wc hb;constructor
 .simp only[eqGuard,eQ,bV,bB,Sem.run_bind,run_program,Result.andThen_ok,hg,dZ,bC,Sem.run_pure]
 .obtain ⟨r,hr,acV⟩:=run_equalIn_deep (10000-m) m t hk w _ _ _ _ la lb fx fy (by simpa[Value.cells]using hx) (by simpa[Value.cells]using hy);rw[(aA:10000-m+m=10000)]at hr;have e:r=c:=by rw[aki,acV,hc]
  subst e;have:(Op.equal t (.agg xs.toArray) (.agg ys.toArray)).run P w = .ok r w:=hr;simp only[binOp,Sem.run_bind,this,Result.andThen_ok,Sem.run_pure]
end Go.Proofs.YtjkmahljfblobaaGreatDoor.Pu
namespace Go.Proofs.YtjkmahljfblobaaGreatDoor
open Go.RowKit Fp Pu
def VF{t:TypeId}{m:Nat}(hm:m<=10000)(hk:prog.keyTypeAt m t=true)(hg:prog.eqGuardType prog.depth t=false){xs:List Value}(hx:(prog.keyLits 10 t xs).isSome=true)
 (fx:(Value.agg xs.toArray).formed prog t=true):lN prog .eql t (.agg (xs.map E.v)) (.agg (xs.map E.v)) (.bool true):=by
 obtain⟨l,hl⟩:=fX.1 hx;exact NQ hm hk hg hl hl fx fx aF 
def Jh{a b c d e f:Int}(h:a=0/\b=0/\c=0/\d=0/\e=0/\f=0):
 lN prog .eql 153 (.agg [iP a,iP b,iP c,iP d,iP e,iP f]) (.agg [iP 0,iP 0,iP 0,iP 0,iP 0,iP 0]) (.bool true):=by
 obtain⟨rfl,rfl,rfl,rfl,rfl,rfl⟩:=h;exact VF (m:=10) (xs:=[.int .i64 0,.int .i64 0,.int .i64 0,.int .i64 0,.int .i64 0,.int .i64 0]) aC aD aD aD aD 
def NP{a b:Int}(h:a=0/\b=0):lN prog .eql 78 (.agg [iP a,iP b]) (.agg [iP 0,iP 0]) (.bool true):=by
 obtain⟨rfl,rfl⟩:=h;exact VF (m:=10) (xs:=[.int .i64 0,.int .i64 0]) aC aD aD aD aD 
def zW{d:Nat}{n:Int}(h:kQ .i64 n):prog.keyLits (d+1) 3 [.int .i64 n]=some [.int .i64 n]:=by
 have hw:(Lit.int .i64 n).wf=true:=by
  unfold kQ at h;simp[Lit.wf,IntKind.min,IntKind.max,IntKind.signed,IntKind.bits];omega
 unfold Program.keyLits;rw[underlying3];simp[hw]
def V1{a b:Int}(ha:kQ .i64 a)(hb:kQ .i64 b):prog.keyLits 10 78 [.int .i64 a,.int .i64 b]=some [.int .i64 a,.int .i64 b]:=by
 have c1:prog.cellsOf 78=2:= aD ;have c2:prog.cellsOf 3=1:= aD ;unfold Program.keyLits;rw[underlying78];simp[c1,c2,eh,zW ha,zW hb]
def agD{a b:Int}{r:Bool}(ha:kQ .i64 a)(hb:kQ .i64 b)(h:decide (a=0/\b=0)=r):lN prog .eql 78 (.agg [iP a,iP b]) (.agg [iP 0,iP 0]) (.bool r):=
 NQ (m:=10) (xs:=[.int .i64 a,.int .i64 b]) (ys:=[.int .i64 0,.int .i64 0]) aC aD aD (V1 ha hb) (V1 aP aP) aD aD (by subst h;simp)
def Ji{a b c d e f a' b' c' d' e' f':Int}{r:Bool}(hx:prog.keyLits 10 153 [.int .i64 a,.int .i64 b,.int .i64 c,.int .i64 d,.int .i64 e,.int .i64 f]=some [.int .i64 a,.int .i64 b,.int .i64 c,.int .i64 d,.int .i64 e,.int .i64 f])(hy:prog.keyLits 10 153 [.int .i64 a',.int .i64 b',.int .i64 c',.int .i64 d',.int .i64 e',.int .i64 f']=some [.int .i64 a',.int .i64 b',.int .i64 c',.int .i64 d',.int .i64 e',.int .i64 f'])
 (fx:(Value.agg (List.toArray [.int .i64 a,.int .i64 b,.int .i64 c,.int .i64 d,.int .i64 e,.int .i64 f])).formed prog 153=true) (fy:(Value.agg (List.toArray [.int .i64 a',.int .i64 b',.int .i64 c',.int .i64 d',.int .i64 e',.int .i64 f'])).formed prog 153=true) (h:decide (a=a'/\b=b'/\c=c'/\d=d'/\e=e'/\f=f')=r):
 lN prog .eql 153 (.agg [iP a,iP b,iP c,iP d,iP e,iP f]) (.agg [iP a',iP b',iP c',iP d',iP e',iP f']) (.bool r):=
 NQ (m:=10) (xs:=[.int .i64 a,.int .i64 b,.int .i64 c,.int .i64 d,.int .i64 e,.int .i64 f]) (ys:=[.int .i64 a',.int .i64 b',.int .i64 c',.int .i64 d',.int .i64 e',.int .i64 f']) aC aD aD hx hy fx fy (by subst h;simp)
def Jj{a b:ByteArray}{r:Bool}(h:(a.toList==b.toList)=r):lN prog .eql 9 (.v (.string a)) (.v (.string b)) (.bool r):=by
 intro bs br w x y ox oy hx hy;obtain rfl:=iC.kD hx;obtain rfl:=iC.kD hy;subst h;refine⟨by simp[eqGuard],?_⟩;show(Op.stringOp .eql a b).run prog w=_;unfold Op.stringOp;simp only[Sem.run_pure]
def aia{P:Program}(w:World)(t tx ty e:TypeId)(i:TypeInfo)(z:Value)(ht:P.underlying t=some (.slice e))(hx:P.underlying tx=some (.int .i64))(hi:P.info? e=some i)(hz:i.zero=some z)
 (sU:i.size≠0) (n:Nat) (h0:0<n) (Ec:n<=1000000) (RR:n*i.bytes<=281474976710656):
 (Builtin.append_ #[t,tx] ty #[.slice none 0 0,.int .i64 (n:Int)]).run P w =
  .ok (.slice (some ⟨w.heap.size,0,none⟩) n (grownCap w n 0 e)) (w.drew.alloc (.cells (Builtin.zeroCells z.cells n++Builtin.zeroCells z.cells (grownCap w n 0 e-n)) e)):=by
 have hn:n≠0:= aA ;have SF:n*i.size≠0:=eo hn sU;have acB:¬(9223372036854775807<(n:Int)):= aA ;have acz:¬(281474976710656<Builtin.nextslicecap n 0*i.bytes):=by rw[nextslicecap_zero h0];omega
 have hw:IntKind.i64.wrap (n:Int)=n:=i64_in _ aA aA;have Eu:¬((n:Int)<0):= aA ;have acA:¬(281474976710656<(n:Int)*(i.bytes:Int)):=by
  have:(n:Int)*(i.bytes:Int)=((n*i.bytes:Nat):Int):= aF ;rw[this];omega
 simp[Builtin.append_,run_underlying ht,run_underlying hx,sizeOf,typeInfo,zeroValue,hi,hz,asInt,asIntOf,hw,Eu,acA,hn,SF,acB,acz,Question.forced,run_firstCells_none,newRow,grownCap]
def ajO{P:Program}{w:World}{gX:Array Oper}{rest:List Oper}{o:Oper}{a:Act}{Q:Exit->Act->World->Prop}(AS:o.guard=none)(s x:Operand)(t tx:TypeId)
 (ho:o.op = .call { callee:=.builtin .append,args:=#[s,x],argTypes:=#[t,tx] })
 (e:TypeId) (i:TypeInfo) (z:Value) (ht:P.underlying t=some (.slice e)) (hx:P.underlying tx=some (.int .i64)) (hi:P.info? e=some i) (hz:i.zero=some z)
 (sU:i.size≠0) (n:Nat) (h0:0<n) (Ec:n<=1000000) (RR:n*i.bytes<=281474976710656) (hs:a.eval s = .slice none 0 0) (hxx:a.eval x = .int .i64 (n:Int))
 (h:wpList P gX Q rest (a.put o.dst (.slice (some ⟨w.heap.size,0,none⟩) n (grownCap w n 0 e))) (w.drew.alloc (.cells (Builtin.zeroCells z.cells n++Builtin.zeroCells z.cells (grownCap w n 0 e-n)) e))):wpList P gX Q (o::rest) a w:=by
 refine wpList_plain AS λK hK=>?_
 have jX:=aia (P:=P) w t tx o.type e i z ht hx hi hz sU n h0 Ec RR;unfold Oper.wp;simp[execOp,ho,resolve,invoke,builtin,hs,hxx,jX,Result.andThen];exact hK _ _ h
def XP(w:World)(o:Obj):Below w.heap.size w (w.alloc o).drew:=⟨rfl,rfl,rfl,by rw[show(w.alloc o).drew.heap=w.heap.push o from rfl,dC];omega,λx hx=>Below.heap_alloc w _ x hx⟩
def XQ(w:World)(o:Obj):w.heap.size<(w.alloc o).drew.heap.size:=by rw[show(w.alloc o).drew.heap=w.heap.push o from rfl,dC];omega
def adu:(prog.info? 41).map (λi=>(i.zero,i.size,i.bytes))=some (some (.agg #[.bool false,.slice none 0 0,.int .i64 0,.bool false,.slice none 0 0,.int .i64 0,.bool false]),7,88):= aD 
def Xz(n:Nat):∀ u,u ∈ Builtin.zeroCells (Value.cells (.agg #[.bool false,.slice none 0 0,.int .i64 0,.bool false,.slice none 0 0,.int .i64 0,.bool false])) n->pO u=false:=by
 intro u hu;simp only[Builtin.zeroCells,fu,fw]at hu;obtain⟨q,hq,rfl⟩:=hu;have hc:Value.cells (.agg #[.bool false,.slice none 0 0,.int .i64 0,.bool false,.slice none 0 0,.int .i64 0,.bool false]) = #[.bool false,.slice none 0 0,.int .i64 0,.bool false,.slice none 0 0,.int .i64 0,.bool false]:=rfl;rw[hc]at hq ⊢;have hs:(#[Value.bool false,.slice none 0 0,.int .i64 0,.bool false,.slice none 0 0,.int .i64 0,.bool false]:Array Value).size=7:=rfl;rw[hs];have h7:q%7<7:=bI _ aC;generalize q%7=k at h7;rcases k with _|_|_|_|_|_|_|k
 all_goals first|rfl|omega
set_option maxRecDepth 100000 in
def acu(n:Nat)(hn:n<=1000000):tZ prog Tb 140 [.v (.slice none 0 0),iP (n:Int)] true 41 0 7 (jh []):=by
 refine⟨call140,λw B vs hK hB hr=>?_⟩;obtain⟨v1,vs,rfl,h1,hr⟩:=hr.mW;obtain⟨v2,vs,rfl,h2,hr⟩:=hr.mW;obtain rfl:=hr.qY;obtain rfl:=iC.kD h1;obtain rfl:=iC.kD h2;show Calls _ _ #[.slice none 0 0,.int .i64 (n:Int)] w _;clear h1 h2 hr hB hK;by_cases h0:n=0
 .subst h0;go_enter func140,ntmps140;go_wp2;go_ret;exact⟨_,rfl,Below.refl _ _,λ_ _=>undef,.inl ⟨rfl,rfl⟩,λx hx=>by simp[Value.ownBlock]at hx,λi j hi=>absurd hi (bu _)⟩
 .obtain ⟨i,hi,hz,h1,h2⟩:=info_parts adu;have hw:IntKind.i64.wrap ((n:Int)-0)=n:=i64_in _ aA aA;have Ba:IntKind.i64.wrap (n:Int)=n:=i64_in _ aA aA;have e2:decide ((n:Int)<0)=false:=bp aA;have e3:decide ((0:Int)<n)=true:=bn aA;have Cs:n<=grownCap w n 0 41:=grownCap_ge w n 0 _;go_enter func140,ntmps140;go_wp2_with (at_builtin;go_must (refine ajO aE _ _ _ _ aE _ i _ underlying23 underlying3 hi hz aA n aA aA (by rw[h2];omega) aE aE ?_))
  go_ret;have hz7:(#[Value.bool false,.slice none 0 0,.int .i64 0,.bool false,.slice none 0 0,.int .i64 0,.bool false]:Array Value).size=7:=rfl;refine⟨_,rfl,XP w _,λ_ _=>undef,.inr ⟨w.heap.size,0,grownCap w n 0 41,_,rfl,heap_alloc_new w _,cg _,grownCap_le_maxLen w n 0 _ (by unfold maxLen;omega),?_,λi j hi=>absurd hi (bu _),λ_ u hu=>?_⟩,λx hx=>?_,λi j hi=>absurd hi (bu _)⟩
  .simp only[gK,size_zeroCells,hz7,<-bS,bX];exact bN 7 aA 
  .rcases eW.1 hu with hu|hu
   .exact Xz _ u hu
   .exact Xz _ u hu
  .simp [Value.ownBlock]at hx;subst hx;exact⟨bl _,XQ w _⟩
abbrev xZ(f:FuncId)(args:List E)(nl:Bool)(T:TypeId)(n sz:Nat)(el:Nat->Nat->E):Prop:=tZ prog Tb f args nl T n sz el
def Xc{f:FuncId}{fn:Func}{args:List E}{nl:Bool}{T0:TypeId}{n sz:Nat}{el:Nat->Nat->E}(qj:∀ (vs:Array Value) (w:World),(callFunc f vs).run prog w = .ok (.enter f vs) w)
 (hf:prog.funcs[f]? = some fn) (t:Tr prog Tb) (h:Dc TT fn args (.row nl T0 n sz el) t=t.ex λ_=>.a (Bx.le (.row nl T0 n sz el) (.row nl T0 n sz el)) .nil):xZ f args nl T0 n sz el:=
 tZ.BW yd mixed Ku qj hf t h
abbrev vY(f:FuncId)(args:List E)(nl:Bool)(T1 T0:TypeId)(n sz:Nat)(len:Nat->Nat)(el:Nat->Nat->Nat->E):Prop:=vX prog Tb f args nl T1 T0 n sz len el
def Xd{f:FuncId}{fn:Func}{args:List E}{nl:Bool}{T1 T0:TypeId}{n sz:Nat}{len:Nat->Nat}{el:Nat->Nat->Nat->E}(qj:∀ (vs:Array Value) (w:World),(callFunc f vs).run prog w = .ok (.enter f vs) w)
 (hf:prog.funcs[f]? = some fn) (t:Tr prog Tb) (h:Dc TT fn args (.il nl T1 T0 n sz len el none) t=t.ex λ_=>.a (Bx.le (.il nl T1 T0 n sz len el none) (.il nl T1 T0 n sz len el none)) .nil):vY f args nl T1 T0 n sz len el:=
 vX.BW yd mixed Ku qj hf t h
abbrev qx(f:FuncId)(T:TypeId)(l l' args:List E)(jk:E):Prop:=tY prog Tb f T l l' args jk
def Ge{f:FuncId}{fn:Func}{Tv:TypeId}{l l' args:List E}{jk:E}(qj:∀ (vs:Array Value) (w:World),(callFunc f vs).run prog w = .ok (.enter f vs) w)
 (hf:prog.funcs[f]? = some fn) (ha:(l.all E.mc&&(l.all (E.nr 3)&&(args.all (E.nr 3)&&l'.all (E.nr 3))))=true) (t:Nat->Tr prog Tb)
 (h:∀ b,Db TT fn Tv b l l' args jk (t b)=(t b).ex λ_=>.a (Bx.le (.mS Tv b l') (.mS Tv b l')) (.a (E.le jk jk) .nil)):qx f Tv l l' args jk:=
 tY.BW yd mixed qj hf ha t h
def W6(t:iV)(x:Nat):PS:=⟨46,true,[(28,.e (iP x)),(27,.e (iP t.gX.length)),(26,.e (kP t.gX)),(1,.box 1 0)],[(1,.cells 29 [iP t.iw,kP t.gX,kR t.gY])]⟩
def W1(s:me)(x:Nat):PS:=⟨85,true,[(31,.e (iP x)),(30,.e (iP s.tape.gX.length)),(29,.e (kP s.tape.gX)),(3,.box 3 0),(1,.box 1 0)],[(3,.cells 29 [iP s.tape.iw,kP s.tape.gX,kR s.tape.gY]),(1,.cells 31 [iP s.tape.iw,kP s.tape.gX,kR s.tape.gY,iP s.jU,hH s.params])]⟩
noncomputable def W4(t:iV)(xs:List Iv)(p:Nat)(x:Nat):PS:=⟨75,true,[(26,.e (iP x)),(25,.e (iP t.gX.length)),(24,.e (kP t.gX)),(7,.own 22),(2,.e (iP p))],[(22,.row true 41 ((jl t.gX xs p x).length) 7 (jh (jl t.gX xs p x)))]⟩
def VL(k:Nat)(h1:3<=k)(h2:k<=6):gW 274 [iP k] (iP 2):=
 aj call274 func274 (aa [ah 5 ((k:Int)==1) (aX aA)]<|.w ((k:Int)=3)
  (λk1=>ae [tB 7 (aY k1)])
  (λk1=>aa [tB 7 (aX k1)]<|.w ((k:Int)=4)
   (λk2=>ae [tB 8 (aY k2)])
   (λk2=>aa [tB 8 (aX k2)]<|.w ((k:Int)=5)
    (λk3=>ae [tB 9 (aY k3)])
    (λk3=>aa [tB 9 (aX k3)]<|.w ((k:Int)=6)
     (λk4=>ae [tB 10 (aY k4)])
     (λk4=>.x aA))))) 
def NS(k:Nat)(h1:7<=k)(h2:k<=13):gW 274 [iP k] (iP 1):=
 aj call274 func274 (aa [ah 5 ((k:Int)==1) (aX aA),ah 7 ((k:Int)==3) (aX aA),ah 8 ((k:Int)==4) (aX aA),ah 9 ((k:Int)==5) (aX aA),ah 10 ((k:Int)==6) (aX aA)]<|.w ((k:Int)=7)
  (λk1=>ae [tB 12 (aY k1)])
  (λk1=>aa [tB 12 (aX k1)]<|.w ((k:Int)=8)
   (λk2=>ae [tB 13 (aY k2)])
   (λk2=>aa [tB 13 (aX k2)]<|.w ((k:Int)=9)
    (λk3=>ae [tB 14 (aY k3)])
    (λk3=>aa [tB 14 (aX k3)]<|.w ((k:Int)=10)
     (λk4=>ae [tB 15 (aY k4)])
     (λk4=>aa [tB 15 (aX k4)]<|.w ((k:Int)=11)
      (λk5=>ae [tB 16 (aY k5)])
      (λk5=>aa [tB 16 (aX k5)]<|.w ((k:Int)=12)
       (λk6=>ae [tB 17 (aY k6)])
       (λk6=>aa [tB 17 (aX k6)]<|.w ((k:Int)=13)
        (λk7=>ae [tB 18 (aY k7)])
        (λk7=>.x aA)))))))) 
def VK(k:Nat)(h1:k=1):gW 274 [iP k] (iP 0):=
 aj call274 func274 (ae [ag 5 ((k:Int)==1) (aY aA)]) 
def agF{a b:Int}(h:qt a b=true):lN prog .eql 78 (.agg [iP a,iP b]) (.agg [iP 0,iP 0]) (.bool false):=by
 obtain⟨h1,h2,h3,h4⟩:=Js h;exact agD aP aP (bp aA)
def oJ.iE{o:ji}{m:Nat}(h:oJ o m)(nN:o.kind≠1)(hk:o.kind<=6):3<=o.kind/\o.a<m/\o.b<m/\o.n=0/\o.cn=0/\o.cd=0:=by
 have h3:=h.k3.resolve_left nN;have ha:=h.a;have hb:=h.b;have hn:=h.n;have hc:=h.c;rw[bh nN]at ha hc;rw[bj ⟨h3,hk⟩]at hb;rw[bh aA]at hn;exact⟨h3,ha,hb,hn,hc.1,hc.2⟩
def oJ.pow{o:ji}{m:Nat}(h:oJ o m)(hk:o.kind=8):o.a<m/\o.b=0/\o.n<=16/\o.cn=0/\o.cd=0:=by
 have ha:=h.a;have hb:=h.b;have hn:=h.n;have hc:=h.c;rw[bh aA]at ha hb hc;rw[bj hk]at hn;exact⟨ha,hb,hn,hc.1,hc.2⟩
def oJ.un{o:ji}{m:Nat}(h:oJ o m)(hk:¬o.kind<=6)(wv:o.kind≠8):o.kind<=13/\o.a<m/\o.b=0/\o.n=0/\o.cn=0/\o.cd=0:=by
 have ha:=h.a;have hb:=h.b;have hn:=h.n;have hc:=h.c;rw[bh aA]at ha hb hc;rw[bh wv]at hn;exact⟨h.Bj,ha,hb,hn,hc.1,hc.2⟩
def oJ.num{o:ji}{m:Nat}(h:oJ o m)(hk:o.kind=1):o.a=0/\o.b=0/\o.n=0/\qt o.cn o.cd=true:=by
 have ha:=h.a;have hb:=h.b;have hn:=h.n;have hc:=h.c;rw[bj hk]at ha hc;rw[bh aA]at hb hn;exact⟨ha,hb,hn,hc⟩
def oJ.Kw{o:ji}{m:Nat}(h:oJ o m)(hk:o.kind≠1):o.a<m:=by
 have ha:=h.a;rwa[bh hk]at ha
def agZ(o:ji)(m:Nat)(h:oJ o m)(hk:o.kind=1):gW 253 [qq o,iP m] (bP true):=by
 obtain⟨h2,h3,h4,ED⟩:=h.num hk;exact aj call253 func253 (ae [af [iP o.kind] (VK _ aA),ah 14 (decide ((0:Int)<0)) aC,ag 17 ((0:Int)==0) aC,.c (N6 o.cn o.cd),ag 20 (qt o.cn o.cd) ED,ah 26 ((o.kind:Int)==8) (aX aA),ah 37 (decide ((0:Int)<0)) aC,ah 49 (decide ((1:Int)<0)) aC,.g (Jh ⟨aA,aA,aA,aA,aA,aA⟩:lN prog .eql 153 (.agg [iP 0,iP o.a,iP o.b,iP o.n,iP 0,iP 0]) (.agg [iP 0,iP 0,iP 0,iP 0,iP 0,iP 0]) (.bool true))]) 
def agY(o:ji)(m:Nat)(h:oJ o m)(nN:o.kind≠1)(hk:o.kind<=6):gW 253 [qq o,iP m] (bP true):=by
 obtain⟨h1,h2,h3,h4,h5,h6⟩:=h.iE nN hk;exact aj call253 func253 (ae [af [iP o.kind] (VL _ aA aA),ah 14 (decide ((2:Int)<0)) aC,ah 17 ((2:Int)==0) aC,ah 26 ((o.kind:Int)==8) (aX aA),ag 37 (decide ((0:Int)<2)) aC,tF 40 ((o.a:Int)<0) aA,tF 45 ((m:Int)<=o.a) aA,ag 49 (decide ((1:Int)<2)) aC,tF 52 ((o.b:Int)<0) aA,tF 57 ((m:Int)<=o.b) aA,.g (Jh ⟨aA,aA,aA,aA,aA,aA⟩:lN prog .eql 153 (.agg [iP 0,iP 0,iP 0,iP o.n,iP o.cn,iP o.cd]) (.agg [iP 0,iP 0,iP 0,iP 0,iP 0,iP 0]) (.bool true))]) 
def ag1(o:ji)(m:Nat)(h:oJ o m)(hk:o.kind=8):gW 253 [qq o,iP m] (bP true):=by
 obtain⟨h2,h3,h4,h5,h6⟩:=h.pow hk;exact aj call253 func253 (ae [af [iP o.kind] (NS _ aA aA),ah 14 (decide ((1:Int)<0)) aC,ah 17 ((1:Int)==0) aC,ag 26 ((o.kind:Int)==8) (aY aA),tF 29 ((o.n:Int)<0) aA,tF 33 (16<(o.n:Int)) aA,ag 37 (decide ((0:Int)<1)) aC,tF 40 ((o.a:Int)<0) aA,tF 45 ((m:Int)<=o.a) aA,ah 49 (decide ((1:Int)<1)) aC,.g (Jh ⟨aA,aA,aA,aA,aA,aA⟩:lN prog .eql 153 (.agg [iP 0,iP 0,iP o.b,iP 0,iP o.cn,iP o.cd]) (.agg [iP 0,iP 0,iP 0,iP 0,iP 0,iP 0]) (.bool true))]) 
def ag2(o:ji)(m:Nat)(h:oJ o m)(hk:¬o.kind<=6)(wv:o.kind≠8):gW 253 [qq o,iP m] (bP true):=by
 obtain⟨h1,h2,h3,h4,h5,h6⟩:=h.un hk wv;exact aj call253 func253 (ae [af [iP o.kind] (NS _ aA aA),ah 14 (decide ((1:Int)<0)) aC,ah 17 ((1:Int)==0) aC,ah 26 ((o.kind:Int)==8) (aX aA),ag 37 (decide ((0:Int)<1)) aC,tF 40 ((o.a:Int)<0) aA,tF 45 ((m:Int)<=o.a) aA,ah 49 (decide ((1:Int)<1)) aC,.g (Jh ⟨aA,aA,aA,aA,aA,aA⟩:lN prog .eql 153 (.agg [iP 0,iP 0,iP o.b,iP o.n,iP o.cn,iP o.cd]) (.agg [iP 0,iP 0,iP 0,iP 0,iP 0,iP 0]) (.bool true))]) 
def ai0(o:ji)(m:Nat)(h:oJ o m)(hk:o.kind=1):gW 129 [qq o,iP m] (bP true):=by
 obtain⟨h2,h3,h4,ED⟩:=h.num hk;exact aj call129 func129 (ae [tF 8 ((o.a:Int)<0) aA,tF 12 ((o.b:Int)<0) aA,.g (agF ED:lN prog .eql 78 (.agg [iP o.cn,iP o.cd]) (.agg [iP 0,iP 0]) (.bool false)),ag 21 ((o.kind:Int)==1) (aY aA),.c (N6 o.cn o.cd),ag 24 (qt o.cn o.cd) ED,ag 28 ((o.a:Int)==0) (aY aA),ag 33 ((o.b:Int)==0) (aY aA),ag 38 ((o.n:Int)==0) (aY aA)]) 
def aiZ(o:ji)(m:Nat)(h:oJ o m)(nN:o.kind≠1)(hk:o.kind<=6):gW 129 [qq o,iP m] (bP true):=by
 obtain⟨h1,h2,h3,h4,h5,h6⟩:=h.iE nN hk;exact aj call129 func129 (aa [tF 8 ((o.a:Int)<0) aA,tF 12 ((o.b:Int)<0) aA,.g (NP ⟨aA,aA⟩:lN prog .eql 78 (.agg [iP o.cn,iP o.cd]) (.agg [iP 0,iP 0]) (.bool true)),ah 21 ((o.kind:Int)==1) (aX aA)]<|.w ((o.kind:Int)=3)
  (λk1=>ae [tB 41 (aY k1),tT 50 ((o.a:Int)<m) aA,tT 56 ((o.b:Int)<m) aA,ag 61 ((o.n:Int)==0) (aY aA)])
  (λk1=>aa [tB 41 (aX k1)]<|.w ((o.kind:Int)=4)
   (λk2=>ae [tB 42 (aY k2),tT 50 ((o.a:Int)<m) aA,tT 56 ((o.b:Int)<m) aA,ag 61 ((o.n:Int)==0) (aY aA)])
   (λk2=>aa [tB 42 (aX k2)]<|.w ((o.kind:Int)=5)
    (λk3=>ae [tB 43 (aY k3),tT 50 ((o.a:Int)<m) aA,tT 56 ((o.b:Int)<m) aA,ag 61 ((o.n:Int)==0) (aY aA)])
    (λk3=>aa [tB 43 (aX k3)]<|.w ((o.kind:Int)=6)
     (λk4=>ae [tB 44 (aY k4),tT 50 ((o.a:Int)<m) aA,tT 56 ((o.b:Int)<m) aA,ag 61 ((o.n:Int)==0) (aY aA)])
     (λk4=>.x aA))))) 
def ai2(o:ji)(m:Nat)(h:oJ o m)(hk:o.kind=8):gW 129 [qq o,iP m] (bP true):=by
 obtain⟨h2,h3,h4,h5,h6⟩:=h.pow hk;exact aj call129 func129 (ae [tF 8 ((o.a:Int)<0) aA,tF 12 ((o.b:Int)<0) aA,.g (NP ⟨aA,aA⟩:lN prog .eql 78 (.agg [iP o.cn,iP o.cd]) (.agg [iP 0,iP 0]) (.bool true)),ah 21 ((o.kind:Int)==1) (aX aA),ah 41 ((o.kind:Int)==3) (aX aA),ah 42 ((o.kind:Int)==4) (aX aA),ah 43 ((o.kind:Int)==5) (aX aA),ah 44 ((o.kind:Int)==6) (aX aA),ag 64 ((o.kind:Int)==8) (aY aA),tT 70 ((o.a:Int)<m) aA,ag 75 ((o.b:Int)==0) (aY aA),tT 80 (0<=(o.n:Int)) aA,tT 85 ((o.n:Int)<=16) aA]) 
def ai3(o:ji)(m:Nat)(h:oJ o m)(hk:¬o.kind<=6)(wv:o.kind≠8):gW 129 [qq o,iP m] (bP true):=by
 obtain⟨h1,h2,h3,h4,h5,h6⟩:=h.un hk wv;exact aj call129 func129 (aa [tF 8 ((o.a:Int)<0) aA,tF 12 ((o.b:Int)<0) aA,.g (NP ⟨aA,aA⟩:lN prog .eql 78 (.agg [iP o.cn,iP o.cd]) (.agg [iP 0,iP 0]) (.bool true)),ah 21 ((o.kind:Int)==1) (aX aA),ah 41 ((o.kind:Int)==3) (aX aA),ah 42 ((o.kind:Int)==4) (aX aA),ah 43 ((o.kind:Int)==5) (aX aA),ah 44 ((o.kind:Int)==6) (aX aA),ah 64 ((o.kind:Int)==8) (aX aA)]<|.w ((o.kind:Int)=7)
  (λk1=>ae [tB 88 (aY k1),tT 99 ((o.a:Int)<m) aA,ag 104 ((o.b:Int)==0) (aY aA),ag 109 ((o.n:Int)==0) (aY aA)])
  (λk1=>aa [tB 88 (aX k1)]<|.w ((o.kind:Int)=9)
   (λk2=>ae [tB 89 (aY k2),tT 99 ((o.a:Int)<m) aA,ag 104 ((o.b:Int)==0) (aY aA),ag 109 ((o.n:Int)==0) (aY aA)])
   (λk2=>aa [tB 89 (aX k2)]<|.w ((o.kind:Int)=10)
    (λk3=>ae [tB 90 (aY k3),tT 99 ((o.a:Int)<m) aA,ag 104 ((o.b:Int)==0) (aY aA),ag 109 ((o.n:Int)==0) (aY aA)])
    (λk3=>aa [tB 90 (aX k3)]<|.w ((o.kind:Int)=11)
     (λk4=>ae [tB 91 (aY k4),tT 99 ((o.a:Int)<m) aA,ag 104 ((o.b:Int)==0) (aY aA),ag 109 ((o.n:Int)==0) (aY aA)])
     (λk4=>aa [tB 91 (aX k4)]<|.w ((o.kind:Int)=12)
      (λk5=>ae [tB 92 (aY k5),tT 99 ((o.a:Int)<m) aA,ag 104 ((o.b:Int)==0) (aY aA),ag 109 ((o.n:Int)==0) (aY aA)])
      (λk5=>aa [tB 92 (aX k5)]<|.w ((o.kind:Int)=13)
       (λk6=>ae [tB 93 (aY k6),tT 99 ((o.a:Int)<m) aA,ag 104 ((o.b:Int)==0) (aY aA),ag 109 ((o.n:Int)==0) (aY aA)])
       (λk6=>.x aA))))))) 
def ag0(o:ji)(m:Nat)(h:oJ o m):gW 253 [qq o,iP (m:Int)] (bP true):=by
 by_cases nN:o.kind=1
 .exact agZ o m h nN
 by_cases hk:o.kind<=6
 .exact agY o m h nN hk
 .by_cases wv:o.kind=8
  .exact ag1 o m h wv
  .exact ag2 o m h hk wv
def ai1(o:ji)(m:Nat)(h:oJ o m):gW 129 [qq o,iP (m:Int)] (bP true):=by
 by_cases nN:o.kind=1
 .exact ai0 o m h nN
 by_cases hk:o.kind<=6
 .exact aiZ o m h nN hk
 .by_cases wv:o.kind=8
  .exact ai2 o m h wv
  .exact ai3 o m h hk wv
def ajd(t:iV)(k:Nat)(hk:k<t.iw+t.gX.length)(h8:t.iw<=8)(acx:t.gX.length<=200):gW 254 [iP k,(.jD 3 λj_=>[iP t.iw,kP t.gX,kR t.gY].getD j_ .any)] (bP false):=
 aj call254 func254 (ae [tF 5 ((k:Int)<0) aA,iA ((t.iw:Int)+t.gX.length) aA,tF 14 (((t.iw+t.gX.length:Nat):Int)<=k) aA]) 
def J4(t:iV)(h:wb t):gW 208 [jG t] (bP true):=by
 have h8:=h.iw;have qB:=h.gX;have qL:=h.gY;exact aj call208 func208 (ae [tF 7 ((t.iw:Int)<0) aA,tF 11 (8<(t.iw:Int)) aA,tF 17 (200<(t.gX.length:Int)) aA,tF 23 (200<(t.gY.length:Int)) aA,.s (Sp.jE (W6 t) 0 t.gX.length aA (λx hx nF=>by
    have iq:=h.op x aA;exact iF (ae [tT 29 ((x:Int)<t.gX.length) aA,iX (x:Int) (t.gX.length) aA,iA ((t.iw:Int)+x) aA,af [qq (t.gX.getD x iG),iP ((t.iw+x:Nat):Int)] (ag0 _ _ iq),iA ((x:Int)+1) aA]) aD)
  (λhx=>by
    exact iF (ae [tF 29 ((t.gX.length:Int)<t.gX.length) aA]) aD) aG:jA 4 f208 (W6 t 0) (.exit 0) ⟨46,true,[(1,.box 1 0)],[(1,.cells 29 [iP t.iw,kP t.gX,kR t.gY])]⟩) .nil,.c (To true _ _ 254 [(.jD 3 λj_=>[iP t.iw,kP t.gX,kR t.gY].getD j_ .any)] (λ_=>false) (λi hi=>ajd t _ (h.out i hi) h8 qB) aA (λ_ _=>rfl):gW 130 [kR t.gY,.fn 254 [(.jD 3 λj_=>[iP t.iw,kP t.gX,kR t.gY].getD j_ .any)]] _)]) 
def ai4(t:iV)(k:Nat)(hk:k<t.iw+t.gX.length)(h8:t.iw<=8)(acx:t.gX.length<=200):gW 131 [iP k,(.jD 3 λj_=>[iP t.iw,kP t.gX,kR t.gY].getD j_ .any)] (bP false):=
 aj call131 func131 (ae [tF 5 ((k:Int)<0) aA,iA ((t.iw:Int)+t.gX.length) aA,tF 14 (((t.iw+t.gX.length:Nat):Int)<=k) aA]) 
def ai5(x:Iv)(hx:x.ic)(xa:x.all=false):gW 132 [ix x] (bP false):=by
 obtain⟨w1,w2,w3⟩:=tI hx xa;exact aj call132 func132 (ae [ah 4 x.all xa,af [ib x.lo] (rT _ aB),af [ib x.hi] (rT _ aB),af [ib x.lo,ib x.hi] (pK _ _ aB aB),tF 23 (0<(ke x.lo x.hi)) aA]) 
def J3(s:me)(h:oK s):gW 77 [jK s] (bP true):=by
 have h8:=h.tape.iw;have qB:=h.tape.gX;have qL:=h.tape.gY;have s1:=h.s1;have s4:=h.s4;have ho:=h.gY;have hi:=h.iw;have p4:=h.p4;exact aj call77 func77 (ae [tF 10 ((s.tape.iw:Int)<0) aA,tF 14 (8<(s.tape.iw:Int)) aA,tF 20 (200<(s.tape.gX.length:Int)) aA,tF 26 (200<(s.tape.gY.length:Int)) aA,.s (Sp.jE (W1 s) 0 s.tape.gX.length aA (λx hx nF=>by
    have iq:=h.tape.op x aA;exact iF (ae [tT 32 ((x:Int)<s.tape.gX.length) aA,iX (x:Int) (s.tape.gX.length) aA,iA ((s.tape.iw:Int)+x) aA,af [qq (s.tape.gX.getD x iG),iP ((s.tape.iw+x:Nat):Int)] (ai1 _ _ iq),iA ((x:Int)+1) aA]) aD)
  (λhx=>by
    exact iF (ae [tF 32 ((s.tape.gX.length:Int)<s.tape.gX.length) aA]) aD) aG:jA 5 Tryz.f77 (W1 s 0) (.exit 0) ⟨85,true,[(3,.box 3 0),(1,.box 1 0)],[(3,.cells 29 [iP s.tape.iw,kP s.tape.gX,kR s.tape.gY]),(1,.cells 31 [iP s.tape.iw,kP s.tape.gX,kR s.tape.gY,iP s.jU,hH s.params])]⟩) .nil,.c (To true _ _ 131 [(.jD 3 λj_=>[iP s.tape.iw,kP s.tape.gX,kR s.tape.gY].getD j_ .any)] (λ_=>false) (λi hi=>ai4 s.tape _ (h.tape.out i hi) h8 qB) aA (λ_ _=>rfl):gW 130 [kR s.tape.gY,.fn 131 [(.jD 3 λj_=>[iP s.tape.iw,kP s.tape.gX,kR s.tape.gY].getD j_ .any)]] _),tF 50 ((s.jU:Int)<1) aA,tF 54 (4<(s.jU:Int)) aA,ah 62 ((s.tape.gY.length:Int) != (s.jU:Int)) (r8 aA),
  iA ((s.jU:Int)+s.params.length) aA,ah 73 ((s.tape.iw:Int) != ((s.jU+s.params.length:Nat):Int)) (r8 aA),tF 79 (4<(s.params.length:Int)) aA,.c (xF true _ _ 132 [] (λ_=>false) (λi hi=>ai5 _ (h.params i hi).1 (h.params i hi).2) aA (λ_ _=>rfl):gW 39 [hH s.params,.fn 132 []] _)]) 
def Pe(o:ji)(x y:Iv)(p:Nat)(hx:x.ic)(hy:y.ic)(r1:3<=o.kind)(r2:o.kind<=13)(r3:o.n<=16)(iu:8<=p)(ie:p<=512)(hF:o.kind<=8\/w8):gW 276 [iP o.kind,iP o.n,ix x,ix y,iP p] (ix (mB o x y p)):=
 aj call276 func276 (.w ((o.kind:Int)=3)
  (λk1=>aa [tB 13 (aY k1),.c (yN x y p aB aB aA aA)]<|rQ (ix (kU x y p)) (ix (mB o x y p)) (by unfold mB;simp[(aA:o.kind=3)]))
  (λk1=>aa [tB 13 (aX k1)]<|.w ((o.kind:Int)=4)
   (λk2=>aa [tB 19 (aY k2),.c (yO x y p aB aB aA aA)]<|rQ (ix (ky x y p)) (ix (mB o x y p)) (by unfold mB;simp[(aA:¬o.kind=3),(aA:o.kind=4)]))
   (λk2=>aa [tB 19 (aX k2)]<|.w ((o.kind:Int)=5)
    (λk3=>aa [tB 25 (aY k3),.c (uE x y p aB aB aA aA)]<|rQ (ix (kJ x y p)) (ix (mB o x y p)) (by unfold mB;simp[(aA:¬o.kind=3),(aA:¬o.kind=4),(aA:o.kind=5)]))
    (λk3=>aa [tB 25 (aX k3)]<|.w ((o.kind:Int)=6)
     (λk4=>aa [tB 31 (aY k4),.c (Iw x y p aB aB aA aA)]<|rQ (ix (qQ x y p)) (ix (mB o x y p)) (by unfold mB;simp[(aA:¬o.kind=3),(aA:¬o.kind=4),(aA:¬o.kind=5),(aA:o.kind=6)]))
     (λk4=>aa [tB 31 (aX k4)]<|.w ((o.kind:Int)=7)
      (λk5=>aa [tB 37 (aY k5),.c (IA x aB)]<|rQ (ix (rp x)) (ix (mB o x y p)) (by unfold mB;simp[(aA:¬o.kind=3),(aA:¬o.kind=4),(aA:¬o.kind=5),(aA:¬o.kind=6),(aA:o.kind=7)]))
      (λk5=>aa [tB 37 (aX k5)]<|.w ((o.kind:Int)=8)
       (λk6=>aa [tB 41 (aY k6),af [ix x,iP o.n,iP p] (Pt _ _ _ aB aA aA aA)]<|rQ (ix (qs x o.n p)) (ix (mB o x y p)) (by unfold mB;simp[(aA:¬o.kind=3),(aA:¬o.kind=4),(aA:¬o.kind=5),(aA:¬o.kind=6),(aA:¬o.kind=7),(aA:o.kind=8)]))
       (λk6=>aa [tB 41 (aX k6)]<|.w ((o.kind:Int)=9)
        (λk7=>aa [tB 47 (aY k7),af [ix x,iP p] (abu _ aB _ aA aA (hF.resolve_left aA))]<|rQ (ix (Ci x p)) (ix (mB o x y p)) (by unfold mB;simp[(aA:¬o.kind=3),(aA:¬o.kind=4),(aA:¬o.kind=5),(aA:¬o.kind=6),(aA:¬o.kind=7),(aA:¬o.kind=8),(aA:o.kind=9)]))
        (λk7=>aa [tB 47 (aX k7)]<|.w ((o.kind:Int)=10)
         (λk8=>aa [tB 52 (aY k8),af [ix x,iP p] (abw _ aB _ aA aA (hF.resolve_left aA))]<|rQ (ix (Cj x p)) (ix (mB o x y p)) (by unfold mB;simp[(aA:¬o.kind=3),(aA:¬o.kind=4),(aA:¬o.kind=5),(aA:¬o.kind=6),(aA:¬o.kind=7),(aA:¬o.kind=8),(aA:¬o.kind=9),(aA:o.kind=10)]))
         (λk8=>aa [tB 52 (aX k8)]<|.w ((o.kind:Int)=11)
          (λk9=>aa [tB 57 (aY k9),af [ix x,iP p] (Rh _ aB _ aA aA (hF.resolve_left aA))]<|rQ (ix (xq x p)) (ix (mB o x y p)) (by unfold mB;simp[(aA:¬o.kind=3),(aA:¬o.kind=4),(aA:¬o.kind=5),(aA:¬o.kind=6),(aA:¬o.kind=7),(aA:¬o.kind=8),(aA:¬o.kind=9),(aA:¬o.kind=10),(aA:o.kind=11)]))
          (λk9=>aa [tB 57 (aX k9)]<|.w ((o.kind:Int)=12)
           (λk10=>aa [tB 62 (aY k10),af [ix x,iP p] (Rf _ aB _ aA aA (hF.resolve_left aA))]<|rQ (ix (yn x p)) (ix (mB o x y p)) (by unfold mB;simp[(aA:¬o.kind=3),(aA:¬o.kind=4),(aA:¬o.kind=5),(aA:¬o.kind=6),(aA:¬o.kind=7),(aA:¬o.kind=8),(aA:¬o.kind=9),(aA:¬o.kind=10),(aA:¬o.kind=11),(aA:o.kind=12)]))
           (λk10=>aa [tB 62 (aX k10)]<|.w ((o.kind:Int)=13)
            (λk11=>aa [tB 67 (aY k11),af [ix x,iP p] (aby _ aB _ aA aA (hF.resolve_left aA))]<|rQ (ix (Ck x p)) (ix (mB o x y p)) (by unfold mB;simp[(aA:¬o.kind=3),(aA:¬o.kind=4),(aA:¬o.kind=5),(aA:¬o.kind=6),(aA:¬o.kind=7),(aA:¬o.kind=8),(aA:¬o.kind=9),(aA:¬o.kind=10),(aA:¬o.kind=11),(aA:¬o.kind=12),(aA:o.kind=13)]))
            (λk11=>.x aA)))))))))))) 
def PL{nl:Bool}{T n n' sz:Nat}{f g h:Nat->Nat->E}(hn:n=n')(hh:∀ i j,i<n->j<sz->g i j=h i j/\(h i j).nr 2=true):Bx.le (.row nl T (0+n) sz λi j=>if i<0 then f i j else g (i-0) j) (.row nl T n' sz h):=
 .row aA λi j hi hj=>by
  have kI:i<n:= aA ;simp only[bu,bB,dS];exact⟨.iD (hh i j kI hj).1,(hh i j kI hj).2⟩
def xk(r:List Iv)(h0:0<r.length)(hl:r.length<=1000):xZ 135 [hH r] true 41 r.length 7 (jh r):=
 Xc call135 func135 (aa [.a (aA:0<r.length),.bo,.a (aA:(0+r.length)*88<=140737488355328)]<|.rb (PL rfl λi j hi hj=>⟨rfl,xE _ _ hj⟩:Bx.le (.row true 41 (0+r.length) 7 (λi_ j_=>if i_<0 then(λi_ j_=>([]:List E).getD (i_*7+j_) (.v (.bool false))) i_ j_ else(E.iS (hH r)) (i_-0) j_)) (.row true 41 r.length 7 (jh r)))) aD 
def OP{T n n' x:Nat}{t:iV}{xs:List Iv}{p:Nat}{y:Iv}(hn:n=(jl t.gX xs p x).length)(sP:n'=(jl t.gX xs p (x+1)).length)(hy:xj (t.gX.getD x iG) (jl t.gX xs p x) p=y):
 Bx.le (.row true T (n+[y].length) 7 λi j=>if i<n then jh (jl t.gX xs p x) i j else(E.iS (hH [y])) (i-n) j) (.row true T n' 7 (jh (jl t.gX xs p (x+1)))):=by
 subst sP hy;exact MU hn
def VJ{o:ji}{m:Nat}(h:oJ o m):o.n<=16:=by
 have:=h.n;split at this<;>omega
def W5(t:iV)(xs:List Iv)(p:Nat)(h:wb t)(h1:1<=xs.length)(hx:xs.length=t.iw)(hv:mf xs)(iu:8<=p)(ie:p<=512):gW 226 [jG t,hH xs,iP p] (hH (jl t.gX xs p t.gX.length)):=by
 have h8:=h.iw;have qB:=h.gX;exact aj call226 func226 (ae [af [jG t] (J4 _ aB),ah 19 ((xs.length:Int) != (t.iw:Int)) (r8 hx),.cn (xk _ aA aA:xZ 135 [hH xs] true 41 xs.length 7 (jh xs)),.s (Sp.jE (W4 t xs p) 0 t.gX.length aA (λx hx nF=>by
    have iq:=h.op x aA;have xB:=Du t.gX hv (aA:1<=p) (aA:p<=4096) x;have zN:=Dt t.gX xs p x;have w1:=xB (t.gX.getD x iG).a;by_cases nN:((t.gX.getD x iG)).kind=1
    .have rf:((t.gX.getD x iG)).kind=1:=nN;obtain⟨o1,o2,o3,ED⟩:=iq.num rf;have rk:xj (t.gX.getD x iG) (jl t.gX xs p x) p=(rO (t.gX.getD x iG).cn (t.gX.getD x iG).cd p):=by unfold xj;rw[bj rf]
     have oY:=nS (rO (t.gX.getD x iG).cn (t.gX.getD x iG).cd p);exact iF (aa [tT 27 ((x:Int)<t.gX.length) aA,iX (x:Int) (t.gX.length) aA,af [iP ((t.gX.getD x iG).kind:Int)] (VK _ aA),ag 50 ((0:Int)==0) aC,.c (ahd ((t.gX.getD x iG).cn) ((t.gX.getD x iG).cd) p aB aA aA),.o 71 (.e (kT _):ai (.sl true 1 7 λi_ j_=>(iQ (rO ((t.gX.getD x iG).cn) ((t.gX.getD x iG).cd) p)).getD (i_*7+j_) (.v (.bool false))) (hH [rO ((t.gX.getD x iG).cn) ((t.gX.getD x iG).cd) p])),.a (aA:((jl t.gX xs p x).length+[rO ((t.gX.getD x iG).cn) ((t.gX.getD x iG).cd) p].length)*88<=140737488355328),iA ((x:Int)+1) aA]<|.e (ae [.b 22 (OP rfl rfl rk:Bx.le (.row true 41 ((jl t.gX xs p x).length+[rO ((t.gX.getD x iG).cn) ((t.gX.getD x iG).cd) p].length) 7 (λi_ j_=>if i_<(jl t.gX xs p x).length then(jh (jl t.gX xs p x)) i_ j_ else(E.iS (hH [rO ((t.gX.getD x iG).cn) ((t.gX.getD x iG).cd) p])) (i_-(jl t.gX xs p x).length) j_)) (.row true 41 ((jl t.gX xs p (x+1)).length) 7 (jh (jl t.gX xs p (x+1)))))])) aD 
    .by_cases hk:((t.gX.getD x iG)).kind<=6
     .have Ep:((t.gX.getD x iG)).kind≠1:=nN;have rf:((t.gX.getD x iG)).kind<=6:=hk;have rk:xj (t.gX.getD x iG) (jl t.gX xs p x) p=(mB (t.gX.getD x iG) ((jl t.gX xs p x).getD ((t.gX.getD x iG).a) gZ) ((jl t.gX xs p x).getD ((t.gX.getD x iG).b) gZ) p):=by unfold xj KI;rw[bh Ep,bn rf];rfl
      obtain⟨o1,o2,o3,o4,o5,o6⟩:=iq.iE Ep rf;have w2:=xB (t.gX.getD x iG).b;have o7:=iq.Bj;have oY:=nS (mB (t.gX.getD x iG) ((jl t.gX xs p x).getD ((t.gX.getD x iG).a) gZ) ((jl t.gX xs p x).getD ((t.gX.getD x iG).b) gZ) p);exact iF (aa [tT 27 ((x:Int)<t.gX.length) aA,iX (x:Int) (t.gX.length) aA,af [iP ((t.gX.getD x iG).kind:Int)] (VL _ aA aA),ah 50 ((2:Int)==0) aC,ah 56 ((2:Int)==1) aC,iX ((t.gX.getD x iG).a:Int) ((jl t.gX xs p x).length) aA,.a (aA:(t.gX.getD x iG).a<(jl t.gX xs p x).length),iX ((t.gX.getD x iG).b:Int) ((jl t.gX xs p x).length) aA,.a (aA:(t.gX.getD x iG).b<(jl t.gX xs p x).length),af [iP ((t.gX.getD x iG).kind:Int),iP ((t.gX.getD x iG).n:Int),ix ((jl t.gX xs p x).getD (t.gX.getD x iG).a gZ),ix ((jl t.gX xs p x).getD (t.gX.getD x iG).b gZ),iP p] (Pe (t.gX.getD x iG) _ _ _ aB aB aA aA aA aA aA iq.f),.o 71 (.e (kT _):ai (.sl true 1 7 λi_ j_=>(iQ (mB (t.gX.getD x iG) ((jl t.gX xs p x).getD (t.gX.getD x iG).a gZ) ((jl t.gX xs p x).getD (t.gX.getD x iG).b gZ) p)).getD (i_*7+j_) (.v (.bool false))) (hH [mB (t.gX.getD x iG) ((jl t.gX xs p x).getD (t.gX.getD x iG).a gZ) ((jl t.gX xs p x).getD (t.gX.getD x iG).b gZ) p])),.a (aA:((jl t.gX xs p x).length+[mB (t.gX.getD x iG) ((jl t.gX xs p x).getD (t.gX.getD x iG).a gZ) ((jl t.gX xs p x).getD (t.gX.getD x iG).b gZ) p].length)*88<=140737488355328),
       iA ((x:Int)+1) aA]<|.e (ae [.b 22 (OP rfl rfl rk:Bx.le (.row true 41 ((jl t.gX xs p x).length+[mB (t.gX.getD x iG) ((jl t.gX xs p x).getD (t.gX.getD x iG).a gZ) ((jl t.gX xs p x).getD (t.gX.getD x iG).b gZ) p].length) 7 (λi_ j_=>if i_<(jl t.gX xs p x).length then(jh (jl t.gX xs p x)) i_ j_ else(E.iS (hH [mB (t.gX.getD x iG) ((jl t.gX xs p x).getD (t.gX.getD x iG).a gZ) ((jl t.gX xs p x).getD (t.gX.getD x iG).b gZ) p])) (i_-(jl t.gX xs p x).length) j_)) (.row true 41 ((jl t.gX xs p (x+1)).length) 7 (jh (jl t.gX xs p (x+1)))))])) aD 
     .have Ep:((t.gX.getD x iG)).kind≠1:=nN;have rf:¬((t.gX.getD x iG)).kind<=6:=hk;have rk:xj (t.gX.getD x iG) (jl t.gX xs p x) p=(mB (t.gX.getD x iG) ((jl t.gX xs p x).getD ((t.gX.getD x iG).a) gZ) gZ p):=by unfold xj KI;rw[bh Ep,bp rf];rfl
      have w2:=lX;have o2:=iq.Kw Ep;have o7:=iq.Bj;have o8:=VJ iq;have oY:=nS (mB (t.gX.getD x iG) ((jl t.gX xs p x).getD ((t.gX.getD x iG).a) gZ) gZ p);exact iF (aa [tT 27 ((x:Int)<t.gX.length) aA,iX (x:Int) (t.gX.length) aA,af [iP ((t.gX.getD x iG).kind:Int)] (NS _ aA aA),ah 50 ((1:Int)==0) aC,ag 56 ((1:Int)==1) aC,iX ((t.gX.getD x iG).a:Int) ((jl t.gX xs p x).length) aA,.a (aA:(t.gX.getD x iG).a<(jl t.gX xs p x).length),.o 66 (.e xV:ai (.agg [bP false,.v (.slice none 0 0),iP 0,bP false,.v (.slice none 0 0),iP 0,bP true]) (ix gZ)),af [iP ((t.gX.getD x iG).kind:Int),iP ((t.gX.getD x iG).n:Int),ix ((jl t.gX xs p x).getD (t.gX.getD x iG).a gZ),ix gZ,iP p] (Pe (t.gX.getD x iG) _ _ _ aB aB aA aA aA aA aA iq.f),.o 71 (.e (kT _):ai (.sl true 1 7 λi_ j_=>(iQ (mB (t.gX.getD x iG) ((jl t.gX xs p x).getD (t.gX.getD x iG).a gZ) gZ p)).getD (i_*7+j_) (.v (.bool false))) (hH [mB (t.gX.getD x iG) ((jl t.gX xs p x).getD (t.gX.getD x iG).a gZ) gZ p])),.a (aA:((jl t.gX xs p x).length+[mB (t.gX.getD x iG) ((jl t.gX xs p x).getD (t.gX.getD x iG).a gZ) gZ p].length)*88<=140737488355328),iA ((x:Int)+1) aA]<|.e (ae [.b 22 (OP rfl rfl rk:Bx.le (.row true 41 ((jl t.gX xs p x).length+[mB (t.gX.getD x iG) ((jl t.gX xs p x).getD (t.gX.getD x iG).a gZ) gZ p].length) 7 (λi_ j_=>if i_<(jl t.gX xs p x).length then(jh (jl t.gX xs p x)) i_ j_ else(E.iS (hH [mB (t.gX.getD x iG) ((jl t.gX xs p x).getD (t.gX.getD x iG).a gZ) gZ p])) (i_-(jl t.gX xs p x).length) j_)) (.row true 41 ((jl t.gX xs p (x+1)).length) 7 (jh (jl t.gX xs p (x+1)))))])) aD)
  (λhx=>by
    exact iF (aa [tF 27 ((t.gX.length:Int)<t.gX.length) aA,.z 22]<|.e (ae [.o 7 (.e (sY aF):ai (.sl true ((jl t.gX xs p t.gX.length).length) 7 (jh (jl t.gX xs p t.gX.length))) (hH (jl t.gX xs p t.gX.length)))])) aD) aG:jA 5 f226 (W4 t xs p 0) (.exit 0) ⟨75,true,[(7,.e (hH (jl t.gX xs p t.gX.length)))],[]⟩) (ae [.b 22 (.iD rfl:Bx.le (.row true 41 xs.length 7 (jh xs)) (.row true 41 ((jl t.gX xs p 0).length) 7 (jh (jl t.gX xs p 0))))])]) 
def nX(m:List (List Iv)):Nat->List Iv
 | 0=>[]
 |k+1=>nX m k++m.getD k []
def KQ(m:List (List Iv))(k:Nat):(nX m (k+1)).length=(nX m k).length+(m.getD k []).length:=by simp[nX]
def adW{T n n':Nat}{xs r:List Iv}(hn:n=xs.length)(sP:n'=(xs++r).length):Bx.le (.row true T (n+r.length) 7 λi j=>if i<n then jh xs i j else(E.iS (hH r)) (i-n) j) (.row true T n' 7 (jh (xs++r))):=by
 subst hn sP;refine .row aF λi j hi hj=>⟨.iD ?_,xE _ _ hj⟩
 by_cases h:i<xs.length
 .rw [bj h];show(iQ (xs.getD i gZ)).getD j .any=(iQ ((xs++r).getD i gZ)).getD j .any;congr 2;simp[bk,dg h]
 .rw [bh h];show(iQ (r.getD (i-xs.length) gZ)).getD j .any=(iQ ((xs++r).getD i gZ)).getD j .any;congr 2;simp[bk,dH (aA:xs.length<=i)]
def tM(a b:List Iv):E.le (.sl true 2 1 λi j=>[hH a,hH b].getD (i*1+j) (.v (.bool false))) (iW [a,b]):=.sl λi j hi hj=>by
 obtain rfl:j=0:= aA ;obtain rfl|rfl:i=0\/i=1:= aA 
 all_goals exact⟨.refl _,rfl⟩
def PW(m:List (List Iv))(x:Nat):PS:=⟨36,true,[(11,.e (iP x)),(10,.e (iP m.length)),(9,.e (iW m)),(3,.e (iP ((nX m x).length:Int))),(0,.e (iW m))],[]⟩
def PX(m:List (List Iv))(x:Nat):PS:=⟨36,true,[(27,.e (iP x)),(26,.e (iP m.length)),(25,.e (iW m)),(6,.own 24)],[(24,.row true 41 ((nX m x).length) 7 (jh (nX m x)))]⟩
def Zt(m:List (List Iv))(hl:m.length<=1000)(hb:∀ k,k<=m.length->(nX m k).length<=1000):gW 79 [iW m] (hH (nX m m.length)):=by
 have og:=hb m.length (bl _);exact aj call79 func79 (ae [.s (Sp.jE (PW m) 0 m.length aA (λx hx nF=>by
    have kV:=hb (x+1) aA;rw[KQ]at kV;exact iF (aa [tT 12 ((x:Int)<m.length) aA,iX (x:Int) (m.length) aA,iA (((nX m x).length:Int)+((m.getD x []).length:Int)) aA,tF 20 ((((nX m x).length+(m.getD x []).length:Nat):Int)<0) aA,iA ((x:Int)+1) aA]<|.e (ae [.o 3 (al (((nX m x).length+(m.getD x []).length:Nat):Int) ((nX m (x+1)).length:Int) (by rw[KQ]))])) aD)
  (λhx=>by
    exact iF (ae [tF 12 ((m.length:Int)<m.length) aA]) aD) aG:jA 3 Tryz.f79 (PW m 0) (.exit 0) ⟨36,true,[(3,.e (iP ((nX m m.length).length:Int))),(0,.e (iW m))],[]⟩) (ae [.o 3 (al 0 ((nX m 0).length:Int) rfl)]),.cn (acu _ aA:xZ 140 [.v (.slice none 0 0),iP ((nX m m.length).length:Int)] true 41 0 7 (jh [])),.s (Sp.jE (PX m) 0 m.length aA (λx hx nF=>by
    have kV:=hb (x+1) aA;rw[KQ]at kV;exact iF (aa [tT 28 ((x:Int)<m.length) aA,iX (x:Int) (m.length) aA,.a (aA:((nX m x).length+(m.getD x []).length)*88<=140737488355328),iA ((x:Int)+1) aA]<|.e (ae [.b 24 (adW rfl rfl:Bx.le (.row true 41 ((nX m x).length+(m.getD x []).length) 7 (λi_ j_=>if i_<(nX m x).length then(jh (nX m x)) i_ j_ else(E.iS (hH (m.getD x []))) (i_-(nX m x).length) j_)) (.row true 41 ((nX m (x+1)).length) 7 (jh (nX m (x+1)))))])) aD)
  (λhx=>by
    exact iF (aa [tF 28 ((m.length:Int)<m.length) aA,.z 24]<|.e (ae [.o 6 (.e (sY aF):ai (.sl true ((nX m m.length).length) 7 (jh (nX m m.length))) (hH (nX m m.length)))])) aD) aG:jA 11 Tryz.f79 (PX m 0) (.exit 2) ⟨36,true,[(6,.e (hH (nX m m.length)))],[]⟩) (ae [.b 24 (.iD rfl:Bx.le (.row true 41 0 7 (jh [])) (.row true 41 ((nX m 0).length) 7 (jh (nX m 0))))])]) 
def uc(a b:List Iv)(ha:a.length<=400)(hb:b.length<=400):gW 79 [iW [a,b]] (hH (a++b)):=by
 have e1:nX [a,b] 1=a:=rfl;have e2:nX [a,b] 2=a++b:=rfl;have:=Zt [a,b] aF λk hk=>by
  have hk:k<=2:=hk;rcases k with _|_|_|k
  .exact cg _
  .rw [e1];omega
  .rw [e2,bY];omega
  .omega
 rwa[show[a,b].length=2 from rfl,e2]at this
def Hj(p:Int):gW 157 [iP p] (bP (kF p)):=
 aj call157 func157 (.w (8<=p)
  (λk1=>aa [tB 4 (bn k1)]<|rQ (bP (decide (p<=512))) (bP (kF p)) (by unfold kF;simp[k1]))
  (λk1=>aa [tB 4 (bp k1)]<|rQ (bP false) (bP (kF p)) (by unfold kF;simp[k1]))) 
def abK(x:Iv)(hx:x.ic):gW 273 [ix x] (bP false):=
 aj call273 func273 (ae [.c (sX x aB)]) 
def RB(t:iV)(xs:List Iv)(p:Nat)(h:wb t)(h1:1<=xs.length)(hx:xs.length=t.iw)(hv:mf xs)(iu:8<=p)(ie:p<=512):gW 225 [jG t,hH xs,iP p] (bP true):=by
 have h8:=h.iw;exact aj call225 func225 (ae [.c (J4 t aB),ag 14 ((xs.length:Int)==t.iw) (Fv hx),af [iP p] (Hj _),ag 18 (kF (p:Int)) (oG.2 ⟨aA,aA⟩),.c (xF true _ _ 273 [] (λ_=>false) (λi hi=>abK _ (hv i)) aA (λ_ _=>rfl):gW 39 [hH xs,.fn 273 []] _)]) 
def Rk(t:iV)(xs:List Iv)(p:Nat):(List.range t.gY.length).map (λj=>(jl t.gX xs p t.gX.length).getD (t.gY.getD j 0) gZ)=jT t xs p:=by
 unfold jT;apply List.ext_getElem?;intro i;rw[cD,cD];by_cases hi:i<t.gY.length
 .rw [bw (by simpa using hi),bw hi];simp[bk,hi]
 .rw [bR (by simpa using hi),bR aA];rfl
def abG(x:Iv):gW 224 [ix x] (bP x.all):=
 aj call224 func224 (.nil) 
def zB(l:List Iv)(hl:l.length<=1000):gW 155 [hH l] (bP (mh l)):=
 aj call155 func155 (ae [.c (EX true _ _ 224 [] (λi=>(l.getD i gZ).all) (λi hi=>abG _) aA:gW 39 [hH l,.fn 224 []] _)]) 
def LC(x:Iv)(hx:x.ic):gW 156 [ix x] (bP false):=
 aj call156 func156 (ae [.c (sX x aB)]) 
def NB{l:List Iv}(h:mq l):mh l=false:=by
 unfold mh;rw[cw];intro i hi;rw[(h i (bJ.1 hi)).2];decide
def GB{s:me}{b:List Iv}(h:oK s)(hb:kG s.jU b):wb s.tape/\1<=(b++s.params).length/\(b++s.params).length=s.tape.iw/\mf (b++s.params):=by
 have h1:=h.s1;have h2:=h.iw;have h3:=hb.len;refine⟨h.tape,?_,?_,hb.ok.qH.append h.params.qH⟩
 .rw [bY];omega
 .rw [bY];omega
def Pa(x:Rat):Rat:=if 0<=x then x else -x
def XJ:Pa 0=0:=rfl
abbrev QM:=Nat->Nat->Rat
section
variable {m:List (List Iv)} {h:Iv} {M:QM} {t:Rat} {n p:Nat}
end
section
variable {n:Nat} {M:QM}
end
def DA(f:Nat->Rat)(X:Iv):Prop:=∀ ε,0<ε->∃ N0,∀ N,N0<=N->∃ r,X.j8 r/\Pa (f N-r)<=ε
def DA.ags{f:Nat->Rat}{X:Iv}{k:Nat}(h:∀ N,k<=N->X.j8 (f N)):DA f X:=λε hε=>
 ⟨k,λN hN=>⟨f N,h N hN,by rw[Rat.sub_self,XJ];exact dV hε⟩⟩
def DA.all{f:Nat->Rat}{X:Iv}(h:X.all=true):DA f X:=DA.ags (k:=0) λ_ _=>.inl h
def J9{i:Nat}(h:i<2):i=0\/i=1:= aA 
def XA:Dy:=⟨false,1014047155841371404857783918912611814895143950022408150448898879701903863171748812343190420115852101928445847465915947005,-398⟩
def XB:Dy:=⟨false,2028094311682742809715567837825223629790287900044816300897797759403807726343497624686380840231704203856891694931831894109,-399⟩
def HF:Iv:=⟨XA,XB,false⟩
def after{N:Nat}(h:100<=N):∃ d,N=100+d:=⟨N-100,aA⟩
def Ya(x:Iv)(hx:x.ic)(xa:x.all=true)(k:Int)(k1:-32768<=k)(k2:k<=32768):gW 244 [ix x,iP k] (ix (uX x k)):=
 aj call244 func244 (aa [.o 10 (.e (kT _):ai (.sl true 1 7 λi_ j_=>(iQ x).getD (i_*7+j_) (.v (.bool false))) (hH [x])),af [hH [x]] (rK _ aB),ah 11 (!x.all) (by rw[xa];rfl),.c rL]<|rQ (ix gZ) (ix (uX x k)) (by rw[show(uX x k)=gZ by unfold uX;rw[bj xa]])) 
def Yb(x:Iv)(hx:x.ic)(xa:x.all=false)(k:Int)(k1:-32768<=k)(k2:k<=32768):gW 244 [ix x,iP k] (ix (uX x k)):=by
 obtain⟨v1,v2⟩:=hx.mM;exact aj call244 func244 (aa [.o 10 (.e (kT _):ai (.sl true 1 7 λi_ j_=>(iQ x).getD (i_*7+j_) (.v (.bool false))) (hH [x])),af [hH [x]] (rK _ aB),ag 11 (!x.all) (by rw[xa];rfl),.c (KF x.lo k aB aA aA),.c (KF x.hi k aB aA aA),.c (Ix (nf (canon x.lo.neg x.lo.m (x.lo.e+k))) (nf (canon x.hi.neg x.hi.m (x.hi.e+k))) (qg (canon x.lo.neg x.lo.m (x.lo.e+k))) (qg (canon x.hi.neg x.hi.m (x.hi.e+k))))]<|rQ (ix (pF (nf (canon x.lo.neg x.lo.m (x.lo.e+k))) (qg (canon x.lo.neg x.lo.m (x.lo.e+k))) (nf (canon x.hi.neg x.hi.m (x.hi.e+k))) (qg (canon x.hi.neg x.hi.m (x.hi.e+k))))) (ix (uX x k)) (by unfold uX;rw[bh (by rw[xa];decide)];simp only[aid,aie])) 
def Yc(x:Iv)(hx:x.ic)(k:Int)(k1:-32768<=k)(k2:k<=32768):gW 244 [ix x,iP k] (ix (uX x k)):=by
 cases xa:x.all with
 |true=>exact Ya x hx xa k k1 k2
 |false=>exact Yb x hx xa k k1 k2
def Rz(t:iV)(l:List Iv)(i p:Nat)(x:Nat):PS:=⟨95,true,[(10,.own 10),(20,.e (iP x)),(19,.e (iP t.iw)),(9,.e (.mp BQ)),(4,.box 4 0),(1,.e (hH l)),(2,.e (iP i)),(3,.e (iP p))],[(10,.row true 41 ((nK t.iw i x).length) 7 (jh (nK t.iw i x))),(4,.cells 29 [iP t.iw,kP t.gX,kR t.gY])]⟩
noncomputable def RA(t:iV)(l:List Iv)(i p:Nat)(x:Nat):PS:=⟨95,true,[(36,.e (iP x)),(35,.e (iP t.gX.length)),(34,.e (kP t.gX)),(10,.own 10),(9,.e (.mp BQ)),(4,.box 4 0),(1,.e (hH l)),(3,.e (iP p))],[(10,.row true 41 ((jV t l i p x).length) 7 (jh (jV t l i p x))),(4,.cells 29 [iP t.iw,kP t.gX,kR t.gY])]⟩
def Ea(n:Int)(h:n.natAbs<4294967296):gW 278 [iP n] (ix (lM n)):=by
 have hv:=Is h;exact aj call278 func278 (ae [af [iP n] (Av _ aA),.c (Bi (kO n) aB)]) 
def aga(o:ji)(v a b da db:Iv)(p:Nat):List E:=y4 o++iQ v++iQ a++iQ b++iQ da++iQ db++[iP (p:Int)]
def ND(o:ji)(v:Iv)(p:Nat):E:=.agg (y4 o++iQ v++aq++aq++aq++aq++[iP (p:Int)])
def tN(o:ji)(v a b da db:Iv)(p:Nat):E:=.agg (aga o v a b da db p)
def ahX(o:ji)(v:Iv)(p:Nat):gW 322 [ND o v p] (ix (lM 0)):=
 aj call322 func322 (ae [af [iP 0] (Ea _ aA)]) 
def ahY(o:ji)(v a b da db:Iv)(p:Nat)(hv:v.ic)(ha:a.ic)(hb:b.ic)(hd:da.ic)(he:db.ic)(iu:8<=p)(ie:p<=512):gW 323 [tN o v a b da db p,(.jD 1 λ_=>.fn 73 [])] (ix (kU da db p)):=by
 have q1:1<=p:= aA ;have q2:p<=4096:= aA ;exact aj call323 func323 (ae [.c (yN da db p aB aB aA aA)]) 
def ahZ(o:ji)(v a b da db:Iv)(p:Nat)(hv:v.ic)(ha:a.ic)(hb:b.ic)(hd:da.ic)(he:db.ic)(iu:8<=p)(ie:p<=512):gW 324 [tN o v a b da db p,(.jD 1 λ_=>.fn 163 [])] (ix (ky da db p)):=by
 have q1:1<=p:= aA ;have q2:p<=4096:= aA ;exact aj call324 func324 (ae [.c (yO da db p aB aB aA aA)]) 
def ah2(o:ji)(v a b da db:Iv)(p:Nat)(hv:v.ic)(ha:a.ic)(hb:b.ic)(hd:da.ic)(he:db.ic)(iu:8<=p)(ie:p<=512):gW 325 [tN o v a b da db p] (ix (rp da)):=by
 have q1:1<=p:= aA ;have q2:p<=4096:= aA ;exact aj call325 func325 (ae [.c (IA da aB)]) 
def ah0(o:ji)(v a b da db:Iv)(p:Nat)(hv:v.ic)(ha:a.ic)(hb:b.ic)(hd:da.ic)(he:db.ic)(iu:8<=p)(ie:p<=512):gW 326 [tN o v a b da db p,(.jD 1 λ_=>.fn 73 []),(.jD 1 λ_=>.fn 68 [])] (ix (kU (kJ da b p) (kJ a db p) p)):=by
 have q1:1<=p:= aA ;have q2:p<=4096:= aA ;exact aj call326 func326 (ae [.c (uE da b p aB aB aA aA),.c (uE a db p aB aB aA aA),.c (yN (kJ da b p) (kJ a db p) p (nQ _ _ q1 q2) (nQ _ _ q1 q2) aA aA)]) 
def ah1(o:ji)(v a b da db:Iv)(p:Nat)(hv:v.ic)(ha:a.ic)(hb:b.ic)(hd:da.ic)(he:db.ic)(iu:8<=p)(ie:p<=512):gW 327 [tN o v a b da db p,(.jD 1 λ_=>.fn 99 []),(.jD 1 λ_=>.fn 163 []),(.jD 1 λ_=>.fn 68 [])] (ix (qQ (ky da (kJ v db p) p) b p)):=by
 have q1:1<=p:= aA ;have q2:p<=4096:= aA ;exact aj call327 func327 (ae [.c (uE v db p aB aB aA aA),.c (yO da (kJ v db p) p aB (nQ _ _ q1 q2) aA aA),.c (Iw (ky da (kJ v db p) p) b p (pT hd (qX (nQ _ _ q1 q2)) q1 q2) aB aA aA)]) 
def ah3(o:ji)(v a b da db:Iv)(p:Nat)(hv:v.ic)(ha:a.ic)(hb:b.ic)(hd:da.ic)(he:db.ic)(iu:8<=p)(ie:p<=512)(h0:o.n=0):gW 328 [tN o v a b da db p,(.jD 1 λ_=>.fn 68 [])] (ix (kJ (lM 0) da p)):=by
 have q1:1<=p:= aA ;have q2:p<=4096:= aA ;have zO:=FB;exact aj call328 func328 (ae [ag 7 ((o.n:Int)==0) (r9 h0),af [iP 0] (Ea _ aA),.c (uE (lM 0) da p zO aB aA aA)]) 
def ah4(o:ji)(v a b da db:Iv)(p:Nat)(hv:v.ic)(ha:a.ic)(hb:b.ic)(hd:da.ic)(he:db.ic)(iu:8<=p)(ie:p<=512)(h0:o.n≠0)(hn:o.n<=16):gW 328 [tN o v a b da db p,(.jD 1 λ_=>.fn 68 [])] (ix (kJ (kJ (lM (o.n:Int)) (qs a (o.n-1) p) p) da p)):=by
 have q1:1<=p:= aA ;have q2:p<=4096:= aA ;have zO:=NG (aA:o.n<4294967296);have hpw:=VZ ha (o.n-1) q1 q2;exact aj call328 func328 (ae [ah 7 ((o.n:Int)==0) (oF h0),af [iP o.n] (Ea _ aA),iA ((o.n:Int)-1) aA,.o 26 (al ((o.n:Int)-1) ((o.n-1:Nat):Int) aA),af [ix a,iP ((o.n-1:Nat):Int),iP p] (Pt _ _ _ aB aA aA aA),.c (uE (lM (o.n:Int)) (qs a (o.n-1) p) p zO hpw aA aA),.c (uE (kJ (lM (o.n:Int)) (qs a (o.n-1) p) p) da p (nQ _ _ q1 q2) aB aA aA)]) 
def ah5(o:ji)(v a b da db:Iv)(p:Nat)(hv:v.ic)(ha:a.ic)(hb:b.ic)(hd:da.ic)(he:db.ic)(iu:8<=p)(ie:p<=512):gW 329 [tN o v a b da db p,(.jD 1 λ_=>.fn 68 [])] (ix (kJ v da p)):=by
 have q1:1<=p:= aA ;have q2:p<=4096:= aA ;exact aj call329 func329 (ae [.c (uE v da p aB aB aA aA)]) 
def ahT(o:ji)(v a b da db:Iv)(p:Nat)(hv:v.ic)(ha:a.ic)(hb:b.ic)(hd:da.ic)(he:db.ic)(iu:8<=p)(ie:p<=512):gW 330 [tN o v a b da db p,(.jD 1 λ_=>.fn 99 [])] (ix (qQ da a p)):=by
 have q1:1<=p:= aA ;have q2:p<=4096:= aA ;exact aj call330 func330 (ae [.c (Iw da a p aB aB aA aA)]) 
def ahU(o:ji)(v a b da db:Iv)(p:Nat)(hv:v.ic)(ha:a.ic)(hb:b.ic)(hd:da.ic)(he:db.ic)(iu:8<=p)(ie:p<=512)(hF:w8):gW 331 [tN o v a b da db p,(.jD 1 λ_=>.fn 68 [])] (ix (kJ (yn a p) da p)):=by
 have q1:1<=p:= aA ;have q2:p<=4096:= aA ;exact aj call331 func331 (ae [af [ix a,iP p] (Rf _ aB _ aA aA hF),.c (uE (yn a p) da p (Rg _ _) aB aA aA)]) 
def ahV(o:ji)(v a b da db:Iv)(p:Nat)(hv:v.ic)(ha:a.ic)(hb:b.ic)(hd:da.ic)(he:db.ic)(iu:8<=p)(ie:p<=512)(hF:w8):gW 332 [tN o v a b da db p,(.jD 1 λ_=>.fn 68 [])] (ix (rp (kJ (xq a p) da p))):=by
 have q1:1<=p:= aA ;have q2:p<=4096:= aA ;exact aj call332 func332 (ae [af [ix a,iP p] (Rh _ aB _ aA aA hF),.c (uE (xq a p) da p (Ri _ _) aB aA aA),.c (IA (kJ (xq a p) da p) (nQ _ _ q1 q2))]) 
def ahW(o:ji)(v a b da db:Iv)(p:Nat)(hv:v.ic)(ha:a.ic)(hb:b.ic)(hd:da.ic)(he:db.ic)(iu:8<=p)(ie:p<=512):gW 333 [tN o v a b da db p,(.jD 1 λ_=>.fn 99 [])] (ix (qQ da (uX v 1) p)):=by
 have q1:1<=p:= aA ;have q2:p<=4096:= aA ;exact aj call333 func333 (ae [.c (Yc v aB 1 aA aA),.c (Iw da (uX v 1) p aB (aih hv _) aA aA)]) 
def BP(k:Nat):FuncId:=if k=1 then 322 else if k=3 then 323 else if k=4 then 324 else if k=7 then 325 else if k=5 then 326 else if k=6 then 327 else if k=8 then 328 else if k=9 then 329 else if k=10 then 330 else if k=11 then 331 else if k=12 then 332 else if k=13 then 333 else 0
def BO(k:Nat):List E:=if k=1 then[]else if k=3 then[.jD 1 λ_=>.fn 73 []]else if k=4 then[.jD 1 λ_=>.fn 163 []]else if k=7 then[]else if k=5 then[.jD 1 λ_=>.fn 73 [],.jD 1 λ_=>.fn 68 []]else if k=6 then[.jD 1 λ_=>.fn 99 [],.jD 1 λ_=>.fn 163 [],.jD 1 λ_=>.fn 68 []]else if k=8 then[.jD 1 λ_=>.fn 68 []]else if k=9 then[.jD 1 λ_=>.fn 68 []]else if k=10 then[.jD 1 λ_=>.fn 99 []]else if k=11 then[.jD 1 λ_=>.fn 68 []]else if k=12 then[.jD 1 λ_=>.fn 68 []]else if k=13 then[.jD 1 λ_=>.fn 99 []]else[]
def Ws{k:Nat}(h:k=1\/3<=k)(h2:k<=13):xJ BQ (k:Int)=some (.fn (BP k) (BO k)):=by
 have:k=1\/k=3\/k=4\/k=5\/k=6\/k=7\/k=8\/k=9\/k=10\/k=11\/k=12\/k=13:= aA ;rcases this with h|h|h|h|h|h|h|h|h|h|h|h<;>subst h<;>rfl
def ah6(k:Nat)(hk:k=1)(o:ji)(v:Iv)(p:Nat):gW (BP k) (ND o v p::BO k) (ix (lM 0)):=by
 subst hk;exact ahX o v p
def ah7(o:ji)(v a b da db:Iv)(p:Nat)(hv:v.ic)(ha:a.ic)(hb:b.ic)(hd:da.ic)(he:db.ic)(iu:8<=p)(ie:p<=512)(hn:o.n<=16)(h1:3<=o.kind)(h2:o.kind<=13)(hF:o.kind<=8\/w8):gW (BP o.kind) (tN o v a b da db p::BO o.kind) (ix (qi o v a b da db p)):=by
 have:o.kind=3\/o.kind=4\/o.kind=5\/o.kind=6\/o.kind=7\/o.kind=8\/o.kind=9\/o.kind=10\/o.kind=11\/o.kind=12\/o.kind=13:= aA ;rcases this with h|h|h|h|h|h|h|h|h|h|h
 .rw [h];unfold qi;rw[bh aA,bj h];exact ahY o v a b da db p hv ha hb hd he iu ie
 .rw [h];unfold qi;rw[bh aA,bh aA,bj h];exact ahZ o v a b da db p hv ha hb hd he iu ie
 .rw [h];unfold qi;rw[bh aA,bh aA,bh aA,bj h];exact ah0 o v a b da db p hv ha hb hd he iu ie
 .rw [h];unfold qi;rw[bh aA,bh aA,bh aA,bh aA,bj h];exact ah1 o v a b da db p hv ha hb hd he iu ie
 .rw [h];unfold qi;rw[bh aA,bh aA,bh aA,bh aA,bh aA,bj h];exact ah2 o v a b da db p hv ha hb hd he iu ie
 .rw [h];unfold qi;rw[bh aA,bh aA,bh aA,bh aA,bh aA,bh aA,bj h];by_cases h0:o.n=0
  .rw [bj h0];exact ah3 o v a b da db p hv ha hb hd he iu ie h0
  .rw [bh h0];exact ah4 o v a b da db p hv ha hb hd he iu ie h0 hn
 .rw [h];unfold qi;rw[bh aA,bh aA,bh aA,bh aA,bh aA,bh aA,bh aA,bj h];exact ah5 o v a b da db p hv ha hb hd he iu ie
 .rw [h];unfold qi;rw[bh aA,bh aA,bh aA,bh aA,bh aA,bh aA,bh aA,bh aA,bj h];exact ahT o v a b da db p hv ha hb hd he iu ie
 .rw [h];unfold qi;rw[bh aA,bh aA,bh aA,bh aA,bh aA,bh aA,bh aA,bh aA,bh aA,bj h];exact ahU o v a b da db p hv ha hb hd he iu ie (hF.resolve_left aA)
 .rw [h];unfold qi;rw[bh aA,bh aA,bh aA,bh aA,bh aA,bh aA,bh aA,bh aA,bh aA,bh aA,bj h];exact ahV o v a b da db p hv ha hb hd he iu ie (hF.resolve_left aA)
 .rw [h];unfold qi;rw[bh aA,bh aA,bh aA,bh aA,bh aA,bh aA,bh aA,bh aA,bh aA,bh aA,bh aA,bj h];exact ahW o v a b da db p hv ha hb hd he iu ie
def VI{o:ji}{m:Nat}(h:oJ o m)(hm:1<=m):o.b<m:=by
 have:=h.b;split at this<;>omega
def Xm{T n n' m i x:Nat}{y:Iv}(hn:n=(nK m i x).length)(sP:n'=(nK m i (x+1)).length)(hy:(if x=i then lM 1 else lM 0)=y):
 Bx.le (.row true T (n+[y].length) 7 λi_ j=>if i_<n then jh (nK m i x) i_ j else(E.iS (hH [y])) (i_-n) j) (.row true T n' 7 (jh (nK m i (x+1)))):=by
 subst sP hy;exact MU hn
def GQ{T n n' i x p:Nat}{t:iV}{l:List Iv}{y:Iv}(hn:n=(jV t l i p x).length)(sP:n'=(jV t l i p (x+1)).length)(hy:vo (t.gX.getD x iG) (l.getD (t.iw+x) gZ) l (jV t l i p x) p=y):
 Bx.le (.row true T (n+[y].length) 7 λi_ j=>if i_<n then jh (jV t l i p x) i_ j else(E.iS (hH [y])) (i_-n) j) (.row true T n' 7 (jh (jV t l i p (x+1)))):=by
 subst sP hy;exact MU hn
def Zs(t:iV)(l:List Iv)(i p:Nat)(h:wb t)(h1:1<=t.iw)(hl:l.length=t.iw+t.gX.length)(hv:mf l)(iu:8<=p)(ie:p<=512):gW 227 [jG t,hH l,iP i,iP p] (hH (jV t l i p t.gX.length)):=by
 have h8:=h.iw;have qB:=h.gX;exact aj call227 func227 (ae [af [] ah8,.y 10 10 true 41 7 (jh (nK t.iw i 0)),.s (Sp.jE (Rz t l i p) 0 t.iw aA (λx hx nF=>by
    have zN:=OH t.iw i x;exact iF (aa [tT 21 ((x:Int)<t.iw) aA,af [iP 0] (Ea _ aA)]<|.w (x=i)
     (λuv=>by
      have rk:(if x=i then lM 1 else lM 0)=lM 1:=by rw[bj uv]
      have oY:=nS (lM 1);exact aa [ag 26 ((x:Int)==i) (aY aA),af [iP 1] (Ea _ aA),.o 30 (.e (kT _):ai (.sl true 1 7 λi_ j_=>(iQ (lM 1)).getD (i_*7+j_) (.v (.bool false))) (hH [lM 1])),.a (aA:((nK t.iw i x).length+[lM 1].length)*88<=140737488355328),
       iA ((x:Int)+1) aA]<|.e (ae [.b 10 (Xm rfl rfl rk:Bx.le (.row true 41 ((nK t.iw i x).length+[lM 1].length) 7 (λi_ j_=>if i_<(nK t.iw i x).length then(jh (nK t.iw i x)) i_ j_ else(E.iS (hH [lM 1])) (i_-(nK t.iw i x).length) j_)) (.row true 41 ((nK t.iw i (x+1)).length) 7 (jh (nK t.iw i (x+1)))))]))
     (λuv=>by
      have rk:(if x=i then lM 1 else lM 0)=lM 0:=by rw[bh uv]
      have oY:=nS (lM 0);exact aa [ah 26 ((x:Int)==i) (aX aA),.o 30 (.e (kT _):ai (.sl true 1 7 λi_ j_=>(iQ (lM 0)).getD (i_*7+j_) (.v (.bool false))) (hH [lM 0])),.a (aA:((nK t.iw i x).length+[lM 0].length)*88<=140737488355328),iA ((x:Int)+1) aA]<|.e (ae [.b 10 (Xm rfl rfl rk:Bx.le (.row true 41 ((nK t.iw i x).length+[lM 0].length) 7 (λi_ j_=>if i_<(nK t.iw i x).length then(jh (nK t.iw i x)) i_ j_ else(E.iS (hH [lM 0])) (i_-(nK t.iw i x).length) j_)) (.row true 41 ((nK t.iw i (x+1)).length) 7 (jh (nK t.iw i (x+1)))))]))) aD)
  (λhx=>by
    exact iF (ae [tF 21 ((t.iw:Int)<t.iw) aA]) aD) aG:jA 4 f227 (Rz t l i p 0) (.exit 0) ⟨95,true,[(10,.own 10),(9,.e (.mp BQ)),(4,.box 4 0),(1,.e (hH l)),(3,.e (iP p))],[(10,.row true 41 ((nK t.iw i t.iw).length) 7 (jh (nK t.iw i t.iw))),(4,.cells 29 [iP t.iw,kP t.gX,kR t.gY])]⟩) (ae [.b 10 (.iD rfl:Bx.le (.row true 41 0 7 (jh (nK t.iw i 0))) (.row true 41 ((nK t.iw i 0).length) 7 (jh (nK t.iw i 0))))]),.s (Sp.jE (RA t l i p) 0 t.gX.length aA (λx hx nF=>by
    have iq:=h.op x aA;have zN:=KW t l i p x;have uq:=GR t hv i (aA:1<=p) (aA:p<=4096) x;have Sx:=iq.k3;by_cases nN:(t.gX.getD x iG).kind=1
    .by_cases EN:(l.getD (t.iw+x) gZ).all=true
     .have wF:=EN;have rk:vo (t.gX.getD x iG) (l.getD (t.iw+x) gZ) l (jV t l i p x) p=gZ:=by unfold vo;rw[bj wF]
      have oY:=nS gZ;exact iF (aa [tT 37 ((x:Int)<t.gX.length) aA,iX (x:Int) (t.gX.length) aA,iA ((t.iw:Int)+x) aA,iX ((t.iw+x:Nat):Int) (l.length) aA,ah 53 (((t.gX.getD x iG).kind:Int) != 1) (bc aA),.o 78 (.e xV:ai (.agg [bP false,.v (.slice none 0 0),iP 0,bP false,.v (.slice none 0 0),iP 0,bP true]) (ix gZ)),ag 81 ((l.getD (t.iw+x) gZ).all) wF,.o 91 (.e (kT _):ai (.sl true 1 7 λi_ j_=>(iQ gZ).getD (i_*7+j_) (.v (.bool false))) (hH [gZ])),.a (aA:((jV t l i p x).length+[gZ].length)*88<=140737488355328),
       iA ((x:Int)+1) aA]<|.e (ae [.b 10 (GQ rfl rfl rk:Bx.le (.row true 41 ((jV t l i p x).length+[gZ].length) 7 (λi_ j_=>if i_<(jV t l i p x).length then(jh (jV t l i p x)) i_ j_ else(E.iS (hH [gZ])) (i_-(jV t l i p x).length) j_)) (.row true 41 ((jV t l i p (x+1)).length) 7 (jh (jV t l i p (x+1)))))])) aD 
     .have wF:(l.getD (t.iw+x) gZ).all=false:=aZ EN;have rk:vo (t.gX.getD x iG) (l.getD (t.iw+x) gZ) l (jV t l i p x) p=lM 0:=by unfold vo;rw[bh (by rw[wF];decide)];unfold qi;rw[bj nN]
      have oY:=nS (lM 0);exact iF (aa [tT 37 ((x:Int)<t.gX.length) aA,iX (x:Int) (t.gX.length) aA,iA ((t.iw:Int)+x) aA,iX ((t.iw+x:Nat):Int) (l.length) aA,ah 53 (((t.gX.getD x iG).kind:Int) != 1) (bc aA),.o 78 (.e xV:ai (.agg [bP false,.v (.slice none 0 0),iP 0,bP false,.v (.slice none 0 0),iP 0,bP true]) (ix gZ)),ah 81 ((l.getD (t.iw+x) gZ).all) wF,.m (Ws Sx iq.Bj:xJ BQ ((t.gX.getD x iG).kind:Int)=some (.fn (BP (t.gX.getD x iG).kind) (BO (t.gX.getD x iG).kind))),.c (ah6 _ nN _ _ _:gW (BP (t.gX.getD x iG).kind) ((ND (t.gX.getD x iG) (l.getD (t.iw+x) gZ) p)::(BO (t.gX.getD x iG).kind)) _),.o 91 (.e (kT _):ai (.sl true 1 7 λi_ j_=>(iQ (lM 0)).getD (i_*7+j_) (.v (.bool false))) (hH [lM 0])),.a (aA:((jV t l i p x).length+[lM 0].length)*88<=140737488355328),
       iA ((x:Int)+1) aA]<|.e (ae [.b 10 (GQ rfl rfl rk:Bx.le (.row true 41 ((jV t l i p x).length+[lM 0].length) 7 (λi_ j_=>if i_<(jV t l i p x).length then(jh (jV t l i p x)) i_ j_ else(E.iS (hH [lM 0])) (i_-(jV t l i p x).length) j_)) (.row true 41 ((jV t l i p (x+1)).length) 7 (jh (jV t l i p (x+1)))))])) aD 
    .by_cases EN:(l.getD (t.iw+x) gZ).all=true
     .have wF:=EN;have h3:=iq.k3.resolve_left nN;have oa:=iq.Kw nN;have ob:=VI iq aA;have rk:vo (t.gX.getD x iG) (l.getD (t.iw+x) gZ) l (jV t l i p x) p=gZ:=by unfold vo;rw[bj wF]
      have oY:=nS gZ;exact iF (aa [tT 37 ((x:Int)<t.gX.length) aA,iX (x:Int) (t.gX.length) aA,iA ((t.iw:Int)+x) aA,iX ((t.iw+x:Nat):Int) (l.length) aA,ag 53 (((t.gX.getD x iG).kind:Int) != 1) (bg aA),iX ((t.gX.getD x iG).a:Int) (l.length) aA,iX ((t.gX.getD x iG).b:Int) (l.length) aA,
       iX ((t.gX.getD x iG).a:Int) ((jV t l i p x).length) aA,.a (aA:(t.gX.getD x iG).a<(jV t l i p x).length),iX ((t.gX.getD x iG).b:Int) ((jV t l i p x).length) aA,.a (aA:(t.gX.getD x iG).b<(jV t l i p x).length),.o 78 (.e xV:ai (.agg [bP false,.v (.slice none 0 0),iP 0,bP false,.v (.slice none 0 0),iP 0,bP true]) (ix gZ)),ag 81 ((l.getD (t.iw+x) gZ).all) wF,.o 91 (.e (kT _):ai (.sl true 1 7 λi_ j_=>(iQ gZ).getD (i_*7+j_) (.v (.bool false))) (hH [gZ])),.a (aA:((jV t l i p x).length+[gZ].length)*88<=140737488355328),iA ((x:Int)+1) aA]<|.e (ae [.b 10 (GQ rfl rfl rk:Bx.le (.row true 41 ((jV t l i p x).length+[gZ].length) 7 (λi_ j_=>if i_<(jV t l i p x).length then(jh (jV t l i p x)) i_ j_ else(E.iS (hH [gZ])) (i_-(jV t l i p x).length) j_)) (.row true 41 ((jV t l i p (x+1)).length) 7 (jh (jV t l i p (x+1)))))])) aD 
     .have wF:(l.getD (t.iw+x) gZ).all=false:=aZ EN;have h3:=iq.k3.resolve_left nN;have oa:=iq.Kw nN;have ob:=VI iq aA;have rk:vo (t.gX.getD x iG) (l.getD (t.iw+x) gZ) l (jV t l i p x) p=qi (t.gX.getD x iG) (l.getD (t.iw+x) gZ) (l.getD ((t.gX.getD x iG).a) gZ) (l.getD ((t.gX.getD x iG).b) gZ) ((jV t l i p x).getD ((t.gX.getD x iG).a) gZ) ((jV t l i p x).getD ((t.gX.getD x iG).b) gZ) p:=by unfold vo;rw[bh (by rw[wF];decide)]
      have oY:=nS (qi (t.gX.getD x iG) (l.getD (t.iw+x) gZ) (l.getD ((t.gX.getD x iG).a) gZ) (l.getD ((t.gX.getD x iG).b) gZ) ((jV t l i p x).getD ((t.gX.getD x iG).a) gZ) ((jV t l i p x).getD ((t.gX.getD x iG).b) gZ) p);exact iF (aa [tT 37 ((x:Int)<t.gX.length) aA,iX (x:Int) (t.gX.length) aA,iA ((t.iw:Int)+x) aA,iX ((t.iw+x:Nat):Int) (l.length) aA,ag 53 (((t.gX.getD x iG).kind:Int) != 1) (bg aA),iX ((t.gX.getD x iG).a:Int) (l.length) aA,iX ((t.gX.getD x iG).b:Int) (l.length) aA,
       iX ((t.gX.getD x iG).a:Int) ((jV t l i p x).length) aA,.a (aA:(t.gX.getD x iG).a<(jV t l i p x).length),iX ((t.gX.getD x iG).b:Int) ((jV t l i p x).length) aA,.a (aA:(t.gX.getD x iG).b<(jV t l i p x).length),.o 78 (.e xV:ai (.agg [bP false,.v (.slice none 0 0),iP 0,bP false,.v (.slice none 0 0),iP 0,bP true]) (ix gZ)),ah 81 ((l.getD (t.iw+x) gZ).all) wF,.m (Ws Sx iq.Bj:xJ BQ ((t.gX.getD x iG).kind:Int)=some (.fn (BP (t.gX.getD x iG).kind) (BO (t.gX.getD x iG).kind))),.c (ah7 _ _ _ _ _ _ _ (hv _) (hv _) (hv _) (uq _) (uq _) iu ie (VJ iq) h3 iq.Bj iq.f:gW (BP (t.gX.getD x iG).kind) ((tN (t.gX.getD x iG) (l.getD (t.iw+x) gZ) (l.getD (t.gX.getD x iG).a gZ) (l.getD (t.gX.getD x iG).b gZ) ((jV t l i p x).getD (t.gX.getD x iG).a gZ) ((jV t l i p x).getD (t.gX.getD x iG).b gZ) p)::(BO (t.gX.getD x iG).kind)) _),.o 91 (.e (kT _):ai (.sl true 1 7 λi_ j_=>(iQ (qi (t.gX.getD x iG) (l.getD (t.iw+x) gZ) (l.getD ((t.gX.getD x iG).a) gZ) (l.getD ((t.gX.getD x iG).b) gZ) ((jV t l i p x).getD ((t.gX.getD x iG).a) gZ) ((jV t l i p x).getD ((t.gX.getD x iG).b) gZ) p)).getD (i_*7+j_) (.v (.bool false))) (hH [qi (t.gX.getD x iG) (l.getD (t.iw+x) gZ) (l.getD ((t.gX.getD x iG).a) gZ) (l.getD ((t.gX.getD x iG).b) gZ) ((jV t l i p x).getD ((t.gX.getD x iG).a) gZ) ((jV t l i p x).getD ((t.gX.getD x iG).b) gZ) p])),.a (aA:((jV t l i p x).length+[qi (t.gX.getD x iG) (l.getD (t.iw+x) gZ) (l.getD ((t.gX.getD x iG).a) gZ) (l.getD ((t.gX.getD x iG).b) gZ) ((jV t l i p x).getD ((t.gX.getD x iG).a) gZ) ((jV t l i p x).getD ((t.gX.getD x iG).b) gZ) p].length)*88<=140737488355328),
       iA ((x:Int)+1) aA]<|.e (ae [.b 10 (GQ rfl rfl rk:Bx.le (.row true 41 ((jV t l i p x).length+[qi (t.gX.getD x iG) (l.getD (t.iw+x) gZ) (l.getD ((t.gX.getD x iG).a) gZ) (l.getD ((t.gX.getD x iG).b) gZ) ((jV t l i p x).getD ((t.gX.getD x iG).a) gZ) ((jV t l i p x).getD ((t.gX.getD x iG).b) gZ) p].length) 7 (λi_ j_=>if i_<(jV t l i p x).length then(jh (jV t l i p x)) i_ j_ else(E.iS (hH [qi (t.gX.getD x iG) (l.getD (t.iw+x) gZ) (l.getD ((t.gX.getD x iG).a) gZ) (l.getD ((t.gX.getD x iG).b) gZ) ((jV t l i p x).getD ((t.gX.getD x iG).a) gZ) ((jV t l i p x).getD ((t.gX.getD x iG).b) gZ) p])) (i_-(jV t l i p x).length) j_)) (.row true 41 ((jV t l i p (x+1)).length) 7 (jh (jV t l i p (x+1)))))])) aD)
  (λhx=>by
    exact iF (aa [tF 37 ((t.gX.length:Int)<t.gX.length) aA,.z 10]<|.e (ae [.o 10 (.e (sY aF):ai (.sl true ((jV t l i p t.gX.length).length) 7 (jh (jV t l i p t.gX.length))) (hH (jV t l i p t.gX.length)))])) aD) aG:jA 12 f227 (RA t l i p 0) (.exit 2) ⟨95,true,[(10,.e (hH (jV t l i p t.gX.length)))],[]⟩) (ae [.b 10 (.iD rfl:Bx.le (.row true 41 ((nK t.iw i t.iw).length) 7 (jh (nK t.iw i t.iw))) (.row true 41 ((jV t l i p 0).length) 7 (jh (jV t l i p 0))))])]) 
noncomputable def RK(t:iV)(xs:List Iv)(p m:Nat)(x:Nat):PS:=⟨91,true,[(43,.e (iP x)),(42,.e (iP m)),(11,.own 41),(10,.e (hH (jl t.gX xs p t.gX.length))),(4,.box 4 0),(3,.e (iP p))],[(41,.il true 23 41 t.gY.length 7 (jx (kW t.gY.length (nt t xs p) x 0)) (kp (kW t.gY.length (nt t xs p) x 0)) .none),(4,.cells 29 [iP t.iw,kP t.gX,kR t.gY])]⟩
noncomputable def RL(t:iV)(xs:List Iv)(p m x:Nat)(k:Nat):PS:=⟨91,true,[(54,.e (iP k)),(53,.e (iP t.gY.length)),(52,.e (kR t.gY)),(13,.e (hH (jV t (jl t.gX xs p t.gX.length) x p t.gX.length))),(43,.e (iP x)),(42,.e (iP m)),(11,.own 41),(10,.e (hH (jl t.gX xs p t.gX.length))),(4,.box 4 0),(3,.e (iP p))],[(41,.il true 23 41 t.gY.length 7 (jx (kW t.gY.length (nt t xs p) x k)) (kp (kW t.gY.length (nt t xs p) x k)) .none),(4,.cells 29 [iP t.iw,kP t.gX,kR t.gY])]⟩
noncomputable def RM(t:iV)(xs:List Iv)(p m:Nat)(x:Nat):PS:=⟨91,true,[(16,.own 16),(77,.e (iP x)),(76,.e (iP t.gY.length)),(75,.e (kR t.gY)),(11,.own 41),(10,.e (hH (jl t.gX xs p t.gX.length)))],[(16,.row true 41 x 7 (jh ((List.range x).map (λj_=>(jl t.gX xs p t.gX.length).getD (t.gY.getD j_ 0) gZ)))),(41,.il true 23 41 t.gY.length 7 (jx (kW t.gY.length (nt t xs p) m 0)) (kp (kW t.gY.length (nt t xs p) m 0)) .none)]⟩
def aiB{n x k:Nat}{F:Nat->Nat->Iv}(h:k<n):jx (kW n F x k) k=x:=by simp only[jx,Dj h];simp
def yp(t:iV)(xs:List Iv)(p m:Nat)(h:wb t)(h0:1<=xs.length)(hx:xs.length=t.iw)(hv:mf xs)(hm:m<=t.iw)(iu:8<=p)(ie:p<=512):gW 158 [jG t,hH xs,iP m,iP p] (.ik [hH (jT t xs p),iW (lu t xs p m)]):=by
 have h8:=h.iw;have qB:=h.gX;have qL:=h.gY;have h1:1<=t.iw:= aA ;have xA:(jl t.gX xs p t.gX.length).length=t.iw+t.gX.length:=by rw[Dt,hx]
 have EO:=Du t.gX hv (aA:1<=p) (aA:p<=4096) t.gX.length;exact aj call158 func158 (aa [.c (RB t xs p h h0 hx hv aA aA),tF 26 ((m:Int)<0) aA,tF 32 ((t.iw:Int)<m) aA,.c (W5 t xs p h h0 hx hv aA aA),.a (aA:0<=((t.gY.length:Int):Int)/\((t.gY.length:Int):Int)<=((t.gY.length:Int):Int)),.a (aA:((24:Nat):Int)*(t.gY.length:Int)<=281474976710656/\((t.gY.length:Int):Int)<=9223372036854775807),.s (Sp.jE (RK t xs p m) 0 m aA (λx hx nF=>by
    exact iF (aa [tT 44 ((x:Int)<m) aA,.c (Zs t (jl t.gX xs p t.gX.length) x p h h1 xA EO iu ie),.s (Sp.jE (RL t xs p m x) 0 t.gY.length aA (λk hk ql=>by
    have SJ:=h.out k aA;have hle:jx (kW t.gY.length (nt t xs p) x k) k=x:=aiB aA ;have rX:=KW t (jl t.gX xs p t.gX.length) x p t.gX.length;have oY:=nS ((jV t (jl t.gX xs p t.gX.length) x p t.gX.length).getD (t.gY.getD k 0) gZ);exact iF (aa [tT 55 ((k:Int)<t.gY.length) aA,iX (k:Int) (t.gY.length) aA,iX (k:Int) (t.gY.length) aA,.a (aA:k<t.gY.length),
     iX (t.gY.getD k 0:Int) ((jV t (jl t.gX xs p t.gX.length) x p t.gX.length).length) aA,.o 69 (.e (kT _):ai (.sl true 1 7 λi_ j_=>(iQ ((jV t (jl t.gX xs p t.gX.length) x p t.gX.length).getD (t.gY.getD k 0) gZ)).getD (i_*7+j_) (.v (.bool false))) (hH [(jV t (jl t.gX xs p t.gX.length) x p t.gX.length).getD (t.gY.getD k 0) gZ])),.a (aA:k<t.gY.length),.a (aA:((jx (kW t.gY.length (nt t xs p) x k)) k+[(jV t (jl t.gX xs p t.gX.length) x p t.gX.length).getD (t.gY.getD k 0) gZ].length)*88<=140737488355328),
     iX (k:Int) (t.gY.length) aA,.a (rfl:k=k),.a (rfl:k=k),.a (aA:k<t.gY.length),iA ((k:Int)+1) aA]<|.e (ae [.b 41 (aiF rfl rfl aA rfl:Bx.le (.il true 23 41 t.gY.length 7 (λq=>if q=k then(jx (kW t.gY.length (nt t xs p) x k)) q+[(jV t (jl t.gX xs p t.gX.length) x p t.gX.length).getD (t.gY.getD k 0) gZ].length else(jx (kW t.gY.length (nt t xs p) x k)) q) (λq i j=>if q=k then(if i<(jx (kW t.gY.length (nt t xs p) x k)) q then(kp (kW t.gY.length (nt t xs p) x k)) q i j else(E.iS (hH [(jV t (jl t.gX xs p t.gX.length) x p t.gX.length).getD (t.gY.getD k 0) gZ])) (i-(jx (kW t.gY.length (nt t xs p) x k)) q) j)else(kp (kW t.gY.length (nt t xs p) x k)) q i j) .none) (.il true 23 41 t.gY.length 7 (jx (kW t.gY.length (nt t xs p) x (k+1))) (kp (kW t.gY.length (nt t xs p) x (k+1))) .none))])) aD)
  (λhk=>by
    exact iF (ae [tF 55 ((t.gY.length:Int)<t.gY.length) aA]) aD) aG:jA 10 f158 (RL t xs p m x 0) (.exit 2) ⟨91,true,[(43,.e (iP x)),(42,.e (iP m)),(11,.own 41),(10,.e (hH (jl t.gX xs p t.gX.length))),(4,.box 4 0),(3,.e (iP p))],[(41,.il true 23 41 t.gY.length 7 (jx (kW t.gY.length (nt t xs p) x t.gY.length)) (kp (kW t.gY.length (nt t xs p) x t.gY.length)) .none),(4,.cells 29 [iP t.iw,kP t.gX,kR t.gY])]⟩) .nil,
     iA ((x:Int)+1) aA]<|.e (ae [.b 41 (aiE rfl:Bx.le (.il true 23 41 t.gY.length 7 (jx (kW t.gY.length (nt t xs p) x t.gY.length)) (kp (kW t.gY.length (nt t xs p) x t.gY.length)) .none) (.il true 23 41 t.gY.length 7 (jx (kW t.gY.length (nt t xs p) (x+1) 0)) (kp (kW t.gY.length (nt t xs p) (x+1) 0)) .none))])) aD)
  (λhx=>by
    exact iF (ae [tF 44 ((m:Int)<m) aA]) aD) aG:jA 6 f158 (RK t xs p m 0) (.exit 0) ⟨91,true,[(11,.own 41),(10,.e (hH (jl t.gX xs p t.gX.length))),(4,.box 4 0)],[(41,.il true 23 41 t.gY.length 7 (jx (kW t.gY.length (nt t xs p) m 0)) (kp (kW t.gY.length (nt t xs p) m 0)) .none),(4,.cells 29 [iP t.iw,kP t.gX,kR t.gY])]⟩) (ae [.b 41 (aiD rfl:Bx.le (.il true 23 41 t.gY.length 7 (λ_=>0) (λ_ _ _=>.any) .none) (.il true 23 41 t.gY.length 7 (jx (kW t.gY.length (nt t xs p) 0 0)) (kp (kW t.gY.length (nt t xs p) 0 0)) .none))]),.y 16 16 true 41 7 (jh ((List.range 0).map (λj_=>(jl t.gX xs p t.gX.length).getD (t.gY.getD j_ 0) gZ))),.s (Sp.jE (RM t xs p m) 0 t.gY.length aA (λx hx nF=>by
    have SJ:=h.out x aA;have zN:=Dt t.gX xs p t.gX.length;have oY:=nS ((jl t.gX xs p t.gX.length).getD (t.gY.getD x 0) gZ);exact iF (aa [tT 78 ((x:Int)<t.gY.length) aA,iX (x:Int) (t.gY.length) aA,iX (t.gY.getD x 0:Int) ((jl t.gX xs p t.gX.length).length) aA,.o 86 (.e (kT _):ai (.sl true 1 7 λi_ j_=>(iQ ((jl t.gX xs p t.gX.length).getD (t.gY.getD x 0) gZ)).getD (i_*7+j_) (.v (.bool false))) (hH [(jl t.gX xs p t.gX.length).getD (t.gY.getD x 0) gZ])),.a (aA:(x+[(jl t.gX xs p t.gX.length).getD (t.gY.getD x 0) gZ].length)*88<=140737488355328),iA ((x:Int)+1) aA]<|.e (ae [.b 16 (uF rfl rfl rfl:Bx.le (.row true 41 (x+[(jl t.gX xs p t.gX.length).getD (t.gY.getD x 0) gZ].length) 7 (λi_ j_=>if i_<x then(jh ((List.range x).map (λj_=>(jl t.gX xs p t.gX.length).getD (t.gY.getD j_ 0) gZ))) i_ j_ else(E.iS (hH [(jl t.gX xs p t.gX.length).getD (t.gY.getD x 0) gZ])) (i_-x) j_)) (.row true 41 (x+1) 7 (jh ((List.range (x+1)).map (λj_=>(jl t.gX xs p t.gX.length).getD (t.gY.getD j_ 0) gZ)))))])) aD)
  (λhx=>by
    exact iF (aa [tF 78 ((t.gY.length:Int)<t.gY.length) aA,.z 16]<|.e (ae [.o 16 (.e (sY aF):ai (.sl true t.gY.length 7 (jh ((List.range t.gY.length).map (λj_=>(jl t.gX xs p t.gX.length).getD (t.gY.getD j_ 0) gZ)))) (hH ((List.range t.gY.length).map (λj_=>(jl t.gX xs p t.gX.length).getD (t.gY.getD j_ 0) gZ))))])) aD) aG:jA 17 f158 (RM t xs p m 0) (.exit 4) ⟨91,true,[(16,.e (hH ((List.range t.gY.length).map (λj_=>(jl t.gX xs p t.gX.length).getD (t.gY.getD j_ 0) gZ)))),(11,.own 41)],[(41,.il true 23 41 t.gY.length 7 (jx (kW t.gY.length (nt t xs p) m 0)) (kp (kW t.gY.length (nt t xs p) m 0)) .none)]⟩) .nil]<|rR (.ik [hH (jT t xs p),iW (lu t xs p m)]) (.ik (.cons (.iD (by rw[Rk])) (.cons (Fk (WN _ _ _ _).symm) .nil)):E.le (.ik [hH ((List.range t.gY.length).map (λj_=>(jl t.gX xs p t.gX.length).getD (t.gY.getD j_ 0) gZ)),(.sl true t.gY.length 1 λk_ _=>.sl true ((jx (kW t.gY.length (nt t xs p) m 0)) k_) 7 ((kp (kW t.gY.length (nt t xs p) m 0)) k_))]) (.ik [hH (jT t xs p),iW (lu t xs p m)]))) 
def uG(t:iV)(xs:List Iv)(p m:Nat):(lu t xs p m).length=t.gY.length:=WN _ _ _ _
def E3{t:iV}{xs:List Iv}{p m q:Nat}(h:q<t.gY.length):(lu t xs p m).getD q []=(List.range m).map (nt t xs p q):=by
 unfold lu;rw[Dj h,bh (bu _)]
def CN{t:iV}{xs:List Iv}{p m:Nat}(hm:m<=1000)(q:Nat):((lu t xs p m).getD q []).length<=1000:=by
 by_cases h:q<t.gY.length
 .rw [E3 h];simpa using hm
 .rw [bk,bR (by rw[uG];omega)];simp
def abH(s:me)(b:List Iv)(p:Nat)(h:oK s)(hb:kG s.jU b)(iu:8<=p)(ie:p<=512)(hn:mh (jT s.tape (b++s.params) p)=true):gW 91 [jK s,hH b,iP s.jU,iP p] (.ik [.v (.slice none 0 0),.v (.slice none 0 0),iP 11]):=by
 have s4:=h.s4;have p4:=h.p4;have SA:=hb.len;have qL:=h.tape.gY;have sn:=NB hb.ok;have yw:=uj s.tape (b++s.params) p;obtain⟨f1,f2,f3,f4⟩:=GB h hb;have sO:=uG s.tape (b++s.params) p s.jU;have pE:=h.gY;have SM:=h.iw;have rh:s.jU<=1000:= aA ;exact aj call91 func91 (ae [.c (J3 s aB),ah 21 ((b.length:Int) != (s.jU:Int)) (r8 hb.len),.c (zB b aA),ah 25 (mh b) sn,.c (xF true _ _ 156 [] (λ_=>false) (λi hi=>LC _ (hb.ok i hi).1) aA (λ_ _=>rfl):gW 39 [hH b,.fn 156 []] _),.c (Hj (p:Int)),ag 32 (kF (p:Int)) (oG.2 ⟨aA,aA⟩),.o 40 (.e (tM _ _):ai (.sl true 2 1 λi_ j_=>[hH b,hH s.params].getD (i_*1+j_) (.v (.bool false))) (iW [b,s.params])),af [iW [b,s.params]] (uc b s.params aA aA),af [jG s.tape,hH (b++s.params),iP s.jU,iP p] (yp _ _ _ _ f1 f2 f3 f4 aA aA aA),.c (zB (jT s.tape (b++s.params) p) aA),ag 48 (mh (jT s.tape (b++s.params) p)) hn]) 
def abI(s:me)(b:List Iv)(p:Nat)(h:oK s)(hb:kG s.jU b)(iu:8<=p)(ie:p<=512)(hn:mh (jT s.tape (b++s.params) p)=false)(lI:rE (lu s.tape (b++s.params) p s.jU)=true):gW 91 [jK s,hH b,iP s.jU,iP p] (.ik [.v (.slice none 0 0),.v (.slice none 0 0),iP 11]):=by
 have s4:=h.s4;have p4:=h.p4;have SA:=hb.len;have qL:=h.tape.gY;have sn:=NB hb.ok;have yw:=uj s.tape (b++s.params) p;obtain⟨f1,f2,f3,f4⟩:=GB h hb;have sO:=uG s.tape (b++s.params) p s.jU;have pE:=h.gY;have SM:=h.iw;have rh:s.jU<=1000:= aA ;exact aj call91 func91 (ae [.c (J3 s aB),ah 21 ((b.length:Int) != (s.jU:Int)) (r8 hb.len),.c (zB b aA),ah 25 (mh b) sn,.c (xF true _ _ 156 [] (λ_=>false) (λi hi=>LC _ (hb.ok i hi).1) aA (λ_ _=>rfl):gW 39 [hH b,.fn 156 []] _),.c (Hj (p:Int)),ag 32 (kF (p:Int)) (oG.2 ⟨aA,aA⟩),.o 40 (.e (tM _ _):ai (.sl true 2 1 λi_ j_=>[hH b,hH s.params].getD (i_*1+j_) (.v (.bool false))) (iW [b,s.params])),af [iW [b,s.params]] (uc b s.params aA aA),af [jG s.tape,hH (b++s.params),iP s.jU,iP p] (yp _ _ _ _ f1 f2 f3 f4 aA aA aA),.c (zB (jT s.tape (b++s.params) p) aA),ah 48 (mh (jT s.tape (b++s.params) p)) hn,.c (BL true _ _ 155 [] (λi=>mh ((lu s.tape (b++s.params) p s.jU).getD i [])) (λi hi=>zB _ (CN rh i)) aA:gW 159 [iW (lu s.tape (b++s.params) p s.jU),.fn 155 []] _),ag 51 (rE (lu s.tape (b++s.params) p s.jU)) lI]) 
def abJ(s:me)(b:List Iv)(p:Nat)(h:oK s)(hb:kG s.jU b)(iu:8<=p)(ie:p<=512)(hn:mh (jT s.tape (b++s.params) p)=false)(lI:rE (lu s.tape (b++s.params) p s.jU)=false):gW 91 [jK s,hH b,iP s.jU,iP p] (.ik [hH (jT s.tape (b++s.params) p),iW (lu s.tape (b++s.params) p s.jU),iP 0]):=by
 have s4:=h.s4;have p4:=h.p4;have SA:=hb.len;have qL:=h.tape.gY;have sn:=NB hb.ok;have yw:=uj s.tape (b++s.params) p;obtain⟨f1,f2,f3,f4⟩:=GB h hb;have sO:=uG s.tape (b++s.params) p s.jU;have pE:=h.gY;have SM:=h.iw;have rh:s.jU<=1000:= aA ;exact aj call91 func91 (ae [.c (J3 s aB),ah 21 ((b.length:Int) != (s.jU:Int)) (r8 hb.len),.c (zB b aA),ah 25 (mh b) sn,.c (xF true _ _ 156 [] (λ_=>false) (λi hi=>LC _ (hb.ok i hi).1) aA (λ_ _=>rfl):gW 39 [hH b,.fn 156 []] _),.c (Hj (p:Int)),ag 32 (kF (p:Int)) (oG.2 ⟨aA,aA⟩),.o 40 (.e (tM _ _):ai (.sl true 2 1 λi_ j_=>[hH b,hH s.params].getD (i_*1+j_) (.v (.bool false))) (iW [b,s.params])),af [iW [b,s.params]] (uc b s.params aA aA),af [jG s.tape,hH (b++s.params),iP s.jU,iP p] (yp _ _ _ _ f1 f2 f3 f4 aA aA aA),.c (zB (jT s.tape (b++s.params) p) aA),ah 48 (mh (jT s.tape (b++s.params) p)) hn,.c (BL true _ _ 155 [] (λi=>mh ((lu s.tape (b++s.params) p s.jU).getD i [])) (λi hi=>zB _ (CN rh i)) aA:gW 159 [iW (lu s.tape (b++s.params) p s.jU),.fn 155 []] _),ah 51 (rE (lu s.tape (b++s.params) p s.jU)) lI]) 
noncomputable def sv(s:me)(b:List Iv)(p:Nat):Bool:=mh (jT s.tape (b++s.params) p)||rE (lu s.tape (b++s.params) p s.jU)
noncomputable def mn(s:me)(b:List Iv)(p:Nat):List (List Iv):=(lu s.tape (b++s.params) p s.jU)
def abL(s:me)(b:List Iv)(p:Nat)(iN:gW 91 [jK s,hH b,iP (s.jU:Int),iP (p:Int)] (.ik [.v (.slice none 0 0),.v (.slice none 0 0),iP 11])):gW 47 [jK s,hH b,iP p] (.ik [.v (.slice none 0 0),iP 11]):=
 aj call47 func47 (ae [af [jK s,hH b,iP s.jU,iP p] iN]) 
def abM(s:me)(b:List Iv)(p:Nat)(h:oK s)(hb:kG s.jU b)(iu:8<=p)(ie:p<=512)(hn:mh (jT s.tape (b++s.params) p)=false)(lI:rE (lu s.tape (b++s.params) p s.jU)=false):gW 47 [jK s,hH b,iP p] (.ik [iW (lu s.tape (b++s.params) p s.jU),iP 0]):=
 aj call47 func47 (ae [af [jK s,hH b,iP s.jU,iP p] (abJ _ _ _ h hb iu ie hn lI)]) 
def RC(s:me)(b:List Iv)(p:Nat)(h:oK s)(hb:kG s.jU b)(iu:8<=p)(ie:p<=512)(hn:sv s b p=true):gW 47 [jK s,hH b,iP (p:Int)] (.ik [.v (.slice none 0 0),iP 11]):=by
 unfold sv at hn;refine abL s b p ?_;cases h1:mh (jT s.tape (b++s.params) p)with
 |true=>exact abH s b p h hb iu ie h1
 |false=>
  rw[h1,eG]at hn;exact abI s b p h hb iu ie h1 hn
def RE(s:me)(b:List Iv)(p:Nat)(h:oK s)(hb:kG s.jU b)(iu:8<=p)(ie:p<=512)(hn:sv s b p=false):gW 47 [jK s,hH b,iP (p:Int)] (.ik [iW (mn s b p),iP 0]):=by
 unfold sv at hn;rw[dQ]at hn;exact abM s b p h hb iu ie hn.1 hn.2
def Q0(m:List (List Iv))(g:FuncId)(cap:List E)(F:Nat->Nat->Iv)(x:Nat):PS:=⟨44,true,[(15,.e (iP x)),(14,.e (iP m.length)),(13,.e (iW m)),(5,.own 12),(1,.e (.fn g cap))],[(12,.il true 23 41 m.length 7 (jx (jc m.length (λq=>(m.getD q []).length) F x 0)) (kp (jc m.length (λq=>(m.getD q []).length) F x 0)) .none)]⟩
def Q1(m:List (List Iv))(g:FuncId)(cap:List E)(F:Nat->Nat->Iv)(x:Nat)(k:Nat):PS:=⟨44,true,[(22,.e (iP k)),(21,.e (iP ((m.getD x []).length:Int))),(20,.e (hH (m.getD x []))),(6,.e (iP x)),(15,.e (iP x)),(14,.e (iP m.length)),(13,.e (iW m)),(5,.own 12),(1,.e (.fn g cap))],[(12,.il true 23 41 m.length 7 (jx (jc m.length (λq=>(m.getD q []).length) F x k)) (kp (jc m.length (λq=>(m.getD q []).length) F x k)) .none)]⟩
def afl(m:List (List Iv))(g:FuncId)(cap:List E)(F:Nat->Nat->Iv)(hl:m.length<=1000)(hr:∀ i,(m.getD i []).length<=1000)(hf:∀ i j,i<m.length->j<(m.getD i []).length->gW g (iP (i:Int)::iP (j:Int)::ix ((m.getD i []).getD j gZ)::cap) (ix (F i j))):gW 167 [iW m,.fn g cap] (iW (qv m.length (λq=>(m.getD q []).length) F)):=
 aj call167 func167 (aa [.a (aA:0<=((m.length:Int):Int)/\((m.length:Int):Int)<=((m.length:Int):Int)),.a (aA:((24:Nat):Int)*(m.length:Int)<=281474976710656/\((m.length:Int):Int)<=9223372036854775807),.s (Sp.jE (Q0 m g cap F) 0 m.length aA (λx hx nF=>by
    have wH:=hr x;exact iF (aa [tT 16 ((x:Int)<m.length) aA,iX (x:Int) (m.length) aA,.s (Sp.jE (Q1 m g cap F x) 0 ((m.getD x []).length) aA (λk hk ql=>by
    have wH:=hr x;have hle:jx (jc m.length (λq=>(m.getD q []).length) F x k) x=k:=IL aA ;have h1:=nS (F x k);exact iF (aa [tT 23 ((k:Int)<((m.getD x []).length:Int)) aA,iX (k:Int) ((m.getD x []).length) aA,iX (x:Int) (m.length) aA,.a (aA:x<m.length),.c (hf x k aA aA:gW g ((iP x)::(iP k)::(ix ((m.getD x []).getD k gZ))::cap) _),.o 38 (.e (kT _):ai (.sl true 1 7 λi_ j_=>(iQ (F x k)).getD (i_*7+j_) (.v (.bool false))) (hH [F x k])),.a (aA:x<m.length),.a (aA:((jx (jc m.length (λq=>(m.getD q []).length) F x k)) x+[F x k].length)*88<=140737488355328),iX (x:Int) (m.length) aA,.a (rfl:x=x),.a (rfl:x=x),.a (aA:x<m.length),
     iA ((k:Int)+1) aA]<|.e (ae [.b 12 (F1 rfl aA aA rfl:Bx.le (.il true 23 41 m.length 7 (λq=>if q=x then(jx (jc m.length (λq=>(m.getD q []).length) F x k)) q+[F x k].length else(jx (jc m.length (λq=>(m.getD q []).length) F x k)) q) (λq i j=>if q=x then(if i<(jx (jc m.length (λq=>(m.getD q []).length) F x k)) q then(kp (jc m.length (λq=>(m.getD q []).length) F x k)) q i j else(E.iS (hH [F x k])) (i-(jx (jc m.length (λq=>(m.getD q []).length) F x k)) q) j)else(kp (jc m.length (λq=>(m.getD q []).length) F x k)) q i j) .none) (.il true 23 41 m.length 7 (jx (jc m.length (λq=>(m.getD q []).length) F x (k+1))) (kp (jc m.length (λq=>(m.getD q []).length) F x (k+1))) .none))])) aD)
  (λhk=>by
    exact iF (ae [tF 23 (((m.getD x []).length:Int)<((m.getD x []).length:Int)) aA]) aD) aG:jA 6 f167 (Q1 m g cap F x 0) (.exit 2) ⟨44,true,[(15,.e (iP x)),(14,.e (iP m.length)),(13,.e (iW m)),(5,.own 12),(1,.e (.fn g cap))],[(12,.il true 23 41 m.length 7 (jx (jc m.length (λq=>(m.getD q []).length) F x ((m.getD x []).length))) (kp (jc m.length (λq=>(m.getD q []).length) F x ((m.getD x []).length))) .none)]⟩) .nil,
     iA ((x:Int)+1) aA]<|.e (ae [.b 12 (JK rfl:Bx.le (.il true 23 41 m.length 7 (jx (jc m.length (λq=>(m.getD q []).length) F x ((m.getD x []).length))) (kp (jc m.length (λq=>(m.getD q []).length) F x ((m.getD x []).length))) .none) (.il true 23 41 m.length 7 (jx (jc m.length (λq=>(m.getD q []).length) F (x+1) 0)) (kp (jc m.length (λq=>(m.getD q []).length) F (x+1) 0)) .none))])) aD)
  (λhx=>by
    exact iF (ae [tF 16 ((m.length:Int)<m.length) aA]) aD) aG:jA 3 f167 (Q0 m g cap F 0) (.exit 0) ⟨44,true,[(5,.own 12)],[(12,.il true 23 41 m.length 7 (jx (jc m.length (λq=>(m.getD q []).length) F m.length 0)) (kp (jc m.length (λq=>(m.getD q []).length) F m.length 0)) .none)]⟩) (ae [.b 12 (JJ rfl:Bx.le (.il true 23 41 m.length 7 (λ_=>0) (λ_ _ _=>.any) .none) (.il true 23 41 m.length 7 (jx (jc m.length (λq=>(m.getD q []).length) F 0 0)) (kp (jc m.length (λq=>(m.getD q []).length) F 0 0)) .none))])]<|rR (iW (qv m.length (λq=>(m.getD q []).length) F)) (by
      rw[<-GD];exact Fk (GF _ _ _ _ _).symm:E.le (.sl true m.length 1 λk_ _=>.sl true ((jx (jc m.length (λq=>(m.getD q []).length) F m.length 0)) k_) 7 ((kp (jc m.length (λq=>(m.getD q []).length) F m.length 0)) k_)) (iW (qv m.length (λq=>(m.getD q []).length) F)))) 
def N7(m:List (List Iv))(i:Nat):(uU m).getD i []=y9 (m.getD i []):=by
 unfold uU;rw[bk,bk,cD];cases m[i]? <;> rfl
def Fp.mQ.Cm{m:List (List Iv)}{n k:Nat}(h:mQ m n k):DC (uU m):=by
 intro r hr x hx;obtain⟨r',h1,rfl⟩:=cI.1 hr;obtain⟨x',h2,rfl⟩:=cI.1 hx;exact(h.ok _ h1 _ h2).Cm
def Fp.mQ.rok{m:List (List Iv)}{n k:Nat}(h:mQ m n k):DF (uU m):=by
 have hl:(uU m).length=n:=by rw[<-h.il];simp[uU]
 have A5:∀ i,i<n->((uU m).getD i []).length=k:=λi hi=>by rw[N7,<-h.pP hi];simp[y9]
 have h1:=h.n1;refine⟨by have:=h.n1;omega,by have:=h.n8;omega,by rw[A5 0 aA];exact h.k1,by rw[A5 0 aA];exact h.k8,λi hi=>by rw[A5 0 aA,A5 i aA],λi hi j hj=>?_⟩;have kI:i<n:= aA ;rw[A5 i kI]at hj;rw[N7,RO];exact(h.xU kI hj).uS
def Bs(m:List (List Iv))(n k:Nat)(h:mQ m n k):gW 122 [iW m] (bP true):=by
 have:=afr (uU m) h.Cm (by have:=h.n8;simp[uU,h.il];omega) (λi=>by rw[N7];have:=h.M7 i;simp only[y9,cU];omega);rwa[Nj.2 h.rok,afm]at this
structure Gn where
 kind:Int
 a:Int
 b:Int
 n:Int
 cn:Int
 cd:Int
structure O3 where
 iw:Int
 gX:List Gn
 gY:List Int
 jU:Int
 params:List RI
def XO{n:Nat}{f:Nat->Bool}(h:¬(List.range n).all f=true):∃ N,N<n/\(!f N)=true/\∀ k,k<N->(!f k)=false:=by
 refine tK ?_;apply ch;intro q;apply h;refine bG.2 λi hi=>?_
 cases hf:f i with
 |true=>rfl
 |false=>exact absurd ⟨i,bJ.1 hi,by rw[hf];rfl⟩ q
def Gn.v(o:Gn):ji:=⟨o.kind.toNat,o.a.toNat,o.b.toNat,o.n.toNat,o.cn,o.cd⟩
def O3.v(s:O3):me:=⟨⟨s.iw.toNat,s.gX.map Gn.v,s.gY.map Int.toNat⟩,s.jU.toNat,s.params.map RI.iv⟩
def QB(r:List Iv)(i p:Nat)(x:Nat):PS:=⟨84,true,[(23,.e (iP x)),(22,.e (iP r.length)),(21,.e (hH r)),(8,.box 8 0),(7,.box 7 0),(6,.box 6 0),(0,.e (hH r)),(1,.e (iP i)),(2,.e (iP p))],[(8,.cells 37 (jt (lV r i p x))),(7,.cells 41 (iQ gZ)),(6,.cells 41 aq)]⟩
def QA(r:List Iv)(i p:Nat)(N:Nat)(x:Nat):PS:=⟨84,true,[(23,.e (iP x)),(22,.e (iP r.length)),(21,.e (hH r)),(8,.box 8 0),(7,.box 7 0),(6,.box 6 0),(0,.e (hH r)),(1,.e (iP i)),(2,.e (iP p))],[(8,.cells 37 (jt (lV r i p x))),(7,.cells 41 (iQ gZ)),(6,.cells 41 aq)]⟩
def QC(m:List (List Iv))(p:Nat)(x:Nat):PS:=⟨33,true,[(6,.own 6),(19,.e (iP x)),(18,.e (iP m.length)),(17,.e (iW m)),(1,.e (iP p))],[(6,.row true 41 x 7 (jh ((List.range x).map (λi_=>oU (m.getD i_ []) i_ p))))]⟩
noncomputable def QE(s:me)(b:List Iv)(p:Nat)(x:Nat):PS:=⟨45,true,[(11,.e (iP ((x+1:Nat):Int))),(10,.box 10 0),(8,.e (iW (mn s b p))),(6,.box 6 0),(2,.e (iP p))],[(10,.cells 41 (iQ (vU (mn s b p) p x))),(6,.cells 41 aq)]⟩
def VA{r:List Iv}{i p k:Nat}(h:uS r i p k=true)(hk:¬k=i):jI (iR (lV r i p k) (o0 (r.getD k gZ))) p true=0:=by
 unfold uS at h;rw[bp hk,eG]at h;exact cK h
def ZV(r:List Iv)(i p:Nat)(hr:mq r)(hi:i<r.length)(hl:r.length<=1000)(iu:8<=p)(ie:p<=512)(hb:N5 r i p=true):gW 92 [hH r,iP i,iP p] (ix (oU r i p)):=by
 have jj:∀ k,k<r.length->uS r i p k=true:=λk hk=>bG.1 hb k (bJ.2 hk)
 obtain⟨v1,v2⟩:=hr i hi;obtain⟨v3,v4⟩:=v1.mM;have v5:=FR r i (aA:1<=p) (aA:p<=4096) r.length;have v6:=xK v5;exact aj call92 func92 (aa [.o 19 (.e xV:ai (.agg [bP false,.v (.slice none 0 0),iP 0,bP false,.v (.slice none 0 0),iP 0,bP true]) (ix gZ)),.o 20 (.e tc:ai (.agg an) (ib iL)),.s (Sp.jE (QB r i p) 0 r.length aA (λx hx nF=>by
    obtain⟨w1,w2⟩:=hr x aA;obtain⟨w5,w6⟩:=w1.mM;have w3:=IX w5 w6;have w4:=FR r i (aA:1<=p) (aA:p<=4096) x;exact iF (aa [tT 24 ((x:Int)<r.length) aA,iX (x:Int) (r.length) aA,.c (Iy (r.getD x gZ) w1 w2)]<|.w (x=i)
     (λuv=>by
      have jO:lV r i p (x+1)=lV r i p x:=by rw[Jr,bj uv]
      exact aa [ag 38 ((x:Int)==i) (aY aA),iA ((x:Int)+1) aA]<|.e (ae [.b 8 (.iD (by rw[jO]):Bx.le (.cells 37 (jt (lV r i p x))) (.cells 37 (jt (lV r i p (x+1)))))]))
     (λuv=>by
      have jO:lV r i p (x+1)=jd (iR (lV r i p x) (o0 (r.getD x gZ))) p true:=by rw[Jr,bh uv]
      exact aa [ah 38 ((x:Int)==i) (aX aA),.c (FT (lV r i p x) (o0 (r.getD x gZ)) p aB aB aA aA),ah 47 ((jI (iR (lV r i p x) (o0 (r.getD x gZ))) p true) != 0) (bc (VA (jj x aA) uv)),iA ((x:Int)+1) aA]<|.e (ae [.b 8 (.iD (by rw[jO]):Bx.le (.cells 37 (jt (jd (iR (lV r i p x) (o0 (r.getD x gZ))) p true))) (.cells 37 (jt (lV r i p (x+1)))))]))) aD)
  (λhx=>by
    exact iF (ae [tF 24 ((r.length:Int)<r.length) aA]) aD) aG:jA 4 Tryz.f92 (QB r i p 0) (.exit 0) ⟨84,true,[(8,.box 8 0),(7,.box 7 0),(6,.box 6 0),(0,.e (hH r)),(1,.e (iP i)),(2,.e (iP p))],[(8,.cells 37 (jt (lV r i p r.length))),(7,.cells 41 (iQ gZ)),(6,.cells 41 aq)]⟩) (ae [.b 8 (.iD rfl:Bx.le (.cells 37 (jt iL)) (.cells 37 (jt (lV r i p 0))))]),
  iX (i:Int) (r.length) aA,af [ib (lV r i p r.length)] (xp _ aB),.c (Jt ((r.getD i gZ).lo) (kB (lV r i p r.length)) p aB aB aA aA),iX (i:Int) (r.length) aA,.c (FT ((r.getD i gZ).hi) (lV r i p r.length) p aB aB aA aA)]<|.w ((jI (iR ((r.getD i gZ).lo) (kB (lV r i p r.length))) p false)=0)
  (λk1=>aa [tB 75 (bc k1)]<|.w ((jI (iR ((r.getD i gZ).hi) (lV r i p r.length)) p true)=0)
   (λk2=>aa [tB 78 (bc k2)]<|rQ (ix (Iv.mk (jd (iR ((r.getD i gZ).lo) (kB (lV r i p r.length))) p false) (jd (iR ((r.getD i gZ).hi) (lV r i p r.length)) p true) false)) (ix (oU r i p)) (by unfold oU;rw[bj hb,bj (by simp_all)]))
   (λk2=>aa [tB 78 (bg k2)]<|rQ (ix gZ) (ix (oU r i p)) (by unfold oU;rw[bj hb,bh (by simp_all)])))
  (λk1=>aa [tB 75 (bg k1)]<|rQ (ix gZ) (ix (oU r i p)) (by unfold oU;rw[bj hb,bh (by simp_all)]))) 
def ZW(r:List Iv)(i p:Nat)(hr:mq r)(hi:i<r.length)(hl:r.length<=1000)(iu:8<=p)(ie:p<=512)(N:Nat)(pV:N<r.length)(jj:∀ k,k<N->uS r i p k=true)(hN:uS r i p N=false):gW 92 [hH r,iP i,iP p] (ix gZ):=by
 have hNi:¬N=i:=λe=>by unfold uS at hN;rw[bn e]at hN;cases hN
 have hNe:jI (iR (lV r i p N) (o0 (r.getD N gZ))) p true≠0:=λe=>by unfold uS at hN;rw[bn e,Bool.or_true]at hN;cases hN
 exact aj call92 func92 (ae [.o 19 (.e xV:ai (.agg [bP false,.v (.slice none 0 0),iP 0,bP false,.v (.slice none 0 0),iP 0,bP true]) (ix gZ)),.o 20 (.e tc:ai (.agg an) (ib iL)),.s (Sp.jE (QA r i p N) 0 N aA (λx hx nF=>by
    obtain⟨w1,w2⟩:=hr x aA;obtain⟨w5,w6⟩:=w1.mM;have w3:=IX w5 w6;have w4:=FR r i (aA:1<=p) (aA:p<=4096) x;exact iF (aa [tT 24 ((x:Int)<r.length) aA,iX (x:Int) (r.length) aA,.c (Iy (r.getD x gZ) w1 w2)]<|.w (x=i)
     (λuv=>by
      have jO:lV r i p (x+1)=lV r i p x:=by rw[Jr,bj uv]
      exact aa [ag 38 ((x:Int)==i) (aY aA),iA ((x:Int)+1) aA]<|.e (ae [.b 8 (.iD (by rw[jO]):Bx.le (.cells 37 (jt (lV r i p x))) (.cells 37 (jt (lV r i p (x+1)))))]))
     (λuv=>by
      have jO:lV r i p (x+1)=jd (iR (lV r i p x) (o0 (r.getD x gZ))) p true:=by rw[Jr,bh uv]
      exact aa [ah 38 ((x:Int)==i) (aX aA),.c (FT (lV r i p x) (o0 (r.getD x gZ)) p aB aB aA aA),ah 47 ((jI (iR (lV r i p x) (o0 (r.getD x gZ))) p true) != 0) (bc (VA (jj x aA) uv)),iA ((x:Int)+1) aA]<|.e (ae [.b 8 (.iD (by rw[jO]):Bx.le (.cells 37 (jt (jd (iR (lV r i p x) (o0 (r.getD x gZ))) p true))) (.cells 37 (jt (lV r i p (x+1)))))]))) aD)
  (λhx=>by
    obtain⟨w1,w2⟩:=hr N aA;obtain⟨w5,w6⟩:=w1.mM;have w3:=IX w5 w6;have w4:=FR r i (aA:1<=p) (aA:p<=4096) N;exact iF (ae [tT 24 ((N:Int)<r.length) aA,iX (N:Int) (r.length) aA,.c (Iy (r.getD N gZ) w1 w2),ah 38 ((N:Int)==i) (aX aA),.c (FT (lV r i p N) (o0 (r.getD N gZ)) p aB aB aA aA),tB 47 (bg hNe)]) aD) aG:jA 4 Tryz.f92 (QA r i p N 0) .ret ⟨84,true,[(6,.box 6 0)],[(6,.cells 41 (iQ gZ))]⟩) (ae [.b 8 (.iD rfl:Bx.le (.cells 37 (jt iL)) (.cells 37 (jt (lV r i p 0))))])]) 
def ZX(r:List Iv)(i p:Nat)(hr:mq r)(hi:i<r.length)(hl:r.length<=1000)(iu:8<=p)(ie:p<=512):gW 92 [hH r,iP i,iP p] (ix (oU r i p)):=by
 by_cases c:N5 r i p=true
 .exact ZV r i p hr hi hl iu ie c
 .obtain ⟨N,n1,n2,n3⟩:=XO c;have:=ZW r i p hr hi hl iu ie N n1 (λk hk=>by simpa using n3 k hk) (by simpa using n2);rwa[show oU r i p=gZ by unfold oU;rw[bh c]]
def Fa(p:Int):gW 69 [iP p] (bP (kF p)):=
 aj call69 func69 (.w (8<=p)
  (λk1=>aa [tB 4 (bn k1)]<|rQ (bP (decide (p<=512))) (bP (kF p)) (by unfold kF;simp[k1]))
  (λk1=>aa [tB 4 (bp k1)]<|rQ (bP false) (bP (kF p)) (by unfold kF;simp[k1]))) 
def aez(m:List (List Iv))(n:Nat)(hm:mQ m n n):gW 70 [iW m] (bP true):=by
 have m1:=hm.il;have m2:=hm.n1;have m3:=hm.pP (aA:0<n);exact aj call70 func70 (ae [af [iW m] (Bs _ _ _ hm),iX 0 (m.length) aA,ag 12 ((m.length:Int)==((m.getD 0 []).length:Int)) (Fv aA)]) 
def Z0(m:List (List Iv))(n p:Nat)(hm:mQ m n n)(sn:∀ i,i<n->mq (m.getD i []))(iu:8<=p)(ie:p<=512):gW 48 [iW m,iP p] (.ik [hH (ue m p),iP 0]):=by
 have m1:=hm.il;have m8:=hm.n8;exact aj call48 func48 (ae [af [iP p] (Fa _),ag 10 (kF (p:Int)) (oG.2 ⟨aA,aA⟩),af [iW m] (aez _ _ hm),.y 6 6 true 41 7 (jh ((List.range 0).map (λi_=>oU (m.getD i_ []) i_ p))),.s (Sp.jE (QC m p) 0 m.length aA (λx hx nF=>by
    have hrl:=hm.pP (aA:x<n);have oY:=nS (oU (m.getD x []) x p);exact iF (aa [tT 20 ((x:Int)<m.length) aA,iX (x:Int) (m.length) aA,af [hH (m.getD x []),iP x,iP p] (ZX _ _ _ (sn x aA) aA aA aA aA),.o 29 (.e (kT _):ai (.sl true 1 7 λi_ j_=>(iQ (oU (m.getD x []) x p)).getD (i_*7+j_) (.v (.bool false))) (hH [oU (m.getD x []) x p])),.a (aA:(x+[oU (m.getD x []) x p].length)*88<=140737488355328),iA ((x:Int)+1) aA]<|.e (ae [.b 6 (uF rfl rfl rfl:Bx.le (.row true 41 (x+[oU (m.getD x []) x p].length) 7 (λi_ j_=>if i_<x then(jh ((List.range x).map (λi_=>oU (m.getD i_ []) i_ p))) i_ j_ else(E.iS (hH [oU (m.getD x []) x p])) (i_-x) j_)) (.row true 41 (x+1) 7 (jh ((List.range (x+1)).map (λi_=>oU (m.getD i_ []) i_ p)))))])) aD)
  (λhx=>by
    exact iF (aa [tF 20 ((m.length:Int)<m.length) aA,.z 6]<|.e (ae [.o 6 (.e (sY aF):ai (.sl true m.length 7 (jh ((List.range m.length).map (λi_=>oU (m.getD i_ []) i_ p)))) (hH ((List.range m.length).map (λi_=>oU (m.getD i_ []) i_ p))))])) aD) aG:jA 5 Tryz.f48 (QC m p 0) (.exit 0) ⟨33,true,[(6,.e (hH ((List.range m.length).map (λi_=>oU (m.getD i_ []) i_ p))))],[]⟩) .nil]) 
def Z3(s:me)(b:List Iv)(p:Nat)(h:oK s)(hb:kG s.jU b)(iu:8<=p)(ie:p<=512)(hn:sv s b p=true):gW 51 [jK s,hH b,iP p] (.ik [.agg aq,iP 11]):=
 aj call51 func51 (ae [af [jK s,hH b,iP p] (RC _ _ _ h hb iu ie hn),ag 20 ((11:Int) != 0) aC]) 
def CM{s:me}(h:oK s)(b:List Iv)(p:Nat):(mn s b p).length=s.jU:=by unfold mn;rw[uG,h.gY]
def MW{s:me}(h:oK s)(b:List Iv)(p:Nat){i:Nat}(hi:i<s.jU):((mn s b p).getD i []).length=s.jU:=by
 unfold mn;rw[E3 (by rw[h.gY];exact hi)];simp
def EZ{s:me}(h:oK s){b:List Iv}(hb:kG s.jU b){p:Nat}(hp:1<=p)(ie:p<=4096)(i j:Nat):(((mn s b p).getD i []).getD j gZ).ic:=by
 obtain⟨f1,f2,f3,f4⟩:=GB h hb;by_cases hi:i<s.tape.gY.length
 .unfold mn;rw[E3 hi];by_cases hj:j<s.jU
  .rw [rN hj];exact MV _ f4 hp ie _ _
  .rw [bk,bR (by simpa using hj)];exact lX
 .rw [bk (l:=mn s b p),bR (by rw[CM h];rw[h.gY]at hi;omega)];exact lX
def OE{s:me}(h:oK s){b:List Iv}(hb:kG s.jU b){p:Nat}(hp:1<=p)(ie:p<=4096):∀ k,(vU (mn s b p) p k).ic
 | 0=>EZ h hb hp ie 0 0
 |k+1=>pT (OE h hb hp ie k) (EZ h hb hp ie _ _) hp ie
def ad1{s:me}(h:oK s){b:List Iv}(hb:kG s.jU b){p:Nat}(hp:1<=p)(ie:p<=4096)(hn:sv s b p=false)(i:Nat)(hi:i<s.jU):mq ((mn s b p).getD i []):=by
 unfold sv at hn;rw[dQ]at hn;have h2:=cw.1 hn.2 i (bJ.2 (by rw[uG,h.gY];exact hi));exact acC (by simpa[mn]using h2) (EZ h hb hp ie i)
def ad0{s:me}(h:oK s){b:List Iv}(hb:kG s.jU b){p:Nat}(hp:1<=p)(ie:p<=4096):mQ (mn s b p) s.jU s.jU:=by
 have s1:=h.s1;have s4:=h.s4;have mr:∀ {α:Type} {l:List α} {x:α} (d:α),x ∈ l->∃ i,i<l.length/\l.getD i d=x:=λd hx=>by
  obtain⟨i,hi,e⟩:=fQ hx;exact⟨i,hi,by rw[bk,bw hi];exact e⟩
 refine⟨CM h b p,λr hr=>?_,λr hr x hx=>?_,aA,aA,aA,aA⟩
 .obtain ⟨i,hi,rfl⟩:=mr [] hr;rw[CM h]at hi;exact MW h b p hi
 .obtain ⟨i,hi,rfl⟩:=mr [] hr;obtain⟨j,hj,rfl⟩:=mr gZ hx;exact EZ h hb hp ie i j
def Z9(s:me)(b:List Iv)(p:Nat)(h:oK s)(hb:kG s.jU b)(iu:8<=p)(ie:p<=512)(hn:sv s b p=false):gW 51 [jK s,hH b,iP p] (.ik [ix (vU (mn s b p) p (s.jU-1)),iP 0]):=by
 have p1:1<=p:= aA ;have p2:p<=4096:= aA ;have s1:=h.s1;have s4:=h.s4;have sO:=CM h b p;have ri:=MW h b p (aA:0<s.jU);exact aj call51 func51 (ae [af [jK s,hH b,iP p] (RE _ _ _ h hb iu ie hn),ah 20 ((0:Int) != 0) aC,iX 0 ((mn s b p).length) aA,iX 0 (((mn s b p).getD 0 []).length) aA,.s (Sp.jE (QE s b p) 0 (s.jU-1) aA (λx hx nF=>by
    have hr:=MW h b p (aA:x+1<s.jU);have ME:=EZ h hb p1 p2 (x+1) (x+1);have rZ:=OE h hb p1 p2 x;exact iF (aa [tT 31 (((x+1:Nat):Int)<((mn s b p).length:Int)) aA,iX ((x+1:Nat):Int) ((mn s b p).length) aA,iX ((x+1:Nat):Int) (((mn s b p).getD (x+1) []).length) aA,.c (yN (vU (mn s b p) p x) (((mn s b p).getD (x+1) []).getD (x+1) gZ) p aB aB aA aA),iA (((x+1:Nat):Int)+1) aA]<|.e (ae [.b 10 (.iD rfl:Bx.le (.cells 41 (iQ (kU (vU (mn s b p) p x) (((mn s b p).getD (x+1) []).getD (x+1) gZ) p))) (.cells 41 (iQ (vU (mn s b p) p (x+1)))))])) aD)
  (λhx=>by
    exact iF (ae [tF 31 ((((s.jU-1)+1:Nat):Int)<((mn s b p).length:Int)) aA]) aD) aG:jA 6 Tryz.f51 (QE s b p 0) (.exit 0) ⟨45,true,[(10,.box 10 0),(6,.box 6 0)],[(10,.cells 41 (iQ (vU (mn s b p) p (s.jU-1)))),(6,.cells 41 aq)]⟩) (ae [.o 11 (al 1 ((0+1:Nat):Int) aM),.b 10 (.iD rfl:Bx.le (.cells 41 (iQ (((mn s b p).getD 0 []).getD 0 gZ))) (.cells 41 (iQ (vU (mn s b p) p 0))))])]) 
def Am(d:Iv):Bool:=d.all||decide (0<=d.hi.kf)
noncomputable def Di(s:me)(b:List Iv)(p:Nat):Bool:=!sv s b p && !((List.range (ue (mn s b p) p).length).any λi=>Am ((ue (mn s b p) p).getD i gZ))
noncomputable def Gf(s:me)(b:List Iv)(p:Nat):Bool:=!sv s b p&&decide (0<oH (vU (mn s b p) p (s.jU-1)))
def QD(m:List (List Iv))(p:Nat):(ue m p).length=m.length:=by simp[ue]
def ZZ{m:List (List Iv)}{p i:Nat}(h:i<m.length):(ue m p).getD i gZ=oU (m.getD i []) i p:=by
 unfold ue;rw[rN h]
def aiy(d:Iv)(hh:d.hi.ic):gW 49 [ix d] (bP (Am d)):=
 aj call49 func49 (.w (d.all=true)
  (λk1=>aa [tB 4 k1]<|rQ (bP true) (bP (Am d)) (by unfold Am;simp_all))
  (λk1=>aa [tB 4 (aZ k1),af [ib d.hi] (uf _ aB)]<|rQ (bP (decide (0<=(Dy.kf d.hi)))) (bP (Am d)) (by unfold Am;simp_all))) 
def aiz(s:me)(b:List Iv)(p:Nat)(h:oK s)(hb:kG s.jU b)(iu:8<=p)(ie:p<=512)(hn:sv s b p=true):gW 11 [jK s,hH b,iP p] (bP false):=
 aj call11 func11 (ae [af [jK s,hH b,iP p] (RC _ _ _ h hb iu ie hn),ag 18 ((11:Int) != 0) aC]) 
def aiA(s:me)(b:List Iv)(p:Nat)(h:oK s)(hb:kG s.jU b)(iu:8<=p)(ie:p<=512)(hn:sv s b p=false):gW 11 [jK s,hH b,iP p] (bP (!((List.range (ue (mn s b p) p).length).any λi=>Am ((ue (mn s b p) p).getD i gZ)))):=by
 have p1:1<=p:= aA ;have p2:p<=4096:= aA ;have s1:=h.s1;have s4:=h.s4;have sO:=CM h b p;have xv:=QD (mn s b p) p;have hdh:∀ i,i<(ue (mn s b p) p).length->((ue (mn s b p) p).getD i gZ).hi.ic:=λi hi=>by rw[ZZ (by rw[QD]at hi;exact hi)];exact(ZY _ _ p1 p2).2
 exact aj call11 func11 (ae [af [jK s,hH b,iP p] (RE _ _ _ h hb iu ie hn),ah 18 ((0:Int) != 0) aC,af [iW (mn s b p),iP p] (Z0 _ _ _ (ad0 h hb p1 p2) (ad1 h hb p1 p2 hn) iu ie),ag 26 ((0:Int)==0) aC,.c (EX true _ _ 49 [] (λi=>Am ((ue (mn s b p) p).getD i gZ)) (λi hi=>aiy _ (hdh i hi)) aA:gW 39 [hH (ue (mn s b p) p),.fn 49 []] _)]) 
def ajB(s:me)(b:List Iv)(p:Nat)(h:oK s)(hb:kG s.jU b)(iu:8<=p)(ie:p<=512)(hn:sv s b p=true):gW 12 [jK s,hH b,iP p] (bP false):=
 aj call12 func12 (ae [af [jK s,hH b,iP p] (Z3 _ _ _ h hb iu ie hn),ah 17 ((11:Int)==0) aC]) 
def ajC(s:me)(b:List Iv)(p:Nat)(h:oK s)(hb:kG s.jU b)(iu:8<=p)(ie:p<=512)(hn:sv s b p=false):gW 12 [jK s,hH b,iP p] (bP (decide (0<oH (vU (mn s b p) p (s.jU-1))))):=by
 have p1:1<=p:= aA ;have p2:p<=4096:= aA ;have s1:=h.s1;have s4:=h.s4;have sO:=CM h b p;have SR:=OE h hb p1 p2 (s.jU-1);exact aj call12 func12 (ae [af [jK s,hH b,iP p] (Z9 _ _ _ h hb iu ie hn),ag 17 ((0:Int)==0) aC,.c (EW (vU (mn s b p) p (s.jU-1)) SR)]) 
def JY(s:me)(b:List Iv)(p:Nat)(h:oK s)(hb:kG s.jU b)(iu:8<=p)(ie:p<=512):gW 11 [jK s,hH b,iP (p:Int)] (bP (Di s b p)):=by
 unfold Di;cases hn:sv s b p with
 |true=>exact aiz s b p h hb iu ie hn
 |false=>exact aiA s b p h hb iu ie hn
def OI(s:me)(b:List Iv)(p:Nat)(h:oK s)(hb:kG s.jU b)(iu:8<=p)(ie:p<=512):gW 12 [jK s,hH b,iP (p:Int)] (bP (Gf s b p)):=by
 unfold Gf;cases hn:sv s b p with
 |true=>exact ajB s b p h hb iu ie hn
 |false=>exact ajC s b p h hb iu ie hn
def vC{a b:Bool}(h:a=b):bP a=bP b:=h▸rfl
def yr(x:Iv)(d:Dy):Bool:=decide (ke x.lo d<=0)&&decide (ke d x.hi<=0)
def pv(x:Iv)(d:Dy):Bool:=x.all||yr x d
def j9(x : Iv)(p : Nat) : Dy:=
  if jI (iR x.lo x.hi) p false=0 then
    (if qg (canon (jd (iR x.lo x.hi) p false).neg (jd (iR x.lo x.hi) p false).m ((jd (iR x.lo x.hi) p false).e + -1))=0/\yr x (nf (canon (jd (iR x.lo x.hi) p false).neg (jd (iR x.lo x.hi) p false).m ((jd (iR x.lo x.hi) p false).e + -1)))=true
     then nf (canon (jd (iR x.lo x.hi) p false).neg (jd (iR x.lo x.hi) p false).m ((jd (iR x.lo x.hi) p false).e + -1))else x.lo)
  else x.lo
def uD(x y:Iv):Bool:=y.all||(!x.all&&(decide (ke y.lo x.lo<0)&&decide (ke x.hi y.hi<0)))
def AI(x y:Iv):Bool:=xD x y&&xD y x
def uN(x y:Iv):Bool:=decide (ke (jv x.lo y.lo) (jy x.hi y.hi)<=0)
def oo(x y:Iv):Iv:=⟨jv x.lo y.lo,jy x.hi y.hi,false⟩
def Iu:Iv:=⟨iL,iL,false⟩
def pH(x y:Iv):Iv:=if x.all then y else if y.all then x else if uN x y then oo x y else Iu
def uO(x y:Iv):Bool:=x.all||(y.all||uN x y)
def CL(x:Iv)(d:Dy)(hx:x.ic)(hd:d.ic):gW 37 [ix x,ib d] (bP (pv x d)):=by
 obtain⟨w1,w2⟩:=hx.mM;exact aj call37 func37 (aa [.c (sX x aB),af [ib d] (rT _ aB)]<|.w (x.all=true)
  (λk1=>aa [tB 14 k1]<|rQ (bP true) (bP (pv x d)) (vC (by unfold pv yr;simp_all<;>omega)))
  (λk1=>aa [tB 14 (aZ k1),af [ib x.lo,ib d] (pK _ _ aB aB)]<|.w ((ke x.lo d)<=0)
   (λk2=>aa [tB 20 (bn k2),af [ib d,ib x.hi] (pK _ _ aB aB)]<|rQ (bP (decide ((ke d x.hi)<=0))) (bP (pv x d)) (vC (by unfold pv yr;simp_all<;>omega)))
   (λk2=>aa [tB 20 (bp k2)]<|rQ (bP false) (bP (pv x d)) (vC (by unfold pv yr;simp_all<;>omega))))) 
def adK(x:Iv)(d:Dy)(hx:x.ic)(xa:x.all=false)(hd:d.ic):gW 37 [ix x,ib d] (bP (yr x d)):=by
 have:=CL x d hx hd;unfold pv at this;rwa[xa,eG]at this
def Iz(x:Iv)(p:Nat)(hx:x.ic)(xa:x.all=false)(iu:8<=p)(ie:p<=512):gW 214 [ix x,iP p] (ib (j9 x p)):=by
 obtain⟨w1,w2⟩:=hx.mM;have w3:=tQ (iR x.lo x.hi) (aA:1<=p) (aA:p<=4096) false;have w4:=GL (vm (jd (iR x.lo x.hi) p false).neg (jd (iR x.lo x.hi) p false).m ((jd (iR x.lo x.hi) p false).e + -1));exact aj call214 func214 (aa [.o 9 (.e (kT _):ai (.sl true 1 7 λi_ j_=>(iQ x).getD (i_*7+j_) (.v (.bool false))) (hH [x])),af [hH [x]] (rK _ aB),ag 10 (!x.all) (by rw[xa];rfl),af [iP p] (zX _),ag 14 (kF (p:Int)) (oG.2 ⟨aA,aA⟩),.c (Jt x.lo x.hi p aB aB aA aA)]<|.w ((jI (iR x.lo x.hi) p false)=0)
  (λk1=>aa [tB 28 (bc k1),.c (KF (jd (iR x.lo x.hi) p false) (-1) aB aA aA)]<|.w ((qg (canon (jd (iR x.lo x.hi) p false).neg (jd (iR x.lo x.hi) p false).m ((jd (iR x.lo x.hi) p false).e+(-1))))=0)
   (λk2=>aa [tB 37 (bc k2),.c (adK x (nf (canon (jd (iR x.lo x.hi) p false).neg (jd (iR x.lo x.hi) p false).m ((jd (iR x.lo x.hi) p false).e+(-1)))) hx xa aB)]<|.w (yr x (nf (canon (jd (iR x.lo x.hi) p false).neg (jd (iR x.lo x.hi) p false).m ((jd (iR x.lo x.hi) p false).e+(-1))))=true)
    (λk3=>aa [tB 41 k3]<|rQ (ib (nf (canon (jd (iR x.lo x.hi) p false).neg (jd (iR x.lo x.hi) p false).m ((jd (iR x.lo x.hi) p false).e+(-1))))) (ib (j9 x p)) aW)
    (λk3=>aa [tB 41 (aZ k3)]<|rQ (ib x.lo) (ib (j9 x p)) aW))
   (λk2=>aa [tB 37 (bg k2)]<|rQ (ib x.lo) (ib (j9 x p)) aW))
  (λk1=>aa [tB 28 (bg k1)]<|rQ (ib x.lo) (ib (j9 x p)) aW)) 
def Bt{x:Iv}(hx:x.ic)(p:Nat):(j9 x p).ic:=by
 unfold j9;split
 .split
  .exact GL (vm _ _ _)
  .exact hx.mM.1
 .exact hx.mM.1
def adC:tX aq (iQ Iu):=by
 have e1:E.le (.v (.slice none 0 0)) (iz (ia 0)):=by rw[oD];exact .nil _ _ _
 exact .cons (.refl _) (.cons e1 (.cons (.refl _) (.cons (.refl _) (.cons e1 (.cons (.refl _) (.cons (.refl _) .nil))))))
def adD:Iu.ic:=.inr ⟨rfl,oI,oI,aC⟩
def UY{x y:Iv}(hx:x.ic)(hy:y.ic)(h:uN x y=true):(oo x y).ic:=by
 obtain⟨w1,w2⟩:=hx.mM;obtain⟨w3,w4⟩:=hy.mM;exact .inr ⟨rfl,vH w1 w3,yU w2 w4,cK h⟩
def afH{x y:Iv}(hx:x.ic)(hy:y.ic):(pH x y).ic:=by
 unfold pH;split
 .exact hy
 .split
  .exact hx
  .split
   .exact UY hx hy aB 
   .exact adD
def adL(x y:Iv)(hx:x.ic)(hy:y.ic):gW 267 [ix x,ix y] (bP (uD x y)):=by
 obtain⟨w1,w2⟩:=hx.mM;obtain⟨w3,w4⟩:=hy.mM;exact aj call267 func267 (aa [.c (sX x aB),.c (sX y aB)]<|.w (y.all=true)
  (λk1=>aa [tB 14 k1]<|rQ (bP true) (bP (uD x y)) (vC aR))
  (λk1=>aa [tB 14 (aZ k1)]<|.w (x.all=true)
   (λk2=>aa [tB 17 k2]<|rQ (bP false) (bP (uD x y)) (vC aR))
   (λk2=>aa [tB 17 (aZ k2),af [ib y.lo,ib x.lo] (pK _ _ aB aB)]<|.w ((ke y.lo x.lo)<0)
    (λk3=>aa [tB 25 (bn k3),af [ib x.hi,ib y.hi] (pK _ _ aB aB)]<|rQ (bP (decide ((ke x.hi y.hi)<0))) (bP (uD x y)) (vC aR))
    (λk3=>aa [tB 25 (bp k3)]<|rQ (bP false) (bP (uD x y)) (vC aR))))) 
def adF(x y:Iv)(hx:x.ic)(hy:y.ic):gW 217 [ix x,ix y] (bP (AI x y)):=
 aj call217 func217 (aa [.c (Pq x y aB aB)]<|.w (xD x y=true)
  (λk1=>aa [tB 7 k1,.c (Pq y x aB aB)]<|rQ (bP (xD y x)) (bP (AI x y)) (vC (by unfold AI;simp_all)))
  (λk1=>aa [tB 7 (aZ k1)]<|rQ (bP false) (bP (AI x y)) (vC (by unfold AI;simp_all)))) 
def MT(x y:Iv)(hx:x.ic)(hy:y.ic):gW 24 [ix x,ix y] (.ik [ix (pH x y),bP (uO x y)]):=by
 obtain⟨w1,w2⟩:=hx.mM;obtain⟨w3,w4⟩:=hy.mM;have w5:=vH w1 w3;have w6:=yU w2 w4;exact aj call24 func24 (aa [.c (sX x aB),.c (sX y aB)]<|.w (x.all=true)
  (λk1=>aa [tB 19 k1]<|rQ (.ik [ix y,bP true]) (.ik [ix (pH x y),bP (uO x y)]) (by unfold pH uO;simp_all))
  (λk1=>aa [tB 19 (aZ k1)]<|.w (y.all=true)
   (λk2=>aa [tB 23 k2]<|rQ (.ik [ix x,bP true]) (.ik [ix (pH x y),bP (uO x y)]) (by unfold pH uO;simp_all))
   (λk2=>aa [tB 23 (aZ k2),.c (TB x.lo y.lo aB aB),.c (TA x.hi y.hi aB aB),af [ib (jv x.lo y.lo),ib (jy x.hi y.hi)] (pK _ _ aB aB)]<|.w (0<(ke (jv x.lo y.lo) (jy x.hi y.hi)))
    (λk3=>aa [tB 41 (bn k3)]<|rR (.ik [ix (pH x y),bP (uO x y)]) (by
      have hm:uN x y=false:=bp aA;exact .ik (.cons (.trans (.agg adC) (.iD (by unfold pH;simp_all[ix]))) (.cons (.iD (vC (by unfold uO;simp_all))) .nil)):E.le (.ik [.agg aq,bP false]) (.ik [ix (pH x y),bP (uO x y)])))
    (λk3=>aa [tB 41 (bp k3)]<|rR (.ik [ix (pH x y),bP (uO x y)]) (by
      have hm:uN x y=true:=bn aA;exact .iD (by unfold pH uO oo;simp_all):E.le (.ik [ix (Iv.mk (jv x.lo y.lo) (jy x.hi y.hi) false),bP true]) (.ik [ix (pH x y),bP (uO x y)])))))) 
def Gj(l:List Dy):Prop:=∀ i,(l.getD i iL).ic
def FO(l:List Dy):List Iv:=(List.range l.length).map λj_=>iY (l.getD j_ iL)
def sx(b:List Iv)(p:Nat):List Dy:=(List.range b.length).map λj_=>j9 (b.getD j_ gZ) p
def sW(a b:List Iv):Bool:=(List.range a.length).all λi=>uD (a.getD i gZ) (b.getD i gZ)
def rU(a b:List Iv):Bool:=(List.range a.length).all λi=>AI (a.getD i gZ) (b.getD i gZ)
def ki(a b:List Iv):List Iv:=(List.range a.length).map λj_=>oo (a.getD j_ gZ) (b.getD j_ gZ)
def yX(a b:List Iv):Bool:=(List.range a.length).all λj_=>uN (a.getD j_ gZ) (b.getD j_ gZ)
def Pv(l:List Dy)(i:Nat):PS:=⟨22,true,[(3,.own 3),(11,.e (iP i)),(10,.e (iP l.length)),(9,.e (kC l))],[(3,.row true 41 i 7 (jh ((List.range i).map (λj_=>iY (l.getD j_ iL)))))]⟩
def Ps(b:List Iv)(p:Nat)(i:Nat):PS:=⟨30,true,[(5,.own 5),(18,.e (iP i)),(17,.e (iP b.length)),(16,.e (hH b)),(1,.e (iP p))],[(5,.row true 37 i 3 (nZ ((List.range i).map (λj_=>j9 (b.getD j_ gZ) p))))]⟩
def PJ(a b:List Iv)(i:Nat):PS:=⟨39,true,[(6,.own 6),(16,.e (iP i)),(15,.e (iP a.length)),(0,.e (hH a)),(1,.e (hH b))],[(6,.row true 41 i 7 (jh ((List.range i).map (λj_=>oo (a.getD j_ gZ) (b.getD j_ gZ)))))]⟩
def PI(a b:List Iv)(N:Nat)(i:Nat):PS:=⟨39,true,[(6,.own 6),(16,.e (iP i)),(15,.e (iP a.length)),(0,.e (hH a)),(1,.e (hH b))],[(6,.row true 41 i 7 (jh ((List.range i).map (λj_=>oo (a.getD j_ gZ) (b.getD j_ gZ)))))]⟩
def Bo(b:List Iv)(k p:Nat):List Iv:=b.set k ⟨(b.getD k gZ).lo,j9 (b.getD k gZ) p,(b.getD k gZ).all⟩
def AU(b:List Iv)(k p:Nat):List Iv:=b.set k ⟨j9 (b.getD k gZ) p,(b.getD k gZ).hi,(b.getD k gZ).all⟩
def IB{k i:Nat}{xs:List Iv}{v:Iv}(hi:i<xs.length):(xs.set k v).getD i gZ=if k=i then v else xs.getD i gZ:=by
 simp only[bk,List.getElem?_set,hi];by_cases h:k=i
 .subst h;simp[hi]
 .simp [h]
def adX{n k:Nat}{xs:List Iv}{m:Dy}(hn:n=xs.length):
 E.le (.sl true n 7 λi' j'=>if i'=k/\3<=j'/\j'<3+3 then(jt m).getD (j'-3) .any else jh xs i' j') (hH (xs.set k ⟨(xs.getD k gZ).lo,m,(xs.getD k gZ).all⟩)):=by
 subst hn;have e:hH (xs.set k ⟨(xs.getD k gZ).lo,m,(xs.getD k gZ).all⟩) = .sl true xs.length 7 (jh (xs.set k ⟨(xs.getD k gZ).lo,m,(xs.getD k gZ).all⟩)):=by unfold hH;rw[cL]
 rw[e];refine .sl λi j hi hj=>⟨.iD ?_,xE _ _ hj⟩
 show _=(iQ ((xs.set k _).getD i gZ)).getD j .any;rw[IB hi];by_cases h:k=i
 .subst h;rw[bj rfl];simp only[eR];rcases j with _|_|_|_|_|_|_|j
  all_goals first|rfl|omega
 .rw [bh h,bh λq=>h q.1.symm]
def adY{n k:Nat}{xs:List Iv}{m:Dy}(hn:n=xs.length):
 E.le (.sl true n 7 λi' j'=>if i'=k/\0<=j'/\j'<0+3 then(jt m).getD (j'-0) .any else jh xs i' j') (hH (xs.set k ⟨m,(xs.getD k gZ).hi,(xs.getD k gZ).all⟩)):=by
 subst hn;have e:hH (xs.set k ⟨m,(xs.getD k gZ).hi,(xs.getD k gZ).all⟩) = .sl true xs.length 7 (jh (xs.set k ⟨m,(xs.getD k gZ).hi,(xs.getD k gZ).all⟩)):=by unfold hH;rw[cL]
 rw[e];refine .sl λi j hi hj=>⟨.iD ?_,xE _ _ hj⟩
 show _=(iQ ((xs.set k _).getD i gZ)).getD j .any;rw[IB hi];by_cases h:k=i
 .subst h;rw[bj rfl];simp only[eR];rcases j with _|_|_|_|_|_|_|j
  all_goals first|rfl|omega
 .rw [bh h,bh λq=>h q.1.symm]
def Yh(d:Dy)(hd:d.ic):gW 340 [ib d] (bP false):=
 aj call340 func340 (ae [af [ib d] (rT _ aB)]) 
def Yi(l:List Dy)(l1:1<=l.length)(l8:l.length<=8)(hv:Gj l):gW 297 [kC l] (bP true):=
 aj call297 func297 (ae [tT 5 (1<=(l.length:Int)) aA,tT 9 ((l.length:Int)<=8) aA,.c (Lg true _ _ 340 [] (λ_=>false) (λi hi=>Yh _ (hv i)) aA (λ_ _=>rfl):gW 339 [kC l,.fn 340 []] _)]) 
def YT(l:List Dy)(l1:1<=l.length)(l8:l.length<=8)(hv:Gj l):gW 260 [kC l] (hH (FO l)):=
 aj call260 func260 (aa [.c (Yi l l1 l8 hv),.y 3 3 true 41 7 (jh ((List.range 0).map (λj_=>iY (l.getD j_ iL)))),.s (Sp.jE (Pv l) 0 l.length aA (λi hi mw=>by
    have Io:=hv i;have oY:=nS (iY (l.getD i iL));exact iF (aa [tT 12 ((i:Int)<l.length) aA,iX (i:Int) (l.length) aA,.c (Bi (l.getD i iL) Io),.o 18 (.e (kT _):ai (.sl true 1 7 λi_ j_=>(iQ (iY (l.getD i iL))).getD (i_*7+j_) (.v (.bool false))) (hH [iY (l.getD i iL)])),.a (aA:(i+[iY (l.getD i iL)].length)*88<=140737488355328),iA ((i:Int)+1) aA]<|.e (ae [.b 3 (uF rfl rfl rfl:Bx.le (.row true 41 (i+[iY (l.getD i iL)].length) 7 (λi_ j_=>if i_<i then(jh ((List.range i).map (λj_=>iY (l.getD j_ iL)))) i_ j_ else(E.iS (hH [iY (l.getD i iL)])) (i_-i) j_)) (.row true 41 (i+1) 7 (jh ((List.range (i+1)).map (λj_=>iY (l.getD j_ iL))))))])) aD)
  (λhi=>by
    exact iF (aa [tF 12 ((l.length:Int)<l.length) aA,.z 3]<|.e (ae [.o 3 (.e (sY aF):ai (.sl true l.length 7 (jh ((List.range l.length).map (λj_=>iY (l.getD j_ iL))))) (hH ((List.range l.length).map (λj_=>iY (l.getD j_ iL)))))])) aD) aG:jA 5 f260 (Pv l 0) (.exit 0) ⟨22,true,[(3,.e (hH ((List.range l.length).map (λj_=>iY (l.getD j_ iL)))))],[]⟩) .nil]<|rR (hH (FO l)) (.refl _:E.le (hH ((List.range l.length).map (λj_=>iY (l.getD j_ iL)))) (hH (FO l)))) 
def KJ(b:List Iv)(b1:1<=b.length)(b8:b.length<=8)(hb:mq b)(p:Nat)(iu:8<=p)(ie:p<=512):gW 261 [hH b,iP p] (kC (sx b p)):=
 aj call261 func261 (aa [.c (DM b aA aA hb),.c (PK (p:Int)),ag 13 (kF (p:Int)) (oG.2 ⟨aA,aA⟩),.y 5 5 true 37 3 (nZ ((List.range 0).map (λj_=>j9 (b.getD j_ gZ) p))),.s (Sp.jE (Ps b p) 0 b.length aA (λi hi mw=>by
    obtain⟨w1,w2⟩:=hb i aA;have oY:=nS (j9 (b.getD i gZ) p);exact iF (aa [tT 19 ((i:Int)<b.length) aA,iX (i:Int) (b.length) aA,.c (Iz (b.getD i gZ) p w1 w2 iu ie),.o 26 (.e (Cf _):ai (.sl true 1 3 λi_ j_=>(jt (j9 (b.getD i gZ) p)).getD (i_*3+j_) (.v (.bool false))) (kC [j9 (b.getD i gZ) p])),.a (aA:(i+[j9 (b.getD i gZ) p].length)*40<=140737488355328),iA ((i:Int)+1) aA]<|.e (ae [.b 5 (G4 rfl rfl rfl:Bx.le (.row true 37 (i+[j9 (b.getD i gZ) p].length) 3 (λi_ j_=>if i_<i then(nZ ((List.range i).map (λj_=>j9 (b.getD j_ gZ) p))) i_ j_ else(E.iS (kC [j9 (b.getD i gZ) p])) (i_-i) j_)) (.row true 37 (i+1) 3 (nZ ((List.range (i+1)).map (λj_=>j9 (b.getD j_ gZ) p)))))])) aD)
  (λhi=>by
    exact iF (aa [tF 19 ((b.length:Int)<b.length) aA,.z 5]<|.e (ae [.o 5 (.e (aaG aF):ai (.sl true b.length 3 (nZ ((List.range b.length).map (λj_=>j9 (b.getD j_ gZ) p)))) (kC ((List.range b.length).map (λj_=>j9 (b.getD j_ gZ) p))))])) aD) aG:jA 5 f261 (Ps b p 0) (.exit 0) ⟨30,true,[(5,.e (kC ((List.range b.length).map (λj_=>j9 (b.getD j_ gZ) p))))],[]⟩) .nil]<|rR (kC (sx b p)) (.refl _:E.le (kC ((List.range b.length).map (λj_=>j9 (b.getD j_ gZ) p))) (kC (sx b p)))) 
def yh(a b:List Iv)(a1:1<=a.length)(a8:a.length<=8)(hl:b.length=a.length)(ha:mq a)(hb:mq b):gW 212 [hH a,hH b] (bP (sW a b)):=
 aj call212 func212 (ae [.c (GC a b a1 a8 hl ha hb),.c (Pp a b 267 [] (λi=>uD (a.getD i gZ) (b.getD i gZ)) hl aA (λi hi=>adL _ _ (ha i hi).1 (hb i aA).1))]) 
def vk(a b:List Iv)(a1:1<=a.length)(a8:a.length<=8)(hl:b.length=a.length)(ha:mq a)(hb:mq b):gW 139 [hH a,hH b] (bP (rU a b)):=
 aj call139 func139 (ae [.c (GC a b a1 a8 hl ha hb),.c (Pp a b 217 [] (λi=>AI (a.getD i gZ) (b.getD i gZ)) hl aA (λi hi=>adF _ _ (ha i hi).1 (hb i aA).1))]) 
def UZ(x y:Iv)(hx:x.ic)(hy:y.ic)(xa:x.all=false)(ya:y.all=false)(hm:uN x y=true):gW 24 [ix x,ix y] (.ik [ix (oo x y),bP true]):=by
 have:=MT x y hx hy;unfold pH uO at this;rwa[xa,ya,hm]at this
def afI(x y:Iv)(hx:x.ic)(hy:y.ic)(xa:x.all=false)(ya:y.all=false)(hm:uN x y=false):gW 24 [ix x,ix y] (.ik [ix Iu,bP false]):=by
 have:=MT x y hx hy;unfold pH uO at this;rwa[xa,ya,hm]at this
def YS(a b:List Iv)(a1:1<=a.length)(a8:a.length<=8)(hl:b.length=a.length)(ha:mq a)(hb:mq b)(jj:∀ i,i<a.length->uN (a.getD i gZ) (b.getD i gZ)=true):gW 213 [hH a,hH b] (.ik [hH (ki a b),bP true]):=
 aj call213 func213 (aa [.c (GC a b a1 a8 hl ha hb),.y 6 6 true 41 7 (jh ((List.range 0).map (λj_=>oo (a.getD j_ gZ) (b.getD j_ gZ)))),.s (Sp.jE (PJ a b) 0 a.length aA (λi hi mw=>by
    obtain⟨v1,v2⟩:=ha i aA;obtain⟨v3,v4⟩:=hb i aA;have v5:=jj i aA;have oY:=nS (oo (a.getD i gZ) (b.getD i gZ));exact iF (aa [tT 17 ((i:Int)<a.length) aA,iX (i:Int) (a.length) aA,iX (i:Int) (b.length) aA,af [ix (a.getD i gZ),ix (b.getD i gZ)] (UZ _ _ v1 v3 v2 v4 v5),.o 35 (.e (kT _):ai (.sl true 1 7 λi_ j_=>(iQ (oo (a.getD i gZ) (b.getD i gZ))).getD (i_*7+j_) (.v (.bool false))) (hH [oo (a.getD i gZ) (b.getD i gZ)])),.a (aA:(i+[oo (a.getD i gZ) (b.getD i gZ)].length)*88<=140737488355328),iA ((i:Int)+1) aA]<|.e (ae [.b 6 (uF rfl rfl rfl:Bx.le (.row true 41 (i+[oo (a.getD i gZ) (b.getD i gZ)].length) 7 (λi_ j_=>if i_<i then(jh ((List.range i).map (λj_=>oo (a.getD j_ gZ) (b.getD j_ gZ)))) i_ j_ else(E.iS (hH [oo (a.getD i gZ) (b.getD i gZ)])) (i_-i) j_)) (.row true 41 (i+1) 7 (jh ((List.range (i+1)).map (λj_=>oo (a.getD j_ gZ) (b.getD j_ gZ))))))])) aD)
  (λhi=>by
    exact iF (aa [tF 17 ((a.length:Int)<a.length) aA,.z 6]<|.e (ae [.o 6 (.e (sY aF):ai (.sl true a.length 7 (jh ((List.range a.length).map (λj_=>oo (a.getD j_ gZ) (b.getD j_ gZ))))) (hH ((List.range a.length).map (λj_=>oo (a.getD j_ gZ) (b.getD j_ gZ)))))])) aD) aG:jA 5 f213 (PJ a b 0) (.exit 0) ⟨39,true,[(6,.e (hH ((List.range a.length).map (λj_=>oo (a.getD j_ gZ) (b.getD j_ gZ)))))],[]⟩) .nil]<|rR (.ik [hH (ki a b),bP true]) (.iD rfl:E.le (.ik [hH ((List.range a.length).map (λj_=>oo (a.getD j_ gZ) (b.getD j_ gZ))),bP true]) (.ik [hH (ki a b),bP true]))) 
def YR(a b:List Iv)(a1:1<=a.length)(a8:a.length<=8)(hl:b.length=a.length)(ha:mq a)(hb:mq b)(N:Nat)(pV:N<a.length)(jj:∀ i,i<N->uN (a.getD i gZ) (b.getD i gZ)=true)(hN:uN (a.getD N gZ) (b.getD N gZ)=false):gW 213 [hH a,hH b] (.ik [.v (.slice none 0 0),bP false]):=
 aj call213 func213 (ae [.c (GC a b a1 a8 hl ha hb),.y 6 6 true 41 7 (jh ((List.range 0).map (λj_=>oo (a.getD j_ gZ) (b.getD j_ gZ)))),.s (Sp.jE (PI a b N) 0 N aA (λi hi mw=>by
    obtain⟨v1,v2⟩:=ha i aA;obtain⟨v3,v4⟩:=hb i aA;have v5:=jj i aA;have oY:=nS (oo (a.getD i gZ) (b.getD i gZ));exact iF (aa [tT 17 ((i:Int)<a.length) aA,iX (i:Int) (a.length) aA,iX (i:Int) (b.length) aA,af [ix (a.getD i gZ),ix (b.getD i gZ)] (UZ _ _ v1 v3 v2 v4 v5),.o 35 (.e (kT _):ai (.sl true 1 7 λi_ j_=>(iQ (oo (a.getD i gZ) (b.getD i gZ))).getD (i_*7+j_) (.v (.bool false))) (hH [oo (a.getD i gZ) (b.getD i gZ)])),.a (aA:(i+[oo (a.getD i gZ) (b.getD i gZ)].length)*88<=140737488355328),iA ((i:Int)+1) aA]<|.e (ae [.b 6 (uF rfl rfl rfl:Bx.le (.row true 41 (i+[oo (a.getD i gZ) (b.getD i gZ)].length) 7 (λi_ j_=>if i_<i then(jh ((List.range i).map (λj_=>oo (a.getD j_ gZ) (b.getD j_ gZ)))) i_ j_ else(E.iS (hH [oo (a.getD i gZ) (b.getD i gZ)])) (i_-i) j_)) (.row true 41 (i+1) 7 (jh ((List.range (i+1)).map (λj_=>oo (a.getD j_ gZ) (b.getD j_ gZ))))))])) aD)
  (λhi=>by
    obtain⟨v1,v2⟩:=ha N aA;obtain⟨v3,v4⟩:=hb N aA;exact iF (ae [tT 17 ((N:Int)<a.length) aA,iX (N:Int) (a.length) aA,iX (N:Int) (b.length) aA,af [ix (a.getD N gZ),ix (b.getD N gZ)] (afI _ _ v1 v3 v2 v4 hN)]) aD) aG:jA 5 f213 (PI a b N 0) .ret ⟨39,true,[(5,.e (bP false)),(4,.e (.v (.slice none 0 0)))],[]⟩) .nil]) 
def YQ(a b:List Iv)(a1:1<=a.length)(a8:a.length<=8)(hl:b.length=a.length)(ha:mq a)(hb:mq b)(hm:yX a b=false):gW 213 [hH a,hH b] (.ik [.v (.slice none 0 0),bP false]):=by
 obtain⟨i,hi,hn⟩:=aku.1 hm;obtain⟨N,h1,h2,h3⟩:=tK (p:=λi=>!(uN (a.getD i gZ) (b.getD i gZ))) ⟨i,bJ.1 hi,by simpa using hn⟩;exact YR a b a1 a8 hl ha hb N h1 (λi hi=>by simpa using h3 i hi) (by simpa using h2)
def Az(a b:List Iv)(a1:1<=a.length)(a8:a.length<=8)(hl:b.length=a.length)(ha:mq a)(hb:mq b)(hm:yX a b=true):gW 213 [hH a,hH b] (.ik [hH (ki a b),bP true]):=YS a b a1 a8 hl ha hb λi hi=>bG.1 hm i (bJ.2 hi)
def Ae{n:Nat}{a b:List Iv}(ha:kG n a)(hb:kG n b)(h:yX a b=true):kG n (ki a b):=by
 refine⟨by simp[ki,ha.len],λi hi=>?_⟩;have kI:i<a.length:=by simpa[ki]using hi
 have e:(ki a b).getD i gZ=oo (a.getD i gZ) (b.getD i gZ):=rN kI;rw[e];obtain⟨x1,x2⟩:=ha.ok i kI;obtain⟨y1,y2⟩:=hb.ok i (by rw[hb.len,<-ha.len];exact kI);exact⟨UY x1 y1 (bG.1 h i (bJ.2 kI)),rfl⟩
def KK(b:List Iv)(b1:1<=b.length)(b8:b.length<=8)(hb:mq b)(k p:Nat)(iu:8<=p)(ie:p<=512)(hk:k<b.length):gW 137 [hH b,iP k,iP p] (.ik [hH (Bo b k p),hH (AU b k p),iP 0]):=by
 obtain⟨w1,w2⟩:=hb k hk;exact aj call137 func137 (aa [.c (DM b aA aA hb),.c (PK (p:Int)),ag 17 (kF (p:Int)) (oG.2 ⟨aA,aA⟩),tF 21 ((k:Int)<0) aA,tF 26 ((b.length:Int)<=k) aA,iX (k:Int) (b.length) aA,.c (Iz (b.getD k gZ) p w1 w2 iu ie),.cn (xk _ aA aA:xZ 135 [hH b] true 41 b.length 7 (jh b)),.cn (xk _ aA aA:xZ 135 [hH b] true 41 b.length 7 (jh b)),iX (k:Int) (b.length) aA,.a (aA:k<b.length),iX (k:Int) (b.length) aA,.a (aA:k<b.length)]<|rR (.ik [hH (Bo b k p),hH (AU b k p),iP 0]) (.ik (.cons (adX (m:=j9 (b.getD k gZ) p) rfl) (.cons (adY (m:=j9 (b.getD k gZ) p) rfl) (.cons (.refl _) .nil))):E.le (.ik [.sl true b.length 7 (λi' j'=>if i'=k/\3<=j'/\j'<3+3 then[bP ((j9 (b.getD k gZ) p).neg),iz (ia ((j9 (b.getD k gZ) p).m)),iP ((j9 (b.getD k gZ) p).e)].getD (j'-3) .any else(jh b) i' j'),.sl true b.length 7 (λi' j'=>if i'=k/\0<=j'/\j'<0+3 then[bP ((j9 (b.getD k gZ) p).neg),iz (ia ((j9 (b.getD k gZ) p).m)),iP ((j9 (b.getD k gZ) p).e)].getD (j'-0) .any else(jh b) i' j'),iP 0]) (.ik [hH (Bo b k p),hH (AU b k p),iP 0]))) 
def JM(a b:Dy)(w:Nat):Dy:=jd (iR a b) w false
def JN(a b:Dy)(w:Nat):Bool:=jI (iR a b) w false != 0
def LI(w:Nat)(bad:Bool)(d:Dy)(e:Int):qx 345 252 [iP w,bP bad] [iP w,bP (bad||(e != 0))] [ib d,iP e] (ib d):=
 Ge call345 func345 aD (λbL=>.w (bad=true)
  (λk1=>aa [tB 11 k1]<|.rm (Bx.le.iD (by simp_all):Bx.le (.mS 252 bL [iP w,bP true]) (.mS 252 bL [iP w,bP (bad||(e != 0))])) (.refl _:E.le (ib d) (ib d)))
  (λk1=>aa [tB 11 (aZ k1)]<|.rm (Bx.le.iD (by simp_all):Bx.le (.mS 252 bL [iP w,bP (e != 0)]) (.mS 252 bL [iP w,bP (bad||(e != 0))])) (.refl _:E.le (ib d) (ib d)))) (λbL=> aD)
def JC(w:Nat)(bad:Bool)(a b:Dy)(ha:a.ic)(hb:b.ic)(b0:b.m≠0)(wG:8<=w)(Ba:w<=512):qx 303 252 [iP w,bP bad] [iP w,bP (bad||(mD a b w false != 0))] [ib a,ib b] (ib (mi a b w false)):=
 Ge call303 func303 aD (λbL=>aa [.c (N8 a b w aB aB aB aA aA),.cm (LI _ _ _ _:qx 345 252 [iP w,bP bad] [iP w,bP (bad||((mD a b w false) != 0))] [ib (mi a b w false),iP (mD a b w false)] (ib (mi a b w false)))]<|.rm (.iD rfl:Bx.le (.mS 252 bL [iP w,bP (bad||((mD a b w false) != 0))]) (.mS 252 bL [iP w,bP (bad||(mD a b w false != 0))])) (.refl _:E.le (ib (mi a b w false)) (ib (mi a b w false)))) (λbL=> aD)
def JD(w:Nat)(bad:Bool)(a b:Dy)(ha:a.ic)(hb:b.ic)(wG:8<=w)(Ba:w<=512):qx 305 252 [iP w,bP bad] [iP w,bP (bad||(pf a b w))] [ib a,ib b] (ib (mO a b w)):=
 Ge call305 func305 aD (λbL=>aa [.c (Jv a b w aB aB aA aA),.cm (LI _ _ _ _:qx 345 252 [iP w,bP bad] [iP w,bP (bad||((jI (mI a b) w false) != 0))] [ib (jd (mI a b) w false),iP (jI (mI a b) w false)] (ib (jd (mI a b) w false)))]<|.rm (.iD rfl:Bx.le (.mS 252 bL [iP w,bP (bad||((jI (mI a b) w false) != 0))]) (.mS 252 bL [iP w,bP (bad||(pf a b w))])) (.iD rfl:E.le (ib (jd (mI a b) w false)) (ib (mO a b w)))) (λbL=> aD)
def ahJ(w:Nat)(bad:Bool)(a b:Dy)(ha:a.ic)(hb:b.ic)(wG:8<=w)(Ba:w<=512):qx 346 252 [iP w,bP bad] [iP w,bP (bad||(JN a b w))] [ib a,ib b] (ib (JM a b w)):=
 Ge call346 func346 aD (λbL=>aa [.c (Jt a b w aB aB aA aA),.cm (LI _ _ _ _:qx 345 252 [iP w,bP bad] [iP w,bP (bad||((jI (iR a b) w false) != 0))] [ib (jd (iR a b) w false),iP (jI (iR a b) w false)] (ib (jd (iR a b) w false)))]<|.rm (.iD rfl:Bx.le (.mS 252 bL [iP w,bP (bad||((jI (iR a b) w false) != 0))]) (.mS 252 bL [iP w,bP (bad||(JN a b w))])) (.iD rfl:E.le (ib (jd (iR a b) w false)) (ib (JM a b w)))) (λbL=> aD)
def JE(w:Nat)(bad:Bool)(a b:Dy)(ha:a.ic)(hb:b.ic)(wG:8<=w)(Ba:w<=512):qx 304 252 [iP w,bP bad] [iP w,bP (bad||(q8 a b w))] [ib a,ib b] (ib (uW a b w)):=by
 have hnb:=xK hb;exact Ge call304 func304 aD (λbL=>aa [af [ib b] (xp _ aB),.cm (ahJ _ _ _ _ aB aB aA aA:qx 346 252 [iP w,bP bad] [iP w,bP (bad||(JN a (kB b) w))] [ib a,ib (kB b)] (ib (JM a (kB b) w)))]<|.rm (.iD rfl:Bx.le (.mS 252 bL [iP w,bP (bad||(JN a (kB b) w))]) (.mS 252 bL [iP w,bP (bad||(q8 a b w))])) (.iD rfl:E.le (ib (JM a (kB b) w)) (ib (uW a b w)))) (λbL=> aD)
def IQ(p:Nat)(hp:p<=512):gW 299 [iP p] (iP (qN p:Int)):=
 aj call299 func299 (aa [iA ((p:Int)+48) aA]<|rQ (iP (if 512<((p+48:Nat):Int)then 512 else((p+48:Nat):Int))) (iP (qN p:Int)) (congrArg iP (by unfold qN;split<;>split<;>omega))) 
def Uk(m:List (List Dy))(k:Nat):PS:=⟨19,true,[(8,.e (iP k)),(3,.own 16),(7,.e (iP m.length)),(6,.e (lO m))],[(16,.il true 219 37 k 3 (λ_=>m.length) (iO (q9 m)) .none)]⟩
def Xl{x i j:Nat}:E.le (if i=x/\0<=j/\j<0+3 then(jt (kO 1)).getD (j-0) .any else([.v (.bool false),.v (.slice none 0 0),.v (.int .i64 0)]:List E).getD j .any) ((jt (qP x i)).getD j .any):=by
 unfold qP;by_cases h:i=x
 .rw [bj h];by_cases h3:j<3
  .rw [bj ⟨h,cg _,aA⟩];exact .refl _
  .rw [bh aA];rcases j with _|_|_|j
   .omega
   .omega
   .omega
   .exact .refl _
 .rw [bh h,bh λq=>h q.1];exact aar
def Uu(n:Nat)(k:Nat):PS:=⟨22,true,[(7,.e (iP k)),(3,.own 19),(6,.e (iP n)),(0,.e (iP n))],[(19,.il true 219 37 k 3 (λ_=>n) (iO qP) .none)]⟩
def Ut(A:Nat->Nat->Dy)(n c:Nat)(k:Nat):PS:=⟨47,true,[(9,.e (iP ((c+k:Nat):Int))),(8,.e (iP (nT A c c k:Int))),(0,.e (.kY false true n 1 λk_ _=>.kY true true ((λ_=>n) k_) 3 ((iO A) k_))),(2,.e (iP c))],[]⟩
def aeT(d:Dy)(hd:d.ic):gW 343 [ib d] (bP false):=
 aj call343 func343 (ae [af [ib d] (rT _ aB)]) 
def aeU(l:List Dy)(n:Nat)(hl:l.length=n)(h8:n<=8)(hv:Gj l):gW 342 [kC l,(.jD 1 λj_=>[iP n].getD j_ .any)] (bP false):=
 aj call342 func342 (ae [ah 7 ((l.length:Int) != (n:Int)) (bc (by rw[hl])),.c (Lg true _ _ 343 [] (λ_=>false) (λi hi=>aeT _ (hv i)) aA (λ_ _=>rfl):gW 339 [kC l,.fn 343 []] _)]) 
def IS(m:List (List Dy))(hm:rA m):gW 298 [lO m] (bP true):=by
 have n1:=hm.n1;have n8:=hm.n8;exact aj call298 func298 (ae [tF 7 ((m.length:Int)<1) aA,tF 10 (8<(m.length:Int)) aA,.c (QZ true _ _ 342 _ (λ_=>false) (λi hi=>aeU _ _ (hm.row i hi) hm.n8 (λq=>hm.ok i q)) (by have:=hm.n8;omega) (λ_ _=>rfl):gW 341 [lO m,.fn 342 [(.jD 1 λj_=>[iP m.length].getD j_ .any)]] _)]) 
def P8(r:List Dy)(h0:0<r.length)(hl:r.length<=1000):xZ 344 [kC r] true 37 r.length 3 (nZ r):=
 Xc call344 func344 (aa [.a (aA:0<r.length),.bo,.a (aA:(0+r.length)*40<=140737488355328)]<|.rb (PL rfl λi j hi hj=>⟨rfl,yk _ _ hj⟩:Bx.le (.row true 37 (0+r.length) 3 (λi_ j_=>if i_<0 then(λi_ j_=>([]:List E).getD (i_*3+j_) (.v (.bool false))) i_ j_ else(E.iS (kC r)) (i_-0) j_)) (.row true 37 r.length 3 (nZ r)))) aD 
def IK(m:List (List Dy))(hm:rA m):vY 300 [lO m] true 219 37 m.length 3 (λ_=>m.length) (iO (q9 m)):=by
 have n1:=hm.n1;have n8:=hm.n8;have ri:=hm.row 0 aA;have hr3:(m.getD 0 []).length<=1000:= aA ;have hr4:0<(m.getD 0 []).length:= aA ;exact Xd call300 func300 (aa [.u 70,tT 9 (0<(m.length:Int)) aA,iX 0 (m.length) aA,.cn (P8 _ aU aU:xZ 344 [kC (m.getD 0 [])] true 37 ((m.getD 0 []).length) 3 (nZ (m.getD 0 []))),.a (aA:0<1),.a (aA:1*24<=140737488355328),
  iA (0+1) aA,.s (Sp.jE (Uk m) 1 m.length aA (λk hk ql=>by
    have hrk:=hm.row k aA;have My:(m.getD k []).length<=1000:= aA ;have pD:0<(m.getD k []).length:= aA ;exact iF (aa [tT 9 ((k:Int)<m.length) aA,iX (k:Int) (m.length) aA,.cn (P8 _ aU aU:xZ 344 [kC (m.getD k [])] true 37 ((m.getD k []).length) 3 (nZ (m.getD k []))),.a (aA:0<1),.a (aA:(k+1)*24<=140737488355328),iA ((k:Int)+1) aA]<|.e (ae [.b 16 (GY rfl rfl hrk (λ_ _ _ _=>.refl _):Bx.le (.il true 219 37 (k+1) 3 (λk_=>if k_<k then(λ_=>m.length) k_ else(λ_=>(m.getD k []).length) (k_-k)) (λk_=>if k_<k then(iO (q9 m)) k_ else(λ_=>nZ (m.getD k [])) (k_-k)) .none) (.il true 219 37 (k+1) 3 (λ_=>m.length) (iO (q9 m)) .none))])) aD)
  (λhk=>by
    exact iF (ae [tF 9 ((m.length:Int)<m.length) aA]) aD) aG:jA 3 f300 (Uk m 1) (.exit 0) ⟨19,true,[(3,.own 16)],[(16,.il true 219 37 m.length 3 (λ_=>m.length) (iO (q9 m)) .none)]⟩) (ae [.o 8 (al (0+1) 1 aM),.b 16 (QJ rfl ri (λ_ _ _ _=>.refl _):Bx.le (.il true 219 37 1 3 (λ_=>(m.getD 0 []).length) (λ_=>nZ (m.getD 0 [])) .none) (.il true 219 37 1 3 (λ_=>m.length) (iO (q9 m)) .none))])]<|.rb (.refl _:Bx.le (.il true 219 37 m.length 3 (λ_=>m.length) (iO (q9 m)) .none) (.il true 219 37 m.length 3 (λ_=>m.length) (iO (q9 m)) .none))) aD 
def IT(n:Nat)(n1:1<=n)(n8:n<=8):vY 301 [iP (n:Int)] true 219 37 n 3 (λ_=>n) (iO qP):=
 Xd call301 func301 (aa [.u 70,tT 8 (0<(n:Int)) aA,.a (aA:0<=((n:Int):Int)/\((n:Int):Int)<=((n:Int):Int)),.a (aA:((40:Nat):Int)*(n:Int)<=281474976710656/\((n:Int):Int)<=9223372036854775807),af [iP 1] (Av _ aA),iX 0 n aA,.a (aA:0<n),.a (aA:0<1),.a (aA:1*24<=140737488355328),iA (0+1) aA,.s (Sp.jE (Uu n) 1 n aA (λk hk ql=>by
    exact iF (aa [tT 8 ((k:Int)<n) aA,.a (aA:0<=((n:Int):Int)/\((n:Int):Int)<=((n:Int):Int)),.a (aA:((40:Nat):Int)*(n:Int)<=281474976710656/\((n:Int):Int)<=9223372036854775807),af [iP 1] (Av _ aA),iX (k:Int) n aA,.a (aA:k<n),.a (aA:0<1),.a (aA:(k+1)*24<=140737488355328),iA ((k:Int)+1) aA]<|.e (ae [.b 19 (GY rfl rfl rfl (λ_ _ _ _=>Xl):Bx.le (.il true 219 37 (k+1) 3 (λk_=>if k_<k then(λ_=>n) k_ else(λ_=>n) (k_-k)) (λk_=>if k_<k then(iO qP) k_ else(λ_=>λi' j'=>if i'=k/\0<=j'/\j'<0+3 then[bP ((kO 1).neg),iz (ia ((kO 1).m)),iP ((kO 1).e)].getD (j'-0) .any else(λ_ j_=>an.getD j_ .any) i' j') (k_-k)) .none) (.il true 219 37 (k+1) 3 (λ_=>n) (iO qP) .none))])) aD)
  (λhk=>by
    exact iF (ae [tF 8 ((n:Int)<n) aA]) aD) aG:jA 3 f301 (Uu n 1) (.exit 0) ⟨22,true,[(3,.own 19)],[(19,.il true 219 37 n 3 (λ_=>n) (iO qP) .none)]⟩) (ae [.o 7 (al (0+1) 1 aM),.b 19 (QJ rfl rfl (λ_ _ _ _=>Xl):Bx.le (.il true 219 37 1 3 (λ_=>n) (λ_=>λi' j'=>if i'=0/\0<=j'/\j'<0+3 then[bP ((kO 1).neg),iz (ia ((kO 1).m)),iP ((kO 1).e)].getD (j'-0) .any else(λ_ j_=>an.getD j_ .any) i' j') .none) (.il true 219 37 1 3 (λ_=>n) (iO qP) .none))])]<|.rb (.refl _:Bx.le (.il true 219 37 n 3 (λ_=>n) (iO qP) .none) (.il true 219 37 n 3 (λ_=>n) (iO qP) .none))) aD 
def Nd(A:Nat->Nat->Dy)(n c:Nat)(Sj:c<n)(n8:n<=8)(hv:∀ k i,(A k i).ic):gW 302 [(.kY false true n 1 λk_ _=>.kY true true ((λ_=>n) k_) 3 ((iO A) k_)),iP c,iP c] (.ik [iP (nT A c c (n-c):Int),bP ((A (nT A c c (n-c)) c).kf != 0)]):=by
 obtain⟨q3,q4⟩:=FP (A:=A) (col:=c) Sj (n-c) aA;have v5:=hv (nT A c c (n-c)) c;exact aj call302 func302 (aa [.s (Sp.jE (Ut A n c) 0 (n-c) aA (λk hk ql=>by
    obtain⟨q1,q2⟩:=FP (A:=A) (col:=c) Sj k aA;have v1:=hv (c+k) c;have v2:=hv (nT A c c k) c;have v3:=xi v1;have v4:=xi v2;exact iF (aa [tT 15 (((c+k:Nat):Int)<n) aA,iX ((c+k:Nat):Int) n aA,iX (c:Int) n aA,.c (Cd (A (c+k) c) aB),
     iX (nT A c c k:Int) n aA,iX (c:Int) n aA,.c (Cd (A (nT A c c k) c) aB),af [ib (lS (A (c+k) c)),ib (lS (A (nT A c c k) c))] (pK _ _ aB aB)]<|.w (0<ke (lS (A (c+k) c)) (lS (A (nT A c c k) c)))
     (λEk=>by
      have jO:nT A c c (k+1)=c+k:=by show(if _ then _ else _)=_;rw[bj Ek]
      exact aa [tB 35 (bn Ek),iA (((c+k:Nat):Int)+1) aA]<|.e (ae [.o 9 (al (((c+k)+1:Nat):Int) ((c+(k+1):Nat):Int) aA),.o 8 (al ((c+k:Nat):Int) (nT A c c (k+1):Int) (by rw[jO]))]))
     (λEk=>by
      have jO:nT A c c (k+1)=nT A c c k:=by show(if _ then _ else _)=_;rw[bh Ek]
      exact aa [tB 35 (bp Ek),iA (((c+k:Nat):Int)+1) aA]<|.e (ae [.o 9 (al (((c+k)+1:Nat):Int) ((c+(k+1):Nat):Int) aA),.o 8 (al (nT A c c k:Int) (nT A c c (k+1):Int) (by rw[jO]))]))) aD)
  (λhk=>by
    exact iF (ae [tF 15 (((c+(n-c):Nat):Int)<n) aA]) aD) aG:jA 3 f302 (Ut A n c 0) (.exit 0) ⟨47,true,[(8,.e (iP (nT A c c (n-c):Int))),(0,.e (.kY false true n 1 λk_ _=>.kY true true ((λ_=>n) k_) 3 ((iO A) k_))),(2,.e (iP c))],[]⟩) (ae [.o 9 (al c ((c+0:Nat):Int) rfl),.o 8 (al c (nT A c c 0:Int) rfl)]),
  iX (nT A c c (n-c):Int) n aA,iX (c:Int) n aA,af [ib (A (nT A c c (n-c)) c)] (uf _ aB)]<|rR (.ik [iP (nT A c c (n-c):Int),bP ((A (nT A c c (n-c)) c).kf != 0)]) (.refl _:E.le (.ik [iP (nT A c c (n-c):Int),bP ((Dy.kf (A (nT A c c (n-c)) c)) != 0)]) (.ik [iP (nT A c c (n-c):Int),bP ((A (nT A c c (n-c)) c).kf != 0)]))) 
def FA{d:Dy}{p:Nat}(h0:jI d p false=0)(h1:jI d p true=0):nH d p=0:=by
 unfold nH;rw[h0,h1];rfl
def I8{d:Dy}{p:Nat}(h0:jI d p false=0)(h1:jI d p true=0)(h2:¬Af d p = -1)(h3:¬Af d p=1):
 mV d p=if(jd d p true).m=0\/((jd d p false).m≠0/\(jd d p false).e<(jd d p true).e)then jd d p true else jd d p false:=by
 unfold mV;rw[FA h0 h1,bh aC,bh h2,bh h3]
def nx(B:Nat->Nat->Dy)(p:Nat):Nat->Nat->Dy:=λk i=>mV (B k i) p
def Vr{B:Nat->Nat->Dy}{n p k i j:Nat}(hi:i<n):E.le (nZ ((List.range n).map (nx B p k)) i j) ((jt (nx B p k i)).getD j .any):=.iD (by
 show(jt (((List.range n).map (nx B p k)).getD i iL)).getD j .any=_;rw[AG hi])
def Un(B:Nat->Nat->Dy)(n p:Nat)(k:Nat):PS:=⟨45,true,[(6,.own 6),(16,.e (iP k)),(15,.e (iP n)),(14,.e (.kY false true n 1 λk_ _=>.kY true true ((λ_=>n) k_) 3 ((iO B) k_))),(1,.e (iP p))],[(6,.il true 219 37 k 3 (λ_=>n) (iO (nx B p)) .none)]⟩
def Uo(B:Nat->Nat->Dy)(n p k:Nat)(i:Nat):PS:=⟨45,true,[(9,.own 9),(22,.e (iP i)),(21,.e (iP n)),(20,.e (.kY true true ((λ_=>n) k) 3 ((iO B) k))),(6,.own 6),(16,.e (iP k)),(15,.e (iP n)),(14,.e (.kY false true n 1 λk_ _=>.kY true true ((λ_=>n) k_) 3 ((iO B) k_))),(1,.e (iP p))],[(9,.row true 37 i 3 (nZ ((List.range i).map (nx B p k)))),(6,.il true 219 37 k 3 (λ_=>n) (iO (nx B p)) .none)]⟩
def Uq(B:Nat->Nat->Dy)(n p K I:Nat)(k:Nat):PS:=⟨45,true,[(6,.own 6),(16,.e (iP k)),(15,.e (iP n)),(14,.e (.kY false true n 1 λk_ _=>.kY true true ((λ_=>n) k_) 3 ((iO B) k_))),(1,.e (iP p))],[(6,.il true 219 37 k 3 (λ_=>n) (iO (nx B p)) .none)]⟩
def Ur(B:Nat->Nat->Dy)(n p k:Nat)(i:Nat):PS:=⟨45,true,[(9,.own 9),(22,.e (iP i)),(21,.e (iP n)),(20,.e (.kY true true ((λ_=>n) k) 3 ((iO B) k))),(6,.own 6),(16,.e (iP k)),(15,.e (iP n)),(14,.e (.kY false true n 1 λk_ _=>.kY true true ((λ_=>n) k_) 3 ((iO B) k_))),(1,.e (iP p))],[(9,.row true 37 i 3 (nZ ((List.range i).map (nx B p k)))),(6,.il true 219 37 k 3 (λ_=>n) (iO (nx B p)) .none)]⟩
def Us(B:Nat->Nat->Dy)(n p K:Nat)(i:Nat):PS:=⟨45,true,[(9,.own 9),(22,.e (iP i)),(21,.e (iP n)),(20,.e (.kY true true ((λ_=>n) K) 3 ((iO B) K))),(6,.own 6),(16,.e (iP K)),(15,.e (iP n)),(14,.e (.kY false true n 1 λk_ _=>.kY true true ((λ_=>n) k_) 3 ((iO B) k_))),(1,.e (iP p))],[(9,.row true 37 i 3 (nZ ((List.range i).map (nx B p K)))),(6,.il true 219 37 K 3 (λ_=>n) (iO (nx B p)) .none)]⟩
def Jw(d:Dy)(p:Nat)(hd:d.ic)(iu:8<=p)(ie:p<=512):gW 347 [ib d,iP p] (.ik [ib (mV d p),iP (nH d p)]):=by
 have w1:=tQ d (aA:1<=p) (aA:p<=4096) false;have w2:=tQ d (aA:1<=p) (aA:p<=4096) true;have w3:=GL (AD hd.canon (xK w1).canon);have w4:=GL (AD w2.canon (xK hd).canon);have w5:((ia (jd d p true).m).length:Int)=0↔(jd d p true).m=0:=by
  rw[<-IG,<-gq];omega
 have w6:(0:Int)<((ia (jd d p false).m).length:Int)↔(jd d p false).m≠0:=by
  rw[cO,<-IG,<-gq];omega
 exact aj call347 func347 (aa [.c (KD d p aB aA aA)]<|.w ((jI d p false)=0)
  (λk1=>aa [tB 20 (bc k1),.c (KE d p aB aA aA)]<|.w ((jI d p true)=0)
   (λk2=>aa [tB 30 (bc k2),.c (PB d (jd d p false) aB aB),.c (PB (jd d p true) d aB aB),af [ib (nf (iR d (kB (jd d p false)))),ib (nf (iR (jd d p true) (kB d)))] (pK _ _ aB aB)]<|.w ((ke (nf (iR d (kB (jd d p false)))) (nf (iR (jd d p true) (kB d))))=(-1))
    (λk3=>aa [tB 49 (aY k3)]<|rQ (.ik [ib (jd d p false),iP 0]) (.ik [ib (mV d p),iP (nH d p)]) aT)
    (λk3=>aa [tB 49 (aX k3)]<|.w ((ke (nf (iR d (kB (jd d p false)))) (nf (iR (jd d p true) (kB d))))=1)
     (λk4=>aa [tB 52 (aY k4)]<|rQ (.ik [ib (jd d p true),iP 0]) (.ik [ib (mV d p),iP (nH d p)]) aT)
     (λk4=>aa [tB 52 (aX k4)]<|.w (((ia ((jd d p true).m)).length:Int)=0)
      (λk5=>aa [tB 57 (aY k5)]<|rQ (.ik [ib (jd d p true),iP 0]) (.ik [ib (mV d p),iP (nH d p)]) (by rw[I8 k1 k2 k3 k4,FA k1 k2,bj (.inl (w5.1 k5))]))
      (λk5=>aa [tB 57 (aX k5)]<|.w (0<((ia ((jd d p false).m)).length:Int))
       (λk6=>aa [tB 62 (bn k6)]<|.w (((jd d p false).e)<((jd d p true).e))
        (λk7=>aa [tB 68 (bn k7)]<|rQ (.ik [ib (jd d p true),iP 0]) (.ik [ib (mV d p),iP (nH d p)]) (by rw[I8 k1 k2 k3 k4,FA k1 k2,bj (.inr ⟨w6.1 k6,k7⟩)]))
        (λk7=>aa [tB 68 (bp k7)]<|rQ (.ik [ib (jd d p false),iP 0]) (.ik [ib (mV d p),iP (nH d p)]) (by rw[I8 k1 k2 k3 k4,FA k1 k2,bh λq=>q.elim (λq=>k5 (w5.2 q)) λq=>k7 q.2])))
       (λk6=>aa [tB 62 (bp k6)]<|rQ (.ik [ib (jd d p false),iP 0]) (.ik [ib (mV d p),iP (nH d p)]) (by rw[I8 k1 k2 k3 k4,FA k1 k2,bh λq=>q.elim (λq=>k5 (w5.2 q)) λq=>k6 (w6.2 q.1)]))))))
   (λk2=>aa [tB 30 (bg k2),.o 31 (.e tc:ai (.agg an) (ib iL))]<|rQ (.ik [ib iL,iP (jI d p true)]) (.ik [ib (mV d p),iP (nH d p)]) aT))
  (λk1=>aa [tB 20 (bg k1),.o 21 (.e tc:ai (.agg an) (ib iL))]<|rQ (.ik [ib iL,iP (jI d p false)]) (.ik [ib (mV d p),iP (nH d p)]) aT)) 
def aeS(B:Nat->Nat->Dy)(n p:Nat)(n8:n<=8)(hv:∀ k i,(B k i).ic)(iu:8<=p)(ie:p<=512)(lg:∀ k,k<n->∀ i,i<n->nH (B k i) p=0):gW 306 [(.kY false true n 1 λk_ _=>.kY true true ((λ_=>n) k_) 3 ((iO B) k_)),iP p] (.ik [lO (xN B n p),bP true]):=
 aj call306 func306 (aa [.y 6 6 true 219 1 (λ_ _=>.any),.s (Sp.jE (Un B n p) 0 n aA (λk hk ql=>by
    exact iF (aa [tT 17 ((k:Int)<n) aA,iX (k:Int) n aA,.y 9 9 true 37 3 (nZ ((List.range 0).map (nx B p k))),.s (Sp.jE (Uo B n p k) 0 n aA (λi hi mw=>by
    have EO:=hv k i;have oY:[mV (B k i) p].length=1:=rfl;exact iF (aa [tT 23 ((i:Int)<n) aA,iX (i:Int) n aA,.c (Jw (B k i) p aB aA aA),ah 33 ((nH (B k i) p) != 0) (bc (lg k aA i aA)),.o 36 (.e (Cf _):ai (.sl true 1 3 λi_ j_=>(jt (mV (B k i) p)).getD (i_*3+j_) (.v (.bool false))) (kC [mV (B k i) p])),.a (aA:(i+[mV (B k i) p].length)*40<=140737488355328),
     iA ((i:Int)+1) aA]<|.e (ae [.b 9 (G4 rfl rfl rfl:Bx.le (.row true 37 (i+[mV (B k i) p].length) 3 (λi_ j_=>if i_<i then(nZ ((List.range i).map (nx B p k))) i_ j_ else(E.iS (kC [mV (B k i) p])) (i_-i) j_)) (.row true 37 (i+1) 3 (nZ ((List.range (i+1)).map (nx B p k)))))])) aD)
  (λhi=>by
    exact iF (ae [tF 23 ((n:Int)<n) aA]) aD) aG:jA 7 f306 (Uo B n p k 0) (.exit 2) ⟨45,true,[(9,.own 9),(6,.own 6),(16,.e (iP k)),(15,.e (iP n)),(14,.e (.kY false true n 1 λk_ _=>.kY true true ((λ_=>n) k_) 3 ((iO B) k_))),(1,.e (iP p))],[(9,.row true 37 n 3 (nZ ((List.range n).map (nx B p k)))),(6,.il true 219 37 k 3 (λ_=>n) (iO (nx B p)) .none)]⟩) .nil,.a (aA:0<1),.a (aA:(k+1)*24<=140737488355328),iA ((k:Int)+1) aA]<|.e (ae [.b 6 (GY rfl rfl aF (λ_ _ hi _=>Vr hi):Bx.le (.il true 219 37 (k+1) 3 (λk_=>if k_<k then(λ_=>n) k_ else(λ_=>n) (k_-k)) (λk_=>if k_<k then(iO (nx B p)) k_ else(λ_=>nZ ((List.range n).map (nx B p k))) (k_-k)) .none) (.il true 219 37 (k+1) 3 (λ_=>n) (iO (nx B p)) .none))])) aD)
  (λhk=>by
    exact iF (ae [tF 17 ((n:Int)<n) aA,.z 6]) aD) aG:jA 3 f306 (Un B n p 0) (.exit 0) ⟨45,true,[(6,.e (.sl true n 1 λk_ _=>.sl true ((λ_=>n) k_) 3 ((iO (nx B p)) k_)))],[]⟩) (ae [.b 6 (Bx.le.Wp:Bx.le (.row true 219 0 1 (λ_ _=>.any)) (.il true 219 37 0 3 (λ_=>n) (iO (nx B p)) .none))])]<|rR (.ik [lO (xN B n p),bP true]) (.ik (.cons (aad (by unfold xN;simp) rfl) (.cons (.refl _) .nil)):E.le (.ik [(.sl true n 1 λk_ _=>.sl true ((λ_=>n) k_) 3 ((iO (nx B p)) k_)),bP true]) (.ik [lO (xN B n p),bP true]))) 
def aeR(B:Nat->Nat->Dy)(n p:Nat)(n8:n<=8)(hv:∀ k i,(B k i).ic)(iu:8<=p)(ie:p<=512)(K I:Nat)(hK:K<n)(hI:I<n)(lg:∀ k,k<K->∀ i,i<n->nH (B k i) p=0)(mF:∀ i,i<I->nH (B K i) p=0)(pM:nH (B K I) p≠0):gW 306 [(.kY false true n 1 λk_ _=>.kY true true ((λ_=>n) k_) 3 ((iO B) k_)),iP p] (.ik [.v (.slice none 0 0),bP false]):=
 aj call306 func306 (aa [.y 6 6 true 219 1 (λ_ _=>.any),.s (Sp.jE (Uq B n p K I) 0 K aA (λk hk ql=>by
    exact iF (aa [tT 17 ((k:Int)<n) aA,iX (k:Int) n aA,.y 9 9 true 37 3 (nZ ((List.range 0).map (nx B p k))),.s (Sp.jE (Ur B n p k) 0 n aA (λi hi mw=>by
    have EO:=hv k i;have oY:[mV (B k i) p].length=1:=rfl;exact iF (aa [tT 23 ((i:Int)<n) aA,iX (i:Int) n aA,.c (Jw (B k i) p aB aA aA),ah 33 ((nH (B k i) p) != 0) (bc (lg k aA i aA)),.o 36 (.e (Cf _):ai (.sl true 1 3 λi_ j_=>(jt (mV (B k i) p)).getD (i_*3+j_) (.v (.bool false))) (kC [mV (B k i) p])),.a (aA:(i+[mV (B k i) p].length)*40<=140737488355328),
     iA ((i:Int)+1) aA]<|.e (ae [.b 9 (G4 rfl rfl rfl:Bx.le (.row true 37 (i+[mV (B k i) p].length) 3 (λi_ j_=>if i_<i then(nZ ((List.range i).map (nx B p k))) i_ j_ else(E.iS (kC [mV (B k i) p])) (i_-i) j_)) (.row true 37 (i+1) 3 (nZ ((List.range (i+1)).map (nx B p k)))))])) aD)
  (λhi=>by
    exact iF (ae [tF 23 ((n:Int)<n) aA]) aD) aG:jA 7 f306 (Ur B n p k 0) (.exit 2) ⟨45,true,[(9,.own 9),(6,.own 6),(16,.e (iP k)),(15,.e (iP n)),(14,.e (.kY false true n 1 λk_ _=>.kY true true ((λ_=>n) k_) 3 ((iO B) k_))),(1,.e (iP p))],[(9,.row true 37 n 3 (nZ ((List.range n).map (nx B p k)))),(6,.il true 219 37 k 3 (λ_=>n) (iO (nx B p)) .none)]⟩) .nil,.a (aA:0<1),.a (aA:(k+1)*24<=140737488355328),iA ((k:Int)+1) aA]<|.e (ae [.b 6 (GY rfl rfl aF (λ_ _ hi _=>Vr hi):Bx.le (.il true 219 37 (k+1) 3 (λk_=>if k_<k then(λ_=>n) k_ else(λ_=>n) (k_-k)) (λk_=>if k_<k then(iO (nx B p)) k_ else(λ_=>nZ ((List.range n).map (nx B p k))) (k_-k)) .none) (.il true 219 37 (k+1) 3 (λ_=>n) (iO (nx B p)) .none))])) aD)
  (λhk=>by
    exact iF (ae [tT 17 ((K:Int)<n) aA,iX (K:Int) n aA,.y 9 9 true 37 3 (nZ ((List.range 0).map (nx B p K))),.s (Sp.jE (Us B n p K) 0 I aA (λi hi mw=>by
    have EO:=hv K i;have oY:[mV (B K i) p].length=1:=rfl;exact iF (aa [tT 23 ((i:Int)<n) aA,iX (i:Int) n aA,.c (Jw (B K i) p aB aA aA),ah 33 ((nH (B K i) p) != 0) (bc (mF i aA)),.o 36 (.e (Cf _):ai (.sl true 1 3 λi_ j_=>(jt (mV (B K i) p)).getD (i_*3+j_) (.v (.bool false))) (kC [mV (B K i) p])),.a (aA:(i+[mV (B K i) p].length)*40<=140737488355328),iA ((i:Int)+1) aA]<|.e (ae [.b 9 (G4 rfl rfl rfl:Bx.le (.row true 37 (i+[mV (B K i) p].length) 3 (λi_ j_=>if i_<i then(nZ ((List.range i).map (nx B p K))) i_ j_ else(E.iS (kC [mV (B K i) p])) (i_-i) j_)) (.row true 37 (i+1) 3 (nZ ((List.range (i+1)).map (nx B p K)))))])) aD)
  (λhi=>by
    have EO:=hv K I;exact iF (ae [tT 23 ((I:Int)<n) aA,iX (I:Int) n aA,.c (Jw (B K I) p aB aA aA),tB 33 (bg pM)]) aD) aG:jA 7 f306 (Us B n p K 0) .ret ⟨45,true,[(5,.e (bP false)),(4,.e (.v (.slice none 0 0)))],[]⟩) .nil]) aD) aG:jA 3 f306 (Uq B n p K I 0) .ret ⟨45,true,[(5,.e (bP false)),(4,.e (.v (.slice none 0 0)))],[]⟩) (ae [.b 6 (Bx.le.Wp:Bx.le (.row true 219 0 1 (λ_ _=>.any)) (.il true 219 37 0 3 (λ_=>n) (iO (nx B p)) .none))])]<|rR (.ik [.v (.slice none 0 0),bP false]) (.refl _:E.le (.ik [.v (.slice none 0 0),bP false]) (.ik [.v (.slice none 0 0),bP false]))) 
def jR(m:List (List Dy))(w c:Nat):nW:=wh m.length w (xC m) c
def nP(m:List (List Dy))(w c:Nat):nW:=Oz m.length c (jR m w c)
def kE(m:List (List Dy))(w c k:Nat):nW:=xo w c ((nP m w c).A c c) (nP m w c) k
def ja(m:List (List Dy))(w c i:Nat):nW:=Ao m.length w c (kE m w c m.length) i
def iZ(m:List (List Dy))(w c i k:Nat):nW:=sg w c i ((ja m w c i).A i c) (ja m w c i) k
def mH(m:List (List Dy))(w c:Nat):Nat:=nT (jR m w c).A c c (m.length-c)
section
variable {m:List (List Dy)} {w:Nat} (hm:rA m) (h1:8<=w) (h2:w<=512)
include hm h1 h2
def CH(c:Nat):rC (jR m w c):=P5 h1 h2 (ads hm.ok) _ c
def MR(c:Nat):rC (nP m w c):=WZ (CH hm h1 h2 c) _ _
def MI(c k:Nat):rC (kE m w c k):=G1 h1 h2 (MR hm h1 h2 c) _ _ _
def ET(c i:Nat):rC (ja m w c i):=JR h1 h2 (MI hm h1 h2 c _) _ _ _
def Tf(c i k:Nat):rC (iZ m w c i k):=G5 h1 h2 (ET hm h1 h2 c i) _ _ _ _
end
def It{m:List (List Dy)}{w c i:Nat}(h:i=c\/((ja m w c i).A i c).kf=0):ja m w c (i+1)=ja m w c i:=by
 show(if i=c\/((ja m w c i).A i c).kf=0 then ja m w c i else iZ m w c i m.length)=_;rw[bj h]
def Tq{m:List (List Dy)}{w c i:Nat}(h:¬i=c)(h2:¬((ja m w c i).A i c).kf=0):ja m w c (i+1)=iZ m w c i m.length:=by
 show(if i=c\/((ja m w c i).A i c).kf=0 then ja m w c i else iZ m w c i m.length)=_;rw[bh λq=>q.elim h h2]
def W8{m:List (List Dy)}{w c:Nat}(h:((jR m w c).A (mH m w c) c).kf≠0):((nP m w c).A c c).m≠0:=by
 have e:(nP m w c).A c c=(jR m w c).A (mH m w c) c:=by
  show(jR m w c).A (nd c (mH m w c) c) c=_;unfold nd;simp
 rw[e];intro q;exact h (by unfold Dy.kf;rw[bj q])
def JT{m:List (List Dy)}{w c:Nat}(h:vR m.length c (jR m w c)=false):((jR m w c).A (mH m w c) c).kf≠0:=of_decide_eq_false h
def aii{m:List (List Dy)}{w c:Nat}(h:vR m.length c (jR m w c)=true):((jR m w c).A (mH m w c) c).kf=0:=cK h
def Ul(m:List (List Dy))(p w N:Nat)(c:Nat):PS:=⟨212,true,[(37,.e (iP c)),(36,.e (iP m.length)),(9,.e (bP false)),(8,.own 34),(7,.own 31),(6,.box 29 0),(1,.e (iP p))],[(34,.il true 219 37 m.length 3 (λ_=>m.length) (iO ((jR m w c).B)) .none),(31,.il true 219 37 m.length 3 (λ_=>m.length) (iO ((jR m w c).A)) .none),(29,.cells 252 [iP w,bP ((jR m w c).bad)])]⟩
def IM(m:List (List Dy))(p w c:Nat)(k:Nat):PS:=⟨212,true,[(86,.e (iP k)),(85,.e (iP m.length)),(13,.box 13 0),(10,.e (iP c)),(37,.e (iP c)),(36,.e (iP m.length)),(9,.e (bP false)),(8,.own 34),(7,.own 31),(6,.box 29 0),(1,.e (iP p))],[(13,.cells 37 (jt ((nP m w c).A c c))),(34,.il true 219 37 m.length 3 (λ_=>m.length) (iO ((kE m w c k).B)) .none),(31,.il true 219 37 m.length 3 (λ_=>m.length) (iO ((kE m w c k).A)) .none),(29,.cells 252 [iP w,bP ((kE m w c k).bad)])]⟩
def IP(m:List (List Dy))(p w c:Nat)(i:Nat):PS:=⟨212,true,[(124,.e (iP i)),(123,.e (iP m.length)),(10,.e (iP c)),(37,.e (iP c)),(36,.e (iP m.length)),(9,.e (bP false)),(8,.own 34),(7,.own 31),(6,.box 29 0),(1,.e (iP p))],[(34,.il true 219 37 m.length 3 (λ_=>m.length) (iO ((ja m w c i).B)) .none),(31,.il true 219 37 m.length 3 (λ_=>m.length) (iO ((ja m w c i).A)) .none),(29,.cells 252 [iP w,bP ((ja m w c i).bad)])]⟩
def IN(m:List (List Dy))(p w c i:Nat)(k:Nat):PS:=⟨212,true,[(144,.e (iP k)),(143,.e (iP m.length)),(140,.e (bP true)),(139,.e (iP (Dy.kf (((ja m w c i).A) i c)))),(138,.e (ib (((ja m w c i).A) i c))),(16,.box 16 0),(15,.e (iP i)),(124,.e (iP i)),(123,.e (iP m.length)),(10,.e (iP c)),(37,.e (iP c)),(36,.e (iP m.length)),(9,.e (bP false)),(8,.own 34),(7,.own 31),(6,.box 29 0),(1,.e (iP p))],[(16,.cells 37 (jt (((ja m w c i).A) i c))),(34,.il true 219 37 m.length 3 (λ_=>m.length) (iO ((iZ m w c i k).B)) .none),(31,.il true 219 37 m.length 3 (λ_=>m.length) (iO ((iZ m w c i k).A)) .none),(29,.cells 252 [iP w,bP ((iZ m w c i k).bad)])]⟩
def Fe(m:List (List Dy))(p w:Nat)(c:Nat):PS:=⟨212,true,[(37,.e (iP c)),(36,.e (iP m.length)),(9,.e (bP false)),(8,.own 34),(7,.own 31),(6,.box 29 0),(1,.e (iP p))],[(34,.il true 219 37 m.length 3 (λ_=>m.length) (iO ((jR m w c).B)) .none),(31,.il true 219 37 m.length 3 (λ_=>m.length) (iO ((jR m w c).A)) .none),(29,.cells 252 [iP w,bP ((jR m w c).bad)])]⟩
def Nc(m:List (List Dy))(p w:Nat)(hm:rA m)(n1:1<=m.length)(n8:m.length<=8)(w1:8<=w)(w2:w<=512)(tC:∀ c,c<m.length->vR m.length c (jR m w c)=false):jA 7 f262 (Fe m p w 0) (.exit 0) ⟨212,true,[(9,.e (bP false)),(8,.own 34),(6,.box 29 0),(1,.e (iP p))],[(34,.il true 219 37 m.length 3 (λ_=>m.length) (iO ((jR m w m.length).B)) .none),(29,.cells 252 [iP w,bP ((jR m w m.length).bad)])]⟩:=
  Sp.jE (Fe m p w) 0 m.length aA (λc hc SC=>by
    have EG:=tC c aA;obtain⟨q1,q2⟩:=FP (A:=(jR m w c).A) (col:=c) (aA:c<m.length) (m.length-c) aA;have hpv:mH m w c<m.length:=q1;exact iF (aa [tT 38 ((c:Int)<m.length) aA,.c (Nd (jR m w c).A m.length c aA n8 (CH hm w1 w2 c).a),ag 46 (((jR m w c).A (mH m w c) c).kf != 0) (bg (JT EG)),
     iX (mH m w c:Int) (m.length) aA,.a (aA:(mH m w c)<m.length),iX (c:Int) (m.length) aA,.a (aA:c<m.length),iX (c:Int) (m.length) aA,.a (aA:c<m.length),.a (aA:(mH m w c)<m.length),iX (mH m w c:Int) (m.length) aA,.a (rfl:(mH m w c)=(mH m w c)),.a (rfl:c=c),iX (mH m w c:Int) (m.length) aA,.a (aA:(mH m w c)<m.length),iX (c:Int) (m.length) aA,.a (aA:c<m.length),iX (c:Int) (m.length) aA,.a (aA:c<m.length),.a (aA:(mH m w c)<m.length),
     iX (mH m w c:Int) (m.length) aA,.a (rfl:(mH m w c)=(mH m w c)),.a (rfl:c=c),iX (c:Int) (m.length) aA,.a (aA:c<m.length),.a (aA:c<m.length),.a (aA:0<=((c:Int):Int)/\((c:Int):Int)<m.length),.a (aA:c<m.length),.a (aA:c<m.length),.s (Sp.jE (IM m p w c) 0 m.length aA (λk hk ql=>by
    have hI:=MI hm w1 w2 c k;have v1:=hI.a c k;have v2:=hI.b c k;have v3:=(MR hm w1 w2 c).a c c;have v4:=W8 (JT EG);exact iF (aa [tT 87 ((k:Int)<m.length) aA,iX (c:Int) (m.length) aA,.a (aA:c<m.length),iX (c:Int) (m.length) aA,.a (aA:c<m.length),
     iX (c:Int) (m.length) aA,.a (aA:c<m.length),.a (aA:c<m.length),.a (aA:0<=((k:Int):Int)/\((k:Int):Int)<m.length),.a (aA:c<m.length),.a (aA:k<m.length),.cm (JC _ _ _ _ aB aB aB aA aA:qx 303 252 [iP w,bP ((kE m w c k).bad)] [iP w,bP ((kE m w c k).bad||(mD (((kE m w c k).A) c k) ((nP m w c).A c c) w false != 0))] [ib (((kE m w c k).A) c k),ib ((nP m w c).A c c)] (ib (mi (((kE m w c k).A) c k) ((nP m w c).A c c) w false))),
     iX (c:Int) (m.length) aA,.a (aA:c<m.length),.a (aA:c<m.length),.a (aA:0<=((k:Int):Int)/\((k:Int):Int)<m.length),.a (aA:c<m.length),.a (aA:k<m.length),.cm (JC _ _ _ _ aB aB aB aA aA:qx 303 252 [iP w,bP ((kE m w c k).bad||(mD (((kE m w c k).A) c k) ((nP m w c).A c c) w false != 0))] [iP w,bP (((kE m w c k).bad||(mD (((kE m w c k).A) c k) ((nP m w c).A c c) w false != 0))||(mD (((kE m w c k).B) c k) ((nP m w c).A c c) w false != 0))] [ib (((kE m w c k).B) c k),ib ((nP m w c).A c c)] (ib (mi (((kE m w c k).B) c k) ((nP m w c).A c c) w false))),.a (aA:c<m.length),.a (aA:0<=((k:Int):Int)/\((k:Int):Int)<m.length),.a (aA:c<m.length),.a (aA:k<m.length),.a (aA:c<m.length),.a (aA:0<=((k:Int):Int)/\((k:Int):Int)<m.length),.a (aA:c<m.length),.a (aA:k<m.length),iA ((k:Int)+1) aA]<|.e (ae [.b 34 (zw rfl rfl rfl:Bx.le (.il true 219 37 m.length 3 (λ_=>m.length) (λk' i' j'=>if k'=c/\i'=k/\0<=j'/\j'<0+3 then(jt (mi (((kE m w c k).B) c k) ((nP m w c).A c c) w false)).getD (j'-0) .any else(iO ((kE m w c k).B)) k' i' j') .none) (.il true 219 37 m.length 3 (λ_=>m.length) (iO ((kE m w c (k+1)).B)) .none)),.b 31 (zw rfl rfl rfl:Bx.le (.il true 219 37 m.length 3 (λ_=>m.length) (λk' i' j'=>if k'=c/\i'=k/\0<=j'/\j'<0+3 then(jt (mi (((kE m w c k).A) c k) ((nP m w c).A c c) w false)).getD (j'-0) .any else(iO ((kE m w c k).A)) k' i' j') .none) (.il true 219 37 m.length 3 (λ_=>m.length) (iO ((kE m w c (k+1)).A)) .none)),.b 29 (.iD rfl:Bx.le (.cells 252 [iP w,bP (((kE m w c k).bad||(mD (((kE m w c k).A) c k) ((nP m w c).A c c) w false != 0))||(mD (((kE m w c k).B) c k) ((nP m w c).A c c) w false != 0))]) (.cells 252 [iP w,bP ((kE m w c (k+1)).bad)]))])) aD)
  (λhk=>by
    exact iF (ae [tF 87 ((m.length:Int)<m.length) aA]) aD) aG:jA 16 f262 (IM m p w c 0) (.exit 2) ⟨212,true,[(10,.e (iP c)),(37,.e (iP c)),(36,.e (iP m.length)),(9,.e (bP false)),(8,.own 34),(7,.own 31),(6,.box 29 0),(1,.e (iP p))],[(34,.il true 219 37 m.length 3 (λ_=>m.length) (iO ((kE m w c m.length).B)) .none),(31,.il true 219 37 m.length 3 (λ_=>m.length) (iO ((kE m w c m.length).A)) .none),(29,.cells 252 [iP w,bP ((kE m w c m.length).bad)])]⟩) (ae [.b 13 (.iD rfl:Bx.le (.cells 37 (jt (((jR m w c).A) (nd c (mH m w c) c) c))) (.cells 37 (jt ((nP m w c).A c c)))),.b 34 (GZ rfl rfl:Bx.le (.il true 219 37 m.length 3 (λ_=>m.length) (λq=>(iO ((jR m w c).B)) (nd c (mH m w c) q)) .none) (.il true 219 37 m.length 3 (λ_=>m.length) (iO ((kE m w c 0).B)) .none)),.b 31 (GZ rfl rfl:Bx.le (.il true 219 37 m.length 3 (λ_=>m.length) (λq=>(iO ((jR m w c).A)) (nd c (mH m w c) q)) .none) (.il true 219 37 m.length 3 (λ_=>m.length) (iO ((kE m w c 0).A)) .none)),.b 29 (.iD rfl:Bx.le (.cells 252 [iP w,bP ((jR m w c).bad)]) (.cells 252 [iP w,bP ((kE m w c 0).bad)]))]),.s (Sp.jE (IP m p w c) 0 m.length aA (λi hi mw=>by
    have v5:=(ET hm w1 w2 c i).a i c;exact iF (aa [tT 125 ((i:Int)<m.length) aA,iX (i:Int) (m.length) aA,.a (aA:i<m.length),.a (aA:i<m.length),.a (aA:0<=((c:Int):Int)/\((c:Int):Int)<m.length),.a (aA:i<m.length),.a (aA:c<m.length)]<|.w (i=c)
     (λAT=>by
      have jO:=It (m:=m) (w:=w) (.inl AT);exact aa [ah 136 ((i:Int) != (c:Int)) (bc aA),iA ((i:Int)+1) aA]<|.e (ae [.b 34 (.iD (by rw[jO]):Bx.le (.il true 219 37 m.length 3 (λ_=>m.length) (iO ((ja m w c i).B)) .none) (.il true 219 37 m.length 3 (λ_=>m.length) (iO ((ja m w c (i+1)).B)) .none)),.b 31 (.iD (by rw[jO]):Bx.le (.il true 219 37 m.length 3 (λ_=>m.length) (iO ((ja m w c i).A)) .none) (.il true 219 37 m.length 3 (λ_=>m.length) (iO ((ja m w c (i+1)).A)) .none)),.b 29 (.iD (by rw[jO]):Bx.le (.cells 252 [iP w,bP ((ja m w c i).bad)]) (.cells 252 [iP w,bP ((ja m w c (i+1)).bad)]))]))
     (λAT=>aa [ag 136 ((i:Int) != (c:Int)) (bg aA),af [ib (((ja m w c i).A) i c)] (uf _ aB)]<|.w (((ja m w c i).A i c).kf=0)
      (λwE=>by
       have jO:=It (m:=m) (w:=w) (c:=c) (i:=i) (.inr wE);exact aa [tB 140 (bc wE),iA ((i:Int)+1) aA]<|.e (ae [.b 34 (.iD (by rw[jO]):Bx.le (.il true 219 37 m.length 3 (λ_=>m.length) (iO ((ja m w c i).B)) .none) (.il true 219 37 m.length 3 (λ_=>m.length) (iO ((ja m w c (i+1)).B)) .none)),.b 31 (.iD (by rw[jO]):Bx.le (.il true 219 37 m.length 3 (λ_=>m.length) (iO ((ja m w c i).A)) .none) (.il true 219 37 m.length 3 (λ_=>m.length) (iO ((ja m w c (i+1)).A)) .none)),.b 29 (.iD (by rw[jO]):Bx.le (.cells 252 [iP w,bP ((ja m w c i).bad)]) (.cells 252 [iP w,bP ((ja m w c (i+1)).bad)]))]))
      (λwE=>by
       have jO:=Tq (m:=m) (w:=w) AT wE;exact aa [tB 140 (bg wE),.s (Sp.jE (IN m p w c i) 0 m.length aA (λk hk ql=>by
    have hI:=Tf hm w1 w2 c i k;have v1:=hI.a i k;have v2:=hI.a c k;have v3:=hI.b i k;have v4:=hI.b c k;have v5:=(ET hm w1 w2 c i).a i c;have v6:=JO w1 w2 ((ja m w c i).A i c) ((iZ m w c i k).A c k);have v7:=JO w1 w2 ((ja m w c i).A i c) ((iZ m w c i k).B c k);exact iF (aa [tT 145 ((k:Int)<m.length) aA,iX (i:Int) (m.length) aA,.a (aA:i<m.length),iX (i:Int) (m.length) aA,.a (aA:i<m.length),.a (aA:i<m.length),.a (aA:0<=((k:Int):Int)/\((k:Int):Int)<m.length),.a (aA:i<m.length),.a (aA:k<m.length),iX (c:Int) (m.length) aA,.a (aA:c<m.length),.a (aA:c<m.length),.a (aA:0<=((k:Int):Int)/\((k:Int):Int)<m.length),.a (aA:c<m.length),.a (aA:k<m.length),.cm (JD _ _ _ _ aB aB aA aA:qx 305 252 [iP w,bP ((iZ m w c i k).bad)] [iP w,bP ((iZ m w c i k).bad||(pf (((ja m w c i).A) i c) (((iZ m w c i k).A) c k) w))] [ib (((ja m w c i).A) i c),ib (((iZ m w c i k).A) c k)] (ib (mO (((ja m w c i).A) i c) (((iZ m w c i k).A) c k) w))),.cm (JE _ _ _ _ aB aB aA aA:qx 304 252 [iP w,bP ((iZ m w c i k).bad||(pf (((ja m w c i).A) i c) (((iZ m w c i k).A) c k) w))] [iP w,bP (((iZ m w c i k).bad||(pf (((ja m w c i).A) i c) (((iZ m w c i k).A) c k) w))||(q8 (((iZ m w c i k).A) i k) (mO (((ja m w c i).A) i c) (((iZ m w c i k).A) c k) w) w))] [ib (((iZ m w c i k).A) i k),ib (mO (((ja m w c i).A) i c) (((iZ m w c i k).A) c k) w)] (ib (uW (((iZ m w c i k).A) i k) (mO (((ja m w c i).A) i c) (((iZ m w c i k).A) c k) w) w))),.a (aA:i<m.length),.a (aA:0<=((k:Int):Int)/\((k:Int):Int)<m.length),.a (aA:i<m.length),.a (aA:k<m.length),iX (i:Int) (m.length) aA,.a (aA:i<m.length),iX (i:Int) (m.length) aA,.a (aA:i<m.length),.a (aA:i<m.length),.a (aA:0<=((k:Int):Int)/\((k:Int):Int)<m.length),.a (aA:i<m.length),.a (aA:k<m.length),iX (c:Int) (m.length) aA,.a (aA:c<m.length),.a (aA:c<m.length),.a (aA:0<=((k:Int):Int)/\((k:Int):Int)<m.length),.a (aA:c<m.length),.a (aA:k<m.length),.cm (JD _ _ _ _ aB aB aA aA:qx 305 252 [iP w,bP (((iZ m w c i k).bad||(pf (((ja m w c i).A) i c) (((iZ m w c i k).A) c k) w))||(q8 (((iZ m w c i k).A) i k) (mO (((ja m w c i).A) i c) (((iZ m w c i k).A) c k) w) w))] [iP w,bP ((((iZ m w c i k).bad||(pf (((ja m w c i).A) i c) (((iZ m w c i k).A) c k) w))||(q8 (((iZ m w c i k).A) i k) (mO (((ja m w c i).A) i c) (((iZ m w c i k).A) c k) w) w))||(pf (((ja m w c i).A) i c) (((iZ m w c i k).B) c k) w))] [ib (((ja m w c i).A) i c),ib (((iZ m w c i k).B) c k)] (ib (mO (((ja m w c i).A) i c) (((iZ m w c i k).B) c k) w))),.cm (JE _ _ _ _ aB aB aA aA:qx 304 252 [iP w,bP ((((iZ m w c i k).bad||(pf (((ja m w c i).A) i c) (((iZ m w c i k).A) c k) w))||(q8 (((iZ m w c i k).A) i k) (mO (((ja m w c i).A) i c) (((iZ m w c i k).A) c k) w) w))||(pf (((ja m w c i).A) i c) (((iZ m w c i k).B) c k) w))] [iP w,bP (((((iZ m w c i k).bad||(pf (((ja m w c i).A) i c) (((iZ m w c i k).A) c k) w))||(q8 (((iZ m w c i k).A) i k) (mO (((ja m w c i).A) i c) (((iZ m w c i k).A) c k) w) w))||(pf (((ja m w c i).A) i c) (((iZ m w c i k).B) c k) w))||(q8 (((iZ m w c i k).B) i k) (mO (((ja m w c i).A) i c) (((iZ m w c i k).B) c k) w) w))] [ib (((iZ m w c i k).B) i k),ib (mO (((ja m w c i).A) i c) (((iZ m w c i k).B) c k) w)] (ib (uW (((iZ m w c i k).B) i k) (mO (((ja m w c i).A) i c) (((iZ m w c i k).B) c k) w) w))),.a (aA:i<m.length),.a (aA:0<=((k:Int):Int)/\((k:Int):Int)<m.length),.a (aA:i<m.length),.a (aA:k<m.length),iA ((k:Int)+1) aA]<|.e (ae [.b 34 (zw rfl rfl rfl:Bx.le (.il true 219 37 m.length 3 (λ_=>m.length) (λk' i' j'=>if k'=i/\i'=k/\0<=j'/\j'<0+3 then(jt (uW (((iZ m w c i k).B) i k) (mO (((ja m w c i).A) i c) (((iZ m w c i k).B) c k) w) w)).getD (j'-0) .any else(iO ((iZ m w c i k).B)) k' i' j') .none) (.il true 219 37 m.length 3 (λ_=>m.length) (iO ((iZ m w c i (k+1)).B)) .none)),.b 31 (zw rfl rfl rfl:Bx.le (.il true 219 37 m.length 3 (λ_=>m.length) (λk' i' j'=>if k'=i/\i'=k/\0<=j'/\j'<0+3 then(jt (uW (((iZ m w c i k).A) i k) (mO (((ja m w c i).A) i c) (((iZ m w c i k).A) c k) w) w)).getD (j'-0) .any else(iO ((iZ m w c i k).A)) k' i' j') .none) (.il true 219 37 m.length 3 (λ_=>m.length) (iO ((iZ m w c i (k+1)).A)) .none)),.b 29 (.iD rfl:Bx.le (.cells 252 [iP w,bP (((((iZ m w c i k).bad||(pf (((ja m w c i).A) i c) (((iZ m w c i k).A) c k) w))||(q8 (((iZ m w c i k).A) i k) (mO (((ja m w c i).A) i c) (((iZ m w c i k).A) c k) w) w))||(pf (((ja m w c i).A) i c) (((iZ m w c i k).B) c k) w))||(q8 (((iZ m w c i k).B) i k) (mO (((ja m w c i).A) i c) (((iZ m w c i k).B) c k) w) w))]) (.cells 252 [iP w,bP ((iZ m w c i (k+1)).bad)]))])) aD)
  (λhk=>by
    exact iF (ae [tF 145 ((m.length:Int)<m.length) aA]) aD) aG:jA 26 f262 (IN m p w c i 0) (.exit 6) ⟨212,true,[(140,.e (bP true)),(139,.e (iP (Dy.kf (((ja m w c i).A) i c)))),(138,.e (ib (((ja m w c i).A) i c))),(124,.e (iP i)),(123,.e (iP m.length)),(10,.e (iP c)),(37,.e (iP c)),(36,.e (iP m.length)),(9,.e (bP false)),(8,.own 34),(7,.own 31),(6,.box 29 0),(1,.e (iP p))],[(34,.il true 219 37 m.length 3 (λ_=>m.length) (iO ((iZ m w c i m.length).B)) .none),(31,.il true 219 37 m.length 3 (λ_=>m.length) (iO ((iZ m w c i m.length).A)) .none),(29,.cells 252 [iP w,bP ((iZ m w c i m.length).bad)])]⟩) (ae [.b 34 (.iD rfl:Bx.le (.il true 219 37 m.length 3 (λ_=>m.length) (iO ((ja m w c i).B)) .none) (.il true 219 37 m.length 3 (λ_=>m.length) (iO ((iZ m w c i 0).B)) .none)),.b 31 (.iD rfl:Bx.le (.il true 219 37 m.length 3 (λ_=>m.length) (iO ((ja m w c i).A)) .none) (.il true 219 37 m.length 3 (λ_=>m.length) (iO ((iZ m w c i 0).A)) .none)),.b 29 (.iD rfl:Bx.le (.cells 252 [iP w,bP ((ja m w c i).bad)]) (.cells 252 [iP w,bP ((iZ m w c i 0).bad)]))]),
        iA ((i:Int)+1) aA]<|.e (ae [.b 34 (.iD (by rw[jO]):Bx.le (.il true 219 37 m.length 3 (λ_=>m.length) (iO ((iZ m w c i m.length).B)) .none) (.il true 219 37 m.length 3 (λ_=>m.length) (iO ((ja m w c (i+1)).B)) .none)),.b 31 (.iD (by rw[jO]):Bx.le (.il true 219 37 m.length 3 (λ_=>m.length) (iO ((iZ m w c i m.length).A)) .none) (.il true 219 37 m.length 3 (λ_=>m.length) (iO ((ja m w c (i+1)).A)) .none)),.b 29 (.iD (by rw[jO]):Bx.le (.cells 252 [iP w,bP ((iZ m w c i m.length).bad)]) (.cells 252 [iP w,bP ((ja m w c (i+1)).bad)]))])))) aD)
  (λhi=>by
    exact iF (ae [tF 125 ((m.length:Int)<m.length) aA]) aD) aG:jA 21 f262 (IP m p w c 0) (.exit 4) ⟨212,true,[(37,.e (iP c)),(36,.e (iP m.length)),(9,.e (bP false)),(8,.own 34),(7,.own 31),(6,.box 29 0),(1,.e (iP p))],[(34,.il true 219 37 m.length 3 (λ_=>m.length) (iO ((ja m w c m.length).B)) .none),(31,.il true 219 37 m.length 3 (λ_=>m.length) (iO ((ja m w c m.length).A)) .none),(29,.cells 252 [iP w,bP ((ja m w c m.length).bad)])]⟩) (ae [.b 34 (.iD rfl:Bx.le (.il true 219 37 m.length 3 (λ_=>m.length) (iO ((kE m w c m.length).B)) .none) (.il true 219 37 m.length 3 (λ_=>m.length) (iO ((ja m w c 0).B)) .none)),.b 31 (.iD rfl:Bx.le (.il true 219 37 m.length 3 (λ_=>m.length) (iO ((kE m w c m.length).A)) .none) (.il true 219 37 m.length 3 (λ_=>m.length) (iO ((ja m w c 0).A)) .none)),.b 29 (.iD rfl:Bx.le (.cells 252 [iP w,bP ((kE m w c m.length).bad)]) (.cells 252 [iP w,bP ((ja m w c 0).bad)]))]),
     iA ((c:Int)+1) aA]<|.e (ae [.b 34 (.iD rfl:Bx.le (.il true 219 37 m.length 3 (λ_=>m.length) (iO ((ja m w c m.length).B)) .none) (.il true 219 37 m.length 3 (λ_=>m.length) (iO ((jR m w (c+1)).B)) .none)),.b 31 (.iD rfl:Bx.le (.il true 219 37 m.length 3 (λ_=>m.length) (iO ((ja m w c m.length).A)) .none) (.il true 219 37 m.length 3 (λ_=>m.length) (iO ((jR m w (c+1)).A)) .none)),.b 29 (.iD rfl:Bx.le (.cells 252 [iP w,bP ((ja m w c m.length).bad)]) (.cells 252 [iP w,bP ((jR m w (c+1)).bad)]))])) aD)
  (λhc=>by
    exact iF (ae [tF 38 ((m.length:Int)<m.length) aA]) aD) aG 
def agL:Option (List (List Dy))->E
 |none=>.ik [.v (.slice none 0 0),bP false]
 |some m=>.ik [lO m,bP true]
def agd{A:Nat->Nat->Dy}{n p:Nat}(h:¬I9 A n p=true):∃ K I,K<n/\I<n/\(∀ k,k<K->∀ i,i<n->nH (A k i) p=0)/\(∀ i,i<I->nH (A K i) p=0)/\nH (A K I) p≠0:=by
 have hx:∃ K,K<n/\(!(List.range n).all λi=>decide (nH (A K i) p=0))=true:=ch λhc=>h (by
  unfold I9;rw[bG];intro k hk;refine ch λq=>hc ⟨k,bJ.1 hk,?_⟩
  rw[de,Bool.eq_false_iff];exact q)
 obtain⟨K,h1,h2,h3⟩:=tK hx;have hy:∃ I,I<n/\decide (nH (A K I) p≠0)=true:=ch λhc=>by
  rw[de,Bool.eq_false_iff]at h2;refine h2 (bG.2 λi hi=>bn ?_);exact ch λq=>hc ⟨i,bJ.1 hi,bn q⟩
 obtain⟨I,k1,k2,k3⟩:=tK hy;refine⟨K,I,h1,k1,λk hk i hi=>?_,λi hi=>?_,cK k2⟩
 .have:=h3 k hk;rw[gz,bG]at this;exact cK (this i (bJ.2 hi))
 .have:=k3 i hi;exact ch λq=>by rw[bn q]at this;cases this
def aeP(m:List (List Dy))(hm:rA m)(p:Nat)(iu:8<=p)(ie:p<=512)(w:Nat)(hw:qN p=w)(w1:8<=w)(w2:w<=512)(N:Nat)(hN:N<m.length)(tC:∀ c,c<N->vR m.length c (jR m w c)=false)(pM:vR m.length N (jR m w N)=true):gW 262 [lO m,iP p] (.ik [.v (.slice none 0 0),bP false]):=by
 have n1:=hm.n1;have n8:=hm.n8;exact aj call262 func262 (aa [.c (Fa (p:Int)),ag 19 (kF (p:Int)) (oG.2 ⟨aA,aA⟩),.c (IS m aB),af [iP p] (hw▸IQ _ aA),.cr (IK _ hm:vY 300 [lO m] true 219 37 m.length 3 (λ_=>m.length) (iO (q9 m))),.cr (IT _ aA aA:vY 301 [iP m.length] true 219 37 m.length 3 (λ_=>m.length) (iO qP)),.s (Sp.jE (Ul m p w N) 0 N aA (λc hc SC=>by
    have EG:=tC c aA;obtain⟨q1,q2⟩:=FP (A:=(jR m w c).A) (col:=c) (aA:c<m.length) (m.length-c) aA;have hpv:mH m w c<m.length:=q1;exact iF (aa [tT 38 ((c:Int)<m.length) aA,.c (Nd (jR m w c).A m.length c aA n8 (CH hm w1 w2 c).a),ag 46 (((jR m w c).A (mH m w c) c).kf != 0) (bg (JT EG)),
     iX (mH m w c:Int) (m.length) aA,.a (aA:(mH m w c)<m.length),iX (c:Int) (m.length) aA,.a (aA:c<m.length),iX (c:Int) (m.length) aA,.a (aA:c<m.length),.a (aA:(mH m w c)<m.length),iX (mH m w c:Int) (m.length) aA,.a (rfl:(mH m w c)=(mH m w c)),.a (rfl:c=c),iX (mH m w c:Int) (m.length) aA,.a (aA:(mH m w c)<m.length),iX (c:Int) (m.length) aA,.a (aA:c<m.length),iX (c:Int) (m.length) aA,.a (aA:c<m.length),.a (aA:(mH m w c)<m.length),
     iX (mH m w c:Int) (m.length) aA,.a (rfl:(mH m w c)=(mH m w c)),.a (rfl:c=c),iX (c:Int) (m.length) aA,.a (aA:c<m.length),.a (aA:c<m.length),.a (aA:0<=((c:Int):Int)/\((c:Int):Int)<m.length),.a (aA:c<m.length),.a (aA:c<m.length),.s (Sp.jE (IM m p w c) 0 m.length aA (λk hk ql=>by
    have hI:=MI hm w1 w2 c k;have v1:=hI.a c k;have v2:=hI.b c k;have v3:=(MR hm w1 w2 c).a c c;have v4:=W8 (JT EG);exact iF (aa [tT 87 ((k:Int)<m.length) aA,iX (c:Int) (m.length) aA,.a (aA:c<m.length),iX (c:Int) (m.length) aA,.a (aA:c<m.length),
     iX (c:Int) (m.length) aA,.a (aA:c<m.length),.a (aA:c<m.length),.a (aA:0<=((k:Int):Int)/\((k:Int):Int)<m.length),.a (aA:c<m.length),.a (aA:k<m.length),.cm (JC _ _ _ _ aB aB aB aA aA:qx 303 252 [iP w,bP ((kE m w c k).bad)] [iP w,bP ((kE m w c k).bad||(mD (((kE m w c k).A) c k) ((nP m w c).A c c) w false != 0))] [ib (((kE m w c k).A) c k),ib ((nP m w c).A c c)] (ib (mi (((kE m w c k).A) c k) ((nP m w c).A c c) w false))),
     iX (c:Int) (m.length) aA,.a (aA:c<m.length),.a (aA:c<m.length),.a (aA:0<=((k:Int):Int)/\((k:Int):Int)<m.length),.a (aA:c<m.length),.a (aA:k<m.length),.cm (JC _ _ _ _ aB aB aB aA aA:qx 303 252 [iP w,bP ((kE m w c k).bad||(mD (((kE m w c k).A) c k) ((nP m w c).A c c) w false != 0))] [iP w,bP (((kE m w c k).bad||(mD (((kE m w c k).A) c k) ((nP m w c).A c c) w false != 0))||(mD (((kE m w c k).B) c k) ((nP m w c).A c c) w false != 0))] [ib (((kE m w c k).B) c k),ib ((nP m w c).A c c)] (ib (mi (((kE m w c k).B) c k) ((nP m w c).A c c) w false))),.a (aA:c<m.length),.a (aA:0<=((k:Int):Int)/\((k:Int):Int)<m.length),.a (aA:c<m.length),.a (aA:k<m.length),.a (aA:c<m.length),.a (aA:0<=((k:Int):Int)/\((k:Int):Int)<m.length),.a (aA:c<m.length),.a (aA:k<m.length),iA ((k:Int)+1) aA]<|.e (ae [.b 34 (zw rfl rfl rfl:Bx.le (.il true 219 37 m.length 3 (λ_=>m.length) (λk' i' j'=>if k'=c/\i'=k/\0<=j'/\j'<0+3 then(jt (mi (((kE m w c k).B) c k) ((nP m w c).A c c) w false)).getD (j'-0) .any else(iO ((kE m w c k).B)) k' i' j') .none) (.il true 219 37 m.length 3 (λ_=>m.length) (iO ((kE m w c (k+1)).B)) .none)),.b 31 (zw rfl rfl rfl:Bx.le (.il true 219 37 m.length 3 (λ_=>m.length) (λk' i' j'=>if k'=c/\i'=k/\0<=j'/\j'<0+3 then(jt (mi (((kE m w c k).A) c k) ((nP m w c).A c c) w false)).getD (j'-0) .any else(iO ((kE m w c k).A)) k' i' j') .none) (.il true 219 37 m.length 3 (λ_=>m.length) (iO ((kE m w c (k+1)).A)) .none)),.b 29 (.iD rfl:Bx.le (.cells 252 [iP w,bP (((kE m w c k).bad||(mD (((kE m w c k).A) c k) ((nP m w c).A c c) w false != 0))||(mD (((kE m w c k).B) c k) ((nP m w c).A c c) w false != 0))]) (.cells 252 [iP w,bP ((kE m w c (k+1)).bad)]))])) aD)
  (λhk=>by
    exact iF (ae [tF 87 ((m.length:Int)<m.length) aA]) aD) aG:jA 16 f262 (IM m p w c 0) (.exit 2) ⟨212,true,[(10,.e (iP c)),(37,.e (iP c)),(36,.e (iP m.length)),(9,.e (bP false)),(8,.own 34),(7,.own 31),(6,.box 29 0),(1,.e (iP p))],[(34,.il true 219 37 m.length 3 (λ_=>m.length) (iO ((kE m w c m.length).B)) .none),(31,.il true 219 37 m.length 3 (λ_=>m.length) (iO ((kE m w c m.length).A)) .none),(29,.cells 252 [iP w,bP ((kE m w c m.length).bad)])]⟩) (ae [.b 13 (.iD rfl:Bx.le (.cells 37 (jt (((jR m w c).A) (nd c (mH m w c) c) c))) (.cells 37 (jt ((nP m w c).A c c)))),.b 34 (GZ rfl rfl:Bx.le (.il true 219 37 m.length 3 (λ_=>m.length) (λq=>(iO ((jR m w c).B)) (nd c (mH m w c) q)) .none) (.il true 219 37 m.length 3 (λ_=>m.length) (iO ((kE m w c 0).B)) .none)),.b 31 (GZ rfl rfl:Bx.le (.il true 219 37 m.length 3 (λ_=>m.length) (λq=>(iO ((jR m w c).A)) (nd c (mH m w c) q)) .none) (.il true 219 37 m.length 3 (λ_=>m.length) (iO ((kE m w c 0).A)) .none)),.b 29 (.iD rfl:Bx.le (.cells 252 [iP w,bP ((jR m w c).bad)]) (.cells 252 [iP w,bP ((kE m w c 0).bad)]))]),.s (Sp.jE (IP m p w c) 0 m.length aA (λi hi mw=>by
    have v5:=(ET hm w1 w2 c i).a i c;exact iF (aa [tT 125 ((i:Int)<m.length) aA,iX (i:Int) (m.length) aA,.a (aA:i<m.length),.a (aA:i<m.length),.a (aA:0<=((c:Int):Int)/\((c:Int):Int)<m.length),.a (aA:i<m.length),.a (aA:c<m.length)]<|.w (i=c)
     (λAT=>by
      have jO:=It (m:=m) (w:=w) (.inl AT);exact aa [ah 136 ((i:Int) != (c:Int)) (bc aA),iA ((i:Int)+1) aA]<|.e (ae [.b 34 (.iD (by rw[jO]):Bx.le (.il true 219 37 m.length 3 (λ_=>m.length) (iO ((ja m w c i).B)) .none) (.il true 219 37 m.length 3 (λ_=>m.length) (iO ((ja m w c (i+1)).B)) .none)),.b 31 (.iD (by rw[jO]):Bx.le (.il true 219 37 m.length 3 (λ_=>m.length) (iO ((ja m w c i).A)) .none) (.il true 219 37 m.length 3 (λ_=>m.length) (iO ((ja m w c (i+1)).A)) .none)),.b 29 (.iD (by rw[jO]):Bx.le (.cells 252 [iP w,bP ((ja m w c i).bad)]) (.cells 252 [iP w,bP ((ja m w c (i+1)).bad)]))]))
     (λAT=>aa [ag 136 ((i:Int) != (c:Int)) (bg aA),af [ib (((ja m w c i).A) i c)] (uf _ aB)]<|.w (((ja m w c i).A i c).kf=0)
      (λwE=>by
       have jO:=It (m:=m) (w:=w) (c:=c) (i:=i) (.inr wE);exact aa [tB 140 (bc wE),iA ((i:Int)+1) aA]<|.e (ae [.b 34 (.iD (by rw[jO]):Bx.le (.il true 219 37 m.length 3 (λ_=>m.length) (iO ((ja m w c i).B)) .none) (.il true 219 37 m.length 3 (λ_=>m.length) (iO ((ja m w c (i+1)).B)) .none)),.b 31 (.iD (by rw[jO]):Bx.le (.il true 219 37 m.length 3 (λ_=>m.length) (iO ((ja m w c i).A)) .none) (.il true 219 37 m.length 3 (λ_=>m.length) (iO ((ja m w c (i+1)).A)) .none)),.b 29 (.iD (by rw[jO]):Bx.le (.cells 252 [iP w,bP ((ja m w c i).bad)]) (.cells 252 [iP w,bP ((ja m w c (i+1)).bad)]))]))
      (λwE=>by
       have jO:=Tq (m:=m) (w:=w) AT wE;exact aa [tB 140 (bg wE),.s (Sp.jE (IN m p w c i) 0 m.length aA (λk hk ql=>by
    have hI:=Tf hm w1 w2 c i k;have v1:=hI.a i k;have v2:=hI.a c k;have v3:=hI.b i k;have v4:=hI.b c k;have v5:=(ET hm w1 w2 c i).a i c;have v6:=JO w1 w2 ((ja m w c i).A i c) ((iZ m w c i k).A c k);have v7:=JO w1 w2 ((ja m w c i).A i c) ((iZ m w c i k).B c k);exact iF (aa [tT 145 ((k:Int)<m.length) aA,iX (i:Int) (m.length) aA,.a (aA:i<m.length),iX (i:Int) (m.length) aA,.a (aA:i<m.length),.a (aA:i<m.length),.a (aA:0<=((k:Int):Int)/\((k:Int):Int)<m.length),.a (aA:i<m.length),.a (aA:k<m.length),iX (c:Int) (m.length) aA,.a (aA:c<m.length),.a (aA:c<m.length),.a (aA:0<=((k:Int):Int)/\((k:Int):Int)<m.length),.a (aA:c<m.length),.a (aA:k<m.length),.cm (JD _ _ _ _ aB aB aA aA:qx 305 252 [iP w,bP ((iZ m w c i k).bad)] [iP w,bP ((iZ m w c i k).bad||(pf (((ja m w c i).A) i c) (((iZ m w c i k).A) c k) w))] [ib (((ja m w c i).A) i c),ib (((iZ m w c i k).A) c k)] (ib (mO (((ja m w c i).A) i c) (((iZ m w c i k).A) c k) w))),.cm (JE _ _ _ _ aB aB aA aA:qx 304 252 [iP w,bP ((iZ m w c i k).bad||(pf (((ja m w c i).A) i c) (((iZ m w c i k).A) c k) w))] [iP w,bP (((iZ m w c i k).bad||(pf (((ja m w c i).A) i c) (((iZ m w c i k).A) c k) w))||(q8 (((iZ m w c i k).A) i k) (mO (((ja m w c i).A) i c) (((iZ m w c i k).A) c k) w) w))] [ib (((iZ m w c i k).A) i k),ib (mO (((ja m w c i).A) i c) (((iZ m w c i k).A) c k) w)] (ib (uW (((iZ m w c i k).A) i k) (mO (((ja m w c i).A) i c) (((iZ m w c i k).A) c k) w) w))),.a (aA:i<m.length),.a (aA:0<=((k:Int):Int)/\((k:Int):Int)<m.length),.a (aA:i<m.length),.a (aA:k<m.length),iX (i:Int) (m.length) aA,.a (aA:i<m.length),iX (i:Int) (m.length) aA,.a (aA:i<m.length),.a (aA:i<m.length),.a (aA:0<=((k:Int):Int)/\((k:Int):Int)<m.length),.a (aA:i<m.length),.a (aA:k<m.length),iX (c:Int) (m.length) aA,.a (aA:c<m.length),.a (aA:c<m.length),.a (aA:0<=((k:Int):Int)/\((k:Int):Int)<m.length),.a (aA:c<m.length),.a (aA:k<m.length),.cm (JD _ _ _ _ aB aB aA aA:qx 305 252 [iP w,bP (((iZ m w c i k).bad||(pf (((ja m w c i).A) i c) (((iZ m w c i k).A) c k) w))||(q8 (((iZ m w c i k).A) i k) (mO (((ja m w c i).A) i c) (((iZ m w c i k).A) c k) w) w))] [iP w,bP ((((iZ m w c i k).bad||(pf (((ja m w c i).A) i c) (((iZ m w c i k).A) c k) w))||(q8 (((iZ m w c i k).A) i k) (mO (((ja m w c i).A) i c) (((iZ m w c i k).A) c k) w) w))||(pf (((ja m w c i).A) i c) (((iZ m w c i k).B) c k) w))] [ib (((ja m w c i).A) i c),ib (((iZ m w c i k).B) c k)] (ib (mO (((ja m w c i).A) i c) (((iZ m w c i k).B) c k) w))),.cm (JE _ _ _ _ aB aB aA aA:qx 304 252 [iP w,bP ((((iZ m w c i k).bad||(pf (((ja m w c i).A) i c) (((iZ m w c i k).A) c k) w))||(q8 (((iZ m w c i k).A) i k) (mO (((ja m w c i).A) i c) (((iZ m w c i k).A) c k) w) w))||(pf (((ja m w c i).A) i c) (((iZ m w c i k).B) c k) w))] [iP w,bP (((((iZ m w c i k).bad||(pf (((ja m w c i).A) i c) (((iZ m w c i k).A) c k) w))||(q8 (((iZ m w c i k).A) i k) (mO (((ja m w c i).A) i c) (((iZ m w c i k).A) c k) w) w))||(pf (((ja m w c i).A) i c) (((iZ m w c i k).B) c k) w))||(q8 (((iZ m w c i k).B) i k) (mO (((ja m w c i).A) i c) (((iZ m w c i k).B) c k) w) w))] [ib (((iZ m w c i k).B) i k),ib (mO (((ja m w c i).A) i c) (((iZ m w c i k).B) c k) w)] (ib (uW (((iZ m w c i k).B) i k) (mO (((ja m w c i).A) i c) (((iZ m w c i k).B) c k) w) w))),.a (aA:i<m.length),.a (aA:0<=((k:Int):Int)/\((k:Int):Int)<m.length),.a (aA:i<m.length),.a (aA:k<m.length),iA ((k:Int)+1) aA]<|.e (ae [.b 34 (zw rfl rfl rfl:Bx.le (.il true 219 37 m.length 3 (λ_=>m.length) (λk' i' j'=>if k'=i/\i'=k/\0<=j'/\j'<0+3 then(jt (uW (((iZ m w c i k).B) i k) (mO (((ja m w c i).A) i c) (((iZ m w c i k).B) c k) w) w)).getD (j'-0) .any else(iO ((iZ m w c i k).B)) k' i' j') .none) (.il true 219 37 m.length 3 (λ_=>m.length) (iO ((iZ m w c i (k+1)).B)) .none)),.b 31 (zw rfl rfl rfl:Bx.le (.il true 219 37 m.length 3 (λ_=>m.length) (λk' i' j'=>if k'=i/\i'=k/\0<=j'/\j'<0+3 then(jt (uW (((iZ m w c i k).A) i k) (mO (((ja m w c i).A) i c) (((iZ m w c i k).A) c k) w) w)).getD (j'-0) .any else(iO ((iZ m w c i k).A)) k' i' j') .none) (.il true 219 37 m.length 3 (λ_=>m.length) (iO ((iZ m w c i (k+1)).A)) .none)),.b 29 (.iD rfl:Bx.le (.cells 252 [iP w,bP (((((iZ m w c i k).bad||(pf (((ja m w c i).A) i c) (((iZ m w c i k).A) c k) w))||(q8 (((iZ m w c i k).A) i k) (mO (((ja m w c i).A) i c) (((iZ m w c i k).A) c k) w) w))||(pf (((ja m w c i).A) i c) (((iZ m w c i k).B) c k) w))||(q8 (((iZ m w c i k).B) i k) (mO (((ja m w c i).A) i c) (((iZ m w c i k).B) c k) w) w))]) (.cells 252 [iP w,bP ((iZ m w c i (k+1)).bad)]))])) aD)
  (λhk=>by
    exact iF (ae [tF 145 ((m.length:Int)<m.length) aA]) aD) aG:jA 26 f262 (IN m p w c i 0) (.exit 6) ⟨212,true,[(140,.e (bP true)),(139,.e (iP (Dy.kf (((ja m w c i).A) i c)))),(138,.e (ib (((ja m w c i).A) i c))),(124,.e (iP i)),(123,.e (iP m.length)),(10,.e (iP c)),(37,.e (iP c)),(36,.e (iP m.length)),(9,.e (bP false)),(8,.own 34),(7,.own 31),(6,.box 29 0),(1,.e (iP p))],[(34,.il true 219 37 m.length 3 (λ_=>m.length) (iO ((iZ m w c i m.length).B)) .none),(31,.il true 219 37 m.length 3 (λ_=>m.length) (iO ((iZ m w c i m.length).A)) .none),(29,.cells 252 [iP w,bP ((iZ m w c i m.length).bad)])]⟩) (ae [.b 34 (.iD rfl:Bx.le (.il true 219 37 m.length 3 (λ_=>m.length) (iO ((ja m w c i).B)) .none) (.il true 219 37 m.length 3 (λ_=>m.length) (iO ((iZ m w c i 0).B)) .none)),.b 31 (.iD rfl:Bx.le (.il true 219 37 m.length 3 (λ_=>m.length) (iO ((ja m w c i).A)) .none) (.il true 219 37 m.length 3 (λ_=>m.length) (iO ((iZ m w c i 0).A)) .none)),.b 29 (.iD rfl:Bx.le (.cells 252 [iP w,bP ((ja m w c i).bad)]) (.cells 252 [iP w,bP ((iZ m w c i 0).bad)]))]),
        iA ((i:Int)+1) aA]<|.e (ae [.b 34 (.iD (by rw[jO]):Bx.le (.il true 219 37 m.length 3 (λ_=>m.length) (iO ((iZ m w c i m.length).B)) .none) (.il true 219 37 m.length 3 (λ_=>m.length) (iO ((ja m w c (i+1)).B)) .none)),.b 31 (.iD (by rw[jO]):Bx.le (.il true 219 37 m.length 3 (λ_=>m.length) (iO ((iZ m w c i m.length).A)) .none) (.il true 219 37 m.length 3 (λ_=>m.length) (iO ((ja m w c (i+1)).A)) .none)),.b 29 (.iD (by rw[jO]):Bx.le (.cells 252 [iP w,bP ((iZ m w c i m.length).bad)]) (.cells 252 [iP w,bP ((ja m w c (i+1)).bad)]))])))) aD)
  (λhi=>by
    exact iF (ae [tF 125 ((m.length:Int)<m.length) aA]) aD) aG:jA 21 f262 (IP m p w c 0) (.exit 4) ⟨212,true,[(37,.e (iP c)),(36,.e (iP m.length)),(9,.e (bP false)),(8,.own 34),(7,.own 31),(6,.box 29 0),(1,.e (iP p))],[(34,.il true 219 37 m.length 3 (λ_=>m.length) (iO ((ja m w c m.length).B)) .none),(31,.il true 219 37 m.length 3 (λ_=>m.length) (iO ((ja m w c m.length).A)) .none),(29,.cells 252 [iP w,bP ((ja m w c m.length).bad)])]⟩) (ae [.b 34 (.iD rfl:Bx.le (.il true 219 37 m.length 3 (λ_=>m.length) (iO ((kE m w c m.length).B)) .none) (.il true 219 37 m.length 3 (λ_=>m.length) (iO ((ja m w c 0).B)) .none)),.b 31 (.iD rfl:Bx.le (.il true 219 37 m.length 3 (λ_=>m.length) (iO ((kE m w c m.length).A)) .none) (.il true 219 37 m.length 3 (λ_=>m.length) (iO ((ja m w c 0).A)) .none)),.b 29 (.iD rfl:Bx.le (.cells 252 [iP w,bP ((kE m w c m.length).bad)]) (.cells 252 [iP w,bP ((ja m w c 0).bad)]))]),
     iA ((c:Int)+1) aA]<|.e (ae [.b 34 (.iD rfl:Bx.le (.il true 219 37 m.length 3 (λ_=>m.length) (iO ((ja m w c m.length).B)) .none) (.il true 219 37 m.length 3 (λ_=>m.length) (iO ((jR m w (c+1)).B)) .none)),.b 31 (.iD rfl:Bx.le (.il true 219 37 m.length 3 (λ_=>m.length) (iO ((ja m w c m.length).A)) .none) (.il true 219 37 m.length 3 (λ_=>m.length) (iO ((jR m w (c+1)).A)) .none)),.b 29 (.iD rfl:Bx.le (.cells 252 [iP w,bP ((ja m w c m.length).bad)]) (.cells 252 [iP w,bP ((jR m w (c+1)).bad)]))])) aD)
  (λhc=>by
    exact iF (ae [tT 38 ((N:Int)<m.length) aA,.c (Nd (jR m w N).A m.length N aA n8 (CH hm w1 w2 N).a),ah 46 (((jR m w N).A (mH m w N) N).kf != 0) (bc (aii pM))]) aD) aG:jA 7 f262 (Ul m p w N 0) (.exit 0) ⟨212,true,[(9,.e (bP true)),(8,.own 34),(6,.box 29 0),(1,.e (iP p))],[(34,.il true 219 37 m.length 3 (λ_=>m.length) (iO ((jR m w N).B)) .none),(29,.cells 252 [iP w,bP ((jR m w N).bad)])]⟩) (ae [.b 34 (.iD rfl:Bx.le (.il true 219 37 m.length 3 (λ_=>m.length) (iO qP) .none) (.il true 219 37 m.length 3 (λ_=>m.length) (iO ((jR m w 0).B)) .none)),.b 31 (.iD rfl:Bx.le (.il true 219 37 m.length 3 (λ_=>m.length) (iO (q9 m)) .none) (.il true 219 37 m.length 3 (λ_=>m.length) (iO ((jR m w 0).A)) .none)),.b 29 (.iD rfl:Bx.le (.cells 252 [iP w,bP false]) (.cells 252 [iP w,bP ((jR m w 0).bad)]))])]<|rR (.ik [.v (.slice none 0 0),bP false]) (.refl _:E.le (.ik [.v (.slice none 0 0),bP false]) (.ik [.v (.slice none 0 0),bP false]))) 
def aeN(m:List (List Dy))(hm:rA m)(p:Nat)(iu:8<=p)(ie:p<=512)(w:Nat)(hw:qN p=w)(w1:8<=w)(w2:w<=512)(tC:∀ c,c<m.length->vR m.length c (jR m w c)=false)(hb:(jR m w m.length).bad=true):gW 262 [lO m,iP p] (.ik [.v (.slice none 0 0),bP false]):=by
 have n1:=hm.n1;have n8:=hm.n8;exact aj call262 func262 (aa [.c (Fa (p:Int)),ag 19 (kF (p:Int)) (oG.2 ⟨aA,aA⟩),.c (IS m aB),af [iP p] (hw▸IQ _ aA),.cr (IK _ hm:vY 300 [lO m] true 219 37 m.length 3 (λ_=>m.length) (iO (q9 m))),.cr (IT _ aA aA:vY 301 [iP m.length] true 219 37 m.length 3 (λ_=>m.length) (iO qP)),.s (Nc m p w hm n1 n8 w1 w2 tC:jA 7 f262 (Fe m p w 0) (.exit 0) ⟨212,true,[(9,.e (bP false)),(8,.own 34),(6,.box 29 0),(1,.e (iP p))],[(34,.il true 219 37 m.length 3 (λ_=>m.length) (iO ((jR m w m.length).B)) .none),(29,.cells 252 [iP w,bP ((jR m w m.length).bad)])]⟩) (ae [.b 34 (.iD rfl:Bx.le (.il true 219 37 m.length 3 (λ_=>m.length) (iO qP) .none) (.il true 219 37 m.length 3 (λ_=>m.length) (iO ((jR m w 0).B)) .none)),.b 31 (.iD rfl:Bx.le (.il true 219 37 m.length 3 (λ_=>m.length) (iO (q9 m)) .none) (.il true 219 37 m.length 3 (λ_=>m.length) (iO ((jR m w 0).A)) .none)),.b 29 (.iD rfl:Bx.le (.cells 252 [iP w,bP false]) (.cells 252 [iP w,bP ((jR m w 0).bad)]))]),ag 205 ((jR m w m.length).bad) hb]<|rR (.ik [.v (.slice none 0 0),bP false]) (.refl _:E.le (.ik [.v (.slice none 0 0),bP false]) (.ik [.v (.slice none 0 0),bP false]))) 
def aeO(m:List (List Dy))(hm:rA m)(p:Nat)(iu:8<=p)(ie:p<=512)(w:Nat)(hw:qN p=w)(w1:8<=w)(w2:w<=512)(tC:∀ c,c<m.length->vR m.length c (jR m w c)=false)(hb:(jR m w m.length).bad=false)(K I:Nat)(hK:K<m.length)(hI:I<m.length)(lg:∀ k,k<K->∀ i,i<m.length->nH ((jR m w m.length).B k i) p=0)(mF:∀ i,i<I->nH ((jR m w m.length).B K i) p=0)(pM:nH ((jR m w m.length).B K I) p≠0):gW 262 [lO m,iP p] (.ik [.v (.slice none 0 0),bP false]):=by
 have n1:=hm.n1;have n8:=hm.n8;exact aj call262 func262 (aa [.c (Fa (p:Int)),ag 19 (kF (p:Int)) (oG.2 ⟨aA,aA⟩),.c (IS m aB),af [iP p] (hw▸IQ _ aA),.cr (IK _ hm:vY 300 [lO m] true 219 37 m.length 3 (λ_=>m.length) (iO (q9 m))),.cr (IT _ aA aA:vY 301 [iP m.length] true 219 37 m.length 3 (λ_=>m.length) (iO qP)),.s (Nc m p w hm n1 n8 w1 w2 tC:jA 7 f262 (Fe m p w 0) (.exit 0) ⟨212,true,[(9,.e (bP false)),(8,.own 34),(6,.box 29 0),(1,.e (iP p))],[(34,.il true 219 37 m.length 3 (λ_=>m.length) (iO ((jR m w m.length).B)) .none),(29,.cells 252 [iP w,bP ((jR m w m.length).bad)])]⟩) (ae [.b 34 (.iD rfl:Bx.le (.il true 219 37 m.length 3 (λ_=>m.length) (iO qP) .none) (.il true 219 37 m.length 3 (λ_=>m.length) (iO ((jR m w 0).B)) .none)),.b 31 (.iD rfl:Bx.le (.il true 219 37 m.length 3 (λ_=>m.length) (iO (q9 m)) .none) (.il true 219 37 m.length 3 (λ_=>m.length) (iO ((jR m w 0).A)) .none)),.b 29 (.iD rfl:Bx.le (.cells 252 [iP w,bP false]) (.cells 252 [iP w,bP ((jR m w 0).bad)]))]),ah 205 ((jR m w m.length).bad) hb,.c (aeR (jR m w m.length).B m.length p n8 (CH hm w1 w2 _).b iu ie K I hK hI lg mF pM)]<|rR (.ik [.v (.slice none 0 0),bP false]) (.refl _:E.le (.ik [.v (.slice none 0 0),bP false]) (.ik [.v (.slice none 0 0),bP false]))) 
def aeQ(m:List (List Dy))(hm:rA m)(p:Nat)(iu:8<=p)(ie:p<=512)(w:Nat)(hw:qN p=w)(w1:8<=w)(w2:w<=512)(tC:∀ c,c<m.length->vR m.length c (jR m w c)=false)(hb:(jR m w m.length).bad=false)(lg:∀ k,k<m.length->∀ i,i<m.length->nH ((jR m w m.length).B k i) p=0):gW 262 [lO m,iP p] (.ik [lO (xN (jR m w m.length).B m.length p),bP true]):=by
 have n1:=hm.n1;have n8:=hm.n8;exact aj call262 func262 (aa [.c (Fa (p:Int)),ag 19 (kF (p:Int)) (oG.2 ⟨aA,aA⟩),.c (IS m aB),af [iP p] (hw▸IQ _ aA),.cr (IK _ hm:vY 300 [lO m] true 219 37 m.length 3 (λ_=>m.length) (iO (q9 m))),.cr (IT _ aA aA:vY 301 [iP m.length] true 219 37 m.length 3 (λ_=>m.length) (iO qP)),.s (Nc m p w hm n1 n8 w1 w2 tC:jA 7 f262 (Fe m p w 0) (.exit 0) ⟨212,true,[(9,.e (bP false)),(8,.own 34),(6,.box 29 0),(1,.e (iP p))],[(34,.il true 219 37 m.length 3 (λ_=>m.length) (iO ((jR m w m.length).B)) .none),(29,.cells 252 [iP w,bP ((jR m w m.length).bad)])]⟩) (ae [.b 34 (.iD rfl:Bx.le (.il true 219 37 m.length 3 (λ_=>m.length) (iO qP) .none) (.il true 219 37 m.length 3 (λ_=>m.length) (iO ((jR m w 0).B)) .none)),.b 31 (.iD rfl:Bx.le (.il true 219 37 m.length 3 (λ_=>m.length) (iO (q9 m)) .none) (.il true 219 37 m.length 3 (λ_=>m.length) (iO ((jR m w 0).A)) .none)),.b 29 (.iD rfl:Bx.le (.cells 252 [iP w,bP false]) (.cells 252 [iP w,bP ((jR m w 0).bad)]))]),ah 205 ((jR m w m.length).bad) hb,.c (aeS (jR m w m.length).B m.length p n8 (CH hm w1 w2 _).b iu ie lg)]<|rR (.ik [lO (xN (jR m w m.length).B m.length p),bP true]) (.refl _:E.le (.ik [lO (xN (jR m w m.length).B m.length p),bP true]) (.ik [lO (xN (jR m w m.length).B m.length p),bP true]))) 
def Um(m:List (List Dy))(hm:rA m)(p:Nat)(iu:8<=p)(ie:p<=512):gW 262 [lO m,iP p] (agL (tG m m.length p)):=by
 obtain⟨w1,w2⟩:=afF iu ie;by_cases hs:∃ c,c<m.length/\vR m.length c (jR m (qN p) c)=true
 .obtain ⟨N,q1,q2,q3⟩:=tK hs;have e:tG m m.length p=none:=bj (dT.2 ⟨N,bJ.2 q1,q2⟩);rw[e];exact aeP m hm p iu ie _ rfl w1 w2 N q1 q3 q2
 .have tC:∀ c,c<m.length->vR m.length c (jR m (qN p) c)=false:=λc hc=>aZ λq=>hs ⟨c,hc,q⟩
  have e0:((List.range m.length).any λc=>vR m.length c (wh m.length (qN p) (xC m) c))=false:=cw.2 λc hc=>by
   have:=tC c (bJ.1 hc);unfold jR at this;rw[this];decide
  unfold tG;rw[e0,bh aC];by_cases hb:(jR m (qN p) m.length).bad=true
  .rw [show(wh m.length (qN p) (xC m) m.length).bad=true from hb,bj rfl];exact aeN m hm p iu ie _ rfl w1 w2 tC hb
  .have hb:=aZ hb;rw[show(wh m.length (qN p) (xC m) m.length).bad=false from hb,bh aC];by_cases ho:I9 (wh m.length (qN p) (xC m) m.length).B m.length p=true
   .rw [bj ho];refine aeQ m hm p iu ie _ rfl w1 w2 tC hb λk hk i hi=>?_
    have:=bG.1 ho k (bJ.2 hk);exact cK (bG.1 this i (bJ.2 hi))
   .rw [bh ho];obtain⟨K,I,g1,g2,g3,g4,g5⟩:=agd ho;exact aeO m hm p iu ie _ rfl w1 w2 tC hb K I g1 g2 g3 g4 g5
abbrev qI(a:List (List Iv))(b:List (List Iv))(p):=λi j=>mE (λq=>(a.getD i []).getD q gZ) (λq=>(b.getD q []).getD j gZ) p ((a.getD i []).length-1)
abbrev Kg(a:List (List Iv))(x)(b:List (List Iv))(k)(p):=mE (λq=>(a.getD x []).getD q gZ) (λq=>(b.getD q []).getD k gZ) p ((a.getD x []).length-1)
def QO(r:List Iv)(g:FuncId)(cap:List E)(Y:Nat->Iv)(p:Nat)(c:Nat):PS:=⟨35,true,[(8,.e (iP ((c+1:Nat):Int))),(7,.box 7 0),(6,.box 6 0),(0,.e (hH r)),(1,.e (.fn g cap)),(2,.e (iP p))],[(7,.cells 41 (iQ (mE (λq=>r.getD q gZ) Y p c))),(6,.cells 41 aq)]⟩
def U4(a b:List (List Iv))(p:Nat)(x:Nat):PS:=⟨66,true,[(37,.e (iP x)),(36,.e (iP a.length)),(8,.own 34),(4,.box 4 0),(0,.e (iW a)),(2,.e (iP p))],[(34,.il true 23 41 a.length 7 (jx (jc a.length (λ_=>(b.getD 0 []).length) (qI a b p) x 0)) (kp (jc a.length (λ_=>(b.getD 0 []).length) (qI a b p) x 0)) .none),(4,.cells 49 [iW b])]⟩
def U5(a b:List (List Iv))(p:Nat)(x:Nat)(k:Nat):PS:=⟨66,true,[(44,.e (iP k)),(43,.e (iP ((b.getD 0 []).length:Int))),(9,.e (iP x)),(37,.e (iP x)),(36,.e (iP a.length)),(8,.own 34),(4,.box 4 0),(0,.e (iW a)),(2,.e (iP p))],[(34,.il true 23 41 a.length 7 (jx (jc a.length (λ_=>(b.getD 0 []).length) (qI a b p) x k)) (kp (jc a.length (λ_=>(b.getD 0 []).length) (qI a b p) x k)) .none),(4,.cells 49 [iW b])]⟩
def QP(r:List Iv)(g:FuncId)(cap:List E)(Y:Nat->Iv)(p:Nat)(hl:r.length<=1000)(h0:0<r.length)(hr:∀ i,i<r.length->(r.getD i gZ).ic)(hy:∀ i,(Y i).ic)(hg:∀ i,i<r.length->gW g (iP (i:Int)::cap) (ix (Y i)))(iu:8<=p)(ie:p<=512):gW 165 [hH r,.fn g cap,iP p] (ix (mE (λq=>r.getD q gZ) Y p (r.length-1))):=by
 have w1:=hr 0 h0;have w2:=hy 0;exact aj call165 func165 (ae [iX 0 (r.length) aA,.c (hg 0 aA:gW g ((iP 0)::cap) _),.c (uE (r.getD 0 gZ) (Y 0) p aB aB aA aA),.s (Sp.jE (QO r g cap Y p) 0 (r.length-1) aA (λc hc SC=>by
    have w1:=hr (c+1) aA;have w2:=hy (c+1);have w3:=K9 (λq=>r.getD q gZ) Y (aA:1<=p) aA c;have w4:=nQ (r.getD (c+1) gZ) (Y (c+1)) (aA:1<=p) aA;exact iF (aa [tT 19 (((c+1:Nat):Int)<r.length) aA,iX ((c+1:Nat):Int) (r.length) aA,.c (hg (c+1) aA:gW g ((iP ((c+1:Nat):Int))::cap) _),.c (uE (r.getD (c+1) gZ) (Y (c+1)) p aB aB aA aA),.c (yN (mE (λq=>r.getD q gZ) Y p c) (kJ (r.getD (c+1) gZ) (Y (c+1)) p) p aB aB aA aA),iA (((c+1:Nat):Int)+1) aA]<|.e (ae [.b 7 (.iD rfl:Bx.le (.cells 41 (iQ (kU (mE (λq=>r.getD q gZ) Y p c) (kJ (r.getD (c+1) gZ) (Y (c+1)) p) p))) (.cells 41 (iQ (mE (λq=>r.getD q gZ) Y p (c+1)))))])) aD)
  (λhc=>by
    exact iF (ae [tF 19 ((((r.length-1)+1:Nat):Int)<r.length) aA]) aD) aG:jA 3 f165 (QO r g cap Y p 0) (.exit 0) ⟨35,true,[(7,.box 7 0),(6,.box 6 0)],[(7,.cells 41 (iQ (mE (λq=>r.getD q gZ) Y p (r.length-1)))),(6,.cells 41 aq)]⟩) (ae [.o 8 (al 1 ((0+1:Nat):Int) aM),.b 7 (.iD rfl:Bx.le (.cells 41 (iQ (kJ (r.getD 0 gZ) (Y 0) p))) (.cells 41 (iQ (mE (λq=>r.getD q gZ) Y p 0))))])]) 
def afJ(q j:Nat)(b:List (List Iv))(hq:q<b.length)(hj:j<(b.getD q []).length):gW 166 [iP q,(.jD 1 λj_=>[iW b].getD j_ .any),(.jD 1 λj_=>[iP j].getD j_ .any)] (ix ((b.getD q []).getD j gZ)):=
 aj call166 func166 (ae [iX (q:Int) (b.length) aA,iX (j:Int) ((b.getD q []).length) aA]) 
def UO(a b:List (List Iv))(p:Nat)(n k c:Nat)(ga:mQ a n k)(gb:mQ b k c)(iu:8<=p)(ie:p<=512):gW 97 [iW a,iW b,iP p] (.ik [iW (wP a b p),iP 0]):=by
 have ra:=ga.il;have rb:=gb.il;have n1:=ga.n1;have n8:=ga.n8;have kk1:=ga.k1;have kk8:=ga.k8;have KR:=gb.k8;have la:=ga.pP (aA:0<n);have lb:=gb.pP (aA:0<k);have ew:qv a.length (λ_=>(b.getD 0 []).length) (λi j=>mE (λq=>(a.getD i []).getD q gZ) (λq=>(b.getD q []).getD j gZ) p ((a.getD i []).length-1))=wP a b p:=by
  rw[<-ajM (n:=n) (k:=k-1) (c:=c) (a:=a) (b:=b) (p:=p) ra (λi hi=>by rw[ga.pP hi];omega) aA lb,ra,lb];unfold qv;apply dx;intro i hi;have e:=ga.pP (bJ.1 hi);simp only[e]
 exact aj call97 func97 (aa [af [iW a] (Bs _ _ _ aB),af [iW b] (Bs _ _ _ aB),af [iP p] (I4 _),ag 22 (kF (p:Int)) (oG.2 ⟨aA,aA⟩),iX 0 (a.length) aA,ah 31 (((a.getD 0 []).length:Int) != (b.length:Int)) (r8 aA),.a (aA:0<=((a.length:Int):Int)/\((a.length:Int):Int)<=((a.length:Int):Int)),.a (aA:((24:Nat):Int)*(a.length:Int)<=281474976710656/\((a.length:Int):Int)<=9223372036854775807),.s (Sp.jE (U4 a b p) 0 a.length aA (λx hx nF=>by
    have lax:=ga.pP (aA:x<n);exact iF (aa [tT 38 ((x:Int)<a.length) aA,iX 0 (b.length) aA,.s (Sp.jE (U5 a b p x) 0 ((b.getD 0 []).length) aA (λk hk ql=>by
    have hle:jx (jc a.length (λ_=>(b.getD 0 []).length) (λi j=>mE (λq=>(a.getD i []).getD q gZ) (λq=>(b.getD q []).getD j gZ) p ((a.getD i []).length-1)) x k) x=k:=IL aA ;have h1:=nS (mE (λq=>(a.getD x []).getD q gZ) (λq=>(b.getD q []).getD k gZ) p ((a.getD x []).length-1));exact iF (aa [tT 45 ((k:Int)<((b.getD 0 []).length:Int)) aA,iX (x:Int) (a.length) aA,.a (aA:x<a.length),iX (x:Int) (a.length) aA,.c (QP _ 166 _ (λq=>(b.getD q []).getD k gZ) p aA aA (λq hq=>ga.xU aA (by rw[lax]at hq;exact hq)) (λq=>elV gb q k) (λq hq=>afJ q k b aA (by rw[gb.pP aA];omega)) aA aA:gW 165 [hH (a.getD x []),.fn 166 [(.jD 1 λj_=>[iW b].getD j_ .any),(.jD 1 λj_=>[iP k].getD j_ .any)],iP p] _),.o 60 (.e (kT _):ai (.sl true 1 7 λi_ j_=>(iQ (Kg a x b k p)).getD (i_*7+j_) (.v (.bool false))) (hH [Kg a x b k p])),.a (aA:x<a.length),.a (aA:((jx (jc a.length (λ_=>(b.getD 0 []).length) (λi j=>mE (λq=>(a.getD i []).getD q gZ) (λq=>(b.getD q []).getD j gZ) p ((a.getD i []).length-1)) x k)) x+[mE (λq=>(a.getD x []).getD q gZ) (λq=>(b.getD q []).getD k gZ) p ((a.getD x []).length-1)].length)*88<=140737488355328),
     iX (x:Int) (a.length) aA,.a (rfl:x=x),.a (rfl:x=x),.a (aA:x<a.length),iA ((k:Int)+1) aA]<|.e (ae [.b 34 (F1 rfl aA aA rfl:Bx.le (.il true 23 41 a.length 7 (λq=>if q=x then(jx (jc a.length (λ_=>(b.getD 0 []).length) (qI a b p) x k)) q+[Kg a x b k p].length else(jx (jc a.length (λ_=>(b.getD 0 []).length) (qI a b p) x k)) q) (λq i j=>if q=x then(if i<(jx (jc a.length (λ_=>(b.getD 0 []).length) (qI a b p) x k)) q then(kp (jc a.length (λ_=>(b.getD 0 []).length) (qI a b p) x k)) q i j else(E.iS (hH [Kg a x b k p])) (i-(jx (jc a.length (λ_=>(b.getD 0 []).length) (qI a b p) x k)) q) j)else(kp (jc a.length (λ_=>(b.getD 0 []).length) (qI a b p) x k)) q i j) .none) (.il true 23 41 a.length 7 (jx (jc a.length (λ_=>(b.getD 0 []).length) (qI a b p) x (k+1))) (kp (jc a.length (λ_=>(b.getD 0 []).length) (qI a b p) x (k+1))) .none))])) aD)
  (λhk=>by
    exact iF (ae [tF 45 (((b.getD 0 []).length:Int)<((b.getD 0 []).length:Int)) aA]) aD) aG:jA 12 Tryz.f97 (U5 a b p x 0) (.exit 3) ⟨66,true,[(37,.e (iP x)),(36,.e (iP a.length)),(8,.own 34),(4,.box 4 0),(0,.e (iW a)),(2,.e (iP p))],[(34,.il true 23 41 a.length 7 (jx (jc a.length (λ_=>(b.getD 0 []).length) (qI a b p) x ((b.getD 0 []).length))) (kp (jc a.length (λ_=>(b.getD 0 []).length) (qI a b p) x ((b.getD 0 []).length))) .none),(4,.cells 49 [iW b])]⟩) .nil,
     iA ((x:Int)+1) aA]<|.e (ae [.b 34 (JK rfl:Bx.le (.il true 23 41 a.length 7 (jx (jc a.length (λ_=>(b.getD 0 []).length) (qI a b p) x ((b.getD 0 []).length))) (kp (jc a.length (λ_=>(b.getD 0 []).length) (qI a b p) x ((b.getD 0 []).length))) .none) (.il true 23 41 a.length 7 (jx (jc a.length (λ_=>(b.getD 0 []).length) (qI a b p) (x+1) 0)) (kp (jc a.length (λ_=>(b.getD 0 []).length) (qI a b p) (x+1) 0)) .none))])) aD)
  (λhx=>by
    exact iF (ae [tF 38 ((a.length:Int)<a.length) aA]) aD) aG:jA 9 Tryz.f97 (U4 a b p 0) (.exit 1) ⟨66,true,[(8,.own 34)],[(34,.il true 23 41 a.length 7 (jx (jc a.length (λ_=>(b.getD 0 []).length) (qI a b p) a.length 0)) (kp (jc a.length (λ_=>(b.getD 0 []).length) (qI a b p) a.length 0)) .none)]⟩) (ae [.b 34 (JJ rfl:Bx.le (.il true 23 41 a.length 7 (λ_=>0) (λ_ _ _=>.any) .none) (.il true 23 41 a.length 7 (jx (jc a.length (λ_=>(b.getD 0 []).length) (qI a b p) 0 0)) (kp (jc a.length (λ_=>(b.getD 0 []).length) (qI a b p) 0 0)) .none))])]<|rR (.ik [iW (wP a b p),iP 0]) (by
      rw[<-ew,<-GD];exact .ik (.cons (Fk (GF _ _ _ _ _).symm) (.cons (.refl _) .nil)):E.le (.ik [(.sl true a.length 1 λk_ _=>.sl true ((jx (jc a.length (λ_=>(b.getD 0 []).length) (λi j=>mE (λq=>(a.getD i []).getD q gZ) (λq=>(b.getD q []).getD j gZ) p ((a.getD i []).length-1)) a.length 0)) k_) 7 ((kp (jc a.length (λ_=>(b.getD 0 []).length) (λi j=>mE (λq=>(a.getD i []).getD q gZ) (λq=>(b.getD q []).getD j gZ) p ((a.getD i []).length-1)) a.length 0)) k_)),iP 0]) (.ik [iW (wP a b p),iP 0]))) 
end Go.Proofs.YtjkmahljfblobaaGreatDoor
