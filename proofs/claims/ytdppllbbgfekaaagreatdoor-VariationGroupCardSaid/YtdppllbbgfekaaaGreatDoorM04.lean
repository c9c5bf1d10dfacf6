/- Texts: Uy Uz Va Qr Qm Di Qt R1 Qb Qc Dj Qd Qe Qf Qz Qg Qh Qi Px Vb Vc Dp Vd No Nn Mk Qj Ve Vf Vg Qk Vh Vi Ql Vj Vk Qp Qs Qv Qu Qw Qx Yd Iz Mo Ma Mb Mc. -/
import Derived.Test.YtdppllbbgfekaaaGreatDoorM03
set_option linter.unusedSimpArgs false
set_option linter.unusedVariables false
namespace Go.Proofs.YtdppllbbgfekaaaGreatDoor
open Go.RowKit Fp Pu
def ivFour1 (x y : Iv) (p : Nat) (gd gu : FuncId) (DD : Dy → Dy → Bool → Dy) (EE : Dy → Dy → Bool → Int) : PS := ⟨96, true, [(41, .e (iP 0)), (40, .e (.agg (ivL (Iv.mk x.lo y.lo x.lo.neg) ++ [(slP (limbs x.lo.m)), (iP x.lo.e)] ++ ivL (Iv.mk y.hi x.hi y.lo.neg) ++ [(slP (limbs y.lo.m)), (iP y.lo.e)] ++ dyL x.hi ++ dyL y.hi))), (12, .box 12 0), (10, .box 10 0), (2, .e (iP p)), (3, .e (.fn gd [])), (4, .e (.fn gu []))], [(12, .cells 28 (ivL (Iv.mk (DD x.lo y.lo false) (DD x.lo y.lo true) false))), (10, .cells 28 [(bP false), (.v (.slice none 0 0)), (iP 0), (bP false), (.v (.slice none 0 0)), (iP 0), (bP false)])]⟩
def ivFour2 (x y : Iv) (p : Nat) (gd gu : FuncId) (DD : Dy → Dy → Bool → Dy) (EE : Dy → Dy → Bool → Int) : PS := ⟨96, true, [(41, .e (iP (0 + 1))), (40, .e (.agg (ivL (Iv.mk x.lo y.lo x.lo.neg) ++ [(slP (limbs x.lo.m)), (iP x.lo.e)] ++ ivL (Iv.mk y.hi x.hi y.lo.neg) ++ [(slP (limbs y.lo.m)), (iP y.lo.e)] ++ dyL x.hi ++ dyL y.hi))), (12, .box 12 0), (10, .box 10 0), (2, .e (iP p)), (3, .e (.fn gd [])), (4, .e (.fn gu []))], [(12, .cells 28 (ivL (Iv.mk (minD (DD x.lo y.lo false) (DD x.lo y.hi false)) (maxD (DD x.lo y.lo true) (DD x.lo y.hi true)) false))), (10, .cells 28 [(bP false), (.v (.slice none 0 0)), (iP 0), (bP false), (.v (.slice none 0 0)), (iP 0), (bP false)])]⟩
def ivFour3 (x y : Iv) (p : Nat) (gd gu : FuncId) (DD : Dy → Dy → Bool → Dy) (EE : Dy → Dy → Bool → Int) : PS := ⟨96, true, [(41, .e (iP ((0 + 1) + 1))), (40, .e (.agg (ivL (Iv.mk x.lo y.lo x.lo.neg) ++ [(slP (limbs x.lo.m)), (iP x.lo.e)] ++ ivL (Iv.mk y.hi x.hi y.lo.neg) ++ [(slP (limbs y.lo.m)), (iP y.lo.e)] ++ dyL x.hi ++ dyL y.hi))), (12, .box 12 0), (10, .box 10 0), (2, .e (iP p)), (3, .e (.fn gd [])), (4, .e (.fn gu []))], [(12, .cells 28 (ivL (Iv.mk (minD (minD (DD x.lo y.lo false) (DD x.lo y.hi false)) (DD x.hi y.lo false)) (maxD (maxD (DD x.lo y.lo true) (DD x.lo y.hi true)) (DD x.hi y.lo true)) false))), (10, .cells 28 [(bP false), (.v (.slice none 0 0)), (iP 0), (bP false), (.v (.slice none 0 0)), (iP 0), (bP false)])]⟩
def ivFour4 (x y : Iv) (p : Nat) (gd gu : FuncId) (DD : Dy → Dy → Bool → Dy) (EE : Dy → Dy → Bool → Int) : PS := ⟨96, true, [(41, .e (iP (((0 + 1) + 1) + 1))), (40, .e (.agg (ivL (Iv.mk x.lo y.lo x.lo.neg) ++ [(slP (limbs x.lo.m)), (iP x.lo.e)] ++ ivL (Iv.mk y.hi x.hi y.lo.neg) ++ [(slP (limbs y.lo.m)), (iP y.lo.e)] ++ dyL x.hi ++ dyL y.hi))), (12, .box 12 0), (10, .box 10 0), (2, .e (iP p)), (3, .e (.fn gd [])), (4, .e (.fn gu []))], [(12, .cells 28 (ivL (Iv.mk (minD (minD (minD (DD x.lo y.lo false) (DD x.lo y.hi false)) (DD x.hi y.lo false)) (DD x.hi y.hi false)) (maxD (maxD (maxD (DD x.lo y.lo true) (DD x.lo y.hi true)) (DD x.hi y.lo true)) (DD x.hi y.hi true)) false))), (10, .cells 28 [(bP false), (.v (.slice none 0 0)), (iP 0), (bP false), (.v (.slice none 0 0)), (iP 0), (bP false)])]⟩
theorem ivFour_pc (x y : Iv) (p : Nat) (gd gu : FuncId) (DD : Dy → Dy → Bool → Dy) (EE : Dy → Dy → Bool → Int) (hd : ∀ a b, (a = x.lo ∨ a = x.hi) → (b = y.lo ∨ b = y.hi) → PCt gd [dyP a, dyP b, iP (p : Int)] (.tup [dyP (DD a b false), iP (EE a b false)]))
  (hu : ∀ a b, (a = x.lo ∨ a = x.hi) → (b = y.lo ∨ b = y.hi) → PCt gu [dyP a, dyP b, iP (p : Int)] (.tup [dyP (DD a b true), iP (EE a b true)])) (hv : ∀ a b up, (DD a b up).Valid) : PCt 128 [(ivP x), (ivP y), (iP p), (.fn gd []), (.fn gu [])] (ivP (fourI DD EE x y)) := by
 exact tr true Tryz.call128 Tryz.func128 (chain [.u 5, tB 42 (by decide : (decide ((0 : Int) < 4)) = true)] <| .w ((EE x.lo y.lo false) = 0)
  (fun k1 => .w ((EE x.lo y.lo true) = 0)
   (fun k2 => chain [.j 3 (ivFour1 x y p gd gu DD EE)
   (chain [iX (0) (4) (by omega), iX (0) (2) (by omega), iX (1) (2) (by omega), .c (hd _ _ (.inl rfl) (.inl rfl) : PCt gd ((dyP x.lo) :: (dyP y.lo) :: (iP p) :: []) _), iX (0) (2) (by omega), iX (1) (2) (by omega),
    .c (hu _ _ (.inl rfl) (.inl rfl) : PCt gu ((dyP x.lo) :: (dyP y.lo) :: (iP p) :: []) _), tB 66 (bne_eq_false_iff_eq.2 k1), tB 69 (bne_eq_false_iff_eq.2 k2), tB 73 (by decide : ((0 : Int) == 0) = true),
    tB 84 (by decide : ((0 : Int) == 0) = true)] <| .nil),
    r64 (0 + 1) (by omega), tB 42 (by decide : (decide (((0 + 1) : Int) < 4)) = true)] <| .w ((EE x.lo y.hi false) = 0)
    (fun k3 => .w ((EE x.lo y.hi true) = 0)
     (fun k4 => chain [.j 3 (ivFour2 x y p gd gu DD EE)
   (chain [iX ((0 + 1)) (4) (by omega), iX (0) (2) (by omega), iX (1) (2) (by omega), .c (hd _ _ (.inl rfl) (.inr rfl) : PCt gd ((dyP x.lo) :: (dyP y.hi) :: (iP p) :: []) _), iX (0) (2) (by omega), iX (1) (2) (by omega),
    .c (hu _ _ (.inl rfl) (.inr rfl) : PCt gu ((dyP x.lo) :: (dyP y.hi) :: (iP p) :: []) _), tB 66 (bne_eq_false_iff_eq.2 k3), tB 69 (bne_eq_false_iff_eq.2 k4), tB 73 (by decide : (((0 + 1) : Int) == 0) = false),
    .c (dyCmp_pc _ _ (hv _ _ _) (hv _ _ _) : PCt 82 [(dyP (DD x.lo y.hi false)), (dyP (DD x.lo y.lo false))] _)] <| .w ((cmpD (DD x.lo y.hi false) (DD x.lo y.lo false)) < 0)
    (fun m1 => chain [tB 79 (decide_eq_true m1), tB 84 (by decide : (((0 + 1) : Int) == 0) = false), .c (dyCmp_pc _ _ (hv _ _ _) (hv _ _ _) : PCt 82 [(dyP (DD x.lo y.hi true)), (dyP (DD x.lo y.lo true))] _)] <| .w (0 < (cmpD (DD x.lo y.hi true) (DD x.lo y.lo true)))
     (fun m2 => chain [tB 90 (decide_eq_true m2)] <| .e (chain [.b 12 (.of_eq (by rw [show minD (DD x.lo y.lo false) (DD x.lo y.hi false) = (DD x.lo y.hi false) from if_pos m1, show maxD (DD x.lo y.lo true) (DD x.lo y.hi true) = (DD x.lo y.hi true) from if_pos m2]) : Bx.le (.cells 28 (ivL (Iv.mk (DD x.lo y.hi false) (DD x.lo y.hi true) false))) (.cells 28 (ivL (Iv.mk (minD (DD x.lo y.lo false) (DD x.lo y.hi false)) (maxD (DD x.lo y.lo true) (DD x.lo y.hi true)) false))))] <| .nil))
     (fun m2 => chain [tB 90 (decide_eq_false m2)] <| .e (chain [.b 12 (.of_eq (by rw [show minD (DD x.lo y.lo false) (DD x.lo y.hi false) = (DD x.lo y.hi false) from if_pos m1, show maxD (DD x.lo y.lo true) (DD x.lo y.hi true) = (DD x.lo y.lo true) from if_neg m2]) : Bx.le (.cells 28 (ivL (Iv.mk (DD x.lo y.hi false) (DD x.lo y.lo true) false))) (.cells 28 (ivL (Iv.mk (minD (DD x.lo y.lo false) (DD x.lo y.hi false)) (maxD (DD x.lo y.lo true) (DD x.lo y.hi true)) false))))] <| .nil)))
    (fun m1 => chain [tB 79 (decide_eq_false m1), tB 84 (by decide : (((0 + 1) : Int) == 0) = false), .c (dyCmp_pc _ _ (hv _ _ _) (hv _ _ _) : PCt 82 [(dyP (DD x.lo y.hi true)), (dyP (DD x.lo y.lo true))] _)] <| .w (0 < (cmpD (DD x.lo y.hi true) (DD x.lo y.lo true)))
     (fun m2 => chain [tB 90 (decide_eq_true m2)] <| .e (chain [.b 12 (.of_eq (by rw [show minD (DD x.lo y.lo false) (DD x.lo y.hi false) = (DD x.lo y.lo false) from if_neg m1, show maxD (DD x.lo y.lo true) (DD x.lo y.hi true) = (DD x.lo y.hi true) from if_pos m2]) : Bx.le (.cells 28 (ivL (Iv.mk (DD x.lo y.lo false) (DD x.lo y.hi true) false))) (.cells 28 (ivL (Iv.mk (minD (DD x.lo y.lo false) (DD x.lo y.hi false)) (maxD (DD x.lo y.lo true) (DD x.lo y.hi true)) false))))] <| .nil))
     (fun m2 => chain [tB 90 (decide_eq_false m2)] <| .e (chain [.b 12 (.of_eq (by rw [show minD (DD x.lo y.lo false) (DD x.lo y.hi false) = (DD x.lo y.lo false) from if_neg m1, show maxD (DD x.lo y.lo true) (DD x.lo y.hi true) = (DD x.lo y.lo true) from if_neg m2]) : Bx.le (.cells 28 (ivL (Iv.mk (DD x.lo y.lo false) (DD x.lo y.lo true) false))) (.cells 28 (ivL (Iv.mk (minD (DD x.lo y.lo false) (DD x.lo y.hi false)) (maxD (DD x.lo y.lo true) (DD x.lo y.hi true)) false))))] <| .nil)))),
      r64 ((0 + 1) + 1) (by omega), tB 42 (by decide : (decide ((((0 + 1) + 1) : Int) < 4)) = true)] <| .w ((EE x.hi y.lo false) = 0)
      (fun k5 => .w ((EE x.hi y.lo true) = 0)
       (fun k6 => chain [.j 3 (ivFour3 x y p gd gu DD EE)
   (chain [iX (((0 + 1) + 1)) (4) (by omega), iX (0) (2) (by omega), iX (1) (2) (by omega), .c (hd _ _ (.inr rfl) (.inl rfl) : PCt gd ((dyP x.hi) :: (dyP y.lo) :: (iP p) :: []) _), iX (0) (2) (by omega), iX (1) (2) (by omega),
    .c (hu _ _ (.inr rfl) (.inl rfl) : PCt gu ((dyP x.hi) :: (dyP y.lo) :: (iP p) :: []) _), tB 66 (bne_eq_false_iff_eq.2 k5), tB 69 (bne_eq_false_iff_eq.2 k6), tB 73 (by decide : ((((0 + 1) + 1) : Int) == 0) = false),
    .c (dyCmp_pc _ _ (hv _ _ _) (minD_valid (hv _ _ _) (hv _ _ _)) : PCt 82 [(dyP (DD x.hi y.lo false)), (dyP (minD (DD x.lo y.lo false) (DD x.lo y.hi false)))] _)] <| .w ((cmpD (DD x.hi y.lo false) (minD (DD x.lo y.lo false) (DD x.lo y.hi false))) < 0)
    (fun m1 => chain [tB 79 (decide_eq_true m1), tB 84 (by decide : ((((0 + 1) + 1) : Int) == 0) = false),
     .c (dyCmp_pc _ _ (hv _ _ _) (maxD_valid (hv _ _ _) (hv _ _ _)) : PCt 82 [(dyP (DD x.hi y.lo true)), (dyP (maxD (DD x.lo y.lo true) (DD x.lo y.hi true)))] _)] <| .w (0 < (cmpD (DD x.hi y.lo true) (maxD (DD x.lo y.lo true) (DD x.lo y.hi true))))
     (fun m2 => chain [tB 90 (decide_eq_true m2)] <| .e (chain [.b 12 (.of_eq (by rw [show minD (minD (DD x.lo y.lo false) (DD x.lo y.hi false)) (DD x.hi y.lo false) = (DD x.hi y.lo false) from if_pos m1, show maxD (maxD (DD x.lo y.lo true) (DD x.lo y.hi true)) (DD x.hi y.lo true) = (DD x.hi y.lo true) from if_pos m2]) : Bx.le (.cells 28 (ivL (Iv.mk (DD x.hi y.lo false) (DD x.hi y.lo true) false))) (.cells 28 (ivL (Iv.mk (minD (minD (DD x.lo y.lo false) (DD x.lo y.hi false)) (DD x.hi y.lo false)) (maxD (maxD (DD x.lo y.lo true) (DD x.lo y.hi true)) (DD x.hi y.lo true)) false))))] <| .nil))
     (fun m2 => chain [tB 90 (decide_eq_false m2)] <| .e (chain [.b 12 (.of_eq (by rw [show minD (minD (DD x.lo y.lo false) (DD x.lo y.hi false)) (DD x.hi y.lo false) = (DD x.hi y.lo false) from if_pos m1, show maxD (maxD (DD x.lo y.lo true) (DD x.lo y.hi true)) (DD x.hi y.lo true) = (maxD (DD x.lo y.lo true) (DD x.lo y.hi true)) from if_neg m2]) : Bx.le (.cells 28 (ivL (Iv.mk (DD x.hi y.lo false) (maxD (DD x.lo y.lo true) (DD x.lo y.hi true)) false))) (.cells 28 (ivL (Iv.mk (minD (minD (DD x.lo y.lo false) (DD x.lo y.hi false)) (DD x.hi y.lo false)) (maxD (maxD (DD x.lo y.lo true) (DD x.lo y.hi true)) (DD x.hi y.lo true)) false))))] <| .nil)))
    (fun m1 => chain [tB 79 (decide_eq_false m1), tB 84 (by decide : ((((0 + 1) + 1) : Int) == 0) = false),
     .c (dyCmp_pc _ _ (hv _ _ _) (maxD_valid (hv _ _ _) (hv _ _ _)) : PCt 82 [(dyP (DD x.hi y.lo true)), (dyP (maxD (DD x.lo y.lo true) (DD x.lo y.hi true)))] _)] <| .w (0 < (cmpD (DD x.hi y.lo true) (maxD (DD x.lo y.lo true) (DD x.lo y.hi true))))
     (fun m2 => chain [tB 90 (decide_eq_true m2)] <| .e (chain [.b 12 (.of_eq (by rw [show minD (minD (DD x.lo y.lo false) (DD x.lo y.hi false)) (DD x.hi y.lo false) = (minD (DD x.lo y.lo false) (DD x.lo y.hi false)) from if_neg m1, show maxD (maxD (DD x.lo y.lo true) (DD x.lo y.hi true)) (DD x.hi y.lo true) = (DD x.hi y.lo true) from if_pos m2]) : Bx.le (.cells 28 (ivL (Iv.mk (minD (DD x.lo y.lo false) (DD x.lo y.hi false)) (DD x.hi y.lo true) false))) (.cells 28 (ivL (Iv.mk (minD (minD (DD x.lo y.lo false) (DD x.lo y.hi false)) (DD x.hi y.lo false)) (maxD (maxD (DD x.lo y.lo true) (DD x.lo y.hi true)) (DD x.hi y.lo true)) false))))] <| .nil))
     (fun m2 => chain [tB 90 (decide_eq_false m2)] <| .e (chain [.b 12 (.of_eq (by rw [show minD (minD (DD x.lo y.lo false) (DD x.lo y.hi false)) (DD x.hi y.lo false) = (minD (DD x.lo y.lo false) (DD x.lo y.hi false)) from if_neg m1, show maxD (maxD (DD x.lo y.lo true) (DD x.lo y.hi true)) (DD x.hi y.lo true) = (maxD (DD x.lo y.lo true) (DD x.lo y.hi true)) from if_neg m2]) : Bx.le (.cells 28 (ivL (Iv.mk (minD (DD x.lo y.lo false) (DD x.lo y.hi false)) (maxD (DD x.lo y.lo true) (DD x.lo y.hi true)) false))) (.cells 28 (ivL (Iv.mk (minD (minD (DD x.lo y.lo false) (DD x.lo y.hi false)) (DD x.hi y.lo false)) (maxD (maxD (DD x.lo y.lo true) (DD x.lo y.hi true)) (DD x.hi y.lo true)) false))))] <| .nil)))),
        r64 (((0 + 1) + 1) + 1) (by omega), tB 42 (by decide : (decide (((((0 + 1) + 1) + 1) : Int) < 4)) = true)] <| .w ((EE x.hi y.hi false) = 0)
        (fun k7 => .w ((EE x.hi y.hi true) = 0)
         (fun k8 => chain [.j 3 (ivFour4 x y p gd gu DD EE)
   (chain [iX ((((0 + 1) + 1) + 1)) (4) (by omega), iX (0) (2) (by omega), iX (1) (2) (by omega), .c (hd _ _ (.inr rfl) (.inr rfl) : PCt gd ((dyP x.hi) :: (dyP y.hi) :: (iP p) :: []) _), iX (0) (2) (by omega), iX (1) (2) (by omega),
    .c (hu _ _ (.inr rfl) (.inr rfl) : PCt gu ((dyP x.hi) :: (dyP y.hi) :: (iP p) :: []) _), tB 66 (bne_eq_false_iff_eq.2 k7), tB 69 (bne_eq_false_iff_eq.2 k8), tB 73 (by decide : (((((0 + 1) + 1) + 1) : Int) == 0) = false),
    .c (dyCmp_pc _ _ (hv _ _ _) (minD_valid (minD_valid (hv _ _ _) (hv _ _ _)) (hv _ _ _)) : PCt 82 [(dyP (DD x.hi y.hi false)), (dyP (minD (minD (DD x.lo y.lo false) (DD x.lo y.hi false)) (DD x.hi y.lo false)))] _)] <| .w ((cmpD (DD x.hi y.hi false) (minD (minD (DD x.lo y.lo false) (DD x.lo y.hi false)) (DD x.hi y.lo false))) < 0)
    (fun m1 => chain [tB 79 (decide_eq_true m1), tB 84 (by decide : (((((0 + 1) + 1) + 1) : Int) == 0) = false),
     .c (dyCmp_pc _ _ (hv _ _ _) (maxD_valid (maxD_valid (hv _ _ _) (hv _ _ _)) (hv _ _ _)) : PCt 82 [(dyP (DD x.hi y.hi true)), (dyP (maxD (maxD (DD x.lo y.lo true) (DD x.lo y.hi true)) (DD x.hi y.lo true)))] _)] <| .w (0 < (cmpD (DD x.hi y.hi true) (maxD (maxD (DD x.lo y.lo true) (DD x.lo y.hi true)) (DD x.hi y.lo true))))
     (fun m2 => chain [tB 90 (decide_eq_true m2)] <| .e (chain [.b 12 (.of_eq (by rw [show minD (minD (minD (DD x.lo y.lo false) (DD x.lo y.hi false)) (DD x.hi y.lo false)) (DD x.hi y.hi false) = (DD x.hi y.hi false) from if_pos m1, show maxD (maxD (maxD (DD x.lo y.lo true) (DD x.lo y.hi true)) (DD x.hi y.lo true)) (DD x.hi y.hi true) = (DD x.hi y.hi true) from if_pos m2]) : Bx.le (.cells 28 (ivL (Iv.mk (DD x.hi y.hi false) (DD x.hi y.hi true) false))) (.cells 28 (ivL (Iv.mk (minD (minD (minD (DD x.lo y.lo false) (DD x.lo y.hi false)) (DD x.hi y.lo false)) (DD x.hi y.hi false)) (maxD (maxD (maxD (DD x.lo y.lo true) (DD x.lo y.hi true)) (DD x.hi y.lo true)) (DD x.hi y.hi true)) false))))] <| .nil))
     (fun m2 => chain [tB 90 (decide_eq_false m2)] <| .e (chain [.b 12 (.of_eq (by rw [show minD (minD (minD (DD x.lo y.lo false) (DD x.lo y.hi false)) (DD x.hi y.lo false)) (DD x.hi y.hi false) = (DD x.hi y.hi false) from if_pos m1, show maxD (maxD (maxD (DD x.lo y.lo true) (DD x.lo y.hi true)) (DD x.hi y.lo true)) (DD x.hi y.hi true) = (maxD (maxD (DD x.lo y.lo true) (DD x.lo y.hi true)) (DD x.hi y.lo true)) from if_neg m2]) : Bx.le (.cells 28 (ivL (Iv.mk (DD x.hi y.hi false) (maxD (maxD (DD x.lo y.lo true) (DD x.lo y.hi true)) (DD x.hi y.lo true)) false))) (.cells 28 (ivL (Iv.mk (minD (minD (minD (DD x.lo y.lo false) (DD x.lo y.hi false)) (DD x.hi y.lo false)) (DD x.hi y.hi false)) (maxD (maxD (maxD (DD x.lo y.lo true) (DD x.lo y.hi true)) (DD x.hi y.lo true)) (DD x.hi y.hi true)) false))))] <| .nil)))
    (fun m1 => chain [tB 79 (decide_eq_false m1), tB 84 (by decide : (((((0 + 1) + 1) + 1) : Int) == 0) = false),
     .c (dyCmp_pc _ _ (hv _ _ _) (maxD_valid (maxD_valid (hv _ _ _) (hv _ _ _)) (hv _ _ _)) : PCt 82 [(dyP (DD x.hi y.hi true)), (dyP (maxD (maxD (DD x.lo y.lo true) (DD x.lo y.hi true)) (DD x.hi y.lo true)))] _)] <| .w (0 < (cmpD (DD x.hi y.hi true) (maxD (maxD (DD x.lo y.lo true) (DD x.lo y.hi true)) (DD x.hi y.lo true))))
     (fun m2 => chain [tB 90 (decide_eq_true m2)] <| .e (chain [.b 12 (.of_eq (by rw [show minD (minD (minD (DD x.lo y.lo false) (DD x.lo y.hi false)) (DD x.hi y.lo false)) (DD x.hi y.hi false) = (minD (minD (DD x.lo y.lo false) (DD x.lo y.hi false)) (DD x.hi y.lo false)) from if_neg m1, show maxD (maxD (maxD (DD x.lo y.lo true) (DD x.lo y.hi true)) (DD x.hi y.lo true)) (DD x.hi y.hi true) = (DD x.hi y.hi true) from if_pos m2]) : Bx.le (.cells 28 (ivL (Iv.mk (minD (minD (DD x.lo y.lo false) (DD x.lo y.hi false)) (DD x.hi y.lo false)) (DD x.hi y.hi true) false))) (.cells 28 (ivL (Iv.mk (minD (minD (minD (DD x.lo y.lo false) (DD x.lo y.hi false)) (DD x.hi y.lo false)) (DD x.hi y.hi false)) (maxD (maxD (maxD (DD x.lo y.lo true) (DD x.lo y.hi true)) (DD x.hi y.lo true)) (DD x.hi y.hi true)) false))))] <| .nil))
     (fun m2 => chain [tB 90 (decide_eq_false m2)] <| .e (chain [.b 12 (.of_eq (by rw [show minD (minD (minD (DD x.lo y.lo false) (DD x.lo y.hi false)) (DD x.hi y.lo false)) (DD x.hi y.hi false) = (minD (minD (DD x.lo y.lo false) (DD x.lo y.hi false)) (DD x.hi y.lo false)) from if_neg m1, show maxD (maxD (maxD (DD x.lo y.lo true) (DD x.lo y.hi true)) (DD x.hi y.lo true)) (DD x.hi y.hi true) = (maxD (maxD (DD x.lo y.lo true) (DD x.lo y.hi true)) (DD x.hi y.lo true)) from if_neg m2]) : Bx.le (.cells 28 (ivL (Iv.mk (minD (minD (DD x.lo y.lo false) (DD x.lo y.hi false)) (DD x.hi y.lo false)) (maxD (maxD (DD x.lo y.lo true) (DD x.lo y.hi true)) (DD x.hi y.lo true)) false))) (.cells 28 (ivL (Iv.mk (minD (minD (minD (DD x.lo y.lo false) (DD x.lo y.hi false)) (DD x.hi y.lo false)) (DD x.hi y.hi false)) (maxD (maxD (maxD (DD x.lo y.lo true) (DD x.lo y.hi true)) (DD x.hi y.lo true)) (DD x.hi y.hi true)) false))))] <| .nil)))),
          r64 ((((0 + 1) + 1) + 1) + 1) (by omega), tB 42 (by decide : (decide ((((((0 + 1) + 1) + 1) + 1) : Int) < 4)) = false)] <| rQ (ivP (Iv.mk (minD (minD (minD (DD x.lo y.lo false) (DD x.lo y.hi false)) (DD x.hi y.lo false)) (DD x.hi y.hi false)) (maxD (maxD (maxD (DD x.lo y.lo true) (DD x.lo y.hi true)) (DD x.hi y.lo true)) (DD x.hi y.hi true)) false)) (ivP (fourI DD EE x y)) (by rw [show fourI DD EE x y = ⟨(minD (minD (minD (DD x.lo y.lo false) (DD x.lo y.hi false)) (DD x.hi y.lo false)) (DD x.hi y.hi false)), (maxD (maxD (maxD (DD x.lo y.lo true) (DD x.lo y.hi true)) (DD x.hi y.lo true)) (DD x.hi y.hi true)), false⟩ from if_pos ⟨⟨k1, k2⟩, ⟨k3, k4⟩, ⟨k5, k6⟩, ⟨k7, k8⟩⟩]; try rfl))
         (fun k8 => chain [iX ((((0 + 1) + 1) + 1)) (4) (by omega), iX (0) (2) (by omega), iX (1) (2) (by omega), .c (hd _ _ (.inr rfl) (.inr rfl) : PCt gd ((dyP x.hi) :: (dyP y.hi) :: (iP p) :: []) _), iX (0) (2) (by omega), iX (1) (2) (by omega),
          .c (hu _ _ (.inr rfl) (.inr rfl) : PCt gu ((dyP x.hi) :: (dyP y.hi) :: (iP p) :: []) _), tB 66 (bne_eq_false_iff_eq.2 k7), tB 69 (bne_iff_ne.2 k8), .c ivWhole_pc] <| rQ (ivP wholeI) (ivP (fourI DD EE x y)) (by rw [show fourI DD EE x y = wholeI from if_neg (by rintro ⟨⟨q0, r0⟩, ⟨q1, r1⟩, ⟨q2, r2⟩, ⟨q3, r3⟩⟩; exact k8 r3)])))
        (fun k7 => chain [iX ((((0 + 1) + 1) + 1)) (4) (by omega), iX (0) (2) (by omega), iX (1) (2) (by omega), .c (hd _ _ (.inr rfl) (.inr rfl) : PCt gd ((dyP x.hi) :: (dyP y.hi) :: (iP p) :: []) _), iX (0) (2) (by omega), iX (1) (2) (by omega),
         .c (hu _ _ (.inr rfl) (.inr rfl) : PCt gu ((dyP x.hi) :: (dyP y.hi) :: (iP p) :: []) _), tB 66 (bne_iff_ne.2 k7), .c ivWhole_pc] <| rQ (ivP wholeI) (ivP (fourI DD EE x y)) (by rw [show fourI DD EE x y = wholeI from if_neg (by rintro ⟨⟨q0, r0⟩, ⟨q1, r1⟩, ⟨q2, r2⟩, ⟨q3, r3⟩⟩; exact k7 q3)])))
       (fun k6 => chain [iX (((0 + 1) + 1)) (4) (by omega), iX (0) (2) (by omega), iX (1) (2) (by omega), .c (hd _ _ (.inr rfl) (.inl rfl) : PCt gd ((dyP x.hi) :: (dyP y.lo) :: (iP p) :: []) _), iX (0) (2) (by omega), iX (1) (2) (by omega),
        .c (hu _ _ (.inr rfl) (.inl rfl) : PCt gu ((dyP x.hi) :: (dyP y.lo) :: (iP p) :: []) _), tB 66 (bne_eq_false_iff_eq.2 k5), tB 69 (bne_iff_ne.2 k6), .c ivWhole_pc] <| rQ (ivP wholeI) (ivP (fourI DD EE x y)) (by rw [show fourI DD EE x y = wholeI from if_neg (by rintro ⟨⟨q0, r0⟩, ⟨q1, r1⟩, ⟨q2, r2⟩, ⟨q3, r3⟩⟩; exact k6 r2)])))
      (fun k5 => chain [iX (((0 + 1) + 1)) (4) (by omega), iX (0) (2) (by omega), iX (1) (2) (by omega), .c (hd _ _ (.inr rfl) (.inl rfl) : PCt gd ((dyP x.hi) :: (dyP y.lo) :: (iP p) :: []) _), iX (0) (2) (by omega), iX (1) (2) (by omega),
       .c (hu _ _ (.inr rfl) (.inl rfl) : PCt gu ((dyP x.hi) :: (dyP y.lo) :: (iP p) :: []) _), tB 66 (bne_iff_ne.2 k5), .c ivWhole_pc] <| rQ (ivP wholeI) (ivP (fourI DD EE x y)) (by rw [show fourI DD EE x y = wholeI from if_neg (by rintro ⟨⟨q0, r0⟩, ⟨q1, r1⟩, ⟨q2, r2⟩, ⟨q3, r3⟩⟩; exact k5 q2)])))
     (fun k4 => chain [iX ((0 + 1)) (4) (by omega), iX (0) (2) (by omega), iX (1) (2) (by omega), .c (hd _ _ (.inl rfl) (.inr rfl) : PCt gd ((dyP x.lo) :: (dyP y.hi) :: (iP p) :: []) _), iX (0) (2) (by omega), iX (1) (2) (by omega),
      .c (hu _ _ (.inl rfl) (.inr rfl) : PCt gu ((dyP x.lo) :: (dyP y.hi) :: (iP p) :: []) _), tB 66 (bne_eq_false_iff_eq.2 k3), tB 69 (bne_iff_ne.2 k4), .c ivWhole_pc] <| rQ (ivP wholeI) (ivP (fourI DD EE x y)) (by rw [show fourI DD EE x y = wholeI from if_neg (by rintro ⟨⟨q0, r0⟩, ⟨q1, r1⟩, ⟨q2, r2⟩, ⟨q3, r3⟩⟩; exact k4 r1)])))
    (fun k3 => chain [iX ((0 + 1)) (4) (by omega), iX (0) (2) (by omega), iX (1) (2) (by omega), .c (hd _ _ (.inl rfl) (.inr rfl) : PCt gd ((dyP x.lo) :: (dyP y.hi) :: (iP p) :: []) _), iX (0) (2) (by omega), iX (1) (2) (by omega),
     .c (hu _ _ (.inl rfl) (.inr rfl) : PCt gu ((dyP x.lo) :: (dyP y.hi) :: (iP p) :: []) _), tB 66 (bne_iff_ne.2 k3), .c ivWhole_pc] <| rQ (ivP wholeI) (ivP (fourI DD EE x y)) (by rw [show fourI DD EE x y = wholeI from if_neg (by rintro ⟨⟨q0, r0⟩, ⟨q1, r1⟩, ⟨q2, r2⟩, ⟨q3, r3⟩⟩; exact k3 q1)])))
   (fun k2 => chain [iX (0) (4) (by omega), iX (0) (2) (by omega), iX (1) (2) (by omega), .c (hd _ _ (.inl rfl) (.inl rfl) : PCt gd ((dyP x.lo) :: (dyP y.lo) :: (iP p) :: []) _), iX (0) (2) (by omega), iX (1) (2) (by omega),
    .c (hu _ _ (.inl rfl) (.inl rfl) : PCt gu ((dyP x.lo) :: (dyP y.lo) :: (iP p) :: []) _), tB 66 (bne_eq_false_iff_eq.2 k1), tB 69 (bne_iff_ne.2 k2), .c ivWhole_pc] <| rQ (ivP wholeI) (ivP (fourI DD EE x y)) (by rw [show fourI DD EE x y = wholeI from if_neg (by rintro ⟨⟨q0, r0⟩, ⟨q1, r1⟩, ⟨q2, r2⟩, ⟨q3, r3⟩⟩; exact k2 r0)])))
  (fun k1 => chain [iX (0) (4) (by omega), iX (0) (2) (by omega), iX (1) (2) (by omega), .c (hd _ _ (.inl rfl) (.inl rfl) : PCt gd ((dyP x.lo) :: (dyP y.lo) :: (iP p) :: []) _), iX (0) (2) (by omega), iX (1) (2) (by omega),
   .c (hu _ _ (.inl rfl) (.inl rfl) : PCt gu ((dyP x.lo) :: (dyP y.lo) :: (iP p) :: []) _), tB 66 (bne_iff_ne.2 k1), .c ivWhole_pc] <| rQ (ivP wholeI) (ivP (fourI DD EE x y)) (by rw [show fourI DD EE x y = wholeI from if_neg (by rintro ⟨⟨q0, r0⟩, ⟨q1, r1⟩, ⟨q2, r2⟩, ⟨q3, r3⟩⟩; exact k1 q0)]))) (by kernel_rfl)
open Go.RowKit Fp Pu
theorem sign_ends {y : Iv} (hy : y.Valid) (hs : signI y ≠ 0) : y.lo.m ≠ 0 ∧ y.hi.m ≠ 0 := by
 unfold signI at hs
 have ha : y.all = false := by
  cases h : y.all with
  | false => rfl
  | true => rw [h] at hs; exact absurd rfl hs
 obtain ⟨v1, v2, v3⟩ := ivOff hy ha
 rw [ha] at hs
 simp only [Bool.false_eq_true, if_false] at hs
 have z : ∀ d : Dy, d.m = 0 → d.sign = 0 := fun d h => by unfold Dy.sign; rw [if_pos h]
 have hc := cmpD_prog y.lo y.hi
 rw [hc] at v3
 constructor
 ·intro h0
  have := z _ h0
  rw [this] at hs v3
  split at hs
  ·omega
  ·split at hs
   ·split at v3 <;> omega
   ·exact hs rfl
 ·intro h0
  have := z _ h0
  rw [this] at hs v3
  split at hs
  ·split at v3 <;> omega
  ·split at hs
   ·omega
   ·exact hs rfl
theorem divD_valid (a b : Dy) {p : Nat} (up : Bool) (hp : 1 ≤ p) (hp2 : p ≤ 4096) : (divD a b p up).Valid := by
 unfold divD; split
 ·exact zeroD_valid
 ·exact cut_valid _ _ _ _ _ _ hp hp2
theorem ivMul_pc (x y : Iv) (p : Nat) (hx : x.Valid) (hy : y.Valid) (hp1 : 8 ≤ p) (hp2 : p ≤ 512) : PCt 118 [(ivP x), (ivP y), (iP p)] (ivP (mulI x y p)) := by
 by_cases hk : (x.all || y.all) = true
 ·exact tr true Tryz.call118 Tryz.func118 (chain [.o 9 (.e (ivs2_le _ _) : PV.le (.e (.sl true 2 7 fun i_ j_ => (ivL x ++ ivL y).getD (i_ * 7 + j_) (.v (.bool false)))) (.e (ivsP [x, y]))), .c (ivKnown2_pc _ _ ‹_› ‹_› : PCt 90 [(ivsP [x, y])] _),
   tB 10 (by rw [hk]; rfl : (!(x.all || y.all)) = false), .c ivWhole_pc] <| rQ (ivP wholeI) (ivP (mulI x y p)) (by rw [show mulI x y p = wholeI by unfold mulI; rw [if_pos hk]])) (by kernel_rfl)
 ·replace hk : (x.all || y.all) = false := by simpa using hk
  have hxa : x.all = false := by cases h : x.all; rfl; rw [h] at hk; simp at hk
  have hya : y.all = false := by cases h : y.all; rfl; rw [h] at hk; simp at hk
  obtain ⟨v1, v2, v3⟩ := ivOff hx hxa
  obtain ⟨v4, v5, v6⟩ := ivOff hy hya
  exact tr true Tryz.call118 Tryz.func118 (chain [.o 9 (.e (ivs2_le _ _) : PV.le (.e (.sl true 2 7 fun i_ j_ => (ivL x ++ ivL y).getD (i_ * 7 + j_) (.v (.bool false)))) (.e (ivsP [x, y]))), .c (ivKnown2_pc _ _ ‹_› ‹_› : PCt 90 [(ivsP [x, y])] _),
   tB 10 (by rw [hk]; rfl : (!(x.all || y.all)) = true), .c (ivPermitted_pc _ : PCt 126 [(iP p)] _), tB 14 (precB_true.2 ⟨by omega, by omega⟩ : (precB (p : Int)) = true),
   .c (ivFour_pc x y p 183 184 (fun a b up => rndD (mulD a b) p up) (fun a b up => rndE (mulD a b) p up) (fun a b ha hb => rdMulDown_pc a b p (by rcases ha with rfl | rfl; exact v1; exact v2) (by rcases hb with rfl | rfl; exact v4; exact v5) hp1 hp2) (fun a b ha hb => rdMulUp_pc a b p (by rcases ha with rfl | rfl; exact v1; exact v2) (by rcases hb with rfl | rfl; exact v4; exact v5) hp1 hp2) (fun a b up => cut_valid _ _ _ _ _ _ (by omega) (by omega)))] <| rQ (ivP (fourI (fun a b up => rndD (mulD a b) p up) (fun a b up => rndE (mulD a b) p up) x y)) (ivP (mulI x y p)) (by rw [show mulI x y p = _ by unfold mulI; rw [if_neg (by rw [hk]; decide)]]; rfl)) (by kernel_rfl)
theorem ivDiv_pc (x y : Iv) (p : Nat) (hx : x.Valid) (hy : y.Valid) (hp1 : 8 ≤ p) (hp2 : p ≤ 512) : PCt 45 [(ivP x), (ivP y), (iP p)] (ivP (divI x y p)) := by
 by_cases hk : (x.all || y.all) = true
 ·exact tr true Tryz.call45 Tryz.func45 (chain [.o 9 (.e (ivs2_le _ _) : PV.le (.e (.sl true 2 7 fun i_ j_ => (ivL x ++ ivL y).getD (i_ * 7 + j_) (.v (.bool false)))) (.e (ivsP [x, y]))), .c (ivKnown2_pc _ _ ‹_› ‹_› : PCt 90 [(ivsP [x, y])] _),
   tB 10 (by rw [hk]; rfl : (!(x.all || y.all)) = false), .c ivWhole_pc] <| rQ (ivP wholeI) (ivP (divI x y p)) (by rw [show divI x y p = wholeI by unfold divI; rw [if_pos (by rw [hk]; rfl)]])) (by kernel_rfl)
 ·replace hk : (x.all || y.all) = false := by simpa using hk
  have hxa : x.all = false := by cases h : x.all; rfl; rw [h] at hk; simp at hk
  have hya : y.all = false := by cases h : y.all; rfl; rw [h] at hk; simp at hk
  obtain ⟨v1, v2, v3⟩ := ivOff hx hxa
  obtain ⟨v4, v5, v6⟩ := ivOff hy hya
  by_cases hs : signI y = 0
  ·exact tr true Tryz.call45 Tryz.func45 (chain [.o 9 (.e (ivs2_le _ _) : PV.le (.e (.sl true 2 7 fun i_ j_ => (ivL x ++ ivL y).getD (i_ * 7 + j_) (.v (.bool false)))) (.e (ivsP [x, y]))), .c (ivKnown2_pc _ _ ‹_› ‹_› : PCt 90 [(ivsP [x, y])] _),
    tB 10 (by rw [hk]; rfl : (!(x.all || y.all)) = true), .c (ivPermitted_pc _ : PCt 126 [(iP p)] _), tB 14 (precB_true.2 ⟨by omega, by omega⟩ : (precB (p : Int)) = true), .c (ivSign_pc y ‹_›),
    tB 20 (by rw [hs]; rfl : ((signI y) == 0) = true), .c ivWhole_pc] <| rQ (ivP wholeI) (ivP (divI x y p)) (by rw [show divI x y p = wholeI by unfold divI; rw [if_pos (by rw [hk, decide_eq_true hs]; rfl)]])) (by kernel_rfl)
  ·obtain ⟨n1, n2⟩ := sign_ends hy hs
   exact tr true Tryz.call45 Tryz.func45 (chain [.o 9 (.e (ivs2_le _ _) : PV.le (.e (.sl true 2 7 fun i_ j_ => (ivL x ++ ivL y).getD (i_ * 7 + j_) (.v (.bool false)))) (.e (ivsP [x, y]))), .c (ivKnown2_pc _ _ ‹_› ‹_› : PCt 90 [(ivsP [x, y])] _),
    tB 10 (by rw [hk]; rfl : (!(x.all || y.all)) = true), .c (ivPermitted_pc _ : PCt 126 [(iP p)] _), tB 14 (precB_true.2 ⟨by omega, by omega⟩ : (precB (p : Int)) = true), .c (ivSign_pc y ‹_›),
    tB 20 (by simpa using hs : ((signI y) == 0) = false),
    .c (ivFour_pc x y p 129 130 (fun a b up => divD a b p up) (fun a b up => divE a b p up) (fun a b ha hb => rdDivDown_pc a b p (by rcases ha with rfl | rfl; exact v1; exact v2) (by rcases hb with rfl | rfl; exact v4; exact v5) (by rcases hb with rfl | rfl; exact n1; exact n2) hp1 hp2) (fun a b ha hb => rdDivUp_pc a b p (by rcases ha with rfl | rfl; exact v1; exact v2) (by rcases hb with rfl | rfl; exact v4; exact v5) (by rcases hb with rfl | rfl; exact n1; exact n2) hp1 hp2) (fun a b up => divD_valid a b up (by omega) (by omega)))] <| rQ (ivP (fourI (fun a b up => divD a b p up) (fun a b up => divE a b p up) x y)) (ivP (divI x y p)) (by rw [show divI x y p = _ by unfold divI; rw [if_neg (by rw [hk, decide_eq_false hs]; decide)]])) (by kernel_rfl)
open Go.RowKit Fp Pu
theorem ivZeroR_yes (d : RD) (h : d.Zero) : PCt 116 [(rdP d)] (bP true) := by
 obtain ⟨h1, h2, h3⟩ := h
 exact tr true Tryz.call116 Tryz.func116 (chain [tB 4 (h1 : d.neg = false), tB 10 (natZ_true (by rw [h2]; rfl) : ((d.L.length : Int) == 0) = true), tB 15 (by rw [h3]; rfl : (d.e == 0) = true)] <| .nil) (by kernel_rfl)
theorem ivZeroR_no (d : RD) (h : ¬ d.Zero) : PCt 116 [(rdP d)] (bP false) := by
 by_cases h1 : d.neg = true
 ·exact tr true Tryz.call116 Tryz.func116 (chain [tB 4 (h1 : d.neg = true)] <| .nil) (by kernel_rfl)
 ·replace h1 : d.neg = false := by simpa using h1
  by_cases h2 : d.L = []
  ·have h3 : ¬ d.e = 0 := fun q => h ⟨h1, h2, q⟩
   exact tr true Tryz.call116 Tryz.func116 (chain [tB 4 (h1 : d.neg = false), tB 10 (natZ_true (by rw [h2]; rfl) : ((d.L.length : Int) == 0) = true), tB 15 (by simpa using h3 : (d.e == 0) = false)] <| .nil) (by kernel_rfl)
  ·exact tr true Tryz.call116 Tryz.func116 (chain [tB 4 (h1 : d.neg = false), tB 10 (natZ_false (fun q => h2 (List.length_eq_zero_iff.1 q)) : ((d.L.length : Int) == 0) = false)] <| .nil) (by kernel_rfl)
theorem ivValidR_yes (x : RI) (g : x.Good) (h : x.Ok) : PCt 41 [riP x] (bP true) := by
 have := ivValid_pc x.iv h.valid
 rwa [← ivP_raw, h.eq g] at this
theorem ivValidR_no (x : RI) (g : x.Good) (h : ¬ x.Ok) : PCt 41 [(riP x)] (bP false) := by
 have ga := g.lo
 have gb := g.hi
 by_cases ha : x.all = true
 ·by_cases h1 : x.lo.Zero
  ·have h2 : ¬ x.hi.Zero := fun q => h (.inl ⟨ha, h1, q⟩)
   exact tr true Tryz.call41 Tryz.func41 (chain [tB 5 (ha : x.all = true), .c (ivZeroR_yes _ h1 : PCt 116 [(rdP x.lo)] _), .c (ivZeroR_no _ h2 : PCt 116 [(rdP x.hi)] _)] <| .nil) (by kernel_rfl)
  ·exact tr true Tryz.call41 Tryz.func41 (chain [tB 5 (ha : x.all = true), .c (ivZeroR_no _ h1 : PCt 116 [(rdP x.lo)] _)] <| .nil) (by kernel_rfl)
 ·replace ha : x.all = false := by simpa using ha
  by_cases h1 : x.lo.Ok
  ·by_cases h2 : x.hi.Ok
   ·have h3 : ¬ cmpD x.lo.dy x.hi.dy ≤ 0 := fun q => h (.inr ⟨ha, h1, h2, q⟩)
    have v1 := h1.valid
    have v2 := h2.valid
    have e1 : riP x = ivP x.iv := by rw [← ivP_raw, show x.iv.raw = x by show RI.mk x.lo.dy.raw x.hi.dy.raw x.all = x; rw [h1.eq ga, h2.eq gb]]
    rw [e1]
    exact tr true Tryz.call41 Tryz.func41 (chain [tB 5 (ha : x.iv.all = false), .c (dyValid_pc _ ‹_› : PCt 98 [(dyP x.iv.lo)] _), .c (dyValid_pc _ ‹_› : PCt 98 [(dyP x.iv.hi)] _),
     .c (dyCmp_pc _ _ ‹_› ‹_› : PCt 82 [(dyP x.iv.lo), (dyP x.iv.hi)] _), tB 30 (decide_eq_false h3)] <| .nil) (by kernel_rfl)
   ·exact tr true Tryz.call41 Tryz.func41 (chain [tB 5 (ha : x.all = false), .c (dyValidR_pc _ ‹_› true (by simp [h1]) : PCt 98 [(rdP x.lo)] _), .c (dyValidR_pc _ ‹_› false (by simp [h2]) : PCt 98 [(rdP x.hi)] _)] <| .nil) (by kernel_rfl)
  ·exact tr true Tryz.call41 Tryz.func41 (chain [tB 5 (ha : x.all = false), .c (dyValidR_pc _ ‹_› false (by simp [h1]) : PCt 98 [(rdP x.lo)] _)] <| .nil) (by kernel_rfl)
theorem ivValidR_pc (x : RI) (g : x.Good) : PCt 41 [riP x] (bP (okB x)) := by
 by_cases h : x.Ok
 ·rw [okB_true.2 h]; exact ivValidR_yes x g h
 ·rw [show okB x = false by simpa using fun q => h (okB_true.1 q)]; exact ivValidR_no x g h
theorem matRect11 (x : RI) (g : x.Good) : PCt 207 [(riP x), (.ref 1 fun j_ => [(.fn 41 [])].getD j_ .any)] (bP (!(okB x))) := by
 exact tr true Tryz.call207 Tryz.func207 (chain [.c (ivValidR_pc _ ‹_› : PCt 41 [(riP x)] _)] <| .nil) (by kernel_rfl)
theorem matRect1 (r : List RI) (m : List (List RI)) (gr : ∀ j, (r.getD j rwhole).Good) (hr : r.length ≤ 1000000) (hm : 0 < m.length) : PCt 206 [(risP r), (.ref 1 fun j_ => [(rmatP m)].getD j_ .any), (.ref 1 fun j_ => [(.fn 41 [])].getD j_ .any)] (bP (decide (r.length ≠ (m.getD 0 []).length) || ((List.range (r.length)).any fun j => !(okB (r.getD j rwhole))))) := by
 by_cases h : r.length = (m.getD 0 []).length
 ·exact tr true Tryz.call206 Tryz.func206 (chain [iX (0) (m.length) (by omega), tB 11 (natNe_false h : ((r.length : Int) != (((m.getD 0 []).length : Nat) : Int)) = false),
   .c (iv_any true _ _ 207 _ (fun j => !(okB (r.getD j rwhole))) (fun j hj => matRect11 _ (gr j)) (by omega) : PCt 55 [(risP r), (.fn 207 [(.ref 1 fun j_ => [(.fn 41 [])].getD j_ .any)])] _)] <| rQ (bP ((List.range (r.length)).any fun j => !(okB (r.getD j rwhole)))) (bP (decide (r.length ≠ (m.getD 0 []).length) || ((List.range (r.length)).any fun j => !(okB (r.getD j rwhole))))) (by rw [decide_eq_false (not_not_intro h)]; rfl)) (by kernel_rfl)
 ·exact tr true Tryz.call206 Tryz.func206 (chain [iX (0) (m.length) (by omega), tB 11 (natNe_true h : ((r.length : Int) != (((m.getD 0 []).length : Nat) : Int)) = true)] <| rQ (bP true) (bP (decide (r.length ≠ (m.getD 0 []).length) || ((List.range (r.length)).any fun j => !(okB (r.getD j rwhole))))) (by rw [decide_eq_true h]; rfl)) (by kernel_rfl)
theorem matRect_pc (m : List (List RI)) (g : MGood m) (hl : m.length ≤ 1000000) (hrows : ∀ i, (m.getD i []).length ≤ 1000000) : PCt 173 [(rmatP m), (.fn 41 [])] (bP (matOkB m)) := by
 by_cases h1 : m.length < 1
 ·exact tr true Tryz.call173 Tryz.func173 (chain [tT 7 ((m.length : Int) < 1) (by omega)] <| rQ (bP false) (bP (matOkB m)) (by rw [matOkB_false (fun q => by have := q.n1; omega)])) (by kernel_rfl)
 ·by_cases h2 : 8 < m.length
  ·exact tr true Tryz.call173 Tryz.func173 (chain [tF 7 ((m.length : Int) < 1) (by omega), tT 11 (8 < (m.length : Int)) (by omega)] <| rQ (bP false) (bP (matOkB m)) (by rw [matOkB_false (fun q => by have := q.n8; omega)])) (by kernel_rfl)
  ·by_cases h3 : (m.getD 0 []).length < 1
   ·exact tr true Tryz.call173 Tryz.func173 (chain [tF 7 ((m.length : Int) < 1) (by omega), tF 11 (8 < (m.length : Int)) (by omega), iX (0) (m.length) (by omega), tT 18 ((((m.getD 0 []).length : Nat) : Int) < 1) (by omega)] <| rQ (bP false) (bP (matOkB m)) (by rw [matOkB_false (fun q => by have := q.k1; omega)])) (by kernel_rfl)
   ·by_cases h4 : 8 < (m.getD 0 []).length
    ·exact tr true Tryz.call173 Tryz.func173 (chain [tF 7 ((m.length : Int) < 1) (by omega), tF 11 (8 < (m.length : Int)) (by omega), iX (0) (m.length) (by omega), tF 18 ((((m.getD 0 []).length : Nat) : Int) < 1) (by omega), iX (0) (m.length) (by omega),
      tT 25 (8 < (((m.getD 0 []).length : Nat) : Int)) (by omega)] <| rQ (bP false) (bP (matOkB m)) (by rw [matOkB_false (fun q => by have := q.k8; omega)])) (by kernel_rfl)
    ·have hb : matOkB m = !((List.range m.length).any fun i => decide ((m.getD i []).length ≠ (m.getD 0 []).length) || ((List.range ((m.getD i []).length)).any fun j => !(okB ((m.getD i []).getD j rwhole)))) := by
      by_cases hk : ROk m
      ·rw [matOkB_true.2 hk]
       symm
       rw [Bool.not_eq_true', List.any_eq_false]
       intro i hi
       have hi := List.mem_range.1 hi
       have hrow : decide ((m.getD i []).length ≠ (m.getD 0 []).length) = false := decide_eq_false (not_not_intro (hk.row i hi))
       rw [hrow, Bool.false_or, Bool.not_eq_true, List.any_eq_false]
       intro j hj
       rw [okB_true.2 (hk.ok i hi j (List.mem_range.1 hj))]
       decide
      ·rw [matOkB_false hk]
       symm
       rw [Bool.not_eq_false']
       apply Classical.byContradiction
       intro hc
       rw [Bool.not_eq_true, List.any_eq_false] at hc
       refine hk ⟨by omega, by omega, by omega, by omega, fun i hi => ?_, fun i hi j hj => ?_⟩
       ·have := hc i (List.mem_range.2 hi)
        simp only [ne_eq, decide_not, Bool.or_eq_true, not_or, Bool.not_eq_true, Bool.not_eq_false', decide_eq_true_eq] at this
        exact this.1
       ·have := hc i (List.mem_range.2 hi)
        simp only [ne_eq, decide_not, Bool.or_eq_true, not_or, Bool.not_eq_true, Bool.not_eq_false', decide_eq_true_eq] at this
        have := List.any_eq_false.1 this.2 j (List.mem_range.2 hj)
        exact okB_true.1 (by simpa using this)
     exact tr true Tryz.call173 Tryz.func173 (chain [tF 7 ((m.length : Int) < 1) (by omega), tF 11 (8 < (m.length : Int)) (by omega), iX (0) (m.length) (by omega), tF 18 ((((m.getD 0 []).length : Nat) : Int) < 1) (by omega), iX (0) (m.length) (by omega),
      tF 25 (8 < (((m.getD 0 []).length : Nat) : Int)) (by omega),
      .c (row_any true _ _ 206 _ (fun i => decide ((m.getD i []).length ≠ (m.getD 0 []).length) || ((List.range ((m.getD i []).length)).any fun j => !(okB ((m.getD i []).getD j rwhole)))) (fun i hi => matRect1 _ _ (fun j => g.at i j) (hrows i) (by omega)) (by omega) : PCt 53 [(rmatP m), (.fn 206 [(.ref 1 fun j_ => [(rmatP m)].getD j_ .any), (.ref 1 fun j_ => [(.fn 41 [])].getD j_ .any)])] _)] <| rQ (bP (!((List.range m.length).any fun i => decide ((m.getD i []).length ≠ (m.getD 0 []).length) || ((List.range ((m.getD i []).length)).any fun j => !(okB ((m.getD i []).getD j rwhole)))))) (bP (matOkB m)) (by rw [hb])) (by kernel_rfl)
theorem matValidR_pc (m : List (List RI)) (g : MGood m) (hl : m.length ≤ 1000000) (hrows : ∀ i, (m.getD i []).length ≤ 1000000) : PCt 103 [(rmatP m)] (bP (matOkB m)) := by
 exact tr true Tryz.call103 Tryz.func103 (chain [.c (matRect_pc _ g (by omega) hrows : PCt 173 [(rmatP m), (.fn 41 [])] _)] <| .nil) (by kernel_rfl)
open Go.RowKit Fp Pu
def gcdF (a b : Nat) (x : Nat) : PS := ⟨12, true, [(0, .e (.v (.int .u64 ((((eucS a b x).1) : Nat) : Int)))), (1, .e (.v (.int .u64 ((((eucS a b x).2) : Nat) : Int))))], []⟩
set_option maxHeartbeats 1000000 in
theorem ratGcd_N (a b N : Nat) (ha : a < 18446744073709551616) (hb : b < 18446744073709551616) (hlo : ∀ x, x < N → (eucS a b x).2 ≠ 0) (hN : (eucS a b N).2 = 0) : PCt 175 [(.v (.int .u64 (a : Int))), (.v (.int .u64 (b : Int)))] (.v (.int .u64 (((Nat.gcd a b) : Nat) : Int))) := by
 exact tr true Tryz.call175 Tryz.func175 (chain [.s (Sp.upto (gcdF a b) 0 N (by omega) (fun x hx hltx => by
    have hnz := hlo x (by omega)
    have hb1 := eucS_bound ha hb x
    exact spt (chain [tB 6 (natNZ_true (hlo x (by omega)) : (((((eucS a b x).2) : Nat) : Int) != 0) = true), .a (by omega : 0 ≤ (((((eucS a b x).1) : Nat) : Int) : Int) ∧ 0 < (((((eucS a b x).2) : Nat) : Int) : Int))] <| .e (chain [.o 0 (.int rfl : PV.le (.e (.v (.int .u64 ((((eucS a b x).2) : Nat) : Int)))) (.e (.v (.int .u64 ((((eucS a b (x + 1)).1) : Nat) : Int))))),
  .o 1 (.int rfl : PV.le (.e (.v (.int .u64 (((((eucS a b x).1) % ((eucS a b x).2)) : Nat) : Int)))) (.e (.v (.int .u64 ((((eucS a b (x + 1)).2) : Nat) : Int)))))] <| .nil)) (by kernel_rfl))
  (fun hx => by
    exact spt (chain [tB 6 (natNZ_false hN : (((((eucS a b N).2) : Nat) : Int) != 0) = false)] <| .nil) (by kernel_rfl)) (by nofun) : LpT 1 Tryz.f175 (gcdF a b 0) (.exit 0) ⟨12, true, [(0, .e (.v (.int .u64 ((((eucS a b N).1) : Nat) : Int))))], []⟩) (chain [.o 0 (.int rfl : PV.le (.e (.v (.int .u64 (a : Int)))) (.e (.v (.int .u64 ((((eucS a b 0).1) : Nat) : Int))))), .o 1 (.int rfl : PV.le (.e (.v (.int .u64 (b : Int)))) (.e (.v (.int .u64 ((((eucS a b 0).2) : Nat) : Int)))))] <| .nil)] <| rQ (.v (.int .u64 ((((eucS a b N).1) : Nat) : Int))) (.v (.int .u64 (((Nat.gcd a b) : Nat) : Int))) (by have h := eucS_gcd a b N; rw [hN, Nat.gcd_zero_right] at h; rw [← h])) (by kernel_rfl)
theorem ratGcd_pc (a b : Nat) (ha : a < 18446744073709551616) (hb : b < 18446744073709551616) : PCt 175 [(.v (.int .u64 (a : Int))), (.v (.int .u64 (b : Int)))] (.v (.int .u64 (((Nat.gcd a b) : Nat) : Int))) := by
 obtain ⟨N, h1, h2⟩ := eucS_end a b
 exact ratGcd_N a b N ha hb h1 h2
set_option maxHeartbeats 1000000 in
theorem ratSize_pc (n : Int) (h1 : -9223372036854775807 ≤ n) (h2 : n ≤ 9223372036854775807) : PCt 176 [(iP n)] (.v (.int .u64 (n.natAbs : Int))) := by
 exact tr true Tryz.call176 Tryz.func176 (.w (n < 0)
  (fun k1 => chain [tB 4 (decide_eq_true k1), r64 (0 - n) (by omega), .o 7 (.int (by rw [IntKind.wrap_u64]; omega) : PV.le (.e (.v (.int .u64 (IntKind.u64.wrap (0 - n))))) (.e (.v (.int .u64 (n.natAbs : Int)))))] <| .nil)
  (fun k1 => chain [tB 4 (decide_eq_false k1), .o 9 (.int (by rw [IntKind.wrap_u64]; omega) : PV.le (.e (.v (.int .u64 (IntKind.u64.wrap n)))) (.e (.v (.int .u64 (n.natAbs : Int)))))] <| .nil)) (by kernel_rfl)
set_option maxHeartbeats 1000000 in
theorem ratValid_pc (N : Int) (D : Nat) (hD1 : 1 ≤ D) (hD2 : D ≤ 1073741824) (hN1 : -1073741824 ≤ N) (hN2 : N ≤ 1073741824) (hg : Nat.gcd N.natAbs D = 1) : PCt 113 [(.agg [(iP N), (iP D)])] (bP true) := by
 exact tr true Tryz.call113 Tryz.func113 (chain [tT 5 (1 ≤ (D : Int)) (by omega), tT 9 ((D : Int) ≤ 1073741824) (by omega), tT 14 ((-1073741824) ≤ N) (by omega), tT 19 (N ≤ 1073741824) (by omega), .c (ratSize_pc _ (by omega) (by omega) : PCt 176 [(iP N)] _),
  .c (ratSize_pc _ (by omega) (by omega) : PCt 176 [(iP D)] _), .c (ratGcd_pc _ _ (by omega) (by omega) : PCt 175 [(.v (.int .u64 (((N).natAbs : Nat) : Int))), (.v (.int .u64 (((D : Int).natAbs : Nat) : Int)))] _),
  .o 29 (.bool (by rw [Int.natAbs_natCast, hg]; rfl) : PV.le (.e (bP ((((Nat.gcd ((N).natAbs) ((D : Int).natAbs)) : Nat) : Int) == 1))) (.e (bP true)))] <| .nil) (by kernel_rfl)
theorem slN0_le {x y : Nat} : E.le (.sl false 2 1 fun i_ j_ => [(.v (.int .u32 (x : Int))), (.v (.int .u32 (y : Int)))].getD (i_ * 1 + j_) (.v (.bool false))) (slP [x, y]) := .sl fun i j hi hj => by
 obtain rfl : j = 0 := by omega
 rcases i with _ | _ | i
 ·exact ⟨.refl _, rfl⟩
 ·exact ⟨.refl _, rfl⟩
 ·omega
theorem ok_n0 {n : Nat} (h : n < 4294967296) : Ok32 [n, 0] := Ok32.cons h (Ok32.cons (by decide) Ok32.nil)
theorem val_n0 (n : Nat) : val [n, 0] = n := by simp [val]
set_option maxHeartbeats 1000000 in
theorem ratLimbs_pc (n : Nat) (h : n < 4294967296) : PCt 178 [(.v (.int .u64 (n : Int)))] (slP [n, 0]) := by
 exact tr true Tryz.call178 Tryz.func178 (chain [.o 4 (.int (u32_nat _) : PV.le (.e (.v (.int .u32 (IntKind.u32.wrap (n : Int))))) (.e (.v (.int .u32 (((n % 4294967296) : Nat) : Int))))), .a (by omega : 0 ≤ (32 : Int) ∧ (32 : Int) ≤ ((64 : Nat) : Int)),
  .o 6 (.int (shr32_nat _) : PV.le (.e (.v (.int .u64 ((n : Int) / 2 ^ 32)))) (.e (.v (.int .u64 (((n / 4294967296) : Nat) : Int))))),
  .o 7 (.int (u32_nat _) : PV.le (.e (.v (.int .u32 (IntKind.u32.wrap (((n / 4294967296) : Nat) : Int))))) (.e (.v (.int .u32 ((((n / 4294967296) % 4294967296) : Nat) : Int)))))] <| rR (slP [n, 0]) (slN0_le.trans (.of_eq (by rw [Nat.mod_eq_of_lt h, Nat.div_eq_of_lt h])) : E.le (.sl false 2 1 fun i_ j_ => [(.v (.int .u32 (((n % 4294967296) : Nat) : Int))), (.v (.int .u32 ((((n / 4294967296) % 4294967296) : Nat) : Int)))].getD (i_ * 1 + j_) (.v (.bool false))) (slP [n, 0]))) (by kernel_rfl)
theorem natShl_L (L : List Nat) (n : Int) (hk : Ok32 L) (hl : L.length ≤ 256) (h0 : 0 ≤ n) (hn : n ≤ 65536) (hf : (limbs (val L * 2 ^ n.toNat)).length ≤ 256) : PCt 180 [slP L, iP n] (.tup [slP (limbs (val L * 2 ^ n.toNat)), iP 0]) := by
 obtain ⟨n, rfl⟩ := Int.eq_ofNat_of_zero_le h0
 rw [Int.toNat_natCast] at hf ⊢
 exact pcS1i hk Tryz.call180 (fun A c w h _ => natShl_ok A c L n w h hl (by omega) hf) fun A c B w e w' h hB r => rle B w e w' hB r
set_option maxHeartbeats 1000000 in
theorem ratMag_pc (N : Int) (D : Nat) (d : Dy) (hv : d.Valid) (d0 : d.m ≠ 0) (hD1 : 1 ≤ D) (hD2 : D ≤ 1073741824) (hN1 : -1073741824 ≤ N) (hN2 : N ≤ 1073741824) (hN0 : N ≠ 0) : PCt 115 [(.agg [(iP N), (iP D)]), (dyP d)] (iP (ratMag N.natAbs D d)) := by
 have hT := top_of d0
 have hbits := hv.bits
 have hbp := bitsN_pos d0
 have hlen : (limbs d.m).length ≤ 256 := limbs_len_bits (by omega)
 have ok1 : Ok32 [N.natAbs, 0] := ok_n0 (by omega)
 have ok2 : Ok32 [(D : Int).natAbs, 0] := ok_n0 (by omega)
 have hfm : (limbs (val (limbs d.m) * val [((D : Int).natAbs), 0])).length ≤ 256 := by
  rw [val_limbs, val_n0, Int.natAbs_natCast]
  exact limbs_mulD hv hD2
 exact tr true Tryz.call115 Tryz.func115 (chain [.c (dyTop_pc _ ‹_› : PCt 177 [(dyP d)] _)] <| .w (32 < (Dy.top d))
  (fun k1 => chain [tB 13 (decide_eq_true k1)] <| rQ (iP (-1)) (iP (ratMag N.natAbs D d)) (by rw [ratMag_big (by omega) hD1 d0 (by omega)]))
  (fun k1 => chain [tB 13 (decide_eq_false k1)] <| .w ((Dy.top d) < (-32))
   (fun k2 => chain [tB 16 (decide_eq_true k2)] <| rQ (iP 1) (iP (ratMag N.natAbs D d)) (by rw [ratMag_small (by omega) hD2 (by omega)]))
   (fun k2 => chain [tB 16 (decide_eq_false k2), .c (ratSize_pc _ (by omega) (by omega) : PCt 176 [(iP N)] _), .c (ratLimbs_pc _ (by omega) : PCt 178 [(.v (.int .u64 (((N).natAbs : Nat) : Int)))] _),
    .c (ratSize_pc _ (by omega) (by omega) : PCt 176 [(iP D)] _), .c (ratLimbs_pc _ (by omega) : PCt 178 [(.v (.int .u64 (((D : Int).natAbs : Nat) : Int)))] _),
    .c (natMul_L _ _ (ok_limbs _) ok2 (by omega) (by simp) hfm : PCt 179 [(slP (limbs d.m)), (slP [((D : Int).natAbs), 0])] _)] <| .w (0 ≤ d.e)
    (fun k3 => by
     have hfs : (limbs (val (limbs (val (limbs d.m) * val [((D : Int).natAbs), 0])) * 2 ^ (d.e).toNat)).length ≤ 256 := by
      rw [val_limbs, val_limbs, val_n0, Int.natAbs_natCast]
      exact (limbs_mulDe (d := d) hD2 (by omega)).resolve_right (by omega)
     exact chain [tB 33 (decide_eq_true k3), .c (natShl_L _ _ (ok_limbs _) hfm (by omega) (by omega) hfs : PCt 180 [(slP (limbs (val (limbs d.m) * val [((D : Int).natAbs), 0]))), (iP d.e)] _),
      .c (natCmp_pc _ _ ok1 (ok_limbs _) (by simp) (by omega) : PCt 181 [(slP [((N).natAbs), 0]), (slP (limbs (val (limbs (val (limbs d.m) * val [((D : Int).natAbs), 0])) * 2 ^ (d.e).toNat)))] _)] <| rQ (iP (cmpN (val [((N).natAbs), 0]) (val (limbs (val (limbs (val (limbs d.m) * val [((D : Int).natAbs), 0])) * 2 ^ (d.e).toNat))))) (iP (ratMag N.natAbs D d)) (by simp only [val_limbs, val_n0, Int.natAbs_natCast]; unfold ratMag; rw [show (-d.e).toNat = 0 from by omega, Nat.pow_zero, Nat.mul_one]))
    (fun k3 => by
     have hfs : (limbs (val [((N).natAbs), 0] * 2 ^ ((0 - d.e)).toNat)).length ≤ 256 := by
      rw [val_n0, Int.zero_sub]
      exact limbs_ae hv (by omega) (by omega)
     exact chain [tB 33 (decide_eq_false k3), r64 (0 - d.e) (by omega), .c (natShl_L _ _ ok1 (by simp) (by omega) (by omega) hfs : PCt 180 [(slP [((N).natAbs), 0]), (iP (0 - d.e))] _),
      .c (natCmp_pc _ _ (ok_limbs _) (ok_limbs _) (by omega) (by omega) : PCt 181 [(slP (limbs (val [((N).natAbs), 0] * 2 ^ ((0 - d.e)).toNat))), (slP (limbs (val (limbs d.m) * val [((D : Int).natAbs), 0])))] _)] <| rQ (iP (cmpN (val (limbs (val [((N).natAbs), 0] * 2 ^ ((0 - d.e)).toNat))) (val (limbs (val (limbs d.m) * val [((D : Int).natAbs), 0]))))) (iP (ratMag N.natAbs D d)) (by simp only [val_limbs, val_n0, Int.natAbs_natCast, Int.zero_sub]; unfold ratMag; rw [show d.e.toNat = 0 from by omega, Nat.pow_zero, Nat.mul_one]))))) (by kernel_rfl)
theorem ratMag_range (a D : Nat) (d : Dy) : -1 ≤ ratMag a D d ∧ ratMag a D d ≤ 1 := by
 unfold ratMag cmpN
 split
 ·omega
 ·split <;> omega
theorem sign_zero {d : Dy} (h : d.sign ≠ 0) : d.m ≠ 0 := fun q => h (by unfold Dy.sign; rw [if_pos q])
set_option maxHeartbeats 1000000 in
theorem ratCompare_pc (N : Int) (D : Nat) (d : Dy) (hv : d.Valid) (hD1 : 1 ≤ D) (hD2 : D ≤ 1073741824) (hN1 : -1073741824 ≤ N) (hN2 : N ≤ 1073741824) (hg : Nat.gcd N.natAbs D = 1) : PCt 37 [(.agg [(iP N), (iP D)]), (dyP d)] (.tup [(iP (ratCmp N D d)), (iP 0)]) := by
 exact tr true Tryz.call37 Tryz.func37 (chain [.c (ratValid_pc _ _ (by omega) (by omega) (by omega) (by omega) hg : PCt 113 [(.agg [(iP N), (iP D)])] _), .c (dyValid_pc _ ‹_› : PCt 98 [(dyP d)] _)] <| .w (0 < N)
  (fun k1 => chain [tB 19 (decide_eq_true k1), .c (dySign_pc _ ‹_› : PCt 114 [(dyP d)] _)] <| .w (1 < (Dy.sign d))
   (fun k2 => chain [tB 29 (decide_eq_true k2)] <| rR (.tup [(iP (ratCmp N D d)), (iP 0)]) (by
      exact .of_eq (by
       have e : ratCmp N D d = (-1) := by
        unfold ratCmp sgnI
        simp [k1, k2]
       rw [e]) : E.le (.tup [(iP (-1)), (iP 0)]) (.tup [(iP (ratCmp N D d)), (iP 0)])))
   (fun k2 => chain [tB 29 (decide_eq_false k2)] <| .w ((Dy.sign d) < 1)
    (fun k3 => chain [tB 33 (decide_eq_true k3)] <| rR (.tup [(iP (ratCmp N D d)), (iP 0)]) (by
      exact .of_eq (by
       have e : ratCmp N D d = 1 := by
        unfold ratCmp sgnI
        simp [k1, k2, k3]
       rw [e]) : E.le (.tup [(iP 1), (iP 0)]) (.tup [(iP (ratCmp N D d)), (iP 0)])))
    (fun k3 => by
     have d0 : d.m ≠ 0 := sign_zero (by omega)
     have hmr := ratMag_range N.natAbs D d
     exact chain [tB 33 (decide_eq_false k3), tB 36 (by decide : ((1 : Int) == 0) = false), .c (ratMag_pc _ _ _ hv d0 hD1 hD2 hN1 hN2 (by omega) : PCt 115 [(.agg [(iP N), (iP D)]), (dyP d)] _), r64 (1 * (ratMag N.natAbs D d)) (by omega)] <| rR (.tup [(iP (ratCmp N D d)), (iP 0)]) (by
      exact .of_eq (by
       have e : ratCmp N D d = (1 * (ratMag N.natAbs D d)) := by
        unfold ratCmp sgnI
        simp [k1, k2, k3]
       rw [e]) : E.le (.tup [(iP (1 * (ratMag N.natAbs D d))), (iP 0)]) (.tup [(iP (ratCmp N D d)), (iP 0)])))))
  (fun k1 => chain [tB 19 (decide_eq_false k1)] <| .w (N < 0)
   (fun k2 => chain [tB 23 (decide_eq_true k2), .c (dySign_pc _ ‹_› : PCt 114 [(dyP d)] _)] <| .w ((-1) < (Dy.sign d))
    (fun k3 => chain [tB 29 (decide_eq_true k3)] <| rR (.tup [(iP (ratCmp N D d)), (iP 0)]) (by
      exact .of_eq (by
       have e : ratCmp N D d = (-1) := by
        unfold ratCmp sgnI
        simp [k1, k2, k3]
       rw [e]) : E.le (.tup [(iP (-1)), (iP 0)]) (.tup [(iP (ratCmp N D d)), (iP 0)])))
    (fun k3 => chain [tB 29 (decide_eq_false k3)] <| .w ((Dy.sign d) < (-1))
     (fun k4 => chain [tB 33 (decide_eq_true k4)] <| rR (.tup [(iP (ratCmp N D d)), (iP 0)]) (by
      exact .of_eq (by
       have e : ratCmp N D d = 1 := by
        unfold ratCmp sgnI
        simp [k1, k2, k3, k4]
       rw [e]) : E.le (.tup [(iP 1), (iP 0)]) (.tup [(iP (ratCmp N D d)), (iP 0)])))
     (fun k4 => by
      have d0 : d.m ≠ 0 := sign_zero (by omega)
      have hmr := ratMag_range N.natAbs D d
      exact chain [tB 33 (decide_eq_false k4), tB 36 (by decide : (((-1) : Int) == 0) = false), .c (ratMag_pc _ _ _ hv d0 hD1 hD2 hN1 hN2 (by omega) : PCt 115 [(.agg [(iP N), (iP D)]), (dyP d)] _), r64 ((-1) * (ratMag N.natAbs D d)) (by omega)] <| rR (.tup [(iP (ratCmp N D d)), (iP 0)]) (by
      exact .of_eq (by
       have e : ratCmp N D d = ((-1) * (ratMag N.natAbs D d)) := by
        unfold ratCmp sgnI
        simp [k1, k2, k3, k4]
       rw [e]) : E.le (.tup [(iP ((-1) * (ratMag N.natAbs D d))), (iP 0)]) (.tup [(iP (ratCmp N D d)), (iP 0)])))))
   (fun k2 => chain [tB 23 (decide_eq_false k2), .c (dySign_pc _ ‹_› : PCt 114 [(dyP d)] _)] <| .w (0 < (Dy.sign d))
    (fun k3 => chain [tB 29 (decide_eq_true k3)] <| rR (.tup [(iP (ratCmp N D d)), (iP 0)]) (by
      exact .of_eq (by
       have e : ratCmp N D d = (-1) := by
        unfold ratCmp sgnI
        simp [k1, k2, k3]
       rw [e]) : E.le (.tup [(iP (-1)), (iP 0)]) (.tup [(iP (ratCmp N D d)), (iP 0)])))
    (fun k3 => chain [tB 29 (decide_eq_false k3)] <| .w ((Dy.sign d) < 0)
     (fun k4 => chain [tB 33 (decide_eq_true k4)] <| rR (.tup [(iP (ratCmp N D d)), (iP 0)]) (by
      exact .of_eq (by
       have e : ratCmp N D d = 1 := by
        unfold ratCmp sgnI
        simp [k1, k2, k3, k4]
       rw [e]) : E.le (.tup [(iP 1), (iP 0)]) (.tup [(iP (ratCmp N D d)), (iP 0)])))
     (fun k4 => chain [tB 33 (decide_eq_false k4), tB 36 (by decide : ((0 : Int) == 0) = true)] <| rR (.tup [(iP (ratCmp N D d)), (iP 0)]) (by
      exact .of_eq (by
       have e : ratCmp N D d = 0 := by
        unfold ratCmp sgnI
        simp [k1, k2, k3, k4]
       rw [e]) : E.le (.tup [(iP 0), (iP 0)]) (.tup [(iP (ratCmp N D d)), (iP 0)]))))))) (by kernel_rfl)
open Go.RowKit Fp Pu
theorem refInt_pc (n : Nat) (hn : n < 4294967296) : PCt 70 [iP ((n : Nat) : Int)] (dyP (canon false n 0)) := by
 refine ⟨Tryz.call70, fun w B vs hK hB hr => ?_⟩
 obtain ⟨v1, vs, rfl, h1, hr⟩ := hr.uncons
 obtain rfl := hr.nil_inv
 obtain rfl := Rep.v_inv h1
 exact (refInt_any n w hn).mono fun e w' h => rd B w e w' hB h
end Go.Proofs.YtdppllbbgfekaaaGreatDoor
namespace Go.Proofs.YtdppllbbgfekaaaGreatDoor.Fp
end Go.Proofs.YtdppllbbgfekaaaGreatDoor.Fp
namespace Go.Proofs.YtdppllbbgfekaaaGreatDoor
open Go.RowKit Fp Pu
theorem dyCanonL_pc (s : Bool) (L : List Nat) (e : Int) (hk : Ok32 L) (hl : L.length ≤ 256) (he1 : -1000000 ≤ e) (he2 : e ≤ 1000000) : PCt 174 [bP s, slP L, iP e] (dyP (canon s (val L) e)) := by
 refine ⟨Tryz.call174, fun w B vs hK hB hr => ?_⟩
 obtain ⟨v1, vs, rfl, h1, hr⟩ := hr.uncons
 obtain ⟨v2, vs, rfl, h2, hr⟩ := hr.uncons
 obtain ⟨v3, vs, rfl, h3, hr⟩ := hr.uncons
 obtain rfl := hr.nil_inv
 obtain rfl := Rep.v_inv h1
 obtain rfl := Rep.v_inv h3
 obtain ⟨A, c, rfl, s1⟩ := slP_inv hk h2
 exact (dyCanon_any s A c L e w s1 (by omega) (by have := tlen_le L; unfold tlen at this; omega) he1 he2 hK).mono fun e w' h => rd B w e w' hB h
theorem two_le (x y : Nat) : E.le (.sl false 2 1 fun i j => [E.v (.int .u32 ((x : Nat) : Int)), .v (.int .u32 ((y : Nat) : Int))].getD (i * 1 + j) (.v (.bool false))) (slP [x, y]) := .sl fun i j hi hj => by
 obtain rfl : j = 0 := by omega
 obtain rfl | rfl : i = 0 ∨ i = 1 := by omega
 ·exact ⟨.refl _, rfl⟩
 ·exact ⟨.refl _, rfl⟩
theorem intD_nat (n : Nat) : intD ((n : Nat) : Int) = canon false n 0 := by
 unfold intD canonZ
 rw [decide_eq_false (by omega), Int.natAbs_natCast]
theorem intD_valid (n : Nat) (h : n < 4294967296) : (intD ((n : Nat) : Int)).Valid := by
 rw [intD_nat]
 refine ⟨canon_canon _ _ _, ?_⟩
 by_cases h0 : n = 0
 ·subst h0; exact .inl rfl
 ·have := canon_bits (s := false) (e := 0) h0
  have hb : bitsN n ≤ 32 := bitsN_le_iff.2 h
  refine .inr ⟨by omega, by omega, ?_, by omega⟩
  obtain ⟨h1, h2, h3, h4⟩ := this
  have := bitsN_pos h3
  omega
theorem val_two (x y : Nat) : val [x, y] = x + 4294967296 * y := by simp [val]
open Go.RowKit Fp Pu
theorem refScale_pc (d : Dy) (k : Int) (hd : d.Valid) (hk1 : -32768 ≤ k) (hk2 : k ≤ 32768) (hr : inRange (canon d.neg d.m (d.e + k))) : PCt 79 [dyP d, iP k] (.tup [dyP (canon d.neg d.m (d.e + k)), iP 0]) := by
 refine ⟨Tryz.call79, fun w B vs hK hB hrr => ?_⟩
 obtain ⟨v1, vs, rfl, h1, hrr⟩ := hrr.uncons
 obtain ⟨v2, vs, rfl, h2, hrr⟩ := hrr.uncons
 obtain rfl := hrr.nil_inv
 obtain ⟨A, c, rfl, s1⟩ := dyP_inv h1
 obtain rfl := Rep.v_inv h2
 have := refScale_yes d.neg A c (limbs d.m) d.e k w s1 hd.dok hk1 hk2 (by rw [val_limbs]; exact hr)
 rw [val_limbs] at this
 exact this.mono fun e w' h => rde B w e w' hB h
theorem canon_again {n : Int} {e : Int} : canon (intD n).neg (intD n).m ((intD n).e + e) = canonZ n e := by
 unfold intD canonZ
 by_cases h : n.natAbs = 0
 ·rw [h, canon_zero, canon_zero]
  show canon false 0 _ = _
  rw [canon_zero]
 ·have h1 := div_ctz_mul h
  rw [show canon (decide (n < 0)) n.natAbs 0 = ⟨decide (n < 0), n.natAbs / 2 ^ ctzN n.natAbs, 0 + (ctzN n.natAbs : Int)⟩ by unfold canon; rw [if_neg h]]
  show canon (decide (n < 0)) (n.natAbs / 2 ^ ctzN n.natAbs) (0 + (ctzN n.natAbs : Int) + e) = _
  rw [← canon_mul _ _ _ (ctzN n.natAbs), h1]
  congr 1
  omega
theorem canonZ_valid {n e : Int} (h1 : n.natAbs < 4294967296) (h2 : -1000 ≤ e) (h3 : e ≤ 1000) : (canonZ n e).Valid := by
 refine ⟨canon_canon _ _ _, ?_⟩
 unfold canonZ
 by_cases h0 : n.natAbs = 0
 ·rw [h0, canon_zero]; exact .inl rfl
 ·have := canon_bits (s := decide (n < 0)) (e := e) h0
  have hb : bitsN n.natAbs ≤ 32 := bitsN_le_iff.2 h1
  obtain ⟨h4, h5, h6, _⟩ := this
  have := bitsN_pos h6
  exact .inr ⟨by omega, by omega, by omega, by omega⟩
theorem intZ_valid {n : Int} (h1 : n.natAbs < 4294967296) : (intD n).Valid := canonZ_valid h1 (by decide) (by decide)
theorem refIntN_any (k : Nat) (w : World) (h0 : 0 < k) (hn : k < 4294967296) :
  Calls Tryz.prog 70 #[.int .i64 (-(k : Int))] w (RetD w (canon true k 0)) := by
 have hm := and_mask k (by omega)
 have hm2 : (k : Int) % 4294967296 = k := by omega
 rw [hm2] at hm
 have hd : (k : Int) / 4294967296 = 0 := by omega
 have hlt : (-(k : Int)) < 0 := by omega
 have hdl : decide ((-(k : Int)) < 0) = true := decide_eq_true hlt
 have hu : IntKind.u64.wrap (-(k : Int)) = 18446744073709551616 - k := by rw [IntKind.wrap_u64]; omega
 have hs : IntKind.u64.wrap (-(18446744073709551616 - (k : Int))) = k := by rw [IntKind.wrap_u64]; omega
 have HC := Lib.hid (fun (A : Option Addr) c w (h : Sl w A c [k, 0]) => refOf_any true A c [k, 0] 0 w h (by simp) (by decide) (by decide))
 have hv : val [k, 0] = k := by simp
 rw [hv] at HC
 clear hv
 generalize canon true k 0 = d at *
 generalize hN : (-(k : Int)) = N at *
 go_enter Tryz.func70, Tryz.ntmps70
 go_wp2_with fail
 refine (HC.out _ _ _ (Sl.two _ _ (by simp) _ _ k 0 rfl rfl hn (by decide))).mono ?_
 rintro r w1 ⟨A1, c1, rfl, hs1, hb1⟩
 have hb0 : Ext (w.alloc (.cells #[.bool false, .slice none 0 0, .int .i64 0] 26)) w1 := (Ext.alloc _ _).trans hb1
 have bx := (Box3.new w false none 0 0 0).ext hb0
 have b0 := bx.c0; have b1 := bx.c1; have b2 := bx.c2; have f0 := bx.fr 0; have f1 := bx.fr 1; have f2 := bx.fr 2
 go_wp2
 exact dy_ret rfl rfl rfl (bx.set _ _ _ _ _) rfl (bx.set_sl hs1 _ _ _ _ _) (Box3.set_ext ((Ext.alloc _ _).trans hb0) (Nat.le_refl _) _ _ _ _ _)
theorem intD_neg (k : Nat) (h0 : 0 < k) : intD (-(k : Int)) = canon true k 0 := by
 unfold intD canonZ
 rw [decide_eq_true (show (-(k : Int)) < 0 by omega), Int.natAbs_neg, Int.natAbs_natCast]
theorem refIntZ_pc (n : Int) (h : n.natAbs < 4294967296) : PCt 70 [iP n] (dyP (intD n)) := by
 by_cases h0 : 0 ≤ n
 ·obtain ⟨k, rfl⟩ := Int.eq_ofNat_of_zero_le h0
  rw [intD_nat]; exact refInt_pc k (by omega)
 ·obtain ⟨k, rfl⟩ : ∃ k : Nat, n = -(k : Int) := ⟨n.natAbs, by omega⟩
  rw [intD_neg k (by omega)]
  refine ⟨Tryz.call70, fun w B vs hK hB hr => ?_⟩
  obtain ⟨v1, vs, rfl, h1, hr⟩ := hr.uncons
  obtain rfl := hr.nil_inv
  obtain rfl := Rep.v_inv h1
  exact (refIntN_any k w (by omega) (by omega)).mono fun e w' h => rd B w e w' hB h
open Go.RowKit Fp Pu
def RetLF (w : World) (L : List Nat) (e : Ending) (w' : World) : Prop := ∃ A c, e = .returned (.slice A L.length c) ∧ Sl w' A c L ∧ Ext w w' ∧ ∀ b o s, A = some ⟨b, o, s⟩ → w.heap.size ≤ b
theorem RetLF.l {w : World} {L : List Nat} {e : Ending} {w' : World} (h : RetLF w L e w') : RetL w L e w' := let ⟨A, c, h1, h2, h3, _⟩ := h; ⟨A, c, h1, h2, h3⟩
open Go.RowKit Fp Pu
open Go.RowKit Fp Pu
end Go.Proofs.YtdppllbbgfekaaaGreatDoor
namespace Go.Proofs.YtdppllbbgfekaaaGreatDoor.Fp
end Go.Proofs.YtdppllbbgfekaaaGreatDoor.Fp
namespace Go.Proofs.YtdppllbbgfekaaaGreatDoor
open Go.RowKit Fp Pu
open Go.RowKit Fp Pu
open Go.RowKit Fp Pu
open Go.RowKit Fp Pu
open Go.RowKit Fp Pu
open Go.RowKit Fp Pu
open Go.RowKit Fp Pu
set_option maxHeartbeats 2000000 in
theorem r5Point_pc (d : Dy) : PCt 39 [(dyP d)] (ivP (pointI d)) := by
 exact tr true Tryz.call39 Tryz.func39 (.nil) (by kernel_rfl)
open Go.RowKit Fp Pu
open Go.RowKit Fp Pu
abbrev ivsE (xs : List Iv) : Nat → Nat → E := fun i j => (ivL (xs.getD i wholeI)).getD j .any
abbrev matE (M : List (List Iv)) : Nat → Nat → E := fun i _ => ivsP (M.getD i [])
abbrev lnE (M : List (List Iv)) : Nat → Nat := fun q => (M.getD q []).length
abbrev rowsE (M : List (List Iv)) : Nat → Nat → Nat → E := fun q i j => (ivL ((M.getD q []).getD i wholeI)).getD j .any
theorem ivL_nr (x : Iv) (j : Nat) (hj : j < 7) : ((ivL x).getD j .any).nr 2 = true := by
 rcases j with _ | _ | _ | _ | _ | _ | _ | j
 all_goals first | rfl | omega
theorem ivsP_nr (xs : List Iv) : (ivsP xs).nr 2 = true := rfl
def buildM (n : Nat) (c : Nat → Nat) (F : Nat → Nat → Iv) (x k : Nat) : List (List Iv) := (List.range n).map fun q => (List.range (if q < x then c q else if q = x then k else 0)).map (F q)
def wholeM (n : Nat) (c : Nat → Nat) (F : Nat → Nat → Iv) : List (List Iv) := (List.range n).map fun q => (List.range (c q)).map (F q)
theorem buildM_len (n : Nat) (c : Nat → Nat) (F : Nat → Nat → Iv) (x k : Nat) : (buildM n c F x k).length = n := by simp [buildM]
theorem buildM_row {n : Nat} {c : Nat → Nat} {F : Nat → Nat → Iv} {x k q : Nat} (h : q < n) : (buildM n c F x k).getD q [] = (List.range (if q < x then c q else if q = x then k else 0)).map (F q) := by
 simp [buildM, List.getD_eq_getElem?_getD, h]
theorem wholeM_row {n : Nat} {c : Nat → Nat} {F : Nat → Nat → Iv} {q : Nat} (h : q < n) : (wholeM n c F).getD q [] = (List.range (c q)).map (F q) := by
 simp [wholeM, List.getD_eq_getElem?_getD, h]
theorem lnE_at {n x k : Nat} {c : Nat → Nat} {F : Nat → Nat → Iv} (h : x < n) : lnE (buildM n c F x k) x = k := by simp only [lnE, buildM_row h]; simp
theorem one_len {α : Type} (y : α) : [y].length = 1 := rfl
theorem range_getD {n i : Nat} {F : Nat → Iv} (h : i < n) : ((List.range n).map F).getD i wholeI = F i := by
 simp [List.getD_eq_getElem?_getD, h]
theorem rows_init {T1 T0 n n' : Nat} {c : Nat → Nat} {F : Nat → Nat → Iv} (hn : n = n') : Bx.le (.rows true T1 T0 n 7 (fun _ => 0) (fun _ _ _ => .any) .none) (.rows true T1 T0 n' 7 (lnE (buildM n' c F 0 0)) (rowsE (buildM n' c F 0 0)) .none) := by
 subst hn
 refine .rows rfl (fun k hk => ?_) (fun k i j hk hi hj => absurd hi (Nat.not_lt_zero i))
 show 0 = ((buildM n c F 0 0).getD k []).length
 rw [buildM_row hk]; simp
theorem rows_push {T1 T0 n n' m x k : Nat} {c : Nat → Nat} {F : Nat → Nat → Iv} {y : Iv} (hn : n = n') (hm : m = n) (hx : x < n) (hy : y = F x k) :
  Bx.le (.rows true T1 T0 n 7 (fun q => if q = x then lnE (buildM m c F x k) q + [y].length else lnE (buildM m c F x k) q)
    (fun q i j => if q = x then (if i < lnE (buildM m c F x k) q then rowsE (buildM m c F x k) q i j else (E.elf (ivsP [y])) (i - lnE (buildM m c F x k) q) j) else rowsE (buildM m c F x k) q i j) .none)
   (.rows true T1 T0 n' 7 (lnE (buildM m c F x (k + 1))) (rowsE (buildM m c F x (k + 1))) .none) := by
 subst hn hm hy
 have hl : ∀ q, q < m → (if q = x then lnE (buildM m c F x k) q + [F x k].length else lnE (buildM m c F x k) q) = lnE (buildM m c F x (k + 1)) q := by
  intro q hq
  simp only [lnE, buildM_row hq, List.length_map, List.length_range, List.length_cons, List.length_nil]
  by_cases h1 : q = x
  ·subst h1; simp
  ·simp [h1]
 refine .rows rfl hl (fun q i j hq hi hj => ⟨.of_eq ?_, ivL_nr _ _ hj⟩)
 by_cases h1 : q = x
 ·subst h1
  rw [if_pos rfl] at hi ⊢
  simp only [lnE, rowsE, buildM_row hq, List.length_map, List.length_range, List.length_cons, List.length_nil, Nat.lt_irrefl, if_false, if_true] at hi ⊢
  by_cases h2 : i < k
  ·rw [if_pos h2, range_getD h2, range_getD (by omega)]
  ·have : i = k := by omega
   subst this
   rw [if_neg h2, Nat.sub_self, range_getD (by omega)]
   rfl
 ·rw [if_neg h1] at hi ⊢
  simp only [lnE, rowsE, buildM_row hq, List.length_map, List.length_range, h1, if_false] at hi ⊢
theorem rows_next {T1 T0 n n' m x : Nat} {c : Nat → Nat} {F : Nat → Nat → Iv} (hn : n = n') : Bx.le (.rows true T1 T0 n 7 (lnE (buildM m c F x (c x))) (rowsE (buildM m c F x (c x))) .none) (.rows true T1 T0 n' 7 (lnE (buildM m c F (x + 1) 0)) (rowsE (buildM m c F (x + 1) 0)) .none) := by
 subst hn
 have : buildM m c F x (c x) = buildM m c F (x + 1) 0 := by
  unfold buildM
  congr 1
  funext q
  congr 2
  by_cases h : q < x
  ·rw [if_pos h, if_pos (by omega)]
  ·by_cases h2 : q = x
   ·subst h2; rw [if_neg h, if_pos rfl, if_pos (by omega)]
   ·rw [if_neg h, if_neg h2, if_neg (by omega)]; split <;> rfl
 rw [this]
 exact .refl _
theorem buildM_done (n : Nat) (c : Nat → Nat) (F : Nat → Nat → Iv) : buildM n c F n 0 = wholeM n c F := by
 unfold buildM wholeM
 apply List.map_congr_left
 intro q hq
 rw [if_pos (List.mem_range.1 hq)]
theorem matRows_le {n : Nat} {M : List (List Iv)} (hn : n = M.length) : E.le (.sl true n 1 fun k _ => .sl true (lnE M k) 7 (rowsE M k)) (matP M) := by subst hn; exact .refl _
theorem matDone_le {n : Nat} {c : Nat → Nat} {F : Nat → Nat → Iv} : E.le (.sl true n 1 fun k _ => .sl true (lnE (buildM n c F n 0) k) 7 (rowsE (buildM n c F n 0) k)) (matP (wholeM n c F)) :=
 E.le.trans (matRows_le (buildM_len _ _ _ _ _).symm) (.of_eq (by rw [buildM_done]))
open Go.RowKit Fp Pu
def eachFam (m : List (List Iv)) (g : FuncId) (cap : List E) (F : Nat → Nat → Iv) (x : Nat) : PS := ⟨44, true, [(15, .e (iP x)), (14, .e (iP m.length)), (13, .e (matP m)), (5, .own 12), (1, .e (.fn g cap))], [(12, .rows true 31 28 m.length 7 (lnE (buildM m.length (fun q => (m.getD q []).length) F x 0)) (rowsE (buildM m.length (fun q => (m.getD q []).length) F x 0)) .none)]⟩
def eachFamIn (m : List (List Iv)) (g : FuncId) (cap : List E) (F : Nat → Nat → Iv) (x : Nat) (k : Nat) : PS := ⟨44, true, [(22, .e (iP k)), (21, .e (iP (((m.getD x []).length : Nat) : Int))), (20, .e (ivsP (m.getD x []))), (6, .e (iP x)), (15, .e (iP x)), (14, .e (iP m.length)), (13, .e (matP m)), (5, .own 12), (1, .e (.fn g cap))], [(12, .rows true 31 28 m.length 7 (lnE (buildM m.length (fun q => (m.getD q []).length) F x k)) (rowsE (buildM m.length (fun q => (m.getD q []).length) F x k)) .none)]⟩
theorem matEach_pc (m : List (List Iv)) (g : FuncId) (cap : List E) (F : Nat → Nat → Iv) (hl : m.length ≤ 1000) (hr : ∀ i, (m.getD i []).length ≤ 1000) (hf : ∀ i j, i < m.length → j < (m.getD i []).length → PCt g (iP (i : Int) :: iP (j : Int) :: ivP ((m.getD i []).getD j wholeI) :: cap) (ivP (F i j))) : PCt 124 [(matP m), (.fn g cap)] (matP (wholeM m.length (fun q => (m.getD q []).length) F)) := by
 exact tr true Tryz.call124 Tryz.func124 (chain [.a (by omega : 0 ≤ ((m.length : Int) : Int) ∧ ((m.length : Int) : Int) ≤ ((m.length : Int) : Int)),
  .a (by omega : ((24 : Nat) : Int) * (m.length : Int) ≤ 281474976710656 ∧ ((m.length : Int) : Int) ≤ 9223372036854775807),
  .s (Sp.upto (eachFam m g cap F) 0 m.length (by omega) (fun x hx hltx => by
    have hx2 := hr x
    exact spt (chain [tT 16 ((x : Int) < (m.length : Int)) (by omega), iX ((x : Int)) (m.length) (by omega),
     .s (Sp.upto (eachFamIn m g cap F x) 0 ((m.getD x []).length) (by omega) (fun k hk hltk => by
    have hx2 := hr x
    have hle : lnE (buildM m.length (fun q => (m.getD q []).length) F x k) x = k := lnE_at (by omega)
    have h1 := one_len (F x k)
    exact spt (chain [tT 23 ((k : Int) < (((m.getD x []).length : Nat) : Int)) (by omega), iX ((k : Int)) ((m.getD x []).length) (by omega), iX ((x : Int)) (m.length) (by omega), .a (by omega : x < m.length),
     .c (hf x k (by omega) (by omega) : PCt g ((iP x) :: (iP k) :: (ivP ((m.getD x []).getD k wholeI)) :: cap) _),
     .o 38 (.e (ivs1_le _) : PV.le (.e (.sl true 1 7 fun i_ j_ => (ivL (F x k)).getD (i_ * 7 + j_) (.v (.bool false)))) (.e (ivsP [(F x k)]))), .a (by omega : x < m.length),
     .a (by omega : ((lnE (buildM m.length (fun q => (m.getD q []).length) F x k)) x + [(F x k)].length) * 88 ≤ 140737488355328), iX ((x : Int)) (m.length) (by omega), .a (rfl : x = x), .a (rfl : x = x), .a (by omega : x < m.length),
     r64 ((k : Int) + 1) (by omega)] <| .e (chain [.b 12 (rows_push rfl (by omega) (by omega) rfl : Bx.le (.rows true 31 28 m.length 7 (fun q => if q = x then (lnE (buildM m.length (fun q => (m.getD q []).length) F x k)) q + [(F x k)].length else (lnE (buildM m.length (fun q => (m.getD q []).length) F x k)) q) (fun q i j => if q = x then (if i < (lnE (buildM m.length (fun q => (m.getD q []).length) F x k)) q then (rowsE (buildM m.length (fun q => (m.getD q []).length) F x k)) q i j else (E.elf (ivsP [(F x k)])) (i - (lnE (buildM m.length (fun q => (m.getD q []).length) F x k)) q) j) else (rowsE (buildM m.length (fun q => (m.getD q []).length) F x k)) q i j) .none) (.rows true 31 28 m.length 7 (lnE (buildM m.length (fun q => (m.getD q []).length) F x (k + 1))) (rowsE (buildM m.length (fun q => (m.getD q []).length) F x (k + 1))) .none))] <| .nil)) (by kernel_rfl))
  (fun hk => by
    exact spt (chain [tF 23 ((((m.getD x []).length : Nat) : Int) < (((m.getD x []).length : Nat) : Int)) (by omega)] <| .nil) (by kernel_rfl)) (by nofun) : LpT 6 Tryz.f124 (eachFamIn m g cap F x 0) (.exit 2) ⟨44, true, [(15, .e (iP x)), (14, .e (iP m.length)), (13, .e (matP m)), (5, .own 12), (1, .e (.fn g cap))], [(12, .rows true 31 28 m.length 7 (lnE (buildM m.length (fun q => (m.getD q []).length) F x ((m.getD x []).length))) (rowsE (buildM m.length (fun q => (m.getD q []).length) F x ((m.getD x []).length))) .none)]⟩) .nil,
     r64 ((x : Int) + 1) (by omega)] <| .e (chain [.b 12 (rows_next rfl : Bx.le (.rows true 31 28 m.length 7 (lnE (buildM m.length (fun q => (m.getD q []).length) F x ((m.getD x []).length))) (rowsE (buildM m.length (fun q => (m.getD q []).length) F x ((m.getD x []).length))) .none) (.rows true 31 28 m.length 7 (lnE (buildM m.length (fun q => (m.getD q []).length) F (x + 1) 0)) (rowsE (buildM m.length (fun q => (m.getD q []).length) F (x + 1) 0)) .none))] <| .nil)) (by kernel_rfl))
  (fun hx => by
    exact spt (chain [tF 16 ((m.length : Int) < (m.length : Int)) (by omega)] <| .nil) (by kernel_rfl)) (by nofun) : LpT 3 Tryz.f124 (eachFam m g cap F 0) (.exit 0) ⟨44, true, [(5, .own 12)], [(12, .rows true 31 28 m.length 7 (lnE (buildM m.length (fun q => (m.getD q []).length) F m.length 0)) (rowsE (buildM m.length (fun q => (m.getD q []).length) F m.length 0)) .none)]⟩) (chain [.b 12 (rows_init rfl : Bx.le (.rows true 31 28 m.length 7 (fun _ => 0) (fun _ _ _ => .any) .none) (.rows true 31 28 m.length 7 (lnE (buildM m.length (fun q => (m.getD q []).length) F 0 0)) (rowsE (buildM m.length (fun q => (m.getD q []).length) F 0 0)) .none))] <| .nil)] <| rR (matP (wholeM m.length (fun q => (m.getD q []).length) F)) (by
      rw [← buildM_done]; exact matRows_le (buildM_len _ _ _ _ _).symm : E.le (.sl true m.length 1 fun k_ _ => .sl true ((lnE (buildM m.length (fun q => (m.getD q []).length) F m.length 0)) k_) 7 ((rowsE (buildM m.length (fun q => (m.getD q []).length) F m.length 0)) k_)) (matP (wholeM m.length (fun q => (m.getD q []).length) F)))) (by kernel_rfl)
open Go.RowKit Fp Pu
theorem Fp.MOk.len_at {m : List (List Iv)} {n k : Nat} (h : MOk m n k) {i : Nat} (hi : i < n) : (m.getD i []).length = k := by
 have hi' : i < m.length := by rw [h.rows]; exact hi
 rw [List.getD_eq_getElem?_getD, List.getElem?_eq_getElem hi']
 exact h.row _ (List.getElem_mem hi')
theorem Fp.MOk.val_at {m : List (List Iv)} {n k : Nat} (h : MOk m n k) {i j : Nat} (hi : i < n) (hj : j < k) : ((m.getD i []).getD j wholeI).Valid := by
 have hi' : i < m.length := by rw [h.rows]; exact hi
 have hl := h.len_at hi
 rw [List.getD_eq_getElem?_getD (l := m), List.getElem?_eq_getElem hi'] at hl ⊢
 change m[i].length = k at hl
 show (m[i].getD j wholeI).Valid
 have hj' : j < m[i].length := by rw [hl]; exact hj
 rw [List.getD_eq_getElem?_getD, List.getElem?_eq_getElem hj']
 exact h.ok _ (List.getElem_mem hi') _ (List.getElem_mem hj')
theorem Fp.MOk.len_le {m : List (List Iv)} {n k : Nat} (h : MOk m n k) (i : Nat) : (m.getD i []).length ≤ 8 := by
 by_cases hi : i < n
 ·rw [h.len_at hi]; exact h.k8
 ·rw [List.getD_eq_getElem?_getD, List.getElem?_eq_none (by rw [h.rows]; omega)]; exact Nat.zero_le _
theorem rawsM_getD (m : List (List Iv)) (i : Nat) : (rawsM m).getD i [] = rawsI (m.getD i []) := by
 unfold rawsM
 rw [List.getD_eq_getElem?_getD, List.getD_eq_getElem?_getD, List.getElem?_map]
 cases m[i]? <;> rfl
theorem Fp.MOk.good {m : List (List Iv)} {n k : Nat} (h : MOk m n k) : MGood (rawsM m) := by
 intro r hr x hx
 obtain ⟨r', h1, rfl⟩ := List.mem_map.1 hr
 obtain ⟨x', h2, rfl⟩ := List.mem_map.1 hx
 exact (h.ok _ h1 _ h2).good
theorem Fp.MOk.rok {m : List (List Iv)} {n k : Nat} (h : MOk m n k) : ROk (rawsM m) := by
 have hl : (rawsM m).length = n := by rw [← h.rows]; simp [rawsM]
 have hrow : ∀ i, i < n → ((rawsM m).getD i []).length = k := fun i hi => by rw [rawsM_getD, ← h.len_at hi]; simp [rawsI]
 have h1 := h.n1
 refine ⟨by have := h.n1; omega, by have := h.n8; omega, by rw [hrow 0 (by omega)]; exact h.k1, by rw [hrow 0 (by omega)]; exact h.k8, fun i hi => by rw [hrow 0 (by omega), hrow i (by omega)], fun i hi j hj => ?_⟩
 have hi' : i < n := by omega
 rw [hrow i hi'] at hj
 rw [rawsM_getD, getD_map_raw]
 exact (h.val_at hi' hj).okR
theorem matValid_pc (m : List (List Iv)) (n k : Nat) (h : MOk m n k) : PCt 103 [matP m] (bP true) := by
 have := matValidR_pc (rawsM m) h.good (by have := h.n8; simp [rawsM, h.rows]; omega) (fun i => by rw [rawsM_getD]; have := h.len_le i; simp only [rawsI, List.length_map]; omega)
 rwa [matOkB_true.2 h.rok, matP_raw] at this
theorem entry1_pc (i j : Nat) (x : Iv) (b : List (List Iv)) (p : Nat) (hx : x.Valid) (hy : ((b.getD i []).getD j wholeI).Valid) (hi : i < b.length) (hj : j < (b.getD i []).length) (hp1 : 8 ≤ p) (hp2 : p ≤ 512) : PCt 187 [(iP i), (iP j), (ivP x), (.ref 1 fun j_ => [(.fn 48 [])].getD j_ .any), (.ref 1 fun j_ => [(matP b)].getD j_ .any), (.ref 1 fun j_ => [(iP p)].getD j_ .any)] (ivP (addI x ((b.getD i []).getD j wholeI) p)) := by
 exact tr true Tryz.call187 Tryz.func187 (chain [iX ((i : Int)) (b.length) (by omega), iX ((j : Int)) ((b.getD i []).length) (by omega), .c (ivAdd_pc x ((b.getD i []).getD j wholeI) p ‹_› ‹_› (by omega) (by omega))] <| .nil) (by kernel_rfl)
theorem entrywise_pc (a b : List (List Iv)) (n k p : Nat) (ga : MOk a n k) (gb : MOk b n k) (hp1 : 8 ≤ p) (hp2 : p ≤ 512) : PCt 131 [(matP a), (matP b), (iP p), (.fn 48 [])] (.tup [matP (wholeM a.length (fun q => (a.getD q []).length) (fun i j => addI ((a.getD i []).getD j wholeI) ((b.getD i []).getD j wholeI) p)), iP 0]) := by
 have ra := ga.rows
 have rb := gb.rows
 have n1 := ga.n1
 have n8 := ga.n8
 have la := ga.len_at (show 0 < n by omega)
 have lb := gb.len_at (show 0 < n by omega)
 exact tr true Tryz.call131 Tryz.func131 (chain [.c (matValid_pc _ _ _ ‹_› : PCt 103 [(matP a)] _), .c (matValid_pc _ _ _ ‹_› : PCt 103 [(matP b)] _), .c (mxPrecise_pc _ : PCt 121 [(iP p)] _),
  tB 21 (precB_true.2 ⟨by omega, by omega⟩ : (precB (p : Int)) = true), tB 28 (natNe_false (by omega) : ((a.length : Int) != (b.length : Int)) = false), iX (0) (a.length) (by omega), iX (0) (b.length) (by omega),
  tB 38 (natNe_false (by omega) : ((((a.getD 0 []).length : Nat) : Int) != (((b.getD 0 []).length : Nat) : Int)) = false),
  .c (matEach_pc a 187 [(.ref 1 fun j_ => [(.fn 48 [])].getD j_ .any), (.ref 1 fun j_ => [(matP b)].getD j_ .any), (.ref 1 fun j_ => [(iP p)].getD j_ .any)] (fun i j => addI ((a.getD i []).getD j wholeI) ((b.getD i []).getD j wholeI) p) (by omega) (fun i => Nat.le_trans (ga.len_le i) (by decide)) (fun i j hi hj => entry1_pc _ _ _ _ _ (ga.val_at (by omega) (by rw [ga.len_at (by omega)] at hj; exact hj)) (gb.val_at (by omega) (by rw [ga.len_at (by omega)] at hj; exact hj)) (by omega) (by rw [gb.len_at (by omega)]; rw [ga.len_at (by omega)] at hj; exact hj) hp1 hp2))] <| .nil) (by kernel_rfl)
theorem wholeM_addM {a b : List (List Iv)} {n k p : Nat} (ga : MOk a n k) (gb : MOk b n k) : wholeM a.length (fun q => (a.getD q []).length) (fun i j => addI ((a.getD i []).getD j wholeI) ((b.getD i []).getD j wholeI) p) = addM a b p := by
 have ra := ga.rows
 have rb := gb.rows
 unfold wholeM addM
 apply List.ext_getElem
 ·simp [ra, rb]
 ·intro i h1 h2
  have hi : i < n := by simp at h1; omega
  simp only [List.getElem_map, List.getElem_range, List.getElem_zipWith]
  have ea : a.getD i [] = a[i]'(by omega) := by rw [List.getD_eq_getElem?_getD, List.getElem?_eq_getElem (by omega)]; rfl
  have eb : b.getD i [] = b[i]'(by omega) := by rw [List.getD_eq_getElem?_getD, List.getElem?_eq_getElem (by omega)]; rfl
  have la := ga.len_at hi
  have lb := gb.len_at hi
  rw [ea] at la
  rw [eb] at lb
  rw [ea, eb]
  apply List.ext_getElem
  ·simp [la, lb]
  ·intro j h3 h4
   have hj : j < k := by simp [la] at h3; exact h3
   simp only [List.getElem_map, List.getElem_range, List.getElem_zipWith]
   congr 1
   ·rw [List.getD_eq_getElem?_getD, List.getElem?_eq_getElem (by omega)]; rfl
   ·rw [List.getD_eq_getElem?_getD, List.getElem?_eq_getElem (by omega)]; rfl
theorem matAdd_pc (a b : List (List Iv)) (n k p : Nat) (ga : MOk a n k) (gb : MOk b n k) (hp1 : 8 ≤ p) (hp2 : p ≤ 512) : PCt 47 [(matP a), (matP b), (iP p)] (.tup [matP (addM a b p), iP 0]) := by
 exact tr true Tryz.call47 Tryz.func47 (chain [.c (entrywise_pc a b n k p ga gb hp1 hp2 : PCt 131 [(matP a), (matP b), (iP p), (.fn 48 [])] _)] <| rQ (.tup [(matP (wholeM a.length (fun q => (a.getD q []).length) (fun i j => addI ((a.getD i []).getD j wholeI) ((b.getD i []).getD j wholeI) p))), (iP 0)]) (.tup [matP (addM a b p), iP 0]) (by rw [wholeM_addM ga gb])) (by kernel_rfl)
open Go.RowKit Fp Pu
def Fp.dotP (X Y : Nat → Iv) (p : Nat) : Nat → Iv
 | 0 => mulI (X 0) (Y 0) p
 | k + 1 => addI (dotP X Y p k) (mulI (X (k + 1)) (Y (k + 1)) p) p
theorem dotP_valid (X Y : Nat → Iv) {p : Nat} (hp : 1 ≤ p) (hp2 : p ≤ 4096) : ∀ k, (dotP X Y p k).Valid
 | 0 => mulI_valid _ _ hp hp2
 | k + 1 => addI_valid (dotP_valid X Y hp hp2 k) (mulI_valid _ _ hp hp2) hp hp2
theorem foldl_dotP (x y : Iv) (p : Nat) : ∀ (a b : List Iv) (X Y : Nat → Iv) (s : Nat), a.length = b.length → (∀ i, i < a.length → a.getD i wholeI = X (s + 1 + i)) → (∀ i, i < b.length → b.getD i wholeI = Y (s + 1 + i)) →
  (a.zip b).foldl (fun s q => addI s (mulI q.1 q.2 p) p) (dotP X Y p s) = dotP X Y p (s + a.length)
 | [], [], X, Y, s, _, _, _ => rfl
 | [], _ :: _, _, _, _, h, _, _ => by simp at h
 | _ :: _, [], _, _, _, h, _, _ => by simp at h
 | u :: a, v :: b, X, Y, s, h, h1, h2 => by
  have e1 : u = X (s + 1) := h1 0 (by simp)
  have e2 : v = Y (s + 1) := h2 0 (by simp)
  rw [List.zip_cons_cons, List.foldl_cons]
  have : addI (dotP X Y p s) (mulI u v p) p = dotP X Y p (s + 1) := by rw [e1, e2]; rfl
  rw [this, foldl_dotP x y p a b X Y (s + 1) (by simpa using h) (fun i hi => by
    have := h1 (i + 1) (by simp; omega)
    rw [show s + 1 + 1 + i = s + 1 + (i + 1) by omega, ← this]; rfl) (fun i hi => by
    have := h2 (i + 1) (by simp; omega)
    rw [show s + 1 + 1 + i = s + 1 + (i + 1) by omega, ← this]; rfl)]
  congr 1
  simp; omega
theorem dotI_dotP {xs ys : List Iv} {p n : Nat} (h1 : xs.length = n + 1) (h2 : ys.length = n + 1) : dotI xs ys p = dotP (fun q => xs.getD q wholeI) (fun q => ys.getD q wholeI) p n := by
 match xs, ys, h1, h2 with
 | x :: a, y :: b, h1, h2 =>
  have ha : a.length = n := by simpa using h1
  have hb : b.length = n := by simpa using h2
  have := foldl_dotP x y p a b (fun q => (x :: a).getD q wholeI) (fun q => (y :: b).getD q wholeI) 0 (by omega) (fun i hi => by rw [show 0 + 1 + i = i + 1 by omega]; rfl) (fun i hi => by rw [show 0 + 1 + i = i + 1 by omega]; rfl)
  rw [Nat.zero_add, ha] at this
  exact this
theorem getD_eq_getElem {α : Type} {l : List α} {i : Nat} {d : α} (h : i < l.length) : l.getD i d = l[i] := by
 rw [List.getD_eq_getElem?_getD, List.getElem?_eq_getElem h]; rfl
theorem wholeM_mulM {a b : List (List Iv)} {n k c p : Nat} (ra : a.length = n) (la : ∀ i, i < n → (a.getD i []).length = k + 1) (rb : b.length = k + 1) (lb : (b.getD 0 []).length = c) :
  wholeM n (fun _ => c) (fun i j => dotP (fun q => (a.getD i []).getD q wholeI) (fun q => (b.getD q []).getD j wholeI) p k) = mulM a b p := by
 unfold wholeM mulM
 have hb : (b.headD []).length = c := by
  rw [← lb]
  cases b with
  | nil => rfl
  | cons r b => rfl
 rw [hb]
 apply List.ext_getElem
 ·simp [ra]
 ·intro i h1 h2
  have hi : i < n := by simp at h1; omega
  have hi2 : i < a.length := by omega
  simp only [List.getElem_map, List.getElem_range]
  apply List.map_congr_left
  intro j _
  have e := la i hi
  rw [getD_eq_getElem hi2] at e ⊢
  rw [dotI_dotP e (show (colM b j).length = k + 1 by simp [colM, rb])]
  congr 1
  funext q
  unfold colM
  by_cases hq : q < b.length
  ·rw [getD_eq_getElem (l := b.map _) (by simpa using hq), getD_eq_getElem hq]; simp
  ·rw [List.getD_eq_getElem?_getD (l := b.map _), List.getElem?_eq_none (by simpa using hq), List.getD_eq_getElem?_getD (l := b), List.getElem?_eq_none (by omega)]; simp
theorem wholeM_scaleM {a : List (List Iv)} {x : Iv} {p : Nat} : wholeM a.length (fun q => (a.getD q []).length) (fun i j => mulI x ((a.getD i []).getD j wholeI) p) = scaleM a x p := by
 unfold wholeM scaleM
 apply List.ext_getElem
 ·simp
 ·intro i h1 h2
  have hi : i < a.length := by simp at h1; omega
  simp only [List.getElem_map, List.getElem_range]
  rw [getD_eq_getElem hi]
  apply List.ext_getElem
  ·simp
  ·intro j h3 h4
   have hj : j < a[i].length := by simpa using h3
   simp only [List.getElem_map, List.getElem_range]
   rw [getD_eq_getElem hj]
theorem wholeM_ok {n k : Nat} {F : Nat → Nat → Iv} (h1 : 1 ≤ n) (h2 : n ≤ 8) (h3 : 1 ≤ k) (h4 : k ≤ 8) (hv : ∀ i j, (F i j).Valid) : MOk (wholeM n (fun _ => k) F) n k := by
 refine ⟨by simp [wholeM], fun r hr => ?_, fun r hr x hx => ?_, h1, h2, h3, h4⟩
 ·obtain ⟨i, _, rfl⟩ := List.mem_map.1 hr; simp
 ·obtain ⟨i, _, rfl⟩ := List.mem_map.1 hr
  obtain ⟨j, _, rfl⟩ := List.mem_map.1 hx
  exact hv i j
theorem ivs_pushR {T n n' k : Nat} {F : Nat → Iv} {y : Iv} (hn : n = k) (hn' : n' = k + 1) (hy : y = F k) :
  Bx.le (.row true T (n + [y].length) 7 fun i j => if i < n then ivsE ((List.range k).map F) i j else (E.elf (ivsP [y])) (i - n) j) (.row true T n' 7 (ivsE ((List.range (k + 1)).map F))) := by
 subst hn hn' hy
 refine .row rfl fun i j hi hj => ⟨.of_eq ?_, ivL_nr _ _ hj⟩
 have hi : i < n + 1 := hi
 by_cases h : i < n
 ·rw [if_pos h]
  simp only [ivsE]
  rw [range_getD h, range_getD hi]
 ·have hi' : i = n := by omega
  subst hi'
  rw [if_neg h, Nat.sub_self]
  simp only [ivsE]
  rw [range_getD hi]
  rfl
theorem rows_getD {n i : Nat} {R : Nat → List Iv} (h : i < n) : ((List.range n).map R).getD i [] = R i := by simp [List.getD_eq_getElem?_getD, h]
theorem mat_pushR {T n n' k m : Nat} {R : Nat → List Iv} {p : E} (hn : n = k) (hn' : n' = k + 1) (hm : m = 1) (hp : ∀ j, j < 1 → p.elf 0 j = ivsP (R k)) :
  Bx.le (.row true T (n + m) 1 fun i j => if i < n then matE ((List.range k).map R) i j else (E.elf p) (i - n) j) (.row true T n' 1 (matE ((List.range (k + 1)).map R))) := by
 subst hn hn' hm
 refine .row rfl fun i j hi hj => ⟨.of_eq ?_, ivsP_nr _⟩
 by_cases h : i < n
 ·rw [if_pos h]
  simp only [matE]
  rw [rows_getD h, rows_getD hi]
 ·have hi' : i = n := by omega
  subst hi'
  rw [if_neg h, Nat.sub_self, hp j hj]
  simp only [matE]
  rw [rows_getD hi]
theorem matRow_le {n : Nat} {M : List (List Iv)} (hn : n = M.length) : E.le (.sl true n 1 (matE M)) (matP M) := by subst hn; exact .refl _
theorem ivsRow_le {n : Nat} {M : List Iv} (hn : n = M.length) : E.le (.sl true n 7 (ivsE M)) (ivsP M) := by subst hn; exact .refl _
open Go.RowKit Fp Pu
abbrev vda0 (a : List (List Iv)) (b : List (List Iv)) (p) := fun i j => dotP (fun q => (a.getD i []).getD q wholeI) (fun q => (b.getD q []).getD j wholeI) p ((a.getD i []).length - 1)
abbrev vda1 (a : List (List Iv)) (x) (b : List (List Iv)) (k) (p) := dotP (fun q => (a.getD x []).getD q wholeI) (fun q => (b.getD q []).getD k wholeI) p ((a.getD x []).length - 1)
def dotFam (r : List Iv) (g : FuncId) (cap : List E) (Y : Nat → Iv) (p : Nat) (c : Nat) : PS := ⟨35, true, [(8, .e (iP (((c + 1) : Nat) : Int))), (7, .box 7 0), (6, .box 6 0), (0, .e (ivsP r)), (1, .e (.fn g cap)), (2, .e (iP p))], [(7, .cells 28 (ivL (dotP (fun q => r.getD q wholeI) Y p c))), (6, .cells 28 [(bP false), (.v (.slice none 0 0)), (iP 0), (bP false), (.v (.slice none 0 0)), (iP 0), (bP false)])]⟩
def mulMFam (a b : List (List Iv)) (p : Nat) (x : Nat) : PS := ⟨66, true, [(37, .e (iP x)), (36, .e (iP a.length)), (8, .own 34), (4, .box 4 0), (0, .e (matP a)), (2, .e (iP p))], [(34, .rows true 31 28 a.length 7 (lnE (buildM a.length (fun _ => (b.getD 0 []).length) (vda0 a b p) x 0)) (rowsE (buildM a.length (fun _ => (b.getD 0 []).length) (vda0 a b p) x 0)) .none), (4, .cells 32 [(matP b)])]⟩
def mulMFamIn (a b : List (List Iv)) (p : Nat) (x : Nat) (k : Nat) : PS := ⟨66, true, [(44, .e (iP k)), (43, .e (iP (((b.getD 0 []).length : Nat) : Int))), (9, .e (iP x)), (37, .e (iP x)), (36, .e (iP a.length)), (8, .own 34), (4, .box 4 0), (0, .e (matP a)), (2, .e (iP p))], [(34, .rows true 31 28 a.length 7 (lnE (buildM a.length (fun _ => (b.getD 0 []).length) (vda0 a b p) x k)) (rowsE (buildM a.length (fun _ => (b.getD 0 []).length) (vda0 a b p) x k)) .none), (4, .cells 32 [(matP b)])]⟩
theorem dot_pc (r : List Iv) (g : FuncId) (cap : List E) (Y : Nat → Iv) (p : Nat) (hl : r.length ≤ 1000) (h0 : 0 < r.length) (hr : ∀ i, i < r.length → (r.getD i wholeI).Valid) (hy : ∀ i, (Y i).Valid) (hg : ∀ i, i < r.length → PCt g (iP (i : Int) :: cap) (ivP (Y i))) (hp1 : 8 ≤ p) (hp2 : p ≤ 512) : PCt 122 [(ivsP r), (.fn g cap), (iP p)] (ivP (dotP (fun q => r.getD q wholeI) Y p (r.length - 1))) := by
 have w1 := hr 0 h0
 have w2 := hy 0
 exact tr true Tryz.call122 Tryz.func122 (chain [iX (0) (r.length) (by omega), .c (hg 0 (by omega) : PCt g ((iP 0) :: cap) _), .c (ivMul_pc (r.getD 0 wholeI) (Y 0) p ‹_› ‹_› (by omega) (by omega)),
  .s (Sp.upto (dotFam r g cap Y p) 0 (r.length - 1) (by omega) (fun c hc hltc => by
    have w1 := hr (c + 1) (by omega)
    have w2 := hy (c + 1)
    have w3 := dotP_valid (fun q => r.getD q wholeI) Y (show 1 ≤ p by omega) (by omega) c
    have w4 := mulI_valid (r.getD (c + 1) wholeI) (Y (c + 1)) (show 1 ≤ p by omega) (by omega)
    exact spt (chain [tT 19 ((((c + 1) : Nat) : Int) < (r.length : Int)) (by omega), iX ((((c + 1) : Nat) : Int)) (r.length) (by omega), .c (hg (c + 1) (by omega) : PCt g ((iP (((c + 1) : Nat) : Int)) :: cap) _),
     .c (ivMul_pc (r.getD (c + 1) wholeI) (Y (c + 1)) p ‹_› ‹_› (by omega) (by omega)),
     .c (ivAdd_pc (dotP (fun q => r.getD q wholeI) Y p c) (mulI (r.getD (c + 1) wholeI) (Y (c + 1)) p) p ‹_› ‹_› (by omega) (by omega)), r64 ((((c + 1) : Nat) : Int) + 1) (by omega)] <| .e (chain [.b 7 (.of_eq rfl : Bx.le (.cells 28 (ivL (addI (dotP (fun q => r.getD q wholeI) Y p c) (mulI (r.getD (c + 1) wholeI) (Y (c + 1)) p) p))) (.cells 28 (ivL (dotP (fun q => r.getD q wholeI) Y p (c + 1)))))] <| .nil)) (by kernel_rfl))
  (fun hc => by
    exact spt (chain [tF 19 (((((r.length - 1) + 1) : Nat) : Int) < (r.length : Int)) (by omega)] <| .nil) (by kernel_rfl)) (by nofun) : LpT 3 Tryz.f122 (dotFam r g cap Y p 0) (.exit 0) ⟨35, true, [(7, .box 7 0), (6, .box 6 0)], [(7, .cells 28 (ivL (dotP (fun q => r.getD q wholeI) Y p (r.length - 1)))), (6, .cells 28 [(bP false), (.v (.slice none 0 0)), (iP 0), (bP false), (.v (.slice none 0 0)), (iP 0), (bP false)])]⟩) (chain [.o 8 (.int (by first | rfl | omega | (simp only [Nat.add_mul, Nat.one_mul]; omega)) : PV.le (.e (iP 1)) (.e (iP (((0 + 1) : Nat) : Int)))),
  .b 7 (.of_eq rfl : Bx.le (.cells 28 (ivL (mulI (r.getD 0 wholeI) (Y 0) p))) (.cells 28 (ivL (dotP (fun q => r.getD q wholeI) Y p 0))))] <| .nil)] <| .nil) (by kernel_rfl)
theorem mul1_pc (q j : Nat) (b : List (List Iv)) (hq : q < b.length) (hj : j < (b.getD q []).length) : PCt 123 [(iP q), (.ref 1 fun j_ => [(matP b)].getD j_ .any), (.ref 1 fun j_ => [(iP j)].getD j_ .any)] (ivP ((b.getD q []).getD j wholeI)) := by
 exact tr true Tryz.call123 Tryz.func123 (chain [iX ((q : Int)) (b.length) (by omega), iX ((j : Int)) ((b.getD q []).length) (by omega)] <| .nil) (by kernel_rfl)
theorem elV {b : List (List Iv)} {k c : Nat} (gb : MOk b k c) (q j : Nat) : ((b.getD q []).getD j wholeI).Valid := by
 by_cases hq : q < k
 ·by_cases hj : j < c
  ·exact gb.val_at hq hj
  ·rw [List.getD_eq_getElem?_getD, List.getElem?_eq_none (by rw [gb.len_at hq]; omega)]; exact wholeI_valid
 ·rw [List.getD_eq_getElem?_getD (l := b), List.getElem?_eq_none (by rw [gb.rows]; omega)]; exact wholeI_valid
theorem matMul_pc (a b : List (List Iv)) (p : Nat) (n k c : Nat) (ga : MOk a n k) (gb : MOk b k c) (hp1 : 8 ≤ p) (hp2 : p ≤ 512) : PCt 43 [(matP a), (matP b), (iP p)] (.tup [matP (mulM a b p), iP 0]) := by
 have ra := ga.rows
 have rb := gb.rows
 have n1 := ga.n1
 have n8 := ga.n8
 have kk1 := ga.k1
 have kk8 := ga.k8
 have cc8 := gb.k8
 have la := ga.len_at (show 0 < n by omega)
 have lb := gb.len_at (show 0 < k by omega)
 have ew : wholeM a.length (fun _ => (b.getD 0 []).length) (fun i j => dotP (fun q => (a.getD i []).getD q wholeI) (fun q => (b.getD q []).getD j wholeI) p ((a.getD i []).length - 1)) = mulM a b p := by
  rw [← wholeM_mulM (n := n) (k := k - 1) (c := c) (a := a) (b := b) (p := p) ra (fun i hi => by rw [ga.len_at hi]; omega) (by omega) lb, ra, lb]
  unfold wholeM
  apply List.map_congr_left
  intro i hi
  have e := ga.len_at (List.mem_range.1 hi)
  simp only [e]
 exact tr true Tryz.call43 Tryz.func43 (chain [.c (matValid_pc _ _ _ ‹_› : PCt 103 [(matP a)] _), .c (matValid_pc _ _ _ ‹_› : PCt 103 [(matP b)] _), .c (mxPrecise_pc _ : PCt 121 [(iP p)] _),
  tB 22 (precB_true.2 ⟨by omega, by omega⟩ : (precB (p : Int)) = true), iX (0) (a.length) (by omega), tB 31 (natNe_false (by omega) : ((((a.getD 0 []).length : Nat) : Int) != (b.length : Int)) = false),
  .a (by omega : 0 ≤ ((a.length : Int) : Int) ∧ ((a.length : Int) : Int) ≤ ((a.length : Int) : Int)),
  .a (by omega : ((24 : Nat) : Int) * (a.length : Int) ≤ 281474976710656 ∧ ((a.length : Int) : Int) ≤ 9223372036854775807),
  .s (Sp.upto (mulMFam a b p) 0 a.length (by omega) (fun x hx hltx => by
    have lax := ga.len_at (show x < n by omega)
    exact spt (chain [tT 38 ((x : Int) < (a.length : Int)) (by omega), iX (0) (b.length) (by omega),
     .s (Sp.upto (mulMFamIn a b p x) 0 ((b.getD 0 []).length) (by omega) (fun k hk hltk => by
    have hle : lnE (buildM a.length (fun _ => (b.getD 0 []).length) (fun i j => dotP (fun q => (a.getD i []).getD q wholeI) (fun q => (b.getD q []).getD j wholeI) p ((a.getD i []).length - 1)) x k) x = k := lnE_at (by omega)
    have h1 := one_len (dotP (fun q => (a.getD x []).getD q wholeI) (fun q => (b.getD q []).getD k wholeI) p ((a.getD x []).length - 1))
    exact spt (chain [tT 45 ((k : Int) < (((b.getD 0 []).length : Nat) : Int)) (by omega), iX ((x : Int)) (a.length) (by omega), .a (by omega : x < a.length), iX ((x : Int)) (a.length) (by omega),
     .c (dot_pc _ 123 _ (fun q => (b.getD q []).getD k wholeI) p (by omega) (by omega) (fun q hq => ga.val_at (by omega) (by rw [lax] at hq; exact hq)) (fun q => elV gb q k) (fun q hq => mul1_pc q k b (by omega) (by rw [gb.len_at (by omega)]; omega)) (by omega) (by omega) : PCt 122 [(ivsP (a.getD x [])), (.fn 123 [(.ref 1 fun j_ => [(matP b)].getD j_ .any), (.ref 1 fun j_ => [(iP k)].getD j_ .any)]), (iP p)] _),
     .o 60 (.e (ivs1_le _) : PV.le (.e (.sl true 1 7 fun i_ j_ => (ivL (vda1 a x b k p)).getD (i_ * 7 + j_) (.v (.bool false)))) (.e (ivsP [(vda1 a x b k p)]))),
     .a (by omega : x < a.length),
     .a (by omega : ((lnE (buildM a.length (fun _ => (b.getD 0 []).length) (fun i j => dotP (fun q => (a.getD i []).getD q wholeI) (fun q => (b.getD q []).getD j wholeI) p ((a.getD i []).length - 1)) x k)) x + [(dotP (fun q => (a.getD x []).getD q wholeI) (fun q => (b.getD q []).getD k wholeI) p ((a.getD x []).length - 1))].length) * 88 ≤ 140737488355328),
     iX ((x : Int)) (a.length) (by omega), .a (rfl : x = x), .a (rfl : x = x), .a (by omega : x < a.length), r64 ((k : Int) + 1) (by omega)] <| .e (chain [.b 34 (rows_push rfl (by omega) (by omega) rfl : Bx.le (.rows true 31 28 a.length 7 (fun q => if q = x then (lnE (buildM a.length (fun _ => (b.getD 0 []).length) (vda0 a b p) x k)) q + [(vda1 a x b k p)].length else (lnE (buildM a.length (fun _ => (b.getD 0 []).length) (vda0 a b p) x k)) q) (fun q i j => if q = x then (if i < (lnE (buildM a.length (fun _ => (b.getD 0 []).length) (vda0 a b p) x k)) q then (rowsE (buildM a.length (fun _ => (b.getD 0 []).length) (vda0 a b p) x k)) q i j else (E.elf (ivsP [(vda1 a x b k p)])) (i - (lnE (buildM a.length (fun _ => (b.getD 0 []).length) (vda0 a b p) x k)) q) j) else (rowsE (buildM a.length (fun _ => (b.getD 0 []).length) (vda0 a b p) x k)) q i j) .none) (.rows true 31 28 a.length 7 (lnE (buildM a.length (fun _ => (b.getD 0 []).length) (vda0 a b p) x (k + 1))) (rowsE (buildM a.length (fun _ => (b.getD 0 []).length) (vda0 a b p) x (k + 1))) .none))] <| .nil)) (by kernel_rfl))
  (fun hk => by
    exact spt (chain [tF 45 ((((b.getD 0 []).length : Nat) : Int) < (((b.getD 0 []).length : Nat) : Int)) (by omega)] <| .nil) (by kernel_rfl)) (by nofun) : LpT 12 Tryz.f43 (mulMFamIn a b p x 0) (.exit 3) ⟨66, true, [(37, .e (iP x)), (36, .e (iP a.length)), (8, .own 34), (4, .box 4 0), (0, .e (matP a)), (2, .e (iP p))], [(34, .rows true 31 28 a.length 7 (lnE (buildM a.length (fun _ => (b.getD 0 []).length) (vda0 a b p) x ((b.getD 0 []).length))) (rowsE (buildM a.length (fun _ => (b.getD 0 []).length) (vda0 a b p) x ((b.getD 0 []).length))) .none), (4, .cells 32 [(matP b)])]⟩) .nil,
     r64 ((x : Int) + 1) (by omega)] <| .e (chain [.b 34 (rows_next rfl : Bx.le (.rows true 31 28 a.length 7 (lnE (buildM a.length (fun _ => (b.getD 0 []).length) (vda0 a b p) x ((b.getD 0 []).length))) (rowsE (buildM a.length (fun _ => (b.getD 0 []).length) (vda0 a b p) x ((b.getD 0 []).length))) .none) (.rows true 31 28 a.length 7 (lnE (buildM a.length (fun _ => (b.getD 0 []).length) (vda0 a b p) (x + 1) 0)) (rowsE (buildM a.length (fun _ => (b.getD 0 []).length) (vda0 a b p) (x + 1) 0)) .none))] <| .nil)) (by kernel_rfl))
  (fun hx => by
    exact spt (chain [tF 38 ((a.length : Int) < (a.length : Int)) (by omega)] <| .nil) (by kernel_rfl)) (by nofun) : LpT 9 Tryz.f43 (mulMFam a b p 0) (.exit 1) ⟨66, true, [(8, .own 34)], [(34, .rows true 31 28 a.length 7 (lnE (buildM a.length (fun _ => (b.getD 0 []).length) (vda0 a b p) a.length 0)) (rowsE (buildM a.length (fun _ => (b.getD 0 []).length) (vda0 a b p) a.length 0)) .none)]⟩) (chain [.b 34 (rows_init rfl : Bx.le (.rows true 31 28 a.length 7 (fun _ => 0) (fun _ _ _ => .any) .none) (.rows true 31 28 a.length 7 (lnE (buildM a.length (fun _ => (b.getD 0 []).length) (vda0 a b p) 0 0)) (rowsE (buildM a.length (fun _ => (b.getD 0 []).length) (vda0 a b p) 0 0)) .none))] <| .nil)] <| rR (.tup [matP (mulM a b p), iP 0]) (by
      rw [← ew, ← buildM_done]; exact .tup (.cons (matRows_le (buildM_len _ _ _ _ _).symm) (.cons (.refl _) .nil)) : E.le (.tup [(.sl true a.length 1 fun k_ _ => .sl true ((lnE (buildM a.length (fun _ => (b.getD 0 []).length) (fun i j => dotP (fun q => (a.getD i []).getD q wholeI) (fun q => (b.getD q []).getD j wholeI) p ((a.getD i []).length - 1)) a.length 0)) k_) 7 ((rowsE (buildM a.length (fun _ => (b.getD 0 []).length) (fun i j => dotP (fun q => (a.getD i []).getD q wholeI) (fun q => (b.getD q []).getD j wholeI) p ((a.getD i []).length - 1)) a.length 0)) k_)), (iP 0)]) (.tup [matP (mulM a b p), iP 0]))) (by kernel_rfl)
theorem scale1_pc (i j : Nat) (x y : Iv) (p : Nat) (hx : x.Valid) (hy : y.Valid) (hp1 : 8 ≤ p) (hp2 : p ≤ 512) : PCt 125 [(iP i), (iP j), (ivP y), (.ref 7 fun j_ => [(bP x.lo.neg), (slP (limbs x.lo.m)), (iP x.lo.e), (bP x.hi.neg), (slP (limbs x.hi.m)), (iP x.hi.e), (bP x.all)].getD j_ .any), (.ref 1 fun j_ => [(iP p)].getD j_ .any)] (ivP (mulI x y p)) := by
 exact tr true Tryz.call125 Tryz.func125 (chain [.c (ivMul_pc x y p ‹_› ‹_› (by omega) (by omega))] <| .nil) (by kernel_rfl)
theorem matScale_pc (a : List (List Iv)) (x : Iv) (n k p : Nat) (ga : MOk a n k) (hx : x.Valid) (hp1 : 8 ≤ p) (hp2 : p ≤ 512) : PCt 44 [(matP a), (ivP x), (iP p)] (matP (scaleM a x p)) := by
 have ra := ga.rows
 have n8 := ga.n8
 exact tr true Tryz.call44 Tryz.func44 (chain [.c (matValid_pc _ _ _ ‹_› : PCt 103 [(matP a)] _), .c (ivValid_pc x ‹_›), .c (mxPrecise_pc _ : PCt 121 [(iP p)] _), tB 17 (precB_true.2 ⟨by omega, by omega⟩ : (precB (p : Int)) = true),
  .c (matEach_pc a 125 [(.ref 7 fun j_ => [(bP x.lo.neg), (slP (limbs x.lo.m)), (iP x.lo.e), (bP x.hi.neg), (slP (limbs x.hi.m)), (iP x.hi.e), (bP x.all)].getD j_ .any), (.ref 1 fun j_ => [(iP p)].getD j_ .any)] (fun i j => mulI x ((a.getD i []).getD j wholeI) p) (by omega) (fun i => Nat.le_trans (ga.len_le i) (by decide)) (fun i j hi hj => scale1_pc _ _ _ _ _ hx (ga.val_at (by omega) (by rw [ga.len_at (by omega)] at hj; exact hj)) hp1 hp2))] <| rQ (matP (wholeM a.length (fun q => (a.getD q []).length) (fun i j => mulI x ((a.getD i []).getD j wholeI) p))) (matP (scaleM a x p)) (by rw [wholeM_scaleM])) (by kernel_rfl)
open Go.RowKit Fp Pu
def Fp.nsum (r : List Iv) (p : Nat) : Nat → Dy
 | 0 => zeroD
 | k + 1 => rndD (sumD (nsum r p k) (magI (r.getD k wholeI))) p true
structure Fp.NGood (r : List Iv) (p k : Nat) : Prop where
 all : (r.getD k wholeI).all = false
 err : rndE (sumD (nsum r p k) (magI (r.getD k wholeI))) p true = 0
def Fp.nmost (m : List (List Iv)) (p : Nat) : Nat → Dy
 | 0 => zeroD
 | x + 1 => if 0 < cmpD (nsum (m.getD x []) p (m.getD x []).length) (nmost m p x) then nsum (m.getD x []) p (m.getD x []).length else nmost m p x
theorem nsum_valid (r : List Iv) {p : Nat} (hp : 1 ≤ p) (hp2 : p ≤ 4096) : ∀ k, (nsum r p k).Valid
 | 0 => zeroD_valid
 | k + 1 => cut_valid _ _ _ _ _ _ hp hp2
theorem nmost_valid (m : List (List Iv)) {p : Nat} (hp : 1 ≤ p) (hp2 : p ≤ 4096) : ∀ x, (nmost m p x).Valid
 | 0 => zeroD_valid
 | x + 1 => by
  unfold nmost; split
  ·exact nsum_valid _ hp hp2 _
  ·exact nmost_valid m hp hp2 x
theorem foldl_none (p : Nat) (l : List Iv) : l.foldl (fun s x => s.bind fun s => if x.all then none else if rndE (sumD s (magI x)) p true ≠ 0 then none else some (rndD (sumD s (magI x)) p true)) none = none := by
 induction l with
 | nil => rfl
 | cons x l ih => rw [List.foldl_cons]; exact ih
theorem rowNorm_step (p : Nat) (r : List Iv) : ∀ (l : List Iv) (k : Nat), (∀ i, i < l.length → l.getD i wholeI = r.getD (k + i) wholeI) →
  ((∀ i, k ≤ i → i < k + l.length → NGood r p i) → l.foldl (fun s x => s.bind fun s => if x.all then none else if rndE (sumD s (magI x)) p true ≠ 0 then none else some (rndD (sumD s (magI x)) p true)) (some (nsum r p k)) = some (nsum r p (k + l.length))) ∧
  (∀ i, k ≤ i → i < k + l.length → ¬ NGood r p i → l.foldl (fun s x => s.bind fun s => if x.all then none else if rndE (sumD s (magI x)) p true ≠ 0 then none else some (rndD (sumD s (magI x)) p true)) (some (nsum r p k)) = none)
 | [], k, _ => ⟨fun _ => rfl, fun i h1 h2 => by simp at h2; omega⟩
 | x :: l, k, h => by
  have e : x = r.getD k wholeI := h 0 (by simp)
  have ih := rowNorm_step p r l (k + 1) (fun i hi => by have := h (i + 1) (by simp; omega); rw [show k + 1 + i = k + (i + 1) by omega, ← this]; rfl)
  rw [List.foldl_cons]
  have hs : ∀ (g : NGood r p k), ((some (nsum r p k)).bind fun s => if x.all then none else if rndE (sumD s (magI x)) p true ≠ 0 then none else some (rndD (sumD s (magI x)) p true)) = some (nsum r p (k + 1)) := by
   intro g
   have h1 := g.all
   have h2 := g.err
   rw [← e] at h1 h2
   simp only [Option.bind_some, h1, Bool.false_eq_true, if_false, h2, ne_eq, not_true_eq_false]
   rw [e]; rfl
  have hf : ¬ NGood r p k → ((some (nsum r p k)).bind fun s => if x.all then none else if rndE (sumD s (magI x)) p true ≠ 0 then none else some (rndD (sumD s (magI x)) p true)) = none := by
   intro g
   simp only [Option.bind_some]
   by_cases h1 : x.all = true
   ·rw [if_pos h1]
   ·rw [if_neg h1]
    by_cases h2 : rndE (sumD (nsum r p k) (magI x)) p true = 0
    ·exact absurd ⟨by rw [← e]; simpa using h1, by rw [← e]; exact h2⟩ g
    ·rw [if_pos h2]
  refine ⟨fun hg => ?_, fun i h1 h2 hb => ?_⟩
  ·rw [hs (hg k (by omega) (by simp)), ih.1 (fun i h1 h2 => hg i (by omega) (by simp; omega))]
   congr 2
   simp; omega
  ·by_cases g : NGood r p k
   ·rw [hs g]
    refine ih.2 i ?_ (by simp at h2; omega) hb
    by_cases hik : i = k
    ·subst hik; exact absurd g hb
    ·omega
   ·rw [hf g, foldl_none]
theorem rowNorm_some {r : List Iv} {p : Nat} (h : ∀ i, i < r.length → NGood r p i) : rowNorm r p = some (nsum r p r.length) := by
 have := (rowNorm_step p r r 0 (fun i _ => by rw [Nat.zero_add])).1 (fun i _ hi => h i (by omega))
 rwa [Nat.zero_add] at this
theorem rowNorm_none {r : List Iv} {p i : Nat} (hi : i < r.length) (h : ¬ NGood r p i) : rowNorm r p = none :=
 (rowNorm_step p r r 0 (fun i _ => by rw [Nat.zero_add])).2 i (by omega) (by omega) h
theorem normM_step (p : Nat) (m : List (List Iv)) : ∀ (l : List (List Iv)) (x : Nat), (∀ i, i < l.length → l.getD i [] = m.getD (x + i) []) →
  ((∀ i, x ≤ i → i < x + l.length → ∀ k, k < (m.getD i []).length → NGood (m.getD i []) p k) → l.foldl (fun s r => s.bind fun s => (rowNorm r p).map fun n => if 0 < cmpD n s then n else s) (some (nmost m p x)) = some (nmost m p (x + l.length))) ∧
  (∀ i, x ≤ i → i < x + l.length → ∀ k, k < (m.getD i []).length → ¬ NGood (m.getD i []) p k → l.foldl (fun s r => s.bind fun s => (rowNorm r p).map fun n => if 0 < cmpD n s then n else s) (some (nmost m p x)) = none)
 | [], x, _ => ⟨fun _ => rfl, fun i h1 h2 => by simp at h2; omega⟩
 | r :: l, x, h => by
  have e : r = m.getD x [] := h 0 (by simp)
  have ih := normM_step p m l (x + 1) (fun i hi => by have := h (i + 1) (by simp; omega); rw [show x + 1 + i = x + (i + 1) by omega, ← this]; rfl)
  have hn : ∀ (l : List (List Iv)), l.foldl (fun s r => s.bind fun s => (rowNorm r p).map fun n => if 0 < cmpD n s then n else s) none = none := by
   intro l; induction l with
   | nil => rfl
   | cons y l ih => rw [List.foldl_cons]; exact ih
  rw [List.foldl_cons]
  refine ⟨fun hg => ?_, fun i h1 h2 k hk hb => ?_⟩
  ·rw [e, Option.bind_some, rowNorm_some (hg x (by omega) (by simp)), Option.map_some]
   have := ih.1 (fun i h1 h2 => hg i (by omega) (by simp; omega))
   rw [show x + (m.getD x [] :: l).length = x + 1 + l.length by simp only [List.length_cons]; omega]
   exact this
  ·by_cases g : ∀ k, k < (m.getD x []).length → NGood (m.getD x []) p k
   ·rw [e, Option.bind_some, rowNorm_some g, Option.map_some]
    refine ih.2 i ?_ (by simp at h2; omega) k hk hb
    by_cases hix : i = x
    ·subst hix; exact absurd (g k hk) hb
    ·omega
   ·have ⟨k', hk', hb'⟩ : ∃ k', k' < (m.getD x []).length ∧ ¬ NGood (m.getD x []) p k' := by
     apply Classical.byContradiction
     intro hc
     exact g fun k hk => Classical.byContradiction fun q => hc ⟨k, hk, q⟩
    rw [e, Option.bind_some, rowNorm_none hk' hb', Option.map_none, hn]
theorem normM_some {m : List (List Iv)} {p : Nat} (h : ∀ i, i < m.length → ∀ k, k < (m.getD i []).length → NGood (m.getD i []) p k) : normM m p = some (nmost m p m.length) := by
 have := (normM_step p m m 0 (fun i _ => by rw [Nat.zero_add])).1 (fun i _ hi => h i (by omega))
 rwa [Nat.zero_add] at this
theorem normM_none {m : List (List Iv)} {p i k : Nat} (hi : i < m.length) (hk : k < (m.getD i []).length) (h : ¬ NGood (m.getD i []) p k) : normM m p = none :=
 (normM_step p m m 0 (fun i _ => by rw [Nat.zero_add])).2 i (by omega) (by omega) k hk h
theorem zero_cells : Les [bP false, .v (.slice none 0 0), iP 0] [bP zeroD.neg, slP (limbs zeroD.m), iP zeroD.e] := .cons (.refl _) (.cons nilLimb_le (.cons (.refl _) .nil))
open Go.RowKit Fp Pu
structure Fp.Iv.NN (x : Iv) : Prop where
 lo : x.lo.neg = false
 hi : x.hi.neg = false
theorem canon_nn (m : Nat) (e : Int) : (canon false m e).neg = false := by unfold canon; split <;> rfl
theorem cutD_nn (m : Nat) (e : Int) (more : Bool) (p : Nat) (up : Bool) : (cutD false m e more p up).neg = false := by
 unfold cutD
 split
 ·split
  ·rfl
  ·exact canon_nn _ _
 ·exact canon_nn _ _
theorem rndD_nn {d : Dy} (h : d.neg = false) (p : Nat) (up : Bool) : (rndD d p up).neg = false := by unfold rndD; rw [h]; exact cutD_nn _ _ _ _ _
theorem prodD_nn {a b : Dy} (ha : a.neg = false) (hb : b.neg = false) : (prodD a b).neg = false := by unfold prodD; rw [ha, hb]; exact canon_nn _ _
theorem divD_nn {a b : Dy} (ha : a.neg = false) (hb : b.neg = false) (p : Nat) (up : Bool) : (divD a b p up).neg = false := by
 unfold divD; rw [ha, hb]; split
 ·rfl
 ·exact cutD_nn _ _ _ _ _
theorem minD_nn {a b : Dy} (ha : a.neg = false) (hb : b.neg = false) : (minD a b).neg = false := by unfold minD; split <;> assumption
theorem maxD_nn {a b : Dy} (ha : a.neg = false) (hb : b.neg = false) : (maxD a b).neg = false := by unfold maxD; split <;> assumption
theorem num_nn {a : Dy} (ha : a.neg = false) (k : Int) : 0 ≤ a.num k := by unfold Dy.num; rw [ha]; simp
theorem sumD_nn {a b : Dy} (ha : a.neg = false) (hb : b.neg = false) : (sumD a b).neg = false := by
 unfold sumD
 split
 ·exact hb
 ·split
  ·exact ha
  ·unfold canonZ
   have h1 := num_nn ha (min a.e b.e)
   have h2 := num_nn hb (min a.e b.e)
   rw [decide_eq_false (by omega)]
   exact canon_nn _ _
theorem whole_nn : wholeI.NN := ⟨rfl, rfl⟩
theorem fourI_nn {DD : Dy → Dy → Bool → Dy} {EE : Dy → Dy → Bool → Int} {x y : Iv} (hx : x.NN) (hy : y.NN) (h : ∀ a b up, a.neg = false → b.neg = false → (DD a b up).neg = false) : (fourI DD EE x y).NN := by
 unfold fourI
 split
 ·exact ⟨minD_nn (minD_nn (minD_nn (h _ _ _ hx.lo hy.lo) (h _ _ _ hx.lo hy.hi)) (h _ _ _ hx.hi hy.lo)) (h _ _ _ hx.hi hy.hi),
   maxD_nn (maxD_nn (maxD_nn (h _ _ _ hx.lo hy.lo) (h _ _ _ hx.lo hy.hi)) (h _ _ _ hx.hi hy.lo)) (h _ _ _ hx.hi hy.hi)⟩
 ·exact whole_nn
theorem mulI_nn {x y : Iv} (hx : x.NN) (hy : y.NN) (p : Nat) : (mulI x y p).NN := by
 unfold mulI; split
 ·exact whole_nn
 ·exact fourI_nn hx hy fun a b up ha hb => rndD_nn (prodD_nn ha hb) p up
theorem divI_nn {x y : Iv} (hx : x.NN) (hy : y.NN) (p : Nat) : (divI x y p).NN := by
 unfold divI; split
 ·exact whole_nn
 ·exact fourI_nn hx hy fun a b up ha hb => divD_nn ha hb p up
theorem absI_nn (x : Iv) : (absI x).NN := by
 unfold absI; split
 ·exact whole_nn
 ·refine ⟨?_, maxD_nn rfl rfl⟩
  show (migI x).neg = false
  unfold migI; split
  ·rfl
  ·exact minD_nn rfl rfl
theorem pointI_nn {d : Dy} (h : d.neg = false) : (pointI d).NN := ⟨h, h⟩
theorem numI_nn (n : Nat) : (numI ((n : Nat) : Int)).NN := by
 refine pointI_nn ?_
 rw [intD_nat]; exact canon_nn _ _
theorem powI_nn {u : Iv} (hu : u.NN) (p : Nat) : ∀ j, (powI u p j).NN
 | 0 => numI_nn 1
 | j + 1 => mulI_nn (powI_nn hu p j) (divI_nn hu (numI_nn (j + 1)) p) p
theorem nsum_nn (r : List Iv) (p : Nat) : ∀ k, (nsum r p k).neg = false
 | 0 => rfl
 | k + 1 => rndD_nn (sumD_nn (nsum_nn r p k) (maxD_nn rfl rfl)) p true
theorem nmost_nn (m : List (List Iv)) (p : Nat) : ∀ x, (nmost m p x).neg = false
 | 0 => rfl
 | x + 1 => by
  unfold nmost; split
  ·exact nsum_nn _ _ _
  ·exact nmost_nn m p x
theorem num_lt {a b : Dy} (ha : a.neg = false) (hb : b.neg = false) (hlt : cmpD a b < 0) {k : Int} (h1 : k ≤ a.e) (h2 : k ≤ b.e) : a.m * 2 ^ (a.e - k).toNat < b.m * 2 ^ (b.e - k).toNat := by
 rw [cmpD_at (k := k) (.inr h1) (.inr h2)] at hlt
 have h : a.num k < b.num k := by
  unfold cmpI at hlt
  split at hlt
  ·assumption
  ·split at hlt <;> omega
 unfold Dy.num Dy.mag at h
 rw [ha, hb] at h
 simp only [Bool.false_eq_true, if_false] at h
 exact Int.ofNat_lt.1 h
theorem divD_le_one {a b : Dy} (ha : a.neg = false) (hb : b.neg = false) (b0 : b.m ≠ 0) (hlt : cmpD a b < 0) (p : Nat) : cmpD (divD a b p false) (canon false 1 0) ≤ 0 := by
 unfold divD
 by_cases a0 : a.m = 0
 ·rw [if_pos a0]
  have : zeroD = canon false 0 0 := rfl
  rw [this]
  exact (canon_le_mag (s := false) (K := 0) (Int.le_refl _) (Int.le_refl _) (by simp)).1 rfl
 rw [if_neg a0, ha, hb]
 generalize hK : divK a b p 2 = K
 generalize hq : a.m * 2 ^ K / b.m = q
 generalize hE : a.e - b.e - (K : Int) = E
 have hqb : q * b.m ≤ a.m * 2 ^ K := by rw [← hq]; exact Nat.div_mul_le_self _ _
 have key : q * 2 ^ (E - min E 0).toNat < 2 ^ (0 - min E 0).toNat := by
  have hk1 : min (a.e - K) b.e ≤ a.e := by omega
  have hk2 : min (a.e - K) b.e ≤ b.e := by omega
  have h := num_lt ha hb hlt hk1 hk2
  have e1 : (a.e - min (a.e - K) b.e).toNat = K + (E - min E 0).toNat := by omega
  have e2 : (b.e - min (a.e - K) b.e).toNat = (0 - min E 0).toNat := by omega
  rw [e1, e2, Nat.pow_add, ← Nat.mul_assoc] at h
  have h3 : q * b.m * 2 ^ (E - min E 0).toNat < b.m * 2 ^ (0 - min E 0).toNat := Nat.lt_of_le_of_lt (Nat.mul_le_mul_right _ hqb) h
  rw [Nat.mul_comm q, Nat.mul_assoc] at h3
  exact Nat.lt_of_mul_lt_mul_left h3
 have hqe : q = 0 ∨ (bitsN q : Int) + E ≤ 0 := by
  by_cases hE0 : 0 ≤ E
  ·left
   rw [show (0 - min E 0).toNat = 0 by omega, Nat.pow_zero] at key
   rcases Nat.mul_eq_zero.1 (Nat.lt_one_iff.1 key) with h | h
   ·exact h
   ·exact absurd h (Nat.ne_of_gt (Nat.pow_pos (by decide)))
  ·right
   rw [show (E - min E 0).toNat = 0 by omega, Nat.pow_zero, Nat.mul_one] at key
   have := bitsN_le_iff.2 key
   omega
 generalize decide (a.m * 2 ^ K % b.m ≠ 0) = more
 have hQ : cutQ q E more p (false != false) = q / 2 ^ cutK q E p := by unfold cutQ; simp
 have hsm : q / 2 ^ cutK q E p ≠ 0 → (bitsN (q / 2 ^ cutK q E p) : Int) + E + cutK q E p ≤ 0 := by
  intro hn
  have hb2 := bitsN_mul_pow hn (cutK q E p)
  have hm := bitsN_mono (Nat.div_mul_le_self q (2 ^ cutK q E p))
  rcases hqe with h | h
  ·rw [h, Nat.zero_div] at hn; exact absurd rfl hn
  ·omega
 have hO : cutOver q E more p (false != false) = false := by
  unfold cutOver
  rw [hQ]
  by_cases hn : q / 2 ^ cutK q E p = 0
  ·simp [hn]
  ·have := hsm hn
   rw [decide_eq_false (show ¬ 16384 < (bitsN (q / 2 ^ cutK q E p) : Int) + E + cutK q E p by omega)]
   simp
 unfold cutD
 rw [show ((false != false) != false) = (false != false) from rfl, hO, if_neg (by decide), hQ]
 refine (canon_le_mag (s := (false != false)) (K := min E 0) (by omega) (by omega) ?_).1 rfl
 rw [Nat.one_mul, show (E + (cutK q E p : Int) - min E 0).toNat = cutK q E p + (E - min E 0).toNat by omega, Nat.pow_add, ← Nat.mul_assoc]
 exact Nat.le_of_lt (Nat.lt_of_le_of_lt (Nat.mul_le_mul_right _ (Nat.div_mul_le_self _ _)) key)
theorem numI_valid' : (numI 1).Valid := pointI_valid (intD_valid 1 (by decide))
theorem Fp.Iv.Valid.ends' {x : Iv} (h : x.Valid) : x.lo.Canon ∧ x.hi.Canon := ⟨h.ends.1.canon, h.ends.2.canon⟩
theorem nn_of_sign {d : Dy} (hd : d.Canon) (h : 0 ≤ d.sign) : d.neg = false := by
 unfold Dy.sign at h
 rcases hd with ⟨_, h2, _⟩ | h1
 ·exact h2
 ·rw [if_neg (by omega)] at h
  cases hn : d.neg with
  | false => rfl
  | true => rw [hn] at h; simp at h
theorem sign_of_nn {d : Dy} (h : d.neg = false) : 0 ≤ d.sign := by
 unfold Dy.sign; rw [h]; split
 ·omega
 ·simp
theorem intD_pos {c : Nat} (hc : 0 < c) : (intD ((c : Nat) : Int)).m ≠ 0 := by
 rw [intD_nat]
 exact (canon_bits (s := false) (e := 0) (by omega)).2.2.1
theorem numI_sign {c : Nat} (hc : 0 < c) : signI (numI ((c : Nat) : Int)) = 1 := by
 unfold signI numI pointI
 simp only [Bool.false_eq_true, if_false]
 rw [if_pos]
 unfold Dy.sign
 rw [if_neg (intD_pos hc), show (intD ((c : Nat) : Int)).neg = false by rw [intD_nat]; exact canon_nn _ _]
 simp
theorem rest_nn {u t : Iv} {c p : Nat} (hu : u.NN) (hc : 0 < c) (hua : u.all = false) (hlt : cmpD u.hi (intD ((c : Nat) : Int)) < 0) (ht : t.NN)
  (he : (divI t (subI (numI 1) (divI u (numI ((c : Nat) : Int)) p) p) p).all = false) (hp1 : 1 ≤ p) (hp2 : p ≤ 4096) : (divI t (subI (numI 1) (divI u (numI ((c : Nat) : Int)) p) p) p).NN := by
 have hone : (numI 1).NN := numI_nn 1
 generalize hq : divI u (numI ((c : Nat) : Int)) p = q at *
 have hqn : q.NN := hq ▸ divI_nn hu (numI_nn c) p
 have hqv : q.Valid := hq ▸ divI_valid _ _ hp1 hp2
 have hden : ∀ d : Iv, d.all = true → (divI t d p).all = true := fun d hd => by unfold divI; rw [hd]; simp [wholeI]
 have hdall : (subI (numI 1) q p).all = false := by
  cases h : (subI (numI 1) q p).all with
  | false => rfl
  | true => rw [hden _ h] at he; cases he
 have hqa : q.all = false := by
  cases h : q.all with
  | false => rfl
  | true =>
   exfalso
   have : (subI (numI 1) q p) = wholeI := by
    unfold subI negI addI
    rw [h]; simp [wholeI]
   rw [this] at hdall; cases hdall
 have hqlo : cmpD q.lo (canon false 1 0) ≤ 0 := by
  have hf : q = fourI (fun a b up => divD a b p up) (fun a b up => divE a b p up) u (numI ((c : Nat) : Int)) := by
   rw [← hq]
   unfold divI
   rw [if_neg]
   rw [hua, numI_sign hc]
   simp [numI, pointI]
  have hlo : q.lo = minD (minD (minD (divD u.lo (intD ((c : Nat) : Int)) p false) (divD u.lo (intD ((c : Nat) : Int)) p false)) (divD u.hi (intD ((c : Nat) : Int)) p false)) (divD u.hi (intD ((c : Nat) : Int)) p false) := by
   rw [hf] at hqa ⊢
   unfold fourI at hqa ⊢
   split
   ·rfl
   ·rename_i hne
    rw [if_neg hne] at hqa
    cases hqa
  rw [hlo]
  exact le_trans (minD_right _ _) (divD_le_one hu.hi (by rw [intD_nat]; exact canon_nn _ _) (intD_pos hc) hlt p)
 have hone' : intD 1 = canon false 1 0 := intD_nat 1
 have hsum : 0 ≤ (sumD (intD 1) (negD q.lo)).sign := by
  by_cases h0 : q.lo.m = 0
  ·have : (negD q.lo).m = 0 := h0
   have : sumD (intD 1) (negD q.lo) = intD 1 := by
    unfold sumD
    rw [if_neg (show (intD 1).m ≠ 0 from intD_pos (c := 1) (by decide)), if_pos this]
   rw [this]
   exact sign_of_nn hone.lo
  ·rw [cmpD_sum (show (intD 1).m ≠ 0 from intD_pos (c := 1) (by decide)) h0, hone', cmpD_neg]
   omega
 have hdv : (subI (numI 1) q p).Valid := addI_valid (numI_valid' ) (negI_valid hqv) hp1 hp2
 have hadd : subI (numI 1) q p = madeI (rndD (sumD (intD 1) (negD q.hi)) p false) (rndE (sumD (intD 1) (negD q.hi)) p false) (rndD (sumD (intD 1) (negD q.lo)) p true) (rndE (sumD (intD 1) (negD q.lo)) p true) := by
  unfold subI negI addI
  rw [hqa]
  rfl
 have hhi : (subI (numI 1) q p).hi = rndD (sumD (intD 1) (negD q.lo)) p true := by
  rw [hadd] at hdall ⊢
  unfold madeI at hdall ⊢
  split
  ·rename_i h; rw [if_pos h] at hdall; cases hdall
  ·rfl
 have hsc : (sumD (intD 1) (negD q.lo)).Canon := canon_sumD (by rw [hone']; exact canon_canon _ _ _) (negD_canon (hqv.ends'.1))
 have hhin : (subI (numI 1) q p).hi.neg = false := by
  rw [hhi]; exact rndD_nn (nn_of_sign hsc hsum) p true
 have hsg : signI (subI (numI 1) q p) ≠ 0 := by
  intro hz
  have : (divI t (subI (numI 1) q p) p).all = true := by unfold divI; rw [if_pos (by rw [hz]; simp)]; rfl
  rw [this] at he; cases he
 have hlon : (subI (numI 1) q p).lo.neg = false := by
  unfold signI at hsg
  rw [hdall] at hsg
  simp only [Bool.false_eq_true, if_false] at hsg
  have hh := sign_of_nn hhin
  split at hsg
  ·rename_i h
   cases hn : (subI (numI 1) q p).lo.neg with
   | false => rfl
   | true => unfold Dy.sign at h; rw [hn] at h; split at h <;> simp at h
  ·rw [if_neg (by omega)] at hsg
   exact absurd rfl hsg
 exact divI_nn ht ⟨hlon, hhin⟩ p
open Go.RowKit Fp Pu
theorem identM_ok {n : Nat} (h1 : 1 ≤ n) (h8 : n ≤ 8) : MOk (identM n) n n :=
 wholeM_ok (F := fun i j => pointI (if i = j then ⟨false, 1, 0⟩ else zeroD)) h1 h8 h1 h8 fun i j => by
  split
  ·exact numI_valid'
  ·exact pointI_valid zeroD_valid
theorem headD_len {b : List (List Iv)} {k c : Nat} (gb : MOk b k c) : (b.headD []).length = c := by
 cases b with
 | nil => have := gb.rows; have := gb.n1; simp at *; omega
 | cons r b => exact gb.row r (by simp)
theorem mulM_ok {a b : List (List Iv)} {n k c p : Nat} (ga : MOk a n k) (gb : MOk b k c) (hp1 : 1 ≤ p) (hp2 : p ≤ 4096) : MOk (mulM a b p) n c := by
 refine ⟨by simp [mulM, ga.rows], fun r hr => ?_, fun r hr x hx => ?_, ga.n1, ga.n8, gb.k1, gb.k8⟩
 ·obtain ⟨q, _, rfl⟩ := List.mem_map.1 hr
  rw [List.length_map, List.length_range, headD_len gb]
 ·obtain ⟨q, _, rfl⟩ := List.mem_map.1 hr
  obtain ⟨j, _, rfl⟩ := List.mem_map.1 hx
  exact dotI_valid hp1 hp2
theorem scaleM_ok {a : List (List Iv)} {x : Iv} {n k p : Nat} (ga : MOk a n k) (hp1 : 1 ≤ p) (hp2 : p ≤ 4096) : MOk (scaleM a x p) n k := by
 refine ⟨by simp [scaleM, ga.rows], fun r hr => ?_, fun r hr y hy => ?_, ga.n1, ga.n8, ga.k1, ga.k8⟩
 ·obtain ⟨q, hq, rfl⟩ := List.mem_map.1 hr
  simp [ga.row q hq]
 ·obtain ⟨q, _, rfl⟩ := List.mem_map.1 hr
  obtain ⟨z, _, rfl⟩ := List.mem_map.1 hy
  exact mulI_valid _ _ hp1 hp2
theorem mem_zipWith' {α β γ : Type} {f : α → β → γ} {l : List α} {m : List β} {z : γ} (h : z ∈ List.zipWith f l m) : ∃ x y, x ∈ l ∧ y ∈ m ∧ z = f x y := by
 induction l generalizing m with
 | nil => simp at h
 | cons a l ih =>
  cases m with
  | nil => simp at h
  | cons b m =>
   rw [List.zipWith_cons_cons] at h
   rcases List.mem_cons.1 h with h | h
   ·exact ⟨a, b, by simp, by simp, h⟩
   ·obtain ⟨x, y, h1, h2, h3⟩ := ih h
    exact ⟨x, y, by simp [h1], by simp [h2], h3⟩
theorem addM_ok {a b : List (List Iv)} {n k p : Nat} (ga : MOk a n k) (gb : MOk b n k) (hp1 : 1 ≤ p) (hp2 : p ≤ 4096) : MOk (addM a b p) n k := by
 refine ⟨by simp [addM, ga.rows, gb.rows], fun r hr => ?_, fun r hr y hy => ?_, ga.n1, ga.n8, ga.k1, ga.k8⟩
 ·obtain ⟨u, v, h1, h2, rfl⟩ := mem_zipWith' hr
  simp [ga.row u h1, gb.row v h2]
 ·obtain ⟨u, v, h1, h2, rfl⟩ := mem_zipWith' hr
  obtain ⟨x, z, h3, h4, rfl⟩ := mem_zipWith' hy
  exact addI_valid (ga.ok u h1 x h3) (gb.ok v h2 z h4) hp1 hp2
theorem termM_ok {m : List (List Iv)} {h : Iv} {n p : Nat} (ga : MOk m n n) (hp1 : 1 ≤ p) (hp2 : p ≤ 4096) : ∀ j, MOk (termM m h p j) n n
 | 0 => by
  have := ga.rows
  unfold termM; rw [this]; exact identM_ok ga.n1 ga.n8
 | j + 1 => scaleM_ok (mulM_ok (termM_ok ga hp1 hp2 j) ga hp1 hp2) hp1 hp2
theorem sumM_ok {m : List (List Iv)} {h : Iv} {n p : Nat} (ga : MOk m n n) (hp1 : 1 ≤ p) (hp2 : p ≤ 4096) : ∀ j, MOk (sumM m h p j) n n
 | 0 => by
  have := ga.rows
  unfold sumM; rw [this]; exact identM_ok ga.n1 ga.n8
 | j + 1 => addM_ok (sumM_ok ga hp1 hp2 j) (termM_ok ga hp1 hp2 (j + 1)) hp1 hp2
open Go.RowKit Fp Pu
open Go.RowKit Fp Pu
def Fp.oneD : Dy := ⟨false, 1, 0⟩
theorem oneD_valid : oneD.Valid := by have := intD_valid 1 (by decide); rw [intD_nat] at this; exact this
def idFam (n : Nat) (x : Nat) : PS := ⟨42, true, [(17, .e (iP x)), (16, .e (iP n)), (3, .own 14), (0, .e (iP n))], [(14, .rows true 31 28 n 7 (lnE (buildM n (fun _ => n) (fun i j => pointI (if i = j then ⟨false, 1, 0⟩ else zeroD)) x 0)) (rowsE (buildM n (fun _ => n) (fun i j => pointI (if i = j then ⟨false, 1, 0⟩ else zeroD)) x 0)) .none)]⟩
def idFamIn (n x : Nat) (k : Nat) : PS := ⟨42, true, [(21, .e (iP k)), (20, .e (iP n)), (4, .e (iP x)), (17, .e (iP x)), (16, .e (iP n)), (3, .own 14), (0, .e (iP n))], [(14, .rows true 31 28 n 7 (lnE (buildM n (fun _ => n) (fun i j => pointI (if i = j then ⟨false, 1, 0⟩ else zeroD)) x k)) (rowsE (buildM n (fun _ => n) (fun i j => pointI (if i = j then ⟨false, 1, 0⟩ else zeroD)) x k)) .none)]⟩
theorem dyInt_pc (n : Nat) (h : n < 4294967296) : PCt 112 [(iP n)] (dyP (intD (n : Int))) := by
 have ok2 : Ok32 [n % 4294967296, n / 4294967296 % 4294967296] := Ok32.cons (Nat.mod_lt _ (by decide)) (Ok32.cons (Nat.mod_lt _ (by decide)) Ok32.nil)
 exact tr true Tryz.call112 Tryz.func112 (chain [.o 5 (.int (u64_nat _ (by omega)) : PV.le (.e (.v (.int .u64 (IntKind.u64.wrap (n : Int))))) (.e (.v (.int .u64 (n : Int))))), tF 7 ((n : Int) < 0) (by omega), tF 11 ((n : Int) < 0) (by omega),
  .o 13 (.int (u32_nat _) : PV.le (.e (.v (.int .u32 (IntKind.u32.wrap (n : Int))))) (.e (.v (.int .u32 (((n % 4294967296) : Nat) : Int))))), .a (by omega : 0 ≤ (32 : Int) ∧ (32 : Int) ≤ ((64 : Nat) : Int)),
  .o 15 (.int (shr32_nat _) : PV.le (.e (.v (.int .u64 ((n : Int) / 2 ^ 32)))) (.e (.v (.int .u64 (((n / 4294967296) : Nat) : Int))))),
  .o 16 (.int (u32_nat _) : PV.le (.e (.v (.int .u32 (IntKind.u32.wrap (((n / 4294967296) : Nat) : Int))))) (.e (.v (.int .u32 ((((n / 4294967296) % 4294967296) : Nat) : Int))))),
  .o 17 (.e (two_le _ _) : PV.le (.e (.sl false 2 1 fun i_ j_ => [(.v (.int .u32 (((n % 4294967296) : Nat) : Int))), (.v (.int .u32 ((((n / 4294967296) % 4294967296) : Nat) : Int)))].getD (i_ * 1 + j_) (.v (.bool false)))) (.e (slP [(n % 4294967296), ((n / 4294967296) % 4294967296)]))),
  .c (dyCanonL_pc _ _ _ ok2 (by simp) (by decide) (by decide) : PCt 174 [(bP false), (slP [(n % 4294967296), ((n / 4294967296) % 4294967296)]), (iP 0)] _)] <| rQ (dyP (canon false (val [(n % 4294967296), ((n / 4294967296) % 4294967296)]) 0)) (dyP (intD (n : Int))) (by rw [val_two, show n % 4294967296 + 4294967296 * (n / 4294967296 % 4294967296) = n by omega, intD_nat])) (by kernel_rfl)
theorem num_pc (n : Nat) (h : n < 4294967296) : PCt 46 [(iP n)] (ivP (numI (n : Int))) := by
 have v := intD_valid n h
 exact tr true Tryz.call46 Tryz.func46 (chain [.c (dyInt_pc _ (by omega) : PCt 112 [(iP n)] _), .c (ivPoint_pc (intD (n : Int)) ‹_›)] <| .nil) (by kernel_rfl)
theorem matId_pc (n : Nat) (h1 : 1 ≤ n) (h8 : n ≤ 8) : PCt 36 [(iP n)] (matP (identM n)) := by
 have v1 := oneD_valid
 have v0 := zeroD_valid
 have int1 : PCt 112 [iP 1] (dyP oneD) := dyInt_pc 1 (by decide)
 have int0 : PCt 112 [iP 0] (dyP zeroD) := dyInt_pc 0 (by decide)
 have ew : wholeM n (fun _ => n) (fun i j => pointI (if i = j then ⟨false, 1, 0⟩ else zeroD)) = identM n := rfl
 exact tr true Tryz.call36 Tryz.func36 (chain [tF 8 ((n : Int) < 1) (by omega), tF 11 (8 < (n : Int)) (by omega), .a (by omega : 0 ≤ ((n : Int) : Int) ∧ ((n : Int) : Int) ≤ ((n : Int) : Int)),
  .a (by omega : ((24 : Nat) : Int) * (n : Int) ≤ 281474976710656 ∧ ((n : Int) : Int) ≤ 9223372036854775807),
  .s (Sp.upto (idFam n) 0 n (by omega) (fun x hx hltx => by
    exact spt (chain [tT 18 ((x : Int) < (n : Int)) (by omega),
     .s (Sp.upto (idFamIn n x) 0 n (by omega) (fun k hk hltk => by
    have hle : lnE (buildM n (fun _ => n) (fun i j => pointI (if i = j then ⟨false, 1, 0⟩ else zeroD)) x k) x = k := lnE_at (by omega)
    by_cases c1 : x = k
    ·have h1 := one_len (pointI oneD)
     exact spt (chain [tT 22 ((k : Int) < (n : Int)) (by omega), tB 26 (natEq_true c1 : ((x : Int) == (k : Int)) = true), iX ((x : Int)) (n) (by omega), .a (by omega : x < n), .c (int1 : PCt 112 [(iP 1)] _),
      .c (ivPoint_pc oneD ‹_›), .o 36 (.e (ivs1_le _) : PV.le (.e (.sl true 1 7 fun i_ j_ => (ivL (pointI oneD)).getD (i_ * 7 + j_) (.v (.bool false)))) (.e (ivsP [(pointI oneD)]))), .a (by omega : x < n),
      .a (by omega : ((lnE (buildM n (fun _ => n) (fun i j => pointI (if i = j then ⟨false, 1, 0⟩ else zeroD)) x k)) x + [(pointI oneD)].length) * 88 ≤ 140737488355328), iX ((x : Int)) (n) (by omega), .a (rfl : x = x), .a (rfl : x = x),
      .a (by omega : x < n), r64 ((k : Int) + 1) (by omega)] <| .e (chain [.b 14 (rows_push rfl (by omega) (by omega) (by rw [if_pos c1]; rfl) : Bx.le (.rows true 31 28 n 7 (fun q => if q = x then (lnE (buildM n (fun _ => n) (fun i j => pointI (if i = j then ⟨false, 1, 0⟩ else zeroD)) x k)) q + [(pointI oneD)].length else (lnE (buildM n (fun _ => n) (fun i j => pointI (if i = j then ⟨false, 1, 0⟩ else zeroD)) x k)) q) (fun q i j => if q = x then (if i < (lnE (buildM n (fun _ => n) (fun i j => pointI (if i = j then ⟨false, 1, 0⟩ else zeroD)) x k)) q then (rowsE (buildM n (fun _ => n) (fun i j => pointI (if i = j then ⟨false, 1, 0⟩ else zeroD)) x k)) q i j else (E.elf (ivsP [(pointI oneD)])) (i - (lnE (buildM n (fun _ => n) (fun i j => pointI (if i = j then ⟨false, 1, 0⟩ else zeroD)) x k)) q) j) else (rowsE (buildM n (fun _ => n) (fun i j => pointI (if i = j then ⟨false, 1, 0⟩ else zeroD)) x k)) q i j) .none) (.rows true 31 28 n 7 (lnE (buildM n (fun _ => n) (fun i j => pointI (if i = j then ⟨false, 1, 0⟩ else zeroD)) x (k + 1))) (rowsE (buildM n (fun _ => n) (fun i j => pointI (if i = j then ⟨false, 1, 0⟩ else zeroD)) x (k + 1))) .none))] <| .nil)) (by kernel_rfl)
    ·have h1 := one_len (pointI zeroD)
     exact spt (chain [tT 22 ((k : Int) < (n : Int)) (by omega), tB 26 (natEq_false c1 : ((x : Int) == (k : Int)) = false), iX ((x : Int)) (n) (by omega), .a (by omega : x < n), .c (int0 : PCt 112 [(iP 0)] _),
      .c (ivPoint_pc zeroD ‹_›), .o 36 (.e (ivs1_le _) : PV.le (.e (.sl true 1 7 fun i_ j_ => (ivL (pointI zeroD)).getD (i_ * 7 + j_) (.v (.bool false)))) (.e (ivsP [(pointI zeroD)]))), .a (by omega : x < n),
      .a (by omega : ((lnE (buildM n (fun _ => n) (fun i j => pointI (if i = j then ⟨false, 1, 0⟩ else zeroD)) x k)) x + [(pointI zeroD)].length) * 88 ≤ 140737488355328), iX ((x : Int)) (n) (by omega), .a (rfl : x = x), .a (rfl : x = x),
      .a (by omega : x < n), r64 ((k : Int) + 1) (by omega)] <| .e (chain [.b 14 (rows_push rfl (by omega) (by omega) (by rw [if_neg c1]) : Bx.le (.rows true 31 28 n 7 (fun q => if q = x then (lnE (buildM n (fun _ => n) (fun i j => pointI (if i = j then ⟨false, 1, 0⟩ else zeroD)) x k)) q + [(pointI zeroD)].length else (lnE (buildM n (fun _ => n) (fun i j => pointI (if i = j then ⟨false, 1, 0⟩ else zeroD)) x k)) q) (fun q i j => if q = x then (if i < (lnE (buildM n (fun _ => n) (fun i j => pointI (if i = j then ⟨false, 1, 0⟩ else zeroD)) x k)) q then (rowsE (buildM n (fun _ => n) (fun i j => pointI (if i = j then ⟨false, 1, 0⟩ else zeroD)) x k)) q i j else (E.elf (ivsP [(pointI zeroD)])) (i - (lnE (buildM n (fun _ => n) (fun i j => pointI (if i = j then ⟨false, 1, 0⟩ else zeroD)) x k)) q) j) else (rowsE (buildM n (fun _ => n) (fun i j => pointI (if i = j then ⟨false, 1, 0⟩ else zeroD)) x k)) q i j) .none) (.rows true 31 28 n 7 (lnE (buildM n (fun _ => n) (fun i j => pointI (if i = j then ⟨false, 1, 0⟩ else zeroD)) x (k + 1))) (rowsE (buildM n (fun _ => n) (fun i j => pointI (if i = j then ⟨false, 1, 0⟩ else zeroD)) x (k + 1))) .none))] <| .nil)) (by kernel_rfl))
  (fun hk => by
    exact spt (chain [tF 22 ((n : Int) < (n : Int)) (by omega)] <| .nil) (by kernel_rfl)) (by nofun) : LpT 8 Tryz.f36 (idFamIn n x 0) (.exit 2) ⟨42, true, [(17, .e (iP x)), (16, .e (iP n)), (3, .own 14), (0, .e (iP n))], [(14, .rows true 31 28 n 7 (lnE (buildM n (fun _ => n) (fun i j => pointI (if i = j then ⟨false, 1, 0⟩ else zeroD)) x n)) (rowsE (buildM n (fun _ => n) (fun i j => pointI (if i = j then ⟨false, 1, 0⟩ else zeroD)) x n)) .none)]⟩) .nil,
     r64 ((x : Int) + 1) (by omega)] <| .e (chain [.b 14 (rows_next rfl : Bx.le (.rows true 31 28 n 7 (lnE (buildM n (fun _ => n) (fun i j => pointI (if i = j then ⟨false, 1, 0⟩ else zeroD)) x n)) (rowsE (buildM n (fun _ => n) (fun i j => pointI (if i = j then ⟨false, 1, 0⟩ else zeroD)) x n)) .none) (.rows true 31 28 n 7 (lnE (buildM n (fun _ => n) (fun i j => pointI (if i = j then ⟨false, 1, 0⟩ else zeroD)) (x + 1) 0)) (rowsE (buildM n (fun _ => n) (fun i j => pointI (if i = j then ⟨false, 1, 0⟩ else zeroD)) (x + 1) 0)) .none))] <| .nil)) (by kernel_rfl))
  (fun hx => by
    exact spt (chain [tF 18 ((n : Int) < (n : Int)) (by omega)] <| .nil) (by kernel_rfl)) (by nofun) : LpT 5 Tryz.f36 (idFam n 0) (.exit 0) ⟨42, true, [(3, .own 14)], [(14, .rows true 31 28 n 7 (lnE (buildM n (fun _ => n) (fun i j => pointI (if i = j then ⟨false, 1, 0⟩ else zeroD)) n 0)) (rowsE (buildM n (fun _ => n) (fun i j => pointI (if i = j then ⟨false, 1, 0⟩ else zeroD)) n 0)) .none)]⟩) (chain [.b 14 (rows_init rfl : Bx.le (.rows true 31 28 n 7 (fun _ => 0) (fun _ _ _ => .any) .none) (.rows true 31 28 n 7 (lnE (buildM n (fun _ => n) (fun i j => pointI (if i = j then ⟨false, 1, 0⟩ else zeroD)) 0 0)) (rowsE (buildM n (fun _ => n) (fun i j => pointI (if i = j then ⟨false, 1, 0⟩ else zeroD)) 0 0)) .none))] <| .nil)] <| rR (matP (identM n)) (by
      rw [← ew, ← buildM_done]; exact matRows_le (buildM_len _ _ _ _ _).symm : E.le (.sl true n 1 fun k_ _ => .sl true ((lnE (buildM n (fun _ => n) (fun i j => pointI (if i = j then ⟨false, 1, 0⟩ else zeroD)) n 0)) k_) 7 ((rowsE (buildM n (fun _ => n) (fun i j => pointI (if i = j then ⟨false, 1, 0⟩ else zeroD)) n 0)) k_)) (matP (identM n)))) (by kernel_rfl)
open Go.RowKit Fp Pu
abbrev vfa0 (m : List (List Iv)) (x) (p) := nsum (m.getD x []) p ((m.getD x []).length)
abbrev vfa3 (m : List (List Iv)) (x) (k) := magI ((m.getD x []).getD k wholeI)
abbrev vfa1 (m : List (List Iv)) (x) (p) (k) := dyL (rndD (sumD (nsum (m.getD x []) p k) (vfa3 m x k)) p true)
abbrev vfa2 : E := .agg [(bP false), (.v (.slice none 0 0)), (iP 0)]
def normFam (m : List (List Iv)) (p : Nat) (x : Nat) : PS := ⟨64, true, [(27, .e (iP x)), (26, .e (iP m.length)), (25, .e (matP m)), (6, .box 6 0), (4, .box 4 0), (1, .e (iP p))], [(6, .cells 26 (dyL (nmost m p x))), (4, .cells 26 [(bP false), (.v (.slice none 0 0)), (iP 0)])]⟩
def normFamIn (m : List (List Iv)) (p x : Nat) (k : Nat) : PS := ⟨64, true, [(33, .e (iP k)), (32, .e (iP (((m.getD x []).length : Nat) : Int))), (31, .e (ivsP (m.getD x []))), (9, .box 9 0), (27, .e (iP x)), (26, .e (iP m.length)), (25, .e (matP m)), (6, .box 6 0), (4, .box 4 0), (1, .e (iP p))], [(9, .cells 26 (dyL (nsum (m.getD x []) p k))), (6, .cells 26 (dyL (nmost m p x))), (4, .cells 26 [(bP false), (.v (.slice none 0 0)), (iP 0)])]⟩
def normFA (m : List (List Iv)) (p N : Nat) (x : Nat) : PS := ⟨64, true, [(27, .e (iP x)), (26, .e (iP m.length)), (25, .e (matP m)), (6, .box 6 0), (4, .box 4 0), (1, .e (iP p))], [(6, .cells 26 (dyL (nmost m p x))), (4, .cells 26 [(bP false), (.v (.slice none 0 0)), (iP 0)])]⟩
def normFAIn (m : List (List Iv)) (p N K : Nat) (k : Nat) : PS := ⟨64, true, [(33, .e (iP k)), (32, .e (iP (((m.getD N []).length : Nat) : Int))), (31, .e (ivsP (m.getD N []))), (9, .box 9 0), (27, .e (iP N)), (26, .e (iP m.length)), (25, .e (matP m)), (6, .box 6 0), (4, .box 4 0), (1, .e (iP p))], [(9, .cells 26 (dyL (nsum (m.getD N []) p k))), (6, .cells 26 (dyL (nmost m p N))), (4, .cells 26 [(bP false), (.v (.slice none 0 0)), (iP 0)])]⟩
def normFB (m : List (List Iv)) (p N : Nat) (x : Nat) : PS := ⟨64, true, [(27, .e (iP x)), (26, .e (iP m.length)), (25, .e (matP m)), (6, .box 6 0), (4, .box 4 0), (1, .e (iP p))], [(6, .cells 26 (dyL (nmost m p x))), (4, .cells 26 [(bP false), (.v (.slice none 0 0)), (iP 0)])]⟩
def normFBIn (m : List (List Iv)) (p N K : Nat) (k : Nat) : PS := ⟨64, true, [(33, .e (iP k)), (32, .e (iP (((m.getD N []).length : Nat) : Int))), (31, .e (ivsP (m.getD N []))), (9, .box 9 0), (27, .e (iP N)), (26, .e (iP m.length)), (25, .e (matP m)), (6, .box 6 0), (4, .box 4 0), (1, .e (iP p))], [(9, .cells 26 (dyL (nsum (m.getD N []) p k))), (6, .cells 26 (dyL (nmost m p N))), (4, .cells 26 [(bP false), (.v (.slice none 0 0)), (iP 0)])]⟩
theorem ivMag_all (x : Iv) (hx : x.Valid) (hxa : x.all = true) : PCt 182 [(ivP x)] (.tup [dyP zeroD, bP false]) := by
 exact tr true Tryz.call182 Tryz.func182 (chain [.o 5 (.e (ivs1_le _) : PV.le (.e (.sl true 1 7 fun i_ j_ => (ivL x).getD (i_ * 7 + j_) (.v (.bool false)))) (.e (ivsP [x]))), .c (ivKnown1_pc _ ‹_› : PCt 90 [(ivsP [x])] _), tB 6 (by rw [hxa]; rfl : (!x.all) = false),
  .o 8 (.e zeroP_le : PV.le (.e vfa2) (.e (dyP zeroD)))] <| .nil) (by kernel_rfl)
theorem norm_some (m : List (List Iv)) (n c p : Nat) (ga : MOk m n c) (hp1 : 8 ≤ p) (hp2 : p ≤ 512) (hg : ∀ x, x < m.length → ∀ k, k < (m.getD x []).length → NGood (m.getD x []) p k) : PCt 117 [(matP m), (iP p)] (.tup [dyP (nmost m p m.length), bP true]) := by
 have ra := ga.rows
 have n8 := ga.n8
 have c8 := ga.k8
 exact tr true Tryz.call117 Tryz.func117 (chain [.c (matValid_pc _ _ _ ‹_› : PCt 103 [(matP m)] _), .c (mxPrecise_pc _ : PCt 121 [(iP p)] _), tB 21 (precB_true.2 ⟨by omega, by omega⟩ : (precB (p : Int)) = true),
  .s (Sp.upto (normFam m p) 0 m.length (by omega) (fun x hx hltx => by
    have lx := ga.len_at (show x < n by omega)
    have u1 := nsum_valid (m.getD x []) (show 1 ≤ p by omega) (by omega) (m.getD x []).length
    have u2 := nmost_valid m (show 1 ≤ p by omega) (by omega) x
    by_cases c1 : 0 < cmpD (nsum (m.getD x []) p ((m.getD x []).length)) (nmost m p x)
    ·exact spt (chain [tT 28 ((x : Int) < (m.length : Int)) (by omega), iX ((x : Int)) (m.length) (by omega),
      .s (Sp.upto (normFamIn m p x) 0 ((m.getD x []).length) (by omega) (fun k hk hltk => by
    have gg := (hg x (by omega)) k (by omega)
    have v1 := nsum_valid (m.getD x []) (show 1 ≤ p by omega) (by omega) k
    have v2 := ga.val_at (show x < n by omega) (show k < c by omega)
    have gga := gg.all
    have v3 := magI_valid v2.ends.1 v2.ends.2
    exact spt (chain [tT 34 ((k : Int) < (((m.getD x []).length : Nat) : Int)) (by omega), iX ((k : Int)) ((m.getD x []).length) (by omega), .c (ivMag_pc ((m.getD x []).getD k wholeI) ‹_› gga),
     .c (rdAddUp_pc (nsum (m.getD x []) p k) (vfa3 m x k) p ‹_› ‹_› (by omega) (by omega)),
     tB 53 (by rw [gg.err]; rfl : ((rndE (sumD (nsum (m.getD x []) p k) (magI ((m.getD x []).getD k wholeI))) p true) != 0) = false), r64 ((k : Int) + 1) (by omega)] <| .e (chain [.b 9 (.of_eq rfl : Bx.le (.cells 26 (vfa1 m x p k)) (.cells 26 (dyL (nsum (m.getD x []) p (k + 1)))))] <| .nil)) (by kernel_rfl))
  (fun hk => by
    exact spt (chain [tF 34 ((((m.getD x []).length : Nat) : Int) < (((m.getD x []).length : Nat) : Int)) (by omega)] <| .nil) (by kernel_rfl)) (by nofun) : LpT 9 Tryz.f117 (normFamIn m p x 0) (.exit 2) ⟨64, true, [(9, .box 9 0), (27, .e (iP x)), (26, .e (iP m.length)), (25, .e (matP m)), (6, .box 6 0), (4, .box 4 0), (1, .e (iP p))], [(9, .cells 26 (dyL (vfa0 m x p))), (6, .cells 26 (dyL (nmost m p x))), (4, .cells 26 [(bP false), (.v (.slice none 0 0)), (iP 0)])]⟩) (chain [.b 9 (.cells (fun _ => rfl) zero_cells : Bx.le (.cells 26 [(bP false), (.v (.slice none 0 0)), (iP 0)]) (.cells 26 (dyL (nsum (m.getD x []) p 0))))] <| .nil),
      .c (dyCmp_pc _ _ ‹_› ‹_› : PCt 82 [(dyP (vfa0 m x p)), (dyP (nmost m p x))] _), tB 60 (decide_eq_true c1), r64 ((x : Int) + 1) (by omega)] <| .e (chain [.b 6 (.of_eq (by rw [show nmost m p (x + 1) = (vfa0 m x p) from if_pos c1]) : Bx.le (.cells 26 (dyL (vfa0 m x p))) (.cells 26 (dyL (nmost m p (x + 1)))))] <| .nil)) (by kernel_rfl)
    ·exact spt (chain [tT 28 ((x : Int) < (m.length : Int)) (by omega), iX ((x : Int)) (m.length) (by omega),
      .s (Sp.upto (normFamIn m p x) 0 ((m.getD x []).length) (by omega) (fun k hk hltk => by
    have gg := (hg x (by omega)) k (by omega)
    have v1 := nsum_valid (m.getD x []) (show 1 ≤ p by omega) (by omega) k
    have v2 := ga.val_at (show x < n by omega) (show k < c by omega)
    have gga := gg.all
    have v3 := magI_valid v2.ends.1 v2.ends.2
    exact spt (chain [tT 34 ((k : Int) < (((m.getD x []).length : Nat) : Int)) (by omega), iX ((k : Int)) ((m.getD x []).length) (by omega), .c (ivMag_pc ((m.getD x []).getD k wholeI) ‹_› gga),
     .c (rdAddUp_pc (nsum (m.getD x []) p k) (vfa3 m x k) p ‹_› ‹_› (by omega) (by omega)),
     tB 53 (by rw [gg.err]; rfl : ((rndE (sumD (nsum (m.getD x []) p k) (magI ((m.getD x []).getD k wholeI))) p true) != 0) = false), r64 ((k : Int) + 1) (by omega)] <| .e (chain [.b 9 (.of_eq rfl : Bx.le (.cells 26 (vfa1 m x p k)) (.cells 26 (dyL (nsum (m.getD x []) p (k + 1)))))] <| .nil)) (by kernel_rfl))
  (fun hk => by
    exact spt (chain [tF 34 ((((m.getD x []).length : Nat) : Int) < (((m.getD x []).length : Nat) : Int)) (by omega)] <| .nil) (by kernel_rfl)) (by nofun) : LpT 9 Tryz.f117 (normFamIn m p x 0) (.exit 2) ⟨64, true, [(9, .box 9 0), (27, .e (iP x)), (26, .e (iP m.length)), (25, .e (matP m)), (6, .box 6 0), (4, .box 4 0), (1, .e (iP p))], [(9, .cells 26 (dyL (vfa0 m x p))), (6, .cells 26 (dyL (nmost m p x))), (4, .cells 26 [(bP false), (.v (.slice none 0 0)), (iP 0)])]⟩) (chain [.b 9 (.cells (fun _ => rfl) zero_cells : Bx.le (.cells 26 [(bP false), (.v (.slice none 0 0)), (iP 0)]) (.cells 26 (dyL (nsum (m.getD x []) p 0))))] <| .nil),
      .c (dyCmp_pc _ _ ‹_› ‹_› : PCt 82 [(dyP (vfa0 m x p)), (dyP (nmost m p x))] _), tB 60 (decide_eq_false c1), r64 ((x : Int) + 1) (by omega)] <| .e (chain [.b 6 (.of_eq (by rw [show nmost m p (x + 1) = (nmost m p x) from if_neg c1]) : Bx.le (.cells 26 (dyL (nmost m p x))) (.cells 26 (dyL (nmost m p (x + 1)))))] <| .nil)) (by kernel_rfl))
  (fun hx => by
    exact spt (chain [tF 28 ((m.length : Int) < (m.length : Int)) (by omega)] <| .nil) (by kernel_rfl)) (by nofun) : LpT 5 Tryz.f117 (normFam m p 0) (.exit 0) ⟨64, true, [(6, .box 6 0), (4, .box 4 0)], [(6, .cells 26 (dyL (nmost m p m.length))), (4, .cells 26 [(bP false), (.v (.slice none 0 0)), (iP 0)])]⟩) (chain [.b 6 (.cells (fun _ => rfl) zero_cells : Bx.le (.cells 26 [(bP false), (.v (.slice none 0 0)), (iP 0)]) (.cells 26 (dyL (nmost m p 0))))] <| .nil)] <| .nil) (by kernel_rfl)
theorem norm_bad1 (m : List (List Iv)) (n c p : Nat) (ga : MOk m n c) (hp1 : 8 ≤ p) (hp2 : p ≤ 512) (N K : Nat) (hN : N < m.length) (hK : K < (m.getD N []).length) (hg : ∀ x, x < N → ∀ k, k < (m.getD x []).length → NGood (m.getD x []) p k) (hgN : ∀ k, k < K → NGood (m.getD N []) p k) (hbad : ((m.getD N []).getD K wholeI).all = true) : PCt 117 [(matP m), (iP p)] (.tup [dyP zeroD, bP false]) := by
 have ra := ga.rows
 have n8 := ga.n8
 have c8 := ga.k8
 exact tr true Tryz.call117 Tryz.func117 (chain [.c (matValid_pc _ _ _ ‹_› : PCt 103 [(matP m)] _), .c (mxPrecise_pc _ : PCt 121 [(iP p)] _), tB 21 (precB_true.2 ⟨by omega, by omega⟩ : (precB (p : Int)) = true),
  .s (Sp.upto (normFA m p N) 0 N (by omega) (fun x hx hltx => by
    have lx := ga.len_at (show x < n by omega)
    have u1 := nsum_valid (m.getD x []) (show 1 ≤ p by omega) (by omega) (m.getD x []).length
    have u2 := nmost_valid m (show 1 ≤ p by omega) (by omega) x
    by_cases c1 : 0 < cmpD (nsum (m.getD x []) p ((m.getD x []).length)) (nmost m p x)
    ·exact spt (chain [tT 28 ((x : Int) < (m.length : Int)) (by omega), iX ((x : Int)) (m.length) (by omega),
      .s (Sp.upto (normFamIn m p x) 0 ((m.getD x []).length) (by omega) (fun k hk hltk => by
    have gg := (hg x (by omega)) k (by omega)
    have v1 := nsum_valid (m.getD x []) (show 1 ≤ p by omega) (by omega) k
    have v2 := ga.val_at (show x < n by omega) (show k < c by omega)
    have gga := gg.all
    have v3 := magI_valid v2.ends.1 v2.ends.2
    exact spt (chain [tT 34 ((k : Int) < (((m.getD x []).length : Nat) : Int)) (by omega), iX ((k : Int)) ((m.getD x []).length) (by omega), .c (ivMag_pc ((m.getD x []).getD k wholeI) ‹_› gga),
     .c (rdAddUp_pc (nsum (m.getD x []) p k) (vfa3 m x k) p ‹_› ‹_› (by omega) (by omega)),
     tB 53 (by rw [gg.err]; rfl : ((rndE (sumD (nsum (m.getD x []) p k) (magI ((m.getD x []).getD k wholeI))) p true) != 0) = false), r64 ((k : Int) + 1) (by omega)] <| .e (chain [.b 9 (.of_eq rfl : Bx.le (.cells 26 (vfa1 m x p k)) (.cells 26 (dyL (nsum (m.getD x []) p (k + 1)))))] <| .nil)) (by kernel_rfl))
  (fun hk => by
    exact spt (chain [tF 34 ((((m.getD x []).length : Nat) : Int) < (((m.getD x []).length : Nat) : Int)) (by omega)] <| .nil) (by kernel_rfl)) (by nofun) : LpT 9 Tryz.f117 (normFamIn m p x 0) (.exit 2) ⟨64, true, [(9, .box 9 0), (27, .e (iP x)), (26, .e (iP m.length)), (25, .e (matP m)), (6, .box 6 0), (4, .box 4 0), (1, .e (iP p))], [(9, .cells 26 (dyL (vfa0 m x p))), (6, .cells 26 (dyL (nmost m p x))), (4, .cells 26 [(bP false), (.v (.slice none 0 0)), (iP 0)])]⟩) (chain [.b 9 (.cells (fun _ => rfl) zero_cells : Bx.le (.cells 26 [(bP false), (.v (.slice none 0 0)), (iP 0)]) (.cells 26 (dyL (nsum (m.getD x []) p 0))))] <| .nil),
      .c (dyCmp_pc _ _ ‹_› ‹_› : PCt 82 [(dyP (vfa0 m x p)), (dyP (nmost m p x))] _), tB 60 (decide_eq_true c1), r64 ((x : Int) + 1) (by omega)] <| .e (chain [.b 6 (.of_eq (by rw [show nmost m p (x + 1) = (vfa0 m x p) from if_pos c1]) : Bx.le (.cells 26 (dyL (vfa0 m x p))) (.cells 26 (dyL (nmost m p (x + 1)))))] <| .nil)) (by kernel_rfl)
    ·exact spt (chain [tT 28 ((x : Int) < (m.length : Int)) (by omega), iX ((x : Int)) (m.length) (by omega),
      .s (Sp.upto (normFamIn m p x) 0 ((m.getD x []).length) (by omega) (fun k hk hltk => by
    have gg := (hg x (by omega)) k (by omega)
    have v1 := nsum_valid (m.getD x []) (show 1 ≤ p by omega) (by omega) k
    have v2 := ga.val_at (show x < n by omega) (show k < c by omega)
    have gga := gg.all
    have v3 := magI_valid v2.ends.1 v2.ends.2
    exact spt (chain [tT 34 ((k : Int) < (((m.getD x []).length : Nat) : Int)) (by omega), iX ((k : Int)) ((m.getD x []).length) (by omega), .c (ivMag_pc ((m.getD x []).getD k wholeI) ‹_› gga),
     .c (rdAddUp_pc (nsum (m.getD x []) p k) (vfa3 m x k) p ‹_› ‹_› (by omega) (by omega)),
     tB 53 (by rw [gg.err]; rfl : ((rndE (sumD (nsum (m.getD x []) p k) (magI ((m.getD x []).getD k wholeI))) p true) != 0) = false), r64 ((k : Int) + 1) (by omega)] <| .e (chain [.b 9 (.of_eq rfl : Bx.le (.cells 26 (vfa1 m x p k)) (.cells 26 (dyL (nsum (m.getD x []) p (k + 1)))))] <| .nil)) (by kernel_rfl))
  (fun hk => by
    exact spt (chain [tF 34 ((((m.getD x []).length : Nat) : Int) < (((m.getD x []).length : Nat) : Int)) (by omega)] <| .nil) (by kernel_rfl)) (by nofun) : LpT 9 Tryz.f117 (normFamIn m p x 0) (.exit 2) ⟨64, true, [(9, .box 9 0), (27, .e (iP x)), (26, .e (iP m.length)), (25, .e (matP m)), (6, .box 6 0), (4, .box 4 0), (1, .e (iP p))], [(9, .cells 26 (dyL (vfa0 m x p))), (6, .cells 26 (dyL (nmost m p x))), (4, .cells 26 [(bP false), (.v (.slice none 0 0)), (iP 0)])]⟩) (chain [.b 9 (.cells (fun _ => rfl) zero_cells : Bx.le (.cells 26 [(bP false), (.v (.slice none 0 0)), (iP 0)]) (.cells 26 (dyL (nsum (m.getD x []) p 0))))] <| .nil),
      .c (dyCmp_pc _ _ ‹_› ‹_› : PCt 82 [(dyP (vfa0 m x p)), (dyP (nmost m p x))] _), tB 60 (decide_eq_false c1), r64 ((x : Int) + 1) (by omega)] <| .e (chain [.b 6 (.of_eq (by rw [show nmost m p (x + 1) = (nmost m p x) from if_neg c1]) : Bx.le (.cells 26 (dyL (nmost m p x))) (.cells 26 (dyL (nmost m p (x + 1)))))] <| .nil)) (by kernel_rfl))
  (fun hx => by
    have lN := ga.len_at (show N < n by omega)
    exact spt (chain [tT 28 ((N : Int) < (m.length : Int)) (by omega), iX ((N : Int)) (m.length) (by omega),
    .s (Sp.upto (normFAIn m p N K) 0 K (by omega) (fun k hk hltk => by
    have gg := hgN k (by omega)
    have v1 := nsum_valid (m.getD N []) (show 1 ≤ p by omega) (by omega) k
    have v2 := ga.val_at (show N < n by omega) (show k < c by omega)
    have gga := gg.all
    have v3 := magI_valid v2.ends.1 v2.ends.2
    exact spt (chain [tT 34 ((k : Int) < (((m.getD N []).length : Nat) : Int)) (by omega), iX ((k : Int)) ((m.getD N []).length) (by omega), .c (ivMag_pc ((m.getD N []).getD k wholeI) ‹_› gga),
     .c (rdAddUp_pc (nsum (m.getD N []) p k) (magI ((m.getD N []).getD k wholeI)) p ‹_› ‹_› (by omega) (by omega)),
     tB 53 (by rw [gg.err]; rfl : ((rndE (sumD (nsum (m.getD N []) p k) (magI ((m.getD N []).getD k wholeI))) p true) != 0) = false), r64 ((k : Int) + 1) (by omega)] <| .e (chain [.b 9 (.of_eq rfl : Bx.le (.cells 26 (dyL (rndD (sumD (nsum (m.getD N []) p k) (magI ((m.getD N []).getD k wholeI))) p true))) (.cells 26 (dyL (nsum (m.getD N []) p (k + 1)))))] <| .nil)) (by kernel_rfl))
  (fun hk => by
    have v1 := nsum_valid (m.getD N []) (show 1 ≤ p by omega) (by omega) K
    have v2 := ga.val_at (show N < n by omega) (show K < c by omega)
    have v3 := magI_valid v2.ends.1 v2.ends.2
    exact spt (chain [tT 34 ((K : Int) < (((m.getD N []).length : Nat) : Int)) (by omega), iX ((K : Int)) ((m.getD N []).length) (by omega), .c (ivMag_all _ ‹_› hbad : PCt 182 [(ivP ((m.getD N []).getD K wholeI))] _),
    .o 44 (.e zeroP_le : PV.le (.e vfa2) (.e (dyP zeroD)))] <| .nil) (by kernel_rfl)) (by nofun) : LpT 9 Tryz.f117 (normFAIn m p N K 0) .ret ⟨64, true, [(5, .e (bP false)), (4, .box 4 0)], [(4, .cells 26 (dyL zeroD))]⟩) (chain [.b 9 (.cells (fun _ => rfl) zero_cells : Bx.le (.cells 26 [(bP false), (.v (.slice none 0 0)), (iP 0)]) (.cells 26 (dyL (nsum (m.getD N []) p 0))))] <| .nil)] <| .nil) (by kernel_rfl)) (by nofun) : LpT 5 Tryz.f117 (normFA m p N 0) .ret ⟨64, true, [(5, .e (bP false)), (4, .box 4 0)], [(4, .cells 26 (dyL zeroD))]⟩) (chain [.b 6 (.cells (fun _ => rfl) zero_cells : Bx.le (.cells 26 [(bP false), (.v (.slice none 0 0)), (iP 0)]) (.cells 26 (dyL (nmost m p 0))))] <| .nil)] <| .nil) (by kernel_rfl)
theorem norm_bad2 (m : List (List Iv)) (n c p : Nat) (ga : MOk m n c) (hp1 : 8 ≤ p) (hp2 : p ≤ 512) (N K : Nat) (hN : N < m.length) (hK : K < (m.getD N []).length) (hg : ∀ x, x < N → ∀ k, k < (m.getD x []).length → NGood (m.getD x []) p k) (hgN : ∀ k, k < K → NGood (m.getD N []) p k) (hall : ((m.getD N []).getD K wholeI).all = false) (hbad : ¬ rndE (sumD (nsum (m.getD N []) p K) (magI ((m.getD N []).getD K wholeI))) p true = 0) : PCt 117 [(matP m), (iP p)] (.tup [dyP zeroD, bP false]) := by
 have ra := ga.rows
 have n8 := ga.n8
 have c8 := ga.k8
 exact tr true Tryz.call117 Tryz.func117 (chain [.c (matValid_pc _ _ _ ‹_› : PCt 103 [(matP m)] _), .c (mxPrecise_pc _ : PCt 121 [(iP p)] _), tB 21 (precB_true.2 ⟨by omega, by omega⟩ : (precB (p : Int)) = true),
  .s (Sp.upto (normFB m p N) 0 N (by omega) (fun x hx hltx => by
    have lx := ga.len_at (show x < n by omega)
    have u1 := nsum_valid (m.getD x []) (show 1 ≤ p by omega) (by omega) (m.getD x []).length
    have u2 := nmost_valid m (show 1 ≤ p by omega) (by omega) x
    by_cases c1 : 0 < cmpD (nsum (m.getD x []) p ((m.getD x []).length)) (nmost m p x)
    ·exact spt (chain [tT 28 ((x : Int) < (m.length : Int)) (by omega), iX ((x : Int)) (m.length) (by omega),
      .s (Sp.upto (normFamIn m p x) 0 ((m.getD x []).length) (by omega) (fun k hk hltk => by
    have gg := (hg x (by omega)) k (by omega)
    have v1 := nsum_valid (m.getD x []) (show 1 ≤ p by omega) (by omega) k
    have v2 := ga.val_at (show x < n by omega) (show k < c by omega)
    have gga := gg.all
    have v3 := magI_valid v2.ends.1 v2.ends.2
    exact spt (chain [tT 34 ((k : Int) < (((m.getD x []).length : Nat) : Int)) (by omega), iX ((k : Int)) ((m.getD x []).length) (by omega), .c (ivMag_pc ((m.getD x []).getD k wholeI) ‹_› gga),
     .c (rdAddUp_pc (nsum (m.getD x []) p k) (vfa3 m x k) p ‹_› ‹_› (by omega) (by omega)),
     tB 53 (by rw [gg.err]; rfl : ((rndE (sumD (nsum (m.getD x []) p k) (magI ((m.getD x []).getD k wholeI))) p true) != 0) = false), r64 ((k : Int) + 1) (by omega)] <| .e (chain [.b 9 (.of_eq rfl : Bx.le (.cells 26 (vfa1 m x p k)) (.cells 26 (dyL (nsum (m.getD x []) p (k + 1)))))] <| .nil)) (by kernel_rfl))
  (fun hk => by
    exact spt (chain [tF 34 ((((m.getD x []).length : Nat) : Int) < (((m.getD x []).length : Nat) : Int)) (by omega)] <| .nil) (by kernel_rfl)) (by nofun) : LpT 9 Tryz.f117 (normFamIn m p x 0) (.exit 2) ⟨64, true, [(9, .box 9 0), (27, .e (iP x)), (26, .e (iP m.length)), (25, .e (matP m)), (6, .box 6 0), (4, .box 4 0), (1, .e (iP p))], [(9, .cells 26 (dyL (vfa0 m x p))), (6, .cells 26 (dyL (nmost m p x))), (4, .cells 26 [(bP false), (.v (.slice none 0 0)), (iP 0)])]⟩) (chain [.b 9 (.cells (fun _ => rfl) zero_cells : Bx.le (.cells 26 [(bP false), (.v (.slice none 0 0)), (iP 0)]) (.cells 26 (dyL (nsum (m.getD x []) p 0))))] <| .nil),
      .c (dyCmp_pc _ _ ‹_› ‹_› : PCt 82 [(dyP (vfa0 m x p)), (dyP (nmost m p x))] _), tB 60 (decide_eq_true c1), r64 ((x : Int) + 1) (by omega)] <| .e (chain [.b 6 (.of_eq (by rw [show nmost m p (x + 1) = (vfa0 m x p) from if_pos c1]) : Bx.le (.cells 26 (dyL (vfa0 m x p))) (.cells 26 (dyL (nmost m p (x + 1)))))] <| .nil)) (by kernel_rfl)
    ·exact spt (chain [tT 28 ((x : Int) < (m.length : Int)) (by omega), iX ((x : Int)) (m.length) (by omega),
      .s (Sp.upto (normFamIn m p x) 0 ((m.getD x []).length) (by omega) (fun k hk hltk => by
    have gg := (hg x (by omega)) k (by omega)
    have v1 := nsum_valid (m.getD x []) (show 1 ≤ p by omega) (by omega) k
    have v2 := ga.val_at (show x < n by omega) (show k < c by omega)
    have gga := gg.all
    have v3 := magI_valid v2.ends.1 v2.ends.2
    exact spt (chain [tT 34 ((k : Int) < (((m.getD x []).length : Nat) : Int)) (by omega), iX ((k : Int)) ((m.getD x []).length) (by omega), .c (ivMag_pc ((m.getD x []).getD k wholeI) ‹_› gga),
     .c (rdAddUp_pc (nsum (m.getD x []) p k) (vfa3 m x k) p ‹_› ‹_› (by omega) (by omega)),
     tB 53 (by rw [gg.err]; rfl : ((rndE (sumD (nsum (m.getD x []) p k) (magI ((m.getD x []).getD k wholeI))) p true) != 0) = false), r64 ((k : Int) + 1) (by omega)] <| .e (chain [.b 9 (.of_eq rfl : Bx.le (.cells 26 (vfa1 m x p k)) (.cells 26 (dyL (nsum (m.getD x []) p (k + 1)))))] <| .nil)) (by kernel_rfl))
  (fun hk => by
    exact spt (chain [tF 34 ((((m.getD x []).length : Nat) : Int) < (((m.getD x []).length : Nat) : Int)) (by omega)] <| .nil) (by kernel_rfl)) (by nofun) : LpT 9 Tryz.f117 (normFamIn m p x 0) (.exit 2) ⟨64, true, [(9, .box 9 0), (27, .e (iP x)), (26, .e (iP m.length)), (25, .e (matP m)), (6, .box 6 0), (4, .box 4 0), (1, .e (iP p))], [(9, .cells 26 (dyL (vfa0 m x p))), (6, .cells 26 (dyL (nmost m p x))), (4, .cells 26 [(bP false), (.v (.slice none 0 0)), (iP 0)])]⟩) (chain [.b 9 (.cells (fun _ => rfl) zero_cells : Bx.le (.cells 26 [(bP false), (.v (.slice none 0 0)), (iP 0)]) (.cells 26 (dyL (nsum (m.getD x []) p 0))))] <| .nil),
      .c (dyCmp_pc _ _ ‹_› ‹_› : PCt 82 [(dyP (vfa0 m x p)), (dyP (nmost m p x))] _), tB 60 (decide_eq_false c1), r64 ((x : Int) + 1) (by omega)] <| .e (chain [.b 6 (.of_eq (by rw [show nmost m p (x + 1) = (nmost m p x) from if_neg c1]) : Bx.le (.cells 26 (dyL (nmost m p x))) (.cells 26 (dyL (nmost m p (x + 1)))))] <| .nil)) (by kernel_rfl))
  (fun hx => by
    have lN := ga.len_at (show N < n by omega)
    exact spt (chain [tT 28 ((N : Int) < (m.length : Int)) (by omega), iX ((N : Int)) (m.length) (by omega),
    .s (Sp.upto (normFBIn m p N K) 0 K (by omega) (fun k hk hltk => by
    have gg := hgN k (by omega)
    have v1 := nsum_valid (m.getD N []) (show 1 ≤ p by omega) (by omega) k
    have v2 := ga.val_at (show N < n by omega) (show k < c by omega)
    have gga := gg.all
    have v3 := magI_valid v2.ends.1 v2.ends.2
    exact spt (chain [tT 34 ((k : Int) < (((m.getD N []).length : Nat) : Int)) (by omega), iX ((k : Int)) ((m.getD N []).length) (by omega), .c (ivMag_pc ((m.getD N []).getD k wholeI) ‹_› gga),
     .c (rdAddUp_pc (nsum (m.getD N []) p k) (magI ((m.getD N []).getD k wholeI)) p ‹_› ‹_› (by omega) (by omega)),
     tB 53 (by rw [gg.err]; rfl : ((rndE (sumD (nsum (m.getD N []) p k) (magI ((m.getD N []).getD k wholeI))) p true) != 0) = false), r64 ((k : Int) + 1) (by omega)] <| .e (chain [.b 9 (.of_eq rfl : Bx.le (.cells 26 (dyL (rndD (sumD (nsum (m.getD N []) p k) (magI ((m.getD N []).getD k wholeI))) p true))) (.cells 26 (dyL (nsum (m.getD N []) p (k + 1)))))] <| .nil)) (by kernel_rfl))
  (fun hk => by
    have v1 := nsum_valid (m.getD N []) (show 1 ≤ p by omega) (by omega) K
    have v2 := ga.val_at (show N < n by omega) (show K < c by omega)
    have v3 := magI_valid v2.ends.1 v2.ends.2
    exact spt (chain [tT 34 ((K : Int) < (((m.getD N []).length : Nat) : Int)) (by omega), iX ((K : Int)) ((m.getD N []).length) (by omega), .c (ivMag_pc ((m.getD N []).getD K wholeI) ‹_› hall),
    .c (rdAddUp_pc (nsum (m.getD N []) p K) (magI ((m.getD N []).getD K wholeI)) p ‹_› ‹_› (by omega) (by omega)),
    tB 53 (by simpa using hbad : ((rndE (sumD (nsum (m.getD N []) p K) (magI ((m.getD N []).getD K wholeI))) p true) != 0) = true), .o 54 (.e zeroP_le : PV.le (.e vfa2) (.e (dyP zeroD)))] <| .nil) (by kernel_rfl)) (by nofun) : LpT 9 Tryz.f117 (normFBIn m p N K 0) .ret ⟨64, true, [(5, .e (bP false)), (4, .box 4 0)], [(4, .cells 26 (dyL zeroD))]⟩) (chain [.b 9 (.cells (fun _ => rfl) zero_cells : Bx.le (.cells 26 [(bP false), (.v (.slice none 0 0)), (iP 0)]) (.cells 26 (dyL (nsum (m.getD N []) p 0))))] <| .nil)] <| .nil) (by kernel_rfl)) (by nofun) : LpT 5 Tryz.f117 (normFB m p N 0) .ret ⟨64, true, [(5, .e (bP false)), (4, .box 4 0)], [(4, .cells 26 (dyL zeroD))]⟩) (chain [.b 6 (.cells (fun _ => rfl) zero_cells : Bx.le (.cells 26 [(bP false), (.v (.slice none 0 0)), (iP 0)]) (.cells 26 (dyL (nmost m p 0))))] <| .nil)] <| .nil) (by kernel_rfl)
open Go.RowKit Fp Pu
abbrev vga0 (h) (d : Dy) (p) (k) := divI (mulI (absI h) (pointI d) p) (numI (((k + 2) : Nat) : Int)) p
abbrev vga1 (h) (d : Dy) (p) (k) := powI (mulI (absI h) (pointI d) p) p (k + 1)
abbrev vga2 (h) (d : Dy) (p) (x : Nat) := divI (mulI (absI h) (pointI d) p) (numI (((x + 1) : Nat) : Int)) p
def restFam (m : List (List Iv)) (h : Iv) (d : Dy) (k p : Nat) (x : Nat) : PS := ⟨79, true, [(14, .e (iP (((x + 1) : Nat) : Int))), (13, .box 13 0), (12, .box 12 0), (8, .box 8 0), (2, .e (iP k)), (3, .e (iP p))], [(13, .cells 28 (ivL (powI (mulI (absI h) (pointI d) p) p x))), (12, .cells 28 (ivL (mulI (absI h) (pointI d) p))), (8, .cells 28 [(bP false), (.v (.slice none 0 0)), (iP 0), (bP false), (.v (.slice none 0 0)), (iP 0), (bP false)])]⟩
theorem first_bad {Q : Nat → Prop} {n : Nat} (h : ¬ ∀ i, i < n → Q i) : ∃ N, N < n ∧ ¬ Q N ∧ ∀ i, i < N → Q i := by
 induction n with
 | zero => exact absurd (fun i hi => absurd hi (Nat.not_lt_zero i)) h
 | succ n ih =>
  by_cases hn : ∀ i, i < n → Q i
  ·refine ⟨n, by omega, fun q => h fun i hi => ?_, hn⟩
   by_cases hin : i = n
   ·rw [hin]; exact q
   ·exact hn i (by omega)
  ·obtain ⟨N, h1, h2, h3⟩ := ih hn
   exact ⟨N, by omega, h2, h3⟩
theorem norm_yes (m : List (List Iv)) (n c p : Nat) (ga : MOk m n c) (hp1 : 8 ≤ p) (hp2 : p ≤ 512) (d : Dy) (hd : normM m p = some d) : PCt 117 [matP m, iP (p : Int)] (.tup [dyP d, bP true]) ∧ d.Valid := by
 have hg : ∀ x, x < m.length → ∀ k, k < (m.getD x []).length → NGood (m.getD x []) p k := by
  intro x hx k hk
  apply Classical.byContradiction
  intro q
  rw [normM_none hx hk q] at hd
  cases hd
 rw [normM_some hg] at hd
 cases hd
 exact ⟨norm_some m n c p ga hp1 hp2 hg, nmost_valid m (by omega) (by omega) _⟩
theorem norm_no (m : List (List Iv)) (n c p : Nat) (ga : MOk m n c) (hp1 : 8 ≤ p) (hp2 : p ≤ 512) (hd : normM m p = none) : PCt 117 [matP m, iP (p : Int)] (.tup [dyP zeroD, bP false]) := by
 have hb : ¬ ∀ x, x < m.length → ∀ k, k < (m.getD x []).length → NGood (m.getD x []) p k := fun hg => by rw [normM_some hg] at hd; cases hd
 obtain ⟨N, h1, h2, h3⟩ := first_bad (Q := fun x => ∀ k, k < (m.getD x []).length → NGood (m.getD x []) p k) hb
 obtain ⟨K, k1, k2, k3⟩ := first_bad h2
 by_cases ha : ((m.getD N []).getD K wholeI).all = true
 ·exact norm_bad1 m n c p ga hp1 hp2 N K h1 k1 h3 k3 ha
 ·exact norm_bad2 m n c p ga hp1 hp2 N K h1 k1 h3 k3 (by simpa using ha) (fun q => k2 ⟨by simpa using ha, q⟩)
theorem numI_valid (n : Nat) (h : n < 4294967296) : (numI (n : Int)).Valid := pointI_valid (intD_valid n h)
theorem powI_valid (u : Iv) {p : Nat} (hp : 1 ≤ p) (hp2 : p ≤ 4096) : ∀ j, (powI u p j).Valid
 | 0 => numI_valid 1 (by decide)
 | j + 1 => mulI_valid _ _ hp hp2
theorem zeroIv_le : E.le (.agg [bP false, .v (.slice none 0 0), iP 0, bP false, .v (.slice none 0 0), iP 0, bP false]) (ivP ⟨zeroD, zeroD, false⟩) :=
 .agg (.cons (.refl _) (.cons nilLimb_le (.cons (.refl _) (.cons (.refl _) (.cons nilLimb_le (.cons (.refl _) (.cons (.refl _) .nil)))))))
theorem any_le (e : E) : E.le e .any := fun _ _ _ _ _ => .any _
theorem rest_no1 (m : List (List Iv)) (h : Iv) (n c k p : Nat) (ga : MOk m n c) (hh : h.Valid) (hk : k ≤ 1000) (hp1 : 8 ≤ p) (hp2 : p ≤ 512) (hd : normM m p = none) : PCt 42 [(matP m), (ivP h), (iP k), (iP p)] (.tup [ivP ⟨zeroD, zeroD, false⟩, bP false]) := by
 exact tr true Tryz.call42 Tryz.func42 (chain [.c (norm_no _ _ _ _ ga hp1 hp2 hd : PCt 117 [(matP m), (iP p)] _)] <| rR (.tup [ivP ⟨zeroD, zeroD, false⟩, bP false]) (.tup (.cons zeroIv_le (.cons (.refl _) .nil)) : E.le (.tup [(.agg [(bP false), (.v (.slice none 0 0)), (iP 0), (bP false), (.v (.slice none 0 0)), (iP 0), (bP false)]), (bP false)]) (.tup [ivP ⟨zeroD, zeroD, false⟩, bP false]))) (by kernel_rfl)
theorem rest_no2 (m : List (List Iv)) (h : Iv) (n c k p : Nat) (ga : MOk m n c) (hh : h.Valid) (hk : k ≤ 1000) (hp1 : 8 ≤ p) (hp2 : p ≤ 512) (d : Dy) (hn : PCt 117 [matP m, iP (p : Int)] (.tup [dyP d, bP true])) (hd : d.Valid) (hu : (mulI (absI h) (pointI d) p).all = true) : PCt 42 [(matP m), (ivP h), (iP k), (iP p)] (.tup [ivP ⟨zeroD, zeroD, false⟩, bP false]) := by
 have va := absI_valid hh
 have vp := pointI_valid hd
 have vu := mulI_valid (absI h) (pointI d) (show 1 ≤ p by omega) (show p ≤ 4096 by omega)
 exact tr true Tryz.call42 Tryz.func42 (chain [.c (hn : PCt 117 [(matP m), (iP p)] _), .c (ivAbs_pc h ‹_›), .c (ivPoint_pc d ‹_›), .c (ivMul_pc (absI h) (pointI d) p ‹_› ‹_› (by omega) (by omega)),
  tB 32 (hu : (mulI (absI h) (pointI d) p).all = true)] <| rR (.tup [ivP ⟨zeroD, zeroD, false⟩, bP false]) (.tup (.cons zeroIv_le (.cons (.refl _) .nil)) : E.le (.tup [(.agg [(bP false), (.v (.slice none 0 0)), (iP 0), (bP false), (.v (.slice none 0 0)), (iP 0), (bP false)]), (bP false)]) (.tup [ivP ⟨zeroD, zeroD, false⟩, bP false]))) (by kernel_rfl)
theorem rest_no3 (m : List (List Iv)) (h : Iv) (n c k p : Nat) (ga : MOk m n c) (hh : h.Valid) (hk : k ≤ 1000) (hp1 : 8 ≤ p) (hp2 : p ≤ 512) (d : Dy) (hn : PCt 117 [matP m, iP (p : Int)] (.tup [dyP d, bP true])) (hd : d.Valid) (hu : (mulI (absI h) (pointI d) p).all = false) (hc : 0 ≤ cmpD (mulI (absI h) (pointI d) p).hi (intD (((k + 2) : Nat) : Int))) : PCt 42 [(matP m), (ivP h), (iP k), (iP p)] (.tup [ivP ⟨zeroD, zeroD, false⟩, bP false]) := by
 have va := absI_valid hh
 have vp := pointI_valid hd
 have vu := mulI_valid (absI h) (pointI d) (show 1 ≤ p by omega) (show p ≤ 4096 by omega)
 have vk := intD_valid (k + 2) (by omega)
 have ve := vu.ends.2
 exact tr true Tryz.call42 Tryz.func42 (chain [.c (hn : PCt 117 [(matP m), (iP p)] _), .c (ivAbs_pc h ‹_›), .c (ivPoint_pc d ‹_›), .c (ivMul_pc (absI h) (pointI d) p ‹_› ‹_› (by omega) (by omega)),
  tB 32 (hu : (mulI (absI h) (pointI d) p).all = false), r64 ((k : Int) + 2) (by omega), .c (dyInt_pc (k + 2) (by omega)),
  .c (dyCmp_pc _ _ ‹_› ‹_› : PCt 82 [(dyP ((mulI (absI h) (pointI d) p).hi)), (dyP (intD (((k + 2) : Nat) : Int)))] _), tB 40 (decide_eq_true hc)] <| rR (.tup [ivP ⟨zeroD, zeroD, false⟩, bP false]) (.tup (.cons zeroIv_le (.cons (.refl _) .nil)) : E.le (.tup [(.agg [(bP false), (.v (.slice none 0 0)), (iP 0), (bP false), (.v (.slice none 0 0)), (iP 0), (bP false)]), (bP false)]) (.tup [ivP ⟨zeroD, zeroD, false⟩, bP false]))) (by kernel_rfl)
theorem rest_no4 (m : List (List Iv)) (h : Iv) (n c k p : Nat) (ga : MOk m n c) (hh : h.Valid) (hk : k ≤ 1000) (hp1 : 8 ≤ p) (hp2 : p ≤ 512) (d : Dy) (hn : PCt 117 [matP m, iP (p : Int)] (.tup [dyP d, bP true])) (hd : d.Valid) (hu : (mulI (absI h) (pointI d) p).all = false) (hc : ¬ 0 ≤ cmpD (mulI (absI h) (pointI d) p).hi (intD (((k + 2) : Nat) : Int))) (he : (divI (powI (mulI (absI h) (pointI d) p) p (k + 1)) (subI (numI 1) (divI (mulI (absI h) (pointI d) p) (numI (((k + 2) : Nat) : Int)) p) p) p).all = true) : PCt 42 [(matP m), (ivP h), (iP k), (iP p)] (.tup [ivP (divI (powI (mulI (absI h) (pointI d) p) p (k + 1)) (subI (numI 1) (divI (mulI (absI h) (pointI d) p) (numI (((k + 2) : Nat) : Int)) p) p) p), bP false]) := by
 have va := absI_valid hh
 have vp := pointI_valid hd
 have vu := mulI_valid (absI h) (pointI d) (show 1 ≤ p by omega) (show p ≤ 4096 by omega)
 have vk := intD_valid (k + 2) (by omega)
 have ve := vu.ends.2
 have w1 := powI_valid (mulI (absI h) (pointI d) p) (show 1 ≤ p by omega) (by omega) (k + 1)
 have w2 := numI_valid (k + 2) (by omega)
 have w3 : (numI 1).Valid := numI_valid 1 (by decide)
 have w4 := divI_valid (mulI (absI h) (pointI d) p) (numI (((k + 2) : Nat) : Int)) (show 1 ≤ p by omega) (by omega)
 have w5 : (subI (numI 1) (divI (mulI (absI h) (pointI d) p) (numI (((k + 2) : Nat) : Int)) p) p).Valid := addI_valid w3 (negI_valid w4) (by omega) (by omega)
 have w6 := divI_valid (powI (mulI (absI h) (pointI d) p) p (k + 1)) (subI (numI 1) (divI (mulI (absI h) (pointI d) p) (numI (((k + 2) : Nat) : Int)) p) p) (show 1 ≤ p by omega) (by omega)
 have w7 := w6.ends.2
 exact tr true Tryz.call42 Tryz.func42 (chain [.c (hn : PCt 117 [(matP m), (iP p)] _), .c (ivAbs_pc h ‹_›), .c (ivPoint_pc d ‹_›), .c (ivMul_pc (absI h) (pointI d) p ‹_› ‹_› (by omega) (by omega)),
  tB 32 (hu : (mulI (absI h) (pointI d) p).all = false), r64 ((k : Int) + 2) (by omega), .c (dyInt_pc (k + 2) (by omega)),
  .c (dyCmp_pc _ _ ‹_› ‹_› : PCt 82 [(dyP ((mulI (absI h) (pointI d) p).hi)), (dyP (intD (((k + 2) : Nat) : Int)))] _), tB 40 (decide_eq_false hc), .c (num_pc 1 (by omega)),
  .s (Sp.upto (restFam m h d k p) 0 (k + 1) (by omega) (fun x hx hltx => by
    have w1 := powI_valid (mulI (absI h) (pointI d) p) (show 1 ≤ p by omega) (by omega) x
    have w2 := numI_valid (x + 1) (by omega)
    have w3 := divI_valid (mulI (absI h) (pointI d) p) (numI (((x + 1) : Nat) : Int)) (show 1 ≤ p by omega) (by omega)
    exact spt (chain [r64 ((k : Int) + 1) (by omega), tT 47 ((((x + 1) : Nat) : Int) ≤ (((k + 1) : Nat) : Int)) (by omega), .c (num_pc (x + 1) (by omega)),
     .c (ivDiv_pc (mulI (absI h) (pointI d) p) (numI (((x + 1) : Nat) : Int)) p ‹_› ‹_› (by omega) (by omega)),
     .c (ivMul_pc (powI (mulI (absI h) (pointI d) p) p x) (vga2 h d p x) p ‹_› ‹_› (by omega) (by omega)), r64 ((((x + 1) : Nat) : Int) + 1) (by omega)] <| .e (chain [.b 13 (.of_eq rfl : Bx.le (.cells 28 (ivL (mulI (powI (mulI (absI h) (pointI d) p) p x) (vga2 h d p x) p))) (.cells 28 (ivL (powI (mulI (absI h) (pointI d) p) p (x + 1)))))] <| .nil)) (by kernel_rfl))
  (fun hx => by
    exact spt (chain [r64 ((k : Int) + 1) (by omega), tF 47 (((((k + 1) + 1) : Nat) : Int) ≤ (((k + 1) : Nat) : Int)) (by omega)] <| .nil) (by kernel_rfl)) (by nofun) : LpT 9 Tryz.f42 (restFam m h d k p 0) (.exit 0) ⟨79, true, [(13, .box 13 0), (12, .box 12 0), (8, .box 8 0), (2, .e (iP k)), (3, .e (iP p))], [(13, .cells 28 (ivL (vga1 h d p k))), (12, .cells 28 (ivL (mulI (absI h) (pointI d) p))), (8, .cells 28 [(bP false), (.v (.slice none 0 0)), (iP 0), (bP false), (.v (.slice none 0 0)), (iP 0), (bP false)])]⟩) (chain [.o 14 (.int (by first | rfl | omega | (simp only [Nat.add_mul, Nat.one_mul]; omega)) : PV.le (.e (iP 1)) (.e (iP (((0 + 1) : Nat) : Int)))),
  .b 13 (.of_eq rfl : Bx.le (.cells 28 (ivL (numI 1))) (.cells 28 (ivL (powI (mulI (absI h) (pointI d) p) p 0))))] <| .nil),
  .c (num_pc 1 (by omega)), r64 ((k : Int) + 2) (by omega), .c (num_pc (k + 2) (by omega)), .c (ivDiv_pc (mulI (absI h) (pointI d) p) (numI (((k + 2) : Nat) : Int)) p ‹_› ‹_› (by omega) (by omega)),
  .c (ivSub_pc (numI 1) (vga0 h d p k) p ‹_› ‹_› (by omega) (by omega)),
  .c (ivDiv_pc (vga1 h d p k) (subI (numI 1) (vga0 h d p k) p) p ‹_› ‹_› (by omega) (by omega)),
  tB 71 (he : (divI (vga1 h d p k) (subI (numI 1) (vga0 h d p k) p) p).all = true)] <| .nil) (by kernel_rfl)
theorem rest_yes (m : List (List Iv)) (h : Iv) (n c k p : Nat) (ga : MOk m n c) (hh : h.Valid) (hk : k ≤ 1000) (hp1 : 8 ≤ p) (hp2 : p ≤ 512) (d : Dy) (hn : PCt 117 [matP m, iP (p : Int)] (.tup [dyP d, bP true])) (hd : d.Valid) (hu : (mulI (absI h) (pointI d) p).all = false) (hc : ¬ 0 ≤ cmpD (mulI (absI h) (pointI d) p).hi (intD (((k + 2) : Nat) : Int))) (he : (divI (powI (mulI (absI h) (pointI d) p) p (k + 1)) (subI (numI 1) (divI (mulI (absI h) (pointI d) p) (numI (((k + 2) : Nat) : Int)) p) p) p).all = false) : PCt 42 [(matP m), (ivP h), (iP k), (iP p)] (.tup [ivP ⟨negD (divI (powI (mulI (absI h) (pointI d) p) p (k + 1)) (subI (numI 1) (divI (mulI (absI h) (pointI d) p) (numI (((k + 2) : Nat) : Int)) p) p) p).hi, (divI (powI (mulI (absI h) (pointI d) p) p (k + 1)) (subI (numI 1) (divI (mulI (absI h) (pointI d) p) (numI (((k + 2) : Nat) : Int)) p) p) p).hi, false⟩, bP true]) := by
 have va := absI_valid hh
 have vp := pointI_valid hd
 have vu := mulI_valid (absI h) (pointI d) (show 1 ≤ p by omega) (show p ≤ 4096 by omega)
 have vk := intD_valid (k + 2) (by omega)
 have ve := vu.ends.2
 have w1 := powI_valid (mulI (absI h) (pointI d) p) (show 1 ≤ p by omega) (by omega) (k + 1)
 have w2 := numI_valid (k + 2) (by omega)
 have w3 : (numI 1).Valid := numI_valid 1 (by decide)
 have w4 := divI_valid (mulI (absI h) (pointI d) p) (numI (((k + 2) : Nat) : Int)) (show 1 ≤ p by omega) (by omega)
 have w5 : (subI (numI 1) (divI (mulI (absI h) (pointI d) p) (numI (((k + 2) : Nat) : Int)) p) p).Valid := addI_valid w3 (negI_valid w4) (by omega) (by omega)
 have w6 := divI_valid (powI (mulI (absI h) (pointI d) p) p (k + 1)) (subI (numI 1) (divI (mulI (absI h) (pointI d) p) (numI (((k + 2) : Nat) : Int)) p) p) (show 1 ≤ p by omega) (by omega)
 have w7 := w6.ends.2
 exact tr true Tryz.call42 Tryz.func42 (chain [.c (hn : PCt 117 [(matP m), (iP p)] _), .c (ivAbs_pc h ‹_›), .c (ivPoint_pc d ‹_›), .c (ivMul_pc (absI h) (pointI d) p ‹_› ‹_› (by omega) (by omega)),
  tB 32 (hu : (mulI (absI h) (pointI d) p).all = false), r64 ((k : Int) + 2) (by omega), .c (dyInt_pc (k + 2) (by omega)),
  .c (dyCmp_pc _ _ ‹_› ‹_› : PCt 82 [(dyP ((mulI (absI h) (pointI d) p).hi)), (dyP (intD (((k + 2) : Nat) : Int)))] _), tB 40 (decide_eq_false hc), .c (num_pc 1 (by omega)),
  .s (Sp.upto (restFam m h d k p) 0 (k + 1) (by omega) (fun x hx hltx => by
    have w1 := powI_valid (mulI (absI h) (pointI d) p) (show 1 ≤ p by omega) (by omega) x
    have w2 := numI_valid (x + 1) (by omega)
    have w3 := divI_valid (mulI (absI h) (pointI d) p) (numI (((x + 1) : Nat) : Int)) (show 1 ≤ p by omega) (by omega)
    exact spt (chain [r64 ((k : Int) + 1) (by omega), tT 47 ((((x + 1) : Nat) : Int) ≤ (((k + 1) : Nat) : Int)) (by omega), .c (num_pc (x + 1) (by omega)),
     .c (ivDiv_pc (mulI (absI h) (pointI d) p) (numI (((x + 1) : Nat) : Int)) p ‹_› ‹_› (by omega) (by omega)),
     .c (ivMul_pc (powI (mulI (absI h) (pointI d) p) p x) (vga2 h d p x) p ‹_› ‹_› (by omega) (by omega)), r64 ((((x + 1) : Nat) : Int) + 1) (by omega)] <| .e (chain [.b 13 (.of_eq rfl : Bx.le (.cells 28 (ivL (mulI (powI (mulI (absI h) (pointI d) p) p x) (vga2 h d p x) p))) (.cells 28 (ivL (powI (mulI (absI h) (pointI d) p) p (x + 1)))))] <| .nil)) (by kernel_rfl))
  (fun hx => by
    exact spt (chain [r64 ((k : Int) + 1) (by omega), tF 47 (((((k + 1) + 1) : Nat) : Int) ≤ (((k + 1) : Nat) : Int)) (by omega)] <| .nil) (by kernel_rfl)) (by nofun) : LpT 9 Tryz.f42 (restFam m h d k p 0) (.exit 0) ⟨79, true, [(13, .box 13 0), (12, .box 12 0), (8, .box 8 0), (2, .e (iP k)), (3, .e (iP p))], [(13, .cells 28 (ivL (vga1 h d p k))), (12, .cells 28 (ivL (mulI (absI h) (pointI d) p))), (8, .cells 28 [(bP false), (.v (.slice none 0 0)), (iP 0), (bP false), (.v (.slice none 0 0)), (iP 0), (bP false)])]⟩) (chain [.o 14 (.int (by first | rfl | omega | (simp only [Nat.add_mul, Nat.one_mul]; omega)) : PV.le (.e (iP 1)) (.e (iP (((0 + 1) : Nat) : Int)))),
  .b 13 (.of_eq rfl : Bx.le (.cells 28 (ivL (numI 1))) (.cells 28 (ivL (powI (mulI (absI h) (pointI d) p) p 0))))] <| .nil),
  .c (num_pc 1 (by omega)), r64 ((k : Int) + 2) (by omega), .c (num_pc (k + 2) (by omega)), .c (ivDiv_pc (mulI (absI h) (pointI d) p) (numI (((k + 2) : Nat) : Int)) p ‹_› ‹_› (by omega) (by omega)),
  .c (ivSub_pc (numI 1) (vga0 h d p k) p ‹_› ‹_› (by omega) (by omega)),
  .c (ivDiv_pc (vga1 h d p k) (subI (numI 1) (vga0 h d p k) p) p ‹_› ‹_› (by omega) (by omega)),
  tB 71 (he : (divI (vga1 h d p k) (subI (numI 1) (vga0 h d p k) p) p).all = false),
  .c (dyNeg_pc _ ‹_› : PCt 92 [(dyP ((divI (vga1 h d p k) (subI (numI 1) (vga0 h d p k) p) p).hi))] _)] <| .nil) (by kernel_rfl)
open Go.RowKit Fp Pu
open Go.RowKit Fp Pu
theorem range_any (r : List Iv) : ((List.range (r.length)).any fun j_ => (r.getD j_ wholeI).all) = r.any fun x => x.all := by
 rw [Bool.eq_iff_iff, List.any_eq_true, List.any_eq_true]
 constructor
 ·rintro ⟨j, h1, h2⟩
  have hj := List.mem_range.1 h1
  rw [getD_eq_getElem hj] at h2
  exact ⟨_, List.getElem_mem hj, h2⟩
 ·rintro ⟨x, h1, h2⟩
  obtain ⟨j, hj, rfl⟩ := List.mem_iff_getElem.1 h1
  exact ⟨j, List.mem_range.2 hj, by rw [getD_eq_getElem hj]; exact h2⟩
theorem range_anyM (m : List (List Iv)) : ((List.range (m.length)).any fun i_ => (m.getD i_ []).any fun x => x.all) = m.any fun r => r.any fun x => x.all := by
 rw [Bool.eq_iff_iff, List.any_eq_true, List.any_eq_true]
 constructor
 ·rintro ⟨j, h1, h2⟩
  have hj := List.mem_range.1 h1
  rw [getD_eq_getElem hj] at h2
  exact ⟨_, List.getElem_mem hj, h2⟩
 ·rintro ⟨x, h1, h2⟩
  obtain ⟨j, hj, rfl⟩ := List.mem_iff_getElem.1 h1
  exact ⟨j, List.mem_range.2 hj, by rw [getD_eq_getElem hj]; exact h2⟩
theorem all11_pc (x : Iv) : PCt 136 [(ivP x)] (bP x.all) := by
 exact tr true Tryz.call136 Tryz.func136 (.nil) (by kernel_rfl)
theorem all1_pc (r : List Iv) (hl : r.length ≤ 1000) : PCt 135 [(ivsP r)] (bP (r.any fun x => x.all)) := by
 exact tr true Tryz.call135 Tryz.func135 (chain [.c (iv_any true r.length (ivsE r) 136 [] (fun j_ => (r.getD j_ wholeI).all) (fun j hj => all11_pc _) (by omega) : PCt 55 [(ivsP r), (.fn 136 [])] _)] <| rQ (bP ((List.range (r.length)).any fun j_ => (r.getD j_ wholeI).all)) (bP (r.any fun x => x.all)) (by rw [range_any])) (by kernel_rfl)
theorem all_pc (m : List (List Iv)) (hl : m.length ≤ 1000) (hr : ∀ i, (m.getD i []).length ≤ 1000) : PCt 49 [(matP m)] (bP (m.any fun r => r.any fun x => x.all)) := by
 exact tr true Tryz.call49 Tryz.func49 (chain [.c (row_any true m.length (matE m) 135 [] (fun i_ => (m.getD i_ []).any fun x => x.all) (fun i hi => all1_pc _ (hr i)) (by omega) : PCt 53 [(matP m), (.fn 135 [])] _)] <| rQ (bP ((List.range (m.length)).any fun i_ => (m.getD i_ []).any fun x => x.all)) (bP (m.any fun r => r.any fun x => x.all)) (by rw [range_anyM])) (by kernel_rfl)
theorem square_pc (m : List (List Iv)) (n c : Nat) (ga : MOk m n c) : PCt 40 [(matP m)] (bP (decide (n = c))) := by
 have ra := ga.rows
 have n1 := ga.n1
 have la := ga.len_at (show 0 < n by omega)
 by_cases h : n = c
 ·exact tr true Tryz.call40 Tryz.func40 (chain [.c (matValid_pc _ _ _ ‹_› : PCt 103 [(matP m)] _), iX (0) (m.length) (by omega), tB 12 (natEq_true (by omega) : ((m.length : Int) == (((m.getD 0 []).length : Nat) : Int)) = true)] <| rQ (bP true) (bP (decide (n = c))) (by rw [decide_eq_true h])) (by kernel_rfl)
 ·exact tr true Tryz.call40 Tryz.func40 (chain [.c (matValid_pc _ _ _ ‹_› : PCt 103 [(matP m)] _), iX (0) (m.length) (by omega), tB 12 (natEq_false (by omega) : ((m.length : Int) == (((m.getD 0 []).length : Nat) : Int)) = false)] <| rQ (bP false) (bP (decide (n = c))) (by rw [decide_eq_false h])) (by kernel_rfl)
open Go.RowKit Fp Pu
theorem neg_le_self {d : Dy} (hd : d.neg = false) : cmpD (negD d) d ≤ 0 := by
 rw [le_iff (k := d.e) (.inr (show d.e ≤ (negD d).e from Int.le_refl _)) (.inr (Int.le_refl _))]
 have h1 := num_nn hd d.e
 by_cases h0 : d.m = 0
 ·have : (negD d).num d.e = 0 := by unfold Dy.num Dy.mag negD; simp [h0]
  omega
 ·rw [num_negD d d.e h0]; omega
theorem rest_pc (m : List (List Iv)) (h : Iv) (n c k p : Nat) (ga : MOk m n c) (hh : h.Valid) (hk : k ≤ 1000) (hp1 : 8 ≤ p) (hp2 : p ≤ 512) :
  (∀ e, restI m h k p = some e → PCt 42 [matP m, ivP h, iP (k : Int), iP (p : Int)] (.tup [ivP e, bP true]) ∧ e.Valid ∧ e.all = false) ∧
  (restI m h k p = none → ∃ x : Iv, PCt 42 [matP m, ivP h, iP (k : Int), iP (p : Int)] (.tup [ivP x, bP false])) := by
 cases hn : normM m p with
 | none =>
  refine ⟨fun e he => ?_, fun _ => ⟨_, rest_no1 m h n c k p ga hh hk hp1 hp2 hn⟩⟩
  unfold restI at he; rw [hn] at he; cases he
 | some d =>
  obtain ⟨hp, hd⟩ := norm_yes m n c p ga hp1 hp2 d hn
  have hdn : d.neg = false := by
   have hg : ∀ i, i < m.length → ∀ k, k < (m.getD i []).length → NGood (m.getD i []) p k := by
    intro i hi k hk
    apply Classical.byContradiction
    intro q
    rw [normM_none hi hk q] at hn
    cases hn
   rw [normM_some hg] at hn
   cases hn
   exact nmost_nn _ _ _
  have hun : (mulI (absI h) (pointI d) p).NN := mulI_nn (absI_nn h) (pointI_nn hdn) p
  unfold restI
  rw [hn, Option.bind_some]
  simp only
  by_cases hu : (mulI (absI h) (pointI d) p).all = true
  ·rw [if_pos (by rw [hu]; rfl)]
   exact ⟨fun e hx => (by cases hx), fun _ => ⟨_, rest_no2 m h n c k p ga hh hk hp1 hp2 d hp hd hu⟩⟩
  ·replace hu : (mulI (absI h) (pointI d) p).all = false := by simpa using hu
   by_cases hc : 0 ≤ cmpD (mulI (absI h) (pointI d) p).hi (intD (((k + 2) : Nat) : Int))
   ·rw [if_pos (by rw [hu, decide_eq_true hc]; rfl)]
    exact ⟨fun e hx => (by cases hx), fun _ => ⟨_, rest_no3 m h n c k p ga hh hk hp1 hp2 d hp hd hu hc⟩⟩
   ·rw [if_neg (by rw [hu, decide_eq_false hc]; decide)]
    by_cases he : (divI (powI (mulI (absI h) (pointI d) p) p (k + 1)) (subI (numI 1) (divI (mulI (absI h) (pointI d) p) (numI (((k + 2) : Nat) : Int)) p) p) p).all = true
    ·rw [if_pos he]
     exact ⟨fun e hx => (by cases hx), fun _ => ⟨_, rest_no4 m h n c k p ga hh hk hp1 hp2 d hp hd hu hc he⟩⟩
    ·rw [if_neg he]
     replace he : (divI (powI (mulI (absI h) (pointI d) p) p (k + 1)) (subI (numI 1) (divI (mulI (absI h) (pointI d) p) (numI (((k + 2) : Nat) : Int)) p) p) p).all = false := by simpa using he
     have hv := divI_valid (powI (mulI (absI h) (pointI d) p) p (k + 1)) (subI (numI 1) (divI (mulI (absI h) (pointI d) p) (numI (((k + 2) : Nat) : Int)) p) p) (show 1 ≤ p by omega) (show p ≤ 4096 by omega)
     have hnn := rest_nn (c := k + 2) hun (by omega) hu (by omega) (powI_nn hun p (k + 1)) he (show 1 ≤ p by omega) (by omega)
     refine ⟨fun e hx => ?_, fun hx => (by cases hx)⟩
     cases hx
     exact ⟨rest_yes m h n c k p ga hh hk hp1 hp2 d hp hd hu hc he, .inr ⟨rfl, negD_valid hv.ends.2, hv.ends.2, neg_le_self hnn.hi⟩, rfl⟩
open Go.RowKit Fp Pu
open Go.RowKit Fp Pu
abbrev vja0 (m : List (List Iv)) (h : Iv) (p) (k) (e : Iv) := fun i_ => (List.range (((sumM m h p k).getD i_ []).length)).map (fun j_ => addI (((sumM m h p k).getD i_ []).getD j_ wholeI) e p)
abbrev vja1 (m : List (List Iv)) (h : Iv) (p) (k) (x) (e : Iv) := fun j_ => addI (((sumM m h p k).getD x []).getD j_ wholeI) e p
abbrev vja2 (m : List (List Iv)) (h : Iv) (p) (k) (e : Iv) := (List.range ((sumM m h p k).length)).map (vja0 m h p k e)
abbrev vja3 (m : List (List Iv)) (h : Iv) (p) (k) (x) (y) (e : Iv) := addI (((sumM m h p k).getD x []).getD y wholeI) e p
abbrev vja4 (m : List (List Iv)) (h : Iv) (p) (k) (x) (e : Iv) := ivsP ((List.range (((sumM m h p k).getD x []).length)).map (vja1 m h p k x e))
def expFamA (m : List (List Iv)) (h e : Iv) (k p : Nat) (x : Nat) : PS := ⟨122, true, [(14, .e (iP (((x + 1) : Nat) : Int))), (13, .e (matP (sumM m h p x))), (12, .e (matP (termM m h p x))), (10, .box 10 0), (5, .box 5 0), (0, .e (matP m)), (2, .e (iP k)), (3, .e (iP p))], [(10, .cells 28 (ivL e)), (5, .cells 28 (ivL h))]⟩
def expFamB (m : List (List Iv)) (h e : Iv) (k p : Nat) (x : Nat) : PS := ⟨122, true, [(17, .own 17), (96, .e (iP x)), (95, .e (iP (((sumM m h p k).length : Nat) : Int))), (94, .e (matP (sumM m h p k))), (10, .box 10 0), (3, .e (iP p))], [(17, .row true 31 x 1 (matE ((List.range x).map (vja0 m h p k e)))), (10, .cells 28 (ivL e))]⟩
def expFamC (m : List (List Iv)) (h e : Iv) (k p x : Nat) (y : Nat) : PS := ⟨122, true, [(20, .own 20), (102, .e (iP y)), (101, .e (iP ((((sumM m h p k).getD x []).length : Nat) : Int))), (100, .e (ivsP ((sumM m h p k).getD x []))), (17, .own 17), (96, .e (iP x)), (95, .e (iP (((sumM m h p k).length : Nat) : Int))), (94, .e (matP (sumM m h p k))), (10, .box 10 0), (3, .e (iP p))], [(20, .row true 28 y 7 (ivsE ((List.range y).map (vja1 m h p k x e)))), (17, .row true 31 x 1 (matE ((List.range x).map (vja0 m h p k e)))), (10, .cells 28 (ivL e))]⟩
theorem exp_no1 (m : List (List Iv)) (h : Iv) (n k p : Nat) (ga : MOk m n n) (hh : h.Valid) (hha : h.all = false) (hk1 : 1 ≤ k) (hk : k ≤ 16) (hp1 : 8 ≤ p) (hp2 : p ≤ 512) (hr : restI m h k p = none) : PCt 12 [(matP m), (ivP h), (iP k), (iP p)] (.tup [.v (.slice none 0 0), iP 15]) := by
 have ra := ga.rows
 have n1 := ga.n1
 have n8 := ga.n8
 obtain ⟨x0, hx0⟩ := (rest_pc m h n n k p ga hh (by omega) hp1 hp2).2 hr
 exact tr true Tryz.call12 Tryz.func12 (chain [.c (square_pc _ _ _ ga : PCt 40 [(matP m)] _), tT 24 (n = n) rfl, .c (ivValid_pc h ‹_›), tB 33 (hha : h.all = false), tF 36 ((p : Int) < 8) (by omega), tF 39 (512 < (p : Int)) (by omega),
  tF 43 ((k : Int) < 1) (by omega), tF 47 (16 < (k : Int)) (by omega), .c (hx0 : PCt 42 [(matP m), (ivP h), (iP k), (iP p)] _)] <| .nil) (by kernel_rfl)
theorem exp_no2 (m : List (List Iv)) (h : Iv) (n k p : Nat) (ga : MOk m n n) (hh : h.Valid) (hha : h.all = false) (hk1 : 1 ≤ k) (hk : k ≤ 16) (hp1 : 8 ≤ p) (hp2 : p ≤ 512) (e : Iv) (hr : restI m h k p = some e) (hall : (((List.range ((sumM m h p k).length)).map (fun i_ => (List.range (((sumM m h p k).getD i_ []).length)).map (fun j_ => addI (((sumM m h p k).getD i_ []).getD j_ wholeI) e p))).any fun r => r.any fun x => x.all) = true) : PCt 12 [(matP m), (ivP h), (iP k), (iP p)] (.tup [.v (.slice none 0 0), iP 15]) := by
 have ra := ga.rows
 have n1 := ga.n1
 have n8 := ga.n8
 obtain ⟨hr1, hev, hea⟩ := (rest_pc m h n n k p ga hh (by omega) hp1 hp2).1 e hr
 have gs := sumM_ok (h := h) (p := p) ga (by omega) (by omega) k
 have rs := gs.rows
 have hrows : ∀ i, (((List.range ((sumM m h p k).length)).map (fun i_ => (List.range (((sumM m h p k).getD i_ []).length)).map (fun j_ => addI (((sumM m h p k).getD i_ []).getD j_ wholeI) e p))).getD i []).length ≤ 1000 := by
  intro i
  by_cases hi : i < (sumM m h p k).length
  ·rw [rows_getD hi]; have := gs.len_le i; simp only [List.length_map, List.length_range]; omega
  ·rw [List.getD_eq_getElem?_getD, List.getElem?_eq_none (by simpa using hi)]; exact Nat.zero_le _
 exact tr true Tryz.call12 Tryz.func12 (chain [.c (square_pc _ _ _ ga : PCt 40 [(matP m)] _), tT 24 (n = n) rfl, .c (ivValid_pc h ‹_›), tB 33 (hha : h.all = false), tF 36 ((p : Int) < 8) (by omega), tF 39 (512 < (p : Int)) (by omega),
  tF 43 ((k : Int) < 1) (by omega), tF 47 (16 < (k : Int)) (by omega), .c (hr1 : PCt 42 [(matP m), (ivP h), (iP k), (iP p)] _), .c (matId_pc m.length (by omega) (by omega)),
  .s (Sp.upto (expFamA m h e k p) 0 k (by omega) (fun x hx hltx => by
    have w1 := termM_ok (h := h) ga (show 1 ≤ p by omega) (by omega) x
    have w2 := mulM_ok w1 ga (show 1 ≤ p by omega) (show p ≤ 4096 by omega)
    have w3 := numI_valid (x + 1) (by omega)
    have w4 := divI_valid h (numI (((x + 1) : Nat) : Int)) (show 1 ≤ p by omega) (show p ≤ 4096 by omega)
    have w5 := sumM_ok (h := h) ga (show 1 ≤ p by omega) (by omega) x
    have w6 : MOk (scaleM (mulM (termM m h p x) m p) (divI h (numI (((x + 1) : Nat) : Int)) p) p) n n := scaleM_ok w2 (show 1 ≤ p by omega) (by omega)
    exact spt (chain [tT 65 ((((x + 1) : Nat) : Int) ≤ (k : Int)) (by omega), .c (matMul_pc _ _ _ _ _ _ ‹_› ‹_› (by omega) (by omega) : PCt 43 [(matP (termM m h p x)), (matP m), (iP p)] _),
     tB 76 (by decide : ((0 : Int) != 0) = false), .c (num_pc (x + 1) (by omega)), .c (ivDiv_pc h (numI (((x + 1) : Nat) : Int)) p ‹_› ‹_› (by omega) (by omega)),
     .c (matScale_pc _ _ _ _ _ ‹_› ‹_› (by omega) (by omega) : PCt 44 [(matP (mulM (termM m h p x) m p)), (ivP (divI h (numI (((x + 1) : Nat) : Int)) p)), (iP p)] _),
     .c (matAdd_pc _ _ _ _ _ ‹_› ‹_› (by omega) (by omega) : PCt 47 [(matP (sumM m h p x)), (matP (scaleM (mulM (termM m h p x) m p) (divI h (numI (((x + 1) : Nat) : Int)) p) p)), (iP p)] _),
     tB 93 (by decide : ((0 : Int) != 0) = false), r64 ((((x + 1) : Nat) : Int) + 1) (by omega)] <| .nil) (by kernel_rfl))
  (fun hx => by
    exact spt (chain [tF 65 ((((k + 1) : Nat) : Int) ≤ (k : Int)) (by omega)] <| .nil) (by kernel_rfl)) (by nofun) : LpT 11 Tryz.f12 (expFamA m h e k p 0) (.exit 0) ⟨122, true, [(13, .e (matP (sumM m h p k))), (10, .box 10 0), (3, .e (iP p))], [(10, .cells 28 (ivL e))]⟩) (chain [.o 14 (.int (by first | rfl | omega | (simp only [Nat.add_mul, Nat.one_mul]; omega)) : PV.le (.e (iP 1)) (.e (iP (((0 + 1) : Nat) : Int))))] <| .nil),
  .y 17 17 true 31 1 (matE ((List.range 0).map (vja0 m h p k e))),
  .s (Sp.upto (expFamB m h e k p) 0 ((sumM m h p k).length) (by omega) (fun x hx hltx => by
    have lx := gs.len_at (show x < n by omega)
    exact spt (chain [tT 97 ((x : Int) < (((sumM m h p k).length : Nat) : Int)) (by omega), iX ((x : Int)) ((sumM m h p k).length) (by omega),
     .y 20 20 true 28 7 (ivsE ((List.range 0).map (vja1 m h p k x e))),
     .s (Sp.upto (expFamC m h e k p x) 0 (((sumM m h p k).getD x []).length) (by omega) (fun y hy hlty => by
    have w1 := gs.val_at (show x < n by omega) (show y < n by omega)
    have h1 := one_len (addI (((sumM m h p k).getD x []).getD y wholeI) e p)
    exact spt (chain [tT 103 ((y : Int) < ((((sumM m h p k).getD x []).length : Nat) : Int)) (by omega), iX ((y : Int)) (((sumM m h p k).getD x []).length) (by omega),
     .c (ivAdd_pc (((sumM m h p k).getD x []).getD y wholeI) e p ‹_› ‹_› (by omega) (by omega)),
     .o 111 (.e (ivs1_le _) : PV.le (.e (.sl true 1 7 fun i_ j_ => (ivL (vja3 m h p k x y e)).getD (i_ * 7 + j_) (.v (.bool false)))) (.e (ivsP [(vja3 m h p k x y e)]))),
     .a (by omega : (y + [(addI (((sumM m h p k).getD x []).getD y wholeI) e p)].length) * 88 ≤ 140737488355328), r64 ((y : Int) + 1) (by omega)] <| .e (chain [.b 20 (ivs_pushR rfl rfl rfl : Bx.le (.row true 28 (y + [(vja3 m h p k x y e)].length) 7 (fun i_ j_ => if i_ < y then (ivsE ((List.range y).map (vja1 m h p k x e))) i_ j_ else (E.elf (ivsP [(vja3 m h p k x y e)])) (i_ - y) j_)) (.row true 28 (y + 1) 7 (ivsE ((List.range (y + 1)).map (vja1 m h p k x e)))))] <| .nil)) (by kernel_rfl))
  (fun hy => by
    exact spt (chain [tF 103 (((((sumM m h p k).getD x []).length : Nat) : Int) < ((((sumM m h p k).getD x []).length : Nat) : Int)) (by omega), .z 20] <| .e (chain [.o 20 (.e (ivsRow_le (by simp)) : PV.le (.e (.sl true (((sumM m h p k).getD x []).length) 7 (ivsE ((List.range (((sumM m h p k).getD x []).length)).map (fun j_ => addI (((sumM m h p k).getD x []).getD j_ wholeI) e p))))) (.e (ivsP ((List.range (((sumM m h p k).getD x []).length)).map (fun j_ => addI (((sumM m h p k).getD x []).getD j_ wholeI) e p)))))] <| .nil)) (by kernel_rfl)) (by nofun) : LpT 26 Tryz.f12 (expFamC m h e k p x 0) (.exit 4) ⟨122, true, [(20, .e (vja4 m h p k x e)), (17, .own 17), (96, .e (iP x)), (95, .e (iP (((sumM m h p k).length : Nat) : Int))), (94, .e (matP (sumM m h p k))), (10, .box 10 0), (3, .e (iP p))], [(17, .row true 31 x 1 (matE ((List.range x).map (vja0 m h p k e)))), (10, .cells 28 (ivL e))]⟩) .nil,
     .a (by omega : (x + 1) * 24 ≤ 140737488355328), r64 ((x : Int) + 1) (by omega)] <| .e (chain [.b 17 (mat_pushR rfl rfl rfl (fun j hj => by cases Nat.lt_one_iff.1 hj; rfl) : Bx.le (.row true 31 (x + 1) 1 (fun i_ j_ => if i_ < x then (matE ((List.range x).map (vja0 m h p k e))) i_ j_ else (E.elf (.sl true 1 1 fun i_ j_ => [(vja4 m h p k x e)].getD (i_ * 1 + j_) (.v (.bool false)))) (i_ - x) j_)) (.row true 31 (x + 1) 1 (matE ((List.range (x + 1)).map (vja0 m h p k e)))))] <| .nil)) (by kernel_rfl))
  (fun hx => by
    exact spt (chain [tF 97 ((((sumM m h p k).length : Nat) : Int) < (((sumM m h p k).length : Nat) : Int)) (by omega), .z 17] <| .e (chain [.o 17 (.e (matRow_le (by simp)) : PV.le (.e (.sl true ((sumM m h p k).length) 1 (matE ((List.range ((sumM m h p k).length)).map (fun i_ => (List.range (((sumM m h p k).getD i_ []).length)).map (fun j_ => addI (((sumM m h p k).getD i_ []).getD j_ wholeI) e p)))))) (.e (matP ((List.range ((sumM m h p k).length)).map (fun i_ => (List.range (((sumM m h p k).getD i_ []).length)).map (fun j_ => addI (((sumM m h p k).getD i_ []).getD j_ wholeI) e p))))))] <| .nil)) (by kernel_rfl)) (by nofun) : LpT 22 Tryz.f12 (expFamB m h e k p 0) (.exit 2) ⟨122, true, [(17, .e (matP (vja2 m h p k e)))], []⟩) .nil,
  .c (all_pc (vja2 m h p k e) (by simp; omega) hrows),
  tB 120 (hall : (((vja2 m h p k e)).any fun r => r.any fun x => x.all) = true)] <| .nil) (by kernel_rfl)
theorem exp_yes (m : List (List Iv)) (h : Iv) (n k p : Nat) (ga : MOk m n n) (hh : h.Valid) (hha : h.all = false) (hk1 : 1 ≤ k) (hk : k ≤ 16) (hp1 : 8 ≤ p) (hp2 : p ≤ 512) (e : Iv) (hr : restI m h k p = some e) (hall : (((List.range ((sumM m h p k).length)).map (fun i_ => (List.range (((sumM m h p k).getD i_ []).length)).map (fun j_ => addI (((sumM m h p k).getD i_ []).getD j_ wholeI) e p))).any fun r => r.any fun x => x.all) = false) : PCt 12 [(matP m), (ivP h), (iP k), (iP p)] (.tup [matP ((List.range ((sumM m h p k).length)).map (fun i_ => (List.range (((sumM m h p k).getD i_ []).length)).map (fun j_ => addI (((sumM m h p k).getD i_ []).getD j_ wholeI) e p))), iP 0]) := by
 have ra := ga.rows
 have n1 := ga.n1
 have n8 := ga.n8
 obtain ⟨hr1, hev, hea⟩ := (rest_pc m h n n k p ga hh (by omega) hp1 hp2).1 e hr
 have gs := sumM_ok (h := h) (p := p) ga (by omega) (by omega) k
 have rs := gs.rows
 have hrows : ∀ i, (((List.range ((sumM m h p k).length)).map (fun i_ => (List.range (((sumM m h p k).getD i_ []).length)).map (fun j_ => addI (((sumM m h p k).getD i_ []).getD j_ wholeI) e p))).getD i []).length ≤ 1000 := by
  intro i
  by_cases hi : i < (sumM m h p k).length
  ·rw [rows_getD hi]; have := gs.len_le i; simp only [List.length_map, List.length_range]; omega
  ·rw [List.getD_eq_getElem?_getD, List.getElem?_eq_none (by simpa using hi)]; exact Nat.zero_le _
 exact tr true Tryz.call12 Tryz.func12 (chain [.c (square_pc _ _ _ ga : PCt 40 [(matP m)] _), tT 24 (n = n) rfl, .c (ivValid_pc h ‹_›), tB 33 (hha : h.all = false), tF 36 ((p : Int) < 8) (by omega), tF 39 (512 < (p : Int)) (by omega),
  tF 43 ((k : Int) < 1) (by omega), tF 47 (16 < (k : Int)) (by omega), .c (hr1 : PCt 42 [(matP m), (ivP h), (iP k), (iP p)] _), .c (matId_pc m.length (by omega) (by omega)),
  .s (Sp.upto (expFamA m h e k p) 0 k (by omega) (fun x hx hltx => by
    have w1 := termM_ok (h := h) ga (show 1 ≤ p by omega) (by omega) x
    have w2 := mulM_ok w1 ga (show 1 ≤ p by omega) (show p ≤ 4096 by omega)
    have w3 := numI_valid (x + 1) (by omega)
    have w4 := divI_valid h (numI (((x + 1) : Nat) : Int)) (show 1 ≤ p by omega) (show p ≤ 4096 by omega)
    have w5 := sumM_ok (h := h) ga (show 1 ≤ p by omega) (by omega) x
    have w6 : MOk (scaleM (mulM (termM m h p x) m p) (divI h (numI (((x + 1) : Nat) : Int)) p) p) n n := scaleM_ok w2 (show 1 ≤ p by omega) (by omega)
    exact spt (chain [tT 65 ((((x + 1) : Nat) : Int) ≤ (k : Int)) (by omega), .c (matMul_pc _ _ _ _ _ _ ‹_› ‹_› (by omega) (by omega) : PCt 43 [(matP (termM m h p x)), (matP m), (iP p)] _),
     tB 76 (by decide : ((0 : Int) != 0) = false), .c (num_pc (x + 1) (by omega)), .c (ivDiv_pc h (numI (((x + 1) : Nat) : Int)) p ‹_› ‹_› (by omega) (by omega)),
     .c (matScale_pc _ _ _ _ _ ‹_› ‹_› (by omega) (by omega) : PCt 44 [(matP (mulM (termM m h p x) m p)), (ivP (divI h (numI (((x + 1) : Nat) : Int)) p)), (iP p)] _),
     .c (matAdd_pc _ _ _ _ _ ‹_› ‹_› (by omega) (by omega) : PCt 47 [(matP (sumM m h p x)), (matP (scaleM (mulM (termM m h p x) m p) (divI h (numI (((x + 1) : Nat) : Int)) p) p)), (iP p)] _),
     tB 93 (by decide : ((0 : Int) != 0) = false), r64 ((((x + 1) : Nat) : Int) + 1) (by omega)] <| .nil) (by kernel_rfl))
  (fun hx => by
    exact spt (chain [tF 65 ((((k + 1) : Nat) : Int) ≤ (k : Int)) (by omega)] <| .nil) (by kernel_rfl)) (by nofun) : LpT 11 Tryz.f12 (expFamA m h e k p 0) (.exit 0) ⟨122, true, [(13, .e (matP (sumM m h p k))), (10, .box 10 0), (3, .e (iP p))], [(10, .cells 28 (ivL e))]⟩) (chain [.o 14 (.int (by first | rfl | omega | (simp only [Nat.add_mul, Nat.one_mul]; omega)) : PV.le (.e (iP 1)) (.e (iP (((0 + 1) : Nat) : Int))))] <| .nil),
  .y 17 17 true 31 1 (matE ((List.range 0).map (vja0 m h p k e))),
  .s (Sp.upto (expFamB m h e k p) 0 ((sumM m h p k).length) (by omega) (fun x hx hltx => by
    have lx := gs.len_at (show x < n by omega)
    exact spt (chain [tT 97 ((x : Int) < (((sumM m h p k).length : Nat) : Int)) (by omega), iX ((x : Int)) ((sumM m h p k).length) (by omega),
     .y 20 20 true 28 7 (ivsE ((List.range 0).map (vja1 m h p k x e))),
     .s (Sp.upto (expFamC m h e k p x) 0 (((sumM m h p k).getD x []).length) (by omega) (fun y hy hlty => by
    have w1 := gs.val_at (show x < n by omega) (show y < n by omega)
    have h1 := one_len (addI (((sumM m h p k).getD x []).getD y wholeI) e p)
    exact spt (chain [tT 103 ((y : Int) < ((((sumM m h p k).getD x []).length : Nat) : Int)) (by omega), iX ((y : Int)) (((sumM m h p k).getD x []).length) (by omega),
     .c (ivAdd_pc (((sumM m h p k).getD x []).getD y wholeI) e p ‹_› ‹_› (by omega) (by omega)),
     .o 111 (.e (ivs1_le _) : PV.le (.e (.sl true 1 7 fun i_ j_ => (ivL (vja3 m h p k x y e)).getD (i_ * 7 + j_) (.v (.bool false)))) (.e (ivsP [(vja3 m h p k x y e)]))),
     .a (by omega : (y + [(addI (((sumM m h p k).getD x []).getD y wholeI) e p)].length) * 88 ≤ 140737488355328), r64 ((y : Int) + 1) (by omega)] <| .e (chain [.b 20 (ivs_pushR rfl rfl rfl : Bx.le (.row true 28 (y + [(vja3 m h p k x y e)].length) 7 (fun i_ j_ => if i_ < y then (ivsE ((List.range y).map (vja1 m h p k x e))) i_ j_ else (E.elf (ivsP [(vja3 m h p k x y e)])) (i_ - y) j_)) (.row true 28 (y + 1) 7 (ivsE ((List.range (y + 1)).map (vja1 m h p k x e)))))] <| .nil)) (by kernel_rfl))
  (fun hy => by
    exact spt (chain [tF 103 (((((sumM m h p k).getD x []).length : Nat) : Int) < ((((sumM m h p k).getD x []).length : Nat) : Int)) (by omega), .z 20] <| .e (chain [.o 20 (.e (ivsRow_le (by simp)) : PV.le (.e (.sl true (((sumM m h p k).getD x []).length) 7 (ivsE ((List.range (((sumM m h p k).getD x []).length)).map (fun j_ => addI (((sumM m h p k).getD x []).getD j_ wholeI) e p))))) (.e (ivsP ((List.range (((sumM m h p k).getD x []).length)).map (fun j_ => addI (((sumM m h p k).getD x []).getD j_ wholeI) e p)))))] <| .nil)) (by kernel_rfl)) (by nofun) : LpT 26 Tryz.f12 (expFamC m h e k p x 0) (.exit 4) ⟨122, true, [(20, .e (vja4 m h p k x e)), (17, .own 17), (96, .e (iP x)), (95, .e (iP (((sumM m h p k).length : Nat) : Int))), (94, .e (matP (sumM m h p k))), (10, .box 10 0), (3, .e (iP p))], [(17, .row true 31 x 1 (matE ((List.range x).map (vja0 m h p k e)))), (10, .cells 28 (ivL e))]⟩) .nil,
     .a (by omega : (x + 1) * 24 ≤ 140737488355328), r64 ((x : Int) + 1) (by omega)] <| .e (chain [.b 17 (mat_pushR rfl rfl rfl (fun j hj => by cases Nat.lt_one_iff.1 hj; rfl) : Bx.le (.row true 31 (x + 1) 1 (fun i_ j_ => if i_ < x then (matE ((List.range x).map (vja0 m h p k e))) i_ j_ else (E.elf (.sl true 1 1 fun i_ j_ => [(vja4 m h p k x e)].getD (i_ * 1 + j_) (.v (.bool false)))) (i_ - x) j_)) (.row true 31 (x + 1) 1 (matE ((List.range (x + 1)).map (vja0 m h p k e)))))] <| .nil)) (by kernel_rfl))
  (fun hx => by
    exact spt (chain [tF 97 ((((sumM m h p k).length : Nat) : Int) < (((sumM m h p k).length : Nat) : Int)) (by omega), .z 17] <| .e (chain [.o 17 (.e (matRow_le (by simp)) : PV.le (.e (.sl true ((sumM m h p k).length) 1 (matE ((List.range ((sumM m h p k).length)).map (fun i_ => (List.range (((sumM m h p k).getD i_ []).length)).map (fun j_ => addI (((sumM m h p k).getD i_ []).getD j_ wholeI) e p)))))) (.e (matP ((List.range ((sumM m h p k).length)).map (fun i_ => (List.range (((sumM m h p k).getD i_ []).length)).map (fun j_ => addI (((sumM m h p k).getD i_ []).getD j_ wholeI) e p))))))] <| .nil)) (by kernel_rfl)) (by nofun) : LpT 22 Tryz.f12 (expFamB m h e k p 0) (.exit 2) ⟨122, true, [(17, .e (matP (vja2 m h p k e)))], []⟩) .nil,
  .c (all_pc (vja2 m h p k e) (by simp; omega) hrows),
  tB 120 (hall : (((vja2 m h p k e)).any fun r => r.any fun x => x.all) = false)] <| .nil) (by kernel_rfl)
open Go.RowKit Fp Pu
theorem range_rows {s : List (List Iv)} {e : Iv} {p : Nat} : ((List.range (s.length)).map (fun i_ => (List.range ((s.getD i_ []).length)).map (fun j_ => addI ((s.getD i_ []).getD j_ wholeI) e p))) = s.map fun r => r.map fun x => addI x e p := by
 apply List.ext_getElem
 ·simp
 ·intro i h1 h2
  have hi : i < s.length := by simpa using h2
  simp only [List.getElem_map, List.getElem_range]
  rw [getD_eq_getElem hi]
  apply List.ext_getElem
  ·simp
  ·intro j h3 h4
   have hj : j < s[i].length := by simpa using h4
   simp only [List.getElem_map, List.getElem_range]
   rw [getD_eq_getElem hj]
theorem exp_pc (m : List (List Iv)) (h : Iv) (n k p : Nat) (ga : MOk m n n) (hh : h.Valid) (hha : h.all = false) (hk1 : 1 ≤ k) (hk : k ≤ 16) (hp1 : 8 ≤ p) (hp2 : p ≤ 512) :
  (∀ x, expM m h k p = some x → PCt 12 [matP m, ivP h, iP (k : Int), iP (p : Int)] (.tup [matP x, iP 0])) ∧
  (expM m h k p = none → PCt 12 [matP m, ivP h, iP (k : Int), iP (p : Int)] (.tup [.v (.slice none 0 0), iP 15])) := by
 unfold expM
 cases hr : restI m h k p with
 | none => exact ⟨fun x hx => (by cases hx), fun _ => exp_no1 m h n k p ga hh hha hk1 hk hp1 hp2 hr⟩
 | some e =>
  rw [Option.bind_some]
  simp only
  cases hall : ((sumM m h p k).map fun r => r.map fun x => addI x e p).any fun r => r.any fun x => x.all with
  | true =>
   rw [if_pos rfl]
   exact ⟨fun x hx => (by cases hx), fun _ => exp_no2 m h n k p ga hh hha hk1 hk hp1 hp2 e hr (by rw [range_rows]; exact hall)⟩
  | false =>
   rw [if_neg (by decide)]
   refine ⟨fun x hx => ?_, fun hx => (by cases hx)⟩
   cases hx
   have := exp_yes m h n k p ga hh hha hk1 hk hp1 hp2 e hr (by rw [range_rows]; exact hall)
   rwa [range_rows] at this
open Go.RowKit Fp Pu
open Go.RowKit Fp Pu
theorem lawD_pc (n e : Int) (h1 : n.natAbs < 4294967296) (h2 : -1000 ≤ e) (h3 : e ≤ 1000) : PCt 21 [(iP n), (iP e)] (dyP (canonZ n e)) := by
 have hrg : inRange (canon (Dy.neg (intD n)) (Dy.m (intD n)) ((Dy.e (intD n)) + e)) := by rw [canon_again]; exact (canonZ_valid h1 h2 h3).range
 exact tr true Tryz.call21 Tryz.func21 (chain [.c (refIntZ_pc _ (by omega) : PCt 70 [(iP n)] _), .c (refScale_pc _ _ (intZ_valid (by omega)) (by omega) (by omega) hrg : PCt 79 [(dyP (intD n)), (iP e)] _)] <| rQ (dyP (canon (Dy.neg (intD n)) (Dy.m (intD n)) ((Dy.e (intD n)) + e))) (dyP (canonZ n e)) (by rw [canon_again])) (by kernel_rfl)
theorem lawPoint_pc (n e : Int) (h1 : n.natAbs < 4294967296) (h2 : -1000 ≤ e) (h3 : e ≤ 1000) : PCt 10 [(iP n), (iP e)] (ivP (pointI (canonZ n e))) := by
 have hv := canonZ_valid h1 h2 h3
 exact tr true Tryz.call10 Tryz.func10 (chain [.c (lawD_pc _ _ (by omega) (by omega) (by omega) : PCt 21 [(iP n), (iP e)] _), .c (r5Point_pc (canonZ n e))] <| .nil) (by kernel_rfl)
def insI (x y : Iv) : Bool := y.all || (!x.all && (decide (cmpD y.lo x.lo ≤ 0) && decide (cmpD x.hi y.hi ≤ 0)))
theorem ivInside_pc (x y : Iv) (hx : x.Valid) (hy : y.Valid) : PCt 38 [(ivP x), (ivP y)] (bP (insI x y)) := by
 obtain ⟨v1, v2⟩ := hx.ends
 obtain ⟨v3, v4⟩ := hy.ends
 exact tr true Tryz.call38 Tryz.func38 (chain [.c (ivValid_pc x ‹_›), .c (ivValid_pc y ‹_›)] <| .w (y.all = true)
  (fun k1 => chain [tB 14 (k1)] <| rQ (bP true) (bP (insI x y)) (by unfold insI; simp [k1]))
  (fun k1 => chain [tB 14 (Bool.eq_false_iff.2 k1)] <| .w (x.all = true)
   (fun k2 => chain [tB 17 (k2)] <| rQ (bP false) (bP (insI x y)) (by unfold insI; simp [k1, k2]))
   (fun k2 => chain [tB 17 (Bool.eq_false_iff.2 k2), .c (dyCmp_pc _ _ ‹_› ‹_› : PCt 82 [(dyP y.lo), (dyP x.lo)] _)] <| .w ((cmpD y.lo x.lo) ≤ 0)
    (fun k3 => chain [tB 25 (decide_eq_true k3), .c (dyCmp_pc _ _ ‹_› ‹_› : PCt 82 [(dyP x.hi), (dyP y.hi)] _)] <| rQ (bP (decide ((cmpD x.hi y.hi) ≤ 0))) (bP (insI x y)) (by unfold insI; simp [k1, k2, k3]))
    (fun k3 => chain [tB 25 (decide_eq_false k3)] <| rQ (bP false) (bP (insI x y)) (by unfold insI; simp [k1, k2, k3]))))) (by kernel_rfl)
open Go.RowKit Fp Pu
theorem expM_ok {m x : List (List Iv)} {h : Iv} {n k p : Nat} (ga : MOk m n n) (hh : h.Valid) (hk : k ≤ 1000) (hp1 : 8 ≤ p) (hp2 : p ≤ 512) (hx : expM m h k p = some x) : MOk x n n := by
 unfold expM at hx
 cases hr : restI m h k p with
 | none => rw [hr] at hx; cases hx
 | some e =>
  rw [hr, Option.bind_some] at hx
  simp only at hx
  obtain ⟨_, hev, _⟩ := (rest_pc m h n n k p ga hh hk hp1 hp2).1 e hr
  have gs := sumM_ok (h := h) (p := p) ga (by omega) (by omega) k
  split at hx
  ·cases hx
  ·cases hx
   refine ⟨by rw [List.length_map]; exact gs.rows, fun r hr => ?_, fun r hr y hy => ?_, gs.n1, gs.n8, gs.k1, gs.k8⟩
   ·obtain ⟨r', h1, rfl⟩ := List.mem_map.1 hr
    rw [List.length_map]; exact gs.row r' h1
   ·obtain ⟨r', h1, rfl⟩ := List.mem_map.1 hr
    obtain ⟨y', h2, rfl⟩ := List.mem_map.1 hy
    exact addI_valid (gs.ok r' h1 y' h2) hev (by omega) (by omega)
theorem mok_at {m : List (List Iv)} {n k : Nat} (g : MOk m n k) (i j : Nat) : ((m.getD i []).getD j wholeI).Valid := by
 by_cases hi : i < m.length
 ·rw [getD_eq_getElem (d := []) hi]
  by_cases hj : j < m[i].length
  ·rw [getD_eq_getElem hj]
   exact g.ok _ (List.getElem_mem hi) _ (List.getElem_mem hj)
  ·rw [List.getD_eq_getElem?_getD, List.getElem?_eq_none (by omega)]; exact wholeI_valid
 ·rw [List.getD_eq_getElem?_getD (l := m), List.getElem?_eq_none (by omega)]
  exact wholeI_valid
open Go.RowKit Fp Pu
open Go.RowKit Fp Pu
def awM : List (List Iv) := [[(pointI (canonZ 0 0)), (pointI (canonZ 1 0))], [(pointI (canonZ 0 0)), (pointI (canonZ 0 0))]]
def awH : Iv := (pointI (canonZ 1 (-1)))
def awX : List (List Iv) := [[⟨⟨false, 562735496296199119, -59⟩, ⟨false, 590186008310647857, -59⟩, false⟩, ⟨⟨false, 274505120144487375, -59⟩, ⟨false, 301955632158936113, -59⟩, false⟩], [⟨⟨true, 439208192231179801, -64⟩, ⟨false, 439208192231179801, -64⟩, false⟩, ⟨⟨false, 562735496296199119, -59⟩, ⟨false, 590186008310647857, -59⟩, false⟩]]
theorem awM_ok : MOk awM 2 2 where
 rows := rfl
 row := by intro r hr; simp only [awM, List.mem_cons, List.not_mem_nil, or_false] at hr; rcases hr with rfl | rfl <;> rfl
 ok := by
  intro r hr x hx
  simp only [awM, List.mem_cons, List.not_mem_nil, or_false] at hr
  rcases hr with rfl | rfl <;> simp only [List.mem_cons, List.not_mem_nil, or_false] at hx <;> rcases hx with rfl | rfl <;> exact pointI_valid (canonZ_valid (by decide) (by decide) (by decide))
 n1 := by decide
 n8 := by decide
 k1 := by decide
 k8 := by decide
theorem awH_ok : awH.Valid := pointI_valid (canonZ_valid (by decide) (by decide) (by decide))
theorem awX_is : expM awM awH 2 60 = some awX := by kernel_rfl
theorem awExp_pc : PCt 12 [matP awM, ivP awH, iP 2, iP 60] (.tup [matP awX, iP 0]) :=
 (exp_pc awM awH 2 2 60 awM_ok awH_ok rfl (by decide) (by decide) (by decide) (by decide)).1 awX awX_is
theorem awX_ok : MOk awX 2 2 := expM_ok awM_ok awH_ok (by decide) (by decide) (by decide) awX_is
def awXx : Iv := (awX.getD 0 []).getD 1 wholeI
theorem awXx_ok : awXx.Valid := mok_at awX_ok 0 1
theorem awCmp_pc : PCt 37 [.agg [iP 11, iP 21], dyP awXx.hi] (.tup [iP (ratCmp 11 21 awXx.hi), iP 0]) :=
 ratCompare_pc 11 21 awXx.hi awXx_ok.ends.2 (by decide) (by decide) (by decide) (by decide) (by decide)
theorem mat2_le (a b : List Iv) : E.le (.sl true 2 1 fun i_ j_ => [(ivsP a), (ivsP b)].getD (i_ * 1 + j_) (.v (.bool false))) (matP [a, b]) := .sl fun i j hi hj => by
 obtain rfl : j = 0 := by omega
 obtain rfl | rfl : i = 0 ∨ i = 1 := by omega
 ·exact ⟨.refl _, rfl⟩
 ·exact ⟨.refl _, rfl⟩
theorem ivEx_ok : (Iv.mk (canonZ 120 (-8)) (canonZ 135 (-8)) false).Valid := .inr ⟨rfl, canonZ_valid (n := 120) (e := -8) (by decide) (by decide) (by decide), canonZ_valid (n := 135) (e := -8) (by decide) (by decide) (by decide), by decide +kernel⟩
theorem insI_ex : insI awXx (Iv.mk (canonZ 120 (-8)) (canonZ 135 (-8)) false) = true := by kernel_rfl
set_option maxHeartbeats 1000000 in
theorem awake_pc  : PCt 9 [] (bP true) := by
 have l1 : awX.length = 2 := rfl
 have l2 : (awX.getD 0 []).length = 2 := rfl
 exact tr true Tryz.call9 Tryz.func9 (chain [.c (lawPoint_pc 0 0 (by omega) (by omega) (by omega)), .c (lawPoint_pc 1 0 (by omega) (by omega) (by omega)),
  .o 8 (.e (ivs2_le _ _) : PV.le (.e (.sl true 2 7 fun i_ j_ => (ivL (pointI (canonZ 0 0)) ++ ivL (pointI (canonZ 1 0))).getD (i_ * 7 + j_) (.v (.bool false)))) (.e (ivsP [(pointI (canonZ 0 0)), (pointI (canonZ 1 0))]))),
  .c (lawPoint_pc 0 0 (by omega) (by omega) (by omega)), .c (lawPoint_pc 0 0 (by omega) (by omega) (by omega)),
  .o 11 (.e (ivs2_le _ _) : PV.le (.e (.sl true 2 7 fun i_ j_ => (ivL (pointI (canonZ 0 0)) ++ ivL (pointI (canonZ 0 0))).getD (i_ * 7 + j_) (.v (.bool false)))) (.e (ivsP [(pointI (canonZ 0 0)), (pointI (canonZ 0 0))]))),
  .o 12 (.e (mat2_le _ _) : PV.le (.e (.sl true 2 1 fun i_ j_ => [(ivsP [(pointI (canonZ 0 0)), (pointI (canonZ 1 0))]), (ivsP [(pointI (canonZ 0 0)), (pointI (canonZ 0 0))])].getD (i_ * 1 + j_) (.v (.bool false)))) (.e (matP awM))),
  .c (lawPoint_pc 1 (-1) (by omega) (by omega) (by omega)), .c (awExp_pc : PCt 12 [(matP awM), (ivP (pointI (canonZ 1 (-1)))), (iP 2), (iP 60)] _), tB 20 (by decide : ((0 : Int) != 0) = false),
  tB 24 (by kernel_rfl : ((awX.length : Int) != 2) = false), iX (0) (awX.length) (by omega), tB 31 (by kernel_rfl : ((((awX.getD 0 []).length : Nat) : Int) != 2) = false), iX (0) (awX.length) (by omega),
  iX (1) ((awX.getD 0 []).length) (by omega), .c (awCmp_pc : PCt 37 [(.agg [(iP 11), (iP 21)]), (dyP (((awX.getD 0 []).getD 1 wholeI).hi))] _), tB 45 (by decide : ((0 : Int) == 0) = true),
  tB 48 (by kernel_rfl : (decide ((ratCmp 11 21 awXx.hi) ≤ 0)) = true), iX (0) (awX.length) (by omega), iX (1) ((awX.getD 0 []).length) (by omega), .c (lawD_pc 120 (-8) (by omega) (by omega) (by omega)),
  .c (lawD_pc 135 (-8) (by omega) (by omega) (by omega)), .c (ivInside_pc ((awX.getD 0 []).getD 1 wholeI) (Iv.mk (canonZ 120 (-8)) (canonZ 135 (-8)) false) awXx_ok (ivEx_ok))] <| rQ (bP (insI ((awX.getD 0 []).getD 1 wholeI) (Iv.mk (canonZ 120 (-8)) (canonZ 135 (-8)) false))) (bP true) (congrArg bP insI_ex)) (by kernel_rfl)
open Go.RowKit Fp Pu
open Go.RowKit Fp Pu
end Go.Proofs.YtdppllbbgfekaaaGreatDoor
namespace Go.Proofs.YtdppllbbgfekaaaGreatDoor.Fp
section
variable {a b : Dy} {k : Int}
theorem maxD_canon (ha : a.Canon) (hb : b.Canon) : (maxD a b).Canon := by unfold maxD; split; exact hb; exact ha
theorem absD_canon (ha : a.Canon) : (absD a).Canon := by
 rcases ha with ⟨h1, _, h3⟩ | h1
 ·exact .inl ⟨h1, rfl, h3⟩
 ·exact .inr h1
end
theorem grid_down {m gm p : Nat} {e ge K : Int} (hp : 1 ≤ p) (hg : bitsN gm ≤ p) (hge : -16384 ≤ ge) (k1 : K ≤ e) (k2 : K ≤ ge)
  (h : gm * 2 ^ (ge - K).toNat ≤ m * 2 ^ (e - K).toNat) : gm * 2 ^ (ge - K).toNat ≤ cutQ m e false p false * 2 ^ (e + cutK m e p - K).toNat := by
 have hq : cutQ m e false p false = m / 2 ^ cutK m e p := by unfold cutQ; simp
 rw [hq]
 have hm := Nat.div_add_mod m (2 ^ cutK m e p)
 have hr := Nat.mod_lt m (Nat.pow_pos (n := cutK m e p) (by decide : 0 < 2))
 obtain ⟨k, hk⟩ : ∃ k, k = cutK m e p := ⟨_, rfl⟩
 rw [← hk] at hm hr ⊢
 have e1 : (e + (k : Int) - K).toNat = k + (e - K).toNat := by omega
 rw [e1, Nat.pow_add]
 generalize hE : 2 ^ (e - K).toNat = E at *
 have hE0 : 0 < E := by rw [← hE]; exact Nat.pow_pos (by decide)
 have hmE : m * E < (m / 2 ^ k + 1) * (2 ^ k * E) := by
  rw [← Nat.mul_assoc]
  refine Nat.mul_lt_mul_of_pos_right ?_ hE0
  rw [Nat.add_mul, Nat.one_mul, Nat.mul_comm]
  omega
 by_cases hc : e + k ≤ ge
 ·
  have e2 : (ge - K).toNat = (ge - (e + k)).toNat + (k + (e - K).toNat) := by omega
  rw [e2, Nat.pow_add, Nat.pow_add 2 k, hE] at h ⊢
  rw [← Nat.mul_assoc] at h ⊢
  generalize gm * 2 ^ (ge - (e + k)).toNat = g at *
  have : g < m / 2 ^ k + 1 := by
   apply Classical.byContradiction
   intro h'
   have := Nat.mul_le_mul_right (2 ^ k * E) (show m / 2 ^ k + 1 ≤ g by omega)
   omega
  exact Nat.mul_le_mul_right _ (by omega)
 ·by_cases hk0 : k = 0
  ·subst hk0
   rw [Nat.pow_zero, Nat.div_one, Nat.one_mul]
   exact h
  ·
   have hb : (bitsN m : Int) - p = k := by unfold cutK at hk; omega
   have hm0 : m ≠ 0 := by intro h0; rw [h0] at hb; simp [bitsN] at hb; omega
   have h1 := two_pow_le_of_bitsN hm0
   have h2 : 2 ^ (bitsN m - 1 - k) ≤ m / 2 ^ k := by
    rw [Nat.le_div_iff_mul_le (Nat.pow_pos (by decide)), ← Nat.pow_add]
    exact Nat.le_trans (Nat.pow_le_pow_right (by decide) (by have := bitsN_pos hm0; omega)) h1
   have h3 : gm < 2 ^ p := bitsN_le_iff.1 hg
   refine Nat.le_trans (Nat.mul_le_mul_right _ (Nat.le_of_lt h3)) (Nat.le_trans ?_ (Nat.mul_le_mul_right _ h2))
   rw [← hE, ← Nat.pow_add, ← Nat.pow_add, ← Nat.pow_add]
   exact Nat.pow_le_pow_right (by decide) (by omega)
theorem grid_up {m gm p : Nat} {e ge K : Int} (hp : 1 ≤ p) (hg : bitsN gm ≤ p) (hge : -16384 ≤ ge) (k1 : K ≤ e) (k2 : K ≤ ge)
  (h : m * 2 ^ (e - K).toNat ≤ gm * 2 ^ (ge - K).toNat) : cutQ m e false p true * 2 ^ (e + cutK m e p - K).toNat ≤ gm * 2 ^ (ge - K).toNat := by
 have hq0 : cutQ m e false p false = m / 2 ^ cutK m e p := by unfold cutQ; simp
 have hq1 : cutQ m e false p true = m / 2 ^ cutK m e p + if m % 2 ^ cutK m e p ≠ 0 then 1 else 0 := by unfold cutQ; simp
 have hm := Nat.div_add_mod m (2 ^ cutK m e p)
 obtain ⟨k, hk⟩ : ∃ k, k = cutK m e p := ⟨_, rfl⟩
 rw [hq1]
 rw [← hk] at hm ⊢
 have e1 : (e + (k : Int) - K).toNat = k + (e - K).toNat := by omega
 rw [e1, Nat.pow_add]
 generalize hE : 2 ^ (e - K).toNat = E at *
 have hE0 : 0 < E := by rw [← hE]; exact Nat.pow_pos (by decide)
 by_cases hr : m % 2 ^ k = 0
 ·rw [if_neg (by omega), Nat.add_zero, ← Nat.mul_assoc]
  refine Nat.le_trans (Nat.le_of_eq ?_) h
  congr 1
  rw [Nat.mul_comm]; omega
 ·rw [if_pos hr]
  have hk0 : k ≠ 0 := by intro h0; rw [h0, Nat.pow_zero, Nat.mod_one] at hr; exact hr rfl
  have hlt : m / 2 ^ k * (2 ^ k * E) < gm * 2 ^ (ge - K).toNat := by
   refine Nat.lt_of_lt_of_le ?_ h
   rw [← Nat.mul_assoc]
   refine Nat.mul_lt_mul_of_pos_right ?_ hE0
   rw [Nat.mul_comm]; omega
  by_cases hc : e + k ≤ ge
  ·have e2 : (ge - K).toNat = (ge - (e + k)).toNat + (k + (e - K).toNat) := by omega
   have e3 : gm * 2 ^ (ge - K).toNat = gm * 2 ^ (ge - (e + k)).toNat * (2 ^ k * E) := by rw [e2, Nat.pow_add, Nat.pow_add 2 k, hE, Nat.mul_assoc]
   rw [e3] at hlt ⊢
   generalize gm * 2 ^ (ge - (e + k)).toNat = g at *
   have : m / 2 ^ k < g := Nat.lt_of_mul_lt_mul_right hlt
   exact Nat.mul_le_mul_right _ this
  ·
   exfalso
   have hb : (bitsN m : Int) - p = k := by unfold cutK at hk; omega
   have hm0 : m ≠ 0 := by intro h0; rw [h0] at hr; simp at hr
   have h1 := two_pow_le_of_bitsN hm0
   have hbp := bitsN_pos hm0
   have h3 : gm < 2 ^ p := bitsN_le_iff.1 hg
   have h4 : gm * 2 ^ (ge - K).toNat ≤ 2 ^ (bitsN m - 1) * E := by
    refine Nat.le_trans (Nat.mul_le_mul_right _ (Nat.le_of_lt h3)) ?_
    rw [← hE, ← Nat.pow_add, ← Nat.pow_add]
    exact Nat.pow_le_pow_right (by decide) (by omega)
   have h5 : 2 ^ (bitsN m - 1 - k) ≤ m / 2 ^ k := by
    rw [Nat.le_div_iff_mul_le (Nat.pow_pos (by decide)), ← Nat.pow_add]
    exact Nat.le_trans (Nat.pow_le_pow_right (by decide) (by omega)) h1
   have h6 : 2 ^ (bitsN m - 1) * E ≤ m / 2 ^ k * (2 ^ k * E) := by
    rw [← Nat.mul_assoc]
    refine Nat.mul_le_mul_right _ ?_
    have := Nat.mul_le_mul_right (2 ^ k) h5
    rw [← Nat.pow_add] at this
    exact Nat.le_trans (Nat.pow_le_pow_right (by decide) (by omega)) this
   omega
def P2 (k : Int) : Rat := (2 : Rat) ^ k
theorem P2_pos (k : Int) : 0 < P2 k := Rat.zpow_pos (by decide)
theorem P2_add (a b : Int) : P2 (a + b) = P2 a * P2 b := Rat.zpow_add (by decide) a b
theorem P2_nat (n : Nat) : P2 (n : Int) = ((2 ^ n : Nat) : Rat) := by unfold P2; rw [Rat.zpow_natCast]; simp
theorem P2_zero : P2 0 = 1 := by have := P2_nat 0; simpa using this
theorem P2_split {e k : Int} (h : k ≤ e) : P2 e = ((2 ^ (e - k).toNat : Nat) : Rat) * P2 k := by
 rw [← P2_nat, ← P2_add]; congr 1; omega
theorem mul_P2_le {x y : Rat} (k : Int) : x * P2 k ≤ y * P2 k ↔ x ≤ y :=
 ⟨fun h => Rat.le_of_mul_le_mul_right h (P2_pos k), fun h => Rat.mul_le_mul_of_nonneg_right h (Rat.le_of_lt (P2_pos k))⟩
theorem mag_le {m n : Nat} {e f K : Int} (h1 : K ≤ e) (h2 : K ≤ f) : (m : Rat) * P2 e ≤ (n : Rat) * P2 f ↔ m * 2 ^ (e - K).toNat ≤ n * 2 ^ (f - K).toNat := by
 rw [P2_split h1, P2_split h2, ← Rat.mul_assoc, ← Rat.mul_assoc, mul_P2_le, ← Rat.natCast_mul, ← Rat.natCast_mul, Rat.natCast_le_natCast]
def Dy.q (d : Dy) : Rat := ((d.num d.e : Int) : Rat) * P2 d.e
theorem q_at {d : Dy} {k : Int} (h : Above d k) : d.q = ((d.num k : Int) : Rat) * P2 k := by
 unfold Dy.q
 rcases h with h | h
 ·rw [num_zero h, num_zero h]; simp
 ·rw [num_scale h (Int.le_refl _), P2_split h, ← Rat.mul_assoc, Rat.intCast_mul, Rat.intCast_natCast]
theorem q_le (a b : Dy) : cmpD a b ≤ 0 ↔ a.q ≤ b.q := by
 obtain ⟨k, ka, kb⟩ : ∃ k : Int, k ≤ a.e ∧ k ≤ b.e := ⟨min a.e b.e, by omega, by omega⟩
 rw [le_iff (.inr ka) (.inr kb), q_at (.inr ka), q_at (.inr kb), mul_P2_le, Rat.intCast_le_intCast]
theorem q_lt (a b : Dy) : cmpD a b < 0 ↔ a.q < b.q := by
 have h := q_le b a
 rw [cmpD_neg b a] at h
 constructor
 ·intro h1; apply Rat.not_le.1; intro h2; have := h.2 h2; omega
 ·intro h1; apply Classical.byContradiction; intro h2; exact Rat.not_le.2 h1 (h.1 (by omega))
theorem q_sum (a b : Dy) : (sumD a b).q = a.q + b.q := by
 obtain ⟨k, ka, kb⟩ : ∃ k : Int, k ≤ a.e ∧ k ≤ b.e := ⟨min a.e b.e, by omega, by omega⟩
 rw [q_at (above_sumD (.inr ka) (.inr kb)), q_at (.inr ka), q_at (.inr kb), sumD_num (.inr ka) (.inr kb), Rat.intCast_add, Rat.add_mul]
theorem q_neg (a : Dy) : (negD a).q = -a.q := by
 rw [q_at (above_negD (.inr (Int.le_refl a.e))), num_neg, Rat.intCast_neg, Rat.neg_mul]; rfl
theorem q_canon (s : Bool) (m : Nat) (e : Int) : (canon s m e).q = if s then -((m : Rat) * P2 e) else (m : Rat) * P2 e := by
 rw [q_at (above_canon (Int.le_refl e)), num_canon (Int.le_refl e)]
 have : (e - e).toNat = 0 := by omega
 rw [this]
 cases s <;> simp [Rat.intCast_neg, Rat.neg_mul, Rat.intCast_natCast]
theorem q_of (a : Dy) : a.q = if a.neg then -((a.m : Rat) * P2 a.e) else (a.m : Rat) * P2 a.e := by
 unfold Dy.q Dy.num Dy.mag
 have : (a.e - a.e).toNat = 0 := by omega
 rw [this]
 cases a.neg <;> simp [Rat.intCast_neg, Rat.neg_mul, Rat.intCast_natCast]
theorem q_prod (a b : Dy) : (prodD a b).q = a.q * b.q := by
 unfold prodD
 rw [q_canon, q_of a, q_of b, P2_add, Rat.natCast_mul]
 cases a.neg <;> cases b.neg <;> simp <;> grind
theorem q_zero : zeroD.q = 0 := by rw [q_of]; simp [zeroD]
theorem q_intD (n : Int) : (intD n).q = (n : Rat) := by
 unfold intD
 rw [q_at (k := 0) (above_canonZ (Int.le_refl 0)), num_canonZ (Int.le_refl 0), P2_zero]
 simp
theorem q_abs (d : Dy) : 0 ≤ (absD d).q ∧ d.q ≤ (absD d).q ∧ -d.q ≤ (absD d).q ∧ ((absD d).q = d.q ∨ (absD d).q = -d.q) := by
 have h : (absD d).q = (d.m : Rat) * P2 d.e := by rw [q_of]; rfl
 have h0 : 0 ≤ (d.m : Rat) * P2 d.e := Rat.mul_nonneg (Rat.natCast_nonneg) (Rat.le_of_lt (P2_pos _))
 rw [h, q_of d]
 cases d.neg <;> simp <;> grind
theorem q_sign (d : Dy) : (0 < d.sign ↔ 0 < d.q) ∧ (d.sign < 0 ↔ d.q < 0) := by
 have h := P2_pos d.e
 have hm : d.m ≠ 0 → 0 < (d.m : Rat) * P2 d.e := fun h0 => Rat.mul_pos (Rat.natCast_pos.2 (by omega)) h
 rw [q_of]
 unfold Dy.sign
 by_cases h0 : d.m = 0
 ·simp [h0]
 ·have := hm h0
  rw [if_neg h0]
  cases d.neg <;> simp <;> grind
theorem q_max (a b : Dy) : a.q ≤ (maxD a b).q ∧ b.q ≤ (maxD a b).q ∧ ((maxD a b).q = a.q ∨ (maxD a b).q = b.q) :=
 ⟨(q_le _ _).1 (maxD_left a b), (q_le _ _).1 (maxD_right a b), by unfold maxD; split; exact .inr rfl; exact .inl rfl⟩
theorem q_min (a b : Dy) : (minD a b).q ≤ a.q ∧ (minD a b).q ≤ b.q ∧ ((minD a b).q = a.q ∨ (minD a b).q = b.q) :=
 ⟨(q_le _ _).1 (minD_left a b), (q_le _ _).1 (minD_right a b), by unfold minD; split; exact .inr rfl; exact .inl rfl⟩
def GM (p : Nat) (g : Rat) : Prop := ∃ (m : Nat) (e : Int), bitsN m ≤ p ∧ -16384 ≤ e ∧ (bitsN m : Int) + e ≤ 16384 ∧ g = (m : Rat) * P2 e
def G (p : Nat) (g : Rat) : Prop := GM p g ∨ GM p (-g)
theorem GM.nonneg {p : Nat} {g : Rat} (h : GM p g) : 0 ≤ g := by
 obtain ⟨m, e, _, _, _, rfl⟩ := h
 exact Rat.mul_nonneg (Rat.natCast_nonneg) (Rat.le_of_lt (P2_pos _))
theorem GM_zero (p : Nat) : GM p 0 := ⟨0, 0, by simp [bitsN_zero], by omega, by simp [bitsN_zero], by simp⟩
theorem G.neg {p : Nat} {g : Rat} (h : G p g) : G p (-g) := by
 rcases h with h | h
 ·exact .inr (by rw [Rat.neg_neg]; exact h)
 ·exact .inl h
theorem G.pos {p : Nat} {g : Rat} (h : G p g) (h0 : 0 ≤ g) : GM p g := by
 rcases h with h | h
 ·exact h
 ·have := h.nonneg
  have : g = 0 := by grind
  rw [this]; exact GM_zero p
theorem bitsN_pow (k : Nat) : bitsN (2 ^ k) = k + 1 := bitsN_eq (Nat.le_refl _) (Nat.pow_lt_pow_right (by decide) (by omega))
theorem bitsN_one : bitsN 1 = 1 := bitsN_pow 0
section
variable {m p : Nat} {e : Int}
theorem trunc_over (hp : 1 ≤ p) (hp2 : p ≤ 4096) (ho : cutOver m e false p false = true) :
  GM p (((2 ^ p - 1 : Nat) : Rat) * P2 (16384 - p)) ∧ ((2 ^ p - 1 : Nat) : Rat) * P2 (16384 - p) ≤ (m : Rat) * P2 e ∧ ∀ g, GM p g → g ≤ ((2 ^ p - 1 : Nat) : Rat) * P2 (16384 - p) := by
 have hpp : 2 ≤ 2 ^ p := by
  have := Nat.pow_le_pow_right (n := 2) (by decide) hp
  omega
 have hb : bitsN (2 ^ p - 1) = p := by
  obtain ⟨j, rfl⟩ : ∃ j, p = j + 1 := ⟨p - 1, by omega⟩
  have h2 : 2 ^ (j + 1) = 2 ^ j * 2 := Nat.pow_succ _ _
  have h3 := Nat.pow_pos (n := j) (by decide : 0 < 2)
  exact bitsN_eq (by omega) (by omega)
 refine ⟨⟨_, _, Nat.le_of_eq hb, by omega, by omega, rfl⟩, ?_, ?_⟩
 ·obtain ⟨c1, c2⟩ := cut_mag m e p
  unfold cutOver at ho
  simp only [Bool.and_eq_true, decide_eq_true_eq] at ho
  obtain ⟨o1, o2⟩ := ho
  have hq := two_pow_le_of_bitsN o1
  have hbp := bitsN_pos o1
  obtain ⟨K, k1, k2⟩ : ∃ K : Int, K ≤ e ∧ K ≤ 16384 - p := ⟨min e (16384 - p), by omega, by omega⟩
  rw [mag_le k2 k1]
  have h1 : 2 ^ (bitsN (cutQ m e false p false) - 1) * 2 ^ cutK m e p ≤ m := Nat.le_trans (Nat.mul_le_mul_right _ hq) c1
  have h2 := Nat.mul_le_mul_right (2 ^ (e - K).toNat) h1
  rw [← Nat.pow_add, ← Nat.pow_add] at h2
  refine Nat.le_trans (Nat.mul_le_mul_right _ (Nat.sub_le _ _)) (Nat.le_trans ?_ h2)
  rw [← Nat.pow_add]
  exact Nat.pow_le_pow_right (by decide) (by omega)
 ·rintro g ⟨gm, ge, b1, b2, b3, rfl⟩
  by_cases hc : ge ≤ 16384 - p
  ·have : gm < 2 ^ p := bitsN_le_iff.1 b1
   rw [mag_le (K := ge) (Int.le_refl _) hc]
   have e0 : (ge - ge).toNat = 0 := by omega
   rw [e0, Nat.pow_zero, Nat.mul_one]
   exact Nat.le_trans (show gm ≤ 2 ^ p - 1 by omega) (Nat.le_mul_of_pos_right _ (Nat.pow_pos (by decide)))
  ·rw [mag_le (K := 16384 - p) (by omega) (Int.le_refl _)]
   have e0 : ((16384 : Int) - p - (16384 - p)).toNat = 0 := by omega
   rw [e0, Nat.pow_zero, Nat.mul_one]
   have h1 : gm < 2 ^ (16384 - ge).toNat := by
    by_cases h0 : gm = 0
    ·rw [h0]; exact Nat.pow_pos (by decide)
    ·exact bitsN_le_iff.1 (by omega)
   have h2 := Nat.mul_lt_mul_of_pos_right h1 (Nat.pow_pos (n := (ge - (16384 - p)).toNat) (by decide : 0 < 2))
   by_cases hg : ge ≤ 16384
   ·rw [← Nat.pow_add, show (16384 - ge).toNat + (ge - (16384 - (p : Int))).toNat = p by omega] at h2
    omega
   ·have : gm = 0 := by
     rw [show (16384 - ge).toNat = 0 by omega] at h1; simpa using h1
    rw [this, Nat.zero_mul]; omega
theorem trunc_fit (hp : 1 ≤ p) (ho : ¬ cutOver m e false p false = true) :
  GM p (((cutQ m e false p false : Nat) : Rat) * P2 (e + cutK m e p)) ∧ ((cutQ m e false p false : Nat) : Rat) * P2 (e + cutK m e p) ≤ (m : Rat) * P2 e ∧
  ∀ g, GM p g → g ≤ (m : Rat) * P2 e → g ≤ ((cutQ m e false p false : Nat) : Rat) * P2 (e + cutK m e p) := by
 obtain ⟨c1, c2⟩ := cut_mag m e p
 have hk : -16384 ≤ e + (cutK m e p : Int) := by unfold cutK; omega
 refine ⟨?_, ?_, ?_⟩
 ·by_cases h0 : cutQ m e false p false = 0
  ·rw [h0]; simpa using GM_zero p
  ·have hq : cutQ m e false p false < 2 ^ p := by
    have := div_cut_bits m e p
    unfold cutQ; simpa using this
   unfold cutOver at ho
   simp only [ne_eq, h0, not_false_eq_true, decide_true, Bool.true_and, decide_eq_true_eq] at ho
   exact ⟨_, _, bitsN_le_iff.2 hq, hk, by omega, rfl⟩
 ·rw [mag_le (K := e) (by omega) (Int.le_refl _)]
  rw [show (e - e).toNat = 0 by omega, show (e + (cutK m e p : Int) - e).toNat = cutK m e p by omega, Nat.pow_zero, Nat.mul_one]
  exact c1
 ·rintro g ⟨gm, ge, b1, b2, b3, rfl⟩ h
  obtain ⟨K, k1, k2⟩ : ∃ K : Int, K ≤ e ∧ K ≤ ge := ⟨min e ge, by omega, by omega⟩
  rw [mag_le k2 k1] at h
  rw [mag_le (K := K) k2 (by omega)]
  exact grid_down hp b1 b2 k1 k2 h
theorem ceil_over (hp : 1 ≤ p) (ho : cutOver m e false p true = true) (g : Rat) (hg : GM p g) : ¬ (m : Rat) * P2 e ≤ g := by
 obtain ⟨gm, ge, b1, b2, b3, rfl⟩ := hg
 intro h
 obtain ⟨K, k1, k2⟩ : ∃ K : Int, K ≤ e ∧ K ≤ ge := ⟨min e ge, by omega, by omega⟩
 rw [mag_le k1 k2] at h
 have h := grid_up hp b1 b2 k1 k2 h
 unfold cutOver at ho
 simp only [Bool.and_eq_true, decide_eq_true_eq] at ho
 obtain ⟨o1, o2⟩ := ho
 have hq := two_pow_le_of_bitsN o1
 have hbp := bitsN_pos o1
 have h3 : gm < 2 ^ bitsN gm := lt_two_pow_bitsN gm
 have h4 := Nat.mul_lt_mul_of_pos_right h3 (Nat.pow_pos (n := (ge - K).toNat) (by decide : 0 < 2))
 have h5 := Nat.mul_le_mul_right (2 ^ (e + (cutK m e p : Int) - K).toNat) hq
 rw [← Nat.pow_add] at h4 h5
 have h6 : 2 ^ (bitsN gm + (ge - K).toNat) ≤ 2 ^ (bitsN (cutQ m e false p true) - 1 + (e + (cutK m e p : Int) - K).toNat) := Nat.pow_le_pow_right (by decide) (by omega)
 omega
theorem ceil_fit (hp : 1 ≤ p) (ho : ¬ cutOver m e false p true = true) :
  GM p (((cutQ m e false p true : Nat) : Rat) * P2 (e + cutK m e p)) ∧ (m : Rat) * P2 e ≤ ((cutQ m e false p true : Nat) : Rat) * P2 (e + cutK m e p) ∧
  ∀ g, GM p g → (m : Rat) * P2 e ≤ g → ((cutQ m e false p true : Nat) : Rat) * P2 (e + cutK m e p) ≤ g := by
 obtain ⟨c1, c2⟩ := cut_mag m e p
 have hk : -16384 ≤ e + (cutK m e p : Int) := by unfold cutK; omega
 refine ⟨?_, ?_, ?_⟩
 ·by_cases h0 : cutQ m e false p true = 0
  ·rw [h0]; simpa using GM_zero p
  ·unfold cutOver at ho
   simp only [ne_eq, h0, not_false_eq_true, decide_true, Bool.true_and, decide_eq_true_eq] at ho
   rcases Nat.lt_or_eq_of_le (cutQ_le m e false p true) with hq | hq
   ·exact ⟨_, _, bitsN_le_iff.2 hq, hk, by omega, rfl⟩
   ·rw [hq] at ho ⊢
    rw [bitsN_pow] at ho
    refine ⟨1, p + (e + cutK m e p), by rw [bitsN_one]; exact hp, by omega, by rw [bitsN_one]; omega, ?_⟩
    rw [P2_add (p : Int), P2_nat p, show ((1 : Nat) : Rat) = 1 from rfl, Rat.one_mul]
 ·rw [mag_le (K := e) (Int.le_refl _) (by omega)]
  rw [show (e - e).toNat = 0 by omega, show (e + (cutK m e p : Int) - e).toNat = cutK m e p by omega, Nat.pow_zero, Nat.mul_one]
  exact c2
 ·rintro g ⟨gm, ge, b1, b2, b3, rfl⟩ h
  obtain ⟨K, k1, k2⟩ : ∃ K : Int, K ≤ e ∧ K ≤ ge := ⟨min e ge, by omega, by omega⟩
  rw [mag_le k1 k2] at h
  rw [mag_le (K := K) (by omega) k2]
  exact grid_up hp b1 b2 k1 k2 h
end
def Dn (p : Nat) (v : Rat) (D : Dy) (E : Int) : Prop := (E = 0 → G p D.q ∧ D.q ≤ v) ∧ ∀ g, G p g → g ≤ v → E = 0 ∧ g ≤ D.q
def Up (p : Nat) (v : Rat) (D : Dy) (E : Int) : Prop := (E = 0 → G p D.q ∧ v ≤ D.q) ∧ ∀ g, G p g → v ≤ g → E = 0 ∧ D.q ≤ g
theorem Dn.of {p : Nat} {v w : Rat} {D : Dy} {E : Int} (h : Dn p v D E) (k : ∀ g, G p g → (g ≤ v ↔ g ≤ w)) : Dn p w D E :=
 ⟨fun e => ⟨(h.1 e).1, (k _ (h.1 e).1).1 (h.1 e).2⟩, fun g hg hw => h.2 g hg ((k g hg).2 hw)⟩
theorem Up.of {p : Nat} {v w : Rat} {D : Dy} {E : Int} (h : Up p v D E) (k : ∀ g, G p g → (v ≤ g ↔ w ≤ g)) : Up p w D E :=
 ⟨fun e => ⟨(h.1 e).1, (k _ (h.1 e).1).1 (h.1 e).2⟩, fun g hg hw => h.2 g hg ((k g hg).2 hw)⟩
theorem cut_dn (neg : Bool) (m : Nat) (e : Int) {p : Nat} (hp : 1 ≤ p) (hp2 : p ≤ 4096) : Dn p (canon neg m e).q (cutD neg m e false p false) (cutE neg m e false p false) := by
 have hv : 0 ≤ (m : Rat) * P2 e := Rat.mul_nonneg (Rat.natCast_nonneg) (Rat.le_of_lt (P2_pos _))
 rw [q_canon]
 cases neg
 ·
  have hE : cutE false m e false p false = 0 := by unfold cutE; simp
  rw [hE]
  unfold cutD
  simp only [bne_self_eq_false, Bool.false_eq_true, if_false]
  by_cases ho : cutOver m e false p false = true
  ·obtain ⟨t1, t2, t3⟩ := trunc_over hp hp2 ho
   rw [if_pos ho]; (first | unfold Dn | unfold Up); rw [q_canon]
   simp only [Bool.false_eq_true, if_false]
   refine ⟨fun _ => ⟨.inl t1, t2⟩, fun g hg hle => ⟨trivial, ?_⟩⟩
   by_cases h0 : 0 ≤ g
   ·exact t3 g (hg.pos h0)
   ·have := t1.nonneg; grind
  ·obtain ⟨t1, t2, t3⟩ := trunc_fit hp ho
   rw [if_neg ho]; (first | unfold Dn | unfold Up); rw [q_canon]
   simp only [Bool.false_eq_true, if_false]
   refine ⟨fun _ => ⟨.inl t1, t2⟩, fun g hg hle => ⟨trivial, ?_⟩⟩
   by_cases h0 : 0 ≤ g
   ·exact t3 g (hg.pos h0) hle
   ·have := t1.nonneg; grind
 ·unfold cutD cutE
  simp only [Bool.bne_false, Bool.and_true, if_true]
  by_cases ho : cutOver m e false p true = true
  ·rw [if_pos ho, if_pos ho]
   refine ⟨fun h => by simp at h, fun g hg hle => ?_⟩
   exact absurd (show (m : Rat) * P2 e ≤ -g by grind) (ceil_over hp ho _ (hg.neg.pos (by grind)))
  ·obtain ⟨t1, t2, t3⟩ := ceil_fit hp ho
   rw [if_neg ho, if_neg ho]; (first | unfold Dn | unfold Up); rw [q_canon]
   simp only [if_true]
   refine ⟨fun _ => ⟨.inr (by rw [Rat.neg_neg]; exact t1), by grind⟩, fun g hg hle => ⟨trivial, ?_⟩⟩
   have := t3 (-g) (hg.neg.pos (by grind)) (by grind)
   grind
theorem cut_up (neg : Bool) (m : Nat) (e : Int) {p : Nat} (hp : 1 ≤ p) (hp2 : p ≤ 4096) : Up p (canon neg m e).q (cutD neg m e false p true) (cutE neg m e false p true) := by
 have hv : 0 ≤ (m : Rat) * P2 e := Rat.mul_nonneg (Rat.natCast_nonneg) (Rat.le_of_lt (P2_pos _))
 rw [q_canon]
 cases neg
 ·unfold cutD cutE
  simp only [Bool.bne_true, Bool.not_false, Bool.and_true, if_true, Bool.false_eq_true, if_false]
  by_cases ho : cutOver m e false p true = true
  ·rw [if_pos ho, if_pos ho]
   refine ⟨fun h => by simp at h, fun g hg hle => ?_⟩
   exact absurd hle (ceil_over hp ho _ (hg.pos (by grind)))
  ·obtain ⟨t1, t2, t3⟩ := ceil_fit hp ho
   rw [if_neg ho, if_neg ho]; (first | unfold Dn | unfold Up); rw [q_canon]
   simp only [Bool.false_eq_true, if_false]
   exact ⟨fun _ => ⟨.inl t1, t2⟩, fun g hg hle => ⟨trivial, t3 g (hg.pos (by grind)) hle⟩⟩
 ·have hE : cutE true m e false p true = 0 := by unfold cutE; simp
  rw [hE]
  unfold cutD
  simp only [bne_self_eq_false, Bool.false_eq_true, if_false, if_true]
  by_cases ho : cutOver m e false p false = true
  ·obtain ⟨t1, t2, t3⟩ := trunc_over hp hp2 ho
   rw [if_pos ho]; (first | unfold Dn | unfold Up); rw [q_canon]
   simp only [if_true]
   refine ⟨fun _ => ⟨.inr (by rw [Rat.neg_neg]; exact t1), by grind⟩, fun g hg hle => ⟨trivial, ?_⟩⟩
   by_cases h0 : 0 ≤ -g
   ·have := t3 (-g) (hg.neg.pos h0); grind
   ·have := t1.nonneg; grind
  ·obtain ⟨t1, t2, t3⟩ := trunc_fit hp ho
   rw [if_neg ho]; (first | unfold Dn | unfold Up); rw [q_canon]
   simp only [if_true]
   refine ⟨fun _ => ⟨.inr (by rw [Rat.neg_neg]; exact t1), by grind⟩, fun g hg hle => ⟨trivial, ?_⟩⟩
   by_cases h0 : 0 ≤ -g
   ·have := t3 (-g) (hg.neg.pos h0) (by grind); grind
   ·have := t1.nonneg; grind
theorem rnd_dn {d : Dy} (hd : d.Canon) {p : Nat} (hp : 1 ≤ p) (hp2 : p ≤ 4096) : Dn p d.q (rndD d p false) (rndE d p false) := by
 have := cut_dn d.neg d.m d.e hp hp2; rwa [hd.canon_eq] at this
theorem rnd_up {d : Dy} (hd : d.Canon) {p : Nat} (hp : 1 ≤ p) (hp2 : p ≤ 4096) : Up p d.q (rndD d p true) (rndE d p true) := by
 have := cut_up d.neg d.m d.e hp hp2; rwa [hd.canon_eq] at this
theorem gap {N p : Nat} {e : Int} (hb : p < bitsN N) {g : Rat} (hg : GM p g) : g ≤ (N : Rat) * P2 e ∨ ((N + 1 : Nat) : Rat) * P2 e ≤ g := by
 obtain ⟨gm, ge, b1, b2, b3, rfl⟩ := hg
 by_cases hc : e ≤ ge
 ·rw [mag_le (K := e) hc (Int.le_refl _), mag_le (K := e) (Int.le_refl _) hc, show (e - e).toNat = 0 by omega]
  omega
 ·left
  rw [mag_le (K := ge) (Int.le_refl _) (by omega), show (ge - ge).toNat = 0 by omega, Nat.pow_zero, Nat.mul_one]
  have h1 : gm < 2 ^ p := bitsN_le_iff.1 b1
  have h2 : 2 ^ p ≤ N := lt_bitsN_iff.1 hb
  exact Nat.le_trans (Nat.le_of_lt (Nat.lt_of_lt_of_le h1 h2)) (Nat.le_mul_of_pos_right _ (Nat.pow_pos (by decide)))
theorem between {N p : Nat} {e : Int} (hb : p < bitsN N) {x y : Rat} (x1 : (N : Rat) * P2 e < x) (x2 : x < ((N + 1 : Nat) : Rat) * P2 e) (y1 : (N : Rat) * P2 e < y) (y2 : y < ((N + 1 : Nat) : Rat) * P2 e) {g : Rat} (hg : G p g) :
  (g ≤ x ↔ g ≤ y) ∧ (x ≤ g ↔ y ≤ g) ∧ (g ≤ -x ↔ g ≤ -y) ∧ (-x ≤ g ↔ -y ≤ g) := by
 have hv : 0 ≤ (N : Rat) * P2 e := Rat.mul_nonneg (Rat.natCast_nonneg) (Rat.le_of_lt (P2_pos _))
 have hG : ∀ g, G p g → g ≤ (N : Rat) * P2 e ∨ ((N + 1 : Nat) : Rat) * P2 e ≤ g := by
  intro g hg
  by_cases h0 : 0 ≤ g
  ·exact gap hb (hg.pos h0)
  ·left; grind
 have h1 := hG g hg
 have h2 := hG (-g) hg.neg
 generalize (N : Rat) * P2 e = A at *
 generalize ((N + 1 : Nat) : Rat) * P2 e = B at *
 refine ⟨?_, ?_, ?_, ?_⟩ <;> constructor <;> intro h <;> grind
theorem cutD_odd {N p : Nat} (E : Int) (hb : p < bitsN N) (neg up : Bool) : cutD neg N E true p up = cutD neg (2 * N + 1) (E - 1) false p up ∧ cutE neg N E true p up = cutE neg (2 * N + 1) (E - 1) false p up := by
 have h1 : (2 * N + 1) / 2 ^ 1 = N := by omega
 have h := cutD_shift (N := 2 * N + 1) (E := E - 1) (more := false) (d := 1) (p := p) neg up (by rw [h1]; exact hb)
 have h2 : decide ((2 * N + 1) % 2 ^ 1 ≠ 0) = true := by simp
 rw [h1, h2, show E - 1 + ((1 : Nat) : Int) = E by omega] at h
 exact h
theorem div_best {a b : Dy} (b0 : b.m ≠ 0) {p : Nat} (hp : 1 ≤ p) (hp2 : p ≤ 4096) : Dn p (a.q / b.q) (divD a b p false) (divE a b p false) ∧ Up p (a.q / b.q) (divD a b p true) (divE a b p true) := by
 by_cases a0 : a.m = 0
 ·have hq : a.q = 0 := by rw [q_of, a0]; simp
  have h0 : (0 : Rat) / b.q = 0 := by rw [Rat.div_def, Rat.zero_mul]
  unfold divD divE
  rw [hq, h0, if_pos a0, if_pos a0, if_pos a0, if_pos a0]
  have hz : G p 0 := .inl (GM_zero p)
  exact ⟨⟨fun _ => ⟨by rw [q_zero]; exact hz, by rw [q_zero]; exact Rat.le_refl⟩, fun g _ h => ⟨rfl, by rw [q_zero]; exact h⟩⟩, ⟨fun _ => ⟨by rw [q_zero]; exact hz, by rw [q_zero]; exact Rat.le_refl⟩, fun g _ h => ⟨rfl, by rw [q_zero]; exact h⟩⟩⟩
 ·have hb := div_bits a0 b0 p 2 (by decide)
  unfold divD divE
  rw [if_neg a0, if_neg a0, if_neg a0, if_neg a0]
  generalize hk : divK a b p 2 = k at *
  generalize hs : (a.neg != b.neg) = s
  generalize hE : a.e - b.e - (k : Int) = E0
  have hB : (0 : Rat) < (b.m : Rat) := Rat.natCast_pos.2 (by omega)
  have hPb := P2_pos b.e
  have hP := P2_pos E0
  obtain ⟨w, hw⟩ : ∃ w : Rat, w = (a.m : Rat) * P2 a.e / ((b.m : Rat) * P2 b.e) := ⟨_, rfl⟩
  have hwb : w * ((b.m : Rat) * P2 b.e) = (a.m : Rat) * P2 a.e := by
   have : (b.m : Rat) * P2 b.e ≠ 0 := by have := Rat.mul_pos hB hPb; grind
   rw [hw]; exact Rat.div_mul_cancel this
  have hval : a.q / b.q = if s then -w else w := by
   have hbq : b.q ≠ 0 := by
    have := Rat.mul_pos hB hPb
    rw [q_of b]
    cases b.neg <;> simp <;> grind
   have hq : (if s then -w else w) * b.q = a.q := by
    rw [q_of a, q_of b, ← hs, ← hwb]
    cases a.neg <;> cases b.neg <;> simp <;> grind
   rw [← hq, Rat.mul_div_cancel hbq]
  have hdm := Nat.div_add_mod (a.m * 2 ^ k) b.m
  have hr := Nat.mod_lt (a.m * 2 ^ k) (show 0 < b.m by omega)
  generalize hN : a.m * 2 ^ k / b.m = N at *
  generalize hR : a.m * 2 ^ k % b.m = R at *
  have hdm' : (b.m : Rat) * (N : Rat) + (R : Rat) = (a.m : Rat) * ((2 ^ k : Nat) : Rat) := by rw [← Rat.natCast_mul, ← Rat.natCast_mul, ← Rat.natCast_add, hdm]
  have hae : P2 a.e = ((2 ^ k : Nat) : Rat) * P2 b.e * P2 E0 := by rw [← P2_nat, ← P2_add, ← P2_add]; congr 1; omega
  have hwm : w * (b.m : Rat) = ((b.m : Rat) * (N : Rat) + (R : Rat)) * P2 E0 := by
   have : w * (b.m : Rat) * P2 b.e = ((b.m : Rat) * (N : Rat) + (R : Rat)) * P2 E0 * P2 b.e := by
    rw [hdm', Rat.mul_assoc, hwb, hae]; grind
   have hne : P2 b.e ≠ 0 := by grind
   have h2 := congrArg (· / P2 b.e) this
   simp only [Rat.mul_div_cancel hne] at h2
   exact h2
  by_cases h0 : R = 0
  ·have hw2 : w = (N : Rat) * P2 E0 := by
    rw [h0] at hwm
    have hne : (b.m : Rat) ≠ 0 := by grind
    have h2 : w * (b.m : Rat) = ((N : Rat) * P2 E0) * (b.m : Rat) := by rw [hwm]; simp; grind
    have h3 := congrArg (· / (b.m : Rat)) h2
    simp only [Rat.mul_div_cancel hne] at h3
    exact h3
   have hc : a.q / b.q = (canon s N E0).q := by rw [hval, q_canon, hw2]
   rw [hc, decide_eq_false (by simpa using h0)]
   exact ⟨cut_dn _ _ _ hp hp2, cut_up _ _ _ hp hp2⟩
  ·have hR0 : (0 : Rat) < (R : Rat) := Rat.natCast_pos.2 (by omega)
   have hRb : (R : Rat) < (b.m : Rat) := Rat.natCast_lt_natCast.2 hr
   have w1 : (N : Rat) * P2 E0 < w := by
    apply Rat.lt_of_mul_lt_mul_right (c := (b.m : Rat)) _ (Rat.le_of_lt hB)
    rw [hwm]
    have := Rat.mul_pos hR0 hP
    grind
   have w2 : w < ((N + 1 : Nat) : Rat) * P2 E0 := by
    apply Rat.lt_of_mul_lt_mul_right (c := (b.m : Rat)) _ (Rat.le_of_lt hB)
    rw [hwm, Rat.natCast_add]
    have := Rat.mul_pos (show (0 : Rat) < (b.m : Rat) - (R : Rat) by grind) hP
    simp
    grind
   have hh : P2 E0 = 2 * P2 (E0 - 1) := by
    rw [P2_split (show E0 - 1 ≤ E0 by omega), show (E0 - (E0 - 1)).toNat = 1 by omega]; simp
   have v1 : (N : Rat) * P2 E0 < ((2 * N + 1 : Nat) : Rat) * P2 (E0 - 1) := by
    have := P2_pos (E0 - 1)
    rw [hh, Rat.natCast_add, Rat.natCast_mul]; simp; grind
   have v2 : ((2 * N + 1 : Nat) : Rat) * P2 (E0 - 1) < ((N + 1 : Nat) : Rat) * P2 E0 := by
    have := P2_pos (E0 - 1)
    rw [hh, Rat.natCast_add, Rat.natCast_mul, Rat.natCast_add]; simp; grind
   rw [decide_eq_true (by simpa using h0), (cutD_odd E0 hb s false).1, (cutD_odd E0 hb s false).2, (cutD_odd E0 hb s true).1, (cutD_odd E0 hb s true).2, hval]
   have A := cut_dn s (2 * N + 1) (E0 - 1) hp hp2
   have B := cut_up s (2 * N + 1) (E0 - 1) hp hp2
   rw [q_canon] at A B
   refine ⟨A.of fun g hg => ?_, B.of fun g hg => ?_⟩
   ·obtain ⟨k1, k2, k3, k4⟩ := between hb v1 v2 w1 w2 hg
    cases s
    ·exact k1
    ·exact k3
   ·obtain ⟨k1, k2, k3, k4⟩ := between hb v1 v2 w1 w2 hg
    cases s
    ·exact k2
    ·exact k4
def Iv.has (x : Iv) (r : Rat) : Prop := x.all = true ∨ (x.lo.q ≤ r ∧ r ≤ x.hi.q)
def Sub (x y : Iv) : Prop := y.all = true ∨ (x.all = false ∧ y.lo.q ≤ x.lo.q ∧ x.hi.q ≤ y.hi.q)
theorem Sub.refl (x : Iv) : Sub x x := by
 cases h : x.all
 ·exact .inr ⟨h, Rat.le_refl, Rat.le_refl⟩
 ·exact .inl h
theorem Sub.has {x y : Iv} (h : Sub x y) {r : Rat} (k : x.has r) : y.has r := by
 rcases h with h | ⟨h1, h2, h3⟩
 ·exact .inl h
 ·rcases k with k | ⟨k1, k2⟩
  ·rw [h1] at k; cases k
  ·exact .inr ⟨by grind, by grind⟩
theorem Sub.known {x y : Iv} (h : Sub x y) (k : y.all = false) : x.all = false ∧ y.lo.q ≤ x.lo.q ∧ x.hi.q ≤ y.hi.q := by
 rcases h with h | h
 ·rw [h] at k; cases k
 ·exact h
theorem Iv.Valid.q {x : Iv} (h : x.Valid) : x.lo.q ≤ x.hi.q := by
 rcases h with ⟨_, h2, h3⟩ | ⟨_, _, _, h⟩
 ·rw [h2, h3]; exact Rat.le_refl
 ·exact (q_le _ _).1 h
theorem Iv.Valid.canons {x : Iv} (h : x.Valid) : x.lo.Canon ∧ x.hi.Canon := by
 rcases h with ⟨_, h2, h3⟩ | ⟨_, h2, h3, _⟩
 ·rw [h2, h3]; exact ⟨zeroD_valid.canon, zeroD_valid.canon⟩
 ·exact ⟨h2.canon, h3.canon⟩
theorem Iv.Valid.has_lo {x : Iv} (h : x.Valid) : x.has x.lo.q := .inr ⟨Rat.le_refl, h.q⟩
theorem Iv.Valid.has_hi {x : Iv} (h : x.Valid) : x.has x.hi.q := .inr ⟨h.q, Rat.le_refl⟩
structure Best (p : Nat) (S : Rat → Prop) (X : Iv) : Prop where
 has : ∀ r, S r → X.has r
 on : X.all = false → G p X.lo.q ∧ G p X.hi.q
 least : ∀ L U, G p L → G p U → (∀ r, S r → L ≤ r ∧ r ≤ U) → X.all = false ∧ L ≤ X.lo.q ∧ X.hi.q ≤ U
theorem Best.sub {p : Nat} {S T : Rat → Prop} {X Y : Iv} (h : Best p S X) (k : Best p T Y) (hs : ∀ r, S r → T r) : Sub X Y := by
 cases hy : Y.all
 ·right
  obtain ⟨k1, k2⟩ := k.on hy
  refine h.least _ _ k1 k2 fun r hr => ?_
  rcases k.has r (hs r hr) with h1 | h1
  ·rw [hy] at h1; cases h1
  ·exact h1
 ·exact .inl hy
theorem addI_best {x y : Iv} (hx : x.Valid) (hy : y.Valid) (xa : x.all = false) (ya : y.all = false) {p : Nat} (hp : 1 ≤ p) (hp2 : p ≤ 4096) :
  Best p (fun r => ∃ a b, x.has a ∧ y.has b ∧ r = a + b) (addI x y p) := by
 have A := rnd_dn (canon_sumD hx.canons.1 hy.canons.1) hp hp2
 have B := rnd_up (canon_sumD hx.canons.2 hy.canons.2) hp hp2
 rw [q_sum] at A B
 unfold addI madeI
 rw [xa, ya]
 simp only [Bool.or_self, Bool.false_eq_true, if_false]
 have has : ∀ r, (∃ a b, x.has a ∧ y.has b ∧ r = a + b) → x.lo.q + y.lo.q ≤ r ∧ r ≤ x.hi.q + y.hi.q := by
  rintro r ⟨a, b, ha, hb, rfl⟩
  rcases ha with ha | ha
  ·rw [xa] at ha; cases ha
  ·rcases hb with hb | hb
   ·rw [ya] at hb; cases hb
   ·grind
 have least : ∀ L U, G p L → G p U → (∀ r, (∃ a b, x.has a ∧ y.has b ∧ r = a + b) → L ≤ r ∧ r ≤ U) →
   (rndE (sumD x.lo y.lo) p false = 0 ∧ L ≤ (rndD (sumD x.lo y.lo) p false).q) ∧ rndE (sumD x.hi y.hi) p true = 0 ∧ (rndD (sumD x.hi y.hi) p true).q ≤ U := fun L U hL hU h =>
  ⟨A.2 L hL (h _ ⟨_, _, hx.has_lo, hy.has_lo, rfl⟩).1, B.2 U hU (h _ ⟨_, _, hx.has_hi, hy.has_hi, rfl⟩).2⟩
 split
 ·rename_i he
  refine ⟨fun _ _ => .inl rfl, fun h => absurd h (by decide), fun L U hL hU h => ?_⟩
  obtain ⟨⟨e1, _⟩, e2, _⟩ := least L U hL hU h
  rcases he with he | he
  ·exact absurd e1 he
  ·exact absurd e2 he
 ·rename_i he
  obtain ⟨a1, a2⟩ := A.1 (by omega)
  obtain ⟨b1, b2⟩ := B.1 (by omega)
  refine ⟨fun r hr => .inr ?_, fun _ => ⟨a1, b1⟩, fun L U hL hU h => ?_⟩
  ·obtain ⟨h1, h2⟩ := has r hr
   exact ⟨Rat.le_trans a2 h1, Rat.le_trans h2 b2⟩
  ·obtain ⟨⟨_, e1⟩, _, e2⟩ := least L U hL hU h
   exact ⟨rfl, e1, e2⟩
theorem addI_wh {x y : Iv} (p : Nat) (h : x.all = true ∨ y.all = true) : addI x y p = wholeI := by
 unfold addI
 rw [if_pos (by rcases h with h | h <;> rw [h] <;> simp)]
theorem addI_has {x y : Iv} (hx : x.Valid) (hy : y.Valid) {p : Nat} (hp : 1 ≤ p) (hp2 : p ≤ 4096) {a b : Rat} (ha : x.has a) (hb : y.has b) : (addI x y p).has (a + b) := by
 cases xa : x.all
 ·cases ya : y.all
  ·exact (addI_best hx hy xa ya hp hp2).has _ ⟨a, b, ha, hb, rfl⟩
  ·rw [addI_wh p (.inr ya)]; exact .inl rfl
 ·rw [addI_wh p (.inl xa)]; exact .inl rfl
theorem addI_sub {x y x' y' : Iv} (hx : x.Valid) (hy : y.Valid) (hx' : x'.Valid) (hy' : y'.Valid) {p : Nat} (hp : 1 ≤ p) (hp2 : p ≤ 4096) (h : Sub x x') (k : Sub y y') : Sub (addI x y p) (addI x' y' p) := by
 cases xa : x'.all
 ·cases ya : y'.all
  ·exact (addI_best hx hy (h.known xa).1 (k.known ya).1 hp hp2).sub (addI_best hx' hy' xa ya hp hp2) fun r ⟨a, b, ha, hb, e⟩ => ⟨a, b, h.has ha, k.has hb, e⟩
  ·rw [addI_wh p (.inr ya)]; exact .inl rfl
 ·rw [addI_wh p (.inl xa)]; exact .inl rfl
theorem negI_has {x : Iv} {a : Rat} (ha : x.has a) : (negI x).has (-a) := by
 unfold negI
 rcases ha with ha | ⟨h1, h2⟩
 ·rw [if_pos ha]; exact .inl rfl
 ·split
  ·exact .inl rfl
  ·refine .inr ⟨?_, ?_⟩
   ·show (negD x.hi).q ≤ _
    rw [q_neg]; grind
   ·show _ ≤ (negD x.lo).q
    rw [q_neg]; grind
theorem subI_has {x y : Iv} (hx : x.Valid) (hy : y.Valid) {p : Nat} (hp : 1 ≤ p) (hp2 : p ≤ 4096) {a b : Rat} (ha : x.has a) (hb : y.has b) : (subI x y p).has (a - b) := by
 rw [Rat.sub_eq_add_neg]; exact addI_has hx (negI_valid hy) hp hp2 ha (negI_has hb)
theorem four_best {p : Nat} {D : Dy → Dy → Bool → Dy} {E : Dy → Dy → Bool → Int} {f : Rat → Rat → Rat} {x y : Iv} {S : Rat → Prop}
  (hD : ∀ a b, (a = x.lo ∨ a = x.hi) → (b = y.lo ∨ b = y.hi) → Dn p (f a.q b.q) (D a b false) (E a b false) ∧ Up p (f a.q b.q) (D a b true) (E a b true) ∧ S (f a.q b.q))
  (hS : ∀ r, S r → (f x.lo.q y.lo.q ≤ r ∨ f x.lo.q y.hi.q ≤ r ∨ f x.hi.q y.lo.q ≤ r ∨ f x.hi.q y.hi.q ≤ r) ∧ (r ≤ f x.lo.q y.lo.q ∨ r ≤ f x.lo.q y.hi.q ∨ r ≤ f x.hi.q y.lo.q ∨ r ≤ f x.hi.q y.hi.q)) :
  Best p S (fourI D E x y) := by
 obtain ⟨a1, a2, a3⟩ := hD x.lo y.lo (.inl rfl) (.inl rfl)
 obtain ⟨b1, b2, b3⟩ := hD x.lo y.hi (.inl rfl) (.inr rfl)
 obtain ⟨c1, c2, c3⟩ := hD x.hi y.lo (.inr rfl) (.inl rfl)
 obtain ⟨d1, d2, d3⟩ := hD x.hi y.hi (.inr rfl) (.inr rfl)
 have least : ∀ L U, G p L → G p U → (∀ r, S r → L ≤ r ∧ r ≤ U) →
   ((E x.lo y.lo false = 0 ∧ L ≤ (D x.lo y.lo false).q) ∧ E x.lo y.lo true = 0 ∧ (D x.lo y.lo true).q ≤ U) ∧ ((E x.lo y.hi false = 0 ∧ L ≤ (D x.lo y.hi false).q) ∧ E x.lo y.hi true = 0 ∧ (D x.lo y.hi true).q ≤ U) ∧
   ((E x.hi y.lo false = 0 ∧ L ≤ (D x.hi y.lo false).q) ∧ E x.hi y.lo true = 0 ∧ (D x.hi y.lo true).q ≤ U) ∧ ((E x.hi y.hi false = 0 ∧ L ≤ (D x.hi y.hi false).q) ∧ E x.hi y.hi true = 0 ∧ (D x.hi y.hi true).q ≤ U) := fun L U hL hU h =>
  ⟨⟨a1.2 L hL (h _ a3).1, a2.2 U hU (h _ a3).2⟩, ⟨b1.2 L hL (h _ b3).1, b2.2 U hU (h _ b3).2⟩, ⟨c1.2 L hL (h _ c3).1, c2.2 U hU (h _ c3).2⟩, ⟨d1.2 L hL (h _ d3).1, d2.2 U hU (h _ d3).2⟩⟩
 unfold fourI
 split
 ·rename_i he
  obtain ⟨⟨e1, e2⟩, ⟨e3, e4⟩, ⟨e5, e6⟩, ⟨e7, e8⟩⟩ := he
  obtain ⟨ga, la⟩ := a1.1 e1
  obtain ⟨gA, lA⟩ := a2.1 e2
  obtain ⟨gb, lb⟩ := b1.1 e3
  obtain ⟨gB, lB⟩ := b2.1 e4
  obtain ⟨gc, lc⟩ := c1.1 e5
  obtain ⟨gC, lC⟩ := c2.1 e6
  obtain ⟨gd, ld⟩ := d1.1 e7
  obtain ⟨gD, lD⟩ := d2.1 e8
  obtain ⟨m1, m2, m3⟩ := q_min (D x.lo y.lo false) (D x.lo y.hi false)
  obtain ⟨m4, m5, m6⟩ := q_min (minD (D x.lo y.lo false) (D x.lo y.hi false)) (D x.hi y.lo false)
  obtain ⟨m7, m8, m9⟩ := q_min (minD (minD (D x.lo y.lo false) (D x.lo y.hi false)) (D x.hi y.lo false)) (D x.hi y.hi false)
  obtain ⟨n1, n2, n3⟩ := q_max (D x.lo y.lo true) (D x.lo y.hi true)
  obtain ⟨n4, n5, n6⟩ := q_max (maxD (D x.lo y.lo true) (D x.lo y.hi true)) (D x.hi y.lo true)
  obtain ⟨n7, n8, n9⟩ := q_max (maxD (maxD (D x.lo y.lo true) (D x.lo y.hi true)) (D x.hi y.lo true)) (D x.hi y.hi true)
  generalize (minD (D x.lo y.lo false) (D x.lo y.hi false)) = u1 at *
  generalize (minD u1 (D x.hi y.lo false)) = u2 at *
  generalize (minD u2 (D x.hi y.hi false)) = u3 at *
  generalize (maxD (D x.lo y.lo true) (D x.lo y.hi true)) = v1 at *
  generalize (maxD v1 (D x.hi y.lo true)) = v2 at *
  generalize (maxD v2 (D x.hi y.hi true)) = v3 at *
  refine ⟨fun r hr => .inr ?_, fun _ => ⟨?_, ?_⟩, fun L U hL hU h => ⟨rfl, ?_, ?_⟩⟩
  ·obtain ⟨h1, h2⟩ := hS r hr
   constructor
   ·show u3.q ≤ r
    rcases h1 with h1 | h1 | h1 | h1 <;> grind
   ·show r ≤ v3.q
    rcases h2 with h1 | h1 | h1 | h1 <;> grind
  ·show G p u3.q
   rcases m9 with h | h
   ·rw [h]; rcases m6 with h | h
    ·rw [h]; rcases m3 with h | h <;> rw [h] <;> assumption
    ·rw [h]; assumption
   ·rw [h]; assumption
  ·show G p v3.q
   rcases n9 with h | h
   ·rw [h]; rcases n6 with h | h
    ·rw [h]; rcases n3 with h | h <;> rw [h] <;> assumption
    ·rw [h]; assumption
   ·rw [h]; assumption
  ·obtain ⟨⟨⟨_, k1⟩, _, k2⟩, ⟨⟨_, k3⟩, _, k4⟩, ⟨⟨_, k5⟩, _, k6⟩, ⟨⟨_, k7⟩, _, k8⟩⟩ := least L U hL hU h
   show L ≤ u3.q
   rcases m9 with h | h
   ·rw [h]; rcases m6 with h | h
    ·rw [h]; rcases m3 with h | h <;> rw [h] <;> assumption
    ·rw [h]; assumption
   ·rw [h]; assumption
  ·obtain ⟨⟨⟨_, k1⟩, _, k2⟩, ⟨⟨_, k3⟩, _, k4⟩, ⟨⟨_, k5⟩, _, k6⟩, ⟨⟨_, k7⟩, _, k8⟩⟩ := least L U hL hU h
   show v3.q ≤ U
   rcases n9 with h | h
   ·rw [h]; rcases n6 with h | h
    ·rw [h]; rcases n3 with h | h <;> rw [h] <;> assumption
    ·rw [h]; assumption
   ·rw [h]; assumption
 ·rename_i he
  refine ⟨fun _ _ => .inl rfl, fun h => absurd h (by decide), fun L U hL hU h => ?_⟩
  obtain ⟨⟨⟨k1, _⟩, k2, _⟩, ⟨⟨k3, _⟩, k4, _⟩, ⟨⟨k5, _⟩, k6, _⟩, ⟨⟨k7, _⟩, k8, _⟩⟩ := least L U hL hU h
  exact absurd ⟨⟨k1, k2⟩, ⟨k3, k4⟩, ⟨k5, k6⟩, k7, k8⟩ he
theorem corners {a b c d x y : Rat} (h1 : a ≤ x) (h2 : x ≤ b) (h3 : c ≤ y) (h4 : y ≤ d) :
  (a * c ≤ x * y ∨ a * d ≤ x * y ∨ b * c ≤ x * y ∨ b * d ≤ x * y) ∧ (x * y ≤ a * c ∨ x * y ≤ a * d ∨ x * y ≤ b * c ∨ x * y ≤ b * d) := by
 have mono : ∀ {u v w : Rat}, u ≤ v → 0 ≤ w → u * w ≤ v * w := fun h k => Rat.mul_le_mul_of_nonneg_right h k
 have anti : ∀ {u v w : Rat}, u ≤ v → w ≤ 0 → v * w ≤ u * w := by
  intro u v w h k
  have := mono h (show 0 ≤ -w by grind)
  grind
 have side : ∀ t : Rat, (t * c ≤ t * y ∨ t * d ≤ t * y) ∧ (t * y ≤ t * c ∨ t * y ≤ t * d) := by
  intro t
  rw [Rat.mul_comm t c, Rat.mul_comm t d, Rat.mul_comm t y]
  rcases Rat.le_total (a := 0) (b := t) with h | h
  ·exact ⟨.inl (mono h3 h), .inr (mono h4 h)⟩
  ·exact ⟨.inr (anti h4 h), .inl (anti h3 h)⟩
 have sa := side a
 have sb := side b
 rcases Rat.le_total (a := 0) (b := y) with h | h
 ·have m1 := mono h1 h
  have m2 := mono h2 h
  clear mono anti side
  constructor
  ·rcases sa.1 with k | k <;> grind
  ·rcases sb.2 with k | k <;> grind
 ·have m1 := anti h1 h
  have m2 := anti h2 h
  clear mono anti side
  constructor
  ·rcases sb.1 with k | k <;> grind
  ·rcases sa.2 with k | k <;> grind
theorem Iv.has.ends {x : Iv} {r : Rat} (h : x.has r) (k : x.all = false) : x.lo.q ≤ r ∧ r ≤ x.hi.q := by
 rcases h with h | h
 ·rw [k] at h; cases h
 ·exact h
theorem canon_prodD (a b : Dy) : (prodD a b).Canon := canon_canon _ _ _
theorem mulI_best {x y : Iv} (hx : x.Valid) (hy : y.Valid) (xa : x.all = false) (ya : y.all = false) {p : Nat} (hp : 1 ≤ p) (hp2 : p ≤ 4096) :
  Best p (fun r => ∃ a b, x.has a ∧ y.has b ∧ r = a * b) (mulI x y p) := by
 unfold mulI
 rw [xa, ya]
 simp only [Bool.or_self, Bool.false_eq_true, if_false]
 refine four_best (f := fun a b => a * b) (fun a b ha hb => ⟨?_, ?_, a.q, b.q, ?_, ?_, rfl⟩) (fun r ⟨a, b, ha, hb, e⟩ => ?_)
 ·have := rnd_dn (canon_prodD a b) hp hp2; rwa [q_prod] at this
 ·have := rnd_up (canon_prodD a b) hp hp2; rwa [q_prod] at this
 ·rcases ha with rfl | rfl; exact hx.has_lo; exact hx.has_hi
 ·rcases hb with rfl | rfl; exact hy.has_lo; exact hy.has_hi
 ·obtain ⟨h1, h2⟩ := ha.ends xa
  obtain ⟨h3, h4⟩ := hb.ends ya
  rw [e]; exact corners h1 h2 h3 h4
theorem mulI_wh {x y : Iv} (p : Nat) (h : x.all = true ∨ y.all = true) : mulI x y p = wholeI := by
 unfold mulI
 rw [if_pos (by rcases h with h | h <;> rw [h] <;> simp)]
theorem mulI_has {x y : Iv} (hx : x.Valid) (hy : y.Valid) {p : Nat} (hp : 1 ≤ p) (hp2 : p ≤ 4096) {a b : Rat} (ha : x.has a) (hb : y.has b) : (mulI x y p).has (a * b) := by
 cases xa : x.all
 ·cases ya : y.all
  ·exact (mulI_best hx hy xa ya hp hp2).has _ ⟨a, b, ha, hb, rfl⟩
  ·rw [mulI_wh p (.inr ya)]; exact .inl rfl
 ·rw [mulI_wh p (.inl xa)]; exact .inl rfl
theorem mulI_sub {x y x' y' : Iv} (hx : x.Valid) (hy : y.Valid) (hx' : x'.Valid) (hy' : y'.Valid) {p : Nat} (hp : 1 ≤ p) (hp2 : p ≤ 4096) (h : Sub x x') (k : Sub y y') : Sub (mulI x y p) (mulI x' y' p) := by
 cases xa : x'.all
 ·cases ya : y'.all
  ·exact (mulI_best hx hy (h.known xa).1 (k.known ya).1 hp hp2).sub (mulI_best hx' hy' xa ya hp hp2) fun r ⟨a, b, ha, hb, e⟩ => ⟨a, b, h.has ha, k.has hb, e⟩
  ·rw [mulI_wh p (.inr ya)]; exact .inl rfl
 ·rw [mulI_wh p (.inl xa)]; exact .inl rfl
theorem inv_le {b c : Rat} (h0 : 0 < c) (h : c ≤ b) : b⁻¹ ≤ c⁻¹ := by
 have hb : 0 < b := by grind
 apply Rat.le_of_mul_le_mul_right (c := b * c) _ (Rat.mul_pos hb h0)
 have e1 : b⁻¹ * (b * c) = c := by rw [← Rat.mul_assoc, Rat.inv_mul_cancel _ (by grind), Rat.one_mul]
 have e2 : c⁻¹ * (b * c) = b := by rw [Rat.mul_comm b c, ← Rat.mul_assoc, Rat.inv_mul_cancel _ (by grind), Rat.one_mul]
 rw [e1, e2]; exact h
theorem neg_inv' (b : Rat) : (-b)⁻¹ = -b⁻¹ := by
 by_cases h : b = 0
 ·rw [h]; simp
 ·have h1 : (-b)⁻¹ * (-b) = 1 := Rat.inv_mul_cancel _ (by grind)
  have h2 : b⁻¹ * b = 1 := Rat.inv_mul_cancel _ h
  have h3 : (-b)⁻¹ * (-b) * b⁻¹ = b⁻¹ := by rw [h1, Rat.one_mul]
  grind
theorem inv_le_neg {b c : Rat} (h0 : b < 0) (h : c ≤ b) : b⁻¹ ≤ c⁻¹ := by
 have := inv_le (b := -c) (c := -b) (by grind) (by grind)
 rw [neg_inv', neg_inv'] at this
 grind
theorem sign_split {y : Iv} (_hy : y.Valid) (h : signI y ≠ 0) : y.all = false ∧ (0 < y.lo.q ∨ y.hi.q < 0) := by
 unfold signI at h
 cases ya : y.all
 ·rw [ya] at h
  simp only [Bool.false_eq_true, if_false] at h
  refine ⟨rfl, ?_⟩
  split at h
  ·rename_i h1; exact .inl ((q_sign _).1.1 h1)
  ·split at h
   ·rename_i h1; exact .inr ((q_sign _).2.1 h1)
   ·exact absurd rfl h
 ·rw [ya] at h; simp at h
theorem sign_of {y : Iv} (ya : y.all = false) (h : 0 < y.lo.q ∨ y.hi.q < 0) : signI y ≠ 0 := by
 unfold signI
 rw [ya]
 simp only [Bool.false_eq_true, if_false]
 rcases h with h | h
 ·rw [if_pos ((q_sign _).1.2 h)]; decide
 ·split
  ·decide
  ·rw [if_pos ((q_sign _).2.2 h)]; decide
theorem m_of_q {d : Dy} (h : d.q ≠ 0) : d.m ≠ 0 := by
 intro h0; apply h; rw [q_of, h0]; simp
theorem divI_best {x y : Iv} (hx : x.Valid) (hy : y.Valid) (xa : x.all = false) (hs : signI y ≠ 0) {p : Nat} (hp : 1 ≤ p) (hp2 : p ≤ 4096) :
  Best p (fun r => ∃ a b, x.has a ∧ y.has b ∧ r = a / b) (divI x y p) := by
 obtain ⟨ya, h0⟩ := sign_split hy hs
 have hle := hy.q
 unfold divI
 rw [xa, ya, decide_eq_false hs]
 simp only [Bool.or_self, Bool.false_eq_true, if_false]
 refine four_best (f := fun a b => a / b) (fun a b ha hb => ?_) (fun r ⟨a, b, ha, hb, e⟩ => ?_)
 ·have b0 : b.m ≠ 0 := m_of_q (by rcases hb with rfl | rfl <;> grind)
  obtain ⟨h1, h2⟩ := div_best (a := a) b0 hp hp2
  refine ⟨h1, h2, a.q, b.q, ?_, ?_, rfl⟩
  ·rcases ha with rfl | rfl; exact hx.has_lo; exact hx.has_hi
  ·rcases hb with rfl | rfl; exact hy.has_lo; exact hy.has_hi
 ·obtain ⟨h1, h2⟩ := ha.ends xa
  obtain ⟨h3, h4⟩ := hb.ends ya
  have i1 : y.hi.q⁻¹ ≤ b⁻¹ := by
   rcases h0 with h0 | h0
   ·exact inv_le (by grind) h4
   ·exact inv_le_neg (by grind) h4
  have i2 : b⁻¹ ≤ y.lo.q⁻¹ := by
   rcases h0 with h0 | h0
   ·exact inv_le h0 h3
   ·exact inv_le_neg (by grind) h3
  obtain ⟨k1, k2⟩ := corners h1 h2 i1 i2
  rw [e]
  simp only [Rat.div_def]
  exact ⟨by grind, by grind⟩
theorem divI_wh {x y : Iv} (p : Nat) (h : x.all = true ∨ signI y = 0) : divI x y p = wholeI := by
 unfold divI
 rw [if_pos (by rcases h with h | h <;> rw [h] <;> simp)]
theorem divI_has {x y : Iv} (hx : x.Valid) (hy : y.Valid) {p : Nat} (hp : 1 ≤ p) (hp2 : p ≤ 4096) {a b : Rat} (ha : x.has a) (hb : y.has b) : (divI x y p).has (a / b) := by
 cases xa : x.all
 ·by_cases hs : signI y = 0
  ·rw [divI_wh p (.inr hs)]; exact .inl rfl
  ·exact (divI_best hx hy xa hs hp hp2).has _ ⟨a, b, ha, hb, rfl⟩
 ·rw [divI_wh p (.inl xa)]; exact .inl rfl
theorem divI_sub {x y x' y' : Iv} (hx : x.Valid) (hy : y.Valid) (hx' : x'.Valid) (hy' : y'.Valid) {p : Nat} (hp : 1 ≤ p) (hp2 : p ≤ 4096) (h : Sub x x') (k : Sub y y') : Sub (divI x y p) (divI x' y' p) := by
 cases xa : x'.all
 ·by_cases hs : signI y' = 0
  ·rw [divI_wh p (.inr hs)]; exact .inl rfl
  ·obtain ⟨ya, h0⟩ := sign_split hy' hs
   obtain ⟨y1, y2, y3⟩ := k.known ya
   have hs1 : signI y ≠ 0 := sign_of y1 (by grind)
   exact (divI_best hx hy (h.known xa).1 hs1 hp hp2).sub (divI_best hx' hy' xa hs hp hp2) fun r ⟨a, b, ha, hb, e⟩ => ⟨a, b, h.has ha, k.has hb, e⟩
 ·rw [divI_wh p (.inl xa)]; exact .inl rfl
theorem magI_q {x : Iv} (h : x.lo.q ≤ x.hi.q) : x.hi.q ≤ (magI x).q ∧ -x.lo.q ≤ (magI x).q ∧ ((magI x).q = x.hi.q ∨ (magI x).q = -x.lo.q) := by
 obtain ⟨a1, a2, a3, a4⟩ := q_abs x.lo
 obtain ⟨b1, b2, b3, b4⟩ := q_abs x.hi
 obtain ⟨c1, c2, c3⟩ := q_max (absD x.lo) (absD x.hi)
 unfold magI
 generalize (maxD (absD x.lo) (absD x.hi)).q = M at *
 refine ⟨by grind, by grind, ?_⟩
 rcases c3 with c3 | c3
 ·rcases a4 with a4 | a4
  ·grind
  ·grind
 ·rcases b4 with b4 | b4
  ·grind
  ·grind
theorem magI_sub {x x' : Iv} (hx : x.Valid) (hx' : x'.Valid) (h : Sub x x') (xa : x'.all = false) : (magI x).q ≤ (magI x').q := by
 obtain ⟨h1, h2, h3⟩ := h.known xa
 obtain ⟨a1, a2, a3⟩ := magI_q hx.q
 obtain ⟨b1, b2, b3⟩ := magI_q hx'.q
 grind
theorem migI_q {x : Iv} (hx : x.Valid) (xa : x.all = false) : 0 ≤ (migI x).q ∧ (x.lo.q ≤ 0 → 0 ≤ x.hi.q → (migI x).q = 0) ∧ (0 < x.lo.q → (migI x).q = x.lo.q) ∧ (x.hi.q < 0 → (migI x).q = -x.hi.q) := by
 have hle := hx.q
 obtain ⟨a1, a2, a3, a4⟩ := q_abs x.lo
 obtain ⟨b1, b2, b3, b4⟩ := q_abs x.hi
 obtain ⟨c1, c2, c3⟩ := q_min (absD x.lo) (absD x.hi)
 by_cases hs : signI x = 0
 ·have hn : ¬ (0 < x.lo.q ∨ x.hi.q < 0) := fun h => sign_of xa h hs
  have : migI x = zeroD := by unfold migI; rw [if_pos hs]
  rw [this, q_zero]
  refine ⟨Rat.le_refl, fun _ _ => rfl, fun h => absurd (.inl h) hn, fun h => absurd (.inr h) hn⟩
 ·obtain ⟨_, h0⟩ := sign_split hx hs
  have : migI x = minD (absD x.lo) (absD x.hi) := by unfold migI; rw [if_neg hs]
  rw [this]
  generalize (minD (absD x.lo) (absD x.hi)).q = M at *
  generalize (absD x.lo).q = u at *
  generalize (absD x.hi).q = v at *
  refine ⟨by grind, by grind, by grind, by grind⟩
theorem absI_sub {x x' : Iv} (hx : x.Valid) (hx' : x'.Valid) (h : Sub x x') : Sub (absI x) (absI x') := by
 cases xa : x'.all
 ·obtain ⟨h1, h2, h3⟩ := h.known xa
  unfold absI
  rw [h1, xa]
  refine .inr ⟨rfl, ?_, magI_sub hx hx' h xa⟩
  show (migI x').q ≤ (migI x).q
  obtain ⟨a1, a2, a3, a4⟩ := migI_q hx h1
  obtain ⟨b1, b2, b3, b4⟩ := migI_q hx' xa
  have := hx.q
  by_cases c1 : 0 < x'.lo.q
  ·rw [b3 c1, a3 (by grind)]; exact h2
  ·by_cases c2 : x'.hi.q < 0
   ·rw [b4 c2, a4 (by grind)]; grind
   ·rw [b2 (by grind) (by grind)]; exact a1
 ·refine .inl ?_
  unfold absI; rw [if_pos xa]; rfl
theorem absI_has {x : Iv} (hx : x.Valid) {r s : Rat} (h : x.has r) (hs : s = r ∧ 0 ≤ r ∨ s = -r ∧ r ≤ 0) : (absI x).has s := by
 unfold absI
 cases xa : x.all
 ·obtain ⟨h1, h2⟩ := h.ends xa
  obtain ⟨a1, a2, a3⟩ := magI_q hx.q
  obtain ⟨b1, b2, b3, b4⟩ := migI_q hx xa
  refine .inr ⟨?_, ?_⟩
  ·show (migI x).q ≤ s
   by_cases c1 : 0 < x.lo.q
   ·rw [b3 c1]; grind
   ·by_cases c2 : x.hi.q < 0
    ·rw [b4 c2]; grind
    ·rw [b2 (by grind) (by grind)]; grind
  ·show s ≤ (magI x).q
   grind
 ·exact .inl rfl
theorem pointI_has (d : Dy) : (pointI d).has d.q := .inr ⟨Rat.le_refl, Rat.le_refl⟩
theorem numI_has (n : Int) : (numI n).has (n : Rat) := by have := pointI_has (intD n); rwa [q_intD] at this
end Go.Proofs.YtdppllbbgfekaaaGreatDoor.Fp
namespace Go.Proofs.YtdppllbbgfekaaaGreatDoor
open Go.RowKit Fp Pu
theorem elM_val {a : List (List Iv)} {n k : Nat} (ga : MOk a n k) (i j : Nat) : (elM a i j).Valid := elV ga i j
theorem elM_mul {a b : List (List Iv)} {n k c p : Nat} (ga : MOk a n k) (gb : MOk b k c) {i j : Nat} (hi : i < n) (hj : j < c) : elM (mulM a b p) i j = dotP (elM a i) (fun q => elM b q j) p (k - 1) := by
 have k1 := ga.k1
 rw [← wholeM_mulM (n := n) (k := k - 1) (c := c) (a := a) (b := b) (p := p) ga.rows (fun i hi => by rw [ga.len_at hi]; omega) (by rw [gb.rows]; omega) (gb.len_at (by omega))]
 unfold elM
 rw [wholeM_row hi, range_getD hj]
theorem elM_scale {a : List (List Iv)} {x : Iv} {n k p : Nat} (ga : MOk a n k) {i j : Nat} (hi : i < n) (hj : j < k) : elM (scaleM a x p) i j = mulI x (elM a i j) p := by
 rw [← wholeM_scaleM]
 unfold elM
 rw [wholeM_row (by rw [ga.rows]; exact hi), range_getD (by rw [ga.len_at hi]; exact hj)]
theorem elM_add {a b : List (List Iv)} {n k p : Nat} (ga : MOk a n k) (gb : MOk b n k) {i j : Nat} (hi : i < n) (hj : j < k) : elM (addM a b p) i j = addI (elM a i j) (elM b i j) p := by
 rw [← wholeM_addM ga gb]
 unfold elM
 rw [wholeM_row (by rw [ga.rows]; exact hi), range_getD (by rw [ga.len_at hi]; exact hj)]
theorem elM_ident {n i j : Nat} (hi : i < n) (hj : j < n) : elM (identM n) i j = pointI (if i = j then ⟨false, 1, 0⟩ else zeroD) := by
 unfold elM
 have : identM n = wholeM n (fun _ => n) (fun i j => pointI (if i = j then ⟨false, 1, 0⟩ else zeroD)) := rfl
 rw [this, wholeM_row hi, range_getD hj]
theorem elM_map {a : List (List Iv)} {n k : Nat} (ga : MOk a n k) (f : Iv → Iv) {i j : Nat} (hi : i < n) (hj : j < k) : elM (a.map fun r => r.map f) i j = f (elM a i j) := by
 have h1 := ga.rows
 have h2 := ga.len_at hi
 have e1 : (a.map fun r => r.map f).getD i [] = (a.getD i []).map f := by
  rw [List.getD_eq_getElem?_getD, List.getD_eq_getElem?_getD, List.getElem?_map, List.getElem?_eq_getElem (by omega)]; rfl
 unfold elM
 rw [e1]
 generalize a.getD i [] = r at *
 rw [List.getD_eq_getElem?_getD, List.getD_eq_getElem?_getD, List.getElem?_map, List.getElem?_eq_getElem (by omega)]; rfl
def SubM (n k : Nat) (a b : List (List Iv)) : Prop := ∀ i j, i < n → j < k → Sub (elM a i j) (elM b i j)
theorem dotP_sub {X Y X' Y' : Nat → Iv} {p : Nat} (hp : 1 ≤ p) (hp2 : p ≤ 4096) (hX : ∀ q, (X q).Valid) (hY : ∀ q, (Y q).Valid) (hX' : ∀ q, (X' q).Valid) (hY' : ∀ q, (Y' q).Valid) :
  ∀ k, (∀ q, q ≤ k → Sub (X q) (X' q)) → (∀ q, q ≤ k → Sub (Y q) (Y' q)) → Sub (dotP X Y p k) (dotP X' Y' p k)
 | 0, h1, h2 => mulI_sub (hX 0) (hY 0) (hX' 0) (hY' 0) hp hp2 (h1 0 (Nat.le_refl _)) (h2 0 (Nat.le_refl _))
 | k + 1, h1, h2 => addI_sub (dotP_valid X Y hp hp2 k) (mulI_valid _ _ hp hp2) (dotP_valid X' Y' hp hp2 k) (mulI_valid _ _ hp hp2) hp hp2
   (dotP_sub hp hp2 hX hY hX' hY' k (fun q hq => h1 q (by omega)) (fun q hq => h2 q (by omega))) (mulI_sub (hX _) (hY _) (hX' _) (hY' _) hp hp2 (h1 _ (Nat.le_refl _)) (h2 _ (Nat.le_refl _)))
theorem mulM_sub {a b a' b' : List (List Iv)} {n k c p : Nat} (ga : MOk a n k) (gb : MOk b k c) (ga' : MOk a' n k) (gb' : MOk b' k c) (hp : 1 ≤ p) (hp2 : p ≤ 4096) (h1 : SubM n k a a') (h2 : SubM k c b b') : SubM n c (mulM a b p) (mulM a' b' p) := by
 intro i j hi hj
 have k1 := ga.k1
 rw [elM_mul ga gb hi hj, elM_mul ga' gb' hi hj]
 exact dotP_sub hp hp2 (elM_val ga i) (fun q => elM_val gb q j) (elM_val ga' i) (fun q => elM_val gb' q j) _ (fun q hq => h1 i q hi (by omega)) (fun q hq => h2 q j (by omega) hj)
theorem scaleM_sub {a a' : List (List Iv)} {x x' : Iv} {n k p : Nat} (ga : MOk a n k) (ga' : MOk a' n k) (hx : x.Valid) (hx' : x'.Valid) (hp : 1 ≤ p) (hp2 : p ≤ 4096) (h1 : SubM n k a a') (h2 : Sub x x') : SubM n k (scaleM a x p) (scaleM a' x' p) := by
 intro i j hi hj
 rw [elM_scale ga hi hj, elM_scale ga' hi hj]
 exact mulI_sub hx (elM_val ga i j) hx' (elM_val ga' i j) hp hp2 h2 (h1 i j hi hj)
section
variable {m m' : List (List Iv)} {h h' : Iv} {n p : Nat}
theorem numI_val (j : Nat) (hj : j < 4294967296) : (numI ((j : Nat) : Int)).Valid := pointI_valid (intD_valid j hj)
theorem divh_sub (hh : h.Valid) (hh' : h'.Valid) (hp : 1 ≤ p) (hp2 : p ≤ 4096) (h2 : Sub h h') (j : Nat) (hj : j < 4294967296) : Sub (divI h (numI ((j : Nat) : Int)) p) (divI h' (numI ((j : Nat) : Int)) p) :=
 divI_sub hh (numI_val j hj) hh' (numI_val j hj) hp hp2 h2 (Sub.refl _)
theorem termM_sub (ga : MOk m n n) (ga' : MOk m' n n) (hh : h.Valid) (hh' : h'.Valid) (hp : 1 ≤ p) (hp2 : p ≤ 4096) (h1 : SubM n n m m') (h2 : Sub h h') : ∀ j, j < 4294967296 → SubM n n (termM m h p j) (termM m' h' p j)
 | 0, _ => by
  intro i j _ _
  unfold termM
  rw [ga.rows, ga'.rows]
  exact Sub.refl _
 | j + 1, hj => scaleM_sub (mulM_ok (termM_ok ga hp hp2 j) ga hp hp2) (mulM_ok (termM_ok ga' hp hp2 j) ga' hp hp2) (divI_valid _ _ hp hp2) (divI_valid _ _ hp hp2) hp hp2
   (mulM_sub (termM_ok ga hp hp2 j) ga (termM_ok ga' hp hp2 j) ga' hp hp2 (termM_sub ga ga' hh hh' hp hp2 h1 h2 j (by omega)) h1) (divh_sub hh hh' hp hp2 h2 (j + 1) hj)
end
theorem nsum_sub {r r' : List Iv} {p : Nat} (hp : 1 ≤ p) (hp2 : p ≤ 4096) (v : ∀ i, (r.getD i wholeI).Valid) (v' : ∀ i, (r'.getD i wholeI).Valid) : ∀ k, (∀ i, i < k → Sub (r.getD i wholeI) (r'.getD i wholeI)) → (∀ i, i < k → NGood r' p i) →
  (∀ i, i < k → NGood r p i) ∧ (nsum r p k).q ≤ (nsum r' p k).q
 | 0, _, _ => ⟨fun i hi => absurd hi (Nat.not_lt_zero i), Rat.le_refl⟩
 | k + 1, hs, hg => by
  obtain ⟨h1, h2⟩ := nsum_sub hp hp2 v v' k (fun i hi => hs i (by omega)) (fun i hi => hg i (by omega))
  obtain ⟨g1, g2⟩ := hg k (by omega)
  have s := hs k (by omega)
  have hm := magI_sub (v k) (v' k) s g1
  have mv : ∀ {x : Iv}, x.Valid → (magI x).Canon := fun h => maxD_canon (absD_canon h.canons.1) (absD_canon h.canons.2)
  have A := rnd_up (canon_sumD (nsum_valid r hp hp2 k).canon (mv (v k))) hp hp2
  have B := rnd_up (canon_sumD (nsum_valid r' hp hp2 k).canon (mv (v' k))) hp hp2
  rw [q_sum] at A B
  obtain ⟨b1, b2⟩ := B.1 g2
  obtain ⟨a1, a2⟩ := A.2 _ b1 (by grind)
  refine ⟨fun i hi => ?_, a2⟩
  rcases Nat.lt_or_eq_of_le (Nat.le_of_lt_succ hi) with h | h
  ·exact h1 i h
  ·subst h; exact ⟨(s.known g1).1, a1⟩
theorem nmost_max (m : List (List Iv)) (p x : Nat) : nmost m p (x + 1) = maxD (nmost m p x) (nsum (m.getD x []) p (m.getD x []).length) := rfl
theorem normM_sub {m m' : List (List Iv)} {n k p : Nat} (ga : MOk m n k) (ga' : MOk m' n k) (hp : 1 ≤ p) (hp2 : p ≤ 4096) (h1 : SubM n k m m') {N' : Dy} (hN : normM m' p = some N') :
  ∃ N, normM m p = some N ∧ N.q ≤ N'.q ∧ N = nmost m p n ∧ N' = nmost m' p n := by
 have good' : ∀ i, i < n → ∀ j, j < k → NGood (m'.getD i []) p j := by
  intro i hi j hj
  apply Classical.byContradiction
  intro hc
  rw [normM_none (i := i) (by rw [ga'.rows]; exact hi) (by rw [ga'.len_at hi]; exact hj) hc] at hN
  cases hN
 have row := fun i (hi : i < n) => nsum_sub (r := m.getD i []) (r' := m'.getD i []) hp hp2 (elM_val ga i) (elM_val ga' i) k (fun j hj => h1 i j hi hj) (good' i hi)
 have e' : normM m' p = some (nmost m' p n) := by
  rw [← ga'.rows]; exact normM_some fun i hi j hj => good' i (by rw [← ga'.rows]; exact hi) j (by rw [ga'.len_at (by rw [← ga'.rows]; exact hi)] at hj; exact hj)
 have e : normM m p = some (nmost m p n) := by
  rw [← ga.rows]; exact normM_some fun i hi j hj => (row i (by rw [← ga.rows]; exact hi)).1 j (by rw [ga.len_at (by rw [← ga.rows]; exact hi)] at hj; exact hj)
 rw [e'] at hN
 cases hN
 refine ⟨_, e, ?_, rfl, rfl⟩
 have : ∀ x, x ≤ n → (nmost m p x).q ≤ (nmost m' p x).q := by
  intro x
  induction x with
  | zero => intro _; exact Rat.le_refl
  | succ x ih =>
   intro hx
   have i1 := ih (by omega)
   have i2 := (row x (by omega)).2
   rw [nmost_max, nmost_max, ga.len_at (by omega), ga'.len_at (by omega)]
   obtain ⟨a1, a2, a3⟩ := q_max (nmost m p x) (nsum (m.getD x []) p k)
   obtain ⟨b1, b2, b3⟩ := q_max (nmost m' p x) (nsum (m'.getD x []) p k)
   grind
 exact this n (Nat.le_refl _)
theorem q_nn {d : Dy} (h : d.neg = false) : 0 ≤ d.q := by
 rw [q_of, h]; exact Rat.mul_nonneg (Rat.natCast_nonneg) (Rat.le_of_lt (P2_pos _))
structure Lq (x y : Iv) : Prop where
 v : x.Valid
 v' : y.Valid
 nn : x.NN
 nn' : y.NN
 le : y.all = true ∨ (x.all = false ∧ x.hi.q ≤ y.hi.q)
theorem Fp.Iv.has.nn {x : Iv} {r : Rat} (h : x.has r) (k : x.all = false) (hx : x.NN) : 0 ≤ r ∧ r ≤ x.hi.q := by
 obtain ⟨h1, h2⟩ := h.ends k
 have := q_nn hx.lo
 exact ⟨by grind, h2⟩
theorem G_zero (p : Nat) : G p 0 := .inl (GM_zero p)
theorem G_one {p : Nat} (hp : 1 ≤ p) : G p 1 := .inl ⟨1, 0, by rw [bitsN_one]; exact hp, by omega, by rw [bitsN_one]; omega, by rw [P2_zero]; simp⟩
theorem mulI_lq {x y x' y' : Iv} {p : Nat} (hp : 1 ≤ p) (hp2 : p ≤ 4096) (h : Lq x x') (k : Lq y y') : Lq (mulI x y p) (mulI x' y' p) := by
 refine ⟨mulI_valid _ _ hp hp2, mulI_valid _ _ hp hp2, mulI_nn h.nn k.nn p, mulI_nn h.nn' k.nn' p, ?_⟩
 rcases h.le with ha | ⟨h1, h2⟩
 ·rw [mulI_wh p (.inl ha)]; exact .inl rfl
 ·rcases k.le with ka | ⟨k1, k2⟩
  ·rw [mulI_wh p (.inr ka)]; exact .inl rfl
  ·cases xa : x'.all
   ·cases ya : y'.all
    ·cases za : (mulI x' y' p).all
     ·right
      have B' := mulI_best h.v' k.v' xa ya hp hp2
      obtain ⟨g1, g2⟩ := B'.on za
      have hU := (B'.has _ ⟨_, _, h.v'.has_hi, k.v'.has_hi, rfl⟩).ends za
      obtain ⟨b1, b2, b3⟩ := (mulI_best h.v k.v h1 k1 hp hp2).least 0 _ (G_zero p) g2 fun r ⟨a, b, ha, hb, e⟩ => by
       obtain ⟨a1, a2⟩ := ha.nn h1 h.nn
       obtain ⟨b1, b2⟩ := hb.nn k1 k.nn
       subst e
       refine ⟨Rat.mul_nonneg a1 b1, Rat.le_trans ?_ hU.2⟩
       exact Rat.le_trans (Rat.mul_le_mul_of_nonneg_right (Rat.le_trans a2 h2) b1) (Rat.mul_le_mul_of_nonneg_left (Rat.le_trans b2 k2) (Rat.le_trans a1 (Rat.le_trans a2 h2)))
      exact ⟨b1, b3⟩
     ·exact .inl rfl
    ·rw [mulI_wh p (.inr ya)]; exact .inl rfl
   ·rw [mulI_wh p (.inl xa)]; exact .inl rfl
theorem divI_lq {x y x' y' : Iv} {p : Nat} (hp : 1 ≤ p) (hp2 : p ≤ 4096) (h : Lq x x') (hy : y.Valid) (hy' : y'.Valid) (yn : y.NN) (yn' : y'.NN) (y0 : y'.all = false → 0 < y'.lo.q → y.all = false ∧ y'.lo.q ≤ y.lo.q) : Lq (divI x y p) (divI x' y' p) := by
 refine ⟨divI_valid _ _ hp hp2, divI_valid _ _ hp hp2, divI_nn h.nn yn p, divI_nn h.nn' yn' p, ?_⟩
 rcases h.le with ha | ⟨h1, h2⟩
 ·rw [divI_wh p (.inl ha)]; exact .inl rfl
 ·cases xa : x'.all
  ·by_cases hs : signI y' = 0
   ·rw [divI_wh p (.inr hs)]; exact .inl rfl
   ·obtain ⟨ya', hp'⟩ := sign_split hy' hs
    have l0 : 0 < y'.lo.q := by
     rcases hp' with h | h
     ·exact h
     ·have := q_nn yn'.hi; grind
    obtain ⟨ya, hle⟩ := y0 ya' l0
    cases za : (divI x' y' p).all
    ·right
     have B' := divI_best h.v' hy' xa hs hp hp2
     obtain ⟨g1, g2⟩ := B'.on za
     have hU := (B'.has _ ⟨_, _, h.v'.has_hi, hy'.has_lo, rfl⟩).ends za
     obtain ⟨b1, b2, b3⟩ := (divI_best h.v hy h1 (sign_of ya (.inl (by grind))) hp hp2).least 0 _ (G_zero p) g2 fun r ⟨a, b, ha, hb, e⟩ => by
      obtain ⟨a1, a2⟩ := ha.nn h1 h.nn
      obtain ⟨b1, b2⟩ := hb.ends ya
      subst e
      have hb0 : 0 < b := by grind
      have i1 : b⁻¹ ≤ y'.lo.q⁻¹ := inv_le l0 (by grind)
      have i0 : 0 ≤ b⁻¹ := Rat.le_of_lt (Rat.inv_pos.2 hb0)
      rw [Rat.div_def]
      rw [Rat.div_def] at hU
      refine ⟨Rat.mul_nonneg a1 i0, Rat.le_trans ?_ hU.2⟩
      exact Rat.le_trans (Rat.mul_le_mul_of_nonneg_right (Rat.le_trans a2 h2) i0) (Rat.mul_le_mul_of_nonneg_left i1 (Rat.le_trans a1 (Rat.le_trans a2 h2)))
     exact ⟨b1, b3⟩
    ·exact .inl rfl
  ·rw [divI_wh p (.inl xa)]; exact .inl rfl
theorem numI_q (c : Nat) : (numI ((c : Nat) : Int)).lo.q = (c : Rat) ∧ (numI ((c : Nat) : Int)).hi.q = (c : Rat) ∧ (numI ((c : Nat) : Int)).all = false := by
 refine ⟨?_, ?_, rfl⟩
 ·show (intD _).q = _
  rw [q_intD]; exact Rat.intCast_natCast c
 ·show (intD _).q = _
  rw [q_intD]; exact Rat.intCast_natCast c
theorem Lq.num (c : Nat) (hc : c < 4294967296) : Lq (numI ((c : Nat) : Int)) (numI ((c : Nat) : Int)) := ⟨numI_val c hc, numI_val c hc, numI_nn c, numI_nn c, .inr ⟨rfl, Rat.le_refl⟩⟩
theorem Lq.divn {x x' : Iv} {p : Nat} (hp : 1 ≤ p) (hp2 : p ≤ 4096) (h : Lq x x') (c : Nat) (hc : c < 4294967296) : Lq (divI x (numI ((c : Nat) : Int)) p) (divI x' (numI ((c : Nat) : Int)) p) :=
 divI_lq hp hp2 h (numI_val c hc) (numI_val c hc) (numI_nn c) (numI_nn c) fun _ _ => ⟨rfl, Rat.le_refl⟩
theorem powI_lq {u u' : Iv} {p : Nat} (hp : 1 ≤ p) (hp2 : p ≤ 4096) (h : Lq u u') : ∀ j, j < 4294967296 → Lq (powI u p j) (powI u' p j)
 | 0, _ => Lq.num 1 (by decide)
 | j + 1, hj => mulI_lq hp hp2 (powI_lq hp hp2 h j (by omega)) (Lq.divn hp hp2 h (j + 1) hj)
theorem one_sub {w w' : Iv} {p : Nat} (hp : 1 ≤ p) (hp2 : p ≤ 4096) (h : Lq w w') (h0 : (subI (numI 1) w' p).all = false) : (subI (numI 1) w p).all = false ∧ (subI (numI 1) w' p).lo.q ≤ (subI (numI 1) w p).lo.q := by
 have wa' : w'.all = false := by
  cases hw : w'.all
  ·rfl
  ·have : subI (numI 1) w' p = wholeI := addI_wh p (.inr (by unfold negI; rw [if_pos hw]; rfl))
   rw [this] at h0; cases h0
 obtain ⟨wa, hle⟩ : w.all = false ∧ w.hi.q ≤ w'.hi.q := by
  rcases h.le with h | h
  ·rw [h] at wa'; cases wa'
  ·exact h
 have nv := numI_val 1 (by decide)
 have na : ∀ {x : Iv}, x.all = false → (negI x).all = false := by intro x hx; unfold negI; rw [hx]; rfl
 have B' := addI_best nv (negI_valid h.v') rfl (na wa') hp hp2
 have B := addI_best nv (negI_valid h.v) rfl (na wa) hp hp2
 obtain ⟨g1, g2⟩ := B'.on h0
 have hL := (B'.has _ ⟨_, _, numI_has 1, negI_has h.v'.has_hi, rfl⟩).ends h0
 obtain ⟨b1, b2, b3⟩ := B.least _ 1 g1 (G_one hp) fun r ⟨a, b, ha, hb, e⟩ => by
  have e1 : a = 1 := by
   obtain ⟨q1, q2⟩ := ha.ends rfl
   obtain ⟨n1, n2, _⟩ := numI_q 1
   have o : ((1 : Nat) : Rat) = 1 := rfl
   rw [o] at n1 n2
   have n1' : (numI 1).lo.q = 1 := n1
   have n2' : (numI 1).hi.q = 1 := n2
   grind
  have hbn : b ≤ 0 ∧ -w.hi.q ≤ b := by
   have hb2 := hb.ends (na wa)
   have e2 : negI w = ⟨negD w.hi, negD w.lo, false⟩ := by unfold negI; rw [if_neg (by rw [wa]; decide)]
   rw [e2] at hb2
   have q1 := q_neg w.hi
   have q2 := q_neg w.lo
   have q3 := q_nn h.nn.lo
   simp only at hb2
   grind
  have o : ((1 : Int) : Rat) = 1 := rfl
  rw [o] at hL
  subst e e1
  refine ⟨Rat.le_trans hL.1 ?_, by grind⟩
  grind
 exact ⟨b1, b2⟩
theorem restI_sub {m m' : List (List Iv)} {h h' : Iv} {n k p : Nat} (ga : MOk m n n) (ga' : MOk m' n n) (hh : h.Valid) (hh' : h'.Valid) (hk : k < 1000) (hp : 1 ≤ p) (hp2 : p ≤ 4096) (h1 : SubM n n m m') (h2 : Sub h h') (ha : h'.all = false)
  {e' : Iv} (he : restI m' h' k p = some e') : ∃ e, restI m h k p = some e ∧ Sub e e' ∧ e.Valid ∧ e'.Valid := by
 unfold restI at he ⊢
 cases hN : normM m' p with
 | none => rw [hN] at he; cases he
 | some N' =>
  obtain ⟨N, eN, hle, d1, d2⟩ := normM_sub ga ga' hp hp2 h1 hN
  rw [hN] at he
  rw [eN]
  simp only [Option.bind_some] at he ⊢
  have nvN : N.Valid := by rw [d1]; exact nmost_valid m hp hp2 n
  have nvN' : N'.Valid := by rw [d2]; exact nmost_valid m' hp hp2 n
  have nnN : N.neg = false := by rw [d1]; exact nmost_nn m p n
  have nnN' : N'.neg = false := by rw [d2]; exact nmost_nn m' p n
  have L1 : Lq (absI h) (absI h') := by
   refine ⟨absI_valid hh, absI_valid hh', absI_nn h, absI_nn h', ?_⟩
   right
   obtain ⟨k1, _, _⟩ := h2.known ha
   unfold absI
   rw [k1, ha]
   exact ⟨rfl, magI_sub hh hh' h2 ha⟩
  have L2 : Lq (pointI N) (pointI N') := ⟨pointI_valid nvN, pointI_valid nvN', pointI_nn nnN, pointI_nn nnN', .inr ⟨rfl, hle⟩⟩
  have L3 := mulI_lq hp hp2 L1 L2
  generalize mulI (absI h) (pointI N) p = u at *
  generalize mulI (absI h') (pointI N') p = u' at *
  split at he
  ·cases he
  ·rename_i hc
   simp only [Bool.or_eq_true, decide_eq_true_eq, not_or, Int.not_le] at hc
   obtain ⟨c1, c2⟩ := hc
   have c1 : u'.all = false := by simpa using c1
   obtain ⟨ua, uh⟩ : u.all = false ∧ u.hi.q ≤ u'.hi.q := by
    rcases L3.le with h | h
    ·rw [h] at c1; cases c1
    ·exact h
   have c3 : cmpD u.hi (intD (k + 2 : Nat)) < 0 := by
    rw [q_lt] at c2 ⊢
    grind
   rw [if_neg (by rw [ua]; simp only [Bool.false_or, decide_eq_true_eq]; omega)]
   have L4 := powI_lq hp hp2 L3 (k + 1) (by omega)
   have L5 := Lq.divn hp hp2 L3 (k + 2) (by omega)
   have sv : ∀ w : Iv, w.Valid → (subI (numI 1) w p).Valid := fun w hw => addI_valid (numI_val 1 (by decide)) (negI_valid hw) hp hp2
   by_cases hz : (divI (powI u' p (k + 1)) (subI (numI 1) (divI u' (numI (k + 2 : Nat)) p) p) p).all = true
   ·simp only [hz, if_true] at he; cases he
   ·simp only [hz, if_false] at he
    cases he
    have hz : (divI (powI u' p (k + 1)) (subI (numI 1) (divI u' (numI (k + 2 : Nat)) p) p) p).all = false := by simpa using hz
    have hc0 := fun {x : Iv} (hx : x.NN) (hxa : x.all = false) (hlt : cmpD x.hi (intD (k + 2 : Nat)) < 0) => @rest_nn x
    have sn : signI (subI (numI 1) (divI u' (numI (k + 2 : Nat)) p) p) ≠ 0 := by
     intro hs; rw [divI_wh p (.inr hs)] at hz; cases hz
    obtain ⟨sa', sg'⟩ := sign_split (sv _ L5.v') sn
    obtain ⟨sa, sle⟩ := one_sub hp hp2 L5 sa'
    have pos' : 0 < (subI (numI 1) (divI u' (numI (k + 2 : Nat)) p) p).lo.q := by
     rcases sg' with h | h
     ·exact h
     ·exfalso
      have hu := L3.v'.has_hi
      have hd := divI_has L3.v' (numI_val (k + 2) (by omega)) hp hp2 hu (numI_has ((k + 2 : Nat) : Int))
      have hsub := (subI_has (numI_val 1 (by decide)) L5.v' hp hp2 (numI_has 1) hd).ends sa'
      have c4 := (q_lt _ _).1 c2
      rw [q_intD] at c4
      have : u'.hi.q / (((k + 2 : Nat) : Int) : Rat) ≤ 1 := by
       have hpos : (0 : Rat) < (((k + 2 : Nat) : Int) : Rat) := Rat.intCast_pos.2 (by omega)
       apply Rat.le_of_mul_le_mul_right (c := (((k + 2 : Nat) : Int) : Rat)) _ hpos
       rw [Rat.div_mul_cancel (by grind), Rat.one_mul]
       exact Rat.le_of_lt c4
      have o : ((1 : Int) : Rat) = 1 := rfl
      rw [o] at hsub
      grind
    have nn1 : ∀ {w : Iv}, w.Valid → w.all = false → 0 ≤ w.lo.q → w.NN := by
     intro w hw hwa h0
     have hw2 := hw.q
     rcases hw with ⟨h, _⟩ | ⟨_, v1, v2, _⟩
     ·rw [h] at hwa; cases hwa
     ·exact ⟨nn_of_sign v1.canon (by have := (q_sign w.lo).2; apply Classical.byContradiction; intro hc; have := this.1 (by omega); grind), nn_of_sign v2.canon (by have := (q_sign w.hi).2; apply Classical.byContradiction; intro hc; have := this.1 (by omega); grind)⟩
    have N1 := nn1 (sv _ L5.v') sa' (Rat.le_of_lt pos')
    have N2 := nn1 (sv _ L5.v) sa (by grind)
    have L6 := divI_lq hp hp2 L4 (sv _ L5.v) (sv _ L5.v') N2 N1 fun _ _ => ⟨sa, sle⟩
    generalize divI (powI u p (k + 1)) (subI (numI 1) (divI u (numI (k + 2 : Nat)) p) p) p = E at *
    generalize divI (powI u' p (k + 1)) (subI (numI 1) (divI u' (numI (k + 2 : Nat)) p) p) p = E' at *
    obtain ⟨ea, eh⟩ : E.all = false ∧ E.hi.q ≤ E'.hi.q := by
     rcases L6.le with h | h
     ·rw [h] at hz; cases hz
     ·exact h
    rw [if_neg (by rw [ea]; decide)]
    have val : ∀ {x : Iv}, x.Valid → x.NN → x.all = false → (⟨negD x.hi, x.hi, false⟩ : Iv).Valid := by
     intro x hx hn hxa
     rcases hx with ⟨h, _⟩ | ⟨_, v1, v2, _⟩
     ·rw [h] at hxa; cases hxa
     ·exact .inr ⟨rfl, negD_valid v2, v2, by rw [q_le, q_neg]; have := q_nn hn.hi; grind⟩
    refine ⟨_, rfl, .inr ⟨rfl, ?_, eh⟩, val L6.v L6.nn ea, val L6.v' L6.nn' hz⟩
    show (negD E'.hi).q ≤ (negD E.hi).q
    rw [q_neg, q_neg]; grind
end Go.Proofs.YtdppllbbgfekaaaGreatDoor
