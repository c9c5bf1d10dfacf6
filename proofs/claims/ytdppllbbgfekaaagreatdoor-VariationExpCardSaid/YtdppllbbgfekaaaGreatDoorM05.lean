/- Texts: Qh Qi Px Vb Vc Dp Vd No Nn Mk Qj Ve Vf Vg Qk Vh Vi. -/
import Derived.Test.YtdppllbbgfekaaaGreatDoorM04
set_option linter.unusedSimpArgs false
set_option linter.unusedVariables false
namespace Go.Proofs.YtdppllbbgfekaaaGreatDoor
open Go.RowKit Fp Pu
abbrev qha0 (x : Iv) (y : Iv) (p) := minD (rndD (prodD x.lo y.lo) p false) (rndD (prodD x.lo y.lo) p false)
abbrev qha1 (x : Iv) (y : Iv) (p) := maxD (rndD (prodD x.lo y.lo) p true) (rndD (prodD x.lo y.lo) p true)
set_option maxHeartbeats 2000000 in
theorem r5Prec_pc (p : Int) : PCt 99 [(iP p)] (bP (precB p)) := by
 exact tr true Tryz.call99 Tryz.func99 (.w (8 ≤ p)
  (fun k1 => chain [tB 4 (decide_eq_true k1)] <| rQ (bP (decide (p ≤ 512))) (bP (precB p)) (by simp [precB, k1]))
  (fun k1 => chain [tB 4 (decide_eq_false k1)] <| rQ (bP false) (bP (precB p)) (by simp [precB, k1]))) (by kernel_rfl)
set_option maxHeartbeats 2000000 in
theorem r5Whole_pc  : PCt 145 [] (ivP wholeI) := by
 exact tr true Tryz.call145 Tryz.func145 (chain [.o 1 (.e wholeP_le : PV.le (.e (.agg [(bP false), (.v (.slice none 0 0)), (iP 0), (bP false), (.v (.slice none 0 0)), (iP 0), (bP true)])) (.e (ivP wholeI)))] <| .nil) (by kernel_rfl)
set_option maxHeartbeats 2000000 in
theorem r5Point_pc (d : Dy) : PCt 39 [(dyP d)] (ivP (pointI d)) := by
 exact tr true Tryz.call39 Tryz.func39 (.nil) (by kernel_rfl)
set_option maxHeartbeats 2000000 in
theorem r5Zero_pc  : PCt 169 [(dyP zeroD)] (bP true) := by
 exact tr true Tryz.call169 Tryz.func169 (chain [tB 4 (rfl : zeroD.neg = false), tB 10 (natZ_true (limbs_len0.2 rfl) : ((((limbs zeroD.m).length : Nat) : Int) == 0) = true), tB 15 (rfl : (zeroD.e == 0) = true)] <| .nil) (by kernel_rfl)
set_option maxHeartbeats 2000000 in
theorem r5Valid_pc (x : Iv) (hx : x.Valid) : PCt 97 [(ivP x)] (bP true) := by
 by_cases hxa : x.all = true
 ·obtain ⟨h1, h2⟩ := ivOn hx hxa
  exact tr true Tryz.call97 Tryz.func97 (chain [tB 4 (hxa : x.all = true), .c (by rw [h1]; exact r5Zero_pc : PCt 169 [(dyP x.lo)] (bP true)), .c (by rw [h2]; exact r5Zero_pc : PCt 169 [(dyP x.hi)] (bP true))] <| .nil) (by kernel_rfl)
 ·replace hxa : x.all = false := by simpa using hxa
  obtain ⟨h1, h2, h3⟩ := ivOff hx hxa
  exact tr true Tryz.call97 Tryz.func97 (chain [tB 4 (hxa : x.all = false), .c (refValid_pc _ ‹_› : PCt 159 [(dyP x.lo)] _), .c (refValid_pc _ ‹_› : PCt 159 [(dyP x.hi)] _),
   .c (refCmp_pc x.lo x.hi (Fp.Dy.Valid.near ‹_›) (Fp.Dy.Valid.near ‹_›)), tB 27 (decide_eq_true h3)] <| .nil) (by kernel_rfl)
set_option maxHeartbeats 2000000 in
theorem r5Known_pc (x : Iv) (hx : x.Valid) : PCt 100 [(ivP x)] (bP (!x.all)) := by
 exact tr true Tryz.call100 Tryz.func100 (chain [.c (r5Valid_pc x ‹_›)] <| .nil) (by kernel_rfl)
set_option maxHeartbeats 2000000 in
theorem r5Made_pc (lo hi : Dy) (e f : Int) : PCt 157 [(dyP lo), (iP e), (dyP hi), (iP f)] (ivP (madeI lo e hi f)) := by
 exact tr true Tryz.call157 Tryz.func157 (.w (e = 0)
  (fun k1 => chain [tB 10 (bne_eq_false_iff_eq.2 k1)] <| .w (f = 0)
   (fun k2 => chain [tB 13 (bne_eq_false_iff_eq.2 k2)] <| rQ (ivP (Iv.mk lo hi false)) (ivP (madeI lo e hi f)) (by unfold madeI; simp [k1, k2]; try rfl))
   (fun k2 => chain [tB 13 (bne_iff_ne.2 k2), .c r5Whole_pc] <| rQ (ivP wholeI) (ivP (madeI lo e hi f)) (by unfold madeI; simp [k1, k2])))
  (fun k1 => chain [tB 10 (bne_iff_ne.2 k1), .c r5Whole_pc] <| rQ (ivP wholeI) (ivP (madeI lo e hi f)) (by unfold madeI; simp [k1]))) (by kernel_rfl)
set_option maxHeartbeats 2000000 in
theorem r5Add_pc (x y : Iv) (p : Nat) (hx : x.Valid) (hy : y.Valid) (hp1 : 8 ≤ p) (hp2 : p ≤ 512) : PCt 73 [(ivP x), (ivP y), (iP p)] (ivP (addI x y p)) := by
 exact tr true Tryz.call73 Tryz.func73 (chain [.c (r5Prec_pc (p : Int)), tB 12 (precB_true.2 ⟨by omega, by omega⟩ : (precB (p : Int)) = true), .c (r5Known_pc x ‹_›)] <| .w (x.all = true)
  (fun k1 => chain [tB 16 (bnt k1), .c r5Whole_pc] <| rQ (ivP wholeI) (ivP (addI x y p)) (by unfold addI; simp [k1]))
  (fun k1 => by
   have hh_ := ivOff hx (Bool.eq_false_iff.2 k1)
   have v1 := hh_.1
   have v2 := hh_.2.1
   have v3 := hh_.2.2
   exact chain [tB 16 (bnf (Bool.eq_false_iff.2 k1)), .c (r5Known_pc y ‹_›)] <| .w (y.all = true)
    (fun k2 => chain [tB 21 (bnt k2), .c r5Whole_pc] <| rQ (ivP wholeI) (ivP (addI x y p)) (by unfold addI; simp [k1, k2]))
    (fun k2 => by
     have hh_ := ivOff hy (Bool.eq_false_iff.2 k2)
     have v4 := hh_.1
     have v5 := hh_.2.1
     have v6 := hh_.2.2
     exact chain [tB 21 (bnf (Bool.eq_false_iff.2 k2)), .c (r3Add_pc x.lo y.lo p false ‹_› ‹_› (by omega) (by omega)), .c (r3Add_pc x.hi y.hi p true ‹_› ‹_› (by omega) (by omega)),
      .c (r5Made_pc (rndD (sumD x.lo y.lo) p false) (rndD (sumD x.hi y.hi) p true) (rndE (sumD x.lo y.lo) p false) (rndE (sumD x.hi y.hi) p true))] <| rQ (ivP (madeI (rndD (sumD x.lo y.lo) p false) (rndE (sumD x.lo y.lo) p false) (rndD (sumD x.hi y.hi) p true) (rndE (sumD x.hi y.hi) p true))) (ivP (addI x y p)) (by unfold addI; simp [k1, k2])))) (by kernel_rfl)
set_option maxHeartbeats 2000000 in
theorem r5Neg_pc (x : Iv) (hx : x.Valid) : PCt 156 [(ivP x)] (ivP (negI x)) := by
 exact tr true Tryz.call156 Tryz.func156 (chain [.c (r5Known_pc x ‹_›)] <| .w (x.all = true)
  (fun k1 => chain [tB 4 (bnt k1), .c r5Whole_pc] <| rQ (ivP wholeI) (ivP (negI x)) (by unfold negI; simp [k1]))
  (fun k1 => by
   have hh_ := ivOff hx (Bool.eq_false_iff.2 k1)
   have v1 := hh_.1
   have v2 := hh_.2.1
   have v3 := hh_.2.2
   exact chain [tB 4 (bnf (Bool.eq_false_iff.2 k1)), .c (refNeg_pc _ : PCt 72 [(dyP x.hi)] _), .c (refNeg_pc _ : PCt 72 [(dyP x.lo)] _)] <| rQ (ivP (Iv.mk (negD x.hi) (negD x.lo) false)) (ivP (negI x)) (by unfold negI; simp [k1]; try rfl))) (by kernel_rfl)
set_option maxHeartbeats 2000000 in
theorem r5Sub_pc (x y : Iv) (p : Nat) (hx : x.Valid) (hy : y.Valid) (hp1 : 8 ≤ p) (hp2 : p ≤ 512) : PCt 71 [(ivP x), (ivP y), (iP p)] (ivP (subI x y p)) := by
 exact tr true Tryz.call71 Tryz.func71 (chain [.c (r5Neg_pc y ‹_›), .c (r5Add_pc x (negI y) p ‹_› (negI_valid ‹_›) (by omega) (by omega))] <| .nil) (by kernel_rfl)
set_option maxHeartbeats 2000000 in
theorem r5Least_pc (a b : Dy) (ha : a.Valid) (hb : b.Valid) : PCt 148 [(dyP a), (dyP b)] (dyP (minD a b)) := by
 have hc := cmpD_neg a b
 exact tr true Tryz.call148 Tryz.func148 (chain [.c (refCmp_pc a b (Fp.Dy.Valid.near ‹_›) (Fp.Dy.Valid.near ‹_›))] <| .w ((cmpD a b) ≤ 0)
  (fun k1 => chain [tB 8 (decide_eq_true k1)] <| rQ (dyP a) (dyP (minD a b)) (by unfold minD; rw [if_neg (by omega)]))
  (fun k1 => chain [tB 8 (decide_eq_false k1)] <| rQ (dyP b) (dyP (minD a b)) (by unfold minD; rw [if_pos (by omega)]))) (by kernel_rfl)
set_option maxHeartbeats 2000000 in
theorem r5Most_pc (a b : Dy) (ha : a.Valid) (hb : b.Valid) : PCt 149 [(dyP a), (dyP b)] (dyP (maxD a b)) := by
 have hc := cmpD_neg a b
 exact tr true Tryz.call149 Tryz.func149 (chain [.c (refCmp_pc a b (Fp.Dy.Valid.near ‹_›) (Fp.Dy.Valid.near ‹_›))] <| .w (0 ≤ (cmpD a b))
  (fun k1 => chain [tB 8 (decide_eq_true k1)] <| rQ (dyP a) (dyP (maxD a b)) (by unfold maxD; rw [if_neg (by omega)]))
  (fun k1 => chain [tB 8 (decide_eq_false k1)] <| rQ (dyP b) (dyP (maxD a b)) (by unfold maxD; rw [if_pos (by omega)]))) (by kernel_rfl)
set_option maxHeartbeats 2000000 in
theorem r5Sign_pc (x : Iv) (hx : x.Valid) : PCt 144 [(ivP x)] (iP (signI x)) := by
 exact tr true Tryz.call144 Tryz.func144 (chain [.c (r5Known_pc x ‹_›)] <| .w (x.all = true)
  (fun k1 => chain [tB 4 (bnt k1)] <| rQ (iP 0) (iP (signI x)) (by unfold signI; simp [k1]))
  (fun k1 => by
   have hh_ := ivOff hx (Bool.eq_false_iff.2 k1)
   have v1 := hh_.1
   have v2 := hh_.2.1
   have v3 := hh_.2.2
   exact chain [tB 4 (bnf (Bool.eq_false_iff.2 k1)), .c (refSign_pc _ : PCt 153 [(dyP x.lo)] _)] <| .w (0 < (Dy.sign x.lo))
    (fun k2 => chain [tB 9 (decide_eq_true k2)] <| rQ (iP 1) (iP (signI x)) (by unfold signI; simp [k1, k2]))
    (fun k2 => chain [tB 9 (decide_eq_false k2), .c (refSign_pc _ : PCt 153 [(dyP x.hi)] _)] <| .w ((Dy.sign x.hi) < 0)
     (fun k3 => chain [tB 13 (decide_eq_true k3)] <| rQ (iP (-1)) (iP (signI x)) (by unfold signI; simp [k1, k2, k3]))
     (fun k3 => chain [tB 13 (decide_eq_false k3)] <| rQ (iP 0) (iP (signI x)) (by unfold signI; simp [k1, k2, k3]))))) (by kernel_rfl)
set_option maxHeartbeats 2000000 in
theorem r5Mag_pc (x : Iv) (hx : x.Valid) (hxa : x.all = false) : PCt 150 [(ivP x)] (dyP (magI x)) := by
 obtain ⟨v1, v2, v3⟩ := ivOff hx hxa
 exact tr true Tryz.call150 Tryz.func150 (chain [.c (refNeg_pc _ : PCt 72 [(dyP x.lo)] _), .c (r5Most_pc (negD x.lo) x.hi (negD_valid ‹_›) ‹_›)] <| rQ (dyP (maxD (negD x.lo) x.hi)) (dyP (magI x)) (by rw [mag_refS v1 v2 v3])) (by kernel_rfl)
set_option maxHeartbeats 2000000 in
theorem r5Mig_pc (x : Iv) (hx : x.Valid) (hxa : x.all = false) : PCt 152 [(ivP x)] (dyP (migI x)) := by
 obtain ⟨v1, v2, v3⟩ := ivOff hx hxa
 have hm := mig_refS hxa v1 v2 v3
 exact tr true Tryz.call152 Tryz.func152 (chain [.c (r5Sign_pc x ‹_›)] <| .w ((signI x) = 0)
  (fun k1 => chain [tB 5 (beq_iff_eq.2 k1), .o 6 (.e zeroP_le : PV.le (.e (.agg [(bP false), (.v (.slice none 0 0)), (iP 0)])) (.e (dyP zeroD)))] <| rQ (dyP zeroD) (dyP (migI x)) (by rw [hm, if_pos k1]))
  (fun k1 => chain [tB 5 (beq_eq_false_iff_ne.2 k1), .c (refNeg_pc _ : PCt 72 [(dyP x.hi)] _), .c (r5Most_pc x.lo (negD x.hi) ‹_› (negD_valid ‹_›))] <| rQ (dyP (maxD x.lo (negD x.hi))) (dyP (migI x)) (by rw [hm, if_neg k1]))) (by kernel_rfl)
set_option maxHeartbeats 2000000 in
theorem r5Abs_pc (x : Iv) (hx : x.Valid) : PCt 68 [(ivP x)] (ivP (absI x)) := by
 exact tr true Tryz.call68 Tryz.func68 (chain [.c (r5Known_pc x ‹_›)] <| .w (x.all = true)
  (fun k1 => chain [tB 4 (bnt k1), .c r5Whole_pc] <| rQ (ivP wholeI) (ivP (absI x)) (by unfold absI; simp [k1]))
  (fun k1 => by
   have hh_ := ivOff hx (Bool.eq_false_iff.2 k1)
   have v1 := hh_.1
   have v2 := hh_.2.1
   have v3 := hh_.2.2
   exact chain [tB 4 (bnf (Bool.eq_false_iff.2 k1)), .c (r5Mig_pc x ‹_› (Bool.eq_false_iff.2 ‹_›)), .c (r5Mag_pc x ‹_› (Bool.eq_false_iff.2 ‹_›))] <| rQ (ivP (Iv.mk (migI x) (magI x) false)) (ivP (absI x)) (by unfold absI; simp [k1]; try rfl))) (by kernel_rfl)
theorem r5Ends_pc (x y : Iv) : PCt 146 [(ivP x), (ivP y)] (.sl true 4 6 fun i_ j_ => (dyL x.lo ++ dyL y.lo ++ dyL x.lo ++ dyL y.hi ++ dyL x.hi ++ dyL y.lo ++ dyL x.hi ++ dyL y.hi).getD (i_ * 6 + j_) (.v (.bool false))) := by
 exact tr true Tryz.call146 Tryz.func146 (.nil) (by kernel_rfl)
set_option maxHeartbeats 2000000 in
theorem r5Mul_pc (x y : Iv) (p : Nat) (hx : x.Valid) (hy : y.Valid) (hp1 : 8 ≤ p) (hp2 : p ≤ 512) : PCt 67 [(ivP x), (ivP y), (iP p)] (ivP (mulI x y p)) := by
 exact tr true Tryz.call67 Tryz.func67 (chain [.c (r5Prec_pc (p : Int)), tB 15 (precB_true.2 ⟨by omega, by omega⟩ : (precB (p : Int)) = true), .c (r5Known_pc x ‹_›)] <| .w (x.all = true)
  (fun k1 => chain [tB 19 (bnt k1), .c r5Whole_pc] <| rQ (ivP wholeI) (ivP (mulI x y p)) (by unfold mulI; simp [k1]))
  (fun k1 => by
   have hh_ := ivOff hx (Bool.eq_false_iff.2 k1)
   have v1 := hh_.1
   have v2 := hh_.2.1
   have v3 := hh_.2.2
   exact chain [tB 19 (bnf (Bool.eq_false_iff.2 k1)), .c (r5Known_pc y ‹_›)] <| .w (y.all = true)
    (fun k2 => chain [tB 24 (bnt k2), .c r5Whole_pc] <| rQ (ivP wholeI) (ivP (mulI x y p)) (by unfold mulI; simp [k1, k2]))
    (fun k2 => by
     have hh_ := ivOff hy (Bool.eq_false_iff.2 k2)
     have v4 := hh_.1
     have v5 := hh_.2.1
     have v6 := hh_.2.2
     exact chain [tB 24 (bnf (Bool.eq_false_iff.2 k2)), .c (r5Ends_pc x y), .u 70, tB 32 (by decide : (decide ((0 : Int) < 4)) = true), iX (0) (4) (by omega), iX (0) (2) (by omega), iX (0) (4) (by omega), iX (1) (2) (by omega),
      .c (r3Mul_pc x.lo y.lo p false ‹_› ‹_› (by omega) (by omega)), iX (0) (4) (by omega), iX (0) (2) (by omega), iX (0) (4) (by omega), iX (1) (2) (by omega),
      .c (r3Mul_pc x.lo y.lo p true ‹_› ‹_› (by omega) (by omega))] <| .w ((rndE (prodD x.lo y.lo) p false) = 0)
      (fun k3 => chain [tB 66 (bne_eq_false_iff_eq.2 k3)] <| .w ((rndE (prodD x.lo y.lo) p true) = 0)
       (fun k4 => chain [tB 69 (bne_eq_false_iff_eq.2 k4), tB 73 (by decide : ((0 : Int) == 0) = true),
        .c (r5Least_pc (rndD (prodD x.lo y.lo) p false) (rndD (prodD x.lo y.lo) p false) (cut_valid _ _ _ _ _ _ (by omega) (by omega)) (cut_valid _ _ _ _ _ _ (by omega) (by omega))),
        .c (r5Most_pc (rndD (prodD x.lo y.lo) p true) (rndD (prodD x.lo y.lo) p true) (cut_valid _ _ _ _ _ _ (by omega) (by omega)) (cut_valid _ _ _ _ _ _ (by omega) (by omega))), r64 (0 + 1) (by omega), .k [9, 69, 68, 8, 7, 6, 2] [8, 6],
        tB 32 (by decide : (decide (((0 + 1) : Int) < 4)) = true), iX ((0 + 1)) (4) (by omega), iX (0) (2) (by omega), iX ((0 + 1)) (4) (by omega), iX (1) (2) (by omega),
        .c (r3Mul_pc x.lo y.hi p false ‹_› ‹_› (by omega) (by omega)), iX ((0 + 1)) (4) (by omega), iX (0) (2) (by omega), iX ((0 + 1)) (4) (by omega), iX (1) (2) (by omega),
        .c (r3Mul_pc x.lo y.hi p true ‹_› ‹_› (by omega) (by omega))] <| .w ((rndE (prodD x.lo y.hi) p false) = 0)
        (fun k5 => chain [tB 66 (bne_eq_false_iff_eq.2 k5)] <| .w ((rndE (prodD x.lo y.hi) p true) = 0)
         (fun k6 => chain [tB 69 (bne_eq_false_iff_eq.2 k6), tB 73 (by decide : (((0 + 1) : Int) == 0) = false),
          .c (r5Least_pc (qha0 x y p) (rndD (prodD x.lo y.hi) p false) (minD_valid (cut_valid _ _ _ _ _ _ (by omega) (by omega)) (cut_valid _ _ _ _ _ _ (by omega) (by omega))) (cut_valid _ _ _ _ _ _ (by omega) (by omega))),
          .c (r5Most_pc (qha1 x y p) (rndD (prodD x.lo y.hi) p true) (maxD_valid (cut_valid _ _ _ _ _ _ (by omega) (by omega)) (cut_valid _ _ _ _ _ _ (by omega) (by omega))) (cut_valid _ _ _ _ _ _ (by omega) (by omega))),
          r64 ((0 + 1) + 1) (by omega), .k [9, 69, 68, 8, 7, 6, 2] [8, 6], tB 32 (by decide : (decide ((((0 + 1) + 1) : Int) < 4)) = true), iX (((0 + 1) + 1)) (4) (by omega), iX (0) (2) (by omega), iX (((0 + 1) + 1)) (4) (by omega),
          iX (1) (2) (by omega), .c (r3Mul_pc x.hi y.lo p false ‹_› ‹_› (by omega) (by omega)), iX (((0 + 1) + 1)) (4) (by omega), iX (0) (2) (by omega), iX (((0 + 1) + 1)) (4) (by omega), iX (1) (2) (by omega),
          .c (r3Mul_pc x.hi y.lo p true ‹_› ‹_› (by omega) (by omega))] <| .w ((rndE (prodD x.hi y.lo) p false) = 0)
          (fun k7 => chain [tB 66 (bne_eq_false_iff_eq.2 k7)] <| .w ((rndE (prodD x.hi y.lo) p true) = 0)
           (fun k8 => chain [tB 69 (bne_eq_false_iff_eq.2 k8), tB 73 (by decide : ((((0 + 1) + 1) : Int) == 0) = false),
            .c (r5Least_pc (minD (qha0 x y p) (rndD (prodD x.lo y.hi) p false)) (rndD (prodD x.hi y.lo) p false) (minD_valid (minD_valid (cut_valid _ _ _ _ _ _ (by omega) (by omega)) (cut_valid _ _ _ _ _ _ (by omega) (by omega))) (cut_valid _ _ _ _ _ _ (by omega) (by omega))) (cut_valid _ _ _ _ _ _ (by omega) (by omega))),
            .c (r5Most_pc (maxD (qha1 x y p) (rndD (prodD x.lo y.hi) p true)) (rndD (prodD x.hi y.lo) p true) (maxD_valid (maxD_valid (cut_valid _ _ _ _ _ _ (by omega) (by omega)) (cut_valid _ _ _ _ _ _ (by omega) (by omega))) (cut_valid _ _ _ _ _ _ (by omega) (by omega))) (cut_valid _ _ _ _ _ _ (by omega) (by omega))),
            r64 (((0 + 1) + 1) + 1) (by omega), .k [9, 69, 68, 8, 7, 6, 2] [8, 6], tB 32 (by decide : (decide (((((0 + 1) + 1) + 1) : Int) < 4)) = true), iX ((((0 + 1) + 1) + 1)) (4) (by omega), iX (0) (2) (by omega),
            iX ((((0 + 1) + 1) + 1)) (4) (by omega), iX (1) (2) (by omega), .c (r3Mul_pc x.hi y.hi p false ‹_› ‹_› (by omega) (by omega)), iX ((((0 + 1) + 1) + 1)) (4) (by omega), iX (0) (2) (by omega),
            iX ((((0 + 1) + 1) + 1)) (4) (by omega), iX (1) (2) (by omega), .c (r3Mul_pc x.hi y.hi p true ‹_› ‹_› (by omega) (by omega))] <| .w ((rndE (prodD x.hi y.hi) p false) = 0)
            (fun k9 => chain [tB 66 (bne_eq_false_iff_eq.2 k9)] <| .w ((rndE (prodD x.hi y.hi) p true) = 0)
             (fun k10 => chain [tB 69 (bne_eq_false_iff_eq.2 k10), tB 73 (by decide : (((((0 + 1) + 1) + 1) : Int) == 0) = false),
              .c (r5Least_pc (minD (minD (qha0 x y p) (rndD (prodD x.lo y.hi) p false)) (rndD (prodD x.hi y.lo) p false)) (rndD (prodD x.hi y.hi) p false) (minD_valid (minD_valid (minD_valid (cut_valid _ _ _ _ _ _ (by omega) (by omega)) (cut_valid _ _ _ _ _ _ (by omega) (by omega))) (cut_valid _ _ _ _ _ _ (by omega) (by omega))) (cut_valid _ _ _ _ _ _ (by omega) (by omega))) (cut_valid _ _ _ _ _ _ (by omega) (by omega))),
              .c (r5Most_pc (maxD (maxD (qha1 x y p) (rndD (prodD x.lo y.hi) p true)) (rndD (prodD x.hi y.lo) p true)) (rndD (prodD x.hi y.hi) p true) (maxD_valid (maxD_valid (maxD_valid (cut_valid _ _ _ _ _ _ (by omega) (by omega)) (cut_valid _ _ _ _ _ _ (by omega) (by omega))) (cut_valid _ _ _ _ _ _ (by omega) (by omega))) (cut_valid _ _ _ _ _ _ (by omega) (by omega))) (cut_valid _ _ _ _ _ _ (by omega) (by omega))),
              r64 ((((0 + 1) + 1) + 1) + 1) (by omega), .k [9, 69, 68, 8, 7, 6, 2] [8, 6], tB 32 (by decide : (decide ((((((0 + 1) + 1) + 1) + 1) : Int) < 4)) = false)] <| rR (ivP (mulI x y p)) (by
      exact .of_eq (by
       unfold mulI; rw [if_neg (by simp [k1, k2])]
       rw [show fourI _ _ x y = _ from if_pos ⟨⟨k3, k4⟩, ⟨k5, k6⟩, ⟨k7, k8⟩, ⟨k9, k10⟩⟩]
       rw [minD_self, maxD_self]; try rfl) : E.le (ivP (Iv.mk (minD (minD (minD (minD (rndD (prodD x.lo y.lo) p false) (rndD (prodD x.lo y.lo) p false)) (rndD (prodD x.lo y.hi) p false)) (rndD (prodD x.hi y.lo) p false)) (rndD (prodD x.hi y.hi) p false)) (maxD (maxD (maxD (maxD (rndD (prodD x.lo y.lo) p true) (rndD (prodD x.lo y.lo) p true)) (rndD (prodD x.lo y.hi) p true)) (rndD (prodD x.hi y.lo) p true)) (rndD (prodD x.hi y.hi) p true)) false)) (ivP (mulI x y p))))
             (fun k10 => chain [tB 69 (bne_iff_ne.2 k10), .c r5Whole_pc] <| rR (ivP (mulI x y p)) (by
      exact .of_eq (by
       unfold mulI; rw [if_neg (by simp [k1, k2])]
       rw [show fourI _ _ x y = _ from if_neg (by rintro ⟨⟨_, _⟩, ⟨_, _⟩, ⟨_, _⟩, ⟨_, q⟩⟩; exact k10 q)]) : E.le (ivP wholeI) (ivP (mulI x y p)))))
            (fun k9 => chain [tB 66 (bne_iff_ne.2 k9), .c r5Whole_pc] <| rR (ivP (mulI x y p)) (by
      exact .of_eq (by
       unfold mulI; rw [if_neg (by simp [k1, k2])]
       rw [show fourI _ _ x y = _ from if_neg (by rintro ⟨⟨_, _⟩, ⟨_, _⟩, ⟨_, _⟩, ⟨q, _⟩⟩; exact k9 q)]) : E.le (ivP wholeI) (ivP (mulI x y p)))))
           (fun k8 => chain [tB 69 (bne_iff_ne.2 k8), .c r5Whole_pc] <| rR (ivP (mulI x y p)) (by
      exact .of_eq (by
       unfold mulI; rw [if_neg (by simp [k1, k2])]
       rw [show fourI _ _ x y = _ from if_neg (by rintro ⟨⟨_, _⟩, ⟨_, _⟩, ⟨_, q⟩, ⟨_, _⟩⟩; exact k8 q)]) : E.le (ivP wholeI) (ivP (mulI x y p)))))
          (fun k7 => chain [tB 66 (bne_iff_ne.2 k7), .c r5Whole_pc] <| rR (ivP (mulI x y p)) (by
      exact .of_eq (by
       unfold mulI; rw [if_neg (by simp [k1, k2])]
       rw [show fourI _ _ x y = _ from if_neg (by rintro ⟨⟨_, _⟩, ⟨_, _⟩, ⟨q, _⟩, ⟨_, _⟩⟩; exact k7 q)]) : E.le (ivP wholeI) (ivP (mulI x y p)))))
         (fun k6 => chain [tB 69 (bne_iff_ne.2 k6), .c r5Whole_pc] <| rR (ivP (mulI x y p)) (by
      exact .of_eq (by
       unfold mulI; rw [if_neg (by simp [k1, k2])]
       rw [show fourI _ _ x y = _ from if_neg (by rintro ⟨⟨_, _⟩, ⟨_, q⟩, ⟨_, _⟩, ⟨_, _⟩⟩; exact k6 q)]) : E.le (ivP wholeI) (ivP (mulI x y p)))))
        (fun k5 => chain [tB 66 (bne_iff_ne.2 k5), .c r5Whole_pc] <| rR (ivP (mulI x y p)) (by
      exact .of_eq (by
       unfold mulI; rw [if_neg (by simp [k1, k2])]
       rw [show fourI _ _ x y = _ from if_neg (by rintro ⟨⟨_, _⟩, ⟨q, _⟩, ⟨_, _⟩, ⟨_, _⟩⟩; exact k5 q)]) : E.le (ivP wholeI) (ivP (mulI x y p)))))
       (fun k4 => chain [tB 69 (bne_iff_ne.2 k4), .c r5Whole_pc] <| rR (ivP (mulI x y p)) (by
      exact .of_eq (by
       unfold mulI; rw [if_neg (by simp [k1, k2])]
       rw [show fourI _ _ x y = _ from if_neg (by rintro ⟨⟨_, q⟩, ⟨_, _⟩, ⟨_, _⟩, ⟨_, _⟩⟩; exact k4 q)]) : E.le (ivP wholeI) (ivP (mulI x y p)))))
      (fun k3 => chain [tB 66 (bne_iff_ne.2 k3), .c r5Whole_pc] <| rR (ivP (mulI x y p)) (by
      exact .of_eq (by
       unfold mulI; rw [if_neg (by simp [k1, k2])]
       rw [show fourI _ _ x y = _ from if_neg (by rintro ⟨⟨q, _⟩, ⟨_, _⟩, ⟨_, _⟩, ⟨_, _⟩⟩; exact k3 q)]) : E.le (ivP wholeI) (ivP (mulI x y p))))))) (by kernel_rfl)
set_option maxHeartbeats 2000000 in
theorem r5Div_pc (x y : Iv) (p : Nat) (hx : x.Valid) (hy : y.Valid) (hp1 : 8 ≤ p) (hp2 : p ≤ 512) : PCt 62 [(ivP x), (ivP y), (iP p)] (ivP (divI x y p)) := by
 exact tr true Tryz.call62 Tryz.func62 (chain [.c (r5Prec_pc (p : Int)), tB 15 (precB_true.2 ⟨by omega, by omega⟩ : (precB (p : Int)) = true), .c (r5Known_pc x ‹_›)] <| .w (x.all = true)
  (fun k1 => chain [tB 19 (bnt k1), .c r5Whole_pc] <| rQ (ivP wholeI) (ivP (divI x y p)) (by unfold divI; simp [k1]))
  (fun k1 => by
   have hh_ := ivOff hx (Bool.eq_false_iff.2 k1)
   have v1 := hh_.1
   have v2 := hh_.2.1
   have v3 := hh_.2.2
   exact chain [tB 19 (bnf (Bool.eq_false_iff.2 k1)), .c (r5Known_pc y ‹_›)] <| .w (y.all = true)
    (fun k2 => chain [tB 24 (bnt k2), .c r5Whole_pc] <| rQ (ivP wholeI) (ivP (divI x y p)) (by unfold divI; simp [k1, k2]))
    (fun k2 => by
     have hh_ := ivOff hy (Bool.eq_false_iff.2 k2)
     have v4 := hh_.1
     have v5 := hh_.2.1
     have v6 := hh_.2.2
     exact chain [tB 24 (bnf (Bool.eq_false_iff.2 k2)), .c (r5Sign_pc y ‹_›)] <| .w ((signI y) = 0)
      (fun k3 => chain [tB 30 (beq_iff_eq.2 k3), .c r5Whole_pc] <| rQ (ivP wholeI) (ivP (divI x y p)) (by unfold divI; simp [k1, k2, k3]))
      (fun k3 => by
       have y0 := sign_ends hy k3
       exact chain [tB 30 (beq_eq_false_iff_ne.2 k3), .c (r5Ends_pc x y), .u 70, tB 37 (by decide : (decide ((0 : Int) < 4)) = true), iX (0) (4) (by omega), iX (0) (2) (by omega), iX (0) (4) (by omega), iX (1) (2) (by omega),
        .c (r3Div_pc x.lo y.lo p false ‹_› ‹_› y0.1 (by omega) (by omega)), iX (0) (4) (by omega), iX (0) (2) (by omega), iX (0) (4) (by omega), iX (1) (2) (by omega),
        .c (r3Div_pc x.lo y.lo p true ‹_› ‹_› y0.1 (by omega) (by omega))] <| .w ((divE x.lo y.lo p false) = 0)
        (fun k4 => chain [tB 71 (bne_eq_false_iff_eq.2 k4)] <| .w ((divE x.lo y.lo p true) = 0)
         (fun k5 => chain [tB 74 (bne_eq_false_iff_eq.2 k5), tB 78 (by decide : ((0 : Int) == 0) = true), .c (r5Least_pc (divD x.lo y.lo p false) (divD x.lo y.lo p false) (div_validD (by omega) (by omega)) (div_validD (by omega) (by omega))),
          .c (r5Most_pc (divD x.lo y.lo p true) (divD x.lo y.lo p true) (div_validD (by omega) (by omega)) (div_validD (by omega) (by omega))), r64 (0 + 1) (by omega), .k [9, 74, 73, 8, 7, 6, 2] [8, 6],
          tB 37 (by decide : (decide (((0 + 1) : Int) < 4)) = true), iX ((0 + 1)) (4) (by omega), iX (0) (2) (by omega), iX ((0 + 1)) (4) (by omega), iX (1) (2) (by omega),
          .c (r3Div_pc x.lo y.hi p false ‹_› ‹_› y0.2 (by omega) (by omega)), iX ((0 + 1)) (4) (by omega), iX (0) (2) (by omega), iX ((0 + 1)) (4) (by omega), iX (1) (2) (by omega),
          .c (r3Div_pc x.lo y.hi p true ‹_› ‹_› y0.2 (by omega) (by omega))] <| .w ((divE x.lo y.hi p false) = 0)
          (fun k6 => chain [tB 71 (bne_eq_false_iff_eq.2 k6)] <| .w ((divE x.lo y.hi p true) = 0)
           (fun k7 => chain [tB 74 (bne_eq_false_iff_eq.2 k7), tB 78 (by decide : (((0 + 1) : Int) == 0) = false),
            .c (r5Least_pc (minD (divD x.lo y.lo p false) (divD x.lo y.lo p false)) (divD x.lo y.hi p false) (minD_valid (div_validD (by omega) (by omega)) (div_validD (by omega) (by omega))) (div_validD (by omega) (by omega))),
            .c (r5Most_pc (maxD (divD x.lo y.lo p true) (divD x.lo y.lo p true)) (divD x.lo y.hi p true) (maxD_valid (div_validD (by omega) (by omega)) (div_validD (by omega) (by omega))) (div_validD (by omega) (by omega))),
            r64 ((0 + 1) + 1) (by omega), .k [9, 74, 73, 8, 7, 6, 2] [8, 6], tB 37 (by decide : (decide ((((0 + 1) + 1) : Int) < 4)) = true), iX (((0 + 1) + 1)) (4) (by omega), iX (0) (2) (by omega), iX (((0 + 1) + 1)) (4) (by omega),
            iX (1) (2) (by omega), .c (r3Div_pc x.hi y.lo p false ‹_› ‹_› y0.1 (by omega) (by omega)), iX (((0 + 1) + 1)) (4) (by omega), iX (0) (2) (by omega), iX (((0 + 1) + 1)) (4) (by omega), iX (1) (2) (by omega),
            .c (r3Div_pc x.hi y.lo p true ‹_› ‹_› y0.1 (by omega) (by omega))] <| .w ((divE x.hi y.lo p false) = 0)
            (fun k8 => chain [tB 71 (bne_eq_false_iff_eq.2 k8)] <| .w ((divE x.hi y.lo p true) = 0)
             (fun k9 => chain [tB 74 (bne_eq_false_iff_eq.2 k9), tB 78 (by decide : ((((0 + 1) + 1) : Int) == 0) = false),
              .c (r5Least_pc (minD (minD (divD x.lo y.lo p false) (divD x.lo y.lo p false)) (divD x.lo y.hi p false)) (divD x.hi y.lo p false) (minD_valid (minD_valid (div_validD (by omega) (by omega)) (div_validD (by omega) (by omega))) (div_validD (by omega) (by omega))) (div_validD (by omega) (by omega))),
              .c (r5Most_pc (maxD (maxD (divD x.lo y.lo p true) (divD x.lo y.lo p true)) (divD x.lo y.hi p true)) (divD x.hi y.lo p true) (maxD_valid (maxD_valid (div_validD (by omega) (by omega)) (div_validD (by omega) (by omega))) (div_validD (by omega) (by omega))) (div_validD (by omega) (by omega))),
              r64 (((0 + 1) + 1) + 1) (by omega), .k [9, 74, 73, 8, 7, 6, 2] [8, 6], tB 37 (by decide : (decide (((((0 + 1) + 1) + 1) : Int) < 4)) = true), iX ((((0 + 1) + 1) + 1)) (4) (by omega), iX (0) (2) (by omega),
              iX ((((0 + 1) + 1) + 1)) (4) (by omega), iX (1) (2) (by omega), .c (r3Div_pc x.hi y.hi p false ‹_› ‹_› y0.2 (by omega) (by omega)), iX ((((0 + 1) + 1) + 1)) (4) (by omega), iX (0) (2) (by omega),
              iX ((((0 + 1) + 1) + 1)) (4) (by omega), iX (1) (2) (by omega), .c (r3Div_pc x.hi y.hi p true ‹_› ‹_› y0.2 (by omega) (by omega))] <| .w ((divE x.hi y.hi p false) = 0)
              (fun k10 => chain [tB 71 (bne_eq_false_iff_eq.2 k10)] <| .w ((divE x.hi y.hi p true) = 0)
               (fun k11 => chain [tB 74 (bne_eq_false_iff_eq.2 k11), tB 78 (by decide : (((((0 + 1) + 1) + 1) : Int) == 0) = false),
                .c (r5Least_pc (minD (minD (minD (divD x.lo y.lo p false) (divD x.lo y.lo p false)) (divD x.lo y.hi p false)) (divD x.hi y.lo p false)) (divD x.hi y.hi p false) (minD_valid (minD_valid (minD_valid (div_validD (by omega) (by omega)) (div_validD (by omega) (by omega))) (div_validD (by omega) (by omega))) (div_validD (by omega) (by omega))) (div_validD (by omega) (by omega))),
                .c (r5Most_pc (maxD (maxD (maxD (divD x.lo y.lo p true) (divD x.lo y.lo p true)) (divD x.lo y.hi p true)) (divD x.hi y.lo p true)) (divD x.hi y.hi p true) (maxD_valid (maxD_valid (maxD_valid (div_validD (by omega) (by omega)) (div_validD (by omega) (by omega))) (div_validD (by omega) (by omega))) (div_validD (by omega) (by omega))) (div_validD (by omega) (by omega))),
                r64 ((((0 + 1) + 1) + 1) + 1) (by omega), .k [9, 74, 73, 8, 7, 6, 2] [8, 6], tB 37 (by decide : (decide ((((((0 + 1) + 1) + 1) + 1) : Int) < 4)) = false)] <| rR (ivP (divI x y p)) (by
      exact .of_eq (by
       unfold divI; rw [if_neg (by simp [k1, k2, k3])]
       rw [show fourI _ _ x y = _ from if_pos ⟨⟨k4, k5⟩, ⟨k6, k7⟩, ⟨k8, k9⟩, ⟨k10, k11⟩⟩]
       rw [minD_self, maxD_self]; try rfl) : E.le (ivP (Iv.mk (minD (minD (minD (minD (divD x.lo y.lo p false) (divD x.lo y.lo p false)) (divD x.lo y.hi p false)) (divD x.hi y.lo p false)) (divD x.hi y.hi p false)) (maxD (maxD (maxD (maxD (divD x.lo y.lo p true) (divD x.lo y.lo p true)) (divD x.lo y.hi p true)) (divD x.hi y.lo p true)) (divD x.hi y.hi p true)) false)) (ivP (divI x y p))))
               (fun k11 => chain [tB 74 (bne_iff_ne.2 k11), .c r5Whole_pc] <| rR (ivP (divI x y p)) (by
      exact .of_eq (by
       unfold divI; rw [if_neg (by simp [k1, k2, k3])]
       rw [show fourI _ _ x y = _ from if_neg (by rintro ⟨⟨_, _⟩, ⟨_, _⟩, ⟨_, _⟩, ⟨_, q⟩⟩; exact k11 q)]) : E.le (ivP wholeI) (ivP (divI x y p)))))
              (fun k10 => chain [tB 71 (bne_iff_ne.2 k10), .c r5Whole_pc] <| rR (ivP (divI x y p)) (by
      exact .of_eq (by
       unfold divI; rw [if_neg (by simp [k1, k2, k3])]
       rw [show fourI _ _ x y = _ from if_neg (by rintro ⟨⟨_, _⟩, ⟨_, _⟩, ⟨_, _⟩, ⟨q, _⟩⟩; exact k10 q)]) : E.le (ivP wholeI) (ivP (divI x y p)))))
             (fun k9 => chain [tB 74 (bne_iff_ne.2 k9), .c r5Whole_pc] <| rR (ivP (divI x y p)) (by
      exact .of_eq (by
       unfold divI; rw [if_neg (by simp [k1, k2, k3])]
       rw [show fourI _ _ x y = _ from if_neg (by rintro ⟨⟨_, _⟩, ⟨_, _⟩, ⟨_, q⟩, ⟨_, _⟩⟩; exact k9 q)]) : E.le (ivP wholeI) (ivP (divI x y p)))))
            (fun k8 => chain [tB 71 (bne_iff_ne.2 k8), .c r5Whole_pc] <| rR (ivP (divI x y p)) (by
      exact .of_eq (by
       unfold divI; rw [if_neg (by simp [k1, k2, k3])]
       rw [show fourI _ _ x y = _ from if_neg (by rintro ⟨⟨_, _⟩, ⟨_, _⟩, ⟨q, _⟩, ⟨_, _⟩⟩; exact k8 q)]) : E.le (ivP wholeI) (ivP (divI x y p)))))
           (fun k7 => chain [tB 74 (bne_iff_ne.2 k7), .c r5Whole_pc] <| rR (ivP (divI x y p)) (by
      exact .of_eq (by
       unfold divI; rw [if_neg (by simp [k1, k2, k3])]
       rw [show fourI _ _ x y = _ from if_neg (by rintro ⟨⟨_, _⟩, ⟨_, q⟩, ⟨_, _⟩, ⟨_, _⟩⟩; exact k7 q)]) : E.le (ivP wholeI) (ivP (divI x y p)))))
          (fun k6 => chain [tB 71 (bne_iff_ne.2 k6), .c r5Whole_pc] <| rR (ivP (divI x y p)) (by
      exact .of_eq (by
       unfold divI; rw [if_neg (by simp [k1, k2, k3])]
       rw [show fourI _ _ x y = _ from if_neg (by rintro ⟨⟨_, _⟩, ⟨q, _⟩, ⟨_, _⟩, ⟨_, _⟩⟩; exact k6 q)]) : E.le (ivP wholeI) (ivP (divI x y p)))))
         (fun k5 => chain [tB 74 (bne_iff_ne.2 k5), .c r5Whole_pc] <| rR (ivP (divI x y p)) (by
      exact .of_eq (by
       unfold divI; rw [if_neg (by simp [k1, k2, k3])]
       rw [show fourI _ _ x y = _ from if_neg (by rintro ⟨⟨_, q⟩, ⟨_, _⟩, ⟨_, _⟩, ⟨_, _⟩⟩; exact k5 q)]) : E.le (ivP wholeI) (ivP (divI x y p)))))
        (fun k4 => chain [tB 71 (bne_iff_ne.2 k4), .c r5Whole_pc] <| rR (ivP (divI x y p)) (by
      exact .of_eq (by
       unfold divI; rw [if_neg (by simp [k1, k2, k3])]
       rw [show fourI _ _ x y = _ from if_neg (by rintro ⟨⟨q, _⟩, ⟨_, _⟩, ⟨_, _⟩, ⟨_, _⟩⟩; exact k4 q)]) : E.le (ivP wholeI) (ivP (divI x y p)))))))) (by kernel_rfl)
open Go.RowKit Fp Pu
def r7ValidOY (m : List (List RI)) (x : Nat) : PS := ⟨61, true, [(3, .e (iP x)), (0, .e (rmatP m))], []⟩
def r7ValidI (m : List (List RI)) (x : Nat) (y : Nat) : PS := ⟨61, true, [(4, .e (iP y)), (3, .e (iP x)), (0, .e (rmatP m))], []⟩
def r7ValidOL (m : List (List RI)) (N : Nat) (x : Nat) : PS := ⟨61, true, [(3, .e (iP x)), (0, .e (rmatP m))], []⟩
def r7ValidOE (m : List (List RI)) (N J : Nat) (x : Nat) : PS := ⟨61, true, [(3, .e (iP x)), (0, .e (rmatP m))], []⟩
def r7ValidJ (m : List (List RI)) (N J : Nat) (y : Nat) : PS := ⟨61, true, [(4, .e (iP y)), (3, .e (iP N)), (0, .e (rmatP m))], []⟩
theorem natEq0 (L : List Nat) : ((L.length : Int) = 0) ↔ L = [] := by rw [← List.length_eq_zero_iff]; omega
def zB (d : RD) : Bool := !d.neg && decide (d.L = []) && (d.e == 0)
theorem zB_true {d : RD} : zB d = true ↔ d.Zero := by simp [zB, RD.Zero, and_assoc]
set_option maxHeartbeats 2000000 in
theorem r5ZeroR_pc (d : RD) : PCt 169 [(rdP d)] (bP (zB d)) := by
 exact tr true Tryz.call169 Tryz.func169 (.w (d.neg = true)
  (fun k1 => chain [tB 4 (k1)] <| rQ (bP false) (bP (zB d)) (by simp [zB, k1]))
  (fun k1 => chain [tB 4 (Bool.eq_false_iff.2 k1)] <| .w ((d.L.length : Int) = 0)
   (fun k2 => chain [tB 10 (beq_iff_eq.2 k2)] <| rQ (bP (d.e == 0)) (bP (zB d)) (by simp [zB, k1, show d.L = [] from (natEq0 _).1 k2]))
   (fun k2 => chain [tB 10 (beq_eq_false_iff_ne.2 k2)] <| rQ (bP false) (bP (zB d)) (by simp [zB, k1, show ¬ d.L = [] from fun q => k2 ((natEq0 _).2 q)])))) (by kernel_rfl)
noncomputable def dOkB (d : RD) : Bool := @decide d.Ok (Classical.propDecidable _)
theorem dOkB_true {d : RD} : dOkB d = true ↔ d.Ok := @decide_eq_true_iff _ (Classical.propDecidable _)
theorem r5ValidR_yes (x : RI) (g : x.Good) (h : x.Ok) : PCt 97 [riP x] (bP true) := by
 have := r5Valid_pc x.iv h.valid
 rwa [← ivP_raw, h.eq g] at this
set_option maxHeartbeats 2000000 in
theorem r5ValidR_no (x : RI) (g : x.Good) (h : ¬ x.Ok) : PCt 97 [(riP x)] (bP false) := by
 have ga := g.lo
 have gb := g.hi
 by_cases ha : x.all = true
 ·exact tr true Tryz.call97 Tryz.func97 (chain [tB 4 (ha : x.all = true), .c (r5ZeroR_pc x.lo)] <| .w (zB x.lo = true)
   (fun k1 => chain [tB 7 (k1), .c (r5ZeroR_pc x.hi)] <| rQ (bP (zB x.hi)) (bP false) (by rw [show zB x.hi = false from Bool.eq_false_iff.2 fun q => h (.inl ⟨ha, zB_true.1 k1, zB_true.1 q⟩)]))
   (fun k1 => chain [tB 7 (Bool.eq_false_iff.2 k1)] <| .nil)) (by kernel_rfl)
 ·replace ha : x.all = false := by simpa using ha
  by_cases h1 : x.lo.Ok
  ·by_cases h2 : x.hi.Ok
   ·have h3 : ¬ cmpD x.lo.dy x.hi.dy ≤ 0 := fun q => h (.inr ⟨ha, h1, h2, q⟩)
    have v1 := h1.valid
    have v2 := h2.valid
    have e1 : riP x = ivP x.iv := by rw [← ivP_raw, show x.iv.raw = x by show RI.mk x.lo.dy.raw x.hi.dy.raw x.all = x; rw [h1.eq ga, h2.eq gb]]
    rw [e1]
    exact tr true Tryz.call97 Tryz.func97 (chain [tB 4 (ha : x.iv.all = false), .c (refValid_pc _ ‹_› : PCt 159 [(dyP x.iv.lo)] _), .c (refValid_pc _ ‹_› : PCt 159 [(dyP x.iv.hi)] _),
     .c (refCmp_pc x.iv.lo x.iv.hi (Fp.Dy.Valid.near ‹_›) (Fp.Dy.Valid.near ‹_›)), tB 27 (decide_eq_false h3)] <| .nil) (by kernel_rfl)
   ·exact tr true Tryz.call97 Tryz.func97 (chain [tB 4 (ha : x.all = false), .c (refValidR_pc _ ‹_› _ dOkB_true : PCt 159 [(rdP x.lo)] _), tB 15 (dOkB_true.2 h1 : (dOkB x.lo) = true), .c (refValidR_pc _ ‹_› _ dOkB_true : PCt 159 [(rdP x.hi)] _),
     tB 19 (Bool.eq_false_iff.2 fun q => h2 (dOkB_true.1 q) : (dOkB x.hi) = false)] <| .nil) (by kernel_rfl)
  ·exact tr true Tryz.call97 Tryz.func97 (chain [tB 4 (ha : x.all = false), .c (refValidR_pc _ ‹_› _ dOkB_true : PCt 159 [(rdP x.lo)] _), tB 15 (Bool.eq_false_iff.2 fun q => h1 (dOkB_true.1 q) : (dOkB x.lo) = false)] <| .nil) (by kernel_rfl)
theorem r5ValidR_pc (x : RI) (g : x.Good) : PCt 97 [riP x] (bP (okB x)) := by
 by_cases h : x.Ok
 ·rw [okB_true.2 h]; exact r5ValidR_yes x g h
 ·rw [show okB x = false by simpa using fun q => h (okB_true.1 q)]; exact r5ValidR_no x g h
set_option maxHeartbeats 2000000 in
theorem r7Valid_Y (m : List (List RI)) (g : MGood m) (hl : m.length ≤ 1000000) (hrows : ∀ i, (m.getD i []).length ≤ 1000000) (n1 : 1 ≤ m.length) (n8 : m.length ≤ 8) (k1 : 1 ≤ (m.getD 0 []).length) (k8 : (m.getD 0 []).length ≤ 8) (hrow : ∀ i, i < m.length → (m.getD i []).length = (m.getD 0 []).length) (hok : ∀ i, i < m.length → ∀ j, j < (m.getD i []).length → okB ((m.getD i []).getD j rwhole) = true) : PCt 96 [(rmatP m)] (bP true) := by
 exact tr true Tryz.call96 Tryz.func96 (chain [tF 7 ((m.length : Int) < 1) (by omega), tF 11 (8 < (m.length : Int)) (by omega), iX (0) (m.length) (by omega), tF 18 ((((m.getD 0 []).length : Nat) : Int) < 1) (by omega), iX (0) (m.length) (by omega),
  tF 25 (8 < (((m.getD 0 []).length : Nat) : Int)) (by omega),
  .s (Sp.upto (r7ValidOY m) 0 m.length (by omega) (fun x hx hltx => by
    have hlx := hrows x
    exact spt (chain [tT 30 ((x : Int) < (m.length : Int)) (by omega), iX ((x : Int)) (m.length) (by omega), iX (0) (m.length) (by omega),
     tB 42 (natNe_false (hrow x (by omega)) : ((((m.getD x []).length : Nat) : Int) != (((m.getD 0 []).length : Nat) : Int)) = false),
     .s (Sp.upto (r7ValidI m x) 0 ((m.getD x []).length) (by omega) (fun y hy hlty => by
    exact spt (chain [iX ((x : Int)) (m.length) (by omega), tT 49 ((y : Int) < (((m.getD x []).length : Nat) : Int)) (by omega), iX ((x : Int)) (m.length) (by omega), iX ((y : Int)) ((m.getD x []).length) (by omega),
     .c (r5ValidR_pc _ (by first | assumption | exact g.at _ _) : PCt 97 [(riP ((m.getD x []).getD y rwhole))] _), tB 59 (hok x (by omega) y (by omega) : (okB ((m.getD x []).getD y rwhole)) = true), r64 ((y : Int) + 1) (by omega)] <| .nil) (by kernel_rfl))
  (fun hy => by
    exact spt (chain [iX ((x : Int)) (m.length) (by omega), tF 49 ((((m.getD x []).length : Nat) : Int) < (((m.getD x []).length : Nat) : Int)) (by omega)] <| .nil) (by kernel_rfl)) (by nofun) : LpT 9 Tryz.f96 (r7ValidI m x 0) (.exit 2) ⟨61, true, [(3, .e (iP x)), (0, .e (rmatP m))], []⟩) .nil,
     r64 ((x : Int) + 1) (by omega)] <| .nil) (by kernel_rfl))
  (fun hx => by
    exact spt (chain [tF 30 ((m.length : Int) < (m.length : Int)) (by omega)] <| .nil) (by kernel_rfl)) (by nofun) : LpT 4 Tryz.f96 (r7ValidOY m 0) (.exit 0) ⟨61, true, [], []⟩) .nil] <| .nil) (by kernel_rfl)
set_option maxHeartbeats 2000000 in
theorem r7Valid_L (m : List (List RI)) (g : MGood m) (hl : m.length ≤ 1000000) (hrows : ∀ i, (m.getD i []).length ≤ 1000000) (n1 : 1 ≤ m.length) (n8 : m.length ≤ 8) (k1 : 1 ≤ (m.getD 0 []).length) (k8 : (m.getD 0 []).length ≤ 8) (N : Nat) (hN : N < m.length) (hrow : ∀ i, i < N → (m.getD i []).length = (m.getD 0 []).length) (hok : ∀ i, i < N → ∀ j, j < (m.getD i []).length → okB ((m.getD i []).getD j rwhole) = true) (hbad : (m.getD N []).length ≠ (m.getD 0 []).length) : PCt 96 [(rmatP m)] (bP false) := by
 exact tr true Tryz.call96 Tryz.func96 (chain [tF 7 ((m.length : Int) < 1) (by omega), tF 11 (8 < (m.length : Int)) (by omega), iX (0) (m.length) (by omega), tF 18 ((((m.getD 0 []).length : Nat) : Int) < 1) (by omega), iX (0) (m.length) (by omega),
  tF 25 (8 < (((m.getD 0 []).length : Nat) : Int)) (by omega),
  .s (Sp.upto (r7ValidOL m N) 0 N (by omega) (fun x hx hltx => by
    have hlx := hrows x
    exact spt (chain [tT 30 ((x : Int) < (m.length : Int)) (by omega), iX ((x : Int)) (m.length) (by omega), iX (0) (m.length) (by omega),
     tB 42 (natNe_false (hrow x (by omega)) : ((((m.getD x []).length : Nat) : Int) != (((m.getD 0 []).length : Nat) : Int)) = false),
     .s (Sp.upto (r7ValidI m x) 0 ((m.getD x []).length) (by omega) (fun y hy hlty => by
    exact spt (chain [iX ((x : Int)) (m.length) (by omega), tT 49 ((y : Int) < (((m.getD x []).length : Nat) : Int)) (by omega), iX ((x : Int)) (m.length) (by omega), iX ((y : Int)) ((m.getD x []).length) (by omega),
     .c (r5ValidR_pc _ (by first | assumption | exact g.at _ _) : PCt 97 [(riP ((m.getD x []).getD y rwhole))] _), tB 59 (hok x (by omega) y (by omega) : (okB ((m.getD x []).getD y rwhole)) = true), r64 ((y : Int) + 1) (by omega)] <| .nil) (by kernel_rfl))
  (fun hy => by
    exact spt (chain [iX ((x : Int)) (m.length) (by omega), tF 49 ((((m.getD x []).length : Nat) : Int) < (((m.getD x []).length : Nat) : Int)) (by omega)] <| .nil) (by kernel_rfl)) (by nofun) : LpT 9 Tryz.f96 (r7ValidI m x 0) (.exit 2) ⟨61, true, [(3, .e (iP x)), (0, .e (rmatP m))], []⟩) .nil,
     r64 ((x : Int) + 1) (by omega)] <| .nil) (by kernel_rfl))
  (fun hx => by
    have hlx := hrows N
    exact spt (chain [tT 30 ((N : Int) < (m.length : Int)) (by omega), iX ((N : Int)) (m.length) (by omega), iX (0) (m.length) (by omega),
    tB 42 (natNe_true hbad : ((((m.getD N []).length : Nat) : Int) != (((m.getD 0 []).length : Nat) : Int)) = true)] <| .nil) (by kernel_rfl)) (by nofun) : LpT 4 Tryz.f96 (r7ValidOL m N 0) .ret ⟨61, true, [(2, .e (bP false))], []⟩) .nil] <| .nil) (by kernel_rfl)
set_option maxHeartbeats 2000000 in
theorem r7Valid_E (m : List (List RI)) (g : MGood m) (hl : m.length ≤ 1000000) (hrows : ∀ i, (m.getD i []).length ≤ 1000000) (n1 : 1 ≤ m.length) (n8 : m.length ≤ 8) (k1 : 1 ≤ (m.getD 0 []).length) (k8 : (m.getD 0 []).length ≤ 8) (N : Nat) (hN : N < m.length) (hrow : ∀ i, i < N → (m.getD i []).length = (m.getD 0 []).length) (hok : ∀ i, i < N → ∀ j, j < (m.getD i []).length → okB ((m.getD i []).getD j rwhole) = true) (hlen : (m.getD N []).length = (m.getD 0 []).length) (J : Nat) (hJ : J < (m.getD N []).length) (hoJ : ∀ j, j < J → okB ((m.getD N []).getD j rwhole) = true) (hbad : okB ((m.getD N []).getD J rwhole) = false) : PCt 96 [(rmatP m)] (bP false) := by
 exact tr true Tryz.call96 Tryz.func96 (chain [tF 7 ((m.length : Int) < 1) (by omega), tF 11 (8 < (m.length : Int)) (by omega), iX (0) (m.length) (by omega), tF 18 ((((m.getD 0 []).length : Nat) : Int) < 1) (by omega), iX (0) (m.length) (by omega),
  tF 25 (8 < (((m.getD 0 []).length : Nat) : Int)) (by omega),
  .s (Sp.upto (r7ValidOE m N J) 0 N (by omega) (fun x hx hltx => by
    have hlx := hrows x
    exact spt (chain [tT 30 ((x : Int) < (m.length : Int)) (by omega), iX ((x : Int)) (m.length) (by omega), iX (0) (m.length) (by omega),
     tB 42 (natNe_false (hrow x (by omega)) : ((((m.getD x []).length : Nat) : Int) != (((m.getD 0 []).length : Nat) : Int)) = false),
     .s (Sp.upto (r7ValidI m x) 0 ((m.getD x []).length) (by omega) (fun y hy hlty => by
    exact spt (chain [iX ((x : Int)) (m.length) (by omega), tT 49 ((y : Int) < (((m.getD x []).length : Nat) : Int)) (by omega), iX ((x : Int)) (m.length) (by omega), iX ((y : Int)) ((m.getD x []).length) (by omega),
     .c (r5ValidR_pc _ (by first | assumption | exact g.at _ _) : PCt 97 [(riP ((m.getD x []).getD y rwhole))] _), tB 59 (hok x (by omega) y (by omega) : (okB ((m.getD x []).getD y rwhole)) = true), r64 ((y : Int) + 1) (by omega)] <| .nil) (by kernel_rfl))
  (fun hy => by
    exact spt (chain [iX ((x : Int)) (m.length) (by omega), tF 49 ((((m.getD x []).length : Nat) : Int) < (((m.getD x []).length : Nat) : Int)) (by omega)] <| .nil) (by kernel_rfl)) (by nofun) : LpT 9 Tryz.f96 (r7ValidI m x 0) (.exit 2) ⟨61, true, [(3, .e (iP x)), (0, .e (rmatP m))], []⟩) .nil,
     r64 ((x : Int) + 1) (by omega)] <| .nil) (by kernel_rfl))
  (fun hx => by
    have hlx := hrows N
    exact spt (chain [tT 30 ((N : Int) < (m.length : Int)) (by omega), iX ((N : Int)) (m.length) (by omega), iX (0) (m.length) (by omega),
    tB 42 (natNe_false hlen : ((((m.getD N []).length : Nat) : Int) != (((m.getD 0 []).length : Nat) : Int)) = false),
    .s (Sp.upto (r7ValidJ m N J) 0 J (by omega) (fun y hy hlty => by
    exact spt (chain [iX ((N : Int)) (m.length) (by omega), tT 49 ((y : Int) < (((m.getD N []).length : Nat) : Int)) (by omega), iX ((N : Int)) (m.length) (by omega), iX ((y : Int)) ((m.getD N []).length) (by omega),
     .c (r5ValidR_pc _ (by first | assumption | exact g.at _ _) : PCt 97 [(riP ((m.getD N []).getD y rwhole))] _), tB 59 (hoJ y (by omega) : (okB ((m.getD N []).getD y rwhole)) = true), r64 ((y : Int) + 1) (by omega)] <| .nil) (by kernel_rfl))
  (fun hy => by
    exact spt (chain [iX ((N : Int)) (m.length) (by omega), tT 49 ((J : Int) < (((m.getD N []).length : Nat) : Int)) (by omega), iX ((N : Int)) (m.length) (by omega), iX ((J : Int)) ((m.getD N []).length) (by omega),
    .c (r5ValidR_pc _ (by first | assumption | exact g.at _ _) : PCt 97 [(riP ((m.getD N []).getD J rwhole))] _), tB 59 (hbad : (okB ((m.getD N []).getD J rwhole)) = false)] <| .nil) (by kernel_rfl)) (by nofun) : LpT 9 Tryz.f96 (r7ValidJ m N J 0) .ret ⟨61, true, [(2, .e (bP false))], []⟩) .nil] <| .nil) (by kernel_rfl)) (by nofun) : LpT 4 Tryz.f96 (r7ValidOE m N J 0) .ret ⟨61, true, [(2, .e (bP false))], []⟩) .nil] <| .nil) (by kernel_rfl)
theorem r7ValidR_pc (m : List (List RI)) (g : MGood m) (hl : m.length ≤ 1000000) (hrows : ∀ i, (m.getD i []).length ≤ 1000000) : PCt 96 [rmatP m] (bP (matOkB m)) := by
 by_cases q1 : m.length < 1
 ·exact tr true Tryz.call96 Tryz.func96 (chain [tT 7 ((m.length : Int) < 1) (by omega)] <| rQ (bP false) (bP (matOkB m)) (by rw [matOkB_false (fun q => by have := q.n1; have := q.n8; have := q.k1; have := q.k8; omega)])) (by kernel_rfl)
 by_cases q2 : 8 < m.length
 ·exact tr true Tryz.call96 Tryz.func96 (chain [tF 7 ((m.length : Int) < 1) (by omega), tT 11 (8 < (m.length : Int)) (by omega)] <| rQ (bP false) (bP (matOkB m)) (by rw [matOkB_false (fun q => by have := q.n1; have := q.n8; have := q.k1; have := q.k8; omega)])) (by kernel_rfl)
 by_cases q3 : (m.getD 0 []).length < 1
 ·exact tr true Tryz.call96 Tryz.func96 (chain [tF 7 ((m.length : Int) < 1) (by omega), tF 11 (8 < (m.length : Int)) (by omega), iX (0) (m.length) (by omega), tT 18 ((((m.getD 0 []).length : Nat) : Int) < 1) (by omega)] <| rQ (bP false) (bP (matOkB m)) (by rw [matOkB_false (fun q => by have := q.n1; have := q.n8; have := q.k1; have := q.k8; omega)])) (by kernel_rfl)
 by_cases q4 : 8 < (m.getD 0 []).length
 ·exact tr true Tryz.call96 Tryz.func96 (chain [tF 7 ((m.length : Int) < 1) (by omega), tF 11 (8 < (m.length : Int)) (by omega), iX (0) (m.length) (by omega), tF 18 ((((m.getD 0 []).length : Nat) : Int) < 1) (by omega), iX (0) (m.length) (by omega),
   tT 25 (8 < (((m.getD 0 []).length : Nat) : Int)) (by omega)] <| rQ (bP false) (bP (matOkB m)) (by rw [matOkB_false (fun q => by have := q.n1; have := q.n8; have := q.k1; have := q.k8; omega)])) (by kernel_rfl)
 by_cases hb : ∃ N, N < m.length ∧ (decide ((m.getD N []).length ≠ (m.getD 0 []).length) || (List.range (m.getD N []).length).any fun j => !(okB ((m.getD N []).getD j rwhole))) = true
 ·obtain ⟨N, hN, hbad, hlow⟩ := least_true hb
  have hrow : ∀ i, i < N → (m.getD i []).length = (m.getD 0 []).length := fun i hi => by
   have := hlow i hi; simp only [ne_eq, decide_not, Bool.or_eq_false_iff, Bool.not_eq_false', decide_eq_true_eq] at this; exact this.1
  have hok : ∀ i, i < N → ∀ j, j < (m.getD i []).length → okB ((m.getD i []).getD j rwhole) = true := fun i hi j hj => by
   have := hlow i hi
   rw [Bool.or_eq_false_iff] at this
   have := List.any_eq_false.1 this.2 j (List.mem_range.2 hj)
   simpa using this
  have hno : ¬ ROk m := fun q => by
   rw [Bool.or_eq_true] at hbad
   rcases hbad with h | h
   ·exact (of_decide_eq_true h) (q.row N hN)
   ·obtain ⟨j, hj, h⟩ := List.any_eq_true.1 h
    have := okB_true.2 (q.ok N hN j (List.mem_range.1 hj))
    rw [this] at h; cases h
  rw [matOkB_false hno]
  by_cases hlen : (m.getD N []).length = (m.getD 0 []).length
  ·have hex : ∃ j, j < (m.getD N []).length ∧ (!(okB ((m.getD N []).getD j rwhole))) = true := by
    rw [Bool.or_eq_true] at hbad
    rcases hbad with h | h
    ·exact absurd hlen (of_decide_eq_true h)
    ·obtain ⟨j, hj, h⟩ := List.any_eq_true.1 h
     exact ⟨j, List.mem_range.1 hj, h⟩
   obtain ⟨J, hJ, hbJ, hlJ⟩ := least_true hex
   exact r7Valid_E m g hl hrows (by omega) (by omega) (by omega) (by omega) N hN hrow hok hlen J hJ (fun j hj => by simpa using hlJ j hj) (by simpa using hbJ)
  ·exact r7Valid_L m g hl hrows (by omega) (by omega) (by omega) (by omega) N hN hrow hok hlen
 ·have hrow : ∀ i, i < m.length → (m.getD i []).length = (m.getD 0 []).length := fun i hi => by
   apply Classical.byContradiction; intro q
   exact hb ⟨i, hi, by rw [Bool.or_eq_true]; exact .inl (decide_eq_true q)⟩
  have hok : ∀ i, i < m.length → ∀ j, j < (m.getD i []).length → okB ((m.getD i []).getD j rwhole) = true := fun i hi j hj => by
   cases hq : okB ((m.getD i []).getD j rwhole) with
   | true => rfl
   | false => exact absurd ⟨i, hi, by rw [Bool.or_eq_true]; exact .inr (List.any_eq_true.2 ⟨j, List.mem_range.2 hj, by rw [hq]; rfl⟩)⟩ hb
  rw [matOkB_true.2 ⟨by omega, by omega, by omega, by omega, hrow, fun i hi j hj => okB_true.1 (hok i hi j hj)⟩]
  exact r7Valid_Y m g hl hrows (by omega) (by omega) (by omega) (by omega) hrow hok
open Go.RowKit Fp Pu
abbrev ivsE (xs : List Iv) : Nat → Nat → E := fun i j => (ivL (xs.getD i wholeI)).getD j .any
abbrev matE (M : List (List Iv)) : Nat → Nat → E := fun i _ => ivsP (M.getD i [])
abbrev lnE (M : List (List Iv)) : Nat → Nat := fun q => (M.getD q []).length
abbrev rowsE (M : List (List Iv)) : Nat → Nat → Nat → E := fun q i j => (ivL ((M.getD q []).getD i wholeI)).getD j .any
theorem ivL_nr (x : Iv) (j : Nat) (hj : j < 7) : ((ivL x).getD j .any).nr 2 = true := by
 rcases j with _ | _ | _ | _ | _ | _ | _ | j
 all_goals first | rfl | omega
theorem ivsP_nr (xs : List Iv) : (ivsP xs).nr 2 = true := rfl
def buildM (n : Nat) (c : Nat → Nat) (F : Nat → Nat → Iv) (x k : Nat) : List (List Iv) := (List.range n).map fun q => (List.range (if q < x then c q else if q = x then k else 0)).map (F q)
def wholeM (n : Nat) (c : Nat → Nat) (F : Nat → Nat → Iv) : List (List Iv) := (List.range n).map fun q => (List.range (c q)).map (F q)
theorem buildM_len (n : Nat) (c : Nat → Nat) (F : Nat → Nat → Iv) (x k : Nat) : (buildM n c F x k).length = n := by simp [buildM]
theorem buildM_row {n : Nat} {c : Nat → Nat} {F : Nat → Nat → Iv} {x k q : Nat} (h : q < n) : (buildM n c F x k).getD q [] = (List.range (if q < x then c q else if q = x then k else 0)).map (F q) := by
 simp [buildM, List.getD_eq_getElem?_getD, h]
theorem wholeM_row {n : Nat} {c : Nat → Nat} {F : Nat → Nat → Iv} {q : Nat} (h : q < n) : (wholeM n c F).getD q [] = (List.range (c q)).map (F q) := by
 simp [wholeM, List.getD_eq_getElem?_getD, h]
theorem lnE_at {n x k : Nat} {c : Nat → Nat} {F : Nat → Nat → Iv} (h : x < n) : lnE (buildM n c F x k) x = k := by simp only [lnE, buildM_row h]; simp
theorem one_len {α : Type} (y : α) : [y].length = 1 := rfl
theorem range_getD {n i : Nat} {F : Nat → Iv} (h : i < n) : ((List.range n).map F).getD i wholeI = F i := by
 simp [List.getD_eq_getElem?_getD, h]
theorem rows_init {T1 T0 n n' : Nat} {c : Nat → Nat} {F : Nat → Nat → Iv} (hn : n = n') : Bx.le (.rows true T1 T0 n 7 (fun _ => 0) (fun _ _ _ => .any) .none) (.rows true T1 T0 n' 7 (lnE (buildM n' c F 0 0)) (rowsE (buildM n' c F 0 0)) .none) := by
 subst hn
 refine .rows rfl (fun k hk => ?_) (fun k i j hk hi hj => absurd hi (Nat.not_lt_zero i))
 show 0 = ((buildM n c F 0 0).getD k []).length
 rw [buildM_row hk]; simp
theorem rows_push {T1 T0 n n' m x k : Nat} {c : Nat → Nat} {F : Nat → Nat → Iv} {y : Iv} (hn : n = n') (hm : m = n) (hx : x < n) (hy : y = F x k) :
  Bx.le (.rows true T1 T0 n 7 (fun q => if q = x then lnE (buildM m c F x k) q + [y].length else lnE (buildM m c F x k) q)
    (fun q i j => if q = x then (if i < lnE (buildM m c F x k) q then rowsE (buildM m c F x k) q i j else (E.elf (ivsP [y])) (i - lnE (buildM m c F x k) q) j) else rowsE (buildM m c F x k) q i j) .none)
   (.rows true T1 T0 n' 7 (lnE (buildM m c F x (k + 1))) (rowsE (buildM m c F x (k + 1))) .none) := by
 subst hn hm hy
 have hl : ∀ q, q < m → (if q = x then lnE (buildM m c F x k) q + [F x k].length else lnE (buildM m c F x k) q) = lnE (buildM m c F x (k + 1)) q := by
  intro q hq
  simp only [lnE, buildM_row hq, List.length_map, List.length_range, List.length_cons, List.length_nil]
  by_cases h1 : q = x
  ·subst h1; simp
  ·simp [h1]
 refine .rows rfl hl (fun q i j hq hi hj => ⟨.of_eq ?_, ivL_nr _ _ hj⟩)
 by_cases h1 : q = x
 ·subst h1
  rw [if_pos rfl] at hi ⊢
  simp only [lnE, rowsE, buildM_row hq, List.length_map, List.length_range, List.length_cons, List.length_nil, Nat.lt_irrefl, if_false, if_true] at hi ⊢
  by_cases h2 : i < k
  ·rw [if_pos h2, range_getD h2, range_getD (by omega)]
  ·have : i = k := by omega
   subst this
   rw [if_neg h2, Nat.sub_self, range_getD (by omega)]
   rfl
 ·rw [if_neg h1] at hi ⊢
  simp only [lnE, rowsE, buildM_row hq, List.length_map, List.length_range, h1, if_false] at hi ⊢
theorem rows_next {T1 T0 n n' m x : Nat} {c : Nat → Nat} {F : Nat → Nat → Iv} (hn : n = n') : Bx.le (.rows true T1 T0 n 7 (lnE (buildM m c F x (c x))) (rowsE (buildM m c F x (c x))) .none) (.rows true T1 T0 n' 7 (lnE (buildM m c F (x + 1) 0)) (rowsE (buildM m c F (x + 1) 0)) .none) := by
 subst hn
 have : buildM m c F x (c x) = buildM m c F (x + 1) 0 := by
  unfold buildM
  congr 1
  funext q
  congr 2
  by_cases h : q < x
  ·rw [if_pos h, if_pos (by omega)]
  ·by_cases h2 : q = x
   ·subst h2; rw [if_neg h, if_pos rfl, if_pos (by omega)]
   ·rw [if_neg h, if_neg h2, if_neg (by omega)]; split <;> rfl
 rw [this]
 exact .refl _
theorem buildM_done (n : Nat) (c : Nat → Nat) (F : Nat → Nat → Iv) : buildM n c F n 0 = wholeM n c F := by
 unfold buildM wholeM
 apply List.map_congr_left
 intro q hq
 rw [if_pos (List.mem_range.1 hq)]
theorem matRows_le {n : Nat} {M : List (List Iv)} (hn : n = M.length) : E.le (.sl true n 1 fun k _ => .sl true (lnE M k) 7 (rowsE M k)) (matP M) := by subst hn; exact .refl _
theorem matDone_le {n : Nat} {c : Nat → Nat} {F : Nat → Nat → Iv} : E.le (.sl true n 1 fun k _ => .sl true (lnE (buildM n c F n 0) k) 7 (rowsE (buildM n c F n 0) k)) (matP (wholeM n c F)) :=
 E.le.trans (matRows_le (buildM_len _ _ _ _ _).symm) (.of_eq (by rw [buildM_done]))
open Go.RowKit Fp Pu
def eachFam (m : List (List Iv)) (g : FuncId) (cap : List E) (F : Nat → Nat → Iv) (x : Nat) : PS := ⟨44, true, [(15, .e (iP x)), (14, .e (iP m.length)), (13, .e (matP m)), (5, .own 12), (1, .e (.fn g cap))], [(12, .rows true 31 28 m.length 7 (lnE (buildM m.length (fun q => (m.getD q []).length) F x 0)) (rowsE (buildM m.length (fun q => (m.getD q []).length) F x 0)) .none)]⟩
def eachFamIn (m : List (List Iv)) (g : FuncId) (cap : List E) (F : Nat → Nat → Iv) (x : Nat) (k : Nat) : PS := ⟨44, true, [(22, .e (iP k)), (21, .e (iP (((m.getD x []).length : Nat) : Int))), (20, .e (ivsP (m.getD x []))), (6, .e (iP x)), (15, .e (iP x)), (14, .e (iP m.length)), (13, .e (matP m)), (5, .own 12), (1, .e (.fn g cap))], [(12, .rows true 31 28 m.length 7 (lnE (buildM m.length (fun q => (m.getD q []).length) F x k)) (rowsE (buildM m.length (fun q => (m.getD q []).length) F x k)) .none)]⟩
theorem matEach_pc (m : List (List Iv)) (g : FuncId) (cap : List E) (F : Nat → Nat → Iv) (hl : m.length ≤ 1000) (hr : ∀ i, (m.getD i []).length ≤ 1000) (hf : ∀ i j, i < m.length → j < (m.getD i []).length → PCt g (iP (i : Int) :: iP (j : Int) :: ivP ((m.getD i []).getD j wholeI) :: cap) (ivP (F i j))) : PCt 124 [(matP m), (.fn g cap)] (matP (wholeM m.length (fun q => (m.getD q []).length) F)) := by
 exact tr true Tryz.call124 Tryz.func124 (chain [.a (by omega : 0 ≤ ((m.length : Int) : Int) ∧ ((m.length : Int) : Int) ≤ ((m.length : Int) : Int)),
  .a (by omega : ((24 : Nat) : Int) * (m.length : Int) ≤ 281474976710656 ∧ ((m.length : Int) : Int) ≤ 9223372036854775807),
  .s (Sp.upto (eachFam m g cap F) 0 m.length (by omega) (fun x hx hltx => by
    have hx2 := hr x
    exact spt (chain [tT 16 ((x : Int) < (m.length : Int)) (by omega), iX ((x : Int)) (m.length) (by omega),
     .s (Sp.upto (eachFamIn m g cap F x) 0 ((m.getD x []).length) (by omega) (fun k hk hltk => by
    have hx2 := hr x
    have hle : lnE (buildM m.length (fun q => (m.getD q []).length) F x k) x = k := lnE_at (by omega)
    have h1 := one_len (F x k)
    exact spt (chain [tT 23 ((k : Int) < (((m.getD x []).length : Nat) : Int)) (by omega), iX ((k : Int)) ((m.getD x []).length) (by omega), iX ((x : Int)) (m.length) (by omega), .a (by omega : x < m.length),
     .c (hf x k (by omega) (by omega) : PCt g ((iP x) :: (iP k) :: (ivP ((m.getD x []).getD k wholeI)) :: cap) _),
     .o 38 (.e (ivs1_le _) : PV.le (.e (.sl true 1 7 fun i_ j_ => (ivL (F x k)).getD (i_ * 7 + j_) (.v (.bool false)))) (.e (ivsP [(F x k)]))), .a (by omega : x < m.length),
     .a (by omega : ((lnE (buildM m.length (fun q => (m.getD q []).length) F x k)) x + [(F x k)].length) * 88 ≤ 140737488355328), iX ((x : Int)) (m.length) (by omega), .a (rfl : x = x), .a (rfl : x = x), .a (by omega : x < m.length),
     r64 ((k : Int) + 1) (by omega)] <| .e (chain [.b 12 (rows_push rfl (by omega) (by omega) rfl : Bx.le (.rows true 31 28 m.length 7 (fun q => if q = x then (lnE (buildM m.length (fun q => (m.getD q []).length) F x k)) q + [(F x k)].length else (lnE (buildM m.length (fun q => (m.getD q []).length) F x k)) q) (fun q i j => if q = x then (if i < (lnE (buildM m.length (fun q => (m.getD q []).length) F x k)) q then (rowsE (buildM m.length (fun q => (m.getD q []).length) F x k)) q i j else (E.elf (ivsP [(F x k)])) (i - (lnE (buildM m.length (fun q => (m.getD q []).length) F x k)) q) j) else (rowsE (buildM m.length (fun q => (m.getD q []).length) F x k)) q i j) .none) (.rows true 31 28 m.length 7 (lnE (buildM m.length (fun q => (m.getD q []).length) F x (k + 1))) (rowsE (buildM m.length (fun q => (m.getD q []).length) F x (k + 1))) .none))] <| .nil)) (by kernel_rfl))
  (fun hk => by
    exact spt (chain [tF 23 ((((m.getD x []).length : Nat) : Int) < (((m.getD x []).length : Nat) : Int)) (by omega)] <| .nil) (by kernel_rfl)) (by nofun) : LpT 6 Tryz.f124 (eachFamIn m g cap F x 0) (.exit 2) ⟨44, true, [(15, .e (iP x)), (14, .e (iP m.length)), (13, .e (matP m)), (5, .own 12), (1, .e (.fn g cap))], [(12, .rows true 31 28 m.length 7 (lnE (buildM m.length (fun q => (m.getD q []).length) F x ((m.getD x []).length))) (rowsE (buildM m.length (fun q => (m.getD q []).length) F x ((m.getD x []).length))) .none)]⟩) .nil,
     r64 ((x : Int) + 1) (by omega)] <| .e (chain [.b 12 (rows_next rfl : Bx.le (.rows true 31 28 m.length 7 (lnE (buildM m.length (fun q => (m.getD q []).length) F x ((m.getD x []).length))) (rowsE (buildM m.length (fun q => (m.getD q []).length) F x ((m.getD x []).length))) .none) (.rows true 31 28 m.length 7 (lnE (buildM m.length (fun q => (m.getD q []).length) F (x + 1) 0)) (rowsE (buildM m.length (fun q => (m.getD q []).length) F (x + 1) 0)) .none))] <| .nil)) (by kernel_rfl))
  (fun hx => by
    exact spt (chain [tF 16 ((m.length : Int) < (m.length : Int)) (by omega)] <| .nil) (by kernel_rfl)) (by nofun) : LpT 3 Tryz.f124 (eachFam m g cap F 0) (.exit 0) ⟨44, true, [(5, .own 12)], [(12, .rows true 31 28 m.length 7 (lnE (buildM m.length (fun q => (m.getD q []).length) F m.length 0)) (rowsE (buildM m.length (fun q => (m.getD q []).length) F m.length 0)) .none)]⟩) (chain [.b 12 (rows_init rfl : Bx.le (.rows true 31 28 m.length 7 (fun _ => 0) (fun _ _ _ => .any) .none) (.rows true 31 28 m.length 7 (lnE (buildM m.length (fun q => (m.getD q []).length) F 0 0)) (rowsE (buildM m.length (fun q => (m.getD q []).length) F 0 0)) .none))] <| .nil)] <| rR (matP (wholeM m.length (fun q => (m.getD q []).length) F)) (by
      rw [← buildM_done]; exact matRows_le (buildM_len _ _ _ _ _).symm : E.le (.sl true m.length 1 fun k_ _ => .sl true ((lnE (buildM m.length (fun q => (m.getD q []).length) F m.length 0)) k_) 7 ((rowsE (buildM m.length (fun q => (m.getD q []).length) F m.length 0)) k_)) (matP (wholeM m.length (fun q => (m.getD q []).length) F)))) (by kernel_rfl)
open Go.RowKit Fp Pu
theorem Fp.MOk.len_at {m : List (List Iv)} {n k : Nat} (h : MOk m n k) {i : Nat} (hi : i < n) : (m.getD i []).length = k := by
 have hi' : i < m.length := by rw [h.rows]; exact hi
 rw [List.getD_eq_getElem?_getD, List.getElem?_eq_getElem hi']
 exact h.row _ (List.getElem_mem hi')
theorem Fp.MOk.val_at {m : List (List Iv)} {n k : Nat} (h : MOk m n k) {i j : Nat} (hi : i < n) (hj : j < k) : ((m.getD i []).getD j wholeI).Valid := by
 have hi' : i < m.length := by rw [h.rows]; exact hi
 have hl := h.len_at hi
 rw [List.getD_eq_getElem?_getD (l := m), List.getElem?_eq_getElem hi'] at hl ⊢
 change m[i].length = k at hl
 show (m[i].getD j wholeI).Valid
 have hj' : j < m[i].length := by rw [hl]; exact hj
 rw [List.getD_eq_getElem?_getD, List.getElem?_eq_getElem hj']
 exact h.ok _ (List.getElem_mem hi') _ (List.getElem_mem hj')
theorem Fp.MOk.len_le {m : List (List Iv)} {n k : Nat} (h : MOk m n k) (i : Nat) : (m.getD i []).length ≤ 8 := by
 by_cases hi : i < n
 ·rw [h.len_at hi]; exact h.k8
 ·rw [List.getD_eq_getElem?_getD, List.getElem?_eq_none (by rw [h.rows]; omega)]; exact Nat.zero_le _
theorem rawsM_getD (m : List (List Iv)) (i : Nat) : (rawsM m).getD i [] = rawsI (m.getD i []) := by
 unfold rawsM
 rw [List.getD_eq_getElem?_getD, List.getD_eq_getElem?_getD, List.getElem?_map]
 cases m[i]? <;> rfl
theorem Fp.MOk.good {m : List (List Iv)} {n k : Nat} (h : MOk m n k) : MGood (rawsM m) := by
 intro r hr x hx
 obtain ⟨r', h1, rfl⟩ := List.mem_map.1 hr
 obtain ⟨x', h2, rfl⟩ := List.mem_map.1 hx
 exact (h.ok _ h1 _ h2).good
theorem Fp.MOk.rok {m : List (List Iv)} {n k : Nat} (h : MOk m n k) : ROk (rawsM m) := by
 have hl : (rawsM m).length = n := by rw [← h.rows]; simp [rawsM]
 have hrow : ∀ i, i < n → ((rawsM m).getD i []).length = k := fun i hi => by rw [rawsM_getD, ← h.len_at hi]; simp [rawsI]
 have h1 := h.n1
 refine ⟨by have := h.n1; omega, by have := h.n8; omega, by rw [hrow 0 (by omega)]; exact h.k1, by rw [hrow 0 (by omega)]; exact h.k8, fun i hi => by rw [hrow 0 (by omega), hrow i (by omega)], fun i hi j hj => ?_⟩
 have hi' : i < n := by omega
 rw [hrow i hi'] at hj
 rw [rawsM_getD, getD_map_raw]
 exact (h.val_at hi' hj).okR
theorem matValid_pc (m : List (List Iv)) (n k : Nat) (h : MOk m n k) : PCt 103 [matP m] (bP true) := by
 have := matValidR_pc (rawsM m) h.good (by have := h.n8; simp [rawsM, h.rows]; omega) (fun i => by rw [rawsM_getD]; have := h.len_le i; simp only [rawsI, List.length_map]; omega)
 rwa [matOkB_true.2 h.rok, matP_raw] at this
theorem entry1_pc (i j : Nat) (x : Iv) (b : List (List Iv)) (p : Nat) (hx : x.Valid) (hy : ((b.getD i []).getD j wholeI).Valid) (hi : i < b.length) (hj : j < (b.getD i []).length) (hp1 : 8 ≤ p) (hp2 : p ≤ 512) : PCt 187 [(iP i), (iP j), (ivP x), (.ref 1 fun j_ => [(.fn 48 [])].getD j_ .any), (.ref 1 fun j_ => [(matP b)].getD j_ .any), (.ref 1 fun j_ => [(iP p)].getD j_ .any)] (ivP (addI x ((b.getD i []).getD j wholeI) p)) := by
 exact tr true Tryz.call187 Tryz.func187 (chain [iX ((i : Int)) (b.length) (by omega), iX ((j : Int)) ((b.getD i []).length) (by omega), .c (ivAdd_pc x ((b.getD i []).getD j wholeI) p ‹_› ‹_› (by omega) (by omega))] <| .nil) (by kernel_rfl)
theorem entrywise_pc (a b : List (List Iv)) (n k p : Nat) (ga : MOk a n k) (gb : MOk b n k) (hp1 : 8 ≤ p) (hp2 : p ≤ 512) : PCt 131 [(matP a), (matP b), (iP p), (.fn 48 [])] (.tup [matP (wholeM a.length (fun q => (a.getD q []).length) (fun i j => addI ((a.getD i []).getD j wholeI) ((b.getD i []).getD j wholeI) p)), iP 0]) := by
 have ra := ga.rows
 have rb := gb.rows
 have n1 := ga.n1
 have n8 := ga.n8
 have la := ga.len_at (show 0 < n by omega)
 have lb := gb.len_at (show 0 < n by omega)
 exact tr true Tryz.call131 Tryz.func131 (chain [.c (matValid_pc _ _ _ ‹_› : PCt 103 [(matP a)] _), .c (matValid_pc _ _ _ ‹_› : PCt 103 [(matP b)] _), .c (mxPrecise_pc _ : PCt 121 [(iP p)] _),
  tB 21 (precB_true.2 ⟨by omega, by omega⟩ : (precB (p : Int)) = true), tB 28 (natNe_false (by omega) : ((a.length : Int) != (b.length : Int)) = false), iX (0) (a.length) (by omega), iX (0) (b.length) (by omega),
  tB 38 (natNe_false (by omega) : ((((a.getD 0 []).length : Nat) : Int) != (((b.getD 0 []).length : Nat) : Int)) = false),
  .c (matEach_pc a 187 [(.ref 1 fun j_ => [(.fn 48 [])].getD j_ .any), (.ref 1 fun j_ => [(matP b)].getD j_ .any), (.ref 1 fun j_ => [(iP p)].getD j_ .any)] (fun i j => addI ((a.getD i []).getD j wholeI) ((b.getD i []).getD j wholeI) p) (by omega) (fun i => Nat.le_trans (ga.len_le i) (by decide)) (fun i j hi hj => entry1_pc _ _ _ _ _ (ga.val_at (by omega) (by rw [ga.len_at (by omega)] at hj; exact hj)) (gb.val_at (by omega) (by rw [ga.len_at (by omega)] at hj; exact hj)) (by omega) (by rw [gb.len_at (by omega)]; rw [ga.len_at (by omega)] at hj; exact hj) hp1 hp2))] <| .nil) (by kernel_rfl)
theorem wholeM_addM {a b : List (List Iv)} {n k p : Nat} (ga : MOk a n k) (gb : MOk b n k) : wholeM a.length (fun q => (a.getD q []).length) (fun i j => addI ((a.getD i []).getD j wholeI) ((b.getD i []).getD j wholeI) p) = addM a b p := by
 have ra := ga.rows
 have rb := gb.rows
 unfold wholeM addM
 apply List.ext_getElem
 ·simp [ra, rb]
 ·intro i h1 h2
  have hi : i < n := by simp at h1; omega
  simp only [List.getElem_map, List.getElem_range, List.getElem_zipWith]
  have ea : a.getD i [] = a[i]'(by omega) := by rw [List.getD_eq_getElem?_getD, List.getElem?_eq_getElem (by omega)]; rfl
  have eb : b.getD i [] = b[i]'(by omega) := by rw [List.getD_eq_getElem?_getD, List.getElem?_eq_getElem (by omega)]; rfl
  have la := ga.len_at hi
  have lb := gb.len_at hi
  rw [ea] at la
  rw [eb] at lb
  rw [ea, eb]
  apply List.ext_getElem
  ·simp [la, lb]
  ·intro j h3 h4
   have hj : j < k := by simp [la] at h3; exact h3
   simp only [List.getElem_map, List.getElem_range, List.getElem_zipWith]
   congr 1
   ·rw [List.getD_eq_getElem?_getD, List.getElem?_eq_getElem (by omega)]; rfl
   ·rw [List.getD_eq_getElem?_getD, List.getElem?_eq_getElem (by omega)]; rfl
theorem matAdd_pc (a b : List (List Iv)) (n k p : Nat) (ga : MOk a n k) (gb : MOk b n k) (hp1 : 8 ≤ p) (hp2 : p ≤ 512) : PCt 47 [(matP a), (matP b), (iP p)] (.tup [matP (addM a b p), iP 0]) := by
 exact tr true Tryz.call47 Tryz.func47 (chain [.c (entrywise_pc a b n k p ga gb hp1 hp2)] <| rQ (.tup [(matP (wholeM a.length (fun q => (a.getD q []).length) (fun i j => addI ((a.getD i []).getD j wholeI) ((b.getD i []).getD j wholeI) p))), (iP 0)]) (.tup [matP (addM a b p), iP 0]) (by rw [wholeM_addM ga gb])) (by kernel_rfl)
open Go.RowKit Fp Pu
def Fp.dotP (X Y : Nat → Iv) (p : Nat) : Nat → Iv
 | 0 => mulI (X 0) (Y 0) p
 | k + 1 => addI (dotP X Y p k) (mulI (X (k + 1)) (Y (k + 1)) p) p
theorem dotP_valid (X Y : Nat → Iv) {p : Nat} (hp : 1 ≤ p) (hp2 : p ≤ 4096) : ∀ k, (dotP X Y p k).Valid
 | 0 => mulI_valid _ _ hp hp2
 | k + 1 => addI_valid (dotP_valid X Y hp hp2 k) (mulI_valid _ _ hp hp2) hp hp2
theorem foldl_dotP (x y : Iv) (p : Nat) : ∀ (a b : List Iv) (X Y : Nat → Iv) (s : Nat), a.length = b.length → (∀ i, i < a.length → a.getD i wholeI = X (s + 1 + i)) → (∀ i, i < b.length → b.getD i wholeI = Y (s + 1 + i)) →
  (a.zip b).foldl (fun s q => addI s (mulI q.1 q.2 p) p) (dotP X Y p s) = dotP X Y p (s + a.length)
 | [], [], X, Y, s, _, _, _ => rfl
 | [], _ :: _, _, _, _, h, _, _ => by simp at h
 | _ :: _, [], _, _, _, h, _, _ => by simp at h
 | u :: a, v :: b, X, Y, s, h, h1, h2 => by
  have e1 : u = X (s + 1) := h1 0 (by simp)
  have e2 : v = Y (s + 1) := h2 0 (by simp)
  rw [List.zip_cons_cons, List.foldl_cons]
  have : addI (dotP X Y p s) (mulI u v p) p = dotP X Y p (s + 1) := by rw [e1, e2]; rfl
  rw [this, foldl_dotP x y p a b X Y (s + 1) (by simpa using h) (fun i hi => by
    have := h1 (i + 1) (by simp; omega)
    rw [show s + 1 + 1 + i = s + 1 + (i + 1) by omega, ← this]; rfl) (fun i hi => by
    have := h2 (i + 1) (by simp; omega)
    rw [show s + 1 + 1 + i = s + 1 + (i + 1) by omega, ← this]; rfl)]
  congr 1
  simp; omega
theorem dotI_dotP {xs ys : List Iv} {p n : Nat} (h1 : xs.length = n + 1) (h2 : ys.length = n + 1) : dotI xs ys p = dotP (fun q => xs.getD q wholeI) (fun q => ys.getD q wholeI) p n := by
 match xs, ys, h1, h2 with
 | x :: a, y :: b, h1, h2 =>
  have ha : a.length = n := by simpa using h1
  have hb : b.length = n := by simpa using h2
  have := foldl_dotP x y p a b (fun q => (x :: a).getD q wholeI) (fun q => (y :: b).getD q wholeI) 0 (by omega) (fun i hi => by rw [show 0 + 1 + i = i + 1 by omega]; rfl) (fun i hi => by rw [show 0 + 1 + i = i + 1 by omega]; rfl)
  rw [Nat.zero_add, ha] at this
  exact this
theorem getD_eq_getElem {α : Type} {l : List α} {i : Nat} {d : α} (h : i < l.length) : l.getD i d = l[i] := by
 rw [List.getD_eq_getElem?_getD, List.getElem?_eq_getElem h]; rfl
theorem wholeM_mulM {a b : List (List Iv)} {n k c p : Nat} (ra : a.length = n) (la : ∀ i, i < n → (a.getD i []).length = k + 1) (rb : b.length = k + 1) (lb : (b.getD 0 []).length = c) :
  wholeM n (fun _ => c) (fun i j => dotP (fun q => (a.getD i []).getD q wholeI) (fun q => (b.getD q []).getD j wholeI) p k) = mulM a b p := by
 unfold wholeM mulM
 have hb : (b.headD []).length = c := by
  rw [← lb]
  cases b with
  | nil => rfl
  | cons r b => rfl
 rw [hb]
 apply List.ext_getElem
 ·simp [ra]
 ·intro i h1 h2
  have hi : i < n := by simp at h1; omega
  have hi2 : i < a.length := by omega
  simp only [List.getElem_map, List.getElem_range]
  apply List.map_congr_left
  intro j _
  have e := la i hi
  rw [getD_eq_getElem hi2] at e ⊢
  rw [dotI_dotP e (show (colM b j).length = k + 1 by simp [colM, rb])]
  congr 1
  funext q
  unfold colM
  by_cases hq : q < b.length
  ·rw [getD_eq_getElem (l := b.map _) (by simpa using hq), getD_eq_getElem hq]; simp
  ·rw [List.getD_eq_getElem?_getD (l := b.map _), List.getElem?_eq_none (by simpa using hq), List.getD_eq_getElem?_getD (l := b), List.getElem?_eq_none (by omega)]; simp
theorem wholeM_scaleM {a : List (List Iv)} {x : Iv} {p : Nat} : wholeM a.length (fun q => (a.getD q []).length) (fun i j => mulI x ((a.getD i []).getD j wholeI) p) = scaleM a x p := by
 unfold wholeM scaleM
 apply List.ext_getElem
 ·simp
 ·intro i h1 h2
  have hi : i < a.length := by simp at h1; omega
  simp only [List.getElem_map, List.getElem_range]
  rw [getD_eq_getElem hi]
  apply List.ext_getElem
  ·simp
  ·intro j h3 h4
   have hj : j < a[i].length := by simpa using h3
   simp only [List.getElem_map, List.getElem_range]
   rw [getD_eq_getElem hj]
theorem wholeM_ok {n k : Nat} {F : Nat → Nat → Iv} (h1 : 1 ≤ n) (h2 : n ≤ 8) (h3 : 1 ≤ k) (h4 : k ≤ 8) (hv : ∀ i j, (F i j).Valid) : MOk (wholeM n (fun _ => k) F) n k := by
 refine ⟨by simp [wholeM], fun r hr => ?_, fun r hr x hx => ?_, h1, h2, h3, h4⟩
 ·obtain ⟨i, _, rfl⟩ := List.mem_map.1 hr; simp
 ·obtain ⟨i, _, rfl⟩ := List.mem_map.1 hr
  obtain ⟨j, _, rfl⟩ := List.mem_map.1 hx
  exact hv i j
theorem ivs_pushR {T n n' k : Nat} {F : Nat → Iv} {y : Iv} (hn : n = k) (hn' : n' = k + 1) (hy : y = F k) :
  Bx.le (.row true T (n + [y].length) 7 fun i j => if i < n then ivsE ((List.range k).map F) i j else (E.elf (ivsP [y])) (i - n) j) (.row true T n' 7 (ivsE ((List.range (k + 1)).map F))) := by
 subst hn hn' hy
 refine .row rfl fun i j hi hj => ⟨.of_eq ?_, ivL_nr _ _ hj⟩
 have hi : i < n + 1 := hi
 by_cases h : i < n
 ·rw [if_pos h]
  simp only [ivsE]
  rw [range_getD h, range_getD hi]
 ·have hi' : i = n := by omega
  subst hi'
  rw [if_neg h, Nat.sub_self]
  simp only [ivsE]
  rw [range_getD hi]
  rfl
theorem rows_getD {n i : Nat} {R : Nat → List Iv} (h : i < n) : ((List.range n).map R).getD i [] = R i := by simp [List.getD_eq_getElem?_getD, h]
theorem mat_pushR {T n n' k m : Nat} {R : Nat → List Iv} {p : E} (hn : n = k) (hn' : n' = k + 1) (hm : m = 1) (hp : ∀ j, j < 1 → p.elf 0 j = ivsP (R k)) :
  Bx.le (.row true T (n + m) 1 fun i j => if i < n then matE ((List.range k).map R) i j else (E.elf p) (i - n) j) (.row true T n' 1 (matE ((List.range (k + 1)).map R))) := by
 subst hn hn' hm
 refine .row rfl fun i j hi hj => ⟨.of_eq ?_, ivsP_nr _⟩
 by_cases h : i < n
 ·rw [if_pos h]
  simp only [matE]
  rw [rows_getD h, rows_getD hi]
 ·have hi' : i = n := by omega
  subst hi'
  rw [if_neg h, Nat.sub_self, hp j hj]
  simp only [matE]
  rw [rows_getD hi]
theorem matRow_le {n : Nat} {M : List (List Iv)} (hn : n = M.length) : E.le (.sl true n 1 (matE M)) (matP M) := by subst hn; exact .refl _
theorem ivsRow_le {n : Nat} {M : List Iv} (hn : n = M.length) : E.le (.sl true n 7 (ivsE M)) (ivsP M) := by subst hn; exact .refl _
open Go.RowKit Fp Pu
abbrev vda0 (a : List (List Iv)) (b : List (List Iv)) (p) := fun i j => dotP (fun q => (a.getD i []).getD q wholeI) (fun q => (b.getD q []).getD j wholeI) p ((a.getD i []).length - 1)
abbrev vda1 (a : List (List Iv)) (x) (b : List (List Iv)) (k) (p) := dotP (fun q => (a.getD x []).getD q wholeI) (fun q => (b.getD q []).getD k wholeI) p ((a.getD x []).length - 1)
def dotFam (r : List Iv) (g : FuncId) (cap : List E) (Y : Nat → Iv) (p : Nat) (c : Nat) : PS := ⟨35, true, [(8, .e (iP (((c + 1) : Nat) : Int))), (7, .box 7 0), (6, .box 6 0), (0, .e (ivsP r)), (1, .e (.fn g cap)), (2, .e (iP p))], [(7, .cells 28 (ivL (dotP (fun q => r.getD q wholeI) Y p c))), (6, .cells 28 [(bP false), (.v (.slice none 0 0)), (iP 0), (bP false), (.v (.slice none 0 0)), (iP 0), (bP false)])]⟩
def mulMFam (a b : List (List Iv)) (p : Nat) (x : Nat) : PS := ⟨66, true, [(37, .e (iP x)), (36, .e (iP a.length)), (8, .own 34), (4, .box 4 0), (0, .e (matP a)), (2, .e (iP p))], [(34, .rows true 31 28 a.length 7 (lnE (buildM a.length (fun _ => (b.getD 0 []).length) (vda0 a b p) x 0)) (rowsE (buildM a.length (fun _ => (b.getD 0 []).length) (vda0 a b p) x 0)) .none), (4, .cells 32 [(matP b)])]⟩
def mulMFamIn (a b : List (List Iv)) (p : Nat) (x : Nat) (k : Nat) : PS := ⟨66, true, [(44, .e (iP k)), (43, .e (iP (((b.getD 0 []).length : Nat) : Int))), (9, .e (iP x)), (37, .e (iP x)), (36, .e (iP a.length)), (8, .own 34), (4, .box 4 0), (0, .e (matP a)), (2, .e (iP p))], [(34, .rows true 31 28 a.length 7 (lnE (buildM a.length (fun _ => (b.getD 0 []).length) (vda0 a b p) x k)) (rowsE (buildM a.length (fun _ => (b.getD 0 []).length) (vda0 a b p) x k)) .none), (4, .cells 32 [(matP b)])]⟩
theorem dot_pc (r : List Iv) (g : FuncId) (cap : List E) (Y : Nat → Iv) (p : Nat) (hl : r.length ≤ 1000) (h0 : 0 < r.length) (hr : ∀ i, i < r.length → (r.getD i wholeI).Valid) (hy : ∀ i, (Y i).Valid) (hg : ∀ i, i < r.length → PCt g (iP (i : Int) :: cap) (ivP (Y i))) (hp1 : 8 ≤ p) (hp2 : p ≤ 512) : PCt 122 [(ivsP r), (.fn g cap), (iP p)] (ivP (dotP (fun q => r.getD q wholeI) Y p (r.length - 1))) := by
 have w1 := hr 0 h0
 have w2 := hy 0
 exact tr true Tryz.call122 Tryz.func122 (chain [iX (0) (r.length) (by omega), .c (hg 0 (by omega) : PCt g ((iP 0) :: cap) _), .c (ivMul_pc (r.getD 0 wholeI) (Y 0) p ‹_› ‹_› (by omega) (by omega)),
  .s (Sp.upto (dotFam r g cap Y p) 0 (r.length - 1) (by omega) (fun c hc hltc => by
    have w1 := hr (c + 1) (by omega)
    have w2 := hy (c + 1)
    have w3 := dotP_valid (fun q => r.getD q wholeI) Y (show 1 ≤ p by omega) (by omega) c
    have w4 := mulI_valid (r.getD (c + 1) wholeI) (Y (c + 1)) (show 1 ≤ p by omega) (by omega)
    exact spt (chain [tT 19 ((((c + 1) : Nat) : Int) < (r.length : Int)) (by omega), iX ((((c + 1) : Nat) : Int)) (r.length) (by omega), .c (hg (c + 1) (by omega) : PCt g ((iP (((c + 1) : Nat) : Int)) :: cap) _),
     .c (ivMul_pc (r.getD (c + 1) wholeI) (Y (c + 1)) p ‹_› ‹_› (by omega) (by omega)),
     .c (ivAdd_pc (dotP (fun q => r.getD q wholeI) Y p c) (mulI (r.getD (c + 1) wholeI) (Y (c + 1)) p) p ‹_› ‹_› (by omega) (by omega)), r64 ((((c + 1) : Nat) : Int) + 1) (by omega)] <| .e (chain [.b 7 (.of_eq rfl : Bx.le (.cells 28 (ivL (addI (dotP (fun q => r.getD q wholeI) Y p c) (mulI (r.getD (c + 1) wholeI) (Y (c + 1)) p) p))) (.cells 28 (ivL (dotP (fun q => r.getD q wholeI) Y p (c + 1)))))] <| .nil)) (by kernel_rfl))
  (fun hc => by
    exact spt (chain [tF 19 (((((r.length - 1) + 1) : Nat) : Int) < (r.length : Int)) (by omega)] <| .nil) (by kernel_rfl)) (by nofun) : LpT 3 Tryz.f122 (dotFam r g cap Y p 0) (.exit 0) ⟨35, true, [(7, .box 7 0), (6, .box 6 0)], [(7, .cells 28 (ivL (dotP (fun q => r.getD q wholeI) Y p (r.length - 1)))), (6, .cells 28 [(bP false), (.v (.slice none 0 0)), (iP 0), (bP false), (.v (.slice none 0 0)), (iP 0), (bP false)])]⟩) (chain [.o 8 (.int (by first | rfl | omega | (simp only [Nat.add_mul, Nat.one_mul]; omega)) : PV.le (.e (iP 1)) (.e (iP (((0 + 1) : Nat) : Int)))),
  .b 7 (.of_eq rfl : Bx.le (.cells 28 (ivL (mulI (r.getD 0 wholeI) (Y 0) p))) (.cells 28 (ivL (dotP (fun q => r.getD q wholeI) Y p 0))))] <| .nil)] <| .nil) (by kernel_rfl)
theorem mul1_pc (q j : Nat) (b : List (List Iv)) (hq : q < b.length) (hj : j < (b.getD q []).length) : PCt 123 [(iP q), (.ref 1 fun j_ => [(matP b)].getD j_ .any), (.ref 1 fun j_ => [(iP j)].getD j_ .any)] (ivP ((b.getD q []).getD j wholeI)) := by
 exact tr true Tryz.call123 Tryz.func123 (chain [iX ((q : Int)) (b.length) (by omega), iX ((j : Int)) ((b.getD q []).length) (by omega)] <| .nil) (by kernel_rfl)
theorem elV {b : List (List Iv)} {k c : Nat} (gb : MOk b k c) (q j : Nat) : ((b.getD q []).getD j wholeI).Valid := by
 by_cases hq : q < k
 ·by_cases hj : j < c
  ·exact gb.val_at hq hj
  ·rw [List.getD_eq_getElem?_getD, List.getElem?_eq_none (by rw [gb.len_at hq]; omega)]; exact wholeI_valid
 ·rw [List.getD_eq_getElem?_getD (l := b), List.getElem?_eq_none (by rw [gb.rows]; omega)]; exact wholeI_valid
theorem matMul_pc (a b : List (List Iv)) (p : Nat) (n k c : Nat) (ga : MOk a n k) (gb : MOk b k c) (hp1 : 8 ≤ p) (hp2 : p ≤ 512) : PCt 43 [(matP a), (matP b), (iP p)] (.tup [matP (mulM a b p), iP 0]) := by
 have ra := ga.rows
 have rb := gb.rows
 have n1 := ga.n1
 have n8 := ga.n8
 have kk1 := ga.k1
 have kk8 := ga.k8
 have cc8 := gb.k8
 have la := ga.len_at (show 0 < n by omega)
 have lb := gb.len_at (show 0 < k by omega)
 have ew : wholeM a.length (fun _ => (b.getD 0 []).length) (fun i j => dotP (fun q => (a.getD i []).getD q wholeI) (fun q => (b.getD q []).getD j wholeI) p ((a.getD i []).length - 1)) = mulM a b p := by
  rw [← wholeM_mulM (n := n) (k := k - 1) (c := c) (a := a) (b := b) (p := p) ra (fun i hi => by rw [ga.len_at hi]; omega) (by omega) lb, ra, lb]
  unfold wholeM
  apply List.map_congr_left
  intro i hi
  have e := ga.len_at (List.mem_range.1 hi)
  simp only [e]
 exact tr true Tryz.call43 Tryz.func43 (chain [.c (matValid_pc _ _ _ ‹_› : PCt 103 [(matP a)] _), .c (matValid_pc _ _ _ ‹_› : PCt 103 [(matP b)] _), .c (mxPrecise_pc _ : PCt 121 [(iP p)] _),
  tB 22 (precB_true.2 ⟨by omega, by omega⟩ : (precB (p : Int)) = true), iX (0) (a.length) (by omega), tB 31 (natNe_false (by omega) : ((((a.getD 0 []).length : Nat) : Int) != (b.length : Int)) = false),
  .a (by omega : 0 ≤ ((a.length : Int) : Int) ∧ ((a.length : Int) : Int) ≤ ((a.length : Int) : Int)),
  .a (by omega : ((24 : Nat) : Int) * (a.length : Int) ≤ 281474976710656 ∧ ((a.length : Int) : Int) ≤ 9223372036854775807),
  .s (Sp.upto (mulMFam a b p) 0 a.length (by omega) (fun x hx hltx => by
    have lax := ga.len_at (show x < n by omega)
    exact spt (chain [tT 38 ((x : Int) < (a.length : Int)) (by omega), iX (0) (b.length) (by omega),
     .s (Sp.upto (mulMFamIn a b p x) 0 ((b.getD 0 []).length) (by omega) (fun k hk hltk => by
    have hle : lnE (buildM a.length (fun _ => (b.getD 0 []).length) (fun i j => dotP (fun q => (a.getD i []).getD q wholeI) (fun q => (b.getD q []).getD j wholeI) p ((a.getD i []).length - 1)) x k) x = k := lnE_at (by omega)
    have h1 := one_len (dotP (fun q => (a.getD x []).getD q wholeI) (fun q => (b.getD q []).getD k wholeI) p ((a.getD x []).length - 1))
    exact spt (chain [tT 45 ((k : Int) < (((b.getD 0 []).length : Nat) : Int)) (by omega), iX ((x : Int)) (a.length) (by omega), .a (by omega : x < a.length), iX ((x : Int)) (a.length) (by omega),
     .c (dot_pc (a.getD x []) 123 [(.ref 1 fun j_ => [(matP b)].getD j_ .any), (.ref 1 fun j_ => [(iP k)].getD j_ .any)] (fun q => (b.getD q []).getD k wholeI) p (by omega) (by omega) (fun q hq => ga.val_at (by omega) (by rw [lax] at hq; exact hq)) (fun q => elV gb q k) (fun q hq => mul1_pc q k b (by omega) (by rw [gb.len_at (by omega)]; omega)) (by omega) (by omega)),
     .o 60 (.e (ivs1_le _) : PV.le (.e (.sl true 1 7 fun i_ j_ => (ivL (vda1 a x b k p)).getD (i_ * 7 + j_) (.v (.bool false)))) (.e (ivsP [(vda1 a x b k p)]))),
     .a (by omega : x < a.length),
     .a (by omega : ((lnE (buildM a.length (fun _ => (b.getD 0 []).length) (fun i j => dotP (fun q => (a.getD i []).getD q wholeI) (fun q => (b.getD q []).getD j wholeI) p ((a.getD i []).length - 1)) x k)) x + [(dotP (fun q => (a.getD x []).getD q wholeI) (fun q => (b.getD q []).getD k wholeI) p ((a.getD x []).length - 1))].length) * 88 ≤ 140737488355328),
     iX ((x : Int)) (a.length) (by omega), .a (rfl : x = x), .a (rfl : x = x), .a (by omega : x < a.length), r64 ((k : Int) + 1) (by omega)] <| .e (chain [.b 34 (rows_push rfl (by omega) (by omega) rfl : Bx.le (.rows true 31 28 a.length 7 (fun q => if q = x then (lnE (buildM a.length (fun _ => (b.getD 0 []).length) (vda0 a b p) x k)) q + [(vda1 a x b k p)].length else (lnE (buildM a.length (fun _ => (b.getD 0 []).length) (vda0 a b p) x k)) q) (fun q i j => if q = x then (if i < (lnE (buildM a.length (fun _ => (b.getD 0 []).length) (vda0 a b p) x k)) q then (rowsE (buildM a.length (fun _ => (b.getD 0 []).length) (vda0 a b p) x k)) q i j else (E.elf (ivsP [(vda1 a x b k p)])) (i - (lnE (buildM a.length (fun _ => (b.getD 0 []).length) (vda0 a b p) x k)) q) j) else (rowsE (buildM a.length (fun _ => (b.getD 0 []).length) (vda0 a b p) x k)) q i j) .none) (.rows true 31 28 a.length 7 (lnE (buildM a.length (fun _ => (b.getD 0 []).length) (vda0 a b p) x (k + 1))) (rowsE (buildM a.length (fun _ => (b.getD 0 []).length) (vda0 a b p) x (k + 1))) .none))] <| .nil)) (by kernel_rfl))
  (fun hk => by
    exact spt (chain [tF 45 ((((b.getD 0 []).length : Nat) : Int) < (((b.getD 0 []).length : Nat) : Int)) (by omega)] <| .nil) (by kernel_rfl)) (by nofun) : LpT 12 Tryz.f43 (mulMFamIn a b p x 0) (.exit 3) ⟨66, true, [(37, .e (iP x)), (36, .e (iP a.length)), (8, .own 34), (4, .box 4 0), (0, .e (matP a)), (2, .e (iP p))], [(34, .rows true 31 28 a.length 7 (lnE (buildM a.length (fun _ => (b.getD 0 []).length) (vda0 a b p) x ((b.getD 0 []).length))) (rowsE (buildM a.length (fun _ => (b.getD 0 []).length) (vda0 a b p) x ((b.getD 0 []).length))) .none), (4, .cells 32 [(matP b)])]⟩) .nil,
     r64 ((x : Int) + 1) (by omega)] <| .e (chain [.b 34 (rows_next rfl : Bx.le (.rows true 31 28 a.length 7 (lnE (buildM a.length (fun _ => (b.getD 0 []).length) (vda0 a b p) x ((b.getD 0 []).length))) (rowsE (buildM a.length (fun _ => (b.getD 0 []).length) (vda0 a b p) x ((b.getD 0 []).length))) .none) (.rows true 31 28 a.length 7 (lnE (buildM a.length (fun _ => (b.getD 0 []).length) (vda0 a b p) (x + 1) 0)) (rowsE (buildM a.length (fun _ => (b.getD 0 []).length) (vda0 a b p) (x + 1) 0)) .none))] <| .nil)) (by kernel_rfl))
  (fun hx => by
    exact spt (chain [tF 38 ((a.length : Int) < (a.length : Int)) (by omega)] <| .nil) (by kernel_rfl)) (by nofun) : LpT 9 Tryz.f43 (mulMFam a b p 0) (.exit 1) ⟨66, true, [(8, .own 34)], [(34, .rows true 31 28 a.length 7 (lnE (buildM a.length (fun _ => (b.getD 0 []).length) (vda0 a b p) a.length 0)) (rowsE (buildM a.length (fun _ => (b.getD 0 []).length) (vda0 a b p) a.length 0)) .none)]⟩) (chain [.b 34 (rows_init rfl : Bx.le (.rows true 31 28 a.length 7 (fun _ => 0) (fun _ _ _ => .any) .none) (.rows true 31 28 a.length 7 (lnE (buildM a.length (fun _ => (b.getD 0 []).length) (vda0 a b p) 0 0)) (rowsE (buildM a.length (fun _ => (b.getD 0 []).length) (vda0 a b p) 0 0)) .none))] <| .nil)] <| rR (.tup [matP (mulM a b p), iP 0]) (by
      rw [← ew, ← buildM_done]; exact .tup (.cons (matRows_le (buildM_len _ _ _ _ _).symm) (.cons (.refl _) .nil)) : E.le (.tup [(.sl true a.length 1 fun k_ _ => .sl true ((lnE (buildM a.length (fun _ => (b.getD 0 []).length) (fun i j => dotP (fun q => (a.getD i []).getD q wholeI) (fun q => (b.getD q []).getD j wholeI) p ((a.getD i []).length - 1)) a.length 0)) k_) 7 ((rowsE (buildM a.length (fun _ => (b.getD 0 []).length) (fun i j => dotP (fun q => (a.getD i []).getD q wholeI) (fun q => (b.getD q []).getD j wholeI) p ((a.getD i []).length - 1)) a.length 0)) k_)), (iP 0)]) (.tup [matP (mulM a b p), iP 0]))) (by kernel_rfl)
theorem scale1_pc (i j : Nat) (x y : Iv) (p : Nat) (hx : x.Valid) (hy : y.Valid) (hp1 : 8 ≤ p) (hp2 : p ≤ 512) : PCt 125 [(iP i), (iP j), (ivP y), (.ref 7 fun j_ => [(bP x.lo.neg), (slP (limbs x.lo.m)), (iP x.lo.e), (bP x.hi.neg), (slP (limbs x.hi.m)), (iP x.hi.e), (bP x.all)].getD j_ .any), (.ref 1 fun j_ => [(iP p)].getD j_ .any)] (ivP (mulI x y p)) := by
 exact tr true Tryz.call125 Tryz.func125 (chain [.c (ivMul_pc x y p ‹_› ‹_› (by omega) (by omega))] <| .nil) (by kernel_rfl)
theorem matScale_pc (a : List (List Iv)) (x : Iv) (n k p : Nat) (ga : MOk a n k) (hx : x.Valid) (hp1 : 8 ≤ p) (hp2 : p ≤ 512) : PCt 44 [(matP a), (ivP x), (iP p)] (matP (scaleM a x p)) := by
 have ra := ga.rows
 have n8 := ga.n8
 exact tr true Tryz.call44 Tryz.func44 (chain [.c (matValid_pc _ _ _ ‹_› : PCt 103 [(matP a)] _), .c (ivValid_pc x ‹_›), .c (mxPrecise_pc _ : PCt 121 [(iP p)] _), tB 17 (precB_true.2 ⟨by omega, by omega⟩ : (precB (p : Int)) = true),
  .c (matEach_pc a 125 [(.ref 7 fun j_ => [(bP x.lo.neg), (slP (limbs x.lo.m)), (iP x.lo.e), (bP x.hi.neg), (slP (limbs x.hi.m)), (iP x.hi.e), (bP x.all)].getD j_ .any), (.ref 1 fun j_ => [(iP p)].getD j_ .any)] (fun i j => mulI x ((a.getD i []).getD j wholeI) p) (by omega) (fun i => Nat.le_trans (ga.len_le i) (by decide)) (fun i j hi hj => scale1_pc _ _ _ _ _ hx (ga.val_at (by omega) (by rw [ga.len_at (by omega)] at hj; exact hj)) hp1 hp2))] <| rQ (matP (wholeM a.length (fun q => (a.getD q []).length) (fun i j => mulI x ((a.getD i []).getD j wholeI) p))) (matP (scaleM a x p)) (by rw [wholeM_scaleM])) (by kernel_rfl)
open Go.RowKit Fp Pu
def Fp.nsum (r : List Iv) (p : Nat) : Nat → Dy
 | 0 => zeroD
 | k + 1 => rndD (sumD (nsum r p k) (magI (r.getD k wholeI))) p true
structure Fp.NGood (r : List Iv) (p k : Nat) : Prop where
 all : (r.getD k wholeI).all = false
 err : rndE (sumD (nsum r p k) (magI (r.getD k wholeI))) p true = 0
def Fp.nmost (m : List (List Iv)) (p : Nat) : Nat → Dy
 | 0 => zeroD
 | x + 1 => if 0 < cmpD (nsum (m.getD x []) p (m.getD x []).length) (nmost m p x) then nsum (m.getD x []) p (m.getD x []).length else nmost m p x
theorem nsum_valid (r : List Iv) {p : Nat} (hp : 1 ≤ p) (hp2 : p ≤ 4096) : ∀ k, (nsum r p k).Valid
 | 0 => zeroD_valid
 | k + 1 => cut_valid _ _ _ _ _ _ hp hp2
theorem nmost_valid (m : List (List Iv)) {p : Nat} (hp : 1 ≤ p) (hp2 : p ≤ 4096) : ∀ x, (nmost m p x).Valid
 | 0 => zeroD_valid
 | x + 1 => by
  unfold nmost; split
  ·exact nsum_valid _ hp hp2 _
  ·exact nmost_valid m hp hp2 x
theorem foldl_none (p : Nat) (l : List Iv) : l.foldl (fun s x => s.bind fun s => if x.all then none else if rndE (sumD s (magI x)) p true ≠ 0 then none else some (rndD (sumD s (magI x)) p true)) none = none := by
 induction l with
 | nil => rfl
 | cons x l ih => rw [List.foldl_cons]; exact ih
theorem rowNorm_step (p : Nat) (r : List Iv) : ∀ (l : List Iv) (k : Nat), (∀ i, i < l.length → l.getD i wholeI = r.getD (k + i) wholeI) →
  ((∀ i, k ≤ i → i < k + l.length → NGood r p i) → l.foldl (fun s x => s.bind fun s => if x.all then none else if rndE (sumD s (magI x)) p true ≠ 0 then none else some (rndD (sumD s (magI x)) p true)) (some (nsum r p k)) = some (nsum r p (k + l.length))) ∧
  (∀ i, k ≤ i → i < k + l.length → ¬ NGood r p i → l.foldl (fun s x => s.bind fun s => if x.all then none else if rndE (sumD s (magI x)) p true ≠ 0 then none else some (rndD (sumD s (magI x)) p true)) (some (nsum r p k)) = none)
 | [], k, _ => ⟨fun _ => rfl, fun i h1 h2 => by simp at h2; omega⟩
 | x :: l, k, h => by
  have e : x = r.getD k wholeI := h 0 (by simp)
  have ih := rowNorm_step p r l (k + 1) (fun i hi => by have := h (i + 1) (by simp; omega); rw [show k + 1 + i = k + (i + 1) by omega, ← this]; rfl)
  rw [List.foldl_cons]
  have hs : ∀ (g : NGood r p k), ((some (nsum r p k)).bind fun s => if x.all then none else if rndE (sumD s (magI x)) p true ≠ 0 then none else some (rndD (sumD s (magI x)) p true)) = some (nsum r p (k + 1)) := by
   intro g
   have h1 := g.all
   have h2 := g.err
   rw [← e] at h1 h2
   simp only [Option.bind_some, h1, Bool.false_eq_true, if_false, h2, ne_eq, not_true_eq_false]
   rw [e]; rfl
  have hf : ¬ NGood r p k → ((some (nsum r p k)).bind fun s => if x.all then none else if rndE (sumD s (magI x)) p true ≠ 0 then none else some (rndD (sumD s (magI x)) p true)) = none := by
   intro g
   simp only [Option.bind_some]
   by_cases h1 : x.all = true
   ·rw [if_pos h1]
   ·rw [if_neg h1]
    by_cases h2 : rndE (sumD (nsum r p k) (magI x)) p true = 0
    ·exact absurd ⟨by rw [← e]; simpa using h1, by rw [← e]; exact h2⟩ g
    ·rw [if_pos h2]
  refine ⟨fun hg => ?_, fun i h1 h2 hb => ?_⟩
  ·rw [hs (hg k (by omega) (by simp)), ih.1 (fun i h1 h2 => hg i (by omega) (by simp; omega))]
   congr 2
   simp; omega
  ·by_cases g : NGood r p k
   ·rw [hs g]
    refine ih.2 i ?_ (by simp at h2; omega) hb
    by_cases hik : i = k
    ·subst hik; exact absurd g hb
    ·omega
   ·rw [hf g, foldl_none]
theorem rowNorm_some {r : List Iv} {p : Nat} (h : ∀ i, i < r.length → NGood r p i) : rowNorm r p = some (nsum r p r.length) := by
 have := (rowNorm_step p r r 0 (fun i _ => by rw [Nat.zero_add])).1 (fun i _ hi => h i (by omega))
 rwa [Nat.zero_add] at this
theorem rowNorm_none {r : List Iv} {p i : Nat} (hi : i < r.length) (h : ¬ NGood r p i) : rowNorm r p = none :=
 (rowNorm_step p r r 0 (fun i _ => by rw [Nat.zero_add])).2 i (by omega) (by omega) h
theorem normM_step (p : Nat) (m : List (List Iv)) : ∀ (l : List (List Iv)) (x : Nat), (∀ i, i < l.length → l.getD i [] = m.getD (x + i) []) →
  ((∀ i, x ≤ i → i < x + l.length → ∀ k, k < (m.getD i []).length → NGood (m.getD i []) p k) → l.foldl (fun s r => s.bind fun s => (rowNorm r p).map fun n => if 0 < cmpD n s then n else s) (some (nmost m p x)) = some (nmost m p (x + l.length))) ∧
  (∀ i, x ≤ i → i < x + l.length → ∀ k, k < (m.getD i []).length → ¬ NGood (m.getD i []) p k → l.foldl (fun s r => s.bind fun s => (rowNorm r p).map fun n => if 0 < cmpD n s then n else s) (some (nmost m p x)) = none)
 | [], x, _ => ⟨fun _ => rfl, fun i h1 h2 => by simp at h2; omega⟩
 | r :: l, x, h => by
  have e : r = m.getD x [] := h 0 (by simp)
  have ih := normM_step p m l (x + 1) (fun i hi => by have := h (i + 1) (by simp; omega); rw [show x + 1 + i = x + (i + 1) by omega, ← this]; rfl)
  have hn : ∀ (l : List (List Iv)), l.foldl (fun s r => s.bind fun s => (rowNorm r p).map fun n => if 0 < cmpD n s then n else s) none = none := by
   intro l; induction l with
   | nil => rfl
   | cons y l ih => rw [List.foldl_cons]; exact ih
  rw [List.foldl_cons]
  refine ⟨fun hg => ?_, fun i h1 h2 k hk hb => ?_⟩
  ·rw [e, Option.bind_some, rowNorm_some (hg x (by omega) (by simp)), Option.map_some]
   have := ih.1 (fun i h1 h2 => hg i (by omega) (by simp; omega))
   rw [show x + (m.getD x [] :: l).length = x + 1 + l.length by simp only [List.length_cons]; omega]
   exact this
  ·by_cases g : ∀ k, k < (m.getD x []).length → NGood (m.getD x []) p k
   ·rw [e, Option.bind_some, rowNorm_some g, Option.map_some]
    refine ih.2 i ?_ (by simp at h2; omega) k hk hb
    by_cases hix : i = x
    ·subst hix; exact absurd (g k hk) hb
    ·omega
   ·have ⟨k', hk', hb'⟩ : ∃ k', k' < (m.getD x []).length ∧ ¬ NGood (m.getD x []) p k' := by
     apply Classical.byContradiction
     intro hc
     exact g fun k hk => Classical.byContradiction fun q => hc ⟨k, hk, q⟩
    rw [e, Option.bind_some, rowNorm_none hk' hb', Option.map_none, hn]
theorem normM_some {m : List (List Iv)} {p : Nat} (h : ∀ i, i < m.length → ∀ k, k < (m.getD i []).length → NGood (m.getD i []) p k) : normM m p = some (nmost m p m.length) := by
 have := (normM_step p m m 0 (fun i _ => by rw [Nat.zero_add])).1 (fun i _ hi => h i (by omega))
 rwa [Nat.zero_add] at this
theorem normM_none {m : List (List Iv)} {p i k : Nat} (hi : i < m.length) (hk : k < (m.getD i []).length) (h : ¬ NGood (m.getD i []) p k) : normM m p = none :=
 (normM_step p m m 0 (fun i _ => by rw [Nat.zero_add])).2 i (by omega) (by omega) k hk h
theorem zero_cells : Les [bP false, .v (.slice none 0 0), iP 0] [bP zeroD.neg, slP (limbs zeroD.m), iP zeroD.e] := .cons (.refl _) (.cons nilLimb_le (.cons (.refl _) .nil))
open Go.RowKit Fp Pu
structure Fp.Iv.NN (x : Iv) : Prop where
 lo : x.lo.neg = false
 hi : x.hi.neg = false
theorem canon_nn (m : Nat) (e : Int) : (canon false m e).neg = false := by unfold canon; split <;> rfl
theorem cutD_nn (m : Nat) (e : Int) (more : Bool) (p : Nat) (up : Bool) : (cutD false m e more p up).neg = false := by
 unfold cutD
 split
 ·split
  ·rfl
  ·exact canon_nn _ _
 ·exact canon_nn _ _
theorem rndD_nn {d : Dy} (h : d.neg = false) (p : Nat) (up : Bool) : (rndD d p up).neg = false := by unfold rndD; rw [h]; exact cutD_nn _ _ _ _ _
theorem prodD_nn {a b : Dy} (ha : a.neg = false) (hb : b.neg = false) : (prodD a b).neg = false := by unfold prodD; rw [ha, hb]; exact canon_nn _ _
theorem divD_nn {a b : Dy} (ha : a.neg = false) (hb : b.neg = false) (p : Nat) (up : Bool) : (divD a b p up).neg = false := by
 unfold divD; rw [ha, hb]; split
 ·rfl
 ·exact cutD_nn _ _ _ _ _
theorem minD_nn {a b : Dy} (ha : a.neg = false) (hb : b.neg = false) : (minD a b).neg = false := by unfold minD; split <;> assumption
theorem maxD_nn {a b : Dy} (ha : a.neg = false) (hb : b.neg = false) : (maxD a b).neg = false := by unfold maxD; split <;> assumption
theorem num_nn {a : Dy} (ha : a.neg = false) (k : Int) : 0 ≤ a.num k := by unfold Dy.num; rw [ha]; simp
theorem sumD_nn {a b : Dy} (ha : a.neg = false) (hb : b.neg = false) : (sumD a b).neg = false := by
 unfold sumD
 split
 ·exact hb
 ·split
  ·exact ha
  ·unfold canonZ
   have h1 := num_nn ha (min a.e b.e)
   have h2 := num_nn hb (min a.e b.e)
   rw [decide_eq_false (by omega)]
   exact canon_nn _ _
theorem whole_nn : wholeI.NN := ⟨rfl, rfl⟩
theorem fourI_nn {DD : Dy → Dy → Bool → Dy} {EE : Dy → Dy → Bool → Int} {x y : Iv} (hx : x.NN) (hy : y.NN) (h : ∀ a b up, a.neg = false → b.neg = false → (DD a b up).neg = false) : (fourI DD EE x y).NN := by
 unfold fourI
 split
 ·exact ⟨minD_nn (minD_nn (minD_nn (h _ _ _ hx.lo hy.lo) (h _ _ _ hx.lo hy.hi)) (h _ _ _ hx.hi hy.lo)) (h _ _ _ hx.hi hy.hi),
   maxD_nn (maxD_nn (maxD_nn (h _ _ _ hx.lo hy.lo) (h _ _ _ hx.lo hy.hi)) (h _ _ _ hx.hi hy.lo)) (h _ _ _ hx.hi hy.hi)⟩
 ·exact whole_nn
theorem mulI_nn {x y : Iv} (hx : x.NN) (hy : y.NN) (p : Nat) : (mulI x y p).NN := by
 unfold mulI; split
 ·exact whole_nn
 ·exact fourI_nn hx hy fun a b up ha hb => rndD_nn (prodD_nn ha hb) p up
theorem divI_nn {x y : Iv} (hx : x.NN) (hy : y.NN) (p : Nat) : (divI x y p).NN := by
 unfold divI; split
 ·exact whole_nn
 ·exact fourI_nn hx hy fun a b up ha hb => divD_nn ha hb p up
theorem absI_nn (x : Iv) : (absI x).NN := by
 unfold absI; split
 ·exact whole_nn
 ·refine ⟨?_, maxD_nn rfl rfl⟩
  show (migI x).neg = false
  unfold migI; split
  ·rfl
  ·exact minD_nn rfl rfl
theorem pointI_nn {d : Dy} (h : d.neg = false) : (pointI d).NN := ⟨h, h⟩
theorem numI_nn (n : Nat) : (numI ((n : Nat) : Int)).NN := by
 refine pointI_nn ?_
 rw [intD_nat]; exact canon_nn _ _
theorem powI_nn {u : Iv} (hu : u.NN) (p : Nat) : ∀ j, (powI u p j).NN
 | 0 => numI_nn 1
 | j + 1 => mulI_nn (powI_nn hu p j) (divI_nn hu (numI_nn (j + 1)) p) p
theorem nsum_nn (r : List Iv) (p : Nat) : ∀ k, (nsum r p k).neg = false
 | 0 => rfl
 | k + 1 => rndD_nn (sumD_nn (nsum_nn r p k) (maxD_nn rfl rfl)) p true
theorem nmost_nn (m : List (List Iv)) (p : Nat) : ∀ x, (nmost m p x).neg = false
 | 0 => rfl
 | x + 1 => by
  unfold nmost; split
  ·exact nsum_nn _ _ _
  ·exact nmost_nn m p x
theorem num_lt {a b : Dy} (ha : a.neg = false) (hb : b.neg = false) (hlt : cmpD a b < 0) {k : Int} (h1 : k ≤ a.e) (h2 : k ≤ b.e) : a.m * 2 ^ (a.e - k).toNat < b.m * 2 ^ (b.e - k).toNat := by
 rw [cmpD_at (k := k) (.inr h1) (.inr h2)] at hlt
 have h : a.num k < b.num k := by
  unfold cmpI at hlt
  split at hlt
  ·assumption
  ·split at hlt <;> omega
 unfold Dy.num Dy.mag at h
 rw [ha, hb] at h
 simp only [Bool.false_eq_true, if_false] at h
 exact Int.ofNat_lt.1 h
theorem divD_le_one {a b : Dy} (ha : a.neg = false) (hb : b.neg = false) (b0 : b.m ≠ 0) (hlt : cmpD a b < 0) (p : Nat) : cmpD (divD a b p false) (canon false 1 0) ≤ 0 := by
 unfold divD
 by_cases a0 : a.m = 0
 ·rw [if_pos a0]
  have : zeroD = canon false 0 0 := rfl
  rw [this]
  exact (canon_le_mag (s := false) (K := 0) (Int.le_refl _) (Int.le_refl _) (by simp)).1 rfl
 rw [if_neg a0, ha, hb]
 generalize hK : divK a b p 2 = K
 generalize hq : a.m * 2 ^ K / b.m = q
 generalize hE : a.e - b.e - (K : Int) = E
 have hqb : q * b.m ≤ a.m * 2 ^ K := by rw [← hq]; exact Nat.div_mul_le_self _ _
 have key : q * 2 ^ (E - min E 0).toNat < 2 ^ (0 - min E 0).toNat := by
  have hk1 : min (a.e - K) b.e ≤ a.e := by omega
  have hk2 : min (a.e - K) b.e ≤ b.e := by omega
  have h := num_lt ha hb hlt hk1 hk2
  have e1 : (a.e - min (a.e - K) b.e).toNat = K + (E - min E 0).toNat := by omega
  have e2 : (b.e - min (a.e - K) b.e).toNat = (0 - min E 0).toNat := by omega
  rw [e1, e2, Nat.pow_add, ← Nat.mul_assoc] at h
  have h3 : q * b.m * 2 ^ (E - min E 0).toNat < b.m * 2 ^ (0 - min E 0).toNat := Nat.lt_of_le_of_lt (Nat.mul_le_mul_right _ hqb) h
  rw [Nat.mul_comm q, Nat.mul_assoc] at h3
  exact Nat.lt_of_mul_lt_mul_left h3
 have hqe : q = 0 ∨ (bitsN q : Int) + E ≤ 0 := by
  by_cases hE0 : 0 ≤ E
  ·left
   rw [show (0 - min E 0).toNat = 0 by omega, Nat.pow_zero] at key
   rcases Nat.mul_eq_zero.1 (Nat.lt_one_iff.1 key) with h | h
   ·exact h
   ·exact absurd h (Nat.ne_of_gt (Nat.pow_pos (by decide)))
  ·right
   rw [show (E - min E 0).toNat = 0 by omega, Nat.pow_zero, Nat.mul_one] at key
   have := bitsN_le_iff.2 key
   omega
 generalize decide (a.m * 2 ^ K % b.m ≠ 0) = more
 have hQ : cutQ q E more p (false != false) = q / 2 ^ cutK q E p := by unfold cutQ; simp
 have hsm : q / 2 ^ cutK q E p ≠ 0 → (bitsN (q / 2 ^ cutK q E p) : Int) + E + cutK q E p ≤ 0 := by
  intro hn
  have hb2 := bitsN_mul_pow hn (cutK q E p)
  have hm := bitsN_mono (Nat.div_mul_le_self q (2 ^ cutK q E p))
  rcases hqe with h | h
  ·rw [h, Nat.zero_div] at hn; exact absurd rfl hn
  ·omega
 have hO : cutOver q E more p (false != false) = false := by
  unfold cutOver
  rw [hQ]
  by_cases hn : q / 2 ^ cutK q E p = 0
  ·simp [hn]
  ·have := hsm hn
   rw [decide_eq_false (show ¬ 16384 < (bitsN (q / 2 ^ cutK q E p) : Int) + E + cutK q E p by omega)]
   simp
 unfold cutD
 rw [show ((false != false) != false) = (false != false) from rfl, hO, if_neg (by decide), hQ]
 refine (canon_le_mag (s := (false != false)) (K := min E 0) (by omega) (by omega) ?_).1 rfl
 rw [Nat.one_mul, show (E + (cutK q E p : Int) - min E 0).toNat = cutK q E p + (E - min E 0).toNat by omega, Nat.pow_add, ← Nat.mul_assoc]
 exact Nat.le_of_lt (Nat.lt_of_le_of_lt (Nat.mul_le_mul_right _ (Nat.div_mul_le_self _ _)) key)
theorem numI_valid' : (numI 1).Valid := pointI_valid (intD_valid 1 (by decide))
theorem Fp.Iv.Valid.ends' {x : Iv} (h : x.Valid) : x.lo.Canon ∧ x.hi.Canon := ⟨h.ends.1.canon, h.ends.2.canon⟩
theorem nn_of_sign {d : Dy} (hd : d.Canon) (h : 0 ≤ d.sign) : d.neg = false := by
 unfold Dy.sign at h
 rcases hd with ⟨_, h2, _⟩ | h1
 ·exact h2
 ·rw [if_neg (by omega)] at h
  cases hn : d.neg with
  | false => rfl
  | true => rw [hn] at h; simp at h
theorem sign_of_nn {d : Dy} (h : d.neg = false) : 0 ≤ d.sign := by
 unfold Dy.sign; rw [h]; split
 ·omega
 ·simp
theorem intD_pos {c : Nat} (hc : 0 < c) : (intD ((c : Nat) : Int)).m ≠ 0 := by
 rw [intD_nat]
 exact (canon_bits (s := false) (e := 0) (by omega)).2.2.1
theorem numI_sign {c : Nat} (hc : 0 < c) : signI (numI ((c : Nat) : Int)) = 1 := by
 unfold signI numI pointI
 simp only [Bool.false_eq_true, if_false]
 rw [if_pos]
 unfold Dy.sign
 rw [if_neg (intD_pos hc), show (intD ((c : Nat) : Int)).neg = false by rw [intD_nat]; exact canon_nn _ _]
 simp
theorem rest_nn {u t : Iv} {c p : Nat} (hu : u.NN) (hc : 0 < c) (hua : u.all = false) (hlt : cmpD u.hi (intD ((c : Nat) : Int)) < 0) (ht : t.NN)
  (he : (divI t (subI (numI 1) (divI u (numI ((c : Nat) : Int)) p) p) p).all = false) (hp1 : 1 ≤ p) (hp2 : p ≤ 4096) : (divI t (subI (numI 1) (divI u (numI ((c : Nat) : Int)) p) p) p).NN := by
 have hone : (numI 1).NN := numI_nn 1
 generalize hq : divI u (numI ((c : Nat) : Int)) p = q at *
 have hqn : q.NN := hq ▸ divI_nn hu (numI_nn c) p
 have hqv : q.Valid := hq ▸ divI_valid _ _ hp1 hp2
 have hden : ∀ d : Iv, d.all = true → (divI t d p).all = true := fun d hd => by unfold divI; rw [hd]; simp [wholeI]
 have hdall : (subI (numI 1) q p).all = false := by
  cases h : (subI (numI 1) q p).all with
  | false => rfl
  | true => rw [hden _ h] at he; cases he
 have hqa : q.all = false := by
  cases h : q.all with
  | false => rfl
  | true =>
   exfalso
   have : (subI (numI 1) q p) = wholeI := by
    unfold subI negI addI
    rw [h]; simp [wholeI]
   rw [this] at hdall; cases hdall
 have hqlo : cmpD q.lo (canon false 1 0) ≤ 0 := by
  have hf : q = fourI (fun a b up => divD a b p up) (fun a b up => divE a b p up) u (numI ((c : Nat) : Int)) := by
   rw [← hq]
   unfold divI
   rw [if_neg]
   rw [hua, numI_sign hc]
   simp [numI, pointI]
  have hlo : q.lo = minD (minD (minD (divD u.lo (intD ((c : Nat) : Int)) p false) (divD u.lo (intD ((c : Nat) : Int)) p false)) (divD u.hi (intD ((c : Nat) : Int)) p false)) (divD u.hi (intD ((c : Nat) : Int)) p false) := by
   rw [hf] at hqa ⊢
   unfold fourI at hqa ⊢
   split
   ·rfl
   ·rename_i hne
    rw [if_neg hne] at hqa
    cases hqa
  rw [hlo]
  exact le_trans (minD_right _ _) (divD_le_one hu.hi (by rw [intD_nat]; exact canon_nn _ _) (intD_pos hc) hlt p)
 have hone' : intD 1 = canon false 1 0 := intD_nat 1
 have hsum : 0 ≤ (sumD (intD 1) (negD q.lo)).sign := by
  by_cases h0 : q.lo.m = 0
  ·have : (negD q.lo).m = 0 := h0
   have : sumD (intD 1) (negD q.lo) = intD 1 := by
    unfold sumD
    rw [if_neg (show (intD 1).m ≠ 0 from intD_pos (c := 1) (by decide)), if_pos this]
   rw [this]
   exact sign_of_nn hone.lo
  ·rw [cmpD_sum (show (intD 1).m ≠ 0 from intD_pos (c := 1) (by decide)) h0, hone', cmpD_neg]
   omega
 have hdv : (subI (numI 1) q p).Valid := addI_valid (numI_valid' ) (negI_valid hqv) hp1 hp2
 have hadd : subI (numI 1) q p = madeI (rndD (sumD (intD 1) (negD q.hi)) p false) (rndE (sumD (intD 1) (negD q.hi)) p false) (rndD (sumD (intD 1) (negD q.lo)) p true) (rndE (sumD (intD 1) (negD q.lo)) p true) := by
  unfold subI negI addI
  rw [hqa]
  rfl
 have hhi : (subI (numI 1) q p).hi = rndD (sumD (intD 1) (negD q.lo)) p true := by
  rw [hadd] at hdall ⊢
  unfold madeI at hdall ⊢
  split
  ·rename_i h; rw [if_pos h] at hdall; cases hdall
  ·rfl
 have hsc : (sumD (intD 1) (negD q.lo)).Canon := canon_sumD (by rw [hone']; exact canon_canon _ _ _) (negD_canon (hqv.ends'.1))
 have hhin : (subI (numI 1) q p).hi.neg = false := by
  rw [hhi]; exact rndD_nn (nn_of_sign hsc hsum) p true
 have hsg : signI (subI (numI 1) q p) ≠ 0 := by
  intro hz
  have : (divI t (subI (numI 1) q p) p).all = true := by unfold divI; rw [if_pos (by rw [hz]; simp)]; rfl
  rw [this] at he; cases he
 have hlon : (subI (numI 1) q p).lo.neg = false := by
  unfold signI at hsg
  rw [hdall] at hsg
  simp only [Bool.false_eq_true, if_false] at hsg
  have hh := sign_of_nn hhin
  split at hsg
  ·rename_i h
   cases hn : (subI (numI 1) q p).lo.neg with
   | false => rfl
   | true => unfold Dy.sign at h; rw [hn] at h; split at h <;> simp at h
  ·rw [if_neg (by omega)] at hsg
   exact absurd rfl hsg
 exact divI_nn ht ⟨hlon, hhin⟩ p
open Go.RowKit Fp Pu
theorem identM_ok {n : Nat} (h1 : 1 ≤ n) (h8 : n ≤ 8) : MOk (identM n) n n :=
 wholeM_ok (F := fun i j => pointI (if i = j then ⟨false, 1, 0⟩ else zeroD)) h1 h8 h1 h8 fun i j => by
  split
  ·exact numI_valid'
  ·exact pointI_valid zeroD_valid
theorem headD_len {b : List (List Iv)} {k c : Nat} (gb : MOk b k c) : (b.headD []).length = c := by
 cases b with
 | nil => have := gb.rows; have := gb.n1; simp at *; omega
 | cons r b => exact gb.row r (by simp)
theorem mulM_ok {a b : List (List Iv)} {n k c p : Nat} (ga : MOk a n k) (gb : MOk b k c) (hp1 : 1 ≤ p) (hp2 : p ≤ 4096) : MOk (mulM a b p) n c := by
 refine ⟨by simp [mulM, ga.rows], fun r hr => ?_, fun r hr x hx => ?_, ga.n1, ga.n8, gb.k1, gb.k8⟩
 ·obtain ⟨q, _, rfl⟩ := List.mem_map.1 hr
  rw [List.length_map, List.length_range, headD_len gb]
 ·obtain ⟨q, _, rfl⟩ := List.mem_map.1 hr
  obtain ⟨j, _, rfl⟩ := List.mem_map.1 hx
  exact dotI_valid hp1 hp2
theorem scaleM_ok {a : List (List Iv)} {x : Iv} {n k p : Nat} (ga : MOk a n k) (hp1 : 1 ≤ p) (hp2 : p ≤ 4096) : MOk (scaleM a x p) n k := by
 refine ⟨by simp [scaleM, ga.rows], fun r hr => ?_, fun r hr y hy => ?_, ga.n1, ga.n8, ga.k1, ga.k8⟩
 ·obtain ⟨q, hq, rfl⟩ := List.mem_map.1 hr
  simp [ga.row q hq]
 ·obtain ⟨q, _, rfl⟩ := List.mem_map.1 hr
  obtain ⟨z, _, rfl⟩ := List.mem_map.1 hy
  exact mulI_valid _ _ hp1 hp2
theorem mem_zipWith' {α β γ : Type} {f : α → β → γ} {l : List α} {m : List β} {z : γ} (h : z ∈ List.zipWith f l m) : ∃ x y, x ∈ l ∧ y ∈ m ∧ z = f x y := by
 induction l generalizing m with
 | nil => simp at h
 | cons a l ih =>
  cases m with
  | nil => simp at h
  | cons b m =>
   rw [List.zipWith_cons_cons] at h
   rcases List.mem_cons.1 h with h | h
   ·exact ⟨a, b, by simp, by simp, h⟩
   ·obtain ⟨x, y, h1, h2, h3⟩ := ih h
    exact ⟨x, y, by simp [h1], by simp [h2], h3⟩
theorem addM_ok {a b : List (List Iv)} {n k p : Nat} (ga : MOk a n k) (gb : MOk b n k) (hp1 : 1 ≤ p) (hp2 : p ≤ 4096) : MOk (addM a b p) n k := by
 refine ⟨by simp [addM, ga.rows, gb.rows], fun r hr => ?_, fun r hr y hy => ?_, ga.n1, ga.n8, ga.k1, ga.k8⟩
 ·obtain ⟨u, v, h1, h2, rfl⟩ := mem_zipWith' hr
  simp [ga.row u h1, gb.row v h2]
 ·obtain ⟨u, v, h1, h2, rfl⟩ := mem_zipWith' hr
  obtain ⟨x, z, h3, h4, rfl⟩ := mem_zipWith' hy
  exact addI_valid (ga.ok u h1 x h3) (gb.ok v h2 z h4) hp1 hp2
theorem termM_ok {m : List (List Iv)} {h : Iv} {n p : Nat} (ga : MOk m n n) (hp1 : 1 ≤ p) (hp2 : p ≤ 4096) : ∀ j, MOk (termM m h p j) n n
 | 0 => by
  have := ga.rows
  unfold termM; rw [this]; exact identM_ok ga.n1 ga.n8
 | j + 1 => scaleM_ok (mulM_ok (termM_ok ga hp1 hp2 j) ga hp1 hp2) hp1 hp2
theorem sumM_ok {m : List (List Iv)} {h : Iv} {n p : Nat} (ga : MOk m n n) (hp1 : 1 ≤ p) (hp2 : p ≤ 4096) : ∀ j, MOk (sumM m h p j) n n
 | 0 => by
  have := ga.rows
  unfold sumM; rw [this]; exact identM_ok ga.n1 ga.n8
 | j + 1 => addM_ok (sumM_ok ga hp1 hp2 j) (termM_ok ga hp1 hp2 (j + 1)) hp1 hp2
open Go.RowKit Fp Pu
abbrev qja0 (a : List (List Iv)) (b : List (List Iv)) (p) := fun i_ => (List.range (a.getD i_ []).length).map (fun j_ => (addI ((a.getD i_ []).getD j_ wholeI) ((b.getD i_ []).getD j_ wholeI) p))
abbrev qja1 (a : List (List Iv)) (s : Iv) (p) := fun i_ => (List.range (a.getD i_ []).length).map (fun j_ => (mulI s ((a.getD i_ []).getD j_ wholeI) p))
abbrev qja2 (b : List (List Iv)) := fun i_ => (List.range b.length).map (fun j_ => ((b.getD j_ []).getD i_ wholeI))
abbrev qja3 (a : List (List Iv)) (x) (b : List (List Iv)) (p) := fun j_ => (addI ((a.getD x []).getD j_ wholeI) ((b.getD x []).getD j_ wholeI) p)
abbrev qja4 (a : List (List Iv)) (x) := fun q => (a.getD x []).getD q wholeI
abbrev qja5 (s : Iv) (a : List (List Iv)) (x) (p) := fun j_ => (mulI s ((a.getD x []).getD j_ wholeI) p)
abbrev qja6 (a : List (List Iv)) (i_ : Nat) := fun q => (a.getD i_ []).getD q wholeI
abbrev qja7 (b : List (List Iv)) (x) := fun j_ => ((b.getD j_ []).getD x wholeI)
abbrev qja8 := pointI (Dy.mk zeroD.neg 1 zeroD.e)
abbrev qja9 (a : List (List Iv)) (x) (y) (b : List (List Iv)) (p) := addI ((a.getD x []).getD y wholeI) ((b.getD x []).getD y wholeI) p
def trM (b : List (List Iv)) : List (List Iv) := ((List.range (b.getD 0 []).length).map (qja2 b))
def r7AddFB (a b : List (List Iv)) (p : Nat) (x : Nat) : PS := ⟨97, true, [(11, .own 11), (12, .e (iP x)), (0, .e (matP a)), (1, .e (matP b)), (2, .e (iP p)), (3, .e (bP false))], [(11, .row true 31 x 1 (matE ((List.range x).map (qja0 a b p))))]⟩
def r7AddFC (a b : List (List Iv)) (p : Nat) (x : Nat) (y : Nat) : PS := ⟨97, true, [(13, .own 13), (14, .e (iP y)), (11, .own 11), (12, .e (iP x)), (0, .e (matP a)), (1, .e (matP b)), (2, .e (iP p)), (3, .e (bP false))], [(13, .row true 28 y 7 (ivsE ((List.range y).map (qja3 a x b p)))), (11, .row true 31 x 1 (matE ((List.range x).map (qja0 a b p))))]⟩
def r7DotF (xs ys : List Iv) (p : Nat) (c : Nat) : PS := ⟨37, true, [(8, .e (iP (((c + 1) : Nat) : Int))), (7, .box 7 0), (6, .box 6 0), (0, .e (ivsP xs)), (1, .e (ivsP ys)), (2, .e (iP p))], [(7, .cells 28 (ivL (dotP (fun q => xs.getD q wholeI) (fun q => ys.getD q wholeI) p c))), (6, .cells 28 [(bP false), (.v (.slice none 0 0)), (iP 0), (bP false), (.v (.slice none 0 0)), (iP 0), (bP false)])]⟩
def r7TrFB (b : List (List Iv)) (x : Nat) : PS := ⟨39, true, [(3, .own 3), (4, .e (iP x)), (0, .e (matP b))], [(3, .row true 31 x 1 (matE ((List.range x).map (qja2 b))))]⟩
def r7TrFC (b : List (List Iv)) (x : Nat) (y : Nat) : PS := ⟨39, true, [(5, .own 5), (6, .e (iP y)), (3, .own 3), (4, .e (iP x)), (0, .e (matP b))], [(5, .row true 28 y 7 (ivsE ((List.range y).map (qja7 b x)))), (3, .row true 31 x 1 (matE ((List.range x).map (qja2 b))))]⟩
def r7MulFB (a b : List (List Iv)) (p : Nat) (x : Nat) : PS := ⟨60, true, [(10, .own 10), (11, .e (iP x)), (9, .e (matP (trM b))), (0, .e (matP a)), (2, .e (iP p))], [(10, .row true 31 x 1 (matE ((List.range x).map (fun i_ => (List.range (trM b).length).map (fun j_ => (dotP (qja6 a i_) (fun q => ((trM b).getD j_ []).getD q wholeI) p ((a.getD i_ []).length - 1)))))))]⟩
def r7MulFC (a b : List (List Iv)) (p : Nat) (x : Nat) (y : Nat) : PS := ⟨60, true, [(12, .own 12), (13, .e (iP y)), (10, .own 10), (11, .e (iP x)), (9, .e (matP (trM b))), (0, .e (matP a)), (2, .e (iP p))], [(12, .row true 28 y 7 (ivsE ((List.range y).map (fun j_ => (dotP (qja4 a x) (fun q => ((trM b).getD j_ []).getD q wholeI) p ((a.getD x []).length - 1)))))), (10, .row true 31 x 1 (matE ((List.range x).map (fun i_ => (List.range (trM b).length).map (fun j_ => (dotP (qja6 a i_) (fun q => ((trM b).getD j_ []).getD q wholeI) p ((a.getD i_ []).length - 1)))))))]⟩
def r7ScaleFB (a : List (List Iv)) (s : Iv) (p : Nat) (x : Nat) : PS := ⟨57, true, [(7, .own 7), (8, .e (iP x)), (4, .box 4 0), (0, .e (matP a)), (2, .e (iP p))], [(7, .row true 31 x 1 (matE ((List.range x).map (qja1 a s p)))), (4, .cells 28 (ivL s))]⟩
def r7ScaleFC (a : List (List Iv)) (s : Iv) (p : Nat) (x : Nat) (y : Nat) : PS := ⟨57, true, [(9, .own 9), (10, .e (iP y)), (7, .own 7), (8, .e (iP x)), (4, .box 4 0), (0, .e (matP a)), (2, .e (iP p))], [(9, .row true 28 y 7 (ivsE ((List.range y).map (qja5 s a x p)))), (7, .row true 31 x 1 (matE ((List.range x).map (qja1 a s p)))), (4, .cells 28 (ivL s))]⟩
def r7IdFB (n : Nat) (x : Nat) : PS := ⟨40, true, [(3, .own 3), (4, .e (iP x)), (0, .e (iP n))], [(3, .row true 31 x 1 (matE ((List.range x).map (fun i_ => (List.range n).map (fun j_ => (pointI (if i_ = j_ then (Dy.mk false 1 0) else zeroD)))))))]⟩
def r7IdFC (n : Nat) (x : Nat) (y : Nat) : PS := ⟨40, true, [(5, .own 5), (6, .e (iP y)), (3, .own 3), (4, .e (iP x)), (0, .e (iP n))], [(5, .row true 28 y 7 (ivsE ((List.range y).map (fun j_ => (pointI (if x = j_ then (Dy.mk false 1 0) else zeroD)))))), (3, .row true 31 x 1 (matE ((List.range x).map (fun i_ => (List.range n).map (fun j_ => (pointI (if i_ = j_ then (Dy.mk false 1 0) else zeroD)))))))]⟩
theorem r7Valid_pc (m : List (List Iv)) (n k : Nat) (h : MOk m n k) : PCt 96 [matP m] (bP true) := by
 have := r7ValidR_pc (rawsM m) h.good (by have := h.n8; simp [rawsM, h.rows]; omega) (fun i => by rw [rawsM_getD]; have := h.len_le i; simp only [rawsI, List.length_map]; omega)
 rwa [matP_raw, matOkB_true.2 h.rok] at this
set_option maxHeartbeats 2000000 in
theorem r7Fault_pc (a b : List (List Iv)) (n k n2 k2 p : Nat) (ga : MOk a n k) (gb : MOk b n2 k2) (hp1 : 8 ≤ p) (hp2 : p ≤ 512) : PCt 141 [(matP a), (matP b), (iP p)] (iP 0) := by
 exact tr true Tryz.call141 Tryz.func141 (chain [.c (r7Valid_pc _ _ _ ‹_› : PCt 96 [(matP a)] _), .c (r7Valid_pc _ _ _ ‹_› : PCt 96 [(matP b)] _), .c (refPrec_pc _ : PCt 58 [(iP p)] _),
  tB 16 (precB_true.2 ⟨by omega, by omega⟩ : (precB (p : Int)) = true)] <| .nil) (by kernel_rfl)
set_option maxHeartbeats 2000000 in
theorem r7Add_pc (a b : List (List Iv)) (n k p : Nat) (ga : MOk a n k) (gb : MOk b n k) (hp1 : 8 ≤ p) (hp2 : p ≤ 512) : PCt 65 [(matP a), (matP b), (iP p), (bP false)] (.tup [matP (addM a b p), iP 0]) := by
 have ra := ga.rows
 have rb := gb.rows
 have n1 := ga.n1
 have n8 := ga.n8
 have k1 := ga.k1
 have k8 := ga.k8
 have l0 := ga.len_at (show 0 < n by omega)
 have l1 := gb.len_at (show 0 < n by omega)
 exact tr true Tryz.call65 Tryz.func65 (chain [.c (r7Fault_pc _ _ _ _ _ _ _ ‹_› ‹_› (by omega) (by omega) : PCt 141 [(matP a), (matP b), (iP p)] _), tB 20 (by decide : ((0 : Int) != 0) = false),
  tB 26 (natNe_false (by omega) : ((a.length : Int) != (b.length : Int)) = false), iX (0) (a.length) (by omega), iX (0) (b.length) (by omega),
  tB 36 (natNe_false (by omega) : ((((a.getD 0 []).length : Nat) : Int) != (((b.getD 0 []).length : Nat) : Int)) = false),
  .y 11 11 true 31 1 (matE ((List.range 0).map (qja0 a b p))),
  .s (Sp.upto (r7AddFB a b p) 0 a.length (by omega) (fun x hx hltx => by
    have lx := ga.len_at (show x < n by omega)
    have ly := gb.len_at (show x < n by omega)
    exact spt (chain [tT 41 ((x : Int) < (a.length : Int)) (by omega), .y 13 13 true 28 7 (ivsE ((List.range 0).map (qja3 a x b p))),
     .s (Sp.upto (r7AddFC a b p x) 0 ((a.getD x []).length) (by omega) (fun y hy hlty => by
    have w1 := ga.val_at (show x < n by omega) (show y < k by omega)
    have w2 := gb.val_at (show x < n by omega) (show y < k by omega)
    have ho1 := one_len (addI ((a.getD x []).getD y wholeI) ((b.getD x []).getD y wholeI) p)
    exact spt (chain [iX ((x : Int)) (a.length) (by omega), tT 50 ((y : Int) < (((a.getD x []).length : Nat) : Int)) (by omega), iX ((x : Int)) (a.length) (by omega), iX ((y : Int)) ((a.getD x []).length) (by omega),
     iX ((x : Int)) (b.length) (by omega), iX ((y : Int)) ((b.getD x []).length) (by omega), .c (r5Add_pc ((a.getD x []).getD y wholeI) ((b.getD x []).getD y wholeI) p ‹_› ‹_› (by omega) (by omega)),
     .o 90 (.e (ivs1_le _) : PV.le (.e (.sl true 1 7 fun i_ j_ => (ivL (qja9 a x y b p)).getD (i_ * 7 + j_) (.v (.bool false)))) (.e (ivsP [(qja9 a x y b p)]))),
     .a (by omega : (y + [(addI ((a.getD x []).getD y wholeI) ((b.getD x []).getD y wholeI) p)].length) * 88 ≤ 140737488355328), r64 ((y : Int) + 1) (by omega)] <| .e (chain [.b 13 (ivs_pushR rfl rfl rfl : Bx.le (.row true 28 (y + [(qja9 a x y b p)].length) 7 (fun i_ j_ => if i_ < y then (ivsE ((List.range y).map (qja3 a x b p))) i_ j_ else (E.elf (ivsP [(qja9 a x y b p)])) (i_ - y) j_)) (.row true 28 (y + 1) 7 (ivsE ((List.range (y + 1)).map (qja3 a x b p)))))] <| .nil)) (by kernel_rfl))
  (fun hy => by
    exact spt (chain [iX ((x : Int)) (a.length) (by omega), tF 50 ((((a.getD x []).length : Nat) : Int) < (((a.getD x []).length : Nat) : Int)) (by omega), .z 13] <| .e (chain [.o 13 (.e (ivsRow_le (by simp)) : PV.le (.e (.sl true ((a.getD x []).length) 7 (ivsE ((List.range ((a.getD x []).length)).map (fun j_ => (addI ((a.getD x []).getD j_ wholeI) ((b.getD x []).getD j_ wholeI) p)))))) (.e (ivsP ((List.range (a.getD x []).length).map (fun j_ => (addI ((a.getD x []).getD j_ wholeI) ((b.getD x []).getD j_ wholeI) p))))))] <| .nil)) (by kernel_rfl)) (by nofun) : LpT 12 Tryz.f65 (r7AddFC a b p x 0) (.exit 2) ⟨97, true, [(13, .e (ivsP ((List.range (a.getD x []).length).map (qja3 a x b p)))), (11, .own 11), (12, .e (iP x)), (0, .e (matP a)), (1, .e (matP b)), (2, .e (iP p)), (3, .e (bP false))], [(11, .row true 31 x 1 (matE ((List.range x).map (qja0 a b p))))]⟩) .nil,
     .a (by omega : (x + 1) * 24 ≤ 140737488355328), r64 ((x : Int) + 1) (by omega)] <| .e (chain [.b 11 (mat_pushR rfl rfl rfl (fun j hj => by cases Nat.lt_one_iff.1 hj; rfl) : Bx.le (.row true 31 (x + 1) 1 (fun i_ j_ => if i_ < x then (matE ((List.range x).map (qja0 a b p))) i_ j_ else (E.elf (.sl true 1 1 fun i_ j_ => [(ivsP ((List.range (a.getD x []).length).map (qja3 a x b p)))].getD (i_ * 1 + j_) (.v (.bool false)))) (i_ - x) j_)) (.row true 31 (x + 1) 1 (matE ((List.range (x + 1)).map (qja0 a b p)))))] <| .nil)) (by kernel_rfl))
  (fun hx => by
    exact spt (chain [tF 41 ((a.length : Int) < (a.length : Int)) (by omega), .z 11] <| .e (chain [.o 11 (.e (matRow_le (by simp)) : PV.le (.e (.sl true a.length 1 (matE ((List.range a.length).map (fun i_ => (List.range (a.getD i_ []).length).map (fun j_ => (addI ((a.getD i_ []).getD j_ wholeI) ((b.getD i_ []).getD j_ wholeI) p))))))) (.e (matP ((List.range a.length).map (fun i_ => (List.range (a.getD i_ []).length).map (fun j_ => (addI ((a.getD i_ []).getD j_ wholeI) ((b.getD i_ []).getD j_ wholeI) p)))))))] <| .nil)) (by kernel_rfl)) (by nofun) : LpT 8 Tryz.f65 (r7AddFB a b p 0) (.exit 0) ⟨97, true, [(11, .e (matP ((List.range a.length).map (qja0 a b p))))], []⟩) .nil] <| rQ (.tup [(matP ((List.range a.length).map (fun i_ => (List.range (a.getD i_ []).length).map (fun j_ => (addI ((a.getD i_ []).getD j_ wholeI) ((b.getD i_ []).getD j_ wholeI) p))))), (iP 0)]) (.tup [matP (addM a b p), iP 0]) (by rw [← wholeM_addM ga gb]; rfl)) (by kernel_rfl)
set_option maxHeartbeats 2000000 in
theorem r7Dot_pc (xs ys : List Iv) (p : Nat) (h0 : 0 < xs.length) (hl : xs.length ≤ 1000) (hlen : ys.length = xs.length) (hx : ∀ i, i < xs.length → (xs.getD i wholeI).Valid) (hy : ∀ i, i < xs.length → (ys.getD i wholeI).Valid) (hp1 : 8 ≤ p) (hp2 : p ≤ 512) : PCt 143 [(ivsP xs), (ivsP ys), (iP p)] (ivP (dotP (fun q => xs.getD q wholeI) (fun q => ys.getD q wholeI) p (xs.length - 1))) := by
 have w1 := hx 0 h0
 have w2 := hy 0 h0
 exact tr true Tryz.call143 Tryz.func143 (chain [iX (0) (xs.length) (by omega), iX (0) (ys.length) (by omega), .c (r5Mul_pc (xs.getD 0 wholeI) (ys.getD 0 wholeI) p ‹_› ‹_› (by omega) (by omega)),
  .s (Sp.upto (r7DotF xs ys p) 0 (xs.length - 1) (by omega) (fun c hc hltc => by
    have w1 := hx (c + 1) (by omega)
    have w2 := hy (c + 1) (by omega)
    have w3 := dotP_valid (fun q => xs.getD q wholeI) (fun q => ys.getD q wholeI) (show 1 ≤ p by omega) (by omega) c
    exact spt (chain [tT 20 ((((c + 1) : Nat) : Int) < (xs.length : Int)) (by omega), iX ((((c + 1) : Nat) : Int)) (xs.length) (by omega), iX ((((c + 1) : Nat) : Int)) (ys.length) (by omega),
     .c (r5Mul_pc (xs.getD (c + 1) wholeI) (ys.getD (c + 1) wholeI) p ‹_› ‹_› (by omega) (by omega)),
     .c (r5Add_pc (dotP (fun q => xs.getD q wholeI) (fun q => ys.getD q wholeI) p c) (mulI (xs.getD (c + 1) wholeI) (ys.getD (c + 1) wholeI) p) p ‹_› (mulI_valid _ _ (by omega) (by omega)) (by omega) (by omega)),
     r64 ((((c + 1) : Nat) : Int) + 1) (by omega)] <| .e (chain [.b 7 (.of_eq rfl : Bx.le (.cells 28 (ivL (addI (dotP (fun q => xs.getD q wholeI) (fun q => ys.getD q wholeI) p c) (mulI (xs.getD (c + 1) wholeI) (ys.getD (c + 1) wholeI) p) p))) (.cells 28 (ivL (dotP (fun q => xs.getD q wholeI) (fun q => ys.getD q wholeI) p (c + 1)))))] <| .nil)) (by kernel_rfl))
  (fun hc => by
    exact spt (chain [tF 20 (((((xs.length - 1) + 1) : Nat) : Int) < (xs.length : Int)) (by omega)] <| .nil) (by kernel_rfl)) (by nofun) : LpT 3 Tryz.f143 (r7DotF xs ys p 0) (.exit 0) ⟨37, true, [(7, .box 7 0), (6, .box 6 0)], [(7, .cells 28 (ivL (dotP (fun q => xs.getD q wholeI) (fun q => ys.getD q wholeI) p (xs.length - 1)))), (6, .cells 28 [(bP false), (.v (.slice none 0 0)), (iP 0), (bP false), (.v (.slice none 0 0)), (iP 0), (bP false)])]⟩) (chain [.o 8 (.int (by first | rfl | omega | (simp only [Nat.add_mul, Nat.one_mul]; omega)) : PV.le (.e (iP 1)) (.e (iP (((0 + 1) : Nat) : Int)))),
  .b 7 (.of_eq rfl : Bx.le (.cells 28 (ivL (mulI (xs.getD 0 wholeI) (ys.getD 0 wholeI) p))) (.cells 28 (ivL (dotP (fun q => xs.getD q wholeI) (fun q => ys.getD q wholeI) p 0))))] <| .nil)] <| .nil) (by kernel_rfl)
set_option maxHeartbeats 2000000 in
theorem r7Transpose_pc (b : List (List Iv)) (k c : Nat) (gb : MOk b k c) : PCt 142 [(matP b)] (matP (trM b)) := by
 have rb := gb.rows
 have n1 := gb.n1
 have n8 := gb.n8
 have k8 := gb.k8
 have l0 := gb.len_at (show 0 < k by omega)
 exact tr true Tryz.call142 Tryz.func142 (chain [.c (r7Valid_pc _ _ _ ‹_› : PCt 96 [(matP b)] _), .y 3 3 true 31 1 (matE ((List.range 0).map (qja2 b))),
  .s (Sp.upto (r7TrFB b) 0 ((b.getD 0 []).length) (by omega) (fun x hx hltx => by
    exact spt (chain [iX (0) (b.length) (by omega), tT 15 ((x : Int) < (((b.getD 0 []).length : Nat) : Int)) (by omega), .y 5 5 true 28 7 (ivsE ((List.range 0).map (qja7 b x))),
     .s (Sp.upto (r7TrFC b x) 0 b.length (by omega) (fun y hy hlty => by
    have w1 := gb.val_at (show y < k by omega) (show x < c by omega)
    have lyy := gb.len_at (show y < k by omega)
    have ho1 := one_len ((b.getD y []).getD x wholeI)
    exact spt (chain [tT 21 ((y : Int) < (b.length : Int)) (by omega), iX ((y : Int)) (b.length) (by omega), iX ((x : Int)) ((b.getD y []).length) (by omega),
     .o 32 (.e (ivs1_le _) : PV.le (.e (.sl true 1 7 fun i_ j_ => (ivL ((b.getD y []).getD x wholeI)).getD (i_ * 7 + j_) (.v (.bool false)))) (.e (ivsP [((b.getD y []).getD x wholeI)]))),
     .a (by omega : (y + [((b.getD y []).getD x wholeI)].length) * 88 ≤ 140737488355328), r64 ((y : Int) + 1) (by omega)] <| .e (chain [.b 5 (ivs_pushR rfl rfl rfl : Bx.le (.row true 28 (y + [((b.getD y []).getD x wholeI)].length) 7 (fun i_ j_ => if i_ < y then (ivsE ((List.range y).map (qja7 b x))) i_ j_ else (E.elf (ivsP [((b.getD y []).getD x wholeI)])) (i_ - y) j_)) (.row true 28 (y + 1) 7 (ivsE ((List.range (y + 1)).map (qja7 b x)))))] <| .nil)) (by kernel_rfl))
  (fun hy => by
    exact spt (chain [tF 21 ((b.length : Int) < (b.length : Int)) (by omega), .z 5] <| .e (chain [.o 5 (.e (ivsRow_le (by simp)) : PV.le (.e (.sl true b.length 7 (ivsE ((List.range b.length).map (fun j_ => ((b.getD j_ []).getD x wholeI)))))) (.e (ivsP ((List.range b.length).map (fun j_ => ((b.getD j_ []).getD x wholeI))))))] <| .nil)) (by kernel_rfl)) (by nofun) : LpT 9 Tryz.f142 (r7TrFC b x 0) (.exit 2) ⟨39, true, [(5, .e (ivsP ((List.range b.length).map (qja7 b x)))), (3, .own 3), (4, .e (iP x)), (0, .e (matP b))], [(3, .row true 31 x 1 (matE ((List.range x).map (qja2 b))))]⟩) .nil,
     .a (by omega : (x + 1) * 24 ≤ 140737488355328), r64 ((x : Int) + 1) (by omega)] <| .e (chain [.b 3 (mat_pushR rfl rfl rfl (fun j hj => by cases Nat.lt_one_iff.1 hj; rfl) : Bx.le (.row true 31 (x + 1) 1 (fun i_ j_ => if i_ < x then (matE ((List.range x).map (qja2 b))) i_ j_ else (E.elf (.sl true 1 1 fun i_ j_ => [(ivsP ((List.range b.length).map (qja7 b x)))].getD (i_ * 1 + j_) (.v (.bool false)))) (i_ - x) j_)) (.row true 31 (x + 1) 1 (matE ((List.range (x + 1)).map (qja2 b)))))] <| .nil)) (by kernel_rfl))
  (fun hx => by
    exact spt (chain [iX (0) (b.length) (by omega), tF 15 ((((b.getD 0 []).length : Nat) : Int) < (((b.getD 0 []).length : Nat) : Int)) (by omega), .z 3] <| .e (chain [.o 3 (.e (matRow_le (by simp)) : PV.le (.e (.sl true ((b.getD 0 []).length) 1 (matE ((List.range ((b.getD 0 []).length)).map (fun i_ => (List.range b.length).map (fun j_ => ((b.getD j_ []).getD i_ wholeI))))))) (.e (matP ((List.range (b.getD 0 []).length).map (fun i_ => (List.range b.length).map (fun j_ => ((b.getD j_ []).getD i_ wholeI)))))))] <| .nil)) (by kernel_rfl)) (by nofun) : LpT 5 Tryz.f142 (r7TrFB b 0) (.exit 0) ⟨39, true, [(3, .e (matP ((List.range (b.getD 0 []).length).map (qja2 b))))], []⟩) .nil] <| .nil) (by kernel_rfl)
theorem trM_row {b : List (List Iv)} {k c : Nat} (gb : MOk b k c) {y : Nat} (hy : y < c) : ((trM b).getD y []).length = k ∧ ∀ q, ((trM b).getD y []).getD q wholeI = (b.getD q []).getD y wholeI := by
 have l0 := gb.len_at (show 0 < k by have := gb.n1; omega)
 have rb := gb.rows
 unfold trM
 rw [rows_getD (by omega)]
 refine ⟨by simp [rb], fun q => ?_⟩
 by_cases hq : q < b.length
 ·rw [range_getD hq]
 ·rw [List.getD_eq_getElem?_getD (l := List.map _ _), List.getElem?_eq_none (by simp; omega), List.getD_eq_getElem?_getD (l := b), List.getElem?_eq_none (by omega)]; simp
theorem trM_len {b : List (List Iv)} {k c : Nat} (gb : MOk b k c) : (trM b).length = c := by
 have l0 := gb.len_at (show 0 < k by have := gb.n1; omega)
 unfold trM; rw [List.length_map, List.length_range]; exact l0
theorem trM_mulM {a b : List (List Iv)} {n k c p : Nat} (ga : MOk a n k) (gb : MOk b k c) : ((List.range a.length).map (fun i_ => (List.range (trM b).length).map (fun j_ => (dotP (fun q => (a.getD i_ []).getD q wholeI) (fun q => ((trM b).getD j_ []).getD q wholeI) p ((a.getD i_ []).length - 1))))) = mulM a b p := by
 obtain ⟨k', rfl⟩ : ∃ k', k = k' + 1 := ⟨k - 1, by have := ga.k1; omega⟩
 have l0 := gb.len_at (show 0 < k' + 1 by omega)
 rw [← wholeM_mulM (n := n) (k := k') (c := c) ga.rows (fun i hi => ga.len_at hi) gb.rows l0, trM_len gb, ga.rows]
 unfold wholeM
 apply List.map_congr_left
 intro i hi
 have hi := List.mem_range.1 hi
 apply List.map_congr_left
 intro j hj
 have hj := List.mem_range.1 hj
 rw [ga.len_at hi, Nat.add_sub_cancel]
 congr 1
 funext q
 exact (trM_row gb hj).2 q
set_option maxHeartbeats 2000000 in
theorem r7Mul_pc (a b : List (List Iv)) (n k c p : Nat) (ga : MOk a n k) (gb : MOk b k c) (hp1 : 8 ≤ p) (hp2 : p ≤ 512) : PCt 60 [(matP a), (matP b), (iP p)] (.tup [matP (mulM a b p), iP 0]) := by
 have ra := ga.rows
 have rb := gb.rows
 have n1 := ga.n1
 have n8 := ga.n8
 have k1 := ga.k1
 have k8 := ga.k8
 have c8 := gb.k8
 have l0 := ga.len_at (show 0 < n by omega)
 have tl := trM_len gb
 exact tr true Tryz.call60 Tryz.func60 (chain [.c (r7Fault_pc _ _ _ _ _ _ _ ‹_› ‹_› (by omega) (by omega) : PCt 141 [(matP a), (matP b), (iP p)] _), tB 19 (by decide : ((0 : Int) != 0) = false), iX (0) (a.length) (by omega),
  tB 27 (natNe_false (by omega) : ((((a.getD 0 []).length : Nat) : Int) != (b.length : Int)) = false), .c (r7Transpose_pc _ _ _ gb : PCt 142 [(matP b)] _),
  .y 10 10 true 31 1 (matE ((List.range 0).map (fun i_ => (List.range (trM b).length).map (fun j_ => (dotP (qja6 a i_) (fun q => ((trM b).getD j_ []).getD q wholeI) p ((a.getD i_ []).length - 1)))))),
  .s (Sp.upto (r7MulFB a b p) 0 a.length (by omega) (fun x hx hltx => by
    have lx := ga.len_at (show x < n by omega)
    exact spt (chain [tT 33 ((x : Int) < (a.length : Int)) (by omega),
     .y 12 12 true 28 7 (ivsE ((List.range 0).map (fun j_ => (dotP (qja4 a x) (fun q => ((trM b).getD j_ []).getD q wholeI) p ((a.getD x []).length - 1))))),
     .s (Sp.upto (r7MulFC a b p x) 0 ((trM b).length) (by omega) (fun y hy hlty => by
    obtain ⟨t1, t2⟩ := trM_row gb (show y < c by omega)
    have hdl : ((trM b).getD y []).length = (a.getD x []).length := by omega
    have hdx : ∀ i, i < (a.getD x []).length → ((a.getD x []).getD i wholeI).Valid := fun i hi => ga.val_at (show x < n by omega) (by omega)
    have hdy : ∀ i, i < (a.getD x []).length → (((trM b).getD y []).getD i wholeI).Valid := fun i hi => by rw [t2 i]; exact gb.val_at (show i < k by omega) (by omega)
    have ho1 := one_len (dotP (fun q => (a.getD x []).getD q wholeI) (fun q => ((trM b).getD y []).getD q wholeI) p ((a.getD x []).length - 1))
    exact spt (chain [tT 39 ((y : Int) < (((trM b).length : Nat) : Int)) (by omega), iX ((x : Int)) (a.length) (by omega), iX ((y : Int)) ((trM b).length) (by omega),
     .c (r7Dot_pc (a.getD x []) ((trM b).getD y []) p (by omega) (by omega) hdl hdx hdy (by omega) (by omega)),
     .o 53 (.e (ivs1_le _) : PV.le (.e (.sl true 1 7 fun i_ j_ => (ivL (dotP (qja4 a x) (fun q => ((trM b).getD y []).getD q wholeI) p ((a.getD x []).length - 1))).getD (i_ * 7 + j_) (.v (.bool false)))) (.e (ivsP [(dotP (qja4 a x) (fun q => ((trM b).getD y []).getD q wholeI) p ((a.getD x []).length - 1))]))),
     .a (by omega : (y + [(dotP (fun q => (a.getD x []).getD q wholeI) (fun q => ((trM b).getD y []).getD q wholeI) p ((a.getD x []).length - 1))].length) * 88 ≤ 140737488355328), r64 ((y : Int) + 1) (by omega)] <| .e (chain [.b 12 (ivs_pushR rfl rfl rfl : Bx.le (.row true 28 (y + [(dotP (qja4 a x) (fun q => ((trM b).getD y []).getD q wholeI) p ((a.getD x []).length - 1))].length) 7 (fun i_ j_ => if i_ < y then (ivsE ((List.range y).map (fun j_ => (dotP (qja4 a x) (fun q => ((trM b).getD j_ []).getD q wholeI) p ((a.getD x []).length - 1))))) i_ j_ else (E.elf (ivsP [(dotP (qja4 a x) (fun q => ((trM b).getD y []).getD q wholeI) p ((a.getD x []).length - 1))])) (i_ - y) j_)) (.row true 28 (y + 1) 7 (ivsE ((List.range (y + 1)).map (fun j_ => (dotP (qja4 a x) (fun q => ((trM b).getD j_ []).getD q wholeI) p ((a.getD x []).length - 1)))))))] <| .nil)) (by kernel_rfl))
  (fun hy => by
    exact spt (chain [tF 39 ((((trM b).length : Nat) : Int) < (((trM b).length : Nat) : Int)) (by omega), .z 12] <| .e (chain [.o 12 (.e (ivsRow_le (by simp)) : PV.le (.e (.sl true ((trM b).length) 7 (ivsE ((List.range ((trM b).length)).map (fun j_ => (dotP (fun q => (a.getD x []).getD q wholeI) (fun q => ((trM b).getD j_ []).getD q wholeI) p ((a.getD x []).length - 1))))))) (.e (ivsP ((List.range (trM b).length).map (fun j_ => (dotP (fun q => (a.getD x []).getD q wholeI) (fun q => ((trM b).getD j_ []).getD q wholeI) p ((a.getD x []).length - 1)))))))] <| .nil)) (by kernel_rfl)) (by nofun) : LpT 13 Tryz.f60 (r7MulFC a b p x 0) (.exit 2) ⟨60, true, [(12, .e (ivsP ((List.range (trM b).length).map (fun j_ => (dotP (qja4 a x) (fun q => ((trM b).getD j_ []).getD q wholeI) p ((a.getD x []).length - 1)))))), (10, .own 10), (11, .e (iP x)), (9, .e (matP (trM b))), (0, .e (matP a)), (2, .e (iP p))], [(10, .row true 31 x 1 (matE ((List.range x).map (fun i_ => (List.range (trM b).length).map (fun j_ => (dotP (qja6 a i_) (fun q => ((trM b).getD j_ []).getD q wholeI) p ((a.getD i_ []).length - 1)))))))]⟩) .nil,
     .a (by omega : (x + 1) * 24 ≤ 140737488355328), r64 ((x : Int) + 1) (by omega)] <| .e (chain [.b 10 (mat_pushR rfl rfl rfl (fun j hj => by cases Nat.lt_one_iff.1 hj; rfl) : Bx.le (.row true 31 (x + 1) 1 (fun i_ j_ => if i_ < x then (matE ((List.range x).map (fun i_ => (List.range (trM b).length).map (fun j_ => (dotP (qja6 a i_) (fun q => ((trM b).getD j_ []).getD q wholeI) p ((a.getD i_ []).length - 1)))))) i_ j_ else (E.elf (.sl true 1 1 fun i_ j_ => [(ivsP ((List.range (trM b).length).map (fun j_ => (dotP (qja4 a x) (fun q => ((trM b).getD j_ []).getD q wholeI) p ((a.getD x []).length - 1)))))].getD (i_ * 1 + j_) (.v (.bool false)))) (i_ - x) j_)) (.row true 31 (x + 1) 1 (matE ((List.range (x + 1)).map (fun i_ => (List.range (trM b).length).map (fun j_ => (dotP (qja6 a i_) (fun q => ((trM b).getD j_ []).getD q wholeI) p ((a.getD i_ []).length - 1))))))))] <| .nil)) (by kernel_rfl))
  (fun hx => by
    exact spt (chain [tF 33 ((a.length : Int) < (a.length : Int)) (by omega), .z 10] <| .e (chain [.o 10 (.e (matRow_le (by simp)) : PV.le (.e (.sl true a.length 1 (matE ((List.range a.length).map (fun i_ => (List.range (trM b).length).map (fun j_ => (dotP (fun q => (a.getD i_ []).getD q wholeI) (fun q => ((trM b).getD j_ []).getD q wholeI) p ((a.getD i_ []).length - 1)))))))) (.e (matP ((List.range a.length).map (fun i_ => (List.range (trM b).length).map (fun j_ => (dotP (fun q => (a.getD i_ []).getD q wholeI) (fun q => ((trM b).getD j_ []).getD q wholeI) p ((a.getD i_ []).length - 1))))))))] <| .nil)) (by kernel_rfl)) (by nofun) : LpT 9 Tryz.f60 (r7MulFB a b p 0) (.exit 0) ⟨60, true, [(10, .e (matP ((List.range a.length).map (fun i_ => (List.range (trM b).length).map (fun j_ => (dotP (qja6 a i_) (fun q => ((trM b).getD j_ []).getD q wholeI) p ((a.getD i_ []).length - 1)))))))], []⟩) .nil] <| rQ (.tup [(matP ((List.range a.length).map (fun i_ => (List.range (trM b).length).map (fun j_ => (dotP (fun q => (a.getD i_ []).getD q wholeI) (fun q => ((trM b).getD j_ []).getD q wholeI) p ((a.getD i_ []).length - 1)))))), (iP 0)]) (.tup [matP (mulM a b p), iP 0]) (by rw [← trM_mulM ga gb]; try rfl)) (by kernel_rfl)
set_option maxHeartbeats 2000000 in
theorem r7Scale_pc (a : List (List Iv)) (s : Iv) (n k p : Nat) (ga : MOk a n k) (hs : s.Valid) (hp1 : 8 ≤ p) (hp2 : p ≤ 512) : PCt 61 [(matP a), (ivP s), (iP p)] (matP (scaleM a s p)) := by
 have ra := ga.rows
 have n1 := ga.n1
 have n8 := ga.n8
 have k8 := ga.k8
 exact tr true Tryz.call61 Tryz.func61 (chain [.c (r7Valid_pc _ _ _ ‹_› : PCt 96 [(matP a)] _), .c (r5Valid_pc s ‹_›), .c (refPrec_pc _ : PCt 58 [(iP p)] _), tB 21 (precB_true.2 ⟨by omega, by omega⟩ : (precB (p : Int)) = true),
  .y 7 7 true 31 1 (matE ((List.range 0).map (qja1 a s p))),
  .s (Sp.upto (r7ScaleFB a s p) 0 a.length (by omega) (fun x hx hltx => by
    have lx := ga.len_at (show x < n by omega)
    exact spt (chain [tT 27 ((x : Int) < (a.length : Int)) (by omega), .y 9 9 true 28 7 (ivsE ((List.range 0).map (qja5 s a x p))),
     .s (Sp.upto (r7ScaleFC a s p x) 0 ((a.getD x []).length) (by omega) (fun y hy hlty => by
    have w1 := ga.val_at (show x < n by omega) (show y < k by omega)
    have ho1 := one_len (mulI s ((a.getD x []).getD y wholeI) p)
    exact spt (chain [iX ((x : Int)) (a.length) (by omega), tT 36 ((y : Int) < (((a.getD x []).length : Nat) : Int)) (by omega), iX ((x : Int)) (a.length) (by omega), iX ((y : Int)) ((a.getD x []).length) (by omega),
     .c (r5Mul_pc s ((a.getD x []).getD y wholeI) p ‹_› ‹_› (by omega) (by omega)),
     .o 50 (.e (ivs1_le _) : PV.le (.e (.sl true 1 7 fun i_ j_ => (ivL (mulI s ((a.getD x []).getD y wholeI) p)).getD (i_ * 7 + j_) (.v (.bool false)))) (.e (ivsP [(mulI s ((a.getD x []).getD y wholeI) p)]))),
     .a (by omega : (y + [(mulI s ((a.getD x []).getD y wholeI) p)].length) * 88 ≤ 140737488355328), r64 ((y : Int) + 1) (by omega)] <| .e (chain [.b 9 (ivs_pushR rfl rfl rfl : Bx.le (.row true 28 (y + [(mulI s ((a.getD x []).getD y wholeI) p)].length) 7 (fun i_ j_ => if i_ < y then (ivsE ((List.range y).map (qja5 s a x p))) i_ j_ else (E.elf (ivsP [(mulI s ((a.getD x []).getD y wholeI) p)])) (i_ - y) j_)) (.row true 28 (y + 1) 7 (ivsE ((List.range (y + 1)).map (qja5 s a x p)))))] <| .nil)) (by kernel_rfl))
  (fun hy => by
    exact spt (chain [iX ((x : Int)) (a.length) (by omega), tF 36 ((((a.getD x []).length : Nat) : Int) < (((a.getD x []).length : Nat) : Int)) (by omega), .z 9] <| .e (chain [.o 9 (.e (ivsRow_le (by simp)) : PV.le (.e (.sl true ((a.getD x []).length) 7 (ivsE ((List.range ((a.getD x []).length)).map (fun j_ => (mulI s ((a.getD x []).getD j_ wholeI) p)))))) (.e (ivsP ((List.range (a.getD x []).length).map (fun j_ => (mulI s ((a.getD x []).getD j_ wholeI) p))))))] <| .nil)) (by kernel_rfl)) (by nofun) : LpT 9 Tryz.f61 (r7ScaleFC a s p x 0) (.exit 2) ⟨57, true, [(9, .e (ivsP ((List.range (a.getD x []).length).map (qja5 s a x p)))), (7, .own 7), (8, .e (iP x)), (4, .box 4 0), (0, .e (matP a)), (2, .e (iP p))], [(7, .row true 31 x 1 (matE ((List.range x).map (qja1 a s p)))), (4, .cells 28 (ivL s))]⟩) .nil,
     .a (by omega : (x + 1) * 24 ≤ 140737488355328), r64 ((x : Int) + 1) (by omega)] <| .e (chain [.b 7 (mat_pushR rfl rfl rfl (fun j hj => by cases Nat.lt_one_iff.1 hj; rfl) : Bx.le (.row true 31 (x + 1) 1 (fun i_ j_ => if i_ < x then (matE ((List.range x).map (qja1 a s p))) i_ j_ else (E.elf (.sl true 1 1 fun i_ j_ => [(ivsP ((List.range (a.getD x []).length).map (qja5 s a x p)))].getD (i_ * 1 + j_) (.v (.bool false)))) (i_ - x) j_)) (.row true 31 (x + 1) 1 (matE ((List.range (x + 1)).map (qja1 a s p)))))] <| .nil)) (by kernel_rfl))
  (fun hx => by
    exact spt (chain [tF 27 ((a.length : Int) < (a.length : Int)) (by omega), .z 7] <| .e (chain [.o 7 (.e (matRow_le (by simp)) : PV.le (.e (.sl true a.length 1 (matE ((List.range a.length).map (fun i_ => (List.range (a.getD i_ []).length).map (fun j_ => (mulI s ((a.getD i_ []).getD j_ wholeI) p))))))) (.e (matP ((List.range a.length).map (fun i_ => (List.range (a.getD i_ []).length).map (fun j_ => (mulI s ((a.getD i_ []).getD j_ wholeI) p)))))))] <| .nil)) (by kernel_rfl)) (by nofun) : LpT 5 Tryz.f61 (r7ScaleFB a s p 0) (.exit 0) ⟨57, true, [(7, .e (matP ((List.range a.length).map (qja1 a s p))))], []⟩) .nil] <| rQ (matP ((List.range a.length).map (fun i_ => (List.range (a.getD i_ []).length).map (fun j_ => (mulI s ((a.getD i_ []).getD j_ wholeI) p))))) (matP (scaleM a s p)) (by rw [← wholeM_scaleM]; try rfl)) (by kernel_rfl)
set_option maxHeartbeats 2000000 in
theorem r7Identity_pc (n : Nat) (h1 : 1 ≤ n) (h8 : n ≤ 8) : PCt 59 [(iP n)] (matP (identM n)) := by
 exact tr true Tryz.call59 Tryz.func59 (chain [tF 9 ((n : Int) < 1) (by omega), tF 12 (8 < (n : Int)) (by omega), .y 3 3 true 31 1 (matE ((List.range 0).map (fun i_ => (List.range n).map (fun j_ => (pointI (if i_ = j_ then (Dy.mk false 1 0) else zeroD)))))),
  .s (Sp.upto (r7IdFB n) 0 n (by omega) (fun x hx hltx => by
    exact spt (chain [tT 16 ((x : Int) < (n : Int)) (by omega), .y 5 5 true 28 7 (ivsE ((List.range 0).map (fun j_ => (pointI (if x = j_ then (Dy.mk false 1 0) else zeroD))))),
     .s (Sp.upto (r7IdFC n x) 0 n (by omega) (fun y hy hlty => by
    have ho1 := one_len (pointI (Dy.mk zeroD.neg 1 zeroD.e))
    have ho2 := one_len (pointI zeroD)
    by_cases h : x = y
    ·exact spt (chain [tT 21 ((y : Int) < (n : Int)) (by omega), .o 24 (.e zeroP_le : PV.le (.e (.agg [(bP false), (.v (.slice none 0 0)), (iP 0)])) (.e (dyP zeroD))),
      tB 27 (beq_iff_eq.2 (by omega) : ((x : Int) == (y : Int)) = true), .o 28 (.e one_le : PV.le (.e (.sl false 1 1 fun i_ j_ => [(.v (.int .u32 1))].getD (i_ * 1 + j_) (.v (.bool false)))) (.e (slP (limbs 1)))),
      .c (r5Point_pc (Dy.mk zeroD.neg 1 zeroD.e)),
      .o 33 (.e (ivs1_le _) : PV.le (.e (.sl true 1 7 fun i_ j_ => (ivL qja8).getD (i_ * 7 + j_) (.v (.bool false)))) (.e (ivsP [qja8]))),
      .a (by omega : (y + [(pointI (Dy.mk zeroD.neg 1 zeroD.e))].length) * 88 ≤ 140737488355328), r64 ((y : Int) + 1) (by omega)] <| .e (chain [.b 5 (ivs_pushR rfl rfl (by rw [if_pos h]; rfl) : Bx.le (.row true 28 (y + [qja8].length) 7 (fun i_ j_ => if i_ < y then (ivsE ((List.range y).map (fun j_ => (pointI (if x = j_ then (Dy.mk false 1 0) else zeroD))))) i_ j_ else (E.elf (ivsP [qja8])) (i_ - y) j_)) (.row true 28 (y + 1) 7 (ivsE ((List.range (y + 1)).map (fun j_ => (pointI (if x = j_ then (Dy.mk false 1 0) else zeroD)))))))] <| .nil)) (by kernel_rfl)
    ·exact spt (chain [tT 21 ((y : Int) < (n : Int)) (by omega), .o 24 (.e zeroP_le : PV.le (.e (.agg [(bP false), (.v (.slice none 0 0)), (iP 0)])) (.e (dyP zeroD))),
      tB 27 (beq_eq_false_iff_ne.2 (by omega) : ((x : Int) == (y : Int)) = false), .c (r5Point_pc zeroD),
      .o 33 (.e (ivs1_le _) : PV.le (.e (.sl true 1 7 fun i_ j_ => (ivL (pointI zeroD)).getD (i_ * 7 + j_) (.v (.bool false)))) (.e (ivsP [(pointI zeroD)]))), .a (by omega : (y + [(pointI zeroD)].length) * 88 ≤ 140737488355328),
      r64 ((y : Int) + 1) (by omega)] <| .e (chain [.b 5 (ivs_pushR rfl rfl (by rw [if_neg h]) : Bx.le (.row true 28 (y + [(pointI zeroD)].length) 7 (fun i_ j_ => if i_ < y then (ivsE ((List.range y).map (fun j_ => (pointI (if x = j_ then (Dy.mk false 1 0) else zeroD))))) i_ j_ else (E.elf (ivsP [(pointI zeroD)])) (i_ - y) j_)) (.row true 28 (y + 1) 7 (ivsE ((List.range (y + 1)).map (fun j_ => (pointI (if x = j_ then (Dy.mk false 1 0) else zeroD)))))))] <| .nil)) (by kernel_rfl))
  (fun hy => by
    exact spt (chain [tF 21 ((n : Int) < (n : Int)) (by omega), .z 5] <| .e (chain [.o 5 (.e (ivsRow_le (by simp)) : PV.le (.e (.sl true n 7 (ivsE ((List.range n).map (fun j_ => (pointI (if x = j_ then (Dy.mk false 1 0) else zeroD))))))) (.e (ivsP ((List.range n).map (fun j_ => (pointI (if x = j_ then (Dy.mk false 1 0) else zeroD)))))))] <| .nil)) (by kernel_rfl)) (by nofun) : LpT 9 Tryz.f59 (r7IdFC n x 0) (.exit 2) ⟨40, true, [(5, .e (ivsP ((List.range n).map (fun j_ => (pointI (if x = j_ then (Dy.mk false 1 0) else zeroD)))))), (3, .own 3), (4, .e (iP x)), (0, .e (iP n))], [(3, .row true 31 x 1 (matE ((List.range x).map (fun i_ => (List.range n).map (fun j_ => (pointI (if i_ = j_ then (Dy.mk false 1 0) else zeroD)))))))]⟩) .nil,
     .a (by omega : (x + 1) * 24 ≤ 140737488355328), r64 ((x : Int) + 1) (by omega)] <| .e (chain [.b 3 (mat_pushR rfl rfl rfl (fun j hj => by cases Nat.lt_one_iff.1 hj; rfl) : Bx.le (.row true 31 (x + 1) 1 (fun i_ j_ => if i_ < x then (matE ((List.range x).map (fun i_ => (List.range n).map (fun j_ => (pointI (if i_ = j_ then (Dy.mk false 1 0) else zeroD)))))) i_ j_ else (E.elf (.sl true 1 1 fun i_ j_ => [(ivsP ((List.range n).map (fun j_ => (pointI (if x = j_ then (Dy.mk false 1 0) else zeroD)))))].getD (i_ * 1 + j_) (.v (.bool false)))) (i_ - x) j_)) (.row true 31 (x + 1) 1 (matE ((List.range (x + 1)).map (fun i_ => (List.range n).map (fun j_ => (pointI (if i_ = j_ then (Dy.mk false 1 0) else zeroD))))))))] <| .nil)) (by kernel_rfl))
  (fun hx => by
    exact spt (chain [tF 16 ((n : Int) < (n : Int)) (by omega), .z 3] <| .e (chain [.o 3 (.e (matRow_le (by simp)) : PV.le (.e (.sl true n 1 (matE ((List.range n).map (fun i_ => (List.range n).map (fun j_ => (pointI (if i_ = j_ then (Dy.mk false 1 0) else zeroD)))))))) (.e (matP ((List.range n).map (fun i_ => (List.range n).map (fun j_ => (pointI (if i_ = j_ then (Dy.mk false 1 0) else zeroD))))))))] <| .nil)) (by kernel_rfl)) (by nofun) : LpT 5 Tryz.f59 (r7IdFB n 0) (.exit 0) ⟨40, true, [(3, .e (matP ((List.range n).map (fun i_ => (List.range n).map (fun j_ => (pointI (if i_ = j_ then (Dy.mk false 1 0) else zeroD)))))))], []⟩) .nil] <| .nil) (by kernel_rfl)
open Go.RowKit Fp Pu
def Fp.oneD : Dy := ⟨false, 1, 0⟩
theorem oneD_valid : oneD.Valid := by have := intD_valid 1 (by decide); rw [intD_nat] at this; exact this
def idFam (n : Nat) (x : Nat) : PS := ⟨42, true, [(17, .e (iP x)), (16, .e (iP n)), (3, .own 14), (0, .e (iP n))], [(14, .rows true 31 28 n 7 (lnE (buildM n (fun _ => n) (fun i j => pointI (if i = j then ⟨false, 1, 0⟩ else zeroD)) x 0)) (rowsE (buildM n (fun _ => n) (fun i j => pointI (if i = j then ⟨false, 1, 0⟩ else zeroD)) x 0)) .none)]⟩
def idFamIn (n x : Nat) (k : Nat) : PS := ⟨42, true, [(21, .e (iP k)), (20, .e (iP n)), (4, .e (iP x)), (17, .e (iP x)), (16, .e (iP n)), (3, .own 14), (0, .e (iP n))], [(14, .rows true 31 28 n 7 (lnE (buildM n (fun _ => n) (fun i j => pointI (if i = j then ⟨false, 1, 0⟩ else zeroD)) x k)) (rowsE (buildM n (fun _ => n) (fun i j => pointI (if i = j then ⟨false, 1, 0⟩ else zeroD)) x k)) .none)]⟩
theorem dyInt_pc (n : Nat) (h : n < 4294967296) : PCt 112 [(iP n)] (dyP (intD (n : Int))) := by
 have ok2 : Ok32 [n % 4294967296, n / 4294967296 % 4294967296] := Ok32.cons (Nat.mod_lt _ (by decide)) (Ok32.cons (Nat.mod_lt _ (by decide)) Ok32.nil)
 exact tr true Tryz.call112 Tryz.func112 (chain [.o 5 (.int (u64_nat _ (by omega)) : PV.le (.e (.v (.int .u64 (IntKind.u64.wrap (n : Int))))) (.e (.v (.int .u64 (n : Int))))), tF 7 ((n : Int) < 0) (by omega), tF 11 ((n : Int) < 0) (by omega),
  .o 13 (.int (u32_nat _) : PV.le (.e (.v (.int .u32 (IntKind.u32.wrap (n : Int))))) (.e (.v (.int .u32 (((n % 4294967296) : Nat) : Int))))), .a (by omega : 0 ≤ (32 : Int) ∧ (32 : Int) ≤ ((64 : Nat) : Int)),
  .o 15 (.int (shr32_nat _) : PV.le (.e (.v (.int .u64 ((n : Int) / 2 ^ 32)))) (.e (.v (.int .u64 (((n / 4294967296) : Nat) : Int))))),
  .o 16 (.int (u32_nat _) : PV.le (.e (.v (.int .u32 (IntKind.u32.wrap (((n / 4294967296) : Nat) : Int))))) (.e (.v (.int .u32 ((((n / 4294967296) % 4294967296) : Nat) : Int))))),
  .o 17 (.e (two_le _ _) : PV.le (.e (.sl false 2 1 fun i_ j_ => [(.v (.int .u32 (((n % 4294967296) : Nat) : Int))), (.v (.int .u32 ((((n / 4294967296) % 4294967296) : Nat) : Int)))].getD (i_ * 1 + j_) (.v (.bool false)))) (.e (slP [(n % 4294967296), ((n / 4294967296) % 4294967296)]))),
  .c (dyCanonL_pc _ _ _ ok2 (by simp) (by decide) (by decide) : PCt 174 [(bP false), (slP [(n % 4294967296), ((n / 4294967296) % 4294967296)]), (iP 0)] _)] <| rQ (dyP (canon false (val [(n % 4294967296), ((n / 4294967296) % 4294967296)]) 0)) (dyP (intD (n : Int))) (by rw [val_two, show n % 4294967296 + 4294967296 * (n / 4294967296 % 4294967296) = n by omega, intD_nat])) (by kernel_rfl)
theorem num_pc (n : Nat) (h : n < 4294967296) : PCt 46 [(iP n)] (ivP (numI (n : Int))) := by
 have v := intD_valid n h
 exact tr true Tryz.call46 Tryz.func46 (chain [.c (dyInt_pc n (by omega)), .c (ivPoint_pc (intD (n : Int)) ‹_›)] <| .nil) (by kernel_rfl)
theorem matId_pc (n : Nat) (h1 : 1 ≤ n) (h8 : n ≤ 8) : PCt 36 [(iP n)] (matP (identM n)) := by
 have v1 := oneD_valid
 have v0 := zeroD_valid
 have int1 : PCt 112 [iP 1] (dyP oneD) := dyInt_pc 1 (by decide)
 have int0 : PCt 112 [iP 0] (dyP zeroD) := dyInt_pc 0 (by decide)
 have ew : wholeM n (fun _ => n) (fun i j => pointI (if i = j then ⟨false, 1, 0⟩ else zeroD)) = identM n := rfl
 exact tr true Tryz.call36 Tryz.func36 (chain [tF 8 ((n : Int) < 1) (by omega), tF 11 (8 < (n : Int)) (by omega), .a (by omega : 0 ≤ ((n : Int) : Int) ∧ ((n : Int) : Int) ≤ ((n : Int) : Int)),
  .a (by omega : ((24 : Nat) : Int) * (n : Int) ≤ 281474976710656 ∧ ((n : Int) : Int) ≤ 9223372036854775807),
  .s (Sp.upto (idFam n) 0 n (by omega) (fun x hx hltx => by
    exact spt (chain [tT 18 ((x : Int) < (n : Int)) (by omega),
     .s (Sp.upto (idFamIn n x) 0 n (by omega) (fun k hk hltk => by
    have hle : lnE (buildM n (fun _ => n) (fun i j => pointI (if i = j then ⟨false, 1, 0⟩ else zeroD)) x k) x = k := lnE_at (by omega)
    by_cases c1 : x = k
    ·have h1 := one_len (pointI oneD)
     exact spt (chain [tT 22 ((k : Int) < (n : Int)) (by omega), tB 26 (natEq_true c1 : ((x : Int) == (k : Int)) = true), iX ((x : Int)) (n) (by omega), .a (by omega : x < n), .c (int1 : PCt 112 [(iP 1)] _),
      .c (ivPoint_pc oneD ‹_›), .o 36 (.e (ivs1_le _) : PV.le (.e (.sl true 1 7 fun i_ j_ => (ivL (pointI oneD)).getD (i_ * 7 + j_) (.v (.bool false)))) (.e (ivsP [(pointI oneD)]))), .a (by omega : x < n),
      .a (by omega : ((lnE (buildM n (fun _ => n) (fun i j => pointI (if i = j then ⟨false, 1, 0⟩ else zeroD)) x k)) x + [(pointI oneD)].length) * 88 ≤ 140737488355328), iX ((x : Int)) (n) (by omega), .a (rfl : x = x), .a (rfl : x = x),
      .a (by omega : x < n), r64 ((k : Int) + 1) (by omega)] <| .e (chain [.b 14 (rows_push rfl (by omega) (by omega) (by rw [if_pos c1]; rfl) : Bx.le (.rows true 31 28 n 7 (fun q => if q = x then (lnE (buildM n (fun _ => n) (fun i j => pointI (if i = j then ⟨false, 1, 0⟩ else zeroD)) x k)) q + [(pointI oneD)].length else (lnE (buildM n (fun _ => n) (fun i j => pointI (if i = j then ⟨false, 1, 0⟩ else zeroD)) x k)) q) (fun q i j => if q = x then (if i < (lnE (buildM n (fun _ => n) (fun i j => pointI (if i = j then ⟨false, 1, 0⟩ else zeroD)) x k)) q then (rowsE (buildM n (fun _ => n) (fun i j => pointI (if i = j then ⟨false, 1, 0⟩ else zeroD)) x k)) q i j else (E.elf (ivsP [(pointI oneD)])) (i - (lnE (buildM n (fun _ => n) (fun i j => pointI (if i = j then ⟨false, 1, 0⟩ else zeroD)) x k)) q) j) else (rowsE (buildM n (fun _ => n) (fun i j => pointI (if i = j then ⟨false, 1, 0⟩ else zeroD)) x k)) q i j) .none) (.rows true 31 28 n 7 (lnE (buildM n (fun _ => n) (fun i j => pointI (if i = j then ⟨false, 1, 0⟩ else zeroD)) x (k + 1))) (rowsE (buildM n (fun _ => n) (fun i j => pointI (if i = j then ⟨false, 1, 0⟩ else zeroD)) x (k + 1))) .none))] <| .nil)) (by kernel_rfl)
    ·have h1 := one_len (pointI zeroD)
     exact spt (chain [tT 22 ((k : Int) < (n : Int)) (by omega), tB 26 (natEq_false c1 : ((x : Int) == (k : Int)) = false), iX ((x : Int)) (n) (by omega), .a (by omega : x < n), .c (int0 : PCt 112 [(iP 0)] _),
      .c (ivPoint_pc zeroD ‹_›), .o 36 (.e (ivs1_le _) : PV.le (.e (.sl true 1 7 fun i_ j_ => (ivL (pointI zeroD)).getD (i_ * 7 + j_) (.v (.bool false)))) (.e (ivsP [(pointI zeroD)]))), .a (by omega : x < n),
      .a (by omega : ((lnE (buildM n (fun _ => n) (fun i j => pointI (if i = j then ⟨false, 1, 0⟩ else zeroD)) x k)) x + [(pointI zeroD)].length) * 88 ≤ 140737488355328), iX ((x : Int)) (n) (by omega), .a (rfl : x = x), .a (rfl : x = x),
      .a (by omega : x < n), r64 ((k : Int) + 1) (by omega)] <| .e (chain [.b 14 (rows_push rfl (by omega) (by omega) (by rw [if_neg c1]) : Bx.le (.rows true 31 28 n 7 (fun q => if q = x then (lnE (buildM n (fun _ => n) (fun i j => pointI (if i = j then ⟨false, 1, 0⟩ else zeroD)) x k)) q + [(pointI zeroD)].length else (lnE (buildM n (fun _ => n) (fun i j => pointI (if i = j then ⟨false, 1, 0⟩ else zeroD)) x k)) q) (fun q i j => if q = x then (if i < (lnE (buildM n (fun _ => n) (fun i j => pointI (if i = j then ⟨false, 1, 0⟩ else zeroD)) x k)) q then (rowsE (buildM n (fun _ => n) (fun i j => pointI (if i = j then ⟨false, 1, 0⟩ else zeroD)) x k)) q i j else (E.elf (ivsP [(pointI zeroD)])) (i - (lnE (buildM n (fun _ => n) (fun i j => pointI (if i = j then ⟨false, 1, 0⟩ else zeroD)) x k)) q) j) else (rowsE (buildM n (fun _ => n) (fun i j => pointI (if i = j then ⟨false, 1, 0⟩ else zeroD)) x k)) q i j) .none) (.rows true 31 28 n 7 (lnE (buildM n (fun _ => n) (fun i j => pointI (if i = j then ⟨false, 1, 0⟩ else zeroD)) x (k + 1))) (rowsE (buildM n (fun _ => n) (fun i j => pointI (if i = j then ⟨false, 1, 0⟩ else zeroD)) x (k + 1))) .none))] <| .nil)) (by kernel_rfl))
  (fun hk => by
    exact spt (chain [tF 22 ((n : Int) < (n : Int)) (by omega)] <| .nil) (by kernel_rfl)) (by nofun) : LpT 8 Tryz.f36 (idFamIn n x 0) (.exit 2) ⟨42, true, [(17, .e (iP x)), (16, .e (iP n)), (3, .own 14), (0, .e (iP n))], [(14, .rows true 31 28 n 7 (lnE (buildM n (fun _ => n) (fun i j => pointI (if i = j then ⟨false, 1, 0⟩ else zeroD)) x n)) (rowsE (buildM n (fun _ => n) (fun i j => pointI (if i = j then ⟨false, 1, 0⟩ else zeroD)) x n)) .none)]⟩) .nil,
     r64 ((x : Int) + 1) (by omega)] <| .e (chain [.b 14 (rows_next rfl : Bx.le (.rows true 31 28 n 7 (lnE (buildM n (fun _ => n) (fun i j => pointI (if i = j then ⟨false, 1, 0⟩ else zeroD)) x n)) (rowsE (buildM n (fun _ => n) (fun i j => pointI (if i = j then ⟨false, 1, 0⟩ else zeroD)) x n)) .none) (.rows true 31 28 n 7 (lnE (buildM n (fun _ => n) (fun i j => pointI (if i = j then ⟨false, 1, 0⟩ else zeroD)) (x + 1) 0)) (rowsE (buildM n (fun _ => n) (fun i j => pointI (if i = j then ⟨false, 1, 0⟩ else zeroD)) (x + 1) 0)) .none))] <| .nil)) (by kernel_rfl))
  (fun hx => by
    exact spt (chain [tF 18 ((n : Int) < (n : Int)) (by omega)] <| .nil) (by kernel_rfl)) (by nofun) : LpT 5 Tryz.f36 (idFam n 0) (.exit 0) ⟨42, true, [(3, .own 14)], [(14, .rows true 31 28 n 7 (lnE (buildM n (fun _ => n) (fun i j => pointI (if i = j then ⟨false, 1, 0⟩ else zeroD)) n 0)) (rowsE (buildM n (fun _ => n) (fun i j => pointI (if i = j then ⟨false, 1, 0⟩ else zeroD)) n 0)) .none)]⟩) (chain [.b 14 (rows_init rfl : Bx.le (.rows true 31 28 n 7 (fun _ => 0) (fun _ _ _ => .any) .none) (.rows true 31 28 n 7 (lnE (buildM n (fun _ => n) (fun i j => pointI (if i = j then ⟨false, 1, 0⟩ else zeroD)) 0 0)) (rowsE (buildM n (fun _ => n) (fun i j => pointI (if i = j then ⟨false, 1, 0⟩ else zeroD)) 0 0)) .none))] <| .nil)] <| rR (matP (identM n)) (by
      rw [← ew, ← buildM_done]; exact matRows_le (buildM_len _ _ _ _ _).symm : E.le (.sl true n 1 fun k_ _ => .sl true ((lnE (buildM n (fun _ => n) (fun i j => pointI (if i = j then ⟨false, 1, 0⟩ else zeroD)) n 0)) k_) 7 ((rowsE (buildM n (fun _ => n) (fun i j => pointI (if i = j then ⟨false, 1, 0⟩ else zeroD)) n 0)) k_)) (matP (identM n)))) (by kernel_rfl)
open Go.RowKit Fp Pu
abbrev vfa0 (m : List (List Iv)) (x) (p) := nsum (m.getD x []) p ((m.getD x []).length)
abbrev vfa3 (m : List (List Iv)) (x) (k) := magI ((m.getD x []).getD k wholeI)
abbrev vfa1 (m : List (List Iv)) (x) (p) (k) := dyL (rndD (sumD (nsum (m.getD x []) p k) (vfa3 m x k)) p true)
abbrev vfa2 : E := .agg [(bP false), (.v (.slice none 0 0)), (iP 0)]
def normFam (m : List (List Iv)) (p : Nat) (x : Nat) : PS := ⟨64, true, [(27, .e (iP x)), (26, .e (iP m.length)), (25, .e (matP m)), (6, .box 6 0), (4, .box 4 0), (1, .e (iP p))], [(6, .cells 26 (dyL (nmost m p x))), (4, .cells 26 [(bP false), (.v (.slice none 0 0)), (iP 0)])]⟩
def normFamIn (m : List (List Iv)) (p x : Nat) (k : Nat) : PS := ⟨64, true, [(33, .e (iP k)), (32, .e (iP (((m.getD x []).length : Nat) : Int))), (31, .e (ivsP (m.getD x []))), (9, .box 9 0), (27, .e (iP x)), (26, .e (iP m.length)), (25, .e (matP m)), (6, .box 6 0), (4, .box 4 0), (1, .e (iP p))], [(9, .cells 26 (dyL (nsum (m.getD x []) p k))), (6, .cells 26 (dyL (nmost m p x))), (4, .cells 26 [(bP false), (.v (.slice none 0 0)), (iP 0)])]⟩
def normFA (m : List (List Iv)) (p N : Nat) (x : Nat) : PS := ⟨64, true, [(27, .e (iP x)), (26, .e (iP m.length)), (25, .e (matP m)), (6, .box 6 0), (4, .box 4 0), (1, .e (iP p))], [(6, .cells 26 (dyL (nmost m p x))), (4, .cells 26 [(bP false), (.v (.slice none 0 0)), (iP 0)])]⟩
def normFAIn (m : List (List Iv)) (p N K : Nat) (k : Nat) : PS := ⟨64, true, [(33, .e (iP k)), (32, .e (iP (((m.getD N []).length : Nat) : Int))), (31, .e (ivsP (m.getD N []))), (9, .box 9 0), (27, .e (iP N)), (26, .e (iP m.length)), (25, .e (matP m)), (6, .box 6 0), (4, .box 4 0), (1, .e (iP p))], [(9, .cells 26 (dyL (nsum (m.getD N []) p k))), (6, .cells 26 (dyL (nmost m p N))), (4, .cells 26 [(bP false), (.v (.slice none 0 0)), (iP 0)])]⟩
def normFB (m : List (List Iv)) (p N : Nat) (x : Nat) : PS := ⟨64, true, [(27, .e (iP x)), (26, .e (iP m.length)), (25, .e (matP m)), (6, .box 6 0), (4, .box 4 0), (1, .e (iP p))], [(6, .cells 26 (dyL (nmost m p x))), (4, .cells 26 [(bP false), (.v (.slice none 0 0)), (iP 0)])]⟩
def normFBIn (m : List (List Iv)) (p N K : Nat) (k : Nat) : PS := ⟨64, true, [(33, .e (iP k)), (32, .e (iP (((m.getD N []).length : Nat) : Int))), (31, .e (ivsP (m.getD N []))), (9, .box 9 0), (27, .e (iP N)), (26, .e (iP m.length)), (25, .e (matP m)), (6, .box 6 0), (4, .box 4 0), (1, .e (iP p))], [(9, .cells 26 (dyL (nsum (m.getD N []) p k))), (6, .cells 26 (dyL (nmost m p N))), (4, .cells 26 [(bP false), (.v (.slice none 0 0)), (iP 0)])]⟩
theorem ivMag_all (x : Iv) (hx : x.Valid) (hxa : x.all = true) : PCt 182 [(ivP x)] (.tup [dyP zeroD, bP false]) := by
 exact tr true Tryz.call182 Tryz.func182 (chain [.o 5 (.e (ivs1_le _) : PV.le (.e (.sl true 1 7 fun i_ j_ => (ivL x).getD (i_ * 7 + j_) (.v (.bool false)))) (.e (ivsP [x]))), .c (ivKnown1_pc _ ‹_› : PCt 90 [(ivsP [x])] _), tB 6 (by rw [hxa]; rfl : (!x.all) = false),
  .o 8 (.e zeroP_le : PV.le (.e vfa2) (.e (dyP zeroD)))] <| .nil) (by kernel_rfl)
theorem norm_some (m : List (List Iv)) (n c p : Nat) (ga : MOk m n c) (hp1 : 8 ≤ p) (hp2 : p ≤ 512) (hg : ∀ x, x < m.length → ∀ k, k < (m.getD x []).length → NGood (m.getD x []) p k) : PCt 117 [(matP m), (iP p)] (.tup [dyP (nmost m p m.length), bP true]) := by
 have ra := ga.rows
 have n8 := ga.n8
 have c8 := ga.k8
 exact tr true Tryz.call117 Tryz.func117 (chain [.c (matValid_pc _ _ _ ‹_› : PCt 103 [(matP m)] _), .c (mxPrecise_pc _ : PCt 121 [(iP p)] _), tB 21 (precB_true.2 ⟨by omega, by omega⟩ : (precB (p : Int)) = true),
  .s (Sp.upto (normFam m p) 0 m.length (by omega) (fun x hx hltx => by
    have lx := ga.len_at (show x < n by omega)
    have u1 := nsum_valid (m.getD x []) (show 1 ≤ p by omega) (by omega) (m.getD x []).length
    have u2 := nmost_valid m (show 1 ≤ p by omega) (by omega) x
    by_cases c1 : 0 < cmpD (nsum (m.getD x []) p ((m.getD x []).length)) (nmost m p x)
    ·exact spt (chain [tT 28 ((x : Int) < (m.length : Int)) (by omega), iX ((x : Int)) (m.length) (by omega),
      .s (Sp.upto (normFamIn m p x) 0 ((m.getD x []).length) (by omega) (fun k hk hltk => by
    have gg := (hg x (by omega)) k (by omega)
    have v1 := nsum_valid (m.getD x []) (show 1 ≤ p by omega) (by omega) k
    have v2 := ga.val_at (show x < n by omega) (show k < c by omega)
    have gga := gg.all
    have v3 := magI_valid v2.ends.1 v2.ends.2
    exact spt (chain [tT 34 ((k : Int) < (((m.getD x []).length : Nat) : Int)) (by omega), iX ((k : Int)) ((m.getD x []).length) (by omega), .c (ivMag_pc ((m.getD x []).getD k wholeI) ‹_› gga),
     .c (rdAddUp_pc (nsum (m.getD x []) p k) (vfa3 m x k) p ‹_› ‹_› (by omega) (by omega)),
     tB 53 (by rw [gg.err]; rfl : ((rndE (sumD (nsum (m.getD x []) p k) (magI ((m.getD x []).getD k wholeI))) p true) != 0) = false), r64 ((k : Int) + 1) (by omega)] <| .e (chain [.b 9 (.of_eq rfl : Bx.le (.cells 26 (vfa1 m x p k)) (.cells 26 (dyL (nsum (m.getD x []) p (k + 1)))))] <| .nil)) (by kernel_rfl))
  (fun hk => by
    exact spt (chain [tF 34 ((((m.getD x []).length : Nat) : Int) < (((m.getD x []).length : Nat) : Int)) (by omega)] <| .nil) (by kernel_rfl)) (by nofun) : LpT 9 Tryz.f117 (normFamIn m p x 0) (.exit 2) ⟨64, true, [(9, .box 9 0), (27, .e (iP x)), (26, .e (iP m.length)), (25, .e (matP m)), (6, .box 6 0), (4, .box 4 0), (1, .e (iP p))], [(9, .cells 26 (dyL (vfa0 m x p))), (6, .cells 26 (dyL (nmost m p x))), (4, .cells 26 [(bP false), (.v (.slice none 0 0)), (iP 0)])]⟩) (chain [.b 9 (.cells (fun _ => rfl) zero_cells : Bx.le (.cells 26 [(bP false), (.v (.slice none 0 0)), (iP 0)]) (.cells 26 (dyL (nsum (m.getD x []) p 0))))] <| .nil),
      .c (dyCmp_pc _ _ ‹_› ‹_› : PCt 82 [(dyP (vfa0 m x p)), (dyP (nmost m p x))] _), tB 60 (decide_eq_true c1), r64 ((x : Int) + 1) (by omega)] <| .e (chain [.b 6 (.of_eq (by rw [show nmost m p (x + 1) = (vfa0 m x p) from if_pos c1]) : Bx.le (.cells 26 (dyL (vfa0 m x p))) (.cells 26 (dyL (nmost m p (x + 1)))))] <| .nil)) (by kernel_rfl)
    ·exact spt (chain [tT 28 ((x : Int) < (m.length : Int)) (by omega), iX ((x : Int)) (m.length) (by omega),
      .s (Sp.upto (normFamIn m p x) 0 ((m.getD x []).length) (by omega) (fun k hk hltk => by
    have gg := (hg x (by omega)) k (by omega)
    have v1 := nsum_valid (m.getD x []) (show 1 ≤ p by omega) (by omega) k
    have v2 := ga.val_at (show x < n by omega) (show k < c by omega)
    have gga := gg.all
    have v3 := magI_valid v2.ends.1 v2.ends.2
    exact spt (chain [tT 34 ((k : Int) < (((m.getD x []).length : Nat) : Int)) (by omega), iX ((k : Int)) ((m.getD x []).length) (by omega), .c (ivMag_pc ((m.getD x []).getD k wholeI) ‹_› gga),
     .c (rdAddUp_pc (nsum (m.getD x []) p k) (vfa3 m x k) p ‹_› ‹_› (by omega) (by omega)),
     tB 53 (by rw [gg.err]; rfl : ((rndE (sumD (nsum (m.getD x []) p k) (magI ((m.getD x []).getD k wholeI))) p true) != 0) = false), r64 ((k : Int) + 1) (by omega)] <| .e (chain [.b 9 (.of_eq rfl : Bx.le (.cells 26 (vfa1 m x p k)) (.cells 26 (dyL (nsum (m.getD x []) p (k + 1)))))] <| .nil)) (by kernel_rfl))
  (fun hk => by
    exact spt (chain [tF 34 ((((m.getD x []).length : Nat) : Int) < (((m.getD x []).length : Nat) : Int)) (by omega)] <| .nil) (by kernel_rfl)) (by nofun) : LpT 9 Tryz.f117 (normFamIn m p x 0) (.exit 2) ⟨64, true, [(9, .box 9 0), (27, .e (iP x)), (26, .e (iP m.length)), (25, .e (matP m)), (6, .box 6 0), (4, .box 4 0), (1, .e (iP p))], [(9, .cells 26 (dyL (vfa0 m x p))), (6, .cells 26 (dyL (nmost m p x))), (4, .cells 26 [(bP false), (.v (.slice none 0 0)), (iP 0)])]⟩) (chain [.b 9 (.cells (fun _ => rfl) zero_cells : Bx.le (.cells 26 [(bP false), (.v (.slice none 0 0)), (iP 0)]) (.cells 26 (dyL (nsum (m.getD x []) p 0))))] <| .nil),
      .c (dyCmp_pc _ _ ‹_› ‹_› : PCt 82 [(dyP (vfa0 m x p)), (dyP (nmost m p x))] _), tB 60 (decide_eq_false c1), r64 ((x : Int) + 1) (by omega)] <| .e (chain [.b 6 (.of_eq (by rw [show nmost m p (x + 1) = (nmost m p x) from if_neg c1]) : Bx.le (.cells 26 (dyL (nmost m p x))) (.cells 26 (dyL (nmost m p (x + 1)))))] <| .nil)) (by kernel_rfl))
  (fun hx => by
    exact spt (chain [tF 28 ((m.length : Int) < (m.length : Int)) (by omega)] <| .nil) (by kernel_rfl)) (by nofun) : LpT 5 Tryz.f117 (normFam m p 0) (.exit 0) ⟨64, true, [(6, .box 6 0), (4, .box 4 0)], [(6, .cells 26 (dyL (nmost m p m.length))), (4, .cells 26 [(bP false), (.v (.slice none 0 0)), (iP 0)])]⟩) (chain [.b 6 (.cells (fun _ => rfl) zero_cells : Bx.le (.cells 26 [(bP false), (.v (.slice none 0 0)), (iP 0)]) (.cells 26 (dyL (nmost m p 0))))] <| .nil)] <| .nil) (by kernel_rfl)
theorem norm_bad1 (m : List (List Iv)) (n c p : Nat) (ga : MOk m n c) (hp1 : 8 ≤ p) (hp2 : p ≤ 512) (N K : Nat) (hN : N < m.length) (hK : K < (m.getD N []).length) (hg : ∀ x, x < N → ∀ k, k < (m.getD x []).length → NGood (m.getD x []) p k) (hgN : ∀ k, k < K → NGood (m.getD N []) p k) (hbad : ((m.getD N []).getD K wholeI).all = true) : PCt 117 [(matP m), (iP p)] (.tup [dyP zeroD, bP false]) := by
 have ra := ga.rows
 have n8 := ga.n8
 have c8 := ga.k8
 exact tr true Tryz.call117 Tryz.func117 (chain [.c (matValid_pc _ _ _ ‹_› : PCt 103 [(matP m)] _), .c (mxPrecise_pc _ : PCt 121 [(iP p)] _), tB 21 (precB_true.2 ⟨by omega, by omega⟩ : (precB (p : Int)) = true),
  .s (Sp.upto (normFA m p N) 0 N (by omega) (fun x hx hltx => by
    have lx := ga.len_at (show x < n by omega)
    have u1 := nsum_valid (m.getD x []) (show 1 ≤ p by omega) (by omega) (m.getD x []).length
    have u2 := nmost_valid m (show 1 ≤ p by omega) (by omega) x
    by_cases c1 : 0 < cmpD (nsum (m.getD x []) p ((m.getD x []).length)) (nmost m p x)
    ·exact spt (chain [tT 28 ((x : Int) < (m.length : Int)) (by omega), iX ((x : Int)) (m.length) (by omega),
      .s (Sp.upto (normFamIn m p x) 0 ((m.getD x []).length) (by omega) (fun k hk hltk => by
    have gg := (hg x (by omega)) k (by omega)
    have v1 := nsum_valid (m.getD x []) (show 1 ≤ p by omega) (by omega) k
    have v2 := ga.val_at (show x < n by omega) (show k < c by omega)
    have gga := gg.all
    have v3 := magI_valid v2.ends.1 v2.ends.2
    exact spt (chain [tT 34 ((k : Int) < (((m.getD x []).length : Nat) : Int)) (by omega), iX ((k : Int)) ((m.getD x []).length) (by omega), .c (ivMag_pc ((m.getD x []).getD k wholeI) ‹_› gga),
     .c (rdAddUp_pc (nsum (m.getD x []) p k) (vfa3 m x k) p ‹_› ‹_› (by omega) (by omega)),
     tB 53 (by rw [gg.err]; rfl : ((rndE (sumD (nsum (m.getD x []) p k) (magI ((m.getD x []).getD k wholeI))) p true) != 0) = false), r64 ((k : Int) + 1) (by omega)] <| .e (chain [.b 9 (.of_eq rfl : Bx.le (.cells 26 (vfa1 m x p k)) (.cells 26 (dyL (nsum (m.getD x []) p (k + 1)))))] <| .nil)) (by kernel_rfl))
  (fun hk => by
    exact spt (chain [tF 34 ((((m.getD x []).length : Nat) : Int) < (((m.getD x []).length : Nat) : Int)) (by omega)] <| .nil) (by kernel_rfl)) (by nofun) : LpT 9 Tryz.f117 (normFamIn m p x 0) (.exit 2) ⟨64, true, [(9, .box 9 0), (27, .e (iP x)), (26, .e (iP m.length)), (25, .e (matP m)), (6, .box 6 0), (4, .box 4 0), (1, .e (iP p))], [(9, .cells 26 (dyL (vfa0 m x p))), (6, .cells 26 (dyL (nmost m p x))), (4, .cells 26 [(bP false), (.v (.slice none 0 0)), (iP 0)])]⟩) (chain [.b 9 (.cells (fun _ => rfl) zero_cells : Bx.le (.cells 26 [(bP false), (.v (.slice none 0 0)), (iP 0)]) (.cells 26 (dyL (nsum (m.getD x []) p 0))))] <| .nil),
      .c (dyCmp_pc _ _ ‹_› ‹_› : PCt 82 [(dyP (vfa0 m x p)), (dyP (nmost m p x))] _), tB 60 (decide_eq_true c1), r64 ((x : Int) + 1) (by omega)] <| .e (chain [.b 6 (.of_eq (by rw [show nmost m p (x + 1) = (vfa0 m x p) from if_pos c1]) : Bx.le (.cells 26 (dyL (vfa0 m x p))) (.cells 26 (dyL (nmost m p (x + 1)))))] <| .nil)) (by kernel_rfl)
    ·exact spt (chain [tT 28 ((x : Int) < (m.length : Int)) (by omega), iX ((x : Int)) (m.length) (by omega),
      .s (Sp.upto (normFamIn m p x) 0 ((m.getD x []).length) (by omega) (fun k hk hltk => by
    have gg := (hg x (by omega)) k (by omega)
    have v1 := nsum_valid (m.getD x []) (show 1 ≤ p by omega) (by omega) k
    have v2 := ga.val_at (show x < n by omega) (show k < c by omega)
    have gga := gg.all
    have v3 := magI_valid v2.ends.1 v2.ends.2
    exact spt (chain [tT 34 ((k : Int) < (((m.getD x []).length : Nat) : Int)) (by omega), iX ((k : Int)) ((m.getD x []).length) (by omega), .c (ivMag_pc ((m.getD x []).getD k wholeI) ‹_› gga),
     .c (rdAddUp_pc (nsum (m.getD x []) p k) (vfa3 m x k) p ‹_› ‹_› (by omega) (by omega)),
     tB 53 (by rw [gg.err]; rfl : ((rndE (sumD (nsum (m.getD x []) p k) (magI ((m.getD x []).getD k wholeI))) p true) != 0) = false), r64 ((k : Int) + 1) (by omega)] <| .e (chain [.b 9 (.of_eq rfl : Bx.le (.cells 26 (vfa1 m x p k)) (.cells 26 (dyL (nsum (m.getD x []) p (k + 1)))))] <| .nil)) (by kernel_rfl))
  (fun hk => by
    exact spt (chain [tF 34 ((((m.getD x []).length : Nat) : Int) < (((m.getD x []).length : Nat) : Int)) (by omega)] <| .nil) (by kernel_rfl)) (by nofun) : LpT 9 Tryz.f117 (normFamIn m p x 0) (.exit 2) ⟨64, true, [(9, .box 9 0), (27, .e (iP x)), (26, .e (iP m.length)), (25, .e (matP m)), (6, .box 6 0), (4, .box 4 0), (1, .e (iP p))], [(9, .cells 26 (dyL (vfa0 m x p))), (6, .cells 26 (dyL (nmost m p x))), (4, .cells 26 [(bP false), (.v (.slice none 0 0)), (iP 0)])]⟩) (chain [.b 9 (.cells (fun _ => rfl) zero_cells : Bx.le (.cells 26 [(bP false), (.v (.slice none 0 0)), (iP 0)]) (.cells 26 (dyL (nsum (m.getD x []) p 0))))] <| .nil),
      .c (dyCmp_pc _ _ ‹_› ‹_› : PCt 82 [(dyP (vfa0 m x p)), (dyP (nmost m p x))] _), tB 60 (decide_eq_false c1), r64 ((x : Int) + 1) (by omega)] <| .e (chain [.b 6 (.of_eq (by rw [show nmost m p (x + 1) = (nmost m p x) from if_neg c1]) : Bx.le (.cells 26 (dyL (nmost m p x))) (.cells 26 (dyL (nmost m p (x + 1)))))] <| .nil)) (by kernel_rfl))
  (fun hx => by
    have lN := ga.len_at (show N < n by omega)
    exact spt (chain [tT 28 ((N : Int) < (m.length : Int)) (by omega), iX ((N : Int)) (m.length) (by omega),
    .s (Sp.upto (normFAIn m p N K) 0 K (by omega) (fun k hk hltk => by
    have gg := hgN k (by omega)
    have v1 := nsum_valid (m.getD N []) (show 1 ≤ p by omega) (by omega) k
    have v2 := ga.val_at (show N < n by omega) (show k < c by omega)
    have gga := gg.all
    have v3 := magI_valid v2.ends.1 v2.ends.2
    exact spt (chain [tT 34 ((k : Int) < (((m.getD N []).length : Nat) : Int)) (by omega), iX ((k : Int)) ((m.getD N []).length) (by omega), .c (ivMag_pc ((m.getD N []).getD k wholeI) ‹_› gga),
     .c (rdAddUp_pc (nsum (m.getD N []) p k) (magI ((m.getD N []).getD k wholeI)) p ‹_› ‹_› (by omega) (by omega)),
     tB 53 (by rw [gg.err]; rfl : ((rndE (sumD (nsum (m.getD N []) p k) (magI ((m.getD N []).getD k wholeI))) p true) != 0) = false), r64 ((k : Int) + 1) (by omega)] <| .e (chain [.b 9 (.of_eq rfl : Bx.le (.cells 26 (dyL (rndD (sumD (nsum (m.getD N []) p k) (magI ((m.getD N []).getD k wholeI))) p true))) (.cells 26 (dyL (nsum (m.getD N []) p (k + 1)))))] <| .nil)) (by kernel_rfl))
  (fun hk => by
    have v1 := nsum_valid (m.getD N []) (show 1 ≤ p by omega) (by omega) K
    have v2 := ga.val_at (show N < n by omega) (show K < c by omega)
    have v3 := magI_valid v2.ends.1 v2.ends.2
    exact spt (chain [tT 34 ((K : Int) < (((m.getD N []).length : Nat) : Int)) (by omega), iX ((K : Int)) ((m.getD N []).length) (by omega), .c (ivMag_all ((m.getD N []).getD K wholeI) ‹_› hbad),
    .o 44 (.e zeroP_le : PV.le (.e vfa2) (.e (dyP zeroD)))] <| .nil) (by kernel_rfl)) (by nofun) : LpT 9 Tryz.f117 (normFAIn m p N K 0) .ret ⟨64, true, [(5, .e (bP false)), (4, .box 4 0)], [(4, .cells 26 (dyL zeroD))]⟩) (chain [.b 9 (.cells (fun _ => rfl) zero_cells : Bx.le (.cells 26 [(bP false), (.v (.slice none 0 0)), (iP 0)]) (.cells 26 (dyL (nsum (m.getD N []) p 0))))] <| .nil)] <| .nil) (by kernel_rfl)) (by nofun) : LpT 5 Tryz.f117 (normFA m p N 0) .ret ⟨64, true, [(5, .e (bP false)), (4, .box 4 0)], [(4, .cells 26 (dyL zeroD))]⟩) (chain [.b 6 (.cells (fun _ => rfl) zero_cells : Bx.le (.cells 26 [(bP false), (.v (.slice none 0 0)), (iP 0)]) (.cells 26 (dyL (nmost m p 0))))] <| .nil)] <| .nil) (by kernel_rfl)
theorem norm_bad2 (m : List (List Iv)) (n c p : Nat) (ga : MOk m n c) (hp1 : 8 ≤ p) (hp2 : p ≤ 512) (N K : Nat) (hN : N < m.length) (hK : K < (m.getD N []).length) (hg : ∀ x, x < N → ∀ k, k < (m.getD x []).length → NGood (m.getD x []) p k) (hgN : ∀ k, k < K → NGood (m.getD N []) p k) (hall : ((m.getD N []).getD K wholeI).all = false) (hbad : ¬ rndE (sumD (nsum (m.getD N []) p K) (magI ((m.getD N []).getD K wholeI))) p true = 0) : PCt 117 [(matP m), (iP p)] (.tup [dyP zeroD, bP false]) := by
 have ra := ga.rows
 have n8 := ga.n8
 have c8 := ga.k8
 exact tr true Tryz.call117 Tryz.func117 (chain [.c (matValid_pc _ _ _ ‹_› : PCt 103 [(matP m)] _), .c (mxPrecise_pc _ : PCt 121 [(iP p)] _), tB 21 (precB_true.2 ⟨by omega, by omega⟩ : (precB (p : Int)) = true),
  .s (Sp.upto (normFB m p N) 0 N (by omega) (fun x hx hltx => by
    have lx := ga.len_at (show x < n by omega)
    have u1 := nsum_valid (m.getD x []) (show 1 ≤ p by omega) (by omega) (m.getD x []).length
    have u2 := nmost_valid m (show 1 ≤ p by omega) (by omega) x
    by_cases c1 : 0 < cmpD (nsum (m.getD x []) p ((m.getD x []).length)) (nmost m p x)
    ·exact spt (chain [tT 28 ((x : Int) < (m.length : Int)) (by omega), iX ((x : Int)) (m.length) (by omega),
      .s (Sp.upto (normFamIn m p x) 0 ((m.getD x []).length) (by omega) (fun k hk hltk => by
    have gg := (hg x (by omega)) k (by omega)
    have v1 := nsum_valid (m.getD x []) (show 1 ≤ p by omega) (by omega) k
    have v2 := ga.val_at (show x < n by omega) (show k < c by omega)
    have gga := gg.all
    have v3 := magI_valid v2.ends.1 v2.ends.2
    exact spt (chain [tT 34 ((k : Int) < (((m.getD x []).length : Nat) : Int)) (by omega), iX ((k : Int)) ((m.getD x []).length) (by omega), .c (ivMag_pc ((m.getD x []).getD k wholeI) ‹_› gga),
     .c (rdAddUp_pc (nsum (m.getD x []) p k) (vfa3 m x k) p ‹_› ‹_› (by omega) (by omega)),
     tB 53 (by rw [gg.err]; rfl : ((rndE (sumD (nsum (m.getD x []) p k) (magI ((m.getD x []).getD k wholeI))) p true) != 0) = false), r64 ((k : Int) + 1) (by omega)] <| .e (chain [.b 9 (.of_eq rfl : Bx.le (.cells 26 (vfa1 m x p k)) (.cells 26 (dyL (nsum (m.getD x []) p (k + 1)))))] <| .nil)) (by kernel_rfl))
  (fun hk => by
    exact spt (chain [tF 34 ((((m.getD x []).length : Nat) : Int) < (((m.getD x []).length : Nat) : Int)) (by omega)] <| .nil) (by kernel_rfl)) (by nofun) : LpT 9 Tryz.f117 (normFamIn m p x 0) (.exit 2) ⟨64, true, [(9, .box 9 0), (27, .e (iP x)), (26, .e (iP m.length)), (25, .e (matP m)), (6, .box 6 0), (4, .box 4 0), (1, .e (iP p))], [(9, .cells 26 (dyL (vfa0 m x p))), (6, .cells 26 (dyL (nmost m p x))), (4, .cells 26 [(bP false), (.v (.slice none 0 0)), (iP 0)])]⟩) (chain [.b 9 (.cells (fun _ => rfl) zero_cells : Bx.le (.cells 26 [(bP false), (.v (.slice none 0 0)), (iP 0)]) (.cells 26 (dyL (nsum (m.getD x []) p 0))))] <| .nil),
      .c (dyCmp_pc _ _ ‹_› ‹_› : PCt 82 [(dyP (vfa0 m x p)), (dyP (nmost m p x))] _), tB 60 (decide_eq_true c1), r64 ((x : Int) + 1) (by omega)] <| .e (chain [.b 6 (.of_eq (by rw [show nmost m p (x + 1) = (vfa0 m x p) from if_pos c1]) : Bx.le (.cells 26 (dyL (vfa0 m x p))) (.cells 26 (dyL (nmost m p (x + 1)))))] <| .nil)) (by kernel_rfl)
    ·exact spt (chain [tT 28 ((x : Int) < (m.length : Int)) (by omega), iX ((x : Int)) (m.length) (by omega),
      .s (Sp.upto (normFamIn m p x) 0 ((m.getD x []).length) (by omega) (fun k hk hltk => by
    have gg := (hg x (by omega)) k (by omega)
    have v1 := nsum_valid (m.getD x []) (show 1 ≤ p by omega) (by omega) k
    have v2 := ga.val_at (show x < n by omega) (show k < c by omega)
    have gga := gg.all
    have v3 := magI_valid v2.ends.1 v2.ends.2
    exact spt (chain [tT 34 ((k : Int) < (((m.getD x []).length : Nat) : Int)) (by omega), iX ((k : Int)) ((m.getD x []).length) (by omega), .c (ivMag_pc ((m.getD x []).getD k wholeI) ‹_› gga),
     .c (rdAddUp_pc (nsum (m.getD x []) p k) (vfa3 m x k) p ‹_› ‹_› (by omega) (by omega)),
     tB 53 (by rw [gg.err]; rfl : ((rndE (sumD (nsum (m.getD x []) p k) (magI ((m.getD x []).getD k wholeI))) p true) != 0) = false), r64 ((k : Int) + 1) (by omega)] <| .e (chain [.b 9 (.of_eq rfl : Bx.le (.cells 26 (vfa1 m x p k)) (.cells 26 (dyL (nsum (m.getD x []) p (k + 1)))))] <| .nil)) (by kernel_rfl))
  (fun hk => by
    exact spt (chain [tF 34 ((((m.getD x []).length : Nat) : Int) < (((m.getD x []).length : Nat) : Int)) (by omega)] <| .nil) (by kernel_rfl)) (by nofun) : LpT 9 Tryz.f117 (normFamIn m p x 0) (.exit 2) ⟨64, true, [(9, .box 9 0), (27, .e (iP x)), (26, .e (iP m.length)), (25, .e (matP m)), (6, .box 6 0), (4, .box 4 0), (1, .e (iP p))], [(9, .cells 26 (dyL (vfa0 m x p))), (6, .cells 26 (dyL (nmost m p x))), (4, .cells 26 [(bP false), (.v (.slice none 0 0)), (iP 0)])]⟩) (chain [.b 9 (.cells (fun _ => rfl) zero_cells : Bx.le (.cells 26 [(bP false), (.v (.slice none 0 0)), (iP 0)]) (.cells 26 (dyL (nsum (m.getD x []) p 0))))] <| .nil),
      .c (dyCmp_pc _ _ ‹_› ‹_› : PCt 82 [(dyP (vfa0 m x p)), (dyP (nmost m p x))] _), tB 60 (decide_eq_false c1), r64 ((x : Int) + 1) (by omega)] <| .e (chain [.b 6 (.of_eq (by rw [show nmost m p (x + 1) = (nmost m p x) from if_neg c1]) : Bx.le (.cells 26 (dyL (nmost m p x))) (.cells 26 (dyL (nmost m p (x + 1)))))] <| .nil)) (by kernel_rfl))
  (fun hx => by
    have lN := ga.len_at (show N < n by omega)
    exact spt (chain [tT 28 ((N : Int) < (m.length : Int)) (by omega), iX ((N : Int)) (m.length) (by omega),
    .s (Sp.upto (normFBIn m p N K) 0 K (by omega) (fun k hk hltk => by
    have gg := hgN k (by omega)
    have v1 := nsum_valid (m.getD N []) (show 1 ≤ p by omega) (by omega) k
    have v2 := ga.val_at (show N < n by omega) (show k < c by omega)
    have gga := gg.all
    have v3 := magI_valid v2.ends.1 v2.ends.2
    exact spt (chain [tT 34 ((k : Int) < (((m.getD N []).length : Nat) : Int)) (by omega), iX ((k : Int)) ((m.getD N []).length) (by omega), .c (ivMag_pc ((m.getD N []).getD k wholeI) ‹_› gga),
     .c (rdAddUp_pc (nsum (m.getD N []) p k) (magI ((m.getD N []).getD k wholeI)) p ‹_› ‹_› (by omega) (by omega)),
     tB 53 (by rw [gg.err]; rfl : ((rndE (sumD (nsum (m.getD N []) p k) (magI ((m.getD N []).getD k wholeI))) p true) != 0) = false), r64 ((k : Int) + 1) (by omega)] <| .e (chain [.b 9 (.of_eq rfl : Bx.le (.cells 26 (dyL (rndD (sumD (nsum (m.getD N []) p k) (magI ((m.getD N []).getD k wholeI))) p true))) (.cells 26 (dyL (nsum (m.getD N []) p (k + 1)))))] <| .nil)) (by kernel_rfl))
  (fun hk => by
    have v1 := nsum_valid (m.getD N []) (show 1 ≤ p by omega) (by omega) K
    have v2 := ga.val_at (show N < n by omega) (show K < c by omega)
    have v3 := magI_valid v2.ends.1 v2.ends.2
    exact spt (chain [tT 34 ((K : Int) < (((m.getD N []).length : Nat) : Int)) (by omega), iX ((K : Int)) ((m.getD N []).length) (by omega), .c (ivMag_pc ((m.getD N []).getD K wholeI) ‹_› hall),
    .c (rdAddUp_pc (nsum (m.getD N []) p K) (magI ((m.getD N []).getD K wholeI)) p ‹_› ‹_› (by omega) (by omega)),
    tB 53 (by simpa using hbad : ((rndE (sumD (nsum (m.getD N []) p K) (magI ((m.getD N []).getD K wholeI))) p true) != 0) = true), .o 54 (.e zeroP_le : PV.le (.e vfa2) (.e (dyP zeroD)))] <| .nil) (by kernel_rfl)) (by nofun) : LpT 9 Tryz.f117 (normFBIn m p N K 0) .ret ⟨64, true, [(5, .e (bP false)), (4, .box 4 0)], [(4, .cells 26 (dyL zeroD))]⟩) (chain [.b 9 (.cells (fun _ => rfl) zero_cells : Bx.le (.cells 26 [(bP false), (.v (.slice none 0 0)), (iP 0)]) (.cells 26 (dyL (nsum (m.getD N []) p 0))))] <| .nil)] <| .nil) (by kernel_rfl)) (by nofun) : LpT 5 Tryz.f117 (normFB m p N 0) .ret ⟨64, true, [(5, .e (bP false)), (4, .box 4 0)], [(4, .cells 26 (dyL zeroD))]⟩) (chain [.b 6 (.cells (fun _ => rfl) zero_cells : Bx.le (.cells 26 [(bP false), (.v (.slice none 0 0)), (iP 0)]) (.cells 26 (dyL (nmost m p 0))))] <| .nil)] <| .nil) (by kernel_rfl)
open Go.RowKit Fp Pu
abbrev vga0 (h) (d : Dy) (p) (k) := divI (mulI (absI h) (pointI d) p) (numI (((k + 2) : Nat) : Int)) p
abbrev vga1 (h) (d : Dy) (p) (k) := powI (mulI (absI h) (pointI d) p) p (k + 1)
abbrev vga2 (h) (d : Dy) (p) (x : Nat) := divI (mulI (absI h) (pointI d) p) (numI (((x + 1) : Nat) : Int)) p
def restFam (m : List (List Iv)) (h : Iv) (d : Dy) (k p : Nat) (x : Nat) : PS := ⟨79, true, [(14, .e (iP (((x + 1) : Nat) : Int))), (13, .box 13 0), (12, .box 12 0), (8, .box 8 0), (2, .e (iP k)), (3, .e (iP p))], [(13, .cells 28 (ivL (powI (mulI (absI h) (pointI d) p) p x))), (12, .cells 28 (ivL (mulI (absI h) (pointI d) p))), (8, .cells 28 [(bP false), (.v (.slice none 0 0)), (iP 0), (bP false), (.v (.slice none 0 0)), (iP 0), (bP false)])]⟩
theorem first_bad {Q : Nat → Prop} {n : Nat} (h : ¬ ∀ i, i < n → Q i) : ∃ N, N < n ∧ ¬ Q N ∧ ∀ i, i < N → Q i := by
 induction n with
 | zero => exact absurd (fun i hi => absurd hi (Nat.not_lt_zero i)) h
 | succ n ih =>
  by_cases hn : ∀ i, i < n → Q i
  ·refine ⟨n, by omega, fun q => h fun i hi => ?_, hn⟩
   by_cases hin : i = n
   ·rw [hin]; exact q
   ·exact hn i (by omega)
  ·obtain ⟨N, h1, h2, h3⟩ := ih hn
   exact ⟨N, by omega, h2, h3⟩
theorem norm_yes (m : List (List Iv)) (n c p : Nat) (ga : MOk m n c) (hp1 : 8 ≤ p) (hp2 : p ≤ 512) (d : Dy) (hd : normM m p = some d) : PCt 117 [matP m, iP (p : Int)] (.tup [dyP d, bP true]) ∧ d.Valid := by
 have hg : ∀ x, x < m.length → ∀ k, k < (m.getD x []).length → NGood (m.getD x []) p k := by
  intro x hx k hk
  apply Classical.byContradiction
  intro q
  rw [normM_none hx hk q] at hd
  cases hd
 rw [normM_some hg] at hd
 cases hd
 exact ⟨norm_some m n c p ga hp1 hp2 hg, nmost_valid m (by omega) (by omega) _⟩
theorem norm_no (m : List (List Iv)) (n c p : Nat) (ga : MOk m n c) (hp1 : 8 ≤ p) (hp2 : p ≤ 512) (hd : normM m p = none) : PCt 117 [matP m, iP (p : Int)] (.tup [dyP zeroD, bP false]) := by
 have hb : ¬ ∀ x, x < m.length → ∀ k, k < (m.getD x []).length → NGood (m.getD x []) p k := fun hg => by rw [normM_some hg] at hd; cases hd
 obtain ⟨N, h1, h2, h3⟩ := first_bad (Q := fun x => ∀ k, k < (m.getD x []).length → NGood (m.getD x []) p k) hb
 obtain ⟨K, k1, k2, k3⟩ := first_bad h2
 by_cases ha : ((m.getD N []).getD K wholeI).all = true
 ·exact norm_bad1 m n c p ga hp1 hp2 N K h1 k1 h3 k3 ha
 ·exact norm_bad2 m n c p ga hp1 hp2 N K h1 k1 h3 k3 (by simpa using ha) (fun q => k2 ⟨by simpa using ha, q⟩)
theorem numI_valid (n : Nat) (h : n < 4294967296) : (numI (n : Int)).Valid := pointI_valid (intD_valid n h)
theorem powI_valid (u : Iv) {p : Nat} (hp : 1 ≤ p) (hp2 : p ≤ 4096) : ∀ j, (powI u p j).Valid
 | 0 => numI_valid 1 (by decide)
 | j + 1 => mulI_valid _ _ hp hp2
theorem zeroIv_le : E.le (.agg [bP false, .v (.slice none 0 0), iP 0, bP false, .v (.slice none 0 0), iP 0, bP false]) (ivP ⟨zeroD, zeroD, false⟩) :=
 .agg (.cons (.refl _) (.cons nilLimb_le (.cons (.refl _) (.cons (.refl _) (.cons nilLimb_le (.cons (.refl _) (.cons (.refl _) .nil)))))))
theorem rest_no1 (m : List (List Iv)) (h : Iv) (n c k p : Nat) (ga : MOk m n c) (hh : h.Valid) (hk : k ≤ 1000) (hp1 : 8 ≤ p) (hp2 : p ≤ 512) (hd : normM m p = none) : PCt 42 [(matP m), (ivP h), (iP k), (iP p)] (.tup [ivP ⟨zeroD, zeroD, false⟩, bP false]) := by
 exact tr true Tryz.call42 Tryz.func42 (chain [.c (norm_no _ _ _ _ ga hp1 hp2 hd : PCt 117 [(matP m), (iP p)] _)] <| rR (.tup [ivP ⟨zeroD, zeroD, false⟩, bP false]) (.tup (.cons zeroIv_le (.cons (.refl _) .nil)) : E.le (.tup [(.agg [(bP false), (.v (.slice none 0 0)), (iP 0), (bP false), (.v (.slice none 0 0)), (iP 0), (bP false)]), (bP false)]) (.tup [ivP ⟨zeroD, zeroD, false⟩, bP false]))) (by kernel_rfl)
theorem rest_no2 (m : List (List Iv)) (h : Iv) (n c k p : Nat) (ga : MOk m n c) (hh : h.Valid) (hk : k ≤ 1000) (hp1 : 8 ≤ p) (hp2 : p ≤ 512) (d : Dy) (hn : PCt 117 [matP m, iP (p : Int)] (.tup [dyP d, bP true])) (hd : d.Valid) (hu : (mulI (absI h) (pointI d) p).all = true) : PCt 42 [(matP m), (ivP h), (iP k), (iP p)] (.tup [ivP ⟨zeroD, zeroD, false⟩, bP false]) := by
 have va := absI_valid hh
 have vp := pointI_valid hd
 have vu := mulI_valid (absI h) (pointI d) (show 1 ≤ p by omega) (show p ≤ 4096 by omega)
 exact tr true Tryz.call42 Tryz.func42 (chain [.c (hn : PCt 117 [(matP m), (iP p)] _), .c (ivAbs_pc h ‹_›), .c (ivPoint_pc d ‹_›), .c (ivMul_pc (absI h) (pointI d) p ‹_› ‹_› (by omega) (by omega)),
  tB 32 (hu : (mulI (absI h) (pointI d) p).all = true)] <| rR (.tup [ivP ⟨zeroD, zeroD, false⟩, bP false]) (.tup (.cons zeroIv_le (.cons (.refl _) .nil)) : E.le (.tup [(.agg [(bP false), (.v (.slice none 0 0)), (iP 0), (bP false), (.v (.slice none 0 0)), (iP 0), (bP false)]), (bP false)]) (.tup [ivP ⟨zeroD, zeroD, false⟩, bP false]))) (by kernel_rfl)
theorem rest_no3 (m : List (List Iv)) (h : Iv) (n c k p : Nat) (ga : MOk m n c) (hh : h.Valid) (hk : k ≤ 1000) (hp1 : 8 ≤ p) (hp2 : p ≤ 512) (d : Dy) (hn : PCt 117 [matP m, iP (p : Int)] (.tup [dyP d, bP true])) (hd : d.Valid) (hu : (mulI (absI h) (pointI d) p).all = false) (hc : 0 ≤ cmpD (mulI (absI h) (pointI d) p).hi (intD (((k + 2) : Nat) : Int))) : PCt 42 [(matP m), (ivP h), (iP k), (iP p)] (.tup [ivP ⟨zeroD, zeroD, false⟩, bP false]) := by
 have va := absI_valid hh
 have vp := pointI_valid hd
 have vu := mulI_valid (absI h) (pointI d) (show 1 ≤ p by omega) (show p ≤ 4096 by omega)
 have vk := intD_valid (k + 2) (by omega)
 have ve := vu.ends.2
 exact tr true Tryz.call42 Tryz.func42 (chain [.c (hn : PCt 117 [(matP m), (iP p)] _), .c (ivAbs_pc h ‹_›), .c (ivPoint_pc d ‹_›), .c (ivMul_pc (absI h) (pointI d) p ‹_› ‹_› (by omega) (by omega)),
  tB 32 (hu : (mulI (absI h) (pointI d) p).all = false), r64 ((k : Int) + 2) (by omega), .c (dyInt_pc (k + 2) (by omega)),
  .c (dyCmp_pc _ _ ‹_› ‹_› : PCt 82 [(dyP ((mulI (absI h) (pointI d) p).hi)), (dyP (intD (((k + 2) : Nat) : Int)))] _), tB 40 (decide_eq_true hc)] <| rR (.tup [ivP ⟨zeroD, zeroD, false⟩, bP false]) (.tup (.cons zeroIv_le (.cons (.refl _) .nil)) : E.le (.tup [(.agg [(bP false), (.v (.slice none 0 0)), (iP 0), (bP false), (.v (.slice none 0 0)), (iP 0), (bP false)]), (bP false)]) (.tup [ivP ⟨zeroD, zeroD, false⟩, bP false]))) (by kernel_rfl)
theorem rest_no4 (m : List (List Iv)) (h : Iv) (n c k p : Nat) (ga : MOk m n c) (hh : h.Valid) (hk : k ≤ 1000) (hp1 : 8 ≤ p) (hp2 : p ≤ 512) (d : Dy) (hn : PCt 117 [matP m, iP (p : Int)] (.tup [dyP d, bP true])) (hd : d.Valid) (hu : (mulI (absI h) (pointI d) p).all = false) (hc : ¬ 0 ≤ cmpD (mulI (absI h) (pointI d) p).hi (intD (((k + 2) : Nat) : Int))) (he : (divI (powI (mulI (absI h) (pointI d) p) p (k + 1)) (subI (numI 1) (divI (mulI (absI h) (pointI d) p) (numI (((k + 2) : Nat) : Int)) p) p) p).all = true) : PCt 42 [(matP m), (ivP h), (iP k), (iP p)] (.tup [ivP (divI (powI (mulI (absI h) (pointI d) p) p (k + 1)) (subI (numI 1) (divI (mulI (absI h) (pointI d) p) (numI (((k + 2) : Nat) : Int)) p) p) p), bP false]) := by
 have va := absI_valid hh
 have vp := pointI_valid hd
 have vu := mulI_valid (absI h) (pointI d) (show 1 ≤ p by omega) (show p ≤ 4096 by omega)
 have vk := intD_valid (k + 2) (by omega)
 have ve := vu.ends.2
 have w1 := powI_valid (mulI (absI h) (pointI d) p) (show 1 ≤ p by omega) (by omega) (k + 1)
 have w2 := numI_valid (k + 2) (by omega)
 have w3 : (numI 1).Valid := numI_valid 1 (by decide)
 have w4 := divI_valid (mulI (absI h) (pointI d) p) (numI (((k + 2) : Nat) : Int)) (show 1 ≤ p by omega) (by omega)
 have w5 : (subI (numI 1) (divI (mulI (absI h) (pointI d) p) (numI (((k + 2) : Nat) : Int)) p) p).Valid := addI_valid w3 (negI_valid w4) (by omega) (by omega)
 have w6 := divI_valid (powI (mulI (absI h) (pointI d) p) p (k + 1)) (subI (numI 1) (divI (mulI (absI h) (pointI d) p) (numI (((k + 2) : Nat) : Int)) p) p) (show 1 ≤ p by omega) (by omega)
 have w7 := w6.ends.2
 exact tr true Tryz.call42 Tryz.func42 (chain [.c (hn : PCt 117 [(matP m), (iP p)] _), .c (ivAbs_pc h ‹_›), .c (ivPoint_pc d ‹_›), .c (ivMul_pc (absI h) (pointI d) p ‹_› ‹_› (by omega) (by omega)),
  tB 32 (hu : (mulI (absI h) (pointI d) p).all = false), r64 ((k : Int) + 2) (by omega), .c (dyInt_pc (k + 2) (by omega)),
  .c (dyCmp_pc _ _ ‹_› ‹_› : PCt 82 [(dyP ((mulI (absI h) (pointI d) p).hi)), (dyP (intD (((k + 2) : Nat) : Int)))] _), tB 40 (decide_eq_false hc), .c (num_pc 1 (by omega)),
  .s (Sp.upto (restFam m h d k p) 0 (k + 1) (by omega) (fun x hx hltx => by
    have w1 := powI_valid (mulI (absI h) (pointI d) p) (show 1 ≤ p by omega) (by omega) x
    have w2 := numI_valid (x + 1) (by omega)
    have w3 := divI_valid (mulI (absI h) (pointI d) p) (numI (((x + 1) : Nat) : Int)) (show 1 ≤ p by omega) (by omega)
    exact spt (chain [r64 ((k : Int) + 1) (by omega), tT 47 ((((x + 1) : Nat) : Int) ≤ (((k + 1) : Nat) : Int)) (by omega), .c (num_pc (x + 1) (by omega)),
     .c (ivDiv_pc (mulI (absI h) (pointI d) p) (numI (((x + 1) : Nat) : Int)) p ‹_› ‹_› (by omega) (by omega)),
     .c (ivMul_pc (powI (mulI (absI h) (pointI d) p) p x) (vga2 h d p x) p ‹_› ‹_› (by omega) (by omega)), r64 ((((x + 1) : Nat) : Int) + 1) (by omega)] <| .e (chain [.b 13 (.of_eq rfl : Bx.le (.cells 28 (ivL (mulI (powI (mulI (absI h) (pointI d) p) p x) (vga2 h d p x) p))) (.cells 28 (ivL (powI (mulI (absI h) (pointI d) p) p (x + 1)))))] <| .nil)) (by kernel_rfl))
  (fun hx => by
    exact spt (chain [r64 ((k : Int) + 1) (by omega), tF 47 (((((k + 1) + 1) : Nat) : Int) ≤ (((k + 1) : Nat) : Int)) (by omega)] <| .nil) (by kernel_rfl)) (by nofun) : LpT 9 Tryz.f42 (restFam m h d k p 0) (.exit 0) ⟨79, true, [(13, .box 13 0), (12, .box 12 0), (8, .box 8 0), (2, .e (iP k)), (3, .e (iP p))], [(13, .cells 28 (ivL (vga1 h d p k))), (12, .cells 28 (ivL (mulI (absI h) (pointI d) p))), (8, .cells 28 [(bP false), (.v (.slice none 0 0)), (iP 0), (bP false), (.v (.slice none 0 0)), (iP 0), (bP false)])]⟩) (chain [.o 14 (.int (by first | rfl | omega | (simp only [Nat.add_mul, Nat.one_mul]; omega)) : PV.le (.e (iP 1)) (.e (iP (((0 + 1) : Nat) : Int)))),
  .b 13 (.of_eq rfl : Bx.le (.cells 28 (ivL (numI 1))) (.cells 28 (ivL (powI (mulI (absI h) (pointI d) p) p 0))))] <| .nil),
  .c (num_pc 1 (by omega)), r64 ((k : Int) + 2) (by omega), .c (num_pc (k + 2) (by omega)), .c (ivDiv_pc (mulI (absI h) (pointI d) p) (numI (((k + 2) : Nat) : Int)) p ‹_› ‹_› (by omega) (by omega)),
  .c (ivSub_pc (numI 1) (vga0 h d p k) p ‹_› ‹_› (by omega) (by omega)),
  .c (ivDiv_pc (vga1 h d p k) (subI (numI 1) (vga0 h d p k) p) p ‹_› ‹_› (by omega) (by omega)),
  tB 71 (he : (divI (vga1 h d p k) (subI (numI 1) (vga0 h d p k) p) p).all = true)] <| .nil) (by kernel_rfl)
theorem rest_yes (m : List (List Iv)) (h : Iv) (n c k p : Nat) (ga : MOk m n c) (hh : h.Valid) (hk : k ≤ 1000) (hp1 : 8 ≤ p) (hp2 : p ≤ 512) (d : Dy) (hn : PCt 117 [matP m, iP (p : Int)] (.tup [dyP d, bP true])) (hd : d.Valid) (hu : (mulI (absI h) (pointI d) p).all = false) (hc : ¬ 0 ≤ cmpD (mulI (absI h) (pointI d) p).hi (intD (((k + 2) : Nat) : Int))) (he : (divI (powI (mulI (absI h) (pointI d) p) p (k + 1)) (subI (numI 1) (divI (mulI (absI h) (pointI d) p) (numI (((k + 2) : Nat) : Int)) p) p) p).all = false) : PCt 42 [(matP m), (ivP h), (iP k), (iP p)] (.tup [ivP ⟨negD (divI (powI (mulI (absI h) (pointI d) p) p (k + 1)) (subI (numI 1) (divI (mulI (absI h) (pointI d) p) (numI (((k + 2) : Nat) : Int)) p) p) p).hi, (divI (powI (mulI (absI h) (pointI d) p) p (k + 1)) (subI (numI 1) (divI (mulI (absI h) (pointI d) p) (numI (((k + 2) : Nat) : Int)) p) p) p).hi, false⟩, bP true]) := by
 have va := absI_valid hh
 have vp := pointI_valid hd
 have vu := mulI_valid (absI h) (pointI d) (show 1 ≤ p by omega) (show p ≤ 4096 by omega)
 have vk := intD_valid (k + 2) (by omega)
 have ve := vu.ends.2
 have w1 := powI_valid (mulI (absI h) (pointI d) p) (show 1 ≤ p by omega) (by omega) (k + 1)
 have w2 := numI_valid (k + 2) (by omega)
 have w3 : (numI 1).Valid := numI_valid 1 (by decide)
 have w4 := divI_valid (mulI (absI h) (pointI d) p) (numI (((k + 2) : Nat) : Int)) (show 1 ≤ p by omega) (by omega)
 have w5 : (subI (numI 1) (divI (mulI (absI h) (pointI d) p) (numI (((k + 2) : Nat) : Int)) p) p).Valid := addI_valid w3 (negI_valid w4) (by omega) (by omega)
 have w6 := divI_valid (powI (mulI (absI h) (pointI d) p) p (k + 1)) (subI (numI 1) (divI (mulI (absI h) (pointI d) p) (numI (((k + 2) : Nat) : Int)) p) p) (show 1 ≤ p by omega) (by omega)
 have w7 := w6.ends.2
 exact tr true Tryz.call42 Tryz.func42 (chain [.c (hn : PCt 117 [(matP m), (iP p)] _), .c (ivAbs_pc h ‹_›), .c (ivPoint_pc d ‹_›), .c (ivMul_pc (absI h) (pointI d) p ‹_› ‹_› (by omega) (by omega)),
  tB 32 (hu : (mulI (absI h) (pointI d) p).all = false), r64 ((k : Int) + 2) (by omega), .c (dyInt_pc (k + 2) (by omega)),
  .c (dyCmp_pc _ _ ‹_› ‹_› : PCt 82 [(dyP ((mulI (absI h) (pointI d) p).hi)), (dyP (intD (((k + 2) : Nat) : Int)))] _), tB 40 (decide_eq_false hc), .c (num_pc 1 (by omega)),
  .s (Sp.upto (restFam m h d k p) 0 (k + 1) (by omega) (fun x hx hltx => by
    have w1 := powI_valid (mulI (absI h) (pointI d) p) (show 1 ≤ p by omega) (by omega) x
    have w2 := numI_valid (x + 1) (by omega)
    have w3 := divI_valid (mulI (absI h) (pointI d) p) (numI (((x + 1) : Nat) : Int)) (show 1 ≤ p by omega) (by omega)
    exact spt (chain [r64 ((k : Int) + 1) (by omega), tT 47 ((((x + 1) : Nat) : Int) ≤ (((k + 1) : Nat) : Int)) (by omega), .c (num_pc (x + 1) (by omega)),
     .c (ivDiv_pc (mulI (absI h) (pointI d) p) (numI (((x + 1) : Nat) : Int)) p ‹_› ‹_› (by omega) (by omega)),
     .c (ivMul_pc (powI (mulI (absI h) (pointI d) p) p x) (vga2 h d p x) p ‹_› ‹_› (by omega) (by omega)), r64 ((((x + 1) : Nat) : Int) + 1) (by omega)] <| .e (chain [.b 13 (.of_eq rfl : Bx.le (.cells 28 (ivL (mulI (powI (mulI (absI h) (pointI d) p) p x) (vga2 h d p x) p))) (.cells 28 (ivL (powI (mulI (absI h) (pointI d) p) p (x + 1)))))] <| .nil)) (by kernel_rfl))
  (fun hx => by
    exact spt (chain [r64 ((k : Int) + 1) (by omega), tF 47 (((((k + 1) + 1) : Nat) : Int) ≤ (((k + 1) : Nat) : Int)) (by omega)] <| .nil) (by kernel_rfl)) (by nofun) : LpT 9 Tryz.f42 (restFam m h d k p 0) (.exit 0) ⟨79, true, [(13, .box 13 0), (12, .box 12 0), (8, .box 8 0), (2, .e (iP k)), (3, .e (iP p))], [(13, .cells 28 (ivL (vga1 h d p k))), (12, .cells 28 (ivL (mulI (absI h) (pointI d) p))), (8, .cells 28 [(bP false), (.v (.slice none 0 0)), (iP 0), (bP false), (.v (.slice none 0 0)), (iP 0), (bP false)])]⟩) (chain [.o 14 (.int (by first | rfl | omega | (simp only [Nat.add_mul, Nat.one_mul]; omega)) : PV.le (.e (iP 1)) (.e (iP (((0 + 1) : Nat) : Int)))),
  .b 13 (.of_eq rfl : Bx.le (.cells 28 (ivL (numI 1))) (.cells 28 (ivL (powI (mulI (absI h) (pointI d) p) p 0))))] <| .nil),
  .c (num_pc 1 (by omega)), r64 ((k : Int) + 2) (by omega), .c (num_pc (k + 2) (by omega)), .c (ivDiv_pc (mulI (absI h) (pointI d) p) (numI (((k + 2) : Nat) : Int)) p ‹_› ‹_› (by omega) (by omega)),
  .c (ivSub_pc (numI 1) (vga0 h d p k) p ‹_› ‹_› (by omega) (by omega)),
  .c (ivDiv_pc (vga1 h d p k) (subI (numI 1) (vga0 h d p k) p) p ‹_› ‹_› (by omega) (by omega)),
  tB 71 (he : (divI (vga1 h d p k) (subI (numI 1) (vga0 h d p k) p) p).all = false),
  .c (dyNeg_pc _ ‹_› : PCt 92 [(dyP ((divI (vga1 h d p k) (subI (numI 1) (vga0 h d p k) p) p).hi))] _)] <| .nil) (by kernel_rfl)
open Go.RowKit Fp Pu
abbrev qka0 (m : List (List Iv)) (x) (p) := nsum (m.getD x []) p ((m.getD x []).length)
abbrev qka2 (m : List (List Iv)) (x) (k) := magI ((m.getD x []).getD k wholeI)
abbrev qka1 (m : List (List Iv)) (x) (p) (k) := dyL (rndD (sumD (nsum (m.getD x []) p k) (qka2 m x k)) p true)
def r7normFam (m : List (List Iv)) (p : Nat) (x : Nat) : PS := ⟨67, true, [(7, .e (iP x)), (6, .box 6 0), (4, .box 4 0), (0, .e (matP m)), (1, .e (iP p))], [(6, .cells 26 (dyL (nmost m p x))), (4, .cells 26 [(bP false), (.v (.slice none 0 0)), (iP 0)])]⟩
def r7normFamIn (m : List (List Iv)) (p x : Nat) (k : Nat) : PS := ⟨67, true, [(9, .e (iP k)), (8, .box 8 0), (7, .e (iP x)), (6, .box 6 0), (4, .box 4 0), (0, .e (matP m)), (1, .e (iP p))], [(8, .cells 26 (dyL (nsum (m.getD x []) p k))), (6, .cells 26 (dyL (nmost m p x))), (4, .cells 26 [(bP false), (.v (.slice none 0 0)), (iP 0)])]⟩
def r7normFA (m : List (List Iv)) (p N : Nat) (x : Nat) : PS := ⟨67, true, [(7, .e (iP x)), (6, .box 6 0), (4, .box 4 0), (0, .e (matP m)), (1, .e (iP p))], [(6, .cells 26 (dyL (nmost m p x))), (4, .cells 26 [(bP false), (.v (.slice none 0 0)), (iP 0)])]⟩
def r7normFAIn (m : List (List Iv)) (p N K : Nat) (k : Nat) : PS := ⟨67, true, [(9, .e (iP k)), (8, .box 8 0), (7, .e (iP N)), (6, .box 6 0), (4, .box 4 0), (0, .e (matP m)), (1, .e (iP p))], [(8, .cells 26 (dyL (nsum (m.getD N []) p k))), (6, .cells 26 (dyL (nmost m p N))), (4, .cells 26 [(bP false), (.v (.slice none 0 0)), (iP 0)])]⟩
def r7normFB (m : List (List Iv)) (p N : Nat) (x : Nat) : PS := ⟨67, true, [(7, .e (iP x)), (6, .box 6 0), (4, .box 4 0), (0, .e (matP m)), (1, .e (iP p))], [(6, .cells 26 (dyL (nmost m p x))), (4, .cells 26 [(bP false), (.v (.slice none 0 0)), (iP 0)])]⟩
def r7normFBIn (m : List (List Iv)) (p N K : Nat) (k : Nat) : PS := ⟨67, true, [(9, .e (iP k)), (8, .box 8 0), (7, .e (iP N)), (6, .box 6 0), (4, .box 4 0), (0, .e (matP m)), (1, .e (iP p))], [(8, .cells 26 (dyL (nsum (m.getD N []) p k))), (6, .cells 26 (dyL (nmost m p N))), (4, .cells 26 [(bP false), (.v (.slice none 0 0)), (iP 0)])]⟩
set_option maxHeartbeats 2000000 in
theorem r7norm_some (m : List (List Iv)) (n c p : Nat) (ga : MOk m n c) (hp1 : 8 ≤ p) (hp2 : p ≤ 512) (hg : ∀ x, x < m.length → ∀ k, k < (m.getD x []).length → NGood (m.getD x []) p k) : PCt 66 [(matP m), (iP p)] (.tup [dyP (nmost m p m.length), bP true]) := by
 have ra := ga.rows
 have n8 := ga.n8
 have c8 := ga.k8
 exact tr true Tryz.call66 Tryz.func66 (chain [.c (r7Valid_pc _ _ _ ‹_› : PCt 96 [(matP m)] _), .c (refPrec_pc _ : PCt 58 [(iP p)] _), tB 16 (precB_true.2 ⟨by omega, by omega⟩ : (precB (p : Int)) = true),
  .s (Sp.upto (r7normFam m p) 0 m.length (by omega) (fun x hx hltx => by
    have lx := ga.len_at (show x < n by omega)
    have u1 := nsum_valid (m.getD x []) (show 1 ≤ p by omega) (by omega) (m.getD x []).length
    have u2 := nmost_valid m (show 1 ≤ p by omega) (by omega) x
    by_cases c1 : 0 < cmpD (nsum (m.getD x []) p ((m.getD x []).length)) (nmost m p x)
    ·exact spt (chain [tT 23 ((x : Int) < (m.length : Int)) (by omega),
      .s (Sp.upto (r7normFamIn m p x) 0 ((m.getD x []).length) (by omega) (fun k hk hltk => by
    have gg := (hg x (by omega)) k (by omega)
    have v1 := nsum_valid (m.getD x []) (show 1 ≤ p by omega) (by omega) k
    have v2 := ga.val_at (show x < n by omega) (show k < c by omega)
    have gga := gg.all
    have v3 := magI_valid v2.ends.1 v2.ends.2
    exact spt (chain [iX ((x : Int)) (m.length) (by omega), tT 32 ((k : Int) < (((m.getD x []).length : Nat) : Int)) (by omega), iX ((x : Int)) (m.length) (by omega), iX ((k : Int)) ((m.getD x []).length) (by omega),
     tB 42 (gg.all : ((m.getD x []).getD k wholeI).all = false), iX ((x : Int)) (m.length) (by omega), iX ((k : Int)) ((m.getD x []).length) (by omega), .c (r5Mag_pc ((m.getD x []).getD k wholeI) ‹_› gga),
     .c (r3Add_pc (nsum (m.getD x []) p k) (qka2 m x k) p true ‹_› ‹_› (by omega) (by omega)),
     tB 59 (by rw [gg.err]; rfl : ((rndE (sumD (nsum (m.getD x []) p k) (magI ((m.getD x []).getD k wholeI))) p true) != 0) = false), r64 ((k : Int) + 1) (by omega)] <| .e (chain [.b 8 (.of_eq rfl : Bx.le (.cells 26 (qka1 m x p k)) (.cells 26 (dyL (nsum (m.getD x []) p (k + 1)))))] <| .nil)) (by kernel_rfl))
  (fun hk => by
    exact spt (chain [iX ((x : Int)) (m.length) (by omega), tF 32 ((((m.getD x []).length : Nat) : Int) < (((m.getD x []).length : Nat) : Int)) (by omega)] <| .nil) (by kernel_rfl)) (by nofun) : LpT 9 Tryz.f66 (r7normFamIn m p x 0) (.exit 2) ⟨67, true, [(8, .box 8 0), (7, .e (iP x)), (6, .box 6 0), (4, .box 4 0), (0, .e (matP m)), (1, .e (iP p))], [(8, .cells 26 (dyL (qka0 m x p))), (6, .cells 26 (dyL (nmost m p x))), (4, .cells 26 [(bP false), (.v (.slice none 0 0)), (iP 0)])]⟩) (chain [.b 8 (.cells (fun _ => rfl) zero_cells : Bx.le (.cells 26 [(bP false), (.v (.slice none 0 0)), (iP 0)]) (.cells 26 (dyL (nsum (m.getD x []) p 0))))] <| .nil),
      .c (refCmp_pc (qka0 m x p) (nmost m p x) (Fp.Dy.Valid.near ‹_›) (Fp.Dy.Valid.near ‹_›)), tB 64 (decide_eq_true c1), r64 ((x : Int) + 1) (by omega)] <| .e (chain [.b 6 (.of_eq (by rw [show nmost m p (x + 1) = (qka0 m x p) from if_pos c1]) : Bx.le (.cells 26 (dyL (qka0 m x p))) (.cells 26 (dyL (nmost m p (x + 1)))))] <| .nil)) (by kernel_rfl)
    ·exact spt (chain [tT 23 ((x : Int) < (m.length : Int)) (by omega),
      .s (Sp.upto (r7normFamIn m p x) 0 ((m.getD x []).length) (by omega) (fun k hk hltk => by
    have gg := (hg x (by omega)) k (by omega)
    have v1 := nsum_valid (m.getD x []) (show 1 ≤ p by omega) (by omega) k
    have v2 := ga.val_at (show x < n by omega) (show k < c by omega)
    have gga := gg.all
    have v3 := magI_valid v2.ends.1 v2.ends.2
    exact spt (chain [iX ((x : Int)) (m.length) (by omega), tT 32 ((k : Int) < (((m.getD x []).length : Nat) : Int)) (by omega), iX ((x : Int)) (m.length) (by omega), iX ((k : Int)) ((m.getD x []).length) (by omega),
     tB 42 (gg.all : ((m.getD x []).getD k wholeI).all = false), iX ((x : Int)) (m.length) (by omega), iX ((k : Int)) ((m.getD x []).length) (by omega), .c (r5Mag_pc ((m.getD x []).getD k wholeI) ‹_› gga),
     .c (r3Add_pc (nsum (m.getD x []) p k) (qka2 m x k) p true ‹_› ‹_› (by omega) (by omega)),
     tB 59 (by rw [gg.err]; rfl : ((rndE (sumD (nsum (m.getD x []) p k) (magI ((m.getD x []).getD k wholeI))) p true) != 0) = false), r64 ((k : Int) + 1) (by omega)] <| .e (chain [.b 8 (.of_eq rfl : Bx.le (.cells 26 (qka1 m x p k)) (.cells 26 (dyL (nsum (m.getD x []) p (k + 1)))))] <| .nil)) (by kernel_rfl))
  (fun hk => by
    exact spt (chain [iX ((x : Int)) (m.length) (by omega), tF 32 ((((m.getD x []).length : Nat) : Int) < (((m.getD x []).length : Nat) : Int)) (by omega)] <| .nil) (by kernel_rfl)) (by nofun) : LpT 9 Tryz.f66 (r7normFamIn m p x 0) (.exit 2) ⟨67, true, [(8, .box 8 0), (7, .e (iP x)), (6, .box 6 0), (4, .box 4 0), (0, .e (matP m)), (1, .e (iP p))], [(8, .cells 26 (dyL (qka0 m x p))), (6, .cells 26 (dyL (nmost m p x))), (4, .cells 26 [(bP false), (.v (.slice none 0 0)), (iP 0)])]⟩) (chain [.b 8 (.cells (fun _ => rfl) zero_cells : Bx.le (.cells 26 [(bP false), (.v (.slice none 0 0)), (iP 0)]) (.cells 26 (dyL (nsum (m.getD x []) p 0))))] <| .nil),
      .c (refCmp_pc (qka0 m x p) (nmost m p x) (Fp.Dy.Valid.near ‹_›) (Fp.Dy.Valid.near ‹_›)), tB 64 (decide_eq_false c1), r64 ((x : Int) + 1) (by omega)] <| .e (chain [.b 6 (.of_eq (by rw [show nmost m p (x + 1) = (nmost m p x) from if_neg c1]) : Bx.le (.cells 26 (dyL (nmost m p x))) (.cells 26 (dyL (nmost m p (x + 1)))))] <| .nil)) (by kernel_rfl))
  (fun hx => by
    exact spt (chain [tF 23 ((m.length : Int) < (m.length : Int)) (by omega)] <| .nil) (by kernel_rfl)) (by nofun) : LpT 5 Tryz.f66 (r7normFam m p 0) (.exit 0) ⟨67, true, [(6, .box 6 0), (4, .box 4 0)], [(6, .cells 26 (dyL (nmost m p m.length))), (4, .cells 26 [(bP false), (.v (.slice none 0 0)), (iP 0)])]⟩) (chain [.b 6 (.cells (fun _ => rfl) zero_cells : Bx.le (.cells 26 [(bP false), (.v (.slice none 0 0)), (iP 0)]) (.cells 26 (dyL (nmost m p 0))))] <| .nil)] <| .nil) (by kernel_rfl)
set_option maxHeartbeats 2000000 in
theorem r7norm_bad1 (m : List (List Iv)) (n c p : Nat) (ga : MOk m n c) (hp1 : 8 ≤ p) (hp2 : p ≤ 512) (N K : Nat) (hN : N < m.length) (hK : K < (m.getD N []).length) (hg : ∀ x, x < N → ∀ k, k < (m.getD x []).length → NGood (m.getD x []) p k) (hgN : ∀ k, k < K → NGood (m.getD N []) p k) (hbad : ((m.getD N []).getD K wholeI).all = true) : PCt 66 [(matP m), (iP p)] (.tup [dyP zeroD, bP false]) := by
 have ra := ga.rows
 have n8 := ga.n8
 have c8 := ga.k8
 exact tr true Tryz.call66 Tryz.func66 (chain [.c (r7Valid_pc _ _ _ ‹_› : PCt 96 [(matP m)] _), .c (refPrec_pc _ : PCt 58 [(iP p)] _), tB 16 (precB_true.2 ⟨by omega, by omega⟩ : (precB (p : Int)) = true),
  .s (Sp.upto (r7normFA m p N) 0 N (by omega) (fun x hx hltx => by
    have lx := ga.len_at (show x < n by omega)
    have u1 := nsum_valid (m.getD x []) (show 1 ≤ p by omega) (by omega) (m.getD x []).length
    have u2 := nmost_valid m (show 1 ≤ p by omega) (by omega) x
    by_cases c1 : 0 < cmpD (nsum (m.getD x []) p ((m.getD x []).length)) (nmost m p x)
    ·exact spt (chain [tT 23 ((x : Int) < (m.length : Int)) (by omega),
      .s (Sp.upto (r7normFamIn m p x) 0 ((m.getD x []).length) (by omega) (fun k hk hltk => by
    have gg := (hg x (by omega)) k (by omega)
    have v1 := nsum_valid (m.getD x []) (show 1 ≤ p by omega) (by omega) k
    have v2 := ga.val_at (show x < n by omega) (show k < c by omega)
    have gga := gg.all
    have v3 := magI_valid v2.ends.1 v2.ends.2
    exact spt (chain [iX ((x : Int)) (m.length) (by omega), tT 32 ((k : Int) < (((m.getD x []).length : Nat) : Int)) (by omega), iX ((x : Int)) (m.length) (by omega), iX ((k : Int)) ((m.getD x []).length) (by omega),
     tB 42 (gg.all : ((m.getD x []).getD k wholeI).all = false), iX ((x : Int)) (m.length) (by omega), iX ((k : Int)) ((m.getD x []).length) (by omega), .c (r5Mag_pc ((m.getD x []).getD k wholeI) ‹_› gga),
     .c (r3Add_pc (nsum (m.getD x []) p k) (qka2 m x k) p true ‹_› ‹_› (by omega) (by omega)),
     tB 59 (by rw [gg.err]; rfl : ((rndE (sumD (nsum (m.getD x []) p k) (magI ((m.getD x []).getD k wholeI))) p true) != 0) = false), r64 ((k : Int) + 1) (by omega)] <| .e (chain [.b 8 (.of_eq rfl : Bx.le (.cells 26 (qka1 m x p k)) (.cells 26 (dyL (nsum (m.getD x []) p (k + 1)))))] <| .nil)) (by kernel_rfl))
  (fun hk => by
    exact spt (chain [iX ((x : Int)) (m.length) (by omega), tF 32 ((((m.getD x []).length : Nat) : Int) < (((m.getD x []).length : Nat) : Int)) (by omega)] <| .nil) (by kernel_rfl)) (by nofun) : LpT 9 Tryz.f66 (r7normFamIn m p x 0) (.exit 2) ⟨67, true, [(8, .box 8 0), (7, .e (iP x)), (6, .box 6 0), (4, .box 4 0), (0, .e (matP m)), (1, .e (iP p))], [(8, .cells 26 (dyL (qka0 m x p))), (6, .cells 26 (dyL (nmost m p x))), (4, .cells 26 [(bP false), (.v (.slice none 0 0)), (iP 0)])]⟩) (chain [.b 8 (.cells (fun _ => rfl) zero_cells : Bx.le (.cells 26 [(bP false), (.v (.slice none 0 0)), (iP 0)]) (.cells 26 (dyL (nsum (m.getD x []) p 0))))] <| .nil),
      .c (refCmp_pc (qka0 m x p) (nmost m p x) (Fp.Dy.Valid.near ‹_›) (Fp.Dy.Valid.near ‹_›)), tB 64 (decide_eq_true c1), r64 ((x : Int) + 1) (by omega)] <| .e (chain [.b 6 (.of_eq (by rw [show nmost m p (x + 1) = (qka0 m x p) from if_pos c1]) : Bx.le (.cells 26 (dyL (qka0 m x p))) (.cells 26 (dyL (nmost m p (x + 1)))))] <| .nil)) (by kernel_rfl)
    ·exact spt (chain [tT 23 ((x : Int) < (m.length : Int)) (by omega),
      .s (Sp.upto (r7normFamIn m p x) 0 ((m.getD x []).length) (by omega) (fun k hk hltk => by
    have gg := (hg x (by omega)) k (by omega)
    have v1 := nsum_valid (m.getD x []) (show 1 ≤ p by omega) (by omega) k
    have v2 := ga.val_at (show x < n by omega) (show k < c by omega)
    have gga := gg.all
    have v3 := magI_valid v2.ends.1 v2.ends.2
    exact spt (chain [iX ((x : Int)) (m.length) (by omega), tT 32 ((k : Int) < (((m.getD x []).length : Nat) : Int)) (by omega), iX ((x : Int)) (m.length) (by omega), iX ((k : Int)) ((m.getD x []).length) (by omega),
     tB 42 (gg.all : ((m.getD x []).getD k wholeI).all = false), iX ((x : Int)) (m.length) (by omega), iX ((k : Int)) ((m.getD x []).length) (by omega), .c (r5Mag_pc ((m.getD x []).getD k wholeI) ‹_› gga),
     .c (r3Add_pc (nsum (m.getD x []) p k) (qka2 m x k) p true ‹_› ‹_› (by omega) (by omega)),
     tB 59 (by rw [gg.err]; rfl : ((rndE (sumD (nsum (m.getD x []) p k) (magI ((m.getD x []).getD k wholeI))) p true) != 0) = false), r64 ((k : Int) + 1) (by omega)] <| .e (chain [.b 8 (.of_eq rfl : Bx.le (.cells 26 (qka1 m x p k)) (.cells 26 (dyL (nsum (m.getD x []) p (k + 1)))))] <| .nil)) (by kernel_rfl))
  (fun hk => by
    exact spt (chain [iX ((x : Int)) (m.length) (by omega), tF 32 ((((m.getD x []).length : Nat) : Int) < (((m.getD x []).length : Nat) : Int)) (by omega)] <| .nil) (by kernel_rfl)) (by nofun) : LpT 9 Tryz.f66 (r7normFamIn m p x 0) (.exit 2) ⟨67, true, [(8, .box 8 0), (7, .e (iP x)), (6, .box 6 0), (4, .box 4 0), (0, .e (matP m)), (1, .e (iP p))], [(8, .cells 26 (dyL (qka0 m x p))), (6, .cells 26 (dyL (nmost m p x))), (4, .cells 26 [(bP false), (.v (.slice none 0 0)), (iP 0)])]⟩) (chain [.b 8 (.cells (fun _ => rfl) zero_cells : Bx.le (.cells 26 [(bP false), (.v (.slice none 0 0)), (iP 0)]) (.cells 26 (dyL (nsum (m.getD x []) p 0))))] <| .nil),
      .c (refCmp_pc (qka0 m x p) (nmost m p x) (Fp.Dy.Valid.near ‹_›) (Fp.Dy.Valid.near ‹_›)), tB 64 (decide_eq_false c1), r64 ((x : Int) + 1) (by omega)] <| .e (chain [.b 6 (.of_eq (by rw [show nmost m p (x + 1) = (nmost m p x) from if_neg c1]) : Bx.le (.cells 26 (dyL (nmost m p x))) (.cells 26 (dyL (nmost m p (x + 1)))))] <| .nil)) (by kernel_rfl))
  (fun hx => by
    have lN := ga.len_at (show N < n by omega)
    exact spt (chain [tT 23 ((N : Int) < (m.length : Int)) (by omega),
    .s (Sp.upto (r7normFAIn m p N K) 0 K (by omega) (fun k hk hltk => by
    have gg := hgN k (by omega)
    have v1 := nsum_valid (m.getD N []) (show 1 ≤ p by omega) (by omega) k
    have v2 := ga.val_at (show N < n by omega) (show k < c by omega)
    have gga := gg.all
    have v3 := magI_valid v2.ends.1 v2.ends.2
    exact spt (chain [iX ((N : Int)) (m.length) (by omega), tT 32 ((k : Int) < (((m.getD N []).length : Nat) : Int)) (by omega), iX ((N : Int)) (m.length) (by omega), iX ((k : Int)) ((m.getD N []).length) (by omega),
     tB 42 (gg.all : ((m.getD N []).getD k wholeI).all = false), iX ((N : Int)) (m.length) (by omega), iX ((k : Int)) ((m.getD N []).length) (by omega), .c (r5Mag_pc ((m.getD N []).getD k wholeI) ‹_› gga),
     .c (r3Add_pc (nsum (m.getD N []) p k) (magI ((m.getD N []).getD k wholeI)) p true ‹_› ‹_› (by omega) (by omega)),
     tB 59 (by rw [gg.err]; rfl : ((rndE (sumD (nsum (m.getD N []) p k) (magI ((m.getD N []).getD k wholeI))) p true) != 0) = false), r64 ((k : Int) + 1) (by omega)] <| .e (chain [.b 8 (.of_eq rfl : Bx.le (.cells 26 (dyL (rndD (sumD (nsum (m.getD N []) p k) (magI ((m.getD N []).getD k wholeI))) p true))) (.cells 26 (dyL (nsum (m.getD N []) p (k + 1)))))] <| .nil)) (by kernel_rfl))
  (fun hk => by
    have v1 := nsum_valid (m.getD N []) (show 1 ≤ p by omega) (by omega) K
    have v2 := ga.val_at (show N < n by omega) (show K < c by omega)
    have v3 := magI_valid v2.ends.1 v2.ends.2
    exact spt (chain [iX ((N : Int)) (m.length) (by omega), tT 32 ((K : Int) < (((m.getD N []).length : Nat) : Int)) (by omega), iX ((N : Int)) (m.length) (by omega), iX ((K : Int)) ((m.getD N []).length) (by omega),
    tB 42 (hbad : ((m.getD N []).getD K wholeI).all = true), .o 43 (.e zeroP_le : PV.le (.e (.agg [(bP false), (.v (.slice none 0 0)), (iP 0)])) (.e (dyP zeroD)))] <| .nil) (by kernel_rfl)) (by nofun) : LpT 9 Tryz.f66 (r7normFAIn m p N K 0) .ret ⟨67, true, [(5, .e (bP false)), (4, .box 4 0)], [(4, .cells 26 (dyL zeroD))]⟩) (chain [.b 8 (.cells (fun _ => rfl) zero_cells : Bx.le (.cells 26 [(bP false), (.v (.slice none 0 0)), (iP 0)]) (.cells 26 (dyL (nsum (m.getD N []) p 0))))] <| .nil)] <| .nil) (by kernel_rfl)) (by nofun) : LpT 5 Tryz.f66 (r7normFA m p N 0) .ret ⟨67, true, [(5, .e (bP false)), (4, .box 4 0)], [(4, .cells 26 (dyL zeroD))]⟩) (chain [.b 6 (.cells (fun _ => rfl) zero_cells : Bx.le (.cells 26 [(bP false), (.v (.slice none 0 0)), (iP 0)]) (.cells 26 (dyL (nmost m p 0))))] <| .nil)] <| .nil) (by kernel_rfl)
set_option maxHeartbeats 2000000 in
theorem r7norm_bad2 (m : List (List Iv)) (n c p : Nat) (ga : MOk m n c) (hp1 : 8 ≤ p) (hp2 : p ≤ 512) (N K : Nat) (hN : N < m.length) (hK : K < (m.getD N []).length) (hg : ∀ x, x < N → ∀ k, k < (m.getD x []).length → NGood (m.getD x []) p k) (hgN : ∀ k, k < K → NGood (m.getD N []) p k) (hall : ((m.getD N []).getD K wholeI).all = false) (hbad : ¬ rndE (sumD (nsum (m.getD N []) p K) (magI ((m.getD N []).getD K wholeI))) p true = 0) : PCt 66 [(matP m), (iP p)] (.tup [dyP zeroD, bP false]) := by
 have ra := ga.rows
 have n8 := ga.n8
 have c8 := ga.k8
 exact tr true Tryz.call66 Tryz.func66 (chain [.c (r7Valid_pc _ _ _ ‹_› : PCt 96 [(matP m)] _), .c (refPrec_pc _ : PCt 58 [(iP p)] _), tB 16 (precB_true.2 ⟨by omega, by omega⟩ : (precB (p : Int)) = true),
  .s (Sp.upto (r7normFB m p N) 0 N (by omega) (fun x hx hltx => by
    have lx := ga.len_at (show x < n by omega)
    have u1 := nsum_valid (m.getD x []) (show 1 ≤ p by omega) (by omega) (m.getD x []).length
    have u2 := nmost_valid m (show 1 ≤ p by omega) (by omega) x
    by_cases c1 : 0 < cmpD (nsum (m.getD x []) p ((m.getD x []).length)) (nmost m p x)
    ·exact spt (chain [tT 23 ((x : Int) < (m.length : Int)) (by omega),
      .s (Sp.upto (r7normFamIn m p x) 0 ((m.getD x []).length) (by omega) (fun k hk hltk => by
    have gg := (hg x (by omega)) k (by omega)
    have v1 := nsum_valid (m.getD x []) (show 1 ≤ p by omega) (by omega) k
    have v2 := ga.val_at (show x < n by omega) (show k < c by omega)
    have gga := gg.all
    have v3 := magI_valid v2.ends.1 v2.ends.2
    exact spt (chain [iX ((x : Int)) (m.length) (by omega), tT 32 ((k : Int) < (((m.getD x []).length : Nat) : Int)) (by omega), iX ((x : Int)) (m.length) (by omega), iX ((k : Int)) ((m.getD x []).length) (by omega),
     tB 42 (gg.all : ((m.getD x []).getD k wholeI).all = false), iX ((x : Int)) (m.length) (by omega), iX ((k : Int)) ((m.getD x []).length) (by omega), .c (r5Mag_pc ((m.getD x []).getD k wholeI) ‹_› gga),
     .c (r3Add_pc (nsum (m.getD x []) p k) (qka2 m x k) p true ‹_› ‹_› (by omega) (by omega)),
     tB 59 (by rw [gg.err]; rfl : ((rndE (sumD (nsum (m.getD x []) p k) (magI ((m.getD x []).getD k wholeI))) p true) != 0) = false), r64 ((k : Int) + 1) (by omega)] <| .e (chain [.b 8 (.of_eq rfl : Bx.le (.cells 26 (qka1 m x p k)) (.cells 26 (dyL (nsum (m.getD x []) p (k + 1)))))] <| .nil)) (by kernel_rfl))
  (fun hk => by
    exact spt (chain [iX ((x : Int)) (m.length) (by omega), tF 32 ((((m.getD x []).length : Nat) : Int) < (((m.getD x []).length : Nat) : Int)) (by omega)] <| .nil) (by kernel_rfl)) (by nofun) : LpT 9 Tryz.f66 (r7normFamIn m p x 0) (.exit 2) ⟨67, true, [(8, .box 8 0), (7, .e (iP x)), (6, .box 6 0), (4, .box 4 0), (0, .e (matP m)), (1, .e (iP p))], [(8, .cells 26 (dyL (qka0 m x p))), (6, .cells 26 (dyL (nmost m p x))), (4, .cells 26 [(bP false), (.v (.slice none 0 0)), (iP 0)])]⟩) (chain [.b 8 (.cells (fun _ => rfl) zero_cells : Bx.le (.cells 26 [(bP false), (.v (.slice none 0 0)), (iP 0)]) (.cells 26 (dyL (nsum (m.getD x []) p 0))))] <| .nil),
      .c (refCmp_pc (qka0 m x p) (nmost m p x) (Fp.Dy.Valid.near ‹_›) (Fp.Dy.Valid.near ‹_›)), tB 64 (decide_eq_true c1), r64 ((x : Int) + 1) (by omega)] <| .e (chain [.b 6 (.of_eq (by rw [show nmost m p (x + 1) = (qka0 m x p) from if_pos c1]) : Bx.le (.cells 26 (dyL (qka0 m x p))) (.cells 26 (dyL (nmost m p (x + 1)))))] <| .nil)) (by kernel_rfl)
    ·exact spt (chain [tT 23 ((x : Int) < (m.length : Int)) (by omega),
      .s (Sp.upto (r7normFamIn m p x) 0 ((m.getD x []).length) (by omega) (fun k hk hltk => by
    have gg := (hg x (by omega)) k (by omega)
    have v1 := nsum_valid (m.getD x []) (show 1 ≤ p by omega) (by omega) k
    have v2 := ga.val_at (show x < n by omega) (show k < c by omega)
    have gga := gg.all
    have v3 := magI_valid v2.ends.1 v2.ends.2
    exact spt (chain [iX ((x : Int)) (m.length) (by omega), tT 32 ((k : Int) < (((m.getD x []).length : Nat) : Int)) (by omega), iX ((x : Int)) (m.length) (by omega), iX ((k : Int)) ((m.getD x []).length) (by omega),
     tB 42 (gg.all : ((m.getD x []).getD k wholeI).all = false), iX ((x : Int)) (m.length) (by omega), iX ((k : Int)) ((m.getD x []).length) (by omega), .c (r5Mag_pc ((m.getD x []).getD k wholeI) ‹_› gga),
     .c (r3Add_pc (nsum (m.getD x []) p k) (qka2 m x k) p true ‹_› ‹_› (by omega) (by omega)),
     tB 59 (by rw [gg.err]; rfl : ((rndE (sumD (nsum (m.getD x []) p k) (magI ((m.getD x []).getD k wholeI))) p true) != 0) = false), r64 ((k : Int) + 1) (by omega)] <| .e (chain [.b 8 (.of_eq rfl : Bx.le (.cells 26 (qka1 m x p k)) (.cells 26 (dyL (nsum (m.getD x []) p (k + 1)))))] <| .nil)) (by kernel_rfl))
  (fun hk => by
    exact spt (chain [iX ((x : Int)) (m.length) (by omega), tF 32 ((((m.getD x []).length : Nat) : Int) < (((m.getD x []).length : Nat) : Int)) (by omega)] <| .nil) (by kernel_rfl)) (by nofun) : LpT 9 Tryz.f66 (r7normFamIn m p x 0) (.exit 2) ⟨67, true, [(8, .box 8 0), (7, .e (iP x)), (6, .box 6 0), (4, .box 4 0), (0, .e (matP m)), (1, .e (iP p))], [(8, .cells 26 (dyL (qka0 m x p))), (6, .cells 26 (dyL (nmost m p x))), (4, .cells 26 [(bP false), (.v (.slice none 0 0)), (iP 0)])]⟩) (chain [.b 8 (.cells (fun _ => rfl) zero_cells : Bx.le (.cells 26 [(bP false), (.v (.slice none 0 0)), (iP 0)]) (.cells 26 (dyL (nsum (m.getD x []) p 0))))] <| .nil),
      .c (refCmp_pc (qka0 m x p) (nmost m p x) (Fp.Dy.Valid.near ‹_›) (Fp.Dy.Valid.near ‹_›)), tB 64 (decide_eq_false c1), r64 ((x : Int) + 1) (by omega)] <| .e (chain [.b 6 (.of_eq (by rw [show nmost m p (x + 1) = (nmost m p x) from if_neg c1]) : Bx.le (.cells 26 (dyL (nmost m p x))) (.cells 26 (dyL (nmost m p (x + 1)))))] <| .nil)) (by kernel_rfl))
  (fun hx => by
    have lN := ga.len_at (show N < n by omega)
    exact spt (chain [tT 23 ((N : Int) < (m.length : Int)) (by omega),
    .s (Sp.upto (r7normFBIn m p N K) 0 K (by omega) (fun k hk hltk => by
    have gg := hgN k (by omega)
    have v1 := nsum_valid (m.getD N []) (show 1 ≤ p by omega) (by omega) k
    have v2 := ga.val_at (show N < n by omega) (show k < c by omega)
    have gga := gg.all
    have v3 := magI_valid v2.ends.1 v2.ends.2
    exact spt (chain [iX ((N : Int)) (m.length) (by omega), tT 32 ((k : Int) < (((m.getD N []).length : Nat) : Int)) (by omega), iX ((N : Int)) (m.length) (by omega), iX ((k : Int)) ((m.getD N []).length) (by omega),
     tB 42 (gg.all : ((m.getD N []).getD k wholeI).all = false), iX ((N : Int)) (m.length) (by omega), iX ((k : Int)) ((m.getD N []).length) (by omega), .c (r5Mag_pc ((m.getD N []).getD k wholeI) ‹_› gga),
     .c (r3Add_pc (nsum (m.getD N []) p k) (magI ((m.getD N []).getD k wholeI)) p true ‹_› ‹_› (by omega) (by omega)),
     tB 59 (by rw [gg.err]; rfl : ((rndE (sumD (nsum (m.getD N []) p k) (magI ((m.getD N []).getD k wholeI))) p true) != 0) = false), r64 ((k : Int) + 1) (by omega)] <| .e (chain [.b 8 (.of_eq rfl : Bx.le (.cells 26 (dyL (rndD (sumD (nsum (m.getD N []) p k) (magI ((m.getD N []).getD k wholeI))) p true))) (.cells 26 (dyL (nsum (m.getD N []) p (k + 1)))))] <| .nil)) (by kernel_rfl))
  (fun hk => by
    have v1 := nsum_valid (m.getD N []) (show 1 ≤ p by omega) (by omega) K
    have v2 := ga.val_at (show N < n by omega) (show K < c by omega)
    have v3 := magI_valid v2.ends.1 v2.ends.2
    have gga := hall
    exact spt (chain [iX ((N : Int)) (m.length) (by omega), tT 32 ((K : Int) < (((m.getD N []).length : Nat) : Int)) (by omega), iX ((N : Int)) (m.length) (by omega), iX ((K : Int)) ((m.getD N []).length) (by omega),
    tB 42 (gga : ((m.getD N []).getD K wholeI).all = false), iX ((N : Int)) (m.length) (by omega), iX ((K : Int)) ((m.getD N []).length) (by omega), .c (r5Mag_pc ((m.getD N []).getD K wholeI) ‹_› gga),
    .c (r3Add_pc (nsum (m.getD N []) p K) (magI ((m.getD N []).getD K wholeI)) p true ‹_› ‹_› (by omega) (by omega)),
    tB 59 (by simpa using hbad : ((rndE (sumD (nsum (m.getD N []) p K) (magI ((m.getD N []).getD K wholeI))) p true) != 0) = true), .o 60 (.e zeroP_le : PV.le (.e (.agg [(bP false), (.v (.slice none 0 0)), (iP 0)])) (.e (dyP zeroD)))] <| .nil) (by kernel_rfl)) (by nofun) : LpT 9 Tryz.f66 (r7normFBIn m p N K 0) .ret ⟨67, true, [(5, .e (bP false)), (4, .box 4 0)], [(4, .cells 26 (dyL zeroD))]⟩) (chain [.b 8 (.cells (fun _ => rfl) zero_cells : Bx.le (.cells 26 [(bP false), (.v (.slice none 0 0)), (iP 0)]) (.cells 26 (dyL (nsum (m.getD N []) p 0))))] <| .nil)] <| .nil) (by kernel_rfl)) (by nofun) : LpT 5 Tryz.f66 (r7normFB m p N 0) .ret ⟨67, true, [(5, .e (bP false)), (4, .box 4 0)], [(4, .cells 26 (dyL zeroD))]⟩) (chain [.b 6 (.cells (fun _ => rfl) zero_cells : Bx.le (.cells 26 [(bP false), (.v (.slice none 0 0)), (iP 0)]) (.cells 26 (dyL (nmost m p 0))))] <| .nil)] <| .nil) (by kernel_rfl)
theorem r7norm_yes (m : List (List Iv)) (n c p : Nat) (ga : MOk m n c) (hp1 : 8 ≤ p) (hp2 : p ≤ 512) (d : Dy) (hd : normM m p = some d) : PCt 66 [matP m, iP (p : Int)] (.tup [dyP d, bP true]) ∧ d.Valid := by
 have hg : ∀ x, x < m.length → ∀ k, k < (m.getD x []).length → NGood (m.getD x []) p k := by
  intro x hx k hk
  apply Classical.byContradiction
  intro q
  rw [normM_none hx hk q] at hd
  cases hd
 rw [normM_some hg] at hd
 cases hd
 exact ⟨r7norm_some m n c p ga hp1 hp2 hg, nmost_valid m (by omega) (by omega) _⟩
theorem r7norm_no (m : List (List Iv)) (n c p : Nat) (ga : MOk m n c) (hp1 : 8 ≤ p) (hp2 : p ≤ 512) (hd : normM m p = none) : PCt 66 [matP m, iP (p : Int)] (.tup [dyP zeroD, bP false]) := by
 have hb : ¬ ∀ x, x < m.length → ∀ k, k < (m.getD x []).length → NGood (m.getD x []) p k := fun hg => by rw [normM_some hg] at hd; cases hd
 obtain ⟨N, h1, h2, h3⟩ := first_bad (Q := fun x => ∀ k, k < (m.getD x []).length → NGood (m.getD x []) p k) hb
 obtain ⟨K, k1, k2, k3⟩ := first_bad h2
 by_cases ha : ((m.getD N []).getD K wholeI).all = true
 ·exact r7norm_bad1 m n c p ga hp1 hp2 N K h1 k1 h3 k3 ha
 ·replace ha : ((m.getD N []).getD K wholeI).all = false := by simpa using ha
  refine r7norm_bad2 m n c p ga hp1 hp2 N K h1 k1 h3 k3 ha fun q => ?_
  exact k2 ⟨ha, q⟩
open Go.RowKit Fp Pu
theorem range_any (r : List Iv) : ((List.range (r.length)).any fun j_ => (r.getD j_ wholeI).all) = r.any fun x => x.all := by
 rw [Bool.eq_iff_iff, List.any_eq_true, List.any_eq_true]
 constructor
 ·rintro ⟨j, h1, h2⟩
  have hj := List.mem_range.1 h1
  rw [getD_eq_getElem hj] at h2
  exact ⟨_, List.getElem_mem hj, h2⟩
 ·rintro ⟨x, h1, h2⟩
  obtain ⟨j, hj, rfl⟩ := List.mem_iff_getElem.1 h1
  exact ⟨j, List.mem_range.2 hj, by rw [getD_eq_getElem hj]; exact h2⟩
theorem range_anyM (m : List (List Iv)) : ((List.range (m.length)).any fun i_ => (m.getD i_ []).any fun x => x.all) = m.any fun r => r.any fun x => x.all := by
 rw [Bool.eq_iff_iff, List.any_eq_true, List.any_eq_true]
 constructor
 ·rintro ⟨j, h1, h2⟩
  have hj := List.mem_range.1 h1
  rw [getD_eq_getElem hj] at h2
  exact ⟨_, List.getElem_mem hj, h2⟩
 ·rintro ⟨x, h1, h2⟩
  obtain ⟨j, hj, rfl⟩ := List.mem_iff_getElem.1 h1
  exact ⟨j, List.mem_range.2 hj, by rw [getD_eq_getElem hj]; exact h2⟩
theorem all11_pc (x : Iv) : PCt 136 [(ivP x)] (bP x.all) := by
 exact tr true Tryz.call136 Tryz.func136 (.nil) (by kernel_rfl)
theorem all1_pc (r : List Iv) (hl : r.length ≤ 1000) : PCt 135 [(ivsP r)] (bP (r.any fun x => x.all)) := by
 exact tr true Tryz.call135 Tryz.func135 (chain [.c (iv_any true r.length (ivsE r) 136 [] (fun j_ => (r.getD j_ wholeI).all) (fun j hj => all11_pc _) (by omega) : PCt 55 [(ivsP r), (.fn 136 [])] _)] <| rQ (bP ((List.range (r.length)).any fun j_ => (r.getD j_ wholeI).all)) (bP (r.any fun x => x.all)) (by rw [range_any])) (by kernel_rfl)
theorem all_pc (m : List (List Iv)) (hl : m.length ≤ 1000) (hr : ∀ i, (m.getD i []).length ≤ 1000) : PCt 49 [(matP m)] (bP (m.any fun r => r.any fun x => x.all)) := by
 exact tr true Tryz.call49 Tryz.func49 (chain [.c (row_any true m.length (matE m) 135 [] (fun i_ => (m.getD i_ []).any fun x => x.all) (fun i hi => all1_pc _ (hr i)) (by omega) : PCt 53 [(matP m), (.fn 135 [])] _)] <| rQ (bP ((List.range (m.length)).any fun i_ => (m.getD i_ []).any fun x => x.all)) (bP (m.any fun r => r.any fun x => x.all)) (by rw [range_anyM])) (by kernel_rfl)
theorem square_pc (m : List (List Iv)) (n c : Nat) (ga : MOk m n c) : PCt 40 [(matP m)] (bP (decide (n = c))) := by
 have ra := ga.rows
 have n1 := ga.n1
 have la := ga.len_at (show 0 < n by omega)
 by_cases h : n = c
 ·exact tr true Tryz.call40 Tryz.func40 (chain [.c (matValid_pc _ _ _ ‹_› : PCt 103 [(matP m)] _), iX (0) (m.length) (by omega), tB 12 (natEq_true (by omega) : ((m.length : Int) == (((m.getD 0 []).length : Nat) : Int)) = true)] <| rQ (bP true) (bP (decide (n = c))) (by rw [decide_eq_true h])) (by kernel_rfl)
 ·exact tr true Tryz.call40 Tryz.func40 (chain [.c (matValid_pc _ _ _ ‹_› : PCt 103 [(matP m)] _), iX (0) (m.length) (by omega), tB 12 (natEq_false (by omega) : ((m.length : Int) == (((m.getD 0 []).length : Nat) : Int)) = false)] <| rQ (bP false) (bP (decide (n = c))) (by rw [decide_eq_false h])) (by kernel_rfl)
open Go.RowKit Fp Pu
theorem neg_le_self {d : Dy} (hd : d.neg = false) : cmpD (negD d) d ≤ 0 := by
 rw [le_iff (k := d.e) (.inr (show d.e ≤ (negD d).e from Int.le_refl _)) (.inr (Int.le_refl _))]
 have h1 := num_nn hd d.e
 by_cases h0 : d.m = 0
 ·have : (negD d).num d.e = 0 := by unfold Dy.num Dy.mag negD; simp [h0]
  omega
 ·rw [num_negD d d.e h0]; omega
theorem rest_pc (m : List (List Iv)) (h : Iv) (n c k p : Nat) (ga : MOk m n c) (hh : h.Valid) (hk : k ≤ 1000) (hp1 : 8 ≤ p) (hp2 : p ≤ 512) :
  (∀ e, restI m h k p = some e → PCt 42 [matP m, ivP h, iP (k : Int), iP (p : Int)] (.tup [ivP e, bP true]) ∧ e.Valid ∧ e.all = false) ∧
  (restI m h k p = none → ∃ x : Iv, PCt 42 [matP m, ivP h, iP (k : Int), iP (p : Int)] (.tup [ivP x, bP false])) := by
 cases hn : normM m p with
 | none =>
  refine ⟨fun e he => ?_, fun _ => ⟨_, rest_no1 m h n c k p ga hh hk hp1 hp2 hn⟩⟩
  unfold restI at he; rw [hn] at he; cases he
 | some d =>
  obtain ⟨hp, hd⟩ := norm_yes m n c p ga hp1 hp2 d hn
  have hdn : d.neg = false := by
   have hg : ∀ i, i < m.length → ∀ k, k < (m.getD i []).length → NGood (m.getD i []) p k := by
    intro i hi k hk
    apply Classical.byContradiction
    intro q
    rw [normM_none hi hk q] at hn
    cases hn
   rw [normM_some hg] at hn
   cases hn
   exact nmost_nn _ _ _
  have hun : (mulI (absI h) (pointI d) p).NN := mulI_nn (absI_nn h) (pointI_nn hdn) p
  unfold restI
  rw [hn, Option.bind_some]
  simp only
  by_cases hu : (mulI (absI h) (pointI d) p).all = true
  ·rw [if_pos (by rw [hu]; rfl)]
   exact ⟨fun e hx => (by cases hx), fun _ => ⟨_, rest_no2 m h n c k p ga hh hk hp1 hp2 d hp hd hu⟩⟩
  ·replace hu : (mulI (absI h) (pointI d) p).all = false := by simpa using hu
   by_cases hc : 0 ≤ cmpD (mulI (absI h) (pointI d) p).hi (intD (((k + 2) : Nat) : Int))
   ·rw [if_pos (by rw [hu, decide_eq_true hc]; rfl)]
    exact ⟨fun e hx => (by cases hx), fun _ => ⟨_, rest_no3 m h n c k p ga hh hk hp1 hp2 d hp hd hu hc⟩⟩
   ·rw [if_neg (by rw [hu, decide_eq_false hc]; decide)]
    by_cases he : (divI (powI (mulI (absI h) (pointI d) p) p (k + 1)) (subI (numI 1) (divI (mulI (absI h) (pointI d) p) (numI (((k + 2) : Nat) : Int)) p) p) p).all = true
    ·rw [if_pos he]
     exact ⟨fun e hx => (by cases hx), fun _ => ⟨_, rest_no4 m h n c k p ga hh hk hp1 hp2 d hp hd hu hc he⟩⟩
    ·rw [if_neg he]
     replace he : (divI (powI (mulI (absI h) (pointI d) p) p (k + 1)) (subI (numI 1) (divI (mulI (absI h) (pointI d) p) (numI (((k + 2) : Nat) : Int)) p) p) p).all = false := by simpa using he
     have hv := divI_valid (powI (mulI (absI h) (pointI d) p) p (k + 1)) (subI (numI 1) (divI (mulI (absI h) (pointI d) p) (numI (((k + 2) : Nat) : Int)) p) p) (show 1 ≤ p by omega) (show p ≤ 4096 by omega)
     have hnn := rest_nn (c := k + 2) hun (by omega) hu (by omega) (powI_nn hun p (k + 1)) he (show 1 ≤ p by omega) (by omega)
     refine ⟨fun e hx => ?_, fun hx => (by cases hx)⟩
     cases hx
     exact ⟨rest_yes m h n c k p ga hh hk hp1 hp2 d hp hd hu hc he, .inr ⟨rfl, negD_valid hv.ends.2, hv.ends.2, neg_le_self hnn.hi⟩, rfl⟩
end Go.Proofs.YtdppllbbgfekaaaGreatDoor
