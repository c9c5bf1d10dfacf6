/- The law VariationExp returns true: Exp returns the flow matrix that the reference makes, or the specified error, for every input. -/
import Derived.Test.YtdppllbbgfekaaaGreatDoorM05
set_option linter.unusedSimpArgs false
set_option linter.unusedVariables false
namespace Go.Proofs.YtdppllbbgfekaaaGreatDoor
open Go.RowKit Fp Pu
abbrev qla4 (h) (d : Dy) (p) (k) := powI (mulI (absI h) (pointI d) p) p (k + 1)
abbrev qla3 (h) (d : Dy) (p) (k) := divI (mulI (absI h) (pointI d) p) (numI (((k + 2) : Nat) : Int)) p
abbrev qla0 (m) (h) (p) (k) (d : Dy) := fun i j => addI (((sumM m h p k).getD i []).getD j wholeI) (Iv.mk (negD (divI (qla4 h d p k) (subI (numI 1) (qla3 h d p k) p) p).hi) (divI (qla4 h d p k) (subI (numI 1) (qla3 h d p k) p) p).hi false) p
abbrev qla1 (h) (d : Dy) (p) (k) := Iv.mk (negD ((divI (qla4 h d p k) (subI (numI 1) (qla3 h d p k) p) p).hi)) ((divI (qla4 h d p k) (subI (numI 1) (qla3 h d p k) p) p).hi) false
abbrev qla2 (m) (h) (p) (x) := matP (scaleM (mulM (termM m h p x) m p) (divI h (numI (((x + 1) : Nat) : Int)) p) p)
abbrev qla5 (m) (h) (p) (k) (x) (y) (d : Dy) := addI (((sumM m h p k).getD x []).getD y wholeI) (qla1 h d p k) p
abbrev qla6 (h) (d : Dy) (p) (x) := divI (mulI (absI h) (pointI d) p) (numI (((x + 1) : Nat) : Int)) p
abbrev qla7 (h) (x) (p) := ivP (divI h (numI (((x + 1) : Nat) : Int)) p)
abbrev qla8 (h) (d : Dy) (p) (x) := powI (mulI (absI h) (pointI d) p) p x
def r32KnownOY (m : List (List Iv)) (x : Nat) : PS := ⟨28, true, [(3, .e (iP x)), (0, .e (matP m))], []⟩
def r32KnownI (m : List (List Iv)) (x : Nat) (y : Nat) : PS := ⟨28, true, [(4, .e (iP y)), (3, .e (iP x)), (0, .e (matP m))], []⟩
def r32KnownOE (m : List (List Iv)) (N J : Nat) (x : Nat) : PS := ⟨28, true, [(3, .e (iP x)), (0, .e (matP m))], []⟩
def r32KnownJ (m : List (List Iv)) (N J : Nat) (y : Nat) : PS := ⟨28, true, [(4, .e (iP y)), (3, .e (iP N)), (0, .e (matP m))], []⟩
def r32FamAN (m : List (List Iv)) (h : Iv) (k p J : Nat) (x : Nat) : PS := ⟨177, true, [(12, .e (iP (((x + 1) : Nat) : Int))), (11, .e (matP (sumM m h p x))), (10, .e (matP (termM m h p x))), (5, .box 5 0), (0, .e (matP m)), (2, .e (iP k)), (3, .e (iP p))], [(5, .cells 28 (ivL h))]⟩
def r32FamAY (m : List (List Iv)) (h : Iv) (k p : Nat) (x : Nat) : PS := ⟨177, true, [(12, .e (iP (((x + 1) : Nat) : Int))), (11, .e (matP (sumM m h p x))), (10, .e (matP (termM m h p x))), (5, .box 5 0), (0, .e (matP m)), (2, .e (iP k)), (3, .e (iP p))], [(5, .cells 28 (ivL h))]⟩
def r32FamT (m : List (List Iv)) (h : Iv) (d : Dy) (k p : Nat) (x : Nat) : PS := ⟨177, true, [(19, .e (iP (((x + 1) : Nat) : Int))), (18, .box 18 0), (17, .box 17 0), (11, .e (matP (sumM m h p k))), (0, .e (matP m)), (2, .e (iP k)), (3, .e (iP p))], [(18, .cells 28 (ivL (qla8 h d p x))), (17, .cells 28 (ivL (mulI (absI h) (pointI d) p)))]⟩
def r32FamB (m : List (List Iv)) (h : Iv) (d : Dy) (k p : Nat) (x : Nat) : PS := ⟨177, true, [(23, .e (iP x)), (22, .own 141), (21, .box 21 0), (11, .e (matP (sumM m h p k))), (0, .e (matP m)), (3, .e (iP p))], [(141, .rows true 31 28 m.length 7 (lnE (buildM m.length (fun _ => m.length) (qla0 m h p k d) x 0)) (rowsE (buildM m.length (fun _ => m.length) (qla0 m h p k d) x 0)) .none), (21, .cells 28 (ivL (qla1 h d p k)))]⟩
def r32FamC (m : List (List Iv)) (h : Iv) (d : Dy) (k p : Nat) (x : Nat) (y : Nat) : PS := ⟨177, true, [(24, .e (iP y)), (23, .e (iP x)), (22, .own 141), (21, .box 21 0), (11, .e (matP (sumM m h p k))), (0, .e (matP m)), (3, .e (iP p))], [(141, .rows true 31 28 m.length 7 (lnE (buildM m.length (fun _ => m.length) (qla0 m h p k d) x y)) (rowsE (buildM m.length (fun _ => m.length) (qla0 m h p k d) x y)) .none), (21, .cells 28 (ivL (qla1 h d p k)))]⟩
theorem refIntD_pc (n : Nat) (hn : n < 4294967296) : PCt 70 [iP (n : Int)] (dyP (intD (n : Int))) := by
 rw [intD_nat]; exact refInt_pc n hn
def anyAll (m : List (List Iv)) : Bool := m.any fun r => r.any fun x => x.all
set_option maxHeartbeats 4000000 in
theorem r32Whole_pc (n : Nat) (h : n < 4294967296) : PCt 63 [(iP n)] (ivP (numI (n : Int))) := by
 exact tr true Tryz.call63 Tryz.func63 (chain [.c (refIntD_pc n (by omega) : PCt 70 [(iP n)] _), .c (r5Point_pc (intD (n : Int)))] <| .nil) (by kernel_rfl)
set_option maxHeartbeats 4000000 in
theorem r32Known_Y (m : List (List Iv)) (hl : m.length ≤ 1000) (hrows : ∀ i, (m.getD i []).length ≤ 1000) (hok : ∀ i, i < m.length → ∀ j, j < (m.getD i []).length → ((m.getD i []).getD j wholeI).all = false) : PCt 64 [(matP m)] (bP true) := by
 exact tr true Tryz.call64 Tryz.func64 (chain [.s (Sp.upto (r32KnownOY m) 0 m.length (by omega) (fun x hx hltx => by
    have hlx := hrows x
    exact spt (chain [tT 8 ((x : Int) < (m.length : Int)) (by omega),
     .s (Sp.upto (r32KnownI m x) 0 ((m.getD x []).length) (by omega) (fun y hy hlty => by
    exact spt (chain [iX ((x : Int)) (m.length) (by omega), tT 17 ((y : Int) < (((m.getD x []).length : Nat) : Int)) (by omega), iX ((x : Int)) (m.length) (by omega), iX ((y : Int)) ((m.getD x []).length) (by omega),
     tB 27 (hok x (by omega) y (by omega) : ((m.getD x []).getD y wholeI).all = false), r64 ((y : Int) + 1) (by omega)] <| .nil) (by kernel_rfl))
  (fun hy => by
    exact spt (chain [iX ((x : Int)) (m.length) (by omega), tF 17 ((((m.getD x []).length : Nat) : Int) < (((m.getD x []).length : Nat) : Int)) (by omega)] <| .nil) (by kernel_rfl)) (by nofun) : LpT 5 Tryz.f64 (r32KnownI m x 0) (.exit 2) ⟨28, true, [(3, .e (iP x)), (0, .e (matP m))], []⟩) .nil,
     r64 ((x : Int) + 1) (by omega)] <| .nil) (by kernel_rfl))
  (fun hx => by
    exact spt (chain [tF 8 ((m.length : Int) < (m.length : Int)) (by omega)] <| .nil) (by kernel_rfl)) (by nofun) : LpT 2 Tryz.f64 (r32KnownOY m 0) (.exit 0) ⟨28, true, [], []⟩) .nil] <| .nil) (by kernel_rfl)
set_option maxHeartbeats 4000000 in
theorem r32Known_E (m : List (List Iv)) (hl : m.length ≤ 1000) (hrows : ∀ i, (m.getD i []).length ≤ 1000) (N : Nat) (hN : N < m.length) (hok : ∀ i, i < N → ∀ j, j < (m.getD i []).length → ((m.getD i []).getD j wholeI).all = false) (J : Nat) (hJ : J < (m.getD N []).length) (hoJ : ∀ j, j < J → ((m.getD N []).getD j wholeI).all = false) (hbad : ((m.getD N []).getD J wholeI).all = true) : PCt 64 [(matP m)] (bP false) := by
 exact tr true Tryz.call64 Tryz.func64 (chain [.s (Sp.upto (r32KnownOE m N J) 0 N (by omega) (fun x hx hltx => by
    have hlx := hrows x
    exact spt (chain [tT 8 ((x : Int) < (m.length : Int)) (by omega),
     .s (Sp.upto (r32KnownI m x) 0 ((m.getD x []).length) (by omega) (fun y hy hlty => by
    exact spt (chain [iX ((x : Int)) (m.length) (by omega), tT 17 ((y : Int) < (((m.getD x []).length : Nat) : Int)) (by omega), iX ((x : Int)) (m.length) (by omega), iX ((y : Int)) ((m.getD x []).length) (by omega),
     tB 27 (hok x (by omega) y (by omega) : ((m.getD x []).getD y wholeI).all = false), r64 ((y : Int) + 1) (by omega)] <| .nil) (by kernel_rfl))
  (fun hy => by
    exact spt (chain [iX ((x : Int)) (m.length) (by omega), tF 17 ((((m.getD x []).length : Nat) : Int) < (((m.getD x []).length : Nat) : Int)) (by omega)] <| .nil) (by kernel_rfl)) (by nofun) : LpT 5 Tryz.f64 (r32KnownI m x 0) (.exit 2) ⟨28, true, [(3, .e (iP x)), (0, .e (matP m))], []⟩) .nil,
     r64 ((x : Int) + 1) (by omega)] <| .nil) (by kernel_rfl))
  (fun hx => by
    have hlx := hrows N
    exact spt (chain [tT 8 ((N : Int) < (m.length : Int)) (by omega),
    .s (Sp.upto (r32KnownJ m N J) 0 J (by omega) (fun y hy hlty => by
    exact spt (chain [iX ((N : Int)) (m.length) (by omega), tT 17 ((y : Int) < (((m.getD N []).length : Nat) : Int)) (by omega), iX ((N : Int)) (m.length) (by omega), iX ((y : Int)) ((m.getD N []).length) (by omega),
     tB 27 (hoJ y (by omega) : ((m.getD N []).getD y wholeI).all = false), r64 ((y : Int) + 1) (by omega)] <| .nil) (by kernel_rfl))
  (fun hy => by
    exact spt (chain [iX ((N : Int)) (m.length) (by omega), tT 17 ((J : Int) < (((m.getD N []).length : Nat) : Int)) (by omega), iX ((N : Int)) (m.length) (by omega), iX ((J : Int)) ((m.getD N []).length) (by omega),
    tB 27 (hbad : ((m.getD N []).getD J wholeI).all = true)] <| .nil) (by kernel_rfl)) (by nofun) : LpT 5 Tryz.f64 (r32KnownJ m N J 0) .ret ⟨28, true, [(2, .e (bP false))], []⟩) .nil] <| .nil) (by kernel_rfl)) (by nofun) : LpT 2 Tryz.f64 (r32KnownOE m N J 0) .ret ⟨28, true, [(2, .e (bP false))], []⟩) .nil] <| .nil) (by kernel_rfl)
theorem r32Known_pc (m : List (List Iv)) (hl : m.length ≤ 1000) (hrows : ∀ i, (m.getD i []).length ≤ 1000) : PCt 64 [matP m] (bP (!(anyAll m))) := by
 unfold anyAll
 rw [← range_anyM]
 by_cases hb : ∃ N, N < m.length ∧ ((m.getD N []).any fun x => x.all) = true
 ·obtain ⟨N, hN, hbad, hlow⟩ := least_true hb
  have e : ((List.range (m.length)).any fun i_ => (m.getD i_ []).any fun x => x.all) = true := List.any_eq_true.2 ⟨N, List.mem_range.2 hN, hbad⟩
  rw [e]
  have hok : ∀ i, i < N → ∀ j, j < (m.getD i []).length → ((m.getD i []).getD j wholeI).all = false := fun i hi j hj => by
   have := hlow i hi
   rw [← range_any] at this
   simpa using List.any_eq_false.1 this j (List.mem_range.2 hj)
  have hex : ∃ j, j < (m.getD N []).length ∧ ((m.getD N []).getD j wholeI).all = true := by
   rw [← range_any] at hbad
   obtain ⟨j, hj, h⟩ := List.any_eq_true.1 hbad
   exact ⟨j, List.mem_range.1 hj, h⟩
  obtain ⟨J, hJ, hbJ, hlJ⟩ := least_true hex
  exact r32Known_E m hl hrows N hN hok J hJ hlJ hbJ
 ·have hall : ∀ i, i < m.length → ((m.getD i []).any fun x => x.all) = false := fun i hi => by
   cases hq : (m.getD i []).any fun x => x.all with
   | false => rfl
   | true => exact absurd ⟨i, hi, hq⟩ hb
  have e : ((List.range (m.length)).any fun i_ => (m.getD i_ []).any fun x => x.all) = false := List.any_eq_false.2 fun i hi => by rw [hall i (List.mem_range.1 hi)]; decide
  rw [e]
  exact r32Known_Y m hl hrows fun i hi j hj => by
   have := hall i hi
   rw [← range_any] at this
   simpa using List.any_eq_false.1 this j (List.mem_range.2 hj)
theorem MOk.rows_le {m : List (List Iv)} {n k : Nat} (h : MOk m n k) : m.length ≤ 1000 ∧ ∀ i, (m.getD i []).length ≤ 1000 := ⟨by have := h.rows; have := h.n8; omega, fun i => by have := h.len_le i; omega⟩
noncomputable def caseB (m : List (List RI)) (h : RI) : Bool := matOkB m && decide (m.length = (m.getD 0 []).length) && okB h && !h.all
set_option maxHeartbeats 4000000 in
theorem r32Case_pc (m : List (List RI)) (h : RI) (g : MGood m) (hl : m.length ≤ 1000000) (hrows : ∀ i, (m.getD i []).length ≤ 1000000) (gh : h.Good) : PCt 27 [(rmatP m), (riP h)] (bP (caseB m h)) := by
 have hr0 := hrows 0
 exact tr true Tryz.call27 Tryz.func27 (chain [.c (r7ValidR_pc _ g hl hrows : PCt 96 [(rmatP m)] _)] <| .w (matOkB m = true)
  (fun k1 => by
   have hm1 := (matOkB_true.1 k1).n1
   exact chain [tB 6 (k1), iX (0) (m.length) (by omega)] <| .w ((m.length : Int) = (((m.getD 0 []).length : Nat) : Int))
    (fun k2 => chain [tB 14 (beq_iff_eq.2 k2), .c (r5ValidR_pc _ (by first | assumption | exact g.at _ _) : PCt 97 [(riP h)] _)] <| .w (okB h = true)
     (fun k3 => chain [tB 18 (k3)] <| rR (bP (caseB m h)) (by
      have hd : decide (m.length = (m.getD 0 []).length) = true := decide_eq_true (by omega)
      exact .of_eq (by unfold caseB; rw [hd]; simp [k1, k3]) : E.le (bP (!h.all)) (bP (caseB m h))))
     (fun k3 => chain [tB 18 (Bool.eq_false_iff.2 k3)] <| rR (bP (caseB m h)) (by
      have hd : decide (m.length = (m.getD 0 []).length) = true := decide_eq_true (by omega)
      exact .of_eq (by unfold caseB; rw [hd]; simp [k1, k3]) : E.le (bP false) (bP (caseB m h)))))
    (fun k2 => chain [tB 14 (beq_eq_false_iff_ne.2 k2)] <| rR (bP (caseB m h)) (by
      have hd : decide (m.length = (m.getD 0 []).length) = false := decide_eq_false (by omega)
      exact .of_eq (by unfold caseB; rw [hd]; simp [k1]) : E.le (bP false) (bP (caseB m h)))))
  (fun k1 => chain [tB 6 (Bool.eq_false_iff.2 k1)] <| rQ (bP false) (bP (caseB m h)) (by unfold caseB; simp [k1]))) (by kernel_rfl)
set_option maxHeartbeats 4000000 in
theorem r32Exp_arg (m : List (List RI)) (h : RI) (g : MGood m) (hl : m.length ≤ 1000000) (hrows : ∀ i, (m.getD i []).length ≤ 1000000) (gh : h.Good) (k p : Int) (hc : caseB m h = false) : PCt 19 [(rmatP m), (riP h), (iP k), (iP p)] (.tup [.v (.slice none 0 0), iP 1]) := by
 exact tr true Tryz.call19 Tryz.func19 (chain [.c (r32Case_pc m h g hl hrows gh), tB 27 (hc : (caseB m h) = false)] <| .nil) (by kernel_rfl)
set_option maxHeartbeats 4000000 in
theorem r32Exp_range (m : List (List RI)) (h : RI) (g : MGood m) (hl : m.length ≤ 1000000) (hrows : ∀ i, (m.getD i []).length ≤ 1000000) (gh : h.Good) (k p : Int) (hc : caseB m h = true) (hkp : ¬ (8 ≤ p ∧ p ≤ 512 ∧ 1 ≤ k ∧ k ≤ 16)) : PCt 19 [(rmatP m), (riP h), (iP k), (iP p)] (.tup [.v (.slice none 0 0), iP 2]) := by
 exact tr true Tryz.call19 Tryz.func19 (chain [.c (r32Case_pc m h g hl hrows gh), tB 27 (hc : (caseB m h) = true), .c (refPrec_pc _ : PCt 58 [(iP p)] _)] <| .w (precB p = true)
  (fun k1 => chain [tB 30 (k1)] <| .w (k < 1)
   (fun k2 => chain [tB 34 (decide_eq_true k2)] <| .nil)
   (fun k2 => chain [tB 34 (decide_eq_false k2)] <| .w (16 < k)
    (fun k3 => chain [tB 38 (decide_eq_true k3)] <| .nil)
    (fun k3 => .x (by exact absurd ⟨(precB_true.1 k1).1, (precB_true.1 k1).2, by omega, by omega⟩ hkp))))
  (fun k1 => chain [tB 30 (Bool.eq_false_iff.2 k1)] <| .nil)) (by kernel_rfl)
theorem r32Case_yes (m : List (List Iv)) (h : Iv) (n : Nat) (ga : MOk m n n) (hh : h.Valid) (hha : h.all = false) : PCt 27 [matP m, ivP h] (bP true) := by
 have hr := ga.rows
 have n8 := ga.n8
 have n1 := ga.n1
 have l0 := ga.len_at (show 0 < n by omega)
 have := r32Case_pc (rawsM m) h.raw ga.good (by simp [rawsM, hr]; omega) (fun i => by rw [rawsM_getD]; have := ga.len_le i; simp only [rawsI, List.length_map]; omega) hh.good
 rw [matP_raw, ivP_raw] at this
 have e : caseB (rawsM m) h.raw = true := by
  unfold caseB
  rw [matOkB_true.2 ga.rok, okB_true.2 hh.okR, rawsM_getD]
  simp [rawsM, rawsI, hr, ← List.getD_eq_getElem?_getD, l0, show h.raw.all = h.all from rfl, hha]
 rwa [e] at this
set_option maxHeartbeats 4000000 in
theorem r32Exp_A (m : List (List Iv)) (h : Iv) (n k p : Nat) (ga : MOk m n n) (hh : h.Valid) (hha : h.all = false) (hk1 : 1 ≤ k) (hk : k ≤ 16) (hp1 : 8 ≤ p) (hp2 : p ≤ 512) (J : Nat) (hJ : J < k) (hlow : ∀ x, x < J → anyAll (termM m h p (x + 1)) = false) (hbad : anyAll (termM m h p (J + 1)) = true) : PCt 19 [(matP m), (ivP h), (iP k), (iP p)] (.tup [.v (.slice none 0 0), iP 15]) := by
 have ra := ga.rows
 have n1 := ga.n1
 have n8 := ga.n8
 have hcase := r32Case_yes m h n ga hh hha
 exact tr true Tryz.call19 Tryz.func19 (chain [.c (hcase : PCt 27 [(matP m), (ivP h)] _), .c (refPrec_pc _ : PCt 58 [(iP p)] _), tB 30 (precB_true.2 ⟨by omega, by omega⟩ : (precB (p : Int)) = true), tF 34 ((k : Int) < 1) (by omega),
  tF 38 (16 < (k : Int)) (by omega), .c (r7Identity_pc m.length (by omega) (by omega)),
  .s (Sp.upto (r32FamAN m h k p J) 0 J (by omega) (fun x hx hltx => by
    have w1 := termM_ok (h := h) ga (show 1 ≤ p by omega) (by omega) x
    have w2 := mulM_ok w1 ga (show 1 ≤ p by omega) (show p ≤ 4096 by omega)
    have w3 := numI_valid (x + 1) (by omega)
    have w4 := divI_valid h (numI (((x + 1) : Nat) : Int)) (show 1 ≤ p by omega) (show p ≤ 4096 by omega)
    have w5 := sumM_ok (h := h) ga (show 1 ≤ p by omega) (by omega) x
    have w6 : MOk (scaleM (mulM (termM m h p x) m p) (divI h (numI (((x + 1) : Nat) : Int)) p) p) n n := scaleM_ok w2 (show 1 ≤ p by omega) (by omega)
    have w7 := w6.rows
    exact spt (chain [tT 46 ((((x + 1) : Nat) : Int) ≤ (k : Int)) (by omega), .c (r7Mul_pc _ _ _ _ _ _ ‹_› ‹_› (by omega) (by omega) : PCt 60 [(matP (termM m h p x)), (matP m), (iP p)] _),
     .c (r32Whole_pc (x + 1) (by omega)), .c (r5Div_pc h (numI (((x + 1) : Nat) : Int)) p ‹_› ‹_› (by omega) (by omega)),
     .c (r7Scale_pc _ _ _ _ _ ‹_› (divI_valid _ _ (by omega) (by omega)) (by omega) (by omega) : PCt 61 [(matP (mulM (termM m h p x) m p)), (qla7 h x p), (iP p)] _),
     tB 66 (natZ_false (by omega) : ((((scaleM (mulM (termM m h p x) m p) (divI h (numI (((x + 1) : Nat) : Int)) p) p).length : Nat) : Int) == 0) = false),
     .c (r32Known_pc _ (MOk.rows_le ‹_›).1 (MOk.rows_le ‹_›).2 : PCt 64 [(qla2 m h p x)] _),
     tB 69 (by rw [show anyAll (scaleM (mulM (termM m h p x) m p) (divI h (numI (((x + 1) : Nat) : Int)) p) p) = false from hlow x (by omega)]; rfl : (!(anyAll (scaleM (mulM (termM m h p x) m p) (divI h (numI (((x + 1) : Nat) : Int)) p) p))) = true),
     .c (r7Add_pc _ _ _ _ _ ‹_› ‹_› (by omega) (by omega) : PCt 65 [(matP (sumM m h p x)), (qla2 m h p x), (iP p), (bP false)] _),
     r64 ((((x + 1) : Nat) : Int) + 1) (by omega)] <| .nil) (by kernel_rfl))
  (fun hx => by
    have w1 := termM_ok (h := h) ga (show 1 ≤ p by omega) (by omega) J
    have w2 := mulM_ok w1 ga (show 1 ≤ p by omega) (show p ≤ 4096 by omega)
    have w3 := numI_valid (J + 1) (by omega)
    have w4 := divI_valid h (numI (((J + 1) : Nat) : Int)) (show 1 ≤ p by omega) (show p ≤ 4096 by omega)
    have w5 := sumM_ok (h := h) ga (show 1 ≤ p by omega) (by omega) J
    have w6 : MOk (scaleM (mulM (termM m h p J) m p) (divI h (numI (((J + 1) : Nat) : Int)) p) p) n n := scaleM_ok w2 (show 1 ≤ p by omega) (by omega)
    have w7 := w6.rows
    exact spt (chain [tT 46 ((((J + 1) : Nat) : Int) ≤ (k : Int)) (by omega), .c (r7Mul_pc _ _ _ _ _ _ ‹_› ‹_› (by omega) (by omega) : PCt 60 [(matP (termM m h p J)), (matP m), (iP p)] _),
    .c (r32Whole_pc (J + 1) (by omega)), .c (r5Div_pc h (numI (((J + 1) : Nat) : Int)) p ‹_› ‹_› (by omega) (by omega)),
    .c (r7Scale_pc _ _ _ _ _ ‹_› (divI_valid _ _ (by omega) (by omega)) (by omega) (by omega) : PCt 61 [(matP (mulM (termM m h p J) m p)), (ivP (divI h (numI (((J + 1) : Nat) : Int)) p)), (iP p)] _),
    tB 66 (natZ_false (by omega) : ((((scaleM (mulM (termM m h p J) m p) (divI h (numI (((J + 1) : Nat) : Int)) p) p).length : Nat) : Int) == 0) = false),
    .c (r32Known_pc _ (MOk.rows_le ‹_›).1 (MOk.rows_le ‹_›).2 : PCt 64 [(matP (scaleM (mulM (termM m h p J) m p) (divI h (numI (((J + 1) : Nat) : Int)) p) p))] _),
    tB 69 (by rw [show anyAll (scaleM (mulM (termM m h p J) m p) (divI h (numI (((J + 1) : Nat) : Int)) p) p) = true from hbad]; rfl : (!(anyAll (scaleM (mulM (termM m h p J) m p) (divI h (numI (((J + 1) : Nat) : Int)) p) p))) = false)] <| .nil) (by kernel_rfl)) (by nofun) : LpT 8 Tryz.f19 (r32FamAN m h k p J 0) .ret ⟨177, true, [(9, .e (iP 15)), (8, .e (.v (.slice none 0 0)))], []⟩) (chain [.o 12 (.int (by first | rfl | omega | (simp only [Nat.add_mul, Nat.one_mul]; omega)) : PV.le (.e (iP 1)) (.e (iP (((0 + 1) : Nat) : Int))))] <| .nil)] <| .nil) (by kernel_rfl)
set_option maxHeartbeats 4000000 in
theorem r32Exp_B1 (m : List (List Iv)) (h : Iv) (n k p : Nat) (ga : MOk m n n) (hh : h.Valid) (hha : h.all = false) (hk1 : 1 ≤ k) (hk : k ≤ 16) (hp1 : 8 ≤ p) (hp2 : p ≤ 512) (hlow : ∀ x, x < k → anyAll (termM m h p (x + 1)) = false) (hd : normM m p = none) : PCt 19 [(matP m), (ivP h), (iP k), (iP p)] (.tup [.v (.slice none 0 0), iP 15]) := by
 have ra := ga.rows
 have n1 := ga.n1
 have n8 := ga.n8
 have hcase := r32Case_yes m h n ga hh hha
 exact tr true Tryz.call19 Tryz.func19 (chain [.c (hcase : PCt 27 [(matP m), (ivP h)] _), .c (refPrec_pc _ : PCt 58 [(iP p)] _), tB 30 (precB_true.2 ⟨by omega, by omega⟩ : (precB (p : Int)) = true), tF 34 ((k : Int) < 1) (by omega),
  tF 38 (16 < (k : Int)) (by omega), .c (r7Identity_pc m.length (by omega) (by omega)),
  .s (Sp.upto (r32FamAY m h k p) 0 k (by omega) (fun x hx hltx => by
    have w1 := termM_ok (h := h) ga (show 1 ≤ p by omega) (by omega) x
    have w2 := mulM_ok w1 ga (show 1 ≤ p by omega) (show p ≤ 4096 by omega)
    have w3 := numI_valid (x + 1) (by omega)
    have w4 := divI_valid h (numI (((x + 1) : Nat) : Int)) (show 1 ≤ p by omega) (show p ≤ 4096 by omega)
    have w5 := sumM_ok (h := h) ga (show 1 ≤ p by omega) (by omega) x
    have w6 : MOk (scaleM (mulM (termM m h p x) m p) (divI h (numI (((x + 1) : Nat) : Int)) p) p) n n := scaleM_ok w2 (show 1 ≤ p by omega) (by omega)
    have w7 := w6.rows
    exact spt (chain [tT 46 ((((x + 1) : Nat) : Int) ≤ (k : Int)) (by omega), .c (r7Mul_pc _ _ _ _ _ _ ‹_› ‹_› (by omega) (by omega) : PCt 60 [(matP (termM m h p x)), (matP m), (iP p)] _),
     .c (r32Whole_pc (x + 1) (by omega)), .c (r5Div_pc h (numI (((x + 1) : Nat) : Int)) p ‹_› ‹_› (by omega) (by omega)),
     .c (r7Scale_pc _ _ _ _ _ ‹_› (divI_valid _ _ (by omega) (by omega)) (by omega) (by omega) : PCt 61 [(matP (mulM (termM m h p x) m p)), (qla7 h x p), (iP p)] _),
     tB 66 (natZ_false (by omega) : ((((scaleM (mulM (termM m h p x) m p) (divI h (numI (((x + 1) : Nat) : Int)) p) p).length : Nat) : Int) == 0) = false),
     .c (r32Known_pc _ (MOk.rows_le ‹_›).1 (MOk.rows_le ‹_›).2 : PCt 64 [(qla2 m h p x)] _),
     tB 69 (by rw [show anyAll (scaleM (mulM (termM m h p x) m p) (divI h (numI (((x + 1) : Nat) : Int)) p) p) = false from hlow x (by omega)]; rfl : (!(anyAll (scaleM (mulM (termM m h p x) m p) (divI h (numI (((x + 1) : Nat) : Int)) p) p))) = true),
     .c (r7Add_pc _ _ _ _ _ ‹_› ‹_› (by omega) (by omega) : PCt 65 [(matP (sumM m h p x)), (qla2 m h p x), (iP p), (bP false)] _),
     r64 ((((x + 1) : Nat) : Int) + 1) (by omega)] <| .nil) (by kernel_rfl))
  (fun hx => by
    exact spt (chain [tF 46 ((((k + 1) : Nat) : Int) ≤ (k : Int)) (by omega)] <| .nil) (by kernel_rfl)) (by nofun) : LpT 8 Tryz.f19 (r32FamAY m h k p 0) (.exit 0) ⟨177, true, [(11, .e (matP (sumM m h p k))), (5, .box 5 0), (0, .e (matP m)), (2, .e (iP k)), (3, .e (iP p))], [(5, .cells 28 (ivL h))]⟩) (chain [.o 12 (.int (by first | rfl | omega | (simp only [Nat.add_mul, Nat.one_mul]; omega)) : PV.le (.e (iP 1)) (.e (iP (((0 + 1) : Nat) : Int))))] <| .nil),
  .c (r7norm_no _ _ _ _ ga hp1 hp2 hd : PCt 66 [(matP m), (iP p)] _)] <| .nil) (by kernel_rfl)
set_option maxHeartbeats 4000000 in
theorem r32Exp_B2 (m : List (List Iv)) (h : Iv) (n k p : Nat) (ga : MOk m n n) (hh : h.Valid) (hha : h.all = false) (hk1 : 1 ≤ k) (hk : k ≤ 16) (hp1 : 8 ≤ p) (hp2 : p ≤ 512) (hlow : ∀ x, x < k → anyAll (termM m h p (x + 1)) = false) (d : Dy) (hn : PCt 66 [matP m, iP (p : Int)] (.tup [dyP d, bP true])) (hd : d.Valid) (hu : (mulI (absI h) (pointI d) p).all = true) : PCt 19 [(matP m), (ivP h), (iP k), (iP p)] (.tup [.v (.slice none 0 0), iP 15]) := by
 have ra := ga.rows
 have n1 := ga.n1
 have n8 := ga.n8
 have hcase := r32Case_yes m h n ga hh hha
 have va := absI_valid hh
 have vp := pointI_valid hd
 have vu := mulI_valid (absI h) (pointI d) (show 1 ≤ p by omega) (show p ≤ 4096 by omega)
 exact tr true Tryz.call19 Tryz.func19 (chain [.c (hcase : PCt 27 [(matP m), (ivP h)] _), .c (refPrec_pc _ : PCt 58 [(iP p)] _), tB 30 (precB_true.2 ⟨by omega, by omega⟩ : (precB (p : Int)) = true), tF 34 ((k : Int) < 1) (by omega),
  tF 38 (16 < (k : Int)) (by omega), .c (r7Identity_pc m.length (by omega) (by omega)),
  .s (Sp.upto (r32FamAY m h k p) 0 k (by omega) (fun x hx hltx => by
    have w1 := termM_ok (h := h) ga (show 1 ≤ p by omega) (by omega) x
    have w2 := mulM_ok w1 ga (show 1 ≤ p by omega) (show p ≤ 4096 by omega)
    have w3 := numI_valid (x + 1) (by omega)
    have w4 := divI_valid h (numI (((x + 1) : Nat) : Int)) (show 1 ≤ p by omega) (show p ≤ 4096 by omega)
    have w5 := sumM_ok (h := h) ga (show 1 ≤ p by omega) (by omega) x
    have w6 : MOk (scaleM (mulM (termM m h p x) m p) (divI h (numI (((x + 1) : Nat) : Int)) p) p) n n := scaleM_ok w2 (show 1 ≤ p by omega) (by omega)
    have w7 := w6.rows
    exact spt (chain [tT 46 ((((x + 1) : Nat) : Int) ≤ (k : Int)) (by omega), .c (r7Mul_pc _ _ _ _ _ _ ‹_› ‹_› (by omega) (by omega) : PCt 60 [(matP (termM m h p x)), (matP m), (iP p)] _),
     .c (r32Whole_pc (x + 1) (by omega)), .c (r5Div_pc h (numI (((x + 1) : Nat) : Int)) p ‹_› ‹_› (by omega) (by omega)),
     .c (r7Scale_pc _ _ _ _ _ ‹_› (divI_valid _ _ (by omega) (by omega)) (by omega) (by omega) : PCt 61 [(matP (mulM (termM m h p x) m p)), (qla7 h x p), (iP p)] _),
     tB 66 (natZ_false (by omega) : ((((scaleM (mulM (termM m h p x) m p) (divI h (numI (((x + 1) : Nat) : Int)) p) p).length : Nat) : Int) == 0) = false),
     .c (r32Known_pc _ (MOk.rows_le ‹_›).1 (MOk.rows_le ‹_›).2 : PCt 64 [(qla2 m h p x)] _),
     tB 69 (by rw [show anyAll (scaleM (mulM (termM m h p x) m p) (divI h (numI (((x + 1) : Nat) : Int)) p) p) = false from hlow x (by omega)]; rfl : (!(anyAll (scaleM (mulM (termM m h p x) m p) (divI h (numI (((x + 1) : Nat) : Int)) p) p))) = true),
     .c (r7Add_pc _ _ _ _ _ ‹_› ‹_› (by omega) (by omega) : PCt 65 [(matP (sumM m h p x)), (qla2 m h p x), (iP p), (bP false)] _),
     r64 ((((x + 1) : Nat) : Int) + 1) (by omega)] <| .nil) (by kernel_rfl))
  (fun hx => by
    exact spt (chain [tF 46 ((((k + 1) : Nat) : Int) ≤ (k : Int)) (by omega)] <| .nil) (by kernel_rfl)) (by nofun) : LpT 8 Tryz.f19 (r32FamAY m h k p 0) (.exit 0) ⟨177, true, [(11, .e (matP (sumM m h p k))), (5, .box 5 0), (0, .e (matP m)), (2, .e (iP k)), (3, .e (iP p))], [(5, .cells 28 (ivL h))]⟩) (chain [.o 12 (.int (by first | rfl | omega | (simp only [Nat.add_mul, Nat.one_mul]; omega)) : PV.le (.e (iP 1)) (.e (iP (((0 + 1) : Nat) : Int))))] <| .nil),
  .c (hn : PCt 66 [(matP m), (iP p)] _), .c (r5Abs_pc h ‹_›), .c (r5Point_pc d), .c (r5Mul_pc (absI h) (pointI d) p (absI_valid ‹_›) (pointI_valid ‹_›) (by omega) (by omega)),
  tB 94 (hu : (mulI (absI h) (pointI d) p).all = true)] <| .nil) (by kernel_rfl)
set_option maxHeartbeats 4000000 in
theorem r32Exp_B3 (m : List (List Iv)) (h : Iv) (n k p : Nat) (ga : MOk m n n) (hh : h.Valid) (hha : h.all = false) (hk1 : 1 ≤ k) (hk : k ≤ 16) (hp1 : 8 ≤ p) (hp2 : p ≤ 512) (hlow : ∀ x, x < k → anyAll (termM m h p (x + 1)) = false) (d : Dy) (hn : PCt 66 [matP m, iP (p : Int)] (.tup [dyP d, bP true])) (hd : d.Valid) (hu : (mulI (absI h) (pointI d) p).all = false) (hc : 0 ≤ cmpD (mulI (absI h) (pointI d) p).hi (intD (((k + 2) : Nat) : Int))) : PCt 19 [(matP m), (ivP h), (iP k), (iP p)] (.tup [.v (.slice none 0 0), iP 15]) := by
 have ra := ga.rows
 have n1 := ga.n1
 have n8 := ga.n8
 have hcase := r32Case_yes m h n ga hh hha
 have va := absI_valid hh
 have vp := pointI_valid hd
 have vu := mulI_valid (absI h) (pointI d) (show 1 ≤ p by omega) (show p ≤ 4096 by omega)
 have vk := intD_valid (k + 2) (by omega)
 have ve := vu.ends.2
 exact tr true Tryz.call19 Tryz.func19 (chain [.c (hcase : PCt 27 [(matP m), (ivP h)] _), .c (refPrec_pc _ : PCt 58 [(iP p)] _), tB 30 (precB_true.2 ⟨by omega, by omega⟩ : (precB (p : Int)) = true), tF 34 ((k : Int) < 1) (by omega),
  tF 38 (16 < (k : Int)) (by omega), .c (r7Identity_pc m.length (by omega) (by omega)),
  .s (Sp.upto (r32FamAY m h k p) 0 k (by omega) (fun x hx hltx => by
    have w1 := termM_ok (h := h) ga (show 1 ≤ p by omega) (by omega) x
    have w2 := mulM_ok w1 ga (show 1 ≤ p by omega) (show p ≤ 4096 by omega)
    have w3 := numI_valid (x + 1) (by omega)
    have w4 := divI_valid h (numI (((x + 1) : Nat) : Int)) (show 1 ≤ p by omega) (show p ≤ 4096 by omega)
    have w5 := sumM_ok (h := h) ga (show 1 ≤ p by omega) (by omega) x
    have w6 : MOk (scaleM (mulM (termM m h p x) m p) (divI h (numI (((x + 1) : Nat) : Int)) p) p) n n := scaleM_ok w2 (show 1 ≤ p by omega) (by omega)
    have w7 := w6.rows
    exact spt (chain [tT 46 ((((x + 1) : Nat) : Int) ≤ (k : Int)) (by omega), .c (r7Mul_pc _ _ _ _ _ _ ‹_› ‹_› (by omega) (by omega) : PCt 60 [(matP (termM m h p x)), (matP m), (iP p)] _),
     .c (r32Whole_pc (x + 1) (by omega)), .c (r5Div_pc h (numI (((x + 1) : Nat) : Int)) p ‹_› ‹_› (by omega) (by omega)),
     .c (r7Scale_pc _ _ _ _ _ ‹_› (divI_valid _ _ (by omega) (by omega)) (by omega) (by omega) : PCt 61 [(matP (mulM (termM m h p x) m p)), (qla7 h x p), (iP p)] _),
     tB 66 (natZ_false (by omega) : ((((scaleM (mulM (termM m h p x) m p) (divI h (numI (((x + 1) : Nat) : Int)) p) p).length : Nat) : Int) == 0) = false),
     .c (r32Known_pc _ (MOk.rows_le ‹_›).1 (MOk.rows_le ‹_›).2 : PCt 64 [(qla2 m h p x)] _),
     tB 69 (by rw [show anyAll (scaleM (mulM (termM m h p x) m p) (divI h (numI (((x + 1) : Nat) : Int)) p) p) = false from hlow x (by omega)]; rfl : (!(anyAll (scaleM (mulM (termM m h p x) m p) (divI h (numI (((x + 1) : Nat) : Int)) p) p))) = true),
     .c (r7Add_pc _ _ _ _ _ ‹_› ‹_› (by omega) (by omega) : PCt 65 [(matP (sumM m h p x)), (qla2 m h p x), (iP p), (bP false)] _),
     r64 ((((x + 1) : Nat) : Int) + 1) (by omega)] <| .nil) (by kernel_rfl))
  (fun hx => by
    exact spt (chain [tF 46 ((((k + 1) : Nat) : Int) ≤ (k : Int)) (by omega)] <| .nil) (by kernel_rfl)) (by nofun) : LpT 8 Tryz.f19 (r32FamAY m h k p 0) (.exit 0) ⟨177, true, [(11, .e (matP (sumM m h p k))), (5, .box 5 0), (0, .e (matP m)), (2, .e (iP k)), (3, .e (iP p))], [(5, .cells 28 (ivL h))]⟩) (chain [.o 12 (.int (by first | rfl | omega | (simp only [Nat.add_mul, Nat.one_mul]; omega)) : PV.le (.e (iP 1)) (.e (iP (((0 + 1) : Nat) : Int))))] <| .nil),
  .c (hn : PCt 66 [(matP m), (iP p)] _), .c (r5Abs_pc h ‹_›), .c (r5Point_pc d), .c (r5Mul_pc (absI h) (pointI d) p (absI_valid ‹_›) (pointI_valid ‹_›) (by omega) (by omega)),
  tB 94 (hu : (mulI (absI h) (pointI d) p).all = false), r64 ((k : Int) + 2) (by omega), .c (refIntD_pc (k + 2) (by omega) : PCt 70 [(iP (((k + 2) : Nat) : Int))] _),
  .c (refCmp_pc ((mulI (absI h) (pointI d) p).hi) (intD (((k + 2) : Nat) : Int)) (Fp.Dy.Valid.near ‹_›) (Fp.Dy.Valid.near ‹_›)), tB 102 (decide_eq_true hc)] <| .nil) (by kernel_rfl)
set_option maxHeartbeats 4000000 in
theorem r32Exp_B4 (m : List (List Iv)) (h : Iv) (n k p : Nat) (ga : MOk m n n) (hh : h.Valid) (hha : h.all = false) (hk1 : 1 ≤ k) (hk : k ≤ 16) (hp1 : 8 ≤ p) (hp2 : p ≤ 512) (hlow : ∀ x, x < k → anyAll (termM m h p (x + 1)) = false) (d : Dy) (hn : PCt 66 [matP m, iP (p : Int)] (.tup [dyP d, bP true])) (hd : d.Valid) (hu : (mulI (absI h) (pointI d) p).all = false) (hc : ¬ 0 ≤ cmpD (mulI (absI h) (pointI d) p).hi (intD (((k + 2) : Nat) : Int))) (he : (divI (powI (mulI (absI h) (pointI d) p) p (k + 1)) (subI (numI 1) (divI (mulI (absI h) (pointI d) p) (numI (((k + 2) : Nat) : Int)) p) p) p).all = true) : PCt 19 [(matP m), (ivP h), (iP k), (iP p)] (.tup [.v (.slice none 0 0), iP 15]) := by
 have ra := ga.rows
 have n1 := ga.n1
 have n8 := ga.n8
 have hcase := r32Case_yes m h n ga hh hha
 have va := absI_valid hh
 have vp := pointI_valid hd
 have vu := mulI_valid (absI h) (pointI d) (show 1 ≤ p by omega) (show p ≤ 4096 by omega)
 have vk := intD_valid (k + 2) (by omega)
 have ve := vu.ends.2
 have w1 := powI_valid (mulI (absI h) (pointI d) p) (show 1 ≤ p by omega) (by omega) (k + 1)
 have w2 := numI_valid (k + 2) (by omega)
 have w3 : (numI 1).Valid := numI_valid 1 (by decide)
 have w4 := divI_valid (mulI (absI h) (pointI d) p) (numI (((k + 2) : Nat) : Int)) (show 1 ≤ p by omega) (by omega)
 have w5 : (subI (numI 1) (divI (mulI (absI h) (pointI d) p) (numI (((k + 2) : Nat) : Int)) p) p).Valid := addI_valid w3 (negI_valid w4) (by omega) (by omega)
 have w6 := divI_valid (powI (mulI (absI h) (pointI d) p) p (k + 1)) (subI (numI 1) (divI (mulI (absI h) (pointI d) p) (numI (((k + 2) : Nat) : Int)) p) p) (show 1 ≤ p by omega) (by omega)
 have w7 := w6.ends.2
 exact tr true Tryz.call19 Tryz.func19 (chain [.c (hcase : PCt 27 [(matP m), (ivP h)] _), .c (refPrec_pc _ : PCt 58 [(iP p)] _), tB 30 (precB_true.2 ⟨by omega, by omega⟩ : (precB (p : Int)) = true), tF 34 ((k : Int) < 1) (by omega),
  tF 38 (16 < (k : Int)) (by omega), .c (r7Identity_pc m.length (by omega) (by omega)),
  .s (Sp.upto (r32FamAY m h k p) 0 k (by omega) (fun x hx hltx => by
    have w1 := termM_ok (h := h) ga (show 1 ≤ p by omega) (by omega) x
    have w2 := mulM_ok w1 ga (show 1 ≤ p by omega) (show p ≤ 4096 by omega)
    have w3 := numI_valid (x + 1) (by omega)
    have w4 := divI_valid h (numI (((x + 1) : Nat) : Int)) (show 1 ≤ p by omega) (show p ≤ 4096 by omega)
    have w5 := sumM_ok (h := h) ga (show 1 ≤ p by omega) (by omega) x
    have w6 : MOk (scaleM (mulM (termM m h p x) m p) (divI h (numI (((x + 1) : Nat) : Int)) p) p) n n := scaleM_ok w2 (show 1 ≤ p by omega) (by omega)
    have w7 := w6.rows
    exact spt (chain [tT 46 ((((x + 1) : Nat) : Int) ≤ (k : Int)) (by omega), .c (r7Mul_pc _ _ _ _ _ _ ‹_› ‹_› (by omega) (by omega) : PCt 60 [(matP (termM m h p x)), (matP m), (iP p)] _),
     .c (r32Whole_pc (x + 1) (by omega)), .c (r5Div_pc h (numI (((x + 1) : Nat) : Int)) p ‹_› ‹_› (by omega) (by omega)),
     .c (r7Scale_pc _ _ _ _ _ ‹_› (divI_valid _ _ (by omega) (by omega)) (by omega) (by omega) : PCt 61 [(matP (mulM (termM m h p x) m p)), (qla7 h x p), (iP p)] _),
     tB 66 (natZ_false (by omega) : ((((scaleM (mulM (termM m h p x) m p) (divI h (numI (((x + 1) : Nat) : Int)) p) p).length : Nat) : Int) == 0) = false),
     .c (r32Known_pc _ (MOk.rows_le ‹_›).1 (MOk.rows_le ‹_›).2 : PCt 64 [(qla2 m h p x)] _),
     tB 69 (by rw [show anyAll (scaleM (mulM (termM m h p x) m p) (divI h (numI (((x + 1) : Nat) : Int)) p) p) = false from hlow x (by omega)]; rfl : (!(anyAll (scaleM (mulM (termM m h p x) m p) (divI h (numI (((x + 1) : Nat) : Int)) p) p))) = true),
     .c (r7Add_pc _ _ _ _ _ ‹_› ‹_› (by omega) (by omega) : PCt 65 [(matP (sumM m h p x)), (qla2 m h p x), (iP p), (bP false)] _),
     r64 ((((x + 1) : Nat) : Int) + 1) (by omega)] <| .nil) (by kernel_rfl))
  (fun hx => by
    exact spt (chain [tF 46 ((((k + 1) : Nat) : Int) ≤ (k : Int)) (by omega)] <| .nil) (by kernel_rfl)) (by nofun) : LpT 8 Tryz.f19 (r32FamAY m h k p 0) (.exit 0) ⟨177, true, [(11, .e (matP (sumM m h p k))), (5, .box 5 0), (0, .e (matP m)), (2, .e (iP k)), (3, .e (iP p))], [(5, .cells 28 (ivL h))]⟩) (chain [.o 12 (.int (by first | rfl | omega | (simp only [Nat.add_mul, Nat.one_mul]; omega)) : PV.le (.e (iP 1)) (.e (iP (((0 + 1) : Nat) : Int))))] <| .nil),
  .c (hn : PCt 66 [(matP m), (iP p)] _), .c (r5Abs_pc h ‹_›), .c (r5Point_pc d), .c (r5Mul_pc (absI h) (pointI d) p (absI_valid ‹_›) (pointI_valid ‹_›) (by omega) (by omega)),
  tB 94 (hu : (mulI (absI h) (pointI d) p).all = false), r64 ((k : Int) + 2) (by omega), .c (refIntD_pc (k + 2) (by omega) : PCt 70 [(iP (((k + 2) : Nat) : Int))] _),
  .c (refCmp_pc ((mulI (absI h) (pointI d) p).hi) (intD (((k + 2) : Nat) : Int)) (Fp.Dy.Valid.near ‹_›) (Fp.Dy.Valid.near ‹_›)), tB 102 (decide_eq_false hc), .c (r32Whole_pc 1 (by omega)),
  .s (Sp.upto (r32FamT m h d k p) 0 (k + 1) (by omega) (fun x hx hltx => by
    have w1 := powI_valid (mulI (absI h) (pointI d) p) (show 1 ≤ p by omega) (by omega) x
    have w2 := numI_valid (x + 1) (by omega)
    have w3 := divI_valid (mulI (absI h) (pointI d) p) (numI (((x + 1) : Nat) : Int)) (show 1 ≤ p by omega) (by omega)
    exact spt (chain [r64 ((k : Int) + 1) (by omega), tT 108 ((((x + 1) : Nat) : Int) ≤ (((k + 1) : Nat) : Int)) (by omega), .c (r32Whole_pc (x + 1) (by omega)),
     .c (r5Div_pc (mulI (absI h) (pointI d) p) (numI (((x + 1) : Nat) : Int)) p (mulI_valid _ _ (by omega) (by omega)) ‹_› (by omega) (by omega)),
     .c (r5Mul_pc (qla8 h d p x) (qla6 h d p x) p ‹_› (divI_valid _ _ (by omega) (by omega)) (by omega) (by omega)),
     r64 ((((x + 1) : Nat) : Int) + 1) (by omega)] <| .e (chain [.b 18 (.of_eq rfl : Bx.le (.cells 28 (ivL (mulI (qla8 h d p x) (qla6 h d p x) p))) (.cells 28 (ivL (powI (mulI (absI h) (pointI d) p) p (x + 1)))))] <| .nil)) (by kernel_rfl))
  (fun hx => by
    exact spt (chain [r64 ((k : Int) + 1) (by omega), tF 108 (((((k + 1) + 1) : Nat) : Int) ≤ (((k + 1) : Nat) : Int)) (by omega)] <| .nil) (by kernel_rfl)) (by nofun) : LpT 23 Tryz.f19 (r32FamT m h d k p 0) (.exit 2) ⟨177, true, [(18, .box 18 0), (17, .box 17 0), (11, .e (matP (sumM m h p k))), (0, .e (matP m)), (2, .e (iP k)), (3, .e (iP p))], [(18, .cells 28 (ivL (qla4 h d p k))), (17, .cells 28 (ivL (mulI (absI h) (pointI d) p)))]⟩) (chain [.o 19 (.int (by first | rfl | omega | (simp only [Nat.add_mul, Nat.one_mul]; omega)) : PV.le (.e (iP 1)) (.e (iP (((0 + 1) : Nat) : Int)))),
  .b 18 (.of_eq rfl : Bx.le (.cells 28 (ivL (numI 1))) (.cells 28 (ivL (powI (mulI (absI h) (pointI d) p) p 0))))] <| .nil),
  .c (r32Whole_pc 1 (by omega)), r64 ((k : Int) + 2) (by omega), .c (r32Whole_pc (k + 2) (by omega)),
  .c (r5Div_pc (mulI (absI h) (pointI d) p) (numI (((k + 2) : Nat) : Int)) p (mulI_valid _ _ (by omega) (by omega)) ‹_› (by omega) (by omega)),
  .c (r5Sub_pc (numI 1) (qla3 h d p k) p ‹_› (divI_valid _ _ (by omega) (by omega)) (by omega) (by omega)),
  .c (r5Div_pc (qla4 h d p k) (subI (numI 1) (qla3 h d p k) p) p ‹_› ‹_› (by omega) (by omega)),
  tB 132 (he : (divI (qla4 h d p k) (subI (numI 1) (qla3 h d p k) p) p).all = true)] <| .nil) (by kernel_rfl)
set_option maxHeartbeats 4000000 in
theorem r32Exp_C (m : List (List Iv)) (h : Iv) (n k p : Nat) (ga : MOk m n n) (hh : h.Valid) (hha : h.all = false) (hk1 : 1 ≤ k) (hk : k ≤ 16) (hp1 : 8 ≤ p) (hp2 : p ≤ 512) (hlow : ∀ x, x < k → anyAll (termM m h p (x + 1)) = false) (d : Dy) (hn : PCt 66 [matP m, iP (p : Int)] (.tup [dyP d, bP true])) (hd : d.Valid) (hu : (mulI (absI h) (pointI d) p).all = false) (hc : ¬ 0 ≤ cmpD (mulI (absI h) (pointI d) p).hi (intD (((k + 2) : Nat) : Int))) (he : (divI (powI (mulI (absI h) (pointI d) p) p (k + 1)) (subI (numI 1) (divI (mulI (absI h) (pointI d) p) (numI (((k + 2) : Nat) : Int)) p) p) p).all = false) (hle : cmpD (negD (divI (powI (mulI (absI h) (pointI d) p) p (k + 1)) (subI (numI 1) (divI (mulI (absI h) (pointI d) p) (numI (((k + 2) : Nat) : Int)) p) p) p).hi) (divI (powI (mulI (absI h) (pointI d) p) p (k + 1)) (subI (numI 1) (divI (mulI (absI h) (pointI d) p) (numI (((k + 2) : Nat) : Int)) p) p) p).hi ≤ 0) (hall : anyAll (wholeM m.length (fun _ => m.length) (fun i j => addI (((sumM m h p k).getD i []).getD j wholeI) (Iv.mk (negD (divI (powI (mulI (absI h) (pointI d) p) p (k + 1)) (subI (numI 1) (divI (mulI (absI h) (pointI d) p) (numI (((k + 2) : Nat) : Int)) p) p) p).hi) (divI (powI (mulI (absI h) (pointI d) p) p (k + 1)) (subI (numI 1) (divI (mulI (absI h) (pointI d) p) (numI (((k + 2) : Nat) : Int)) p) p) p).hi false) p)) = true) : PCt 19 [(matP m), (ivP h), (iP k), (iP p)] (.tup [.v (.slice none 0 0), iP 15]) := by
 have ra := ga.rows
 have n1 := ga.n1
 have n8 := ga.n8
 have hcase := r32Case_yes m h n ga hh hha
 have va := absI_valid hh
 have vp := pointI_valid hd
 have vu := mulI_valid (absI h) (pointI d) (show 1 ≤ p by omega) (show p ≤ 4096 by omega)
 have vk := intD_valid (k + 2) (by omega)
 have ve := vu.ends.2
 have w1 := powI_valid (mulI (absI h) (pointI d) p) (show 1 ≤ p by omega) (by omega) (k + 1)
 have w2 := numI_valid (k + 2) (by omega)
 have w3 : (numI 1).Valid := numI_valid 1 (by decide)
 have w4 := divI_valid (mulI (absI h) (pointI d) p) (numI (((k + 2) : Nat) : Int)) (show 1 ≤ p by omega) (by omega)
 have w5 : (subI (numI 1) (divI (mulI (absI h) (pointI d) p) (numI (((k + 2) : Nat) : Int)) p) p).Valid := addI_valid w3 (negI_valid w4) (by omega) (by omega)
 have w6 := divI_valid (powI (mulI (absI h) (pointI d) p) p (k + 1)) (subI (numI 1) (divI (mulI (absI h) (pointI d) p) (numI (((k + 2) : Nat) : Int)) p) p) (show 1 ≤ p by omega) (by omega)
 have w7 := w6.ends.2
 have gs := sumM_ok (h := h) (p := p) ga (by omega) (by omega) k
 have rs := gs.rows
 have hrest : (Iv.mk (negD (divI (powI (mulI (absI h) (pointI d) p) p (k + 1)) (subI (numI 1) (divI (mulI (absI h) (pointI d) p) (numI (((k + 2) : Nat) : Int)) p) p) p).hi) (divI (powI (mulI (absI h) (pointI d) p) p (k + 1)) (subI (numI 1) (divI (mulI (absI h) (pointI d) p) (numI (((k + 2) : Nat) : Int)) p) p) p).hi false).Valid := .inr ⟨rfl, negD_valid w7, w7, hle⟩
 have hMW : MOk (wholeM m.length (fun _ => m.length) (fun i j => addI (((sumM m h p k).getD i []).getD j wholeI) (Iv.mk (negD (divI (powI (mulI (absI h) (pointI d) p) p (k + 1)) (subI (numI 1) (divI (mulI (absI h) (pointI d) p) (numI (((k + 2) : Nat) : Int)) p) p) p).hi) (divI (powI (mulI (absI h) (pointI d) p) p (k + 1)) (subI (numI 1) (divI (mulI (absI h) (pointI d) p) (numI (((k + 2) : Nat) : Int)) p) p) p).hi false) p)) n n := by
  rw [ra]
  refine wholeM_ok ga.n1 ga.n8 ga.n1 ga.n8 fun i j => addI_valid (elV gs i j) hrest (by omega) (by omega)
 exact tr true Tryz.call19 Tryz.func19 (chain [.c (hcase : PCt 27 [(matP m), (ivP h)] _), .c (refPrec_pc _ : PCt 58 [(iP p)] _), tB 30 (precB_true.2 ⟨by omega, by omega⟩ : (precB (p : Int)) = true), tF 34 ((k : Int) < 1) (by omega),
  tF 38 (16 < (k : Int)) (by omega), .c (r7Identity_pc m.length (by omega) (by omega)),
  .s (Sp.upto (r32FamAY m h k p) 0 k (by omega) (fun x hx hltx => by
    have w1 := termM_ok (h := h) ga (show 1 ≤ p by omega) (by omega) x
    have w2 := mulM_ok w1 ga (show 1 ≤ p by omega) (show p ≤ 4096 by omega)
    have w3 := numI_valid (x + 1) (by omega)
    have w4 := divI_valid h (numI (((x + 1) : Nat) : Int)) (show 1 ≤ p by omega) (show p ≤ 4096 by omega)
    have w5 := sumM_ok (h := h) ga (show 1 ≤ p by omega) (by omega) x
    have w6 : MOk (scaleM (mulM (termM m h p x) m p) (divI h (numI (((x + 1) : Nat) : Int)) p) p) n n := scaleM_ok w2 (show 1 ≤ p by omega) (by omega)
    have w7 := w6.rows
    exact spt (chain [tT 46 ((((x + 1) : Nat) : Int) ≤ (k : Int)) (by omega), .c (r7Mul_pc _ _ _ _ _ _ ‹_› ‹_› (by omega) (by omega) : PCt 60 [(matP (termM m h p x)), (matP m), (iP p)] _),
     .c (r32Whole_pc (x + 1) (by omega)), .c (r5Div_pc h (numI (((x + 1) : Nat) : Int)) p ‹_› ‹_› (by omega) (by omega)),
     .c (r7Scale_pc _ _ _ _ _ ‹_› (divI_valid _ _ (by omega) (by omega)) (by omega) (by omega) : PCt 61 [(matP (mulM (termM m h p x) m p)), (qla7 h x p), (iP p)] _),
     tB 66 (natZ_false (by omega) : ((((scaleM (mulM (termM m h p x) m p) (divI h (numI (((x + 1) : Nat) : Int)) p) p).length : Nat) : Int) == 0) = false),
     .c (r32Known_pc _ (MOk.rows_le ‹_›).1 (MOk.rows_le ‹_›).2 : PCt 64 [(qla2 m h p x)] _),
     tB 69 (by rw [show anyAll (scaleM (mulM (termM m h p x) m p) (divI h (numI (((x + 1) : Nat) : Int)) p) p) = false from hlow x (by omega)]; rfl : (!(anyAll (scaleM (mulM (termM m h p x) m p) (divI h (numI (((x + 1) : Nat) : Int)) p) p))) = true),
     .c (r7Add_pc _ _ _ _ _ ‹_› ‹_› (by omega) (by omega) : PCt 65 [(matP (sumM m h p x)), (qla2 m h p x), (iP p), (bP false)] _),
     r64 ((((x + 1) : Nat) : Int) + 1) (by omega)] <| .nil) (by kernel_rfl))
  (fun hx => by
    exact spt (chain [tF 46 ((((k + 1) : Nat) : Int) ≤ (k : Int)) (by omega)] <| .nil) (by kernel_rfl)) (by nofun) : LpT 8 Tryz.f19 (r32FamAY m h k p 0) (.exit 0) ⟨177, true, [(11, .e (matP (sumM m h p k))), (5, .box 5 0), (0, .e (matP m)), (2, .e (iP k)), (3, .e (iP p))], [(5, .cells 28 (ivL h))]⟩) (chain [.o 12 (.int (by first | rfl | omega | (simp only [Nat.add_mul, Nat.one_mul]; omega)) : PV.le (.e (iP 1)) (.e (iP (((0 + 1) : Nat) : Int))))] <| .nil),
  .c (hn : PCt 66 [(matP m), (iP p)] _), .c (r5Abs_pc h ‹_›), .c (r5Point_pc d), .c (r5Mul_pc (absI h) (pointI d) p (absI_valid ‹_›) (pointI_valid ‹_›) (by omega) (by omega)),
  tB 94 (hu : (mulI (absI h) (pointI d) p).all = false), r64 ((k : Int) + 2) (by omega), .c (refIntD_pc (k + 2) (by omega) : PCt 70 [(iP (((k + 2) : Nat) : Int))] _),
  .c (refCmp_pc ((mulI (absI h) (pointI d) p).hi) (intD (((k + 2) : Nat) : Int)) (Fp.Dy.Valid.near ‹_›) (Fp.Dy.Valid.near ‹_›)), tB 102 (decide_eq_false hc), .c (r32Whole_pc 1 (by omega)),
  .s (Sp.upto (r32FamT m h d k p) 0 (k + 1) (by omega) (fun x hx hltx => by
    have w1 := powI_valid (mulI (absI h) (pointI d) p) (show 1 ≤ p by omega) (by omega) x
    have w2 := numI_valid (x + 1) (by omega)
    have w3 := divI_valid (mulI (absI h) (pointI d) p) (numI (((x + 1) : Nat) : Int)) (show 1 ≤ p by omega) (by omega)
    exact spt (chain [r64 ((k : Int) + 1) (by omega), tT 108 ((((x + 1) : Nat) : Int) ≤ (((k + 1) : Nat) : Int)) (by omega), .c (r32Whole_pc (x + 1) (by omega)),
     .c (r5Div_pc (mulI (absI h) (pointI d) p) (numI (((x + 1) : Nat) : Int)) p (mulI_valid _ _ (by omega) (by omega)) ‹_› (by omega) (by omega)),
     .c (r5Mul_pc (qla8 h d p x) (qla6 h d p x) p ‹_› (divI_valid _ _ (by omega) (by omega)) (by omega) (by omega)),
     r64 ((((x + 1) : Nat) : Int) + 1) (by omega)] <| .e (chain [.b 18 (.of_eq rfl : Bx.le (.cells 28 (ivL (mulI (qla8 h d p x) (qla6 h d p x) p))) (.cells 28 (ivL (powI (mulI (absI h) (pointI d) p) p (x + 1)))))] <| .nil)) (by kernel_rfl))
  (fun hx => by
    exact spt (chain [r64 ((k : Int) + 1) (by omega), tF 108 (((((k + 1) + 1) : Nat) : Int) ≤ (((k + 1) : Nat) : Int)) (by omega)] <| .nil) (by kernel_rfl)) (by nofun) : LpT 23 Tryz.f19 (r32FamT m h d k p 0) (.exit 2) ⟨177, true, [(18, .box 18 0), (17, .box 17 0), (11, .e (matP (sumM m h p k))), (0, .e (matP m)), (2, .e (iP k)), (3, .e (iP p))], [(18, .cells 28 (ivL (qla4 h d p k))), (17, .cells 28 (ivL (mulI (absI h) (pointI d) p)))]⟩) (chain [.o 19 (.int (by first | rfl | omega | (simp only [Nat.add_mul, Nat.one_mul]; omega)) : PV.le (.e (iP 1)) (.e (iP (((0 + 1) : Nat) : Int)))),
  .b 18 (.of_eq rfl : Bx.le (.cells 28 (ivL (numI 1))) (.cells 28 (ivL (powI (mulI (absI h) (pointI d) p) p 0))))] <| .nil),
  .c (r32Whole_pc 1 (by omega)), r64 ((k : Int) + 2) (by omega), .c (r32Whole_pc (k + 2) (by omega)),
  .c (r5Div_pc (mulI (absI h) (pointI d) p) (numI (((k + 2) : Nat) : Int)) p (mulI_valid _ _ (by omega) (by omega)) ‹_› (by omega) (by omega)),
  .c (r5Sub_pc (numI 1) (qla3 h d p k) p ‹_› (divI_valid _ _ (by omega) (by omega)) (by omega) (by omega)),
  .c (r5Div_pc (qla4 h d p k) (subI (numI 1) (qla3 h d p k) p) p ‹_› ‹_› (by omega) (by omega)),
  tB 132 (he : (divI (qla4 h d p k) (subI (numI 1) (qla3 h d p k) p) p).all = false),
  .c (refNeg_pc _ : PCt 72 [(dyP ((divI (qla4 h d p k) (subI (numI 1) (qla3 h d p k) p) p).hi))] _),
  .a (by omega : 0 ≤ ((m.length : Int) : Int) ∧ ((m.length : Int) : Int) ≤ ((m.length : Int) : Int)),
  .a (by omega : ((24 : Nat) : Int) * (m.length : Int) ≤ 281474976710656 ∧ ((m.length : Int) : Int) ≤ 9223372036854775807),
  .s (Sp.upto (r32FamB m h d k p) 0 m.length (by omega) (fun x hx hltx => by
    exact spt (chain [tT 145 ((x : Int) < (m.length : Int)) (by omega),
     .s (Sp.upto (r32FamC m h d k p x) 0 m.length (by omega) (fun y hy hlty => by
    have hle : lnE (buildM m.length (fun _ => m.length) (fun i j => addI (((sumM m h p k).getD i []).getD j wholeI) (Iv.mk (negD (divI (powI (mulI (absI h) (pointI d) p) p (k + 1)) (subI (numI 1) (divI (mulI (absI h) (pointI d) p) (numI (((k + 2) : Nat) : Int)) p) p) p).hi) (divI (powI (mulI (absI h) (pointI d) p) p (k + 1)) (subI (numI 1) (divI (mulI (absI h) (pointI d) p) (numI (((k + 2) : Nat) : Int)) p) p) p).hi false) p) x y) x = y := lnE_at (by omega)
    have w8 := gs.val_at (show x < n by omega) (show y < n by omega)
    have lsx := gs.len_at (show x < n by omega)
    have ho1 := one_len (addI (((sumM m h p k).getD x []).getD y wholeI) (Iv.mk (negD (divI (powI (mulI (absI h) (pointI d) p) p (k + 1)) (subI (numI 1) (divI (mulI (absI h) (pointI d) p) (numI (((k + 2) : Nat) : Int)) p) p) p).hi) (divI (powI (mulI (absI h) (pointI d) p) p (k + 1)) (subI (numI 1) (divI (mulI (absI h) (pointI d) p) (numI (((k + 2) : Nat) : Int)) p) p) p).hi false) p)
    exact spt (chain [tT 151 ((y : Int) < (m.length : Int)) (by omega), iX ((x : Int)) (m.length) (by omega), .a (by omega : x < m.length), iX ((x : Int)) ((sumM m h p k).length) (by omega),
     iX ((y : Int)) (((sumM m h p k).getD x []).length) (by omega),
     .c (r5Add_pc (((sumM m h p k).getD x []).getD y wholeI) (qla1 h d p k) p ‹_› ‹_› (by omega) (by omega)),
     .o 170 (.e (ivs1_le _) : PV.le (.e (.sl true 1 7 fun i_ j_ => (ivL (qla5 m h p k x y d)).getD (i_ * 7 + j_) (.v (.bool false)))) (.e (ivsP [(qla5 m h p k x y d)]))),
     .a (by omega : x < m.length),
     .a (by omega : ((lnE (buildM m.length (fun _ => m.length) (fun i j => addI (((sumM m h p k).getD i []).getD j wholeI) (Iv.mk (negD (divI (powI (mulI (absI h) (pointI d) p) p (k + 1)) (subI (numI 1) (divI (mulI (absI h) (pointI d) p) (numI (((k + 2) : Nat) : Int)) p) p) p).hi) (divI (powI (mulI (absI h) (pointI d) p) p (k + 1)) (subI (numI 1) (divI (mulI (absI h) (pointI d) p) (numI (((k + 2) : Nat) : Int)) p) p) p).hi false) p) x y)) x + [(addI (((sumM m h p k).getD x []).getD y wholeI) (Iv.mk (negD ((divI (powI (mulI (absI h) (pointI d) p) p (k + 1)) (subI (numI 1) (divI (mulI (absI h) (pointI d) p) (numI (((k + 2) : Nat) : Int)) p) p) p).hi)) ((divI (powI (mulI (absI h) (pointI d) p) p (k + 1)) (subI (numI 1) (divI (mulI (absI h) (pointI d) p) (numI (((k + 2) : Nat) : Int)) p) p) p).hi) false) p)].length) * 88 ≤ 140737488355328),
     iX ((x : Int)) (m.length) (by omega), .a (rfl : x = x), .a (rfl : x = x), .a (by omega : x < m.length), r64 ((y : Int) + 1) (by omega)] <| .e (chain [.b 141 (rows_push rfl (by omega) (by omega) rfl : Bx.le (.rows true 31 28 m.length 7 (fun q => if q = x then (lnE (buildM m.length (fun _ => m.length) (qla0 m h p k d) x y)) q + [(qla5 m h p k x y d)].length else (lnE (buildM m.length (fun _ => m.length) (qla0 m h p k d) x y)) q) (fun q i j => if q = x then (if i < (lnE (buildM m.length (fun _ => m.length) (qla0 m h p k d) x y)) q then (rowsE (buildM m.length (fun _ => m.length) (qla0 m h p k d) x y)) q i j else (E.elf (ivsP [(qla5 m h p k x y d)])) (i - (lnE (buildM m.length (fun _ => m.length) (qla0 m h p k d) x y)) q) j) else (rowsE (buildM m.length (fun _ => m.length) (qla0 m h p k d) x y)) q i j) .none) (.rows true 31 28 m.length 7 (lnE (buildM m.length (fun _ => m.length) (qla0 m h p k d) x (y + 1))) (rowsE (buildM m.length (fun _ => m.length) (qla0 m h p k d) x (y + 1))) .none))] <| .nil)) (by kernel_rfl))
  (fun hy => by
    exact spt (chain [tF 151 ((m.length : Int) < (m.length : Int)) (by omega)] <| .nil) (by kernel_rfl)) (by nofun) : LpT 35 Tryz.f19 (r32FamC m h d k p x 0) (.exit 6) ⟨177, true, [(23, .e (iP x)), (22, .own 141), (21, .box 21 0), (11, .e (matP (sumM m h p k))), (0, .e (matP m)), (3, .e (iP p))], [(141, .rows true 31 28 m.length 7 (lnE (buildM m.length (fun _ => m.length) (qla0 m h p k d) x m.length)) (rowsE (buildM m.length (fun _ => m.length) (qla0 m h p k d) x m.length)) .none), (21, .cells 28 (ivL (qla1 h d p k)))]⟩) .nil,
     r64 ((x : Int) + 1) (by omega)] <| .e (chain [.b 141 (rows_next rfl : Bx.le (.rows true 31 28 m.length 7 (lnE (buildM m.length (fun _ => m.length) (qla0 m h p k d) x m.length)) (rowsE (buildM m.length (fun _ => m.length) (qla0 m h p k d) x m.length)) .none) (.rows true 31 28 m.length 7 (lnE (buildM m.length (fun _ => m.length) (qla0 m h p k d) (x + 1) 0)) (rowsE (buildM m.length (fun _ => m.length) (qla0 m h p k d) (x + 1) 0)) .none))] <| .nil)) (by kernel_rfl))
  (fun hx => by
    exact spt (chain [tF 145 ((m.length : Int) < (m.length : Int)) (by omega), .z 141] <| .e (chain [.o 22 (.e matDone_le : PV.le (.e (.sl true m.length 1 fun k_ _ => .sl true ((lnE (buildM m.length (fun _ => m.length) (qla0 m h p k d) m.length 0)) k_) 7 ((rowsE (buildM m.length (fun _ => m.length) (qla0 m h p k d) m.length 0)) k_))) (.e (matP (wholeM m.length (fun _ => m.length) (qla0 m h p k d)))))] <| .nil)) (by kernel_rfl)) (by nofun) : LpT 32 Tryz.f19 (r32FamB m h d k p 0) (.exit 4) ⟨177, true, [(22, .e (matP (wholeM m.length (fun _ => m.length) (qla0 m h p k d))))], []⟩) (chain [.b 141 (rows_init rfl : Bx.le (.rows true 31 28 m.length 7 (fun _ => 0) (fun _ _ _ => .any) .none) (.rows true 31 28 m.length 7 (lnE (buildM m.length (fun _ => m.length) (qla0 m h p k d) 0 0)) (rowsE (buildM m.length (fun _ => m.length) (qla0 m h p k d) 0 0)) .none))] <| .nil),
  .c (r32Known_pc _ (MOk.rows_le ‹_›).1 (MOk.rows_le ‹_›).2 : PCt 64 [(matP (wholeM m.length (fun _ => m.length) (qla0 m h p k d)))] _),
  tB 174 (by rw [hall]; rfl : (!(anyAll (wholeM m.length (fun _ => m.length) (fun i j => addI (((sumM m h p k).getD i []).getD j wholeI) (Iv.mk (negD (divI (powI (mulI (absI h) (pointI d) p) p (k + 1)) (subI (numI 1) (divI (mulI (absI h) (pointI d) p) (numI (((k + 2) : Nat) : Int)) p) p) p).hi) (divI (powI (mulI (absI h) (pointI d) p) p (k + 1)) (subI (numI 1) (divI (mulI (absI h) (pointI d) p) (numI (((k + 2) : Nat) : Int)) p) p) p).hi false) p)))) = false)] <| .nil) (by kernel_rfl)
set_option maxHeartbeats 4000000 in
theorem r32Exp_D (m : List (List Iv)) (h : Iv) (n k p : Nat) (ga : MOk m n n) (hh : h.Valid) (hha : h.all = false) (hk1 : 1 ≤ k) (hk : k ≤ 16) (hp1 : 8 ≤ p) (hp2 : p ≤ 512) (hlow : ∀ x, x < k → anyAll (termM m h p (x + 1)) = false) (d : Dy) (hn : PCt 66 [matP m, iP (p : Int)] (.tup [dyP d, bP true])) (hd : d.Valid) (hu : (mulI (absI h) (pointI d) p).all = false) (hc : ¬ 0 ≤ cmpD (mulI (absI h) (pointI d) p).hi (intD (((k + 2) : Nat) : Int))) (he : (divI (powI (mulI (absI h) (pointI d) p) p (k + 1)) (subI (numI 1) (divI (mulI (absI h) (pointI d) p) (numI (((k + 2) : Nat) : Int)) p) p) p).all = false) (hle : cmpD (negD (divI (powI (mulI (absI h) (pointI d) p) p (k + 1)) (subI (numI 1) (divI (mulI (absI h) (pointI d) p) (numI (((k + 2) : Nat) : Int)) p) p) p).hi) (divI (powI (mulI (absI h) (pointI d) p) p (k + 1)) (subI (numI 1) (divI (mulI (absI h) (pointI d) p) (numI (((k + 2) : Nat) : Int)) p) p) p).hi ≤ 0) (hall : anyAll (wholeM m.length (fun _ => m.length) (fun i j => addI (((sumM m h p k).getD i []).getD j wholeI) (Iv.mk (negD (divI (powI (mulI (absI h) (pointI d) p) p (k + 1)) (subI (numI 1) (divI (mulI (absI h) (pointI d) p) (numI (((k + 2) : Nat) : Int)) p) p) p).hi) (divI (powI (mulI (absI h) (pointI d) p) p (k + 1)) (subI (numI 1) (divI (mulI (absI h) (pointI d) p) (numI (((k + 2) : Nat) : Int)) p) p) p).hi false) p)) = false) : PCt 19 [(matP m), (ivP h), (iP k), (iP p)] (.tup [matP (wholeM m.length (fun _ => m.length) (fun i j => addI (((sumM m h p k).getD i []).getD j wholeI) (Iv.mk (negD (divI (powI (mulI (absI h) (pointI d) p) p (k + 1)) (subI (numI 1) (divI (mulI (absI h) (pointI d) p) (numI (((k + 2) : Nat) : Int)) p) p) p).hi) (divI (powI (mulI (absI h) (pointI d) p) p (k + 1)) (subI (numI 1) (divI (mulI (absI h) (pointI d) p) (numI (((k + 2) : Nat) : Int)) p) p) p).hi false) p)), iP 0]) := by
 have ra := ga.rows
 have n1 := ga.n1
 have n8 := ga.n8
 have hcase := r32Case_yes m h n ga hh hha
 have va := absI_valid hh
 have vp := pointI_valid hd
 have vu := mulI_valid (absI h) (pointI d) (show 1 ≤ p by omega) (show p ≤ 4096 by omega)
 have vk := intD_valid (k + 2) (by omega)
 have ve := vu.ends.2
 have w1 := powI_valid (mulI (absI h) (pointI d) p) (show 1 ≤ p by omega) (by omega) (k + 1)
 have w2 := numI_valid (k + 2) (by omega)
 have w3 : (numI 1).Valid := numI_valid 1 (by decide)
 have w4 := divI_valid (mulI (absI h) (pointI d) p) (numI (((k + 2) : Nat) : Int)) (show 1 ≤ p by omega) (by omega)
 have w5 : (subI (numI 1) (divI (mulI (absI h) (pointI d) p) (numI (((k + 2) : Nat) : Int)) p) p).Valid := addI_valid w3 (negI_valid w4) (by omega) (by omega)
 have w6 := divI_valid (powI (mulI (absI h) (pointI d) p) p (k + 1)) (subI (numI 1) (divI (mulI (absI h) (pointI d) p) (numI (((k + 2) : Nat) : Int)) p) p) (show 1 ≤ p by omega) (by omega)
 have w7 := w6.ends.2
 have gs := sumM_ok (h := h) (p := p) ga (by omega) (by omega) k
 have rs := gs.rows
 have hrest : (Iv.mk (negD (divI (powI (mulI (absI h) (pointI d) p) p (k + 1)) (subI (numI 1) (divI (mulI (absI h) (pointI d) p) (numI (((k + 2) : Nat) : Int)) p) p) p).hi) (divI (powI (mulI (absI h) (pointI d) p) p (k + 1)) (subI (numI 1) (divI (mulI (absI h) (pointI d) p) (numI (((k + 2) : Nat) : Int)) p) p) p).hi false).Valid := .inr ⟨rfl, negD_valid w7, w7, hle⟩
 have hMW : MOk (wholeM m.length (fun _ => m.length) (fun i j => addI (((sumM m h p k).getD i []).getD j wholeI) (Iv.mk (negD (divI (powI (mulI (absI h) (pointI d) p) p (k + 1)) (subI (numI 1) (divI (mulI (absI h) (pointI d) p) (numI (((k + 2) : Nat) : Int)) p) p) p).hi) (divI (powI (mulI (absI h) (pointI d) p) p (k + 1)) (subI (numI 1) (divI (mulI (absI h) (pointI d) p) (numI (((k + 2) : Nat) : Int)) p) p) p).hi false) p)) n n := by
  rw [ra]
  refine wholeM_ok ga.n1 ga.n8 ga.n1 ga.n8 fun i j => addI_valid (elV gs i j) hrest (by omega) (by omega)
 exact tr true Tryz.call19 Tryz.func19 (chain [.c (hcase : PCt 27 [(matP m), (ivP h)] _), .c (refPrec_pc _ : PCt 58 [(iP p)] _), tB 30 (precB_true.2 ⟨by omega, by omega⟩ : (precB (p : Int)) = true), tF 34 ((k : Int) < 1) (by omega),
  tF 38 (16 < (k : Int)) (by omega), .c (r7Identity_pc m.length (by omega) (by omega)),
  .s (Sp.upto (r32FamAY m h k p) 0 k (by omega) (fun x hx hltx => by
    have w1 := termM_ok (h := h) ga (show 1 ≤ p by omega) (by omega) x
    have w2 := mulM_ok w1 ga (show 1 ≤ p by omega) (show p ≤ 4096 by omega)
    have w3 := numI_valid (x + 1) (by omega)
    have w4 := divI_valid h (numI (((x + 1) : Nat) : Int)) (show 1 ≤ p by omega) (show p ≤ 4096 by omega)
    have w5 := sumM_ok (h := h) ga (show 1 ≤ p by omega) (by omega) x
    have w6 : MOk (scaleM (mulM (termM m h p x) m p) (divI h (numI (((x + 1) : Nat) : Int)) p) p) n n := scaleM_ok w2 (show 1 ≤ p by omega) (by omega)
    have w7 := w6.rows
    exact spt (chain [tT 46 ((((x + 1) : Nat) : Int) ≤ (k : Int)) (by omega), .c (r7Mul_pc _ _ _ _ _ _ ‹_› ‹_› (by omega) (by omega) : PCt 60 [(matP (termM m h p x)), (matP m), (iP p)] _),
     .c (r32Whole_pc (x + 1) (by omega)), .c (r5Div_pc h (numI (((x + 1) : Nat) : Int)) p ‹_› ‹_› (by omega) (by omega)),
     .c (r7Scale_pc _ _ _ _ _ ‹_› (divI_valid _ _ (by omega) (by omega)) (by omega) (by omega) : PCt 61 [(matP (mulM (termM m h p x) m p)), (qla7 h x p), (iP p)] _),
     tB 66 (natZ_false (by omega) : ((((scaleM (mulM (termM m h p x) m p) (divI h (numI (((x + 1) : Nat) : Int)) p) p).length : Nat) : Int) == 0) = false),
     .c (r32Known_pc _ (MOk.rows_le ‹_›).1 (MOk.rows_le ‹_›).2 : PCt 64 [(qla2 m h p x)] _),
     tB 69 (by rw [show anyAll (scaleM (mulM (termM m h p x) m p) (divI h (numI (((x + 1) : Nat) : Int)) p) p) = false from hlow x (by omega)]; rfl : (!(anyAll (scaleM (mulM (termM m h p x) m p) (divI h (numI (((x + 1) : Nat) : Int)) p) p))) = true),
     .c (r7Add_pc _ _ _ _ _ ‹_› ‹_› (by omega) (by omega) : PCt 65 [(matP (sumM m h p x)), (qla2 m h p x), (iP p), (bP false)] _),
     r64 ((((x + 1) : Nat) : Int) + 1) (by omega)] <| .nil) (by kernel_rfl))
  (fun hx => by
    exact spt (chain [tF 46 ((((k + 1) : Nat) : Int) ≤ (k : Int)) (by omega)] <| .nil) (by kernel_rfl)) (by nofun) : LpT 8 Tryz.f19 (r32FamAY m h k p 0) (.exit 0) ⟨177, true, [(11, .e (matP (sumM m h p k))), (5, .box 5 0), (0, .e (matP m)), (2, .e (iP k)), (3, .e (iP p))], [(5, .cells 28 (ivL h))]⟩) (chain [.o 12 (.int (by first | rfl | omega | (simp only [Nat.add_mul, Nat.one_mul]; omega)) : PV.le (.e (iP 1)) (.e (iP (((0 + 1) : Nat) : Int))))] <| .nil),
  .c (hn : PCt 66 [(matP m), (iP p)] _), .c (r5Abs_pc h ‹_›), .c (r5Point_pc d), .c (r5Mul_pc (absI h) (pointI d) p (absI_valid ‹_›) (pointI_valid ‹_›) (by omega) (by omega)),
  tB 94 (hu : (mulI (absI h) (pointI d) p).all = false), r64 ((k : Int) + 2) (by omega), .c (refIntD_pc (k + 2) (by omega) : PCt 70 [(iP (((k + 2) : Nat) : Int))] _),
  .c (refCmp_pc ((mulI (absI h) (pointI d) p).hi) (intD (((k + 2) : Nat) : Int)) (Fp.Dy.Valid.near ‹_›) (Fp.Dy.Valid.near ‹_›)), tB 102 (decide_eq_false hc), .c (r32Whole_pc 1 (by omega)),
  .s (Sp.upto (r32FamT m h d k p) 0 (k + 1) (by omega) (fun x hx hltx => by
    have w1 := powI_valid (mulI (absI h) (pointI d) p) (show 1 ≤ p by omega) (by omega) x
    have w2 := numI_valid (x + 1) (by omega)
    have w3 := divI_valid (mulI (absI h) (pointI d) p) (numI (((x + 1) : Nat) : Int)) (show 1 ≤ p by omega) (by omega)
    exact spt (chain [r64 ((k : Int) + 1) (by omega), tT 108 ((((x + 1) : Nat) : Int) ≤ (((k + 1) : Nat) : Int)) (by omega), .c (r32Whole_pc (x + 1) (by omega)),
     .c (r5Div_pc (mulI (absI h) (pointI d) p) (numI (((x + 1) : Nat) : Int)) p (mulI_valid _ _ (by omega) (by omega)) ‹_› (by omega) (by omega)),
     .c (r5Mul_pc (qla8 h d p x) (qla6 h d p x) p ‹_› (divI_valid _ _ (by omega) (by omega)) (by omega) (by omega)),
     r64 ((((x + 1) : Nat) : Int) + 1) (by omega)] <| .e (chain [.b 18 (.of_eq rfl : Bx.le (.cells 28 (ivL (mulI (qla8 h d p x) (qla6 h d p x) p))) (.cells 28 (ivL (powI (mulI (absI h) (pointI d) p) p (x + 1)))))] <| .nil)) (by kernel_rfl))
  (fun hx => by
    exact spt (chain [r64 ((k : Int) + 1) (by omega), tF 108 (((((k + 1) + 1) : Nat) : Int) ≤ (((k + 1) : Nat) : Int)) (by omega)] <| .nil) (by kernel_rfl)) (by nofun) : LpT 23 Tryz.f19 (r32FamT m h d k p 0) (.exit 2) ⟨177, true, [(18, .box 18 0), (17, .box 17 0), (11, .e (matP (sumM m h p k))), (0, .e (matP m)), (2, .e (iP k)), (3, .e (iP p))], [(18, .cells 28 (ivL (qla4 h d p k))), (17, .cells 28 (ivL (mulI (absI h) (pointI d) p)))]⟩) (chain [.o 19 (.int (by first | rfl | omega | (simp only [Nat.add_mul, Nat.one_mul]; omega)) : PV.le (.e (iP 1)) (.e (iP (((0 + 1) : Nat) : Int)))),
  .b 18 (.of_eq rfl : Bx.le (.cells 28 (ivL (numI 1))) (.cells 28 (ivL (powI (mulI (absI h) (pointI d) p) p 0))))] <| .nil),
  .c (r32Whole_pc 1 (by omega)), r64 ((k : Int) + 2) (by omega), .c (r32Whole_pc (k + 2) (by omega)),
  .c (r5Div_pc (mulI (absI h) (pointI d) p) (numI (((k + 2) : Nat) : Int)) p (mulI_valid _ _ (by omega) (by omega)) ‹_› (by omega) (by omega)),
  .c (r5Sub_pc (numI 1) (qla3 h d p k) p ‹_› (divI_valid _ _ (by omega) (by omega)) (by omega) (by omega)),
  .c (r5Div_pc (qla4 h d p k) (subI (numI 1) (qla3 h d p k) p) p ‹_› ‹_› (by omega) (by omega)),
  tB 132 (he : (divI (qla4 h d p k) (subI (numI 1) (qla3 h d p k) p) p).all = false),
  .c (refNeg_pc _ : PCt 72 [(dyP ((divI (qla4 h d p k) (subI (numI 1) (qla3 h d p k) p) p).hi))] _),
  .a (by omega : 0 ≤ ((m.length : Int) : Int) ∧ ((m.length : Int) : Int) ≤ ((m.length : Int) : Int)),
  .a (by omega : ((24 : Nat) : Int) * (m.length : Int) ≤ 281474976710656 ∧ ((m.length : Int) : Int) ≤ 9223372036854775807),
  .s (Sp.upto (r32FamB m h d k p) 0 m.length (by omega) (fun x hx hltx => by
    exact spt (chain [tT 145 ((x : Int) < (m.length : Int)) (by omega),
     .s (Sp.upto (r32FamC m h d k p x) 0 m.length (by omega) (fun y hy hlty => by
    have hle : lnE (buildM m.length (fun _ => m.length) (fun i j => addI (((sumM m h p k).getD i []).getD j wholeI) (Iv.mk (negD (divI (powI (mulI (absI h) (pointI d) p) p (k + 1)) (subI (numI 1) (divI (mulI (absI h) (pointI d) p) (numI (((k + 2) : Nat) : Int)) p) p) p).hi) (divI (powI (mulI (absI h) (pointI d) p) p (k + 1)) (subI (numI 1) (divI (mulI (absI h) (pointI d) p) (numI (((k + 2) : Nat) : Int)) p) p) p).hi false) p) x y) x = y := lnE_at (by omega)
    have w8 := gs.val_at (show x < n by omega) (show y < n by omega)
    have lsx := gs.len_at (show x < n by omega)
    have ho1 := one_len (addI (((sumM m h p k).getD x []).getD y wholeI) (Iv.mk (negD (divI (powI (mulI (absI h) (pointI d) p) p (k + 1)) (subI (numI 1) (divI (mulI (absI h) (pointI d) p) (numI (((k + 2) : Nat) : Int)) p) p) p).hi) (divI (powI (mulI (absI h) (pointI d) p) p (k + 1)) (subI (numI 1) (divI (mulI (absI h) (pointI d) p) (numI (((k + 2) : Nat) : Int)) p) p) p).hi false) p)
    exact spt (chain [tT 151 ((y : Int) < (m.length : Int)) (by omega), iX ((x : Int)) (m.length) (by omega), .a (by omega : x < m.length), iX ((x : Int)) ((sumM m h p k).length) (by omega),
     iX ((y : Int)) (((sumM m h p k).getD x []).length) (by omega),
     .c (r5Add_pc (((sumM m h p k).getD x []).getD y wholeI) (qla1 h d p k) p ‹_› ‹_› (by omega) (by omega)),
     .o 170 (.e (ivs1_le _) : PV.le (.e (.sl true 1 7 fun i_ j_ => (ivL (qla5 m h p k x y d)).getD (i_ * 7 + j_) (.v (.bool false)))) (.e (ivsP [(qla5 m h p k x y d)]))),
     .a (by omega : x < m.length),
     .a (by omega : ((lnE (buildM m.length (fun _ => m.length) (fun i j => addI (((sumM m h p k).getD i []).getD j wholeI) (Iv.mk (negD (divI (powI (mulI (absI h) (pointI d) p) p (k + 1)) (subI (numI 1) (divI (mulI (absI h) (pointI d) p) (numI (((k + 2) : Nat) : Int)) p) p) p).hi) (divI (powI (mulI (absI h) (pointI d) p) p (k + 1)) (subI (numI 1) (divI (mulI (absI h) (pointI d) p) (numI (((k + 2) : Nat) : Int)) p) p) p).hi false) p) x y)) x + [(addI (((sumM m h p k).getD x []).getD y wholeI) (Iv.mk (negD ((divI (powI (mulI (absI h) (pointI d) p) p (k + 1)) (subI (numI 1) (divI (mulI (absI h) (pointI d) p) (numI (((k + 2) : Nat) : Int)) p) p) p).hi)) ((divI (powI (mulI (absI h) (pointI d) p) p (k + 1)) (subI (numI 1) (divI (mulI (absI h) (pointI d) p) (numI (((k + 2) : Nat) : Int)) p) p) p).hi) false) p)].length) * 88 ≤ 140737488355328),
     iX ((x : Int)) (m.length) (by omega), .a (rfl : x = x), .a (rfl : x = x), .a (by omega : x < m.length), r64 ((y : Int) + 1) (by omega)] <| .e (chain [.b 141 (rows_push rfl (by omega) (by omega) rfl : Bx.le (.rows true 31 28 m.length 7 (fun q => if q = x then (lnE (buildM m.length (fun _ => m.length) (qla0 m h p k d) x y)) q + [(qla5 m h p k x y d)].length else (lnE (buildM m.length (fun _ => m.length) (qla0 m h p k d) x y)) q) (fun q i j => if q = x then (if i < (lnE (buildM m.length (fun _ => m.length) (qla0 m h p k d) x y)) q then (rowsE (buildM m.length (fun _ => m.length) (qla0 m h p k d) x y)) q i j else (E.elf (ivsP [(qla5 m h p k x y d)])) (i - (lnE (buildM m.length (fun _ => m.length) (qla0 m h p k d) x y)) q) j) else (rowsE (buildM m.length (fun _ => m.length) (qla0 m h p k d) x y)) q i j) .none) (.rows true 31 28 m.length 7 (lnE (buildM m.length (fun _ => m.length) (qla0 m h p k d) x (y + 1))) (rowsE (buildM m.length (fun _ => m.length) (qla0 m h p k d) x (y + 1))) .none))] <| .nil)) (by kernel_rfl))
  (fun hy => by
    exact spt (chain [tF 151 ((m.length : Int) < (m.length : Int)) (by omega)] <| .nil) (by kernel_rfl)) (by nofun) : LpT 35 Tryz.f19 (r32FamC m h d k p x 0) (.exit 6) ⟨177, true, [(23, .e (iP x)), (22, .own 141), (21, .box 21 0), (11, .e (matP (sumM m h p k))), (0, .e (matP m)), (3, .e (iP p))], [(141, .rows true 31 28 m.length 7 (lnE (buildM m.length (fun _ => m.length) (qla0 m h p k d) x m.length)) (rowsE (buildM m.length (fun _ => m.length) (qla0 m h p k d) x m.length)) .none), (21, .cells 28 (ivL (qla1 h d p k)))]⟩) .nil,
     r64 ((x : Int) + 1) (by omega)] <| .e (chain [.b 141 (rows_next rfl : Bx.le (.rows true 31 28 m.length 7 (lnE (buildM m.length (fun _ => m.length) (qla0 m h p k d) x m.length)) (rowsE (buildM m.length (fun _ => m.length) (qla0 m h p k d) x m.length)) .none) (.rows true 31 28 m.length 7 (lnE (buildM m.length (fun _ => m.length) (qla0 m h p k d) (x + 1) 0)) (rowsE (buildM m.length (fun _ => m.length) (qla0 m h p k d) (x + 1) 0)) .none))] <| .nil)) (by kernel_rfl))
  (fun hx => by
    exact spt (chain [tF 145 ((m.length : Int) < (m.length : Int)) (by omega), .z 141] <| .e (chain [.o 22 (.e matDone_le : PV.le (.e (.sl true m.length 1 fun k_ _ => .sl true ((lnE (buildM m.length (fun _ => m.length) (qla0 m h p k d) m.length 0)) k_) 7 ((rowsE (buildM m.length (fun _ => m.length) (qla0 m h p k d) m.length 0)) k_))) (.e (matP (wholeM m.length (fun _ => m.length) (qla0 m h p k d)))))] <| .nil)) (by kernel_rfl)) (by nofun) : LpT 32 Tryz.f19 (r32FamB m h d k p 0) (.exit 4) ⟨177, true, [(22, .e (matP (wholeM m.length (fun _ => m.length) (qla0 m h p k d))))], []⟩) (chain [.b 141 (rows_init rfl : Bx.le (.rows true 31 28 m.length 7 (fun _ => 0) (fun _ _ _ => .any) .none) (.rows true 31 28 m.length 7 (lnE (buildM m.length (fun _ => m.length) (qla0 m h p k d) 0 0)) (rowsE (buildM m.length (fun _ => m.length) (qla0 m h p k d) 0 0)) .none))] <| .nil),
  .c (r32Known_pc _ (MOk.rows_le ‹_›).1 (MOk.rows_le ‹_›).2 : PCt 64 [(matP (wholeM m.length (fun _ => m.length) (qla0 m h p k d)))] _),
  tB 174 (by rw [hall]; rfl : (!(anyAll (wholeM m.length (fun _ => m.length) (fun i j => addI (((sumM m h p k).getD i []).getD j wholeI) (Iv.mk (negD (divI (powI (mulI (absI h) (pointI d) p) p (k + 1)) (subI (numI 1) (divI (mulI (absI h) (pointI d) p) (numI (((k + 2) : Nat) : Int)) p) p) p).hi) (divI (powI (mulI (absI h) (pointI d) p) p (k + 1)) (subI (numI 1) (divI (mulI (absI h) (pointI d) p) (numI (((k + 2) : Nat) : Int)) p) p) p).hi false) p)))) = true)] <| .nil) (by kernel_rfl)
open Go.RowKit Fp Pu
abbrev vja0 (m : List (List Iv)) (h : Iv) (p) (k) (e : Iv) := fun i_ => (List.range (((sumM m h p k).getD i_ []).length)).map (fun j_ => addI (((sumM m h p k).getD i_ []).getD j_ wholeI) e p)
abbrev vja1 (m : List (List Iv)) (h : Iv) (p) (k) (x) (e : Iv) := fun j_ => addI (((sumM m h p k).getD x []).getD j_ wholeI) e p
abbrev vja2 (m : List (List Iv)) (h : Iv) (p) (k) (e : Iv) := (List.range ((sumM m h p k).length)).map (vja0 m h p k e)
abbrev vja3 (m : List (List Iv)) (h : Iv) (p) (k) (x) (y) (e : Iv) := addI (((sumM m h p k).getD x []).getD y wholeI) e p
abbrev vja4 (m : List (List Iv)) (h : Iv) (p) (k) (x) (e : Iv) := ivsP ((List.range (((sumM m h p k).getD x []).length)).map (vja1 m h p k x e))
def expFamA (m : List (List Iv)) (h e : Iv) (k p : Nat) (x : Nat) : PS := ⟨122, true, [(14, .e (iP (((x + 1) : Nat) : Int))), (13, .e (matP (sumM m h p x))), (12, .e (matP (termM m h p x))), (10, .box 10 0), (5, .box 5 0), (0, .e (matP m)), (2, .e (iP k)), (3, .e (iP p))], [(10, .cells 28 (ivL e)), (5, .cells 28 (ivL h))]⟩
def expFamB (m : List (List Iv)) (h e : Iv) (k p : Nat) (x : Nat) : PS := ⟨122, true, [(17, .own 17), (96, .e (iP x)), (95, .e (iP (((sumM m h p k).length : Nat) : Int))), (94, .e (matP (sumM m h p k))), (10, .box 10 0), (3, .e (iP p))], [(17, .row true 31 x 1 (matE ((List.range x).map (vja0 m h p k e)))), (10, .cells 28 (ivL e))]⟩
def expFamC (m : List (List Iv)) (h e : Iv) (k p x : Nat) (y : Nat) : PS := ⟨122, true, [(20, .own 20), (102, .e (iP y)), (101, .e (iP ((((sumM m h p k).getD x []).length : Nat) : Int))), (100, .e (ivsP ((sumM m h p k).getD x []))), (17, .own 17), (96, .e (iP x)), (95, .e (iP (((sumM m h p k).length : Nat) : Int))), (94, .e (matP (sumM m h p k))), (10, .box 10 0), (3, .e (iP p))], [(20, .row true 28 y 7 (ivsE ((List.range y).map (vja1 m h p k x e)))), (17, .row true 31 x 1 (matE ((List.range x).map (vja0 m h p k e)))), (10, .cells 28 (ivL e))]⟩
theorem exp_no1 (m : List (List Iv)) (h : Iv) (n k p : Nat) (ga : MOk m n n) (hh : h.Valid) (hha : h.all = false) (hk1 : 1 ≤ k) (hk : k ≤ 16) (hp1 : 8 ≤ p) (hp2 : p ≤ 512) (hr : restI m h k p = none) : PCt 12 [(matP m), (ivP h), (iP k), (iP p)] (.tup [.v (.slice none 0 0), iP 15]) := by
 have ra := ga.rows
 have n1 := ga.n1
 have n8 := ga.n8
 obtain ⟨x0, hx0⟩ := (rest_pc m h n n k p ga hh (by omega) hp1 hp2).2 hr
 exact tr true Tryz.call12 Tryz.func12 (chain [.c (square_pc _ _ _ ga : PCt 40 [(matP m)] _), tT 24 (n = n) rfl, .c (ivValid_pc h ‹_›), tB 33 (hha : h.all = false), tF 36 ((p : Int) < 8) (by omega), tF 39 (512 < (p : Int)) (by omega),
  tF 43 ((k : Int) < 1) (by omega), tF 47 (16 < (k : Int)) (by omega), .c (hx0 : PCt 42 [(matP m), (ivP h), (iP k), (iP p)] _)] <| .nil) (by kernel_rfl)
theorem exp_no2 (m : List (List Iv)) (h : Iv) (n k p : Nat) (ga : MOk m n n) (hh : h.Valid) (hha : h.all = false) (hk1 : 1 ≤ k) (hk : k ≤ 16) (hp1 : 8 ≤ p) (hp2 : p ≤ 512) (e : Iv) (hr : restI m h k p = some e) (hall : (((List.range ((sumM m h p k).length)).map (fun i_ => (List.range (((sumM m h p k).getD i_ []).length)).map (fun j_ => addI (((sumM m h p k).getD i_ []).getD j_ wholeI) e p))).any fun r => r.any fun x => x.all) = true) : PCt 12 [(matP m), (ivP h), (iP k), (iP p)] (.tup [.v (.slice none 0 0), iP 15]) := by
 have ra := ga.rows
 have n1 := ga.n1
 have n8 := ga.n8
 obtain ⟨hr1, hev, hea⟩ := (rest_pc m h n n k p ga hh (by omega) hp1 hp2).1 e hr
 have gs := sumM_ok (h := h) (p := p) ga (by omega) (by omega) k
 have rs := gs.rows
 have hrows : ∀ i, (((List.range ((sumM m h p k).length)).map (fun i_ => (List.range (((sumM m h p k).getD i_ []).length)).map (fun j_ => addI (((sumM m h p k).getD i_ []).getD j_ wholeI) e p))).getD i []).length ≤ 1000 := by
  intro i
  by_cases hi : i < (sumM m h p k).length
  ·rw [rows_getD hi]; have := gs.len_le i; simp only [List.length_map, List.length_range]; omega
  ·rw [List.getD_eq_getElem?_getD, List.getElem?_eq_none (by simpa using hi)]; exact Nat.zero_le _
 exact tr true Tryz.call12 Tryz.func12 (chain [.c (square_pc _ _ _ ga : PCt 40 [(matP m)] _), tT 24 (n = n) rfl, .c (ivValid_pc h ‹_›), tB 33 (hha : h.all = false), tF 36 ((p : Int) < 8) (by omega), tF 39 (512 < (p : Int)) (by omega),
  tF 43 ((k : Int) < 1) (by omega), tF 47 (16 < (k : Int)) (by omega), .c (hr1 : PCt 42 [(matP m), (ivP h), (iP k), (iP p)] _), .c (matId_pc m.length (by omega) (by omega)),
  .s (Sp.upto (expFamA m h e k p) 0 k (by omega) (fun x hx hltx => by
    have w1 := termM_ok (h := h) ga (show 1 ≤ p by omega) (by omega) x
    have w2 := mulM_ok w1 ga (show 1 ≤ p by omega) (show p ≤ 4096 by omega)
    have w3 := numI_valid (x + 1) (by omega)
    have w4 := divI_valid h (numI (((x + 1) : Nat) : Int)) (show 1 ≤ p by omega) (show p ≤ 4096 by omega)
    have w5 := sumM_ok (h := h) ga (show 1 ≤ p by omega) (by omega) x
    have w6 : MOk (scaleM (mulM (termM m h p x) m p) (divI h (numI (((x + 1) : Nat) : Int)) p) p) n n := scaleM_ok w2 (show 1 ≤ p by omega) (by omega)
    exact spt (chain [tT 65 ((((x + 1) : Nat) : Int) ≤ (k : Int)) (by omega), .c (matMul_pc _ _ _ _ _ _ ‹_› ‹_› (by omega) (by omega) : PCt 43 [(matP (termM m h p x)), (matP m), (iP p)] _),
     tB 76 (by decide : ((0 : Int) != 0) = false), .c (num_pc (x + 1) (by omega)), .c (ivDiv_pc h (numI (((x + 1) : Nat) : Int)) p ‹_› ‹_› (by omega) (by omega)),
     .c (matScale_pc _ _ _ _ _ ‹_› ‹_› (by omega) (by omega) : PCt 44 [(matP (mulM (termM m h p x) m p)), (ivP (divI h (numI (((x + 1) : Nat) : Int)) p)), (iP p)] _),
     .c (matAdd_pc _ _ _ _ _ ‹_› ‹_› (by omega) (by omega) : PCt 47 [(matP (sumM m h p x)), (matP (scaleM (mulM (termM m h p x) m p) (divI h (numI (((x + 1) : Nat) : Int)) p) p)), (iP p)] _),
     tB 93 (by decide : ((0 : Int) != 0) = false), r64 ((((x + 1) : Nat) : Int) + 1) (by omega)] <| .nil) (by kernel_rfl))
  (fun hx => by
    exact spt (chain [tF 65 ((((k + 1) : Nat) : Int) ≤ (k : Int)) (by omega)] <| .nil) (by kernel_rfl)) (by nofun) : LpT 11 Tryz.f12 (expFamA m h e k p 0) (.exit 0) ⟨122, true, [(13, .e (matP (sumM m h p k))), (10, .box 10 0), (3, .e (iP p))], [(10, .cells 28 (ivL e))]⟩) (chain [.o 14 (.int (by first | rfl | omega | (simp only [Nat.add_mul, Nat.one_mul]; omega)) : PV.le (.e (iP 1)) (.e (iP (((0 + 1) : Nat) : Int))))] <| .nil),
  .y 17 17 true 31 1 (matE ((List.range 0).map (vja0 m h p k e))),
  .s (Sp.upto (expFamB m h e k p) 0 ((sumM m h p k).length) (by omega) (fun x hx hltx => by
    have lx := gs.len_at (show x < n by omega)
    exact spt (chain [tT 97 ((x : Int) < (((sumM m h p k).length : Nat) : Int)) (by omega), iX ((x : Int)) ((sumM m h p k).length) (by omega),
     .y 20 20 true 28 7 (ivsE ((List.range 0).map (vja1 m h p k x e))),
     .s (Sp.upto (expFamC m h e k p x) 0 (((sumM m h p k).getD x []).length) (by omega) (fun y hy hlty => by
    have w1 := gs.val_at (show x < n by omega) (show y < n by omega)
    have h1 := one_len (addI (((sumM m h p k).getD x []).getD y wholeI) e p)
    exact spt (chain [tT 103 ((y : Int) < ((((sumM m h p k).getD x []).length : Nat) : Int)) (by omega), iX ((y : Int)) (((sumM m h p k).getD x []).length) (by omega),
     .c (ivAdd_pc (((sumM m h p k).getD x []).getD y wholeI) e p ‹_› ‹_› (by omega) (by omega)),
     .o 111 (.e (ivs1_le _) : PV.le (.e (.sl true 1 7 fun i_ j_ => (ivL (vja3 m h p k x y e)).getD (i_ * 7 + j_) (.v (.bool false)))) (.e (ivsP [(vja3 m h p k x y e)]))),
     .a (by omega : (y + [(addI (((sumM m h p k).getD x []).getD y wholeI) e p)].length) * 88 ≤ 140737488355328), r64 ((y : Int) + 1) (by omega)] <| .e (chain [.b 20 (ivs_pushR rfl rfl rfl : Bx.le (.row true 28 (y + [(vja3 m h p k x y e)].length) 7 (fun i_ j_ => if i_ < y then (ivsE ((List.range y).map (vja1 m h p k x e))) i_ j_ else (E.elf (ivsP [(vja3 m h p k x y e)])) (i_ - y) j_)) (.row true 28 (y + 1) 7 (ivsE ((List.range (y + 1)).map (vja1 m h p k x e)))))] <| .nil)) (by kernel_rfl))
  (fun hy => by
    exact spt (chain [tF 103 (((((sumM m h p k).getD x []).length : Nat) : Int) < ((((sumM m h p k).getD x []).length : Nat) : Int)) (by omega), .z 20] <| .e (chain [.o 20 (.e (ivsRow_le (by simp)) : PV.le (.e (.sl true (((sumM m h p k).getD x []).length) 7 (ivsE ((List.range (((sumM m h p k).getD x []).length)).map (fun j_ => addI (((sumM m h p k).getD x []).getD j_ wholeI) e p))))) (.e (ivsP ((List.range (((sumM m h p k).getD x []).length)).map (fun j_ => addI (((sumM m h p k).getD x []).getD j_ wholeI) e p)))))] <| .nil)) (by kernel_rfl)) (by nofun) : LpT 26 Tryz.f12 (expFamC m h e k p x 0) (.exit 4) ⟨122, true, [(20, .e (vja4 m h p k x e)), (17, .own 17), (96, .e (iP x)), (95, .e (iP (((sumM m h p k).length : Nat) : Int))), (94, .e (matP (sumM m h p k))), (10, .box 10 0), (3, .e (iP p))], [(17, .row true 31 x 1 (matE ((List.range x).map (vja0 m h p k e)))), (10, .cells 28 (ivL e))]⟩) .nil,
     .a (by omega : (x + 1) * 24 ≤ 140737488355328), r64 ((x : Int) + 1) (by omega)] <| .e (chain [.b 17 (mat_pushR rfl rfl rfl (fun j hj => by cases Nat.lt_one_iff.1 hj; rfl) : Bx.le (.row true 31 (x + 1) 1 (fun i_ j_ => if i_ < x then (matE ((List.range x).map (vja0 m h p k e))) i_ j_ else (E.elf (.sl true 1 1 fun i_ j_ => [(vja4 m h p k x e)].getD (i_ * 1 + j_) (.v (.bool false)))) (i_ - x) j_)) (.row true 31 (x + 1) 1 (matE ((List.range (x + 1)).map (vja0 m h p k e)))))] <| .nil)) (by kernel_rfl))
  (fun hx => by
    exact spt (chain [tF 97 ((((sumM m h p k).length : Nat) : Int) < (((sumM m h p k).length : Nat) : Int)) (by omega), .z 17] <| .e (chain [.o 17 (.e (matRow_le (by simp)) : PV.le (.e (.sl true ((sumM m h p k).length) 1 (matE ((List.range ((sumM m h p k).length)).map (fun i_ => (List.range (((sumM m h p k).getD i_ []).length)).map (fun j_ => addI (((sumM m h p k).getD i_ []).getD j_ wholeI) e p)))))) (.e (matP ((List.range ((sumM m h p k).length)).map (fun i_ => (List.range (((sumM m h p k).getD i_ []).length)).map (fun j_ => addI (((sumM m h p k).getD i_ []).getD j_ wholeI) e p))))))] <| .nil)) (by kernel_rfl)) (by nofun) : LpT 22 Tryz.f12 (expFamB m h e k p 0) (.exit 2) ⟨122, true, [(17, .e (matP (vja2 m h p k e)))], []⟩) .nil,
  .c (all_pc (vja2 m h p k e) (by simp; omega) hrows),
  tB 120 (hall : (((vja2 m h p k e)).any fun r => r.any fun x => x.all) = true)] <| .nil) (by kernel_rfl)
theorem exp_yes (m : List (List Iv)) (h : Iv) (n k p : Nat) (ga : MOk m n n) (hh : h.Valid) (hha : h.all = false) (hk1 : 1 ≤ k) (hk : k ≤ 16) (hp1 : 8 ≤ p) (hp2 : p ≤ 512) (e : Iv) (hr : restI m h k p = some e) (hall : (((List.range ((sumM m h p k).length)).map (fun i_ => (List.range (((sumM m h p k).getD i_ []).length)).map (fun j_ => addI (((sumM m h p k).getD i_ []).getD j_ wholeI) e p))).any fun r => r.any fun x => x.all) = false) : PCt 12 [(matP m), (ivP h), (iP k), (iP p)] (.tup [matP ((List.range ((sumM m h p k).length)).map (fun i_ => (List.range (((sumM m h p k).getD i_ []).length)).map (fun j_ => addI (((sumM m h p k).getD i_ []).getD j_ wholeI) e p))), iP 0]) := by
 have ra := ga.rows
 have n1 := ga.n1
 have n8 := ga.n8
 obtain ⟨hr1, hev, hea⟩ := (rest_pc m h n n k p ga hh (by omega) hp1 hp2).1 e hr
 have gs := sumM_ok (h := h) (p := p) ga (by omega) (by omega) k
 have rs := gs.rows
 have hrows : ∀ i, (((List.range ((sumM m h p k).length)).map (fun i_ => (List.range (((sumM m h p k).getD i_ []).length)).map (fun j_ => addI (((sumM m h p k).getD i_ []).getD j_ wholeI) e p))).getD i []).length ≤ 1000 := by
  intro i
  by_cases hi : i < (sumM m h p k).length
  ·rw [rows_getD hi]; have := gs.len_le i; simp only [List.length_map, List.length_range]; omega
  ·rw [List.getD_eq_getElem?_getD, List.getElem?_eq_none (by simpa using hi)]; exact Nat.zero_le _
 exact tr true Tryz.call12 Tryz.func12 (chain [.c (square_pc _ _ _ ga : PCt 40 [(matP m)] _), tT 24 (n = n) rfl, .c (ivValid_pc h ‹_›), tB 33 (hha : h.all = false), tF 36 ((p : Int) < 8) (by omega), tF 39 (512 < (p : Int)) (by omega),
  tF 43 ((k : Int) < 1) (by omega), tF 47 (16 < (k : Int)) (by omega), .c (hr1 : PCt 42 [(matP m), (ivP h), (iP k), (iP p)] _), .c (matId_pc m.length (by omega) (by omega)),
  .s (Sp.upto (expFamA m h e k p) 0 k (by omega) (fun x hx hltx => by
    have w1 := termM_ok (h := h) ga (show 1 ≤ p by omega) (by omega) x
    have w2 := mulM_ok w1 ga (show 1 ≤ p by omega) (show p ≤ 4096 by omega)
    have w3 := numI_valid (x + 1) (by omega)
    have w4 := divI_valid h (numI (((x + 1) : Nat) : Int)) (show 1 ≤ p by omega) (show p ≤ 4096 by omega)
    have w5 := sumM_ok (h := h) ga (show 1 ≤ p by omega) (by omega) x
    have w6 : MOk (scaleM (mulM (termM m h p x) m p) (divI h (numI (((x + 1) : Nat) : Int)) p) p) n n := scaleM_ok w2 (show 1 ≤ p by omega) (by omega)
    exact spt (chain [tT 65 ((((x + 1) : Nat) : Int) ≤ (k : Int)) (by omega), .c (matMul_pc _ _ _ _ _ _ ‹_› ‹_› (by omega) (by omega) : PCt 43 [(matP (termM m h p x)), (matP m), (iP p)] _),
     tB 76 (by decide : ((0 : Int) != 0) = false), .c (num_pc (x + 1) (by omega)), .c (ivDiv_pc h (numI (((x + 1) : Nat) : Int)) p ‹_› ‹_› (by omega) (by omega)),
     .c (matScale_pc _ _ _ _ _ ‹_› ‹_› (by omega) (by omega) : PCt 44 [(matP (mulM (termM m h p x) m p)), (ivP (divI h (numI (((x + 1) : Nat) : Int)) p)), (iP p)] _),
     .c (matAdd_pc _ _ _ _ _ ‹_› ‹_› (by omega) (by omega) : PCt 47 [(matP (sumM m h p x)), (matP (scaleM (mulM (termM m h p x) m p) (divI h (numI (((x + 1) : Nat) : Int)) p) p)), (iP p)] _),
     tB 93 (by decide : ((0 : Int) != 0) = false), r64 ((((x + 1) : Nat) : Int) + 1) (by omega)] <| .nil) (by kernel_rfl))
  (fun hx => by
    exact spt (chain [tF 65 ((((k + 1) : Nat) : Int) ≤ (k : Int)) (by omega)] <| .nil) (by kernel_rfl)) (by nofun) : LpT 11 Tryz.f12 (expFamA m h e k p 0) (.exit 0) ⟨122, true, [(13, .e (matP (sumM m h p k))), (10, .box 10 0), (3, .e (iP p))], [(10, .cells 28 (ivL e))]⟩) (chain [.o 14 (.int (by first | rfl | omega | (simp only [Nat.add_mul, Nat.one_mul]; omega)) : PV.le (.e (iP 1)) (.e (iP (((0 + 1) : Nat) : Int))))] <| .nil),
  .y 17 17 true 31 1 (matE ((List.range 0).map (vja0 m h p k e))),
  .s (Sp.upto (expFamB m h e k p) 0 ((sumM m h p k).length) (by omega) (fun x hx hltx => by
    have lx := gs.len_at (show x < n by omega)
    exact spt (chain [tT 97 ((x : Int) < (((sumM m h p k).length : Nat) : Int)) (by omega), iX ((x : Int)) ((sumM m h p k).length) (by omega),
     .y 20 20 true 28 7 (ivsE ((List.range 0).map (vja1 m h p k x e))),
     .s (Sp.upto (expFamC m h e k p x) 0 (((sumM m h p k).getD x []).length) (by omega) (fun y hy hlty => by
    have w1 := gs.val_at (show x < n by omega) (show y < n by omega)
    have h1 := one_len (addI (((sumM m h p k).getD x []).getD y wholeI) e p)
    exact spt (chain [tT 103 ((y : Int) < ((((sumM m h p k).getD x []).length : Nat) : Int)) (by omega), iX ((y : Int)) (((sumM m h p k).getD x []).length) (by omega),
     .c (ivAdd_pc (((sumM m h p k).getD x []).getD y wholeI) e p ‹_› ‹_› (by omega) (by omega)),
     .o 111 (.e (ivs1_le _) : PV.le (.e (.sl true 1 7 fun i_ j_ => (ivL (vja3 m h p k x y e)).getD (i_ * 7 + j_) (.v (.bool false)))) (.e (ivsP [(vja3 m h p k x y e)]))),
     .a (by omega : (y + [(addI (((sumM m h p k).getD x []).getD y wholeI) e p)].length) * 88 ≤ 140737488355328), r64 ((y : Int) + 1) (by omega)] <| .e (chain [.b 20 (ivs_pushR rfl rfl rfl : Bx.le (.row true 28 (y + [(vja3 m h p k x y e)].length) 7 (fun i_ j_ => if i_ < y then (ivsE ((List.range y).map (vja1 m h p k x e))) i_ j_ else (E.elf (ivsP [(vja3 m h p k x y e)])) (i_ - y) j_)) (.row true 28 (y + 1) 7 (ivsE ((List.range (y + 1)).map (vja1 m h p k x e)))))] <| .nil)) (by kernel_rfl))
  (fun hy => by
    exact spt (chain [tF 103 (((((sumM m h p k).getD x []).length : Nat) : Int) < ((((sumM m h p k).getD x []).length : Nat) : Int)) (by omega), .z 20] <| .e (chain [.o 20 (.e (ivsRow_le (by simp)) : PV.le (.e (.sl true (((sumM m h p k).getD x []).length) 7 (ivsE ((List.range (((sumM m h p k).getD x []).length)).map (fun j_ => addI (((sumM m h p k).getD x []).getD j_ wholeI) e p))))) (.e (ivsP ((List.range (((sumM m h p k).getD x []).length)).map (fun j_ => addI (((sumM m h p k).getD x []).getD j_ wholeI) e p)))))] <| .nil)) (by kernel_rfl)) (by nofun) : LpT 26 Tryz.f12 (expFamC m h e k p x 0) (.exit 4) ⟨122, true, [(20, .e (vja4 m h p k x e)), (17, .own 17), (96, .e (iP x)), (95, .e (iP (((sumM m h p k).length : Nat) : Int))), (94, .e (matP (sumM m h p k))), (10, .box 10 0), (3, .e (iP p))], [(17, .row true 31 x 1 (matE ((List.range x).map (vja0 m h p k e)))), (10, .cells 28 (ivL e))]⟩) .nil,
     .a (by omega : (x + 1) * 24 ≤ 140737488355328), r64 ((x : Int) + 1) (by omega)] <| .e (chain [.b 17 (mat_pushR rfl rfl rfl (fun j hj => by cases Nat.lt_one_iff.1 hj; rfl) : Bx.le (.row true 31 (x + 1) 1 (fun i_ j_ => if i_ < x then (matE ((List.range x).map (vja0 m h p k e))) i_ j_ else (E.elf (.sl true 1 1 fun i_ j_ => [(vja4 m h p k x e)].getD (i_ * 1 + j_) (.v (.bool false)))) (i_ - x) j_)) (.row true 31 (x + 1) 1 (matE ((List.range (x + 1)).map (vja0 m h p k e)))))] <| .nil)) (by kernel_rfl))
  (fun hx => by
    exact spt (chain [tF 97 ((((sumM m h p k).length : Nat) : Int) < (((sumM m h p k).length : Nat) : Int)) (by omega), .z 17] <| .e (chain [.o 17 (.e (matRow_le (by simp)) : PV.le (.e (.sl true ((sumM m h p k).length) 1 (matE ((List.range ((sumM m h p k).length)).map (fun i_ => (List.range (((sumM m h p k).getD i_ []).length)).map (fun j_ => addI (((sumM m h p k).getD i_ []).getD j_ wholeI) e p)))))) (.e (matP ((List.range ((sumM m h p k).length)).map (fun i_ => (List.range (((sumM m h p k).getD i_ []).length)).map (fun j_ => addI (((sumM m h p k).getD i_ []).getD j_ wholeI) e p))))))] <| .nil)) (by kernel_rfl)) (by nofun) : LpT 22 Tryz.f12 (expFamB m h e k p 0) (.exit 2) ⟨122, true, [(17, .e (matP (vja2 m h p k e)))], []⟩) .nil,
  .c (all_pc (vja2 m h p k e) (by simp; omega) hrows),
  tB 120 (hall : (((vja2 m h p k e)).any fun r => r.any fun x => x.all) = false)] <| .nil) (by kernel_rfl)
open Go.RowKit Fp Pu
theorem range_rows {s : List (List Iv)} {e : Iv} {p : Nat} : ((List.range (s.length)).map (fun i_ => (List.range ((s.getD i_ []).length)).map (fun j_ => addI ((s.getD i_ []).getD j_ wholeI) e p))) = s.map fun r => r.map fun x => addI x e p := by
 apply List.ext_getElem
 ·simp
 ·intro i h1 h2
  have hi : i < s.length := by simpa using h2
  simp only [List.getElem_map, List.getElem_range]
  rw [getD_eq_getElem hi]
  apply List.ext_getElem
  ·simp
  ·intro j h3 h4
   have hj : j < s[i].length := by simpa using h4
   simp only [List.getElem_map, List.getElem_range]
   rw [getD_eq_getElem hj]
theorem exp_pc (m : List (List Iv)) (h : Iv) (n k p : Nat) (ga : MOk m n n) (hh : h.Valid) (hha : h.all = false) (hk1 : 1 ≤ k) (hk : k ≤ 16) (hp1 : 8 ≤ p) (hp2 : p ≤ 512) :
  (∀ x, expM m h k p = some x → PCt 12 [matP m, ivP h, iP (k : Int), iP (p : Int)] (.tup [matP x, iP 0])) ∧
  (expM m h k p = none → PCt 12 [matP m, ivP h, iP (k : Int), iP (p : Int)] (.tup [.v (.slice none 0 0), iP 15])) := by
 unfold expM
 cases hr : restI m h k p with
 | none => exact ⟨fun x hx => (by cases hx), fun _ => exp_no1 m h n k p ga hh hha hk1 hk hp1 hp2 hr⟩
 | some e =>
  rw [Option.bind_some]
  simp only
  cases hall : ((sumM m h p k).map fun r => r.map fun x => addI x e p).any fun r => r.any fun x => x.all with
  | true =>
   rw [if_pos rfl]
   exact ⟨fun x hx => (by cases hx), fun _ => exp_no2 m h n k p ga hh hha hk1 hk hp1 hp2 e hr (by rw [range_rows]; exact hall)⟩
  | false =>
   rw [if_neg (by decide)]
   refine ⟨fun x hx => ?_, fun hx => (by cases hx)⟩
   cases hx
   have := exp_yes m h n k p ga hh hha hk1 hk hp1 hp2 e hr (by rw [range_rows]; exact hall)
   rwa [range_rows] at this
open Go.RowKit Fp Pu
theorem any_at {m : List (List Iv)} : anyAll m = true ↔ ∃ i, i < m.length ∧ ∃ j, j < (m.getD i []).length ∧ ((m.getD i []).getD j wholeI).all = true := by
 unfold anyAll
 rw [← range_anyM, List.any_eq_true]
 constructor
 ·rintro ⟨i, hi, h⟩
  rw [← range_any, List.any_eq_true] at h
  obtain ⟨j, hj, h⟩ := h
  exact ⟨i, List.mem_range.1 hi, j, List.mem_range.1 hj, h⟩
 ·rintro ⟨i, hi, j, hj, h⟩
  refine ⟨i, List.mem_range.2 hi, ?_⟩
  rw [← range_any, List.any_eq_true]
  exact ⟨j, List.mem_range.2 hj, h⟩
theorem addM_at {a b : List (List Iv)} {n k p i j : Nat} (ga : MOk a n k) (gb : MOk b n k) (hi : i < n) (hj : j < k) : ((addM a b p).getD i []).getD j wholeI = addI ((a.getD i []).getD j wholeI) ((b.getD i []).getD j wholeI) p := by
 rw [← wholeM_addM ga gb, wholeM_row (by rw [ga.rows]; exact hi), range_getD (by rw [ga.len_at hi]; exact hj)]
theorem addI_all {x y : Iv} {p : Nat} (h : x.all = true ∨ y.all = true) : (addI x y p).all = true := by
 unfold addI
 rw [if_pos (by rcases h with h | h <;> simp [h])]
 rfl
theorem sum_all {m : List (List Iv)} {h : Iv} {n p J : Nat} (ga : MOk m n n) (hp1 : 1 ≤ p) (hp2 : p ≤ 4096) {i j : Nat} (hi : i < n) (hj : j < n) (hb : (((termM m h p (J + 1)).getD i []).getD j wholeI).all = true) :
  ∀ d, (((sumM m h p (J + 1 + d)).getD i []).getD j wholeI).all = true
 | 0 => by
  show (((addM (sumM m h p J) (termM m h p (J + 1)) p).getD i []).getD j wholeI).all = true
  rw [addM_at (sumM_ok ga hp1 hp2 J) (termM_ok ga hp1 hp2 (J + 1)) hi hj]
  exact addI_all (.inr hb)
 | d + 1 => by
  show (((addM (sumM m h p (J + 1 + d)) (termM m h p (J + 1 + d + 1)) p).getD i []).getD j wholeI).all = true
  rw [addM_at (sumM_ok ga hp1 hp2 _) (termM_ok ga hp1 hp2 _) hi hj]
  exact addI_all (.inl (sum_all ga hp1 hp2 hi hj hb d))
theorem wholeM_rest {s : List (List Iv)} {e : Iv} {n p : Nat} (gs : MOk s n n) : wholeM n (fun _ => n) (fun i j => addI ((s.getD i []).getD j wholeI) e p) = s.map fun r => r.map fun x => addI x e p := by
 have h := range_rows (s := s) (e := e) (p := p)
 rw [← h, gs.rows]
 unfold wholeM
 apply List.map_congr_left
 intro i hi
 rw [gs.len_at (List.mem_range.1 hi)]
theorem out_all {s : List (List Iv)} {e : Iv} {n p : Nat} (gs : MOk s n n) (h : anyAll s = true) : anyAll (s.map fun r => r.map fun x => addI x e p) = true := by
 obtain ⟨i, hi, j, hj, h⟩ := any_at.1 h
 have hi' : i < n := by rw [← gs.rows]; exact hi
 have hj' : j < n := by rw [← gs.len_at hi']; exact hj
 refine any_at.2 ⟨i, by simpa using hi, j, ?_, ?_⟩
 ·rw [← wholeM_rest gs, wholeM_row hi']; simpa using hj'
 ·rw [← wholeM_rest gs, wholeM_row hi', range_getD hj']
  exact addI_all (.inl h)
theorem exp_none_of_term {m : List (List Iv)} {h : Iv} {n k p J : Nat} (ga : MOk m n n) (hp1 : 1 ≤ p) (hp2 : p ≤ 4096) (hJ : J < k) (hb : anyAll (termM m h p (J + 1)) = true) : expM m h k p = none := by
 unfold expM
 cases hr : restI m h k p with
 | none => rfl
 | some e =>
  rw [Option.bind_some]
  simp only
  have gt := termM_ok (h := h) ga hp1 hp2 (J + 1)
  obtain ⟨i, hi, j, hj, hb⟩ := any_at.1 hb
  have hi' : i < n := by rw [← gt.rows]; exact hi
  have hj' : j < n := by rw [← gt.len_at hi']; exact hj
  have gs := sumM_ok (h := h) ga hp1 hp2 k
  have hs : anyAll (sumM m h p k) = true := by
   refine any_at.2 ⟨i, by rw [gs.rows]; exact hi', j, by rw [gs.len_at hi']; exact hj', ?_⟩
   have := sum_all ga hp1 hp2 hi' hj' hb (k - (J + 1))
   rwa [show J + 1 + (k - (J + 1)) = k by omega] at this
  have hx := out_all (e := e) (p := p) gs hs
  unfold anyAll at hx
  rw [if_pos hx]
theorem r32Exp_pc (m : List (List Iv)) (h : Iv) (n k p : Nat) (ga : MOk m n n) (hh : h.Valid) (hha : h.all = false) (hk1 : 1 ≤ k) (hk : k ≤ 16) (hp1 : 8 ≤ p) (hp2 : p ≤ 512) :
  (∀ x, expM m h k p = some x → PCt 19 [matP m, ivP h, iP (k : Int), iP (p : Int)] (.tup [matP x, iP 0])) ∧
  (expM m h k p = none → PCt 19 [matP m, ivP h, iP (k : Int), iP (p : Int)] (.tup [.v (.slice none 0 0), iP 15])) := by
 by_cases hterm : ∃ J, J < k ∧ anyAll (termM m h p (J + 1)) = true
 ·obtain ⟨J, hJ, hb, hlow⟩ := least_true (p := fun J => anyAll (termM m h p (J + 1))) hterm
  have hn := exp_none_of_term ga (show 1 ≤ p by omega) (by omega) hJ hb
  exact ⟨fun x hx => (by rw [hn] at hx; cases hx), fun _ => r32Exp_A m h n k p ga hh hha hk1 hk hp1 hp2 J hJ hlow hb⟩
 ·have hlow : ∀ x, x < k → anyAll (termM m h p (x + 1)) = false := fun x hx => by
   cases hq : anyAll (termM m h p (x + 1)) with
   | false => rfl
   | true => exact absurd ⟨x, hx, hq⟩ hterm
  have gs := sumM_ok (h := h) (p := p) ga (by omega) (by omega) k
  cases hn : normM m p with
  | none =>
   have he : expM m h k p = none := by unfold expM restI; rw [hn]; rfl
   exact ⟨fun x hx => (by rw [he] at hx; cases hx), fun _ => r32Exp_B1 m h n k p ga hh hha hk1 hk hp1 hp2 hlow hn⟩
  | some d =>
   obtain ⟨hpn, hd⟩ := r7norm_yes m n n p ga hp1 hp2 d hn
   by_cases hu : (mulI (absI h) (pointI d) p).all = true
   ·have he : expM m h k p = none := by unfold expM restI; rw [hn, Option.bind_some]; simp only; rw [if_pos (by rw [hu]; rfl)]; rfl
    exact ⟨fun x hx => (by rw [he] at hx; cases hx), fun _ => r32Exp_B2 m h n k p ga hh hha hk1 hk hp1 hp2 hlow d hpn hd hu⟩
   ·replace hu : (mulI (absI h) (pointI d) p).all = false := by simpa using hu
    by_cases hc : 0 ≤ cmpD (mulI (absI h) (pointI d) p).hi (intD (((k + 2) : Nat) : Int))
    ·have he : expM m h k p = none := by unfold expM restI; rw [hn, Option.bind_some]; simp only; rw [if_pos (by rw [hu, decide_eq_true hc]; rfl)]; rfl
     exact ⟨fun x hx => (by rw [he] at hx; cases hx), fun _ => r32Exp_B3 m h n k p ga hh hha hk1 hk hp1 hp2 hlow d hpn hd hu hc⟩
    ·by_cases hE : (divI (powI (mulI (absI h) (pointI d) p) p (k + 1)) (subI (numI 1) (divI (mulI (absI h) (pointI d) p) (numI (((k + 2) : Nat) : Int)) p) p) p).all = true
     ·have he : expM m h k p = none := by
       unfold expM restI; rw [hn, Option.bind_some]; simp only
       rw [if_neg (by rw [hu, decide_eq_false hc]; decide), if_pos hE]; rfl
      exact ⟨fun x hx => (by rw [he] at hx; cases hx), fun _ => r32Exp_B4 m h n k p ga hh hha hk1 hk hp1 hp2 hlow d hpn hd hu hc hE⟩
     ·replace hE : (divI (powI (mulI (absI h) (pointI d) p) p (k + 1)) (subI (numI 1) (divI (mulI (absI h) (pointI d) p) (numI (((k + 2) : Nat) : Int)) p) p) p).all = false := by simpa using hE
      have hr : restI m h k p = some (Iv.mk (negD (divI (powI (mulI (absI h) (pointI d) p) p (k + 1)) (subI (numI 1) (divI (mulI (absI h) (pointI d) p) (numI (((k + 2) : Nat) : Int)) p) p) p).hi) (divI (powI (mulI (absI h) (pointI d) p) p (k + 1)) (subI (numI 1) (divI (mulI (absI h) (pointI d) p) (numI (((k + 2) : Nat) : Int)) p) p) p).hi false) := by
       unfold restI; rw [hn, Option.bind_some]; simp only
       rw [if_neg (by rw [hu, decide_eq_false hc]; decide), if_neg (by rw [hE]; decide)]
      have hle : cmpD (negD (divI (powI (mulI (absI h) (pointI d) p) p (k + 1)) (subI (numI 1) (divI (mulI (absI h) (pointI d) p) (numI (((k + 2) : Nat) : Int)) p) p) p).hi) (divI (powI (mulI (absI h) (pointI d) p) p (k + 1)) (subI (numI 1) (divI (mulI (absI h) (pointI d) p) (numI (((k + 2) : Nat) : Int)) p) p) p).hi ≤ 0 := by
       obtain ⟨_, hv, _⟩ := (rest_pc m h n n k p ga hh (by omega) hp1 hp2).1 _ hr
       rcases hv with ⟨q, _⟩ | ⟨_, _, _, q⟩
       ·cases q
       ·exact q
      have hW : (wholeM m.length (fun _ => m.length) (fun i j => addI (((sumM m h p k).getD i []).getD j wholeI) (Iv.mk (negD (divI (powI (mulI (absI h) (pointI d) p) p (k + 1)) (subI (numI 1) (divI (mulI (absI h) (pointI d) p) (numI (((k + 2) : Nat) : Int)) p) p) p).hi) (divI (powI (mulI (absI h) (pointI d) p) p (k + 1)) (subI (numI 1) (divI (mulI (absI h) (pointI d) p) (numI (((k + 2) : Nat) : Int)) p) p) p).hi false) p)) = (sumM m h p k).map fun r => r.map fun x => addI x (Iv.mk (negD (divI (powI (mulI (absI h) (pointI d) p) p (k + 1)) (subI (numI 1) (divI (mulI (absI h) (pointI d) p) (numI (((k + 2) : Nat) : Int)) p) p) p).hi) (divI (powI (mulI (absI h) (pointI d) p) p (k + 1)) (subI (numI 1) (divI (mulI (absI h) (pointI d) p) (numI (((k + 2) : Nat) : Int)) p) p) p).hi false) p := by rw [ga.rows]; exact wholeM_rest gs
      cases hall : anyAll (wholeM m.length (fun _ => m.length) (fun i j => addI (((sumM m h p k).getD i []).getD j wholeI) (Iv.mk (negD (divI (powI (mulI (absI h) (pointI d) p) p (k + 1)) (subI (numI 1) (divI (mulI (absI h) (pointI d) p) (numI (((k + 2) : Nat) : Int)) p) p) p).hi) (divI (powI (mulI (absI h) (pointI d) p) p (k + 1)) (subI (numI 1) (divI (mulI (absI h) (pointI d) p) (numI (((k + 2) : Nat) : Int)) p) p) p).hi false) p)) with
      | true =>
       have he : expM m h k p = none := by
        unfold expM; rw [hr, Option.bind_some]; simp only
        have hx : anyAll ((sumM m h p k).map fun r => r.map fun x => addI x (Iv.mk (negD (divI (powI (mulI (absI h) (pointI d) p) p (k + 1)) (subI (numI 1) (divI (mulI (absI h) (pointI d) p) (numI (((k + 2) : Nat) : Int)) p) p) p).hi) (divI (powI (mulI (absI h) (pointI d) p) p (k + 1)) (subI (numI 1) (divI (mulI (absI h) (pointI d) p) (numI (((k + 2) : Nat) : Int)) p) p) p).hi false) p) = true := by rw [← hW]; exact hall
        unfold anyAll at hx
        rw [if_pos hx]
       exact ⟨fun x hx => (by rw [he] at hx; cases hx), fun _ => r32Exp_C m h n k p ga hh hha hk1 hk hp1 hp2 hlow d hpn hd hu hc hE hle hall⟩
      | false =>
       have he : expM m h k p = some (wholeM m.length (fun _ => m.length) (fun i j => addI (((sumM m h p k).getD i []).getD j wholeI) (Iv.mk (negD (divI (powI (mulI (absI h) (pointI d) p) p (k + 1)) (subI (numI 1) (divI (mulI (absI h) (pointI d) p) (numI (((k + 2) : Nat) : Int)) p) p) p).hi) (divI (powI (mulI (absI h) (pointI d) p) p (k + 1)) (subI (numI 1) (divI (mulI (absI h) (pointI d) p) (numI (((k + 2) : Nat) : Int)) p) p) p).hi false) p)) := by
        unfold expM; rw [hr, Option.bind_some]; simp only
        have hx : ¬ anyAll ((sumM m h p k).map fun r => r.map fun x => addI x (Iv.mk (negD (divI (powI (mulI (absI h) (pointI d) p) p (k + 1)) (subI (numI 1) (divI (mulI (absI h) (pointI d) p) (numI (((k + 2) : Nat) : Int)) p) p) p).hi) (divI (powI (mulI (absI h) (pointI d) p) p (k + 1)) (subI (numI 1) (divI (mulI (absI h) (pointI d) p) (numI (((k + 2) : Nat) : Int)) p) p) p).hi false) p) = true := by rw [← hW, hall]; decide
        unfold anyAll at hx
        rw [if_neg hx, hW]
       refine ⟨fun x hx => ?_, fun hx => (by rw [he] at hx; cases hx)⟩
       rw [he] at hx
       cases hx
       exact r32Exp_D m h n k p ga hh hha hk1 hk hp1 hp2 hlow d hpn hd hu hc hE hle hall
open Go.RowKit Fp Pu
def eqIv_F (r : List Iv) (g : FuncId) (cap : List E) (i : Nat) : PS := ⟨32, false, [(17, .e (iP i)), (16, .e (iP r.length)), (15, .e (ivsP r)), (1, .e (ivsP r)), (2, .e (.fn g cap))], []⟩
def eqRow_F (m : List (List Iv)) (g : FuncId) (cap : List E) (i : Nat) : PS := ⟨32, false, [(17, .e (iP i)), (16, .e (iP m.length)), (15, .e (matP m)), (1, .e (matP m)), (2, .e (.fn g cap))], []⟩
theorem lawD_pc (n e : Int) (h1 : n.natAbs < 4294967296) (h2 : -1000 ≤ e) (h3 : e ≤ 1000) : PCt 21 [(iP n), (iP e)] (dyP (canonZ n e)) := by
 have hrg : inRange (canon (Dy.neg (intD n)) (Dy.m (intD n)) ((Dy.e (intD n)) + e)) := by rw [canon_again]; exact (canonZ_valid h1 h2 h3).range
 exact tr true Tryz.call21 Tryz.func21 (chain [.c (refIntZ_pc _ (by omega) : PCt 70 [(iP n)] _), .c (refScale_pc _ _ (intZ_valid (by omega)) (by omega) (by omega) hrg : PCt 79 [(dyP (intD n)), (iP e)] _)] <| rQ (dyP (canon (Dy.neg (intD n)) (Dy.m (intD n)) ((Dy.e (intD n)) + e))) (dyP (canonZ n e)) (by rw [canon_again])) (by kernel_rfl)
theorem lawPoint_pc (n e : Int) (h1 : n.natAbs < 4294967296) (h2 : -1000 ≤ e) (h3 : e ≤ 1000) : PCt 10 [(iP n), (iP e)] (ivP (pointI (canonZ n e))) := by
 have hv := canonZ_valid h1 h2 h3
 exact tr true Tryz.call10 Tryz.func10 (chain [.c (lawD_pc n e (by omega) (by omega) (by omega)), .c (r5Point_pc (canonZ n e))] <| .nil) (by kernel_rfl)
def insI (x y : Iv) : Bool := y.all || (!x.all && (decide (cmpD y.lo x.lo ≤ 0) && decide (cmpD x.hi y.hi ≤ 0)))
theorem ivInside_pc (x y : Iv) (hx : x.Valid) (hy : y.Valid) : PCt 38 [(ivP x), (ivP y)] (bP (insI x y)) := by
 obtain ⟨v1, v2⟩ := hx.ends
 obtain ⟨v3, v4⟩ := hy.ends
 exact tr true Tryz.call38 Tryz.func38 (chain [.c (ivValid_pc x ‹_›), .c (ivValid_pc y ‹_›)] <| .w (y.all = true)
  (fun k1 => chain [tB 14 (k1)] <| rQ (bP true) (bP (insI x y)) (by unfold insI; simp [k1]))
  (fun k1 => chain [tB 14 (Bool.eq_false_iff.2 k1)] <| .w (x.all = true)
   (fun k2 => chain [tB 17 (k2)] <| rQ (bP false) (bP (insI x y)) (by unfold insI; simp [k1, k2]))
   (fun k2 => chain [tB 17 (Bool.eq_false_iff.2 k2), .c (dyCmp_pc _ _ ‹_› ‹_› : PCt 82 [(dyP y.lo), (dyP x.lo)] _)] <| .w ((cmpD y.lo x.lo) ≤ 0)
    (fun k3 => chain [tB 25 (decide_eq_true k3), .c (dyCmp_pc _ _ ‹_› ‹_› : PCt 82 [(dyP x.hi), (dyP y.hi)] _)] <| rQ (bP (decide ((cmpD x.hi y.hi) ≤ 0))) (bP (insI x y)) (by unfold insI; simp [k1, k2, k3]))
    (fun k3 => chain [tB 25 (decide_eq_false k3)] <| rQ (bP false) (bP (insI x y)) (by unfold insI; simp [k1, k2, k3]))))) (by kernel_rfl)
def longB (d : RD) : Bool := decide (20 < d.L.length) || (decide (300 < d.e) || decide (d.e < -300))
def shortB (l : List RI) : Bool := decide (l.length ≤ 8) && !((List.range (l.length)).any fun j_ => longB (l.getD j_ rwhole).lo || longB (l.getD j_ rwhole).hi)
def smallB (m : List (List RI)) : Bool := decide (m.length ≤ 5) && !((List.range (m.length)).any fun i_ => !shortB (m.getD i_ []))
theorem long_pc (d : RD) : PCt 57 [(.agg [(bP d.neg), (slP d.L), (iP d.e)])] (bP (longB d)) := by
 exact tr true Tryz.call57 Tryz.func57 (.w (20 < (d.L.length : Int))
  (fun k1 => chain [tB 6 (decide_eq_true k1)] <| rR (bP (longB d)) (by
      exact .of_eq (by
       have : longB d = true := by unfold longB; simp [show 20 < d.L.length from by omega]
       rw [this]) : E.le (bP true) (bP (longB d))))
  (fun k1 => chain [tB 6 (decide_eq_false k1)] <| .w (300 < d.e)
   (fun k2 => chain [tB 10 (decide_eq_true k2)] <| rR (bP (longB d)) (by
      exact .of_eq (by
       have : longB d = true := by unfold longB; simp [show ¬ 20 < d.L.length from by omega, k2]
       rw [this]) : E.le (bP true) (bP (longB d))))
   (fun k2 => chain [tB 10 (decide_eq_false k2)] <| rR (bP (longB d)) (by
      exact .of_eq (by
       have : longB d = (decide (d.e < (-300))) := by unfold longB; simp [show ¬ 20 < d.L.length from by omega, k2]
       rw [this]) : E.le (bP (decide (d.e < (-300)))) (bP (longB d)))))) (by kernel_rfl)
theorem short1_pc (x : RI) : PCt 56 [(riP x)] (bP (longB x.lo || longB x.hi)) := by
 exact tr true Tryz.call56 Tryz.func56 (chain [.c (long_pc _ : PCt 57 [(rdP x.lo)] _)] <| .w (longB x.lo = true)
  (fun k1 => chain [tB 5 (k1)] <| rQ (bP true) (bP (longB x.lo || longB x.hi)) (by simp [k1]))
  (fun k1 => chain [tB 5 (Bool.eq_false_iff.2 k1), .c (long_pc _ : PCt 57 [(rdP x.hi)] _)] <| rQ (bP (longB x.hi)) (bP (longB x.lo || longB x.hi)) (by simp [k1]))) (by kernel_rfl)
theorem short_pc (r : List RI) : PCt 18 [(risP r)] (bP (shortB r)) := by
 exact tr true Tryz.call18 Tryz.func18 (.w ((r.length : Int) ≤ 8)
  (fun k1 => chain [tB 5 (decide_eq_true k1), .c (iv_any true _ _ 56 [] (fun j_ => longB (r.getD j_ rwhole).lo || longB (r.getD j_ rwhole).hi) (fun j hj => short1_pc _) (by omega) : PCt 55 [(risP r), (.fn 56 [])] _)] <| rQ (bP (!((List.range (r.length)).any fun j_ => longB (r.getD j_ rwhole).lo || longB (r.getD j_ rwhole).hi))) (bP (shortB r)) (by unfold shortB; simp [show r.length ≤ 8 from by omega]))
  (fun k1 => chain [tB 5 (decide_eq_false k1)] <| rQ (bP false) (bP (shortB r)) (by unfold shortB; simp [show ¬ r.length ≤ 8 from by omega]))) (by kernel_rfl)
theorem small1_pc (r : List RI) : PCt 54 [(risP r)] (bP (!shortB r)) := by
 exact tr true Tryz.call54 Tryz.func54 (chain [.c (short_pc r)] <| .nil) (by kernel_rfl)
theorem small_pc (m : List (List RI)) : PCt 17 [(rmatP m)] (bP (smallB m)) := by
 exact tr true Tryz.call17 Tryz.func17 (.w ((m.length : Int) ≤ 5)
  (fun k1 => chain [tB 5 (decide_eq_true k1), .c (row_any true _ _ 54 [] (fun i_ => !shortB (m.getD i_ [])) (fun i hi => small1_pc _) (by omega) : PCt 53 [(rmatP m), (.fn 54 [])] _)] <| rQ (bP (!((List.range (m.length)).any fun i_ => !shortB (m.getD i_ [])))) (bP (smallB m)) (by unfold smallB; simp [show m.length ≤ 5 from by omega]))
  (fun k1 => chain [tB 5 (decide_eq_false k1)] <| rQ (bP false) (bP (smallB m)) (by unfold smallB; simp [show ¬ m.length ≤ 5 from by omega]))) (by kernel_rfl)
theorem eqIv_same (r : List Iv) (g : FuncId) (cap : List E) (hl : r.length ≤ 1000000) (hp : ∀ i, i < r.length → PCt g ((ivP (r.getD i wholeI)) :: (ivP (r.getD i wholeI)) :: cap) (bP true)) : PCt 76 [(ivsP r), (ivsP r), (.fn g cap)] (bP true) := by
 exact tr false Tryz.call76 Tryz.func76 (chain [tB 14 (natNe_false rfl : ((r.length : Int) != (r.length : Int)) = false),
  .s (Sp.upto (eqIv_F r g cap) 0 r.length (by omega) (fun i hi hlti => by
    exact spt (chain [tT 18 ((i : Int) < (r.length : Int)) (by omega), iX ((i : Int)) (r.length) (by omega), iX ((i : Int)) (r.length) (by omega),
     .c (hp i (by omega) : PCt g ((ivP (r.getD i wholeI)) :: (ivP (r.getD i wholeI)) :: cap) _), r64 ((i : Int) + 1) (by omega)] <| .nil) (by kernel_rfl))
  (fun hi => by
    exact spt (chain [tF 18 ((r.length : Int) < (r.length : Int)) (by omega)] <| .nil) (by kernel_rfl)) (by nofun) : LpT 4 Tryz.f76 (eqIv_F r g cap 0) (.exit 0) ⟨32, false, [], []⟩) .nil] <| .nil) (by kernel_rfl)
theorem eqRow_same (m : List (List Iv)) (g : FuncId) (cap : List E) (hl : m.length ≤ 1000000) (hp : ∀ i, i < m.length → PCt g ((ivsP (m.getD i [])) :: (ivsP (m.getD i [])) :: cap) (bP true)) : PCt 74 [(matP m), (matP m), (.fn g cap)] (bP true) := by
 exact tr false Tryz.call74 Tryz.func74 (chain [tB 14 (natNe_false rfl : ((m.length : Int) != (m.length : Int)) = false),
  .s (Sp.upto (eqRow_F m g cap) 0 m.length (by omega) (fun i hi hlti => by
    exact spt (chain [tT 18 ((i : Int) < (m.length : Int)) (by omega), iX ((i : Int)) (m.length) (by omega), iX ((i : Int)) (m.length) (by omega),
     .c (hp i (by omega) : PCt g ((ivsP (m.getD i [])) :: (ivsP (m.getD i [])) :: cap) _), r64 ((i : Int) + 1) (by omega)] <| .nil) (by kernel_rfl))
  (fun hi => by
    exact spt (chain [tF 18 ((m.length : Int) < (m.length : Int)) (by omega)] <| .nil) (by kernel_rfl)) (by nofun) : LpT 4 Tryz.f74 (eqRow_F m g cap 0) (.exit 0) ⟨32, false, [], []⟩) .nil] <| .nil) (by kernel_rfl)
theorem r5Equal_same (x : Iv) (hx : x.Valid) : PCt 78 [(ivP x), (ivP x)] (bP true) := by
 have l1 := hx.ends.1.limbs
 have l2 := hx.ends.2.limbs
 exact tr true Tryz.call78 Tryz.func78 (chain [tB 9 (beq_self_eq_true _ : (x.all == x.all) = true), .c (refEqual_pc _ _ true (iff_of_true rfl rfl) (by omega) (by omega) : PCt 158 [(dyP x.lo), (dyP x.lo)] _),
  .c (refEqual_pc _ _ true (iff_of_true rfl rfl) (by omega) (by omega) : PCt 158 [(dyP x.hi), (dyP x.hi)] _)] <| .nil) (by kernel_rfl)
theorem equal11_same (x : Iv) (hx : x.Valid) : PCt 77 [(ivP x), (ivP x)] (bP true) := by
 exact tr true Tryz.call77 Tryz.func77 (.w (x.all = true)
  (fun k1 => chain [tB 6 (k1), tB 9 (k1)] <| .nil)
  (fun k1 => chain [tB 6 (Bool.eq_false_iff.2 k1), .c (r5Equal_same x ‹_›)] <| .nil)) (by kernel_rfl)
theorem equal1_same (r : List Iv) (hl : r.length ≤ 1000) (hv : ∀ j, j < r.length → (r.getD j wholeI).Valid) : PCt 75 [(ivsP r), (ivsP r)] (bP true) := by
 exact tr true Tryz.call75 Tryz.func75 (chain [.c (eqIv_same r 77 [] (by omega) (fun j hj => equal11_same _ (hv j hj)))] <| .nil) (by kernel_rfl)
theorem equal_same (m : List (List Iv)) (hl : m.length ≤ 1000) (hr : ∀ i, i < m.length → (m.getD i []).length ≤ 1000) (hv : ∀ i, i < m.length → ∀ j, j < (m.getD i []).length → ((m.getD i []).getD j wholeI).Valid) : PCt 20 [(matP m), (matP m)] (bP true) := by
 exact tr true Tryz.call20 Tryz.func20 (chain [.c (eqRow_same m 75 [] (by omega) (fun i hi => equal1_same _ (hr i hi) (hv i hi)))] <| .nil) (by kernel_rfl)
open Go.RowKit Fp Pu
theorem expM_ok {m x : List (List Iv)} {h : Iv} {n k p : Nat} (ga : MOk m n n) (hh : h.Valid) (hk : k ≤ 1000) (hp1 : 8 ≤ p) (hp2 : p ≤ 512) (hx : expM m h k p = some x) : MOk x n n := by
 unfold expM at hx
 cases hr : restI m h k p with
 | none => rw [hr] at hx; cases hx
 | some e =>
  rw [hr, Option.bind_some] at hx
  simp only at hx
  obtain ⟨_, hev, _⟩ := (rest_pc m h n n k p ga hh hk hp1 hp2).1 e hr
  have gs := sumM_ok (h := h) (p := p) ga (by omega) (by omega) k
  split at hx
  ·cases hx
  ·cases hx
   refine ⟨by rw [List.length_map]; exact gs.rows, fun r hr => ?_, fun r hr y hy => ?_, gs.n1, gs.n8, gs.k1, gs.k8⟩
   ·obtain ⟨r', h1, rfl⟩ := List.mem_map.1 hr
    rw [List.length_map]; exact gs.row r' h1
   ·obtain ⟨r', h1, rfl⟩ := List.mem_map.1 hr
    obtain ⟨y', h2, rfl⟩ := List.mem_map.1 hy
    exact addI_valid (gs.ok r' h1 y' h2) hev (by omega) (by omega)
theorem raw_lists {m : List (List RI)} (r : ROk m) (g : MGood m) : ∃ m', m = rawsM m' ∧ MOk m' m.length (m.getD 0 []).length := by
 have hok : ∀ q, q ∈ m → ∀ x, x ∈ q → x.Ok := by
  intro q hq x hx
  obtain ⟨i, hi, rfl⟩ := List.mem_iff_getElem.1 hq
  obtain ⟨j, hj, rfl⟩ := List.mem_iff_getElem.1 hx
  have := r.ok i hi j (by rw [getD_eq_getElem hi]; exact hj)
  rw [getD_eq_getElem hi, getD_eq_getElem hj] at this
  exact this
 refine ⟨m.map fun q => q.map RI.iv, ?_, ?_, ?_, ?_, r.n1, r.n8, r.k1, r.k8⟩
 ·unfold rawsM rawsI
  rw [List.map_map]
  symm
  refine (List.map_congr_left fun q hq => ?_).trans (List.map_id _)
  show (q.map RI.iv).map Iv.raw = id q
  rw [List.map_map]
  exact (List.map_congr_left fun x hx => (hok q hq x hx).eq (g q hq x hx)).trans (List.map_id _)
 ·rw [List.length_map]
 ·intro q hq
  obtain ⟨q', h1, rfl⟩ := List.mem_map.1 hq
  rw [List.length_map]
  obtain ⟨i, hi, rfl⟩ := List.mem_iff_getElem.1 h1
  have := r.row i hi
  rw [getD_eq_getElem hi] at this
  exact this
 ·intro q hq x hx
  obtain ⟨q', h1, rfl⟩ := List.mem_map.1 hq
  obtain ⟨x', h2, rfl⟩ := List.mem_map.1 hx
  exact (hok q' h1 x' h2).valid
theorem mok_at {m : List (List Iv)} {n k : Nat} (g : MOk m n k) (i j : Nat) : ((m.getD i []).getD j wholeI).Valid := by
 by_cases hi : i < m.length
 ·rw [getD_eq_getElem (d := []) hi]
  by_cases hj : j < m[i].length
  ·rw [getD_eq_getElem hj]
   exact g.ok _ (List.getElem_mem hi) _ (List.getElem_mem hj)
  ·rw [List.getD_eq_getElem?_getD, List.getElem?_eq_none (by omega)]; exact wholeI_valid
 ·rw [List.getD_eq_getElem?_getD (l := m), List.getElem?_eq_none (by omega)]
  exact wholeI_valid
open Go.RowKit Fp Pu
noncomputable def squareB (m : List (List RI)) : Bool := matOkB m && decide (m.length = (m.getD 0 []).length)
theorem natEq_dec (a b : Nat) : ((a : Int) == (b : Int)) = decide (a = b) := by
 by_cases h : a = b
 ·rw [decide_eq_true h]; exact natEq_true h
 ·rw [decide_eq_false h]; exact natEq_false h
theorem varSquareR_pc (m : List (List RI)) (g : MGood m) (hl : m.length ≤ 1000000) (hrows : ∀ i, (m.getD i []).length ≤ 1000000) : PCt 40 [(rmatP m)] (bP (squareB m)) := by
 have hr0 := hrows 0
 exact tr true Tryz.call40 Tryz.func40 (chain [.c (matValidR_pc m g hl hrows)] <| .w (matOkB m = true)
  (fun k1 => by
   have hm1 := (matOkB_true.1 k1).n1
   exact chain [tB 4 (k1), iX (0) (m.length) (by omega)] <| rQ (bP ((m.length : Int) == (((m.getD 0 []).length : Nat) : Int))) (bP (squareB m)) (by unfold squareB; rw [k1, Bool.true_and, natEq_dec]))
  (fun k1 => chain [tB 4 (Bool.eq_false_iff.2 k1)] <| rQ (bP false) (bP (squareB m)) (by unfold squareB; simp [k1]))) (by kernel_rfl)
theorem exp_arg (m : List (List RI)) (g : MGood m) (hl : m.length ≤ 1000000) (hrows : ∀ i, (m.getD i []).length ≤ 1000000) (h : RI) (gh : h.Good) (k p : Int) (hc : caseB m h = false) : PCt 12 [(rmatP m), (riP h), (iP k), (iP p)] (.tup [.v (.slice none 0 0), iP 1]) := by
 exact tr true Tryz.call12 Tryz.func12 (chain [.c (varSquareR_pc m g hl hrows)] <| .w (squareB m = true)
  (fun k1 => chain [tB 24 (k1), .c (ivValidR_pc _ gh : PCt 41 [(riP h)] _)] <| .w (okB h = true)
   (fun k2 => chain [tB 28 (k2)] <| .w (h.all = true)
    (fun k3 => chain [tB 33 (k3)] <| .nil)
    (fun k3 => .x (by exact absurd hc (by rw [show caseB m h = (squareB m && okB h && !h.all) from rfl]; simp [k1, k2, k3]))))
   (fun k2 => chain [tB 28 (Bool.eq_false_iff.2 k2)] <| .nil))
  (fun k1 => chain [tB 24 (Bool.eq_false_iff.2 k1)] <| .nil)) (by kernel_rfl)
theorem exp_range (m : List (List RI)) (g : MGood m) (hl : m.length ≤ 1000000) (hrows : ∀ i, (m.getD i []).length ≤ 1000000) (h : RI) (gh : h.Good) (k p : Int) (hc : caseB m h = true) (hkp : ¬ (8 ≤ p ∧ p ≤ 512 ∧ 1 ≤ k ∧ k ≤ 16)) : PCt 12 [(rmatP m), (riP h), (iP k), (iP p)] (.tup [.v (.slice none 0 0), iP 2]) := by
 have hc : (squareB m && okB h && !h.all) = true := hc
 have c1 : squareB m = true := by revert hc; cases squareB m <;> simp
 have c2 : okB h = true := by revert hc; cases okB h <;> simp
 have c3 : h.all = false := by revert hc; cases h.all <;> simp
 exact tr true Tryz.call12 Tryz.func12 (chain [.c (varSquareR_pc m g hl hrows), tB 24 (c1 : (squareB m) = true), .c (ivValidR_pc _ gh : PCt 41 [(riP h)] _), tB 28 (c2 : (okB h) = true), tB 33 (c3 : h.all = false)] <| .w (p < 8)
  (fun k1 => chain [tB 36 (decide_eq_true k1)] <| .nil)
  (fun k1 => chain [tB 36 (decide_eq_false k1)] <| .w (512 < p)
   (fun k2 => chain [tB 39 (decide_eq_true k2)] <| .nil)
   (fun k2 => chain [tB 39 (decide_eq_false k2)] <| .w (k < 1)
    (fun k3 => chain [tB 43 (decide_eq_true k3)] <| .nil)
    (fun k3 => chain [tB 43 (decide_eq_false k3)] <| .w (16 < k)
     (fun k4 => chain [tB 47 (decide_eq_true k4)] <| .nil)
     (fun k4 => .x (by exact absurd (show 8 ≤ p ∧ p ≤ 512 ∧ 1 ≤ k ∧ k ≤ 16 by omega) hkp)))))) (by kernel_rfl)
open Go.RowKit Fp Pu
def awM : List (List Iv) := [[(pointI (canonZ 0 0)), (pointI (canonZ 1 0))], [(pointI (canonZ 0 0)), (pointI (canonZ 0 0))]]
def awH : Iv := (pointI (canonZ 1 (-1)))
def awX : List (List Iv) := [[⟨⟨false, 562735496296199119, -59⟩, ⟨false, 590186008310647857, -59⟩, false⟩, ⟨⟨false, 274505120144487375, -59⟩, ⟨false, 301955632158936113, -59⟩, false⟩], [⟨⟨true, 439208192231179801, -64⟩, ⟨false, 439208192231179801, -64⟩, false⟩, ⟨⟨false, 562735496296199119, -59⟩, ⟨false, 590186008310647857, -59⟩, false⟩]]
theorem awM_ok : MOk awM 2 2 where
 rows := rfl
 row := by intro r hr; simp only [awM, List.mem_cons, List.not_mem_nil, or_false] at hr; rcases hr with rfl | rfl <;> rfl
 ok := by
  intro r hr x hx
  simp only [awM, List.mem_cons, List.not_mem_nil, or_false] at hr
  rcases hr with rfl | rfl <;> simp only [List.mem_cons, List.not_mem_nil, or_false] at hx <;> rcases hx with rfl | rfl <;> exact pointI_valid (canonZ_valid (by decide) (by decide) (by decide))
 n1 := by decide
 n8 := by decide
 k1 := by decide
 k8 := by decide
theorem awH_ok : awH.Valid := pointI_valid (canonZ_valid (by decide) (by decide) (by decide))
theorem awX_is : expM awM awH 2 60 = some awX := by kernel_rfl
theorem awExp_pc : PCt 12 [matP awM, ivP awH, iP 2, iP 60] (.tup [matP awX, iP 0]) :=
 (exp_pc awM awH 2 2 60 awM_ok awH_ok rfl (by decide) (by decide) (by decide) (by decide)).1 awX awX_is
theorem awX_ok : MOk awX 2 2 := expM_ok awM_ok awH_ok (by decide) (by decide) (by decide) awX_is
def awXx : Iv := (awX.getD 0 []).getD 1 wholeI
theorem awXx_ok : awXx.Valid := mok_at awX_ok 0 1
theorem awCmp_pc : PCt 37 [.agg [iP 11, iP 21], dyP awXx.hi] (.tup [iP (ratCmp 11 21 awXx.hi), iP 0]) :=
 ratCompare_pc 11 21 awXx.hi awXx_ok.ends.2 (by decide) (by decide) (by decide) (by decide) (by decide)
theorem mat2_le (a b : List Iv) : E.le (.sl true 2 1 fun i_ j_ => [(ivsP a), (ivsP b)].getD (i_ * 1 + j_) (.v (.bool false))) (matP [a, b]) := .sl fun i j hi hj => by
 obtain rfl : j = 0 := by omega
 obtain rfl | rfl : i = 0 ∨ i = 1 := by omega
 ·exact ⟨.refl _, rfl⟩
 ·exact ⟨.refl _, rfl⟩
theorem ivEx_ok : (Iv.mk (canonZ 120 (-8)) (canonZ 135 (-8)) false).Valid := .inr ⟨rfl, canonZ_valid (n := 120) (e := -8) (by decide) (by decide) (by decide), canonZ_valid (n := 135) (e := -8) (by decide) (by decide) (by decide), by decide +kernel⟩
theorem insI_ex : insI awXx (Iv.mk (canonZ 120 (-8)) (canonZ 135 (-8)) false) = true := by kernel_rfl
set_option maxHeartbeats 1000000 in
theorem awake_pc  : PCt 9 [] (bP true) := by
 have l1 : awX.length = 2 := rfl
 have l2 : (awX.getD 0 []).length = 2 := rfl
 exact tr true Tryz.call9 Tryz.func9 (chain [.c (lawPoint_pc 0 0 (by omega) (by omega) (by omega)), .c (lawPoint_pc 1 0 (by omega) (by omega) (by omega)),
  .o 8 (.e (ivs2_le _ _) : PV.le (.e (.sl true 2 7 fun i_ j_ => (ivL (pointI (canonZ 0 0)) ++ ivL (pointI (canonZ 1 0))).getD (i_ * 7 + j_) (.v (.bool false)))) (.e (ivsP [(pointI (canonZ 0 0)), (pointI (canonZ 1 0))]))),
  .c (lawPoint_pc 0 0 (by omega) (by omega) (by omega)), .c (lawPoint_pc 0 0 (by omega) (by omega) (by omega)),
  .o 11 (.e (ivs2_le _ _) : PV.le (.e (.sl true 2 7 fun i_ j_ => (ivL (pointI (canonZ 0 0)) ++ ivL (pointI (canonZ 0 0))).getD (i_ * 7 + j_) (.v (.bool false)))) (.e (ivsP [(pointI (canonZ 0 0)), (pointI (canonZ 0 0))]))),
  .o 12 (.e (mat2_le _ _) : PV.le (.e (.sl true 2 1 fun i_ j_ => [(ivsP [(pointI (canonZ 0 0)), (pointI (canonZ 1 0))]), (ivsP [(pointI (canonZ 0 0)), (pointI (canonZ 0 0))])].getD (i_ * 1 + j_) (.v (.bool false)))) (.e (matP awM))),
  .c (lawPoint_pc 1 (-1) (by omega) (by omega) (by omega)), .c (awExp_pc : PCt 12 [(matP awM), (ivP (pointI (canonZ 1 (-1)))), (iP 2), (iP 60)] _), tB 20 (by decide : ((0 : Int) != 0) = false),
  tB 24 (by kernel_rfl : ((awX.length : Int) != 2) = false), iX (0) (awX.length) (by omega), tB 31 (by kernel_rfl : ((((awX.getD 0 []).length : Nat) : Int) != 2) = false), iX (0) (awX.length) (by omega),
  iX (1) ((awX.getD 0 []).length) (by omega), .c (awCmp_pc : PCt 37 [(.agg [(iP 11), (iP 21)]), (dyP (((awX.getD 0 []).getD 1 wholeI).hi))] _), tB 45 (by decide : ((0 : Int) == 0) = true),
  tB 48 (by kernel_rfl : (decide ((ratCmp 11 21 awXx.hi) ≤ 0)) = true), iX (0) (awX.length) (by omega), iX (1) ((awX.getD 0 []).length) (by omega), .c (lawD_pc 120 (-8) (by omega) (by omega) (by omega)),
  .c (lawD_pc 135 (-8) (by omega) (by omega) (by omega)), .c (ivInside_pc ((awX.getD 0 []).getD 1 wholeI) (Iv.mk (canonZ 120 (-8)) (canonZ 135 (-8)) false) awXx_ok (ivEx_ok))] <| rQ (bP (insI ((awX.getD 0 []).getD 1 wholeI) (Iv.mk (canonZ 120 (-8)) (canonZ 135 (-8)) false))) (bP true) (congrArg bP insI_ex)) (by kernel_rfl)
open Go.RowKit Fp Pu
set_option maxHeartbeats 1000000 in
theorem eqRow_nil  : PCt 74 [(.v (.slice none 0 0)), (.v (.slice none 0 0)), (.fn 75 [])] (bP true) := by
 exact tr false Tryz.call74 Tryz.func74 (chain [tB 14 (by decide : ((0 : Int) != 0) = false), .u 70, tB 18 (by decide : (decide ((0 : Int) < 0)) = false)] <| .nil) (by kernel_rfl)
set_option maxHeartbeats 1000000 in
theorem equal_nil  : PCt 20 [(.v (.slice none 0 0)), (.v (.slice none 0 0))] (bP true) := by
 exact tr true Tryz.call20 Tryz.func20 (chain [.c eqRow_nil] <| .nil) (by kernel_rfl)
theorem ris1_le (x : RI) : E.le (.sl true 1 7 fun i_ j_ => (riL x).getD (i_ * 7 + j_) (.v (.bool false))) (risP [x]) := .sl fun i j hi hj => by
 obtain rfl : i = 0 := by omega
 rcases j with _ | _ | _ | _ | _ | _ | _ | j
 all_goals first | exact ⟨.refl _, rfl⟩ | omega
def looksB (m : List (List RI)) (h : RI) (p : Int) : Prop := smallB m = true ∧ shortB [h] = true ∧ ¬ (128 < p ∧ p ≤ 512)
set_option maxHeartbeats 1000000 in
theorem law_early (m : List (List RI)) (h : RI) (k p : Int) (hE : ¬ looksB m h p) : PCt 4 [(rmatP m), (riP h), (iP k), (iP p)] (bP true) := by
 exact tr true Tryz.call4 Tryz.func4 (chain [.c awake_pc, .c (small_pc m)] <| .w (smallB m = true)
  (fun k1 => chain [tB 16 (k1), .o 20 (.e (ris1_le _) : PV.le (.e (.sl true 1 7 fun i_ j_ => [(bP h.lo.neg), (slP h.lo.L), (iP h.lo.e), (bP h.hi.neg), (slP h.hi.L), (iP h.hi.e), (bP h.all)].getD (i_ * 7 + j_) (.v (.bool false)))) (.e (risP [h]))),
   .c (short_pc [h])] <| .w (shortB [h] = true)
   (fun k2 => chain [tB 21 (k2)] <| .w (128 < p)
    (fun k3 => chain [tB 26 (decide_eq_true k3)] <| .w (p ≤ 512)
     (fun k4 => chain [tB 29 (decide_eq_true k4)] <| .nil)
     (fun k4 => .x (by exact absurd ⟨k1, k2, by omega⟩ hE)))
    (fun k3 => .x (by exact absurd ⟨k1, k2, by omega⟩ hE)))
   (fun k2 => chain [tB 21 (Bool.eq_false_iff.2 k2)] <| .nil))
  (fun k1 => chain [tB 16 (Bool.eq_false_iff.2 k1)] <| .nil)) (by kernel_rfl)
theorem small_le {m : List (List RI)} (h : smallB m = true) : m.length ≤ 5 := by
 unfold smallB at h
 simp only [Bool.and_eq_true, decide_eq_true_eq] at h
 exact h.1
theorem small_rows {m : List (List RI)} (h : smallB m = true) (i : Nat) : (m.getD i []).length ≤ 8 := by
 unfold smallB at h
 simp only [Bool.and_eq_true, decide_eq_true_eq, Bool.not_eq_true'] at h
 by_cases hi : i < m.length
 ·have := List.any_eq_false.1 h.2 i (List.mem_range.2 hi)
  have : shortB (m.getD i []) = true := by simpa using this
  unfold shortB at this
  simp only [Bool.and_eq_true, decide_eq_true_eq] at this
  exact this.1
 ·rw [List.getD_eq_getElem?_getD, List.getElem?_eq_none (by omega)]
  exact Nat.zero_le _
theorem small_len {m : List (List RI)} (h : smallB m = true) : m.length ≤ 1000000 := by have := small_le h; omega
theorem small_row {m : List (List RI)} (h : smallB m = true) (i : Nat) : (m.getD i []).length ≤ 1000000 := by have := small_rows h i; omega
set_option maxHeartbeats 1000000 in
theorem law_arg (m : List (List RI)) (h : RI) (k p : Int) (hE : looksB m h p) (g : MGood m) (gh : h.Good) (hc : caseB m h = false) : PCt 4 [(rmatP m), (riP h), (iP k), (iP p)] (bP true) := by
 obtain ⟨q1, q2, q3⟩ := hE
 have hl : m.length ≤ 1000000 := small_len q1
 have hrows : ∀ i, (m.getD i []).length ≤ 1000000 := small_row q1
 exact tr true Tryz.call4 Tryz.func4 (chain [.c awake_pc, .c (small_pc m), tB 16 (q1 : (smallB m) = true),
  .o 20 (.e (ris1_le _) : PV.le (.e (.sl true 1 7 fun i_ j_ => [(bP h.lo.neg), (slP h.lo.L), (iP h.lo.e), (bP h.hi.neg), (slP h.hi.L), (iP h.hi.e), (bP h.all)].getD (i_ * 7 + j_) (.v (.bool false)))) (.e (risP [h]))), .c (short_pc [h]),
  tB 21 (q2 : (shortB [h]) = true)] <| .w (128 < p)
  (fun k1 => chain [tB 26 (decide_eq_true k1)] <| .w (p ≤ 512)
   (fun k2 => .x (by exact absurd ⟨by omega, by omega⟩ q3))
   (fun k2 => chain [tB 29 (decide_eq_false k2), .c (exp_arg m g hl hrows h gh k p hc), .c (r32Exp_arg m h g hl hrows gh k p hc), tB 50 (by decide : ((1 : Int) == 1) = true), .c equal_nil] <| .nil))
  (fun k1 => chain [tB 26 (decide_eq_false k1), .c (exp_arg m g hl hrows h gh k p hc), .c (r32Exp_arg m h g hl hrows gh k p hc), tB 50 (by decide : ((1 : Int) == 1) = true), .c equal_nil] <| .nil)) (by kernel_rfl)
set_option maxHeartbeats 1000000 in
theorem law_range (m : List (List RI)) (h : RI) (k p : Int) (hE : looksB m h p) (g : MGood m) (gh : h.Good) (hc : caseB m h = true) (hkp : ¬ (8 ≤ p ∧ p ≤ 512 ∧ 1 ≤ k ∧ k ≤ 16)) : PCt 4 [(rmatP m), (riP h), (iP k), (iP p)] (bP true) := by
 obtain ⟨q1, q2, q3⟩ := hE
 have hl : m.length ≤ 1000000 := small_len q1
 have hrows : ∀ i, (m.getD i []).length ≤ 1000000 := small_row q1
 exact tr true Tryz.call4 Tryz.func4 (chain [.c awake_pc, .c (small_pc m), tB 16 (q1 : (smallB m) = true),
  .o 20 (.e (ris1_le _) : PV.le (.e (.sl true 1 7 fun i_ j_ => [(bP h.lo.neg), (slP h.lo.L), (iP h.lo.e), (bP h.hi.neg), (slP h.hi.L), (iP h.hi.e), (bP h.all)].getD (i_ * 7 + j_) (.v (.bool false)))) (.e (risP [h]))), .c (short_pc [h]),
  tB 21 (q2 : (shortB [h]) = true)] <| .w (128 < p)
  (fun k1 => chain [tB 26 (decide_eq_true k1)] <| .w (p ≤ 512)
   (fun k2 => .x (by exact absurd ⟨by omega, by omega⟩ q3))
   (fun k2 => chain [tB 29 (decide_eq_false k2), .c (exp_range m g hl hrows h gh k p hc hkp), .c (r32Exp_range m h g hl hrows gh k p hc hkp), tB 50 (by decide : ((2 : Int) == 2) = true), .c equal_nil] <| .nil))
  (fun k1 => chain [tB 26 (decide_eq_false k1), .c (exp_range m g hl hrows h gh k p hc hkp), .c (r32Exp_range m h g hl hrows gh k p hc hkp), tB 50 (by decide : ((2 : Int) == 2) = true), .c equal_nil] <| .nil)) (by kernel_rfl)
set_option maxHeartbeats 1000000 in
theorem law_some (m : List (List Iv)) (h : Iv) (n k p : Nat) (hE : looksB (rawsM m) h.raw (p : Int)) (ga : MOk m n n) (hh : h.Valid) (hha : h.all = false) (hk1 : 1 ≤ k) (hk : k ≤ 16) (hp1 : 8 ≤ p) (hp2 : p ≤ 512) (x : List (List Iv)) (hx : expM m h k p = some x) : PCt 4 [(matP m), (ivP h), (iP k), (iP p)] (bP true) := by
 obtain ⟨q1, q2, q3⟩ := hE
 have h1 := (exp_pc m h n k p ga hh hha hk1 hk hp1 hp2).1 x hx
 have h2 := (r32Exp_pc m h n k p ga hh hha hk1 hk hp1 hp2).1 x hx
 have gx := expM_ok ga hh (by omega) hp1 hp2 hx
 have hEq := equal_same x (MOk.rows_le gx).1 (fun i _ => (MOk.rows_le gx).2 i) (fun i _ j _ => mok_at gx i j)
 exact tr true Tryz.call4 Tryz.func4 (chain [.c awake_pc, .c (by rw [← matP_raw]; exact small_pc _ : PCt 17 [(matP m)] (bP (smallB (rawsM m)))), tB 16 (q1 : (smallB (rawsM m)) = true),
  .o 20 (.e (ris1_le h.raw) : PV.le (.e (.sl true 1 7 fun i_ j_ => (ivL h).getD (i_ * 7 + j_) (.v (.bool false)))) (.e (risP [h.raw]))), .c (short_pc [h.raw]), tB 21 (q2 : (shortB [h.raw]) = true)] <| .w (128 < (p : Int))
  (fun k1 => chain [tB 26 (decide_eq_true k1)] <| .w ((p : Int) ≤ 512)
   (fun k2 => .x (by exact absurd ⟨by omega, by omega⟩ q3))
   (fun k2 => chain [tB 29 (decide_eq_false k2), .c (h1 : PCt 12 [(matP m), (ivP h), (iP k), (iP p)] _), .c (h2 : PCt 19 [(matP m), (ivP h), (iP k), (iP p)] _),
    tB 50 (by decide : ((0 : Int) == 0) = true), .c (hEq : PCt 20 [(matP x), (matP x)] _)] <| .nil))
  (fun k1 => chain [tB 26 (decide_eq_false k1), .c (h1 : PCt 12 [(matP m), (ivP h), (iP k), (iP p)] _), .c (h2 : PCt 19 [(matP m), (ivP h), (iP k), (iP p)] _),
   tB 50 (by decide : ((0 : Int) == 0) = true), .c (hEq : PCt 20 [(matP x), (matP x)] _)] <| .nil)) (by kernel_rfl)
set_option maxHeartbeats 1000000 in
theorem law_none (m : List (List Iv)) (h : Iv) (n k p : Nat) (hE : looksB (rawsM m) h.raw (p : Int)) (ga : MOk m n n) (hh : h.Valid) (hha : h.all = false) (hk1 : 1 ≤ k) (hk : k ≤ 16) (hp1 : 8 ≤ p) (hp2 : p ≤ 512) (hx : expM m h k p = none) : PCt 4 [(matP m), (ivP h), (iP k), (iP p)] (bP true) := by
 obtain ⟨q1, q2, q3⟩ := hE
 have h1 := (exp_pc m h n k p ga hh hha hk1 hk hp1 hp2).2 hx
 have h2 := (r32Exp_pc m h n k p ga hh hha hk1 hk hp1 hp2).2 hx
 exact tr true Tryz.call4 Tryz.func4 (chain [.c awake_pc, .c (by rw [← matP_raw]; exact small_pc _ : PCt 17 [(matP m)] (bP (smallB (rawsM m)))), tB 16 (q1 : (smallB (rawsM m)) = true),
  .o 20 (.e (ris1_le h.raw) : PV.le (.e (.sl true 1 7 fun i_ j_ => (ivL h).getD (i_ * 7 + j_) (.v (.bool false)))) (.e (risP [h.raw]))), .c (short_pc [h.raw]), tB 21 (q2 : (shortB [h.raw]) = true)] <| .w (128 < (p : Int))
  (fun k1 => chain [tB 26 (decide_eq_true k1)] <| .w ((p : Int) ≤ 512)
   (fun k2 => .x (by exact absurd ⟨by omega, by omega⟩ q3))
   (fun k2 => chain [tB 29 (decide_eq_false k2), .c (h1 : PCt 12 [(matP m), (ivP h), (iP k), (iP p)] _), .c (h2 : PCt 19 [(matP m), (ivP h), (iP k), (iP p)] _),
    tB 50 (by decide : ((15 : Int) == 15) = true), .c equal_nil] <| .nil))
  (fun k1 => chain [tB 26 (decide_eq_false k1), .c (h1 : PCt 12 [(matP m), (ivP h), (iP k), (iP p)] _), .c (h2 : PCt 19 [(matP m), (ivP h), (iP k), (iP p)] _),
   tB 50 (by decide : ((15 : Int) == 15) = true), .c equal_nil] <| .nil)) (by kernel_rfl)
theorem law_exp (m : List (List RI)) (h : RI) (k p : Int) (g : MGood m) (gh : h.Good) : PCt 4 [rmatP m, riP h, iP k, iP p] (bP true) := by
 by_cases hE : looksB m h p
 ·cases hc : caseB m h with
  | false => exact law_arg m h k p hE g gh hc
  | true =>
   by_cases hkp : 8 ≤ p ∧ p ≤ 512 ∧ 1 ≤ k ∧ k ≤ 16
   ·have hc' : (squareB m && okB h && !h.all) = true := hc
    have c1 : squareB m = true := by revert hc'; cases squareB m <;> simp
    have c2 : okB h = true := by revert hc'; cases okB h <;> simp
    have c3 : h.all = false := by revert hc'; cases h.all <;> simp
    have c1' : (matOkB m && decide (m.length = (m.getD 0 []).length)) = true := c1
    have c4 : matOkB m = true := by revert c1'; cases matOkB m <;> simp
    have c5 : m.length = (m.getD 0 []).length := by rw [c4, Bool.true_and] at c1'; exact of_decide_eq_true c1'
    have r := matOkB_true.1 c4
    have ho := okB_true.1 c2
    obtain ⟨m', e1, ga⟩ := raw_lists r g
    have eh : h = h.iv.raw := (ho.eq gh).symm
    obtain ⟨k', rfl⟩ := Int.eq_ofNat_of_zero_le (show 0 ≤ k by omega)
    obtain ⟨p', rfl⟩ := Int.eq_ofNat_of_zero_le (show 0 ≤ p by omega)
    rw [← c5] at ga
    have hv : h.iv.Valid := ho.valid
    have ha : h.iv.all = false := c3
    rw [eh, e1] at hE ⊢
    rw [matP_raw, ivP_raw]
    cases hx : expM m' h.iv k' p' with
    | some x => exact law_some m' h.iv m.length k' p' hE ga hv ha (by omega) (by omega) (by omega) (by omega) x hx
    | none => exact law_none m' h.iv m.length k' p' hE ga hv ha (by omega) (by omega) (by omega) (by omega) hx
   ·exact law_range m h k p hE g gh hc hkp
 ·exact law_early m h k p hE
open Go.ChangeShapes Go.WideShapes Go.ChangeAt Go.RowKit Fp Pu
def exIv0 : Value := .agg #[.bool false, .slice none 0 0, .int .i64 0, .bool false, .slice none 0 0, .int .i64 0, .bool false]
def exIvD {H : Type} : DataW H := .agg [.agg [.lit (.bool false), .nil, .lit (.int .i64 0)], .agg [.lit (.bool false), .nil, .lit (.int .i64 0)], .lit (.bool false)]
def exArgs : Array Value := #[.slice none 0 0, exIv0, .int .i64 0, .int .i64 0]
set_option maxRecDepth 100000 in
theorem exp_contract (H : Type) (enc : TypeId × Value → H) (W : World) (base : Nat) (args : Array Value) (ds gs : List (DataW H)) (before : List MemPlace)
  (hval : ∀ (j : Nat) t v, Tryz.f4.params[j]? = some t → args[j]? = some v → Value.okWide Tryz.prog W .any base t v)
  (hW : DataW.Whole enc Tryz.prog Tryz.f4.params.toList Rows.variationExpSpec.vars false W args.toList ds gs before) (hL : laidMetH Tryz.prog Rows.variationExpRow.laid W) :
  Calls Tryz.prog 4 args W fun e W' => ∃ v, e = .returned v ∧ Rows.variationExpSpec.post enc Tryz.prog Tryz.f4 false true false false W args v W' := by
 have hW' := hW
 obtain ⟨p, q, hA0, hV, rfl, hfz, hnd⟩ := hW
 have hA : DataW.TrodAll enc Tryz.prog W 0 (fun _ => true) true Tryz.f4.params.toList args.toList ds p := hA0
 rw [Tryz.params4] at hA hval
 obtain ⟨v0, v1, v2, v3, d0, d1, d2, d3, p0, p1, p2, p3, rfl, rfl, rfl, h0, h1, h2, h3⟩ := trodAll_four hA
 obtain ⟨rfl, rfl⟩ := trodVars_none hV
 obtain ⟨a, len, cap, rfl⟩ := okWide_slice Tryz.underlying32 (hval 0 32 v0 rfl rfl)
 obtain ⟨cs, rfl, hsz⟩ := okWide_struct Tryz.underlying28 (hval 1 28 v1 rfl rfl)
 obtain ⟨k, rfl, rfl, rfl, _⟩ := open_int Tryz.underlying3 (hval 2 3 v2 rfl rfl) h2
 obtain ⟨pr, rfl, rfl, rfl, _⟩ := open_int Tryz.underlying3 (hval 3 3 v3 rfl rfl) h3
 have h0k := h0
 have h1k := h1
 obtain ⟨fuel, hf⟩ := h0
 obtain ⟨fuel', hf'⟩ := h1
 clear hA0
 simp only [List.append_nil] at hW'
 have hlt : ∀ x ∈ p0 ++ p1, x.block < W.heap.size := fun x hx => hW'.lt x (by simpa using hx)
 have hlt0 : ∀ x ∈ p0, x.block < W.heap.size := fun x hx => hlt x (List.mem_append.2 (.inl hx))
 have hlt1 : ∀ x ∈ p1, x.block < W.heap.size := fun x hx => hlt x (List.mem_append.2 (.inr hx))
 obtain ⟨m, v, hv, gm, rm⟩ := open_rmat hf hlt0
 obtain ⟨h, gi⟩ := open_ri hf' hlt1
 obtain rfl : Value.slice a len cap = v := by
  have : (Value.slice a len cap).cells.toList = [Value.slice a len cap] := rfl
  rw [this] at hv
  simpa using hv
 have rh := ri_agg (cs := cs) gi
 have hrun := (law_exp m h k pr gm gi.1).run W noB [.slice a len cap, .agg cs, .int .i64 k, .int .i64 pr] (tb_of_laid rfl hL) (fun _ h => h.elim)
  (.cons rm (.cons rh (.cons (.v _) (.cons (.v _) (.nil _ _ _)))))
 refine hrun.mono fun r W' ⟨v, hr, hb, hrep⟩ => ?_
 obtain rfl := Rep.v_inv hrep
 subst hr
 refine ⟨_, rfl, _, _, _, [], p0 ++ (p1 ++ ([] ++ [])), [], hW', ?_, ?_, rfl, hb.frame _, fun h => by cases h⟩
 ·exact trodAll_mk1 (shut_bool Tryz.underlying4 _)
 ·exact trodAll_mk4 (Below.trod laidOut (by kernel_rfl) (of_decide_eq_true (by kernel_rfl)) h0k hb hlt0) (Below.trod laidOut (by kernel_rfl) (of_decide_eq_true (by kernel_rfl)) h1k hb hlt1)
   (Below.trod laidOut (by kernel_rfl) (of_decide_eq_true (by kernel_rfl)) h2 hb (fun _ h => by cases h)) (Below.trod laidOut (by kernel_rfl) (of_decide_eq_true (by kernel_rfl)) h3 hb (fun _ h => by cases h))
theorem exp_met (os : Os) : laidMet Tryz.prog Rows.variationExpRow.laid ((laidWorld os exArgs).forCall (fun _ _ => 0) ⟨#[], exArgs, []⟩).memory :=
 laidMet_of_run' 8 (by kernel_rfl) (by kernel_rfl)
theorem exp_reads (os : Os) {H : Type} (enc : TypeId × Value → H) : ∃ places, DataW.whole enc Tryz.prog ((laidWorld os exArgs).forCall (fun _ _ => 0) ⟨#[], exArgs, []⟩).memory Tryz.f4.params.toList Rows.variationExpSpec.vars false exArgs.toList 8 = some ([.nil, exIvD, .lit (.int .i64 0), .lit (.int .i64 0)], [], places) :=
 ⟨[], by kernel_rfl⟩
set_option maxRecDepth 100000 in
theorem exp_lifted (os : Os) (started : os.Started) (H : Type) (enc : TypeId × Value → H) (F : Stop.Interp) :
  ReturnsInHanded {} Tryz.checked os 4 .any ((OpenSpec.ofChange Rows.variationExpSpec).preRow enc Tryz.prog Tryz.f4 Rows.variationExpRow.domain false Rows.variationExpRow.laid) (((OpenSpec.ofChange Rows.variationExpSpec).at F).post enc Tryz.prog Tryz.f4 false true false false) := by
 obtain ⟨places, hx⟩ := exp_reads os enc
 refine returnsInHanded_of_row (C := Tryz.checked) (s := OpenSpec.ofChange Rows.variationExpSpec) own started (by kernel_rfl) Tryz.func4
  (witness_row_at (enc := enc) (C := Tryz.checked) false (laidWorld os exArgs) exArgs rfl (by kernel_rfl) (by kernel_rfl) (by kernel_rfl)
   (OpenSpec.preRow_of_cond 8 hx (by kernel_rfl) (fun k hk => by cases hk) (by kernel_rfl) (exp_met os))) ?_
 intro W base args ds gs before hval hW _ _ _ hL _ _
 exact exp_contract H enc W base args ds gs before hval hW hL
theorem exp_said : Rows.VariationExpSaid :=
 OpenClaim.holds_of_cond 4 Tryz.f4 rfl rfl rfl rfl rfl rfl rfl ⟨rfl, rfl, rfl, rfl, rfl⟩ rfl rfl rfl rfl rfl (by kernel_rfl) Tryz.func4 (by kernel_rfl)
  (of_decide_eq_true (by kernel_rfl)) (by unfold Func.isWrapper; first | (rw [if_pos (by decide +kernel)]; kernel_rfl) | (rw [if_neg (by decide +kernel)]; exact ⟨rfl, rfl⟩))
  (fun os started H enc _ F => by rw [OpenClaim.pre_eq_preRow]; exact exp_lifted os started H enc F)
theorem exp_plain (f : FuncId) (fn : Func) (hf : Tryz.pinned.checked.prog.funcNamed "flowpipe/flowpipelaw32.VariationExp" = some f) (hfn : Tryz.pinned.checked.prog.funcs[f]? = some fn) :
  false = Tryz.pinned.checked.prog.looks [] ∧ ∀ (j : Nat) t, fn.params[j]? = some t → Tryz.pinned.checked.prog.wantsStandIn t = false := by
 obtain rfl : f = 4 := Option.some.inj ((show Tryz.prog.funcNamed "flowpipe/flowpipelaw32.VariationExp" = some 4 by kernel_rfl).symm.trans hf) |>.symm
 obtain rfl : fn = Tryz.f4 := (Option.some.inj (Tryz.func4.symm.trans hfn)).symm
 refine ⟨by kernel_rfl, fun j t ht => ?_⟩
 rw [Tryz.params4] at ht
 have : t = 32 ∨ t = 28 ∨ t = 3 := by
  have := Array.mem_of_getElem? ht
  simp at this
  omega
 rcases this with rfl | rfl | rfl
 ·exact (show Tryz.prog.wantsStandIn 32 = false by kernel_rfl)
 ·exact (show Tryz.prog.wantsStandIn 28 = false by kernel_rfl)
 ·exact (show Tryz.prog.wantsStandIn 3 = false by kernel_rfl)
theorem exp_card : Rows.VariationExpCardSaid :=
 Claim7.holds_tied_plain_at .later [] _ _ _ _ exp_said (fun _ h => by cases h) (by kernel_rfl) (fun _ h => by cases h) variationExp_row_tie rfl ⟨rfl, rfl⟩ (by kernel_rfl) rfl exp_plain (by kernel_rfl)
end Go.Proofs.YtdppllbbgfekaaaGreatDoor
