/- The law ControlSums: the walk over the steps. -/
import Derived.Test.YtofdlkgpgcnjhaaDoorSl
import Derived.Test.YtofdlkgpgcnjhaaDoorKe
namespace Go.Proofs.YtofdlkgpgcnjhaaDoor
open Go.RowKit Fp

/-- A block that holds a number, with its limbs. -/
def BoxD (d : Dy) (w : World) (g : Nat) : Prop := ∃ A c, Box3 w g d.neg A (limbs d.m).length c d.e ∧ Sl w A c (limbs d.m)
section
variable {d : Dy} {w w' : World} {g : Nat}
theorem BoxD.ext (h : BoxD d w g) (hb : Ext w w') : BoxD d w' g := let ⟨A, c, h1, h2⟩ := h; ⟨A, c, h1.ext hb, h2.below hb⟩
theorem BoxD.drew (h : BoxD d w g) : BoxD d w.drew g := h.ext (Ext.drew _)
theorem BoxD.lt (h : BoxD d w g) : g < w.heap.size := let ⟨_, _, h1, _⟩ := h; h1.lt
theorem BoxD.far {g' n' c' n2 c2 : Nat} {s' s2 : Bool} {A' A2 : Option Addr} {e' e2 : Int} (h : BoxD d w g) (k : Box3 w g' s' A' n' c' e') (hne : g' ≠ g) :
    BoxD d (((w.setCell ⟨g', 0, none⟩ (.bool s2)).setCell ⟨g', 1, none⟩ (.slice A2 n2 c2)).setCell ⟨g', 2, none⟩ (.int .i64 e2)) g :=
  let ⟨A, c, h1, h2⟩ := h; ⟨A, c, h1.far3 hne _ _ _, k.set_sl h2 _ _ _ _ _⟩
theorem BoxD.set {n' c' : Nat} {s' : Bool} {A' : Option Addr} {e' : Int} {A : Option Addr} {c : Nat} (k : Box3 w g s' A' n' c' e') (h : Sl w A c (limbs d.m)) :
    BoxD d (((w.setCell ⟨g, 0, none⟩ (.bool d.neg)).setCell ⟨g, 1, none⟩ (.slice A (limbs d.m).length c)).setCell ⟨g, 2, none⟩ (.int .i64 d.e)) g :=
  ⟨A, c, k.set _ _ _ _ _, k.set_sl h _ _ _ _ _⟩
theorem BoxD.zero (h : Box3 w g false none 0 0 0) : BoxD zeroD w g := ⟨none, 0, by rw [show zeroD.m = 0 from rfl, limbs_zero]; exact h, by rw [show zeroD.m = 0 from rfl, limbs_zero]; exact Sl.nil _⟩
end

/-- The state of the loop: h, the time, what is left, the last step, the one before. -/
def Lp (w : World) (g1 g5 g7 g8 H T r last bef : Nat) (W wr : World) : Prop :=
  BoxD (D H) wr g1 ∧ BoxD (D T) wr (g1 + 1) ∧ BoxD (D r) wr g5 ∧ BoxD (D last) wr g7 ∧ BoxD (D bef) wr g8 ∧ Ext w wr ∧ Ext W wr

/-- .. at the head of a round. -/
def LpR (w : World) (g1 g5 H T : Nat) (n : Value) (wr : World) : Prop :=
  ∃ k r last bef : Nat, (St H T k r last bef ∧ last ≤ H ∧ bef ≤ H) ∧ n = .int .i64 k ∧ Lp w g1 g5 (g5 + 1) (g5 + 1 + 1) H T r last bef w wr

/-- .. and the new step. -/
def Lq (g1 g5 g7 g8 g9 H T r last bef x : Nat) (w wr : World) : Prop :=
  BoxD (D H) wr g1 ∧ BoxD (D T) wr (g1 + 1) ∧ BoxD (D r) wr g5 ∧ BoxD (D last) wr g7 ∧ BoxD (D bef) wr g8 ∧ BoxD (D x) wr g9 ∧ Ext w wr

set_option maxRecDepth 100000 in
set_option maxHeartbeats 16000000 in
theorem sums_good (H T : Nat) (A : Option Addr) (c : Nat) (B : Option Addr) (d : Nat) (w : World) (hs : Sl w A c (limbs (D H).m)) (hr : Sl w B d (limbs (D T).m)) (hTb : Tb w)
    (hH : 0 < H) (hT : 0 < T) (eH : H % 2 = 0) (eT : T % 2 = 0) (bH : bitsN H ≤ 1001) (vT : (D T).Valid) (h1 : (limbs (D H).m).length ≤ 4) (h2 : (limbs (D T).m).length ≤ 4) (h7 : -500 ≤ (D H).e) (h8 : -500 ≤ (D T).e) (h9 : (D H).top ≤ 500) :
    Calls Tryd.prog 5 #[DV (D H) A c, DV (D T) B d] w fun r w' => r = .returned (.bool true) ∧ Ext w w' := by
  have vH : (D H).Valid := D_valid (by omega)
  have b30 : bitsN (H * 30) ≤ 1010 := by have := bitsN_mul_le H 30; have := bitsN_le_iff.2 (show 30 < 2 ^ 5 by decide); omega
  have HA := Lib.hid (fun w (h : Tb w) => awake_any w h)
  have HV1 := Lib.hid (fun w (h : Sl w A c (limbs (D H).m)) => refValid_dy (D H) A c w h vH)
  have HV2 := Lib.hid (fun w (h : Sl w B d (limbs (D T).m)) => refValid_dy (D T) B d w h vT)
  have HS1 := fun w (h : Sl w A c (limbs (D H).m)) => refSign_dy (D H) A c w h
  have HS2 := fun w (h : Sl w B d (limbs (D T).m)) => refSign_dy (D T) B d w h
  have HTp := Lib.hid (fun w (h : Sl w A c (limbs (D H).m)) => refTop_dy (D H) A c w h vH.near)
  have s1 : (D H).sign = 1 := by rw [D_sign, if_neg (by omega)]
  have s2 : (D T).sign = 1 := by rw [D_sign, if_neg (by omega)]
  rw [s1] at HS1
  rw [s2] at HS2
  have HS1 := Lib.hid HS1
  have HS2 := Lib.hid HS2
  have HI := fun w => refInt_any 30 w (by decide)
  simp only [show ((30 : Nat) : Int) = 30 from rfl] at HI
  have HI := Lib.hid HI
  have n30 : Near (canon false 30 0) := by
    have h := canon_le false 30 0 (n := 1) (limbs_len_bits (Nat.le_trans (bitsN_le_iff.2 (show 30 < 2 ^ 5 by decide)) (by decide)))
    exact ⟨by omega, by omega, by omega⟩
  have HP := fun w A c B b (h : Sl w A c (limbs (D H).m)) (k : Sl w B b (limbs (canon false 30 0).m)) => refProduct_dy (D H) _ A B c b w h k vH.near n30
  rw [mulD_D] at HP
  have HP := Lib.hid HP
  have HC := fun w A c B b (h : Sl w A c (limbs (D T).m)) (k : Sl w B b (limbs (D (H * 30)).m)) => refCmp_dy (D T) (D (H * 30)) A B c b w h k vT.near (D_valid (by omega)).near
  rw [D_cmp] at HC
  have hq1 := fun (h : T ≤ 30 * H) => cmpI_le (x := (T : Int)) (y := ((H * 30 : Nat) : Int)) (by omega)
  have hq2 := fun (h : ¬ T ≤ 30 * H) => cmpI_gt (x := (T : Int)) (y := ((H * 30 : Nat) : Int)) (by omega)
  generalize cmpI (T : Int) ((H * 30 : Nat) : Int) = q at *
  have HC := Lib.hid HC
  have hq1 := Lib.hid hq1
  have hq2 := Lib.hid hq2
  have d1 : decide (4 < ((limbs (D H).m).length : Int)) = false := decide_eq_false (by omega)
  have d1' : decide (4 < (limbs (D H).m).length) = false := decide_eq_false (by omega)
  have d2 : decide (4 < ((limbs (D T).m).length : Int)) = false := decide_eq_false (by omega)
  have d2' : decide (4 < (limbs (D T).m).length) = false := decide_eq_false (by omega)
  have d7 : decide ((D H).e < -500) = false := decide_eq_false (by omega)
  have d8 : decide ((D T).e < -500) = false := decide_eq_false (by omega)
  have d9 : decide (500 < (D H).top) = false := decide_eq_false (by omega)
  generalize canon false 30 0 = I30 at *
  have hTb0 := hTb
  clear s1 s2 n30 h1 h2 h7 h8 h9
  have hE := (Ext.alloc w (.cells #[.bool ((D H).neg), .slice A ((limbs (D H).m).length) c, .int .i64 ((D H).e)] 24)).trans (Ext.alloc (w.alloc (.cells #[.bool ((D H).neg), .slice A ((limbs (D H).m).length) c, .int .i64 ((D H).e)] 24)) (.cells #[.bool ((D T).neg), .slice B ((limbs (D T).m).length) d, .int .i64 ((D T).e)] 24))
  have b1 := (Box3.newAt (W := w) (g := w.heap.size) (by simp) ((D H).neg) A ((limbs (D H).m).length) c ((D H).e)).alloc (.cells #[.bool ((D T).neg), .slice B ((limbs (D T).m).length) d, .int .i64 ((D T).e)] 24)
  have b2 := Box3.newAt (W := (w.alloc (.cells #[.bool ((D H).neg), .slice A ((limbs (D H).m).length) c, .int .i64 ((D H).e)] 24))) (g := w.heap.size + 1) (by simp) ((D T).neg) B ((limbs (D T).m).length) d ((D T).e)
  replace hs := hs.below hE; replace hr := hr.below hE; replace hTb := hTb.below hE
  go_enter Tryd.func5, Tryd.ntmps5
  go_wp2_with fail
  (with_reducible refine (HA.out _ hTb).mono ?_)
  rintro r w1 ⟨rfl, hb⟩
  replace hE := hE.trans hb; replace hs := hs.below hb; replace hr := hr.below hb; replace hTb := hTb.below hb; replace b1 := b1.ext hb; replace b2 := b2.ext hb
  clear hb
  have xb10 := b1.c0; have xb11 := b1.c1; have xb12 := b1.c2
  have xb20 := b2.c0; have xb21 := b2.c1; have xb22 := b2.c2
  go_wp2_with fail
  (with_reducible refine (HV1.out _ hs).mono ?_)
  rintro r w2 ⟨rfl, hb⟩
  clear xb10 xb11 xb12 xb20 xb21 xb22
  replace hE := hE.trans hb; replace hs := hs.below hb; replace hr := hr.below hb; replace hTb := hTb.below hb; replace b1 := b1.ext hb; replace b2 := b2.ext hb
  clear hb
  have xb10 := b1.c0; have xb11 := b1.c1; have xb12 := b1.c2
  have xb20 := b2.c0; have xb21 := b2.c1; have xb22 := b2.c2
  go_wp2_with fail
  (with_reducible refine (HV2.out _ hr).mono ?_)
  rintro r w3 ⟨rfl, hb⟩
  clear xb10 xb11 xb12 xb20 xb21 xb22
  replace hE := hE.trans hb; replace hs := hs.below hb; replace hr := hr.below hb; replace hTb := hTb.below hb; replace b1 := b1.ext hb; replace b2 := b2.ext hb
  clear hb
  have xb10 := b1.c0; have xb11 := b1.c1; have xb12 := b1.c2
  have xb20 := b2.c0; have xb21 := b2.c1; have xb22 := b2.c2
  go_wp2_with fail
  (with_reducible refine (HS1.out _ hs).mono ?_)
  rintro r w4 ⟨rfl, hb⟩
  clear xb10 xb11 xb12 xb20 xb21 xb22
  replace hE := hE.trans hb; replace hs := hs.below hb; replace hr := hr.below hb; replace hTb := hTb.below hb; replace b1 := b1.ext hb; replace b2 := b2.ext hb
  clear hb
  have xb10 := b1.c0; have xb11 := b1.c1; have xb12 := b1.c2
  have xb20 := b2.c0; have xb21 := b2.c1; have xb22 := b2.c2
  go_wp2_with fail
  (with_reducible refine (HS2.out _ hr).mono ?_)
  rintro r w5 ⟨rfl, hb⟩
  clear xb10 xb11 xb12 xb20 xb21 xb22
  replace hE := hE.trans hb; replace hs := hs.below hb; replace hr := hr.below hb; replace hTb := hTb.below hb; replace b1 := b1.ext hb; replace b2 := b2.ext hb
  clear hb
  have xb10 := b1.c0; have xb11 := b1.c1; have xb12 := b1.c2
  have xb20 := b2.c0; have xb21 := b2.c1; have xb22 := b2.c2
  go_wp2_with fail
  (with_reducible refine (HTp.out _ hs).mono ?_)
  rintro r w6 ⟨rfl, hb⟩
  clear xb10 xb11 xb12 xb20 xb21 xb22
  replace hE := hE.trans hb; replace hs := hs.below hb; replace hr := hr.below hb; replace hTb := hTb.below hb; replace b1 := b1.ext hb; replace b2 := b2.ext hb
  clear hb
  clear d1 d1' d2 d2' d7 d8
  have xb20 := b2.c0; have xb21 := b2.c1; have xb22 := b2.c2
  have xb10 := b1.c0; have xb11 := b1.c1; have xb12 := b1.c2
  go_wp2_with fail
  clear xb20 xb21 xb22 xb10 xb11 xb12
  replace hs := hs.drew; replace hr := hr.drew; replace hTb := hTb.drew; replace b1 := b1.drew; replace b2 := b2.drew; replace hE := hE.trans (Ext.drew _)
  go_region_held3 (fun w' => w'.cell? ⟨w.heap.size + 1, 0, none⟩ = some (.bool ((D T).neg)) ∧ w'.cell? ⟨w.heap.size + 1, 1, none⟩ = some (.slice B ((limbs (D T).m).length) d) ∧ w'.cell? ⟨w.heap.size + 1, 2, none⟩ = some (.int .i64 ((D T).e)) ∧ w'.cell? ⟨w.heap.size, 0, none⟩ = some (.bool ((D H).neg)) ∧ w'.cell? ⟨w.heap.size, 1, none⟩ = some (.slice A ((limbs (D H).m).length) c) ∧ w'.cell? ⟨w.heap.size, 2, none⟩ = some (.int .i64 ((D H).e)))
    (first | with_reducible exact ⟨(b2).c0, (b2).c1, (b2).c2, (b1).c0, (b1).c1, (b1).c2⟩ | with_reducible exact ⟨(b2.ext hb0).c0, (b2.ext hb0).c1, (b2.ext hb0).c2, (b1.ext hb0).c0, (b1.ext hb0).c1, (b1.ext hb0).c2⟩ | with_reducible exact ⟨(b2.ext (hb0.trans hb1)).c0, (b2.ext (hb0.trans hb1)).c1, (b2.ext (hb0.trans hb1)).c2, (b1.ext (hb0.trans hb1)).c0, (b1.ext (hb0.trans hb1)).c1, (b1.ext (hb0.trans hb1)).c2⟩ | with_reducible exact ⟨(b2.ext ((hb0.trans hb1).trans hb2)).c0, (b2.ext ((hb0.trans hb1).trans hb2)).c1, (b2.ext ((hb0.trans hb1).trans hb2)).c2, (b1.ext ((hb0.trans hb1).trans hb2)).c0, (b1.ext ((hb0.trans hb1).trans hb2)).c1, (b1.ext ((hb0.trans hb1).trans hb2)).c2⟩)
    (first
      | (go_at_call 16
         (with_reducible refine (HI.out _ ).mono ?_)
         rintro r wx0 ⟨A_hi, c_hi, rfl, hi, hb0⟩)
      | (go_at_call 15
         (with_reducible refine (HP.out _ _ _ _ _ (hs.below hb0) hi).mono ?_)
         rintro r wx1 ⟨A_hp, c_hp, rfl, hp, hb1⟩)
      | (go_at_call 19
         (with_reducible refine (HC.out _ _ _ _ _ (hr.below (hb0.trans hb1)) hp).mono ?_)
         rintro r wx2 ⟨rfl, hb2⟩))
  replace hi := hi.below hb1
  replace hi := hi.below hb2
  replace hp := hp.below hb2
  replace hE := hE.trans ((hb0.trans hb1).trans hb2); replace hs := hs.below ((hb0.trans hb1).trans hb2); replace hr := hr.below ((hb0.trans hb1).trans hb2); replace hTb := hTb.below ((hb0.trans hb1).trans hb2); replace b1 := b1.ext ((hb0.trans hb1).trans hb2); replace b2 := b2.ext ((hb0.trans hb1).trans hb2)
  by_cases hfew : T ≤ 30 * H
  · have dc : decide (0 < q) = false := decide_eq_false (by have := hq1.out hfew; omega)
    have xb10 := b1.c0; have xb11 := b1.c1; have xb12 := b1.c2
    have xb20 := b2.c0; have xb21 := b2.c1; have xb22 := b2.c2
    go_wp2
    clear xb10 xb11 xb12 xb20 xb21 xb22
    have e5 : Ext wx2 (((wx2.alloc (.cells #[.bool (D T).neg, .slice B (limbs (D T).m).length d, .int .i64 (D T).e] 24)).alloc zeroObj).alloc zeroObj) := ((Ext.alloc _ _).trans (Ext.alloc _ _)).trans (Ext.alloc _ _)
    have k5 : BoxD (D T) _ wx2.heap.size := ⟨B, d, ((Box3.newAt (W := wx2) (g := wx2.heap.size) rfl (D T).neg B (limbs (D T).m).length d (D T).e).alloc zeroObj).alloc zeroObj, hr.below e5⟩
    have k7 : BoxD (D 0) _ (wx2.heap.size + 1) := BoxD.zero ((Box3.newAt (W := wx2.alloc (.cells #[.bool (D T).neg, .slice B (limbs (D T).m).length d, .int .i64 (D T).e] 24)) (g := wx2.heap.size + 1) (by simp) false none 0 0 0).alloc zeroObj)
    have k8 : BoxD (D 0) _ (wx2.heap.size + 1 + 1) := BoxD.zero (Box3.newAt (W := (wx2.alloc (.cells #[.bool (D T).neg, .slice B (limbs (D T).m).length d, .int .i64 (D T).e] 24)).alloc zeroObj) (g := wx2.heap.size + 1 + 1) (by simp) false none 0 0 0)
    have k1 : BoxD (D H) _ w.heap.size := ⟨A, c, b1.ext e5, hs.below e5⟩
    have k2 : BoxD (D T) _ (w.heap.size + 1) := ⟨B, d, b2.ext e5, hr.below e5⟩
    have hlt5 : w.heap.size + 1 < wx2.heap.size := b2.lt
    have hE0 := hE.trans e5
    generalize wx2.heap.size = g5 at *
    have hst0 := St.start (H := H) hT
    have hK0 : Lp w w.heap.size g5 (g5 + 1) (g5 + 1 + 1) H T T 0 0 w _ := ⟨k1, k2, k5, k7, k8, hE0, hE0⟩
    clear k1 k2 k5 k7 k8 e5 hE0 b1 b2 hs hr hTb hE dc hi hp HC HP HI HS1 HS2 HTp HV1 HV2 HA
    go_loopw [6, 9, 10] (fun n _ _ wr => LpR w w.heap.size g5 H T n wr) (fun n _ _ _ => 40 - (intOf n).toNat)
    case atStart => exact ⟨0, T, 0, 0, ⟨hst0, Nat.zero_le _, Nat.zero_le _⟩, rfl, hK0⟩
    case round =>
      obtain ⟨k, r, last, bef, ⟨hst, hl1, hl2⟩, rfl, hK⟩ := hrel
      clear hst0 hK0
      obtain ⟨⟨A1, c1, b1, s1⟩, ⟨A2, c2, b2, s2⟩, ⟨A5, c5, b5, s5⟩, ⟨A7, c7, b7, s7⟩, ⟨A8, c8, b8, s8⟩, hE, _⟩ := hK
      have hTb := hTb0.below hE
      by_cases hr0 : r = 0
      · subst hr0
        obtain ⟨hk1, hk2, hk3⟩ := hst.done
        have hk30 : k ≤ 31 := by
          apply Classical.byContradiction
          intro h
          have : 30 * H ≤ (k - 1) * H := Nat.mul_le_mul_right _ (by omega)
          omega
        have hbits : bitsN (H * (k - 1)) ≤ 1010 := by
          have := bitsN_mul_le H (k - 1)
          have := bitsN_le_iff.2 (show k - 1 < 2 ^ 5 by omega)
          omega
        have HSr := fun w A c (h : Sl w A c (limbs (D 0).m)) => dySign_dy (D 0) A c w h (D_valid (by decide))
        rw [D_sign, if_pos rfl] at HSr
        have HI2 := fun w => refInt_any (k - 1) w (by omega)
        simp only [show ((k - 1 : Nat) : Int) = (k : Int) - 1 by omega] at HI2
        have nI : Near (canon false (k - 1) 0) := by
          have h := canon_le false (k - 1) 0 (n := 1) (limbs_len_bits (Nat.le_trans (bitsN_le_iff.2 (show k - 1 < 2 ^ 5 by omega)) (by decide)))
          exact ⟨by omega, by omega, by omega⟩
        have HP2 := fun w A c B b (h : Sl w A c (limbs (D H).m)) (k' : Sl w B b (limbs (canon false (k - 1) 0).m)) => refProduct_dy (D H) _ A B c b w h k' vH.near nI
        rw [mulD_D] at HP2
        have HC3 := fun w A c B b (h : Sl w A c (limbs (D (H * (k - 1))).m)) (k' : Sl w B b (limbs (D T).m)) => refCmp_dy (D (H * (k - 1))) (D T) A B c b w h k' (D_valid (by omega)).near vT.near
        rw [D_cmp, cmpI_lt (by rw [Nat.mul_comm]; omega)] at HC3
        have hll : (limbs (D last).m).length ≤ 100000 ∧ (limbs (D bef).m).length ≤ 100000 := by
          have := (D_valid (r := last) (by have := bitsN_mono hl1; omega)).len
          have := (D_valid (r := bef) (by have := bitsN_mono hl2; omega)).len
          omega
        have HQ1 := fun w A c B b (r : Bool) (hr : r = true ↔ last = bef) (h : Sl w A c (limbs (D last).m)) (k' : Sl w B b (limbs (D bef).m)) => refEqual_dy (D last) (D bef) A B c b w r h k' hll.1 hll.2 (by rw [hr]; exact ⟨fun h => by rw [h], D_inj⟩)
        have HQ2 := fun w A c B b (h : Sl w A c (limbs (D last).m)) (k' : Sl w B b (limbs (D H).m)) (h' : last = H) => refEqual_dy (D last) (D H) A B c b w true h k' hll.1 (by have := vH.len; omega) (by rw [h']; simp)
        generalize D (H * (k - 1)) = PW at *
        generalize canon false (k - 1) 0 = IW at *
        have HSr := Lib.hid HSr
        have HI2 := Lib.hid HI2
        have HP2 := Lib.hid HP2
        have HC3 := Lib.hid HC3
        have HQ1 := Lib.hid HQ1
        have HQ2 := Lib.hid HQ2
        have hw1 : IntKind.i64.wrap ((k : Int) - 1) = (k : Int) - 1 := i64_in _ (by omega) (by omega)
        clear hst hk2 hll nI hbits
        have xb50 := b5.c0; have xb51 := b5.c1; have xb52 := b5.c2
        go_wp2_with fail
        (with_reducible refine (HSr.out _ _ _ s5).mono ?_)
        rintro r w7 ⟨rfl, hb⟩
        clear xb50 xb51 xb52
        replace hE := hE.trans hb; replace s1 := s1.below hb; replace s2 := s2.below hb; replace s5 := s5.below hb; replace s7 := s7.below hb; replace s8 := s8.below hb; replace hTb := hTb.below hb; replace b1 := b1.ext hb; replace b2 := b2.ext hb; replace b5 := b5.ext hb; replace b7 := b7.ext hb; replace b8 := b8.ext hb
        clear hb
        have xb10 := b1.c0; have xb11 := b1.c1; have xb12 := b1.c2
        go_upto_region 15 with fail
        clear xb10 xb11 xb12
        go_cut [11] (fun s wx => VarD PW w7 s wx)
        case first =>
          have b' := b1.drew; have h' := s1.drew; have ba := (b1.alloc zeroObj).drew; have ha := (s1.alloc zeroObj).drew; have bza := (Box3.newAt (W := w7) (g := w7.heap.size) rfl false none 0 0 0).drew
          go_region_held3 (fun w' => w'.cell? ⟨w.heap.size, 0, none⟩ = some (.bool ((D H).neg)) ∧ w'.cell? ⟨w.heap.size, 1, none⟩ = some (.slice A1 ((limbs (D H).m).length) c1) ∧ w'.cell? ⟨w.heap.size, 2, none⟩ = some (.int .i64 ((D H).e)))
            (first | with_reducible exact b'.all | with_reducible exact ba.all | with_reducible exact (b'.ext hbi).all | with_reducible exact ((b'.ext hbi).alloc _).all | with_reducible exact (ba.ext hbi).all | with_reducible exact (b'.ext (hbi.trans hbp)).all | with_reducible exact (((b'.ext hbi).alloc _).ext hbp).all | with_reducible exact (ba.ext (hbi.trans hbp)).all | with_reducible exact ((b'.ext (hbi.trans hbp)).alloc _).all | with_reducible exact ((((b'.ext hbi).alloc _).ext hbp).far3 (Nat.ne_of_gt (Nat.lt_of_lt_of_le b'.lt hbi.size)) _ _ _).all | with_reducible exact ((ba.ext (hbi.trans hbp)).far3 (Nat.ne_of_gt b1.lt) _ _ _).all)
            (first
              | (go_at_call 16; refine (HI2.out _).mono ?_; rintro r wi ⟨Ai, ci, rfl, hsi, hbi⟩)
              | (go_at_call 15
                 first
                   | ((with_reducible refine (HP2.out _ _ _ _ _ (h'.below hbi) hsi).mono ?_); rintro r wp ⟨Ap, cp, rfl, hsp, hbp⟩)
                   | ((with_reducible refine (HP2.out _ _ _ _ _ ((h'.below hbi).alloc _) (hsi.alloc _)).mono ?_); rintro r wp ⟨Ap, cp, rfl, hsp, hbp⟩; have bz := (Box3.newAt (W := wi) (g := wi.heap.size) rfl false none 0 0 0).ext hbp; have z0 := bz.c0; have z1 := bz.c1; have z2 := bz.c2; have y0 := bz.fr 0; have y1 := bz.fr 1; have y2 := bz.fr 2)
                   | ((with_reducible refine (HP2.out _ _ _ _ _ (ha.below hbi) hsi).mono ?_); rintro r wp ⟨Ap, cp, rfl, hsp, hbp⟩; have bz := bza.ext (hbi.trans hbp); have z0 := bz.c0; have z1 := bz.c1; have z2 := bz.c2; have y0 := bz.fr 0; have y1 := bz.fr 1; have y2 := bz.fr 2)))
          · go_wp2_with fail; go_meet; exact VarD.new hsp ((Ext.drew _).trans (hbi.trans hbp))
          · go_wp2_with fail; go_meet; exact VarD.set bz hsp ((Ext.drew _).trans ((hbi.trans (Ext.alloc _ _)).trans hbp)) hbi.size
          · go_wp2_with fail; go_meet; exact VarD.set bz hsp (((Ext.alloc _ _).trans (Ext.drew _)).trans (hbi.trans hbp)) (Nat.le_refl _)
        obtain ⟨g_b11, A_s11, c_s11, rfl, b11, s11, hb⟩ := hcut
        replace hE := hE.trans hb; replace s1 := s1.below hb; replace s2 := s2.below hb; replace s5 := s5.below hb; replace s7 := s7.below hb; replace s8 := s8.below hb; replace hTb := hTb.below hb; replace b1 := b1.ext hb; replace b2 := b2.ext hb; replace b5 := b5.ext hb; replace b7 := b7.ext hb; replace b8 := b8.ext hb
        clear hb
        have xb110 := b11.c0; have xb111 := b11.c1; have xb112 := b11.c2
        have xb20 := b2.c0; have xb21 := b2.c1; have xb22 := b2.c2
        go_wp2_with fail
        (with_reducible refine (HC3.out _ _ _ _ _ s11 s2).mono ?_)
        rintro r w9 ⟨rfl, hb⟩
        clear xb110 xb111 xb112 xb20 xb21 xb22
        replace hE := hE.trans hb; replace s1 := s1.below hb; replace s2 := s2.below hb; replace s5 := s5.below hb; replace s7 := s7.below hb; replace s8 := s8.below hb; replace hTb := hTb.below hb; replace s11 := s11.below hb; replace b1 := b1.ext hb; replace b2 := b2.ext hb; replace b5 := b5.ext hb; replace b7 := b7.ext hb; replace b8 := b8.ext hb; replace b11 := b11.ext hb
        clear hb
        have xb50 := b5.c0; have xb51 := b5.c1; have xb52 := b5.c2
        go_wp2_with fail
        (with_reducible refine (HSr.out _ _ _ s5).mono ?_)
        rintro r w10 ⟨rfl, hb⟩
        clear xb50 xb51 xb52
        replace hE := hE.trans hb; replace s1 := s1.below hb; replace s2 := s2.below hb; replace s5 := s5.below hb; replace s7 := s7.below hb; replace s8 := s8.below hb; replace hTb := hTb.below hb; replace s11 := s11.below hb; replace b1 := b1.ext hb; replace b2 := b2.ext hb; replace b5 := b5.ext hb; replace b7 := b7.ext hb; replace b8 := b8.ext hb; replace b11 := b11.ext hb
        clear hb
        by_cases h2 : k < 2
        · have e1 : decide ((k : Int) < 2) = true := decide_eq_true (by omega)
          have e2 : decide (k < 2) = true := decide_eq_true (by omega)
          go_wp2
          go_ret
          exact ⟨rfl, hE⟩
        · have e1 : decide ((k : Int) < 2) = false := decide_eq_false (by omega)
          have e2 : decide (k < 2) = false := decide_eq_false (by omega)
          by_cases h3 : last = bef
          · have HQ3 := Lib.hid (fun w A c B b h k' => HQ1.out w A c B b true (by simp [h3]) h k')
            clear h3 h2 hk3
            have xb70 := b7.c0; have xb71 := b7.c1; have xb72 := b7.c2
            have xb80 := b8.c0; have xb81 := b8.c1; have xb82 := b8.c2
            go_wp2_with fail
            (with_reducible refine (HQ3.out _ _ _ _ _ s7 s8).mono ?_)
            rintro r w11 ⟨rfl, hb⟩
            clear xb70 xb71 xb72 xb80 xb81 xb82
            replace hE := hE.trans hb; replace s1 := s1.below hb; replace s2 := s2.below hb; replace s5 := s5.below hb; replace s7 := s7.below hb; replace s8 := s8.below hb; replace hTb := hTb.below hb; replace s11 := s11.below hb; replace b1 := b1.ext hb; replace b2 := b2.ext hb; replace b5 := b5.ext hb; replace b7 := b7.ext hb; replace b8 := b8.ext hb; replace b11 := b11.ext hb
            clear hb
            go_wp2
            go_ret
            exact ⟨rfl, hE⟩
          · have HQ3 := Lib.hid (fun w A c B b h k' => HQ1.out w A c B b false (by simp [h3]) h k')
            have hlH : last = H := by omega
            have HQ4 := Lib.hid (fun w A c B b h k' => HQ2.out w A c B b h k' hlH)
            clear h3 h2 hk3 hlH
            have xb70 := b7.c0; have xb71 := b7.c1; have xb72 := b7.c2
            have xb80 := b8.c0; have xb81 := b8.c1; have xb82 := b8.c2
            go_wp2_with fail
            (with_reducible refine (HQ3.out _ _ _ _ _ s7 s8).mono ?_)
            rintro r w11 ⟨rfl, hb⟩
            clear xb70 xb71 xb72 xb80 xb81 xb82
            replace hE := hE.trans hb; replace s1 := s1.below hb; replace s2 := s2.below hb; replace s5 := s5.below hb; replace s7 := s7.below hb; replace s8 := s8.below hb; replace hTb := hTb.below hb; replace s11 := s11.below hb; replace b1 := b1.ext hb; replace b2 := b2.ext hb; replace b5 := b5.ext hb; replace b7 := b7.ext hb; replace b8 := b8.ext hb; replace b11 := b11.ext hb
            clear hb
            have xb70 := b7.c0; have xb71 := b7.c1; have xb72 := b7.c2
            have xb10 := b1.c0; have xb11 := b1.c1; have xb12 := b1.c2
            go_wp2_with fail
            (with_reducible refine (HQ4.out _ _ _ _ _ s7 s1).mono ?_)
            rintro r w12 ⟨rfl, hb⟩
            clear xb70 xb71 xb72 xb10 xb11 xb12
            replace hE := hE.trans hb; replace s1 := s1.below hb; replace s2 := s2.below hb; replace s5 := s5.below hb; replace s7 := s7.below hb; replace s8 := s8.below hb; replace hTb := hTb.below hb; replace s11 := s11.below hb; replace b1 := b1.ext hb; replace b2 := b2.ext hb; replace b5 := b5.ext hb; replace b7 := b7.ext hb; replace b8 := b8.ext hb; replace b11 := b11.ext hb
            clear hb
            go_wp2
            go_ret
            exact ⟨rfl, hE⟩
      · obtain ⟨p1, p2, p3, hst2⟩ := hst.step (by omega) hH eH eT
        obtain ⟨q1, q2⟩ := hst.few (by omega) hH hfew
        have br : bitsN r ≤ 1010 := by have := bitsN_mono q2; have := bitsN_mono (show T ≤ H * 30 by omega); omega
        have ev := hst.even eH eT
        have bx : bitsN (fitN H r) ≤ 1010 := by have := bitsN_mono p3; omega
        have vr : (D r).Valid := D_valid (by omega)
        have vx : (D (fitN H r)).Valid := D_valid (by omega)
        have HSr := fun w A c (h : Sl w A c (limbs (D r).m)) => dySign_dy (D r) A c w h vr
        rw [D_sign, if_neg hr0] at HSr
        have HF := fun w A c B d (h : Sl w A c (limbs (D H).m)) (k : Sl w B d (limbs (D r).m)) (ht : Tb w) => fit_D H r A B c d w h k ht hH (by omega) (by omega) br ev
        have HC2 := fun w A c B d (h : Sl w A c (limbs (D (fitN H r)).m)) (k : Sl w B d (limbs (D H).m)) => dyCmp_dy (D (fitN H r)) (D H) A B c d w h k vx vH
        rw [D_cmp] at HC2
        have HSx := fun w A c (h : Sl w A c (limbs (D (fitN H r)).m)) => dySign_dy (D (fitN H r)) A c w h vx
        rw [D_sign, if_neg (by omega)] at HSx
        have HSub := fun w A c B d (h : Sl w A c (limbs (D r).m)) (k : Sl w B d (limbs (D (fitN H r)).m)) (ht : Tb w) => dySub_dy (D r) (D (fitN H r)) A B c d w h k ht vr vx
        rw [D_sub p3] at HSub
        have hrr : inRange (D (r - fitN H r)) := D_range (by have := bitsN_mono (Nat.sub_le r (fitN H r)); omega)
        rw [chk_yes hrr, chkE_yes hrr] at HSub
        have hcm := cmpI_le (x := (fitN H r : Nat)) (y := (H : Nat)) (by omega)
        generalize cmpI ((fitN H r : Nat) : Int) ((H : Nat) : Int) = cm at *
        have e1 : decide (0 < cm) = false := decide_eq_false (by omega)
        have e2 : decide (31 < (k : Int)) = false := decide_eq_false (by omega)
        have e2' : decide (31 < k) = false := decide_eq_false (by omega)
        obtain ⟨x, hx⟩ : ∃ x, x = fitN H r := ⟨_, rfl⟩
        rw [← hx] at HF HC2 HSx HSub hst2
        have HSr := Lib.hid HSr
        have HF := Lib.hid HF
        have HC2 := Lib.hid HC2
        have HSx := Lib.hid HSx
        have HSub := Lib.hid HSub
        have hst2 := Lib.hid hst2
        have hxH := Lib.hid (show x ≤ H by rw [hx]; exact p2)
        have HL1 := Lib.hid hl1
        clear hl1 hl2
        clear hcm hx vr vx bx br ev p1 p2 p3 hrr hr0 hst q2
        have xb50 := b5.c0; have xb51 := b5.c1; have xb52 := b5.c2
        go_wp2_with fail
        (with_reducible refine (HSr.out _ _ _ s5).mono ?_)
        rintro r w11 ⟨rfl, hb⟩
        clear xb50 xb51 xb52
        replace hE := hE.trans hb; replace s1 := s1.below hb; replace s2 := s2.below hb; replace s5 := s5.below hb; replace s7 := s7.below hb; replace s8 := s8.below hb; replace hTb := hTb.below hb; replace b1 := b1.ext hb; replace b2 := b2.ext hb; replace b5 := b5.ext hb; replace b7 := b7.ext hb; replace b8 := b8.ext hb
        clear hb
        have xb10 := b1.c0; have xb11 := b1.c1; have xb12 := b1.c2
        have xb50 := b5.c0; have xb51 := b5.c1; have xb52 := b5.c2
        go_wp2_with fail
        (with_reducible refine (HF.out _ _ _ _ _ s1 s5 hTb).mono ?_)
        rintro r wF ⟨A_s9, c_s9, rfl, s9, hb⟩
        have hlt9 := Nat.lt_of_lt_of_le b8.lt hb.size
        clear xb10 xb11 xb12 xb50 xb51 xb52
        have b9 := Box3.newAt (W := wF) (g := wF.heap.size) rfl ((D x).neg) A_s9 ((limbs (D x).m).length) c_s9 ((D x).e)
        replace hb := hb.trans (Ext.alloc _ (.cells #[.bool ((D x).neg), .slice A_s9 ((limbs (D x).m).length) c_s9, .int .i64 ((D x).e)] 24))
        replace s9 := s9.below (Ext.alloc _ (.cells #[.bool ((D x).neg), .slice A_s9 ((limbs (D x).m).length) c_s9, .int .i64 ((D x).e)] 24))
        replace hE := hE.trans hb; replace s1 := s1.below hb; replace s2 := s2.below hb; replace s5 := s5.below hb; replace s7 := s7.below hb; replace s8 := s8.below hb; replace hTb := hTb.below hb; replace b1 := b1.ext hb; replace b2 := b2.ext hb; replace b5 := b5.ext hb; replace b7 := b7.ext hb; replace b8 := b8.ext hb
        clear hb
        have xb90 := b9.c0; have xb91 := b9.c1; have xb92 := b9.c2
        have xb10 := b1.c0; have xb11 := b1.c1; have xb12 := b1.c2
        go_wp2_with fail
        (with_reducible refine (HC2.out _ _ _ _ _ s9 s1).mono ?_)
        rintro r w13 ⟨rfl, hb⟩
        clear xb90 xb91 xb92 xb10 xb11 xb12
        replace hE := hE.trans hb; replace s1 := s1.below hb; replace s2 := s2.below hb; replace s5 := s5.below hb; replace s7 := s7.below hb; replace s8 := s8.below hb; replace hTb := hTb.below hb; replace s9 := s9.below hb; replace b1 := b1.ext hb; replace b2 := b2.ext hb; replace b5 := b5.ext hb; replace b7 := b7.ext hb; replace b8 := b8.ext hb; replace b9 := b9.ext hb
        clear hb
        have xb90 := b9.c0; have xb91 := b9.c1; have xb92 := b9.c2
        go_wp2_with fail
        (with_reducible refine (HSx.out _ _ _ s9).mono ?_)
        rintro r w14 ⟨rfl, hb⟩
        clear xb90 xb91 xb92
        replace hE := hE.trans hb; replace s1 := s1.below hb; replace s2 := s2.below hb; replace s5 := s5.below hb; replace s7 := s7.below hb; replace s8 := s8.below hb; replace hTb := hTb.below hb; replace s9 := s9.below hb; replace b1 := b1.ext hb; replace b2 := b2.ext hb; replace b5 := b5.ext hb; replace b7 := b7.ext hb; replace b8 := b8.ext hb; replace b9 := b9.ext hb
        clear hb
        have xb70 := b7.c0; have xb71 := b7.c1; have xb72 := b7.c2
        have xb90 := b9.c0; have xb91 := b9.c1; have xb92 := b9.c2
        go_upto_region 11 with fail
        clear xb70 xb71 xb72 xb90 xb91 xb92
        go_cut [6] (fun n wx => n = .int .i64 ((k : Int) + 1) ∧ Lq w.heap.size g5 (g5 + 1) (g5 + 1 + 1) wF.heap.size H T r x last x w wx)
        case first =>
          have xb70 := b7.c0; have xb71 := b7.c1; have xb72 := b7.c2
          have xb90 := b9.c0; have xb91 := b9.c1; have xb92 := b9.c2
          have xb80 := b8.c0; have yb80 := b8.fr 0; have xb81 := b8.c1; have yb81 := b8.fr 1; have xb82 := b8.c2; have yb82 := b8.fr 2
          have xb70 := b7.c0; have yb70 := b7.fr 0; have xb71 := b7.c1; have yb71 := b7.fr 1; have xb72 := b7.c2; have yb72 := b7.fr 2
          have n1 : ¬ g5 + 1 + 1 = wF.heap.size := by omega
          have n2 : ¬ wF.heap.size = g5 + 1 + 1 := fun h => n1 h.symm
          have n3 : ¬ g5 + 1 = wF.heap.size := by omega
          have n4 : ¬ wF.heap.size = g5 + 1 := fun h => n3 h.symm
          go_region
          go_wp2_with fail
          go_meet
          have b7' := b7.far3 (g' := g5 + 1 + 1) (by omega) (.bool (D last).neg) (.slice A7 (limbs (D last).m).length c7) (.int .i64 (D last).e)
          have s9' := b8.set_sl s9 (D last).neg (D last).e (limbs (D last).m).length c7 A7
          exact ⟨rfl, ((BoxD.far ⟨_, _, b1, s1⟩ b8 (by omega)).far b7' (by omega)).drew, ((BoxD.far ⟨_, _, b2, s2⟩ b8 (by omega)).far b7' (by omega)).drew, ((BoxD.far ⟨_, _, b5, s5⟩ b8 (by omega)).far b7' (by omega)).drew,
            (BoxD.set (d := D x) b7' s9').drew, ((BoxD.set (d := D last) b8 s7).far b7' (by omega)).drew, ((BoxD.far ⟨_, _, b9, s9⟩ b8 n1).far b7' n3).drew,
            (Box3.set_ext (Box3.set_ext hE (by omega) _ _ _ _ _) (by omega) _ _ _ _ _).trans (Ext.drew _)⟩
        obtain ⟨rfl, ⟨A1, c1, b1, s1⟩, ⟨A2, c2, b2, s2⟩, ⟨A5, c5, b5, s5⟩, ⟨A7, c7, b7, s7⟩, ⟨A8, c8, b8, s8⟩, ⟨A9, c9, b9, s9⟩, hE⟩ := hcut
        have hTb := hTb0.below hE
        have xb50 := b5.c0; have xb51 := b5.c1; have xb52 := b5.c2
        have xb90 := b9.c0; have xb91 := b9.c1; have xb92 := b9.c2
        go_wp2_with fail
        (with_reducible refine (HSub.out _ _ _ _ _ s5 s9 hTb).mono ?_)
        rintro r w15 ⟨A_s6, c_s6, rfl, s6, hb⟩
        clear xb50 xb51 xb52 xb90 xb91 xb92
        replace hE := hE.trans hb; replace s1 := s1.below hb; replace s2 := s2.below hb; replace s5 := s5.below hb; replace s7 := s7.below hb; replace s8 := s8.below hb; replace s9 := s9.below hb; replace hTb := hTb.below hb; replace b1 := b1.ext hb; replace b2 := b2.ext hb; replace b5 := b5.ext hb; replace b7 := b7.ext hb; replace b8 := b8.ext hb; replace b9 := b9.ext hb
        clear hb
        have xb50 := b5.c0; have yb50 := b5.fr 0; have xb51 := b5.c1; have yb51 := b5.fr 1; have xb52 := b5.c2; have yb52 := b5.fr 2
        go_wp2
        go_roundw
        case rel =>
          have hE2 := Box3.set_ext hE (show w.heap.size ≤ g5 by omega) (D (r - x)).neg A_s6 (limbs (D (r - x)).m).length c_s6 (D (r - x)).e
          have hrel2 : ∀ n : Value, n = .int .i64 ((k : Int) + 1) → LpR w w.heap.size g5 H T n _ := fun n hn => ⟨k + 1, r - x, x, last, ⟨hst2.out, hxH.out, HL1.out⟩, hn.trans (by go_num), BoxD.far ⟨_, _, b1, s1⟩ b5 (by omega), BoxD.far ⟨_, _, b2, s2⟩ b5 (by omega), BoxD.set b5 s6, BoxD.far ⟨_, _, b7, s7⟩ b5 (by omega), BoxD.far ⟨_, _, b8, s8⟩ b5 (by omega), hE2, hE2⟩
          exact hrel2 _ rfl
        case measure => simp [intOf]; omega
  · have dc : decide (0 < q) = true := by rw [hq2.out hfew]; rfl
    go_wp2
    go_ret
    exact ⟨rfl, hE⟩
end Go.Proofs.YtofdlkgpgcnjhaaDoor
