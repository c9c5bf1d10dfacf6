/- The law ControlSums: the walk. -/
import Derived.Test.YtofdlkgpgcnjhaaDoorLl
import Derived.Test.YtofdlkgpgcnjhaaDoorFa
import Derived.Test.YtofdlkgpgcnjhaaDoorSm
import Derived.Test.YtofdlkgpgcnjhaaDoorSp
namespace Go.Proofs.YtofdlkgpgcnjhaaDoor
open Go.RowKit Fp

theorem cmpI_le {x y : Int} (h : x ≤ y) : cmpI x y ≤ 0 := by unfold cmpI; split; decide; split <;> omega
theorem cmpI_lt {x y : Int} (h : x < y) : cmpI x y = -1 := by unfold cmpI; rw [if_pos h]
theorem cmpI_gt {x y : Int} (h : y < x) : cmpI x y = 1 := by unfold cmpI; rw [if_neg (by omega), if_pos h]
theorem cmpI_ge {x y : Int} (h : y ≤ x) : 0 ≤ cmpI x y := by unfold cmpI; rw [if_neg (by omega)]; split <;> decide

theorem fit_D (H r : Nat) (A B : Option Addr) (c d : Nat) (w : World) (hs : Sl w A c (limbs (D H).m)) (hr : Sl w B d (limbs (D r).m)) (hTb : Tb w)
    (hH : 0 < H) (hr0 : 0 < r) (bH : bitsN H ≤ 1010) (br : bitsN r ≤ 1010) (ev : ¬ r ≤ H → r % 2 = 0) :
    Calls Tryd.prog 24 #[DV (D H) A c, DV (D r) B d] w (RetDE w (D (fitN H r)) 0) := by
  have vH := D_valid (r := H) (by omega)
  have vr := D_valid (r := r) (by omega)
  have pH : 0 < Dy.sign ⟨(D H).neg, val (limbs (D H).m), (D H).e⟩ := by rw [val_limbs]; show 0 < (D H).sign; rw [D_sign, if_neg (by omega)]; decide
  have pr : 0 < Dy.sign ⟨(D r).neg, val (limbs (D r).m), (D r).e⟩ := by rw [val_limbs]; show 0 < (D r).sign; rw [D_sign, if_neg (by omega)]; decide
  have hc : cmpD ⟨(D r).neg, val (limbs (D r).m), (D r).e⟩ ⟨(D H).neg, val (limbs (D H).m), (D H).e⟩ = cmpI r H := by rw [val_limbs, val_limbs]; exact D_cmp r H
  have hDD : ∀ x : Nat, (⟨false, (D x).m, (D x).e⟩ : Dy) = D x := fun x => by rw [← D_neg x]
  have h2 : canon (D H).neg (val (limbs (D H).m)) ((D H).e + 1) = D (2 * H) := by rw [val_limbs]; exact D_twice H
  have b2 : bitsN (2 * H) ≤ 1020 := by
    have := bitsN_add bH bH
    rw [show 2 * H = H + H by omega]; omega
  unfold fitN
  by_cases h1 : r ≤ H
  · rw [if_pos h1]
    have := fit_rest (D H).neg A c (limbs (D H).m) (D H).e (D r).neg B d (limbs (D r).m) (D r).e w hs hr vH.dok vr.dok pH pr (by rw [hc]; exact cmpI_le (by omega))
    rw [val_limbs, hDD] at this
    exact this
  · rw [if_neg h1]
    by_cases h3 : 2 * H ≤ r
    · rw [if_pos h3]
      have := fit_step (D H).neg A c (limbs (D H).m) (D H).e (D r).neg B d (limbs (D r).m) (D r).e w hs hr vH.dok vr.dok pH pr hTb (by rw [hc, cmpI_gt (by omega)]; decide) (by rw [h2]; exact D_range b2)
        (by rw [h2, val_limbs]; show 0 ≤ cmpD (D r) (D (2 * H)); rw [D_cmp]; exact cmpI_ge (by omega))
      rw [val_limbs, hDD] at this
      exact this
    · rw [if_neg h3]
      have e2 := ev h1
      have hh : canon (D r).neg (val (limbs (D r).m)) ((D r).e + -1) = D (r / 2) := by rw [val_limbs]; exact D_half (by omega)
      have := fit_half (D H).neg A c (limbs (D H).m) (D H).e (D r).neg B d (limbs (D r).m) (D r).e w hs hr vH.dok vr.dok pH pr hTb (by rw [hc, cmpI_gt (by omega)]; decide) (by rw [h2]; exact D_range b2)
        (by rw [h2, val_limbs]; show cmpD (D r) (D (2 * H)) < 0; rw [D_cmp, cmpI_lt (by omega)]; decide) (by rw [hh]; exact D_range (Nat.le_trans (bitsN_mono (Nat.div_le_self _ _)) (by omega)))
      rw [hh] at this
      exact this

theorem mulD_D (H n : Nat) : mulD (D H) (canon false n 0) = D (H * n) := by
  have hz : ∀ k : Int, (canon false n 0).e ≥ 0 := fun _ => by
    unfold canon; split
    · simp only; decide
    · simp only; omega
  have he := hz 0
  have hn : (canon false n 0).neg = false := by unfold canon; split <;> rfl
  have hm := mag_canon (s := false) (m := n) (e := 0) (k := 0) (Int.le_refl _)
  unfold Dy.mag at hm
  rw [show ((0 : Int) - 0).toNat = 0 by decide, Nat.pow_zero, Nat.mul_one] at hm
  have hH := D_mag H
  unfold Dy.mag at hH
  have hDe := D_e H
  unfold mulD
  rw [D_neg, hn]
  refine D_ext (canon_canon _ _ _) (above_canon (by omega)) ?_
  simp only [bne_self_eq_false]
  rw [num_canonF (by omega)]
  rw [show ((D H).e + (canon false n 0).e - -501).toNat = ((D H).e - -501).toNat + ((canon false n 0).e - 0).toNat by omega, Nat.pow_add]
  have key : ∀ a b p q : Nat, a * b * (p * q) = (a * p) * (b * q) := fun a b p q => Nat.mul_mul_mul_comm a b p q
  rw [key, hH, hm]

/-- Not yet known to be good: what the law asks first. -/
def SumsOk (s : Bool) (L : List Nat) (e : Int) (t : Bool) (M : List Nat) (f : Int) : Prop :=
  L.length ≤ 4 ∧ M.length ≤ 4 ∧ Dok s L e ∧ Dok t M f ∧ 0 < Dy.sign ⟨s, val L, e⟩ ∧ 0 < Dy.sign ⟨t, val M, f⟩ ∧ -500 ≤ e ∧ -500 ≤ f ∧ Dy.top ⟨s, val L, e⟩ ≤ 500

set_option maxRecDepth 100000 in
set_option maxHeartbeats 4000000 in
theorem sums_bad1 (s : Bool) (A : Option Addr) (c : Nat) (L : List Nat) (e : Int) (t : Bool) (B : Option Addr) (d : Nat) (M : List Nat) (f : Int) (w : World)
    (hs : Sl w A c L) (hr : Sl w B d M) (_he1 : -9223372036854775808 ≤ e) (_he2 : e ≤ 9223372036854775807) (_hf1 : -9223372036854775808 ≤ f) (_hf2 : f ≤ 9223372036854775807) (hTb : Tb w) (h1 : ¬ L.length ≤ 4) :
    Calls Tryd.prog 5 #[.agg #[.bool s, .slice A L.length c, .int .i64 e], .agg #[.bool t, .slice B M.length d, .int .i64 f]] w fun r w' => r = .returned (.bool true) ∧ Ext w w' := by
  have HA := Lib.hid (fun w (h : Tb w) => awake_any w h)
  have d1 : decide (4 < (L.length : Int)) = true := decide_eq_true (by omega)
  have d1' : decide (4 < L.length) = true := decide_eq_true (by omega)
  clear h1
  have hE := (Ext.alloc w (.cells #[.bool s, .slice A L.length c, .int .i64 e] 24)).trans (Ext.alloc (w.alloc (.cells #[.bool s, .slice A L.length c, .int .i64 e] 24)) (.cells #[.bool t, .slice B M.length d, .int .i64 f] 24))
  have b1 := (Box3.newAt (W := w) (g := w.heap.size) (by simp) s A L.length c e).alloc (.cells #[.bool t, .slice B M.length d, .int .i64 f] 24)
  have b2 := Box3.newAt (W := (w.alloc (.cells #[.bool s, .slice A L.length c, .int .i64 e] 24))) (g := w.heap.size + 1) (by simp) t B M.length d f
  replace hs := hs.below hE; replace hr := hr.below hE; replace hTb := hTb.below hE
  go_enter Tryd.func5, Tryd.ntmps5
  go_wp2_with fail
  (with_reducible refine (HA.out _ hTb).mono ?_)
  rintro r w1 ⟨rfl, hb⟩
  replace hE := hE.trans hb; replace hs := hs.below hb; replace hr := hr.below hb; replace hTb := hTb.below hb; replace b1 := b1.ext hb; replace b2 := b2.ext hb
  clear hb
  have xb10 := b1.c0; have xb11 := b1.c1; have xb12 := b1.c2
  have xb20 := b2.c0; have xb21 := b2.c1; have xb22 := b2.c2
  go_wp2_with fail
  (with_reducible refine (HA.out _ hTb).mono ?_)
  rintro r w2 ⟨rfl, hb⟩
  clear xb10 xb11 xb12 xb20 xb21 xb22
  replace hE := hE.trans hb; replace hs := hs.below hb; replace hr := hr.below hb; replace hTb := hTb.below hb; replace b1 := b1.ext hb; replace b2 := b2.ext hb
  clear hb
  go_wp2
  go_ret
  exact ⟨rfl, hE⟩

set_option maxRecDepth 100000 in
set_option maxHeartbeats 4000000 in
theorem sums_bad2 (s : Bool) (A : Option Addr) (c : Nat) (L : List Nat) (e : Int) (t : Bool) (B : Option Addr) (d : Nat) (M : List Nat) (f : Int) (w : World)
    (hs : Sl w A c L) (hr : Sl w B d M) (_he1 : -9223372036854775808 ≤ e) (_he2 : e ≤ 9223372036854775807) (_hf1 : -9223372036854775808 ≤ f) (_hf2 : f ≤ 9223372036854775807) (hTb : Tb w) (h1 : L.length ≤ 4) (h2 : ¬ M.length ≤ 4) :
    Calls Tryd.prog 5 #[.agg #[.bool s, .slice A L.length c, .int .i64 e], .agg #[.bool t, .slice B M.length d, .int .i64 f]] w fun r w' => r = .returned (.bool true) ∧ Ext w w' := by
  have HA := Lib.hid (fun w (h : Tb w) => awake_any w h)
  have d1 : decide (4 < (L.length : Int)) = false := decide_eq_false (by omega)
  have d1' : decide (4 < L.length) = false := decide_eq_false (by omega)
  have d2 : decide (4 < (M.length : Int)) = true := decide_eq_true (by omega)
  have d2' : decide (4 < M.length) = true := decide_eq_true (by omega)
  clear h1 h2
  have hE := (Ext.alloc w (.cells #[.bool s, .slice A L.length c, .int .i64 e] 24)).trans (Ext.alloc (w.alloc (.cells #[.bool s, .slice A L.length c, .int .i64 e] 24)) (.cells #[.bool t, .slice B M.length d, .int .i64 f] 24))
  have b1 := (Box3.newAt (W := w) (g := w.heap.size) (by simp) s A L.length c e).alloc (.cells #[.bool t, .slice B M.length d, .int .i64 f] 24)
  have b2 := Box3.newAt (W := (w.alloc (.cells #[.bool s, .slice A L.length c, .int .i64 e] 24))) (g := w.heap.size + 1) (by simp) t B M.length d f
  replace hs := hs.below hE; replace hr := hr.below hE; replace hTb := hTb.below hE
  go_enter Tryd.func5, Tryd.ntmps5
  go_wp2_with fail
  (with_reducible refine (HA.out _ hTb).mono ?_)
  rintro r w1 ⟨rfl, hb⟩
  replace hE := hE.trans hb; replace hs := hs.below hb; replace hr := hr.below hb; replace hTb := hTb.below hb; replace b1 := b1.ext hb; replace b2 := b2.ext hb
  clear hb
  have xb10 := b1.c0; have xb11 := b1.c1; have xb12 := b1.c2
  have xb20 := b2.c0; have xb21 := b2.c1; have xb22 := b2.c2
  go_wp2_with fail
  (with_reducible refine (HA.out _ hTb).mono ?_)
  rintro r w2 ⟨rfl, hb⟩
  clear xb10 xb11 xb12 xb20 xb21 xb22
  replace hE := hE.trans hb; replace hs := hs.below hb; replace hr := hr.below hb; replace hTb := hTb.below hb; replace b1 := b1.ext hb; replace b2 := b2.ext hb
  clear hb
  go_wp2
  go_ret
  exact ⟨rfl, hE⟩

set_option maxRecDepth 100000 in
set_option maxHeartbeats 4000000 in
theorem sums_bad3 (s : Bool) (A : Option Addr) (c : Nat) (L : List Nat) (e : Int) (t : Bool) (B : Option Addr) (d : Nat) (M : List Nat) (f : Int) (w : World)
    (hs : Sl w A c L) (hr : Sl w B d M) (he1 : -9223372036854775808 ≤ e) (he2 : e ≤ 9223372036854775807) (_hf1 : -9223372036854775808 ≤ f) (_hf2 : f ≤ 9223372036854775807) (hTb : Tb w) (h1 : L.length ≤ 4) (h2 : M.length ≤ 4) (h3 : ¬ Dok s L e) :
    Calls Tryd.prog 5 #[.agg #[.bool s, .slice A L.length c, .int .i64 e], .agg #[.bool t, .slice B M.length d, .int .i64 f]] w fun r w' => r = .returned (.bool true) ∧ Ext w w' := by
  have HA := Lib.hid (fun w (h : Tb w) => awake_any w h)
  have d1 : decide (4 < (L.length : Int)) = false := decide_eq_false (by omega)
  have d1' : decide (4 < L.length) = false := decide_eq_false (by omega)
  have d2 : decide (4 < (M.length : Int)) = false := decide_eq_false (by omega)
  have d2' : decide (4 < M.length) = false := decide_eq_false (by omega)
  have H3 := Lib.hid (fun w (h : Sl w A c L) => refValid_any s A c L e w false h he1 he2 (by simp [h3]))
  clear h1 h2 h3
  have hE := (Ext.alloc w (.cells #[.bool s, .slice A L.length c, .int .i64 e] 24)).trans (Ext.alloc (w.alloc (.cells #[.bool s, .slice A L.length c, .int .i64 e] 24)) (.cells #[.bool t, .slice B M.length d, .int .i64 f] 24))
  have b1 := (Box3.newAt (W := w) (g := w.heap.size) (by simp) s A L.length c e).alloc (.cells #[.bool t, .slice B M.length d, .int .i64 f] 24)
  have b2 := Box3.newAt (W := (w.alloc (.cells #[.bool s, .slice A L.length c, .int .i64 e] 24))) (g := w.heap.size + 1) (by simp) t B M.length d f
  replace hs := hs.below hE; replace hr := hr.below hE; replace hTb := hTb.below hE
  go_enter Tryd.func5, Tryd.ntmps5
  go_wp2_with fail
  (with_reducible refine (HA.out _ hTb).mono ?_)
  rintro r w1 ⟨rfl, hb⟩
  replace hE := hE.trans hb; replace hs := hs.below hb; replace hr := hr.below hb; replace hTb := hTb.below hb; replace b1 := b1.ext hb; replace b2 := b2.ext hb
  clear hb
  have xb10 := b1.c0; have xb11 := b1.c1; have xb12 := b1.c2
  have xb20 := b2.c0; have xb21 := b2.c1; have xb22 := b2.c2
  go_wp2_with fail
  (with_reducible refine (H3.out _ hs).mono ?_)
  rintro r w2 ⟨rfl, hb⟩
  clear xb10 xb11 xb12 xb20 xb21 xb22
  replace hE := hE.trans hb; replace hs := hs.below hb; replace hr := hr.below hb; replace hTb := hTb.below hb; replace b1 := b1.ext hb; replace b2 := b2.ext hb
  clear hb
  have xb10 := b1.c0; have xb11 := b1.c1; have xb12 := b1.c2
  have xb20 := b2.c0; have xb21 := b2.c1; have xb22 := b2.c2
  go_wp2_with fail
  (with_reducible refine (HA.out _ hTb).mono ?_)
  rintro r w3 ⟨rfl, hb⟩
  clear xb10 xb11 xb12 xb20 xb21 xb22
  replace hE := hE.trans hb; replace hs := hs.below hb; replace hr := hr.below hb; replace hTb := hTb.below hb; replace b1 := b1.ext hb; replace b2 := b2.ext hb
  clear hb
  go_wp2
  go_ret
  exact ⟨rfl, hE⟩

set_option maxRecDepth 100000 in
set_option maxHeartbeats 4000000 in
theorem sums_bad4 (s : Bool) (A : Option Addr) (c : Nat) (L : List Nat) (e : Int) (t : Bool) (B : Option Addr) (d : Nat) (M : List Nat) (f : Int) (w : World)
    (hs : Sl w A c L) (hr : Sl w B d M) (he1 : -9223372036854775808 ≤ e) (he2 : e ≤ 9223372036854775807) (hf1 : -9223372036854775808 ≤ f) (hf2 : f ≤ 9223372036854775807) (hTb : Tb w) (h1 : L.length ≤ 4) (h2 : M.length ≤ 4) (h3 : Dok s L e) (h4 : ¬ Dok t M f) :
    Calls Tryd.prog 5 #[.agg #[.bool s, .slice A L.length c, .int .i64 e], .agg #[.bool t, .slice B M.length d, .int .i64 f]] w fun r w' => r = .returned (.bool true) ∧ Ext w w' := by
  have HA := Lib.hid (fun w (h : Tb w) => awake_any w h)
  have d1 : decide (4 < (L.length : Int)) = false := decide_eq_false (by omega)
  have d1' : decide (4 < L.length) = false := decide_eq_false (by omega)
  have d2 : decide (4 < (M.length : Int)) = false := decide_eq_false (by omega)
  have d2' : decide (4 < M.length) = false := decide_eq_false (by omega)
  have H3 := Lib.hid (fun w (h : Sl w A c L) => refValid_any s A c L e w true h he1 he2 (by simp [h3]))
  have H4 := Lib.hid (fun w (h : Sl w B d M) => refValid_any t B d M f w false h hf1 hf2 (by simp [h4]))
  clear h1 h2 h3 h4
  have hE := (Ext.alloc w (.cells #[.bool s, .slice A L.length c, .int .i64 e] 24)).trans (Ext.alloc (w.alloc (.cells #[.bool s, .slice A L.length c, .int .i64 e] 24)) (.cells #[.bool t, .slice B M.length d, .int .i64 f] 24))
  have b1 := (Box3.newAt (W := w) (g := w.heap.size) (by simp) s A L.length c e).alloc (.cells #[.bool t, .slice B M.length d, .int .i64 f] 24)
  have b2 := Box3.newAt (W := (w.alloc (.cells #[.bool s, .slice A L.length c, .int .i64 e] 24))) (g := w.heap.size + 1) (by simp) t B M.length d f
  replace hs := hs.below hE; replace hr := hr.below hE; replace hTb := hTb.below hE
  go_enter Tryd.func5, Tryd.ntmps5
  go_wp2_with fail
  (with_reducible refine (HA.out _ hTb).mono ?_)
  rintro r w1 ⟨rfl, hb⟩
  replace hE := hE.trans hb; replace hs := hs.below hb; replace hr := hr.below hb; replace hTb := hTb.below hb; replace b1 := b1.ext hb; replace b2 := b2.ext hb
  clear hb
  have xb10 := b1.c0; have xb11 := b1.c1; have xb12 := b1.c2
  have xb20 := b2.c0; have xb21 := b2.c1; have xb22 := b2.c2
  go_wp2_with fail
  (with_reducible refine (H3.out _ hs).mono ?_)
  rintro r w2 ⟨rfl, hb⟩
  clear xb10 xb11 xb12 xb20 xb21 xb22
  replace hE := hE.trans hb; replace hs := hs.below hb; replace hr := hr.below hb; replace hTb := hTb.below hb; replace b1 := b1.ext hb; replace b2 := b2.ext hb
  clear hb
  have xb10 := b1.c0; have xb11 := b1.c1; have xb12 := b1.c2
  have xb20 := b2.c0; have xb21 := b2.c1; have xb22 := b2.c2
  go_wp2_with fail
  (with_reducible refine (H4.out _ hr).mono ?_)
  rintro r w3 ⟨rfl, hb⟩
  clear xb10 xb11 xb12 xb20 xb21 xb22
  replace hE := hE.trans hb; replace hs := hs.below hb; replace hr := hr.below hb; replace hTb := hTb.below hb; replace b1 := b1.ext hb; replace b2 := b2.ext hb
  clear hb
  have xb10 := b1.c0; have xb11 := b1.c1; have xb12 := b1.c2
  have xb20 := b2.c0; have xb21 := b2.c1; have xb22 := b2.c2
  go_wp2_with fail
  (with_reducible refine (HA.out _ hTb).mono ?_)
  rintro r w4 ⟨rfl, hb⟩
  clear xb10 xb11 xb12 xb20 xb21 xb22
  replace hE := hE.trans hb; replace hs := hs.below hb; replace hr := hr.below hb; replace hTb := hTb.below hb; replace b1 := b1.ext hb; replace b2 := b2.ext hb
  clear hb
  go_wp2
  go_ret
  exact ⟨rfl, hE⟩

set_option maxRecDepth 100000 in
set_option maxHeartbeats 4000000 in
theorem sums_bad5 (s : Bool) (A : Option Addr) (c : Nat) (L : List Nat) (e : Int) (t : Bool) (B : Option Addr) (d : Nat) (M : List Nat) (f : Int) (w : World)
    (hs : Sl w A c L) (hr : Sl w B d M) (he1 : -9223372036854775808 ≤ e) (he2 : e ≤ 9223372036854775807) (hf1 : -9223372036854775808 ≤ f) (hf2 : f ≤ 9223372036854775807) (hTb : Tb w) (h1 : L.length ≤ 4) (h2 : M.length ≤ 4) (h3 : Dok s L e) (h4 : Dok t M f) (h5 : ¬ 0 < Dy.sign ⟨s, val L, e⟩) :
    Calls Tryd.prog 5 #[.agg #[.bool s, .slice A L.length c, .int .i64 e], .agg #[.bool t, .slice B M.length d, .int .i64 f]] w fun r w' => r = .returned (.bool true) ∧ Ext w w' := by
  have HA := Lib.hid (fun w (h : Tb w) => awake_any w h)
  have d1 : decide (4 < (L.length : Int)) = false := decide_eq_false (by omega)
  have d1' : decide (4 < L.length) = false := decide_eq_false (by omega)
  have d2 : decide (4 < (M.length : Int)) = false := decide_eq_false (by omega)
  have d2' : decide (4 < M.length) = false := decide_eq_false (by omega)
  have H3 := Lib.hid (fun w (h : Sl w A c L) => refValid_any s A c L e w true h he1 he2 (by simp [h3]))
  have H4 := Lib.hid (fun w (h : Sl w B d M) => refValid_any t B d M f w true h hf1 hf2 (by simp [h4]))
  have H5 := Lib.hid (fun w (h : Sl w A c L) => refSign_any s A c L e w h h3.1)
  generalize Dy.sign ⟨s, val L, e⟩ = sa at *
  have d5 : decide (sa ≤ 0) = true := decide_eq_true (by omega)
  clear h1 h2 h3 h4 h5
  have hE := (Ext.alloc w (.cells #[.bool s, .slice A L.length c, .int .i64 e] 24)).trans (Ext.alloc (w.alloc (.cells #[.bool s, .slice A L.length c, .int .i64 e] 24)) (.cells #[.bool t, .slice B M.length d, .int .i64 f] 24))
  have b1 := (Box3.newAt (W := w) (g := w.heap.size) (by simp) s A L.length c e).alloc (.cells #[.bool t, .slice B M.length d, .int .i64 f] 24)
  have b2 := Box3.newAt (W := (w.alloc (.cells #[.bool s, .slice A L.length c, .int .i64 e] 24))) (g := w.heap.size + 1) (by simp) t B M.length d f
  replace hs := hs.below hE; replace hr := hr.below hE; replace hTb := hTb.below hE
  go_enter Tryd.func5, Tryd.ntmps5
  go_wp2_with fail
  (with_reducible refine (HA.out _ hTb).mono ?_)
  rintro r w1 ⟨rfl, hb⟩
  replace hE := hE.trans hb; replace hs := hs.below hb; replace hr := hr.below hb; replace hTb := hTb.below hb; replace b1 := b1.ext hb; replace b2 := b2.ext hb
  clear hb
  have xb10 := b1.c0; have xb11 := b1.c1; have xb12 := b1.c2
  have xb20 := b2.c0; have xb21 := b2.c1; have xb22 := b2.c2
  go_wp2_with fail
  (with_reducible refine (H3.out _ hs).mono ?_)
  rintro r w2 ⟨rfl, hb⟩
  clear xb10 xb11 xb12 xb20 xb21 xb22
  replace hE := hE.trans hb; replace hs := hs.below hb; replace hr := hr.below hb; replace hTb := hTb.below hb; replace b1 := b1.ext hb; replace b2 := b2.ext hb
  clear hb
  have xb10 := b1.c0; have xb11 := b1.c1; have xb12 := b1.c2
  have xb20 := b2.c0; have xb21 := b2.c1; have xb22 := b2.c2
  go_wp2_with fail
  (with_reducible refine (H4.out _ hr).mono ?_)
  rintro r w3 ⟨rfl, hb⟩
  clear xb10 xb11 xb12 xb20 xb21 xb22
  replace hE := hE.trans hb; replace hs := hs.below hb; replace hr := hr.below hb; replace hTb := hTb.below hb; replace b1 := b1.ext hb; replace b2 := b2.ext hb
  clear hb
  have xb10 := b1.c0; have xb11 := b1.c1; have xb12 := b1.c2
  have xb20 := b2.c0; have xb21 := b2.c1; have xb22 := b2.c2
  go_wp2_with fail
  (with_reducible refine (H5.out _ hs).mono ?_)
  rintro r w4 ⟨rfl, hb⟩
  clear xb10 xb11 xb12 xb20 xb21 xb22
  replace hE := hE.trans hb; replace hs := hs.below hb; replace hr := hr.below hb; replace hTb := hTb.below hb; replace b1 := b1.ext hb; replace b2 := b2.ext hb
  clear hb
  have xb10 := b1.c0; have xb11 := b1.c1; have xb12 := b1.c2
  have xb20 := b2.c0; have xb21 := b2.c1; have xb22 := b2.c2
  go_wp2_with fail
  (with_reducible refine (HA.out _ hTb).mono ?_)
  rintro r w5 ⟨rfl, hb⟩
  clear xb10 xb11 xb12 xb20 xb21 xb22
  replace hE := hE.trans hb; replace hs := hs.below hb; replace hr := hr.below hb; replace hTb := hTb.below hb; replace b1 := b1.ext hb; replace b2 := b2.ext hb
  clear hb
  go_wp2
  go_ret
  exact ⟨rfl, hE⟩

set_option maxRecDepth 100000 in
set_option maxHeartbeats 4000000 in
theorem sums_bad6 (s : Bool) (A : Option Addr) (c : Nat) (L : List Nat) (e : Int) (t : Bool) (B : Option Addr) (d : Nat) (M : List Nat) (f : Int) (w : World)
    (hs : Sl w A c L) (hr : Sl w B d M) (he1 : -9223372036854775808 ≤ e) (he2 : e ≤ 9223372036854775807) (hf1 : -9223372036854775808 ≤ f) (hf2 : f ≤ 9223372036854775807) (hTb : Tb w) (h1 : L.length ≤ 4) (h2 : M.length ≤ 4) (h3 : Dok s L e) (h4 : Dok t M f) (h5 : 0 < Dy.sign ⟨s, val L, e⟩) (h6 : ¬ 0 < Dy.sign ⟨t, val M, f⟩) :
    Calls Tryd.prog 5 #[.agg #[.bool s, .slice A L.length c, .int .i64 e], .agg #[.bool t, .slice B M.length d, .int .i64 f]] w fun r w' => r = .returned (.bool true) ∧ Ext w w' := by
  have HA := Lib.hid (fun w (h : Tb w) => awake_any w h)
  have d1 : decide (4 < (L.length : Int)) = false := decide_eq_false (by omega)
  have d1' : decide (4 < L.length) = false := decide_eq_false (by omega)
  have d2 : decide (4 < (M.length : Int)) = false := decide_eq_false (by omega)
  have d2' : decide (4 < M.length) = false := decide_eq_false (by omega)
  have H3 := Lib.hid (fun w (h : Sl w A c L) => refValid_any s A c L e w true h he1 he2 (by simp [h3]))
  have H4 := Lib.hid (fun w (h : Sl w B d M) => refValid_any t B d M f w true h hf1 hf2 (by simp [h4]))
  have H5 := Lib.hid (fun w (h : Sl w A c L) => refSign_any s A c L e w h h3.1)
  generalize Dy.sign ⟨s, val L, e⟩ = sa at *
  have d5 : decide (sa ≤ 0) = false := decide_eq_false (by omega)
  have H6 := Lib.hid (fun w (h : Sl w B d M) => refSign_any t B d M f w h h4.1)
  generalize Dy.sign ⟨t, val M, f⟩ = sb at *
  have d6 : decide (sb ≤ 0) = true := decide_eq_true (by omega)
  clear h1 h2 h3 h4 h5 h6
  have hE := (Ext.alloc w (.cells #[.bool s, .slice A L.length c, .int .i64 e] 24)).trans (Ext.alloc (w.alloc (.cells #[.bool s, .slice A L.length c, .int .i64 e] 24)) (.cells #[.bool t, .slice B M.length d, .int .i64 f] 24))
  have b1 := (Box3.newAt (W := w) (g := w.heap.size) (by simp) s A L.length c e).alloc (.cells #[.bool t, .slice B M.length d, .int .i64 f] 24)
  have b2 := Box3.newAt (W := (w.alloc (.cells #[.bool s, .slice A L.length c, .int .i64 e] 24))) (g := w.heap.size + 1) (by simp) t B M.length d f
  replace hs := hs.below hE; replace hr := hr.below hE; replace hTb := hTb.below hE
  go_enter Tryd.func5, Tryd.ntmps5
  go_wp2_with fail
  (with_reducible refine (HA.out _ hTb).mono ?_)
  rintro r w1 ⟨rfl, hb⟩
  replace hE := hE.trans hb; replace hs := hs.below hb; replace hr := hr.below hb; replace hTb := hTb.below hb; replace b1 := b1.ext hb; replace b2 := b2.ext hb
  clear hb
  have xb10 := b1.c0; have xb11 := b1.c1; have xb12 := b1.c2
  have xb20 := b2.c0; have xb21 := b2.c1; have xb22 := b2.c2
  go_wp2_with fail
  (with_reducible refine (H3.out _ hs).mono ?_)
  rintro r w2 ⟨rfl, hb⟩
  clear xb10 xb11 xb12 xb20 xb21 xb22
  replace hE := hE.trans hb; replace hs := hs.below hb; replace hr := hr.below hb; replace hTb := hTb.below hb; replace b1 := b1.ext hb; replace b2 := b2.ext hb
  clear hb
  have xb10 := b1.c0; have xb11 := b1.c1; have xb12 := b1.c2
  have xb20 := b2.c0; have xb21 := b2.c1; have xb22 := b2.c2
  go_wp2_with fail
  (with_reducible refine (H4.out _ hr).mono ?_)
  rintro r w3 ⟨rfl, hb⟩
  clear xb10 xb11 xb12 xb20 xb21 xb22
  replace hE := hE.trans hb; replace hs := hs.below hb; replace hr := hr.below hb; replace hTb := hTb.below hb; replace b1 := b1.ext hb; replace b2 := b2.ext hb
  clear hb
  have xb10 := b1.c0; have xb11 := b1.c1; have xb12 := b1.c2
  have xb20 := b2.c0; have xb21 := b2.c1; have xb22 := b2.c2
  go_wp2_with fail
  (with_reducible refine (H5.out _ hs).mono ?_)
  rintro r w4 ⟨rfl, hb⟩
  clear xb10 xb11 xb12 xb20 xb21 xb22
  replace hE := hE.trans hb; replace hs := hs.below hb; replace hr := hr.below hb; replace hTb := hTb.below hb; replace b1 := b1.ext hb; replace b2 := b2.ext hb
  clear hb
  have xb10 := b1.c0; have xb11 := b1.c1; have xb12 := b1.c2
  have xb20 := b2.c0; have xb21 := b2.c1; have xb22 := b2.c2
  go_wp2_with fail
  (with_reducible refine (H6.out _ hr).mono ?_)
  rintro r w5 ⟨rfl, hb⟩
  clear xb10 xb11 xb12 xb20 xb21 xb22
  replace hE := hE.trans hb; replace hs := hs.below hb; replace hr := hr.below hb; replace hTb := hTb.below hb; replace b1 := b1.ext hb; replace b2 := b2.ext hb
  clear hb
  have xb10 := b1.c0; have xb11 := b1.c1; have xb12 := b1.c2
  have xb20 := b2.c0; have xb21 := b2.c1; have xb22 := b2.c2
  go_wp2_with fail
  (with_reducible refine (HA.out _ hTb).mono ?_)
  rintro r w6 ⟨rfl, hb⟩
  clear xb10 xb11 xb12 xb20 xb21 xb22
  replace hE := hE.trans hb; replace hs := hs.below hb; replace hr := hr.below hb; replace hTb := hTb.below hb; replace b1 := b1.ext hb; replace b2 := b2.ext hb
  clear hb
  go_wp2
  go_ret
  exact ⟨rfl, hE⟩

set_option maxRecDepth 100000 in
set_option maxHeartbeats 4000000 in
theorem sums_bad7 (s : Bool) (A : Option Addr) (c : Nat) (L : List Nat) (e : Int) (t : Bool) (B : Option Addr) (d : Nat) (M : List Nat) (f : Int) (w : World)
    (hs : Sl w A c L) (hr : Sl w B d M) (he1 : -9223372036854775808 ≤ e) (he2 : e ≤ 9223372036854775807) (hf1 : -9223372036854775808 ≤ f) (hf2 : f ≤ 9223372036854775807) (hTb : Tb w) (h1 : L.length ≤ 4) (h2 : M.length ≤ 4) (h3 : Dok s L e) (h4 : Dok t M f) (h5 : 0 < Dy.sign ⟨s, val L, e⟩) (h6 : 0 < Dy.sign ⟨t, val M, f⟩) (h7 : ¬ -500 ≤ e) :
    Calls Tryd.prog 5 #[.agg #[.bool s, .slice A L.length c, .int .i64 e], .agg #[.bool t, .slice B M.length d, .int .i64 f]] w fun r w' => r = .returned (.bool true) ∧ Ext w w' := by
  have HA := Lib.hid (fun w (h : Tb w) => awake_any w h)
  have d1 : decide (4 < (L.length : Int)) = false := decide_eq_false (by omega)
  have d1' : decide (4 < L.length) = false := decide_eq_false (by omega)
  have d2 : decide (4 < (M.length : Int)) = false := decide_eq_false (by omega)
  have d2' : decide (4 < M.length) = false := decide_eq_false (by omega)
  have H3 := Lib.hid (fun w (h : Sl w A c L) => refValid_any s A c L e w true h he1 he2 (by simp [h3]))
  have H4 := Lib.hid (fun w (h : Sl w B d M) => refValid_any t B d M f w true h hf1 hf2 (by simp [h4]))
  have H5 := Lib.hid (fun w (h : Sl w A c L) => refSign_any s A c L e w h h3.1)
  generalize Dy.sign ⟨s, val L, e⟩ = sa at *
  have d5 : decide (sa ≤ 0) = false := decide_eq_false (by omega)
  have H6 := Lib.hid (fun w (h : Sl w B d M) => refSign_any t B d M f w h h4.1)
  generalize Dy.sign ⟨t, val M, f⟩ = sb at *
  have d6 : decide (sb ≤ 0) = false := decide_eq_false (by omega)
  have d7 : decide (e < -500) = true := decide_eq_true (by omega)
  clear h1 h2 h3 h4 h5 h6 h7
  have hE := (Ext.alloc w (.cells #[.bool s, .slice A L.length c, .int .i64 e] 24)).trans (Ext.alloc (w.alloc (.cells #[.bool s, .slice A L.length c, .int .i64 e] 24)) (.cells #[.bool t, .slice B M.length d, .int .i64 f] 24))
  have b1 := (Box3.newAt (W := w) (g := w.heap.size) (by simp) s A L.length c e).alloc (.cells #[.bool t, .slice B M.length d, .int .i64 f] 24)
  have b2 := Box3.newAt (W := (w.alloc (.cells #[.bool s, .slice A L.length c, .int .i64 e] 24))) (g := w.heap.size + 1) (by simp) t B M.length d f
  replace hs := hs.below hE; replace hr := hr.below hE; replace hTb := hTb.below hE
  go_enter Tryd.func5, Tryd.ntmps5
  go_wp2_with fail
  (with_reducible refine (HA.out _ hTb).mono ?_)
  rintro r w1 ⟨rfl, hb⟩
  replace hE := hE.trans hb; replace hs := hs.below hb; replace hr := hr.below hb; replace hTb := hTb.below hb; replace b1 := b1.ext hb; replace b2 := b2.ext hb
  clear hb
  have xb10 := b1.c0; have xb11 := b1.c1; have xb12 := b1.c2
  have xb20 := b2.c0; have xb21 := b2.c1; have xb22 := b2.c2
  go_wp2_with fail
  (with_reducible refine (H3.out _ hs).mono ?_)
  rintro r w2 ⟨rfl, hb⟩
  clear xb10 xb11 xb12 xb20 xb21 xb22
  replace hE := hE.trans hb; replace hs := hs.below hb; replace hr := hr.below hb; replace hTb := hTb.below hb; replace b1 := b1.ext hb; replace b2 := b2.ext hb
  clear hb
  have xb10 := b1.c0; have xb11 := b1.c1; have xb12 := b1.c2
  have xb20 := b2.c0; have xb21 := b2.c1; have xb22 := b2.c2
  go_wp2_with fail
  (with_reducible refine (H4.out _ hr).mono ?_)
  rintro r w3 ⟨rfl, hb⟩
  clear xb10 xb11 xb12 xb20 xb21 xb22
  replace hE := hE.trans hb; replace hs := hs.below hb; replace hr := hr.below hb; replace hTb := hTb.below hb; replace b1 := b1.ext hb; replace b2 := b2.ext hb
  clear hb
  have xb10 := b1.c0; have xb11 := b1.c1; have xb12 := b1.c2
  have xb20 := b2.c0; have xb21 := b2.c1; have xb22 := b2.c2
  go_wp2_with fail
  (with_reducible refine (H5.out _ hs).mono ?_)
  rintro r w4 ⟨rfl, hb⟩
  clear xb10 xb11 xb12 xb20 xb21 xb22
  replace hE := hE.trans hb; replace hs := hs.below hb; replace hr := hr.below hb; replace hTb := hTb.below hb; replace b1 := b1.ext hb; replace b2 := b2.ext hb
  clear hb
  have xb10 := b1.c0; have xb11 := b1.c1; have xb12 := b1.c2
  have xb20 := b2.c0; have xb21 := b2.c1; have xb22 := b2.c2
  go_wp2_with fail
  (with_reducible refine (H6.out _ hr).mono ?_)
  rintro r w5 ⟨rfl, hb⟩
  clear xb10 xb11 xb12 xb20 xb21 xb22
  replace hE := hE.trans hb; replace hs := hs.below hb; replace hr := hr.below hb; replace hTb := hTb.below hb; replace b1 := b1.ext hb; replace b2 := b2.ext hb
  clear hb
  have xb10 := b1.c0; have xb11 := b1.c1; have xb12 := b1.c2
  have xb20 := b2.c0; have xb21 := b2.c1; have xb22 := b2.c2
  go_wp2_with fail
  (with_reducible refine (HA.out _ hTb).mono ?_)
  rintro r w6 ⟨rfl, hb⟩
  clear xb10 xb11 xb12 xb20 xb21 xb22
  replace hE := hE.trans hb; replace hs := hs.below hb; replace hr := hr.below hb; replace hTb := hTb.below hb; replace b1 := b1.ext hb; replace b2 := b2.ext hb
  clear hb
  go_wp2
  go_ret
  exact ⟨rfl, hE⟩

set_option maxRecDepth 100000 in
set_option maxHeartbeats 4000000 in
theorem sums_bad8 (s : Bool) (A : Option Addr) (c : Nat) (L : List Nat) (e : Int) (t : Bool) (B : Option Addr) (d : Nat) (M : List Nat) (f : Int) (w : World)
    (hs : Sl w A c L) (hr : Sl w B d M) (he1 : -9223372036854775808 ≤ e) (he2 : e ≤ 9223372036854775807) (hf1 : -9223372036854775808 ≤ f) (hf2 : f ≤ 9223372036854775807) (hTb : Tb w) (h1 : L.length ≤ 4) (h2 : M.length ≤ 4) (h3 : Dok s L e) (h4 : Dok t M f) (h5 : 0 < Dy.sign ⟨s, val L, e⟩) (h6 : 0 < Dy.sign ⟨t, val M, f⟩) (h7 : -500 ≤ e) (h8 : ¬ -500 ≤ f) :
    Calls Tryd.prog 5 #[.agg #[.bool s, .slice A L.length c, .int .i64 e], .agg #[.bool t, .slice B M.length d, .int .i64 f]] w fun r w' => r = .returned (.bool true) ∧ Ext w w' := by
  have HA := Lib.hid (fun w (h : Tb w) => awake_any w h)
  have d1 : decide (4 < (L.length : Int)) = false := decide_eq_false (by omega)
  have d1' : decide (4 < L.length) = false := decide_eq_false (by omega)
  have d2 : decide (4 < (M.length : Int)) = false := decide_eq_false (by omega)
  have d2' : decide (4 < M.length) = false := decide_eq_false (by omega)
  have H3 := Lib.hid (fun w (h : Sl w A c L) => refValid_any s A c L e w true h he1 he2 (by simp [h3]))
  have H4 := Lib.hid (fun w (h : Sl w B d M) => refValid_any t B d M f w true h hf1 hf2 (by simp [h4]))
  have H5 := Lib.hid (fun w (h : Sl w A c L) => refSign_any s A c L e w h h3.1)
  generalize Dy.sign ⟨s, val L, e⟩ = sa at *
  have d5 : decide (sa ≤ 0) = false := decide_eq_false (by omega)
  have H6 := Lib.hid (fun w (h : Sl w B d M) => refSign_any t B d M f w h h4.1)
  generalize Dy.sign ⟨t, val M, f⟩ = sb at *
  have d6 : decide (sb ≤ 0) = false := decide_eq_false (by omega)
  have d7 : decide (e < -500) = false := decide_eq_false (by omega)
  have d8 : decide (f < -500) = true := decide_eq_true (by omega)
  clear h1 h2 h3 h4 h5 h6 h7 h8
  have hE := (Ext.alloc w (.cells #[.bool s, .slice A L.length c, .int .i64 e] 24)).trans (Ext.alloc (w.alloc (.cells #[.bool s, .slice A L.length c, .int .i64 e] 24)) (.cells #[.bool t, .slice B M.length d, .int .i64 f] 24))
  have b1 := (Box3.newAt (W := w) (g := w.heap.size) (by simp) s A L.length c e).alloc (.cells #[.bool t, .slice B M.length d, .int .i64 f] 24)
  have b2 := Box3.newAt (W := (w.alloc (.cells #[.bool s, .slice A L.length c, .int .i64 e] 24))) (g := w.heap.size + 1) (by simp) t B M.length d f
  replace hs := hs.below hE; replace hr := hr.below hE; replace hTb := hTb.below hE
  go_enter Tryd.func5, Tryd.ntmps5
  go_wp2_with fail
  (with_reducible refine (HA.out _ hTb).mono ?_)
  rintro r w1 ⟨rfl, hb⟩
  replace hE := hE.trans hb; replace hs := hs.below hb; replace hr := hr.below hb; replace hTb := hTb.below hb; replace b1 := b1.ext hb; replace b2 := b2.ext hb
  clear hb
  have xb10 := b1.c0; have xb11 := b1.c1; have xb12 := b1.c2
  have xb20 := b2.c0; have xb21 := b2.c1; have xb22 := b2.c2
  go_wp2_with fail
  (with_reducible refine (H3.out _ hs).mono ?_)
  rintro r w2 ⟨rfl, hb⟩
  clear xb10 xb11 xb12 xb20 xb21 xb22
  replace hE := hE.trans hb; replace hs := hs.below hb; replace hr := hr.below hb; replace hTb := hTb.below hb; replace b1 := b1.ext hb; replace b2 := b2.ext hb
  clear hb
  have xb10 := b1.c0; have xb11 := b1.c1; have xb12 := b1.c2
  have xb20 := b2.c0; have xb21 := b2.c1; have xb22 := b2.c2
  go_wp2_with fail
  (with_reducible refine (H4.out _ hr).mono ?_)
  rintro r w3 ⟨rfl, hb⟩
  clear xb10 xb11 xb12 xb20 xb21 xb22
  replace hE := hE.trans hb; replace hs := hs.below hb; replace hr := hr.below hb; replace hTb := hTb.below hb; replace b1 := b1.ext hb; replace b2 := b2.ext hb
  clear hb
  have xb10 := b1.c0; have xb11 := b1.c1; have xb12 := b1.c2
  have xb20 := b2.c0; have xb21 := b2.c1; have xb22 := b2.c2
  go_wp2_with fail
  (with_reducible refine (H5.out _ hs).mono ?_)
  rintro r w4 ⟨rfl, hb⟩
  clear xb10 xb11 xb12 xb20 xb21 xb22
  replace hE := hE.trans hb; replace hs := hs.below hb; replace hr := hr.below hb; replace hTb := hTb.below hb; replace b1 := b1.ext hb; replace b2 := b2.ext hb
  clear hb
  have xb10 := b1.c0; have xb11 := b1.c1; have xb12 := b1.c2
  have xb20 := b2.c0; have xb21 := b2.c1; have xb22 := b2.c2
  go_wp2_with fail
  (with_reducible refine (H6.out _ hr).mono ?_)
  rintro r w5 ⟨rfl, hb⟩
  clear xb10 xb11 xb12 xb20 xb21 xb22
  replace hE := hE.trans hb; replace hs := hs.below hb; replace hr := hr.below hb; replace hTb := hTb.below hb; replace b1 := b1.ext hb; replace b2 := b2.ext hb
  clear hb
  have xb10 := b1.c0; have xb11 := b1.c1; have xb12 := b1.c2
  have xb20 := b2.c0; have xb21 := b2.c1; have xb22 := b2.c2
  go_wp2_with fail
  (with_reducible refine (HA.out _ hTb).mono ?_)
  rintro r w6 ⟨rfl, hb⟩
  clear xb10 xb11 xb12 xb20 xb21 xb22
  replace hE := hE.trans hb; replace hs := hs.below hb; replace hr := hr.below hb; replace hTb := hTb.below hb; replace b1 := b1.ext hb; replace b2 := b2.ext hb
  clear hb
  go_wp2
  go_ret
  exact ⟨rfl, hE⟩

set_option maxRecDepth 100000 in
set_option maxHeartbeats 4000000 in
theorem sums_bad9 (s : Bool) (A : Option Addr) (c : Nat) (L : List Nat) (e : Int) (t : Bool) (B : Option Addr) (d : Nat) (M : List Nat) (f : Int) (w : World)
    (hs : Sl w A c L) (hr : Sl w B d M) (he1 : -9223372036854775808 ≤ e) (he2 : e ≤ 9223372036854775807) (hf1 : -9223372036854775808 ≤ f) (hf2 : f ≤ 9223372036854775807) (hTb : Tb w) (h1 : L.length ≤ 4) (h2 : M.length ≤ 4) (h3 : Dok s L e) (h4 : Dok t M f) (h5 : 0 < Dy.sign ⟨s, val L, e⟩) (h6 : 0 < Dy.sign ⟨t, val M, f⟩) (h7 : -500 ≤ e) (h8 : -500 ≤ f) (h9 : ¬ Dy.top ⟨s, val L, e⟩ ≤ 500) :
    Calls Tryd.prog 5 #[.agg #[.bool s, .slice A L.length c, .int .i64 e], .agg #[.bool t, .slice B M.length d, .int .i64 f]] w fun r w' => r = .returned (.bool true) ∧ Ext w w' := by
  have HA := Lib.hid (fun w (h : Tb w) => awake_any w h)
  have H9 := Lib.hid (fun w (h : Sl w A c L) => refTop_any s A c L e w h h3.1 (by omega) (by have := h3.exp; omega) (by have := h3.exp; omega))
  generalize Dy.top ⟨s, val L, e⟩ = tp at *
  have d9 : decide (500 < tp) = true := decide_eq_true (by omega)
  have d1 : decide (4 < (L.length : Int)) = false := decide_eq_false (by omega)
  have d1' : decide (4 < L.length) = false := decide_eq_false (by omega)
  have d2 : decide (4 < (M.length : Int)) = false := decide_eq_false (by omega)
  have d2' : decide (4 < M.length) = false := decide_eq_false (by omega)
  have H3 := Lib.hid (fun w (h : Sl w A c L) => refValid_any s A c L e w true h he1 he2 (by simp [h3]))
  have H4 := Lib.hid (fun w (h : Sl w B d M) => refValid_any t B d M f w true h hf1 hf2 (by simp [h4]))
  have H5 := Lib.hid (fun w (h : Sl w A c L) => refSign_any s A c L e w h h3.1)
  generalize Dy.sign ⟨s, val L, e⟩ = sa at *
  have d5 : decide (sa ≤ 0) = false := decide_eq_false (by omega)
  have H6 := Lib.hid (fun w (h : Sl w B d M) => refSign_any t B d M f w h h4.1)
  generalize Dy.sign ⟨t, val M, f⟩ = sb at *
  have d6 : decide (sb ≤ 0) = false := decide_eq_false (by omega)
  have d7 : decide (e < -500) = false := decide_eq_false (by omega)
  have d8 : decide (f < -500) = false := decide_eq_false (by omega)
  clear h1 h2 h3 h4 h5 h6 h7 h8 h9
  have hE := (Ext.alloc w (.cells #[.bool s, .slice A L.length c, .int .i64 e] 24)).trans (Ext.alloc (w.alloc (.cells #[.bool s, .slice A L.length c, .int .i64 e] 24)) (.cells #[.bool t, .slice B M.length d, .int .i64 f] 24))
  have b1 := (Box3.newAt (W := w) (g := w.heap.size) (by simp) s A L.length c e).alloc (.cells #[.bool t, .slice B M.length d, .int .i64 f] 24)
  have b2 := Box3.newAt (W := (w.alloc (.cells #[.bool s, .slice A L.length c, .int .i64 e] 24))) (g := w.heap.size + 1) (by simp) t B M.length d f
  replace hs := hs.below hE; replace hr := hr.below hE; replace hTb := hTb.below hE
  go_enter Tryd.func5, Tryd.ntmps5
  go_wp2_with fail
  (with_reducible refine (HA.out _ hTb).mono ?_)
  rintro r w1 ⟨rfl, hb⟩
  replace hE := hE.trans hb; replace hs := hs.below hb; replace hr := hr.below hb; replace hTb := hTb.below hb; replace b1 := b1.ext hb; replace b2 := b2.ext hb
  clear hb
  have xb10 := b1.c0; have xb11 := b1.c1; have xb12 := b1.c2
  have xb20 := b2.c0; have xb21 := b2.c1; have xb22 := b2.c2
  go_wp2_with fail
  (with_reducible refine (H3.out _ hs).mono ?_)
  rintro r w2 ⟨rfl, hb⟩
  clear xb10 xb11 xb12 xb20 xb21 xb22
  replace hE := hE.trans hb; replace hs := hs.below hb; replace hr := hr.below hb; replace hTb := hTb.below hb; replace b1 := b1.ext hb; replace b2 := b2.ext hb
  clear hb
  have xb10 := b1.c0; have xb11 := b1.c1; have xb12 := b1.c2
  have xb20 := b2.c0; have xb21 := b2.c1; have xb22 := b2.c2
  go_wp2_with fail
  (with_reducible refine (H4.out _ hr).mono ?_)
  rintro r w3 ⟨rfl, hb⟩
  clear xb10 xb11 xb12 xb20 xb21 xb22
  replace hE := hE.trans hb; replace hs := hs.below hb; replace hr := hr.below hb; replace hTb := hTb.below hb; replace b1 := b1.ext hb; replace b2 := b2.ext hb
  clear hb
  have xb10 := b1.c0; have xb11 := b1.c1; have xb12 := b1.c2
  have xb20 := b2.c0; have xb21 := b2.c1; have xb22 := b2.c2
  go_wp2_with fail
  (with_reducible refine (H5.out _ hs).mono ?_)
  rintro r w4 ⟨rfl, hb⟩
  clear xb10 xb11 xb12 xb20 xb21 xb22
  replace hE := hE.trans hb; replace hs := hs.below hb; replace hr := hr.below hb; replace hTb := hTb.below hb; replace b1 := b1.ext hb; replace b2 := b2.ext hb
  clear hb
  have xb10 := b1.c0; have xb11 := b1.c1; have xb12 := b1.c2
  have xb20 := b2.c0; have xb21 := b2.c1; have xb22 := b2.c2
  go_wp2_with fail
  (with_reducible refine (H6.out _ hr).mono ?_)
  rintro r w5 ⟨rfl, hb⟩
  clear xb10 xb11 xb12 xb20 xb21 xb22
  replace hE := hE.trans hb; replace hs := hs.below hb; replace hr := hr.below hb; replace hTb := hTb.below hb; replace b1 := b1.ext hb; replace b2 := b2.ext hb
  clear hb
  have xb10 := b1.c0; have xb11 := b1.c1; have xb12 := b1.c2
  have xb20 := b2.c0; have xb21 := b2.c1; have xb22 := b2.c2
  go_wp2_with fail
  (with_reducible refine (H9.out _ hs).mono ?_)
  rintro r w6 ⟨rfl, hb⟩
  clear xb10 xb11 xb12 xb20 xb21 xb22
  replace hE := hE.trans hb; replace hs := hs.below hb; replace hr := hr.below hb; replace hTb := hTb.below hb; replace b1 := b1.ext hb; replace b2 := b2.ext hb
  clear hb
  have xb10 := b1.c0; have xb11 := b1.c1; have xb12 := b1.c2
  have xb20 := b2.c0; have xb21 := b2.c1; have xb22 := b2.c2
  go_wp2_with fail
  (with_reducible refine (HA.out _ hTb).mono ?_)
  rintro r w7 ⟨rfl, hb⟩
  clear xb10 xb11 xb12 xb20 xb21 xb22
  replace hE := hE.trans hb; replace hs := hs.below hb; replace hr := hr.below hb; replace hTb := hTb.below hb; replace b1 := b1.ext hb; replace b2 := b2.ext hb
  clear hb
  go_wp2
  go_ret
  exact ⟨rfl, hE⟩
end Go.Proofs.YtofdlkgpgcnjhaaDoor
