/- Plain laws: numbers counted in units of 2^-501, and the steps that are fitted to a time. -/
import Derived.Test.YtofdlkgpgcnjhaaDoorPs
namespace Go.Proofs.YtofdlkgpgcnjhaaDoor.Fp

/-- r times 2^-501. -/
def D (r : Nat) : Dy := canon false r (-501)

theorem D_canon (r : Nat) : (D r).Canon := canon_canon _ _ _
theorem D_above (r : Nat) : Above (D r) (-501) := above_canon (Int.le_refl _)
theorem D_num (r : Nat) : (D r).num (-501) = (r : Int) := by
  unfold D; rw [num_canonF (Int.le_refl _)]; simp
theorem D_neg (r : Nat) : (D r).neg = false := by unfold D canon; split <;> rfl
theorem D_zero : D 0 = zeroD := rfl

theorem D_ext {d : Dy} {r : Nat} (hc : d.Canon) (ha : Above d (-501)) (hn : d.num (-501) = (r : Int)) : d = D r :=
  dy_ext hc (D_canon r) ha (D_above r) (by rw [hn, D_num])
theorem D_inj {a b : Nat} (h : D a = D b) : a = b := by
  have := congrArg (Dy.num · (-501)) h
  simp only [D_num] at this
  omega

theorem D_m0 {r : Nat} (h : r ≠ 0) : (D r).m ≠ 0 := by
  unfold D canon; rw [if_neg h]; have := odd_div_ctz h; simp only; omega
theorem D_sign (r : Nat) : (D r).sign = if r = 0 then 0 else 1 := by
  unfold D; rw [sign_canon]; simp
theorem D_bits {r : Nat} {n : Nat} (h : bitsN r ≤ n) : bitsN (D r).m ≤ n := by
  unfold D canon
  split
  · exact Nat.zero_le _
  · exact Nat.le_trans (bitsN_mono (Nat.div_le_self _ _)) h
theorem D_range {r : Nat} (h : bitsN r ≤ 1020) : inRange (D r) := by
  by_cases h0 : r = 0
  · subst h0; exact .inl rfl
  · refine .inr ?_
    unfold D canon
    rw [if_neg h0]
    simp only
    have h1 := pow_ctz_le h0
    have h2 : ctzN r < bitsN r := lt_bitsN_iff.2 h1
    have h3 := bitsN_mono (Nat.div_le_self r (2 ^ ctzN r))
    have e := div_ctz_mul h0
    have h4 : bitsN (r / 2 ^ ctzN r) + ctzN r = bitsN r := by
      have hq : r / 2 ^ ctzN r ≠ 0 := by have := odd_div_ctz h0; omega
      rw [← bitsN_mul_pow hq, e]
    omega
theorem D_valid {r : Nat} (h : bitsN r ≤ 1020) : (D r).Valid := ⟨D_canon r, D_range h⟩

theorem D_cmp (a b : Nat) : cmpD (D a) (D b) = cmpI a b := by
  rw [cmpD_at (D_above a) (D_above b), D_num, D_num]
theorem D_sub {a b : Nat} (h : b ≤ a) : sumD (D a) (negD (D b)) = D (a - b) := by
  refine D_ext (canon_sumD (D_canon a) (negD_canon (D_canon b))) (above_sumD (D_above a) (above_negD (D_above b))) ?_
  rw [sumD_num (D_above a) (above_negD (D_above b)), num_neg, D_num, D_num]
  omega

theorem D_e (r : Nat) : -501 ≤ (D r).e := by
  unfold D canon
  split
  · simp only; decide
  · simp only; omega
theorem D_mag (r : Nat) : (D r).mag (-501) = r := by
  unfold D; rw [mag_canon (Int.le_refl _)]; simp

theorem D_twice (r : Nat) : canon (D r).neg (D r).m ((D r).e + 1) = D (2 * r) := by
  have he := D_e r
  refine D_ext (canon_canon _ _ _) (above_canon (by omega)) ?_
  rw [D_neg, num_canonF (by omega)]
  have h := D_mag r
  unfold Dy.mag at h
  rw [show ((D r).e + 1 - -501).toNat = ((D r).e - -501).toNat + 1 by omega, Nat.pow_succ, ← Nat.mul_assoc, h]
  omega
theorem D_half {r q : Nat} (h : r = 2 * q) : canon (D r).neg (D r).m ((D r).e + -1) = D q := by
  by_cases h0 : r = 0
  · have hq : q = 0 := by omega
    subst hq; subst h0; rfl
  · have hm := D_mag r
    unfold Dy.mag at hm
    have he := D_e r
    have hne : (D r).e ≠ -501 := by
      intro hE
      rw [hE, show (-501 - -501 : Int).toNat = 0 by decide, Nat.pow_zero, Nat.mul_one] at hm
      rcases D_canon r with ⟨hz, _, _⟩ | ho
      · exact D_m0 h0 hz
      · rw [hm] at ho; omega
    refine D_ext (canon_canon _ _ _) (above_canon (by omega)) ?_
    rw [D_neg, num_canonF (by omega)]
    obtain ⟨j, hj⟩ : ∃ j, ((D r).e - -501).toNat = j + 1 := ⟨((D r).e - -501).toNat - 1, by omega⟩
    rw [hj, Nat.pow_succ, ← Nat.mul_assoc] at hm
    rw [show ((D r).e + -1 - -501).toNat = j by omega]
    omega

/-- Numbers with no part below 2^-500. -/
theorem D_of {d : Dy} (hc : d.Canon) (hs : 0 < d.sign) (he : -500 ≤ d.e) : ∃ q, d = D (2 * q) ∧ 0 < q := by
  have h0 : d.m ≠ 0 := by intro h; unfold Dy.sign at hs; rw [if_pos h] at hs; exact absurd hs (by decide)
  have hn : d.neg = false := by
    unfold Dy.sign at hs; rw [if_neg h0] at hs
    cases h : d.neg
    · rfl
    · rw [h] at hs; exact absurd hs (by decide)
  refine ⟨d.mag (-500), D_ext hc (.inr (by omega)) ?_, mag_pos h0 _⟩
  unfold Dy.num
  rw [hn, mag_scale (j := -501) (k := -500) (by decide) he]
  simp only [Bool.false_eq_true, if_false]
  rw [show (-500 - -501 : Int).toNat = 1 by decide]
  omega

theorem D_top {r : Nat} (h0 : r ≠ 0) : (D r).top = (bitsN r : Int) - 501 := by
  have := bitsN_mag (D_m0 h0) (D_e r)
  rw [D_mag] at this
  unfold Dy.top
  rw [if_neg (D_m0 h0)]
  omega

/-! ### the steps -/
/-- The step that is fitted. -/
def fitN (H r : Nat) : Nat := if r ≤ H then r else if 2 * H ≤ r then H else r / 2

/-- What holds behind n steps: what is left, the last step, the one before. -/
def St (H T n r last bef : Nat) : Prop :=
  (T = n * H + r ∧ 0 < r ∧ (n = 0 ∨ (last = H ∧ H ≤ r))) ∨
  (1 ≤ n ∧ T + H = n * H + 2 * r ∧ 0 < r ∧ r < H ∧ H < 2 * r ∧ last = r) ∨
  (r = 0 ∧ 1 ≤ n ∧ n * H < T + H ∧ (n < 2 ∨ last = bef ∨ last = H))

theorem St.start {H T : Nat} (h : 0 < T) : St H T 0 T 0 0 := .inl ⟨by omega, h, .inl rfl⟩

theorem St.even {H T n r last bef : Nat} (h : St H T n r last bef) (eH : H % 2 = 0) (eT : T % 2 = 0) (h1 : ¬ r ≤ H) : r % 2 = 0 := by
  rcases h with ⟨h, _⟩ | ⟨_, _, _, h, _⟩ | ⟨h, _⟩
  · have : n * H % 2 = 0 := by rw [Nat.mul_mod, eH, Nat.mul_zero]
    omega
  · omega
  · omega

theorem St.few {H T n r last bef : Nat} (h : St H T n r last bef) (hr : 0 < r) (_hH : 0 < H) (hT : T ≤ 30 * H) : n ≤ 31 ∧ r ≤ T := by
  have key : ∀ k : Nat, n * H < k * H → n < k := fun k h => by
    exact Nat.lt_of_mul_lt_mul_right h
  rcases h with ⟨h, _⟩ | ⟨h1, h, _, h2, _⟩ | ⟨h, _⟩
  · have := key 30 (by omega)
    omega
  · have := key 31 (by omega)
    refine ⟨by omega, ?_⟩
    have : 1 * H ≤ n * H := Nat.mul_le_mul_right _ h1
    omega
  · omega

theorem St.step {H T n r last bef : Nat} (h : St H T n r last bef) (hr : 0 < r) (hH : 0 < H) (eH : H % 2 = 0) (eT : T % 2 = 0) :
    0 < fitN H r ∧ fitN H r ≤ H ∧ fitN H r ≤ r ∧ St H T (n + 1) (r - fitN H r) (fitN H r) last := by
  have ev := h.even eH eT
  have hs : (n + 1) * H = n * H + H := Nat.succ_mul n H
  unfold fitN
  by_cases h1 : r ≤ H
  · rw [if_pos h1]
    refine ⟨hr, h1, Nat.le_refl _, .inr (.inr ⟨by omega, by omega, ?_, ?_⟩)⟩
    · rcases h with ⟨h, _⟩ | ⟨_, h, _, h2, h3, _⟩ | ⟨h, _⟩ <;> omega
    · rcases h with ⟨h, _, h2⟩ | ⟨_, h, _, h2, h3, h4⟩ | ⟨h, _⟩ <;> omega
  · rw [if_neg h1]
    have e2 := ev h1
    by_cases h2 : 2 * H ≤ r
    · rw [if_pos h2]
      refine ⟨hH, Nat.le_refl _, by omega, .inl ⟨?_, by omega, .inr ⟨rfl, by omega⟩⟩⟩
      rcases h with ⟨h, _⟩ | ⟨_, h, _, h2, h3, _⟩ | ⟨h, _⟩ <;> omega
    · rw [if_neg h2]
      refine ⟨by omega, by omega, by omega, .inr (.inl ⟨by omega, ?_, by omega, by omega, by omega, by omega⟩)⟩
      rcases h with ⟨h, _⟩ | ⟨_, h, _, h2, h3, _⟩ | ⟨h, _⟩ <;> omega

theorem St.done {H T n last bef : Nat} (h : St H T n 0 last bef) : 1 ≤ n ∧ (n - 1) * H < T ∧ (n < 2 ∨ last = bef ∨ last = H) := by
  rcases h with ⟨_, h, _⟩ | ⟨_, _, h, _⟩ | ⟨_, h1, h2, h3⟩
  · omega
  · omega
  · refine ⟨h1, ?_, h3⟩
    obtain ⟨m, rfl⟩ : ∃ m, n = m + 1 := ⟨n - 1, by omega⟩
    rw [Nat.succ_mul] at h2
    rw [Nat.add_sub_cancel]; omega
end Go.Proofs.YtofdlkgpgcnjhaaDoor.Fp
