/- Plain laws: the order, sums and products of dyadic numbers, counted in units of one power of two. -/
import Derived.Test.YtofdlkgpgcnjhaaDoorNum
namespace Go.Proofs.YtofdlkgpgcnjhaaDoor.Fp

theorem mag_scale {d : Dy} {j k : Int} (h1 : j ≤ k) (h2 : k ≤ d.e) : d.mag j = d.mag k * 2 ^ (k - j).toNat := by
  unfold Dy.mag
  rw [Nat.mul_assoc, ← Nat.pow_add]
  congr 2; omega
theorem num_scale {d : Dy} {j k : Int} (h1 : j ≤ k) (h2 : k ≤ d.e) : d.num j = d.num k * ((2 ^ (k - j).toNat : Nat) : Int) := by
  unfold Dy.num
  rw [mag_scale h1 h2]
  split
  · rw [Int.natCast_mul, Int.neg_mul]
  · rw [Int.natCast_mul]
theorem num_zero {d : Dy} (h : d.m = 0) (k : Int) : d.num k = 0 := by
  unfold Dy.num; rw [mag_zero h]; split <;> rfl

/-- Two integers compared. -/
def cmpI (x y : Int) : Int := if x < y then -1 else if y < x then 1 else 0
theorem cmpI_mul (x y : Int) {p : Nat} (hp : 0 < p) : cmpI (x * (p : Int)) (y * (p : Int)) = cmpI x y := by
  unfold cmpI
  have h : (0 : Int) < (p : Int) := by omega
  have a := @Int.mul_lt_mul_right (p : Int) x y h
  have b := @Int.mul_lt_mul_right (p : Int) y x h
  simp only [a, b]

/-- No part of the number is below 2^k. -/
def Above (d : Dy) (k : Int) : Prop := d.m = 0 ∨ k ≤ d.e

theorem Above.le {d : Dy} {j k : Int} (h : Above d k) (hj : j ≤ k) : Above d j := by
  rcases h with h | h
  · exact .inl h
  · exact .inr (by omega)
theorem Above.num {d : Dy} {j k : Int} (h : Above d k) (hj : j ≤ k) : d.num j = d.num k * ((2 ^ (k - j).toNat : Nat) : Int) := by
  rcases h with h | h
  · rw [num_zero h, num_zero h, Int.zero_mul]
  · exact num_scale hj h

theorem cmpD_at {a b : Dy} {k : Int} (ha : Above a k) (hb : Above b k) : cmpD a b = cmpI (a.num k) (b.num k) := by
  have e0 : cmpD a b = cmpI (a.num (min a.e b.e)) (b.num (min a.e b.e)) := rfl
  rw [e0]
  obtain ⟨j, h1, h2⟩ : ∃ j : Int, j ≤ k ∧ j ≤ min a.e b.e := ⟨min k (min a.e b.e), by omega, by omega⟩
  have a1 := ha.num h1
  have b1 := hb.num h1
  have a2 := (show Above a (min a.e b.e) from .inr (by omega)).num h2
  have b2 := (show Above b (min a.e b.e) from .inr (by omega)).num h2
  rw [← cmpI_mul _ _ (p := 2 ^ (min a.e b.e - j).toNat) (Nat.pow_pos (by decide)), ← a2, ← b2, a1, b1, cmpI_mul _ _ (Nat.pow_pos (by decide))]

theorem mag_canon {s : Bool} {m : Nat} {e k : Int} (h : k ≤ e) : (canon s m e).mag k = m * 2 ^ (e - k).toNat := by
  unfold canon
  split
  · rename_i h0; subst h0; simp [Dy.mag]
  · rename_i h0
    unfold Dy.mag
    simp only
    have e1 := div_ctz_mul h0
    conv => rhs; rw [← e1]
    rw [Nat.mul_assoc, ← Nat.pow_add]
    congr 2; omega
theorem num_canon {s : Bool} {m : Nat} {e k : Int} (h : k ≤ e) : (canon s m e).num k = if s then -((m * 2 ^ (e - k).toNat : Nat) : Int) else ((m * 2 ^ (e - k).toNat : Nat) : Int) := by
  by_cases h0 : m = 0
  · subst h0
    rw [num_zero (by simp [canon])]
    simp
  · have : (canon s m e).neg = s := by unfold canon; rw [if_neg h0]
    unfold Dy.num
    rw [mag_canon h, this]
theorem num_canonF {m : Nat} {e k : Int} (h : k ≤ e) : (canon false m e).num k = ((m * 2 ^ (e - k).toNat : Nat) : Int) := by
  rw [num_canon h]; simp
theorem num_canonZ {z e k : Int} (h : k ≤ e) : (canonZ z e).num k = z * ((2 ^ (e - k).toNat : Nat) : Int) := by
  unfold canonZ
  rw [num_canon h]
  by_cases hz : z < 0
  · simp only [hz, decide_true, if_true]
    rw [Int.natCast_mul, ← Int.neg_mul]; congr 1; omega
  · simp only [hz, decide_false]
    rw [Int.natCast_mul, show ((z.natAbs : Nat) : Int) = z by omega]; simp
theorem above_canon {s : Bool} {m : Nat} {e k : Int} (h : k ≤ e) : Above (canon s m e) k := by
  unfold canon
  split
  · exact .inl rfl
  · exact .inr (by simp only; omega)
theorem above_canonZ {z e k : Int} (h : k ≤ e) : Above (canonZ z e) k := above_canon h

theorem sumD_num {a b : Dy} {k : Int} (ha : Above a k) (hb : Above b k) : (sumD a b).num k = a.num k + b.num k := by
  unfold sumD
  by_cases h1 : a.m = 0
  · rw [if_pos h1, num_zero h1, Int.zero_add]
  · rw [if_neg h1]
    by_cases h2 : b.m = 0
    · rw [if_pos h2, num_zero h2, Int.add_zero]
    · rw [if_neg h2]
      have ea : k ≤ a.e := by rcases ha with h | h; exact absurd h h1; exact h
      have eb : k ≤ b.e := by rcases hb with h | h; exact absurd h h2; exact h
      have hm : k ≤ min a.e b.e := by omega
      rw [num_canonZ hm, Int.add_mul, ← num_scale hm (by omega), ← num_scale hm (by omega)]
theorem above_sumD {a b : Dy} {k : Int} (ha : Above a k) (hb : Above b k) : Above (sumD a b) k := by
  unfold sumD
  by_cases h1 : a.m = 0
  · rw [if_pos h1]; exact hb
  · rw [if_neg h1]
    by_cases h2 : b.m = 0
    · rw [if_pos h2]; exact ha
    · rw [if_neg h2]
      have ea : k ≤ a.e := by rcases ha with h | h; exact absurd h h1; exact h
      have eb : k ≤ b.e := by rcases hb with h | h; exact absurd h h2; exact h
      exact above_canonZ (by omega)
theorem canon_sumD {a b : Dy} (ha : a.Canon) (hb : b.Canon) : (sumD a b).Canon := by
  unfold sumD
  split
  · exact hb
  · split
    · exact ha
    · exact canon_canon _ _ _
theorem above_negD {d : Dy} {k : Int} (h : Above d k) : Above (negD d) k := h
theorem num_neg {d : Dy} (k : Int) : (negD d).num k = -(d.num k) := by
  by_cases h : d.m = 0
  · rw [num_zero h, num_zero (by exact h)]; rfl
  · exact num_negD d k h

/-- A canonical number is found from its value. -/
theorem dy_ext {a b : Dy} (ha : a.Canon) (hb : b.Canon) {k : Int} (h1 : Above a k) (h2 : Above b k) (h : a.num k = b.num k) : a = b := by
  have zero : ∀ {d : Dy}, d.Canon → d.m = 0 → d = zeroD := by
    intro d hd h0
    obtain ⟨s, m, e⟩ := d
    rcases hd with ⟨x, y, z⟩ | hd
    · simp only at x y z; subst x y z; rfl
    · simp only at hd h0; omega
  have nz : ∀ {d : Dy}, d.num k = 0 → d.m = 0 := by
    intro d hd
    by_cases h0 : d.m = 0
    · exact h0
    · exfalso
      have := mag_pos h0 k
      unfold Dy.num at hd
      split at hd <;> omega
  by_cases za : a.m = 0
  · have zb : b.m = 0 := nz (by rw [← h]; exact num_zero za k)
    rw [zero ha za, zero hb zb]
  · have zb : b.m ≠ 0 := fun zb => za (nz (by rw [h]; exact num_zero zb k))
    have oa : a.m % 2 = 1 := by rcases ha with ⟨x, _, _⟩ | x; exact absurd x za; exact x
    have ob : b.m % 2 = 1 := by rcases hb with ⟨x, _, _⟩ | x; exact absurd x zb; exact x
    have ea : k ≤ a.e := by rcases h1 with h | h; exact absurd h za; exact h
    have eb : k ≤ b.e := by rcases h2 with h | h; exact absurd h zb; exact h
    have pa := mag_pos za k
    have pb := mag_pos zb k
    have hm : a.neg = b.neg ∧ a.mag k = b.mag k := by
      unfold Dy.num at h
      cases x : a.neg <;> cases y : b.neg <;> simp [x, y] at h <;> first | exact ⟨rfl, by omega⟩ | (exfalso; omega)
    have hc := congrArg ctzN hm.2
    unfold Dy.mag at hc
    rw [ctzN_mul oa, ctzN_mul ob] at hc
    have hm2 := hm.2
    unfold Dy.mag at hm2
    rw [hc] at hm2
    have hmm := Nat.eq_of_mul_eq_mul_right (Nat.pow_pos (by decide)) hm2
    obtain ⟨s, m, e⟩ := a
    obtain ⟨t, n, f⟩ := b
    simp only at *
    have : e = f := by omega
    rw [hm.1, hmm, this]
end Go.Proofs.YtofdlkgpgcnjhaaDoor.Fp
