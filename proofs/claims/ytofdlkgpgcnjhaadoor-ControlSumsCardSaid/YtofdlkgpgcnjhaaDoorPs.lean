/- Plain laws: sums of numbers, and when they are out of range. -/
import Derived.Test.YtofdlkgpgcnjhaaDoorNc
namespace Go.Proofs.YtofdlkgpgcnjhaaDoor.Fp

/-- A number, if it is in range. -/
def chk (d : Dy) : Dy := if inRange d then d else zeroD
def chkE (d : Dy) : Int := if inRange d then 0 else 9
theorem chk_yes {d : Dy} (h : inRange d) : chk d = d := if_pos h
theorem chkE_yes {d : Dy} (h : inRange d) : chkE d = 0 := if_pos h
theorem chk_no {d : Dy} (h : ¬ inRange d) : chk d = zeroD := if_neg h
theorem chkE_no {d : Dy} (h : ¬ inRange d) : chkE d = 9 := if_neg h
theorem chk_valid {d : Dy} (h : d.Canon) : (chk d).Valid := by
  by_cases hr : inRange d
  · rw [chk_yes hr]; exact ⟨h, hr⟩
  · rw [chk_no hr]; exact zeroD_valid

theorem sumD_comm {a b : Dy} (ha : a.m ≠ 0) (hb : b.m ≠ 0) : sumD a b = sumD b a := by
  unfold sumD
  rw [if_neg ha, if_neg hb, if_neg hb, if_neg ha, Int.min_comm, Int.add_comm]

theorem sum_big1 {a b : Dy} (ha : a.Valid) (hb : b.Valid) (a0 : a.m ≠ 0) (b0 : b.m ≠ 0) {k : Int} (hk : min a.e b.e = k) (h1 : 4097 < a.top - k) (h2 : 1 < a.top - b.top) : ¬ inRange (sumD a b) := by
  have hka : k ≤ a.e := by omega
  have hkb : k ≤ b.e := by omega
  have m1 := bitsN_mag a0 hka
  have m2 := bitsN_mag b0 hkb
  have ta : a.top = bitsN a.m + a.e := by unfold Dy.top; rw [if_neg a0]
  have tb : b.top = bitsN b.m + b.e := by unfold Dy.top; rw [if_neg b0]
  have ba : bitsN a.m ≤ 4096 := by rcases ha.range with h | ⟨h, _⟩; exact absurd h a0; exact h
  have hne : a.e ≠ k := by omega
  have hbk : b.e = k := by omega
  have oa : a.mag k % 2 = 0 := by
    unfold Dy.mag
    obtain ⟨j, hj⟩ : ∃ j, (a.e - k).toNat = j + 1 := ⟨(a.e - k).toNat - 1, by omega⟩
    rw [hj, Nat.pow_succ, ← Nat.mul_assoc, Nat.mul_mod_left]
  have ob : b.mag k % 2 = 1 := by
    unfold Dy.mag
    rw [hbk, show (k - k).toNat = 0 by omega, Nat.pow_zero, Nat.mul_one]
    rcases hb.canon with ⟨h, _, _⟩ | h
    · exact absurd h b0
    · exact h
  have pa := mag_pos a0 k
  obtain ⟨p, hp⟩ : ∃ p, bitsN (a.mag k) = p + 2 := ⟨bitsN (a.mag k) - 2, by omega⟩
  have l1 := two_pow_le_of_bitsN (show a.mag k ≠ 0 by omega)
  have l2 := lt_two_pow_bitsN (b.mag k)
  rw [hp, show p + 2 - 1 = p + 1 by omega, Nat.pow_succ] at l1
  have l3 : 2 ^ bitsN (b.mag k) ≤ 2 ^ p := Nat.pow_le_pow_right (by decide) (by omega)
  have hz : (a.num k + b.num k).natAbs % 2 = 1 ∧ 2 ^ p ≤ (a.num k + b.num k).natAbs := by
    unfold Dy.num
    generalize a.mag k = x at *
    generalize b.mag k = y at *
    generalize 2 ^ p = P at *
    split <;> split <;> omega
  unfold sumD
  rw [if_neg a0, if_neg b0, hk]
  unfold canonZ
  generalize (a.num k + b.num k).natAbs = z at *
  generalize decide (a.num k + b.num k < 0) = s at *
  have hc : canon s z k = ⟨s, z, k⟩ := Dy.Canon.canon_eq (d := ⟨s, z, k⟩) (.inr hz.1)
  rw [hc]
  have hb := lt_bitsN_iff.2 hz.2
  rintro (h | ⟨h, _⟩)
  · simp only at h; omega
  · simp only at h; omega

theorem sum_big {a b : Dy} (ha : a.Valid) (hb : b.Valid) (a0 : a.m ≠ 0) (b0 : b.m ≠ 0) {k : Int} (hk : min a.e b.e = k) (h1 : 4097 < max a.top b.top - k) (h2 : 1 < a.top - b.top ∨ 1 < b.top - a.top) : ¬ inRange (sumD a b) := by
  rcases h2 with h2 | h2
  · exact sum_big1 ha hb a0 b0 hk (by omega) h2
  · rw [sumD_comm a0 b0]
    exact sum_big1 (k := k) hb ha b0 a0 (by rw [Int.min_comm]; exact hk) (by omega) h2

theorem sum_fits {a b : Dy} (ha : a.Valid) (hb : b.Valid) (a0 : a.m ≠ 0) (b0 : b.m ≠ 0) {k : Int} (hk : min a.e b.e = k) (h : ¬ (4097 < max a.top b.top - k ∧ (1 < a.top - b.top ∨ 1 < b.top - a.top))) :
    bitsN (a.m * 2 ^ (a.e - k).toNat) ≤ 4097 ∧ bitsN (b.m * 2 ^ (b.e - k).toNat) ≤ 4097 := by
  have ta : a.top = bitsN a.m + a.e := by unfold Dy.top; rw [if_neg a0]
  have tb : b.top = bitsN b.m + b.e := by unfold Dy.top; rw [if_neg b0]
  have ba : bitsN a.m ≤ 4096 := by rcases ha.range with h | ⟨h, _⟩; exact absurd h a0; exact h
  have bb : bitsN b.m ≤ 4096 := by rcases hb.range with h | ⟨h, _⟩; exact absurd h b0; exact h
  rw [bitsN_mul_pow a0, bitsN_mul_pow b0]
  omega
theorem bitsN_add {x y n : Nat} (hx : bitsN x ≤ n) (hy : bitsN y ≤ n) : bitsN (x + y) ≤ n + 1 := by
  rw [bitsN_le_iff] at *
  rw [Nat.pow_succ]; omega
end Go.Proofs.YtofdlkgpgcnjhaaDoor.Fp
