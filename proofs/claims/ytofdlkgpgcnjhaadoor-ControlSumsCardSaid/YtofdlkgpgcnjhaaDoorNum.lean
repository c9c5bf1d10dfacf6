/- Plain arithmetic of dyadic numbers: sums, products, comparisons. No program is in sight here. -/
import Derived.Test.YtofdlkgpgcnjhaaDoorNat
namespace Go.Proofs.YtofdlkgpgcnjhaaDoor.Fp

theorem canon_zero (s : Bool) (e : Int) : canon s 0 e = zeroD := by unfold canon; rw [if_pos rfl]; rfl

theorem canonZ_of (s : Bool) (x : Nat) (k : Int) : canonZ (if s then -(x : Int) else (x : Int)) k = canon s x k := by
  unfold canonZ
  cases s
  · have h : decide ((x : Int) < 0) = false := decide_eq_false (by omega)
    simp only [Bool.false_eq_true, if_false]
    rw [h, Int.natAbs_natCast]
  · by_cases h : x = 0
    · subst h; simp [canon_zero]
    · have h : decide (-(x : Int) < 0) = true := decide_eq_true (by omega)
      simp only [if_true]
      rw [h, Int.natAbs_neg, Int.natAbs_natCast]

theorem mag_at {s : Bool} {m : Nat} {e k : Int} : (Dy.mag ⟨s, m, e⟩ k) = m * 2 ^ (e - k).toNat := rfl

theorem sumD_same {s : Bool} {m n : Nat} {e f k : Int} (hm : m ≠ 0) (hn : n ≠ 0) (hk : min e f = k) :
    sumD ⟨s, m, e⟩ ⟨s, n, f⟩ = canon s (m * 2 ^ (e - k).toNat + n * 2 ^ (f - k).toNat) k := by
  unfold sumD
  rw [if_neg hm, if_neg hn]
  simp only [hk]
  rw [← canonZ_of]
  unfold Dy.num Dy.mag
  cases s
  · simp
  · simp; congr 1; omega

theorem sumD_ge {s t : Bool} {m n : Nat} {e f k : Int} (hm : m ≠ 0) (hn : n ≠ 0) (hk : min e f = k) (hs : s ≠ t) (hge : n * 2 ^ (f - k).toNat ≤ m * 2 ^ (e - k).toNat) :
    sumD ⟨s, m, e⟩ ⟨t, n, f⟩ = canon s (m * 2 ^ (e - k).toNat - n * 2 ^ (f - k).toNat) k := by
  unfold sumD
  rw [if_neg hm, if_neg hn]
  simp only [hk]
  rw [← canonZ_of]
  unfold Dy.num Dy.mag
  simp only
  generalize m * 2 ^ (e - k).toNat = x at *
  generalize n * 2 ^ (f - k).toNat = y at *
  congr 1
  cases s <;> cases t <;> simp at hs ⊢ <;> omega

theorem sumD_lt {s t : Bool} {m n : Nat} {e f k : Int} (hm : m ≠ 0) (hn : n ≠ 0) (hk : min e f = k) (hs : s ≠ t) (hlt : m * 2 ^ (e - k).toNat < n * 2 ^ (f - k).toNat) :
    sumD ⟨s, m, e⟩ ⟨t, n, f⟩ = canon t (n * 2 ^ (f - k).toNat - m * 2 ^ (e - k).toNat) k := by
  unfold sumD
  rw [if_neg hm, if_neg hn]
  simp only [hk]
  rw [← canonZ_of]
  unfold Dy.num Dy.mag
  simp only
  generalize m * 2 ^ (e - k).toNat = x at *
  generalize n * 2 ^ (f - k).toNat = y at *
  congr 1
  cases s <;> cases t <;> simp at hs ⊢ <;> omega

theorem limbs_mul_pow_len {L : List Nat} (h : Ok32 L) (n : Nat) : (limbs (val L * 2 ^ n)).length ≤ L.length + n / 32 + 1 := by
  refine limbs_length_le ?_
  have h1 := val_lt h
  rw [pow32] at h1 ⊢
  have h2 : val L * 2 ^ n < 2 ^ (32 * L.length) * 2 ^ n := Nat.mul_lt_mul_of_pos_right h1 (Nat.pow_pos (by decide))
  rw [← Nat.pow_add] at h2
  exact Nat.lt_of_lt_of_le h2 (Nat.pow_le_pow_right (by decide) (by omega))

theorem limbs_add_len {a b k : Nat} (ha : (limbs a).length ≤ k) (hb : (limbs b).length ≤ k) : (limbs (a + b)).length ≤ k + 1 := by
  refine limbs_length_le ?_
  have h1 := lt_of_limbs_length ha
  have h2 := lt_of_limbs_length hb
  rw [Nat.pow_succ]
  omega
theorem limbs_sub_len {a b k : Nat} (ha : (limbs a).length ≤ k) : (limbs (a - b)).length ≤ k :=
  limbs_length_le (Nat.lt_of_le_of_lt (Nat.sub_le _ _) (lt_of_limbs_length ha))
theorem limbs_len_mono {a b : Nat} (h : a ≤ b) : (limbs a).length ≤ (limbs b).length :=
  limbs_length_le (Nat.lt_of_le_of_lt h (lt_of_limbs_length (Nat.le_refl _)))
end Go.Proofs.YtofdlkgpgcnjhaaDoor.Fp
