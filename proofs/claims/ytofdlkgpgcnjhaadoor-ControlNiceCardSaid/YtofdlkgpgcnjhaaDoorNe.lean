/- Plain laws on nice numbers. -/
import Derived.Test.YtofdlkgpgcnjhaaDoorNd
import Derived.Test.YtofdlkgpgcnjhaaDoorTj
namespace Go.Proofs.YtofdlkgpgcnjhaaDoor
open Go.RowKit Fp

theorem niceD_neg (m : Nat) (e : Int) : (niceD m e).neg = false := by
  unfold niceD canon
  split
  · rfl
  · split <;> rfl

/-- The nice number, counted in units of 2^e. -/
theorem niceD_num {m : Nat} (h0 : m ≠ 0) (e : Int) : ∃ X : Nat, (niceD m e).num e = (X : Int) ∧ (niceD m e).mag e = X ∧ X ≤ m ∧ 4 * m < 5 * X ∧ Above (niceD m e) e := by
  unfold niceD
  by_cases h : bitsN m ≤ 3
  · rw [if_pos h]
    refine ⟨m, ?_, ?_, Nat.le_refl _, by omega, .inr (Int.le_refl _)⟩
    · unfold Dy.num Dy.mag; simp
    · unfold Dy.mag; simp
  · rw [if_neg h]
    obtain ⟨n, hn⟩ : ∃ n, bitsN m = n + 3 := ⟨bitsN m - 3, by omega⟩
    rw [hn, show n + 3 - 3 = n by omega]
    have hb := bits_div (m := m) (k := n) (by omega)
    rw [hn, show n + 3 - n = 3 by omega] at hb
    have hq0 : m / 2 ^ n ≠ 0 := by intro h; rw [h] at hb; simp [bitsN] at hb
    have h2 := two_pow_le_of_bitsN hq0
    rw [hb] at h2
    have h2 : 4 ≤ m / 2 ^ n := h2
    have hm := Nat.div_add_mod m (2 ^ n)
    have hr := Nat.mod_lt m (Nat.pow_pos (n := n) (by decide : 0 < 2))
    have e1 : (e + (n : Int) - e).toNat = n := by omega
    have hmul := Nat.mul_le_mul_left (2 ^ n) h2
    refine ⟨m / 2 ^ n * 2 ^ n, ?_, ?_, ?_, ?_, above_canon (by omega)⟩
    · rw [num_canonF (by omega), e1]
    · rw [mag_canon (by omega), e1]
    · rw [Nat.mul_comm]; omega
    · rw [Nat.mul_comm (m / 2 ^ n)]
      generalize 2 ^ n * (m / 2 ^ n) = y at *
      omega

theorem niceD_bits (m : Nat) (e : Int) : bitsN (niceD m e).m ≤ 3 := by
  unfold niceD
  by_cases h : bitsN m ≤ 3
  · rw [if_pos h]; exact h
  · rw [if_neg h]
    obtain ⟨n, hn⟩ : ∃ n, bitsN m = n + 3 := ⟨bitsN m - 3, by omega⟩
    rw [hn, show n + 3 - 3 = n by omega]
    have hb := bits_div (m := m) (k := n) (by omega)
    rw [hn, show n + 3 - n = 3 by omega] at hb
    have hq0 : m / 2 ^ n ≠ 0 := by intro h; rw [h] at hb; simp [bitsN] at hb
    unfold canon
    rw [if_neg hq0]
    rw [← hb]
    exact bitsN_mono (Nat.div_le_self _ _)

theorem niceD_idem (m : Nat) (e : Int) : niceD (niceD m e).m (niceD m e).e = niceD m e := by
  have h := niceD_bits m e
  have hn := niceD_neg m e
  generalize niceD m e = d at *
  obtain ⟨s, m', e'⟩ := d
  simp only at hn h
  subst hn
  unfold niceD
  rw [if_pos h]

theorem niceD_valid {s : Bool} {L : List Nat} {e : Int} (hd : Dok s L e) (h0 : val L ≠ 0) : (niceD (val L) e).Valid := by
  unfold niceD
  by_cases h : bitsN (val L) ≤ 3
  · rw [if_pos h]
    have hv := hd.2.2
    refine ⟨?_, hv.range⟩
    rcases hv.canon with ⟨h1, _, _⟩ | h1
    · exact absurd h1 h0
    · exact .inr h1
  · rw [if_neg h]
    exact ⟨canon_canon _ _ _, nice_range hd h⟩

theorem niceD_pos {m : Nat} (h0 : m ≠ 0) (e : Int) : 0 < Dy.sign (niceD m e) := by
  obtain ⟨X, _, h2, _, h4, _⟩ := niceD_num h0 e
  have hm : (niceD m e).m ≠ 0 := by intro h; rw [mag_zero h] at h2; omega
  unfold Dy.sign
  rw [if_neg hm, niceD_neg]; decide

theorem nice_cmp {m : Nat} (h0 : m ≠ 0) (e : Int) : cmpD (niceD m e) ⟨false, m, e⟩ ≤ 0 := by
  obtain ⟨X, h1, _, h3, _, h5⟩ := niceD_num h0 e
  rw [cmpD_at h5 (.inr (Int.le_refl _)), h1]
  unfold cmpI Dy.num Dy.mag
  simp
  split
  · decide
  · split <;> omega

theorem five_eq : canon false 5 0 = ⟨false, 5, 0⟩ := Dy.Canon.canon_eq (d := ⟨false, 5, 0⟩) (.inr rfl)
theorem four_eq : canon false 4 0 = ⟨false, 1, 2⟩ := by
  have h : ctzN 4 = 2 := ctzN_mul (m := 1) rfl 2
  unfold canon; rw [h]; rfl

theorem nice_far {m : Nat} (h0 : m ≠ 0) (e : Int) : 0 < cmpD (mulD (niceD m e) (canon false 5 0)) (mulD ⟨false, m, e⟩ (canon false 4 0)) := by
  obtain ⟨X, h1, h2, h3, h4, h5⟩ := niceD_num h0 e
  rw [five_eq, four_eq]
  unfold mulD
  simp only [niceD_neg, bne_self_eq_false, Nat.mul_one, Int.add_zero]
  have hm : (niceD m e).m ≠ 0 := by intro h; rw [mag_zero h] at h2; omega
  have ha : e ≤ (niceD m e).e := by rcases h5 with h | h; exact absurd h hm; exact h
  rw [cmpD_at (k := e) (above_canon ha) (above_canon (by omega)), num_canonF ha, num_canonF (by omega)]
  have e1 : (e + 2 - e).toNat = 2 := by omega
  unfold Dy.mag at h2
  rw [e1, Nat.mul_right_comm, h2]
  unfold cmpI
  rw [if_neg (by omega), if_pos (by omega)]
  decide
end Go.Proofs.YtofdlkgpgcnjhaaDoor
