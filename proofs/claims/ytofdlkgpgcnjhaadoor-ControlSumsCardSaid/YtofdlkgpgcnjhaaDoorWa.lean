/- Walks: limbs without zeros at their top. -/
import Derived.Test.YtofdlkgpgcnjhaaDoorKit
namespace Go.Proofs.YtofdlkgpgcnjhaaDoor
open Go.RowKit Fp

set_option maxHeartbeats 400000 in
theorem natTrim_any (A : Option Addr) (c : Nat) (L : List Nat) (w : World) (hs : Sl w A c L) :
    Calls Tryd.prog 73 #[.slice A L.length c] w fun e w' => e = .returned (.slice A (trimL L).length c) ∧ w = w' := by
  have hc := hs.cap
  have hl := hs.lim
  go_enter Tryd.func73, Tryd.ntmps73
  go_wp2
  go_loop [3] (fun i => ∃ k : Nat, k ≤ L.length ∧ i = .int .i64 k ∧ tlen L = tlen (L.take k)) (fun i => (intOf i).toNat)
  case atStart => exact ⟨L.length, Nat.le_refl _, rfl, by simp⟩
  case round =>
    obtain ⟨k, hk, rfl, ht⟩ := hrel
    have HT := Lib.hid ht; clear ht
    by_cases h0 : 0 < k
    · obtain ⟨ab, ao, rfl, hb, h1⟩ := hs.at_ (i := k - 1) (by omega)
      have e1 : ((k : Int) - 1).toNat = k - 1 := by omega
      have Z := Lib.hid (tlen_take_zero L (k - 1) (by omega))
      have NZ := Lib.hid (tlen_take_nz L (k - 1) (by omega))
      rw [Nat.sub_add_cancel h0] at Z NZ
      generalize L[k - 1] = x at *
      by_cases hx : x = 0
      · have Hx := Lib.hid hx; clear hx
        have hb : ((x : Int) == 0) = true := by have := Hx.out; simp; omega
        go_wp2
        go_round
        case rel => exact ⟨k - 1, by omega, by go_num, by rw [HT.out, Z.out Hx.out]⟩
        case measure => simp [intOf]; omega
      · have hb : ((x : Int) == 0) = false := by simp; omega
        go_wp2
        go_ret
        exact ⟨ret_slice (by show _ = tlen L; rw [HT.out, NZ.out hx]), rfl⟩
    · go_wp2
      go_ret
      have : k = 0 := by omega
      subst this
      exact ⟨ret_slice (by show _ = tlen L; rw [HT.out]; rfl), rfl⟩

set_option maxHeartbeats 400000 in
theorem dyTrimmed_any (A : Option Addr) (c : Nat) (L : List Nat) (w : World) (hs : Sl w A c L) :
    Calls Tryd.prog 75 #[.slice A L.length c] w fun e w' => e = .returned (.slice A (trimL L).length c) ∧ w = w' := by
  have hc := hs.cap
  have hl := hs.lim
  go_enter Tryd.func75, Tryd.ntmps75
  go_wp2
  go_loop [3] (fun i => ∃ k : Nat, k ≤ L.length ∧ i = .int .i64 k ∧ tlen L = tlen (L.take k)) (fun i => (intOf i).toNat)
  case atStart => exact ⟨L.length, Nat.le_refl _, rfl, by simp⟩
  case round =>
    obtain ⟨k, hk, rfl, ht⟩ := hrel
    have HT := Lib.hid ht; clear ht
    by_cases h0 : 0 < k
    · obtain ⟨ab, ao, rfl, hb, h1⟩ := hs.at_ (i := k - 1) (by omega)
      have e1 : ((k : Int) - 1).toNat = k - 1 := by omega
      have Z := Lib.hid (tlen_take_zero L (k - 1) (by omega))
      have NZ := Lib.hid (tlen_take_nz L (k - 1) (by omega))
      rw [Nat.sub_add_cancel h0] at Z NZ
      generalize L[k - 1] = x at *
      by_cases hx : x = 0
      · have Hx := Lib.hid hx; clear hx
        have hb : ((x : Int) == 0) = true := by have := Hx.out; simp; omega
        go_wp2
        go_round
        case rel => exact ⟨k - 1, by omega, by go_num, by rw [HT.out, Z.out Hx.out]⟩
        case measure => simp [intOf]; omega
      · have hb : ((x : Int) == 0) = false := by simp; omega
        go_wp2
        go_ret
        exact ⟨ret_slice (by show _ = tlen L; rw [HT.out, NZ.out hx]), rfl⟩
    · go_wp2
      go_ret
      have : k = 0 := by omega
      subst this
      exact ⟨ret_slice (by show _ = tlen L; rw [HT.out]; rfl), rfl⟩

/-- What trim leaves is a slice of limbs again. -/
theorem Sl.trim {w : World} {A : Option Addr} {c : Nat} {L : List Nat} (h : Sl w A c L) : Sl w A c (trimL L) := (h.take (tlen L)).eqv (trimL_eq_take L).symm

/-! ### the bits of a limb -/
def bitsRen : Go.Shelf.Ren := ⟨fun | 128 => 77 | n => n, fun | 51 => 50 | 3 => 3 | 4 => 4 | 46 => 54 | 5 => 5 | 9 => 9 | n => n, fun | n => n⟩
theorem bitsLays : Go.Proofs.Lays.n128 Tryd.prog bitsRen := {
  mixed := by kernel_rfl
  f128 := Tryd.func77.trans (congrArg some (by kernel_rfl))
  t3 := Tryd.underlying3
  a3 := Tryd.isAgg3
  z3 := Tryd.sizeOf3
  v3 := Tryd.zeroValue3
  t4 := Tryd.underlying4
  a4 := Tryd.isAgg4
  z4 := Tryd.sizeOf4
  v4 := Tryd.zeroValue4
  t5 := Tryd.underlying5
  a5 := Tryd.isAgg5
  z5 := Tryd.sizeOf5
  v5 := Tryd.zeroValue5
  t9 := Tryd.underlying9
  a9 := Tryd.isAgg9
  z9 := Tryd.sizeOf9
  v9 := Tryd.zeroValue9
  t46 := Tryd.underlying54
  a46 := Tryd.isAgg54
  z46 := Tryd.sizeOf54
  v46 := Tryd.zeroValue54
  t51 := Tryd.underlying50
  a51 := Tryd.isAgg50
  z51 := Tryd.sizeOf50
  v51 := Tryd.zeroValue50 }

theorem len32_any (x : Nat) (hx : x < 4294967296) (w : World) :
    Calls Tryd.prog 77 #[.int .u32 x] w fun e w' => e = .returned (.int .i64 (bitsN x)) ∧ w = w' := by
  refine (Any.bits_Len32 bitsLays x w (by omega) (by omega)).mono ?_
  rintro e w' ⟨rfl, rfl⟩
  rw [Int.toNat_natCast, bitLen_eq x hx]
  exact ⟨rfl, rfl⟩

/-! ### the zero bits at the bottom of a limb -/
set_option maxHeartbeats 1000000 in
theorem tz32_core (x k idx : Nat) (w : World) (hx0 : ((x : Int) == 0) = false)
    (key : bits BinOp.and IntKind.u32 (x : Int) (-(x : Int) % 4294967296) * 125613361 % 4294967296 / 134217728 = (idx : Int))
    (hi : idx < 32) (hk : k < 32) (hcell : w.cell? ⟨0, idx, none⟩ = some (.int .u8 k)) :
    Calls Tryd.prog 82 #[.int .u32 x] w fun e w' => e = .returned (.int .i64 k) ∧ w = w' := by
  go_enter Tryd.func82, Tryd.ntmps82
  go_wp2_with (simp only [key])
  go_ret
  exact ⟨rfl, rfl⟩

theorem tz32_any (x : Nat) (h0 : x ≠ 0) (hx : x < 4294967296) (w : World) (hT : Tb w) :
    Calls Tryd.prog 82 #[.int .u32 x] w fun e w' => e = .returned (.int .i64 (ctzN x)) ∧ w = w' := by
  rw [← ctz_eq x h0 hx]
  obtain ⟨hlow, hk⟩ := Lib.lowest_bit 32 x h0 hx
  obtain ⟨hi, htab⟩ := Lib.deBruijn32_at _ hk
  have hcell := hT _ hi
  rw [htab] at hcell
  exact tz32_core x _ _ w (by simp; omega) (tz32_key x _ hx h0 hlow) hi hk hcell
end Go.Proofs.YtofdlkgpgcnjhaaDoor
