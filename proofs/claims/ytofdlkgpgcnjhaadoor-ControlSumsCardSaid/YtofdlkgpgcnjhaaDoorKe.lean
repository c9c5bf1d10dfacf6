/- More contracts for numbers in the canonical form. -/
import Derived.Test.YtofdlkgpgcnjhaaDoorKd
namespace Go.Proofs.YtofdlkgpgcnjhaaDoor
open Go.RowKit Fp

theorem bitsN_mul_le (a b : Nat) : bitsN (a * b) ≤ bitsN a + bitsN b := by
  rw [bitsN_le_iff, Nat.pow_add]
  exact Nat.mul_lt_mul'' (lt_two_pow_bitsN a) (lt_two_pow_bitsN b)

theorem refValid_dy (a : Dy) (A : Option Addr) (c : Nat) (w : World) (h : Sl w A c (limbs a.m)) (ha : a.Valid) :
    Calls Tryd.prog 20 #[DV a A c] w fun e w' => e = .returned (.bool true) ∧ Ext w w' :=
  refValid_any a.neg A c (limbs a.m) a.e w true h (by have := ha.exp; omega) (by have := ha.exp; omega) (by simp [ha.dok])
theorem refSign_dy (a : Dy) (A : Option Addr) (c : Nat) (w : World) (h : Sl w A c (limbs a.m)) :
    Calls Tryd.prog 21 #[DV a A c] w fun e w' => e = .returned (.int .i64 a.sign) ∧ Ext w w' := by
  have := refSign_any a.neg A c (limbs a.m) a.e w h (trim_limbs _)
  rw [val_limbs] at this
  exact this
theorem refTop_dy (a : Dy) (A : Option Addr) (c : Nat) (w : World) (h : Sl w A c (limbs a.m)) (ha : Near a) :
    Calls Tryd.prog 22 #[DV a A c] w fun e w' => e = .returned (.int .i64 a.top) ∧ Ext w w' := by
  have := refTop_any a.neg A c (limbs a.m) a.e w h (trim_limbs _) (by have := ha.len; omega) (by have := ha.lo; omega) (by have := ha.hi; omega)
  rw [val_limbs] at this
  exact this
end Go.Proofs.YtofdlkgpgcnjhaaDoor
