/- Walks: sums and differences of limbs, as the program makes them. -/
import Derived.Test.YtofdlkgpgcnjhaaDoorWe
import Derived.Test.YtofdlkgpgcnjhaaDoorWh
namespace Go.Proofs.YtofdlkgpgcnjhaaDoor
open Go.RowKit Fp

theorem ret_pair {k l : IntKind} {a b c d : Int} (h : a = b) (h' : c = d) : Ending.returned (.tuple #[.int k a, .int l c]) = .returned (.tuple #[.int k b, .int l d]) := by rw [h, h']

set_option maxHeartbeats 1000000 in
theorem add32_any (x y c : Nat) (w : World) (hx : x < 4294967296) (hy : y < 4294967296) (hc : c ≤ 1) :
    Calls Tryd.prog 84 #[.int .u32 x, .int .u32 y, .int .u32 c] w fun e w' => e = .returned (.tuple #[.int .u32 (((x + y + c) % 4294967296 : Nat) : Int), .int .u32 (((x + y + c) / 4294967296 : Nat) : Int)]) ∧ w = w' := by
  go_enter Tryd.func84, Tryd.ntmps84
  go_wp2
  go_ret2
  refine ⟨?_, rfl⟩
  exact ret_pair (by omega) (by omega)

theorem u32_or_nat (a b : Nat) (ha : a < 4294967296) (hb : b < 4294967296) : bits .or .u32 (a : Int) (b : Int) = ((a ||| b : Nat) : Int) := by
  have h2 : a ||| b < 2 ^ 32 := Nat.or_lt_two_pow ha hb
  show IntKind.u32.wrap ((BitVec.ofInt 32 (a : Int) ||| BitVec.ofInt 32 (b : Int)).toNat : Int) = _
  rw [BitVec.toNat_or, BitVec.toNat_ofInt, BitVec.toNat_ofInt]
  rw [show ((a : Int) % ((2 ^ 32 : Nat) : Int)).toNat = a by omega, show ((b : Int) % ((2 ^ 32 : Nat) : Int)).toNat = b by omega]
  rw [IntKind.wrap_u32]
  omega
theorem u32_and_nat (a b : Nat) (ha : a < 4294967296) (hb : b < 4294967296) : bits .and .u32 (a : Int) (b : Int) = ((a &&& b : Nat) : Int) := by
  have h2 : a &&& b < 2 ^ 32 := Nat.and_lt_two_pow a hb
  show IntKind.u32.wrap ((BitVec.ofInt 32 (a : Int) &&& BitVec.ofInt 32 (b : Int)).toNat : Int) = _
  rw [BitVec.toNat_and, BitVec.toNat_ofInt, BitVec.toNat_ofInt]
  rw [show ((a : Int) % ((2 ^ 32 : Nat) : Int)).toNat = a by omega, show ((b : Int) % ((2 ^ 32 : Nat) : Int)).toNat = b by omega]
  rw [IntKind.wrap_u32]
  omega
theorem u32_xor_nat (a b : Nat) (ha : a < 4294967296) (hb : b < 4294967296) : bits .xor .u32 (a : Int) (b : Int) = ((a ^^^ b : Nat) : Int) := by
  have h2 : a ^^^ b < 2 ^ 32 := Nat.xor_lt_two_pow ha hb
  show IntKind.u32.wrap ((BitVec.ofInt 32 (a : Int) ^^^ BitVec.ofInt 32 (b : Int)).toNat : Int) = _
  rw [BitVec.toNat_xor, BitVec.toNat_ofInt, BitVec.toNat_ofInt]
  rw [show ((a : Int) % ((2 ^ 32 : Nat) : Int)).toNat = a by omega, show ((b : Int) % ((2 ^ 32 : Nat) : Int)).toNat = b by omega]
  rw [IntKind.wrap_u32]
  omega

theorem top_bit (n : Nat) (h : n < 4294967296) : n / 2147483648 = (n.testBit 31).toNat := by
  rw [Nat.testBit_eq_decide_div_mod_eq, show (2 : Nat) ^ 31 = 2147483648 from rfl]
  have h2 : n / 2147483648 < 2 := by omega
  generalize n / 2147483648 = q at *
  have : q = 0 ∨ q = 1 := by omega
  rcases this with rfl | rfl <;> rfl

theorem sub_borrow (x y c d : Nat) (hx : x < 4294967296) (hy : y < 4294967296) (hc : c ≤ 1) (hd : d = (x + (4294967296 - y) + (4294967296 - c)) % 4294967296) :
    (((4294967295 ^^^ x) &&& y) ||| ((4294967295 ^^^ (x ^^^ y)) &&& d)) / 2147483648 = if x < y + c then 1 else 0 := by
  have hd' : d < 4294967296 := by omega
  have h1 : 4294967295 ^^^ x < 2 ^ 32 := Nat.xor_lt_two_pow (by decide) hx
  have h2 : x ^^^ y < 2 ^ 32 := Nat.xor_lt_two_pow hx hy
  have h3 : 4294967295 ^^^ (x ^^^ y) < 2 ^ 32 := Nat.xor_lt_two_pow (by decide) h2
  have h4 : (4294967295 ^^^ x) &&& y < 2 ^ 32 := Nat.and_lt_two_pow _ hy
  have h5 : (4294967295 ^^^ (x ^^^ y)) &&& d < 2 ^ 32 := Nat.and_lt_two_pow _ hd'
  rw [top_bit _ (Nat.or_lt_two_pow h4 h5)]
  have tx := top_bit x hx
  have ty := top_bit y hy
  have td := top_bit d hd'
  rw [Nat.testBit_or, Nat.testBit_and, Nat.testBit_and, Nat.testBit_xor, Nat.testBit_xor, Nat.testBit_xor, show (4294967295 : Nat).testBit 31 = true by decide]
  clear h1 h2 h3 h4 h5
  generalize x.testBit 31 = p at *
  generalize y.testBit 31 = q at *
  generalize d.testBit 31 = r at *
  cases p <;> cases q <;> cases r <;> simp at tx ty td ⊢ <;> omega

/-- The borrow. -/
def brw (x y c : Nat) : Nat := if x < y + c then 1 else 0
/-- The limb. -/
def dif (x y c : Nat) : Nat := (x + (4294967296 - y) + (4294967296 - c)) % 4294967296
theorem dif_brw (x y c : Nat) (hx : x < 4294967296) (hy : y < 4294967296) (hc : c ≤ 1) : dif x y c + y + c = x + 4294967296 * brw x y c ∧ brw x y c ≤ 1 ∧ dif x y c < 4294967296 := by
  unfold dif brw; split <;> omega

set_option maxHeartbeats 1000000 in
theorem sub32_any (x y c : Nat) (w : World) (hx : x < 4294967296) (hy : y < 4294967296) (hc : c ≤ 1) :
    Calls Tryd.prog 85 #[.int .u32 x, .int .u32 y, .int .u32 c] w fun e w' => e = .returned (.tuple #[.int .u32 (dif x y c : Nat), .int .u32 (brw x y c : Nat)]) ∧ w = w' := by
  go_enter Tryd.func85, Tryd.ntmps85
  go_wp2
  go_ret2
  refine ⟨?_, rfl⟩
  have hd : ((x : Int) - (y : Int) - (c : Int)) % 4294967296 = ((dif x y c : Nat) : Int) := by unfold dif; omega
  have hb := sub_borrow x y c (dif x y c) hx hy hc rfl
  have hl := (dif_brw x y c hx hy hc).2.2
  have em : IntKind.u32.max = ((4294967295 : Nat) : Int) := rfl
  refine ret_pair hd ?_
  rw [hd, em, u32_xor_nat _ _ (by decide) hx, u32_xor_nat _ _ hx hy]
  have h1 : 4294967295 ^^^ x < 2 ^ 32 := Nat.xor_lt_two_pow (by decide) hx
  have h2 : x ^^^ y < 2 ^ 32 := Nat.xor_lt_two_pow hx hy
  have h3 : 4294967295 ^^^ (x ^^^ y) < 2 ^ 32 := Nat.xor_lt_two_pow (by decide) h2
  rw [u32_xor_nat _ _ (by decide) h2, u32_and_nat _ _ h1 hy, u32_and_nat _ _ h3 hl]
  have h4 : (4294967295 ^^^ x) &&& y < 2 ^ 32 := Nat.and_lt_two_pow _ hy
  have h5 : (4294967295 ^^^ (x ^^^ y)) &&& dif x y c < 2 ^ 32 := Nat.and_lt_two_pow _ hl
  rw [u32_or_nat _ _ h4 h5]
  unfold brw
  rw [← hb]
  omega
end Go.Proofs.YtofdlkgpgcnjhaaDoor
