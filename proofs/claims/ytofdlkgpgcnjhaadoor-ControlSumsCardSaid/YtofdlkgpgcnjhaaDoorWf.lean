/- Walks: the reference's arithmetic of limbs. -/
import Derived.Test.YtofdlkgpgcnjhaaDoorWe
namespace Go.Proofs.YtofdlkgpgcnjhaaDoor
open Go.RowKit Fp

theorem u64_and_nat (a b : Nat) (ha : a < 18446744073709551616) (hb : b < 18446744073709551616) : bits .and .u64 (a : Int) (b : Int) = ((a &&& b : Nat) : Int) := by
  have hx : a &&& b < 2 ^ 64 := Nat.and_lt_two_pow _ (by omega)
  have h1 : (BitVec.ofInt 64 (a : Int)).toNat = a := by
    rw [BitVec.ofInt_natCast, BitVec.toNat_ofNat]; exact Nat.mod_eq_of_lt (by omega)
  have h2 : (BitVec.ofInt 64 (b : Int)).toNat = b := by
    rw [BitVec.ofInt_natCast, BitVec.toNat_ofNat]; exact Nat.mod_eq_of_lt (by omega)
  show IntKind.u64.wrap ((BitVec.ofInt 64 (a : Int) &&& BitVec.ofInt 64 (b : Int)).toNat : Int) = _
  rw [BitVec.toNat_and, h1, h2, IntKind.wrap_u64]
  omega
theorem and_mask (z : Nat) (hz : z < 18446744073709551616) : bits BinOp.and IntKind.u64 (z : Int) 4294967295 = (z : Int) % 4294967296 := by
  have e : (4294967295 : Int) = ((4294967295 : Nat) : Int) := rfl
  rw [e, u64_and_nat z _ hz (by omega), show (4294967295 : Nat) = 2 ^ 32 - 1 by decide, Nat.and_two_pow_sub_one_eq_mod]
  simp

set_option maxHeartbeats 1000000 in
theorem refLeft_any (A : Option Addr) (c : Nat) (M : List Nat) (n : Nat) (w : World) (hs2 : Sl w A c M) (hlen : M.length ≤ 1000) (hn : n ≤ 65536) :
    Calls Tryd.prog 64 #[.slice A M.length c, .int .i64 n] w (RetL w (limbs (val M * 2 ^ n))) := by
  have hC := hs2.cap
  have hL := hs2.lim
  obtain ⟨m, hm⟩ : ∃ m, m = M.length := ⟨_, rfl⟩
  rw [← hm] at hlen hC ⊢
  have HM := Lib.hid hm; clear hm
  have hmk := make32c (n / 32) (n / 32) (by omega) (by omega)
  rw [show ((n / 32 : Nat) : Int) = (n : Int) / 32 by omega] at hmk
  have hOw := Lib.hid (Ow.made w w.heap.size (n / 32) (n / 32) (Nat.le_refl _) (by omega) (by omega))
  go_enter Tryd.func64, Tryd.ntmps64
  go_wp2
  go_loopw [5, 6, 7] (fun v cy i wr => ∃ (k q : Nat) (O : List Nat), k ≤ m ∧ i = .int .i64 k ∧ cy = .int .u64 q ∧ q < 2 ^ (n % 32) ∧ O.length = n / 32 + k ∧ val O + 4294967296 ^ (n / 32 + k) * q = val (M.take k) * 2 ^ (n % 32) * 4294967296 ^ (n / 32) ∧ Ow wr w.heap.size v O ∧ Ext w wr) (fun _ _ i _ => m - (intOf i).toNat)
  case atStart =>
    exact ⟨0, 0, List.replicate (n / 32) 0, Nat.zero_le _, rfl, rfl, Nat.pow_pos (by decide), by simp, by simp [val_replicate0], hOw.out, Ext.alloc _ _⟩
  case round =>
    obtain ⟨k, q, O, hk, rfl, rfl, hq, hO, hval, how, hb⟩ := hrel
    have HV := Lib.hid hval
    have HO := Lib.hid hO
    have hOl : O.length ≤ 3100 := by omega
    have hq2 := Lib.hid hq
    clear hval hO hq
    obtain ⟨OA, Oc, rfl, hos⟩ := how.sl
    by_cases hlt : k < m
    · have hkM : k < M.length := by have := HM.out; omega
      obtain ⟨ab, ao, rfl, _, c1⟩ := (hs2.below hb).at_ hkM
      have hx32 : M[k] < 4294967296 := hs2.ok.get hkM
      have HX := Lib.hid (shl_step (c := q) (s := n % 32) (n0 := n / 32) hkM HO.out HV.out)
      generalize M[k] = x at *
      obtain ⟨hw, hz1, hz2⟩ := shl_word x q (n % 32) hx32 (Nat.mod_lt _ (by decide)) hq2.out
      generalize x * 2 ^ (n % 32) + q = z at *
      have hz3 := Lib.hid hz2; clear hz2
      have hsz : O.length + [z % 4294967296].length ≤ 10000000000 := by simp; omega
      have hmask := and_mask z hz1
      go_wp2_with (at_builtin; go_must (refine wpList_app (by rfl) _ _ (by rfl) w.heap.size _ O (by rfl) (how.alloc _) _ _ _ [z % 4294967296] (by rfl) (by rfl) (Sl.oneI _ _ (z % 4294967296) (by omega) (by omega)) hsz (le_alloc hb.size _) ?_); intro v' w1 how1 hg hat)
      go_roundw
      case rel =>
        exact ⟨k + 1, z / 4294967296, O ++ [z % 4294967296], by omega, by go_num, by go_num, hz3.out, by rw [List.length_append, HO.out]; rfl, HX.out, how1, (hb.trans (Ext.alloc _ _)).own _ _ (how.alloc _) hg⟩
      case measure => simp [intOf]; omega
    · obtain rfl : k = m := by omega
      have hsz : O.length + [q].length ≤ 10000000000 := by simp; omega
      have hq32 : q < 4294967296 := by
        have := hq2.out
        have hp : 2 ^ (n % 32) ≤ 2 ^ 31 := Nat.pow_le_pow_right (by decide) (by omega)
        have e31 : (2 : Nat) ^ 31 = 2147483648 := by decide
        omega
      have hqm : (q : Int) % 4294967296 = q := by omega
      have hfin : Hid (trimL (O ++ [q]) = limbs (val M * 2 ^ n)) := by
        show trimL (O ++ [q]) = limbs (val M * 2 ^ n)
        rw [trimL_eq_limbs (how.ok.append (Ok32.cons hq32 Ok32.nil))]
        have h := HV.out
        rw [List.take_of_length_le (by rw [HM.out]; exact Nat.le_refl _)] at h
        rw [val_append, HO.out, val_cons, val_nil, Nat.mul_zero, Nat.add_zero, h, pow32, Nat.mul_assoc, ← Nat.pow_add]
        congr 3
        omega
      go_wp2_with (at_builtin; go_must (refine wpList_app (by rfl) _ _ (by rfl) w.heap.size _ O (by rfl) (how.alloc _) _ _ _ [q] (by rfl) (by rfl) (Sl.oneI _ _ q (by omega) (by omega)) hsz (le_alloc hb.size _) ?_); intro v' w1 how1 hg hat; obtain ⟨P, hP⟩ : ∃ P, P = O ++ [q] := ⟨_, rfl⟩; rw [← hP] at how1 hfin; have hPl : P.length ≤ 3101 := (by rw [hP]; simp; omega); clear hP; obtain ⟨A', c', rfl, hs'⟩ := how1.sl)
      refine (refTrim_any A' c' P _ hs' (by omega)).mono ?_
      rintro e w' ⟨A'', c'', rfl, hs'', hb'⟩
      go_wp2
      go_ret
      rw [← hfin.out]
      exact ⟨A'', c'', rfl, hs'', ((hb.trans (Ext.alloc _ _)).own _ _ (how.alloc _) hg).trans hb'⟩
end Go.Proofs.YtofdlkgpgcnjhaaDoor
