/- Walks: the reference's shift to the right, sum, difference. -/
import Derived.Test.YtofdlkgpgcnjhaaDoorWf
namespace Go.Proofs.YtofdlkgpgcnjhaaDoor
open Go.RowKit Fp

theorem shr_limbm (x y s : Nat) (hx : x < 4294967296) (hy : y < 4294967296) :
    bits BinOp.and IntKind.u64 (bits BinOp.or IntKind.u64 (x : Int) ((y : Int) * 4294967296) / 2 ^ s) 4294967295 = (((x + 4294967296 * y) / 2 ^ s % 4294967296 : Nat) : Int) := by
  have e : ((y : Int) * 4294967296) = ((y * 2 ^ 32 : Nat) : Int) := by simp
  rw [e, u64_or_nat x (y * 2 ^ 32) (by omega) (by omega), or_add x y 32 (by omega)]
  have h : (x + y * 2 ^ 32) / 2 ^ s < 18446744073709551616 := Nat.lt_of_le_of_lt (Nat.div_le_self _ _) (by omega)
  have h2 := and_mask _ h
  rw [show (((x + y * 2 ^ 32 : Nat) : Int) / 2 ^ s) = (((x + y * 2 ^ 32) / 2 ^ s : Nat) : Int) by simp, h2]
  simp [Nat.mul_comm]
theorem shr_limb0m (x s : Nat) (hx : x < 4294967296) : bits BinOp.and IntKind.u64 ((x : Int) / 2 ^ s) 4294967295 = (((x + 4294967296 * 0) / 2 ^ s % 4294967296 : Nat) : Int) := by
  have h : x / 2 ^ s < 18446744073709551616 := Nat.lt_of_le_of_lt (Nat.div_le_self _ _) (by omega)
  rw [show ((x : Int) / 2 ^ s) = ((x / 2 ^ s : Nat) : Int) by simp, and_mask _ h]
  simp

set_option maxHeartbeats 1000000 in
theorem refRight_any (A : Option Addr) (c : Nat) (M : List Nat) (n : Nat) (w : World) (hs2 : Sl w A c M) (hlen : M.length ≤ 3000) (hn : n ≤ 100000) :
    Calls Tryd.prog 59 #[.slice A M.length c, .int .i64 n] w (RetL w (limbs (val M / 2 ^ n))) := by
  have hC := hs2.cap
  have hL := hs2.lim
  have hfin : Hid (trimL (shrL (n % 32) (M.drop (n / 32))) = limbs (val M / 2 ^ n)) := by
    show _ = _
    rw [trimL_eq_limbs (ok_shrL _ _), val_shr_all hs2.ok]
  obtain ⟨R, hR⟩ : ∃ R, R = limbs (val M / 2 ^ n) := ⟨_, rfl⟩
  rw [← hR] at hfin ⊢
  clear hR
  obtain ⟨m, hm⟩ : ∃ m, m = M.length := ⟨_, rfl⟩
  rw [← hm] at hlen hC ⊢
  have HM := Lib.hid hm; clear hm
  by_cases h0 : m ≤ n / 32
  · go_enter Tryd.func59, Tryd.ntmps59
    go_wp2
    go_ret
    have : M.drop (n / 32) = [] := List.drop_eq_nil_of_le (by rw [← HM.out]; exact h0)
    have h := hfin.out
    rw [this] at h
    rw [← h]
    exact ⟨none, 0, rfl, Sl.nil _, Ext.refl _⟩
  · obtain ⟨ab, ao, rfl, _, _⟩ := hs2.at_ (i := 0) (by have := HM.out; omega)
    have hK := hs2.drop (n / 32)
    have hNK := Lib.hid (show m - n / 32 = (M.drop (n / 32)).length by rw [List.length_drop, HM.out])
    have hcc : n / 32 < c := by omega
    have hN0 : 0 < m - n / 32 := by omega
    have hN1 : m - n / 32 ≤ 3000 := by omega
    generalize M.drop (n / 32) = K at *
    simp only [Option.map_some, addr_add] at hK
    have hT2 := Lib.hid (shrL_length (n % 32) K)
    have hTg := Lib.hid (shrL_get (n % 32) K)
    have hTo := Lib.hid (ok_shrL (n % 32) K)
    generalize shrL (n % 32) K = T at *
    go_enter Tryd.func59, Tryd.ntmps59
    go_wp2
    go_loopw [5, 6] (fun v i wr => ∃ (k : Nat) (O : List Nat), k ≤ m - n / 32 ∧ i = .int .i64 k ∧ O = T.take k ∧ Ow wr w.heap.size v O ∧ Ext w wr) (fun _ i _ => m - n / 32 - (intOf i).toNat)
    case atStart =>
      exact ⟨0, [], Nat.zero_le _, rfl, by simp, Ow.nil _ _, Ext.refl _⟩
    case round =>
      obtain ⟨k, O, hk, rfl, hO, how, hb⟩ := hrel
      have hOl : O.length ≤ 3000 := by rw [hO, List.length_take]; omega
      have HO := Lib.hid hO; clear hO
      obtain ⟨OA, Oc, rfl, hos⟩ := how.sl
      by_cases hlt : k < m - n / 32
      · have hkK : k < K.length := by have := hNK.out; omega
        obtain ⟨ab', ao', e', _, c1⟩ := (hK.below hb).at_ hkK
        cases e'
        have hg := hTg.out k hkK
        have hx32 : K[k] < 4294967296 := hK.ok.get hkK
        have HK := Lib.hid (List.getElem?_eq_getElem hkK)
        by_cases hlt2 : k + 1 < m - n / 32
        · have hkK2 : k + 1 < K.length := by have := hNK.out; omega
          obtain ⟨ab', ao', e', _, c2⟩ := (hK.below hb).at_ hkK2
          cases e'
          have hy : K.getD (k + 1) 0 = K[k + 1] := by rw [List.getD_eq_getElem?_getD, List.getElem?_eq_getElem hkK2]; rfl
          rw [hy] at hg
          have hy32 : K[k + 1] < 4294967296 := hK.ok.get hkK2
          have HG := Lib.hid hg
          clear hg hy
          generalize K[k] = x at *
          generalize K[k + 1] = y at *
          clear hkK hkK2
          have hw := shr_limbm x y (n % 32) hx32 hy32
          have hz : (x + 4294967296 * y) / 2 ^ (n % 32) % 4294967296 < 4294967296 := Nat.mod_lt _ (by decide)
          generalize (x + 4294967296 * y) / 2 ^ (n % 32) % 4294967296 = z at *
          have hsz : O.length + [z].length ≤ 10000000000 := by simp; omega
          go_wp2_with (at_builtin; go_must (refine wpList_app (by rfl) _ _ (by rfl) w.heap.size _ O (by rfl) (how.alloc _) _ _ _ [z] (by rfl) (by rfl) (Sl.oneI _ _ z (by omega) (by omega)) hsz (le_alloc hb.size _) ?_); intro v' w1 how1 hg hat)
          go_roundw
          case rel =>
            exact ⟨k + 1, O ++ [z], by omega, by go_num, by rw [HO.out, List.take_add_one, HG.out]; rfl, how1, (hb.trans (Ext.alloc _ _)).own _ _ (how.alloc _) hg⟩
          case measure => simp [intOf]; omega
        · have hy : K.getD (k + 1) 0 = 0 := by rw [List.getD_eq_getElem?_getD, List.getElem?_eq_none (by have := hNK.out; omega)]; rfl
          rw [hy] at hg
          have HG := Lib.hid hg
          clear hg hy
          generalize K[k] = x at *
          clear hkK
          have hw := shr_limb0m x (n % 32) hx32
          have hz : (x + 4294967296 * 0) / 2 ^ (n % 32) % 4294967296 < 4294967296 := Nat.mod_lt _ (by decide)
          generalize (x + 4294967296 * 0) / 2 ^ (n % 32) % 4294967296 = z at *
          have hsz : O.length + [z].length ≤ 10000000000 := by simp; omega
          go_wp2_with (at_builtin; go_must (refine wpList_app (by rfl) _ _ (by rfl) w.heap.size _ O (by rfl) (how.alloc _) _ _ _ [z] (by rfl) (by rfl) (Sl.oneI _ _ z (by omega) (by omega)) hsz (le_alloc hb.size _) ?_); intro v' w1 how1 hg hat)
          go_roundw
          case rel =>
            exact ⟨k + 1, O ++ [z], by omega, by go_num, by rw [HO.out, List.take_add_one, HG.out]; rfl, how1, (hb.trans (Ext.alloc _ _)).own _ _ (how.alloc _) hg⟩
          case measure => simp [intOf]; omega
      · have hOT : Hid (trimL O = R) := by
          show trimL O = R
          rw [HO.out, List.take_of_length_le (by rw [hT2.out, ← hNK.out]; omega)]
          exact hfin.out
        go_wp2_with fail
        refine (refTrim_any OA Oc O _ hos (by omega)).mono ?_
        rintro e w' ⟨A'', c'', rfl, hs'', hb'⟩
        go_wp2
        go_ret
        rw [← hOT.out]
        exact ⟨A'', c'', rfl, hs'', hb.trans hb'⟩
end Go.Proofs.YtofdlkgpgcnjhaaDoor
