/- Walks: shifts to the left, sums, differences. -/
import Derived.Test.YtofdlkgpgcnjhaaDoorWd
namespace Go.Proofs.YtofdlkgpgcnjhaaDoor
open Go.RowKit Fp

/-! ### shl -/
theorem make32c (n c : Nat) (hc : n ≤ c) (hn : c ≤ 10000000000) (w : World) :
    (Instr.makeSlice 22 (.int .i64 (n : Int)) (.int .i64 (c : Int))).run Tryd.prog w = .ok (.slice (some ⟨w.heap.size, 0, none⟩) n c) (w.alloc (.cells (u32s (List.replicate c 0)).toArray 50)) := by
  obtain ⟨i, hi, hz, h1, h2⟩ := info_parts info32
  have hr := run_make (P := Tryd.prog) w 22 50 i _ Tryd.underlying22 hi hz .i64 .i64 n c (by omega) (by omega) (by rw [h2]; omega) (by omega)
  rw [hr, Int.toNat_natCast, Int.toNat_natCast, h1, Nat.mul_one]
  congr 3
  apply Array.ext
  · simp [madeCells, u32s]
  · intro i h1 h2
    simp [madeCells, u32s, Value.cells, Nat.mod_one]
theorem Ow.made (w : World) (base n c : Nat) (hb : base ≤ w.heap.size) (hc : n ≤ c) (hn : c ≤ 10000000000) :
    Ow (w.alloc (.cells (u32s (List.replicate c 0)).toArray 50)) base (.slice (some ⟨w.heap.size, 0, none⟩) n c) (List.replicate n 0) :=
  ⟨⟨by simp [u32s], .inr ⟨w.heap.size, c, _, by simp, hb, heap_alloc_new w _, by simpa using hc, by simp only [maxLen]; omega, by simp [u32s], by
    simp [u32s, List.take_replicate, Nat.min_eq_left hc]⟩⟩, Ok32.replicate0 n⟩

theorem Ext.own {w w1 w2 : World} (h : Ext w w1) (v : Value) (L : List Nat) (ho : Ow w1 w.heap.size v L) (hg : w1.grownBy w2 v.ownBlock) : Ext w w2 :=
  h.grown hg h.size (fun k hk => (ho.row.lt k hk).1)

theorem shl_word (x q s : Nat) (hx : x < 4294967296) (hs : s < 32) (hq : q < 2 ^ s) :
    bits BinOp.or IntKind.u64 (IntKind.u64.wrap ((x : Int) * 2 ^ s)) (q : Int) = ((x * 2 ^ s + q : Nat) : Int) ∧ x * 2 ^ s + q < 18446744073709551616 ∧ (x * 2 ^ s + q) / 4294967296 < 2 ^ s := by
  have hp : 2 ^ s ≤ 2 ^ 31 := Nat.pow_le_pow_right (by decide) (by omega)
  have e31 : (2 : Nat) ^ 31 = 2147483648 := by decide
  have h1 : (x + 1) * 2 ^ s ≤ 4294967296 * 2 ^ s := Nat.mul_le_mul_right _ hx
  rw [Nat.add_mul, Nat.one_mul] at h1
  have h2 : x * 2 ^ s < 4294967296 * 2 ^ s := Nat.mul_lt_mul_of_pos_right hx (Nat.pow_pos (by decide))
  refine ⟨?_, by omega, by omega⟩
  have e : ((x : Int) * 2 ^ s) = ((x * 2 ^ s : Nat) : Int) := by simp
  rw [e, IntKind.wrap_u64, show ((x * 2 ^ s : Nat) : Int) % 18446744073709551616 = ((x * 2 ^ s : Nat) : Int) by omega, u64_or_nat _ _ (by omega) (by omega), Nat.or_comm, or_add q x s hq, Nat.add_comm]

set_option maxHeartbeats 1000000 in
theorem natshl_any (A : Option Addr) (c : Nat) (L : List Nat) (n : Nat) (w : World) (hs : Sl w A c L) (hlen : L.length ≤ 100000000) (hn : n ≤ 65536) :
    Calls Tryd.prog 83 #[.slice A L.length c, .int .i64 n] w (fun e w' => ∃ T, val T = val L * 2 ^ n ∧ Ok32 T ∧ T.length = n / 32 + (trimL L).length + 1 ∧ RetL w T e w') := by
  have hT := Lib.hid (natTrim_any A c L w hs)
  have hs2 := hs.trim
  have hl2 := tlen_le L
  have hC := hs2.cap
  have hL := hs.lim
  unfold tlen at hl2
  have hv := Lib.hid (val_trimL L)
  generalize trimL L = M at *
  obtain ⟨m, hm⟩ : ∃ m, m = M.length := ⟨_, rfl⟩
  rw [← hm] at hT hl2 hC
  have HM := Lib.hid hm; clear hm
  have hmk := make32c (n / 32) (n / 32 + m + 1) (by omega) (by omega)
  rw [show ((n / 32 : Nat) : Int) = (n : Int) / 32 by omega, show ((n / 32 + m + 1 : Nat) : Int) = (n : Int) / 32 + m + 1 by omega] at hmk
  have hOw := Lib.hid (Ow.made w w.heap.size (n / 32) (n / 32 + m + 1) (Nat.le_refl _) (by omega) (by omega))
  go_enter Tryd.func83, Tryd.ntmps83
  go_wp2_with fail
  refine hT.out.mono ?_; rintro e w' ⟨rfl, rfl⟩
  go_wp2
  go_loopw [5, 6, 23] (fun v cy i wr => ∃ (k q : Nat) (O : List Nat), k ≤ m ∧ i = .int .i64 k ∧ cy = .int .u64 q ∧ q < 2 ^ (n % 32) ∧ O.length = n / 32 + k ∧ val O + 4294967296 ^ (n / 32 + k) * q = val (M.take k) * 2 ^ (n % 32) * 4294967296 ^ (n / 32) ∧ Ow wr w.heap.size v O ∧ Ext w wr) (fun _ _ i _ => m - (intOf i).toNat)
  case atStart =>
    exact ⟨0, 0, List.replicate (n / 32) 0, Nat.zero_le _, rfl, rfl, Nat.pow_pos (by decide), by simp, by simp [val_replicate0], hOw.out, Ext.alloc _ _⟩
  case round =>
    obtain ⟨k, q, O, hk, rfl, rfl, hq, hO, hval, how, hb⟩ := hrel
    have HV := Lib.hid hval
    have HO := Lib.hid hO
    have hOl : O.length ≤ 200000000 := by omega
    have hq2 := Lib.hid hq
    clear hval hO hq
    obtain ⟨OA, Oc, rfl, hos⟩ := how.sl
    by_cases hlt : k < m
    · have hkM : k < M.length := by have := HM.out; omega
      obtain ⟨ab, ao, rfl, _, c1⟩ := (hs2.below hb).at_ hkM
      have hx32 : M[k] < 4294967296 := hs2.ok.get hkM
      have HX := Lib.hid (shl_step (c := q) (s := n % 32) (n0 := n / 32) hkM HO.out HV.out)
      generalize M[k] = x at *
      obtain ⟨hw, hz1, hz2⟩ := shl_word x q (n % 32) hx32 (Nat.mod_lt _ (by decide)) hq2.out
      generalize x * 2 ^ (n % 32) + q = z at *
      have hz3 := Lib.hid hz2; clear hz2
      have hsz : O.length + [z % 4294967296].length ≤ 10000000000 := by simp; omega
      go_wp2_with (at_builtin; go_must (refine wpList_app (by rfl) _ _ (by rfl) w.heap.size _ O (by rfl) (how.alloc _) _ _ _ [z % 4294967296] (by rfl) (by rfl) (Sl.oneI _ _ (z % 4294967296) (by omega) (by omega)) hsz (le_alloc hb.size _) ?_); intro v' w1 how1 hg hat)
      go_roundw
      case rel =>
        exact ⟨k + 1, z / 4294967296, O ++ [z % 4294967296], by omega, by go_num, by go_num, hz3.out, by rw [List.length_append, HO.out]; rfl, HX.out, how1, (hb.trans (Ext.alloc _ _)).own _ _ (how.alloc _) hg⟩
      case measure => simp [intOf]; omega
    · obtain rfl : k = m := by omega
      have hsz : O.length + [q].length ≤ 10000000000 := by simp; omega
      have hq32 : q < 4294967296 := by
        have := hq2.out
        have hp : 2 ^ (n % 32) ≤ 2 ^ 31 := Nat.pow_le_pow_right (by decide) (by omega)
        have e31 : (2 : Nat) ^ 31 = 2147483648 := by decide
        omega
      have hqm : (q : Int) % 4294967296 = q := by omega
      go_wp2_with (at_builtin; go_must (refine wpList_app (by rfl) _ _ (by rfl) w.heap.size _ O (by rfl) (how.alloc _) _ _ _ [q] (by rfl) (by rfl) (Sl.oneI _ _ q (by omega) (by omega)) hsz (le_alloc hb.size _) ?_); intro v' w1 how1 hg hat)
      obtain ⟨A', c', rfl, hs'⟩ := how1.sl
      go_ret
      refine ⟨O ++ [q], ?_, hs'.ok, by rw [List.length_append, HO.out, ← HM.out]; rfl, A', c', rfl, hs', (hb.trans (Ext.alloc _ _)).own _ _ (how.alloc _) hg⟩
      have h := HV.out
      rw [List.take_of_length_le (by rw [HM.out]; exact Nat.le_refl _)] at h
      rw [val_append, HO.out, val_cons, val_nil, Nat.mul_zero, Nat.add_zero, h, ← hv.out, pow32, Nat.mul_assoc, ← Nat.pow_add]
      congr 2
      omega

set_option maxHeartbeats 400000 in
theorem natShl_ok (A : Option Addr) (c : Nat) (L : List Nat) (n : Nat) (w : World) (hs : Sl w A c L) (hlen : L.length ≤ 256) (hn : n ≤ 65536) (hfit : (limbs (val L * 2 ^ n)).length ≤ 256) :
    Calls Tryd.prog 78 #[.slice A L.length c, .int .i64 n] w (RetLE w (limbs (val L * 2 ^ n)) 0) := by
  have H1 := Lib.hid (fun w (h : Sl w A c L) => natshl_any A c L n w h (by omega) hn)
  obtain ⟨R, hR⟩ : ∃ R, R = limbs (val L * 2 ^ n) := ⟨_, rfl⟩
  rw [← hR] at hfit ⊢
  have HR := Lib.hid hR; clear hR
  go_enter Tryd.func78, Tryd.ntmps78
  go_wp2_with fail
  refine (longA_any _ A _ c _ false (SlS1 _ _ _ _) (by simp; omega)).mono ?_
  rintro e w' ⟨rfl, rfl⟩
  go_wp2_with fail
  refine (H1.out _ (hs.alloc _)).mono ?_
  rintro e w' ⟨T, hT, hTo, -, A', c', rfl, hs', hb⟩
  have h3 := Lib.hid (show trimL T = R by rw [trimL_eq_limbs hTo, hT, HR.out])
  clear hT hTo
  go_wp2_with fail
  refine (natDone_ok A' c' T _ hs' (by rw [h3.out]; exact hfit)).mono ?_
  rintro e w'' ⟨A'', c'', rfl, hs'', hb'⟩
  go_wp2
  go_ret2
  rw [← h3.out]
  exact ⟨A'', c'', rfl, hs'', (Ext.alloc _ _).trans (hb.trans hb')⟩

theorem shifted_any (A : Option Addr) (c : Nat) (L : List Nat) (n : Nat) (w : World) (hs : Sl w A c L) (hlen : L.length ≤ 256) (hn : n ≤ 65536) (hfit : (limbs (val L * 2 ^ n)).length ≤ 256) :
    Calls Tryd.prog 63 #[.slice A L.length c, .int .i64 n] w (RetL w (limbs (val L * 2 ^ n))) := by
  have H1 := Lib.hid (natShl_ok A c L n w hs hlen hn hfit)
  generalize limbs (val L * 2 ^ n) = R at *
  go_enter Tryd.func63, Tryd.ntmps63
  go_wp2_with fail
  refine H1.out.mono ?_
  rintro e w'' ⟨A'', c'', rfl, hs'', hb'⟩
  go_wp2
  go_ret
  exact ⟨A'', c'', rfl, hs'', hb'⟩
end Go.Proofs.YtofdlkgpgcnjhaaDoor
