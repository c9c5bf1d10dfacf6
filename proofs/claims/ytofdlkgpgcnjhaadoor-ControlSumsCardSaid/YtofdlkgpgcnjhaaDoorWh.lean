/- Walks: the reference's sum and difference of limbs, and its count of zero bits. -/
import Derived.Test.YtofdlkgpgcnjhaaDoorWg
namespace Go.Proofs.YtofdlkgpgcnjhaaDoor
open Go.RowKit Fp

theorem getD_of_lt {L : List Nat} {k : Nat} (h : k < L.length) : L.getD k 0 = L[k] := by
  rw [List.getD_eq_getElem?_getD, List.getElem?_eq_getElem h]; rfl
theorem getD_of_ge {L : List Nat} {k : Nat} (h : ¬ k < L.length) : L.getD k 0 = 0 := by
  rw [List.getD_eq_getElem?_getD, List.getElem?_eq_none (by omega)]; rfl

set_option maxHeartbeats 1000000 in
theorem refPlus_any (A B : Option Addr) (c d : Nat) (L M : List Nat) (w : World) (hs : Sl w A c L) (hr : Sl w B d M) (h1 : L.length ≤ 3000) (h2 : M.length ≤ 3000) :
    Calls Tryd.prog 65 #[.slice A L.length c, .slice B M.length d] w (RetL w (limbs (val L + val M))) := by
  have HLl := Lib.hid (rfl : L.length = L.length)
  obtain ⟨l, hl⟩ : ∃ l, l = L.length := ⟨_, rfl⟩
  obtain ⟨m, hm⟩ : ∃ m, m = M.length := ⟨_, rfl⟩
  rw [← hl] at h1 ⊢
  rw [← hm] at h2 ⊢
  have HL := Lib.hid hl
  have HM := Lib.hid hm
  clear hl hm HLl
  go_enter Tryd.func65, Tryd.ntmps65
  go_wp2
  go_loopw [5, 6, 7] (fun v cy i wr => ∃ (k q : Nat) (O : List Nat), (k ≤ l ∨ k ≤ m) ∧ i = .int .i64 k ∧ cy = .int .u64 q ∧ q ≤ 1 ∧ O.length = k ∧ val O + 4294967296 ^ k * q = val (L.take k) + val (M.take k) ∧ Ow wr w.heap.size v O ∧ Ext w wr) (fun _ _ i _ => 3000 - (intOf i).toNat)
  case atStart => exact ⟨0, 0, [], .inl (Nat.zero_le _), rfl, rfl, by decide, rfl, by simp, Ow.nil _ _, Ext.refl _⟩
  case round =>
    obtain ⟨k, q, O, hk, rfl, rfl, hq, hO, hval, how, hb⟩ := hrel
    have HS := Lib.hid (add_step2 (x := L.getD k 0) (y := M.getD k 0) hO hval (val_take_getD L k) (val_take_getD M k))
    have HV := Lib.hid hval
    have HO := Lib.hid hO
    have hOl : O.length ≤ 3000 := by omega
    have hkk : k ≤ 3000 := by omega
    clear hval hO hk
    obtain ⟨OA, Oc, rfl, hos⟩ := how.sl
    have hmask := fun z : Nat => fun h : z < 8589934593 => and_mask z (by omega)
    by_cases hl : k < l
    · have hlZ : (k : Int) < l := by omega
      have hkL : k < L.length := by have := HL.out; omega
      obtain ⟨ab, ao, rfl, _, c1⟩ := (hs.below hb).at_ hkL
      have hx32 : L[k] < 4294967296 := hs.ok.get hkL
      rw [getD_of_lt hkL] at HS
      generalize L[k] = x at *
      clear hkL
      by_cases hm : k < m
      · have hmZ : (k : Int) < m := by omega
        have hkM : k < M.length := by have := HM.out; omega
        obtain ⟨bb, bo, rfl, _, c2⟩ := (hr.below hb).at_ hkM
        have hy32 : M[k] < 4294967296 := hr.ok.get hkM
        rw [getD_of_lt hkM] at HS
        generalize M[k] = y at *
        clear hkM
        have hmk := hmask (q + x + y) (by omega)
        simp only [Int.natCast_add] at hmk
        clear hmask
        have hsz : O.length + [(q + x + y) % 4294967296].length ≤ 10000000000 := by simp; omega
        go_wp2_with (at_builtin; go_must (refine wpList_app (by rfl) _ _ (by rfl) w.heap.size _ O (by rfl) (how.alloc _) _ _ _ [(q + x + y) % 4294967296] (by rfl) (by rfl) (Sl.oneI _ _ ((q + x + y) % 4294967296) (by omega) (by omega)) hsz (le_alloc hb.size _) ?_); intro v' w1 how1 hg hat)
        go_roundw
        case rel =>
          exact ⟨k + 1, (q + x + y) / 4294967296, O ++ [(q + x + y) % 4294967296], by omega, by go_num, by go_num, by omega, by rw [List.length_append, HO.out]; rfl, HS.out, how1, (hb.trans (Ext.alloc _ _)).own _ _ (how.alloc _) hg⟩
        case measure => simp [intOf]; omega
      · have hmZ : ¬ (k : Int) < m := by omega
        rw [getD_of_ge (by have := HM.out; omega)] at HS
        have hmk := hmask (q + x + 0) (by omega)
        simp only [Int.natCast_add, Nat.add_zero] at hmk
        clear hmask
        have hsz : O.length + [(q + x + 0) % 4294967296].length ≤ 10000000000 := by simp; omega
        go_wp2_with (at_builtin; go_must (refine wpList_app (by rfl) _ _ (by rfl) w.heap.size _ O (by rfl) (how.alloc _) _ _ _ [(q + x + 0) % 4294967296] (by rfl) (by rfl) (Sl.oneI _ _ ((q + x + 0) % 4294967296) (by omega) (by omega)) hsz (le_alloc hb.size _) ?_); intro v' w1 how1 hg hat)
        go_roundw
        case rel =>
          exact ⟨k + 1, (q + x + 0) / 4294967296, O ++ [(q + x + 0) % 4294967296], by omega, by go_num, by go_num, by omega, by rw [List.length_append, HO.out]; rfl, HS.out, how1, (hb.trans (Ext.alloc _ _)).own _ _ (how.alloc _) hg⟩
        case measure => simp [intOf]; omega
    · have hlZ : ¬ (k : Int) < l := by omega
      have hlF : decide ((k : Int) < l) = false := by simpa using hlZ
      rw [getD_of_ge (L := L) (by have := HL.out; omega)] at HS
      by_cases hm : k < m
      · have hmZ : (k : Int) < m := by omega
        have hkM : k < M.length := by have := HM.out; omega
        obtain ⟨bb, bo, rfl, _, c2⟩ := (hr.below hb).at_ hkM
        have hy32 : M[k] < 4294967296 := hr.ok.get hkM
        rw [getD_of_lt hkM] at HS
        generalize M[k] = y at *
        clear hkM
        have hmk := hmask (q + 0 + y) (by omega)
        simp only [Int.natCast_add, Nat.add_zero] at hmk
        clear hmask
        have hsz : O.length + [(q + 0 + y) % 4294967296].length ≤ 10000000000 := by simp; omega
        go_wp2_with (at_builtin; go_must (refine wpList_app (by rfl) _ _ (by rfl) w.heap.size _ O (by rfl) (how.alloc _) _ _ _ [(q + 0 + y) % 4294967296] (by rfl) (by rfl) (Sl.oneI _ _ ((q + 0 + y) % 4294967296) (by omega) (by omega)) hsz (le_alloc hb.size _) ?_); intro v' w1 how1 hg hat)
        go_roundw
        case rel =>
          exact ⟨k + 1, (q + 0 + y) / 4294967296, O ++ [(q + 0 + y) % 4294967296], by omega, by go_num, by go_num, by omega, by rw [List.length_append, HO.out]; rfl, HS.out, how1, (hb.trans (Ext.alloc _ _)).own _ _ (how.alloc _) hg⟩
        case measure => simp [intOf]; omega
      · have hmZ : ¬ (k : Int) < m := by omega
        clear hmask
        have hq32 : (q : Int) % 4294967296 = q := by omega
        have hfin : Hid (trimL (O ++ [q]) = limbs (val L + val M)) := by
          show trimL (O ++ [q]) = _
          rw [trimL_eq_limbs (how.ok.append (Ok32.cons (by omega) Ok32.nil)), val_append, HO.out]
          have h := HV.out
          rw [List.take_of_length_le (by have := HL.out; omega), List.take_of_length_le (by have := HM.out; omega)] at h
          simp only [val_cons, val_nil, Nat.mul_zero, Nat.add_zero]
          rw [h]
        have hsz : O.length + [q].length ≤ 10000000000 := by simp; omega
        go_wp2_with (at_builtin; go_must (refine wpList_app (by rfl) _ _ (by rfl) w.heap.size _ O (by rfl) (how.alloc _) _ _ _ [q] (by rfl) (by rfl) (Sl.oneI _ _ q (by omega) (by omega)) hsz (le_alloc hb.size _) ?_); intro v' w1 how1 hg hat; obtain ⟨P, hP⟩ : ∃ P, P = O ++ [q] := ⟨_, rfl⟩; rw [← hP] at how1 hfin; have hPl : P.length ≤ 3001 := (by rw [hP]; simp; omega); clear hP; obtain ⟨A', c', rfl, hs'⟩ := how1.sl)
        refine (refTrim_any A' c' P _ hs' (by omega)).mono ?_
        rintro e w' ⟨A'', c'', rfl, hs'', hb'⟩
        go_wp2
        go_ret
        rw [← hfin.out]
        exact ⟨A'', c'', rfl, hs'', ((hb.trans (Ext.alloc _ _)).own _ _ (how.alloc _) hg).trans hb'⟩

theorem u32_bit (x s : Nat) (hx : x < 4294967296) : bits BinOp.and IntKind.u32 ((x : Int) / 2 ^ s) 1 = ((x / 2 ^ s % 2 : Nat) : Int) := by
  have h : x / 2 ^ s < 4294967296 := Nat.lt_of_le_of_lt (Nat.div_le_self _ _) (by omega)
  rw [show ((x : Int) / 2 ^ s) = ((x / 2 ^ s : Nat) : Int) by simp, show (1 : Int) = ((1 : Nat) : Int) from rfl, bits_and_u32_nat _ _ h (by decide), Nat.and_one_is_mod]

set_option maxHeartbeats 1000000 in
theorem refZeros_any (A : Option Addr) (c : Nat) (L : List Nat) (w : World) (hs : Sl w A c L) (h1 : L.length ≤ 3000) (h0 : val L ≠ 0) :
    Calls Tryd.prog 58 #[.slice A L.length c] w fun e w' => e = .returned (.int .i64 (ctzN (val L))) ∧ w = w' := by
  have hz := ctz_lt hs.ok h0
  have HB := Lib.hid (fun k (hk : k < ctzN (val L)) => bit_below_ctz h0 hk)
  have HE := Lib.hid (bit_at_ctz h0)
  have HV := Lib.hid (fun k => bit_val hs.ok k)
  generalize ctzN (val L) = t at *
  go_enter Tryd.func58, Tryd.ntmps58
  go_wp2
  go_loop [3] (fun i => ∃ k : Nat, k ≤ t ∧ i = .int .i64 k) (fun i => t - (intOf i).toNat)
  case atStart => exact ⟨0, Nat.zero_le _, rfl⟩
  case round =>
    obtain ⟨k, hk, rfl⟩ := hrel
    have hkL : k / 32 < L.length := by omega
    obtain ⟨ab, ao, rfl, _, c1⟩ := hs.at_ hkL
    have hv := HV.out k hkL
    have hx32 : L[k / 32] < 4294967296 := hs.ok.get hkL
    generalize L[k / 32] = x at *
    clear HV
    have hbit := u32_bit x (k % 32) hx32
    rw [← hv] at hbit
    clear hv
    by_cases hkt : k < t
    · rw [HB.out k hkt] at hbit
      have hb : (bits BinOp.and IntKind.u32 ((x : Int) / 2 ^ (k % 32)) 1 == 0) = true := by rw [hbit]; rfl
      clear hbit
      go_wp2
      go_round
      case rel => exact ⟨k + 1, by omega, by go_num⟩
      case measure => simp [intOf]; omega
    · obtain rfl : k = t := by omega
      rw [HE.out] at hbit
      have hb : (bits BinOp.and IntKind.u32 ((x : Int) / 2 ^ (k % 32)) 1 == 0) = false := by rw [hbit]; rfl
      clear hbit
      go_wp2
      go_ret
      exact ⟨rfl, rfl⟩

set_option maxHeartbeats 1000000 in
theorem refMinus_any (A B : Option Addr) (c d : Nat) (L M : List Nat) (w : World) (hs : Sl w A c L) (hr : Sl w B d M) (h1 : L.length ≤ 3000) (h2 : M.length ≤ L.length) (hle : val M ≤ val L) :
    Calls Tryd.prog 66 #[.slice A L.length c, .slice B M.length d] w (RetL w (limbs (val L - val M))) := by
  obtain ⟨l, hl⟩ : ∃ l, l = L.length := ⟨_, rfl⟩
  obtain ⟨m, hm⟩ : ∃ m, m = M.length := ⟨_, rfl⟩
  rw [← hl] at h1 h2 ⊢
  rw [← hm] at h2 ⊢
  have HL := Lib.hid hl
  have HM := Lib.hid hm
  clear hl hm
  have HLE := Lib.hid hle
  clear hle
  go_enter Tryd.func66, Tryd.ntmps66
  go_wp2
  go_loopw [5, 6, 7] (fun v cy i wr => ∃ (k q : Nat) (O : List Nat), k ≤ l ∧ i = .int .i64 k ∧ cy = .int .u64 q ∧ q ≤ 1 ∧ O.length = k ∧ val O + val (M.take k) = val (L.take k) + 4294967296 ^ k * q ∧ Ow wr w.heap.size v O ∧ Ext w wr) (fun _ _ i _ => l - (intOf i).toNat)
  case atStart => exact ⟨0, 0, [], Nat.zero_le _, rfl, rfl, by decide, rfl, by simp, Ow.nil _ _, Ext.refl _⟩
  case round =>
    obtain ⟨k, q, O, hk, rfl, rfl, hq, hO, hval, how, hb⟩ := hrel
    have HS := Lib.hid (fun (x y : Nat) (e1 : L.getD k 0 = x) (e2 : M.getD k 0 = y) (dd c' : Nat) => sub_step2 (x := x) (y := y) (d := dd) (c' := c') hO hval ((val_take_getD L k).trans (by rw [e1])) ((val_take_getD M k).trans (by rw [e2])))
    have HV := Lib.hid hval
    have HO := Lib.hid hO
    have hOl : O.length ≤ 3000 := by omega
    clear hval hO
    obtain ⟨OA, Oc, rfl, hos⟩ := how.sl
    by_cases hl : k < l
    · have hkL : k < L.length := by have := HL.out; omega
      obtain ⟨ab, ao, rfl, _, c1⟩ := (hs.below hb).at_ hkL
      have hx32 : L[k] < 4294967296 := hs.ok.get hkL
      have HX := Lib.hid (getD_of_lt hkL)
      generalize L[k] = x at *
      clear hkL
      by_cases hm : k < m
      · have hkM : k < M.length := by have := HM.out; omega
        obtain ⟨bb, bo, rfl, _, c2⟩ := (hr.below hb).at_ hkM
        have hy32 : M[k] < 4294967296 := hr.ok.get hkM
        have HY := Lib.hid (getD_of_lt hkM)
        generalize M[k] = y at *
        clear hkM
        have hmk := and_mask (x + 4294967296 - (q + y)) (by omega)
        rw [show ((x + 4294967296 - (q + y) : Nat) : Int) = (x : Int) + 4294967296 - (q + y) by omega] at hmk
        have hsz : O.length + [(x + 4294967296 - (q + y)) % 4294967296].length ≤ 10000000000 := by simp; omega
        go_wp2_with (at_builtin; go_must (refine wpList_app (by rfl) _ _ (by rfl) w.heap.size _ O (by rfl) (how.alloc _) _ _ _ [(x + 4294967296 - (q + y)) % 4294967296] (by rfl) (by rfl) (Sl.oneI _ _ ((x + 4294967296 - (q + y)) % 4294967296) (by omega) (by omega)) hsz (le_alloc hb.size _) ?_); intro v' w1 how1 hg hat)
        go_roundw
        case rel =>
          exact ⟨k + 1, 1 - (x + 4294967296 - (q + y)) / 4294967296, O ++ [(x + 4294967296 - (q + y)) % 4294967296], by omega, by go_num, by rw [show (1 - ((x : Int) + 4294967296 - (q + y)) / 4294967296) = ((1 - (x + 4294967296 - (q + y)) / 4294967296 : Nat) : Int) by omega], by omega, by rw [List.length_append, HO.out]; rfl, HS.out x y HX.out HY.out _ _ (by omega), how1, (hb.trans (Ext.alloc _ _)).own _ _ (how.alloc _) hg⟩
        case measure => simp [intOf]; omega
      · have hmZ : ¬ (k : Int) < m := by omega
        have HY := Lib.hid (getD_of_ge (L := M) (k := k) (by have := HM.out; omega))
        have hmk := and_mask (x + 4294967296 - q) (by omega)
        rw [show ((x + 4294967296 - q : Nat) : Int) = (x : Int) + 4294967296 - q by omega] at hmk
        have hsz : O.length + [(x + 4294967296 - q) % 4294967296].length ≤ 10000000000 := by simp; omega
        go_wp2_with (at_builtin; go_must (refine wpList_app (by rfl) _ _ (by rfl) w.heap.size _ O (by rfl) (how.alloc _) _ _ _ [(x + 4294967296 - q) % 4294967296] (by rfl) (by rfl) (Sl.oneI _ _ ((x + 4294967296 - q) % 4294967296) (by omega) (by omega)) hsz (le_alloc hb.size _) ?_); intro v' w1 how1 hg hat)
        go_roundw
        case rel =>
          exact ⟨k + 1, 1 - (x + 4294967296 - q) / 4294967296, O ++ [(x + 4294967296 - q) % 4294967296], by omega, by go_num, by rw [show (1 - ((x : Int) + 4294967296 - q) / 4294967296) = ((1 - (x + 4294967296 - q) / 4294967296 : Nat) : Int) by omega], by omega, by rw [List.length_append, HO.out]; rfl, HS.out x 0 HX.out HY.out _ _ (by omega), how1, (hb.trans (Ext.alloc _ _)).own _ _ (how.alloc _) hg⟩
        case measure => simp [intOf]; omega
    · obtain rfl : k = l := by omega
      have hfin : Hid (trimL O = limbs (val L - val M)) := by
        show trimL O = _
        have h := HV.out
        rw [List.take_of_length_le (l := L) (by have := HL.out; omega), List.take_of_length_le (l := M) (by have := HM.out; omega)] at h
        rw [trimL_eq_limbs how.ok, (sub_last how.ok HO.out h HLE.out).2]
      go_wp2_with fail
      refine (refTrim_any OA Oc O _ hos (by omega)).mono ?_
      rintro e w' ⟨A'', c'', rfl, hs'', hb'⟩
      go_wp2
      go_ret
      rw [← hfin.out]
      exact ⟨A'', c'', rfl, hs'', hb.trans hb'⟩
end Go.Proofs.YtofdlkgpgcnjhaaDoor
