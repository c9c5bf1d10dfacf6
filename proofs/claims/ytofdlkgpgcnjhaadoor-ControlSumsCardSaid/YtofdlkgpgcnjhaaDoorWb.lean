/- Walks: how many bits a list of limbs has, and how lists are compared. -/
import Derived.Test.YtofdlkgpgcnjhaaDoorWa
namespace Go.Proofs.YtofdlkgpgcnjhaaDoor
open Go.RowKit Fp

theorem i64_in (n : Int) (h0 : -9223372036854775808 ≤ n) (h1 : n ≤ 9223372036854775807) : IntKind.i64.wrap n = n := by rw [IntKind.wrap_i64]; omega

theorem bits_top {L M : List Nat} {n : Nat} (hs : Ok32 L) (hM : trimL L = M) (hn : M.length = n + 1) :
    ∃ x, M[n]? = some x ∧ x < 4294967296 ∧ (32 * (n : Int) + (bitsN x : Int)) = (bitsN (val L) : Int) ∧ bitsN x ≤ 32 := by
  have hk : Ok32 M := hM ▸ hs.trimL
  have ht : Trim M := hM ▸ trim_trimL L
  rcases List.eq_nil_or_concat M with rfl | ⟨l, x, rfl⟩
  · simp at hn
  · simp only [List.concat_eq_append, List.length_append, List.length_singleton, Nat.add_right_cancel_iff] at hn hk ht hM ⊢
    subst hn
    have hx : x ≠ 0 := by simpa using (trim_iff _).1 ht (by simp)
    have hlt : x < 4294967296 := hk x (by simp)
    refine ⟨x, by simp, hlt, ?_, bitsN_le_iff.2 hlt⟩
    have := bitsN_val_concat hk hx
    rw [← hM, val_trimL] at this
    omega

set_option maxHeartbeats 400000 in
theorem natBits_any (A : Option Addr) (c : Nat) (L : List Nat) (w : World) (hs : Sl w A c L) (hlen : L.length ≤ 100000000) :
    Calls Tryd.prog 60 #[.slice A L.length c] w fun e w' => e = .returned (.int .i64 (bitsN (val L))) ∧ w = w' := by
  have hT := Lib.hid (natTrim_any A c L w hs)
  have hs2 := hs.trim
  have hl2 := tlen_le L
  unfold tlen at hl2
  generalize hM : trimL L = M at *
  obtain ⟨n, hn⟩ : ∃ n, n = M.length := ⟨_, rfl⟩
  rw [← hn] at hT hl2
  rcases n with _ | n
  · have hv : bitsN (val L) = 0 := by rw [← val_trimL, hM, List.eq_nil_of_length_eq_zero hn.symm]; rfl
    have HV := Lib.hid hv
    clear hv hM hn
    go_enter Tryd.func60, Tryd.ntmps60
    go_wp2_with (go_at_call 73; refine hT.out.mono ?_; rintro e w' ⟨rfl, rfl⟩)
    go_ret
    exact ⟨by rw [HV.out]; rfl, rfl⟩
  · obtain ⟨x, hx, hlt, hb, hb32⟩ := bits_top hs.ok hM hn.symm
    obtain ⟨ab, ao, rfl, _, hcell⟩ := hs2.cell _ _ hx
    have HB := Lib.hid hb
    clear hb hM hn hx
    go_enter Tryd.func60, Tryd.ntmps60
    go_wp2_with (first | (go_at_call 73; refine hT.out.mono ?_; rintro e w' ⟨rfl, rfl⟩) | (go_at_call 77; refine (len32_any x hlt _).mono ?_; rintro e w' ⟨rfl, rfl⟩))
    go_ret
    exact ⟨ret_int HB.out, rfl⟩

/-- Bits of a trimmed list, in the reference: a loop over the top limb. -/
theorem bitsN_half {x : Nat} (h : x ≠ 0) : bitsN x = bitsN (x / 2) + 1 := by
  by_cases h1 : x / 2 = 0
  · have : x = 1 := by omega
    subst this; rfl
  · have e1 := two_pow_le_of_bitsN h1
    have e2 := lt_two_pow_bitsN (x / 2)
    have e3 := bitsN_pos h1
    generalize bitsN (x / 2) = k at *
    obtain ⟨j, rfl⟩ : ∃ j, k = j + 1 := ⟨k - 1, by omega⟩
    rw [Nat.add_sub_cancel] at e1
    refine bitsN_eq ?_ ?_
    · rw [Nat.pow_succ]; omega
    · rw [Nat.pow_succ]; omega

set_option maxHeartbeats 400000 in
theorem refBits_any (A : Option Addr) (c : Nat) (L : List Nat) (w : World) (hs : Sl w A c L) (ht : Trim L) (hlen : L.length ≤ 100000000) :
    Calls Tryd.prog 43 #[.slice A L.length c] w fun e w' => e = .returned (.int .i64 (bitsN (val L))) ∧ w = w' := by
  obtain ⟨n, hn⟩ : ∃ n, n = L.length := ⟨_, rfl⟩
  rcases n with _ | n
  · have hv : bitsN (val L) = 0 := by rw [List.eq_nil_of_length_eq_zero hn.symm]; rfl
    have HV := Lib.hid hv
    rw [← hn]
    clear hv ht hn
    go_enter Tryd.func43, Tryd.ntmps43
    go_wp2
    go_ret
    exact ⟨by rw [HV.out]; rfl, rfl⟩
  · obtain ⟨x, hx, hlt, hb, hb32⟩ := bits_top hs.ok ht hn.symm
    obtain ⟨ab, ao, rfl, _, hcell⟩ := hs.cell _ _ hx
    have HB := Lib.hid hb
    rw [← hn] at hlen ⊢
    clear hb ht hn hx
    go_enter Tryd.func43, Tryd.ntmps43
    go_wp2
    go_loop [3, 4] (fun m y => ∃ (k z : Nat), z < 4294967296 ∧ y = .int .u32 z ∧ m = .int .i64 k ∧ k ≤ 10000000000 ∧ k + bitsN z = bitsN (val L)) (fun _ y => (intOf y).toNat)
    case atStart => exact ⟨32 * n, x, hlt, rfl, by go_num, by omega, by have := HB.out; omega⟩
    case round =>
      obtain ⟨k, z, hz, rfl, rfl, hk, he⟩ := hrel
      have HE := Lib.hid he; clear he
      by_cases h0 : 0 < z
      · have hh := Lib.hid (bitsN_half (x := z) (by omega))
        have hk2 : k ≤ 3300000000 := by have := HE.out; have := HB.out; omega
        go_wp2
        go_round
        case rel => exact ⟨k + 1, z / 2, by omega, by go_num, by go_num, by omega, by rw [← HE.out, hh.out]; omega⟩
        case measure => simp [intOf]; omega
      · obtain rfl : z = 0 := by omega
        go_wp2
        go_ret
        exact ⟨ret_int (by rw [← HE.out]; rfl), rfl⟩

theorem cmp_len_lt {L M : List Nat} (hL : Ok32 L) (h : (trimL L).length < (trimL M).length) : cmpN (val L) (val M) = -1 := by
  have := val_lt_of_length hL.trimL (trim_trimL M) h
  rw [val_trimL, val_trimL] at this
  unfold cmpN; rw [if_pos this]
theorem cmp_len_gt {L M : List Nat} (hM : Ok32 M) (h : (trimL M).length < (trimL L).length) : cmpN (val L) (val M) = 1 := by
  have := val_lt_of_length hM.trimL (trim_trimL L) h
  rw [val_trimL, val_trimL] at this
  unfold cmpN; rw [if_neg (by omega), if_pos this]
theorem cmp_at_lt {M N : List Nat} (hM : Ok32 M) {k x y : Nat} (hl : M.length = N.length) (hx : M[k]? = some x) (hy : N[k]? = some y) (hd : M.drop (k + 1) = N.drop (k + 1)) (h : x < y) : val M < val N := by
  obtain ⟨h1, rfl⟩ := List.getElem?_eq_some_iff.1 hx
  obtain ⟨h2, rfl⟩ := List.getElem?_eq_some_iff.1 hy
  exact val_lt_at hM k h1 hl hd h
theorem drop_same {M N : List Nat} {k x : Nat} (hx : M[k]? = some x) (hy : N[k]? = some x) (hd : M.drop (k + 1) = N.drop (k + 1)) : M.drop k = N.drop k := by
  obtain ⟨h1, e1⟩ := List.getElem?_eq_some_iff.1 hx
  obtain ⟨h2, e2⟩ := List.getElem?_eq_some_iff.1 hy
  rw [List.drop_eq_getElem_cons h1, List.drop_eq_getElem_cons h2, e1, e2, hd]

set_option maxHeartbeats 1000000 in
theorem natCmp_any (A B : Option Addr) (c d : Nat) (L M : List Nat) (w : World) (hs : Sl w A c L) (hr : Sl w B d M) (h1 : L.length ≤ 100000000) (_h2 : M.length ≤ 100000000) :
    Calls Tryd.prog 62 #[.slice A L.length c, .slice B M.length d] w fun e w' => e = .returned (.int .i64 (cmpN (val L) (val M))) ∧ Ext w w' := by
  have hT := Lib.hid (natTrim_any A c L w hs)
  have hU := Lib.hid (natTrim_any B d M w hr)
  have hs2 := hs.trim
  have hr2 := hr.trim
  have hl2 := tlen_le L
  have hm2 := tlen_le M
  unfold tlen at hl2 hm2
  by_cases hlt : (trimL L).length < (trimL M).length
  · have HV := Lib.hid (cmp_len_lt hs.ok hlt)
    have hne : ((((trimL L).length : Nat) : Int) != ((trimL M).length : Nat)) = true := by simp; omega
    generalize (trimL L).length = n at *
    generalize (trimL M).length = m at *
    clear hs2 hr2
    go_enter Tryd.func62, Tryd.ntmps62
    go_wp2_with fail
    refine hT.out.mono ?_; rintro e w' ⟨rfl, rfl⟩
    go_wp2_with fail
    refine hU.out.mono ?_; rintro e w' ⟨rfl, rfl⟩
    go_wp2
    go_ret
    exact ⟨ret_int (by rw [HV.out]), Ext.refl _⟩
  · by_cases hgt : (trimL M).length < (trimL L).length
    · have HV := Lib.hid (cmp_len_gt hr.ok hgt)
      have hne : ((((trimL L).length : Nat) : Int) != ((trimL M).length : Nat)) = true := by simp; omega
      generalize (trimL L).length = n at *
      generalize (trimL M).length = m at *
      clear hs2 hr2
      go_enter Tryd.func62, Tryd.ntmps62
      go_wp2_with fail
      refine hT.out.mono ?_; rintro e w' ⟨rfl, rfl⟩
      go_wp2_with fail
      refine hU.out.mono ?_; rintro e w' ⟨rfl, rfl⟩
      go_wp2
      go_ret
      exact ⟨ret_int (by rw [HV.out]), Ext.refl _⟩
    · have hl : (trimL L).length = (trimL M).length := by omega
      have HL := Lib.hid hl
      rw [← hl] at hU hm2
      have e1 := val_trimL L
      have e2 := val_trimL M
      generalize trimL L = P at *
      generalize trimL M = Q at *
      have E1 := Lib.hid e1
      have E2 := Lib.hid e2
      clear e1 e2 hl hgt hlt
      obtain ⟨n, hn⟩ : ∃ n, n = P.length := ⟨_, rfl⟩
      rw [← hn] at hT hU hm2 hl2
      have HN := Lib.hid hn
      clear hn
      have hne : ((n : Int) != (n : Int)) = false := by simp
      have okP := hs2.ok
      have okQ := hr2.ok
      go_enter Tryd.func62, Tryd.ntmps62
      go_wp2_with fail
      refine hT.out.mono ?_; rintro e w' ⟨rfl, rfl⟩
      go_wp2_with fail
      refine hU.out.mono ?_; rintro e w' ⟨rfl, rfl⟩
      go_wp2
      go_loopw [5] (fun i wr => ∃ k : Nat, k ≤ n ∧ i = .int .i64 ((k : Int) - 1) ∧ P.drop k = Q.drop k ∧ Ext w wr) (fun i _ => (intOf i + 1).toNat)
      case atStart => exact ⟨n, Nat.le_refl _, rfl, by rw [List.drop_eq_nil_of_le (by rw [← HN.out]; exact Nat.le_refl _), List.drop_eq_nil_of_le (by rw [← HL.out, ← HN.out]; exact Nat.le_refl _)], Ext.refl _⟩
      case round =>
        obtain ⟨k, hk, rfl, hd, hb⟩ := hrel
        have HD := Lib.hid hd; clear hd
        rcases k with _ | k
        · go_wp2
          go_ret
          have e : P = Q := by simpa using HD.out
          exact ⟨ret_int (by rw [← E1.out, ← E2.out, e]; unfold cmpN; simp), hb⟩
        · have hkP : k < P.length := by have := HN.out; omega
          have hkQ : k < Q.length := by have := HN.out; have := HL.out; omega
          have HP := Lib.hid (List.getElem?_eq_getElem hkP)
          have HQ := Lib.hid (List.getElem?_eq_getElem hkQ)
          obtain ⟨ab, ao, rfl, _, c1⟩ := (hs2.below hb).at_ hkP
          obtain ⟨bb, bo, rfl, _, c2⟩ := (hr2.below hb).at_ hkQ
          have hkn : (k : Int) < n := by omega
          have hk0 : (0 : Int) ≤ k := by omega
          have x0 : (0 : Int) ≤ P[k] := by omega
          have y0 : (0 : Int) ≤ Q[k] := by omega
          generalize P[k] = x at *
          generalize Q[k] = y at *
          clear hkP hkQ
          by_cases hxy : x < y
          · have hxy' : (x : Int) < y := by omega
            go_wp2
            go_quiet (fail)
            go_wp2
            go_ret
            have h := cmp_at_lt okP HL.out HP.out HQ.out HD.out hxy
            rw [E1.out, E2.out] at h
            exact ⟨ret_int (by unfold cmpN; rw [if_pos h]), below_drewN hb _⟩
          · have hxy' : ¬ (x : Int) < y := by omega
            by_cases hyx : y < x
            · have hyx' : (y : Int) < x := by omega
              go_wp2
              go_quiet (fail)
              go_wp2
              go_quiet (fail)
              go_wp2
              go_ret
              have h := cmp_at_lt okQ HL.out.symm HQ.out HP.out HD.out.symm hyx
              rw [E1.out, E2.out] at h
              exact ⟨ret_int (by unfold cmpN; rw [if_neg (by omega), if_pos h]), below_drewN (below_drewN hb _) _⟩
            · have hyx' : ¬ (y : Int) < x := by omega
              have HX := Lib.hid (show x = y by omega)
              go_wp2
              go_quiet (fail)
              go_wp2
              go_quiet (fail)
              go_wp2
              go_roundw
              case rel => exact ⟨k, by omega, by go_num, drop_same HP.out (by rw [HX.out]; exact HQ.out) HD.out, by repeat (first | exact hb | refine below_drewN ?_ _)⟩
              case measure => simp [intOf]; try omega

set_option maxHeartbeats 1000000 in
theorem refCompare_any (A B : Option Addr) (c d : Nat) (P Q : List Nat) (w : World) (hs2 : Sl w A c P) (hr2 : Sl w B d Q) (tP : Trim P) (tQ : Trim Q) (h1 : P.length ≤ 100000000) (_h2 : Q.length ≤ 100000000) :
    Calls Tryd.prog 37 #[.slice A P.length c, .slice B Q.length d] w fun e w' => e = .returned (.int .i64 (cmpN (val P) (val Q))) ∧ Ext w w' := by
  have tP' : trimL P = P := tP
  have tQ' : trimL Q = Q := tQ
  by_cases hlt : P.length < Q.length
  · have HV := Lib.hid (cmp_len_lt (M := Q) hs2.ok (by rw [tP', tQ']; exact hlt))
    have hne : (((P.length : Nat) : Int) != (Q.length : Nat)) = true := by simp; omega
    generalize P.length = n at *
    generalize Q.length = m at *
    clear hs2 hr2 tP' tQ' tP tQ
    go_enter Tryd.func37, Tryd.ntmps37
    go_wp2
    go_ret
    exact ⟨ret_int (by rw [HV.out]), Ext.refl _⟩
  · by_cases hgt : Q.length < P.length
    · have HV := Lib.hid (cmp_len_gt (L := P) hr2.ok (by rw [tP', tQ']; exact hgt))
      have hne : (((P.length : Nat) : Int) != (Q.length : Nat)) = true := by simp; omega
      generalize P.length = n at *
      generalize Q.length = m at *
      clear hs2 hr2 tP' tQ' tP tQ
      go_enter Tryd.func37, Tryd.ntmps37
      go_wp2
      go_ret
      exact ⟨ret_int (by rw [HV.out]), Ext.refl _⟩
    · have hl : P.length = Q.length := by omega
      have HL := Lib.hid hl
      rw [← hl]
      clear hl hgt hlt tP' tQ' tP tQ _h2
      obtain ⟨n, hn⟩ : ∃ n, n = P.length := ⟨_, rfl⟩
      rw [← hn] at h1 ⊢
      have HN := Lib.hid hn
      clear hn
      have hne : ((n : Int) != (n : Int)) = false := by simp
      have okP := hs2.ok
      have okQ := hr2.ok
      go_enter Tryd.func37, Tryd.ntmps37
      go_wp2
      go_loopw [5] (fun i wr => ∃ k : Nat, k ≤ n ∧ i = .int .i64 ((k : Int) - 1) ∧ P.drop k = Q.drop k ∧ Ext w wr) (fun i _ => (intOf i + 1).toNat)
      case atStart => exact ⟨n, Nat.le_refl _, rfl, by rw [List.drop_eq_nil_of_le (by rw [← HN.out]; exact Nat.le_refl _), List.drop_eq_nil_of_le (by rw [← HL.out, ← HN.out]; exact Nat.le_refl _)], Ext.refl _⟩
      case round =>
        obtain ⟨k, hk, rfl, hd, hb⟩ := hrel
        have HD := Lib.hid hd; clear hd
        rcases k with _ | k
        · go_wp2
          go_ret
          have e : P = Q := by simpa using HD.out
          exact ⟨ret_int (by rw [e]; unfold cmpN; simp), hb⟩
        · have hkP : k < P.length := by have := HN.out; omega
          have hkQ : k < Q.length := by have := HN.out; have := HL.out; omega
          have HP := Lib.hid (List.getElem?_eq_getElem hkP)
          have HQ := Lib.hid (List.getElem?_eq_getElem hkQ)
          obtain ⟨ab, ao, rfl, _, c1⟩ := (hs2.below hb).at_ hkP
          obtain ⟨bb, bo, rfl, _, c2⟩ := (hr2.below hb).at_ hkQ
          have hkn : (k : Int) < n := by omega
          have hk0 : (0 : Int) ≤ k := by omega
          have x0 : (0 : Int) ≤ P[k] := by omega
          have y0 : (0 : Int) ≤ Q[k] := by omega
          generalize P[k] = x at *
          generalize Q[k] = y at *
          clear hkP hkQ
          by_cases hxy : x < y
          · have hxy' : (x : Int) < y := by omega
            go_wp2
            go_quiet (fail)
            go_wp2
            go_ret
            have h := cmp_at_lt okP HL.out HP.out HQ.out HD.out hxy
            exact ⟨ret_int (by unfold cmpN; rw [if_pos h]), below_drewN hb _⟩
          · have hxy' : ¬ (x : Int) < y := by omega
            by_cases hyx : y < x
            · have hyx' : (y : Int) < x := by omega
              go_wp2
              go_quiet (fail)
              go_wp2
              go_quiet (fail)
              go_wp2
              go_ret
              have h := cmp_at_lt okQ HL.out.symm HQ.out HP.out HD.out.symm hyx
              exact ⟨ret_int (by unfold cmpN; rw [if_neg (by omega), if_pos h]), below_drewN (below_drewN hb _) _⟩
            · have hyx' : ¬ (y : Int) < x := by omega
              have HX := Lib.hid (show x = y by omega)
              go_wp2
              go_quiet (fail)
              go_wp2
              go_quiet (fail)
              go_wp2
              go_roundw
              case rel => exact ⟨k, by omega, by go_num, drop_same HP.out (by rw [HX.out]; exact HQ.out) HD.out, by repeat (first | exact hb | refine below_drewN ?_ _)⟩
              case measure => simp [intOf]; try omega
end Go.Proofs.YtofdlkgpgcnjhaaDoor
