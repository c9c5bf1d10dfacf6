/- Walks: canonical forms. -/
import Derived.Test.YtofdlkgpgcnjhaaDoorWh
namespace Go.Proofs.YtofdlkgpgcnjhaaDoor
open Go.RowKit Fp

set_option maxHeartbeats 1000000 in
theorem refOf_any (s : Bool) (A : Option Addr) (c : Nat) (L : List Nat) (e : Int) (w : World) (hs : Sl w A c L) (hlen : L.length ≤ 3000) (he1 : -1000000 ≤ e) (he2 : e ≤ 1000000) :
    Calls Tryd.prog 36 #[.bool s, .slice A L.length c, .int .i64 e] w (RetD w (canon s (val L) e)) := by
  by_cases h0 : val L = 0
  · have hc0 := Lib.hid (show canon s (val L) e = zeroD by unfold canon; rw [if_pos h0]; rfl)
    have ht0 : trimL L = [] := by rw [trimL_eq_limbs hs.ok, h0, limbs_zero]
    have hT := Lib.hid (fun w (h : Sl w A c L) => refTrim_any A c L w h (by omega))
    rw [ht0] at hT
    clear ht0 h0
    go_enter Tryd.func36, Tryd.ntmps36
    go_wp2_with fail
    refine (hT.out _ (hs.alloc _)).mono ?_
    rintro e w' ⟨A', c', rfl, hs', hb⟩
    have bx := (Box3.new w false none 0 0 0).ext hb
    have b0 := bx.c0; have b1 := bx.c1; have b2 := bx.c2; have f0 := bx.fr 0; have f1 := bx.fr 1; have f2 := bx.fr 2
    go_wp2
    rw [hc0.out]
    have hz : limbs zeroD.m = [] := limbs_zero
    exact dy_ret rfl rfl rfl (bx.set _ _ _ _ _) (by rw [hz]; rfl) (by rw [hz]; exact bx.set_sl (Sl.nil _) _ _ _ _ _) (Box3.set_ext ((Ext.alloc _ _).trans hb) (Nat.le_refl _) _ _ _ _ _)
  · have hc0 := Lib.hid (show canon s (val L) e = ⟨s, val L / 2 ^ ctzN (val L), e + ctzN (val L)⟩ by unfold canon; rw [if_neg h0])
    have hT := Lib.hid (fun w (h : Sl w A c L) => refTrim_any A c L w h (by omega))
    have ht1 := tlen_le L
    unfold tlen at ht1
    have hv := val_trimL L
    have hok := hs.ok.trimL
    generalize trimL L = M at *
    rw [← hv] at h0 hc0 ⊢
    clear hv
    have hZ := Lib.hid (fun A c w (h : Sl w A c M) => refZeros_any A c M w h (by omega) h0)
    have hlim : ctzN (val M) ≤ 100000 := by have := ctz_lt hok h0; omega
    have hR := Lib.hid (fun A c w (h : Sl w A c M) => refRight_any A c M (ctzN (val M)) w h (by omega) hlim)
    have hM0 : M.length ≠ 0 := by intro h; rw [List.eq_nil_of_length_eq_zero h] at h0; exact h0 rfl
    generalize val M / 2 ^ ctzN (val M) = q at *
    generalize ctzN (val M) = t at *
    obtain ⟨m, hm⟩ : ∃ m, m = M.length := ⟨_, rfl⟩
    go_enter Tryd.func36, Tryd.ntmps36
    go_wp2_with fail
    refine (hT.out _ (hs.alloc _)).mono ?_
    rintro e' w1 ⟨A1, c1, rfl, hs1, hb1⟩
    go_wp2_with fail
    refine (hZ.out _ _ _ hs1).mono ?_
    rintro e' w2 ⟨rfl, rfl⟩
    go_wp2_with fail
    refine (hR.out _ _ _ hs1).mono ?_
    rintro e' w2 ⟨A2, c2, rfl, hs2, hb2⟩
    have hb := hb1.trans hb2
    have bx := (Box3.new w false none 0 0 0).ext hb
    have b0 := bx.c0; have b1 := bx.c1; have b2 := bx.c2; have f0 := bx.fr 0; have f1 := bx.fr 1; have f2 := bx.fr 2
    go_wp2
    rw [hc0.out]
    exact dy_ret rfl rfl rfl (bx.set _ _ _ _ _) rfl (bx.set_sl hs2 _ _ _ _ _) (Box3.set_ext ((Ext.alloc _ _).trans hb) (Nat.le_refl _) _ _ _ _ _)

/-! ### the program's canonical form -/
set_option maxHeartbeats 1000000 in
theorem dyLow_any (A : Option Addr) (c : Nat) (L : List Nat) (w : World) (hs : Sl w A c L) (h1 : L.length ≤ 3000) (h0 : val L ≠ 0) (hT : Tb w) :
    Calls Tryd.prog 76 #[.slice A L.length c] w fun e w' => e = .returned (.int .i64 (ctzN (val L))) ∧ w = w' := by
  have hok := hs.ok
  have HV := Lib.hid (fun i hi h hx => ctzN_val hok i hi h hx)
  have H0 := Lib.hid h0
  clear h0
  go_enter Tryd.func76, Tryd.ntmps76
  go_wp2
  go_loop [3, 8] (fun n i => ∃ k : Nat, k ≤ L.length ∧ i = .int .i64 k ∧ n = .int .i64 ((32 * k : Nat) : Int) ∧ ∀ j, (hj : j < k) → L[j]? = some 0) (fun _ i => L.length - (intOf i).toNat)
  case atStart => exact ⟨0, Nat.zero_le _, rfl, rfl, fun j hj => by omega⟩
  case round =>
    obtain ⟨k, hk, rfl, rfl, hz⟩ := hrel
    have HZ := Lib.hid hz; clear hz
    by_cases hlt : k < L.length
    · obtain ⟨ab, ao, rfl, _, c1⟩ := hs.at_ hlt
      have hx32 : L[k] < 4294967296 := hok.get hlt
      have HG := Lib.hid (List.getElem?_eq_getElem hlt)
      have HC := Lib.hid (fun hx => HV.out k hlt (fun j hj => by have := HZ.out j hj; rw [List.getElem?_eq_getElem (by omega)] at this; simpa using this) hx)
      clear HV
      generalize L[k] = x at *
      by_cases hx : x = 0
      · have HX := Lib.hid hx; clear hx
        have hb : ((x : Int) != 0) = false := by have := HX.out; simp; omega
        go_wp2
        go_round
        case rel => exact ⟨k + 1, by omega, by go_num, by go_num, fun j hj => by
          by_cases e : j = k
          · subst e; rw [HG.out, HX.out]
          · exact HZ.out j (by omega)⟩
        case measure => simp [intOf]; omega
      · have hb : ((x : Int) != 0) = true := by simp; omega
        have HX := Lib.hid (HC.out hx)
        have hc32 : ctzN x ≤ 32 := by
          have h1 := pow_ctz_le hx
          rcases Nat.lt_or_ge 32 (ctzN x) with h | h
          · have := Nat.pow_lt_pow_right (a := 2) (by decide) h
            have e : (2 : Nat) ^ 32 = 4294967296 := by decide
            omega
          · exact h
        go_wp2_with (go_at_call 82; refine (tz32_any x hx hx32 _ hT).mono ?_; rintro e w' ⟨rfl, rfl⟩)
        go_ret
        exact ⟨ret_int (by rw [HX.out]; simp), rfl⟩
    · exfalso
      have : val L = 0 := by
        rw [val_eq_zero_iff]
        intro y hy
        obtain ⟨j, hj, rfl⟩ := List.getElem_of_mem hy
        have := HZ.out j (by omega)
        rw [List.getElem?_eq_getElem hj] at this
        simpa using this
      exact H0.out this
end Go.Proofs.YtofdlkgpgcnjhaaDoor
