/- Walks: the program's canonical form, and which numbers are valid. -/
import Derived.Test.YtofdlkgpgcnjhaaDoorWi
namespace Go.Proofs.YtofdlkgpgcnjhaaDoor
open Go.RowKit Fp

set_option maxHeartbeats 1000000 in
theorem dyCanon_any (s : Bool) (A : Option Addr) (c : Nat) (L : List Nat) (e : Int) (w : World) (hs : Sl w A c L) (_hlen : L.length ≤ 100000) (hl2 : (trimL L).length ≤ 256) (he1 : -1000000 ≤ e) (he2 : e ≤ 1000000) (hTb : Tb w) :
    Calls Tryd.prog 56 #[.bool s, .slice A L.length c, .int .i64 e] w (RetD w (canon s (val L) e)) := by
  have hT := Lib.hid (fun w (h : Sl w A c L) => dyTrimmed_any A c L w h)
  have hs2 := hs.trim
  have hv := val_trimL L
  have hok := hs.ok.trimL
  have htr := trim_trimL L
  generalize trimL L = M at *
  rw [← hv]
  clear hv
  by_cases h0 : val M = 0
  · have hc0 := Lib.hid (show canon s (val M) e = zeroD by unfold canon; rw [if_pos h0]; rfl)
    have hM0 : Hid (M.length = 0) := by
      show M.length = 0
      rw [htr.eq_limbs hok, h0, limbs_zero]; rfl
    obtain ⟨m, hm⟩ : ∃ m, m = M.length := ⟨_, rfl⟩
    rw [← hm] at hT hM0
    clear hm h0
    obtain rfl : m = 0 := hM0.out
    clear hM0
    go_enter Tryd.func56, Tryd.ntmps56
    go_wp2_with fail
    refine (hT.out _ (hs.alloc _)).mono ?_
    rintro e w' ⟨rfl, rfl⟩
    have bx := Box3.new w false none 0 0 0
    have b0 := bx.c0; have b1 := bx.c1; have b2 := bx.c2; have f0 := bx.fr 0; have f1 := bx.fr 1; have f2 := bx.fr 2
    go_wp2
    rw [hc0.out]
    have hz : limbs zeroD.m = [] := limbs_zero
    exact dy_ret rfl rfl rfl bx (by rw [hz]; rfl) (by rw [hz]; exact Sl.nil _) (Ext.alloc _ _)
  · have hc0 := Lib.hid (show canon s (val M) e = ⟨s, val M / 2 ^ ctzN (val M), e + ctzN (val M)⟩ by unfold canon; rw [if_neg h0])
    have hZ := Lib.hid (fun A c w (h : Sl w A c M) (ht : Tb w) => dyLow_any A c M w h (by omega) h0 ht)
    have hlim : ctzN (val M) ≤ 65536 := by have := ctz_lt hok h0; omega
    have hR := Lib.hid (fun A c w (h : Sl w A c M) => natShr_any A c M (ctzN (val M)) w h hl2 hlim)
    have hM0 : M.length ≠ 0 := by intro h; rw [List.eq_nil_of_length_eq_zero h] at h0; exact h0 rfl
    have hql : (limbs (val M / 2 ^ ctzN (val M))).length ≤ 256 := by
      refine limbs_length_le (Nat.lt_of_le_of_lt (Nat.div_le_self _ _) ?_)
      exact Nat.lt_of_lt_of_le (val_lt hok) (Nat.pow_le_pow_right (by decide) hl2)
    generalize val M / 2 ^ ctzN (val M) = q at *
    generalize ctzN (val M) = t at *
    have hK := Lib.hid (fun A c w (h : Sl w A c (limbs q)) => clone_any A c (limbs q) w h (by omega))
    have hP := Lib.hid (fun A c w (h : Sl w A c (limbs q)) => clip_any A c (limbs q) w h)
    obtain ⟨Q, hQ⟩ : ∃ Q, Q = limbs q := ⟨_, rfl⟩
    have HQ := Lib.hid hQ
    rw [← hQ] at hR hK hP hql
    clear hQ
    go_enter Tryd.func56, Tryd.ntmps56
    go_wp2_with fail
    refine (hT.out _ (hs.alloc _)).mono ?_
    rintro e' w1 ⟨rfl, rfl⟩
    go_wp2_with fail
    refine (hZ.out _ _ _ (hs2.alloc _) (hTb.alloc _)).mono ?_
    rintro e' w2 ⟨rfl, rfl⟩
    go_wp2_with fail
    refine (hR.out _ _ _ (hs2.alloc _)).mono ?_
    rintro e' w2 ⟨A2, c2, rfl, hs2', hb2⟩
    go_wp2_with fail
    refine (hK.out _ _ _ hs2').mono ?_
    rintro e' w3 ⟨A3, c3, rfl, hs3, hb3⟩
    go_wp2_with fail
    refine (hP.out _ _ _ hs3).mono ?_
    rintro e' w4 ⟨rfl, rfl⟩
    have hb := hb2.trans hb3
    have bx := (Box3.new w false none 0 0 0).ext hb
    have b0 := bx.c0; have b1 := bx.c1; have b2 := bx.c2; have f0 := bx.fr 0; have f1 := bx.fr 1; have f2 := bx.fr 2
    go_wp2
    rw [hc0.out]
    rw [HQ.out] at hs3 ⊢
    exact dy_ret rfl rfl rfl (bx.set _ _ _ _ _) rfl (bx.set_sl hs3.clip _ _ _ _ _) (Box3.set_ext ((Ext.alloc _ _).trans hb) (Nat.le_refl _) _ _ _ _ _)
end Go.Proofs.YtofdlkgpgcnjhaaDoor
