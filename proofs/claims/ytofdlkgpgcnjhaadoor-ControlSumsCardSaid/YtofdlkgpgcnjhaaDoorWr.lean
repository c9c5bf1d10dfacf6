/- Walks: sums of the reference. -/
import Derived.Test.YtofdlkgpgcnjhaaDoorWq
import Derived.Test.YtofdlkgpgcnjhaaDoorNum
namespace Go.Proofs.YtofdlkgpgcnjhaaDoor
open Go.RowKit Fp

theorem refLeft_int (A : Option Addr) (c : Nat) (M : List Nat) (n : Int) (w : World) (hs2 : Sl w A c M) (hlen : M.length ≤ 1000) (h0 : 0 ≤ n) (hn : n ≤ 65536) :
    Calls Tryd.prog 64 #[.slice A M.length c, .int .i64 n] w (RetL w (limbs (val M * 2 ^ n.toNat))) := by
  obtain ⟨k, rfl⟩ := Int.eq_ofNat_of_zero_le h0
  exact refLeft_any A c M k w hs2 hlen (by omega)

theorem set3_far {w : World} {g g' i : Nat} {v a b c : Value} (h : w.cell? ⟨g, i, none⟩ = some v) (hne : g' ≠ g) :
    (((w.setCell ⟨g', 0, none⟩ a).setCell ⟨g', 1, none⟩ b).setCell ⟨g', 2, none⟩ c).cell? ⟨g, i, none⟩ = some v := by
  rw [World.cell?_setCell_other _ _ _ _ (by simp <;> omega), World.cell?_setCell_other _ _ _ _ (by simp <;> omega), World.cell?_setCell_other _ _ _ _ (by simp <;> omega)]
  exact h

set_option maxHeartbeats 8000000 in
theorem refSum_any (s : Bool) (A : Option Addr) (c : Nat) (L : List Nat) (e : Int) (t : Bool) (B : Option Addr) (d : Nat) (M : List Nat) (f : Int) (w : World)
    (hs : Sl w A c L) (hr : Sl w B d M) (tL : Trim L) (tM : Trim M) (h1 : L.length ≤ 256) (h2 : M.length ≤ 256) (e1 : -17000 ≤ e) (e2 : e ≤ 17000) (f1 : -17000 ≤ f) (f2 : f ≤ 17000) :
    Calls Tryd.prog 41 #[.agg #[.bool s, .slice A L.length c, .int .i64 e], .agg #[.bool t, .slice B M.length d, .int .i64 f]] w (RetD w (sumD ⟨s, val L, e⟩ ⟨t, val M, f⟩)) := by
  have HL := Lib.hid (tL.eq_limbs hs.ok)
  have HM := Lib.hid (tM.eq_limbs hr.ok)
  have hE : Ext w (((w.alloc (.cells #[.bool s, .slice A L.length c, .int .i64 e] 24)).alloc (.cells #[.bool t, .slice B M.length d, .int .i64 f] 24)).alloc (.cells #[.bool false, .slice none 0 0, .int .i64 0] 24)) := ((Ext.alloc _ _).trans (Ext.alloc _ _)).trans (Ext.alloc _ _)
  have hE' : ∀ o, Ext w (((w.alloc (.cells #[.bool s, .slice A L.length c, .int .i64 e] 24)).alloc (.cells #[.bool t, .slice B M.length d, .int .i64 f] 24)).alloc o) := fun o => ((Ext.alloc _ _).trans (Ext.alloc _ _)).trans (Ext.alloc _ _)
  by_cases hL0 : L = []
  · subst hL0
    have hd := Lib.hid (show sumD ⟨s, val [], e⟩ ⟨t, val M, f⟩ = ⟨t, val M, f⟩ by unfold sumD; rw [if_pos (by rfl)])
    rw [hd.out]
    have hs2 := hr.below (hE' (.cells #[.bool t, .slice B M.length d, .int .i64 f] 24))
    go_enter Tryd.func41, Tryd.ntmps41
    go_wp2
    exact dy_ret (d := ⟨t, val M, f⟩) rfl rfl rfl (Box3.newAt (by simp) _ _ _ _ _) (by show _ = (limbs (val M)).length; rw [← HM.out]) (by show Sl _ _ _ (limbs (val M)); rw [← HM.out]; exact hs2) (hE' _)
  · have hLp : 0 < L.length := List.length_pos_iff.2 hL0
    have hLv : val L ≠ 0 := by have := tL.val_pos hL0; omega
    have hn0 : (((L.length : Nat) : Int) == 0) = false := beq_eq_false_iff_ne.2 (by omega)
    by_cases hM0 : M = []
    · subst hM0
      have hd := Lib.hid (show sumD ⟨s, val L, e⟩ ⟨t, val [], f⟩ = ⟨s, val L, e⟩ by unfold sumD; rw [if_neg hLv, if_pos (by rfl)])
      rw [hd.out]
      have hs2 := hs.below (hE' (.cells #[.bool s, .slice A L.length c, .int .i64 e] 24))
      clear hLv hL0
      go_enter Tryd.func41, Tryd.ntmps41
      go_wp2
      exact dy_ret (d := ⟨s, val L, e⟩) rfl rfl rfl (Box3.newAt (by simp) _ _ _ _ _) (by show _ = (limbs (val L)).length; rw [← HL.out]) (by show Sl _ _ _ (limbs (val L)); rw [← HL.out]; exact hs2) (hE' _)
    · have hMp : 0 < M.length := List.length_pos_iff.2 hM0
      have hMv : val M ≠ 0 := by have := tM.val_pos hM0; omega
      have hm0 : (((M.length : Nat) : Int) == 0) = false := beq_eq_false_iff_ne.2 (by omega)
      clear hL0 hM0
      obtain ⟨k, hk⟩ : ∃ k, min e f = k := ⟨_, rfl⟩
      have hke : k ≤ e := by omega
      have hkf : k ≤ f := by omega
      have hk1 : -17000 ≤ k := by omega
      have hwe : IntKind.i64.wrap (e - k) = e - k := i64_in _ (by omega) (by omega)
      have hwf : IntKind.i64.wrap (f - k) = f - k := i64_in _ (by omega) (by omega)
      have bx1 := ((Box3.new w s A L.length c e).alloc (.cells #[.bool t, .slice B M.length d, .int .i64 f] 24)).alloc (.cells #[.bool false, .slice none 0 0, .int .i64 0] 24)
      have bx2 := (Box3.newAt (W := w.alloc (.cells #[.bool s, .slice A L.length c, .int .i64 e] 24)) (g := w.heap.size + 1) (by simp) t B M.length d f).alloc (.cells #[.bool false, .slice none 0 0, .int .i64 0] 24)
      have bx3 := Box3.newAt (W := (w.alloc (.cells #[.bool s, .slice A L.length c, .int .i64 e] 24)).alloc (.cells #[.bool t, .slice B M.length d, .int .i64 f] 24)) (g := w.heap.size + 1 + 1) (by simp) false none 0 0 0
      have hsW := hs.below hE
      have hrW := hr.below hE
      have HE := Lib.hid hE
      clear hE hE'
      have hXl := limbs_mul_pow_len hs.ok (e - k).toNat
      have hYl := limbs_mul_pow_len hr.ok (f - k).toNat
      have hn1 : (e - k).toNat / 32 ≤ 1100 := by omega
      have hn2 : (f - k).toNat / 32 ≤ 1100 := by omega
      have hPl := Lib.hid (limbs_add_len (k := 1400) (show (limbs (val L * 2 ^ (e - k).toNat)).length ≤ 1400 by omega) (show (limbs (val M * 2 ^ (f - k).toNat)).length ≤ 1400 by omega))
      have HXl := Lib.hid (show (limbs (val L * 2 ^ (e - k).toNat)).length ≤ 1400 by omega)
      have HYl := Lib.hid (show (limbs (val M * 2 ^ (f - k).toNat)).length ≤ 1400 by omega)
      clear hXl hYl hn1 hn2
      have K1 := Lib.hid (fun (h : s = t) => sumD_same (s := s) hLv hMv hk)
      have K2 := Lib.hid (fun (h : s ≠ t) => sumD_ge hLv hMv hk h)
      have K3 := Lib.hid (fun (h : s ≠ t) => sumD_lt hLv hMv hk h)
      go_enter Tryd.func41, Tryd.ntmps41
      go_wp2_with fail
      have bx1d := bx1.drew
      have bx2d := bx2.drew
      have bx3d := bx3.drew
      have hsWd := hsW.drew
      have hrWd := hrW.drew
      go_region_held3 (fun w' => w'.cell? ⟨w.heap.size, 1, none⟩ = some (.slice A L.length c) ∧ w'.cell? ⟨w.heap.size, 2, none⟩ = some (.int .i64 e) ∧ w'.cell? ⟨w.heap.size + 1, 1, none⟩ = some (.slice B M.length d) ∧ w'.cell? ⟨w.heap.size + 1, 2, none⟩ = some (.int .i64 f))
        (first
          | exact ⟨bx1d.c1, bx1d.c2, bx2d.c1, bx2d.c2⟩
          | exact ⟨(bx1d.ext hbx).c1, (bx1d.ext hbx).c2, (bx2d.ext hbx).c1, (bx2d.ext hbx).c2⟩
          | exact ⟨(bx1d.ext hby).c1, (bx1d.ext hby).c2, (bx2d.ext hby).c1, (bx2d.ext hby).c2⟩
          | exact ⟨(bx1d.ext (hbx.trans hby)).c1, (bx1d.ext (hbx.trans hby)).c2, (bx2d.ext (hbx.trans hby)).c1, (bx2d.ext (hbx.trans hby)).c2⟩
          | exact ⟨(bx1d.ext (hby.trans hbx)).c1, (bx1d.ext (hby.trans hbx)).c2, (bx2d.ext (hby.trans hbx)).c1, (bx2d.ext (hby.trans hbx)).c2⟩)
        (first
          | (go_at_call_of 64 (Value.slice A L.length c)
             refine (refLeft_int _ _ L _ _ ?_ (by omega) (by omega) (by omega)).mono ?_
             (first | exact hsWd | exact hsWd.below hby)
             rintro r wx ⟨Ax, cx, rfl, hsx, hbx⟩)
          | (go_at_call_of 64 (Value.slice B M.length d)
             refine (refLeft_int _ _ M _ _ ?_ (by omega) (by omega) (by omega)).mono ?_
             (first | exact hrWd | exact hrWd.below hbx)
             rintro r wy ⟨Ay, cy, rfl, hsy, hby⟩))
      all_goals
        first
          | (have hxy := hbx.trans hby; have hsx2 := hsx.below hby; have hsy2 := hsy)
          | (have hxy := hby.trans hbx; have hsx2 := hsx; have hsy2 := hsy.below hbx)
        have bx1e := bx1d.ext hxy
        have bx2e := bx2d.ext hxy
        have bx3e := bx3d.ext hxy
        have b10 := bx1e.c0
        have b20 := bx2e.c0
        clear hbx hby hsx hsy
        generalize val L * 2 ^ (e - k).toNat = x at *
        generalize val M * 2 ^ (f - k).toNat = y at *
        by_cases hst : s = t
        · have hD := K1.out hst
          subst hst
          have HD := Lib.hid hD
          clear hD K1 K2 K3
          have HP := Lib.hid (fun A B c d w (h : Sl w A c (limbs x)) (k : Sl w B d (limbs y)) => refPlus_any A B c d (limbs x) (limbs y) w h k (by have := HXl.out; omega) (by have := HYl.out; omega))
          rw [val_limbs, val_limbs] at HP
          have HO := Lib.hid (fun A c w (h : Sl w A c (limbs (x + y))) => refOf_any s A c (limbs (x + y)) k w h (by have := hPl.out; omega) (by omega) (by omega))
          rw [val_limbs] at HO
          generalize canon s (x + y) k = D at *
          cases s
          · go_wp2_with fail
            go_region_held3 (fun w' => w'.cell? ⟨w.heap.size, 0, none⟩ = some (.bool false))
              (first | exact bx1e.drew.c0 | exact (bx1e.drew.ext hbp).c0 | exact (bx1e.drew.ext (hbp.trans hbo)).c0 | exact set3_far (bx1e.drew.ext (hbp.trans hbo)).c0 (by omega))
              (first
                | (go_at_call 65
                   refine (HP.out _ _ _ _ _ hsx2.drew hsy2.drew).mono ?_
                   rintro r wp ⟨Ap, cp, rfl, hsp, hbp⟩)
                | (go_at_call 36
                   refine (HO.out _ _ _ hsp).mono ?_
                   rintro r wo ⟨Ao, co, rfl, hso, hbo⟩
                   have bz := bx3e.drew.ext (hbp.trans hbo)
                   have z0 := bz.c0
                   have z1 := bz.c1
                   have z2 := bz.c2
                   have y0 := bz.fr 0
                   have y1 := bz.fr 1
                   have y2 := bz.fr 2))
            go_wp2
            rw [HD.out]
            exact dy_ret rfl rfl rfl (bz.set _ _ _ _ _) rfl (bz.set_sl hso _ _ _ _ _) (Box3.set_ext (HE.out.trans ((Ext.drew _).trans (hxy.trans ((Ext.drew _).trans (hbp.trans hbo))))) (by omega) _ _ _ _ _)
          · go_wp2_with fail
            go_region_held3 (fun w' => w'.cell? ⟨w.heap.size, 0, none⟩ = some (.bool true))
              (first | exact bx1e.drew.c0 | exact (bx1e.drew.ext hbp).c0 | exact (bx1e.drew.ext (hbp.trans hbo)).c0 | exact set3_far (bx1e.drew.ext (hbp.trans hbo)).c0 (by omega))
              (first
                | (go_at_call 65
                   refine (HP.out _ _ _ _ _ hsx2.drew hsy2.drew).mono ?_
                   rintro r wp ⟨Ap, cp, rfl, hsp, hbp⟩)
                | (go_at_call 36
                   refine (HO.out _ _ _ hsp).mono ?_
                   rintro r wo ⟨Ao, co, rfl, hso, hbo⟩
                   have bz := bx3e.drew.ext (hbp.trans hbo)
                   have z0 := bz.c0
                   have z1 := bz.c1
                   have z2 := bz.c2
                   have y0 := bz.fr 0
                   have y1 := bz.fr 1
                   have y2 := bz.fr 2))
            go_wp2
            rw [HD.out]
            exact dy_ret rfl rfl rfl (bz.set _ _ _ _ _) rfl (bz.set_sl hso _ _ _ _ _) (Box3.set_ext (HE.out.trans ((Ext.drew _).trans (hxy.trans ((Ext.drew _).trans (hbp.trans hbo))))) (by omega) _ _ _ _ _)
        · have hD2 := K2.out hst
          have hD3 := K3.out hst
          have HD2 := Lib.hid hD2
          have HD3 := Lib.hid hD3
          clear hD2 hD3 K1 K2 K3
          have HC := Lib.hid (fun A B c d w (h : Sl w A c (limbs x)) (k : Sl w B d (limbs y)) => refCompare_any A B c d (limbs x) (limbs y) w h k (trim_limbs _) (trim_limbs _) (by have := HXl.out; omega) (by have := HYl.out; omega))
          rw [val_limbs, val_limbs] at HC
          have hb12 := bx1e.c0
          by_cases hxy' : y ≤ x
          · have HD := Lib.hid (HD2.out hxy')
            have hcm : (0 : Int) ≤ cmpN x y := by unfold cmpN; rw [if_neg (by omega)]; split <;> omega
            have HP := Lib.hid (fun A B c d w (h : Sl w A c (limbs x)) (k : Sl w B d (limbs y)) => refMinus_any A B c d (limbs x) (limbs y) w h k (by have := HXl.out; omega) (limbs_len_mono hxy') (by rw [val_limbs, val_limbs]; exact hxy'))
            rw [val_limbs, val_limbs] at HP
            have HO := Lib.hid (fun A c w (h : Sl w A c (limbs (x - y))) => refOf_any s A c (limbs (x - y)) k w h (by have := limbs_sub_len (b := y) HXl.out; omega) (by omega) (by omega))
            rw [val_limbs] at HO
            generalize canon s (x - y) k = D at *
            generalize cmpN x y = cm at *
            clear HD2 HD3 hxy'
            cases s <;> cases t <;> (first | exact absurd rfl hst | skip)
            · clear hst
              go_wp2_with fail
              refine (HC.out _ _ _ _ _ hsx2 hsy2).mono ?_
              rintro r wc ⟨rfl, hbc⟩
              have bx1f := bx1e.ext hbc
              have bx2f := bx2e.ext hbc
              have bx3f := bx3e.ext hbc
              have hsx3 := hsx2.below hbc
              have hsy3 := hsy2.below hbc
              have hxz := hxy.trans hbc
              clear bx1e bx2e bx3e b10 b20 hb12
              have b10 := bx1f.c0
              have b20 := bx2f.c0
              go_wp2_with fail
              go_region_held3 (fun w' => w'.cell? ⟨w.heap.size, 0, none⟩ = some (.bool false))
                (first | exact bx1f.drew.c0 | exact (bx1f.drew.ext hbp).c0 | exact (bx1f.drew.ext (hbp.trans hbo)).c0 | exact set3_far (bx1f.drew.ext (hbp.trans hbo)).c0 (by omega))
                (first
                  | (go_at_call 66
                     refine (HP.out _ _ _ _ _ hsx3.drew hsy3.drew).mono ?_
                     rintro r wp ⟨Ap, cp, rfl, hsp, hbp⟩)
                  | (go_at_call 36
                     refine (HO.out _ _ _ hsp).mono ?_
                     rintro r wo ⟨Ao, co, rfl, hso, hbo⟩
                     have bz := bx3f.drew.ext (hbp.trans hbo)
                     have z0 := bz.c0
                     have z1 := bz.c1
                     have z2 := bz.c2
                     have y0 := bz.fr 0
                     have y1 := bz.fr 1
                     have y2 := bz.fr 2))
              go_wp2
              rw [HD.out]
              exact dy_ret rfl rfl rfl (bz.set _ _ _ _ _) rfl (bz.set_sl hso _ _ _ _ _) (Box3.set_ext (HE.out.trans ((Ext.drew _).trans (hxz.trans ((Ext.drew _).trans (hbp.trans hbo))))) (by omega) _ _ _ _ _)
            · clear hst
              go_wp2_with fail
              refine (HC.out _ _ _ _ _ hsx2 hsy2).mono ?_
              rintro r wc ⟨rfl, hbc⟩
              have bx1f := bx1e.ext hbc
              have bx2f := bx2e.ext hbc
              have bx3f := bx3e.ext hbc
              have hsx3 := hsx2.below hbc
              have hsy3 := hsy2.below hbc
              have hxz := hxy.trans hbc
              clear bx1e bx2e bx3e b10 b20 hb12
              have b10 := bx1f.c0
              have b20 := bx2f.c0
              go_wp2_with fail
              go_region_held3 (fun w' => w'.cell? ⟨w.heap.size, 0, none⟩ = some (.bool true))
                (first | exact bx1f.drew.c0 | exact (bx1f.drew.ext hbp).c0 | exact (bx1f.drew.ext (hbp.trans hbo)).c0 | exact set3_far (bx1f.drew.ext (hbp.trans hbo)).c0 (by omega))
                (first
                  | (go_at_call 66
                     refine (HP.out _ _ _ _ _ hsx3.drew hsy3.drew).mono ?_
                     rintro r wp ⟨Ap, cp, rfl, hsp, hbp⟩)
                  | (go_at_call 36
                     refine (HO.out _ _ _ hsp).mono ?_
                     rintro r wo ⟨Ao, co, rfl, hso, hbo⟩
                     have bz := bx3f.drew.ext (hbp.trans hbo)
                     have z0 := bz.c0
                     have z1 := bz.c1
                     have z2 := bz.c2
                     have y0 := bz.fr 0
                     have y1 := bz.fr 1
                     have y2 := bz.fr 2))
              go_wp2
              rw [HD.out]
              exact dy_ret rfl rfl rfl (bz.set _ _ _ _ _) rfl (bz.set_sl hso _ _ _ _ _) (Box3.set_ext (HE.out.trans ((Ext.drew _).trans (hxz.trans ((Ext.drew _).trans (hbp.trans hbo))))) (by omega) _ _ _ _ _)
          · have hlt : x < y := by omega
            have HD := Lib.hid (HD3.out hlt)
            have hcm : ¬ (0 : Int) ≤ cmpN x y := by unfold cmpN; rw [if_pos hlt]; omega
            have HP := Lib.hid (fun A B c d w (h : Sl w A c (limbs y)) (k : Sl w B d (limbs x)) => refMinus_any A B c d (limbs y) (limbs x) w h k (by have := HYl.out; omega) (limbs_len_mono (by omega)) (by rw [val_limbs, val_limbs]; omega))
            rw [val_limbs, val_limbs] at HP
            have HO := Lib.hid (fun A c w (h : Sl w A c (limbs (y - x))) => refOf_any t A c (limbs (y - x)) k w h (by have := limbs_sub_len (b := x) HYl.out; omega) (by omega) (by omega))
            rw [val_limbs] at HO
            generalize canon t (y - x) k = D at *
            generalize cmpN x y = cm at *
            clear HD2 HD3 hxy' hlt
            cases s <;> cases t <;> (first | exact absurd rfl hst | skip)
            · clear hst
              go_wp2_with fail
              refine (HC.out _ _ _ _ _ hsx2 hsy2).mono ?_
              rintro r wc ⟨rfl, hbc⟩
              have bx1f := bx1e.ext hbc
              have bx2f := bx2e.ext hbc
              have bx3f := bx3e.ext hbc
              have hsx3 := hsx2.below hbc
              have hsy3 := hsy2.below hbc
              have hxz := hxy.trans hbc
              clear bx1e bx2e bx3e b10 b20 hb12
              have b10 := bx1f.c0
              have b20 := bx2f.c0
              go_wp2_with fail
              go_region_held3 (fun w' => w'.cell? ⟨w.heap.size + 1, 0, none⟩ = some (.bool true))
                (first | exact bx2f.drew.c0 | exact (bx2f.drew.ext hbp).c0 | exact (bx2f.drew.ext (hbp.trans hbo)).c0 | exact set3_far (bx2f.drew.ext (hbp.trans hbo)).c0 (by omega))
                (first
                  | (go_at_call 66
                     refine (HP.out _ _ _ _ _ hsy3.drew hsx3.drew).mono ?_
                     rintro r wp ⟨Ap, cp, rfl, hsp, hbp⟩)
                  | (go_at_call 36
                     refine (HO.out _ _ _ hsp).mono ?_
                     rintro r wo ⟨Ao, co, rfl, hso, hbo⟩
                     have bz := bx3f.drew.ext (hbp.trans hbo)
                     have z0 := bz.c0
                     have z1 := bz.c1
                     have z2 := bz.c2
                     have y0 := bz.fr 0
                     have y1 := bz.fr 1
                     have y2 := bz.fr 2))
              go_wp2
              rw [HD.out]
              exact dy_ret rfl rfl rfl (bz.set _ _ _ _ _) rfl (bz.set_sl hso _ _ _ _ _) (Box3.set_ext (HE.out.trans ((Ext.drew _).trans (hxz.trans ((Ext.drew _).trans (hbp.trans hbo))))) (by omega) _ _ _ _ _)
            · clear hst
              go_wp2_with fail
              refine (HC.out _ _ _ _ _ hsx2 hsy2).mono ?_
              rintro r wc ⟨rfl, hbc⟩
              have bx1f := bx1e.ext hbc
              have bx2f := bx2e.ext hbc
              have bx3f := bx3e.ext hbc
              have hsx3 := hsx2.below hbc
              have hsy3 := hsy2.below hbc
              have hxz := hxy.trans hbc
              clear bx1e bx2e bx3e b10 b20 hb12
              have b10 := bx1f.c0
              have b20 := bx2f.c0
              go_wp2_with fail
              go_region_held3 (fun w' => w'.cell? ⟨w.heap.size + 1, 0, none⟩ = some (.bool false))
                (first | exact bx2f.drew.c0 | exact (bx2f.drew.ext hbp).c0 | exact (bx2f.drew.ext (hbp.trans hbo)).c0 | exact set3_far (bx2f.drew.ext (hbp.trans hbo)).c0 (by omega))
                (first
                  | (go_at_call 66
                     refine (HP.out _ _ _ _ _ hsy3.drew hsx3.drew).mono ?_
                     rintro r wp ⟨Ap, cp, rfl, hsp, hbp⟩)
                  | (go_at_call 36
                     refine (HO.out _ _ _ hsp).mono ?_
                     rintro r wo ⟨Ao, co, rfl, hso, hbo⟩
                     have bz := bx3f.drew.ext (hbp.trans hbo)
                     have z0 := bz.c0
                     have z1 := bz.c1
                     have z2 := bz.c2
                     have y0 := bz.fr 0
                     have y1 := bz.fr 1
                     have y2 := bz.fr 2))
              go_wp2
              rw [HD.out]
              exact dy_ret rfl rfl rfl (bz.set _ _ _ _ _) rfl (bz.set_sl hso _ _ _ _ _) (Box3.set_ext (HE.out.trans ((Ext.drew _).trans (hxz.trans ((Ext.drew _).trans (hbp.trans hbo))))) (by omega) _ _ _ _ _)
end Go.Proofs.YtofdlkgpgcnjhaaDoor
