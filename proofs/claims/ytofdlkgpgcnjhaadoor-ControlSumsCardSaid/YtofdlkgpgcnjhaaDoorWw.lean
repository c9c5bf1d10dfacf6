/- Walks: valid configurations, as the program says. -/
import Derived.Test.YtofdlkgpgcnjhaaDoorWv
namespace Go.Proofs.YtofdlkgpgcnjhaaDoor
open Go.RowKit Fp

theorem canon_one (e : Int) : canon false (val [1]) e = ⟨false, 1, e⟩ := by
  rw [val_one]; unfold canon; rw [if_neg (by decide), ctzN_odd (by decide)]; simp
theorem two_valid {e : Int} (h1 : -16384 ≤ e) (h2 : e ≤ 16383) : Dy.Valid ⟨false, 1, e⟩ :=
  ⟨.inr rfl, .inr ⟨by simp only; decide, h1, by simp only; omega, by have : bitsN 1 = 1 := by decide
                                                                     simp only [this]; omega⟩⟩

set_option maxHeartbeats 4000000 in
theorem power_any (e : Int) (w : World) (h1 : -16384 ≤ e) (h2 : e ≤ 16383) :
    Calls Tryd.prog 28 #[.int .i64 e] w (RetD w ⟨false, 1, e⟩) := by
  have HM : Hid (∀ A c w, Sl w A c [1] → Calls Tryd.prog 48 #[.bool false, .slice A 1 c, .int .i64 e] w (RetDE w ⟨false, 1, e⟩ 0)) := fun A c w h => by
    have := refMake_any false A c [1] e w h (by decide) (by omega) (by omega) (by rw [canon_one]; exact (two_valid h1 h2).range)
    rw [canon_one] at this
    exact this
  obtain ⟨D, hD⟩ : ∃ D : Dy, D = ⟨false, 1, e⟩ := ⟨_, rfl⟩
  rw [← hD] at HM ⊢
  clear hD h1 h2
  go_enter Tryd.func28, Tryd.ntmps28
  go_wp2_with fail
  refine (HM.out _ _ _ (Sl.oneAt _ (w.heap.size + 1) (by simp) 1 1 rfl (by decide))).mono ?_
  rintro r w2 ⟨A2, c2, rfl, hs2, hb2⟩
  have hE := (Ext.alloc (w.alloc (.cells #[.bool false, .slice none 0 0, .int .i64 0] 24)) (.cells #[.int .u32 1] 50)).trans hb2
  have bz := ((Box3.new w false none 0 0 0).ext hE).alloc (.cells #[.bool D.neg, .slice A2 (limbs D.m).length c2, .int .i64 D.e] 24)
  have z0 := bz.c0; have z1 := bz.c1; have z2 := bz.c2; have f0 := bz.fr 0; have f1 := bz.fr 1; have f2 := bz.fr 2
  go_wp2
  exact dy_ret rfl rfl rfl (bz.set _ _ _ _ _) rfl (bz.set_sl (hs2.alloc _) _ _ _ _ _) (Box3.set_ext (((Ext.alloc _ _).trans hE).trans (Ext.alloc _ _)) (Nat.le_refl _) _ _ _ _ _)

set_option maxHeartbeats 1000000 in
theorem positive_any (s : Bool) (A : Option Addr) (c : Nat) (L : List Nat) (e : Int) (w : World) (b : Bool) (hs : Sl w A c L) (he1 : -9223372036854775808 ≤ e) (he2 : e ≤ 9223372036854775807) (hb : b = true ↔ (Dok s L e ∧ 0 < Dy.sign ⟨s, val L, e⟩)) :
    Calls Tryd.prog 27 #[.agg #[.bool s, .slice A L.length c, .int .i64 e]] w fun r w' => r = .returned (.bool b) ∧ Ext w w' := by
  by_cases hd : Dok s L e
  · have HV := Lib.hid (fun w (h : Sl w A c L) => refValid_any s A c L e w true h he1 he2 (by simp [hd]))
    have HS := Lib.hid (fun w (h : Sl w A c L) => refSign_any s A c L e w h hd.1)
    have hb2 := Lib.hid (show b = decide (0 < Dy.sign ⟨s, val L, e⟩) by cases b <;> simp_all)
    generalize Dy.sign ⟨s, val L, e⟩ = sa at *
    clear hb hd
    go_enter Tryd.func27, Tryd.ntmps27
    go_wp2_with fail
    refine (HV.out _ (hs.alloc _)).mono ?_
    rintro r w1 ⟨rfl, hb1⟩
    have bx := (Box3.new w s A L.length c e).ext hb1
    have b0 := bx.c0; have b1 := bx.c1; have b2 := bx.c2
    go_wp2_with fail
    refine (HS.out _ ((hs.alloc _).below hb1)).mono ?_
    rintro r w2 ⟨rfl, hb3⟩
    go_wp2
    go_ret
    exact ⟨ret_bool (by rw [hb2.out]), ((Ext.alloc _ _).trans hb1).trans hb3⟩
  · have HV := Lib.hid (fun w (h : Sl w A c L) => refValid_any s A c L e w false h he1 he2 (by simp [hd]))
    have := b_false hb (fun h => hd h.1)
    subst this
    clear hb hd
    go_enter Tryd.func27, Tryd.ntmps27
    go_wp2_with fail
    refine (HV.out _ (hs.alloc _)).mono ?_
    rintro r w1 ⟨rfl, hb1⟩
    go_wp2
    go_ret
    exact ⟨rfl, (Ext.alloc _ _).trans hb1⟩
end Go.Proofs.YtofdlkgpgcnjhaaDoor
