/- Walks: valid configurations, as the reference says: case not t ≤ 200. -/
import Derived.Test.YtofdlkgpgcnjhaaDoorWx
namespace Go.Proofs.YtofdlkgpgcnjhaaDoor
open Go.RowKit Fp

set_option maxHeartbeats 16000000 in
theorem refCfg_at2 (me o p : Int) (s : Bool) (A : Option Addr) (c : Nat) (L : List Nat) (e t mo : Int) (w : World) (hs : Sl w A c L) (he1 : -9223372036854775808 ≤ e) (he2 : e ≤ 9223372036854775807) (hn1 : (1 ≤ me ∧ me ≤ 3) ∧ (1 ≤ o ∧ o ≤ 15) ∧ (8 ≤ p ∧ p ≤ 256)) (hd : Dok s L e) (hz : 0 < Dy.sign ⟨s, val L, e⟩) (hc : cmpD ⟨s, val L, e⟩ ⟨false, 1, 20⟩ ≤ 0) (j1 : 0 ≤ t) (j2 : ¬ t ≤ 200) :
    Calls Tryd.prog 9 #[.agg #[.int .i64 me, .int .i64 o, .int .i64 p, .bool s, .slice A L.length c, .int .i64 e, .int .i64 t, .int .i64 mo]] w fun r w' => r = .returned (.bool false) ∧ Ext w w' := by
  obtain ⟨⟨i1, i2⟩, ⟨i3, i4⟩, i5, i6⟩ := hn1
  have d1 : decide (1 ≤ me) = true := decide_eq_true i1
  have d2 : decide (me ≤ 3) = true := decide_eq_true i2
  have d3 : decide (1 ≤ o) = true := decide_eq_true i3
  have d4 : decide (o ≤ 15) = true := decide_eq_true i4
  have d5 : decide (8 ≤ p) = true := decide_eq_true i5
  have d6 : decide (p ≤ 256) = true := decide_eq_true i6
  clear i1 i2 i3 i4 i5 i6
  obtain ⟨e1, e2⟩ := hd.exp
  have hlen := hd.len
  have HP := Lib.hid (fun w (h : Sl w A c L) => positive_any s A c L e w true h he1 he2 (by simp [hd, hz]))
  have HT := Lib.hid (fun A' c' w (h : Sl w A c L) (k : Sl w A' c' [1]) => refCmp_any s A c L e false A' c' [1] 20 w h k hd.1 (by rw [← limbs_one]; exact trim_limbs 1) hlen (by decide) (by omega) (by omega) (by decide) (by decide))
  rw [val_one] at HT
  have H2 : Hid (∀ w, Calls Tryd.prog 28 #[.int .i64 20] w fun r w' => ∃ A c, r = .returned (.agg #[.bool false, .slice A 1 c, .int .i64 20]) ∧ Sl w' A c [1] ∧ Ext w w') := fun w => by
    refine (power_any 20 w (by decide) (by decide)).mono ?_
    rintro r w' ⟨A, c, rfl, hs, hb⟩
    exact ⟨A, c, by simp only [limbs_one]; rfl, by rw [← limbs_one]; exact hs, hb⟩
  generalize cmpD ⟨s, val L, e⟩ ⟨false, 1, 20⟩ = cm at *
  have dc : decide (cm ≤ 0) = true := decide_eq_true hc
  clear hz hd hc
  have f1 : decide (0 ≤ t) = true := decide_eq_true j1
  have f2 : decide (t ≤ 200) = false := decide_eq_false j2
  clear j1 j2
  have hE := Ext.alloc w (.cells #[.int .i64 me, .int .i64 o, .int .i64 p, .bool s, .slice A L.length c, .int .i64 e, .int .i64 t, .int .i64 mo] 26)
  have bx := (Box8.new w me o p s A L.length c e t mo).drew
  have hsW := (hs.below hE).drew
  have HE := Lib.hid (hE.trans (Ext.drew _))
  clear hE
  have b0 := bx.c0; have b1 := bx.c1; have b2 := bx.c2; have b3 := bx.c3; have b4 := bx.c4; have b5 := bx.c5; have b6 := bx.c6; have b7 := bx.c7
  go_enter Tryd.func9, Tryd.ntmps9
  go_wp2_with fail
  first
    | (go_region_with (first
        | (go_at_call 27
           refine (HP.out _ hsW).mono ?_
           rintro r wx ⟨rfl, hbx⟩
           have q3 := (bx.ext hbx).c3; have q4 := (bx.ext hbx).c4; have q5 := (bx.ext hbx).c5)
        | (go_at_call 28
           refine (H2.out _).mono ?_
           rintro r wz ⟨A2, c2, rfl, hs2, hbz⟩
           have q3 := (bx.ext (hbx.trans hbz)).c3; have q4 := (bx.ext (hbx.trans hbz)).c4; have q5 := (bx.ext (hbx.trans hbz)).c5)
        | (go_at_call 19
           refine (HT.out _ _ _ (hsW.below (hbx.trans hbz)) hs2).mono ?_
           rintro r wq ⟨rfl, hbq⟩
           have q6 := (bx.ext ((hbx.trans hbz).trans hbq)).c6; have q7 := (bx.ext ((hbx.trans hbz).trans hbq)).c7)))
    | fail
  all_goals
    go_wp2
    go_ret
    exact ⟨rfl, HE.out.trans ((hbx.trans hbz).trans hbq)⟩
end Go.Proofs.YtofdlkgpgcnjhaaDoor
