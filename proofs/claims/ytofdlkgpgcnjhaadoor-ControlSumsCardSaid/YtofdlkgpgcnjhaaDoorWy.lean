/- Walks: valid configurations, the step's test. -/
import Derived.Test.YtofdlkgpgcnjhaaDoorWx
namespace Go.Proofs.YtofdlkgpgcnjhaaDoor
open Go.RowKit Fp

theorem sl_two {w : World} {A : Option Addr} {c : Nat} (h : Sl w A c (limbs 1)) : Sl w A c [1] := by rw [← limbs_one]; exact h

set_option maxHeartbeats 8000000 in
theorem cfgValid_step (me o p : Int) (s : Bool) (A : Option Addr) (c : Nat) (L : List Nat) (e t mo : Int) (w : World) (b : Bool) (hs : Sl w A c L) (he1 : -9223372036854775808 ≤ e) (he2 : e ≤ 9223372036854775807) (hn : CfgNum me o p t mo) (hb : b = true ↔ StepOk s L e) :
    Calls Tryd.prog 10 #[.agg #[.int .i64 me, .int .i64 o, .int .i64 p, .bool s, .slice A L.length c, .int .i64 e, .int .i64 t, .int .i64 mo]] w fun r w' => r = .returned (.bool b) ∧ Ext w w' := by
  obtain ⟨hm, ho, hp, ht, hmo⟩ := hn
  have hmm : me = 1 ∨ me = 2 ∨ me = 3 := by omega
  have d1 : decide (o < 1) = false := decide_eq_false (by omega)
  have d2 : decide (15 < o) = false := decide_eq_false (by omega)
  have d3 : decide (p < 8) = false := decide_eq_false (by omega)
  have d4 : decide (256 < p) = false := decide_eq_false (by omega)
  have d5 : decide (t < 0) = false := decide_eq_false (by omega)
  have d6 : decide (200 < t) = false := decide_eq_false (by omega)
  have d7 : decide (mo < 1) = false := decide_eq_false (by omega)
  have d8 : decide (1000 < mo) = false := decide_eq_false (by omega)
  clear hm ho hp ht hmo
  have hE := Ext.alloc w (.cells #[.int .i64 me, .int .i64 o, .int .i64 p, .bool s, .slice A L.length c, .int .i64 e, .int .i64 t, .int .i64 mo] 26)
  have bx := (Box8.new w me o p s A L.length c e t mo).drew
  have hsW := (hs.below hE).drew
  have HE := Lib.hid (hE.trans (Ext.drew _))
  clear hE
  by_cases hd : Dok s L e
  · have HV := Lib.hid (fun w (h : Sl w A c L) => dyValid_any s A c L e w true h he1 he2 (by simp [hd]))
    have HS := Lib.hid (fun w (h : Sl w A c L) => dySign_any s A c L e w h hd)
    by_cases hz : Dy.sign ⟨s, val L, e⟩ ≤ 0
    · have := b_false hb (fun h => by have := h.2.1; omega)
      subst this
      clear hb
      have hsc : Dy.sign ⟨s, val L, e⟩ = 0 ∨ Dy.sign ⟨s, val L, e⟩ = -1 := by
        rcases sign_cases ⟨s, val L, e⟩ with ⟨_, h⟩ | ⟨_, _, h⟩ | ⟨_, _, h⟩ <;> rw [h] at hz ⊢ <;> simp at hz ⊢
      generalize Dy.sign ⟨s, val L, e⟩ = sa at *
      clear hd hz
      rcases hsc with rfl | rfl
      all_goals rcases hmm with rfl | rfl | rfl
      all_goals
        go_enter Tryd.func10, Tryd.ntmps10
        go_wp2_with fail
        have b3 := bx.c3; have b4 := bx.c4; have b5 := bx.c5
        first
          | (go_region_with (first
              | (go_at_call 29
                 refine (HV.out _ hsW).mono ?_
                 rintro r wx ⟨rfl, hbx⟩
                 have q3 := (bx.ext hbx).c3; have q4 := (bx.ext hbx).c4; have q5 := (bx.ext hbx).c5)
              | (go_at_call 23
                 refine (HS.out _ (hsW.below hbx)).mono ?_
                 rintro r wy ⟨rfl, hby⟩)))
          | fail
        all_goals
          go_wp2
          go_ret
          exact ⟨rfl, HE.out.trans (hbx.trans hby)⟩
    · have hT := Lib.hid (fun A' c' w (h : Sl w A c L) (k : Sl w A' c' [1]) => dyCmp_any s A c L e false A' c' [1] 20 w h k hd (by rw [← limbs_one]; exact sl_num (d := ⟨false, 1, 20⟩) (limbs_one ▸ k) (two_valid (by decide) (by decide))))
      rw [val_one] at hT
      have H2 : Hid (∀ w, Calls Tryd.prog 30 #[.int .i64 20] w fun r w' => ∃ A c, r = .returned (.agg #[.bool false, .slice A 1 c, .int .i64 20]) ∧ Sl w' A c [1] ∧ Ext w w') := fun w => by
        refine (two_any 20 w).mono ?_
        rintro r w' ⟨A, c, rfl, hs, hb⟩
        exact ⟨A, c, by simp only [limbs_one]; rfl, sl_two hs, hb⟩
      have hbb := Lib.hid (show b = decide (cmpD ⟨s, val L, e⟩ ⟨false, 1, 20⟩ ≤ 0) by
        have : b = true ↔ cmpD ⟨s, val L, e⟩ ⟨false, 1, 20⟩ ≤ 0 := by rw [hb]; exact ⟨fun h => h.2.2, fun h => ⟨hd, by omega, h⟩⟩
        cases b <;> simp_all)
      have hsc : Dy.sign ⟨s, val L, e⟩ = 1 := by
        rcases sign_cases ⟨s, val L, e⟩ with ⟨_, h⟩ | ⟨_, _, h⟩ | ⟨_, _, h⟩ <;> rw [h] at hz ⊢ <;> simp at hz ⊢
      rw [hsc] at HS
      generalize cmpD ⟨s, val L, e⟩ ⟨false, 1, 20⟩ = cm at *
      clear hd hb hz hsc
      rcases hmm with rfl | rfl | rfl
      all_goals
        go_enter Tryd.func10, Tryd.ntmps10
        go_wp2_with fail
        go_region_held3 (fun w' => w'.cell? ⟨w.heap.size, 3, none⟩ = some (.bool s) ∧ w'.cell? ⟨w.heap.size, 4, none⟩ = some (.slice A L.length c) ∧ w'.cell? ⟨w.heap.size, 5, none⟩ = some (.int .i64 e))
              (first
                | exact ⟨bx.c3, bx.c4, bx.c5⟩
                | exact ⟨(bx.ext hbx).c3, (bx.ext hbx).c4, (bx.ext hbx).c5⟩
                | exact ⟨(bx.ext (hbx.trans hby)).c3, (bx.ext (hbx.trans hby)).c4, (bx.ext (hbx.trans hby)).c5⟩
                | exact ⟨(bx.ext ((hbx.trans hby).trans hbz)).c3, (bx.ext ((hbx.trans hby).trans hbz)).c4, (bx.ext ((hbx.trans hby).trans hbz)).c5⟩
                | exact ⟨(bx.ext (((hbx.trans hby).trans hbz).trans hbq)).c3, (bx.ext (((hbx.trans hby).trans hbz).trans hbq)).c4, (bx.ext (((hbx.trans hby).trans hbz).trans hbq)).c5⟩)
              (first
                | (go_at_call 29
                   refine (HV.out _ hsW).mono ?_
                   rintro r wx ⟨rfl, hbx⟩)
                | (go_at_call 23
                   refine (HS.out _ (hsW.below hbx)).mono ?_
                   rintro r wy ⟨rfl, hby⟩)
                | (go_at_call 30
                   refine (H2.out _).mono ?_
                   rintro r wz ⟨A2, c2, rfl, hs2, hbz⟩)
                | (go_at_call 18
                   refine (hT.out _ _ _ (hsW.below ((hbx.trans hby).trans hbz)) hs2).mono ?_
                   rintro r wq ⟨rfl, hbq⟩))
        go_wp2
        go_ret
        exact ⟨ret_bool hbb.out.symm, HE.out.trans (((hbx.trans hby).trans hbz).trans hbq)⟩
  · have HV := Lib.hid (fun w (h : Sl w A c L) => dyValid_any s A c L e w false h he1 he2 (by simp [hd]))
    have := b_false hb (fun h => hd h.1)
    subst this
    clear hb hd
    rcases hmm with rfl | rfl | rfl
    all_goals
      go_enter Tryd.func10, Tryd.ntmps10
      go_wp2_with fail
      have b3 := bx.c3; have b4 := bx.c4; have b5 := bx.c5
      first
        | (go_region_with (first
            | (go_at_call 29
               refine (HV.out _ hsW).mono ?_
               rintro r wx ⟨rfl, hbx⟩)))
        | fail
      all_goals
        go_wp2
        go_ret
        exact ⟨rfl, HE.out.trans hbx⟩

theorem cfgValid_any (me o p : Int) (s : Bool) (A : Option Addr) (c : Nat) (L : List Nat) (e t mo : Int) (w : World) (b : Bool) (hs : Sl w A c L) (he1 : -9223372036854775808 ≤ e) (he2 : e ≤ 9223372036854775807) (hb : b = true ↔ CfgOk me o p s L e t mo) :
    Calls Tryd.prog 10 #[.agg #[.int .i64 me, .int .i64 o, .int .i64 p, .bool s, .slice A L.length c, .int .i64 e, .int .i64 t, .int .i64 mo]] w fun r w' => r = .returned (.bool b) ∧ Ext w w' := by
  by_cases hn : CfgNum me o p t mo
  · exact cfgValid_step me o p s A c L e t mo w b hs he1 he2 hn (by
      rw [hb]; obtain ⟨h1, h2, h3, h4, h5⟩ := hn
      exact ⟨fun h => h.2.2.2.2.2, fun h => ⟨h1, h2, h3, h4, h5, h⟩⟩)
  · have := b_false hb (fun h => hn ⟨h.1, h.2.1, h.2.2.1, h.2.2.2.1, h.2.2.2.2.1⟩)
    subst this
    exact cfgValid_num me o p s A c L e t mo w hn
end Go.Proofs.YtofdlkgpgcnjhaaDoor
