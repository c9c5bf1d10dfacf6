/- Walks: the law's first example. -/
import Derived.Test.YtofdlkgpgcnjhaaDoorOa
import Derived.Test.YtofdlkgpgcnjhaaDoorNa
import Derived.Test.YtofdlkgpgcnjhaaDoorFa
namespace Go.Proofs.YtofdlkgpgcnjhaaDoor
open Go.RowKit Fp

theorem canon_odd {s : Bool} {m : Nat} {e : Int} (h : m % 2 = 1) : canon s m e = ⟨s, m, e⟩ := by
  unfold canon; rw [if_neg (by omega), ctzN_odd h]; simp
theorem canon_six : canon false 6 0 = ⟨false, 3, 1⟩ := by
  have h : ctzN 6 = 1 := ctzN_mul (m := 3) (by decide) 1
  unfold canon; rw [if_neg (by decide), h]; rfl
theorem small_valid {m : Nat} {e : Int} (ho : m % 2 = 1) (hm : m < 256) (h1 : -100 ≤ e) (h2 : e ≤ 100) : Dy.Valid ⟨false, m, e⟩ := by
  have hb : bitsN m ≤ 8 := bitsN_le_iff.2 hm
  exact ⟨.inr ho, .inr ⟨by simp only; omega, by simp only; omega, by simp only; omega, by simp only; omega⟩⟩
theorem small_dok {m : Nat} {e : Int} (ho : m % 2 = 1) (hm : m < 256) (h1 : -100 ≤ e) (h2 : e ≤ 100) : Dok false (limbs m) e := (dok_limbs ⟨false, m, e⟩).2 (small_valid ho hm h1 h2)

set_option maxHeartbeats 4000000 in
theorem awake_any (w : World) (hTb : Tb w) : Calls Tryd.prog 6 #[] w fun r w' => r = .returned (.bool true) ∧ Ext w w' := by
  have N1 : Hid (∀ w, Calls Tryd.prog 26 #[.int .i64 1, .int .i64 0] w fun r w' => ∃ A c, r = .returned (.agg #[.bool false, .slice A (limbs 1).length c, .int .i64 (0)]) ∧ Sl w' A c (limbs 1) ∧ Ext w w') := fun w => by
    have := number_any 1 0 w (by decide) (by decide) (by decide); rw [canon_odd (by decide)] at this; exact this
  have N13 : Hid (∀ w, Calls Tryd.prog 26 #[.int .i64 13, .int .i64 (-1)] w fun r w' => ∃ A c, r = .returned (.agg #[.bool false, .slice A (limbs 13).length c, .int .i64 (-1)]) ∧ Sl w' A c (limbs 13) ∧ Ext w w') := fun w => by
    have := number_any 13 (-1) w (by decide) (by decide) (by decide); rw [canon_odd (by decide)] at this; exact this
  have N3 : Hid (∀ w, Calls Tryd.prog 26 #[.int .i64 3, .int .i64 (-1)] w fun r w' => ∃ A c, r = .returned (.agg #[.bool false, .slice A (limbs 3).length c, .int .i64 (-1)]) ∧ Sl w' A c (limbs 3) ∧ Ext w w') := fun w => by
    have := number_any 3 (-1) w (by decide) (by decide) (by decide); rw [canon_odd (by decide)] at this; exact this
  have N6 : Hid (∀ w, Calls Tryd.prog 26 #[.int .i64 6, .int .i64 0] w fun r w' => ∃ A c, r = .returned (.agg #[.bool false, .slice A (limbs 3).length c, .int .i64 (1)]) ∧ Sl w' A c (limbs 3) ∧ Ext w w') := fun w => by
    have := number_any 6 0 w (by decide) (by decide) (by decide); rw [canon_six] at this; exact this
  have N4 : Hid (∀ w, Calls Tryd.prog 26 #[.int .i64 3, .int .i64 (-2)] w fun r w' => ∃ A c, r = .returned (.agg #[.bool false, .slice A (limbs 3).length c, .int .i64 (-2)]) ∧ Sl w' A c (limbs 3) ∧ Ext w w') := fun w => by
    have := number_any 3 (-2) w (by decide) (by decide) (by decide); rw [canon_odd (by decide)] at this; exact this
  have hO : Hid (∀ A c w, Sl w A c (limbs 1) → Calls Tryd.prog 8 #[.agg #[.int .i64 1, .int .i64 15, .int .i64 53, .bool false, .slice A (limbs 1).length c, .int .i64 0, .int .i64 30, .int .i64 9]] w fun r w' => r = .returned (.tuple #[.int .i64 9, .int .i64 0]) ∧ Ext w w') := fun A c w h => by
    refine (cfgOrder_yes 1 15 53 false A c (limbs 1) 0 30 9 w h ⟨by omega, by omega, by omega, by omega, by omega, small_dok (by decide) (by decide) (by decide) (by decide), ?_, ?_⟩).mono ?_
    · rw [val_limbs]; decide
    · rw [val_limbs]; decide
    · rintro r w' ⟨rfl, hb⟩; exact ⟨rfl, hb⟩
  have hN : Hid (∀ A c w, Sl w A c (limbs 13) → Tb w → Calls Tryd.prog 12 #[.agg #[.bool false, .slice A (limbs 13).length c, .int .i64 (-1)]] w fun r w' => ∃ A c, r = .returned (.tuple #[.agg #[.bool false, .slice A (limbs 3).length c, .int .i64 1], .bool true]) ∧ Sl w' A c (limbs 3) ∧ Ext w w') := fun A c w h ht => by
    have := cfgNice_yes false A c (limbs 13) (-1) w h (small_dok (by decide) (by decide) (by decide) (by decide)) (by rw [val_limbs]; decide) ht
    rw [val_limbs] at this
    have hx : niceD 13 (-1) = ⟨false, 3, 1⟩ := by
      have h4 : bitsN 13 = 4 := bitsN_eq (k := 3) (by decide) (by decide)
      unfold niceD; rw [h4, if_neg (by decide)]; exact canon_six
    rw [hx] at this; exact this
  have hF : Hid (∀ A c B d w, Sl w A c (limbs 1) → Sl w B d (limbs 3) → Tb w → Calls Tryd.prog 24 #[.agg #[.bool false, .slice A (limbs 1).length c, .int .i64 0], .agg #[.bool false, .slice B (limbs 3).length d, .int .i64 (-1)]] w fun r w' => ∃ A c, r = .returned (.tuple #[.agg #[.bool false, .slice A (limbs 3).length c, .int .i64 (-2)], .int .i64 0]) ∧ Sl w' A c (limbs 3) ∧ Ext w w') := fun A c B d w h k ht => by
    have := fit_half false A c (limbs 1) 0 false B d (limbs 3) (-1) w h k (small_dok (by decide) (by decide) (by decide) (by decide)) (small_dok (by decide) (by decide) (by decide) (by decide))
      (by rw [val_limbs]; decide) (by rw [val_limbs]; decide) ht (by rw [val_limbs, val_limbs]; decide) (by rw [val_limbs, canon_odd (by decide)]; exact (small_valid (by decide) (by decide) (by decide) (by decide)).range)
      (by rw [val_limbs, val_limbs, canon_odd (by decide)]; decide) (by rw [val_limbs, canon_odd (by decide)]; exact (small_valid (by decide) (by decide) (by decide) (by decide)).range)
    rw [val_limbs, canon_odd (by decide)] at this; exact this
  have hQ : Hid (∀ (e : Int) A c B d w, Sl w A c (limbs 3) → Sl w B d (limbs 3) → Calls Tryd.prog 14 #[.agg #[.bool false, .slice A (limbs 3).length c, .int .i64 e], .agg #[.bool false, .slice B (limbs 3).length d, .int .i64 e]] w fun r w' => r = .returned (.bool true) ∧ Ext w w') := fun e A c B d w h k =>
    refEqual_any false A c (limbs 3) e false B d (limbs 3) e w true h k (trim_limbs _) (trim_limbs _) (Nat.le_trans (limbs_length_le (k := 1) (by decide)) (by decide)) (Nat.le_trans (limbs_length_le (k := 1) (by decide)) (by decide)) (by simp)
  generalize limbs 13 = L13 at N13 hN
  generalize limbs 1 = L1 at N1 hO hF
  generalize limbs 3 = L3 at N3 N6 N4 hN hF hQ
  go_enter Tryd.func6, Tryd.ntmps6
  go_wp2_with fail
  refine (N1.out _).mono ?_
  rintro r w1 ⟨A1, c1, rfl, hs1, hb1⟩
  go_wp2_with fail
  refine (hO.out _ _ _ hs1).mono ?_
  rintro r w2 ⟨rfl, hb2⟩
  have hE := hb1.trans hb2
  clear hb1 hb2 hs1
  go_wp2_with fail
  refine (N13.out _).mono ?_
  rintro r w3 ⟨A3, c3, rfl, hs3, hb3⟩
  have hE := hE.trans hb3
  clear hb3
  go_wp2_with fail
  refine (hN.out _ _ _ hs3 (hTb.below hE)).mono ?_
  rintro r w4 ⟨A4, c4, rfl, hs4, hb4⟩
  have hE := hE.trans hb4
  clear hb4 hs3
  have hs4 := hs4.alloc (.cells #[.bool false, .slice A4 L3.length c4, .int .i64 1] 24)
  have bx1 := Box3.new w4 false A4 L3.length c4 1
  have hE := hE.trans (Ext.alloc _ (.cells #[.bool false, .slice A4 L3.length c4, .int .i64 1] 24))
  go_wp2_with fail
  refine (N1.out _).mono ?_
  rintro r w5 ⟨A5, c5, rfl, hs5, hb5⟩
  have hs4 := hs4.below hb5
  have bx1 := bx1.ext hb5
  have hE := hE.trans hb5
  clear hb5
  go_wp2_with fail
  refine (N3.out _).mono ?_
  rintro r w6 ⟨A6, c6, rfl, hs6, hb6⟩
  have hs4 := hs4.below hb6
  have bx1 := bx1.ext hb6
  have hs5 := hs5.below hb6
  have hE := hE.trans hb6
  clear hb6
  go_wp2_with fail
  refine (hF.out _ _ _ _ _ hs5 hs6 (hTb.below hE)).mono ?_
  rintro r w7 ⟨A7, c7, rfl, hs7, hb7⟩
  have hs4 := ((hs4.below hb7).alloc (.cells #[.bool false, .slice A7 L3.length c7, .int .i64 (-2)] 24)).drew
  have bx1 := ((bx1.ext hb7).alloc (.cells #[.bool false, .slice A7 L3.length c7, .int .i64 (-2)] 24)).drew
  have bx2 := (Box3.new w7 false A7 L3.length c7 (-2)).drew
  have hs7 := (hs7.alloc (.cells #[.bool false, .slice A7 L3.length c7, .int .i64 (-2)] 24)).drew
  have HE := Lib.hid (((hE.trans hb7).trans (Ext.alloc _ (.cells #[.bool false, .slice A7 L3.length c7, .int .i64 (-2)] 24))).trans (Ext.drew _))
  clear hE hb7 hs5 hs6
  go_wp2_with fail
  go_region_held3 (fun w' => w'.cell? ⟨w4.heap.size, 0, none⟩ = some (.bool false) ∧ w'.cell? ⟨w4.heap.size, 1, none⟩ = some (.slice A4 L3.length c4) ∧ w'.cell? ⟨w4.heap.size, 2, none⟩ = some (.int .i64 1) ∧ w'.cell? ⟨w7.heap.size, 0, none⟩ = some (.bool false) ∧ w'.cell? ⟨w7.heap.size, 1, none⟩ = some (.slice A7 L3.length c7) ∧ w'.cell? ⟨w7.heap.size, 2, none⟩ = some (.int .i64 (-2)))
    (first
      | exact ⟨bx1.c0, bx1.c1, bx1.c2, bx2.c0, bx2.c1, bx2.c2⟩
      | exact ⟨(bx1.ext hk8).c0, (bx1.ext hk8).c1, (bx1.ext hk8).c2, (bx2.ext hk8).c0, (bx2.ext hk8).c1, (bx2.ext hk8).c2⟩
      | exact ⟨(bx1.ext (hk8.trans hk9)).c0, (bx1.ext (hk8.trans hk9)).c1, (bx1.ext (hk8.trans hk9)).c2, (bx2.ext (hk8.trans hk9)).c0, (bx2.ext (hk8.trans hk9)).c1, (bx2.ext (hk8.trans hk9)).c2⟩
      | exact ⟨(bx1.ext ((hk8.trans hk9).trans hkA)).c0, (bx1.ext ((hk8.trans hk9).trans hkA)).c1, (bx1.ext ((hk8.trans hk9).trans hkA)).c2, (bx2.ext ((hk8.trans hk9).trans hkA)).c0, (bx2.ext ((hk8.trans hk9).trans hkA)).c1, (bx2.ext ((hk8.trans hk9).trans hkA)).c2⟩
      | exact ⟨(bx1.ext (((hk8.trans hk9).trans hkA).trans hkB)).c0, (bx1.ext (((hk8.trans hk9).trans hkA).trans hkB)).c1, (bx1.ext (((hk8.trans hk9).trans hkA).trans hkB)).c2, (bx2.ext (((hk8.trans hk9).trans hkA).trans hkB)).c0, (bx2.ext (((hk8.trans hk9).trans hkA).trans hkB)).c1, (bx2.ext (((hk8.trans hk9).trans hkA).trans hkB)).c2⟩)
    (first
      | (go_at_call_of 26 (Value.int IntKind.i64 6)
         refine (N6.out _).mono ?_
         rintro r w8 ⟨A8, c8, rfl, hs8, hk8⟩)
      | (go_at_call_of 14 (Value.agg #[.bool false, .slice A4 L3.length c4, .int .i64 1])
         refine (hQ.out _ _ _ _ _ _ (hs4.below hk8) hs8).mono ?_
         rintro r w9 ⟨rfl, hk9⟩)
      | (go_at_call 26
         refine (N4.out _).mono ?_
         rintro r wA ⟨AA, cA, rfl, hsA, hkA⟩)
      | (go_at_call 14
         refine (hQ.out _ _ _ _ _ _ (hs7.below ((hk8.trans hk9).trans hkA)) hsA).mono ?_
         rintro r wB ⟨rfl, hkB⟩))
  go_wp2
  go_ret
  exact ⟨rfl, HE.out.trans (((hk8.trans hk9).trans hkA).trans hkB)⟩
end Go.Proofs.YtofdlkgpgcnjhaaDoor
