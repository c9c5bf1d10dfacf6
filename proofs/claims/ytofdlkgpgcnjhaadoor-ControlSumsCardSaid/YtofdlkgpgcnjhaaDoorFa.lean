/- Walks: a step fitted to what is left. -/
import Derived.Test.YtofdlkgpgcnjhaaDoorWv
namespace Go.Proofs.YtofdlkgpgcnjhaaDoor
open Go.RowKit Fp

set_option maxHeartbeats 4000000 in
theorem fit_rest (s : Bool) (A : Option Addr) (c : Nat) (L : List Nat) (e : Int) (t : Bool) (B : Option Addr) (d : Nat) (M : List Nat) (f : Int) (w : World)
    (hs : Sl w A c L) (hr : Sl w B d M) (da : Dok s L e) (db : Dok t M f) (pa : 0 < Dy.sign ⟨s, val L, e⟩) (pb : 0 < Dy.sign ⟨t, val M, f⟩)
    (hc : cmpD ⟨t, val M, f⟩ ⟨s, val L, e⟩ ≤ 0) :
    Calls Tryd.prog 24 #[.agg #[.bool s, .slice A L.length c, .int .i64 e], .agg #[.bool t, .slice B M.length d, .int .i64 f]] w (RetDE w ⟨false, val M, f⟩ 0) := by
  obtain ⟨he1, he2⟩ := da.exp
  obtain ⟨hf1, hf2⟩ := db.exp
  have hvL : val L ≠ 0 := by intro h; unfold Dy.sign at pa; simp [h] at pa
  have hvM : val M ≠ 0 := by intro h; unfold Dy.sign at pb; simp [h] at pb
  have HVa := Lib.hid (fun w (h : Sl w A c L) => dyValid_any s A c L e w true h (by omega) (by omega) (by simp [da]))
  have HVb := Lib.hid (fun w (h : Sl w B d M) => dyValid_any t B d M f w true h (by omega) (by omega) (by simp [db]))
  have HSa := Lib.hid (fun w (h : Sl w A c L) => dySign_any s A c L e w h da)
  have HSb := Lib.hid (fun w (h : Sl w B d M) => dySign_any t B d M f w h db)
  have HK := Lib.hid (fun w (h : Sl w A c L) (k : Sl w B d M) => dyCmp_any t B d M f s A c L e w k h db da)
  have HA := Lib.hid (fun w (h : Sl w B d M) => dyAbs_any t B d M f w h db hvM)
  generalize Dy.sign ⟨s, val L, e⟩ = sa at *
  generalize Dy.sign ⟨t, val M, f⟩ = sb at *
  generalize cmpD ⟨t, val M, f⟩ ⟨s, val L, e⟩ = cm at *
  have p1 : decide (sa ≤ 0) = false := decide_eq_false (by omega)
  have p2 : decide (sb ≤ 0) = false := decide_eq_false (by omega)
  have p3 : decide (cm ≤ 0) = true := decide_eq_true hc
  generalize (⟨false, val M, f⟩ : Dy) = D at *
  clear da db pa pb hvL hvM hc
  go_enter Tryd.func24, Tryd.ntmps24
  go_wp2_with fail
  refine (HVa.out _ (((hs.alloc _).alloc _).alloc _)).mono ?_
  rintro r w1 ⟨rfl, hb1⟩
  have bx1 := (((Box3.new w s A L.length c e).alloc (.cells #[.bool t, .slice B M.length d, .int .i64 f] 24)).alloc (.cells #[.bool false, .slice none 0 0, .int .i64 0] 24)).ext hb1
  have bx2 := ((Box3.newAt (W := w.alloc (.cells #[.bool s, .slice A L.length c, .int .i64 e] 24)) (g := w.heap.size + 1) (by simp) t B M.length d f).alloc (.cells #[.bool false, .slice none 0 0, .int .i64 0] 24)).ext hb1
  have bx3 := (Box3.newAt (W := (w.alloc (.cells #[.bool s, .slice A L.length c, .int .i64 e] 24)).alloc (.cells #[.bool t, .slice B M.length d, .int .i64 f] 24)) (g := w.heap.size + 2) (by simp) false none 0 0 0).ext hb1
  have hE := ((((Ext.alloc w (.cells #[.bool s, .slice A L.length c, .int .i64 e] 24)).trans (Ext.alloc _ (.cells #[.bool t, .slice B M.length d, .int .i64 f] 24))).trans (Ext.alloc _ (.cells #[.bool false, .slice none 0 0, .int .i64 0] 24))).trans hb1)
  have a0 := bx1.c0; have a1 := bx1.c1; have a2 := bx1.c2
  have b0 := bx2.c0; have b1 := bx2.c1; have b2 := bx2.c2
  go_wp2_with fail
  refine (HVb.out _ (hr.below hE)).mono ?_
  rintro r w2 ⟨rfl, hb2⟩
  clear a0 a1 a2 b0 b1 b2
  have bx1 := bx1.ext hb2; have bx2 := bx2.ext hb2; have bx3 := bx3.ext hb2; have hE := hE.trans hb2; clear hb2
  have a0 := bx1.c0; have a1 := bx1.c1; have a2 := bx1.c2
  have b0 := bx2.c0; have b1 := bx2.c1; have b2 := bx2.c2
  go_wp2_with fail
  refine (HSa.out _ (hs.below hE)).mono ?_
  rintro r w3 ⟨rfl, hb2⟩
  clear a0 a1 a2 b0 b1 b2
  have bx1 := bx1.ext hb2; have bx2 := bx2.ext hb2; have bx3 := bx3.ext hb2; have hE := hE.trans hb2; clear hb2
  have a0 := bx1.c0; have a1 := bx1.c1; have a2 := bx1.c2
  have b0 := bx2.c0; have b1 := bx2.c1; have b2 := bx2.c2
  go_wp2_with fail
  refine (HSb.out _ (hr.below hE)).mono ?_
  rintro r w4 ⟨rfl, hb2⟩
  clear a0 a1 a2 b0 b1 b2
  have bx1 := bx1.ext hb2; have bx2 := bx2.ext hb2; have bx3 := bx3.ext hb2; have hE := hE.trans hb2; clear hb2
  have a0 := bx1.c0; have a1 := bx1.c1; have a2 := bx1.c2
  have b0 := bx2.c0; have b1 := bx2.c1; have b2 := bx2.c2
  go_wp2_with fail
  refine (HK.out _ (hs.below hE) (hr.below hE)).mono ?_
  rintro r w5 ⟨rfl, hb2⟩
  clear a0 a1 a2 b0 b1 b2
  have bx1 := bx1.ext hb2; have bx2 := bx2.ext hb2; have bx3 := bx3.ext hb2; have hE := hE.trans hb2; clear hb2
  have a0 := bx1.c0; have a1 := bx1.c1; have a2 := bx1.c2
  have b0 := bx2.c0; have b1 := bx2.c1; have b2 := bx2.c2
  go_wp2_with fail
  refine (HA.out _ (hr.below hE)).mono ?_
  rintro r w6 ⟨A6, c6, rfl, hs6, hb2⟩
  clear a0 a1 a2 b0 b1 b2
  have bx3 := bx3.ext hb2; have hE := hE.trans hb2; clear hb2
  have z0 := bx3.c0; have z1 := bx3.c1; have z2 := bx3.c2; have f0 := bx3.fr 0; have f1 := bx3.fr 1; have f2 := bx3.fr 2
  go_wp2
  exact dy_rete (d := D) rfl rfl rfl rfl (bx3.set _ _ _ _ _) rfl (bx3.set_sl hs6 _ _ _ _ _) (Box3.set_ext hE (by omega) _ _ _ _ _)

set_option maxHeartbeats 4000000 in
theorem fit_step (s : Bool) (A : Option Addr) (c : Nat) (L : List Nat) (e : Int) (t : Bool) (B : Option Addr) (d : Nat) (M : List Nat) (f : Int) (w : World)
    (hs : Sl w A c L) (hr : Sl w B d M) (da : Dok s L e) (db : Dok t M f) (pa : 0 < Dy.sign ⟨s, val L, e⟩) (pb : 0 < Dy.sign ⟨t, val M, f⟩)
    (hTb : Tb w) (hc : 0 < cmpD ⟨t, val M, f⟩ ⟨s, val L, e⟩) (hd2 : inRange (canon s (val L) (e + 1))) (hc2 : 0 ≤ cmpD ⟨t, val M, f⟩ (canon s (val L) (e + 1))) :
    Calls Tryd.prog 24 #[.agg #[.bool s, .slice A L.length c, .int .i64 e], .agg #[.bool t, .slice B M.length d, .int .i64 f]] w (RetDE w ⟨false, val L, e⟩ 0) := by
  obtain ⟨he1, he2⟩ := da.exp
  obtain ⟨hf1, hf2⟩ := db.exp
  have hvL : val L ≠ 0 := by intro h; unfold Dy.sign at pa; simp [h] at pa
  have hvM : val M ≠ 0 := by intro h; unfold Dy.sign at pb; simp [h] at pb
  have HVa := Lib.hid (fun w (h : Sl w A c L) => dyValid_any s A c L e w true h (by omega) (by omega) (by simp [da]))
  have HVb := Lib.hid (fun w (h : Sl w B d M) => dyValid_any t B d M f w true h (by omega) (by omega) (by simp [db]))
  have HSa := Lib.hid (fun w (h : Sl w A c L) => dySign_any s A c L e w h da)
  have HSb := Lib.hid (fun w (h : Sl w B d M) => dySign_any t B d M f w h db)
  have HK := Lib.hid (fun w (h : Sl w A c L) (k : Sl w B d M) => dyCmp_any t B d M f s A c L e w k h db da)
  have HA := Lib.hid (fun w (h : Sl w A c L) => dyAbs_any s A c L e w h da hvL)
  have HS2 := Lib.hid (fun w (h : Sl w A c L) (ht : Tb w) => dyScale_yes s A c L e 1 w h da ht (by decide) (by decide) hd2)
  have hv2 : (canon s (val L) (e + 1)).Valid := ⟨canon_canon _ _ _, hd2⟩
  obtain ⟨D2, hD2⟩ : ∃ D, D = canon s (val L) (e + 1) := ⟨_, rfl⟩
  rw [← hD2] at HS2 hv2 hc2
  have HK2 := Lib.hid (fun A' c' w (h : Sl w B d M) (k : Sl w A' c' (limbs D2.m)) => dyCmp_any t B d M f D2.neg A' c' (limbs D2.m) D2.e w h k db (sl_num k hv2))
  rw [val_limbs] at HK2
  have hc2 : 0 ≤ cmpD ⟨t, val M, f⟩ ⟨D2.neg, D2.m, D2.e⟩ := hc2
  obtain ⟨cq, hcq⟩ : ∃ q, q = cmpD ⟨t, val M, f⟩ ⟨D2.neg, D2.m, D2.e⟩ := ⟨_, rfl⟩
  rw [← hcq] at HK2 hc2
  generalize Dy.sign ⟨s, val L, e⟩ = sa at *
  generalize Dy.sign ⟨t, val M, f⟩ = sb at *
  generalize cmpD ⟨t, val M, f⟩ ⟨s, val L, e⟩ = cm at *
  have p1 : decide (sa ≤ 0) = false := decide_eq_false (by omega)
  have p2 : decide (sb ≤ 0) = false := decide_eq_false (by omega)
  have p3 : decide (cm ≤ 0) = false := decide_eq_false (by omega)
  have p4 : decide (0 ≤ cq) = true := decide_eq_true hc2
  generalize (⟨false, val L, e⟩ : Dy) = D at *
  clear da db pa pb hvL hvM hc hc2 hcq hD2 hv2 hd2
  go_enter Tryd.func24, Tryd.ntmps24
  go_wp2_with fail
  refine (HVa.out _ (((hs.alloc _).alloc _).alloc _)).mono ?_
  rintro r w1 ⟨rfl, hb1⟩
  have bx1 := (((Box3.new w s A L.length c e).alloc (.cells #[.bool t, .slice B M.length d, .int .i64 f] 24)).alloc (.cells #[.bool false, .slice none 0 0, .int .i64 0] 24)).ext hb1
  have bx2 := ((Box3.newAt (W := w.alloc (.cells #[.bool s, .slice A L.length c, .int .i64 e] 24)) (g := w.heap.size + 1) (by simp) t B M.length d f).alloc (.cells #[.bool false, .slice none 0 0, .int .i64 0] 24)).ext hb1
  have bx3 := (Box3.newAt (W := (w.alloc (.cells #[.bool s, .slice A L.length c, .int .i64 e] 24)).alloc (.cells #[.bool t, .slice B M.length d, .int .i64 f] 24)) (g := w.heap.size + 2) (by simp) false none 0 0 0).ext hb1
  have hE := ((((Ext.alloc w (.cells #[.bool s, .slice A L.length c, .int .i64 e] 24)).trans (Ext.alloc _ (.cells #[.bool t, .slice B M.length d, .int .i64 f] 24))).trans (Ext.alloc _ (.cells #[.bool false, .slice none 0 0, .int .i64 0] 24))).trans hb1)
  have a0 := bx1.c0; have a1 := bx1.c1; have a2 := bx1.c2
  have b0 := bx2.c0; have b1 := bx2.c1; have b2 := bx2.c2
  go_wp2_with fail
  refine (HVb.out _ (hr.below hE)).mono ?_
  rintro r w2 ⟨rfl, hb2⟩
  clear a0 a1 a2 b0 b1 b2
  have bx1 := bx1.ext hb2; have bx2 := bx2.ext hb2; have bx3 := bx3.ext hb2; have hE := hE.trans hb2; clear hb2
  have a0 := bx1.c0; have a1 := bx1.c1; have a2 := bx1.c2
  have b0 := bx2.c0; have b1 := bx2.c1; have b2 := bx2.c2
  go_wp2_with fail
  refine (HSa.out _ (hs.below hE)).mono ?_
  rintro r w3 ⟨rfl, hb2⟩
  clear a0 a1 a2 b0 b1 b2
  have bx1 := bx1.ext hb2; have bx2 := bx2.ext hb2; have bx3 := bx3.ext hb2; have hE := hE.trans hb2; clear hb2
  have a0 := bx1.c0; have a1 := bx1.c1; have a2 := bx1.c2
  have b0 := bx2.c0; have b1 := bx2.c1; have b2 := bx2.c2
  go_wp2_with fail
  refine (HSb.out _ (hr.below hE)).mono ?_
  rintro r w4 ⟨rfl, hb2⟩
  clear a0 a1 a2 b0 b1 b2
  have bx1 := bx1.ext hb2; have bx2 := bx2.ext hb2; have bx3 := bx3.ext hb2; have hE := hE.trans hb2; clear hb2
  have a0 := bx1.c0; have a1 := bx1.c1; have a2 := bx1.c2
  have b0 := bx2.c0; have b1 := bx2.c1; have b2 := bx2.c2
  go_wp2_with fail
  refine (HK.out _ (hs.below hE) (hr.below hE)).mono ?_
  rintro r w5 ⟨rfl, hb2⟩
  clear a0 a1 a2 b0 b1 b2
  have bx1 := bx1.ext hb2; have bx2 := bx2.ext hb2; have bx3 := bx3.ext hb2; have hE := hE.trans hb2; clear hb2
  have a0 := bx1.c0; have a1 := bx1.c1; have a2 := bx1.c2
  have b0 := bx2.c0; have b1 := bx2.c1; have b2 := bx2.c2
  go_wp2_with fail
  refine (HS2.out _ (hs.below hE) (hTb.below hE)).mono ?_
  rintro r w6 ⟨A6, c6, rfl, hs6, hb2⟩
  clear a0 a1 a2 b0 b1 b2
  have hb2 := hb2.trans (Ext.alloc _ (.cells #[.bool D2.neg, .slice A6 (limbs D2.m).length c6, .int .i64 D2.e] 24))
  have bx1 := bx1.ext hb2; have bx2 := bx2.ext hb2; have bx3 := bx3.ext hb2; have hE := hE.trans hb2; clear hb2
  have a0 := bx1.c0; have a1 := bx1.c1; have a2 := bx1.c2
  have b0 := bx2.c0; have b1 := bx2.c1; have b2 := bx2.c2
  go_wp2_with fail
  refine (HK2.out _ _ _ (hr.below hE) (hs6.alloc _)).mono ?_
  rintro r w7 ⟨rfl, hb2⟩
  clear a0 a1 a2 b0 b1 b2
  have bx1 := bx1.ext hb2; have bx2 := bx2.ext hb2; have bx3 := bx3.ext hb2; have hE := hE.trans hb2; clear hb2
  have a0 := bx1.c0; have a1 := bx1.c1; have a2 := bx1.c2
  have b0 := bx2.c0; have b1 := bx2.c1; have b2 := bx2.c2
  go_wp2_with fail
  refine (HA.out _ (hs.below hE)).mono ?_
  rintro r w8 ⟨A8, c8, rfl, hs8, hb2⟩
  clear a0 a1 a2 b0 b1 b2
  have bx3 := bx3.ext hb2; have hE := hE.trans hb2; clear hb2
  have z0 := bx3.c0; have z1 := bx3.c1; have z2 := bx3.c2; have f0 := bx3.fr 0; have f1 := bx3.fr 1; have f2 := bx3.fr 2
  go_wp2
  exact dy_rete (d := D) rfl rfl rfl rfl (bx3.set _ _ _ _ _) rfl (bx3.set_sl hs8 _ _ _ _ _) (Box3.set_ext hE (by omega) _ _ _ _ _)

set_option maxHeartbeats 4000000 in
theorem fit_half (s : Bool) (A : Option Addr) (c : Nat) (L : List Nat) (e : Int) (t : Bool) (B : Option Addr) (d : Nat) (M : List Nat) (f : Int) (w : World)
    (hs : Sl w A c L) (hr : Sl w B d M) (da : Dok s L e) (db : Dok t M f) (pa : 0 < Dy.sign ⟨s, val L, e⟩) (pb : 0 < Dy.sign ⟨t, val M, f⟩)
    (hTb : Tb w) (hc : 0 < cmpD ⟨t, val M, f⟩ ⟨s, val L, e⟩) (hd2 : inRange (canon s (val L) (e + 1))) (hc2 : cmpD ⟨t, val M, f⟩ (canon s (val L) (e + 1)) < 0) (hd3 : inRange (canon t (val M) (f + -1))) :
    Calls Tryd.prog 24 #[.agg #[.bool s, .slice A L.length c, .int .i64 e], .agg #[.bool t, .slice B M.length d, .int .i64 f]] w (RetDE w (canon t (val M) (f + -1)) 0) := by
  obtain ⟨he1, he2⟩ := da.exp
  obtain ⟨hf1, hf2⟩ := db.exp
  have hvL : val L ≠ 0 := by intro h; unfold Dy.sign at pa; simp [h] at pa
  have hvM : val M ≠ 0 := by intro h; unfold Dy.sign at pb; simp [h] at pb
  have HVa := Lib.hid (fun w (h : Sl w A c L) => dyValid_any s A c L e w true h (by omega) (by omega) (by simp [da]))
  have HVb := Lib.hid (fun w (h : Sl w B d M) => dyValid_any t B d M f w true h (by omega) (by omega) (by simp [db]))
  have HSa := Lib.hid (fun w (h : Sl w A c L) => dySign_any s A c L e w h da)
  have HSb := Lib.hid (fun w (h : Sl w B d M) => dySign_any t B d M f w h db)
  have HK := Lib.hid (fun w (h : Sl w A c L) (k : Sl w B d M) => dyCmp_any t B d M f s A c L e w k h db da)
  have HA := Lib.hid (fun w (h : Sl w B d M) (ht : Tb w) => dyScale_yes t B d M f (-1) w h db ht (by decide) (by decide) hd3)
  have HS2 := Lib.hid (fun w (h : Sl w A c L) (ht : Tb w) => dyScale_yes s A c L e 1 w h da ht (by decide) (by decide) hd2)
  have hv2 : (canon s (val L) (e + 1)).Valid := ⟨canon_canon _ _ _, hd2⟩
  obtain ⟨D2, hD2⟩ : ∃ D, D = canon s (val L) (e + 1) := ⟨_, rfl⟩
  rw [← hD2] at HS2 hv2 hc2
  have HK2 := Lib.hid (fun A' c' w (h : Sl w B d M) (k : Sl w A' c' (limbs D2.m)) => dyCmp_any t B d M f D2.neg A' c' (limbs D2.m) D2.e w h k db (sl_num k hv2))
  rw [val_limbs] at HK2
  have hc2 : cmpD ⟨t, val M, f⟩ ⟨D2.neg, D2.m, D2.e⟩ < 0 := hc2
  obtain ⟨cq, hcq⟩ : ∃ q, q = cmpD ⟨t, val M, f⟩ ⟨D2.neg, D2.m, D2.e⟩ := ⟨_, rfl⟩
  rw [← hcq] at HK2 hc2
  generalize Dy.sign ⟨s, val L, e⟩ = sa at *
  generalize Dy.sign ⟨t, val M, f⟩ = sb at *
  generalize cmpD ⟨t, val M, f⟩ ⟨s, val L, e⟩ = cm at *
  have p1 : decide (sa ≤ 0) = false := decide_eq_false (by omega)
  have p2 : decide (sb ≤ 0) = false := decide_eq_false (by omega)
  have p3 : decide (cm ≤ 0) = false := decide_eq_false (by omega)
  have p4 : decide (0 ≤ cq) = false := decide_eq_false (by omega)
  generalize canon t (val M) (f + -1) = D at *
  clear da db pa pb hvL hvM hc hc2 hcq hD2 hv2 hd2 hd3
  go_enter Tryd.func24, Tryd.ntmps24
  go_wp2_with fail
  refine (HVa.out _ (((hs.alloc _).alloc _).alloc _)).mono ?_
  rintro r w1 ⟨rfl, hb1⟩
  have bx1 := (((Box3.new w s A L.length c e).alloc (.cells #[.bool t, .slice B M.length d, .int .i64 f] 24)).alloc (.cells #[.bool false, .slice none 0 0, .int .i64 0] 24)).ext hb1
  have bx2 := ((Box3.newAt (W := w.alloc (.cells #[.bool s, .slice A L.length c, .int .i64 e] 24)) (g := w.heap.size + 1) (by simp) t B M.length d f).alloc (.cells #[.bool false, .slice none 0 0, .int .i64 0] 24)).ext hb1
  have bx3 := (Box3.newAt (W := (w.alloc (.cells #[.bool s, .slice A L.length c, .int .i64 e] 24)).alloc (.cells #[.bool t, .slice B M.length d, .int .i64 f] 24)) (g := w.heap.size + 2) (by simp) false none 0 0 0).ext hb1
  have hE := ((((Ext.alloc w (.cells #[.bool s, .slice A L.length c, .int .i64 e] 24)).trans (Ext.alloc _ (.cells #[.bool t, .slice B M.length d, .int .i64 f] 24))).trans (Ext.alloc _ (.cells #[.bool false, .slice none 0 0, .int .i64 0] 24))).trans hb1)
  have a0 := bx1.c0; have a1 := bx1.c1; have a2 := bx1.c2
  have b0 := bx2.c0; have b1 := bx2.c1; have b2 := bx2.c2
  go_wp2_with fail
  refine (HVb.out _ (hr.below hE)).mono ?_
  rintro r w2 ⟨rfl, hb2⟩
  clear a0 a1 a2 b0 b1 b2
  have bx1 := bx1.ext hb2; have bx2 := bx2.ext hb2; have bx3 := bx3.ext hb2; have hE := hE.trans hb2; clear hb2
  have a0 := bx1.c0; have a1 := bx1.c1; have a2 := bx1.c2
  have b0 := bx2.c0; have b1 := bx2.c1; have b2 := bx2.c2
  go_wp2_with fail
  refine (HSa.out _ (hs.below hE)).mono ?_
  rintro r w3 ⟨rfl, hb2⟩
  clear a0 a1 a2 b0 b1 b2
  have bx1 := bx1.ext hb2; have bx2 := bx2.ext hb2; have bx3 := bx3.ext hb2; have hE := hE.trans hb2; clear hb2
  have a0 := bx1.c0; have a1 := bx1.c1; have a2 := bx1.c2
  have b0 := bx2.c0; have b1 := bx2.c1; have b2 := bx2.c2
  go_wp2_with fail
  refine (HSb.out _ (hr.below hE)).mono ?_
  rintro r w4 ⟨rfl, hb2⟩
  clear a0 a1 a2 b0 b1 b2
  have bx1 := bx1.ext hb2; have bx2 := bx2.ext hb2; have bx3 := bx3.ext hb2; have hE := hE.trans hb2; clear hb2
  have a0 := bx1.c0; have a1 := bx1.c1; have a2 := bx1.c2
  have b0 := bx2.c0; have b1 := bx2.c1; have b2 := bx2.c2
  go_wp2_with fail
  refine (HK.out _ (hs.below hE) (hr.below hE)).mono ?_
  rintro r w5 ⟨rfl, hb2⟩
  clear a0 a1 a2 b0 b1 b2
  have bx1 := bx1.ext hb2; have bx2 := bx2.ext hb2; have bx3 := bx3.ext hb2; have hE := hE.trans hb2; clear hb2
  have a0 := bx1.c0; have a1 := bx1.c1; have a2 := bx1.c2
  have b0 := bx2.c0; have b1 := bx2.c1; have b2 := bx2.c2
  go_wp2_with fail
  refine (HS2.out _ (hs.below hE) (hTb.below hE)).mono ?_
  rintro r w6 ⟨A6, c6, rfl, hs6, hb2⟩
  clear a0 a1 a2 b0 b1 b2
  have hb2 := hb2.trans (Ext.alloc _ (.cells #[.bool D2.neg, .slice A6 (limbs D2.m).length c6, .int .i64 D2.e] 24))
  have bx1 := bx1.ext hb2; have bx2 := bx2.ext hb2; have bx3 := bx3.ext hb2; have hE := hE.trans hb2; clear hb2
  have a0 := bx1.c0; have a1 := bx1.c1; have a2 := bx1.c2
  have b0 := bx2.c0; have b1 := bx2.c1; have b2 := bx2.c2
  go_wp2_with fail
  refine (HK2.out _ _ _ (hr.below hE) (hs6.alloc _)).mono ?_
  rintro r w7 ⟨rfl, hb2⟩
  clear a0 a1 a2 b0 b1 b2
  have bx1 := bx1.ext hb2; have bx2 := bx2.ext hb2; have bx3 := bx3.ext hb2; have hE := hE.trans hb2; clear hb2
  have a0 := bx1.c0; have a1 := bx1.c1; have a2 := bx1.c2
  have b0 := bx2.c0; have b1 := bx2.c1; have b2 := bx2.c2
  go_wp2_with fail
  refine (HA.out _ (hr.below hE) (hTb.below hE)).mono ?_
  rintro r w8 ⟨A8, c8, rfl, hs8, hb2⟩
  clear a0 a1 a2 b0 b1 b2
  have hb2 := hb2.trans (Ext.alloc _ (.cells #[.bool D.neg, .slice A8 (limbs D.m).length c8, .int .i64 D.e] 24))
  have bx3 := bx3.ext hb2; have hE := hE.trans hb2; clear hb2
  have z0 := bx3.c0; have z1 := bx3.c1; have z2 := bx3.c2; have f0 := bx3.fr 0; have f1 := bx3.fr 1; have f2 := bx3.fr 2
  go_wp2
  exact dy_rete (d := D) rfl rfl rfl rfl (bx3.set _ _ _ _ _) rfl (bx3.set_sl (hs8.alloc _) _ _ _ _ _) (Box3.set_ext hE (by omega) _ _ _ _ _)
end Go.Proofs.YtofdlkgpgcnjhaaDoor
