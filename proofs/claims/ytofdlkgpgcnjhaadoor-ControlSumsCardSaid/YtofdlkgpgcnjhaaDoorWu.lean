/- Walks: the program's comparison, small numbers. -/
import Derived.Test.YtofdlkgpgcnjhaaDoorWt
import Derived.Test.YtofdlkgpgcnjhaaDoorWq
import Derived.Test.YtofdlkgpgcnjhaaDoorWp
namespace Go.Proofs.YtofdlkgpgcnjhaaDoor
open Go.RowKit Fp

theorem sign_zero_iff {d : Dy} : d.sign = 0 ↔ d.m = 0 := by
  rcases sign_cases d with ⟨h1, h2⟩ | ⟨h1, _, h2⟩ | ⟨h1, _, h2⟩ <;> simp [h1, h2]

set_option maxHeartbeats 4000000 in
theorem dyCmp_any (s : Bool) (A : Option Addr) (c : Nat) (L : List Nat) (e : Int) (t : Bool) (B : Option Addr) (d : Nat) (M : List Nat) (f : Int) (w : World)
    (hs : Sl w A c L) (hr : Sl w B d M) (da : Dok s L e) (db : Dok t M f) :
    Calls Tryd.prog 18 #[.agg #[.bool s, .slice A L.length c, .int .i64 e], .agg #[.bool t, .slice B M.length d, .int .i64 f]] w fun r w' => r = .returned (.int .i64 (cmpD ⟨s, val L, e⟩ ⟨t, val M, f⟩)) ∧ Ext w w' := by
  obtain ⟨he1, he2⟩ := da.exp
  obtain ⟨hf1, hf2⟩ := db.exp
  have HVa := Lib.hid (fun w (h : Sl w A c L) => dyValid_any s A c L e w true h (by omega) (by omega) (by simp [da]))
  have HVb := Lib.hid (fun w (h : Sl w B d M) => dyValid_any t B d M f w true h (by omega) (by omega) (by simp [db]))
  have HSa := Lib.hid (fun w (h : Sl w A c L) => dySign_any s A c L e w h da)
  have HSb := Lib.hid (fun w (h : Sl w B d M) => dySign_any t B d M f w h db)
  have HK := Lib.hid (fun h1 h2 w (h : Sl w A c L) (k : Sl w B d M) => dyCompare_any s A c L e t B d M f w h k da db h1 h2)
  have HP := Lib.hid (cmpD_prog ⟨s, val L, e⟩ ⟨t, val M, f⟩)
  have z1 : Hid (Dy.sign ⟨s, val L, e⟩ = 0 ↔ val L = 0) := sign_zero_iff
  have z2 : Hid (Dy.sign ⟨t, val M, f⟩ = 0 ↔ val M = 0) := sign_zero_iff
  have hsa : Dy.sign ⟨s, val L, e⟩ = 0 ∨ Dy.sign ⟨s, val L, e⟩ = -1 ∨ Dy.sign ⟨s, val L, e⟩ = 1 := by
    rcases sign_cases ⟨s, val L, e⟩ with ⟨_, h⟩ | ⟨_, _, h⟩ | ⟨_, _, h⟩ <;> simp [h]
  have hcm : cmpMag ⟨s, val L, e⟩ ⟨t, val M, f⟩ = -1 ∨ cmpMag ⟨s, val L, e⟩ ⟨t, val M, f⟩ = 0 ∨ cmpMag ⟨s, val L, e⟩ ⟨t, val M, f⟩ = 1 := by
    unfold cmpMag cmpN; split; simp; split <;> simp
  generalize Dy.sign ⟨s, val L, e⟩ = sa at *
  generalize Dy.sign ⟨t, val M, f⟩ = sb at *
  generalize cmpMag ⟨s, val L, e⟩ ⟨t, val M, f⟩ = cm at *
  generalize cmpD ⟨s, val L, e⟩ ⟨t, val M, f⟩ = R at *
  have hw1 : IntKind.i64.wrap (sa * cm) = sa * cm := i64_in _ (by rcases hsa with rfl | rfl | rfl <;> omega) (by rcases hsa with rfl | rfl | rfl <;> omega)
  have HH := Lib.hid hsa
  clear hsa hcm da db
  go_enter Tryd.func18, Tryd.ntmps18
  go_wp2_with fail
  refine (HVa.out _ ((hs.alloc _).alloc _)).mono ?_
  rintro r w1 ⟨rfl, hb1⟩
  have bx1 := ((Box3.new w s A L.length c e).alloc (.cells #[.bool t, .slice B M.length d, .int .i64 f] 24)).ext hb1
  have bx2 := (Box3.newAt (W := w.alloc (.cells #[.bool s, .slice A L.length c, .int .i64 e] 24)) (g := w.heap.size + 1) (by simp) t B M.length d f).ext hb1
  have b0 := bx1.c0; have b1 := bx1.c1; have b2 := bx1.c2
  have d0 := bx2.c0; have d1 := bx2.c1; have d2 := bx2.c2
  have hE := (((Ext.alloc w (.cells #[.bool s, .slice A L.length c, .int .i64 e] 24)).trans (Ext.alloc _ (.cells #[.bool t, .slice B M.length d, .int .i64 f] 24))).trans hb1)
  go_wp2_with fail
  refine (HVb.out _ (hr.below hE)).mono ?_
  rintro r w2 ⟨rfl, hb2⟩
  have hE2 := hE.trans hb2
  have bx1 := (bx1.ext hb2).drew
  have bx2 := (bx2.ext hb2).drew
  have hsW := (hs.below hE2).drew
  have hrW := (hr.below hE2).drew
  have HE := Lib.hid (hE2.trans (Ext.drew _))
  clear hE hE2 hb1 hb2 b0 b1 b2 d0 d1 d2
  go_wp2_with fail
  go_region_held3 (fun w' => w'.cell? ⟨w.heap.size, 0, none⟩ = some (.bool s) ∧ w'.cell? ⟨w.heap.size, 1, none⟩ = some (.slice A L.length c) ∧ w'.cell? ⟨w.heap.size, 2, none⟩ = some (.int .i64 e) ∧ w'.cell? ⟨w.heap.size + 1, 0, none⟩ = some (.bool t) ∧ w'.cell? ⟨w.heap.size + 1, 1, none⟩ = some (.slice B M.length d) ∧ w'.cell? ⟨w.heap.size + 1, 2, none⟩ = some (.int .i64 f))
    (first
      | exact ⟨bx1.c0, bx1.c1, bx1.c2, bx2.c0, bx2.c1, bx2.c2⟩
      | exact ⟨(bx1.ext hbx).c0, (bx1.ext hbx).c1, (bx1.ext hbx).c2, (bx2.ext hbx).c0, (bx2.ext hbx).c1, (bx2.ext hbx).c2⟩
      | exact ⟨(bx1.ext hby).c0, (bx1.ext hby).c1, (bx1.ext hby).c2, (bx2.ext hby).c0, (bx2.ext hby).c1, (bx2.ext hby).c2⟩
      | exact ⟨(bx1.ext (hbx.trans hby)).c0, (bx1.ext (hbx.trans hby)).c1, (bx1.ext (hbx.trans hby)).c2, (bx2.ext (hbx.trans hby)).c0, (bx2.ext (hbx.trans hby)).c1, (bx2.ext (hbx.trans hby)).c2⟩
      | exact ⟨(bx1.ext (hby.trans hbx)).c0, (bx1.ext (hby.trans hbx)).c1, (bx1.ext (hby.trans hbx)).c2, (bx2.ext (hby.trans hbx)).c0, (bx2.ext (hby.trans hbx)).c1, (bx2.ext (hby.trans hbx)).c2⟩)
    (first
      | (go_at_call_of 23 (Value.agg #[.bool s, .slice A L.length c, .int .i64 e])
         refine (HSa.out _ ?_).mono ?_
         (first | exact hsW | exact hsW.below hby)
         rintro r wx ⟨rfl, hbx⟩)
      | (go_at_call_of 23 (Value.agg #[.bool t, .slice B M.length d, .int .i64 f])
         refine (HSb.out _ ?_).mono ?_
         (first | exact hrW | exact hrW.below hbx)
         rintro r wy ⟨rfl, hby⟩))
  first
    | (have hxy := hbx.trans hby)
    | (have hxy := hby.trans hbx)
  have cx1 := (bx1.ext hxy)
  have cx2 := (bx2.ext hxy)
  have hs2 := (hsW.below hxy)
  have hr2 := (hrW.below hxy)
  have HFr := Lib.hid (HE.out.trans hxy)
  clear hbx hby hxy
  by_cases h1 : sa < sb
  · have hR := Lib.hid (show R = -1 by rw [HP.out, if_pos h1])
    go_wp2
    go_ret
    exact ⟨ret_int hR.out.symm, HFr.out⟩
  · by_cases h2 : sb < sa
    · have hR := Lib.hid (show R = 1 by rw [HP.out, if_neg h1, if_pos h2])
      go_wp2
      go_ret
      exact ⟨ret_int hR.out.symm, HFr.out⟩
    · by_cases h3 : sa = 0
      · have hR := Lib.hid (show R = 0 by rw [HP.out, if_neg h1, if_neg h2, if_pos h3])
        have hz : (sa == 0) = true := by simp [h3]
        go_wp2
        go_ret
        exact ⟨ret_int hR.out.symm, HFr.out⟩
      · have hR := Lib.hid (show R = sa * cm by rw [HP.out, if_neg h1, if_neg h2, if_neg h3])
        have hz : (sa == 0) = false := beq_eq_false_iff_ne.2 h3
        have HK2 := Lib.hid (HK.out (fun h => h3 (z1.out.2 h)) (fun h => h3 (by have := z2.out.2 h; omega)))
        have b0 := cx1.c0; have b1 := cx1.c1; have b2 := cx1.c2
        have d0 := cx2.c0; have d1 := cx2.c1; have d2 := cx2.c2
        go_wp2_with fail
        refine (HK2.out _ hs2 hr2).mono ?_
        rintro r w3 ⟨rfl, hb3⟩
        go_wp2
        go_ret
        exact ⟨ret_int hR.out.symm, HFr.out.trans hb3⟩

theorem limbs_one : limbs 1 = [1] := by rw [limbs_pos (by decide)]; simp [limbs_zero]
theorem val_one : val [1] = 1 := by simp

theorem Sl.oneAt (w : World) (g : Nat) (hg : w.heap.size = g) (y : Int) (x : Nat) (e : y = (x : Int)) (hx : x < 4294967296) : Sl (w.alloc (.cells #[.int .u32 y] 50)) (some ⟨g, 0, none⟩) 1 [x] := by
  subst hg; exact Sl.oneI w y x e hx

/-- The end of a function that returns a power of two. -/
theorem two_ret {fn : Func} {p : Tmp} (h : fn.results = #[.cell p 24]) {a : Act} {w W : World} {e : Int} {g : Nat} {A : Option Addr} {c : Nat}
    (hp : a.tmps.getD p undef = .pointer (some ⟨g, 0, none⟩)) (hd : a.defers = []) (hb : Box3 W g false A 1 c e) (hs : Sl W A c [1]) (he : Ext w W) :
    bodyPost Tryd.prog fn (RetD w ⟨false, 1, e⟩) .ret a W :=
  dy_ret (d := ⟨false, 1, e⟩) h hp hd hb (by rw [limbs_one]; rfl) (by rw [limbs_one]; exact hs) he

set_option maxHeartbeats 2000000 in
theorem two_any (e : Int) (w : World) : Calls Tryd.prog 30 #[.int .i64 e] w (RetD w ⟨false, 1, e⟩) := by
  go_enter Tryd.func30, Tryd.ntmps30
  go_wp2
  exact two_ret rfl rfl rfl ((Box3.new w false (some ⟨w.heap.size + 1, 0, none⟩) 1 1 e).alloc (.cells #[.int .u32 1] 50)) (Sl.oneAt (w.alloc (.cells #[.bool false, .slice (some ⟨w.heap.size + 1, 0, none⟩) 1 1, .int .i64 e] 24)) (w.heap.size + 1) (by simp) 1 1 rfl (by decide)) ((Ext.alloc _ _).trans (Ext.alloc _ _))
end Go.Proofs.YtofdlkgpgcnjhaaDoor
