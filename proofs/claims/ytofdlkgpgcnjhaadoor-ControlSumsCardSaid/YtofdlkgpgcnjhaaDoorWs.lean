/- Walks: how the reference compares. -/
import Derived.Test.YtofdlkgpgcnjhaaDoorWr
namespace Go.Proofs.YtofdlkgpgcnjhaaDoor
open Go.RowKit Fp

set_option maxHeartbeats 8000000 in
theorem refCmp_any (s : Bool) (A : Option Addr) (c : Nat) (L : List Nat) (e : Int) (t : Bool) (B : Option Addr) (d : Nat) (M : List Nat) (f : Int) (w : World)
    (hs : Sl w A c L) (hr : Sl w B d M) (tL : Trim L) (tM : Trim M) (h1 : L.length ≤ 256) (h2 : M.length ≤ 256) (e1 : -17000 ≤ e) (e2 : e ≤ 17000) (f1 : -17000 ≤ f) (f2 : f ≤ 17000) :
    Calls Tryd.prog 19 #[.agg #[.bool s, .slice A L.length c, .int .i64 e], .agg #[.bool t, .slice B M.length d, .int .i64 f]] w fun r w' => r = .returned (.int .i64 (cmpD ⟨s, val L, e⟩ ⟨t, val M, f⟩)) ∧ Ext w w' := by
  have hE : Ext w ((w.alloc (.cells #[.bool s, .slice A L.length c, .int .i64 e] 24)).alloc (.cells #[.bool t, .slice B M.length d, .int .i64 f] 24)) := (Ext.alloc _ _).trans (Ext.alloc _ _)
  have bx1 := ((Box3.new w s A L.length c e).alloc (.cells #[.bool t, .slice B M.length d, .int .i64 f] 24)).drew
  have bx2 := (Box3.newAt (W := w.alloc (.cells #[.bool s, .slice A L.length c, .int .i64 e] 24)) (g := w.heap.size + 1) (by simp) t B M.length d f).drew
  have hsW := (hs.below hE).drew
  have hrW := (hr.below hE).drew
  have HE := Lib.hid (hE.trans (Ext.drew _))
  clear hE
  have HSa := Lib.hid (fun w (h : Sl w A c L) => refSign_any s A c L e w h tL)
  have HSb := Lib.hid (fun w (h : Sl w B d M) => refSign_any t B d M f w h tM)
  have HTa := Lib.hid (fun w (h : Sl w A c L) => refTop_any s A c L e w h tL (by omega) (by omega) (by omega))
  have HTb := Lib.hid (fun w (h : Sl w B d M) => refTop_any t B d M f w h tM (by omega) (by omega) (by omega))
  have HN := Lib.hid (fun w (h : Sl w B d M) => refNeg_any t B d M f w h tM)
  have HS := Lib.hid (fun N (hN : N = negD ⟨t, val M, f⟩) B' d' w (h : Sl w A c L) (h' : Sl w B' d' (limbs N.m)) => refSum_any s A c L e N.neg B' d' (limbs N.m) N.e w h h' tL (trim_limbs _) (by omega) (by rw [hN]; show (limbs (val M)).length ≤ 256; rw [← tM.eq_limbs hr.ok]; omega) (by omega) (by omega) (by rw [hN]; exact f1) (by rw [hN]; exact f2))
  have HR := Lib.hid (cmpD_ref ⟨s, val L, e⟩ ⟨t, val M, f⟩)
  obtain ⟨N, hN⟩ : ∃ N, N = negD ⟨t, val M, f⟩ := ⟨_, rfl⟩
  rw [← hN] at HN HR
  have HS2 := Lib.hid (HS.out N hN)
  clear hN HS
  have htop : -30000 ≤ Dy.top ⟨s, val L, e⟩ ∧ Dy.top ⟨s, val L, e⟩ ≤ 30000 := by
    have : bitsN (val L) ≤ 32 * L.length := bitsN_le_iff.2 (by rw [← pow32]; exact val_lt hs.ok)
    unfold Dy.top
    split
    · omega
    · simp only
      omega
  generalize Dy.sign ⟨s, val L, e⟩ = sa at *
  generalize Dy.sign ⟨t, val M, f⟩ = sb at *
  generalize Dy.top ⟨s, val L, e⟩ = ta at *
  generalize Dy.top ⟨t, val M, f⟩ = tb at *
  generalize cmpD ⟨s, val L, e⟩ ⟨t, val M, f⟩ = R at *
  have HS3 : Hid (∀ (B' : Option Addr) (d' : Nat) (w : World), Sl w A c L → Sl w B' d' (limbs N.m) → Calls Tryd.prog 41 #[.agg #[.bool s, .slice A L.length c, .int .i64 e], .agg #[.bool N.neg, .slice B' (limbs N.m).length d', .int .i64 N.e]] w (RetD w (sumD ⟨s, val L, e⟩ N))) := fun B' d' w h h' => by
    have := HS2.out B' d' w h h'
    rw [val_limbs] at this
    exact this
  generalize sumD ⟨s, val L, e⟩ N = S at *
  have HSS := Lib.hid (fun A c w (h : Sl w A c (limbs S.m)) => refSign_any S.neg A c (limbs S.m) S.e w h (trim_limbs _))
  have HSS2 : Hid (∀ (A : Option Addr) (c : Nat) (w : World), Sl w A c (limbs S.m) → Calls Tryd.prog 21 #[.agg #[.bool S.neg, .slice A (limbs S.m).length c, .int .i64 S.e]] w fun r w' => r = .returned (.int .i64 S.sign) ∧ Ext w w') := fun A c w h => by
    have := HSS.out A c w h
    rw [val_limbs] at this
    exact this
  generalize S.sign = ss at *
  clear HS2 HSS
  go_enter Tryd.func19, Tryd.ntmps19
  go_wp2_with fail
  go_region_held3 (fun w' => w'.cell? ⟨w.heap.size, 0, none⟩ = some (.bool s) ∧ w'.cell? ⟨w.heap.size, 1, none⟩ = some (.slice A L.length c) ∧ w'.cell? ⟨w.heap.size, 2, none⟩ = some (.int .i64 e) ∧ w'.cell? ⟨w.heap.size + 1, 0, none⟩ = some (.bool t) ∧ w'.cell? ⟨w.heap.size + 1, 1, none⟩ = some (.slice B M.length d) ∧ w'.cell? ⟨w.heap.size + 1, 2, none⟩ = some (.int .i64 f))
    (first
      | exact ⟨bx1.c0, bx1.c1, bx1.c2, bx2.c0, bx2.c1, bx2.c2⟩
      | exact ⟨(bx1.ext hbx).c0, (bx1.ext hbx).c1, (bx1.ext hbx).c2, (bx2.ext hbx).c0, (bx2.ext hbx).c1, (bx2.ext hbx).c2⟩
      | exact ⟨(bx1.ext hby).c0, (bx1.ext hby).c1, (bx1.ext hby).c2, (bx2.ext hby).c0, (bx2.ext hby).c1, (bx2.ext hby).c2⟩
      | exact ⟨(bx1.ext (hbx.trans hby)).c0, (bx1.ext (hbx.trans hby)).c1, (bx1.ext (hbx.trans hby)).c2, (bx2.ext (hbx.trans hby)).c0, (bx2.ext (hbx.trans hby)).c1, (bx2.ext (hbx.trans hby)).c2⟩
      | exact ⟨(bx1.ext (hby.trans hbx)).c0, (bx1.ext (hby.trans hbx)).c1, (bx1.ext (hby.trans hbx)).c2, (bx2.ext (hby.trans hbx)).c0, (bx2.ext (hby.trans hbx)).c1, (bx2.ext (hby.trans hbx)).c2⟩)
    (first
      | (go_at_call_of 21 (Value.agg #[.bool s, .slice A L.length c, .int .i64 e])
         refine (HSa.out _ ?_).mono ?_
         (first | exact hsW | exact hsW.below hby)
         rintro r wx ⟨rfl, hbx⟩)
      | (go_at_call_of 21 (Value.agg #[.bool t, .slice B M.length d, .int .i64 f])
         refine (HSb.out _ ?_).mono ?_
         (first | exact hrW | exact hrW.below hbx)
         rintro r wy ⟨rfl, hby⟩))
  first
    | (have hxy := hbx.trans hby)
    | (have hxy := hby.trans hbx)
  have cx1 := (bx1.ext hxy).drew
  have cx2 := (bx2.ext hxy).drew
  have hs2 := (hsW.below hxy).drew
  have hr2 := (hrW.below hxy).drew
  have HF := Lib.hid ((HE.out.trans hxy).trans (Ext.drew _))
  have HFr := Lib.hid (HE.out.trans hxy)
  clear hbx hby hxy
  by_cases hsn : sa = sb
  · subst hsn
    have hne : (sa != sa) = false := by simp
    by_cases h0 : sa = 0
    · have hRv := Lib.hid (show R = 0 by rw [HR.out, if_neg (by simp), if_pos h0])
      have hz : (sa == 0) = true := by simp [h0]
      go_wp2
      go_ret
      exact ⟨ret_int hRv.out.symm, HFr.out⟩
    · have hz : (sa == 0) = false := beq_eq_false_iff_ne.2 h0
      go_wp2_with fail
      go_region_held3 (fun w' => w'.cell? ⟨w.heap.size, 0, none⟩ = some (.bool s) ∧ w'.cell? ⟨w.heap.size, 1, none⟩ = some (.slice A L.length c) ∧ w'.cell? ⟨w.heap.size, 2, none⟩ = some (.int .i64 e) ∧ w'.cell? ⟨w.heap.size + 1, 0, none⟩ = some (.bool t) ∧ w'.cell? ⟨w.heap.size + 1, 1, none⟩ = some (.slice B M.length d) ∧ w'.cell? ⟨w.heap.size + 1, 2, none⟩ = some (.int .i64 f))
        (first
          | exact ⟨cx1.c0, cx1.c1, cx1.c2, cx2.c0, cx2.c1, cx2.c2⟩
          | exact ⟨(cx1.ext hbx).c0, (cx1.ext hbx).c1, (cx1.ext hbx).c2, (cx2.ext hbx).c0, (cx2.ext hbx).c1, (cx2.ext hbx).c2⟩
          | exact ⟨(cx1.ext hby).c0, (cx1.ext hby).c1, (cx1.ext hby).c2, (cx2.ext hby).c0, (cx2.ext hby).c1, (cx2.ext hby).c2⟩
          | exact ⟨(cx1.ext (hbx.trans hby)).c0, (cx1.ext (hbx.trans hby)).c1, (cx1.ext (hbx.trans hby)).c2, (cx2.ext (hbx.trans hby)).c0, (cx2.ext (hbx.trans hby)).c1, (cx2.ext (hbx.trans hby)).c2⟩
          | exact ⟨(cx1.ext (hby.trans hbx)).c0, (cx1.ext (hby.trans hbx)).c1, (cx1.ext (hby.trans hbx)).c2, (cx2.ext (hby.trans hbx)).c0, (cx2.ext (hby.trans hbx)).c1, (cx2.ext (hby.trans hbx)).c2⟩)
        (first
          | (go_at_call_of 22 (Value.agg #[.bool s, .slice A L.length c, .int .i64 e])
             refine (HTa.out _ ?_).mono ?_
             (first | exact hs2 | exact hs2.below hby)
             rintro r wx ⟨rfl, hbx⟩)
          | (go_at_call_of 22 (Value.agg #[.bool t, .slice B M.length d, .int .i64 f])
             refine (HTb.out _ ?_).mono ?_
             (first | exact hr2 | exact hr2.below hbx)
             rintro r wy ⟨rfl, hby⟩))
      first
        | (have hxy := hbx.trans hby)
        | (have hxy := hby.trans hbx)
      have dx1 := (cx1.ext hxy).drew
      have dx2 := (cx2.ext hxy).drew
      have hs3 := (hs2.below hxy).drew
      have hr3 := (hr2.below hxy).drew
      have HG := Lib.hid ((HF.out.trans hxy).trans (Ext.drew _))
      have HGr := Lib.hid (HF.out.trans hxy)
      clear hbx hby hxy
      by_cases htn : ta = tb
      · subst htn
        have hRv := Lib.hid (show R = ss by rw [HR.out, if_neg (by simp), if_neg h0, if_neg (by simp)])
        have hte : (ta != ta) = false := by simp
        go_wp2_with fail
        go_region_held3 (fun w' => w'.cell? ⟨w.heap.size, 0, none⟩ = some (.bool s) ∧ w'.cell? ⟨w.heap.size, 1, none⟩ = some (.slice A L.length c) ∧ w'.cell? ⟨w.heap.size, 2, none⟩ = some (.int .i64 e) ∧ w'.cell? ⟨w.heap.size + 1, 0, none⟩ = some (.bool t) ∧ w'.cell? ⟨w.heap.size + 1, 1, none⟩ = some (.slice B M.length d) ∧ w'.cell? ⟨w.heap.size + 1, 2, none⟩ = some (.int .i64 f))
        (first
          | exact ⟨dx1.c0, dx1.c1, dx1.c2, dx2.c0, dx2.c1, dx2.c2⟩
          | exact ⟨(dx1.ext hbn).c0, (dx1.ext hbn).c1, (dx1.ext hbn).c2, (dx2.ext hbn).c0, (dx2.ext hbn).c1, (dx2.ext hbn).c2⟩
          | exact ⟨(dx1.ext (hbn.trans hbm)).c0, (dx1.ext (hbn.trans hbm)).c1, (dx1.ext (hbn.trans hbm)).c2, (dx2.ext (hbn.trans hbm)).c0, (dx2.ext (hbn.trans hbm)).c1, (dx2.ext (hbn.trans hbm)).c2⟩
          | exact ⟨(dx1.ext (hbn.trans (hbm.trans hbq))).c0, (dx1.ext (hbn.trans (hbm.trans hbq))).c1, (dx1.ext (hbn.trans (hbm.trans hbq))).c2, (dx2.ext (hbn.trans (hbm.trans hbq))).c0, (dx2.ext (hbn.trans (hbm.trans hbq))).c1, (dx2.ext (hbn.trans (hbm.trans hbq))).c2⟩)
        (first
          | (go_at_call 42
             refine (HN.out _ hr3).mono ?_
             rintro r wn ⟨Bn, dn, rfl, hsn, hbn⟩)
          | (go_at_call 41
             refine (HS3.out _ _ _ (hs3.below hbn) hsn).mono ?_
             rintro r wm ⟨Am, cm, rfl, hsm, hbm⟩)
          | (go_at_call 21
             refine (HSS2.out _ _ _ hsm).mono ?_
             rintro r wq ⟨rfl, hbq⟩))
        go_wp2
        go_ret
        exact ⟨ret_int hRv.out.symm, HG.out.trans (hbn.trans (hbm.trans hbq))⟩
      · have hte : (ta != tb) = true := by simpa using htn
        have hRv := Lib.hid (show R = if (ta < tb) = (0 < sa) then -1 else 1 by rw [HR.out, if_neg (by simp), if_neg h0, if_pos htn])
        by_cases ha : ta < tb
        · have d1 : decide (ta < tb) = true := decide_eq_true ha
          by_cases hb0 : 0 < sa
          · have d2 : decide (0 < sa) = true := decide_eq_true hb0
            have hR2 := Lib.hid (show R = -1 by rw [hRv.out]; simp [ha, hb0])
            go_wp2_with fail
            go_region_held3 (fun w' => w'.cell? ⟨w.heap.size, 0, none⟩ = some (.bool s) ∧ w'.cell? ⟨w.heap.size, 1, none⟩ = some (.slice A L.length c) ∧ w'.cell? ⟨w.heap.size, 2, none⟩ = some (.int .i64 e) ∧ w'.cell? ⟨w.heap.size + 1, 0, none⟩ = some (.bool t) ∧ w'.cell? ⟨w.heap.size + 1, 1, none⟩ = some (.slice B M.length d) ∧ w'.cell? ⟨w.heap.size + 1, 2, none⟩ = some (.int .i64 f))
              (first
                | exact ⟨dx1.c0, dx1.c1, dx1.c2, dx2.c0, dx2.c1, dx2.c2⟩
                | exact ⟨(dx1.ext hbx).c0, (dx1.ext hbx).c1, (dx1.ext hbx).c2, (dx2.ext hbx).c0, (dx2.ext hbx).c1, (dx2.ext hbx).c2⟩
                | exact ⟨(dx1.ext hby).c0, (dx1.ext hby).c1, (dx1.ext hby).c2, (dx2.ext hby).c0, (dx2.ext hby).c1, (dx2.ext hby).c2⟩
                | exact ⟨(dx1.ext (hbx.trans hby)).c0, (dx1.ext (hbx.trans hby)).c1, (dx1.ext (hbx.trans hby)).c2, (dx2.ext (hbx.trans hby)).c0, (dx2.ext (hbx.trans hby)).c1, (dx2.ext (hbx.trans hby)).c2⟩
                | exact ⟨(dx1.ext (hby.trans hbx)).c0, (dx1.ext (hby.trans hbx)).c1, (dx1.ext (hby.trans hbx)).c2, (dx2.ext (hby.trans hbx)).c0, (dx2.ext (hby.trans hbx)).c1, (dx2.ext (hby.trans hbx)).c2⟩)
              (first
                | (go_at_call_of 22 (Value.agg #[.bool s, .slice A L.length c, .int .i64 e])
                   refine (HTa.out _ ?_).mono ?_
                   (first | exact hs3 | exact hs3.below hby)
                   rintro r wx ⟨rfl, hbx⟩)
                | (go_at_call_of 22 (Value.agg #[.bool t, .slice B M.length d, .int .i64 f])
                   refine (HTb.out _ ?_).mono ?_
                   (first | exact hr3 | exact hr3.below hbx)
                   rintro r wy ⟨rfl, hby⟩))
            first
              | (have hxy := hbx.trans hby)
              | (have hxy := hby.trans hbx)
            have ex1 := (dx1.ext hxy).drew
            have ex2 := (dx2.ext hxy).drew
            have hs4 := (hs3.below hxy).drew
            have hr4 := (hr3.below hxy).drew
            have HH := Lib.hid ((HG.out.trans hxy).trans (Ext.drew _))
            have HHr := Lib.hid (HG.out.trans hxy)
            clear hbx hby hxy
            go_wp2
            go_ret
            exact ⟨ret_int hR2.out.symm, HHr.out⟩
          · have d2 : decide (0 < sa) = false := decide_eq_false hb0
            have hR2 := Lib.hid (show R = 1 by rw [hRv.out]; simp [ha, hb0])
            go_wp2_with fail
            go_region_held3 (fun w' => w'.cell? ⟨w.heap.size, 0, none⟩ = some (.bool s) ∧ w'.cell? ⟨w.heap.size, 1, none⟩ = some (.slice A L.length c) ∧ w'.cell? ⟨w.heap.size, 2, none⟩ = some (.int .i64 e) ∧ w'.cell? ⟨w.heap.size + 1, 0, none⟩ = some (.bool t) ∧ w'.cell? ⟨w.heap.size + 1, 1, none⟩ = some (.slice B M.length d) ∧ w'.cell? ⟨w.heap.size + 1, 2, none⟩ = some (.int .i64 f))
              (first
                | exact ⟨dx1.c0, dx1.c1, dx1.c2, dx2.c0, dx2.c1, dx2.c2⟩
                | exact ⟨(dx1.ext hbx).c0, (dx1.ext hbx).c1, (dx1.ext hbx).c2, (dx2.ext hbx).c0, (dx2.ext hbx).c1, (dx2.ext hbx).c2⟩
                | exact ⟨(dx1.ext hby).c0, (dx1.ext hby).c1, (dx1.ext hby).c2, (dx2.ext hby).c0, (dx2.ext hby).c1, (dx2.ext hby).c2⟩
                | exact ⟨(dx1.ext (hbx.trans hby)).c0, (dx1.ext (hbx.trans hby)).c1, (dx1.ext (hbx.trans hby)).c2, (dx2.ext (hbx.trans hby)).c0, (dx2.ext (hbx.trans hby)).c1, (dx2.ext (hbx.trans hby)).c2⟩
                | exact ⟨(dx1.ext (hby.trans hbx)).c0, (dx1.ext (hby.trans hbx)).c1, (dx1.ext (hby.trans hbx)).c2, (dx2.ext (hby.trans hbx)).c0, (dx2.ext (hby.trans hbx)).c1, (dx2.ext (hby.trans hbx)).c2⟩)
              (first
                | (go_at_call_of 22 (Value.agg #[.bool s, .slice A L.length c, .int .i64 e])
                   refine (HTa.out _ ?_).mono ?_
                   (first | exact hs3 | exact hs3.below hby)
                   rintro r wx ⟨rfl, hbx⟩)
                | (go_at_call_of 22 (Value.agg #[.bool t, .slice B M.length d, .int .i64 f])
                   refine (HTb.out _ ?_).mono ?_
                   (first | exact hr3 | exact hr3.below hbx)
                   rintro r wy ⟨rfl, hby⟩))
            first
              | (have hxy := hbx.trans hby)
              | (have hxy := hby.trans hbx)
            have ex1 := (dx1.ext hxy).drew
            have ex2 := (dx2.ext hxy).drew
            have hs4 := (hs3.below hxy).drew
            have hr4 := (hr3.below hxy).drew
            have HH := Lib.hid ((HG.out.trans hxy).trans (Ext.drew _))
            have HHr := Lib.hid (HG.out.trans hxy)
            clear hbx hby hxy
            go_wp2
            go_ret
            exact ⟨ret_int hR2.out.symm, HHr.out⟩
        · have d1 : decide (ta < tb) = false := decide_eq_false ha
          by_cases hb0 : 0 < sa
          · have d2 : decide (0 < sa) = true := decide_eq_true hb0
            have hR2 := Lib.hid (show R = 1 by rw [hRv.out]; simp [ha, hb0])
            go_wp2_with fail
            go_region_held3 (fun w' => w'.cell? ⟨w.heap.size, 0, none⟩ = some (.bool s) ∧ w'.cell? ⟨w.heap.size, 1, none⟩ = some (.slice A L.length c) ∧ w'.cell? ⟨w.heap.size, 2, none⟩ = some (.int .i64 e) ∧ w'.cell? ⟨w.heap.size + 1, 0, none⟩ = some (.bool t) ∧ w'.cell? ⟨w.heap.size + 1, 1, none⟩ = some (.slice B M.length d) ∧ w'.cell? ⟨w.heap.size + 1, 2, none⟩ = some (.int .i64 f))
              (first
                | exact ⟨dx1.c0, dx1.c1, dx1.c2, dx2.c0, dx2.c1, dx2.c2⟩
                | exact ⟨(dx1.ext hbx).c0, (dx1.ext hbx).c1, (dx1.ext hbx).c2, (dx2.ext hbx).c0, (dx2.ext hbx).c1, (dx2.ext hbx).c2⟩
                | exact ⟨(dx1.ext hby).c0, (dx1.ext hby).c1, (dx1.ext hby).c2, (dx2.ext hby).c0, (dx2.ext hby).c1, (dx2.ext hby).c2⟩
                | exact ⟨(dx1.ext (hbx.trans hby)).c0, (dx1.ext (hbx.trans hby)).c1, (dx1.ext (hbx.trans hby)).c2, (dx2.ext (hbx.trans hby)).c0, (dx2.ext (hbx.trans hby)).c1, (dx2.ext (hbx.trans hby)).c2⟩
                | exact ⟨(dx1.ext (hby.trans hbx)).c0, (dx1.ext (hby.trans hbx)).c1, (dx1.ext (hby.trans hbx)).c2, (dx2.ext (hby.trans hbx)).c0, (dx2.ext (hby.trans hbx)).c1, (dx2.ext (hby.trans hbx)).c2⟩)
              (first
                | (go_at_call_of 22 (Value.agg #[.bool s, .slice A L.length c, .int .i64 e])
                   refine (HTa.out _ ?_).mono ?_
                   (first | exact hs3 | exact hs3.below hby)
                   rintro r wx ⟨rfl, hbx⟩)
                | (go_at_call_of 22 (Value.agg #[.bool t, .slice B M.length d, .int .i64 f])
                   refine (HTb.out _ ?_).mono ?_
                   (first | exact hr3 | exact hr3.below hbx)
                   rintro r wy ⟨rfl, hby⟩))
            first
              | (have hxy := hbx.trans hby)
              | (have hxy := hby.trans hbx)
            have ex1 := (dx1.ext hxy).drew
            have ex2 := (dx2.ext hxy).drew
            have hs4 := (hs3.below hxy).drew
            have hr4 := (hr3.below hxy).drew
            have HH := Lib.hid ((HG.out.trans hxy).trans (Ext.drew _))
            have HHr := Lib.hid (HG.out.trans hxy)
            clear hbx hby hxy
            go_wp2
            go_ret
            exact ⟨ret_int hR2.out.symm, HHr.out⟩
          · have d2 : decide (0 < sa) = false := decide_eq_false hb0
            have hR2 := Lib.hid (show R = -1 by rw [hRv.out]; simp [ha, hb0])
            go_wp2_with fail
            go_region_held3 (fun w' => w'.cell? ⟨w.heap.size, 0, none⟩ = some (.bool s) ∧ w'.cell? ⟨w.heap.size, 1, none⟩ = some (.slice A L.length c) ∧ w'.cell? ⟨w.heap.size, 2, none⟩ = some (.int .i64 e) ∧ w'.cell? ⟨w.heap.size + 1, 0, none⟩ = some (.bool t) ∧ w'.cell? ⟨w.heap.size + 1, 1, none⟩ = some (.slice B M.length d) ∧ w'.cell? ⟨w.heap.size + 1, 2, none⟩ = some (.int .i64 f))
              (first
                | exact ⟨dx1.c0, dx1.c1, dx1.c2, dx2.c0, dx2.c1, dx2.c2⟩
                | exact ⟨(dx1.ext hbx).c0, (dx1.ext hbx).c1, (dx1.ext hbx).c2, (dx2.ext hbx).c0, (dx2.ext hbx).c1, (dx2.ext hbx).c2⟩
                | exact ⟨(dx1.ext hby).c0, (dx1.ext hby).c1, (dx1.ext hby).c2, (dx2.ext hby).c0, (dx2.ext hby).c1, (dx2.ext hby).c2⟩
                | exact ⟨(dx1.ext (hbx.trans hby)).c0, (dx1.ext (hbx.trans hby)).c1, (dx1.ext (hbx.trans hby)).c2, (dx2.ext (hbx.trans hby)).c0, (dx2.ext (hbx.trans hby)).c1, (dx2.ext (hbx.trans hby)).c2⟩
                | exact ⟨(dx1.ext (hby.trans hbx)).c0, (dx1.ext (hby.trans hbx)).c1, (dx1.ext (hby.trans hbx)).c2, (dx2.ext (hby.trans hbx)).c0, (dx2.ext (hby.trans hbx)).c1, (dx2.ext (hby.trans hbx)).c2⟩)
              (first
                | (go_at_call_of 22 (Value.agg #[.bool s, .slice A L.length c, .int .i64 e])
                   refine (HTa.out _ ?_).mono ?_
                   (first | exact hs3 | exact hs3.below hby)
                   rintro r wx ⟨rfl, hbx⟩)
                | (go_at_call_of 22 (Value.agg #[.bool t, .slice B M.length d, .int .i64 f])
                   refine (HTb.out _ ?_).mono ?_
                   (first | exact hr3 | exact hr3.below hbx)
                   rintro r wy ⟨rfl, hby⟩))
            first
              | (have hxy := hbx.trans hby)
              | (have hxy := hby.trans hbx)
            have ex1 := (dx1.ext hxy).drew
            have ex2 := (dx2.ext hxy).drew
            have hs4 := (hs3.below hxy).drew
            have hr4 := (hr3.below hxy).drew
            have HH := Lib.hid ((HG.out.trans hxy).trans (Ext.drew _))
            have HHr := Lib.hid (HG.out.trans hxy)
            clear hbx hby hxy
            go_wp2
            go_ret
            exact ⟨ret_int hR2.out.symm, HHr.out⟩
  · have hne : (sa != sb) = true := by simpa using hsn
    by_cases hlt : sa < sb
    · have hRv := Lib.hid (show R = -1 by rw [HR.out, if_pos hsn, if_pos hlt])
      go_wp2
      go_ret
      exact ⟨ret_int hRv.out.symm, HFr.out⟩
    · have hRv := Lib.hid (show R = 1 by rw [HR.out, if_pos hsn, if_neg hlt])
      go_wp2
      go_ret
      exact ⟨ret_int hRv.out.symm, HFr.out⟩
end Go.Proofs.YtofdlkgpgcnjhaaDoor
