/- Walks: how the program compares. -/
import Derived.Test.YtofdlkgpgcnjhaaDoorWm
import Derived.Test.YtofdlkgpgcnjhaaDoorNum
namespace Go.Proofs.YtofdlkgpgcnjhaaDoor
open Go.RowKit Fp

theorem shifted_int (A : Option Addr) (c : Nat) (M : List Nat) (n : Int) (w : World) (hs2 : Sl w A c M) (hlen : M.length ≤ 256) (h0 : 0 ≤ n) (hn : n ≤ 65536) (hfit : (limbs (val M * 2 ^ n.toNat)).length ≤ 256) :
    Calls Tryd.prog 63 #[.slice A M.length c, .int .i64 n] w (RetL w (limbs (val M * 2 ^ n.toNat))) := by
  obtain ⟨k, rfl⟩ := Int.eq_ofNat_of_zero_le h0
  exact shifted_any A c M k w hs2 hlen (by omega) hfit

set_option maxHeartbeats 8000000 in
theorem dyCompare_any (s : Bool) (A : Option Addr) (c : Nat) (L : List Nat) (e : Int) (t : Bool) (B : Option Addr) (d : Nat) (M : List Nat) (f : Int) (w : World)
    (hs : Sl w A c L) (hr : Sl w B d M) (da : Dok s L e) (db : Dok t M f) (hL0 : val L ≠ 0) (hM0 : val M ≠ 0) :
    Calls Tryd.prog 40 #[.agg #[.bool s, .slice A L.length c, .int .i64 e], .agg #[.bool t, .slice B M.length d, .int .i64 f]] w fun r w' => r = .returned (.int .i64 (cmpMag ⟨s, val L, e⟩ ⟨t, val M, f⟩)) ∧ Ext w w' := by
  obtain ⟨he1, he2⟩ := da.exp
  obtain ⟨hf1, hf2⟩ := db.exp
  have hl := da.len
  have hm := db.len
  have hE : Ext w ((w.alloc (.cells #[.bool s, .slice A L.length c, .int .i64 e] 24)).alloc (.cells #[.bool t, .slice B M.length d, .int .i64 f] 24)) := (Ext.alloc _ _).trans (Ext.alloc _ _)
  have bx1 := ((Box3.new w s A L.length c e).alloc (.cells #[.bool t, .slice B M.length d, .int .i64 f] 24)).drew
  have bx2 := (Box3.newAt (W := w.alloc (.cells #[.bool s, .slice A L.length c, .int .i64 e] 24)) (g := w.heap.size + 1) (by simp) t B M.length d f).drew
  have hsW := (hs.below hE).drew
  have hrW := (hr.below hE).drew
  have HE := Lib.hid (hE.trans (Ext.drew _))
  clear hE
  have HTa := Lib.hid (fun w (h : Sl w A c L) => dyTop_any s A c L e w h da)
  have HTb := Lib.hid (fun w (h : Sl w B d M) => dyTop_any t B d M f w h db)
  have Hlt := Lib.hid (fun h => cmpMag_top_lt (a := ⟨s, val L, e⟩) (b := ⟨t, val M, f⟩) hL0 hM0 h)
  have Hgt := Lib.hid (fun h => cmpMag_top_gt (a := ⟨s, val L, e⟩) (b := ⟨t, val M, f⟩) hL0 hM0 h)
  have Hta := Lib.hid (show Dy.top ⟨s, val L, e⟩ = bitsN (val L) + e by unfold Dy.top; rw [if_neg hL0])
  have Htb := Lib.hid (show Dy.top ⟨t, val M, f⟩ = bitsN (val M) + f by unfold Dy.top; rw [if_neg hM0])
  obtain ⟨k, hk⟩ : ∃ k, min e f = k := ⟨_, rfl⟩
  have hke : k ≤ e := by omega
  have hkf : k ≤ f := by omega
  have hk1 : -17000 ≤ k := by omega
  have hkk := Lib.hid (show k = e ∨ k = f by omega)
  have hwe : IntKind.i64.wrap (e - k) = e - k := i64_in _ (by omega) (by omega)
  have hwf : IntKind.i64.wrap (f - k) = f - k := i64_in _ (by omega) (by omega)
  have HM := Lib.hid (show cmpMag ⟨s, val L, e⟩ ⟨t, val M, f⟩ = cmpN (val L * 2 ^ (e - k).toNat) (val M * 2 ^ (f - k).toNat) by unfold cmpMag; simp only [hk]; rfl)
  have Hfa := Lib.hid (show bitsN (val L) + e = bitsN (val M) + f → bitsN (val L * 2 ^ (e - k).toNat) ≤ 4096 from fun h => by
    rw [bitsN_mul_pow hL0]; have := da.bits; have := db.bits; have := hkk.out; omega)
  have Hfb := Lib.hid (show bitsN (val L) + e = bitsN (val M) + f → bitsN (val M * 2 ^ (f - k).toNat) ≤ 4096 from fun h => by
    rw [bitsN_mul_pow hM0]; have := da.bits; have := db.bits; have := hkk.out; omega)
  have HXa := Lib.hid (fun w (h : Sl w A c L) hfit => shifted_int A c L (e - k) w h hl (by omega) (by omega) hfit)
  have HXb := Lib.hid (fun w (h : Sl w B d M) hfit => shifted_int B d M (f - k) w h hm (by omega) (by omega) hfit)
  generalize Dy.top ⟨s, val L, e⟩ = ta at *
  generalize Dy.top ⟨t, val M, f⟩ = tb at *
  generalize cmpMag ⟨s, val L, e⟩ ⟨t, val M, f⟩ = R at *
  generalize val L * 2 ^ (e - k).toNat = x at *
  generalize val M * 2 ^ (f - k).toNat = y at *
  have HC := Lib.hid (fun A B c d w (h : Sl w A c (limbs x)) (k : Sl w B d (limbs y)) hx hy => natCmp_any A B c d (limbs x) (limbs y) w h k hx hy)
  rw [val_limbs, val_limbs] at HC
  clear hL0 hM0 da db hl hm
  go_enter Tryd.func40, Tryd.ntmps40
  go_wp2_with fail
  go_region_held3 (fun w' => w'.cell? ⟨w.heap.size, 0, none⟩ = some (.bool s) ∧ w'.cell? ⟨w.heap.size, 1, none⟩ = some (.slice A L.length c) ∧ w'.cell? ⟨w.heap.size, 2, none⟩ = some (.int .i64 e) ∧ w'.cell? ⟨w.heap.size + 1, 0, none⟩ = some (.bool t) ∧ w'.cell? ⟨w.heap.size + 1, 1, none⟩ = some (.slice B M.length d) ∧ w'.cell? ⟨w.heap.size + 1, 2, none⟩ = some (.int .i64 f))
    (first
      | exact ⟨bx1.c0, bx1.c1, bx1.c2, bx2.c0, bx2.c1, bx2.c2⟩
      | exact ⟨(bx1.ext hbx).c0, (bx1.ext hbx).c1, (bx1.ext hbx).c2, (bx2.ext hbx).c0, (bx2.ext hbx).c1, (bx2.ext hbx).c2⟩
      | exact ⟨(bx1.ext hby).c0, (bx1.ext hby).c1, (bx1.ext hby).c2, (bx2.ext hby).c0, (bx2.ext hby).c1, (bx2.ext hby).c2⟩
      | exact ⟨(bx1.ext (hbx.trans hby)).c0, (bx1.ext (hbx.trans hby)).c1, (bx1.ext (hbx.trans hby)).c2, (bx2.ext (hbx.trans hby)).c0, (bx2.ext (hbx.trans hby)).c1, (bx2.ext (hbx.trans hby)).c2⟩
      | exact ⟨(bx1.ext (hby.trans hbx)).c0, (bx1.ext (hby.trans hbx)).c1, (bx1.ext (hby.trans hbx)).c2, (bx2.ext (hby.trans hbx)).c0, (bx2.ext (hby.trans hbx)).c1, (bx2.ext (hby.trans hbx)).c2⟩
      | exact ⟨(bx1.ext ((hbx.trans hby).trans hbz)).c0, (bx1.ext ((hbx.trans hby).trans hbz)).c1, (bx1.ext ((hbx.trans hby).trans hbz)).c2, (bx2.ext ((hbx.trans hby).trans hbz)).c0, (bx2.ext ((hbx.trans hby).trans hbz)).c1, (bx2.ext ((hbx.trans hby).trans hbz)).c2⟩
      | exact ⟨(bx1.ext ((hby.trans hbx).trans hbz)).c0, (bx1.ext ((hby.trans hbx).trans hbz)).c1, (bx1.ext ((hby.trans hbx).trans hbz)).c2, (bx2.ext ((hby.trans hbx).trans hbz)).c0, (bx2.ext ((hby.trans hbx).trans hbz)).c1, (bx2.ext ((hby.trans hbx).trans hbz)).c2⟩)
    (first
      | (go_at_call_of 61 (Value.agg #[.bool s, .slice A L.length c, .int .i64 e])
         refine (HTa.out _ ?_).mono ?_
         (first | exact hsW | exact hsW.below hby)
         rintro r wx ⟨rfl, hbx⟩)
      | (go_at_call_of 61 (Value.agg #[.bool t, .slice B M.length d, .int .i64 f])
         refine (HTb.out _ ?_).mono ?_
         (first | exact hrW | exact hrW.below hbx)
         rintro r wy ⟨rfl, hby⟩))
  first
    | (have hxy := hbx.trans hby)
    | (have hxy := hby.trans hbx)
  have cx1 := (bx1.ext hxy).drew
  have cx2 := (bx2.ext hxy).drew
  have hs2 := (hsW.below hxy).drew
  have hr2 := (hrW.below hxy).drew
  have cx1n := (bx1.ext hxy)
  have cx2n := (bx2.ext hxy)
  have HF := Lib.hid ((HE.out.trans hxy).trans (Ext.drew _))
  have HFr := Lib.hid (HE.out.trans hxy)
  clear hbx hby hxy
  by_cases h1 : ta < tb
  · have hR := Lib.hid (Hlt.out h1)
    go_wp2
    go_ret
    exact ⟨ret_int hR.out.symm, HFr.out⟩
  · by_cases h2 : tb < ta
    · have hR := Lib.hid (Hgt.out h2)
      go_wp2
      go_ret
      exact ⟨ret_int hR.out.symm, HFr.out⟩
    · have hte : (bitsN (val L) : Int) + e = bitsN (val M) + f := by rw [← Hta.out, ← Htb.out]; omega
      have hfa := limbs_len_of_bits (k := 128) (Hfa.out hte)
      have hfb := limbs_len_of_bits (k := 128) (Hfb.out hte)
      have HXa2 := Lib.hid (fun w h => HXa.out w h (by omega))
      have HXb2 := Lib.hid (fun w h => HXb.out w h (by omega))
      have HC2 := Lib.hid (fun A B c d w h k => HC.out A B c d w h k (by omega) (by omega))
      have b0 := cx1n.c0
      have b1 := cx1n.c1
      have b2 := cx1n.c2
      have d0 := cx2n.c0
      have d1 := cx2n.c1
      have d2 := cx2n.c2
      clear hte hfa hfb
      go_wp2_with fail
      go_region_held3 (fun w' => w'.cell? ⟨w.heap.size, 0, none⟩ = some (.bool s) ∧ w'.cell? ⟨w.heap.size, 1, none⟩ = some (.slice A L.length c) ∧ w'.cell? ⟨w.heap.size, 2, none⟩ = some (.int .i64 e) ∧ w'.cell? ⟨w.heap.size + 1, 0, none⟩ = some (.bool t) ∧ w'.cell? ⟨w.heap.size + 1, 1, none⟩ = some (.slice B M.length d) ∧ w'.cell? ⟨w.heap.size + 1, 2, none⟩ = some (.int .i64 f))
        (first
          | exact ⟨cx1.c0, cx1.c1, cx1.c2, cx2.c0, cx2.c1, cx2.c2⟩
          | exact ⟨(cx1.ext hbx).c0, (cx1.ext hbx).c1, (cx1.ext hbx).c2, (cx2.ext hbx).c0, (cx2.ext hbx).c1, (cx2.ext hbx).c2⟩
          | exact ⟨(cx1.ext hby).c0, (cx1.ext hby).c1, (cx1.ext hby).c2, (cx2.ext hby).c0, (cx2.ext hby).c1, (cx2.ext hby).c2⟩
          | exact ⟨(cx1.ext (hbx.trans hby)).c0, (cx1.ext (hbx.trans hby)).c1, (cx1.ext (hbx.trans hby)).c2, (cx2.ext (hbx.trans hby)).c0, (cx2.ext (hbx.trans hby)).c1, (cx2.ext (hbx.trans hby)).c2⟩
          | exact ⟨(cx1.ext (hby.trans hbx)).c0, (cx1.ext (hby.trans hbx)).c1, (cx1.ext (hby.trans hbx)).c2, (cx2.ext (hby.trans hbx)).c0, (cx2.ext (hby.trans hbx)).c1, (cx2.ext (hby.trans hbx)).c2⟩
          | exact ⟨(cx1.ext ((hbx.trans hby).trans hbz)).c0, (cx1.ext ((hbx.trans hby).trans hbz)).c1, (cx1.ext ((hbx.trans hby).trans hbz)).c2, (cx2.ext ((hbx.trans hby).trans hbz)).c0, (cx2.ext ((hbx.trans hby).trans hbz)).c1, (cx2.ext ((hbx.trans hby).trans hbz)).c2⟩
          | exact ⟨(cx1.ext ((hby.trans hbx).trans hbz)).c0, (cx1.ext ((hby.trans hbx).trans hbz)).c1, (cx1.ext ((hby.trans hbx).trans hbz)).c2, (cx2.ext ((hby.trans hbx).trans hbz)).c0, (cx2.ext ((hby.trans hbx).trans hbz)).c1, (cx2.ext ((hby.trans hbx).trans hbz)).c2⟩)
        (first
          | (go_at_call_of 63 (Value.slice A L.length c)
             refine (HXa2.out _ ?_).mono ?_
             (first | exact hs2 | exact hs2.below hby)
             rintro r wx ⟨Ax, cx, rfl, hsx, hbx⟩)
          | (go_at_call_of 63 (Value.slice B M.length d)
             refine (HXb2.out _ ?_).mono ?_
             (first | exact hr2 | exact hr2.below hbx)
             rintro r wy ⟨Ay, cy, rfl, hsy, hby⟩)
          | (go_at_call 62
             refine (HC2.out _ _ _ _ _ ?_ ?_).mono ?_
             (first | exact hsx.below hby | exact hsx)
             (first | exact hsy | exact hsy.below hbx)
             rintro r wz ⟨rfl, hbz⟩))
      all_goals
        go_wp2
        go_ret
        (first | exact ⟨ret_int HM.out.symm, HF.out.trans ((hbx.trans hby).trans hbz)⟩ | exact ⟨ret_int HM.out.symm, HF.out.trans ((hby.trans hbx).trans hbz)⟩)
end Go.Proofs.YtofdlkgpgcnjhaaDoor
