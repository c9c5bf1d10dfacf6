/- Walks: the law on configurations. -/
import Derived.Test.YtofdlkgpgcnjhaaDoorLl
import Derived.Test.YtofdlkgpgcnjhaaDoorRh
namespace Go.Proofs.YtofdlkgpgcnjhaaDoor
open Go.RowKit Fp

set_option maxHeartbeats 8000000 in
theorem lawConfigs_any (me o p : Int) (s : Bool) (A : Option Addr) (c : Nat) (L : List Nat) (e t mo : Int) (w : World) (hs : Sl w A c L) (he1 : -9223372036854775808 ≤ e) (he2 : e ≤ 9223372036854775807) (hTb : Tb w) :
    Calls Tryd.prog 3 #[.agg #[.int .i64 me, .int .i64 o, .int .i64 p, .bool s, .slice A L.length c, .int .i64 e, .int .i64 t, .int .i64 mo]] w fun r w' => r = .returned (.bool true) ∧ Ext w w' := by
  have HA := Lib.hid (fun w (h : Tb w) => awake_any w h)
  have HL := Lib.hid (fun w => lawLong_any s A L.length c e w)
  have hE := Ext.alloc w (.cells #[.int .i64 me, .int .i64 o, .int .i64 p, .bool s, .slice A L.length c, .int .i64 e, .int .i64 t, .int .i64 mo] 26)
  have bx := (Box8.new w me o p s A L.length c e t mo)
  by_cases hlong : 300 < L.length
  · have d0 : decide (300 < L.length) = true := decide_eq_true hlong
    rw [d0] at HL
    clear hlong
    go_enter Tryd.func3, Tryd.ntmps3
    go_wp2_with fail
    refine (HA.out _ (hTb.below hE)).mono ?_
    rintro r w1 ⟨rfl, hb1⟩
    have bx := bx.ext hb1; have hE := hE.trans hb1; clear hb1
    have b3 := bx.c3; have b4 := bx.c4; have b5 := bx.c5
    go_wp2_with fail
    refine (HL.out _).mono ?_
    rintro r w2 ⟨rfl, hb1⟩
    have hE := hE.trans hb1; clear hb1
    go_wp2_with fail
    refine (HA.out _ (hTb.below hE)).mono ?_
    rintro r w3 ⟨rfl, hb1⟩
    go_wp2
    go_ret
    exact ⟨rfl, hE.trans hb1⟩
  · have d0 : decide (300 < L.length) = false := decide_eq_false hlong
    rw [d0] at HL
    clear hlong
    by_cases hc : CfgOk me o p s L e t mo
    · have HO := Lib.hid (fun w (h : Sl w A c L) => cfgOrder_yes me o p s A c L e t mo w h hc)
      have HR := Lib.hid (fun w (h : Sl w A c L) => refCfgValid_any me o p s A c L e t mo w true h he1 he2 (by simp [hc]))
      have HV := Lib.hid (fun w (h : Sl w A c L) => cfgValid_any me o p s A c L e t mo w true h he1 he2 (by simp [hc]))
      obtain ⟨_, ⟨o1, o2⟩, _, ⟨t1, t2⟩, _⟩ := hc
      have HP := Lib.hid (fun w => refOrder_any me o p s A L.length c e t mo w t1 t2)
      have hm1 : 1 ≤ min o (2 + t.tdiv 4) := by rw [Int.tdiv_eq_ediv_of_nonneg t1]; omega
      have hm2 : min o (2 + t.tdiv 4) ≤ o := by omega
      generalize min o (2 + t.tdiv 4) = k at *
      have d1 : decide (1 ≤ k) = true := decide_eq_true hm1
      have d2 : decide (k ≤ o) = true := decide_eq_true hm2
      clear o1 o2 t1 t2 hm1 hm2
      go_enter Tryd.func3, Tryd.ntmps3
      go_wp2_with fail
      refine (HA.out _ (hTb.below hE)).mono ?_
      rintro r w1 ⟨rfl, hb1⟩
      have bx := bx.ext hb1; have hE := hE.trans hb1; clear hb1
      have b3 := bx.c3; have b4 := bx.c4; have b5 := bx.c5
      go_wp2_with fail
      refine (HL.out _).mono ?_
      rintro r w2 ⟨rfl, hb1⟩
      have bx := bx.ext hb1; have hE := hE.trans hb1; clear hb1 b3 b4 b5
      have b0 := bx.c0; have b1 := bx.c1; have b2 := bx.c2; have b3 := bx.c3; have b4 := bx.c4; have b5 := bx.c5; have b6 := bx.c6; have b7 := bx.c7
      go_wp2_with fail
      refine (HO.out _ (hs.below hE)).mono ?_
      rintro r w3 ⟨rfl, hb1⟩
      clear b0 b1 b2 b3 b4 b5 b6 b7
      have bx := bx.ext hb1; have hE := hE.trans hb1; clear hb1
      have b0 := bx.c0; have b1 := bx.c1; have b2 := bx.c2; have b3 := bx.c3; have b4 := bx.c4; have b5 := bx.c5; have b6 := bx.c6; have b7 := bx.c7
      go_wp2_with fail
      refine (HR.out _ (hs.below hE)).mono ?_
      rintro r w4 ⟨rfl, hb1⟩
      clear b0 b1 b2 b3 b4 b5 b6 b7
      have bx := bx.ext hb1; have hE := hE.trans hb1; clear hb1
      have b0 := bx.c0; have b1 := bx.c1; have b2 := bx.c2; have b3 := bx.c3; have b4 := bx.c4; have b5 := bx.c5; have b6 := bx.c6; have b7 := bx.c7
      go_wp2_with fail
      refine (HV.out _ (hs.below hE)).mono ?_
      rintro r w5 ⟨rfl, hb1⟩
      clear b0 b1 b2 b3 b4 b5 b6 b7
      have bx := bx.ext hb1; have hE := hE.trans hb1; clear hb1
      have b0 := bx.c0; have b1 := bx.c1; have b2 := bx.c2; have b3 := bx.c3; have b4 := bx.c4; have b5 := bx.c5; have b6 := bx.c6; have b7 := bx.c7
      go_wp2_with fail
      refine (HP.out _).mono ?_
      rintro r w6 ⟨rfl, hb1⟩
      clear b0 b1 b2 b3 b4 b5 b6 b7
      have bx := bx.ext hb1; have hE := hE.trans hb1; clear hb1
      have b1 := bx.c1
      go_wp2
      go_ret
      exact ⟨rfl, hE⟩
    · have HO := Lib.hid (fun w (h : Sl w A c L) => cfgOrder_no me o p s A c L e t mo w h he1 he2 hc)
      have HR := Lib.hid (fun w (h : Sl w A c L) => refCfgValid_any me o p s A c L e t mo w false h he1 he2 (by simp [hc]))
      have HV := Lib.hid (fun w (h : Sl w A c L) => cfgValid_any me o p s A c L e t mo w false h he1 he2 (by simp [hc]))
      clear hc
      go_enter Tryd.func3, Tryd.ntmps3
      go_wp2_with fail
      refine (HA.out _ (hTb.below hE)).mono ?_
      rintro r w1 ⟨rfl, hb1⟩
      have bx := bx.ext hb1; have hE := hE.trans hb1; clear hb1
      have b3 := bx.c3; have b4 := bx.c4; have b5 := bx.c5
      go_wp2_with fail
      refine (HL.out _).mono ?_
      rintro r w2 ⟨rfl, hb1⟩
      have bx := bx.ext hb1; have hE := hE.trans hb1; clear hb1 b3 b4 b5
      have b0 := bx.c0; have b1 := bx.c1; have b2 := bx.c2; have b3 := bx.c3; have b4 := bx.c4; have b5 := bx.c5; have b6 := bx.c6; have b7 := bx.c7
      go_wp2_with fail
      refine (HO.out _ (hs.below hE)).mono ?_
      rintro r w3 ⟨rfl, hb1⟩
      clear b0 b1 b2 b3 b4 b5 b6 b7
      have bx := bx.ext hb1; have hE := hE.trans hb1; clear hb1
      have b0 := bx.c0; have b1 := bx.c1; have b2 := bx.c2; have b3 := bx.c3; have b4 := bx.c4; have b5 := bx.c5; have b6 := bx.c6; have b7 := bx.c7
      go_wp2_with fail
      refine (HR.out _ (hs.below hE)).mono ?_
      rintro r w4 ⟨rfl, hb1⟩
      clear b0 b1 b2 b3 b4 b5 b6 b7
      have bx := bx.ext hb1; have hE := hE.trans hb1; clear hb1
      have b0 := bx.c0; have b1 := bx.c1; have b2 := bx.c2; have b3 := bx.c3; have b4 := bx.c4; have b5 := bx.c5; have b6 := bx.c6; have b7 := bx.c7
      go_wp2_with fail
      refine (HV.out _ (hs.below hE)).mono ?_
      rintro r w5 ⟨rfl, hb1⟩
      go_wp2
      go_ret
      exact ⟨rfl, hE.trans hb1⟩
end Go.Proofs.YtofdlkgpgcnjhaaDoor
