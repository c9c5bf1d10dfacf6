/- Walks: the greatest nice number, as the program and the reference make it: the other cases. -/
import Derived.Test.YtofdlkgpgcnjhaaDoorNa
import Derived.Test.YtofdlkgpgcnjhaaDoorWw
import Derived.Test.YtofdlkgpgcnjhaaDoorNc
namespace Go.Proofs.YtofdlkgpgcnjhaaDoor
open Go.RowKit Fp

theorem zero_retb {fn : Func} {p t : Tmp} (h : fn.results = #[.cell p 24, .tmp t]) {a : Act} {w W : World} {k : Bool} {g : Nat}
    (hp : a.tmps.getD p undef = .pointer (some ⟨g, 0, none⟩)) (ht : a.tmps.getD t undef = .bool k) (hd : a.defers = []) (hb : Box3 W g false none 0 0 0) (he : Ext w W) :
    bodyPost Tryd.prog fn (RetDB w zeroD k) .ret a W :=
  dy_retb (d := zeroD) h hp ht hd hb (by rw [show zeroD.m = 0 from rfl, limbs_zero]; rfl) (by rw [show zeroD.m = 0 from rfl, limbs_zero]; exact Sl.nil _) he

set_option maxHeartbeats 4000000 in
theorem cfgNice_no (s : Bool) (A : Option Addr) (c : Nat) (L : List Nat) (e : Int) (w : World) (hs : Sl w A c L) (he1 : -9223372036854775808 ≤ e) (he2 : e ≤ 9223372036854775807)
    (hp : ¬ (Dok s L e ∧ 0 < Dy.sign ⟨s, val L, e⟩)) :
    Calls Tryd.prog 12 #[.agg #[.bool s, .slice A L.length c, .int .i64 e]] w (RetDB w zeroD false) := by
  by_cases hd : Dok s L e
  · have hsg : ¬ 0 < Dy.sign ⟨s, val L, e⟩ := fun h => hp ⟨hd, h⟩
    have HV := Lib.hid (fun w (h : Sl w A c L) => dyValid_any s A c L e w true h he1 he2 (by simp [hd]))
    have HS := Lib.hid (fun w (h : Sl w A c L) => dySign_any s A c L e w h hd)
    generalize Dy.sign ⟨s, val L, e⟩ = sa at *
    have d1 : decide (sa ≤ 0) = true := decide_eq_true (by omega)
    clear hd hp hsg
    go_enter Tryd.func12, Tryd.ntmps12
    go_wp2_with fail
    refine (HV.out _ ((hs.alloc _).alloc _)).mono ?_
    rintro r w1 ⟨rfl, hb1⟩
    have bx1 := ((Box3.new w s A L.length c e).alloc (.cells #[.bool false, .slice none 0 0, .int .i64 0] 24)).ext hb1
    have bx2 := (Box3.newAt (W := w.alloc (.cells #[.bool s, .slice A L.length c, .int .i64 e] 24)) (g := w.heap.size + 1) (by simp) false none 0 0 0).ext hb1
    have b0 := bx1.c0; have b1 := bx1.c1; have b2 := bx1.c2
    have hE := (((Ext.alloc w (.cells #[.bool s, .slice A L.length c, .int .i64 e] 24)).trans (Ext.alloc _ (.cells #[.bool false, .slice none 0 0, .int .i64 0] 24))).trans hb1)
    go_wp2_with fail
    refine (HS.out _ (hs.below hE)).mono ?_
    rintro r w2 ⟨rfl, hb2⟩
    have bz := bx2.ext hb2
    have z0 := bz.c0; have z1 := bz.c1; have z2 := bz.c2; have f0 := bz.fr 0; have f1 := bz.fr 1; have f2 := bz.fr 2
    go_wp2
    exact zero_retb rfl rfl rfl rfl (bz.set _ _ _ _ _) (Box3.set_ext (hE.trans hb2) (by omega) _ _ _ _ _)
  · have HV := Lib.hid (fun w (h : Sl w A c L) => dyValid_any s A c L e w false h he1 he2 (by simp [hd]))
    clear hd hp
    go_enter Tryd.func12, Tryd.ntmps12
    go_wp2_with fail
    refine (HV.out _ ((hs.alloc _).alloc _)).mono ?_
    rintro r w1 ⟨rfl, hb1⟩
    have bz := (Box3.newAt (W := w.alloc (.cells #[.bool s, .slice A L.length c, .int .i64 e] 24)) (g := w.heap.size + 1) (by simp) false none 0 0 0).ext hb1
    have hE := (((Ext.alloc w (.cells #[.bool s, .slice A L.length c, .int .i64 e] 24)).trans (Ext.alloc _ (.cells #[.bool false, .slice none 0 0, .int .i64 0] 24))).trans hb1)
    have z0 := bz.c0; have z1 := bz.c1; have z2 := bz.c2; have f0 := bz.fr 0; have f1 := bz.fr 1; have f2 := bz.fr 2
    go_wp2
    exact zero_retb rfl rfl rfl rfl (bz.set _ _ _ _ _) (Box3.set_ext hE (by omega) _ _ _ _ _)

set_option maxHeartbeats 4000000 in
theorem refNice_no (s : Bool) (A : Option Addr) (c : Nat) (L : List Nat) (e : Int) (w : World) (hs : Sl w A c L) (he1 : -9223372036854775808 ≤ e) (he2 : e ≤ 9223372036854775807)
    (hp : ¬ (Dok s L e ∧ 0 < Dy.sign ⟨s, val L, e⟩)) :
    Calls Tryd.prog 13 #[.agg #[.bool s, .slice A L.length c, .int .i64 e]] w (RetDB w zeroD false) := by
  have HP := Lib.hid (fun w (h : Sl w A c L) => positive_any s A c L e w false h he1 he2 (by simp only [Bool.false_eq_true, false_iff]; exact hp))
  clear hp
  go_enter Tryd.func13, Tryd.ntmps13
  go_wp2_with fail
  refine (HP.out _ ((hs.alloc _).alloc _)).mono ?_
  rintro r w1 ⟨rfl, hb1⟩
  have bz := (Box3.newAt (W := w.alloc (.cells #[.bool s, .slice A L.length c, .int .i64 e] 24)) (g := w.heap.size + 1) (by simp) false none 0 0 0).ext hb1
  have hE := (((Ext.alloc w (.cells #[.bool s, .slice A L.length c, .int .i64 e] 24)).trans (Ext.alloc _ (.cells #[.bool false, .slice none 0 0, .int .i64 0] 24))).trans hb1)
  have z0 := bz.c0; have z1 := bz.c1; have z2 := bz.c2; have f0 := bz.fr 0; have f1 := bz.fr 1; have f2 := bz.fr 2
  go_wp2
  exact zero_retb rfl rfl rfl rfl (bz.set _ _ _ _ _) (Box3.set_ext hE (by omega) _ _ _ _ _)

set_option maxHeartbeats 1000000 in
theorem refBit_any (A : Option Addr) (c : Nat) (L : List Nat) (i : Nat) (w : World) (hs : Sl w A c L) (hi : i / 32 < L.length) (hl : L.length ≤ 3000) :
    Calls Tryd.prog 35 #[.slice A L.length c, .int .i64 i] w fun r w' => r = .returned (.int .i64 ((val L / 2 ^ i % 2 : Nat) : Int)) ∧ w = w' := by
  obtain ⟨ab, ao, rfl, _, c1⟩ := hs.at_ hi
  have hx := hs.ok.get hi
  have hb := Lib.hid (bit_val hs.ok i hi)
  have hq := u32_bit L[i / 32] (i % 32) hx
  obtain ⟨l, hl'⟩ : ∃ l, l = L.length := ⟨_, rfl⟩
  rw [← hl'] at hi hl ⊢
  rw [hb.out]
  generalize L[i / 32]'_ = x at *
  clear hb hl'
  have h0 : x / 2 ^ (i % 32) % 2 < 2 := Nat.mod_lt _ (by decide)
  go_enter Tryd.func35, Tryd.ntmps35
  go_wp2
  go_ret
  refine ⟨ret_int ?_, rfl⟩
  simp
end Go.Proofs.YtofdlkgpgcnjhaaDoor
