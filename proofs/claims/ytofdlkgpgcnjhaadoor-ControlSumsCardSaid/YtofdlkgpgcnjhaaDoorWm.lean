/- Walks: the numbers that the program makes. -/
import Derived.Test.YtofdlkgpgcnjhaaDoorWl
namespace Go.Proofs.YtofdlkgpgcnjhaaDoor
open Go.RowKit Fp

theorem exponent_any (e : Int) (w : World) (b : Bool) (hb : b = true ↔ (-32768 ≤ e ∧ e ≤ 32768)) :
    Calls Tryd.prog 54 #[.int .i64 e] w fun r w' => r = .returned (.bool b) ∧ w = w' := by
  by_cases h1 : -32768 ≤ e
  · have d1 : decide (-32768 ≤ e) = true := by simpa using h1
    by_cases h2 : e ≤ 32768
    · have d2 : decide (e ≤ 32768) = true := by simpa using h2
      have := b_true hb ⟨h1, h2⟩
      clear hb; subst this
      go_enter Tryd.func54, Tryd.ntmps54
      go_wp2
      go_ret
      exact ⟨rfl, rfl⟩
    · have d2 : decide (e ≤ 32768) = false := by simpa using h2
      have := b_false hb (fun h => h2 h.2)
      clear hb; subst this
      go_enter Tryd.func54, Tryd.ntmps54
      go_wp2
      go_ret
      exact ⟨rfl, rfl⟩
  · have d1 : decide (-32768 ≤ e) = false := by simpa using h1
    have := b_false hb (fun h => h1 h.1)
    clear hb; subst this
    go_enter Tryd.func54, Tryd.ntmps54
    go_wp2
    go_ret
    exact ⟨rfl, rfl⟩

set_option maxHeartbeats 1000000 in
theorem checked_yes (d : Dy) (A : Option Addr) (c : Nat) (w : World) (hs : Sl w A c (limbs d.m)) (hl : (limbs d.m).length ≤ 100000000) (he1 : -10000000 ≤ d.e) (he2 : d.e ≤ 10000000) (hd : inRange d) :
    Calls Tryd.prog 55 #[.agg #[.bool d.neg, .slice A (limbs d.m).length c, .int .i64 d.e]] w (RetDE w d 0) := by
  obtain ⟨s, m, e⟩ := d
  simp only at *
  have hr : inRB m e = true := by unfold inRB; exact decide_eq_true hd
  have HV := Lib.hid (fun w (h : Sl w A c (limbs m)) => inRange_any s A c (limbs m) e w h hl (by omega) (by omega))
  rw [val_limbs, hr] at HV
  clear hr hd
  go_enter Tryd.func55, Tryd.ntmps55
  go_wp2_with fail
  refine (HV.out _ ((hs.alloc _).alloc _)).mono ?_
  rintro r w' ⟨rfl, hb⟩
  have bx := ((Box3.new w s A (limbs m).length c e).alloc (.cells #[.bool false, .slice none 0 0, .int .i64 0] 24)).ext hb
  have by_ := (Box3.new (w.alloc (.cells #[.bool s, .slice A (limbs m).length c, .int .i64 e] 24)) false none 0 0 0).ext hb
  have b0 := bx.c0; have b1 := bx.c1; have b2 := bx.c2
  have bz : (w.alloc (.cells #[.bool s, .slice A (limbs m).length c, .int .i64 e] 24)).heap.size = w.heap.size + 1 := by simp
  rw [bz] at by_
  have c0 := by_.c0; have c1 := by_.c1; have c2 := by_.c2; have f0 := by_.fr 0; have f1 := by_.fr 1; have f2 := by_.fr 2
  have hs' := ((hs.alloc (.cells #[.bool s, .slice A (limbs m).length c, .int .i64 e] 24)).alloc (.cells #[.bool false, .slice none 0 0, .int .i64 0] 24)).below hb
  have hb' : Ext w w' := ((Ext.alloc _ _).trans (Ext.alloc _ _)).trans hb
  clear bz
  go_wp2
  exact dy_rete rfl rfl rfl rfl (by_.set _ _ _ _ _) rfl (by_.set_sl hs' _ _ _ _ _) (Box3.set_ext hb' (by omega) _ _ _ _ _)

set_option maxHeartbeats 1000000 in
theorem checked_no (d : Dy) (A : Option Addr) (c : Nat) (w : World) (hs : Sl w A c (limbs d.m)) (hl : (limbs d.m).length ≤ 100000000) (he1 : -10000000 ≤ d.e) (he2 : d.e ≤ 10000000) (hd : ¬ inRange d) :
    Calls Tryd.prog 55 #[.agg #[.bool d.neg, .slice A (limbs d.m).length c, .int .i64 d.e]] w (RetDE w zeroD 9) := by
  obtain ⟨s, m, e⟩ := d
  simp only at *
  have hr : inRB m e = false := by unfold inRB; exact decide_eq_false hd
  have HV := Lib.hid (fun w (h : Sl w A c (limbs m)) => inRange_any s A c (limbs m) e w h hl (by omega) (by omega))
  rw [val_limbs, hr] at HV
  clear hr hd
  go_enter Tryd.func55, Tryd.ntmps55
  go_wp2_with fail
  refine (HV.out _ ((hs.alloc _).alloc _)).mono ?_
  rintro r w' ⟨rfl, hb⟩
  have by_ := (Box3.new (w.alloc (.cells #[.bool s, .slice A (limbs m).length c, .int .i64 e] 24)) false none 0 0 0).ext hb
  have bz : (w.alloc (.cells #[.bool s, .slice A (limbs m).length c, .int .i64 e] 24)).heap.size = w.heap.size + 1 := by simp
  rw [bz] at by_
  have c0 := by_.c0; have c1 := by_.c1; have c2 := by_.c2; have f0 := by_.fr 0; have f1 := by_.fr 1; have f2 := by_.fr 2
  have hb' : Ext w w' := ((Ext.alloc _ _).trans (Ext.alloc _ _)).trans hb
  have hz : limbs zeroD.m = [] := limbs_zero
  have HZ := Lib.hid hz
  clear bz hz
  go_wp2
  exact dy_rete rfl rfl rfl rfl (by_.set _ _ _ _ _) (by rw [HZ.out]; rfl) (by rw [HZ.out]; exact by_.set_sl (Sl.nil _) _ _ _ _ _) (Box3.set_ext hb' (by omega) _ _ _ _ _)

set_option maxHeartbeats 1000000 in
theorem make_any (s : Bool) (A : Option Addr) (c : Nat) (L : List Nat) (e : Int) (w : World) (hs : Sl w A c L) (hlen : L.length ≤ 256) (he1 : -32768 ≤ e) (he2 : e ≤ 32768) (hTb : Tb w) (hd : inRange (canon s (val L) e)) :
    Calls Tryd.prog 33 #[.bool s, .slice A L.length c, .int .i64 e] w (RetDE w (canon s (val L) e) 0) := by
  have hl1 : decide (256 < (L.length : Int)) = false := decide_eq_false (by omega)
  have HE := Lib.hid (fun w => exponent_any e w true (by simp [he1, he2]))
  have HC := Lib.hid (fun w (h : Sl w A c L) (ht : Tb w) => dyCanon_any s A c L e w h (by omega) (by have := tlen_le L; unfold tlen at this; omega) (by omega) (by omega) ht)
  have hb1 : (limbs (canon s (val L) e).m).length ≤ 100000000 := by
    unfold canon
    split
    · simp [limbs_zero]
    · refine Nat.le_trans (limbs_length_le (k := 256) (Nat.lt_of_le_of_lt (Nat.div_le_self _ _) ?_)) (by decide)
      exact Nat.lt_of_lt_of_le (val_lt hs.ok) (Nat.pow_le_pow_right (by decide) hlen)
  have hb2 : -10000000 ≤ (canon s (val L) e).e ∧ (canon s (val L) e).e ≤ 10000000 := by
    unfold canon
    split
    · simp
    · rename_i h0
      have := ctz_lt hs.ok h0
      simp only
      omega
  obtain ⟨hb2, hb3⟩ := hb2
  have HK := Lib.hid (fun A c w (h : Sl w A c (limbs (canon s (val L) e).m)) => checked_yes _ A c w h hb1 hb2 hb3 hd)
  generalize canon s (val L) e = d at *
  clear hd hb1 hb2 hb3
  go_enter Tryd.func33, Tryd.ntmps33
  go_wp2_with fail
  refine (HE.out _).mono ?_
  rintro r w' ⟨rfl, rfl⟩
  go_wp2_with fail
  refine (HC.out _ (hs.alloc _) (hTb.alloc _)).mono ?_
  rintro r w1 ⟨A1, c1, rfl, hs1, hb1⟩
  go_wp2_with fail
  refine (HK.out _ _ _ hs1).mono ?_
  rintro r w2 ⟨A2, c2, rfl, hs2, hb2⟩
  have hb := hb1.trans hb2
  have bx := (Box3.new w false none 0 0 0).ext hb
  have b0 := bx.c0; have b1 := bx.c1; have b2 := bx.c2; have f0 := bx.fr 0; have f1 := bx.fr 1; have f2 := bx.fr 2
  go_wp2
  exact dy_rete rfl rfl rfl rfl (bx.set _ _ _ _ _) rfl (bx.set_sl hs2 _ _ _ _ _) (Box3.set_ext ((Ext.alloc _ _).trans hb) (Nat.le_refl _) _ _ _ _ _)
end Go.Proofs.YtofdlkgpgcnjhaaDoor
