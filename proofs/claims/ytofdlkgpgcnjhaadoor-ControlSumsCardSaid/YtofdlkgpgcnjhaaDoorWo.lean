/- Walks: the reference's numbers that are made; signs, tops. -/
import Derived.Test.YtofdlkgpgcnjhaaDoorWn
namespace Go.Proofs.YtofdlkgpgcnjhaaDoor
open Go.RowKit Fp

theorem refExponent_any (e : Int) (w : World) (b : Bool) (hb : b = true ↔ (-32768 ≤ e ∧ e ≤ 32768)) :
    Calls Tryd.prog 69 #[.int .i64 e] w fun r w' => r = .returned (.bool b) ∧ w = w' := by
  by_cases h1 : -32768 ≤ e
  · have d1 : decide (-32768 ≤ e) = true := by simpa using h1
    by_cases h2 : e ≤ 32768
    · have d2 : decide (e ≤ 32768) = true := by simpa using h2
      have := b_true hb ⟨h1, h2⟩
      clear hb; subst this
      go_enter Tryd.func69, Tryd.ntmps69
      go_wp2
      go_ret
      exact ⟨rfl, rfl⟩
    · have d2 : decide (e ≤ 32768) = false := by simpa using h2
      have := b_false hb (fun h => h2 h.2)
      clear hb; subst this
      go_enter Tryd.func69, Tryd.ntmps69
      go_wp2
      go_ret
      exact ⟨rfl, rfl⟩
  · have d1 : decide (-32768 ≤ e) = false := by simpa using h1
    have := b_false hb (fun h => h1 h.1)
    clear hb; subst this
    go_enter Tryd.func69, Tryd.ntmps69
    go_wp2
    go_ret
    exact ⟨rfl, rfl⟩

set_option maxHeartbeats 1000000 in
theorem refChecked_yes (d : Dy) (A : Option Addr) (c : Nat) (w : World) (hs : Sl w A c (limbs d.m)) (hl : (limbs d.m).length ≤ 100000000) (he1 : -10000000 ≤ d.e) (he2 : d.e ≤ 10000000) (hd : d.Valid) :
    Calls Tryd.prog 70 #[.agg #[.bool d.neg, .slice A (limbs d.m).length c, .int .i64 d.e]] w (RetDE w d 0) := by
  obtain ⟨s, m, e⟩ := d
  simp only at *
  have HV := Lib.hid (fun w (h : Sl w A c (limbs m)) => refValid_any s A c (limbs m) e w true h (by omega) (by omega) (iff_of_true rfl ((dok_limbs ⟨s, m, e⟩).2 hd)))
  clear hd
  go_enter Tryd.func70, Tryd.ntmps70
  go_wp2_with fail
  refine (HV.out _ ((hs.alloc _).alloc _)).mono ?_
  rintro r w' ⟨rfl, hb⟩
  have bx := ((Box3.new w s A (limbs m).length c e).alloc (.cells #[.bool false, .slice none 0 0, .int .i64 0] 24)).ext hb
  have by_ := (Box3.new (w.alloc (.cells #[.bool s, .slice A (limbs m).length c, .int .i64 e] 24)) false none 0 0 0).ext hb
  have b0 := bx.c0; have b1 := bx.c1; have b2 := bx.c2
  have bz : (w.alloc (.cells #[.bool s, .slice A (limbs m).length c, .int .i64 e] 24)).heap.size = w.heap.size + 1 := by simp
  rw [bz] at by_
  have c0 := by_.c0; have c1 := by_.c1; have c2 := by_.c2; have f0 := by_.fr 0; have f1 := by_.fr 1; have f2 := by_.fr 2
  have hs' := ((hs.alloc (.cells #[.bool s, .slice A (limbs m).length c, .int .i64 e] 24)).alloc (.cells #[.bool false, .slice none 0 0, .int .i64 0] 24)).below hb
  have hb' : Ext w w' := ((Ext.alloc _ _).trans (Ext.alloc _ _)).trans hb
  clear bz
  go_wp2
  exact dy_rete rfl rfl rfl rfl (by_.set _ _ _ _ _) rfl (by_.set_sl hs' _ _ _ _ _) (Box3.set_ext hb' (by omega) _ _ _ _ _)

set_option maxHeartbeats 1000000 in
theorem refChecked_no (d : Dy) (A : Option Addr) (c : Nat) (w : World) (hs : Sl w A c (limbs d.m)) (hl : (limbs d.m).length ≤ 100000000) (he1 : -10000000 ≤ d.e) (he2 : d.e ≤ 10000000) (hd : ¬ d.Valid) :
    Calls Tryd.prog 70 #[.agg #[.bool d.neg, .slice A (limbs d.m).length c, .int .i64 d.e]] w (RetDE w zeroD 9) := by
  obtain ⟨s, m, e⟩ := d
  simp only at *
  have HV := Lib.hid (fun w (h : Sl w A c (limbs m)) => refValid_any s A c (limbs m) e w false h (by omega) (by omega) (iff_of_false (by simp) (fun h => hd ((dok_limbs ⟨s, m, e⟩).1 h))))
  clear hd
  go_enter Tryd.func70, Tryd.ntmps70
  go_wp2_with fail
  refine (HV.out _ ((hs.alloc _).alloc _)).mono ?_
  rintro r w' ⟨rfl, hb⟩
  have by_ := (Box3.new (w.alloc (.cells #[.bool s, .slice A (limbs m).length c, .int .i64 e] 24)) false none 0 0 0).ext hb
  have bz : (w.alloc (.cells #[.bool s, .slice A (limbs m).length c, .int .i64 e] 24)).heap.size = w.heap.size + 1 := by simp
  rw [bz] at by_
  have c0 := by_.c0; have c1 := by_.c1; have c2 := by_.c2; have f0 := by_.fr 0; have f1 := by_.fr 1; have f2 := by_.fr 2
  have hb' : Ext w w' := ((Ext.alloc _ _).trans (Ext.alloc _ _)).trans hb
  have hz : limbs zeroD.m = [] := limbs_zero
  have HZ := Lib.hid hz
  clear bz hz
  go_wp2
  exact dy_rete rfl rfl rfl rfl (by_.set _ _ _ _ _) (by rw [HZ.out]; rfl) (by rw [HZ.out]; exact by_.set_sl (Sl.nil _) _ _ _ _ _) (Box3.set_ext hb' (by omega) _ _ _ _ _)

set_option maxHeartbeats 1000000 in
theorem refMake_any (s : Bool) (A : Option Addr) (c : Nat) (L : List Nat) (e : Int) (w : World) (hs : Sl w A c L) (hlen : L.length ≤ 256) (he1 : -32768 ≤ e) (he2 : e ≤ 32768) (hd : inRange (canon s (val L) e)) :
    Calls Tryd.prog 48 #[.bool s, .slice A L.length c, .int .i64 e] w (RetDE w (canon s (val L) e) 0) := by
  have hl1 : decide (256 < (L.length : Int)) = false := decide_eq_false (by omega)
  have HE := Lib.hid (fun w => refExponent_any e w true (by simp [he1, he2]))
  have HC := Lib.hid (fun w (h : Sl w A c L) => refOf_any s A c L e w h (by omega) (by omega) (by omega))
  have hdv : (canon s (val L) e).Valid := ⟨canon_canon _ _ _, hd⟩
  have hb1 : (limbs (canon s (val L) e).m).length ≤ 100000000 := by
    unfold canon
    split
    · simp [limbs_zero]
    · refine Nat.le_trans (limbs_length_le (k := 256) (Nat.lt_of_le_of_lt (Nat.div_le_self _ _) ?_)) (by decide)
      exact Nat.lt_of_lt_of_le (val_lt hs.ok) (Nat.pow_le_pow_right (by decide) hlen)
  have hb2 : -10000000 ≤ (canon s (val L) e).e ∧ (canon s (val L) e).e ≤ 10000000 := by
    unfold canon
    split
    · simp
    · rename_i h0
      have := ctz_lt hs.ok h0
      simp only
      omega
  obtain ⟨hb2, hb3⟩ := hb2
  have HK := Lib.hid (fun A c w (h : Sl w A c (limbs (canon s (val L) e).m)) => refChecked_yes _ A c w h hb1 hb2 hb3 hdv)
  generalize canon s (val L) e = d at *
  clear hd hdv hb1 hb2 hb3
  go_enter Tryd.func48, Tryd.ntmps48
  go_wp2_with fail
  refine (HE.out _).mono ?_
  rintro r w' ⟨rfl, rfl⟩
  go_wp2_with fail
  refine (HC.out _ (hs.alloc _)).mono ?_
  rintro r w1 ⟨A1, c1, rfl, hs1, hb1⟩
  go_wp2_with fail
  refine (HK.out _ _ _ hs1).mono ?_
  rintro r w2 ⟨A2, c2, rfl, hs2, hb2⟩
  have hb := hb1.trans hb2
  have bx := (Box3.new w false none 0 0 0).ext hb
  have b0 := bx.c0; have b1 := bx.c1; have b2 := bx.c2; have f0 := bx.fr 0; have f1 := bx.fr 1; have f2 := bx.fr 2
  go_wp2
  exact dy_rete rfl rfl rfl rfl (bx.set _ _ _ _ _) rfl (bx.set_sl hs2 _ _ _ _ _) (Box3.set_ext ((Ext.alloc _ _).trans hb) (Nat.le_refl _) _ _ _ _ _)

set_option maxHeartbeats 1000000 in
theorem refSign_any (s : Bool) (A : Option Addr) (c : Nat) (L : List Nat) (e : Int) (w : World) (hs : Sl w A c L) (ht : Trim L) :
    Calls Tryd.prog 21 #[.agg #[.bool s, .slice A L.length c, .int .i64 e]] w fun r w' => r = .returned (.int .i64 (Dy.sign ⟨s, val L, e⟩)) ∧ Ext w w' := by
  have hl := hs.len
  by_cases h0 : L = []
  · subst h0
    go_enter Tryd.func21, Tryd.ntmps21
    go_wp2
    go_ret
    exact ⟨rfl, Ext.alloc _ _⟩
  · have hpos : 0 < L.length := List.length_pos_iff.2 h0
    have hv0 : val L ≠ 0 := by have := ht.val_pos h0; omega
    have ht := Lib.hid (show Dy.sign ⟨s, val L, e⟩ = if s then -1 else 1 by unfold Dy.sign; rw [if_neg hv0])
    clear h0 hv0
    generalize Dy.sign ⟨s, val L, e⟩ = t at *
    have hn0 : (((L.length : Nat) : Int) == 0) = false := beq_eq_false_iff_ne.2 (by omega)
    cases s
    · go_enter Tryd.func21, Tryd.ntmps21
      go_wp2
      go_ret
      exact ⟨ret_int (by rw [ht.out]; rfl), Ext.alloc _ _⟩
    · go_enter Tryd.func21, Tryd.ntmps21
      go_wp2
      go_ret
      exact ⟨ret_int (by rw [ht.out]; rfl), Ext.alloc _ _⟩

theorem refBitsD_any (s : Bool) (A : Option Addr) (c : Nat) (L : List Nat) (e : Int) (w : World) (hs : Sl w A c L) (ht : Trim L) (hl : L.length ≤ 100000) :
    Calls Tryd.prog 34 #[.agg #[.bool s, .slice A L.length c, .int .i64 e]] w fun r w' => r = .returned (.int .i64 (bitsN (val L))) ∧ Ext w w' := by
  have H := Lib.hid (fun w (h : Sl w A c L) => refBits_any A c L w h ht (by omega))
  clear ht
  go_enter Tryd.func34, Tryd.ntmps34
  go_wp2_with fail
  refine (H.out _ (hs.alloc _)).mono ?_
  rintro r w' ⟨rfl, rfl⟩
  go_wp2
  go_ret
  exact ⟨rfl, Ext.alloc _ _⟩

set_option maxHeartbeats 1000000 in
theorem refTop_any (s : Bool) (A : Option Addr) (c : Nat) (L : List Nat) (e : Int) (w : World) (hs : Sl w A c L) (ht : Trim L) (hl : L.length ≤ 100000) (he1 : -1000000 ≤ e) (he2 : e ≤ 1000000) :
    Calls Tryd.prog 22 #[.agg #[.bool s, .slice A L.length c, .int .i64 e]] w fun r w' => r = .returned (.int .i64 (Dy.top ⟨s, val L, e⟩)) ∧ Ext w w' := by
  have HS := Lib.hid (fun w (h : Sl w A c L) => refBits_any A c L w h ht (by omega))
  have hbig : bitsN (val L) ≤ 32 * L.length := bitsN_le_iff.2 (by rw [← pow32]; exact val_lt hs.ok)
  by_cases h0 : L = []
  · subst h0
    go_enter Tryd.func22, Tryd.ntmps22
    go_wp2
    go_ret
    exact ⟨rfl, Ext.alloc _ _⟩
  · have hpos : 0 < L.length := List.length_pos_iff.2 h0
    have hv0 : val L ≠ 0 := by have := ht.val_pos h0; omega
    have ht := Lib.hid (show Dy.top ⟨s, val L, e⟩ = bitsN (val L) + e by unfold Dy.top; rw [if_neg hv0])
    clear h0 hv0
    generalize Dy.top ⟨s, val L, e⟩ = t at *
    generalize bitsN (val L) = q at *
    have hw : IntKind.i64.wrap ((q : Int) + e) = q + e := i64_in _ (by omega) (by omega)
    have hn0 : (((L.length : Nat) : Int) == 0) = false := beq_eq_false_iff_ne.2 (by omega)
    have hs' := hs.alloc (.cells #[.bool s, .slice A L.length c, .int .i64 e] 24)
    go_enter Tryd.func22, Tryd.ntmps22
    go_wp2_with fail
    go_region_held3 (fun w' => w'.cell? ⟨w.heap.size, 1, none⟩ = some (.slice A L.length c) ∧ w'.cell? ⟨w.heap.size, 2, none⟩ = some (.int .i64 e)) (go_keep)
      (first | (go_at_call 43; refine (HS.out _ ?_).mono ?_; (exact hs'.drew); rintro r w'' ⟨rfl, rfl⟩))
    go_wp2
    go_ret
    exact ⟨ret_int (by rw [ht.out]), Below.drew (Ext.alloc _ _)⟩

set_option maxHeartbeats 1000000 in
theorem refNeg_any (s : Bool) (A : Option Addr) (c : Nat) (L : List Nat) (e : Int) (w : World) (hs : Sl w A c L) (ht : Trim L) :
    Calls Tryd.prog 42 #[.agg #[.bool s, .slice A L.length c, .int .i64 e]] w (RetD w (negD ⟨s, val L, e⟩)) := by
  have hl := hs.len
  have HL := Lib.hid (ht.eq_limbs hs.ok)
  by_cases h0 : L = []
  · subst h0
    have HZ := Lib.hid limbs_zero
    cases s
    · go_enter Tryd.func42, Tryd.ntmps42
      go_wp2
      exact dy_ret (d := negD ⟨false, val [], e⟩) rfl rfl rfl (Box3.newAt (by simp) _ _ _ _ _) (by show _ = (limbs 0).length; rw [HZ.out]; rfl) (by show Sl _ _ _ (limbs 0); rw [HZ.out]; exact (hs.alloc _).alloc _) ((Ext.alloc _ _).trans (Ext.alloc _ _))
    · go_enter Tryd.func42, Tryd.ntmps42
      go_wp2
      exact dy_ret (d := negD ⟨true, val [], e⟩) rfl rfl rfl (Box3.newAt (by simp) _ _ _ _ _) (by show _ = (limbs 0).length; rw [HZ.out]; rfl) (by show Sl _ _ _ (limbs 0); rw [HZ.out]; exact (hs.alloc _).alloc _) ((Ext.alloc _ _).trans (Ext.alloc _ _))
  · have hpos : 0 < L.length := List.length_pos_iff.2 h0
    have hv0 : val L ≠ 0 := by have := ht.val_pos h0; omega
    have hd := Lib.hid (show negD ⟨s, val L, e⟩ = ⟨!s, val L, e⟩ by unfold negD; simp [hv0])
    clear h0 hv0 ht
    rw [hd.out]
    cases s
    · go_enter Tryd.func42, Tryd.ntmps42
      go_wp2
      exact dy_ret (d := ⟨!false, val L, e⟩) rfl rfl rfl (Box3.newAt (by simp) _ _ _ _ _) (by show _ = (limbs (val L)).length; rw [← HL.out]) (by show Sl _ _ _ (limbs (val L)); rw [← HL.out]; exact (hs.alloc _).alloc _) ((Ext.alloc _ _).trans (Ext.alloc _ _))
    · go_enter Tryd.func42, Tryd.ntmps42
      go_wp2
      exact dy_ret (d := ⟨!true, val L, e⟩) rfl rfl rfl (Box3.newAt (by simp) _ _ _ _ _) (by show _ = (limbs (val L)).length; rw [← HL.out]) (by show Sl _ _ _ (limbs (val L)); rw [← HL.out]; exact (hs.alloc _).alloc _) ((Ext.alloc _ _).trans (Ext.alloc _ _))
end Go.Proofs.YtofdlkgpgcnjhaaDoor
