/- Walks: absolute values, scaled numbers. -/
import Derived.Test.YtofdlkgpgcnjhaaDoorWu
import Derived.Test.YtofdlkgpgcnjhaaDoorWs
namespace Go.Proofs.YtofdlkgpgcnjhaaDoor
open Go.RowKit Fp

set_option maxHeartbeats 4000000 in
theorem dyAbs_any (s : Bool) (A : Option Addr) (c : Nat) (L : List Nat) (e : Int) (w : World) (hs : Sl w A c L) (hd : Dok s L e) (h0 : val L ≠ 0) :
    Calls Tryd.prog 31 #[.agg #[.bool s, .slice A L.length c, .int .i64 e]] w (RetD w ⟨false, val L, e⟩) := by
  obtain ⟨he1, he2⟩ := hd.exp
  have hlen := hd.len
  have HL := Lib.hid (hd.eq_limbs hs.ok)
  have HV := Lib.hid (fun w (h : Sl w A c L) => dyValid_any s A c L e w true h (by omega) (by omega) (by simp [hd]))
  have HC := Lib.hid (fun w (h : Sl w A c L) => clone_any A c L w h (by omega))
  have hpos : 0 < L.length := by
    rcases L with _ | ⟨x, L⟩
    · exact absurd rfl h0
    · simp
  have hn0 : (((L.length : Nat) : Int) == 0) = false := beq_eq_false_iff_ne.2 (by omega)
  clear hd h0
  go_enter Tryd.func31, Tryd.ntmps31
  go_wp2_with fail
  refine (HV.out _ ((hs.alloc _).alloc _)).mono ?_
  rintro r w1 ⟨rfl, hb1⟩
  have bx1 := ((Box3.new w s A L.length c e).alloc (.cells #[.bool false, .slice none 0 0, .int .i64 0] 24)).ext hb1
  have bx2 := (Box3.newAt (W := w.alloc (.cells #[.bool s, .slice A L.length c, .int .i64 e] 24)) (g := w.heap.size + 1) (by simp) false none 0 0 0).ext hb1
  have b0 := bx1.c0; have b1 := bx1.c1; have b2 := bx1.c2
  have hE := (((Ext.alloc w (.cells #[.bool s, .slice A L.length c, .int .i64 e] 24)).trans (Ext.alloc _ (.cells #[.bool false, .slice none 0 0, .int .i64 0] 24))).trans hb1)
  have hsW := hs.below hE
  have HE := Lib.hid hE
  clear hE hb1
  go_wp2_with fail
  go_region_held3 (fun w' => w'.cell? ⟨w.heap.size, 1, none⟩ = some (.slice A L.length c) ∧ w'.cell? ⟨w.heap.size, 2, none⟩ = some (.int .i64 e))
    (first
      | exact ⟨bx1.drew.c1, bx1.drew.c2⟩
      | exact ⟨(bx1.drew.ext hbp).c1, (bx1.drew.ext hbp).c2⟩
      | exact ⟨set3_far (bx1.drew.ext hbp).c1 (by omega), set3_far (bx1.drew.ext hbp).c2 (by omega)⟩)
    (first
      | (go_at_call 50
         refine (HC.out _ hsW.drew).mono ?_
         rintro r wp ⟨Ap, cp, rfl, hsp, hbp⟩
         have bz := bx2.drew.ext hbp
         have z0 := bz.c0
         have z1 := bz.c1
         have z2 := bz.c2
         have y0 := bz.fr 0
         have y1 := bz.fr 1
         have y2 := bz.fr 2))
  go_wp2
  exact dy_ret (d := ⟨false, val L, e⟩) rfl rfl rfl (bz.set _ _ _ _ _) (by show _ = (limbs (val L)).length; rw [← HL.out]) (bz.set_sl (by show Sl _ _ _ (limbs (val L)); rw [← HL.out]; exact hsp) _ _ _ _ _) (Box3.set_ext (HE.out.trans ((Ext.drew _).trans hbp)) (by omega) _ _ _ _ _)

theorem canon_len {L : List Nat} (h : Ok32 L) (hl : L.length ≤ 256) (s : Bool) (e : Int) : (limbs (canon s (val L) e).m).length ≤ 100000000 := by
  unfold canon
  split
  · simp [limbs_zero]
  · refine Nat.le_trans (limbs_length_le (k := 256) (Nat.lt_of_le_of_lt (Nat.div_le_self _ _) ?_)) (by decide)
    exact Nat.lt_of_lt_of_le (val_lt h) (Nat.pow_le_pow_right (by decide) hl)
theorem canon_exp {L : List Nat} (h : Ok32 L) (hl : L.length ≤ 256) (s : Bool) (e : Int) (h1 : -9000000 ≤ e) (h2 : e ≤ 9000000) : -10000000 ≤ (canon s (val L) e).e ∧ (canon s (val L) e).e ≤ 10000000 := by
  unfold canon
  split
  · simp
  · rename_i h0
    have := ctz_lt h h0
    simp only
    omega

set_option maxHeartbeats 4000000 in
theorem refScale_yes (s : Bool) (A : Option Addr) (c : Nat) (L : List Nat) (e k : Int) (w : World) (hs : Sl w A c L) (hd : Dok s L e) (hk1 : -32768 ≤ k) (hk2 : k ≤ 32768) (hr : inRange (canon s (val L) (e + k))) :
    Calls Tryd.prog 47 #[.agg #[.bool s, .slice A L.length c, .int .i64 e], .int .i64 k] w (RetDE w (canon s (val L) (e + k)) 0) := by
  obtain ⟨he1, he2⟩ := hd.exp
  have hlen := hd.len
  have HV := Lib.hid (fun w (h : Sl w A c L) => refValid_any s A c L e w true h (by omega) (by omega) (by simp [hd]))
  have HX := Lib.hid (fun w => refExponent_any k w true (by simp [hk1, hk2]))
  have hw : IntKind.i64.wrap (e + k) = e + k := i64_in _ (by omega) (by omega)
  have HC := Lib.hid (fun w (h : Sl w A c L) => refOf_any s A c L (e + k) w h (by omega) (by omega) (by omega))
  have hb1 := canon_len hs.ok hlen s (e + k)
  obtain ⟨hb2, hb3⟩ := canon_exp hs.ok hlen s (e + k) (by omega) (by omega)
  have hv : (canon s (val L) (e + k)).Valid := ⟨canon_canon _ _ _, hr⟩
  have HK := Lib.hid (fun A c w (h : Sl w A c (limbs (canon s (val L) (e + k)).m)) => refChecked_yes _ A c w h hb1 hb2 hb3 hv)
  generalize canon s (val L) (e + k) = D at *
  clear hd hr hv hb1 hb2 hb3
  go_enter Tryd.func47, Tryd.ntmps47
  go_wp2_with fail
  refine (HV.out _ ((hs.alloc _).alloc _)).mono ?_
  rintro r w1 ⟨rfl, hb1⟩
  have bx1 := ((Box3.new w s A L.length c e).alloc (.cells #[.bool false, .slice none 0 0, .int .i64 0] 24)).ext hb1
  have bx2 := (Box3.newAt (W := w.alloc (.cells #[.bool s, .slice A L.length c, .int .i64 e] 24)) (g := w.heap.size + 1) (by simp) false none 0 0 0).ext hb1
  have b0 := bx1.c0; have b1 := bx1.c1; have b2 := bx1.c2
  have hE := (((Ext.alloc w (.cells #[.bool s, .slice A L.length c, .int .i64 e] 24)).trans (Ext.alloc _ (.cells #[.bool false, .slice none 0 0, .int .i64 0] 24))).trans hb1)
  have hsW := hs.below hE
  have HE := Lib.hid hE
  clear hE hb1
  go_wp2_with fail
  refine (HX.out _).mono ?_
  rintro r w2 ⟨rfl, rfl⟩
  go_wp2_with fail
  refine (HC.out _ hsW).mono ?_
  rintro r w2 ⟨A1, c1, rfl, hs1, hb2⟩
  go_wp2_with fail
  refine (HK.out _ _ _ hs1).mono ?_
  rintro r w3 ⟨A2, c2, rfl, hs2, hb3⟩
  have bz := bx2.ext (hb2.trans hb3)
  have z0 := bz.c0; have z1 := bz.c1; have z2 := bz.c2; have f0 := bz.fr 0; have f1 := bz.fr 1; have f2 := bz.fr 2
  go_wp2
  exact dy_rete rfl rfl rfl rfl (bz.set _ _ _ _ _) rfl (bz.set_sl hs2 _ _ _ _ _) (Box3.set_ext (HE.out.trans (hb2.trans hb3)) (by omega) _ _ _ _ _)

set_option maxHeartbeats 4000000 in
theorem dyScale_yes (s : Bool) (A : Option Addr) (c : Nat) (L : List Nat) (e k : Int) (w : World) (hs : Sl w A c L) (hd : Dok s L e) (hTb : Tb w) (hk1 : -32768 ≤ k) (hk2 : k ≤ 32768) (hr : inRange (canon s (val L) (e + k))) :
    Calls Tryd.prog 44 #[.agg #[.bool s, .slice A L.length c, .int .i64 e], .int .i64 k] w (RetDE w (canon s (val L) (e + k)) 0) := by
  obtain ⟨he1, he2⟩ := hd.exp
  have hlen := hd.len
  have HV := Lib.hid (fun w (h : Sl w A c L) => dyValid_any s A c L e w true h (by omega) (by omega) (by simp [hd]))
  have HX := Lib.hid (fun w => exponent_any k w true (by simp [hk1, hk2]))
  have hw : IntKind.i64.wrap (e + k) = e + k := i64_in _ (by omega) (by omega)
  have HC := Lib.hid (fun w (h : Sl w A c L) (ht : Tb w) => dyCanon_any s A c L (e + k) w h (by omega) (by have := tlen_le L; unfold tlen at this; omega) (by omega) (by omega) ht)
  have hb1 := canon_len hs.ok hlen s (e + k)
  obtain ⟨hb2, hb3⟩ := canon_exp hs.ok hlen s (e + k) (by omega) (by omega)
  have HK := Lib.hid (fun A c w (h : Sl w A c (limbs (canon s (val L) (e + k)).m)) => checked_yes _ A c w h hb1 hb2 hb3 hr)
  generalize canon s (val L) (e + k) = D at *
  clear hd hr hb1 hb2 hb3
  go_enter Tryd.func44, Tryd.ntmps44
  go_wp2_with fail
  refine (HV.out _ ((hs.alloc _).alloc _)).mono ?_
  rintro r w1 ⟨rfl, hb1⟩
  have bx1 := ((Box3.new w s A L.length c e).alloc (.cells #[.bool false, .slice none 0 0, .int .i64 0] 24)).ext hb1
  have bx2 := (Box3.newAt (W := w.alloc (.cells #[.bool s, .slice A L.length c, .int .i64 e] 24)) (g := w.heap.size + 1) (by simp) false none 0 0 0).ext hb1
  have b0 := bx1.c0; have b1 := bx1.c1; have b2 := bx1.c2
  have hE := (((Ext.alloc w (.cells #[.bool s, .slice A L.length c, .int .i64 e] 24)).trans (Ext.alloc _ (.cells #[.bool false, .slice none 0 0, .int .i64 0] 24))).trans hb1)
  have hsW := hs.below hE
  have hTW := hTb.below hE
  have HE := Lib.hid hE
  clear hE hb1
  go_wp2_with fail
  refine (HX.out _).mono ?_
  rintro r w2 ⟨rfl, rfl⟩
  go_wp2_with fail
  refine (HC.out _ hsW hTW).mono ?_
  rintro r w2 ⟨A1, c1, rfl, hs1, hb2⟩
  go_wp2_with fail
  refine (HK.out _ _ _ hs1).mono ?_
  rintro r w3 ⟨A2, c2, rfl, hs2, hb3⟩
  have bz := bx2.ext (hb2.trans hb3)
  have z0 := bz.c0; have z1 := bz.c1; have z2 := bz.c2; have f0 := bz.fr 0; have f1 := bz.fr 1; have f2 := bz.fr 2
  go_wp2
  exact dy_rete rfl rfl rfl rfl (bz.set _ _ _ _ _) rfl (bz.set_sl hs2 _ _ _ _ _) (Box3.set_ext (HE.out.trans (hb2.trans hb3)) (by omega) _ _ _ _ _)

theorem sl_num {w : World} {A : Option Addr} {c : Nat} {d : Dy} (_h : Sl w A c (limbs d.m)) (hv : d.Valid) : Dok d.neg (limbs d.m) d.e := (dok_limbs d).2 hv

set_option maxHeartbeats 4000000 in
theorem number_any (n : Nat) (e : Int) (w : World) (hn : n < 4294967296) (he1 : -10000 ≤ e) (he2 : e ≤ 10000) :
    Calls Tryd.prog 26 #[.int .i64 n, .int .i64 e] w (RetD w (canon false n e)) := by
  have HI := Lib.hid (fun w => refInt_any n w hn)
  have hb : bitsN n ≤ 32 := bitsN_le_iff.2 hn
  have hcz : (canon false n 0).Valid ∧ canon false (canon false n 0).m ((canon false n 0).e + e) = canon false n e ∧ (canon false n 0).neg = false ∧ inRange (canon false n e) := by
    by_cases h0 : n = 0
    · subst h0
      simp [canon]
      exact ⟨zeroD_valid, .inl rfl⟩
    · have hc1 : canon false n 0 = ⟨false, n / 2 ^ ctzN n, ctzN n⟩ := by unfold canon; rw [if_neg h0]; simp
      have hc2 : canon false n e = ⟨false, n / 2 ^ ctzN n, e + ctzN n⟩ := by unfold canon; rw [if_neg h0]
      have ho := odd_div_ctz h0
      have hz : ctzN (n / 2 ^ ctzN n) = 0 := ctzN_odd ho
      have hb3 : bitsN (n / 2 ^ ctzN n) ≤ 32 := Nat.le_trans (bitsN_mono (Nat.div_le_self _ _)) hb
      have hc : ctzN n < 32 := by
        have := pow_ctz_le h0
        by_cases h : ctzN n < 32
        · exact h
        · have h2 : 2 ^ 32 ≤ 2 ^ ctzN n := Nat.pow_le_pow_right (by decide) (by omega)
          omega
      have hne : n / 2 ^ ctzN n ≠ 0 := by omega
      refine ⟨⟨canon_canon _ _ _, ?_⟩, ?_, by rw [hc1], ?_⟩
      · rw [hc1]
        exact .inr ⟨by simp only; omega, by simp only; omega, by simp only; omega, by simp only; omega⟩
      · rw [hc1, hc2]
        unfold canon
        simp only
        rw [if_neg hne, hz]
        simp
        omega
      · rw [hc2]
        exact .inr ⟨by simp only; omega, by simp only; omega, by simp only; omega, by simp only; omega⟩
  obtain ⟨hv, hcc, hneg, hr⟩ := hcz
  have HS : Hid (∀ A c w, Sl w A c (limbs (canon false n 0).m) → Calls Tryd.prog 47 #[.agg #[.bool (canon false n 0).neg, .slice A (limbs (canon false n 0).m).length c, .int .i64 (canon false n 0).e], .int .i64 e] w (RetDE w (canon false n e) 0)) := fun A c w h => by
    have := refScale_yes (canon false n 0).neg A c (limbs (canon false n 0).m) (canon false n 0).e e w h (sl_num h hv) (by omega) (by omega) (by rw [val_limbs, hneg, hcc]; exact hr)
    rw [val_limbs, hneg, hcc] at this
    rw [hneg]
    exact this
  generalize canon false n 0 = D0 at *
  generalize canon false n e = D at *
  clear hv hcc hneg hr hb
  go_enter Tryd.func26, Tryd.ntmps26
  go_wp2_with fail
  refine (HI.out _).mono ?_
  rintro r w1 ⟨A1, c1, rfl, hs1, hb1⟩
  go_wp2_with fail
  refine (HS.out _ _ _ hs1).mono ?_
  rintro r w2 ⟨A2, c2, rfl, hs2, hb2⟩
  have hE := hb1.trans hb2
  have bz := ((Box3.new w false none 0 0 0).ext hE).alloc (.cells #[.bool D.neg, .slice A2 (limbs D.m).length c2, .int .i64 D.e] 24)
  have z0 := bz.c0; have z1 := bz.c1; have z2 := bz.c2; have f0 := bz.fr 0; have f1 := bz.fr 1; have f2 := bz.fr 2
  go_wp2
  exact dy_ret rfl rfl rfl (bz.set _ _ _ _ _) rfl (bz.set_sl (hs2.alloc _) _ _ _ _ _) (Box3.set_ext (((Ext.alloc _ _).trans hE).trans (Ext.alloc _ _)) (Nat.le_refl _) _ _ _ _ _)
end Go.Proofs.YtofdlkgpgcnjhaaDoor
