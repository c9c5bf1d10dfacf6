/- The law ControlNice: the walk. -/
import Derived.Test.YtofdlkgpgcnjhaaDoorLl
import Derived.Test.YtofdlkgpgcnjhaaDoorNe
import Derived.Test.YtofdlkgpgcnjhaaDoorKd
namespace Go.Proofs.YtofdlkgpgcnjhaaDoor
open Go.RowKit Fp

set_option maxHeartbeats 4000000 in
theorem lawNice_no (s : Bool) (A : Option Addr) (c : Nat) (L : List Nat) (e : Int) (w : World) (hs : Sl w A c L) (hl : L.length ≤ 300) (he1 : -9223372036854775808 ≤ e) (he2 : e ≤ 9223372036854775807) (hTb : Tb w)
    (hp : ¬ (Dok s L e ∧ 0 < Dy.sign ⟨s, val L, e⟩)) :
    Calls Tryd.prog 4 #[.agg #[.bool s, .slice A L.length c, .int .i64 e]] w fun r w' => r = .returned (.bool true) ∧ Ext w w' := by
  have HA := Lib.hid (fun w (h : Tb w) => awake_any w h)
  have HL := Lib.hid (fun w => lawLong_any s A L.length c e w)
  have hl1 : decide (300 < (L.length : Int)) = false := decide_eq_false (by omega)
  have hl2 : decide (300 < L.length) = false := decide_eq_false (by omega)
  have HN := Lib.hid (fun w (h : Sl w A c L) => cfgNice_no s A c L e w h he1 he2 hp)
  have HR := Lib.hid (fun w (h : Sl w A c L) => refNice_no s A c L e w h he1 he2 hp)
  have HQ := Lib.hid (fun w A c B d (h : Sl w A c (limbs zeroD.m)) (k : Sl w B d (limbs zeroD.m)) => refEqual_any zeroD.neg A c (limbs zeroD.m) zeroD.e zeroD.neg B d (limbs zeroD.m) zeroD.e w true h k (trim_limbs _) (trim_limbs _) (by simp [zeroD, limbs_zero]) (by simp [zeroD, limbs_zero]) (by simp))
  generalize zeroD = Z at *
  clear hp
  have hE := Ext.alloc w (.cells #[.bool s, .slice A L.length c, .int .i64 e] 24)
  have b1 := Box3.newAt (W := w) (g := w.heap.size) (by simp) s A L.length c e
  replace hs := hs.below hE; replace hTb := hTb.below hE
  go_enter Tryd.func4, Tryd.ntmps4
  go_wp2_with fail
  refine (HA.out _ hTb).mono ?_
  rintro r w1 ⟨rfl, hb⟩
  replace hE := hE.trans hb; replace hs := hs.below hb; replace hTb := hTb.below hb; replace b1 := b1.ext hb
  clear hb
  have xb10 := b1.c0; have xb11 := b1.c1; have xb12 := b1.c2
  go_wp2_with fail
  refine (HL.out _ ).mono ?_
  rintro r w2 ⟨rfl, hb⟩
  clear xb10 xb11 xb12
  replace hE := hE.trans hb; replace hs := hs.below hb; replace hTb := hTb.below hb; replace b1 := b1.ext hb
  clear hb
  have xb10 := b1.c0; have xb11 := b1.c1; have xb12 := b1.c2
  go_wp2_with fail
  refine (HN.out _ hs).mono ?_
  rintro r w3 ⟨A_h3, c_h3, rfl, h3, hb⟩
  clear xb10 xb11 xb12
  have b2 := Box3.newAt (W := w3) (g := w3.heap.size) rfl Z.neg A_h3 ((limbs Z.m).length) c_h3 Z.e
  replace hb := hb.trans (Ext.alloc _ (.cells #[.bool Z.neg, .slice A_h3 ((limbs Z.m).length) c_h3, .int .i64 Z.e] 24))
  replace h3 := h3.below (Ext.alloc _ (.cells #[.bool Z.neg, .slice A_h3 ((limbs Z.m).length) c_h3, .int .i64 Z.e] 24))
  replace hE := hE.trans hb; replace hs := hs.below hb; replace hTb := hTb.below hb; replace b1 := b1.ext hb
  clear hb
  have xb10 := b1.c0; have xb11 := b1.c1; have xb12 := b1.c2
  have xb20 := b2.c0; have xb21 := b2.c1; have xb22 := b2.c2
  go_wp2_with fail
  refine (HR.out _ hs).mono ?_
  rintro r w4 ⟨A_h4, c_h4, rfl, h4, hb⟩
  clear xb10 xb11 xb12 xb20 xb21 xb22
  have b3 := Box3.newAt (W := w4) (g := w4.heap.size) rfl Z.neg A_h4 ((limbs Z.m).length) c_h4 Z.e
  replace hb := hb.trans (Ext.alloc _ (.cells #[.bool Z.neg, .slice A_h4 ((limbs Z.m).length) c_h4, .int .i64 Z.e] 24))
  replace h4 := h4.below (Ext.alloc _ (.cells #[.bool Z.neg, .slice A_h4 ((limbs Z.m).length) c_h4, .int .i64 Z.e] 24))
  replace hE := hE.trans hb; replace hs := hs.below hb; replace hTb := hTb.below hb; replace h3 := h3.below hb; replace b1 := b1.ext hb; replace b2 := b2.ext hb
  clear hb
  have xb20 := b2.c0; have xb21 := b2.c1; have xb22 := b2.c2
  have xb30 := b3.c0; have xb31 := b3.c1; have xb32 := b3.c2
  go_wp2_with fail
  refine (HQ.out _ _ _ _ _ h3 h4).mono ?_
  rintro r w5 ⟨rfl, hb⟩
  clear xb20 xb21 xb22 xb30 xb31 xb32
  replace hE := hE.trans hb; replace hs := hs.below hb; replace hTb := hTb.below hb; replace h3 := h3.below hb; replace h4 := h4.below hb; replace b1 := b1.ext hb; replace b2 := b2.ext hb; replace b3 := b3.ext hb
  clear hb
  go_wp2
  go_ret
  exact ⟨rfl, hE⟩

theorem near_mul {d : Dy} (hd : d.Valid) (hb : bitsN d.m ≤ 3) : Near (mulD d (canon false 5 0)) := by
  obtain ⟨h1, h2⟩ := hd.exp
  rw [five_eq]
  unfold mulD
  simp only [Int.add_zero]
  by_cases h0 : d.m * 5 = 0
  · rw [h0]
    unfold canon
    rw [if_pos rfl]
    exact ⟨by simp only; rw [limbs_zero]; decide, by decide, by decide⟩
  · have hx8 : d.m < 8 := bitsN_le_iff.1 hb
    unfold canon
    rw [if_neg h0]
    have h3 := pow_ctz_le h0
    have h4 : ctzN (d.m * 5) < 6 := by
      apply Classical.byContradiction
      intro h
      have := Nat.pow_le_pow_right (n := 2) (by decide) (show 6 ≤ ctzN (d.m * 5) by omega)
      omega
    refine ⟨?_, by simp only; omega, by simp only; omega⟩
    refine limbs_len_bits (Nat.le_trans (bitsN_mono (Nat.div_le_self _ _)) (Nat.le_trans (bitsN_le_iff.2 (show d.m * 5 < 2 ^ 6 by omega)) (by decide)))

theorem mul_four {d : Dy} (hd : d.Valid) (h0 : d.m ≠ 0) (hn : d.neg = false) : mulD d (canon false 4 0) = ⟨false, d.m, d.e + 2⟩ := by
  rw [four_eq]; unfold mulD
  simp only [hn, bne_self_eq_false, Nat.mul_one]
  refine Dy.Canon.canon_eq (d := ⟨false, d.m, d.e + 2⟩) ?_
  rcases hd.canon with ⟨h, _, _⟩ | h
  · exact absurd h h0
  · exact .inr h

set_option maxHeartbeats 4000000 in
theorem lawNice_yes (d : Dy) (A : Option Addr) (c : Nat) (w : World) (hs : Sl w A c (limbs d.m)) (hTb : Tb w) (hd : d.Valid) (hp : 0 < d.sign) :
    Calls Tryd.prog 4 #[DV d A c] w fun r w' => r = .returned (.bool true) ∧ Ext w w' := by
  have hlen := hd.len
  have hv0 : d.m ≠ 0 := by intro h; unfold Dy.sign at hp; simp [h] at hp
  have hsf : d.neg = false := by
    unfold Dy.sign at hp; rw [if_neg hv0] at hp
    cases h : d.neg
    · rfl
    · rw [h] at hp; exact absurd hp (by decide)
  have HA := Lib.hid (fun w (h : Tb w) => awake_any w h)
  have HL := Lib.hid (fun w => lawLong_any d.neg A (limbs d.m).length c d.e w)
  have hl1 : decide (300 < ((limbs d.m).length : Int)) = false := decide_eq_false (by omega)
  have hl2 : decide (300 < (limbs d.m).length) = false := decide_eq_false (by omega)
  have hp' : 0 < Dy.sign ⟨d.neg, val (limbs d.m), d.e⟩ := by rw [val_limbs]; exact hp
  have hx : niceD (val (limbs d.m)) d.e = niceD d.m d.e := by rw [val_limbs]
  have HN := Lib.hid (fun w (h : Sl w A c (limbs d.m)) (ht : Tb w) => cfgNice_yes d.neg A c (limbs d.m) d.e w h hd.dok hp' ht)
  have HR := Lib.hid (fun w (h : Sl w A c (limbs d.m)) => refNice_yes d.neg A c (limbs d.m) d.e w h hd.dok hp')
  rw [hx] at HN HR
  have hxv : (niceD d.m d.e).Valid := by rw [← hx]; exact niceD_valid hd.dok (by rw [val_limbs]; exact hv0)
  have hxp := niceD_pos hv0 d.e
  have hxi := niceD_idem d.m d.e
  have hxb := niceD_bits d.m d.e
  have hde : d = ⟨false, d.m, d.e⟩ := by rw [← hsf]
  have hc1 : cmpD (niceD d.m d.e) d ≤ 0 := by rw [hde]; exact nice_cmp hv0 d.e
  have hc2 : 0 < cmpD (mulD (niceD d.m d.e) (canon false 5 0)) (mulD d (canon false 4 0)) := by rw [hde]; exact nice_far hv0 d.e
  have hm4 := mul_four hd hv0 hsf
  have hn5 := near_mul hxv hxb
  have hn4 : Near (mulD d (canon false 4 0)) := by
    rw [hm4]
    obtain ⟨h1, h2⟩ := hd.exp
    exact ⟨hlen, by simp only; omega, by simp only; omega⟩
  have HI5 := Lib.hid (fun w => refInt_any 5 w (by decide))
  have HI4 := Lib.hid (fun w => refInt_any 4 w (by decide))
  have n5 : Near (canon false 5 0) := by rw [five_eq]; exact ⟨limbs_len_bits (Nat.le_trans (bitsN_le_iff.2 (show 5 < 2 ^ 3 by decide)) (by decide)), by decide, by decide⟩
  have n4 : Near (canon false 4 0) := by rw [four_eq]; exact ⟨limbs_len_bits (Nat.le_trans (bitsN_le_iff.2 (show 1 < 2 ^ 3 by decide)) (by decide)), by decide, by decide⟩
  have HN2 := Lib.hid (fun w A c (h : Sl w A c (limbs (niceD d.m d.e).m)) (ht : Tb w) => cfgNice_yes (niceD d.m d.e).neg A c (limbs (niceD d.m d.e).m) (niceD d.m d.e).e w h hxv.dok (by rw [val_limbs]; exact hxp) ht)
  rw [val_limbs, hxi] at HN2
  obtain ⟨X, hX⟩ : ∃ X, X = niceD d.m d.e := ⟨_, rfl⟩
  rw [← hX] at HN HR HN2 hxv hxp hxi hxb hc1 hc2 hn5
  have HQ := Lib.hid (fun w A c B b (h : Sl w A c (limbs X.m)) (k : Sl w B b (limbs X.m)) => refEqual_dy X X A B c b w true h k (by have := hxv.len; omega) (by have := hxv.len; omega) (by simp))
  have HP5 := Lib.hid (fun w A c B b (h : Sl w A c (limbs X.m)) (k : Sl w B b (limbs (canon false 5 0).m)) => refProduct_dy X _ A B c b w h k hxv.near n5)
  have HP4 := Lib.hid (fun w A c B b (h : Sl w A c (limbs d.m)) (k : Sl w B b (limbs (canon false 4 0).m)) => refProduct_dy d _ A B c b w h k hd.near n4)
  have HBt := Lib.hid (fun w A c (h : Sl w A c (limbs X.m)) => dyBits_dy X A c w h hxv)
  have HC := Lib.hid (fun w B b (k : Sl w B b (limbs X.m)) (h : Sl w A c (limbs d.m)) => dyCmp_dy X d B A b c w k h hxv hd)
  have HK := Lib.hid (fun w A c B b (h : Sl w A c (limbs (mulD X (canon false 5 0)).m)) (k : Sl w B b (limbs (mulD d (canon false 4 0)).m)) => refCmp_dy _ _ A B c b w h k hn5 hn4)
  generalize cmpD (mulD X (canon false 5 0)) (mulD d (canon false 4 0)) = k1 at *
  generalize cmpD X d = k2 at *
  generalize mulD X (canon false 5 0) = P5 at *
  generalize mulD d (canon false 4 0) = P4 at *
  generalize canon false 5 0 = I5 at *
  generalize canon false 4 0 = I4 at *
  generalize bitsN X.m = q at *
  have e1 : decide ((q : Int) ≤ 3) = true := decide_eq_true (by omega)
  have e1' : decide (q ≤ 3) = true := decide_eq_true (by omega)
  have e2 : decide (k2 ≤ 0) = true := decide_eq_true hc1
  have e3 : decide (0 < k1) = true := decide_eq_true hc2
  clear hX hxv hxp hxi hn5 hn4 n5 n4 hm4 hde hx hp' hsf hv0 hp hd hxb hc1 hc2
  have hE := Ext.alloc w (.cells #[.bool d.neg, .slice A ((limbs d.m).length) c, .int .i64 d.e] 24)
  have b1 := Box3.newAt (W := w) (g := w.heap.size) (by simp) d.neg A ((limbs d.m).length) c d.e
  replace hs := hs.below hE; replace hTb := hTb.below hE
  go_enter Tryd.func4, Tryd.ntmps4
  go_wp2_with fail
  refine (HA.out _ hTb).mono ?_
  rintro r w1 ⟨rfl, hb⟩
  replace hE := hE.trans hb; replace hs := hs.below hb; replace hTb := hTb.below hb; replace b1 := b1.ext hb
  clear hb
  have xb10 := b1.c0; have xb11 := b1.c1; have xb12 := b1.c2
  go_wp2_with fail
  refine (HL.out _ ).mono ?_
  rintro r w2 ⟨rfl, hb⟩
  clear xb10 xb11 xb12
  replace hE := hE.trans hb; replace hs := hs.below hb; replace hTb := hTb.below hb; replace b1 := b1.ext hb
  clear hb
  have xb10 := b1.c0; have xb11 := b1.c1; have xb12 := b1.c2
  go_wp2_with fail
  refine (HN.out _ hs hTb).mono ?_
  rintro r w3 ⟨A_h3, c_h3, rfl, h3, hb⟩
  clear xb10 xb11 xb12
  have b2 := Box3.newAt (W := w3) (g := w3.heap.size) rfl X.neg A_h3 ((limbs X.m).length) c_h3 X.e
  replace hb := hb.trans (Ext.alloc _ (.cells #[.bool X.neg, .slice A_h3 ((limbs X.m).length) c_h3, .int .i64 X.e] 24))
  replace h3 := h3.below (Ext.alloc _ (.cells #[.bool X.neg, .slice A_h3 ((limbs X.m).length) c_h3, .int .i64 X.e] 24))
  replace hE := hE.trans hb; replace hs := hs.below hb; replace hTb := hTb.below hb; replace b1 := b1.ext hb
  clear hb
  have xb10 := b1.c0; have xb11 := b1.c1; have xb12 := b1.c2
  have xb20 := b2.c0; have xb21 := b2.c1; have xb22 := b2.c2
  go_wp2_with fail
  refine (HR.out _ hs).mono ?_
  rintro r w4 ⟨A_h4, c_h4, rfl, h4, hb⟩
  clear xb10 xb11 xb12 xb20 xb21 xb22
  have b3 := Box3.newAt (W := w4) (g := w4.heap.size) rfl X.neg A_h4 ((limbs X.m).length) c_h4 X.e
  replace hb := hb.trans (Ext.alloc _ (.cells #[.bool X.neg, .slice A_h4 ((limbs X.m).length) c_h4, .int .i64 X.e] 24))
  replace h4 := h4.below (Ext.alloc _ (.cells #[.bool X.neg, .slice A_h4 ((limbs X.m).length) c_h4, .int .i64 X.e] 24))
  replace hE := hE.trans hb; replace hs := hs.below hb; replace hTb := hTb.below hb; replace h3 := h3.below hb; replace b1 := b1.ext hb; replace b2 := b2.ext hb
  clear hb
  have xb20 := b2.c0; have xb21 := b2.c1; have xb22 := b2.c2
  have xb30 := b3.c0; have xb31 := b3.c1; have xb32 := b3.c2
  go_wp2_with fail
  refine (HQ.out _ _ _ _ _ h3 h4).mono ?_
  rintro r w5 ⟨rfl, hb⟩
  clear xb20 xb21 xb22 xb30 xb31 xb32
  replace hE := hE.trans hb; replace hs := hs.below hb; replace hTb := hTb.below hb; replace h3 := h3.below hb; replace h4 := h4.below hb; replace b1 := b1.ext hb; replace b2 := b2.ext hb; replace b3 := b3.ext hb
  clear hb
  have xb20 := b2.c0; have xb21 := b2.c1; have xb22 := b2.c2
  go_wp2_with fail
  refine (HN2.out _ _ _ h3 hTb).mono ?_
  rintro r w6 ⟨A_h5, c_h5, rfl, h5, hb⟩
  clear xb20 xb21 xb22
  have b4 := Box3.newAt (W := w6) (g := w6.heap.size) rfl X.neg A_h5 ((limbs X.m).length) c_h5 X.e
  replace hb := hb.trans (Ext.alloc _ (.cells #[.bool X.neg, .slice A_h5 ((limbs X.m).length) c_h5, .int .i64 X.e] 24))
  replace h5 := h5.below (Ext.alloc _ (.cells #[.bool X.neg, .slice A_h5 ((limbs X.m).length) c_h5, .int .i64 X.e] 24))
  replace hE := hE.trans hb; replace hs := hs.below hb; replace hTb := hTb.below hb; replace h3 := h3.below hb; replace h4 := h4.below hb; replace b1 := b1.ext hb; replace b2 := b2.ext hb; replace b3 := b3.ext hb
  clear hb
  have xb20 := b2.c0; have xb21 := b2.c1; have xb22 := b2.c2
  go_upto_region 10 with fail
  clear xb20 xb21 xb22
  obtain ⟨W7, hW⟩ : ∃ W, (w6.alloc (.cells #[.bool X.neg, .slice A_h5 ((limbs X.m).length) c_h5, .int .i64 X.e] 24)) = W := ⟨_, rfl⟩
  rw [hW] at hs hTb h3 h4 h5 b1 b2 b3 b4 hE ⊢
  clear hW
  go_cut [9] (fun s wx => VarD P5 W7 s wx)
  case first =>
    have b' := b2.drew; have h' := h3.drew; have ba := (b2.alloc zeroObj).drew; have ha := (h3.alloc zeroObj).drew; have bza := (Box3.newAt (W := W7) (g := W7.heap.size) rfl false none 0 0 0).drew
    go_region_held3 (fun w' => w'.cell? ⟨w3.heap.size, 0, none⟩ = some (.bool X.neg) ∧ w'.cell? ⟨w3.heap.size, 1, none⟩ = some (.slice A_h3 ((limbs X.m).length) c_h3) ∧ w'.cell? ⟨w3.heap.size, 2, none⟩ = some (.int .i64 X.e))
      (first | with_reducible exact b'.all | with_reducible exact ba.all | with_reducible exact (b'.ext hbi).all | with_reducible exact ((b'.ext hbi).alloc _).all | with_reducible exact (ba.ext hbi).all | with_reducible exact (b'.ext (hbi.trans hbp)).all | with_reducible exact (((b'.ext hbi).alloc _).ext hbp).all | with_reducible exact (ba.ext (hbi.trans hbp)).all | with_reducible exact ((b'.ext (hbi.trans hbp)).alloc _).all | with_reducible exact ((((b'.ext hbi).alloc _).ext hbp).far3 (Nat.ne_of_gt (Nat.lt_of_lt_of_le b'.lt hbi.size)) _ _ _).all | with_reducible exact ((ba.ext (hbi.trans hbp)).far3 (Nat.ne_of_gt b2.lt) _ _ _).all)
      (first
        | (go_at_call 16; refine (HI5.out _).mono ?_; rintro r wi ⟨Ai, ci, rfl, hsi, hbi⟩)
        | (go_at_call 15
           first
             | ((with_reducible refine (HP5.out _ _ _ _ _ (h'.below hbi) hsi).mono ?_); rintro r wp ⟨Ap, cp, rfl, hsp, hbp⟩)
             | ((with_reducible refine (HP5.out _ _ _ _ _ ((h'.below hbi).alloc _) (hsi.alloc _)).mono ?_); rintro r wp ⟨Ap, cp, rfl, hsp, hbp⟩; have bz := (Box3.newAt (W := wi) (g := wi.heap.size) rfl false none 0 0 0).ext hbp; have z0 := bz.c0; have z1 := bz.c1; have z2 := bz.c2; have y0 := bz.fr 0; have y1 := bz.fr 1; have y2 := bz.fr 2)
             | ((with_reducible refine (HP5.out _ _ _ _ _ (ha.below hbi) hsi).mono ?_); rintro r wp ⟨Ap, cp, rfl, hsp, hbp⟩; have bz := bza.ext (hbi.trans hbp); have z0 := bz.c0; have z1 := bz.c1; have z2 := bz.c2; have y0 := bz.fr 0; have y1 := bz.fr 1; have y2 := bz.fr 2)))
    · go_wp2_with fail; go_meet; exact VarD.new hsp ((Ext.drew _).trans (hbi.trans hbp))
    · go_wp2_with fail; go_meet; exact VarD.set bz hsp ((Ext.drew _).trans ((hbi.trans (Ext.alloc _ _)).trans hbp)) hbi.size
    · go_wp2_with fail; go_meet; exact VarD.set bz hsp (((Ext.alloc _ _).trans (Ext.drew _)).trans (hbi.trans hbp)) (Nat.le_refl _)
  obtain ⟨g_b9, A_h9, c_h9, rfl, b9, h9, hb⟩ := hcut
  replace hE := hE.trans hb; replace hs := hs.below hb; replace hTb := hTb.below hb; replace h3 := h3.below hb; replace h4 := h4.below hb; replace h5 := h5.below hb; replace b1 := b1.ext hb; replace b2 := b2.ext hb; replace b3 := b3.ext hb; replace b4 := b4.ext hb
  clear hb
  have xb10 := b1.c0; have xb11 := b1.c1; have xb12 := b1.c2
  go_upto_region 11 with fail
  clear xb10 xb11 xb12
  go_cut [10] (fun s wx => VarD P4 wc s wx)
  case first =>
    have b' := b1.drew; have h' := hs.drew; have ba := (b1.alloc zeroObj).drew; have ha := (hs.alloc zeroObj).drew; have bza := (Box3.newAt (W := wc) (g := wc.heap.size) rfl false none 0 0 0).drew
    go_region_held3 (fun w' => w'.cell? ⟨w.heap.size, 0, none⟩ = some (.bool d.neg) ∧ w'.cell? ⟨w.heap.size, 1, none⟩ = some (.slice A ((limbs d.m).length) c) ∧ w'.cell? ⟨w.heap.size, 2, none⟩ = some (.int .i64 d.e))
      (first | with_reducible exact b'.all | with_reducible exact ba.all | with_reducible exact (b'.ext hbi).all | with_reducible exact ((b'.ext hbi).alloc _).all | with_reducible exact (ba.ext hbi).all | with_reducible exact (b'.ext (hbi.trans hbp)).all | with_reducible exact (((b'.ext hbi).alloc _).ext hbp).all | with_reducible exact (ba.ext (hbi.trans hbp)).all | with_reducible exact ((b'.ext (hbi.trans hbp)).alloc _).all | with_reducible exact ((((b'.ext hbi).alloc _).ext hbp).far3 (Nat.ne_of_gt (Nat.lt_of_lt_of_le b'.lt hbi.size)) _ _ _).all | with_reducible exact ((ba.ext (hbi.trans hbp)).far3 (Nat.ne_of_gt b1.lt) _ _ _).all)
      (first
        | (go_at_call 16; refine (HI4.out _).mono ?_; rintro r wi ⟨Ai, ci, rfl, hsi, hbi⟩)
        | (go_at_call 15
           first
             | ((with_reducible refine (HP4.out _ _ _ _ _ (h'.below hbi) hsi).mono ?_); rintro r wp ⟨Ap, cp, rfl, hsp, hbp⟩)
             | ((with_reducible refine (HP4.out _ _ _ _ _ ((h'.below hbi).alloc _) (hsi.alloc _)).mono ?_); rintro r wp ⟨Ap, cp, rfl, hsp, hbp⟩; have bz := (Box3.newAt (W := wi) (g := wi.heap.size) rfl false none 0 0 0).ext hbp; have z0 := bz.c0; have z1 := bz.c1; have z2 := bz.c2; have y0 := bz.fr 0; have y1 := bz.fr 1; have y2 := bz.fr 2)
             | ((with_reducible refine (HP4.out _ _ _ _ _ (ha.below hbi) hsi).mono ?_); rintro r wp ⟨Ap, cp, rfl, hsp, hbp⟩; have bz := bza.ext (hbi.trans hbp); have z0 := bz.c0; have z1 := bz.c1; have z2 := bz.c2; have y0 := bz.fr 0; have y1 := bz.fr 1; have y2 := bz.fr 2)))
    · go_wp2_with fail; go_meet; exact VarD.new hsp ((Ext.drew _).trans (hbi.trans hbp))
    · go_wp2_with fail; go_meet; exact VarD.set bz hsp ((Ext.drew _).trans ((hbi.trans (Ext.alloc _ _)).trans hbp)) hbi.size
    · go_wp2_with fail; go_meet; exact VarD.set bz hsp (((Ext.alloc _ _).trans (Ext.drew _)).trans (hbi.trans hbp)) (Nat.le_refl _)
  obtain ⟨g_b10, A_h10, c_h10, rfl, b10, h10, hb⟩ := hcut
  replace hE := hE.trans hb; replace hs := hs.below hb; replace hTb := hTb.below hb; replace h3 := h3.below hb; replace h4 := h4.below hb; replace h5 := h5.below hb; replace h9 := h9.below hb; replace b1 := b1.ext hb; replace b2 := b2.ext hb; replace b3 := b3.ext hb; replace b4 := b4.ext hb; replace b9 := b9.ext hb
  clear hb
  have xb20 := b2.c0; have xb21 := b2.c1; have xb22 := b2.c2
  have xb40 := b4.c0; have xb41 := b4.c1; have xb42 := b4.c2
  go_wp2_with fail
  refine (HQ.out _ _ _ _ _ h3 h5).mono ?_
  rintro r w9 ⟨rfl, hb⟩
  clear xb20 xb21 xb22 xb40 xb41 xb42
  replace hE := hE.trans hb; replace hs := hs.below hb; replace hTb := hTb.below hb; replace h3 := h3.below hb; replace h4 := h4.below hb; replace h5 := h5.below hb; replace h9 := h9.below hb; replace h10 := h10.below hb; replace b1 := b1.ext hb; replace b2 := b2.ext hb; replace b3 := b3.ext hb; replace b4 := b4.ext hb; replace b9 := b9.ext hb; replace b10 := b10.ext hb
  clear hb
  have xb20 := b2.c0; have xb21 := b2.c1; have xb22 := b2.c2
  go_wp2_with fail
  refine (HBt.out _ _ _ h3).mono ?_
  rintro r w10 ⟨rfl, hb⟩
  clear xb20 xb21 xb22
  replace hE := hE.trans hb; replace hs := hs.below hb; replace hTb := hTb.below hb; replace h3 := h3.below hb; replace h4 := h4.below hb; replace h5 := h5.below hb; replace h9 := h9.below hb; replace h10 := h10.below hb; replace b1 := b1.ext hb; replace b2 := b2.ext hb; replace b3 := b3.ext hb; replace b4 := b4.ext hb; replace b9 := b9.ext hb; replace b10 := b10.ext hb
  clear hb
  have xb20 := b2.c0; have xb21 := b2.c1; have xb22 := b2.c2
  have xb10 := b1.c0; have xb11 := b1.c1; have xb12 := b1.c2
  go_wp2_with fail
  refine (HC.out _ _ _ h3 hs).mono ?_
  rintro r w11 ⟨rfl, hb⟩
  clear xb20 xb21 xb22 xb10 xb11 xb12
  replace hE := hE.trans hb; replace hs := hs.below hb; replace hTb := hTb.below hb; replace h3 := h3.below hb; replace h4 := h4.below hb; replace h5 := h5.below hb; replace h9 := h9.below hb; replace h10 := h10.below hb; replace b1 := b1.ext hb; replace b2 := b2.ext hb; replace b3 := b3.ext hb; replace b4 := b4.ext hb; replace b9 := b9.ext hb; replace b10 := b10.ext hb
  clear hb
  have xb90 := b9.c0; have xb91 := b9.c1; have xb92 := b9.c2
  have xb100 := b10.c0; have xb101 := b10.c1; have xb102 := b10.c2
  go_wp2_with fail
  refine (HK.out _ _ _ _ _ h9 h10).mono ?_
  rintro r w12 ⟨rfl, hb⟩
  clear xb90 xb91 xb92 xb100 xb101 xb102
  replace hE := hE.trans hb; replace hs := hs.below hb; replace hTb := hTb.below hb; replace h3 := h3.below hb; replace h4 := h4.below hb; replace h5 := h5.below hb; replace h9 := h9.below hb; replace h10 := h10.below hb; replace b1 := b1.ext hb; replace b2 := b2.ext hb; replace b3 := b3.ext hb; replace b4 := b4.ext hb; replace b9 := b9.ext hb; replace b10 := b10.ext hb
  clear hb
  go_wp2
  go_ret
  exact ⟨rfl, hE⟩

theorem lawNice_any (s : Bool) (A : Option Addr) (c : Nat) (L : List Nat) (e : Int) (w : World) (hs : Sl w A c L) (he1 : -9223372036854775808 ≤ e) (he2 : e ≤ 9223372036854775807) (hTb : Tb w) :
    Calls Tryd.prog 4 #[.agg #[.bool s, .slice A L.length c, .int .i64 e]] w fun r w' => r = .returned (.bool true) ∧ Ext w w' := by
  by_cases hl : L.length ≤ 300
  · by_cases hp : Dok s L e ∧ 0 < Dy.sign ⟨s, val L, e⟩
    · obtain ⟨d, hv, rfl, rfl, rfl, hm⟩ := hp.1.dy hs
      have h2 := hp.2
      rw [hm] at h2
      exact lawNice_yes d A c w hs hTb hv h2
    · exact lawNice_no s A c L e w hs hl he1 he2 hTb hp
  · have HA := Lib.hid (fun w (h : Tb w) => awake_any w h)
    have HL := Lib.hid (fun w => lawLong_any s A L.length c e w)
    have hl1 : decide (300 < (L.length : Int)) = true := decide_eq_true (by omega)
    have hl2 : decide (300 < L.length) = true := decide_eq_true (by omega)
    have hE := Ext.alloc w (.cells #[.bool s, .slice A L.length c, .int .i64 e] 24)
    have b1 := Box3.newAt (W := w) (g := w.heap.size) (by simp) s A L.length c e
    replace hTb := hTb.below hE
    go_enter Tryd.func4, Tryd.ntmps4
    go_wp2_with fail
    refine (HA.out _ hTb).mono ?_
    rintro r w1 ⟨rfl, hb⟩
    replace hE := hE.trans hb; replace hTb := hTb.below hb; replace b1 := b1.ext hb
    clear hb
    have xb10 := b1.c0; have xb11 := b1.c1; have xb12 := b1.c2
    go_wp2_with fail
    refine (HL.out _ ).mono ?_
    rintro r w2 ⟨rfl, hb⟩
    clear xb10 xb11 xb12
    replace hE := hE.trans hb; replace hTb := hTb.below hb; replace b1 := b1.ext hb
    clear hb
    go_wp2_with fail
    refine (HA.out _ hTb).mono ?_
    rintro r w3 ⟨rfl, hb⟩
    replace hE := hE.trans hb; replace hTb := hTb.below hb; replace b1 := b1.ext hb
    clear hb
    go_wp2
    go_ret
    exact ⟨rfl, hE⟩
end Go.Proofs.YtofdlkgpgcnjhaaDoor
