/- Walks: the sum of two numbers. -/
import Derived.Test.YtofdlkgpgcnjhaaDoorAf
import Derived.Test.YtofdlkgpgcnjhaaDoorPs
import Derived.Test.YtofdlkgpgcnjhaaDoorKd
namespace Go.Proofs.YtofdlkgpgcnjhaaDoor
open Go.RowKit Fp

theorem checked_any (d : Dy) (A : Option Addr) (c : Nat) (w : World) (hs : Sl w A c (limbs d.m)) (hl : (limbs d.m).length ≤ 100000000) (he1 : -10000000 ≤ d.e) (he2 : d.e ≤ 10000000) :
    Calls Tryd.prog 55 #[DV d A c] w (RetDE w (chk d) (chkE d)) := by
  by_cases hd : inRange d
  · rw [chk_yes hd, chkE_yes hd]; exact checked_yes d A c w hs hl he1 he2 hd
  · rw [chk_no hd, chkE_no hd]; exact checked_no d A c w hs hl he1 he2 hd

theorem canon_le (s : Bool) (m : Nat) (e : Int) {n : Nat} (hm : (limbs m).length ≤ n) : (limbs (canon s m e).m).length ≤ n ∧ e ≤ max (canon s m e).e e ∧ ((canon s m e).e ≤ max 0 (e + 32 * n)) ∧ min 0 e ≤ (canon s m e).e := by
  unfold canon
  by_cases h0 : m = 0
  · rw [if_pos h0]; simp only [limbs_zero]
    exact ⟨Nat.zero_le _, by omega, by omega, by omega⟩
  · rw [if_neg h0]
    have h1 : ctzN m < 32 * n := by
      have h1 := pow_ctz_le h0
      have h2 := lt_of_limbs_length hm
      rw [pow32] at h2
      exact (Nat.pow_lt_pow_iff_right (by decide : 1 < 2)).1 (Nat.lt_of_le_of_lt h1 h2)
    exact ⟨Nat.le_trans (limbs_len_mono (Nat.div_le_self _ _)) hm, by omega, by simp only; omega, by simp only; omega⟩

/-- The canonical form, as the program makes it. -/
theorem canonical_dy (s : Bool) (m : Nat) (e : Int) (A : Option Addr) (c : Nat) (w : World) (hs : Sl w A c (limbs m)) (hl : (limbs m).length ≤ 256) (he1 : -1000000 ≤ e) (he2 : e ≤ 1000000) (hTb : Tb w) :
    Calls Tryd.prog 56 #[.bool s, .slice A (limbs m).length c, .int .i64 e] w (RetD w (canon s m e)) := by
  have := dyCanon_any s A c (limbs m) e w hs (by omega) (by have := tlen_le (limbs m); unfold tlen at this; omega) he1 he2 hTb
  rw [val_limbs] at this
  exact this

theorem nil_len {m : Nat} (h : m = 0) : (((limbs m).length : Int) == 0) = true := by rw [h, limbs_zero]; rfl
theorem pos_len {m : Nat} (h : m ≠ 0) : (((limbs m).length : Int) == 0) = false := by
  refine beq_eq_false_iff_ne.2 ?_
  have : limbs m ≠ [] := fun e => h (limbs_eq_nil.1 e)
  have := List.length_pos_iff.2 this
  omega

set_option maxHeartbeats 4000000 in
theorem dySum_a0 (a b : Dy) (A B : Option Addr) (c d : Nat) (w : World) (_hs : Sl w A c (limbs a.m)) (hr : Sl w B d (limbs b.m)) (hTb : Tb w) (hb : b.Valid) (h0 : a.m = 0) :
    Calls Tryd.prog 45 #[DV a A c, DV b B d] w (RetDE w (chk (sumD a b)) (chkE (sumD a b))) := by
  have hsum : sumD a b = b := by unfold sumD; rw [if_pos h0]
  rw [hsum, chk_yes hb.range, chkE_yes hb.range]
  have hl := hb.len
  obtain ⟨he1, he2⟩ := hb.exp
  have HC := Lib.hid (fun w (h : Sl w B d (limbs b.m)) (ht : Tb w) => canonical_dy b.neg b.m b.e B d w h hl (by omega) (by omega) ht)
  rw [hb.canon.canon_eq] at HC
  have n0 := nil_len h0
  clear hsum h0
  have hE := ((Ext.alloc w (.cells #[.bool b.neg, .slice B ((limbs b.m).length) d, .int .i64 b.e] 24)).trans (Ext.alloc (w.alloc (.cells #[.bool b.neg, .slice B ((limbs b.m).length) d, .int .i64 b.e] 24)) (.cells #[.bool b.neg, .slice B ((limbs b.m).length) d, .int .i64 b.e] 24))).trans (Ext.alloc ((w.alloc (.cells #[.bool b.neg, .slice B ((limbs b.m).length) d, .int .i64 b.e] 24)).alloc (.cells #[.bool b.neg, .slice B ((limbs b.m).length) d, .int .i64 b.e] 24)) (.cells #[.bool false, .slice none 0 0, .int .i64 0] 24))
  have b1 := ((Box3.newAt (W := w) (g := w.heap.size) (by simp) b.neg B ((limbs b.m).length) d b.e).alloc (.cells #[.bool b.neg, .slice B ((limbs b.m).length) d, .int .i64 b.e] 24)).alloc (.cells #[.bool false, .slice none 0 0, .int .i64 0] 24)
  have b2 := (Box3.newAt (W := (w.alloc (.cells #[.bool b.neg, .slice B ((limbs b.m).length) d, .int .i64 b.e] 24))) (g := w.heap.size + 1) (by simp) b.neg B ((limbs b.m).length) d b.e).alloc (.cells #[.bool false, .slice none 0 0, .int .i64 0] 24)
  have b3 := Box3.newAt (W := ((w.alloc (.cells #[.bool b.neg, .slice B ((limbs b.m).length) d, .int .i64 b.e] 24)).alloc (.cells #[.bool b.neg, .slice B ((limbs b.m).length) d, .int .i64 b.e] 24))) (g := w.heap.size + 2) (by simp) false none 0 0 0
  replace hr := hr.below hE; replace hTb := hTb.below hE
  go_enter Tryd.func45, Tryd.ntmps45
  go_wp2_with fail
  (with_reducible refine (HC.out _ hr hTb).mono ?_)
  rintro r w1 ⟨A_h4, c_h4, rfl, h4, hb⟩
  replace hE := hE.trans hb; replace hr := hr.below hb; replace hTb := hTb.below hb; replace b1 := b1.ext hb; replace b2 := b2.ext hb; replace b3 := b3.ext hb
  clear hb
  have xb30 := b3.c0; have yb30 := b3.fr 0; have xb31 := b3.c1; have yb31 := b3.fr 1; have xb32 := b3.c2; have yb32 := b3.fr 2
  go_wp2
  exact dy_rete (d := b) rfl rfl rfl rfl (b3.set _ _ _ _ _) rfl (b3.set_sl h4 _ _ _ _ _) (Box3.set_ext hE (by omega) _ _ _ _ _)

set_option maxHeartbeats 4000000 in
theorem dySum_b0 (a b : Dy) (A B : Option Addr) (c d : Nat) (w : World) (hs : Sl w A c (limbs a.m)) (hTb : Tb w) (ha : a.Valid) (h1 : a.m ≠ 0) (h0 : b.m = 0) :
    Calls Tryd.prog 45 #[DV a A c, DV b B d] w (RetDE w (chk (sumD a b)) (chkE (sumD a b))) := by
  have hsum : sumD a b = a := by unfold sumD; rw [if_neg h1, if_pos h0]
  rw [hsum, chk_yes ha.range, chkE_yes ha.range]
  have hl := ha.len
  obtain ⟨he1, he2⟩ := ha.exp
  have HC := Lib.hid (fun w (h : Sl w A c (limbs a.m)) (ht : Tb w) => canonical_dy a.neg a.m a.e A c w h hl (by omega) (by omega) ht)
  rw [ha.canon.canon_eq] at HC
  have n0 := nil_len h0
  have n1 := pos_len h1
  clear hsum h0 h1
  have hE := ((Ext.alloc w (.cells #[.bool a.neg, .slice A ((limbs a.m).length) c, .int .i64 a.e] 24)).trans (Ext.alloc (w.alloc (.cells #[.bool a.neg, .slice A ((limbs a.m).length) c, .int .i64 a.e] 24)) (.cells #[.bool b.neg, .slice B ((limbs b.m).length) d, .int .i64 b.e] 24))).trans (Ext.alloc ((w.alloc (.cells #[.bool a.neg, .slice A ((limbs a.m).length) c, .int .i64 a.e] 24)).alloc (.cells #[.bool b.neg, .slice B ((limbs b.m).length) d, .int .i64 b.e] 24)) (.cells #[.bool false, .slice none 0 0, .int .i64 0] 24))
  have b1 := ((Box3.newAt (W := w) (g := w.heap.size) (by simp) a.neg A ((limbs a.m).length) c a.e).alloc (.cells #[.bool b.neg, .slice B ((limbs b.m).length) d, .int .i64 b.e] 24)).alloc (.cells #[.bool false, .slice none 0 0, .int .i64 0] 24)
  have b2 := (Box3.newAt (W := (w.alloc (.cells #[.bool a.neg, .slice A ((limbs a.m).length) c, .int .i64 a.e] 24))) (g := w.heap.size + 1) (by simp) b.neg B ((limbs b.m).length) d b.e).alloc (.cells #[.bool false, .slice none 0 0, .int .i64 0] 24)
  have b3 := Box3.newAt (W := ((w.alloc (.cells #[.bool a.neg, .slice A ((limbs a.m).length) c, .int .i64 a.e] 24)).alloc (.cells #[.bool b.neg, .slice B ((limbs b.m).length) d, .int .i64 b.e] 24))) (g := w.heap.size + 2) (by simp) false none 0 0 0
  replace hs := hs.below hE; replace hTb := hTb.below hE
  go_enter Tryd.func45, Tryd.ntmps45
  go_wp2_with fail
  (with_reducible refine (HC.out _ hs hTb).mono ?_)
  rintro r w1 ⟨A_h4, c_h4, rfl, h4, hb⟩
  replace hE := hE.trans hb; replace hs := hs.below hb; replace hTb := hTb.below hb; replace b1 := b1.ext hb; replace b2 := b2.ext hb; replace b3 := b3.ext hb
  clear hb
  have xb30 := b3.c0; have yb30 := b3.fr 0; have xb31 := b3.c1; have yb31 := b3.fr 1; have xb32 := b3.c2; have yb32 := b3.fr 2
  go_wp2
  exact dy_rete (d := a) rfl rfl rfl rfl (b3.set _ _ _ _ _) rfl (b3.set_sl h4 _ _ _ _ _) (Box3.set_ext hE (by omega) _ _ _ _ _)

theorem dyTop_dy (a : Dy) (A : Option Addr) (c : Nat) (w : World) (h : Sl w A c (limbs a.m)) (ha : a.Valid) :
    Calls Tryd.prog 61 #[DV a A c] w fun e w' => e = .returned (.int .i64 a.top) ∧ Ext w w' := by
  have := dyTop_any a.neg A c (limbs a.m) a.e w h ha.dok
  rw [val_limbs] at this
  exact this

/-- A slice of limbs, as a value. -/
def SlV (L : List Nat) (w : World) (v : Value) : Prop := ∃ A c, v = .slice A L.length c ∧ Sl w A c L

theorem zero_rete {fn : Func} {p t : Tmp} (h : fn.results = #[.cell p 24, .tmp t]) {a : Act} {w W : World} {k : Int} {g : Nat}
    (hp : a.tmps.getD p undef = .pointer (some ⟨g, 0, none⟩)) (ht : a.tmps.getD t undef = .int .i64 k) (hd : a.defers = []) (hb : Box3 W g false none 0 0 0) (he : Ext w W) :
    bodyPost Tryd.prog fn (RetDE w zeroD k) .ret a W :=
  dy_rete (d := zeroD) h hp ht hd hb (by rw [show zeroD.m = 0 from rfl, limbs_zero]; rfl) (by rw [show zeroD.m = 0 from rfl, limbs_zero]; exact Sl.nil _) he

set_option maxRecDepth 100000 in
set_option maxHeartbeats 8000000 in
theorem dySum_nz (a b : Dy) (A B : Option Addr) (c d : Nat) (w : World) (hs : Sl w A c (limbs a.m)) (hr : Sl w B d (limbs b.m)) (hTb : Tb w) (ha : a.Valid) (hb : b.Valid) (a0 : a.m ≠ 0) (b0 : b.m ≠ 0) :
    Calls Tryd.prog 45 #[DV a A c, DV b B d] w (RetDE w (chk (sumD a b)) (chkE (sumD a b))) := by
  have n1 := pos_len a0
  have n2 := pos_len b0
  have la := ha.len
  have lb := hb.len
  obtain ⟨ea1, ea2⟩ := ha.exp
  obtain ⟨eb1, eb2⟩ := hb.exp
  obtain ⟨k, hk⟩ : ∃ k, min a.e b.e = k := ⟨_, rfl⟩
  have hka : k ≤ a.e := by omega
  have hkb : k ≤ b.e := by omega
  have hk1 : -16384 ≤ k := by omega
  have hk2 : k ≤ 16384 := by omega
  have HTa := Lib.hid (fun w (h : Sl w A c (limbs a.m)) => dyTop_dy a A c w h ha)
  have HTb := Lib.hid (fun w (h : Sl w B d (limbs b.m)) => dyTop_dy b B d w h hb)
  have HBIG := Lib.hid (fun h1 h2 => sum_big ha hb a0 b0 hk h1 h2)
  have HFIT := Lib.hid (fun h => sum_fits ha hb a0 b0 hk h)
  have HS1 := Lib.hid (fun (h : a.neg = b.neg) => show sumD a b = canon a.neg (a.m * 2 ^ (a.e - k).toNat + b.m * 2 ^ (b.e - k).toNat) k from by
    have := sumD_same (s := a.neg) a0 b0 hk
    rw [← this, show (⟨a.neg, b.m, b.e⟩ : Dy) = b by rw [h]])
  have HS2 := Lib.hid (fun (h : a.neg ≠ b.neg) (hge : b.m * 2 ^ (b.e - k).toNat ≤ a.m * 2 ^ (a.e - k).toNat) => sumD_ge a0 b0 hk h hge)
  have HS3 := Lib.hid (fun (h : a.neg ≠ b.neg) (hge : a.m * 2 ^ (a.e - k).toNat < b.m * 2 ^ (b.e - k).toNat) => sumD_lt a0 b0 hk h hge)
  have hta : -16384 ≤ a.top ∧ a.top ≤ 16384 := by unfold Dy.top; rw [if_neg a0]; have := ha.top_le a0; omega
  have htb : -16384 ≤ b.top ∧ b.top ≤ 16384 := by unfold Dy.top; rw [if_neg b0]; have := hb.top_le b0; omega
  obtain ⟨hta1, hta2⟩ := hta
  obtain ⟨htb1, htb2⟩ := htb
  obtain ⟨S, hS⟩ : ∃ S, sumD a b = S := ⟨_, rfl⟩
  rw [hS] at HBIG HS1 ⊢
  have HS2 := Lib.hid (fun h h' => hS ▸ HS2.out h h')
  have HS3 := Lib.hid (fun h h' => hS ▸ HS3.out h h')
  have HXa := Lib.hid (fun w (h : Sl w A c (limbs a.m)) (hf : (limbs (a.m * 2 ^ (a.e - k).toNat)).length ≤ 256) => shifted_int A c (limbs a.m) (a.e - k) w h la (by omega) (by omega) (by rw [val_limbs]; exact hf))
  have HXb := Lib.hid (fun w (h : Sl w B d (limbs b.m)) (hf : (limbs (b.m * 2 ^ (b.e - k).toNat)).length ≤ 256) => shifted_int B d (limbs b.m) (b.e - k) w h lb (by omega) (by omega) (by rw [val_limbs]; exact hf))
  rw [val_limbs] at HXa HXb
  generalize a.m * 2 ^ (a.e - k).toNat = x at *
  generalize b.m * 2 ^ (b.e - k).toNat = y at *
  generalize a.top = ta at *
  generalize b.top = tb at *
  obtain ⟨mx, hmx⟩ : ∃ mx, max ta tb = mx := ⟨_, rfl⟩
  have hm1 : -16384 ≤ mx ∧ mx ≤ 16384 := by omega
  obtain ⟨hm1, hm2⟩ := hm1
  rw [hmx] at HBIG HFIT
  have hTb0 := hTb
  have hs0 := hs
  have hr0 := hr
  clear a0 b0 hS
  have hE := ((Ext.alloc w (.cells #[.bool a.neg, .slice A ((limbs a.m).length) c, .int .i64 a.e] 24)).trans (Ext.alloc (w.alloc (.cells #[.bool a.neg, .slice A ((limbs a.m).length) c, .int .i64 a.e] 24)) (.cells #[.bool b.neg, .slice B ((limbs b.m).length) d, .int .i64 b.e] 24))).trans (Ext.alloc ((w.alloc (.cells #[.bool a.neg, .slice A ((limbs a.m).length) c, .int .i64 a.e] 24)).alloc (.cells #[.bool b.neg, .slice B ((limbs b.m).length) d, .int .i64 b.e] 24)) (.cells #[.bool false, .slice none 0 0, .int .i64 0] 24))
  have b1 := ((Box3.newAt (W := w) (g := w.heap.size) (by simp) a.neg A ((limbs a.m).length) c a.e).alloc (.cells #[.bool b.neg, .slice B ((limbs b.m).length) d, .int .i64 b.e] 24)).alloc (.cells #[.bool false, .slice none 0 0, .int .i64 0] 24)
  have b2 := (Box3.newAt (W := (w.alloc (.cells #[.bool a.neg, .slice A ((limbs a.m).length) c, .int .i64 a.e] 24))) (g := w.heap.size + 1) (by simp) b.neg B ((limbs b.m).length) d b.e).alloc (.cells #[.bool false, .slice none 0 0, .int .i64 0] 24)
  have b3 := Box3.newAt (W := ((w.alloc (.cells #[.bool a.neg, .slice A ((limbs a.m).length) c, .int .i64 a.e] 24)).alloc (.cells #[.bool b.neg, .slice B ((limbs b.m).length) d, .int .i64 b.e] 24))) (g := w.heap.size + 2) (by simp) false none 0 0 0
  replace hs := hs.below hE; replace hr := hr.below hE; replace hTb := hTb.below hE
  go_enter Tryd.func45, Tryd.ntmps45
  have xb10 := b1.c0; have xb11 := b1.c1; have xb12 := b1.c2
  have xb20 := b2.c0; have xb21 := b2.c1; have xb22 := b2.c2
  go_upto_region 6 with fail
  clear xb10 xb11 xb12 xb20 xb21 xb22
  obtain ⟨W1, hW⟩ : ∃ W, (((w.alloc (.cells #[.bool a.neg, .slice A ((limbs a.m).length) c, .int .i64 a.e] 24)).alloc (.cells #[.bool b.neg, .slice B ((limbs b.m).length) d, .int .i64 b.e] 24)).alloc (.cells #[.bool false, .slice none 0 0, .int .i64 0] 24)) = W := ⟨_, rfl⟩
  rw [hW] at hs hr hTb b1 b2 b3 hE ⊢
  clear hW
  go_cut [7, 8] (fun s0 s1 wx => s0 = (.int .i64 ta) ∧ s1 = (.int .i64 tb) ∧ Ext W1 wx)
  case first =>
    have b1' := b1.drew; have b2' := b2.drew; have hs' := hs.drew; have hr' := hr.drew
    go_region_held3 (fun w' => w'.cell? ⟨w.heap.size, 0, none⟩ = some (.bool a.neg) ∧ w'.cell? ⟨w.heap.size, 1, none⟩ = some (.slice A ((limbs a.m).length) c) ∧ w'.cell? ⟨w.heap.size, 2, none⟩ = some (.int .i64 a.e) ∧ w'.cell? ⟨w.heap.size + 1, 0, none⟩ = some (.bool b.neg) ∧ w'.cell? ⟨w.heap.size + 1, 1, none⟩ = some (.slice B ((limbs b.m).length) d) ∧ w'.cell? ⟨w.heap.size + 1, 2, none⟩ = some (.int .i64 b.e))
      (first | with_reducible exact ⟨(b1').c0, (b1').c1, (b1').c2, (b2').c0, (b2').c1, (b2').c2⟩ | with_reducible exact ⟨(b1'.ext hb0).c0, (b1'.ext hb0).c1, (b1'.ext hb0).c2, (b2'.ext hb0).c0, (b2'.ext hb0).c1, (b2'.ext hb0).c2⟩ | with_reducible exact ⟨(b1'.ext hb1).c0, (b1'.ext hb1).c1, (b1'.ext hb1).c2, (b2'.ext hb1).c0, (b2'.ext hb1).c1, (b2'.ext hb1).c2⟩ | with_reducible exact ⟨(b1'.ext (hb0.trans hb1)).c0, (b1'.ext (hb0.trans hb1)).c1, (b1'.ext (hb0.trans hb1)).c2, (b2'.ext (hb0.trans hb1)).c0, (b2'.ext (hb0.trans hb1)).c1, (b2'.ext (hb0.trans hb1)).c2⟩ | with_reducible exact ⟨(b1'.ext (hb1.trans hb0)).c0, (b1'.ext (hb1.trans hb0)).c1, (b1'.ext (hb1.trans hb0)).c2, (b2'.ext (hb1.trans hb0)).c0, (b2'.ext (hb1.trans hb0)).c1, (b2'.ext (hb1.trans hb0)).c2⟩)
      (first
        | (go_at_call_of 61 (Value.agg #[.bool a.neg, .slice A (limbs a.m).length c, .int .i64 a.e]); (first | (with_reducible refine (HTa.out _ hs').mono ?_) | (with_reducible refine (HTa.out _ (hs'.below hb1)).mono ?_)); rintro r wx0 ⟨rfl, hb0⟩)
        | (go_at_call_of 61 (Value.agg #[.bool b.neg, .slice B (limbs b.m).length d, .int .i64 b.e]); (first | (with_reducible refine (HTb.out _ hr').mono ?_) | (with_reducible refine (HTb.out _ (hr'.below hb0)).mono ?_)); rintro r wx1 ⟨rfl, hb1⟩))
    all_goals (go_wp2_with fail; go_meet; (first | exact ⟨rfl, rfl, (Ext.drew _).trans (hb0.trans hb1)⟩ | exact ⟨rfl, rfl, (Ext.drew _).trans (hb1.trans hb0)⟩))
  obtain ⟨rfl, rfl, hb⟩ := hcut
  replace hE := hE.trans hb; replace hs := hs.below hb; replace hr := hr.below hb; replace hTb := hTb.below hb; replace b1 := b1.ext hb; replace b2 := b2.ext hb; replace b3 := b3.ext hb
  clear hb
  go_upto_region 7 with fail
  go_cut [63] (fun s wx => s = .bool (decide (4097 < mx - k ∧ (1 < ta - tb ∨ 1 < tb - ta))) ∧ wx = wc)
  case first =>
    by_cases c1 : 4097 < mx - k
    · by_cases c2 : 1 < ta - tb
      · go_wp2
        go_meet
        exact ⟨congrArg Value.bool (decide_eq_true ⟨c1, .inl c2⟩).symm, rfl⟩
      · by_cases c3 : 1 < tb - ta
        · go_wp2
          go_meet
          exact ⟨congrArg Value.bool (decide_eq_true ⟨c1, .inr c3⟩).symm, rfl⟩
        · go_wp2
          go_meet
          exact ⟨congrArg Value.bool (decide_eq_false (by omega)).symm, rfl⟩
    · go_wp2
      go_meet
      exact ⟨congrArg Value.bool (decide_eq_false (by omega)).symm, rfl⟩
  obtain ⟨rfl, hwc⟩ := hcut
  subst hwc
  by_cases hB : 4097 < mx - k ∧ (1 < ta - tb ∨ 1 < tb - ta)
  · have hd : decide (4097 < mx - k ∧ (1 < ta - tb ∨ 1 < tb - ta)) = true := decide_eq_true hB
    have hno := Lib.hid (HBIG.out hB.1 hB.2)
    rw [hd]
    clear hB hd
    have xb30 := b3.c0; have yb30 := b3.fr 0; have xb31 := b3.c1; have yb31 := b3.fr 1; have xb32 := b3.c2; have yb32 := b3.fr 2
    go_wp2
    rw [chk_no hno.out, chkE_no hno.out]
    exact zero_rete rfl rfl rfl rfl (b3.set _ _ _ _ _) (Box3.set_ext hE (by omega) _ _ _ _ _)
  · have hd : decide (4097 < mx - k ∧ (1 < ta - tb ∨ 1 < tb - ta)) = false := decide_eq_false hB
    obtain ⟨hx1, hy1⟩ := HFIT.out hB
    have HXY := Lib.hid (limbs_len_bits (k := 129) (Nat.le_trans (bitsN_add hx1 hy1) (by decide)))
    have hx2 := limbs_len_bits (k := 129) (Nat.le_trans hx1 (by decide))
    have hy2 := limbs_len_bits (k := 129) (Nat.le_trans hy1 (by decide))
    have HXa2 := Lib.hid (fun w h => HXa.out w h (by omega))
    have HXb2 := Lib.hid (fun w h => HXb.out w h (by omega))
    rw [hd]
    clear hB hd hx1 hy1 hmx HBIG HFIT HXa HXb HTa HTb
    have hwe : IntKind.i64.wrap (a.e - k) = a.e - k := i64_in _ (by omega) (by omega)
    have hwf : IntKind.i64.wrap (b.e - k) = b.e - k := i64_in _ (by omega) (by omega)
    have xb10 := b1.c0; have xb11 := b1.c1; have xb12 := b1.c2
    have xb20 := b2.c0; have xb21 := b2.c1; have xb22 := b2.c2
    go_upto_region 9 with fail
    clear xb10 xb11 xb12 xb20 xb21 xb22
    go_cut [9, 10] (fun s0 s1 wx => SlV ((limbs x)) wx s0 ∧ SlV ((limbs y)) wx s1 ∧ Ext wc wx)
    case first =>
      have b1' := b1.drew; have b2' := b2.drew; have hs' := hs.drew; have hr' := hr.drew
      go_region_held3 (fun w' => w'.cell? ⟨w.heap.size, 0, none⟩ = some (.bool a.neg) ∧ w'.cell? ⟨w.heap.size, 1, none⟩ = some (.slice A ((limbs a.m).length) c) ∧ w'.cell? ⟨w.heap.size, 2, none⟩ = some (.int .i64 a.e) ∧ w'.cell? ⟨w.heap.size + 1, 0, none⟩ = some (.bool b.neg) ∧ w'.cell? ⟨w.heap.size + 1, 1, none⟩ = some (.slice B ((limbs b.m).length) d) ∧ w'.cell? ⟨w.heap.size + 1, 2, none⟩ = some (.int .i64 b.e))
        (first | with_reducible exact ⟨(b1').c0, (b1').c1, (b1').c2, (b2').c0, (b2').c1, (b2').c2⟩ | with_reducible exact ⟨(b1'.ext hb0).c0, (b1'.ext hb0).c1, (b1'.ext hb0).c2, (b2'.ext hb0).c0, (b2'.ext hb0).c1, (b2'.ext hb0).c2⟩ | with_reducible exact ⟨(b1'.ext hb1).c0, (b1'.ext hb1).c1, (b1'.ext hb1).c2, (b2'.ext hb1).c0, (b2'.ext hb1).c1, (b2'.ext hb1).c2⟩ | with_reducible exact ⟨(b1'.ext (hb0.trans hb1)).c0, (b1'.ext (hb0.trans hb1)).c1, (b1'.ext (hb0.trans hb1)).c2, (b2'.ext (hb0.trans hb1)).c0, (b2'.ext (hb0.trans hb1)).c1, (b2'.ext (hb0.trans hb1)).c2⟩ | with_reducible exact ⟨(b1'.ext (hb1.trans hb0)).c0, (b1'.ext (hb1.trans hb0)).c1, (b1'.ext (hb1.trans hb0)).c2, (b2'.ext (hb1.trans hb0)).c0, (b2'.ext (hb1.trans hb0)).c1, (b2'.ext (hb1.trans hb0)).c2⟩)
        (first
          | (go_at_call_of 63 (Value.slice A (limbs a.m).length c); (first | (with_reducible refine (HXa2.out _ hs').mono ?_) | (with_reducible refine (HXa2.out _ (hs'.below hb1)).mono ?_)); rintro r wx0 ⟨A0, c0, rfl, hn0, hb0⟩)
          | (go_at_call_of 63 (Value.slice B (limbs b.m).length d); (first | (with_reducible refine (HXb2.out _ hr').mono ?_) | (with_reducible refine (HXb2.out _ (hr'.below hb0)).mono ?_)); rintro r wx1 ⟨A1, c1, rfl, hn1, hb1⟩))
      all_goals (go_wp2_with fail; go_meet; (first | exact ⟨⟨_, _, rfl, hn0.below hb1⟩, ⟨_, _, rfl, hn1⟩, (Ext.drew _).trans (hb0.trans hb1)⟩ | exact ⟨⟨_, _, rfl, hn0⟩, ⟨_, _, rfl, hn1.below hb0⟩, (Ext.drew _).trans (hb1.trans hb0)⟩))
    obtain ⟨⟨A_hx, c_hx, rfl, hx⟩, ⟨A_hy, c_hy, rfl, hy⟩, hb⟩ := hcut
    replace hE := hE.trans hb; replace hs := hs.below hb; replace hr := hr.below hb; replace hTb := hTb.below hb; replace b1 := b1.ext hb; replace b2 := b2.ext hb; replace b3 := b3.ext hb
    clear hb
    have HA := Lib.hid (fun w A c B d (h : Sl w A c (limbs x)) (k : Sl w B d (limbs y)) => natAdd_ok A B c d (limbs x) (limbs y) w h k (by omega) (by omega) (by rw [val_limbs, val_limbs]; exact Nat.le_trans HXY.out (by decide)))
    rw [val_limbs, val_limbs] at HA
    by_cases hn : a.neg = b.neg
    · have e1 : (a.neg == b.neg) = true := by rw [hn]; exact beq_self_eq_true _
      have hD := Lib.hid (HS1.out hn)
      have HO := Lib.hid (fun w A c (h : Sl w A c (limbs (x + y))) (ht : Tb w) => canonical_dy a.neg (x + y) k A c w h (Nat.le_trans HXY.out (by decide)) (by omega) (by omega) ht)
      clear hn
      have hcl := canon_le a.neg (x + y) k HXY.out
      have HK := Lib.hid (fun w A c (h : Sl w A c (limbs (canon a.neg (x + y) k).m)) => checked_any (canon a.neg (x + y) k) A c w h (by omega) (by omega) (by omega))
      generalize canon a.neg (x + y) k = D at *
      clear hcl HS1 HS2 HS3
      have xb10 := b1.c0; have xb11 := b1.c1; have xb12 := b1.c2
      have xb20 := b2.c0; have xb21 := b2.c1; have xb22 := b2.c2
      go_wp2_with fail
      (with_reducible refine (HA.out _ _ _ _ _ hx hy).mono ?_)
      rintro r w2 ⟨A3, c3, rfl, h3, hb⟩
      clear xb10 xb11 xb12 xb20 xb21 xb22
      replace hE := hE.trans hb; replace hs := hs.below hb; replace hr := hr.below hb; replace hTb := hTb.below hb; replace hx := hx.below hb; replace hy := hy.below hb; replace b1 := b1.ext hb; replace b2 := b2.ext hb; replace b3 := b3.ext hb
      clear hb
      have xb10 := b1.c0; have xb11 := b1.c1; have xb12 := b1.c2
      go_wp2_with fail
      (with_reducible refine (HO.out _ _ _ h3 hTb).mono ?_)
      rintro r w3 ⟨A_h4, c_h4, rfl, h4, hb⟩
      clear xb10 xb11 xb12
      replace hE := hE.trans hb; replace hs := hs.below hb; replace hr := hr.below hb; replace hTb := hTb.below hb; replace hx := hx.below hb; replace hy := hy.below hb; replace h3 := h3.below hb; replace b1 := b1.ext hb; replace b2 := b2.ext hb; replace b3 := b3.ext hb
      clear hb
      have xb10 := b1.c0; have xb11 := b1.c1; have xb12 := b1.c2
      go_wp2_with fail
      (with_reducible refine (HK.out _ _ _ h4).mono ?_)
      rintro r w4 ⟨A_h5, c_h5, rfl, h5, hb⟩
      clear xb10 xb11 xb12
      replace hE := hE.trans hb; replace hs := hs.below hb; replace hr := hr.below hb; replace hTb := hTb.below hb; replace hx := hx.below hb; replace hy := hy.below hb; replace h3 := h3.below hb; replace h4 := h4.below hb; replace b1 := b1.ext hb; replace b2 := b2.ext hb; replace b3 := b3.ext hb
      clear hb
      have xb30 := b3.c0; have yb30 := b3.fr 0; have xb31 := b3.c1; have yb31 := b3.fr 1; have xb32 := b3.c2; have yb32 := b3.fr 2
      go_wp2
      rw [hD.out]
      exact dy_rete (d := (chk D)) rfl rfl rfl rfl (b3.set _ _ _ _ _) rfl (b3.set_sl h5 _ _ _ _ _) (Box3.set_ext hE (by omega) _ _ _ _ _)
    · have e1 : (a.neg == b.neg) = false := beq_eq_false_iff_ne.2 hn
      have HC := Lib.hid (fun w A c B d (h : Sl w A c (limbs x)) (k : Sl w B d (limbs y)) => natCmp_any A B c d (limbs x) (limbs y) w h k (by omega) (by omega))
      rw [val_limbs, val_limbs] at HC
      by_cases hlt : x < y
      · have hD := Lib.hid (HS3.out hn hlt)
        have d0 : decide (cmpN x y < 0) = true := by unfold cmpN; rw [if_pos hlt]; rfl
        have HSb := Lib.hid (fun w A c B d (h : Sl w A c (limbs y)) (k : Sl w B d (limbs x)) => natSub_ok A B c d (limbs y) (limbs x) w h k (by omega) (by omega) (by rw [val_limbs, val_limbs]; omega))
        rw [val_limbs, val_limbs] at HSb
        have hyl := Nat.le_trans (limbs_len_mono (Nat.sub_le y x)) hy2
        have HO := Lib.hid (fun w A c (h : Sl w A c (limbs (y - x))) (ht : Tb w) => canonical_dy b.neg (y - x) k A c w h (by omega) (by omega) (by omega) ht)
        have hcl := canon_le b.neg (y - x) k hyl
        have HK := Lib.hid (fun w A c (h : Sl w A c (limbs (canon b.neg (y - x) k).m)) => checked_any (canon b.neg (y - x) k) A c w h (by omega) (by omega) (by omega))
        generalize canon b.neg (y - x) k = D at *
        generalize cmpN x y = q at *
        clear hcl HS1 HS2 HS3 hn hlt hyl HA
        have xb10 := b1.c0; have xb11 := b1.c1; have xb12 := b1.c2
        have xb20 := b2.c0; have xb21 := b2.c1; have xb22 := b2.c2
        go_wp2_with fail
        (with_reducible refine (HC.out _ _ _ _ _ hx hy).mono ?_)
        rintro r w2 ⟨rfl, hb⟩
        clear xb10 xb11 xb12 xb20 xb21 xb22
        replace hE := hE.trans hb; replace hs := hs.below hb; replace hr := hr.below hb; replace hTb := hTb.below hb; replace hx := hx.below hb; replace hy := hy.below hb; replace b1 := b1.ext hb; replace b2 := b2.ext hb; replace b3 := b3.ext hb
        clear hb
        have hlt1 : w.heap.size ≤ w.heap.size := Nat.le_refl _
        have xb10 := b1.c0; have xb11 := b1.c1; have xb12 := b1.c2
        have xb20 := b2.c0; have xb21 := b2.c1; have xb22 := b2.c2
        have fb0 := b1.fr 0; have fb1 := b1.fr 1; have fb2 := b1.fr 2
        have hx := b1.set_sl hx b.neg b.e (limbs b.m).length d B
        have hy := b1.set_sl hy b.neg b.e (limbs b.m).length d B
        have hE := Box3.set_ext hE (Nat.le_refl _) b.neg B (limbs b.m).length d b.e
        have b3 := b3.far3 (g' := w.heap.size) (by omega) (.bool b.neg) (.slice B (limbs b.m).length d) (.int .i64 b.e)
        have b1 := b1.set b.neg B (limbs b.m).length d b.e
        have hTb := hTb0.below hE
        clear hs hr b2
        go_wp2_with fail
        (with_reducible refine (HSb.out _ _ _ _ _ hy hx).mono ?_)
        rintro r w3 ⟨A3, c3, rfl, h3, hb⟩
        clear xb10 xb11 xb12 xb20 xb21 xb22
        replace hE := hE.trans hb; replace hTb := hTb.below hb; replace hx := hx.below hb; replace hy := hy.below hb; replace b1 := b1.ext hb; replace b3 := b3.ext hb
        clear hb
        have xb10 := b1.c0; have xb11 := b1.c1; have xb12 := b1.c2
        go_wp2_with fail
        (with_reducible refine (HO.out _ _ _ h3 hTb).mono ?_)
        rintro r w4 ⟨A_h4, c_h4, rfl, h4, hb⟩
        clear xb10 xb11 xb12
        replace hE := hE.trans hb; replace hTb := hTb.below hb; replace hx := hx.below hb; replace hy := hy.below hb; replace h3 := h3.below hb; replace b1 := b1.ext hb; replace b3 := b3.ext hb
        clear hb
        have xb10 := b1.c0; have xb11 := b1.c1; have xb12 := b1.c2
        go_wp2_with fail
        (with_reducible refine (HK.out _ _ _ h4).mono ?_)
        rintro r w5 ⟨A_h5, c_h5, rfl, h5, hb⟩
        clear xb10 xb11 xb12
        replace hE := hE.trans hb; replace hTb := hTb.below hb; replace hx := hx.below hb; replace hy := hy.below hb; replace h3 := h3.below hb; replace h4 := h4.below hb; replace b1 := b1.ext hb; replace b3 := b3.ext hb
        clear hb
        have xb30 := b3.c0; have yb30 := b3.fr 0; have xb31 := b3.c1; have yb31 := b3.fr 1; have xb32 := b3.c2; have yb32 := b3.fr 2
        go_wp2
        rw [hD.out]
        exact dy_rete (d := (chk D)) rfl rfl rfl rfl (b3.set _ _ _ _ _) rfl (b3.set_sl h5 _ _ _ _ _) (Box3.set_ext hE (by omega) _ _ _ _ _)
      · have hD := Lib.hid (HS2.out hn (by omega))
        have d0 : decide (cmpN x y < 0) = false := by unfold cmpN; rw [if_neg hlt]; split <;> rfl
        have HSb := Lib.hid (fun w A c B d (h : Sl w A c (limbs x)) (k : Sl w B d (limbs y)) => natSub_ok A B c d (limbs x) (limbs y) w h k (by omega) (by omega) (by rw [val_limbs, val_limbs]; omega))
        rw [val_limbs, val_limbs] at HSb
        have hyl := Nat.le_trans (limbs_len_mono (Nat.sub_le x y)) hx2
        have HO := Lib.hid (fun w A c (h : Sl w A c (limbs (x - y))) (ht : Tb w) => canonical_dy a.neg (x - y) k A c w h (by omega) (by omega) (by omega) ht)
        have hcl := canon_le a.neg (x - y) k hyl
        have HK := Lib.hid (fun w A c (h : Sl w A c (limbs (canon a.neg (x - y) k).m)) => checked_any (canon a.neg (x - y) k) A c w h (by omega) (by omega) (by omega))
        generalize canon a.neg (x - y) k = D at *
        generalize cmpN x y = q at *
        clear hcl HS1 HS2 HS3 hn hlt hyl HA
        have xb10 := b1.c0; have xb11 := b1.c1; have xb12 := b1.c2
        have xb20 := b2.c0; have xb21 := b2.c1; have xb22 := b2.c2
        go_wp2_with fail
        (with_reducible refine (HC.out _ _ _ _ _ hx hy).mono ?_)
        rintro r w2 ⟨rfl, hb⟩
        clear xb10 xb11 xb12 xb20 xb21 xb22
        replace hE := hE.trans hb; replace hs := hs.below hb; replace hr := hr.below hb; replace hTb := hTb.below hb; replace hx := hx.below hb; replace hy := hy.below hb; replace b1 := b1.ext hb; replace b2 := b2.ext hb; replace b3 := b3.ext hb
        clear hb
        go_wp2_with fail
        (with_reducible refine (HSb.out _ _ _ _ _ hx hy).mono ?_)
        rintro r w3 ⟨A3, c3, rfl, h3, hb⟩
        replace hE := hE.trans hb; replace hs := hs.below hb; replace hr := hr.below hb; replace hTb := hTb.below hb; replace hx := hx.below hb; replace hy := hy.below hb; replace b1 := b1.ext hb; replace b2 := b2.ext hb; replace b3 := b3.ext hb
        clear hb
        have xb10 := b1.c0; have xb11 := b1.c1; have xb12 := b1.c2
        go_wp2_with fail
        (with_reducible refine (HO.out _ _ _ h3 hTb).mono ?_)
        rintro r w4 ⟨A_h4, c_h4, rfl, h4, hb⟩
        clear xb10 xb11 xb12
        replace hE := hE.trans hb; replace hs := hs.below hb; replace hr := hr.below hb; replace hTb := hTb.below hb; replace hx := hx.below hb; replace hy := hy.below hb; replace h3 := h3.below hb; replace b1 := b1.ext hb; replace b2 := b2.ext hb; replace b3 := b3.ext hb
        clear hb
        have xb10 := b1.c0; have xb11 := b1.c1; have xb12 := b1.c2
        go_wp2_with fail
        (with_reducible refine (HK.out _ _ _ h4).mono ?_)
        rintro r w5 ⟨A_h5, c_h5, rfl, h5, hb⟩
        clear xb10 xb11 xb12
        replace hE := hE.trans hb; replace hs := hs.below hb; replace hr := hr.below hb; replace hTb := hTb.below hb; replace hx := hx.below hb; replace hy := hy.below hb; replace h3 := h3.below hb; replace h4 := h4.below hb; replace b1 := b1.ext hb; replace b2 := b2.ext hb; replace b3 := b3.ext hb
        clear hb
        have xb30 := b3.c0; have yb30 := b3.fr 0; have xb31 := b3.c1; have yb31 := b3.fr 1; have xb32 := b3.c2; have yb32 := b3.fr 2
        go_wp2
        rw [hD.out]
        exact dy_rete (d := (chk D)) rfl rfl rfl rfl (b3.set _ _ _ _ _) rfl (b3.set_sl h5 _ _ _ _ _) (Box3.set_ext hE (by omega) _ _ _ _ _)

theorem dySum_dy (a b : Dy) (A B : Option Addr) (c d : Nat) (w : World) (hs : Sl w A c (limbs a.m)) (hr : Sl w B d (limbs b.m)) (hTb : Tb w) (ha : a.Valid) (hb : b.Valid) :
    Calls Tryd.prog 45 #[DV a A c, DV b B d] w (RetDE w (chk (sumD a b)) (chkE (sumD a b))) := by
  by_cases a0 : a.m = 0
  · exact dySum_a0 a b A B c d w hs hr hTb hb a0
  · by_cases b0 : b.m = 0
    · exact dySum_b0 a b A B c d w hs hTb ha a0 b0
    · exact dySum_nz a b A B c d w hs hr hTb ha hb a0 b0

set_option maxHeartbeats 4000000 in
theorem dyNeg_dy (a : Dy) (A : Option Addr) (c : Nat) (w : World) (hs : Sl w A c (limbs a.m)) (ha : a.Valid) :
    Calls Tryd.prog 46 #[DV a A c] w (RetD w (negD a)) := by
  have HV := Lib.hid (fun w (h : Sl w A c (limbs a.m)) => dyValid_dy a A c w h ha)
  have hl := ha.len
  by_cases h0 : a.m = 0
  · have hz : Hid (negD a = zeroD) := by
      show negD a = zeroD
      obtain ⟨s, m, e⟩ := a
      rcases ha.canon with ⟨h1, h2, h3⟩ | h1
      · simp only at h1 h2 h3; subst h1 h2 h3; rfl
      · simp only at h0 h1; omega
    have n0 := nil_len h0
    clear h0
    have hE := (Ext.alloc w (.cells #[.bool a.neg, .slice A ((limbs a.m).length) c, .int .i64 a.e] 24)).trans (Ext.alloc (w.alloc (.cells #[.bool a.neg, .slice A ((limbs a.m).length) c, .int .i64 a.e] 24)) (.cells #[.bool false, .slice none 0 0, .int .i64 0] 24))
    have b1 := (Box3.newAt (W := w) (g := w.heap.size) (by simp) a.neg A ((limbs a.m).length) c a.e).alloc (.cells #[.bool false, .slice none 0 0, .int .i64 0] 24)
    have b2 := Box3.newAt (W := (w.alloc (.cells #[.bool a.neg, .slice A ((limbs a.m).length) c, .int .i64 a.e] 24))) (g := w.heap.size + 1) (by simp) false none 0 0 0
    replace hs := hs.below hE
    go_enter Tryd.func46, Tryd.ntmps46
    go_wp2_with fail
    (with_reducible refine (HV.out _ hs).mono ?_)
    rintro r w1 ⟨rfl, hb⟩
    replace hE := hE.trans hb; replace hs := hs.below hb; replace b1 := b1.ext hb; replace b2 := b2.ext hb
    clear hb
    have xb10 := b1.c0; have xb11 := b1.c1; have xb12 := b1.c2
    have xb20 := b2.c0; have yb20 := b2.fr 0; have xb21 := b2.c1; have yb21 := b2.fr 1; have xb22 := b2.c2; have yb22 := b2.fr 2
    go_wp2
    rw [hz.out]
    exact dy_ret (d := zeroD) rfl rfl rfl (b2.set _ _ _ _ _) (by rw [show zeroD.m = 0 from rfl, limbs_zero]; rfl) (by rw [show zeroD.m = 0 from rfl, limbs_zero]; exact Sl.nil _) (Box3.set_ext hE (by omega) _ _ _ _ _)
  · have n0 := pos_len h0
    have HN := Lib.hid (show negD a = ⟨!a.neg, a.m, a.e⟩ by unfold negD; simp [h0])
    have HC := Lib.hid (fun w (h : Sl w A c (limbs a.m)) => clone_any A c (limbs a.m) w h (by omega))
    clear h0
    have hE := (Ext.alloc w (.cells #[.bool a.neg, .slice A ((limbs a.m).length) c, .int .i64 a.e] 24)).trans (Ext.alloc (w.alloc (.cells #[.bool a.neg, .slice A ((limbs a.m).length) c, .int .i64 a.e] 24)) (.cells #[.bool false, .slice none 0 0, .int .i64 0] 24))
    have b1 := (Box3.newAt (W := w) (g := w.heap.size) (by simp) a.neg A ((limbs a.m).length) c a.e).alloc (.cells #[.bool false, .slice none 0 0, .int .i64 0] 24)
    have b2 := Box3.newAt (W := (w.alloc (.cells #[.bool a.neg, .slice A ((limbs a.m).length) c, .int .i64 a.e] 24))) (g := w.heap.size + 1) (by simp) false none 0 0 0
    replace hs := hs.below hE
    go_enter Tryd.func46, Tryd.ntmps46
    go_wp2_with fail
    (with_reducible refine (HV.out _ hs).mono ?_)
    rintro r w1 ⟨rfl, hb⟩
    replace hE := hE.trans hb; replace hs := hs.below hb; replace b1 := b1.ext hb; replace b2 := b2.ext hb
    clear hb
    have xb10 := b1.c0; have xb11 := b1.c1; have xb12 := b1.c2
    clear xb10 xb11 xb12
    have xb10 := b1.c0; have xb11 := b1.c1; have xb12 := b1.c2
    go_wp2_with fail
    clear xb10 xb11 xb12
    replace hs := hs.drew; replace b1 := b1.drew; replace b2 := b2.drew; replace hE := hE.trans (Ext.drew _)
    go_region_held3 (fun w' => w'.cell? ⟨w.heap.size, 0, none⟩ = some (.bool a.neg) ∧ w'.cell? ⟨w.heap.size, 1, none⟩ = some (.slice A ((limbs a.m).length) c) ∧ w'.cell? ⟨w.heap.size, 2, none⟩ = some (.int .i64 a.e))
      (first | with_reducible exact ⟨(b1).c0, (b1).c1, (b1).c2⟩ | with_reducible exact ⟨(b1.ext hb0).c0, (b1.ext hb0).c1, (b1.ext hb0).c2⟩ | with_reducible exact ⟨((b1.ext hb0).far3 (g' := w.heap.size + 1) (by omega) _ _ _).c0, ((b1.ext hb0).far3 (g' := w.heap.size + 1) (by omega) _ _ _).c1, ((b1.ext hb0).far3 (g' := w.heap.size + 1) (by omega) _ _ _).c2⟩)
      (first
        | (go_at_call 50
           (with_reducible refine (HC.out _ hs).mono ?_)
           rintro r wx0 ⟨A_h4, c_h4, rfl, h4, hb0⟩
           have bz := b2.ext hb0; have z0 := bz.c0; have z1 := bz.c1; have z2 := bz.c2; have y0 := bz.fr 0; have y1 := bz.fr 1; have y2 := bz.fr 2))
    replace hE := hE.trans hb0; replace hs := hs.below hb0; replace b1 := b1.ext hb0; replace b2 := b2.ext hb0
    go_wp2
    rw [HN.out]
    exact dy_ret (d := ⟨!a.neg,a.m,a.e⟩) rfl rfl rfl (bz.set _ _ _ _ _) rfl (bz.set_sl h4 _ _ _ _ _) (Box3.set_ext hE (by omega) _ _ _ _ _)

set_option maxHeartbeats 4000000 in
theorem dySub_dy (a b : Dy) (A B : Option Addr) (c d : Nat) (w : World) (hs : Sl w A c (limbs a.m)) (hr : Sl w B d (limbs b.m)) (hTb : Tb w) (ha : a.Valid) (hb : b.Valid) :
    Calls Tryd.prog 25 #[DV a A c, DV b B d] w (RetDE w (chk (sumD a (negD b))) (chkE (sumD a (negD b)))) := by
  have HVa := Lib.hid (fun w (h : Sl w A c (limbs a.m)) => dyValid_dy a A c w h ha)
  have HVb := Lib.hid (fun w (h : Sl w B d (limbs b.m)) => dyValid_dy b B d w h hb)
  have HN := Lib.hid (fun w (h : Sl w B d (limbs b.m)) => dyNeg_dy b B d w h hb)
  have HS := Lib.hid (fun w B d (h : Sl w A c (limbs a.m)) (k : Sl w B d (limbs (negD b).m)) (ht : Tb w) => dySum_dy a (negD b) A B c d w h k ht ha (negD_valid hb))
  generalize chkE (sumD a (negD b)) = E at *
  generalize chk (sumD a (negD b)) = D at *
  generalize negD b = nb at *
  have hE := ((Ext.alloc w (.cells #[.bool a.neg, .slice A ((limbs a.m).length) c, .int .i64 a.e] 24)).trans (Ext.alloc (w.alloc (.cells #[.bool a.neg, .slice A ((limbs a.m).length) c, .int .i64 a.e] 24)) (.cells #[.bool b.neg, .slice B ((limbs b.m).length) d, .int .i64 b.e] 24))).trans (Ext.alloc ((w.alloc (.cells #[.bool a.neg, .slice A ((limbs a.m).length) c, .int .i64 a.e] 24)).alloc (.cells #[.bool b.neg, .slice B ((limbs b.m).length) d, .int .i64 b.e] 24)) (.cells #[.bool false, .slice none 0 0, .int .i64 0] 24))
  have b1 := ((Box3.newAt (W := w) (g := w.heap.size) (by simp) a.neg A ((limbs a.m).length) c a.e).alloc (.cells #[.bool b.neg, .slice B ((limbs b.m).length) d, .int .i64 b.e] 24)).alloc (.cells #[.bool false, .slice none 0 0, .int .i64 0] 24)
  have b2 := (Box3.newAt (W := (w.alloc (.cells #[.bool a.neg, .slice A ((limbs a.m).length) c, .int .i64 a.e] 24))) (g := w.heap.size + 1) (by simp) b.neg B ((limbs b.m).length) d b.e).alloc (.cells #[.bool false, .slice none 0 0, .int .i64 0] 24)
  have b3 := Box3.newAt (W := ((w.alloc (.cells #[.bool a.neg, .slice A ((limbs a.m).length) c, .int .i64 a.e] 24)).alloc (.cells #[.bool b.neg, .slice B ((limbs b.m).length) d, .int .i64 b.e] 24))) (g := w.heap.size + 2) (by simp) false none 0 0 0
  replace hs := hs.below hE; replace hr := hr.below hE; replace hTb := hTb.below hE
  go_enter Tryd.func25, Tryd.ntmps25
  go_wp2_with fail
  (with_reducible refine (HVa.out _ hs).mono ?_)
  rintro r w1 ⟨rfl, hb⟩
  replace hE := hE.trans hb; replace hs := hs.below hb; replace hr := hr.below hb; replace hTb := hTb.below hb; replace b1 := b1.ext hb; replace b2 := b2.ext hb; replace b3 := b3.ext hb
  clear hb
  have xb10 := b1.c0; have xb11 := b1.c1; have xb12 := b1.c2
  have xb20 := b2.c0; have xb21 := b2.c1; have xb22 := b2.c2
  go_wp2_with fail
  (with_reducible refine (HVb.out _ hr).mono ?_)
  rintro r w2 ⟨rfl, hb⟩
  clear xb10 xb11 xb12 xb20 xb21 xb22
  replace hE := hE.trans hb; replace hs := hs.below hb; replace hr := hr.below hb; replace hTb := hTb.below hb; replace b1 := b1.ext hb; replace b2 := b2.ext hb; replace b3 := b3.ext hb
  clear hb
  have xb10 := b1.c0; have xb11 := b1.c1; have xb12 := b1.c2
  have xb20 := b2.c0; have xb21 := b2.c1; have xb22 := b2.c2
  go_wp2_with fail
  clear xb10 xb11 xb12 xb20 xb21 xb22
  replace hs := hs.drew; replace hr := hr.drew; replace hTb := hTb.drew; replace b1 := b1.drew; replace b2 := b2.drew; replace b3 := b3.drew; replace hE := hE.trans (Ext.drew _)
  go_region_held3 (fun w' => w'.cell? ⟨w.heap.size, 0, none⟩ = some (.bool a.neg) ∧ w'.cell? ⟨w.heap.size, 1, none⟩ = some (.slice A ((limbs a.m).length) c) ∧ w'.cell? ⟨w.heap.size, 2, none⟩ = some (.int .i64 a.e) ∧ w'.cell? ⟨w.heap.size + 1, 0, none⟩ = some (.bool b.neg) ∧ w'.cell? ⟨w.heap.size + 1, 1, none⟩ = some (.slice B ((limbs b.m).length) d) ∧ w'.cell? ⟨w.heap.size + 1, 2, none⟩ = some (.int .i64 b.e))
    (first | with_reducible exact ⟨(b1).c0, (b1).c1, (b1).c2, (b2).c0, (b2).c1, (b2).c2⟩ | with_reducible exact ⟨(b1.ext hb0).c0, (b1.ext hb0).c1, (b1.ext hb0).c2, (b2.ext hb0).c0, (b2.ext hb0).c1, (b2.ext hb0).c2⟩ | with_reducible exact ⟨(b1.ext (hb0.trans hb1)).c0, (b1.ext (hb0.trans hb1)).c1, (b1.ext (hb0.trans hb1)).c2, (b2.ext (hb0.trans hb1)).c0, (b2.ext (hb0.trans hb1)).c1, (b2.ext (hb0.trans hb1)).c2⟩ | with_reducible exact ⟨((b1.ext (hb0.trans hb1)).far3 (g' := w.heap.size + 2) (by omega) _ _ _).c0, ((b1.ext (hb0.trans hb1)).far3 (g' := w.heap.size + 2) (by omega) _ _ _).c1, ((b1.ext (hb0.trans hb1)).far3 (g' := w.heap.size + 2) (by omega) _ _ _).c2, ((b2.ext (hb0.trans hb1)).far3 (g' := w.heap.size + 2) (by omega) _ _ _).c0, ((b2.ext (hb0.trans hb1)).far3 (g' := w.heap.size + 2) (by omega) _ _ _).c1, ((b2.ext (hb0.trans hb1)).far3 (g' := w.heap.size + 2) (by omega) _ _ _).c2⟩)
    (first
      | (go_at_call 46
         (with_reducible refine (HN.out _ hr).mono ?_)
         rintro r wx0 ⟨A_h4, c_h4, rfl, h4, hb0⟩)
      | (go_at_call 45
         (with_reducible refine (HS.out _ _ _ (hs.below hb0) h4 (hTb.below hb0)).mono ?_)
         rintro r wx1 ⟨A_h5, c_h5, rfl, h5, hb1⟩
         have bz := b3.ext (hb0.trans hb1); have z0 := bz.c0; have z1 := bz.c1; have z2 := bz.c2; have y0 := bz.fr 0; have y1 := bz.fr 1; have y2 := bz.fr 2))
  replace h4 := h4.below hb1
  replace hE := hE.trans (hb0.trans hb1); replace hs := hs.below (hb0.trans hb1); replace hr := hr.below (hb0.trans hb1); replace hTb := hTb.below (hb0.trans hb1); replace b1 := b1.ext (hb0.trans hb1); replace b2 := b2.ext (hb0.trans hb1); replace b3 := b3.ext (hb0.trans hb1)
  go_wp2
  exact dy_rete (d := D) rfl rfl rfl rfl (bz.set _ _ _ _ _) rfl (bz.set_sl h5 _ _ _ _ _) (Box3.set_ext hE (by omega) _ _ _ _ _)

/-- The opposite, added. -/
def subD (a b : Dy) : Dy := sumD a (negD b)
end Go.Proofs.YtofdlkgpgcnjhaaDoor
