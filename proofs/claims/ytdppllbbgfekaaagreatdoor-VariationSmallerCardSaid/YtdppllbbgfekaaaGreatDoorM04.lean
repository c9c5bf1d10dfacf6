/- Texts: Tk Uq Uw Ux Uy Uz Va Qr Qm Di Qt R1 Qb Qc Dj Qd Qe Qf Qz Qg Qh Qi Px Vb Vc Dp Vd. -/
import Derived.Test.YtdppllbbgfekaaaGreatDoorM03
set_option linter.unusedSimpArgs false
set_option linter.unusedVariables false
namespace Go.Proofs.YtdppllbbgfekaaaGreatDoor
open Go.RowKit Fp
def RetLL (w : World) (T S : List Nat) (e : Ending) (w' : World) : Prop := ∃ A c B d, e = .returned (.tuple #[.slice A T.length c, .slice B S.length d]) ∧ Sl w' A c T ∧ Sl w' B d S ∧ Ext w w'
theorem Ow.rx {w : World} {base : Nat} {v : Value} {L : List Nat} (h : Ow w base v L) (hl : L ≠ []) : ∃ g cap R, v = .slice (some ⟨g, 0, none⟩) L.length cap ∧ base ≤ g ∧ g < w.heap.size ∧ Rx w g L R ∧ L.length ≤ cap ∧ cap ≤ maxLen := by
 rcases h.row.2 with ⟨_, h0⟩ | ⟨g, cap, cur, rfl, hb, hg, hnc, hcm, hcs, htake⟩
 ·exact absurd (List.eq_nil_of_length_eq_zero h0) hl
 ·refine ⟨g, cap, cur.toList.drop L.length, rfl, hb, (Array.getElem?_eq_some_iff.1 hg).1, ?_, hnc, hcm⟩
  unfold Rx
  rw [hg]
  rw [Nat.mul_one] at htake
  rw [← htake, List.take_append_drop]
theorem Rx.sl {w : World} {b cap : Nat} {L : List Nat} {R : List Value} (h : Rx w b L R) (hk : Ok32 L) (hc : L.length ≤ cap) (hm : cap ≤ maxLen) (n : Nat) : Sl w (some ⟨b, 0, none⟩) cap (L.take n) :=
 ⟨by rw [List.length_take]; omega, by unfold maxLen at hm; omega, hk.take n, (fun h => by cases h), fun i x hx => by
  rw [List.getElem?_take] at hx
  split at hx
  ·obtain ⟨hi, hx'⟩ := List.getElem?_eq_some_iff.1 hx
   refine ⟨_, _, rfl, h.lt, ?_⟩
   rw [Nat.zero_add, h.cell hi]
   simp [List.getD_eq_getElem?_getD, hx]
  ·cases hx⟩
theorem lz32_any (x : Nat) (hx : x < 4294967296) (w : World) :
  Calls Tryz.prog 251 #[.int .u32 x] w fun e w' => e = .returned (.int .i64 ((32 - bitsN x : Nat) : Int)) ∧ w = w' := by
 have hb2 : bitsN x ≤ 32 := bitsN_le_iff.2 hx
 have H := Lib.hid (fun w => len32_any x hx w)
 go_enter Tryz.func251, Tryz.ntmps251
 go_wp2_with fail
 refine (H.out _).mono ?_
 rintro e w' ⟨rfl, rfl⟩
 go_wp2
 go_ret
 exact ⟨ret_int (by omega), rfl⟩
set_option maxHeartbeats 1000000 in
theorem digit_any (q rest third v w0 N : Nat) (w : World) (hq : q ≤ 4294967295) (hr : rest < 9223372036854775808) (ht : third < 4294967296) (hv : v < 4294967296) (hw : w0 < 4294967296) (hNq : N ≤ q) (hlo : ∀ x, x < N → dcond q rest third v w0 x) (hN : ¬ dcond q rest third v w0 N) :
  Calls Tryz.prog 259 #[.int .u64 q, .int .u64 rest, .int .u32 third, .int .u32 v, .int .u32 w0] w fun e w' => e = .returned (.int .u64 ((q - N : Nat) : Int)) ∧ w = w' := by
 have HLO := Lib.hid hlo
 have HNN := Lib.hid hN
 clear hlo hN
 go_enter Tryz.func259, Tryz.ntmps259
 go_wp2
 go_loop [0, 1] (fun a b => ∃ k : Nat, k ≤ N ∧ a = .int .u64 ((q - k : Nat) : Int) ∧ b = .int .u64 ((rest + k * v : Nat) : Int)) (fun a _ => (intOf a).toNat + 0 * N)
 case atStart => exact ⟨0, Nat.zero_le _, by go_num, by go_num⟩
 case round =>
  obtain ⟨k, hk, rfl, rfl⟩ := hrel
  have m1 : (q - k) * w0 ≤ 4294967295 * 4294967295 := Nat.mul_le_mul (by omega) (by omega)
  have m2 : (q - k) * w0 = (q - k) * w0 := rfl
  by_cases hlt : k < N
  ·have hc := HLO.out k hlt
   have hqk : 0 < q - k := by omega
   have hnext : rest + (k + 1) * v = rest + k * v + v := by rw [Nat.add_mul, Nat.one_mul]; omega
   have HX := Lib.hid hnext
   clear hnext
   unfold dcond at hc
   have hw1 : IntKind.u64.wrap (((q - k : Nat) : Int) * (w0 : Int)) = (((q - k) * w0 : Nat) : Int) := by rw [← Int.natCast_mul]; exact u64_nat _ (by omega)
   generalize rest + k * v = y at *
   generalize hz : (q - k) * w0 = z at *
   have hq1 : q - k = q - (k + 1) + 1 := by omega
   have HQ := Lib.hid hq1
   obtain ⟨p, hp⟩ : ∃ p, p = q - k := ⟨_, rfl⟩
   rw [← hp] at hw1 hqk hq1 HQ ⊢
   have HP := Lib.hid hp
   have hpl : p ≤ 4294967295 := by omega
   clear hp hz hq1
   have hsh := shl32_nat y hc.1
   have hor := or32_nat y third hc.1 ht
   have g2 := hc.2
   have g1 := hc.1
   clear hc
   rw [show ((y * 4294967296 : Nat) : Int) = (y : Int) * 4294967296 by omega] at hor hsh
   have d1 : decide ((y : Int) < 4294967296) = true := decide_eq_true (by omega)
   have d2 : decide ((y : Int) * 4294967296 + (third : Int) < (z : Int)) = true := decide_eq_true (by omega)
   have hm1 : IntKind.u64.wrap ((p : Int) - 1) = ((p - 1 : Nat) : Int) := by rw [IntKind.wrap_u64]; omega
   go_wp2
   go_round
   case rel =>
    have e1 := HP.out
    exact ⟨k + 1, by omega, by go_num, by rw [HX.out]; go_num⟩
   case measure => simp [intOf]; omega
  ·obtain rfl : k = N := by omega
   have hn := HNN.out
   clear HNN HLO
   unfold dcond at hn
   have hw1 : IntKind.u64.wrap (((q - k : Nat) : Int) * (w0 : Int)) = (((q - k) * w0 : Nat) : Int) := by rw [← Int.natCast_mul]; exact u64_nat _ (by omega)
   generalize rest + k * v = y at *
   generalize (q - k) * w0 = z at *
   obtain ⟨p, hp⟩ : ∃ p, p = q - k := ⟨_, rfl⟩
   rw [← hp] at hw1 ⊢
   have HP := Lib.hid hp
   clear hp
   by_cases g1 : y < 4294967296
   ·have hsh := shl32_nat y g1
    have hor := or32_nat y third g1 ht
    rw [show ((y * 4294967296 : Nat) : Int) = (y : Int) * 4294967296 by omega] at hor hsh
    have d1 : decide ((y : Int) < 4294967296) = true := decide_eq_true (by omega)
    have d2 : decide ((y : Int) * 4294967296 + (third : Int) < (z : Int)) = false := decide_eq_false (by omega)
    clear hn
    go_wp2
    go_ret
    exact ⟨ret_int (by rw [← HP.out]), rfl⟩
   ·have d1 : decide ((y : Int) < 4294967296) = false := decide_eq_false (by omega)
    clear hn hw1
    go_wp2
    go_ret
    exact ⟨ret_int (by rw [← HP.out]), rfl⟩
set_option maxHeartbeats 1000000 in
theorem guess_any (top next third v w0 : Nat) (hv : 2147483648 ≤ v) (hv2 : v < 4294967296) (hn : next < 4294967296) (ht : third < 4294967296) (hw : w0 < 4294967296) (htv : top ≤ v) :
  ∃ g, g ≤ 4294967295 ∧ g ≤ ((top * 4294967296 + next) * 4294967296 + third) / (v * 4294967296 + w0) ∧ (g = 4294967295 ∨ ((top * 4294967296 + next) * 4294967296 + third) / (v * 4294967296 + w0) ≤ g) ∧
   ∀ w, Calls Tryz.prog 252 #[.int .u32 top, .int .u32 next, .int .u32 third, .int .u32 v, .int .u32 w0] w fun e w' => e = .returned (.int .u64 ((g : Nat) : Int)) ∧ ∃ m, w' = w.drewN m := by
 by_cases k1 : v ≤ top
 ·obtain ⟨N, hN3, hN0, hN1, hN2, g1, g2⟩ := digit_N (X := top * 4294967296 + next) (q := 4294967295) (rest := (top - v) * 4294967296 + next + v) (third := third) (v := v) (w := w0) (by omega) (Nat.le_refl _) hv hw
  refine ⟨4294967295 - N, by omega, g1, g2.elim (fun h => .inl (by rw [h])) .inr, fun w => ?_⟩
  clear g1 g2
  have H := fun w => digit_any 4294967295 ((top - v) * 4294967296 + next + v) third v w0 N w (by omega) (by omega) ht hv2 hw hN0 hN1 hN2
  clear hN1 hN2
  obtain rfl : v = top := by omega
  have hs0 : (v - v) * 4294967296 + next + v = next + v := by omega
  rw [hs0, Int.natCast_add] at H
  have HD := Lib.hid H
  clear H
  have d1 : decide ((v : Int) ≤ (v : Int)) = true := decide_eq_true (by omega)
  go_enter Tryz.func252, Tryz.ntmps252
  go_wp2_with fail
  refine (HD.out _).mono ?_
  rintro e w' ⟨rfl, rfl⟩
  go_wp2
  go_ret
  exact ⟨rfl, 0, rfl⟩
 ·have d1 := Nat.div_add_mod (top * 4294967296 + next) v
  have d2 := Nat.mod_lt (top * 4294967296 + next) (show 0 < v by omega)
  have d3 : (top * 4294967296 + next) / v < 4294967296 := by rw [Nat.div_lt_iff_lt_mul (by omega)]; omega
  obtain ⟨N, hN3, hN0, hN1, hN2, g1, g2⟩ := digit_N (X := top * 4294967296 + next) (q := (top * 4294967296 + next) / v) (rest := (top * 4294967296 + next) % v) (third := third) (v := v) (w := w0) (by rw [Nat.mul_comm]; exact d1) (by omega) hv hw
  have g3 := digit_start (x := top * 4294967296 + next) (v := v) (w := w0) (third := third) (by omega) ht
  refine ⟨(top * 4294967296 + next) / v - N, by omega, g1, .inr ?_, fun w => ?_⟩
  ·rcases g2 with rfl | g2
   ·exact g3
   ·exact g2
  have H := fun w => digit_any ((top * 4294967296 + next) / v) ((top * 4294967296 + next) % v) third v w0 N w (Nat.le_of_lt_succ d3) (Nat.lt_trans d2 (by omega)) ht hv2 hw hN0 hN1 hN2
  rw [Int.natCast_ediv, Int.natCast_emod] at H
  have HD := Lib.hid H
  clear H g1 g2 g3 hN0 hN1 hN2 d1 d2 d3
  have d1 : decide ((v : Int) ≤ (top : Int)) = false := decide_eq_false (by omega)
  have hsh := shl32_nat top (by omega)
  have hor := or32_nat top next (by omega) hn
  rw [show ((top * 4294967296 : Nat) : Int) = (top : Int) * 4294967296 by omega] at hor hsh
  have hx0 : ((top * 4294967296 + next : Nat) : Int) < 18446744073709551616 := by omega
  rw [show ((top * 4294967296 + next : Nat) : Int) = (top : Int) * 4294967296 + (next : Int) by omega] at hor hx0
  have hv0 : ((v : Int) == 0) = false := by simp; omega
  go_enter Tryz.func252, Tryz.ntmps252
  go_wp2
  go_quiet (exact Calls.quiet_of_same ((HD.out _).mono fun _ _ ⟨h1, h2⟩ => ⟨h1, h2.symm⟩))
  go_wp2
  go_ret
  exact ⟨rfl, _, rfl⟩
theorem Fp.Ext.trans' {w0 w w' : World} {g n : Nat} (h : Ext w0 w) (k : Only g (w.drewN n) w') (hg : w0.heap.size ≤ g) : Ext w0 w' :=
 (below_drewN h n).trans (k.below.mono hg)
theorem Fp.Ext.only {w0 w w' : World} {g : Nat} (h : Ext w0 w) (k : Only g w w') (hg : w0.heap.size ≤ g) : Ext w0 w' :=
 Below.trans h (k.below.mono hg)
theorem Sl.far2 {w : World} {g cap : Nat} {L : List Nat} (h : Sl w (some ⟨g, 0, none⟩) cap L) {b : Nat} (hb : g ≠ b) (i : Nat) (v : Value) : Sl (w.setCell ⟨b, i, none⟩ v) (some ⟨g, 0, none⟩) cap L :=
 h.keep (fun b' o _ e => by cases e; exact hb) (Only.set0 (Only.refl b w) i v)
theorem Sl.drewN {w : World} {A : Option Addr} {c : Nat} {L : List Nat} (h : Sl w A c L) (n : Nat) : Sl (w.drewN n) A c L := h.below (below_drewN (Below.refl _ _) n)
theorem quiet_more {P : Program} {f : FuncId} {args : Array Value} {w : World} {n : Nat} {v : Value}
  (h : Calls P f args (w.drewN n) fun e w' => e = .returned v ∧ ∃ m, w' = (w.drewN n).drewN m) : Calls P f args (w.drewN n) fun e w'' => e = .returned v ∧ ∃ m, w'' = w.drewN m :=
 h.mono fun _ _ ⟨he, m, hm⟩ => ⟨he, n + m, by rw [hm, World.drewN_drewN]⟩
set_option maxRecDepth 100000 in
set_option maxHeartbeats 8000000 in
theorem divide_long (A B : Option Addr) (c d : Nat) (L M : List Nat) (w : World) (lx ly s : Nat) (hlx : lx = (trimL L).length) (hly : ly = (trimL M).length) (hsd : s = 32 - bitsN ((trimL M).getD (ly - 1) 0)) (hs : Sl w A c L) (hr : Sl w B d M) (hTb : Tb w) (h1 : L.length ≤ 100000) (h2 : M.length ≤ 100000) (hge : val M ≤ val L) (hlen : 2 ≤ ly) :
  Calls Tryz.prog 241 #[.slice A L.length c, .slice B M.length d] w (RetLL w (digs (val L / val M) (lx + 1 - ly)) (shrL (s % 32) ((limbs (val L % val M * 2 ^ s)).drop (s / 32)))) := by
 have H1 := natTrim_any A c L w hs
 have H2 := natTrim_any B d M w hr
 have hLt := tlen_le L
 unfold tlen at hLt
 have hMt := tlen_le M
 unfold tlen at hMt
 have eL := val_trimL L
 have eM := val_trimL M
 rw [← eL, ← eM] at hge ⊢
 have hs2 := hs.trim
 have hr2 := hr.trim
 have hMtrim := trim_trimL M
 have hXt : trimL (trimL L) = trimL L := trim_trimL L
 have hYt : trimL (trimL M) = trimL M := trim_trimL M
 have H3 := natCmp_any A B c d (trimL L) (trimL M) w hs2 hr2 (by omega) (by omega)
 generalize trimL L = X at *
 generalize trimL M = Y at *
 have hc0 : 0 ≤ cmpN (val X) (val Y) := by unfold cmpN; split <;> (try split) <;> omega
 generalize cmpN (val X) (val Y) = cm at *
 have hYX : Y.length ≤ X.length := by
  apply Classical.byContradiction
  intro h
  have := val_lt_of_length hs2.ok hMtrim (by omega : X.length < Y.length)
  omega
 clear eL eM hs hr hge
 rw [← hlx] at hYX H1 H3 hLt
 rw [← hly] at hYX H2 H3 hMt
 have hx0 : Y.getD (ly - 1) 0 ≠ 0 := by
  have := (trim_iff Y).1 hMtrim (by omega)
  have e : Y.getD (ly - 1) 0 = Y[Y.length - 1]'(by omega) := by
   rw [List.getD_eq_getElem?_getD, show ly - 1 = Y.length - 1 by omega]; simp [show Y.length - 1 < Y.length by omega]
  rw [e]; exact this
 have HN := norm_div hr2.ok (l := ly - 1) (by omega) rfl hx0 hsd
 rw [show ly - 1 + 1 = ly by omega] at HN
 obtain ⟨x, hx⟩ : ∃ x, x = Y.getD (ly - 1) 0 := ⟨_, rfl⟩
 have hx32 : x < 4294967296 := by rw [hx]; exact hr2.ok.getD _
 have H4 := Lib.hid (fun w => lz32_any x hx32 w)
 rw [← hx] at hsd
 rw [← hsd] at H4
 obtain ⟨ab, ao, rfl, hab, c1⟩ := hr2.at_ (i := ly - 1) (by omega)
 have hxe : Y[ly - 1]'(by omega) = x := by rw [hx]; simp [List.getD_eq_getElem?_getD, show ly - 1 < Y.length by omega]
 rw [hxe] at c1
 have hs32 : s < 32 := HN.1
 have HNh := Lib.hid HN
 have H5 := fun w (h : Sl w A c X) => natshl_own A c X s w h (by omega) (by omega)
 have H6 := fun w (h : Sl w (some ⟨ab, ao, none⟩) d Y) => natshl_own (some ⟨ab, ao, none⟩) d Y s w h (by omega) (by omega)
 rw [hXt, ← hlx, show s / 32 + lx + 1 = lx + 1 by omega] at H5
 rw [hYt, ← hly, show s / 32 + ly + 1 = ly + 1 by omega] at H6
 have H5h := Lib.hid H5
 have H6h := Lib.hid H6
 have HX := Lib.hid hlx
 have HY := Lib.hid hly
 have HS2 := Lib.hid hs2
 have HR2 := Lib.hid hr2
 have H1h := Lib.hid H1
 have H2h := Lib.hid H2
 have H3h := Lib.hid H3
 clear H1 H2 H3 H5 H6 hXt hYt HN hlx hly hx hxe hsd hx0 hs2 hr2 hMtrim
 have hw1 : (ly : Int) - 1 = ((ly - 1 : Nat) : Int) := by omega
 have d0 : decide (cm < 0) = false := decide_eq_false (by omega)
 have d2 : decide ((lx : Int) + 1 ≤ (lx : Int)) = false := decide_eq_false (by omega)
 have hmk := make32 (lx + 1 - ly) (by omega)
 rw [show ((lx + 1 - ly : Nat) : Int) = (lx : Int) + 1 - (ly : Int) by omega] at hmk
 have d1 : ((ly : Int) == 1) = false := by simp; omega
 go_enter Tryz.func241, Tryz.ntmps241
 go_wp2_with fail
 refine H1h.out.mono ?_; rintro e w' ⟨rfl, rfl⟩
 go_wp2_with fail
 refine H2h.out.mono ?_; rintro e w' ⟨rfl, rfl⟩
 go_wp2_with fail
 refine H3h.out.mono ?_; rintro e w1 ⟨rfl, hb1⟩
 have c2 := c1
 rw [← (hb1.cell (p := ⟨ab, ao + (ly - 1), none⟩) hab)] at c2
 go_wp2_with fail
 refine (H4.out _).mono ?_; rintro e w2 ⟨rfl, rfl⟩
 go_wp2_with fail
 refine (H5h.out _ (HS2.out.below hb1)).mono ?_
 rintro e w2 ⟨T, v1, he, hTv, hTl, how, hb2⟩
 obtain ⟨g, cap, R, hv1, hg1, hg2, hRx, hcap, hcapm⟩ := how.rx (by intro h; rw [h] at hTl; simp at hTl)
 have hTok := Lib.hid how.ok
 rw [hTl] at hv1 hcap
 subst hv1
 subst he
 clear how
 have HTv := Lib.hid hTv
 have HTl := Lib.hid hTl
 clear hTv hTl
 go_wp2_with fail
 refine (H6h.out _ ((HR2.out.below hb1).below hb2)).mono ?_
 rintro e w3 ⟨S, v2, he, hSv, hSl, how, hb3⟩
 have hRx3 := hRx.same (hb3.block g hg2)
 obtain ⟨g', cap', R', hv2, hg1', hg2', _, hcap', _⟩ := how.rx (by intro h; rw [h] at hSl; simp at hSl)
 obtain ⟨_, _, e2, hSs⟩ := how.sl
 rw [hv2] at e2
 cases e2
 have hgg : g' ≠ g := by omega
 have H7 := natTrim_any (some ⟨g', 0, none⟩) cap' S w3 hSs
 have hV : trimL S = limbs (val Y * 2 ^ s) := by rw [trimL_eq_limbs how.ok, hSv]
 have hSV := hSs.trim
 rw [hV] at H7 hSV
 rw [HNh.out.2.1, hSl] at H7
 rw [hSl] at hv2
 have hb13 : Ext w w3 := (hb1.trans hb2).trans hb3
 subst hv2
 subst he
 have H7h := Lib.hid H7
 clear how hSs hV hSv hSl H7 hRx hb2 hb3
 go_wp2_with fail
 refine H7h.out.mono ?_; rintro e w4 ⟨rfl, rfl⟩
 go_wp2
 go_loop [9] (fun u => u = .slice (some ⟨g, 0, none⟩) (lx + 1) cap) (fun _ => 0)
 case atStart => rfl
 case round =>
  subst hrel
  go_wp2
  have hR0 := Rw.made w3 (lx + 1 - ly)
  have hnV := HNh.out.2.1
  have hN1 := HNh.out.2.2.1
  have hN2 := HNh.out.2.2.2.1
  have hVok := ok_limbs (val Y * 2 ^ s)
  have hVv := val_limbs (val Y * 2 ^ s)
  rw [← hVv] at hN2
  generalize limbs (val Y * 2 ^ s) = V at *
  have hD0 := DInv.start (A := val X) (s := s) (V := V) (O := T) hTok.out HTv.out (la := lx) (by rw [HX.out]; exact val_lt HS2.out.ok) HTl.out hs32 (by omega) (by omega) (by rw [hnV]; exact hN2)
  have hSV1 := hSV.alloc (.cells (u32s (List.replicate (lx + 1 - ly) 0)).toArray 127)
  have hRx4 : Rx (w3.alloc (.cells (u32s (List.replicate (lx + 1 - ly) 0)).toArray 127)) g T R := hRx3.same ((Ext.alloc w3 _).block g (by have := hRx3.lt; omega))
  rw [hnV] at hD0
  have HD0 := Lib.hid hD0
  have HR0 := Lib.hid hR0
  have HRx := Lib.hid hRx4
  have HSV := Lib.hid hSV1
  have HE0 := Lib.hid (hb13.trans (Ext.alloc w3 (.cells (u32s (List.replicate (lx + 1 - ly) 0)).toArray 127)))
  have HnV := Lib.hid hnV
  have HVok := Lib.hid hVok
  have HVv := Lib.hid hVv
  have HN1 := Lib.hid hN1
  have hgq : g < w3.heap.size := hRx3.lt
  have hgb : w.heap.size ≤ g := Nat.le_trans hb1.size hg1
  clear hD0 hR0 hRx4 hSV1 hSV hRx3 hnV hVok hVv hN1 hN2 HTv HTl hTok H1h H2h H3h H4 H5h H6h H7h c1 c2 d2 hmk hb1 hg1 hg1' hg2 HNh HS2 HR2
  go_loopw [13] (fun j wr => ∃ (k : Nat) (O Q : List Nat), k ≤ lx + 1 - ly ∧ j = .int .i64 ((k : Int) - 1) ∧ DInv (val X * 2 ^ s) V k (lx + 1) O Q ∧ Rx wr g O R ∧ Rw wr w3.heap.size Q ∧ Sl wr (some ⟨g', 0, none⟩) cap' V ∧ Ext w wr) (fun j _ => (intOf j + 1).toNat)
  case atStart =>
   exact ⟨lx + 1 - ly, T, _, Nat.le_refl _, by go_num, HD0.out, HRx.out, HR0.out, HSV.out, HE0.out⟩
  case round =>
   clear HD0 HRx HR0 HSV HE0
   obtain ⟨k, O, Q, hk, rfl, hD, hRO, hRQ, hSV, hbw⟩ := hrel
   have HE := Lib.hid hbw
   have HSV := Lib.hid hSV
   have HRQ := Lib.hid hRQ
   have HRO := Lib.hid hRO
   have HD := Lib.hid hD
   clear hD hbw
   rcases k with _ | t
   ·have hO := HD.out.lenO
    have hslO := HRO.out.sl HD.out.okO (cap := cap) (by omega) hcapm ly
    have HZ := natshr_any (some ⟨g, 0, none⟩) cap (O.take ly) s wr hslO (by rw [List.length_take]; omega) (by omega)
    have e1 : (O.take ly).length = ly := by rw [List.length_take]; omega
    rw [e1] at HZ
    have HZh := Lib.hid HZ
    have HQs := Lib.hid (HRQ.out.sl HD.out.okQ (by rw [HD.out.lenQ]; omega))
    have hV0 : 0 < val V := by
     have := HD.out.lt
     rcases Nat.eq_zero_or_pos (val V) with h | h
     ·rw [h, Nat.zero_mul] at this; omega
     ·exact h
    have hY0 : 0 < val Y := by
     rw [HVv.out] at hV0
     exact Nat.pos_of_mul_pos_right hV0
    have hend := div_end (a := val X) (b := val Y) (s := s) (q := val Q) (r := val O) hY0 (by rw [← HVv.out]; exact HD.out.eq) (by rw [← HVv.out]; have := HD.out.lt; rw [Nat.pow_zero, Nat.mul_one] at this; exact this)
    have hlow : val (O.take ly) = val O := by
     rw [val_take_mod HD.out.okO, Nat.mod_eq_of_lt]
     have := HD.out.lt
     rw [Nat.pow_zero, Nat.mul_one] at this
     refine Nat.lt_trans this ?_
     have h := val_lt HVok.out
     rw [HnV.out] at h
     exact h
    have hO2 : trimL (O.take ly) = limbs (val X % val Y * 2 ^ s) := by rw [trimL_eq_limbs (HD.out.okO.take ly), hlow, hend.2]
    rw [hO2] at HZh
    have hQl := HD.out.lenQ
    rw [HnV.out] at hQl
    have hQd : digs (val X / val Y) (lx + 1 - ly) = Q := digs_eq HD.out.okQ hQl hend.1
    have HQd := Lib.hid hQd
    generalize shrL (s % 32) ((limbs (val X % val Y * 2 ^ s)).drop (s / 32)) = Z at *
    have HQl := Lib.hid hQl
    clear hend hlow hO2 hQd hslO HZ e1 hQl hO hV0 hY0 hSV hRO hRQ
    go_wp2_with fail
    refine HZh.out.mono ?_
    rintro e w5 ⟨AZ, cZ, rfl, hZs, hZb⟩
    go_wp2
    go_ret2
    have hq := HQs.out.below hZb
    rw [HQl.out] at hq
    exact ⟨_, _, _, _, by rw [digs_len]; rfl, by rw [HQd.out]; exact hq, hZs, HE.out.trans hZb⟩
   ·have hO := HD.out.lenO
    have c4 := hRO.cell (i := t + ly) (by omega)
    have c5 := hRO.cell (i := t + ly - 1) (by omega)
    have c6 := hRO.cell (i := t + ly - 2) (by omega)
    obtain ⟨_, _, e1, _, c7⟩ := hSV.at_ (i := ly - 1) (by rw [HnV.out]; omega)
    obtain ⟨_, _, e2, _, c8⟩ := hSV.at_ (i := ly - 2) (by rw [HnV.out]; omega)
    cases e1
    cases e2
    rw [Nat.zero_add] at c7 c8
    have v7 : V[ly - 1]'(by rw [HnV.out]; omega) = V.getD (ly - 1) 0 := by simp [List.getD_eq_getElem?_getD, HnV.out, show ly - 1 < ly by omega]
    have v8 : V[ly - 2]'(by rw [HnV.out]; omega) = V.getD (ly - 2) 0 := by simp [List.getD_eq_getElem?_getD, HnV.out, show ly - 2 < ly by omega]
    rw [v7] at c7
    rw [v8] at c8
    clear v7 v8
    have hok := HD.out.okO
    have o4 := hok.getD (t + ly)
    have o5 := hok.getD (t + ly - 1)
    have o6 := hok.getD (t + ly - 2)
    have o7 := HVok.out.getD (ly - 1)
    have o8 := HVok.out.getD (ly - 2)
    have hG := HD.out.guess HVok.out (by rw [HnV.out]; omega) (by rw [HnV.out]; exact HN1.out)
    rw [HnV.out] at hG
    obtain ⟨gd, g1, g2, g3, g4⟩ := guess_any (O.getD (t + ly) 0) (O.getD (t + ly - 1) 0) (O.getD (t + ly - 2) 0) (V.getD (ly - 1) 0) (V.getD (ly - 2) 0) HN1.out o7 o5 o6 o8 hG.1
    have HGq := Lib.hid (hG.2 gd g1 g2 g3)
    have HG := Lib.hid g4
    clear hG g2 g3 g4 hok hSV hRO hRQ
    generalize O.getD (t + ly) 0 = x4 at *
    generalize O.getD (t + ly - 1) 0 = x5 at *
    generalize O.getD (t + ly - 2) 0 = x6 at *
    have HV1 := Lib.hid (rfl : V.getD (ly - 1) 0 = V.getD (ly - 1) 0)
    generalize hx7 : V.getD (ly - 1) 0 = x7 at *
    generalize V.getD (ly - 2) 0 = x8 at *
    clear hx7 HV1
    have i1 : (((t + 1 : Nat) : Int) - 1) = (t : Int) := by omega
    have i2 : ((t : Int) + (ly : Int)).toNat = t + ly := by omega
    have i3 : ((t : Int) + (ly : Int) - 1).toNat = t + ly - 1 := by omega
    have i4 : ((t : Int) + (ly : Int) - 2).toNat = t + ly - 2 := by omega
    have i6 : ((ly : Int) - 2) = ((ly - 2 : Nat) : Int) := by omega
    have p1 : IntKind.i64.wrap ((t : Int) + (ly : Int)) = (t : Int) + (ly : Int) := i64_in _ (by omega) (by omega)
    have p2 : IntKind.i64.wrap ((t : Int) + (ly : Int) - 1) = (t : Int) + (ly : Int) - 1 := i64_in _ (by omega) (by omega)
    have p3 : IntKind.i64.wrap ((t : Int) + (ly : Int) - 2) = (t : Int) + (ly : Int) - 2 := i64_in _ (by omega) (by omega)
    have p4 : IntKind.i64.wrap ((ly - 1 : Nat) : Int) = ((ly - 1 : Nat) : Int) := i64_in _ (by omega) (by omega)
    have p5 : IntKind.i64.wrap ((ly - 2 : Nat) : Int) = ((ly - 2 : Nat) : Int) := i64_in _ (by omega) (by omega)
    have j6 : ((ly - 1 : Nat) : Int) < (ly : Int) := by omega
    have j7 : ((ly - 2 : Nat) : Int) < (ly : Int) := by omega
    have j0 : 0 ≤ (t : Int) + (ly : Int) := by omega
    have j1 : 0 ≤ (t : Int) + (ly : Int) - 1 := by omega
    have j2 : 0 ≤ (t : Int) + (ly : Int) - 2 := by omega
    have j3 : (t : Int) + (ly : Int) < (lx : Int) + 1 := by omega
    have j4 : (t : Int) + (ly : Int) - 1 < (lx : Int) + 1 := by omega
    have j5 : (t : Int) + (ly : Int) - 2 < (lx : Int) + 1 := by omega
    rw [i1]
    clear i1
    go_wp2
    go_quiet (exact quiet_more (HG.out _))
    go_wp2_with fail
    have HTk := take_any g t (cap - t) cap' gd O V R (some ⟨g', 0, none⟩) (wr.drewN nq) (HRO.out.same rfl) (HSV.out.drewN nq) (fun b' o _ e => by cases e; exact hgg) HD.out.okO (by rw [HnV.out]; omega) g1 (by omega)
    rw [HnV.out, show ly + 1 = t + ly + 1 - t by omega] at HTk
    refine HTk.mono ?_
    rintro e w5 ⟨O', δ, rfl, hRO', hl', hok', hδ, hval, hsame, hon⟩
    have HRO' := Lib.hid hRO'
    have HON := Lib.hid hon
    have HSV5 := Lib.hid ((HSV.out.drewN nq).keep (fun b' o _ e => by cases e; exact hgg) hon)
    have HRQ5 := Lib.hid (show Rw w5 w3.heap.size Q from (hon.keep _ (by omega)).trans HRQ.out)
    have HE5 := Lib.hid (show Ext w w5 from Fp.Ext.trans' HE.out hon hgb)
    have hPt := pw t
    have hVp : 0 < val V := by
     have := HD.out.lt
     rcases Nat.eq_zero_or_pos (val V) with h | h
     ·rw [h, Nat.zero_mul] at this; omega
     ·exact h
    have wg : IntKind.u32.wrap (gd : Int) = (gd : Int) := by rw [IntKind.wrap_u32]; omega
    have htm : (t : Int) < (lx : Int) + 1 - (ly : Int) := by omega
    have htQ : t < Q.length := by rw [HD.out.lenQ, HnV.out]; omega
    have hQg := List.getElem?_eq_getElem htQ
    have cq := HRQ5.out.cell hQg
    have fq := HRQ5.out.frozen t
    generalize Q[t] = q0 at *
    have HQG := Lib.hid hQg
    clear hQg htQ c4 c5 c6 c7 c8 HRO HRQ HSV HE HTk hRO' hon
    rcases Nat.lt_or_ge δ 1 with hδ0 | hδ1
    ·obtain rfl : δ = 0 := by omega
     have hDR := digit_right hPt hVp (by rw [hval, Nat.mul_zero, Nat.add_zero]) HGq.out.1
     have HDS := Lib.hid (HD.out.step (x := gd) (by rw [HnV.out]; omega) (by rw [hl', hO]) hok' (by omega) (by rw [hval, Nat.mul_zero, Nat.add_zero]) hDR.2)
     clear hDR hval hsame hok' hl' HD HGq
     have HRQ6 := Lib.hid (fun x : Nat => HRQ5.out.set t x)
     have HRO6 := Lib.hid (fun v : Value => HRO'.out.same (w' := w5.setCell ⟨w3.heap.size, t, none⟩ v) (by simp only [World.setCell, Array.getElem?_modify]; rw [if_neg (by omega)]))
     have HSV6 := Lib.hid (fun v : Value => HSV5.out.far2 (b := w3.heap.size) (by omega) t v)
     have HE6 := Lib.hid (fun v : Value => HE5.out.setCell (p := ⟨w3.heap.size, t, none⟩) (by show w.heap.size ≤ w3.heap.size; omega) v)
     go_wp2
     go_roundw
     case rel => exact ⟨t, O', Q.set t gd, by omega, by go_num, HDS.out, HRO6.out _, HRQ6.out _, HSV6.out _, HE6.out _⟩
     case measure => simp [intOf]
    ·obtain rfl : δ = 1 := by omega
     have hov := HD.out.over (x := gd) HVok.out hok' (by rw [HnV.out]; exact hval) (by rw [HnV.out]; exact hsame)
     have hgd := hov.2
     have HB := Lib.hid (fun (κ : Nat) (O2 : List Nat) => HD.out.back (x := gd) (κ := κ) (O2 := O2) HVok.out (by rw [HnV.out]; omega) hok' (by rw [HnV.out]; exact hval) (by rw [HnV.out]; exact hsame) g1 HGq.out.2 hVp)
     have HP0 := Lib.hid (Put.start hok' t V)
     have hlO' : O'.length = lx + 1 := by rw [hl', hO]
     have HL' := Lib.hid hlO'
     have hxm : IntKind.u64.wrap ((gd : Int) - 1) = ((gd - 1 : Nat) : Int) := by rw [IntKind.wrap_u64]; omega
     have wg1 : IntKind.u32.wrap ((gd - 1 : Nat) : Int) = ((gd - 1 : Nat) : Int) := by rw [IntKind.wrap_u32]; omega
     clear hov hval hsame hok' hl' hlO' HD HGq wg cq fq
     go_wp2
     go_loopw [15, 125] (fun cy i wr2 => ∃ (k c' : Nat) (O2 : List Nat), k ≤ ly ∧ i = .int .i64 k ∧ cy = .int .u32 c' ∧ Put O' t V k O2 c' ∧ Rx wr2 g O2 R ∧ Only g w5 wr2) (fun _ i _ => ly - (intOf i).toNat)
     case atStart => exact ⟨0, 0, O', Nat.zero_le _, rfl, rfl, HP0.out, HRO'.out, Only.refl _ _⟩
     case round =>
      clear HP0 HRO'
      obtain ⟨k, c', O2, hk2, rfl, rfl, hP, hR2, ho2⟩ := hrel
      have HP := Lib.hid hP
      have hc1 := hP.c_le
      have hl2 : O2.length = lx + 1 := by rw [hP.len]; exact HL'.out
      have HL2 := Lib.hid hl2
      clear hP
      by_cases hlt : k < ly
      ·have hkV : k < V.length := by rw [HnV.out]; exact hlt
       obtain ⟨_, _, e1, _, c1⟩ := (HSV5.out.keep (fun b' o _ e => by cases e; exact hgg) ho2).at_ hkV
       cases e1
       rw [Nat.zero_add] at c1
       have v7 : V[k] = V.getD k 0 := by simp [List.getD_eq_getElem?_getD, hkV]
       rw [v7] at c1
       have hkO : t + k < O2.length := by omega
       have c2 := hR2.cell hkO
       have c3 := hR2.frozen (t + k)
       have hy32 : V.getD k 0 < 4294967296 := HVok.out.getD k
       have hu32 : O2.getD (t + k) 0 < 4294967296 := HP.out.ok.getD _
       have HST := Lib.hid (HP.out.step HVok.out hkV (by rw [HL'.out, HnV.out]; omega))
       have HRS := Lib.hid (fun x : Nat => hR2.set hkO x)
       have HOS := Lib.hid (fun (v : Value) => ho2.set0 (t + k) v)
       have HA := Lib.hid (fun w => add32_any (O2.getD (t + k) 0) (V.getD k 0) c' w hu32 hy32 hc1)
       clear hR2 ho2 HP v7 hkV hkO hl2 HL2
       generalize O2.getD (t + k) 0 = u at *
       generalize V.getD k 0 = y at *
       have hi1 : ((t : Int) + (k : Int)).toNat = t + k := by omega
       have hi2 : 0 ≤ (t : Int) + (k : Int) := by omega
       have hi3 : (t : Int) + (k : Int) < (lx : Int) + 1 := by omega
       go_wp2_with fail
       refine (HA.out _).mono ?_
       rintro e w6 ⟨rfl, rfl⟩
       go_wp2
       go_roundw
       case rel =>
        exact ⟨k + 1, (u + y + c') / 4294967296, O2.set (t + k) ((u + y + c') % 4294967296), by omega, by go_num, rfl, HST.out, HRS.out _, HOS.out _⟩
       case measure => simp [intOf]; omega
      ·obtain rfl : k = ly := by omega
       have hPl := (show Put O' t V V.length O2 c' by rw [HnV.out]; exact HP.out).last (by rw [HL'.out, HnV.out]; omega)
       rw [HnV.out] at hPl
       obtain ⟨q1, q2, ⟨κ, q3, q4⟩, q5⟩ := hPl
       have hkO : t + k < O2.length := by omega
       have c2 := hR2.cell hkO
       have c3 := hR2.frozen (t + k)
       have hu32 : O2.getD (t + k) 0 < 4294967296 := HP.out.ok.getD _
       have HDS := Lib.hid (HB.out κ _ (by rw [q1]; exact HL'.out) q2 q3 (by rw [HnV.out]; exact q4) (by rw [HnV.out]; exact q5))
       have HRS := Lib.hid (fun x : Nat => hR2.set hkO x)
       have HOS := Lib.hid (fun (v : Value) => ho2.set0 (t + k) v)
       have hRQ7 : ∀ v : Value, Rw (wr.setCell ⟨g, t + k, none⟩ v) w3.heap.size Q := fun v => ((HOS.out v).keep _ (by omega)).trans HRQ5.out
       have hcq : ∀ v : Value, (wr.setCell ⟨g, t + k, none⟩ v).cell? ⟨w3.heap.size, t, none⟩ = some (.int .u32 (q0 : Int)) := fun v => (hRQ7 v).cell HQG.out
       have hfq : ∀ v : Value, (wr.setCell ⟨g, t + k, none⟩ v).frozen? ⟨w3.heap.size, t, none⟩ = false := fun v => (hRQ7 v).frozen t
       have HRQ8 := Lib.hid (fun (v : Value) (x : Nat) => (hRQ7 v).set t x)
       have HRO8 := Lib.hid (fun (x : Nat) (v : Value) => (HRS.out x).same (w' := (wr.setCell ⟨g, t + k, none⟩ (.int .u32 (x : Int))).setCell ⟨w3.heap.size, t, none⟩ v) (by simp only [World.setCell, Array.getElem?_modify]; rw [if_neg (by omega)]))
       have HSV8 := Lib.hid (fun (v v2 : Value) => (HSV5.out.keep (fun b' o _ e => by cases e; exact hgg) (HOS.out v)).far2 (b := w3.heap.size) (by omega) t v2)
       have HE8 := Lib.hid (fun (v v2 : Value) => (Fp.Ext.only HE5.out (HOS.out v) hgb).setCell (p := ⟨w3.heap.size, t, none⟩) (by show w.heap.size ≤ w3.heap.size; omega) v2)
       clear hRQ7 HRS HOS hR2 ho2 HP q1 q2 q3 q4 q5 hkO hl2 HL2
       generalize O2.getD (t + k) 0 = u at *
       have hi1 : ((t : Int) + (k : Int)).toNat = t + k := by omega
       have hi2 : 0 ≤ (t : Int) + (k : Int) := by omega
       have hi3 : (t : Int) + (k : Int) < (lx : Int) + 1 := by omega
       have hi4 : IntKind.u32.wrap ((u : Int) + (c' : Int)) = (((u + c') % 4294967296 : Nat) : Int) := by rw [IntKind.wrap_u32]; omega
       generalize (u + c') % 4294967296 = uu at *
       go_wp2
       go_roundw
       case rel => exact ⟨t, O2.set (t + k) uu, Q.set t (gd - 1), by omega, by go_num, HDS.out, HRO8.out _ _, HRQ8.out _ _, HSV8.out _ _, HE8.out _ _⟩
       case measure => simp [intOf]
open Go.RowKit Fp Pu
theorem slNil_le : E.le (.v (.slice none 0 0)) (slP []) := fun bs br w v h => by
 obtain rfl := Rep.v_inv h
 exact .sl false 0 1 _ none 0 (fun _ _ => undef) (Nat.le_refl _) (by decide) (fun _ => rfl) (fun i j hi => absurd hi (Nat.not_lt_zero i)) (fun i j hi => absurd hi (Nat.not_lt_zero i)) (fun i j hi => absurd hi (Nat.not_lt_zero i)) (fun i j hi => absurd hi (Nat.not_lt_zero i))
theorem slOne_le {x : Nat} : E.le (.sl false 1 1 fun i_ j_ => [(.v (.int .u32 (x : Int)))].getD (i_ * 1 + j_) (.v (.bool false))) (slP [x]) := .sl fun i j hi hj => by
 obtain rfl : i = 0 := by omega
 obtain rfl : j = 0 := by omega
 exact ⟨.refl _, rfl⟩
theorem clip_pc (L : List Nat) (hk : Ok32 L) : PCt 211 [slP L] (slP L) := pcS1 hk Tryz.call211 (fun A c w h _ => clip_any A c L w h) fun A c B w e w' h hB ⟨h1, h2⟩ => by
 subst h2
 exact ⟨_, h1, Below.refl _ _, slP_rep hB (Below.refl _ _) ⟨Nat.le_refl _, h.len, h.ok, fun hn => by have := h.none_ hn; have := h.cap; omega, h.cell⟩⟩
theorem clone_pc (L : List Nat) (hk : Ok32 L) (hl : L.length ≤ 1000000) : PCt 164 [slP L] (slP L) := pcS1 hk Tryz.call164 (fun A c w h _ => clone_any A c L w h (by omega)) fun A c B w e w' h hB r => rl B w e w' hB r
theorem natDivide_less (L M : List Nat) (hL : Ok32 L) (hM : Ok32 M) (h1 : L.length ≤ 100000) (h2 : M.length ≤ 100000) (hc : cmpN (val (trimL L)) (val (trimL M)) < 0) : PCt 241 [(slP L), (slP M)] (.tup [slP [], slP (trimL L)]) := by
 have ta := tlen_le L
 have tb := tlen_le M
 unfold tlen at ta tb
 exact tr true Tryz.call241 Tryz.func241 (chain [.c (natTrim_pc _ ‹_› : PCt 215 [(slP L)] _), .c (natTrim_pc _ ‹_› : PCt 215 [(slP M)] _),
  .c (natCmp_pc _ _ (Ok32.trimL ‹_›) (Ok32.trimL ‹_›) (by omega) (by omega) : PCt 181 [(slP (trimL L)), (slP (trimL M))] _), tB 25 (decide_eq_true hc),
  .c (clone_pc _ (Ok32.trimL ‹_›) (by omega) : PCt 164 [(slP (trimL L))] _)] <| rR (.tup [slP [], slP (trimL L)]) (.tup (.cons slNil_le (.cons (.refl _) .nil)) : E.le (.tup [(.v (.slice none 0 0)), (slP (trimL L))]) (.tup [slP [], slP (trimL L)]))) (by kernel_rfl)
theorem natDivide_one (L M : List Nat) (hL : Ok32 L) (hM : Ok32 M) (h1 : L.length ≤ 100000) (h2 : M.length ≤ 100000) (hc : ¬ cmpN (val (trimL L)) (val (trimL M)) < 0) (hl : (trimL M).length = 1) (hd1 : 0 < (trimL M).getD 0 0) (hd2 : (trimL M).getD 0 0 < 4294967296) : PCt 241 [(slP L), (slP M)] (.tup [slP (digs (val (trimL L) / (trimL M).getD 0 0) (trimL L).length), slP [val (trimL L) % (trimL M).getD 0 0]]) := by
 have ta := tlen_le L
 have tb := tlen_le M
 unfold tlen at ta tb
 exact tr true Tryz.call241 Tryz.func241 (chain [.c (natTrim_pc _ ‹_› : PCt 215 [(slP L)] _), .c (natTrim_pc _ ‹_› : PCt 215 [(slP M)] _),
  .c (natCmp_pc _ _ (Ok32.trimL ‹_›) (Ok32.trimL ‹_›) (by omega) (by omega) : PCt 181 [(slP (trimL L)), (slP (trimL M))] _), tB 25 (decide_eq_false hc),
  tB 30 (by rw [hl]; rfl : ((((trimL M).length : Nat) : Int) == 1) = true), iX (0) ((trimL M).length) (by omega), .c (natShort_pc (trimL L) ((trimL M).getD 0 0) (Ok32.trimL ‹_›) (by omega) hd1 hd2)] <| rR (.tup [slP (digs (val (trimL L) / (trimL M).getD 0 0) (trimL L).length), slP [val (trimL L) % (trimL M).getD 0 0]]) (.tup (.cons (.refl _) (.cons slOne_le .nil)) : E.le (.tup [(slP (digs (val (trimL L) / ((trimL M).getD 0 0)) (trimL L).length)), (.sl false 1 1 fun i_ j_ => [(.v (.int .u32 (((val (trimL L) % ((trimL M).getD 0 0)) : Nat) : Int)))].getD (i_ * 1 + j_) (.v (.bool false)))]) (.tup [slP (digs (val (trimL L) / (trimL M).getD 0 0) (trimL L).length), slP [val (trimL L) % (trimL M).getD 0 0]]))) (by kernel_rfl)
theorem natDivide_pc (L M : List Nat) (hL : Ok32 L) (hM : Ok32 M) (h1 : L.length ≤ 100000) (h2 : M.length ≤ 100000) (h0 : val M ≠ 0) : ∃ T S : List Nat, PCt 241 [slP L, slP M] (.tup [slP T, slP S]) ∧ val T = val L / val M ∧ val S = val L % val M ∧ Ok32 T ∧ Ok32 S ∧ T.length ≤ L.length ∧ S.length ≤ L.length + 1 := by
 have ta := tlen_le L
 have tb := tlen_le M
 unfold tlen at ta tb
 have e1 := val_trimL L
 have e2 := val_trimL M
 by_cases hc : cmpN (val (trimL L)) (val (trimL M)) < 0
 ·refine ⟨[], trimL L, natDivide_less L M hL hM h1 h2 hc, ?_, ?_, Ok32.nil, hL.trimL, Nat.zero_le _, by omega⟩
  ·rw [e1, e2] at hc
   have : val L < val M := by unfold cmpN at hc; split at hc <;> (try split at hc) <;> omega
   rw [Nat.div_eq_of_lt this]; rfl
  ·rw [e1, e2] at hc
   have : val L < val M := by unfold cmpN at hc; split at hc <;> (try split at hc) <;> omega
   rw [Nat.mod_eq_of_lt this, e1]
 ·have hge : val M ≤ val L := by rw [e1, e2] at hc; unfold cmpN at hc; split at hc <;> (try split at hc) <;> omega
  have hne : trimL M ≠ [] := by intro h; rw [h] at e2; exact h0 e2.symm
  have hlen : (trimL M).length ≠ 0 := by simpa using hne
  by_cases hl : (trimL M).length = 1
  ·obtain ⟨x, hx⟩ := List.length_eq_one_iff.1 hl
   have hok := hM.trimL
   rw [hx] at hok
   have hxv : x = val M := by rw [← e2, hx]; simp [val]
   have hg : (trimL M).getD 0 0 = x := by rw [hx]; rfl
   have := natDivide_one L M hL hM h1 h2 hc hl (by rw [hg]; omega) (by rw [hg]; exact hok.head)
   rw [hg] at this
   refine ⟨_, _, this, ?_, ?_, digs_ok _ _, Ok32.cons (Nat.lt_trans (Nat.mod_lt _ (by omega)) hok.head) Ok32.nil, by rw [digs_len]; exact ta, by simp⟩
   ·rw [val_digs, Nat.mod_eq_of_lt, e1, hxv]
    exact Nat.lt_of_le_of_lt (Nat.div_le_self _ _) (val_lt hL.trimL)
   ·simp [val, e1, hxv]
  ·refine ⟨_, _, pcS2 hL hM Tryz.call241 (fun A c B d w h k hT => divide_long A B c d L M w _ _ _ rfl rfl rfl h k hT h1 h2 hge (by omega)) (fun B w e w' hB ⟨A1, c1, B1, d1, q1, q2, q3, q4⟩ => ⟨_, q1, q4, Reps.tup (.cons (slP_rep hB q4 q2) (.cons (slP_rep hB q4 q3) (.nil _ _ _)))⟩), ?_, ?_, digs_ok _ _, ok_shrL _ _, ?_, ?_⟩
   ·rw [val_digs, Nat.mod_eq_of_lt]
    rw [Nat.div_lt_iff_lt_mul (by omega)]
    have g1 := val_lt hL.trimL
    rw [e1] at g1
    refine Nat.lt_of_lt_of_le g1 ?_
    obtain ⟨l, hl'⟩ : ∃ l, (trimL M).length = l + 1 := ⟨(trimL M).length - 1, by omega⟩
    have g2 : 4294967296 ^ l ≤ val M := by
     apply Classical.byContradiction
     intro q
     have q2 : (limbs (val M)).length ≤ l := limbs_length_le (by omega)
     rw [← trimL_eq_limbs hM] at q2
     omega
    have g3 := Nat.mul_le_mul_left (4294967296 ^ ((trimL L).length + 1 - (trimL M).length)) g2
    rw [← Nat.pow_add] at g3
    refine Nat.le_trans ?_ g3
    exact Nat.pow_le_pow_right (by decide) (by omega)
   ·rw [val_shr_all (ok_limbs _), val_limbs, Nat.mul_div_cancel _ (Nat.pow_pos (by decide))]
   ·rw [digs_len]; omega
   ·rw [shrL_length, List.length_drop]
    have hb : 32 - bitsN ((trimL M).getD ((trimL M).length - 1) 0) < 33 := by omega
    have := limbs_mul_pow_len (ok_limbs (val L % val M)) (32 - bitsN ((trimL M).getD ((trimL M).length - 1) 0))
    rw [val_limbs] at this
    have h3 : (limbs (val L % val M)).length ≤ (limbs (val L)).length := limbs_len_mono (Nat.mod_le _ _)
    rw [← trimL_eq_limbs hL] at h3
    omega
theorem natDivMod_pc (m n : Nat) (h1 : (limbs m).length ≤ 256) (h2 : (limbs n).length ≤ 256) (h0 : n ≠ 0) : PCt 221 [slP (limbs m), slP (limbs n)] (.tup [slP (limbs (m / n)), slP (limbs (m % n)), iP 0]) := by
 obtain ⟨T, S, hdv, hT, hS, oT, oS, _, _⟩ := natDivide_pc (limbs m) (limbs n) (ok_limbs m) (ok_limbs n) (by omega) (by omega) (by rw [val_limbs]; exact h0)
 rw [val_limbs, val_limbs] at hT hS
 have hz : trimL (limbs n) = limbs n := trim_limbs n
 have hl := limbs_len_ne h0
 have hl2 : ((((trimL (limbs n)).length : Nat) : Int) == 0) = false := by rw [hz]; exact natZ_false hl
 exact tr true Tryz.call221 Tryz.func221 (chain [.c (natLongB_pc (limbs m) (limbs n) ‹_› ‹_›), .c (natTrim_pc _ (ok_limbs _) : PCt 215 [(slP (limbs n))] _), tB 18 (hl2 : ((((trimL (limbs n)).length : Nat) : Int) == 0) = false),
  .c (hdv : PCt 241 [(slP (limbs m)), (slP (limbs n))] _), .c (natTrim_pc _ ‹_› : PCt 215 [(slP T)] _), .c (clip_pc _ (Ok32.trimL ‹_›) : PCt 211 [(slP (trimL T))] _),
  .c (natTrim_pc _ ‹_› : PCt 215 [(slP S)] _), .c (clip_pc _ (Ok32.trimL ‹_›) : PCt 211 [(slP (trimL S))] _)] <| rQ (.tup [(slP (trimL T)), (slP (trimL S)), (iP 0)]) (.tup [slP (limbs (m / n)), slP (limbs (m % n)), iP 0]) (by rw [trimL_eq_limbs oT, trimL_eq_limbs oS, hT, hS])) (by kernel_rfl)
open Go.RowKit Fp Pu
theorem rdDiv_pc (a b : Dy) (p : Nat) (up : Bool) (ha : a.Valid) (hb : b.Valid) (b0 : b.m ≠ 0) (hp1 : 8 ≤ p) (hp2 : p ≤ 512) : PCt 186 [(dyP a), (dyP b), (iP p), (bP up)] (.tup [dyP (divD a b p up), iP (divE a b p up)]) := by
 by_cases a0 : a.m = 0
 ·have e1 : divD a b p up = zeroD ∧ divE a b p up = 0 := by unfold divD divE; rw [if_pos a0, if_pos a0]; exact ⟨rfl, rfl⟩
  exact tr true Tryz.call186 Tryz.func186 (chain [.o 18 (.e (dys2_le _ _) : PV.le (.e (.sl true 2 3 fun i_ j_ => (dyL a ++ dyL b).getD (i_ * 3 + j_) (.v (.bool false)))) (.e (dysP [a, b]))),
   .c (rdFault2_pc _ _ _ ‹_› ‹_› (by omega) (by omega) : PCt 219 [(iP p), (dysP [a, b])] _), tB 21 (by decide : ((0 : Int) != 0) = false),
   tB 28 (natZ_false (limbs_len_ne b0) : ((((limbs b.m).length : Nat) : Int) == 0) = false), tB 34 (natZ_true (limbs_len0.2 a0) : ((((limbs a.m).length : Nat) : Int) == 0) = true),
   .o 35 (.e zeroP_le : PV.le (.e (.agg [(bP false), (.v (.slice none 0 0)), (iP 0)])) (.e (dyP zeroD)))] <| rQ (.tup [(dyP zeroD), (iP 0)]) (.tup [dyP (divD a b p up), iP (divE a b p up)]) (by rw [e1.1, e1.2])) (by kernel_rfl)
 ·have va := ha.limbs
  have vb := hb.limbs
  have xa := ha.exp
  have xb := hb.exp
  have ra := ha.range.resolve_left a0
  have rb := hb.range.resolve_left b0
  have pa := bitsN_pos a0
  have pb := bitsN_pos b0
  have hK : divK a b p 3 = p + 3 + bitsN b.m - bitsN a.m := rfl
  have bs := bitsN_mul_pow a0 (divK a b p 3)
  have z1 : (limbs (a.m * 2 ^ divK a b p 3)).length ≤ 256 := limbs_of_bits (by omega)
  have hq := div_bits a0 b0 p 3 (by decide)
  have q0 : a.m * 2 ^ divK a b p 3 / b.m ≠ 0 := by intro q; rw [q, bitsN_zero] at hq; omega
  have z2 : (limbs (a.m * 2 ^ divK a b p 3 / b.m)).length ≤ 256 := limbs_of_bits (by have := bitsN_mono (Nat.div_le_self (a.m * 2 ^ divK a b p 3) b.m); omega)
  have z3 : (limbs (a.m * 2 ^ divK a b p 3 % b.m)).length ≤ 256 := limbs_of_bits (by have := bitsN_mono (Nat.le_of_lt (Nat.mod_lt (a.m * 2 ^ divK a b p 3) (Nat.pos_of_ne_zero b0))); omega)
  have hb0 : decide (0 < ((bitsN (a.m * 2 ^ divK a b p 3 % b.m) : Nat) : Int)) = decide (a.m * 2 ^ divK a b p 3 % b.m ≠ 0) := by
   by_cases h : a.m * 2 ^ divK a b p 3 % b.m = 0
   ·rw [h, bitsN_zero]; rfl
   ·have := bitsN_pos h
    rw [decide_eq_true h, decide_eq_true (by omega)]
  obtain ⟨d1, d2⟩ := div_more a0 b0 p up
  have h0 : a.m * 2 ^ divK a b p 3 / b.m ≠ 0 ∨ a.m * 2 ^ divK a b p 3 / b.m = 0 ∧ a.e - ((divK a b p 3 : Nat) : Int) - b.e = 0 ∧ decide (0 < ((bitsN (a.m * 2 ^ divK a b p 3 % b.m) : Nat) : Int)) = false := .inl q0
  have hm : decide (0 < ((bitsN (a.m * 2 ^ divK a b p 3 % b.m) : Nat) : Int)) = true → p < bitsN (a.m * 2 ^ divK a b p 3 / b.m) := fun _ => hq
  exact tr true Tryz.call186 Tryz.func186 (chain [.o 18 (.e (dys2_le _ _) : PV.le (.e (.sl true 2 3 fun i_ j_ => (dyL a ++ dyL b).getD (i_ * 3 + j_) (.v (.bool false)))) (.e (dysP [a, b]))),
   .c (rdFault2_pc _ _ _ ‹_› ‹_› (by omega) (by omega) : PCt 219 [(iP p), (dysP [a, b])] _), tB 21 (by decide : ((0 : Int) != 0) = false),
   tB 28 (natZ_false (limbs_len_ne b0) : ((((limbs b.m).length : Nat) : Int) == 0) = false), tB 34 (natZ_false (limbs_len_ne a0) : ((((limbs a.m).length : Nat) : Int) == 0) = false), r64 ((p : Int) + 3) (by omega),
   .c (dyBits_pc _ ‹_› : PCt 220 [(dyP b)] _), r64 (((p : Int) + 3) + (((bitsN (Dy.m b)) : Nat) : Int)) (by omega), .c (dyBits_pc _ ‹_› : PCt 220 [(dyP a)] _),
   r64 ((((p : Int) + 3) + (((bitsN (Dy.m b)) : Nat) : Int)) - (((bitsN (Dy.m a)) : Nat) : Int)) (by omega),
   .o 44 (.int (by split <;> omega) : PV.le (.e (iP (if ((((p : Int) + 3) + (((bitsN (Dy.m b)) : Nat) : Int)) - (((bitsN (Dy.m a)) : Nat) : Int)) > 0 then ((((p : Int) + 3) + (((bitsN (Dy.m b)) : Nat) : Int)) - (((bitsN (Dy.m a)) : Nat) : Int)) else 0))) (.e (iP (((divK a b p 3) : Nat) : Int)))),
   .c (rdShl_pc a.m (divK a b p 3) (by omega) (by omega) (by omega)), .c (natDivMod_pc _ _ (by omega) (by omega) ‹_› : PCt 221 [(slP (limbs (a.m * 2 ^ (divK a b p 3)))), (slP (limbs b.m))] _),
   r64 (a.e - (((divK a b p 3) : Nat) : Int)) (by omega), r64 ((a.e - (((divK a b p 3) : Nat) : Int)) - b.e) (by omega), .c (natBitsM_pc _ (by omega) : PCt 224 [(slP (limbs ((a.m * 2 ^ (divK a b p 3)) % b.m)))] _),
   .c (rdSigned_pc (! (a.neg == b.neg)) ((a.m * 2 ^ (divK a b p 3)) / b.m) ((a.e - (((divK a b p 3) : Nat) : Int)) - b.e) (decide (0 < (((bitsN ((a.m * 2 ^ (divK a b p 3)) % b.m)) : Nat) : Int))) up p (by omega) ‹_› (by omega) (by omega) (by omega) (by omega) ‹_›)] <| rQ (.tup [(dyP (cutD (!(a.neg == b.neg)) ((a.m * 2 ^ (divK a b p 3)) / b.m) ((a.e - (((divK a b p 3) : Nat) : Int)) - b.e) (decide (0 < (((bitsN ((a.m * 2 ^ (divK a b p 3)) % b.m)) : Nat) : Int))) p up)), (iP (cutE (!(a.neg == b.neg)) ((a.m * 2 ^ (divK a b p 3)) / b.m) ((a.e - (((divK a b p 3) : Nat) : Int)) - b.e) (decide (0 < (((bitsN ((a.m * 2 ^ (divK a b p 3)) % b.m)) : Nat) : Int))) p up))]) (.tup [dyP (divD a b p up), iP (divE a b p up)]) (by rw [← d1, ← d2, ← hb0]; rfl)) (by kernel_rfl)
theorem rdDivDown_pc (a b : Dy) (p : Nat) (ha : a.Valid) (hb : b.Valid) (b0 : b.m ≠ 0) (hp1 : 8 ≤ p) (hp2 : p ≤ 512) : PCt 129 [(dyP a), (dyP b), (iP p)] (.tup [dyP (divD a b p false), iP (divE a b p false)]) := by
 exact tr true Tryz.call129 Tryz.func129 (chain [.c (rdDiv_pc _ _ _ _ ‹_› ‹_› ‹_› (by omega) (by omega) : PCt 186 [(dyP a), (dyP b), (iP p), (bP false)] _)] <| .nil) (by kernel_rfl)
theorem rdDivUp_pc (a b : Dy) (p : Nat) (ha : a.Valid) (hb : b.Valid) (b0 : b.m ≠ 0) (hp1 : 8 ≤ p) (hp2 : p ≤ 512) : PCt 130 [(dyP a), (dyP b), (iP p)] (.tup [dyP (divD a b p true), iP (divE a b p true)]) := by
 exact tr true Tryz.call130 Tryz.func130 (chain [.c (rdDiv_pc _ _ _ _ ‹_› ‹_› ‹_› (by omega) (by omega) : PCt 186 [(dyP a), (dyP b), (iP p), (bP true)] _)] <| .nil) (by kernel_rfl)
open Go.RowKit Fp Pu
def ivKnownFT (l : List Iv) (i : Nat) : PS := ⟨19, true, [(7, .e (iP i)), (6, .e (iP l.length)), (5, .e (ivsP l))], []⟩
def ivKnownFF (l : List Iv) (N : Nat) (i : Nat) : PS := ⟨19, true, [(7, .e (iP i)), (6, .e (iP l.length)), (5, .e (ivsP l))], []⟩
theorem ivs1_le (a : Iv) : E.le (.sl true 1 7 fun i j => (ivL a).getD (i * 7 + j) (.v (.bool false))) (ivsP [a]) := .sl fun i j hi hj => by
 obtain rfl : i = 0 := by omega
 rcases j with _ | _ | _ | _ | _ | _ | _ | j
 all_goals first | exact ⟨.refl _, rfl⟩ | omega
theorem ivs2_le (a b : Iv) : E.le (.sl true 2 7 fun i j => (ivL a ++ ivL b).getD (i * 7 + j) (.v (.bool false))) (ivsP [a, b]) := .sl fun i j hi hj => by
 obtain rfl | rfl : i = 0 ∨ i = 1 := by omega
 all_goals
  rcases j with _ | _ | _ | _ | _ | _ | _ | j
  all_goals first | exact ⟨.refl _, rfl⟩ | omega
theorem ivOff {x : Iv} (h : x.Valid) (ha : x.all = false) : x.lo.Valid ∧ x.hi.Valid ∧ cmpD x.lo x.hi ≤ 0 := by
 rcases h with ⟨h1, _⟩ | ⟨_, h⟩
 ·rw [ha] at h1; cases h1
 ·exact h
theorem ivOn {x : Iv} (h : x.Valid) (ha : x.all = true) : x.lo = zeroD ∧ x.hi = zeroD := by
 rcases h with ⟨_, h⟩ | ⟨h1, _⟩
 ·exact h
 ·rw [ha] at h1; cases h1
theorem ivWhole_pc  : PCt 91 [] (ivP wholeI) := by
 exact tr true Tryz.call91 Tryz.func91 (chain [.o 1 (.e wholeP_le : PV.le (.e (.agg [(bP false), (.v (.slice none 0 0)), (iP 0), (bP false), (.v (.slice none 0 0)), (iP 0), (bP true)])) (.e (ivP wholeI)))] <| .nil) (by kernel_rfl)
theorem ivMade_pc (lo hi : Dy) (e f : Int) : PCt 134 [(dyP lo), (iP e), (dyP hi), (iP f)] (ivP (madeI lo e hi f)) := by
 by_cases he : e = 0
 ·by_cases hf : f = 0
  ·exact tr true Tryz.call134 Tryz.func134 (chain [tB 10 (by rw [he]; rfl : (e != 0) = false), tB 13 (by rw [hf]; rfl : (f != 0) = false)] <| rQ (ivP (Iv.mk lo hi false)) (ivP (madeI lo e hi f)) (by rw [show madeI lo e hi f = ⟨lo, hi, false⟩ by unfold madeI; rw [if_neg (by simp [he, hf])]]; try rfl)) (by kernel_rfl)
  ·exact tr true Tryz.call134 Tryz.func134 (chain [tB 10 (by rw [he]; rfl : (e != 0) = false), tB 13 (by simpa using hf : (f != 0) = true), .c (ivWhole_pc : PCt 91 [] _)] <| rQ (ivP wholeI) (ivP (madeI lo e hi f)) (by rw [show madeI lo e hi f = wholeI by unfold madeI; rw [if_pos (.inr hf)]])) (by kernel_rfl)
 ·exact tr true Tryz.call134 Tryz.func134 (chain [tB 10 (by simpa using he : (e != 0) = true), .c (ivWhole_pc : PCt 91 [] _)] <| rQ (ivP wholeI) (ivP (madeI lo e hi f)) (by rw [show madeI lo e hi f = wholeI by unfold madeI; rw [if_pos (.inl he)]])) (by kernel_rfl)
theorem ivZero_pc  : PCt 116 [(dyP zeroD)] (bP true) := by
 exact tr true Tryz.call116 Tryz.func116 (chain [tB 4 (rfl : zeroD.neg = false), tB 10 (natZ_true (limbs_len0.2 rfl) : ((((limbs zeroD.m).length : Nat) : Int) == 0) = true), tB 15 (rfl : (zeroD.e == 0) = true)] <| .nil) (by kernel_rfl)
theorem ivValid_pc (x : Iv) (hx : x.Valid) : PCt 41 [(ivP x)] (bP true) := by
 by_cases hxa : x.all = true
 ·obtain ⟨h1, h2⟩ := ivOn hx hxa
  exact tr true Tryz.call41 Tryz.func41 (chain [tB 5 (hxa : x.all = true), .c (by rw [h1]; exact ivZero_pc : PCt 116 [(dyP x.lo)] (bP true)), .c (by rw [h2]; exact ivZero_pc : PCt 116 [(dyP x.hi)] (bP true))] <| .nil) (by kernel_rfl)
 ·replace hxa : x.all = false := by simpa using hxa
  obtain ⟨h1, h2, h3⟩ := ivOff hx hxa
  exact tr true Tryz.call41 Tryz.func41 (chain [tB 5 (hxa : x.all = false), .c (dyValid_pc _ ‹_› : PCt 98 [(dyP x.lo)] _), .c (dyValid_pc _ ‹_› : PCt 98 [(dyP x.hi)] _), .c (dyCmp_pc _ _ ‹_› ‹_› : PCt 82 [(dyP x.lo), (dyP x.hi)] _),
   tB 30 (decide_eq_true h3)] <| .nil) (by kernel_rfl)
theorem ivKnown_true (l : List Iv) (hl : l.length ≤ 1000) (hv : ∀ i, i < l.length → (l.getD i wholeI).Valid) (ha : ∀ i, i < l.length → (l.getD i wholeI).all = false) : PCt 90 [(ivsP l)] (bP true) := by
 exact tr true Tryz.call90 Tryz.func90 (chain [.s (Sp.upto (ivKnownFT l) 0 l.length (by omega) (fun i hi hlti => by
    have hvi := hv i (by omega)
    have hai := ha i (by omega)
    exact spt (chain [tT 8 ((i : Int) < (l.length : Int)) (by omega), iX ((i : Int)) (l.length) (by omega), tB 12 (hai : (l.getD i wholeI).all = false), .c (ivValid_pc _ ‹_› : PCt 41 [(ivP (l.getD i wholeI))] _),
     r64 ((i : Int) + 1) (by omega)] <| .nil) (by kernel_rfl))
  (fun hi => by
    exact spt (chain [tF 8 ((l.length : Int) < (l.length : Int)) (by omega)] <| .nil) (by kernel_rfl)) (by nofun) : LpT 2 Tryz.f90 (ivKnownFT l 0) (.exit 0) ⟨19, true, [], []⟩) .nil] <| .nil) (by kernel_rfl)
theorem ivKnown_false (l : List Iv) (hl : l.length ≤ 1000) (hv : ∀ i, i < l.length → (l.getD i wholeI).Valid) (N : Nat) (hN : N < l.length) (ha : ∀ i, i < N → (l.getD i wholeI).all = false) (hN2 : (l.getD N wholeI).all = true) : PCt 90 [(ivsP l)] (bP false) := by
 exact tr true Tryz.call90 Tryz.func90 (chain [.s (Sp.upto (ivKnownFF l N) 0 N (by omega) (fun i hi hlti => by
    have hvi := hv i (by omega)
    have hai := ha i (by omega)
    exact spt (chain [tT 8 ((i : Int) < (l.length : Int)) (by omega), iX ((i : Int)) (l.length) (by omega), tB 12 (hai : (l.getD i wholeI).all = false), .c (ivValid_pc _ ‹_› : PCt 41 [(ivP (l.getD i wholeI))] _),
     r64 ((i : Int) + 1) (by omega)] <| .nil) (by kernel_rfl))
  (fun hi => by
    exact spt (chain [tT 8 ((N : Int) < (l.length : Int)) (by omega), iX ((N : Int)) (l.length) (by omega), tB 12 (hN2 : (l.getD N wholeI).all = true)] <| .nil) (by kernel_rfl)) (by nofun) : LpT 2 Tryz.f90 (ivKnownFF l N 0) .ret ⟨19, true, [(2, .e (bP false))], []⟩) .nil] <| .nil) (by kernel_rfl)
theorem ivKnown1_pc (x : Iv) (hx : x.Valid) : PCt 90 [ivsP [x]] (bP (!x.all)) := by
 have hv : ∀ i, i < [x].length → ([x].getD i wholeI).Valid := fun i hi => (match i, hi with
  | 0, _ => hx
  | n + 1, hi => absurd hi (by simp))
 cases hxa : x.all with
 | true => exact ivKnown_false [x] (by simp) hv 0 (by simp) (fun i hi => absurd hi (Nat.not_lt_zero i)) hxa
 | false => exact ivKnown_true [x] (by simp) hv (fun i hi => (match i, hi with
  | 0, _ => hxa
  | n + 1, hi => absurd hi (by simp)))
theorem ivKnown2_pc (x y : Iv) (hx : x.Valid) (hy : y.Valid) : PCt 90 [ivsP [x, y]] (bP (!(x.all || y.all))) := by
 have hv : ∀ i, i < [x, y].length → ([x, y].getD i wholeI).Valid := fun i hi => (match i, hi with
  | 0, _ => hx
  | 1, _ => hy
  | n + 2, hi => absurd hi (by simp))
 cases hxa : x.all with
 | true => exact ivKnown_false [x, y] (by simp) hv 0 (by simp) (fun i hi => absurd hi (Nat.not_lt_zero i)) hxa
 | false => cases hya : y.all with
  | true => exact ivKnown_false [x, y] (by simp) hv 1 (by simp) (fun i hi => (match i, hi with
   | 0, _ => hxa
   | n + 1, hi => absurd hi (by omega))) hya
  | false => exact ivKnown_true [x, y] (by simp) hv (fun i hi => (match i, hi with
   | 0, _ => hxa
   | 1, _ => hya
   | n + 2, hi => absurd hi (by simp)))
theorem ivAdd_pc (x y : Iv) (p : Nat) (hx : x.Valid) (hy : y.Valid) (hp1 : 8 ≤ p) (hp2 : p ≤ 512) : PCt 48 [(ivP x), (ivP y), (iP p)] (ivP (addI x y p)) := by
 by_cases hk : (x.all || y.all) = true
 ·exact tr true Tryz.call48 Tryz.func48 (chain [.o 13 (.e (ivs2_le _ _) : PV.le (.e (.sl true 2 7 fun i_ j_ => (ivL x ++ ivL y).getD (i_ * 7 + j_) (.v (.bool false)))) (.e (ivsP [x, y]))), .c (ivKnown2_pc _ _ ‹_› ‹_› : PCt 90 [(ivsP [x, y])] _),
   tB 14 (by rw [hk]; rfl : (!(x.all || y.all)) = false), .c (ivWhole_pc : PCt 91 [] _)] <| rQ (ivP wholeI) (ivP (addI x y p)) (by rw [show addI x y p = wholeI by unfold addI; rw [if_pos hk]])) (by kernel_rfl)
 ·replace hk : (x.all || y.all) = false := by simpa using hk
  have hxa : x.all = false := by cases h : x.all; rfl; rw [h] at hk; simp at hk
  have hya : y.all = false := by cases h : y.all; rfl; rw [h] at hk; simp at hk
  obtain ⟨v1, v2, v3⟩ := ivOff hx hxa
  obtain ⟨v4, v5, v6⟩ := ivOff hy hya
  exact tr true Tryz.call48 Tryz.func48 (chain [.o 13 (.e (ivs2_le _ _) : PV.le (.e (.sl true 2 7 fun i_ j_ => (ivL x ++ ivL y).getD (i_ * 7 + j_) (.v (.bool false)))) (.e (ivsP [x, y]))), .c (ivKnown2_pc _ _ ‹_› ‹_› : PCt 90 [(ivsP [x, y])] _),
   tB 14 (by rw [hk]; rfl : (!(x.all || y.all)) = true), .c (ivPermitted_pc _ : PCt 126 [(iP p)] _), tB 18 (precB_true.2 ⟨by omega, by omega⟩ : (precB (p : Int)) = true),
   .c (rdAddDown_pc x.lo y.lo p ‹_› ‹_› (by omega) (by omega)), .c (rdAddUp_pc x.hi y.hi p ‹_› ‹_› (by omega) (by omega)),
   .c (ivMade_pc _ _ _ _ : PCt 134 [(dyP (rndD (sumD x.lo y.lo) p false)), (iP (rndE (sumD x.lo y.lo) p false)), (dyP (rndD (sumD x.hi y.hi) p true)), (iP (rndE (sumD x.hi y.hi) p true))] _)] <| rQ (ivP (madeI (rndD (sumD x.lo y.lo) p false) (rndE (sumD x.lo y.lo) p false) (rndD (sumD x.hi y.hi) p true) (rndE (sumD x.hi y.hi) p true))) (ivP (addI x y p)) (by rw [show addI x y p = _ by unfold addI; rw [if_neg (by rw [hk]; decide)]])) (by kernel_rfl)
theorem ivNeg_pc (x : Iv) (hx : x.Valid) : PCt 24 [(ivP x)] (ivP (negI x)) := by
 by_cases hxa : x.all = true
 ·exact tr true Tryz.call24 Tryz.func24 (chain [.o 4 (.e (ivs1_le _) : PV.le (.e (.sl true 1 7 fun i_ j_ => (ivL x).getD (i_ * 7 + j_) (.v (.bool false)))) (.e (ivsP [x]))), .c (ivKnown1_pc _ ‹_› : PCt 90 [(ivsP [x])] _), tB 5 (by rw [hxa]; rfl : (!x.all) = false),
   .c (ivWhole_pc : PCt 91 [] _)] <| rQ (ivP wholeI) (ivP (negI x)) (by rw [show negI x = wholeI by unfold negI; rw [if_pos hxa]])) (by kernel_rfl)
 ·replace hxa : x.all = false := by simpa using hxa
  obtain ⟨v1, v2, v3⟩ := ivOff hx hxa
  exact tr true Tryz.call24 Tryz.func24 (chain [.o 4 (.e (ivs1_le _) : PV.le (.e (.sl true 1 7 fun i_ j_ => (ivL x).getD (i_ * 7 + j_) (.v (.bool false)))) (.e (ivsP [x]))), .c (ivKnown1_pc _ ‹_› : PCt 90 [(ivsP [x])] _), tB 5 (by rw [hxa]; rfl : (!x.all) = true),
   .c (dyNeg_pc _ ‹_› : PCt 92 [(dyP x.hi)] _), .c (dyNeg_pc _ ‹_› : PCt 92 [(dyP x.lo)] _)] <| rQ (ivP (Iv.mk (negD x.hi) (negD x.lo) false)) (ivP (negI x)) (by rw [show negI x = ⟨negD x.hi, negD x.lo, false⟩ by unfold negI; rw [if_neg (by rw [hxa]; decide)]]; try rfl)) (by kernel_rfl)
theorem ivSub_pc (x y : Iv) (p : Nat) (hx : x.Valid) (hy : y.Valid) (hp1 : 8 ≤ p) (hp2 : p ≤ 512) : PCt 120 [(ivP x), (ivP y), (iP p)] (ivP (subI x y p)) := by
 have hn := negI_valid hy
 exact tr true Tryz.call120 Tryz.func120 (chain [.c (ivNeg_pc _ ‹_› : PCt 24 [(ivP y)] _), .c (ivAdd_pc _ _ _ ‹_› ‹_› (by omega) (by omega) : PCt 48 [(ivP x), (ivP (negI y)), (iP p)] _)] <| .nil) (by kernel_rfl)
theorem ivPoint_pc (d : Dy) (hd : d.Valid) : PCt 28 [(dyP d)] (ivP (pointI d)) := by
 exact tr true Tryz.call28 Tryz.func28 (chain [.c (dyValid_pc _ ‹_› : PCt 98 [(dyP d)] _)] <| .nil) (by kernel_rfl)
theorem dyAbs_pc (d : Dy) (hd : d.Valid) : PCt 217 [(dyP d)] (dyP (absD d)) := by
 have hl := hd.limbs
 by_cases h0 : d.m = 0
 ·have e1 : absD d = zeroD := by
   rcases hd.canon with q | q
   ·unfold absD zeroD; rw [q.1, q.2.2]
   ·omega
  exact tr true Tryz.call217 Tryz.func217 (chain [.c (dyValid_pc _ ‹_› : PCt 98 [(dyP d)] _), tB 10 (natZ_true (limbs_len0.2 h0) : ((((limbs d.m).length : Nat) : Int) == 0) = true),
   .o 12 (.e zeroP_le : PV.le (.e (.agg [(bP false), (.v (.slice none 0 0)), (iP 0)])) (.e (dyP zeroD)))] <| rQ (dyP zeroD) (dyP (absD d)) (by rw [e1])) (by kernel_rfl)
 ·exact tr true Tryz.call217 Tryz.func217 (chain [.c (dyValid_pc _ ‹_› : PCt 98 [(dyP d)] _), tB 10 (natZ_false (limbs_len_ne h0) : ((((limbs d.m).length : Nat) : Int) == 0) = false), .c (clone_pc _ (ok_limbs _) (by omega) : PCt 164 [(slP (limbs d.m))] _)] <| .nil) (by kernel_rfl)
theorem ivLess_pc (a b : Dy) (ha : a.Valid) (hb : b.Valid) : PCt 81 [(dyP a), (dyP b)] (dyP (minD a b)) := by
 have hc := cmpD_neg a b
 by_cases h : (cmpD a b ≤ 0)
 ·exact tr true Tryz.call81 Tryz.func81 (chain [.c (dyCmp_pc _ _ ‹_› ‹_› : PCt 82 [(dyP a), (dyP b)] _), tB 8 (decide_eq_true h)] <| rQ (dyP a) (dyP (minD a b)) (by unfold minD; rw [if_neg (by omega)])) (by kernel_rfl)
 ·exact tr true Tryz.call81 Tryz.func81 (chain [.c (dyCmp_pc _ _ ‹_› ‹_› : PCt 82 [(dyP a), (dyP b)] _), tB 8 (decide_eq_false h)] <| rQ (dyP b) (dyP (minD a b)) (by unfold minD; rw [if_pos (by omega)])) (by kernel_rfl)
theorem ivMore_pc (a b : Dy) (ha : a.Valid) (hb : b.Valid) : PCt 80 [(dyP a), (dyP b)] (dyP (maxD a b)) := by
 have hc := cmpD_neg a b
 by_cases h : (0 ≤ cmpD a b)
 ·exact tr true Tryz.call80 Tryz.func80 (chain [.c (dyCmp_pc _ _ ‹_› ‹_› : PCt 82 [(dyP a), (dyP b)] _), tB 8 (decide_eq_true h)] <| rQ (dyP a) (dyP (maxD a b)) (by unfold maxD; rw [if_neg (by omega)])) (by kernel_rfl)
 ·exact tr true Tryz.call80 Tryz.func80 (chain [.c (dyCmp_pc _ _ ‹_› ‹_› : PCt 82 [(dyP a), (dyP b)] _), tB 8 (decide_eq_false h)] <| rQ (dyP b) (dyP (maxD a b)) (by unfold maxD; rw [if_pos (by omega)])) (by kernel_rfl)
theorem ivSign_pc (x : Iv) (hx : x.Valid) : PCt 127 [(ivP x)] (iP (signI x)) := by
 by_cases hxa : x.all = true
 ·exact tr true Tryz.call127 Tryz.func127 (chain [.o 5 (.e (ivs1_le _) : PV.le (.e (.sl true 1 7 fun i_ j_ => (ivL x).getD (i_ * 7 + j_) (.v (.bool false)))) (.e (ivsP [x]))), .c (ivKnown1_pc _ ‹_› : PCt 90 [(ivsP [x])] _), tB 6 (by rw [hxa]; rfl : (!x.all) = false)] <| rQ (iP 0) (iP (signI x)) (by rw [show signI x = 0 by unfold signI; rw [if_pos hxa]])) (by kernel_rfl)
 ·replace hxa : x.all = false := by simpa using hxa
  obtain ⟨v1, v2, v3⟩ := ivOff hx hxa
  by_cases h1 : 0 < x.lo.sign
  ·exact tr true Tryz.call127 Tryz.func127 (chain [.o 5 (.e (ivs1_le _) : PV.le (.e (.sl true 1 7 fun i_ j_ => (ivL x).getD (i_ * 7 + j_) (.v (.bool false)))) (.e (ivsP [x]))), .c (ivKnown1_pc _ ‹_› : PCt 90 [(ivsP [x])] _), tB 6 (by rw [hxa]; rfl : (!x.all) = true),
    .c (dySign_pc _ ‹_› : PCt 114 [(dyP x.lo)] _), tB 12 (decide_eq_true h1)] <| rQ (iP 1) (iP (signI x)) (by rw [show signI x = 1 by unfold signI; rw [if_neg (by rw [hxa]; decide)]; simp [h1]])) (by kernel_rfl)
  ·by_cases h2 : x.hi.sign < 0
   ·exact tr true Tryz.call127 Tryz.func127 (chain [.o 5 (.e (ivs1_le _) : PV.le (.e (.sl true 1 7 fun i_ j_ => (ivL x).getD (i_ * 7 + j_) (.v (.bool false)))) (.e (ivsP [x]))), .c (ivKnown1_pc _ ‹_› : PCt 90 [(ivsP [x])] _), tB 6 (by rw [hxa]; rfl : (!x.all) = true),
     .c (dySign_pc _ ‹_› : PCt 114 [(dyP x.lo)] _), tB 12 (decide_eq_false h1), .c (dySign_pc _ ‹_› : PCt 114 [(dyP x.hi)] _), tB 17 (decide_eq_true h2)] <| rQ (iP (-1)) (iP (signI x)) (by rw [show signI x = -1 by unfold signI; rw [if_neg (by rw [hxa]; decide)]; simp [h1, h2]])) (by kernel_rfl)
   ·exact tr true Tryz.call127 Tryz.func127 (chain [.o 5 (.e (ivs1_le _) : PV.le (.e (.sl true 1 7 fun i_ j_ => (ivL x).getD (i_ * 7 + j_) (.v (.bool false)))) (.e (ivsP [x]))), .c (ivKnown1_pc _ ‹_› : PCt 90 [(ivsP [x])] _), tB 6 (by rw [hxa]; rfl : (!x.all) = true),
     .c (dySign_pc _ ‹_› : PCt 114 [(dyP x.lo)] _), tB 12 (decide_eq_false h1), .c (dySign_pc _ ‹_› : PCt 114 [(dyP x.hi)] _), tB 17 (decide_eq_false h2)] <| rQ (iP 0) (iP (signI x)) (by rw [show signI x = 0 by unfold signI; rw [if_neg (by rw [hxa]; decide)]; simp [h1, h2]])) (by kernel_rfl)
theorem ivMag_pc (x : Iv) (hx : x.Valid) (hxa : x.all = false) : PCt 182 [(ivP x)] (.tup [dyP (magI x), bP true]) := by
 obtain ⟨v1, v2, v3⟩ := ivOff hx hxa
 have w1 := absD_valid v1
 have w2 := absD_valid v2
 exact tr true Tryz.call182 Tryz.func182 (chain [.o 5 (.e (ivs1_le _) : PV.le (.e (.sl true 1 7 fun i_ j_ => (ivL x).getD (i_ * 7 + j_) (.v (.bool false)))) (.e (ivsP [x]))), .c (ivKnown1_pc _ ‹_› : PCt 90 [(ivsP [x])] _), tB 6 (by rw [hxa]; rfl : (!x.all) = true),
  .c (dyAbs_pc _ ‹_› : PCt 217 [(dyP x.lo)] _), .c (dyAbs_pc _ ‹_› : PCt 217 [(dyP x.hi)] _), .c (ivMore_pc _ _ ‹_› ‹_› : PCt 80 [(dyP (absD x.lo)), (dyP (absD x.hi))] _)] <| .nil) (by kernel_rfl)
theorem ivMig_pc (x : Iv) (hx : x.Valid) (hxa : x.all = false) : PCt 185 [(ivP x)] (.tup [dyP (migI x), bP true]) := by
 obtain ⟨v1, v2, v3⟩ := ivOff hx hxa
 have w1 := absD_valid v1
 have w2 := absD_valid v2
 by_cases hs : signI x = 0
 ·exact tr true Tryz.call185 Tryz.func185 (chain [.o 5 (.e (ivs1_le _) : PV.le (.e (.sl true 1 7 fun i_ j_ => (ivL x).getD (i_ * 7 + j_) (.v (.bool false)))) (.e (ivsP [x]))), .c (ivKnown1_pc _ ‹_› : PCt 90 [(ivsP [x])] _), tB 6 (by rw [hxa]; rfl : (!x.all) = true),
   .c (ivSign_pc _ ‹_› : PCt 127 [(ivP x)] _), tB 11 (by rw [hs]; rfl : ((signI x) == 0) = true), .o 12 (.e zeroP_le : PV.le (.e (.agg [(bP false), (.v (.slice none 0 0)), (iP 0)])) (.e (dyP zeroD)))] <| rQ (.tup [(dyP zeroD), (bP true)]) (.tup [dyP (migI x), bP true]) (by rw [show migI x = zeroD by unfold migI; rw [if_pos hs]])) (by kernel_rfl)
 ·exact tr true Tryz.call185 Tryz.func185 (chain [.o 5 (.e (ivs1_le _) : PV.le (.e (.sl true 1 7 fun i_ j_ => (ivL x).getD (i_ * 7 + j_) (.v (.bool false)))) (.e (ivsP [x]))), .c (ivKnown1_pc _ ‹_› : PCt 90 [(ivsP [x])] _), tB 6 (by rw [hxa]; rfl : (!x.all) = true),
   .c (ivSign_pc _ ‹_› : PCt 127 [(ivP x)] _), tB 11 (by simpa using hs : ((signI x) == 0) = false), .c (dyAbs_pc _ ‹_› : PCt 217 [(dyP x.lo)] _), .c (dyAbs_pc _ ‹_› : PCt 217 [(dyP x.hi)] _),
   .c (ivLess_pc _ _ ‹_› ‹_› : PCt 81 [(dyP (absD x.lo)), (dyP (absD x.hi))] _)] <| rQ (.tup [(dyP (minD (absD x.lo) (absD x.hi))), (bP true)]) (.tup [dyP (migI x), bP true]) (by rw [show migI x = minD (absD x.lo) (absD x.hi) by unfold migI; rw [if_neg hs]])) (by kernel_rfl)
theorem ivAbs_pc (x : Iv) (hx : x.Valid) : PCt 119 [(ivP x)] (ivP (absI x)) := by
 by_cases hxa : x.all = true
 ·exact tr true Tryz.call119 Tryz.func119 (chain [.o 8 (.e (ivs1_le _) : PV.le (.e (.sl true 1 7 fun i_ j_ => (ivL x).getD (i_ * 7 + j_) (.v (.bool false)))) (.e (ivsP [x]))), .c (ivKnown1_pc _ ‹_› : PCt 90 [(ivsP [x])] _), tB 9 (by rw [hxa]; rfl : (!x.all) = false),
   .c (ivWhole_pc : PCt 91 [] _)] <| rQ (ivP wholeI) (ivP (absI x)) (by rw [show absI x = wholeI by unfold absI; rw [if_pos hxa]])) (by kernel_rfl)
 ·replace hxa : x.all = false := by simpa using hxa
  obtain ⟨v1, v2, v3⟩ := ivOff hx hxa
  exact tr true Tryz.call119 Tryz.func119 (chain [.o 8 (.e (ivs1_le _) : PV.le (.e (.sl true 1 7 fun i_ j_ => (ivL x).getD (i_ * 7 + j_) (.v (.bool false)))) (.e (ivsP [x]))), .c (ivKnown1_pc _ ‹_› : PCt 90 [(ivsP [x])] _), tB 9 (by rw [hxa]; rfl : (!x.all) = true),
   .c (ivMig_pc _ ‹_› hxa : PCt 185 [(ivP x)] _), .c (ivMag_pc _ ‹_› hxa : PCt 182 [(ivP x)] _)] <| rQ (ivP (Iv.mk (migI x) (magI x) false)) (ivP (absI x)) (by rw [show absI x = ⟨migI x, magI x, false⟩ by unfold absI; rw [if_neg (by rw [hxa]; decide)]]; try rfl)) (by kernel_rfl)
open Go.RowKit Fp Pu
def ivFour1 (x y : Iv) (p : Nat) (gd gu : FuncId) (DD : Dy → Dy → Bool → Dy) (EE : Dy → Dy → Bool → Int) : PS := ⟨96, true, [(41, .e (iP 0)), (40, .e (.agg (ivL (Iv.mk x.lo y.lo x.lo.neg) ++ [(slP (limbs x.lo.m)), (iP x.lo.e)] ++ ivL (Iv.mk y.hi x.hi y.lo.neg) ++ [(slP (limbs y.lo.m)), (iP y.lo.e)] ++ dyL x.hi ++ dyL y.hi))), (12, .box 12 0), (10, .box 10 0), (2, .e (iP p)), (3, .e (.fn gd [])), (4, .e (.fn gu []))], [(12, .cells 28 (ivL (Iv.mk (DD x.lo y.lo false) (DD x.lo y.lo true) false))), (10, .cells 28 [(bP false), (.v (.slice none 0 0)), (iP 0), (bP false), (.v (.slice none 0 0)), (iP 0), (bP false)])]⟩
def ivFour2 (x y : Iv) (p : Nat) (gd gu : FuncId) (DD : Dy → Dy → Bool → Dy) (EE : Dy → Dy → Bool → Int) : PS := ⟨96, true, [(41, .e (iP (0 + 1))), (40, .e (.agg (ivL (Iv.mk x.lo y.lo x.lo.neg) ++ [(slP (limbs x.lo.m)), (iP x.lo.e)] ++ ivL (Iv.mk y.hi x.hi y.lo.neg) ++ [(slP (limbs y.lo.m)), (iP y.lo.e)] ++ dyL x.hi ++ dyL y.hi))), (12, .box 12 0), (10, .box 10 0), (2, .e (iP p)), (3, .e (.fn gd [])), (4, .e (.fn gu []))], [(12, .cells 28 (ivL (Iv.mk (minD (DD x.lo y.lo false) (DD x.lo y.hi false)) (maxD (DD x.lo y.lo true) (DD x.lo y.hi true)) false))), (10, .cells 28 [(bP false), (.v (.slice none 0 0)), (iP 0), (bP false), (.v (.slice none 0 0)), (iP 0), (bP false)])]⟩
def ivFour3 (x y : Iv) (p : Nat) (gd gu : FuncId) (DD : Dy → Dy → Bool → Dy) (EE : Dy → Dy → Bool → Int) : PS := ⟨96, true, [(41, .e (iP ((0 + 1) + 1))), (40, .e (.agg (ivL (Iv.mk x.lo y.lo x.lo.neg) ++ [(slP (limbs x.lo.m)), (iP x.lo.e)] ++ ivL (Iv.mk y.hi x.hi y.lo.neg) ++ [(slP (limbs y.lo.m)), (iP y.lo.e)] ++ dyL x.hi ++ dyL y.hi))), (12, .box 12 0), (10, .box 10 0), (2, .e (iP p)), (3, .e (.fn gd [])), (4, .e (.fn gu []))], [(12, .cells 28 (ivL (Iv.mk (minD (minD (DD x.lo y.lo false) (DD x.lo y.hi false)) (DD x.hi y.lo false)) (maxD (maxD (DD x.lo y.lo true) (DD x.lo y.hi true)) (DD x.hi y.lo true)) false))), (10, .cells 28 [(bP false), (.v (.slice none 0 0)), (iP 0), (bP false), (.v (.slice none 0 0)), (iP 0), (bP false)])]⟩
def ivFour4 (x y : Iv) (p : Nat) (gd gu : FuncId) (DD : Dy → Dy → Bool → Dy) (EE : Dy → Dy → Bool → Int) : PS := ⟨96, true, [(41, .e (iP (((0 + 1) + 1) + 1))), (40, .e (.agg (ivL (Iv.mk x.lo y.lo x.lo.neg) ++ [(slP (limbs x.lo.m)), (iP x.lo.e)] ++ ivL (Iv.mk y.hi x.hi y.lo.neg) ++ [(slP (limbs y.lo.m)), (iP y.lo.e)] ++ dyL x.hi ++ dyL y.hi))), (12, .box 12 0), (10, .box 10 0), (2, .e (iP p)), (3, .e (.fn gd [])), (4, .e (.fn gu []))], [(12, .cells 28 (ivL (Iv.mk (minD (minD (minD (DD x.lo y.lo false) (DD x.lo y.hi false)) (DD x.hi y.lo false)) (DD x.hi y.hi false)) (maxD (maxD (maxD (DD x.lo y.lo true) (DD x.lo y.hi true)) (DD x.hi y.lo true)) (DD x.hi y.hi true)) false))), (10, .cells 28 [(bP false), (.v (.slice none 0 0)), (iP 0), (bP false), (.v (.slice none 0 0)), (iP 0), (bP false)])]⟩
theorem ivFour_pc (x y : Iv) (p : Nat) (gd gu : FuncId) (DD : Dy → Dy → Bool → Dy) (EE : Dy → Dy → Bool → Int) (hd : ∀ a b, (a = x.lo ∨ a = x.hi) → (b = y.lo ∨ b = y.hi) → PCt gd [dyP a, dyP b, iP (p : Int)] (.tup [dyP (DD a b false), iP (EE a b false)]))
  (hu : ∀ a b, (a = x.lo ∨ a = x.hi) → (b = y.lo ∨ b = y.hi) → PCt gu [dyP a, dyP b, iP (p : Int)] (.tup [dyP (DD a b true), iP (EE a b true)])) (hv : ∀ a b up, (DD a b up).Valid) : PCt 128 [(ivP x), (ivP y), (iP p), (.fn gd []), (.fn gu [])] (ivP (fourI DD EE x y)) := by
 exact tr true Tryz.call128 Tryz.func128 (chain [.u 5, tB 42 (by decide : (decide ((0 : Int) < 4)) = true)] <| .w ((EE x.lo y.lo false) = 0)
  (fun k1 => .w ((EE x.lo y.lo true) = 0)
   (fun k2 => chain [.j 3 (ivFour1 x y p gd gu DD EE)
   (chain [iX (0) (4) (by omega), iX (0) (2) (by omega), iX (1) (2) (by omega), .c (hd _ _ (.inl rfl) (.inl rfl) : PCt gd ((dyP x.lo) :: (dyP y.lo) :: (iP p) :: []) _), iX (0) (2) (by omega), iX (1) (2) (by omega),
    .c (hu _ _ (.inl rfl) (.inl rfl) : PCt gu ((dyP x.lo) :: (dyP y.lo) :: (iP p) :: []) _), tB 66 (bne_eq_false_iff_eq.2 k1), tB 69 (bne_eq_false_iff_eq.2 k2), tB 73 (by decide : ((0 : Int) == 0) = true),
    tB 84 (by decide : ((0 : Int) == 0) = true)] <| .nil),
    r64 (0 + 1) (by omega), tB 42 (by decide : (decide (((0 + 1) : Int) < 4)) = true)] <| .w ((EE x.lo y.hi false) = 0)
    (fun k3 => .w ((EE x.lo y.hi true) = 0)
     (fun k4 => chain [.j 3 (ivFour2 x y p gd gu DD EE)
   (chain [iX ((0 + 1)) (4) (by omega), iX (0) (2) (by omega), iX (1) (2) (by omega), .c (hd _ _ (.inl rfl) (.inr rfl) : PCt gd ((dyP x.lo) :: (dyP y.hi) :: (iP p) :: []) _), iX (0) (2) (by omega), iX (1) (2) (by omega),
    .c (hu _ _ (.inl rfl) (.inr rfl) : PCt gu ((dyP x.lo) :: (dyP y.hi) :: (iP p) :: []) _), tB 66 (bne_eq_false_iff_eq.2 k3), tB 69 (bne_eq_false_iff_eq.2 k4), tB 73 (by decide : (((0 + 1) : Int) == 0) = false),
    .c (dyCmp_pc _ _ (hv _ _ _) (hv _ _ _) : PCt 82 [(dyP (DD x.lo y.hi false)), (dyP (DD x.lo y.lo false))] _)] <| .w ((cmpD (DD x.lo y.hi false) (DD x.lo y.lo false)) < 0)
    (fun m1 => chain [tB 79 (decide_eq_true m1), tB 84 (by decide : (((0 + 1) : Int) == 0) = false), .c (dyCmp_pc _ _ (hv _ _ _) (hv _ _ _) : PCt 82 [(dyP (DD x.lo y.hi true)), (dyP (DD x.lo y.lo true))] _)] <| .w (0 < (cmpD (DD x.lo y.hi true) (DD x.lo y.lo true)))
     (fun m2 => chain [tB 90 (decide_eq_true m2)] <| .e (chain [.b 12 (.of_eq (by rw [show minD (DD x.lo y.lo false) (DD x.lo y.hi false) = (DD x.lo y.hi false) from if_pos m1, show maxD (DD x.lo y.lo true) (DD x.lo y.hi true) = (DD x.lo y.hi true) from if_pos m2]) : Bx.le (.cells 28 (ivL (Iv.mk (DD x.lo y.hi false) (DD x.lo y.hi true) false))) (.cells 28 (ivL (Iv.mk (minD (DD x.lo y.lo false) (DD x.lo y.hi false)) (maxD (DD x.lo y.lo true) (DD x.lo y.hi true)) false))))] <| .nil))
     (fun m2 => chain [tB 90 (decide_eq_false m2)] <| .e (chain [.b 12 (.of_eq (by rw [show minD (DD x.lo y.lo false) (DD x.lo y.hi false) = (DD x.lo y.hi false) from if_pos m1, show maxD (DD x.lo y.lo true) (DD x.lo y.hi true) = (DD x.lo y.lo true) from if_neg m2]) : Bx.le (.cells 28 (ivL (Iv.mk (DD x.lo y.hi false) (DD x.lo y.lo true) false))) (.cells 28 (ivL (Iv.mk (minD (DD x.lo y.lo false) (DD x.lo y.hi false)) (maxD (DD x.lo y.lo true) (DD x.lo y.hi true)) false))))] <| .nil)))
    (fun m1 => chain [tB 79 (decide_eq_false m1), tB 84 (by decide : (((0 + 1) : Int) == 0) = false), .c (dyCmp_pc _ _ (hv _ _ _) (hv _ _ _) : PCt 82 [(dyP (DD x.lo y.hi true)), (dyP (DD x.lo y.lo true))] _)] <| .w (0 < (cmpD (DD x.lo y.hi true) (DD x.lo y.lo true)))
     (fun m2 => chain [tB 90 (decide_eq_true m2)] <| .e (chain [.b 12 (.of_eq (by rw [show minD (DD x.lo y.lo false) (DD x.lo y.hi false) = (DD x.lo y.lo false) from if_neg m1, show maxD (DD x.lo y.lo true) (DD x.lo y.hi true) = (DD x.lo y.hi true) from if_pos m2]) : Bx.le (.cells 28 (ivL (Iv.mk (DD x.lo y.lo false) (DD x.lo y.hi true) false))) (.cells 28 (ivL (Iv.mk (minD (DD x.lo y.lo false) (DD x.lo y.hi false)) (maxD (DD x.lo y.lo true) (DD x.lo y.hi true)) false))))] <| .nil))
     (fun m2 => chain [tB 90 (decide_eq_false m2)] <| .e (chain [.b 12 (.of_eq (by rw [show minD (DD x.lo y.lo false) (DD x.lo y.hi false) = (DD x.lo y.lo false) from if_neg m1, show maxD (DD x.lo y.lo true) (DD x.lo y.hi true) = (DD x.lo y.lo true) from if_neg m2]) : Bx.le (.cells 28 (ivL (Iv.mk (DD x.lo y.lo false) (DD x.lo y.lo true) false))) (.cells 28 (ivL (Iv.mk (minD (DD x.lo y.lo false) (DD x.lo y.hi false)) (maxD (DD x.lo y.lo true) (DD x.lo y.hi true)) false))))] <| .nil)))),
      r64 ((0 + 1) + 1) (by omega), tB 42 (by decide : (decide ((((0 + 1) + 1) : Int) < 4)) = true)] <| .w ((EE x.hi y.lo false) = 0)
      (fun k5 => .w ((EE x.hi y.lo true) = 0)
       (fun k6 => chain [.j 3 (ivFour3 x y p gd gu DD EE)
   (chain [iX (((0 + 1) + 1)) (4) (by omega), iX (0) (2) (by omega), iX (1) (2) (by omega), .c (hd _ _ (.inr rfl) (.inl rfl) : PCt gd ((dyP x.hi) :: (dyP y.lo) :: (iP p) :: []) _), iX (0) (2) (by omega), iX (1) (2) (by omega),
    .c (hu _ _ (.inr rfl) (.inl rfl) : PCt gu ((dyP x.hi) :: (dyP y.lo) :: (iP p) :: []) _), tB 66 (bne_eq_false_iff_eq.2 k5), tB 69 (bne_eq_false_iff_eq.2 k6), tB 73 (by decide : ((((0 + 1) + 1) : Int) == 0) = false),
    .c (dyCmp_pc _ _ (hv _ _ _) (minD_valid (hv _ _ _) (hv _ _ _)) : PCt 82 [(dyP (DD x.hi y.lo false)), (dyP (minD (DD x.lo y.lo false) (DD x.lo y.hi false)))] _)] <| .w ((cmpD (DD x.hi y.lo false) (minD (DD x.lo y.lo false) (DD x.lo y.hi false))) < 0)
    (fun m1 => chain [tB 79 (decide_eq_true m1), tB 84 (by decide : ((((0 + 1) + 1) : Int) == 0) = false),
     .c (dyCmp_pc _ _ (hv _ _ _) (maxD_valid (hv _ _ _) (hv _ _ _)) : PCt 82 [(dyP (DD x.hi y.lo true)), (dyP (maxD (DD x.lo y.lo true) (DD x.lo y.hi true)))] _)] <| .w (0 < (cmpD (DD x.hi y.lo true) (maxD (DD x.lo y.lo true) (DD x.lo y.hi true))))
     (fun m2 => chain [tB 90 (decide_eq_true m2)] <| .e (chain [.b 12 (.of_eq (by rw [show minD (minD (DD x.lo y.lo false) (DD x.lo y.hi false)) (DD x.hi y.lo false) = (DD x.hi y.lo false) from if_pos m1, show maxD (maxD (DD x.lo y.lo true) (DD x.lo y.hi true)) (DD x.hi y.lo true) = (DD x.hi y.lo true) from if_pos m2]) : Bx.le (.cells 28 (ivL (Iv.mk (DD x.hi y.lo false) (DD x.hi y.lo true) false))) (.cells 28 (ivL (Iv.mk (minD (minD (DD x.lo y.lo false) (DD x.lo y.hi false)) (DD x.hi y.lo false)) (maxD (maxD (DD x.lo y.lo true) (DD x.lo y.hi true)) (DD x.hi y.lo true)) false))))] <| .nil))
     (fun m2 => chain [tB 90 (decide_eq_false m2)] <| .e (chain [.b 12 (.of_eq (by rw [show minD (minD (DD x.lo y.lo false) (DD x.lo y.hi false)) (DD x.hi y.lo false) = (DD x.hi y.lo false) from if_pos m1, show maxD (maxD (DD x.lo y.lo true) (DD x.lo y.hi true)) (DD x.hi y.lo true) = (maxD (DD x.lo y.lo true) (DD x.lo y.hi true)) from if_neg m2]) : Bx.le (.cells 28 (ivL (Iv.mk (DD x.hi y.lo false) (maxD (DD x.lo y.lo true) (DD x.lo y.hi true)) false))) (.cells 28 (ivL (Iv.mk (minD (minD (DD x.lo y.lo false) (DD x.lo y.hi false)) (DD x.hi y.lo false)) (maxD (maxD (DD x.lo y.lo true) (DD x.lo y.hi true)) (DD x.hi y.lo true)) false))))] <| .nil)))
    (fun m1 => chain [tB 79 (decide_eq_false m1), tB 84 (by decide : ((((0 + 1) + 1) : Int) == 0) = false),
     .c (dyCmp_pc _ _ (hv _ _ _) (maxD_valid (hv _ _ _) (hv _ _ _)) : PCt 82 [(dyP (DD x.hi y.lo true)), (dyP (maxD (DD x.lo y.lo true) (DD x.lo y.hi true)))] _)] <| .w (0 < (cmpD (DD x.hi y.lo true) (maxD (DD x.lo y.lo true) (DD x.lo y.hi true))))
     (fun m2 => chain [tB 90 (decide_eq_true m2)] <| .e (chain [.b 12 (.of_eq (by rw [show minD (minD (DD x.lo y.lo false) (DD x.lo y.hi false)) (DD x.hi y.lo false) = (minD (DD x.lo y.lo false) (DD x.lo y.hi false)) from if_neg m1, show maxD (maxD (DD x.lo y.lo true) (DD x.lo y.hi true)) (DD x.hi y.lo true) = (DD x.hi y.lo true) from if_pos m2]) : Bx.le (.cells 28 (ivL (Iv.mk (minD (DD x.lo y.lo false) (DD x.lo y.hi false)) (DD x.hi y.lo true) false))) (.cells 28 (ivL (Iv.mk (minD (minD (DD x.lo y.lo false) (DD x.lo y.hi false)) (DD x.hi y.lo false)) (maxD (maxD (DD x.lo y.lo true) (DD x.lo y.hi true)) (DD x.hi y.lo true)) false))))] <| .nil))
     (fun m2 => chain [tB 90 (decide_eq_false m2)] <| .e (chain [.b 12 (.of_eq (by rw [show minD (minD (DD x.lo y.lo false) (DD x.lo y.hi false)) (DD x.hi y.lo false) = (minD (DD x.lo y.lo false) (DD x.lo y.hi false)) from if_neg m1, show maxD (maxD (DD x.lo y.lo true) (DD x.lo y.hi true)) (DD x.hi y.lo true) = (maxD (DD x.lo y.lo true) (DD x.lo y.hi true)) from if_neg m2]) : Bx.le (.cells 28 (ivL (Iv.mk (minD (DD x.lo y.lo false) (DD x.lo y.hi false)) (maxD (DD x.lo y.lo true) (DD x.lo y.hi true)) false))) (.cells 28 (ivL (Iv.mk (minD (minD (DD x.lo y.lo false) (DD x.lo y.hi false)) (DD x.hi y.lo false)) (maxD (maxD (DD x.lo y.lo true) (DD x.lo y.hi true)) (DD x.hi y.lo true)) false))))] <| .nil)))),
        r64 (((0 + 1) + 1) + 1) (by omega), tB 42 (by decide : (decide (((((0 + 1) + 1) + 1) : Int) < 4)) = true)] <| .w ((EE x.hi y.hi false) = 0)
        (fun k7 => .w ((EE x.hi y.hi true) = 0)
         (fun k8 => chain [.j 3 (ivFour4 x y p gd gu DD EE)
   (chain [iX ((((0 + 1) + 1) + 1)) (4) (by omega), iX (0) (2) (by omega), iX (1) (2) (by omega), .c (hd _ _ (.inr rfl) (.inr rfl) : PCt gd ((dyP x.hi) :: (dyP y.hi) :: (iP p) :: []) _), iX (0) (2) (by omega), iX (1) (2) (by omega),
    .c (hu _ _ (.inr rfl) (.inr rfl) : PCt gu ((dyP x.hi) :: (dyP y.hi) :: (iP p) :: []) _), tB 66 (bne_eq_false_iff_eq.2 k7), tB 69 (bne_eq_false_iff_eq.2 k8), tB 73 (by decide : (((((0 + 1) + 1) + 1) : Int) == 0) = false),
    .c (dyCmp_pc _ _ (hv _ _ _) (minD_valid (minD_valid (hv _ _ _) (hv _ _ _)) (hv _ _ _)) : PCt 82 [(dyP (DD x.hi y.hi false)), (dyP (minD (minD (DD x.lo y.lo false) (DD x.lo y.hi false)) (DD x.hi y.lo false)))] _)] <| .w ((cmpD (DD x.hi y.hi false) (minD (minD (DD x.lo y.lo false) (DD x.lo y.hi false)) (DD x.hi y.lo false))) < 0)
    (fun m1 => chain [tB 79 (decide_eq_true m1), tB 84 (by decide : (((((0 + 1) + 1) + 1) : Int) == 0) = false),
     .c (dyCmp_pc _ _ (hv _ _ _) (maxD_valid (maxD_valid (hv _ _ _) (hv _ _ _)) (hv _ _ _)) : PCt 82 [(dyP (DD x.hi y.hi true)), (dyP (maxD (maxD (DD x.lo y.lo true) (DD x.lo y.hi true)) (DD x.hi y.lo true)))] _)] <| .w (0 < (cmpD (DD x.hi y.hi true) (maxD (maxD (DD x.lo y.lo true) (DD x.lo y.hi true)) (DD x.hi y.lo true))))
     (fun m2 => chain [tB 90 (decide_eq_true m2)] <| .e (chain [.b 12 (.of_eq (by rw [show minD (minD (minD (DD x.lo y.lo false) (DD x.lo y.hi false)) (DD x.hi y.lo false)) (DD x.hi y.hi false) = (DD x.hi y.hi false) from if_pos m1, show maxD (maxD (maxD (DD x.lo y.lo true) (DD x.lo y.hi true)) (DD x.hi y.lo true)) (DD x.hi y.hi true) = (DD x.hi y.hi true) from if_pos m2]) : Bx.le (.cells 28 (ivL (Iv.mk (DD x.hi y.hi false) (DD x.hi y.hi true) false))) (.cells 28 (ivL (Iv.mk (minD (minD (minD (DD x.lo y.lo false) (DD x.lo y.hi false)) (DD x.hi y.lo false)) (DD x.hi y.hi false)) (maxD (maxD (maxD (DD x.lo y.lo true) (DD x.lo y.hi true)) (DD x.hi y.lo true)) (DD x.hi y.hi true)) false))))] <| .nil))
     (fun m2 => chain [tB 90 (decide_eq_false m2)] <| .e (chain [.b 12 (.of_eq (by rw [show minD (minD (minD (DD x.lo y.lo false) (DD x.lo y.hi false)) (DD x.hi y.lo false)) (DD x.hi y.hi false) = (DD x.hi y.hi false) from if_pos m1, show maxD (maxD (maxD (DD x.lo y.lo true) (DD x.lo y.hi true)) (DD x.hi y.lo true)) (DD x.hi y.hi true) = (maxD (maxD (DD x.lo y.lo true) (DD x.lo y.hi true)) (DD x.hi y.lo true)) from if_neg m2]) : Bx.le (.cells 28 (ivL (Iv.mk (DD x.hi y.hi false) (maxD (maxD (DD x.lo y.lo true) (DD x.lo y.hi true)) (DD x.hi y.lo true)) false))) (.cells 28 (ivL (Iv.mk (minD (minD (minD (DD x.lo y.lo false) (DD x.lo y.hi false)) (DD x.hi y.lo false)) (DD x.hi y.hi false)) (maxD (maxD (maxD (DD x.lo y.lo true) (DD x.lo y.hi true)) (DD x.hi y.lo true)) (DD x.hi y.hi true)) false))))] <| .nil)))
    (fun m1 => chain [tB 79 (decide_eq_false m1), tB 84 (by decide : (((((0 + 1) + 1) + 1) : Int) == 0) = false),
     .c (dyCmp_pc _ _ (hv _ _ _) (maxD_valid (maxD_valid (hv _ _ _) (hv _ _ _)) (hv _ _ _)) : PCt 82 [(dyP (DD x.hi y.hi true)), (dyP (maxD (maxD (DD x.lo y.lo true) (DD x.lo y.hi true)) (DD x.hi y.lo true)))] _)] <| .w (0 < (cmpD (DD x.hi y.hi true) (maxD (maxD (DD x.lo y.lo true) (DD x.lo y.hi true)) (DD x.hi y.lo true))))
     (fun m2 => chain [tB 90 (decide_eq_true m2)] <| .e (chain [.b 12 (.of_eq (by rw [show minD (minD (minD (DD x.lo y.lo false) (DD x.lo y.hi false)) (DD x.hi y.lo false)) (DD x.hi y.hi false) = (minD (minD (DD x.lo y.lo false) (DD x.lo y.hi false)) (DD x.hi y.lo false)) from if_neg m1, show maxD (maxD (maxD (DD x.lo y.lo true) (DD x.lo y.hi true)) (DD x.hi y.lo true)) (DD x.hi y.hi true) = (DD x.hi y.hi true) from if_pos m2]) : Bx.le (.cells 28 (ivL (Iv.mk (minD (minD (DD x.lo y.lo false) (DD x.lo y.hi false)) (DD x.hi y.lo false)) (DD x.hi y.hi true) false))) (.cells 28 (ivL (Iv.mk (minD (minD (minD (DD x.lo y.lo false) (DD x.lo y.hi false)) (DD x.hi y.lo false)) (DD x.hi y.hi false)) (maxD (maxD (maxD (DD x.lo y.lo true) (DD x.lo y.hi true)) (DD x.hi y.lo true)) (DD x.hi y.hi true)) false))))] <| .nil))
     (fun m2 => chain [tB 90 (decide_eq_false m2)] <| .e (chain [.b 12 (.of_eq (by rw [show minD (minD (minD (DD x.lo y.lo false) (DD x.lo y.hi false)) (DD x.hi y.lo false)) (DD x.hi y.hi false) = (minD (minD (DD x.lo y.lo false) (DD x.lo y.hi false)) (DD x.hi y.lo false)) from if_neg m1, show maxD (maxD (maxD (DD x.lo y.lo true) (DD x.lo y.hi true)) (DD x.hi y.lo true)) (DD x.hi y.hi true) = (maxD (maxD (DD x.lo y.lo true) (DD x.lo y.hi true)) (DD x.hi y.lo true)) from if_neg m2]) : Bx.le (.cells 28 (ivL (Iv.mk (minD (minD (DD x.lo y.lo false) (DD x.lo y.hi false)) (DD x.hi y.lo false)) (maxD (maxD (DD x.lo y.lo true) (DD x.lo y.hi true)) (DD x.hi y.lo true)) false))) (.cells 28 (ivL (Iv.mk (minD (minD (minD (DD x.lo y.lo false) (DD x.lo y.hi false)) (DD x.hi y.lo false)) (DD x.hi y.hi false)) (maxD (maxD (maxD (DD x.lo y.lo true) (DD x.lo y.hi true)) (DD x.hi y.lo true)) (DD x.hi y.hi true)) false))))] <| .nil)))),
          r64 ((((0 + 1) + 1) + 1) + 1) (by omega), tB 42 (by decide : (decide ((((((0 + 1) + 1) + 1) + 1) : Int) < 4)) = false)] <| rQ (ivP (Iv.mk (minD (minD (minD (DD x.lo y.lo false) (DD x.lo y.hi false)) (DD x.hi y.lo false)) (DD x.hi y.hi false)) (maxD (maxD (maxD (DD x.lo y.lo true) (DD x.lo y.hi true)) (DD x.hi y.lo true)) (DD x.hi y.hi true)) false)) (ivP (fourI DD EE x y)) (by rw [show fourI DD EE x y = ⟨(minD (minD (minD (DD x.lo y.lo false) (DD x.lo y.hi false)) (DD x.hi y.lo false)) (DD x.hi y.hi false)), (maxD (maxD (maxD (DD x.lo y.lo true) (DD x.lo y.hi true)) (DD x.hi y.lo true)) (DD x.hi y.hi true)), false⟩ from if_pos ⟨⟨k1, k2⟩, ⟨k3, k4⟩, ⟨k5, k6⟩, ⟨k7, k8⟩⟩]; try rfl))
         (fun k8 => chain [iX ((((0 + 1) + 1) + 1)) (4) (by omega), iX (0) (2) (by omega), iX (1) (2) (by omega), .c (hd _ _ (.inr rfl) (.inr rfl) : PCt gd ((dyP x.hi) :: (dyP y.hi) :: (iP p) :: []) _), iX (0) (2) (by omega), iX (1) (2) (by omega),
          .c (hu _ _ (.inr rfl) (.inr rfl) : PCt gu ((dyP x.hi) :: (dyP y.hi) :: (iP p) :: []) _), tB 66 (bne_eq_false_iff_eq.2 k7), tB 69 (bne_iff_ne.2 k8), .c ivWhole_pc] <| rQ (ivP wholeI) (ivP (fourI DD EE x y)) (by rw [show fourI DD EE x y = wholeI from if_neg (by rintro ⟨⟨q0, r0⟩, ⟨q1, r1⟩, ⟨q2, r2⟩, ⟨q3, r3⟩⟩; exact k8 r3)])))
        (fun k7 => chain [iX ((((0 + 1) + 1) + 1)) (4) (by omega), iX (0) (2) (by omega), iX (1) (2) (by omega), .c (hd _ _ (.inr rfl) (.inr rfl) : PCt gd ((dyP x.hi) :: (dyP y.hi) :: (iP p) :: []) _), iX (0) (2) (by omega), iX (1) (2) (by omega),
         .c (hu _ _ (.inr rfl) (.inr rfl) : PCt gu ((dyP x.hi) :: (dyP y.hi) :: (iP p) :: []) _), tB 66 (bne_iff_ne.2 k7), .c ivWhole_pc] <| rQ (ivP wholeI) (ivP (fourI DD EE x y)) (by rw [show fourI DD EE x y = wholeI from if_neg (by rintro ⟨⟨q0, r0⟩, ⟨q1, r1⟩, ⟨q2, r2⟩, ⟨q3, r3⟩⟩; exact k7 q3)])))
       (fun k6 => chain [iX (((0 + 1) + 1)) (4) (by omega), iX (0) (2) (by omega), iX (1) (2) (by omega), .c (hd _ _ (.inr rfl) (.inl rfl) : PCt gd ((dyP x.hi) :: (dyP y.lo) :: (iP p) :: []) _), iX (0) (2) (by omega), iX (1) (2) (by omega),
        .c (hu _ _ (.inr rfl) (.inl rfl) : PCt gu ((dyP x.hi) :: (dyP y.lo) :: (iP p) :: []) _), tB 66 (bne_eq_false_iff_eq.2 k5), tB 69 (bne_iff_ne.2 k6), .c ivWhole_pc] <| rQ (ivP wholeI) (ivP (fourI DD EE x y)) (by rw [show fourI DD EE x y = wholeI from if_neg (by rintro ⟨⟨q0, r0⟩, ⟨q1, r1⟩, ⟨q2, r2⟩, ⟨q3, r3⟩⟩; exact k6 r2)])))
      (fun k5 => chain [iX (((0 + 1) + 1)) (4) (by omega), iX (0) (2) (by omega), iX (1) (2) (by omega), .c (hd _ _ (.inr rfl) (.inl rfl) : PCt gd ((dyP x.hi) :: (dyP y.lo) :: (iP p) :: []) _), iX (0) (2) (by omega), iX (1) (2) (by omega),
       .c (hu _ _ (.inr rfl) (.inl rfl) : PCt gu ((dyP x.hi) :: (dyP y.lo) :: (iP p) :: []) _), tB 66 (bne_iff_ne.2 k5), .c ivWhole_pc] <| rQ (ivP wholeI) (ivP (fourI DD EE x y)) (by rw [show fourI DD EE x y = wholeI from if_neg (by rintro ⟨⟨q0, r0⟩, ⟨q1, r1⟩, ⟨q2, r2⟩, ⟨q3, r3⟩⟩; exact k5 q2)])))
     (fun k4 => chain [iX ((0 + 1)) (4) (by omega), iX (0) (2) (by omega), iX (1) (2) (by omega), .c (hd _ _ (.inl rfl) (.inr rfl) : PCt gd ((dyP x.lo) :: (dyP y.hi) :: (iP p) :: []) _), iX (0) (2) (by omega), iX (1) (2) (by omega),
      .c (hu _ _ (.inl rfl) (.inr rfl) : PCt gu ((dyP x.lo) :: (dyP y.hi) :: (iP p) :: []) _), tB 66 (bne_eq_false_iff_eq.2 k3), tB 69 (bne_iff_ne.2 k4), .c ivWhole_pc] <| rQ (ivP wholeI) (ivP (fourI DD EE x y)) (by rw [show fourI DD EE x y = wholeI from if_neg (by rintro ⟨⟨q0, r0⟩, ⟨q1, r1⟩, ⟨q2, r2⟩, ⟨q3, r3⟩⟩; exact k4 r1)])))
    (fun k3 => chain [iX ((0 + 1)) (4) (by omega), iX (0) (2) (by omega), iX (1) (2) (by omega), .c (hd _ _ (.inl rfl) (.inr rfl) : PCt gd ((dyP x.lo) :: (dyP y.hi) :: (iP p) :: []) _), iX (0) (2) (by omega), iX (1) (2) (by omega),
     .c (hu _ _ (.inl rfl) (.inr rfl) : PCt gu ((dyP x.lo) :: (dyP y.hi) :: (iP p) :: []) _), tB 66 (bne_iff_ne.2 k3), .c ivWhole_pc] <| rQ (ivP wholeI) (ivP (fourI DD EE x y)) (by rw [show fourI DD EE x y = wholeI from if_neg (by rintro ⟨⟨q0, r0⟩, ⟨q1, r1⟩, ⟨q2, r2⟩, ⟨q3, r3⟩⟩; exact k3 q1)])))
   (fun k2 => chain [iX (0) (4) (by omega), iX (0) (2) (by omega), iX (1) (2) (by omega), .c (hd _ _ (.inl rfl) (.inl rfl) : PCt gd ((dyP x.lo) :: (dyP y.lo) :: (iP p) :: []) _), iX (0) (2) (by omega), iX (1) (2) (by omega),
    .c (hu _ _ (.inl rfl) (.inl rfl) : PCt gu ((dyP x.lo) :: (dyP y.lo) :: (iP p) :: []) _), tB 66 (bne_eq_false_iff_eq.2 k1), tB 69 (bne_iff_ne.2 k2), .c ivWhole_pc] <| rQ (ivP wholeI) (ivP (fourI DD EE x y)) (by rw [show fourI DD EE x y = wholeI from if_neg (by rintro ⟨⟨q0, r0⟩, ⟨q1, r1⟩, ⟨q2, r2⟩, ⟨q3, r3⟩⟩; exact k2 r0)])))
  (fun k1 => chain [iX (0) (4) (by omega), iX (0) (2) (by omega), iX (1) (2) (by omega), .c (hd _ _ (.inl rfl) (.inl rfl) : PCt gd ((dyP x.lo) :: (dyP y.lo) :: (iP p) :: []) _), iX (0) (2) (by omega), iX (1) (2) (by omega),
   .c (hu _ _ (.inl rfl) (.inl rfl) : PCt gu ((dyP x.lo) :: (dyP y.lo) :: (iP p) :: []) _), tB 66 (bne_iff_ne.2 k1), .c ivWhole_pc] <| rQ (ivP wholeI) (ivP (fourI DD EE x y)) (by rw [show fourI DD EE x y = wholeI from if_neg (by rintro ⟨⟨q0, r0⟩, ⟨q1, r1⟩, ⟨q2, r2⟩, ⟨q3, r3⟩⟩; exact k1 q0)]))) (by kernel_rfl)
open Go.RowKit Fp Pu
theorem sign_ends {y : Iv} (hy : y.Valid) (hs : signI y ≠ 0) : y.lo.m ≠ 0 ∧ y.hi.m ≠ 0 := by
 unfold signI at hs
 have ha : y.all = false := by
  cases h : y.all with
  | false => rfl
  | true => rw [h] at hs; exact absurd rfl hs
 obtain ⟨v1, v2, v3⟩ := ivOff hy ha
 rw [ha] at hs
 simp only [Bool.false_eq_true, if_false] at hs
 have z : ∀ d : Dy, d.m = 0 → d.sign = 0 := fun d h => by unfold Dy.sign; rw [if_pos h]
 have hc := cmpD_prog y.lo y.hi
 rw [hc] at v3
 constructor
 ·intro h0
  have := z _ h0
  rw [this] at hs v3
  split at hs
  ·omega
  ·split at hs
   ·split at v3 <;> omega
   ·exact hs rfl
 ·intro h0
  have := z _ h0
  rw [this] at hs v3
  split at hs
  ·split at v3 <;> omega
  ·split at hs
   ·omega
   ·exact hs rfl
theorem divD_valid (a b : Dy) {p : Nat} (up : Bool) (hp : 1 ≤ p) (hp2 : p ≤ 4096) : (divD a b p up).Valid := by
 unfold divD; split
 ·exact zeroD_valid
 ·exact cut_valid _ _ _ _ _ _ hp hp2
theorem ivMul_pc (x y : Iv) (p : Nat) (hx : x.Valid) (hy : y.Valid) (hp1 : 8 ≤ p) (hp2 : p ≤ 512) : PCt 118 [(ivP x), (ivP y), (iP p)] (ivP (mulI x y p)) := by
 by_cases hk : (x.all || y.all) = true
 ·exact tr true Tryz.call118 Tryz.func118 (chain [.o 9 (.e (ivs2_le _ _) : PV.le (.e (.sl true 2 7 fun i_ j_ => (ivL x ++ ivL y).getD (i_ * 7 + j_) (.v (.bool false)))) (.e (ivsP [x, y]))), .c (ivKnown2_pc _ _ ‹_› ‹_› : PCt 90 [(ivsP [x, y])] _),
   tB 10 (by rw [hk]; rfl : (!(x.all || y.all)) = false), .c ivWhole_pc] <| rQ (ivP wholeI) (ivP (mulI x y p)) (by rw [show mulI x y p = wholeI by unfold mulI; rw [if_pos hk]])) (by kernel_rfl)
 ·replace hk : (x.all || y.all) = false := by simpa using hk
  have hxa : x.all = false := by cases h : x.all; rfl; rw [h] at hk; simp at hk
  have hya : y.all = false := by cases h : y.all; rfl; rw [h] at hk; simp at hk
  obtain ⟨v1, v2, v3⟩ := ivOff hx hxa
  obtain ⟨v4, v5, v6⟩ := ivOff hy hya
  exact tr true Tryz.call118 Tryz.func118 (chain [.o 9 (.e (ivs2_le _ _) : PV.le (.e (.sl true 2 7 fun i_ j_ => (ivL x ++ ivL y).getD (i_ * 7 + j_) (.v (.bool false)))) (.e (ivsP [x, y]))), .c (ivKnown2_pc _ _ ‹_› ‹_› : PCt 90 [(ivsP [x, y])] _),
   tB 10 (by rw [hk]; rfl : (!(x.all || y.all)) = true), .c (ivPermitted_pc _ : PCt 126 [(iP p)] _), tB 14 (precB_true.2 ⟨by omega, by omega⟩ : (precB (p : Int)) = true),
   .c (ivFour_pc x y p 183 184 (fun a b up => rndD (mulD a b) p up) (fun a b up => rndE (mulD a b) p up) (fun a b ha hb => rdMulDown_pc a b p (by rcases ha with rfl | rfl; exact v1; exact v2) (by rcases hb with rfl | rfl; exact v4; exact v5) hp1 hp2) (fun a b ha hb => rdMulUp_pc a b p (by rcases ha with rfl | rfl; exact v1; exact v2) (by rcases hb with rfl | rfl; exact v4; exact v5) hp1 hp2) (fun a b up => cut_valid _ _ _ _ _ _ (by omega) (by omega)))] <| rQ (ivP (fourI (fun a b up => rndD (mulD a b) p up) (fun a b up => rndE (mulD a b) p up) x y)) (ivP (mulI x y p)) (by rw [show mulI x y p = _ by unfold mulI; rw [if_neg (by rw [hk]; decide)]]; rfl)) (by kernel_rfl)
theorem ivDiv_pc (x y : Iv) (p : Nat) (hx : x.Valid) (hy : y.Valid) (hp1 : 8 ≤ p) (hp2 : p ≤ 512) : PCt 45 [(ivP x), (ivP y), (iP p)] (ivP (divI x y p)) := by
 by_cases hk : (x.all || y.all) = true
 ·exact tr true Tryz.call45 Tryz.func45 (chain [.o 9 (.e (ivs2_le _ _) : PV.le (.e (.sl true 2 7 fun i_ j_ => (ivL x ++ ivL y).getD (i_ * 7 + j_) (.v (.bool false)))) (.e (ivsP [x, y]))), .c (ivKnown2_pc _ _ ‹_› ‹_› : PCt 90 [(ivsP [x, y])] _),
   tB 10 (by rw [hk]; rfl : (!(x.all || y.all)) = false), .c ivWhole_pc] <| rQ (ivP wholeI) (ivP (divI x y p)) (by rw [show divI x y p = wholeI by unfold divI; rw [if_pos (by rw [hk]; rfl)]])) (by kernel_rfl)
 ·replace hk : (x.all || y.all) = false := by simpa using hk
  have hxa : x.all = false := by cases h : x.all; rfl; rw [h] at hk; simp at hk
  have hya : y.all = false := by cases h : y.all; rfl; rw [h] at hk; simp at hk
  obtain ⟨v1, v2, v3⟩ := ivOff hx hxa
  obtain ⟨v4, v5, v6⟩ := ivOff hy hya
  by_cases hs : signI y = 0
  ·exact tr true Tryz.call45 Tryz.func45 (chain [.o 9 (.e (ivs2_le _ _) : PV.le (.e (.sl true 2 7 fun i_ j_ => (ivL x ++ ivL y).getD (i_ * 7 + j_) (.v (.bool false)))) (.e (ivsP [x, y]))), .c (ivKnown2_pc _ _ ‹_› ‹_› : PCt 90 [(ivsP [x, y])] _),
    tB 10 (by rw [hk]; rfl : (!(x.all || y.all)) = true), .c (ivPermitted_pc _ : PCt 126 [(iP p)] _), tB 14 (precB_true.2 ⟨by omega, by omega⟩ : (precB (p : Int)) = true), .c (ivSign_pc y ‹_›),
    tB 20 (by rw [hs]; rfl : ((signI y) == 0) = true), .c ivWhole_pc] <| rQ (ivP wholeI) (ivP (divI x y p)) (by rw [show divI x y p = wholeI by unfold divI; rw [if_pos (by rw [hk, decide_eq_true hs]; rfl)]])) (by kernel_rfl)
  ·obtain ⟨n1, n2⟩ := sign_ends hy hs
   exact tr true Tryz.call45 Tryz.func45 (chain [.o 9 (.e (ivs2_le _ _) : PV.le (.e (.sl true 2 7 fun i_ j_ => (ivL x ++ ivL y).getD (i_ * 7 + j_) (.v (.bool false)))) (.e (ivsP [x, y]))), .c (ivKnown2_pc _ _ ‹_› ‹_› : PCt 90 [(ivsP [x, y])] _),
    tB 10 (by rw [hk]; rfl : (!(x.all || y.all)) = true), .c (ivPermitted_pc _ : PCt 126 [(iP p)] _), tB 14 (precB_true.2 ⟨by omega, by omega⟩ : (precB (p : Int)) = true), .c (ivSign_pc y ‹_›),
    tB 20 (by simpa using hs : ((signI y) == 0) = false),
    .c (ivFour_pc x y p 129 130 (fun a b up => divD a b p up) (fun a b up => divE a b p up) (fun a b ha hb => rdDivDown_pc a b p (by rcases ha with rfl | rfl; exact v1; exact v2) (by rcases hb with rfl | rfl; exact v4; exact v5) (by rcases hb with rfl | rfl; exact n1; exact n2) hp1 hp2) (fun a b ha hb => rdDivUp_pc a b p (by rcases ha with rfl | rfl; exact v1; exact v2) (by rcases hb with rfl | rfl; exact v4; exact v5) (by rcases hb with rfl | rfl; exact n1; exact n2) hp1 hp2) (fun a b up => divD_valid a b up (by omega) (by omega)))] <| rQ (ivP (fourI (fun a b up => divD a b p up) (fun a b up => divE a b p up) x y)) (ivP (divI x y p)) (by rw [show divI x y p = _ by unfold divI; rw [if_neg (by rw [hk, decide_eq_false hs]; decide)]])) (by kernel_rfl)
open Go.RowKit Fp Pu
theorem ivZeroR_yes (d : RD) (h : d.Zero) : PCt 116 [(rdP d)] (bP true) := by
 obtain ⟨h1, h2, h3⟩ := h
 exact tr true Tryz.call116 Tryz.func116 (chain [tB 4 (h1 : d.neg = false), tB 10 (natZ_true (by rw [h2]; rfl) : ((d.L.length : Int) == 0) = true), tB 15 (by rw [h3]; rfl : (d.e == 0) = true)] <| .nil) (by kernel_rfl)
theorem ivZeroR_no (d : RD) (h : ¬ d.Zero) : PCt 116 [(rdP d)] (bP false) := by
 by_cases h1 : d.neg = true
 ·exact tr true Tryz.call116 Tryz.func116 (chain [tB 4 (h1 : d.neg = true)] <| .nil) (by kernel_rfl)
 ·replace h1 : d.neg = false := by simpa using h1
  by_cases h2 : d.L = []
  ·have h3 : ¬ d.e = 0 := fun q => h ⟨h1, h2, q⟩
   exact tr true Tryz.call116 Tryz.func116 (chain [tB 4 (h1 : d.neg = false), tB 10 (natZ_true (by rw [h2]; rfl) : ((d.L.length : Int) == 0) = true), tB 15 (by simpa using h3 : (d.e == 0) = false)] <| .nil) (by kernel_rfl)
  ·exact tr true Tryz.call116 Tryz.func116 (chain [tB 4 (h1 : d.neg = false), tB 10 (natZ_false (fun q => h2 (List.length_eq_zero_iff.1 q)) : ((d.L.length : Int) == 0) = false)] <| .nil) (by kernel_rfl)
theorem ivValidR_yes (x : RI) (g : x.Good) (h : x.Ok) : PCt 41 [riP x] (bP true) := by
 have := ivValid_pc x.iv h.valid
 rwa [← ivP_raw, h.eq g] at this
theorem ivValidR_no (x : RI) (g : x.Good) (h : ¬ x.Ok) : PCt 41 [(riP x)] (bP false) := by
 have ga := g.lo
 have gb := g.hi
 by_cases ha : x.all = true
 ·by_cases h1 : x.lo.Zero
  ·have h2 : ¬ x.hi.Zero := fun q => h (.inl ⟨ha, h1, q⟩)
   exact tr true Tryz.call41 Tryz.func41 (chain [tB 5 (ha : x.all = true), .c (ivZeroR_yes _ h1 : PCt 116 [(rdP x.lo)] _), .c (ivZeroR_no _ h2 : PCt 116 [(rdP x.hi)] _)] <| .nil) (by kernel_rfl)
  ·exact tr true Tryz.call41 Tryz.func41 (chain [tB 5 (ha : x.all = true), .c (ivZeroR_no _ h1 : PCt 116 [(rdP x.lo)] _)] <| .nil) (by kernel_rfl)
 ·replace ha : x.all = false := by simpa using ha
  by_cases h1 : x.lo.Ok
  ·by_cases h2 : x.hi.Ok
   ·have h3 : ¬ cmpD x.lo.dy x.hi.dy ≤ 0 := fun q => h (.inr ⟨ha, h1, h2, q⟩)
    have v1 := h1.valid
    have v2 := h2.valid
    have e1 : riP x = ivP x.iv := by rw [← ivP_raw, show x.iv.raw = x by show RI.mk x.lo.dy.raw x.hi.dy.raw x.all = x; rw [h1.eq ga, h2.eq gb]]
    rw [e1]
    exact tr true Tryz.call41 Tryz.func41 (chain [tB 5 (ha : x.iv.all = false), .c (dyValid_pc _ ‹_› : PCt 98 [(dyP x.iv.lo)] _), .c (dyValid_pc _ ‹_› : PCt 98 [(dyP x.iv.hi)] _),
     .c (dyCmp_pc _ _ ‹_› ‹_› : PCt 82 [(dyP x.iv.lo), (dyP x.iv.hi)] _), tB 30 (decide_eq_false h3)] <| .nil) (by kernel_rfl)
   ·exact tr true Tryz.call41 Tryz.func41 (chain [tB 5 (ha : x.all = false), .c (dyValidR_pc _ ‹_› true (by simp [h1]) : PCt 98 [(rdP x.lo)] _), .c (dyValidR_pc _ ‹_› false (by simp [h2]) : PCt 98 [(rdP x.hi)] _)] <| .nil) (by kernel_rfl)
  ·exact tr true Tryz.call41 Tryz.func41 (chain [tB 5 (ha : x.all = false), .c (dyValidR_pc _ ‹_› false (by simp [h1]) : PCt 98 [(rdP x.lo)] _)] <| .nil) (by kernel_rfl)
theorem ivValidR_pc (x : RI) (g : x.Good) : PCt 41 [riP x] (bP (okB x)) := by
 by_cases h : x.Ok
 ·rw [okB_true.2 h]; exact ivValidR_yes x g h
 ·rw [show okB x = false by simpa using fun q => h (okB_true.1 q)]; exact ivValidR_no x g h
theorem matRect11 (x : RI) (g : x.Good) : PCt 207 [(riP x), (.ref 1 fun j_ => [(.fn 41 [])].getD j_ .any)] (bP (!(okB x))) := by
 exact tr true Tryz.call207 Tryz.func207 (chain [.c (ivValidR_pc _ ‹_› : PCt 41 [(riP x)] _)] <| .nil) (by kernel_rfl)
theorem matRect1 (r : List RI) (m : List (List RI)) (gr : ∀ j, (r.getD j rwhole).Good) (hr : r.length ≤ 1000000) (hm : 0 < m.length) : PCt 206 [(risP r), (.ref 1 fun j_ => [(rmatP m)].getD j_ .any), (.ref 1 fun j_ => [(.fn 41 [])].getD j_ .any)] (bP (decide (r.length ≠ (m.getD 0 []).length) || ((List.range (r.length)).any fun j => !(okB (r.getD j rwhole))))) := by
 by_cases h : r.length = (m.getD 0 []).length
 ·exact tr true Tryz.call206 Tryz.func206 (chain [iX (0) (m.length) (by omega), tB 11 (natNe_false h : ((r.length : Int) != (((m.getD 0 []).length : Nat) : Int)) = false),
   .c (iv_any true _ _ 207 _ (fun j => !(okB (r.getD j rwhole))) (fun j hj => matRect11 _ (gr j)) (by omega) : PCt 55 [(risP r), (.fn 207 [(.ref 1 fun j_ => [(.fn 41 [])].getD j_ .any)])] _)] <| rQ (bP ((List.range (r.length)).any fun j => !(okB (r.getD j rwhole)))) (bP (decide (r.length ≠ (m.getD 0 []).length) || ((List.range (r.length)).any fun j => !(okB (r.getD j rwhole))))) (by rw [decide_eq_false (not_not_intro h)]; rfl)) (by kernel_rfl)
 ·exact tr true Tryz.call206 Tryz.func206 (chain [iX (0) (m.length) (by omega), tB 11 (natNe_true h : ((r.length : Int) != (((m.getD 0 []).length : Nat) : Int)) = true)] <| rQ (bP true) (bP (decide (r.length ≠ (m.getD 0 []).length) || ((List.range (r.length)).any fun j => !(okB (r.getD j rwhole))))) (by rw [decide_eq_true h]; rfl)) (by kernel_rfl)
theorem matRect_pc (m : List (List RI)) (g : MGood m) (hl : m.length ≤ 1000000) (hrows : ∀ i, (m.getD i []).length ≤ 1000000) : PCt 173 [(rmatP m), (.fn 41 [])] (bP (matOkB m)) := by
 by_cases h1 : m.length < 1
 ·exact tr true Tryz.call173 Tryz.func173 (chain [tT 7 ((m.length : Int) < 1) (by omega)] <| rQ (bP false) (bP (matOkB m)) (by rw [matOkB_false (fun q => by have := q.n1; omega)])) (by kernel_rfl)
 ·by_cases h2 : 8 < m.length
  ·exact tr true Tryz.call173 Tryz.func173 (chain [tF 7 ((m.length : Int) < 1) (by omega), tT 11 (8 < (m.length : Int)) (by omega)] <| rQ (bP false) (bP (matOkB m)) (by rw [matOkB_false (fun q => by have := q.n8; omega)])) (by kernel_rfl)
  ·by_cases h3 : (m.getD 0 []).length < 1
   ·exact tr true Tryz.call173 Tryz.func173 (chain [tF 7 ((m.length : Int) < 1) (by omega), tF 11 (8 < (m.length : Int)) (by omega), iX (0) (m.length) (by omega), tT 18 ((((m.getD 0 []).length : Nat) : Int) < 1) (by omega)] <| rQ (bP false) (bP (matOkB m)) (by rw [matOkB_false (fun q => by have := q.k1; omega)])) (by kernel_rfl)
   ·by_cases h4 : 8 < (m.getD 0 []).length
    ·exact tr true Tryz.call173 Tryz.func173 (chain [tF 7 ((m.length : Int) < 1) (by omega), tF 11 (8 < (m.length : Int)) (by omega), iX (0) (m.length) (by omega), tF 18 ((((m.getD 0 []).length : Nat) : Int) < 1) (by omega), iX (0) (m.length) (by omega),
      tT 25 (8 < (((m.getD 0 []).length : Nat) : Int)) (by omega)] <| rQ (bP false) (bP (matOkB m)) (by rw [matOkB_false (fun q => by have := q.k8; omega)])) (by kernel_rfl)
    ·have hb : matOkB m = !((List.range m.length).any fun i => decide ((m.getD i []).length ≠ (m.getD 0 []).length) || ((List.range ((m.getD i []).length)).any fun j => !(okB ((m.getD i []).getD j rwhole)))) := by
      by_cases hk : ROk m
      ·rw [matOkB_true.2 hk]
       symm
       rw [Bool.not_eq_true', List.any_eq_false]
       intro i hi
       have hi := List.mem_range.1 hi
       have hrow : decide ((m.getD i []).length ≠ (m.getD 0 []).length) = false := decide_eq_false (not_not_intro (hk.row i hi))
       rw [hrow, Bool.false_or, Bool.not_eq_true, List.any_eq_false]
       intro j hj
       rw [okB_true.2 (hk.ok i hi j (List.mem_range.1 hj))]
       decide
      ·rw [matOkB_false hk]
       symm
       rw [Bool.not_eq_false']
       apply Classical.byContradiction
       intro hc
       rw [Bool.not_eq_true, List.any_eq_false] at hc
       refine hk ⟨by omega, by omega, by omega, by omega, fun i hi => ?_, fun i hi j hj => ?_⟩
       ·have := hc i (List.mem_range.2 hi)
        simp only [ne_eq, decide_not, Bool.or_eq_true, not_or, Bool.not_eq_true, Bool.not_eq_false', decide_eq_true_eq] at this
        exact this.1
       ·have := hc i (List.mem_range.2 hi)
        simp only [ne_eq, decide_not, Bool.or_eq_true, not_or, Bool.not_eq_true, Bool.not_eq_false', decide_eq_true_eq] at this
        have := List.any_eq_false.1 this.2 j (List.mem_range.2 hj)
        exact okB_true.1 (by simpa using this)
     exact tr true Tryz.call173 Tryz.func173 (chain [tF 7 ((m.length : Int) < 1) (by omega), tF 11 (8 < (m.length : Int)) (by omega), iX (0) (m.length) (by omega), tF 18 ((((m.getD 0 []).length : Nat) : Int) < 1) (by omega), iX (0) (m.length) (by omega),
      tF 25 (8 < (((m.getD 0 []).length : Nat) : Int)) (by omega),
      .c (row_any true _ _ 206 _ (fun i => decide ((m.getD i []).length ≠ (m.getD 0 []).length) || ((List.range ((m.getD i []).length)).any fun j => !(okB ((m.getD i []).getD j rwhole)))) (fun i hi => matRect1 _ _ (fun j => g.at i j) (hrows i) (by omega)) (by omega) : PCt 53 [(rmatP m), (.fn 206 [(.ref 1 fun j_ => [(rmatP m)].getD j_ .any), (.ref 1 fun j_ => [(.fn 41 [])].getD j_ .any)])] _)] <| rQ (bP (!((List.range m.length).any fun i => decide ((m.getD i []).length ≠ (m.getD 0 []).length) || ((List.range ((m.getD i []).length)).any fun j => !(okB ((m.getD i []).getD j rwhole)))))) (bP (matOkB m)) (by rw [hb])) (by kernel_rfl)
theorem matValidR_pc (m : List (List RI)) (g : MGood m) (hl : m.length ≤ 1000000) (hrows : ∀ i, (m.getD i []).length ≤ 1000000) : PCt 103 [(rmatP m)] (bP (matOkB m)) := by
 exact tr true Tryz.call103 Tryz.func103 (chain [.c (matRect_pc _ g (by omega) hrows : PCt 173 [(rmatP m), (.fn 41 [])] _)] <| .nil) (by kernel_rfl)
open Go.RowKit Fp Pu
def gcdF (a b : Nat) (x : Nat) : PS := ⟨12, true, [(0, .e (.v (.int .u64 ((((eucS a b x).1) : Nat) : Int)))), (1, .e (.v (.int .u64 ((((eucS a b x).2) : Nat) : Int))))], []⟩
set_option maxHeartbeats 1000000 in
theorem ratGcd_N (a b N : Nat) (ha : a < 18446744073709551616) (hb : b < 18446744073709551616) (hlo : ∀ x, x < N → (eucS a b x).2 ≠ 0) (hN : (eucS a b N).2 = 0) : PCt 175 [(.v (.int .u64 (a : Int))), (.v (.int .u64 (b : Int)))] (.v (.int .u64 (((Nat.gcd a b) : Nat) : Int))) := by
 exact tr true Tryz.call175 Tryz.func175 (chain [.s (Sp.upto (gcdF a b) 0 N (by omega) (fun x hx hltx => by
    have hnz := hlo x (by omega)
    have hb1 := eucS_bound ha hb x
    exact spt (chain [tB 6 (natNZ_true (hlo x (by omega)) : (((((eucS a b x).2) : Nat) : Int) != 0) = true), .a (by omega : 0 ≤ (((((eucS a b x).1) : Nat) : Int) : Int) ∧ 0 < (((((eucS a b x).2) : Nat) : Int) : Int))] <| .e (chain [.o 0 (.int rfl : PV.le (.e (.v (.int .u64 ((((eucS a b x).2) : Nat) : Int)))) (.e (.v (.int .u64 ((((eucS a b (x + 1)).1) : Nat) : Int))))),
  .o 1 (.int rfl : PV.le (.e (.v (.int .u64 (((((eucS a b x).1) % ((eucS a b x).2)) : Nat) : Int)))) (.e (.v (.int .u64 ((((eucS a b (x + 1)).2) : Nat) : Int)))))] <| .nil)) (by kernel_rfl))
  (fun hx => by
    exact spt (chain [tB 6 (natNZ_false hN : (((((eucS a b N).2) : Nat) : Int) != 0) = false)] <| .nil) (by kernel_rfl)) (by nofun) : LpT 1 Tryz.f175 (gcdF a b 0) (.exit 0) ⟨12, true, [(0, .e (.v (.int .u64 ((((eucS a b N).1) : Nat) : Int))))], []⟩) (chain [.o 0 (.int rfl : PV.le (.e (.v (.int .u64 (a : Int)))) (.e (.v (.int .u64 ((((eucS a b 0).1) : Nat) : Int))))), .o 1 (.int rfl : PV.le (.e (.v (.int .u64 (b : Int)))) (.e (.v (.int .u64 ((((eucS a b 0).2) : Nat) : Int)))))] <| .nil)] <| rQ (.v (.int .u64 ((((eucS a b N).1) : Nat) : Int))) (.v (.int .u64 (((Nat.gcd a b) : Nat) : Int))) (by have h := eucS_gcd a b N; rw [hN, Nat.gcd_zero_right] at h; rw [← h])) (by kernel_rfl)
theorem ratGcd_pc (a b : Nat) (ha : a < 18446744073709551616) (hb : b < 18446744073709551616) : PCt 175 [(.v (.int .u64 (a : Int))), (.v (.int .u64 (b : Int)))] (.v (.int .u64 (((Nat.gcd a b) : Nat) : Int))) := by
 obtain ⟨N, h1, h2⟩ := eucS_end a b
 exact ratGcd_N a b N ha hb h1 h2
set_option maxHeartbeats 1000000 in
theorem ratSize_pc (n : Int) (h1 : -9223372036854775807 ≤ n) (h2 : n ≤ 9223372036854775807) : PCt 176 [(iP n)] (.v (.int .u64 (n.natAbs : Int))) := by
 exact tr true Tryz.call176 Tryz.func176 (.w (n < 0)
  (fun k1 => chain [tB 4 (decide_eq_true k1), r64 (0 - n) (by omega), .o 7 (.int (by rw [IntKind.wrap_u64]; omega) : PV.le (.e (.v (.int .u64 (IntKind.u64.wrap (0 - n))))) (.e (.v (.int .u64 (n.natAbs : Int)))))] <| .nil)
  (fun k1 => chain [tB 4 (decide_eq_false k1), .o 9 (.int (by rw [IntKind.wrap_u64]; omega) : PV.le (.e (.v (.int .u64 (IntKind.u64.wrap n)))) (.e (.v (.int .u64 (n.natAbs : Int)))))] <| .nil)) (by kernel_rfl)
set_option maxHeartbeats 1000000 in
theorem ratValid_pc (N : Int) (D : Nat) (hD1 : 1 ≤ D) (hD2 : D ≤ 1073741824) (hN1 : -1073741824 ≤ N) (hN2 : N ≤ 1073741824) (hg : Nat.gcd N.natAbs D = 1) : PCt 113 [(.agg [(iP N), (iP D)])] (bP true) := by
 exact tr true Tryz.call113 Tryz.func113 (chain [tT 5 (1 ≤ (D : Int)) (by omega), tT 9 ((D : Int) ≤ 1073741824) (by omega), tT 14 ((-1073741824) ≤ N) (by omega), tT 19 (N ≤ 1073741824) (by omega), .c (ratSize_pc _ (by omega) (by omega) : PCt 176 [(iP N)] _),
  .c (ratSize_pc _ (by omega) (by omega) : PCt 176 [(iP D)] _), .c (ratGcd_pc _ _ (by omega) (by omega) : PCt 175 [(.v (.int .u64 (((N).natAbs : Nat) : Int))), (.v (.int .u64 (((D : Int).natAbs : Nat) : Int)))] _),
  .o 29 (.bool (by rw [Int.natAbs_natCast, hg]; rfl) : PV.le (.e (bP ((((Nat.gcd ((N).natAbs) ((D : Int).natAbs)) : Nat) : Int) == 1))) (.e (bP true)))] <| .nil) (by kernel_rfl)
theorem slN0_le {x y : Nat} : E.le (.sl false 2 1 fun i_ j_ => [(.v (.int .u32 (x : Int))), (.v (.int .u32 (y : Int)))].getD (i_ * 1 + j_) (.v (.bool false))) (slP [x, y]) := .sl fun i j hi hj => by
 obtain rfl : j = 0 := by omega
 rcases i with _ | _ | i
 ·exact ⟨.refl _, rfl⟩
 ·exact ⟨.refl _, rfl⟩
 ·omega
theorem ok_n0 {n : Nat} (h : n < 4294967296) : Ok32 [n, 0] := Ok32.cons h (Ok32.cons (by decide) Ok32.nil)
theorem val_n0 (n : Nat) : val [n, 0] = n := by simp [val]
set_option maxHeartbeats 1000000 in
theorem ratLimbs_pc (n : Nat) (h : n < 4294967296) : PCt 178 [(.v (.int .u64 (n : Int)))] (slP [n, 0]) := by
 exact tr true Tryz.call178 Tryz.func178 (chain [.o 4 (.int (u32_nat _) : PV.le (.e (.v (.int .u32 (IntKind.u32.wrap (n : Int))))) (.e (.v (.int .u32 (((n % 4294967296) : Nat) : Int))))), .a (by omega : 0 ≤ (32 : Int) ∧ (32 : Int) ≤ ((64 : Nat) : Int)),
  .o 6 (.int (shr32_nat _) : PV.le (.e (.v (.int .u64 ((n : Int) / 2 ^ 32)))) (.e (.v (.int .u64 (((n / 4294967296) : Nat) : Int))))),
  .o 7 (.int (u32_nat _) : PV.le (.e (.v (.int .u32 (IntKind.u32.wrap (((n / 4294967296) : Nat) : Int))))) (.e (.v (.int .u32 ((((n / 4294967296) % 4294967296) : Nat) : Int)))))] <| rR (slP [n, 0]) (slN0_le.trans (.of_eq (by rw [Nat.mod_eq_of_lt h, Nat.div_eq_of_lt h])) : E.le (.sl false 2 1 fun i_ j_ => [(.v (.int .u32 (((n % 4294967296) : Nat) : Int))), (.v (.int .u32 ((((n / 4294967296) % 4294967296) : Nat) : Int)))].getD (i_ * 1 + j_) (.v (.bool false))) (slP [n, 0]))) (by kernel_rfl)
theorem natShl_L (L : List Nat) (n : Int) (hk : Ok32 L) (hl : L.length ≤ 256) (h0 : 0 ≤ n) (hn : n ≤ 65536) (hf : (limbs (val L * 2 ^ n.toNat)).length ≤ 256) : PCt 180 [slP L, iP n] (.tup [slP (limbs (val L * 2 ^ n.toNat)), iP 0]) := by
 obtain ⟨n, rfl⟩ := Int.eq_ofNat_of_zero_le h0
 rw [Int.toNat_natCast] at hf ⊢
 exact pcS1i hk Tryz.call180 (fun A c w h _ => natShl_ok A c L n w h hl (by omega) hf) fun A c B w e w' h hB r => rle B w e w' hB r
set_option maxHeartbeats 1000000 in
theorem ratMag_pc (N : Int) (D : Nat) (d : Dy) (hv : d.Valid) (d0 : d.m ≠ 0) (hD1 : 1 ≤ D) (hD2 : D ≤ 1073741824) (hN1 : -1073741824 ≤ N) (hN2 : N ≤ 1073741824) (hN0 : N ≠ 0) : PCt 115 [(.agg [(iP N), (iP D)]), (dyP d)] (iP (ratMag N.natAbs D d)) := by
 have hT := top_of d0
 have hbits := hv.bits
 have hbp := bitsN_pos d0
 have hlen : (limbs d.m).length ≤ 256 := limbs_len_bits (by omega)
 have ok1 : Ok32 [N.natAbs, 0] := ok_n0 (by omega)
 have ok2 : Ok32 [(D : Int).natAbs, 0] := ok_n0 (by omega)
 have hfm : (limbs (val (limbs d.m) * val [((D : Int).natAbs), 0])).length ≤ 256 := by
  rw [val_limbs, val_n0, Int.natAbs_natCast]
  exact limbs_mulD hv hD2
 exact tr true Tryz.call115 Tryz.func115 (chain [.c (dyTop_pc _ ‹_› : PCt 177 [(dyP d)] _)] <| .w (32 < (Dy.top d))
  (fun k1 => chain [tB 13 (decide_eq_true k1)] <| rQ (iP (-1)) (iP (ratMag N.natAbs D d)) (by rw [ratMag_big (by omega) hD1 d0 (by omega)]))
  (fun k1 => chain [tB 13 (decide_eq_false k1)] <| .w ((Dy.top d) < (-32))
   (fun k2 => chain [tB 16 (decide_eq_true k2)] <| rQ (iP 1) (iP (ratMag N.natAbs D d)) (by rw [ratMag_small (by omega) hD2 (by omega)]))
   (fun k2 => chain [tB 16 (decide_eq_false k2), .c (ratSize_pc _ (by omega) (by omega) : PCt 176 [(iP N)] _), .c (ratLimbs_pc _ (by omega) : PCt 178 [(.v (.int .u64 (((N).natAbs : Nat) : Int)))] _),
    .c (ratSize_pc _ (by omega) (by omega) : PCt 176 [(iP D)] _), .c (ratLimbs_pc _ (by omega) : PCt 178 [(.v (.int .u64 (((D : Int).natAbs : Nat) : Int)))] _),
    .c (natMul_L _ _ (ok_limbs _) ok2 (by omega) (by simp) hfm : PCt 179 [(slP (limbs d.m)), (slP [((D : Int).natAbs), 0])] _)] <| .w (0 ≤ d.e)
    (fun k3 => by
     have hfs : (limbs (val (limbs (val (limbs d.m) * val [((D : Int).natAbs), 0])) * 2 ^ (d.e).toNat)).length ≤ 256 := by
      rw [val_limbs, val_limbs, val_n0, Int.natAbs_natCast]
      exact (limbs_mulDe (d := d) hD2 (by omega)).resolve_right (by omega)
     exact chain [tB 33 (decide_eq_true k3), .c (natShl_L _ _ (ok_limbs _) hfm (by omega) (by omega) hfs : PCt 180 [(slP (limbs (val (limbs d.m) * val [((D : Int).natAbs), 0]))), (iP d.e)] _),
      .c (natCmp_pc _ _ ok1 (ok_limbs _) (by simp) (by omega) : PCt 181 [(slP [((N).natAbs), 0]), (slP (limbs (val (limbs (val (limbs d.m) * val [((D : Int).natAbs), 0])) * 2 ^ (d.e).toNat)))] _)] <| rQ (iP (cmpN (val [((N).natAbs), 0]) (val (limbs (val (limbs (val (limbs d.m) * val [((D : Int).natAbs), 0])) * 2 ^ (d.e).toNat))))) (iP (ratMag N.natAbs D d)) (by simp only [val_limbs, val_n0, Int.natAbs_natCast]; unfold ratMag; rw [show (-d.e).toNat = 0 from by omega, Nat.pow_zero, Nat.mul_one]))
    (fun k3 => by
     have hfs : (limbs (val [((N).natAbs), 0] * 2 ^ ((0 - d.e)).toNat)).length ≤ 256 := by
      rw [val_n0, Int.zero_sub]
      exact limbs_ae hv (by omega) (by omega)
     exact chain [tB 33 (decide_eq_false k3), r64 (0 - d.e) (by omega), .c (natShl_L _ _ ok1 (by simp) (by omega) (by omega) hfs : PCt 180 [(slP [((N).natAbs), 0]), (iP (0 - d.e))] _),
      .c (natCmp_pc _ _ (ok_limbs _) (ok_limbs _) (by omega) (by omega) : PCt 181 [(slP (limbs (val [((N).natAbs), 0] * 2 ^ ((0 - d.e)).toNat))), (slP (limbs (val (limbs d.m) * val [((D : Int).natAbs), 0])))] _)] <| rQ (iP (cmpN (val (limbs (val [((N).natAbs), 0] * 2 ^ ((0 - d.e)).toNat))) (val (limbs (val (limbs d.m) * val [((D : Int).natAbs), 0]))))) (iP (ratMag N.natAbs D d)) (by simp only [val_limbs, val_n0, Int.natAbs_natCast, Int.zero_sub]; unfold ratMag; rw [show d.e.toNat = 0 from by omega, Nat.pow_zero, Nat.mul_one]))))) (by kernel_rfl)
theorem ratMag_range (a D : Nat) (d : Dy) : -1 ≤ ratMag a D d ∧ ratMag a D d ≤ 1 := by
 unfold ratMag cmpN
 split
 ·omega
 ·split <;> omega
theorem sign_zero {d : Dy} (h : d.sign ≠ 0) : d.m ≠ 0 := fun q => h (by unfold Dy.sign; rw [if_pos q])
set_option maxHeartbeats 1000000 in
theorem ratCompare_pc (N : Int) (D : Nat) (d : Dy) (hv : d.Valid) (hD1 : 1 ≤ D) (hD2 : D ≤ 1073741824) (hN1 : -1073741824 ≤ N) (hN2 : N ≤ 1073741824) (hg : Nat.gcd N.natAbs D = 1) : PCt 37 [(.agg [(iP N), (iP D)]), (dyP d)] (.tup [(iP (ratCmp N D d)), (iP 0)]) := by
 exact tr true Tryz.call37 Tryz.func37 (chain [.c (ratValid_pc _ _ (by omega) (by omega) (by omega) (by omega) hg : PCt 113 [(.agg [(iP N), (iP D)])] _), .c (dyValid_pc _ ‹_› : PCt 98 [(dyP d)] _)] <| .w (0 < N)
  (fun k1 => chain [tB 19 (decide_eq_true k1), .c (dySign_pc _ ‹_› : PCt 114 [(dyP d)] _)] <| .w (1 < (Dy.sign d))
   (fun k2 => chain [tB 29 (decide_eq_true k2)] <| rR (.tup [(iP (ratCmp N D d)), (iP 0)]) (by
      exact .of_eq (by
       have e : ratCmp N D d = (-1) := by
        unfold ratCmp sgnI
        simp [k1, k2]
       rw [e]) : E.le (.tup [(iP (-1)), (iP 0)]) (.tup [(iP (ratCmp N D d)), (iP 0)])))
   (fun k2 => chain [tB 29 (decide_eq_false k2)] <| .w ((Dy.sign d) < 1)
    (fun k3 => chain [tB 33 (decide_eq_true k3)] <| rR (.tup [(iP (ratCmp N D d)), (iP 0)]) (by
      exact .of_eq (by
       have e : ratCmp N D d = 1 := by
        unfold ratCmp sgnI
        simp [k1, k2, k3]
       rw [e]) : E.le (.tup [(iP 1), (iP 0)]) (.tup [(iP (ratCmp N D d)), (iP 0)])))
    (fun k3 => by
     have d0 : d.m ≠ 0 := sign_zero (by omega)
     have hmr := ratMag_range N.natAbs D d
     exact chain [tB 33 (decide_eq_false k3), tB 36 (by decide : ((1 : Int) == 0) = false), .c (ratMag_pc _ _ _ hv d0 hD1 hD2 hN1 hN2 (by omega) : PCt 115 [(.agg [(iP N), (iP D)]), (dyP d)] _), r64 (1 * (ratMag N.natAbs D d)) (by omega)] <| rR (.tup [(iP (ratCmp N D d)), (iP 0)]) (by
      exact .of_eq (by
       have e : ratCmp N D d = (1 * (ratMag N.natAbs D d)) := by
        unfold ratCmp sgnI
        simp [k1, k2, k3]
       rw [e]) : E.le (.tup [(iP (1 * (ratMag N.natAbs D d))), (iP 0)]) (.tup [(iP (ratCmp N D d)), (iP 0)])))))
  (fun k1 => chain [tB 19 (decide_eq_false k1)] <| .w (N < 0)
   (fun k2 => chain [tB 23 (decide_eq_true k2), .c (dySign_pc _ ‹_› : PCt 114 [(dyP d)] _)] <| .w ((-1) < (Dy.sign d))
    (fun k3 => chain [tB 29 (decide_eq_true k3)] <| rR (.tup [(iP (ratCmp N D d)), (iP 0)]) (by
      exact .of_eq (by
       have e : ratCmp N D d = (-1) := by
        unfold ratCmp sgnI
        simp [k1, k2, k3]
       rw [e]) : E.le (.tup [(iP (-1)), (iP 0)]) (.tup [(iP (ratCmp N D d)), (iP 0)])))
    (fun k3 => chain [tB 29 (decide_eq_false k3)] <| .w ((Dy.sign d) < (-1))
     (fun k4 => chain [tB 33 (decide_eq_true k4)] <| rR (.tup [(iP (ratCmp N D d)), (iP 0)]) (by
      exact .of_eq (by
       have e : ratCmp N D d = 1 := by
        unfold ratCmp sgnI
        simp [k1, k2, k3, k4]
       rw [e]) : E.le (.tup [(iP 1), (iP 0)]) (.tup [(iP (ratCmp N D d)), (iP 0)])))
     (fun k4 => by
      have d0 : d.m ≠ 0 := sign_zero (by omega)
      have hmr := ratMag_range N.natAbs D d
      exact chain [tB 33 (decide_eq_false k4), tB 36 (by decide : (((-1) : Int) == 0) = false), .c (ratMag_pc _ _ _ hv d0 hD1 hD2 hN1 hN2 (by omega) : PCt 115 [(.agg [(iP N), (iP D)]), (dyP d)] _), r64 ((-1) * (ratMag N.natAbs D d)) (by omega)] <| rR (.tup [(iP (ratCmp N D d)), (iP 0)]) (by
      exact .of_eq (by
       have e : ratCmp N D d = ((-1) * (ratMag N.natAbs D d)) := by
        unfold ratCmp sgnI
        simp [k1, k2, k3, k4]
       rw [e]) : E.le (.tup [(iP ((-1) * (ratMag N.natAbs D d))), (iP 0)]) (.tup [(iP (ratCmp N D d)), (iP 0)])))))
   (fun k2 => chain [tB 23 (decide_eq_false k2), .c (dySign_pc _ ‹_› : PCt 114 [(dyP d)] _)] <| .w (0 < (Dy.sign d))
    (fun k3 => chain [tB 29 (decide_eq_true k3)] <| rR (.tup [(iP (ratCmp N D d)), (iP 0)]) (by
      exact .of_eq (by
       have e : ratCmp N D d = (-1) := by
        unfold ratCmp sgnI
        simp [k1, k2, k3]
       rw [e]) : E.le (.tup [(iP (-1)), (iP 0)]) (.tup [(iP (ratCmp N D d)), (iP 0)])))
    (fun k3 => chain [tB 29 (decide_eq_false k3)] <| .w ((Dy.sign d) < 0)
     (fun k4 => chain [tB 33 (decide_eq_true k4)] <| rR (.tup [(iP (ratCmp N D d)), (iP 0)]) (by
      exact .of_eq (by
       have e : ratCmp N D d = 1 := by
        unfold ratCmp sgnI
        simp [k1, k2, k3, k4]
       rw [e]) : E.le (.tup [(iP 1), (iP 0)]) (.tup [(iP (ratCmp N D d)), (iP 0)])))
     (fun k4 => chain [tB 33 (decide_eq_false k4), tB 36 (by decide : ((0 : Int) == 0) = true)] <| rR (.tup [(iP (ratCmp N D d)), (iP 0)]) (by
      exact .of_eq (by
       have e : ratCmp N D d = 0 := by
        unfold ratCmp sgnI
        simp [k1, k2, k3, k4]
       rw [e]) : E.le (.tup [(iP 0), (iP 0)]) (.tup [(iP (ratCmp N D d)), (iP 0)]))))))) (by kernel_rfl)
open Go.RowKit Fp Pu
theorem refOf_pc (s : Bool) (m : Nat) (e : Int) (hl : (limbs m).length ≤ 3000) (he1 : -1000000 ≤ e) (he2 : e ≤ 1000000) : PCt 155 [bP s, slP (limbs m), iP e] (dyP (canon s m e)) := by
 refine ⟨Tryz.call155, fun w B vs hK hB hr => ?_⟩
 obtain ⟨v1, vs, rfl, h1, hr⟩ := hr.uncons
 obtain ⟨v2, vs, rfl, h2, hr⟩ := hr.uncons
 obtain ⟨v3, vs, rfl, h3, hr⟩ := hr.uncons
 obtain rfl := hr.nil_inv
 obtain rfl := Rep.v_inv h1
 obtain rfl := Rep.v_inv h3
 obtain ⟨A, c, rfl, s1⟩ := slP_inv (ok_limbs m) h2
 have := refOf_any s A c (limbs m) e w s1 hl he1 he2
 rw [val_limbs] at this
 exact this.mono fun e w' h => rd B w e w' hB h
theorem refValid_pc (a : Dy) (ha : a.Valid) : PCt 159 [dyP a] (bP true) := pc1 Tryz.call159 (fun A c w h _ => refValid_dy a A c w h ha) rv
theorem refSign_pc (a : Dy) : PCt 153 [dyP a] (iP a.sign) := pc1 Tryz.call153 (fun A c w h _ => refSign_dy a A c w h) rv
theorem refNeg_pc (a : Dy) : PCt 72 [dyP a] (dyP (negD a)) :=
 pc1 Tryz.call72 (fun A c w h _ => by
  have := refNeg_any a.neg A c (limbs a.m) a.e w h (trim_limbs _)
  rw [val_limbs] at this
  exact this) rd
theorem refTop_pc (a : Dy) (ha : Near a) : PCt 84 [dyP a] (iP a.top) := pc1 Tryz.call84 (fun A c w h _ => refTop_dy a A c w h ha) rv
theorem refInt_pc (n : Nat) (hn : n < 4294967296) : PCt 70 [iP ((n : Nat) : Int)] (dyP (canon false n 0)) := by
 refine ⟨Tryz.call70, fun w B vs hK hB hr => ?_⟩
 obtain ⟨v1, vs, rfl, h1, hr⟩ := hr.uncons
 obtain rfl := hr.nil_inv
 obtain rfl := Rep.v_inv h1
 exact (refInt_any n w hn).mono fun e w' h => rd B w e w' hB h
end Go.Proofs.YtdppllbbgfekaaaGreatDoor
namespace Go.Proofs.YtdppllbbgfekaaaGreatDoor.Fp
theorem lost_iff (m k : Nat) : cmpN (m / 2 ^ k * 2 ^ k) m = 0 ↔ m % 2 ^ k = 0 := by
 have h1 := Nat.div_add_mod m (2 ^ k)
 rw [Nat.mul_comm] at h1
 unfold cmpN
 split
 ·simp; omega
 ·split
  ·have := Nat.div_mul_le_self m (2 ^ k); omega
  ·simp; omega
theorem cut_in {neg up more : Bool} {m p q : Nat} {e : Int} (hq : cutQ m e more p (neg != up) = q) (h : q = 0 ∨ ¬ 16384 < (bitsN q : Int) + e + cutK m e p) : cutD neg m e more p up = canon neg q (e + cutK m e p) ∧ cutE neg m e more p up = 0 := by
 have ho : cutOver m e more p (neg != up) = false := by
  unfold cutOver; rw [hq]
  rcases h with h | h
  ·simp [h]
  ·simp [h]
 unfold cutD cutE
 rw [ho, hq]
 simp
theorem cut_over {neg up more : Bool} {m p q : Nat} {e : Int} (hq : cutQ m e more p (neg != up) = q) (h0 : q ≠ 0) (h : 16384 < (bitsN q : Int) + e + cutK m e p) :
  ((neg != up) = true → cutD neg m e more p up = zeroD ∧ cutE neg m e more p up = 9) ∧ ((neg != up) = false → cutD neg m e more p up = canon neg (2 ^ p - 1) (16384 - p) ∧ cutE neg m e more p up = 0) := by
 have ho : cutOver m e more p (neg != up) = true := by unfold cutOver; rw [hq]; simp [h0, h]
 unfold cutD cutE
 rw [ho]
 constructor
 ·intro hn; rw [hn]; exact ⟨rfl, rfl⟩
 ·intro hn; rw [hn]; exact ⟨rfl, rfl⟩
end Go.Proofs.YtdppllbbgfekaaaGreatDoor.Fp
namespace Go.Proofs.YtdppllbbgfekaaaGreatDoor
open Go.RowKit Fp Pu
theorem dyCanonL_pc (s : Bool) (L : List Nat) (e : Int) (hk : Ok32 L) (hl : L.length ≤ 256) (he1 : -1000000 ≤ e) (he2 : e ≤ 1000000) : PCt 174 [bP s, slP L, iP e] (dyP (canon s (val L) e)) := by
 refine ⟨Tryz.call174, fun w B vs hK hB hr => ?_⟩
 obtain ⟨v1, vs, rfl, h1, hr⟩ := hr.uncons
 obtain ⟨v2, vs, rfl, h2, hr⟩ := hr.uncons
 obtain ⟨v3, vs, rfl, h3, hr⟩ := hr.uncons
 obtain rfl := hr.nil_inv
 obtain rfl := Rep.v_inv h1
 obtain rfl := Rep.v_inv h3
 obtain ⟨A, c, rfl, s1⟩ := slP_inv hk h2
 exact (dyCanon_any s A c L e w s1 (by omega) (by have := tlen_le L; unfold tlen at this; omega) he1 he2 hK).mono fun e w' h => rd B w e w' hB h
theorem two_le (x y : Nat) : E.le (.sl false 2 1 fun i j => [E.v (.int .u32 ((x : Nat) : Int)), .v (.int .u32 ((y : Nat) : Int))].getD (i * 1 + j) (.v (.bool false))) (slP [x, y]) := .sl fun i j hi hj => by
 obtain rfl : j = 0 := by omega
 obtain rfl | rfl : i = 0 ∨ i = 1 := by omega
 ·exact ⟨.refl _, rfl⟩
 ·exact ⟨.refl _, rfl⟩
theorem intD_nat (n : Nat) : intD ((n : Nat) : Int) = canon false n 0 := by
 unfold intD canonZ
 rw [decide_eq_false (by omega), Int.natAbs_natCast]
theorem intD_valid (n : Nat) (h : n < 4294967296) : (intD ((n : Nat) : Int)).Valid := by
 rw [intD_nat]
 refine ⟨canon_canon _ _ _, ?_⟩
 by_cases h0 : n = 0
 ·subst h0; exact .inl rfl
 ·have := canon_bits (s := false) (e := 0) h0
  have hb : bitsN n ≤ 32 := bitsN_le_iff.2 h
  refine .inr ⟨by omega, by omega, ?_, by omega⟩
  obtain ⟨h1, h2, h3, h4⟩ := this
  have := bitsN_pos h3
  omega
theorem val_two (x y : Nat) : val [x, y] = x + 4294967296 * y := by simp [val]
open Go.RowKit Fp Pu
theorem refScale_pc (d : Dy) (k : Int) (hd : d.Valid) (hk1 : -32768 ≤ k) (hk2 : k ≤ 32768) (hr : inRange (canon d.neg d.m (d.e + k))) : PCt 79 [dyP d, iP k] (.tup [dyP (canon d.neg d.m (d.e + k)), iP 0]) := by
 refine ⟨Tryz.call79, fun w B vs hK hB hrr => ?_⟩
 obtain ⟨v1, vs, rfl, h1, hrr⟩ := hrr.uncons
 obtain ⟨v2, vs, rfl, h2, hrr⟩ := hrr.uncons
 obtain rfl := hrr.nil_inv
 obtain ⟨A, c, rfl, s1⟩ := dyP_inv h1
 obtain rfl := Rep.v_inv h2
 have := refScale_yes d.neg A c (limbs d.m) d.e k w s1 hd.dok hk1 hk2 (by rw [val_limbs]; exact hr)
 rw [val_limbs] at this
 exact this.mono fun e w' h => rde B w e w' hB h
theorem canon_again {n : Int} {e : Int} : canon (intD n).neg (intD n).m ((intD n).e + e) = canonZ n e := by
 unfold intD canonZ
 by_cases h : n.natAbs = 0
 ·rw [h, canon_zero, canon_zero]
  show canon false 0 _ = _
  rw [canon_zero]
 ·have h1 := div_ctz_mul h
  rw [show canon (decide (n < 0)) n.natAbs 0 = ⟨decide (n < 0), n.natAbs / 2 ^ ctzN n.natAbs, 0 + (ctzN n.natAbs : Int)⟩ by unfold canon; rw [if_neg h]]
  show canon (decide (n < 0)) (n.natAbs / 2 ^ ctzN n.natAbs) (0 + (ctzN n.natAbs : Int) + e) = _
  rw [← canon_mul _ _ _ (ctzN n.natAbs), h1]
  congr 1
  omega
theorem canonZ_valid {n e : Int} (h1 : n.natAbs < 4294967296) (h2 : -1000 ≤ e) (h3 : e ≤ 1000) : (canonZ n e).Valid := by
 refine ⟨canon_canon _ _ _, ?_⟩
 unfold canonZ
 by_cases h0 : n.natAbs = 0
 ·rw [h0, canon_zero]; exact .inl rfl
 ·have := canon_bits (s := decide (n < 0)) (e := e) h0
  have hb : bitsN n.natAbs ≤ 32 := bitsN_le_iff.2 h1
  obtain ⟨h4, h5, h6, _⟩ := this
  have := bitsN_pos h6
  exact .inr ⟨by omega, by omega, by omega, by omega⟩
theorem intZ_valid {n : Int} (h1 : n.natAbs < 4294967296) : (intD n).Valid := canonZ_valid h1 (by decide) (by decide)
theorem refIntN_any (k : Nat) (w : World) (h0 : 0 < k) (hn : k < 4294967296) :
  Calls Tryz.prog 70 #[.int .i64 (-(k : Int))] w (RetD w (canon true k 0)) := by
 have hm := and_mask k (by omega)
 have hm2 : (k : Int) % 4294967296 = k := by omega
 rw [hm2] at hm
 have hd : (k : Int) / 4294967296 = 0 := by omega
 have hlt : (-(k : Int)) < 0 := by omega
 have hdl : decide ((-(k : Int)) < 0) = true := decide_eq_true hlt
 have hu : IntKind.u64.wrap (-(k : Int)) = 18446744073709551616 - k := by rw [IntKind.wrap_u64]; omega
 have hs : IntKind.u64.wrap (-(18446744073709551616 - (k : Int))) = k := by rw [IntKind.wrap_u64]; omega
 have HC := Lib.hid (fun (A : Option Addr) c w (h : Sl w A c [k, 0]) => refOf_any true A c [k, 0] 0 w h (by simp) (by decide) (by decide))
 have hv : val [k, 0] = k := by simp
 rw [hv] at HC
 clear hv
 generalize canon true k 0 = d at *
 generalize hN : (-(k : Int)) = N at *
 go_enter Tryz.func70, Tryz.ntmps70
 go_wp2_with fail
 refine (HC.out _ _ _ (Sl.two _ _ (by simp) _ _ k 0 rfl rfl hn (by decide))).mono ?_
 rintro r w1 ⟨A1, c1, rfl, hs1, hb1⟩
 have hb0 : Ext (w.alloc (.cells #[.bool false, .slice none 0 0, .int .i64 0] 26)) w1 := (Ext.alloc _ _).trans hb1
 have bx := (Box3.new w false none 0 0 0).ext hb0
 have b0 := bx.c0; have b1 := bx.c1; have b2 := bx.c2; have f0 := bx.fr 0; have f1 := bx.fr 1; have f2 := bx.fr 2
 go_wp2
 exact dy_ret rfl rfl rfl (bx.set _ _ _ _ _) rfl (bx.set_sl hs1 _ _ _ _ _) (Box3.set_ext ((Ext.alloc _ _).trans hb0) (Nat.le_refl _) _ _ _ _ _)
theorem intD_neg (k : Nat) (h0 : 0 < k) : intD (-(k : Int)) = canon true k 0 := by
 unfold intD canonZ
 rw [decide_eq_true (show (-(k : Int)) < 0 by omega), Int.natAbs_neg, Int.natAbs_natCast]
theorem refIntZ_pc (n : Int) (h : n.natAbs < 4294967296) : PCt 70 [iP n] (dyP (intD n)) := by
 by_cases h0 : 0 ≤ n
 ·obtain ⟨k, rfl⟩ := Int.eq_ofNat_of_zero_le h0
  rw [intD_nat]; exact refInt_pc k (by omega)
 ·obtain ⟨k, rfl⟩ : ∃ k : Nat, n = -(k : Int) := ⟨n.natAbs, by omega⟩
  rw [intD_neg k (by omega)]
  refine ⟨Tryz.call70, fun w B vs hK hB hr => ?_⟩
  obtain ⟨v1, vs, rfl, h1, hr⟩ := hr.uncons
  obtain rfl := hr.nil_inv
  obtain rfl := Rep.v_inv h1
  exact (refIntN_any k w (by omega) (by omega)).mono fun e w' h => rd B w e w' hB h
open Go.RowKit Fp Pu
def RetLF (w : World) (L : List Nat) (e : Ending) (w' : World) : Prop := ∃ A c, e = .returned (.slice A L.length c) ∧ Sl w' A c L ∧ Ext w w' ∧ ∀ b o s, A = some ⟨b, o, s⟩ → w.heap.size ≤ b
theorem RetLF.l {w : World} {L : List Nat} {e : Ending} {w' : World} (h : RetLF w L e w') : RetL w L e w' := let ⟨A, c, h1, h2, h3, _⟩ := h; ⟨A, c, h1, h2, h3⟩
theorem Ow.slF {w : World} {base : Nat} {v : Value} {L : List Nat} (h : Ow w base v L) : ∃ A c, v = .slice A L.length c ∧ Sl w A c L ∧ ∀ b o s, A = some ⟨b, o, s⟩ → base ≤ b := by
 obtain ⟨A, c, h1, h2⟩ := h.sl
 refine ⟨A, c, h1, h2, fun b o s e => ?_⟩
 rcases h.row.2 with ⟨h3, _⟩ | ⟨g, cap, cur, h3, hb, _⟩
 ·rw [h1, e] at h3; injection h3 with h3; cases h3
 ·rw [h1, e] at h3; injection h3 with h3; cases h3; exact hb
theorem slP_repF {B br : Nat → Prop} {w w' : World} {A : Option Addr} {c : Nat} {L : List Nat} (hB : ∀ b, B b → b < w.heap.size) (h : Sl w' A c L) (hf : ∀ b o s, A = some ⟨b, o, s⟩ → w.heap.size ≤ b) : Rep B br w' (slP L) (.slice A L.length c) := by
 refine .sl false L.length 1 _ A c (fun i _ => .int .u32 ((L.getD i 0 : Nat) : Int)) h.cap h.lim h.none_ (fun i j _ _ => ⟨rfl, fun h => by cases h⟩) (fun i j _ _ => rfl) (fun i j hi hj => ?_) (fun i j _ _ => .v _)
 obtain rfl : j = 0 := by omega
 obtain ⟨b, o, e1, hlt, hcell⟩ := h.at_ hi
 have e2 : L.getD i 0 = L[i] := by simp [List.getD_eq_getElem?_getD, hi]
 refine ⟨b, o, e1, fun hbad => ?_, hlt, by rw [Nat.mul_one, Nat.add_zero, hcell, e2]⟩
 have := hB b hbad
 have := hf _ _ _ e1
 omega
abbrev PCFt (f : FuncId) (args : List E) (res : E) : Prop := PCF Tryz.prog Tb f args res
theorem pcF1 {f : FuncId} {L M : List Nat} (hk : Ok32 L) (hc : ∀ (vs : Array Value) (w : World), (callFunc f vs).run Tryz.prog w = .ok (.enter f vs) w)
  (H : ∀ A c w, Sl w A c L → Tb w → Calls Tryz.prog f #[.slice A L.length c] w (RetLF w M)) : PCFt f [slP L] (slP M) := by
 refine ⟨hc, fun w B vs hK hB hr => ?_⟩
 obtain ⟨v1, vs, rfl, h1, hr⟩ := hr.uncons
 obtain rfl := hr.nil_inv
 obtain ⟨A, c, rfl, s1⟩ := slP_inv hk h1
 refine (H A c w s1 hK).mono fun e w' ⟨A, c, q1, q2, q3, q4⟩ => ⟨_, q1, q3, slP_repF hB q2 q4⟩
set_option maxHeartbeats 400000 in
theorem ref1Trim_any (A : Option Addr) (c : Nat) (L : List Nat) (w : World) (hs : Sl w A c L) (hlen : L.length ≤ 100000000) :
  Calls Tryz.prog 227 #[.slice A L.length c] w (RetLF w (trimL L)) := by
 have hc := hs.cap
 have hl := hs.lim
 have fin : ∀ k : Nat, k = (trimL L).length → Hid (trimL L = L.take k) := fun k hk => by rw [hk]; exact trimL_eq_take L
 go_enter Tryz.func227, Tryz.ntmps227
 go_wp2
 go_loop [3] (fun i => ∃ k : Nat, k ≤ L.length ∧ i = .int .i64 k ∧ tlen L = tlen (L.take k)) (fun i => (intOf i).toNat)
 case atStart => exact ⟨L.length, Nat.le_refl _, rfl, by simp⟩
 case round =>
  obtain ⟨k, hk, rfl, ht⟩ := hrel
  have HT := Lib.hid ht; clear ht
  have hsz : ([] : List Nat).length + (L.take k).length ≤ 10000000000 := by rw [List.length_take]; simp; omega
  have HK := Lib.hid (show k = (L.take k).length by rw [List.length_take]; omega)
  have h1 := Ow.empty w w.heap.size (Nat.le_refl _)
  have h2 := (hs.take k).alloc (.cells #[] 127)
  have h3 := le_alloc (w := w) (Nat.le_refl _) (.cells #[] 127)
  by_cases h0 : 0 < k
  ·obtain ⟨ab, ao, rfl, hb, hx1⟩ := hs.at_ (i := k - 1) (by omega)
   have e1 : ((k : Int) - 1).toNat = k - 1 := by omega
   have Z := Lib.hid (tlen_take_zero L (k - 1) (by omega))
   have NZ := Lib.hid (tlen_take_nz L (k - 1) (by omega))
   rw [Nat.sub_add_cancel h0] at Z NZ
   generalize L[k - 1] = x at *
   by_cases hx : x = 0
   ·have Hx := Lib.hid hx; clear hx
    have hb : ((x : Int) == 0) = true := by have := Hx.out; simp; omega
    clear fin
    go_wp2
    go_round
    case rel => exact ⟨k - 1, by omega, by go_num, by rw [HT.out, Z.out Hx.out]⟩
    case measure => simp [intOf]; omega
   ·have hb : ((x : Int) == 0) = false := by simp; omega
    have F := fin k (by show k = tlen L; rw [HT.out, NZ.out hx])
    clear fin
    go_wp2_with (at_builtin; go_must (refine wpList_app (by rfl) _ _ (by rfl) w.heap.size _ [] (by rfl) h1 _ _ _ (L.take k) (by rfl) HK.out h2 hsz h3 ?_); intro v' w' hown hg hat)
    obtain ⟨A', c', rfl, hs', hfr⟩ := hown.slF
    go_ret
    rw [F.out]
    exact ⟨A', c', rfl, hs', (Ext.alloc _ _).grown hg (le_alloc (Nat.le_refl _) _) (fun k hk => by simp [Value.ownBlock] at hk; omega), hfr⟩
  ·have : k = 0 := by omega
   subst this
   have F := fin 0 (by show 0 = tlen L; rw [HT.out]; rfl)
   clear fin
   go_wp2_with (at_builtin; go_must (refine wpList_app (by rfl) _ _ (by rfl) w.heap.size _ [] (by rfl) h1 _ _ _ (L.take 0) (by rfl) HK.out h2 hsz h3 ?_); intro v' w' hown hg hat)
   obtain ⟨A', c', rfl, hs', hfr⟩ := hown.slF
   go_ret
   rw [F.out]
   exact ⟨A', c', rfl, hs', (Ext.alloc _ _).grown hg (le_alloc (Nat.le_refl _) _) (fun k hk => by simp [Value.ownBlock] at hk; omega), hfr⟩
theorem ref1Trim_pcf (L : List Nat) (hk : Ok32 L) (hl : L.length ≤ 100000) : PCFt 227 [slP L] (slP (trimL L)) :=
 pcF1 hk Tryz.call227 fun A c w h _ => ref1Trim_any A c L w h (by omega)
open Go.RowKit Fp Pu
def r1CmpFE (L M : List Nat) (N k : Nat) (x : Nat) : PS := ⟨30, true, [(5, .e (iP ((N : Int) - 1 - (x : Int)))), (0, .e (slP L)), (1, .e (slP M))], []⟩
def r1CmpFL (L M : List Nat) (N k : Nat) (x : Nat) : PS := ⟨30, true, [(5, .e (iP ((N : Int) - 1 - (x : Int)))), (0, .e (slP L)), (1, .e (slP M))], []⟩
def r1CmpFG (L M : List Nat) (N k : Nat) (x : Nat) : PS := ⟨30, true, [(5, .e (iP ((N : Int) - 1 - (x : Int)))), (0, .e (slP L)), (1, .e (slP M))], []⟩
def r1BitsFZ (L : List Nat) (k : Nat) (x : Nat) : PS := ⟨31, true, [(3, .e (iP ((L.length : Int) - 1 - (x : Int)))), (0, .e (slP L))], []⟩
def r1BitsFY (L : List Nat) (k : Nat) (x : Nat) : PS := ⟨31, true, [(3, .e (iP ((L.length : Int) - 1 - (x : Int)))), (0, .e (slP L))], []⟩
def r1BitsI (L : List Nat) (k : Nat) (y : Nat) : PS := ⟨31, true, [(5, .e (.v (.int .u32 ((((L.getD (((L.length : Int) - 1 - (k : Int))).toNat 0) / 2 ^ y) : Nat) : Int)))), (4, .e (iP ((32 * ((L.length : Int) - 1 - (k : Int))) + (y : Int))))], []⟩
theorem r1AtZ_pc (L : List Nat) (z : Int) (hk : Ok32 L) (h0 : 0 ≤ z) : PCt 229 [(slP L), (iP z)] (.v (.int .u64 (((L.getD z.toNat 0) : Nat) : Int))) := by
 have h1 := hk.getD z.toNat
 exact tr true Tryz.call229 Tryz.func229 (.w (z < (L.length : Int))
  (fun k1 => chain [tB 8 (decide_eq_true k1), iX (z) (L.length) (by omega), .o 13 (.int (u64_nat _ (by omega)) : PV.le (.e (.v (.int .u64 (IntKind.u64.wrap (((L.getD (z).toNat 0) : Nat) : Int))))) (.e (.v (.int .u64 (((L.getD (z).toNat 0) : Nat) : Int)))))] <| .nil)
  (fun k1 => by
   have hz : L.getD z.toNat 0 = 0 := by rw [List.getD_eq_getElem?_getD, List.getElem?_eq_none (by omega)]; rfl
   exact chain [tB 8 (decide_eq_false k1)] <| rQ (.v (.int .u64 0)) (.v (.int .u64 (((L.getD z.toNat 0) : Nat) : Int))) (by rw [hz]; rfl))) (by kernel_rfl)
theorem r1At_pc (L : List Nat) (n : Nat) (hk : Ok32 L) : PCt 229 [slP L, iP (n : Int)] (.v (.int .u64 ((L.getD n 0 : Nat) : Int))) := r1AtZ_pc L n hk (Int.natCast_nonneg n)
theorem r1Cmp_E (L M : List Nat) (N k : Nat) (hL : Ok32 L) (hM : Ok32 M) (hN : N = max L.length M.length) (hs : N ≤ 1000000) (heq : ∀ x, x < k → L.getD (N - 1 - x) 0 = M.getD (N - 1 - x) 0) (hk : k = N) : PCt 231 [(slP L), (slP M)] (iP 0) := by
 exact tr true Tryz.call231 Tryz.func231 (chain [.o 10 (.int (by rw [hN]; split <;> omega) : PV.le (.e (iP (if (M.length : Int) > (L.length : Int) then (M.length : Int) else (L.length : Int)))) (.e (iP N))),
  r64 ((N : Int) - 1) (by omega),
  .s (Sp.upto (r1CmpFE L M N k) 0 k (by omega) (fun x hx hltx => by
    have hj : (((N : Int) - 1 - (x : Int))).toNat = N - 1 - x := by omega
    have he := heq x (by omega)
    rw [← hj] at he
    exact spt (chain [tT 13 (0 ≤ ((N : Int) - 1 - (x : Int))) (by omega), .c (r1AtZ_pc _ _ ‹_› (by omega) : PCt 229 [(slP L), (iP ((N : Int) - 1 - (x : Int)))] _),
     .c (r1AtZ_pc _ _ ‹_› (by omega) : PCt 229 [(slP M), (iP ((N : Int) - 1 - (x : Int)))] _),
     tF 22 ((((L.getD (((N : Int) - 1 - (x : Int))).toNat 0) : Nat) : Int) < (((M.getD (((N : Int) - 1 - (x : Int))).toNat 0) : Nat) : Int)) (by omega),
     .c (r1AtZ_pc _ _ ‹_› (by omega) : PCt 229 [(slP L), (iP ((N : Int) - 1 - (x : Int)))] _), .c (r1AtZ_pc _ _ ‹_› (by omega) : PCt 229 [(slP M), (iP ((N : Int) - 1 - (x : Int)))] _),
     tF 29 ((((M.getD (((N : Int) - 1 - (x : Int))).toNat 0) : Nat) : Int) < (((L.getD (((N : Int) - 1 - (x : Int))).toNat 0) : Nat) : Int)) (by omega),
     r64 (((N : Int) - 1 - (x : Int)) - 1) (by omega)] <| .e (chain [.o 5 (.int (by first | rfl | omega | (simp only [Nat.add_mul, Nat.one_mul]; omega)) : PV.le (.e (iP (((N : Int) - 1 - (x : Int)) - 1))) (.e (iP ((N : Int) - 1 - (((x + 1) : Nat) : Int)))))] <| .nil)) (by kernel_rfl))
  (fun hx => by
    exact spt (chain [tF 13 (0 ≤ ((N : Int) - 1 - (k : Int))) (by omega)] <| .nil) (by kernel_rfl)) (by nofun) : LpT 2 Tryz.f231 (r1CmpFE L M N k 0) (.exit 0) ⟨30, true, [], []⟩) (chain [.o 5 (.int (by first | rfl | omega | (simp only [Nat.add_mul, Nat.one_mul]; omega)) : PV.le (.e (iP ((N : Int) - 1))) (.e (iP ((N : Int) - 1 - ((0 : Nat) : Int)))))] <| .nil)] <| .nil) (by kernel_rfl)
theorem r1Cmp_L (L M : List Nat) (N k : Nat) (hL : Ok32 L) (hM : Ok32 M) (hN : N = max L.length M.length) (hs : N ≤ 1000000) (heq : ∀ x, x < k → L.getD (N - 1 - x) 0 = M.getD (N - 1 - x) 0) (hk : k < N) (hd : L.getD (N - 1 - k) 0 < M.getD (N - 1 - k) 0) : PCt 231 [(slP L), (slP M)] (iP (-1)) := by
 exact tr true Tryz.call231 Tryz.func231 (chain [.o 10 (.int (by rw [hN]; split <;> omega) : PV.le (.e (iP (if (M.length : Int) > (L.length : Int) then (M.length : Int) else (L.length : Int)))) (.e (iP N))),
  r64 ((N : Int) - 1) (by omega),
  .s (Sp.upto (r1CmpFL L M N k) 0 k (by omega) (fun x hx hltx => by
    have hj : (((N : Int) - 1 - (x : Int))).toNat = N - 1 - x := by omega
    have he := heq x (by omega)
    rw [← hj] at he
    exact spt (chain [tT 13 (0 ≤ ((N : Int) - 1 - (x : Int))) (by omega), .c (r1AtZ_pc _ _ ‹_› (by omega) : PCt 229 [(slP L), (iP ((N : Int) - 1 - (x : Int)))] _),
     .c (r1AtZ_pc _ _ ‹_› (by omega) : PCt 229 [(slP M), (iP ((N : Int) - 1 - (x : Int)))] _),
     tF 22 ((((L.getD (((N : Int) - 1 - (x : Int))).toNat 0) : Nat) : Int) < (((M.getD (((N : Int) - 1 - (x : Int))).toNat 0) : Nat) : Int)) (by omega),
     .c (r1AtZ_pc _ _ ‹_› (by omega) : PCt 229 [(slP L), (iP ((N : Int) - 1 - (x : Int)))] _), .c (r1AtZ_pc _ _ ‹_› (by omega) : PCt 229 [(slP M), (iP ((N : Int) - 1 - (x : Int)))] _),
     tF 29 ((((M.getD (((N : Int) - 1 - (x : Int))).toNat 0) : Nat) : Int) < (((L.getD (((N : Int) - 1 - (x : Int))).toNat 0) : Nat) : Int)) (by omega),
     r64 (((N : Int) - 1 - (x : Int)) - 1) (by omega)] <| .e (chain [.o 5 (.int (by first | rfl | omega | (simp only [Nat.add_mul, Nat.one_mul]; omega)) : PV.le (.e (iP (((N : Int) - 1 - (x : Int)) - 1))) (.e (iP ((N : Int) - 1 - (((x + 1) : Nat) : Int)))))] <| .nil)) (by kernel_rfl))
  (fun hx => by
    have hj : (((N : Int) - 1 - (k : Int))).toNat = N - 1 - k := by omega
    rw [← hj] at hd
    exact spt (chain [tT 13 (0 ≤ ((N : Int) - 1 - (k : Int))) (by omega), .c (r1AtZ_pc _ _ ‹_› (by omega) : PCt 229 [(slP L), (iP ((N : Int) - 1 - (k : Int)))] _),
    .c (r1AtZ_pc _ _ ‹_› (by omega) : PCt 229 [(slP M), (iP ((N : Int) - 1 - (k : Int)))] _),
    tT 22 ((((L.getD (((N : Int) - 1 - (k : Int))).toNat 0) : Nat) : Int) < (((M.getD (((N : Int) - 1 - (k : Int))).toNat 0) : Nat) : Int)) (by omega)] <| .nil) (by kernel_rfl)) (by nofun) : LpT 2 Tryz.f231 (r1CmpFL L M N k 0) .ret ⟨30, true, [(4, .e (iP (-1)))], []⟩) (chain [.o 5 (.int (by first | rfl | omega | (simp only [Nat.add_mul, Nat.one_mul]; omega)) : PV.le (.e (iP ((N : Int) - 1))) (.e (iP ((N : Int) - 1 - ((0 : Nat) : Int)))))] <| .nil)] <| rR (iP (-1)) (.of_eq rfl : E.le (iP (-1)) (iP (-1)))) (by kernel_rfl)
theorem r1Cmp_G (L M : List Nat) (N k : Nat) (hL : Ok32 L) (hM : Ok32 M) (hN : N = max L.length M.length) (hs : N ≤ 1000000) (heq : ∀ x, x < k → L.getD (N - 1 - x) 0 = M.getD (N - 1 - x) 0) (hk : k < N) (hd : M.getD (N - 1 - k) 0 < L.getD (N - 1 - k) 0) : PCt 231 [(slP L), (slP M)] (iP 1) := by
 exact tr true Tryz.call231 Tryz.func231 (chain [.o 10 (.int (by rw [hN]; split <;> omega) : PV.le (.e (iP (if (M.length : Int) > (L.length : Int) then (M.length : Int) else (L.length : Int)))) (.e (iP N))),
  r64 ((N : Int) - 1) (by omega),
  .s (Sp.upto (r1CmpFG L M N k) 0 k (by omega) (fun x hx hltx => by
    have hj : (((N : Int) - 1 - (x : Int))).toNat = N - 1 - x := by omega
    have he := heq x (by omega)
    rw [← hj] at he
    exact spt (chain [tT 13 (0 ≤ ((N : Int) - 1 - (x : Int))) (by omega), .c (r1AtZ_pc _ _ ‹_› (by omega) : PCt 229 [(slP L), (iP ((N : Int) - 1 - (x : Int)))] _),
     .c (r1AtZ_pc _ _ ‹_› (by omega) : PCt 229 [(slP M), (iP ((N : Int) - 1 - (x : Int)))] _),
     tF 22 ((((L.getD (((N : Int) - 1 - (x : Int))).toNat 0) : Nat) : Int) < (((M.getD (((N : Int) - 1 - (x : Int))).toNat 0) : Nat) : Int)) (by omega),
     .c (r1AtZ_pc _ _ ‹_› (by omega) : PCt 229 [(slP L), (iP ((N : Int) - 1 - (x : Int)))] _), .c (r1AtZ_pc _ _ ‹_› (by omega) : PCt 229 [(slP M), (iP ((N : Int) - 1 - (x : Int)))] _),
     tF 29 ((((M.getD (((N : Int) - 1 - (x : Int))).toNat 0) : Nat) : Int) < (((L.getD (((N : Int) - 1 - (x : Int))).toNat 0) : Nat) : Int)) (by omega),
     r64 (((N : Int) - 1 - (x : Int)) - 1) (by omega)] <| .e (chain [.o 5 (.int (by first | rfl | omega | (simp only [Nat.add_mul, Nat.one_mul]; omega)) : PV.le (.e (iP (((N : Int) - 1 - (x : Int)) - 1))) (.e (iP ((N : Int) - 1 - (((x + 1) : Nat) : Int)))))] <| .nil)) (by kernel_rfl))
  (fun hx => by
    have hj : (((N : Int) - 1 - (k : Int))).toNat = N - 1 - k := by omega
    rw [← hj] at hd
    exact spt (chain [tT 13 (0 ≤ ((N : Int) - 1 - (k : Int))) (by omega), .c (r1AtZ_pc _ _ ‹_› (by omega) : PCt 229 [(slP L), (iP ((N : Int) - 1 - (k : Int)))] _),
    .c (r1AtZ_pc _ _ ‹_› (by omega) : PCt 229 [(slP M), (iP ((N : Int) - 1 - (k : Int)))] _),
    tF 22 ((((L.getD (((N : Int) - 1 - (k : Int))).toNat 0) : Nat) : Int) < (((M.getD (((N : Int) - 1 - (k : Int))).toNat 0) : Nat) : Int)) (by omega),
    .c (r1AtZ_pc _ _ ‹_› (by omega) : PCt 229 [(slP L), (iP ((N : Int) - 1 - (k : Int)))] _), .c (r1AtZ_pc _ _ ‹_› (by omega) : PCt 229 [(slP M), (iP ((N : Int) - 1 - (k : Int)))] _),
    tT 29 ((((M.getD (((N : Int) - 1 - (k : Int))).toNat 0) : Nat) : Int) < (((L.getD (((N : Int) - 1 - (k : Int))).toNat 0) : Nat) : Int)) (by omega)] <| .nil) (by kernel_rfl)) (by nofun) : LpT 2 Tryz.f231 (r1CmpFG L M N k 0) .ret ⟨30, true, [(4, .e (iP 1))], []⟩) (chain [.o 5 (.int (by first | rfl | omega | (simp only [Nat.add_mul, Nat.one_mul]; omega)) : PV.le (.e (iP ((N : Int) - 1))) (.e (iP ((N : Int) - 1 - ((0 : Nat) : Int)))))] <| .nil)] <| .nil) (by kernel_rfl)
theorem r1Cmp_pc (L M : List Nat) (hL : Ok32 L) (hM : Ok32 M) (h1 : L.length ≤ 1000000) (h2 : M.length ≤ 1000000) : PCt 231 [slP L, slP M] (iP (cmpN (val L) (val M))) := by
 obtain ⟨N, hN⟩ : ∃ N, N = max L.length M.length := ⟨_, rfl⟩
 have vL : val L < 4294967296 ^ N := Nat.lt_of_lt_of_le (val_lt hL) (Nat.pow_le_pow_right (by decide) (by omega))
 have vM : val M < 4294967296 ^ N := Nat.lt_of_lt_of_le (val_lt hM) (Nat.pow_le_pow_right (by decide) (by omega))
 by_cases h : ∃ x, x < N ∧ (decide (L.getD (N - 1 - x) 0 ≠ M.getD (N - 1 - x) 0)) = true
 ·obtain ⟨k, k1, k2, k3⟩ := least_true h
  have heq : ∀ x, x < k → L.getD (N - 1 - x) 0 = M.getD (N - 1 - x) 0 := fun x hx => by simpa using k3 x hx
  have hne : L.getD (N - 1 - k) 0 ≠ M.getD (N - 1 - k) 0 := by simpa using k2
  have hup : ∀ i, N - 1 - k < i → dig (val L) i = dig (val M) i := fun i hi => by
   by_cases hiN : i < N
   ·have := heq (N - 1 - i) (by omega)
    rw [show N - 1 - (N - 1 - i) = i by omega, getD_dig hL, getD_dig hM] at this
    exact this
   ·rw [dig_of_lt vL (by omega), dig_of_lt vM (by omega)]
  rw [getD_dig hL, getD_dig hM] at hne
  rcases Nat.lt_or_gt_of_ne hne with hd | hd
  ·have := lt_of_dig vL vM hup hd
   refine (r1Cmp_L L M N k hL hM hN (by omega) heq k1 (by rw [getD_dig hL, getD_dig hM]; exact hd)).res (.of_eq ?_)
   unfold cmpN; rw [if_pos this]
  ·have := lt_of_dig vM vL (fun i hi => (hup i hi).symm) hd
   refine (r1Cmp_G L M N k hL hM hN (by omega) heq k1 (by rw [getD_dig hL, getD_dig hM]; exact hd)).res (.of_eq ?_)
   unfold cmpN; rw [if_neg (by omega), if_pos this]
 ·have heq : ∀ x, x < N → L.getD (N - 1 - x) 0 = M.getD (N - 1 - x) 0 := fun x hx => by
   apply Classical.byContradiction; intro q; exact h ⟨x, hx, by simpa using q⟩
  have hup : ∀ i, dig (val L) i = dig (val M) i := fun i => by
   by_cases hiN : i < N
   ·have := heq (N - 1 - i) (by omega)
    rw [show N - 1 - (N - 1 - i) = i by omega, getD_dig hL, getD_dig hM] at this
    exact this
   ·rw [dig_of_lt vL (by omega), dig_of_lt vM (by omega)]
  refine (r1Cmp_E L M N N hL hM hN (by omega) heq rfl).res (.of_eq ?_)
  rw [eq_of_dig vL vM fun i _ => hup i]
  unfold cmpN; rw [if_neg (Nat.lt_irrefl _), if_neg (Nat.lt_irrefl _)]
theorem r1Bits_Z (L : List Nat) (k : Nat) (hL : Ok32 L) (hs : L.length ≤ 1000000) (hz : ∀ x, x < k → L.getD (L.length - 1 - x) 0 = 0) (hk : k = L.length) : PCt 189 [(slP L)] (iP 0) := by
 exact tr true Tryz.call189 Tryz.func189 (chain [r64 ((L.length : Int) - 1) (by omega),
  .s (Sp.upto (r1BitsFZ L k) 0 k (by omega) (fun x hx hltx => by
    have hj : (((L.length : Int) - 1 - (x : Int))).toNat = L.length - 1 - x := by omega
    have he := hz x (by omega)
    rw [← hj] at he
    exact spt (chain [tT 10 (0 ≤ ((L.length : Int) - 1 - (x : Int))) (by omega), iX (((L.length : Int) - 1 - (x : Int))) (L.length) (by omega),
     tB 17 (natNZ_false he : ((((L.getD (((L.length : Int) - 1 - (x : Int))).toNat 0) : Nat) : Int) != 0) = false), r64 (((L.length : Int) - 1 - (x : Int)) - 1) (by omega)] <| .e (chain [.o 3 (.int (by first | rfl | omega | (simp only [Nat.add_mul, Nat.one_mul]; omega)) : PV.le (.e (iP (((L.length : Int) - 1 - (x : Int)) - 1))) (.e (iP ((L.length : Int) - 1 - (((x + 1) : Nat) : Int)))))] <| .nil)) (by kernel_rfl))
  (fun hx => by
    exact spt (chain [tF 10 (0 ≤ ((L.length : Int) - 1 - (k : Int))) (by omega)] <| .nil) (by kernel_rfl)) (by nofun) : LpT 2 Tryz.f189 (r1BitsFZ L k 0) (.exit 0) ⟨31, true, [], []⟩) (chain [.o 3 (.int (by first | rfl | omega | (simp only [Nat.add_mul, Nat.one_mul]; omega)) : PV.le (.e (iP ((L.length : Int) - 1))) (.e (iP ((L.length : Int) - 1 - ((0 : Nat) : Int)))))] <| .nil)] <| .nil) (by kernel_rfl)
theorem r1Bits_Y (L : List Nat) (k : Nat) (hL : Ok32 L) (hs : L.length ≤ 1000000) (hz : ∀ x, x < k → L.getD (L.length - 1 - x) 0 = 0) (hk : k < L.length) (hd : L.getD (L.length - 1 - k) 0 ≠ 0) : PCt 189 [(slP L)] (iP ((32 * ((L.length : Int) - 1 - (k : Int))) + ((bitsN (L.getD (((L.length : Int) - 1 - (k : Int))).toNat 0) : Nat) : Int))) := by
 exact tr true Tryz.call189 Tryz.func189 (chain [r64 ((L.length : Int) - 1) (by omega),
  .s (Sp.upto (r1BitsFY L k) 0 k (by omega) (fun x hx hltx => by
    have hj : (((L.length : Int) - 1 - (x : Int))).toNat = L.length - 1 - x := by omega
    have he := hz x (by omega)
    rw [← hj] at he
    exact spt (chain [tT 10 (0 ≤ ((L.length : Int) - 1 - (x : Int))) (by omega), iX (((L.length : Int) - 1 - (x : Int))) (L.length) (by omega),
     tB 17 (natNZ_false he : ((((L.getD (((L.length : Int) - 1 - (x : Int))).toNat 0) : Nat) : Int) != 0) = false), r64 (((L.length : Int) - 1 - (x : Int)) - 1) (by omega)] <| .e (chain [.o 3 (.int (by first | rfl | omega | (simp only [Nat.add_mul, Nat.one_mul]; omega)) : PV.le (.e (iP (((L.length : Int) - 1 - (x : Int)) - 1))) (.e (iP ((L.length : Int) - 1 - (((x + 1) : Nat) : Int)))))] <| .nil)) (by kernel_rfl))
  (fun hx => by
    have hj : (((L.length : Int) - 1 - (k : Int))).toNat = L.length - 1 - k := by omega
    have hlt := hL.getD (((L.length : Int) - 1 - (k : Int))).toNat
    have hb2 : bitsN (L.getD (((L.length : Int) - 1 - (k : Int))).toNat 0) ≤ 32 := bitsN_le_iff.2 hlt
    rw [← hj] at hd
    exact spt (chain [tT 10 (0 ≤ ((L.length : Int) - 1 - (k : Int))) (by omega), iX (((L.length : Int) - 1 - (k : Int))) (L.length) (by omega),
    tB 17 (natNZ_true hd : ((((L.getD (((L.length : Int) - 1 - (k : Int))).toNat 0) : Nat) : Int) != 0) = true), r64 (32 * ((L.length : Int) - 1 - (k : Int))) (by omega),
    iX (((L.length : Int) - 1 - (k : Int))) (L.length) (by omega),
    .s (Sp.upto (r1BitsI L k) 0 (bitsN (L.getD (((L.length : Int) - 1 - (k : Int))).toNat 0)) (by omega) (fun y hy hlty => by
    have hp : 0 < (L.getD (((L.length : Int) - 1 - (k : Int))).toNat 0) / 2 ^ y := Nat.div_pos (lt_bitsN_iff.1 (by omega)) (Nat.pow_pos (by decide))
    exact spt (chain [tT 25 (0 < ((((L.getD (((L.length : Int) - 1 - (k : Int))).toNat 0) / 2 ^ y) : Nat) : Int)) (by omega), r64 (((32 * ((L.length : Int) - 1 - (k : Int))) + (y : Int)) + 1) (by omega),
     .a (by omega : 0 ≤ (1 : Int) ∧ (1 : Int) ≤ ((32 : Nat) : Int)),
     .o 27 (.int (shr_nat _ _) : PV.le (.e (.v (.int .u32 (((((L.getD (((L.length : Int) - 1 - (k : Int))).toNat 0) / 2 ^ y) : Nat) : Int) / 2 ^ 1)))) (.e (.v (.int .u32 (((((L.getD (((L.length : Int) - 1 - (k : Int))).toNat 0) / 2 ^ y) / 2 ^ 1) : Nat) : Int)))))] <| .e (chain [.o 5 (.int (by rw [Nat.div_div_eq_div_mul, ← Nat.pow_succ]) : PV.le (.e (.v (.int .u32 (((((L.getD (((L.length : Int) - 1 - (k : Int))).toNat 0) / 2 ^ y) / 2 ^ 1) : Nat) : Int)))) (.e (.v (.int .u32 ((((L.getD (((L.length : Int) - 1 - (k : Int))).toNat 0) / 2 ^ (y + 1)) : Nat) : Int))))),
  .o 4 (.int (by first | rfl | omega | (simp only [Nat.add_mul, Nat.one_mul]; omega)) : PV.le (.e (iP (((32 * ((L.length : Int) - 1 - (k : Int))) + (y : Int)) + 1))) (.e (iP ((32 * ((L.length : Int) - 1 - (k : Int))) + (((y + 1) : Nat) : Int)))))] <| .nil)) (by kernel_rfl))
  (fun hy => by
    have hp : (L.getD (((L.length : Int) - 1 - (k : Int))).toNat 0) / 2 ^ (bitsN (L.getD (((L.length : Int) - 1 - (k : Int))).toNat 0)) = 0 := Nat.div_eq_of_lt (lt_two_pow_bitsN _)
    exact spt (chain [tF 25 (0 < ((((L.getD (((L.length : Int) - 1 - (k : Int))).toNat 0) / 2 ^ (bitsN (L.getD (((L.length : Int) - 1 - (k : Int))).toNat 0))) : Nat) : Int)) (by omega)] <| .nil) (by kernel_rfl)) (by nofun) : LpT 7 Tryz.f189 (r1BitsI L k 0) (.exit 2) ⟨31, true, [(4, .e (iP ((32 * ((L.length : Int) - 1 - (k : Int))) + (((bitsN (L.getD (((L.length : Int) - 1 - (k : Int))).toNat 0)) : Nat) : Int))))], []⟩) (chain [.o 5 (.int (by rw [Nat.pow_zero, Nat.div_one]) : PV.le (.e (.v (.int .u32 (((L.getD (((L.length : Int) - 1 - (k : Int))).toNat 0) : Nat) : Int)))) (.e (.v (.int .u32 ((((L.getD (((L.length : Int) - 1 - (k : Int))).toNat 0) / 2 ^ 0) : Nat) : Int))))),
  .o 4 (.int (by first | rfl | omega | (simp only [Nat.add_mul, Nat.one_mul]; omega)) : PV.le (.e (iP (32 * ((L.length : Int) - 1 - (k : Int))))) (.e (iP ((32 * ((L.length : Int) - 1 - (k : Int))) + ((0 : Nat) : Int)))))] <| .nil)] <| .nil) (by kernel_rfl)) (by nofun) : LpT 2 Tryz.f189 (r1BitsFY L k 0) .ret ⟨31, true, [(2, .e (iP ((32 * ((L.length : Int) - 1 - (k : Int))) + (((bitsN (L.getD (((L.length : Int) - 1 - (k : Int))).toNat 0)) : Nat) : Int))))], []⟩) (chain [.o 3 (.int (by first | rfl | omega | (simp only [Nat.add_mul, Nat.one_mul]; omega)) : PV.le (.e (iP ((L.length : Int) - 1))) (.e (iP ((L.length : Int) - 1 - ((0 : Nat) : Int)))))] <| .nil)] <| .nil) (by kernel_rfl)
theorem r1Bits_pc (L : List Nat) (hL : Ok32 L) (h1 : L.length ≤ 1000000) : PCt 189 [slP L] (iP (bitsN (val L))) := by
 by_cases h : ∃ x, x < L.length ∧ (decide (L.getD (L.length - 1 - x) 0 ≠ 0)) = true
 ·obtain ⟨k, k1, k2, k3⟩ := least_true h
  have hz : ∀ x, x < k → L.getD (L.length - 1 - x) 0 = 0 := fun x hx => by simpa using k3 x hx
  have hne : L.getD (L.length - 1 - k) 0 ≠ 0 := by simpa using k2
  refine (r1Bits_Y L k hL h1 hz k1 hne).res (.of_eq ?_)
  have hj : (((L.length : Int) - 1 - (k : Int))).toNat = L.length - 1 - k := by omega
  rw [hj]
  have hb := bitsN_dig (n := val L) (k := L.length - 1 - k) (val_lt_of_top hL fun i hi => by
   by_cases hi2 : i < L.length
   ·have := hz (L.length - 1 - i) (by omega)
    rwa [show L.length - 1 - (L.length - 1 - i) = i by omega] at this
   ·rw [List.getD_eq_getElem?_getD, List.getElem?_eq_none (by omega)]; rfl) (by rw [← getD_dig hL]; exact hne)
  rw [hb, ← getD_dig hL]
  exact congrArg iP (by omega)
 ·have hz : ∀ x, x < L.length → L.getD (L.length - 1 - x) 0 = 0 := fun x hx => by
   apply Classical.byContradiction; intro q; exact h ⟨x, hx, by simpa using q⟩
  refine (r1Bits_Z L L.length hL h1 hz rfl).res (.of_eq ?_)
  have : val L < 4294967296 ^ 0 := val_lt_of_top hL fun i _ => by
   by_cases hi2 : i < L.length
   ·have := hz (L.length - 1 - i) (by omega)
    rwa [show L.length - 1 - (L.length - 1 - i) = i by omega] at this
   ·rw [List.getD_eq_getElem?_getD, List.getElem?_eq_none (by omega)]; rfl
  have h0 : val L = 0 := by rw [Nat.pow_zero] at this; omega
  rw [h0]; rfl
open Go.RowKit Fp Pu
def r1AddF (L M : List Nat) (N : Nat) (x : Nat) : PS := ⟨41, false, [(5, .own 5), (7, .e (iP x)), (6, .e (.v (.int .u64 (((carryA (val L) (val M) x) : Nat) : Int)))), (0, .e (slP L)), (1, .e (slP M))], [(5, .row false 127 x 1 (limbEl (digs (val L + val M) x)))]⟩
def r1SubF (L M : List Nat) (x : Nat) : PS := ⟨36, false, [(5, .own 5), (7, .e (iP x)), (6, .e (.v (.int .u64 (((carryA (val L - val M) (val M) x) : Nat) : Int)))), (0, .e (slP L)), (1, .e (slP M))], [(5, .row false 127 x 1 (limbEl (digs (val L - val M) x)))]⟩
def r1ShrF (L : List Nat) (n : Nat) (x : Nat) : PS := ⟨36, false, [(5, .own 5), (6, .e (iP ((((n / 32) + x) : Nat) : Int))), (0, .e (slP L)), (1, .e (iP n))], [(5, .row false 127 x 1 (limbEl (digs (val L / 2 ^ n) x)))]⟩
def r1ShrZ (L : List Nat) (n : Nat) (x : Nat) : PS := ⟨36, false, [(5, .own 5), (6, .e (iP ((((n / 32) + x) : Nat) : Int))), (0, .e (slP L)), (1, .e (iP n))], [(5, .row false 127 x 1 (limbEl (digs 0 x)))]⟩
theorem r1Add_pc (L M : List Nat) (hL : Ok32 L) (hM : Ok32 M) (h1 : L.length ≤ 10000) (h2 : M.length ≤ 10000) : PCt 232 [(slP L), (slP M)] (slP (limbs (val L + val M))) := by
 obtain ⟨N, hN⟩ : ∃ N, N = max L.length M.length := ⟨_, rfl⟩
 have vL : val L < 4294967296 ^ N := Nat.lt_of_lt_of_le (val_lt hL) (Nat.pow_le_pow_right (by decide) (by omega))
 have vM : val M < 4294967296 ^ N := Nat.lt_of_lt_of_le (val_lt hM) (Nat.pow_le_pow_right (by decide) (by omega))
 have hcN := carryA_le (val L) (val M) N
 have hce : carryA (val L) (val M) (N + carryA (val L) (val M) N) = 0 := by
  rcases Nat.lt_or_ge 0 (carryA (val L) (val M) N) with h | h
  ·rw [show carryA (val L) (val M) N = 1 by omega]; exact carryA_top1 vL vM
  ·have h0 : carryA (val L) (val M) N = 0 := by omega
   rw [h0, Nat.add_zero]; exact h0
 have hfit : val L + val M < 4294967296 ^ (N + carryA (val L) (val M) N) := by
  have h := add_div_pw (val L) (val M) (N + carryA (val L) (val M) N)
  have g1 : val L < 4294967296 ^ (N + carryA (val L) (val M) N) := Nat.lt_of_lt_of_le vL (Nat.pow_le_pow_right (by decide) (by omega))
  have g2 : val M < 4294967296 ^ (N + carryA (val L) (val M) N) := Nat.lt_of_lt_of_le vM (Nat.pow_le_pow_right (by decide) (by omega))
  rw [hce, Nat.div_eq_of_lt g1, Nat.div_eq_of_lt g2] at h
  exact Nat.lt_of_div_eq_zero (pw _) h
 exact tr false Tryz.call232 Tryz.func232 (chain [.y 5 5 false 127 1 (limbEl (digs (val L + val M) 0)),
  .s (Sp.upto (r1AddF L M N) 0 (N + (carryA (val L) (val M) N)) (by omega) (fun x hx hltx => by
    have ha := add_dig (val L) (val M) x
    rw [← getD_dig hL, ← getD_dig hM] at ha
    have b1 := hL.getD x
    have b2 := hM.getD x
    have b3 := carryA_le (val L) (val M) x
    have b4 := dig_lt (val L + val M) x
    have hz : ((((L.getD x 0 + M.getD x 0) + (carryA (val L) (val M) x)) % 4294967296 % 4294967296 : Nat) : Int) = ((dig (val L + val M) x : Nat) : Int) := by omega
    have hq : ((L.getD x 0 + M.getD x 0) + (carryA (val L) (val M) x)) / 4294967296 = carryA (val L) (val M) (x + 1) := by omega
    by_cases hx : x < N
    ·exact spt (chain [.o 14 (.int (by rw [hN]; split <;> omega) : PV.le (.e (iP (if (M.length : Int) > (L.length : Int) then (M.length : Int) else (L.length : Int)))) (.e (iP N))),
      tT 15 ((x : Int) < (N : Int)) (by omega), .c (r1At_pc _ _ ‹_› : PCt 229 [(slP L), (iP x)] _), .c (r1At_pc _ _ ‹_› : PCt 229 [(slP M), (iP x)] _),
      ru64 ((((L.getD x 0) : Nat) : Int) + (((M.getD x 0) : Nat) : Int)) (by omega), ru64 (((((L.getD x 0) + (M.getD x 0)) : Nat) : Int) + (((carryA (val L) (val M) x) : Nat) : Int)) (by omega),
      .o 33 (.int (u64_and32 _ (by omega)) : PV.le (.e (.v (.int .u64 (bits .and .u64 (((((L.getD x 0) + (M.getD x 0)) + (carryA (val L) (val M) x)) : Nat) : Int) 4294967295)))) (.e (.v (.int .u64 ((((((L.getD x 0) + (M.getD x 0)) + (carryA (val L) (val M) x)) % 4294967296) : Nat) : Int))))),
      .o 34 (.int (u32_nat _) : PV.le (.e (.v (.int .u32 (IntKind.u32.wrap ((((((L.getD x 0) + (M.getD x 0)) + (carryA (val L) (val M) x)) % 4294967296) : Nat) : Int))))) (.e (.v (.int .u32 (((((((L.getD x 0) + (M.getD x 0)) + (carryA (val L) (val M) x)) % 4294967296) % 4294967296) : Nat) : Int))))),
      .a (by omega : (x + 1) * 4 ≤ 140737488355328), .a (by omega : 0 ≤ (32 : Int) ∧ (32 : Int) ≤ ((64 : Nat) : Int)),
      .o 38 (.int (shr32_nat _) : PV.le (.e (.v (.int .u64 ((((((L.getD x 0) + (M.getD x 0)) + (carryA (val L) (val M) x)) : Nat) : Int) / 2 ^ 32)))) (.e (.v (.int .u64 ((((((L.getD x 0) + (M.getD x 0)) + (carryA (val L) (val M) x)) / 4294967296) : Nat) : Int))))),
      r64 ((x : Int) + 1) (by omega)] <| .e (chain [.o 6 (.int (by rw [hq]) : PV.le (.e (.v (.int .u64 ((((((L.getD x 0) + (M.getD x 0)) + (carryA (val L) (val M) x)) / 4294967296) : Nat) : Int)))) (.e (.v (.int .u64 (((carryA (val L) (val M) (x + 1)) : Nat) : Int))))),
  .b 5 (limb_push rfl hz : Bx.le (.row false 127 (x + 1) 1 (fun i_ j_ => if i_ < x then (limbEl (digs (val L + val M) x)) i_ j_ else (E.elf (.sl false 1 1 fun i_ j_ => [(.v (.int .u32 (((((((L.getD x 0) + (M.getD x 0)) + (carryA (val L) (val M) x)) % 4294967296) % 4294967296) : Nat) : Int)))].getD (i_ * 1 + j_) (.v (.bool false)))) (i_ - x) j_)) (.row false 127 (x + 1) 1 (limbEl (digs (val L + val M) (x + 1)))))] <| .nil)) (by kernel_rfl)
    ·have hcx : carryA (val L) (val M) x = carryA (val L) (val M) N := by rw [show x = N by omega]
     exact spt (chain [.o 14 (.int (by rw [hN]; split <;> omega) : PV.le (.e (iP (if (M.length : Int) > (L.length : Int) then (M.length : Int) else (L.length : Int)))) (.e (iP N))),
      tF 15 ((x : Int) < (N : Int)) (by omega), tT 18 (0 < (((carryA (val L) (val M) x) : Nat) : Int)) (by omega), .c (r1At_pc _ _ ‹_› : PCt 229 [(slP L), (iP x)] _),
      .c (r1At_pc _ _ ‹_› : PCt 229 [(slP M), (iP x)] _), ru64 ((((L.getD x 0) : Nat) : Int) + (((M.getD x 0) : Nat) : Int)) (by omega),
      ru64 (((((L.getD x 0) + (M.getD x 0)) : Nat) : Int) + (((carryA (val L) (val M) x) : Nat) : Int)) (by omega),
      .o 33 (.int (u64_and32 _ (by omega)) : PV.le (.e (.v (.int .u64 (bits .and .u64 (((((L.getD x 0) + (M.getD x 0)) + (carryA (val L) (val M) x)) : Nat) : Int) 4294967295)))) (.e (.v (.int .u64 ((((((L.getD x 0) + (M.getD x 0)) + (carryA (val L) (val M) x)) % 4294967296) : Nat) : Int))))),
      .o 34 (.int (u32_nat _) : PV.le (.e (.v (.int .u32 (IntKind.u32.wrap ((((((L.getD x 0) + (M.getD x 0)) + (carryA (val L) (val M) x)) % 4294967296) : Nat) : Int))))) (.e (.v (.int .u32 (((((((L.getD x 0) + (M.getD x 0)) + (carryA (val L) (val M) x)) % 4294967296) % 4294967296) : Nat) : Int))))),
      .a (by omega : (x + 1) * 4 ≤ 140737488355328), .a (by omega : 0 ≤ (32 : Int) ∧ (32 : Int) ≤ ((64 : Nat) : Int)),
      .o 38 (.int (shr32_nat _) : PV.le (.e (.v (.int .u64 ((((((L.getD x 0) + (M.getD x 0)) + (carryA (val L) (val M) x)) : Nat) : Int) / 2 ^ 32)))) (.e (.v (.int .u64 ((((((L.getD x 0) + (M.getD x 0)) + (carryA (val L) (val M) x)) / 4294967296) : Nat) : Int))))),
      r64 ((x : Int) + 1) (by omega)] <| .e (chain [.o 6 (.int (by rw [hq]) : PV.le (.e (.v (.int .u64 ((((((L.getD x 0) + (M.getD x 0)) + (carryA (val L) (val M) x)) / 4294967296) : Nat) : Int)))) (.e (.v (.int .u64 (((carryA (val L) (val M) (x + 1)) : Nat) : Int))))),
  .b 5 (limb_push rfl hz : Bx.le (.row false 127 (x + 1) 1 (fun i_ j_ => if i_ < x then (limbEl (digs (val L + val M) x)) i_ j_ else (E.elf (.sl false 1 1 fun i_ j_ => [(.v (.int .u32 (((((((L.getD x 0) + (M.getD x 0)) + (carryA (val L) (val M) x)) % 4294967296) % 4294967296) : Nat) : Int)))].getD (i_ * 1 + j_) (.v (.bool false)))) (i_ - x) j_)) (.row false 127 (x + 1) 1 (limbEl (digs (val L + val M) (x + 1)))))] <| .nil)) (by kernel_rfl))
  (fun hx => by
    exact spt (chain [.o 14 (.int (by rw [hN]; split <;> omega) : PV.le (.e (iP (if (M.length : Int) > (L.length : Int) then (M.length : Int) else (L.length : Int)))) (.e (iP N))),
    tF 15 ((((N + (carryA (val L) (val M) N)) : Nat) : Int) < (N : Int)) (by omega), tF 18 (0 < (((carryA (val L) (val M) (N + (carryA (val L) (val M) N))) : Nat) : Int)) (by omega), .z 5] <| .e (chain [.o 5 (.e (slRow_le (digs_len _ _).symm) : PV.le (.e (.sl false (N + (carryA (val L) (val M) N)) 1 (limbEl (digs (val L + val M) (N + (carryA (val L) (val M) N)))))) (.e (slP (digs (val L + val M) (N + (carryA (val L) (val M) N))))))] <| .nil)) (by kernel_rfl)) (by nofun) : LpT 4 Tryz.f232 (r1AddF L M N 0) (.exit 0) ⟨41, false, [(5, .e (slP (digs (val L + val M) (N + (carryA (val L) (val M) N)))))], []⟩) (chain [.o 6 (.int (by rw [carryA_zero]; rfl) : PV.le (.e (.v (.int .u64 0))) (.e (.v (.int .u64 (((carryA (val L) (val M) 0) : Nat) : Int)))))] <| .nil),
  .cf (ref1Trim_pcf _ (digs_ok _ _) (by first | omega | (simp only [digs_len]; omega)) : PCFt 227 [(slP (digs (val L + val M) (N + (carryA (val L) (val M) N))))] _)] <| rQ (slP (trimL (digs (val L + val M) (N + (carryA (val L) (val M) N))))) (slP (limbs (val L + val M))) (by rw [trimL_digs hfit])) (by kernel_rfl)
theorem r1Sub_pc (L M : List Nat) (hL : Ok32 L) (hM : Ok32 M) (h1 : L.length ≤ 10000) (hle : val M ≤ val L) : PCt 248 [(slP L), (slP M)] (slP (limbs (val L - val M))) := by
 have hfit : val L - val M < 4294967296 ^ L.length := Nat.lt_of_le_of_lt (Nat.sub_le _ _) (val_lt hL)
 exact tr false Tryz.call248 Tryz.func248 (chain [.y 5 5 false 127 1 (limbEl (digs (val L - val M) 0)),
  .s (Sp.upto (r1SubF L M) 0 L.length (by omega) (fun x hx hltx => by
    have ha := sub_dig hle x
    rw [← getD_dig hL, ← getD_dig hM] at ha
    have b1 := hL.getD x
    have b2 := hM.getD x
    have b3 := carryA_le (val L - val M) (val M) x
    have b5 := carryA_le (val L - val M) (val M) (x + 1)
    have b4 := dig_lt (val L - val M) x
    have hz : (((((L.getD x 0 + 4294967296) - M.getD x 0) - (carryA (val L - val M) (val M) x)) % 4294967296 % 4294967296 : Nat) : Int) = ((dig (val L - val M) x : Nat) : Int) := by omega
    have hq : 1 - (((L.getD x 0 + 4294967296) - M.getD x 0) - (carryA (val L - val M) (val M) x)) / 4294967296 = carryA (val L - val M) (val M) (x + 1) := by omega
    exact spt (chain [tT 12 ((x : Int) < (L.length : Int)) (by omega), .c (r1At_pc _ _ ‹_› : PCt 229 [(slP L), (iP x)] _), ru64 ((((L.getD x 0) : Nat) : Int) + 4294967296) (by omega),
     .c (r1At_pc _ _ ‹_› : PCt 229 [(slP M), (iP x)] _), ru64 (((((L.getD x 0) + 4294967296) : Nat) : Int) - (((M.getD x 0) : Nat) : Int)) (by omega),
     .o 22 (.int (by omega) : PV.le (.e (.v (.int .u64 (((((L.getD x 0) + 4294967296) : Nat) : Int) - (((M.getD x 0) : Nat) : Int))))) (.e (.v (.int .u64 ((((L.getD x 0 + 4294967296) - M.getD x 0) : Nat) : Int))))),
     ru64 (((((L.getD x 0 + 4294967296) - M.getD x 0) : Nat) : Int) - (((carryA (val L - val M) (val M) x) : Nat) : Int)) (by omega),
     .o 24 (.int (by omega) : PV.le (.e (.v (.int .u64 (((((L.getD x 0 + 4294967296) - M.getD x 0) : Nat) : Int) - (((carryA (val L - val M) (val M) x) : Nat) : Int))))) (.e (.v (.int .u64 (((((L.getD x 0 + 4294967296) - M.getD x 0) - (carryA (val L - val M) (val M) x)) : Nat) : Int))))),
     .o 27 (.int (u64_and32 _ (by omega)) : PV.le (.e (.v (.int .u64 (bits .and .u64 (((((L.getD x 0 + 4294967296) - M.getD x 0) - (carryA (val L - val M) (val M) x)) : Nat) : Int) 4294967295)))) (.e (.v (.int .u64 ((((((L.getD x 0 + 4294967296) - M.getD x 0) - (carryA (val L - val M) (val M) x)) % 4294967296) : Nat) : Int))))),
     .o 28 (.int (u32_nat _) : PV.le (.e (.v (.int .u32 (IntKind.u32.wrap ((((((L.getD x 0 + 4294967296) - M.getD x 0) - (carryA (val L - val M) (val M) x)) % 4294967296) : Nat) : Int))))) (.e (.v (.int .u32 (((((((L.getD x 0 + 4294967296) - M.getD x 0) - (carryA (val L - val M) (val M) x)) % 4294967296) % 4294967296) : Nat) : Int))))),
     .a (by omega : (x + 1) * 4 ≤ 140737488355328), .a (by omega : 0 ≤ (32 : Int) ∧ (32 : Int) ≤ ((64 : Nat) : Int)),
     .o 32 (.int (shr32_nat _) : PV.le (.e (.v (.int .u64 ((((((L.getD x 0 + 4294967296) - M.getD x 0) - (carryA (val L - val M) (val M) x)) : Nat) : Int) / 2 ^ 32)))) (.e (.v (.int .u64 ((((((L.getD x 0 + 4294967296) - M.getD x 0) - (carryA (val L - val M) (val M) x)) / 4294967296) : Nat) : Int))))),
     ru64 (1 - ((((((L.getD x 0 + 4294967296) - M.getD x 0) - (carryA (val L - val M) (val M) x)) / 4294967296) : Nat) : Int)) (by omega),
     .o 33 (.int (by omega) : PV.le (.e (.v (.int .u64 (1 - ((((((L.getD x 0 + 4294967296) - M.getD x 0) - (carryA (val L - val M) (val M) x)) / 4294967296) : Nat) : Int))))) (.e (.v (.int .u64 (((1 - ((((L.getD x 0 + 4294967296) - M.getD x 0) - (carryA (val L - val M) (val M) x)) / 4294967296)) : Nat) : Int))))),
     r64 ((x : Int) + 1) (by omega)] <| .e (chain [.o 6 (.int (by rw [hq]) : PV.le (.e (.v (.int .u64 (((1 - ((((L.getD x 0 + 4294967296) - M.getD x 0) - (carryA (val L - val M) (val M) x)) / 4294967296)) : Nat) : Int)))) (.e (.v (.int .u64 (((carryA (val L - val M) (val M) (x + 1)) : Nat) : Int))))),
  .b 5 (limb_push rfl hz : Bx.le (.row false 127 (x + 1) 1 (fun i_ j_ => if i_ < x then (limbEl (digs (val L - val M) x)) i_ j_ else (E.elf (.sl false 1 1 fun i_ j_ => [(.v (.int .u32 (((((((L.getD x 0 + 4294967296) - M.getD x 0) - (carryA (val L - val M) (val M) x)) % 4294967296) % 4294967296) : Nat) : Int)))].getD (i_ * 1 + j_) (.v (.bool false)))) (i_ - x) j_)) (.row false 127 (x + 1) 1 (limbEl (digs (val L - val M) (x + 1)))))] <| .nil)) (by kernel_rfl))
  (fun hx => by
    exact spt (chain [tF 12 ((L.length : Int) < (L.length : Int)) (by omega), .z 5] <| .e (chain [.o 5 (.e (slRow_le (digs_len _ _).symm) : PV.le (.e (.sl false L.length 1 (limbEl (digs (val L - val M) L.length)))) (.e (slP (digs (val L - val M) L.length))))] <| .nil)) (by kernel_rfl)) (by nofun) : LpT 4 Tryz.f248 (r1SubF L M 0) (.exit 0) ⟨36, false, [(5, .e (slP (digs (val L - val M) L.length)))], []⟩) (chain [.o 6 (.int (by rw [carryA_zero]; rfl) : PV.le (.e (.v (.int .u64 0))) (.e (.v (.int .u64 (((carryA (val L - val M) (val M) 0) : Nat) : Int)))))] <| .nil),
  .cf (ref1Trim_pcf _ (digs_ok _ _) (by first | omega | (simp only [digs_len]; omega)) : PCFt 227 [(slP (digs (val L - val M) L.length))] _)] <| rQ (slP (trimL (digs (val L - val M) L.length))) (slP (limbs (val L - val M))) (by rw [trimL_digs hfit])) (by kernel_rfl)
theorem r1Shr_pc (L : List Nat) (n : Nat) (hL : Ok32 L) (h1 : L.length ≤ 10000) (hn : n ≤ 1000000) : PCt 230 [(slP L), (iP n)] (slP (limbs (val L / 2 ^ n))) := by
 have hfit : val L / 2 ^ n < 4294967296 ^ (L.length - n / 32) := by
  rw [Nat.div_lt_iff_lt_mul (Nat.pow_pos (by decide))]
  by_cases h : n / 32 ≤ L.length
  ·refine Nat.lt_of_lt_of_le (val_lt hL) ?_
   rw [pow32, pow32, ← Nat.pow_add]
   exact Nat.pow_le_pow_right (by decide) (by omega)
  ·rw [show L.length - n / 32 = 0 by omega, Nat.pow_zero, Nat.one_mul]
   refine Nat.lt_of_lt_of_le (val_lt hL) ?_
   rw [pow32]
   exact Nat.pow_le_pow_right (by decide) (by omega)
 by_cases hnl : n / 32 ≤ L.length
 ·exact tr false Tryz.call230 Tryz.func230 (chain [.a (by omega : 0 ≤ ((n : Int) : Int) ∧ 0 < (32 : Int)), r64 ((n : Int)) (by omega), .y 5 5 false 127 1 (limbEl (digs (val L / 2 ^ n) 0)),
   .s (Sp.upto (r1ShrF L n) 0 (L.length - n / 32) (by omega) (fun x hx hltx => by
    have b1 := hL.getD ((n / 32) + x)
    have b2 := hL.getD (((n / 32) + x) + 1)
    have b3 : (L.getD ((n / 32) + x) 0 + (L.getD (((n / 32) + x) + 1) 0 * 4294967296)) / 2 ^ (n % 32) ≤ (L.getD ((n / 32) + x) 0 + (L.getD (((n / 32) + x) + 1) 0 * 4294967296)) := Nat.div_le_self _ _
    have hz : (((L.getD ((n / 32) + x) 0 + (L.getD (((n / 32) + x) + 1) 0 * 4294967296)) / 2 ^ (n % 32) % 4294967296 % 4294967296 : Nat) : Int) = ((dig (val L / 2 ^ n) x : Nat) : Int) := by
     rw [Nat.mod_mod, shr_dig, ← getD_dig hL, ← getD_dig hL, Nat.add_comm x, Nat.mul_comm 4294967296]
    exact spt (chain [tT 13 (((((n / 32) + x) : Nat) : Int) < (L.length : Int)) (by omega), .c (r1At_pc _ _ ‹_› : PCt 229 [(slP L), (iP ((((n / 32) + x) : Nat) : Int))] _), r64 (((((n / 32) + x) : Nat) : Int) + 1) (by omega),
     .c (r1At_pc _ _ ‹_› : PCt 229 [(slP L), (iP (((((n / 32) + x) + 1) : Nat) : Int))] _), .a (by omega : 0 ≤ (32 : Int) ∧ (32 : Int) ≤ ((64 : Nat) : Int)),
     .o 23 (.int (shl32_nat _ (by omega)) : PV.le (.e (.v (.int .u64 (IntKind.u64.wrap ((((L.getD (((n / 32) + x) + 1) 0) : Nat) : Int) * 2 ^ 32))))) (.e (.v (.int .u64 (((L.getD (((n / 32) + x) + 1) 0 * 4294967296) : Nat) : Int))))),
     ru64 ((((L.getD ((n / 32) + x) 0) : Nat) : Int) + (((L.getD (((n / 32) + x) + 1) 0 * 4294967296) : Nat) : Int)) (by omega), .a (by omega : 0 ≤ ((n : Int) : Int) ∧ 0 < (32 : Int)),
     .a (by omega : 0 ≤ ((((n % 32) : Nat) : Int) : Int) ∧ ((((n % 32) : Nat) : Int) : Int) ≤ ((64 : Nat) : Int)),
     .o 29 (.int (shr_nat _ _) : PV.le (.e (.v (.int .u64 (((((L.getD ((n / 32) + x) 0) + (L.getD (((n / 32) + x) + 1) 0 * 4294967296)) : Nat) : Int) / 2 ^ (n % 32))))) (.e (.v (.int .u64 (((((L.getD ((n / 32) + x) 0) + (L.getD (((n / 32) + x) + 1) 0 * 4294967296)) / 2 ^ (n % 32)) : Nat) : Int))))),
     .o 30 (.int (u64_and32 _ (by omega)) : PV.le (.e (.v (.int .u64 (bits .and .u64 (((((L.getD ((n / 32) + x) 0) + (L.getD (((n / 32) + x) + 1) 0 * 4294967296)) / 2 ^ (n % 32)) : Nat) : Int) 4294967295)))) (.e (.v (.int .u64 ((((((L.getD ((n / 32) + x) 0) + (L.getD (((n / 32) + x) + 1) 0 * 4294967296)) / 2 ^ (n % 32)) % 4294967296) : Nat) : Int))))),
     .o 31 (.int (u32_nat _) : PV.le (.e (.v (.int .u32 (IntKind.u32.wrap ((((((L.getD ((n / 32) + x) 0) + (L.getD (((n / 32) + x) + 1) 0 * 4294967296)) / 2 ^ (n % 32)) % 4294967296) : Nat) : Int))))) (.e (.v (.int .u32 (((((((L.getD ((n / 32) + x) 0) + (L.getD (((n / 32) + x) + 1) 0 * 4294967296)) / 2 ^ (n % 32)) % 4294967296) % 4294967296) : Nat) : Int))))),
     .a (by omega : (x + 1) * 4 ≤ 140737488355328), r64 (((((n / 32) + x) : Nat) : Int) + 1) (by omega)] <| .e (chain [.o 6 (.int (by first | rfl | omega | (simp only [Nat.add_mul, Nat.one_mul]; omega)) : PV.le (.e (iP (((((n / 32) + x) + 1) : Nat) : Int))) (.e (iP ((((n / 32) + (x + 1)) : Nat) : Int)))),
  .b 5 (limb_push rfl hz : Bx.le (.row false 127 (x + 1) 1 (fun i_ j_ => if i_ < x then (limbEl (digs (val L / 2 ^ n) x)) i_ j_ else (E.elf (.sl false 1 1 fun i_ j_ => [(.v (.int .u32 (((((((L.getD ((n / 32) + x) 0) + (L.getD (((n / 32) + x) + 1) 0 * 4294967296)) / 2 ^ (n % 32)) % 4294967296) % 4294967296) : Nat) : Int)))].getD (i_ * 1 + j_) (.v (.bool false)))) (i_ - x) j_)) (.row false 127 (x + 1) 1 (limbEl (digs (val L / 2 ^ n) (x + 1)))))] <| .nil)) (by kernel_rfl))
  (fun hx => by
    exact spt (chain [tF 13 (((((n / 32) + (L.length - n / 32)) : Nat) : Int) < (L.length : Int)) (by omega), .z 5] <| .e (chain [.o 5 (.e (slRow_le (digs_len _ _).symm) : PV.le (.e (.sl false (L.length - n / 32) 1 (limbEl (digs (val L / 2 ^ n) (L.length - n / 32))))) (.e (slP (digs (val L / 2 ^ n) (L.length - n / 32)))))] <| .nil)) (by kernel_rfl)) (by nofun) : LpT 3 Tryz.f230 (r1ShrF L n 0) (.exit 0) ⟨36, false, [(5, .e (slP (digs (val L / 2 ^ n) (L.length - n / 32))))], []⟩) (chain [.o 6 (.int (by first | rfl | omega | (simp only [Nat.add_mul, Nat.one_mul]; omega)) : PV.le (.e (iP (((n / 32) : Nat) : Int))) (.e (iP ((((n / 32) + 0) : Nat) : Int))))] <| .nil),
   .cf (ref1Trim_pcf _ (digs_ok _ _) (by first | omega | (simp only [digs_len]; omega)) : PCFt 227 [(slP (digs (val L / 2 ^ n) (L.length - n / 32)))] _)] <| rQ (slP (trimL (digs (val L / 2 ^ n) (L.length - n / 32)))) (slP (limbs (val L / 2 ^ n))) (by rw [trimL_digs hfit])) (by kernel_rfl)
 ·have h0 : val L / 2 ^ n = 0 := by rw [show L.length - n / 32 = 0 by omega, Nat.pow_zero] at hfit; exact Nat.lt_one_iff.1 hfit
  rw [h0]
  exact tr false Tryz.call230 Tryz.func230 (chain [.a (by omega : 0 ≤ ((n : Int) : Int) ∧ 0 < (32 : Int)), r64 ((n : Int)) (by omega), .y 5 5 false 127 1 (limbEl (digs 0 0)),
   .s (Sp.upto (r1ShrZ L n) 0 0 (by omega) (fun x hx hltx => by
    omega)
  (fun hx => by
    exact spt (chain [tF 13 (((((n / 32) + 0) : Nat) : Int) < (L.length : Int)) (by omega), .z 5] <| .e (chain [.o 5 (.e (slRow_le (digs_len _ _).symm) : PV.le (.e (.sl false 0 1 (limbEl (digs 0 0)))) (.e (slP (digs 0 0))))] <| .nil)) (by kernel_rfl)) (by nofun) : LpT 3 Tryz.f230 (r1ShrZ L n 0) (.exit 0) ⟨36, false, [(5, .e (slP (digs 0 0)))], []⟩) (chain [.o 6 (.int (by first | rfl | omega | (simp only [Nat.add_mul, Nat.one_mul]; omega)) : PV.le (.e (iP (((n / 32) : Nat) : Int))) (.e (iP ((((n / 32) + 0) : Nat) : Int))))] <| .nil),
   .cf (ref1Trim_pcf _ (digs_ok _ _) (by first | omega | (simp only [digs_len]; omega)) : PCFt 227 [(slP (digs 0 0))] _)] <| rQ (slP (trimL (digs 0 0))) (slP (limbs 0)) (by rw [trimL_digs (by decide)])) (by kernel_rfl)
end Go.Proofs.YtdppllbbgfekaaaGreatDoor
namespace Go.Proofs.YtdppllbbgfekaaaGreatDoor.Fp
end Go.Proofs.YtdppllbbgfekaaaGreatDoor.Fp
namespace Go.Proofs.YtdppllbbgfekaaaGreatDoor
open Go.RowKit Fp Pu
theorem or_low (o r a : Nat) (hr : r < 32) (ho : o < 2 ^ r) : bits .or .u32 (o : Int) ((a * 2 ^ r % 4294967296 % 4294967296 : Nat) : Int) = ((o + a * 2 ^ r % 4294967296 : Nat) : Int) := by
 have h3 : (4294967296 : Nat) = 2 ^ r * 2 ^ (32 - r) := by rw [← Nat.pow_add, show r + (32 - r) = 32 by omega]
 have h31 : 2 ^ r ≤ 2 ^ 31 := Nat.pow_le_pow_right (by decide) (by omega)
 have h31' : (2 : Nat) ^ 31 = 2147483648 := by decide
 have e2 : a * 2 ^ r % 4294967296 = (a % 2 ^ (32 - r)) * 2 ^ r := by
  rw [Nat.mul_comm]
  conv => lhs; rhs; rw [h3]
  rw [Nat.mul_mod_mul_left, Nat.mul_comm]
 rw [Nat.mod_mod, u32_or_nat _ _ (by omega) (Nat.mod_lt _ (by decide)), e2, or_add _ _ _ ho]
theorem shl_pow_nat (a r : Nat) (ha : a < 4294967296) (hr : r < 32) : IntKind.u64.wrap ((a : Int) * 2 ^ r) = ((a * 2 ^ r : Nat) : Int) := by
 have h31 : 2 ^ r ≤ 2 ^ 31 := Nat.pow_le_pow_right (by decide) (by omega)
 have h31' : (2 : Nat) ^ 31 = 2147483648 := by decide
 have h2 : a * 2 ^ r ≤ 4294967295 * 2147483648 := Nat.mul_le_mul (by omega) (by omega)
 have e : (a : Int) * 2 ^ r = ((a * 2 ^ r : Nat) : Int) := by simp
 rw [e]
 exact u64_nat _ (by omega)
theorem shl_le {a r : Nat} (ha : a < 4294967296) (hr : r < 32) : a * 2 ^ r ≤ 9223372034707292160 := by
 have h31 : 2 ^ r ≤ 2 ^ 31 := Nat.pow_le_pow_right (by decide) (by omega)
 have h31' : (2 : Nat) ^ 31 = 2147483648 := by decide
 have h2 : a * 2 ^ r ≤ 4294967295 * 2147483648 := Nat.mul_le_mul (by omega) (by omega)
 omega
theorem row_set2 {T n n' p q : Nat} {L L' : List Nat} {z y : Nat} (hn : n = n') (hp : p < L.length) (hq : q < L.length) (hs : (L.set p z).set q y = L') :
  Bx.le (.row false T n 1 fun i' j' => if i' = q ∧ 0 ≤ j' ∧ j' < 0 + 1 then [.v (.int .u32 ((y : Nat) : Int))].getD (j' - 0) .any else (fun i' j' => if i' = p ∧ 0 ≤ j' ∧ j' < 0 + 1 then [.v (.int .u32 ((z : Nat) : Int))].getD (j' - 0) .any else (limbEl L) i' j') i' j') (.row false T n' 1 (limbEl L')) := by
 subst hs
 refine .row hn fun i j _ hj => ?_
 obtain rfl : j = 0 := by omega
 refine ⟨.of_eq ?_, rfl⟩
 by_cases h1 : i = q
 ·subst h1
  rw [if_pos ⟨rfl, by omega, by omega⟩]
  show E.v (.int .u32 ((y : Nat) : Int)) = E.v (.int .u32 ((((L.set p z).set i y).getD i 0 : Nat) : Int))
  rw [Fp.getD_set_eq (by rw [List.length_set]; exact hq)]
 ·rw [if_neg (fun k => h1 k.1)]
  by_cases h : i = p
  ·subst h
   show (if i = i ∧ 0 ≤ 0 ∧ 0 < 0 + 1 then _ else _) = E.v (.int .u32 ((((L.set i z).set q y).getD i 0 : Nat) : Int))
   rw [if_pos ⟨rfl, by omega, by omega⟩, Fp.getD_set_ne (fun k => h1 k.symm), Fp.getD_set_eq hp]
   rfl
  ·show (if i = p ∧ 0 ≤ 0 ∧ 0 < 0 + 1 then _ else E.v (.int .u32 ((L.getD i 0 : Nat) : Int))) = E.v (.int .u32 ((((L.set p z).set q y).getD i 0 : Nat) : Int))
   rw [if_neg (fun k => h k.1), Fp.getD_set_ne (fun k => h1 k.symm), Fp.getD_set_ne (fun k => h k.symm)]
open Go.RowKit Fp Pu
def r1ShlF (L : List Nat) (n : Nat) (x : Nat) : PS := ⟨60, false, [(6, .e (iP x)), (5, .own 16), (0, .e (slP (trimL L))), (1, .e (iP n))], [(16, .row false 127 (n / 32 + (trimL L).length + 1) 1 (limbEl (digs ((val ((trimL L).take x)) * 2 ^ n) (n / 32 + (trimL L).length + 1))))]⟩
theorem r1Shl_pc (L : List Nat) (n : Nat) (hL : Ok32 L) (h1 : L.length ≤ 10000) (hn : n ≤ 1000000) : PCt 191 [(slP L), (iP n)] (slP (limbs (val L * 2 ^ n))) := by
 have tl := tlen_le L
 unfold tlen at tl
 have hfit : val ((trimL L).take (trimL L).length) * 2 ^ n < 4294967296 ^ (n / 32 + (trimL L).length + 1) := by
  rw [List.take_length, Nat.add_assoc, Nat.pow_add, Nat.mul_comm]
  have h1 := val_lt hL.trimL
  have h2 : 2 ^ n ≤ 4294967296 ^ (n / 32) * 4294967296 := by
   rw [pow32, show (4294967296 : Nat) = 2 ^ 32 by rfl, ← Nat.pow_add]
   exact Nat.pow_le_pow_right (by decide) (by omega)
  rw [Nat.pow_succ, Nat.mul_left_comm, Nat.mul_comm]
  refine Nat.mul_lt_mul_of_lt_of_le h1 h2 (by exact Nat.mul_pos (pw _) (by decide))
 exact tr false Tryz.call191 Tryz.func191 (chain [.cf (ref1Trim_pcf _ ‹_› (by first | omega | (simp only [digs_len]; omega)) : PCFt 227 [(slP L)] _), .a (by omega : 0 ≤ ((n : Int) : Int) ∧ 0 < (32 : Int)), r64 ((n : Int)) (by omega),
  r64 ((((n / 32) : Nat) : Int) + (((trimL L).length : Nat) : Int)) (by omega), r64 (((((n / 32) + (trimL L).length) : Nat) : Int) + 1) (by omega),
  .a (by omega : 0 ≤ ((((((n / 32) + (trimL L).length) + 1) : Nat) : Int) : Int) ∧ ((((((n / 32) + (trimL L).length) + 1) : Nat) : Int) : Int) ≤ ((((((n / 32) + (trimL L).length) + 1) : Nat) : Int) : Int)),
  .a (by omega : ((4 : Nat) : Int) * (((((n / 32) + (trimL L).length) + 1) : Nat) : Int) ≤ 281474976710656 ∧ ((((((n / 32) + (trimL L).length) + 1) : Nat) : Int) : Int) ≤ 9223372036854775807),
  .s (Sp.upto (r1ShlF L n) 0 ((trimL L).length) (by omega) (fun x hx hltx => by
    have hax := hL.trimL.getD x
    have hr : n % 32 < 32 := Nat.mod_lt _ (by decide)
    have hlt : (val ((trimL L).take x)) < 4294967296 ^ x := by
     have := val_lt (hL.trimL.take x)
     rw [List.length_take, Nat.min_eq_left (by omega)] at this
     exact this
    obtain ⟨ho, hset⟩ := shl_row (n := n) hax (O := (digs ((val ((trimL L).take x)) * 2 ^ n) (n / 32 + (trimL L).length + 1))) rfl hlt (m := (n / 32 + (trimL L).length + 1)) (by omega)
    rw [← val_take_getD] at hset
    have hu : (((trimL L).getD x 0) * 2 ^ (n % 32)) / 4294967296 < 4294967296 := by
     have := shl_le hax hr
     omega
    rw [← Nat.mod_eq_of_lt hu] at hset
    exact spt (chain [tT 20 ((x : Int) < (((trimL L).length : Nat) : Int)) (by omega), iX ((x : Int)) ((trimL L).length) (by omega),
     .o 27 (.int (u64_nat _ (by omega)) : PV.le (.e (.v (.int .u64 (IntKind.u64.wrap ((((trimL L).getD x 0) : Nat) : Int))))) (.e (.v (.int .u64 ((((trimL L).getD x 0) : Nat) : Int))))),
     .a (by omega : 0 ≤ ((n : Int) : Int) ∧ 0 < (32 : Int)), .a (by omega : 0 ≤ ((((n % 32) : Nat) : Int) : Int) ∧ ((((n % 32) : Nat) : Int) : Int) ≤ ((64 : Nat) : Int)),
     .o 30 (.int (shl_pow_nat _ _ hax hr) : PV.le (.e (.v (.int .u64 (IntKind.u64.wrap (((((trimL L).getD x 0) : Nat) : Int) * 2 ^ (n % 32)))))) (.e (.v (.int .u64 (((((trimL L).getD x 0) * 2 ^ (n % 32)) : Nat) : Int))))),
     .a (by omega : 0 ≤ ((n : Int) : Int) ∧ 0 < (32 : Int)), r64 ((n : Int)) (by omega), r64 ((x : Int) + (((n / 32) : Nat) : Int)) (by omega), .a (by omega : 0 ≤ ((n : Int) : Int) ∧ 0 < (32 : Int)),
     r64 ((n : Int)) (by omega), r64 ((x : Int) + (((n / 32) : Nat) : Int)) (by omega), iX ((((x + (n / 32)) : Nat) : Int)) ((n / 32 + (trimL L).length + 1)) (by omega),
     .a (by omega : (x + (n / 32)) < (n / 32 + (trimL L).length + 1)),
     .o 44 (.int (u64_and32 _ (by omega)) : PV.le (.e (.v (.int .u64 (bits .and .u64 (((((trimL L).getD x 0) * 2 ^ (n % 32)) : Nat) : Int) 4294967295)))) (.e (.v (.int .u64 ((((((trimL L).getD x 0) * 2 ^ (n % 32)) % 4294967296) : Nat) : Int))))),
     .o 45 (.int (u32_nat _) : PV.le (.e (.v (.int .u32 (IntKind.u32.wrap ((((((trimL L).getD x 0) * 2 ^ (n % 32)) % 4294967296) : Nat) : Int))))) (.e (.v (.int .u32 (((((((trimL L).getD x 0) * 2 ^ (n % 32)) % 4294967296) % 4294967296) : Nat) : Int))))),
     .o 46 (.int (or_low _ _ _ hr ho) : PV.le (.e (.v (.int .u32 (bits .or .u32 ((((digs ((val ((trimL L).take x)) * 2 ^ n) (n / 32 + (trimL L).length + 1)).getD (x + (n / 32)) 0) : Nat) : Int) (((((((trimL L).getD x 0) * 2 ^ (n % 32)) % 4294967296) % 4294967296) : Nat) : Int))))) (.e (.v (.int .u32 (((((digs ((val ((trimL L).take x)) * 2 ^ n) (n / 32 + (trimL L).length + 1)).getD (x + (n / 32)) 0) + ((((trimL L).getD x 0) * 2 ^ (n % 32)) % 4294967296)) : Nat) : Int))))),
     iX ((((x + (n / 32)) : Nat) : Int)) ((n / 32 + (trimL L).length + 1)) (by omega), .a (by omega : (x + (n / 32)) < (n / 32 + (trimL L).length + 1)), .a (by omega : 0 ≤ ((n : Int) : Int) ∧ 0 < (32 : Int)),
     r64 ((n : Int)) (by omega), r64 ((x : Int) + (((n / 32) : Nat) : Int)) (by omega), r64 ((((x + (n / 32)) : Nat) : Int) + 1) (by omega), .a (by omega : 0 ≤ (32 : Int) ∧ (32 : Int) ≤ ((64 : Nat) : Int)),
     .o 55 (.int (shr32_nat _) : PV.le (.e (.v (.int .u64 ((((((trimL L).getD x 0) * 2 ^ (n % 32)) : Nat) : Int) / 2 ^ 32)))) (.e (.v (.int .u64 ((((((trimL L).getD x 0) * 2 ^ (n % 32)) / 4294967296) : Nat) : Int))))),
     .o 56 (.int (u32_nat _) : PV.le (.e (.v (.int .u32 (IntKind.u32.wrap ((((((trimL L).getD x 0) * 2 ^ (n % 32)) / 4294967296) : Nat) : Int))))) (.e (.v (.int .u32 (((((((trimL L).getD x 0) * 2 ^ (n % 32)) / 4294967296) % 4294967296) : Nat) : Int))))),
     iX (((((x + (n / 32)) + 1) : Nat) : Int)) ((n / 32 + (trimL L).length + 1)) (by omega), .a (by omega : ((x + (n / 32)) + 1) < (n / 32 + (trimL L).length + 1)), r64 ((x : Int) + 1) (by omega)] <| .e (chain [.b 16 (row_set2 rfl (by rw [digs_len]; omega) (by rw [digs_len]; omega) hset : Bx.le (.row false 127 (n / 32 + (trimL L).length + 1) 1 (fun i' j' => if i' = ((x + (n / 32)) + 1) ∧ 0 ≤ j' ∧ j' < 0 + 1 then [(.v (.int .u32 (((((((trimL L).getD x 0) * 2 ^ (n % 32)) / 4294967296) % 4294967296) : Nat) : Int)))].getD (j' - 0) .any else (fun i' j' => if i' = (x + (n / 32)) ∧ 0 ≤ j' ∧ j' < 0 + 1 then [(.v (.int .u32 (((((digs ((val ((trimL L).take x)) * 2 ^ n) (n / 32 + (trimL L).length + 1)).getD (x + (n / 32)) 0) + ((((trimL L).getD x 0) * 2 ^ (n % 32)) % 4294967296)) : Nat) : Int)))].getD (j' - 0) .any else (limbEl (digs ((val ((trimL L).take x)) * 2 ^ n) (n / 32 + (trimL L).length + 1))) i' j') i' j')) (.row false 127 (n / 32 + (trimL L).length + 1) 1 (limbEl (digs ((val ((trimL L).take (x + 1))) * 2 ^ n) (n / 32 + (trimL L).length + 1)))))] <| .nil)) (by kernel_rfl))
  (fun hx => by
    exact spt (chain [tF 20 ((((trimL L).length : Nat) : Int) < (((trimL L).length : Nat) : Int)) (by omega), .z 16] <| .e (chain [.o 5 (.e (slRow_le (digs_len _ _).symm) : PV.le (.e (.sl false (n / 32 + (trimL L).length + 1) 1 (limbEl (digs ((val ((trimL L).take (trimL L).length)) * 2 ^ n) (n / 32 + (trimL L).length + 1))))) (.e (slP (digs ((val ((trimL L).take (trimL L).length)) * 2 ^ n) (n / 32 + (trimL L).length + 1)))))] <| .nil)) (by kernel_rfl)) (by nofun) : LpT 4 Tryz.f191 (r1ShlF L n 0) (.exit 0) ⟨60, false, [(5, .e (slP (digs ((val ((trimL L).take (trimL L).length)) * 2 ^ n) (n / 32 + (trimL L).length + 1))))], []⟩) (chain [.b 16 (row_zero (by omega) (fun i => by rw [show val (List.take 0 (trimL L)) = 0 from rfl, Nat.zero_mul, digs0_getD]) : Bx.le (.row false 127 (((n / 32) + (trimL L).length) + 1) 1 (fun _ j_ => [(.v (.int .u32 0))].getD j_ .any)) (.row false 127 (n / 32 + (trimL L).length + 1) 1 (limbEl (digs ((val ((trimL L).take 0)) * 2 ^ n) (n / 32 + (trimL L).length + 1)))))] <| .nil),
  .cf (ref1Trim_pcf _ (digs_ok _ _) (by first | omega | (simp only [digs_len]; omega)) : PCFt 227 [(slP (digs ((val ((trimL L).take (trimL L).length)) * 2 ^ n) (n / 32 + (trimL L).length + 1)))] _)] <| rQ (slP (trimL (digs ((val ((trimL L).take (trimL L).length)) * 2 ^ n) (n / 32 + (trimL L).length + 1)))) (slP (limbs (val L * 2 ^ n))) (by rw [trimL_digs hfit, List.take_length, val_trimL])) (by kernel_rfl)
open Go.RowKit Fp Pu
open Go.RowKit Fp Pu
theorem r1TrimM (m : Nat) (h : (limbs m).length ≤ 10000) : PCt 227 [slP (limbs m)] (slP (limbs m)) := by
 have := (ref1Trim_pcf (limbs m) (ok_limbs m) (by omega)).pc
 rwa [show trimL (limbs m) = limbs m from trim_limbs m] at this
theorem r1BitsM (m : Nat) (h : (limbs m).length ≤ 10000) : PCt 189 [slP (limbs m)] (iP (bitsN m)) := by
 have := r1Bits_pc (limbs m) (ok_limbs m) (by omega)
 rwa [val_limbs] at this
theorem r1CmpM (m n : Nat) (h : (limbs m).length ≤ 10000) (k : (limbs n).length ≤ 10000) : PCt 231 [slP (limbs m), slP (limbs n)] (iP (cmpN m n)) := by
 have := r1Cmp_pc (limbs m) (limbs n) (ok_limbs m) (ok_limbs n) (by omega) (by omega)
 rwa [val_limbs, val_limbs] at this
theorem r1AddM (m n : Nat) (h : (limbs m).length ≤ 10000) (k : (limbs n).length ≤ 10000) : PCt 232 [slP (limbs m), slP (limbs n)] (slP (limbs (m + n))) := by
 have := r1Add_pc (limbs m) (limbs n) (ok_limbs m) (ok_limbs n) (by omega) (by omega)
 rwa [val_limbs, val_limbs] at this
theorem r1SubM (m n : Nat) (h : (limbs m).length ≤ 10000) (k : n ≤ m) : PCt 248 [slP (limbs m), slP (limbs n)] (slP (limbs (m - n))) := by
 have := r1Sub_pc (limbs m) (limbs n) (ok_limbs m) (ok_limbs n) (by omega) (by rw [val_limbs, val_limbs]; exact k)
 rwa [val_limbs, val_limbs] at this
theorem r1ShlM (m n : Nat) (h : (limbs m).length ≤ 10000) (k : n ≤ 1000000) : PCt 191 [slP (limbs m), iP (n : Int)] (slP (limbs (m * 2 ^ n))) := by
 have := r1Shl_pc (limbs m) n (ok_limbs m) (by omega) (by omega)
 rwa [val_limbs] at this
theorem r1ShrM (m n : Nat) (h : (limbs m).length ≤ 10000) (k : n ≤ 1000000) : PCt 230 [slP (limbs m), iP (n : Int)] (slP (limbs (m / 2 ^ n))) := by
 have := r1Shr_pc (limbs m) n (ok_limbs m) (by omega) (by omega)
 rwa [val_limbs] at this
theorem r3Greatest_pc (neg : Bool) (p : Nat) (hp1 : 8 ≤ p) (hp2 : p ≤ 512) : PCt 233 [(bP neg), (iP p)] (dyP (canon neg (2 ^ p - 1) (16384 - (p : Int)))) := by
 have g0 : bitsN (1 * 2 ^ p) = p + 1 := by rw [Nat.one_mul]; exact bitsN_eq (Nat.le_refl _) (Nat.pow_lt_pow_right (by decide) (by omega))
 have g1 : (limbs 1).length ≤ 256 := limbs_of_bits (by decide)
 have g2 : (limbs (1 * 2 ^ p)).length ≤ 256 := limbs_of_bits (by omega)
 have g4 : 1 ≤ 1 * 2 ^ p := by rw [Nat.one_mul]; exact Nat.pow_pos (by decide)
 have g3 : (limbs ((1 * 2 ^ p) - 1)).length ≤ 256 := limbs_of_bits (by have := bitsN_mono (Nat.sub_le (1 * 2 ^ p) 1); omega)
 exact tr true Tryz.call233 Tryz.func233 (chain [.o 6 (.e one_le : PV.le (.e (.sl false 1 1 fun i_ j_ => [(.v (.int .u32 1))].getD (i_ * 1 + j_) (.v (.bool false)))) (.e (slP (limbs 1)))), .c (r1ShlM _ _ (by omega) (by omega) : PCt 191 [(slP (limbs 1)), (iP p)] _),
  .o 9 (.e one_le : PV.le (.e (.sl false 1 1 fun i_ j_ => [(.v (.int .u32 1))].getD (i_ * 1 + j_) (.v (.bool false)))) (.e (slP (limbs 1)))),
  .c (r1SubM _ _ (by omega) ‹_› : PCt 248 [(slP (limbs (1 * 2 ^ p))), (slP (limbs 1))] _), r64 (16384 - (p : Int)) (by omega),
  .c (refOf_pc _ _ _ (by omega) (by omega) (by omega) : PCt 155 [(bP neg), (slP (limbs ((1 * 2 ^ p) - 1))), (iP (16384 - (p : Int)))] _)] <| rQ (dyP (canon neg ((1 * 2 ^ p) - 1) (16384 - (p : Int)))) (dyP (canon neg (2 ^ p - 1) (16384 - (p : Int)))) (by rw [Nat.one_mul])) (by kernel_rfl)
set_option maxHeartbeats 4000000 in
theorem r3Cut_pc (neg : Bool) (m : Nat) (e : Int) (more : Bool) (p : Nat) (up : Bool) (h1 : (limbs m).length ≤ 2900) (he1 : -200000 ≤ e) (he2 : e ≤ 200000) (hp1 : 8 ≤ p) (hp2 : p ≤ 512) : PCt 192 [(bP neg), (slP (limbs m)), (iP e), (bP more), (iP p), (bP up)] (.tup [dyP (cutD neg m e more p up), iP (cutE neg m e more p up)]) := by
 have hb := bits_of_limbs h1
 have hk1 : cutK m e p ≤ 1000000 := by unfold cutK; omega
 have hk2 : (cutK m e p : Int) ≤ max (bitsN m : Int) (-16384 - e) := by unfold cutK; omega
 have g1 := limbs_len_mono (Nat.div_le_self m (2 ^ cutK m e p))
 have g2 := limbs_len_mono (Nat.div_mul_le_self m (2 ^ cutK m e p))
 have l1 : (limbs 1).length ≤ 256 := limbs_of_bits (by decide)
 have g3 : (limbs ((m / 2 ^ cutK m e p) + 1)).length ≤ 2901 := limbs_add_len (by omega) (by omega)
 have g4 := bits_of_limbs g3
 have g5 := bits_of_limbs (m := m / 2 ^ cutK m e p) (Nat.le_trans g1 h1)
 exact tr true Tryz.call192 Tryz.func192 (chain [.c (r1TrimM _ (by omega) : PCt 227 [(slP (limbs m))] _), .c (r1BitsM _ (by omega) : PCt 189 [(slP (limbs m))] _), r64 ((((bitsN m) : Nat) : Int) - (p : Int)) (by omega), r64 ((-16384) - e) (by omega),
  .o 27 (.int (by unfold cutK; (repeat' split) <;> omega) : PV.le (.e (iP (if 0 > (if ((-16384) - e) > ((((bitsN m) : Nat) : Int) - (p : Int)) then ((-16384) - e) else ((((bitsN m) : Nat) : Int) - (p : Int))) then 0 else (if ((-16384) - e) > ((((bitsN m) : Nat) : Int) - (p : Int)) then ((-16384) - e) else ((((bitsN m) : Nat) : Int) - (p : Int)))))) (.e (iP (((cutK m e p) : Nat) : Int)))),
  .c (r1ShrM _ _ (by omega) (by omega) : PCt 230 [(slP (limbs m)), (iP (((cutK m e p) : Nat) : Int))] _)] <| .w (0 < (((cutK m e p) : Nat) : Int))
  (fun k1 => chain [tB 32 (decide_eq_true k1), .c (r1ShlM _ _ (by omega) (by omega) : PCt 191 [(slP (limbs (m / 2 ^ (cutK m e p)))), (iP (((cutK m e p) : Nat) : Int))] _),
   .c (r1CmpM _ _ (by omega) (by omega) : PCt 231 [(slP (limbs ((m / 2 ^ (cutK m e p)) * 2 ^ (cutK m e p)))), (slP (limbs m))] _)] <| .w ((cmpN ((m / 2 ^ (cutK m e p)) * 2 ^ (cutK m e p)) m) = 0)
   (fun k2 => by
    have hlo : m % 2 ^ (cutK m e p) = 0 := (lost_iff _ _).1 k2
    exact chain [tB 39 (bne_eq_false_iff_eq.2 k2)] <| .w (more = true)
     (fun k3 => .w (neg = up)
      (fun k4 => chain [tB 43 (bnt (beq_iff_eq.2 k4)), tB 44 (k3), .c (r1BitsM _ (by omega) : PCt 189 [(slP (limbs (m / 2 ^ (cutK m e p))))] _)] <| .w (0 < (((bitsN (m / 2 ^ (cutK m e p))) : Nat) : Int))
       (fun k5 => chain [tB 53 (decide_eq_true k5), .c (r1BitsM _ (by omega) : PCt 189 [(slP (limbs (m / 2 ^ (cutK m e p))))] _), r64 ((((bitsN (m / 2 ^ (cutK m e p))) : Nat) : Int) + e) (by omega),
        r64 (((((bitsN (m / 2 ^ (cutK m e p))) : Nat) : Int) + e) + (((cutK m e p) : Nat) : Int)) (by omega)] <| .w (16384 < (((((bitsN (m / 2 ^ (cutK m e p))) : Nat) : Int) + e) + (((cutK m e p) : Nat) : Int)))
        (fun k6 => chain [tB 61 (decide_eq_true k6), .c (r3Greatest_pc _ _ (by omega) (by omega) : PCt 233 [(bP neg), (iP p)] _)] <| rR (.tup [dyP (cutD neg m e more p up), iP (cutE neg m e more p up)]) (by
      have hq : cutQ m e more p (neg != up) = (m / 2 ^ (cutK m e p)) := by unfold cutQ; simp [k3, k4, hlo]
      have h0 : (m / 2 ^ (cutK m e p)) ≠ 0 := by intro h; rw [h] at k5; exact absurd k5 (by decide)
      obtain ⟨g1, g2⟩ := (cut_over (e := e) hq h0 (by omega)).2 (by rw [k4]; simp)
      exact .of_eq (by rw [g1, g2]) : E.le (.tup [(dyP (canon neg (2 ^ p - 1) (16384 - (p : Int)))), (iP 0)]) (.tup [dyP (cutD neg m e more p up), iP (cutE neg m e more p up)])))
        (fun k6 => chain [tB 61 (decide_eq_false k6), r64 (e + (((cutK m e p) : Nat) : Int)) (by omega), .c (refOf_pc _ _ _ (by omega) (by omega) (by omega) : PCt 155 [(bP neg), (slP (limbs (m / 2 ^ (cutK m e p)))), (iP (e + (((cutK m e p) : Nat) : Int)))] _)] <| rR (.tup [dyP (cutD neg m e more p up), iP (cutE neg m e more p up)]) (by
      have hq : cutQ m e more p (neg != up) = (m / 2 ^ (cutK m e p)) := by unfold cutQ; simp [k3, k4, hlo]
      obtain ⟨g1, g2⟩ := cut_in (e := e) hq (.inr (by omega))
      exact .of_eq (by rw [g1, g2]) : E.le (.tup [(dyP (canon neg (m / 2 ^ (cutK m e p)) (e + (((cutK m e p) : Nat) : Int)))), (iP 0)]) (.tup [dyP (cutD neg m e more p up), iP (cutE neg m e more p up)]))))
       (fun k5 => chain [tB 53 (decide_eq_false k5), r64 (e + (((cutK m e p) : Nat) : Int)) (by omega), .c (refOf_pc _ _ _ (by omega) (by omega) (by omega) : PCt 155 [(bP neg), (slP (limbs (m / 2 ^ (cutK m e p)))), (iP (e + (((cutK m e p) : Nat) : Int)))] _)] <| rR (.tup [dyP (cutD neg m e more p up), iP (cutE neg m e more p up)]) (by
      have hq : cutQ m e more p (neg != up) = (m / 2 ^ (cutK m e p)) := by unfold cutQ; simp [k3, k4, hlo]
      have h0 : (m / 2 ^ (cutK m e p)) = 0 := by
       apply Classical.byContradiction; intro h; have := bitsN_pos h; omega
      obtain ⟨g1, g2⟩ := cut_in (e := e) hq (.inl h0)
      exact .of_eq (by rw [g1, g2]) : E.le (.tup [(dyP (canon neg (m / 2 ^ (cutK m e p)) (e + (((cutK m e p) : Nat) : Int)))), (iP 0)]) (.tup [dyP (cutD neg m e more p up), iP (cutE neg m e more p up)]))))
      (fun k4 => chain [tB 43 (bnf (beq_eq_false_iff_ne.2 k4)), tB 44 (k3), .o 49 (.e one_le : PV.le (.e (.sl false 1 1 fun i_ j_ => [(.v (.int .u32 1))].getD (i_ * 1 + j_) (.v (.bool false)))) (.e (slP (limbs 1)))),
       .c (r1AddM _ _ (by omega) (by omega) : PCt 232 [(slP (limbs (m / 2 ^ (cutK m e p)))), (slP (limbs 1))] _), .c (r1BitsM _ (by omega) : PCt 189 [(slP (limbs ((m / 2 ^ (cutK m e p)) + 1)))] _)] <| .w (0 < (((bitsN ((m / 2 ^ (cutK m e p)) + 1)) : Nat) : Int))
       (fun k5 => chain [tB 53 (decide_eq_true k5), .c (r1BitsM _ (by omega) : PCt 189 [(slP (limbs ((m / 2 ^ (cutK m e p)) + 1)))] _), r64 ((((bitsN ((m / 2 ^ (cutK m e p)) + 1)) : Nat) : Int) + e) (by omega),
        r64 (((((bitsN ((m / 2 ^ (cutK m e p)) + 1)) : Nat) : Int) + e) + (((cutK m e p) : Nat) : Int)) (by omega)] <| .w (16384 < (((((bitsN ((m / 2 ^ (cutK m e p)) + 1)) : Nat) : Int) + e) + (((cutK m e p) : Nat) : Int)))
        (fun k6 => chain [tB 61 (decide_eq_true k6), .o 64 (.e zeroP_le : PV.le (.e (.agg [(bP false), (.v (.slice none 0 0)), (iP 0)])) (.e (dyP zeroD)))] <| rR (.tup [dyP (cutD neg m e more p up), iP (cutE neg m e more p up)]) (by
      have hq : cutQ m e more p (neg != up) = ((m / 2 ^ (cutK m e p)) + 1) := by unfold cutQ; simp [k3, k4, hlo]
      have h0 : ((m / 2 ^ (cutK m e p)) + 1) ≠ 0 := by intro h; rw [h] at k5; exact absurd k5 (by decide)
      obtain ⟨g1, g2⟩ := (cut_over (e := e) hq h0 (by omega)).1 (bne_iff_ne.2 k4)
      exact .of_eq (by rw [g1, g2]) : E.le (.tup [(dyP zeroD), (iP 9)]) (.tup [dyP (cutD neg m e more p up), iP (cutE neg m e more p up)])))
        (fun k6 => chain [tB 61 (decide_eq_false k6), r64 (e + (((cutK m e p) : Nat) : Int)) (by omega), .c (refOf_pc _ _ _ (by omega) (by omega) (by omega) : PCt 155 [(bP neg), (slP (limbs ((m / 2 ^ (cutK m e p)) + 1))), (iP (e + (((cutK m e p) : Nat) : Int)))] _)] <| rR (.tup [dyP (cutD neg m e more p up), iP (cutE neg m e more p up)]) (by
      have hq : cutQ m e more p (neg != up) = ((m / 2 ^ (cutK m e p)) + 1) := by unfold cutQ; simp [k3, k4, hlo]
      obtain ⟨g1, g2⟩ := cut_in (e := e) hq (.inr (by omega))
      exact .of_eq (by rw [g1, g2]) : E.le (.tup [(dyP (canon neg ((m / 2 ^ (cutK m e p)) + 1) (e + (((cutK m e p) : Nat) : Int)))), (iP 0)]) (.tup [dyP (cutD neg m e more p up), iP (cutE neg m e more p up)]))))
       (fun k5 => chain [tB 53 (decide_eq_false k5), r64 (e + (((cutK m e p) : Nat) : Int)) (by omega), .c (refOf_pc _ _ _ (by omega) (by omega) (by omega) : PCt 155 [(bP neg), (slP (limbs ((m / 2 ^ (cutK m e p)) + 1))), (iP (e + (((cutK m e p) : Nat) : Int)))] _)] <| rR (.tup [dyP (cutD neg m e more p up), iP (cutE neg m e more p up)]) (by
      have hq : cutQ m e more p (neg != up) = ((m / 2 ^ (cutK m e p)) + 1) := by unfold cutQ; simp [k3, k4, hlo]
      have h0 : ((m / 2 ^ (cutK m e p)) + 1) = 0 := by
       apply Classical.byContradiction; intro h; have := bitsN_pos h; omega
      obtain ⟨g1, g2⟩ := cut_in (e := e) hq (.inl h0)
      exact .of_eq (by rw [g1, g2]) : E.le (.tup [(dyP (canon neg ((m / 2 ^ (cutK m e p)) + 1) (e + (((cutK m e p) : Nat) : Int)))), (iP 0)]) (.tup [dyP (cutD neg m e more p up), iP (cutE neg m e more p up)])))))
     (fun k3 => .w (0 < (((bitsN (m / 2 ^ (cutK m e p))) : Nat) : Int))
      (fun k4 => .w (16384 < (((((bitsN (m / 2 ^ (cutK m e p))) : Nat) : Int) + e) + (((cutK m e p) : Nat) : Int)))
       (fun k5 => .w (neg = up)
        (fun k6 => chain [tB 43 (bnt (beq_iff_eq.2 k6)), tB 44 (Bool.eq_false_iff.2 k3), .c (r1BitsM _ (by omega) : PCt 189 [(slP (limbs (m / 2 ^ (cutK m e p))))] _), tB 53 (decide_eq_true k4),
         .c (r1BitsM _ (by omega) : PCt 189 [(slP (limbs (m / 2 ^ (cutK m e p))))] _), r64 ((((bitsN (m / 2 ^ (cutK m e p))) : Nat) : Int) + e) (by omega),
         r64 (((((bitsN (m / 2 ^ (cutK m e p))) : Nat) : Int) + e) + (((cutK m e p) : Nat) : Int)) (by omega), tB 61 (decide_eq_true k5), .c (r3Greatest_pc _ _ (by omega) (by omega) : PCt 233 [(bP neg), (iP p)] _)] <| rR (.tup [dyP (cutD neg m e more p up), iP (cutE neg m e more p up)]) (by
      have hq : cutQ m e more p (neg != up) = (m / 2 ^ (cutK m e p)) := by unfold cutQ; simp [k3, k6, hlo]
      have h0 : (m / 2 ^ (cutK m e p)) ≠ 0 := by intro h; rw [h] at k4; exact absurd k4 (by decide)
      obtain ⟨g1, g2⟩ := (cut_over (e := e) hq h0 (by omega)).2 (by rw [k6]; simp)
      exact .of_eq (by rw [g1, g2]) : E.le (.tup [(dyP (canon neg (2 ^ p - 1) (16384 - (p : Int)))), (iP 0)]) (.tup [dyP (cutD neg m e more p up), iP (cutE neg m e more p up)])))
        (fun k6 => chain [tB 43 (bnf (beq_eq_false_iff_ne.2 k6)), tB 44 (Bool.eq_false_iff.2 k3), .c (r1BitsM _ (by omega) : PCt 189 [(slP (limbs (m / 2 ^ (cutK m e p))))] _), tB 53 (decide_eq_true k4),
         .c (r1BitsM _ (by omega) : PCt 189 [(slP (limbs (m / 2 ^ (cutK m e p))))] _), r64 ((((bitsN (m / 2 ^ (cutK m e p))) : Nat) : Int) + e) (by omega),
         r64 (((((bitsN (m / 2 ^ (cutK m e p))) : Nat) : Int) + e) + (((cutK m e p) : Nat) : Int)) (by omega), tB 61 (decide_eq_true k5), .o 64 (.e zeroP_le : PV.le (.e (.agg [(bP false), (.v (.slice none 0 0)), (iP 0)])) (.e (dyP zeroD)))] <| rR (.tup [dyP (cutD neg m e more p up), iP (cutE neg m e more p up)]) (by
      have hq : cutQ m e more p (neg != up) = (m / 2 ^ (cutK m e p)) := by unfold cutQ; simp [k3, k6, hlo]
      have h0 : (m / 2 ^ (cutK m e p)) ≠ 0 := by intro h; rw [h] at k4; exact absurd k4 (by decide)
      obtain ⟨g1, g2⟩ := (cut_over (e := e) hq h0 (by omega)).1 (bne_iff_ne.2 k6)
      exact .of_eq (by rw [g1, g2]) : E.le (.tup [(dyP zeroD), (iP 9)]) (.tup [dyP (cutD neg m e more p up), iP (cutE neg m e more p up)]))))
       (fun k5 => chain [tB 44 (Bool.eq_false_iff.2 k3), .c (r1BitsM _ (by omega) : PCt 189 [(slP (limbs (m / 2 ^ (cutK m e p))))] _), tB 53 (decide_eq_true k4), .c (r1BitsM _ (by omega) : PCt 189 [(slP (limbs (m / 2 ^ (cutK m e p))))] _),
        r64 ((((bitsN (m / 2 ^ (cutK m e p))) : Nat) : Int) + e) (by omega), r64 (((((bitsN (m / 2 ^ (cutK m e p))) : Nat) : Int) + e) + (((cutK m e p) : Nat) : Int)) (by omega), tB 61 (decide_eq_false k5),
        r64 (e + (((cutK m e p) : Nat) : Int)) (by omega), .c (refOf_pc _ _ _ (by omega) (by omega) (by omega) : PCt 155 [(bP neg), (slP (limbs (m / 2 ^ (cutK m e p)))), (iP (e + (((cutK m e p) : Nat) : Int)))] _)] <| rR (.tup [dyP (cutD neg m e more p up), iP (cutE neg m e more p up)]) (by
      have hq : cutQ m e more p (neg != up) = (m / 2 ^ (cutK m e p)) := by unfold cutQ; simp [k3, hlo]
      obtain ⟨g1, g2⟩ := cut_in (e := e) hq (.inr (by omega))
      exact .of_eq (by rw [g1, g2]) : E.le (.tup [(dyP (canon neg (m / 2 ^ (cutK m e p)) (e + (((cutK m e p) : Nat) : Int)))), (iP 0)]) (.tup [dyP (cutD neg m e more p up), iP (cutE neg m e more p up)]))))
      (fun k4 => chain [tB 44 (Bool.eq_false_iff.2 k3), .c (r1BitsM _ (by omega) : PCt 189 [(slP (limbs (m / 2 ^ (cutK m e p))))] _), tB 53 (decide_eq_false k4), r64 (e + (((cutK m e p) : Nat) : Int)) (by omega),
       .c (refOf_pc _ _ _ (by omega) (by omega) (by omega) : PCt 155 [(bP neg), (slP (limbs (m / 2 ^ (cutK m e p)))), (iP (e + (((cutK m e p) : Nat) : Int)))] _)] <| rR (.tup [dyP (cutD neg m e more p up), iP (cutE neg m e more p up)]) (by
      have hq : cutQ m e more p (neg != up) = (m / 2 ^ (cutK m e p)) := by unfold cutQ; simp [k3, hlo]
      have h0 : (m / 2 ^ (cutK m e p)) = 0 := by
       apply Classical.byContradiction; intro h; have := bitsN_pos h; omega
      obtain ⟨g1, g2⟩ := cut_in (e := e) hq (.inl h0)
      exact .of_eq (by rw [g1, g2]) : E.le (.tup [(dyP (canon neg (m / 2 ^ (cutK m e p)) (e + (((cutK m e p) : Nat) : Int)))), (iP 0)]) (.tup [dyP (cutD neg m e more p up), iP (cutE neg m e more p up)])))))
   (fun k2 => by
    have hlo : m % 2 ^ (cutK m e p) ≠ 0 := fun h => k2 ((lost_iff _ _).2 h)
    exact chain [tB 39 (bne_iff_ne.2 k2)] <| .w (neg = up)
     (fun k3 => chain [tB 43 (bnt (beq_iff_eq.2 k3)), .c (r1BitsM _ (by omega) : PCt 189 [(slP (limbs (m / 2 ^ (cutK m e p))))] _)] <| .w (0 < (((bitsN (m / 2 ^ (cutK m e p))) : Nat) : Int))
      (fun k4 => chain [tB 53 (decide_eq_true k4), .c (r1BitsM _ (by omega) : PCt 189 [(slP (limbs (m / 2 ^ (cutK m e p))))] _), r64 ((((bitsN (m / 2 ^ (cutK m e p))) : Nat) : Int) + e) (by omega),
       r64 (((((bitsN (m / 2 ^ (cutK m e p))) : Nat) : Int) + e) + (((cutK m e p) : Nat) : Int)) (by omega)] <| .w (16384 < (((((bitsN (m / 2 ^ (cutK m e p))) : Nat) : Int) + e) + (((cutK m e p) : Nat) : Int)))
       (fun k5 => chain [tB 61 (decide_eq_true k5), .c (r3Greatest_pc _ _ (by omega) (by omega) : PCt 233 [(bP neg), (iP p)] _)] <| rR (.tup [dyP (cutD neg m e more p up), iP (cutE neg m e more p up)]) (by
      have hq : cutQ m e more p (neg != up) = (m / 2 ^ (cutK m e p)) := by unfold cutQ; simp [k3, hlo]
      have h0 : (m / 2 ^ (cutK m e p)) ≠ 0 := by intro h; rw [h] at k4; exact absurd k4 (by decide)
      obtain ⟨g1, g2⟩ := (cut_over (e := e) hq h0 (by omega)).2 (by rw [k3]; simp)
      exact .of_eq (by rw [g1, g2]) : E.le (.tup [(dyP (canon neg (2 ^ p - 1) (16384 - (p : Int)))), (iP 0)]) (.tup [dyP (cutD neg m e more p up), iP (cutE neg m e more p up)])))
       (fun k5 => chain [tB 61 (decide_eq_false k5), r64 (e + (((cutK m e p) : Nat) : Int)) (by omega), .c (refOf_pc _ _ _ (by omega) (by omega) (by omega) : PCt 155 [(bP neg), (slP (limbs (m / 2 ^ (cutK m e p)))), (iP (e + (((cutK m e p) : Nat) : Int)))] _)] <| rR (.tup [dyP (cutD neg m e more p up), iP (cutE neg m e more p up)]) (by
      have hq : cutQ m e more p (neg != up) = (m / 2 ^ (cutK m e p)) := by unfold cutQ; simp [k3, hlo]
      obtain ⟨g1, g2⟩ := cut_in (e := e) hq (.inr (by omega))
      exact .of_eq (by rw [g1, g2]) : E.le (.tup [(dyP (canon neg (m / 2 ^ (cutK m e p)) (e + (((cutK m e p) : Nat) : Int)))), (iP 0)]) (.tup [dyP (cutD neg m e more p up), iP (cutE neg m e more p up)]))))
      (fun k4 => chain [tB 53 (decide_eq_false k4), r64 (e + (((cutK m e p) : Nat) : Int)) (by omega), .c (refOf_pc _ _ _ (by omega) (by omega) (by omega) : PCt 155 [(bP neg), (slP (limbs (m / 2 ^ (cutK m e p)))), (iP (e + (((cutK m e p) : Nat) : Int)))] _)] <| rR (.tup [dyP (cutD neg m e more p up), iP (cutE neg m e more p up)]) (by
      have hq : cutQ m e more p (neg != up) = (m / 2 ^ (cutK m e p)) := by unfold cutQ; simp [k3, hlo]
      have h0 : (m / 2 ^ (cutK m e p)) = 0 := by
       apply Classical.byContradiction; intro h; have := bitsN_pos h; omega
      obtain ⟨g1, g2⟩ := cut_in (e := e) hq (.inl h0)
      exact .of_eq (by rw [g1, g2]) : E.le (.tup [(dyP (canon neg (m / 2 ^ (cutK m e p)) (e + (((cutK m e p) : Nat) : Int)))), (iP 0)]) (.tup [dyP (cutD neg m e more p up), iP (cutE neg m e more p up)]))))
     (fun k3 => chain [tB 43 (bnf (beq_eq_false_iff_ne.2 k3)), .o 49 (.e one_le : PV.le (.e (.sl false 1 1 fun i_ j_ => [(.v (.int .u32 1))].getD (i_ * 1 + j_) (.v (.bool false)))) (.e (slP (limbs 1)))),
      .c (r1AddM _ _ (by omega) (by omega) : PCt 232 [(slP (limbs (m / 2 ^ (cutK m e p)))), (slP (limbs 1))] _), .c (r1BitsM _ (by omega) : PCt 189 [(slP (limbs ((m / 2 ^ (cutK m e p)) + 1)))] _)] <| .w (0 < (((bitsN ((m / 2 ^ (cutK m e p)) + 1)) : Nat) : Int))
      (fun k4 => chain [tB 53 (decide_eq_true k4), .c (r1BitsM _ (by omega) : PCt 189 [(slP (limbs ((m / 2 ^ (cutK m e p)) + 1)))] _), r64 ((((bitsN ((m / 2 ^ (cutK m e p)) + 1)) : Nat) : Int) + e) (by omega),
       r64 (((((bitsN ((m / 2 ^ (cutK m e p)) + 1)) : Nat) : Int) + e) + (((cutK m e p) : Nat) : Int)) (by omega)] <| .w (16384 < (((((bitsN ((m / 2 ^ (cutK m e p)) + 1)) : Nat) : Int) + e) + (((cutK m e p) : Nat) : Int)))
       (fun k5 => chain [tB 61 (decide_eq_true k5), .o 64 (.e zeroP_le : PV.le (.e (.agg [(bP false), (.v (.slice none 0 0)), (iP 0)])) (.e (dyP zeroD)))] <| rR (.tup [dyP (cutD neg m e more p up), iP (cutE neg m e more p up)]) (by
      have hq : cutQ m e more p (neg != up) = ((m / 2 ^ (cutK m e p)) + 1) := by unfold cutQ; simp [k3, hlo]
      have h0 : ((m / 2 ^ (cutK m e p)) + 1) ≠ 0 := by intro h; rw [h] at k4; exact absurd k4 (by decide)
      obtain ⟨g1, g2⟩ := (cut_over (e := e) hq h0 (by omega)).1 (bne_iff_ne.2 k3)
      exact .of_eq (by rw [g1, g2]) : E.le (.tup [(dyP zeroD), (iP 9)]) (.tup [dyP (cutD neg m e more p up), iP (cutE neg m e more p up)])))
       (fun k5 => chain [tB 61 (decide_eq_false k5), r64 (e + (((cutK m e p) : Nat) : Int)) (by omega), .c (refOf_pc _ _ _ (by omega) (by omega) (by omega) : PCt 155 [(bP neg), (slP (limbs ((m / 2 ^ (cutK m e p)) + 1))), (iP (e + (((cutK m e p) : Nat) : Int)))] _)] <| rR (.tup [dyP (cutD neg m e more p up), iP (cutE neg m e more p up)]) (by
      have hq : cutQ m e more p (neg != up) = ((m / 2 ^ (cutK m e p)) + 1) := by unfold cutQ; simp [k3, hlo]
      obtain ⟨g1, g2⟩ := cut_in (e := e) hq (.inr (by omega))
      exact .of_eq (by rw [g1, g2]) : E.le (.tup [(dyP (canon neg ((m / 2 ^ (cutK m e p)) + 1) (e + (((cutK m e p) : Nat) : Int)))), (iP 0)]) (.tup [dyP (cutD neg m e more p up), iP (cutE neg m e more p up)]))))
      (fun k4 => chain [tB 53 (decide_eq_false k4), r64 (e + (((cutK m e p) : Nat) : Int)) (by omega), .c (refOf_pc _ _ _ (by omega) (by omega) (by omega) : PCt 155 [(bP neg), (slP (limbs ((m / 2 ^ (cutK m e p)) + 1))), (iP (e + (((cutK m e p) : Nat) : Int)))] _)] <| rR (.tup [dyP (cutD neg m e more p up), iP (cutE neg m e more p up)]) (by
      have hq : cutQ m e more p (neg != up) = ((m / 2 ^ (cutK m e p)) + 1) := by unfold cutQ; simp [k3, hlo]
      have h0 : ((m / 2 ^ (cutK m e p)) + 1) = 0 := by
       apply Classical.byContradiction; intro h; have := bitsN_pos h; omega
      obtain ⟨g1, g2⟩ := cut_in (e := e) hq (.inl h0)
      exact .of_eq (by rw [g1, g2]) : E.le (.tup [(dyP (canon neg ((m / 2 ^ (cutK m e p)) + 1) (e + (((cutK m e p) : Nat) : Int)))), (iP 0)]) (.tup [dyP (cutD neg m e more p up), iP (cutE neg m e more p up)]))))))
  (fun k1 => by
   have hlo : m % 2 ^ (cutK m e p) = 0 := by rw [show (cutK m e p) = 0 by omega, Nat.pow_zero, Nat.mod_one]
   exact chain [tB 32 (decide_eq_false k1)] <| .w (more = true)
    (fun k2 => .w (neg = up)
     (fun k3 => chain [tB 43 (bnt (beq_iff_eq.2 k3)), tB 44 (k2), .c (r1BitsM _ (by omega) : PCt 189 [(slP (limbs (m / 2 ^ (cutK m e p))))] _)] <| .w (0 < (((bitsN (m / 2 ^ (cutK m e p))) : Nat) : Int))
      (fun k4 => chain [tB 53 (decide_eq_true k4), .c (r1BitsM _ (by omega) : PCt 189 [(slP (limbs (m / 2 ^ (cutK m e p))))] _), r64 ((((bitsN (m / 2 ^ (cutK m e p))) : Nat) : Int) + e) (by omega),
       r64 (((((bitsN (m / 2 ^ (cutK m e p))) : Nat) : Int) + e) + (((cutK m e p) : Nat) : Int)) (by omega)] <| .w (16384 < (((((bitsN (m / 2 ^ (cutK m e p))) : Nat) : Int) + e) + (((cutK m e p) : Nat) : Int)))
       (fun k5 => chain [tB 61 (decide_eq_true k5), .c (r3Greatest_pc _ _ (by omega) (by omega) : PCt 233 [(bP neg), (iP p)] _)] <| rR (.tup [dyP (cutD neg m e more p up), iP (cutE neg m e more p up)]) (by
      have hq : cutQ m e more p (neg != up) = (m / 2 ^ (cutK m e p)) := by unfold cutQ; simp [k2, k3, hlo]
      have h0 : (m / 2 ^ (cutK m e p)) ≠ 0 := by intro h; rw [h] at k4; exact absurd k4 (by decide)
      obtain ⟨g1, g2⟩ := (cut_over (e := e) hq h0 (by omega)).2 (by rw [k3]; simp)
      exact .of_eq (by rw [g1, g2]) : E.le (.tup [(dyP (canon neg (2 ^ p - 1) (16384 - (p : Int)))), (iP 0)]) (.tup [dyP (cutD neg m e more p up), iP (cutE neg m e more p up)])))
       (fun k5 => chain [tB 61 (decide_eq_false k5), r64 (e + (((cutK m e p) : Nat) : Int)) (by omega), .c (refOf_pc _ _ _ (by omega) (by omega) (by omega) : PCt 155 [(bP neg), (slP (limbs (m / 2 ^ (cutK m e p)))), (iP (e + (((cutK m e p) : Nat) : Int)))] _)] <| rR (.tup [dyP (cutD neg m e more p up), iP (cutE neg m e more p up)]) (by
      have hq : cutQ m e more p (neg != up) = (m / 2 ^ (cutK m e p)) := by unfold cutQ; simp [k2, k3, hlo]
      obtain ⟨g1, g2⟩ := cut_in (e := e) hq (.inr (by omega))
      exact .of_eq (by rw [g1, g2]) : E.le (.tup [(dyP (canon neg (m / 2 ^ (cutK m e p)) (e + (((cutK m e p) : Nat) : Int)))), (iP 0)]) (.tup [dyP (cutD neg m e more p up), iP (cutE neg m e more p up)]))))
      (fun k4 => chain [tB 53 (decide_eq_false k4), r64 (e + (((cutK m e p) : Nat) : Int)) (by omega), .c (refOf_pc _ _ _ (by omega) (by omega) (by omega) : PCt 155 [(bP neg), (slP (limbs (m / 2 ^ (cutK m e p)))), (iP (e + (((cutK m e p) : Nat) : Int)))] _)] <| rR (.tup [dyP (cutD neg m e more p up), iP (cutE neg m e more p up)]) (by
      have hq : cutQ m e more p (neg != up) = (m / 2 ^ (cutK m e p)) := by unfold cutQ; simp [k2, k3, hlo]
      have h0 : (m / 2 ^ (cutK m e p)) = 0 := by
       apply Classical.byContradiction; intro h; have := bitsN_pos h; omega
      obtain ⟨g1, g2⟩ := cut_in (e := e) hq (.inl h0)
      exact .of_eq (by rw [g1, g2]) : E.le (.tup [(dyP (canon neg (m / 2 ^ (cutK m e p)) (e + (((cutK m e p) : Nat) : Int)))), (iP 0)]) (.tup [dyP (cutD neg m e more p up), iP (cutE neg m e more p up)]))))
     (fun k3 => chain [tB 43 (bnf (beq_eq_false_iff_ne.2 k3)), tB 44 (k2), .o 49 (.e one_le : PV.le (.e (.sl false 1 1 fun i_ j_ => [(.v (.int .u32 1))].getD (i_ * 1 + j_) (.v (.bool false)))) (.e (slP (limbs 1)))),
      .c (r1AddM _ _ (by omega) (by omega) : PCt 232 [(slP (limbs (m / 2 ^ (cutK m e p)))), (slP (limbs 1))] _), .c (r1BitsM _ (by omega) : PCt 189 [(slP (limbs ((m / 2 ^ (cutK m e p)) + 1)))] _)] <| .w (0 < (((bitsN ((m / 2 ^ (cutK m e p)) + 1)) : Nat) : Int))
      (fun k4 => chain [tB 53 (decide_eq_true k4), .c (r1BitsM _ (by omega) : PCt 189 [(slP (limbs ((m / 2 ^ (cutK m e p)) + 1)))] _), r64 ((((bitsN ((m / 2 ^ (cutK m e p)) + 1)) : Nat) : Int) + e) (by omega),
       r64 (((((bitsN ((m / 2 ^ (cutK m e p)) + 1)) : Nat) : Int) + e) + (((cutK m e p) : Nat) : Int)) (by omega)] <| .w (16384 < (((((bitsN ((m / 2 ^ (cutK m e p)) + 1)) : Nat) : Int) + e) + (((cutK m e p) : Nat) : Int)))
       (fun k5 => chain [tB 61 (decide_eq_true k5), .o 64 (.e zeroP_le : PV.le (.e (.agg [(bP false), (.v (.slice none 0 0)), (iP 0)])) (.e (dyP zeroD)))] <| rR (.tup [dyP (cutD neg m e more p up), iP (cutE neg m e more p up)]) (by
      have hq : cutQ m e more p (neg != up) = ((m / 2 ^ (cutK m e p)) + 1) := by unfold cutQ; simp [k2, k3, hlo]
      have h0 : ((m / 2 ^ (cutK m e p)) + 1) ≠ 0 := by intro h; rw [h] at k4; exact absurd k4 (by decide)
      obtain ⟨g1, g2⟩ := (cut_over (e := e) hq h0 (by omega)).1 (bne_iff_ne.2 k3)
      exact .of_eq (by rw [g1, g2]) : E.le (.tup [(dyP zeroD), (iP 9)]) (.tup [dyP (cutD neg m e more p up), iP (cutE neg m e more p up)])))
       (fun k5 => chain [tB 61 (decide_eq_false k5), r64 (e + (((cutK m e p) : Nat) : Int)) (by omega), .c (refOf_pc _ _ _ (by omega) (by omega) (by omega) : PCt 155 [(bP neg), (slP (limbs ((m / 2 ^ (cutK m e p)) + 1))), (iP (e + (((cutK m e p) : Nat) : Int)))] _)] <| rR (.tup [dyP (cutD neg m e more p up), iP (cutE neg m e more p up)]) (by
      have hq : cutQ m e more p (neg != up) = ((m / 2 ^ (cutK m e p)) + 1) := by unfold cutQ; simp [k2, k3, hlo]
      obtain ⟨g1, g2⟩ := cut_in (e := e) hq (.inr (by omega))
      exact .of_eq (by rw [g1, g2]) : E.le (.tup [(dyP (canon neg ((m / 2 ^ (cutK m e p)) + 1) (e + (((cutK m e p) : Nat) : Int)))), (iP 0)]) (.tup [dyP (cutD neg m e more p up), iP (cutE neg m e more p up)]))))
      (fun k4 => chain [tB 53 (decide_eq_false k4), r64 (e + (((cutK m e p) : Nat) : Int)) (by omega), .c (refOf_pc _ _ _ (by omega) (by omega) (by omega) : PCt 155 [(bP neg), (slP (limbs ((m / 2 ^ (cutK m e p)) + 1))), (iP (e + (((cutK m e p) : Nat) : Int)))] _)] <| rR (.tup [dyP (cutD neg m e more p up), iP (cutE neg m e more p up)]) (by
      have hq : cutQ m e more p (neg != up) = ((m / 2 ^ (cutK m e p)) + 1) := by unfold cutQ; simp [k2, k3, hlo]
      have h0 : ((m / 2 ^ (cutK m e p)) + 1) = 0 := by
       apply Classical.byContradiction; intro h; have := bitsN_pos h; omega
      obtain ⟨g1, g2⟩ := cut_in (e := e) hq (.inl h0)
      exact .of_eq (by rw [g1, g2]) : E.le (.tup [(dyP (canon neg ((m / 2 ^ (cutK m e p)) + 1) (e + (((cutK m e p) : Nat) : Int)))), (iP 0)]) (.tup [dyP (cutD neg m e more p up), iP (cutE neg m e more p up)])))))
    (fun k2 => .w (0 < (((bitsN (m / 2 ^ (cutK m e p))) : Nat) : Int))
     (fun k3 => .w (16384 < (((((bitsN (m / 2 ^ (cutK m e p))) : Nat) : Int) + e) + (((cutK m e p) : Nat) : Int)))
      (fun k4 => .w (neg = up)
       (fun k5 => chain [tB 43 (bnt (beq_iff_eq.2 k5)), tB 44 (Bool.eq_false_iff.2 k2), .c (r1BitsM _ (by omega) : PCt 189 [(slP (limbs (m / 2 ^ (cutK m e p))))] _), tB 53 (decide_eq_true k3),
        .c (r1BitsM _ (by omega) : PCt 189 [(slP (limbs (m / 2 ^ (cutK m e p))))] _), r64 ((((bitsN (m / 2 ^ (cutK m e p))) : Nat) : Int) + e) (by omega),
        r64 (((((bitsN (m / 2 ^ (cutK m e p))) : Nat) : Int) + e) + (((cutK m e p) : Nat) : Int)) (by omega), tB 61 (decide_eq_true k4), .c (r3Greatest_pc _ _ (by omega) (by omega) : PCt 233 [(bP neg), (iP p)] _)] <| rR (.tup [dyP (cutD neg m e more p up), iP (cutE neg m e more p up)]) (by
      have hq : cutQ m e more p (neg != up) = (m / 2 ^ (cutK m e p)) := by unfold cutQ; simp [k2, k5, hlo]
      have h0 : (m / 2 ^ (cutK m e p)) ≠ 0 := by intro h; rw [h] at k3; exact absurd k3 (by decide)
      obtain ⟨g1, g2⟩ := (cut_over (e := e) hq h0 (by omega)).2 (by rw [k5]; simp)
      exact .of_eq (by rw [g1, g2]) : E.le (.tup [(dyP (canon neg (2 ^ p - 1) (16384 - (p : Int)))), (iP 0)]) (.tup [dyP (cutD neg m e more p up), iP (cutE neg m e more p up)])))
       (fun k5 => chain [tB 43 (bnf (beq_eq_false_iff_ne.2 k5)), tB 44 (Bool.eq_false_iff.2 k2), .c (r1BitsM _ (by omega) : PCt 189 [(slP (limbs (m / 2 ^ (cutK m e p))))] _), tB 53 (decide_eq_true k3),
        .c (r1BitsM _ (by omega) : PCt 189 [(slP (limbs (m / 2 ^ (cutK m e p))))] _), r64 ((((bitsN (m / 2 ^ (cutK m e p))) : Nat) : Int) + e) (by omega),
        r64 (((((bitsN (m / 2 ^ (cutK m e p))) : Nat) : Int) + e) + (((cutK m e p) : Nat) : Int)) (by omega), tB 61 (decide_eq_true k4), .o 64 (.e zeroP_le : PV.le (.e (.agg [(bP false), (.v (.slice none 0 0)), (iP 0)])) (.e (dyP zeroD)))] <| rR (.tup [dyP (cutD neg m e more p up), iP (cutE neg m e more p up)]) (by
      have hq : cutQ m e more p (neg != up) = (m / 2 ^ (cutK m e p)) := by unfold cutQ; simp [k2, k5, hlo]
      have h0 : (m / 2 ^ (cutK m e p)) ≠ 0 := by intro h; rw [h] at k3; exact absurd k3 (by decide)
      obtain ⟨g1, g2⟩ := (cut_over (e := e) hq h0 (by omega)).1 (bne_iff_ne.2 k5)
      exact .of_eq (by rw [g1, g2]) : E.le (.tup [(dyP zeroD), (iP 9)]) (.tup [dyP (cutD neg m e more p up), iP (cutE neg m e more p up)]))))
      (fun k4 => chain [tB 44 (Bool.eq_false_iff.2 k2), .c (r1BitsM _ (by omega) : PCt 189 [(slP (limbs (m / 2 ^ (cutK m e p))))] _), tB 53 (decide_eq_true k3), .c (r1BitsM _ (by omega) : PCt 189 [(slP (limbs (m / 2 ^ (cutK m e p))))] _),
       r64 ((((bitsN (m / 2 ^ (cutK m e p))) : Nat) : Int) + e) (by omega), r64 (((((bitsN (m / 2 ^ (cutK m e p))) : Nat) : Int) + e) + (((cutK m e p) : Nat) : Int)) (by omega), tB 61 (decide_eq_false k4),
       r64 (e + (((cutK m e p) : Nat) : Int)) (by omega), .c (refOf_pc _ _ _ (by omega) (by omega) (by omega) : PCt 155 [(bP neg), (slP (limbs (m / 2 ^ (cutK m e p)))), (iP (e + (((cutK m e p) : Nat) : Int)))] _)] <| rR (.tup [dyP (cutD neg m e more p up), iP (cutE neg m e more p up)]) (by
      have hq : cutQ m e more p (neg != up) = (m / 2 ^ (cutK m e p)) := by unfold cutQ; simp [k2, hlo]
      obtain ⟨g1, g2⟩ := cut_in (e := e) hq (.inr (by omega))
      exact .of_eq (by rw [g1, g2]) : E.le (.tup [(dyP (canon neg (m / 2 ^ (cutK m e p)) (e + (((cutK m e p) : Nat) : Int)))), (iP 0)]) (.tup [dyP (cutD neg m e more p up), iP (cutE neg m e more p up)]))))
     (fun k3 => chain [tB 44 (Bool.eq_false_iff.2 k2), .c (r1BitsM _ (by omega) : PCt 189 [(slP (limbs (m / 2 ^ (cutK m e p))))] _), tB 53 (decide_eq_false k3), r64 (e + (((cutK m e p) : Nat) : Int)) (by omega),
      .c (refOf_pc _ _ _ (by omega) (by omega) (by omega) : PCt 155 [(bP neg), (slP (limbs (m / 2 ^ (cutK m e p)))), (iP (e + (((cutK m e p) : Nat) : Int)))] _)] <| rR (.tup [dyP (cutD neg m e more p up), iP (cutE neg m e more p up)]) (by
      have hq : cutQ m e more p (neg != up) = (m / 2 ^ (cutK m e p)) := by unfold cutQ; simp [k2, hlo]
      have h0 : (m / 2 ^ (cutK m e p)) = 0 := by
       apply Classical.byContradiction; intro h; have := bitsN_pos h; omega
      obtain ⟨g1, g2⟩ := cut_in (e := e) hq (.inl h0)
      exact .of_eq (by rw [g1, g2]) : E.le (.tup [(dyP (canon neg (m / 2 ^ (cutK m e p)) (e + (((cutK m e p) : Nat) : Int)))), (iP 0)]) (.tup [dyP (cutD neg m e more p up), iP (cutE neg m e more p up)])))))) (by kernel_rfl)
open Go.RowKit Fp Pu
theorem cmpN_ge {a b : Nat} : 0 ≤ cmpN a b ↔ b ≤ a := by
 unfold cmpN
 split
 ·simp; omega
 ·split <;> simp <;> omega
theorem r2Left_pc (m n : Nat) (hl : (limbs m).length ≤ 1000) (hn : n ≤ 65536) : PCt 194 [slP (limbs m), iP (n : Int)] (slP (limbs (m * 2 ^ n))) :=
 pcS1i (ok_limbs m) Tryz.call194 (fun A c w h _ => refLeft_any A c (limbs m) n w h hl hn) fun A c B w e w' h hB r => by rw [val_limbs] at r; exact rl B w e w' hB r
theorem r2Plus_pc (m n : Nat) (hl : (limbs m).length ≤ 3000) (hn : (limbs n).length ≤ 3000) : PCt 195 [slP (limbs m), slP (limbs n)] (slP (limbs (m + n))) :=
 pcS2 (ok_limbs m) (ok_limbs n) Tryz.call195 (fun A c B d w h k _ => refPlus_any A B c d (limbs m) (limbs n) w h k hl hn) fun B w e w' hB r => by rw [val_limbs, val_limbs] at r; exact rl B w e w' hB r
theorem r2Minus_pc (m n : Nat) (hl : (limbs m).length ≤ 3000) (hn : n ≤ m) : PCt 197 [slP (limbs m), slP (limbs n)] (slP (limbs (m - n))) :=
 pcS2 (ok_limbs m) (ok_limbs n) Tryz.call197 (fun A c B d w h k _ => refMinus_any A B c d (limbs m) (limbs n) w h k hl (limbs_len_mono hn) (by rw [val_limbs, val_limbs]; exact hn)) fun B w e w' hB r => by rw [val_limbs, val_limbs] at r; exact rl B w e w' hB r
theorem r2Compare_pc (m n : Nat) (hl : (limbs m).length ≤ 3000) (hn : (limbs n).length ≤ 3000) : PCt 196 [slP (limbs m), slP (limbs n)] (iP (cmpN m n)) := by
 refine pcS2 (ok_limbs m) (ok_limbs n) Tryz.call196 (fun A c B d w h k _ => refCompare_any A B c d (limbs m) (limbs n) w h k (trim_limbs _) (trim_limbs _) (by omega) (by omega)) ?_
 rw [val_limbs, val_limbs]
 exact rv
theorem refSum_pc (a b : Dy) (ha : Near a) (hb : Near b) : PCt 154 [(dyP a), (dyP b)] (dyP (sumD a b)) := by
 obtain ⟨ha1, ha2, ha3⟩ := ha
 obtain ⟨hb1, hb2, hb3⟩ := hb
 have ba := bits_of_limbs ha1
 have bb := bits_of_limbs hb1
 obtain ⟨k, hk⟩ : ∃ k, min a.e b.e = k := ⟨_, rfl⟩
 exact tr true Tryz.call154 Tryz.func154 (.w ((((limbs a.m).length : Nat) : Int) = 0)
  (fun k1 => by
   have a0 : a.m = 0 := limbs_len0.1 (by omega)
   exact chain [tB 11 (beq_iff_eq.2 k1)] <| rQ (dyP b) (dyP (sumD a b)) (by rw [show sumD a b = b by unfold sumD; rw [if_pos a0]]))
  (fun k1 => by
   have a0 : a.m ≠ 0 := fun h => k1 (by rw [limbs_len0.2 h]; rfl)
   exact chain [tB 11 (beq_eq_false_iff_ne.2 k1)] <| .w ((((limbs b.m).length : Nat) : Int) = 0)
    (fun k2 => by
     have b0 : b.m = 0 := limbs_len0.1 (by omega)
     exact chain [tB 16 (beq_iff_eq.2 k2)] <| rQ (dyP a) (dyP (sumD a b)) (by rw [show sumD a b = a by unfold sumD; rw [if_neg a0, if_pos b0]]))
    (fun k2 => by
     have b0 : b.m ≠ 0 := fun h => k2 (by rw [limbs_len0.2 h]; rfl)
     have hX : (limbs (a.m * 2 ^ ((a.e - k).toNat))).length ≤ 1400 := limbs_of_bits (by rw [bitsN_mul_pow a0]; omega)
     have hY : (limbs (b.m * 2 ^ ((b.e - k).toNat))).length ≤ 1400 := limbs_of_bits (by rw [bitsN_mul_pow b0]; omega)
     have hP := limbs_add_len hX hY
     have hM : (limbs ((a.m * 2 ^ ((a.e - k).toNat)) - (b.m * 2 ^ ((b.e - k).toNat)))).length ≤ 1400 := Nat.le_trans (limbs_len_mono (Nat.sub_le _ _)) hX
     have hN : (limbs ((b.m * 2 ^ ((b.e - k).toNat)) - (a.m * 2 ^ ((a.e - k).toNat)))).length ≤ 1400 := Nat.le_trans (limbs_len_mono (Nat.sub_le _ _)) hY
     exact chain [tB 16 (beq_eq_false_iff_ne.2 k2), .o 22 (.int (by rw [← hk]; split <;> omega) : PV.le (.e (iP (if b.e < a.e then b.e else a.e))) (.e (iP k))), r64 (a.e - k) (by omega),
      .o 28 (.int (by omega) : PV.le (.e (iP (a.e - k))) (.e (iP ((((a.e - k).toNat) : Nat) : Int)))), .c (r2Left_pc _ _ (by omega) (by omega) : PCt 194 [(slP (limbs a.m)), (iP ((((a.e - k).toNat) : Nat) : Int))] _), r64 (b.e - k) (by omega),
      .o 35 (.int (by omega) : PV.le (.e (iP (b.e - k))) (.e (iP ((((b.e - k).toNat) : Nat) : Int)))), .c (r2Left_pc _ _ (by omega) (by omega) : PCt 194 [(slP (limbs b.m)), (iP ((((b.e - k).toNat) : Nat) : Int))] _)] <| .w (a.neg = b.neg)
      (fun k3 => chain [tB 41 (beq_iff_eq.2 k3), .c (r2Plus_pc _ _ (by omega) (by omega) : PCt 195 [(slP (limbs (a.m * 2 ^ ((a.e - k).toNat)))), (slP (limbs (b.m * 2 ^ ((b.e - k).toNat))))] _),
       .c (refOf_pc _ _ _ (by omega) (by omega) (by omega) : PCt 155 [(bP a.neg), (slP (limbs ((a.m * 2 ^ ((a.e - k).toNat)) + (b.m * 2 ^ ((b.e - k).toNat))))), (iP k)] _)] <| rQ (dyP (canon a.neg ((a.m * 2 ^ ((a.e - k).toNat)) + (b.m * 2 ^ ((b.e - k).toNat))) k)) (dyP (sumD a b)) (by have h := sumD_same (s := a.neg) a0 b0 hk; rw [show (⟨a.neg, b.m, b.e⟩ : Dy) = b by rw [k3]] at h; exact congrArg dyP h.symm))
      (fun k3 => chain [tB 41 (beq_eq_false_iff_ne.2 k3), .c (r2Compare_pc _ _ (by omega) (by omega) : PCt 196 [(slP (limbs (a.m * 2 ^ ((a.e - k).toNat)))), (slP (limbs (b.m * 2 ^ ((b.e - k).toNat))))] _)] <| .w (0 ≤ (cmpN (a.m * 2 ^ ((a.e - k).toNat)) (b.m * 2 ^ ((b.e - k).toNat))))
       (fun k4 => by
        have hc : (b.m * 2 ^ ((b.e - k).toNat)) ≤ (a.m * 2 ^ ((a.e - k).toNat)) := cmpN_ge.1 k4
        exact chain [tB 52 (decide_eq_true k4), .c (r2Minus_pc _ _ (by omega) (by omega) : PCt 197 [(slP (limbs (a.m * 2 ^ ((a.e - k).toNat)))), (slP (limbs (b.m * 2 ^ ((b.e - k).toNat))))] _),
         .c (refOf_pc _ _ _ (by omega) (by omega) (by omega) : PCt 155 [(bP a.neg), (slP (limbs ((a.m * 2 ^ ((a.e - k).toNat)) - (b.m * 2 ^ ((b.e - k).toNat))))), (iP k)] _)] <| rQ (dyP (canon a.neg ((a.m * 2 ^ ((a.e - k).toNat)) - (b.m * 2 ^ ((b.e - k).toNat))) k)) (dyP (sumD a b)) (congrArg dyP (sumD_ge (s := a.neg) (t := b.neg) a0 b0 hk k3 hc).symm))
       (fun k4 => by
        have hc : (a.m * 2 ^ ((a.e - k).toNat)) < (b.m * 2 ^ ((b.e - k).toNat)) := Nat.lt_of_not_le fun h => k4 (cmpN_ge.2 h)
        exact chain [tB 52 (decide_eq_false k4), .c (r2Minus_pc _ _ (by omega) (by omega) : PCt 197 [(slP (limbs (b.m * 2 ^ ((b.e - k).toNat)))), (slP (limbs (a.m * 2 ^ ((a.e - k).toNat))))] _),
         .c (refOf_pc _ _ _ (by omega) (by omega) (by omega) : PCt 155 [(bP b.neg), (slP (limbs ((b.m * 2 ^ ((b.e - k).toNat)) - (a.m * 2 ^ ((a.e - k).toNat))))), (iP k)] _)] <| rQ (dyP (canon b.neg ((b.m * 2 ^ ((b.e - k).toNat)) - (a.m * 2 ^ ((a.e - k).toNat))) k)) (dyP (sumD a b)) (congrArg dyP (sumD_lt (s := a.neg) (t := b.neg) a0 b0 hk k3 hc).symm)))))) (by kernel_rfl)
theorem refCmp_pc (a b : Dy) (ha : Near a) (hb : Near b) : PCt 69 [(dyP a), (dyP b)] (iP (cmpD a b)) := by
 have hn : Near (negD b) := ⟨hb.len, hb.lo, hb.hi⟩
 exact tr true Tryz.call69 Tryz.func69 (chain [.c (refSign_pc _ : PCt 153 [(dyP a)] _), .c (refSign_pc _ : PCt 153 [(dyP b)] _)] <| .w ((Dy.sign a) = (Dy.sign b))
  (fun k1 => chain [tB 13 (bne_eq_false_iff_eq.2 k1)] <| .w ((Dy.sign a) = 0)
   (fun k2 => chain [tB 18 (beq_iff_eq.2 k2)] <| rQ (iP 0) (iP (cmpD a b)) (by rw [cmpD_ref, if_neg (by simpa using k1), if_pos k2]))
   (fun k2 => chain [tB 18 (beq_eq_false_iff_ne.2 k2), .c (refTop_pc _ ha : PCt 84 [(dyP a)] _), .c (refTop_pc _ hb : PCt 84 [(dyP b)] _)] <| .w ((Dy.top a) = (Dy.top b))
    (fun k3 => chain [tB 23 (bne_eq_false_iff_eq.2 k3), .c (refNeg_pc _ : PCt 72 [(dyP b)] _), .c (refSum_pc _ _ ha hn : PCt 154 [(dyP a), (dyP (negD b))] _), .c (refSign_pc _ : PCt 153 [(dyP (sumD a (negD b)))] _)] <| rQ (iP (Dy.sign (sumD a (negD b)))) (iP (cmpD a b)) (by rw [cmpD_ref, if_neg (by simpa using k1), if_neg k2, if_neg (by simpa using k3)]))
    (fun k3 => chain [tB 23 (bne_iff_ne.2 k3), .c (refTop_pc _ ha : PCt 84 [(dyP a)] _), .c (refTop_pc _ hb : PCt 84 [(dyP b)] _)] <| .w ((decide ((Dy.top a) < (Dy.top b))) = (decide (0 < (Dy.sign a))))
     (fun k4 => chain [tB 31 (beq_iff_eq.2 k4)] <| rQ (iP (-1)) (iP (cmpD a b)) (by rw [cmpD_ref, if_neg (by simpa using k1), if_neg k2, if_pos k3, if_pos (by simpa using k4)]))
     (fun k4 => chain [tB 31 (beq_eq_false_iff_ne.2 k4)] <| rQ (iP 1) (iP (cmpD a b)) (by rw [cmpD_ref, if_neg (by simpa using k1), if_neg k2, if_pos k3, if_neg (by simpa using k4)])))))
  (fun k1 => chain [tB 13 (bne_iff_ne.2 k1)] <| .w ((Dy.sign a) < (Dy.sign b))
   (fun k2 => chain [tB 16 (decide_eq_true k2)] <| rQ (iP (-1)) (iP (cmpD a b)) (by rw [cmpD_ref, if_pos k1, if_pos k2]))
   (fun k2 => chain [tB 16 (decide_eq_false k2)] <| rQ (iP 1) (iP (cmpD a b)) (by rw [cmpD_ref, if_pos k1, if_neg k2])))) (by kernel_rfl)
open Go.RowKit Fp Pu
set_option maxHeartbeats 1000000 in
theorem r3Exact_pc (d : Dy) (p : Nat) (up : Bool) (h1 : (limbs d.m).length ≤ 2900) (he1 : -200000 ≤ d.e) (he2 : d.e ≤ 200000) (hp1 : 8 ≤ p) (hp2 : p ≤ 512) : PCt 172 [(dyP d), (iP p), (bP up)] (.tup [dyP (rndD d p up), iP (rndE d p up)]) := by
 exact tr true Tryz.call172 Tryz.func172 (chain [.c (r3Cut_pc d.neg d.m d.e false p up (by omega) (by omega) (by omega) (by omega) (by omega))] <| .nil) (by kernel_rfl)
set_option maxHeartbeats 1000000 in
theorem r3Fault_pc (a b : Dy) (p : Nat) (ha : a.Valid) (hb : b.Valid) (hp1 : 8 ≤ p) (hp2 : p ≤ 512) : PCt 171 [(dyP a), (dyP b), (iP p)] (iP 0) := by
 exact tr true Tryz.call171 Tryz.func171 (chain [.c (refValid_pc _ ‹_› : PCt 159 [(dyP a)] _), .c (refValid_pc _ ‹_› : PCt 159 [(dyP b)] _), .c (refPrec_pc _ : PCt 58 [(iP p)] _),
  tB 16 (precB_true.2 ⟨by omega, by omega⟩ : (precB (p : Int)) = true)] <| .nil) (by kernel_rfl)
set_option maxHeartbeats 1000000 in
theorem r3Add_pc (a b : Dy) (p : Nat) (up : Bool) (ha : a.Valid) (hb : b.Valid) (hp1 : 8 ≤ p) (hp2 : p ≤ 512) : PCt 101 [(dyP a), (dyP b), (iP p), (bP up)] (.tup [dyP (rndD (sumD a b) p up), iP (rndE (sumD a b) p up)]) := by
 have hx := sum_far ha hb
 exact tr true Tryz.call101 Tryz.func101 (chain [.c (r3Fault_pc _ _ _ ‹_› ‹_› (by omega) (by omega) : PCt 171 [(dyP a), (dyP b), (iP p)] _), tB 16 (by decide : ((0 : Int) != 0) = false),
  .c (refSum_pc a b (Fp.Dy.Valid.near ‹_›) (Fp.Dy.Valid.near ‹_›)), .c (r3Exact_pc _ _ _ hx.1 hx.2.1 hx.2.2 (by omega) (by omega) : PCt 172 [(dyP (sumD a b)), (iP p), (bP up)] _)] <| .nil) (by kernel_rfl)
open Go.RowKit Fp Pu
set_option maxHeartbeats 2000000 in
theorem r5Prec_pc (p : Int) : PCt 99 [(iP p)] (bP (precB p)) := by
 exact tr true Tryz.call99 Tryz.func99 (.w (8 ≤ p)
  (fun k1 => chain [tB 4 (decide_eq_true k1)] <| rQ (bP (decide (p ≤ 512))) (bP (precB p)) (by simp [precB, k1]))
  (fun k1 => chain [tB 4 (decide_eq_false k1)] <| rQ (bP false) (bP (precB p)) (by simp [precB, k1]))) (by kernel_rfl)
set_option maxHeartbeats 2000000 in
theorem r5Point_pc (d : Dy) : PCt 39 [(dyP d)] (ivP (pointI d)) := by
 exact tr true Tryz.call39 Tryz.func39 (.nil) (by kernel_rfl)
set_option maxHeartbeats 2000000 in
theorem r5Zero_pc  : PCt 169 [(dyP zeroD)] (bP true) := by
 exact tr true Tryz.call169 Tryz.func169 (chain [tB 4 (rfl : zeroD.neg = false), tB 10 (natZ_true (limbs_len0.2 rfl) : ((((limbs zeroD.m).length : Nat) : Int) == 0) = true), tB 15 (rfl : (zeroD.e == 0) = true)] <| .nil) (by kernel_rfl)
set_option maxHeartbeats 2000000 in
theorem r5Valid_pc (x : Iv) (hx : x.Valid) : PCt 97 [(ivP x)] (bP true) := by
 by_cases hxa : x.all = true
 ·obtain ⟨h1, h2⟩ := ivOn hx hxa
  exact tr true Tryz.call97 Tryz.func97 (chain [tB 4 (hxa : x.all = true), .c (by rw [h1]; exact r5Zero_pc : PCt 169 [(dyP x.lo)] (bP true)), .c (by rw [h2]; exact r5Zero_pc : PCt 169 [(dyP x.hi)] (bP true))] <| .nil) (by kernel_rfl)
 ·replace hxa : x.all = false := by simpa using hxa
  obtain ⟨h1, h2, h3⟩ := ivOff hx hxa
  exact tr true Tryz.call97 Tryz.func97 (chain [tB 4 (hxa : x.all = false), .c (refValid_pc _ ‹_› : PCt 159 [(dyP x.lo)] _), .c (refValid_pc _ ‹_› : PCt 159 [(dyP x.hi)] _),
   .c (refCmp_pc x.lo x.hi (Fp.Dy.Valid.near ‹_›) (Fp.Dy.Valid.near ‹_›)), tB 27 (decide_eq_true h3)] <| .nil) (by kernel_rfl)
set_option maxHeartbeats 2000000 in
theorem r5Known_pc (x : Iv) (hx : x.Valid) : PCt 100 [(ivP x)] (bP (!x.all)) := by
 exact tr true Tryz.call100 Tryz.func100 (chain [.c (r5Valid_pc _ ‹_› : PCt 97 [(ivP x)] _)] <| .nil) (by kernel_rfl)
open Go.RowKit Fp Pu
def r7ValidOY (m : List (List RI)) (x : Nat) : PS := ⟨61, true, [(3, .e (iP x)), (0, .e (rmatP m))], []⟩
def r7ValidI (m : List (List RI)) (x : Nat) (y : Nat) : PS := ⟨61, true, [(4, .e (iP y)), (3, .e (iP x)), (0, .e (rmatP m))], []⟩
def r7ValidOL (m : List (List RI)) (N : Nat) (x : Nat) : PS := ⟨61, true, [(3, .e (iP x)), (0, .e (rmatP m))], []⟩
def r7ValidOE (m : List (List RI)) (N J : Nat) (x : Nat) : PS := ⟨61, true, [(3, .e (iP x)), (0, .e (rmatP m))], []⟩
def r7ValidJ (m : List (List RI)) (N J : Nat) (y : Nat) : PS := ⟨61, true, [(4, .e (iP y)), (3, .e (iP N)), (0, .e (rmatP m))], []⟩
theorem natEq0 (L : List Nat) : ((L.length : Int) = 0) ↔ L = [] := by rw [← List.length_eq_zero_iff]; omega
def zB (d : RD) : Bool := !d.neg && decide (d.L = []) && (d.e == 0)
theorem zB_true {d : RD} : zB d = true ↔ d.Zero := by simp [zB, RD.Zero, and_assoc]
set_option maxHeartbeats 2000000 in
theorem r5ZeroR_pc (d : RD) : PCt 169 [(rdP d)] (bP (zB d)) := by
 exact tr true Tryz.call169 Tryz.func169 (.w (d.neg = true)
  (fun k1 => chain [tB 4 (k1)] <| rQ (bP false) (bP (zB d)) (by simp [zB, k1]))
  (fun k1 => chain [tB 4 (Bool.eq_false_iff.2 k1)] <| .w ((d.L.length : Int) = 0)
   (fun k2 => chain [tB 10 (beq_iff_eq.2 k2)] <| rQ (bP (d.e == 0)) (bP (zB d)) (by simp [zB, k1, show d.L = [] from (natEq0 _).1 k2]))
   (fun k2 => chain [tB 10 (beq_eq_false_iff_ne.2 k2)] <| rQ (bP false) (bP (zB d)) (by simp [zB, k1, show ¬ d.L = [] from fun q => k2 ((natEq0 _).2 q)])))) (by kernel_rfl)
noncomputable def dOkB (d : RD) : Bool := @decide d.Ok (Classical.propDecidable _)
theorem dOkB_true {d : RD} : dOkB d = true ↔ d.Ok := @decide_eq_true_iff _ (Classical.propDecidable _)
theorem r5ValidR_yes (x : RI) (g : x.Good) (h : x.Ok) : PCt 97 [riP x] (bP true) := by
 have := r5Valid_pc x.iv h.valid
 rwa [← ivP_raw, h.eq g] at this
set_option maxHeartbeats 2000000 in
theorem r5ValidR_no (x : RI) (g : x.Good) (h : ¬ x.Ok) : PCt 97 [(riP x)] (bP false) := by
 have ga := g.lo
 have gb := g.hi
 by_cases ha : x.all = true
 ·exact tr true Tryz.call97 Tryz.func97 (chain [tB 4 (ha : x.all = true), .c (r5ZeroR_pc _ : PCt 169 [(rdP x.lo)] _)] <| .w (zB x.lo = true)
   (fun k1 => chain [tB 7 (k1), .c (r5ZeroR_pc _ : PCt 169 [(rdP x.hi)] _)] <| rQ (bP (zB x.hi)) (bP false) (by rw [show zB x.hi = false from Bool.eq_false_iff.2 fun q => h (.inl ⟨ha, zB_true.1 k1, zB_true.1 q⟩)]))
   (fun k1 => chain [tB 7 (Bool.eq_false_iff.2 k1)] <| .nil)) (by kernel_rfl)
 ·replace ha : x.all = false := by simpa using ha
  by_cases h1 : x.lo.Ok
  ·by_cases h2 : x.hi.Ok
   ·have h3 : ¬ cmpD x.lo.dy x.hi.dy ≤ 0 := fun q => h (.inr ⟨ha, h1, h2, q⟩)
    have v1 := h1.valid
    have v2 := h2.valid
    have e1 : riP x = ivP x.iv := by rw [← ivP_raw, show x.iv.raw = x by show RI.mk x.lo.dy.raw x.hi.dy.raw x.all = x; rw [h1.eq ga, h2.eq gb]]
    rw [e1]
    exact tr true Tryz.call97 Tryz.func97 (chain [tB 4 (ha : x.iv.all = false), .c (refValid_pc _ ‹_› : PCt 159 [(dyP x.iv.lo)] _), .c (refValid_pc _ ‹_› : PCt 159 [(dyP x.iv.hi)] _),
     .c (refCmp_pc x.iv.lo x.iv.hi (Fp.Dy.Valid.near ‹_›) (Fp.Dy.Valid.near ‹_›)), tB 27 (decide_eq_false h3)] <| .nil) (by kernel_rfl)
   ·exact tr true Tryz.call97 Tryz.func97 (chain [tB 4 (ha : x.all = false), .c (refValidR_pc _ ‹_› _ dOkB_true : PCt 159 [(rdP x.lo)] _), tB 15 (dOkB_true.2 h1 : (dOkB x.lo) = true), .c (refValidR_pc _ ‹_› _ dOkB_true : PCt 159 [(rdP x.hi)] _),
     tB 19 (Bool.eq_false_iff.2 fun q => h2 (dOkB_true.1 q) : (dOkB x.hi) = false)] <| .nil) (by kernel_rfl)
  ·exact tr true Tryz.call97 Tryz.func97 (chain [tB 4 (ha : x.all = false), .c (refValidR_pc _ ‹_› _ dOkB_true : PCt 159 [(rdP x.lo)] _), tB 15 (Bool.eq_false_iff.2 fun q => h1 (dOkB_true.1 q) : (dOkB x.lo) = false)] <| .nil) (by kernel_rfl)
theorem r5ValidR_pc (x : RI) (g : x.Good) : PCt 97 [riP x] (bP (okB x)) := by
 by_cases h : x.Ok
 ·rw [okB_true.2 h]; exact r5ValidR_yes x g h
 ·rw [show okB x = false by simpa using fun q => h (okB_true.1 q)]; exact r5ValidR_no x g h
set_option maxHeartbeats 2000000 in
theorem r7Valid_Y (m : List (List RI)) (g : MGood m) (hl : m.length ≤ 1000000) (hrows : ∀ i, (m.getD i []).length ≤ 1000000) (n1 : 1 ≤ m.length) (n8 : m.length ≤ 8) (k1 : 1 ≤ (m.getD 0 []).length) (k8 : (m.getD 0 []).length ≤ 8) (hrow : ∀ i, i < m.length → (m.getD i []).length = (m.getD 0 []).length) (hok : ∀ i, i < m.length → ∀ j, j < (m.getD i []).length → okB ((m.getD i []).getD j rwhole) = true) : PCt 96 [(rmatP m)] (bP true) := by
 exact tr true Tryz.call96 Tryz.func96 (chain [tF 7 ((m.length : Int) < 1) (by omega), tF 11 (8 < (m.length : Int)) (by omega), iX (0) (m.length) (by omega), tF 18 ((((m.getD 0 []).length : Nat) : Int) < 1) (by omega), iX (0) (m.length) (by omega),
  tF 25 (8 < (((m.getD 0 []).length : Nat) : Int)) (by omega),
  .s (Sp.upto (r7ValidOY m) 0 m.length (by omega) (fun x hx hltx => by
    have hlx := hrows x
    exact spt (chain [tT 30 ((x : Int) < (m.length : Int)) (by omega), iX ((x : Int)) (m.length) (by omega), iX (0) (m.length) (by omega),
     tB 42 (natNe_false (hrow x (by omega)) : ((((m.getD x []).length : Nat) : Int) != (((m.getD 0 []).length : Nat) : Int)) = false),
     .s (Sp.upto (r7ValidI m x) 0 ((m.getD x []).length) (by omega) (fun y hy hlty => by
    exact spt (chain [iX ((x : Int)) (m.length) (by omega), tT 49 ((y : Int) < (((m.getD x []).length : Nat) : Int)) (by omega), iX ((x : Int)) (m.length) (by omega), iX ((y : Int)) ((m.getD x []).length) (by omega),
     .c (r5ValidR_pc _ (by first | assumption | exact g.at _ _) : PCt 97 [(riP ((m.getD x []).getD y rwhole))] _), tB 59 (hok x (by omega) y (by omega) : (okB ((m.getD x []).getD y rwhole)) = true), r64 ((y : Int) + 1) (by omega)] <| .nil) (by kernel_rfl))
  (fun hy => by
    exact spt (chain [iX ((x : Int)) (m.length) (by omega), tF 49 ((((m.getD x []).length : Nat) : Int) < (((m.getD x []).length : Nat) : Int)) (by omega)] <| .nil) (by kernel_rfl)) (by nofun) : LpT 9 Tryz.f96 (r7ValidI m x 0) (.exit 2) ⟨61, true, [(3, .e (iP x)), (0, .e (rmatP m))], []⟩) .nil,
     r64 ((x : Int) + 1) (by omega)] <| .nil) (by kernel_rfl))
  (fun hx => by
    exact spt (chain [tF 30 ((m.length : Int) < (m.length : Int)) (by omega)] <| .nil) (by kernel_rfl)) (by nofun) : LpT 4 Tryz.f96 (r7ValidOY m 0) (.exit 0) ⟨61, true, [], []⟩) .nil] <| .nil) (by kernel_rfl)
set_option maxHeartbeats 2000000 in
theorem r7Valid_L (m : List (List RI)) (g : MGood m) (hl : m.length ≤ 1000000) (hrows : ∀ i, (m.getD i []).length ≤ 1000000) (n1 : 1 ≤ m.length) (n8 : m.length ≤ 8) (k1 : 1 ≤ (m.getD 0 []).length) (k8 : (m.getD 0 []).length ≤ 8) (N : Nat) (hN : N < m.length) (hrow : ∀ i, i < N → (m.getD i []).length = (m.getD 0 []).length) (hok : ∀ i, i < N → ∀ j, j < (m.getD i []).length → okB ((m.getD i []).getD j rwhole) = true) (hbad : (m.getD N []).length ≠ (m.getD 0 []).length) : PCt 96 [(rmatP m)] (bP false) := by
 exact tr true Tryz.call96 Tryz.func96 (chain [tF 7 ((m.length : Int) < 1) (by omega), tF 11 (8 < (m.length : Int)) (by omega), iX (0) (m.length) (by omega), tF 18 ((((m.getD 0 []).length : Nat) : Int) < 1) (by omega), iX (0) (m.length) (by omega),
  tF 25 (8 < (((m.getD 0 []).length : Nat) : Int)) (by omega),
  .s (Sp.upto (r7ValidOL m N) 0 N (by omega) (fun x hx hltx => by
    have hlx := hrows x
    exact spt (chain [tT 30 ((x : Int) < (m.length : Int)) (by omega), iX ((x : Int)) (m.length) (by omega), iX (0) (m.length) (by omega),
     tB 42 (natNe_false (hrow x (by omega)) : ((((m.getD x []).length : Nat) : Int) != (((m.getD 0 []).length : Nat) : Int)) = false),
     .s (Sp.upto (r7ValidI m x) 0 ((m.getD x []).length) (by omega) (fun y hy hlty => by
    exact spt (chain [iX ((x : Int)) (m.length) (by omega), tT 49 ((y : Int) < (((m.getD x []).length : Nat) : Int)) (by omega), iX ((x : Int)) (m.length) (by omega), iX ((y : Int)) ((m.getD x []).length) (by omega),
     .c (r5ValidR_pc _ (by first | assumption | exact g.at _ _) : PCt 97 [(riP ((m.getD x []).getD y rwhole))] _), tB 59 (hok x (by omega) y (by omega) : (okB ((m.getD x []).getD y rwhole)) = true), r64 ((y : Int) + 1) (by omega)] <| .nil) (by kernel_rfl))
  (fun hy => by
    exact spt (chain [iX ((x : Int)) (m.length) (by omega), tF 49 ((((m.getD x []).length : Nat) : Int) < (((m.getD x []).length : Nat) : Int)) (by omega)] <| .nil) (by kernel_rfl)) (by nofun) : LpT 9 Tryz.f96 (r7ValidI m x 0) (.exit 2) ⟨61, true, [(3, .e (iP x)), (0, .e (rmatP m))], []⟩) .nil,
     r64 ((x : Int) + 1) (by omega)] <| .nil) (by kernel_rfl))
  (fun hx => by
    have hlx := hrows N
    exact spt (chain [tT 30 ((N : Int) < (m.length : Int)) (by omega), iX ((N : Int)) (m.length) (by omega), iX (0) (m.length) (by omega),
    tB 42 (natNe_true hbad : ((((m.getD N []).length : Nat) : Int) != (((m.getD 0 []).length : Nat) : Int)) = true)] <| .nil) (by kernel_rfl)) (by nofun) : LpT 4 Tryz.f96 (r7ValidOL m N 0) .ret ⟨61, true, [(2, .e (bP false))], []⟩) .nil] <| .nil) (by kernel_rfl)
set_option maxHeartbeats 2000000 in
theorem r7Valid_E (m : List (List RI)) (g : MGood m) (hl : m.length ≤ 1000000) (hrows : ∀ i, (m.getD i []).length ≤ 1000000) (n1 : 1 ≤ m.length) (n8 : m.length ≤ 8) (k1 : 1 ≤ (m.getD 0 []).length) (k8 : (m.getD 0 []).length ≤ 8) (N : Nat) (hN : N < m.length) (hrow : ∀ i, i < N → (m.getD i []).length = (m.getD 0 []).length) (hok : ∀ i, i < N → ∀ j, j < (m.getD i []).length → okB ((m.getD i []).getD j rwhole) = true) (hlen : (m.getD N []).length = (m.getD 0 []).length) (J : Nat) (hJ : J < (m.getD N []).length) (hoJ : ∀ j, j < J → okB ((m.getD N []).getD j rwhole) = true) (hbad : okB ((m.getD N []).getD J rwhole) = false) : PCt 96 [(rmatP m)] (bP false) := by
 exact tr true Tryz.call96 Tryz.func96 (chain [tF 7 ((m.length : Int) < 1) (by omega), tF 11 (8 < (m.length : Int)) (by omega), iX (0) (m.length) (by omega), tF 18 ((((m.getD 0 []).length : Nat) : Int) < 1) (by omega), iX (0) (m.length) (by omega),
  tF 25 (8 < (((m.getD 0 []).length : Nat) : Int)) (by omega),
  .s (Sp.upto (r7ValidOE m N J) 0 N (by omega) (fun x hx hltx => by
    have hlx := hrows x
    exact spt (chain [tT 30 ((x : Int) < (m.length : Int)) (by omega), iX ((x : Int)) (m.length) (by omega), iX (0) (m.length) (by omega),
     tB 42 (natNe_false (hrow x (by omega)) : ((((m.getD x []).length : Nat) : Int) != (((m.getD 0 []).length : Nat) : Int)) = false),
     .s (Sp.upto (r7ValidI m x) 0 ((m.getD x []).length) (by omega) (fun y hy hlty => by
    exact spt (chain [iX ((x : Int)) (m.length) (by omega), tT 49 ((y : Int) < (((m.getD x []).length : Nat) : Int)) (by omega), iX ((x : Int)) (m.length) (by omega), iX ((y : Int)) ((m.getD x []).length) (by omega),
     .c (r5ValidR_pc _ (by first | assumption | exact g.at _ _) : PCt 97 [(riP ((m.getD x []).getD y rwhole))] _), tB 59 (hok x (by omega) y (by omega) : (okB ((m.getD x []).getD y rwhole)) = true), r64 ((y : Int) + 1) (by omega)] <| .nil) (by kernel_rfl))
  (fun hy => by
    exact spt (chain [iX ((x : Int)) (m.length) (by omega), tF 49 ((((m.getD x []).length : Nat) : Int) < (((m.getD x []).length : Nat) : Int)) (by omega)] <| .nil) (by kernel_rfl)) (by nofun) : LpT 9 Tryz.f96 (r7ValidI m x 0) (.exit 2) ⟨61, true, [(3, .e (iP x)), (0, .e (rmatP m))], []⟩) .nil,
     r64 ((x : Int) + 1) (by omega)] <| .nil) (by kernel_rfl))
  (fun hx => by
    have hlx := hrows N
    exact spt (chain [tT 30 ((N : Int) < (m.length : Int)) (by omega), iX ((N : Int)) (m.length) (by omega), iX (0) (m.length) (by omega),
    tB 42 (natNe_false hlen : ((((m.getD N []).length : Nat) : Int) != (((m.getD 0 []).length : Nat) : Int)) = false),
    .s (Sp.upto (r7ValidJ m N J) 0 J (by omega) (fun y hy hlty => by
    exact spt (chain [iX ((N : Int)) (m.length) (by omega), tT 49 ((y : Int) < (((m.getD N []).length : Nat) : Int)) (by omega), iX ((N : Int)) (m.length) (by omega), iX ((y : Int)) ((m.getD N []).length) (by omega),
     .c (r5ValidR_pc _ (by first | assumption | exact g.at _ _) : PCt 97 [(riP ((m.getD N []).getD y rwhole))] _), tB 59 (hoJ y (by omega) : (okB ((m.getD N []).getD y rwhole)) = true), r64 ((y : Int) + 1) (by omega)] <| .nil) (by kernel_rfl))
  (fun hy => by
    exact spt (chain [iX ((N : Int)) (m.length) (by omega), tT 49 ((J : Int) < (((m.getD N []).length : Nat) : Int)) (by omega), iX ((N : Int)) (m.length) (by omega), iX ((J : Int)) ((m.getD N []).length) (by omega),
    .c (r5ValidR_pc _ (by first | assumption | exact g.at _ _) : PCt 97 [(riP ((m.getD N []).getD J rwhole))] _), tB 59 (hbad : (okB ((m.getD N []).getD J rwhole)) = false)] <| .nil) (by kernel_rfl)) (by nofun) : LpT 9 Tryz.f96 (r7ValidJ m N J 0) .ret ⟨61, true, [(2, .e (bP false))], []⟩) .nil] <| .nil) (by kernel_rfl)) (by nofun) : LpT 4 Tryz.f96 (r7ValidOE m N J 0) .ret ⟨61, true, [(2, .e (bP false))], []⟩) .nil] <| .nil) (by kernel_rfl)
theorem r7ValidR_pc (m : List (List RI)) (g : MGood m) (hl : m.length ≤ 1000000) (hrows : ∀ i, (m.getD i []).length ≤ 1000000) : PCt 96 [rmatP m] (bP (matOkB m)) := by
 by_cases q1 : m.length < 1
 ·exact tr true Tryz.call96 Tryz.func96 (chain [tT 7 ((m.length : Int) < 1) (by omega)] <| rQ (bP false) (bP (matOkB m)) (by rw [matOkB_false (fun q => by have := q.n1; have := q.n8; have := q.k1; have := q.k8; omega)])) (by kernel_rfl)
 by_cases q2 : 8 < m.length
 ·exact tr true Tryz.call96 Tryz.func96 (chain [tF 7 ((m.length : Int) < 1) (by omega), tT 11 (8 < (m.length : Int)) (by omega)] <| rQ (bP false) (bP (matOkB m)) (by rw [matOkB_false (fun q => by have := q.n1; have := q.n8; have := q.k1; have := q.k8; omega)])) (by kernel_rfl)
 by_cases q3 : (m.getD 0 []).length < 1
 ·exact tr true Tryz.call96 Tryz.func96 (chain [tF 7 ((m.length : Int) < 1) (by omega), tF 11 (8 < (m.length : Int)) (by omega), iX (0) (m.length) (by omega), tT 18 ((((m.getD 0 []).length : Nat) : Int) < 1) (by omega)] <| rQ (bP false) (bP (matOkB m)) (by rw [matOkB_false (fun q => by have := q.n1; have := q.n8; have := q.k1; have := q.k8; omega)])) (by kernel_rfl)
 by_cases q4 : 8 < (m.getD 0 []).length
 ·exact tr true Tryz.call96 Tryz.func96 (chain [tF 7 ((m.length : Int) < 1) (by omega), tF 11 (8 < (m.length : Int)) (by omega), iX (0) (m.length) (by omega), tF 18 ((((m.getD 0 []).length : Nat) : Int) < 1) (by omega), iX (0) (m.length) (by omega),
   tT 25 (8 < (((m.getD 0 []).length : Nat) : Int)) (by omega)] <| rQ (bP false) (bP (matOkB m)) (by rw [matOkB_false (fun q => by have := q.n1; have := q.n8; have := q.k1; have := q.k8; omega)])) (by kernel_rfl)
 by_cases hb : ∃ N, N < m.length ∧ (decide ((m.getD N []).length ≠ (m.getD 0 []).length) || (List.range (m.getD N []).length).any fun j => !(okB ((m.getD N []).getD j rwhole))) = true
 ·obtain ⟨N, hN, hbad, hlow⟩ := least_true hb
  have hrow : ∀ i, i < N → (m.getD i []).length = (m.getD 0 []).length := fun i hi => by
   have := hlow i hi; simp only [ne_eq, decide_not, Bool.or_eq_false_iff, Bool.not_eq_false', decide_eq_true_eq] at this; exact this.1
  have hok : ∀ i, i < N → ∀ j, j < (m.getD i []).length → okB ((m.getD i []).getD j rwhole) = true := fun i hi j hj => by
   have := hlow i hi
   rw [Bool.or_eq_false_iff] at this
   have := List.any_eq_false.1 this.2 j (List.mem_range.2 hj)
   simpa using this
  have hno : ¬ ROk m := fun q => by
   rw [Bool.or_eq_true] at hbad
   rcases hbad with h | h
   ·exact (of_decide_eq_true h) (q.row N hN)
   ·obtain ⟨j, hj, h⟩ := List.any_eq_true.1 h
    have := okB_true.2 (q.ok N hN j (List.mem_range.1 hj))
    rw [this] at h; cases h
  rw [matOkB_false hno]
  by_cases hlen : (m.getD N []).length = (m.getD 0 []).length
  ·have hex : ∃ j, j < (m.getD N []).length ∧ (!(okB ((m.getD N []).getD j rwhole))) = true := by
    rw [Bool.or_eq_true] at hbad
    rcases hbad with h | h
    ·exact absurd hlen (of_decide_eq_true h)
    ·obtain ⟨j, hj, h⟩ := List.any_eq_true.1 h
     exact ⟨j, List.mem_range.1 hj, h⟩
   obtain ⟨J, hJ, hbJ, hlJ⟩ := least_true hex
   exact r7Valid_E m g hl hrows (by omega) (by omega) (by omega) (by omega) N hN hrow hok hlen J hJ (fun j hj => by simpa using hlJ j hj) (by simpa using hbJ)
  ·exact r7Valid_L m g hl hrows (by omega) (by omega) (by omega) (by omega) N hN hrow hok hlen
 ·have hrow : ∀ i, i < m.length → (m.getD i []).length = (m.getD 0 []).length := fun i hi => by
   apply Classical.byContradiction; intro q
   exact hb ⟨i, hi, by rw [Bool.or_eq_true]; exact .inl (decide_eq_true q)⟩
  have hok : ∀ i, i < m.length → ∀ j, j < (m.getD i []).length → okB ((m.getD i []).getD j rwhole) = true := fun i hi j hj => by
   cases hq : okB ((m.getD i []).getD j rwhole) with
   | true => rfl
   | false => exact absurd ⟨i, hi, by rw [Bool.or_eq_true]; exact .inr (List.any_eq_true.2 ⟨j, List.mem_range.2 hj, by rw [hq]; rfl⟩)⟩ hb
  rw [matOkB_true.2 ⟨by omega, by omega, by omega, by omega, hrow, fun i hi j hj => okB_true.1 (hok i hi j hj)⟩]
  exact r7Valid_Y m g hl hrows (by omega) (by omega) (by omega) (by omega) hrow hok
open Go.RowKit Fp Pu
abbrev ivsE (xs : List Iv) : Nat → Nat → E := fun i j => (ivL (xs.getD i wholeI)).getD j .any
abbrev matE (M : List (List Iv)) : Nat → Nat → E := fun i _ => ivsP (M.getD i [])
abbrev lnE (M : List (List Iv)) : Nat → Nat := fun q => (M.getD q []).length
abbrev rowsE (M : List (List Iv)) : Nat → Nat → Nat → E := fun q i j => (ivL ((M.getD q []).getD i wholeI)).getD j .any
theorem ivL_nr (x : Iv) (j : Nat) (hj : j < 7) : ((ivL x).getD j .any).nr 2 = true := by
 rcases j with _ | _ | _ | _ | _ | _ | _ | j
 all_goals first | rfl | omega
theorem ivsP_nr (xs : List Iv) : (ivsP xs).nr 2 = true := rfl
def buildM (n : Nat) (c : Nat → Nat) (F : Nat → Nat → Iv) (x k : Nat) : List (List Iv) := (List.range n).map fun q => (List.range (if q < x then c q else if q = x then k else 0)).map (F q)
def wholeM (n : Nat) (c : Nat → Nat) (F : Nat → Nat → Iv) : List (List Iv) := (List.range n).map fun q => (List.range (c q)).map (F q)
theorem buildM_len (n : Nat) (c : Nat → Nat) (F : Nat → Nat → Iv) (x k : Nat) : (buildM n c F x k).length = n := by simp [buildM]
theorem buildM_row {n : Nat} {c : Nat → Nat} {F : Nat → Nat → Iv} {x k q : Nat} (h : q < n) : (buildM n c F x k).getD q [] = (List.range (if q < x then c q else if q = x then k else 0)).map (F q) := by
 simp [buildM, List.getD_eq_getElem?_getD, h]
theorem wholeM_row {n : Nat} {c : Nat → Nat} {F : Nat → Nat → Iv} {q : Nat} (h : q < n) : (wholeM n c F).getD q [] = (List.range (c q)).map (F q) := by
 simp [wholeM, List.getD_eq_getElem?_getD, h]
theorem lnE_at {n x k : Nat} {c : Nat → Nat} {F : Nat → Nat → Iv} (h : x < n) : lnE (buildM n c F x k) x = k := by simp only [lnE, buildM_row h]; simp
theorem one_len {α : Type} (y : α) : [y].length = 1 := rfl
theorem range_getD {n i : Nat} {F : Nat → Iv} (h : i < n) : ((List.range n).map F).getD i wholeI = F i := by
 simp [List.getD_eq_getElem?_getD, h]
theorem rows_init {T1 T0 n n' : Nat} {c : Nat → Nat} {F : Nat → Nat → Iv} (hn : n = n') : Bx.le (.rows true T1 T0 n 7 (fun _ => 0) (fun _ _ _ => .any) .none) (.rows true T1 T0 n' 7 (lnE (buildM n' c F 0 0)) (rowsE (buildM n' c F 0 0)) .none) := by
 subst hn
 refine .rows rfl (fun k hk => ?_) (fun k i j hk hi hj => absurd hi (Nat.not_lt_zero i))
 show 0 = ((buildM n c F 0 0).getD k []).length
 rw [buildM_row hk]; simp
theorem rows_push {T1 T0 n n' m x k : Nat} {c : Nat → Nat} {F : Nat → Nat → Iv} {y : Iv} (hn : n = n') (hm : m = n) (hx : x < n) (hy : y = F x k) :
  Bx.le (.rows true T1 T0 n 7 (fun q => if q = x then lnE (buildM m c F x k) q + [y].length else lnE (buildM m c F x k) q)
    (fun q i j => if q = x then (if i < lnE (buildM m c F x k) q then rowsE (buildM m c F x k) q i j else (E.elf (ivsP [y])) (i - lnE (buildM m c F x k) q) j) else rowsE (buildM m c F x k) q i j) .none)
   (.rows true T1 T0 n' 7 (lnE (buildM m c F x (k + 1))) (rowsE (buildM m c F x (k + 1))) .none) := by
 subst hn hm hy
 have hl : ∀ q, q < m → (if q = x then lnE (buildM m c F x k) q + [F x k].length else lnE (buildM m c F x k) q) = lnE (buildM m c F x (k + 1)) q := by
  intro q hq
  simp only [lnE, buildM_row hq, List.length_map, List.length_range, List.length_cons, List.length_nil]
  by_cases h1 : q = x
  ·subst h1; simp
  ·simp [h1]
 refine .rows rfl hl (fun q i j hq hi hj => ⟨.of_eq ?_, ivL_nr _ _ hj⟩)
 by_cases h1 : q = x
 ·subst h1
  rw [if_pos rfl] at hi ⊢
  simp only [lnE, rowsE, buildM_row hq, List.length_map, List.length_range, List.length_cons, List.length_nil, Nat.lt_irrefl, if_false, if_true] at hi ⊢
  by_cases h2 : i < k
  ·rw [if_pos h2, range_getD h2, range_getD (by omega)]
  ·have : i = k := by omega
   subst this
   rw [if_neg h2, Nat.sub_self, range_getD (by omega)]
   rfl
 ·rw [if_neg h1] at hi ⊢
  simp only [lnE, rowsE, buildM_row hq, List.length_map, List.length_range, h1, if_false] at hi ⊢
theorem rows_next {T1 T0 n n' m x : Nat} {c : Nat → Nat} {F : Nat → Nat → Iv} (hn : n = n') : Bx.le (.rows true T1 T0 n 7 (lnE (buildM m c F x (c x))) (rowsE (buildM m c F x (c x))) .none) (.rows true T1 T0 n' 7 (lnE (buildM m c F (x + 1) 0)) (rowsE (buildM m c F (x + 1) 0)) .none) := by
 subst hn
 have : buildM m c F x (c x) = buildM m c F (x + 1) 0 := by
  unfold buildM
  congr 1
  funext q
  congr 2
  by_cases h : q < x
  ·rw [if_pos h, if_pos (by omega)]
  ·by_cases h2 : q = x
   ·subst h2; rw [if_neg h, if_pos rfl, if_pos (by omega)]
   ·rw [if_neg h, if_neg h2, if_neg (by omega)]; split <;> rfl
 rw [this]
 exact .refl _
theorem buildM_done (n : Nat) (c : Nat → Nat) (F : Nat → Nat → Iv) : buildM n c F n 0 = wholeM n c F := by
 unfold buildM wholeM
 apply List.map_congr_left
 intro q hq
 rw [if_pos (List.mem_range.1 hq)]
theorem matRows_le {n : Nat} {M : List (List Iv)} (hn : n = M.length) : E.le (.sl true n 1 fun k _ => .sl true (lnE M k) 7 (rowsE M k)) (matP M) := by subst hn; exact .refl _
theorem matDone_le {n : Nat} {c : Nat → Nat} {F : Nat → Nat → Iv} : E.le (.sl true n 1 fun k _ => .sl true (lnE (buildM n c F n 0) k) 7 (rowsE (buildM n c F n 0) k)) (matP (wholeM n c F)) :=
 E.le.trans (matRows_le (buildM_len _ _ _ _ _).symm) (.of_eq (by rw [buildM_done]))
open Go.RowKit Fp Pu
def eachFam (m : List (List Iv)) (g : FuncId) (cap : List E) (F : Nat → Nat → Iv) (x : Nat) : PS := ⟨44, true, [(15, .e (iP x)), (14, .e (iP m.length)), (13, .e (matP m)), (5, .own 12), (1, .e (.fn g cap))], [(12, .rows true 31 28 m.length 7 (lnE (buildM m.length (fun q => (m.getD q []).length) F x 0)) (rowsE (buildM m.length (fun q => (m.getD q []).length) F x 0)) .none)]⟩
def eachFamIn (m : List (List Iv)) (g : FuncId) (cap : List E) (F : Nat → Nat → Iv) (x : Nat) (k : Nat) : PS := ⟨44, true, [(22, .e (iP k)), (21, .e (iP (((m.getD x []).length : Nat) : Int))), (20, .e (ivsP (m.getD x []))), (6, .e (iP x)), (15, .e (iP x)), (14, .e (iP m.length)), (13, .e (matP m)), (5, .own 12), (1, .e (.fn g cap))], [(12, .rows true 31 28 m.length 7 (lnE (buildM m.length (fun q => (m.getD q []).length) F x k)) (rowsE (buildM m.length (fun q => (m.getD q []).length) F x k)) .none)]⟩
theorem matEach_pc (m : List (List Iv)) (g : FuncId) (cap : List E) (F : Nat → Nat → Iv) (hl : m.length ≤ 1000) (hr : ∀ i, (m.getD i []).length ≤ 1000) (hf : ∀ i j, i < m.length → j < (m.getD i []).length → PCt g (iP (i : Int) :: iP (j : Int) :: ivP ((m.getD i []).getD j wholeI) :: cap) (ivP (F i j))) : PCt 124 [(matP m), (.fn g cap)] (matP (wholeM m.length (fun q => (m.getD q []).length) F)) := by
 exact tr true Tryz.call124 Tryz.func124 (chain [.a (by omega : 0 ≤ ((m.length : Int) : Int) ∧ ((m.length : Int) : Int) ≤ ((m.length : Int) : Int)),
  .a (by omega : ((24 : Nat) : Int) * (m.length : Int) ≤ 281474976710656 ∧ ((m.length : Int) : Int) ≤ 9223372036854775807),
  .s (Sp.upto (eachFam m g cap F) 0 m.length (by omega) (fun x hx hltx => by
    have hx2 := hr x
    exact spt (chain [tT 16 ((x : Int) < (m.length : Int)) (by omega), iX ((x : Int)) (m.length) (by omega),
     .s (Sp.upto (eachFamIn m g cap F x) 0 ((m.getD x []).length) (by omega) (fun k hk hltk => by
    have hx2 := hr x
    have hle : lnE (buildM m.length (fun q => (m.getD q []).length) F x k) x = k := lnE_at (by omega)
    have h1 := one_len (F x k)
    exact spt (chain [tT 23 ((k : Int) < (((m.getD x []).length : Nat) : Int)) (by omega), iX ((k : Int)) ((m.getD x []).length) (by omega), iX ((x : Int)) (m.length) (by omega), .a (by omega : x < m.length),
     .c (hf x k (by omega) (by omega) : PCt g ((iP x) :: (iP k) :: (ivP ((m.getD x []).getD k wholeI)) :: cap) _),
     .o 38 (.e (ivs1_le _) : PV.le (.e (.sl true 1 7 fun i_ j_ => (ivL (F x k)).getD (i_ * 7 + j_) (.v (.bool false)))) (.e (ivsP [(F x k)]))), .a (by omega : x < m.length),
     .a (by omega : ((lnE (buildM m.length (fun q => (m.getD q []).length) F x k)) x + [(F x k)].length) * 88 ≤ 140737488355328), iX ((x : Int)) (m.length) (by omega), .a (rfl : x = x), .a (rfl : x = x), .a (by omega : x < m.length),
     r64 ((k : Int) + 1) (by omega)] <| .e (chain [.b 12 (rows_push rfl (by omega) (by omega) rfl : Bx.le (.rows true 31 28 m.length 7 (fun q => if q = x then (lnE (buildM m.length (fun q => (m.getD q []).length) F x k)) q + [(F x k)].length else (lnE (buildM m.length (fun q => (m.getD q []).length) F x k)) q) (fun q i j => if q = x then (if i < (lnE (buildM m.length (fun q => (m.getD q []).length) F x k)) q then (rowsE (buildM m.length (fun q => (m.getD q []).length) F x k)) q i j else (E.elf (ivsP [(F x k)])) (i - (lnE (buildM m.length (fun q => (m.getD q []).length) F x k)) q) j) else (rowsE (buildM m.length (fun q => (m.getD q []).length) F x k)) q i j) .none) (.rows true 31 28 m.length 7 (lnE (buildM m.length (fun q => (m.getD q []).length) F x (k + 1))) (rowsE (buildM m.length (fun q => (m.getD q []).length) F x (k + 1))) .none))] <| .nil)) (by kernel_rfl))
  (fun hk => by
    exact spt (chain [tF 23 ((((m.getD x []).length : Nat) : Int) < (((m.getD x []).length : Nat) : Int)) (by omega)] <| .nil) (by kernel_rfl)) (by nofun) : LpT 6 Tryz.f124 (eachFamIn m g cap F x 0) (.exit 2) ⟨44, true, [(15, .e (iP x)), (14, .e (iP m.length)), (13, .e (matP m)), (5, .own 12), (1, .e (.fn g cap))], [(12, .rows true 31 28 m.length 7 (lnE (buildM m.length (fun q => (m.getD q []).length) F x ((m.getD x []).length))) (rowsE (buildM m.length (fun q => (m.getD q []).length) F x ((m.getD x []).length))) .none)]⟩) .nil,
     r64 ((x : Int) + 1) (by omega)] <| .e (chain [.b 12 (rows_next rfl : Bx.le (.rows true 31 28 m.length 7 (lnE (buildM m.length (fun q => (m.getD q []).length) F x ((m.getD x []).length))) (rowsE (buildM m.length (fun q => (m.getD q []).length) F x ((m.getD x []).length))) .none) (.rows true 31 28 m.length 7 (lnE (buildM m.length (fun q => (m.getD q []).length) F (x + 1) 0)) (rowsE (buildM m.length (fun q => (m.getD q []).length) F (x + 1) 0)) .none))] <| .nil)) (by kernel_rfl))
  (fun hx => by
    exact spt (chain [tF 16 ((m.length : Int) < (m.length : Int)) (by omega)] <| .nil) (by kernel_rfl)) (by nofun) : LpT 3 Tryz.f124 (eachFam m g cap F 0) (.exit 0) ⟨44, true, [(5, .own 12)], [(12, .rows true 31 28 m.length 7 (lnE (buildM m.length (fun q => (m.getD q []).length) F m.length 0)) (rowsE (buildM m.length (fun q => (m.getD q []).length) F m.length 0)) .none)]⟩) (chain [.b 12 (rows_init rfl : Bx.le (.rows true 31 28 m.length 7 (fun _ => 0) (fun _ _ _ => .any) .none) (.rows true 31 28 m.length 7 (lnE (buildM m.length (fun q => (m.getD q []).length) F 0 0)) (rowsE (buildM m.length (fun q => (m.getD q []).length) F 0 0)) .none))] <| .nil)] <| rR (matP (wholeM m.length (fun q => (m.getD q []).length) F)) (by
      rw [← buildM_done]; exact matRows_le (buildM_len _ _ _ _ _).symm : E.le (.sl true m.length 1 fun k_ _ => .sl true ((lnE (buildM m.length (fun q => (m.getD q []).length) F m.length 0)) k_) 7 ((rowsE (buildM m.length (fun q => (m.getD q []).length) F m.length 0)) k_)) (matP (wholeM m.length (fun q => (m.getD q []).length) F)))) (by kernel_rfl)
open Go.RowKit Fp Pu
theorem Fp.MOk.len_at {m : List (List Iv)} {n k : Nat} (h : MOk m n k) {i : Nat} (hi : i < n) : (m.getD i []).length = k := by
 have hi' : i < m.length := by rw [h.rows]; exact hi
 rw [List.getD_eq_getElem?_getD, List.getElem?_eq_getElem hi']
 exact h.row _ (List.getElem_mem hi')
theorem Fp.MOk.val_at {m : List (List Iv)} {n k : Nat} (h : MOk m n k) {i j : Nat} (hi : i < n) (hj : j < k) : ((m.getD i []).getD j wholeI).Valid := by
 have hi' : i < m.length := by rw [h.rows]; exact hi
 have hl := h.len_at hi
 rw [List.getD_eq_getElem?_getD (l := m), List.getElem?_eq_getElem hi'] at hl ⊢
 change m[i].length = k at hl
 show (m[i].getD j wholeI).Valid
 have hj' : j < m[i].length := by rw [hl]; exact hj
 rw [List.getD_eq_getElem?_getD, List.getElem?_eq_getElem hj']
 exact h.ok _ (List.getElem_mem hi') _ (List.getElem_mem hj')
theorem Fp.MOk.len_le {m : List (List Iv)} {n k : Nat} (h : MOk m n k) (i : Nat) : (m.getD i []).length ≤ 8 := by
 by_cases hi : i < n
 ·rw [h.len_at hi]; exact h.k8
 ·rw [List.getD_eq_getElem?_getD, List.getElem?_eq_none (by rw [h.rows]; omega)]; exact Nat.zero_le _
theorem rawsM_getD (m : List (List Iv)) (i : Nat) : (rawsM m).getD i [] = rawsI (m.getD i []) := by
 unfold rawsM
 rw [List.getD_eq_getElem?_getD, List.getD_eq_getElem?_getD, List.getElem?_map]
 cases m[i]? <;> rfl
theorem Fp.MOk.good {m : List (List Iv)} {n k : Nat} (h : MOk m n k) : MGood (rawsM m) := by
 intro r hr x hx
 obtain ⟨r', h1, rfl⟩ := List.mem_map.1 hr
 obtain ⟨x', h2, rfl⟩ := List.mem_map.1 hx
 exact (h.ok _ h1 _ h2).good
theorem Fp.MOk.rok {m : List (List Iv)} {n k : Nat} (h : MOk m n k) : ROk (rawsM m) := by
 have hl : (rawsM m).length = n := by rw [← h.rows]; simp [rawsM]
 have hrow : ∀ i, i < n → ((rawsM m).getD i []).length = k := fun i hi => by rw [rawsM_getD, ← h.len_at hi]; simp [rawsI]
 have h1 := h.n1
 refine ⟨by have := h.n1; omega, by have := h.n8; omega, by rw [hrow 0 (by omega)]; exact h.k1, by rw [hrow 0 (by omega)]; exact h.k8, fun i hi => by rw [hrow 0 (by omega), hrow i (by omega)], fun i hi j hj => ?_⟩
 have hi' : i < n := by omega
 rw [hrow i hi'] at hj
 rw [rawsM_getD, getD_map_raw]
 exact (h.val_at hi' hj).okR
theorem matValid_pc (m : List (List Iv)) (n k : Nat) (h : MOk m n k) : PCt 103 [matP m] (bP true) := by
 have := matValidR_pc (rawsM m) h.good (by have := h.n8; simp [rawsM, h.rows]; omega) (fun i => by rw [rawsM_getD]; have := h.len_le i; simp only [rawsI, List.length_map]; omega)
 rwa [matOkB_true.2 h.rok, matP_raw] at this
theorem entry1_pc (i j : Nat) (x : Iv) (b : List (List Iv)) (p : Nat) (hx : x.Valid) (hy : ((b.getD i []).getD j wholeI).Valid) (hi : i < b.length) (hj : j < (b.getD i []).length) (hp1 : 8 ≤ p) (hp2 : p ≤ 512) : PCt 187 [(iP i), (iP j), (ivP x), (.ref 1 fun j_ => [(.fn 48 [])].getD j_ .any), (.ref 1 fun j_ => [(matP b)].getD j_ .any), (.ref 1 fun j_ => [(iP p)].getD j_ .any)] (ivP (addI x ((b.getD i []).getD j wholeI) p)) := by
 exact tr true Tryz.call187 Tryz.func187 (chain [iX ((i : Int)) (b.length) (by omega), iX ((j : Int)) ((b.getD i []).length) (by omega), .c (ivAdd_pc x ((b.getD i []).getD j wholeI) p ‹_› ‹_› (by omega) (by omega))] <| .nil) (by kernel_rfl)
theorem entrywise_pc (a b : List (List Iv)) (n k p : Nat) (ga : MOk a n k) (gb : MOk b n k) (hp1 : 8 ≤ p) (hp2 : p ≤ 512) : PCt 131 [(matP a), (matP b), (iP p), (.fn 48 [])] (.tup [matP (wholeM a.length (fun q => (a.getD q []).length) (fun i j => addI ((a.getD i []).getD j wholeI) ((b.getD i []).getD j wholeI) p)), iP 0]) := by
 have ra := ga.rows
 have rb := gb.rows
 have n1 := ga.n1
 have n8 := ga.n8
 have la := ga.len_at (show 0 < n by omega)
 have lb := gb.len_at (show 0 < n by omega)
 exact tr true Tryz.call131 Tryz.func131 (chain [.c (matValid_pc _ _ _ ‹_› : PCt 103 [(matP a)] _), .c (matValid_pc _ _ _ ‹_› : PCt 103 [(matP b)] _), .c (mxPrecise_pc _ : PCt 121 [(iP p)] _),
  tB 21 (precB_true.2 ⟨by omega, by omega⟩ : (precB (p : Int)) = true), tB 28 (natNe_false (by omega) : ((a.length : Int) != (b.length : Int)) = false), iX (0) (a.length) (by omega), iX (0) (b.length) (by omega),
  tB 38 (natNe_false (by omega) : ((((a.getD 0 []).length : Nat) : Int) != (((b.getD 0 []).length : Nat) : Int)) = false),
  .c (matEach_pc a 187 [(.ref 1 fun j_ => [(.fn 48 [])].getD j_ .any), (.ref 1 fun j_ => [(matP b)].getD j_ .any), (.ref 1 fun j_ => [(iP p)].getD j_ .any)] (fun i j => addI ((a.getD i []).getD j wholeI) ((b.getD i []).getD j wholeI) p) (by omega) (fun i => Nat.le_trans (ga.len_le i) (by decide)) (fun i j hi hj => entry1_pc _ _ _ _ _ (ga.val_at (by omega) (by rw [ga.len_at (by omega)] at hj; exact hj)) (gb.val_at (by omega) (by rw [ga.len_at (by omega)] at hj; exact hj)) (by omega) (by rw [gb.len_at (by omega)]; rw [ga.len_at (by omega)] at hj; exact hj) hp1 hp2))] <| .nil) (by kernel_rfl)
theorem wholeM_addM {a b : List (List Iv)} {n k p : Nat} (ga : MOk a n k) (gb : MOk b n k) : wholeM a.length (fun q => (a.getD q []).length) (fun i j => addI ((a.getD i []).getD j wholeI) ((b.getD i []).getD j wholeI) p) = addM a b p := by
 have ra := ga.rows
 have rb := gb.rows
 unfold wholeM addM
 apply List.ext_getElem
 ·simp [ra, rb]
 ·intro i h1 h2
  have hi : i < n := by simp at h1; omega
  simp only [List.getElem_map, List.getElem_range, List.getElem_zipWith]
  have ea : a.getD i [] = a[i]'(by omega) := by rw [List.getD_eq_getElem?_getD, List.getElem?_eq_getElem (by omega)]; rfl
  have eb : b.getD i [] = b[i]'(by omega) := by rw [List.getD_eq_getElem?_getD, List.getElem?_eq_getElem (by omega)]; rfl
  have la := ga.len_at hi
  have lb := gb.len_at hi
  rw [ea] at la
  rw [eb] at lb
  rw [ea, eb]
  apply List.ext_getElem
  ·simp [la, lb]
  ·intro j h3 h4
   have hj : j < k := by simp [la] at h3; exact h3
   simp only [List.getElem_map, List.getElem_range, List.getElem_zipWith]
   congr 1
   ·rw [List.getD_eq_getElem?_getD, List.getElem?_eq_getElem (by omega)]; rfl
   ·rw [List.getD_eq_getElem?_getD, List.getElem?_eq_getElem (by omega)]; rfl
theorem matAdd_pc (a b : List (List Iv)) (n k p : Nat) (ga : MOk a n k) (gb : MOk b n k) (hp1 : 8 ≤ p) (hp2 : p ≤ 512) : PCt 47 [(matP a), (matP b), (iP p)] (.tup [matP (addM a b p), iP 0]) := by
 exact tr true Tryz.call47 Tryz.func47 (chain [.c (entrywise_pc a b n k p ga gb hp1 hp2 : PCt 131 [(matP a), (matP b), (iP p), (.fn 48 [])] _)] <| rQ (.tup [(matP (wholeM a.length (fun q => (a.getD q []).length) (fun i j => addI ((a.getD i []).getD j wholeI) ((b.getD i []).getD j wholeI) p))), (iP 0)]) (.tup [matP (addM a b p), iP 0]) (by rw [wholeM_addM ga gb])) (by kernel_rfl)
open Go.RowKit Fp Pu
def Fp.dotP (X Y : Nat → Iv) (p : Nat) : Nat → Iv
 | 0 => mulI (X 0) (Y 0) p
 | k + 1 => addI (dotP X Y p k) (mulI (X (k + 1)) (Y (k + 1)) p) p
theorem dotP_valid (X Y : Nat → Iv) {p : Nat} (hp : 1 ≤ p) (hp2 : p ≤ 4096) : ∀ k, (dotP X Y p k).Valid
 | 0 => mulI_valid _ _ hp hp2
 | k + 1 => addI_valid (dotP_valid X Y hp hp2 k) (mulI_valid _ _ hp hp2) hp hp2
theorem foldl_dotP (x y : Iv) (p : Nat) : ∀ (a b : List Iv) (X Y : Nat → Iv) (s : Nat), a.length = b.length → (∀ i, i < a.length → a.getD i wholeI = X (s + 1 + i)) → (∀ i, i < b.length → b.getD i wholeI = Y (s + 1 + i)) →
  (a.zip b).foldl (fun s q => addI s (mulI q.1 q.2 p) p) (dotP X Y p s) = dotP X Y p (s + a.length)
 | [], [], X, Y, s, _, _, _ => rfl
 | [], _ :: _, _, _, _, h, _, _ => by simp at h
 | _ :: _, [], _, _, _, h, _, _ => by simp at h
 | u :: a, v :: b, X, Y, s, h, h1, h2 => by
  have e1 : u = X (s + 1) := h1 0 (by simp)
  have e2 : v = Y (s + 1) := h2 0 (by simp)
  rw [List.zip_cons_cons, List.foldl_cons]
  have : addI (dotP X Y p s) (mulI u v p) p = dotP X Y p (s + 1) := by rw [e1, e2]; rfl
  rw [this, foldl_dotP x y p a b X Y (s + 1) (by simpa using h) (fun i hi => by
    have := h1 (i + 1) (by simp; omega)
    rw [show s + 1 + 1 + i = s + 1 + (i + 1) by omega, ← this]; rfl) (fun i hi => by
    have := h2 (i + 1) (by simp; omega)
    rw [show s + 1 + 1 + i = s + 1 + (i + 1) by omega, ← this]; rfl)]
  congr 1
  simp; omega
theorem dotI_dotP {xs ys : List Iv} {p n : Nat} (h1 : xs.length = n + 1) (h2 : ys.length = n + 1) : dotI xs ys p = dotP (fun q => xs.getD q wholeI) (fun q => ys.getD q wholeI) p n := by
 match xs, ys, h1, h2 with
 | x :: a, y :: b, h1, h2 =>
  have ha : a.length = n := by simpa using h1
  have hb : b.length = n := by simpa using h2
  have := foldl_dotP x y p a b (fun q => (x :: a).getD q wholeI) (fun q => (y :: b).getD q wholeI) 0 (by omega) (fun i hi => by rw [show 0 + 1 + i = i + 1 by omega]; rfl) (fun i hi => by rw [show 0 + 1 + i = i + 1 by omega]; rfl)
  rw [Nat.zero_add, ha] at this
  exact this
theorem getD_eq_getElem {α : Type} {l : List α} {i : Nat} {d : α} (h : i < l.length) : l.getD i d = l[i] := by
 rw [List.getD_eq_getElem?_getD, List.getElem?_eq_getElem h]; rfl
theorem wholeM_mulM {a b : List (List Iv)} {n k c p : Nat} (ra : a.length = n) (la : ∀ i, i < n → (a.getD i []).length = k + 1) (rb : b.length = k + 1) (lb : (b.getD 0 []).length = c) :
  wholeM n (fun _ => c) (fun i j => dotP (fun q => (a.getD i []).getD q wholeI) (fun q => (b.getD q []).getD j wholeI) p k) = mulM a b p := by
 unfold wholeM mulM
 have hb : (b.headD []).length = c := by
  rw [← lb]
  cases b with
  | nil => rfl
  | cons r b => rfl
 rw [hb]
 apply List.ext_getElem
 ·simp [ra]
 ·intro i h1 h2
  have hi : i < n := by simp at h1; omega
  have hi2 : i < a.length := by omega
  simp only [List.getElem_map, List.getElem_range]
  apply List.map_congr_left
  intro j _
  have e := la i hi
  rw [getD_eq_getElem hi2] at e ⊢
  rw [dotI_dotP e (show (colM b j).length = k + 1 by simp [colM, rb])]
  congr 1
  funext q
  unfold colM
  by_cases hq : q < b.length
  ·rw [getD_eq_getElem (l := b.map _) (by simpa using hq), getD_eq_getElem hq]; simp
  ·rw [List.getD_eq_getElem?_getD (l := b.map _), List.getElem?_eq_none (by simpa using hq), List.getD_eq_getElem?_getD (l := b), List.getElem?_eq_none (by omega)]; simp
theorem wholeM_scaleM {a : List (List Iv)} {x : Iv} {p : Nat} : wholeM a.length (fun q => (a.getD q []).length) (fun i j => mulI x ((a.getD i []).getD j wholeI) p) = scaleM a x p := by
 unfold wholeM scaleM
 apply List.ext_getElem
 ·simp
 ·intro i h1 h2
  have hi : i < a.length := by simp at h1; omega
  simp only [List.getElem_map, List.getElem_range]
  rw [getD_eq_getElem hi]
  apply List.ext_getElem
  ·simp
  ·intro j h3 h4
   have hj : j < a[i].length := by simpa using h3
   simp only [List.getElem_map, List.getElem_range]
   rw [getD_eq_getElem hj]
theorem wholeM_ok {n k : Nat} {F : Nat → Nat → Iv} (h1 : 1 ≤ n) (h2 : n ≤ 8) (h3 : 1 ≤ k) (h4 : k ≤ 8) (hv : ∀ i j, (F i j).Valid) : MOk (wholeM n (fun _ => k) F) n k := by
 refine ⟨by simp [wholeM], fun r hr => ?_, fun r hr x hx => ?_, h1, h2, h3, h4⟩
 ·obtain ⟨i, _, rfl⟩ := List.mem_map.1 hr; simp
 ·obtain ⟨i, _, rfl⟩ := List.mem_map.1 hr
  obtain ⟨j, _, rfl⟩ := List.mem_map.1 hx
  exact hv i j
theorem ivs_pushR {T n n' k : Nat} {F : Nat → Iv} {y : Iv} (hn : n = k) (hn' : n' = k + 1) (hy : y = F k) :
  Bx.le (.row true T (n + [y].length) 7 fun i j => if i < n then ivsE ((List.range k).map F) i j else (E.elf (ivsP [y])) (i - n) j) (.row true T n' 7 (ivsE ((List.range (k + 1)).map F))) := by
 subst hn hn' hy
 refine .row rfl fun i j hi hj => ⟨.of_eq ?_, ivL_nr _ _ hj⟩
 have hi : i < n + 1 := hi
 by_cases h : i < n
 ·rw [if_pos h]
  simp only [ivsE]
  rw [range_getD h, range_getD hi]
 ·have hi' : i = n := by omega
  subst hi'
  rw [if_neg h, Nat.sub_self]
  simp only [ivsE]
  rw [range_getD hi]
  rfl
theorem rows_getD {n i : Nat} {R : Nat → List Iv} (h : i < n) : ((List.range n).map R).getD i [] = R i := by simp [List.getD_eq_getElem?_getD, h]
theorem mat_pushR {T n n' k m : Nat} {R : Nat → List Iv} {p : E} (hn : n = k) (hn' : n' = k + 1) (hm : m = 1) (hp : ∀ j, j < 1 → p.elf 0 j = ivsP (R k)) :
  Bx.le (.row true T (n + m) 1 fun i j => if i < n then matE ((List.range k).map R) i j else (E.elf p) (i - n) j) (.row true T n' 1 (matE ((List.range (k + 1)).map R))) := by
 subst hn hn' hm
 refine .row rfl fun i j hi hj => ⟨.of_eq ?_, ivsP_nr _⟩
 by_cases h : i < n
 ·rw [if_pos h]
  simp only [matE]
  rw [rows_getD h, rows_getD hi]
 ·have hi' : i = n := by omega
  subst hi'
  rw [if_neg h, Nat.sub_self, hp j hj]
  simp only [matE]
  rw [rows_getD hi]
theorem matRow_le {n : Nat} {M : List (List Iv)} (hn : n = M.length) : E.le (.sl true n 1 (matE M)) (matP M) := by subst hn; exact .refl _
theorem ivsRow_le {n : Nat} {M : List Iv} (hn : n = M.length) : E.le (.sl true n 7 (ivsE M)) (ivsP M) := by subst hn; exact .refl _
open Go.RowKit Fp Pu
abbrev vda0 (a : List (List Iv)) (b : List (List Iv)) (p) := fun i j => dotP (fun q => (a.getD i []).getD q wholeI) (fun q => (b.getD q []).getD j wholeI) p ((a.getD i []).length - 1)
abbrev vda1 (a : List (List Iv)) (x) (b : List (List Iv)) (k) (p) := dotP (fun q => (a.getD x []).getD q wholeI) (fun q => (b.getD q []).getD k wholeI) p ((a.getD x []).length - 1)
def dotFam (r : List Iv) (g : FuncId) (cap : List E) (Y : Nat → Iv) (p : Nat) (c : Nat) : PS := ⟨35, true, [(8, .e (iP (((c + 1) : Nat) : Int))), (7, .box 7 0), (6, .box 6 0), (0, .e (ivsP r)), (1, .e (.fn g cap)), (2, .e (iP p))], [(7, .cells 28 (ivL (dotP (fun q => r.getD q wholeI) Y p c))), (6, .cells 28 [(bP false), (.v (.slice none 0 0)), (iP 0), (bP false), (.v (.slice none 0 0)), (iP 0), (bP false)])]⟩
def mulMFam (a b : List (List Iv)) (p : Nat) (x : Nat) : PS := ⟨66, true, [(37, .e (iP x)), (36, .e (iP a.length)), (8, .own 34), (4, .box 4 0), (0, .e (matP a)), (2, .e (iP p))], [(34, .rows true 31 28 a.length 7 (lnE (buildM a.length (fun _ => (b.getD 0 []).length) (vda0 a b p) x 0)) (rowsE (buildM a.length (fun _ => (b.getD 0 []).length) (vda0 a b p) x 0)) .none), (4, .cells 32 [(matP b)])]⟩
def mulMFamIn (a b : List (List Iv)) (p : Nat) (x : Nat) (k : Nat) : PS := ⟨66, true, [(44, .e (iP k)), (43, .e (iP (((b.getD 0 []).length : Nat) : Int))), (9, .e (iP x)), (37, .e (iP x)), (36, .e (iP a.length)), (8, .own 34), (4, .box 4 0), (0, .e (matP a)), (2, .e (iP p))], [(34, .rows true 31 28 a.length 7 (lnE (buildM a.length (fun _ => (b.getD 0 []).length) (vda0 a b p) x k)) (rowsE (buildM a.length (fun _ => (b.getD 0 []).length) (vda0 a b p) x k)) .none), (4, .cells 32 [(matP b)])]⟩
theorem dot_pc (r : List Iv) (g : FuncId) (cap : List E) (Y : Nat → Iv) (p : Nat) (hl : r.length ≤ 1000) (h0 : 0 < r.length) (hr : ∀ i, i < r.length → (r.getD i wholeI).Valid) (hy : ∀ i, (Y i).Valid) (hg : ∀ i, i < r.length → PCt g (iP (i : Int) :: cap) (ivP (Y i))) (hp1 : 8 ≤ p) (hp2 : p ≤ 512) : PCt 122 [(ivsP r), (.fn g cap), (iP p)] (ivP (dotP (fun q => r.getD q wholeI) Y p (r.length - 1))) := by
 have w1 := hr 0 h0
 have w2 := hy 0
 exact tr true Tryz.call122 Tryz.func122 (chain [iX (0) (r.length) (by omega), .c (hg 0 (by omega) : PCt g ((iP 0) :: cap) _), .c (ivMul_pc (r.getD 0 wholeI) (Y 0) p ‹_› ‹_› (by omega) (by omega)),
  .s (Sp.upto (dotFam r g cap Y p) 0 (r.length - 1) (by omega) (fun c hc hltc => by
    have w1 := hr (c + 1) (by omega)
    have w2 := hy (c + 1)
    have w3 := dotP_valid (fun q => r.getD q wholeI) Y (show 1 ≤ p by omega) (by omega) c
    have w4 := mulI_valid (r.getD (c + 1) wholeI) (Y (c + 1)) (show 1 ≤ p by omega) (by omega)
    exact spt (chain [tT 19 ((((c + 1) : Nat) : Int) < (r.length : Int)) (by omega), iX ((((c + 1) : Nat) : Int)) (r.length) (by omega), .c (hg (c + 1) (by omega) : PCt g ((iP (((c + 1) : Nat) : Int)) :: cap) _),
     .c (ivMul_pc (r.getD (c + 1) wholeI) (Y (c + 1)) p ‹_› ‹_› (by omega) (by omega)),
     .c (ivAdd_pc (dotP (fun q => r.getD q wholeI) Y p c) (mulI (r.getD (c + 1) wholeI) (Y (c + 1)) p) p ‹_› ‹_› (by omega) (by omega)), r64 ((((c + 1) : Nat) : Int) + 1) (by omega)] <| .e (chain [.b 7 (.of_eq rfl : Bx.le (.cells 28 (ivL (addI (dotP (fun q => r.getD q wholeI) Y p c) (mulI (r.getD (c + 1) wholeI) (Y (c + 1)) p) p))) (.cells 28 (ivL (dotP (fun q => r.getD q wholeI) Y p (c + 1)))))] <| .nil)) (by kernel_rfl))
  (fun hc => by
    exact spt (chain [tF 19 (((((r.length - 1) + 1) : Nat) : Int) < (r.length : Int)) (by omega)] <| .nil) (by kernel_rfl)) (by nofun) : LpT 3 Tryz.f122 (dotFam r g cap Y p 0) (.exit 0) ⟨35, true, [(7, .box 7 0), (6, .box 6 0)], [(7, .cells 28 (ivL (dotP (fun q => r.getD q wholeI) Y p (r.length - 1)))), (6, .cells 28 [(bP false), (.v (.slice none 0 0)), (iP 0), (bP false), (.v (.slice none 0 0)), (iP 0), (bP false)])]⟩) (chain [.o 8 (.int (by first | rfl | omega | (simp only [Nat.add_mul, Nat.one_mul]; omega)) : PV.le (.e (iP 1)) (.e (iP (((0 + 1) : Nat) : Int)))),
  .b 7 (.of_eq rfl : Bx.le (.cells 28 (ivL (mulI (r.getD 0 wholeI) (Y 0) p))) (.cells 28 (ivL (dotP (fun q => r.getD q wholeI) Y p 0))))] <| .nil)] <| .nil) (by kernel_rfl)
theorem mul1_pc (q j : Nat) (b : List (List Iv)) (hq : q < b.length) (hj : j < (b.getD q []).length) : PCt 123 [(iP q), (.ref 1 fun j_ => [(matP b)].getD j_ .any), (.ref 1 fun j_ => [(iP j)].getD j_ .any)] (ivP ((b.getD q []).getD j wholeI)) := by
 exact tr true Tryz.call123 Tryz.func123 (chain [iX ((q : Int)) (b.length) (by omega), iX ((j : Int)) ((b.getD q []).length) (by omega)] <| .nil) (by kernel_rfl)
theorem elV {b : List (List Iv)} {k c : Nat} (gb : MOk b k c) (q j : Nat) : ((b.getD q []).getD j wholeI).Valid := by
 by_cases hq : q < k
 ·by_cases hj : j < c
  ·exact gb.val_at hq hj
  ·rw [List.getD_eq_getElem?_getD, List.getElem?_eq_none (by rw [gb.len_at hq]; omega)]; exact wholeI_valid
 ·rw [List.getD_eq_getElem?_getD (l := b), List.getElem?_eq_none (by rw [gb.rows]; omega)]; exact wholeI_valid
theorem matMul_pc (a b : List (List Iv)) (p : Nat) (n k c : Nat) (ga : MOk a n k) (gb : MOk b k c) (hp1 : 8 ≤ p) (hp2 : p ≤ 512) : PCt 43 [(matP a), (matP b), (iP p)] (.tup [matP (mulM a b p), iP 0]) := by
 have ra := ga.rows
 have rb := gb.rows
 have n1 := ga.n1
 have n8 := ga.n8
 have kk1 := ga.k1
 have kk8 := ga.k8
 have cc8 := gb.k8
 have la := ga.len_at (show 0 < n by omega)
 have lb := gb.len_at (show 0 < k by omega)
 have ew : wholeM a.length (fun _ => (b.getD 0 []).length) (fun i j => dotP (fun q => (a.getD i []).getD q wholeI) (fun q => (b.getD q []).getD j wholeI) p ((a.getD i []).length - 1)) = mulM a b p := by
  rw [← wholeM_mulM (n := n) (k := k - 1) (c := c) (a := a) (b := b) (p := p) ra (fun i hi => by rw [ga.len_at hi]; omega) (by omega) lb, ra, lb]
  unfold wholeM
  apply List.map_congr_left
  intro i hi
  have e := ga.len_at (List.mem_range.1 hi)
  simp only [e]
 exact tr true Tryz.call43 Tryz.func43 (chain [.c (matValid_pc _ _ _ ‹_› : PCt 103 [(matP a)] _), .c (matValid_pc _ _ _ ‹_› : PCt 103 [(matP b)] _), .c (mxPrecise_pc _ : PCt 121 [(iP p)] _),
  tB 22 (precB_true.2 ⟨by omega, by omega⟩ : (precB (p : Int)) = true), iX (0) (a.length) (by omega), tB 31 (natNe_false (by omega) : ((((a.getD 0 []).length : Nat) : Int) != (b.length : Int)) = false),
  .a (by omega : 0 ≤ ((a.length : Int) : Int) ∧ ((a.length : Int) : Int) ≤ ((a.length : Int) : Int)),
  .a (by omega : ((24 : Nat) : Int) * (a.length : Int) ≤ 281474976710656 ∧ ((a.length : Int) : Int) ≤ 9223372036854775807),
  .s (Sp.upto (mulMFam a b p) 0 a.length (by omega) (fun x hx hltx => by
    have lax := ga.len_at (show x < n by omega)
    exact spt (chain [tT 38 ((x : Int) < (a.length : Int)) (by omega), iX (0) (b.length) (by omega),
     .s (Sp.upto (mulMFamIn a b p x) 0 ((b.getD 0 []).length) (by omega) (fun k hk hltk => by
    have hle : lnE (buildM a.length (fun _ => (b.getD 0 []).length) (fun i j => dotP (fun q => (a.getD i []).getD q wholeI) (fun q => (b.getD q []).getD j wholeI) p ((a.getD i []).length - 1)) x k) x = k := lnE_at (by omega)
    have h1 := one_len (dotP (fun q => (a.getD x []).getD q wholeI) (fun q => (b.getD q []).getD k wholeI) p ((a.getD x []).length - 1))
    exact spt (chain [tT 45 ((k : Int) < (((b.getD 0 []).length : Nat) : Int)) (by omega), iX ((x : Int)) (a.length) (by omega), .a (by omega : x < a.length), iX ((x : Int)) (a.length) (by omega),
     .c (dot_pc _ 123 _ (fun q => (b.getD q []).getD k wholeI) p (by omega) (by omega) (fun q hq => ga.val_at (by omega) (by rw [lax] at hq; exact hq)) (fun q => elV gb q k) (fun q hq => mul1_pc q k b (by omega) (by rw [gb.len_at (by omega)]; omega)) (by omega) (by omega) : PCt 122 [(ivsP (a.getD x [])), (.fn 123 [(.ref 1 fun j_ => [(matP b)].getD j_ .any), (.ref 1 fun j_ => [(iP k)].getD j_ .any)]), (iP p)] _),
     .o 60 (.e (ivs1_le _) : PV.le (.e (.sl true 1 7 fun i_ j_ => (ivL (vda1 a x b k p)).getD (i_ * 7 + j_) (.v (.bool false)))) (.e (ivsP [(vda1 a x b k p)]))),
     .a (by omega : x < a.length),
     .a (by omega : ((lnE (buildM a.length (fun _ => (b.getD 0 []).length) (fun i j => dotP (fun q => (a.getD i []).getD q wholeI) (fun q => (b.getD q []).getD j wholeI) p ((a.getD i []).length - 1)) x k)) x + [(dotP (fun q => (a.getD x []).getD q wholeI) (fun q => (b.getD q []).getD k wholeI) p ((a.getD x []).length - 1))].length) * 88 ≤ 140737488355328),
     iX ((x : Int)) (a.length) (by omega), .a (rfl : x = x), .a (rfl : x = x), .a (by omega : x < a.length), r64 ((k : Int) + 1) (by omega)] <| .e (chain [.b 34 (rows_push rfl (by omega) (by omega) rfl : Bx.le (.rows true 31 28 a.length 7 (fun q => if q = x then (lnE (buildM a.length (fun _ => (b.getD 0 []).length) (vda0 a b p) x k)) q + [(vda1 a x b k p)].length else (lnE (buildM a.length (fun _ => (b.getD 0 []).length) (vda0 a b p) x k)) q) (fun q i j => if q = x then (if i < (lnE (buildM a.length (fun _ => (b.getD 0 []).length) (vda0 a b p) x k)) q then (rowsE (buildM a.length (fun _ => (b.getD 0 []).length) (vda0 a b p) x k)) q i j else (E.elf (ivsP [(vda1 a x b k p)])) (i - (lnE (buildM a.length (fun _ => (b.getD 0 []).length) (vda0 a b p) x k)) q) j) else (rowsE (buildM a.length (fun _ => (b.getD 0 []).length) (vda0 a b p) x k)) q i j) .none) (.rows true 31 28 a.length 7 (lnE (buildM a.length (fun _ => (b.getD 0 []).length) (vda0 a b p) x (k + 1))) (rowsE (buildM a.length (fun _ => (b.getD 0 []).length) (vda0 a b p) x (k + 1))) .none))] <| .nil)) (by kernel_rfl))
  (fun hk => by
    exact spt (chain [tF 45 ((((b.getD 0 []).length : Nat) : Int) < (((b.getD 0 []).length : Nat) : Int)) (by omega)] <| .nil) (by kernel_rfl)) (by nofun) : LpT 12 Tryz.f43 (mulMFamIn a b p x 0) (.exit 3) ⟨66, true, [(37, .e (iP x)), (36, .e (iP a.length)), (8, .own 34), (4, .box 4 0), (0, .e (matP a)), (2, .e (iP p))], [(34, .rows true 31 28 a.length 7 (lnE (buildM a.length (fun _ => (b.getD 0 []).length) (vda0 a b p) x ((b.getD 0 []).length))) (rowsE (buildM a.length (fun _ => (b.getD 0 []).length) (vda0 a b p) x ((b.getD 0 []).length))) .none), (4, .cells 32 [(matP b)])]⟩) .nil,
     r64 ((x : Int) + 1) (by omega)] <| .e (chain [.b 34 (rows_next rfl : Bx.le (.rows true 31 28 a.length 7 (lnE (buildM a.length (fun _ => (b.getD 0 []).length) (vda0 a b p) x ((b.getD 0 []).length))) (rowsE (buildM a.length (fun _ => (b.getD 0 []).length) (vda0 a b p) x ((b.getD 0 []).length))) .none) (.rows true 31 28 a.length 7 (lnE (buildM a.length (fun _ => (b.getD 0 []).length) (vda0 a b p) (x + 1) 0)) (rowsE (buildM a.length (fun _ => (b.getD 0 []).length) (vda0 a b p) (x + 1) 0)) .none))] <| .nil)) (by kernel_rfl))
  (fun hx => by
    exact spt (chain [tF 38 ((a.length : Int) < (a.length : Int)) (by omega)] <| .nil) (by kernel_rfl)) (by nofun) : LpT 9 Tryz.f43 (mulMFam a b p 0) (.exit 1) ⟨66, true, [(8, .own 34)], [(34, .rows true 31 28 a.length 7 (lnE (buildM a.length (fun _ => (b.getD 0 []).length) (vda0 a b p) a.length 0)) (rowsE (buildM a.length (fun _ => (b.getD 0 []).length) (vda0 a b p) a.length 0)) .none)]⟩) (chain [.b 34 (rows_init rfl : Bx.le (.rows true 31 28 a.length 7 (fun _ => 0) (fun _ _ _ => .any) .none) (.rows true 31 28 a.length 7 (lnE (buildM a.length (fun _ => (b.getD 0 []).length) (vda0 a b p) 0 0)) (rowsE (buildM a.length (fun _ => (b.getD 0 []).length) (vda0 a b p) 0 0)) .none))] <| .nil)] <| rR (.tup [matP (mulM a b p), iP 0]) (by
      rw [← ew, ← buildM_done]; exact .tup (.cons (matRows_le (buildM_len _ _ _ _ _).symm) (.cons (.refl _) .nil)) : E.le (.tup [(.sl true a.length 1 fun k_ _ => .sl true ((lnE (buildM a.length (fun _ => (b.getD 0 []).length) (fun i j => dotP (fun q => (a.getD i []).getD q wholeI) (fun q => (b.getD q []).getD j wholeI) p ((a.getD i []).length - 1)) a.length 0)) k_) 7 ((rowsE (buildM a.length (fun _ => (b.getD 0 []).length) (fun i j => dotP (fun q => (a.getD i []).getD q wholeI) (fun q => (b.getD q []).getD j wholeI) p ((a.getD i []).length - 1)) a.length 0)) k_)), (iP 0)]) (.tup [matP (mulM a b p), iP 0]))) (by kernel_rfl)
theorem scale1_pc (i j : Nat) (x y : Iv) (p : Nat) (hx : x.Valid) (hy : y.Valid) (hp1 : 8 ≤ p) (hp2 : p ≤ 512) : PCt 125 [(iP i), (iP j), (ivP y), (.ref 7 fun j_ => [(bP x.lo.neg), (slP (limbs x.lo.m)), (iP x.lo.e), (bP x.hi.neg), (slP (limbs x.hi.m)), (iP x.hi.e), (bP x.all)].getD j_ .any), (.ref 1 fun j_ => [(iP p)].getD j_ .any)] (ivP (mulI x y p)) := by
 exact tr true Tryz.call125 Tryz.func125 (chain [.c (ivMul_pc x y p ‹_› ‹_› (by omega) (by omega))] <| .nil) (by kernel_rfl)
theorem matScale_pc (a : List (List Iv)) (x : Iv) (n k p : Nat) (ga : MOk a n k) (hx : x.Valid) (hp1 : 8 ≤ p) (hp2 : p ≤ 512) : PCt 44 [(matP a), (ivP x), (iP p)] (matP (scaleM a x p)) := by
 have ra := ga.rows
 have n8 := ga.n8
 exact tr true Tryz.call44 Tryz.func44 (chain [.c (matValid_pc _ _ _ ‹_› : PCt 103 [(matP a)] _), .c (ivValid_pc x ‹_›), .c (mxPrecise_pc _ : PCt 121 [(iP p)] _), tB 17 (precB_true.2 ⟨by omega, by omega⟩ : (precB (p : Int)) = true),
  .c (matEach_pc a 125 [(.ref 7 fun j_ => [(bP x.lo.neg), (slP (limbs x.lo.m)), (iP x.lo.e), (bP x.hi.neg), (slP (limbs x.hi.m)), (iP x.hi.e), (bP x.all)].getD j_ .any), (.ref 1 fun j_ => [(iP p)].getD j_ .any)] (fun i j => mulI x ((a.getD i []).getD j wholeI) p) (by omega) (fun i => Nat.le_trans (ga.len_le i) (by decide)) (fun i j hi hj => scale1_pc _ _ _ _ _ hx (ga.val_at (by omega) (by rw [ga.len_at (by omega)] at hj; exact hj)) hp1 hp2))] <| rQ (matP (wholeM a.length (fun q => (a.getD q []).length) (fun i j => mulI x ((a.getD i []).getD j wholeI) p))) (matP (scaleM a x p)) (by rw [wholeM_scaleM])) (by kernel_rfl)
end Go.Proofs.YtdppllbbgfekaaaGreatDoor
