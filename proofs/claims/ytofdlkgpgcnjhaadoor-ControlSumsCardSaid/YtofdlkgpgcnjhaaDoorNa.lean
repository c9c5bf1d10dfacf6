/- Walks: the greatest nice number, as the program makes it. -/
import Derived.Test.YtofdlkgpgcnjhaaDoorWv
namespace Go.Proofs.YtofdlkgpgcnjhaaDoor
open Go.RowKit Fp

/-- It returns a number and a truth value. -/
def RetDB (w : World) (d : Dy) (b : Bool) (e : Ending) (w' : World) : Prop :=
  ∃ A c, e = .returned (.tuple #[.agg #[.bool d.neg, .slice A (limbs d.m).length c, .int .i64 d.e], .bool b]) ∧ Sl w' A c (limbs d.m) ∧ Ext w w'
theorem dy_retb {fn : Func} {p t : Tmp} (h : fn.results = #[.cell p 24, .tmp t]) {a : Act} {w W : World} {d : Dy} {k : Bool} {g : Nat} {A : Option Addr} {c n : Nat}
    (hp : a.tmps.getD p undef = .pointer (some ⟨g, 0, none⟩)) (ht : a.tmps.getD t undef = .bool k) (hd : a.defers = []) (hb : Box3 W g d.neg A n c d.e) (hn : n = (limbs d.m).length) (hs : Sl W A c (limbs d.m)) (he : Ext w W) :
    bodyPost Tryd.prog fn (RetDB w d k) .ret a W := by
  subst hn
  exact bodyPost_ret ((results_dyt h _ hp hb).trans (by rw [ht])) hd ⟨A, c, rfl, hs, he⟩

/-- The greatest number with three bits that is not greater. -/
def niceD (m : Nat) (e : Int) : Dy := if bitsN m ≤ 3 then ⟨false, m, e⟩ else canon false (m / 2 ^ (bitsN m - 3)) (e + ((bitsN m - 3 : Nat) : Int))

theorem bits_div {m k : Nat} (h : k < bitsN m) : bitsN (m / 2 ^ k) = bitsN m - k := by
  have h0 : m ≠ 0 := by rintro rfl; simp [bitsN] at h
  have h1 := two_pow_le_of_bitsN h0
  have h2 := lt_two_pow_bitsN m
  obtain ⟨j, hj⟩ : ∃ j, bitsN m = k + j + 1 := ⟨bitsN m - k - 1, by omega⟩
  rw [hj] at h1 h2 ⊢
  rw [show k + j + 1 - k = j + 1 by omega]
  refine bitsN_eq ?_ ?_
  · rw [Nat.le_div_iff_mul_le (Nat.pow_pos (by decide)), ← Nat.pow_add]
    exact Nat.le_trans (Nat.pow_le_pow_right (by decide) (by omega)) h1
  · rw [Nat.div_lt_iff_lt_mul (Nat.pow_pos (by decide)), ← Nat.pow_add]
    exact Nat.lt_of_lt_of_le h2 (Nat.pow_le_pow_right (by decide) (by omega))

theorem nice_range {s : Bool} {L : List Nat} {e : Int} (hd : Dok s L e) (h : ¬ bitsN (val L) ≤ 3) : inRange (canon false (val L / 2 ^ (bitsN (val L) - 3)) (e + ((bitsN (val L) - 3 : Nat) : Int))) := by
  have hb := bits_div (m := val L) (k := bitsN (val L) - 3) (by omega)
  rw [show bitsN (val L) - (bitsN (val L) - 3) = 3 by omega] at hb
  have h0 : val L / 2 ^ (bitsN (val L) - 3) ≠ 0 := by intro h; rw [h] at hb; simp [bitsN] at hb
  have hv : val L ≠ 0 := by intro h'; rw [h'] at h; simp [bitsN] at h
  have ht := hd.top hv
  have he := hd.exp
  generalize hq : val L / 2 ^ (bitsN (val L) - 3) = q at *
  have hlt : q < 8 := by have := lt_two_pow_bitsN q; rw [hb] at this; omega
  have hc : ctzN q ≤ 2 := by
    have := pow_ctz_le h0
    by_cases h : ctzN q ≤ 2
    · exact h
    · have h2 : 2 ^ 3 ≤ 2 ^ ctzN q := Nat.pow_le_pow_right (by decide) (by omega)
      omega
  have hbb : bitsN (q / 2 ^ ctzN q) + ctzN q = 3 := by
    have h1 := bits_div (m := q) (k := ctzN q) (by omega)
    omega
  unfold canon
  rw [if_neg h0]
  exact .inr ⟨by simp only; omega, by simp only; omega, by simp only; omega, by simp only; omega⟩

set_option maxHeartbeats 4000000 in
theorem cfgNice_yes (s : Bool) (A : Option Addr) (c : Nat) (L : List Nat) (e : Int) (w : World) (hs : Sl w A c L) (hd : Dok s L e) (hp : 0 < Dy.sign ⟨s, val L, e⟩) (hTb : Tb w) :
    Calls Tryd.prog 12 #[.agg #[.bool s, .slice A L.length c, .int .i64 e]] w (RetDB w (niceD (val L) e) true) := by
  obtain ⟨he1, he2⟩ := hd.exp
  have hlen := hd.len
  have hbits := hd.bits
  have hv0 : val L ≠ 0 := by intro h; unfold Dy.sign at hp; simp [h] at hp
  have HV := Lib.hid (fun w (h : Sl w A c L) => dyValid_any s A c L e w true h (by omega) (by omega) (by simp [hd]))
  have HS := Lib.hid (fun w (h : Sl w A c L) => dySign_any s A c L e w h hd)
  have HB := Lib.hid (fun w (h : Sl w A c L) => dyBits_any s A c L e w h hd)
  have HA := Lib.hid (fun w (h : Sl w A c L) => dyAbs_any s A c L e w h hd hv0)
  have hnr := Lib.hid (fun h => nice_range hd h)
  have hwb : IntKind.i64.wrap ((bitsN (val L) : Int) - 3) = (bitsN (val L) : Int) - 3 := i64_in _ (by omega) (by omega)
  generalize Dy.sign ⟨s, val L, e⟩ = sa at *
  have d1 : decide (sa ≤ 0) = false := decide_eq_false (by omega)
  by_cases h3 : bitsN (val L) ≤ 3
  · have hD := Lib.hid (show niceD (val L) e = ⟨false, val L, e⟩ by unfold niceD; rw [if_pos h3])
    have d2 : decide ((bitsN (val L) : Int) - 3 ≤ 0) = true := decide_eq_true (by omega)
    rw [hD.out]
    generalize (⟨false, val L, e⟩ : Dy) = D at *
    generalize bitsN (val L) = q at *
    clear hd hv0 hp
    go_enter Tryd.func12, Tryd.ntmps12
    go_wp2_with fail
    refine (HV.out _ ((hs.alloc _).alloc _)).mono ?_
    rintro r w1 ⟨rfl, hb1⟩
    have bx1 := ((Box3.new w s A L.length c e).alloc (.cells #[.bool false, .slice none 0 0, .int .i64 0] 24)).ext hb1
    have bx2 := (Box3.newAt (W := w.alloc (.cells #[.bool s, .slice A L.length c, .int .i64 e] 24)) (g := w.heap.size + 1) (by simp) false none 0 0 0).ext hb1
    have b0 := bx1.c0; have b1 := bx1.c1; have b2 := bx1.c2
    have hE := (((Ext.alloc w (.cells #[.bool s, .slice A L.length c, .int .i64 e] 24)).trans (Ext.alloc _ (.cells #[.bool false, .slice none 0 0, .int .i64 0] 24))).trans hb1)
    go_wp2_with fail
    refine (HS.out _ (hs.below hE)).mono ?_
    rintro r w2 ⟨rfl, hb2⟩
    have c0 := (bx1.ext hb2).c0; have c1 := (bx1.ext hb2).c1; have c2 := (bx1.ext hb2).c2
    go_wp2_with fail
    refine (HB.out _ (hs.below (hE.trans hb2))).mono ?_
    rintro r w3 ⟨rfl, hb3⟩
    have e0 := (bx1.ext (hb2.trans hb3)).c0; have e1 := (bx1.ext (hb2.trans hb3)).c1; have e2 := (bx1.ext (hb2.trans hb3)).c2
    go_wp2_with fail
    refine (HA.out _ (hs.below (hE.trans (hb2.trans hb3)))).mono ?_
    rintro r w4 ⟨A4, c4, rfl, hs4, hb4⟩
    have hX := hb2.trans (hb3.trans hb4)
    have bz := bx2.ext hX
    have z0 := bz.c0; have z1 := bz.c1; have z2 := bz.c2; have f0 := bz.fr 0; have f1 := bz.fr 1; have f2 := bz.fr 2
    go_wp2
    exact dy_retb rfl rfl rfl rfl (bz.set _ _ _ _ _) rfl (bz.set_sl hs4 _ _ _ _ _) (Box3.set_ext (hE.trans hX) (by omega) _ _ _ _ _)
  · have hD := Lib.hid (show niceD (val L) e = canon false (val L / 2 ^ (bitsN (val L) - 3)) (e + ((bitsN (val L) - 3 : Nat) : Int)) by unfold niceD; rw [if_neg h3])
    have d2 : decide ((bitsN (val L) : Int) - 3 ≤ 0) = false := decide_eq_false (by omega)
    have hr := hnr.out h3
    rw [hD.out]
    obtain ⟨k, hk⟩ : ∃ k, k = bitsN (val L) - 3 := ⟨_, rfl⟩
    rw [← hk] at hr ⊢
    have hkq : (bitsN (val L) : Int) - 3 = (k : Int) := by omega
    rw [hkq] at hwb d2
    have HR := Lib.hid (fun w (h : Sl w A c L) => natShr_any A c L k w h hlen (by omega))
    have HM := Lib.hid (fun A' c' w (h : Sl w A' c' (limbs (val L / 2 ^ k))) (ht : Tb w) (hlm : (limbs (val L / 2 ^ k)).length ≤ 256) => make_any false A' c' (limbs (val L / 2 ^ k)) (e + (k : Int)) w h hlm (by omega) (by omega) ht (by rw [val_limbs]; exact hr))
    have hlm : (limbs (val L / 2 ^ k)).length ≤ 256 := limbs_length_le (Nat.lt_of_le_of_lt (Nat.div_le_self _ _) (Nat.lt_of_lt_of_le (val_lt hs.ok) (Nat.pow_le_pow_right (by decide) hlen)))
    rw [val_limbs] at HM
    have HM2 := Lib.hid (fun A' c' w h ht => HM.out A' c' w h ht hlm)
    have hwe : IntKind.i64.wrap (e + (k : Int)) = e + (k : Int) := i64_in _ (by omega) (by omega)
    have hwk : (bitsN (val L) : Int) = (k : Int) + 3 := by omega
    rw [hwk] at HB
    have hws : IntKind.i64.wrap (k : Int) = (k : Int) := i64_in _ (by omega) (by omega)
    have HSz := Lib.hid hlm
    have d3 : decide (k = 0) = false := decide_eq_false (by omega)
    generalize canon false (val L / 2 ^ k) (e + (k : Int)) = D at *
    generalize limbs (val L / 2 ^ k) = X at *
    clear hd hv0 hp HM hr hnr hD HA hwb hk hkq hwk hlm
    go_enter Tryd.func12, Tryd.ntmps12
    go_wp2_with fail
    refine (HV.out _ ((hs.alloc _).alloc _)).mono ?_
    rintro r w1 ⟨rfl, hb1⟩
    have bx1 := ((Box3.new w s A L.length c e).alloc (.cells #[.bool false, .slice none 0 0, .int .i64 0] 24)).ext hb1
    have bx2 := (Box3.newAt (W := w.alloc (.cells #[.bool s, .slice A L.length c, .int .i64 e] 24)) (g := w.heap.size + 1) (by simp) false none 0 0 0).ext hb1
    have b0 := bx1.c0; have b1 := bx1.c1; have b2 := bx1.c2
    have hE := (((Ext.alloc w (.cells #[.bool s, .slice A L.length c, .int .i64 e] 24)).trans (Ext.alloc _ (.cells #[.bool false, .slice none 0 0, .int .i64 0] 24))).trans hb1)
    go_wp2_with fail
    refine (HS.out _ (hs.below hE)).mono ?_
    rintro r w2 ⟨rfl, hb2⟩
    have c0 := (bx1.ext hb2).c0; have c1 := (bx1.ext hb2).c1; have c2 := (bx1.ext hb2).c2
    go_wp2_with fail
    refine (HB.out _ (hs.below (hE.trans hb2))).mono ?_
    rintro r w3 ⟨rfl, hb3⟩
    have e0 := (bx1.ext (hb2.trans hb3)).c0; have e1 := (bx1.ext (hb2.trans hb3)).c1; have e2 := (bx1.ext (hb2.trans hb3)).c2
    go_wp2_with fail
    refine (HR.out _ (hs.below (hE.trans (hb2.trans hb3)))).mono ?_
    rintro r w4 ⟨A4, c4, rfl, hs4, hb4⟩
    have hX4 := hb2.trans (hb3.trans hb4)
    have g2 := (bx1.ext hX4).c2
    go_wp2_with fail
    refine (HM2.out _ _ _ hs4 (hTb.below (hE.trans hX4))).mono ?_
    rintro r w5 ⟨A5, c5, rfl, hs5, hb5⟩
    have hX := (hX4.trans hb5).trans (Ext.alloc _ (.cells #[.bool D.neg, .slice A5 (limbs D.m).length c5, .int .i64 D.e] 24))
    have bz := bx2.ext hX
    have z0 := bz.c0; have z1 := bz.c1; have z2 := bz.c2; have f0 := bz.fr 0; have f1 := bz.fr 1; have f2 := bz.fr 2
    go_wp2
    exact dy_retb rfl rfl rfl rfl (bz.set _ _ _ _ _) rfl (bz.set_sl (hs5.alloc _) _ _ _ _ _) (Box3.set_ext (hE.trans hX) (by omega) _ _ _ _ _)
end Go.Proofs.YtofdlkgpgcnjhaaDoor
