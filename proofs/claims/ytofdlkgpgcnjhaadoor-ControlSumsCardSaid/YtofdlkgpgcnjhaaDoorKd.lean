/- The contracts of the functions on numbers, for numbers in the canonical form. -/
import Derived.Test.YtofdlkgpgcnjhaaDoorTj
import Derived.Test.YtofdlkgpgcnjhaaDoorNc
import Derived.Test.YtofdlkgpgcnjhaaDoorWs
import Derived.Test.YtofdlkgpgcnjhaaDoorWv
import Derived.Deep.DeepCutAuto
namespace Go.Proofs.YtofdlkgpgcnjhaaDoor
open Go.RowKit Fp

/-- A number as a value. -/
abbrev DV (d : Dy) (A : Option Addr) (c : Nat) : Value := .agg #[.bool d.neg, .slice A (limbs d.m).length c, .int .i64 d.e]

theorem limbs_len_bits {n k : Nat} (h : bitsN n ≤ 32 * k) : (limbs n).length ≤ k := by
  refine limbs_length_le (Nat.lt_of_lt_of_le (lt_two_pow_bitsN _) ?_)
  rw [pow32]
  exact Nat.pow_le_pow_right (by decide) h
theorem Fp.Dy.Valid.dok {d : Dy} (h : d.Valid) : Dok d.neg (limbs d.m) d.e := by
  refine ⟨trim_limbs _, limbs_len_bits ?_, by rw [val_limbs]; exact h⟩
  rcases h.range with h0 | ⟨h1, _⟩
  · rw [h0]; exact Nat.zero_le _
  · omega
theorem Fp.Dy.Valid.len {d : Dy} (h : d.Valid) : (limbs d.m).length ≤ 256 := h.dok.2.1
theorem Fp.Dy.Valid.exp {d : Dy} (h : d.Valid) : -16384 ≤ d.e ∧ d.e ≤ 16384 := h.dok.exp
theorem Fp.Dy.Valid.bits {d : Dy} (h : d.Valid) : bitsN d.m ≤ 4096 := by have := h.dok.bits; rwa [val_limbs] at this
theorem Fp.Dy.Valid.top_le {d : Dy} (h : d.Valid) (h0 : d.m ≠ 0) : (bitsN d.m : Int) + d.e ≤ 16384 := by
  rcases h.range with h | ⟨_, _, _, h⟩
  · exact absurd h h0
  · exact h

theorem Box3.all {w : World} {g n c : Nat} {s : Bool} {A : Option Addr} {e : Int} (h : Box3 w g s A n c e) : w.cell? ⟨g, 0, none⟩ = some (.bool s) ∧ w.cell? ⟨g, 1, none⟩ = some (.slice A n c) ∧ w.cell? ⟨g, 2, none⟩ = some (.int .i64 e) := ⟨h.c0, h.c1, h.c2⟩

theorem Box3.far {w : World} {g n c : Nat} {s : Bool} {A : Option Addr} {e : Int} (h : Box3 w g s A n c e) {g' : Nat} (hne : g' ≠ g) (i : Nat) (v : Value) : Box3 (w.setCell ⟨g', i, none⟩ v) g s A n c e := by
  unfold Box3 at h ⊢
  simp only [World.setCell, Array.getElem?_modify]
  rw [if_neg hne]; exact h
theorem Box3.far3 {w : World} {g n c : Nat} {s : Bool} {A : Option Addr} {e : Int} (h : Box3 w g s A n c e) {g' : Nat} (hne : g' ≠ g) (v0 v1 v2 : Value) :
    Box3 (((w.setCell ⟨g', 0, none⟩ v0).setCell ⟨g', 1, none⟩ v1).setCell ⟨g', 2, none⟩ v2) g s A n c e := ((h.far hne 0 v0).far hne 1 v1).far hne 2 v2

/-- A variable that holds a number, in a block of its own, made since w. -/
def VarD (d : Dy) (w : World) (v : Value) (w' : World) : Prop := ∃ g A c, v = .pointer (some ⟨g, 0, none⟩) ∧ Box3 w' g d.neg A (limbs d.m).length c d.e ∧ Sl w' A c (limbs d.m) ∧ Ext w w'

abbrev zeroObj : Obj := .cells #[.bool false, .slice none 0 0, .int .i64 0] 24

theorem VarD.new {d : Dy} {w w' : World} {A : Option Addr} {c : Nat} (hs : Sl w' A c (limbs d.m)) (hb : Ext w w') :
    VarD d w (.pointer (some ⟨w'.heap.size, 0, none⟩)) (w'.alloc (.cells #[.bool d.neg, .slice A (limbs d.m).length c, .int .i64 d.e] 24)) :=
  ⟨_, _, _, rfl, Box3.new _ _ _ _ _ _, hs.alloc _, hb.trans (Ext.alloc _ _)⟩
theorem VarD.set {d : Dy} {w w' : World} {g : Nat} {A : Option Addr} {c : Nat} (hz : Box3 w' g false none 0 0 0) (hs : Sl w' A c (limbs d.m)) (hb : Ext w w') (hg : w.heap.size ≤ g) :
    VarD d w (.pointer (some ⟨g, 0, none⟩)) (((w'.setCell ⟨g, 0, none⟩ (.bool d.neg)).setCell ⟨g, 1, none⟩ (.slice A (limbs d.m).length c)).setCell ⟨g, 2, none⟩ (.int .i64 d.e)) :=
  ⟨_, _, _, rfl, hz.set _ _ _ _ _, hz.set_sl hs _ _ _ _ _, Box3.set_ext hb hg _ _ _ _ _⟩

/-- Not far from the range. -/
structure Near (d : Dy) : Prop where
  len : (limbs d.m).length ≤ 256
  lo : -17000 ≤ d.e
  hi : d.e ≤ 17000
theorem Fp.Dy.Valid.near {d : Dy} (h : d.Valid) : Near d := ⟨h.len, by have := h.exp; omega, by have := h.exp; omega⟩

theorem refProduct_dy (a b : Dy) (A B : Option Addr) (c d : Nat) (w : World) (h : Sl w A c (limbs a.m)) (k : Sl w B d (limbs b.m)) (ha : Near a) (hb : Near b) :
    Calls Tryd.prog 15 #[DV a A c, DV b B d] w (RetD w (mulD a b)) := by
  have := refProduct_any a.neg A c (limbs a.m) a.e b.neg B d (limbs b.m) b.e w h k (by have := ha.len; omega) (by have := hb.len; omega) (by have := ha.lo; omega) (by have := ha.hi; omega) (by have := hb.lo; omega) (by have := hb.hi; omega)
  rw [val_limbs, val_limbs] at this
  exact this

theorem refEqual_dy (a b : Dy) (A B : Option Addr) (c d : Nat) (w : World) (r : Bool) (h : Sl w A c (limbs a.m)) (k : Sl w B d (limbs b.m)) (ha : (limbs a.m).length ≤ 100000) (hb : (limbs b.m).length ≤ 100000) (hr : r = true ↔ a = b) :
    Calls Tryd.prog 14 #[DV a A c, DV b B d] w fun e w' => e = .returned (.bool r) ∧ Ext w w' :=
  refEqual_any a.neg A c (limbs a.m) a.e b.neg B d (limbs b.m) b.e w r h k (trim_limbs _) (trim_limbs _) ha hb (by
    rw [hr]
    obtain ⟨s, m, e⟩ := a
    obtain ⟨t, n, f⟩ := b
    simp only [Dy.mk.injEq]
    constructor
    · rintro ⟨x, y, z⟩; exact ⟨x, z, by rw [y]⟩
    · rintro ⟨x, y, z⟩
      have := congrArg val z
      rw [val_limbs, val_limbs] at this
      exact ⟨x, this, y⟩)

theorem refCmp_dy (a b : Dy) (A B : Option Addr) (c d : Nat) (w : World) (h : Sl w A c (limbs a.m)) (k : Sl w B d (limbs b.m)) (ha : Near a) (hb : Near b) :
    Calls Tryd.prog 19 #[DV a A c, DV b B d] w fun e w' => e = .returned (.int .i64 (cmpD a b)) ∧ Ext w w' := by
  have := refCmp_any a.neg A c (limbs a.m) a.e b.neg B d (limbs b.m) b.e w h k (trim_limbs _) (trim_limbs _) ha.len hb.len ha.lo ha.hi hb.lo hb.hi
  rw [val_limbs, val_limbs] at this
  exact this

theorem dyCmp_dy (a b : Dy) (A B : Option Addr) (c d : Nat) (w : World) (h : Sl w A c (limbs a.m)) (k : Sl w B d (limbs b.m)) (ha : a.Valid) (hb : b.Valid) :
    Calls Tryd.prog 18 #[DV a A c, DV b B d] w fun e w' => e = .returned (.int .i64 (cmpD a b)) ∧ Ext w w' := by
  have := dyCmp_any a.neg A c (limbs a.m) a.e b.neg B d (limbs b.m) b.e w h k ha.dok hb.dok
  rw [val_limbs, val_limbs] at this
  exact this

theorem dyBits_dy (a : Dy) (A : Option Addr) (c : Nat) (w : World) (h : Sl w A c (limbs a.m)) (ha : a.Valid) :
    Calls Tryd.prog 17 #[DV a A c] w fun e w' => e = .returned (.int .i64 (bitsN a.m)) ∧ Ext w w' := by
  have := dyBits_any a.neg A c (limbs a.m) a.e w h ha.dok
  rw [val_limbs] at this
  exact this

theorem dySign_dy (a : Dy) (A : Option Addr) (c : Nat) (w : World) (h : Sl w A c (limbs a.m)) (ha : a.Valid) :
    Calls Tryd.prog 23 #[DV a A c] w fun e w' => e = .returned (.int .i64 a.sign) ∧ Ext w w' := by
  have := dySign_any a.neg A c (limbs a.m) a.e w h ha.dok
  rw [val_limbs] at this
  exact this

theorem dyValid_dy (a : Dy) (A : Option Addr) (c : Nat) (w : World) (h : Sl w A c (limbs a.m)) (ha : a.Valid) :
    Calls Tryd.prog 29 #[DV a A c] w fun e w' => e = .returned (.bool true) ∧ Ext w w' :=
  dyValid_any a.neg A c (limbs a.m) a.e w true h (by have := ha.exp; omega) (by have := ha.exp; omega) (by simp [ha.dok])

/-- A valid number that comes in, as a canonical one. -/
theorem Dok.dy {s : Bool} {L : List Nat} {e : Int} (h : Dok s L e) {w : World} {A : Option Addr} {c : Nat} (hs : Sl w A c L) : ∃ d : Dy, d.Valid ∧ s = d.neg ∧ L = limbs d.m ∧ e = d.e ∧ val L = d.m :=
  ⟨⟨s, val L, e⟩, h.2.2, rfl, h.eq_limbs hs.ok, rfl, rfl⟩
end Go.Proofs.YtofdlkgpgcnjhaaDoor
