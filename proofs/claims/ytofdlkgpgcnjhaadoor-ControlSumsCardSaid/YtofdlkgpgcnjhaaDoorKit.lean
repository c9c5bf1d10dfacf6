/- Words on memory for the walks: a slice of limbs, and what a call leaves as it was. -/
import Derived.Test.YtofdlkgpgcnjhaaDoorProg
import Derived.Test.YtofdlkgpgcnjhaaDoorNat
import Derived.WalkKit
import Derived.BigQuiet
import Derived.WalkSpells
import Derived.WalkLawsBesides
import Derived.Lib.Hide
import Derived.Deep.RegionHeld3
import Derived.Maps.AppendAt
import Derived.Deep.AppendLies
import Derived.Deep.Draws
import Derived.Deep.DeepFit
import Derived.Laws.AppendOwnNone
import Derived.Shelf.Small.Bits
import Derived.Shelf.Spec.TrailingZeros
namespace Go.Proofs.YtofdlkgpgcnjhaaDoor
open Go.RowKit Fp

/-- A slice of limbs: its address, its capacity, its limbs. -/
structure Sl (w : World) (A : Option Addr) (c : Nat) (L : List Nat) : Prop where
  cap : L.length ≤ c
  lim : c ≤ 9223372036854775807
  ok : Ok32 L
  none_ : A = none → c = 0
  cell : ∀ (i x : Nat), L[i]? = some x → ∃ b o, A = some ⟨b, o, none⟩ ∧ b < w.heap.size ∧ w.cell? ⟨b, o + i, none⟩ = some (.int .u32 (x : Int))

theorem block_of_add (a : Addr) (n : Nat) : (a.add n).block = a.block := by unfold Addr.add; split <;> rfl
theorem add_of_add (a : Addr) (i j : Nat) : (a.add i).add j = a.add (i + j) := by
  unfold Addr.add
  by_cases hi : i = 0 <;> by_cases hj : j = 0 <;> simp [hi, hj, Nat.add_assoc]

section
variable {w w' : World} {A : Option Addr} {c : Nat} {L : List Nat}
theorem Sl.at_ (h : Sl w A c L) {i : Nat} (hi : i < L.length) : ∃ b o, A = some ⟨b, o, none⟩ ∧ b < w.heap.size ∧ w.cell? ⟨b, o + i, none⟩ = some (.int .u32 (L[i] : Int)) :=
  h.cell i _ (List.getElem?_eq_getElem hi)
theorem Sl.nil (w : World) : Sl w none 0 [] := ⟨Nat.le_refl _, by decide, Ok32.nil, fun _ => rfl, fun i x h => by simp at h⟩
theorem Sl.below (h : Sl w A c L) (hb : Below w.heap.size w w') : Sl w' A c L :=
  ⟨h.cap, h.lim, h.ok, h.none_, fun i x hx => by
    obtain ⟨b, o, e, h1, h2⟩ := h.cell i x hx
    exact ⟨b, o, e, Nat.lt_of_lt_of_le h1 hb.size, (hb.cell h1).trans h2⟩⟩
theorem Sl.alloc (h : Sl w A c L) (o : Obj) : Sl (w.alloc o) A c L := h.below ((Below.refl _ _).alloc (Nat.le_refl _) _)
theorem Sl.drew (h : Sl w A c L) : Sl w.drew A c L := h.below ((Below.refl _ _).drew)
theorem Sl.take (h : Sl w A c L) (n : Nat) : Sl w A c (L.take n) :=
  ⟨by have := h.cap; rw [List.length_take]; omega, h.lim, h.ok.take n, h.none_, fun i x hx => h.cell i x (by
    rw [List.getElem?_take] at hx
    split at hx
    · exact hx
    · cases hx)⟩
theorem Sl.len (h : Sl w A c L) : L.length ≤ 9223372036854775807 := Nat.le_trans h.cap h.lim
theorem Sl.eqv {L' : List Nat} (h : Sl w A c L) (e : L = L') : Sl w A c L' := e ▸ h
end

theorem addr_add (b o i : Nat) : (⟨b, o, none⟩ : Addr).add i = ⟨b, o + i, none⟩ := by
  unfold Addr.add
  split
  · rename_i h0; rw [h0]; rfl
  · simp

/-- Below all that was there, from one world to a later one. -/
abbrev Ext (w w' : World) : Prop := Below w.heap.size w w'
theorem Ext.trans {a b c : World} (h : Ext a b) (k : Ext b c) : Ext a c := Below.trans h (k.mono h.size)
theorem Ext.alloc (w : World) (o : Obj) : Ext w (w.alloc o) := (Below.refl _ _).alloc (Nat.le_refl _) _
theorem Ext.drew (w : World) : Ext w w.drew := (Below.refl _ _).drew
theorem Ext.refl (w : World) : Ext w w := Below.refl _ _

theorem bcell {W w1 : World} (hb : Below W.heap.size W w1) : (∀ b o, b < W.heap.size → w1.cell? ⟨b, o, none⟩ = W.cell? ⟨b, o, none⟩) ∧ (∀ b o, b < W.heap.size → w1.frozen? ⟨b, o, none⟩ = W.frozen? ⟨b, o, none⟩) :=
  ⟨fun b o h => hb.cell (p := ⟨b, o, none⟩) h, fun b o h => hb.frozen (p := ⟨b, o, none⟩) h⟩

theorem ret_slice {A : Option Addr} {n m c : Nat} (h : n = m) : Ending.returned (.slice A n c) = .returned (.slice A m c) := by rw [h]
theorem ret_int {k : IntKind} {a b : Int} (h : a = b) : Ending.returned (.int k a) = .returned (.int k b) := by rw [h]
theorem ret_bool {a b : Bool} (h : a = b) : Ending.returned (.bool a) = .returned (.bool b) := by rw [h]

/-- It returns a slice of limbs. -/
def RetL (w : World) (L : List Nat) (e : Ending) (w' : World) : Prop := ∃ A c, e = .returned (.slice A L.length c) ∧ Sl w' A c L ∧ Ext w w'
/-- It returns a slice of limbs and an error number. -/
def RetLE (w : World) (L : List Nat) (n : Int) (e : Ending) (w' : World) : Prop := ∃ A c, e = .returned (.tuple #[.slice A L.length c, .int .i64 n]) ∧ Sl w' A c L ∧ Ext w w'

/-- The table of math/bits, where the program's text lays it. -/
def Tb (w : World) : Prop := TabAt 0 Lib.deBruijn32tab w
theorem Tb.below {w w' : World} (h : Tb w) (hb : Ext w w') : Tb w' := fun j hj => by
  have h1 := h j hj
  rw [hb.cell (block_lt_of_cell h1)]; exact h1
theorem Tb.alloc {w : World} (h : Tb w) (o : Obj) : Tb (w.alloc o) := h.below (Ext.alloc _ _)
theorem Tb.drew {w : World} (h : Tb w) : Tb w.drew := h.below (Ext.drew _)

theorem bitLen_eq (x : Nat) (h : x < 4294967296) : Lib.bitLen x = bitsN x := by
  induction x using Nat.strongRecOn with
  | _ x ih =>
    by_cases h0 : x = 0
    · subst h0; rfl
    · rw [Lib.bitLen_half x h0 (by omega), ih (x / 2) (by omega) (by omega)]
      by_cases h1 : x / 2 = 0
      · have : x = 1 := by omega
        subst this; rfl
      · have e1 := two_pow_le_of_bitsN h1
        have e2 := lt_two_pow_bitsN (x / 2)
        have e3 := bitsN_pos h1
        generalize bitsN (x / 2) = k at *
        obtain ⟨j, rfl⟩ : ∃ j, k = j + 1 := ⟨k - 1, by omega⟩
        rw [Nat.add_sub_cancel] at e1
        rw [Nat.add_comm]
        refine (bitsN_eq ?_ ?_).symm
        · rw [Nat.pow_succ]; omega
        · rw [Nat.pow_succ]; omega

theorem ctz_eq (x : Nat) (h0 : x ≠ 0) (h : x < 4294967296) : Lib.ctz 32 x = ctzN x := by
  unfold Lib.ctz
  rw [if_neg h0]
  obtain ⟨m, hm, _⟩ := Lib.ctzFrom_spec 32 x (by omega) h
  conv => rhs; rw [hm, Nat.mul_comm]
  exact (ctzN_mul (by omega) _).symm

/-! ### a slice of limbs that the call has made itself -/
def u32s (L : List Nat) : List Value := L.map fun (n : Nat) => Value.int .u32 (n : Int)
theorem u32s_get {L : List Nat} {j : Nat} {u : Value} (h : (u32s L)[j]? = some u) : ∃ n, L[j]? = some n ∧ u = .int .u32 (n : Int) := by
  unfold u32s at h
  rw [List.getElem?_map] at h
  obtain ⟨n, hn, rfl⟩ := Option.map_eq_some_iff.1 h
  exact ⟨n, hn, rfl⟩
theorem u32s_append (L M : List Nat) : u32s (L ++ M) = u32s L ++ u32s M := List.map_append
theorem u32s_one (L : List Nat) : ∀ u ∈ u32s L, u.oneCell' = true := by
  intro u hu
  obtain ⟨n, _, rfl⟩ := List.mem_map.1 hu
  rfl

structure Ow (w : World) (base : Nat) (v : Value) (L : List Nat) : Prop where
  row : w.ownsRow base 50 1 v L.length (u32s L)
  ok : Ok32 L

theorem Ow.sl {w : World} {base : Nat} {v : Value} {L : List Nat} (h : Ow w base v L) : ∃ A c, v = .slice A L.length c ∧ Sl w A c L := by
  have hr := h.row
  rcases hr.2 with ⟨rfl, h0⟩ | ⟨g, cap, cur, rfl, hb, hg, hnc, hcm, hcs, htake⟩
  · have : L = [] := List.eq_nil_of_length_eq_zero h0
    subst this
    exact ⟨none, 0, rfl, Sl.nil w⟩
  · refine ⟨_, _, rfl, hnc, (by simpa [maxLen] using hcm), h.ok, (fun h => by cases h), fun i x hx => ⟨_, _, rfl, (Array.getElem?_eq_some_iff.1 hg).1, ?_⟩⟩
    have h := hr.cells (g := g) rfl i (.int .u32 (x : Int)) (by unfold u32s; rw [List.getElem?_map, hx]; rfl)
    rw [addr_add] at h
    exact h

theorem Ow.nil (w : World) (base : Nat) : Ow w base (.slice none 0 0) [] := ⟨World.ownsRow_nil w base _ _, Ok32.nil⟩
theorem Ow.alloc {w : World} {base : Nat} {v : Value} {L : List Nat} (h : Ow w base v L) (o : Obj) : Ow (w.alloc o) base v L := ⟨h.row.alloc o, h.ok⟩

/-- The slice without elements that a literal makes. -/
theorem Ow.empty (w : World) (base : Nat) (hb : base ≤ w.heap.size) : Ow (w.alloc (.cells #[] 50)) base (.slice (some ⟨w.heap.size, 0, none⟩) 0 0) [] :=
  ⟨World.ownsRow_made w #[] 0 hb (by decide) rfl, Ok32.nil⟩
theorem le_alloc {w : World} {n : Nat} (h : n ≤ w.heap.size) (o : Obj) : n ≤ (w.alloc o).heap.size := by simp; omega

/-- The one-cell block that a literal slice lies in. -/
theorem Sl.one (w : World) (x : Nat) (hx : x < 4294967296) : Sl (w.alloc (.cells #[.int .u32 x] 50)) (some ⟨w.heap.size, 0, none⟩) 1 [x] :=
  ⟨Nat.le_refl _, by decide, Ok32.cons hx Ok32.nil, (fun h => by cases h), fun i y hy => by
    obtain ⟨h1, h2⟩ := List.getElem?_eq_some_iff.1 hy
    obtain rfl : i = 0 := by simp at h1; omega
    simp at h2
    subst h2
    refine ⟨_, _, rfl, by simp, ?_⟩
    exact World.cell?_alloc_at _ _ _ _ rfl⟩

theorem Sl.oneI (w : World) (y : Int) (x : Nat) (e : y = (x : Int)) (hx : x < 4294967296) : Sl (w.alloc (.cells #[.int .u32 y] 50)) (some ⟨w.heap.size, 0, none⟩) 1 [x] := by
  subst e; exact Sl.one w x hx

theorem info32 : (Tryd.prog.info? 50).map (fun i => (i.zero, i.size, i.bytes)) = some (some (.int .u32 0), 1, 4) := by kernel_rfl

/-- append onto a slice of the call's own. -/
theorem wpList_app {ops : Array Oper} {rest : List Oper} {o : Oper} {a : Act} {Q : Exit → Act → World → Prop} {w : World} (hgd : o.guard = none) (s x : Operand)
    (ho : o.op = .call { callee := .builtin .append, args := #[s, x], argTypes := #[22, 22] })
    (base : Nat) (v : Value) (L : List Nat) (hs : a.eval s = v) (hown : Ow w base v L)
    (A : Option Addr) (m c : Nat) (M : List Nat) (hx : a.eval x = .slice A m c) (hm : m = M.length) (hr : Sl w A c M)
    (hsz : L.length + M.length ≤ 10000000000) (hbase : base ≤ w.heap.size)
    (h : ∀ v' w', Ow w' base v' (L ++ M) → w.grownBy w' v.ownBlock → (v'.ownBlock = v.ownBlock ∨ v'.ownBlock = some w.heap.size) → wpList Tryd.prog ops Q rest (a.put o.dst v') w') :
    wpList Tryd.prog ops Q (o :: rest) a w := by
  obtain ⟨i, hi, hz, h1, h2⟩ := info_parts info32
  subst hm
  rcases A with _ | ad
  · have hc := hr.none_ rfl
    subst hc
    have hM : M = [] := List.eq_nil_of_length_eq_zero (by have := hr.cap; omega)
    subst hM
    refine wpList_append_own_none hgd s x _ ho base _ i 1 Tryd.underlying22 hi v _ _ hs hown.row hx ?_
    have := h v w (by rw [List.append_nil]; exact hown) ⟨rfl, rfl, rfl, Nat.le_refl _, fun _ _ _ => rfl⟩ (.inl rfl)
    exact this
  · refine wpList_append_own_at w hgd s x _ ho base _ i _ 1 4 Tryd.underlying22 hi hz h1 h2 rfl (by decide) v L.length (u32s L) hs hown.row ad M.length c (u32s M) hx (by simp [u32s]) ?_ (u32s_one M)
      (by simp only [maxLen]; omega) (by omega) hbase ?_
    · intro j u hu
      obtain ⟨n, hn, rfl⟩ := u32s_get hu
      obtain ⟨b, o, e, _, hc⟩ := hr.cell j n hn
      cases e
      rw [addr_add]
      exact hc
    · intro v' w' hown' hg _ hat
      exact h v' w' ⟨by rw [List.length_append, u32s_append]; exact hown', hown.ok.append hr.ok⟩ hg hat

/-! ### a row of limbs that the call has made by make, and writes by index -/
def Rw (w : World) (b : Nat) (L : List Nat) : Prop := w.heap[b]? = some (.cells (u32s L).toArray 50 (0, 0))
section
variable {w w' : World} {b : Nat} {L : List Nat}
theorem Rw.lt (h : Rw w b L) : b < w.heap.size := (Array.getElem?_eq_some_iff.1 h).1
theorem Rw.cell (h : Rw w b L) {i x : Nat} (hx : L[i]? = some x) : w.cell? ⟨b, i, none⟩ = some (.int .u32 (x : Int)) := by
  unfold Rw at h
  simp only [World.cell?, h]
  simp [u32s, hx]
theorem Rw.frozen (h : Rw w b L) (i : Nat) : w.frozen? ⟨b, i, none⟩ = false := by
  unfold Rw at h
  simp [World.frozen?, h]
theorem Rw.set (h : Rw w b L) (i x : Nat) : Rw (w.setCell ⟨b, i, none⟩ (.int .u32 (x : Int))) b (L.set i x) := by
  unfold Rw at h ⊢
  simp only [World.setCell, Array.getElem?_modify, h]
  simp [u32s, List.map_set]
theorem Rw.below {B : Nat} (h : Rw w b L) (hb : Below B w w') (hlt : b < B) : Rw w' b L := (hb.block b hlt).trans h
theorem Rw.ext (h : Rw w b L) (hb : Ext w w') : Rw w' b L := h.below hb h.lt
theorem Rw.drew (h : Rw w b L) : Rw w.drew b L := h
theorem Rw.sl (h : Rw w b L) (hk : Ok32 L) (hl : L.length ≤ 10000000000) : Sl w (some ⟨b, 0, none⟩) L.length L :=
  ⟨Nat.le_refl _, by omega, hk, (fun h => by cases h), fun i x hx => ⟨_, _, rfl, h.lt, by
    rw [Nat.zero_add]; exact h.cell hx⟩⟩
theorem Rw.made (w : World) (n : Nat) : Rw (w.alloc (.cells (u32s (List.replicate n 0)).toArray 50)) w.heap.size (List.replicate n 0) := heap_alloc_new w _
end
theorem add0 (b i : Nat) : (⟨b, 0, none⟩ : Addr).add i = ⟨b, i, none⟩ := by
  unfold Addr.add
  split
  · rename_i h0; rw [h0]
  · simp

theorem make32 (n : Nat) (hn : n ≤ 10000000000) (w : World) :
    (Instr.makeSlice 22 (.int .i64 (n : Int)) (.int .i64 (n : Int))).run Tryd.prog w = .ok (.slice (some ⟨w.heap.size, 0, none⟩) n n) (w.alloc (.cells (u32s (List.replicate n 0)).toArray 50)) := by
  obtain ⟨i, hi, hz, h1, h2⟩ := info_parts info32
  have hr := run_make (P := Tryd.prog) w 22 50 i _ Tryd.underlying22 hi hz .i64 .i64 n n (by omega) (by omega) (by rw [h2]; omega) (by omega)
  rw [hr, Int.toNat_natCast, h1, Nat.mul_one]
  congr 3
  apply Array.ext
  · simp [madeCells, u32s]
  · intro i h1 h2
    simp [madeCells, u32s, Value.cells, Nat.mod_one]

/-! ### dyadic numbers -/
/-- It returns a number. -/
def RetD (w : World) (d : Dy) (e : Ending) (w' : World) : Prop :=
  ∃ A c, e = .returned (.agg #[.bool d.neg, .slice A (limbs d.m).length c, .int .i64 d.e]) ∧ Sl w' A c (limbs d.m) ∧ Ext w w'
/-- It returns a number and an error number. -/
def RetDE (w : World) (d : Dy) (n : Int) (e : Ending) (w' : World) : Prop :=
  ∃ A c, e = .returned (.tuple #[.agg #[.bool d.neg, .slice A (limbs d.m).length c, .int .i64 d.e], .int .i64 n]) ∧ Sl w' A c (limbs d.m) ∧ Ext w w'

/-- A block that holds no limb: a box of a number, say. -/
def NoLimb (w : World) (g : Nat) : Prop := ∀ o x, w.cell? ⟨g, o, none⟩ ≠ some (.int .u32 x)
theorem Sl.far {w : World} {A : Option Addr} {c : Nat} {L : List Nat} (h : Sl w A c L) {g i : Nat} (hg : NoLimb w g) (u : Value) : Sl (w.setCell ⟨g, i, none⟩ u) A c L :=
  ⟨h.cap, h.lim, h.ok, h.none_, fun j x hx => by
    obtain ⟨b, o, e, h1, h2⟩ := h.cell j x hx
    refine ⟨b, o, e, by simpa [World.setCell] using h1, ?_⟩
    rw [World.cell?_setCell_other w _ _ u]
    · exact h2
    · intro e'
      simp only [Addr.mk.injEq] at e'
      exact hg (o + j) x (by rw [e'.1]; exact h2)⟩
theorem NoLimb.of_block {w : World} {g : Nat} {cs : Array Value} {t : TypeId} {fr : Nat × Nat} (h : w.heap[g]? = some (.cells cs t fr)) (hc : ∀ (i : Nat) (x : Int), cs[i]? ≠ some (.int .u32 x)) : NoLimb w g := fun o x e => by
  simp only [World.cell?, h] at e
  simp at e
  exact hc o x (by simpa using e)

/-- A block that holds a number. -/
def Box3 (w : World) (g : Nat) (s : Bool) (A : Option Addr) (n c : Nat) (e : Int) : Prop := w.heap[g]? = some (.cells #[.bool s, .slice A n c, .int .i64 e] 24 (0, 0))
section
variable {w w' : World} {g n c : Nat} {s : Bool} {A : Option Addr} {e : Int}
theorem Box3.new (W : World) (s : Bool) (A : Option Addr) (n c : Nat) (e : Int) : Box3 (W.alloc (.cells #[.bool s, .slice A n c, .int .i64 e] 24)) W.heap.size s A n c e := heap_alloc_new W _
theorem Box3.newAt {W : World} {g : Nat} (hg : W.heap.size = g) (s : Bool) (A : Option Addr) (n c : Nat) (e : Int) : Box3 (W.alloc (.cells #[.bool s, .slice A n c, .int .i64 e] 24)) g s A n c e := hg ▸ heap_alloc_new W _
theorem Box3.lt (h : Box3 w g s A n c e) : g < w.heap.size := (Array.getElem?_eq_some_iff.1 h).1
theorem Box3.ext (h : Box3 w g s A n c e) (hb : Ext w w') : Box3 w' g s A n c e := (hb.block g h.lt).trans h
theorem Box3.alloc (h : Box3 w g s A n c e) (o : Obj) : Box3 (w.alloc o) g s A n c e := h.ext (Ext.alloc _ _)
theorem Box3.drew (h : Box3 w g s A n c e) : Box3 w.drew g s A n c e := h
theorem Box3.noLimb (h : Box3 w g s A n c e) : NoLimb w g := NoLimb.of_block h (fun i x => by rcases i with _ | _ | _ | i <;> simp)
theorem Box3.c0 (h : Box3 w g s A n c e) : w.cell? ⟨g, 0, none⟩ = some (.bool s) := by unfold Box3 at h; simp [World.cell?, h]
theorem Box3.c1 (h : Box3 w g s A n c e) : w.cell? ⟨g, 1, none⟩ = some (.slice A n c) := by unfold Box3 at h; simp [World.cell?, h]
theorem Box3.c2 (h : Box3 w g s A n c e) : w.cell? ⟨g, 2, none⟩ = some (.int .i64 e) := by unfold Box3 at h; simp [World.cell?, h]
theorem Box3.fr (h : Box3 w g s A n c e) (i : Nat) : w.frozen? ⟨g, i, none⟩ = false := by unfold Box3 at h; simp [World.frozen?, h]
theorem Box3.set (h : Box3 w g s A n c e) (s' : Bool) (A' : Option Addr) (n' c' : Nat) (e' : Int) :
    Box3 (((w.setCell ⟨g, 0, none⟩ (.bool s')).setCell ⟨g, 1, none⟩ (.slice A' n' c')).setCell ⟨g, 2, none⟩ (.int .i64 e')) g s' A' n' c' e' := by
  have h1 := heap_setCell_same w g 0 _ _ (.bool s') h
  have h2 := heap_setCell_same _ g 1 _ _ (.slice A' n' c') h1
  have h3 := heap_setCell_same _ g 2 _ _ (.int .i64 e') h2
  exact h3
theorem Box3.set_sl {L : List Nat} {A' : Option Addr} {c' : Nat} (h : Box3 w g s A n c e) (hs : Sl w A' c' L) (s' : Bool) (e' : Int) (n' c2 : Nat) (A2 : Option Addr) :
    Sl (((w.setCell ⟨g, 0, none⟩ (.bool s')).setCell ⟨g, 1, none⟩ (.slice A2 n' c2)).setCell ⟨g, 2, none⟩ (.int .i64 e')) A' c' L := by
  have h1 := heap_setCell_same w g 0 _ _ (.bool s') h
  have h2 := heap_setCell_same _ g 1 _ _ (.slice A2 n' c2) h1
  have k1 : NoLimb (w.setCell ⟨g, 0, none⟩ (.bool s')) g := NoLimb.of_block h1 (fun i x => by rcases i with _ | _ | _ | i <;> simp)
  have k2 : NoLimb ((w.setCell ⟨g, 0, none⟩ (.bool s')).setCell ⟨g, 1, none⟩ (.slice A2 n' c2)) g := NoLimb.of_block h2 (fun i x => by rcases i with _ | _ | _ | i <;> simp)
  exact ((hs.far h.noLimb _).far k1 _).far k2 _
theorem Box3.set_ext {w0 : World} (hb : Ext w0 w) (hg : w0.heap.size ≤ g) (s' : Bool) (A' : Option Addr) (n' c' : Nat) (e' : Int) :
    Ext w0 (((w.setCell ⟨g, 0, none⟩ (.bool s')).setCell ⟨g, 1, none⟩ (.slice A' n' c')).setCell ⟨g, 2, none⟩ (.int .i64 e')) :=
  ((hb.setCell hg _).setCell hg _).setCell hg _
end

theorem dySize : (Tryd.prog.info? 24).map (·.size) = some 3 := by kernel_rfl
theorem results_dy {fn : Func} {p : Tmp} (h : fn.results = #[.cell p 24]) (tmps : Array Value) {w : World} {g n c : Nat} {s : Bool} {A : Option Addr} {e : Int}
    (hp : tmps.getD p undef = .pointer (some ⟨g, 0, none⟩)) (hb : Box3 w g s A n c e) :
    (results fn tmps).run Tryd.prog w = .ok (.agg #[.bool s, .slice A n c, .int .i64 e]) w :=
  results_cell_row h tmps w g _ _ _ _ hp hb Tryd.underlying24 rfl dySize
theorem results_dyt {fn : Func} {p t : Tmp} (h : fn.results = #[.cell p 24, .tmp t]) (tmps : Array Value) {w : World} {g n c : Nat} {s : Bool} {A : Option Addr} {e : Int}
    (hp : tmps.getD p undef = .pointer (some ⟨g, 0, none⟩)) (hb : Box3 w g s A n c e) :
    (results fn tmps).run Tryd.prog w = .ok (.tuple #[.agg #[.bool s, .slice A n c, .int .i64 e], tmps.getD t undef]) w := by
  have hp' : tmps[p]?.getD undef = .pointer (some ⟨g, 0, none⟩) := by simpa using hp
  simp [results, h, hp', asAddr, run_loadVar_row w g _ _ _ _ _ hb Tryd.underlying24 rfl dySize]

/-- The end of a function that returns a number. -/
theorem dy_ret {fn : Func} {p : Tmp} (h : fn.results = #[.cell p 24]) {a : Act} {w W : World} {d : Dy} {g : Nat} {A : Option Addr} {c n : Nat}
    (hp : a.tmps.getD p undef = .pointer (some ⟨g, 0, none⟩)) (hd : a.defers = []) (hb : Box3 W g d.neg A n c d.e) (hn : n = (limbs d.m).length) (hs : Sl W A c (limbs d.m)) (he : Ext w W) :
    bodyPost Tryd.prog fn (RetD w d) .ret a W := by
  subst hn
  exact bodyPost_ret (results_dy h _ hp hb) hd ⟨A, c, rfl, hs, he⟩
/-- .. a number and an error number. -/
theorem dy_rete {fn : Func} {p t : Tmp} (h : fn.results = #[.cell p 24, .tmp t]) {a : Act} {w W : World} {d : Dy} {k : Int} {g : Nat} {A : Option Addr} {c n : Nat}
    (hp : a.tmps.getD p undef = .pointer (some ⟨g, 0, none⟩)) (ht : a.tmps.getD t undef = .int .i64 k) (hd : a.defers = []) (hb : Box3 W g d.neg A n c d.e) (hn : n = (limbs d.m).length) (hs : Sl W A c (limbs d.m)) (he : Ext w W) :
    bodyPost Tryd.prog fn (RetDE w d k) .ret a W := by
  subst hn
  exact bodyPost_ret ((results_dyt h _ hp hb).trans (by rw [ht])) hd ⟨A, c, rfl, hs, he⟩
end Go.Proofs.YtofdlkgpgcnjhaaDoor
