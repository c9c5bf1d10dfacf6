/- Walks: valid configurations, as the program says. -/
import Derived.Test.YtofdlkgpgcnjhaaDoorWw
namespace Go.Proofs.YtofdlkgpgcnjhaaDoor
open Go.RowKit Fp

/-- A block that holds a configuration. -/
def Box8 (w : World) (g : Nat) (me o p : Int) (s : Bool) (A : Option Addr) (n c : Nat) (e t mo : Int) : Prop :=
  w.heap[g]? = some (.cells #[.int .i64 me, .int .i64 o, .int .i64 p, .bool s, .slice A n c, .int .i64 e, .int .i64 t, .int .i64 mo] 26 (0, 0))
section
variable {w w' : World} {g n c : Nat} {s : Bool} {A : Option Addr} {me o p e t mo : Int}
theorem Box8.new (W : World) (me o p : Int) (s : Bool) (A : Option Addr) (n c : Nat) (e t mo : Int) : Box8 (W.alloc (.cells #[.int .i64 me, .int .i64 o, .int .i64 p, .bool s, .slice A n c, .int .i64 e, .int .i64 t, .int .i64 mo] 26)) W.heap.size me o p s A n c e t mo := heap_alloc_new W _
theorem Box8.lt (h : Box8 w g me o p s A n c e t mo) : g < w.heap.size := (Array.getElem?_eq_some_iff.1 h).1
theorem Box8.ext (h : Box8 w g me o p s A n c e t mo) (hb : Ext w w') : Box8 w' g me o p s A n c e t mo := (hb.block g h.lt).trans h
theorem Box8.drew (h : Box8 w g me o p s A n c e t mo) : Box8 w.drew g me o p s A n c e t mo := h
theorem Box8.c0 (h : Box8 w g me o p s A n c e t mo) : w.cell? ⟨g, 0, none⟩ = some (.int .i64 me) := by unfold Box8 at h; simp [World.cell?, h]
theorem Box8.c1 (h : Box8 w g me o p s A n c e t mo) : w.cell? ⟨g, 1, none⟩ = some (.int .i64 o) := by unfold Box8 at h; simp [World.cell?, h]
theorem Box8.c2 (h : Box8 w g me o p s A n c e t mo) : w.cell? ⟨g, 2, none⟩ = some (.int .i64 p) := by unfold Box8 at h; simp [World.cell?, h]
theorem Box8.c3 (h : Box8 w g me o p s A n c e t mo) : w.cell? ⟨g, 3, none⟩ = some (.bool s) := by unfold Box8 at h; simp [World.cell?, h]
theorem Box8.c4 (h : Box8 w g me o p s A n c e t mo) : w.cell? ⟨g, 4, none⟩ = some (.slice A n c) := by unfold Box8 at h; simp [World.cell?, h]
theorem Box8.c5 (h : Box8 w g me o p s A n c e t mo) : w.cell? ⟨g, 5, none⟩ = some (.int .i64 e) := by unfold Box8 at h; simp [World.cell?, h]
theorem Box8.c6 (h : Box8 w g me o p s A n c e t mo) : w.cell? ⟨g, 6, none⟩ = some (.int .i64 t) := by unfold Box8 at h; simp [World.cell?, h]
theorem Box8.c7 (h : Box8 w g me o p s A n c e t mo) : w.cell? ⟨g, 7, none⟩ = some (.int .i64 mo) := by unfold Box8 at h; simp [World.cell?, h]
theorem Box8.all (h : Box8 w g me o p s A n c e t mo) : w.cell? ⟨g, 0, none⟩ = some (.int .i64 me) ∧ w.cell? ⟨g, 1, none⟩ = some (.int .i64 o) ∧ w.cell? ⟨g, 2, none⟩ = some (.int .i64 p) ∧ w.cell? ⟨g, 3, none⟩ = some (.bool s) ∧ w.cell? ⟨g, 4, none⟩ = some (.slice A n c) ∧ w.cell? ⟨g, 5, none⟩ = some (.int .i64 e) ∧ w.cell? ⟨g, 6, none⟩ = some (.int .i64 t) ∧ w.cell? ⟨g, 7, none⟩ = some (.int .i64 mo) :=
  ⟨h.c0, h.c1, h.c2, h.c3, h.c4, h.c5, h.c6, h.c7⟩
end

/-- The step of a configuration is valid, positive, at most 2^20. -/
def StepOk (s : Bool) (L : List Nat) (e : Int) : Prop := Dok s L e ∧ 0 < Dy.sign ⟨s, val L, e⟩ ∧ cmpD ⟨s, val L, e⟩ ⟨false, 1, 20⟩ ≤ 0
/-- A valid configuration. -/
def CfgOk (me o p : Int) (s : Bool) (L : List Nat) (e t mo : Int) : Prop :=
  (1 ≤ me ∧ me ≤ 3) ∧ (1 ≤ o ∧ o ≤ 15) ∧ (8 ≤ p ∧ p ≤ 256) ∧ (0 ≤ t ∧ t ≤ 200) ∧ (1 ≤ mo ∧ mo ≤ 1000) ∧ StepOk s L e

/-- All tests of the numbers are passed: it is the step that decides. -/
def CfgNum (me o p t mo : Int) : Prop :=
  (1 ≤ me ∧ me ≤ 3) ∧ (1 ≤ o ∧ o ≤ 15) ∧ (8 ≤ p ∧ p ≤ 256) ∧ (0 ≤ t ∧ t ≤ 200) ∧ (1 ≤ mo ∧ mo ≤ 1000)

set_option maxHeartbeats 4000000 in
theorem cfgValid_num (me o p : Int) (s : Bool) (A : Option Addr) (c : Nat) (L : List Nat) (e t mo : Int) (w : World) (hn : ¬ CfgNum me o p t mo) :
    Calls Tryd.prog 10 #[.agg #[.int .i64 me, .int .i64 o, .int .i64 p, .bool s, .slice A L.length c, .int .i64 e, .int .i64 t, .int .i64 mo]] w fun r w' => r = .returned (.bool false) ∧ Ext w w' := by
  by_cases hm : 1 ≤ me ∧ me ≤ 3
  · have hmm : me = 1 ∨ me = 2 ∨ me = 3 := by omega
    clear hm
    have hn := Lib.hid (fun h => hn ⟨by rcases hmm with rfl | rfl | rfl <;> omega, h⟩)
    by_cases h1 : o < 1
    · have d1 : decide (o < 1) = true := decide_eq_true h1
      clear hn
      rcases hmm with rfl | rfl | rfl
      all_goals
        go_enter Tryd.func10, Tryd.ntmps10
        go_wp2
        go_ret
        exact ⟨rfl, Ext.alloc _ _⟩
    have d1 : decide (o < 1) = false := decide_eq_false h1
    by_cases h2 : 15 < o
    · have d2 : decide (15 < o) = true := decide_eq_true h2
      clear hn
      rcases hmm with rfl | rfl | rfl
      all_goals
        go_enter Tryd.func10, Tryd.ntmps10
        go_wp2
        go_ret
        exact ⟨rfl, Ext.alloc _ _⟩
    have d2 : decide (15 < o) = false := decide_eq_false h2
    by_cases h3 : p < 8
    · have d3 : decide (p < 8) = true := decide_eq_true h3
      clear hn
      rcases hmm with rfl | rfl | rfl
      all_goals
        go_enter Tryd.func10, Tryd.ntmps10
        go_wp2
        go_ret
        exact ⟨rfl, Ext.alloc _ _⟩
    have d3 : decide (p < 8) = false := decide_eq_false h3
    by_cases h4 : 256 < p
    · have d4 : decide (256 < p) = true := decide_eq_true h4
      clear hn
      rcases hmm with rfl | rfl | rfl
      all_goals
        go_enter Tryd.func10, Tryd.ntmps10
        go_wp2
        go_ret
        exact ⟨rfl, Ext.alloc _ _⟩
    have d4 : decide (256 < p) = false := decide_eq_false h4
    by_cases h5 : t < 0
    · have d5 : decide (t < 0) = true := decide_eq_true h5
      clear hn
      rcases hmm with rfl | rfl | rfl
      all_goals
        go_enter Tryd.func10, Tryd.ntmps10
        go_wp2
        go_ret
        exact ⟨rfl, Ext.alloc _ _⟩
    have d5 : decide (t < 0) = false := decide_eq_false h5
    by_cases h6 : 200 < t
    · have d6 : decide (200 < t) = true := decide_eq_true h6
      clear hn
      rcases hmm with rfl | rfl | rfl
      all_goals
        go_enter Tryd.func10, Tryd.ntmps10
        go_wp2
        go_ret
        exact ⟨rfl, Ext.alloc _ _⟩
    have d6 : decide (200 < t) = false := decide_eq_false h6
    by_cases h7 : mo < 1
    · have d7 : decide (mo < 1) = true := decide_eq_true h7
      clear hn
      rcases hmm with rfl | rfl | rfl
      all_goals
        go_enter Tryd.func10, Tryd.ntmps10
        go_wp2
        go_ret
        exact ⟨rfl, Ext.alloc _ _⟩
    have d7 : decide (mo < 1) = false := decide_eq_false h7
    by_cases h8 : 1000 < mo
    · have d8 : decide (1000 < mo) = true := decide_eq_true h8
      clear hn
      rcases hmm with rfl | rfl | rfl
      all_goals
        go_enter Tryd.func10, Tryd.ntmps10
        go_wp2
        go_ret
        exact ⟨rfl, Ext.alloc _ _⟩
    exact absurd ⟨⟨by omega, by omega⟩, ⟨by omega, by omega⟩, ⟨by omega, by omega⟩, by omega, by omega⟩ hn.out
  · have d1 : (me != 1) = true := by simp; omega
    have d2 : (me != 2) = true := by simp; omega
    have d3 : (me != 3) = true := by simp; omega
    clear hn hm
    go_enter Tryd.func10, Tryd.ntmps10
    go_wp2
    go_ret
    exact ⟨rfl, Ext.alloc _ _⟩
end Go.Proofs.YtofdlkgpgcnjhaaDoor
