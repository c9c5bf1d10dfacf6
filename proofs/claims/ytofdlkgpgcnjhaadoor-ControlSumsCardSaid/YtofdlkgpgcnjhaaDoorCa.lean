/- Arguments that are numbers, opened; the table of math/bits. -/
import Derived.Test.YtofdlkgpgcnjhaaDoorCards
import Derived.Test.YtofdlkgpgcnjhaaDoorTie
import Derived.Test.YtofdlkgpgcnjhaaDoorKit
import Derived.ProofKit
import Derived.OpenShut
import Derived.Deep.DeepHandedRow
import Derived.Lib.LaidTab
namespace Go.Proofs.YtofdlkgpgcnjhaaDoor
open Go.ChangeShapes Go.WideShapes Go.ChangeAt Go.RowKit Fp

theorem own : ownKnob Tryd.prog.godebug = none := by kernel_rfl
theorem laidOut : laidOutB Tryd.prog = true := by kernel_rfl
theorem gTab : Tryd.prog.globalNamed "math/bits.deBruijn32tab" = some 0 := by kernel_rfl
theorem gTabType : (Tryd.prog.globals[0]?).map (·.type) = some 75 := by kernel_rfl
theorem cellsTab : Tryd.prog.cellsOf 75 = 32 := by kernel_rfl
theorem cells8 : Tryd.prog.cellsOf 5 = 1 := by kernel_rfl
theorem cells32 : Tryd.prog.cellsOf 50 = 1 := by kernel_rfl

theorem tb_of_laid {l : List (String × DataW Unit)} (hl : l = [("math/bits.deBruijn32tab", Rows.laid_math_bits_deBruijn32tab)]) {W : World} (h : laidMet Tryd.prog l W) : Tb W := by
  subst hl
  have ht : Lib.TabIs Tryd.prog W "math/bits.deBruijn32tab" .u8 (Lib.deBruijn32tab.map fun (n : Nat) => (n : Int)) :=
    Lib.tabIs_of_head (rest := []) gTab gTabType Tryd.underlying75 Tryd.underlying5 cells8 cellsTab h
  intro j hj
  have := ht.cell gTab j (by simpa using hj)
  rw [this]
  simp [List.getD_eq_getElem?_getD]
  rw [List.getElem?_eq_getElem hj]
  simp

theorem array8 {cs : Array Value} (h : cs.size = 8) : ∃ c0 c1 c2 c3 c4 c5 c6 c7, cs = #[c0, c1, c2, c3, c4, c5, c6, c7] := by
  obtain ⟨l⟩ := cs
  match l, h with
  | [c0, c1, c2, c3, c4, c5, c6, c7], _ => exact ⟨c0, c1, c2, c3, c4, c5, c6, c7, rfl⟩

theorem i64_wf {n : Int} (h : (Lit.int .i64 n).wf = true) : -9223372036854775808 ≤ n ∧ n ≤ 9223372036854775807 := by
  have h1 : IntKind.i64.min = -9223372036854775808 := rfl
  have h2 : IntKind.i64.max = 9223372036854775807 := rfl
  simp [Lit.wf, h1, h2] at h
  omega

/-- A slice of limbs, opened. -/
theorem open_limbs {H : Type} {enc : TypeId × Value → H} {W : World} {fuel : Nat} {c : Value} {x : DataW H × List MemPlace}
    (h : DataW.trod enc Tryd.prog W 0 (fun _ => true) true fuel 22 [c] = some x) (_hlt : ∀ p ∈ x.2, p.block < W.heap.size) :
    ∃ A L cap, c = .slice A L.length cap ∧ Sl W A cap L := by
  rcases open_ints Tryd.underlying22 Tryd.underlying50 cells32 h with ⟨hcs, hx⟩ | ⟨a, len, cap, zs, hcs, _, hl, hm, hz, hx, hcell, hwz⟩
  · simp at hcs
    exact ⟨none, [], 0, hcs, Sl.nil W⟩
  · simp at hcs
    simp only [if_true] at hz
    refine ⟨some a, (zs.take len).map Int.toNat, cap, ?_, ?_⟩
    · rw [hcs, List.length_map, List.length_take, Nat.min_eq_left (by omega)]
    · have hw32 : ∀ n ∈ zs, 0 ≤ n ∧ n < 4294967296 := fun n hn => by
        have := hwz n hn
        have h1 : IntKind.u32.min = 0 := rfl
        have h2 : IntKind.u32.max = 4294967295 := rfl
        simp [Lit.wf, h1, h2] at this
        omega
      refine ⟨by rw [List.length_map, List.length_take]; omega, by simpa [maxLen] using hm, ?_, (fun h => by cases h), ?_⟩
      · intro y hy
        obtain ⟨z, hz', rfl⟩ := List.mem_map.1 hy
        have := hw32 z (List.mem_of_mem_take hz')
        omega
      · intro i y hy
        rw [List.getElem?_map] at hy
        obtain ⟨z, hz', rfl⟩ := Option.map_eq_some_iff.1 hy
        rw [List.getElem?_take] at hz'
        split at hz'
        · rename_i hi
          have hc := hcell i (by omega)
          rw [List.getD_eq_getElem?_getD, hz'] at hc
          obtain ⟨b, off, spot⟩ := a
          have hsp : spot = none := by
            rcases spot with _ | q
            · rfl
            · exfalso
              have hc0 := hcell 0 (by omega)
              rw [show (⟨b, off, some q⟩ : Addr).add 0 = ⟨b, off, some q⟩ from rfl] at hc0
              unfold World.cell? at hc0
              split at hc0 <;> simp at hc0
          subst hsp
          refine ⟨b, off, rfl, ?_, ?_⟩
          · have := block_lt_of_cell hc
            rwa [block_of_add] at this
          · rw [addr_add] at hc
            rw [hc]
            have := hw32 z (List.mem_of_getElem? hz')
            simp
            omega
        · cases hz'
/-- A number, opened: its three cells. -/
theorem open_dy {H : Type} {enc : TypeId × Value → H} {W : World} {fuel : Nat} {cs : List Value} {x : DataW H × List MemPlace}
    (h : DataW.trod enc Tryd.prog W 0 (fun _ => true) true fuel 24 cs = some x) (hlt : ∀ p ∈ x.2, p.block < W.heap.size) :
    ∃ s A L cap e, cs = [.bool s, .slice A L.length cap, .int .i64 e] ∧ Sl W A cap L ∧ (-9223372036854775808 ≤ e ∧ e ≤ 9223372036854775807) := by
  obtain ⟨xs, n, rfl, rfl, hl, hxl, hf⟩ := DataW.trod_struct Tryd.underlying24 h
  have hC : Tryd.prog.cellsOf 24 = 3 := by kernel_rfl
  have hB : Tryd.prog.cellsOf 4 = 1 := by kernel_rfl
  have hS : Tryd.prog.cellsOf 22 = 1 := by kernel_rfl
  have hI : Tryd.prog.cellsOf 3 = 1 := by kernel_rfl
  rw [hC] at hl
  match cs, hl with
  | [a, b, c], _ =>
    have h0 := hf 0 _ rfl
    have h1 := hf 1 _ rfl
    have h2 := hf 2 _ rfl
    simp only [List.getElem_toArray, List.getElem_cons_zero, List.getElem_cons_succ] at h0 h1 h2
    simp only [hB, hS, hI, List.drop_zero, List.drop_succ_cons, List.take_succ_cons, List.take_zero] at h0 h1 h2
    rw [List.getElem?_eq_getElem (by rw [hxl]; decide)] at h0 h1 h2
    obtain ⟨s, hs, _⟩ := DataW.trod_bool Tryd.underlying4 h0
    obtain ⟨A, L, cap, hc, hsl⟩ := open_limbs h1 (fun p hp => hlt p (List.mem_flatMap.2 ⟨_, List.getElem_mem _, hp⟩))
    obtain ⟨e, he, _, hw⟩ := DataW.trod_int Tryd.underlying3 h2
    simp at hs he
    subst hs he hc
    exact ⟨s, A, L, cap, e, rfl, hsl, i64_wf hw⟩

/-- A world for the witness: the settled one, the table holding what its initialiser lays. -/
noncomputable def laidWorld (os : Os) (args : Array Value) : World :=
  { World.holding Tryd.prog os ⟨#[], args, []⟩ with heap := (World.holding Tryd.prog os ⟨#[], args, []⟩).heap.modify 0 fun
      | .cells _ t frozen => .cells (Lib.deBruijn32tab.map fun (n : Nat) => Value.int .u8 (n : Int)).toArray t frozen
      | o => o }
end Go.Proofs.YtofdlkgpgcnjhaaDoor
