/- The statement of ControlConfigs: its card. -/
import Derived.Test.YtofdlkgpgcnjhaaDoorCa
import Derived.Test.YtofdlkgpgcnjhaaDoorLa
namespace Go.Proofs.YtofdlkgpgcnjhaaDoor
open Go.ChangeShapes Go.WideShapes Go.ChangeAt Go.RowKit Fp

/-- A configuration, opened: its eight cells. -/
theorem open_cfg {H : Type} {enc : TypeId × Value → H} {W : World} {fuel : Nat} {cs : List Value} {x : DataW H × List MemPlace}
    (h : DataW.trod enc Tryd.prog W 0 (fun _ => true) true fuel 26 cs = some x) (hlt : ∀ p ∈ x.2, p.block < W.heap.size) :
    ∃ me o p s A L cap e t mo, cs = [.int .i64 me, .int .i64 o, .int .i64 p, .bool s, .slice A L.length cap, .int .i64 e, .int .i64 t, .int .i64 mo] ∧ Sl W A cap L ∧ (-9223372036854775808 ≤ e ∧ e ≤ 9223372036854775807) := by
  obtain ⟨xs, n, rfl, rfl, hl, hxl, hf⟩ := DataW.trod_struct Tryd.underlying26 h
  have hC : Tryd.prog.cellsOf 26 = 8 := by kernel_rfl
  have hD : Tryd.prog.cellsOf 24 = 3 := by kernel_rfl
  have hI : Tryd.prog.cellsOf 3 = 1 := by kernel_rfl
  rw [hC] at hl
  match cs, hl with
  | [c0, c1, c2, c3, c4, c5, c6, c7], _ =>
    have h0 := hf 0 _ rfl
    have h1 := hf 1 _ rfl
    have h2 := hf 2 _ rfl
    have h3 := hf 3 _ rfl
    have h4 := hf 4 _ rfl
    have h5 := hf 5 _ rfl
    simp only [List.getElem_toArray, List.getElem_cons_zero, List.getElem_cons_succ] at h0 h1 h2 h3 h4 h5
    simp only [hD, hI, List.drop_zero, List.drop_succ_cons, List.take_succ_cons, List.take_zero] at h0 h1 h2 h3 h4 h5
    rw [List.getElem?_eq_getElem (by rw [hxl]; decide)] at h0 h1 h2 h3 h4 h5
    obtain ⟨me, e0, _, _⟩ := DataW.trod_int Tryd.underlying3 h0
    obtain ⟨o, e1, _, _⟩ := DataW.trod_int Tryd.underlying3 h1
    obtain ⟨p, e2, _, _⟩ := DataW.trod_int Tryd.underlying3 h2
    obtain ⟨s, A, L, cap, e, e3, hsl, he⟩ := open_dy h3 (fun p hp => hlt p (List.mem_flatMap.2 ⟨_, List.getElem_mem _, hp⟩))
    obtain ⟨t, e4, _, _⟩ := DataW.trod_int Tryd.underlying3 h4
    obtain ⟨mo, e5, _, _⟩ := DataW.trod_int Tryd.underlying3 h5
    simp at e0 e1 e2 e3 e4 e5
    obtain ⟨rfl, rfl, rfl⟩ := e3
    subst e0 e1 e2 e4 e5
    exact ⟨me, o, p, s, A, L, cap, e, t, mo, rfl, hsl, he⟩

theorem configs_contract (H : Type) (enc : TypeId × Value → H) (W : World) (base : Nat) (args : Array Value) (ds gs : List (DataW H)) (before : List MemPlace)
    (hval : ∀ (j : Nat) t v, Tryd.f3.params[j]? = some t → args[j]? = some v → Value.okWide Tryd.prog W .any base t v)
    (hW : DataW.Whole enc Tryd.prog Tryd.f3.params.toList Rows.controlConfigsSpec.vars false W args.toList ds gs before) (hL : laidMetH Tryd.prog Rows.controlConfigsRow.laid W) :
    Calls Tryd.prog 3 args W fun e W' => ∃ v, e = .returned v ∧ Rows.controlConfigsSpec.post enc Tryd.prog Tryd.f3 false true false false W args v W' := by
  have hW' := hW
  obtain ⟨p, q, hA0, hV, rfl, hfz, hnd⟩ := hW
  have hA : DataW.TrodAll enc Tryd.prog W 0 (fun _ => true) true Tryd.f3.params.toList args.toList ds p := hA0
  rw [Tryd.params3] at hA hval
  obtain ⟨v0, d0, rfl, rfl, h0⟩ := trodAll_one hA
  obtain ⟨rfl, rfl⟩ := trodVars_none hV
  obtain ⟨cs, rfl, hsz⟩ := okWide_struct Tryd.underlying26 (hval 0 26 v0 rfl rfl)
  have h0k := h0
  obtain ⟨fuel, hf⟩ := h0
  clear hA0
  simp only [List.append_nil] at hW'
  have hlt : ∀ x ∈ p, x.block < W.heap.size := fun x hx => by simpa using hW'.lt x hx
  obtain ⟨me, o, pr, s, A, L, cap, e, t, mo, hcs, hsl, he1, he2⟩ := open_cfg hf hlt
  have hcs2 : cs = #[.int .i64 me, .int .i64 o, .int .i64 pr, .bool s, .slice A L.length cap, .int .i64 e, .int .i64 t, .int .i64 mo] := by
    have : cs.toList = _ := hcs
    exact Array.ext' this
  subst hcs2
  refine (lawConfigs_any me o pr s A cap L e t mo W hsl he1 he2 (tb_of_laid rfl hL)).mono fun r W' ⟨hr, hb⟩ => ?_
  subst hr
  refine ⟨_, rfl, _, _, _, [], p, [], hW', ?_, ?_, rfl, hb.frame _, fun h => by cases h⟩
  · exact trodAll_mk1 (shut_bool Tryd.underlying4 _)
  · exact trodAll_mk1 (Below.trod laidOut (by kernel_rfl) (of_decide_eq_true (by kernel_rfl)) h0k hb hlt)
end Go.Proofs.YtofdlkgpgcnjhaaDoor
