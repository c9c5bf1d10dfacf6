/- ControlNice: its row and its card. -/
import Derived.Test.YtofdlkgpgcnjhaaDoorCa
import Derived.Test.YtofdlkgpgcnjhaaDoorLb
namespace Go.Proofs.YtofdlkgpgcnjhaaDoor
open Go.ChangeShapes Go.WideShapes Go.ChangeAt Go.RowKit Fp

def num0 : Value := .agg #[.bool false, .slice none 0 0, .int .i64 0]
def numD {H : Type} : DataW H := .agg [.lit (.bool false), .nil, .lit (.int .i64 0)]

theorem nice_contract (H : Type) (enc : TypeId × Value → H) (W : World) (base : Nat) (args : Array Value) (ds gs : List (DataW H)) (before : List MemPlace)
    (hval : ∀ (j : Nat) t v, Tryd.f4.params[j]? = some t → args[j]? = some v → Value.okWide Tryd.prog W .any base t v)
    (hW : DataW.Whole enc Tryd.prog Tryd.f4.params.toList Rows.controlNiceSpec.vars false W args.toList ds gs before) (hL : laidMetH Tryd.prog Rows.controlNiceRow.laid W) :
    Calls Tryd.prog 4 args W fun e W' => ∃ v, e = .returned v ∧ Rows.controlNiceSpec.post enc Tryd.prog Tryd.f4 false true false false W args v W' := by
  have hW' := hW
  obtain ⟨p, q, hA0, hV, rfl, hfz, hnd⟩ := hW
  have hA : DataW.TrodAll enc Tryd.prog W 0 (fun _ => true) true Tryd.f4.params.toList args.toList ds p := hA0
  rw [Tryd.params4] at hA hval
  obtain ⟨v0, d0, rfl, rfl, h0⟩ := trodAll_one hA
  obtain ⟨rfl, rfl⟩ := trodVars_none hV
  obtain ⟨cs, rfl, hsz⟩ := okWide_struct Tryd.underlying24 (hval 0 24 v0 rfl rfl)
  have h0k := h0
  obtain ⟨fuel, hf⟩ := h0
  clear hA0
  simp only [List.append_nil] at hW'
  have hlt : ∀ x ∈ p, x.block < W.heap.size := fun x hx => by simpa using hW'.lt x hx
  obtain ⟨s, A, L, cap, e, hcs, hsl, he1, he2⟩ := open_dy hf hlt
  have hcs2 : cs = #[.bool s, .slice A L.length cap, .int .i64 e] := by
    have : cs.toList = _ := hcs
    exact Array.ext' this
  subst hcs2
  refine (lawNice_any s A cap L e W hsl he1 he2 (tb_of_laid rfl hL)).mono fun r W' ⟨hr, hb⟩ => ?_
  subst hr
  refine ⟨_, rfl, _, _, _, [], p, [], hW', ?_, ?_, rfl, hb.frame _, fun h => by cases h⟩
  · exact trodAll_mk1 (shut_bool Tryd.underlying4 _)
  · exact trodAll_mk1 (Below.trod laidOut (by kernel_rfl) (of_decide_eq_true (by kernel_rfl)) h0k hb hlt)

theorem nice_met (os : Os) : laidMet Tryd.prog Rows.controlNiceRow.laid ((laidWorld os #[num0]).forCall (fun _ _ => 0) ⟨#[], #[num0], []⟩).memory :=
  laidMet_of_run' 8 (by kernel_rfl) (by kernel_rfl)
theorem nice_reads (os : Os) {H : Type} (enc : TypeId × Value → H) : ∃ places, DataW.whole enc Tryd.prog ((laidWorld os #[num0]).forCall (fun _ _ => 0) ⟨#[], #[num0], []⟩).memory Tryd.f4.params.toList Rows.controlNiceSpec.vars false #[num0].toList 8 = some ([numD], [], places) :=
  ⟨[], by kernel_rfl⟩

set_option maxRecDepth 100000 in
theorem nice_lifted (os : Os) (started : os.Started) (H : Type) (enc : TypeId × Value → H) (F : Stop.Interp) :
    ReturnsInHanded {} Tryd.checked os 4 .any ((OpenSpec.ofChange Rows.controlNiceSpec).preRow enc Tryd.prog Tryd.f4 Rows.controlNiceRow.domain false Rows.controlNiceRow.laid) (((OpenSpec.ofChange Rows.controlNiceSpec).at F).post enc Tryd.prog Tryd.f4 false true false false) := by
  obtain ⟨places, hx⟩ := nice_reads os enc
  refine returnsInHanded_of_row (C := Tryd.checked) (s := OpenSpec.ofChange Rows.controlNiceSpec) own started (by kernel_rfl) Tryd.func4
    (witness_row_at (enc := enc) (C := Tryd.checked) false (laidWorld os #[num0]) #[num0] rfl (by kernel_rfl) (by kernel_rfl) (by kernel_rfl)
      (OpenSpec.preRow_of_cond 8 hx (by kernel_rfl) (fun k hk => by cases hk) (by kernel_rfl) (nice_met os))) ?_
  intro W base args ds gs before hval hW _ _ _ hL _ _
  exact nice_contract H enc W base args ds gs before hval hW hL

theorem nice_said : Rows.ControlNiceSaid :=
  OpenClaim.holds_of_cond 4 Tryd.f4 rfl rfl rfl rfl rfl rfl rfl ⟨rfl, rfl, rfl, rfl, rfl⟩ rfl rfl rfl rfl rfl (by kernel_rfl) Tryd.func4 (by kernel_rfl)
    (of_decide_eq_true (by kernel_rfl)) (by unfold Func.isWrapper; first | (rw [if_pos (by decide +kernel)]; kernel_rfl) | (rw [if_neg (by decide +kernel)]; exact ⟨rfl, rfl⟩))
    (fun os started H enc _ F => by rw [OpenClaim.pre_eq_preRow]; exact nice_lifted os started H enc F)

theorem nice_plain (f : FuncId) (fn : Func) (hf : Tryd.pinned.checked.prog.funcNamed "flowpipe/flowpipelaw30.ControlNice" = some f) (hfn : Tryd.pinned.checked.prog.funcs[f]? = some fn) :
    false = Tryd.pinned.checked.prog.looks [] ∧ ∀ (j : Nat) t, fn.params[j]? = some t → Tryd.pinned.checked.prog.wantsStandIn t = false := by
  obtain rfl : f = 4 := Option.some.inj ((show Tryd.prog.funcNamed "flowpipe/flowpipelaw30.ControlNice" = some 4 by kernel_rfl).symm.trans hf) |>.symm
  obtain rfl : fn = Tryd.f4 := (Option.some.inj (Tryd.func4.symm.trans hfn)).symm
  refine ⟨by kernel_rfl, fun j t ht => ?_⟩
  rw [Tryd.params4] at ht
  obtain rfl : t = 24 := by simpa using Array.mem_of_getElem? ht
  exact (show Tryd.prog.wantsStandIn 24 = false by kernel_rfl)

theorem nice_card : Rows.ControlNiceCardSaid :=
  Claim7.holds_tied_plain_at .later [] _ _ _ _ nice_said (fun _ h => by cases h) (by kernel_rfl) (fun _ h => by cases h) controlNice_row_tie rfl ⟨rfl, rfl⟩ (by kernel_rfl) rfl nice_plain (by kernel_rfl)
end Go.Proofs.YtofdlkgpgcnjhaaDoor
