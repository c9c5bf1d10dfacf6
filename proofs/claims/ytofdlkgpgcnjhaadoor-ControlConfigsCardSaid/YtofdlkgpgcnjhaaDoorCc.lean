/- ControlConfigs: its row and its card. -/
import Derived.Test.YtofdlkgpgcnjhaaDoorCb
namespace Go.Proofs.YtofdlkgpgcnjhaaDoor
open Go.ChangeShapes Go.WideShapes Go.ChangeAt Go.RowKit Fp

def cfg0 : Value := .agg #[.int .i64 0, .int .i64 0, .int .i64 0, .bool false, .slice none 0 0, .int .i64 0, .int .i64 0, .int .i64 0]
def cfgD {H : Type} : DataW H := .agg [.lit (.int .i64 0), .lit (.int .i64 0), .lit (.int .i64 0), .agg [.lit (.bool false), .nil, .lit (.int .i64 0)], .lit (.int .i64 0), .lit (.int .i64 0)]

theorem configs_met (os : Os) : laidMet Tryd.prog Rows.controlConfigsRow.laid ((laidWorld os #[cfg0]).forCall (fun _ _ => 0) ⟨#[], #[cfg0], []⟩).memory :=
  laidMet_of_run' 8 (by kernel_rfl) (by kernel_rfl)
theorem configs_reads (os : Os) {H : Type} (enc : TypeId × Value → H) : ∃ places, DataW.whole enc Tryd.prog ((laidWorld os #[cfg0]).forCall (fun _ _ => 0) ⟨#[], #[cfg0], []⟩).memory Tryd.f3.params.toList Rows.controlConfigsSpec.vars false #[cfg0].toList 8 = some ([cfgD], [], places) :=
  ⟨[], by kernel_rfl⟩

set_option maxRecDepth 100000 in
theorem configs_lifted (os : Os) (started : os.Started) (H : Type) (enc : TypeId × Value → H) (F : Stop.Interp) :
    ReturnsInHanded {} Tryd.checked os 3 .any ((OpenSpec.ofChange Rows.controlConfigsSpec).preRow enc Tryd.prog Tryd.f3 Rows.controlConfigsRow.domain false Rows.controlConfigsRow.laid) (((OpenSpec.ofChange Rows.controlConfigsSpec).at F).post enc Tryd.prog Tryd.f3 false true false false) := by
  obtain ⟨places, hx⟩ := configs_reads os enc
  refine returnsInHanded_of_row (C := Tryd.checked) (s := OpenSpec.ofChange Rows.controlConfigsSpec) own started (by kernel_rfl) Tryd.func3
    (witness_row_at (enc := enc) (C := Tryd.checked) false (laidWorld os #[cfg0]) #[cfg0] rfl (by kernel_rfl) (by kernel_rfl) (by kernel_rfl)
      (OpenSpec.preRow_of_cond 8 hx (by kernel_rfl) (fun k hk => by cases hk) (by kernel_rfl) (configs_met os))) ?_
  intro W base args ds gs before hval hW _ _ _ hL _ _
  exact configs_contract H enc W base args ds gs before hval hW hL

theorem configs_said : Rows.ControlConfigsSaid :=
  OpenClaim.holds_of_cond 3 Tryd.f3 rfl rfl rfl rfl rfl rfl rfl ⟨rfl, rfl, rfl, rfl, rfl⟩ rfl rfl rfl rfl rfl (by kernel_rfl) Tryd.func3 (by kernel_rfl)
    (of_decide_eq_true (by kernel_rfl)) (by unfold Func.isWrapper; first | (rw [if_pos (by decide +kernel)]; kernel_rfl) | (rw [if_neg (by decide +kernel)]; exact ⟨rfl, rfl⟩))
    (fun os started H enc _ F => by rw [OpenClaim.pre_eq_preRow]; exact configs_lifted os started H enc F)

theorem configs_plain (f : FuncId) (fn : Func) (hf : Tryd.pinned.checked.prog.funcNamed "flowpipe/flowpipelaw30.ControlConfigs" = some f) (hfn : Tryd.pinned.checked.prog.funcs[f]? = some fn) :
    false = Tryd.pinned.checked.prog.looks [] ∧ ∀ (j : Nat) t, fn.params[j]? = some t → Tryd.pinned.checked.prog.wantsStandIn t = false := by
  obtain rfl : f = 3 := Option.some.inj ((show Tryd.prog.funcNamed "flowpipe/flowpipelaw30.ControlConfigs" = some 3 by kernel_rfl).symm.trans hf) |>.symm
  obtain rfl : fn = Tryd.f3 := (Option.some.inj (Tryd.func3.symm.trans hfn)).symm
  refine ⟨by kernel_rfl, fun j t ht => ?_⟩
  rw [Tryd.params3] at ht
  obtain rfl : t = 26 := by simpa using Array.mem_of_getElem? ht
  exact (show Tryd.prog.wantsStandIn 26 = false by kernel_rfl)

theorem configs_card : Rows.ControlConfigsCardSaid :=
  Claim7.holds_tied_plain_at .later [] _ _ _ _ configs_said (fun _ h => by cases h) (by kernel_rfl) (fun _ h => by cases h) controlConfigs_row_tie rfl ⟨rfl, rfl⟩ (by kernel_rfl) rfl configs_plain (by kernel_rfl)
end Go.Proofs.YtofdlkgpgcnjhaaDoor
