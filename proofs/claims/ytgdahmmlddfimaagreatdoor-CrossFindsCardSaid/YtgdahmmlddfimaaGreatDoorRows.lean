/-
  NARROWER THAN 'FOR EVERY INPUT', by the rows' own cells (each row's printed sentence says how): CrossTurned: laid · CrossFinds: laid · StepRuns: laid · ControlChooses: laid.
  DERIVED. THE GIVEN ROWS OF THIS SEAT. 4 by the template 'for every input the law returns true; each argument reads behind the call as it read before'; 0 by the template 'total and deterministic' (their statements: YtgdahmmlddfimaaGreatDoorTotals.lean).
  GIVEN WITH THE SEED: the statements are not yours to turn. If you find one false, say at which input.
  Laid BY PROGRAM, IN A SANDBOX (cutbox-rows.mjs): the forced cells as the released guide's own fill.sh prints them over the translation 540f10aa8a606463… (all of the seat's roots in one cut). By AI agents, Wed Nov 11 2026. No macro, syntax, notation, axiom, sorry.
-/
import Derived.Test.YtgdahmmlddfimaaGreatDoorChecked
import GoSem.Claim
import GoSem.ClaimJoined
import GoSem.ClaimMapViews
import Derived.JoinedTies
import Derived.KernelRfl
namespace Go.Proofs.YtgdahmmlddfimaaGreatDoor
/- THE CELL 'sum', in the pinned program and in every row, IS THE sha256 OF THE DUMP (.gsa) THAT YtgdahmmlddfimaaGreatDoorProg.lean LOADS. Nothing in Lean hashes anything: it is a label: what it is worth is what the hold of that sum in a sandbox is worth. -/
noncomputable def Tryz.pinned : Pinned := { name := "ytgdahmmlddfimaagreatdoor", sum := "540f10aa8a606463fc38c906ab32fd781d3a7463a8c0dcf4d69eb098518a1b74", checked := Tryz.checked }
namespace Rows
def none {H : Type} : Left H := { results := [], args := [] }

/- WHAT THE LISTED PACKAGE-LEVEL VARIABLES READ AS WHEN THE CALL BEGINS. Each datum BY PROGRAM (the guide's laid-datum.mjs) off the statement by which the dump's own 'gosem.cut.vars' lays the variable. In a bare row this is a premise. The card (YtgdahmmlddfimaaGreatDoorCards.lean) ties it to the program's text. -/
def laid_math_bits_deBruijn32tab {H : Type} : DataW H := .agg [.lit (.int .u8 0), .lit (.int .u8 1), .lit (.int .u8 28), .lit (.int .u8 2), .lit (.int .u8 29), .lit (.int .u8 14), .lit (.int .u8 24), .lit (.int .u8 3), .lit (.int .u8 30), .lit (.int .u8 22), .lit (.int .u8 20), .lit (.int .u8 15), .lit (.int .u8 25), .lit (.int .u8 17), .lit (.int .u8 4), .lit (.int .u8 8), .lit (.int .u8 31), .lit (.int .u8 27), .lit (.int .u8 13), .lit (.int .u8 23), .lit (.int .u8 21), .lit (.int .u8 19), .lit (.int .u8 16), .lit (.int .u8 7), .lit (.int .u8 26), .lit (.int .u8 12), .lit (.int .u8 18), .lit (.int .u8 6), .lit (.int .u8 11), .lit (.int .u8 5), .lit (.int .u8 10), .lit (.int .u8 9)]

/-- 'flowpipelaw41.CrossTurned': WHATEVER THE INPUT: true; the input reads as it did. -/
def crossTurnedSpec : ChangeSpec := { name := "crossTurned", fn := fun _ => fun
  | [d1, d2, d3, d4, d5, d6] => { results := [.lit (.bool true)], args := [d1, d2, d3, d4, d5, d6] }
  | _ => none }
def crossTurnedRow : OpenClaim := { program := "ytgdahmmlddfimaagreatdoor", sum := "540f10aa8a606463fc38c906ab32fd781d3a7463a8c0dcf4d69eb098518a1b74", func := "flowpipe/flowpipelaw41.CrossTurned", spec := "crossTurned", unfollowed := true, recurses := true, named := ["math/bits.deBruijn32tab", "math/bits.overflowError"], apart := false, laid := [("math/bits.deBruijn32tab", laid_math_bits_deBruijn32tab)] }
def CrossTurnedSaid : Prop := crossTurnedRow.holds Tryz.pinned (OpenSpec.ofChange crossTurnedSpec)

/-- ITS FALSE NEIGHBOUR: 'it returns false'. Refute it at one input. -/
def crossTurnedWrong : ChangeSpec := { name := "crossTurned", fn := fun _ => fun
  | [d1, d2, d3, d4, d5, d6] => { results := [.lit (.bool false)], args := [d1, d2, d3, d4, d5, d6] }
  | _ => none }
def CrossTurnedWrongFalsely : Prop := crossTurnedRow.holds Tryz.pinned (OpenSpec.ofChange crossTurnedWrong)

/-- 'flowpipelaw41.CrossFinds': WHATEVER THE INPUT: true; the input reads as it did. -/
def crossFindsSpec : ChangeSpec := { name := "crossFinds", fn := fun _ => fun
  | [d1, d2, d3, d4, d5] => { results := [.lit (.bool true)], args := [d1, d2, d3, d4, d5] }
  | _ => none }
def crossFindsRow : OpenClaim := { program := "ytgdahmmlddfimaagreatdoor", sum := "540f10aa8a606463fc38c906ab32fd781d3a7463a8c0dcf4d69eb098518a1b74", func := "flowpipe/flowpipelaw41.CrossFinds", spec := "crossFinds", unfollowed := true, recurses := true, named := ["math/bits.deBruijn32tab", "math/bits.overflowError"], apart := false, laid := [("math/bits.deBruijn32tab", laid_math_bits_deBruijn32tab)] }
def CrossFindsSaid : Prop := crossFindsRow.holds Tryz.pinned (OpenSpec.ofChange crossFindsSpec)

/-- ITS FALSE NEIGHBOUR: 'it returns false'. Refute it at one input. -/
def crossFindsWrong : ChangeSpec := { name := "crossFinds", fn := fun _ => fun
  | [d1, d2, d3, d4, d5] => { results := [.lit (.bool false)], args := [d1, d2, d3, d4, d5] }
  | _ => none }
def CrossFindsWrongFalsely : Prop := crossFindsRow.holds Tryz.pinned (OpenSpec.ofChange crossFindsWrong)

/-- 'flowpipelaw29.StepRuns': WHATEVER THE INPUT: true; the input reads as it did. -/
def stepRunsSpec : ChangeSpec := { name := "stepRuns", fn := fun _ => fun
  | [d1, d2, d3, d4, d5] => { results := [.lit (.bool true)], args := [d1, d2, d3, d4, d5] }
  | _ => none }
def stepRunsRow : OpenClaim := { program := "ytgdahmmlddfimaagreatdoor", sum := "540f10aa8a606463fc38c906ab32fd781d3a7463a8c0dcf4d69eb098518a1b74", func := "flowpipe/flowpipelaw29.StepRuns", spec := "stepRuns", unfollowed := true, recurses := true, named := ["math/bits.deBruijn32tab", "math/bits.overflowError"], apart := false, laid := [("math/bits.deBruijn32tab", laid_math_bits_deBruijn32tab)] }
def StepRunsSaid : Prop := stepRunsRow.holds Tryz.pinned (OpenSpec.ofChange stepRunsSpec)

/-- ITS FALSE NEIGHBOUR: 'it returns false'. Refute it at one input. -/
def stepRunsWrong : ChangeSpec := { name := "stepRuns", fn := fun _ => fun
  | [d1, d2, d3, d4, d5] => { results := [.lit (.bool false)], args := [d1, d2, d3, d4, d5] }
  | _ => none }
def StepRunsWrongFalsely : Prop := stepRunsRow.holds Tryz.pinned (OpenSpec.ofChange stepRunsWrong)

/-- 'flowpipelaw30.ControlChooses': WHATEVER THE INPUT: true; the input reads as it did. -/
def controlChoosesSpec : ChangeSpec := { name := "controlChooses", fn := fun _ => fun
  | [d1, d2, d3] => { results := [.lit (.bool true)], args := [d1, d2, d3] }
  | _ => none }
def controlChoosesRow : OpenClaim := { program := "ytgdahmmlddfimaagreatdoor", sum := "540f10aa8a606463fc38c906ab32fd781d3a7463a8c0dcf4d69eb098518a1b74", func := "flowpipe/flowpipelaw30.ControlChooses", spec := "controlChooses", unfollowed := true, recurses := true, named := ["math/bits.deBruijn32tab", "math/bits.overflowError"], apart := false, laid := [("math/bits.deBruijn32tab", laid_math_bits_deBruijn32tab)] }
def ControlChoosesSaid : Prop := controlChoosesRow.holds Tryz.pinned (OpenSpec.ofChange controlChoosesSpec)

/-- ITS FALSE NEIGHBOUR: 'it returns false'. Refute it at one input. -/
def controlChoosesWrong : ChangeSpec := { name := "controlChooses", fn := fun _ => fun
  | [d1, d2, d3] => { results := [.lit (.bool false)], args := [d1, d2, d3] }
  | _ => none }
def ControlChoosesWrongFalsely : Prop := controlChoosesRow.holds Tryz.pinned (OpenSpec.ofChange controlChoosesWrong)

/- THE SECOND FORM. 'bulk': how many values and letters a reading holds, each counted each time it is reached (what is shared counts as often as it is met; a slice's spare places count too). A statement '..UptoSaid' is the law's where the arguments, and the package variables that the reading takes, are together of bulk at most 1048576: NARROWER than '..Said'. Prove '..Said' where nothing that the law and all that it calls make is longer than what came in: it says more and counts as full. Else prove '..UptoSaid'. A law counts once. -/
mutual
def uptoBulk {H : Type} : DataW H → Nat
  | .lit (.string bytes) => bytes.length + 1
  | .lit _ => 1
  | .nil => 1
  | .ptr d => uptoBulk d + 1
  | .slice elems spare => uptoBulkAll elems + uptoBulkAll spare + 1
  | .agg parts => uptoBulkAll parts + 1
  | .iface _ d => uptoBulk d + 1
  | .map entries => uptoBulkEntries entries + 1
  | .held _ => 1
def uptoBulkAll {H : Type} : List (DataW H) → Nat
  | [] => 0
  | d :: r => uptoBulk d + uptoBulkAll r
def uptoBulkEntries {H : Type} : List (Lit × DataW H) → Nat
  | [] => 0
  | x :: r => uptoBulkEntry x + uptoBulkEntries r
def uptoBulkEntry {H : Type} : Lit × DataW H → Nat
  | (.string bytes, d) => bytes.length + uptoBulk d + 1
  | (_, d) => uptoBulk d + 1
 end
def uptoSmall : (H : Type) → List (DataW H) → Bool := fun _ ds => decide (uptoBulkAll ds ≤ 1048576)
def OpenSpec.upto (s : _root_.Go.ChangeSpec) : _root_.Go.OpenSpec := { _root_.Go.OpenSpec.ofChange s with cond := some uptoSmall }

/-- 'flowpipelaw41.CrossTurned', WHERE WHAT IT READS IS OF BULK AT MOST 1048576: true; the input reads as it did. -/
def crossTurnedUptoRow : OpenClaim := { program := "ytgdahmmlddfimaagreatdoor", sum := "540f10aa8a606463fc38c906ab32fd781d3a7463a8c0dcf4d69eb098518a1b74", func := "flowpipe/flowpipelaw41.CrossTurned", spec := "crossTurned", unfollowed := true, recurses := true, named := ["math/bits.deBruijn32tab", "math/bits.overflowError"], apart := false, laid := [("math/bits.deBruijn32tab", laid_math_bits_deBruijn32tab)], narrowed := true }
def CrossTurnedUptoSaid : Prop := crossTurnedUptoRow.holds Tryz.pinned (OpenSpec.upto crossTurnedSpec)

/-- 'flowpipelaw41.CrossFinds', WHERE WHAT IT READS IS OF BULK AT MOST 1048576: true; the input reads as it did. -/
def crossFindsUptoRow : OpenClaim := { program := "ytgdahmmlddfimaagreatdoor", sum := "540f10aa8a606463fc38c906ab32fd781d3a7463a8c0dcf4d69eb098518a1b74", func := "flowpipe/flowpipelaw41.CrossFinds", spec := "crossFinds", unfollowed := true, recurses := true, named := ["math/bits.deBruijn32tab", "math/bits.overflowError"], apart := false, laid := [("math/bits.deBruijn32tab", laid_math_bits_deBruijn32tab)], narrowed := true }
def CrossFindsUptoSaid : Prop := crossFindsUptoRow.holds Tryz.pinned (OpenSpec.upto crossFindsSpec)

/-- 'flowpipelaw29.StepRuns', WHERE WHAT IT READS IS OF BULK AT MOST 1048576: true; the input reads as it did. -/
def stepRunsUptoRow : OpenClaim := { program := "ytgdahmmlddfimaagreatdoor", sum := "540f10aa8a606463fc38c906ab32fd781d3a7463a8c0dcf4d69eb098518a1b74", func := "flowpipe/flowpipelaw29.StepRuns", spec := "stepRuns", unfollowed := true, recurses := true, named := ["math/bits.deBruijn32tab", "math/bits.overflowError"], apart := false, laid := [("math/bits.deBruijn32tab", laid_math_bits_deBruijn32tab)], narrowed := true }
def StepRunsUptoSaid : Prop := stepRunsUptoRow.holds Tryz.pinned (OpenSpec.upto stepRunsSpec)

/-- 'flowpipelaw30.ControlChooses', WHERE WHAT IT READS IS OF BULK AT MOST 1048576: true; the input reads as it did. -/
def controlChoosesUptoRow : OpenClaim := { program := "ytgdahmmlddfimaagreatdoor", sum := "540f10aa8a606463fc38c906ab32fd781d3a7463a8c0dcf4d69eb098518a1b74", func := "flowpipe/flowpipelaw30.ControlChooses", spec := "controlChooses", unfollowed := true, recurses := true, named := ["math/bits.deBruijn32tab", "math/bits.overflowError"], apart := false, laid := [("math/bits.deBruijn32tab", laid_math_bits_deBruijn32tab)], narrowed := true }
def ControlChoosesUptoSaid : Prop := controlChoosesUptoRow.holds Tryz.pinned (OpenSpec.upto controlChoosesSpec)

end Rows
end Go.Proofs.YtgdahmmlddfimaaGreatDoor
