/-
  NARROWER THAN 'FOR EVERY INPUT', by the rows' own cells (each row's printed sentence says how): OrbitEigenvalues: laid · VariationVolume: laid · OrbitRests: laid · OrbitLogistic: laid.
  DERIVED. THE GIVEN ROWS OF THIS SEAT. 4 by the template 'for every input the law returns true; each argument reads behind the call as it read before'; 0 by the template 'total and deterministic' (their statements: YtjkmahljfblobaaGreatDoorTotals.lean).
  GIVEN WITH THE SEED: the statements are not yours to turn. If you find one false, say at which input.
  Laid BY PROGRAM, IN A SANDBOX (cutbox-rows.mjs): the forced cells as the released guide's own fill.sh prints them over the translation 4680efda19053d7c… (all of the seat's roots in one cut). By AI agents, Wed Nov 11 2026. No macro, syntax, notation, axiom, sorry.
-/
import Derived.Test.YtjkmahljfblobaaGreatDoorChecked
import GoSem.Claim
import GoSem.ClaimJoined
import GoSem.ClaimMapViews
import Derived.JoinedTies
import Derived.KernelRfl
namespace Go.Proofs.YtjkmahljfblobaaGreatDoor
/- THE CELL 'sum', in the pinned program and in every row, IS THE sha256 OF THE DUMP (.gsa) THAT YtjkmahljfblobaaGreatDoorProg.lean LOADS. Nothing in Lean hashes anything: it is a label: what it is worth is what the hold of that sum in a sandbox is worth. -/
noncomputable def Tryz.pinned : Pinned := { name := "ytjkmahljfblobaagreatdoor", sum := "4680efda19053d7c6923941d0332e2aa836072df1b62073a05c9b6c9177cd357", checked := Tryz.checked }
namespace Rows
def none {H : Type} : Left H := { results := [], args := [] }

/- WHAT THE LISTED PACKAGE-LEVEL VARIABLES READ AS WHEN THE CALL BEGINS. Each datum BY PROGRAM (the guide's laid-datum.mjs) off the statement by which the dump's own 'gosem.cut.vars' lays the variable. In a bare row this is a premise. The card (YtjkmahljfblobaaGreatDoorCards.lean) ties it to the program's text. -/
def laid_math_bits_deBruijn32tab {H : Type} : DataW H := .agg [.lit (.int .u8 0), .lit (.int .u8 1), .lit (.int .u8 28), .lit (.int .u8 2), .lit (.int .u8 29), .lit (.int .u8 14), .lit (.int .u8 24), .lit (.int .u8 3), .lit (.int .u8 30), .lit (.int .u8 22), .lit (.int .u8 20), .lit (.int .u8 15), .lit (.int .u8 25), .lit (.int .u8 17), .lit (.int .u8 4), .lit (.int .u8 8), .lit (.int .u8 31), .lit (.int .u8 27), .lit (.int .u8 13), .lit (.int .u8 23), .lit (.int .u8 21), .lit (.int .u8 19), .lit (.int .u8 16), .lit (.int .u8 7), .lit (.int .u8 26), .lit (.int .u8 12), .lit (.int .u8 18), .lit (.int .u8 6), .lit (.int .u8 11), .lit (.int .u8 5), .lit (.int .u8 10), .lit (.int .u8 9)]

/-- 'flowpipelaw44.OrbitEigenvalues': WHATEVER THE INPUT: true; the input reads as it did. -/
def orbitEigenvaluesSpec : ChangeSpec := { name := "orbitEigenvalues", fn := fun _ => fun
  | [d1, d2, d3, d4, d5] => { results := [.lit (.bool true)], args := [d1, d2, d3, d4, d5] }
  | _ => none }
def orbitEigenvaluesRow : OpenClaim := { program := "ytjkmahljfblobaagreatdoor", sum := "4680efda19053d7c6923941d0332e2aa836072df1b62073a05c9b6c9177cd357", func := "flowpipe/flowpipelaw44.OrbitEigenvalues", spec := "orbitEigenvalues", unfollowed := true, recurses := true, named := ["math/bits.deBruijn32tab", "math/bits.overflowError"], apart := false, laid := [("math/bits.deBruijn32tab", laid_math_bits_deBruijn32tab)] }
def OrbitEigenvaluesSaid : Prop := orbitEigenvaluesRow.holds Tryz.pinned (OpenSpec.ofChange orbitEigenvaluesSpec)

/-- ITS FALSE NEIGHBOUR: 'it returns false'. Refute it at one input. -/
def orbitEigenvaluesWrong : ChangeSpec := { name := "orbitEigenvalues", fn := fun _ => fun
  | [d1, d2, d3, d4, d5] => { results := [.lit (.bool false)], args := [d1, d2, d3, d4, d5] }
  | _ => none }
def OrbitEigenvaluesWrongFalsely : Prop := orbitEigenvaluesRow.holds Tryz.pinned (OpenSpec.ofChange orbitEigenvaluesWrong)

/-- 'flowpipelaw32.VariationVolume': WHATEVER THE INPUT: true; the input reads as it did. -/
def variationVolumeSpec : ChangeSpec := { name := "variationVolume", fn := fun _ => fun
  | [d1, d2, d3, d4] => { results := [.lit (.bool true)], args := [d1, d2, d3, d4] }
  | _ => none }
def variationVolumeRow : OpenClaim := { program := "ytjkmahljfblobaagreatdoor", sum := "4680efda19053d7c6923941d0332e2aa836072df1b62073a05c9b6c9177cd357", func := "flowpipe/flowpipelaw32.VariationVolume", spec := "variationVolume", unfollowed := true, recurses := true, named := ["math/bits.deBruijn32tab", "math/bits.overflowError"], apart := false, laid := [("math/bits.deBruijn32tab", laid_math_bits_deBruijn32tab)] }
def VariationVolumeSaid : Prop := variationVolumeRow.holds Tryz.pinned (OpenSpec.ofChange variationVolumeSpec)

/-- ITS FALSE NEIGHBOUR: 'it returns false'. Refute it at one input. -/
def variationVolumeWrong : ChangeSpec := { name := "variationVolume", fn := fun _ => fun
  | [d1, d2, d3, d4] => { results := [.lit (.bool false)], args := [d1, d2, d3, d4] }
  | _ => none }
def VariationVolumeWrongFalsely : Prop := variationVolumeRow.holds Tryz.pinned (OpenSpec.ofChange variationVolumeWrong)

/-- 'flowpipelaw44.OrbitRests': WHATEVER THE INPUT: true; the input reads as it did. -/
def orbitRestsSpec : ChangeSpec := { name := "orbitRests", fn := fun _ => fun
  | [d1, d2, d3, d4] => { results := [.lit (.bool true)], args := [d1, d2, d3, d4] }
  | _ => none }
def orbitRestsRow : OpenClaim := { program := "ytjkmahljfblobaagreatdoor", sum := "4680efda19053d7c6923941d0332e2aa836072df1b62073a05c9b6c9177cd357", func := "flowpipe/flowpipelaw44.OrbitRests", spec := "orbitRests", unfollowed := true, recurses := true, named := ["math/bits.deBruijn32tab", "math/bits.overflowError"], apart := false, laid := [("math/bits.deBruijn32tab", laid_math_bits_deBruijn32tab)] }
def OrbitRestsSaid : Prop := orbitRestsRow.holds Tryz.pinned (OpenSpec.ofChange orbitRestsSpec)

/-- ITS FALSE NEIGHBOUR: 'it returns false'. Refute it at one input. -/
def orbitRestsWrong : ChangeSpec := { name := "orbitRests", fn := fun _ => fun
  | [d1, d2, d3, d4] => { results := [.lit (.bool false)], args := [d1, d2, d3, d4] }
  | _ => none }
def OrbitRestsWrongFalsely : Prop := orbitRestsRow.holds Tryz.pinned (OpenSpec.ofChange orbitRestsWrong)

/-- 'flowpipelaw44.OrbitLogistic': WHATEVER THE INPUT: true; the input reads as it did. -/
def orbitLogisticSpec : ChangeSpec := { name := "orbitLogistic", fn := fun _ => fun
  | [d1, d2, d3] => { results := [.lit (.bool true)], args := [d1, d2, d3] }
  | _ => none }
def orbitLogisticRow : OpenClaim := { program := "ytjkmahljfblobaagreatdoor", sum := "4680efda19053d7c6923941d0332e2aa836072df1b62073a05c9b6c9177cd357", func := "flowpipe/flowpipelaw44.OrbitLogistic", spec := "orbitLogistic", unfollowed := true, recurses := true, named := ["math/bits.deBruijn32tab", "math/bits.overflowError"], apart := false, laid := [("math/bits.deBruijn32tab", laid_math_bits_deBruijn32tab)] }
def OrbitLogisticSaid : Prop := orbitLogisticRow.holds Tryz.pinned (OpenSpec.ofChange orbitLogisticSpec)

/-- ITS FALSE NEIGHBOUR: 'it returns false'. Refute it at one input. -/
def orbitLogisticWrong : ChangeSpec := { name := "orbitLogistic", fn := fun _ => fun
  | [d1, d2, d3] => { results := [.lit (.bool false)], args := [d1, d2, d3] }
  | _ => none }
def OrbitLogisticWrongFalsely : Prop := orbitLogisticRow.holds Tryz.pinned (OpenSpec.ofChange orbitLogisticWrong)

/- THE SECOND FORM. 'bulk': how many values and letters a reading holds, each counted each time it is reached (what is shared counts as often as it is met; a slice's spare places count too). A statement '..UptoSaid' is the law's where the arguments, and the package variables that the reading takes, are together of bulk at most 1048576: NARROWER than '..Said'. Prove '..Said' where nothing that the law and all that it calls make is longer than what came in: it says more and counts as full. Else prove '..UptoSaid'. A law counts once. -/
mutual
def uptoBulk {H : Type} : DataW H → Nat
  | .lit (.string bytes) => bytes.length + 1
  | .lit _ => 1
  | .nil => 1
  | .ptr d => uptoBulk d + 1
  | .slice elems spare => uptoBulkAll elems + uptoBulkAll spare + 1
  | .agg parts => uptoBulkAll parts + 1
  | .iface _ d => uptoBulk d + 1
  | .map entries => uptoBulkEntries entries + 1
  | .held _ => 1
def uptoBulkAll {H : Type} : List (DataW H) → Nat
  | [] => 0
  | d :: r => uptoBulk d + uptoBulkAll r
def uptoBulkEntries {H : Type} : List (Lit × DataW H) → Nat
  | [] => 0
  | x :: r => uptoBulkEntry x + uptoBulkEntries r
def uptoBulkEntry {H : Type} : Lit × DataW H → Nat
  | (.string bytes, d) => bytes.length + uptoBulk d + 1
  | (_, d) => uptoBulk d + 1
 end
def uptoSmall : (H : Type) → List (DataW H) → Bool := fun _ ds => decide (uptoBulkAll ds ≤ 1048576)
def OpenSpec.upto (s : _root_.Go.ChangeSpec) : _root_.Go.OpenSpec := { _root_.Go.OpenSpec.ofChange s with cond := some uptoSmall }

/-- 'flowpipelaw44.OrbitEigenvalues', WHERE WHAT IT READS IS OF BULK AT MOST 1048576: true; the input reads as it did. -/
def orbitEigenvaluesUptoRow : OpenClaim := { program := "ytjkmahljfblobaagreatdoor", sum := "4680efda19053d7c6923941d0332e2aa836072df1b62073a05c9b6c9177cd357", func := "flowpipe/flowpipelaw44.OrbitEigenvalues", spec := "orbitEigenvalues", unfollowed := true, recurses := true, named := ["math/bits.deBruijn32tab", "math/bits.overflowError"], apart := false, laid := [("math/bits.deBruijn32tab", laid_math_bits_deBruijn32tab)], narrowed := true }
def OrbitEigenvaluesUptoSaid : Prop := orbitEigenvaluesUptoRow.holds Tryz.pinned (OpenSpec.upto orbitEigenvaluesSpec)

/-- 'flowpipelaw32.VariationVolume', WHERE WHAT IT READS IS OF BULK AT MOST 1048576: true; the input reads as it did. -/
def variationVolumeUptoRow : OpenClaim := { program := "ytjkmahljfblobaagreatdoor", sum := "4680efda19053d7c6923941d0332e2aa836072df1b62073a05c9b6c9177cd357", func := "flowpipe/flowpipelaw32.VariationVolume", spec := "variationVolume", unfollowed := true, recurses := true, named := ["math/bits.deBruijn32tab", "math/bits.overflowError"], apart := false, laid := [("math/bits.deBruijn32tab", laid_math_bits_deBruijn32tab)], narrowed := true }
def VariationVolumeUptoSaid : Prop := variationVolumeUptoRow.holds Tryz.pinned (OpenSpec.upto variationVolumeSpec)

/-- 'flowpipelaw44.OrbitRests', WHERE WHAT IT READS IS OF BULK AT MOST 1048576: true; the input reads as it did. -/
def orbitRestsUptoRow : OpenClaim := { program := "ytjkmahljfblobaagreatdoor", sum := "4680efda19053d7c6923941d0332e2aa836072df1b62073a05c9b6c9177cd357", func := "flowpipe/flowpipelaw44.OrbitRests", spec := "orbitRests", unfollowed := true, recurses := true, named := ["math/bits.deBruijn32tab", "math/bits.overflowError"], apart := false, laid := [("math/bits.deBruijn32tab", laid_math_bits_deBruijn32tab)], narrowed := true }
def OrbitRestsUptoSaid : Prop := orbitRestsUptoRow.holds Tryz.pinned (OpenSpec.upto orbitRestsSpec)

/-- 'flowpipelaw44.OrbitLogistic', WHERE WHAT IT READS IS OF BULK AT MOST 1048576: true; the input reads as it did. -/
def orbitLogisticUptoRow : OpenClaim := { program := "ytjkmahljfblobaagreatdoor", sum := "4680efda19053d7c6923941d0332e2aa836072df1b62073a05c9b6c9177cd357", func := "flowpipe/flowpipelaw44.OrbitLogistic", spec := "orbitLogistic", unfollowed := true, recurses := true, named := ["math/bits.deBruijn32tab", "math/bits.overflowError"], apart := false, laid := [("math/bits.deBruijn32tab", laid_math_bits_deBruijn32tab)], narrowed := true }
def OrbitLogisticUptoSaid : Prop := orbitLogisticUptoRow.holds Tryz.pinned (OpenSpec.upto orbitLogisticSpec)

end Rows
end Go.Proofs.YtjkmahljfblobaaGreatDoor
