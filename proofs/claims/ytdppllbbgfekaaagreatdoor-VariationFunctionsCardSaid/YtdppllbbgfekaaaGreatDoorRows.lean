/-
  NARROWER THAN 'FOR EVERY INPUT', by the rows' own cells (each row's printed sentence says how): VariationNilpotent: laid · VariationExp: laid · VariationFunctions: laid · VariationSmaller: laid · VariationChain: laid · VariationGroup: laid.
  DERIVED. THE GIVEN ROWS OF THIS SEAT. 6 by the template 'for every input the law returns true; each argument reads behind the call as it read before'; 0 by the template 'total and deterministic' (their statements: YtdppllbbgfekaaaGreatDoorTotals.lean).
  GIVEN WITH THE SEED: the statements are not yours to turn. If you find one false, say at which input.
  Laid BY PROGRAM, IN A SANDBOX (cutbox-rows.mjs): the forced cells as the released guide's own fill.sh prints them over the translation 9a59dde3211e56f3… (all of the seat's roots in one cut). By AI agents, Wed Nov 11 2026. No macro, syntax, notation, axiom, sorry.
-/
import Derived.Test.YtdppllbbgfekaaaGreatDoorChecked
import GoSem.Claim
import GoSem.ClaimJoined
import GoSem.ClaimMapViews
import Derived.JoinedTies
import Derived.KernelRfl
namespace Go.Proofs.YtdppllbbgfekaaaGreatDoor
/- THE CELL 'sum', in the pinned program and in every row, IS THE sha256 OF THE DUMP (.gsa) THAT YtdppllbbgfekaaaGreatDoorProg.lean LOADS. Nothing in Lean hashes anything: it is a label: what it is worth is what the hold of that sum in a sandbox is worth. -/
noncomputable def Tryz.pinned : Pinned := { name := "ytdppllbbgfekaaagreatdoor", sum := "9a59dde3211e56f35672a6d6e967a89be4632df30fb2afd3c25297e339cf47ae", checked := Tryz.checked }
namespace Rows
def none {H : Type} : Left H := { results := [], args := [] }

/- WHAT THE LISTED PACKAGE-LEVEL VARIABLES READ AS WHEN THE CALL BEGINS. Each datum BY PROGRAM (the guide's laid-datum.mjs) off the statement by which the dump's own 'gosem.cut.vars' lays the variable. In a bare row this is a premise. The card (YtdppllbbgfekaaaGreatDoorCards.lean) ties it to the program's text. -/
def laid_math_bits_deBruijn32tab {H : Type} : DataW H := .agg [.lit (.int .u8 0), .lit (.int .u8 1), .lit (.int .u8 28), .lit (.int .u8 2), .lit (.int .u8 29), .lit (.int .u8 14), .lit (.int .u8 24), .lit (.int .u8 3), .lit (.int .u8 30), .lit (.int .u8 22), .lit (.int .u8 20), .lit (.int .u8 15), .lit (.int .u8 25), .lit (.int .u8 17), .lit (.int .u8 4), .lit (.int .u8 8), .lit (.int .u8 31), .lit (.int .u8 27), .lit (.int .u8 13), .lit (.int .u8 23), .lit (.int .u8 21), .lit (.int .u8 19), .lit (.int .u8 16), .lit (.int .u8 7), .lit (.int .u8 26), .lit (.int .u8 12), .lit (.int .u8 18), .lit (.int .u8 6), .lit (.int .u8 11), .lit (.int .u8 5), .lit (.int .u8 10), .lit (.int .u8 9)]

/-- 'flowpipelaw32.VariationNilpotent': WHATEVER THE INPUT: true; the input reads as it did. -/
def variationNilpotentSpec : ChangeSpec := { name := "variationNilpotent", fn := fun _ => fun
  | [d1, d2, d3, d4, d5, d6] => { results := [.lit (.bool true)], args := [d1, d2, d3, d4, d5, d6] }
  | _ => none }
def variationNilpotentRow : OpenClaim := { program := "ytdppllbbgfekaaagreatdoor", sum := "9a59dde3211e56f35672a6d6e967a89be4632df30fb2afd3c25297e339cf47ae", func := "flowpipe/flowpipelaw32.VariationNilpotent", spec := "variationNilpotent", unfollowed := true, recurses := true, named := ["math/bits.deBruijn32tab", "math/bits.overflowError"], apart := false, laid := [("math/bits.deBruijn32tab", laid_math_bits_deBruijn32tab)] }
def VariationNilpotentSaid : Prop := variationNilpotentRow.holds Tryz.pinned (OpenSpec.ofChange variationNilpotentSpec)

/-- ITS FALSE NEIGHBOUR: 'it returns false'. Refute it at one input. -/
def variationNilpotentWrong : ChangeSpec := { name := "variationNilpotent", fn := fun _ => fun
  | [d1, d2, d3, d4, d5, d6] => { results := [.lit (.bool false)], args := [d1, d2, d3, d4, d5, d6] }
  | _ => none }
def VariationNilpotentWrongFalsely : Prop := variationNilpotentRow.holds Tryz.pinned (OpenSpec.ofChange variationNilpotentWrong)

/-- 'flowpipelaw32.VariationExp': WHATEVER THE INPUT: true; the input reads as it did. -/
def variationExpSpec : ChangeSpec := { name := "variationExp", fn := fun _ => fun
  | [d1, d2, d3, d4] => { results := [.lit (.bool true)], args := [d1, d2, d3, d4] }
  | _ => none }
def variationExpRow : OpenClaim := { program := "ytdppllbbgfekaaagreatdoor", sum := "9a59dde3211e56f35672a6d6e967a89be4632df30fb2afd3c25297e339cf47ae", func := "flowpipe/flowpipelaw32.VariationExp", spec := "variationExp", unfollowed := true, recurses := true, named := ["math/bits.deBruijn32tab", "math/bits.overflowError"], apart := false, laid := [("math/bits.deBruijn32tab", laid_math_bits_deBruijn32tab)] }
def VariationExpSaid : Prop := variationExpRow.holds Tryz.pinned (OpenSpec.ofChange variationExpSpec)

/-- ITS FALSE NEIGHBOUR: 'it returns false'. Refute it at one input. -/
def variationExpWrong : ChangeSpec := { name := "variationExp", fn := fun _ => fun
  | [d1, d2, d3, d4] => { results := [.lit (.bool false)], args := [d1, d2, d3, d4] }
  | _ => none }
def VariationExpWrongFalsely : Prop := variationExpRow.holds Tryz.pinned (OpenSpec.ofChange variationExpWrong)

/-- 'flowpipelaw32.VariationFunctions': WHATEVER THE INPUT: true; the input reads as it did. -/
def variationFunctionsSpec : ChangeSpec := { name := "variationFunctions", fn := fun _ => fun
  | [d1, d2, d3, d4] => { results := [.lit (.bool true)], args := [d1, d2, d3, d4] }
  | _ => none }
def variationFunctionsRow : OpenClaim := { program := "ytdppllbbgfekaaagreatdoor", sum := "9a59dde3211e56f35672a6d6e967a89be4632df30fb2afd3c25297e339cf47ae", func := "flowpipe/flowpipelaw32.VariationFunctions", spec := "variationFunctions", unfollowed := true, recurses := true, named := ["math/bits.deBruijn32tab", "math/bits.overflowError"], apart := false, laid := [("math/bits.deBruijn32tab", laid_math_bits_deBruijn32tab)] }
def VariationFunctionsSaid : Prop := variationFunctionsRow.holds Tryz.pinned (OpenSpec.ofChange variationFunctionsSpec)

/-- ITS FALSE NEIGHBOUR: 'it returns false'. Refute it at one input. -/
def variationFunctionsWrong : ChangeSpec := { name := "variationFunctions", fn := fun _ => fun
  | [d1, d2, d3, d4] => { results := [.lit (.bool false)], args := [d1, d2, d3, d4] }
  | _ => none }
def VariationFunctionsWrongFalsely : Prop := variationFunctionsRow.holds Tryz.pinned (OpenSpec.ofChange variationFunctionsWrong)

/-- 'flowpipelaw32.VariationSmaller': WHATEVER THE INPUT: true; the input reads as it did. -/
def variationSmallerSpec : ChangeSpec := { name := "variationSmaller", fn := fun _ => fun
  | [d1, d2, d3, d4, d5] => { results := [.lit (.bool true)], args := [d1, d2, d3, d4, d5] }
  | _ => none }
def variationSmallerRow : OpenClaim := { program := "ytdppllbbgfekaaagreatdoor", sum := "9a59dde3211e56f35672a6d6e967a89be4632df30fb2afd3c25297e339cf47ae", func := "flowpipe/flowpipelaw32.VariationSmaller", spec := "variationSmaller", unfollowed := true, recurses := true, named := ["math/bits.deBruijn32tab", "math/bits.overflowError"], apart := false, laid := [("math/bits.deBruijn32tab", laid_math_bits_deBruijn32tab)] }
def VariationSmallerSaid : Prop := variationSmallerRow.holds Tryz.pinned (OpenSpec.ofChange variationSmallerSpec)

/-- ITS FALSE NEIGHBOUR: 'it returns false'. Refute it at one input. -/
def variationSmallerWrong : ChangeSpec := { name := "variationSmaller", fn := fun _ => fun
  | [d1, d2, d3, d4, d5] => { results := [.lit (.bool false)], args := [d1, d2, d3, d4, d5] }
  | _ => none }
def VariationSmallerWrongFalsely : Prop := variationSmallerRow.holds Tryz.pinned (OpenSpec.ofChange variationSmallerWrong)

/-- 'flowpipelaw32.VariationChain': WHATEVER THE INPUT: true; the input reads as it did. -/
def variationChainSpec : ChangeSpec := { name := "variationChain", fn := fun _ => fun
  | [d1, d2] => { results := [.lit (.bool true)], args := [d1, d2] }
  | _ => none }
def variationChainRow : OpenClaim := { program := "ytdppllbbgfekaaagreatdoor", sum := "9a59dde3211e56f35672a6d6e967a89be4632df30fb2afd3c25297e339cf47ae", func := "flowpipe/flowpipelaw32.VariationChain", spec := "variationChain", unfollowed := true, recurses := true, named := ["math/bits.deBruijn32tab", "math/bits.overflowError"], apart := false, laid := [("math/bits.deBruijn32tab", laid_math_bits_deBruijn32tab)] }
def VariationChainSaid : Prop := variationChainRow.holds Tryz.pinned (OpenSpec.ofChange variationChainSpec)

/-- ITS FALSE NEIGHBOUR: 'it returns false'. Refute it at one input. -/
def variationChainWrong : ChangeSpec := { name := "variationChain", fn := fun _ => fun
  | [d1, d2] => { results := [.lit (.bool false)], args := [d1, d2] }
  | _ => none }
def VariationChainWrongFalsely : Prop := variationChainRow.holds Tryz.pinned (OpenSpec.ofChange variationChainWrong)

/-- 'flowpipelaw32.VariationGroup': WHATEVER THE INPUT: true; the input reads as it did. -/
def variationGroupSpec : ChangeSpec := { name := "variationGroup", fn := fun _ => fun
  | [d1, d2, d3, d4, d5] => { results := [.lit (.bool true)], args := [d1, d2, d3, d4, d5] }
  | _ => none }
def variationGroupRow : OpenClaim := { program := "ytdppllbbgfekaaagreatdoor", sum := "9a59dde3211e56f35672a6d6e967a89be4632df30fb2afd3c25297e339cf47ae", func := "flowpipe/flowpipelaw32.VariationGroup", spec := "variationGroup", unfollowed := true, recurses := true, named := ["math/bits.deBruijn32tab", "math/bits.overflowError"], apart := false, laid := [("math/bits.deBruijn32tab", laid_math_bits_deBruijn32tab)] }
def VariationGroupSaid : Prop := variationGroupRow.holds Tryz.pinned (OpenSpec.ofChange variationGroupSpec)

/-- ITS FALSE NEIGHBOUR: 'it returns false'. Refute it at one input. -/
def variationGroupWrong : ChangeSpec := { name := "variationGroup", fn := fun _ => fun
  | [d1, d2, d3, d4, d5] => { results := [.lit (.bool false)], args := [d1, d2, d3, d4, d5] }
  | _ => none }
def VariationGroupWrongFalsely : Prop := variationGroupRow.holds Tryz.pinned (OpenSpec.ofChange variationGroupWrong)

/- THE SECOND FORM. 'bulk': how many values and letters a reading holds, each counted each time it is reached (what is shared counts as often as it is met; a slice's spare places count too). A statement '..UptoSaid' is the law's where the arguments, and the package variables that the reading takes, are together of bulk at most 1048576: NARROWER than '..Said'. Prove '..Said' where nothing that the law and all that it calls make is longer than what came in: it says more and counts as full. Else prove '..UptoSaid'. A law counts once. -/
mutual
def uptoBulk {H : Type} : DataW H → Nat
  | .lit (.string bytes) => bytes.length + 1
  | .lit _ => 1
  | .nil => 1
  | .ptr d => uptoBulk d + 1
  | .slice elems spare => uptoBulkAll elems + uptoBulkAll spare + 1
  | .agg parts => uptoBulkAll parts + 1
  | .iface _ d => uptoBulk d + 1
  | .map entries => uptoBulkEntries entries + 1
  | .held _ => 1
def uptoBulkAll {H : Type} : List (DataW H) → Nat
  | [] => 0
  | d :: r => uptoBulk d + uptoBulkAll r
def uptoBulkEntries {H : Type} : List (Lit × DataW H) → Nat
  | [] => 0
  | x :: r => uptoBulkEntry x + uptoBulkEntries r
def uptoBulkEntry {H : Type} : Lit × DataW H → Nat
  | (.string bytes, d) => bytes.length + uptoBulk d + 1
  | (_, d) => uptoBulk d + 1
 end
def uptoSmall : (H : Type) → List (DataW H) → Bool := fun _ ds => decide (uptoBulkAll ds ≤ 1048576)
def OpenSpec.upto (s : _root_.Go.ChangeSpec) : _root_.Go.OpenSpec := { _root_.Go.OpenSpec.ofChange s with cond := some uptoSmall }

/-- 'flowpipelaw32.VariationNilpotent', WHERE WHAT IT READS IS OF BULK AT MOST 1048576: true; the input reads as it did. -/
def variationNilpotentUptoRow : OpenClaim := { program := "ytdppllbbgfekaaagreatdoor", sum := "9a59dde3211e56f35672a6d6e967a89be4632df30fb2afd3c25297e339cf47ae", func := "flowpipe/flowpipelaw32.VariationNilpotent", spec := "variationNilpotent", unfollowed := true, recurses := true, named := ["math/bits.deBruijn32tab", "math/bits.overflowError"], apart := false, laid := [("math/bits.deBruijn32tab", laid_math_bits_deBruijn32tab)], narrowed := true }
def VariationNilpotentUptoSaid : Prop := variationNilpotentUptoRow.holds Tryz.pinned (OpenSpec.upto variationNilpotentSpec)

/-- 'flowpipelaw32.VariationExp', WHERE WHAT IT READS IS OF BULK AT MOST 1048576: true; the input reads as it did. -/
def variationExpUptoRow : OpenClaim := { program := "ytdppllbbgfekaaagreatdoor", sum := "9a59dde3211e56f35672a6d6e967a89be4632df30fb2afd3c25297e339cf47ae", func := "flowpipe/flowpipelaw32.VariationExp", spec := "variationExp", unfollowed := true, recurses := true, named := ["math/bits.deBruijn32tab", "math/bits.overflowError"], apart := false, laid := [("math/bits.deBruijn32tab", laid_math_bits_deBruijn32tab)], narrowed := true }
def VariationExpUptoSaid : Prop := variationExpUptoRow.holds Tryz.pinned (OpenSpec.upto variationExpSpec)

/-- 'flowpipelaw32.VariationFunctions', WHERE WHAT IT READS IS OF BULK AT MOST 1048576: true; the input reads as it did. -/
def variationFunctionsUptoRow : OpenClaim := { program := "ytdppllbbgfekaaagreatdoor", sum := "9a59dde3211e56f35672a6d6e967a89be4632df30fb2afd3c25297e339cf47ae", func := "flowpipe/flowpipelaw32.VariationFunctions", spec := "variationFunctions", unfollowed := true, recurses := true, named := ["math/bits.deBruijn32tab", "math/bits.overflowError"], apart := false, laid := [("math/bits.deBruijn32tab", laid_math_bits_deBruijn32tab)], narrowed := true }
def VariationFunctionsUptoSaid : Prop := variationFunctionsUptoRow.holds Tryz.pinned (OpenSpec.upto variationFunctionsSpec)

/-- 'flowpipelaw32.VariationSmaller', WHERE WHAT IT READS IS OF BULK AT MOST 1048576: true; the input reads as it did. -/
def variationSmallerUptoRow : OpenClaim := { program := "ytdppllbbgfekaaagreatdoor", sum := "9a59dde3211e56f35672a6d6e967a89be4632df30fb2afd3c25297e339cf47ae", func := "flowpipe/flowpipelaw32.VariationSmaller", spec := "variationSmaller", unfollowed := true, recurses := true, named := ["math/bits.deBruijn32tab", "math/bits.overflowError"], apart := false, laid := [("math/bits.deBruijn32tab", laid_math_bits_deBruijn32tab)], narrowed := true }
def VariationSmallerUptoSaid : Prop := variationSmallerUptoRow.holds Tryz.pinned (OpenSpec.upto variationSmallerSpec)

/-- 'flowpipelaw32.VariationChain', WHERE WHAT IT READS IS OF BULK AT MOST 1048576: true; the input reads as it did. -/
def variationChainUptoRow : OpenClaim := { program := "ytdppllbbgfekaaagreatdoor", sum := "9a59dde3211e56f35672a6d6e967a89be4632df30fb2afd3c25297e339cf47ae", func := "flowpipe/flowpipelaw32.VariationChain", spec := "variationChain", unfollowed := true, recurses := true, named := ["math/bits.deBruijn32tab", "math/bits.overflowError"], apart := false, laid := [("math/bits.deBruijn32tab", laid_math_bits_deBruijn32tab)], narrowed := true }
def VariationChainUptoSaid : Prop := variationChainUptoRow.holds Tryz.pinned (OpenSpec.upto variationChainSpec)

/-- 'flowpipelaw32.VariationGroup', WHERE WHAT IT READS IS OF BULK AT MOST 1048576: true; the input reads as it did. -/
def variationGroupUptoRow : OpenClaim := { program := "ytdppllbbgfekaaagreatdoor", sum := "9a59dde3211e56f35672a6d6e967a89be4632df30fb2afd3c25297e339cf47ae", func := "flowpipe/flowpipelaw32.VariationGroup", spec := "variationGroup", unfollowed := true, recurses := true, named := ["math/bits.deBruijn32tab", "math/bits.overflowError"], apart := false, laid := [("math/bits.deBruijn32tab", laid_math_bits_deBruijn32tab)], narrowed := true }
def VariationGroupUptoSaid : Prop := variationGroupUptoRow.holds Tryz.pinned (OpenSpec.upto variationGroupSpec)

end Rows
end Go.Proofs.YtdppllbbgfekaaaGreatDoor
