/-
  NARROWER THAN 'FOR EVERY INPUT', by the rows' own cells (each row's printed sentence says how): ControlConfigs: laid · ControlNice: laid · ControlSums: laid.
  DERIVED. THE GIVEN ROWS OF THIS SEAT. 3 by the template 'for every input the law returns true; each argument reads behind the call as it read before'; 0 by the template 'total and deterministic' (their statements: YtofdlkgpgcnjhaaDoorTotals.lean).
  GIVEN WITH THE SEED: the statements are not yours to turn. If you find one false, say at which input.
  Laid BY PROGRAM, IN A SANDBOX (cutbox-rows.mjs): the forced cells as the released guide's own fill.sh prints them over the translation b9238c79f280305a… (all of the seat's roots in one cut). By AI agents, Wed Nov 11 2026. No macro, syntax, notation, axiom, sorry.
-/
import Derived.Test.YtofdlkgpgcnjhaaDoorChecked
import GoSem.Claim
import GoSem.ClaimJoined
import GoSem.ClaimMapViews
import Derived.JoinedTies
import Derived.KernelRfl
namespace Go.Proofs.YtofdlkgpgcnjhaaDoor
/- THE CELL 'sum', in the pinned program and in every row, IS THE sha256 OF THE DUMP (.gsa) THAT YtofdlkgpgcnjhaaDoorProg.lean LOADS. Nothing in Lean hashes anything: it is a label: what it is worth is what the hold of that sum in a sandbox is worth. -/
noncomputable def Tryd.pinned : Pinned := { name := "ytofdlkgpgcnjhaadoor", sum := "b9238c79f280305aeb99c4957c9ca82ea8f66ea623eb1bb36b3d9901f0d3699f", checked := Tryd.checked }
namespace Rows
def none {H : Type} : Left H := { results := [], args := [] }

/- WHAT THE LISTED PACKAGE-LEVEL VARIABLES READ AS WHEN THE CALL BEGINS. Each datum BY PROGRAM (the guide's laid-datum.mjs) off the statement by which the dump's own 'gosem.cut.vars' lays the variable. In a bare row this is a premise. The card (YtofdlkgpgcnjhaaDoorCards.lean) ties it to the program's text. -/
def laid_math_bits_deBruijn32tab {H : Type} : DataW H := .agg [.lit (.int .u8 0), .lit (.int .u8 1), .lit (.int .u8 28), .lit (.int .u8 2), .lit (.int .u8 29), .lit (.int .u8 14), .lit (.int .u8 24), .lit (.int .u8 3), .lit (.int .u8 30), .lit (.int .u8 22), .lit (.int .u8 20), .lit (.int .u8 15), .lit (.int .u8 25), .lit (.int .u8 17), .lit (.int .u8 4), .lit (.int .u8 8), .lit (.int .u8 31), .lit (.int .u8 27), .lit (.int .u8 13), .lit (.int .u8 23), .lit (.int .u8 21), .lit (.int .u8 19), .lit (.int .u8 16), .lit (.int .u8 7), .lit (.int .u8 26), .lit (.int .u8 12), .lit (.int .u8 18), .lit (.int .u8 6), .lit (.int .u8 11), .lit (.int .u8 5), .lit (.int .u8 10), .lit (.int .u8 9)]

/-- 'flowpipelaw30.ControlConfigs': WHATEVER THE INPUT: true; the input reads as it did. -/
def controlConfigsSpec : ChangeSpec := { name := "controlConfigs", fn := fun _ => fun
  | [d] => { results := [.lit (.bool true)], args := [d] }
  | _ => none }
def controlConfigsRow : OpenClaim := { program := "ytofdlkgpgcnjhaadoor", sum := "b9238c79f280305aeb99c4957c9ca82ea8f66ea623eb1bb36b3d9901f0d3699f", func := "flowpipe/flowpipelaw30.ControlConfigs", spec := "controlConfigs", unfollowed := true, recurses := true, named := ["math/bits.deBruijn32tab"], apart := false, laid := [("math/bits.deBruijn32tab", laid_math_bits_deBruijn32tab)] }
def ControlConfigsSaid : Prop := controlConfigsRow.holds Tryd.pinned (OpenSpec.ofChange controlConfigsSpec)

/-- ITS FALSE NEIGHBOUR: 'it returns false'. Refute it at one input. -/
def controlConfigsWrong : ChangeSpec := { name := "controlConfigs", fn := fun _ => fun
  | [d] => { results := [.lit (.bool false)], args := [d] }
  | _ => none }
def ControlConfigsWrongFalsely : Prop := controlConfigsRow.holds Tryd.pinned (OpenSpec.ofChange controlConfigsWrong)

/-- 'flowpipelaw30.ControlNice': WHATEVER THE INPUT: true; the input reads as it did. -/
def controlNiceSpec : ChangeSpec := { name := "controlNice", fn := fun _ => fun
  | [d] => { results := [.lit (.bool true)], args := [d] }
  | _ => none }
def controlNiceRow : OpenClaim := { program := "ytofdlkgpgcnjhaadoor", sum := "b9238c79f280305aeb99c4957c9ca82ea8f66ea623eb1bb36b3d9901f0d3699f", func := "flowpipe/flowpipelaw30.ControlNice", spec := "controlNice", unfollowed := true, recurses := true, named := ["math/bits.deBruijn32tab"], apart := false, laid := [("math/bits.deBruijn32tab", laid_math_bits_deBruijn32tab)] }
def ControlNiceSaid : Prop := controlNiceRow.holds Tryd.pinned (OpenSpec.ofChange controlNiceSpec)

/-- ITS FALSE NEIGHBOUR: 'it returns false'. Refute it at one input. -/
def controlNiceWrong : ChangeSpec := { name := "controlNice", fn := fun _ => fun
  | [d] => { results := [.lit (.bool false)], args := [d] }
  | _ => none }
def ControlNiceWrongFalsely : Prop := controlNiceRow.holds Tryd.pinned (OpenSpec.ofChange controlNiceWrong)

/-- 'flowpipelaw30.ControlSums': WHATEVER THE INPUT: true; the input reads as it did. -/
def controlSumsSpec : ChangeSpec := { name := "controlSums", fn := fun _ => fun
  | [d1, d2] => { results := [.lit (.bool true)], args := [d1, d2] }
  | _ => none }
def controlSumsRow : OpenClaim := { program := "ytofdlkgpgcnjhaadoor", sum := "b9238c79f280305aeb99c4957c9ca82ea8f66ea623eb1bb36b3d9901f0d3699f", func := "flowpipe/flowpipelaw30.ControlSums", spec := "controlSums", unfollowed := true, recurses := true, named := ["math/bits.deBruijn32tab"], apart := false, laid := [("math/bits.deBruijn32tab", laid_math_bits_deBruijn32tab)] }
def ControlSumsSaid : Prop := controlSumsRow.holds Tryd.pinned (OpenSpec.ofChange controlSumsSpec)

/-- ITS FALSE NEIGHBOUR: 'it returns false'. Refute it at one input. -/
def controlSumsWrong : ChangeSpec := { name := "controlSums", fn := fun _ => fun
  | [d1, d2] => { results := [.lit (.bool false)], args := [d1, d2] }
  | _ => none }
def ControlSumsWrongFalsely : Prop := controlSumsRow.holds Tryd.pinned (OpenSpec.ofChange controlSumsWrong)

/- THE SECOND FORM. 'bulk': how many values and letters a reading holds, each counted each time it is reached (what is shared counts as often as it is met; a slice's spare places count too). A statement '..UptoSaid' is the law's where the arguments, and the package variables that the reading takes, are together of bulk at most 1048576: NARROWER than '..Said'. Prove '..Said' where nothing that the law and all that it calls make is longer than what came in: it says more and counts as full. Else prove '..UptoSaid'. A law counts once. -/
mutual
def uptoBulk {H : Type} : DataW H → Nat
  | .lit (.string bytes) => bytes.length + 1
  | .lit _ => 1
  | .nil => 1
  | .ptr d => uptoBulk d + 1
  | .slice elems spare => uptoBulkAll elems + uptoBulkAll spare + 1
  | .agg parts => uptoBulkAll parts + 1
  | .iface _ d => uptoBulk d + 1
  | .map entries => uptoBulkEntries entries + 1
  | .held _ => 1
def uptoBulkAll {H : Type} : List (DataW H) → Nat
  | [] => 0
  | d :: r => uptoBulk d + uptoBulkAll r
def uptoBulkEntries {H : Type} : List (Lit × DataW H) → Nat
  | [] => 0
  | x :: r => uptoBulkEntry x + uptoBulkEntries r
def uptoBulkEntry {H : Type} : Lit × DataW H → Nat
  | (.string bytes, d) => bytes.length + uptoBulk d + 1
  | (_, d) => uptoBulk d + 1
 end
def uptoSmall : (H : Type) → List (DataW H) → Bool := fun _ ds => decide (uptoBulkAll ds ≤ 1048576)
def OpenSpec.upto (s : _root_.Go.ChangeSpec) : _root_.Go.OpenSpec := { _root_.Go.OpenSpec.ofChange s with cond := some uptoSmall }

/-- 'flowpipelaw30.ControlConfigs', WHERE WHAT IT READS IS OF BULK AT MOST 1048576: true; the input reads as it did. -/
def controlConfigsUptoRow : OpenClaim := { program := "ytofdlkgpgcnjhaadoor", sum := "b9238c79f280305aeb99c4957c9ca82ea8f66ea623eb1bb36b3d9901f0d3699f", func := "flowpipe/flowpipelaw30.ControlConfigs", spec := "controlConfigs", unfollowed := true, recurses := true, named := ["math/bits.deBruijn32tab"], apart := false, laid := [("math/bits.deBruijn32tab", laid_math_bits_deBruijn32tab)], narrowed := true }
def ControlConfigsUptoSaid : Prop := controlConfigsUptoRow.holds Tryd.pinned (OpenSpec.upto controlConfigsSpec)

/-- 'flowpipelaw30.ControlNice', WHERE WHAT IT READS IS OF BULK AT MOST 1048576: true; the input reads as it did. -/
def controlNiceUptoRow : OpenClaim := { program := "ytofdlkgpgcnjhaadoor", sum := "b9238c79f280305aeb99c4957c9ca82ea8f66ea623eb1bb36b3d9901f0d3699f", func := "flowpipe/flowpipelaw30.ControlNice", spec := "controlNice", unfollowed := true, recurses := true, named := ["math/bits.deBruijn32tab"], apart := false, laid := [("math/bits.deBruijn32tab", laid_math_bits_deBruijn32tab)], narrowed := true }
def ControlNiceUptoSaid : Prop := controlNiceUptoRow.holds Tryd.pinned (OpenSpec.upto controlNiceSpec)

/-- 'flowpipelaw30.ControlSums', WHERE WHAT IT READS IS OF BULK AT MOST 1048576: true; the input reads as it did. -/
def controlSumsUptoRow : OpenClaim := { program := "ytofdlkgpgcnjhaadoor", sum := "b9238c79f280305aeb99c4957c9ca82ea8f66ea623eb1bb36b3d9901f0d3699f", func := "flowpipe/flowpipelaw30.ControlSums", spec := "controlSums", unfollowed := true, recurses := true, named := ["math/bits.deBruijn32tab"], apart := false, laid := [("math/bits.deBruijn32tab", laid_math_bits_deBruijn32tab)], narrowed := true }
def ControlSumsUptoSaid : Prop := controlSumsUptoRow.holds Tryd.pinned (OpenSpec.upto controlSumsSpec)

end Rows
end Go.Proofs.YtofdlkgpgcnjhaaDoor
