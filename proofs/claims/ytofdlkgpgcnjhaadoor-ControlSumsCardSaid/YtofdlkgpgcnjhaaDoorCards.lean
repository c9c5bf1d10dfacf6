/-
  DERIVED. GIVEN WITH THE SEED: THE CARDS: each row of YtofdlkgpgcnjhaaDoorRows.lean that lists a variable, with what it lists TIED to the program's text (the seventh form; the later family's looks); each row that meets fmt, with fmt's text TOLD by the authors' own Lean function (tested against real Go, not proved from fmt's source: count such statements apart). THE CARD IS WHAT COUNTS. Prove the row's statement (the work); the ties are given (YtofdlkgpgcnjhaaDoorTie.lean); close each card by the builder's one call (the guide's Derived/Test/ToyasCard.lean, 'card_holds'). Laid BY PROGRAM, IN A SANDBOX (cutbox-door.mjs). By AI agents, Wed Nov 11 2026. No macro, syntax, notation, axiom, sorry.
-/
import Derived.Test.YtofdlkgpgcnjhaaDoorRows
import GoSem.ClaimSeven
namespace Go.Proofs.YtofdlkgpgcnjhaaDoor
namespace Rows

/-- THE TIED CARD OF 'flowpipelaw30.ControlConfigs'. -/
def controlConfigsCard : Claim7 := { stood := { row := controlConfigsRow, standIns := [], harness := (true, "b4f8f10a1aaf6c76e452a39ba27375b44985bb0b78c586ff3dd58bc92a4a97e2"), looks := false }, kinds := [], alts := [], laidByText := true, laidKinds := [.data], laidTests := true, laidLooks := .later }
def ControlConfigsCardSaid : Prop := Claim7.holds Tryd.pinned (.plain (OpenSpec.ofChange controlConfigsSpec)) controlConfigsCard

/-- THE TIED CARD OF 'flowpipelaw30.ControlNice'. -/
def controlNiceCard : Claim7 := { stood := { row := controlNiceRow, standIns := [], harness := (true, "b4f8f10a1aaf6c76e452a39ba27375b44985bb0b78c586ff3dd58bc92a4a97e2"), looks := false }, kinds := [], alts := [], laidByText := true, laidKinds := [.data], laidTests := true, laidLooks := .later }
def ControlNiceCardSaid : Prop := Claim7.holds Tryd.pinned (.plain (OpenSpec.ofChange controlNiceSpec)) controlNiceCard

/-- THE TIED CARD OF 'flowpipelaw30.ControlSums'. -/
def controlSumsCard : Claim7 := { stood := { row := controlSumsRow, standIns := [], harness := (true, "b4f8f10a1aaf6c76e452a39ba27375b44985bb0b78c586ff3dd58bc92a4a97e2"), looks := false }, kinds := [], alts := [], laidByText := true, laidKinds := [.data], laidTests := true, laidLooks := .later }
def ControlSumsCardSaid : Prop := Claim7.holds Tryd.pinned (.plain (OpenSpec.ofChange controlSumsSpec)) controlSumsCard

/-- THE SECOND FORM's CARD OF 'flowpipelaw30.ControlConfigs'. -/
def controlConfigsUptoCard : Claim7 := { stood := { row := controlConfigsUptoRow, standIns := [], harness := (true, "b4f8f10a1aaf6c76e452a39ba27375b44985bb0b78c586ff3dd58bc92a4a97e2"), looks := false }, kinds := [], alts := [], laidByText := true, laidKinds := [.data], laidTests := true, laidLooks := .later }
def ControlConfigsUptoCardSaid : Prop := Claim7.holds Tryd.pinned (.plain (OpenSpec.upto controlConfigsSpec)) controlConfigsUptoCard

/-- THE SECOND FORM's CARD OF 'flowpipelaw30.ControlNice'. -/
def controlNiceUptoCard : Claim7 := { stood := { row := controlNiceUptoRow, standIns := [], harness := (true, "b4f8f10a1aaf6c76e452a39ba27375b44985bb0b78c586ff3dd58bc92a4a97e2"), looks := false }, kinds := [], alts := [], laidByText := true, laidKinds := [.data], laidTests := true, laidLooks := .later }
def ControlNiceUptoCardSaid : Prop := Claim7.holds Tryd.pinned (.plain (OpenSpec.upto controlNiceSpec)) controlNiceUptoCard

/-- THE SECOND FORM's CARD OF 'flowpipelaw30.ControlSums'. -/
def controlSumsUptoCard : Claim7 := { stood := { row := controlSumsUptoRow, standIns := [], harness := (true, "b4f8f10a1aaf6c76e452a39ba27375b44985bb0b78c586ff3dd58bc92a4a97e2"), looks := false }, kinds := [], alts := [], laidByText := true, laidKinds := [.data], laidTests := true, laidLooks := .later }
def ControlSumsUptoCardSaid : Prop := Claim7.holds Tryd.pinned (.plain (OpenSpec.upto controlSumsSpec)) controlSumsUptoCard
end Rows
end Go.Proofs.YtofdlkgpgcnjhaaDoor
