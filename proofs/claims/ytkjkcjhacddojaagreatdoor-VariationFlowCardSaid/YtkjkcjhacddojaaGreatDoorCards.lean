/-
  DERIVED. GIVEN WITH THE SEED: THE CARDS: each row of YtkjkcjhacddojaaGreatDoorRows.lean that lists a variable, with what it lists TIED to the program's text (the seventh form; the later family's looks); each row that meets fmt, with fmt's text TOLD by the authors' own Lean function (tested against real Go, not proved from fmt's source: count such statements apart). THE CARD IS WHAT COUNTS. Prove the row's statement (the work); the ties are given (YtkjkcjhacddojaaGreatDoorTie.lean); close each card by the builder's one call (the guide's Derived/Test/ToyasCard.lean, 'card_holds'). Laid BY PROGRAM, IN A SANDBOX (cutbox-door.mjs). By AI agents, Wed Nov 11 2026. No macro, syntax, notation, axiom, sorry.
-/
import Derived.Test.YtkjkcjhacddojaaGreatDoorRows
import GoSem.ClaimSeven
namespace Go.Proofs.YtkjkcjhacddojaaGreatDoor
namespace Rows

/-- THE TIED CARD OF 'flowpipelaw44.OrbitStable'. -/
def orbitStableCard : Claim7 := { stood := { row := orbitStableRow, standIns := [], harness := (true, "0a6d6b9e032f74a119d3e4721093d851940bbce2b578bb1ab5e4ebe970bedd06"), looks := false }, kinds := [], alts := [], laidByText := true, laidKinds := [.data], laidTests := true, laidLooks := .later }
def OrbitStableCardSaid : Prop := Claim7.holds Tryz.pinned (.plain (OpenSpec.ofChange orbitStableSpec)) orbitStableCard

/-- THE TIED CARD OF 'flowpipelaw44.OrbitEigenvalues'. -/
def orbitEigenvaluesCard : Claim7 := { stood := { row := orbitEigenvaluesRow, standIns := [], harness := (true, "0a6d6b9e032f74a119d3e4721093d851940bbce2b578bb1ab5e4ebe970bedd06"), looks := false }, kinds := [], alts := [], laidByText := true, laidKinds := [.data], laidTests := true, laidLooks := .later }
def OrbitEigenvaluesCardSaid : Prop := Claim7.holds Tryz.pinned (.plain (OpenSpec.ofChange orbitEigenvaluesSpec)) orbitEigenvaluesCard

/-- THE TIED CARD OF 'flowpipelaw28.PicardTightens'. -/
def picardTightensCard : Claim7 := { stood := { row := picardTightensRow, standIns := [], harness := (true, "0a6d6b9e032f74a119d3e4721093d851940bbce2b578bb1ab5e4ebe970bedd06"), looks := false }, kinds := [], alts := [], laidByText := true, laidKinds := [.data], laidTests := true, laidLooks := .later }
def PicardTightensCardSaid : Prop := Claim7.holds Tryz.pinned (.plain (OpenSpec.ofChange picardTightensSpec)) picardTightensCard

/-- THE TIED CARD OF 'flowpipelaw32.VariationFlow'. -/
def variationFlowCard : Claim7 := { stood := { row := variationFlowRow, standIns := [], harness := (true, "0a6d6b9e032f74a119d3e4721093d851940bbce2b578bb1ab5e4ebe970bedd06"), looks := false }, kinds := [], alts := [], laidByText := true, laidKinds := [.data], laidTests := true, laidLooks := .later }
def VariationFlowCardSaid : Prop := Claim7.holds Tryz.pinned (.plain (OpenSpec.ofChange variationFlowSpec)) variationFlowCard

/-- THE SECOND FORM's CARD OF 'flowpipelaw44.OrbitStable'. -/
def orbitStableUptoCard : Claim7 := { stood := { row := orbitStableUptoRow, standIns := [], harness := (true, "0a6d6b9e032f74a119d3e4721093d851940bbce2b578bb1ab5e4ebe970bedd06"), looks := false }, kinds := [], alts := [], laidByText := true, laidKinds := [.data], laidTests := true, laidLooks := .later }
def OrbitStableUptoCardSaid : Prop := Claim7.holds Tryz.pinned (.plain (OpenSpec.upto orbitStableSpec)) orbitStableUptoCard

/-- THE SECOND FORM's CARD OF 'flowpipelaw44.OrbitEigenvalues'. -/
def orbitEigenvaluesUptoCard : Claim7 := { stood := { row := orbitEigenvaluesUptoRow, standIns := [], harness := (true, "0a6d6b9e032f74a119d3e4721093d851940bbce2b578bb1ab5e4ebe970bedd06"), looks := false }, kinds := [], alts := [], laidByText := true, laidKinds := [.data], laidTests := true, laidLooks := .later }
def OrbitEigenvaluesUptoCardSaid : Prop := Claim7.holds Tryz.pinned (.plain (OpenSpec.upto orbitEigenvaluesSpec)) orbitEigenvaluesUptoCard

/-- THE SECOND FORM's CARD OF 'flowpipelaw28.PicardTightens'. -/
def picardTightensUptoCard : Claim7 := { stood := { row := picardTightensUptoRow, standIns := [], harness := (true, "0a6d6b9e032f74a119d3e4721093d851940bbce2b578bb1ab5e4ebe970bedd06"), looks := false }, kinds := [], alts := [], laidByText := true, laidKinds := [.data], laidTests := true, laidLooks := .later }
def PicardTightensUptoCardSaid : Prop := Claim7.holds Tryz.pinned (.plain (OpenSpec.upto picardTightensSpec)) picardTightensUptoCard

/-- THE SECOND FORM's CARD OF 'flowpipelaw32.VariationFlow'. -/
def variationFlowUptoCard : Claim7 := { stood := { row := variationFlowUptoRow, standIns := [], harness := (true, "0a6d6b9e032f74a119d3e4721093d851940bbce2b578bb1ab5e4ebe970bedd06"), looks := false }, kinds := [], alts := [], laidByText := true, laidKinds := [.data], laidTests := true, laidLooks := .later }
def VariationFlowUptoCardSaid : Prop := Claim7.holds Tryz.pinned (.plain (OpenSpec.upto variationFlowSpec)) variationFlowUptoCard
end Rows
end Go.Proofs.YtkjkcjhacddojaaGreatDoor
