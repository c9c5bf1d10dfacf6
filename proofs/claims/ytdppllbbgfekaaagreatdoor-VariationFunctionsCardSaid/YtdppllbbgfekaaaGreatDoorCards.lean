/-
  DERIVED. GIVEN WITH THE SEED: THE CARDS: each row of YtdppllbbgfekaaaGreatDoorRows.lean that lists a variable, with what it lists TIED to the program's text (the seventh form; the later family's looks); each row that meets fmt, with fmt's text TOLD by the authors' own Lean function (tested against real Go, not proved from fmt's source: count such statements apart). THE CARD IS WHAT COUNTS. Prove the row's statement (the work); the ties are given (YtdppllbbgfekaaaGreatDoorTie.lean); close each card by the builder's one call (the guide's Derived/Test/ToyasCard.lean, 'card_holds'). Laid BY PROGRAM, IN A SANDBOX (cutbox-door.mjs). By AI agents, Wed Nov 11 2026. No macro, syntax, notation, axiom, sorry.
-/
import Derived.Test.YtdppllbbgfekaaaGreatDoorRows
import GoSem.ClaimSeven
namespace Go.Proofs.YtdppllbbgfekaaaGreatDoor
namespace Rows

/-- THE TIED CARD OF 'flowpipelaw32.VariationNilpotent'. -/
def variationNilpotentCard : Claim7 := { stood := { row := variationNilpotentRow, standIns := [], harness := (true, "616527aa0d6879d8f5a5e02b4f71608655684cd45dcaa47abb6cbc4706e7d8fe"), looks := false }, kinds := [], alts := [], laidByText := true, laidKinds := [.data], laidTests := true, laidLooks := .later }
def VariationNilpotentCardSaid : Prop := Claim7.holds Tryz.pinned (.plain (OpenSpec.ofChange variationNilpotentSpec)) variationNilpotentCard

/-- THE TIED CARD OF 'flowpipelaw32.VariationExp'. -/
def variationExpCard : Claim7 := { stood := { row := variationExpRow, standIns := [], harness := (true, "616527aa0d6879d8f5a5e02b4f71608655684cd45dcaa47abb6cbc4706e7d8fe"), looks := false }, kinds := [], alts := [], laidByText := true, laidKinds := [.data], laidTests := true, laidLooks := .later }
def VariationExpCardSaid : Prop := Claim7.holds Tryz.pinned (.plain (OpenSpec.ofChange variationExpSpec)) variationExpCard

/-- THE TIED CARD OF 'flowpipelaw32.VariationFunctions'. -/
def variationFunctionsCard : Claim7 := { stood := { row := variationFunctionsRow, standIns := [], harness := (true, "616527aa0d6879d8f5a5e02b4f71608655684cd45dcaa47abb6cbc4706e7d8fe"), looks := false }, kinds := [], alts := [], laidByText := true, laidKinds := [.data], laidTests := true, laidLooks := .later }
def VariationFunctionsCardSaid : Prop := Claim7.holds Tryz.pinned (.plain (OpenSpec.ofChange variationFunctionsSpec)) variationFunctionsCard

/-- THE TIED CARD OF 'flowpipelaw32.VariationSmaller'. -/
def variationSmallerCard : Claim7 := { stood := { row := variationSmallerRow, standIns := [], harness := (true, "616527aa0d6879d8f5a5e02b4f71608655684cd45dcaa47abb6cbc4706e7d8fe"), looks := false }, kinds := [], alts := [], laidByText := true, laidKinds := [.data], laidTests := true, laidLooks := .later }
def VariationSmallerCardSaid : Prop := Claim7.holds Tryz.pinned (.plain (OpenSpec.ofChange variationSmallerSpec)) variationSmallerCard

/-- THE TIED CARD OF 'flowpipelaw32.VariationChain'. -/
def variationChainCard : Claim7 := { stood := { row := variationChainRow, standIns := [], harness := (true, "616527aa0d6879d8f5a5e02b4f71608655684cd45dcaa47abb6cbc4706e7d8fe"), looks := false }, kinds := [], alts := [], laidByText := true, laidKinds := [.data], laidTests := true, laidLooks := .later }
def VariationChainCardSaid : Prop := Claim7.holds Tryz.pinned (.plain (OpenSpec.ofChange variationChainSpec)) variationChainCard

/-- THE TIED CARD OF 'flowpipelaw32.VariationGroup'. -/
def variationGroupCard : Claim7 := { stood := { row := variationGroupRow, standIns := [], harness := (true, "616527aa0d6879d8f5a5e02b4f71608655684cd45dcaa47abb6cbc4706e7d8fe"), looks := false }, kinds := [], alts := [], laidByText := true, laidKinds := [.data], laidTests := true, laidLooks := .later }
def VariationGroupCardSaid : Prop := Claim7.holds Tryz.pinned (.plain (OpenSpec.ofChange variationGroupSpec)) variationGroupCard

/-- THE SECOND FORM's CARD OF 'flowpipelaw32.VariationNilpotent'. -/
def variationNilpotentUptoCard : Claim7 := { stood := { row := variationNilpotentUptoRow, standIns := [], harness := (true, "616527aa0d6879d8f5a5e02b4f71608655684cd45dcaa47abb6cbc4706e7d8fe"), looks := false }, kinds := [], alts := [], laidByText := true, laidKinds := [.data], laidTests := true, laidLooks := .later }
def VariationNilpotentUptoCardSaid : Prop := Claim7.holds Tryz.pinned (.plain (OpenSpec.upto variationNilpotentSpec)) variationNilpotentUptoCard

/-- THE SECOND FORM's CARD OF 'flowpipelaw32.VariationExp'. -/
def variationExpUptoCard : Claim7 := { stood := { row := variationExpUptoRow, standIns := [], harness := (true, "616527aa0d6879d8f5a5e02b4f71608655684cd45dcaa47abb6cbc4706e7d8fe"), looks := false }, kinds := [], alts := [], laidByText := true, laidKinds := [.data], laidTests := true, laidLooks := .later }
def VariationExpUptoCardSaid : Prop := Claim7.holds Tryz.pinned (.plain (OpenSpec.upto variationExpSpec)) variationExpUptoCard

/-- THE SECOND FORM's CARD OF 'flowpipelaw32.VariationFunctions'. -/
def variationFunctionsUptoCard : Claim7 := { stood := { row := variationFunctionsUptoRow, standIns := [], harness := (true, "616527aa0d6879d8f5a5e02b4f71608655684cd45dcaa47abb6cbc4706e7d8fe"), looks := false }, kinds := [], alts := [], laidByText := true, laidKinds := [.data], laidTests := true, laidLooks := .later }
def VariationFunctionsUptoCardSaid : Prop := Claim7.holds Tryz.pinned (.plain (OpenSpec.upto variationFunctionsSpec)) variationFunctionsUptoCard

/-- THE SECOND FORM's CARD OF 'flowpipelaw32.VariationSmaller'. -/
def variationSmallerUptoCard : Claim7 := { stood := { row := variationSmallerUptoRow, standIns := [], harness := (true, "616527aa0d6879d8f5a5e02b4f71608655684cd45dcaa47abb6cbc4706e7d8fe"), looks := false }, kinds := [], alts := [], laidByText := true, laidKinds := [.data], laidTests := true, laidLooks := .later }
def VariationSmallerUptoCardSaid : Prop := Claim7.holds Tryz.pinned (.plain (OpenSpec.upto variationSmallerSpec)) variationSmallerUptoCard

/-- THE SECOND FORM's CARD OF 'flowpipelaw32.VariationChain'. -/
def variationChainUptoCard : Claim7 := { stood := { row := variationChainUptoRow, standIns := [], harness := (true, "616527aa0d6879d8f5a5e02b4f71608655684cd45dcaa47abb6cbc4706e7d8fe"), looks := false }, kinds := [], alts := [], laidByText := true, laidKinds := [.data], laidTests := true, laidLooks := .later }
def VariationChainUptoCardSaid : Prop := Claim7.holds Tryz.pinned (.plain (OpenSpec.upto variationChainSpec)) variationChainUptoCard

/-- THE SECOND FORM's CARD OF 'flowpipelaw32.VariationGroup'. -/
def variationGroupUptoCard : Claim7 := { stood := { row := variationGroupUptoRow, standIns := [], harness := (true, "616527aa0d6879d8f5a5e02b4f71608655684cd45dcaa47abb6cbc4706e7d8fe"), looks := false }, kinds := [], alts := [], laidByText := true, laidKinds := [.data], laidTests := true, laidLooks := .later }
def VariationGroupUptoCardSaid : Prop := Claim7.holds Tryz.pinned (.plain (OpenSpec.upto variationGroupSpec)) variationGroupUptoCard
end Rows
end Go.Proofs.YtdppllbbgfekaaaGreatDoor
