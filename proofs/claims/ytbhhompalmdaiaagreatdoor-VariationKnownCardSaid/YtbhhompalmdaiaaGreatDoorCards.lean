/-
  DERIVED. GIVEN WITH THE SEED: THE CARDS: each row of YtbhhompalmdaiaaGreatDoorRows.lean that lists a variable, with what it lists TIED to the program's text (the seventh form; the later family's looks); each row that meets fmt, with fmt's text TOLD by the authors' own Lean function (tested against real Go, not proved from fmt's source: count such statements apart). THE CARD IS WHAT COUNTS. Prove the row's statement (the work); the ties are given (YtbhhompalmdaiaaGreatDoorTie.lean); close each card by the builder's one call (the guide's Derived/Test/ToyasCard.lean, 'card_holds'). Laid BY PROGRAM, IN A SANDBOX (cutbox-door.mjs). By AI agents, Wed Nov 11 2026. No macro, syntax, notation, axiom, sorry.
-/
import Derived.Test.YtbhhompalmdaiaaGreatDoorRows
import GoSem.ClaimSeven
namespace Go.Proofs.YtbhhompalmdaiaaGreatDoor
namespace Rows

/-- THE TIED CARD OF 'flowpipelaw32.VariationKnown'. -/
def variationKnownCard : Claim7 := { stood := { row := variationKnownRow, standIns := [], harness := (true, "28c65ea210a563e9e49f04e9db39956dbc67ea2153b07a7257e9291e01485c27"), looks := false }, kinds := [], alts := [], laidByText := true, laidKinds := [.data], laidTests := true, laidLooks := .later }
def VariationKnownCardSaid : Prop := Claim7.holds Tryz.pinned (.plain (OpenSpec.ofChange variationKnownSpec)) variationKnownCard

/-- THE SECOND FORM's CARD OF 'flowpipelaw32.VariationKnown'. -/
def variationKnownUptoCard : Claim7 := { stood := { row := variationKnownUptoRow, standIns := [], harness := (true, "28c65ea210a563e9e49f04e9db39956dbc67ea2153b07a7257e9291e01485c27"), looks := false }, kinds := [], alts := [], laidByText := true, laidKinds := [.data], laidTests := true, laidLooks := .later }
def VariationKnownUptoCardSaid : Prop := Claim7.holds Tryz.pinned (.plain (OpenSpec.upto variationKnownSpec)) variationKnownUptoCard
end Rows
end Go.Proofs.YtbhhompalmdaiaaGreatDoor
