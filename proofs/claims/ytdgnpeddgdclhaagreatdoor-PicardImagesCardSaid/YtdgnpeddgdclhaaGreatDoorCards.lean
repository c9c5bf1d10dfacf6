/-
  DERIVED. GIVEN WITH THE SEED: THE CARDS: each row of YtdgnpeddgdclhaaGreatDoorRows.lean that lists a variable, with what it lists TIED to the program's text (the seventh form; the later family's looks); each row that meets fmt, with fmt's text TOLD by the authors' own Lean function (tested against real Go, not proved from fmt's source: count such statements apart). THE CARD IS WHAT COUNTS. Prove the row's statement (the work); the ties are given (YtdgnpeddgdclhaaGreatDoorTie.lean); close each card by the builder's one call (the guide's Derived/Test/ToyasCard.lean, 'card_holds'). Laid BY PROGRAM, IN A SANDBOX (cutbox-door.mjs). By AI agents, Wed Nov 11 2026. No macro, syntax, notation, axiom, sorry.
-/
import Derived.Test.YtdgnpeddgdclhaaGreatDoorRows
import GoSem.ClaimSeven
namespace Go.Proofs.YtdgnpeddgdclhaaGreatDoor
namespace Rows

/-- THE TIED CARD OF 'flowpipelaw28.PicardImages'. -/
def picardImagesCard : Claim7 := { stood := { row := picardImagesRow, standIns := [], harness := (true, "74d46f867c3dd7b83bd0afe2f36e1bb6e23a5afb5d7ef9eeddece49778fb3105"), looks := false }, kinds := [], alts := [], laidByText := true, laidKinds := [.data], laidTests := true, laidLooks := .later }
def PicardImagesCardSaid : Prop := Claim7.holds Tryz.pinned (.plain (OpenSpec.ofChange picardImagesSpec)) picardImagesCard

/-- THE TIED CARD OF 'flowpipelaw28.PicardHolds'. -/
def picardHoldsCard : Claim7 := { stood := { row := picardHoldsRow, standIns := [], harness := (true, "74d46f867c3dd7b83bd0afe2f36e1bb6e23a5afb5d7ef9eeddece49778fb3105"), looks := false }, kinds := [], alts := [], laidByText := true, laidKinds := [.data], laidTests := true, laidLooks := .later }
def PicardHoldsCardSaid : Prop := Claim7.holds Tryz.pinned (.plain (OpenSpec.ofChange picardHoldsSpec)) picardHoldsCard

/-- THE TIED CARD OF 'flowpipelaw28.PicardEncloses'. -/
def picardEnclosesCard : Claim7 := { stood := { row := picardEnclosesRow, standIns := [], harness := (true, "74d46f867c3dd7b83bd0afe2f36e1bb6e23a5afb5d7ef9eeddece49778fb3105"), looks := false }, kinds := [], alts := [], laidByText := true, laidKinds := [.data], laidTests := true, laidLooks := .later }
def PicardEnclosesCardSaid : Prop := Claim7.holds Tryz.pinned (.plain (OpenSpec.ofChange picardEnclosesSpec)) picardEnclosesCard

/-- THE TIED CARD OF 'flowpipelaw28.PicardSmaller'. -/
def picardSmallerCard : Claim7 := { stood := { row := picardSmallerRow, standIns := [], harness := (true, "74d46f867c3dd7b83bd0afe2f36e1bb6e23a5afb5d7ef9eeddece49778fb3105"), looks := false }, kinds := [], alts := [], laidByText := true, laidKinds := [.data], laidTests := true, laidLooks := .later }
def PicardSmallerCardSaid : Prop := Claim7.holds Tryz.pinned (.plain (OpenSpec.ofChange picardSmallerSpec)) picardSmallerCard

/-- THE TIED CARD OF 'flowpipelaw28.PicardTightens'. -/
def picardTightensCard : Claim7 := { stood := { row := picardTightensRow, standIns := [], harness := (true, "74d46f867c3dd7b83bd0afe2f36e1bb6e23a5afb5d7ef9eeddece49778fb3105"), looks := false }, kinds := [], alts := [], laidByText := true, laidKinds := [.data], laidTests := true, laidLooks := .later }
def PicardTightensCardSaid : Prop := Claim7.holds Tryz.pinned (.plain (OpenSpec.ofChange picardTightensSpec)) picardTightensCard

/-- THE TIED CARD OF 'flowpipelaw28.PicardLongest'. -/
def picardLongestCard : Claim7 := { stood := { row := picardLongestRow, standIns := [], harness := (true, "74d46f867c3dd7b83bd0afe2f36e1bb6e23a5afb5d7ef9eeddece49778fb3105"), looks := false }, kinds := [], alts := [], laidByText := true, laidKinds := [.data], laidTests := true, laidLooks := .later }
def PicardLongestCardSaid : Prop := Claim7.holds Tryz.pinned (.plain (OpenSpec.ofChange picardLongestSpec)) picardLongestCard

/-- THE SECOND FORM's CARD OF 'flowpipelaw28.PicardImages'. -/
def picardImagesUptoCard : Claim7 := { stood := { row := picardImagesUptoRow, standIns := [], harness := (true, "74d46f867c3dd7b83bd0afe2f36e1bb6e23a5afb5d7ef9eeddece49778fb3105"), looks := false }, kinds := [], alts := [], laidByText := true, laidKinds := [.data], laidTests := true, laidLooks := .later }
def PicardImagesUptoCardSaid : Prop := Claim7.holds Tryz.pinned (.plain (OpenSpec.upto picardImagesSpec)) picardImagesUptoCard

/-- THE SECOND FORM's CARD OF 'flowpipelaw28.PicardHolds'. -/
def picardHoldsUptoCard : Claim7 := { stood := { row := picardHoldsUptoRow, standIns := [], harness := (true, "74d46f867c3dd7b83bd0afe2f36e1bb6e23a5afb5d7ef9eeddece49778fb3105"), looks := false }, kinds := [], alts := [], laidByText := true, laidKinds := [.data], laidTests := true, laidLooks := .later }
def PicardHoldsUptoCardSaid : Prop := Claim7.holds Tryz.pinned (.plain (OpenSpec.upto picardHoldsSpec)) picardHoldsUptoCard

/-- THE SECOND FORM's CARD OF 'flowpipelaw28.PicardEncloses'. -/
def picardEnclosesUptoCard : Claim7 := { stood := { row := picardEnclosesUptoRow, standIns := [], harness := (true, "74d46f867c3dd7b83bd0afe2f36e1bb6e23a5afb5d7ef9eeddece49778fb3105"), looks := false }, kinds := [], alts := [], laidByText := true, laidKinds := [.data], laidTests := true, laidLooks := .later }
def PicardEnclosesUptoCardSaid : Prop := Claim7.holds Tryz.pinned (.plain (OpenSpec.upto picardEnclosesSpec)) picardEnclosesUptoCard

/-- THE SECOND FORM's CARD OF 'flowpipelaw28.PicardSmaller'. -/
def picardSmallerUptoCard : Claim7 := { stood := { row := picardSmallerUptoRow, standIns := [], harness := (true, "74d46f867c3dd7b83bd0afe2f36e1bb6e23a5afb5d7ef9eeddece49778fb3105"), looks := false }, kinds := [], alts := [], laidByText := true, laidKinds := [.data], laidTests := true, laidLooks := .later }
def PicardSmallerUptoCardSaid : Prop := Claim7.holds Tryz.pinned (.plain (OpenSpec.upto picardSmallerSpec)) picardSmallerUptoCard

/-- THE SECOND FORM's CARD OF 'flowpipelaw28.PicardTightens'. -/
def picardTightensUptoCard : Claim7 := { stood := { row := picardTightensUptoRow, standIns := [], harness := (true, "74d46f867c3dd7b83bd0afe2f36e1bb6e23a5afb5d7ef9eeddece49778fb3105"), looks := false }, kinds := [], alts := [], laidByText := true, laidKinds := [.data], laidTests := true, laidLooks := .later }
def PicardTightensUptoCardSaid : Prop := Claim7.holds Tryz.pinned (.plain (OpenSpec.upto picardTightensSpec)) picardTightensUptoCard

/-- THE SECOND FORM's CARD OF 'flowpipelaw28.PicardLongest'. -/
def picardLongestUptoCard : Claim7 := { stood := { row := picardLongestUptoRow, standIns := [], harness := (true, "74d46f867c3dd7b83bd0afe2f36e1bb6e23a5afb5d7ef9eeddece49778fb3105"), looks := false }, kinds := [], alts := [], laidByText := true, laidKinds := [.data], laidTests := true, laidLooks := .later }
def PicardLongestUptoCardSaid : Prop := Claim7.holds Tryz.pinned (.plain (OpenSpec.upto picardLongestSpec)) picardLongestUptoCard
end Rows
end Go.Proofs.YtdgnpeddgdclhaaGreatDoor
