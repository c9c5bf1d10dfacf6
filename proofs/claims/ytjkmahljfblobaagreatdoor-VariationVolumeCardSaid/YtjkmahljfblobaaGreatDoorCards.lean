/-
  DERIVED. GIVEN WITH THE SEED: THE CARDS: each row of YtjkmahljfblobaaGreatDoorRows.lean that lists a variable, with what it lists TIED to the program's text (the seventh form; the later family's looks); each row that meets fmt, with fmt's text TOLD by the authors' own Lean function (tested against real Go, not proved from fmt's source: count such statements apart). THE CARD IS WHAT COUNTS. Prove the row's statement (the work); the ties are given (YtjkmahljfblobaaGreatDoorTie.lean); close each card by the builder's one call (the guide's Derived/Test/ToyasCard.lean, 'card_holds'). Laid BY PROGRAM, IN A SANDBOX (cutbox-door.mjs). By AI agents, Wed Nov 11 2026. No macro, syntax, notation, axiom, sorry.
-/
import Derived.Test.YtjkmahljfblobaaGreatDoorRows
import GoSem.ClaimSeven
namespace Go.Proofs.YtjkmahljfblobaaGreatDoor
namespace Rows

/-- THE TIED CARD OF 'flowpipelaw44.OrbitEigenvalues'. -/
def orbitEigenvaluesCard : Claim7 := { stood := { row := orbitEigenvaluesRow, standIns := [], harness := (true, "df3cff5790b3de1ae4e1c4fcfed8b40c6f330f2289190a1ee2d5dea53ff910c2"), looks := false }, kinds := [], alts := [], laidByText := true, laidKinds := [.data], laidTests := true, laidLooks := .later }
def OrbitEigenvaluesCardSaid : Prop := Claim7.holds Tryz.pinned (.plain (OpenSpec.ofChange orbitEigenvaluesSpec)) orbitEigenvaluesCard

/-- THE TIED CARD OF 'flowpipelaw32.VariationVolume'. -/
def variationVolumeCard : Claim7 := { stood := { row := variationVolumeRow, standIns := [], harness := (true, "df3cff5790b3de1ae4e1c4fcfed8b40c6f330f2289190a1ee2d5dea53ff910c2"), looks := false }, kinds := [], alts := [], laidByText := true, laidKinds := [.data], laidTests := true, laidLooks := .later }
def VariationVolumeCardSaid : Prop := Claim7.holds Tryz.pinned (.plain (OpenSpec.ofChange variationVolumeSpec)) variationVolumeCard

/-- THE TIED CARD OF 'flowpipelaw44.OrbitRests'. -/
def orbitRestsCard : Claim7 := { stood := { row := orbitRestsRow, standIns := [], harness := (true, "df3cff5790b3de1ae4e1c4fcfed8b40c6f330f2289190a1ee2d5dea53ff910c2"), looks := false }, kinds := [], alts := [], laidByText := true, laidKinds := [.data], laidTests := true, laidLooks := .later }
def OrbitRestsCardSaid : Prop := Claim7.holds Tryz.pinned (.plain (OpenSpec.ofChange orbitRestsSpec)) orbitRestsCard

/-- THE TIED CARD OF 'flowpipelaw44.OrbitLogistic'. -/
def orbitLogisticCard : Claim7 := { stood := { row := orbitLogisticRow, standIns := [], harness := (true, "df3cff5790b3de1ae4e1c4fcfed8b40c6f330f2289190a1ee2d5dea53ff910c2"), looks := false }, kinds := [], alts := [], laidByText := true, laidKinds := [.data], laidTests := true, laidLooks := .later }
def OrbitLogisticCardSaid : Prop := Claim7.holds Tryz.pinned (.plain (OpenSpec.ofChange orbitLogisticSpec)) orbitLogisticCard

/-- THE SECOND FORM's CARD OF 'flowpipelaw44.OrbitEigenvalues'. -/
def orbitEigenvaluesUptoCard : Claim7 := { stood := { row := orbitEigenvaluesUptoRow, standIns := [], harness := (true, "df3cff5790b3de1ae4e1c4fcfed8b40c6f330f2289190a1ee2d5dea53ff910c2"), looks := false }, kinds := [], alts := [], laidByText := true, laidKinds := [.data], laidTests := true, laidLooks := .later }
def OrbitEigenvaluesUptoCardSaid : Prop := Claim7.holds Tryz.pinned (.plain (OpenSpec.upto orbitEigenvaluesSpec)) orbitEigenvaluesUptoCard

/-- THE SECOND FORM's CARD OF 'flowpipelaw32.VariationVolume'. -/
def variationVolumeUptoCard : Claim7 := { stood := { row := variationVolumeUptoRow, standIns := [], harness := (true, "df3cff5790b3de1ae4e1c4fcfed8b40c6f330f2289190a1ee2d5dea53ff910c2"), looks := false }, kinds := [], alts := [], laidByText := true, laidKinds := [.data], laidTests := true, laidLooks := .later }
def VariationVolumeUptoCardSaid : Prop := Claim7.holds Tryz.pinned (.plain (OpenSpec.upto variationVolumeSpec)) variationVolumeUptoCard

/-- THE SECOND FORM's CARD OF 'flowpipelaw44.OrbitRests'. -/
def orbitRestsUptoCard : Claim7 := { stood := { row := orbitRestsUptoRow, standIns := [], harness := (true, "df3cff5790b3de1ae4e1c4fcfed8b40c6f330f2289190a1ee2d5dea53ff910c2"), looks := false }, kinds := [], alts := [], laidByText := true, laidKinds := [.data], laidTests := true, laidLooks := .later }
def OrbitRestsUptoCardSaid : Prop := Claim7.holds Tryz.pinned (.plain (OpenSpec.upto orbitRestsSpec)) orbitRestsUptoCard

/-- THE SECOND FORM's CARD OF 'flowpipelaw44.OrbitLogistic'. -/
def orbitLogisticUptoCard : Claim7 := { stood := { row := orbitLogisticUptoRow, standIns := [], harness := (true, "df3cff5790b3de1ae4e1c4fcfed8b40c6f330f2289190a1ee2d5dea53ff910c2"), looks := false }, kinds := [], alts := [], laidByText := true, laidKinds := [.data], laidTests := true, laidLooks := .later }
def OrbitLogisticUptoCardSaid : Prop := Claim7.holds Tryz.pinned (.plain (OpenSpec.upto orbitLogisticSpec)) orbitLogisticUptoCard
end Rows
end Go.Proofs.YtjkmahljfblobaaGreatDoor
