/-
  DERIVED. GIVEN WITH THE SEED: THE CARDS: each row of YtbnaceonlbiheaaGreatDoorRows.lean that lists a variable, with what it lists TIED to the program's text (the seventh form; the later family's looks); each row that meets fmt, with fmt's text TOLD by the authors' own Lean function (tested against real Go, not proved from fmt's source: count such statements apart). THE CARD IS WHAT COUNTS. Prove the row's statement (the work); the ties are given (YtbnaceonlbiheaaGreatDoorTie.lean); close each card by the builder's one call (the guide's Derived/Test/ToyasCard.lean, 'card_holds'). Laid BY PROGRAM, IN A SANDBOX (cutbox-door.mjs). By AI agents, Wed Nov 11 2026. No macro, syntax, notation, axiom, sorry.
-/
import Derived.Test.YtbnaceonlbiheaaGreatDoorRows
import GoSem.ClaimSeven
namespace Go.Proofs.YtbnaceonlbiheaaGreatDoor
namespace Rows

/-- THE TIED CARD OF 'archipelagotop.WholeSizes'. -/
def wholeSizesCard : Claim7 := { stood := { row := wholeSizesRow, standIns := [], harness := (true, "9534b7ab0569e87f2a2f6dbab60b14c4da3f991a0736ac92b82149417e707206"), looks := true }, kinds := [], alts := [], laidByText := true, laidKinds := [.data], laidTests := true, laidLooks := .later }
def WholeSizesCardSaid : Prop := Claim7.holds Tryz.pinned (.plain (OpenSpec.ofChange wholeSizesSpec)) wholeSizesCard

/-- THE TIED CARD OF 'archipelagolaw28.IndexTowers'. -/
def indexTowersCard : Claim7 := { stood := { row := indexTowersRow, standIns := [], harness := (true, "9534b7ab0569e87f2a2f6dbab60b14c4da3f991a0736ac92b82149417e707206"), looks := true }, kinds := [], alts := [], laidByText := true, laidKinds := [.data], laidTests := true, laidLooks := .later }
def IndexTowersCardSaid : Prop := Claim7.holds Tryz.pinned (.plain (OpenSpec.ofChange indexTowersSpec)) indexTowersCard

/-- THE TIED CARD OF 'archipelagolaw28.IndexWhoever'. -/
def indexWhoeverCard : Claim7 := { stood := { row := indexWhoeverRow, standIns := [], harness := (true, "9534b7ab0569e87f2a2f6dbab60b14c4da3f991a0736ac92b82149417e707206"), looks := true }, kinds := [], alts := [], laidByText := true, laidKinds := [.data], laidTests := true, laidLooks := .later }
def IndexWhoeverCardSaid : Prop := Claim7.holds Tryz.pinned (.plain (OpenSpec.ofChange indexWhoeverSpec)) indexWhoeverCard

/-- THE TIED CARD OF 'archipelagolaw28.IndexParts'. -/
def indexPartsCard : Claim7 := { stood := { row := indexPartsRow, standIns := [], harness := (true, "9534b7ab0569e87f2a2f6dbab60b14c4da3f991a0736ac92b82149417e707206"), looks := true }, kinds := [], alts := [], laidByText := true, laidKinds := [.data], laidTests := true, laidLooks := .later }
def IndexPartsCardSaid : Prop := Claim7.holds Tryz.pinned (.plain (OpenSpec.ofChange indexPartsSpec)) indexPartsCard

/-- THE SECOND FORM's CARD OF 'archipelagotop.WholeSizes'. -/
def wholeSizesUptoCard : Claim7 := { stood := { row := wholeSizesUptoRow, standIns := [], harness := (true, "9534b7ab0569e87f2a2f6dbab60b14c4da3f991a0736ac92b82149417e707206"), looks := true }, kinds := [], alts := [], laidByText := true, laidKinds := [.data], laidTests := true, laidLooks := .later }
def WholeSizesUptoCardSaid : Prop := Claim7.holds Tryz.pinned (.plain (OpenSpec.upto wholeSizesSpec)) wholeSizesUptoCard

/-- THE SECOND FORM's CARD OF 'archipelagolaw28.IndexTowers'. -/
def indexTowersUptoCard : Claim7 := { stood := { row := indexTowersUptoRow, standIns := [], harness := (true, "9534b7ab0569e87f2a2f6dbab60b14c4da3f991a0736ac92b82149417e707206"), looks := true }, kinds := [], alts := [], laidByText := true, laidKinds := [.data], laidTests := true, laidLooks := .later }
def IndexTowersUptoCardSaid : Prop := Claim7.holds Tryz.pinned (.plain (OpenSpec.upto indexTowersSpec)) indexTowersUptoCard

/-- THE SECOND FORM's CARD OF 'archipelagolaw28.IndexWhoever'. -/
def indexWhoeverUptoCard : Claim7 := { stood := { row := indexWhoeverUptoRow, standIns := [], harness := (true, "9534b7ab0569e87f2a2f6dbab60b14c4da3f991a0736ac92b82149417e707206"), looks := true }, kinds := [], alts := [], laidByText := true, laidKinds := [.data], laidTests := true, laidLooks := .later }
def IndexWhoeverUptoCardSaid : Prop := Claim7.holds Tryz.pinned (.plain (OpenSpec.upto indexWhoeverSpec)) indexWhoeverUptoCard

/-- THE SECOND FORM's CARD OF 'archipelagolaw28.IndexParts'. -/
def indexPartsUptoCard : Claim7 := { stood := { row := indexPartsUptoRow, standIns := [], harness := (true, "9534b7ab0569e87f2a2f6dbab60b14c4da3f991a0736ac92b82149417e707206"), looks := true }, kinds := [], alts := [], laidByText := true, laidKinds := [.data], laidTests := true, laidLooks := .later }
def IndexPartsUptoCardSaid : Prop := Claim7.holds Tryz.pinned (.plain (OpenSpec.upto indexPartsSpec)) indexPartsUptoCard
end Rows
end Go.Proofs.YtbnaceonlbiheaaGreatDoor
