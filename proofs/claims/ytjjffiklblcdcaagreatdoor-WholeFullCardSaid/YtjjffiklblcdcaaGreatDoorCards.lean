/-
  DERIVED. GIVEN WITH THE SEED: THE CARDS: each row of YtjjffiklblcdcaaGreatDoorRows.lean that lists a variable, with what it lists TIED to the program's text (the seventh form; the later family's looks); each row that meets fmt, with fmt's text TOLD by the authors' own Lean function (tested against real Go, not proved from fmt's source: count such statements apart). THE CARD IS WHAT COUNTS. Prove the row's statement (the work); the ties are given (YtjjffiklblcdcaaGreatDoorTie.lean); close each card by the builder's one call (the guide's Derived/Test/ToyasCard.lean, 'card_holds'). Laid BY PROGRAM, IN A SANDBOX (cutbox-door.mjs). By AI agents, Wed Nov 11 2026. No macro, syntax, notation, axiom, sorry.
-/
import Derived.Test.YtjjffiklblcdcaaGreatDoorRows
import GoSem.ClaimSeven
namespace Go.Proofs.YtjjffiklblcdcaaGreatDoor
namespace Rows

/-- THE TIED CARD OF 'archipelagotop.WholeBound'. -/
def wholeBoundCard : Claim7 := { stood := { row := wholeBoundRow, standIns := [], harness := (true, "6865a57433ace5c44d306bcaa95f3dd41ec92138a63297c3a1c27e1f15b0c7cd"), looks := true }, kinds := [], alts := [], laidByText := true, laidKinds := [.data], laidTests := true, laidLooks := .later }
def WholeBoundCardSaid : Prop := Claim7.holds Tryz.pinned (.plain (OpenSpec.ofChange wholeBoundSpec)) wholeBoundCard

/-- THE TIED CARD OF 'archipelagotop.WholeSeek'. -/
def wholeSeekCard : Claim7 := { stood := { row := wholeSeekRow, standIns := [], harness := (true, "6865a57433ace5c44d306bcaa95f3dd41ec92138a63297c3a1c27e1f15b0c7cd"), looks := true }, kinds := [], alts := [], laidByText := true, laidKinds := [.data], laidTests := true, laidLooks := .later }
def WholeSeekCardSaid : Prop := Claim7.holds Tryz.pinned (.plain (OpenSpec.ofChange wholeSeekSpec)) wholeSeekCard

/-- THE TIED CARD OF 'archipelagotop.WholeFull'. -/
def wholeFullCard : Claim7 := { stood := { row := wholeFullRow, standIns := [], harness := (true, "6865a57433ace5c44d306bcaa95f3dd41ec92138a63297c3a1c27e1f15b0c7cd"), looks := true }, kinds := [], alts := [], laidByText := true, laidKinds := [.data], laidTests := true, laidLooks := .later }
def WholeFullCardSaid : Prop := Claim7.holds Tryz.pinned (.plain (OpenSpec.ofChange wholeFullSpec)) wholeFullCard

/-- THE TIED CARD OF 'archipelagotop.WholeRoom'. -/
def wholeRoomCard : Claim7 := { stood := { row := wholeRoomRow, standIns := [], harness := (true, "6865a57433ace5c44d306bcaa95f3dd41ec92138a63297c3a1c27e1f15b0c7cd"), looks := true }, kinds := [], alts := [], laidByText := true, laidKinds := [.data], laidTests := true, laidLooks := .later }
def WholeRoomCardSaid : Prop := Claim7.holds Tryz.pinned (.plain (OpenSpec.ofChange wholeRoomSpec)) wholeRoomCard

/-- THE TIED CARD OF 'archipelagotop.WholeBook'. -/
def wholeBookCard : Claim7 := { stood := { row := wholeBookRow, standIns := [], harness := (true, "6865a57433ace5c44d306bcaa95f3dd41ec92138a63297c3a1c27e1f15b0c7cd"), looks := true }, kinds := [], alts := [], laidByText := true, laidKinds := [.data], laidTests := true, laidLooks := .later }
def WholeBookCardSaid : Prop := Claim7.holds Tryz.pinned (.plain (OpenSpec.ofChange wholeBookSpec)) wholeBookCard

/-- THE SECOND FORM's CARD OF 'archipelagotop.WholeBound'. -/
def wholeBoundUptoCard : Claim7 := { stood := { row := wholeBoundUptoRow, standIns := [], harness := (true, "6865a57433ace5c44d306bcaa95f3dd41ec92138a63297c3a1c27e1f15b0c7cd"), looks := true }, kinds := [], alts := [], laidByText := true, laidKinds := [.data], laidTests := true, laidLooks := .later }
def WholeBoundUptoCardSaid : Prop := Claim7.holds Tryz.pinned (.plain (OpenSpec.upto wholeBoundSpec)) wholeBoundUptoCard

/-- THE SECOND FORM's CARD OF 'archipelagotop.WholeSeek'. -/
def wholeSeekUptoCard : Claim7 := { stood := { row := wholeSeekUptoRow, standIns := [], harness := (true, "6865a57433ace5c44d306bcaa95f3dd41ec92138a63297c3a1c27e1f15b0c7cd"), looks := true }, kinds := [], alts := [], laidByText := true, laidKinds := [.data], laidTests := true, laidLooks := .later }
def WholeSeekUptoCardSaid : Prop := Claim7.holds Tryz.pinned (.plain (OpenSpec.upto wholeSeekSpec)) wholeSeekUptoCard

/-- THE SECOND FORM's CARD OF 'archipelagotop.WholeFull'. -/
def wholeFullUptoCard : Claim7 := { stood := { row := wholeFullUptoRow, standIns := [], harness := (true, "6865a57433ace5c44d306bcaa95f3dd41ec92138a63297c3a1c27e1f15b0c7cd"), looks := true }, kinds := [], alts := [], laidByText := true, laidKinds := [.data], laidTests := true, laidLooks := .later }
def WholeFullUptoCardSaid : Prop := Claim7.holds Tryz.pinned (.plain (OpenSpec.upto wholeFullSpec)) wholeFullUptoCard

/-- THE SECOND FORM's CARD OF 'archipelagotop.WholeRoom'. -/
def wholeRoomUptoCard : Claim7 := { stood := { row := wholeRoomUptoRow, standIns := [], harness := (true, "6865a57433ace5c44d306bcaa95f3dd41ec92138a63297c3a1c27e1f15b0c7cd"), looks := true }, kinds := [], alts := [], laidByText := true, laidKinds := [.data], laidTests := true, laidLooks := .later }
def WholeRoomUptoCardSaid : Prop := Claim7.holds Tryz.pinned (.plain (OpenSpec.upto wholeRoomSpec)) wholeRoomUptoCard

/-- THE SECOND FORM's CARD OF 'archipelagotop.WholeBook'. -/
def wholeBookUptoCard : Claim7 := { stood := { row := wholeBookUptoRow, standIns := [], harness := (true, "6865a57433ace5c44d306bcaa95f3dd41ec92138a63297c3a1c27e1f15b0c7cd"), looks := true }, kinds := [], alts := [], laidByText := true, laidKinds := [.data], laidTests := true, laidLooks := .later }
def WholeBookUptoCardSaid : Prop := Claim7.holds Tryz.pinned (.plain (OpenSpec.upto wholeBookSpec)) wholeBookUptoCard
end Rows
end Go.Proofs.YtjjffiklblcdcaaGreatDoor
