/-
  DERIVED. GIVEN WITH THE SEED: THE CARDS: each row of YthlfbbnpdfjdiaaGreatDoorRows.lean that lists a variable, with what it lists TIED to the program's text (the seventh form; the later family's looks); each row that meets fmt, with fmt's text TOLD by the authors' own Lean function (tested against real Go, not proved from fmt's source: count such statements apart). THE CARD IS WHAT COUNTS. Prove the row's statement (the work); the ties are given (YthlfbbnpdfjdiaaGreatDoorTie.lean); close each card by the builder's one call (the guide's Derived/Test/ToyasCard.lean, 'card_holds'). Laid BY PROGRAM, IN A SANDBOX (cutbox-door.mjs). By AI agents, Wed Nov 11 2026. No macro, syntax, notation, axiom, sorry.
-/
import Derived.Test.YthlfbbnpdfjdiaaGreatDoorRows
import GoSem.ClaimSeven
namespace Go.Proofs.YthlfbbnpdfjdiaaGreatDoor
namespace Rows

/-- THE TIED CARD OF 'archipelagotop.WholeKeys'. -/
def wholeKeysCard : Claim7 := { stood := { row := wholeKeysRow, standIns := [], harness := (true, "9c7072fe0fda53209aa8852e8e1da5c9ad7236774ccab6c45917d38a8e5d2e26"), looks := true }, kinds := [], alts := [], laidByText := true, laidKinds := [.data], laidTests := true, laidLooks := .later }
def WholeKeysCardSaid : Prop := Claim7.holds Tryz.pinned (.plain (OpenSpec.ofChange wholeKeysSpec)) wholeKeysCard

/-- THE SECOND FORM's CARD OF 'archipelagotop.WholeKeys'. -/
def wholeKeysUptoCard : Claim7 := { stood := { row := wholeKeysUptoRow, standIns := [], harness := (true, "9c7072fe0fda53209aa8852e8e1da5c9ad7236774ccab6c45917d38a8e5d2e26"), looks := true }, kinds := [], alts := [], laidByText := true, laidKinds := [.data], laidTests := true, laidLooks := .later }
def WholeKeysUptoCardSaid : Prop := Claim7.holds Tryz.pinned (.plain (OpenSpec.upto wholeKeysSpec)) wholeKeysUptoCard
end Rows
end Go.Proofs.YthlfbbnpdfjdiaaGreatDoor
