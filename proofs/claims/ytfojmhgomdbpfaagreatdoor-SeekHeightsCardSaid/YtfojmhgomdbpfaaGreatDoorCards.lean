/-
  DERIVED. GIVEN WITH THE SEED: THE CARDS: each row of YtfojmhgomdbpfaaGreatDoorRows.lean that lists a variable, with what it lists TIED to the program's text (the seventh form; the later family's looks); each row that meets fmt, with fmt's text TOLD by the authors' own Lean function (tested against real Go, not proved from fmt's source: count such statements apart). THE CARD IS WHAT COUNTS. Prove the row's statement (the work); the ties are given (YtfojmhgomdbpfaaGreatDoorTie.lean); close each card by the builder's one call (the guide's Derived/Test/ToyasCard.lean, 'card_holds'). Laid BY PROGRAM, IN A SANDBOX (cutbox-door.mjs). By AI agents, Wed Nov 11 2026. No macro, syntax, notation, axiom, sorry.
-/
import Derived.Test.YtfojmhgomdbpfaaGreatDoorRows
import GoSem.ClaimSeven
namespace Go.Proofs.YtfojmhgomdbpfaaGreatDoor
namespace Rows

/-- THE TIED CARD OF 'archipelagolaw29.SeekAnswers'. -/
def seekAnswersCard : Claim7 := { stood := { row := seekAnswersRow, standIns := [], harness := (true, "bbb85c8b5b3fd682ac663772f32c524eb8d1f8aa765dce2847f678a36c44c07e"), looks := false }, kinds := [], alts := [], laidByText := true, laidKinds := [.data], laidTests := true, laidLooks := .later }
def SeekAnswersCardSaid : Prop := Claim7.holds Tryz.pinned (.plain (OpenSpec.ofChange seekAnswersSpec)) seekAnswersCard

/-- THE TIED CARD OF 'archipelagolaw29.SeekTowers'. -/
def seekTowersCard : Claim7 := { stood := { row := seekTowersRow, standIns := [], harness := (true, "bbb85c8b5b3fd682ac663772f32c524eb8d1f8aa765dce2847f678a36c44c07e"), looks := false }, kinds := [], alts := [], laidByText := true, laidKinds := [.data], laidTests := true, laidLooks := .later }
def SeekTowersCardSaid : Prop := Claim7.holds Tryz.pinned (.plain (OpenSpec.ofChange seekTowersSpec)) seekTowersCard

/-- THE TIED CARD OF 'archipelagolaw29.SeekFinds'. -/
def seekFindsCard : Claim7 := { stood := { row := seekFindsRow, standIns := [], harness := (true, "bbb85c8b5b3fd682ac663772f32c524eb8d1f8aa765dce2847f678a36c44c07e"), looks := false }, kinds := [], alts := [], laidByText := true, laidKinds := [.data], laidTests := true, laidLooks := .later }
def SeekFindsCardSaid : Prop := Claim7.holds Tryz.pinned (.plain (OpenSpec.ofChange seekFindsSpec)) seekFindsCard

/-- THE TIED CARD OF 'archipelagolaw29.SeekHeights'. -/
def seekHeightsCard : Claim7 := { stood := { row := seekHeightsRow, standIns := [], harness := (true, "bbb85c8b5b3fd682ac663772f32c524eb8d1f8aa765dce2847f678a36c44c07e"), looks := false }, kinds := [], alts := [], laidByText := true, laidKinds := [.data], laidTests := true, laidLooks := .later }
def SeekHeightsCardSaid : Prop := Claim7.holds Tryz.pinned (.plain (OpenSpec.ofChange seekHeightsSpec)) seekHeightsCard

/-- THE TIED CARD OF 'archipelagolaw29.SeekNothing'. -/
def seekNothingCard : Claim7 := { stood := { row := seekNothingRow, standIns := [], harness := (true, "bbb85c8b5b3fd682ac663772f32c524eb8d1f8aa765dce2847f678a36c44c07e"), looks := false }, kinds := [], alts := [], laidByText := true, laidKinds := [.data], laidTests := true, laidLooks := .later }
def SeekNothingCardSaid : Prop := Claim7.holds Tryz.pinned (.plain (OpenSpec.ofChange seekNothingSpec)) seekNothingCard

/-- THE TIED CARD OF 'archipelagolaw29.SeekGoes'. -/
def seekGoesCard : Claim7 := { stood := { row := seekGoesRow, standIns := [], harness := (true, "bbb85c8b5b3fd682ac663772f32c524eb8d1f8aa765dce2847f678a36c44c07e"), looks := false }, kinds := [], alts := [], laidByText := true, laidKinds := [.data], laidTests := true, laidLooks := .later }
def SeekGoesCardSaid : Prop := Claim7.holds Tryz.pinned (.plain (OpenSpec.ofChange seekGoesSpec)) seekGoesCard

/-- THE SECOND FORM's CARD OF 'archipelagolaw29.SeekAnswers'. -/
def seekAnswersUptoCard : Claim7 := { stood := { row := seekAnswersUptoRow, standIns := [], harness := (true, "bbb85c8b5b3fd682ac663772f32c524eb8d1f8aa765dce2847f678a36c44c07e"), looks := false }, kinds := [], alts := [], laidByText := true, laidKinds := [.data], laidTests := true, laidLooks := .later }
def SeekAnswersUptoCardSaid : Prop := Claim7.holds Tryz.pinned (.plain (OpenSpec.upto seekAnswersSpec)) seekAnswersUptoCard

/-- THE SECOND FORM's CARD OF 'archipelagolaw29.SeekTowers'. -/
def seekTowersUptoCard : Claim7 := { stood := { row := seekTowersUptoRow, standIns := [], harness := (true, "bbb85c8b5b3fd682ac663772f32c524eb8d1f8aa765dce2847f678a36c44c07e"), looks := false }, kinds := [], alts := [], laidByText := true, laidKinds := [.data], laidTests := true, laidLooks := .later }
def SeekTowersUptoCardSaid : Prop := Claim7.holds Tryz.pinned (.plain (OpenSpec.upto seekTowersSpec)) seekTowersUptoCard

/-- THE SECOND FORM's CARD OF 'archipelagolaw29.SeekFinds'. -/
def seekFindsUptoCard : Claim7 := { stood := { row := seekFindsUptoRow, standIns := [], harness := (true, "bbb85c8b5b3fd682ac663772f32c524eb8d1f8aa765dce2847f678a36c44c07e"), looks := false }, kinds := [], alts := [], laidByText := true, laidKinds := [.data], laidTests := true, laidLooks := .later }
def SeekFindsUptoCardSaid : Prop := Claim7.holds Tryz.pinned (.plain (OpenSpec.upto seekFindsSpec)) seekFindsUptoCard

/-- THE SECOND FORM's CARD OF 'archipelagolaw29.SeekHeights'. -/
def seekHeightsUptoCard : Claim7 := { stood := { row := seekHeightsUptoRow, standIns := [], harness := (true, "bbb85c8b5b3fd682ac663772f32c524eb8d1f8aa765dce2847f678a36c44c07e"), looks := false }, kinds := [], alts := [], laidByText := true, laidKinds := [.data], laidTests := true, laidLooks := .later }
def SeekHeightsUptoCardSaid : Prop := Claim7.holds Tryz.pinned (.plain (OpenSpec.upto seekHeightsSpec)) seekHeightsUptoCard

/-- THE SECOND FORM's CARD OF 'archipelagolaw29.SeekNothing'. -/
def seekNothingUptoCard : Claim7 := { stood := { row := seekNothingUptoRow, standIns := [], harness := (true, "bbb85c8b5b3fd682ac663772f32c524eb8d1f8aa765dce2847f678a36c44c07e"), looks := false }, kinds := [], alts := [], laidByText := true, laidKinds := [.data], laidTests := true, laidLooks := .later }
def SeekNothingUptoCardSaid : Prop := Claim7.holds Tryz.pinned (.plain (OpenSpec.upto seekNothingSpec)) seekNothingUptoCard

/-- THE SECOND FORM's CARD OF 'archipelagolaw29.SeekGoes'. -/
def seekGoesUptoCard : Claim7 := { stood := { row := seekGoesUptoRow, standIns := [], harness := (true, "bbb85c8b5b3fd682ac663772f32c524eb8d1f8aa765dce2847f678a36c44c07e"), looks := false }, kinds := [], alts := [], laidByText := true, laidKinds := [.data], laidTests := true, laidLooks := .later }
def SeekGoesUptoCardSaid : Prop := Claim7.holds Tryz.pinned (.plain (OpenSpec.upto seekGoesSpec)) seekGoesUptoCard
end Rows
end Go.Proofs.YtfojmhgomdbpfaaGreatDoor
