/-
  NARROWER THAN 'FOR EVERY INPUT', by the rows' own cells (each row's printed sentence says how): SeekAnswers: laid · SeekTowers: laid · SeekFinds: laid · SeekHeights: laid · SeekNothing: laid · SeekGoes: laid.
  DERIVED. THE GIVEN ROWS OF THIS SEAT. 6 by the template 'for every input the law returns true; each argument reads behind the call as it read before'; 0 by the template 'total and deterministic' (their statements: YtfojmhgomdbpfaaGreatDoorTotals.lean).
  GIVEN WITH THE SEED: the statements are not yours to turn. If you find one false, say at which input.
  Laid BY PROGRAM, IN A SANDBOX (cutbox-rows.mjs): the forced cells as the released guide's own fill.sh prints them over the translation 9550bf7068542731… (all of the seat's roots in one cut). By AI agents, Wed Nov 11 2026. No macro, syntax, notation, axiom, sorry.
-/
import Derived.Test.YtfojmhgomdbpfaaGreatDoorChecked
import GoSem.Claim
import GoSem.ClaimJoined
import GoSem.ClaimMapViews
import Derived.JoinedTies
import Derived.KernelRfl
namespace Go.Proofs.YtfojmhgomdbpfaaGreatDoor
/- THE CELL 'sum', in the pinned program and in every row, IS THE sha256 OF THE DUMP (.gsa) THAT YtfojmhgomdbpfaaGreatDoorProg.lean LOADS. Nothing in Lean hashes anything: it is a label: what it is worth is what the hold of that sum in a sandbox is worth. -/
noncomputable def Tryz.pinned : Pinned := { name := "ytfojmhgomdbpfaagreatdoor", sum := "9550bf7068542731351a94a5dd34c02ff1b1974788b2d3ac4de6b6b65fa97ab9", checked := Tryz.checked }
namespace Rows
def none {H : Type} : Left H := { results := [], args := [] }

/- WHAT THE LISTED PACKAGE-LEVEL VARIABLES READ AS WHEN THE CALL BEGINS. Each datum BY PROGRAM (the guide's laid-datum.mjs) off the statement by which the dump's own 'gosem.cut.vars' lays the variable. In a bare row this is a premise. The card (YtfojmhgomdbpfaaGreatDoorCards.lean) ties it to the program's text. -/
def laid_math_bits_deBruijn32tab {H : Type} : DataW H := .agg [.lit (.int .u8 0), .lit (.int .u8 1), .lit (.int .u8 28), .lit (.int .u8 2), .lit (.int .u8 29), .lit (.int .u8 14), .lit (.int .u8 24), .lit (.int .u8 3), .lit (.int .u8 30), .lit (.int .u8 22), .lit (.int .u8 20), .lit (.int .u8 15), .lit (.int .u8 25), .lit (.int .u8 17), .lit (.int .u8 4), .lit (.int .u8 8), .lit (.int .u8 31), .lit (.int .u8 27), .lit (.int .u8 13), .lit (.int .u8 23), .lit (.int .u8 21), .lit (.int .u8 19), .lit (.int .u8 16), .lit (.int .u8 7), .lit (.int .u8 26), .lit (.int .u8 12), .lit (.int .u8 18), .lit (.int .u8 6), .lit (.int .u8 11), .lit (.int .u8 5), .lit (.int .u8 10), .lit (.int .u8 9)]

/-- 'archipelagolaw29.SeekAnswers': WHATEVER THE INPUT: true; the input reads as it did. -/
def seekAnswersSpec : ChangeSpec := { name := "seekAnswers", fn := fun _ => fun
  | [d1, d2] => { results := [.lit (.bool true)], args := [d1, d2] }
  | _ => none }
def seekAnswersRow : OpenClaim := { program := "ytfojmhgomdbpfaagreatdoor", sum := "9550bf7068542731351a94a5dd34c02ff1b1974788b2d3ac4de6b6b65fa97ab9", func := "archipelago/archipelagolaw29.SeekAnswers", spec := "seekAnswers", unfollowed := true, recurses := true, named := ["math/bits.deBruijn32tab"], plainKeys := false, apart := false, laid := [("math/bits.deBruijn32tab", laid_math_bits_deBruijn32tab)] }
def SeekAnswersSaid : Prop := seekAnswersRow.holds Tryz.pinned (OpenSpec.ofChange seekAnswersSpec)

/-- ITS FALSE NEIGHBOUR: 'it returns false'. Refute it at one input. -/
def seekAnswersWrong : ChangeSpec := { name := "seekAnswers", fn := fun _ => fun
  | [d1, d2] => { results := [.lit (.bool false)], args := [d1, d2] }
  | _ => none }
def SeekAnswersWrongFalsely : Prop := seekAnswersRow.holds Tryz.pinned (OpenSpec.ofChange seekAnswersWrong)

/-- 'archipelagolaw29.SeekTowers': WHATEVER THE INPUT: true; the input reads as it did. -/
def seekTowersSpec : ChangeSpec := { name := "seekTowers", fn := fun _ => fun
  | [d1, d2, d3] => { results := [.lit (.bool true)], args := [d1, d2, d3] }
  | _ => none }
def seekTowersRow : OpenClaim := { program := "ytfojmhgomdbpfaagreatdoor", sum := "9550bf7068542731351a94a5dd34c02ff1b1974788b2d3ac4de6b6b65fa97ab9", func := "archipelago/archipelagolaw29.SeekTowers", spec := "seekTowers", unfollowed := true, recurses := true, named := ["math/bits.deBruijn32tab"], plainKeys := false, apart := false, laid := [("math/bits.deBruijn32tab", laid_math_bits_deBruijn32tab)] }
def SeekTowersSaid : Prop := seekTowersRow.holds Tryz.pinned (OpenSpec.ofChange seekTowersSpec)

/-- ITS FALSE NEIGHBOUR: 'it returns false'. Refute it at one input. -/
def seekTowersWrong : ChangeSpec := { name := "seekTowers", fn := fun _ => fun
  | [d1, d2, d3] => { results := [.lit (.bool false)], args := [d1, d2, d3] }
  | _ => none }
def SeekTowersWrongFalsely : Prop := seekTowersRow.holds Tryz.pinned (OpenSpec.ofChange seekTowersWrong)

/-- 'archipelagolaw29.SeekFinds': WHATEVER THE INPUT: true; the input reads as it did. -/
def seekFindsSpec : ChangeSpec := { name := "seekFinds", fn := fun _ => fun
  | [d1, d2] => { results := [.lit (.bool true)], args := [d1, d2] }
  | _ => none }
def seekFindsRow : OpenClaim := { program := "ytfojmhgomdbpfaagreatdoor", sum := "9550bf7068542731351a94a5dd34c02ff1b1974788b2d3ac4de6b6b65fa97ab9", func := "archipelago/archipelagolaw29.SeekFinds", spec := "seekFinds", unfollowed := true, recurses := true, named := ["math/bits.deBruijn32tab"], plainKeys := false, apart := false, laid := [("math/bits.deBruijn32tab", laid_math_bits_deBruijn32tab)] }
def SeekFindsSaid : Prop := seekFindsRow.holds Tryz.pinned (OpenSpec.ofChange seekFindsSpec)

/-- ITS FALSE NEIGHBOUR: 'it returns false'. Refute it at one input. -/
def seekFindsWrong : ChangeSpec := { name := "seekFinds", fn := fun _ => fun
  | [d1, d2] => { results := [.lit (.bool false)], args := [d1, d2] }
  | _ => none }
def SeekFindsWrongFalsely : Prop := seekFindsRow.holds Tryz.pinned (OpenSpec.ofChange seekFindsWrong)

/-- 'archipelagolaw29.SeekHeights': WHATEVER THE INPUT: true; the input reads as it did. -/
def seekHeightsSpec : ChangeSpec := { name := "seekHeights", fn := fun _ => fun
  | [d1, d2, d3] => { results := [.lit (.bool true)], args := [d1, d2, d3] }
  | _ => none }
def seekHeightsRow : OpenClaim := { program := "ytfojmhgomdbpfaagreatdoor", sum := "9550bf7068542731351a94a5dd34c02ff1b1974788b2d3ac4de6b6b65fa97ab9", func := "archipelago/archipelagolaw29.SeekHeights", spec := "seekHeights", unfollowed := true, recurses := true, named := ["math/bits.deBruijn32tab"], plainKeys := false, apart := false, laid := [("math/bits.deBruijn32tab", laid_math_bits_deBruijn32tab)] }
def SeekHeightsSaid : Prop := seekHeightsRow.holds Tryz.pinned (OpenSpec.ofChange seekHeightsSpec)

/-- ITS FALSE NEIGHBOUR: 'it returns false'. Refute it at one input. -/
def seekHeightsWrong : ChangeSpec := { name := "seekHeights", fn := fun _ => fun
  | [d1, d2, d3] => { results := [.lit (.bool false)], args := [d1, d2, d3] }
  | _ => none }
def SeekHeightsWrongFalsely : Prop := seekHeightsRow.holds Tryz.pinned (OpenSpec.ofChange seekHeightsWrong)

/-- 'archipelagolaw29.SeekNothing': WHATEVER THE INPUT: true; the input reads as it did. -/
def seekNothingSpec : ChangeSpec := { name := "seekNothing", fn := fun _ => fun
  | [d1, d2] => { results := [.lit (.bool true)], args := [d1, d2] }
  | _ => none }
def seekNothingRow : OpenClaim := { program := "ytfojmhgomdbpfaagreatdoor", sum := "9550bf7068542731351a94a5dd34c02ff1b1974788b2d3ac4de6b6b65fa97ab9", func := "archipelago/archipelagolaw29.SeekNothing", spec := "seekNothing", unfollowed := true, recurses := true, named := ["math/bits.deBruijn32tab"], plainKeys := false, apart := false, laid := [("math/bits.deBruijn32tab", laid_math_bits_deBruijn32tab)] }
def SeekNothingSaid : Prop := seekNothingRow.holds Tryz.pinned (OpenSpec.ofChange seekNothingSpec)

/-- ITS FALSE NEIGHBOUR: 'it returns false'. Refute it at one input. -/
def seekNothingWrong : ChangeSpec := { name := "seekNothing", fn := fun _ => fun
  | [d1, d2] => { results := [.lit (.bool false)], args := [d1, d2] }
  | _ => none }
def SeekNothingWrongFalsely : Prop := seekNothingRow.holds Tryz.pinned (OpenSpec.ofChange seekNothingWrong)

/-- 'archipelagolaw29.SeekGoes': WHATEVER THE INPUT: true; the input reads as it did. -/
def seekGoesSpec : ChangeSpec := { name := "seekGoes", fn := fun _ => fun
  | [d1, d2, d3] => { results := [.lit (.bool true)], args := [d1, d2, d3] }
  | _ => none }
def seekGoesRow : OpenClaim := { program := "ytfojmhgomdbpfaagreatdoor", sum := "9550bf7068542731351a94a5dd34c02ff1b1974788b2d3ac4de6b6b65fa97ab9", func := "archipelago/archipelagolaw29.SeekGoes", spec := "seekGoes", unfollowed := true, recurses := true, named := ["math/bits.deBruijn32tab"], plainKeys := false, apart := false, laid := [("math/bits.deBruijn32tab", laid_math_bits_deBruijn32tab)] }
def SeekGoesSaid : Prop := seekGoesRow.holds Tryz.pinned (OpenSpec.ofChange seekGoesSpec)

/-- ITS FALSE NEIGHBOUR: 'it returns false'. Refute it at one input. -/
def seekGoesWrong : ChangeSpec := { name := "seekGoes", fn := fun _ => fun
  | [d1, d2, d3] => { results := [.lit (.bool false)], args := [d1, d2, d3] }
  | _ => none }
def SeekGoesWrongFalsely : Prop := seekGoesRow.holds Tryz.pinned (OpenSpec.ofChange seekGoesWrong)

/- THE SECOND FORM. 'bulk': how many values and letters a reading holds, each counted each time it is reached (what is shared counts as often as it is met; a slice's spare places count too). A statement '..UptoSaid' is the law's where the arguments, and the package variables that the reading takes, are together of bulk at most 1048576: NARROWER than '..Said'. Prove '..Said' where nothing that the law and all that it calls make is longer than what came in: it says more and counts as full. Else prove '..UptoSaid'. A law counts once. -/
mutual
def uptoBulk {H : Type} : DataW H → Nat
  | .lit (.string bytes) => bytes.length + 1
  | .lit _ => 1
  | .nil => 1
  | .ptr d => uptoBulk d + 1
  | .slice elems spare => uptoBulkAll elems + uptoBulkAll spare + 1
  | .agg parts => uptoBulkAll parts + 1
  | .iface _ d => uptoBulk d + 1
  | .map entries => uptoBulkEntries entries + 1
  | .held _ => 1
def uptoBulkAll {H : Type} : List (DataW H) → Nat
  | [] => 0
  | d :: r => uptoBulk d + uptoBulkAll r
def uptoBulkEntries {H : Type} : List (Lit × DataW H) → Nat
  | [] => 0
  | x :: r => uptoBulkEntry x + uptoBulkEntries r
def uptoBulkEntry {H : Type} : Lit × DataW H → Nat
  | (.string bytes, d) => bytes.length + uptoBulk d + 1
  | (_, d) => uptoBulk d + 1
 end
def uptoSmall : (H : Type) → List (DataW H) → Bool := fun _ ds => decide (uptoBulkAll ds ≤ 1048576)
def OpenSpec.upto (s : _root_.Go.ChangeSpec) : _root_.Go.OpenSpec := { _root_.Go.OpenSpec.ofChange s with cond := some uptoSmall }

/-- 'archipelagolaw29.SeekAnswers', WHERE WHAT IT READS IS OF BULK AT MOST 1048576: true; the input reads as it did. -/
def seekAnswersUptoRow : OpenClaim := { program := "ytfojmhgomdbpfaagreatdoor", sum := "9550bf7068542731351a94a5dd34c02ff1b1974788b2d3ac4de6b6b65fa97ab9", func := "archipelago/archipelagolaw29.SeekAnswers", spec := "seekAnswers", unfollowed := true, recurses := true, named := ["math/bits.deBruijn32tab"], plainKeys := false, apart := false, laid := [("math/bits.deBruijn32tab", laid_math_bits_deBruijn32tab)], narrowed := true }
def SeekAnswersUptoSaid : Prop := seekAnswersUptoRow.holds Tryz.pinned (OpenSpec.upto seekAnswersSpec)

/-- 'archipelagolaw29.SeekTowers', WHERE WHAT IT READS IS OF BULK AT MOST 1048576: true; the input reads as it did. -/
def seekTowersUptoRow : OpenClaim := { program := "ytfojmhgomdbpfaagreatdoor", sum := "9550bf7068542731351a94a5dd34c02ff1b1974788b2d3ac4de6b6b65fa97ab9", func := "archipelago/archipelagolaw29.SeekTowers", spec := "seekTowers", unfollowed := true, recurses := true, named := ["math/bits.deBruijn32tab"], plainKeys := false, apart := false, laid := [("math/bits.deBruijn32tab", laid_math_bits_deBruijn32tab)], narrowed := true }
def SeekTowersUptoSaid : Prop := seekTowersUptoRow.holds Tryz.pinned (OpenSpec.upto seekTowersSpec)

/-- 'archipelagolaw29.SeekFinds', WHERE WHAT IT READS IS OF BULK AT MOST 1048576: true; the input reads as it did. -/
def seekFindsUptoRow : OpenClaim := { program := "ytfojmhgomdbpfaagreatdoor", sum := "9550bf7068542731351a94a5dd34c02ff1b1974788b2d3ac4de6b6b65fa97ab9", func := "archipelago/archipelagolaw29.SeekFinds", spec := "seekFinds", unfollowed := true, recurses := true, named := ["math/bits.deBruijn32tab"], plainKeys := false, apart := false, laid := [("math/bits.deBruijn32tab", laid_math_bits_deBruijn32tab)], narrowed := true }
def SeekFindsUptoSaid : Prop := seekFindsUptoRow.holds Tryz.pinned (OpenSpec.upto seekFindsSpec)

/-- 'archipelagolaw29.SeekHeights', WHERE WHAT IT READS IS OF BULK AT MOST 1048576: true; the input reads as it did. -/
def seekHeightsUptoRow : OpenClaim := { program := "ytfojmhgomdbpfaagreatdoor", sum := "9550bf7068542731351a94a5dd34c02ff1b1974788b2d3ac4de6b6b65fa97ab9", func := "archipelago/archipelagolaw29.SeekHeights", spec := "seekHeights", unfollowed := true, recurses := true, named := ["math/bits.deBruijn32tab"], plainKeys := false, apart := false, laid := [("math/bits.deBruijn32tab", laid_math_bits_deBruijn32tab)], narrowed := true }
def SeekHeightsUptoSaid : Prop := seekHeightsUptoRow.holds Tryz.pinned (OpenSpec.upto seekHeightsSpec)

/-- 'archipelagolaw29.SeekNothing', WHERE WHAT IT READS IS OF BULK AT MOST 1048576: true; the input reads as it did. -/
def seekNothingUptoRow : OpenClaim := { program := "ytfojmhgomdbpfaagreatdoor", sum := "9550bf7068542731351a94a5dd34c02ff1b1974788b2d3ac4de6b6b65fa97ab9", func := "archipelago/archipelagolaw29.SeekNothing", spec := "seekNothing", unfollowed := true, recurses := true, named := ["math/bits.deBruijn32tab"], plainKeys := false, apart := false, laid := [("math/bits.deBruijn32tab", laid_math_bits_deBruijn32tab)], narrowed := true }
def SeekNothingUptoSaid : Prop := seekNothingUptoRow.holds Tryz.pinned (OpenSpec.upto seekNothingSpec)

/-- 'archipelagolaw29.SeekGoes', WHERE WHAT IT READS IS OF BULK AT MOST 1048576: true; the input reads as it did. -/
def seekGoesUptoRow : OpenClaim := { program := "ytfojmhgomdbpfaagreatdoor", sum := "9550bf7068542731351a94a5dd34c02ff1b1974788b2d3ac4de6b6b65fa97ab9", func := "archipelago/archipelagolaw29.SeekGoes", spec := "seekGoes", unfollowed := true, recurses := true, named := ["math/bits.deBruijn32tab"], plainKeys := false, apart := false, laid := [("math/bits.deBruijn32tab", laid_math_bits_deBruijn32tab)], narrowed := true }
def SeekGoesUptoSaid : Prop := seekGoesUptoRow.holds Tryz.pinned (OpenSpec.upto seekGoesSpec)

end Rows
end Go.Proofs.YtfojmhgomdbpfaaGreatDoor
