/-
  No cell of these rows narrows 'for every input' (looked for: loops, veiled, ifaces, maps, wideKeys, modest, calm, conditions, laid).
  DERIVED. THE GIVEN ROWS OF THIS SEAT. 8 by the template 'for every input the law returns true; each argument reads behind the call as it read before'; 0 by the template 'total and deterministic' (their statements: YtacapnnkndaonaaTotals.lean).
  GIVEN WITH THE SEED: the statements are not yours to turn. If you find one false, say at which input.
  Laid BY PROGRAM, IN A SANDBOX (cutbox-rows.mjs): the forced cells as the released guide's own fill.sh prints them over the translation 8f25ebeb4143c3b5… (all of the seat's roots in one cut). By AI agents, Wed Nov 11 2026. No macro, syntax, notation, axiom, sorry.
-/
import Derived.Test.YtacapnnkndaonaaChecked
import GoSem.Claim
import GoSem.ClaimJoined
import GoSem.ClaimMapViews
import Derived.JoinedTies
import Derived.KernelRfl
namespace Go.Proofs.Ytacapnnkndaonaa
/- THE CELL 'sum', in the pinned program and in every row, IS THE sha256 OF THE DUMP (.gsa) THAT YtacapnnkndaonaaProg.lean LOADS. Nothing in Lean hashes anything: it is a label: what it is worth is what the hold of that sum in a sandbox is worth. -/
noncomputable def Try.pinned : Pinned := { name := "ytacapnnkndaonaa", sum := "8f25ebeb4143c3b5c8c15ac6fbc01b31da45064238941e2c078d08fb33694ba7", checked := Try.checked }
namespace Rows
def none {H : Type} : Left H := { results := [], args := [] }

/-- 'archipelagolaw12.TableAnswers': WHATEVER THE INPUT: true; the input reads as it did. -/
def tableAnswersSpec : ChangeSpec := { name := "tableAnswers", fn := fun _ => fun
  | [d1, d2, d3] => { results := [.lit (.bool true)], args := [d1, d2, d3] }
  | _ => none }
def tableAnswersRow : OpenClaim := { program := "ytacapnnkndaonaa", sum := "8f25ebeb4143c3b5c8c15ac6fbc01b31da45064238941e2c078d08fb33694ba7", func := "archipelago/archipelagolaw12.TableAnswers", spec := "tableAnswers", unfollowed := true, recurses := true, apart := false }
def TableAnswersSaid : Prop := tableAnswersRow.holds Try.pinned (OpenSpec.ofChange tableAnswersSpec)

/-- ITS FALSE NEIGHBOUR: 'it returns false'. Refute it at one input. -/
def tableAnswersWrong : ChangeSpec := { name := "tableAnswers", fn := fun _ => fun
  | [d1, d2, d3] => { results := [.lit (.bool false)], args := [d1, d2, d3] }
  | _ => none }
def TableAnswersWrongFalsely : Prop := tableAnswersRow.holds Try.pinned (OpenSpec.ofChange tableAnswersWrong)

/-- 'archipelagolaw12.TableSet': WHATEVER THE INPUT: true; the input reads as it did. -/
def tableSetSpec : ChangeSpec := { name := "tableSet", fn := fun _ => fun
  | [d1, d2, d3] => { results := [.lit (.bool true)], args := [d1, d2, d3] }
  | _ => none }
def tableSetRow : OpenClaim := { program := "ytacapnnkndaonaa", sum := "8f25ebeb4143c3b5c8c15ac6fbc01b31da45064238941e2c078d08fb33694ba7", func := "archipelago/archipelagolaw12.TableSet", spec := "tableSet", unfollowed := true, recurses := true, apart := false }
def TableSetSaid : Prop := tableSetRow.holds Try.pinned (OpenSpec.ofChange tableSetSpec)

/-- ITS FALSE NEIGHBOUR: 'it returns false'. Refute it at one input. -/
def tableSetWrong : ChangeSpec := { name := "tableSet", fn := fun _ => fun
  | [d1, d2, d3] => { results := [.lit (.bool false)], args := [d1, d2, d3] }
  | _ => none }
def TableSetWrongFalsely : Prop := tableSetRow.holds Try.pinned (OpenSpec.ofChange tableSetWrong)

/-- 'archipelagolaw12.TableNear': WHATEVER THE INPUT: true; the input reads as it did. -/
def tableNearSpec : ChangeSpec := { name := "tableNear", fn := fun _ => fun
  | [d1, d2, d3] => { results := [.lit (.bool true)], args := [d1, d2, d3] }
  | _ => none }
def tableNearRow : OpenClaim := { program := "ytacapnnkndaonaa", sum := "8f25ebeb4143c3b5c8c15ac6fbc01b31da45064238941e2c078d08fb33694ba7", func := "archipelago/archipelagolaw12.TableNear", spec := "tableNear", unfollowed := true, recurses := true, apart := false }
def TableNearSaid : Prop := tableNearRow.holds Try.pinned (OpenSpec.ofChange tableNearSpec)

/-- ITS FALSE NEIGHBOUR: 'it returns false'. Refute it at one input. -/
def tableNearWrong : ChangeSpec := { name := "tableNear", fn := fun _ => fun
  | [d1, d2, d3] => { results := [.lit (.bool false)], args := [d1, d2, d3] }
  | _ => none }
def TableNearWrongFalsely : Prop := tableNearRow.holds Try.pinned (OpenSpec.ofChange tableNearWrong)

/-- 'archipelagolaw18.TourAnswers': WHATEVER THE INPUT: true; the input reads as it did. -/
def tourAnswersSpec : ChangeSpec := { name := "tourAnswers", fn := fun _ => fun
  | [d1, d2, d3] => { results := [.lit (.bool true)], args := [d1, d2, d3] }
  | _ => none }
def tourAnswersRow : OpenClaim := { program := "ytacapnnkndaonaa", sum := "8f25ebeb4143c3b5c8c15ac6fbc01b31da45064238941e2c078d08fb33694ba7", func := "archipelago/archipelagolaw18.TourAnswers", spec := "tourAnswers", unfollowed := true, recurses := true, apart := false }
def TourAnswersSaid : Prop := tourAnswersRow.holds Try.pinned (OpenSpec.ofChange tourAnswersSpec)

/-- ITS FALSE NEIGHBOUR: 'it returns false'. Refute it at one input. -/
def tourAnswersWrong : ChangeSpec := { name := "tourAnswers", fn := fun _ => fun
  | [d1, d2, d3] => { results := [.lit (.bool false)], args := [d1, d2, d3] }
  | _ => none }
def TourAnswersWrongFalsely : Prop := tourAnswersRow.holds Try.pinned (OpenSpec.ofChange tourAnswersWrong)

/-- 'archipelagolaw18.TourTokens': WHATEVER THE INPUT: true; the input reads as it did. -/
def tourTokensSpec : ChangeSpec := { name := "tourTokens", fn := fun _ => fun
  | [d1, d2, d3] => { results := [.lit (.bool true)], args := [d1, d2, d3] }
  | _ => none }
def tourTokensRow : OpenClaim := { program := "ytacapnnkndaonaa", sum := "8f25ebeb4143c3b5c8c15ac6fbc01b31da45064238941e2c078d08fb33694ba7", func := "archipelago/archipelagolaw18.TourTokens", spec := "tourTokens", unfollowed := true, recurses := true, apart := false }
def TourTokensSaid : Prop := tourTokensRow.holds Try.pinned (OpenSpec.ofChange tourTokensSpec)

/-- ITS FALSE NEIGHBOUR: 'it returns false'. Refute it at one input. -/
def tourTokensWrong : ChangeSpec := { name := "tourTokens", fn := fun _ => fun
  | [d1, d2, d3] => { results := [.lit (.bool false)], args := [d1, d2, d3] }
  | _ => none }
def TourTokensWrongFalsely : Prop := tourTokensRow.holds Try.pinned (OpenSpec.ofChange tourTokensWrong)

/-- 'archipelagolaw18.TourBack': WHATEVER THE INPUT: true; the input reads as it did. -/
def tourBackSpec : ChangeSpec := { name := "tourBack", fn := fun _ => fun
  | [d1, d2, d3] => { results := [.lit (.bool true)], args := [d1, d2, d3] }
  | _ => none }
def tourBackRow : OpenClaim := { program := "ytacapnnkndaonaa", sum := "8f25ebeb4143c3b5c8c15ac6fbc01b31da45064238941e2c078d08fb33694ba7", func := "archipelago/archipelagolaw18.TourBack", spec := "tourBack", unfollowed := true, recurses := true, apart := false }
def TourBackSaid : Prop := tourBackRow.holds Try.pinned (OpenSpec.ofChange tourBackSpec)

/-- ITS FALSE NEIGHBOUR: 'it returns false'. Refute it at one input. -/
def tourBackWrong : ChangeSpec := { name := "tourBack", fn := fun _ => fun
  | [d1, d2, d3] => { results := [.lit (.bool false)], args := [d1, d2, d3] }
  | _ => none }
def TourBackWrongFalsely : Prop := tourBackRow.holds Try.pinned (OpenSpec.ofChange tourBackWrong)

/-- 'archipelagolaw18.TourArcs': WHATEVER THE INPUT: true; the input reads as it did. -/
def tourArcsSpec : ChangeSpec := { name := "tourArcs", fn := fun _ => fun
  | [d1, d2] => { results := [.lit (.bool true)], args := [d1, d2] }
  | _ => none }
def tourArcsRow : OpenClaim := { program := "ytacapnnkndaonaa", sum := "8f25ebeb4143c3b5c8c15ac6fbc01b31da45064238941e2c078d08fb33694ba7", func := "archipelago/archipelagolaw18.TourArcs", spec := "tourArcs", unfollowed := true, recurses := true, apart := false }
def TourArcsSaid : Prop := tourArcsRow.holds Try.pinned (OpenSpec.ofChange tourArcsSpec)

/-- ITS FALSE NEIGHBOUR: 'it returns false'. Refute it at one input. -/
def tourArcsWrong : ChangeSpec := { name := "tourArcs", fn := fun _ => fun
  | [d1, d2] => { results := [.lit (.bool false)], args := [d1, d2] }
  | _ => none }
def TourArcsWrongFalsely : Prop := tourArcsRow.holds Try.pinned (OpenSpec.ofChange tourArcsWrong)

/-- 'archipelagolaw18.TourCuts': WHATEVER THE INPUT: true; the input reads as it did. -/
def tourCutsSpec : ChangeSpec := { name := "tourCuts", fn := fun _ => fun
  | [d1, d2, d3] => { results := [.lit (.bool true)], args := [d1, d2, d3] }
  | _ => none }
def tourCutsRow : OpenClaim := { program := "ytacapnnkndaonaa", sum := "8f25ebeb4143c3b5c8c15ac6fbc01b31da45064238941e2c078d08fb33694ba7", func := "archipelago/archipelagolaw18.TourCuts", spec := "tourCuts", unfollowed := true, recurses := true, apart := false }
def TourCutsSaid : Prop := tourCutsRow.holds Try.pinned (OpenSpec.ofChange tourCutsSpec)

/-- ITS FALSE NEIGHBOUR: 'it returns false'. Refute it at one input. -/
def tourCutsWrong : ChangeSpec := { name := "tourCuts", fn := fun _ => fun
  | [d1, d2, d3] => { results := [.lit (.bool false)], args := [d1, d2, d3] }
  | _ => none }
def TourCutsWrongFalsely : Prop := tourCutsRow.holds Try.pinned (OpenSpec.ofChange tourCutsWrong)

/- THE SECOND FORM. 'bulk': how many values and letters a reading holds, each counted each time it is reached (what is shared counts as often as it is met; a slice's spare places count too). A statement '..UptoSaid' is the law's where the arguments, and the package variables that the reading takes, are together of bulk at most 1048576: NARROWER than '..Said'. Prove '..Said' where nothing that the law and all that it calls make is longer than what came in: it says more and counts as full. Else prove '..UptoSaid'. A law counts once. -/
mutual
def uptoBulk {H : Type} : DataW H → Nat
  | .lit (.string bytes) => bytes.length + 1
  | .lit _ => 1
  | .nil => 1
  | .ptr d => uptoBulk d + 1
  | .slice elems spare => uptoBulkAll elems + uptoBulkAll spare + 1
  | .agg parts => uptoBulkAll parts + 1
  | .iface _ d => uptoBulk d + 1
  | .map entries => uptoBulkEntries entries + 1
  | .held _ => 1
def uptoBulkAll {H : Type} : List (DataW H) → Nat
  | [] => 0
  | d :: r => uptoBulk d + uptoBulkAll r
def uptoBulkEntries {H : Type} : List (Lit × DataW H) → Nat
  | [] => 0
  | x :: r => uptoBulkEntry x + uptoBulkEntries r
def uptoBulkEntry {H : Type} : Lit × DataW H → Nat
  | (.string bytes, d) => bytes.length + uptoBulk d + 1
  | (_, d) => uptoBulk d + 1
 end
def uptoSmall : (H : Type) → List (DataW H) → Bool := fun _ ds => decide (uptoBulkAll ds ≤ 1048576)
def OpenSpec.upto (s : _root_.Go.ChangeSpec) : _root_.Go.OpenSpec := { _root_.Go.OpenSpec.ofChange s with cond := some uptoSmall }

/-- 'archipelagolaw12.TableAnswers', WHERE WHAT IT READS IS OF BULK AT MOST 1048576: true; the input reads as it did. -/
def tableAnswersUptoRow : OpenClaim := { program := "ytacapnnkndaonaa", sum := "8f25ebeb4143c3b5c8c15ac6fbc01b31da45064238941e2c078d08fb33694ba7", func := "archipelago/archipelagolaw12.TableAnswers", spec := "tableAnswers", unfollowed := true, recurses := true, apart := false, narrowed := true }
def TableAnswersUptoSaid : Prop := tableAnswersUptoRow.holds Try.pinned (OpenSpec.upto tableAnswersSpec)

/-- 'archipelagolaw12.TableSet', WHERE WHAT IT READS IS OF BULK AT MOST 1048576: true; the input reads as it did. -/
def tableSetUptoRow : OpenClaim := { program := "ytacapnnkndaonaa", sum := "8f25ebeb4143c3b5c8c15ac6fbc01b31da45064238941e2c078d08fb33694ba7", func := "archipelago/archipelagolaw12.TableSet", spec := "tableSet", unfollowed := true, recurses := true, apart := false, narrowed := true }
def TableSetUptoSaid : Prop := tableSetUptoRow.holds Try.pinned (OpenSpec.upto tableSetSpec)

/-- 'archipelagolaw12.TableNear', WHERE WHAT IT READS IS OF BULK AT MOST 1048576: true; the input reads as it did. -/
def tableNearUptoRow : OpenClaim := { program := "ytacapnnkndaonaa", sum := "8f25ebeb4143c3b5c8c15ac6fbc01b31da45064238941e2c078d08fb33694ba7", func := "archipelago/archipelagolaw12.TableNear", spec := "tableNear", unfollowed := true, recurses := true, apart := false, narrowed := true }
def TableNearUptoSaid : Prop := tableNearUptoRow.holds Try.pinned (OpenSpec.upto tableNearSpec)

/-- 'archipelagolaw18.TourAnswers', WHERE WHAT IT READS IS OF BULK AT MOST 1048576: true; the input reads as it did. -/
def tourAnswersUptoRow : OpenClaim := { program := "ytacapnnkndaonaa", sum := "8f25ebeb4143c3b5c8c15ac6fbc01b31da45064238941e2c078d08fb33694ba7", func := "archipelago/archipelagolaw18.TourAnswers", spec := "tourAnswers", unfollowed := true, recurses := true, apart := false, narrowed := true }
def TourAnswersUptoSaid : Prop := tourAnswersUptoRow.holds Try.pinned (OpenSpec.upto tourAnswersSpec)

/-- 'archipelagolaw18.TourTokens', WHERE WHAT IT READS IS OF BULK AT MOST 1048576: true; the input reads as it did. -/
def tourTokensUptoRow : OpenClaim := { program := "ytacapnnkndaonaa", sum := "8f25ebeb4143c3b5c8c15ac6fbc01b31da45064238941e2c078d08fb33694ba7", func := "archipelago/archipelagolaw18.TourTokens", spec := "tourTokens", unfollowed := true, recurses := true, apart := false, narrowed := true }
def TourTokensUptoSaid : Prop := tourTokensUptoRow.holds Try.pinned (OpenSpec.upto tourTokensSpec)

/-- 'archipelagolaw18.TourBack', WHERE WHAT IT READS IS OF BULK AT MOST 1048576: true; the input reads as it did. -/
def tourBackUptoRow : OpenClaim := { program := "ytacapnnkndaonaa", sum := "8f25ebeb4143c3b5c8c15ac6fbc01b31da45064238941e2c078d08fb33694ba7", func := "archipelago/archipelagolaw18.TourBack", spec := "tourBack", unfollowed := true, recurses := true, apart := false, narrowed := true }
def TourBackUptoSaid : Prop := tourBackUptoRow.holds Try.pinned (OpenSpec.upto tourBackSpec)

/-- 'archipelagolaw18.TourArcs', WHERE WHAT IT READS IS OF BULK AT MOST 1048576: true; the input reads as it did. -/
def tourArcsUptoRow : OpenClaim := { program := "ytacapnnkndaonaa", sum := "8f25ebeb4143c3b5c8c15ac6fbc01b31da45064238941e2c078d08fb33694ba7", func := "archipelago/archipelagolaw18.TourArcs", spec := "tourArcs", unfollowed := true, recurses := true, apart := false, narrowed := true }
def TourArcsUptoSaid : Prop := tourArcsUptoRow.holds Try.pinned (OpenSpec.upto tourArcsSpec)

/-- 'archipelagolaw18.TourCuts', WHERE WHAT IT READS IS OF BULK AT MOST 1048576: true; the input reads as it did. -/
def tourCutsUptoRow : OpenClaim := { program := "ytacapnnkndaonaa", sum := "8f25ebeb4143c3b5c8c15ac6fbc01b31da45064238941e2c078d08fb33694ba7", func := "archipelago/archipelagolaw18.TourCuts", spec := "tourCuts", unfollowed := true, recurses := true, apart := false, narrowed := true }
def TourCutsUptoSaid : Prop := tourCutsUptoRow.holds Try.pinned (OpenSpec.upto tourCutsSpec)

end Rows
end Go.Proofs.Ytacapnnkndaonaa
