/-
  No cell of these rows narrows 'for every input' (looked for: loops, veiled, ifaces, maps, wideKeys, modest, calm, conditions, laid).
  DERIVED. THE GIVEN ROWS OF THIS SEAT. 3 by the template 'for every input the law returns true; each argument reads behind the call as it read before'; 0 by the template 'total and deterministic' (their statements: YtfciahckbbjmkaaTotals.lean).
  GIVEN WITH THE SEED: the statements are not yours to turn. If you find one false, say at which input.
  Laid BY PROGRAM, IN A SANDBOX (cutbox-rows.mjs): the forced cells as the released guide's own fill.sh prints them over the translation eee7919e08e4d11d… (all of the seat's roots in one cut). By AI agents, Wed Nov 11 2026. No macro, syntax, notation, axiom, sorry.
-/
import Derived.Test.YtfciahckbbjmkaaChecked
import GoSem.Claim
import GoSem.ClaimJoined
import GoSem.ClaimMapViews
import Derived.JoinedTies
import Derived.KernelRfl
namespace Go.Proofs.Ytfciahckbbjmkaa
/- THE CELL 'sum', in the pinned program and in every row, IS THE sha256 OF THE DUMP (.gsa) THAT YtfciahckbbjmkaaProg.lean LOADS. Nothing in Lean hashes anything: it is a label: what it is worth is what the hold of that sum in a sandbox is worth. -/
noncomputable def Try.pinned : Pinned := { name := "ytfciahckbbjmkaa", sum := "eee7919e08e4d11dfa3420ab074d9f7e014fe9abf6ff38c04f6724fc4d42ce35", checked := Try.checked }
namespace Rows
def none {H : Type} : Left H := { results := [], args := [] }

/-- 'archipelagolaw27.SayAnswers': WHATEVER THE INPUT: true; the input reads as it did. -/
def sayAnswersSpec : ChangeSpec := { name := "sayAnswers", fn := fun _ => fun
  | [d1, d2] => { results := [.lit (.bool true)], args := [d1, d2] }
  | _ => none }
def sayAnswersRow : OpenClaim := { program := "ytfciahckbbjmkaa", sum := "eee7919e08e4d11dfa3420ab074d9f7e014fe9abf6ff38c04f6724fc4d42ce35", func := "archipelago/archipelagolaw27.SayAnswers", spec := "sayAnswers", unfollowed := true, recurses := true, apart := false }
def SayAnswersSaid : Prop := sayAnswersRow.holds Try.pinned (OpenSpec.ofChange sayAnswersSpec)

/-- ITS FALSE NEIGHBOUR: 'it returns false'. Refute it at one input. -/
def sayAnswersWrong : ChangeSpec := { name := "sayAnswers", fn := fun _ => fun
  | [d1, d2] => { results := [.lit (.bool false)], args := [d1, d2] }
  | _ => none }
def SayAnswersWrongFalsely : Prop := sayAnswersRow.holds Try.pinned (OpenSpec.ofChange sayAnswersWrong)

/-- 'archipelagolaw27.SayBytes': WHATEVER THE INPUT: true; the input reads as it did. -/
def sayBytesSpec : ChangeSpec := { name := "sayBytes", fn := fun _ => fun
  | [d1, d2, d3] => { results := [.lit (.bool true)], args := [d1, d2, d3] }
  | _ => none }
def sayBytesRow : OpenClaim := { program := "ytfciahckbbjmkaa", sum := "eee7919e08e4d11dfa3420ab074d9f7e014fe9abf6ff38c04f6724fc4d42ce35", func := "archipelago/archipelagolaw27.SayBytes", spec := "sayBytes", unfollowed := true, recurses := true, apart := false }
def SayBytesSaid : Prop := sayBytesRow.holds Try.pinned (OpenSpec.ofChange sayBytesSpec)

/-- ITS FALSE NEIGHBOUR: 'it returns false'. Refute it at one input. -/
def sayBytesWrong : ChangeSpec := { name := "sayBytes", fn := fun _ => fun
  | [d1, d2, d3] => { results := [.lit (.bool false)], args := [d1, d2, d3] }
  | _ => none }
def SayBytesWrongFalsely : Prop := sayBytesRow.holds Try.pinned (OpenSpec.ofChange sayBytesWrong)

/-- 'archipelagolaw27.SayClasses': WHATEVER THE INPUT: true; the input reads as it did. -/
def sayClassesSpec : ChangeSpec := { name := "sayClasses", fn := fun _ => fun
  | [d1, d2] => { results := [.lit (.bool true)], args := [d1, d2] }
  | _ => none }
def sayClassesRow : OpenClaim := { program := "ytfciahckbbjmkaa", sum := "eee7919e08e4d11dfa3420ab074d9f7e014fe9abf6ff38c04f6724fc4d42ce35", func := "archipelago/archipelagolaw27.SayClasses", spec := "sayClasses", unfollowed := true, recurses := true, apart := false }
def SayClassesSaid : Prop := sayClassesRow.holds Try.pinned (OpenSpec.ofChange sayClassesSpec)

/-- ITS FALSE NEIGHBOUR: 'it returns false'. Refute it at one input. -/
def sayClassesWrong : ChangeSpec := { name := "sayClasses", fn := fun _ => fun
  | [d1, d2] => { results := [.lit (.bool false)], args := [d1, d2] }
  | _ => none }
def SayClassesWrongFalsely : Prop := sayClassesRow.holds Try.pinned (OpenSpec.ofChange sayClassesWrong)

/- THE SECOND FORM. 'bulk': how many values and letters a reading holds, each counted each time it is reached (what is shared counts as often as it is met; a slice's spare places count too). A statement '..UptoSaid' is the law's where the arguments, and the package variables that the reading takes, are together of bulk at most 1048576: NARROWER than '..Said'. Prove '..Said' where nothing that the law and all that it calls make is longer than what came in: it says more and counts as full. Else prove '..UptoSaid'. A law counts once. -/
mutual
def uptoBulk {H : Type} : DataW H → Nat
  | .lit (.string bytes) => bytes.length + 1
  | .lit _ => 1
  | .nil => 1
  | .ptr d => uptoBulk d + 1
  | .slice elems spare => uptoBulkAll elems + uptoBulkAll spare + 1
  | .agg parts => uptoBulkAll parts + 1
  | .iface _ d => uptoBulk d + 1
  | .map entries => uptoBulkEntries entries + 1
  | .held _ => 1
def uptoBulkAll {H : Type} : List (DataW H) → Nat
  | [] => 0
  | d :: r => uptoBulk d + uptoBulkAll r
def uptoBulkEntries {H : Type} : List (Lit × DataW H) → Nat
  | [] => 0
  | x :: r => uptoBulkEntry x + uptoBulkEntries r
def uptoBulkEntry {H : Type} : Lit × DataW H → Nat
  | (.string bytes, d) => bytes.length + uptoBulk d + 1
  | (_, d) => uptoBulk d + 1
 end
def uptoSmall : (H : Type) → List (DataW H) → Bool := fun _ ds => decide (uptoBulkAll ds ≤ 1048576)
def OpenSpec.upto (s : _root_.Go.ChangeSpec) : _root_.Go.OpenSpec := { _root_.Go.OpenSpec.ofChange s with cond := some uptoSmall }

/-- 'archipelagolaw27.SayAnswers', WHERE WHAT IT READS IS OF BULK AT MOST 1048576: true; the input reads as it did. -/
def sayAnswersUptoRow : OpenClaim := { program := "ytfciahckbbjmkaa", sum := "eee7919e08e4d11dfa3420ab074d9f7e014fe9abf6ff38c04f6724fc4d42ce35", func := "archipelago/archipelagolaw27.SayAnswers", spec := "sayAnswers", unfollowed := true, recurses := true, apart := false, narrowed := true }
def SayAnswersUptoSaid : Prop := sayAnswersUptoRow.holds Try.pinned (OpenSpec.upto sayAnswersSpec)

/-- 'archipelagolaw27.SayBytes', WHERE WHAT IT READS IS OF BULK AT MOST 1048576: true; the input reads as it did. -/
def sayBytesUptoRow : OpenClaim := { program := "ytfciahckbbjmkaa", sum := "eee7919e08e4d11dfa3420ab074d9f7e014fe9abf6ff38c04f6724fc4d42ce35", func := "archipelago/archipelagolaw27.SayBytes", spec := "sayBytes", unfollowed := true, recurses := true, apart := false, narrowed := true }
def SayBytesUptoSaid : Prop := sayBytesUptoRow.holds Try.pinned (OpenSpec.upto sayBytesSpec)

/-- 'archipelagolaw27.SayClasses', WHERE WHAT IT READS IS OF BULK AT MOST 1048576: true; the input reads as it did. -/
def sayClassesUptoRow : OpenClaim := { program := "ytfciahckbbjmkaa", sum := "eee7919e08e4d11dfa3420ab074d9f7e014fe9abf6ff38c04f6724fc4d42ce35", func := "archipelago/archipelagolaw27.SayClasses", spec := "sayClasses", unfollowed := true, recurses := true, apart := false, narrowed := true }
def SayClassesUptoSaid : Prop := sayClassesUptoRow.holds Try.pinned (OpenSpec.upto sayClassesSpec)

end Rows
end Go.Proofs.Ytfciahckbbjmkaa
