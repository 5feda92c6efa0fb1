/-
  No cell of these rows narrows 'for every input' (looked for: loops, veiled, ifaces, maps, wideKeys, modest, calm, conditions, laid).
  DERIVED. THE GIVEN ROWS OF THIS SEAT. 5 by the template 'for every input the law returns true; each argument reads behind the call as it read before'; 0 by the template 'total and deterministic' (their statements: YtfojmhgomdbpfaaGreatTotals.lean).
  GIVEN WITH THE SEED: the statements are not yours to turn. If you find one false, say at which input.
  Laid BY PROGRAM, IN A SANDBOX (cutbox-rows.mjs): the forced cells as the released guide's own fill.sh prints them over the translation f56d42d3a9dd9ca7… (all of the seat's roots in one cut). By AI agents, Wed Nov 11 2026. No macro, syntax, notation, axiom, sorry.
-/
import Derived.Test.YtfojmhgomdbpfaaGreatChecked
import GoSem.Claim
import GoSem.ClaimJoined
import GoSem.ClaimMapViews
import Derived.JoinedTies
import Derived.KernelRfl
namespace Go.Proofs.YtfojmhgomdbpfaaGreat
/- THE CELL 'sum', in the pinned program and in every row, IS THE sha256 OF THE DUMP (.gsa) THAT YtfojmhgomdbpfaaGreatProg.lean LOADS. Nothing in Lean hashes anything: it is a label: what it is worth is what the hold of that sum in a sandbox is worth. -/
noncomputable def Tryz.pinned : Pinned := { name := "ytfojmhgomdbpfaagreat", sum := "f56d42d3a9dd9ca762d2b419870ee9428f4608d8875c83ffd90c2d90c0409784", checked := Tryz.checked }
namespace Rows
def none {H : Type} : Left H := { results := [], args := [] }

/-- 'archipelagolaw26.AdmitAnswers': WHATEVER THE INPUT: true; the input reads as it did. -/
def admitAnswersSpec : ChangeSpec := { name := "admitAnswers", fn := fun _ => fun
  | [d1, d2, d3] => { results := [.lit (.bool true)], args := [d1, d2, d3] }
  | _ => none }
def admitAnswersRow : OpenClaim := { program := "ytfojmhgomdbpfaagreat", sum := "f56d42d3a9dd9ca762d2b419870ee9428f4608d8875c83ffd90c2d90c0409784", func := "archipelago/archipelagolaw26.AdmitAnswers", spec := "admitAnswers", unfollowed := true, recurses := true, plainKeys := false, apart := false }
def AdmitAnswersSaid : Prop := admitAnswersRow.holds Tryz.pinned (OpenSpec.ofChange admitAnswersSpec)

/-- ITS FALSE NEIGHBOUR: 'it returns false'. Refute it at one input. -/
def admitAnswersWrong : ChangeSpec := { name := "admitAnswers", fn := fun _ => fun
  | [d1, d2, d3] => { results := [.lit (.bool false)], args := [d1, d2, d3] }
  | _ => none }
def AdmitAnswersWrongFalsely : Prop := admitAnswersRow.holds Tryz.pinned (OpenSpec.ofChange admitAnswersWrong)

/-- 'archipelagolaw26.AdmitAgain': WHATEVER THE INPUT: true; the input reads as it did. -/
def admitAgainSpec : ChangeSpec := { name := "admitAgain", fn := fun _ => fun
  | [d1, d2, d3] => { results := [.lit (.bool true)], args := [d1, d2, d3] }
  | _ => none }
def admitAgainRow : OpenClaim := { program := "ytfojmhgomdbpfaagreat", sum := "f56d42d3a9dd9ca762d2b419870ee9428f4608d8875c83ffd90c2d90c0409784", func := "archipelago/archipelagolaw26.AdmitAgain", spec := "admitAgain", unfollowed := true, recurses := true, plainKeys := false, apart := false }
def AdmitAgainSaid : Prop := admitAgainRow.holds Tryz.pinned (OpenSpec.ofChange admitAgainSpec)

/-- ITS FALSE NEIGHBOUR: 'it returns false'. Refute it at one input. -/
def admitAgainWrong : ChangeSpec := { name := "admitAgain", fn := fun _ => fun
  | [d1, d2, d3] => { results := [.lit (.bool false)], args := [d1, d2, d3] }
  | _ => none }
def AdmitAgainWrongFalsely : Prop := admitAgainRow.holds Tryz.pinned (OpenSpec.ofChange admitAgainWrong)

/-- 'archipelagolaw26.AdmitRefused': WHATEVER THE INPUT: true; the input reads as it did. -/
def admitRefusedSpec : ChangeSpec := { name := "admitRefused", fn := fun _ => fun
  | [d1, d2, d3] => { results := [.lit (.bool true)], args := [d1, d2, d3] }
  | _ => none }
def admitRefusedRow : OpenClaim := { program := "ytfojmhgomdbpfaagreat", sum := "f56d42d3a9dd9ca762d2b419870ee9428f4608d8875c83ffd90c2d90c0409784", func := "archipelago/archipelagolaw26.AdmitRefused", spec := "admitRefused", unfollowed := true, recurses := true, plainKeys := false, apart := false }
def AdmitRefusedSaid : Prop := admitRefusedRow.holds Tryz.pinned (OpenSpec.ofChange admitRefusedSpec)

/-- ITS FALSE NEIGHBOUR: 'it returns false'. Refute it at one input. -/
def admitRefusedWrong : ChangeSpec := { name := "admitRefused", fn := fun _ => fun
  | [d1, d2, d3] => { results := [.lit (.bool false)], args := [d1, d2, d3] }
  | _ => none }
def AdmitRefusedWrongFalsely : Prop := admitRefusedRow.holds Tryz.pinned (OpenSpec.ofChange admitRefusedWrong)

/-- 'archipelagolaw26.AdmitFull': WHATEVER THE INPUT: true; the input reads as it did. -/
def admitFullSpec : ChangeSpec := { name := "admitFull", fn := fun _ => fun
  | [d1, d2] => { results := [.lit (.bool true)], args := [d1, d2] }
  | _ => none }
def admitFullRow : OpenClaim := { program := "ytfojmhgomdbpfaagreat", sum := "f56d42d3a9dd9ca762d2b419870ee9428f4608d8875c83ffd90c2d90c0409784", func := "archipelago/archipelagolaw26.AdmitFull", spec := "admitFull", unfollowed := true, recurses := true, plainKeys := false, apart := false }
def AdmitFullSaid : Prop := admitFullRow.holds Tryz.pinned (OpenSpec.ofChange admitFullSpec)

/-- ITS FALSE NEIGHBOUR: 'it returns false'. Refute it at one input. -/
def admitFullWrong : ChangeSpec := { name := "admitFull", fn := fun _ => fun
  | [d1, d2] => { results := [.lit (.bool false)], args := [d1, d2] }
  | _ => none }
def AdmitFullWrongFalsely : Prop := admitFullRow.holds Tryz.pinned (OpenSpec.ofChange admitFullWrong)

/-- 'archipelagolaw26.AdmitSteps': WHATEVER THE INPUT: true; the input reads as it did. -/
def admitStepsSpec : ChangeSpec := { name := "admitSteps", fn := fun _ => fun
  | [d1, d2, d3] => { results := [.lit (.bool true)], args := [d1, d2, d3] }
  | _ => none }
def admitStepsRow : OpenClaim := { program := "ytfojmhgomdbpfaagreat", sum := "f56d42d3a9dd9ca762d2b419870ee9428f4608d8875c83ffd90c2d90c0409784", func := "archipelago/archipelagolaw26.AdmitSteps", spec := "admitSteps", unfollowed := true, recurses := true, plainKeys := false, apart := false }
def AdmitStepsSaid : Prop := admitStepsRow.holds Tryz.pinned (OpenSpec.ofChange admitStepsSpec)

/-- ITS FALSE NEIGHBOUR: 'it returns false'. Refute it at one input. -/
def admitStepsWrong : ChangeSpec := { name := "admitSteps", fn := fun _ => fun
  | [d1, d2, d3] => { results := [.lit (.bool false)], args := [d1, d2, d3] }
  | _ => none }
def AdmitStepsWrongFalsely : Prop := admitStepsRow.holds Tryz.pinned (OpenSpec.ofChange admitStepsWrong)

/- THE SECOND FORM. 'bulk': how many values and letters a reading holds, each counted each time it is reached (what is shared counts as often as it is met; a slice's spare places count too). A statement '..UptoSaid' is the law's where the arguments, and the package variables that the reading takes, are together of bulk at most 1048576: NARROWER than '..Said'. Prove '..Said' where nothing that the law and all that it calls make is longer than what came in: it says more and counts as full. Else prove '..UptoSaid'. A law counts once. -/
mutual
def uptoBulk {H : Type} : DataW H → Nat
  | .lit (.string bytes) => bytes.length + 1
  | .lit _ => 1
  | .nil => 1
  | .ptr d => uptoBulk d + 1
  | .slice elems spare => uptoBulkAll elems + uptoBulkAll spare + 1
  | .agg parts => uptoBulkAll parts + 1
  | .iface _ d => uptoBulk d + 1
  | .map entries => uptoBulkEntries entries + 1
  | .held _ => 1
def uptoBulkAll {H : Type} : List (DataW H) → Nat
  | [] => 0
  | d :: r => uptoBulk d + uptoBulkAll r
def uptoBulkEntries {H : Type} : List (Lit × DataW H) → Nat
  | [] => 0
  | x :: r => uptoBulkEntry x + uptoBulkEntries r
def uptoBulkEntry {H : Type} : Lit × DataW H → Nat
  | (.string bytes, d) => bytes.length + uptoBulk d + 1
  | (_, d) => uptoBulk d + 1
 end
def uptoSmall : (H : Type) → List (DataW H) → Bool := fun _ ds => decide (uptoBulkAll ds ≤ 1048576)
def OpenSpec.upto (s : _root_.Go.ChangeSpec) : _root_.Go.OpenSpec := { _root_.Go.OpenSpec.ofChange s with cond := some uptoSmall }

/-- 'archipelagolaw26.AdmitAnswers', WHERE WHAT IT READS IS OF BULK AT MOST 1048576: true; the input reads as it did. -/
def admitAnswersUptoRow : OpenClaim := { program := "ytfojmhgomdbpfaagreat", sum := "f56d42d3a9dd9ca762d2b419870ee9428f4608d8875c83ffd90c2d90c0409784", func := "archipelago/archipelagolaw26.AdmitAnswers", spec := "admitAnswers", unfollowed := true, recurses := true, plainKeys := false, apart := false, narrowed := true }
def AdmitAnswersUptoSaid : Prop := admitAnswersUptoRow.holds Tryz.pinned (OpenSpec.upto admitAnswersSpec)

/-- 'archipelagolaw26.AdmitAgain', WHERE WHAT IT READS IS OF BULK AT MOST 1048576: true; the input reads as it did. -/
def admitAgainUptoRow : OpenClaim := { program := "ytfojmhgomdbpfaagreat", sum := "f56d42d3a9dd9ca762d2b419870ee9428f4608d8875c83ffd90c2d90c0409784", func := "archipelago/archipelagolaw26.AdmitAgain", spec := "admitAgain", unfollowed := true, recurses := true, plainKeys := false, apart := false, narrowed := true }
def AdmitAgainUptoSaid : Prop := admitAgainUptoRow.holds Tryz.pinned (OpenSpec.upto admitAgainSpec)

/-- 'archipelagolaw26.AdmitRefused', WHERE WHAT IT READS IS OF BULK AT MOST 1048576: true; the input reads as it did. -/
def admitRefusedUptoRow : OpenClaim := { program := "ytfojmhgomdbpfaagreat", sum := "f56d42d3a9dd9ca762d2b419870ee9428f4608d8875c83ffd90c2d90c0409784", func := "archipelago/archipelagolaw26.AdmitRefused", spec := "admitRefused", unfollowed := true, recurses := true, plainKeys := false, apart := false, narrowed := true }
def AdmitRefusedUptoSaid : Prop := admitRefusedUptoRow.holds Tryz.pinned (OpenSpec.upto admitRefusedSpec)

/-- 'archipelagolaw26.AdmitFull', WHERE WHAT IT READS IS OF BULK AT MOST 1048576: true; the input reads as it did. -/
def admitFullUptoRow : OpenClaim := { program := "ytfojmhgomdbpfaagreat", sum := "f56d42d3a9dd9ca762d2b419870ee9428f4608d8875c83ffd90c2d90c0409784", func := "archipelago/archipelagolaw26.AdmitFull", spec := "admitFull", unfollowed := true, recurses := true, plainKeys := false, apart := false, narrowed := true }
def AdmitFullUptoSaid : Prop := admitFullUptoRow.holds Tryz.pinned (OpenSpec.upto admitFullSpec)

/-- 'archipelagolaw26.AdmitSteps', WHERE WHAT IT READS IS OF BULK AT MOST 1048576: true; the input reads as it did. -/
def admitStepsUptoRow : OpenClaim := { program := "ytfojmhgomdbpfaagreat", sum := "f56d42d3a9dd9ca762d2b419870ee9428f4608d8875c83ffd90c2d90c0409784", func := "archipelago/archipelagolaw26.AdmitSteps", spec := "admitSteps", unfollowed := true, recurses := true, plainKeys := false, apart := false, narrowed := true }
def AdmitStepsUptoSaid : Prop := admitStepsUptoRow.holds Tryz.pinned (OpenSpec.upto admitStepsSpec)

end Rows
end Go.Proofs.YtfojmhgomdbpfaaGreat
