/-
  No cell of these rows narrows 'for every input' (looked for: loops, veiled, ifaces, maps, wideKeys, modest, calm, conditions, laid).
  DERIVED. THE GIVEN ROWS OF THIS SEAT. 12 by the template 'for every input the law returns true; each argument reads behind the call as it read before'; 0 by the template 'total and deterministic' (their statements: YtaamkoofmojajaaGreatTotals.lean).
  GIVEN WITH THE SEED: the statements are not yours to turn. If you find one false, say at which input.
  Laid BY PROGRAM, IN A SANDBOX (cutbox-rows.mjs): the forced cells as the released guide's own fill.sh prints them over the translation 78bd9de843479a1d… (all of the seat's roots in one cut). By AI agents, Wed Nov 11 2026. No macro, syntax, notation, axiom, sorry.
-/
import Derived.Test.YtaamkoofmojajaaGreatChecked
import GoSem.Claim
import GoSem.ClaimJoined
import GoSem.ClaimMapViews
import Derived.JoinedTies
import Derived.KernelRfl
namespace Go.Proofs.YtaamkoofmojajaaGreat
/- THE CELL 'sum', in the pinned program and in every row, IS THE sha256 OF THE DUMP (.gsa) THAT YtaamkoofmojajaaGreatProg.lean LOADS. Nothing in Lean hashes anything: it is a label: what it is worth is what the hold of that sum in a sandbox is worth. -/
noncomputable def Tryz.pinned : Pinned := { name := "ytaamkoofmojajaagreat", sum := "78bd9de843479a1df2c1c358248b10aae77a312b52e2445f4570737ab0f4c793", checked := Tryz.checked }
namespace Rows
def none {H : Type} : Left H := { results := [], args := [] }

/-- 'archipelagolaw24.SoundAnswers': WHATEVER THE INPUT: true; the input reads as it did. -/
def soundAnswersSpec : ChangeSpec := { name := "soundAnswers", fn := fun _ => fun
  | [d] => { results := [.lit (.bool true)], args := [d] }
  | _ => none }
def soundAnswersRow : OpenClaim := { program := "ytaamkoofmojajaagreat", sum := "78bd9de843479a1df2c1c358248b10aae77a312b52e2445f4570737ab0f4c793", func := "archipelago/archipelagolaw24.SoundAnswers", spec := "soundAnswers", unfollowed := true, recurses := true, plainKeys := false, apart := false }
def SoundAnswersSaid : Prop := soundAnswersRow.holds Tryz.pinned (OpenSpec.ofChange soundAnswersSpec)

/-- ITS FALSE NEIGHBOUR: 'it returns false'. Refute it at one input. -/
def soundAnswersWrong : ChangeSpec := { name := "soundAnswers", fn := fun _ => fun
  | [d] => { results := [.lit (.bool false)], args := [d] }
  | _ => none }
def SoundAnswersWrongFalsely : Prop := soundAnswersRow.holds Tryz.pinned (OpenSpec.ofChange soundAnswersWrong)

/-- 'archipelagolaw24.SoundStays': WHATEVER THE INPUT: true; the input reads as it did. -/
def soundStaysSpec : ChangeSpec := { name := "soundStays", fn := fun _ => fun
  | [d1, d2, d3] => { results := [.lit (.bool true)], args := [d1, d2, d3] }
  | _ => none }
def soundStaysRow : OpenClaim := { program := "ytaamkoofmojajaagreat", sum := "78bd9de843479a1df2c1c358248b10aae77a312b52e2445f4570737ab0f4c793", func := "archipelago/archipelagolaw24.SoundStays", spec := "soundStays", unfollowed := true, recurses := true, plainKeys := false, apart := false }
def SoundStaysSaid : Prop := soundStaysRow.holds Tryz.pinned (OpenSpec.ofChange soundStaysSpec)

/-- ITS FALSE NEIGHBOUR: 'it returns false'. Refute it at one input. -/
def soundStaysWrong : ChangeSpec := { name := "soundStays", fn := fun _ => fun
  | [d1, d2, d3] => { results := [.lit (.bool false)], args := [d1, d2, d3] }
  | _ => none }
def SoundStaysWrongFalsely : Prop := soundStaysRow.holds Tryz.pinned (OpenSpec.ofChange soundStaysWrong)

/-- 'archipelagolaw24.SoundMost': WHATEVER THE INPUT: true; the input reads as it did. -/
def soundMostSpec : ChangeSpec := { name := "soundMost", fn := fun _ => fun
  | [d1, d2] => { results := [.lit (.bool true)], args := [d1, d2] }
  | _ => none }
def soundMostRow : OpenClaim := { program := "ytaamkoofmojajaagreat", sum := "78bd9de843479a1df2c1c358248b10aae77a312b52e2445f4570737ab0f4c793", func := "archipelago/archipelagolaw24.SoundMost", spec := "soundMost", unfollowed := true, recurses := true, plainKeys := false, apart := false }
def SoundMostSaid : Prop := soundMostRow.holds Tryz.pinned (OpenSpec.ofChange soundMostSpec)

/-- ITS FALSE NEIGHBOUR: 'it returns false'. Refute it at one input. -/
def soundMostWrong : ChangeSpec := { name := "soundMost", fn := fun _ => fun
  | [d1, d2] => { results := [.lit (.bool false)], args := [d1, d2] }
  | _ => none }
def SoundMostWrongFalsely : Prop := soundMostRow.holds Tryz.pinned (OpenSpec.ofChange soundMostWrong)

/-- 'archipelagolaw24.SoundTop': WHATEVER THE INPUT: true; the input reads as it did. -/
def soundTopSpec : ChangeSpec := { name := "soundTop", fn := fun _ => fun
  | [d] => { results := [.lit (.bool true)], args := [d] }
  | _ => none }
def soundTopRow : OpenClaim := { program := "ytaamkoofmojajaagreat", sum := "78bd9de843479a1df2c1c358248b10aae77a312b52e2445f4570737ab0f4c793", func := "archipelago/archipelagolaw24.SoundTop", spec := "soundTop", unfollowed := true, recurses := true, plainKeys := false, apart := false }
def SoundTopSaid : Prop := soundTopRow.holds Tryz.pinned (OpenSpec.ofChange soundTopSpec)

/-- ITS FALSE NEIGHBOUR: 'it returns false'. Refute it at one input. -/
def soundTopWrong : ChangeSpec := { name := "soundTop", fn := fun _ => fun
  | [d] => { results := [.lit (.bool false)], args := [d] }
  | _ => none }
def SoundTopWrongFalsely : Prop := soundTopRow.holds Tryz.pinned (OpenSpec.ofChange soundTopWrong)

/-- 'archipelagolaw21.LevelAnswers': WHATEVER THE INPUT: true; the input reads as it did. -/
def levelAnswersSpec : ChangeSpec := { name := "levelAnswers", fn := fun _ => fun
  | [d1, d2, d3] => { results := [.lit (.bool true)], args := [d1, d2, d3] }
  | _ => none }
def levelAnswersRow : OpenClaim := { program := "ytaamkoofmojajaagreat", sum := "78bd9de843479a1df2c1c358248b10aae77a312b52e2445f4570737ab0f4c793", func := "archipelago/archipelagolaw21.LevelAnswers", spec := "levelAnswers", unfollowed := true, recurses := true, plainKeys := false, apart := false }
def LevelAnswersSaid : Prop := levelAnswersRow.holds Tryz.pinned (OpenSpec.ofChange levelAnswersSpec)

/-- ITS FALSE NEIGHBOUR: 'it returns false'. Refute it at one input. -/
def levelAnswersWrong : ChangeSpec := { name := "levelAnswers", fn := fun _ => fun
  | [d1, d2, d3] => { results := [.lit (.bool false)], args := [d1, d2, d3] }
  | _ => none }
def LevelAnswersWrongFalsely : Prop := levelAnswersRow.holds Tryz.pinned (OpenSpec.ofChange levelAnswersWrong)

/-- 'archipelagolaw21.LevelWithin': WHATEVER THE INPUT: true; the input reads as it did. -/
def levelWithinSpec : ChangeSpec := { name := "levelWithin", fn := fun _ => fun
  | [d1, d2, d3] => { results := [.lit (.bool true)], args := [d1, d2, d3] }
  | _ => none }
def levelWithinRow : OpenClaim := { program := "ytaamkoofmojajaagreat", sum := "78bd9de843479a1df2c1c358248b10aae77a312b52e2445f4570737ab0f4c793", func := "archipelago/archipelagolaw21.LevelWithin", spec := "levelWithin", unfollowed := true, recurses := true, plainKeys := false, apart := false }
def LevelWithinSaid : Prop := levelWithinRow.holds Tryz.pinned (OpenSpec.ofChange levelWithinSpec)

/-- ITS FALSE NEIGHBOUR: 'it returns false'. Refute it at one input. -/
def levelWithinWrong : ChangeSpec := { name := "levelWithin", fn := fun _ => fun
  | [d1, d2, d3] => { results := [.lit (.bool false)], args := [d1, d2, d3] }
  | _ => none }
def LevelWithinWrongFalsely : Prop := levelWithinRow.holds Tryz.pinned (OpenSpec.ofChange levelWithinWrong)

/-- 'archipelagolaw23.PruneAnswers': WHATEVER THE INPUT: true; the input reads as it did. -/
def pruneAnswersSpec : ChangeSpec := { name := "pruneAnswers", fn := fun _ => fun
  | [d1, d2, d3] => { results := [.lit (.bool true)], args := [d1, d2, d3] }
  | _ => none }
def pruneAnswersRow : OpenClaim := { program := "ytaamkoofmojajaagreat", sum := "78bd9de843479a1df2c1c358248b10aae77a312b52e2445f4570737ab0f4c793", func := "archipelago/archipelagolaw23.PruneAnswers", spec := "pruneAnswers", unfollowed := true, recurses := true, plainKeys := false, apart := false }
def PruneAnswersSaid : Prop := pruneAnswersRow.holds Tryz.pinned (OpenSpec.ofChange pruneAnswersSpec)

/-- ITS FALSE NEIGHBOUR: 'it returns false'. Refute it at one input. -/
def pruneAnswersWrong : ChangeSpec := { name := "pruneAnswers", fn := fun _ => fun
  | [d1, d2, d3] => { results := [.lit (.bool false)], args := [d1, d2, d3] }
  | _ => none }
def PruneAnswersWrongFalsely : Prop := pruneAnswersRow.holds Tryz.pinned (OpenSpec.ofChange pruneAnswersWrong)

/-- 'archipelagolaw23.PruneDrops': WHATEVER THE INPUT: true; the input reads as it did. -/
def pruneDropsSpec : ChangeSpec := { name := "pruneDrops", fn := fun _ => fun
  | [d1, d2] => { results := [.lit (.bool true)], args := [d1, d2] }
  | _ => none }
def pruneDropsRow : OpenClaim := { program := "ytaamkoofmojajaagreat", sum := "78bd9de843479a1df2c1c358248b10aae77a312b52e2445f4570737ab0f4c793", func := "archipelago/archipelagolaw23.PruneDrops", spec := "pruneDrops", unfollowed := true, recurses := true, plainKeys := false, apart := false }
def PruneDropsSaid : Prop := pruneDropsRow.holds Tryz.pinned (OpenSpec.ofChange pruneDropsSpec)

/-- ITS FALSE NEIGHBOUR: 'it returns false'. Refute it at one input. -/
def pruneDropsWrong : ChangeSpec := { name := "pruneDrops", fn := fun _ => fun
  | [d1, d2] => { results := [.lit (.bool false)], args := [d1, d2] }
  | _ => none }
def PruneDropsWrongFalsely : Prop := pruneDropsRow.holds Tryz.pinned (OpenSpec.ofChange pruneDropsWrong)

/-- 'archipelagolaw23.PruneSound': WHATEVER THE INPUT: true; the input reads as it did. -/
def pruneSoundSpec : ChangeSpec := { name := "pruneSound", fn := fun _ => fun
  | [d1, d2, d3] => { results := [.lit (.bool true)], args := [d1, d2, d3] }
  | _ => none }
def pruneSoundRow : OpenClaim := { program := "ytaamkoofmojajaagreat", sum := "78bd9de843479a1df2c1c358248b10aae77a312b52e2445f4570737ab0f4c793", func := "archipelago/archipelagolaw23.PruneSound", spec := "pruneSound", unfollowed := true, recurses := true, plainKeys := false, apart := false }
def PruneSoundSaid : Prop := pruneSoundRow.holds Tryz.pinned (OpenSpec.ofChange pruneSoundSpec)

/-- ITS FALSE NEIGHBOUR: 'it returns false'. Refute it at one input. -/
def pruneSoundWrong : ChangeSpec := { name := "pruneSound", fn := fun _ => fun
  | [d1, d2, d3] => { results := [.lit (.bool false)], args := [d1, d2, d3] }
  | _ => none }
def PruneSoundWrongFalsely : Prop := pruneSoundRow.holds Tryz.pinned (OpenSpec.ofChange pruneSoundWrong)

/-- 'archipelagolaw23.PruneJoins': WHATEVER THE INPUT: true; the input reads as it did. -/
def pruneJoinsSpec : ChangeSpec := { name := "pruneJoins", fn := fun _ => fun
  | [d1, d2, d3] => { results := [.lit (.bool true)], args := [d1, d2, d3] }
  | _ => none }
def pruneJoinsRow : OpenClaim := { program := "ytaamkoofmojajaagreat", sum := "78bd9de843479a1df2c1c358248b10aae77a312b52e2445f4570737ab0f4c793", func := "archipelago/archipelagolaw23.PruneJoins", spec := "pruneJoins", unfollowed := true, recurses := true, plainKeys := false, apart := false }
def PruneJoinsSaid : Prop := pruneJoinsRow.holds Tryz.pinned (OpenSpec.ofChange pruneJoinsSpec)

/-- ITS FALSE NEIGHBOUR: 'it returns false'. Refute it at one input. -/
def pruneJoinsWrong : ChangeSpec := { name := "pruneJoins", fn := fun _ => fun
  | [d1, d2, d3] => { results := [.lit (.bool false)], args := [d1, d2, d3] }
  | _ => none }
def PruneJoinsWrongFalsely : Prop := pruneJoinsRow.holds Tryz.pinned (OpenSpec.ofChange pruneJoinsWrong)

/-- 'archipelagolaw23.PruneTwice': WHATEVER THE INPUT: true; the input reads as it did. -/
def pruneTwiceSpec : ChangeSpec := { name := "pruneTwice", fn := fun _ => fun
  | [d1, d2] => { results := [.lit (.bool true)], args := [d1, d2] }
  | _ => none }
def pruneTwiceRow : OpenClaim := { program := "ytaamkoofmojajaagreat", sum := "78bd9de843479a1df2c1c358248b10aae77a312b52e2445f4570737ab0f4c793", func := "archipelago/archipelagolaw23.PruneTwice", spec := "pruneTwice", unfollowed := true, recurses := true, plainKeys := false, apart := false }
def PruneTwiceSaid : Prop := pruneTwiceRow.holds Tryz.pinned (OpenSpec.ofChange pruneTwiceSpec)

/-- ITS FALSE NEIGHBOUR: 'it returns false'. Refute it at one input. -/
def pruneTwiceWrong : ChangeSpec := { name := "pruneTwice", fn := fun _ => fun
  | [d1, d2] => { results := [.lit (.bool false)], args := [d1, d2] }
  | _ => none }
def PruneTwiceWrongFalsely : Prop := pruneTwiceRow.holds Tryz.pinned (OpenSpec.ofChange pruneTwiceWrong)

/-- 'archipelagolaw23.PruneEach': WHATEVER THE INPUT: true; the input reads as it did. -/
def pruneEachSpec : ChangeSpec := { name := "pruneEach", fn := fun _ => fun
  | [d1, d2] => { results := [.lit (.bool true)], args := [d1, d2] }
  | _ => none }
def pruneEachRow : OpenClaim := { program := "ytaamkoofmojajaagreat", sum := "78bd9de843479a1df2c1c358248b10aae77a312b52e2445f4570737ab0f4c793", func := "archipelago/archipelagolaw23.PruneEach", spec := "pruneEach", unfollowed := true, recurses := true, plainKeys := false, apart := false }
def PruneEachSaid : Prop := pruneEachRow.holds Tryz.pinned (OpenSpec.ofChange pruneEachSpec)

/-- ITS FALSE NEIGHBOUR: 'it returns false'. Refute it at one input. -/
def pruneEachWrong : ChangeSpec := { name := "pruneEach", fn := fun _ => fun
  | [d1, d2] => { results := [.lit (.bool false)], args := [d1, d2] }
  | _ => none }
def PruneEachWrongFalsely : Prop := pruneEachRow.holds Tryz.pinned (OpenSpec.ofChange pruneEachWrong)

/- THE SECOND FORM. 'bulk': how many values and letters a reading holds, each counted each time it is reached (what is shared counts as often as it is met; a slice's spare places count too). A statement '..UptoSaid' is the law's where the arguments, and the package variables that the reading takes, are together of bulk at most 1048576: NARROWER than '..Said'. Prove '..Said' where nothing that the law and all that it calls make is longer than what came in: it says more and counts as full. Else prove '..UptoSaid'. A law counts once. -/
mutual
def uptoBulk {H : Type} : DataW H → Nat
  | .lit (.string bytes) => bytes.length + 1
  | .lit _ => 1
  | .nil => 1
  | .ptr d => uptoBulk d + 1
  | .slice elems spare => uptoBulkAll elems + uptoBulkAll spare + 1
  | .agg parts => uptoBulkAll parts + 1
  | .iface _ d => uptoBulk d + 1
  | .map entries => uptoBulkEntries entries + 1
  | .held _ => 1
def uptoBulkAll {H : Type} : List (DataW H) → Nat
  | [] => 0
  | d :: r => uptoBulk d + uptoBulkAll r
def uptoBulkEntries {H : Type} : List (Lit × DataW H) → Nat
  | [] => 0
  | x :: r => uptoBulkEntry x + uptoBulkEntries r
def uptoBulkEntry {H : Type} : Lit × DataW H → Nat
  | (.string bytes, d) => bytes.length + uptoBulk d + 1
  | (_, d) => uptoBulk d + 1
 end
def uptoSmall : (H : Type) → List (DataW H) → Bool := fun _ ds => decide (uptoBulkAll ds ≤ 1048576)
def OpenSpec.upto (s : _root_.Go.ChangeSpec) : _root_.Go.OpenSpec := { _root_.Go.OpenSpec.ofChange s with cond := some uptoSmall }

/-- 'archipelagolaw24.SoundAnswers', WHERE WHAT IT READS IS OF BULK AT MOST 1048576: true; the input reads as it did. -/
def soundAnswersUptoRow : OpenClaim := { program := "ytaamkoofmojajaagreat", sum := "78bd9de843479a1df2c1c358248b10aae77a312b52e2445f4570737ab0f4c793", func := "archipelago/archipelagolaw24.SoundAnswers", spec := "soundAnswers", unfollowed := true, recurses := true, plainKeys := false, apart := false, narrowed := true }
def SoundAnswersUptoSaid : Prop := soundAnswersUptoRow.holds Tryz.pinned (OpenSpec.upto soundAnswersSpec)

/-- 'archipelagolaw24.SoundStays', WHERE WHAT IT READS IS OF BULK AT MOST 1048576: true; the input reads as it did. -/
def soundStaysUptoRow : OpenClaim := { program := "ytaamkoofmojajaagreat", sum := "78bd9de843479a1df2c1c358248b10aae77a312b52e2445f4570737ab0f4c793", func := "archipelago/archipelagolaw24.SoundStays", spec := "soundStays", unfollowed := true, recurses := true, plainKeys := false, apart := false, narrowed := true }
def SoundStaysUptoSaid : Prop := soundStaysUptoRow.holds Tryz.pinned (OpenSpec.upto soundStaysSpec)

/-- 'archipelagolaw24.SoundMost', WHERE WHAT IT READS IS OF BULK AT MOST 1048576: true; the input reads as it did. -/
def soundMostUptoRow : OpenClaim := { program := "ytaamkoofmojajaagreat", sum := "78bd9de843479a1df2c1c358248b10aae77a312b52e2445f4570737ab0f4c793", func := "archipelago/archipelagolaw24.SoundMost", spec := "soundMost", unfollowed := true, recurses := true, plainKeys := false, apart := false, narrowed := true }
def SoundMostUptoSaid : Prop := soundMostUptoRow.holds Tryz.pinned (OpenSpec.upto soundMostSpec)

/-- 'archipelagolaw24.SoundTop', WHERE WHAT IT READS IS OF BULK AT MOST 1048576: true; the input reads as it did. -/
def soundTopUptoRow : OpenClaim := { program := "ytaamkoofmojajaagreat", sum := "78bd9de843479a1df2c1c358248b10aae77a312b52e2445f4570737ab0f4c793", func := "archipelago/archipelagolaw24.SoundTop", spec := "soundTop", unfollowed := true, recurses := true, plainKeys := false, apart := false, narrowed := true }
def SoundTopUptoSaid : Prop := soundTopUptoRow.holds Tryz.pinned (OpenSpec.upto soundTopSpec)

/-- 'archipelagolaw21.LevelAnswers', WHERE WHAT IT READS IS OF BULK AT MOST 1048576: true; the input reads as it did. -/
def levelAnswersUptoRow : OpenClaim := { program := "ytaamkoofmojajaagreat", sum := "78bd9de843479a1df2c1c358248b10aae77a312b52e2445f4570737ab0f4c793", func := "archipelago/archipelagolaw21.LevelAnswers", spec := "levelAnswers", unfollowed := true, recurses := true, plainKeys := false, apart := false, narrowed := true }
def LevelAnswersUptoSaid : Prop := levelAnswersUptoRow.holds Tryz.pinned (OpenSpec.upto levelAnswersSpec)

/-- 'archipelagolaw21.LevelWithin', WHERE WHAT IT READS IS OF BULK AT MOST 1048576: true; the input reads as it did. -/
def levelWithinUptoRow : OpenClaim := { program := "ytaamkoofmojajaagreat", sum := "78bd9de843479a1df2c1c358248b10aae77a312b52e2445f4570737ab0f4c793", func := "archipelago/archipelagolaw21.LevelWithin", spec := "levelWithin", unfollowed := true, recurses := true, plainKeys := false, apart := false, narrowed := true }
def LevelWithinUptoSaid : Prop := levelWithinUptoRow.holds Tryz.pinned (OpenSpec.upto levelWithinSpec)

/-- 'archipelagolaw23.PruneAnswers', WHERE WHAT IT READS IS OF BULK AT MOST 1048576: true; the input reads as it did. -/
def pruneAnswersUptoRow : OpenClaim := { program := "ytaamkoofmojajaagreat", sum := "78bd9de843479a1df2c1c358248b10aae77a312b52e2445f4570737ab0f4c793", func := "archipelago/archipelagolaw23.PruneAnswers", spec := "pruneAnswers", unfollowed := true, recurses := true, plainKeys := false, apart := false, narrowed := true }
def PruneAnswersUptoSaid : Prop := pruneAnswersUptoRow.holds Tryz.pinned (OpenSpec.upto pruneAnswersSpec)

/-- 'archipelagolaw23.PruneDrops', WHERE WHAT IT READS IS OF BULK AT MOST 1048576: true; the input reads as it did. -/
def pruneDropsUptoRow : OpenClaim := { program := "ytaamkoofmojajaagreat", sum := "78bd9de843479a1df2c1c358248b10aae77a312b52e2445f4570737ab0f4c793", func := "archipelago/archipelagolaw23.PruneDrops", spec := "pruneDrops", unfollowed := true, recurses := true, plainKeys := false, apart := false, narrowed := true }
def PruneDropsUptoSaid : Prop := pruneDropsUptoRow.holds Tryz.pinned (OpenSpec.upto pruneDropsSpec)

/-- 'archipelagolaw23.PruneSound', WHERE WHAT IT READS IS OF BULK AT MOST 1048576: true; the input reads as it did. -/
def pruneSoundUptoRow : OpenClaim := { program := "ytaamkoofmojajaagreat", sum := "78bd9de843479a1df2c1c358248b10aae77a312b52e2445f4570737ab0f4c793", func := "archipelago/archipelagolaw23.PruneSound", spec := "pruneSound", unfollowed := true, recurses := true, plainKeys := false, apart := false, narrowed := true }
def PruneSoundUptoSaid : Prop := pruneSoundUptoRow.holds Tryz.pinned (OpenSpec.upto pruneSoundSpec)

/-- 'archipelagolaw23.PruneJoins', WHERE WHAT IT READS IS OF BULK AT MOST 1048576: true; the input reads as it did. -/
def pruneJoinsUptoRow : OpenClaim := { program := "ytaamkoofmojajaagreat", sum := "78bd9de843479a1df2c1c358248b10aae77a312b52e2445f4570737ab0f4c793", func := "archipelago/archipelagolaw23.PruneJoins", spec := "pruneJoins", unfollowed := true, recurses := true, plainKeys := false, apart := false, narrowed := true }
def PruneJoinsUptoSaid : Prop := pruneJoinsUptoRow.holds Tryz.pinned (OpenSpec.upto pruneJoinsSpec)

/-- 'archipelagolaw23.PruneTwice', WHERE WHAT IT READS IS OF BULK AT MOST 1048576: true; the input reads as it did. -/
def pruneTwiceUptoRow : OpenClaim := { program := "ytaamkoofmojajaagreat", sum := "78bd9de843479a1df2c1c358248b10aae77a312b52e2445f4570737ab0f4c793", func := "archipelago/archipelagolaw23.PruneTwice", spec := "pruneTwice", unfollowed := true, recurses := true, plainKeys := false, apart := false, narrowed := true }
def PruneTwiceUptoSaid : Prop := pruneTwiceUptoRow.holds Tryz.pinned (OpenSpec.upto pruneTwiceSpec)

/-- 'archipelagolaw23.PruneEach', WHERE WHAT IT READS IS OF BULK AT MOST 1048576: true; the input reads as it did. -/
def pruneEachUptoRow : OpenClaim := { program := "ytaamkoofmojajaagreat", sum := "78bd9de843479a1df2c1c358248b10aae77a312b52e2445f4570737ab0f4c793", func := "archipelago/archipelagolaw23.PruneEach", spec := "pruneEach", unfollowed := true, recurses := true, plainKeys := false, apart := false, narrowed := true }
def PruneEachUptoSaid : Prop := pruneEachUptoRow.holds Tryz.pinned (OpenSpec.upto pruneEachSpec)

end Rows
end Go.Proofs.YtaamkoofmojajaaGreat
