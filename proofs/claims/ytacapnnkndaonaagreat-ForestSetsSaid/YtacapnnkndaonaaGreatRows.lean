/-
  No cell of these rows narrows 'for every input' (looked for: loops, veiled, ifaces, maps, wideKeys, modest, calm, conditions, laid).
  DERIVED. THE GIVEN ROWS OF THIS SEAT. 3 by the template 'for every input the law returns true; each argument reads behind the call as it read before'; 0 by the template 'total and deterministic' (their statements: YtacapnnkndaonaaGreatTotals.lean).
  GIVEN WITH THE SEED: the statements are not yours to turn. If you find one false, say at which input.
  Laid BY PROGRAM, IN A SANDBOX (cutbox-rows.mjs): the forced cells as the released guide's own fill.sh prints them over the translation 62a484d2e3e342f3… (all of the seat's roots in one cut). By AI agents, Wed Nov 11 2026. No macro, syntax, notation, axiom, sorry.
-/
import Derived.Test.YtacapnnkndaonaaGreatChecked
import GoSem.Claim
import GoSem.ClaimJoined
import GoSem.ClaimMapViews
import Derived.JoinedTies
import Derived.KernelRfl
namespace Go.Proofs.YtacapnnkndaonaaGreat
/- THE CELL 'sum', in the pinned program and in every row, IS THE sha256 OF THE DUMP (.gsa) THAT YtacapnnkndaonaaGreatProg.lean LOADS. Nothing in Lean hashes anything: it is a label: what it is worth is what the hold of that sum in a sandbox is worth. -/
noncomputable def Tryz.pinned : Pinned := { name := "ytacapnnkndaonaagreat", sum := "62a484d2e3e342f38d3609ffd21b01e7c99165a9fe1d60693812ab65529c25ae", checked := Tryz.checked }
namespace Rows
def none {H : Type} : Left H := { results := [], args := [] }

/-- 'archipelagolaw19.ForestAsks': WHATEVER THE INPUT: true; the input reads as it did. -/
def forestAsksSpec : ChangeSpec := { name := "forestAsks", fn := fun _ => fun
  | [d1, d2, d3] => { results := [.lit (.bool true)], args := [d1, d2, d3] }
  | _ => none }
def forestAsksRow : OpenClaim := { program := "ytacapnnkndaonaagreat", sum := "62a484d2e3e342f38d3609ffd21b01e7c99165a9fe1d60693812ab65529c25ae", func := "archipelago/archipelagolaw19.ForestAsks", spec := "forestAsks", unfollowed := true, recurses := true, apart := false }
def ForestAsksSaid : Prop := forestAsksRow.holds Tryz.pinned (OpenSpec.ofChange forestAsksSpec)

/-- ITS FALSE NEIGHBOUR: 'it returns false'. Refute it at one input. -/
def forestAsksWrong : ChangeSpec := { name := "forestAsks", fn := fun _ => fun
  | [d1, d2, d3] => { results := [.lit (.bool false)], args := [d1, d2, d3] }
  | _ => none }
def ForestAsksWrongFalsely : Prop := forestAsksRow.holds Tryz.pinned (OpenSpec.ofChange forestAsksWrong)

/-- 'archipelagolaw19.ForestSets': WHATEVER THE INPUT: true; the input reads as it did. -/
def forestSetsSpec : ChangeSpec := { name := "forestSets", fn := fun _ => fun
  | [d1, d2, d3] => { results := [.lit (.bool true)], args := [d1, d2, d3] }
  | _ => none }
def forestSetsRow : OpenClaim := { program := "ytacapnnkndaonaagreat", sum := "62a484d2e3e342f38d3609ffd21b01e7c99165a9fe1d60693812ab65529c25ae", func := "archipelago/archipelagolaw19.ForestSets", spec := "forestSets", unfollowed := true, recurses := true, apart := false }
def ForestSetsSaid : Prop := forestSetsRow.holds Tryz.pinned (OpenSpec.ofChange forestSetsSpec)

/-- ITS FALSE NEIGHBOUR: 'it returns false'. Refute it at one input. -/
def forestSetsWrong : ChangeSpec := { name := "forestSets", fn := fun _ => fun
  | [d1, d2, d3] => { results := [.lit (.bool false)], args := [d1, d2, d3] }
  | _ => none }
def ForestSetsWrongFalsely : Prop := forestSetsRow.holds Tryz.pinned (OpenSpec.ofChange forestSetsWrong)

/-- 'archipelagolaw19.ForestOrder': WHATEVER THE INPUT: true; the input reads as it did. -/
def forestOrderSpec : ChangeSpec := { name := "forestOrder", fn := fun _ => fun
  | [d1, d2] => { results := [.lit (.bool true)], args := [d1, d2] }
  | _ => none }
def forestOrderRow : OpenClaim := { program := "ytacapnnkndaonaagreat", sum := "62a484d2e3e342f38d3609ffd21b01e7c99165a9fe1d60693812ab65529c25ae", func := "archipelago/archipelagolaw19.ForestOrder", spec := "forestOrder", unfollowed := true, recurses := true, apart := false }
def ForestOrderSaid : Prop := forestOrderRow.holds Tryz.pinned (OpenSpec.ofChange forestOrderSpec)

/-- ITS FALSE NEIGHBOUR: 'it returns false'. Refute it at one input. -/
def forestOrderWrong : ChangeSpec := { name := "forestOrder", fn := fun _ => fun
  | [d1, d2] => { results := [.lit (.bool false)], args := [d1, d2] }
  | _ => none }
def ForestOrderWrongFalsely : Prop := forestOrderRow.holds Tryz.pinned (OpenSpec.ofChange forestOrderWrong)

/- THE SECOND FORM. 'bulk': how many values and letters a reading holds, each counted each time it is reached (what is shared counts as often as it is met; a slice's spare places count too). A statement '..UptoSaid' is the law's where the arguments, and the package variables that the reading takes, are together of bulk at most 1048576: NARROWER than '..Said'. Prove '..Said' where nothing that the law and all that it calls make is longer than what came in: it says more and counts as full. Else prove '..UptoSaid'. A law counts once. -/
mutual
def uptoBulk {H : Type} : DataW H → Nat
  | .lit (.string bytes) => bytes.length + 1
  | .lit _ => 1
  | .nil => 1
  | .ptr d => uptoBulk d + 1
  | .slice elems spare => uptoBulkAll elems + uptoBulkAll spare + 1
  | .agg parts => uptoBulkAll parts + 1
  | .iface _ d => uptoBulk d + 1
  | .map entries => uptoBulkEntries entries + 1
  | .held _ => 1
def uptoBulkAll {H : Type} : List (DataW H) → Nat
  | [] => 0
  | d :: r => uptoBulk d + uptoBulkAll r
def uptoBulkEntries {H : Type} : List (Lit × DataW H) → Nat
  | [] => 0
  | x :: r => uptoBulkEntry x + uptoBulkEntries r
def uptoBulkEntry {H : Type} : Lit × DataW H → Nat
  | (.string bytes, d) => bytes.length + uptoBulk d + 1
  | (_, d) => uptoBulk d + 1
 end
def uptoSmall : (H : Type) → List (DataW H) → Bool := fun _ ds => decide (uptoBulkAll ds ≤ 1048576)
def OpenSpec.upto (s : _root_.Go.ChangeSpec) : _root_.Go.OpenSpec := { _root_.Go.OpenSpec.ofChange s with cond := some uptoSmall }

/-- 'archipelagolaw19.ForestAsks', WHERE WHAT IT READS IS OF BULK AT MOST 1048576: true; the input reads as it did. -/
def forestAsksUptoRow : OpenClaim := { program := "ytacapnnkndaonaagreat", sum := "62a484d2e3e342f38d3609ffd21b01e7c99165a9fe1d60693812ab65529c25ae", func := "archipelago/archipelagolaw19.ForestAsks", spec := "forestAsks", unfollowed := true, recurses := true, apart := false, narrowed := true }
def ForestAsksUptoSaid : Prop := forestAsksUptoRow.holds Tryz.pinned (OpenSpec.upto forestAsksSpec)

/-- 'archipelagolaw19.ForestSets', WHERE WHAT IT READS IS OF BULK AT MOST 1048576: true; the input reads as it did. -/
def forestSetsUptoRow : OpenClaim := { program := "ytacapnnkndaonaagreat", sum := "62a484d2e3e342f38d3609ffd21b01e7c99165a9fe1d60693812ab65529c25ae", func := "archipelago/archipelagolaw19.ForestSets", spec := "forestSets", unfollowed := true, recurses := true, apart := false, narrowed := true }
def ForestSetsUptoSaid : Prop := forestSetsUptoRow.holds Tryz.pinned (OpenSpec.upto forestSetsSpec)

/-- 'archipelagolaw19.ForestOrder', WHERE WHAT IT READS IS OF BULK AT MOST 1048576: true; the input reads as it did. -/
def forestOrderUptoRow : OpenClaim := { program := "ytacapnnkndaonaagreat", sum := "62a484d2e3e342f38d3609ffd21b01e7c99165a9fe1d60693812ab65529c25ae", func := "archipelago/archipelagolaw19.ForestOrder", spec := "forestOrder", unfollowed := true, recurses := true, apart := false, narrowed := true }
def ForestOrderUptoSaid : Prop := forestOrderUptoRow.holds Tryz.pinned (OpenSpec.upto forestOrderSpec)

end Rows
end Go.Proofs.YtacapnnkndaonaaGreat
