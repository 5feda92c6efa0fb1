/-
  No cell of these rows narrows 'for every input' (looked for: loops, veiled, ifaces, maps, wideKeys, modest, calm, conditions, laid).
  DERIVED. THE GIVEN ROWS OF THIS SEAT. 3 by the template 'for every input the law returns true; each argument reads behind the call as it read before'; 0 by the template 'total and deterministic' (their statements: YtfciahckbbjmkaaGreatTotals.lean).
  GIVEN WITH THE SEED: the statements are not yours to turn. If you find one false, say at which input.
  Laid BY PROGRAM, IN A SANDBOX (cutbox-rows.mjs): the forced cells as the released guide's own fill.sh prints them over the translation d6a20328c71e8a32… (all of the seat's roots in one cut). By AI agents, Wed Nov 11 2026. No macro, syntax, notation, axiom, sorry.
-/
import Derived.Test.YtfciahckbbjmkaaGreatChecked
import GoSem.Claim
import GoSem.ClaimJoined
import GoSem.ClaimMapViews
import Derived.JoinedTies
import Derived.KernelRfl
namespace Go.Proofs.YtfciahckbbjmkaaGreat
/- THE CELL 'sum', in the pinned program and in every row, IS THE sha256 OF THE DUMP (.gsa) THAT YtfciahckbbjmkaaGreatProg.lean LOADS. Nothing in Lean hashes anything: it is a label: what it is worth is what the hold of that sum in a sandbox is worth. -/
noncomputable def Tryz.pinned : Pinned := { name := "ytfciahckbbjmkaagreat", sum := "d6a20328c71e8a32818bd1887e5125db2c57459a087c991af612018b8ac38bf5", checked := Tryz.checked }
namespace Rows
def none {H : Type} : Left H := { results := [], args := [] }

/-- 'archipelagolaw27.SayGrows': WHATEVER THE INPUT: true; the input reads as it did. -/
def sayGrowsSpec : ChangeSpec := { name := "sayGrows", fn := fun _ => fun
  | [d1, d2, d3] => { results := [.lit (.bool true)], args := [d1, d2, d3] }
  | _ => none }
def sayGrowsRow : OpenClaim := { program := "ytfciahckbbjmkaagreat", sum := "d6a20328c71e8a32818bd1887e5125db2c57459a087c991af612018b8ac38bf5", func := "archipelago/archipelagolaw27.SayGrows", spec := "sayGrows", unfollowed := true, recurses := true, plainKeys := false, apart := false }
def SayGrowsSaid : Prop := sayGrowsRow.holds Tryz.pinned (OpenSpec.ofChange sayGrowsSpec)

/-- ITS FALSE NEIGHBOUR: 'it returns false'. Refute it at one input. -/
def sayGrowsWrong : ChangeSpec := { name := "sayGrows", fn := fun _ => fun
  | [d1, d2, d3] => { results := [.lit (.bool false)], args := [d1, d2, d3] }
  | _ => none }
def SayGrowsWrongFalsely : Prop := sayGrowsRow.holds Tryz.pinned (OpenSpec.ofChange sayGrowsWrong)

/-- 'archipelagolaw22.GrowStays': WHATEVER THE INPUT: true; the input reads as it did. -/
def growStaysSpec : ChangeSpec := { name := "growStays", fn := fun _ => fun
  | [d1, d2] => { results := [.lit (.bool true)], args := [d1, d2] }
  | _ => none }
def growStaysRow : OpenClaim := { program := "ytfciahckbbjmkaagreat", sum := "d6a20328c71e8a32818bd1887e5125db2c57459a087c991af612018b8ac38bf5", func := "archipelago/archipelagolaw22.GrowStays", spec := "growStays", unfollowed := true, recurses := true, plainKeys := false, apart := false }
def GrowStaysSaid : Prop := growStaysRow.holds Tryz.pinned (OpenSpec.ofChange growStaysSpec)

/-- ITS FALSE NEIGHBOUR: 'it returns false'. Refute it at one input. -/
def growStaysWrong : ChangeSpec := { name := "growStays", fn := fun _ => fun
  | [d1, d2] => { results := [.lit (.bool false)], args := [d1, d2] }
  | _ => none }
def GrowStaysWrongFalsely : Prop := growStaysRow.holds Tryz.pinned (OpenSpec.ofChange growStaysWrong)

/-- 'archipelagolaw22.GrowTrees': WHATEVER THE INPUT: true; the input reads as it did. -/
def growTreesSpec : ChangeSpec := { name := "growTrees", fn := fun _ => fun
  | [d1, d2] => { results := [.lit (.bool true)], args := [d1, d2] }
  | _ => none }
def growTreesRow : OpenClaim := { program := "ytfciahckbbjmkaagreat", sum := "d6a20328c71e8a32818bd1887e5125db2c57459a087c991af612018b8ac38bf5", func := "archipelago/archipelagolaw22.GrowTrees", spec := "growTrees", unfollowed := true, recurses := true, plainKeys := false, apart := false }
def GrowTreesSaid : Prop := growTreesRow.holds Tryz.pinned (OpenSpec.ofChange growTreesSpec)

/-- ITS FALSE NEIGHBOUR: 'it returns false'. Refute it at one input. -/
def growTreesWrong : ChangeSpec := { name := "growTrees", fn := fun _ => fun
  | [d1, d2] => { results := [.lit (.bool false)], args := [d1, d2] }
  | _ => none }
def GrowTreesWrongFalsely : Prop := growTreesRow.holds Tryz.pinned (OpenSpec.ofChange growTreesWrong)

/- THE SECOND FORM. 'bulk': how many values and letters a reading holds, each counted each time it is reached (what is shared counts as often as it is met; a slice's spare places count too). A statement '..UptoSaid' is the law's where the arguments, and the package variables that the reading takes, are together of bulk at most 1048576: NARROWER than '..Said'. Prove '..Said' where nothing that the law and all that it calls make is longer than what came in: it says more and counts as full. Else prove '..UptoSaid'. A law counts once. -/
mutual
def uptoBulk {H : Type} : DataW H → Nat
  | .lit (.string bytes) => bytes.length + 1
  | .lit _ => 1
  | .nil => 1
  | .ptr d => uptoBulk d + 1
  | .slice elems spare => uptoBulkAll elems + uptoBulkAll spare + 1
  | .agg parts => uptoBulkAll parts + 1
  | .iface _ d => uptoBulk d + 1
  | .map entries => uptoBulkEntries entries + 1
  | .held _ => 1
def uptoBulkAll {H : Type} : List (DataW H) → Nat
  | [] => 0
  | d :: r => uptoBulk d + uptoBulkAll r
def uptoBulkEntries {H : Type} : List (Lit × DataW H) → Nat
  | [] => 0
  | x :: r => uptoBulkEntry x + uptoBulkEntries r
def uptoBulkEntry {H : Type} : Lit × DataW H → Nat
  | (.string bytes, d) => bytes.length + uptoBulk d + 1
  | (_, d) => uptoBulk d + 1
 end
def uptoSmall : (H : Type) → List (DataW H) → Bool := fun _ ds => decide (uptoBulkAll ds ≤ 1048576)
def OpenSpec.upto (s : _root_.Go.ChangeSpec) : _root_.Go.OpenSpec := { _root_.Go.OpenSpec.ofChange s with cond := some uptoSmall }

/-- 'archipelagolaw27.SayGrows', WHERE WHAT IT READS IS OF BULK AT MOST 1048576: true; the input reads as it did. -/
def sayGrowsUptoRow : OpenClaim := { program := "ytfciahckbbjmkaagreat", sum := "d6a20328c71e8a32818bd1887e5125db2c57459a087c991af612018b8ac38bf5", func := "archipelago/archipelagolaw27.SayGrows", spec := "sayGrows", unfollowed := true, recurses := true, plainKeys := false, apart := false, narrowed := true }
def SayGrowsUptoSaid : Prop := sayGrowsUptoRow.holds Tryz.pinned (OpenSpec.upto sayGrowsSpec)

/-- 'archipelagolaw22.GrowStays', WHERE WHAT IT READS IS OF BULK AT MOST 1048576: true; the input reads as it did. -/
def growStaysUptoRow : OpenClaim := { program := "ytfciahckbbjmkaagreat", sum := "d6a20328c71e8a32818bd1887e5125db2c57459a087c991af612018b8ac38bf5", func := "archipelago/archipelagolaw22.GrowStays", spec := "growStays", unfollowed := true, recurses := true, plainKeys := false, apart := false, narrowed := true }
def GrowStaysUptoSaid : Prop := growStaysUptoRow.holds Tryz.pinned (OpenSpec.upto growStaysSpec)

/-- 'archipelagolaw22.GrowTrees', WHERE WHAT IT READS IS OF BULK AT MOST 1048576: true; the input reads as it did. -/
def growTreesUptoRow : OpenClaim := { program := "ytfciahckbbjmkaagreat", sum := "d6a20328c71e8a32818bd1887e5125db2c57459a087c991af612018b8ac38bf5", func := "archipelago/archipelagolaw22.GrowTrees", spec := "growTrees", unfollowed := true, recurses := true, plainKeys := false, apart := false, narrowed := true }
def GrowTreesUptoSaid : Prop := growTreesUptoRow.holds Tryz.pinned (OpenSpec.upto growTreesSpec)

end Rows
end Go.Proofs.YtfciahckbbjmkaaGreat
