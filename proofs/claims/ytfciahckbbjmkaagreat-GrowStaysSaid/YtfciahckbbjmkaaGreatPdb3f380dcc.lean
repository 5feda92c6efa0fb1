/- A part of the proofs of this seat: G22sP10 G22sP11 G22sP. -/
import Derived.Test.YtfciahckbbjmkaaGreatP6bfd6b6cdd
set_option linter.unusedVariables false
set_option linter.unusedSimpArgs false
set_option linter.unusedSectionVars false
section
namespace Go.Pev
open Go.Proofs
set_option maxRecDepth 100000
noncomputable section
-- slices.reverseRangeCmpFunc[archipelago/api.Tie]
abbrev revT_h : Hints := { loop := fun n => match n with | 0 => loopBy 1 34 revT_i0 revT_o0 revT_s0 | _ => fun _ _ _ => none, fp := fun n => match n with | 3 => [[], [], [], [], [], [], [0], [0], [], [], [0], [0], [0], [1], [0], [1]] | _ => [] }
theorem revT_s0_ok : ∀ v, revT_s0 v = roundOf Tryz.prog E_pivotT revT_h 1 1 34 (loopOf Tryz.f100 0) revT_i0 revT_o0 v := by
 rintro ⟨a0, a1, a2, ⟨⟩⟩
 kernel_rfl
theorem revT_q0 : loopList (loopOf Tryz.f100 0) 1 = [] := by kernel_rfl
theorem revT_l0 : CodeOK Tryz.prog 1 (.loop (loopOf Tryz.f100 0)) (revT_h.loop 0) := loop_ok E_pivotT_ok (revT_s0_ok) (LoopsOK_of revT_q0 trivial)
theorem revT_okd : ∀ v, revT_d v = pevCall Tryz.prog E_pivotT revT_h Tryz.f100 revT_i revT_o revT_r v := by
 rintro ⟨a0, a1, a2, ⟨⟩⟩
 kernel_rfl
theorem revT_q : loopList (bodyOf Tryz.f100) 0 = [(0, loopOf Tryz.f100 0)] := by kernel_rfl
theorem revT_spec : SpecOK Tryz.prog 100 (mkCall 4 revT_i revT_o revT_r revT) := call_spec E_pivotT_ok Tryz.func100 (by kernel_rfl) (by kernel_rfl) rfl (fun v => (revT_eq v).trans (revT_okd v)) (LoopsOK_of revT_q ⟨revT_l0, trivial⟩)
def E_revT : Env := E_pivotT.extC 100 3 42 (mkCall 4 revT_i revT_o revT_r revT)
theorem E_revT_ok : EnvOK Tryz.prog E_revT := Env.extC_ok E_pivotT_ok revT_spec (mkCall_in rfl rfl)
-- slices.partialInsertionSortCmpFunc[archipelago/api.Tie]
abbrev partInsT_h : Hints := { loop := fun n => match n with | 0 => loopBy 1 141 partInsT_i0 partInsT_o0 partInsT_s0 | 1 => loopBy 1 141 partInsT_i1 partInsT_o1 partInsT_s1 | 2 => loopBy 1 141 partInsT_i2 partInsT_o2 partInsT_s2 | 3 => loopBy 1 141 partInsT_i3 partInsT_o3 partInsT_s3 | _ => fun _ _ _ => none, fp := fun n => match n with | 11 => [[], [], [], [], [], [], [], [], [0], [0], [], [], [0], [0], [0], [1], [0], [1]] | 5 => [[], [], [], [], [], [], [], [0], [0], [], [], [], [0], [0], [], [], [], []] | 17 => [[], [], [], [], [], [], [], [], [0], [0], [], [], [0], [0], [0], [1], [0], [1]] | 16 => [[], [], [], [0], [0], [], [], [], [0], [0], [], [], []] | 23 => [[], [], [], [], [], [], [], [], [0], [0], [], [], [0], [0], [0], [1], [0], [1]] | 22 => [[], [], [], [0], [0], [], [], [], [0], [0], [], [], []] | _ => [] }
theorem partInsT_s3_ok : ∀ v, partInsT_s3 v = roundOf Tryz.prog E_revT partInsT_h 4 1 141 (loopOf Tryz.f101 3) partInsT_i3 partInsT_o3 v := by
 rintro ⟨a0, a1, a2, a3, a4, a5, ⟨⟩⟩
 kernel_rfl
theorem partInsT_q3 : loopList (loopOf Tryz.f101 3) 4 = [] := by kernel_rfl
theorem partInsT_l3 : CodeOK Tryz.prog 1 (.loop (loopOf Tryz.f101 3)) (partInsT_h.loop 3) := loop_ok E_revT_ok (partInsT_s3_ok) (LoopsOK_of partInsT_q3 trivial)
theorem partInsT_s2_ok : ∀ v, partInsT_s2 v = roundOf Tryz.prog E_revT partInsT_h 3 1 141 (loopOf Tryz.f101 2) partInsT_i2 partInsT_o2 v := by
 rintro ⟨a0, a1, a2, a3, a4, a5, ⟨⟩⟩
 kernel_rfl
theorem partInsT_q2 : loopList (loopOf Tryz.f101 2) 3 = [] := by kernel_rfl
theorem partInsT_l2 : CodeOK Tryz.prog 1 (.loop (loopOf Tryz.f101 2)) (partInsT_h.loop 2) := loop_ok E_revT_ok (partInsT_s2_ok) (LoopsOK_of partInsT_q2 trivial)
theorem partInsT_s1_ok : ∀ v, partInsT_s1 v = roundOf Tryz.prog E_revT partInsT_h 2 1 141 (loopOf Tryz.f101 1) partInsT_i1 partInsT_o1 v := by
 rintro ⟨a0, a1, a2, a3, a4, ⟨⟩⟩
 kernel_rfl
theorem partInsT_q1 : loopList (loopOf Tryz.f101 1) 2 = [] := by kernel_rfl
theorem partInsT_l1 : CodeOK Tryz.prog 1 (.loop (loopOf Tryz.f101 1)) (partInsT_h.loop 1) := loop_ok E_revT_ok (partInsT_s1_ok) (LoopsOK_of partInsT_q1 trivial)
theorem partInsT_s0_ok : ∀ v, partInsT_s0 v = roundOf Tryz.prog E_revT partInsT_h 1 1 141 (loopOf Tryz.f101 0) partInsT_i0 partInsT_o0 v := by
 rintro ⟨a0, a1, a2, a3, a4, ⟨⟩⟩
 kernel_rfl
theorem partInsT_q0 : loopList (loopOf Tryz.f101 0) 1 = [(1, loopOf Tryz.f101 1), (2, loopOf Tryz.f101 2), (3, loopOf Tryz.f101 3)] := by kernel_rfl
theorem partInsT_l0 : CodeOK Tryz.prog 1 (.loop (loopOf Tryz.f101 0)) (partInsT_h.loop 0) := loop_ok E_revT_ok (partInsT_s0_ok) (LoopsOK_of partInsT_q0 ⟨partInsT_l1, partInsT_l2, partInsT_l3, trivial⟩)
theorem partInsT_okd : ∀ v, partInsT_d v = pevCall Tryz.prog E_revT partInsT_h Tryz.f101 partInsT_i partInsT_o partInsT_r v := by
 rintro ⟨a0, a1, a2, ⟨⟩⟩
 kernel_rfl
theorem partInsT_q : loopList (bodyOf Tryz.f101) 0 = [(0, loopOf Tryz.f101 0)] := by kernel_rfl
theorem partInsT_spec : SpecOK Tryz.prog 101 (mkCall 4 partInsT_i partInsT_o partInsT_r partInsT) := call_spec E_revT_ok Tryz.func101 (by kernel_rfl) (by kernel_rfl) rfl (fun v => (partInsT_eq v).trans (partInsT_okd v)) (LoopsOK_of partInsT_q ⟨partInsT_l0, trivial⟩)
def E_partInsT : Env := E_revT.extC 101 3 42 (mkCall 4 partInsT_i partInsT_o partInsT_r partInsT)
theorem E_partInsT_ok : EnvOK Tryz.prog E_partInsT := Env.extC_ok E_revT_ok partInsT_spec (mkCall_in rfl rfl)
-- slices.partitionEqualCmpFunc[archipelago/api.Tie]
abbrev partEqT_h : Hints := { loop := fun n => match n with | 0 => loopBy 1 90 partEqT_i0 partEqT_o0 partEqT_s0 | 1 => loopBy 1 90 partEqT_i1 partEqT_o1 partEqT_s1 | 2 => loopBy 1 90 partEqT_i2 partEqT_o2 partEqT_s2 | _ => fun _ _ _ => none, fp := fun n => match n with | 8 => [[], [], [], [], [], [], [0], [0], [], [], [0], [0], [0], [1], [0], [1]] | 3 => [[], [], [], [], [], [], [], [0], [0], [], [], [0], [0], [], [], [], []] | 5 => [[], [], [], [], [], [], [], [0], [0], [], [], [0], [0], [], [], []] | 1 => [[], [], [], [], [], [], [0], [0], [], [], [0], [0], [0], [1], [0], [1]] | _ => [] }
theorem partEqT_s2_ok : ∀ v, partEqT_s2 v = roundOf Tryz.prog E_partInsT partEqT_h 3 1 90 (loopOf Tryz.f102 2) partEqT_i2 partEqT_o2 v := by
 rintro ⟨a0, a1, a2, a3, ⟨⟩⟩
 kernel_rfl
theorem partEqT_q2 : loopList (loopOf Tryz.f102 2) 3 = [] := by kernel_rfl
theorem partEqT_l2 : CodeOK Tryz.prog 1 (.loop (loopOf Tryz.f102 2)) (partEqT_h.loop 2) := loop_ok E_partInsT_ok (partEqT_s2_ok) (LoopsOK_of partEqT_q2 trivial)
theorem partEqT_s1_ok : ∀ v, partEqT_s1 v = roundOf Tryz.prog E_partInsT partEqT_h 2 1 90 (loopOf Tryz.f102 1) partEqT_i1 partEqT_o1 v := by
 rintro ⟨a0, a1, a2, a3, ⟨⟩⟩
 kernel_rfl
theorem partEqT_q1 : loopList (loopOf Tryz.f102 1) 2 = [] := by kernel_rfl
theorem partEqT_l1 : CodeOK Tryz.prog 1 (.loop (loopOf Tryz.f102 1)) (partEqT_h.loop 1) := loop_ok E_partInsT_ok (partEqT_s1_ok) (LoopsOK_of partEqT_q1 trivial)
theorem partEqT_s0_ok : ∀ v, partEqT_s0 v = roundOf Tryz.prog E_partInsT partEqT_h 1 1 90 (loopOf Tryz.f102 0) partEqT_i0 partEqT_o0 v := by
 rintro ⟨a0, a1, a2, a3, ⟨⟩⟩
 kernel_rfl
theorem partEqT_q0 : loopList (loopOf Tryz.f102 0) 1 = [(1, loopOf Tryz.f102 1), (2, loopOf Tryz.f102 2)] := by kernel_rfl
theorem partEqT_l0 : CodeOK Tryz.prog 1 (.loop (loopOf Tryz.f102 0)) (partEqT_h.loop 0) := loop_ok E_partInsT_ok (partEqT_s0_ok) (LoopsOK_of partEqT_q0 ⟨partEqT_l1, partEqT_l2, trivial⟩)
theorem partEqT_okd : ∀ v, partEqT_d v = pevCall Tryz.prog E_partInsT partEqT_h Tryz.f102 partEqT_i partEqT_o partEqT_r v := by
 rintro ⟨a0, a1, a2, a3, ⟨⟩⟩
 kernel_rfl
theorem partEqT_q : loopList (bodyOf Tryz.f102) 0 = [(0, loopOf Tryz.f102 0)] := by kernel_rfl
theorem partEqT_spec : SpecOK Tryz.prog 102 (mkCall 5 partEqT_i partEqT_o partEqT_r partEqT) := call_spec E_partInsT_ok Tryz.func102 (by kernel_rfl) (by kernel_rfl) rfl (fun v => (partEqT_eq v).trans (partEqT_okd v)) (LoopsOK_of partEqT_q ⟨partEqT_l0, trivial⟩)
def E_partEqT : Env := E_partInsT.extC 102 4 42 (mkCall 5 partEqT_i partEqT_o partEqT_r partEqT)
theorem E_partEqT_ok : EnvOK Tryz.prog E_partEqT := Env.extC_ok E_partInsT_ok partEqT_spec (mkCall_in rfl rfl)
-- slices.partitionCmpFunc[archipelago/api.Tie]
abbrev partT_h : Hints := { loop := fun n => match n with | 0 => loopBy 1 178 partT_i0 partT_o0 partT_s0 | 1 => loopBy 1 178 partT_i1 partT_o1 partT_s1 | 2 => loopBy 1 178 partT_i2 partT_o2 partT_s2 | 3 => loopBy 1 178 partT_i3 partT_o3 partT_s3 | 4 => loopBy 1 178 partT_i4 partT_o4 partT_s4 | _ => fun _ _ _ => none, fp := fun n => match n with | 3 => [[], [], [], [], [], [], [], [0], [0], [], [], [0], [0], [], [], []] | 5 => [[], [], [], [], [], [], [], [0], [0], [], [], [0], [0], [], [], [], []] | 18 => [[], [], [], [], [], [], [0], [0], [], [], [0], [0], [0], [1], [0], [1]] | 13 => [[], [], [], [], [], [], [], [0], [0], [], [], [0], [0], [], [], []] | 15 => [[], [], [], [], [], [], [], [0], [0], [], [], [0], [0], [], [], [], []] | 21 => [[], [], [], [], [], [], [0], [0], [], [], [0], [0], [0], [1], [0], [1]] | 10 => [[], [], [], [], [], [], [0], [0], [], [], [0], [0], [0], [1], [0], [1]] | 8 => [[], [], [], [], [], [], [0], [0], [], [], [0], [0], [0], [1], [0], [1]] | 1 => [[], [], [], [], [], [], [0], [0], [], [], [0], [0], [0], [1], [0], [1]] | _ => [] }
theorem partT_s4_ok : ∀ v, partT_s4 v = roundOf Tryz.prog E_partEqT partT_h 5 1 178 (loopOf Tryz.f103 4) partT_i4 partT_o4 v := by
 rintro ⟨a0, a1, a2, a3, ⟨⟩⟩
 kernel_rfl
theorem partT_q4 : loopList (loopOf Tryz.f103 4) 5 = [] := by kernel_rfl
theorem partT_l4 : CodeOK Tryz.prog 1 (.loop (loopOf Tryz.f103 4)) (partT_h.loop 4) := loop_ok E_partEqT_ok (partT_s4_ok) (LoopsOK_of partT_q4 trivial)
theorem partT_s3_ok : ∀ v, partT_s3 v = roundOf Tryz.prog E_partEqT partT_h 4 1 178 (loopOf Tryz.f103 3) partT_i3 partT_o3 v := by
 rintro ⟨a0, a1, a2, a3, ⟨⟩⟩
 kernel_rfl
theorem partT_q3 : loopList (loopOf Tryz.f103 3) 4 = [] := by kernel_rfl
theorem partT_l3 : CodeOK Tryz.prog 1 (.loop (loopOf Tryz.f103 3)) (partT_h.loop 3) := loop_ok E_partEqT_ok (partT_s3_ok) (LoopsOK_of partT_q3 trivial)
theorem partT_s2_ok : ∀ v, partT_s2 v = roundOf Tryz.prog E_partEqT partT_h 3 1 178 (loopOf Tryz.f103 2) partT_i2 partT_o2 v := by
 rintro ⟨a0, a1, a2, a3, ⟨⟩⟩
 kernel_rfl
theorem partT_q2 : loopList (loopOf Tryz.f103 2) 3 = [(3, loopOf Tryz.f103 3), (4, loopOf Tryz.f103 4)] := by kernel_rfl
theorem partT_l2 : CodeOK Tryz.prog 1 (.loop (loopOf Tryz.f103 2)) (partT_h.loop 2) := loop_ok E_partEqT_ok (partT_s2_ok) (LoopsOK_of partT_q2 ⟨partT_l3, partT_l4, trivial⟩)
theorem partT_s1_ok : ∀ v, partT_s1 v = roundOf Tryz.prog E_partEqT partT_h 2 1 178 (loopOf Tryz.f103 1) partT_i1 partT_o1 v := by
 rintro ⟨a0, a1, a2, a3, ⟨⟩⟩
 kernel_rfl
theorem partT_q1 : loopList (loopOf Tryz.f103 1) 2 = [] := by kernel_rfl
theorem partT_l1 : CodeOK Tryz.prog 1 (.loop (loopOf Tryz.f103 1)) (partT_h.loop 1) := loop_ok E_partEqT_ok (partT_s1_ok) (LoopsOK_of partT_q1 trivial)
theorem partT_s0_ok : ∀ v, partT_s0 v = roundOf Tryz.prog E_partEqT partT_h 1 1 178 (loopOf Tryz.f103 0) partT_i0 partT_o0 v := by
 rintro ⟨a0, a1, a2, a3, ⟨⟩⟩
 kernel_rfl
theorem partT_q0 : loopList (loopOf Tryz.f103 0) 1 = [] := by kernel_rfl
theorem partT_l0 : CodeOK Tryz.prog 1 (.loop (loopOf Tryz.f103 0)) (partT_h.loop 0) := loop_ok E_partEqT_ok (partT_s0_ok) (LoopsOK_of partT_q0 trivial)
theorem partT_okd : ∀ v, partT_d v = pevCall Tryz.prog E_partEqT partT_h Tryz.f103 partT_i partT_o partT_r v := by
 rintro ⟨a0, a1, a2, a3, ⟨⟩⟩
 kernel_rfl
theorem partT_q : loopList (bodyOf Tryz.f103) 0 = [(0, loopOf Tryz.f103 0), (1, loopOf Tryz.f103 1), (2, loopOf Tryz.f103 2)] := by kernel_rfl
theorem partT_spec : SpecOK Tryz.prog 103 (mkCall 5 partT_i partT_o partT_r partT) := call_spec E_partEqT_ok Tryz.func103 (by kernel_rfl) (by kernel_rfl) rfl (fun v => (partT_eq v).trans (partT_okd v)) (LoopsOK_of partT_q ⟨partT_l0, partT_l1, partT_l2, trivial⟩)
def E_partT : Env := E_partEqT.extC 103 4 42 (mkCall 5 partT_i partT_o partT_r partT)
theorem E_partT_ok : EnvOK Tryz.prog E_partT := Env.extC_ok E_partEqT_ok partT_spec (mkCall_in rfl rfl)
-- slices.pdqsortCmpFunc[archipelago/api.Tie]
abbrev pdqT_h (self : (List (Int × Int × Int × Bool × Unit) × Int × Int × Int × Unit) → Option ((List (Int × Int × Int × Bool × Unit) × Unit))) : Hints := { loop := fun n => match n with | 0 => loopBy 1 148 pdqT_i0 pdqT_o0 (pdqT_s0 self) | _ => fun _ _ _ => none, fp := fun n => match n with | 17 => [[], [], [], [], [], [], [], [0], [0], [], [], [0], [0], [], [], [], []] | _ => [] }
abbrev pdqT_E (self : (List (Int × Int × Int × Bool × Unit) × Int × Int × Int × Unit) → Option ((List (Int × Int × Int × Bool × Unit) × Unit))) : Env := E_partT.ext 72 false true (mkCall 5 pdqT_i pdqT_o pdqT_r self)
theorem pdqT_s0_ok (self : (List (Int × Int × Int × Bool × Unit) × Int × Int × Int × Unit) → Option ((List (Int × Int × Int × Bool × Unit) × Unit))) : ∀ v, pdqT_s0 self v = roundOf Tryz.prog (pdqT_E self) (pdqT_h self) 1 1 148 (loopOf Tryz.f72 0) pdqT_i0 pdqT_o0 v := by
 rintro ⟨a0, a1, a2, a3, a4, a5, ⟨⟩⟩
 kernel_rfl
theorem pdqT_q0 : loopList (loopOf Tryz.f72 0) 1 = [] := by kernel_rfl
theorem pdqT_l0 (self : (List (Int × Int × Int × Bool × Unit) × Int × Int × Int × Unit) → Option ((List (Int × Int × Int × Bool × Unit) × Unit))) (hE : EnvOK Tryz.prog (pdqT_E self)) : CodeOK Tryz.prog 1 (.loop (loopOf Tryz.f72 0)) ((pdqT_h self).loop 0) := loop_ok hE (pdqT_s0_ok self) (LoopsOK_of pdqT_q0 trivial)
theorem pdqT_okd (self : (List (Int × Int × Int × Bool × Unit) × Int × Int × Int × Unit) → Option ((List (Int × Int × Int × Bool × Unit) × Unit))) : ∀ v, pdqT_d self v = pevCall Tryz.prog (pdqT_E self) (pdqT_h self) Tryz.f72 pdqT_i pdqT_o pdqT_r v := by
 rintro ⟨a0, a1, a2, a3, ⟨⟩⟩
 kernel_rfl
theorem pdqT_q : loopList (bodyOf Tryz.f72) 0 = [(0, loopOf Tryz.f72 0)] := by kernel_rfl
theorem pdqT_fspec : ∀ n, SpecOK Tryz.prog 72 (mkCall 5 pdqT_i pdqT_o pdqT_r (pdqT_f n)) := by
 intro n
 induction n with
 | zero => exact mkCall_none fun _ => rfl
 | succ n ih =>
  have hE : EnvOK Tryz.prog (pdqT_E (pdqT_f n)) := Env.ext_ok E_partT_ok ih ((by simp)) (fun _ => mkCall_in rfl rfl)
  let self := pdqT_f n
  exact call_spec hE Tryz.func72 (by kernel_rfl) (by kernel_rfl) rfl (pdqT_okd self) (LoopsOK_of pdqT_q ⟨(pdqT_l0 self hE), trivial⟩)
theorem pdqT_spec : SpecOK Tryz.prog 72 (mkCall 5 pdqT_i pdqT_o pdqT_r pdqT) := by
 have e : pdqT = pdqT_f 100 := funext pdqT_eq
 rw [e]
 exact pdqT_fspec _
def E_pdqT : Env := E_partT.extC 72 4 42 (mkCall 5 pdqT_i pdqT_o pdqT_r pdqT)
theorem E_pdqT_ok : EnvOK Tryz.prog E_pdqT := Env.extC_ok E_partT_ok pdqT_spec (mkCall_in rfl rfl)
-- slices.SortFunc[[]archipelago/api.Tie,archipelago/api.Tie]
abbrev sortT_h : Hints := {  }
theorem sortT_okd : ∀ v, sortT_d v = pevCall Tryz.prog E_pdqT sortT_h Tryz.f41 sortT_i sortT_o sortT_r v := by
 rintro ⟨a0, ⟨⟩⟩
 kernel_rfl
theorem sortT_q : loopList (bodyOf Tryz.f41) 0 = [] := by kernel_rfl
theorem sortT_spec : SpecOK Tryz.prog 41 (mkCall 2 sortT_i sortT_o sortT_r sortT) := call_spec E_pdqT_ok Tryz.func41 (by kernel_rfl) (by kernel_rfl) rfl (fun v => (sortT_eq v).trans (sortT_okd v)) (LoopsOK_of sortT_q trivial)
def E_sortT : Env := E_pdqT.extC 41 1 42 (mkCall 2 sortT_i sortT_o sortT_r sortT)
theorem E_sortT_ok : EnvOK Tryz.prog E_sortT := Env.extC_ok E_pdqT_ok sortT_spec (mkCall_in rfl rfl)
-- slices.Grow[[]archipelago/api.Edge,archipelago/api.Edge]
abbrev growE_h : Hints := {  }
theorem growE_okd : ∀ v, growE_d v = pevCall Tryz.prog E_sortT growE_h Tryz.f77 growE_i growE_o growE_r v := by
 rintro ⟨a0, ⟨⟩⟩
 kernel_rfl
theorem growE_q : loopList (bodyOf Tryz.f77) 0 = [] := by kernel_rfl
theorem growE_spec : SpecOK Tryz.prog 77 (mkCall 2 growE_i growE_o growE_r growE) := call_spec E_sortT_ok Tryz.func77 (by kernel_rfl) (by kernel_rfl) rfl (fun v => (growE_eq v).trans (growE_okd v)) (LoopsOK_of growE_q trivial)
def E_growE : Env := E_sortT.ext 77 false true (mkCall 2 growE_i growE_o growE_r growE)
theorem E_growE_ok : EnvOK Tryz.prog E_growE := Env.ext_ok E_sortT_ok growE_spec ((by simp)) (fun _ => mkCall_in rfl rfl)
-- slices.Concat[[]archipelago/api.Edge,archipelago/api.Edge]
abbrev concatE_h : Hints := { loop := fun n => match n with | 0 => loopBy 0 36 concatE_i0 concatE_o0 concatE_s0 | 1 => loopBy 0 36 concatE_i1 concatE_o1 concatE_s1 | _ => fun _ _ _ => none }
theorem concatE_s1_ok : ∀ v, concatE_s1 v = roundOf Tryz.prog E_growE concatE_h 2 0 36 (loopOf Tryz.f48 1) concatE_i1 concatE_o1 v := by
 rintro ⟨a0, a1, a2, a3, ⟨⟩⟩
 kernel_rfl
theorem concatE_q1 : loopList (loopOf Tryz.f48 1) 2 = [] := by kernel_rfl
theorem concatE_l1 : CodeOK Tryz.prog 0 (.loop (loopOf Tryz.f48 1)) (concatE_h.loop 1) := loop_ok E_growE_ok (concatE_s1_ok) (LoopsOK_of concatE_q1 trivial)
theorem concatE_s0_ok : ∀ v, concatE_s0 v = roundOf Tryz.prog E_growE concatE_h 1 0 36 (loopOf Tryz.f48 0) concatE_i0 concatE_o0 v := by
 rintro ⟨a0, a1, a2, a3, a4, ⟨⟩⟩
 kernel_rfl
theorem concatE_q0 : loopList (loopOf Tryz.f48 0) 1 = [] := by kernel_rfl
theorem concatE_l0 : CodeOK Tryz.prog 0 (.loop (loopOf Tryz.f48 0)) (concatE_h.loop 0) := loop_ok E_growE_ok (concatE_s0_ok) (LoopsOK_of concatE_q0 trivial)
theorem concatE_okd : ∀ v, concatE_d v = pevCall Tryz.prog E_growE concatE_h Tryz.f48 concatE_i concatE_o concatE_r v := by
 rintro ⟨a0, ⟨⟩⟩
 kernel_rfl
theorem concatE_q : loopList (bodyOf Tryz.f48) 0 = [(0, loopOf Tryz.f48 0), (1, loopOf Tryz.f48 1)] := by kernel_rfl
theorem concatE_spec : SpecOK Tryz.prog 48 (mkCall 1 concatE_i concatE_o concatE_r concatE) := call_spec E_growE_ok Tryz.func48 (by kernel_rfl) (by kernel_rfl) rfl (fun v => (concatE_eq v).trans (concatE_okd v)) (LoopsOK_of concatE_q ⟨concatE_l0, concatE_l1, trivial⟩)
def E_concatE : Env := E_growE.ext 48 true true (mkCall 1 concatE_i concatE_o concatE_r concatE)
theorem E_concatE_ok : EnvOK Tryz.prog E_concatE := Env.ext_ok E_growE_ok concatE_spec (fun _ => mkCall_local rfl rfl) (fun _ => mkCall_in rfl rfl)
-- 40 cloneT: slices.Clone
theorem cloneT_n : (Tryz.f40.name == "runtime.NumGoroutine") = false := by kernel_rfl
theorem cloneT_shape : CloneShape Tryz.prog Tryz.f40 22 42 (.prod (.int .i64) (.prod (.int .i64) (.prod (.int .i64) (.prod .bool .unit)))) where
 body := by kernel_rfl
 nt := by kernel_rfl
 res := by kernel_rfl
 d := ⟨by kernel_rfl, by kernel_rfl, by kernel_rfl, by kernel_rfl, by kernel_rfl, by kernel_rfl, by kernel_rfl, by kernel_rfl⟩
 g := ⟨by kernel_rfl, by kernel_rfl, by kernel_rfl, by kernel_rfl, by kernel_rfl, by kernel_rfl, by kernel_rfl, by kernel_rfl⟩
 o00 := by kernel_rfl
 o10 := by kernel_rfl
 o11 := by kernel_rfl
 o20 := by kernel_rfl
 o30 := by kernel_rfl
 o31 := by kernel_rfl
 o32 := by kernel_rfl
 o33 := by kernel_rfl
 sl := by kernel_rfl
 z := by kernel_rfl
 by1 := by kernel_rfl
def E_cloneT : Env := E_concatE.ext 40 true true (cloneSpec 42 (.prod (.int .i64) (.prod (.int .i64) (.prod (.int .i64) (.prod .bool .unit)))))
theorem E_cloneT_ok : EnvOK Tryz.prog E_cloneT := Env.ext_ok E_concatE_ok (clone_ok cloneT_shape Tryz.func40 cloneT_n) (fun _ => cloneSpec_local _ _) (fun _ => (cloneSpec_local _ _).toIn)
-- archipelago/level.Forest
abbrev lforest_h : Hints := { fp := fun n => match n with | 3 => [[0], [0], [0], [], [], [12], [], [], [3], []] | _ => [] }
theorem lforest_okd : ∀ v, lforest_d v = pevCall Tryz.prog E_cloneT lforest_h Tryz.f38 lforest_i lforest_o lforest_r v := by
 rintro ⟨a0, a1, ⟨⟩⟩
 kernel_rfl
theorem lforest_q : loopList (bodyOf Tryz.f38) 0 = [] := by kernel_rfl
theorem lforest_spec : SpecOK Tryz.prog 38 (mkCall 2 lforest_i lforest_o lforest_r lforest) := call_spec E_cloneT_ok Tryz.func38 (by kernel_rfl) (by kernel_rfl) rfl (fun v => (lforest_eq v).trans (lforest_okd v)) (LoopsOK_of lforest_q trivial)
def E_lforest : Env := E_cloneT.ext 38 true true (mkCall 2 lforest_i lforest_o lforest_r lforest)
theorem E_lforest_ok : EnvOK Tryz.prog E_lforest := Env.ext_ok E_cloneT_ok lforest_spec (fun _ => mkCall_local rfl rfl) (fun _ => mkCall_in rfl rfl)
-- archipelago/span.Contract
abbrev scontract_h : Hints := { loop := fun n => match n with | 0 => loopBy 0 52 scontract_i0 scontract_o0 scontract_s0 | _ => fun _ _ _ => none }
theorem scontract_s0_ok : ∀ v, scontract_s0 v = roundOf Tryz.prog E_lforest scontract_h 1 0 52 (loopOf Tryz.f69 0) scontract_i0 scontract_o0 v := by
 rintro ⟨a0, a1, a2, a3, a4, a5, ⟨⟩⟩
 kernel_rfl
theorem scontract_q0 : loopList (loopOf Tryz.f69 0) 1 = [] := by kernel_rfl
theorem scontract_l0 : CodeOK Tryz.prog 0 (.loop (loopOf Tryz.f69 0)) (scontract_h.loop 0) := loop_ok E_lforest_ok (scontract_s0_ok) (LoopsOK_of scontract_q0 trivial)
theorem scontract_okd : ∀ v, scontract_d v = pevCall Tryz.prog E_lforest scontract_h Tryz.f69 scontract_i scontract_o scontract_r v := by
 rintro ⟨a0, a1, ⟨⟩⟩
 kernel_rfl
theorem scontract_q : loopList (bodyOf Tryz.f69) 0 = [(0, loopOf Tryz.f69 0)] := by kernel_rfl
theorem scontract_spec : SpecOK Tryz.prog 69 (mkCall 2 scontract_i scontract_o scontract_r scontract) := call_spec E_lforest_ok Tryz.func69 (by kernel_rfl) (by kernel_rfl) rfl (fun v => (scontract_eq v).trans (scontract_okd v)) (LoopsOK_of scontract_q ⟨scontract_l0, trivial⟩)
def E_scontract : Env := E_lforest.ext 69 true true (mkCall 2 scontract_i scontract_o scontract_r scontract)
theorem E_scontract_ok : EnvOK Tryz.prog E_scontract := Env.ext_ok E_lforest_ok scontract_spec (fun _ => mkCall_local rfl rfl) (fun _ => mkCall_in rfl rfl)
-- archipelago/span.Choose
abbrev schoose_h : Hints := {  }
theorem schoose_okd : ∀ v, schoose_d v = pevCall Tryz.prog E_scontract schoose_h Tryz.f39 schoose_i schoose_o schoose_r v := by
 rintro ⟨a0, a1, ⟨⟩⟩
 kernel_rfl
theorem schoose_q : loopList (bodyOf Tryz.f39) 0 = [] := by kernel_rfl
theorem schoose_spec : SpecOK Tryz.prog 39 (mkCall 2 schoose_i schoose_o schoose_r schoose) := call_spec E_scontract_ok Tryz.func39 (by kernel_rfl) (by kernel_rfl) rfl (fun v => (schoose_eq v).trans (schoose_okd v)) (LoopsOK_of schoose_q trivial)
def E_schoose : Env := E_scontract.ext 39 true true (mkCall 2 schoose_i schoose_o schoose_r schoose)
theorem E_schoose_ok : EnvOK Tryz.prog E_schoose := Env.ext_ok E_scontract_ok schoose_spec (fun _ => mkCall_local rfl rfl) (fun _ => mkCall_in rfl rfl)
end
end Go.Pev
end
section
namespace Go.Pev
open Go.Proofs
set_option maxRecDepth 100000
noncomputable section
-- archipelago/span.Count
abbrev scount_h : Hints := { loop := fun n => match n with | 0 => loopBy 0 32 scount_i0 scount_o0 scount_s0 | _ => fun _ _ _ => none }
theorem scount_s0_ok : ∀ v, scount_s0 v = roundOf Tryz.prog E_schoose scount_h 1 0 32 (loopOf Tryz.f47 0) scount_i0 scount_o0 v := by
 rintro ⟨a0, a1, a2, a3, a4, ⟨⟩⟩
 kernel_rfl
theorem scount_q0 : loopList (loopOf Tryz.f47 0) 1 = [] := by kernel_rfl
theorem scount_l0 : CodeOK Tryz.prog 0 (.loop (loopOf Tryz.f47 0)) (scount_h.loop 0) := loop_ok E_schoose_ok (scount_s0_ok) (LoopsOK_of scount_q0 trivial)
theorem scount_okd : ∀ v, scount_d v = pevCall Tryz.prog E_schoose scount_h Tryz.f47 scount_i scount_o scount_r v := by
 rintro ⟨a0, a1, ⟨⟩⟩
 kernel_rfl
theorem scount_q : loopList (bodyOf Tryz.f47) 0 = [(0, loopOf Tryz.f47 0)] := by kernel_rfl
theorem scount_spec : SpecOK Tryz.prog 47 (mkCall 2 scount_i scount_o scount_r scount) := call_spec E_schoose_ok Tryz.func47 (by kernel_rfl) (by kernel_rfl) rfl (fun v => (scount_eq v).trans (scount_okd v)) (LoopsOK_of scount_q ⟨scount_l0, trivial⟩)
def E_scount : Env := E_schoose.ext 47 true true (mkCall 2 scount_i scount_o scount_r scount)
theorem E_scount_ok : EnvOK Tryz.prog E_scount := Env.ext_ok E_schoose_ok scount_spec (fun _ => mkCall_local rfl rfl) (fun _ => mkCall_in rfl rfl)
-- archipelago/grow.New
abbrev gnew_h : Hints := { loop := fun n => match n with | 0 => loopBy 0 74 gnew_i0 gnew_o0 gnew_s0 | 1 => loopBy 0 74 gnew_i1 gnew_o1 gnew_s1 | _ => fun _ _ _ => none }
theorem gnew_s1_ok : ∀ v, gnew_s1 v = roundOf Tryz.prog E_scount gnew_h 2 0 74 (loopOf Tryz.f34 1) gnew_i1 gnew_o1 v := by
 rintro ⟨a0, a1, a2, a3, a4, a5, a6, ⟨⟩⟩
 kernel_rfl
theorem gnew_q1 : loopList (loopOf Tryz.f34 1) 2 = [] := by kernel_rfl
theorem gnew_l1 : CodeOK Tryz.prog 0 (.loop (loopOf Tryz.f34 1)) (gnew_h.loop 1) := loop_ok E_scount_ok (gnew_s1_ok) (LoopsOK_of gnew_q1 trivial)
theorem gnew_s0_ok : ∀ v, gnew_s0 v = roundOf Tryz.prog E_scount gnew_h 1 0 74 (loopOf Tryz.f34 0) gnew_i0 gnew_o0 v := by
 rintro ⟨a0, a1, a2, a3, a4, a5, a6, ⟨⟩⟩
 kernel_rfl
theorem gnew_q0 : loopList (loopOf Tryz.f34 0) 1 = [] := by kernel_rfl
theorem gnew_l0 : CodeOK Tryz.prog 0 (.loop (loopOf Tryz.f34 0)) (gnew_h.loop 0) := loop_ok E_scount_ok (gnew_s0_ok) (LoopsOK_of gnew_q0 trivial)
theorem gnew_okd : ∀ v, gnew_d v = pevCall Tryz.prog E_scount gnew_h Tryz.f34 gnew_i gnew_o gnew_r v := by
 rintro ⟨a0, a1, ⟨⟩⟩
 kernel_rfl
theorem gnew_q : loopList (bodyOf Tryz.f34) 0 = [(0, loopOf Tryz.f34 0), (1, loopOf Tryz.f34 1)] := by kernel_rfl
theorem gnew_spec : SpecOK Tryz.prog 34 (mkCall 2 gnew_i gnew_o gnew_r gnew) := call_spec E_scount_ok Tryz.func34 (by kernel_rfl) (by kernel_rfl) rfl (fun v => (gnew_eq v).trans (gnew_okd v)) (LoopsOK_of gnew_q ⟨gnew_l0, gnew_l1, trivial⟩)
def E_gnew : Env := E_scount.ext 34 true true (mkCall 2 gnew_i gnew_o gnew_r gnew)
theorem E_gnew_ok : EnvOK Tryz.prog E_gnew := Env.ext_ok E_scount_ok gnew_spec (fun _ => mkCall_local rfl rfl) (fun _ => mkCall_in rfl rfl)
-- archipelago/grow.room
abbrev groom_h : Hints := {  }
theorem groom_okd : ∀ v, groom_d v = pevCall Tryz.prog E_gnew groom_h Tryz.f37 groom_i groom_o groom_r v := by
 rintro ⟨a0, a1, ⟨⟩⟩
 kernel_rfl
theorem groom_q : loopList (bodyOf Tryz.f37) 0 = [] := by kernel_rfl
theorem groom_spec : SpecOK Tryz.prog 37 (mkCall 2 groom_i groom_o groom_r groom) := call_spec E_gnew_ok Tryz.func37 (by kernel_rfl) (by kernel_rfl) rfl (fun v => (groom_eq v).trans (groom_okd v)) (LoopsOK_of groom_q trivial)
def E_groom : Env := E_gnew.ext 37 true true (mkCall 2 groom_i groom_o groom_r groom)
theorem E_groom_ok : EnvOK Tryz.prog E_groom := Env.ext_ok E_gnew_ok groom_spec (fun _ => mkCall_local rfl rfl) (fun _ => mkCall_in rfl rfl)
-- archipelago/grow.Fits
abbrev gfits_h : Hints := {  }
theorem gfits_okd : ∀ v, gfits_d v = pevCall Tryz.prog E_groom gfits_h Tryz.f36 gfits_i gfits_o gfits_r v := by
 rintro ⟨a0, a1, ⟨⟩⟩
 kernel_rfl
theorem gfits_q : loopList (bodyOf Tryz.f36) 0 = [] := by kernel_rfl
theorem gfits_spec : SpecOK Tryz.prog 36 (mkCall 2 gfits_i gfits_o gfits_r gfits) := call_spec E_groom_ok Tryz.func36 (by kernel_rfl) (by kernel_rfl) rfl (fun v => (gfits_eq v).trans (gfits_okd v)) (LoopsOK_of gfits_q trivial)
def E_gfits : Env := E_groom.ext 36 true true (mkCall 2 gfits_i gfits_o gfits_r gfits)
theorem E_gfits_ok : EnvOK Tryz.prog E_gfits := Env.ext_ok E_groom_ok gfits_spec (fun _ => mkCall_local rfl rfl) (fun _ => mkCall_in rfl rfl)
-- archipelago/grow.Add
abbrev gadd_h : Hints := { loop := fun n => match n with | 0 => loopBy 0 74 gadd_i0 gadd_o0 gadd_s0 | _ => fun _ _ _ => none, fp := fun n => match n with | 12 => [[], [10], [10], [10], [10], [], [], [6], [6], [], [], [9, 12], []] | _ => [] }
theorem gadd_s0_ok : ∀ v, gadd_s0 v = roundOf Tryz.prog E_gfits gadd_h 1 0 74 (loopOf Tryz.f13 0) gadd_i0 gadd_o0 v := by
 rintro ⟨a0, a1, a2, a3, a4, a5, a6, a7, ⟨⟩⟩
 kernel_rfl
theorem gadd_q0 : loopList (loopOf Tryz.f13 0) 1 = [] := by kernel_rfl
theorem gadd_l0 : CodeOK Tryz.prog 0 (.loop (loopOf Tryz.f13 0)) (gadd_h.loop 0) := loop_ok E_gfits_ok (gadd_s0_ok) (LoopsOK_of gadd_q0 trivial)
theorem gadd_okd : ∀ v, gadd_d v = pevCall Tryz.prog E_gfits gadd_h Tryz.f13 gadd_i gadd_o gadd_r v := by
 rintro ⟨a0, a1, ⟨⟩⟩
 kernel_rfl
theorem gadd_q : loopList (bodyOf Tryz.f13) 0 = [(0, loopOf Tryz.f13 0)] := by kernel_rfl
theorem gadd_spec : SpecOK Tryz.prog 13 (mkCall 2 gadd_i gadd_o gadd_r gadd) := call_spec E_gfits_ok Tryz.func13 (by kernel_rfl) (by kernel_rfl) rfl (fun v => (gadd_eq v).trans (gadd_okd v)) (LoopsOK_of gadd_q ⟨gadd_l0, trivial⟩)
def E_gadd : Env := E_gfits.ext 13 true true (mkCall 2 gadd_i gadd_o gadd_r gadd)
theorem E_gadd_ok : EnvOK Tryz.prog E_gadd := Env.ext_ok E_gfits_ok gadd_spec (fun _ => mkCall_local rfl rfl) (fun _ => mkCall_in rfl rfl)
-- archipelago/grow.Joined
abbrev gjoined_h : Hints := { fp := fun n => match n with | 6 => [[0], [0], [], [], [10, 2], [26], [28], [], [], [], [], []] | _ => [] }
theorem gjoined_okd : ∀ v, gjoined_d v = pevCall Tryz.prog E_gadd gjoined_h Tryz.f19 gjoined_i gjoined_o gjoined_r v := by
 rintro ⟨a0, a1, ⟨⟩⟩
 kernel_rfl
theorem gjoined_q : loopList (bodyOf Tryz.f19) 0 = [] := by kernel_rfl
theorem gjoined_spec : SpecOK Tryz.prog 19 (mkCall 2 gjoined_i gjoined_o gjoined_r gjoined) := call_spec E_gadd_ok Tryz.func19 (by kernel_rfl) (by kernel_rfl) rfl (fun v => (gjoined_eq v).trans (gjoined_okd v)) (LoopsOK_of gjoined_q trivial)
def E_gjoined : Env := E_gadd.ext 19 true true (mkCall 2 gjoined_i gjoined_o gjoined_r gjoined)
theorem E_gjoined_ok : EnvOK Tryz.prog E_gjoined := Env.ext_ok E_gadd_ok gjoined_spec (fun _ => mkCall_local rfl rfl) (fun _ => mkCall_in rfl rfl)
-- archipelago/archipelagolaw22.alive
abbrev alive22_h : Hints := {  }
theorem alive22_okd : ∀ v, alive22_d v = pevCall Tryz.prog E_gjoined alive22_h Tryz.f11 alive22_i alive22_o alive22_r v := by
 rintro ⟨⟨⟩⟩
 kernel_rfl
theorem alive22_q : loopList (bodyOf Tryz.f11) 0 = [] := by kernel_rfl
theorem alive22_spec : SpecOK Tryz.prog 11 (mkCall 0 alive22_i alive22_o alive22_r alive22) := call_spec E_gjoined_ok Tryz.func11 (by kernel_rfl) (by kernel_rfl) rfl (fun v => (alive22_eq v).trans (alive22_okd v)) (LoopsOK_of alive22_q trivial)
def E_alive22 : Env := E_gjoined.ext 11 true true (mkCall 0 alive22_i alive22_o alive22_r alive22)
theorem E_alive22_ok : EnvOK Tryz.prog E_alive22 := Env.ext_ok E_gjoined_ok alive22_spec (fun _ => mkCall_local rfl rfl) (fun _ => mkCall_in rfl rfl)
-- archipelago/archipelagolaw22.great
abbrev great22_h : Hints := {  }
theorem great22_okd : ∀ v, great22_d v = pevCall Tryz.prog E_alive22 great22_h Tryz.f12 great22_i great22_o great22_r v := by
 rintro ⟨a0, a1, ⟨⟩⟩
 kernel_rfl
theorem great22_q : loopList (bodyOf Tryz.f12) 0 = [] := by kernel_rfl
theorem great22_spec : SpecOK Tryz.prog 12 (mkCall 2 great22_i great22_o great22_r great22) := call_spec E_alive22_ok Tryz.func12 (by kernel_rfl) (by kernel_rfl) rfl (fun v => (great22_eq v).trans (great22_okd v)) (LoopsOK_of great22_q trivial)
def E_great22 : Env := E_alive22.ext 12 true true (mkCall 2 great22_i great22_o great22_r great22)
theorem E_great22_ok : EnvOK Tryz.prog E_great22 := Env.ext_ok E_alive22_ok great22_spec (fun _ => mkCall_local rfl rfl) (fun _ => mkCall_in rfl rfl)
-- archipelago/archipelagolaw22.GrowStays
abbrev growStays_h : Hints := { loop := fun n => match n with | 0 => loopBy 0 204 growStays_i0 growStays_o0 growStays_s0 | 1 => loopBy 0 204 growStays_i1 growStays_o1 growStays_s1 | _ => fun _ _ _ => none, fp := fun n => match n with | 15 => [[], [], [], [2], [2], [], [], [], [0], [0], [], [], [], [], []] | 14 => [[2], [0], [0], [], [], [], [], [0], [0], [], [], [], [], [], []] | 22 => [[0], [0], [0], [], [76], [2], [2], [2], [], [92], [], []] | 20 => [[2], [2], [2], [], [52], [], [], [], [], []] | 19 => [[2], [2], [2], [], [36], [], [], [], [], []] | 18 => [[0], [0], [0], [], [20], [], [], [], [], []] | 17 => [[0], [0], [0], [], [4], [], [], [], [], []] | 5 => [[0], [0], [], [0], [0], [19], [], [], [23]] | _ => [] }
theorem growStays_s1_ok : ∀ v, growStays_s1 v = roundOf Tryz.prog E_great22 growStays_h 2 0 204 (loopOf Tryz.f4 1) growStays_i1 growStays_o1 v := by
 rintro ⟨a0, a1, a2, a3, a4, a5, a6, a7, a8, a9, a10, a11, a12, a13, a14, a15, ⟨⟩⟩
 kernel_rfl
theorem growStays_q1 : loopList (loopOf Tryz.f4 1) 2 = [] := by kernel_rfl
theorem growStays_l1 : CodeOK Tryz.prog 0 (.loop (loopOf Tryz.f4 1)) (growStays_h.loop 1) := loop_ok E_great22_ok (growStays_s1_ok) (LoopsOK_of growStays_q1 trivial)
theorem growStays_s0_ok : ∀ v, growStays_s0 v = roundOf Tryz.prog E_great22 growStays_h 1 0 204 (loopOf Tryz.f4 0) growStays_i0 growStays_o0 v := by
 rintro ⟨a0, a1, a2, a3, a4, a5, ⟨⟩⟩
 kernel_rfl
theorem growStays_q0 : loopList (loopOf Tryz.f4 0) 1 = [] := by kernel_rfl
theorem growStays_l0 : CodeOK Tryz.prog 0 (.loop (loopOf Tryz.f4 0)) (growStays_h.loop 0) := loop_ok E_great22_ok (growStays_s0_ok) (LoopsOK_of growStays_q0 trivial)
theorem growStays_okd : ∀ v, growStays_d v = pevCall Tryz.prog E_great22 growStays_h Tryz.f4 growStays_i growStays_o growStays_r v := by
 rintro ⟨a0, a1, ⟨⟩⟩
 kernel_rfl
theorem growStays_q : loopList (bodyOf Tryz.f4) 0 = [(0, loopOf Tryz.f4 0), (1, loopOf Tryz.f4 1)] := by kernel_rfl
theorem growStays_spec : SpecOK Tryz.prog 4 (mkCall 2 growStays_i growStays_o growStays_r growStays) := call_spec E_great22_ok Tryz.func4 (by kernel_rfl) (by kernel_rfl) rfl (fun v => (growStays_eq v).trans (growStays_okd v)) (LoopsOK_of growStays_q ⟨growStays_l0, growStays_l1, trivial⟩)
end
end Go.Pev
end
section

end
