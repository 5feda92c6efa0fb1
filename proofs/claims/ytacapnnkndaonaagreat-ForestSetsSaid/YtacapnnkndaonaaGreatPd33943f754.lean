/- A part of the proofs of this seat: G19P1 G19P2 G19P3 G19P4 G19P5 G19P6 G19P7 G19P8 G19P9 G19P10 G19P11 G19P. -/
import Derived.Test.YtacapnnkndaonaaGreatP6fb7c682d8
import Derived.Test.YtacapnnkndaonaaGreatProg
set_option linter.unusedVariables false
set_option linter.unusedSimpArgs false
set_option linter.unusedSectionVars false
section
namespace Go.Pev
open Go.Proofs
set_option maxRecDepth 100000
noncomputable section
-- archipelago/archipelagoref18.in
abbrev in18_h : Hints := {  }
theorem in18_okd : ∀ v, in18_d v = pevCall Tryz.prog Env.none in18_h Tryz.f47 in18_i in18_o in18_r v := by
  rintro ⟨a0, a1, ⟨⟩⟩
  kernel_rfl
theorem in18_q : loopList (bodyOf Tryz.f47) 0 = [] := by kernel_rfl
theorem in18_spec : SpecOK Tryz.prog 47 (mkCall 2 in18_i in18_o in18_r in18) := call_spec Env.none_ok Tryz.func47 (by kernel_rfl) (by kernel_rfl) rfl (fun v => (in18_eq v).trans (in18_okd v)) (LoopsOK_of in18_q trivial)
def E_in18 : Env := Env.none.ext 47 true true (mkCall 2 in18_i in18_o in18_r in18)
theorem E_in18_ok : EnvOK Tryz.prog E_in18 := Env.ext_ok Env.none_ok in18_spec (fun _ => mkCall_local rfl rfl) (fun _ => mkCall_in rfl rfl)
-- archipelago/archipelagoref18.Token
abbrev token18_h : Hints := { fp := fun n => match n with | 5 => [[], [], [], [], [], [], [], [], [], [], [], []] | _ => [] }
theorem token18_okd : ∀ v, token18_d v = pevCall Tryz.prog E_in18 token18_h Tryz.f100 token18_i token18_o token18_r v := by
  rintro ⟨a0, a1, ⟨⟩⟩
  kernel_rfl
theorem token18_q : loopList (bodyOf Tryz.f100) 0 = [] := by kernel_rfl
theorem token18_spec : SpecOK Tryz.prog 100 (mkCall 2 token18_i token18_o token18_r token18) := call_spec E_in18_ok Tryz.func100 (by kernel_rfl) (by kernel_rfl) rfl (fun v => (token18_eq v).trans (token18_okd v)) (LoopsOK_of token18_q trivial)
def E_token18 : Env := E_in18.ext 100 true true (mkCall 2 token18_i token18_o token18_r token18)
theorem E_token18_ok : EnvOK Tryz.prog E_token18 := Env.ext_ok E_in18_ok token18_spec (fun _ => mkCall_local rfl rfl) (fun _ => mkCall_in rfl rfl)
-- archipelago/archipelagoref18.Arc
abbrev arc18_h : Hints := {  }
theorem arc18_okd : ∀ v, arc18_d v = pevCall Tryz.prog E_token18 arc18_h Tryz.f101 arc18_i arc18_o arc18_r v := by
  rintro ⟨a0, a1, a2, ⟨⟩⟩
  kernel_rfl
theorem arc18_q : loopList (bodyOf Tryz.f101) 0 = [] := by kernel_rfl
theorem arc18_spec : SpecOK Tryz.prog 101 (mkCall 3 arc18_i arc18_o arc18_r arc18) := call_spec E_token18_ok Tryz.func101 (by kernel_rfl) (by kernel_rfl) rfl (fun v => (arc18_eq v).trans (arc18_okd v)) (LoopsOK_of arc18_q trivial)
def E_arc18 : Env := E_token18.ext 101 true true (mkCall 3 arc18_i arc18_o arc18_r arc18)
theorem E_arc18_ok : EnvOK Tryz.prog E_arc18 := Env.ext_ok E_token18_ok arc18_spec (fun _ => mkCall_local rfl rfl) (fun _ => mkCall_in rfl rfl)
-- archipelago/archipelagoref18.Great
abbrev great18_h : Hints := { loop := fun n => match n with | 0 => loopBy 0 33 great18_i0 great18_o0 great18_s0 | _ => fun _ _ _ => none }
theorem great18_s0_ok : ∀ v, great18_s0 v = roundOf Tryz.prog E_arc18 great18_h 1 0 33 (loopOf Tryz.f7 0) great18_i0 great18_o0 v := by
  rintro ⟨a0, a1, a2, a3, a4, ⟨⟩⟩
  kernel_rfl
theorem great18_q0 : loopList (loopOf Tryz.f7 0) 1 = [] := by kernel_rfl
theorem great18_l0 : CodeOK Tryz.prog 0 (.loop (loopOf Tryz.f7 0)) (great18_h.loop 0) := loop_ok E_arc18_ok (great18_s0_ok) (LoopsOK_of great18_q0 trivial)
theorem great18_okd : ∀ v, great18_d v = pevCall Tryz.prog E_arc18 great18_h Tryz.f7 great18_i great18_o great18_r v := by
  rintro ⟨a0, a1, ⟨⟩⟩
  kernel_rfl
theorem great18_q : loopList (bodyOf Tryz.f7) 0 = [(0, loopOf Tryz.f7 0)] := by kernel_rfl
theorem great18_spec : SpecOK Tryz.prog 7 (mkCall 2 great18_i great18_o great18_r great18) := call_spec E_arc18_ok Tryz.func7 (by kernel_rfl) (by kernel_rfl) rfl (fun v => (great18_eq v).trans (great18_okd v)) (LoopsOK_of great18_q ⟨great18_l0, trivial⟩)
def E_great18 : Env := E_arc18.ext 7 true true (mkCall 2 great18_i great18_o great18_r great18)
theorem E_great18_ok : EnvOK Tryz.prog E_great18 := Env.ext_ok E_arc18_ok great18_spec (fun _ => mkCall_local rfl rfl) (fun _ => mkCall_in rfl rfl)
-- archipelago/archipelagoref18.stands
abbrev stands18_h : Hints := {  }
theorem stands18_okd : ∀ v, stands18_d v = pevCall Tryz.prog E_great18 stands18_h Tryz.f102 stands18_i stands18_o stands18_r v := by
  rintro ⟨a0, a1, a2, ⟨⟩⟩
  kernel_rfl
theorem stands18_q : loopList (bodyOf Tryz.f102) 0 = [] := by kernel_rfl
theorem stands18_spec : SpecOK Tryz.prog 102 (mkCall 3 stands18_i stands18_o stands18_r stands18) := call_spec E_great18_ok Tryz.func102 (by kernel_rfl) (by kernel_rfl) rfl (fun v => (stands18_eq v).trans (stands18_okd v)) (LoopsOK_of stands18_q trivial)
def E_stands18 : Env := E_great18.ext 102 true true (mkCall 3 stands18_i stands18_o stands18_r stands18)
theorem E_stands18_ok : EnvOK Tryz.prog E_stands18 := Env.ext_ok E_great18_ok stands18_spec (fun _ => mkCall_local rfl rfl) (fun _ => mkCall_in rfl rfl)
-- archipelago/archipelagoref18.tree
abbrev tree18_h : Hints := { loop := fun n => match n with | 0 => loopBy 0 129 tree18_i0 tree18_o0 tree18_s0 | 1 => loopBy 0 129 tree18_i1 tree18_o1 tree18_s1 | 2 => loopBy 0 129 tree18_i2 tree18_o2 tree18_s2 | _ => fun _ _ _ => none, fp := fun n => match n with | 7 => [[], [], [0], [0], [], [], [], [], [0], [], [0], [0], [], [], [], [], [0], [], [0], [0], [], [], []] | _ => [] }
theorem tree18_s2_ok : ∀ v, tree18_s2 v = roundOf Tryz.prog E_stands18 tree18_h 3 0 129 (loopOf Tryz.f69 2) tree18_i2 tree18_o2 v := by
  rintro ⟨a0, a1, a2, a3, a4, a5, a6, a7, a8, a9, a10, a11, a12, a13, a14, a15, a16, a17, a18, a19, a20, a21, a22, a23, a24, a25, a26, a27, ⟨⟩⟩
  kernel_rfl
theorem tree18_q2 : loopList (loopOf Tryz.f69 2) 3 = [] := by kernel_rfl
theorem tree18_l2 : CodeOK Tryz.prog 0 (.loop (loopOf Tryz.f69 2)) (tree18_h.loop 2) := loop_ok E_stands18_ok (tree18_s2_ok) (LoopsOK_of tree18_q2 trivial)
theorem tree18_s1_ok : ∀ v, tree18_s1 v = roundOf Tryz.prog E_stands18 tree18_h 2 0 129 (loopOf Tryz.f69 1) tree18_i1 tree18_o1 v := by
  rintro ⟨a0, a1, a2, a3, ⟨⟩⟩
  kernel_rfl
theorem tree18_q1 : loopList (loopOf Tryz.f69 1) 2 = [(2, loopOf Tryz.f69 2)] := by kernel_rfl
theorem tree18_l1 : CodeOK Tryz.prog 0 (.loop (loopOf Tryz.f69 1)) (tree18_h.loop 1) := loop_ok E_stands18_ok (tree18_s1_ok) (LoopsOK_of tree18_q1 ⟨tree18_l2, trivial⟩)
theorem tree18_s0_ok : ∀ v, tree18_s0 v = roundOf Tryz.prog E_stands18 tree18_h 1 0 129 (loopOf Tryz.f69 0) tree18_i0 tree18_o0 v := by
  rintro ⟨a0, a1, ⟨⟩⟩
  kernel_rfl
theorem tree18_q0 : loopList (loopOf Tryz.f69 0) 1 = [(1, loopOf Tryz.f69 1)] := by kernel_rfl
theorem tree18_l0 : CodeOK Tryz.prog 0 (.loop (loopOf Tryz.f69 0)) (tree18_h.loop 0) := loop_ok E_stands18_ok (tree18_s0_ok) (LoopsOK_of tree18_q0 ⟨tree18_l1, trivial⟩)
theorem tree18_okd : ∀ v, tree18_d v = pevCall Tryz.prog E_stands18 tree18_h Tryz.f69 tree18_i tree18_o tree18_r v := by
  rintro ⟨a0, a1, ⟨⟩⟩
  kernel_rfl
theorem tree18_q : loopList (bodyOf Tryz.f69) 0 = [(0, loopOf Tryz.f69 0)] := by kernel_rfl
theorem tree18_spec : SpecOK Tryz.prog 69 (mkCall 2 tree18_i tree18_o tree18_r tree18) := call_spec E_stands18_ok Tryz.func69 (by kernel_rfl) (by kernel_rfl) rfl (fun v => (tree18_eq v).trans (tree18_okd v)) (LoopsOK_of tree18_q ⟨tree18_l0, trivial⟩)
def E_tree18 : Env := E_stands18.ext 69 true true (mkCall 2 tree18_i tree18_o tree18_r tree18)
theorem E_tree18_ok : EnvOK Tryz.prog E_tree18 := Env.ext_ok E_stands18_ok tree18_spec (fun _ => mkCall_local rfl rfl) (fun _ => mkCall_in rfl rfl)
-- archipelago/archipelagoref13.Place
abbrev place13_h : Hints := { loop := fun n => match n with | 0 => loopBy 0 19 place13_i0 place13_o0 place13_s0 | _ => fun _ _ _ => none }
theorem place13_s0_ok : ∀ v, place13_s0 v = roundOf Tryz.prog E_tree18 place13_h 1 0 19 (loopOf Tryz.f31 0) place13_i0 place13_o0 v := by
  rintro ⟨a0, a1, a2, ⟨⟩⟩
  kernel_rfl
theorem place13_q0 : loopList (loopOf Tryz.f31 0) 1 = [] := by kernel_rfl
theorem place13_l0 : CodeOK Tryz.prog 0 (.loop (loopOf Tryz.f31 0)) (place13_h.loop 0) := loop_ok E_tree18_ok (place13_s0_ok) (LoopsOK_of place13_q0 trivial)
theorem place13_okd : ∀ v, place13_d v = pevCall Tryz.prog E_tree18 place13_h Tryz.f31 place13_i place13_o place13_r v := by
  rintro ⟨a0, a1, ⟨⟩⟩
  kernel_rfl
theorem place13_q : loopList (bodyOf Tryz.f31) 0 = [(0, loopOf Tryz.f31 0)] := by kernel_rfl
theorem place13_spec : SpecOK Tryz.prog 31 (mkCall 2 place13_i place13_o place13_r place13) := call_spec E_tree18_ok Tryz.func31 (by kernel_rfl) (by kernel_rfl) rfl (fun v => (place13_eq v).trans (place13_okd v)) (LoopsOK_of place13_q ⟨place13_l0, trivial⟩)
def E_place13 : Env := E_tree18.ext 31 true true (mkCall 2 place13_i place13_o place13_r place13)
theorem E_place13_ok : EnvOK Tryz.prog E_place13 := Env.ext_ok E_tree18_ok place13_spec (fun _ => mkCall_local rfl rfl) (fun _ => mkCall_in rfl rfl)
-- archipelago/archipelagoref13.Right
abbrev right13_h : Hints := { loop := fun n => match n with | 0 => loopBy 0 36 right13_i0 right13_o0 right13_s0 | _ => fun _ _ _ => none, fp := fun n => match n with | 6 => [[], [], [], [], [], [], [], [], [], [], [], [], [], [], [], [], [], [], [], [], [], [], []] | _ => [] }
theorem right13_s0_ok : ∀ v, right13_s0 v = roundOf Tryz.prog E_place13 right13_h 1 0 36 (loopOf Tryz.f68 0) right13_i0 right13_o0 v := by
  rintro ⟨a0, a1, ⟨⟩⟩
  kernel_rfl
theorem right13_q0 : loopList (loopOf Tryz.f68 0) 1 = [] := by kernel_rfl
theorem right13_l0 : CodeOK Tryz.prog 0 (.loop (loopOf Tryz.f68 0)) (right13_h.loop 0) := loop_ok E_place13_ok (right13_s0_ok) (LoopsOK_of right13_q0 trivial)
theorem right13_okd : ∀ v, right13_d v = pevCall Tryz.prog E_place13 right13_h Tryz.f68 right13_i right13_o right13_r v := by
  rintro ⟨a0, ⟨⟩⟩
  kernel_rfl
theorem right13_q : loopList (bodyOf Tryz.f68) 0 = [(0, loopOf Tryz.f68 0)] := by kernel_rfl
theorem right13_spec : SpecOK Tryz.prog 68 (mkCall 1 right13_i right13_o right13_r right13) := call_spec E_place13_ok Tryz.func68 (by kernel_rfl) (by kernel_rfl) rfl (fun v => (right13_eq v).trans (right13_okd v)) (LoopsOK_of right13_q ⟨right13_l0, trivial⟩)
def E_right13 : Env := E_place13.ext 68 true true (mkCall 1 right13_i right13_o right13_r right13)
theorem E_right13_ok : EnvOK Tryz.prog E_right13 := Env.ext_ok E_place13_ok right13_spec (fun _ => mkCall_local rfl rfl) (fun _ => mkCall_in rfl rfl)
-- archipelago/archipelagoref13.From
abbrev from13_h : Hints := { fp := fun n => match n with | 4 => [[], [], [], [], [17], [], [], [], [19], [], []] | _ => [] }
theorem from13_okd : ∀ v, from13_d v = pevCall Tryz.prog E_right13 from13_h Tryz.f103 from13_i from13_o from13_r v := by
  rintro ⟨a0, a1, ⟨⟩⟩
  kernel_rfl
theorem from13_q : loopList (bodyOf Tryz.f103) 0 = [] := by kernel_rfl
theorem from13_spec : SpecOK Tryz.prog 103 (mkCall 2 from13_i from13_o from13_r from13) := call_spec E_right13_ok Tryz.func103 (by kernel_rfl) (by kernel_rfl) rfl (fun v => (from13_eq v).trans (from13_okd v)) (LoopsOK_of from13_q trivial)
def E_from13 : Env := E_right13.ext 103 true true (mkCall 2 from13_i from13_o from13_r from13)
theorem E_from13_ok : EnvOK Tryz.prog E_from13 := Env.ext_ok E_right13_ok from13_spec (fun _ => mkCall_local rfl rfl) (fun _ => mkCall_in rfl rfl)
-- archipelago/archipelagoref13.Plain
abbrev plain13_h : Hints := { loop := fun n => match n with | 0 => loopBy 0 37 plain13_i0 plain13_o0 plain13_s0 | _ => fun _ _ _ => none }
theorem plain13_s0_ok : ∀ v, plain13_s0 v = roundOf Tryz.prog E_from13 plain13_h 1 0 37 (loopOf Tryz.f71 0) plain13_i0 plain13_o0 v := by
  rintro ⟨a0, a1, a2, ⟨⟩⟩
  kernel_rfl
theorem plain13_q0 : loopList (loopOf Tryz.f71 0) 1 = [] := by kernel_rfl
theorem plain13_l0 : CodeOK Tryz.prog 0 (.loop (loopOf Tryz.f71 0)) (plain13_h.loop 0) := loop_ok E_from13_ok (plain13_s0_ok) (LoopsOK_of plain13_q0 trivial)
theorem plain13_okd : ∀ v, plain13_d v = pevCall Tryz.prog E_from13 plain13_h Tryz.f71 plain13_i plain13_o plain13_r v := by
  rintro ⟨a0, ⟨⟩⟩
  kernel_rfl
theorem plain13_q : loopList (bodyOf Tryz.f71) 0 = [(0, loopOf Tryz.f71 0)] := by kernel_rfl
theorem plain13_spec : SpecOK Tryz.prog 71 (mkCall 1 plain13_i plain13_o plain13_r plain13) := call_spec E_from13_ok Tryz.func71 (by kernel_rfl) (by kernel_rfl) rfl (fun v => (plain13_eq v).trans (plain13_okd v)) (LoopsOK_of plain13_q ⟨plain13_l0, trivial⟩)
def E_plain13 : Env := E_from13.ext 71 true true (mkCall 1 plain13_i plain13_o plain13_r plain13)
theorem E_plain13_ok : EnvOK Tryz.prog E_plain13 := Env.ext_ok E_from13_ok plain13_spec (fun _ => mkCall_local rfl rfl) (fun _ => mkCall_in rfl rfl)
-- archipelago/archipelagoref01.Ints
abbrev ints01_h : Hints := { loop := fun n => match n with | 0 => loopBy 0 26 ints01_i0 ints01_o0 ints01_s0 | _ => fun _ _ _ => none, fp := fun n => match n with | 6 => [[], [], [], [], [], [], [], [], []] | _ => [] }
theorem ints01_s0_ok : ∀ v, ints01_s0 v = roundOf Tryz.prog E_plain13 ints01_h 1 0 26 (loopOf Tryz.f16 0) ints01_i0 ints01_o0 v := by
  rintro ⟨a0, a1, a2, ⟨⟩⟩
  kernel_rfl
theorem ints01_q0 : loopList (loopOf Tryz.f16 0) 1 = [] := by kernel_rfl
theorem ints01_l0 : CodeOK Tryz.prog 0 (.loop (loopOf Tryz.f16 0)) (ints01_h.loop 0) := loop_ok E_plain13_ok (ints01_s0_ok) (LoopsOK_of ints01_q0 trivial)
theorem ints01_okd : ∀ v, ints01_d v = pevCall Tryz.prog E_plain13 ints01_h Tryz.f16 ints01_i ints01_o ints01_r v := by
  rintro ⟨a0, a1, ⟨⟩⟩
  kernel_rfl
theorem ints01_q : loopList (bodyOf Tryz.f16) 0 = [(0, loopOf Tryz.f16 0)] := by kernel_rfl
theorem ints01_spec : SpecOK Tryz.prog 16 (mkCall 2 ints01_i ints01_o ints01_r ints01) := call_spec E_plain13_ok Tryz.func16 (by kernel_rfl) (by kernel_rfl) rfl (fun v => (ints01_eq v).trans (ints01_okd v)) (LoopsOK_of ints01_q ⟨ints01_l0, trivial⟩)
def E_ints01 : Env := E_plain13.ext 16 true true (mkCall 2 ints01_i ints01_o ints01_r ints01)
theorem E_ints01_ok : EnvOK Tryz.prog E_ints01 := Env.ext_ok E_plain13_ok ints01_spec (fun _ => mkCall_local rfl rfl) (fun _ => mkCall_in rfl rfl)
-- archipelago/archipelagoref14.Lists
abbrev lists14_h : Hints := { loop := fun n => match n with | 0 => loopBy 0 27 lists14_i0 lists14_o0 lists14_s0 | _ => fun _ _ _ => none, fp := fun n => match n with | 6 => [[], [], [], [], [], [], [], [], [], []] | _ => [] }
theorem lists14_s0_ok : ∀ v, lists14_s0 v = roundOf Tryz.prog E_ints01 lists14_h 1 0 27 (loopOf Tryz.f70 0) lists14_i0 lists14_o0 v := by
  rintro ⟨a0, a1, a2, ⟨⟩⟩
  kernel_rfl
theorem lists14_q0 : loopList (loopOf Tryz.f70 0) 1 = [] := by kernel_rfl
theorem lists14_l0 : CodeOK Tryz.prog 0 (.loop (loopOf Tryz.f70 0)) (lists14_h.loop 0) := loop_ok E_ints01_ok (lists14_s0_ok) (LoopsOK_of lists14_q0 trivial)
theorem lists14_okd : ∀ v, lists14_d v = pevCall Tryz.prog E_ints01 lists14_h Tryz.f70 lists14_i lists14_o lists14_r v := by
  rintro ⟨a0, a1, ⟨⟩⟩
  kernel_rfl
theorem lists14_q : loopList (bodyOf Tryz.f70) 0 = [(0, loopOf Tryz.f70 0)] := by kernel_rfl
theorem lists14_spec : SpecOK Tryz.prog 70 (mkCall 2 lists14_i lists14_o lists14_r lists14) := call_spec E_ints01_ok Tryz.func70 (by kernel_rfl) (by kernel_rfl) rfl (fun v => (lists14_eq v).trans (lists14_okd v)) (LoopsOK_of lists14_q ⟨lists14_l0, trivial⟩)
def E_lists14 : Env := E_ints01.ext 70 true true (mkCall 2 lists14_i lists14_o lists14_r lists14)
theorem E_lists14_ok : EnvOK Tryz.prog E_lists14 := Env.ext_ok E_ints01_ok lists14_spec (fun _ => mkCall_local rfl rfl) (fun _ => mkCall_in rfl rfl)
end
end Go.Pev
end
section
namespace Go.Pev
open Go.Proofs
set_option maxRecDepth 100000
noncomputable section
-- archipelago/archipelagoref18.Right
abbrev right18_h : Hints := { loop := fun n => match n with | 0 => loopBy 0 106 right18_i0 right18_o0 right18_s0 | 1 => loopBy 0 106 right18_i1 right18_o1 right18_s1 | _ => fun _ _ _ => none, fp := fun n => match n with | 16 => [[], [], [], [], [0], [0], []] | _ => [] }
theorem right18_s1_ok : ∀ v, right18_s1 v = roundOf Tryz.prog E_lists14 right18_h 2 0 106 (loopOf Tryz.f46 1) right18_i1 right18_o1 v := by
  rintro ⟨a0, a1, a2, a3, a4, a5, a6, a7, a8, a9, a10, a11, a12, a13, a14, a15, a16, a17, a18, a19, a20, a21, a22, a23, a24, a25, ⟨⟩⟩
  kernel_rfl
theorem right18_q1 : loopList (loopOf Tryz.f46 1) 2 = [] := by kernel_rfl
theorem right18_l1 : CodeOK Tryz.prog 0 (.loop (loopOf Tryz.f46 1)) (right18_h.loop 1) := loop_ok E_lists14_ok (right18_s1_ok) (LoopsOK_of right18_q1 trivial)
theorem right18_s0_ok : ∀ v, right18_s0 v = roundOf Tryz.prog E_lists14 right18_h 1 0 106 (loopOf Tryz.f46 0) right18_i0 right18_o0 v := by
  rintro ⟨a0, a1, a2, a3, a4, a5, ⟨⟩⟩
  kernel_rfl
theorem right18_q0 : loopList (loopOf Tryz.f46 0) 1 = [(1, loopOf Tryz.f46 1)] := by kernel_rfl
theorem right18_l0 : CodeOK Tryz.prog 0 (.loop (loopOf Tryz.f46 0)) (right18_h.loop 0) := loop_ok E_lists14_ok (right18_s0_ok) (LoopsOK_of right18_q0 ⟨right18_l1, trivial⟩)
theorem right18_okd : ∀ v, right18_d v = pevCall Tryz.prog E_lists14 right18_h Tryz.f46 right18_i right18_o right18_r v := by
  rintro ⟨a0, ⟨⟩⟩
  kernel_rfl
theorem right18_q : loopList (bodyOf Tryz.f46) 0 = [(0, loopOf Tryz.f46 0)] := by kernel_rfl
theorem right18_spec : SpecOK Tryz.prog 46 (mkCall 1 right18_i right18_o right18_r right18) := call_spec E_lists14_ok Tryz.func46 (by kernel_rfl) (by kernel_rfl) rfl (fun v => (right18_eq v).trans (right18_okd v)) (LoopsOK_of right18_q ⟨right18_l0, trivial⟩)
def E_right18 : Env := E_lists14.ext 46 true true (mkCall 1 right18_i right18_o right18_r right18)
theorem E_right18_ok : EnvOK Tryz.prog E_right18 := Env.ext_ok E_lists14_ok right18_spec (fun _ => mkCall_local rfl rfl) (fun _ => mkCall_in rfl rfl)
-- archipelago/archipelagoref18.place
abbrev place18_h : Hints := { loop := fun n => match n with | 0 => loopBy 0 22 place18_i0 place18_o0 place18_s0 | _ => fun _ _ _ => none }
theorem place18_s0_ok : ∀ v, place18_s0 v = roundOf Tryz.prog E_right18 place18_h 1 0 22 (loopOf Tryz.f48 0) place18_i0 place18_o0 v := by
  rintro ⟨a0, a1, a2, a3, ⟨⟩⟩
  kernel_rfl
theorem place18_q0 : loopList (loopOf Tryz.f48 0) 1 = [] := by kernel_rfl
theorem place18_l0 : CodeOK Tryz.prog 0 (.loop (loopOf Tryz.f48 0)) (place18_h.loop 0) := loop_ok E_right18_ok (place18_s0_ok) (LoopsOK_of place18_q0 trivial)
theorem place18_okd : ∀ v, place18_d v = pevCall Tryz.prog E_right18 place18_h Tryz.f48 place18_i place18_o place18_r v := by
  rintro ⟨a0, a1, ⟨⟩⟩
  kernel_rfl
theorem place18_q : loopList (bodyOf Tryz.f48) 0 = [(0, loopOf Tryz.f48 0)] := by kernel_rfl
theorem place18_spec : SpecOK Tryz.prog 48 (mkCall 2 place18_i place18_o place18_r place18) := call_spec E_right18_ok Tryz.func48 (by kernel_rfl) (by kernel_rfl) rfl (fun v => (place18_eq v).trans (place18_okd v)) (LoopsOK_of place18_q ⟨place18_l0, trivial⟩)
def E_place18 : Env := E_right18.ext 48 true true (mkCall 2 place18_i place18_o place18_r place18)
theorem E_place18_ok : EnvOK Tryz.prog E_place18 := Env.ext_ok E_right18_ok place18_spec (fun _ => mkCall_local rfl rfl) (fun _ => mkCall_in rfl rfl)
-- archipelago/archipelagoref18.Of
abbrev of18_h : Hints := {  }
theorem of18_okd : ∀ v, of18_d v = pevCall Tryz.prog E_place18 of18_h Tryz.f26 of18_i of18_o of18_r v := by
  rintro ⟨a0, a1, ⟨⟩⟩
  kernel_rfl
theorem of18_q : loopList (bodyOf Tryz.f26) 0 = [] := by kernel_rfl
theorem of18_spec : SpecOK Tryz.prog 26 (mkCall 2 of18_i of18_o of18_r of18) := call_spec E_place18_ok Tryz.func26 (by kernel_rfl) (by kernel_rfl) rfl (fun v => (of18_eq v).trans (of18_okd v)) (LoopsOK_of of18_q trivial)
def E_of18 : Env := E_place18.ext 26 true true (mkCall 2 of18_i of18_o of18_r of18)
theorem E_of18_ok : EnvOK Tryz.prog E_of18 := Env.ext_ok E_place18_ok of18_spec (fun _ => mkCall_local rfl rfl) (fun _ => mkCall_in rfl rfl)
-- archipelago/tour.sized
abbrev tsized_h : Hints := {  }
theorem tsized_okd : ∀ v, tsized_d v = pevCall Tryz.prog E_of18 tsized_h Tryz.f52 tsized_i tsized_o tsized_r v := by
  rintro ⟨a0, ⟨⟩⟩
  kernel_rfl
theorem tsized_q : loopList (bodyOf Tryz.f52) 0 = [] := by kernel_rfl
theorem tsized_spec : SpecOK Tryz.prog 52 (mkCall 1 tsized_i tsized_o tsized_r tsized) := call_spec E_of18_ok Tryz.func52 (by kernel_rfl) (by kernel_rfl) rfl (fun v => (tsized_eq v).trans (tsized_okd v)) (LoopsOK_of tsized_q trivial)
def E_tsized : Env := E_of18.ext 52 true true (mkCall 1 tsized_i tsized_o tsized_r tsized)
theorem E_tsized_ok : EnvOK Tryz.prog E_tsized := Env.ext_ok E_of18_ok tsized_spec (fun _ => mkCall_local rfl rfl) (fun _ => mkCall_in rfl rfl)
-- archipelago/tour.in
abbrev tin_h : Hints := {  }
theorem tin_okd : ∀ v, tin_d v = pevCall Tryz.prog E_tsized tin_h Tryz.f44 tin_i tin_o tin_r v := by
  rintro ⟨a0, a1, ⟨⟩⟩
  kernel_rfl
theorem tin_q : loopList (bodyOf Tryz.f44) 0 = [] := by kernel_rfl
theorem tin_spec : SpecOK Tryz.prog 44 (mkCall 2 tin_i tin_o tin_r tin) := call_spec E_tsized_ok Tryz.func44 (by kernel_rfl) (by kernel_rfl) rfl (fun v => (tin_eq v).trans (tin_okd v)) (LoopsOK_of tin_q trivial)
def E_tin : Env := E_tsized.ext 44 true true (mkCall 2 tin_i tin_o tin_r tin)
theorem E_tin_ok : EnvOK Tryz.prog E_tin := Env.ext_ok E_tsized_ok tin_spec (fun _ => mkCall_local rfl rfl) (fun _ => mkCall_in rfl rfl)
-- archipelago/tour.Arc
abbrev tarc_h : Hints := {  }
theorem tarc_okd : ∀ v, tarc_d v = pevCall Tryz.prog E_tin tarc_h Tryz.f62 tarc_i tarc_o tarc_r v := by
  rintro ⟨a0, a1, a2, ⟨⟩⟩
  kernel_rfl
theorem tarc_q : loopList (bodyOf Tryz.f62) 0 = [] := by kernel_rfl
theorem tarc_spec : SpecOK Tryz.prog 62 (mkCall 3 tarc_i tarc_o tarc_r tarc) := call_spec E_tin_ok Tryz.func62 (by kernel_rfl) (by kernel_rfl) rfl (fun v => (tarc_eq v).trans (tarc_okd v)) (LoopsOK_of tarc_q trivial)
def E_tarc : Env := E_tin.ext 62 true true (mkCall 3 tarc_i tarc_o tarc_r tarc)
theorem E_tarc_ok : EnvOK Tryz.prog E_tarc := Env.ext_ok E_tin_ok tarc_spec (fun _ => mkCall_local rfl rfl) (fun _ => mkCall_in rfl rfl)
-- archipelago/tour.Token
abbrev ttoken_h : Hints := { fp := fun n => match n with | 5 => [[], [], [], [], [], [], [], [], []] | _ => [] }
theorem ttoken_okd : ∀ v, ttoken_d v = pevCall Tryz.prog E_tarc ttoken_h Tryz.f35 ttoken_i ttoken_o ttoken_r v := by
  rintro ⟨a0, a1, ⟨⟩⟩
  kernel_rfl
theorem ttoken_q : loopList (bodyOf Tryz.f35) 0 = [] := by kernel_rfl
theorem ttoken_spec : SpecOK Tryz.prog 35 (mkCall 2 ttoken_i ttoken_o ttoken_r ttoken) := call_spec E_tarc_ok Tryz.func35 (by kernel_rfl) (by kernel_rfl) rfl (fun v => (ttoken_eq v).trans (ttoken_okd v)) (LoopsOK_of ttoken_q trivial)
def E_ttoken : Env := E_tarc.ext 35 true true (mkCall 2 ttoken_i ttoken_o ttoken_r ttoken)
theorem E_ttoken_ok : EnvOK Tryz.prog E_ttoken := Env.ext_ok E_tarc_ok ttoken_spec (fun _ => mkCall_local rfl rfl) (fun _ => mkCall_in rfl rfl)
-- archipelago/tour.Make
abbrev tmake_h : Hints := { loop := fun n => match n with | 0 => loopBy 0 25 tmake_i0 tmake_o0 tmake_s0 | _ => fun _ _ _ => none }
theorem tmake_s0_ok : ∀ v, tmake_s0 v = roundOf Tryz.prog E_ttoken tmake_h 1 0 25 (loopOf Tryz.f32 0) tmake_i0 tmake_o0 v := by
  rintro ⟨a0, a1, a2, a3, a4, ⟨⟩⟩
  kernel_rfl
theorem tmake_q0 : loopList (loopOf Tryz.f32 0) 1 = [] := by kernel_rfl
theorem tmake_l0 : CodeOK Tryz.prog 0 (.loop (loopOf Tryz.f32 0)) (tmake_h.loop 0) := loop_ok E_ttoken_ok (tmake_s0_ok) (LoopsOK_of tmake_q0 trivial)
theorem tmake_okd : ∀ v, tmake_d v = pevCall Tryz.prog E_ttoken tmake_h Tryz.f32 tmake_i tmake_o tmake_r v := by
  rintro ⟨a0, ⟨⟩⟩
  kernel_rfl
theorem tmake_q : loopList (bodyOf Tryz.f32) 0 = [(0, loopOf Tryz.f32 0)] := by kernel_rfl
theorem tmake_spec : SpecOK Tryz.prog 32 (mkCall 1 tmake_i tmake_o tmake_r tmake) := call_spec E_ttoken_ok Tryz.func32 (by kernel_rfl) (by kernel_rfl) rfl (fun v => (tmake_eq v).trans (tmake_okd v)) (LoopsOK_of tmake_q ⟨tmake_l0, trivial⟩)
def E_tmake : Env := E_ttoken.ext 32 true true (mkCall 1 tmake_i tmake_o tmake_r tmake)
theorem E_tmake_ok : EnvOK Tryz.prog E_tmake := Env.ext_ok E_ttoken_ok tmake_spec (fun _ => mkCall_local rfl rfl) (fun _ => mkCall_in rfl rfl)
-- slices.Index[[]int,int]
abbrev indexI_h : Hints := { loop := fun n => match n with | 0 => loopBy 0 19 indexI_i0 indexI_o0 indexI_s0 | _ => fun _ _ _ => none }
theorem indexI_s0_ok : ∀ v, indexI_s0 v = roundOf Tryz.prog E_tmake indexI_h 1 0 19 (loopOf Tryz.f63 0) indexI_i0 indexI_o0 v := by
  rintro ⟨a0, a1, a2, a3, ⟨⟩⟩
  kernel_rfl
theorem indexI_q0 : loopList (loopOf Tryz.f63 0) 1 = [] := by kernel_rfl
theorem indexI_l0 : CodeOK Tryz.prog 0 (.loop (loopOf Tryz.f63 0)) (indexI_h.loop 0) := loop_ok E_tmake_ok (indexI_s0_ok) (LoopsOK_of indexI_q0 trivial)
theorem indexI_okd : ∀ v, indexI_d v = pevCall Tryz.prog E_tmake indexI_h Tryz.f63 indexI_i indexI_o indexI_r v := by
  rintro ⟨a0, a1, ⟨⟩⟩
  kernel_rfl
theorem indexI_q : loopList (bodyOf Tryz.f63) 0 = [(0, loopOf Tryz.f63 0)] := by kernel_rfl
theorem indexI_spec : SpecOK Tryz.prog 63 (mkCall 2 indexI_i indexI_o indexI_r indexI) := call_spec E_tmake_ok Tryz.func63 (by kernel_rfl) (by kernel_rfl) rfl (fun v => (indexI_eq v).trans (indexI_okd v)) (LoopsOK_of indexI_q ⟨indexI_l0, trivial⟩)
def E_indexI : Env := E_tmake.ext 63 true true (mkCall 2 indexI_i indexI_o indexI_r indexI)
theorem E_indexI_ok : EnvOK Tryz.prog E_indexI := Env.ext_ok E_tmake_ok indexI_spec (fun _ => mkCall_local rfl rfl) (fun _ => mkCall_in rfl rfl)
-- slices.Contains[[]int,int]
abbrev containsI_h : Hints := {  }
theorem containsI_okd : ∀ v, containsI_d v = pevCall Tryz.prog E_indexI containsI_h Tryz.f67 containsI_i containsI_o containsI_r v := by
  rintro ⟨a0, a1, ⟨⟩⟩
  kernel_rfl
theorem containsI_q : loopList (bodyOf Tryz.f67) 0 = [] := by kernel_rfl
theorem containsI_spec : SpecOK Tryz.prog 67 (mkCall 2 containsI_i containsI_o containsI_r containsI) := call_spec E_indexI_ok Tryz.func67 (by kernel_rfl) (by kernel_rfl) rfl (fun v => (containsI_eq v).trans (containsI_okd v)) (LoopsOK_of containsI_q trivial)
def E_containsI : Env := E_indexI.ext 67 true true (mkCall 2 containsI_i containsI_o containsI_r containsI)
theorem E_containsI_ok : EnvOK Tryz.prog E_containsI := Env.ext_ok E_indexI_ok containsI_spec (fun _ => mkCall_local rfl rfl) (fun _ => mkCall_in rfl rfl)
-- slices.Min[[]int,int]
abbrev minI_h : Hints := { loop := fun n => match n with | 0 => loopBy 0 25 minI_i0 minI_o0 minI_s0 | _ => fun _ _ _ => none }
theorem minI_s0_ok : ∀ v, minI_s0 v = roundOf Tryz.prog E_containsI minI_h 1 0 25 (loopOf Tryz.f55 0) minI_i0 minI_o0 v := by
  rintro ⟨a0, a1, a2, ⟨⟩⟩
  kernel_rfl
theorem minI_q0 : loopList (loopOf Tryz.f55 0) 1 = [] := by kernel_rfl
theorem minI_l0 : CodeOK Tryz.prog 0 (.loop (loopOf Tryz.f55 0)) (minI_h.loop 0) := loop_ok E_containsI_ok (minI_s0_ok) (LoopsOK_of minI_q0 trivial)
theorem minI_okd : ∀ v, minI_d v = pevCall Tryz.prog E_containsI minI_h Tryz.f55 minI_i minI_o minI_r v := by
  rintro ⟨a0, ⟨⟩⟩
  kernel_rfl
theorem minI_q : loopList (bodyOf Tryz.f55) 0 = [(0, loopOf Tryz.f55 0)] := by kernel_rfl
theorem minI_spec : SpecOK Tryz.prog 55 (mkCall 1 minI_i minI_o minI_r minI) := call_spec E_containsI_ok Tryz.func55 (by kernel_rfl) (by kernel_rfl) rfl (fun v => (minI_eq v).trans (minI_okd v)) (LoopsOK_of minI_q ⟨minI_l0, trivial⟩)
def E_minI : Env := E_containsI.ext 55 true true (mkCall 1 minI_i minI_o minI_r minI)
theorem E_minI_ok : EnvOK Tryz.prog E_minI := Env.ext_ok E_containsI_ok minI_spec (fun _ => mkCall_local rfl rfl) (fun _ => mkCall_in rfl rfl)
-- slices.Grow[[]int,int]
abbrev growI_h : Hints := {  }
theorem growI_okd : ∀ v, growI_d v = pevCall Tryz.prog E_minI growI_h Tryz.f109 growI_i growI_o growI_r v := by
  rintro ⟨a0, ⟨⟩⟩
  kernel_rfl
theorem growI_q : loopList (bodyOf Tryz.f109) 0 = [] := by kernel_rfl
theorem growI_spec : SpecOK Tryz.prog 109 (mkCall 2 growI_i growI_o growI_r growI) := call_spec E_minI_ok Tryz.func109 (by kernel_rfl) (by kernel_rfl) rfl (fun v => (growI_eq v).trans (growI_okd v)) (LoopsOK_of growI_q trivial)
def E_growI : Env := E_minI.ext 109 false true (mkCall 2 growI_i growI_o growI_r growI)
theorem E_growI_ok : EnvOK Tryz.prog E_growI := Env.ext_ok E_minI_ok growI_spec ((by simp)) (fun _ => mkCall_in rfl rfl)
end
end Go.Pev
end
section
namespace Go.Pev
open Go.Proofs
set_option maxRecDepth 100000
noncomputable section
-- slices.Concat[[]int,int]
abbrev concatI_h : Hints := { loop := fun n => match n with | 0 => loopBy 0 36 concatI_i0 concatI_o0 concatI_s0 | 1 => loopBy 0 36 concatI_i1 concatI_o1 concatI_s1 | _ => fun _ _ _ => none }
theorem concatI_s1_ok : ∀ v, concatI_s1 v = roundOf Tryz.prog E_growI concatI_h 2 0 36 (loopOf Tryz.f83 1) concatI_i1 concatI_o1 v := by
  rintro ⟨a0, a1, a2, a3, ⟨⟩⟩
  kernel_rfl
theorem concatI_q1 : loopList (loopOf Tryz.f83 1) 2 = [] := by kernel_rfl
theorem concatI_l1 : CodeOK Tryz.prog 0 (.loop (loopOf Tryz.f83 1)) (concatI_h.loop 1) := loop_ok E_growI_ok (concatI_s1_ok) (LoopsOK_of concatI_q1 trivial)
theorem concatI_s0_ok : ∀ v, concatI_s0 v = roundOf Tryz.prog E_growI concatI_h 1 0 36 (loopOf Tryz.f83 0) concatI_i0 concatI_o0 v := by
  rintro ⟨a0, a1, a2, a3, a4, ⟨⟩⟩
  kernel_rfl
theorem concatI_q0 : loopList (loopOf Tryz.f83 0) 1 = [] := by kernel_rfl
theorem concatI_l0 : CodeOK Tryz.prog 0 (.loop (loopOf Tryz.f83 0)) (concatI_h.loop 0) := loop_ok E_growI_ok (concatI_s0_ok) (LoopsOK_of concatI_q0 trivial)
theorem concatI_okd : ∀ v, concatI_d v = pevCall Tryz.prog E_growI concatI_h Tryz.f83 concatI_i concatI_o concatI_r v := by
  rintro ⟨a0, ⟨⟩⟩
  kernel_rfl
theorem concatI_q : loopList (bodyOf Tryz.f83) 0 = [(0, loopOf Tryz.f83 0), (1, loopOf Tryz.f83 1)] := by kernel_rfl
theorem concatI_spec : SpecOK Tryz.prog 83 (mkCall 1 concatI_i concatI_o concatI_r concatI) := call_spec E_growI_ok Tryz.func83 (by kernel_rfl) (by kernel_rfl) rfl (fun v => (concatI_eq v).trans (concatI_okd v)) (LoopsOK_of concatI_q ⟨concatI_l0, concatI_l1, trivial⟩)
def E_concatI : Env := E_growI.ext 83 true true (mkCall 1 concatI_i concatI_o concatI_r concatI)
theorem E_concatI_ok : EnvOK Tryz.prog E_concatI := Env.ext_ok E_growI_ok concatI_spec (fun _ => mkCall_local rfl rfl) (fun _ => mkCall_in rfl rfl)
-- archipelago/ring.Right$1: gone through in place
theorem ringOdd_b : Tryz.f84.body.isSome = true := by kernel_rfl
theorem ringOdd_n : (Tryz.f84.name == "runtime.NumGoroutine") = false := by kernel_rfl
theorem ringOdd_z : loops (bodyOf Tryz.f84) = 0 := by kernel_rfl
def E_ringOdd_1 : Env := E_concatI.ext 84 false false (mkInline Tryz.prog E_concatI {} Tryz.f84)
theorem E_ringOdd_1_ok : EnvOK Tryz.prog E_ringOdd_1 := Env.ext_ok E_concatI_ok (inline_spec E_concatI_ok Tryz.func84 ringOdd_b ringOdd_n ringOdd_z) (by simp) (by simp)
-- slices.IndexFunc[[]int,int]
abbrev idxFuncI_odd_h : Hints := { loop := fun n => match n with | 0 => loopBy 0 19 idxFuncI_odd_i0 idxFuncI_odd_o0 idxFuncI_odd_s0 | _ => fun _ _ _ => none }
theorem idxFuncI_odd_s0_ok : ∀ v, idxFuncI_odd_s0 v = roundOf Tryz.prog E_ringOdd_1 idxFuncI_odd_h 1 0 19 (loopOf Tryz.f49 0) idxFuncI_odd_i0 idxFuncI_odd_o0 v := by
  rintro ⟨a0, a1, a2, ⟨⟩⟩
  kernel_rfl
theorem idxFuncI_odd_q0 : loopList (loopOf Tryz.f49 0) 1 = [] := by kernel_rfl
theorem idxFuncI_odd_l0 : CodeOK Tryz.prog 0 (.loop (loopOf Tryz.f49 0)) (idxFuncI_odd_h.loop 0) := loop_ok E_ringOdd_1_ok (idxFuncI_odd_s0_ok) (LoopsOK_of idxFuncI_odd_q0 trivial)
theorem idxFuncI_odd_okd : ∀ v, idxFuncI_odd_d v = pevCall Tryz.prog E_ringOdd_1 idxFuncI_odd_h Tryz.f49 idxFuncI_odd_i idxFuncI_odd_o idxFuncI_odd_r v := by
  rintro ⟨a0, ⟨⟩⟩
  kernel_rfl
theorem idxFuncI_odd_q : loopList (bodyOf Tryz.f49) 0 = [(0, loopOf Tryz.f49 0)] := by kernel_rfl
theorem idxFuncI_odd_spec : SpecOK Tryz.prog 49 (mkCall 2 idxFuncI_odd_i idxFuncI_odd_o idxFuncI_odd_r idxFuncI_odd) := call_spec E_ringOdd_1_ok Tryz.func49 (by kernel_rfl) (by kernel_rfl) rfl (fun v => (idxFuncI_odd_eq v).trans (idxFuncI_odd_okd v)) (LoopsOK_of idxFuncI_odd_q ⟨idxFuncI_odd_l0, trivial⟩)
def E_idxFuncI_odd : Env := E_ringOdd_1.extC 49 1 84 (mkCall 2 idxFuncI_odd_i idxFuncI_odd_o idxFuncI_odd_r idxFuncI_odd)
theorem E_idxFuncI_odd_ok : EnvOK Tryz.prog E_idxFuncI_odd := Env.extC_ok E_ringOdd_1_ok idxFuncI_odd_spec (mkCall_in rfl rfl)
-- slices.ContainsFunc[[]int,int]
abbrev contFuncI_odd_h : Hints := {  }
theorem contFuncI_odd_okd : ∀ v, contFuncI_odd_d v = pevCall Tryz.prog E_idxFuncI_odd contFuncI_odd_h Tryz.f42 contFuncI_odd_i contFuncI_odd_o contFuncI_odd_r v := by
  rintro ⟨a0, ⟨⟩⟩
  kernel_rfl
theorem contFuncI_odd_q : loopList (bodyOf Tryz.f42) 0 = [] := by kernel_rfl
theorem contFuncI_odd_spec : SpecOK Tryz.prog 42 (mkCall 2 contFuncI_odd_i contFuncI_odd_o contFuncI_odd_r contFuncI_odd) := call_spec E_idxFuncI_odd_ok Tryz.func42 (by kernel_rfl) (by kernel_rfl) rfl (fun v => (contFuncI_odd_eq v).trans (contFuncI_odd_okd v)) (LoopsOK_of contFuncI_odd_q trivial)
def E_contFuncI_odd : Env := E_idxFuncI_odd.extC 42 1 84 (mkCall 2 contFuncI_odd_i contFuncI_odd_o contFuncI_odd_r contFuncI_odd)
theorem E_contFuncI_odd_ok : EnvOK Tryz.prog E_contFuncI_odd := Env.extC_ok E_idxFuncI_odd_ok contFuncI_odd_spec (mkCall_in rfl rfl)
-- archipelago/ring.once[int]
abbrev once_h : Hints := { loop := fun n => match n with | 0 => loopBy 0 23 once_i0 once_o0 once_s0 | _ => fun _ _ _ => none }
theorem once_s0_ok : ∀ v, once_s0 v = roundOf Tryz.prog E_contFuncI_odd once_h 1 0 23 (loopOf Tryz.f85 0) once_i0 once_o0 v := by
  rintro ⟨a0, a1, a2, a3, a4, ⟨⟩⟩
  kernel_rfl
theorem once_q0 : loopList (loopOf Tryz.f85 0) 1 = [] := by kernel_rfl
theorem once_l0 : CodeOK Tryz.prog 0 (.loop (loopOf Tryz.f85 0)) (once_h.loop 0) := loop_ok E_contFuncI_odd_ok (once_s0_ok) (LoopsOK_of once_q0 trivial)
theorem once_okd : ∀ v, once_d v = pevCall Tryz.prog E_contFuncI_odd once_h Tryz.f85 once_i once_o once_r v := by
  rintro ⟨a0, ⟨⟩⟩
  kernel_rfl
theorem once_q : loopList (bodyOf Tryz.f85) 0 = [(0, loopOf Tryz.f85 0)] := by kernel_rfl
theorem once_spec : SpecOK Tryz.prog 85 (mkCall 1 once_i once_o once_r once) := call_spec E_contFuncI_odd_ok Tryz.func85 (by kernel_rfl) (by kernel_rfl) rfl (fun v => (once_eq v).trans (once_okd v)) (LoopsOK_of once_q ⟨once_l0, trivial⟩)
def E_once : Env := E_contFuncI_odd.ext 85 true true (mkCall 1 once_i once_o once_r once)
theorem E_once_ok : EnvOK Tryz.prog E_once := Env.ext_ok E_contFuncI_odd_ok once_spec (fun _ => mkCall_local rfl rfl) (fun _ => mkCall_in rfl rfl)
-- archipelago/ring.Right
abbrev rright_h : Hints := {  }
theorem rright_okd : ∀ v, rright_d v = pevCall Tryz.prog E_once rright_h Tryz.f54 rright_i rright_o rright_r v := by
  rintro ⟨a0, ⟨⟩⟩
  kernel_rfl
theorem rright_q : loopList (bodyOf Tryz.f54) 0 = [] := by kernel_rfl
theorem rright_spec : SpecOK Tryz.prog 54 (mkCall 1 rright_i rright_o rright_r rright) := call_spec E_once_ok Tryz.func54 (by kernel_rfl) (by kernel_rfl) rfl (fun v => (rright_eq v).trans (rright_okd v)) (LoopsOK_of rright_q trivial)
def E_rright : Env := E_once.ext 54 true true (mkCall 1 rright_i rright_o rright_r rright)
theorem E_rright_ok : EnvOK Tryz.prog E_rright := Env.ext_ok E_once_ok rright_spec (fun _ => mkCall_local rfl rfl) (fun _ => mkCall_in rfl rfl)
-- archipelago/ring.turned
abbrev turned_h : Hints := { fp := fun n => match n with | 1 => [[], [], [], [], [], [], [], [0], []] | _ => [] }
theorem turned_okd : ∀ v, turned_d v = pevCall Tryz.prog E_rright turned_h Tryz.f96 turned_i turned_o turned_r v := by
  rintro ⟨a0, a1, ⟨⟩⟩
  kernel_rfl
theorem turned_q : loopList (bodyOf Tryz.f96) 0 = [] := by kernel_rfl
theorem turned_spec : SpecOK Tryz.prog 96 (mkCall 2 turned_i turned_o turned_r turned) := call_spec E_rright_ok Tryz.func96 (by kernel_rfl) (by kernel_rfl) rfl (fun v => (turned_eq v).trans (turned_okd v)) (LoopsOK_of turned_q trivial)
def E_turned : Env := E_rright.ext 96 true true (mkCall 2 turned_i turned_o turned_r turned)
theorem E_turned_ok : EnvOK Tryz.prog E_turned := Env.ext_ok E_rright_ok turned_spec (fun _ => mkCall_local rfl rfl) (fun _ => mkCall_in rfl rfl)
-- archipelago/ring.places
abbrev places_h : Hints := { loop := fun n => match n with | 0 => loopBy 0 29 places_i0 places_o0 places_s0 | _ => fun _ _ _ => none }
theorem places_s0_ok : ∀ v, places_s0 v = roundOf Tryz.prog E_turned places_h 1 0 29 (loopOf Tryz.f95 0) places_i0 places_o0 v := by
  rintro ⟨a0, a1, a2, a3, a4, ⟨⟩⟩
  kernel_rfl
theorem places_q0 : loopList (loopOf Tryz.f95 0) 1 = [] := by kernel_rfl
theorem places_l0 : CodeOK Tryz.prog 0 (.loop (loopOf Tryz.f95 0)) (places_h.loop 0) := loop_ok E_turned_ok (places_s0_ok) (LoopsOK_of places_q0 trivial)
theorem places_okd : ∀ v, places_d v = pevCall Tryz.prog E_turned places_h Tryz.f95 places_i places_o places_r v := by
  rintro ⟨a0, a1, ⟨⟩⟩
  kernel_rfl
theorem places_q : loopList (bodyOf Tryz.f95) 0 = [(0, loopOf Tryz.f95 0)] := by kernel_rfl
theorem places_spec : SpecOK Tryz.prog 95 (mkCall 2 places_i places_o places_r places) := call_spec E_turned_ok Tryz.func95 (by kernel_rfl) (by kernel_rfl) rfl (fun v => (places_eq v).trans (places_okd v)) (LoopsOK_of places_q ⟨places_l0, trivial⟩)
def E_places : Env := E_turned.ext 95 true true (mkCall 2 places_i places_o places_r places)
theorem E_places_ok : EnvOK Tryz.prog E_places := Env.ext_ok E_turned_ok places_spec (fun _ => mkCall_local rfl rfl) (fun _ => mkCall_in rfl rfl)
-- archipelago/ring.From
abbrev rfrom_h : Hints := {  }
theorem rfrom_okd : ∀ v, rfrom_d v = pevCall Tryz.prog E_places rfrom_h Tryz.f61 rfrom_i rfrom_o rfrom_r v := by
  rintro ⟨a0, a1, ⟨⟩⟩
  kernel_rfl
theorem rfrom_q : loopList (bodyOf Tryz.f61) 0 = [] := by kernel_rfl
theorem rfrom_spec : SpecOK Tryz.prog 61 (mkCall 2 rfrom_i rfrom_o rfrom_r rfrom) := call_spec E_places_ok Tryz.func61 (by kernel_rfl) (by kernel_rfl) rfl (fun v => (rfrom_eq v).trans (rfrom_okd v)) (LoopsOK_of rfrom_q trivial)
def E_rfrom : Env := E_places.ext 61 true true (mkCall 2 rfrom_i rfrom_o rfrom_r rfrom)
theorem E_rfrom_ok : EnvOK Tryz.prog E_rfrom := Env.ext_ok E_places_ok rfrom_spec (fun _ => mkCall_local rfl rfl) (fun _ => mkCall_in rfl rfl)
-- archipelago/ring.Plain
abbrev rplain_h : Hints := {  }
theorem rplain_okd : ∀ v, rplain_d v = pevCall Tryz.prog E_rfrom rplain_h Tryz.f97 rplain_i rplain_o rplain_r v := by
  rintro ⟨a0, ⟨⟩⟩
  kernel_rfl
theorem rplain_q : loopList (bodyOf Tryz.f97) 0 = [] := by kernel_rfl
theorem rplain_spec : SpecOK Tryz.prog 97 (mkCall 1 rplain_i rplain_o rplain_r rplain) := call_spec E_rfrom_ok Tryz.func97 (by kernel_rfl) (by kernel_rfl) rfl (fun v => (rplain_eq v).trans (rplain_okd v)) (LoopsOK_of rplain_q trivial)
def E_rplain : Env := E_rfrom.ext 97 true true (mkCall 1 rplain_i rplain_o rplain_r rplain)
theorem E_rplain_ok : EnvOK Tryz.prog E_rplain := Env.ext_ok E_rfrom_ok rplain_spec (fun _ => mkCall_local rfl rfl) (fun _ => mkCall_in rfl rfl)
-- archipelago/tour.place$1: gone through in place
theorem tplace1_b : Tryz.f66.body.isSome = true := by kernel_rfl
theorem tplace1_n : (Tryz.f66.name == "runtime.NumGoroutine") = false := by kernel_rfl
theorem tplace1_z : loops (bodyOf Tryz.f66) = 0 := by kernel_rfl
def E_tplace1_2 : Env := E_rplain.ext 66 false false (mkInline Tryz.prog E_rplain {} Tryz.f66)
theorem E_tplace1_2_ok : EnvOK Tryz.prog E_tplace1_2 := Env.ext_ok E_rplain_ok (inline_spec E_rplain_ok Tryz.func66 tplace1_b tplace1_n tplace1_z) (by simp) (by simp)
-- slices.IndexFunc[[][]int,[]int]
abbrev idxFuncL_place_h : Hints := { loop := fun n => match n with | 0 => loopBy 1 19 idxFuncL_place_i0 idxFuncL_place_o0 idxFuncL_place_s0 | _ => fun _ _ _ => none }
theorem idxFuncL_place_s0_ok : ∀ v, idxFuncL_place_s0 v = roundOf Tryz.prog E_tplace1_2 idxFuncL_place_h 1 1 19 (loopOf Tryz.f65 0) idxFuncL_place_i0 idxFuncL_place_o0 v := by
  rintro ⟨a0, a1, a2, a3, ⟨⟩⟩
  kernel_rfl
theorem idxFuncL_place_q0 : loopList (loopOf Tryz.f65 0) 1 = [] := by kernel_rfl
theorem idxFuncL_place_l0 : CodeOK Tryz.prog 1 (.loop (loopOf Tryz.f65 0)) (idxFuncL_place_h.loop 0) := loop_ok E_tplace1_2_ok (idxFuncL_place_s0_ok) (LoopsOK_of idxFuncL_place_q0 trivial)
theorem idxFuncL_place_okd : ∀ v, idxFuncL_place_d v = pevCall Tryz.prog E_tplace1_2 idxFuncL_place_h Tryz.f65 idxFuncL_place_i idxFuncL_place_o idxFuncL_place_r v := by
  rintro ⟨a0, a1, ⟨⟩⟩
  kernel_rfl
theorem idxFuncL_place_q : loopList (bodyOf Tryz.f65) 0 = [(0, loopOf Tryz.f65 0)] := by kernel_rfl
theorem idxFuncL_place_spec : SpecOK Tryz.prog 65 (mkCall 2 idxFuncL_place_i idxFuncL_place_o idxFuncL_place_r idxFuncL_place) := call_spec E_tplace1_2_ok Tryz.func65 (by kernel_rfl) (by kernel_rfl) rfl (fun v => (idxFuncL_place_eq v).trans (idxFuncL_place_okd v)) (LoopsOK_of idxFuncL_place_q ⟨idxFuncL_place_l0, trivial⟩)
def E_idxFuncL_place : Env := E_tplace1_2.extC 65 1 66 (mkCall 2 idxFuncL_place_i idxFuncL_place_o idxFuncL_place_r idxFuncL_place)
theorem E_idxFuncL_place_ok : EnvOK Tryz.prog E_idxFuncL_place := Env.extC_ok E_tplace1_2_ok idxFuncL_place_spec (mkCall_in rfl rfl)
end
end Go.Pev
end
section
namespace Go.Pev
open Go.Proofs
set_option maxRecDepth 100000
noncomputable section
-- archipelago/tour.place
abbrev tplace_h : Hints := {  }
theorem tplace_okd : ∀ v, tplace_d v = pevCall Tryz.prog E_idxFuncL_place tplace_h Tryz.f45 tplace_i tplace_o tplace_r v := by
  rintro ⟨a0, a1, ⟨⟩⟩
  kernel_rfl
theorem tplace_q : loopList (bodyOf Tryz.f45) 0 = [] := by kernel_rfl
theorem tplace_spec : SpecOK Tryz.prog 45 (mkCall 2 tplace_i tplace_o tplace_r tplace) := call_spec E_idxFuncL_place_ok Tryz.func45 (by kernel_rfl) (by kernel_rfl) rfl (fun v => (tplace_eq v).trans (tplace_okd v)) (LoopsOK_of tplace_q trivial)
def E_tplace : Env := E_idxFuncL_place.ext 45 true true (mkCall 2 tplace_i tplace_o tplace_r tplace)
theorem E_tplace_ok : EnvOK Tryz.prog E_tplace := Env.ext_ok E_idxFuncL_place_ok tplace_spec (fun _ => mkCall_local rfl rfl) (fun _ => mkCall_in rfl rfl)
-- (*archipelago/tour.walk).along: gone through in place
theorem along_b : Tryz.f86.body.isSome = true := by kernel_rfl
theorem along_n : (Tryz.f86.name == "runtime.NumGoroutine") = false := by kernel_rfl
theorem along_z : loops (bodyOf Tryz.f86) = 0 := by kernel_rfl
def E_along_3 : Env := E_tplace.ext 86 false false (mkInline Tryz.prog E_tplace {} Tryz.f86)
theorem E_along_3_ok : EnvOK Tryz.prog E_along_3 := Env.ext_ok E_tplace_ok (inline_spec E_tplace_ok Tryz.func86 along_b along_n along_z) (by simp) (by simp)
-- archipelago/tour.goes
abbrev goes_h : Hints := { loop := fun n => match n with | 0 => loopBy 0 107 goes_i0 goes_o0 goes_s0 | _ => fun _ _ _ => none, fp := fun n => match n with | 8 => [[], [], [], [], [], [], [], [], [1000003], [], [], [], [], [], [], [], [], [0], [0], [0], [], [0], [0], [0], [2, 26], [], [2, 26], [2, 26], [], [], [], [], []] | 13 => [[], [0], [0], [0], [2], [], [], [], [0], [0], [0], [6], [], [0], [0], [0], [4], [], [], []] | 3 => [[], [], [], [], [], [], [], [], [11], [], [], [], [8, 10, 12], []] | _ => [] }
theorem goes_s0_ok : ∀ v, goes_s0 v = roundOf Tryz.prog E_along_3 goes_h 1 0 107 (loopOf Tryz.f56 0) goes_i0 goes_o0 v := by
  rintro ⟨a0, a1, a2, a3, a4, a5, a6, ⟨⟩⟩
  kernel_rfl
theorem goes_q0 : loopList (loopOf Tryz.f56 0) 1 = [] := by kernel_rfl
theorem goes_l0 : CodeOK Tryz.prog 0 (.loop (loopOf Tryz.f56 0)) (goes_h.loop 0) := loop_ok E_along_3_ok (goes_s0_ok) (LoopsOK_of goes_q0 trivial)
theorem goes_okd : ∀ v, goes_d v = pevCall Tryz.prog E_along_3 goes_h Tryz.f56 goes_i goes_o goes_r v := by
  rintro ⟨a0, a1, ⟨⟩⟩
  kernel_rfl
theorem goes_q : loopList (bodyOf Tryz.f56) 0 = [(0, loopOf Tryz.f56 0)] := by kernel_rfl
theorem goes_spec : SpecOK Tryz.prog 56 (mkCall 2 goes_i goes_o goes_r goes) := call_spec E_along_3_ok Tryz.func56 (by kernel_rfl) (by kernel_rfl) rfl (fun v => (goes_eq v).trans (goes_okd v)) (LoopsOK_of goes_q ⟨goes_l0, trivial⟩)
def E_goes : Env := E_along_3.ext 56 true true (mkCall 2 goes_i goes_o goes_r goes)
theorem E_goes_ok : EnvOK Tryz.prog E_goes := Env.ext_ok E_along_3_ok goes_spec (fun _ => mkCall_local rfl rfl) (fun _ => mkCall_in rfl rfl)
-- archipelago/tour.Right
abbrev tright_h : Hints := { loop := fun n => match n with | 0 => loopBy 0 87 tright_i0 tright_o0 tright_s0 | 1 => loopBy 0 87 tright_i1 tright_o1 tright_s1 | 2 => loopBy 0 87 tright_i2 tright_o2 tright_s2 | _ => fun _ _ _ => none, fp := fun n => match n with | 8 => [[], [], [], [], [], [], [], [], [], [], [], [], [], [], [], [], [], [], [], [], [], [], [], [], [0], [0], [], [], [], []] | _ => [] }
theorem tright_s2_ok : ∀ v, tright_s2 v = roundOf Tryz.prog E_goes tright_h 3 0 87 (loopOf Tryz.f34 2) tright_i2 tright_o2 v := by
  rintro ⟨a0, a1, a2, ⟨⟩⟩
  kernel_rfl
theorem tright_q2 : loopList (loopOf Tryz.f34 2) 3 = [] := by kernel_rfl
theorem tright_l2 : CodeOK Tryz.prog 0 (.loop (loopOf Tryz.f34 2)) (tright_h.loop 2) := loop_ok E_goes_ok (tright_s2_ok) (LoopsOK_of tright_q2 trivial)
theorem tright_s1_ok : ∀ v, tright_s1 v = roundOf Tryz.prog E_goes tright_h 2 0 87 (loopOf Tryz.f34 1) tright_i1 tright_o1 v := by
  rintro ⟨a0, a1, a2, a3, a4, a5, a6, a7, a8, a9, a10, a11, a12, a13, a14, a15, a16, a17, a18, a19, a20, a21, a22, a23, a24, a25, ⟨⟩⟩
  kernel_rfl
theorem tright_q1 : loopList (loopOf Tryz.f34 1) 2 = [] := by kernel_rfl
theorem tright_l1 : CodeOK Tryz.prog 0 (.loop (loopOf Tryz.f34 1)) (tright_h.loop 1) := loop_ok E_goes_ok (tright_s1_ok) (LoopsOK_of tright_q1 trivial)
theorem tright_s0_ok : ∀ v, tright_s0 v = roundOf Tryz.prog E_goes tright_h 1 0 87 (loopOf Tryz.f34 0) tright_i0 tright_o0 v := by
  rintro ⟨a0, a1, a2, a3, a4, a5, a6, ⟨⟩⟩
  kernel_rfl
theorem tright_q0 : loopList (loopOf Tryz.f34 0) 1 = [(1, loopOf Tryz.f34 1)] := by kernel_rfl
theorem tright_l0 : CodeOK Tryz.prog 0 (.loop (loopOf Tryz.f34 0)) (tright_h.loop 0) := loop_ok E_goes_ok (tright_s0_ok) (LoopsOK_of tright_q0 ⟨tright_l1, trivial⟩)
theorem tright_okd : ∀ v, tright_d v = pevCall Tryz.prog E_goes tright_h Tryz.f34 tright_i tright_o tright_r v := by
  rintro ⟨a0, ⟨⟩⟩
  kernel_rfl
theorem tright_q : loopList (bodyOf Tryz.f34) 0 = [(0, loopOf Tryz.f34 0), (2, loopOf Tryz.f34 2)] := by kernel_rfl
theorem tright_spec : SpecOK Tryz.prog 34 (mkCall 1 tright_i tright_o tright_r tright) := call_spec E_goes_ok Tryz.func34 (by kernel_rfl) (by kernel_rfl) rfl (fun v => (tright_eq v).trans (tright_okd v)) (LoopsOK_of tright_q ⟨tright_l0, tright_l2, trivial⟩)
def E_tright : Env := E_goes.ext 34 true true (mkCall 1 tright_i tright_o tright_r tright)
theorem E_tright_ok : EnvOK Tryz.prog E_tright := Env.ext_ok E_goes_ok tright_spec (fun _ => mkCall_local rfl rfl) (fun _ => mkCall_in rfl rfl)
-- archipelago/tour.Of
abbrev tof_h : Hints := {  }
theorem tof_okd : ∀ v, tof_d v = pevCall Tryz.prog E_tright tof_h Tryz.f24 tof_i tof_o tof_r v := by
  rintro ⟨a0, a1, ⟨⟩⟩
  kernel_rfl
theorem tof_q : loopList (bodyOf Tryz.f24) 0 = [] := by kernel_rfl
theorem tof_spec : SpecOK Tryz.prog 24 (mkCall 2 tof_i tof_o tof_r tof) := call_spec E_tright_ok Tryz.func24 (by kernel_rfl) (by kernel_rfl) rfl (fun v => (tof_eq v).trans (tof_okd v)) (LoopsOK_of tof_q trivial)
def E_tof : Env := E_tright.ext 24 true true (mkCall 2 tof_i tof_o tof_r tof)
theorem E_tof_ok : EnvOK Tryz.prog E_tof := Env.ext_ok E_tright_ok tof_spec (fun _ => mkCall_local rfl rfl) (fun _ => mkCall_in rfl rfl)
-- archipelago/tour.asked
abbrev asked_h : Hints := {  }
theorem asked_okd : ∀ v, asked_d v = pevCall Tryz.prog E_tof asked_h Tryz.f60 asked_i asked_o asked_r v := by
  rintro ⟨a0, a1, a2, ⟨⟩⟩
  kernel_rfl
theorem asked_q : loopList (bodyOf Tryz.f60) 0 = [] := by kernel_rfl
theorem asked_spec : SpecOK Tryz.prog 60 (mkCall 3 asked_i asked_o asked_r asked) := call_spec E_tof_ok Tryz.func60 (by kernel_rfl) (by kernel_rfl) rfl (fun v => (asked_eq v).trans (asked_okd v)) (LoopsOK_of asked_q trivial)
def E_asked : Env := E_tof.ext 60 true true (mkCall 3 asked_i asked_o asked_r asked)
theorem E_asked_ok : EnvOK Tryz.prog E_asked := Env.ext_ok E_tof_ok asked_spec (fun _ => mkCall_local rfl rfl) (fun _ => mkCall_in rfl rfl)
-- cmp.isNaN[int]
abbrev nanI_h : Hints := {  }
theorem nanI_okd : ∀ v, nanI_d v = pevCall Tryz.prog E_asked nanI_h Tryz.f58 nanI_i nanI_o nanI_r v := by
  rintro ⟨a0, ⟨⟩⟩
  kernel_rfl
theorem nanI_q : loopList (bodyOf Tryz.f58) 0 = [] := by kernel_rfl
theorem nanI_spec : SpecOK Tryz.prog 58 (mkCall 1 nanI_i nanI_o nanI_r nanI) := call_spec E_asked_ok Tryz.func58 (by kernel_rfl) (by kernel_rfl) rfl (fun v => (nanI_eq v).trans (nanI_okd v)) (LoopsOK_of nanI_q trivial)
def E_nanI : Env := E_asked.ext 58 true true (mkCall 1 nanI_i nanI_o nanI_r nanI)
theorem E_nanI_ok : EnvOK Tryz.prog E_nanI := Env.ext_ok E_asked_ok nanI_spec (fun _ => mkCall_local rfl rfl) (fun _ => mkCall_in rfl rfl)
-- cmp.Compare[int]
abbrev compareI_h : Hints := {  }
theorem compareI_okd : ∀ v, compareI_d v = pevCall Tryz.prog E_nanI compareI_h Tryz.f39 compareI_i compareI_o compareI_r v := by
  rintro ⟨a0, a1, ⟨⟩⟩
  kernel_rfl
theorem compareI_q : loopList (bodyOf Tryz.f39) 0 = [] := by kernel_rfl
theorem compareI_spec : SpecOK Tryz.prog 39 (mkCall 2 compareI_i compareI_o compareI_r compareI) := call_spec E_nanI_ok Tryz.func39 (by kernel_rfl) (by kernel_rfl) rfl (fun v => (compareI_eq v).trans (compareI_okd v)) (LoopsOK_of compareI_q trivial)
def E_compareI : Env := E_nanI.ext 39 true true (mkCall 2 compareI_i compareI_o compareI_r compareI)
theorem E_compareI_ok : EnvOK Tryz.prog E_compareI := Env.ext_ok E_nanI_ok compareI_spec (fun _ => mkCall_local rfl rfl) (fun _ => mkCall_in rfl rfl)
-- archipelago/tour.with$1
abbrev with1_h : Hints := { fp := fun n => match n with | 1 => [[], [], [], [], [], [], [], []] | _ => [] }
theorem with1_okd : ∀ v, with1_d v = pevCall Tryz.prog E_compareI with1_h Tryz.f99 with1_i with1_o with1_r v := by
  rintro ⟨a0, a1, ⟨⟩⟩
  kernel_rfl
theorem with1_q : loopList (bodyOf Tryz.f99) 0 = [] := by kernel_rfl
theorem with1_spec : SpecOK Tryz.prog 99 (mkCall 2 with1_i with1_o with1_r with1) := call_spec E_compareI_ok Tryz.func99 (by kernel_rfl) (by kernel_rfl) rfl (fun v => (with1_eq v).trans (with1_okd v)) (LoopsOK_of with1_q trivial)
def E_with1 : Env := E_compareI.ext 99 true true (mkCall 2 with1_i with1_o with1_r with1)
theorem E_with1_ok : EnvOK Tryz.prog E_with1 := Env.ext_ok E_compareI_ok with1_spec (fun _ => mkCall_local rfl rfl) (fun _ => mkCall_in rfl rfl)
-- math/bits.Len64
abbrev len64_h : Hints := {  }
theorem len64_okd : ∀ v, len64_d v = pevCall Tryz.prog E_with1 len64_h Tryz.f82 len64_i len64_o len64_r v := by
  rintro ⟨a0, ⟨⟩⟩
  kernel_rfl
theorem len64_q : loopList (bodyOf Tryz.f82) 0 = [] := by kernel_rfl
theorem len64_spec : SpecOK Tryz.prog 82 (mkCall 1 len64_i len64_o len64_r len64) := call_spec E_with1_ok Tryz.func82 (by kernel_rfl) (by kernel_rfl) rfl (fun v => (len64_eq v).trans (len64_okd v)) (LoopsOK_of len64_q trivial)
def E_len64 : Env := E_with1.ext 82 true true (mkCall 1 len64_i len64_o len64_r len64)
theorem E_len64_ok : EnvOK Tryz.prog E_len64 := Env.ext_ok E_with1_ok len64_spec (fun _ => mkCall_local rfl rfl) (fun _ => mkCall_in rfl rfl)
-- math/bits.Len
abbrev bitsLen_h : Hints := {  }
theorem bitsLen_okd : ∀ v, bitsLen_d v = pevCall Tryz.prog E_len64 bitsLen_h Tryz.f51 bitsLen_i bitsLen_o bitsLen_r v := by
  rintro ⟨a0, ⟨⟩⟩
  kernel_rfl
theorem bitsLen_q : loopList (bodyOf Tryz.f51) 0 = [] := by kernel_rfl
theorem bitsLen_spec : SpecOK Tryz.prog 51 (mkCall 1 bitsLen_i bitsLen_o bitsLen_r bitsLen) := call_spec E_len64_ok Tryz.func51 (by kernel_rfl) (by kernel_rfl) rfl (fun v => (bitsLen_eq v).trans (bitsLen_okd v)) (LoopsOK_of bitsLen_q trivial)
def E_bitsLen : Env := E_len64.ext 51 true true (mkCall 1 bitsLen_i bitsLen_o bitsLen_r bitsLen)
theorem E_bitsLen_ok : EnvOK Tryz.prog E_bitsLen := Env.ext_ok E_len64_ok bitsLen_spec (fun _ => mkCall_local rfl rfl) (fun _ => mkCall_in rfl rfl)
-- (*slices.xorshift).Next
abbrev xorNext_h : Hints := { fp := fun n => match n with | 3 => [[], [0], [0], [], [0], [0], [], [], [0], [1]] | 2 => [[], [0], [0], [], [0], [0], [], [], [0], [1]] | 1 => [[], [0], [0], [], [0], [0], [], [], [0], [1]] | _ => [] }
theorem xorNext_okd : ∀ v, xorNext_d v = pevCall Tryz.prog E_bitsLen xorNext_h Tryz.f106 xorNext_i xorNext_o xorNext_r v := by
  rintro ⟨a0, ⟨⟩⟩
  kernel_rfl
theorem xorNext_q : loopList (bodyOf Tryz.f106) 0 = [] := by kernel_rfl
theorem xorNext_spec : SpecOK Tryz.prog 106 (mkCall 1 xorNext_i xorNext_o xorNext_r xorNext) := call_spec E_bitsLen_ok Tryz.func106 (by kernel_rfl) (by kernel_rfl) rfl (fun v => (xorNext_eq v).trans (xorNext_okd v)) (LoopsOK_of xorNext_q trivial)
def E_xorNext : Env := E_bitsLen.ext 106 false true (mkCall 1 xorNext_i xorNext_o xorNext_r xorNext)
theorem E_xorNext_ok : EnvOK Tryz.prog E_xorNext := Env.ext_ok E_bitsLen_ok xorNext_spec ((by simp)) (fun _ => mkCall_in rfl rfl)
end
end Go.Pev
end
section
namespace Go.Pev
open Go.Proofs
set_option maxRecDepth 100000
noncomputable section
-- slices.nextPowerOfTwo
abbrev nextPow_h : Hints := {  }
theorem nextPow_okd : ∀ v, nextPow_d v = pevCall Tryz.prog E_xorNext nextPow_h Tryz.f105 nextPow_i nextPow_o nextPow_r v := by
  rintro ⟨a0, ⟨⟩⟩
  kernel_rfl
theorem nextPow_q : loopList (bodyOf Tryz.f105) 0 = [] := by kernel_rfl
theorem nextPow_spec : SpecOK Tryz.prog 105 (mkCall 1 nextPow_i nextPow_o nextPow_r nextPow) := call_spec E_xorNext_ok Tryz.func105 (by kernel_rfl) (by kernel_rfl) rfl (fun v => (nextPow_eq v).trans (nextPow_okd v)) (LoopsOK_of nextPow_q trivial)
def E_nextPow : Env := E_xorNext.ext 105 true true (mkCall 1 nextPow_i nextPow_o nextPow_r nextPow)
theorem E_nextPow_ok : EnvOK Tryz.prog E_nextPow := Env.ext_ok E_xorNext_ok nextPow_spec (fun _ => mkCall_local rfl rfl) (fun _ => mkCall_in rfl rfl)
-- slices.insertionSortCmpFunc[[]int]
abbrev insL_h : Hints := { loop := fun n => match n with | 0 => loopBy 1 53 insL_i0 insL_o0 insL_s0 | 1 => loopBy 1 53 insL_i1 insL_o1 insL_s1 | _ => fun _ _ _ => none, fp := fun n => match n with | 4 => [[], [], [], [], [], [], [], [0], [0], [], [], [], [0], [0], [], [], []] | 6 => [[], [], [], [], [], [], [], [], [0], [0], [], [], [0], [0], [0], [1], [0], [1]] | _ => [] }
theorem insL_s1_ok : ∀ v, insL_s1 v = roundOf Tryz.prog E_nextPow insL_h 2 1 53 (loopOf Tryz.f116 1) insL_i1 insL_o1 v := by
  rintro ⟨a0, a1, a2, a3, a4, ⟨⟩⟩
  kernel_rfl
theorem insL_q1 : loopList (loopOf Tryz.f116 1) 2 = [] := by kernel_rfl
theorem insL_l1 : CodeOK Tryz.prog 1 (.loop (loopOf Tryz.f116 1)) (insL_h.loop 1) := loop_ok E_nextPow_ok (insL_s1_ok) (LoopsOK_of insL_q1 trivial)
theorem insL_s0_ok : ∀ v, insL_s0 v = roundOf Tryz.prog E_nextPow insL_h 1 1 53 (loopOf Tryz.f116 0) insL_i0 insL_o0 v := by
  rintro ⟨a0, a1, a2, a3, ⟨⟩⟩
  kernel_rfl
theorem insL_q0 : loopList (loopOf Tryz.f116 0) 1 = [(1, loopOf Tryz.f116 1)] := by kernel_rfl
theorem insL_l0 : CodeOK Tryz.prog 1 (.loop (loopOf Tryz.f116 0)) (insL_h.loop 0) := loop_ok E_nextPow_ok (insL_s0_ok) (LoopsOK_of insL_q0 ⟨insL_l1, trivial⟩)
theorem insL_okd : ∀ v, insL_d v = pevCall Tryz.prog E_nextPow insL_h Tryz.f116 insL_i insL_o insL_r v := by
  rintro ⟨a0, a1, a2, ⟨⟩⟩
  kernel_rfl
theorem insL_q : loopList (bodyOf Tryz.f116) 0 = [(0, loopOf Tryz.f116 0)] := by kernel_rfl
theorem insL_spec : SpecOK Tryz.prog 116 (mkCall 4 insL_i insL_o insL_r insL) := call_spec E_nextPow_ok Tryz.func116 (by kernel_rfl) (by kernel_rfl) rfl (fun v => (insL_eq v).trans (insL_okd v)) (LoopsOK_of insL_q ⟨insL_l0, trivial⟩)
def E_insL : Env := E_nextPow.extC 116 3 99 (mkCall 4 insL_i insL_o insL_r insL)
theorem E_insL_ok : EnvOK Tryz.prog E_insL := Env.extC_ok E_nextPow_ok insL_spec (mkCall_in rfl rfl)
-- slices.siftDownCmpFunc[[]int]
abbrev siftL_h : Hints := { loop := fun n => match n with | 0 => loopBy 1 82 siftL_i0 siftL_o0 siftL_s0 | _ => fun _ _ _ => none, fp := fun n => match n with | 6 => [[], [], [], [], [], [], [], [], [], [], [], [], [0], [0], [], [], [], [], [0], [0], [0], [1], [0], [1]] | 5 => [[], [], [], [], [], [0], [0], [], [], [], [], [0], [0], [], [], []] | 3 => [[], [], [], [], [], [], [], [], [], [], [0], [0], [], [], [], [], [], [0], [0], [], [], []] | _ => [] }
theorem siftL_s0_ok : ∀ v, siftL_s0 v = roundOf Tryz.prog E_insL siftL_h 1 1 82 (loopOf Tryz.f124 0) siftL_i0 siftL_o0 v := by
  rintro ⟨a0, a1, a2, a3, ⟨⟩⟩
  kernel_rfl
theorem siftL_q0 : loopList (loopOf Tryz.f124 0) 1 = [] := by kernel_rfl
theorem siftL_l0 : CodeOK Tryz.prog 1 (.loop (loopOf Tryz.f124 0)) (siftL_h.loop 0) := loop_ok E_insL_ok (siftL_s0_ok) (LoopsOK_of siftL_q0 trivial)
theorem siftL_okd : ∀ v, siftL_d v = pevCall Tryz.prog E_insL siftL_h Tryz.f124 siftL_i siftL_o siftL_r v := by
  rintro ⟨a0, a1, a2, a3, ⟨⟩⟩
  kernel_rfl
theorem siftL_q : loopList (bodyOf Tryz.f124) 0 = [(0, loopOf Tryz.f124 0)] := by kernel_rfl
theorem siftL_spec : SpecOK Tryz.prog 124 (mkCall 5 siftL_i siftL_o siftL_r siftL) := call_spec E_insL_ok Tryz.func124 (by kernel_rfl) (by kernel_rfl) rfl (fun v => (siftL_eq v).trans (siftL_okd v)) (LoopsOK_of siftL_q ⟨siftL_l0, trivial⟩)
def E_siftL : Env := E_insL.extC 124 4 99 (mkCall 5 siftL_i siftL_o siftL_r siftL)
theorem E_siftL_ok : EnvOK Tryz.prog E_siftL := Env.extC_ok E_insL_ok siftL_spec (mkCall_in rfl rfl)
-- slices.heapSortCmpFunc[[]int]
abbrev heapL_h : Hints := { loop := fun n => match n with | 0 => loopBy 1 60 heapL_i0 heapL_o0 heapL_s0 | 1 => loopBy 1 60 heapL_i1 heapL_o1 heapL_s1 | _ => fun _ _ _ => none, fp := fun n => match n with | 10 => [[], [], [], [], [], [], [], [], [], [], [0], [0], [], [], [0], [0], [0], [1], [0], [1]] | _ => [] }
theorem heapL_s1_ok : ∀ v, heapL_s1 v = roundOf Tryz.prog E_siftL heapL_h 2 1 60 (loopOf Tryz.f117 1) heapL_i1 heapL_o1 v := by
  rintro ⟨a0, a1, a2, a3, ⟨⟩⟩
  kernel_rfl
theorem heapL_q1 : loopList (loopOf Tryz.f117 1) 2 = [] := by kernel_rfl
theorem heapL_l1 : CodeOK Tryz.prog 1 (.loop (loopOf Tryz.f117 1)) (heapL_h.loop 1) := loop_ok E_siftL_ok (heapL_s1_ok) (LoopsOK_of heapL_q1 trivial)
theorem heapL_s0_ok : ∀ v, heapL_s0 v = roundOf Tryz.prog E_siftL heapL_h 1 1 60 (loopOf Tryz.f117 0) heapL_i0 heapL_o0 v := by
  rintro ⟨a0, a1, a2, a3, a4, ⟨⟩⟩
  kernel_rfl
theorem heapL_q0 : loopList (loopOf Tryz.f117 0) 1 = [] := by kernel_rfl
theorem heapL_l0 : CodeOK Tryz.prog 1 (.loop (loopOf Tryz.f117 0)) (heapL_h.loop 0) := loop_ok E_siftL_ok (heapL_s0_ok) (LoopsOK_of heapL_q0 trivial)
theorem heapL_okd : ∀ v, heapL_d v = pevCall Tryz.prog E_siftL heapL_h Tryz.f117 heapL_i heapL_o heapL_r v := by
  rintro ⟨a0, a1, a2, ⟨⟩⟩
  kernel_rfl
theorem heapL_q : loopList (bodyOf Tryz.f117) 0 = [(0, loopOf Tryz.f117 0), (1, loopOf Tryz.f117 1)] := by kernel_rfl
theorem heapL_spec : SpecOK Tryz.prog 117 (mkCall 4 heapL_i heapL_o heapL_r heapL) := call_spec E_siftL_ok Tryz.func117 (by kernel_rfl) (by kernel_rfl) rfl (fun v => (heapL_eq v).trans (heapL_okd v)) (LoopsOK_of heapL_q ⟨heapL_l0, heapL_l1, trivial⟩)
def E_heapL : Env := E_siftL.extC 117 3 99 (mkCall 4 heapL_i heapL_o heapL_r heapL)
theorem E_heapL_ok : EnvOK Tryz.prog E_heapL := Env.extC_ok E_siftL_ok heapL_spec (mkCall_in rfl rfl)
-- slices.breakPatternsCmpFunc[[]int]
abbrev breakL_h : Hints := { loop := fun n => match n with | 0 => loopBy 1 67 breakL_i0 breakL_o0 breakL_s0 | _ => fun _ _ _ => none, fp := fun n => match n with | 10 => [[], [], [], [], [], [], [], [], [], [], [0], [0], [], [], [0], [0], [0], [1], [0], [1]] | _ => [] }
theorem breakL_s0_ok : ∀ v, breakL_s0 v = roundOf Tryz.prog E_heapL breakL_h 1 1 67 (loopOf Tryz.f118 0) breakL_i0 breakL_o0 v := by
  rintro ⟨a0, a1, a2, a3, a4, a5, ⟨⟩⟩
  kernel_rfl
theorem breakL_q0 : loopList (loopOf Tryz.f118 0) 1 = [] := by kernel_rfl
theorem breakL_l0 : CodeOK Tryz.prog 1 (.loop (loopOf Tryz.f118 0)) (breakL_h.loop 0) := loop_ok E_heapL_ok (breakL_s0_ok) (LoopsOK_of breakL_q0 trivial)
theorem breakL_okd : ∀ v, breakL_d v = pevCall Tryz.prog E_heapL breakL_h Tryz.f118 breakL_i breakL_o breakL_r v := by
  rintro ⟨a0, a1, a2, ⟨⟩⟩
  kernel_rfl
theorem breakL_q : loopList (bodyOf Tryz.f118) 0 = [(0, loopOf Tryz.f118 0)] := by kernel_rfl
theorem breakL_spec : SpecOK Tryz.prog 118 (mkCall 4 breakL_i breakL_o breakL_r breakL) := call_spec E_heapL_ok Tryz.func118 (by kernel_rfl) (by kernel_rfl) rfl (fun v => (breakL_eq v).trans (breakL_okd v)) (LoopsOK_of breakL_q ⟨breakL_l0, trivial⟩)
def E_breakL : Env := E_heapL.extC 118 3 99 (mkCall 4 breakL_i breakL_o breakL_r breakL)
theorem E_breakL_ok : EnvOK Tryz.prog E_breakL := Env.extC_ok E_heapL_ok breakL_spec (mkCall_in rfl rfl)
-- slices.order2CmpFunc[[]int]
abbrev order2L_h : Hints := { fp := fun n => match n with | 1 => [[], [], [], [0], [0], [], [], [0], [0], [], []] | _ => [] }
theorem order2L_okd : ∀ v, order2L_d v = pevCall Tryz.prog E_breakL order2L_h Tryz.f127 order2L_i order2L_o order2L_r v := by
  rintro ⟨a0, a1, a2, a3, ⟨⟩⟩
  kernel_rfl
theorem order2L_q : loopList (bodyOf Tryz.f127) 0 = [] := by kernel_rfl
theorem order2L_spec : SpecOK Tryz.prog 127 (mkCall 5 order2L_i order2L_o order2L_r order2L) := call_spec E_breakL_ok Tryz.func127 (by kernel_rfl) (by kernel_rfl) rfl (fun v => (order2L_eq v).trans (order2L_okd v)) (LoopsOK_of order2L_q trivial)
def E_order2L : Env := E_breakL.extC 127 4 99 (mkCall 5 order2L_i order2L_o order2L_r order2L)
theorem E_order2L_ok : EnvOK Tryz.prog E_order2L := Env.extC_ok E_breakL_ok order2L_spec (mkCall_in rfl rfl)
-- slices.medianCmpFunc[[]int]
abbrev medianL_h : Hints := {  }
theorem medianL_okd : ∀ v, medianL_d v = pevCall Tryz.prog E_order2L medianL_h Tryz.f126 medianL_i medianL_o medianL_r v := by
  rintro ⟨a0, a1, a2, a3, a4, ⟨⟩⟩
  kernel_rfl
theorem medianL_q : loopList (bodyOf Tryz.f126) 0 = [] := by kernel_rfl
theorem medianL_spec : SpecOK Tryz.prog 126 (mkCall 6 medianL_i medianL_o medianL_r medianL) := call_spec E_order2L_ok Tryz.func126 (by kernel_rfl) (by kernel_rfl) rfl (fun v => (medianL_eq v).trans (medianL_okd v)) (LoopsOK_of medianL_q trivial)
def E_medianL : Env := E_order2L.extC 126 5 99 (mkCall 6 medianL_i medianL_o medianL_r medianL)
theorem E_medianL_ok : EnvOK Tryz.prog E_medianL := Env.extC_ok E_order2L_ok medianL_spec (mkCall_in rfl rfl)
-- slices.medianAdjacentCmpFunc[[]int]
abbrev medAdjL_h : Hints := {  }
theorem medAdjL_okd : ∀ v, medAdjL_d v = pevCall Tryz.prog E_medianL medAdjL_h Tryz.f125 medAdjL_i medAdjL_o medAdjL_r v := by
  rintro ⟨a0, a1, a2, ⟨⟩⟩
  kernel_rfl
theorem medAdjL_q : loopList (bodyOf Tryz.f125) 0 = [] := by kernel_rfl
theorem medAdjL_spec : SpecOK Tryz.prog 125 (mkCall 4 medAdjL_i medAdjL_o medAdjL_r medAdjL) := call_spec E_medianL_ok Tryz.func125 (by kernel_rfl) (by kernel_rfl) rfl (fun v => (medAdjL_eq v).trans (medAdjL_okd v)) (LoopsOK_of medAdjL_q trivial)
def E_medAdjL : Env := E_medianL.extC 125 3 99 (mkCall 4 medAdjL_i medAdjL_o medAdjL_r medAdjL)
theorem E_medAdjL_ok : EnvOK Tryz.prog E_medAdjL := Env.extC_ok E_medianL_ok medAdjL_spec (mkCall_in rfl rfl)
-- slices.choosePivotCmpFunc[[]int]
abbrev pivotL_h : Hints := {  }
theorem pivotL_okd : ∀ v, pivotL_d v = pevCall Tryz.prog E_medAdjL pivotL_h Tryz.f119 pivotL_i pivotL_o pivotL_r v := by
  rintro ⟨a0, a1, a2, ⟨⟩⟩
  kernel_rfl
theorem pivotL_q : loopList (bodyOf Tryz.f119) 0 = [] := by kernel_rfl
theorem pivotL_spec : SpecOK Tryz.prog 119 (mkCall 4 pivotL_i pivotL_o pivotL_r pivotL) := call_spec E_medAdjL_ok Tryz.func119 (by kernel_rfl) (by kernel_rfl) rfl (fun v => (pivotL_eq v).trans (pivotL_okd v)) (LoopsOK_of pivotL_q trivial)
def E_pivotL : Env := E_medAdjL.extC 119 3 99 (mkCall 4 pivotL_i pivotL_o pivotL_r pivotL)
theorem E_pivotL_ok : EnvOK Tryz.prog E_pivotL := Env.extC_ok E_medAdjL_ok pivotL_spec (mkCall_in rfl rfl)
-- slices.reverseRangeCmpFunc[[]int]
abbrev revL_h : Hints := { loop := fun n => match n with | 0 => loopBy 1 34 revL_i0 revL_o0 revL_s0 | _ => fun _ _ _ => none, fp := fun n => match n with | 3 => [[], [], [], [], [], [], [0], [0], [], [], [0], [0], [0], [1], [0], [1]] | _ => [] }
theorem revL_s0_ok : ∀ v, revL_s0 v = roundOf Tryz.prog E_pivotL revL_h 1 1 34 (loopOf Tryz.f120 0) revL_i0 revL_o0 v := by
  rintro ⟨a0, a1, a2, ⟨⟩⟩
  kernel_rfl
theorem revL_q0 : loopList (loopOf Tryz.f120 0) 1 = [] := by kernel_rfl
theorem revL_l0 : CodeOK Tryz.prog 1 (.loop (loopOf Tryz.f120 0)) (revL_h.loop 0) := loop_ok E_pivotL_ok (revL_s0_ok) (LoopsOK_of revL_q0 trivial)
theorem revL_okd : ∀ v, revL_d v = pevCall Tryz.prog E_pivotL revL_h Tryz.f120 revL_i revL_o revL_r v := by
  rintro ⟨a0, a1, a2, ⟨⟩⟩
  kernel_rfl
theorem revL_q : loopList (bodyOf Tryz.f120) 0 = [(0, loopOf Tryz.f120 0)] := by kernel_rfl
theorem revL_spec : SpecOK Tryz.prog 120 (mkCall 4 revL_i revL_o revL_r revL) := call_spec E_pivotL_ok Tryz.func120 (by kernel_rfl) (by kernel_rfl) rfl (fun v => (revL_eq v).trans (revL_okd v)) (LoopsOK_of revL_q ⟨revL_l0, trivial⟩)
def E_revL : Env := E_pivotL.extC 120 3 99 (mkCall 4 revL_i revL_o revL_r revL)
theorem E_revL_ok : EnvOK Tryz.prog E_revL := Env.extC_ok E_pivotL_ok revL_spec (mkCall_in rfl rfl)
-- slices.partialInsertionSortCmpFunc[[]int]
abbrev partInsL_h : Hints := { loop := fun n => match n with | 0 => loopBy 1 141 partInsL_i0 partInsL_o0 partInsL_s0 | 1 => loopBy 1 141 partInsL_i1 partInsL_o1 partInsL_s1 | 2 => loopBy 1 141 partInsL_i2 partInsL_o2 partInsL_s2 | 3 => loopBy 1 141 partInsL_i3 partInsL_o3 partInsL_s3 | _ => fun _ _ _ => none, fp := fun n => match n with | 11 => [[], [], [], [], [], [], [], [], [0], [0], [], [], [0], [0], [0], [1], [0], [1]] | 5 => [[], [], [], [], [], [], [], [0], [0], [], [], [], [0], [0], [], [], [], []] | 17 => [[], [], [], [], [], [], [], [], [0], [0], [], [], [0], [0], [0], [1], [0], [1]] | 16 => [[], [], [], [0], [0], [], [], [], [0], [0], [], [], []] | 23 => [[], [], [], [], [], [], [], [], [0], [0], [], [], [0], [0], [0], [1], [0], [1]] | 22 => [[], [], [], [0], [0], [], [], [], [0], [0], [], [], []] | _ => [] }
theorem partInsL_s3_ok : ∀ v, partInsL_s3 v = roundOf Tryz.prog E_revL partInsL_h 4 1 141 (loopOf Tryz.f121 3) partInsL_i3 partInsL_o3 v := by
  rintro ⟨a0, a1, a2, a3, a4, a5, ⟨⟩⟩
  kernel_rfl
theorem partInsL_q3 : loopList (loopOf Tryz.f121 3) 4 = [] := by kernel_rfl
theorem partInsL_l3 : CodeOK Tryz.prog 1 (.loop (loopOf Tryz.f121 3)) (partInsL_h.loop 3) := loop_ok E_revL_ok (partInsL_s3_ok) (LoopsOK_of partInsL_q3 trivial)
theorem partInsL_s2_ok : ∀ v, partInsL_s2 v = roundOf Tryz.prog E_revL partInsL_h 3 1 141 (loopOf Tryz.f121 2) partInsL_i2 partInsL_o2 v := by
  rintro ⟨a0, a1, a2, a3, a4, a5, ⟨⟩⟩
  kernel_rfl
theorem partInsL_q2 : loopList (loopOf Tryz.f121 2) 3 = [] := by kernel_rfl
theorem partInsL_l2 : CodeOK Tryz.prog 1 (.loop (loopOf Tryz.f121 2)) (partInsL_h.loop 2) := loop_ok E_revL_ok (partInsL_s2_ok) (LoopsOK_of partInsL_q2 trivial)
theorem partInsL_s1_ok : ∀ v, partInsL_s1 v = roundOf Tryz.prog E_revL partInsL_h 2 1 141 (loopOf Tryz.f121 1) partInsL_i1 partInsL_o1 v := by
  rintro ⟨a0, a1, a2, a3, a4, ⟨⟩⟩
  kernel_rfl
theorem partInsL_q1 : loopList (loopOf Tryz.f121 1) 2 = [] := by kernel_rfl
theorem partInsL_l1 : CodeOK Tryz.prog 1 (.loop (loopOf Tryz.f121 1)) (partInsL_h.loop 1) := loop_ok E_revL_ok (partInsL_s1_ok) (LoopsOK_of partInsL_q1 trivial)
theorem partInsL_s0_ok : ∀ v, partInsL_s0 v = roundOf Tryz.prog E_revL partInsL_h 1 1 141 (loopOf Tryz.f121 0) partInsL_i0 partInsL_o0 v := by
  rintro ⟨a0, a1, a2, a3, a4, ⟨⟩⟩
  kernel_rfl
theorem partInsL_q0 : loopList (loopOf Tryz.f121 0) 1 = [(1, loopOf Tryz.f121 1), (2, loopOf Tryz.f121 2), (3, loopOf Tryz.f121 3)] := by kernel_rfl
theorem partInsL_l0 : CodeOK Tryz.prog 1 (.loop (loopOf Tryz.f121 0)) (partInsL_h.loop 0) := loop_ok E_revL_ok (partInsL_s0_ok) (LoopsOK_of partInsL_q0 ⟨partInsL_l1, partInsL_l2, partInsL_l3, trivial⟩)
theorem partInsL_okd : ∀ v, partInsL_d v = pevCall Tryz.prog E_revL partInsL_h Tryz.f121 partInsL_i partInsL_o partInsL_r v := by
  rintro ⟨a0, a1, a2, ⟨⟩⟩
  kernel_rfl
theorem partInsL_q : loopList (bodyOf Tryz.f121) 0 = [(0, loopOf Tryz.f121 0)] := by kernel_rfl
theorem partInsL_spec : SpecOK Tryz.prog 121 (mkCall 4 partInsL_i partInsL_o partInsL_r partInsL) := call_spec E_revL_ok Tryz.func121 (by kernel_rfl) (by kernel_rfl) rfl (fun v => (partInsL_eq v).trans (partInsL_okd v)) (LoopsOK_of partInsL_q ⟨partInsL_l0, trivial⟩)
def E_partInsL : Env := E_revL.extC 121 3 99 (mkCall 4 partInsL_i partInsL_o partInsL_r partInsL)
theorem E_partInsL_ok : EnvOK Tryz.prog E_partInsL := Env.extC_ok E_revL_ok partInsL_spec (mkCall_in rfl rfl)
-- slices.partitionEqualCmpFunc[[]int]
abbrev partEqL_h : Hints := { loop := fun n => match n with | 0 => loopBy 1 90 partEqL_i0 partEqL_o0 partEqL_s0 | 1 => loopBy 1 90 partEqL_i1 partEqL_o1 partEqL_s1 | 2 => loopBy 1 90 partEqL_i2 partEqL_o2 partEqL_s2 | _ => fun _ _ _ => none, fp := fun n => match n with | 8 => [[], [], [], [], [], [], [0], [0], [], [], [0], [0], [0], [1], [0], [1]] | 3 => [[], [], [], [], [], [], [], [0], [0], [], [], [0], [0], [], [], [], []] | 5 => [[], [], [], [], [], [], [], [0], [0], [], [], [0], [0], [], [], []] | 1 => [[], [], [], [], [], [], [0], [0], [], [], [0], [0], [0], [1], [0], [1]] | _ => [] }
theorem partEqL_s2_ok : ∀ v, partEqL_s2 v = roundOf Tryz.prog E_partInsL partEqL_h 3 1 90 (loopOf Tryz.f122 2) partEqL_i2 partEqL_o2 v := by
  rintro ⟨a0, a1, a2, a3, ⟨⟩⟩
  kernel_rfl
theorem partEqL_q2 : loopList (loopOf Tryz.f122 2) 3 = [] := by kernel_rfl
theorem partEqL_l2 : CodeOK Tryz.prog 1 (.loop (loopOf Tryz.f122 2)) (partEqL_h.loop 2) := loop_ok E_partInsL_ok (partEqL_s2_ok) (LoopsOK_of partEqL_q2 trivial)
theorem partEqL_s1_ok : ∀ v, partEqL_s1 v = roundOf Tryz.prog E_partInsL partEqL_h 2 1 90 (loopOf Tryz.f122 1) partEqL_i1 partEqL_o1 v := by
  rintro ⟨a0, a1, a2, a3, ⟨⟩⟩
  kernel_rfl
theorem partEqL_q1 : loopList (loopOf Tryz.f122 1) 2 = [] := by kernel_rfl
theorem partEqL_l1 : CodeOK Tryz.prog 1 (.loop (loopOf Tryz.f122 1)) (partEqL_h.loop 1) := loop_ok E_partInsL_ok (partEqL_s1_ok) (LoopsOK_of partEqL_q1 trivial)
theorem partEqL_s0_ok : ∀ v, partEqL_s0 v = roundOf Tryz.prog E_partInsL partEqL_h 1 1 90 (loopOf Tryz.f122 0) partEqL_i0 partEqL_o0 v := by
  rintro ⟨a0, a1, a2, a3, ⟨⟩⟩
  kernel_rfl
theorem partEqL_q0 : loopList (loopOf Tryz.f122 0) 1 = [(1, loopOf Tryz.f122 1), (2, loopOf Tryz.f122 2)] := by kernel_rfl
theorem partEqL_l0 : CodeOK Tryz.prog 1 (.loop (loopOf Tryz.f122 0)) (partEqL_h.loop 0) := loop_ok E_partInsL_ok (partEqL_s0_ok) (LoopsOK_of partEqL_q0 ⟨partEqL_l1, partEqL_l2, trivial⟩)
theorem partEqL_okd : ∀ v, partEqL_d v = pevCall Tryz.prog E_partInsL partEqL_h Tryz.f122 partEqL_i partEqL_o partEqL_r v := by
  rintro ⟨a0, a1, a2, a3, ⟨⟩⟩
  kernel_rfl
theorem partEqL_q : loopList (bodyOf Tryz.f122) 0 = [(0, loopOf Tryz.f122 0)] := by kernel_rfl
theorem partEqL_spec : SpecOK Tryz.prog 122 (mkCall 5 partEqL_i partEqL_o partEqL_r partEqL) := call_spec E_partInsL_ok Tryz.func122 (by kernel_rfl) (by kernel_rfl) rfl (fun v => (partEqL_eq v).trans (partEqL_okd v)) (LoopsOK_of partEqL_q ⟨partEqL_l0, trivial⟩)
def E_partEqL : Env := E_partInsL.extC 122 4 99 (mkCall 5 partEqL_i partEqL_o partEqL_r partEqL)
theorem E_partEqL_ok : EnvOK Tryz.prog E_partEqL := Env.extC_ok E_partInsL_ok partEqL_spec (mkCall_in rfl rfl)
end
end Go.Pev
end
section
namespace Go.Pev
open Go.Proofs
set_option maxRecDepth 100000
noncomputable section
-- slices.partitionCmpFunc[[]int]
abbrev partL_h : Hints := { loop := fun n => match n with | 0 => loopBy 1 178 partL_i0 partL_o0 partL_s0 | 1 => loopBy 1 178 partL_i1 partL_o1 partL_s1 | 2 => loopBy 1 178 partL_i2 partL_o2 partL_s2 | 3 => loopBy 1 178 partL_i3 partL_o3 partL_s3 | 4 => loopBy 1 178 partL_i4 partL_o4 partL_s4 | _ => fun _ _ _ => none, fp := fun n => match n with | 3 => [[], [], [], [], [], [], [], [0], [0], [], [], [0], [0], [], [], []] | 5 => [[], [], [], [], [], [], [], [0], [0], [], [], [0], [0], [], [], [], []] | 18 => [[], [], [], [], [], [], [0], [0], [], [], [0], [0], [0], [1], [0], [1]] | 13 => [[], [], [], [], [], [], [], [0], [0], [], [], [0], [0], [], [], []] | 15 => [[], [], [], [], [], [], [], [0], [0], [], [], [0], [0], [], [], [], []] | 21 => [[], [], [], [], [], [], [0], [0], [], [], [0], [0], [0], [1], [0], [1]] | 10 => [[], [], [], [], [], [], [0], [0], [], [], [0], [0], [0], [1], [0], [1]] | 8 => [[], [], [], [], [], [], [0], [0], [], [], [0], [0], [0], [1], [0], [1]] | 1 => [[], [], [], [], [], [], [0], [0], [], [], [0], [0], [0], [1], [0], [1]] | _ => [] }
theorem partL_s4_ok : ∀ v, partL_s4 v = roundOf Tryz.prog E_partEqL partL_h 5 1 178 (loopOf Tryz.f123 4) partL_i4 partL_o4 v := by
  rintro ⟨a0, a1, a2, a3, ⟨⟩⟩
  kernel_rfl
theorem partL_q4 : loopList (loopOf Tryz.f123 4) 5 = [] := by kernel_rfl
theorem partL_l4 : CodeOK Tryz.prog 1 (.loop (loopOf Tryz.f123 4)) (partL_h.loop 4) := loop_ok E_partEqL_ok (partL_s4_ok) (LoopsOK_of partL_q4 trivial)
theorem partL_s3_ok : ∀ v, partL_s3 v = roundOf Tryz.prog E_partEqL partL_h 4 1 178 (loopOf Tryz.f123 3) partL_i3 partL_o3 v := by
  rintro ⟨a0, a1, a2, a3, ⟨⟩⟩
  kernel_rfl
theorem partL_q3 : loopList (loopOf Tryz.f123 3) 4 = [] := by kernel_rfl
theorem partL_l3 : CodeOK Tryz.prog 1 (.loop (loopOf Tryz.f123 3)) (partL_h.loop 3) := loop_ok E_partEqL_ok (partL_s3_ok) (LoopsOK_of partL_q3 trivial)
theorem partL_s2_ok : ∀ v, partL_s2 v = roundOf Tryz.prog E_partEqL partL_h 3 1 178 (loopOf Tryz.f123 2) partL_i2 partL_o2 v := by
  rintro ⟨a0, a1, a2, a3, ⟨⟩⟩
  kernel_rfl
theorem partL_q2 : loopList (loopOf Tryz.f123 2) 3 = [(3, loopOf Tryz.f123 3), (4, loopOf Tryz.f123 4)] := by kernel_rfl
theorem partL_l2 : CodeOK Tryz.prog 1 (.loop (loopOf Tryz.f123 2)) (partL_h.loop 2) := loop_ok E_partEqL_ok (partL_s2_ok) (LoopsOK_of partL_q2 ⟨partL_l3, partL_l4, trivial⟩)
theorem partL_s1_ok : ∀ v, partL_s1 v = roundOf Tryz.prog E_partEqL partL_h 2 1 178 (loopOf Tryz.f123 1) partL_i1 partL_o1 v := by
  rintro ⟨a0, a1, a2, a3, ⟨⟩⟩
  kernel_rfl
theorem partL_q1 : loopList (loopOf Tryz.f123 1) 2 = [] := by kernel_rfl
theorem partL_l1 : CodeOK Tryz.prog 1 (.loop (loopOf Tryz.f123 1)) (partL_h.loop 1) := loop_ok E_partEqL_ok (partL_s1_ok) (LoopsOK_of partL_q1 trivial)
theorem partL_s0_ok : ∀ v, partL_s0 v = roundOf Tryz.prog E_partEqL partL_h 1 1 178 (loopOf Tryz.f123 0) partL_i0 partL_o0 v := by
  rintro ⟨a0, a1, a2, a3, ⟨⟩⟩
  kernel_rfl
theorem partL_q0 : loopList (loopOf Tryz.f123 0) 1 = [] := by kernel_rfl
theorem partL_l0 : CodeOK Tryz.prog 1 (.loop (loopOf Tryz.f123 0)) (partL_h.loop 0) := loop_ok E_partEqL_ok (partL_s0_ok) (LoopsOK_of partL_q0 trivial)
theorem partL_okd : ∀ v, partL_d v = pevCall Tryz.prog E_partEqL partL_h Tryz.f123 partL_i partL_o partL_r v := by
  rintro ⟨a0, a1, a2, a3, ⟨⟩⟩
  kernel_rfl
theorem partL_q : loopList (bodyOf Tryz.f123) 0 = [(0, loopOf Tryz.f123 0), (1, loopOf Tryz.f123 1), (2, loopOf Tryz.f123 2)] := by kernel_rfl
theorem partL_spec : SpecOK Tryz.prog 123 (mkCall 5 partL_i partL_o partL_r partL) := call_spec E_partEqL_ok Tryz.func123 (by kernel_rfl) (by kernel_rfl) rfl (fun v => (partL_eq v).trans (partL_okd v)) (LoopsOK_of partL_q ⟨partL_l0, partL_l1, partL_l2, trivial⟩)
def E_partL : Env := E_partEqL.extC 123 4 99 (mkCall 5 partL_i partL_o partL_r partL)
theorem E_partL_ok : EnvOK Tryz.prog E_partL := Env.extC_ok E_partEqL_ok partL_spec (mkCall_in rfl rfl)
-- slices.pdqsortCmpFunc[[]int]
abbrev pdqL_h (self : (List (List Int) × Int × Int × Int × Unit) → Option ((List (List Int) × Unit))) : Hints := { loop := fun n => match n with | 0 => loopBy 1 148 pdqL_i0 pdqL_o0 (pdqL_s0 self) | _ => fun _ _ _ => none, fp := fun n => match n with | 17 => [[], [], [], [], [], [], [], [0], [0], [], [], [0], [0], [], [], [], []] | _ => [] }
abbrev pdqL_E (self : (List (List Int) × Int × Int × Int × Unit) → Option ((List (List Int) × Unit))) : Env := E_partL.ext 113 false true (mkCall 5 pdqL_i pdqL_o pdqL_r self)
theorem pdqL_s0_ok (self : (List (List Int) × Int × Int × Int × Unit) → Option ((List (List Int) × Unit))) : ∀ v, pdqL_s0 self v = roundOf Tryz.prog (pdqL_E self) (pdqL_h self) 1 1 148 (loopOf Tryz.f113 0) pdqL_i0 pdqL_o0 v := by
  rintro ⟨a0, a1, a2, a3, a4, a5, ⟨⟩⟩
  kernel_rfl
theorem pdqL_q0 : loopList (loopOf Tryz.f113 0) 1 = [] := by kernel_rfl
theorem pdqL_l0 (self : (List (List Int) × Int × Int × Int × Unit) → Option ((List (List Int) × Unit))) (hE : EnvOK Tryz.prog (pdqL_E self)) : CodeOK Tryz.prog 1 (.loop (loopOf Tryz.f113 0)) ((pdqL_h self).loop 0) := loop_ok hE (pdqL_s0_ok self) (LoopsOK_of pdqL_q0 trivial)
theorem pdqL_okd (self : (List (List Int) × Int × Int × Int × Unit) → Option ((List (List Int) × Unit))) : ∀ v, pdqL_d self v = pevCall Tryz.prog (pdqL_E self) (pdqL_h self) Tryz.f113 pdqL_i pdqL_o pdqL_r v := by
  rintro ⟨a0, a1, a2, a3, ⟨⟩⟩
  kernel_rfl
theorem pdqL_q : loopList (bodyOf Tryz.f113) 0 = [(0, loopOf Tryz.f113 0)] := by kernel_rfl
theorem pdqL_fspec : ∀ n, SpecOK Tryz.prog 113 (mkCall 5 pdqL_i pdqL_o pdqL_r (pdqL_f n)) := by
  intro n
  induction n with
  | zero => exact mkCall_none fun _ => rfl
  | succ n ih =>
    have hE : EnvOK Tryz.prog (pdqL_E (pdqL_f n)) := Env.ext_ok E_partL_ok ih ((by simp)) (fun _ => mkCall_in rfl rfl)
    let self := pdqL_f n
    exact call_spec hE Tryz.func113 (by kernel_rfl) (by kernel_rfl) rfl (pdqL_okd self) (LoopsOK_of pdqL_q ⟨(pdqL_l0 self hE), trivial⟩)
theorem pdqL_spec : SpecOK Tryz.prog 113 (mkCall 5 pdqL_i pdqL_o pdqL_r pdqL) := by
  have e : pdqL = pdqL_f 100 := funext pdqL_eq
  rw [e]
  exact pdqL_fspec _
def E_pdqL : Env := E_partL.extC 113 4 99 (mkCall 5 pdqL_i pdqL_o pdqL_r pdqL)
theorem E_pdqL_ok : EnvOK Tryz.prog E_pdqL := Env.extC_ok E_partL_ok pdqL_spec (mkCall_in rfl rfl)
-- slices.SortFunc[[][]int,[]int]
abbrev sortL_h : Hints := {  }
theorem sortL_okd : ∀ v, sortL_d v = pevCall Tryz.prog E_pdqL sortL_h Tryz.f98 sortL_i sortL_o sortL_r v := by
  rintro ⟨a0, ⟨⟩⟩
  kernel_rfl
theorem sortL_q : loopList (bodyOf Tryz.f98) 0 = [] := by kernel_rfl
theorem sortL_spec : SpecOK Tryz.prog 98 (mkCall 2 sortL_i sortL_o sortL_r sortL) := call_spec E_pdqL_ok Tryz.func98 (by kernel_rfl) (by kernel_rfl) rfl (fun v => (sortL_eq v).trans (sortL_okd v)) (LoopsOK_of sortL_q trivial)
def E_sortL : Env := E_pdqL.extC 98 1 99 (mkCall 2 sortL_i sortL_o sortL_r sortL)
theorem E_sortL_ok : EnvOK Tryz.prog E_sortL := Env.extC_ok E_pdqL_ok sortL_spec (mkCall_in rfl rfl)
-- archipelago/tour.with
abbrev twith_h : Hints := { loop := fun n => match n with | 0 => loopBy 0 47 twith_i0 twith_o0 twith_s0 | 1 => loopBy 0 47 twith_i1 twith_o1 twith_s1 | _ => fun _ _ _ => none }
theorem twith_s1_ok : ∀ v, twith_s1 v = roundOf Tryz.prog E_sortL twith_h 2 0 47 (loopOf Tryz.f64 1) twith_i1 twith_o1 v := by
  rintro ⟨a0, a1, a2, a3, a4, a5, a6, ⟨⟩⟩
  kernel_rfl
theorem twith_q1 : loopList (loopOf Tryz.f64 1) 2 = [] := by kernel_rfl
theorem twith_l1 : CodeOK Tryz.prog 0 (.loop (loopOf Tryz.f64 1)) (twith_h.loop 1) := loop_ok E_sortL_ok (twith_s1_ok) (LoopsOK_of twith_q1 trivial)
theorem twith_s0_ok : ∀ v, twith_s0 v = roundOf Tryz.prog E_sortL twith_h 1 0 47 (loopOf Tryz.f64 0) twith_i0 twith_o0 v := by
  rintro ⟨a0, a1, a2, a3, a4, a5, a6, a7, a8, ⟨⟩⟩
  kernel_rfl
theorem twith_q0 : loopList (loopOf Tryz.f64 0) 1 = [] := by kernel_rfl
theorem twith_l0 : CodeOK Tryz.prog 0 (.loop (loopOf Tryz.f64 0)) (twith_h.loop 0) := loop_ok E_sortL_ok (twith_s0_ok) (LoopsOK_of twith_q0 trivial)
theorem twith_okd : ∀ v, twith_d v = pevCall Tryz.prog E_sortL twith_h Tryz.f64 twith_i twith_o twith_r v := by
  rintro ⟨a0, a1, a2, ⟨⟩⟩
  kernel_rfl
theorem twith_q : loopList (bodyOf Tryz.f64) 0 = [(0, loopOf Tryz.f64 0), (1, loopOf Tryz.f64 1)] := by kernel_rfl
theorem twith_spec : SpecOK Tryz.prog 64 (mkCall 3 twith_i twith_o twith_r twith) := call_spec E_sortL_ok Tryz.func64 (by kernel_rfl) (by kernel_rfl) rfl (fun v => (twith_eq v).trans (twith_okd v)) (LoopsOK_of twith_q ⟨twith_l0, twith_l1, trivial⟩)
def E_twith : Env := E_sortL.ext 64 true true (mkCall 3 twith_i twith_o twith_r twith)
theorem E_twith_ok : EnvOK Tryz.prog E_twith := Env.ext_ok E_sortL_ok twith_spec (fun _ => mkCall_local rfl rfl) (fun _ => mkCall_in rfl rfl)
-- archipelago/tour.Link
abbrev tlink_h : Hints := { fp := fun n => match n with | 9 => [[], [28], [0], [0], [], [], [], [], [], [0], [0], [], [], [], [], [], [28], [28, 52, 36, 62], [64], []] | 4 => [[0], [], [], [0], [], [], [], []] | _ => [] }
theorem tlink_okd : ∀ v, tlink_d v = pevCall Tryz.prog E_twith tlink_h Tryz.f53 tlink_i tlink_o tlink_r v := by
  rintro ⟨a0, a1, a2, ⟨⟩⟩
  kernel_rfl
theorem tlink_q : loopList (bodyOf Tryz.f53) 0 = [] := by kernel_rfl
theorem tlink_spec : SpecOK Tryz.prog 53 (mkCall 3 tlink_i tlink_o tlink_r tlink) := call_spec E_twith_ok Tryz.func53 (by kernel_rfl) (by kernel_rfl) rfl (fun v => (tlink_eq v).trans (tlink_okd v)) (LoopsOK_of tlink_q trivial)
def E_tlink : Env := E_twith.ext 53 true true (mkCall 3 tlink_i tlink_o tlink_r tlink)
theorem E_tlink_ok : EnvOK Tryz.prog E_tlink := Env.ext_ok E_twith_ok tlink_spec (fun _ => mkCall_local rfl rfl) (fun _ => mkCall_in rfl rfl)
-- archipelago/tour.Cut
abbrev tcut_h : Hints := { fp := fun n => match n with | 9 => [[0], [], [], [], [], [28], [], [], [], [28], [28], [52, 54], [3], []] | 5 => [[0], [0], [], [], [], [0], [0], [], [], [], [], [], [], [], [], []] | _ => [] }
theorem tcut_okd : ∀ v, tcut_d v = pevCall Tryz.prog E_tlink tcut_h Tryz.f41 tcut_i tcut_o tcut_r v := by
  rintro ⟨a0, a1, a2, ⟨⟩⟩
  kernel_rfl
theorem tcut_q : loopList (bodyOf Tryz.f41) 0 = [] := by kernel_rfl
theorem tcut_spec : SpecOK Tryz.prog 41 (mkCall 3 tcut_i tcut_o tcut_r tcut) := call_spec E_tlink_ok Tryz.func41 (by kernel_rfl) (by kernel_rfl) rfl (fun v => (tcut_eq v).trans (tcut_okd v)) (LoopsOK_of tcut_q trivial)
def E_tcut : Env := E_tlink.ext 41 true true (mkCall 3 tcut_i tcut_o tcut_r tcut)
theorem E_tcut_ok : EnvOK Tryz.prog E_tcut := Env.ext_ok E_tlink_ok tcut_spec (fun _ => mkCall_local rfl rfl) (fun _ => mkCall_in rfl rfl)
-- cmp.Less[int]
abbrev lessI_h : Hints := {  }
theorem lessI_okd : ∀ v, lessI_d v = pevCall Tryz.prog E_tcut lessI_h Tryz.f78 lessI_i lessI_o lessI_r v := by
  rintro ⟨a0, a1, ⟨⟩⟩
  kernel_rfl
theorem lessI_q : loopList (bodyOf Tryz.f78) 0 = [] := by kernel_rfl
theorem lessI_spec : SpecOK Tryz.prog 78 (mkCall 2 lessI_i lessI_o lessI_r lessI) := call_spec E_tcut_ok Tryz.func78 (by kernel_rfl) (by kernel_rfl) rfl (fun v => (lessI_eq v).trans (lessI_okd v)) (LoopsOK_of lessI_q trivial)
def E_lessI : Env := E_tcut.ext 78 true true (mkCall 2 lessI_i lessI_o lessI_r lessI)
theorem E_lessI_ok : EnvOK Tryz.prog E_lessI := Env.ext_ok E_tcut_ok lessI_spec (fun _ => mkCall_local rfl rfl) (fun _ => mkCall_in rfl rfl)
-- slices.insertionSortOrdered[int]
abbrev insI_h : Hints := { loop := fun n => match n with | 0 => loopBy 1 49 insI_i0 insI_o0 insI_s0 | 1 => loopBy 1 49 insI_i1 insI_o1 insI_s1 | _ => fun _ _ _ => none, fp := fun n => match n with | 4 => [[], [], [], [], [], [], [0], [0], [], [], [], [0], [0], [], []] | 6 => [[], [], [], [], [], [], [], [], [0], [0], [], [], [0], [0], [0], [1], [0], [1]] | _ => [] }
theorem insI_s1_ok : ∀ v, insI_s1 v = roundOf Tryz.prog E_lessI insI_h 2 1 49 (loopOf Tryz.f72 1) insI_i1 insI_o1 v := by
  rintro ⟨a0, a1, a2, a3, a4, ⟨⟩⟩
  kernel_rfl
theorem insI_q1 : loopList (loopOf Tryz.f72 1) 2 = [] := by kernel_rfl
theorem insI_l1 : CodeOK Tryz.prog 1 (.loop (loopOf Tryz.f72 1)) (insI_h.loop 1) := loop_ok E_lessI_ok (insI_s1_ok) (LoopsOK_of insI_q1 trivial)
theorem insI_s0_ok : ∀ v, insI_s0 v = roundOf Tryz.prog E_lessI insI_h 1 1 49 (loopOf Tryz.f72 0) insI_i0 insI_o0 v := by
  rintro ⟨a0, a1, a2, a3, ⟨⟩⟩
  kernel_rfl
theorem insI_q0 : loopList (loopOf Tryz.f72 0) 1 = [(1, loopOf Tryz.f72 1)] := by kernel_rfl
theorem insI_l0 : CodeOK Tryz.prog 1 (.loop (loopOf Tryz.f72 0)) (insI_h.loop 0) := loop_ok E_lessI_ok (insI_s0_ok) (LoopsOK_of insI_q0 ⟨insI_l1, trivial⟩)
theorem insI_okd : ∀ v, insI_d v = pevCall Tryz.prog E_lessI insI_h Tryz.f72 insI_i insI_o insI_r v := by
  rintro ⟨a0, a1, a2, ⟨⟩⟩
  kernel_rfl
theorem insI_q : loopList (bodyOf Tryz.f72) 0 = [(0, loopOf Tryz.f72 0)] := by kernel_rfl
theorem insI_spec : SpecOK Tryz.prog 72 (mkCall 3 insI_i insI_o insI_r insI) := call_spec E_lessI_ok Tryz.func72 (by kernel_rfl) (by kernel_rfl) rfl (fun v => (insI_eq v).trans (insI_okd v)) (LoopsOK_of insI_q ⟨insI_l0, trivial⟩)
def E_insI : Env := E_lessI.ext 72 false true (mkCall 3 insI_i insI_o insI_r insI)
theorem E_insI_ok : EnvOK Tryz.prog E_insI := Env.ext_ok E_lessI_ok insI_spec ((by simp)) (fun _ => mkCall_in rfl rfl)
-- slices.siftDownOrdered[int]
abbrev siftI_h : Hints := { loop := fun n => match n with | 0 => loopBy 1 76 siftI_i0 siftI_o0 siftI_s0 | _ => fun _ _ _ => none, fp := fun n => match n with | 6 => [[], [], [], [], [], [], [], [], [], [], [], [], [0], [0], [], [], [], [], [0], [0], [0], [1], [0], [1]] | 5 => [[], [], [], [], [0], [0], [], [], [], [], [0], [0], [], []] | 3 => [[], [], [], [], [], [], [], [], [], [0], [0], [], [], [], [], [], [0], [0], [], []] | _ => [] }
theorem siftI_s0_ok : ∀ v, siftI_s0 v = roundOf Tryz.prog E_insI siftI_h 1 1 76 (loopOf Tryz.f104 0) siftI_i0 siftI_o0 v := by
  rintro ⟨a0, a1, a2, a3, ⟨⟩⟩
  kernel_rfl
theorem siftI_q0 : loopList (loopOf Tryz.f104 0) 1 = [] := by kernel_rfl
theorem siftI_l0 : CodeOK Tryz.prog 1 (.loop (loopOf Tryz.f104 0)) (siftI_h.loop 0) := loop_ok E_insI_ok (siftI_s0_ok) (LoopsOK_of siftI_q0 trivial)
theorem siftI_okd : ∀ v, siftI_d v = pevCall Tryz.prog E_insI siftI_h Tryz.f104 siftI_i siftI_o siftI_r v := by
  rintro ⟨a0, a1, a2, a3, ⟨⟩⟩
  kernel_rfl
theorem siftI_q : loopList (bodyOf Tryz.f104) 0 = [(0, loopOf Tryz.f104 0)] := by kernel_rfl
theorem siftI_spec : SpecOK Tryz.prog 104 (mkCall 4 siftI_i siftI_o siftI_r siftI) := call_spec E_insI_ok Tryz.func104 (by kernel_rfl) (by kernel_rfl) rfl (fun v => (siftI_eq v).trans (siftI_okd v)) (LoopsOK_of siftI_q ⟨siftI_l0, trivial⟩)
def E_siftI : Env := E_insI.ext 104 false true (mkCall 4 siftI_i siftI_o siftI_r siftI)
theorem E_siftI_ok : EnvOK Tryz.prog E_siftI := Env.ext_ok E_insI_ok siftI_spec ((by simp)) (fun _ => mkCall_in rfl rfl)
-- slices.heapSortOrdered[int]
abbrev heapI_h : Hints := { loop := fun n => match n with | 0 => loopBy 1 56 heapI_i0 heapI_o0 heapI_s0 | 1 => loopBy 1 56 heapI_i1 heapI_o1 heapI_s1 | _ => fun _ _ _ => none, fp := fun n => match n with | 10 => [[], [], [], [], [], [], [], [], [], [], [0], [0], [], [], [0], [0], [0], [1], [0], [1]] | _ => [] }
theorem heapI_s1_ok : ∀ v, heapI_s1 v = roundOf Tryz.prog E_siftI heapI_h 2 1 56 (loopOf Tryz.f73 1) heapI_i1 heapI_o1 v := by
  rintro ⟨a0, a1, a2, a3, ⟨⟩⟩
  kernel_rfl
theorem heapI_q1 : loopList (loopOf Tryz.f73 1) 2 = [] := by kernel_rfl
theorem heapI_l1 : CodeOK Tryz.prog 1 (.loop (loopOf Tryz.f73 1)) (heapI_h.loop 1) := loop_ok E_siftI_ok (heapI_s1_ok) (LoopsOK_of heapI_q1 trivial)
theorem heapI_s0_ok : ∀ v, heapI_s0 v = roundOf Tryz.prog E_siftI heapI_h 1 1 56 (loopOf Tryz.f73 0) heapI_i0 heapI_o0 v := by
  rintro ⟨a0, a1, a2, a3, a4, ⟨⟩⟩
  kernel_rfl
theorem heapI_q0 : loopList (loopOf Tryz.f73 0) 1 = [] := by kernel_rfl
theorem heapI_l0 : CodeOK Tryz.prog 1 (.loop (loopOf Tryz.f73 0)) (heapI_h.loop 0) := loop_ok E_siftI_ok (heapI_s0_ok) (LoopsOK_of heapI_q0 trivial)
theorem heapI_okd : ∀ v, heapI_d v = pevCall Tryz.prog E_siftI heapI_h Tryz.f73 heapI_i heapI_o heapI_r v := by
  rintro ⟨a0, a1, a2, ⟨⟩⟩
  kernel_rfl
theorem heapI_q : loopList (bodyOf Tryz.f73) 0 = [(0, loopOf Tryz.f73 0), (1, loopOf Tryz.f73 1)] := by kernel_rfl
theorem heapI_spec : SpecOK Tryz.prog 73 (mkCall 3 heapI_i heapI_o heapI_r heapI) := call_spec E_siftI_ok Tryz.func73 (by kernel_rfl) (by kernel_rfl) rfl (fun v => (heapI_eq v).trans (heapI_okd v)) (LoopsOK_of heapI_q ⟨heapI_l0, heapI_l1, trivial⟩)
def E_heapI : Env := E_siftI.ext 73 false true (mkCall 3 heapI_i heapI_o heapI_r heapI)
theorem E_heapI_ok : EnvOK Tryz.prog E_heapI := Env.ext_ok E_siftI_ok heapI_spec ((by simp)) (fun _ => mkCall_in rfl rfl)
-- slices.breakPatternsOrdered[int]
abbrev breakI_h : Hints := { loop := fun n => match n with | 0 => loopBy 1 65 breakI_i0 breakI_o0 breakI_s0 | _ => fun _ _ _ => none, fp := fun n => match n with | 10 => [[], [], [], [], [], [], [], [], [], [], [0], [0], [], [], [0], [0], [0], [1], [0], [1]] | _ => [] }
theorem breakI_s0_ok : ∀ v, breakI_s0 v = roundOf Tryz.prog E_heapI breakI_h 1 1 65 (loopOf Tryz.f74 0) breakI_i0 breakI_o0 v := by
  rintro ⟨a0, a1, a2, a3, a4, a5, ⟨⟩⟩
  kernel_rfl
theorem breakI_q0 : loopList (loopOf Tryz.f74 0) 1 = [] := by kernel_rfl
theorem breakI_l0 : CodeOK Tryz.prog 1 (.loop (loopOf Tryz.f74 0)) (breakI_h.loop 0) := loop_ok E_heapI_ok (breakI_s0_ok) (LoopsOK_of breakI_q0 trivial)
theorem breakI_okd : ∀ v, breakI_d v = pevCall Tryz.prog E_heapI breakI_h Tryz.f74 breakI_i breakI_o breakI_r v := by
  rintro ⟨a0, a1, a2, ⟨⟩⟩
  kernel_rfl
theorem breakI_q : loopList (bodyOf Tryz.f74) 0 = [(0, loopOf Tryz.f74 0)] := by kernel_rfl
theorem breakI_spec : SpecOK Tryz.prog 74 (mkCall 3 breakI_i breakI_o breakI_r breakI) := call_spec E_heapI_ok Tryz.func74 (by kernel_rfl) (by kernel_rfl) rfl (fun v => (breakI_eq v).trans (breakI_okd v)) (LoopsOK_of breakI_q ⟨breakI_l0, trivial⟩)
def E_breakI : Env := E_heapI.ext 74 false true (mkCall 3 breakI_i breakI_o breakI_r breakI)
theorem E_breakI_ok : EnvOK Tryz.prog E_breakI := Env.ext_ok E_heapI_ok breakI_spec ((by simp)) (fun _ => mkCall_in rfl rfl)
-- slices.order2Ordered[int]
abbrev order2I_h : Hints := { fp := fun n => match n with | 1 => [[], [], [0], [0], [], [], [0], [0], []] | _ => [] }
theorem order2I_okd : ∀ v, order2I_d v = pevCall Tryz.prog E_breakI order2I_h Tryz.f114 order2I_i order2I_o order2I_r v := by
  rintro ⟨a0, a1, a2, a3, ⟨⟩⟩
  kernel_rfl
theorem order2I_q : loopList (bodyOf Tryz.f114) 0 = [] := by kernel_rfl
theorem order2I_spec : SpecOK Tryz.prog 114 (mkCall 4 order2I_i order2I_o order2I_r order2I) := call_spec E_breakI_ok Tryz.func114 (by kernel_rfl) (by kernel_rfl) rfl (fun v => (order2I_eq v).trans (order2I_okd v)) (LoopsOK_of order2I_q trivial)
def E_order2I : Env := E_breakI.ext 114 false true (mkCall 4 order2I_i order2I_o order2I_r order2I)
theorem E_order2I_ok : EnvOK Tryz.prog E_order2I := Env.ext_ok E_breakI_ok order2I_spec ((by simp)) (fun _ => mkCall_in rfl rfl)
end
end Go.Pev
end
section
namespace Go.Pev
open Go.Proofs
set_option maxRecDepth 100000
noncomputable section
-- slices.medianOrdered[int]
abbrev medianI_h : Hints := {  }
theorem medianI_okd : ∀ v, medianI_d v = pevCall Tryz.prog E_order2I medianI_h Tryz.f108 medianI_i medianI_o medianI_r v := by
  rintro ⟨a0, a1, a2, a3, a4, ⟨⟩⟩
  kernel_rfl
theorem medianI_q : loopList (bodyOf Tryz.f108) 0 = [] := by kernel_rfl
theorem medianI_spec : SpecOK Tryz.prog 108 (mkCall 5 medianI_i medianI_o medianI_r medianI) := call_spec E_order2I_ok Tryz.func108 (by kernel_rfl) (by kernel_rfl) rfl (fun v => (medianI_eq v).trans (medianI_okd v)) (LoopsOK_of medianI_q trivial)
def E_medianI : Env := E_order2I.ext 108 false true (mkCall 5 medianI_i medianI_o medianI_r medianI)
theorem E_medianI_ok : EnvOK Tryz.prog E_medianI := Env.ext_ok E_order2I_ok medianI_spec ((by simp)) (fun _ => mkCall_in rfl rfl)
-- slices.medianAdjacentOrdered[int]
abbrev medAdjI_h : Hints := {  }
theorem medAdjI_okd : ∀ v, medAdjI_d v = pevCall Tryz.prog E_medianI medAdjI_h Tryz.f107 medAdjI_i medAdjI_o medAdjI_r v := by
  rintro ⟨a0, a1, a2, ⟨⟩⟩
  kernel_rfl
theorem medAdjI_q : loopList (bodyOf Tryz.f107) 0 = [] := by kernel_rfl
theorem medAdjI_spec : SpecOK Tryz.prog 107 (mkCall 3 medAdjI_i medAdjI_o medAdjI_r medAdjI) := call_spec E_medianI_ok Tryz.func107 (by kernel_rfl) (by kernel_rfl) rfl (fun v => (medAdjI_eq v).trans (medAdjI_okd v)) (LoopsOK_of medAdjI_q trivial)
def E_medAdjI : Env := E_medianI.ext 107 false true (mkCall 3 medAdjI_i medAdjI_o medAdjI_r medAdjI)
theorem E_medAdjI_ok : EnvOK Tryz.prog E_medAdjI := Env.ext_ok E_medianI_ok medAdjI_spec ((by simp)) (fun _ => mkCall_in rfl rfl)
-- slices.choosePivotOrdered[int]
abbrev pivotI_h : Hints := {  }
theorem pivotI_okd : ∀ v, pivotI_d v = pevCall Tryz.prog E_medAdjI pivotI_h Tryz.f75 pivotI_i pivotI_o pivotI_r v := by
  rintro ⟨a0, a1, a2, ⟨⟩⟩
  kernel_rfl
theorem pivotI_q : loopList (bodyOf Tryz.f75) 0 = [] := by kernel_rfl
theorem pivotI_spec : SpecOK Tryz.prog 75 (mkCall 3 pivotI_i pivotI_o pivotI_r pivotI) := call_spec E_medAdjI_ok Tryz.func75 (by kernel_rfl) (by kernel_rfl) rfl (fun v => (pivotI_eq v).trans (pivotI_okd v)) (LoopsOK_of pivotI_q trivial)
def E_pivotI : Env := E_medAdjI.ext 75 false true (mkCall 3 pivotI_i pivotI_o pivotI_r pivotI)
theorem E_pivotI_ok : EnvOK Tryz.prog E_pivotI := Env.ext_ok E_medAdjI_ok pivotI_spec ((by simp)) (fun _ => mkCall_in rfl rfl)
-- slices.reverseRangeOrdered[int]
abbrev revI_h : Hints := { loop := fun n => match n with | 0 => loopBy 1 32 revI_i0 revI_o0 revI_s0 | _ => fun _ _ _ => none, fp := fun n => match n with | 3 => [[], [], [], [], [], [], [0], [0], [], [], [0], [0], [0], [1], [0], [1]] | _ => [] }
theorem revI_s0_ok : ∀ v, revI_s0 v = roundOf Tryz.prog E_pivotI revI_h 1 1 32 (loopOf Tryz.f76 0) revI_i0 revI_o0 v := by
  rintro ⟨a0, a1, a2, ⟨⟩⟩
  kernel_rfl
theorem revI_q0 : loopList (loopOf Tryz.f76 0) 1 = [] := by kernel_rfl
theorem revI_l0 : CodeOK Tryz.prog 1 (.loop (loopOf Tryz.f76 0)) (revI_h.loop 0) := loop_ok E_pivotI_ok (revI_s0_ok) (LoopsOK_of revI_q0 trivial)
theorem revI_okd : ∀ v, revI_d v = pevCall Tryz.prog E_pivotI revI_h Tryz.f76 revI_i revI_o revI_r v := by
  rintro ⟨a0, a1, a2, ⟨⟩⟩
  kernel_rfl
theorem revI_q : loopList (bodyOf Tryz.f76) 0 = [(0, loopOf Tryz.f76 0)] := by kernel_rfl
theorem revI_spec : SpecOK Tryz.prog 76 (mkCall 3 revI_i revI_o revI_r revI) := call_spec E_pivotI_ok Tryz.func76 (by kernel_rfl) (by kernel_rfl) rfl (fun v => (revI_eq v).trans (revI_okd v)) (LoopsOK_of revI_q ⟨revI_l0, trivial⟩)
def E_revI : Env := E_pivotI.ext 76 false true (mkCall 3 revI_i revI_o revI_r revI)
theorem E_revI_ok : EnvOK Tryz.prog E_revI := Env.ext_ok E_pivotI_ok revI_spec ((by simp)) (fun _ => mkCall_in rfl rfl)
-- slices.partialInsertionSortOrdered[int]
abbrev partInsI_h : Hints := { loop := fun n => match n with | 0 => loopBy 1 133 partInsI_i0 partInsI_o0 partInsI_s0 | 1 => loopBy 1 133 partInsI_i1 partInsI_o1 partInsI_s1 | 2 => loopBy 1 133 partInsI_i2 partInsI_o2 partInsI_s2 | 3 => loopBy 1 133 partInsI_i3 partInsI_o3 partInsI_s3 | _ => fun _ _ _ => none, fp := fun n => match n with | 11 => [[], [], [], [], [], [], [], [], [0], [0], [], [], [0], [0], [0], [1], [0], [1]] | 5 => [[], [], [], [], [], [], [0], [0], [], [], [], [0], [0], [], [], []] | 17 => [[], [], [], [], [], [], [], [], [0], [0], [], [], [0], [0], [0], [1], [0], [1]] | 16 => [[], [], [0], [0], [], [], [], [0], [0], [], []] | 23 => [[], [], [], [], [], [], [], [], [0], [0], [], [], [0], [0], [0], [1], [0], [1]] | 22 => [[], [], [0], [0], [], [], [], [0], [0], [], []] | _ => [] }
theorem partInsI_s3_ok : ∀ v, partInsI_s3 v = roundOf Tryz.prog E_revI partInsI_h 4 1 133 (loopOf Tryz.f77 3) partInsI_i3 partInsI_o3 v := by
  rintro ⟨a0, a1, a2, a3, a4, a5, ⟨⟩⟩
  kernel_rfl
theorem partInsI_q3 : loopList (loopOf Tryz.f77 3) 4 = [] := by kernel_rfl
theorem partInsI_l3 : CodeOK Tryz.prog 1 (.loop (loopOf Tryz.f77 3)) (partInsI_h.loop 3) := loop_ok E_revI_ok (partInsI_s3_ok) (LoopsOK_of partInsI_q3 trivial)
theorem partInsI_s2_ok : ∀ v, partInsI_s2 v = roundOf Tryz.prog E_revI partInsI_h 3 1 133 (loopOf Tryz.f77 2) partInsI_i2 partInsI_o2 v := by
  rintro ⟨a0, a1, a2, a3, a4, a5, ⟨⟩⟩
  kernel_rfl
theorem partInsI_q2 : loopList (loopOf Tryz.f77 2) 3 = [] := by kernel_rfl
theorem partInsI_l2 : CodeOK Tryz.prog 1 (.loop (loopOf Tryz.f77 2)) (partInsI_h.loop 2) := loop_ok E_revI_ok (partInsI_s2_ok) (LoopsOK_of partInsI_q2 trivial)
theorem partInsI_s1_ok : ∀ v, partInsI_s1 v = roundOf Tryz.prog E_revI partInsI_h 2 1 133 (loopOf Tryz.f77 1) partInsI_i1 partInsI_o1 v := by
  rintro ⟨a0, a1, a2, a3, a4, ⟨⟩⟩
  kernel_rfl
theorem partInsI_q1 : loopList (loopOf Tryz.f77 1) 2 = [] := by kernel_rfl
theorem partInsI_l1 : CodeOK Tryz.prog 1 (.loop (loopOf Tryz.f77 1)) (partInsI_h.loop 1) := loop_ok E_revI_ok (partInsI_s1_ok) (LoopsOK_of partInsI_q1 trivial)
theorem partInsI_s0_ok : ∀ v, partInsI_s0 v = roundOf Tryz.prog E_revI partInsI_h 1 1 133 (loopOf Tryz.f77 0) partInsI_i0 partInsI_o0 v := by
  rintro ⟨a0, a1, a2, a3, a4, ⟨⟩⟩
  kernel_rfl
theorem partInsI_q0 : loopList (loopOf Tryz.f77 0) 1 = [(1, loopOf Tryz.f77 1), (2, loopOf Tryz.f77 2), (3, loopOf Tryz.f77 3)] := by kernel_rfl
theorem partInsI_l0 : CodeOK Tryz.prog 1 (.loop (loopOf Tryz.f77 0)) (partInsI_h.loop 0) := loop_ok E_revI_ok (partInsI_s0_ok) (LoopsOK_of partInsI_q0 ⟨partInsI_l1, partInsI_l2, partInsI_l3, trivial⟩)
theorem partInsI_okd : ∀ v, partInsI_d v = pevCall Tryz.prog E_revI partInsI_h Tryz.f77 partInsI_i partInsI_o partInsI_r v := by
  rintro ⟨a0, a1, a2, ⟨⟩⟩
  kernel_rfl
theorem partInsI_q : loopList (bodyOf Tryz.f77) 0 = [(0, loopOf Tryz.f77 0)] := by kernel_rfl
theorem partInsI_spec : SpecOK Tryz.prog 77 (mkCall 3 partInsI_i partInsI_o partInsI_r partInsI) := call_spec E_revI_ok Tryz.func77 (by kernel_rfl) (by kernel_rfl) rfl (fun v => (partInsI_eq v).trans (partInsI_okd v)) (LoopsOK_of partInsI_q ⟨partInsI_l0, trivial⟩)
def E_partInsI : Env := E_revI.ext 77 false true (mkCall 3 partInsI_i partInsI_o partInsI_r partInsI)
theorem E_partInsI_ok : EnvOK Tryz.prog E_partInsI := Env.ext_ok E_revI_ok partInsI_spec ((by simp)) (fun _ => mkCall_in rfl rfl)
-- slices.partitionEqualOrdered[int]
abbrev partEqI_h : Hints := { loop := fun n => match n with | 0 => loopBy 1 84 partEqI_i0 partEqI_o0 partEqI_s0 | 1 => loopBy 1 84 partEqI_i1 partEqI_o1 partEqI_s1 | 2 => loopBy 1 84 partEqI_i2 partEqI_o2 partEqI_s2 | _ => fun _ _ _ => none, fp := fun n => match n with | 8 => [[], [], [], [], [], [], [0], [0], [], [], [0], [0], [0], [1], [0], [1]] | 3 => [[], [], [], [], [], [], [0], [0], [], [], [0], [0], [], [], []] | 5 => [[], [], [], [], [], [], [0], [0], [], [], [0], [0], [], []] | 1 => [[], [], [], [], [], [], [0], [0], [], [], [0], [0], [0], [1], [0], [1]] | _ => [] }
theorem partEqI_s2_ok : ∀ v, partEqI_s2 v = roundOf Tryz.prog E_partInsI partEqI_h 3 1 84 (loopOf Tryz.f79 2) partEqI_i2 partEqI_o2 v := by
  rintro ⟨a0, a1, a2, a3, ⟨⟩⟩
  kernel_rfl
theorem partEqI_q2 : loopList (loopOf Tryz.f79 2) 3 = [] := by kernel_rfl
theorem partEqI_l2 : CodeOK Tryz.prog 1 (.loop (loopOf Tryz.f79 2)) (partEqI_h.loop 2) := loop_ok E_partInsI_ok (partEqI_s2_ok) (LoopsOK_of partEqI_q2 trivial)
theorem partEqI_s1_ok : ∀ v, partEqI_s1 v = roundOf Tryz.prog E_partInsI partEqI_h 2 1 84 (loopOf Tryz.f79 1) partEqI_i1 partEqI_o1 v := by
  rintro ⟨a0, a1, a2, a3, ⟨⟩⟩
  kernel_rfl
theorem partEqI_q1 : loopList (loopOf Tryz.f79 1) 2 = [] := by kernel_rfl
theorem partEqI_l1 : CodeOK Tryz.prog 1 (.loop (loopOf Tryz.f79 1)) (partEqI_h.loop 1) := loop_ok E_partInsI_ok (partEqI_s1_ok) (LoopsOK_of partEqI_q1 trivial)
theorem partEqI_s0_ok : ∀ v, partEqI_s0 v = roundOf Tryz.prog E_partInsI partEqI_h 1 1 84 (loopOf Tryz.f79 0) partEqI_i0 partEqI_o0 v := by
  rintro ⟨a0, a1, a2, a3, ⟨⟩⟩
  kernel_rfl
theorem partEqI_q0 : loopList (loopOf Tryz.f79 0) 1 = [(1, loopOf Tryz.f79 1), (2, loopOf Tryz.f79 2)] := by kernel_rfl
theorem partEqI_l0 : CodeOK Tryz.prog 1 (.loop (loopOf Tryz.f79 0)) (partEqI_h.loop 0) := loop_ok E_partInsI_ok (partEqI_s0_ok) (LoopsOK_of partEqI_q0 ⟨partEqI_l1, partEqI_l2, trivial⟩)
theorem partEqI_okd : ∀ v, partEqI_d v = pevCall Tryz.prog E_partInsI partEqI_h Tryz.f79 partEqI_i partEqI_o partEqI_r v := by
  rintro ⟨a0, a1, a2, a3, ⟨⟩⟩
  kernel_rfl
theorem partEqI_q : loopList (bodyOf Tryz.f79) 0 = [(0, loopOf Tryz.f79 0)] := by kernel_rfl
theorem partEqI_spec : SpecOK Tryz.prog 79 (mkCall 4 partEqI_i partEqI_o partEqI_r partEqI) := call_spec E_partInsI_ok Tryz.func79 (by kernel_rfl) (by kernel_rfl) rfl (fun v => (partEqI_eq v).trans (partEqI_okd v)) (LoopsOK_of partEqI_q ⟨partEqI_l0, trivial⟩)
def E_partEqI : Env := E_partInsI.ext 79 false true (mkCall 4 partEqI_i partEqI_o partEqI_r partEqI)
theorem E_partEqI_ok : EnvOK Tryz.prog E_partEqI := Env.ext_ok E_partInsI_ok partEqI_spec ((by simp)) (fun _ => mkCall_in rfl rfl)
-- slices.partitionOrdered[int]
abbrev partI_h : Hints := { loop := fun n => match n with | 0 => loopBy 1 168 partI_i0 partI_o0 partI_s0 | 1 => loopBy 1 168 partI_i1 partI_o1 partI_s1 | 2 => loopBy 1 168 partI_i2 partI_o2 partI_s2 | 3 => loopBy 1 168 partI_i3 partI_o3 partI_s3 | 4 => loopBy 1 168 partI_i4 partI_o4 partI_s4 | _ => fun _ _ _ => none, fp := fun n => match n with | 3 => [[], [], [], [], [], [], [0], [0], [], [], [0], [0], [], []] | 5 => [[], [], [], [], [], [], [0], [0], [], [], [0], [0], [], [], []] | 18 => [[], [], [], [], [], [], [0], [0], [], [], [0], [0], [0], [1], [0], [1]] | 13 => [[], [], [], [], [], [], [0], [0], [], [], [0], [0], [], []] | 15 => [[], [], [], [], [], [], [0], [0], [], [], [0], [0], [], [], []] | 21 => [[], [], [], [], [], [], [0], [0], [], [], [0], [0], [0], [1], [0], [1]] | 10 => [[], [], [], [], [], [], [0], [0], [], [], [0], [0], [0], [1], [0], [1]] | 8 => [[], [], [], [], [], [], [0], [0], [], [], [0], [0], [0], [1], [0], [1]] | 1 => [[], [], [], [], [], [], [0], [0], [], [], [0], [0], [0], [1], [0], [1]] | _ => [] }
theorem partI_s4_ok : ∀ v, partI_s4 v = roundOf Tryz.prog E_partEqI partI_h 5 1 168 (loopOf Tryz.f80 4) partI_i4 partI_o4 v := by
  rintro ⟨a0, a1, a2, a3, ⟨⟩⟩
  kernel_rfl
theorem partI_q4 : loopList (loopOf Tryz.f80 4) 5 = [] := by kernel_rfl
theorem partI_l4 : CodeOK Tryz.prog 1 (.loop (loopOf Tryz.f80 4)) (partI_h.loop 4) := loop_ok E_partEqI_ok (partI_s4_ok) (LoopsOK_of partI_q4 trivial)
theorem partI_s3_ok : ∀ v, partI_s3 v = roundOf Tryz.prog E_partEqI partI_h 4 1 168 (loopOf Tryz.f80 3) partI_i3 partI_o3 v := by
  rintro ⟨a0, a1, a2, a3, ⟨⟩⟩
  kernel_rfl
theorem partI_q3 : loopList (loopOf Tryz.f80 3) 4 = [] := by kernel_rfl
theorem partI_l3 : CodeOK Tryz.prog 1 (.loop (loopOf Tryz.f80 3)) (partI_h.loop 3) := loop_ok E_partEqI_ok (partI_s3_ok) (LoopsOK_of partI_q3 trivial)
theorem partI_s2_ok : ∀ v, partI_s2 v = roundOf Tryz.prog E_partEqI partI_h 3 1 168 (loopOf Tryz.f80 2) partI_i2 partI_o2 v := by
  rintro ⟨a0, a1, a2, a3, ⟨⟩⟩
  kernel_rfl
theorem partI_q2 : loopList (loopOf Tryz.f80 2) 3 = [(3, loopOf Tryz.f80 3), (4, loopOf Tryz.f80 4)] := by kernel_rfl
theorem partI_l2 : CodeOK Tryz.prog 1 (.loop (loopOf Tryz.f80 2)) (partI_h.loop 2) := loop_ok E_partEqI_ok (partI_s2_ok) (LoopsOK_of partI_q2 ⟨partI_l3, partI_l4, trivial⟩)
theorem partI_s1_ok : ∀ v, partI_s1 v = roundOf Tryz.prog E_partEqI partI_h 2 1 168 (loopOf Tryz.f80 1) partI_i1 partI_o1 v := by
  rintro ⟨a0, a1, a2, a3, ⟨⟩⟩
  kernel_rfl
theorem partI_q1 : loopList (loopOf Tryz.f80 1) 2 = [] := by kernel_rfl
theorem partI_l1 : CodeOK Tryz.prog 1 (.loop (loopOf Tryz.f80 1)) (partI_h.loop 1) := loop_ok E_partEqI_ok (partI_s1_ok) (LoopsOK_of partI_q1 trivial)
theorem partI_s0_ok : ∀ v, partI_s0 v = roundOf Tryz.prog E_partEqI partI_h 1 1 168 (loopOf Tryz.f80 0) partI_i0 partI_o0 v := by
  rintro ⟨a0, a1, a2, a3, ⟨⟩⟩
  kernel_rfl
theorem partI_q0 : loopList (loopOf Tryz.f80 0) 1 = [] := by kernel_rfl
theorem partI_l0 : CodeOK Tryz.prog 1 (.loop (loopOf Tryz.f80 0)) (partI_h.loop 0) := loop_ok E_partEqI_ok (partI_s0_ok) (LoopsOK_of partI_q0 trivial)
theorem partI_okd : ∀ v, partI_d v = pevCall Tryz.prog E_partEqI partI_h Tryz.f80 partI_i partI_o partI_r v := by
  rintro ⟨a0, a1, a2, a3, ⟨⟩⟩
  kernel_rfl
theorem partI_q : loopList (bodyOf Tryz.f80) 0 = [(0, loopOf Tryz.f80 0), (1, loopOf Tryz.f80 1), (2, loopOf Tryz.f80 2)] := by kernel_rfl
theorem partI_spec : SpecOK Tryz.prog 80 (mkCall 4 partI_i partI_o partI_r partI) := call_spec E_partEqI_ok Tryz.func80 (by kernel_rfl) (by kernel_rfl) rfl (fun v => (partI_eq v).trans (partI_okd v)) (LoopsOK_of partI_q ⟨partI_l0, partI_l1, partI_l2, trivial⟩)
def E_partI : Env := E_partEqI.ext 80 false true (mkCall 4 partI_i partI_o partI_r partI)
theorem E_partI_ok : EnvOK Tryz.prog E_partI := Env.ext_ok E_partEqI_ok partI_spec ((by simp)) (fun _ => mkCall_in rfl rfl)
-- slices.pdqsortOrdered[int]
abbrev pdqI_h (self : (List Int × Int × Int × Int × Unit) → Option ((List Int × Unit))) : Hints := { loop := fun n => match n with | 0 => loopBy 1 134 pdqI_i0 pdqI_o0 (pdqI_s0 self) | _ => fun _ _ _ => none, fp := fun n => match n with | 17 => [[], [], [], [], [], [], [0], [0], [], [], [0], [0], [], [], []] | _ => [] }
abbrev pdqI_E (self : (List Int × Int × Int × Int × Unit) → Option ((List Int × Unit))) : Env := E_partI.ext 50 false true (mkCall 4 pdqI_i pdqI_o pdqI_r self)
theorem pdqI_s0_ok (self : (List Int × Int × Int × Int × Unit) → Option ((List Int × Unit))) : ∀ v, pdqI_s0 self v = roundOf Tryz.prog (pdqI_E self) (pdqI_h self) 1 1 134 (loopOf Tryz.f50 0) pdqI_i0 pdqI_o0 v := by
  rintro ⟨a0, a1, a2, a3, a4, a5, ⟨⟩⟩
  kernel_rfl
theorem pdqI_q0 : loopList (loopOf Tryz.f50 0) 1 = [] := by kernel_rfl
theorem pdqI_l0 (self : (List Int × Int × Int × Int × Unit) → Option ((List Int × Unit))) (hE : EnvOK Tryz.prog (pdqI_E self)) : CodeOK Tryz.prog 1 (.loop (loopOf Tryz.f50 0)) ((pdqI_h self).loop 0) := loop_ok hE (pdqI_s0_ok self) (LoopsOK_of pdqI_q0 trivial)
theorem pdqI_okd (self : (List Int × Int × Int × Int × Unit) → Option ((List Int × Unit))) : ∀ v, pdqI_d self v = pevCall Tryz.prog (pdqI_E self) (pdqI_h self) Tryz.f50 pdqI_i pdqI_o pdqI_r v := by
  rintro ⟨a0, a1, a2, a3, ⟨⟩⟩
  kernel_rfl
theorem pdqI_q : loopList (bodyOf Tryz.f50) 0 = [(0, loopOf Tryz.f50 0)] := by kernel_rfl
theorem pdqI_fspec : ∀ n, SpecOK Tryz.prog 50 (mkCall 4 pdqI_i pdqI_o pdqI_r (pdqI_f n)) := by
  intro n
  induction n with
  | zero => exact mkCall_none fun _ => rfl
  | succ n ih =>
    have hE : EnvOK Tryz.prog (pdqI_E (pdqI_f n)) := Env.ext_ok E_partI_ok ih ((by simp)) (fun _ => mkCall_in rfl rfl)
    let self := pdqI_f n
    exact call_spec hE Tryz.func50 (by kernel_rfl) (by kernel_rfl) rfl (pdqI_okd self) (LoopsOK_of pdqI_q ⟨(pdqI_l0 self hE), trivial⟩)
theorem pdqI_spec : SpecOK Tryz.prog 50 (mkCall 4 pdqI_i pdqI_o pdqI_r pdqI) := by
  have e : pdqI = pdqI_f 100 := funext pdqI_eq
  rw [e]
  exact pdqI_fspec _
def E_pdqI : Env := E_partI.ext 50 false true (mkCall 4 pdqI_i pdqI_o pdqI_r pdqI)
theorem E_pdqI_ok : EnvOK Tryz.prog E_pdqI := Env.ext_ok E_partI_ok pdqI_spec ((by simp)) (fun _ => mkCall_in rfl rfl)
-- slices.Sort[[]int,int]
abbrev sortI_h : Hints := {  }
theorem sortI_okd : ∀ v, sortI_d v = pevCall Tryz.prog E_pdqI sortI_h Tryz.f30 sortI_i sortI_o sortI_r v := by
  rintro ⟨a0, ⟨⟩⟩
  kernel_rfl
theorem sortI_q : loopList (bodyOf Tryz.f30) 0 = [] := by kernel_rfl
theorem sortI_spec : SpecOK Tryz.prog 30 (mkCall 1 sortI_i sortI_o sortI_r sortI) := call_spec E_pdqI_ok Tryz.func30 (by kernel_rfl) (by kernel_rfl) rfl (fun v => (sortI_eq v).trans (sortI_okd v)) (LoopsOK_of sortI_q trivial)
def E_sortI : Env := E_pdqI.ext 30 false true (mkCall 1 sortI_i sortI_o sortI_r sortI)
theorem E_sortI_ok : EnvOK Tryz.prog E_sortI := Env.ext_ok E_pdqI_ok sortI_spec ((by simp)) (fun _ => mkCall_in rfl rfl)
-- 28 cloneI: slices.Clone
theorem cloneI_n : (Tryz.f28.name == "runtime.NumGoroutine") = false := by kernel_rfl
theorem cloneI_shape : CloneShape Tryz.prog Tryz.f28 32 3 (.int .i64) where
  body := by kernel_rfl
  nt := by kernel_rfl
  res := by kernel_rfl
  d := ⟨by kernel_rfl, by kernel_rfl, by kernel_rfl, by kernel_rfl, by kernel_rfl, by kernel_rfl, by kernel_rfl, by kernel_rfl⟩
  g := ⟨by kernel_rfl, by kernel_rfl, by kernel_rfl, by kernel_rfl, by kernel_rfl, by kernel_rfl, by kernel_rfl, by kernel_rfl⟩
  o00 := by kernel_rfl
  o10 := by kernel_rfl
  o11 := by kernel_rfl
  o20 := by kernel_rfl
  o30 := by kernel_rfl
  o31 := by kernel_rfl
  o32 := by kernel_rfl
  o33 := by kernel_rfl
  sl := by kernel_rfl
  z := by kernel_rfl
  by1 := by kernel_rfl
def E_cloneI : Env := E_sortI.ext 28 true true (cloneSpec 3 (.int .i64))
theorem E_cloneI_ok : EnvOK Tryz.prog E_cloneI := Env.ext_ok E_sortI_ok (clone_ok cloneI_shape Tryz.func28 cloneI_n) (fun _ => cloneSpec_local _ _) (fun _ => (cloneSpec_local _ _).toIn)
-- archipelago/forest.there$1: gone through in place
theorem there1_b : Tryz.f43.body.isSome = true := by kernel_rfl
theorem there1_n : (Tryz.f43.name == "runtime.NumGoroutine") = false := by kernel_rfl
theorem there1_z : loops (bodyOf Tryz.f43) = 0 := by kernel_rfl
def E_there1_4 : Env := E_cloneI.ext 43 false false (mkInline Tryz.prog E_cloneI {} Tryz.f43)
theorem E_there1_4_ok : EnvOK Tryz.prog E_there1_4 := Env.ext_ok E_cloneI_ok (inline_spec E_cloneI_ok Tryz.func43 there1_b there1_n there1_z) (by simp) (by simp)
-- slices.IndexFunc[[]int,int]
abbrev idxFuncI_there_h : Hints := { loop := fun n => match n with | 0 => loopBy 1 19 idxFuncI_there_i0 idxFuncI_there_o0 idxFuncI_there_s0 | _ => fun _ _ _ => none }
theorem idxFuncI_there_s0_ok : ∀ v, idxFuncI_there_s0 v = roundOf Tryz.prog E_there1_4 idxFuncI_there_h 1 1 19 (loopOf Tryz.f49 0) idxFuncI_there_i0 idxFuncI_there_o0 v := by
  rintro ⟨a0, a1, a2, a3, a4, ⟨⟩⟩
  kernel_rfl
theorem idxFuncI_there_q0 : loopList (loopOf Tryz.f49 0) 1 = [] := by kernel_rfl
theorem idxFuncI_there_l0 : CodeOK Tryz.prog 1 (.loop (loopOf Tryz.f49 0)) (idxFuncI_there_h.loop 0) := loop_ok E_there1_4_ok (idxFuncI_there_s0_ok) (LoopsOK_of idxFuncI_there_q0 trivial)
theorem idxFuncI_there_okd : ∀ v, idxFuncI_there_d v = pevCall Tryz.prog E_there1_4 idxFuncI_there_h Tryz.f49 idxFuncI_there_i idxFuncI_there_o idxFuncI_there_r v := by
  rintro ⟨a0, a1, a2, ⟨⟩⟩
  kernel_rfl
theorem idxFuncI_there_q : loopList (bodyOf Tryz.f49) 0 = [(0, loopOf Tryz.f49 0)] := by kernel_rfl
theorem idxFuncI_there_spec : SpecOK Tryz.prog 49 (mkCall 2 idxFuncI_there_i idxFuncI_there_o idxFuncI_there_r idxFuncI_there) := call_spec E_there1_4_ok Tryz.func49 (by kernel_rfl) (by kernel_rfl) rfl (fun v => (idxFuncI_there_eq v).trans (idxFuncI_there_okd v)) (LoopsOK_of idxFuncI_there_q ⟨idxFuncI_there_l0, trivial⟩)
def E_idxFuncI_there : Env := E_there1_4.extC 49 1 43 (mkCall 2 idxFuncI_there_i idxFuncI_there_o idxFuncI_there_r idxFuncI_there)
theorem E_idxFuncI_there_ok : EnvOK Tryz.prog E_idxFuncI_there := Env.extC_ok E_there1_4_ok idxFuncI_there_spec (mkCall_in rfl rfl)
end
end Go.Pev
end
section
namespace Go.Pev
open Go.Proofs
set_option maxRecDepth 100000
noncomputable section
-- slices.ContainsFunc[[]int,int]
abbrev contFuncI_there_h : Hints := {  }
theorem contFuncI_there_okd : ∀ v, contFuncI_there_d v = pevCall Tryz.prog E_idxFuncI_there contFuncI_there_h Tryz.f42 contFuncI_there_i contFuncI_there_o contFuncI_there_r v := by
  rintro ⟨a0, a1, a2, ⟨⟩⟩
  kernel_rfl
theorem contFuncI_there_q : loopList (bodyOf Tryz.f42) 0 = [] := by kernel_rfl
theorem contFuncI_there_spec : SpecOK Tryz.prog 42 (mkCall 2 contFuncI_there_i contFuncI_there_o contFuncI_there_r contFuncI_there) := call_spec E_idxFuncI_there_ok Tryz.func42 (by kernel_rfl) (by kernel_rfl) rfl (fun v => (contFuncI_there_eq v).trans (contFuncI_there_okd v)) (LoopsOK_of contFuncI_there_q trivial)
def E_contFuncI_there : Env := E_idxFuncI_there.extC 42 1 43 (mkCall 2 contFuncI_there_i contFuncI_there_o contFuncI_there_r contFuncI_there)
theorem E_contFuncI_there_ok : EnvOK Tryz.prog E_contFuncI_there := Env.extC_ok E_idxFuncI_there_ok contFuncI_there_spec (mkCall_in rfl rfl)
-- archipelago/forest.there
abbrev fthere_h : Hints := {  }
theorem fthere_okd : ∀ v, fthere_d v = pevCall Tryz.prog E_contFuncI_there fthere_h Tryz.f23 fthere_i fthere_o fthere_r v := by
  rintro ⟨a0, a1, ⟨⟩⟩
  kernel_rfl
theorem fthere_q : loopList (bodyOf Tryz.f23) 0 = [] := by kernel_rfl
theorem fthere_spec : SpecOK Tryz.prog 23 (mkCall 2 fthere_i fthere_o fthere_r fthere) := call_spec E_contFuncI_there_ok Tryz.func23 (by kernel_rfl) (by kernel_rfl) rfl (fun v => (fthere_eq v).trans (fthere_okd v)) (LoopsOK_of fthere_q trivial)
def E_fthere : Env := E_contFuncI_there.ext 23 true true (mkCall 2 fthere_i fthere_o fthere_r fthere)
theorem E_fthere_ok : EnvOK Tryz.prog E_fthere := Env.ext_ok E_contFuncI_there_ok fthere_spec (fun _ => mkCall_local rfl rfl) (fun _ => mkCall_in rfl rfl)
-- archipelago/forest.ends
abbrev ends_h : Hints := { loop := fun n => match n with | 0 => loopBy 0 21 ends_i0 ends_o0 ends_s0 | _ => fun _ _ _ => none }
theorem ends_s0_ok : ∀ v, ends_s0 v = roundOf Tryz.prog E_fthere ends_h 1 0 21 (loopOf Tryz.f59 0) ends_i0 ends_o0 v := by
  rintro ⟨a0, a1, a2, a3, ⟨⟩⟩
  kernel_rfl
theorem ends_q0 : loopList (loopOf Tryz.f59 0) 1 = [] := by kernel_rfl
theorem ends_l0 : CodeOK Tryz.prog 0 (.loop (loopOf Tryz.f59 0)) (ends_h.loop 0) := loop_ok E_fthere_ok (ends_s0_ok) (LoopsOK_of ends_q0 trivial)
theorem ends_okd : ∀ v, ends_d v = pevCall Tryz.prog E_fthere ends_h Tryz.f59 ends_i ends_o ends_r v := by
  rintro ⟨a0, ⟨⟩⟩
  kernel_rfl
theorem ends_q : loopList (bodyOf Tryz.f59) 0 = [(0, loopOf Tryz.f59 0)] := by kernel_rfl
theorem ends_spec : SpecOK Tryz.prog 59 (mkCall 1 ends_i ends_o ends_r ends) := call_spec E_fthere_ok Tryz.func59 (by kernel_rfl) (by kernel_rfl) rfl (fun v => (ends_eq v).trans (ends_okd v)) (LoopsOK_of ends_q ⟨ends_l0, trivial⟩)
def E_ends : Env := E_fthere.ext 59 true true (mkCall 1 ends_i ends_o ends_r ends)
theorem E_ends_ok : EnvOK Tryz.prog E_ends := Env.ext_ok E_fthere_ok ends_spec (fun _ => mkCall_local rfl rfl) (fun _ => mkCall_in rfl rfl)
-- archipelago/forest.Members$1: gone through in place
theorem members1_b : Tryz.f29.body.isSome = true := by kernel_rfl
theorem members1_n : (Tryz.f29.name == "runtime.NumGoroutine") = false := by kernel_rfl
theorem members1_z : loops (bodyOf Tryz.f29) = 0 := by kernel_rfl
def E_members1_5 : Env := E_ends.ext 29 false false (mkInline Tryz.prog E_ends {} Tryz.f29)
theorem E_members1_5_ok : EnvOK Tryz.prog E_members1_5 := Env.ext_ok E_ends_ok (inline_spec E_ends_ok Tryz.func29 members1_b members1_n members1_z) (by simp) (by simp)
-- slices.IndexFunc[[]int,int]
abbrev idxFuncI_mem_h : Hints := { loop := fun n => match n with | 0 => loopBy 2 19 idxFuncI_mem_i0 idxFuncI_mem_o0 idxFuncI_mem_s0 | _ => fun _ _ _ => none }
theorem idxFuncI_mem_s0_ok : ∀ v, idxFuncI_mem_s0 v = roundOf Tryz.prog E_members1_5 idxFuncI_mem_h 1 2 19 (loopOf Tryz.f49 0) idxFuncI_mem_i0 idxFuncI_mem_o0 v := by
  rintro ⟨a0, a1, a2, a3, a4, ⟨⟩⟩
  kernel_rfl
theorem idxFuncI_mem_q0 : loopList (loopOf Tryz.f49 0) 1 = [] := by kernel_rfl
theorem idxFuncI_mem_l0 : CodeOK Tryz.prog 2 (.loop (loopOf Tryz.f49 0)) (idxFuncI_mem_h.loop 0) := loop_ok E_members1_5_ok (idxFuncI_mem_s0_ok) (LoopsOK_of idxFuncI_mem_q0 trivial)
theorem idxFuncI_mem_okd : ∀ v, idxFuncI_mem_d v = pevCall Tryz.prog E_members1_5 idxFuncI_mem_h Tryz.f49 idxFuncI_mem_i idxFuncI_mem_o idxFuncI_mem_r v := by
  rintro ⟨a0, a1, a2, ⟨⟩⟩
  kernel_rfl
theorem idxFuncI_mem_q : loopList (bodyOf Tryz.f49) 0 = [(0, loopOf Tryz.f49 0)] := by kernel_rfl
theorem idxFuncI_mem_spec : SpecOK Tryz.prog 49 (mkCall 2 idxFuncI_mem_i idxFuncI_mem_o idxFuncI_mem_r idxFuncI_mem) := call_spec E_members1_5_ok Tryz.func49 (by kernel_rfl) (by kernel_rfl) rfl (fun v => (idxFuncI_mem_eq v).trans (idxFuncI_mem_okd v)) (LoopsOK_of idxFuncI_mem_q ⟨idxFuncI_mem_l0, trivial⟩)
def E_idxFuncI_mem : Env := E_members1_5.extC 49 1 29 (mkCall 2 idxFuncI_mem_i idxFuncI_mem_o idxFuncI_mem_r idxFuncI_mem)
theorem E_idxFuncI_mem_ok : EnvOK Tryz.prog E_idxFuncI_mem := Env.extC_ok E_members1_5_ok idxFuncI_mem_spec (mkCall_in rfl rfl)
-- slices.DeleteFunc[[]int,int]
abbrev delFuncI_mem_h : Hints := { loop := fun n => match n with | 0 => loopBy 2 42 delFuncI_mem_i0 delFuncI_mem_o0 delFuncI_mem_s0 | _ => fun _ _ _ => none }
theorem delFuncI_mem_s0_ok : ∀ v, delFuncI_mem_s0 v = roundOf Tryz.prog E_idxFuncI_mem delFuncI_mem_h 1 2 42 (loopOf Tryz.f27 0) delFuncI_mem_i0 delFuncI_mem_o0 v := by
  rintro ⟨a0, a1, a2, a3, a4, ⟨⟩⟩
  kernel_rfl
theorem delFuncI_mem_q0 : loopList (loopOf Tryz.f27 0) 1 = [] := by kernel_rfl
theorem delFuncI_mem_l0 : CodeOK Tryz.prog 2 (.loop (loopOf Tryz.f27 0)) (delFuncI_mem_h.loop 0) := loop_ok E_idxFuncI_mem_ok (delFuncI_mem_s0_ok) (LoopsOK_of delFuncI_mem_q0 trivial)
theorem delFuncI_mem_okd : ∀ v, delFuncI_mem_d v = pevCall Tryz.prog E_idxFuncI_mem delFuncI_mem_h Tryz.f27 delFuncI_mem_i delFuncI_mem_o delFuncI_mem_r v := by
  rintro ⟨a0, a1, a2, ⟨⟩⟩
  kernel_rfl
theorem delFuncI_mem_q : loopList (bodyOf Tryz.f27) 0 = [(0, loopOf Tryz.f27 0)] := by kernel_rfl
theorem delFuncI_mem_spec : SpecOK Tryz.prog 27 (mkCall 2 delFuncI_mem_i delFuncI_mem_o delFuncI_mem_r delFuncI_mem) := call_spec E_idxFuncI_mem_ok Tryz.func27 (by kernel_rfl) (by kernel_rfl) rfl (fun v => (delFuncI_mem_eq v).trans (delFuncI_mem_okd v)) (LoopsOK_of delFuncI_mem_q ⟨delFuncI_mem_l0, trivial⟩)
def E_delFuncI_mem : Env := E_idxFuncI_mem.extC 27 1 29 (takeBack (mkCall 2 delFuncI_mem_i delFuncI_mem_o delFuncI_mem_r delFuncI_mem))
theorem E_delFuncI_mem_ok : EnvOK Tryz.prog E_delFuncI_mem := Env.extC_ok E_idxFuncI_mem_ok (takeBack_ok delFuncI_mem_spec) (take_in rfl rfl)
-- archipelago/forest.Connected
abbrev fconn_h : Hints := { fp := fun n => match n with | 4 => [[0], [], [], [0], [], [], [], [], []] | _ => [] }
theorem fconn_okd : ∀ v, fconn_d v = pevCall Tryz.prog E_delFuncI_mem fconn_h Tryz.f8 fconn_i fconn_o fconn_r v := by
  rintro ⟨a0, a1, a2, ⟨⟩⟩
  kernel_rfl
theorem fconn_q : loopList (bodyOf Tryz.f8) 0 = [] := by kernel_rfl
theorem fconn_spec : SpecOK Tryz.prog 8 (mkCall 3 fconn_i fconn_o fconn_r fconn) := call_spec E_delFuncI_mem_ok Tryz.func8 (by kernel_rfl) (by kernel_rfl) rfl (fun v => (fconn_eq v).trans (fconn_okd v)) (LoopsOK_of fconn_q trivial)
def E_fconn : Env := E_delFuncI_mem.ext 8 true true (mkCall 3 fconn_i fconn_o fconn_r fconn)
theorem E_fconn_ok : EnvOK Tryz.prog E_fconn := Env.ext_ok E_delFuncI_mem_ok fconn_spec (fun _ => mkCall_local rfl rfl) (fun _ => mkCall_in rfl rfl)
-- archipelago/forest.Least
abbrev fleast_h : Hints := { fp := fun n => match n with | 4 => [[0], [0], [0], [], [], [], [], [], [], [], []] | _ => [] }
theorem fleast_okd : ∀ v, fleast_d v = pevCall Tryz.prog E_fconn fleast_h Tryz.f10 fleast_i fleast_o fleast_r v := by
  rintro ⟨a0, a1, ⟨⟩⟩
  kernel_rfl
theorem fleast_q : loopList (bodyOf Tryz.f10) 0 = [] := by kernel_rfl
theorem fleast_spec : SpecOK Tryz.prog 10 (mkCall 2 fleast_i fleast_o fleast_r fleast) := call_spec E_fconn_ok Tryz.func10 (by kernel_rfl) (by kernel_rfl) rfl (fun v => (fleast_eq v).trans (fleast_okd v)) (LoopsOK_of fleast_q trivial)
def E_fleast : Env := E_fconn.ext 10 true true (mkCall 2 fleast_i fleast_o fleast_r fleast)
theorem E_fleast_ok : EnvOK Tryz.prog E_fleast := Env.ext_ok E_fconn_ok fleast_spec (fun _ => mkCall_local rfl rfl) (fun _ => mkCall_in rfl rfl)
-- archipelago/forest.Size
abbrev fsize_h : Hints := { fp := fun n => match n with | 4 => [[0], [0], [0], [], [], [], [], [], [], [], [], []] | _ => [] }
theorem fsize_okd : ∀ v, fsize_d v = pevCall Tryz.prog E_fleast fsize_h Tryz.f12 fsize_i fsize_o fsize_r v := by
  rintro ⟨a0, a1, ⟨⟩⟩
  kernel_rfl
theorem fsize_q : loopList (bodyOf Tryz.f12) 0 = [] := by kernel_rfl
theorem fsize_spec : SpecOK Tryz.prog 12 (mkCall 2 fsize_i fsize_o fsize_r fsize) := call_spec E_fleast_ok Tryz.func12 (by kernel_rfl) (by kernel_rfl) rfl (fun v => (fsize_eq v).trans (fsize_okd v)) (LoopsOK_of fsize_q trivial)
def E_fsize : Env := E_fleast.ext 12 true true (mkCall 2 fsize_i fsize_o fsize_r fsize)
theorem E_fsize_ok : EnvOK Tryz.prog E_fsize := Env.ext_ok E_fleast_ok fsize_spec (fun _ => mkCall_local rfl rfl) (fun _ => mkCall_in rfl rfl)
-- archipelago/forest.Members
abbrev fmembers_h : Hints := { fp := fun n => match n with | 4 => [[0], [0], [0], [], [], [], [], [], [], [1000005, 21, 1], []] | _ => [] }
theorem fmembers_okd : ∀ v, fmembers_d v = pevCall Tryz.prog E_fsize fmembers_h Tryz.f14 fmembers_i fmembers_o fmembers_r v := by
  rintro ⟨a0, a1, ⟨⟩⟩
  kernel_rfl
theorem fmembers_q : loopList (bodyOf Tryz.f14) 0 = [] := by kernel_rfl
theorem fmembers_spec : SpecOK Tryz.prog 14 (mkCall 2 fmembers_i fmembers_o fmembers_r fmembers) := call_spec E_fsize_ok Tryz.func14 (by kernel_rfl) (by kernel_rfl) rfl (fun v => (fmembers_eq v).trans (fmembers_okd v)) (LoopsOK_of fmembers_q trivial)
def E_fmembers : Env := E_fsize.ext 14 true true (mkCall 2 fmembers_i fmembers_o fmembers_r fmembers)
theorem E_fmembers_ok : EnvOK Tryz.prog E_fmembers := Env.ext_ok E_fsize_ok fmembers_spec (fun _ => mkCall_local rfl rfl) (fun _ => mkCall_in rfl rfl)
-- archipelago/forest.each
abbrev eachLink_h : Hints := { loop := fun n => match n with | 0 => loopBy 0 48 eachLink_i0 eachLink_o0 eachLink_s0 | _ => fun _ _ _ => none, fp := fun n => match n with | 1 => [[0], [], [], [4], []] | _ => [] }
theorem eachLink_s0_ok : ∀ v, eachLink_s0 v = roundOf Tryz.prog E_fmembers eachLink_h 1 0 48 (loopOf Tryz.f40 0) eachLink_i0 eachLink_o0 v := by
  rintro ⟨a0, a1, a2, a3, a4, a5, a6, ⟨⟩⟩
  kernel_rfl
theorem eachLink_q0 : loopList (loopOf Tryz.f40 0) 1 = [] := by kernel_rfl
theorem eachLink_l0 : CodeOK Tryz.prog 0 (.loop (loopOf Tryz.f40 0)) (eachLink_h.loop 0) := loop_ok E_fmembers_ok (eachLink_s0_ok) (LoopsOK_of eachLink_q0 trivial)
theorem eachLink_okd : ∀ v, eachLink_d v = pevCall Tryz.prog E_fmembers eachLink_h Tryz.f40 eachLink_i eachLink_o eachLink_r v := by
  rintro ⟨a0, a1, ⟨⟩⟩
  kernel_rfl
theorem eachLink_q : loopList (bodyOf Tryz.f40) 0 = [(0, loopOf Tryz.f40 0)] := by kernel_rfl
theorem eachLink_spec : SpecOK Tryz.prog 40 (mkCall 3 eachLink_i eachLink_o eachLink_r eachLink) := call_spec E_fmembers_ok Tryz.func40 (by kernel_rfl) (by kernel_rfl) rfl (fun v => (eachLink_eq v).trans (eachLink_okd v)) (LoopsOK_of eachLink_q ⟨eachLink_l0, trivial⟩)
def E_eachLink : Env := E_fmembers.extC 40 2 53 (mkCall 3 eachLink_i eachLink_o eachLink_r eachLink)
theorem E_eachLink_ok : EnvOK Tryz.prog E_eachLink := Env.extC_ok E_fmembers_ok eachLink_spec (mkCall_in rfl rfl)
-- archipelago/forest.Links
abbrev flinks_h : Hints := {  }
theorem flinks_okd : ∀ v, flinks_d v = pevCall Tryz.prog E_eachLink flinks_h Tryz.f33 flinks_i flinks_o flinks_r v := by
  rintro ⟨a0, a1, ⟨⟩⟩
  kernel_rfl
theorem flinks_q : loopList (bodyOf Tryz.f33) 0 = [] := by kernel_rfl
theorem flinks_spec : SpecOK Tryz.prog 33 (mkCall 2 flinks_i flinks_o flinks_r flinks) := call_spec E_eachLink_ok Tryz.func33 (by kernel_rfl) (by kernel_rfl) rfl (fun v => (flinks_eq v).trans (flinks_okd v)) (LoopsOK_of flinks_q trivial)
def E_flinks : Env := E_eachLink.ext 33 true true (mkCall 2 flinks_i flinks_o flinks_r flinks)
theorem E_flinks_ok : EnvOK Tryz.prog E_flinks := Env.ext_ok E_eachLink_ok flinks_spec (fun _ => mkCall_local rfl rfl) (fun _ => mkCall_in rfl rfl)
end
end Go.Pev
end
section
namespace Go.Pev
open Go.Proofs
set_option maxRecDepth 100000
noncomputable section
-- archipelago/forest.each
abbrev eachCut_h : Hints := { loop := fun n => match n with | 0 => loopBy 0 48 eachCut_i0 eachCut_o0 eachCut_s0 | _ => fun _ _ _ => none, fp := fun n => match n with | 1 => [[0], [], [], [4], []] | _ => [] }
theorem eachCut_s0_ok : ∀ v, eachCut_s0 v = roundOf Tryz.prog E_flinks eachCut_h 1 0 48 (loopOf Tryz.f40 0) eachCut_i0 eachCut_o0 v := by
  rintro ⟨a0, a1, a2, a3, a4, a5, a6, ⟨⟩⟩
  kernel_rfl
theorem eachCut_q0 : loopList (loopOf Tryz.f40 0) 1 = [] := by kernel_rfl
theorem eachCut_l0 : CodeOK Tryz.prog 0 (.loop (loopOf Tryz.f40 0)) (eachCut_h.loop 0) := loop_ok E_flinks_ok (eachCut_s0_ok) (LoopsOK_of eachCut_q0 trivial)
theorem eachCut_okd : ∀ v, eachCut_d v = pevCall Tryz.prog E_flinks eachCut_h Tryz.f40 eachCut_i eachCut_o eachCut_r v := by
  rintro ⟨a0, a1, ⟨⟩⟩
  kernel_rfl
theorem eachCut_q : loopList (bodyOf Tryz.f40) 0 = [(0, loopOf Tryz.f40 0)] := by kernel_rfl
theorem eachCut_spec : SpecOK Tryz.prog 40 (mkCall 3 eachCut_i eachCut_o eachCut_r eachCut) := call_spec E_flinks_ok Tryz.func40 (by kernel_rfl) (by kernel_rfl) rfl (fun v => (eachCut_eq v).trans (eachCut_okd v)) (LoopsOK_of eachCut_q ⟨eachCut_l0, trivial⟩)
def E_eachCut : Env := E_flinks.extC 40 2 41 (mkCall 3 eachCut_i eachCut_o eachCut_r eachCut)
theorem E_eachCut_ok : EnvOK Tryz.prog E_eachCut := Env.extC_ok E_flinks_ok eachCut_spec (mkCall_in rfl rfl)
-- archipelago/forest.Cuts
abbrev fcuts_h : Hints := {  }
theorem fcuts_okd : ∀ v, fcuts_d v = pevCall Tryz.prog E_eachCut fcuts_h Tryz.f20 fcuts_i fcuts_o fcuts_r v := by
  rintro ⟨a0, a1, ⟨⟩⟩
  kernel_rfl
theorem fcuts_q : loopList (bodyOf Tryz.f20) 0 = [] := by kernel_rfl
theorem fcuts_spec : SpecOK Tryz.prog 20 (mkCall 2 fcuts_i fcuts_o fcuts_r fcuts) := call_spec E_eachCut_ok Tryz.func20 (by kernel_rfl) (by kernel_rfl) rfl (fun v => (fcuts_eq v).trans (fcuts_okd v)) (LoopsOK_of fcuts_q trivial)
def E_fcuts : Env := E_eachCut.ext 20 true true (mkCall 2 fcuts_i fcuts_o fcuts_r fcuts)
theorem E_fcuts_ok : EnvOK Tryz.prog E_fcuts := Env.ext_ok E_eachCut_ok fcuts_spec (fun _ => mkCall_local rfl rfl) (fun _ => mkCall_in rfl rfl)
-- archipelago/forest.Of
abbrev fof_h : Hints := {  }
theorem fof_okd : ∀ v, fof_d v = pevCall Tryz.prog E_fcuts fof_h Tryz.f17 fof_i fof_o fof_r v := by
  rintro ⟨a0, a1, ⟨⟩⟩
  kernel_rfl
theorem fof_q : loopList (bodyOf Tryz.f17) 0 = [] := by kernel_rfl
theorem fof_spec : SpecOK Tryz.prog 17 (mkCall 2 fof_i fof_o fof_r fof) := call_spec E_fcuts_ok Tryz.func17 (by kernel_rfl) (by kernel_rfl) rfl (fun v => (fof_eq v).trans (fof_okd v)) (LoopsOK_of fof_q trivial)
def E_fof : Env := E_fcuts.ext 17 true true (mkCall 2 fof_i fof_o fof_r fof)
theorem E_fof_ok : EnvOK Tryz.prog E_fof := Env.ext_ok E_fcuts_ok fof_spec (fun _ => mkCall_local rfl rfl) (fun _ => mkCall_in rfl rfl)
-- cmp.Or[int]
abbrev orI_h : Hints := { loop := fun n => match n with | 0 => loopBy 0 18 orI_i0 orI_o0 orI_s0 | _ => fun _ _ _ => none }
theorem orI_s0_ok : ∀ v, orI_s0 v = roundOf Tryz.prog E_fof orI_h 1 0 18 (loopOf Tryz.f38 0) orI_i0 orI_o0 v := by
  rintro ⟨a0, a1, a2, a3, ⟨⟩⟩
  kernel_rfl
theorem orI_q0 : loopList (loopOf Tryz.f38 0) 1 = [] := by kernel_rfl
theorem orI_l0 : CodeOK Tryz.prog 0 (.loop (loopOf Tryz.f38 0)) (orI_h.loop 0) := loop_ok E_fof_ok (orI_s0_ok) (LoopsOK_of orI_q0 trivial)
theorem orI_okd : ∀ v, orI_d v = pevCall Tryz.prog E_fof orI_h Tryz.f38 orI_i orI_o orI_r v := by
  rintro ⟨a0, ⟨⟩⟩
  kernel_rfl
theorem orI_q : loopList (bodyOf Tryz.f38) 0 = [(0, loopOf Tryz.f38 0)] := by kernel_rfl
theorem orI_spec : SpecOK Tryz.prog 38 (mkCall 1 orI_i orI_o orI_r orI) := call_spec E_fof_ok Tryz.func38 (by kernel_rfl) (by kernel_rfl) rfl (fun v => (orI_eq v).trans (orI_okd v)) (LoopsOK_of orI_q ⟨orI_l0, trivial⟩)
def E_orI : Env := E_fof.ext 38 true true (mkCall 1 orI_i orI_o orI_r orI)
theorem E_orI_ok : EnvOK Tryz.prog E_orI := Env.ext_ok E_fof_ok orI_spec (fun _ => mkCall_local rfl rfl) (fun _ => mkCall_in rfl rfl)
-- archipelago/forest.Edges$1
abbrev edges1_h : Hints := { fp := fun n => match n with | 1 => [[0], [0], [2], [2], [], [0], [0], [2], [2], [], [], [20], []] | _ => [] }
theorem edges1_okd : ∀ v, edges1_d v = pevCall Tryz.prog E_orI edges1_h Tryz.f37 edges1_i edges1_o edges1_r v := by
  rintro ⟨a0, a1, ⟨⟩⟩
  kernel_rfl
theorem edges1_q : loopList (bodyOf Tryz.f37) 0 = [] := by kernel_rfl
theorem edges1_spec : SpecOK Tryz.prog 37 (mkCall 2 edges1_i edges1_o edges1_r edges1) := call_spec E_orI_ok Tryz.func37 (by kernel_rfl) (by kernel_rfl) rfl (fun v => (edges1_eq v).trans (edges1_okd v)) (LoopsOK_of edges1_q trivial)
def E_edges1 : Env := E_orI.ext 37 true true (mkCall 2 edges1_i edges1_o edges1_r edges1)
theorem E_edges1_ok : EnvOK Tryz.prog E_edges1 := Env.ext_ok E_orI_ok edges1_spec (fun _ => mkCall_local rfl rfl) (fun _ => mkCall_in rfl rfl)
-- slices.insertionSortCmpFunc[archipelago/api.Edge]
abbrev insE_h : Hints := { loop := fun n => match n with | 0 => loopBy 1 53 insE_i0 insE_o0 insE_s0 | 1 => loopBy 1 53 insE_i1 insE_o1 insE_s1 | _ => fun _ _ _ => none, fp := fun n => match n with | 4 => [[], [], [], [], [], [], [], [0], [0], [], [], [], [0], [0], [], [], []] | 6 => [[], [], [], [], [], [], [], [], [0], [0], [], [], [0], [0], [0], [1], [0], [1]] | _ => [] }
theorem insE_s1_ok : ∀ v, insE_s1 v = roundOf Tryz.prog E_edges1 insE_h 2 1 53 (loopOf Tryz.f87 1) insE_i1 insE_o1 v := by
  rintro ⟨a0, a1, a2, a3, a4, ⟨⟩⟩
  kernel_rfl
theorem insE_q1 : loopList (loopOf Tryz.f87 1) 2 = [] := by kernel_rfl
theorem insE_l1 : CodeOK Tryz.prog 1 (.loop (loopOf Tryz.f87 1)) (insE_h.loop 1) := loop_ok E_edges1_ok (insE_s1_ok) (LoopsOK_of insE_q1 trivial)
theorem insE_s0_ok : ∀ v, insE_s0 v = roundOf Tryz.prog E_edges1 insE_h 1 1 53 (loopOf Tryz.f87 0) insE_i0 insE_o0 v := by
  rintro ⟨a0, a1, a2, a3, ⟨⟩⟩
  kernel_rfl
theorem insE_q0 : loopList (loopOf Tryz.f87 0) 1 = [(1, loopOf Tryz.f87 1)] := by kernel_rfl
theorem insE_l0 : CodeOK Tryz.prog 1 (.loop (loopOf Tryz.f87 0)) (insE_h.loop 0) := loop_ok E_edges1_ok (insE_s0_ok) (LoopsOK_of insE_q0 ⟨insE_l1, trivial⟩)
theorem insE_okd : ∀ v, insE_d v = pevCall Tryz.prog E_edges1 insE_h Tryz.f87 insE_i insE_o insE_r v := by
  rintro ⟨a0, a1, a2, ⟨⟩⟩
  kernel_rfl
theorem insE_q : loopList (bodyOf Tryz.f87) 0 = [(0, loopOf Tryz.f87 0)] := by kernel_rfl
theorem insE_spec : SpecOK Tryz.prog 87 (mkCall 4 insE_i insE_o insE_r insE) := call_spec E_edges1_ok Tryz.func87 (by kernel_rfl) (by kernel_rfl) rfl (fun v => (insE_eq v).trans (insE_okd v)) (LoopsOK_of insE_q ⟨insE_l0, trivial⟩)
def E_insE : Env := E_edges1.extC 87 3 37 (mkCall 4 insE_i insE_o insE_r insE)
theorem E_insE_ok : EnvOK Tryz.prog E_insE := Env.extC_ok E_edges1_ok insE_spec (mkCall_in rfl rfl)
-- slices.siftDownCmpFunc[archipelago/api.Edge]
abbrev siftE_h : Hints := { loop := fun n => match n with | 0 => loopBy 1 82 siftE_i0 siftE_o0 siftE_s0 | _ => fun _ _ _ => none, fp := fun n => match n with | 6 => [[], [], [], [], [], [], [], [], [], [], [], [], [0], [0], [], [], [], [], [0], [0], [0], [1], [0], [1]] | 5 => [[], [], [], [], [], [0], [0], [], [], [], [], [0], [0], [], [], []] | 3 => [[], [], [], [], [], [], [], [], [], [], [0], [0], [], [], [], [], [], [0], [0], [], [], []] | _ => [] }
theorem siftE_s0_ok : ∀ v, siftE_s0 v = roundOf Tryz.prog E_insE siftE_h 1 1 82 (loopOf Tryz.f110 0) siftE_i0 siftE_o0 v := by
  rintro ⟨a0, a1, a2, a3, ⟨⟩⟩
  kernel_rfl
theorem siftE_q0 : loopList (loopOf Tryz.f110 0) 1 = [] := by kernel_rfl
theorem siftE_l0 : CodeOK Tryz.prog 1 (.loop (loopOf Tryz.f110 0)) (siftE_h.loop 0) := loop_ok E_insE_ok (siftE_s0_ok) (LoopsOK_of siftE_q0 trivial)
theorem siftE_okd : ∀ v, siftE_d v = pevCall Tryz.prog E_insE siftE_h Tryz.f110 siftE_i siftE_o siftE_r v := by
  rintro ⟨a0, a1, a2, a3, ⟨⟩⟩
  kernel_rfl
theorem siftE_q : loopList (bodyOf Tryz.f110) 0 = [(0, loopOf Tryz.f110 0)] := by kernel_rfl
theorem siftE_spec : SpecOK Tryz.prog 110 (mkCall 5 siftE_i siftE_o siftE_r siftE) := call_spec E_insE_ok Tryz.func110 (by kernel_rfl) (by kernel_rfl) rfl (fun v => (siftE_eq v).trans (siftE_okd v)) (LoopsOK_of siftE_q ⟨siftE_l0, trivial⟩)
def E_siftE : Env := E_insE.extC 110 4 37 (mkCall 5 siftE_i siftE_o siftE_r siftE)
theorem E_siftE_ok : EnvOK Tryz.prog E_siftE := Env.extC_ok E_insE_ok siftE_spec (mkCall_in rfl rfl)
-- slices.heapSortCmpFunc[archipelago/api.Edge]
abbrev heapE_h : Hints := { loop := fun n => match n with | 0 => loopBy 1 60 heapE_i0 heapE_o0 heapE_s0 | 1 => loopBy 1 60 heapE_i1 heapE_o1 heapE_s1 | _ => fun _ _ _ => none, fp := fun n => match n with | 10 => [[], [], [], [], [], [], [], [], [], [], [0], [0], [], [], [0], [0], [0], [1], [0], [1]] | _ => [] }
theorem heapE_s1_ok : ∀ v, heapE_s1 v = roundOf Tryz.prog E_siftE heapE_h 2 1 60 (loopOf Tryz.f88 1) heapE_i1 heapE_o1 v := by
  rintro ⟨a0, a1, a2, a3, ⟨⟩⟩
  kernel_rfl
theorem heapE_q1 : loopList (loopOf Tryz.f88 1) 2 = [] := by kernel_rfl
theorem heapE_l1 : CodeOK Tryz.prog 1 (.loop (loopOf Tryz.f88 1)) (heapE_h.loop 1) := loop_ok E_siftE_ok (heapE_s1_ok) (LoopsOK_of heapE_q1 trivial)
theorem heapE_s0_ok : ∀ v, heapE_s0 v = roundOf Tryz.prog E_siftE heapE_h 1 1 60 (loopOf Tryz.f88 0) heapE_i0 heapE_o0 v := by
  rintro ⟨a0, a1, a2, a3, a4, ⟨⟩⟩
  kernel_rfl
theorem heapE_q0 : loopList (loopOf Tryz.f88 0) 1 = [] := by kernel_rfl
theorem heapE_l0 : CodeOK Tryz.prog 1 (.loop (loopOf Tryz.f88 0)) (heapE_h.loop 0) := loop_ok E_siftE_ok (heapE_s0_ok) (LoopsOK_of heapE_q0 trivial)
theorem heapE_okd : ∀ v, heapE_d v = pevCall Tryz.prog E_siftE heapE_h Tryz.f88 heapE_i heapE_o heapE_r v := by
  rintro ⟨a0, a1, a2, ⟨⟩⟩
  kernel_rfl
theorem heapE_q : loopList (bodyOf Tryz.f88) 0 = [(0, loopOf Tryz.f88 0), (1, loopOf Tryz.f88 1)] := by kernel_rfl
theorem heapE_spec : SpecOK Tryz.prog 88 (mkCall 4 heapE_i heapE_o heapE_r heapE) := call_spec E_siftE_ok Tryz.func88 (by kernel_rfl) (by kernel_rfl) rfl (fun v => (heapE_eq v).trans (heapE_okd v)) (LoopsOK_of heapE_q ⟨heapE_l0, heapE_l1, trivial⟩)
def E_heapE : Env := E_siftE.extC 88 3 37 (mkCall 4 heapE_i heapE_o heapE_r heapE)
theorem E_heapE_ok : EnvOK Tryz.prog E_heapE := Env.extC_ok E_siftE_ok heapE_spec (mkCall_in rfl rfl)
-- slices.breakPatternsCmpFunc[archipelago/api.Edge]
abbrev breakE_h : Hints := { loop := fun n => match n with | 0 => loopBy 1 67 breakE_i0 breakE_o0 breakE_s0 | _ => fun _ _ _ => none, fp := fun n => match n with | 10 => [[], [], [], [], [], [], [], [], [], [], [0], [0], [], [], [0], [0], [0], [1], [0], [1]] | _ => [] }
theorem breakE_s0_ok : ∀ v, breakE_s0 v = roundOf Tryz.prog E_heapE breakE_h 1 1 67 (loopOf Tryz.f89 0) breakE_i0 breakE_o0 v := by
  rintro ⟨a0, a1, a2, a3, a4, a5, ⟨⟩⟩
  kernel_rfl
theorem breakE_q0 : loopList (loopOf Tryz.f89 0) 1 = [] := by kernel_rfl
theorem breakE_l0 : CodeOK Tryz.prog 1 (.loop (loopOf Tryz.f89 0)) (breakE_h.loop 0) := loop_ok E_heapE_ok (breakE_s0_ok) (LoopsOK_of breakE_q0 trivial)
theorem breakE_okd : ∀ v, breakE_d v = pevCall Tryz.prog E_heapE breakE_h Tryz.f89 breakE_i breakE_o breakE_r v := by
  rintro ⟨a0, a1, a2, ⟨⟩⟩
  kernel_rfl
theorem breakE_q : loopList (bodyOf Tryz.f89) 0 = [(0, loopOf Tryz.f89 0)] := by kernel_rfl
theorem breakE_spec : SpecOK Tryz.prog 89 (mkCall 4 breakE_i breakE_o breakE_r breakE) := call_spec E_heapE_ok Tryz.func89 (by kernel_rfl) (by kernel_rfl) rfl (fun v => (breakE_eq v).trans (breakE_okd v)) (LoopsOK_of breakE_q ⟨breakE_l0, trivial⟩)
def E_breakE : Env := E_heapE.extC 89 3 37 (mkCall 4 breakE_i breakE_o breakE_r breakE)
theorem E_breakE_ok : EnvOK Tryz.prog E_breakE := Env.extC_ok E_heapE_ok breakE_spec (mkCall_in rfl rfl)
-- slices.order2CmpFunc[archipelago/api.Edge]
abbrev order2E_h : Hints := { fp := fun n => match n with | 1 => [[], [], [], [0], [0], [], [], [0], [0], [], []] | _ => [] }
theorem order2E_okd : ∀ v, order2E_d v = pevCall Tryz.prog E_breakE order2E_h Tryz.f115 order2E_i order2E_o order2E_r v := by
  rintro ⟨a0, a1, a2, a3, ⟨⟩⟩
  kernel_rfl
theorem order2E_q : loopList (bodyOf Tryz.f115) 0 = [] := by kernel_rfl
theorem order2E_spec : SpecOK Tryz.prog 115 (mkCall 5 order2E_i order2E_o order2E_r order2E) := call_spec E_breakE_ok Tryz.func115 (by kernel_rfl) (by kernel_rfl) rfl (fun v => (order2E_eq v).trans (order2E_okd v)) (LoopsOK_of order2E_q trivial)
def E_order2E : Env := E_breakE.extC 115 4 37 (mkCall 5 order2E_i order2E_o order2E_r order2E)
theorem E_order2E_ok : EnvOK Tryz.prog E_order2E := Env.extC_ok E_breakE_ok order2E_spec (mkCall_in rfl rfl)
-- slices.medianCmpFunc[archipelago/api.Edge]
abbrev medianE_h : Hints := {  }
theorem medianE_okd : ∀ v, medianE_d v = pevCall Tryz.prog E_order2E medianE_h Tryz.f112 medianE_i medianE_o medianE_r v := by
  rintro ⟨a0, a1, a2, a3, a4, ⟨⟩⟩
  kernel_rfl
theorem medianE_q : loopList (bodyOf Tryz.f112) 0 = [] := by kernel_rfl
theorem medianE_spec : SpecOK Tryz.prog 112 (mkCall 6 medianE_i medianE_o medianE_r medianE) := call_spec E_order2E_ok Tryz.func112 (by kernel_rfl) (by kernel_rfl) rfl (fun v => (medianE_eq v).trans (medianE_okd v)) (LoopsOK_of medianE_q trivial)
def E_medianE : Env := E_order2E.extC 112 5 37 (mkCall 6 medianE_i medianE_o medianE_r medianE)
theorem E_medianE_ok : EnvOK Tryz.prog E_medianE := Env.extC_ok E_order2E_ok medianE_spec (mkCall_in rfl rfl)
-- slices.medianAdjacentCmpFunc[archipelago/api.Edge]
abbrev medAdjE_h : Hints := {  }
theorem medAdjE_okd : ∀ v, medAdjE_d v = pevCall Tryz.prog E_medianE medAdjE_h Tryz.f111 medAdjE_i medAdjE_o medAdjE_r v := by
  rintro ⟨a0, a1, a2, ⟨⟩⟩
  kernel_rfl
theorem medAdjE_q : loopList (bodyOf Tryz.f111) 0 = [] := by kernel_rfl
theorem medAdjE_spec : SpecOK Tryz.prog 111 (mkCall 4 medAdjE_i medAdjE_o medAdjE_r medAdjE) := call_spec E_medianE_ok Tryz.func111 (by kernel_rfl) (by kernel_rfl) rfl (fun v => (medAdjE_eq v).trans (medAdjE_okd v)) (LoopsOK_of medAdjE_q trivial)
def E_medAdjE : Env := E_medianE.extC 111 3 37 (mkCall 4 medAdjE_i medAdjE_o medAdjE_r medAdjE)
theorem E_medAdjE_ok : EnvOK Tryz.prog E_medAdjE := Env.extC_ok E_medianE_ok medAdjE_spec (mkCall_in rfl rfl)
end
end Go.Pev
end
section
namespace Go.Pev
open Go.Proofs
set_option maxRecDepth 100000
noncomputable section
-- slices.choosePivotCmpFunc[archipelago/api.Edge]
abbrev pivotE_h : Hints := {  }
theorem pivotE_okd : ∀ v, pivotE_d v = pevCall Tryz.prog E_medAdjE pivotE_h Tryz.f90 pivotE_i pivotE_o pivotE_r v := by
  rintro ⟨a0, a1, a2, ⟨⟩⟩
  kernel_rfl
theorem pivotE_q : loopList (bodyOf Tryz.f90) 0 = [] := by kernel_rfl
theorem pivotE_spec : SpecOK Tryz.prog 90 (mkCall 4 pivotE_i pivotE_o pivotE_r pivotE) := call_spec E_medAdjE_ok Tryz.func90 (by kernel_rfl) (by kernel_rfl) rfl (fun v => (pivotE_eq v).trans (pivotE_okd v)) (LoopsOK_of pivotE_q trivial)
def E_pivotE : Env := E_medAdjE.extC 90 3 37 (mkCall 4 pivotE_i pivotE_o pivotE_r pivotE)
theorem E_pivotE_ok : EnvOK Tryz.prog E_pivotE := Env.extC_ok E_medAdjE_ok pivotE_spec (mkCall_in rfl rfl)
-- slices.reverseRangeCmpFunc[archipelago/api.Edge]
abbrev revE_h : Hints := { loop := fun n => match n with | 0 => loopBy 1 34 revE_i0 revE_o0 revE_s0 | _ => fun _ _ _ => none, fp := fun n => match n with | 3 => [[], [], [], [], [], [], [0], [0], [], [], [0], [0], [0], [1], [0], [1]] | _ => [] }
theorem revE_s0_ok : ∀ v, revE_s0 v = roundOf Tryz.prog E_pivotE revE_h 1 1 34 (loopOf Tryz.f91 0) revE_i0 revE_o0 v := by
  rintro ⟨a0, a1, a2, ⟨⟩⟩
  kernel_rfl
theorem revE_q0 : loopList (loopOf Tryz.f91 0) 1 = [] := by kernel_rfl
theorem revE_l0 : CodeOK Tryz.prog 1 (.loop (loopOf Tryz.f91 0)) (revE_h.loop 0) := loop_ok E_pivotE_ok (revE_s0_ok) (LoopsOK_of revE_q0 trivial)
theorem revE_okd : ∀ v, revE_d v = pevCall Tryz.prog E_pivotE revE_h Tryz.f91 revE_i revE_o revE_r v := by
  rintro ⟨a0, a1, a2, ⟨⟩⟩
  kernel_rfl
theorem revE_q : loopList (bodyOf Tryz.f91) 0 = [(0, loopOf Tryz.f91 0)] := by kernel_rfl
theorem revE_spec : SpecOK Tryz.prog 91 (mkCall 4 revE_i revE_o revE_r revE) := call_spec E_pivotE_ok Tryz.func91 (by kernel_rfl) (by kernel_rfl) rfl (fun v => (revE_eq v).trans (revE_okd v)) (LoopsOK_of revE_q ⟨revE_l0, trivial⟩)
def E_revE : Env := E_pivotE.extC 91 3 37 (mkCall 4 revE_i revE_o revE_r revE)
theorem E_revE_ok : EnvOK Tryz.prog E_revE := Env.extC_ok E_pivotE_ok revE_spec (mkCall_in rfl rfl)
-- slices.partialInsertionSortCmpFunc[archipelago/api.Edge]
abbrev partInsE_h : Hints := { loop := fun n => match n with | 0 => loopBy 1 141 partInsE_i0 partInsE_o0 partInsE_s0 | 1 => loopBy 1 141 partInsE_i1 partInsE_o1 partInsE_s1 | 2 => loopBy 1 141 partInsE_i2 partInsE_o2 partInsE_s2 | 3 => loopBy 1 141 partInsE_i3 partInsE_o3 partInsE_s3 | _ => fun _ _ _ => none, fp := fun n => match n with | 11 => [[], [], [], [], [], [], [], [], [0], [0], [], [], [0], [0], [0], [1], [0], [1]] | 5 => [[], [], [], [], [], [], [], [0], [0], [], [], [], [0], [0], [], [], [], []] | 17 => [[], [], [], [], [], [], [], [], [0], [0], [], [], [0], [0], [0], [1], [0], [1]] | 16 => [[], [], [], [0], [0], [], [], [], [0], [0], [], [], []] | 23 => [[], [], [], [], [], [], [], [], [0], [0], [], [], [0], [0], [0], [1], [0], [1]] | 22 => [[], [], [], [0], [0], [], [], [], [0], [0], [], [], []] | _ => [] }
theorem partInsE_s3_ok : ∀ v, partInsE_s3 v = roundOf Tryz.prog E_revE partInsE_h 4 1 141 (loopOf Tryz.f92 3) partInsE_i3 partInsE_o3 v := by
  rintro ⟨a0, a1, a2, a3, a4, a5, ⟨⟩⟩
  kernel_rfl
theorem partInsE_q3 : loopList (loopOf Tryz.f92 3) 4 = [] := by kernel_rfl
theorem partInsE_l3 : CodeOK Tryz.prog 1 (.loop (loopOf Tryz.f92 3)) (partInsE_h.loop 3) := loop_ok E_revE_ok (partInsE_s3_ok) (LoopsOK_of partInsE_q3 trivial)
theorem partInsE_s2_ok : ∀ v, partInsE_s2 v = roundOf Tryz.prog E_revE partInsE_h 3 1 141 (loopOf Tryz.f92 2) partInsE_i2 partInsE_o2 v := by
  rintro ⟨a0, a1, a2, a3, a4, a5, ⟨⟩⟩
  kernel_rfl
theorem partInsE_q2 : loopList (loopOf Tryz.f92 2) 3 = [] := by kernel_rfl
theorem partInsE_l2 : CodeOK Tryz.prog 1 (.loop (loopOf Tryz.f92 2)) (partInsE_h.loop 2) := loop_ok E_revE_ok (partInsE_s2_ok) (LoopsOK_of partInsE_q2 trivial)
theorem partInsE_s1_ok : ∀ v, partInsE_s1 v = roundOf Tryz.prog E_revE partInsE_h 2 1 141 (loopOf Tryz.f92 1) partInsE_i1 partInsE_o1 v := by
  rintro ⟨a0, a1, a2, a3, a4, ⟨⟩⟩
  kernel_rfl
theorem partInsE_q1 : loopList (loopOf Tryz.f92 1) 2 = [] := by kernel_rfl
theorem partInsE_l1 : CodeOK Tryz.prog 1 (.loop (loopOf Tryz.f92 1)) (partInsE_h.loop 1) := loop_ok E_revE_ok (partInsE_s1_ok) (LoopsOK_of partInsE_q1 trivial)
theorem partInsE_s0_ok : ∀ v, partInsE_s0 v = roundOf Tryz.prog E_revE partInsE_h 1 1 141 (loopOf Tryz.f92 0) partInsE_i0 partInsE_o0 v := by
  rintro ⟨a0, a1, a2, a3, a4, ⟨⟩⟩
  kernel_rfl
theorem partInsE_q0 : loopList (loopOf Tryz.f92 0) 1 = [(1, loopOf Tryz.f92 1), (2, loopOf Tryz.f92 2), (3, loopOf Tryz.f92 3)] := by kernel_rfl
theorem partInsE_l0 : CodeOK Tryz.prog 1 (.loop (loopOf Tryz.f92 0)) (partInsE_h.loop 0) := loop_ok E_revE_ok (partInsE_s0_ok) (LoopsOK_of partInsE_q0 ⟨partInsE_l1, partInsE_l2, partInsE_l3, trivial⟩)
theorem partInsE_okd : ∀ v, partInsE_d v = pevCall Tryz.prog E_revE partInsE_h Tryz.f92 partInsE_i partInsE_o partInsE_r v := by
  rintro ⟨a0, a1, a2, ⟨⟩⟩
  kernel_rfl
theorem partInsE_q : loopList (bodyOf Tryz.f92) 0 = [(0, loopOf Tryz.f92 0)] := by kernel_rfl
theorem partInsE_spec : SpecOK Tryz.prog 92 (mkCall 4 partInsE_i partInsE_o partInsE_r partInsE) := call_spec E_revE_ok Tryz.func92 (by kernel_rfl) (by kernel_rfl) rfl (fun v => (partInsE_eq v).trans (partInsE_okd v)) (LoopsOK_of partInsE_q ⟨partInsE_l0, trivial⟩)
def E_partInsE : Env := E_revE.extC 92 3 37 (mkCall 4 partInsE_i partInsE_o partInsE_r partInsE)
theorem E_partInsE_ok : EnvOK Tryz.prog E_partInsE := Env.extC_ok E_revE_ok partInsE_spec (mkCall_in rfl rfl)
-- slices.partitionEqualCmpFunc[archipelago/api.Edge]
abbrev partEqE_h : Hints := { loop := fun n => match n with | 0 => loopBy 1 90 partEqE_i0 partEqE_o0 partEqE_s0 | 1 => loopBy 1 90 partEqE_i1 partEqE_o1 partEqE_s1 | 2 => loopBy 1 90 partEqE_i2 partEqE_o2 partEqE_s2 | _ => fun _ _ _ => none, fp := fun n => match n with | 8 => [[], [], [], [], [], [], [0], [0], [], [], [0], [0], [0], [1], [0], [1]] | 3 => [[], [], [], [], [], [], [], [0], [0], [], [], [0], [0], [], [], [], []] | 5 => [[], [], [], [], [], [], [], [0], [0], [], [], [0], [0], [], [], []] | 1 => [[], [], [], [], [], [], [0], [0], [], [], [0], [0], [0], [1], [0], [1]] | _ => [] }
theorem partEqE_s2_ok : ∀ v, partEqE_s2 v = roundOf Tryz.prog E_partInsE partEqE_h 3 1 90 (loopOf Tryz.f93 2) partEqE_i2 partEqE_o2 v := by
  rintro ⟨a0, a1, a2, a3, ⟨⟩⟩
  kernel_rfl
theorem partEqE_q2 : loopList (loopOf Tryz.f93 2) 3 = [] := by kernel_rfl
theorem partEqE_l2 : CodeOK Tryz.prog 1 (.loop (loopOf Tryz.f93 2)) (partEqE_h.loop 2) := loop_ok E_partInsE_ok (partEqE_s2_ok) (LoopsOK_of partEqE_q2 trivial)
theorem partEqE_s1_ok : ∀ v, partEqE_s1 v = roundOf Tryz.prog E_partInsE partEqE_h 2 1 90 (loopOf Tryz.f93 1) partEqE_i1 partEqE_o1 v := by
  rintro ⟨a0, a1, a2, a3, ⟨⟩⟩
  kernel_rfl
theorem partEqE_q1 : loopList (loopOf Tryz.f93 1) 2 = [] := by kernel_rfl
theorem partEqE_l1 : CodeOK Tryz.prog 1 (.loop (loopOf Tryz.f93 1)) (partEqE_h.loop 1) := loop_ok E_partInsE_ok (partEqE_s1_ok) (LoopsOK_of partEqE_q1 trivial)
theorem partEqE_s0_ok : ∀ v, partEqE_s0 v = roundOf Tryz.prog E_partInsE partEqE_h 1 1 90 (loopOf Tryz.f93 0) partEqE_i0 partEqE_o0 v := by
  rintro ⟨a0, a1, a2, a3, ⟨⟩⟩
  kernel_rfl
theorem partEqE_q0 : loopList (loopOf Tryz.f93 0) 1 = [(1, loopOf Tryz.f93 1), (2, loopOf Tryz.f93 2)] := by kernel_rfl
theorem partEqE_l0 : CodeOK Tryz.prog 1 (.loop (loopOf Tryz.f93 0)) (partEqE_h.loop 0) := loop_ok E_partInsE_ok (partEqE_s0_ok) (LoopsOK_of partEqE_q0 ⟨partEqE_l1, partEqE_l2, trivial⟩)
theorem partEqE_okd : ∀ v, partEqE_d v = pevCall Tryz.prog E_partInsE partEqE_h Tryz.f93 partEqE_i partEqE_o partEqE_r v := by
  rintro ⟨a0, a1, a2, a3, ⟨⟩⟩
  kernel_rfl
theorem partEqE_q : loopList (bodyOf Tryz.f93) 0 = [(0, loopOf Tryz.f93 0)] := by kernel_rfl
theorem partEqE_spec : SpecOK Tryz.prog 93 (mkCall 5 partEqE_i partEqE_o partEqE_r partEqE) := call_spec E_partInsE_ok Tryz.func93 (by kernel_rfl) (by kernel_rfl) rfl (fun v => (partEqE_eq v).trans (partEqE_okd v)) (LoopsOK_of partEqE_q ⟨partEqE_l0, trivial⟩)
def E_partEqE : Env := E_partInsE.extC 93 4 37 (mkCall 5 partEqE_i partEqE_o partEqE_r partEqE)
theorem E_partEqE_ok : EnvOK Tryz.prog E_partEqE := Env.extC_ok E_partInsE_ok partEqE_spec (mkCall_in rfl rfl)
-- slices.partitionCmpFunc[archipelago/api.Edge]
abbrev partE_h : Hints := { loop := fun n => match n with | 0 => loopBy 1 178 partE_i0 partE_o0 partE_s0 | 1 => loopBy 1 178 partE_i1 partE_o1 partE_s1 | 2 => loopBy 1 178 partE_i2 partE_o2 partE_s2 | 3 => loopBy 1 178 partE_i3 partE_o3 partE_s3 | 4 => loopBy 1 178 partE_i4 partE_o4 partE_s4 | _ => fun _ _ _ => none, fp := fun n => match n with | 3 => [[], [], [], [], [], [], [], [0], [0], [], [], [0], [0], [], [], []] | 5 => [[], [], [], [], [], [], [], [0], [0], [], [], [0], [0], [], [], [], []] | 18 => [[], [], [], [], [], [], [0], [0], [], [], [0], [0], [0], [1], [0], [1]] | 13 => [[], [], [], [], [], [], [], [0], [0], [], [], [0], [0], [], [], []] | 15 => [[], [], [], [], [], [], [], [0], [0], [], [], [0], [0], [], [], [], []] | 21 => [[], [], [], [], [], [], [0], [0], [], [], [0], [0], [0], [1], [0], [1]] | 10 => [[], [], [], [], [], [], [0], [0], [], [], [0], [0], [0], [1], [0], [1]] | 8 => [[], [], [], [], [], [], [0], [0], [], [], [0], [0], [0], [1], [0], [1]] | 1 => [[], [], [], [], [], [], [0], [0], [], [], [0], [0], [0], [1], [0], [1]] | _ => [] }
theorem partE_s4_ok : ∀ v, partE_s4 v = roundOf Tryz.prog E_partEqE partE_h 5 1 178 (loopOf Tryz.f94 4) partE_i4 partE_o4 v := by
  rintro ⟨a0, a1, a2, a3, ⟨⟩⟩
  kernel_rfl
theorem partE_q4 : loopList (loopOf Tryz.f94 4) 5 = [] := by kernel_rfl
theorem partE_l4 : CodeOK Tryz.prog 1 (.loop (loopOf Tryz.f94 4)) (partE_h.loop 4) := loop_ok E_partEqE_ok (partE_s4_ok) (LoopsOK_of partE_q4 trivial)
theorem partE_s3_ok : ∀ v, partE_s3 v = roundOf Tryz.prog E_partEqE partE_h 4 1 178 (loopOf Tryz.f94 3) partE_i3 partE_o3 v := by
  rintro ⟨a0, a1, a2, a3, ⟨⟩⟩
  kernel_rfl
theorem partE_q3 : loopList (loopOf Tryz.f94 3) 4 = [] := by kernel_rfl
theorem partE_l3 : CodeOK Tryz.prog 1 (.loop (loopOf Tryz.f94 3)) (partE_h.loop 3) := loop_ok E_partEqE_ok (partE_s3_ok) (LoopsOK_of partE_q3 trivial)
theorem partE_s2_ok : ∀ v, partE_s2 v = roundOf Tryz.prog E_partEqE partE_h 3 1 178 (loopOf Tryz.f94 2) partE_i2 partE_o2 v := by
  rintro ⟨a0, a1, a2, a3, ⟨⟩⟩
  kernel_rfl
theorem partE_q2 : loopList (loopOf Tryz.f94 2) 3 = [(3, loopOf Tryz.f94 3), (4, loopOf Tryz.f94 4)] := by kernel_rfl
theorem partE_l2 : CodeOK Tryz.prog 1 (.loop (loopOf Tryz.f94 2)) (partE_h.loop 2) := loop_ok E_partEqE_ok (partE_s2_ok) (LoopsOK_of partE_q2 ⟨partE_l3, partE_l4, trivial⟩)
theorem partE_s1_ok : ∀ v, partE_s1 v = roundOf Tryz.prog E_partEqE partE_h 2 1 178 (loopOf Tryz.f94 1) partE_i1 partE_o1 v := by
  rintro ⟨a0, a1, a2, a3, ⟨⟩⟩
  kernel_rfl
theorem partE_q1 : loopList (loopOf Tryz.f94 1) 2 = [] := by kernel_rfl
theorem partE_l1 : CodeOK Tryz.prog 1 (.loop (loopOf Tryz.f94 1)) (partE_h.loop 1) := loop_ok E_partEqE_ok (partE_s1_ok) (LoopsOK_of partE_q1 trivial)
theorem partE_s0_ok : ∀ v, partE_s0 v = roundOf Tryz.prog E_partEqE partE_h 1 1 178 (loopOf Tryz.f94 0) partE_i0 partE_o0 v := by
  rintro ⟨a0, a1, a2, a3, ⟨⟩⟩
  kernel_rfl
theorem partE_q0 : loopList (loopOf Tryz.f94 0) 1 = [] := by kernel_rfl
theorem partE_l0 : CodeOK Tryz.prog 1 (.loop (loopOf Tryz.f94 0)) (partE_h.loop 0) := loop_ok E_partEqE_ok (partE_s0_ok) (LoopsOK_of partE_q0 trivial)
theorem partE_okd : ∀ v, partE_d v = pevCall Tryz.prog E_partEqE partE_h Tryz.f94 partE_i partE_o partE_r v := by
  rintro ⟨a0, a1, a2, a3, ⟨⟩⟩
  kernel_rfl
theorem partE_q : loopList (bodyOf Tryz.f94) 0 = [(0, loopOf Tryz.f94 0), (1, loopOf Tryz.f94 1), (2, loopOf Tryz.f94 2)] := by kernel_rfl
theorem partE_spec : SpecOK Tryz.prog 94 (mkCall 5 partE_i partE_o partE_r partE) := call_spec E_partEqE_ok Tryz.func94 (by kernel_rfl) (by kernel_rfl) rfl (fun v => (partE_eq v).trans (partE_okd v)) (LoopsOK_of partE_q ⟨partE_l0, partE_l1, partE_l2, trivial⟩)
def E_partE : Env := E_partEqE.extC 94 4 37 (mkCall 5 partE_i partE_o partE_r partE)
theorem E_partE_ok : EnvOK Tryz.prog E_partE := Env.extC_ok E_partEqE_ok partE_spec (mkCall_in rfl rfl)
-- slices.pdqsortCmpFunc[archipelago/api.Edge]
abbrev pdqE_h (self : (List (Int × Int × Unit) × Int × Int × Int × Unit) → Option ((List (Int × Int × Unit) × Unit))) : Hints := { loop := fun n => match n with | 0 => loopBy 1 148 pdqE_i0 pdqE_o0 (pdqE_s0 self) | _ => fun _ _ _ => none, fp := fun n => match n with | 17 => [[], [], [], [], [], [], [], [0], [0], [], [], [0], [0], [], [], [], []] | _ => [] }
abbrev pdqE_E (self : (List (Int × Int × Unit) × Int × Int × Int × Unit) → Option ((List (Int × Int × Unit) × Unit))) : Env := E_partE.ext 57 false true (mkCall 5 pdqE_i pdqE_o pdqE_r self)
theorem pdqE_s0_ok (self : (List (Int × Int × Unit) × Int × Int × Int × Unit) → Option ((List (Int × Int × Unit) × Unit))) : ∀ v, pdqE_s0 self v = roundOf Tryz.prog (pdqE_E self) (pdqE_h self) 1 1 148 (loopOf Tryz.f57 0) pdqE_i0 pdqE_o0 v := by
  rintro ⟨a0, a1, a2, a3, a4, a5, ⟨⟩⟩
  kernel_rfl
theorem pdqE_q0 : loopList (loopOf Tryz.f57 0) 1 = [] := by kernel_rfl
theorem pdqE_l0 (self : (List (Int × Int × Unit) × Int × Int × Int × Unit) → Option ((List (Int × Int × Unit) × Unit))) (hE : EnvOK Tryz.prog (pdqE_E self)) : CodeOK Tryz.prog 1 (.loop (loopOf Tryz.f57 0)) ((pdqE_h self).loop 0) := loop_ok hE (pdqE_s0_ok self) (LoopsOK_of pdqE_q0 trivial)
theorem pdqE_okd (self : (List (Int × Int × Unit) × Int × Int × Int × Unit) → Option ((List (Int × Int × Unit) × Unit))) : ∀ v, pdqE_d self v = pevCall Tryz.prog (pdqE_E self) (pdqE_h self) Tryz.f57 pdqE_i pdqE_o pdqE_r v := by
  rintro ⟨a0, a1, a2, a3, ⟨⟩⟩
  kernel_rfl
theorem pdqE_q : loopList (bodyOf Tryz.f57) 0 = [(0, loopOf Tryz.f57 0)] := by kernel_rfl
theorem pdqE_fspec : ∀ n, SpecOK Tryz.prog 57 (mkCall 5 pdqE_i pdqE_o pdqE_r (pdqE_f n)) := by
  intro n
  induction n with
  | zero => exact mkCall_none fun _ => rfl
  | succ n ih =>
    have hE : EnvOK Tryz.prog (pdqE_E (pdqE_f n)) := Env.ext_ok E_partE_ok ih ((by simp)) (fun _ => mkCall_in rfl rfl)
    let self := pdqE_f n
    exact call_spec hE Tryz.func57 (by kernel_rfl) (by kernel_rfl) rfl (pdqE_okd self) (LoopsOK_of pdqE_q ⟨(pdqE_l0 self hE), trivial⟩)
theorem pdqE_spec : SpecOK Tryz.prog 57 (mkCall 5 pdqE_i pdqE_o pdqE_r pdqE) := by
  have e : pdqE = pdqE_f 100 := funext pdqE_eq
  rw [e]
  exact pdqE_fspec _
def E_pdqE : Env := E_partE.extC 57 4 37 (mkCall 5 pdqE_i pdqE_o pdqE_r pdqE)
theorem E_pdqE_ok : EnvOK Tryz.prog E_pdqE := Env.extC_ok E_partE_ok pdqE_spec (mkCall_in rfl rfl)
-- slices.SortFunc[[]archipelago/api.Edge,archipelago/api.Edge]
abbrev sortE_h : Hints := {  }
theorem sortE_okd : ∀ v, sortE_d v = pevCall Tryz.prog E_pdqE sortE_h Tryz.f36 sortE_i sortE_o sortE_r v := by
  rintro ⟨a0, ⟨⟩⟩
  kernel_rfl
theorem sortE_q : loopList (bodyOf Tryz.f36) 0 = [] := by kernel_rfl
theorem sortE_spec : SpecOK Tryz.prog 36 (mkCall 2 sortE_i sortE_o sortE_r sortE) := call_spec E_pdqE_ok Tryz.func36 (by kernel_rfl) (by kernel_rfl) rfl (fun v => (sortE_eq v).trans (sortE_okd v)) (LoopsOK_of sortE_q trivial)
def E_sortE : Env := E_pdqE.extC 36 1 37 (mkCall 2 sortE_i sortE_o sortE_r sortE)
theorem E_sortE_ok : EnvOK Tryz.prog E_sortE := Env.extC_ok E_pdqE_ok sortE_spec (mkCall_in rfl rfl)
-- archipelago/forest.Edges
abbrev fedges_h : Hints := { loop := fun n => match n with | 0 => loopBy 0 54 fedges_i0 fedges_o0 fedges_s0 | 1 => loopBy 0 54 fedges_i1 fedges_o1 fedges_s1 | _ => fun _ _ _ => none }
theorem fedges_s1_ok : ∀ v, fedges_s1 v = roundOf Tryz.prog E_sortE fedges_h 2 0 54 (loopOf Tryz.f19 1) fedges_i1 fedges_o1 v := by
  rintro ⟨a0, a1, a2, a3, a4, a5, a6, a7, a8, ⟨⟩⟩
  kernel_rfl
theorem fedges_q1 : loopList (loopOf Tryz.f19 1) 2 = [] := by kernel_rfl
theorem fedges_l1 : CodeOK Tryz.prog 0 (.loop (loopOf Tryz.f19 1)) (fedges_h.loop 1) := loop_ok E_sortE_ok (fedges_s1_ok) (LoopsOK_of fedges_q1 trivial)
theorem fedges_s0_ok : ∀ v, fedges_s0 v = roundOf Tryz.prog E_sortE fedges_h 1 0 54 (loopOf Tryz.f19 0) fedges_i0 fedges_o0 v := by
  rintro ⟨a0, a1, a2, a3, a4, a5, ⟨⟩⟩
  kernel_rfl
theorem fedges_q0 : loopList (loopOf Tryz.f19 0) 1 = [(1, loopOf Tryz.f19 1)] := by kernel_rfl
theorem fedges_l0 : CodeOK Tryz.prog 0 (.loop (loopOf Tryz.f19 0)) (fedges_h.loop 0) := loop_ok E_sortE_ok (fedges_s0_ok) (LoopsOK_of fedges_q0 ⟨fedges_l1, trivial⟩)
theorem fedges_okd : ∀ v, fedges_d v = pevCall Tryz.prog E_sortE fedges_h Tryz.f19 fedges_i fedges_o fedges_r v := by
  rintro ⟨a0, ⟨⟩⟩
  kernel_rfl
theorem fedges_q : loopList (bodyOf Tryz.f19) 0 = [(0, loopOf Tryz.f19 0)] := by kernel_rfl
theorem fedges_spec : SpecOK Tryz.prog 19 (mkCall 1 fedges_i fedges_o fedges_r fedges) := call_spec E_sortE_ok Tryz.func19 (by kernel_rfl) (by kernel_rfl) rfl (fun v => (fedges_eq v).trans (fedges_okd v)) (LoopsOK_of fedges_q ⟨fedges_l0, trivial⟩)
def E_fedges : Env := E_sortE.ext 19 true true (mkCall 1 fedges_i fedges_o fedges_r fedges)
theorem E_fedges_ok : EnvOK Tryz.prog E_fedges := Env.ext_ok E_sortE_ok fedges_spec (fun _ => mkCall_local rfl rfl) (fun _ => mkCall_in rfl rfl)
-- archipelago/archipelagoref19.there
abbrev there19_h : Hints := { loop := fun n => match n with | 0 => loopBy 0 49 there19_i0 there19_o0 there19_s0 | _ => fun _ _ _ => none, fp := fun n => match n with | 6 => [[], [], [], [], [], [], [], [], [], [], [], [], [0], [0], [], [], [], [], [], [], [], [], [], [], [], [], [], [], [], [], [0], [0], [], []] | _ => [] }
theorem there19_s0_ok : ∀ v, there19_s0 v = roundOf Tryz.prog E_fedges there19_h 1 0 49 (loopOf Tryz.f25 0) there19_i0 there19_o0 v := by
  rintro ⟨a0, a1, a2, a3, ⟨⟩⟩
  kernel_rfl
theorem there19_q0 : loopList (loopOf Tryz.f25 0) 1 = [] := by kernel_rfl
theorem there19_l0 : CodeOK Tryz.prog 0 (.loop (loopOf Tryz.f25 0)) (there19_h.loop 0) := loop_ok E_fedges_ok (there19_s0_ok) (LoopsOK_of there19_q0 trivial)
theorem there19_okd : ∀ v, there19_d v = pevCall Tryz.prog E_fedges there19_h Tryz.f25 there19_i there19_o there19_r v := by
  rintro ⟨a0, a1, ⟨⟩⟩
  kernel_rfl
theorem there19_q : loopList (bodyOf Tryz.f25) 0 = [(0, loopOf Tryz.f25 0)] := by kernel_rfl
theorem there19_spec : SpecOK Tryz.prog 25 (mkCall 2 there19_i there19_o there19_r there19) := call_spec E_fedges_ok Tryz.func25 (by kernel_rfl) (by kernel_rfl) rfl (fun v => (there19_eq v).trans (there19_okd v)) (LoopsOK_of there19_q ⟨there19_l0, trivial⟩)
def E_there19 : Env := E_fedges.ext 25 true true (mkCall 2 there19_i there19_o there19_r there19)
theorem E_there19_ok : EnvOK Tryz.prog E_there19 := Env.ext_ok E_fedges_ok there19_spec (fun _ => mkCall_local rfl rfl) (fun _ => mkCall_in rfl rfl)
-- archipelago/archipelagoref19.Members
abbrev members19_h : Hints := { loop := fun n => match n with | 0 => loopBy 0 41 members19_i0 members19_o0 members19_s0 | _ => fun _ _ _ => none, fp := fun n => match n with | 4 => [[0], [0], [0], [], [], [], [], []] | _ => [] }
theorem members19_s0_ok : ∀ v, members19_s0 v = roundOf Tryz.prog E_there19 members19_h 1 0 41 (loopOf Tryz.f15 0) members19_i0 members19_o0 v := by
  rintro ⟨a0, a1, a2, a3, a4, ⟨⟩⟩
  kernel_rfl
theorem members19_q0 : loopList (loopOf Tryz.f15 0) 1 = [] := by kernel_rfl
theorem members19_l0 : CodeOK Tryz.prog 0 (.loop (loopOf Tryz.f15 0)) (members19_h.loop 0) := loop_ok E_there19_ok (members19_s0_ok) (LoopsOK_of members19_q0 trivial)
theorem members19_okd : ∀ v, members19_d v = pevCall Tryz.prog E_there19 members19_h Tryz.f15 members19_i members19_o members19_r v := by
  rintro ⟨a0, a1, ⟨⟩⟩
  kernel_rfl
theorem members19_q : loopList (bodyOf Tryz.f15) 0 = [(0, loopOf Tryz.f15 0)] := by kernel_rfl
theorem members19_spec : SpecOK Tryz.prog 15 (mkCall 2 members19_i members19_o members19_r members19) := call_spec E_there19_ok Tryz.func15 (by kernel_rfl) (by kernel_rfl) rfl (fun v => (members19_eq v).trans (members19_okd v)) (LoopsOK_of members19_q ⟨members19_l0, trivial⟩)
def E_members19 : Env := E_there19.ext 15 true true (mkCall 2 members19_i members19_o members19_r members19)
theorem E_members19_ok : EnvOK Tryz.prog E_members19 := Env.ext_ok E_there19_ok members19_spec (fun _ => mkCall_local rfl rfl) (fun _ => mkCall_in rfl rfl)
-- archipelago/archipelagoref19.Connected
abbrev conn19_h : Hints := { fp := fun n => match n with | 4 => [[0], [], [], [0], [], [], [], [], []] | _ => [] }
theorem conn19_okd : ∀ v, conn19_d v = pevCall Tryz.prog E_members19 conn19_h Tryz.f9 conn19_i conn19_o conn19_r v := by
  rintro ⟨a0, a1, a2, ⟨⟩⟩
  kernel_rfl
theorem conn19_q : loopList (bodyOf Tryz.f9) 0 = [] := by kernel_rfl
theorem conn19_spec : SpecOK Tryz.prog 9 (mkCall 3 conn19_i conn19_o conn19_r conn19) := call_spec E_members19_ok Tryz.func9 (by kernel_rfl) (by kernel_rfl) rfl (fun v => (conn19_eq v).trans (conn19_okd v)) (LoopsOK_of conn19_q trivial)
def E_conn19 : Env := E_members19.ext 9 true true (mkCall 3 conn19_i conn19_o conn19_r conn19)
theorem E_conn19_ok : EnvOK Tryz.prog E_conn19 := Env.ext_ok E_members19_ok conn19_spec (fun _ => mkCall_local rfl rfl) (fun _ => mkCall_in rfl rfl)
-- archipelago/archipelagoref19.Least
abbrev least19_h : Hints := {  }
theorem least19_okd : ∀ v, least19_d v = pevCall Tryz.prog E_conn19 least19_h Tryz.f11 least19_i least19_o least19_r v := by
  rintro ⟨a0, a1, ⟨⟩⟩
  kernel_rfl
theorem least19_q : loopList (bodyOf Tryz.f11) 0 = [] := by kernel_rfl
theorem least19_spec : SpecOK Tryz.prog 11 (mkCall 2 least19_i least19_o least19_r least19) := call_spec E_conn19_ok Tryz.func11 (by kernel_rfl) (by kernel_rfl) rfl (fun v => (least19_eq v).trans (least19_okd v)) (LoopsOK_of least19_q trivial)
def E_least19 : Env := E_conn19.ext 11 true true (mkCall 2 least19_i least19_o least19_r least19)
theorem E_least19_ok : EnvOK Tryz.prog E_least19 := Env.ext_ok E_conn19_ok least19_spec (fun _ => mkCall_local rfl rfl) (fun _ => mkCall_in rfl rfl)
end
end Go.Pev
end
section
namespace Go.Pev
open Go.Proofs
set_option maxRecDepth 100000
noncomputable section
-- archipelago/archipelagoref19.Size
abbrev size19_h : Hints := {  }
theorem size19_okd : ∀ v, size19_d v = pevCall Tryz.prog E_least19 size19_h Tryz.f13 size19_i size19_o size19_r v := by
  rintro ⟨a0, a1, ⟨⟩⟩
  kernel_rfl
theorem size19_q : loopList (bodyOf Tryz.f13) 0 = [] := by kernel_rfl
theorem size19_spec : SpecOK Tryz.prog 13 (mkCall 2 size19_i size19_o size19_r size19) := call_spec E_least19_ok Tryz.func13 (by kernel_rfl) (by kernel_rfl) rfl (fun v => (size19_eq v).trans (size19_okd v)) (LoopsOK_of size19_q trivial)
def E_size19 : Env := E_least19.ext 13 true true (mkCall 2 size19_i size19_o size19_r size19)
theorem E_size19_ok : EnvOK Tryz.prog E_size19 := Env.ext_ok E_least19_ok size19_spec (fun _ => mkCall_local rfl rfl) (fun _ => mkCall_in rfl rfl)
-- archipelago/archipelagoref19.Classes
abbrev classes19_h : Hints := { loop := fun n => match n with | 0 => loopBy 0 83 classes19_i0 classes19_o0 classes19_s0 | 1 => loopBy 0 83 classes19_i1 classes19_o1 classes19_s1 | 2 => loopBy 0 83 classes19_i2 classes19_o2 classes19_s2 | _ => fun _ _ _ => none, fp := fun n => match n with | 14 => [[], [], [0], [0], [], [], [0], [0], [], []] | 13 => [[], [], [], [], [], [], [], [], [], [], [], [], [], [], [], [], [], [], [], [0], [0], [], [], [0], [0], [], []] | 12 => [[], [], [], [], [], [], [], [], [], [], [], []] | _ => [] }
theorem classes19_s2_ok : ∀ v, classes19_s2 v = roundOf Tryz.prog E_size19 classes19_h 3 0 83 (loopOf Tryz.f18 2) classes19_i2 classes19_o2 v := by
  rintro ⟨a0, a1, a2, a3, a4, ⟨⟩⟩
  kernel_rfl
theorem classes19_q2 : loopList (loopOf Tryz.f18 2) 3 = [] := by kernel_rfl
theorem classes19_l2 : CodeOK Tryz.prog 0 (.loop (loopOf Tryz.f18 2)) (classes19_h.loop 2) := loop_ok E_size19_ok (classes19_s2_ok) (LoopsOK_of classes19_q2 trivial)
theorem classes19_s1_ok : ∀ v, classes19_s1 v = roundOf Tryz.prog E_size19 classes19_h 2 0 83 (loopOf Tryz.f18 1) classes19_i1 classes19_o1 v := by
  rintro ⟨a0, a1, a2, a3, ⟨⟩⟩
  kernel_rfl
theorem classes19_q1 : loopList (loopOf Tryz.f18 1) 2 = [(2, loopOf Tryz.f18 2)] := by kernel_rfl
theorem classes19_l1 : CodeOK Tryz.prog 0 (.loop (loopOf Tryz.f18 1)) (classes19_h.loop 1) := loop_ok E_size19_ok (classes19_s1_ok) (LoopsOK_of classes19_q1 ⟨classes19_l2, trivial⟩)
theorem classes19_s0_ok : ∀ v, classes19_s0 v = roundOf Tryz.prog E_size19 classes19_h 1 0 83 (loopOf Tryz.f18 0) classes19_i0 classes19_o0 v := by
  rintro ⟨a0, a1, a2, a3, ⟨⟩⟩
  kernel_rfl
theorem classes19_q0 : loopList (loopOf Tryz.f18 0) 1 = [] := by kernel_rfl
theorem classes19_l0 : CodeOK Tryz.prog 0 (.loop (loopOf Tryz.f18 0)) (classes19_h.loop 0) := loop_ok E_size19_ok (classes19_s0_ok) (LoopsOK_of classes19_q0 trivial)
theorem classes19_okd : ∀ v, classes19_d v = pevCall Tryz.prog E_size19 classes19_h Tryz.f18 classes19_i classes19_o classes19_r v := by
  rintro ⟨a0, a1, ⟨⟩⟩
  kernel_rfl
theorem classes19_q : loopList (bodyOf Tryz.f18) 0 = [(0, loopOf Tryz.f18 0), (1, loopOf Tryz.f18 1)] := by kernel_rfl
theorem classes19_spec : SpecOK Tryz.prog 18 (mkCall 2 classes19_i classes19_o classes19_r classes19) := call_spec E_size19_ok Tryz.func18 (by kernel_rfl) (by kernel_rfl) rfl (fun v => (classes19_eq v).trans (classes19_okd v)) (LoopsOK_of classes19_q ⟨classes19_l0, classes19_l1, trivial⟩)
def E_classes19 : Env := E_size19.ext 18 true true (mkCall 2 classes19_i classes19_o classes19_r classes19)
theorem E_classes19_ok : EnvOK Tryz.prog E_classes19 := Env.ext_ok E_size19_ok classes19_spec (fun _ => mkCall_local rfl rfl) (fun _ => mkCall_in rfl rfl)
-- archipelago/archipelagoref19.Bools
abbrev bools19_h : Hints := { loop := fun n => match n with | 0 => loopBy 0 26 bools19_i0 bools19_o0 bools19_s0 | _ => fun _ _ _ => none, fp := fun n => match n with | 6 => [[], [], [], [], [], [], [], [], []] | _ => [] }
theorem bools19_s0_ok : ∀ v, bools19_s0 v = roundOf Tryz.prog E_classes19 bools19_h 1 0 26 (loopOf Tryz.f21 0) bools19_i0 bools19_o0 v := by
  rintro ⟨a0, a1, a2, ⟨⟩⟩
  kernel_rfl
theorem bools19_q0 : loopList (loopOf Tryz.f21 0) 1 = [] := by kernel_rfl
theorem bools19_l0 : CodeOK Tryz.prog 0 (.loop (loopOf Tryz.f21 0)) (bools19_h.loop 0) := loop_ok E_classes19_ok (bools19_s0_ok) (LoopsOK_of bools19_q0 trivial)
theorem bools19_okd : ∀ v, bools19_d v = pevCall Tryz.prog E_classes19 bools19_h Tryz.f21 bools19_i bools19_o bools19_r v := by
  rintro ⟨a0, a1, ⟨⟩⟩
  kernel_rfl
theorem bools19_q : loopList (bodyOf Tryz.f21) 0 = [(0, loopOf Tryz.f21 0)] := by kernel_rfl
theorem bools19_spec : SpecOK Tryz.prog 21 (mkCall 2 bools19_i bools19_o bools19_r bools19) := call_spec E_classes19_ok Tryz.func21 (by kernel_rfl) (by kernel_rfl) rfl (fun v => (bools19_eq v).trans (bools19_okd v)) (LoopsOK_of bools19_q ⟨bools19_l0, trivial⟩)
def E_bools19 : Env := E_classes19.ext 21 true true (mkCall 2 bools19_i bools19_o bools19_r bools19)
theorem E_bools19_ok : EnvOK Tryz.prog E_bools19 := Env.ext_ok E_classes19_ok bools19_spec (fun _ => mkCall_local rfl rfl) (fun _ => mkCall_in rfl rfl)
-- archipelago/archipelagoref11.Same
abbrev same11_h : Hints := { loop := fun n => match n with | 0 => loopBy 0 26 same11_i0 same11_o0 same11_s0 | _ => fun _ _ _ => none, fp := fun n => match n with | 6 => [[], [], [], [], [], [], [], [], []] | _ => [] }
theorem same11_s0_ok : ∀ v, same11_s0 v = roundOf Tryz.prog E_bools19 same11_h 1 0 26 (loopOf Tryz.f22 0) same11_i0 same11_o0 v := by
  rintro ⟨a0, a1, a2, ⟨⟩⟩
  kernel_rfl
theorem same11_q0 : loopList (loopOf Tryz.f22 0) 1 = [] := by kernel_rfl
theorem same11_l0 : CodeOK Tryz.prog 0 (.loop (loopOf Tryz.f22 0)) (same11_h.loop 0) := loop_ok E_bools19_ok (same11_s0_ok) (LoopsOK_of same11_q0 trivial)
theorem same11_okd : ∀ v, same11_d v = pevCall Tryz.prog E_bools19 same11_h Tryz.f22 same11_i same11_o same11_r v := by
  rintro ⟨a0, a1, ⟨⟩⟩
  kernel_rfl
theorem same11_q : loopList (bodyOf Tryz.f22) 0 = [(0, loopOf Tryz.f22 0)] := by kernel_rfl
theorem same11_spec : SpecOK Tryz.prog 22 (mkCall 2 same11_i same11_o same11_r same11) := call_spec E_bools19_ok Tryz.func22 (by kernel_rfl) (by kernel_rfl) rfl (fun v => (same11_eq v).trans (same11_okd v)) (LoopsOK_of same11_q ⟨same11_l0, trivial⟩)
def E_same11 : Env := E_bools19.ext 22 true true (mkCall 2 same11_i same11_o same11_r same11)
theorem E_same11_ok : EnvOK Tryz.prog E_same11 := Env.ext_ok E_bools19_ok same11_spec (fun _ => mkCall_local rfl rfl) (fun _ => mkCall_in rfl rfl)
-- archipelago/archipelagolaw19.alive
abbrev alive19_h : Hints := {  }
theorem alive19_okd : ∀ v, alive19_d v = pevCall Tryz.prog E_same11 alive19_h Tryz.f6 alive19_i alive19_o alive19_r v := by
  rintro ⟨⟨⟩⟩
  kernel_rfl
theorem alive19_q : loopList (bodyOf Tryz.f6) 0 = [] := by kernel_rfl
theorem alive19_spec : SpecOK Tryz.prog 6 (mkCall 0 alive19_i alive19_o alive19_r alive19) := call_spec E_same11_ok Tryz.func6 (by kernel_rfl) (by kernel_rfl) rfl (fun v => (alive19_eq v).trans (alive19_okd v)) (LoopsOK_of alive19_q trivial)
def E_alive19 : Env := E_same11.ext 6 true true (mkCall 0 alive19_i alive19_o alive19_r alive19)
theorem E_alive19_ok : EnvOK Tryz.prog E_alive19 := Env.ext_ok E_same11_ok alive19_spec (fun _ => mkCall_local rfl rfl) (fun _ => mkCall_in rfl rfl)
-- archipelago/archipelagolaw19.ForestAsks
abbrev forestAsks_h : Hints := {  }
theorem forestAsks_okd : ∀ v, forestAsks_d v = pevCall Tryz.prog E_alive19 forestAsks_h Tryz.f3 forestAsks_i forestAsks_o forestAsks_r v := by
  rintro ⟨a0, a1, a2, ⟨⟩⟩
  kernel_rfl
theorem forestAsks_q : loopList (bodyOf Tryz.f3) 0 = [] := by kernel_rfl
theorem forestAsks_spec : SpecOK Tryz.prog 3 (mkCall 3 forestAsks_i forestAsks_o forestAsks_r forestAsks) := call_spec E_alive19_ok Tryz.func3 (by kernel_rfl) (by kernel_rfl) rfl (fun v => (forestAsks_eq v).trans (forestAsks_okd v)) (LoopsOK_of forestAsks_q trivial)
def E_forestAsks : Env := E_alive19.ext 3 true true (mkCall 3 forestAsks_i forestAsks_o forestAsks_r forestAsks)
theorem E_forestAsks_ok : EnvOK Tryz.prog E_forestAsks := Env.ext_ok E_alive19_ok forestAsks_spec (fun _ => mkCall_local rfl rfl) (fun _ => mkCall_in rfl rfl)
-- archipelago/archipelagolaw19.ForestSets
abbrev forestSets_h : Hints := { loop := fun n => match n with | 0 => loopBy 0 220 forestSets_i0 forestSets_o0 forestSets_s0 | 1 => loopBy 0 220 forestSets_i1 forestSets_o1 forestSets_s1 | _ => fun _ _ _ => none, fp := fun n => match n with | 21 => [[], [], [4], [4], [], [], [], [], [4], [4], [], [], [], [], [], [], [], [4], [4], [2], [2], [], [], [2], [2], [], [], [], [], [], [], [], [], [], [4], [4], [], [], [4], [4], [], [], []] | 27 => [[], [], [2], [2], [], [], [2], [2], []] | 29 => [[], [], [], [], [0], [], [2], [], [0], [0], [], [], [], [], []] | 16 => [[], [], [], [], [], [], [], [], [], [], [], [], [], [], [], [], [], [], [], [], [], [], [20], [20], [], [], [20], [20], [], [], [], [], [], [], [], [], [], [], [], [], [], [], [20], [20], [], [], [], [], [60], [], [], []] | 9 => [[0], [0], [], [], [], [0], [0], [], [], [], [], []] | _ => [] }
theorem forestSets_s1_ok : ∀ v, forestSets_s1 v = roundOf Tryz.prog E_forestAsks forestSets_h 2 0 220 (loopOf Tryz.f4 1) forestSets_i1 forestSets_o1 v := by
  rintro ⟨a0, a1, a2, a3, a4, a5, a6, a7, ⟨⟩⟩
  kernel_rfl
theorem forestSets_q1 : loopList (loopOf Tryz.f4 1) 2 = [] := by kernel_rfl
theorem forestSets_l1 : CodeOK Tryz.prog 0 (.loop (loopOf Tryz.f4 1)) (forestSets_h.loop 1) := loop_ok E_forestAsks_ok (forestSets_s1_ok) (LoopsOK_of forestSets_q1 trivial)
theorem forestSets_s0_ok : ∀ v, forestSets_s0 v = roundOf Tryz.prog E_forestAsks forestSets_h 1 0 220 (loopOf Tryz.f4 0) forestSets_i0 forestSets_o0 v := by
  rintro ⟨a0, a1, a2, a3, a4, a5, a6, a7, ⟨⟩⟩
  kernel_rfl
theorem forestSets_q0 : loopList (loopOf Tryz.f4 0) 1 = [] := by kernel_rfl
theorem forestSets_l0 : CodeOK Tryz.prog 0 (.loop (loopOf Tryz.f4 0)) (forestSets_h.loop 0) := loop_ok E_forestAsks_ok (forestSets_s0_ok) (LoopsOK_of forestSets_q0 trivial)
theorem forestSets_okd : ∀ v, forestSets_d v = pevCall Tryz.prog E_forestAsks forestSets_h Tryz.f4 forestSets_i forestSets_o forestSets_r v := by
  rintro ⟨a0, a1, a2, ⟨⟩⟩
  kernel_rfl
theorem forestSets_q : loopList (bodyOf Tryz.f4) 0 = [(0, loopOf Tryz.f4 0), (1, loopOf Tryz.f4 1)] := by kernel_rfl
theorem forestSets_spec : SpecOK Tryz.prog 4 (mkCall 3 forestSets_i forestSets_o forestSets_r forestSets) := call_spec E_forestAsks_ok Tryz.func4 (by kernel_rfl) (by kernel_rfl) rfl (fun v => (forestSets_eq v).trans (forestSets_okd v)) (LoopsOK_of forestSets_q ⟨forestSets_l0, forestSets_l1, trivial⟩)
-- archipelago/archipelagolaw19.ForestOrder
end
end Go.Pev
end
section

end
