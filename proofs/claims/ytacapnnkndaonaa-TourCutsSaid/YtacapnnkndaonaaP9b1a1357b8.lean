/- A part of the proofs of this seat: G18P2 G18P3 G18P4 G18P5 G18P6 G18P7 G18P. -/
import Derived.Test.YtacapnnkndaonaaP122ff414a5
set_option linter.unusedVariables false
set_option linter.unusedSimpArgs false
set_option linter.unusedSectionVars false
section
/- The models are what the program computes. Printed by a program. -/
namespace Go.Pev
open Go.Proofs
set_option maxRecDepth 100000
noncomputable section
-- archipelago/archipelagoref01.Ints
abbrev ints01_h : Hints := { loop := fun n => match n with | 0 => loopBy 0 26 ints01_i0 ints01_o0 ints01_s0 | _ => fun _ _ _ => none, fp := fun n => match n with | 6 => [[], [], [], [], [], [], [], [], []] | _ => [] }
theorem ints01_s0_ok : ∀ v, ints01_s0 v = roundOf Try.prog E_plain13 ints01_h 1 0 26 (loopOf Try.f64 0) ints01_i0 ints01_o0 v := by
  rintro ⟨a0, a1, a2, ⟨⟩⟩
  kernel_rfl
theorem ints01_q0 : loopList (loopOf Try.f64 0) 1 = [] := by kernel_rfl
theorem ints01_l0 : CodeOK Try.prog 0 (.loop (loopOf Try.f64 0)) (ints01_h.loop 0) := loop_ok E_plain13_ok (ints01_s0_ok) (LoopsOK_of ints01_q0 trivial)
theorem ints01_okd : ∀ v, ints01_d v = pevCall Try.prog E_plain13 ints01_h Try.f64 ints01_i ints01_o ints01_r v := by
  rintro ⟨a0, a1, ⟨⟩⟩
  kernel_rfl
theorem ints01_q : loopList (bodyOf Try.f64) 0 = [(0, loopOf Try.f64 0)] := by kernel_rfl
theorem ints01_b : Try.f64.body.isSome = true := by kernel_rfl
theorem ints01_n : (Try.f64.name == "runtime.NumGoroutine") = false := by kernel_rfl
theorem ints01_ok (v : denL (leaves ints01_i)) : ints01 v = pevCall Try.prog E_plain13 ints01_h Try.f64 ints01_i ints01_o ints01_r v := (ints01_eq v).trans (ints01_okd v)
theorem ints01_spec : SpecOK Try.prog 64 (mkCall 2 ints01_i ints01_o ints01_r ints01) := call_spec E_plain13_ok Try.func64 ints01_b ints01_n rfl ints01_ok (LoopsOK_of ints01_q ⟨ints01_l0, trivial⟩)
def E_ints01 : Env := E_plain13.ext 64 true true (mkCall 2 ints01_i ints01_o ints01_r ints01)
theorem E_ints01_ok : EnvOK Try.prog E_ints01 := Env.ext_ok E_plain13_ok ints01_spec (fun _ => mkCall_local rfl rfl) (fun _ => mkCall_in rfl rfl)

-- archipelago/archipelagoref14.Lists
abbrev lists14_h : Hints := { loop := fun n => match n with | 0 => loopBy 0 27 lists14_i0 lists14_o0 lists14_s0 | _ => fun _ _ _ => none, fp := fun n => match n with | 6 => [[], [], [], [], [], [], [], [], [], []] | _ => [] }
theorem lists14_s0_ok : ∀ v, lists14_s0 v = roundOf Try.prog E_ints01 lists14_h 1 0 27 (loopOf Try.f76 0) lists14_i0 lists14_o0 v := by
  rintro ⟨a0, a1, a2, ⟨⟩⟩
  kernel_rfl
theorem lists14_q0 : loopList (loopOf Try.f76 0) 1 = [] := by kernel_rfl
theorem lists14_l0 : CodeOK Try.prog 0 (.loop (loopOf Try.f76 0)) (lists14_h.loop 0) := loop_ok E_ints01_ok (lists14_s0_ok) (LoopsOK_of lists14_q0 trivial)
theorem lists14_okd : ∀ v, lists14_d v = pevCall Try.prog E_ints01 lists14_h Try.f76 lists14_i lists14_o lists14_r v := by
  rintro ⟨a0, a1, ⟨⟩⟩
  kernel_rfl
theorem lists14_q : loopList (bodyOf Try.f76) 0 = [(0, loopOf Try.f76 0)] := by kernel_rfl
theorem lists14_b : Try.f76.body.isSome = true := by kernel_rfl
theorem lists14_n : (Try.f76.name == "runtime.NumGoroutine") = false := by kernel_rfl
theorem lists14_ok (v : denL (leaves lists14_i)) : lists14 v = pevCall Try.prog E_ints01 lists14_h Try.f76 lists14_i lists14_o lists14_r v := (lists14_eq v).trans (lists14_okd v)
theorem lists14_spec : SpecOK Try.prog 76 (mkCall 2 lists14_i lists14_o lists14_r lists14) := call_spec E_ints01_ok Try.func76 lists14_b lists14_n rfl lists14_ok (LoopsOK_of lists14_q ⟨lists14_l0, trivial⟩)
def E_lists14 : Env := E_ints01.ext 76 true true (mkCall 2 lists14_i lists14_o lists14_r lists14)
theorem E_lists14_ok : EnvOK Try.prog E_lists14 := Env.ext_ok E_ints01_ok lists14_spec (fun _ => mkCall_local rfl rfl) (fun _ => mkCall_in rfl rfl)

-- archipelago/archipelagoref18.Same
abbrev same18_h : Hints := {  }
theorem same18_okd : ∀ v, same18_d v = pevCall Try.prog E_lists14 same18_h Try.f37 same18_i same18_o same18_r v := by
  rintro ⟨a0, a1, ⟨⟩⟩
  kernel_rfl
theorem same18_q : loopList (bodyOf Try.f37) 0 = [] := by kernel_rfl
theorem same18_b : Try.f37.body.isSome = true := by kernel_rfl
theorem same18_n : (Try.f37.name == "runtime.NumGoroutine") = false := by kernel_rfl
theorem same18_ok (v : denL (leaves same18_i)) : same18 v = pevCall Try.prog E_lists14 same18_h Try.f37 same18_i same18_o same18_r v := (same18_eq v).trans (same18_okd v)
theorem same18_spec : SpecOK Try.prog 37 (mkCall 2 same18_i same18_o same18_r same18) := call_spec E_lists14_ok Try.func37 same18_b same18_n rfl same18_ok (LoopsOK_of same18_q trivial)
def E_same18 : Env := E_lists14.ext 37 true true (mkCall 2 same18_i same18_o same18_r same18)
theorem E_same18_ok : EnvOK Try.prog E_same18 := Env.ext_ok E_lists14_ok same18_spec (fun _ => mkCall_local rfl rfl) (fun _ => mkCall_in rfl rfl)

-- archipelago/archipelagoref18.Right
abbrev right18_h : Hints := { loop := fun n => match n with | 0 => loopBy 0 106 right18_i0 right18_o0 right18_s0 | 1 => loopBy 0 106 right18_i1 right18_o1 right18_s1 | _ => fun _ _ _ => none, fp := fun n => match n with | 16 => [[], [], [], [], [0], [0], []] | _ => [] }
theorem right18_s1_ok : ∀ v, right18_s1 v = roundOf Try.prog E_same18 right18_h 2 0 106 (loopOf Try.f39 1) right18_i1 right18_o1 v := by
  rintro ⟨a0, a1, a2, a3, a4, a5, a6, a7, a8, a9, a10, a11, a12, a13, a14, a15, a16, a17, a18, a19, a20, a21, a22, a23, a24, a25, ⟨⟩⟩
  kernel_rfl
theorem right18_q1 : loopList (loopOf Try.f39 1) 2 = [] := by kernel_rfl
theorem right18_l1 : CodeOK Try.prog 0 (.loop (loopOf Try.f39 1)) (right18_h.loop 1) := loop_ok E_same18_ok (right18_s1_ok) (LoopsOK_of right18_q1 trivial)
theorem right18_s0_ok : ∀ v, right18_s0 v = roundOf Try.prog E_same18 right18_h 1 0 106 (loopOf Try.f39 0) right18_i0 right18_o0 v := by
  rintro ⟨a0, a1, a2, a3, a4, a5, ⟨⟩⟩
  kernel_rfl
theorem right18_q0 : loopList (loopOf Try.f39 0) 1 = [(1, loopOf Try.f39 1)] := by kernel_rfl
theorem right18_l0 : CodeOK Try.prog 0 (.loop (loopOf Try.f39 0)) (right18_h.loop 0) := loop_ok E_same18_ok (right18_s0_ok) (LoopsOK_of right18_q0 ⟨right18_l1, trivial⟩)
theorem right18_okd : ∀ v, right18_d v = pevCall Try.prog E_same18 right18_h Try.f39 right18_i right18_o right18_r v := by
  rintro ⟨a0, ⟨⟩⟩
  kernel_rfl
theorem right18_q : loopList (bodyOf Try.f39) 0 = [(0, loopOf Try.f39 0)] := by kernel_rfl
theorem right18_b : Try.f39.body.isSome = true := by kernel_rfl
theorem right18_n : (Try.f39.name == "runtime.NumGoroutine") = false := by kernel_rfl
theorem right18_ok (v : denL (leaves right18_i)) : right18 v = pevCall Try.prog E_same18 right18_h Try.f39 right18_i right18_o right18_r v := (right18_eq v).trans (right18_okd v)
theorem right18_spec : SpecOK Try.prog 39 (mkCall 1 right18_i right18_o right18_r right18) := call_spec E_same18_ok Try.func39 right18_b right18_n rfl right18_ok (LoopsOK_of right18_q ⟨right18_l0, trivial⟩)
def E_right18 : Env := E_same18.ext 39 true true (mkCall 1 right18_i right18_o right18_r right18)
theorem E_right18_ok : EnvOK Try.prog E_right18 := Env.ext_ok E_same18_ok right18_spec (fun _ => mkCall_local rfl rfl) (fun _ => mkCall_in rfl rfl)

-- archipelago/archipelagoref18.place
abbrev place18_h : Hints := { loop := fun n => match n with | 0 => loopBy 0 22 place18_i0 place18_o0 place18_s0 | _ => fun _ _ _ => none }
theorem place18_s0_ok : ∀ v, place18_s0 v = roundOf Try.prog E_right18 place18_h 1 0 22 (loopOf Try.f71 0) place18_i0 place18_o0 v := by
  rintro ⟨a0, a1, a2, a3, ⟨⟩⟩
  kernel_rfl
theorem place18_q0 : loopList (loopOf Try.f71 0) 1 = [] := by kernel_rfl
theorem place18_l0 : CodeOK Try.prog 0 (.loop (loopOf Try.f71 0)) (place18_h.loop 0) := loop_ok E_right18_ok (place18_s0_ok) (LoopsOK_of place18_q0 trivial)
theorem place18_okd : ∀ v, place18_d v = pevCall Try.prog E_right18 place18_h Try.f71 place18_i place18_o place18_r v := by
  rintro ⟨a0, a1, ⟨⟩⟩
  kernel_rfl
theorem place18_q : loopList (bodyOf Try.f71) 0 = [(0, loopOf Try.f71 0)] := by kernel_rfl
theorem place18_b : Try.f71.body.isSome = true := by kernel_rfl
theorem place18_n : (Try.f71.name == "runtime.NumGoroutine") = false := by kernel_rfl
theorem place18_ok (v : denL (leaves place18_i)) : place18 v = pevCall Try.prog E_right18 place18_h Try.f71 place18_i place18_o place18_r v := (place18_eq v).trans (place18_okd v)
theorem place18_spec : SpecOK Try.prog 71 (mkCall 2 place18_i place18_o place18_r place18) := call_spec E_right18_ok Try.func71 place18_b place18_n rfl place18_ok (LoopsOK_of place18_q ⟨place18_l0, trivial⟩)
def E_place18 : Env := E_right18.ext 71 true true (mkCall 2 place18_i place18_o place18_r place18)
theorem E_place18_ok : EnvOK Try.prog E_place18 := Env.ext_ok E_right18_ok place18_spec (fun _ => mkCall_local rfl rfl) (fun _ => mkCall_in rfl rfl)

-- archipelago/archipelagoref18.Of
abbrev of18_h : Hints := {  }
theorem of18_okd : ∀ v, of18_d v = pevCall Try.prog E_place18 of18_h Try.f41 of18_i of18_o of18_r v := by
  rintro ⟨a0, a1, ⟨⟩⟩
  kernel_rfl
theorem of18_q : loopList (bodyOf Try.f41) 0 = [] := by kernel_rfl
theorem of18_b : Try.f41.body.isSome = true := by kernel_rfl
theorem of18_n : (Try.f41.name == "runtime.NumGoroutine") = false := by kernel_rfl
theorem of18_ok (v : denL (leaves of18_i)) : of18 v = pevCall Try.prog E_place18 of18_h Try.f41 of18_i of18_o of18_r v := (of18_eq v).trans (of18_okd v)
theorem of18_spec : SpecOK Try.prog 41 (mkCall 2 of18_i of18_o of18_r of18) := call_spec E_place18_ok Try.func41 of18_b of18_n rfl of18_ok (LoopsOK_of of18_q trivial)
def E_of18 : Env := E_place18.ext 41 true true (mkCall 2 of18_i of18_o of18_r of18)
theorem E_of18_ok : EnvOK Try.prog E_of18 := Env.ext_ok E_place18_ok of18_spec (fun _ => mkCall_local rfl rfl) (fun _ => mkCall_in rfl rfl)

-- archipelago/archipelagoref18.put
abbrev put18_h : Hints := { loop := fun n => match n with | 0 => loopBy 0 38 put18_i0 put18_o0 put18_s0 | _ => fun _ _ _ => none, fp := fun n => match n with | 3 => [[], [], [], [], [], [], [], [], [], [], [], [], [0], [0], [], []] | 5 => [[], [], [], [], [3], [], [0], [5, 6], [], [], [], [9], []] | _ => [] }
theorem put18_s0_ok : ∀ v, put18_s0 v = roundOf Try.prog E_of18 put18_h 1 0 38 (loopOf Try.f74 0) put18_i0 put18_o0 v := by
  rintro ⟨a0, a1, a2, ⟨⟩⟩
  kernel_rfl
theorem put18_q0 : loopList (loopOf Try.f74 0) 1 = [] := by kernel_rfl
theorem put18_l0 : CodeOK Try.prog 0 (.loop (loopOf Try.f74 0)) (put18_h.loop 0) := loop_ok E_of18_ok (put18_s0_ok) (LoopsOK_of put18_q0 trivial)
theorem put18_okd : ∀ v, put18_d v = pevCall Try.prog E_of18 put18_h Try.f74 put18_i put18_o put18_r v := by
  rintro ⟨a0, a1, ⟨⟩⟩
  kernel_rfl
theorem put18_q : loopList (bodyOf Try.f74) 0 = [(0, loopOf Try.f74 0)] := by kernel_rfl
theorem put18_b : Try.f74.body.isSome = true := by kernel_rfl
theorem put18_n : (Try.f74.name == "runtime.NumGoroutine") = false := by kernel_rfl
theorem put18_ok (v : denL (leaves put18_i)) : put18 v = pevCall Try.prog E_of18 put18_h Try.f74 put18_i put18_o put18_r v := (put18_eq v).trans (put18_okd v)
theorem put18_spec : SpecOK Try.prog 74 (mkCall 2 put18_i put18_o put18_r put18) := call_spec E_of18_ok Try.func74 put18_b put18_n rfl put18_ok (LoopsOK_of put18_q ⟨put18_l0, trivial⟩)
def E_put18 : Env := E_of18.ext 74 true true (mkCall 2 put18_i put18_o put18_r put18)
theorem E_put18_ok : EnvOK Try.prog E_put18 := Env.ext_ok E_of18_ok put18_spec (fun _ => mkCall_local rfl rfl) (fun _ => mkCall_in rfl rfl)

-- archipelago/archipelagoref18.without
abbrev without18_h : Hints := { fp := fun n => match n with | 1 => [[], [], [], [], [1], [], [], [], [], [3], []] | _ => [] }
theorem without18_okd : ∀ v, without18_d v = pevCall Try.prog E_put18 without18_h Try.f73 without18_i without18_o without18_r v := by
  rintro ⟨a0, a1, ⟨⟩⟩
  kernel_rfl
theorem without18_q : loopList (bodyOf Try.f73) 0 = [] := by kernel_rfl
theorem without18_b : Try.f73.body.isSome = true := by kernel_rfl
theorem without18_n : (Try.f73.name == "runtime.NumGoroutine") = false := by kernel_rfl
theorem without18_ok (v : denL (leaves without18_i)) : without18 v = pevCall Try.prog E_put18 without18_h Try.f73 without18_i without18_o without18_r v := (without18_eq v).trans (without18_okd v)
theorem without18_spec : SpecOK Try.prog 73 (mkCall 2 without18_i without18_o without18_r without18) := call_spec E_put18_ok Try.func73 without18_b without18_n rfl without18_ok (LoopsOK_of without18_q trivial)
def E_without18 : Env := E_put18.ext 73 true true (mkCall 2 without18_i without18_o without18_r without18)
theorem E_without18_ok : EnvOK Try.prog E_without18 := Env.ext_ok E_put18_ok without18_spec (fun _ => mkCall_local rfl rfl) (fun _ => mkCall_in rfl rfl)

-- archipelago/archipelagoref18.Link
abbrev link18_h : Hints := { fp := fun n => match n with | 13 => [[0], [0], [], [], [], [], [102], [], [110, 100], [], [3], []] | 11 => [[], [0], [0], [], [], [], [], [87, 96], [], [60], [99, 60], []] | 7 => [[0], [], [], [0], [], [], [], []] | 5 => [[0], [], [], [0], [], [], [], []] | _ => [] }
theorem link18_okd : ∀ v, link18_d v = pevCall Try.prog E_without18 link18_h Try.f34 link18_i link18_o link18_r v := by
  rintro ⟨a0, a1, a2, ⟨⟩⟩
  kernel_rfl
theorem link18_q : loopList (bodyOf Try.f34) 0 = [] := by kernel_rfl
theorem link18_b : Try.f34.body.isSome = true := by kernel_rfl
theorem link18_n : (Try.f34.name == "runtime.NumGoroutine") = false := by kernel_rfl
theorem link18_ok (v : denL (leaves link18_i)) : link18 v = pevCall Try.prog E_without18 link18_h Try.f34 link18_i link18_o link18_r v := (link18_eq v).trans (link18_okd v)
theorem link18_spec : SpecOK Try.prog 34 (mkCall 3 link18_i link18_o link18_r link18) := call_spec E_without18_ok Try.func34 link18_b link18_n rfl link18_ok (LoopsOK_of link18_q trivial)
def E_link18 : Env := E_without18.ext 34 true true (mkCall 3 link18_i link18_o link18_r link18)
theorem E_link18_ok : EnvOK Try.prog E_link18 := Env.ext_ok E_without18_ok link18_spec (fun _ => mkCall_local rfl rfl) (fun _ => mkCall_in rfl rfl)

-- archipelago/archipelagoref18.Cut
abbrev cut18_h : Hints := { fp := fun n => match n with | 10 => [[0], [0], [0], [0], [], [], [], [], [44], [68, 44], [], [], [], [44], [76, 44], [], [3], []] | 6 => [[0], [0], [], [], [], [0], [0], [], [], [], [], [], [], [], [], []] | _ => [] }
theorem cut18_okd : ∀ v, cut18_d v = pevCall Try.prog E_link18 cut18_h Try.f36 cut18_i cut18_o cut18_r v := by
  rintro ⟨a0, a1, a2, ⟨⟩⟩
  kernel_rfl
theorem cut18_q : loopList (bodyOf Try.f36) 0 = [] := by kernel_rfl
theorem cut18_b : Try.f36.body.isSome = true := by kernel_rfl
theorem cut18_n : (Try.f36.name == "runtime.NumGoroutine") = false := by kernel_rfl
theorem cut18_ok (v : denL (leaves cut18_i)) : cut18 v = pevCall Try.prog E_link18 cut18_h Try.f36 cut18_i cut18_o cut18_r v := (cut18_eq v).trans (cut18_okd v)
theorem cut18_spec : SpecOK Try.prog 36 (mkCall 3 cut18_i cut18_o cut18_r cut18) := call_spec E_link18_ok Try.func36 cut18_b cut18_n rfl cut18_ok (LoopsOK_of cut18_q trivial)
def E_cut18 : Env := E_link18.ext 36 true true (mkCall 3 cut18_i cut18_o cut18_r cut18)
theorem E_cut18_ok : EnvOK Try.prog E_cut18 := Env.ext_ok E_link18_ok cut18_spec (fun _ => mkCall_local rfl rfl) (fun _ => mkCall_in rfl rfl)

-- archipelago/tour.sized
abbrev tsized_h : Hints := {  }
theorem tsized_okd : ∀ v, tsized_d v = pevCall Try.prog E_cut18 tsized_h Try.f77 tsized_i tsized_o tsized_r v := by
  rintro ⟨a0, ⟨⟩⟩
  kernel_rfl
theorem tsized_q : loopList (bodyOf Try.f77) 0 = [] := by kernel_rfl
theorem tsized_b : Try.f77.body.isSome = true := by kernel_rfl
theorem tsized_n : (Try.f77.name == "runtime.NumGoroutine") = false := by kernel_rfl
theorem tsized_ok (v : denL (leaves tsized_i)) : tsized v = pevCall Try.prog E_cut18 tsized_h Try.f77 tsized_i tsized_o tsized_r v := (tsized_eq v).trans (tsized_okd v)
theorem tsized_spec : SpecOK Try.prog 77 (mkCall 1 tsized_i tsized_o tsized_r tsized) := call_spec E_cut18_ok Try.func77 tsized_b tsized_n rfl tsized_ok (LoopsOK_of tsized_q trivial)
def E_tsized : Env := E_cut18.ext 77 true true (mkCall 1 tsized_i tsized_o tsized_r tsized)
theorem E_tsized_ok : EnvOK Try.prog E_tsized := Env.ext_ok E_cut18_ok tsized_spec (fun _ => mkCall_local rfl rfl) (fun _ => mkCall_in rfl rfl)

-- archipelago/tour.in
abbrev tin_h : Hints := {  }
theorem tin_okd : ∀ v, tin_d v = pevCall Try.prog E_tsized tin_h Try.f84 tin_i tin_o tin_r v := by
  rintro ⟨a0, a1, ⟨⟩⟩
  kernel_rfl
theorem tin_q : loopList (bodyOf Try.f84) 0 = [] := by kernel_rfl
theorem tin_b : Try.f84.body.isSome = true := by kernel_rfl
theorem tin_n : (Try.f84.name == "runtime.NumGoroutine") = false := by kernel_rfl
theorem tin_ok (v : denL (leaves tin_i)) : tin v = pevCall Try.prog E_tsized tin_h Try.f84 tin_i tin_o tin_r v := (tin_eq v).trans (tin_okd v)
theorem tin_spec : SpecOK Try.prog 84 (mkCall 2 tin_i tin_o tin_r tin) := call_spec E_tsized_ok Try.func84 tin_b tin_n rfl tin_ok (LoopsOK_of tin_q trivial)
def E_tin : Env := E_tsized.ext 84 true true (mkCall 2 tin_i tin_o tin_r tin)
theorem E_tin_ok : EnvOK Try.prog E_tin := Env.ext_ok E_tsized_ok tin_spec (fun _ => mkCall_local rfl rfl) (fun _ => mkCall_in rfl rfl)

end
end Go.Pev
end
section
/- The models are what the program computes. Printed by a program. -/
namespace Go.Pev
open Go.Proofs
set_option maxRecDepth 100000
noncomputable section
-- archipelago/tour.Vertex
abbrev tvertex_h : Hints := {  }
theorem tvertex_okd : ∀ v, tvertex_d v = pevCall Try.prog E_tin tvertex_h Try.f46 tvertex_i tvertex_o tvertex_r v := by
  rintro ⟨a0, a1, ⟨⟩⟩
  kernel_rfl
theorem tvertex_q : loopList (bodyOf Try.f46) 0 = [] := by kernel_rfl
theorem tvertex_b : Try.f46.body.isSome = true := by kernel_rfl
theorem tvertex_n : (Try.f46.name == "runtime.NumGoroutine") = false := by kernel_rfl
theorem tvertex_ok (v : denL (leaves tvertex_i)) : tvertex v = pevCall Try.prog E_tin tvertex_h Try.f46 tvertex_i tvertex_o tvertex_r v := (tvertex_eq v).trans (tvertex_okd v)
theorem tvertex_spec : SpecOK Try.prog 46 (mkCall 2 tvertex_i tvertex_o tvertex_r tvertex) := call_spec E_tin_ok Try.func46 tvertex_b tvertex_n rfl tvertex_ok (LoopsOK_of tvertex_q trivial)
def E_tvertex : Env := E_tin.ext 46 true true (mkCall 2 tvertex_i tvertex_o tvertex_r tvertex)
theorem E_tvertex_ok : EnvOK Try.prog E_tvertex := Env.ext_ok E_tin_ok tvertex_spec (fun _ => mkCall_local rfl rfl) (fun _ => mkCall_in rfl rfl)

-- archipelago/tour.Arc
abbrev tarc_h : Hints := {  }
theorem tarc_okd : ∀ v, tarc_d v = pevCall Try.prog E_tvertex tarc_h Try.f48 tarc_i tarc_o tarc_r v := by
  rintro ⟨a0, a1, a2, ⟨⟩⟩
  kernel_rfl
theorem tarc_q : loopList (bodyOf Try.f48) 0 = [] := by kernel_rfl
theorem tarc_b : Try.f48.body.isSome = true := by kernel_rfl
theorem tarc_n : (Try.f48.name == "runtime.NumGoroutine") = false := by kernel_rfl
theorem tarc_ok (v : denL (leaves tarc_i)) : tarc v = pevCall Try.prog E_tvertex tarc_h Try.f48 tarc_i tarc_o tarc_r v := (tarc_eq v).trans (tarc_okd v)
theorem tarc_spec : SpecOK Try.prog 48 (mkCall 3 tarc_i tarc_o tarc_r tarc) := call_spec E_tvertex_ok Try.func48 tarc_b tarc_n rfl tarc_ok (LoopsOK_of tarc_q trivial)
def E_tarc : Env := E_tvertex.ext 48 true true (mkCall 3 tarc_i tarc_o tarc_r tarc)
theorem E_tarc_ok : EnvOK Try.prog E_tarc := Env.ext_ok E_tvertex_ok tarc_spec (fun _ => mkCall_local rfl rfl) (fun _ => mkCall_in rfl rfl)

-- archipelago/tour.Token
abbrev ttoken_h : Hints := { fp := fun n => match n with | 5 => [[], [], [], [], [], [], [], [], []] | _ => [] }
theorem ttoken_okd : ∀ v, ttoken_d v = pevCall Try.prog E_tarc ttoken_h Try.f42 ttoken_i ttoken_o ttoken_r v := by
  rintro ⟨a0, a1, ⟨⟩⟩
  kernel_rfl
theorem ttoken_q : loopList (bodyOf Try.f42) 0 = [] := by kernel_rfl
theorem ttoken_b : Try.f42.body.isSome = true := by kernel_rfl
theorem ttoken_n : (Try.f42.name == "runtime.NumGoroutine") = false := by kernel_rfl
theorem ttoken_ok (v : denL (leaves ttoken_i)) : ttoken v = pevCall Try.prog E_tarc ttoken_h Try.f42 ttoken_i ttoken_o ttoken_r v := (ttoken_eq v).trans (ttoken_okd v)
theorem ttoken_spec : SpecOK Try.prog 42 (mkCall 2 ttoken_i ttoken_o ttoken_r ttoken) := call_spec E_tarc_ok Try.func42 ttoken_b ttoken_n rfl ttoken_ok (LoopsOK_of ttoken_q trivial)
def E_ttoken : Env := E_tarc.ext 42 true true (mkCall 2 ttoken_i ttoken_o ttoken_r ttoken)
theorem E_ttoken_ok : EnvOK Try.prog E_ttoken := Env.ext_ok E_tarc_ok ttoken_spec (fun _ => mkCall_local rfl rfl) (fun _ => mkCall_in rfl rfl)

-- archipelago/tour.Make
abbrev tmake_h : Hints := { loop := fun n => match n with | 0 => loopBy 0 25 tmake_i0 tmake_o0 tmake_s0 | _ => fun _ _ _ => none }
theorem tmake_s0_ok : ∀ v, tmake_s0 v = roundOf Try.prog E_ttoken tmake_h 1 0 25 (loopOf Try.f44 0) tmake_i0 tmake_o0 v := by
  rintro ⟨a0, a1, a2, a3, a4, ⟨⟩⟩
  kernel_rfl
theorem tmake_q0 : loopList (loopOf Try.f44 0) 1 = [] := by kernel_rfl
theorem tmake_l0 : CodeOK Try.prog 0 (.loop (loopOf Try.f44 0)) (tmake_h.loop 0) := loop_ok E_ttoken_ok (tmake_s0_ok) (LoopsOK_of tmake_q0 trivial)
theorem tmake_okd : ∀ v, tmake_d v = pevCall Try.prog E_ttoken tmake_h Try.f44 tmake_i tmake_o tmake_r v := by
  rintro ⟨a0, ⟨⟩⟩
  kernel_rfl
theorem tmake_q : loopList (bodyOf Try.f44) 0 = [(0, loopOf Try.f44 0)] := by kernel_rfl
theorem tmake_b : Try.f44.body.isSome = true := by kernel_rfl
theorem tmake_n : (Try.f44.name == "runtime.NumGoroutine") = false := by kernel_rfl
theorem tmake_ok (v : denL (leaves tmake_i)) : tmake v = pevCall Try.prog E_ttoken tmake_h Try.f44 tmake_i tmake_o tmake_r v := (tmake_eq v).trans (tmake_okd v)
theorem tmake_spec : SpecOK Try.prog 44 (mkCall 1 tmake_i tmake_o tmake_r tmake) := call_spec E_ttoken_ok Try.func44 tmake_b tmake_n rfl tmake_ok (LoopsOK_of tmake_q ⟨tmake_l0, trivial⟩)
def E_tmake : Env := E_ttoken.ext 44 true true (mkCall 1 tmake_i tmake_o tmake_r tmake)
theorem E_tmake_ok : EnvOK Try.prog E_tmake := Env.ext_ok E_ttoken_ok tmake_spec (fun _ => mkCall_local rfl rfl) (fun _ => mkCall_in rfl rfl)

-- slices.Index[[]int,int]
abbrev indexI_h : Hints := { loop := fun n => match n with | 0 => loopBy 0 19 indexI_i0 indexI_o0 indexI_s0 | _ => fun _ _ _ => none }
theorem indexI_s0_ok : ∀ v, indexI_s0 v = roundOf Try.prog E_tmake indexI_h 1 0 19 (loopOf Try.f75 0) indexI_i0 indexI_o0 v := by
  rintro ⟨a0, a1, a2, a3, ⟨⟩⟩
  kernel_rfl
theorem indexI_q0 : loopList (loopOf Try.f75 0) 1 = [] := by kernel_rfl
theorem indexI_l0 : CodeOK Try.prog 0 (.loop (loopOf Try.f75 0)) (indexI_h.loop 0) := loop_ok E_tmake_ok (indexI_s0_ok) (LoopsOK_of indexI_q0 trivial)
theorem indexI_okd : ∀ v, indexI_d v = pevCall Try.prog E_tmake indexI_h Try.f75 indexI_i indexI_o indexI_r v := by
  rintro ⟨a0, a1, ⟨⟩⟩
  kernel_rfl
theorem indexI_q : loopList (bodyOf Try.f75) 0 = [(0, loopOf Try.f75 0)] := by kernel_rfl
theorem indexI_b : Try.f75.body.isSome = true := by kernel_rfl
theorem indexI_n : (Try.f75.name == "runtime.NumGoroutine") = false := by kernel_rfl
theorem indexI_ok (v : denL (leaves indexI_i)) : indexI v = pevCall Try.prog E_tmake indexI_h Try.f75 indexI_i indexI_o indexI_r v := (indexI_eq v).trans (indexI_okd v)
theorem indexI_spec : SpecOK Try.prog 75 (mkCall 2 indexI_i indexI_o indexI_r indexI) := call_spec E_tmake_ok Try.func75 indexI_b indexI_n rfl indexI_ok (LoopsOK_of indexI_q ⟨indexI_l0, trivial⟩)
def E_indexI : Env := E_tmake.ext 75 true true (mkCall 2 indexI_i indexI_o indexI_r indexI)
theorem E_indexI_ok : EnvOK Try.prog E_indexI := Env.ext_ok E_tmake_ok indexI_spec (fun _ => mkCall_local rfl rfl) (fun _ => mkCall_in rfl rfl)

-- slices.Contains[[]int,int]
abbrev containsI_h : Hints := {  }
theorem containsI_okd : ∀ v, containsI_d v = pevCall Try.prog E_indexI containsI_h Try.f93 containsI_i containsI_o containsI_r v := by
  rintro ⟨a0, a1, ⟨⟩⟩
  kernel_rfl
theorem containsI_q : loopList (bodyOf Try.f93) 0 = [] := by kernel_rfl
theorem containsI_b : Try.f93.body.isSome = true := by kernel_rfl
theorem containsI_n : (Try.f93.name == "runtime.NumGoroutine") = false := by kernel_rfl
theorem containsI_ok (v : denL (leaves containsI_i)) : containsI v = pevCall Try.prog E_indexI containsI_h Try.f93 containsI_i containsI_o containsI_r v := (containsI_eq v).trans (containsI_okd v)
theorem containsI_spec : SpecOK Try.prog 93 (mkCall 2 containsI_i containsI_o containsI_r containsI) := call_spec E_indexI_ok Try.func93 containsI_b containsI_n rfl containsI_ok (LoopsOK_of containsI_q trivial)
def E_containsI : Env := E_indexI.ext 93 true true (mkCall 2 containsI_i containsI_o containsI_r containsI)
theorem E_containsI_ok : EnvOK Try.prog E_containsI := Env.ext_ok E_indexI_ok containsI_spec (fun _ => mkCall_local rfl rfl) (fun _ => mkCall_in rfl rfl)

-- slices.Min[[]int,int]
abbrev minI_h : Hints := { loop := fun n => match n with | 0 => loopBy 0 25 minI_i0 minI_o0 minI_s0 | _ => fun _ _ _ => none }
theorem minI_s0_ok : ∀ v, minI_s0 v = roundOf Try.prog E_containsI minI_h 1 0 25 (loopOf Try.f79 0) minI_i0 minI_o0 v := by
  rintro ⟨a0, a1, a2, ⟨⟩⟩
  kernel_rfl
theorem minI_q0 : loopList (loopOf Try.f79 0) 1 = [] := by kernel_rfl
theorem minI_l0 : CodeOK Try.prog 0 (.loop (loopOf Try.f79 0)) (minI_h.loop 0) := loop_ok E_containsI_ok (minI_s0_ok) (LoopsOK_of minI_q0 trivial)
theorem minI_okd : ∀ v, minI_d v = pevCall Try.prog E_containsI minI_h Try.f79 minI_i minI_o minI_r v := by
  rintro ⟨a0, ⟨⟩⟩
  kernel_rfl
theorem minI_q : loopList (bodyOf Try.f79) 0 = [(0, loopOf Try.f79 0)] := by kernel_rfl
theorem minI_b : Try.f79.body.isSome = true := by kernel_rfl
theorem minI_n : (Try.f79.name == "runtime.NumGoroutine") = false := by kernel_rfl
theorem minI_ok (v : denL (leaves minI_i)) : minI v = pevCall Try.prog E_containsI minI_h Try.f79 minI_i minI_o minI_r v := (minI_eq v).trans (minI_okd v)
theorem minI_spec : SpecOK Try.prog 79 (mkCall 1 minI_i minI_o minI_r minI) := call_spec E_containsI_ok Try.func79 minI_b minI_n rfl minI_ok (LoopsOK_of minI_q ⟨minI_l0, trivial⟩)
def E_minI : Env := E_containsI.ext 79 true true (mkCall 1 minI_i minI_o minI_r minI)
theorem E_minI_ok : EnvOK Try.prog E_minI := Env.ext_ok E_containsI_ok minI_spec (fun _ => mkCall_local rfl rfl) (fun _ => mkCall_in rfl rfl)

-- slices.Grow[[]int,int]
abbrev growI_h : Hints := {  }
theorem growI_okd : ∀ v, growI_d v = pevCall Try.prog E_minI growI_h Try.f96 growI_i growI_o growI_r v := by
  rintro ⟨a0, ⟨⟩⟩
  kernel_rfl
theorem growI_q : loopList (bodyOf Try.f96) 0 = [] := by kernel_rfl
theorem growI_b : Try.f96.body.isSome = true := by kernel_rfl
theorem growI_n : (Try.f96.name == "runtime.NumGoroutine") = false := by kernel_rfl
theorem growI_ok (v : denL (leaves growI_i)) : growI v = pevCall Try.prog E_minI growI_h Try.f96 growI_i growI_o growI_r v := (growI_eq v).trans (growI_okd v)
theorem growI_spec : SpecOK Try.prog 96 (mkCall 2 growI_i growI_o growI_r growI) := call_spec E_minI_ok Try.func96 growI_b growI_n rfl growI_ok (LoopsOK_of growI_q trivial)
def E_growI : Env := E_minI.ext 96 false true (mkCall 2 growI_i growI_o growI_r growI)
theorem E_growI_ok : EnvOK Try.prog E_growI := Env.ext_ok E_minI_ok growI_spec ((by simp)) (fun _ => mkCall_in rfl rfl)

-- slices.Concat[[]int,int]
abbrev concatI_h : Hints := { loop := fun n => match n with | 0 => loopBy 0 36 concatI_i0 concatI_o0 concatI_s0 | 1 => loopBy 0 36 concatI_i1 concatI_o1 concatI_s1 | _ => fun _ _ _ => none }
theorem concatI_s1_ok : ∀ v, concatI_s1 v = roundOf Try.prog E_growI concatI_h 2 0 36 (loopOf Try.f68 1) concatI_i1 concatI_o1 v := by
  rintro ⟨a0, a1, a2, a3, ⟨⟩⟩
  kernel_rfl
theorem concatI_q1 : loopList (loopOf Try.f68 1) 2 = [] := by kernel_rfl
theorem concatI_l1 : CodeOK Try.prog 0 (.loop (loopOf Try.f68 1)) (concatI_h.loop 1) := loop_ok E_growI_ok (concatI_s1_ok) (LoopsOK_of concatI_q1 trivial)
theorem concatI_s0_ok : ∀ v, concatI_s0 v = roundOf Try.prog E_growI concatI_h 1 0 36 (loopOf Try.f68 0) concatI_i0 concatI_o0 v := by
  rintro ⟨a0, a1, a2, a3, a4, ⟨⟩⟩
  kernel_rfl
theorem concatI_q0 : loopList (loopOf Try.f68 0) 1 = [] := by kernel_rfl
theorem concatI_l0 : CodeOK Try.prog 0 (.loop (loopOf Try.f68 0)) (concatI_h.loop 0) := loop_ok E_growI_ok (concatI_s0_ok) (LoopsOK_of concatI_q0 trivial)
theorem concatI_okd : ∀ v, concatI_d v = pevCall Try.prog E_growI concatI_h Try.f68 concatI_i concatI_o concatI_r v := by
  rintro ⟨a0, ⟨⟩⟩
  kernel_rfl
theorem concatI_q : loopList (bodyOf Try.f68) 0 = [(0, loopOf Try.f68 0), (1, loopOf Try.f68 1)] := by kernel_rfl
theorem concatI_b : Try.f68.body.isSome = true := by kernel_rfl
theorem concatI_n : (Try.f68.name == "runtime.NumGoroutine") = false := by kernel_rfl
theorem concatI_ok (v : denL (leaves concatI_i)) : concatI v = pevCall Try.prog E_growI concatI_h Try.f68 concatI_i concatI_o concatI_r v := (concatI_eq v).trans (concatI_okd v)
theorem concatI_spec : SpecOK Try.prog 68 (mkCall 1 concatI_i concatI_o concatI_r concatI) := call_spec E_growI_ok Try.func68 concatI_b concatI_n rfl concatI_ok (LoopsOK_of concatI_q ⟨concatI_l0, concatI_l1, trivial⟩)
def E_concatI : Env := E_growI.ext 68 true true (mkCall 1 concatI_i concatI_o concatI_r concatI)
theorem E_concatI_ok : EnvOK Try.prog E_concatI := Env.ext_ok E_growI_ok concatI_spec (fun _ => mkCall_local rfl rfl) (fun _ => mkCall_in rfl rfl)

-- archipelago/ring.Right$1: gone through in place
theorem ringOdd_b : Try.f101.body.isSome = true := by kernel_rfl
theorem ringOdd_n : (Try.f101.name == "runtime.NumGoroutine") = false := by kernel_rfl
theorem ringOdd_z : loops (bodyOf Try.f101) = 0 := by kernel_rfl

def E_ringOdd_1 : Env := E_concatI.ext 101 false false (mkInline Try.prog E_concatI {} Try.f101)
theorem E_ringOdd_1_ok : EnvOK Try.prog E_ringOdd_1 := Env.ext_ok E_concatI_ok (inline_spec E_concatI_ok Try.func101 ringOdd_b ringOdd_n ringOdd_z) (by simp) (by simp)

-- slices.IndexFunc[[]int,int]
abbrev idxFuncI_odd_h : Hints := { loop := fun n => match n with | 0 => loopBy 0 19 idxFuncI_odd_i0 idxFuncI_odd_o0 idxFuncI_odd_s0 | _ => fun _ _ _ => none }
theorem idxFuncI_odd_s0_ok : ∀ v, idxFuncI_odd_s0 v = roundOf Try.prog E_ringOdd_1 idxFuncI_odd_h 1 0 19 (loopOf Try.f110 0) idxFuncI_odd_i0 idxFuncI_odd_o0 v := by
  rintro ⟨a0, a1, a2, ⟨⟩⟩
  kernel_rfl
theorem idxFuncI_odd_q0 : loopList (loopOf Try.f110 0) 1 = [] := by kernel_rfl
theorem idxFuncI_odd_l0 : CodeOK Try.prog 0 (.loop (loopOf Try.f110 0)) (idxFuncI_odd_h.loop 0) := loop_ok E_ringOdd_1_ok (idxFuncI_odd_s0_ok) (LoopsOK_of idxFuncI_odd_q0 trivial)
theorem idxFuncI_odd_okd : ∀ v, idxFuncI_odd_d v = pevCall Try.prog E_ringOdd_1 idxFuncI_odd_h Try.f110 idxFuncI_odd_i idxFuncI_odd_o idxFuncI_odd_r v := by
  rintro ⟨a0, ⟨⟩⟩
  kernel_rfl
theorem idxFuncI_odd_q : loopList (bodyOf Try.f110) 0 = [(0, loopOf Try.f110 0)] := by kernel_rfl
theorem idxFuncI_odd_b : Try.f110.body.isSome = true := by kernel_rfl
theorem idxFuncI_odd_n : (Try.f110.name == "runtime.NumGoroutine") = false := by kernel_rfl
theorem idxFuncI_odd_ok (v : denL (leaves idxFuncI_odd_i)) : idxFuncI_odd v = pevCall Try.prog E_ringOdd_1 idxFuncI_odd_h Try.f110 idxFuncI_odd_i idxFuncI_odd_o idxFuncI_odd_r v := (idxFuncI_odd_eq v).trans (idxFuncI_odd_okd v)
theorem idxFuncI_odd_spec : SpecOK Try.prog 110 (mkCall 2 idxFuncI_odd_i idxFuncI_odd_o idxFuncI_odd_r idxFuncI_odd) := call_spec E_ringOdd_1_ok Try.func110 idxFuncI_odd_b idxFuncI_odd_n rfl idxFuncI_odd_ok (LoopsOK_of idxFuncI_odd_q ⟨idxFuncI_odd_l0, trivial⟩)
def E_idxFuncI_odd : Env := E_ringOdd_1.extC 110 1 101 (mkCall 2 idxFuncI_odd_i idxFuncI_odd_o idxFuncI_odd_r idxFuncI_odd)
theorem E_idxFuncI_odd_ok : EnvOK Try.prog E_idxFuncI_odd := Env.extC_ok E_ringOdd_1_ok idxFuncI_odd_spec (mkCall_in rfl rfl)

-- slices.ContainsFunc[[]int,int]
abbrev contFuncI_odd_h : Hints := {  }
theorem contFuncI_odd_okd : ∀ v, contFuncI_odd_d v = pevCall Try.prog E_idxFuncI_odd contFuncI_odd_h Try.f102 contFuncI_odd_i contFuncI_odd_o contFuncI_odd_r v := by
  rintro ⟨a0, ⟨⟩⟩
  kernel_rfl
theorem contFuncI_odd_q : loopList (bodyOf Try.f102) 0 = [] := by kernel_rfl
theorem contFuncI_odd_b : Try.f102.body.isSome = true := by kernel_rfl
theorem contFuncI_odd_n : (Try.f102.name == "runtime.NumGoroutine") = false := by kernel_rfl
theorem contFuncI_odd_ok (v : denL (leaves contFuncI_odd_i)) : contFuncI_odd v = pevCall Try.prog E_idxFuncI_odd contFuncI_odd_h Try.f102 contFuncI_odd_i contFuncI_odd_o contFuncI_odd_r v := (contFuncI_odd_eq v).trans (contFuncI_odd_okd v)
theorem contFuncI_odd_spec : SpecOK Try.prog 102 (mkCall 2 contFuncI_odd_i contFuncI_odd_o contFuncI_odd_r contFuncI_odd) := call_spec E_idxFuncI_odd_ok Try.func102 contFuncI_odd_b contFuncI_odd_n rfl contFuncI_odd_ok (LoopsOK_of contFuncI_odd_q trivial)
def E_contFuncI_odd : Env := E_idxFuncI_odd.extC 102 1 101 (mkCall 2 contFuncI_odd_i contFuncI_odd_o contFuncI_odd_r contFuncI_odd)
theorem E_contFuncI_odd_ok : EnvOK Try.prog E_contFuncI_odd := Env.extC_ok E_idxFuncI_odd_ok contFuncI_odd_spec (mkCall_in rfl rfl)

end
end Go.Pev
end
section
/- The models are what the program computes. Printed by a program. -/
namespace Go.Pev
open Go.Proofs
set_option maxRecDepth 100000
noncomputable section
-- archipelago/ring.once[int]
abbrev once_h : Hints := { loop := fun n => match n with | 0 => loopBy 0 23 once_i0 once_o0 once_s0 | _ => fun _ _ _ => none }
theorem once_s0_ok : ∀ v, once_s0 v = roundOf Try.prog E_contFuncI_odd once_h 1 0 23 (loopOf Try.f103 0) once_i0 once_o0 v := by
  rintro ⟨a0, a1, a2, a3, a4, ⟨⟩⟩
  kernel_rfl
theorem once_q0 : loopList (loopOf Try.f103 0) 1 = [] := by kernel_rfl
theorem once_l0 : CodeOK Try.prog 0 (.loop (loopOf Try.f103 0)) (once_h.loop 0) := loop_ok E_contFuncI_odd_ok (once_s0_ok) (LoopsOK_of once_q0 trivial)
theorem once_okd : ∀ v, once_d v = pevCall Try.prog E_contFuncI_odd once_h Try.f103 once_i once_o once_r v := by
  rintro ⟨a0, ⟨⟩⟩
  kernel_rfl
theorem once_q : loopList (bodyOf Try.f103) 0 = [(0, loopOf Try.f103 0)] := by kernel_rfl
theorem once_b : Try.f103.body.isSome = true := by kernel_rfl
theorem once_n : (Try.f103.name == "runtime.NumGoroutine") = false := by kernel_rfl
theorem once_ok (v : denL (leaves once_i)) : once v = pevCall Try.prog E_contFuncI_odd once_h Try.f103 once_i once_o once_r v := (once_eq v).trans (once_okd v)
theorem once_spec : SpecOK Try.prog 103 (mkCall 1 once_i once_o once_r once) := call_spec E_contFuncI_odd_ok Try.func103 once_b once_n rfl once_ok (LoopsOK_of once_q ⟨once_l0, trivial⟩)
def E_once : Env := E_contFuncI_odd.ext 103 true true (mkCall 1 once_i once_o once_r once)
theorem E_once_ok : EnvOK Try.prog E_once := Env.ext_ok E_contFuncI_odd_ok once_spec (fun _ => mkCall_local rfl rfl) (fun _ => mkCall_in rfl rfl)

-- archipelago/ring.Right
abbrev rright_h : Hints := {  }
theorem rright_okd : ∀ v, rright_d v = pevCall Try.prog E_once rright_h Try.f78 rright_i rright_o rright_r v := by
  rintro ⟨a0, ⟨⟩⟩
  kernel_rfl
theorem rright_q : loopList (bodyOf Try.f78) 0 = [] := by kernel_rfl
theorem rright_b : Try.f78.body.isSome = true := by kernel_rfl
theorem rright_n : (Try.f78.name == "runtime.NumGoroutine") = false := by kernel_rfl
theorem rright_ok (v : denL (leaves rright_i)) : rright v = pevCall Try.prog E_once rright_h Try.f78 rright_i rright_o rright_r v := (rright_eq v).trans (rright_okd v)
theorem rright_spec : SpecOK Try.prog 78 (mkCall 1 rright_i rright_o rright_r rright) := call_spec E_once_ok Try.func78 rright_b rright_n rfl rright_ok (LoopsOK_of rright_q trivial)
def E_rright : Env := E_once.ext 78 true true (mkCall 1 rright_i rright_o rright_r rright)
theorem E_rright_ok : EnvOK Try.prog E_rright := Env.ext_ok E_once_ok rright_spec (fun _ => mkCall_local rfl rfl) (fun _ => mkCall_in rfl rfl)

-- archipelago/ring.turned
abbrev turned_h : Hints := { fp := fun n => match n with | 1 => [[], [], [], [], [], [], [], [0], []] | _ => [] }
theorem turned_okd : ∀ v, turned_d v = pevCall Try.prog E_rright turned_h Try.f95 turned_i turned_o turned_r v := by
  rintro ⟨a0, a1, ⟨⟩⟩
  kernel_rfl
theorem turned_q : loopList (bodyOf Try.f95) 0 = [] := by kernel_rfl
theorem turned_b : Try.f95.body.isSome = true := by kernel_rfl
theorem turned_n : (Try.f95.name == "runtime.NumGoroutine") = false := by kernel_rfl
theorem turned_ok (v : denL (leaves turned_i)) : turned v = pevCall Try.prog E_rright turned_h Try.f95 turned_i turned_o turned_r v := (turned_eq v).trans (turned_okd v)
theorem turned_spec : SpecOK Try.prog 95 (mkCall 2 turned_i turned_o turned_r turned) := call_spec E_rright_ok Try.func95 turned_b turned_n rfl turned_ok (LoopsOK_of turned_q trivial)
def E_turned : Env := E_rright.ext 95 true true (mkCall 2 turned_i turned_o turned_r turned)
theorem E_turned_ok : EnvOK Try.prog E_turned := Env.ext_ok E_rright_ok turned_spec (fun _ => mkCall_local rfl rfl) (fun _ => mkCall_in rfl rfl)

-- archipelago/ring.places
abbrev places_h : Hints := { loop := fun n => match n with | 0 => loopBy 0 29 places_i0 places_o0 places_s0 | _ => fun _ _ _ => none }
theorem places_s0_ok : ∀ v, places_s0 v = roundOf Try.prog E_turned places_h 1 0 29 (loopOf Try.f94 0) places_i0 places_o0 v := by
  rintro ⟨a0, a1, a2, a3, a4, ⟨⟩⟩
  kernel_rfl
theorem places_q0 : loopList (loopOf Try.f94 0) 1 = [] := by kernel_rfl
theorem places_l0 : CodeOK Try.prog 0 (.loop (loopOf Try.f94 0)) (places_h.loop 0) := loop_ok E_turned_ok (places_s0_ok) (LoopsOK_of places_q0 trivial)
theorem places_okd : ∀ v, places_d v = pevCall Try.prog E_turned places_h Try.f94 places_i places_o places_r v := by
  rintro ⟨a0, a1, ⟨⟩⟩
  kernel_rfl
theorem places_q : loopList (bodyOf Try.f94) 0 = [(0, loopOf Try.f94 0)] := by kernel_rfl
theorem places_b : Try.f94.body.isSome = true := by kernel_rfl
theorem places_n : (Try.f94.name == "runtime.NumGoroutine") = false := by kernel_rfl
theorem places_ok (v : denL (leaves places_i)) : places v = pevCall Try.prog E_turned places_h Try.f94 places_i places_o places_r v := (places_eq v).trans (places_okd v)
theorem places_spec : SpecOK Try.prog 94 (mkCall 2 places_i places_o places_r places) := call_spec E_turned_ok Try.func94 places_b places_n rfl places_ok (LoopsOK_of places_q ⟨places_l0, trivial⟩)
def E_places : Env := E_turned.ext 94 true true (mkCall 2 places_i places_o places_r places)
theorem E_places_ok : EnvOK Try.prog E_places := Env.ext_ok E_turned_ok places_spec (fun _ => mkCall_local rfl rfl) (fun _ => mkCall_in rfl rfl)

-- archipelago/ring.From
abbrev rfrom_h : Hints := {  }
theorem rfrom_okd : ∀ v, rfrom_d v = pevCall Try.prog E_places rfrom_h Try.f67 rfrom_i rfrom_o rfrom_r v := by
  rintro ⟨a0, a1, ⟨⟩⟩
  kernel_rfl
theorem rfrom_q : loopList (bodyOf Try.f67) 0 = [] := by kernel_rfl
theorem rfrom_b : Try.f67.body.isSome = true := by kernel_rfl
theorem rfrom_n : (Try.f67.name == "runtime.NumGoroutine") = false := by kernel_rfl
theorem rfrom_ok (v : denL (leaves rfrom_i)) : rfrom v = pevCall Try.prog E_places rfrom_h Try.f67 rfrom_i rfrom_o rfrom_r v := (rfrom_eq v).trans (rfrom_okd v)
theorem rfrom_spec : SpecOK Try.prog 67 (mkCall 2 rfrom_i rfrom_o rfrom_r rfrom) := call_spec E_places_ok Try.func67 rfrom_b rfrom_n rfl rfrom_ok (LoopsOK_of rfrom_q trivial)
def E_rfrom : Env := E_places.ext 67 true true (mkCall 2 rfrom_i rfrom_o rfrom_r rfrom)
theorem E_rfrom_ok : EnvOK Try.prog E_rfrom := Env.ext_ok E_places_ok rfrom_spec (fun _ => mkCall_local rfl rfl) (fun _ => mkCall_in rfl rfl)

-- archipelago/ring.Plain
abbrev rplain_h : Hints := {  }
theorem rplain_okd : ∀ v, rplain_d v = pevCall Try.prog E_rfrom rplain_h Try.f97 rplain_i rplain_o rplain_r v := by
  rintro ⟨a0, ⟨⟩⟩
  kernel_rfl
theorem rplain_q : loopList (bodyOf Try.f97) 0 = [] := by kernel_rfl
theorem rplain_b : Try.f97.body.isSome = true := by kernel_rfl
theorem rplain_n : (Try.f97.name == "runtime.NumGoroutine") = false := by kernel_rfl
theorem rplain_ok (v : denL (leaves rplain_i)) : rplain v = pevCall Try.prog E_rfrom rplain_h Try.f97 rplain_i rplain_o rplain_r v := (rplain_eq v).trans (rplain_okd v)
theorem rplain_spec : SpecOK Try.prog 97 (mkCall 1 rplain_i rplain_o rplain_r rplain) := call_spec E_rfrom_ok Try.func97 rplain_b rplain_n rfl rplain_ok (LoopsOK_of rplain_q trivial)
def E_rplain : Env := E_rfrom.ext 97 true true (mkCall 1 rplain_i rplain_o rplain_r rplain)
theorem E_rplain_ok : EnvOK Try.prog E_rplain := Env.ext_ok E_rfrom_ok rplain_spec (fun _ => mkCall_local rfl rfl) (fun _ => mkCall_in rfl rfl)

-- archipelago/tour.place$1: gone through in place
theorem tplace1_b : Try.f92.body.isSome = true := by kernel_rfl
theorem tplace1_n : (Try.f92.name == "runtime.NumGoroutine") = false := by kernel_rfl
theorem tplace1_z : loops (bodyOf Try.f92) = 0 := by kernel_rfl

def E_tplace1_2 : Env := E_rplain.ext 92 false false (mkInline Try.prog E_rplain {} Try.f92)
theorem E_tplace1_2_ok : EnvOK Try.prog E_tplace1_2 := Env.ext_ok E_rplain_ok (inline_spec E_rplain_ok Try.func92 tplace1_b tplace1_n tplace1_z) (by simp) (by simp)

-- slices.IndexFunc[[][]int,[]int]
abbrev idxFuncL_place_h : Hints := { loop := fun n => match n with | 0 => loopBy 1 19 idxFuncL_place_i0 idxFuncL_place_o0 idxFuncL_place_s0 | _ => fun _ _ _ => none }
theorem idxFuncL_place_s0_ok : ∀ v, idxFuncL_place_s0 v = roundOf Try.prog E_tplace1_2 idxFuncL_place_h 1 1 19 (loopOf Try.f91 0) idxFuncL_place_i0 idxFuncL_place_o0 v := by
  rintro ⟨a0, a1, a2, a3, ⟨⟩⟩
  kernel_rfl
theorem idxFuncL_place_q0 : loopList (loopOf Try.f91 0) 1 = [] := by kernel_rfl
theorem idxFuncL_place_l0 : CodeOK Try.prog 1 (.loop (loopOf Try.f91 0)) (idxFuncL_place_h.loop 0) := loop_ok E_tplace1_2_ok (idxFuncL_place_s0_ok) (LoopsOK_of idxFuncL_place_q0 trivial)
theorem idxFuncL_place_okd : ∀ v, idxFuncL_place_d v = pevCall Try.prog E_tplace1_2 idxFuncL_place_h Try.f91 idxFuncL_place_i idxFuncL_place_o idxFuncL_place_r v := by
  rintro ⟨a0, a1, ⟨⟩⟩
  kernel_rfl
theorem idxFuncL_place_q : loopList (bodyOf Try.f91) 0 = [(0, loopOf Try.f91 0)] := by kernel_rfl
theorem idxFuncL_place_b : Try.f91.body.isSome = true := by kernel_rfl
theorem idxFuncL_place_n : (Try.f91.name == "runtime.NumGoroutine") = false := by kernel_rfl
theorem idxFuncL_place_ok (v : denL (leaves idxFuncL_place_i)) : idxFuncL_place v = pevCall Try.prog E_tplace1_2 idxFuncL_place_h Try.f91 idxFuncL_place_i idxFuncL_place_o idxFuncL_place_r v := (idxFuncL_place_eq v).trans (idxFuncL_place_okd v)
theorem idxFuncL_place_spec : SpecOK Try.prog 91 (mkCall 2 idxFuncL_place_i idxFuncL_place_o idxFuncL_place_r idxFuncL_place) := call_spec E_tplace1_2_ok Try.func91 idxFuncL_place_b idxFuncL_place_n rfl idxFuncL_place_ok (LoopsOK_of idxFuncL_place_q ⟨idxFuncL_place_l0, trivial⟩)
def E_idxFuncL_place : Env := E_tplace1_2.extC 91 1 92 (mkCall 2 idxFuncL_place_i idxFuncL_place_o idxFuncL_place_r idxFuncL_place)
theorem E_idxFuncL_place_ok : EnvOK Try.prog E_idxFuncL_place := Env.extC_ok E_tplace1_2_ok idxFuncL_place_spec (mkCall_in rfl rfl)

-- archipelago/tour.place
abbrev tplace_h : Hints := {  }
theorem tplace_okd : ∀ v, tplace_d v = pevCall Try.prog E_idxFuncL_place tplace_h Try.f66 tplace_i tplace_o tplace_r v := by
  rintro ⟨a0, a1, ⟨⟩⟩
  kernel_rfl
theorem tplace_q : loopList (bodyOf Try.f66) 0 = [] := by kernel_rfl
theorem tplace_b : Try.f66.body.isSome = true := by kernel_rfl
theorem tplace_n : (Try.f66.name == "runtime.NumGoroutine") = false := by kernel_rfl
theorem tplace_ok (v : denL (leaves tplace_i)) : tplace v = pevCall Try.prog E_idxFuncL_place tplace_h Try.f66 tplace_i tplace_o tplace_r v := (tplace_eq v).trans (tplace_okd v)
theorem tplace_spec : SpecOK Try.prog 66 (mkCall 2 tplace_i tplace_o tplace_r tplace) := call_spec E_idxFuncL_place_ok Try.func66 tplace_b tplace_n rfl tplace_ok (LoopsOK_of tplace_q trivial)
def E_tplace : Env := E_idxFuncL_place.ext 66 true true (mkCall 2 tplace_i tplace_o tplace_r tplace)
theorem E_tplace_ok : EnvOK Try.prog E_tplace := Env.ext_ok E_idxFuncL_place_ok tplace_spec (fun _ => mkCall_local rfl rfl) (fun _ => mkCall_in rfl rfl)

-- (*archipelago/tour.walk).along: gone through in place
theorem along_b : Try.f104.body.isSome = true := by kernel_rfl
theorem along_n : (Try.f104.name == "runtime.NumGoroutine") = false := by kernel_rfl
theorem along_z : loops (bodyOf Try.f104) = 0 := by kernel_rfl

def E_along_3 : Env := E_tplace.ext 104 false false (mkInline Try.prog E_tplace {} Try.f104)
theorem E_along_3_ok : EnvOK Try.prog E_along_3 := Env.ext_ok E_tplace_ok (inline_spec E_tplace_ok Try.func104 along_b along_n along_z) (by simp) (by simp)

-- archipelago/tour.goes
abbrev goes_h : Hints := { loop := fun n => match n with | 0 => loopBy 0 107 goes_i0 goes_o0 goes_s0 | _ => fun _ _ _ => none, fp := fun n => match n with | 8 => [[], [], [], [], [], [], [], [], [1000003], [], [], [], [], [], [], [], [], [0], [0], [0], [], [0], [0], [0], [2, 26], [], [2, 26], [2, 26], [], [], [], [], []] | 13 => [[], [0], [0], [0], [2], [], [], [], [0], [0], [0], [6], [], [0], [0], [0], [4], [], [], []] | 3 => [[], [], [], [], [], [], [], [], [11], [], [], [], [8, 10, 12], []] | _ => [] }
theorem goes_s0_ok : ∀ v, goes_s0 v = roundOf Try.prog E_along_3 goes_h 1 0 107 (loopOf Try.f80 0) goes_i0 goes_o0 v := by
  rintro ⟨a0, a1, a2, a3, a4, a5, a6, ⟨⟩⟩
  kernel_rfl
theorem goes_q0 : loopList (loopOf Try.f80 0) 1 = [] := by kernel_rfl
theorem goes_l0 : CodeOK Try.prog 0 (.loop (loopOf Try.f80 0)) (goes_h.loop 0) := loop_ok E_along_3_ok (goes_s0_ok) (LoopsOK_of goes_q0 trivial)
theorem goes_okd : ∀ v, goes_d v = pevCall Try.prog E_along_3 goes_h Try.f80 goes_i goes_o goes_r v := by
  rintro ⟨a0, a1, ⟨⟩⟩
  kernel_rfl
theorem goes_q : loopList (bodyOf Try.f80) 0 = [(0, loopOf Try.f80 0)] := by kernel_rfl
theorem goes_b : Try.f80.body.isSome = true := by kernel_rfl
theorem goes_n : (Try.f80.name == "runtime.NumGoroutine") = false := by kernel_rfl
theorem goes_ok (v : denL (leaves goes_i)) : goes v = pevCall Try.prog E_along_3 goes_h Try.f80 goes_i goes_o goes_r v := (goes_eq v).trans (goes_okd v)
theorem goes_spec : SpecOK Try.prog 80 (mkCall 2 goes_i goes_o goes_r goes) := call_spec E_along_3_ok Try.func80 goes_b goes_n rfl goes_ok (LoopsOK_of goes_q ⟨goes_l0, trivial⟩)
def E_goes : Env := E_along_3.ext 80 true true (mkCall 2 goes_i goes_o goes_r goes)
theorem E_goes_ok : EnvOK Try.prog E_goes := Env.ext_ok E_along_3_ok goes_spec (fun _ => mkCall_local rfl rfl) (fun _ => mkCall_in rfl rfl)

-- archipelago/tour.Right
abbrev tright_h : Hints := { loop := fun n => match n with | 0 => loopBy 0 87 tright_i0 tright_o0 tright_s0 | 1 => loopBy 0 87 tright_i1 tright_o1 tright_s1 | 2 => loopBy 0 87 tright_i2 tright_o2 tright_s2 | _ => fun _ _ _ => none, fp := fun n => match n with | 8 => [[], [], [], [], [], [], [], [], [], [], [], [], [], [], [], [], [], [], [], [], [], [], [], [], [0], [0], [], [], [], []] | _ => [] }
theorem tright_s2_ok : ∀ v, tright_s2 v = roundOf Try.prog E_goes tright_h 3 0 87 (loopOf Try.f38 2) tright_i2 tright_o2 v := by
  rintro ⟨a0, a1, a2, ⟨⟩⟩
  kernel_rfl
theorem tright_q2 : loopList (loopOf Try.f38 2) 3 = [] := by kernel_rfl
theorem tright_l2 : CodeOK Try.prog 0 (.loop (loopOf Try.f38 2)) (tright_h.loop 2) := loop_ok E_goes_ok (tright_s2_ok) (LoopsOK_of tright_q2 trivial)
theorem tright_s1_ok : ∀ v, tright_s1 v = roundOf Try.prog E_goes tright_h 2 0 87 (loopOf Try.f38 1) tright_i1 tright_o1 v := by
  rintro ⟨a0, a1, a2, a3, a4, a5, a6, a7, a8, a9, a10, a11, a12, a13, a14, a15, a16, a17, a18, a19, a20, a21, a22, a23, a24, a25, ⟨⟩⟩
  kernel_rfl
theorem tright_q1 : loopList (loopOf Try.f38 1) 2 = [] := by kernel_rfl
theorem tright_l1 : CodeOK Try.prog 0 (.loop (loopOf Try.f38 1)) (tright_h.loop 1) := loop_ok E_goes_ok (tright_s1_ok) (LoopsOK_of tright_q1 trivial)
theorem tright_s0_ok : ∀ v, tright_s0 v = roundOf Try.prog E_goes tright_h 1 0 87 (loopOf Try.f38 0) tright_i0 tright_o0 v := by
  rintro ⟨a0, a1, a2, a3, a4, a5, a6, ⟨⟩⟩
  kernel_rfl
theorem tright_q0 : loopList (loopOf Try.f38 0) 1 = [(1, loopOf Try.f38 1)] := by kernel_rfl
theorem tright_l0 : CodeOK Try.prog 0 (.loop (loopOf Try.f38 0)) (tright_h.loop 0) := loop_ok E_goes_ok (tright_s0_ok) (LoopsOK_of tright_q0 ⟨tright_l1, trivial⟩)
theorem tright_okd : ∀ v, tright_d v = pevCall Try.prog E_goes tright_h Try.f38 tright_i tright_o tright_r v := by
  rintro ⟨a0, ⟨⟩⟩
  kernel_rfl
theorem tright_q : loopList (bodyOf Try.f38) 0 = [(0, loopOf Try.f38 0), (2, loopOf Try.f38 2)] := by kernel_rfl
theorem tright_b : Try.f38.body.isSome = true := by kernel_rfl
theorem tright_n : (Try.f38.name == "runtime.NumGoroutine") = false := by kernel_rfl
theorem tright_ok (v : denL (leaves tright_i)) : tright v = pevCall Try.prog E_goes tright_h Try.f38 tright_i tright_o tright_r v := (tright_eq v).trans (tright_okd v)
theorem tright_spec : SpecOK Try.prog 38 (mkCall 1 tright_i tright_o tright_r tright) := call_spec E_goes_ok Try.func38 tright_b tright_n rfl tright_ok (LoopsOK_of tright_q ⟨tright_l0, tright_l2, trivial⟩)
def E_tright : Env := E_goes.ext 38 true true (mkCall 1 tright_i tright_o tright_r tright)
theorem E_tright_ok : EnvOK Try.prog E_tright := Env.ext_ok E_goes_ok tright_spec (fun _ => mkCall_local rfl rfl) (fun _ => mkCall_in rfl rfl)

end
end Go.Pev
end
section
/- The models are what the program computes. Printed by a program. -/
namespace Go.Pev
open Go.Proofs
set_option maxRecDepth 100000
noncomputable section
-- archipelago/tour.Of
abbrev tof_h : Hints := {  }
theorem tof_okd : ∀ v, tof_d v = pevCall Try.prog E_tright tof_h Try.f40 tof_i tof_o tof_r v := by
  rintro ⟨a0, a1, ⟨⟩⟩
  kernel_rfl
theorem tof_q : loopList (bodyOf Try.f40) 0 = [] := by kernel_rfl
theorem tof_b : Try.f40.body.isSome = true := by kernel_rfl
theorem tof_n : (Try.f40.name == "runtime.NumGoroutine") = false := by kernel_rfl
theorem tof_ok (v : denL (leaves tof_i)) : tof v = pevCall Try.prog E_tright tof_h Try.f40 tof_i tof_o tof_r v := (tof_eq v).trans (tof_okd v)
theorem tof_spec : SpecOK Try.prog 40 (mkCall 2 tof_i tof_o tof_r tof) := call_spec E_tright_ok Try.func40 tof_b tof_n rfl tof_ok (LoopsOK_of tof_q trivial)
def E_tof : Env := E_tright.ext 40 true true (mkCall 2 tof_i tof_o tof_r tof)
theorem E_tof_ok : EnvOK Try.prog E_tof := Env.ext_ok E_tright_ok tof_spec (fun _ => mkCall_local rfl rfl) (fun _ => mkCall_in rfl rfl)

-- archipelago/tour.asked
abbrev asked_h : Hints := {  }
theorem asked_okd : ∀ v, asked_d v = pevCall Try.prog E_tof asked_h Try.f65 asked_i asked_o asked_r v := by
  rintro ⟨a0, a1, a2, ⟨⟩⟩
  kernel_rfl
theorem asked_q : loopList (bodyOf Try.f65) 0 = [] := by kernel_rfl
theorem asked_b : Try.f65.body.isSome = true := by kernel_rfl
theorem asked_n : (Try.f65.name == "runtime.NumGoroutine") = false := by kernel_rfl
theorem asked_ok (v : denL (leaves asked_i)) : asked v = pevCall Try.prog E_tof asked_h Try.f65 asked_i asked_o asked_r v := (asked_eq v).trans (asked_okd v)
theorem asked_spec : SpecOK Try.prog 65 (mkCall 3 asked_i asked_o asked_r asked) := call_spec E_tof_ok Try.func65 asked_b asked_n rfl asked_ok (LoopsOK_of asked_q trivial)
def E_asked : Env := E_tof.ext 65 true true (mkCall 3 asked_i asked_o asked_r asked)
theorem E_asked_ok : EnvOK Try.prog E_asked := Env.ext_ok E_tof_ok asked_spec (fun _ => mkCall_local rfl rfl) (fun _ => mkCall_in rfl rfl)

-- cmp.isNaN[int]
abbrev nanI_h : Hints := {  }
theorem nanI_okd : ∀ v, nanI_d v = pevCall Try.prog E_asked nanI_h Try.f109 nanI_i nanI_o nanI_r v := by
  rintro ⟨a0, ⟨⟩⟩
  kernel_rfl
theorem nanI_q : loopList (bodyOf Try.f109) 0 = [] := by kernel_rfl
theorem nanI_b : Try.f109.body.isSome = true := by kernel_rfl
theorem nanI_n : (Try.f109.name == "runtime.NumGoroutine") = false := by kernel_rfl
theorem nanI_ok (v : denL (leaves nanI_i)) : nanI v = pevCall Try.prog E_asked nanI_h Try.f109 nanI_i nanI_o nanI_r v := (nanI_eq v).trans (nanI_okd v)
theorem nanI_spec : SpecOK Try.prog 109 (mkCall 1 nanI_i nanI_o nanI_r nanI) := call_spec E_asked_ok Try.func109 nanI_b nanI_n rfl nanI_ok (LoopsOK_of nanI_q trivial)
def E_nanI : Env := E_asked.ext 109 true true (mkCall 1 nanI_i nanI_o nanI_r nanI)
theorem E_nanI_ok : EnvOK Try.prog E_nanI := Env.ext_ok E_asked_ok nanI_spec (fun _ => mkCall_local rfl rfl) (fun _ => mkCall_in rfl rfl)

-- cmp.Compare[int]
abbrev compareI_h : Hints := {  }
theorem compareI_okd : ∀ v, compareI_d v = pevCall Try.prog E_nanI compareI_h Try.f100 compareI_i compareI_o compareI_r v := by
  rintro ⟨a0, a1, ⟨⟩⟩
  kernel_rfl
theorem compareI_q : loopList (bodyOf Try.f100) 0 = [] := by kernel_rfl
theorem compareI_b : Try.f100.body.isSome = true := by kernel_rfl
theorem compareI_n : (Try.f100.name == "runtime.NumGoroutine") = false := by kernel_rfl
theorem compareI_ok (v : denL (leaves compareI_i)) : compareI v = pevCall Try.prog E_nanI compareI_h Try.f100 compareI_i compareI_o compareI_r v := (compareI_eq v).trans (compareI_okd v)
theorem compareI_spec : SpecOK Try.prog 100 (mkCall 2 compareI_i compareI_o compareI_r compareI) := call_spec E_nanI_ok Try.func100 compareI_b compareI_n rfl compareI_ok (LoopsOK_of compareI_q trivial)
def E_compareI : Env := E_nanI.ext 100 true true (mkCall 2 compareI_i compareI_o compareI_r compareI)
theorem E_compareI_ok : EnvOK Try.prog E_compareI := Env.ext_ok E_nanI_ok compareI_spec (fun _ => mkCall_local rfl rfl) (fun _ => mkCall_in rfl rfl)

-- archipelago/tour.with$1
abbrev with1_h : Hints := { fp := fun n => match n with | 1 => [[], [], [], [], [], [], [], []] | _ => [] }
theorem with1_okd : ∀ v, with1_d v = pevCall Try.prog E_compareI with1_h Try.f99 with1_i with1_o with1_r v := by
  rintro ⟨a0, a1, ⟨⟩⟩
  kernel_rfl
theorem with1_q : loopList (bodyOf Try.f99) 0 = [] := by kernel_rfl
theorem with1_b : Try.f99.body.isSome = true := by kernel_rfl
theorem with1_n : (Try.f99.name == "runtime.NumGoroutine") = false := by kernel_rfl
theorem with1_ok (v : denL (leaves with1_i)) : with1 v = pevCall Try.prog E_compareI with1_h Try.f99 with1_i with1_o with1_r v := (with1_eq v).trans (with1_okd v)
theorem with1_spec : SpecOK Try.prog 99 (mkCall 2 with1_i with1_o with1_r with1) := call_spec E_compareI_ok Try.func99 with1_b with1_n rfl with1_ok (LoopsOK_of with1_q trivial)
def E_with1 : Env := E_compareI.ext 99 true true (mkCall 2 with1_i with1_o with1_r with1)
theorem E_with1_ok : EnvOK Try.prog E_with1 := Env.ext_ok E_compareI_ok with1_spec (fun _ => mkCall_local rfl rfl) (fun _ => mkCall_in rfl rfl)

-- math/bits.Len64
abbrev len64_h : Hints := {  }
theorem len64_okd : ∀ v, len64_d v = pevCall Try.prog E_with1 len64_h Try.f121 len64_i len64_o len64_r v := by
  rintro ⟨a0, ⟨⟩⟩
  kernel_rfl
theorem len64_q : loopList (bodyOf Try.f121) 0 = [] := by kernel_rfl
theorem len64_b : Try.f121.body.isSome = true := by kernel_rfl
theorem len64_n : (Try.f121.name == "runtime.NumGoroutine") = false := by kernel_rfl
theorem len64_ok (v : denL (leaves len64_i)) : len64 v = pevCall Try.prog E_with1 len64_h Try.f121 len64_i len64_o len64_r v := (len64_eq v).trans (len64_okd v)
theorem len64_spec : SpecOK Try.prog 121 (mkCall 1 len64_i len64_o len64_r len64) := call_spec E_with1_ok Try.func121 len64_b len64_n rfl len64_ok (LoopsOK_of len64_q trivial)
def E_len64 : Env := E_with1.ext 121 true true (mkCall 1 len64_i len64_o len64_r len64)
theorem E_len64_ok : EnvOK Try.prog E_len64 := Env.ext_ok E_with1_ok len64_spec (fun _ => mkCall_local rfl rfl) (fun _ => mkCall_in rfl rfl)

-- math/bits.Len
abbrev bitsLen_h : Hints := {  }
theorem bitsLen_okd : ∀ v, bitsLen_d v = pevCall Try.prog E_len64 bitsLen_h Try.f107 bitsLen_i bitsLen_o bitsLen_r v := by
  rintro ⟨a0, ⟨⟩⟩
  kernel_rfl
theorem bitsLen_q : loopList (bodyOf Try.f107) 0 = [] := by kernel_rfl
theorem bitsLen_b : Try.f107.body.isSome = true := by kernel_rfl
theorem bitsLen_n : (Try.f107.name == "runtime.NumGoroutine") = false := by kernel_rfl
theorem bitsLen_ok (v : denL (leaves bitsLen_i)) : bitsLen v = pevCall Try.prog E_len64 bitsLen_h Try.f107 bitsLen_i bitsLen_o bitsLen_r v := (bitsLen_eq v).trans (bitsLen_okd v)
theorem bitsLen_spec : SpecOK Try.prog 107 (mkCall 1 bitsLen_i bitsLen_o bitsLen_r bitsLen) := call_spec E_len64_ok Try.func107 bitsLen_b bitsLen_n rfl bitsLen_ok (LoopsOK_of bitsLen_q trivial)
def E_bitsLen : Env := E_len64.ext 107 true true (mkCall 1 bitsLen_i bitsLen_o bitsLen_r bitsLen)
theorem E_bitsLen_ok : EnvOK Try.prog E_bitsLen := Env.ext_ok E_len64_ok bitsLen_spec (fun _ => mkCall_local rfl rfl) (fun _ => mkCall_in rfl rfl)

-- (*slices.xorshift).Next
abbrev xorNext_h : Hints := { fp := fun n => match n with | 3 => [[], [0], [0], [], [0], [0], [], [], [0], [1]] | 2 => [[], [0], [0], [], [0], [0], [], [], [0], [1]] | 1 => [[], [0], [0], [], [0], [0], [], [], [0], [1]] | _ => [] }
theorem xorNext_okd : ∀ v, xorNext_d v = pevCall Try.prog E_bitsLen xorNext_h Try.f132 xorNext_i xorNext_o xorNext_r v := by
  rintro ⟨a0, ⟨⟩⟩
  kernel_rfl
theorem xorNext_q : loopList (bodyOf Try.f132) 0 = [] := by kernel_rfl
theorem xorNext_b : Try.f132.body.isSome = true := by kernel_rfl
theorem xorNext_n : (Try.f132.name == "runtime.NumGoroutine") = false := by kernel_rfl
theorem xorNext_ok (v : denL (leaves xorNext_i)) : xorNext v = pevCall Try.prog E_bitsLen xorNext_h Try.f132 xorNext_i xorNext_o xorNext_r v := (xorNext_eq v).trans (xorNext_okd v)
theorem xorNext_spec : SpecOK Try.prog 132 (mkCall 1 xorNext_i xorNext_o xorNext_r xorNext) := call_spec E_bitsLen_ok Try.func132 xorNext_b xorNext_n rfl xorNext_ok (LoopsOK_of xorNext_q trivial)
def E_xorNext : Env := E_bitsLen.ext 132 false true (mkCall 1 xorNext_i xorNext_o xorNext_r xorNext)
theorem E_xorNext_ok : EnvOK Try.prog E_xorNext := Env.ext_ok E_bitsLen_ok xorNext_spec ((by simp)) (fun _ => mkCall_in rfl rfl)

-- slices.nextPowerOfTwo
abbrev nextPow_h : Hints := {  }
theorem nextPow_okd : ∀ v, nextPow_d v = pevCall Try.prog E_xorNext nextPow_h Try.f131 nextPow_i nextPow_o nextPow_r v := by
  rintro ⟨a0, ⟨⟩⟩
  kernel_rfl
theorem nextPow_q : loopList (bodyOf Try.f131) 0 = [] := by kernel_rfl
theorem nextPow_b : Try.f131.body.isSome = true := by kernel_rfl
theorem nextPow_n : (Try.f131.name == "runtime.NumGoroutine") = false := by kernel_rfl
theorem nextPow_ok (v : denL (leaves nextPow_i)) : nextPow v = pevCall Try.prog E_xorNext nextPow_h Try.f131 nextPow_i nextPow_o nextPow_r v := (nextPow_eq v).trans (nextPow_okd v)
theorem nextPow_spec : SpecOK Try.prog 131 (mkCall 1 nextPow_i nextPow_o nextPow_r nextPow) := call_spec E_xorNext_ok Try.func131 nextPow_b nextPow_n rfl nextPow_ok (LoopsOK_of nextPow_q trivial)
def E_nextPow : Env := E_xorNext.ext 131 true true (mkCall 1 nextPow_i nextPow_o nextPow_r nextPow)
theorem E_nextPow_ok : EnvOK Try.prog E_nextPow := Env.ext_ok E_xorNext_ok nextPow_spec (fun _ => mkCall_local rfl rfl) (fun _ => mkCall_in rfl rfl)

-- slices.insertionSortCmpFunc[[]int]
abbrev insL_h : Hints := { loop := fun n => match n with | 0 => loopBy 1 53 insL_i0 insL_o0 insL_s0 | 1 => loopBy 1 53 insL_i1 insL_o1 insL_s1 | _ => fun _ _ _ => none, fp := fun n => match n with | 4 => [[], [], [], [], [], [], [], [0], [0], [], [], [], [0], [0], [], [], []] | 6 => [[], [], [], [], [], [], [], [], [0], [0], [], [], [0], [0], [0], [1], [0], [1]] | _ => [] }
theorem insL_s1_ok : ∀ v, insL_s1 v = roundOf Try.prog E_nextPow insL_h 2 1 53 (loopOf Try.f122 1) insL_i1 insL_o1 v := by
  rintro ⟨a0, a1, a2, a3, a4, ⟨⟩⟩
  kernel_rfl
theorem insL_q1 : loopList (loopOf Try.f122 1) 2 = [] := by kernel_rfl
theorem insL_l1 : CodeOK Try.prog 1 (.loop (loopOf Try.f122 1)) (insL_h.loop 1) := loop_ok E_nextPow_ok (insL_s1_ok) (LoopsOK_of insL_q1 trivial)
theorem insL_s0_ok : ∀ v, insL_s0 v = roundOf Try.prog E_nextPow insL_h 1 1 53 (loopOf Try.f122 0) insL_i0 insL_o0 v := by
  rintro ⟨a0, a1, a2, a3, ⟨⟩⟩
  kernel_rfl
theorem insL_q0 : loopList (loopOf Try.f122 0) 1 = [(1, loopOf Try.f122 1)] := by kernel_rfl
theorem insL_l0 : CodeOK Try.prog 1 (.loop (loopOf Try.f122 0)) (insL_h.loop 0) := loop_ok E_nextPow_ok (insL_s0_ok) (LoopsOK_of insL_q0 ⟨insL_l1, trivial⟩)
theorem insL_okd : ∀ v, insL_d v = pevCall Try.prog E_nextPow insL_h Try.f122 insL_i insL_o insL_r v := by
  rintro ⟨a0, a1, a2, ⟨⟩⟩
  kernel_rfl
theorem insL_q : loopList (bodyOf Try.f122) 0 = [(0, loopOf Try.f122 0)] := by kernel_rfl
theorem insL_b : Try.f122.body.isSome = true := by kernel_rfl
theorem insL_n : (Try.f122.name == "runtime.NumGoroutine") = false := by kernel_rfl
theorem insL_ok (v : denL (leaves insL_i)) : insL v = pevCall Try.prog E_nextPow insL_h Try.f122 insL_i insL_o insL_r v := (insL_eq v).trans (insL_okd v)
theorem insL_spec : SpecOK Try.prog 122 (mkCall 4 insL_i insL_o insL_r insL) := call_spec E_nextPow_ok Try.func122 insL_b insL_n rfl insL_ok (LoopsOK_of insL_q ⟨insL_l0, trivial⟩)
def E_insL : Env := E_nextPow.extC 122 3 99 (mkCall 4 insL_i insL_o insL_r insL)
theorem E_insL_ok : EnvOK Try.prog E_insL := Env.extC_ok E_nextPow_ok insL_spec (mkCall_in rfl rfl)

-- slices.siftDownCmpFunc[[]int]
abbrev siftL_h : Hints := { loop := fun n => match n with | 0 => loopBy 1 82 siftL_i0 siftL_o0 siftL_s0 | _ => fun _ _ _ => none, fp := fun n => match n with | 6 => [[], [], [], [], [], [], [], [], [], [], [], [], [0], [0], [], [], [], [], [0], [0], [0], [1], [0], [1]] | 5 => [[], [], [], [], [], [0], [0], [], [], [], [], [0], [0], [], [], []] | 3 => [[], [], [], [], [], [], [], [], [], [], [0], [0], [], [], [], [], [], [0], [0], [], [], []] | _ => [] }
theorem siftL_s0_ok : ∀ v, siftL_s0 v = roundOf Try.prog E_insL siftL_h 1 1 82 (loopOf Try.f136 0) siftL_i0 siftL_o0 v := by
  rintro ⟨a0, a1, a2, a3, ⟨⟩⟩
  kernel_rfl
theorem siftL_q0 : loopList (loopOf Try.f136 0) 1 = [] := by kernel_rfl
theorem siftL_l0 : CodeOK Try.prog 1 (.loop (loopOf Try.f136 0)) (siftL_h.loop 0) := loop_ok E_insL_ok (siftL_s0_ok) (LoopsOK_of siftL_q0 trivial)
theorem siftL_okd : ∀ v, siftL_d v = pevCall Try.prog E_insL siftL_h Try.f136 siftL_i siftL_o siftL_r v := by
  rintro ⟨a0, a1, a2, a3, ⟨⟩⟩
  kernel_rfl
theorem siftL_q : loopList (bodyOf Try.f136) 0 = [(0, loopOf Try.f136 0)] := by kernel_rfl
theorem siftL_b : Try.f136.body.isSome = true := by kernel_rfl
theorem siftL_n : (Try.f136.name == "runtime.NumGoroutine") = false := by kernel_rfl
theorem siftL_ok (v : denL (leaves siftL_i)) : siftL v = pevCall Try.prog E_insL siftL_h Try.f136 siftL_i siftL_o siftL_r v := (siftL_eq v).trans (siftL_okd v)
theorem siftL_spec : SpecOK Try.prog 136 (mkCall 5 siftL_i siftL_o siftL_r siftL) := call_spec E_insL_ok Try.func136 siftL_b siftL_n rfl siftL_ok (LoopsOK_of siftL_q ⟨siftL_l0, trivial⟩)
def E_siftL : Env := E_insL.extC 136 4 99 (mkCall 5 siftL_i siftL_o siftL_r siftL)
theorem E_siftL_ok : EnvOK Try.prog E_siftL := Env.extC_ok E_insL_ok siftL_spec (mkCall_in rfl rfl)

-- slices.heapSortCmpFunc[[]int]
abbrev heapL_h : Hints := { loop := fun n => match n with | 0 => loopBy 1 60 heapL_i0 heapL_o0 heapL_s0 | 1 => loopBy 1 60 heapL_i1 heapL_o1 heapL_s1 | _ => fun _ _ _ => none, fp := fun n => match n with | 10 => [[], [], [], [], [], [], [], [], [], [], [0], [0], [], [], [0], [0], [0], [1], [0], [1]] | _ => [] }
theorem heapL_s1_ok : ∀ v, heapL_s1 v = roundOf Try.prog E_siftL heapL_h 2 1 60 (loopOf Try.f123 1) heapL_i1 heapL_o1 v := by
  rintro ⟨a0, a1, a2, a3, ⟨⟩⟩
  kernel_rfl
theorem heapL_q1 : loopList (loopOf Try.f123 1) 2 = [] := by kernel_rfl
theorem heapL_l1 : CodeOK Try.prog 1 (.loop (loopOf Try.f123 1)) (heapL_h.loop 1) := loop_ok E_siftL_ok (heapL_s1_ok) (LoopsOK_of heapL_q1 trivial)
theorem heapL_s0_ok : ∀ v, heapL_s0 v = roundOf Try.prog E_siftL heapL_h 1 1 60 (loopOf Try.f123 0) heapL_i0 heapL_o0 v := by
  rintro ⟨a0, a1, a2, a3, a4, ⟨⟩⟩
  kernel_rfl
theorem heapL_q0 : loopList (loopOf Try.f123 0) 1 = [] := by kernel_rfl
theorem heapL_l0 : CodeOK Try.prog 1 (.loop (loopOf Try.f123 0)) (heapL_h.loop 0) := loop_ok E_siftL_ok (heapL_s0_ok) (LoopsOK_of heapL_q0 trivial)
theorem heapL_okd : ∀ v, heapL_d v = pevCall Try.prog E_siftL heapL_h Try.f123 heapL_i heapL_o heapL_r v := by
  rintro ⟨a0, a1, a2, ⟨⟩⟩
  kernel_rfl
theorem heapL_q : loopList (bodyOf Try.f123) 0 = [(0, loopOf Try.f123 0), (1, loopOf Try.f123 1)] := by kernel_rfl
theorem heapL_b : Try.f123.body.isSome = true := by kernel_rfl
theorem heapL_n : (Try.f123.name == "runtime.NumGoroutine") = false := by kernel_rfl
theorem heapL_ok (v : denL (leaves heapL_i)) : heapL v = pevCall Try.prog E_siftL heapL_h Try.f123 heapL_i heapL_o heapL_r v := (heapL_eq v).trans (heapL_okd v)
theorem heapL_spec : SpecOK Try.prog 123 (mkCall 4 heapL_i heapL_o heapL_r heapL) := call_spec E_siftL_ok Try.func123 heapL_b heapL_n rfl heapL_ok (LoopsOK_of heapL_q ⟨heapL_l0, heapL_l1, trivial⟩)
def E_heapL : Env := E_siftL.extC 123 3 99 (mkCall 4 heapL_i heapL_o heapL_r heapL)
theorem E_heapL_ok : EnvOK Try.prog E_heapL := Env.extC_ok E_siftL_ok heapL_spec (mkCall_in rfl rfl)

end
end Go.Pev
end
section
/- The models are what the program computes. Printed by a program. -/
namespace Go.Pev
open Go.Proofs
set_option maxRecDepth 100000
noncomputable section
-- slices.breakPatternsCmpFunc[[]int]
abbrev breakL_h : Hints := { loop := fun n => match n with | 0 => loopBy 1 67 breakL_i0 breakL_o0 breakL_s0 | _ => fun _ _ _ => none, fp := fun n => match n with | 10 => [[], [], [], [], [], [], [], [], [], [], [0], [0], [], [], [0], [0], [0], [1], [0], [1]] | _ => [] }
theorem breakL_s0_ok : ∀ v, breakL_s0 v = roundOf Try.prog E_heapL breakL_h 1 1 67 (loopOf Try.f124 0) breakL_i0 breakL_o0 v := by
  rintro ⟨a0, a1, a2, a3, a4, a5, ⟨⟩⟩
  kernel_rfl
theorem breakL_q0 : loopList (loopOf Try.f124 0) 1 = [] := by kernel_rfl
theorem breakL_l0 : CodeOK Try.prog 1 (.loop (loopOf Try.f124 0)) (breakL_h.loop 0) := loop_ok E_heapL_ok (breakL_s0_ok) (LoopsOK_of breakL_q0 trivial)
theorem breakL_okd : ∀ v, breakL_d v = pevCall Try.prog E_heapL breakL_h Try.f124 breakL_i breakL_o breakL_r v := by
  rintro ⟨a0, a1, a2, ⟨⟩⟩
  kernel_rfl
theorem breakL_q : loopList (bodyOf Try.f124) 0 = [(0, loopOf Try.f124 0)] := by kernel_rfl
theorem breakL_b : Try.f124.body.isSome = true := by kernel_rfl
theorem breakL_n : (Try.f124.name == "runtime.NumGoroutine") = false := by kernel_rfl
theorem breakL_ok (v : denL (leaves breakL_i)) : breakL v = pevCall Try.prog E_heapL breakL_h Try.f124 breakL_i breakL_o breakL_r v := (breakL_eq v).trans (breakL_okd v)
theorem breakL_spec : SpecOK Try.prog 124 (mkCall 4 breakL_i breakL_o breakL_r breakL) := call_spec E_heapL_ok Try.func124 breakL_b breakL_n rfl breakL_ok (LoopsOK_of breakL_q ⟨breakL_l0, trivial⟩)
def E_breakL : Env := E_heapL.extC 124 3 99 (mkCall 4 breakL_i breakL_o breakL_r breakL)
theorem E_breakL_ok : EnvOK Try.prog E_breakL := Env.extC_ok E_heapL_ok breakL_spec (mkCall_in rfl rfl)

-- slices.order2CmpFunc[[]int]
abbrev order2L_h : Hints := { fp := fun n => match n with | 1 => [[], [], [], [0], [0], [], [], [0], [0], [], []] | _ => [] }
theorem order2L_okd : ∀ v, order2L_d v = pevCall Try.prog E_breakL order2L_h Try.f140 order2L_i order2L_o order2L_r v := by
  rintro ⟨a0, a1, a2, a3, ⟨⟩⟩
  kernel_rfl
theorem order2L_q : loopList (bodyOf Try.f140) 0 = [] := by kernel_rfl
theorem order2L_b : Try.f140.body.isSome = true := by kernel_rfl
theorem order2L_n : (Try.f140.name == "runtime.NumGoroutine") = false := by kernel_rfl
theorem order2L_ok (v : denL (leaves order2L_i)) : order2L v = pevCall Try.prog E_breakL order2L_h Try.f140 order2L_i order2L_o order2L_r v := (order2L_eq v).trans (order2L_okd v)
theorem order2L_spec : SpecOK Try.prog 140 (mkCall 5 order2L_i order2L_o order2L_r order2L) := call_spec E_breakL_ok Try.func140 order2L_b order2L_n rfl order2L_ok (LoopsOK_of order2L_q trivial)
def E_order2L : Env := E_breakL.extC 140 4 99 (mkCall 5 order2L_i order2L_o order2L_r order2L)
theorem E_order2L_ok : EnvOK Try.prog E_order2L := Env.extC_ok E_breakL_ok order2L_spec (mkCall_in rfl rfl)

-- slices.medianCmpFunc[[]int]
abbrev medianL_h : Hints := {  }
theorem medianL_okd : ∀ v, medianL_d v = pevCall Try.prog E_order2L medianL_h Try.f138 medianL_i medianL_o medianL_r v := by
  rintro ⟨a0, a1, a2, a3, a4, ⟨⟩⟩
  kernel_rfl
theorem medianL_q : loopList (bodyOf Try.f138) 0 = [] := by kernel_rfl
theorem medianL_b : Try.f138.body.isSome = true := by kernel_rfl
theorem medianL_n : (Try.f138.name == "runtime.NumGoroutine") = false := by kernel_rfl
theorem medianL_ok (v : denL (leaves medianL_i)) : medianL v = pevCall Try.prog E_order2L medianL_h Try.f138 medianL_i medianL_o medianL_r v := (medianL_eq v).trans (medianL_okd v)
theorem medianL_spec : SpecOK Try.prog 138 (mkCall 6 medianL_i medianL_o medianL_r medianL) := call_spec E_order2L_ok Try.func138 medianL_b medianL_n rfl medianL_ok (LoopsOK_of medianL_q trivial)
def E_medianL : Env := E_order2L.extC 138 5 99 (mkCall 6 medianL_i medianL_o medianL_r medianL)
theorem E_medianL_ok : EnvOK Try.prog E_medianL := Env.extC_ok E_order2L_ok medianL_spec (mkCall_in rfl rfl)

-- slices.medianAdjacentCmpFunc[[]int]
abbrev medAdjL_h : Hints := {  }
theorem medAdjL_okd : ∀ v, medAdjL_d v = pevCall Try.prog E_medianL medAdjL_h Try.f137 medAdjL_i medAdjL_o medAdjL_r v := by
  rintro ⟨a0, a1, a2, ⟨⟩⟩
  kernel_rfl
theorem medAdjL_q : loopList (bodyOf Try.f137) 0 = [] := by kernel_rfl
theorem medAdjL_b : Try.f137.body.isSome = true := by kernel_rfl
theorem medAdjL_n : (Try.f137.name == "runtime.NumGoroutine") = false := by kernel_rfl
theorem medAdjL_ok (v : denL (leaves medAdjL_i)) : medAdjL v = pevCall Try.prog E_medianL medAdjL_h Try.f137 medAdjL_i medAdjL_o medAdjL_r v := (medAdjL_eq v).trans (medAdjL_okd v)
theorem medAdjL_spec : SpecOK Try.prog 137 (mkCall 4 medAdjL_i medAdjL_o medAdjL_r medAdjL) := call_spec E_medianL_ok Try.func137 medAdjL_b medAdjL_n rfl medAdjL_ok (LoopsOK_of medAdjL_q trivial)
def E_medAdjL : Env := E_medianL.extC 137 3 99 (mkCall 4 medAdjL_i medAdjL_o medAdjL_r medAdjL)
theorem E_medAdjL_ok : EnvOK Try.prog E_medAdjL := Env.extC_ok E_medianL_ok medAdjL_spec (mkCall_in rfl rfl)

-- slices.choosePivotCmpFunc[[]int]
abbrev pivotL_h : Hints := {  }
theorem pivotL_okd : ∀ v, pivotL_d v = pevCall Try.prog E_medAdjL pivotL_h Try.f125 pivotL_i pivotL_o pivotL_r v := by
  rintro ⟨a0, a1, a2, ⟨⟩⟩
  kernel_rfl
theorem pivotL_q : loopList (bodyOf Try.f125) 0 = [] := by kernel_rfl
theorem pivotL_b : Try.f125.body.isSome = true := by kernel_rfl
theorem pivotL_n : (Try.f125.name == "runtime.NumGoroutine") = false := by kernel_rfl
theorem pivotL_ok (v : denL (leaves pivotL_i)) : pivotL v = pevCall Try.prog E_medAdjL pivotL_h Try.f125 pivotL_i pivotL_o pivotL_r v := (pivotL_eq v).trans (pivotL_okd v)
theorem pivotL_spec : SpecOK Try.prog 125 (mkCall 4 pivotL_i pivotL_o pivotL_r pivotL) := call_spec E_medAdjL_ok Try.func125 pivotL_b pivotL_n rfl pivotL_ok (LoopsOK_of pivotL_q trivial)
def E_pivotL : Env := E_medAdjL.extC 125 3 99 (mkCall 4 pivotL_i pivotL_o pivotL_r pivotL)
theorem E_pivotL_ok : EnvOK Try.prog E_pivotL := Env.extC_ok E_medAdjL_ok pivotL_spec (mkCall_in rfl rfl)

-- slices.reverseRangeCmpFunc[[]int]
abbrev revL_h : Hints := { loop := fun n => match n with | 0 => loopBy 1 34 revL_i0 revL_o0 revL_s0 | _ => fun _ _ _ => none, fp := fun n => match n with | 3 => [[], [], [], [], [], [], [0], [0], [], [], [0], [0], [0], [1], [0], [1]] | _ => [] }
theorem revL_s0_ok : ∀ v, revL_s0 v = roundOf Try.prog E_pivotL revL_h 1 1 34 (loopOf Try.f126 0) revL_i0 revL_o0 v := by
  rintro ⟨a0, a1, a2, ⟨⟩⟩
  kernel_rfl
theorem revL_q0 : loopList (loopOf Try.f126 0) 1 = [] := by kernel_rfl
theorem revL_l0 : CodeOK Try.prog 1 (.loop (loopOf Try.f126 0)) (revL_h.loop 0) := loop_ok E_pivotL_ok (revL_s0_ok) (LoopsOK_of revL_q0 trivial)
theorem revL_okd : ∀ v, revL_d v = pevCall Try.prog E_pivotL revL_h Try.f126 revL_i revL_o revL_r v := by
  rintro ⟨a0, a1, a2, ⟨⟩⟩
  kernel_rfl
theorem revL_q : loopList (bodyOf Try.f126) 0 = [(0, loopOf Try.f126 0)] := by kernel_rfl
theorem revL_b : Try.f126.body.isSome = true := by kernel_rfl
theorem revL_n : (Try.f126.name == "runtime.NumGoroutine") = false := by kernel_rfl
theorem revL_ok (v : denL (leaves revL_i)) : revL v = pevCall Try.prog E_pivotL revL_h Try.f126 revL_i revL_o revL_r v := (revL_eq v).trans (revL_okd v)
theorem revL_spec : SpecOK Try.prog 126 (mkCall 4 revL_i revL_o revL_r revL) := call_spec E_pivotL_ok Try.func126 revL_b revL_n rfl revL_ok (LoopsOK_of revL_q ⟨revL_l0, trivial⟩)
def E_revL : Env := E_pivotL.extC 126 3 99 (mkCall 4 revL_i revL_o revL_r revL)
theorem E_revL_ok : EnvOK Try.prog E_revL := Env.extC_ok E_pivotL_ok revL_spec (mkCall_in rfl rfl)

-- slices.partialInsertionSortCmpFunc[[]int]
abbrev partInsL_h : Hints := { loop := fun n => match n with | 0 => loopBy 1 141 partInsL_i0 partInsL_o0 partInsL_s0 | 1 => loopBy 1 141 partInsL_i1 partInsL_o1 partInsL_s1 | 2 => loopBy 1 141 partInsL_i2 partInsL_o2 partInsL_s2 | 3 => loopBy 1 141 partInsL_i3 partInsL_o3 partInsL_s3 | _ => fun _ _ _ => none, fp := fun n => match n with | 11 => [[], [], [], [], [], [], [], [], [0], [0], [], [], [0], [0], [0], [1], [0], [1]] | 5 => [[], [], [], [], [], [], [], [0], [0], [], [], [], [0], [0], [], [], [], []] | 17 => [[], [], [], [], [], [], [], [], [0], [0], [], [], [0], [0], [0], [1], [0], [1]] | 16 => [[], [], [], [0], [0], [], [], [], [0], [0], [], [], []] | 23 => [[], [], [], [], [], [], [], [], [0], [0], [], [], [0], [0], [0], [1], [0], [1]] | 22 => [[], [], [], [0], [0], [], [], [], [0], [0], [], [], []] | _ => [] }
theorem partInsL_s3_ok : ∀ v, partInsL_s3 v = roundOf Try.prog E_revL partInsL_h 4 1 141 (loopOf Try.f127 3) partInsL_i3 partInsL_o3 v := by
  rintro ⟨a0, a1, a2, a3, a4, a5, ⟨⟩⟩
  kernel_rfl
theorem partInsL_q3 : loopList (loopOf Try.f127 3) 4 = [] := by kernel_rfl
theorem partInsL_l3 : CodeOK Try.prog 1 (.loop (loopOf Try.f127 3)) (partInsL_h.loop 3) := loop_ok E_revL_ok (partInsL_s3_ok) (LoopsOK_of partInsL_q3 trivial)
theorem partInsL_s2_ok : ∀ v, partInsL_s2 v = roundOf Try.prog E_revL partInsL_h 3 1 141 (loopOf Try.f127 2) partInsL_i2 partInsL_o2 v := by
  rintro ⟨a0, a1, a2, a3, a4, a5, ⟨⟩⟩
  kernel_rfl
theorem partInsL_q2 : loopList (loopOf Try.f127 2) 3 = [] := by kernel_rfl
theorem partInsL_l2 : CodeOK Try.prog 1 (.loop (loopOf Try.f127 2)) (partInsL_h.loop 2) := loop_ok E_revL_ok (partInsL_s2_ok) (LoopsOK_of partInsL_q2 trivial)
theorem partInsL_s1_ok : ∀ v, partInsL_s1 v = roundOf Try.prog E_revL partInsL_h 2 1 141 (loopOf Try.f127 1) partInsL_i1 partInsL_o1 v := by
  rintro ⟨a0, a1, a2, a3, a4, ⟨⟩⟩
  kernel_rfl
theorem partInsL_q1 : loopList (loopOf Try.f127 1) 2 = [] := by kernel_rfl
theorem partInsL_l1 : CodeOK Try.prog 1 (.loop (loopOf Try.f127 1)) (partInsL_h.loop 1) := loop_ok E_revL_ok (partInsL_s1_ok) (LoopsOK_of partInsL_q1 trivial)
theorem partInsL_s0_ok : ∀ v, partInsL_s0 v = roundOf Try.prog E_revL partInsL_h 1 1 141 (loopOf Try.f127 0) partInsL_i0 partInsL_o0 v := by
  rintro ⟨a0, a1, a2, a3, a4, ⟨⟩⟩
  kernel_rfl
theorem partInsL_q0 : loopList (loopOf Try.f127 0) 1 = [(1, loopOf Try.f127 1), (2, loopOf Try.f127 2), (3, loopOf Try.f127 3)] := by kernel_rfl
theorem partInsL_l0 : CodeOK Try.prog 1 (.loop (loopOf Try.f127 0)) (partInsL_h.loop 0) := loop_ok E_revL_ok (partInsL_s0_ok) (LoopsOK_of partInsL_q0 ⟨partInsL_l1, partInsL_l2, partInsL_l3, trivial⟩)
theorem partInsL_okd : ∀ v, partInsL_d v = pevCall Try.prog E_revL partInsL_h Try.f127 partInsL_i partInsL_o partInsL_r v := by
  rintro ⟨a0, a1, a2, ⟨⟩⟩
  kernel_rfl
theorem partInsL_q : loopList (bodyOf Try.f127) 0 = [(0, loopOf Try.f127 0)] := by kernel_rfl
theorem partInsL_b : Try.f127.body.isSome = true := by kernel_rfl
theorem partInsL_n : (Try.f127.name == "runtime.NumGoroutine") = false := by kernel_rfl
theorem partInsL_ok (v : denL (leaves partInsL_i)) : partInsL v = pevCall Try.prog E_revL partInsL_h Try.f127 partInsL_i partInsL_o partInsL_r v := (partInsL_eq v).trans (partInsL_okd v)
theorem partInsL_spec : SpecOK Try.prog 127 (mkCall 4 partInsL_i partInsL_o partInsL_r partInsL) := call_spec E_revL_ok Try.func127 partInsL_b partInsL_n rfl partInsL_ok (LoopsOK_of partInsL_q ⟨partInsL_l0, trivial⟩)
def E_partInsL : Env := E_revL.extC 127 3 99 (mkCall 4 partInsL_i partInsL_o partInsL_r partInsL)
theorem E_partInsL_ok : EnvOK Try.prog E_partInsL := Env.extC_ok E_revL_ok partInsL_spec (mkCall_in rfl rfl)

-- slices.partitionEqualCmpFunc[[]int]
abbrev partEqL_h : Hints := { loop := fun n => match n with | 0 => loopBy 1 90 partEqL_i0 partEqL_o0 partEqL_s0 | 1 => loopBy 1 90 partEqL_i1 partEqL_o1 partEqL_s1 | 2 => loopBy 1 90 partEqL_i2 partEqL_o2 partEqL_s2 | _ => fun _ _ _ => none, fp := fun n => match n with | 8 => [[], [], [], [], [], [], [0], [0], [], [], [0], [0], [0], [1], [0], [1]] | 3 => [[], [], [], [], [], [], [], [0], [0], [], [], [0], [0], [], [], [], []] | 5 => [[], [], [], [], [], [], [], [0], [0], [], [], [0], [0], [], [], []] | 1 => [[], [], [], [], [], [], [0], [0], [], [], [0], [0], [0], [1], [0], [1]] | _ => [] }
theorem partEqL_s2_ok : ∀ v, partEqL_s2 v = roundOf Try.prog E_partInsL partEqL_h 3 1 90 (loopOf Try.f128 2) partEqL_i2 partEqL_o2 v := by
  rintro ⟨a0, a1, a2, a3, ⟨⟩⟩
  kernel_rfl
theorem partEqL_q2 : loopList (loopOf Try.f128 2) 3 = [] := by kernel_rfl
theorem partEqL_l2 : CodeOK Try.prog 1 (.loop (loopOf Try.f128 2)) (partEqL_h.loop 2) := loop_ok E_partInsL_ok (partEqL_s2_ok) (LoopsOK_of partEqL_q2 trivial)
theorem partEqL_s1_ok : ∀ v, partEqL_s1 v = roundOf Try.prog E_partInsL partEqL_h 2 1 90 (loopOf Try.f128 1) partEqL_i1 partEqL_o1 v := by
  rintro ⟨a0, a1, a2, a3, ⟨⟩⟩
  kernel_rfl
theorem partEqL_q1 : loopList (loopOf Try.f128 1) 2 = [] := by kernel_rfl
theorem partEqL_l1 : CodeOK Try.prog 1 (.loop (loopOf Try.f128 1)) (partEqL_h.loop 1) := loop_ok E_partInsL_ok (partEqL_s1_ok) (LoopsOK_of partEqL_q1 trivial)
theorem partEqL_s0_ok : ∀ v, partEqL_s0 v = roundOf Try.prog E_partInsL partEqL_h 1 1 90 (loopOf Try.f128 0) partEqL_i0 partEqL_o0 v := by
  rintro ⟨a0, a1, a2, a3, ⟨⟩⟩
  kernel_rfl
theorem partEqL_q0 : loopList (loopOf Try.f128 0) 1 = [(1, loopOf Try.f128 1), (2, loopOf Try.f128 2)] := by kernel_rfl
theorem partEqL_l0 : CodeOK Try.prog 1 (.loop (loopOf Try.f128 0)) (partEqL_h.loop 0) := loop_ok E_partInsL_ok (partEqL_s0_ok) (LoopsOK_of partEqL_q0 ⟨partEqL_l1, partEqL_l2, trivial⟩)
theorem partEqL_okd : ∀ v, partEqL_d v = pevCall Try.prog E_partInsL partEqL_h Try.f128 partEqL_i partEqL_o partEqL_r v := by
  rintro ⟨a0, a1, a2, a3, ⟨⟩⟩
  kernel_rfl
theorem partEqL_q : loopList (bodyOf Try.f128) 0 = [(0, loopOf Try.f128 0)] := by kernel_rfl
theorem partEqL_b : Try.f128.body.isSome = true := by kernel_rfl
theorem partEqL_n : (Try.f128.name == "runtime.NumGoroutine") = false := by kernel_rfl
theorem partEqL_ok (v : denL (leaves partEqL_i)) : partEqL v = pevCall Try.prog E_partInsL partEqL_h Try.f128 partEqL_i partEqL_o partEqL_r v := (partEqL_eq v).trans (partEqL_okd v)
theorem partEqL_spec : SpecOK Try.prog 128 (mkCall 5 partEqL_i partEqL_o partEqL_r partEqL) := call_spec E_partInsL_ok Try.func128 partEqL_b partEqL_n rfl partEqL_ok (LoopsOK_of partEqL_q ⟨partEqL_l0, trivial⟩)
def E_partEqL : Env := E_partInsL.extC 128 4 99 (mkCall 5 partEqL_i partEqL_o partEqL_r partEqL)
theorem E_partEqL_ok : EnvOK Try.prog E_partEqL := Env.extC_ok E_partInsL_ok partEqL_spec (mkCall_in rfl rfl)

-- slices.partitionCmpFunc[[]int]
abbrev partL_h : Hints := { loop := fun n => match n with | 0 => loopBy 1 178 partL_i0 partL_o0 partL_s0 | 1 => loopBy 1 178 partL_i1 partL_o1 partL_s1 | 2 => loopBy 1 178 partL_i2 partL_o2 partL_s2 | 3 => loopBy 1 178 partL_i3 partL_o3 partL_s3 | 4 => loopBy 1 178 partL_i4 partL_o4 partL_s4 | _ => fun _ _ _ => none, fp := fun n => match n with | 3 => [[], [], [], [], [], [], [], [0], [0], [], [], [0], [0], [], [], []] | 5 => [[], [], [], [], [], [], [], [0], [0], [], [], [0], [0], [], [], [], []] | 18 => [[], [], [], [], [], [], [0], [0], [], [], [0], [0], [0], [1], [0], [1]] | 13 => [[], [], [], [], [], [], [], [0], [0], [], [], [0], [0], [], [], []] | 15 => [[], [], [], [], [], [], [], [0], [0], [], [], [0], [0], [], [], [], []] | 21 => [[], [], [], [], [], [], [0], [0], [], [], [0], [0], [0], [1], [0], [1]] | 10 => [[], [], [], [], [], [], [0], [0], [], [], [0], [0], [0], [1], [0], [1]] | 8 => [[], [], [], [], [], [], [0], [0], [], [], [0], [0], [0], [1], [0], [1]] | 1 => [[], [], [], [], [], [], [0], [0], [], [], [0], [0], [0], [1], [0], [1]] | _ => [] }
theorem partL_s4_ok : ∀ v, partL_s4 v = roundOf Try.prog E_partEqL partL_h 5 1 178 (loopOf Try.f129 4) partL_i4 partL_o4 v := by
  rintro ⟨a0, a1, a2, a3, ⟨⟩⟩
  kernel_rfl
theorem partL_q4 : loopList (loopOf Try.f129 4) 5 = [] := by kernel_rfl
theorem partL_l4 : CodeOK Try.prog 1 (.loop (loopOf Try.f129 4)) (partL_h.loop 4) := loop_ok E_partEqL_ok (partL_s4_ok) (LoopsOK_of partL_q4 trivial)
theorem partL_s3_ok : ∀ v, partL_s3 v = roundOf Try.prog E_partEqL partL_h 4 1 178 (loopOf Try.f129 3) partL_i3 partL_o3 v := by
  rintro ⟨a0, a1, a2, a3, ⟨⟩⟩
  kernel_rfl
theorem partL_q3 : loopList (loopOf Try.f129 3) 4 = [] := by kernel_rfl
theorem partL_l3 : CodeOK Try.prog 1 (.loop (loopOf Try.f129 3)) (partL_h.loop 3) := loop_ok E_partEqL_ok (partL_s3_ok) (LoopsOK_of partL_q3 trivial)
theorem partL_s2_ok : ∀ v, partL_s2 v = roundOf Try.prog E_partEqL partL_h 3 1 178 (loopOf Try.f129 2) partL_i2 partL_o2 v := by
  rintro ⟨a0, a1, a2, a3, ⟨⟩⟩
  kernel_rfl
theorem partL_q2 : loopList (loopOf Try.f129 2) 3 = [(3, loopOf Try.f129 3), (4, loopOf Try.f129 4)] := by kernel_rfl
theorem partL_l2 : CodeOK Try.prog 1 (.loop (loopOf Try.f129 2)) (partL_h.loop 2) := loop_ok E_partEqL_ok (partL_s2_ok) (LoopsOK_of partL_q2 ⟨partL_l3, partL_l4, trivial⟩)
theorem partL_s1_ok : ∀ v, partL_s1 v = roundOf Try.prog E_partEqL partL_h 2 1 178 (loopOf Try.f129 1) partL_i1 partL_o1 v := by
  rintro ⟨a0, a1, a2, a3, ⟨⟩⟩
  kernel_rfl
theorem partL_q1 : loopList (loopOf Try.f129 1) 2 = [] := by kernel_rfl
theorem partL_l1 : CodeOK Try.prog 1 (.loop (loopOf Try.f129 1)) (partL_h.loop 1) := loop_ok E_partEqL_ok (partL_s1_ok) (LoopsOK_of partL_q1 trivial)
theorem partL_s0_ok : ∀ v, partL_s0 v = roundOf Try.prog E_partEqL partL_h 1 1 178 (loopOf Try.f129 0) partL_i0 partL_o0 v := by
  rintro ⟨a0, a1, a2, a3, ⟨⟩⟩
  kernel_rfl
theorem partL_q0 : loopList (loopOf Try.f129 0) 1 = [] := by kernel_rfl
theorem partL_l0 : CodeOK Try.prog 1 (.loop (loopOf Try.f129 0)) (partL_h.loop 0) := loop_ok E_partEqL_ok (partL_s0_ok) (LoopsOK_of partL_q0 trivial)
theorem partL_okd : ∀ v, partL_d v = pevCall Try.prog E_partEqL partL_h Try.f129 partL_i partL_o partL_r v := by
  rintro ⟨a0, a1, a2, a3, ⟨⟩⟩
  kernel_rfl
theorem partL_q : loopList (bodyOf Try.f129) 0 = [(0, loopOf Try.f129 0), (1, loopOf Try.f129 1), (2, loopOf Try.f129 2)] := by kernel_rfl
theorem partL_b : Try.f129.body.isSome = true := by kernel_rfl
theorem partL_n : (Try.f129.name == "runtime.NumGoroutine") = false := by kernel_rfl
theorem partL_ok (v : denL (leaves partL_i)) : partL v = pevCall Try.prog E_partEqL partL_h Try.f129 partL_i partL_o partL_r v := (partL_eq v).trans (partL_okd v)
theorem partL_spec : SpecOK Try.prog 129 (mkCall 5 partL_i partL_o partL_r partL) := call_spec E_partEqL_ok Try.func129 partL_b partL_n rfl partL_ok (LoopsOK_of partL_q ⟨partL_l0, partL_l1, partL_l2, trivial⟩)
def E_partL : Env := E_partEqL.extC 129 4 99 (mkCall 5 partL_i partL_o partL_r partL)
theorem E_partL_ok : EnvOK Try.prog E_partL := Env.extC_ok E_partEqL_ok partL_spec (mkCall_in rfl rfl)

-- slices.pdqsortCmpFunc[[]int]
abbrev pdqL_h (self : (List (List Int) × Int × Int × Int × Unit) → Option ((List (List Int) × Unit))) : Hints := { loop := fun n => match n with | 0 => loopBy 1 148 pdqL_i0 pdqL_o0 (pdqL_s0 self) | _ => fun _ _ _ => none, fp := fun n => match n with | 17 => [[], [], [], [], [], [], [], [0], [0], [], [], [0], [0], [], [], [], []] | _ => [] }
abbrev pdqL_E (self : (List (List Int) × Int × Int × Int × Unit) → Option ((List (List Int) × Unit))) : Env := E_partL.ext 108 false true (mkCall 5 pdqL_i pdqL_o pdqL_r self)
theorem pdqL_s0_ok (self : (List (List Int) × Int × Int × Int × Unit) → Option ((List (List Int) × Unit))) : ∀ v, pdqL_s0 self v = roundOf Try.prog (pdqL_E self) (pdqL_h self) 1 1 148 (loopOf Try.f108 0) pdqL_i0 pdqL_o0 v := by
  rintro ⟨a0, a1, a2, a3, a4, a5, ⟨⟩⟩
  kernel_rfl
theorem pdqL_q0 : loopList (loopOf Try.f108 0) 1 = [] := by kernel_rfl
theorem pdqL_l0 (self : (List (List Int) × Int × Int × Int × Unit) → Option ((List (List Int) × Unit))) (hE : EnvOK Try.prog (pdqL_E self)) : CodeOK Try.prog 1 (.loop (loopOf Try.f108 0)) ((pdqL_h self).loop 0) := loop_ok hE (pdqL_s0_ok self) (LoopsOK_of pdqL_q0 trivial)
theorem pdqL_okd (self : (List (List Int) × Int × Int × Int × Unit) → Option ((List (List Int) × Unit))) : ∀ v, pdqL_d self v = pevCall Try.prog (pdqL_E self) (pdqL_h self) Try.f108 pdqL_i pdqL_o pdqL_r v := by
  rintro ⟨a0, a1, a2, a3, ⟨⟩⟩
  kernel_rfl
theorem pdqL_q : loopList (bodyOf Try.f108) 0 = [(0, loopOf Try.f108 0)] := by kernel_rfl
theorem pdqL_b : Try.f108.body.isSome = true := by kernel_rfl
theorem pdqL_n : (Try.f108.name == "runtime.NumGoroutine") = false := by kernel_rfl
theorem pdqL_fspec : ∀ n, SpecOK Try.prog 108 (mkCall 5 pdqL_i pdqL_o pdqL_r (pdqL_f n)) := by
  intro n
  induction n with
  | zero => exact mkCall_none fun _ => rfl
  | succ n ih =>
    have hE : EnvOK Try.prog (pdqL_E (pdqL_f n)) := Env.ext_ok E_partL_ok ih ((by simp)) (fun _ => mkCall_in rfl rfl)
    let self := pdqL_f n
    exact call_spec hE Try.func108 pdqL_b pdqL_n rfl (pdqL_okd self) (LoopsOK_of pdqL_q ⟨(pdqL_l0 self hE), trivial⟩)
theorem pdqL_spec : SpecOK Try.prog 108 (mkCall 5 pdqL_i pdqL_o pdqL_r pdqL) := by
  have e : pdqL = pdqL_f 100 := funext pdqL_eq
  rw [e]
  exact pdqL_fspec _
def E_pdqL : Env := E_partL.extC 108 4 99 (mkCall 5 pdqL_i pdqL_o pdqL_r pdqL)
theorem E_pdqL_ok : EnvOK Try.prog E_pdqL := Env.extC_ok E_partL_ok pdqL_spec (mkCall_in rfl rfl)

-- slices.SortFunc[[][]int,[]int]
abbrev sortL_h : Hints := {  }
theorem sortL_okd : ∀ v, sortL_d v = pevCall Try.prog E_pdqL sortL_h Try.f98 sortL_i sortL_o sortL_r v := by
  rintro ⟨a0, ⟨⟩⟩
  kernel_rfl
theorem sortL_q : loopList (bodyOf Try.f98) 0 = [] := by kernel_rfl
theorem sortL_b : Try.f98.body.isSome = true := by kernel_rfl
theorem sortL_n : (Try.f98.name == "runtime.NumGoroutine") = false := by kernel_rfl
theorem sortL_ok (v : denL (leaves sortL_i)) : sortL v = pevCall Try.prog E_pdqL sortL_h Try.f98 sortL_i sortL_o sortL_r v := (sortL_eq v).trans (sortL_okd v)
theorem sortL_spec : SpecOK Try.prog 98 (mkCall 2 sortL_i sortL_o sortL_r sortL) := call_spec E_pdqL_ok Try.func98 sortL_b sortL_n rfl sortL_ok (LoopsOK_of sortL_q trivial)
def E_sortL : Env := E_pdqL.extC 98 1 99 (mkCall 2 sortL_i sortL_o sortL_r sortL)
theorem E_sortL_ok : EnvOK Try.prog E_sortL := Env.extC_ok E_pdqL_ok sortL_spec (mkCall_in rfl rfl)

-- archipelago/tour.with
abbrev twith_h : Hints := { loop := fun n => match n with | 0 => loopBy 0 47 twith_i0 twith_o0 twith_s0 | 1 => loopBy 0 47 twith_i1 twith_o1 twith_s1 | _ => fun _ _ _ => none }
theorem twith_s1_ok : ∀ v, twith_s1 v = roundOf Try.prog E_sortL twith_h 2 0 47 (loopOf Try.f69 1) twith_i1 twith_o1 v := by
  rintro ⟨a0, a1, a2, a3, a4, a5, a6, ⟨⟩⟩
  kernel_rfl
theorem twith_q1 : loopList (loopOf Try.f69 1) 2 = [] := by kernel_rfl
theorem twith_l1 : CodeOK Try.prog 0 (.loop (loopOf Try.f69 1)) (twith_h.loop 1) := loop_ok E_sortL_ok (twith_s1_ok) (LoopsOK_of twith_q1 trivial)
theorem twith_s0_ok : ∀ v, twith_s0 v = roundOf Try.prog E_sortL twith_h 1 0 47 (loopOf Try.f69 0) twith_i0 twith_o0 v := by
  rintro ⟨a0, a1, a2, a3, a4, a5, a6, a7, a8, ⟨⟩⟩
  kernel_rfl
theorem twith_q0 : loopList (loopOf Try.f69 0) 1 = [] := by kernel_rfl
theorem twith_l0 : CodeOK Try.prog 0 (.loop (loopOf Try.f69 0)) (twith_h.loop 0) := loop_ok E_sortL_ok (twith_s0_ok) (LoopsOK_of twith_q0 trivial)
theorem twith_okd : ∀ v, twith_d v = pevCall Try.prog E_sortL twith_h Try.f69 twith_i twith_o twith_r v := by
  rintro ⟨a0, a1, a2, ⟨⟩⟩
  kernel_rfl
theorem twith_q : loopList (bodyOf Try.f69) 0 = [(0, loopOf Try.f69 0), (1, loopOf Try.f69 1)] := by kernel_rfl
theorem twith_b : Try.f69.body.isSome = true := by kernel_rfl
theorem twith_n : (Try.f69.name == "runtime.NumGoroutine") = false := by kernel_rfl
theorem twith_ok (v : denL (leaves twith_i)) : twith v = pevCall Try.prog E_sortL twith_h Try.f69 twith_i twith_o twith_r v := (twith_eq v).trans (twith_okd v)
theorem twith_spec : SpecOK Try.prog 69 (mkCall 3 twith_i twith_o twith_r twith) := call_spec E_sortL_ok Try.func69 twith_b twith_n rfl twith_ok (LoopsOK_of twith_q ⟨twith_l0, twith_l1, trivial⟩)
def E_twith : Env := E_sortL.ext 69 true true (mkCall 3 twith_i twith_o twith_r twith)
theorem E_twith_ok : EnvOK Try.prog E_twith := Env.ext_ok E_sortL_ok twith_spec (fun _ => mkCall_local rfl rfl) (fun _ => mkCall_in rfl rfl)

end
end Go.Pev
end
section
/- The models are what the program computes. Printed by a program. -/
namespace Go.Pev
open Go.Proofs
set_option maxRecDepth 100000
noncomputable section
-- archipelago/tour.Link
abbrev tlink_h : Hints := { fp := fun n => match n with | 9 => [[], [28], [0], [0], [], [], [], [], [], [0], [0], [], [], [], [], [], [28], [28, 52, 36, 62], [64], []] | 4 => [[0], [], [], [0], [], [], [], []] | _ => [] }
theorem tlink_okd : ∀ v, tlink_d v = pevCall Try.prog E_twith tlink_h Try.f33 tlink_i tlink_o tlink_r v := by
  rintro ⟨a0, a1, a2, ⟨⟩⟩
  kernel_rfl
theorem tlink_q : loopList (bodyOf Try.f33) 0 = [] := by kernel_rfl
theorem tlink_b : Try.f33.body.isSome = true := by kernel_rfl
theorem tlink_n : (Try.f33.name == "runtime.NumGoroutine") = false := by kernel_rfl
theorem tlink_ok (v : denL (leaves tlink_i)) : tlink v = pevCall Try.prog E_twith tlink_h Try.f33 tlink_i tlink_o tlink_r v := (tlink_eq v).trans (tlink_okd v)
theorem tlink_spec : SpecOK Try.prog 33 (mkCall 3 tlink_i tlink_o tlink_r tlink) := call_spec E_twith_ok Try.func33 tlink_b tlink_n rfl tlink_ok (LoopsOK_of tlink_q trivial)
def E_tlink : Env := E_twith.ext 33 true true (mkCall 3 tlink_i tlink_o tlink_r tlink)
theorem E_tlink_ok : EnvOK Try.prog E_tlink := Env.ext_ok E_twith_ok tlink_spec (fun _ => mkCall_local rfl rfl) (fun _ => mkCall_in rfl rfl)

-- archipelago/tour.Cut
abbrev tcut_h : Hints := { fp := fun n => match n with | 9 => [[0], [], [], [], [], [28], [], [], [], [28], [28], [52, 54], [3], []] | 5 => [[0], [0], [], [], [], [0], [0], [], [], [], [], [], [], [], [], []] | _ => [] }
theorem tcut_okd : ∀ v, tcut_d v = pevCall Try.prog E_tlink tcut_h Try.f35 tcut_i tcut_o tcut_r v := by
  rintro ⟨a0, a1, a2, ⟨⟩⟩
  kernel_rfl
theorem tcut_q : loopList (bodyOf Try.f35) 0 = [] := by kernel_rfl
theorem tcut_b : Try.f35.body.isSome = true := by kernel_rfl
theorem tcut_n : (Try.f35.name == "runtime.NumGoroutine") = false := by kernel_rfl
theorem tcut_ok (v : denL (leaves tcut_i)) : tcut v = pevCall Try.prog E_tlink tcut_h Try.f35 tcut_i tcut_o tcut_r v := (tcut_eq v).trans (tcut_okd v)
theorem tcut_spec : SpecOK Try.prog 35 (mkCall 3 tcut_i tcut_o tcut_r tcut) := call_spec E_tlink_ok Try.func35 tcut_b tcut_n rfl tcut_ok (LoopsOK_of tcut_q trivial)
def E_tcut : Env := E_tlink.ext 35 true true (mkCall 3 tcut_i tcut_o tcut_r tcut)
theorem E_tcut_ok : EnvOK Try.prog E_tcut := Env.ext_ok E_tlink_ok tcut_spec (fun _ => mkCall_local rfl rfl) (fun _ => mkCall_in rfl rfl)

-- archipelago/archipelagolaw18.alive
abbrev alive18_h : Hints := {  }
theorem alive18_okd : ∀ v, alive18_d v = pevCall Try.prog E_tcut alive18_h Try.f31 alive18_i alive18_o alive18_r v := by
  rintro ⟨⟨⟩⟩
  kernel_rfl
theorem alive18_q : loopList (bodyOf Try.f31) 0 = [] := by kernel_rfl
theorem alive18_b : Try.f31.body.isSome = true := by kernel_rfl
theorem alive18_n : (Try.f31.name == "runtime.NumGoroutine") = false := by kernel_rfl
theorem alive18_ok (v : denL (leaves alive18_i)) : alive18 v = pevCall Try.prog E_tcut alive18_h Try.f31 alive18_i alive18_o alive18_r v := (alive18_eq v).trans (alive18_okd v)
theorem alive18_spec : SpecOK Try.prog 31 (mkCall 0 alive18_i alive18_o alive18_r alive18) := call_spec E_tcut_ok Try.func31 alive18_b alive18_n rfl alive18_ok (LoopsOK_of alive18_q trivial)
def E_alive18 : Env := E_tcut.ext 31 true true (mkCall 0 alive18_i alive18_o alive18_r alive18)
theorem E_alive18_ok : EnvOK Try.prog E_alive18 := Env.ext_ok E_tcut_ok alive18_spec (fun _ => mkCall_local rfl rfl) (fun _ => mkCall_in rfl rfl)

-- archipelago/archipelagolaw18.TourAnswers
abbrev tourAnswers_h : Hints := { fp := fun n => match n with | 9 => [[26], [36], [], [], [], [], [], [], [], [46], [56], [], [], [], [], [], [], [], [], [0], [], [0], [], [], [], [], [0], [], [], [0], [], [], [], [], []] | _ => [] }
theorem tourAnswers_okd : ∀ v, tourAnswers_d v = pevCall Try.prog E_alive18 tourAnswers_h Try.f6 tourAnswers_i tourAnswers_o tourAnswers_r v := by
  rintro ⟨a0, a1, a2, ⟨⟩⟩
  kernel_rfl
theorem tourAnswers_q : loopList (bodyOf Try.f6) 0 = [] := by kernel_rfl
theorem tourAnswers_b : Try.f6.body.isSome = true := by kernel_rfl
theorem tourAnswers_n : (Try.f6.name == "runtime.NumGoroutine") = false := by kernel_rfl
theorem tourAnswers_ok (v : denL (leaves tourAnswers_i)) : tourAnswers v = pevCall Try.prog E_alive18 tourAnswers_h Try.f6 tourAnswers_i tourAnswers_o tourAnswers_r v := (tourAnswers_eq v).trans (tourAnswers_okd v)
theorem tourAnswers_spec : SpecOK Try.prog 6 (mkCall 3 tourAnswers_i tourAnswers_o tourAnswers_r tourAnswers) := call_spec E_alive18_ok Try.func6 tourAnswers_b tourAnswers_n rfl tourAnswers_ok (LoopsOK_of tourAnswers_q trivial)
def E_tourAnswers : Env := E_alive18.ext 6 true true (mkCall 3 tourAnswers_i tourAnswers_o tourAnswers_r tourAnswers)
theorem E_tourAnswers_ok : EnvOK Try.prog E_tourAnswers := Env.ext_ok E_alive18_ok tourAnswers_spec (fun _ => mkCall_local rfl rfl) (fun _ => mkCall_in rfl rfl)

-- archipelago/archipelagolaw18.TourTokens
abbrev tourTokens_h : Hints := {  }
theorem tourTokens_okd : ∀ v, tourTokens_d v = pevCall Try.prog E_tourAnswers tourTokens_h Try.f7 tourTokens_i tourTokens_o tourTokens_r v := by
  rintro ⟨a0, a1, a2, ⟨⟩⟩
  kernel_rfl
theorem tourTokens_q : loopList (bodyOf Try.f7) 0 = [] := by kernel_rfl
theorem tourTokens_b : Try.f7.body.isSome = true := by kernel_rfl
theorem tourTokens_n : (Try.f7.name == "runtime.NumGoroutine") = false := by kernel_rfl
theorem tourTokens_ok (v : denL (leaves tourTokens_i)) : tourTokens v = pevCall Try.prog E_tourAnswers tourTokens_h Try.f7 tourTokens_i tourTokens_o tourTokens_r v := (tourTokens_eq v).trans (tourTokens_okd v)
theorem tourTokens_spec : SpecOK Try.prog 7 (mkCall 3 tourTokens_i tourTokens_o tourTokens_r tourTokens) := call_spec E_tourAnswers_ok Try.func7 tourTokens_b tourTokens_n rfl tourTokens_ok (LoopsOK_of tourTokens_q trivial)
def E_tourTokens : Env := E_tourAnswers.ext 7 true true (mkCall 3 tourTokens_i tourTokens_o tourTokens_r tourTokens)
theorem E_tourTokens_ok : EnvOK Try.prog E_tourTokens := Env.ext_ok E_tourAnswers_ok tourTokens_spec (fun _ => mkCall_local rfl rfl) (fun _ => mkCall_in rfl rfl)

-- archipelago/archipelagolaw18.TourBack
abbrev tourBack_h : Hints := { fp := fun n => match n with | 10 => [[], [], [], [], [], [], [], [36], [0], [], [], [], [46], [0], [], [], [], [26], [], [], [], [26], [26], [], [0], [0], [], [], [], [], [], [26], [], [], [26], [], [], [], [], []] | _ => [] }
theorem tourBack_okd : ∀ v, tourBack_d v = pevCall Try.prog E_tourTokens tourBack_h Try.f8 tourBack_i tourBack_o tourBack_r v := by
  rintro ⟨a0, a1, a2, ⟨⟩⟩
  kernel_rfl
theorem tourBack_q : loopList (bodyOf Try.f8) 0 = [] := by kernel_rfl
theorem tourBack_b : Try.f8.body.isSome = true := by kernel_rfl
theorem tourBack_n : (Try.f8.name == "runtime.NumGoroutine") = false := by kernel_rfl
theorem tourBack_ok (v : denL (leaves tourBack_i)) : tourBack v = pevCall Try.prog E_tourTokens tourBack_h Try.f8 tourBack_i tourBack_o tourBack_r v := (tourBack_eq v).trans (tourBack_okd v)
theorem tourBack_spec : SpecOK Try.prog 8 (mkCall 3 tourBack_i tourBack_o tourBack_r tourBack) := call_spec E_tourTokens_ok Try.func8 tourBack_b tourBack_n rfl tourBack_ok (LoopsOK_of tourBack_q trivial)
def E_tourBack : Env := E_tourTokens.ext 8 true true (mkCall 3 tourBack_i tourBack_o tourBack_r tourBack)
theorem E_tourBack_ok : EnvOK Try.prog E_tourBack := Env.ext_ok E_tourTokens_ok tourBack_spec (fun _ => mkCall_local rfl rfl) (fun _ => mkCall_in rfl rfl)

-- archipelago/archipelagolaw18.TourArcs
abbrev tourArcs_h : Hints := { loop := fun n => match n with | 0 => loopBy 0 153 tourArcs_i0 tourArcs_o0 tourArcs_s0 | 1 => loopBy 0 153 tourArcs_i1 tourArcs_o1 tourArcs_s1 | 2 => loopBy 0 153 tourArcs_i2 tourArcs_o2 tourArcs_s2 | _ => fun _ _ _ => none, fp := fun n => match n with | 13 => [[0], [], [], [], [], [], [], [], [], [], [], [], [], [], [], [], [], [], [], [], [], [], [11], []] | 28 => [[], [], [], [], [], [0], [0], [], [], [], [], [], [], [], [], [], [], []] | _ => [] }
theorem tourArcs_s2_ok : ∀ v, tourArcs_s2 v = roundOf Try.prog E_tourBack tourArcs_h 3 0 153 (loopOf Try.f9 2) tourArcs_i2 tourArcs_o2 v := by
  rintro ⟨a0, a1, a2, a3, a4, a5, a6, a7, ⟨⟩⟩
  kernel_rfl
theorem tourArcs_q2 : loopList (loopOf Try.f9 2) 3 = [] := by kernel_rfl
theorem tourArcs_l2 : CodeOK Try.prog 0 (.loop (loopOf Try.f9 2)) (tourArcs_h.loop 2) := loop_ok E_tourBack_ok (tourArcs_s2_ok) (LoopsOK_of tourArcs_q2 trivial)
theorem tourArcs_s1_ok : ∀ v, tourArcs_s1 v = roundOf Try.prog E_tourBack tourArcs_h 2 0 153 (loopOf Try.f9 1) tourArcs_i1 tourArcs_o1 v := by
  rintro ⟨a0, a1, a2, a3, a4, a5, ⟨⟩⟩
  kernel_rfl
theorem tourArcs_q1 : loopList (loopOf Try.f9 1) 2 = [(2, loopOf Try.f9 2)] := by kernel_rfl
theorem tourArcs_l1 : CodeOK Try.prog 0 (.loop (loopOf Try.f9 1)) (tourArcs_h.loop 1) := loop_ok E_tourBack_ok (tourArcs_s1_ok) (LoopsOK_of tourArcs_q1 ⟨tourArcs_l2, trivial⟩)
theorem tourArcs_s0_ok : ∀ v, tourArcs_s0 v = roundOf Try.prog E_tourBack tourArcs_h 1 0 153 (loopOf Try.f9 0) tourArcs_i0 tourArcs_o0 v := by
  rintro ⟨a0, a1, a2, a3, a4, a5, ⟨⟩⟩
  kernel_rfl
theorem tourArcs_q0 : loopList (loopOf Try.f9 0) 1 = [] := by kernel_rfl
theorem tourArcs_l0 : CodeOK Try.prog 0 (.loop (loopOf Try.f9 0)) (tourArcs_h.loop 0) := loop_ok E_tourBack_ok (tourArcs_s0_ok) (LoopsOK_of tourArcs_q0 trivial)
theorem tourArcs_okd : ∀ v, tourArcs_d v = pevCall Try.prog E_tourBack tourArcs_h Try.f9 tourArcs_i tourArcs_o tourArcs_r v := by
  rintro ⟨a0, a1, ⟨⟩⟩
  kernel_rfl
theorem tourArcs_q : loopList (bodyOf Try.f9) 0 = [(0, loopOf Try.f9 0), (1, loopOf Try.f9 1)] := by kernel_rfl
theorem tourArcs_b : Try.f9.body.isSome = true := by kernel_rfl
theorem tourArcs_n : (Try.f9.name == "runtime.NumGoroutine") = false := by kernel_rfl
theorem tourArcs_ok (v : denL (leaves tourArcs_i)) : tourArcs v = pevCall Try.prog E_tourBack tourArcs_h Try.f9 tourArcs_i tourArcs_o tourArcs_r v := (tourArcs_eq v).trans (tourArcs_okd v)
theorem tourArcs_spec : SpecOK Try.prog 9 (mkCall 2 tourArcs_i tourArcs_o tourArcs_r tourArcs) := call_spec E_tourBack_ok Try.func9 tourArcs_b tourArcs_n rfl tourArcs_ok (LoopsOK_of tourArcs_q ⟨tourArcs_l0, tourArcs_l1, trivial⟩)
def E_tourArcs : Env := E_tourBack.ext 9 true true (mkCall 2 tourArcs_i tourArcs_o tourArcs_r tourArcs)
theorem E_tourArcs_ok : EnvOK Try.prog E_tourArcs := Env.ext_ok E_tourBack_ok tourArcs_spec (fun _ => mkCall_local rfl rfl) (fun _ => mkCall_in rfl rfl)

-- archipelago/archipelagolaw18.TourCuts
abbrev tourCuts_h : Hints := { loop := fun n => match n with | 0 => loopBy 0 111 tourCuts_i0 tourCuts_o0 tourCuts_s0 | _ => fun _ _ _ => none, fp := fun n => match n with | 17 => [[2], [], [], [2], [], [], [], [0], [], [], [0], [], [], [], []] | 8 => [[26], [], [], [], [26], [26], [], [0], [0], [], [], [], [], [], [26], [], [], [26], [], [], [], [], [], [0], [], [], [0], [], [], [], []] | _ => [] }
theorem tourCuts_s0_ok : ∀ v, tourCuts_s0 v = roundOf Try.prog E_tourArcs tourCuts_h 1 0 111 (loopOf Try.f10 0) tourCuts_i0 tourCuts_o0 v := by
  rintro ⟨a0, a1, a2, a3, a4, a5, ⟨⟩⟩
  kernel_rfl
theorem tourCuts_q0 : loopList (loopOf Try.f10 0) 1 = [] := by kernel_rfl
theorem tourCuts_l0 : CodeOK Try.prog 0 (.loop (loopOf Try.f10 0)) (tourCuts_h.loop 0) := loop_ok E_tourArcs_ok (tourCuts_s0_ok) (LoopsOK_of tourCuts_q0 trivial)
theorem tourCuts_okd : ∀ v, tourCuts_d v = pevCall Try.prog E_tourArcs tourCuts_h Try.f10 tourCuts_i tourCuts_o tourCuts_r v := by
  rintro ⟨a0, a1, a2, ⟨⟩⟩
  kernel_rfl
theorem tourCuts_q : loopList (bodyOf Try.f10) 0 = [(0, loopOf Try.f10 0)] := by kernel_rfl
theorem tourCuts_b : Try.f10.body.isSome = true := by kernel_rfl
theorem tourCuts_n : (Try.f10.name == "runtime.NumGoroutine") = false := by kernel_rfl
theorem tourCuts_ok (v : denL (leaves tourCuts_i)) : tourCuts v = pevCall Try.prog E_tourArcs tourCuts_h Try.f10 tourCuts_i tourCuts_o tourCuts_r v := (tourCuts_eq v).trans (tourCuts_okd v)
theorem tourCuts_spec : SpecOK Try.prog 10 (mkCall 3 tourCuts_i tourCuts_o tourCuts_r tourCuts) := call_spec E_tourArcs_ok Try.func10 tourCuts_b tourCuts_n rfl tourCuts_ok (LoopsOK_of tourCuts_q ⟨tourCuts_l0, trivial⟩)
def E_tourCuts : Env := E_tourArcs.ext 10 true true (mkCall 3 tourCuts_i tourCuts_o tourCuts_r tourCuts)
theorem E_tourCuts_ok : EnvOK Try.prog E_tourCuts := Env.ext_ok E_tourArcs_ok tourCuts_spec (fun _ => mkCall_local rfl rfl) (fun _ => mkCall_in rfl rfl)

end
end Go.Pev
end
section
/- The models are what the program computes. -/
end
