/- A part of the proofs of this seat: G12P5 G12P6 G12P. -/
import Derived.Test.YtacapnnkndaonaaP65e8962229
set_option linter.unusedVariables false
set_option linter.unusedSimpArgs false
set_option linter.unusedSectionVars false
section
/- The models are what the program computes. Printed by a program. -/
namespace Go.Pev
open Go.Proofs
set_option maxRecDepth 100000
noncomputable section
-- archipelago/archipelagoref07.Words
abbrev words07_h : Hints := { loop := fun n => match n with | 0 => loopBy 0 26 words07_i0 words07_o0 words07_s0 | _ => fun _ _ _ => none, fp := fun n => match n with | 6 => [[], [], [], [], [], [], [], [], []] | _ => [] }
theorem words07_s0_ok : ∀ v, words07_s0 v = roundOf Try.prog E_without11 words07_h 1 0 26 (loopOf Try.f26 0) words07_i0 words07_o0 v := by
  rintro ⟨a0, a1, a2, ⟨⟩⟩
  kernel_rfl
theorem words07_q0 : loopList (loopOf Try.f26 0) 1 = [] := by kernel_rfl
theorem words07_l0 : CodeOK Try.prog 0 (.loop (loopOf Try.f26 0)) (words07_h.loop 0) := loop_ok E_without11_ok (words07_s0_ok) (LoopsOK_of words07_q0 trivial)
theorem words07_okd : ∀ v, words07_d v = pevCall Try.prog E_without11 words07_h Try.f26 words07_i words07_o words07_r v := by
  rintro ⟨a0, a1, ⟨⟩⟩
  kernel_rfl
theorem words07_q : loopList (bodyOf Try.f26) 0 = [(0, loopOf Try.f26 0)] := by kernel_rfl
theorem words07_b : Try.f26.body.isSome = true := by kernel_rfl
theorem words07_n : (Try.f26.name == "runtime.NumGoroutine") = false := by kernel_rfl
theorem words07_ok (v : denL (leaves words07_i)) : words07 v = pevCall Try.prog E_without11 words07_h Try.f26 words07_i words07_o words07_r v := (words07_eq v).trans (words07_okd v)
theorem words07_spec : SpecOK Try.prog 26 (mkCall 2 words07_i words07_o words07_r words07) := call_spec E_without11_ok Try.func26 words07_b words07_n rfl words07_ok (LoopsOK_of words07_q ⟨words07_l0, trivial⟩)
def E_words07 : Env := E_without11.ext 26 true true (mkCall 2 words07_i words07_o words07_r words07)
theorem E_words07_ok : EnvOK Try.prog E_words07 := Env.ext_ok E_without11_ok words07_spec (fun _ => mkCall_local rfl rfl) (fun _ => mkCall_in rfl rfl)

-- archipelago/archipelagoref12.Same
abbrev same12_h : Hints := { loop := fun n => match n with | 0 => loopBy 0 43 same12_i0 same12_o0 same12_s0 | _ => fun _ _ _ => none, fp := fun n => match n with | 6 => [[0], [0], [], [], [], [2], [2], [], [], [], []] | _ => [] }
theorem same12_s0_ok : ∀ v, same12_s0 v = roundOf Try.prog E_words07 same12_h 1 0 43 (loopOf Try.f23 0) same12_i0 same12_o0 v := by
  rintro ⟨a0, a1, a2, a3, a4, a5, a6, ⟨⟩⟩
  kernel_rfl
theorem same12_q0 : loopList (loopOf Try.f23 0) 1 = [] := by kernel_rfl
theorem same12_l0 : CodeOK Try.prog 0 (.loop (loopOf Try.f23 0)) (same12_h.loop 0) := loop_ok E_words07_ok (same12_s0_ok) (LoopsOK_of same12_q0 trivial)
theorem same12_okd : ∀ v, same12_d v = pevCall Try.prog E_words07 same12_h Try.f23 same12_i same12_o same12_r v := by
  rintro ⟨a0, a1, ⟨⟩⟩
  kernel_rfl
theorem same12_q : loopList (bodyOf Try.f23) 0 = [(0, loopOf Try.f23 0)] := by kernel_rfl
theorem same12_b : Try.f23.body.isSome = true := by kernel_rfl
theorem same12_n : (Try.f23.name == "runtime.NumGoroutine") = false := by kernel_rfl
theorem same12_ok (v : denL (leaves same12_i)) : same12 v = pevCall Try.prog E_words07 same12_h Try.f23 same12_i same12_o same12_r v := (same12_eq v).trans (same12_okd v)
theorem same12_spec : SpecOK Try.prog 23 (mkCall 2 same12_i same12_o same12_r same12) := call_spec E_words07_ok Try.func23 same12_b same12_n rfl same12_ok (LoopsOK_of same12_q ⟨same12_l0, trivial⟩)
def E_same12 : Env := E_words07.ext 23 true true (mkCall 2 same12_i same12_o same12_r same12)
theorem E_same12_ok : EnvOK Try.prog E_same12 := Env.ext_ok E_words07_ok same12_spec (fun _ => mkCall_local rfl rfl) (fun _ => mkCall_in rfl rfl)

-- archipelago/archipelagoref12.Rising
abbrev rising12_h : Hints := { loop := fun n => match n with | 0 => loopBy 0 60 rising12_i0 rising12_o0 rising12_s0 | 1 => loopBy 0 60 rising12_i1 rising12_o1 rising12_s1 | _ => fun _ _ _ => none, fp := fun n => match n with | 9 => [[], [], [], [0], [3, 0], [], [], [], [], [], [5, 6], [], [], [0], [9, 0], []] | 8 => [[], [], [0], [], [], [], [], [0], [0], [], [], [], [], [], []] | 6 => [[], [], [0], [], [], [], [], [0], [0], [], [], [], [], [], []] | _ => [] }
theorem rising12_s1_ok : ∀ v, rising12_s1 v = roundOf Try.prog E_same12 rising12_h 2 0 60 (loopOf Try.f61 1) rising12_i1 rising12_o1 v := by
  rintro ⟨a0, a1, a2, a3, ⟨⟩⟩
  kernel_rfl
theorem rising12_q1 : loopList (loopOf Try.f61 1) 2 = [] := by kernel_rfl
theorem rising12_l1 : CodeOK Try.prog 0 (.loop (loopOf Try.f61 1)) (rising12_h.loop 1) := loop_ok E_same12_ok (rising12_s1_ok) (LoopsOK_of rising12_q1 trivial)
theorem rising12_s0_ok : ∀ v, rising12_s0 v = roundOf Try.prog E_same12 rising12_h 1 0 60 (loopOf Try.f61 0) rising12_i0 rising12_o0 v := by
  rintro ⟨a0, a1, a2, ⟨⟩⟩
  kernel_rfl
theorem rising12_q0 : loopList (loopOf Try.f61 0) 1 = [(1, loopOf Try.f61 1)] := by kernel_rfl
theorem rising12_l0 : CodeOK Try.prog 0 (.loop (loopOf Try.f61 0)) (rising12_h.loop 0) := loop_ok E_same12_ok (rising12_s0_ok) (LoopsOK_of rising12_q0 ⟨rising12_l1, trivial⟩)
theorem rising12_okd : ∀ v, rising12_d v = pevCall Try.prog E_same12 rising12_h Try.f61 rising12_i rising12_o rising12_r v := by
  rintro ⟨a0, ⟨⟩⟩
  kernel_rfl
theorem rising12_q : loopList (bodyOf Try.f61) 0 = [(0, loopOf Try.f61 0)] := by kernel_rfl
theorem rising12_b : Try.f61.body.isSome = true := by kernel_rfl
theorem rising12_n : (Try.f61.name == "runtime.NumGoroutine") = false := by kernel_rfl
theorem rising12_ok (v : denL (leaves rising12_i)) : rising12 v = pevCall Try.prog E_same12 rising12_h Try.f61 rising12_i rising12_o rising12_r v := (rising12_eq v).trans (rising12_okd v)
theorem rising12_spec : SpecOK Try.prog 61 (mkCall 1 rising12_i rising12_o rising12_r rising12) := call_spec E_same12_ok Try.func61 rising12_b rising12_n rfl rising12_ok (LoopsOK_of rising12_q ⟨rising12_l0, trivial⟩)
def E_rising12 : Env := E_same12.ext 61 true true (mkCall 1 rising12_i rising12_o rising12_r rising12)
theorem E_rising12_ok : EnvOK Try.prog E_rising12 := Env.ext_ok E_same12_ok rising12_spec (fun _ => mkCall_local rfl rfl) (fun _ => mkCall_in rfl rfl)

-- archipelago/archipelagoref12.Make
abbrev make12_h : Hints := { loop := fun n => match n with | 0 => loopBy 0 70 make12_i0 make12_o0 make12_s0 | 1 => loopBy 0 70 make12_i1 make12_o1 make12_s1 | _ => fun _ _ _ => none, fp := fun n => match n with | 14 => [[4], [4], [], [4], [4], [], [], [], [2], [2], [6], [7], [8], [9]] | 7 => [[], [], [], [], [], [], [], [15]] | _ => [] }
theorem make12_s1_ok : ∀ v, make12_s1 v = roundOf Try.prog E_rising12 make12_h 2 0 70 (loopOf Try.f18 1) make12_i1 make12_o1 v := by
  rintro ⟨a0, a1, a2, a3, a4, a5, a6, a7, a8, ⟨⟩⟩
  kernel_rfl
theorem make12_q1 : loopList (loopOf Try.f18 1) 2 = [] := by kernel_rfl
theorem make12_l1 : CodeOK Try.prog 0 (.loop (loopOf Try.f18 1)) (make12_h.loop 1) := loop_ok E_rising12_ok (make12_s1_ok) (LoopsOK_of make12_q1 trivial)
theorem make12_s0_ok : ∀ v, make12_s0 v = roundOf Try.prog E_rising12 make12_h 1 0 70 (loopOf Try.f18 0) make12_i0 make12_o0 v := by
  rintro ⟨a0, a1, a2, a3, a4, a5, a6, a7, ⟨⟩⟩
  kernel_rfl
theorem make12_q0 : loopList (loopOf Try.f18 0) 1 = [(1, loopOf Try.f18 1)] := by kernel_rfl
theorem make12_l0 : CodeOK Try.prog 0 (.loop (loopOf Try.f18 0)) (make12_h.loop 0) := loop_ok E_rising12_ok (make12_s0_ok) (LoopsOK_of make12_q0 ⟨make12_l1, trivial⟩)
theorem make12_okd : ∀ v, make12_d v = pevCall Try.prog E_rising12 make12_h Try.f18 make12_i make12_o make12_r v := by
  rintro ⟨a0, a1, ⟨⟩⟩
  kernel_rfl
theorem make12_q : loopList (bodyOf Try.f18) 0 = [(0, loopOf Try.f18 0)] := by kernel_rfl
theorem make12_b : Try.f18.body.isSome = true := by kernel_rfl
theorem make12_n : (Try.f18.name == "runtime.NumGoroutine") = false := by kernel_rfl
theorem make12_ok (v : denL (leaves make12_i)) : make12 v = pevCall Try.prog E_rising12 make12_h Try.f18 make12_i make12_o make12_r v := (make12_eq v).trans (make12_okd v)
theorem make12_spec : SpecOK Try.prog 18 (mkCall 2 make12_i make12_o make12_r make12) := call_spec E_rising12_ok Try.func18 make12_b make12_n rfl make12_ok (LoopsOK_of make12_q ⟨make12_l0, trivial⟩)
def E_make12 : Env := E_rising12.ext 18 true true (mkCall 2 make12_i make12_o make12_r make12)
theorem E_make12_ok : EnvOK Try.prog E_make12 := Env.ext_ok E_rising12_ok make12_spec (fun _ => mkCall_local rfl rfl) (fun _ => mkCall_in rfl rfl)

-- archipelago/archipelagoref12.Keys
abbrev keys12_h : Hints := { loop := fun n => match n with | 0 => loopBy 0 34 keys12_i0 keys12_o0 keys12_s0 | _ => fun _ _ _ => none }
theorem keys12_s0_ok : ∀ v, keys12_s0 v = roundOf Try.prog E_make12 keys12_h 1 0 34 (loopOf Try.f28 0) keys12_i0 keys12_o0 v := by
  rintro ⟨a0, a1, a2, a3, a4, ⟨⟩⟩
  kernel_rfl
theorem keys12_q0 : loopList (loopOf Try.f28 0) 1 = [] := by kernel_rfl
theorem keys12_l0 : CodeOK Try.prog 0 (.loop (loopOf Try.f28 0)) (keys12_h.loop 0) := loop_ok E_make12_ok (keys12_s0_ok) (LoopsOK_of keys12_q0 trivial)
theorem keys12_okd : ∀ v, keys12_d v = pevCall Try.prog E_make12 keys12_h Try.f28 keys12_i keys12_o keys12_r v := by
  rintro ⟨a0, ⟨⟩⟩
  kernel_rfl
theorem keys12_q : loopList (bodyOf Try.f28) 0 = [(0, loopOf Try.f28 0)] := by kernel_rfl
theorem keys12_b : Try.f28.body.isSome = true := by kernel_rfl
theorem keys12_n : (Try.f28.name == "runtime.NumGoroutine") = false := by kernel_rfl
theorem keys12_ok (v : denL (leaves keys12_i)) : keys12 v = pevCall Try.prog E_make12 keys12_h Try.f28 keys12_i keys12_o keys12_r v := (keys12_eq v).trans (keys12_okd v)
theorem keys12_spec : SpecOK Try.prog 28 (mkCall 1 keys12_i keys12_o keys12_r keys12) := call_spec E_make12_ok Try.func28 keys12_b keys12_n rfl keys12_ok (LoopsOK_of keys12_q ⟨keys12_l0, trivial⟩)
def E_keys12 : Env := E_make12.ext 28 true true (mkCall 1 keys12_i keys12_o keys12_r keys12)
theorem E_keys12_ok : EnvOK Try.prog E_keys12 := Env.ext_ok E_make12_ok keys12_spec (fun _ => mkCall_local rfl rfl) (fun _ => mkCall_in rfl rfl)

-- archipelago/archipelagoref12.Right
abbrev right12_h : Hints := { fp := fun n => match n with | 1 => [[0], [0], [0], [], [2], [], [], [], [], [19], []] | _ => [] }
theorem right12_okd : ∀ v, right12_d v = pevCall Try.prog E_keys12 right12_h Try.f25 right12_i right12_o right12_r v := by
  rintro ⟨a0, ⟨⟩⟩
  kernel_rfl
theorem right12_q : loopList (bodyOf Try.f25) 0 = [] := by kernel_rfl
theorem right12_b : Try.f25.body.isSome = true := by kernel_rfl
theorem right12_n : (Try.f25.name == "runtime.NumGoroutine") = false := by kernel_rfl
theorem right12_ok (v : denL (leaves right12_i)) : right12 v = pevCall Try.prog E_keys12 right12_h Try.f25 right12_i right12_o right12_r v := (right12_eq v).trans (right12_okd v)
theorem right12_spec : SpecOK Try.prog 25 (mkCall 1 right12_i right12_o right12_r right12) := call_spec E_keys12_ok Try.func25 right12_b right12_n rfl right12_ok (LoopsOK_of right12_q trivial)
def E_right12 : Env := E_keys12.ext 25 true true (mkCall 1 right12_i right12_o right12_r right12)
theorem E_right12_ok : EnvOK Try.prog E_right12 := Env.ext_ok E_keys12_ok right12_spec (fun _ => mkCall_local rfl rfl) (fun _ => mkCall_in rfl rfl)

-- archipelago/archipelagoref12.Find
abbrev find12_h : Hints := { loop := fun n => match n with | 0 => loopBy 0 49 find12_i0 find12_o0 find12_s0 | _ => fun _ _ _ => none }
theorem find12_s0_ok : ∀ v, find12_s0 v = roundOf Try.prog E_right12 find12_h 1 0 49 (loopOf Try.f20 0) find12_i0 find12_o0 v := by
  rintro ⟨a0, a1, a2, a3, a4, a5, a6, ⟨⟩⟩
  kernel_rfl
theorem find12_q0 : loopList (loopOf Try.f20 0) 1 = [] := by kernel_rfl
theorem find12_l0 : CodeOK Try.prog 0 (.loop (loopOf Try.f20 0)) (find12_h.loop 0) := loop_ok E_right12_ok (find12_s0_ok) (LoopsOK_of find12_q0 trivial)
theorem find12_okd : ∀ v, find12_d v = pevCall Try.prog E_right12 find12_h Try.f20 find12_i find12_o find12_r v := by
  rintro ⟨a0, a1, ⟨⟩⟩
  kernel_rfl
theorem find12_q : loopList (bodyOf Try.f20) 0 = [(0, loopOf Try.f20 0)] := by kernel_rfl
theorem find12_b : Try.f20.body.isSome = true := by kernel_rfl
theorem find12_n : (Try.f20.name == "runtime.NumGoroutine") = false := by kernel_rfl
theorem find12_ok (v : denL (leaves find12_i)) : find12 v = pevCall Try.prog E_right12 find12_h Try.f20 find12_i find12_o find12_r v := (find12_eq v).trans (find12_okd v)
theorem find12_spec : SpecOK Try.prog 20 (mkCall 2 find12_i find12_o find12_r find12) := call_spec E_right12_ok Try.func20 find12_b find12_n rfl find12_ok (LoopsOK_of find12_q ⟨find12_l0, trivial⟩)
def E_find12 : Env := E_right12.ext 20 true true (mkCall 2 find12_i find12_o find12_r find12)
theorem E_find12_ok : EnvOK Try.prog E_find12 := Env.ext_ok E_right12_ok find12_spec (fun _ => mkCall_local rfl rfl) (fun _ => mkCall_in rfl rfl)

-- archipelago/archipelagoref12.Put
abbrev put12_h : Hints := { fp := fun n => match n with | 3 => [[0], [0], [0], [], [], [13], [20], [], [], [], [], [31], []] | _ => [] }
theorem put12_okd : ∀ v, put12_d v = pevCall Try.prog E_find12 put12_h Try.f14 put12_i put12_o put12_r v := by
  rintro ⟨a0, a1, ⟨⟩⟩
  kernel_rfl
theorem put12_q : loopList (bodyOf Try.f14) 0 = [] := by kernel_rfl
theorem put12_b : Try.f14.body.isSome = true := by kernel_rfl
theorem put12_n : (Try.f14.name == "runtime.NumGoroutine") = false := by kernel_rfl
theorem put12_ok (v : denL (leaves put12_i)) : put12 v = pevCall Try.prog E_find12 put12_h Try.f14 put12_i put12_o put12_r v := (put12_eq v).trans (put12_okd v)
theorem put12_spec : SpecOK Try.prog 14 (mkCall 2 put12_i put12_o put12_r put12) := call_spec E_find12_ok Try.func14 put12_b put12_n rfl put12_ok (LoopsOK_of put12_q trivial)
def E_put12 : Env := E_find12.ext 14 true true (mkCall 2 put12_i put12_o put12_r put12)
theorem E_put12_ok : EnvOK Try.prog E_put12 := Env.ext_ok E_find12_ok put12_spec (fun _ => mkCall_local rfl rfl) (fun _ => mkCall_in rfl rfl)

-- archipelago/archipelagoref12.Drop
abbrev drop12_h : Hints := { fp := fun n => match n with | 3 => [[0], [0], [0], [], [], [12], [20], [], [], [3], []] | _ => [] }
theorem drop12_okd : ∀ v, drop12_d v = pevCall Try.prog E_put12 drop12_h Try.f16 drop12_i drop12_o drop12_r v := by
  rintro ⟨a0, a1, ⟨⟩⟩
  kernel_rfl
theorem drop12_q : loopList (bodyOf Try.f16) 0 = [] := by kernel_rfl
theorem drop12_b : Try.f16.body.isSome = true := by kernel_rfl
theorem drop12_n : (Try.f16.name == "runtime.NumGoroutine") = false := by kernel_rfl
theorem drop12_ok (v : denL (leaves drop12_i)) : drop12 v = pevCall Try.prog E_put12 drop12_h Try.f16 drop12_i drop12_o drop12_r v := (drop12_eq v).trans (drop12_okd v)
theorem drop12_spec : SpecOK Try.prog 16 (mkCall 2 drop12_i drop12_o drop12_r drop12) := call_spec E_put12_ok Try.func16 drop12_b drop12_n rfl drop12_ok (LoopsOK_of drop12_q trivial)
def E_drop12 : Env := E_put12.ext 16 true true (mkCall 2 drop12_i drop12_o drop12_r drop12)
theorem E_drop12_ok : EnvOK Try.prog E_drop12 := Env.ext_ok E_put12_ok drop12_spec (fun _ => mkCall_local rfl rfl) (fun _ => mkCall_in rfl rfl)

-- archipelago/archipelagolaw12.alive
abbrev alive12_h : Hints := {  }
theorem alive12_okd : ∀ v, alive12_d v = pevCall Try.prog E_drop12 alive12_h Try.f11 alive12_i alive12_o alive12_r v := by
  rintro ⟨⟨⟩⟩
  kernel_rfl
theorem alive12_q : loopList (bodyOf Try.f11) 0 = [] := by kernel_rfl
theorem alive12_b : Try.f11.body.isSome = true := by kernel_rfl
theorem alive12_n : (Try.f11.name == "runtime.NumGoroutine") = false := by kernel_rfl
theorem alive12_ok (v : denL (leaves alive12_i)) : alive12 v = pevCall Try.prog E_drop12 alive12_h Try.f11 alive12_i alive12_o alive12_r v := (alive12_eq v).trans (alive12_okd v)
theorem alive12_spec : SpecOK Try.prog 11 (mkCall 0 alive12_i alive12_o alive12_r alive12) := call_spec E_drop12_ok Try.func11 alive12_b alive12_n rfl alive12_ok (LoopsOK_of alive12_q trivial)
def E_alive12 : Env := E_drop12.ext 11 true true (mkCall 0 alive12_i alive12_o alive12_r alive12)
theorem E_alive12_ok : EnvOK Try.prog E_alive12 := Env.ext_ok E_drop12_ok alive12_spec (fun _ => mkCall_local rfl rfl) (fun _ => mkCall_in rfl rfl)

-- archipelago/archipelagolaw12.TableAnswers
abbrev tableAnswers_h : Hints := { loop := fun n => match n with | 0 => loopBy 0 167 tableAnswers_i0 tableAnswers_o0 tableAnswers_s0 | _ => fun _ _ _ => none, fp := fun n => match n with | 16 => [[], [], [], [], [], [], [], [], [], [], [], [], [], [], [], [], [], [], [], [], [], [], [], [], [], [], [], []] | 15 => [[0], [], [], [], [], [], [], [], [], [], [], [], []] | 14 => [[0], [], [], [], [], [], [], [], [], [], [], [], []] | 18 => [[2], [4], [], [], [], [], [], [], [], [6], [8], [], [], [], [], [], [], [], [], [10], [16], [12, 14, 18, 20], [], [], [], [], [], [], [], [0], [], [0], [], [], [], [], [0], [], [0], [], [62, 70], [], []] | _ => [] }
theorem tableAnswers_s0_ok : ∀ v, tableAnswers_s0 v = roundOf Try.prog E_alive12 tableAnswers_h 1 0 167 (loopOf Try.f3 0) tableAnswers_i0 tableAnswers_o0 v := by
  rintro ⟨a0, a1, a2, a3, a4, a5, a6, a7, a8, a9, a10, a11, a12, a13, a14, a15, a16, a17, a18, a19, a20, a21, a22, a23, a24, a25, a26, a27, a28, a29, ⟨⟩⟩
  kernel_rfl
theorem tableAnswers_q0 : loopList (loopOf Try.f3 0) 1 = [] := by kernel_rfl
theorem tableAnswers_l0 : CodeOK Try.prog 0 (.loop (loopOf Try.f3 0)) (tableAnswers_h.loop 0) := loop_ok E_alive12_ok (tableAnswers_s0_ok) (LoopsOK_of tableAnswers_q0 trivial)
theorem tableAnswers_okd : ∀ v, tableAnswers_d v = pevCall Try.prog E_alive12 tableAnswers_h Try.f3 tableAnswers_i tableAnswers_o tableAnswers_r v := by
  rintro ⟨a0, a1, a2, ⟨⟩⟩
  kernel_rfl
theorem tableAnswers_q : loopList (bodyOf Try.f3) 0 = [(0, loopOf Try.f3 0)] := by kernel_rfl
theorem tableAnswers_b : Try.f3.body.isSome = true := by kernel_rfl
theorem tableAnswers_n : (Try.f3.name == "runtime.NumGoroutine") = false := by kernel_rfl
theorem tableAnswers_ok (v : denL (leaves tableAnswers_i)) : tableAnswers v = pevCall Try.prog E_alive12 tableAnswers_h Try.f3 tableAnswers_i tableAnswers_o tableAnswers_r v := (tableAnswers_eq v).trans (tableAnswers_okd v)
theorem tableAnswers_spec : SpecOK Try.prog 3 (mkCall 3 tableAnswers_i tableAnswers_o tableAnswers_r tableAnswers) := call_spec E_alive12_ok Try.func3 tableAnswers_b tableAnswers_n rfl tableAnswers_ok (LoopsOK_of tableAnswers_q ⟨tableAnswers_l0, trivial⟩)
def E_tableAnswers : Env := E_alive12.ext 3 true true (mkCall 3 tableAnswers_i tableAnswers_o tableAnswers_r tableAnswers)
theorem E_tableAnswers_ok : EnvOK Try.prog E_tableAnswers := Env.ext_ok E_alive12_ok tableAnswers_spec (fun _ => mkCall_local rfl rfl) (fun _ => mkCall_in rfl rfl)

-- archipelago/archipelagolaw12.TableSet
abbrev tableSet_h : Hints := { loop := fun n => match n with | 0 => loopBy 0 194 tableSet_i0 tableSet_o0 tableSet_s0 | 1 => loopBy 0 194 tableSet_i1 tableSet_o1 tableSet_s1 | 2 => loopBy 0 194 tableSet_i2 tableSet_o2 tableSet_s2 | _ => fun _ _ _ => none, fp := fun n => match n with | 12 => [[0], [], [], [], [], [], [], [], [], [], [], [11], []] | 24 => [[0], [], [], [], [], [], [], [], [], [], [], [19], []] | 36 => [[], [], [], [], [2], [2], [4], [], [], [], [], [], [], [], [0], [0], [], [], [], [], [], [], [], [], [], [], [0], [0], [], [], [], [], [0], [0], [], [], [], [], [], [2], [2], [], [], [], []] | 35 => [[0], [], [], [2], [2], [], [], [], [], [], [], [], []] | _ => [] }
theorem tableSet_s2_ok : ∀ v, tableSet_s2 v = roundOf Try.prog E_tableAnswers tableSet_h 3 0 194 (loopOf Try.f4 2) tableSet_i2 tableSet_o2 v := by
  rintro ⟨a0, a1, a2, a3, a4, a5, ⟨⟩⟩
  kernel_rfl
theorem tableSet_q2 : loopList (loopOf Try.f4 2) 3 = [] := by kernel_rfl
theorem tableSet_l2 : CodeOK Try.prog 0 (.loop (loopOf Try.f4 2)) (tableSet_h.loop 2) := loop_ok E_tableAnswers_ok (tableSet_s2_ok) (LoopsOK_of tableSet_q2 trivial)
theorem tableSet_s1_ok : ∀ v, tableSet_s1 v = roundOf Try.prog E_tableAnswers tableSet_h 2 0 194 (loopOf Try.f4 1) tableSet_i1 tableSet_o1 v := by
  rintro ⟨a0, a1, a2, a3, a4, a5, a6, a7, a8, ⟨⟩⟩
  kernel_rfl
theorem tableSet_q1 : loopList (loopOf Try.f4 1) 2 = [] := by kernel_rfl
theorem tableSet_l1 : CodeOK Try.prog 0 (.loop (loopOf Try.f4 1)) (tableSet_h.loop 1) := loop_ok E_tableAnswers_ok (tableSet_s1_ok) (LoopsOK_of tableSet_q1 trivial)
theorem tableSet_s0_ok : ∀ v, tableSet_s0 v = roundOf Try.prog E_tableAnswers tableSet_h 1 0 194 (loopOf Try.f4 0) tableSet_i0 tableSet_o0 v := by
  rintro ⟨a0, a1, a2, a3, a4, a5, a6, ⟨⟩⟩
  kernel_rfl
theorem tableSet_q0 : loopList (loopOf Try.f4 0) 1 = [] := by kernel_rfl
theorem tableSet_l0 : CodeOK Try.prog 0 (.loop (loopOf Try.f4 0)) (tableSet_h.loop 0) := loop_ok E_tableAnswers_ok (tableSet_s0_ok) (LoopsOK_of tableSet_q0 trivial)
theorem tableSet_okd : ∀ v, tableSet_d v = pevCall Try.prog E_tableAnswers tableSet_h Try.f4 tableSet_i tableSet_o tableSet_r v := by
  rintro ⟨a0, a1, a2, ⟨⟩⟩
  kernel_rfl
theorem tableSet_q : loopList (bodyOf Try.f4) 0 = [(0, loopOf Try.f4 0), (1, loopOf Try.f4 1), (2, loopOf Try.f4 2)] := by kernel_rfl
theorem tableSet_b : Try.f4.body.isSome = true := by kernel_rfl
theorem tableSet_n : (Try.f4.name == "runtime.NumGoroutine") = false := by kernel_rfl
theorem tableSet_ok (v : denL (leaves tableSet_i)) : tableSet v = pevCall Try.prog E_tableAnswers tableSet_h Try.f4 tableSet_i tableSet_o tableSet_r v := (tableSet_eq v).trans (tableSet_okd v)
theorem tableSet_spec : SpecOK Try.prog 4 (mkCall 3 tableSet_i tableSet_o tableSet_r tableSet) := call_spec E_tableAnswers_ok Try.func4 tableSet_b tableSet_n rfl tableSet_ok (LoopsOK_of tableSet_q ⟨tableSet_l0, tableSet_l1, tableSet_l2, trivial⟩)
def E_tableSet : Env := E_tableAnswers.ext 4 true true (mkCall 3 tableSet_i tableSet_o tableSet_r tableSet)
theorem E_tableSet_ok : EnvOK Try.prog E_tableSet := Env.ext_ok E_tableAnswers_ok tableSet_spec (fun _ => mkCall_local rfl rfl) (fun _ => mkCall_in rfl rfl)

end
end Go.Pev
end
section
/- The models are what the program computes. Printed by a program. -/
namespace Go.Pev
open Go.Proofs
set_option maxRecDepth 100000
noncomputable section
-- archipelago/archipelagolaw12.TableNear
abbrev tableNear_h : Hints := { loop := fun n => match n with | 0 => loopBy 0 190 tableNear_i0 tableNear_o0 tableNear_s0 | 1 => loopBy 0 190 tableNear_i1 tableNear_o1 tableNear_s1 | _ => fun _ _ _ => none, fp := fun n => match n with | 25 => [[], [], [], [], [], [], [0], [0], [], [4], [4], [], [], [], [0], [0], [], [2], [2], [], [], [6], [6], [], [], [], [], [], [], [], [0], [0], [], [4], [4], [], []] | 16 => [[0], [0], [], [], [6], [6], [], []] | 15 => [[0], [], [], [6], [6], [2, 4], [], [], [], [], [], [], []] | 22 => [[0], [0], [], [], [], [], [], [4], [4], [], [], [0], [0], [], [], [], [], [], [2], [2], [], [], [6], [6], [], []] | _ => [] }
theorem tableNear_s1_ok : ∀ v, tableNear_s1 v = roundOf Try.prog E_tableSet tableNear_h 2 0 190 (loopOf Try.f5 1) tableNear_i1 tableNear_o1 v := by
  rintro ⟨a0, a1, a2, a3, a4, a5, a6, a7, a8, a9, a10, a11, a12, a13, a14, a15, a16, a17, a18, a19, a20, a21, a22, a23, a24, a25, a26, a27, a28, a29, ⟨⟩⟩
  kernel_rfl
theorem tableNear_q1 : loopList (loopOf Try.f5 1) 2 = [] := by kernel_rfl
theorem tableNear_l1 : CodeOK Try.prog 0 (.loop (loopOf Try.f5 1)) (tableNear_h.loop 1) := loop_ok E_tableSet_ok (tableNear_s1_ok) (LoopsOK_of tableNear_q1 trivial)
theorem tableNear_s0_ok : ∀ v, tableNear_s0 v = roundOf Try.prog E_tableSet tableNear_h 1 0 190 (loopOf Try.f5 0) tableNear_i0 tableNear_o0 v := by
  rintro ⟨a0, a1, a2, a3, a4, a5, a6, ⟨⟩⟩
  kernel_rfl
theorem tableNear_q0 : loopList (loopOf Try.f5 0) 1 = [(1, loopOf Try.f5 1)] := by kernel_rfl
theorem tableNear_l0 : CodeOK Try.prog 0 (.loop (loopOf Try.f5 0)) (tableNear_h.loop 0) := loop_ok E_tableSet_ok (tableNear_s0_ok) (LoopsOK_of tableNear_q0 ⟨tableNear_l1, trivial⟩)
theorem tableNear_okd : ∀ v, tableNear_d v = pevCall Try.prog E_tableSet tableNear_h Try.f5 tableNear_i tableNear_o tableNear_r v := by
  rintro ⟨a0, a1, a2, ⟨⟩⟩
  kernel_rfl
theorem tableNear_q : loopList (bodyOf Try.f5) 0 = [(0, loopOf Try.f5 0)] := by kernel_rfl
theorem tableNear_b : Try.f5.body.isSome = true := by kernel_rfl
theorem tableNear_n : (Try.f5.name == "runtime.NumGoroutine") = false := by kernel_rfl
theorem tableNear_ok (v : denL (leaves tableNear_i)) : tableNear v = pevCall Try.prog E_tableSet tableNear_h Try.f5 tableNear_i tableNear_o tableNear_r v := (tableNear_eq v).trans (tableNear_okd v)
theorem tableNear_spec : SpecOK Try.prog 5 (mkCall 3 tableNear_i tableNear_o tableNear_r tableNear) := call_spec E_tableSet_ok Try.func5 tableNear_b tableNear_n rfl tableNear_ok (LoopsOK_of tableNear_q ⟨tableNear_l0, trivial⟩)
def E_tableNear : Env := E_tableSet.ext 5 true true (mkCall 3 tableNear_i tableNear_o tableNear_r tableNear)
theorem E_tableNear_ok : EnvOK Try.prog E_tableNear := Env.ext_ok E_tableSet_ok tableNear_spec (fun _ => mkCall_local rfl rfl) (fun _ => mkCall_in rfl rfl)

end
end Go.Pev
end
section
/- The models are what the program computes. -/
end
