/- A part of the proofs of this seat: G27gP6 G27gP7 G27gP8 G27gP9 G27gP10 G27gP11 G27gP12 G27gP. -/
import Derived.Test.YtfciahckbbjmkaaGreatP61a77c9ad6
set_option linter.unusedVariables false
set_option linter.unusedSimpArgs false
set_option linter.unusedSectionVars false
section
namespace Go.Pev
open Go.Proofs
set_option maxRecDepth 100000
noncomputable section
-- archipelago/level.Top
abbrev ltop_h : Hints := {  }
theorem ltop_okd : ∀ v, ltop_d v = pevCall Tryz.prog E_lsized ltop_h Tryz.f84 ltop_i ltop_o ltop_r v := by
  rintro ⟨a0, ⟨⟩⟩
  kernel_rfl
theorem ltop_q : loopList (bodyOf Tryz.f84) 0 = [] := by kernel_rfl
theorem ltop_spec : SpecOK Tryz.prog 84 (mkCall 1 ltop_i ltop_o ltop_r ltop) := call_spec E_lsized_ok Tryz.func84 (by kernel_rfl) (by kernel_rfl) rfl (fun v => (ltop_eq v).trans (ltop_okd v)) (LoopsOK_of ltop_q trivial)
def E_ltop : Env := E_lsized.ext 84 true true (mkCall 1 ltop_i ltop_o ltop_r ltop)
theorem E_ltop_ok : EnvOK Tryz.prog E_ltop := Env.ext_ok E_lsized_ok ltop_spec (fun _ => mkCall_local rfl rfl) (fun _ => mkCall_in rfl rfl)
-- archipelago/level.compare
abbrev lcompare_h : Hints := { fp := fun n => match n with | 1 => [[0], [0], [2], [2], [], [0], [0], [2], [2], [], [], [20], []] | _ => [] }
theorem lcompare_okd : ∀ v, lcompare_d v = pevCall Tryz.prog E_ltop lcompare_h Tryz.f85 lcompare_i lcompare_o lcompare_r v := by
  rintro ⟨a0, a1, ⟨⟩⟩
  kernel_rfl
theorem lcompare_q : loopList (bodyOf Tryz.f85) 0 = [] := by kernel_rfl
theorem lcompare_spec : SpecOK Tryz.prog 85 (mkCall 2 lcompare_i lcompare_o lcompare_r lcompare) := call_spec E_ltop_ok Tryz.func85 (by kernel_rfl) (by kernel_rfl) rfl (fun v => (lcompare_eq v).trans (lcompare_okd v)) (LoopsOK_of lcompare_q trivial)
def E_lcompare : Env := E_ltop.ext 85 true true (mkCall 2 lcompare_i lcompare_o lcompare_r lcompare)
theorem E_lcompare_ok : EnvOK Tryz.prog E_lcompare := Env.ext_ok E_ltop_ok lcompare_spec (fun _ => mkCall_local rfl rfl) (fun _ => mkCall_in rfl rfl)
-- archipelago/level.trees
abbrev ltrees_h : Hints := { loop := fun n => match n with | 0 => loopBy 0 33 ltrees_i0 ltrees_o0 ltrees_s0 | _ => fun _ _ _ => none }
theorem ltrees_s0_ok : ∀ v, ltrees_s0 v = roundOf Tryz.prog E_lcompare ltrees_h 1 0 33 (loopOf Tryz.f68 0) ltrees_i0 ltrees_o0 v := by
  rintro ⟨a0, a1, a2, a3, a4, ⟨⟩⟩
  kernel_rfl
theorem ltrees_q0 : loopList (loopOf Tryz.f68 0) 1 = [] := by kernel_rfl
theorem ltrees_l0 : CodeOK Tryz.prog 0 (.loop (loopOf Tryz.f68 0)) (ltrees_h.loop 0) := loop_ok E_lcompare_ok (ltrees_s0_ok) (LoopsOK_of ltrees_q0 trivial)
theorem ltrees_okd : ∀ v, ltrees_d v = pevCall Tryz.prog E_lcompare ltrees_h Tryz.f68 ltrees_i ltrees_o ltrees_r v := by
  rintro ⟨a0, a1, ⟨⟩⟩
  kernel_rfl
theorem ltrees_q : loopList (bodyOf Tryz.f68) 0 = [(0, loopOf Tryz.f68 0)] := by kernel_rfl
theorem ltrees_spec : SpecOK Tryz.prog 68 (mkCall 2 ltrees_i ltrees_o ltrees_r ltrees) := call_spec E_lcompare_ok Tryz.func68 (by kernel_rfl) (by kernel_rfl) rfl (fun v => (ltrees_eq v).trans (ltrees_okd v)) (LoopsOK_of ltrees_q ⟨ltrees_l0, trivial⟩)
def E_ltrees : Env := E_lcompare.ext 68 true true (mkCall 2 ltrees_i ltrees_o ltrees_r ltrees)
theorem E_ltrees_ok : EnvOK Tryz.prog E_ltrees := Env.ext_ok E_lcompare_ok ltrees_spec (fun _ => mkCall_local rfl rfl) (fun _ => mkCall_in rfl rfl)
-- archipelago/level.Right
abbrev lright_h : Hints := { loop := fun n => match n with | 0 => loopBy 0 96 lright_i0 lright_o0 lright_s0 | _ => fun _ _ _ => none, fp := fun n => match n with | 7 => [[2], [2], [], [], [2], [2], [2], [2], [], [], [], [2], [2], [0], [0], [], [], [], [2], [2], [], [], [], [2], [2], [], [], [], [], [], [], [], [0], [0], [], [], [], [], [2], [], [], [], []] | _ => [] }
theorem lright_s0_ok : ∀ v, lright_s0 v = roundOf Tryz.prog E_ltrees lright_h 1 0 96 (loopOf Tryz.f60 0) lright_i0 lright_o0 v := by
  rintro ⟨a0, a1, a2, a3, a4, a5, ⟨⟩⟩
  kernel_rfl
theorem lright_q0 : loopList (loopOf Tryz.f60 0) 1 = [] := by kernel_rfl
theorem lright_l0 : CodeOK Tryz.prog 0 (.loop (loopOf Tryz.f60 0)) (lright_h.loop 0) := loop_ok E_ltrees_ok (lright_s0_ok) (LoopsOK_of lright_q0 trivial)
theorem lright_okd : ∀ v, lright_d v = pevCall Tryz.prog E_ltrees lright_h Tryz.f60 lright_i lright_o lright_r v := by
  rintro ⟨a0, ⟨⟩⟩
  kernel_rfl
theorem lright_q : loopList (bodyOf Tryz.f60) 0 = [(0, loopOf Tryz.f60 0)] := by kernel_rfl
theorem lright_spec : SpecOK Tryz.prog 60 (mkCall 1 lright_i lright_o lright_r lright) := call_spec E_ltrees_ok Tryz.func60 (by kernel_rfl) (by kernel_rfl) rfl (fun v => (lright_eq v).trans (lright_okd v)) (LoopsOK_of lright_q ⟨lright_l0, trivial⟩)
def E_lright : Env := E_ltrees.ext 60 true true (mkCall 1 lright_i lright_o lright_r lright)
theorem E_lright_ok : EnvOK Tryz.prog E_lright := Env.ext_ok E_ltrees_ok lright_spec (fun _ => mkCall_local rfl rfl) (fun _ => mkCall_in rfl rfl)
-- archipelago/level.Edges
abbrev ledges_h : Hints := { loop := fun n => match n with | 0 => loopBy 0 26 ledges_i0 ledges_o0 ledges_s0 | _ => fun _ _ _ => none }
theorem ledges_s0_ok : ∀ v, ledges_s0 v = roundOf Tryz.prog E_lright ledges_h 1 0 26 (loopOf Tryz.f46 0) ledges_i0 ledges_o0 v := by
  rintro ⟨a0, a1, a2, a3, ⟨⟩⟩
  kernel_rfl
theorem ledges_q0 : loopList (loopOf Tryz.f46 0) 1 = [] := by kernel_rfl
theorem ledges_l0 : CodeOK Tryz.prog 0 (.loop (loopOf Tryz.f46 0)) (ledges_h.loop 0) := loop_ok E_lright_ok (ledges_s0_ok) (LoopsOK_of ledges_q0 trivial)
theorem ledges_okd : ∀ v, ledges_d v = pevCall Tryz.prog E_lright ledges_h Tryz.f46 ledges_i ledges_o ledges_r v := by
  rintro ⟨a0, ⟨⟩⟩
  kernel_rfl
theorem ledges_q : loopList (bodyOf Tryz.f46) 0 = [(0, loopOf Tryz.f46 0)] := by kernel_rfl
theorem ledges_spec : SpecOK Tryz.prog 46 (mkCall 1 ledges_i ledges_o ledges_r ledges) := call_spec E_lright_ok Tryz.func46 (by kernel_rfl) (by kernel_rfl) rfl (fun v => (ledges_eq v).trans (ledges_okd v)) (LoopsOK_of ledges_q ⟨ledges_l0, trivial⟩)
def E_ledges : Env := E_lright.ext 46 true true (mkCall 1 ledges_i ledges_o ledges_r ledges)
theorem E_ledges_ok : EnvOK Tryz.prog E_ledges := Env.ext_ok E_lright_ok ledges_spec (fun _ => mkCall_local rfl rfl) (fun _ => mkCall_in rfl rfl)
-- archipelago/span.asked
abbrev sasked_h : Hints := { loop := fun n => match n with | 0 => loopBy 0 35 sasked_i0 sasked_o0 sasked_s0 | _ => fun _ _ _ => none }
theorem sasked_s0_ok : ∀ v, sasked_s0 v = roundOf Tryz.prog E_ledges sasked_h 1 0 35 (loopOf Tryz.f86 0) sasked_i0 sasked_o0 v := by
  rintro ⟨a0, a1, a2, a3, ⟨⟩⟩
  kernel_rfl
theorem sasked_q0 : loopList (loopOf Tryz.f86 0) 1 = [] := by kernel_rfl
theorem sasked_l0 : CodeOK Tryz.prog 0 (.loop (loopOf Tryz.f86 0)) (sasked_h.loop 0) := loop_ok E_ledges_ok (sasked_s0_ok) (LoopsOK_of sasked_q0 trivial)
theorem sasked_okd : ∀ v, sasked_d v = pevCall Tryz.prog E_ledges sasked_h Tryz.f86 sasked_i sasked_o sasked_r v := by
  rintro ⟨a0, a1, ⟨⟩⟩
  kernel_rfl
theorem sasked_q : loopList (bodyOf Tryz.f86) 0 = [(0, loopOf Tryz.f86 0)] := by kernel_rfl
theorem sasked_spec : SpecOK Tryz.prog 86 (mkCall 2 sasked_i sasked_o sasked_r sasked) := call_spec E_ledges_ok Tryz.func86 (by kernel_rfl) (by kernel_rfl) rfl (fun v => (sasked_eq v).trans (sasked_okd v)) (LoopsOK_of sasked_q ⟨sasked_l0, trivial⟩)
def E_sasked : Env := E_ledges.ext 86 true true (mkCall 2 sasked_i sasked_o sasked_r sasked)
theorem E_sasked_ok : EnvOK Tryz.prog E_sasked := Env.ext_ok E_ledges_ok sasked_spec (fun _ => mkCall_local rfl rfl) (fun _ => mkCall_in rfl rfl)
-- archipelago/span.alone
abbrev salone_h : Hints := { loop := fun n => match n with | 0 => loopBy 0 18 salone_i0 salone_o0 salone_s0 | _ => fun _ _ _ => none }
theorem salone_s0_ok : ∀ v, salone_s0 v = roundOf Tryz.prog E_sasked salone_h 1 0 18 (loopOf Tryz.f70 0) salone_i0 salone_o0 v := by
  rintro ⟨a0, a1, a2, ⟨⟩⟩
  kernel_rfl
theorem salone_q0 : loopList (loopOf Tryz.f70 0) 1 = [] := by kernel_rfl
theorem salone_l0 : CodeOK Tryz.prog 0 (.loop (loopOf Tryz.f70 0)) (salone_h.loop 0) := loop_ok E_sasked_ok (salone_s0_ok) (LoopsOK_of salone_q0 trivial)
theorem salone_okd : ∀ v, salone_d v = pevCall Tryz.prog E_sasked salone_h Tryz.f70 salone_i salone_o salone_r v := by
  rintro ⟨a0, ⟨⟩⟩
  kernel_rfl
theorem salone_q : loopList (bodyOf Tryz.f70) 0 = [(0, loopOf Tryz.f70 0)] := by kernel_rfl
theorem salone_spec : SpecOK Tryz.prog 70 (mkCall 1 salone_i salone_o salone_r salone) := call_spec E_sasked_ok Tryz.func70 (by kernel_rfl) (by kernel_rfl) rfl (fun v => (salone_eq v).trans (salone_okd v)) (LoopsOK_of salone_q ⟨salone_l0, trivial⟩)
def E_salone : Env := E_sasked.ext 70 true true (mkCall 1 salone_i salone_o salone_r salone)
theorem E_salone_ok : EnvOK Tryz.prog E_salone := Env.ext_ok E_sasked_ok salone_spec (fun _ => mkCall_local rfl rfl) (fun _ => mkCall_in rfl rfl)
-- (archipelago/span.sets).least
abbrev sleast_h : Hints := { loop := fun n => match n with | 0 => loopBy 1 26 sleast_i0 sleast_o0 sleast_s0 | _ => fun _ _ _ => none }
theorem sleast_s0_ok : ∀ v, sleast_s0 v = roundOf Tryz.prog E_salone sleast_h 1 1 26 (loopOf Tryz.f87 0) sleast_i0 sleast_o0 v := by
  rintro ⟨a0, a1, ⟨⟩⟩
  kernel_rfl
theorem sleast_q0 : loopList (loopOf Tryz.f87 0) 1 = [] := by kernel_rfl
theorem sleast_l0 : CodeOK Tryz.prog 1 (.loop (loopOf Tryz.f87 0)) (sleast_h.loop 0) := loop_ok E_salone_ok (sleast_s0_ok) (LoopsOK_of sleast_q0 trivial)
theorem sleast_okd : ∀ v, sleast_d v = pevCall Tryz.prog E_salone sleast_h Tryz.f87 sleast_i sleast_o sleast_r v := by
  rintro ⟨a0, a1, ⟨⟩⟩
  kernel_rfl
theorem sleast_q : loopList (bodyOf Tryz.f87) 0 = [(0, loopOf Tryz.f87 0)] := by kernel_rfl
theorem sleast_spec : SpecOK Tryz.prog 87 (mkCall 2 sleast_i sleast_o sleast_r sleast) := call_spec E_salone_ok Tryz.func87 (by kernel_rfl) (by kernel_rfl) rfl (fun v => (sleast_eq v).trans (sleast_okd v)) (LoopsOK_of sleast_q ⟨sleast_l0, trivial⟩)
def E_sleast : Env := E_salone.ext 87 false true (mkCall 2 sleast_i sleast_o sleast_r sleast)
theorem E_sleast_ok : EnvOK Tryz.prog E_sleast := Env.ext_ok E_salone_ok sleast_spec ((by simp)) (fun _ => mkCall_in rfl rfl)
-- (archipelago/span.sets).join
abbrev sjoin_h : Hints := {  }
theorem sjoin_okd : ∀ v, sjoin_d v = pevCall Tryz.prog E_sleast sjoin_h Tryz.f95 sjoin_i sjoin_o sjoin_r v := by
  rintro ⟨a0, a1, a2, ⟨⟩⟩
  kernel_rfl
theorem sjoin_q : loopList (bodyOf Tryz.f95) 0 = [] := by kernel_rfl
theorem sjoin_spec : SpecOK Tryz.prog 95 (mkCall 3 sjoin_i sjoin_o sjoin_r sjoin) := call_spec E_sleast_ok Tryz.func95 (by kernel_rfl) (by kernel_rfl) rfl (fun v => (sjoin_eq v).trans (sjoin_okd v)) (LoopsOK_of sjoin_q trivial)
def E_sjoin : Env := E_sleast.ext 95 false true (mkCall 3 sjoin_i sjoin_o sjoin_r sjoin)
theorem E_sjoin_ok : EnvOK Tryz.prog E_sjoin := Env.ext_ok E_sleast_ok sjoin_spec ((by simp)) (fun _ => mkCall_in rfl rfl)
-- archipelago/span.each
abbrev eachJoin_h : Hints := { loop := fun n => match n with | 0 => loopBy 1 25 eachJoin_i0 eachJoin_o0 eachJoin_s0 | _ => fun _ _ _ => none }
theorem eachJoin_s0_ok : ∀ v, eachJoin_s0 v = roundOf Tryz.prog E_sjoin eachJoin_h 1 1 25 (loopOf Tryz.f94 0) eachJoin_i0 eachJoin_o0 v := by
  rintro ⟨a0, a1, a2, a3, a4, ⟨⟩⟩
  kernel_rfl
theorem eachJoin_q0 : loopList (loopOf Tryz.f94 0) 1 = [] := by kernel_rfl
theorem eachJoin_l0 : CodeOK Tryz.prog 1 (.loop (loopOf Tryz.f94 0)) (eachJoin_h.loop 0) := loop_ok E_sjoin_ok (eachJoin_s0_ok) (LoopsOK_of eachJoin_q0 trivial)
theorem eachJoin_okd : ∀ v, eachJoin_d v = pevCall Tryz.prog E_sjoin eachJoin_h Tryz.f94 eachJoin_i eachJoin_o eachJoin_r v := by
  rintro ⟨a0, a1, ⟨⟩⟩
  kernel_rfl
theorem eachJoin_q : loopList (bodyOf Tryz.f94) 0 = [(0, loopOf Tryz.f94 0)] := by kernel_rfl
theorem eachJoin_spec : SpecOK Tryz.prog 94 (mkCall 2 eachJoin_i eachJoin_o eachJoin_r eachJoin) := call_spec E_sjoin_ok Tryz.func94 (by kernel_rfl) (by kernel_rfl) rfl (fun v => (eachJoin_eq v).trans (eachJoin_okd v)) (LoopsOK_of eachJoin_q ⟨eachJoin_l0, trivial⟩)
def E_eachJoin : Env := E_sjoin.extC 94 1 95 (mkCall 2 eachJoin_i eachJoin_o eachJoin_r eachJoin)
theorem E_eachJoin_ok : EnvOK Tryz.prog E_eachJoin := Env.extC_ok E_sjoin_ok eachJoin_spec (mkCall_in rfl rfl)
-- (archipelago/span.sets).joins
abbrev sjoins_h : Hints := {  }
theorem sjoins_okd : ∀ v, sjoins_d v = pevCall Tryz.prog E_eachJoin sjoins_h Tryz.f71 sjoins_i sjoins_o sjoins_r v := by
  rintro ⟨a0, a1, ⟨⟩⟩
  kernel_rfl
theorem sjoins_q : loopList (bodyOf Tryz.f71) 0 = [] := by kernel_rfl
theorem sjoins_spec : SpecOK Tryz.prog 71 (mkCall 2 sjoins_i sjoins_o sjoins_r sjoins) := call_spec E_eachJoin_ok Tryz.func71 (by kernel_rfl) (by kernel_rfl) rfl (fun v => (sjoins_eq v).trans (sjoins_okd v)) (LoopsOK_of sjoins_q trivial)
def E_sjoins : Env := E_eachJoin.ext 71 false true (mkCall 2 sjoins_i sjoins_o sjoins_r sjoins)
theorem E_sjoins_ok : EnvOK Tryz.prog E_sjoins := Env.ext_ok E_eachJoin_ok sjoins_spec ((by simp)) (fun _ => mkCall_in rfl rfl)
-- archipelago/span.Classes
abbrev sclasses_h : Hints := { loop := fun n => match n with | 0 => loopBy 0 33 sclasses_i0 sclasses_o0 sclasses_s0 | _ => fun _ _ _ => none }
theorem sclasses_s0_ok : ∀ v, sclasses_s0 v = roundOf Tryz.prog E_sjoins sclasses_h 1 0 33 (loopOf Tryz.f61 0) sclasses_i0 sclasses_o0 v := by
  rintro ⟨a0, a1, a2, ⟨⟩⟩
  kernel_rfl
theorem sclasses_q0 : loopList (loopOf Tryz.f61 0) 1 = [] := by kernel_rfl
theorem sclasses_l0 : CodeOK Tryz.prog 0 (.loop (loopOf Tryz.f61 0)) (sclasses_h.loop 0) := loop_ok E_sjoins_ok (sclasses_s0_ok) (LoopsOK_of sclasses_q0 trivial)
theorem sclasses_okd : ∀ v, sclasses_d v = pevCall Tryz.prog E_sjoins sclasses_h Tryz.f61 sclasses_i sclasses_o sclasses_r v := by
  rintro ⟨a0, a1, ⟨⟩⟩
  kernel_rfl
theorem sclasses_q : loopList (bodyOf Tryz.f61) 0 = [(0, loopOf Tryz.f61 0)] := by kernel_rfl
theorem sclasses_spec : SpecOK Tryz.prog 61 (mkCall 2 sclasses_i sclasses_o sclasses_r sclasses) := call_spec E_sjoins_ok Tryz.func61 (by kernel_rfl) (by kernel_rfl) rfl (fun v => (sclasses_eq v).trans (sclasses_okd v)) (LoopsOK_of sclasses_q ⟨sclasses_l0, trivial⟩)
def E_sclasses : Env := E_sjoins.ext 61 true true (mkCall 2 sclasses_i sclasses_o sclasses_r sclasses)
theorem E_sclasses_ok : EnvOK Tryz.prog E_sclasses := Env.ext_ok E_sjoins_ok sclasses_spec (fun _ => mkCall_local rfl rfl) (fun _ => mkCall_in rfl rfl)
end
end Go.Pev
end
section
namespace Go.Pev
open Go.Proofs
set_option maxRecDepth 100000
noncomputable section
-- archipelago/say.of
abbrev sayof_h : Hints := { fp := fun n => match n with | 3 => [[0], [0], [0], [], [10], [], [], [], [], []] | _ => [] }
theorem sayof_okd : ∀ v, sayof_d v = pevCall Tryz.prog E_sclasses sayof_h Tryz.f31 sayof_i sayof_o sayof_r v := by
  rintro ⟨a0, ⟨⟩⟩
  kernel_rfl
theorem sayof_q : loopList (bodyOf Tryz.f31) 0 = [] := by kernel_rfl
theorem sayof_spec : SpecOK Tryz.prog 31 (mkCall 1 sayof_i sayof_o sayof_r sayof) := call_spec E_sclasses_ok Tryz.func31 (by kernel_rfl) (by kernel_rfl) rfl (fun v => (sayof_eq v).trans (sayof_okd v)) (LoopsOK_of sayof_q trivial)
def E_sayof : Env := E_sclasses.ext 31 true true (mkCall 1 sayof_i sayof_o sayof_r sayof)
theorem E_sayof_ok : EnvOK Tryz.prog E_sayof := Env.ext_ok E_sclasses_ok sayof_spec (fun _ => mkCall_local rfl rfl) (fun _ => mkCall_in rfl rfl)
-- archipelago/say.fits
abbrev sfits_h : Hints := {  }
theorem sfits_okd : ∀ v, sfits_d v = pevCall Tryz.prog E_sayof sfits_h Tryz.f52 sfits_i sfits_o sfits_r v := by
  rintro ⟨a0, ⟨⟩⟩
  kernel_rfl
theorem sfits_q : loopList (bodyOf Tryz.f52) 0 = [] := by kernel_rfl
theorem sfits_spec : SpecOK Tryz.prog 52 (mkCall 1 sfits_i sfits_o sfits_r sfits) := call_spec E_sayof_ok Tryz.func52 (by kernel_rfl) (by kernel_rfl) rfl (fun v => (sfits_eq v).trans (sfits_okd v)) (LoopsOK_of sfits_q trivial)
def E_sfits : Env := E_sayof.ext 52 true true (mkCall 1 sfits_i sfits_o sfits_r sfits)
theorem E_sfits_ok : EnvOK Tryz.prog E_sfits := Env.ext_ok E_sayof_ok sfits_spec (fun _ => mkCall_local rfl rfl) (fun _ => mkCall_in rfl rfl)
-- archipelago/say.Encode$1: gone through in place
theorem enc1_b : Tryz.f51.body.isSome = true := by kernel_rfl
theorem enc1_n : (Tryz.f51.name == "runtime.NumGoroutine") = false := by kernel_rfl
theorem enc1_z : loops (bodyOf Tryz.f51) = 0 := by kernel_rfl
def E_enc1_5 : Env := E_sfits.ext 51 false false (mkInline Tryz.prog E_sfits {} Tryz.f51)
theorem E_enc1_5_ok : EnvOK Tryz.prog E_enc1_5 := Env.ext_ok E_sfits_ok (inline_spec E_sfits_ok Tryz.func51 enc1_b enc1_n enc1_z) (by simp) (by simp)
-- slices.IndexFunc[[]int,int]
abbrev idxFuncI_enc_h : Hints := { loop := fun n => match n with | 0 => loopBy 0 19 idxFuncI_enc_i0 idxFuncI_enc_o0 idxFuncI_enc_s0 | _ => fun _ _ _ => none }
theorem idxFuncI_enc_s0_ok : ∀ v, idxFuncI_enc_s0 v = roundOf Tryz.prog E_enc1_5 idxFuncI_enc_h 1 0 19 (loopOf Tryz.f79 0) idxFuncI_enc_i0 idxFuncI_enc_o0 v := by
  rintro ⟨a0, a1, a2, ⟨⟩⟩
  kernel_rfl
theorem idxFuncI_enc_q0 : loopList (loopOf Tryz.f79 0) 1 = [] := by kernel_rfl
theorem idxFuncI_enc_l0 : CodeOK Tryz.prog 0 (.loop (loopOf Tryz.f79 0)) (idxFuncI_enc_h.loop 0) := loop_ok E_enc1_5_ok (idxFuncI_enc_s0_ok) (LoopsOK_of idxFuncI_enc_q0 trivial)
theorem idxFuncI_enc_okd : ∀ v, idxFuncI_enc_d v = pevCall Tryz.prog E_enc1_5 idxFuncI_enc_h Tryz.f79 idxFuncI_enc_i idxFuncI_enc_o idxFuncI_enc_r v := by
  rintro ⟨a0, ⟨⟩⟩
  kernel_rfl
theorem idxFuncI_enc_q : loopList (bodyOf Tryz.f79) 0 = [(0, loopOf Tryz.f79 0)] := by kernel_rfl
theorem idxFuncI_enc_spec : SpecOK Tryz.prog 79 (mkCall 2 idxFuncI_enc_i idxFuncI_enc_o idxFuncI_enc_r idxFuncI_enc) := call_spec E_enc1_5_ok Tryz.func79 (by kernel_rfl) (by kernel_rfl) rfl (fun v => (idxFuncI_enc_eq v).trans (idxFuncI_enc_okd v)) (LoopsOK_of idxFuncI_enc_q ⟨idxFuncI_enc_l0, trivial⟩)
def E_idxFuncI_enc : Env := E_enc1_5.extC 79 1 51 (mkCall 2 idxFuncI_enc_i idxFuncI_enc_o idxFuncI_enc_r idxFuncI_enc)
theorem E_idxFuncI_enc_ok : EnvOK Tryz.prog E_idxFuncI_enc := Env.extC_ok E_enc1_5_ok idxFuncI_enc_spec (mkCall_in rfl rfl)
-- slices.ContainsFunc[[]int,int]
abbrev contFuncI_enc_h : Hints := {  }
theorem contFuncI_enc_okd : ∀ v, contFuncI_enc_d v = pevCall Tryz.prog E_idxFuncI_enc contFuncI_enc_h Tryz.f50 contFuncI_enc_i contFuncI_enc_o contFuncI_enc_r v := by
  rintro ⟨a0, ⟨⟩⟩
  kernel_rfl
theorem contFuncI_enc_q : loopList (bodyOf Tryz.f50) 0 = [] := by kernel_rfl
theorem contFuncI_enc_spec : SpecOK Tryz.prog 50 (mkCall 2 contFuncI_enc_i contFuncI_enc_o contFuncI_enc_r contFuncI_enc) := call_spec E_idxFuncI_enc_ok Tryz.func50 (by kernel_rfl) (by kernel_rfl) rfl (fun v => (contFuncI_enc_eq v).trans (contFuncI_enc_okd v)) (LoopsOK_of contFuncI_enc_q trivial)
def E_contFuncI_enc : Env := E_idxFuncI_enc.extC 50 1 51 (mkCall 2 contFuncI_enc_i contFuncI_enc_o contFuncI_enc_r contFuncI_enc)
theorem E_contFuncI_enc_ok : EnvOK Tryz.prog E_contFuncI_enc := Env.extC_ok E_idxFuncI_enc_ok contFuncI_enc_spec (mkCall_in rfl rfl)
-- archipelago/say.Encode
abbrev sencode_h : Hints := { loop := fun n => match n with | 0 => loopBy 0 49 sencode_i0 sencode_o0 sencode_s0 | _ => fun _ _ _ => none }
theorem sencode_s0_ok : ∀ v, sencode_s0 v = roundOf Tryz.prog E_contFuncI_enc sencode_h 1 0 49 (loopOf Tryz.f23 0) sencode_i0 sencode_o0 v := by
  rintro ⟨a0, a1, a2, a3, ⟨⟩⟩
  kernel_rfl
theorem sencode_q0 : loopList (loopOf Tryz.f23 0) 1 = [] := by kernel_rfl
theorem sencode_l0 : CodeOK Tryz.prog 0 (.loop (loopOf Tryz.f23 0)) (sencode_h.loop 0) := loop_ok E_contFuncI_enc_ok (sencode_s0_ok) (LoopsOK_of sencode_q0 trivial)
theorem sencode_okd : ∀ v, sencode_d v = pevCall Tryz.prog E_contFuncI_enc sencode_h Tryz.f23 sencode_i sencode_o sencode_r v := by
  rintro ⟨a0, ⟨⟩⟩
  kernel_rfl
theorem sencode_q : loopList (bodyOf Tryz.f23) 0 = [(0, loopOf Tryz.f23 0)] := by kernel_rfl
theorem sencode_spec : SpecOK Tryz.prog 23 (mkCall 1 sencode_i sencode_o sencode_r sencode) := call_spec E_contFuncI_enc_ok Tryz.func23 (by kernel_rfl) (by kernel_rfl) rfl (fun v => (sencode_eq v).trans (sencode_okd v)) (LoopsOK_of sencode_q ⟨sencode_l0, trivial⟩)
def E_sencode : Env := E_contFuncI_enc.ext 23 true true (mkCall 1 sencode_i sencode_o sencode_r sencode)
theorem E_sencode_ok : EnvOK Tryz.prog E_sencode := Env.ext_ok E_contFuncI_enc_ok sencode_spec (fun _ => mkCall_local rfl rfl) (fun _ => mkCall_in rfl rfl)
-- (archipelago/say.classes).there$1: gone through in place
theorem cthere1_b : Tryz.f88.body.isSome = true := by kernel_rfl
theorem cthere1_n : (Tryz.f88.name == "runtime.NumGoroutine") = false := by kernel_rfl
theorem cthere1_z : loops (bodyOf Tryz.f88) = 0 := by kernel_rfl
def E_cthere1_6 : Env := E_sencode.ext 88 false false (mkInline Tryz.prog E_sencode {} Tryz.f88)
theorem E_cthere1_6_ok : EnvOK Tryz.prog E_cthere1_6 := Env.ext_ok E_sencode_ok (inline_spec E_sencode_ok Tryz.func88 cthere1_b cthere1_n cthere1_z) (by simp) (by simp)
-- slices.IndexFunc[[]int,int]
abbrev idxFuncI_cthere_h : Hints := { loop := fun n => match n with | 0 => loopBy 1 19 idxFuncI_cthere_i0 idxFuncI_cthere_o0 idxFuncI_cthere_s0 | _ => fun _ _ _ => none }
theorem idxFuncI_cthere_s0_ok : ∀ v, idxFuncI_cthere_s0 v = roundOf Tryz.prog E_cthere1_6 idxFuncI_cthere_h 1 1 19 (loopOf Tryz.f79 0) idxFuncI_cthere_i0 idxFuncI_cthere_o0 v := by
  rintro ⟨a0, a1, a2, a3, ⟨⟩⟩
  kernel_rfl
theorem idxFuncI_cthere_q0 : loopList (loopOf Tryz.f79 0) 1 = [] := by kernel_rfl
theorem idxFuncI_cthere_l0 : CodeOK Tryz.prog 1 (.loop (loopOf Tryz.f79 0)) (idxFuncI_cthere_h.loop 0) := loop_ok E_cthere1_6_ok (idxFuncI_cthere_s0_ok) (LoopsOK_of idxFuncI_cthere_q0 trivial)
theorem idxFuncI_cthere_okd : ∀ v, idxFuncI_cthere_d v = pevCall Tryz.prog E_cthere1_6 idxFuncI_cthere_h Tryz.f79 idxFuncI_cthere_i idxFuncI_cthere_o idxFuncI_cthere_r v := by
  rintro ⟨a0, a1, ⟨⟩⟩
  kernel_rfl
theorem idxFuncI_cthere_q : loopList (bodyOf Tryz.f79) 0 = [(0, loopOf Tryz.f79 0)] := by kernel_rfl
theorem idxFuncI_cthere_spec : SpecOK Tryz.prog 79 (mkCall 2 idxFuncI_cthere_i idxFuncI_cthere_o idxFuncI_cthere_r idxFuncI_cthere) := call_spec E_cthere1_6_ok Tryz.func79 (by kernel_rfl) (by kernel_rfl) rfl (fun v => (idxFuncI_cthere_eq v).trans (idxFuncI_cthere_okd v)) (LoopsOK_of idxFuncI_cthere_q ⟨idxFuncI_cthere_l0, trivial⟩)
def E_idxFuncI_cthere : Env := E_cthere1_6.extC 79 1 88 (mkCall 2 idxFuncI_cthere_i idxFuncI_cthere_o idxFuncI_cthere_r idxFuncI_cthere)
theorem E_idxFuncI_cthere_ok : EnvOK Tryz.prog E_idxFuncI_cthere := Env.extC_ok E_cthere1_6_ok idxFuncI_cthere_spec (mkCall_in rfl rfl)
-- slices.ContainsFunc[[]int,int]
abbrev contFuncI_cthere_h : Hints := {  }
theorem contFuncI_cthere_okd : ∀ v, contFuncI_cthere_d v = pevCall Tryz.prog E_idxFuncI_cthere contFuncI_cthere_h Tryz.f50 contFuncI_cthere_i contFuncI_cthere_o contFuncI_cthere_r v := by
  rintro ⟨a0, a1, ⟨⟩⟩
  kernel_rfl
theorem contFuncI_cthere_q : loopList (bodyOf Tryz.f50) 0 = [] := by kernel_rfl
theorem contFuncI_cthere_spec : SpecOK Tryz.prog 50 (mkCall 2 contFuncI_cthere_i contFuncI_cthere_o contFuncI_cthere_r contFuncI_cthere) := call_spec E_idxFuncI_cthere_ok Tryz.func50 (by kernel_rfl) (by kernel_rfl) rfl (fun v => (contFuncI_cthere_eq v).trans (contFuncI_cthere_okd v)) (LoopsOK_of contFuncI_cthere_q trivial)
def E_contFuncI_cthere : Env := E_idxFuncI_cthere.extC 50 1 88 (mkCall 2 contFuncI_cthere_i contFuncI_cthere_o contFuncI_cthere_r contFuncI_cthere)
theorem E_contFuncI_cthere_ok : EnvOK Tryz.prog E_contFuncI_cthere := Env.extC_ok E_idxFuncI_cthere_ok contFuncI_cthere_spec (mkCall_in rfl rfl)
-- (archipelago/say.classes).there
abbrev cthere_h : Hints := {  }
theorem cthere_okd : ∀ v, cthere_d v = pevCall Tryz.prog E_contFuncI_cthere cthere_h Tryz.f62 cthere_i cthere_o cthere_r v := by
  rintro ⟨a0, a1, ⟨⟩⟩
  kernel_rfl
theorem cthere_q : loopList (bodyOf Tryz.f62) 0 = [] := by kernel_rfl
theorem cthere_spec : SpecOK Tryz.prog 62 (mkCall 2 cthere_i cthere_o cthere_r cthere) := call_spec E_contFuncI_cthere_ok Tryz.func62 (by kernel_rfl) (by kernel_rfl) rfl (fun v => (cthere_eq v).trans (cthere_okd v)) (LoopsOK_of cthere_q trivial)
def E_cthere : Env := E_contFuncI_cthere.ext 62 true true (mkCall 2 cthere_i cthere_o cthere_r cthere)
theorem E_cthere_ok : EnvOK Tryz.prog E_cthere := Env.ext_ok E_contFuncI_cthere_ok cthere_spec (fun _ => mkCall_local rfl rfl) (fun _ => mkCall_in rfl rfl)
-- (archipelago/say.classes).answer$1: gone through in place
theorem ans1_b : Tryz.f64.body.isSome = true := by kernel_rfl
theorem ans1_n : (Tryz.f64.name == "runtime.NumGoroutine") = false := by kernel_rfl
theorem ans1_z : loops (bodyOf Tryz.f64) = 0 := by kernel_rfl
def E_ans1_7 : Env := E_cthere.ext 64 false false (mkInline Tryz.prog E_cthere {} Tryz.f64)
theorem E_ans1_7_ok : EnvOK Tryz.prog E_ans1_7 := Env.ext_ok E_cthere_ok (inline_spec E_cthere_ok Tryz.func64 ans1_b ans1_n ans1_z) (by simp) (by simp)
-- (archipelago/say.classes).count
abbrev count1_h : Hints := { loop := fun n => match n with | 0 => loopBy 2 22 count1_i0 count1_o0 count1_s0 | _ => fun _ _ _ => none }
theorem count1_s0_ok : ∀ v, count1_s0 v = roundOf Tryz.prog E_ans1_7 count1_h 1 2 22 (loopOf Tryz.f63 0) count1_i0 count1_o0 v := by
  rintro ⟨a0, a1, a2, a3, a4, a5, a6, a7, ⟨⟩⟩
  kernel_rfl
theorem count1_q0 : loopList (loopOf Tryz.f63 0) 1 = [] := by kernel_rfl
theorem count1_l0 : CodeOK Tryz.prog 2 (.loop (loopOf Tryz.f63 0)) (count1_h.loop 0) := loop_ok E_ans1_7_ok (count1_s0_ok) (LoopsOK_of count1_q0 trivial)
theorem count1_okd : ∀ v, count1_d v = pevCall Tryz.prog E_ans1_7 count1_h Tryz.f63 count1_i count1_o count1_r v := by
  rintro ⟨a0, a1, a2, a3, a4, ⟨⟩⟩
  kernel_rfl
theorem count1_q : loopList (bodyOf Tryz.f63) 0 = [(0, loopOf Tryz.f63 0)] := by kernel_rfl
theorem count1_spec : SpecOK Tryz.prog 63 (mkCall 2 count1_i count1_o count1_r count1) := call_spec E_ans1_7_ok Tryz.func63 (by kernel_rfl) (by kernel_rfl) rfl (fun v => (count1_eq v).trans (count1_okd v)) (LoopsOK_of count1_q ⟨count1_l0, trivial⟩)
def E_count1 : Env := E_ans1_7.extC 63 1 64 (mkCall 2 count1_i count1_o count1_r count1)
theorem E_count1_ok : EnvOK Tryz.prog E_count1 := Env.extC_ok E_ans1_7_ok count1_spec (mkCall_in rfl rfl)
end
end Go.Pev
end
section
namespace Go.Pev
open Go.Proofs
set_option maxRecDepth 100000
noncomputable section
-- (archipelago/say.classes).answer$2: gone through in place
theorem ans2_b : Tryz.f65.body.isSome = true := by kernel_rfl
theorem ans2_n : (Tryz.f65.name == "runtime.NumGoroutine") = false := by kernel_rfl
theorem ans2_z : loops (bodyOf Tryz.f65) = 0 := by kernel_rfl
def E_ans2_8 : Env := E_count1.ext 65 false false (mkInline Tryz.prog E_count1 {} Tryz.f65)
theorem E_ans2_8_ok : EnvOK Tryz.prog E_ans2_8 := Env.ext_ok E_count1_ok (inline_spec E_count1_ok Tryz.func65 ans2_b ans2_n ans2_z) (by simp) (by simp)
-- (archipelago/say.classes).count
abbrev count2_h : Hints := { loop := fun n => match n with | 0 => loopBy 0 22 count2_i0 count2_o0 count2_s0 | _ => fun _ _ _ => none }
theorem count2_s0_ok : ∀ v, count2_s0 v = roundOf Tryz.prog E_ans2_8 count2_h 1 0 22 (loopOf Tryz.f63 0) count2_i0 count2_o0 v := by
  rintro ⟨a0, a1, a2, a3, ⟨⟩⟩
  kernel_rfl
theorem count2_q0 : loopList (loopOf Tryz.f63 0) 1 = [] := by kernel_rfl
theorem count2_l0 : CodeOK Tryz.prog 0 (.loop (loopOf Tryz.f63 0)) (count2_h.loop 0) := loop_ok E_ans2_8_ok (count2_s0_ok) (LoopsOK_of count2_q0 trivial)
theorem count2_okd : ∀ v, count2_d v = pevCall Tryz.prog E_ans2_8 count2_h Tryz.f63 count2_i count2_o count2_r v := by
  rintro ⟨a0, ⟨⟩⟩
  kernel_rfl
theorem count2_q : loopList (bodyOf Tryz.f63) 0 = [(0, loopOf Tryz.f63 0)] := by kernel_rfl
theorem count2_spec : SpecOK Tryz.prog 63 (mkCall 2 count2_i count2_o count2_r count2) := call_spec E_ans2_8_ok Tryz.func63 (by kernel_rfl) (by kernel_rfl) rfl (fun v => (count2_eq v).trans (count2_okd v)) (LoopsOK_of count2_q ⟨count2_l0, trivial⟩)
def E_count2 : Env := E_ans2_8.extC 63 1 65 (mkCall 2 count2_i count2_o count2_r count2)
theorem E_count2_ok : EnvOK Tryz.prog E_count2 := Env.extC_ok E_ans2_8_ok count2_spec (mkCall_in rfl rfl)
-- (archipelago/say.classes).answer
abbrev canswer_h : Hints := { fp := fun n => match n with | 5 => [[0], [2], [2], [], [], [0], [2], [2], [], [], [], []] | _ => [] }
theorem canswer_okd : ∀ v, canswer_d v = pevCall Tryz.prog E_count2 canswer_h Tryz.f32 canswer_i canswer_o canswer_r v := by
  rintro ⟨a0, a1, ⟨⟩⟩
  kernel_rfl
theorem canswer_q : loopList (bodyOf Tryz.f32) 0 = [] := by kernel_rfl
theorem canswer_spec : SpecOK Tryz.prog 32 (mkCall 2 canswer_i canswer_o canswer_r canswer) := call_spec E_count2_ok Tryz.func32 (by kernel_rfl) (by kernel_rfl) rfl (fun v => (canswer_eq v).trans (canswer_okd v)) (LoopsOK_of canswer_q trivial)
def E_canswer : Env := E_count2.ext 32 true true (mkCall 2 canswer_i canswer_o canswer_r canswer)
theorem E_canswer_ok : EnvOK Tryz.prog E_canswer := Env.ext_ok E_count2_ok canswer_spec (fun _ => mkCall_local rfl rfl) (fun _ => mkCall_in rfl rfl)
-- archipelago/say.Answers
abbrev sanswers_h : Hints := { loop := fun n => match n with | 0 => loopBy 0 41 sanswers_i0 sanswers_o0 sanswers_s0 | _ => fun _ _ _ => none }
theorem sanswers_s0_ok : ∀ v, sanswers_s0 v = roundOf Tryz.prog E_canswer sanswers_h 1 0 41 (loopOf Tryz.f22 0) sanswers_i0 sanswers_o0 v := by
  rintro ⟨a0, a1, a2, a3, a4, ⟨⟩⟩
  kernel_rfl
theorem sanswers_q0 : loopList (loopOf Tryz.f22 0) 1 = [] := by kernel_rfl
theorem sanswers_l0 : CodeOK Tryz.prog 0 (.loop (loopOf Tryz.f22 0)) (sanswers_h.loop 0) := loop_ok E_canswer_ok (sanswers_s0_ok) (LoopsOK_of sanswers_q0 trivial)
theorem sanswers_okd : ∀ v, sanswers_d v = pevCall Tryz.prog E_canswer sanswers_h Tryz.f22 sanswers_i sanswers_o sanswers_r v := by
  rintro ⟨a0, a1, ⟨⟩⟩
  kernel_rfl
theorem sanswers_q : loopList (bodyOf Tryz.f22) 0 = [(0, loopOf Tryz.f22 0)] := by kernel_rfl
theorem sanswers_spec : SpecOK Tryz.prog 22 (mkCall 2 sanswers_i sanswers_o sanswers_r sanswers) := call_spec E_canswer_ok Tryz.func22 (by kernel_rfl) (by kernel_rfl) rfl (fun v => (sanswers_eq v).trans (sanswers_okd v)) (LoopsOK_of sanswers_q ⟨sanswers_l0, trivial⟩)
def E_sanswers : Env := E_canswer.ext 22 true true (mkCall 2 sanswers_i sanswers_o sanswers_r sanswers)
theorem E_sanswers_ok : EnvOK Tryz.prog E_sanswers := Env.ext_ok E_canswer_ok sanswers_spec (fun _ => mkCall_local rfl rfl) (fun _ => mkCall_in rfl rfl)
-- archipelago/say.Answer
abbrev sanswer_h : Hints := {  }
theorem sanswer_okd : ∀ v, sanswer_d v = pevCall Tryz.prog E_sanswers sanswer_h Tryz.f9 sanswer_i sanswer_o sanswer_r v := by
  rintro ⟨a0, a1, ⟨⟩⟩
  kernel_rfl
theorem sanswer_q : loopList (bodyOf Tryz.f9) 0 = [] := by kernel_rfl
theorem sanswer_spec : SpecOK Tryz.prog 9 (mkCall 2 sanswer_i sanswer_o sanswer_r sanswer) := call_spec E_sanswers_ok Tryz.func9 (by kernel_rfl) (by kernel_rfl) rfl (fun v => (sanswer_eq v).trans (sanswer_okd v)) (LoopsOK_of sanswer_q trivial)
def E_sanswer : Env := E_sanswers.ext 9 true true (mkCall 2 sanswer_i sanswer_o sanswer_r sanswer)
theorem E_sanswer_ok : EnvOK Tryz.prog E_sanswer := Env.ext_ok E_sanswers_ok sanswer_spec (fun _ => mkCall_local rfl rfl) (fun _ => mkCall_in rfl rfl)
-- archipelago/wire.Number
abbrev wnumber_h : Hints := { fp := fun n => match n with | 3 => [[], [], [], [], [], [], [], [], [], [], [], [], [], [], []] | _ => [] }
theorem wnumber_okd : ∀ v, wnumber_d v = pevCall Tryz.prog E_sanswer wnumber_h Tryz.f53 wnumber_i wnumber_o wnumber_r v := by
  rintro ⟨a0, a1, ⟨⟩⟩
  kernel_rfl
theorem wnumber_q : loopList (bodyOf Tryz.f53) 0 = [] := by kernel_rfl
theorem wnumber_spec : SpecOK Tryz.prog 53 (mkCall 2 wnumber_i wnumber_o wnumber_r wnumber) := call_spec E_sanswer_ok Tryz.func53 (by kernel_rfl) (by kernel_rfl) rfl (fun v => (wnumber_eq v).trans (wnumber_okd v)) (LoopsOK_of wnumber_q trivial)
def E_wnumber : Env := E_sanswer.ext 53 true true (mkCall 2 wnumber_i wnumber_o wnumber_r wnumber)
theorem E_wnumber_ok : EnvOK Tryz.prog E_wnumber := Env.ext_ok E_sanswer_ok wnumber_spec (fun _ => mkCall_local rfl rfl) (fun _ => mkCall_in rfl rfl)
-- archipelago/say.Decode
abbrev sdecode_h : Hints := { loop := fun n => match n with | 0 => loopBy 0 63 sdecode_i0 sdecode_o0 sdecode_s0 | _ => fun _ _ _ => none }
theorem sdecode_s0_ok : ∀ v, sdecode_s0 v = roundOf Tryz.prog E_wnumber sdecode_h 1 0 63 (loopOf Tryz.f24 0) sdecode_i0 sdecode_o0 v := by
  rintro ⟨a0, a1, a2, a3, a4, a5, a6, a7, a8, ⟨⟩⟩
  kernel_rfl
theorem sdecode_q0 : loopList (loopOf Tryz.f24 0) 1 = [] := by kernel_rfl
theorem sdecode_l0 : CodeOK Tryz.prog 0 (.loop (loopOf Tryz.f24 0)) (sdecode_h.loop 0) := loop_ok E_wnumber_ok (sdecode_s0_ok) (LoopsOK_of sdecode_q0 trivial)
theorem sdecode_okd : ∀ v, sdecode_d v = pevCall Tryz.prog E_wnumber sdecode_h Tryz.f24 sdecode_i sdecode_o sdecode_r v := by
  rintro ⟨a0, ⟨⟩⟩
  kernel_rfl
theorem sdecode_q : loopList (bodyOf Tryz.f24) 0 = [(0, loopOf Tryz.f24 0)] := by kernel_rfl
theorem sdecode_spec : SpecOK Tryz.prog 24 (mkCall 1 sdecode_i sdecode_o sdecode_r sdecode) := call_spec E_wnumber_ok Tryz.func24 (by kernel_rfl) (by kernel_rfl) rfl (fun v => (sdecode_eq v).trans (sdecode_okd v)) (LoopsOK_of sdecode_q ⟨sdecode_l0, trivial⟩)
def E_sdecode : Env := E_wnumber.ext 24 true true (mkCall 1 sdecode_i sdecode_o sdecode_r sdecode)
theorem E_sdecode_ok : EnvOK Tryz.prog E_sdecode := Env.ext_ok E_wnumber_ok sdecode_spec (fun _ => mkCall_local rfl rfl) (fun _ => mkCall_in rfl rfl)
-- slices.Equal[[]int,int]
abbrev equalI_h : Hints := { loop := fun n => match n with | 0 => loopBy 0 26 equalI_i0 equalI_o0 equalI_s0 | _ => fun _ _ _ => none, fp := fun n => match n with | 6 => [[], [], [], [], [], [], [], [], []] | _ => [] }
theorem equalI_s0_ok : ∀ v, equalI_s0 v = roundOf Tryz.prog E_sdecode equalI_h 1 0 26 (loopOf Tryz.f54 0) equalI_i0 equalI_o0 v := by
  rintro ⟨a0, a1, a2, a3, ⟨⟩⟩
  kernel_rfl
theorem equalI_q0 : loopList (loopOf Tryz.f54 0) 1 = [] := by kernel_rfl
theorem equalI_l0 : CodeOK Tryz.prog 0 (.loop (loopOf Tryz.f54 0)) (equalI_h.loop 0) := loop_ok E_sdecode_ok (equalI_s0_ok) (LoopsOK_of equalI_q0 trivial)
theorem equalI_okd : ∀ v, equalI_d v = pevCall Tryz.prog E_sdecode equalI_h Tryz.f54 equalI_i equalI_o equalI_r v := by
  rintro ⟨a0, a1, ⟨⟩⟩
  kernel_rfl
theorem equalI_q : loopList (bodyOf Tryz.f54) 0 = [(0, loopOf Tryz.f54 0)] := by kernel_rfl
theorem equalI_spec : SpecOK Tryz.prog 54 (mkCall 2 equalI_i equalI_o equalI_r equalI) := call_spec E_sdecode_ok Tryz.func54 (by kernel_rfl) (by kernel_rfl) rfl (fun v => (equalI_eq v).trans (equalI_okd v)) (LoopsOK_of equalI_q ⟨equalI_l0, trivial⟩)
def E_equalI : Env := E_sdecode.ext 54 true true (mkCall 2 equalI_i equalI_o equalI_r equalI)
theorem E_equalI_ok : EnvOK Tryz.prog E_equalI := Env.ext_ok E_sdecode_ok equalI_spec (fun _ => mkCall_local rfl rfl) (fun _ => mkCall_in rfl rfl)
-- archipelago/say.Same
abbrev ssame_h : Hints := {  }
theorem ssame_okd : ∀ v, ssame_d v = pevCall Tryz.prog E_equalI ssame_h Tryz.f25 ssame_i ssame_o ssame_r v := by
  rintro ⟨a0, a1, ⟨⟩⟩
  kernel_rfl
theorem ssame_q : loopList (bodyOf Tryz.f25) 0 = [] := by kernel_rfl
theorem ssame_spec : SpecOK Tryz.prog 25 (mkCall 2 ssame_i ssame_o ssame_r ssame) := call_spec E_equalI_ok Tryz.func25 (by kernel_rfl) (by kernel_rfl) rfl (fun v => (ssame_eq v).trans (ssame_okd v)) (LoopsOK_of ssame_q trivial)
def E_ssame : Env := E_equalI.ext 25 true true (mkCall 2 ssame_i ssame_o ssame_r ssame)
theorem E_ssame_ok : EnvOK Tryz.prog E_ssame := Env.ext_ok E_equalI_ok ssame_spec (fun _ => mkCall_local rfl rfl) (fun _ => mkCall_in rfl rfl)
-- archipelago/archipelagoref19.Classes
abbrev classes19_h : Hints := { loop := fun n => match n with | 0 => loopBy 0 83 classes19_i0 classes19_o0 classes19_s0 | 1 => loopBy 0 83 classes19_i1 classes19_o1 classes19_s1 | 2 => loopBy 0 83 classes19_i2 classes19_o2 classes19_s2 | _ => fun _ _ _ => none, fp := fun n => match n with | 14 => [[], [], [0], [0], [], [], [0], [0], [], []] | 13 => [[], [], [], [], [], [], [], [], [], [], [], [], [], [], [], [], [], [], [], [0], [0], [], [], [0], [0], [], []] | 12 => [[], [], [], [], [], [], [], [], [], [], [], []] | _ => [] }
theorem classes19_s2_ok : ∀ v, classes19_s2 v = roundOf Tryz.prog E_ssame classes19_h 3 0 83 (loopOf Tryz.f20 2) classes19_i2 classes19_o2 v := by
  rintro ⟨a0, a1, a2, a3, a4, ⟨⟩⟩
  kernel_rfl
theorem classes19_q2 : loopList (loopOf Tryz.f20 2) 3 = [] := by kernel_rfl
theorem classes19_l2 : CodeOK Tryz.prog 0 (.loop (loopOf Tryz.f20 2)) (classes19_h.loop 2) := loop_ok E_ssame_ok (classes19_s2_ok) (LoopsOK_of classes19_q2 trivial)
theorem classes19_s1_ok : ∀ v, classes19_s1 v = roundOf Tryz.prog E_ssame classes19_h 2 0 83 (loopOf Tryz.f20 1) classes19_i1 classes19_o1 v := by
  rintro ⟨a0, a1, a2, a3, ⟨⟩⟩
  kernel_rfl
theorem classes19_q1 : loopList (loopOf Tryz.f20 1) 2 = [(2, loopOf Tryz.f20 2)] := by kernel_rfl
theorem classes19_l1 : CodeOK Tryz.prog 0 (.loop (loopOf Tryz.f20 1)) (classes19_h.loop 1) := loop_ok E_ssame_ok (classes19_s1_ok) (LoopsOK_of classes19_q1 ⟨classes19_l2, trivial⟩)
theorem classes19_s0_ok : ∀ v, classes19_s0 v = roundOf Tryz.prog E_ssame classes19_h 1 0 83 (loopOf Tryz.f20 0) classes19_i0 classes19_o0 v := by
  rintro ⟨a0, a1, a2, a3, ⟨⟩⟩
  kernel_rfl
theorem classes19_q0 : loopList (loopOf Tryz.f20 0) 1 = [] := by kernel_rfl
theorem classes19_l0 : CodeOK Tryz.prog 0 (.loop (loopOf Tryz.f20 0)) (classes19_h.loop 0) := loop_ok E_ssame_ok (classes19_s0_ok) (LoopsOK_of classes19_q0 trivial)
theorem classes19_okd : ∀ v, classes19_d v = pevCall Tryz.prog E_ssame classes19_h Tryz.f20 classes19_i classes19_o classes19_r v := by
  rintro ⟨a0, a1, ⟨⟩⟩
  kernel_rfl
theorem classes19_q : loopList (bodyOf Tryz.f20) 0 = [(0, loopOf Tryz.f20 0), (1, loopOf Tryz.f20 1)] := by kernel_rfl
theorem classes19_spec : SpecOK Tryz.prog 20 (mkCall 2 classes19_i classes19_o classes19_r classes19) := call_spec E_ssame_ok Tryz.func20 (by kernel_rfl) (by kernel_rfl) rfl (fun v => (classes19_eq v).trans (classes19_okd v)) (LoopsOK_of classes19_q ⟨classes19_l0, classes19_l1, trivial⟩)
def E_classes19 : Env := E_ssame.ext 20 true true (mkCall 2 classes19_i classes19_o classes19_r classes19)
theorem E_classes19_ok : EnvOK Tryz.prog E_classes19 := Env.ext_ok E_ssame_ok classes19_spec (fun _ => mkCall_local rfl rfl) (fun _ => mkCall_in rfl rfl)
-- archipelago/archipelagoref21.Top
abbrev top21_h : Hints := { loop := fun n => match n with | 0 => loopBy 0 20 top21_i0 top21_o0 top21_s0 | _ => fun _ _ _ => none }
theorem top21_s0_ok : ∀ v, top21_s0 v = roundOf Tryz.prog E_classes19 top21_h 1 0 20 (loopOf Tryz.f76 0) top21_i0 top21_o0 v := by
  rintro ⟨a0, a1, ⟨⟩⟩
  kernel_rfl
theorem top21_q0 : loopList (loopOf Tryz.f76 0) 1 = [] := by kernel_rfl
theorem top21_l0 : CodeOK Tryz.prog 0 (.loop (loopOf Tryz.f76 0)) (top21_h.loop 0) := loop_ok E_classes19_ok (top21_s0_ok) (LoopsOK_of top21_q0 trivial)
theorem top21_okd : ∀ v, top21_d v = pevCall Tryz.prog E_classes19 top21_h Tryz.f76 top21_i top21_o top21_r v := by
  rintro ⟨a0, ⟨⟩⟩
  kernel_rfl
theorem top21_q : loopList (bodyOf Tryz.f76) 0 = [(0, loopOf Tryz.f76 0)] := by kernel_rfl
theorem top21_spec : SpecOK Tryz.prog 76 (mkCall 1 top21_i top21_o top21_r top21) := call_spec E_classes19_ok Tryz.func76 (by kernel_rfl) (by kernel_rfl) rfl (fun v => (top21_eq v).trans (top21_okd v)) (LoopsOK_of top21_q ⟨top21_l0, trivial⟩)
def E_top21 : Env := E_classes19.ext 76 true true (mkCall 1 top21_i top21_o top21_r top21)
theorem E_top21_ok : EnvOK Tryz.prog E_top21 := Env.ext_ok E_classes19_ok top21_spec (fun _ => mkCall_local rfl rfl) (fun _ => mkCall_in rfl rfl)
-- archipelago/archipelagoref21.Right
abbrev right21_h : Hints := { loop := fun n => match n with | 0 => loopBy 0 138 right21_i0 right21_o0 right21_s0 | 1 => loopBy 0 138 right21_i1 right21_o1 right21_s1 | _ => fun _ _ _ => none, fp := fun n => match n with | 10 => [[], [], [], [0], [0], [], [], [], [], [], [4], [4], [], [], [0], [0], [], [], [], [], [], [4], [4], [], [], [0], [0], [], [], [], [], [], [4], [4], [], [], [], []] | 8 => [[4], [4], [], [], [4], [4], [4], [4], [], [], [], [4], [4], [0], [0], [], [], [], [4], [4], [], [], [], [4], [4], [0], [0], [], [], []] | _ => [] }
theorem right21_s1_ok : ∀ v, right21_s1 v = roundOf Tryz.prog E_top21 right21_h 2 0 138 (loopOf Tryz.f44 1) right21_i1 right21_o1 v := by
  rintro ⟨a0, a1, a2, a3, a4, a5, ⟨⟩⟩
  kernel_rfl
theorem right21_q1 : loopList (loopOf Tryz.f44 1) 2 = [] := by kernel_rfl
theorem right21_l1 : CodeOK Tryz.prog 0 (.loop (loopOf Tryz.f44 1)) (right21_h.loop 1) := loop_ok E_top21_ok (right21_s1_ok) (LoopsOK_of right21_q1 trivial)
theorem right21_s0_ok : ∀ v, right21_s0 v = roundOf Tryz.prog E_top21 right21_h 1 0 138 (loopOf Tryz.f44 0) right21_i0 right21_o0 v := by
  rintro ⟨a0, a1, a2, a3, ⟨⟩⟩
  kernel_rfl
theorem right21_q0 : loopList (loopOf Tryz.f44 0) 1 = [] := by kernel_rfl
theorem right21_l0 : CodeOK Tryz.prog 0 (.loop (loopOf Tryz.f44 0)) (right21_h.loop 0) := loop_ok E_top21_ok (right21_s0_ok) (LoopsOK_of right21_q0 trivial)
theorem right21_okd : ∀ v, right21_d v = pevCall Tryz.prog E_top21 right21_h Tryz.f44 right21_i right21_o right21_r v := by
  rintro ⟨a0, ⟨⟩⟩
  kernel_rfl
theorem right21_q : loopList (bodyOf Tryz.f44) 0 = [(0, loopOf Tryz.f44 0), (1, loopOf Tryz.f44 1)] := by kernel_rfl
theorem right21_spec : SpecOK Tryz.prog 44 (mkCall 1 right21_i right21_o right21_r right21) := call_spec E_top21_ok Tryz.func44 (by kernel_rfl) (by kernel_rfl) rfl (fun v => (right21_eq v).trans (right21_okd v)) (LoopsOK_of right21_q ⟨right21_l0, right21_l1, trivial⟩)
def E_right21 : Env := E_top21.ext 44 true true (mkCall 1 right21_i right21_o right21_r right21)
theorem E_right21_ok : EnvOK Tryz.prog E_right21 := Env.ext_ok E_top21_ok right21_spec (fun _ => mkCall_local rfl rfl) (fun _ => mkCall_in rfl rfl)
end
end Go.Pev
end
section
namespace Go.Pev
open Go.Proofs
set_option maxRecDepth 100000
noncomputable section
-- archipelago/archipelagoref21.Edges
abbrev edges21_h : Hints := { loop := fun n => match n with | 0 => loopBy 0 32 edges21_i0 edges21_o0 edges21_s0 | _ => fun _ _ _ => none, fp := fun n => match n with | 7 => [[], [0], [0], [], [], [], [], [0], [0], [], [], [], [], [], [], [3, 4], []] | _ => [] }
theorem edges21_s0_ok : ∀ v, edges21_s0 v = roundOf Tryz.prog E_right21 edges21_h 1 0 32 (loopOf Tryz.f17 0) edges21_i0 edges21_o0 v := by
  rintro ⟨a0, a1, a2, a3, ⟨⟩⟩
  kernel_rfl
theorem edges21_q0 : loopList (loopOf Tryz.f17 0) 1 = [] := by kernel_rfl
theorem edges21_l0 : CodeOK Tryz.prog 0 (.loop (loopOf Tryz.f17 0)) (edges21_h.loop 0) := loop_ok E_right21_ok (edges21_s0_ok) (LoopsOK_of edges21_q0 trivial)
theorem edges21_okd : ∀ v, edges21_d v = pevCall Tryz.prog E_right21 edges21_h Tryz.f17 edges21_i edges21_o edges21_r v := by
  rintro ⟨a0, ⟨⟩⟩
  kernel_rfl
theorem edges21_q : loopList (bodyOf Tryz.f17) 0 = [(0, loopOf Tryz.f17 0)] := by kernel_rfl
theorem edges21_spec : SpecOK Tryz.prog 17 (mkCall 1 edges21_i edges21_o edges21_r edges21) := call_spec E_right21_ok Tryz.func17 (by kernel_rfl) (by kernel_rfl) rfl (fun v => (edges21_eq v).trans (edges21_okd v)) (LoopsOK_of edges21_q ⟨edges21_l0, trivial⟩)
def E_edges21 : Env := E_right21.ext 17 true true (mkCall 1 edges21_i edges21_o edges21_r edges21)
theorem E_edges21_ok : EnvOK Tryz.prog E_edges21 := Env.ext_ok E_right21_ok edges21_spec (fun _ => mkCall_local rfl rfl) (fun _ => mkCall_in rfl rfl)
-- archipelago/archipelagoref18.in
abbrev in18_h : Hints := {  }
theorem in18_okd : ∀ v, in18_d v = pevCall Tryz.prog E_edges21 in18_h Tryz.f108 in18_i in18_o in18_r v := by
  rintro ⟨a0, a1, ⟨⟩⟩
  kernel_rfl
theorem in18_q : loopList (bodyOf Tryz.f108) 0 = [] := by kernel_rfl
theorem in18_spec : SpecOK Tryz.prog 108 (mkCall 2 in18_i in18_o in18_r in18) := call_spec E_edges21_ok Tryz.func108 (by kernel_rfl) (by kernel_rfl) rfl (fun v => (in18_eq v).trans (in18_okd v)) (LoopsOK_of in18_q trivial)
def E_in18 : Env := E_edges21.ext 108 true true (mkCall 2 in18_i in18_o in18_r in18)
theorem E_in18_ok : EnvOK Tryz.prog E_in18 := Env.ext_ok E_edges21_ok in18_spec (fun _ => mkCall_local rfl rfl) (fun _ => mkCall_in rfl rfl)
-- archipelago/archipelagoref18.Token
abbrev token18_h : Hints := { fp := fun n => match n with | 5 => [[], [], [], [], [], [], [], [], [], [], [], []] | _ => [] }
theorem token18_okd : ∀ v, token18_d v = pevCall Tryz.prog E_in18 token18_h Tryz.f156 token18_i token18_o token18_r v := by
  rintro ⟨a0, a1, ⟨⟩⟩
  kernel_rfl
theorem token18_q : loopList (bodyOf Tryz.f156) 0 = [] := by kernel_rfl
theorem token18_spec : SpecOK Tryz.prog 156 (mkCall 2 token18_i token18_o token18_r token18) := call_spec E_in18_ok Tryz.func156 (by kernel_rfl) (by kernel_rfl) rfl (fun v => (token18_eq v).trans (token18_okd v)) (LoopsOK_of token18_q trivial)
def E_token18 : Env := E_in18.ext 156 true true (mkCall 2 token18_i token18_o token18_r token18)
theorem E_token18_ok : EnvOK Tryz.prog E_token18 := Env.ext_ok E_in18_ok token18_spec (fun _ => mkCall_local rfl rfl) (fun _ => mkCall_in rfl rfl)
-- archipelago/archipelagoref18.Arc
abbrev arc18_h : Hints := {  }
theorem arc18_okd : ∀ v, arc18_d v = pevCall Tryz.prog E_token18 arc18_h Tryz.f111 arc18_i arc18_o arc18_r v := by
  rintro ⟨a0, a1, a2, ⟨⟩⟩
  kernel_rfl
theorem arc18_q : loopList (bodyOf Tryz.f111) 0 = [] := by kernel_rfl
theorem arc18_spec : SpecOK Tryz.prog 111 (mkCall 3 arc18_i arc18_o arc18_r arc18) := call_spec E_token18_ok Tryz.func111 (by kernel_rfl) (by kernel_rfl) rfl (fun v => (arc18_eq v).trans (arc18_okd v)) (LoopsOK_of arc18_q trivial)
def E_arc18 : Env := E_token18.ext 111 true true (mkCall 3 arc18_i arc18_o arc18_r arc18)
theorem E_arc18_ok : EnvOK Tryz.prog E_arc18 := Env.ext_ok E_token18_ok arc18_spec (fun _ => mkCall_local rfl rfl) (fun _ => mkCall_in rfl rfl)
-- archipelago/archipelagoref18.Make
abbrev make18_h : Hints := { loop := fun n => match n with | 0 => loopBy 0 28 make18_i0 make18_o0 make18_s0 | _ => fun _ _ _ => none }
theorem make18_s0_ok : ∀ v, make18_s0 v = roundOf Tryz.prog E_arc18 make18_h 1 0 28 (loopOf Tryz.f80 0) make18_i0 make18_o0 v := by
  rintro ⟨a0, a1, a2, a3, a4, ⟨⟩⟩
  kernel_rfl
theorem make18_q0 : loopList (loopOf Tryz.f80 0) 1 = [] := by kernel_rfl
theorem make18_l0 : CodeOK Tryz.prog 0 (.loop (loopOf Tryz.f80 0)) (make18_h.loop 0) := loop_ok E_arc18_ok (make18_s0_ok) (LoopsOK_of make18_q0 trivial)
theorem make18_okd : ∀ v, make18_d v = pevCall Tryz.prog E_arc18 make18_h Tryz.f80 make18_i make18_o make18_r v := by
  rintro ⟨a0, ⟨⟩⟩
  kernel_rfl
theorem make18_q : loopList (bodyOf Tryz.f80) 0 = [(0, loopOf Tryz.f80 0)] := by kernel_rfl
theorem make18_spec : SpecOK Tryz.prog 80 (mkCall 1 make18_i make18_o make18_r make18) := call_spec E_arc18_ok Tryz.func80 (by kernel_rfl) (by kernel_rfl) rfl (fun v => (make18_eq v).trans (make18_okd v)) (LoopsOK_of make18_q ⟨make18_l0, trivial⟩)
def E_make18 : Env := E_arc18.ext 80 true true (mkCall 1 make18_i make18_o make18_r make18)
theorem E_make18_ok : EnvOK Tryz.prog E_make18 := Env.ext_ok E_arc18_ok make18_spec (fun _ => mkCall_local rfl rfl) (fun _ => mkCall_in rfl rfl)
-- archipelago/archipelagoref18.stands
abbrev stands18_h : Hints := {  }
theorem stands18_okd : ∀ v, stands18_d v = pevCall Tryz.prog E_make18 stands18_h Tryz.f157 stands18_i stands18_o stands18_r v := by
  rintro ⟨a0, a1, a2, ⟨⟩⟩
  kernel_rfl
theorem stands18_q : loopList (bodyOf Tryz.f157) 0 = [] := by kernel_rfl
theorem stands18_spec : SpecOK Tryz.prog 157 (mkCall 3 stands18_i stands18_o stands18_r stands18) := call_spec E_make18_ok Tryz.func157 (by kernel_rfl) (by kernel_rfl) rfl (fun v => (stands18_eq v).trans (stands18_okd v)) (LoopsOK_of stands18_q trivial)
def E_stands18 : Env := E_make18.ext 157 true true (mkCall 3 stands18_i stands18_o stands18_r stands18)
theorem E_stands18_ok : EnvOK Tryz.prog E_stands18 := Env.ext_ok E_make18_ok stands18_spec (fun _ => mkCall_local rfl rfl) (fun _ => mkCall_in rfl rfl)
-- archipelago/archipelagoref18.tree
abbrev tree18_h : Hints := { loop := fun n => match n with | 0 => loopBy 0 129 tree18_i0 tree18_o0 tree18_s0 | 1 => loopBy 0 129 tree18_i1 tree18_o1 tree18_s1 | 2 => loopBy 0 129 tree18_i2 tree18_o2 tree18_s2 | _ => fun _ _ _ => none, fp := fun n => match n with | 7 => [[], [], [0], [0], [], [], [], [], [0], [], [0], [0], [], [], [], [], [0], [], [0], [0], [], [], []] | _ => [] }
theorem tree18_s2_ok : ∀ v, tree18_s2 v = roundOf Tryz.prog E_stands18 tree18_h 3 0 129 (loopOf Tryz.f136 2) tree18_i2 tree18_o2 v := by
  rintro ⟨a0, a1, a2, a3, a4, a5, a6, a7, a8, a9, a10, a11, a12, a13, a14, a15, a16, a17, a18, a19, a20, a21, a22, a23, a24, a25, a26, a27, ⟨⟩⟩
  kernel_rfl
theorem tree18_q2 : loopList (loopOf Tryz.f136 2) 3 = [] := by kernel_rfl
theorem tree18_l2 : CodeOK Tryz.prog 0 (.loop (loopOf Tryz.f136 2)) (tree18_h.loop 2) := loop_ok E_stands18_ok (tree18_s2_ok) (LoopsOK_of tree18_q2 trivial)
theorem tree18_s1_ok : ∀ v, tree18_s1 v = roundOf Tryz.prog E_stands18 tree18_h 2 0 129 (loopOf Tryz.f136 1) tree18_i1 tree18_o1 v := by
  rintro ⟨a0, a1, a2, a3, ⟨⟩⟩
  kernel_rfl
theorem tree18_q1 : loopList (loopOf Tryz.f136 1) 2 = [(2, loopOf Tryz.f136 2)] := by kernel_rfl
theorem tree18_l1 : CodeOK Tryz.prog 0 (.loop (loopOf Tryz.f136 1)) (tree18_h.loop 1) := loop_ok E_stands18_ok (tree18_s1_ok) (LoopsOK_of tree18_q1 ⟨tree18_l2, trivial⟩)
theorem tree18_s0_ok : ∀ v, tree18_s0 v = roundOf Tryz.prog E_stands18 tree18_h 1 0 129 (loopOf Tryz.f136 0) tree18_i0 tree18_o0 v := by
  rintro ⟨a0, a1, ⟨⟩⟩
  kernel_rfl
theorem tree18_q0 : loopList (loopOf Tryz.f136 0) 1 = [(1, loopOf Tryz.f136 1)] := by kernel_rfl
theorem tree18_l0 : CodeOK Tryz.prog 0 (.loop (loopOf Tryz.f136 0)) (tree18_h.loop 0) := loop_ok E_stands18_ok (tree18_s0_ok) (LoopsOK_of tree18_q0 ⟨tree18_l1, trivial⟩)
theorem tree18_okd : ∀ v, tree18_d v = pevCall Tryz.prog E_stands18 tree18_h Tryz.f136 tree18_i tree18_o tree18_r v := by
  rintro ⟨a0, a1, ⟨⟩⟩
  kernel_rfl
theorem tree18_q : loopList (bodyOf Tryz.f136) 0 = [(0, loopOf Tryz.f136 0)] := by kernel_rfl
theorem tree18_spec : SpecOK Tryz.prog 136 (mkCall 2 tree18_i tree18_o tree18_r tree18) := call_spec E_stands18_ok Tryz.func136 (by kernel_rfl) (by kernel_rfl) rfl (fun v => (tree18_eq v).trans (tree18_okd v)) (LoopsOK_of tree18_q ⟨tree18_l0, trivial⟩)
def E_tree18 : Env := E_stands18.ext 136 true true (mkCall 2 tree18_i tree18_o tree18_r tree18)
theorem E_tree18_ok : EnvOK Tryz.prog E_tree18 := Env.ext_ok E_stands18_ok tree18_spec (fun _ => mkCall_local rfl rfl) (fun _ => mkCall_in rfl rfl)
-- archipelago/archipelagoref13.Place
abbrev place13_h : Hints := { loop := fun n => match n with | 0 => loopBy 0 19 place13_i0 place13_o0 place13_s0 | _ => fun _ _ _ => none }
theorem place13_s0_ok : ∀ v, place13_s0 v = roundOf Tryz.prog E_tree18 place13_h 1 0 19 (loopOf Tryz.f139 0) place13_i0 place13_o0 v := by
  rintro ⟨a0, a1, a2, ⟨⟩⟩
  kernel_rfl
theorem place13_q0 : loopList (loopOf Tryz.f139 0) 1 = [] := by kernel_rfl
theorem place13_l0 : CodeOK Tryz.prog 0 (.loop (loopOf Tryz.f139 0)) (place13_h.loop 0) := loop_ok E_tree18_ok (place13_s0_ok) (LoopsOK_of place13_q0 trivial)
theorem place13_okd : ∀ v, place13_d v = pevCall Tryz.prog E_tree18 place13_h Tryz.f139 place13_i place13_o place13_r v := by
  rintro ⟨a0, a1, ⟨⟩⟩
  kernel_rfl
theorem place13_q : loopList (bodyOf Tryz.f139) 0 = [(0, loopOf Tryz.f139 0)] := by kernel_rfl
theorem place13_spec : SpecOK Tryz.prog 139 (mkCall 2 place13_i place13_o place13_r place13) := call_spec E_tree18_ok Tryz.func139 (by kernel_rfl) (by kernel_rfl) rfl (fun v => (place13_eq v).trans (place13_okd v)) (LoopsOK_of place13_q ⟨place13_l0, trivial⟩)
def E_place13 : Env := E_tree18.ext 139 true true (mkCall 2 place13_i place13_o place13_r place13)
theorem E_place13_ok : EnvOK Tryz.prog E_place13 := Env.ext_ok E_tree18_ok place13_spec (fun _ => mkCall_local rfl rfl) (fun _ => mkCall_in rfl rfl)
-- archipelago/archipelagoref13.Right
abbrev right13_h : Hints := { loop := fun n => match n with | 0 => loopBy 0 36 right13_i0 right13_o0 right13_s0 | _ => fun _ _ _ => none, fp := fun n => match n with | 6 => [[], [], [], [], [], [], [], [], [], [], [], [], [], [], [], [], [], [], [], [], [], [], []] | _ => [] }
theorem right13_s0_ok : ∀ v, right13_s0 v = roundOf Tryz.prog E_place13 right13_h 1 0 36 (loopOf Tryz.f135 0) right13_i0 right13_o0 v := by
  rintro ⟨a0, a1, ⟨⟩⟩
  kernel_rfl
theorem right13_q0 : loopList (loopOf Tryz.f135 0) 1 = [] := by kernel_rfl
theorem right13_l0 : CodeOK Tryz.prog 0 (.loop (loopOf Tryz.f135 0)) (right13_h.loop 0) := loop_ok E_place13_ok (right13_s0_ok) (LoopsOK_of right13_q0 trivial)
theorem right13_okd : ∀ v, right13_d v = pevCall Tryz.prog E_place13 right13_h Tryz.f135 right13_i right13_o right13_r v := by
  rintro ⟨a0, ⟨⟩⟩
  kernel_rfl
theorem right13_q : loopList (bodyOf Tryz.f135) 0 = [(0, loopOf Tryz.f135 0)] := by kernel_rfl
theorem right13_spec : SpecOK Tryz.prog 135 (mkCall 1 right13_i right13_o right13_r right13) := call_spec E_place13_ok Tryz.func135 (by kernel_rfl) (by kernel_rfl) rfl (fun v => (right13_eq v).trans (right13_okd v)) (LoopsOK_of right13_q ⟨right13_l0, trivial⟩)
def E_right13 : Env := E_place13.ext 135 true true (mkCall 1 right13_i right13_o right13_r right13)
theorem E_right13_ok : EnvOK Tryz.prog E_right13 := Env.ext_ok E_place13_ok right13_spec (fun _ => mkCall_local rfl rfl) (fun _ => mkCall_in rfl rfl)
-- archipelago/archipelagoref13.From
abbrev from13_h : Hints := { fp := fun n => match n with | 4 => [[], [], [], [], [17], [], [], [], [19], [], []] | _ => [] }
theorem from13_okd : ∀ v, from13_d v = pevCall Tryz.prog E_right13 from13_h Tryz.f110 from13_i from13_o from13_r v := by
  rintro ⟨a0, a1, ⟨⟩⟩
  kernel_rfl
theorem from13_q : loopList (bodyOf Tryz.f110) 0 = [] := by kernel_rfl
theorem from13_spec : SpecOK Tryz.prog 110 (mkCall 2 from13_i from13_o from13_r from13) := call_spec E_right13_ok Tryz.func110 (by kernel_rfl) (by kernel_rfl) rfl (fun v => (from13_eq v).trans (from13_okd v)) (LoopsOK_of from13_q trivial)
def E_from13 : Env := E_right13.ext 110 true true (mkCall 2 from13_i from13_o from13_r from13)
theorem E_from13_ok : EnvOK Tryz.prog E_from13 := Env.ext_ok E_right13_ok from13_spec (fun _ => mkCall_local rfl rfl) (fun _ => mkCall_in rfl rfl)
-- archipelago/archipelagoref13.Plain
abbrev plain13_h : Hints := { loop := fun n => match n with | 0 => loopBy 0 37 plain13_i0 plain13_o0 plain13_s0 | _ => fun _ _ _ => none }
theorem plain13_s0_ok : ∀ v, plain13_s0 v = roundOf Tryz.prog E_from13 plain13_h 1 0 37 (loopOf Tryz.f138 0) plain13_i0 plain13_o0 v := by
  rintro ⟨a0, a1, a2, ⟨⟩⟩
  kernel_rfl
theorem plain13_q0 : loopList (loopOf Tryz.f138 0) 1 = [] := by kernel_rfl
theorem plain13_l0 : CodeOK Tryz.prog 0 (.loop (loopOf Tryz.f138 0)) (plain13_h.loop 0) := loop_ok E_from13_ok (plain13_s0_ok) (LoopsOK_of plain13_q0 trivial)
theorem plain13_okd : ∀ v, plain13_d v = pevCall Tryz.prog E_from13 plain13_h Tryz.f138 plain13_i plain13_o plain13_r v := by
  rintro ⟨a0, ⟨⟩⟩
  kernel_rfl
theorem plain13_q : loopList (bodyOf Tryz.f138) 0 = [(0, loopOf Tryz.f138 0)] := by kernel_rfl
theorem plain13_spec : SpecOK Tryz.prog 138 (mkCall 1 plain13_i plain13_o plain13_r plain13) := call_spec E_from13_ok Tryz.func138 (by kernel_rfl) (by kernel_rfl) rfl (fun v => (plain13_eq v).trans (plain13_okd v)) (LoopsOK_of plain13_q ⟨plain13_l0, trivial⟩)
def E_plain13 : Env := E_from13.ext 138 true true (mkCall 1 plain13_i plain13_o plain13_r plain13)
theorem E_plain13_ok : EnvOK Tryz.prog E_plain13 := Env.ext_ok E_from13_ok plain13_spec (fun _ => mkCall_local rfl rfl) (fun _ => mkCall_in rfl rfl)
-- archipelago/archipelagoref14.Lists
abbrev lists14_h : Hints := { loop := fun n => match n with | 0 => loopBy 0 27 lists14_i0 lists14_o0 lists14_s0 | _ => fun _ _ _ => none, fp := fun n => match n with | 6 => [[], [], [], [], [], [], [], [], [], []] | _ => [] }
theorem lists14_s0_ok : ∀ v, lists14_s0 v = roundOf Tryz.prog E_plain13 lists14_h 1 0 27 (loopOf Tryz.f137 0) lists14_i0 lists14_o0 v := by
  rintro ⟨a0, a1, a2, ⟨⟩⟩
  kernel_rfl
theorem lists14_q0 : loopList (loopOf Tryz.f137 0) 1 = [] := by kernel_rfl
theorem lists14_l0 : CodeOK Tryz.prog 0 (.loop (loopOf Tryz.f137 0)) (lists14_h.loop 0) := loop_ok E_plain13_ok (lists14_s0_ok) (LoopsOK_of lists14_q0 trivial)
theorem lists14_okd : ∀ v, lists14_d v = pevCall Tryz.prog E_plain13 lists14_h Tryz.f137 lists14_i lists14_o lists14_r v := by
  rintro ⟨a0, a1, ⟨⟩⟩
  kernel_rfl
theorem lists14_q : loopList (bodyOf Tryz.f137) 0 = [(0, loopOf Tryz.f137 0)] := by kernel_rfl
theorem lists14_spec : SpecOK Tryz.prog 137 (mkCall 2 lists14_i lists14_o lists14_r lists14) := call_spec E_plain13_ok Tryz.func137 (by kernel_rfl) (by kernel_rfl) rfl (fun v => (lists14_eq v).trans (lists14_okd v)) (LoopsOK_of lists14_q ⟨lists14_l0, trivial⟩)
def E_lists14 : Env := E_plain13.ext 137 true true (mkCall 2 lists14_i lists14_o lists14_r lists14)
theorem E_lists14_ok : EnvOK Tryz.prog E_lists14 := Env.ext_ok E_plain13_ok lists14_spec (fun _ => mkCall_local rfl rfl) (fun _ => mkCall_in rfl rfl)
end
end Go.Pev
end
section
namespace Go.Pev
open Go.Proofs
set_option maxRecDepth 100000
noncomputable section
-- archipelago/archipelagoref18.Right
abbrev right18_h : Hints := { loop := fun n => match n with | 0 => loopBy 0 106 right18_i0 right18_o0 right18_s0 | 1 => loopBy 0 106 right18_i1 right18_o1 right18_s1 | _ => fun _ _ _ => none, fp := fun n => match n with | 16 => [[], [], [], [], [0], [0], []] | _ => [] }
theorem right18_s1_ok : ∀ v, right18_s1 v = roundOf Tryz.prog E_lists14 right18_h 2 0 106 (loopOf Tryz.f107 1) right18_i1 right18_o1 v := by
  rintro ⟨a0, a1, a2, a3, a4, a5, a6, a7, a8, a9, a10, a11, a12, a13, a14, a15, a16, a17, a18, a19, a20, a21, a22, a23, a24, a25, ⟨⟩⟩
  kernel_rfl
theorem right18_q1 : loopList (loopOf Tryz.f107 1) 2 = [] := by kernel_rfl
theorem right18_l1 : CodeOK Tryz.prog 0 (.loop (loopOf Tryz.f107 1)) (right18_h.loop 1) := loop_ok E_lists14_ok (right18_s1_ok) (LoopsOK_of right18_q1 trivial)
theorem right18_s0_ok : ∀ v, right18_s0 v = roundOf Tryz.prog E_lists14 right18_h 1 0 106 (loopOf Tryz.f107 0) right18_i0 right18_o0 v := by
  rintro ⟨a0, a1, a2, a3, a4, a5, ⟨⟩⟩
  kernel_rfl
theorem right18_q0 : loopList (loopOf Tryz.f107 0) 1 = [(1, loopOf Tryz.f107 1)] := by kernel_rfl
theorem right18_l0 : CodeOK Tryz.prog 0 (.loop (loopOf Tryz.f107 0)) (right18_h.loop 0) := loop_ok E_lists14_ok (right18_s0_ok) (LoopsOK_of right18_q0 ⟨right18_l1, trivial⟩)
theorem right18_okd : ∀ v, right18_d v = pevCall Tryz.prog E_lists14 right18_h Tryz.f107 right18_i right18_o right18_r v := by
  rintro ⟨a0, ⟨⟩⟩
  kernel_rfl
theorem right18_q : loopList (bodyOf Tryz.f107) 0 = [(0, loopOf Tryz.f107 0)] := by kernel_rfl
theorem right18_spec : SpecOK Tryz.prog 107 (mkCall 1 right18_i right18_o right18_r right18) := call_spec E_lists14_ok Tryz.func107 (by kernel_rfl) (by kernel_rfl) rfl (fun v => (right18_eq v).trans (right18_okd v)) (LoopsOK_of right18_q ⟨right18_l0, trivial⟩)
def E_right18 : Env := E_lists14.ext 107 true true (mkCall 1 right18_i right18_o right18_r right18)
theorem E_right18_ok : EnvOK Tryz.prog E_right18 := Env.ext_ok E_lists14_ok right18_spec (fun _ => mkCall_local rfl rfl) (fun _ => mkCall_in rfl rfl)
-- archipelago/archipelagoref18.place
abbrev place18_h : Hints := { loop := fun n => match n with | 0 => loopBy 0 22 place18_i0 place18_o0 place18_s0 | _ => fun _ _ _ => none }
theorem place18_s0_ok : ∀ v, place18_s0 v = roundOf Tryz.prog E_right18 place18_h 1 0 22 (loopOf Tryz.f109 0) place18_i0 place18_o0 v := by
  rintro ⟨a0, a1, a2, a3, ⟨⟩⟩
  kernel_rfl
theorem place18_q0 : loopList (loopOf Tryz.f109 0) 1 = [] := by kernel_rfl
theorem place18_l0 : CodeOK Tryz.prog 0 (.loop (loopOf Tryz.f109 0)) (place18_h.loop 0) := loop_ok E_right18_ok (place18_s0_ok) (LoopsOK_of place18_q0 trivial)
theorem place18_okd : ∀ v, place18_d v = pevCall Tryz.prog E_right18 place18_h Tryz.f109 place18_i place18_o place18_r v := by
  rintro ⟨a0, a1, ⟨⟩⟩
  kernel_rfl
theorem place18_q : loopList (bodyOf Tryz.f109) 0 = [(0, loopOf Tryz.f109 0)] := by kernel_rfl
theorem place18_spec : SpecOK Tryz.prog 109 (mkCall 2 place18_i place18_o place18_r place18) := call_spec E_right18_ok Tryz.func109 (by kernel_rfl) (by kernel_rfl) rfl (fun v => (place18_eq v).trans (place18_okd v)) (LoopsOK_of place18_q ⟨place18_l0, trivial⟩)
def E_place18 : Env := E_right18.ext 109 true true (mkCall 2 place18_i place18_o place18_r place18)
theorem E_place18_ok : EnvOK Tryz.prog E_place18 := Env.ext_ok E_right18_ok place18_spec (fun _ => mkCall_local rfl rfl) (fun _ => mkCall_in rfl rfl)
-- archipelago/archipelagoref18.put
abbrev put18_h : Hints := { loop := fun n => match n with | 0 => loopBy 0 38 put18_i0 put18_o0 put18_s0 | _ => fun _ _ _ => none, fp := fun n => match n with | 3 => [[], [], [], [], [], [], [], [], [], [], [], [], [0], [0], [], []] | 5 => [[], [], [], [], [3], [], [0], [5, 6], [], [], [], [9], []] | _ => [] }
theorem put18_s0_ok : ∀ v, put18_s0 v = roundOf Tryz.prog E_place18 put18_h 1 0 38 (loopOf Tryz.f113 0) put18_i0 put18_o0 v := by
  rintro ⟨a0, a1, a2, ⟨⟩⟩
  kernel_rfl
theorem put18_q0 : loopList (loopOf Tryz.f113 0) 1 = [] := by kernel_rfl
theorem put18_l0 : CodeOK Tryz.prog 0 (.loop (loopOf Tryz.f113 0)) (put18_h.loop 0) := loop_ok E_place18_ok (put18_s0_ok) (LoopsOK_of put18_q0 trivial)
theorem put18_okd : ∀ v, put18_d v = pevCall Tryz.prog E_place18 put18_h Tryz.f113 put18_i put18_o put18_r v := by
  rintro ⟨a0, a1, ⟨⟩⟩
  kernel_rfl
theorem put18_q : loopList (bodyOf Tryz.f113) 0 = [(0, loopOf Tryz.f113 0)] := by kernel_rfl
theorem put18_spec : SpecOK Tryz.prog 113 (mkCall 2 put18_i put18_o put18_r put18) := call_spec E_place18_ok Tryz.func113 (by kernel_rfl) (by kernel_rfl) rfl (fun v => (put18_eq v).trans (put18_okd v)) (LoopsOK_of put18_q ⟨put18_l0, trivial⟩)
def E_put18 : Env := E_place18.ext 113 true true (mkCall 2 put18_i put18_o put18_r put18)
theorem E_put18_ok : EnvOK Tryz.prog E_put18 := Env.ext_ok E_place18_ok put18_spec (fun _ => mkCall_local rfl rfl) (fun _ => mkCall_in rfl rfl)
-- archipelago/archipelagoref18.without
abbrev without18_h : Hints := { fp := fun n => match n with | 1 => [[], [], [], [], [1], [], [], [], [], [3], []] | _ => [] }
theorem without18_okd : ∀ v, without18_d v = pevCall Tryz.prog E_put18 without18_h Tryz.f112 without18_i without18_o without18_r v := by
  rintro ⟨a0, a1, ⟨⟩⟩
  kernel_rfl
theorem without18_q : loopList (bodyOf Tryz.f112) 0 = [] := by kernel_rfl
theorem without18_spec : SpecOK Tryz.prog 112 (mkCall 2 without18_i without18_o without18_r without18) := call_spec E_put18_ok Tryz.func112 (by kernel_rfl) (by kernel_rfl) rfl (fun v => (without18_eq v).trans (without18_okd v)) (LoopsOK_of without18_q trivial)
def E_without18 : Env := E_put18.ext 112 true true (mkCall 2 without18_i without18_o without18_r without18)
theorem E_without18_ok : EnvOK Tryz.prog E_without18 := Env.ext_ok E_put18_ok without18_spec (fun _ => mkCall_local rfl rfl) (fun _ => mkCall_in rfl rfl)
-- archipelago/archipelagoref18.Link
abbrev link18_h : Hints := { fp := fun n => match n with | 13 => [[0], [0], [], [], [], [], [102], [], [110, 100], [], [3], []] | 11 => [[], [0], [0], [], [], [], [], [87, 96], [], [60], [99, 60], []] | 7 => [[0], [], [], [0], [], [], [], []] | 5 => [[0], [], [], [0], [], [], [], []] | _ => [] }
theorem link18_okd : ∀ v, link18_d v = pevCall Tryz.prog E_without18 link18_h Tryz.f82 link18_i link18_o link18_r v := by
  rintro ⟨a0, a1, a2, ⟨⟩⟩
  kernel_rfl
theorem link18_q : loopList (bodyOf Tryz.f82) 0 = [] := by kernel_rfl
theorem link18_spec : SpecOK Tryz.prog 82 (mkCall 3 link18_i link18_o link18_r link18) := call_spec E_without18_ok Tryz.func82 (by kernel_rfl) (by kernel_rfl) rfl (fun v => (link18_eq v).trans (link18_okd v)) (LoopsOK_of link18_q trivial)
def E_link18 : Env := E_without18.ext 82 true true (mkCall 3 link18_i link18_o link18_r link18)
theorem E_link18_ok : EnvOK Tryz.prog E_link18 := Env.ext_ok E_without18_ok link18_spec (fun _ => mkCall_local rfl rfl) (fun _ => mkCall_in rfl rfl)
-- archipelago/archipelagoref19.there
abbrev there19_h : Hints := { loop := fun n => match n with | 0 => loopBy 0 49 there19_i0 there19_o0 there19_s0 | _ => fun _ _ _ => none, fp := fun n => match n with | 6 => [[], [], [], [], [], [], [], [], [], [], [], [], [0], [0], [], [], [], [], [], [], [], [], [], [], [], [], [], [], [], [], [0], [0], [], []] | _ => [] }
theorem there19_s0_ok : ∀ v, there19_s0 v = roundOf Tryz.prog E_link18 there19_h 1 0 49 (loopOf Tryz.f81 0) there19_i0 there19_o0 v := by
  rintro ⟨a0, a1, a2, a3, ⟨⟩⟩
  kernel_rfl
theorem there19_q0 : loopList (loopOf Tryz.f81 0) 1 = [] := by kernel_rfl
theorem there19_l0 : CodeOK Tryz.prog 0 (.loop (loopOf Tryz.f81 0)) (there19_h.loop 0) := loop_ok E_link18_ok (there19_s0_ok) (LoopsOK_of there19_q0 trivial)
theorem there19_okd : ∀ v, there19_d v = pevCall Tryz.prog E_link18 there19_h Tryz.f81 there19_i there19_o there19_r v := by
  rintro ⟨a0, a1, ⟨⟩⟩
  kernel_rfl
theorem there19_q : loopList (bodyOf Tryz.f81) 0 = [(0, loopOf Tryz.f81 0)] := by kernel_rfl
theorem there19_spec : SpecOK Tryz.prog 81 (mkCall 2 there19_i there19_o there19_r there19) := call_spec E_link18_ok Tryz.func81 (by kernel_rfl) (by kernel_rfl) rfl (fun v => (there19_eq v).trans (there19_okd v)) (LoopsOK_of there19_q ⟨there19_l0, trivial⟩)
def E_there19 : Env := E_link18.ext 81 true true (mkCall 2 there19_i there19_o there19_r there19)
theorem E_there19_ok : EnvOK Tryz.prog E_there19 := Env.ext_ok E_link18_ok there19_spec (fun _ => mkCall_local rfl rfl) (fun _ => mkCall_in rfl rfl)
-- archipelago/archipelagoref19.Links
abbrev links19_h : Hints := { loop := fun n => match n with | 0 => loopBy 0 48 links19_i0 links19_o0 links19_s0 | _ => fun _ _ _ => none, fp := fun n => match n with | 8 => [[0], [], [], [], [], [], [], [], [], [], [], [], [], [], [], [], [15], []] | _ => [] }
theorem links19_s0_ok : ∀ v, links19_s0 v = roundOf Tryz.prog E_there19 links19_h 1 0 48 (loopOf Tryz.f59 0) links19_i0 links19_o0 v := by
  rintro ⟨a0, a1, a2, a3, a4, a5, ⟨⟩⟩
  kernel_rfl
theorem links19_q0 : loopList (loopOf Tryz.f59 0) 1 = [] := by kernel_rfl
theorem links19_l0 : CodeOK Tryz.prog 0 (.loop (loopOf Tryz.f59 0)) (links19_h.loop 0) := loop_ok E_there19_ok (links19_s0_ok) (LoopsOK_of links19_q0 trivial)
theorem links19_okd : ∀ v, links19_d v = pevCall Tryz.prog E_there19 links19_h Tryz.f59 links19_i links19_o links19_r v := by
  rintro ⟨a0, a1, ⟨⟩⟩
  kernel_rfl
theorem links19_q : loopList (bodyOf Tryz.f59) 0 = [(0, loopOf Tryz.f59 0)] := by kernel_rfl
theorem links19_spec : SpecOK Tryz.prog 59 (mkCall 2 links19_i links19_o links19_r links19) := call_spec E_there19_ok Tryz.func59 (by kernel_rfl) (by kernel_rfl) rfl (fun v => (links19_eq v).trans (links19_okd v)) (LoopsOK_of links19_q ⟨links19_l0, trivial⟩)
def E_links19 : Env := E_there19.ext 59 true true (mkCall 2 links19_i links19_o links19_r links19)
theorem E_links19_ok : EnvOK Tryz.prog E_links19 := Env.ext_ok E_there19_ok links19_spec (fun _ => mkCall_local rfl rfl) (fun _ => mkCall_in rfl rfl)
-- archipelago/archipelagoref19.Of
abbrev of19_h : Hints := {  }
theorem of19_okd : ∀ v, of19_d v = pevCall Tryz.prog E_links19 of19_h Tryz.f58 of19_i of19_o of19_r v := by
  rintro ⟨a0, a1, ⟨⟩⟩
  kernel_rfl
theorem of19_q : loopList (bodyOf Tryz.f58) 0 = [] := by kernel_rfl
theorem of19_spec : SpecOK Tryz.prog 58 (mkCall 2 of19_i of19_o of19_r of19) := call_spec E_links19_ok Tryz.func58 (by kernel_rfl) (by kernel_rfl) rfl (fun v => (of19_eq v).trans (of19_okd v)) (LoopsOK_of of19_q trivial)
def E_of19 : Env := E_links19.ext 58 true true (mkCall 2 of19_i of19_o of19_r of19)
theorem E_of19_ok : EnvOK Tryz.prog E_of19 := Env.ext_ok E_links19_ok of19_spec (fun _ => mkCall_local rfl rfl) (fun _ => mkCall_in rfl rfl)
-- archipelago/archipelagoref20.asked
abbrev asked20_h : Hints := { loop := fun n => match n with | 0 => loopBy 0 50 asked20_i0 asked20_o0 asked20_s0 | _ => fun _ _ _ => none }
theorem asked20_s0_ok : ∀ v, asked20_s0 v = roundOf Tryz.prog E_of19 asked20_h 1 0 50 (loopOf Tryz.f45 0) asked20_i0 asked20_o0 v := by
  rintro ⟨a0, a1, a2, ⟨⟩⟩
  kernel_rfl
theorem asked20_q0 : loopList (loopOf Tryz.f45 0) 1 = [] := by kernel_rfl
theorem asked20_l0 : CodeOK Tryz.prog 0 (.loop (loopOf Tryz.f45 0)) (asked20_h.loop 0) := loop_ok E_of19_ok (asked20_s0_ok) (LoopsOK_of asked20_q0 trivial)
theorem asked20_okd : ∀ v, asked20_d v = pevCall Tryz.prog E_of19 asked20_h Tryz.f45 asked20_i asked20_o asked20_r v := by
  rintro ⟨a0, a1, ⟨⟩⟩
  kernel_rfl
theorem asked20_q : loopList (bodyOf Tryz.f45) 0 = [(0, loopOf Tryz.f45 0)] := by kernel_rfl
theorem asked20_spec : SpecOK Tryz.prog 45 (mkCall 2 asked20_i asked20_o asked20_r asked20) := call_spec E_of19_ok Tryz.func45 (by kernel_rfl) (by kernel_rfl) rfl (fun v => (asked20_eq v).trans (asked20_okd v)) (LoopsOK_of asked20_q ⟨asked20_l0, trivial⟩)
def E_asked20 : Env := E_of19.ext 45 true true (mkCall 2 asked20_i asked20_o asked20_r asked20)
theorem E_asked20_ok : EnvOK Tryz.prog E_asked20 := Env.ext_ok E_of19_ok asked20_spec (fun _ => mkCall_local rfl rfl) (fun _ => mkCall_in rfl rfl)
-- archipelago/archipelagoref20.Classes
abbrev classes20_h : Hints := {  }
theorem classes20_okd : ∀ v, classes20_d v = pevCall Tryz.prog E_asked20 classes20_h Tryz.f16 classes20_i classes20_o classes20_r v := by
  rintro ⟨a0, a1, ⟨⟩⟩
  kernel_rfl
theorem classes20_q : loopList (bodyOf Tryz.f16) 0 = [] := by kernel_rfl
theorem classes20_spec : SpecOK Tryz.prog 16 (mkCall 2 classes20_i classes20_o classes20_r classes20) := call_spec E_asked20_ok Tryz.func16 (by kernel_rfl) (by kernel_rfl) rfl (fun v => (classes20_eq v).trans (classes20_okd v)) (LoopsOK_of classes20_q trivial)
def E_classes20 : Env := E_asked20.ext 16 true true (mkCall 2 classes20_i classes20_o classes20_r classes20)
theorem E_classes20_ok : EnvOK Tryz.prog E_classes20 := Env.ext_ok E_asked20_ok classes20_spec (fun _ => mkCall_local rfl rfl) (fun _ => mkCall_in rfl rfl)
-- archipelago/archipelagoref20.Count
abbrev count20_h : Hints := { loop := fun n => match n with | 0 => loopBy 0 32 count20_i0 count20_o0 count20_s0 | _ => fun _ _ _ => none }
theorem count20_s0_ok : ∀ v, count20_s0 v = roundOf Tryz.prog E_classes20 count20_h 1 0 32 (loopOf Tryz.f33 0) count20_i0 count20_o0 v := by
  rintro ⟨a0, a1, a2, a3, ⟨⟩⟩
  kernel_rfl
theorem count20_q0 : loopList (loopOf Tryz.f33 0) 1 = [] := by kernel_rfl
theorem count20_l0 : CodeOK Tryz.prog 0 (.loop (loopOf Tryz.f33 0)) (count20_h.loop 0) := loop_ok E_classes20_ok (count20_s0_ok) (LoopsOK_of count20_q0 trivial)
theorem count20_okd : ∀ v, count20_d v = pevCall Tryz.prog E_classes20 count20_h Tryz.f33 count20_i count20_o count20_r v := by
  rintro ⟨a0, a1, ⟨⟩⟩
  kernel_rfl
theorem count20_q : loopList (bodyOf Tryz.f33) 0 = [(0, loopOf Tryz.f33 0)] := by kernel_rfl
theorem count20_spec : SpecOK Tryz.prog 33 (mkCall 2 count20_i count20_o count20_r count20) := call_spec E_classes20_ok Tryz.func33 (by kernel_rfl) (by kernel_rfl) rfl (fun v => (count20_eq v).trans (count20_okd v)) (LoopsOK_of count20_q ⟨count20_l0, trivial⟩)
def E_count20 : Env := E_classes20.ext 33 true true (mkCall 2 count20_i count20_o count20_r count20)
theorem E_count20_ok : EnvOK Tryz.prog E_count20 := Env.ext_ok E_classes20_ok count20_spec (fun _ => mkCall_local rfl rfl) (fun _ => mkCall_in rfl rfl)
-- archipelago/archipelagoref20.Choose
abbrev choose20_h : Hints := {  }
theorem choose20_okd : ∀ v, choose20_d v = pevCall Tryz.prog E_count20 choose20_h Tryz.f29 choose20_i choose20_o choose20_r v := by
  rintro ⟨a0, a1, ⟨⟩⟩
  kernel_rfl
theorem choose20_q : loopList (bodyOf Tryz.f29) 0 = [] := by kernel_rfl
theorem choose20_spec : SpecOK Tryz.prog 29 (mkCall 2 choose20_i choose20_o choose20_r choose20) := call_spec E_count20_ok Tryz.func29 (by kernel_rfl) (by kernel_rfl) rfl (fun v => (choose20_eq v).trans (choose20_okd v)) (LoopsOK_of choose20_q trivial)
def E_choose20 : Env := E_count20.ext 29 true true (mkCall 2 choose20_i choose20_o choose20_r choose20)
theorem E_choose20_ok : EnvOK Tryz.prog E_choose20 := Env.ext_ok E_count20_ok choose20_spec (fun _ => mkCall_local rfl rfl) (fun _ => mkCall_in rfl rfl)
end
end Go.Pev
end
section
namespace Go.Pev
open Go.Proofs
set_option maxRecDepth 100000
noncomputable section
-- archipelago/archipelagoref21.Trees
abbrev trees21_h : Hints := { loop := fun n => match n with | 0 => loopBy 0 47 trees21_i0 trees21_o0 trees21_s0 | _ => fun _ _ _ => none, fp := fun n => match n with | 6 => [[], [0], [0], [], [], [], [], [0], [0], [], [], [], [], [], [], [3, 4], []] | _ => [] }
theorem trees21_s0_ok : ∀ v, trees21_s0 v = roundOf Tryz.prog E_choose20 trees21_h 1 0 47 (loopOf Tryz.f18 0) trees21_i0 trees21_o0 v := by
  rintro ⟨a0, a1, a2, a3, a4, ⟨⟩⟩
  kernel_rfl
theorem trees21_q0 : loopList (loopOf Tryz.f18 0) 1 = [] := by kernel_rfl
theorem trees21_l0 : CodeOK Tryz.prog 0 (.loop (loopOf Tryz.f18 0)) (trees21_h.loop 0) := loop_ok E_choose20_ok (trees21_s0_ok) (LoopsOK_of trees21_q0 trivial)
theorem trees21_okd : ∀ v, trees21_d v = pevCall Tryz.prog E_choose20 trees21_h Tryz.f18 trees21_i trees21_o trees21_r v := by
  rintro ⟨a0, a1, ⟨⟩⟩
  kernel_rfl
theorem trees21_q : loopList (bodyOf Tryz.f18) 0 = [(0, loopOf Tryz.f18 0)] := by kernel_rfl
theorem trees21_spec : SpecOK Tryz.prog 18 (mkCall 2 trees21_i trees21_o trees21_r trees21) := call_spec E_choose20_ok Tryz.func18 (by kernel_rfl) (by kernel_rfl) rfl (fun v => (trees21_eq v).trans (trees21_okd v)) (LoopsOK_of trees21_q ⟨trees21_l0, trivial⟩)
def E_trees21 : Env := E_choose20.ext 18 true true (mkCall 2 trees21_i trees21_o trees21_r trees21)
theorem E_trees21_ok : EnvOK Tryz.prog E_trees21 := Env.ext_ok E_choose20_ok trees21_spec (fun _ => mkCall_local rfl rfl) (fun _ => mkCall_in rfl rfl)
-- archipelago/archipelagoref21.Forest
abbrev forest21_h : Hints := { fp := fun n => match n with | 3 => [[0], [0], [0], [], [], [12], [], [], [3], []] | _ => [] }
theorem forest21_okd : ∀ v, forest21_d v = pevCall Tryz.prog E_trees21 forest21_h Tryz.f28 forest21_i forest21_o forest21_r v := by
  rintro ⟨a0, a1, ⟨⟩⟩
  kernel_rfl
theorem forest21_q : loopList (bodyOf Tryz.f28) 0 = [] := by kernel_rfl
theorem forest21_spec : SpecOK Tryz.prog 28 (mkCall 2 forest21_i forest21_o forest21_r forest21) := call_spec E_trees21_ok Tryz.func28 (by kernel_rfl) (by kernel_rfl) rfl (fun v => (forest21_eq v).trans (forest21_okd v)) (LoopsOK_of forest21_q trivial)
def E_forest21 : Env := E_trees21.ext 28 true true (mkCall 2 forest21_i forest21_o forest21_r forest21)
theorem E_forest21_ok : EnvOK Tryz.prog E_forest21 := Env.ext_ok E_trees21_ok forest21_spec (fun _ => mkCall_local rfl rfl) (fun _ => mkCall_in rfl rfl)
-- archipelago/archipelagoref22.Has
abbrev has22_h : Hints := { loop := fun n => match n with | 0 => loopBy 0 18 has22_i0 has22_o0 has22_s0 | _ => fun _ _ _ => none, fp := fun n => match n with | 4 => [[], [], [], [], [0], []] | _ => [] }
theorem has22_s0_ok : ∀ v, has22_s0 v = roundOf Tryz.prog E_forest21 has22_h 1 0 18 (loopOf Tryz.f57 0) has22_i0 has22_o0 v := by
  rintro ⟨a0, a1, a2, a3, ⟨⟩⟩
  kernel_rfl
theorem has22_q0 : loopList (loopOf Tryz.f57 0) 1 = [] := by kernel_rfl
theorem has22_l0 : CodeOK Tryz.prog 0 (.loop (loopOf Tryz.f57 0)) (has22_h.loop 0) := loop_ok E_forest21_ok (has22_s0_ok) (LoopsOK_of has22_q0 trivial)
theorem has22_okd : ∀ v, has22_d v = pevCall Tryz.prog E_forest21 has22_h Tryz.f57 has22_i has22_o has22_r v := by
  rintro ⟨a0, a1, ⟨⟩⟩
  kernel_rfl
theorem has22_q : loopList (bodyOf Tryz.f57) 0 = [(0, loopOf Tryz.f57 0)] := by kernel_rfl
theorem has22_spec : SpecOK Tryz.prog 57 (mkCall 2 has22_i has22_o has22_r has22) := call_spec E_forest21_ok Tryz.func57 (by kernel_rfl) (by kernel_rfl) rfl (fun v => (has22_eq v).trans (has22_okd v)) (LoopsOK_of has22_q ⟨has22_l0, trivial⟩)
def E_has22 : Env := E_forest21.ext 57 true true (mkCall 2 has22_i has22_o has22_r has22)
theorem E_has22_ok : EnvOK Tryz.prog E_has22 := Env.ext_ok E_forest21_ok has22_spec (fun _ => mkCall_local rfl rfl) (fun _ => mkCall_in rfl rfl)
-- archipelago/archipelagoref22.asked
abbrev asked22_h : Hints := { loop := fun n => match n with | 0 => loopBy 0 49 asked22_i0 asked22_o0 asked22_s0 | _ => fun _ _ _ => none, fp := fun n => match n with | 6 => [[], [], [], [], [], [], [], [], [], [], [], [], [0], [0], [], [], [], [], [], [], [], [], [], [], [], [], [], [], [], [], [0], [0], [], []] | _ => [] }
theorem asked22_s0_ok : ∀ v, asked22_s0 v = roundOf Tryz.prog E_has22 asked22_h 1 0 49 (loopOf Tryz.f55 0) asked22_i0 asked22_o0 v := by
  rintro ⟨a0, a1, a2, a3, ⟨⟩⟩
  kernel_rfl
theorem asked22_q0 : loopList (loopOf Tryz.f55 0) 1 = [] := by kernel_rfl
theorem asked22_l0 : CodeOK Tryz.prog 0 (.loop (loopOf Tryz.f55 0)) (asked22_h.loop 0) := loop_ok E_has22_ok (asked22_s0_ok) (LoopsOK_of asked22_q0 trivial)
theorem asked22_okd : ∀ v, asked22_d v = pevCall Tryz.prog E_has22 asked22_h Tryz.f55 asked22_i asked22_o asked22_r v := by
  rintro ⟨a0, a1, ⟨⟩⟩
  kernel_rfl
theorem asked22_q : loopList (bodyOf Tryz.f55) 0 = [(0, loopOf Tryz.f55 0)] := by kernel_rfl
theorem asked22_spec : SpecOK Tryz.prog 55 (mkCall 2 asked22_i asked22_o asked22_r asked22) := call_spec E_has22_ok Tryz.func55 (by kernel_rfl) (by kernel_rfl) rfl (fun v => (asked22_eq v).trans (asked22_okd v)) (LoopsOK_of asked22_q ⟨asked22_l0, trivial⟩)
def E_asked22 : Env := E_has22.ext 55 true true (mkCall 2 asked22_i asked22_o asked22_r asked22)
theorem E_asked22_ok : EnvOK Tryz.prog E_asked22 := Env.ext_ok E_has22_ok asked22_spec (fun _ => mkCall_local rfl rfl) (fun _ => mkCall_in rfl rfl)
-- archipelago/archipelagoref22.Plain
abbrev plain22_h : Hints := { loop := fun n => match n with | 0 => loopBy 0 39 plain22_i0 plain22_o0 plain22_s0 | 1 => loopBy 0 39 plain22_i1 plain22_o1 plain22_s1 | _ => fun _ _ _ => none }
theorem plain22_s1_ok : ∀ v, plain22_s1 v = roundOf Tryz.prog E_asked22 plain22_h 2 0 39 (loopOf Tryz.f56 1) plain22_i1 plain22_o1 v := by
  rintro ⟨a0, a1, a2, a3, a4, ⟨⟩⟩
  kernel_rfl
theorem plain22_q1 : loopList (loopOf Tryz.f56 1) 2 = [] := by kernel_rfl
theorem plain22_l1 : CodeOK Tryz.prog 0 (.loop (loopOf Tryz.f56 1)) (plain22_h.loop 1) := loop_ok E_asked22_ok (plain22_s1_ok) (LoopsOK_of plain22_q1 trivial)
theorem plain22_s0_ok : ∀ v, plain22_s0 v = roundOf Tryz.prog E_asked22 plain22_h 1 0 39 (loopOf Tryz.f56 0) plain22_i0 plain22_o0 v := by
  rintro ⟨a0, a1, a2, a3, ⟨⟩⟩
  kernel_rfl
theorem plain22_q0 : loopList (loopOf Tryz.f56 0) 1 = [(1, loopOf Tryz.f56 1)] := by kernel_rfl
theorem plain22_l0 : CodeOK Tryz.prog 0 (.loop (loopOf Tryz.f56 0)) (plain22_h.loop 0) := loop_ok E_asked22_ok (plain22_s0_ok) (LoopsOK_of plain22_q0 ⟨plain22_l1, trivial⟩)
theorem plain22_okd : ∀ v, plain22_d v = pevCall Tryz.prog E_asked22 plain22_h Tryz.f56 plain22_i plain22_o plain22_r v := by
  rintro ⟨a0, a1, ⟨⟩⟩
  kernel_rfl
theorem plain22_q : loopList (bodyOf Tryz.f56) 0 = [(0, loopOf Tryz.f56 0)] := by kernel_rfl
theorem plain22_spec : SpecOK Tryz.prog 56 (mkCall 2 plain22_i plain22_o plain22_r plain22) := call_spec E_asked22_ok Tryz.func56 (by kernel_rfl) (by kernel_rfl) rfl (fun v => (plain22_eq v).trans (plain22_okd v)) (LoopsOK_of plain22_q ⟨plain22_l0, trivial⟩)
def E_plain22 : Env := E_asked22.ext 56 true true (mkCall 2 plain22_i plain22_o plain22_r plain22)
theorem E_plain22_ok : EnvOK Tryz.prog E_plain22 := Env.ext_ok E_asked22_ok plain22_spec (fun _ => mkCall_local rfl rfl) (fun _ => mkCall_in rfl rfl)
-- archipelago/archipelagoref22.New
abbrev new22_h : Hints := { loop := fun n => match n with | 0 => loopBy 0 44 new22_i0 new22_o0 new22_s0 | _ => fun _ _ _ => none }
theorem new22_s0_ok : ∀ v, new22_s0 v = roundOf Tryz.prog E_plain22 new22_h 1 0 44 (loopOf Tryz.f26 0) new22_i0 new22_o0 v := by
  rintro ⟨a0, a1, a2, a3, ⟨⟩⟩
  kernel_rfl
theorem new22_q0 : loopList (loopOf Tryz.f26 0) 1 = [] := by kernel_rfl
theorem new22_l0 : CodeOK Tryz.prog 0 (.loop (loopOf Tryz.f26 0)) (new22_h.loop 0) := loop_ok E_plain22_ok (new22_s0_ok) (LoopsOK_of new22_q0 trivial)
theorem new22_okd : ∀ v, new22_d v = pevCall Tryz.prog E_plain22 new22_h Tryz.f26 new22_i new22_o new22_r v := by
  rintro ⟨a0, a1, ⟨⟩⟩
  kernel_rfl
theorem new22_q : loopList (bodyOf Tryz.f26) 0 = [(0, loopOf Tryz.f26 0)] := by kernel_rfl
theorem new22_spec : SpecOK Tryz.prog 26 (mkCall 2 new22_i new22_o new22_r new22) := call_spec E_plain22_ok Tryz.func26 (by kernel_rfl) (by kernel_rfl) rfl (fun v => (new22_eq v).trans (new22_okd v)) (LoopsOK_of new22_q ⟨new22_l0, trivial⟩)
def E_new22 : Env := E_plain22.ext 26 true true (mkCall 2 new22_i new22_o new22_r new22)
theorem E_new22_ok : EnvOK Tryz.prog E_new22 := Env.ext_ok E_plain22_ok new22_spec (fun _ => mkCall_local rfl rfl) (fun _ => mkCall_in rfl rfl)
-- archipelago/archipelagoref22.Fits
abbrev fits22_h : Hints := {  }
theorem fits22_okd : ∀ v, fits22_d v = pevCall Tryz.prog E_new22 fits22_h Tryz.f27 fits22_i fits22_o fits22_r v := by
  rintro ⟨a0, a1, ⟨⟩⟩
  kernel_rfl
theorem fits22_q : loopList (bodyOf Tryz.f27) 0 = [] := by kernel_rfl
theorem fits22_spec : SpecOK Tryz.prog 27 (mkCall 2 fits22_i fits22_o fits22_r fits22) := call_spec E_new22_ok Tryz.func27 (by kernel_rfl) (by kernel_rfl) rfl (fun v => (fits22_eq v).trans (fits22_okd v)) (LoopsOK_of fits22_q trivial)
def E_fits22 : Env := E_new22.ext 27 true true (mkCall 2 fits22_i fits22_o fits22_r fits22)
theorem E_fits22_ok : EnvOK Tryz.prog E_fits22 := Env.ext_ok E_new22_ok fits22_spec (fun _ => mkCall_local rfl rfl) (fun _ => mkCall_in rfl rfl)
-- archipelago/archipelagoref22.Put
abbrev put22_h : Hints := { loop := fun n => match n with | 0 => loopBy 0 54 put22_i0 put22_o0 put22_s0 | _ => fun _ _ _ => none, fp := fun n => match n with | 2 => [[], [], [], [], [], [], [], [], [], [], [0], [0], [], [], [], [], [], [], [], [0], [0], [], [], [], [], [], [], [], [0], [0], [], [], [], []] | 4 => [[], [], [], [], [3], [0], [], [5, 6], [], [], [], [9], []] | _ => [] }
theorem put22_s0_ok : ∀ v, put22_s0 v = roundOf Tryz.prog E_fits22 put22_h 1 0 54 (loopOf Tryz.f30 0) put22_i0 put22_o0 v := by
  rintro ⟨a0, a1, a2, a3, a4, a5, ⟨⟩⟩
  kernel_rfl
theorem put22_q0 : loopList (loopOf Tryz.f30 0) 1 = [] := by kernel_rfl
theorem put22_l0 : CodeOK Tryz.prog 0 (.loop (loopOf Tryz.f30 0)) (put22_h.loop 0) := loop_ok E_fits22_ok (put22_s0_ok) (LoopsOK_of put22_q0 trivial)
theorem put22_okd : ∀ v, put22_d v = pevCall Tryz.prog E_fits22 put22_h Tryz.f30 put22_i put22_o put22_r v := by
  rintro ⟨a0, a1, ⟨⟩⟩
  kernel_rfl
theorem put22_q : loopList (bodyOf Tryz.f30) 0 = [(0, loopOf Tryz.f30 0)] := by kernel_rfl
theorem put22_spec : SpecOK Tryz.prog 30 (mkCall 2 put22_i put22_o put22_r put22) := call_spec E_fits22_ok Tryz.func30 (by kernel_rfl) (by kernel_rfl) rfl (fun v => (put22_eq v).trans (put22_okd v)) (LoopsOK_of put22_q ⟨put22_l0, trivial⟩)
def E_put22 : Env := E_fits22.ext 30 true true (mkCall 2 put22_i put22_o put22_r put22)
theorem E_put22_ok : EnvOK Tryz.prog E_put22 := Env.ext_ok E_fits22_ok put22_spec (fun _ => mkCall_local rfl rfl) (fun _ => mkCall_in rfl rfl)
-- archipelago/archipelagoref22.Add
abbrev add22_h : Hints := { loop := fun n => match n with | 0 => loopBy 0 76 add22_i0 add22_o0 add22_s0 | _ => fun _ _ _ => none, fp := fun n => match n with | 12 => [[6], [6], [], [], [2], [2], [2], [], [], [2], [2], [2], [], [], [4], [4], [], [8], [6], [7]] | 8 => [[0], [0], [], [0], [0], [39], [], [], [43]] | _ => [] }
theorem add22_s0_ok : ∀ v, add22_s0 v = roundOf Tryz.prog E_put22 add22_h 1 0 76 (loopOf Tryz.f8 0) add22_i0 add22_o0 v := by
  rintro ⟨a0, a1, a2, a3, a4, a5, ⟨⟩⟩
  kernel_rfl
theorem add22_q0 : loopList (loopOf Tryz.f8 0) 1 = [] := by kernel_rfl
theorem add22_l0 : CodeOK Tryz.prog 0 (.loop (loopOf Tryz.f8 0)) (add22_h.loop 0) := loop_ok E_put22_ok (add22_s0_ok) (LoopsOK_of add22_q0 trivial)
theorem add22_okd : ∀ v, add22_d v = pevCall Tryz.prog E_put22 add22_h Tryz.f8 add22_i add22_o add22_r v := by
  rintro ⟨a0, a1, ⟨⟩⟩
  kernel_rfl
theorem add22_q : loopList (bodyOf Tryz.f8) 0 = [(0, loopOf Tryz.f8 0)] := by kernel_rfl
theorem add22_spec : SpecOK Tryz.prog 8 (mkCall 2 add22_i add22_o add22_r add22) := call_spec E_put22_ok Tryz.func8 (by kernel_rfl) (by kernel_rfl) rfl (fun v => (add22_eq v).trans (add22_okd v)) (LoopsOK_of add22_q ⟨add22_l0, trivial⟩)
def E_add22 : Env := E_put22.ext 8 true true (mkCall 2 add22_i add22_o add22_r add22)
theorem E_add22_ok : EnvOK Tryz.prog E_add22 := Env.ext_ok E_put22_ok add22_spec (fun _ => mkCall_local rfl rfl) (fun _ => mkCall_in rfl rfl)
-- archipelago/archipelagoref22.Joined
abbrev joined22_h : Hints := { fp := fun n => match n with | 6 => [[0], [0], [], [], [11, 2], [26], [], [], [], [], []] | _ => [] }
theorem joined22_okd : ∀ v, joined22_d v = pevCall Tryz.prog E_add22 joined22_h Tryz.f10 joined22_i joined22_o joined22_r v := by
  rintro ⟨a0, a1, ⟨⟩⟩
  kernel_rfl
theorem joined22_q : loopList (bodyOf Tryz.f10) 0 = [] := by kernel_rfl
theorem joined22_spec : SpecOK Tryz.prog 10 (mkCall 2 joined22_i joined22_o joined22_r joined22) := call_spec E_add22_ok Tryz.func10 (by kernel_rfl) (by kernel_rfl) rfl (fun v => (joined22_eq v).trans (joined22_okd v)) (LoopsOK_of joined22_q trivial)
def E_joined22 : Env := E_add22.ext 10 true true (mkCall 2 joined22_i joined22_o joined22_r joined22)
theorem E_joined22_ok : EnvOK Tryz.prog E_joined22 := Env.ext_ok E_add22_ok joined22_spec (fun _ => mkCall_local rfl rfl) (fun _ => mkCall_in rfl rfl)
-- archipelago/archipelagolaw27.alive
abbrev alive27_h : Hints := {  }
def alive27_K : Env := { E_joined22 with keep := true }
theorem alive27_K_ok : EnvOK Tryz.prog alive27_K := E_joined22_ok
theorem alive27_okd : ∀ v, alive27_d v = pevCall Tryz.prog alive27_K alive27_h Tryz.f6 alive27_i alive27_o alive27_r v := by
  rintro ⟨⟨⟩⟩
  kernel_rfl
theorem alive27_q : loopList (bodyOf Tryz.f6) 0 = [] := by kernel_rfl
theorem alive27_spec : SpecOK Tryz.prog 6 (mkCall 0 alive27_i alive27_o alive27_r alive27) := call_spec alive27_K_ok Tryz.func6 (by kernel_rfl) (by kernel_rfl) rfl (fun v => (alive27_eq v).trans (alive27_okd v)) (LoopsOK_of alive27_q trivial)
def E_alive27 : Env := E_joined22.ext 6 true true (mkCall 0 alive27_i alive27_o alive27_r alive27)
theorem E_alive27_ok : EnvOK Tryz.prog E_alive27 := Env.ext_ok E_joined22_ok alive27_spec (fun _ => mkCall_local rfl rfl) (fun _ => mkCall_in rfl rfl)
-- archipelago/archipelagolaw27.great
abbrev great27_h : Hints := {  }
theorem great27_okd : ∀ v, great27_d v = pevCall Tryz.prog E_alive27 great27_h Tryz.f7 great27_i great27_o great27_r v := by
  rintro ⟨a0, ⟨⟩⟩
  kernel_rfl
theorem great27_q : loopList (bodyOf Tryz.f7) 0 = [] := by kernel_rfl
theorem great27_spec : SpecOK Tryz.prog 7 (mkCall 1 great27_i great27_o great27_r great27) := call_spec E_alive27_ok Tryz.func7 (by kernel_rfl) (by kernel_rfl) rfl (fun v => (great27_eq v).trans (great27_okd v)) (LoopsOK_of great27_q trivial)
def E_great27 : Env := E_alive27.ext 7 true true (mkCall 1 great27_i great27_o great27_r great27)
theorem E_great27_ok : EnvOK Tryz.prog E_great27 := Env.ext_ok E_alive27_ok great27_spec (fun _ => mkCall_local rfl rfl) (fun _ => mkCall_in rfl rfl)
end
end Go.Pev
end
section
namespace Go.Pev
open Go.Proofs
set_option maxRecDepth 100000
noncomputable section
-- archipelago/archipelagolaw27.SayGrows
abbrev sayGrows_h : Hints := { fp := fun n => match n with | 8 => [[2], [2], [], [0], [0], [], [2], [2], [], [0], [0], [], [], []] | _ => [] }
theorem sayGrows_okd : ∀ v, sayGrows_d v = pevCall Tryz.prog E_great27 sayGrows_h Tryz.f3 sayGrows_i sayGrows_o sayGrows_r v := by
  rintro ⟨a0, a1, a2, ⟨⟩⟩
  kernel_rfl
theorem sayGrows_q : loopList (bodyOf Tryz.f3) 0 = [] := by kernel_rfl
theorem sayGrows_spec : SpecOK Tryz.prog 3 (mkCall 3 sayGrows_i sayGrows_o sayGrows_r sayGrows) := call_spec E_great27_ok Tryz.func3 (by kernel_rfl) (by kernel_rfl) rfl (fun v => (sayGrows_eq v).trans (sayGrows_okd v)) (LoopsOK_of sayGrows_q trivial)
end
end Go.Pev
end
section

end
