/- The law SayClassesSaid: for every input it returns true; no conditions. -/
import Derived.Test.YtfciahckbbjmkaaP50dff68867
import Derived.Test.YtfciahckbbjmkaaRows
set_option linter.unusedVariables false
set_option linter.unusedSimpArgs false
set_option linter.unusedSectionVars false
section
/- The law SayClasses: for every input it returns true, and each argument reads behind the call as it read before. -/
namespace Go.Proofs.Ytfciahckbbjmkaa
open Go.Pev Go.ChangeShapes Go.WideShapes Go.ChangeAt Go.RowKit
set_option maxRecDepth 100000
theorem sayClasses_own : ownKnob Try.prog.godebug = none := by kernel_rfl
theorem sayClasses_laidOut : laidOutB Try.prog = true := by kernel_rfl
theorem sayClasses_rt0 : readTy Try.prog (11 + 1) 24 = some (.prod (.int .i64) (.prod (.slice (.prod (.int .i64) (.prod (.int .i64) (.prod (.int .i64) (.prod .bool .unit))))) .unit)) := by kernel_rfl
theorem sayClasses_rt1 : readTy Try.prog (11 + 1) 47 = some (.arr 2 (.int .u8)) := by kernel_rfl
theorem sayClasses_run (a0 : Ty.den (.prod (.int .i64) (.prod (.slice (.prod (.int .i64) (.prod (.int .i64) (.prod (.int .i64) (.prod .bool .unit))))) .unit))) (a1 : Ty.den (.arr 2 (.int .u8))) (h : sayClasses (a0, a1, ()) = some (true, ())) :
    mkCall 2 sayClasses_i sayClasses_o sayClasses_r sayClasses (AV × Eff) [.data (.prod (.int .i64) (.prod (.slice (.prod (.int .i64) (.prod (.int .i64) (.prod (.int .i64) (.prod .bool .unit))))) .unit)) a0, .data (.arr 2 (.int .u8)) a1] [] [] 0 (fun v e => some (v, e)) = some (.data .bool true, {}) := by
  refine Eq.trans (b := match sayClasses (a0, a1, ()) with
    | none => none
    | some y => some (.data .bool y.1, {})) ?_ (by rw [h])
  kernel_rfl
theorem sayClasses_lifted (os : Os) (started : os.Started) (H : Type) (enc : TypeId × Value → H) :
    ReturnsInHanded {} Try.checked os 5 .any (Rows.sayClassesSpec.pre6 enc Try.prog Try.f5 Rows.sayClassesRow.domain false) (Rows.sayClassesSpec.post enc Try.prog Try.f5 false true false false) := by
  refine returnsInHanded_of_change (C := Try.checked) sayClasses_own started (by kernel_rfl) Try.func5
    (ChangeSpec.witness6 (enc := enc) (C := Try.checked) false ⟨#[], #[.agg #[.int .i64 0, .slice none 0 0], .agg #[.int .u8 0, .int .u8 0]], []⟩ 8 (by kernel_rfl) (by kernel_rfl) (by kernel_rfl) (by kernel_rfl)) ?_
  intro W base args ds gs before hval0 hW hcnd _
  have hval : ∀ (j : Nat) t v, Try.f5.params[j]? = some t → args[j]? = some v → Value.okWide Try.prog W .any base t v := hval0
  have hW' := hW
  have hlt0 := hW.lt
  obtain ⟨p, q, hA0, hV, rfl, hfz, hnd⟩ := hW
  have hA : DataW.TrodAll enc Try.prog W 0 (fun _ => true) true Try.f5.params.toList args.toList ds p := hA0
  rw [Try.params5] at hA hval
  obtain ⟨v0, v1, d0, d1, p0, p1, rfl, rfl, rfl, h0, h1⟩ := trodAll_two hA
  obtain ⟨rfl, rfl⟩ := trodVars_none hV
  obtain ⟨x0, r0, w0⟩ := trod_rep (hval 0 24 v0 rfl rfl) h0 sayClasses_rt0
  obtain ⟨x1, r1, w1⟩ := trod_rep (hval 1 47 v1 rfl rfl) h1 sayClasses_rt1
  clear hA0 hval0
  simp only [List.append_nil] at hW' hlt0
  have hrep : RepL W (below W) (fun _ => none) [] [.data (.prod (.int .i64) (.prod (.slice (.prod (.int .i64) (.prod (.int .i64) (.prod (.int .i64) (.prod .bool .unit))))) .unit)) x0, .data (.arr 2 (.int .u8)) x1] [v0, v1] := by
    simp only [RepL, Rep]
    exact ⟨v0, _, rfl, r0, ⟨v1, _, rfl, r1, rfl⟩⟩
  refine (calls_of_spec sayClasses_spec (sayClasses_run x0 x1 (Pl.sayClasses_true x0 x1 w0 w1)) hrep).mono fun e W' ⟨he, hb⟩ => ?_
  subst he
  refine ⟨_, rfl, post_of_below (pa := p0 ++ p1) (pv := []) hW' (fun _ _ _ => trodAll_mk1 ⟨1, by kernel_rfl⟩) (fun sp hs => ?_) (fun _ _ => rfl) (by simp) hb (ok_one (by kernel_rfl) rfl (okWide_bool_mk Try.underlying4 true))⟩
  exact trodAll_mk2 (trod_after sayClasses_laidOut (by kernel_rfl) (of_decide_eq_true (by kernel_rfl)) h0 hb (fun x hx => hlt0 x (by simp [hx])) (fun x hx => hs x (by simp [hx]))) (trod_after sayClasses_laidOut (by kernel_rfl) (of_decide_eq_true (by kernel_rfl)) h1 hb (fun x hx => hlt0 x (by simp [hx])) (fun x hx => hs x (by simp [hx])))
theorem sayClasses_holds : Rows.SayClassesSaid :=
  OpenClaim.holds_of_wide 5 Try.f5 rfl rfl rfl rfl rfl rfl rfl ⟨rfl, rfl, rfl, rfl, rfl⟩ rfl rfl rfl rfl rfl (by kernel_rfl) Try.func5 (by kernel_rfl)
    (of_decide_eq_true (by kernel_rfl)) (by unfold Func.isWrapper; first | (rw [if_pos (by decide +kernel)]; kernel_rfl) | (rw [if_neg (by decide +kernel)]; exact ⟨rfl, rfl⟩))
    (fun os started H enc _ => sayClasses_lifted os started H enc)
end Go.Proofs.Ytfciahckbbjmkaa
end
