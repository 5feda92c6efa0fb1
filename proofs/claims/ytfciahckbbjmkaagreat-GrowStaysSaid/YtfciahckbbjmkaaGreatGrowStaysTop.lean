/- The law GrowStays: for every input it returns true; no conditions. -/
import Derived.Test.YtfciahckbbjmkaaGreatPdb3f380dcc
import Derived.Test.YtfciahckbbjmkaaGreatRows
set_option linter.unusedVariables false
set_option linter.unusedSimpArgs false
set_option linter.unusedSectionVars false
section
/- The law GrowStays: for every input it returns true, and each argument reads behind the call as it read before. -/
namespace Go.Proofs.YtfciahckbbjmkaaGreat
open Go.Pev Go.ChangeShapes Go.WideShapes Go.ChangeAt Go.RowKit
set_option maxRecDepth 100000
theorem growStays_own : ownKnob Tryz.prog.godebug = none := by kernel_rfl
theorem growStays_laidOut : laidOutB Tryz.prog = true := by kernel_rfl
theorem growStays_rt0 : readTy Tryz.prog (11 + 1) 24 = some (.prod (.int .i64) (.prod (.slice (.prod (.int .i64) (.prod (.int .i64) (.prod (.int .i64) (.prod .bool .unit))))) .unit)) := by kernel_rfl
theorem growStays_rt1 : readTy Tryz.prog (11 + 1) 25 = some (.slice (.prod (.int .i64) (.prod (.int .i64) .unit))) := by kernel_rfl
theorem growStays_run (a0 : Ty.den (.prod (.int .i64) (.prod (.slice (.prod (.int .i64) (.prod (.int .i64) (.prod (.int .i64) (.prod .bool .unit))))) .unit))) (a1 : Ty.den (.slice (.prod (.int .i64) (.prod (.int .i64) .unit)))) (h : growStays (a0, a1, ()) = some (true, ())) :
    mkCall 2 growStays_i growStays_o growStays_r growStays (AV × Eff) [.data (.prod (.int .i64) (.prod (.slice (.prod (.int .i64) (.prod (.int .i64) (.prod (.int .i64) (.prod .bool .unit))))) .unit)) a0, .data (.slice (.prod (.int .i64) (.prod (.int .i64) .unit))) a1] [] [] 0 (fun v e => some (v, e)) = some (.data .bool true, {}) := by
  refine Eq.trans (b := match growStays (a0, a1, ()) with
    | none => none
    | some y => some (.data .bool y.1, {})) ?_ (by rw [h])
  kernel_rfl
theorem growStays_lifted (os : Os) (started : os.Started) (H : Type) (enc : TypeId × Value → H) :
    ReturnsInHanded {} Tryz.checked os 4 .any (Rows.growStaysSpec.pre6 enc Tryz.prog Tryz.f4 Rows.growStaysRow.domain false) (Rows.growStaysSpec.post enc Tryz.prog Tryz.f4 false true false false) := by
  refine returnsInHanded_of_change (C := Tryz.checked) growStays_own started (by kernel_rfl) Tryz.func4
    (ChangeSpec.witness6 (enc := enc) (C := Tryz.checked) false ⟨#[], #[.agg #[.int .i64 0, .slice none 0 0], .slice none 0 0], []⟩ 8 (by kernel_rfl) (by kernel_rfl) (by kernel_rfl) (by kernel_rfl)) ?_
  intro W base args ds gs before hval0 hW hcnd _
  have hval : ∀ (j : Nat) t v, Tryz.f4.params[j]? = some t → args[j]? = some v → Value.okWide Tryz.prog W .any base t v := hval0
  have hW' := hW
  have hlt0 := hW.lt
  obtain ⟨p, q, hA0, hV, rfl, hfz, hnd⟩ := hW
  have hA : DataW.TrodAll enc Tryz.prog W 0 (fun _ => true) true Tryz.f4.params.toList args.toList ds p := hA0
  rw [Tryz.params4] at hA hval
  obtain ⟨v0, v1, d0, d1, p0, p1, rfl, rfl, rfl, h0, h1⟩ := trodAll_two hA
  obtain ⟨rfl, rfl⟩ := trodVars_none hV
  obtain ⟨x0, r0, w0⟩ := trod_rep (hval 0 24 v0 rfl rfl) h0 growStays_rt0
  obtain ⟨x1, r1, w1⟩ := trod_rep (hval 1 25 v1 rfl rfl) h1 growStays_rt1
  clear hA0 hval0
  simp only [List.append_nil] at hW' hlt0
  have hrep : RepL W (below W) (fun _ => none) [] [.data (.prod (.int .i64) (.prod (.slice (.prod (.int .i64) (.prod (.int .i64) (.prod (.int .i64) (.prod .bool .unit))))) .unit)) x0, .data (.slice (.prod (.int .i64) (.prod (.int .i64) .unit))) x1] [v0, v1] := by
    simp only [RepL, Rep]
    exact ⟨v0, _, rfl, r0, ⟨v1, _, rfl, r1, rfl⟩⟩
  refine (calls_of_spec growStays_spec (growStays_run x0 x1 (Pl.growStays_true x0 x1 w0 w1)) hrep).mono fun e W' ⟨he, hb⟩ => ?_
  subst he
  refine ⟨_, rfl, post_of_below (pa := p0 ++ p1) (pv := []) hW' (fun _ _ _ => trodAll_mk1 ⟨1, by kernel_rfl⟩) (fun sp hs => ?_) (fun _ _ => rfl) (by simp) hb (ok_one (by kernel_rfl) rfl (okWide_bool_mk Tryz.underlying4 true))⟩
  exact trodAll_mk2 (trod_after growStays_laidOut (by kernel_rfl) (of_decide_eq_true (by kernel_rfl)) h0 hb (fun x hx => hlt0 x (by simp [hx])) (fun x hx => hs x (by simp [hx]))) (trod_after growStays_laidOut (by kernel_rfl) (of_decide_eq_true (by kernel_rfl)) h1 hb (fun x hx => hlt0 x (by simp [hx])) (fun x hx => hs x (by simp [hx])))
theorem growStays_holds : Rows.GrowStaysSaid :=
  OpenClaim.holds_of_wide 4 Tryz.f4 rfl rfl rfl rfl rfl rfl rfl ⟨rfl, rfl, rfl, rfl, rfl⟩ rfl rfl rfl rfl rfl (by kernel_rfl) Tryz.func4 (by kernel_rfl)
    (of_decide_eq_true (by kernel_rfl)) (by unfold Func.isWrapper; first | (rw [if_pos (by decide +kernel)]; kernel_rfl) | (rw [if_neg (by decide +kernel)]; exact ⟨rfl, rfl⟩))
    (fun os started H enc _ => growStays_lifted os started H enc)
end Go.Proofs.YtfciahckbbjmkaaGreat
end
