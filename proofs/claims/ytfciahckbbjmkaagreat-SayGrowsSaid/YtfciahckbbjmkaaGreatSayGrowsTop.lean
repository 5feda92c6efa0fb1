/- The law SayGrows: for every input it returns true; no conditions. -/
import Derived.Test.YtfciahckbbjmkaaGreatPb09b695216
import Derived.Test.YtfciahckbbjmkaaGreatRows
set_option linter.unusedVariables false
set_option linter.unusedSimpArgs false
set_option linter.unusedSectionVars false
section
/- The law SayGrows: for every input it returns true, and each argument reads behind the call as it read before. -/
namespace Go.Proofs.YtfciahckbbjmkaaGreat
open Go.Pev Go.ChangeShapes Go.WideShapes Go.ChangeAt Go.RowKit
set_option maxRecDepth 100000
theorem sayGrows_own : ownKnob Tryz.prog.godebug = none := by kernel_rfl
theorem sayGrows_laidOut : laidOutB Tryz.prog = true := by kernel_rfl
theorem sayGrows_rt0 : readTy Tryz.prog (11 + 1) 24 = some (.prod (.int .i64) (.prod (.slice (.prod (.int .i64) (.prod (.int .i64) (.prod (.int .i64) (.prod .bool .unit))))) .unit)) := by kernel_rfl
theorem sayGrows_rt1 : readTy Tryz.prog (11 + 1) 25 = some (.slice (.prod (.int .i64) (.prod (.int .i64) .unit))) := by kernel_rfl
theorem sayGrows_rt2 : readTy Tryz.prog (11 + 1) 26 = some (.arr 2 (.int .u8)) := by kernel_rfl
theorem sayGrows_run (a0 : Ty.den (.prod (.int .i64) (.prod (.slice (.prod (.int .i64) (.prod (.int .i64) (.prod (.int .i64) (.prod .bool .unit))))) .unit))) (a1 : Ty.den (.slice (.prod (.int .i64) (.prod (.int .i64) .unit)))) (a2 : Ty.den (.arr 2 (.int .u8))) (h : sayGrows (a0, a1, a2, ()) = some (true, ())) :
    mkCall 3 sayGrows_i sayGrows_o sayGrows_r sayGrows (AV × Eff) [.data (.prod (.int .i64) (.prod (.slice (.prod (.int .i64) (.prod (.int .i64) (.prod (.int .i64) (.prod .bool .unit))))) .unit)) a0, .data (.slice (.prod (.int .i64) (.prod (.int .i64) .unit))) a1, .data (.arr 2 (.int .u8)) a2] [] [] 0 (fun v e => some (v, e)) = some (.data .bool true, {}) := by
  refine Eq.trans (b := match sayGrows (a0, a1, a2, ()) with
    | none => none
    | some y => some (.data .bool y.1, {})) ?_ (by rw [h])
  kernel_rfl
theorem sayGrows_lifted (os : Os) (started : os.Started) (H : Type) (enc : TypeId × Value → H) :
    ReturnsInHanded {} Tryz.checked os 3 .any (Rows.sayGrowsSpec.pre6 enc Tryz.prog Tryz.f3 Rows.sayGrowsRow.domain false) (Rows.sayGrowsSpec.post enc Tryz.prog Tryz.f3 false true false false) := by
  refine returnsInHanded_of_change (C := Tryz.checked) sayGrows_own started (by kernel_rfl) Tryz.func3
    (ChangeSpec.witness6 (enc := enc) (C := Tryz.checked) false ⟨#[], #[.agg #[.int .i64 0, .slice none 0 0], .slice none 0 0, .agg #[.int .u8 0, .int .u8 0]], []⟩ 8 (by kernel_rfl) (by kernel_rfl) (by kernel_rfl) (by kernel_rfl)) ?_
  intro W base args ds gs before hval0 hW hcnd _
  have hval : ∀ (j : Nat) t v, Tryz.f3.params[j]? = some t → args[j]? = some v → Value.okWide Tryz.prog W .any base t v := hval0
  have hW' := hW
  have hlt0 := hW.lt
  obtain ⟨p, q, hA0, hV, rfl, hfz, hnd⟩ := hW
  have hA : DataW.TrodAll enc Tryz.prog W 0 (fun _ => true) true Tryz.f3.params.toList args.toList ds p := hA0
  rw [Tryz.params3] at hA hval
  obtain ⟨v0, v1, v2, d0, d1, d2, p0, p1, p2, rfl, rfl, rfl, h0, h1, h2⟩ := trodAll_three hA
  obtain ⟨rfl, rfl⟩ := trodVars_none hV
  obtain ⟨x0, r0, w0⟩ := trod_rep (hval 0 24 v0 rfl rfl) h0 sayGrows_rt0
  obtain ⟨x1, r1, w1⟩ := trod_rep (hval 1 25 v1 rfl rfl) h1 sayGrows_rt1
  obtain ⟨x2, r2, w2⟩ := trod_rep (hval 2 26 v2 rfl rfl) h2 sayGrows_rt2
  clear hA0 hval0
  simp only [List.append_nil] at hW' hlt0
  have hrep : RepL W (below W) (fun _ => none) [] [.data (.prod (.int .i64) (.prod (.slice (.prod (.int .i64) (.prod (.int .i64) (.prod (.int .i64) (.prod .bool .unit))))) .unit)) x0, .data (.slice (.prod (.int .i64) (.prod (.int .i64) .unit))) x1, .data (.arr 2 (.int .u8)) x2] [v0, v1, v2] := by
    simp only [RepL, Rep]
    exact ⟨v0, _, rfl, r0, ⟨v1, _, rfl, r1, ⟨v2, _, rfl, r2, rfl⟩⟩⟩
  refine (calls_of_spec sayGrows_spec (sayGrows_run x0 x1 x2 (Pl.sayGrows_true x0 x1 x2 w0 w1 w2)) hrep).mono fun e W' ⟨he, hb⟩ => ?_
  subst he
  refine ⟨_, rfl, post_of_below (pa := p0 ++ (p1 ++ p2)) (pv := []) hW' (fun _ _ _ => trodAll_mk1 ⟨1, by kernel_rfl⟩) (fun sp hs => ?_) (fun _ _ => rfl) (by simp) hb (ok_one (by kernel_rfl) rfl (okWide_bool_mk Tryz.underlying4 true))⟩
  exact trodAll_mk3 (trod_after sayGrows_laidOut (by kernel_rfl) (of_decide_eq_true (by kernel_rfl)) h0 hb (fun x hx => hlt0 x (by simp [hx])) (fun x hx => hs x (by simp [hx]))) (trod_after sayGrows_laidOut (by kernel_rfl) (of_decide_eq_true (by kernel_rfl)) h1 hb (fun x hx => hlt0 x (by simp [hx])) (fun x hx => hs x (by simp [hx]))) (trod_after sayGrows_laidOut (by kernel_rfl) (of_decide_eq_true (by kernel_rfl)) h2 hb (fun x hx => hlt0 x (by simp [hx])) (fun x hx => hs x (by simp [hx])))
theorem sayGrows_holds : Rows.SayGrowsSaid :=
  OpenClaim.holds_of_wide 3 Tryz.f3 rfl rfl rfl rfl rfl rfl rfl ⟨rfl, rfl, rfl, rfl, rfl⟩ rfl rfl rfl rfl rfl (by kernel_rfl) Tryz.func3 (by kernel_rfl)
    (of_decide_eq_true (by kernel_rfl)) (by unfold Func.isWrapper; first | (rw [if_pos (by decide +kernel)]; kernel_rfl) | (rw [if_neg (by decide +kernel)]; exact ⟨rfl, rfl⟩))
    (fun os started H enc _ => sayGrows_lifted os started H enc)
end Go.Proofs.YtfciahckbbjmkaaGreat
end
