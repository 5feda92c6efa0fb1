/- The law ForestSetsSaid: for every input it returns true; no conditions. -/
import Derived.Test.YtacapnnkndaonaaGreatPd33943f754
import Derived.Test.YtacapnnkndaonaaGreatRows
set_option linter.unusedVariables false
set_option linter.unusedSimpArgs false
set_option linter.unusedSectionVars false
section
/- The law ForestSets: for every input it returns true, and each argument reads behind the call as it read before. -/
namespace Go.Proofs.YtacapnnkndaonaaGreat
open Go.Pev Go.ChangeShapes Go.WideShapes Go.ChangeAt Go.RowKit
set_option maxRecDepth 100000
theorem forestSets_own : ownKnob Tryz.prog.godebug = none := by kernel_rfl
theorem forestSets_laidOut : laidOutB Tryz.prog = true := by kernel_rfl
theorem forestSets_rt0 : readTy Tryz.prog (11 + 1) 5 = some (.int .u8) := by kernel_rfl
theorem forestSets_rt1 : readTy Tryz.prog (11 + 1) 37 = some (.slice (.prod (.int .i64) (.prod (.int .i64) .unit))) := by kernel_rfl
theorem forestSets_rt2 : readTy Tryz.prog (11 + 1) 38 = some (.arr 2 (.int .u8)) := by kernel_rfl
theorem forestSets_run (a0 : Ty.den (.int .u8)) (a1 : Ty.den (.slice (.prod (.int .i64) (.prod (.int .i64) .unit)))) (a2 : Ty.den (.arr 2 (.int .u8))) (h : forestSets (a0, a1, a2, ()) = some (true, ())) :
    mkCall 3 forestSets_i forestSets_o forestSets_r forestSets (AV × Eff) [.data (.int .u8) a0, .data (.slice (.prod (.int .i64) (.prod (.int .i64) .unit))) a1, .data (.arr 2 (.int .u8)) a2] [] [] 0 (fun v e => some (v, e)) = some (.data .bool true, {}) := by
  refine Eq.trans (b := match forestSets (a0, a1, a2, ()) with
    | none => none
    | some y => some (.data .bool y.1, {})) ?_ (by rw [h])
  kernel_rfl
theorem forestSets_lifted (os : Os) (started : os.Started) (H : Type) (enc : TypeId × Value → H) :
    ReturnsInHanded {} Tryz.checked os 4 .any (Rows.forestSetsSpec.pre6 enc Tryz.prog Tryz.f4 Rows.forestSetsRow.domain false) (Rows.forestSetsSpec.post enc Tryz.prog Tryz.f4 false true false false) := by
  refine returnsInHanded_of_change (C := Tryz.checked) forestSets_own started (by kernel_rfl) Tryz.func4
    (ChangeSpec.witness6 (enc := enc) (C := Tryz.checked) false ⟨#[], #[.int .u8 0, .slice none 0 0, .agg #[.int .u8 0, .int .u8 0]], []⟩ 8 (by kernel_rfl) (by kernel_rfl) (by kernel_rfl) (by kernel_rfl)) ?_
  intro W base args ds gs before hval0 hW hcnd _
  have hval : ∀ (j : Nat) t v, Tryz.f4.params[j]? = some t → args[j]? = some v → Value.okWide Tryz.prog W .any base t v := hval0
  have hW' := hW
  have hlt0 := hW.lt
  obtain ⟨p, q, hA0, hV, rfl, hfz, hnd⟩ := hW
  have hA : DataW.TrodAll enc Tryz.prog W 0 (fun _ => true) true Tryz.f4.params.toList args.toList ds p := hA0
  rw [Tryz.params4] at hA hval
  obtain ⟨v0, v1, v2, d0, d1, d2, p0, p1, p2, rfl, rfl, rfl, h0, h1, h2⟩ := trodAll_three hA
  obtain ⟨rfl, rfl⟩ := trodVars_none hV
  obtain ⟨x0, r0, w0⟩ := trod_rep (hval 0 5 v0 rfl rfl) h0 forestSets_rt0
  obtain ⟨x1, r1, w1⟩ := trod_rep (hval 1 37 v1 rfl rfl) h1 forestSets_rt1
  obtain ⟨x2, r2, w2⟩ := trod_rep (hval 2 38 v2 rfl rfl) h2 forestSets_rt2
  clear hA0 hval0
  simp only [List.append_nil] at hW' hlt0
  have hrep : RepL W (below W) (fun _ => none) [] [.data (.int .u8) x0, .data (.slice (.prod (.int .i64) (.prod (.int .i64) .unit))) x1, .data (.arr 2 (.int .u8)) x2] [v0, v1, v2] := by
    simp only [RepL, Rep]
    exact ⟨v0, _, rfl, r0, ⟨v1, _, rfl, r1, ⟨v2, _, rfl, r2, rfl⟩⟩⟩
  refine (calls_of_spec forestSets_spec (forestSets_run x0 x1 x2 (Pl.forestSets_true x0 x1 x2 w0 w1 w2)) hrep).mono fun e W' ⟨he, hb⟩ => ?_
  subst he
  refine ⟨_, rfl, post_of_below (pa := p0 ++ (p1 ++ p2)) (pv := []) hW' (fun _ _ _ => trodAll_mk1 ⟨1, by kernel_rfl⟩) (fun sp hs => ?_) (fun _ _ => rfl) (by simp) hb (ok_one (by kernel_rfl) rfl (okWide_bool_mk Tryz.underlying4 true))⟩
  exact trodAll_mk3 (trod_after forestSets_laidOut (by kernel_rfl) (of_decide_eq_true (by kernel_rfl)) h0 hb (fun x hx => hlt0 x (by simp [hx])) (fun x hx => hs x (by simp [hx]))) (trod_after forestSets_laidOut (by kernel_rfl) (of_decide_eq_true (by kernel_rfl)) h1 hb (fun x hx => hlt0 x (by simp [hx])) (fun x hx => hs x (by simp [hx]))) (trod_after forestSets_laidOut (by kernel_rfl) (of_decide_eq_true (by kernel_rfl)) h2 hb (fun x hx => hlt0 x (by simp [hx])) (fun x hx => hs x (by simp [hx])))
theorem forestSets_holds : Rows.ForestSetsSaid :=
  OpenClaim.holds_of_wide 4 Tryz.f4 rfl rfl rfl rfl rfl rfl rfl ⟨rfl, rfl, rfl, rfl, rfl⟩ rfl rfl rfl rfl rfl (by kernel_rfl) Tryz.func4 (by kernel_rfl)
    (of_decide_eq_true (by kernel_rfl)) (by unfold Func.isWrapper; first | (rw [if_pos (by decide +kernel)]; kernel_rfl) | (rw [if_neg (by decide +kernel)]; exact ⟨rfl, rfl⟩))
    (fun os started H enc _ => forestSets_lifted os started H enc)
end Go.Proofs.YtacapnnkndaonaaGreat
end
