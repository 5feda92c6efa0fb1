/- The law TourCutsSaid: for every input it returns true; no conditions. -/
import Derived.Test.YtacapnnkndaonaaP9b1a1357b8
import Derived.Test.YtacapnnkndaonaaRows
set_option linter.unusedVariables false
set_option linter.unusedSimpArgs false
set_option linter.unusedSectionVars false
section
/- The law TourCuts: for every input it returns true, and each argument reads behind the call as it read before. -/
namespace Go.Proofs.Ytacapnnkndaonaa
open Go.Pev Go.ChangeShapes Go.WideShapes Go.ChangeAt Go.RowKit
set_option maxRecDepth 100000
theorem tourCuts_own : ownKnob Try.prog.godebug = none := by kernel_rfl
theorem tourCuts_laidOut : laidOutB Try.prog = true := by kernel_rfl
theorem tourCuts_rt0 : readTy Try.prog (11 + 1) 46 = some (.prod (.int .i64) (.prod (.slice (.slice (.int .i64))) .unit)) := by kernel_rfl
theorem tourCuts_rt1 : readTy Try.prog (11 + 1) 3 = some (.int .i64) := by kernel_rfl
theorem tourCuts_rt2 : readTy Try.prog (11 + 1) 3 = some (.int .i64) := by kernel_rfl
theorem tourCuts_run (a0 : Ty.den (.prod (.int .i64) (.prod (.slice (.slice (.int .i64))) .unit))) (a1 : Ty.den (.int .i64)) (a2 : Ty.den (.int .i64)) (h : tourCuts (a0, a1, a2, ()) = some (true, ())) :
    mkCall 3 tourCuts_i tourCuts_o tourCuts_r tourCuts (AV × Eff) [.data (.prod (.int .i64) (.prod (.slice (.slice (.int .i64))) .unit)) a0, .data (.int .i64) a1, .data (.int .i64) a2] [] [] 0 (fun v e => some (v, e)) = some (.data .bool true, {}) := by
  refine Eq.trans (b := match tourCuts (a0, a1, a2, ()) with
    | none => none
    | some y => some (.data .bool y.1, {})) ?_ (by rw [h])
  kernel_rfl
theorem tourCuts_lifted (os : Os) (started : os.Started) (H : Type) (enc : TypeId × Value → H) :
    ReturnsInHanded {} Try.checked os 10 .any (Rows.tourCutsSpec.pre6 enc Try.prog Try.f10 Rows.tourCutsRow.domain false) (Rows.tourCutsSpec.post enc Try.prog Try.f10 false true false false) := by
  refine returnsInHanded_of_change (C := Try.checked) tourCuts_own started (by kernel_rfl) Try.func10
    (ChangeSpec.witness6 (enc := enc) (C := Try.checked) false ⟨#[], #[.agg #[.int .i64 0, .slice none 0 0], .int .i64 0, .int .i64 0], []⟩ 8 (by kernel_rfl) (by kernel_rfl) (by kernel_rfl) (by kernel_rfl)) ?_
  intro W base args ds gs before hval0 hW hcnd _
  have hval : ∀ (j : Nat) t v, Try.f10.params[j]? = some t → args[j]? = some v → Value.okWide Try.prog W .any base t v := hval0
  have hW' := hW
  have hlt0 := hW.lt
  obtain ⟨p, q, hA0, hV, rfl, hfz, hnd⟩ := hW
  have hA : DataW.TrodAll enc Try.prog W 0 (fun _ => true) true Try.f10.params.toList args.toList ds p := hA0
  rw [Try.params10] at hA hval
  obtain ⟨v0, v1, v2, d0, d1, d2, p0, p1, p2, rfl, rfl, rfl, h0, h1, h2⟩ := trodAll_three hA
  obtain ⟨rfl, rfl⟩ := trodVars_none hV
  obtain ⟨x0, r0, w0⟩ := trod_rep (hval 0 46 v0 rfl rfl) h0 tourCuts_rt0
  obtain ⟨x1, r1, w1⟩ := trod_rep (hval 1 3 v1 rfl rfl) h1 tourCuts_rt1
  obtain ⟨x2, r2, w2⟩ := trod_rep (hval 2 3 v2 rfl rfl) h2 tourCuts_rt2
  clear hA0 hval0
  simp only [List.append_nil] at hW' hlt0
  have hrep : RepL W (below W) (fun _ => none) [] [.data (.prod (.int .i64) (.prod (.slice (.slice (.int .i64))) .unit)) x0, .data (.int .i64) x1, .data (.int .i64) x2] [v0, v1, v2] := by
    simp only [RepL, Rep]
    exact ⟨v0, _, rfl, r0, ⟨v1, _, rfl, r1, ⟨v2, _, rfl, r2, rfl⟩⟩⟩
  refine (calls_of_spec tourCuts_spec (tourCuts_run x0 x1 x2 (Pl.tourCuts_true x0 x1 x2 w0 w1 w2)) hrep).mono fun e W' ⟨he, hb⟩ => ?_
  subst he
  refine ⟨_, rfl, post_of_below (pa := p0 ++ (p1 ++ p2)) (pv := []) hW' (fun _ _ _ => trodAll_mk1 ⟨1, by kernel_rfl⟩) (fun sp hs => ?_) (fun _ _ => rfl) (by simp) hb (ok_one (by kernel_rfl) rfl (okWide_bool_mk Try.underlying4 true))⟩
  exact trodAll_mk3 (trod_after tourCuts_laidOut (by kernel_rfl) (of_decide_eq_true (by kernel_rfl)) h0 hb (fun x hx => hlt0 x (by simp [hx])) (fun x hx => hs x (by simp [hx]))) (trod_after tourCuts_laidOut (by kernel_rfl) (of_decide_eq_true (by kernel_rfl)) h1 hb (fun x hx => hlt0 x (by simp [hx])) (fun x hx => hs x (by simp [hx]))) (trod_after tourCuts_laidOut (by kernel_rfl) (of_decide_eq_true (by kernel_rfl)) h2 hb (fun x hx => hlt0 x (by simp [hx])) (fun x hx => hs x (by simp [hx])))
theorem tourCuts_holds : Rows.TourCutsSaid :=
  OpenClaim.holds_of_wide 10 Try.f10 rfl rfl rfl rfl rfl rfl rfl ⟨rfl, rfl, rfl, rfl, rfl⟩ rfl rfl rfl rfl rfl (by kernel_rfl) Try.func10 (by kernel_rfl)
    (of_decide_eq_true (by kernel_rfl)) (by unfold Func.isWrapper; first | (rw [if_pos (by decide +kernel)]; kernel_rfl) | (rw [if_neg (by decide +kernel)]; exact ⟨rfl, rfl⟩))
    (fun os started H enc _ => tourCuts_lifted os started H enc)
end Go.Proofs.Ytacapnnkndaonaa
end
