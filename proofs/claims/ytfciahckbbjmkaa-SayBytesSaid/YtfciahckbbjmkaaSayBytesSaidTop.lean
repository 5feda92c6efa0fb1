/- The law SayBytesSaid: for every input it returns true; no conditions. -/
import Derived.Test.YtfciahckbbjmkaaP1aea92e0ae
import Derived.Test.YtfciahckbbjmkaaRows
set_option linter.unusedVariables false
set_option linter.unusedSimpArgs false
set_option linter.unusedSectionVars false
section
/- The law SayBytes: for every input it returns true, and each argument reads behind the call as it read before. -/
namespace Go.Proofs.Ytfciahckbbjmkaa
open Go.Pev Go.ChangeShapes Go.WideShapes Go.ChangeAt Go.RowKit
set_option maxRecDepth 100000
theorem sayBytes_own : ownKnob Try.prog.godebug = none := by kernel_rfl
theorem sayBytes_laidOut : laidOutB Try.prog = true := by kernel_rfl
theorem sayBytes_rt0 : readTy Try.prog (11 + 1) 39 = some (.prod (.int .i64) (.prod (.int .i64) (.prod (.slice (.int .i64)) .unit))) := by kernel_rfl
theorem sayBytes_rt1 : readTy Try.prog (11 + 1) 39 = some (.prod (.int .i64) (.prod (.int .i64) (.prod (.slice (.int .i64)) .unit))) := by kernel_rfl
theorem sayBytes_rt2 : readTy Try.prog (11 + 1) 40 = some (.slice (.int .u8)) := by kernel_rfl
theorem sayBytes_run (a0 : Ty.den (.prod (.int .i64) (.prod (.int .i64) (.prod (.slice (.int .i64)) .unit)))) (a1 : Ty.den (.prod (.int .i64) (.prod (.int .i64) (.prod (.slice (.int .i64)) .unit)))) (a2 : Ty.den (.slice (.int .u8))) (h : sayBytes (a0, a1, a2, ()) = some (true, ())) :
    mkCall 3 sayBytes_i sayBytes_o sayBytes_r sayBytes (AV × Eff) [.data (.prod (.int .i64) (.prod (.int .i64) (.prod (.slice (.int .i64)) .unit))) a0, .data (.prod (.int .i64) (.prod (.int .i64) (.prod (.slice (.int .i64)) .unit))) a1, .data (.slice (.int .u8)) a2] [] [] 0 (fun v e => some (v, e)) = some (.data .bool true, {}) := by
  refine Eq.trans (b := match sayBytes (a0, a1, a2, ()) with
    | none => none
    | some y => some (.data .bool y.1, {})) ?_ (by rw [h])
  kernel_rfl
theorem sayBytes_lifted (os : Os) (started : os.Started) (H : Type) (enc : TypeId × Value → H) :
    ReturnsInHanded {} Try.checked os 4 .any (Rows.sayBytesSpec.pre6 enc Try.prog Try.f4 Rows.sayBytesRow.domain false) (Rows.sayBytesSpec.post enc Try.prog Try.f4 false true false false) := by
  refine returnsInHanded_of_change (C := Try.checked) sayBytes_own started (by kernel_rfl) Try.func4
    (ChangeSpec.witness6 (enc := enc) (C := Try.checked) false ⟨#[], #[.agg #[.int .i64 0, .int .i64 0, .slice none 0 0], .agg #[.int .i64 0, .int .i64 0, .slice none 0 0], .slice none 0 0], []⟩ 8 (by kernel_rfl) (by kernel_rfl) (by kernel_rfl) (by kernel_rfl)) ?_
  intro W base args ds gs before hval0 hW hcnd _
  have hval : ∀ (j : Nat) t v, Try.f4.params[j]? = some t → args[j]? = some v → Value.okWide Try.prog W .any base t v := hval0
  have hW' := hW
  have hlt0 := hW.lt
  obtain ⟨p, q, hA0, hV, rfl, hfz, hnd⟩ := hW
  have hA : DataW.TrodAll enc Try.prog W 0 (fun _ => true) true Try.f4.params.toList args.toList ds p := hA0
  rw [Try.params4] at hA hval
  obtain ⟨v0, v1, v2, d0, d1, d2, p0, p1, p2, rfl, rfl, rfl, h0, h1, h2⟩ := trodAll_three hA
  obtain ⟨rfl, rfl⟩ := trodVars_none hV
  obtain ⟨x0, r0, w0⟩ := trod_rep (hval 0 39 v0 rfl rfl) h0 sayBytes_rt0
  obtain ⟨x1, r1, w1⟩ := trod_rep (hval 1 39 v1 rfl rfl) h1 sayBytes_rt1
  obtain ⟨x2, r2, w2⟩ := trod_rep (hval 2 40 v2 rfl rfl) h2 sayBytes_rt2
  clear hA0 hval0
  simp only [List.append_nil] at hW' hlt0
  have hrep : RepL W (below W) (fun _ => none) [] [.data (.prod (.int .i64) (.prod (.int .i64) (.prod (.slice (.int .i64)) .unit))) x0, .data (.prod (.int .i64) (.prod (.int .i64) (.prod (.slice (.int .i64)) .unit))) x1, .data (.slice (.int .u8)) x2] [v0, v1, v2] := by
    simp only [RepL, Rep]
    exact ⟨v0, _, rfl, r0, ⟨v1, _, rfl, r1, ⟨v2, _, rfl, r2, rfl⟩⟩⟩
  refine (calls_of_spec sayBytes_spec (sayBytes_run x0 x1 x2 (Pl.sayBytes_true x0 x1 x2 w0 w1 w2)) hrep).mono fun e W' ⟨he, hb⟩ => ?_
  subst he
  refine ⟨_, rfl, post_of_below (pa := p0 ++ (p1 ++ p2)) (pv := []) hW' (fun _ _ _ => trodAll_mk1 ⟨1, by kernel_rfl⟩) (fun sp hs => ?_) (fun _ _ => rfl) (by simp) hb (ok_one (by kernel_rfl) rfl (okWide_bool_mk Try.underlying4 true))⟩
  exact trodAll_mk3 (trod_after sayBytes_laidOut (by kernel_rfl) (of_decide_eq_true (by kernel_rfl)) h0 hb (fun x hx => hlt0 x (by simp [hx])) (fun x hx => hs x (by simp [hx]))) (trod_after sayBytes_laidOut (by kernel_rfl) (of_decide_eq_true (by kernel_rfl)) h1 hb (fun x hx => hlt0 x (by simp [hx])) (fun x hx => hs x (by simp [hx]))) (trod_after sayBytes_laidOut (by kernel_rfl) (of_decide_eq_true (by kernel_rfl)) h2 hb (fun x hx => hlt0 x (by simp [hx])) (fun x hx => hs x (by simp [hx])))
theorem sayBytes_holds : Rows.SayBytesSaid :=
  OpenClaim.holds_of_wide 4 Try.f4 rfl rfl rfl rfl rfl rfl rfl ⟨rfl, rfl, rfl, rfl, rfl⟩ rfl rfl rfl rfl rfl (by kernel_rfl) Try.func4 (by kernel_rfl)
    (of_decide_eq_true (by kernel_rfl)) (by unfold Func.isWrapper; first | (rw [if_pos (by decide +kernel)]; kernel_rfl) | (rw [if_neg (by decide +kernel)]; exact ⟨rfl, rfl⟩))
    (fun os started H enc _ => sayBytes_lifted os started H enc)
end Go.Proofs.Ytfciahckbbjmkaa
end
