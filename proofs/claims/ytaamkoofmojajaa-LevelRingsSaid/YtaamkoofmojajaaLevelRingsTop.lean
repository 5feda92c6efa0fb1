/- The law LevelRings: for every input it returns true; no conditions. -/
import Derived.Test.YtaamkoofmojajaaPa1ff87164d
import Derived.Test.YtaamkoofmojajaaRows
set_option linter.unusedVariables false
set_option linter.unusedSimpArgs false
set_option linter.unusedSectionVars false
set_option maxRecDepth 100000
section
/- The law LevelRings: for every input it returns true,and each argument reads behind the call as it read before. -/
namespace Go.Proofs.Ytaamkoofmojajaa
open Go.Pev Go.ChangeShapes Go.WideShapes Go.ChangeAt Go.RowKit
set_option maxRecDepth 100000
theorem TY:ownKnob Try.prog.godebug=none:=by kernel_rfl
theorem GC:laidOutB Try.prog=true:=by kernel_rfl
theorem TX:FI Try.prog (11+1) 24=some (.prod (.int .i64) (.prod (.slice (.prod (.int .i64) (.prod (.int .i64) (.prod (.int .i64) (.prod .bool .unit))))) .unit)):=by kernel_rfl
theorem TW:FI Try.prog (11+1) 5=some (.int .u8):=by kernel_rfl
theorem TV(a0:Ty.den (.prod (.int .i64) (.prod (.slice (.prod (.int .i64) (.prod (.int .i64) (.prod (.int .i64) (.prod .bool .unit))))) .unit)))(a1:Ty.den (.int .u8))(h:EN (a0,a1,())=some (true,())):
    AG 2 H4 H3 H0 EN (AV×Eff) [.data (.prod (.int .i64) (.prod (.slice (.prod (.int .i64) (.prod (.int .i64) (.prod (.int .i64) (.prod .bool .unit))))) .unit)) a0,.data (.int .u8) a1] [] [] 0 (fun v e=>some (v,e))=some (.data .bool true,{}):=by
  refine Eq.trans (b:=match EN (a0,a1,())with
    |none=>none
    |some y=>some (.data .bool y.1,{})) ?_ (by rw[h])
  kernel_rfl
theorem Ly(os:Os)(started:os.Started)(H:Type)(enc:TypeId×Value→H):
    ReturnsInHanded {} Try.checked os 4 .any (Rows.levelRingsSpec.pre6 enc Try.prog Try.f4 Rows.levelRingsRow.domain false) (Rows.levelRingsSpec.post enc Try.prog Try.f4 false true false false):=by
  refine returnsInHanded_of_change (C:=Try.checked) TY started (by kernel_rfl) Try.func4
    (ChangeSpec.witness6 (enc:=enc) (C:=Try.checked) false ⟨#[],#[.agg #[.int .i64 0,.slice none 0 0],.int .u8 0],[]⟩ 8 (by kernel_rfl) (by kernel_rfl) (by kernel_rfl) (by kernel_rfl)) ?_
  intro W base args ds gs before hval0 hW hcnd _
  have hval:∀ (j:Nat) t v,Try.f4.params[j]? = some t→args[j]? = some v→Value.okWide Try.prog W .any base t v:=hval0
  have hW':=hW
  have hlt0:=hW.lt
  obtain⟨p,q,hA0,hV,rfl,hfz,hnd⟩:=hW
  have hA:DataW.TrodAll enc Try.prog W 0 (fun _=>true) true Try.f4.params.toList args.toList ds p:=hA0
  rw[Try.params4]at hA hval
  obtain⟨v0,v1,d0,d1,p0,p1,rfl,rfl,rfl,h0,h1⟩:=trodAll_two hA
  obtain⟨rfl,rfl⟩:=trodVars_none hV
  obtain⟨x0,r0,w0⟩:=AB5 (hval 0 24 v0 rfl rfl) h0 TX
  obtain⟨x1,r1,w1⟩:=AB5 (hval 1 5 v1 rfl rfl) h1 TW
  clear hA0 hval0
  simp only[List.append_nil]at hW' hlt0
  have hrep:AW W (below W) (fun _=>none) [] [.data (.prod (.int .i64) (.prod (.slice (.prod (.int .i64) (.prod (.int .i64) (.prod (.int .i64) (.prod .bool .unit))))) .unit)) x0,.data (.int .u8) x1] [v0,v1]:=by
    simp only[AW,Rep]
    exact⟨v0,_,rfl,r0,⟨v1,_,rfl,r1,rfl⟩⟩
  refine(Wm QS (TV x0 x1 (Pl.QR x0 x1 w0 w1)) hrep).mono fun e W' ⟨he,hb⟩ => ?_
  subst he
  refine⟨_,rfl,Vv (pa:=p0++p1) (pv:=[]) hW' (fun _ _ _=>trodAll_mk1 ⟨1,by kernel_rfl⟩) (fun sp hs => ?_) (fun _ _=>rfl) (by simp) hb (ok_one (by kernel_rfl) rfl (okWide_bool_mk Try.underlying4 true))⟩
  exact trodAll_mk2 (RY GC (by kernel_rfl) (of_decide_eq_true (by kernel_rfl)) h0 hb (fun x hx=>hlt0 x (by simp[hx])) (fun x hx=>hs x (by simp[hx]))) (RY GC (by kernel_rfl) (of_decide_eq_true (by kernel_rfl)) h1 hb (fun x hx=>hlt0 x (by simp[hx])) (fun x hx=>hs x (by simp[hx])))
theorem levelRings_holds:Rows.LevelRingsSaid:=
  OpenClaim.holds_of_wide 4 Try.f4 rfl rfl rfl rfl rfl rfl rfl ⟨rfl,rfl,rfl,rfl,rfl⟩ rfl rfl rfl rfl rfl (by kernel_rfl) Try.func4 (by kernel_rfl)
    (of_decide_eq_true (by kernel_rfl)) (by unfold Func.isWrapper;first|(rw[if_pos (by decide +kernel)];kernel_rfl)|(rw[if_neg (by decide +kernel)];exact⟨rfl,rfl⟩))
    (fun os started H enc _=>Ly os started H enc)
end Go.Proofs.Ytaamkoofmojajaa
end
