/- The law PruneJoins: for every input it returns true; no conditions. -/
import Derived.Test.YtaamkoofmojajaaGreatP3fe9bc25c9
import Derived.Test.YtaamkoofmojajaaGreatRows
set_option linter.unusedVariables false
set_option linter.unusedSimpArgs false
set_option linter.unusedSectionVars false
set_option maxRecDepth 100000
section
/- The law PruneJoins: for every input it returns true,and each argument reads behind the call as it read before. -/
namespace Go.Proofs.YtaamkoofmojajaaGreat
open Go.Pev Go.ChangeShapes Go.WideShapes Go.ChangeAt Go.RowKit
set_option maxRecDepth 100000
theorem YF:ownKnob Tryz.prog.godebug=none:=by kernel_rfl
theorem EM:laidOutB Tryz.prog=true:=by kernel_rfl
theorem YE:FW Tryz.prog (11+1) 24=some (.prod (.int .i64) (.prod (.slice (.prod (.int .i64) (.prod (.int .i64) (.prod (.int .i64) (.prod .bool .unit))))) .unit)):=by kernel_rfl
theorem YD:FW Tryz.prog (11+1) 3=some (.int .i64):=by kernel_rfl
theorem YC:FW Tryz.prog (11+1) 3=some (.int .i64):=by kernel_rfl
theorem YB(a0:Ty.den (.prod (.int .i64) (.prod (.slice (.prod (.int .i64) (.prod (.int .i64) (.prod (.int .i64) (.prod .bool .unit))))) .unit)))(a1:Ty.den (.int .i64))(a2:Ty.den (.int .i64))(h:FY (a0,a1,a2,())=some (true,())):
    AG 3 Ju Jt Js FY (AV×Eff) [.data (.prod (.int .i64) (.prod (.slice (.prod (.int .i64) (.prod (.int .i64) (.prod (.int .i64) (.prod .bool .unit))))) .unit)) a0,.data (.int .i64) a1,.data (.int .i64) a2] [] [] 0 (fun v e=>some (v,e))=some (.data .bool true,{}):=by
  refine Eq.trans (b:=match FY (a0,a1,a2,())with
    |none=>none
    |some y=>some (.data .bool y.1,{})) ?_ (by rw[h])
  kernel_rfl
theorem PX(os:Os)(started:os.Started)(H:Type)(enc:TypeId×Value→H):
    ReturnsInHanded {} Tryz.checked os 12 .any (Rows.pruneJoinsSpec.pre6 enc Tryz.prog Tryz.f12 Rows.pruneJoinsRow.domain false) (Rows.pruneJoinsSpec.post enc Tryz.prog Tryz.f12 false true false false):=by
  refine returnsInHanded_of_change (C:=Tryz.checked) YF started (by kernel_rfl) Tryz.func12
    (ChangeSpec.witness6 (enc:=enc) (C:=Tryz.checked) false ⟨#[],#[.agg #[.int .i64 0,.slice none 0 0],.int .i64 0,.int .i64 0],[]⟩ 8 (by kernel_rfl) (by kernel_rfl) (by kernel_rfl) (by kernel_rfl)) ?_
  intro W base args ds gs before hval0 hW hcnd _
  have hval:∀ (j:Nat) t v,Tryz.f12.params[j]? = some t→args[j]? = some v→Value.okWide Tryz.prog W .any base t v:=hval0
  have hW':=hW
  have hlt0:=hW.lt
  obtain⟨p,q,hA0,hV,rfl,hfz,hnd⟩:=hW
  have hA:DataW.TrodAll enc Tryz.prog W 0 (fun _=>true) true Tryz.f12.params.toList args.toList ds p:=hA0
  rw[Tryz.params12]at hA hval
  obtain⟨v0,v1,v2,d0,d1,d2,p0,p1,p2,rfl,rfl,rfl,h0,h1,h2⟩:=trodAll_three hA
  obtain⟨rfl,rfl⟩:=trodVars_none hV
  obtain⟨x0,r0,w0⟩:=XF (hval 0 24 v0 rfl rfl) h0 YE
  obtain⟨x1,r1,w1⟩:=XF (hval 1 3 v1 rfl rfl) h1 YD
  obtain⟨x2,r2,w2⟩:=XF (hval 2 3 v2 rfl rfl) h2 YC
  clear hA0 hval0
  simp only[List.append_nil]at hW' hlt0
  have hrep:Ab W (below W) (fun _=>none) [] [.data (.prod (.int .i64) (.prod (.slice (.prod (.int .i64) (.prod (.int .i64) (.prod (.int .i64) (.prod .bool .unit))))) .unit)) x0,.data (.int .i64) x1,.data (.int .i64) x2] [v0,v1,v2]:=by
    simp only[Ab,Rep]
    exact⟨v0,_,rfl,r0,⟨v1,_,rfl,r1,⟨v2,_,rfl,r2,rfl⟩⟩⟩
  refine(ACb Vp (YB x0 x1 x2 (Pl.Vo x0 x1 x2 w0 w1 w2)) hrep).mono fun e W' ⟨he,hb⟩ => ?_
  subst he
  refine⟨_,rfl,ABk (pa:=p0++(p1++p2)) (pv:=[]) hW' (fun _ _ _=>trodAll_mk1 ⟨1,by kernel_rfl⟩) (fun sp hs => ?_) (fun _ _=>rfl) (by simp) hb (ok_one (by kernel_rfl) rfl (okWide_bool_mk Tryz.underlying4 true))⟩
  exact trodAll_mk3 (N1 EM (by kernel_rfl) (of_decide_eq_true (by kernel_rfl)) h0 hb (fun x hx=>hlt0 x (by simp[hx])) (fun x hx=>hs x (by simp[hx]))) (N1 EM (by kernel_rfl) (of_decide_eq_true (by kernel_rfl)) h1 hb (fun x hx=>hlt0 x (by simp[hx])) (fun x hx=>hs x (by simp[hx]))) (N1 EM (by kernel_rfl) (of_decide_eq_true (by kernel_rfl)) h2 hb (fun x hx=>hlt0 x (by simp[hx])) (fun x hx=>hs x (by simp[hx])))
theorem pruneJoins_holds:Rows.PruneJoinsSaid:=
  OpenClaim.holds_of_wide 12 Tryz.f12 rfl rfl rfl rfl rfl rfl rfl ⟨rfl,rfl,rfl,rfl,rfl⟩ rfl rfl rfl rfl rfl (by kernel_rfl) Tryz.func12 (by kernel_rfl)
    (of_decide_eq_true (by kernel_rfl)) (by unfold Func.isWrapper;first|(rw[if_pos (by decide +kernel)];kernel_rfl)|(rw[if_neg (by decide +kernel)];exact⟨rfl,rfl⟩))
    (fun os started H enc _=>PX os started H enc)
end Go.Proofs.YtaamkoofmojajaaGreat
end
