/- The law AdmitFull: for every input it returns true; no conditions. -/
import Derived.Test.YtfojmhgomdbpfaaGreatPf01fd70571
import Derived.Test.YtfojmhgomdbpfaaGreatRows
set_option linter.unusedVariables false
set_option linter.unusedSimpArgs false
set_option linter.unusedSectionVars false
set_option maxRecDepth 100000
section
/- The law AdmitFull: for every input it returns true,and each argument reads behind the call as it read before. -/
namespace Go.Proofs.YtfojmhgomdbpfaaGreat
open Go.Pev Go.ChangeShapes Go.WideShapes Go.ChangeAt Go.RowKit
set_option maxRecDepth 100000
theorem AIf:ownKnob Tryz.prog.godebug=none:=by kernel_rfl
theorem I0:laidOutB Tryz.prog=true:=by kernel_rfl
theorem AIe:G0 Tryz.prog (11+1) 52=some (.arr 2 (.int .u16)):=by kernel_rfl
theorem AId:G0 Tryz.prog (11+1) 25=some (.slice (.prod (.int .i64) (.prod (.int .i64) .unit))):=by kernel_rfl
theorem AIc(a0:Ty.den (.arr 2 (.int .u16)))(a1:Ty.den (.slice (.prod (.int .i64) (.prod (.int .i64) .unit))))(h:HX (a0,a1,())=some (true,())):
    AF 0 2 NU NT NS HX (AV×Eff) [.data (.arr 2 (.int .u16)) a0,.data (.slice (.prod (.int .i64) (.prod (.int .i64) .unit))) a1] [] [] 0 (fun v e=>some (v,e))=some (.data .bool true,{}):=by
  refine Eq.trans (b:=match HX (a0,a1,())with
    |none=>none
    |some y=>some (.data .bool y.1,{})) ?_ (by rw[h])
  kernel_rfl
theorem XL(os:Os)(started:os.Started)(H:Type)(enc:TypeId×Value→H):
    ReturnsInHanded {} Tryz.checked os 6 .any (Rows.admitFullSpec.pre6 enc Tryz.prog Tryz.f6 Rows.admitFullRow.domain false) (Rows.admitFullSpec.post enc Tryz.prog Tryz.f6 false true false false):=by
  refine returnsInHanded_of_change (C:=Tryz.checked) AIf started (by kernel_rfl) Tryz.func6
    (ChangeSpec.witness6 (enc:=enc) (C:=Tryz.checked) false ⟨#[],#[.agg #[.int .u16 0,.int .u16 0],.slice none 0 0],[]⟩ 8 (by kernel_rfl) (by kernel_rfl) (by kernel_rfl) (by kernel_rfl)) ?_
  intro W base args ds gs before hval0 hW hcnd _
  have hval:∀ (j:Nat) t v,Tryz.f6.params[j]? = some t→args[j]? = some v→Value.okWide Tryz.prog W .any base t v:=hval0
  have hW':=hW
  have hlt0:=hW.lt
  obtain⟨p,q,hA0,hV,rfl,hfz,hnd⟩:=hW
  have hA:DataW.TrodAll enc Tryz.prog W 0 (fun _=>true) true Tryz.f6.params.toList args.toList ds p:=hA0
  rw[Tryz.params6]at hA hval
  obtain⟨v0,v1,d0,d1,p0,p1,rfl,rfl,rfl,h0,h1⟩:=trodAll_two hA
  obtain⟨rfl,rfl⟩:=trodVars_none hV
  obtain⟨x0,r0,w0⟩:=AQi (hval 0 52 v0 rfl rfl) h0 AIe
  obtain⟨x1,r1,w1⟩:=AQi (hval 1 25 v1 rfl rfl) h1 AId
  clear hA0 hval0
  simp only[List.append_nil]at hW' hlt0
  have hrep:Af W (below W) (fun _=>none) [] [.data (.arr 2 (.int .u16)) x0,.data (.slice (.prod (.int .i64) (.prod (.int .i64) .unit))) x1] [v0,v1]:=by
    simp only[Af,Rep]
    exact⟨v0,_,rfl,r0,⟨v1,_,rfl,r1,rfl⟩⟩
  refine(AIa AGX (AIc x0 x1 (Pl.AGW x0 x1 w0 w1)) hrep).mono fun e W' ⟨he,hb⟩ => ?_
  subst he
  refine⟨_,rfl,AHa (pa:=p0++p1) (pv:=[]) hW' (fun _ _ _=>trodAll_mk1 ⟨1,by kernel_rfl⟩) (fun sp hs => ?_) (fun _ _=>rfl) (by simp) hb (ok_one (by kernel_rfl) rfl (okWide_bool_mk Tryz.underlying4 true))⟩
  exact trodAll_mk2 (AAx I0 (by kernel_rfl) (of_decide_eq_true (by kernel_rfl)) h0 hb (fun x hx=>hlt0 x (by simp[hx])) (fun x hx=>hs x (by simp[hx]))) (AAx I0 (by kernel_rfl) (of_decide_eq_true (by kernel_rfl)) h1 hb (fun x hx=>hlt0 x (by simp[hx])) (fun x hx=>hs x (by simp[hx])))
theorem admitFull_holds:Rows.AdmitFullSaid:=
  OpenClaim.holds_of_wide 6 Tryz.f6 rfl rfl rfl rfl rfl rfl rfl ⟨rfl,rfl,rfl,rfl,rfl⟩ rfl rfl rfl rfl rfl (by kernel_rfl) Tryz.func6 (by kernel_rfl)
    (of_decide_eq_true (by kernel_rfl)) (by unfold Func.isWrapper;first|(rw[if_pos (by decide +kernel)];kernel_rfl)|(rw[if_neg (by decide +kernel)];exact⟨rfl,rfl⟩))
    (fun os started H enc _=>XL os started H enc)
end Go.Proofs.YtfojmhgomdbpfaaGreat
end
