/- The law BookTotals: for every input it returns true; no conditions. -/
import Derived.Test.YtoedbccnoegkbaaGreatPf2fc8edabb
import Derived.Test.YtoedbccnoegkbaaGreatRows
set_option linter.unusedVariables false
set_option linter.unusedSimpArgs false
set_option linter.unusedSectionVars false
set_option maxRecDepth 100000
section
/- The law BookTotals: for every input it returns true,and each argument reads behind the call as it read before. -/
namespace Go.Proofs.YtoedbccnoegkbaaGreat
open Go.Pev Go.ChangeShapes Go.WideShapes Go.ChangeAt Go.RowKit
set_option maxRecDepth 100000
theorem QX:ownKnob Tryz.prog.godebug=none:=by kernel_rfl
theorem GP:laidOutB Tryz.prog=true:=by kernel_rfl
theorem QW:FI Tryz.prog (11+1) 22=some (.slice (.prod (.int .i64) (.prod (.int .i64) (.prod (.int .i64) (.prod (.int .i64) (.prod (.int .i64) .unit)))))):=by kernel_rfl
theorem QV:FI Tryz.prog (11+1) 22=some (.slice (.prod (.int .i64) (.prod (.int .i64) (.prod (.int .i64) (.prod (.int .i64) (.prod (.int .i64) .unit)))))):=by kernel_rfl
theorem OF:Ad Tryz.prog 3 (AF 0 2 HB AN AA Dm):=OO.1 3
theorem QU(a0:Ty.den (.slice (.prod (.int .i64) (.prod (.int .i64) (.prod (.int .i64) (.prod (.int .i64) (.prod (.int .i64) .unit)))))))(a1:Ty.den (.slice (.prod (.int .i64) (.prod (.int .i64) (.prod (.int .i64) (.prod (.int .i64) (.prod (.int .i64) .unit)))))))(h:Dm (a0,a1,())=some (true,())):
    AF 0 2 HB AN AA Dm (AV×Eff) [.data (.slice (.prod (.int .i64) (.prod (.int .i64) (.prod (.int .i64) (.prod (.int .i64) (.prod (.int .i64) .unit)))))) a0,.data (.slice (.prod (.int .i64) (.prod (.int .i64) (.prod (.int .i64) (.prod (.int .i64) (.prod (.int .i64) .unit)))))) a1] [] [] 0 (fun v e=>some (v,e))=some (.data .bool true,{}):=by
  refine Eq.trans (b:=match Dm (a0,a1,())with
    |none=>none
    |some y=>some (.data .bool y.1,{})) ?_ (by rw[h])
  kernel_rfl
theorem L2(os:Os)(started:os.Started)(H:Type)(enc:TypeId×Value→H):
    ReturnsInHanded {} Tryz.checked os 3 .any (Rows.bookTotalsSpec.pre6 enc Tryz.prog Tryz.f3 Rows.bookTotalsRow.domain false) (Rows.bookTotalsSpec.post enc Tryz.prog Tryz.f3 false true false false):=by
  refine returnsInHanded_of_change (C:=Tryz.checked) QX started (by kernel_rfl) Tryz.func3
    (ChangeSpec.witness6 (enc:=enc) (C:=Tryz.checked) false ⟨#[],#[.slice none 0 0,.slice none 0 0],[]⟩ 8 (by kernel_rfl) (by kernel_rfl) (by kernel_rfl) (by kernel_rfl)) ?_
  intro W base args ds gs before hval0 hW hcnd _
  have hval:∀ (j:Nat) t v,Tryz.f3.params[j]? = some t→args[j]? = some v→Value.okWide Tryz.prog W .any base t v:=hval0
  have hW':=hW
  have hlt0:=hW.lt
  obtain⟨p,q,hA0,hV,rfl,hfz,hnd⟩:=hW
  have hA:DataW.TrodAll enc Tryz.prog W 0 (fun _=>true) true Tryz.f3.params.toList args.toList ds p:=hA0
  rw[Tryz.params3]at hA hval
  obtain⟨v0,v1,d0,d1,p0,p1,rfl,rfl,rfl,h0,h1⟩:=trodAll_two hA
  obtain⟨rfl,rfl⟩:=trodVars_none hV
  obtain⟨x0,r0,w0⟩:=Yo (hval 0 22 v0 rfl rfl) h0 QW
  obtain⟨x1,r1,w1⟩:=Yo (hval 1 22 v1 rfl rfl) h1 QV
  clear hA0 hval0
  simp only[List.append_nil]at hW' hlt0
  have hrep:AP W (below W) (fun _=>none) [] [.data (.slice (.prod (.int .i64) (.prod (.int .i64) (.prod (.int .i64) (.prod (.int .i64) (.prod (.int .i64) .unit)))))) x0,.data (.slice (.prod (.int .i64) (.prod (.int .i64) (.prod (.int .i64) (.prod (.int .i64) (.prod (.int .i64) .unit)))))) x1] [v0,v1]:=by
    simp only[AP,Rep]
    exact⟨v0,_,rfl,r0,⟨v1,_,rfl,r1,rfl⟩⟩
  refine(R6 OF (QU x0 x1 (Pl.OE x0 x1 w0 w1)) hrep).mono fun e W' ⟨he,hb⟩ => ?_
  subst he
  refine⟨_,rfl,RV (pa:=p0++p1) (pv:=[]) hW' (fun _ _ _=>trodAll_mk1 ⟨1,by kernel_rfl⟩) (fun sp hs => ?_) (fun _ _=>rfl) (by simp) hb (ok_one (by kernel_rfl) rfl (okWide_bool_mk Tryz.underlying4 true))⟩
  exact trodAll_mk2 (O8 GP (by kernel_rfl) (of_decide_eq_true (by kernel_rfl)) h0 hb (fun x hx=>hlt0 x (by simp[hx])) (fun x hx=>hs x (by simp[hx]))) (O8 GP (by kernel_rfl) (of_decide_eq_true (by kernel_rfl)) h1 hb (fun x hx=>hlt0 x (by simp[hx])) (fun x hx=>hs x (by simp[hx])))
theorem bookTotals_holds:Rows.BookTotalsSaid:=
  OpenClaim.holds_of_wide 3 Tryz.f3 rfl rfl rfl rfl rfl rfl rfl ⟨rfl,rfl,rfl,rfl,rfl⟩ rfl rfl rfl rfl rfl (by kernel_rfl) Tryz.func3 (by kernel_rfl)
    (of_decide_eq_true (by kernel_rfl)) (by unfold Func.isWrapper;first|(rw[if_pos (by decide +kernel)];kernel_rfl)|(rw[if_neg (by decide +kernel)];exact⟨rfl,rfl⟩))
    (fun os started H enc _=>L2 os started H enc)
end Go.Proofs.YtoedbccnoegkbaaGreat
end
