/- The law BookEven: for every input it returns true; no conditions. -/
import Derived.Test.YtpoeepgiijmloaaGreatP3dd12968ae
import Derived.Test.YtpoeepgiijmloaaGreatRows
set_option linter.unusedVariables false
set_option linter.unusedSimpArgs false
set_option linter.unusedSectionVars false
set_option maxRecDepth 100000
section
/- The law BookEven: for every input it returns true,and each argument reads behind the call as it read before. -/
namespace Go.Proofs.YtpoeepgiijmloaaGreat
open Go.Pev Go.ChangeShapes Go.WideShapes Go.ChangeAt Go.RowKit
set_option maxRecDepth 100000
theorem mL:ownKnob Tryz.prog.godebug=none:=by kernel_rfl
theorem HY:laidOutB Tryz.prog=true:=by kernel_rfl
theorem mK:G9 Tryz.prog (11+1) 24=some (.prod (.int .i64) (.prod (.slice (.prod (.int .i64) (.prod (.int .i64) (.prod (.int .i64) (.prod .bool .unit))))) .unit)):=by kernel_rfl
theorem mJ:G9 Tryz.prog (11+1) 28=some (.prod (.int .i64) (.prod (.slice (.prod (.int .i64) (.prod (.int .i64) .unit))) (.prod (.slice (.prod (.int .i64) (.prod (.int .i64) (.prod (.int .i64) .unit)))) .unit))):=by kernel_rfl
theorem mI:G9 Tryz.prog (11+1) 33=some (.prod (.int .i64) (.prod (.int .i64) (.prod (.prod (.int .i64) (.prod (.int .i64) (.prod (.slice (.arr 2 (.int .i64))) .unit))) .unit))):=by kernel_rfl
theorem dp:BT Tryz.prog 3 (Bc 0 3 Oo BN A8 J4):=xc.h.1 3
theorem mH(a0:Ty.den (.prod (.int .i64) (.prod (.slice (.prod (.int .i64) (.prod (.int .i64) (.prod (.int .i64) (.prod .bool .unit))))) .unit)))(a1:Ty.den (.prod (.int .i64) (.prod (.slice (.prod (.int .i64) (.prod (.int .i64) .unit))) (.prod (.slice (.prod (.int .i64) (.prod (.int .i64) (.prod (.int .i64) .unit)))) .unit))))(a2:Ty.den (.prod (.int .i64) (.prod (.int .i64) (.prod (.prod (.int .i64) (.prod (.int .i64) (.prod (.slice (.arr 2 (.int .i64))) .unit))) .unit))))(h:J4 (a0,a1,a2,())=some (true,())):
    Bc 0 3 Oo BN A8 J4 (AV×Eff) [.data (.prod (.int .i64) (.prod (.slice (.prod (.int .i64) (.prod (.int .i64) (.prod (.int .i64) (.prod .bool .unit))))) .unit)) a0,.data (.prod (.int .i64) (.prod (.slice (.prod (.int .i64) (.prod (.int .i64) .unit))) (.prod (.slice (.prod (.int .i64) (.prod (.int .i64) (.prod (.int .i64) .unit)))) .unit))) a1,.data (.prod (.int .i64) (.prod (.int .i64) (.prod (.prod (.int .i64) (.prod (.int .i64) (.prod (.slice (.arr 2 (.int .i64))) .unit))) .unit))) a2] [] [] 0 (fun v e=>some (v,e))=some (.data .bool true,{}):=by
  refine Eq.trans (b:=match J4 (a0,a1,a2,())with
    |none=>none
    |some y=>some (.data .bool y.1,{})) ?_ (by rw[h])
  kernel_rfl
theorem Xl(os:Os)(started:os.Started)(H:Type)(enc:TypeId×Value→H):
    ReturnsInHanded {} Tryz.checked os 3 .any (Rows.bookEvenSpec.pre6 enc Tryz.prog Tryz.f3 Rows.bookEvenRow.domain false) (Rows.bookEvenSpec.post enc Tryz.prog Tryz.f3 false true false false):=by
  refine returnsInHanded_of_change (C:=Tryz.checked) mL started (by kernel_rfl) Tryz.func3
    (ChangeSpec.witness6 (enc:=enc) (C:=Tryz.checked) false ⟨#[],#[.agg #[.int .i64 0,.slice none 0 0],.agg #[.int .i64 0,.slice none 0 0,.slice none 0 0],.agg #[.int .i64 0,.int .i64 0,.int .i64 0,.int .i64 0,.slice none 0 0]],[]⟩ 8 (by kernel_rfl) (by kernel_rfl) (by kernel_rfl) (by kernel_rfl)) ?_
  intro W base args ds gs before hval0 hW hcnd _
  have hval:∀ (j:Nat) t v,Tryz.f3.params[j]? = some t→args[j]? = some v→Value.okWide Tryz.prog W .any base t v:=hval0
  have hW':=hW
  have hlt0:=hW.lt
  obtain⟨p,q,hA0,hV,rfl,hfz,hnd⟩:=hW
  have hA:DataW.TrodAll enc Tryz.prog W 0 (fun _=>true) true Tryz.f3.params.toList args.toList ds p:=hA0
  rw[Tryz.params3]at hA hval
  obtain⟨v0,v1,v2,d0,d1,d2,p0,p1,p2,rfl,rfl,rfl,h0,h1,h2⟩:=trodAll_three hA
  obtain⟨rfl,rfl⟩:=trodVars_none hV
  obtain⟨x0,r0,w0⟩:=Ym (hval 0 24 v0 rfl rfl) h0 mK
  obtain⟨x1,r1,w1⟩:=Ym (hval 1 28 v1 rfl rfl) h1 mJ
  obtain⟨x2,r2,w2⟩:=Ym (hval 2 33 v2 rfl rfl) h2 mI
  clear hA0 hval0
  simp only[List.append_nil]at hW' hlt0
  have hrep:BE W (below W) (fun _=>none) [] [.data (.prod (.int .i64) (.prod (.slice (.prod (.int .i64) (.prod (.int .i64) (.prod (.int .i64) (.prod .bool .unit))))) .unit)) x0,.data (.prod (.int .i64) (.prod (.slice (.prod (.int .i64) (.prod (.int .i64) .unit))) (.prod (.slice (.prod (.int .i64) (.prod (.int .i64) (.prod (.int .i64) .unit)))) .unit))) x1,.data (.prod (.int .i64) (.prod (.int .i64) (.prod (.prod (.int .i64) (.prod (.int .i64) (.prod (.slice (.arr 2 (.int .i64))) .unit))) .unit))) x2] [v0,v1,v2]:=by
    simp only[BE,Rep]
    exact⟨v0,_,rfl,r0,⟨v1,_,rfl,r1,⟨v2,_,rfl,r2,rfl⟩⟩⟩
  refine(dk dp (mH x0 x1 x2 (Pl.dm x0 x1 x2 w0 w1 w2)) hrep).mono fun e W' ⟨he,hb⟩ => ?_
  subst he
  refine⟨_,rfl,c8 (pa:=p0++(p1++p2)) (pv:=[]) hW' (fun _ _ _=>trodAll_mk1 ⟨1,by kernel_rfl⟩) (fun sp hs => ?_) (fun _ _=>rfl) (by simp) hb (ok_one (by kernel_rfl) rfl (okWide_bool_mk Tryz.underlying4 true))⟩
  exact trodAll_mk3 (QH HY (by kernel_rfl) (of_decide_eq_true (by kernel_rfl)) h0 hb (fun x hx=>hlt0 x (by simp[hx])) (fun x hx=>hs x (by simp[hx]))) (QH HY (by kernel_rfl) (of_decide_eq_true (by kernel_rfl)) h1 hb (fun x hx=>hlt0 x (by simp[hx])) (fun x hx=>hs x (by simp[hx]))) (QH HY (by kernel_rfl) (of_decide_eq_true (by kernel_rfl)) h2 hb (fun x hx=>hlt0 x (by simp[hx])) (fun x hx=>hs x (by simp[hx])))
theorem bookEven_holds:Rows.BookEvenSaid:=
  OpenClaim.holds_of_wide 3 Tryz.f3 rfl rfl rfl rfl rfl rfl rfl ⟨rfl,rfl,rfl,rfl,rfl⟩ rfl rfl rfl rfl rfl (by kernel_rfl) Tryz.func3 (by kernel_rfl)
    (of_decide_eq_true (by kernel_rfl)) (by unfold Func.isWrapper;first|(rw[if_pos (by decide +kernel)];kernel_rfl)|(rw[if_neg (by decide +kernel)];exact⟨rfl,rfl⟩))
    (fun os started H enc _=>Xl os started H enc)
end Go.Proofs.YtpoeepgiijmloaaGreat
end
