/- The law IndexPartsCard: for every input it returns true; no conditions. -/
import Derived.Test.YtbnaceonlbiheaaGreatDoorP12fcd66c7f
import Derived.Test.YtbnaceonlbiheaaGreatDoorRows
import Derived.Test.YtbnaceonlbiheaaGreatDoorTie
import Derived.Test.YtbnaceonlbiheaaGreatDoorCards
import Derived.LaidMore
import Derived.OpenShut
import Derived.SevenTiedAt
set_option linter.unusedVariables false
set_option linter.unusedSimpArgs false
set_option linter.unusedSectionVars false
set_option maxRecDepth 100000
section
/- The law IndexParts: for every input it returns true,and each argument reads behind the call as it read before. -/
namespace Go.Proofs.YtbnaceonlbiheaaGreatDoor
open Go.Pev Go.ChangeShapes Go.WideShapes Go.ChangeAt Go.RowKit
set_option maxRecDepth 100000
/-- what the row lists -/
def rj {H : Type} : List (String × DataW H) := [("math/bits.deBruijn32tab", Rows.laid_math_bits_deBruijn32tab)]
theorem AVu : Tryz.prog.globalNamed "math/bits.deBruijn32tab" = some 0 := by kernel_rfl
theorem AVm:(Tryz.prog.globals[0]?).map (·.type)=some 334:=by kernel_rfl
theorem ANs(os:Os)(args:Array Value):laidMetH Tryz.prog rj ((World.doorLaid Tryz.prog 400 os).forCall (fun _ _=>0) ⟨#[],args,[]⟩).memory:=
  laidMetH_of_parts (laidMet_of_run' 8 (by kernel_rfl) (by kernel_rfl)) (by kernel_rfl)
theorem sL{W:World}(h:laidMetH Tryz.prog rj W):AI2 W (below W):=by
  rw[MakeChecks.laidMetH_plain _ _ _ (by kernel_rfl)]at h
  obtain⟨ps,⟨g0,t0,cs0,f0,p0,q0,hg0,ht0,hv0,hd0,_,_⟩,_,_⟩:=h
  obtain rfl:=Option.some.inj (AVu.symm.trans hg0)
  obtain rfl:=Option.some.inj (AVm.symm.trans ht0)
  obtain⟨xs,m1,rfl,hx1,hlen,hn3,hel⟩:=DataW.trod_array Tryz.underlying334 hd0
  have c5:Tryz.prog.cellsOf 5=1:=by kernel_rfl
  rw[c5]at hel
  have hc:=World.var?_cell hg0 hv0
  have hcell:∀ (j:Nat) (n:Int),AHM[j]? = some n→W.cell? ⟨0,j,none⟩=some (.int .u8 n):=by
    intro j n hj
    have hm:xs.map (·.1)=AHM.map (fun n=>(DataW.lit (.int .u8 n):DataW Unit)):=by
      have:=congrArg (fun x=>x.1) hx1
      simp only[Rows.laid_math_bits_deBruijn32tab,DataW.agg.injEq]at this
      rw[← this]
      rfl
    have hl:j<32:=(List.getElem?_eq_some_iff.1 hj).1
    have h1:(xs.map (·.1))[j]? = some (DataW.lit (.int .u8 n)):=by rw[hm,List.getElem?_map,hj];rfl
    rw[List.getElem?_map]at h1
    cases hy:xs[j]? with
    |none=>rw[hy]at h1;cases h1
    |some y=>
      rw[hy]at h1
      have h2:y.1=DataW.lit (.int .u8 n):=by simpa using h1
      have h3:=hel j hl
      rw[hy]at h3
      obtain⟨r,e1,e2,_⟩:=DataW.trod_int Tryz.underlying5 h3
      rw[e2]at h2
      have h4:r=n:=by simpa using h2
      subst h4
      rw[hc]
      have h5:(List.take 1 (List.drop (j*1) cs0.toList))[0]? = some (.int .u8 r):=by rw[e1];rfl
      simpa using h5
  intro p hp
  have:p=(0,.u8,AHM):=by simpa [mP]using hp
  subst this
  refine⟨?_,hcell⟩
  have h0:=hcell 0 0 rfl
  show 0<W.heap.size
  apply Classical.byContradiction
  intro hn
  have he:W.heap[0]? = none:=Array.getElem?_eq_none (by omega)
  unfold World.cell? at h0
  simp only[he]at h0
  cases h0
theorem bD:ownKnob Tryz.prog.godebug=none:=by kernel_rfl
theorem D9:laidOutB Tryz.prog=true:=by kernel_rfl
theorem bB:Gy Tryz.prog (11+1) 26=some (.prod (.prod (.int .i64) (.prod (.slice (.prod (.int .i64) (.prod (.int .i64) (.prod (.int .i64) (.prod .bool .unit))))) .unit)) (.prod (.int .i64) (.prod (.int .i64) .unit))):=by kernel_rfl
theorem bA:Gy Tryz.prog (11+1) 75=some (.prod (.slice (.int .u8)) (.prod (.slice (.int .u8)) .unit)):=by kernel_rfl
theorem az:Gy Tryz.prog (11+1) 56=some (.prod (.int .i64) (.prod (.int .i64) (.prod (.prod (.int .i64) (.prod (.int .i64) (.prod (.slice (.arr 2 (.int .i64))) .unit))) .unit))):=by kernel_rfl
theorem XO:BW Tryz.prog 6 (Bb 0 3 MM BI A7 Ej):=lq.h.1 6
theorem ay(a0:Ty.den (.prod (.prod (.int .i64) (.prod (.slice (.prod (.int .i64) (.prod (.int .i64) (.prod (.int .i64) (.prod .bool .unit))))) .unit)) (.prod (.int .i64) (.prod (.int .i64) .unit))))(a1:Ty.den (.prod (.slice (.int .u8)) (.prod (.slice (.int .u8)) .unit)))(a2:Ty.den (.prod (.int .i64) (.prod (.int .i64) (.prod (.prod (.int .i64) (.prod (.int .i64) (.prod (.slice (.arr 2 (.int .i64))) .unit))) .unit))))(h:Ej (a0,a1,a2,())=some (true,())):
    Bb 0 3 MM BI A7 Ej (AV×Eff) [.data (.prod (.prod (.int .i64) (.prod (.slice (.prod (.int .i64) (.prod (.int .i64) (.prod (.int .i64) (.prod .bool .unit))))) .unit)) (.prod (.int .i64) (.prod (.int .i64) .unit))) a0,.data (.prod (.slice (.int .u8)) (.prod (.slice (.int .u8)) .unit)) a1,.data (.prod (.int .i64) (.prod (.int .i64) (.prod (.prod (.int .i64) (.prod (.int .i64) (.prod (.slice (.arr 2 (.int .i64))) .unit))) .unit))) a2] [] [] 0 (fun v e=>some (v,e))=some (.data .bool true,{}):=by
  refine Eq.trans (b:=match Ej (a0,a1,a2,())with
    |none=>none
    |some y=>some (.data .bool y.1,{})) ?_ (by rw[h])
  kernel_rfl
theorem SX(os:Os)(started:os.Started)(H:Type)(enc:TypeId×Value→H):
    ReturnsInHanded {} Tryz.checked os 6 .any (fun w args=>(Rows.indexPartsSpec.pre enc Tryz.prog Tryz.f6 [] false w args∧laidMetH Tryz.prog rj w)∧sizedMet enc Tryz.prog Tryz.f6 (OpenSpec.ofChange Rows.indexPartsSpec) false w args) (Rows.indexPartsSpec.post enc Tryz.prog Tryz.f6 false true false false):=by
  refine returnsInHanded_of_change_and (C:=Tryz.checked) (X:=fun w _=>laidMetH Tryz.prog rj w) (fun _ _ _ hh h=>h.of_heap hh) bD started (by kernel_rfl) Tryz.func6
    (ChangeSpec.witness_shaped (enc:=enc) (C:=Tryz.checked) (os:=os) (X:=fun w _=>laidMetH Tryz.prog rj w) false (World.doorLaid Tryz.prog 400 os) #[.agg #[.int .i64 0,.slice none 0 0,.int .i64 0,.int .i64 0],.agg #[.slice none 0 0,.slice none 0 0],.agg #[.int .i64 0,.int .i64 0,.int .i64 0,.int .i64 0,.slice none 0 0]] 8 rfl (World.shaped_of_RefB (by kernel_rfl) (by kernel_rfl)) (by kernel_rfl) (by kernel_rfl) (by kernel_rfl) (ANs os _)) ?_
  intro W base args ds gs before hval0 hW _ _ hL _
  have hval:∀ (j:Nat) t v,Tryz.f6.params[j]? = some t→args[j]? = some v→Value.okWide Tryz.prog W .any base t v:=hval0
  have hW':=hW
  have hlt0:=hW.lt
  obtain⟨p,q,hA0,hV,rfl,hfz,hnd⟩:=hW
  have hA:DataW.TrodAll enc Tryz.prog W 0 (fun _=>true) true Tryz.f6.params.toList args.toList ds p:=hA0
  rw[Tryz.params6]at hA hval
  obtain⟨v0,v1,v2,d0,d1,d2,p0,p1,p2,rfl,rfl,rfl,h0,h1,h2⟩:=trodAll_three hA
  obtain⟨rfl,rfl⟩:=trodVars_none hV
  obtain⟨x0,r0,w0⟩:=Yv (hval 0 26 v0 rfl rfl) h0 bB
  obtain⟨x1,r1,w1⟩:=Yv (hval 1 75 v1 rfl rfl) h1 bA
  obtain⟨x2,r2,w2⟩:=Yv (hval 2 56 v2 rfl rfl) h2 az
  clear hA0 hval0
  simp only[List.append_nil]at hW' hlt0
  have hrep:BF W (below W) (fun _=>none) [] [.data (.prod (.prod (.int .i64) (.prod (.slice (.prod (.int .i64) (.prod (.int .i64) (.prod (.int .i64) (.prod .bool .unit))))) .unit)) (.prod (.int .i64) (.prod (.int .i64) .unit))) x0,.data (.prod (.slice (.int .u8)) (.prod (.slice (.int .u8)) .unit)) x1,.data (.prod (.int .i64) (.prod (.int .i64) (.prod (.prod (.int .i64) (.prod (.int .i64) (.prod (.slice (.arr 2 (.int .i64))) .unit))) .unit))) x2] [v0,v1,v2]:=by
    simp only[BF,Rep]
    exact⟨v0,_,rfl,r0,⟨v1,_,rfl,r1,⟨v2,_,rfl,r2,rfl⟩⟩⟩
  refine(ew XO (ay x0 x1 x2 (Pl.XN x0 x1 x2 w0 w1 w2)) hrep (sL hL)).mono fun e W' ⟨he,hb⟩ => ?_
  subst he
  refine⟨_,rfl,dZ (pa:=p0++(p1++p2)) (pv:=[]) hW' (fun _ _ _=>trodAll_mk1 ⟨1,by kernel_rfl⟩) (fun sp hs => ?_) (fun _ _=>rfl) (by simp) hb (ok_one (by kernel_rfl) rfl (okWide_bool_mk Tryz.underlying4 true))⟩
  exact trodAll_mk3 (Py D9 (by kernel_rfl) (of_decide_eq_true (by kernel_rfl)) h0 hb (fun x hx=>hlt0 x (by simp[hx])) (fun x hx=>hs x (by simp[hx]))) (Py D9 (by kernel_rfl) (of_decide_eq_true (by kernel_rfl)) h1 hb (fun x hx=>hlt0 x (by simp[hx])) (fun x hx=>hs x (by simp[hx]))) (Py D9 (by kernel_rfl) (of_decide_eq_true (by kernel_rfl)) h2 hb (fun x hx=>hlt0 x (by simp[hx])) (fun x hx=>hs x (by simp[hx])))
theorem eI:(Tryz.prog.stops==[])=true:=by kernel_rfl
theorem eG:(Tryz.prog.stopKnobs==[])=true:=by kernel_rfl
theorem eE:(Rows.indexPartsRow.inPlace==Tryz.prog.inPlace 6)=true:=by kernel_rfl
theorem eD:(Rows.indexPartsRow.unfollowed==Tryz.prog.unfollowed 6)=true:=by kernel_rfl
theorem eB:(Rows.indexPartsRow.recurses==Tryz.prog.recurses 6)=true:=by kernel_rfl
theorem dz:(Rows.indexPartsRow.named==Tryz.prog.varsNamed 6)=true:=by kernel_rfl
theorem dy:(Rows.indexPartsRow.plainKeys==Tryz.prog.plainKeys)=true:=by kernel_rfl
theorem dx:Tryz.prog.stopsHeard=true:=by kernel_rfl
theorem dw:Tryz.prog.mayEnter=true:=by kernel_rfl
theorem dv:(Rows.indexPartsRow.lifted==Tryz.prog.liftsFinal)=true:=by kernel_rfl
theorem bF:(Tryz.prog.make==some Rows.indexPartsRow.make)=true:=by kernel_rfl
theorem bE:mapsRowed Tryz.prog=true:=by kernel_rfl
theorem du:joinedFacts Tryz.prog 6 Tryz.f6 Rows.indexPartsSpec Rows.indexPartsRow=true:=by
  unfold joinedFacts
  rw[eI,eG,eE,eD,eB,dz,dy,dx,dw,dv,bF,bE,D9]
  kernel_rfl
theorem dt:true=Tryz.pinned.checked.prog.looks []:=by kernel_rfl
theorem eJ:false=Rows.indexPartsRow.goesBy Tryz.pinned.checked.prog:=by kernel_rfl
theorem bC:Rows.IndexPartsSaid:=
  OpenClaim.holds_of_wide 6 Tryz.f6 rfl rfl rfl rfl rfl rfl rfl ⟨rfl,rfl,rfl,rfl,rfl⟩ rfl rfl rfl rfl rfl (by kernel_rfl) Tryz.func6 du
    (of_decide_eq_true (by kernel_rfl)) (by unfold Func.isWrapper;first|(rw[if_pos (by decide +kernel)];kernel_rfl)|(rw[if_neg (by decide +kernel)];exact⟨rfl,rfl⟩))
    (fun os started H enc _=>SX os started H enc)
theorem indexParts_holds:Rows.IndexPartsCardSaid:=
  Claim7.holds_tied_plain_at .later [] [.data] true (true, "9534b7ab0569e87f2a2f6dbab60b14c4da3f991a0736ac92b82149417e707206") true
    bC (fun _ h=>by cases h) (by kernel_rfl) (fun _ h=>by cases h) indexParts_row_tie rfl ⟨rfl,rfl⟩ (by kernel_rfl) rfl
    (fun f fn hf hfn=>by
      obtain rfl : f = 6 := Option.some.inj ((show Tryz.prog.funcNamed "archipelago/archipelagolaw28.IndexParts" = some 6 by kernel_rfl).symm.trans hf) |>.symm
      obtain rfl:fn=Tryz.f6:=(Option.some.inj (Tryz.func6.symm.trans hfn)).symm
      exact⟨dt,fun j t ht=>by
        rw[Tryz.params6]at ht
        have hm:t∈[26,75,56]:=by simpa using Array.mem_of_getElem? ht
        have hall:([26,75,56].all fun u => !Tryz.prog.wantsStandIn u)=true:=by kernel_rfl
        exact(show Tryz.prog.wantsStandIn t=false by simpa using List.all_eq_true.1 hall t hm)⟩)
    eJ
end Go.Proofs.YtbnaceonlbiheaaGreatDoor
end
