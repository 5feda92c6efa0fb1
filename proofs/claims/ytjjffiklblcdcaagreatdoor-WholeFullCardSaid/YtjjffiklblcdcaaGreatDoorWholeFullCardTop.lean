/- The law WholeFullCard: for every input it returns true; no conditions. -/
import Derived.Test.YtjjffiklblcdcaaGreatDoorPff43b3a6e7
import Derived.Test.YtjjffiklblcdcaaGreatDoorRows
import Derived.Test.YtjjffiklblcdcaaGreatDoorTie
import Derived.Test.YtjjffiklblcdcaaGreatDoorCards
import Derived.LaidMore
import Derived.OpenShut
import Derived.SevenTiedAt
set_option linter.unusedVariables false
set_option linter.unusedSimpArgs false
set_option linter.unusedSectionVars false
set_option maxRecDepth 100000
section
/- The law WholeFull: for every input it returns true,and each argument reads behind the call as it read before. -/
namespace Go.Proofs.YtjjffiklblcdcaaGreatDoor
open Go.Pev Go.ChangeShapes Go.WideShapes Go.ChangeAt Go.RowKit
set_option maxRecDepth 100000
/-- what the row lists -/
def vD {H : Type} : List (String × DataW H) := [("math/bits.deBruijn32tab", Rows.laid_math_bits_deBruijn32tab)]
theorem Aai : Tryz.prog.globalNamed "math/bits.deBruijn32tab" = some 0 := by kernel_rfl
theorem AaY:(Tryz.prog.globals[0]?).map (·.type)=some 386:=by kernel_rfl
theorem AQG(os:Os)(args:Array Value):laidMetH Tryz.prog vD ((World.doorLaid Tryz.prog 400 os).forCall (fun _ _=>0) ⟨#[],args,[]⟩).memory:=
  laidMetH_of_parts (laidMet_of_run' 8 (by kernel_rfl) (by kernel_rfl)) (by kernel_rfl)
theorem vV{W:World}(h:laidMetH Tryz.prog vD W):AKy W (below W):=by
  rw[MakeChecks.laidMetH_plain _ _ _ (by kernel_rfl)]at h
  obtain⟨ps,⟨g0,t0,cs0,f0,p0,q0,hg0,ht0,hv0,hd0,_,_⟩,_,_⟩:=h
  obtain rfl:=Option.some.inj (Aai.symm.trans hg0)
  obtain rfl:=Option.some.inj (AaY.symm.trans ht0)
  obtain⟨xs,m1,rfl,hx1,hlen,hn3,hel⟩:=DataW.trod_array Tryz.underlying386 hd0
  have c5:Tryz.prog.cellsOf 5=1:=by kernel_rfl
  rw[c5]at hel
  have hc:=World.var?_cell hg0 hv0
  have hcell:∀ (j:Nat) (n:Int),AUz[j]? = some n→W.cell? ⟨0,j,none⟩=some (.int .u8 n):=by
    intro j n hj
    have hm:xs.map (·.1)=AUz.map (fun n=>(DataW.lit (.int .u8 n):DataW Unit)):=by
      have:=congrArg (fun x=>x.1) hx1
      simp only[Rows.laid_math_bits_deBruijn32tab,DataW.agg.injEq]at this
      rw[← this]
      rfl
    have hl:j<32:=(List.getElem?_eq_some_iff.1 hj).1
    have h1:(xs.map (·.1))[j]? = some (DataW.lit (.int .u8 n)):=by rw[hm,List.getElem?_map,hj];rfl
    rw[List.getElem?_map]at h1
    cases hy:xs[j]? with
    |none=>rw[hy]at h1;cases h1
    |some y=>
      rw[hy]at h1
      have h2:y.1=DataW.lit (.int .u8 n):=by simpa using h1
      have h3:=hel j hl
      rw[hy]at h3
      obtain⟨r,e1,e2,_⟩:=DataW.trod_int Tryz.underlying5 h3
      rw[e2]at h2
      have h4:r=n:=by simpa using h2
      subst h4
      rw[hc]
      have h5:(List.take 1 (List.drop (j*1) cs0.toList))[0]? = some (.int .u8 r):=by rw[e1];rfl
      simpa using h5
  intro p hp
  have:p=(0,.u8,AUz):=by simpa [ow]using hp
  subst this
  refine⟨?_,hcell⟩
  have h0:=hcell 0 0 rfl
  show 0<W.heap.size
  apply Classical.byContradiction
  intro hn
  have he:W.heap[0]? = none:=Array.getElem?_eq_none (by omega)
  unfold World.cell? at h0
  simp only[he]at h0
  cases h0
theorem gT:ownKnob Tryz.prog.godebug=none:=by kernel_rfl
theorem GX:laidOutB Tryz.prog=true:=by kernel_rfl
theorem gR:I3 Tryz.prog (11+1) 70=some (.arr 2 (.int .u16)):=by kernel_rfl
theorem gQ:I3 Tryz.prog (11+1) 45=some (.slice (.prod (.int .i64) (.prod (.int .i64) .unit))):=by kernel_rfl
theorem bH:BS Tryz.prog 5 (BT 0 2 Ox BX A8 GA):=rb.h.1 5
theorem gP(a0:Ty.den (.arr 2 (.int .u16)))(a1:Ty.den (.slice (.prod (.int .i64) (.prod (.int .i64) .unit))))(h:GA (a0,a1,())=some (true,())):
    BT 0 2 Ox BX A8 GA (AV×Eff) [.data (.arr 2 (.int .u16)) a0,.data (.slice (.prod (.int .i64) (.prod (.int .i64) .unit))) a1] [] [] 0 (fun v e=>some (v,e))=some (.data .bool true,{}):=by
  refine Eq.trans (b:=match GA (a0,a1,())with
    |none=>none
    |some y=>some (.data .bool y.1,{})) ?_ (by rw[h])
  kernel_rfl
theorem Ww(os:Os)(started:os.Started)(H:Type)(enc:TypeId×Value→H):
    ReturnsInHanded {} Tryz.checked os 5 .any (fun w args=>(Rows.wholeFullSpec.pre enc Tryz.prog Tryz.f5 [] false w args∧laidMetH Tryz.prog vD w)∧sizedMet enc Tryz.prog Tryz.f5 (OpenSpec.ofChange Rows.wholeFullSpec) false w args) (Rows.wholeFullSpec.post enc Tryz.prog Tryz.f5 false true false false):=by
  refine returnsInHanded_of_change_and (C:=Tryz.checked) (X:=fun w _=>laidMetH Tryz.prog vD w) (fun _ _ _ hh h=>h.of_heap hh) gT started (by kernel_rfl) Tryz.func5
    (ChangeSpec.witness_shaped (enc:=enc) (C:=Tryz.checked) (os:=os) (X:=fun w _=>laidMetH Tryz.prog vD w) false (World.doorLaid Tryz.prog 400 os) #[.agg #[.int .u16 0,.int .u16 0],.slice none 0 0] 8 rfl (World.shaped_of_RefB (by kernel_rfl) (by kernel_rfl)) (by kernel_rfl) (by kernel_rfl) (by kernel_rfl) (AQG os _)) ?_
  intro W base args ds gs before hval0 hW _ _ hL _
  have hval:∀ (j:Nat) t v,Tryz.f5.params[j]? = some t→args[j]? = some v→Value.okWide Tryz.prog W .any base t v:=hval0
  have hW':=hW
  have hlt0:=hW.lt
  obtain⟨p,q,hA0,hV,rfl,hfz,hnd⟩:=hW
  have hA:DataW.TrodAll enc Tryz.prog W 0 (fun _=>true) true Tryz.f5.params.toList args.toList ds p:=hA0
  rw[Tryz.params5]at hA hval
  obtain⟨v0,v1,d0,d1,p0,p1,rfl,rfl,rfl,h0,h1⟩:=trodAll_two hA
  obtain⟨rfl,rfl⟩:=trodVars_none hV
  obtain⟨x0,r0,w0⟩:=rp (hval 0 70 v0 rfl rfl) h0 gR
  obtain⟨x1,r1,w1⟩:=rp (hval 1 45 v1 rfl rfl) h1 gQ
  clear hA0 hval0
  simp only[List.append_nil]at hW' hlt0
  have hrep:BG W (below W) (fun _=>none) [] [.data (.arr 2 (.int .u16)) x0,.data (.slice (.prod (.int .i64) (.prod (.int .i64) .unit))) x1] [v0,v1]:=by
    simp only[BG,Rep]
    exact⟨v0,_,rfl,r0,⟨v1,_,rfl,r1,rfl⟩⟩
  refine(iM bH (gP x0 x1 (Pl.bG x0 x1 w0 w1)) hrep (vV hL)).mono fun e W' ⟨he,hb⟩ => ?_
  subst he
  refine⟨_,rfl,gb (pa:=p0++p1) (pv:=[]) hW' (fun _ _ _=>trodAll_mk1 ⟨1,by kernel_rfl⟩) (fun sp hs => ?_) (fun _ _=>rfl) (by simp) hb (ok_one (by kernel_rfl) rfl (okWide_bool_mk Tryz.underlying4 true))⟩
  exact trodAll_mk2 (bV GX (by kernel_rfl) (of_decide_eq_true (by kernel_rfl)) h0 hb (fun x hx=>hlt0 x (by simp[hx])) (fun x hx=>hs x (by simp[hx]))) (bV GX (by kernel_rfl) (of_decide_eq_true (by kernel_rfl)) h1 hb (fun x hx=>hlt0 x (by simp[hx])) (fun x hx=>hs x (by simp[hx])))
theorem mI:(Tryz.prog.stops==[])=true:=by kernel_rfl
theorem mH:(Tryz.prog.stopKnobs==[])=true:=by kernel_rfl
theorem mG:(Rows.wholeFullRow.inPlace==Tryz.prog.inPlace 5)=true:=by kernel_rfl
theorem mF:(Rows.wholeFullRow.unfollowed==Tryz.prog.unfollowed 5)=true:=by kernel_rfl
theorem mE:(Rows.wholeFullRow.recurses==Tryz.prog.recurses 5)=true:=by kernel_rfl
theorem mD:(Rows.wholeFullRow.named==Tryz.prog.varsNamed 5)=true:=by kernel_rfl
theorem mC:(Rows.wholeFullRow.plainKeys==Tryz.prog.plainKeys)=true:=by kernel_rfl
theorem l9:Tryz.prog.stopsHeard=true:=by kernel_rfl
theorem l8:Tryz.prog.mayEnter=true:=by kernel_rfl
theorem l7:(Rows.wholeFullRow.lifted==Tryz.prog.liftsFinal)=true:=by kernel_rfl
theorem gV:(Tryz.prog.make==some Rows.wholeFullRow.make)=true:=by kernel_rfl
theorem gU:mapsRowed Tryz.prog=true:=by kernel_rfl
theorem l6:joinedFacts Tryz.prog 5 Tryz.f5 Rows.wholeFullSpec Rows.wholeFullRow=true:=by
  unfold joinedFacts
  rw[mI,mH,mG,mF,mE,mD,mC,l9,l8,l7,gV,gU,GX]
  kernel_rfl
theorem l5:true=Tryz.pinned.checked.prog.looks []:=by kernel_rfl
theorem mJ:false=Rows.wholeFullRow.goesBy Tryz.pinned.checked.prog:=by kernel_rfl
theorem gS:Rows.WholeFullSaid:=
  OpenClaim.holds_of_wide 5 Tryz.f5 rfl rfl rfl rfl rfl rfl rfl ⟨rfl,rfl,rfl,rfl,rfl⟩ rfl rfl rfl rfl rfl (by kernel_rfl) Tryz.func5 l6
    (of_decide_eq_true (by kernel_rfl)) (by unfold Func.isWrapper;first|(rw[if_pos (by decide +kernel)];kernel_rfl)|(rw[if_neg (by decide +kernel)];exact⟨rfl,rfl⟩))
    (fun os started H enc _=>Ww os started H enc)
theorem wholeFull_holds:Rows.WholeFullCardSaid:=
  Claim7.holds_tied_plain_at .later [] [.data] true (true, "6865a57433ace5c44d306bcaa95f3dd41ec92138a63297c3a1c27e1f15b0c7cd") true
    gS (fun _ h=>by cases h) (by kernel_rfl) (fun _ h=>by cases h) wholeFull_row_tie rfl ⟨rfl,rfl⟩ (by kernel_rfl) rfl
    (fun f fn hf hfn=>by
      obtain rfl : f = 5 := Option.some.inj ((show Tryz.prog.funcNamed "archipelago/archipelagotop.WholeFull" = some 5 by kernel_rfl).symm.trans hf) |>.symm
      obtain rfl:fn=Tryz.f5:=(Option.some.inj (Tryz.func5.symm.trans hfn)).symm
      exact⟨l5,fun j t ht=>by
        rw[Tryz.params5]at ht
        have hm:t∈[70,45]:=by simpa using Array.mem_of_getElem? ht
        have hall:([70,45].all fun u => !Tryz.prog.wantsStandIn u)=true:=by kernel_rfl
        exact(show Tryz.prog.wantsStandIn t=false by simpa using List.all_eq_true.1 hall t hm)⟩)
    mJ
end Go.Proofs.YtjjffiklblcdcaaGreatDoor
end
