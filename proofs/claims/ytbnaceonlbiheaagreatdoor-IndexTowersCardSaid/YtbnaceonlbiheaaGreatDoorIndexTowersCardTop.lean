/- The law IndexTowersCard: for every input it returns true; no conditions. -/
import Derived.Test.YtbnaceonlbiheaaGreatDoorP5a2b3c0f44
import Derived.Test.YtbnaceonlbiheaaGreatDoorRows
import Derived.Test.YtbnaceonlbiheaaGreatDoorTie
import Derived.Test.YtbnaceonlbiheaaGreatDoorCards
import Derived.LaidMore
import Derived.OpenShut
import Derived.SevenTiedAt
set_option linter.unusedVariables false
set_option linter.unusedSimpArgs false
set_option linter.unusedSectionVars false
set_option maxRecDepth 100000
section
/- The law IndexTowers: for every input it returns true,and each argument reads behind the call as it read before. -/
namespace Go.Proofs.YtbnaceonlbiheaaGreatDoor
open Go.Pev Go.ChangeShapes Go.WideShapes Go.ChangeAt Go.RowKit
set_option maxRecDepth 100000
/-- what the row lists -/
def rb {H : Type} : List (String × DataW H) := [("math/bits.deBruijn32tab", Rows.laid_math_bits_deBruijn32tab)]
theorem AXV : Tryz.prog.globalNamed "math/bits.deBruijn32tab" = some 0 := by kernel_rfl
theorem AXO:(Tryz.prog.globals[0]?).map (·.type)=some 334:=by kernel_rfl
theorem AP7(os:Os)(args:Array Value):laidMetH Tryz.prog rb ((World.doorLaid Tryz.prog 400 os).forCall (fun _ _=>0) ⟨#[],args,[]⟩).memory:=
  laidMetH_of_parts (laidMet_of_run' 8 (by kernel_rfl) (by kernel_rfl)) (by kernel_rfl)
theorem sI{W:World}(h:laidMetH Tryz.prog rb W):ALE W (below W):=by
  rw[MakeChecks.laidMetH_plain _ _ _ (by kernel_rfl)]at h
  obtain⟨ps,⟨g0,t0,cs0,f0,p0,q0,hg0,ht0,hv0,hd0,_,_⟩,_,_⟩:=h
  obtain rfl:=Option.some.inj (AXV.symm.trans hg0)
  obtain rfl:=Option.some.inj (AXO.symm.trans ht0)
  obtain⟨xs,m1,rfl,hx1,hlen,hn3,hel⟩:=DataW.trod_array Tryz.underlying334 hd0
  have c5:Tryz.prog.cellsOf 5=1:=by kernel_rfl
  rw[c5]at hel
  have hc:=World.var?_cell hg0 hv0
  have hcell:∀ (j:Nat) (n:Int),sJ[j]? = some n→W.cell? ⟨0,j,none⟩=some (.int .u8 n):=by
    intro j n hj
    have hm:xs.map (·.1)=sJ.map (fun n=>(DataW.lit (.int .u8 n):DataW Unit)):=by
      have:=congrArg (fun x=>x.1) hx1
      simp only[Rows.laid_math_bits_deBruijn32tab,DataW.agg.injEq]at this
      rw[← this]
      rfl
    have hl:j<32:=(List.getElem?_eq_some_iff.1 hj).1
    have h1:(xs.map (·.1))[j]? = some (DataW.lit (.int .u8 n)):=by rw[hm,List.getElem?_map,hj];rfl
    rw[List.getElem?_map]at h1
    cases hy:xs[j]? with
    |none=>rw[hy]at h1;cases h1
    |some y=>
      rw[hy]at h1
      have h2:y.1=DataW.lit (.int .u8 n):=by simpa using h1
      have h3:=hel j hl
      rw[hy]at h3
      obtain⟨r,e1,e2,_⟩:=DataW.trod_int Tryz.underlying5 h3
      rw[e2]at h2
      have h4:r=n:=by simpa using h2
      subst h4
      rw[hc]
      have h5:(List.take 1 (List.drop (j*1) cs0.toList))[0]? = some (.int .u8 r):=by rw[e1];rfl
      simpa using h5
  intro p hp
  have:p=(0,.u8,sJ):=by simpa [kU]using hp
  subst this
  refine⟨?_,hcell⟩
  have h0:=hcell 0 0 rfl
  show 0<W.heap.size
  apply Classical.byContradiction
  intro hn
  have he:W.heap[0]? = none:=Array.getElem?_eq_none (by omega)
  unfold World.cell? at h0
  simp only[he]at h0
  cases h0
theorem U_:ownKnob Tryz.prog.godebug=none:=by kernel_rfl
theorem DX:laidOutB Tryz.prog=true:=by kernel_rfl
theorem UY:GC Tryz.prog (11+1) 26=some (.prod (.prod (.int .i64) (.prod (.slice (.prod (.int .i64) (.prod (.int .i64) (.prod (.int .i64) (.prod .bool .unit))))) .unit)) (.prod (.int .i64) (.prod (.int .i64) .unit))):=by kernel_rfl
theorem UX:GC Tryz.prog (11+1) 27=some (.slice (.int .u32)):=by kernel_rfl
theorem UW:GC Tryz.prog (11+1) 50=some (.slice (.prod (.int .i64) (.prod (.int .i64) (.prod (.slice (.int .i64)) .unit)))):=by kernel_rfl
theorem SS:BV Tryz.prog 4 (Bb 0 3 Jg BG A6 Di):=Sx.1 4
theorem UU(a0:Ty.den (.prod (.prod (.int .i64) (.prod (.slice (.prod (.int .i64) (.prod (.int .i64) (.prod (.int .i64) (.prod .bool .unit))))) .unit)) (.prod (.int .i64) (.prod (.int .i64) .unit))))(a1:Ty.den (.slice (.int .u32)))(a2:Ty.den (.slice (.prod (.int .i64) (.prod (.int .i64) (.prod (.slice (.int .i64)) .unit)))))(h:Di (a0,a1,a2,())=some (true,())):
    Bb 0 3 Jg BG A6 Di (AV×Eff) [.data (.prod (.prod (.int .i64) (.prod (.slice (.prod (.int .i64) (.prod (.int .i64) (.prod (.int .i64) (.prod .bool .unit))))) .unit)) (.prod (.int .i64) (.prod (.int .i64) .unit))) a0,.data (.slice (.int .u32)) a1,.data (.slice (.prod (.int .i64) (.prod (.int .i64) (.prod (.slice (.int .i64)) .unit)))) a2] [] [] 0 (fun v e=>some (v,e))=some (.data .bool true,{}):=by
  refine Eq.trans (b:=match Di (a0,a1,a2,())with
    |none=>none
    |some y=>some (.data .bool y.1,{})) ?_ (by rw[h])
  kernel_rfl
theorem Ou(os:Os)(started:os.Started)(H:Type)(enc:TypeId×Value→H):
    ReturnsInHanded {} Tryz.checked os 4 .any (fun w args=>(Rows.indexTowersSpec.pre enc Tryz.prog Tryz.f4 [] false w args∧laidMetH Tryz.prog rb w)∧sizedMet enc Tryz.prog Tryz.f4 (OpenSpec.ofChange Rows.indexTowersSpec) false w args) (Rows.indexTowersSpec.post enc Tryz.prog Tryz.f4 false true false false):=by
  refine returnsInHanded_of_change_and (C:=Tryz.checked) (X:=fun w _=>laidMetH Tryz.prog rb w) (fun _ _ _ hh h=>h.of_heap hh) U_ started (by kernel_rfl) Tryz.func4
    (ChangeSpec.witness_shaped (enc:=enc) (C:=Tryz.checked) (os:=os) (X:=fun w _=>laidMetH Tryz.prog rb w) false (World.doorLaid Tryz.prog 400 os) #[.agg #[.int .i64 0,.slice none 0 0,.int .i64 0,.int .i64 0],.slice none 0 0,.slice none 0 0] 8 rfl (World.shaped_of_RefB (by kernel_rfl) (by kernel_rfl)) (by kernel_rfl) (by kernel_rfl) (by kernel_rfl) (AP7 os _)) ?_
  intro W base args ds gs before hval0 hW _ _ hL _
  have hval:∀ (j:Nat) t v,Tryz.f4.params[j]? = some t→args[j]? = some v→Value.okWide Tryz.prog W .any base t v:=hval0
  have hW':=hW
  have hlt0:=hW.lt
  obtain⟨p,q,hA0,hV,rfl,hfz,hnd⟩:=hW
  have hA:DataW.TrodAll enc Tryz.prog W 0 (fun _=>true) true Tryz.f4.params.toList args.toList ds p:=hA0
  rw[Tryz.params4]at hA hval
  obtain⟨v0,v1,v2,d0,d1,d2,p0,p1,p2,rfl,rfl,rfl,h0,h1,h2⟩:=trodAll_three hA
  obtain⟨rfl,rfl⟩:=trodVars_none hV
  obtain⟨x0,r0,w0⟩:=Wi (hval 0 26 v0 rfl rfl) h0 UY
  obtain⟨x1,r1,w1⟩:=Wi (hval 1 27 v1 rfl rfl) h1 UX
  obtain⟨x2,r2,w2⟩:=Wi (hval 2 50 v2 rfl rfl) h2 UW
  clear hA0 hval0
  simp only[List.append_nil]at hW' hlt0
  have hrep:BD W (below W) (fun _=>none) [] [.data (.prod (.prod (.int .i64) (.prod (.slice (.prod (.int .i64) (.prod (.int .i64) (.prod (.int .i64) (.prod .bool .unit))))) .unit)) (.prod (.int .i64) (.prod (.int .i64) .unit))) x0,.data (.slice (.int .u32)) x1,.data (.slice (.prod (.int .i64) (.prod (.int .i64) (.prod (.slice (.int .i64)) .unit)))) x2] [v0,v1,v2]:=by
    simp only[BD,Rep]
    exact⟨v0,_,rfl,r0,⟨v1,_,rfl,r1,⟨v2,_,rfl,r2,rfl⟩⟩⟩
  refine(bT SS (UU x0 x1 x2 (Pl.SQ x0 x1 x2 w0 w1 w2)) hrep (sI hL)).mono fun e W' ⟨he,hb⟩ => ?_
  subst he
  refine⟨_,rfl,aS (pa:=p0++(p1++p2)) (pv:=[]) hW' (fun _ _ _=>trodAll_mk1 ⟨1,by kernel_rfl⟩) (fun sp hs => ?_) (fun _ _=>rfl) (by simp) hb (ok_one (by kernel_rfl) rfl (okWide_bool_mk Tryz.underlying4 true))⟩
  exact trodAll_mk3 (OI DX (by kernel_rfl) (of_decide_eq_true (by kernel_rfl)) h0 hb (fun x hx=>hlt0 x (by simp[hx])) (fun x hx=>hs x (by simp[hx]))) (OI DX (by kernel_rfl) (of_decide_eq_true (by kernel_rfl)) h1 hb (fun x hx=>hlt0 x (by simp[hx])) (fun x hx=>hs x (by simp[hx]))) (OI DX (by kernel_rfl) (of_decide_eq_true (by kernel_rfl)) h2 hb (fun x hx=>hlt0 x (by simp[hx])) (fun x hx=>hs x (by simp[hx])))
theorem YR:(Tryz.prog.stops==[])=true:=by kernel_rfl
theorem YQ:(Tryz.prog.stopKnobs==[])=true:=by kernel_rfl
theorem YP:(Rows.indexTowersRow.inPlace==Tryz.prog.inPlace 4)=true:=by kernel_rfl
theorem YO:(Rows.indexTowersRow.unfollowed==Tryz.prog.unfollowed 4)=true:=by kernel_rfl
theorem YN:(Rows.indexTowersRow.recurses==Tryz.prog.recurses 4)=true:=by kernel_rfl
theorem YM:(Rows.indexTowersRow.named==Tryz.prog.varsNamed 4)=true:=by kernel_rfl
theorem YL:(Rows.indexTowersRow.plainKeys==Tryz.prog.plainKeys)=true:=by kernel_rfl
theorem YK:Tryz.prog.stopsHeard=true:=by kernel_rfl
theorem YJ:Tryz.prog.mayEnter=true:=by kernel_rfl
theorem YI:(Rows.indexTowersRow.lifted==Tryz.prog.liftsFinal)=true:=by kernel_rfl
theorem VA:(Tryz.prog.make==some Rows.indexTowersRow.make)=true:=by kernel_rfl
theorem U':mapsRowed Tryz.prog=true:=by kernel_rfl
theorem YH:joinedFacts Tryz.prog 4 Tryz.f4 Rows.indexTowersSpec Rows.indexTowersRow=true:=by
  unfold joinedFacts
  rw[YR,YQ,YP,YO,YN,YM,YL,YK,YJ,YI,VA,U',DX]
  kernel_rfl
theorem YG:true=Tryz.pinned.checked.prog.looks []:=by kernel_rfl
theorem YT:false=Rows.indexTowersRow.goesBy Tryz.pinned.checked.prog:=by kernel_rfl
theorem UZ:Rows.IndexTowersSaid:=
  OpenClaim.holds_of_wide 4 Tryz.f4 rfl rfl rfl rfl rfl rfl rfl ⟨rfl,rfl,rfl,rfl,rfl⟩ rfl rfl rfl rfl rfl (by kernel_rfl) Tryz.func4 YH
    (of_decide_eq_true (by kernel_rfl)) (by unfold Func.isWrapper;first|(rw[if_pos (by decide +kernel)];kernel_rfl)|(rw[if_neg (by decide +kernel)];exact⟨rfl,rfl⟩))
    (fun os started H enc _=>Ou os started H enc)
theorem indexTowers_holds:Rows.IndexTowersCardSaid:=
  Claim7.holds_tied_plain_at .later [] [.data] true (true, "9534b7ab0569e87f2a2f6dbab60b14c4da3f991a0736ac92b82149417e707206") true
    UZ (fun _ h=>by cases h) (by kernel_rfl) (fun _ h=>by cases h) indexTowers_row_tie rfl ⟨rfl,rfl⟩ (by kernel_rfl) rfl
    (fun f fn hf hfn=>by
      obtain rfl : f = 4 := Option.some.inj ((show Tryz.prog.funcNamed "archipelago/archipelagolaw28.IndexTowers" = some 4 by kernel_rfl).symm.trans hf) |>.symm
      obtain rfl:fn=Tryz.f4:=(Option.some.inj (Tryz.func4.symm.trans hfn)).symm
      exact⟨YG,fun j t ht=>by
        rw[Tryz.params4]at ht
        have hm:t∈[26,27,50]:=by simpa using Array.mem_of_getElem? ht
        have hall:([26,27,50].all fun u => !Tryz.prog.wantsStandIn u)=true:=by kernel_rfl
        exact(show Tryz.prog.wantsStandIn t=false by simpa using List.all_eq_true.1 hall t hm)⟩)
    YT
end Go.Proofs.YtbnaceonlbiheaaGreatDoor
end
