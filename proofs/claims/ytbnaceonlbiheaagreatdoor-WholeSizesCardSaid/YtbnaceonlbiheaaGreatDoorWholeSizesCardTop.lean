/- The law WholeSizesCard: for every input it returns true; no conditions. -/
import Derived.Test.YtbnaceonlbiheaaGreatDoorPf4afdb7312
import Derived.Test.YtbnaceonlbiheaaGreatDoorRows
import Derived.Test.YtbnaceonlbiheaaGreatDoorTie
import Derived.Test.YtbnaceonlbiheaaGreatDoorCards
import Derived.LaidMore
import Derived.OpenShut
import Derived.SevenTiedAt
set_option linter.unusedVariables false
set_option linter.unusedSimpArgs false
set_option linter.unusedSectionVars false
set_option maxRecDepth 100000
section
/- The law WholeSizes: for every input it returns true,and each argument reads behind the call as it read before. -/
namespace Go.Proofs.YtbnaceonlbiheaaGreatDoor
open Go.Pev Go.ChangeShapes Go.WideShapes Go.ChangeAt Go.RowKit
set_option maxRecDepth 100000
/-- what the row lists -/
def mP {H : Type} : List (String × DataW H) := [("math/bits.deBruijn32tab", Rows.laid_math_bits_deBruijn32tab)]
theorem ARd : Tryz.prog.globalNamed "math/bits.deBruijn32tab" = some 0 := by kernel_rfl
theorem ART:(Tryz.prog.globals[0]?).map (·.type)=some 334:=by kernel_rfl
theorem AIb(os:Os)(args:Array Value):laidMetH Tryz.prog mP ((World.doorLaid Tryz.prog 400 os).forCall (fun _ _=>0) ⟨#[],args,[]⟩).memory:=
  laidMetH_of_parts (laidMet_of_run' 8 (by kernel_rfl) (by kernel_rfl)) (by kernel_rfl)
theorem mj{W:World}(h:laidMetH Tryz.prog mP W):ADc W (below W):=by
  rw[MakeChecks.laidMetH_plain _ _ _ (by kernel_rfl)]at h
  obtain⟨ps,⟨g0,t0,cs0,f0,p0,q0,hg0,ht0,hv0,hd0,_,_⟩,_,_⟩:=h
  obtain rfl:=Option.some.inj (ARd.symm.trans hg0)
  obtain rfl:=Option.some.inj (ART.symm.trans ht0)
  obtain⟨xs,m1,rfl,hx1,hlen,hn3,hel⟩:=DataW.trod_array Tryz.underlying334 hd0
  have c5:Tryz.prog.cellsOf 5=1:=by kernel_rfl
  rw[c5]at hel
  have hc:=World.var?_cell hg0 hv0
  have hcell:∀ (j:Nat) (n:Int),ml[j]? = some n→W.cell? ⟨0,j,none⟩=some (.int .u8 n):=by
    intro j n hj
    have hm:xs.map (·.1)=ml.map (fun n=>(DataW.lit (.int .u8 n):DataW Unit)):=by
      have:=congrArg (fun x=>x.1) hx1
      simp only[Rows.laid_math_bits_deBruijn32tab,DataW.agg.injEq]at this
      rw[← this]
      rfl
    have hl:j<32:=(List.getElem?_eq_some_iff.1 hj).1
    have h1:(xs.map (·.1))[j]? = some (DataW.lit (.int .u8 n)):=by rw[hm,List.getElem?_map,hj];rfl
    rw[List.getElem?_map]at h1
    cases hy:xs[j]? with
    |none=>rw[hy]at h1;cases h1
    |some y=>
      rw[hy]at h1
      have h2:y.1=DataW.lit (.int .u8 n):=by simpa using h1
      have h3:=hel j hl
      rw[hy]at h3
      obtain⟨r,e1,e2,_⟩:=DataW.trod_int Tryz.underlying5 h3
      rw[e2]at h2
      have h4:r=n:=by simpa using h2
      subst h4
      rw[hc]
      have h5:(List.take 1 (List.drop (j*1) cs0.toList))[0]? = some (.int .u8 r):=by rw[e1];rfl
      simpa using h5
  intro p hp
  have:p=(0,.u8,ml):=by simpa [gH]using hp
  subst this
  refine⟨?_,hcell⟩
  have h0:=hcell 0 0 rfl
  show 0<W.heap.size
  apply Classical.byContradiction
  intro hn
  have he:W.heap[0]? = none:=Array.getElem?_eq_none (by omega)
  unfold World.cell? at h0
  simp only[he]at h0
  cases h0
theorem Wf:ownKnob Tryz.prog.godebug=none:=by kernel_rfl
theorem Dn:laidOutB Tryz.prog=true:=by kernel_rfl
theorem Wd:GC Tryz.prog (11+1) 26=some (.prod (.prod (.int .i64) (.prod (.slice (.prod (.int .i64) (.prod (.int .i64) (.prod (.int .i64) (.prod .bool .unit))))) .unit)) (.prod (.int .i64) (.prod (.int .i64) .unit))):=by kernel_rfl
theorem Wc:GC Tryz.prog (11+1) 27=some (.slice (.int .u32)):=by kernel_rfl
theorem Wb:GC Tryz.prog (11+1) 28=some (.arr 2 (.int .u8)):=by kernel_rfl
theorem TX:BQ Tryz.prog 3 (BU 0 3 Kl BH A4 EE):=dU.h.1 3
theorem Wa(a0:Ty.den (.prod (.prod (.int .i64) (.prod (.slice (.prod (.int .i64) (.prod (.int .i64) (.prod (.int .i64) (.prod .bool .unit))))) .unit)) (.prod (.int .i64) (.prod (.int .i64) .unit))))(a1:Ty.den (.slice (.int .u32)))(a2:Ty.den (.arr 2 (.int .u8)))(h:EE (a0,a1,a2,())=some (true,())):
    BU 0 3 Kl BH A4 EE (AV×Eff) [.data (.prod (.prod (.int .i64) (.prod (.slice (.prod (.int .i64) (.prod (.int .i64) (.prod (.int .i64) (.prod .bool .unit))))) .unit)) (.prod (.int .i64) (.prod (.int .i64) .unit))) a0,.data (.slice (.int .u32)) a1,.data (.arr 2 (.int .u8)) a2] [] [] 0 (fun v e=>some (v,e))=some (.data .bool true,{}):=by
  refine Eq.trans (b:=match EE (a0,a1,a2,())with
    |none=>none
    |some y=>some (.data .bool y.1,{})) ?_ (by rw[h])
  kernel_rfl
theorem PH(os:Os)(started:os.Started)(H:Type)(enc:TypeId×Value→H):
    ReturnsInHanded {} Tryz.checked os 3 .any (fun w args=>(Rows.wholeSizesSpec.pre enc Tryz.prog Tryz.f3 [] false w args∧laidMetH Tryz.prog mP w)∧sizedMet enc Tryz.prog Tryz.f3 (OpenSpec.ofChange Rows.wholeSizesSpec) false w args) (Rows.wholeSizesSpec.post enc Tryz.prog Tryz.f3 false true false false):=by
  refine returnsInHanded_of_change_and (C:=Tryz.checked) (X:=fun w _=>laidMetH Tryz.prog mP w) (fun _ _ _ hh h=>h.of_heap hh) Wf started (by kernel_rfl) Tryz.func3
    (ChangeSpec.witness_shaped (enc:=enc) (C:=Tryz.checked) (os:=os) (X:=fun w _=>laidMetH Tryz.prog mP w) false (World.doorLaid Tryz.prog 400 os) #[.agg #[.int .i64 0,.slice none 0 0,.int .i64 0,.int .i64 0],.slice none 0 0,.agg #[.int .u8 0,.int .u8 0]] 8 rfl (World.shaped_of_RefB (by kernel_rfl) (by kernel_rfl)) (by kernel_rfl) (by kernel_rfl) (by kernel_rfl) (AIb os _)) ?_
  intro W base args ds gs before hval0 hW _ _ hL _
  have hval:∀ (j:Nat) t v,Tryz.f3.params[j]? = some t→args[j]? = some v→Value.okWide Tryz.prog W .any base t v:=hval0
  have hW':=hW
  have hlt0:=hW.lt
  obtain⟨p,q,hA0,hV,rfl,hfz,hnd⟩:=hW
  have hA:DataW.TrodAll enc Tryz.prog W 0 (fun _=>true) true Tryz.f3.params.toList args.toList ds p:=hA0
  rw[Tryz.params3]at hA hval
  obtain⟨v0,v1,v2,d0,d1,d2,p0,p1,p2,rfl,rfl,rfl,h0,h1,h2⟩:=trodAll_three hA
  obtain⟨rfl,rfl⟩:=trodVars_none hV
  obtain⟨x0,r0,w0⟩:=Wy (hval 0 26 v0 rfl rfl) h0 Wd
  obtain⟨x1,r1,w1⟩:=Wy (hval 1 27 v1 rfl rfl) h1 Wc
  obtain⟨x2,r2,w2⟩:=Wy (hval 2 28 v2 rfl rfl) h2 Wb
  clear hA0 hval0
  simp only[List.append_nil]at hW' hlt0
  have hrep:BA W (below W) (fun _=>none) [] [.data (.prod (.prod (.int .i64) (.prod (.slice (.prod (.int .i64) (.prod (.int .i64) (.prod (.int .i64) (.prod .bool .unit))))) .unit)) (.prod (.int .i64) (.prod (.int .i64) .unit))) x0,.data (.slice (.int .u32)) x1,.data (.arr 2 (.int .u8)) x2] [v0,v1,v2]:=by
    simp only[BA,Rep]
    exact⟨v0,_,rfl,r0,⟨v1,_,rfl,r1,⟨v2,_,rfl,r2,rfl⟩⟩⟩
  refine(aU TX (Wa x0 x1 x2 (Pl.TW x0 x1 x2 w0 w1 w2)) hrep (mj hL)).mono fun e W' ⟨he,hb⟩ => ?_
  subst he
  refine⟨_,rfl,Zo (pa:=p0++(p1++p2)) (pv:=[]) hW' (fun _ _ _=>trodAll_mk1 ⟨1,by kernel_rfl⟩) (fun sp hs => ?_) (fun _ _=>rfl) (by simp) hb (ok_one (by kernel_rfl) rfl (okWide_bool_mk Tryz.underlying4 true))⟩
  exact trodAll_mk3 (OC Dn (by kernel_rfl) (of_decide_eq_true (by kernel_rfl)) h0 hb (fun x hx=>hlt0 x (by simp[hx])) (fun x hx=>hs x (by simp[hx]))) (OC Dn (by kernel_rfl) (of_decide_eq_true (by kernel_rfl)) h1 hb (fun x hx=>hlt0 x (by simp[hx])) (fun x hx=>hs x (by simp[hx]))) (OC Dn (by kernel_rfl) (of_decide_eq_true (by kernel_rfl)) h2 hb (fun x hx=>hlt0 x (by simp[hx])) (fun x hx=>hs x (by simp[hx])))
theorem Zf:(Tryz.prog.stops==[])=true:=by kernel_rfl
theorem Ze:(Tryz.prog.stopKnobs==[])=true:=by kernel_rfl
theorem Zd:(Rows.wholeSizesRow.inPlace==Tryz.prog.inPlace 3)=true:=by kernel_rfl
theorem Zc:(Rows.wholeSizesRow.unfollowed==Tryz.prog.unfollowed 3)=true:=by kernel_rfl
theorem Zb:(Rows.wholeSizesRow.recurses==Tryz.prog.recurses 3)=true:=by kernel_rfl
theorem Za:(Rows.wholeSizesRow.named==Tryz.prog.varsNamed 3)=true:=by kernel_rfl
theorem ZZ:(Rows.wholeSizesRow.plainKeys==Tryz.prog.plainKeys)=true:=by kernel_rfl
theorem ZY:Tryz.prog.stopsHeard=true:=by kernel_rfl
theorem ZX:Tryz.prog.mayEnter=true:=by kernel_rfl
theorem ZW:(Rows.wholeSizesRow.lifted==Tryz.prog.liftsFinal)=true:=by kernel_rfl
theorem Wh:(Tryz.prog.make==some Rows.wholeSizesRow.make)=true:=by kernel_rfl
theorem Wg:mapsRowed Tryz.prog=true:=by kernel_rfl
theorem ZV:joinedFacts Tryz.prog 3 Tryz.f3 Rows.wholeSizesSpec Rows.wholeSizesRow=true:=by
  unfold joinedFacts
  rw[Zf,Ze,Zd,Zc,Zb,Za,ZZ,ZY,ZX,ZW,Wh,Wg,Dn]
  kernel_rfl
theorem ZU:true=Tryz.pinned.checked.prog.looks []:=by kernel_rfl
theorem Zh:false=Rows.wholeSizesRow.goesBy Tryz.pinned.checked.prog:=by kernel_rfl
theorem We:Rows.WholeSizesSaid:=
  OpenClaim.holds_of_wide 3 Tryz.f3 rfl rfl rfl rfl rfl rfl rfl ⟨rfl,rfl,rfl,rfl,rfl⟩ rfl rfl rfl rfl rfl (by kernel_rfl) Tryz.func3 ZV
    (of_decide_eq_true (by kernel_rfl)) (by unfold Func.isWrapper;first|(rw[if_pos (by decide +kernel)];kernel_rfl)|(rw[if_neg (by decide +kernel)];exact⟨rfl,rfl⟩))
    (fun os started H enc _=>PH os started H enc)
theorem wholeSizes_holds:Rows.WholeSizesCardSaid:=
  Claim7.holds_tied_plain_at .later [] [.data] true (true, "9534b7ab0569e87f2a2f6dbab60b14c4da3f991a0736ac92b82149417e707206") true
    We (fun _ h=>by cases h) (by kernel_rfl) (fun _ h=>by cases h) wholeSizes_row_tie rfl ⟨rfl,rfl⟩ (by kernel_rfl) rfl
    (fun f fn hf hfn=>by
      obtain rfl : f = 3 := Option.some.inj ((show Tryz.prog.funcNamed "archipelago/archipelagotop.WholeSizes" = some 3 by kernel_rfl).symm.trans hf) |>.symm
      obtain rfl:fn=Tryz.f3:=(Option.some.inj (Tryz.func3.symm.trans hfn)).symm
      exact⟨ZU,fun j t ht=>by
        rw[Tryz.params3]at ht
        have hm:t∈[26,27,28]:=by simpa using Array.mem_of_getElem? ht
        have hall:([26,27,28].all fun u => !Tryz.prog.wantsStandIn u)=true:=by kernel_rfl
        exact(show Tryz.prog.wantsStandIn t=false by simpa using List.all_eq_true.1 hall t hm)⟩)
    Zh
end Go.Proofs.YtbnaceonlbiheaaGreatDoor
end
