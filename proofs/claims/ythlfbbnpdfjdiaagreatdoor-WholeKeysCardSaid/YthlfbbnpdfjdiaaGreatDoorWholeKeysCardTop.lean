/- The law WholeKeysCard: for every input it returns true; no conditions. -/
import Derived.Test.YthlfbbnpdfjdiaaGreatDoorP149d3ff030
import Derived.Test.YthlfbbnpdfjdiaaGreatDoorRows
import Derived.Test.YthlfbbnpdfjdiaaGreatDoorTie
import Derived.Test.YthlfbbnpdfjdiaaGreatDoorCards
import Derived.LaidMore
import Derived.OpenShut
import Derived.SevenTiedAt
set_option linter.unusedVariables false
set_option linter.unusedSimpArgs false
set_option linter.unusedSectionVars false
set_option maxRecDepth 100000
section
/- The law WholeKeys: for every input it returns true,and each argument reads behind the call as it read before. -/
namespace Go.Proofs.YthlfbbnpdfjdiaaGreatDoor
open Go.Pev Go.ChangeShapes Go.WideShapes Go.ChangeAt Go.RowKit
set_option maxRecDepth 100000
/-- what the row lists -/
def tY {H : Type} : List (String × DataW H) := [("math/bits.deBruijn32tab", Rows.laid_math_bits_deBruijn32tab)]
theorem AYs : Tryz.prog.globalNamed "math/bits.deBruijn32tab" = some 0 := by kernel_rfl
theorem AYj:(Tryz.prog.globals[0]?).map (·.type)=some 334:=by kernel_rfl
theorem APP(os:Os)(args:Array Value):laidMetH Tryz.prog tY ((World.doorLaid Tryz.prog 400 os).forCall (fun _ _=>0) ⟨#[],args,[]⟩).memory:=
  laidMetH_of_parts (laidMet_of_run' 8 (by kernel_rfl) (by kernel_rfl)) (by kernel_rfl)
theorem uE{W:World}(h:laidMetH Tryz.prog tY W):AJ1 W (below W):=by
  rw[MakeChecks.laidMetH_plain _ _ _ (by kernel_rfl)]at h
  obtain⟨ps,⟨g0,t0,cs0,f0,p0,q0,hg0,ht0,hv0,hd0,_,_⟩,_,_⟩:=h
  obtain rfl:=Option.some.inj (AYs.symm.trans hg0)
  obtain rfl:=Option.some.inj (AYj.symm.trans ht0)
  obtain⟨xs,m1,rfl,hx1,hlen,hn3,hel⟩:=DataW.trod_array Tryz.underlying334 hd0
  have c5:Tryz.prog.cellsOf 5=1:=by kernel_rfl
  rw[c5]at hel
  have hc:=World.var?_cell hg0 hv0
  have hcell:∀ (j:Nat) (n:Int),AT1[j]? = some n→W.cell? ⟨0,j,none⟩=some (.int .u8 n):=by
    intro j n hj
    have hm:xs.map (·.1)=AT1.map (fun n=>(DataW.lit (.int .u8 n):DataW Unit)):=by
      have:=congrArg (fun x=>x.1) hx1
      simp only[Rows.laid_math_bits_deBruijn32tab,DataW.agg.injEq]at this
      rw[← this]
      rfl
    have hl:j<32:=(List.getElem?_eq_some_iff.1 hj).1
    have h1:(xs.map (·.1))[j]? = some (DataW.lit (.int .u8 n)):=by rw[hm,List.getElem?_map,hj];rfl
    rw[List.getElem?_map]at h1
    cases hy:xs[j]? with
    |none=>rw[hy]at h1;cases h1
    |some y=>
      rw[hy]at h1
      have h2:y.1=DataW.lit (.int .u8 n):=by simpa using h1
      have h3:=hel j hl
      rw[hy]at h3
      obtain⟨r,e1,e2,_⟩:=DataW.trod_int Tryz.underlying5 h3
      rw[e2]at h2
      have h4:r=n:=by simpa using h2
      subst h4
      rw[hc]
      have h5:(List.take 1 (List.drop (j*1) cs0.toList))[0]? = some (.int .u8 r):=by rw[e1];rfl
      simpa using h5
  intro p hp
  have:p=(0,.u8,AT1):=by simpa [nd]using hp
  subst this
  refine⟨?_,hcell⟩
  have h0:=hcell 0 0 rfl
  show 0<W.heap.size
  apply Classical.byContradiction
  intro hn
  have he:W.heap[0]? = none:=Array.getElem?_eq_none (by omega)
  unfold World.cell? at h0
  simp only[he]at h0
  cases h0
theorem eG:ownKnob Tryz.prog.godebug=none:=by kernel_rfl
theorem Gf:laidOutB Tryz.prog=true:=by kernel_rfl
theorem eD:It Tryz.prog (11+1) 26=some (.prod (.prod (.int .i64) (.prod (.slice (.prod (.int .i64) (.prod (.int .i64) (.prod (.int .i64) (.prod .bool .unit))))) .unit)) (.prod (.int .i64) (.prod (.int .i64) .unit))):=by kernel_rfl
theorem eB:It Tryz.prog (11+1) 30=some (.prod (.int .i64) (.prod (.slice (.prod (.int .i64) (.prod (.int .i64) .unit))) (.prod (.slice (.prod (.int .i64) (.prod (.int .i64) (.prod (.int .i64) .unit)))) .unit))):=by kernel_rfl
theorem Zn:BS Tryz.prog 3 (BX 0 2 N6 BP A5 GA):=py.h.1 3
theorem dz(a0:Ty.den (.prod (.prod (.int .i64) (.prod (.slice (.prod (.int .i64) (.prod (.int .i64) (.prod (.int .i64) (.prod .bool .unit))))) .unit)) (.prod (.int .i64) (.prod (.int .i64) .unit))))(a1:Ty.den (.prod (.int .i64) (.prod (.slice (.prod (.int .i64) (.prod (.int .i64) .unit))) (.prod (.slice (.prod (.int .i64) (.prod (.int .i64) (.prod (.int .i64) .unit)))) .unit))))(h:GA (a0,a1,())=some (true,())):
    BX 0 2 N6 BP A5 GA (AV×Eff) [.data (.prod (.prod (.int .i64) (.prod (.slice (.prod (.int .i64) (.prod (.int .i64) (.prod (.int .i64) (.prod .bool .unit))))) .unit)) (.prod (.int .i64) (.prod (.int .i64) .unit))) a0,.data (.prod (.int .i64) (.prod (.slice (.prod (.int .i64) (.prod (.int .i64) .unit))) (.prod (.slice (.prod (.int .i64) (.prod (.int .i64) (.prod (.int .i64) .unit)))) .unit))) a1] [] [] 0 (fun v e=>some (v,e))=some (.data .bool true,{}):=by
  refine Eq.trans (b:=match GA (a0,a1,())with
    |none=>none
    |some y=>some (.data .bool y.1,{})) ?_ (by rw[h])
  kernel_rfl
theorem VQ(os:Os)(started:os.Started)(H:Type)(enc:TypeId×Value→H):
    ReturnsInHanded {} Tryz.checked os 3 .any (fun w args=>(Rows.wholeKeysSpec.pre enc Tryz.prog Tryz.f3 [] false w args∧laidMetH Tryz.prog tY w)∧sizedMet enc Tryz.prog Tryz.f3 (OpenSpec.ofChange Rows.wholeKeysSpec) false w args) (Rows.wholeKeysSpec.post enc Tryz.prog Tryz.f3 false true false false):=by
  refine returnsInHanded_of_change_and (C:=Tryz.checked) (X:=fun w _=>laidMetH Tryz.prog tY w) (fun _ _ _ hh h=>h.of_heap hh) eG started (by kernel_rfl) Tryz.func3
    (ChangeSpec.witness_shaped (enc:=enc) (C:=Tryz.checked) (os:=os) (X:=fun w _=>laidMetH Tryz.prog tY w) false (World.doorLaid Tryz.prog 400 os) #[.agg #[.int .i64 0,.slice none 0 0,.int .i64 0,.int .i64 0],.agg #[.int .i64 0,.slice none 0 0,.slice none 0 0]] 8 rfl (World.shaped_of_RefB (by kernel_rfl) (by kernel_rfl)) (by kernel_rfl) (by kernel_rfl) (by kernel_rfl) (APP os _)) ?_
  intro W base args ds gs before hval0 hW _ _ hL _
  have hval:∀ (j:Nat) t v,Tryz.f3.params[j]? = some t→args[j]? = some v→Value.okWide Tryz.prog W .any base t v:=hval0
  have hW':=hW
  have hlt0:=hW.lt
  obtain⟨p,q,hA0,hV,rfl,hfz,hnd⟩:=hW
  have hA:DataW.TrodAll enc Tryz.prog W 0 (fun _=>true) true Tryz.f3.params.toList args.toList ds p:=hA0
  rw[Tryz.params3]at hA hval
  obtain⟨v0,v1,d0,d1,p0,p1,rfl,rfl,rfl,h0,h1⟩:=trodAll_two hA
  obtain⟨rfl,rfl⟩:=trodVars_none hV
  obtain⟨x0,r0,w0⟩:=qE (hval 0 26 v0 rfl rfl) h0 eD
  obtain⟨x1,r1,w1⟩:=qE (hval 1 30 v1 rfl rfl) h1 eB
  clear hA0 hval0
  simp only[List.append_nil]at hW' hlt0
  have hrep:BD W (below W) (fun _=>none) [] [.data (.prod (.prod (.int .i64) (.prod (.slice (.prod (.int .i64) (.prod (.int .i64) (.prod (.int .i64) (.prod .bool .unit))))) .unit)) (.prod (.int .i64) (.prod (.int .i64) .unit))) x0,.data (.prod (.int .i64) (.prod (.slice (.prod (.int .i64) (.prod (.int .i64) .unit))) (.prod (.slice (.prod (.int .i64) (.prod (.int .i64) (.prod (.int .i64) .unit)))) .unit))) x1] [v0,v1]:=by
    simp only[BD,Rep]
    exact⟨v0,_,rfl,r0,⟨v1,_,rfl,r1,rfl⟩⟩
  refine(fJ Zn (dz x0 x1 (Pl.Zm x0 x1 w0 w1)) hrep (uE hL)).mono fun e W' ⟨he,hb⟩ => ?_
  subst he
  refine⟨_,rfl,eQ (pa:=p0++p1) (pv:=[]) hW' (fun _ _ _=>trodAll_mk1 ⟨1,by kernel_rfl⟩) (fun sp hs => ?_) (fun _ _=>rfl) (by simp) hb (ok_one (by kernel_rfl) rfl (okWide_bool_mk Tryz.underlying4 true))⟩
  exact trodAll_mk2 (Z0 Gf (by kernel_rfl) (of_decide_eq_true (by kernel_rfl)) h0 hb (fun x hx=>hlt0 x (by simp[hx])) (fun x hx=>hs x (by simp[hx]))) (Z0 Gf (by kernel_rfl) (of_decide_eq_true (by kernel_rfl)) h1 hb (fun x hx=>hlt0 x (by simp[hx])) (fun x hx=>hs x (by simp[hx])))
theorem kj:(Tryz.prog.stops==[])=true:=by kernel_rfl
theorem ki:(Tryz.prog.stopKnobs==[])=true:=by kernel_rfl
theorem kg:(Rows.wholeKeysRow.inPlace==Tryz.prog.inPlace 3)=true:=by kernel_rfl
theorem kf:(Rows.wholeKeysRow.unfollowed==Tryz.prog.unfollowed 3)=true:=by kernel_rfl
theorem kZ:(Rows.wholeKeysRow.recurses==Tryz.prog.recurses 3)=true:=by kernel_rfl
theorem kY:(Rows.wholeKeysRow.named==Tryz.prog.varsNamed 3)=true:=by kernel_rfl
theorem kX:(Rows.wholeKeysRow.plainKeys==Tryz.prog.plainKeys)=true:=by kernel_rfl
theorem kW:Tryz.prog.stopsHeard=true:=by kernel_rfl
theorem kV:Tryz.prog.mayEnter=true:=by kernel_rfl
theorem kU:(Rows.wholeKeysRow.lifted==Tryz.prog.liftsFinal)=true:=by kernel_rfl
theorem eJ:(Tryz.prog.make==some Rows.wholeKeysRow.make)=true:=by kernel_rfl
theorem eI:mapsRowed Tryz.prog=true:=by kernel_rfl
theorem kT:joinedFacts Tryz.prog 3 Tryz.f3 Rows.wholeKeysSpec Rows.wholeKeysRow=true:=by
  unfold joinedFacts
  rw[kj,ki,kg,kf,kZ,kY,kX,kW,kV,kU,eJ,eI,Gf]
  kernel_rfl
theorem kS:true=Tryz.pinned.checked.prog.looks []:=by kernel_rfl
theorem kv:false=Rows.wholeKeysRow.goesBy Tryz.pinned.checked.prog:=by kernel_rfl
theorem eE:Rows.WholeKeysSaid:=
  OpenClaim.holds_of_wide 3 Tryz.f3 rfl rfl rfl rfl rfl rfl rfl ⟨rfl,rfl,rfl,rfl,rfl⟩ rfl rfl rfl rfl rfl (by kernel_rfl) Tryz.func3 kT
    (of_decide_eq_true (by kernel_rfl)) (by unfold Func.isWrapper;first|(rw[if_pos (by decide +kernel)];kernel_rfl)|(rw[if_neg (by decide +kernel)];exact⟨rfl,rfl⟩))
    (fun os started H enc _=>VQ os started H enc)
theorem wholeKeys_holds:Rows.WholeKeysCardSaid:=
  Claim7.holds_tied_plain_at .later [] [.data] true (true, "9c7072fe0fda53209aa8852e8e1da5c9ad7236774ccab6c45917d38a8e5d2e26") true
    eE (fun _ h=>by cases h) (by kernel_rfl) (fun _ h=>by cases h) wholeKeys_row_tie rfl ⟨rfl,rfl⟩ (by kernel_rfl) rfl
    (fun f fn hf hfn=>by
      obtain rfl : f = 3 := Option.some.inj ((show Tryz.prog.funcNamed "archipelago/archipelagotop.WholeKeys" = some 3 by kernel_rfl).symm.trans hf) |>.symm
      obtain rfl:fn=Tryz.f3:=(Option.some.inj (Tryz.func3.symm.trans hfn)).symm
      exact⟨kS,fun j t ht=>by
        rw[Tryz.params3]at ht
        have hm:t∈[26,30]:=by simpa using Array.mem_of_getElem? ht
        have hall:([26,30].all fun u => !Tryz.prog.wantsStandIn u)=true:=by kernel_rfl
        exact(show Tryz.prog.wantsStandIn t=false by simpa using List.all_eq_true.1 hall t hm)⟩)
    kv
end Go.Proofs.YthlfbbnpdfjdiaaGreatDoor
end
