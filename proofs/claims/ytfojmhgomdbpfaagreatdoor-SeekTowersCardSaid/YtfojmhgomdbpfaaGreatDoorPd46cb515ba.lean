/- A part of the proofs of this seat: U29k PevClip G29eP1 G29eP2 G29eP3 G29eP4 G29eP5 G29eP6 G29eP7 G29eP8 G29eP9 G29eP10 G29eP11 G29eP12 G29eP13 G29eP14 G29eP. -/
import Derived.Test.YtfojmhgomdbpfaaGreatDoorP94aa55513c
import Derived.Test.YtfojmhgomdbpfaaGreatDoorProg
set_option linter.unusedVariables false
set_option linter.unusedSimpArgs false
set_option linter.unusedSectionVars false
set_option maxRecDepth 100000
section
namespace Go.Pev.Pl
def wL(bs:List Bool):List Int:=bs.map fun b=>if b=true then 1 else 0
theorem Amq(bs:List Bool):WO (wL bs) bs.length:=⟨by unfold wL;simp,fun x hx=>by
 unfold wL at hx
 obtain⟨b,_,rfl⟩:=Ao1.1 hx
 cases b<;>simp⟩
def mkF(bs:List Bool)(k:Nat)(A:List Int):List Int:=if bs.getD k false=true then A.set k 1 else A
theorem AbV(bs:List Bool):(List.range bs.length).foldl (fun A k=>mkF bs k A) (List.replicate bs.length 0)=wL bs:=by
 have hT:=foldI (mkF bs) (fun k A=>A.length=bs.length∧∀ j,A.getD j 0=if j<k∧bs.getD j false=true then 1 else 0) bs.length (List.replicate bs.length 0) (fun k A hk hA=>by
  obtain⟨a1,a2⟩:=hA
  unfold mkF
  by_cases hb:bs.getD k false=true
  ·rw[Aoq hb]
   refine⟨by rw[Apf];exact a1,fun j => ?_⟩
   rw[Aoj,AqM]
   by_cases e:k=j
   ·subst e
    rw[Aoq rfl,Aoq (by omega),Aoq ⟨by omega,hb⟩]
    rfl
   ·rw[Aor e,← Aoj,a2]
    by_cases h2:j<k∧bs.getD j false=true
    ·rw[Aoq h2,Aoq ⟨by omega,h2.2⟩]
    ·rw[Aor h2,Aor (fun q=>h2 ⟨by omega,q.2⟩)]
  ·rw[Aor hb]
   refine⟨a1,fun j => ?_⟩
   rw[a2]
   by_cases h2:j<k∧bs.getD j false=true
   ·rw[Aoq h2,Aoq ⟨by omega,h2.2⟩]
   ·rw[Aor h2,Aor (fun q => ?_)]
    by_cases e:j=k
    ·subst e;exact hb q.2
    ·exact h2 ⟨by omega,q.2⟩) ⟨by simp,fun j=>by
   rw[Aor (by omega),Aoj,AqE]
   split<;>rfl⟩
 refine CX 0 ?_ fun j hj => ?_
 ·rw[hT.1];unfold wL;simp
 ·rw[hT.1]at hj
  rw[hT.2 j]
  unfold wL
  rw[Aoj (l:=List.map _ _),ApV]
  have:bs[j]? = some (bs.getD j false):=by
   rw[Aoj,Aon hj]
   rfl
  rw[this]
  by_cases hb:bs.getD j false=true
  ·rw[Aoq ⟨hj,hb⟩,hb];rfl
  ·have hb':bs.getD j false=false:=by
    cases q:bs.getD j false
    ·rfl
    ·exact absurd q hb
   rw[Aor (fun q=>hb q.2),hb']
   rfl
section
variable {toks H:List Int} {n:Nat} {bs:List Bool}
theorem AXG(hr:Rt toks)(hn:toks.length=n)(hb:bs.length=n)(ho:HO H n):ADm ((toks,(H,(NX H n,()))),bs,())=some (SM (wL bs) H n,0,()):=by
 have ht:=ho.top
 have f2:DM ((bs.length:Nat):Int)=true:=(D5 _).2 (by omega)
 rw[AJ0,SY]
 simp only[AM,f2,Cg,Aop,Aow,Apo,Ia,AFx]
 have e:=Bx (step:=Fw) (fun i (A:List Int)=>(toks,H,NX H n,A,bs,((bs.length:Nat):Int),(i:Int),())) (List.range bs.length) (fun k A=>.inl (mkF bs k A)) (fun A=>.inl (toks,H,NX H n,A,())) (fun k A=>A.length=bs.length) (by rw[Ao0];omega)
  (fun k x A hk hx hA=>by
   refine⟨fun m' h' => ?_,fun r h'=>(by cases h')⟩
   cases h'
   obtain⟨rfl,hkm⟩:=Jo hx
   constructor
   ·unfold Fw
    dsimp only
    rw[AP,Aoi hkm]
    simp only[By (xs:=bs) false hkm,By (xs:=A) 0 (show x<A.length by omega),N5]
    rw[AQ (by omega)]
    unfold mkF
    cases bs.getD x false<;>rfl
   ·unfold mkF
    split
    ·rw[Apf];exact hA
    ·exact hA)
  (fun A _=>by
   rw[Ao0]
   unfold Fw
   dsimp only
   rw[AP,Aog (by omega)]) (List.replicate bs.length 0) (by simp)
 have e':AU Fw many (toks,H,NX H n,List.replicate bs.length (0:Int),bs,((bs.length:Nat):Int),(0:Int),())=_:=e
 have hw:=Amq bs
 rw[hb]at hw
 simp only[e']
 rw[A2 (fun(k:Nat) (A:List Int)=>mkF bs k A),AbV]
 simp only[AWJ hr hn hw ho]
theorem AYK(hr:Rt toks)(hn:toks.length=n)(hb:bs.length=n)(ho:HO H n):AEd ((toks,(H,(NX H n,()))),bs,())=some (SM (wL bs) H n,0,()):=by
 have ht:=ho.top
 have f2:DM ((bs.length:Nat):Int)=true:=(D5 _).2 (by omega)
 rw[AKE,Sj]
 simp only[AM,f2,Cg,Aop,Aow,Apo,Ia,AFx]
 have e:=Bx (step:=F5) (fun i (A:List Int)=>(bs,toks,H,NX H n,A,(i:Int),())) (List.range bs.length) (fun k A=>.inl (mkF bs k A)) (fun A=>.inl (toks,H,NX H n,A,())) (fun k A=>A.length=bs.length) (by rw[Ao0];omega)
  (fun k x A hk hx hA=>by
   refine⟨fun m' h' => ?_,fun r h'=>(by cases h')⟩
   cases h'
   obtain⟨rfl,hkm⟩:=Jo hx
   constructor
   ·unfold F5
    dsimp only
    rw[AM,AP,Aoi hkm]
    simp only[By (xs:=bs) false hkm,By (xs:=A) 0 (show x<A.length by omega),N5]
    rw[AQ (by omega)]
    unfold mkF
    cases bs.getD x false<;>rfl
   ·unfold mkF
    split
    ·rw[Apf];exact hA
    ·exact hA)
  (fun A _=>by
   rw[Ao0]
   unfold F5
   dsimp only
   rw[AM,AP,Aog (by omega)]) (List.replicate bs.length 0) (by simp)
 have e':AU F5 many (bs,toks,H,NX H n,List.replicate bs.length (0:Int),(0:Int),())=_:=e
 have hw:=Amq bs
 rw[hb]at hw
 simp only[e']
 rw[A2 (fun(k:Nat) (A:List Int)=>mkF bs k A),AbV]
 simp only[AUV hr hn hw ho]
end
section
variable {N:Nat} {ts:List Tie} {v k:Int} {tks:List Int} {ofm:List (Int×Int)} {outm:RM} {s:List Int}
noncomputable def hL(s tks:List Int):List Int:=tks.map (htF s)
def bL(N:Nat)(ts:List Tie)(k:Int)(tks:List Int):List Bool:=tks.map (ZS N (Se ts k))
theorem Ajf(h:TR N ts v k tks ofm outm)(hs:U32 s):HO (hL s tks) tks.length:=⟨by unfold hL;simp,List.length_pos_of_mem h.mem,h.rg.1.1,fun x hx=>by
 unfold hL at hx
 obtain⟨t,_,rfl⟩:=Ao1.1 hx
 exact AmH hs t⟩
theorem AkN:(bL N ts k tks).length=tks.length:=by unfold bL;simp
theorem AKn(f:Int→Bool):∀ (xs:List Int) (a:List Bool),xs.foldl (fun a x=>a++[f x]) a=a++xs.map f:=by
 intro xs
 induction xs with
 |nil=>intro a;simp
 |cons x xs ih=>intro a;rw[ApY,ih];simp
abbrev Tw:=(List Int)×(List Int)×(List (List Int))×Unit
noncomputable def twV(s tks:List Int):Tw:=(tks,(hL s tks,(NX (hL s tks) tks.length,())))
noncomputable def smV(N:Nat)(ts:List Tie)(k:Int)(s tks:List Int):List (List Int):=SM (wL (bL N ts k tks)) (hL s tks) tks.length
theorem AVf(h:TR N ts v k tks ofm outm)(hs:U32 s)(hse:seen (((N:Int),(ts,())),v,k,())=some (.inr (.inl ((N:Int),tks,ofm,outm,0,())))):
  QM (((N:Int),(ts,())),v,k,s,())=some (twV s tks,smV N ts k s tks,0,()):=by
 have ho:=Ajf h hs
 have hl:tks.length≤1000:=h.rg.1.1
 have hh:=AHf hs tks hl
 have hb:=Yk h.rg.1 rfl ho
 have e:=Bx (step:=Fm) (fun i (a:List Bool)=>(tks,hL s tks,NX (hL s tks) tks.length,(N:Int),tks,ofm,outm,a,tks,AK tks,(i:Int),())) tks (fun x a=>.inl (a++[ZS N (Se ts k) x])) (fun a=>.inl (tks,hL s tks,NX (hL s tks) tks.length,a,())) (fun i a=>a.length≤i) (by omega)
  (fun i x a hi hx ha=>by
   refine⟨fun m' h' => ?_,fun r h'=>(by cases h')⟩
   cases h'
   constructor
   ·unfold Fm
    dsimp only
    rw[AM,AP,Aoi hi]
    simp only[Ag hx,AYI h]
    rw[AQ (by omega),BK (by simp only[AM,ApX];omega)]
    rfl
   ·simp;omega)
  (fun a _=>by unfold Fm;dsimp only;rw[AM,AP,Aog (by omega)]) [] (Aop _)
 rw[A2 (fun(x:Int) (a:List Bool)=>a++[ZS N (Se ts k) x]),AKn]at e
 have e':AU Fm many (tks,hL s tks,NX (hL s tks) tks.length,(N:Int),tks,ofm,outm,([]:List Bool),tks,AK tks,(0:Int),())=some (.inl (tks,hL s tks,NX (hL s tks) tks.length,bL N ts k tks,())):=e
 have hp:=AXG (bs:=bL N ts k tks) h.rg.1 rfl AkN ho
 unfold hL at hb e' hp
 rw[VZ,NB]
 simp only[hse,Bf,Aov,hh,hb,e',hp]
 rfl
theorem AP8(hg:RG2 N ts)(h:TR N ts v k tks ofm outm)(hs:U32 s)(hv:0≤v∧v<(N:Int))(ht:QJ (((N:Int),(ts,())),v,k,())=some (tks,())):
  Oj (((N:Int),(ts,())),v,k,s,())=some (twV s tks,smV N ts k s tks,0,()):=by
 have ho:=Ajf h hs
 have hl:tks.length≤1000:=h.rg.1.1
 have hh:=AIb hs tks hl
 have hb:=Zj h.rg.1 rfl ho
 have e:=Bx (step:=ET) (fun i (a:List Bool)=>(k,(N:Int),ts,tks,tks,hL s tks,NX (hL s tks) tks.length,a,(i:Int),())) tks (fun x a=>.inl (a++[ZS N (Se ts k) x])) (fun a=>.inl (tks,hL s tks,NX (hL s tks) tks.length,a,())) (fun i a=>a.length≤i) (by omega)
  (fun i x a hi hx ha=>by
   refine⟨fun m' h' => ?_,fun r h'=>(by cases h')⟩
   cases h'
   constructor
   ·unfold ET
    dsimp only
    rw[AM,AP,Aoi hi]
    simp only[Ag hx,ANi N ts hg.ht,Af]
    rw[AQ (by omega),BK (by simp only[AM,ApX];omega),BK (by simp only[AM,ApX];omega)]
    unfold ZS
    by_cases h1:x<(N:Int)
    ·rw[Aoi h1,Aq1]
     rfl
    ·rw[Aog h1,Aqt]
     rfl
   ·simp;omega)
  (fun a _=>by unfold ET;dsimp only;rw[AM,AP,Aog (by omega)]) [] (Aop _)
 rw[A2 (fun(x:Int) (a:List Bool)=>a++[ZS N (Se ts k) x]),AKn]at e
 have e':AU ET many (k,(N:Int),ts,tks,tks,hL s tks,NX (hL s tks) tks.length,([]:List Bool),(0:Int),())=some (.inl (tks,hL s tks,NX (hL s tks) tks.length,bL N ts k tks,())):=e
 have hp:=AYK (bs:=bL N ts k tks) h.rg.1 rfl AkN ho
 unfold hL at hb e' hp
 rw[QI,KQ]
 simp only[AkQ hg v hv,Bf,Aov,ht,hh,hb,e',hp]
 rfl
end
def twZ:Tw:=([],([],([],())))
section
variable {n:Int} {ts:List Tie} {v k e:Int}
theorem AVh(he:e=1∨e=10)(h:seen ((n,(ts,())),v,k,())=some (.inl (e,())))(s:List Int):QM ((n,(ts,())),v,k,s,())=some (twZ,[],e,()):=by
 rw[VZ,NB];simp only[h,Ajx he,ApR];rfl
theorem AQA(he:e=1∨e=10)(h:HX ((n,(ts,())),v,())=some (e,()))(s:List Int):Oj ((n,(ts,())),v,k,s,())=some (twZ,[],e,()):=by
 rw[QI,KQ];simp only[h,Ajx he,ApR];rfl
end
theorem An5{w H:List Int}{n:Nat}:(SM w H n).length=n:=by unfold SM;simp
theorem An4{w H:List Int}{n:Nat}(ho:HO H n){x:List Int}(hx:x∈SM w H n):x.length≤8:=by
 unfold SM at hx
 obtain⟨i,hi,rfl⟩:=Ao1.1 hx
 rw[Apa]at hi
 have:=ho.hAt hi
 unfold smL
 rw[Apl,Ao0]
 omega
theorem Am5{s:List Int}(h:wfD (.slice (.int .u32)) s):U32 s:=by
 intro x hx
 have:=h
 simp only[wfD]at this
 have:=this.2 x hx
 exact this
theorem AAH(g:GT)(th s:List Int){P Q:Prop}(_:P)(_:Q)(h2:wfD (.slice (.int .u32)) s):Fq (g,th,s,())=some (true,()):=by
 have hs:=Am5 h2
 obtain⟨n,ts,⟨⟩⟩:=g
 rw[Pp,HQ]
 simp only[APH,Aov]
 rcases ATl n ts with g1|⟨g1,g2,g3⟩
 ·simp only[g1]
 simp only[g1]
 generalize Ac th 0 (0:Int)=v
 generalize Ac th 1 (0:Int)=k
 rcases AhN n ts (by omega) v k with⟨e,he,hse,ha⟩|⟨N,tks,ofm,outm,rfl,hg,hv,hse,ht,h⟩
 ·have he':e=1∨e=10:=he.imp id And.left
  have h1:=Ln [] [] (by simp)
  have h3:=JD [] [] (by simp) (by simp)
  have h4:Qb (twZ,twZ,())=some (true,()):=by
   rw[Vu,NJ]
   simp only[twZ,h1,Aow,h3]
  unfold twZ at h4
  simp only[AVh he' hse,AQA he' ha,twZ,h4,h3,Aow,Bf]
 ·have ho:=Ajf h hs
  have hl:tks.length≤1000:=h.rg.1.1
  have h3:=JD (smV N ts k s tks) (smV N ts k s tks) (by unfold smV;rw[An5];omega) (fun x hx=>by have:=An4 ho hx;omega)
  rw[Aoi rfl]at h3
  have h4:=Yv (toks:=tks) rfl ho
  simp only[AVf h hs hse,AP8 hg h hs hv ht,twV,h4,h3,Bf]
end Go.Pev.Pl
end
section
namespace Go.Pev
open Go.RowKit
structure An7(P:Program)(fn:Func)(T e:TypeId)(n:Nat):Prop where
 body:fn.body=some (.seq (.region 0 #[Bc fn 0 0] false) (.seq (.region 1 #[Bc fn 1 0,Bc fn 1 1,Bc fn 1 2,Bc fn 1 3,Bc fn 1 4,Bc fn 1 5,Bc fn 1 6] false) .ret))
 nt:fn.ntmps=9
 res:fn.results = #[.tmp 2]
 d:(Bc fn 0 0).dst=some 2∧(Bc fn 1 0).dst=some 3∧(Bc fn 1 1).dst=some 4∧(Bc fn 1 2).dst=some 5∧(Bc fn 1 3).dst=some 6∧(Bc fn 1 4).dst=some 7∧(Bc fn 1 5).dst=some 8∧(Bc fn 1 6).dst=some 2
 g:(Bc fn 0 0).guard=none∧(Bc fn 1 0).guard=none∧(Bc fn 1 1).guard=none∧(Bc fn 1 2).guard=none∧(Bc fn 1 3).guard=none∧(Bc fn 1 4).guard=none∧(Bc fn 1 5).guard=none∧(Bc fn 1 6).guard=none
 o00:(Bc fn 0 0).op = .assign (.const (.slice none 0 0))
 o10:(Bc fn 1 0).op = .move (.tmp 0)
 o11:(Bc fn 1 1).op = .move (.tmp 0)
 o12:(Bc fn 1 2).op = .call { callee:=.builtin .len,args:=#[.tmp 4],argTypes:=#[T] }
 o13:(Bc fn 1 3).op = .move (.tmp 0)
 o14:(Bc fn 1 4).op = .call { callee:=.builtin .len,args:=#[.tmp 6],argTypes:=#[T] }
 o15:(Bc fn 1 5).op = .slice T (.tmp 3) none (some (.tmp 5)) (some (.tmp 7))
 o16:(Bc fn 1 6).op = .assign (.tmp 8)
 sl:P.underlying T=some (.slice e)
 sz:BJ P e=some n
section
variable {P:Program} {g:FuncId} {fn:Func} {T e:TypeId} {n:Nat}
end
end Go.Pev
end
section
namespace Go.Pev
open Go.Proofs
noncomputable section
abbrev AE9:Hints:={ loop:=fun n=>match n with|0=>AZ 0 26 AKO AKN E7|_=>fun _ _ _=>none,fp:=fun n=>match n with|6=>[[],[],[],[],[],[],[],[],[]]|_=>[] }
theorem AN0:∀ v,E7 v=roundOf Tryz.prog Env.none AE9 1 0 26 (AB Tryz.f26 0) AKO AKN v:=by
 rintro⟨a0,a1,a2,⟨⟩⟩
 kernel_rfl
theorem Ae7:AD (AB Tryz.f26 0) 1=[]:=by kernel_rfl
theorem Ae8:AY Tryz.prog 0 (.loop (AB Tryz.f26 0)) (AE9.loop 0):=AT Env.ANT (AN0) (AA Ae7 trivial)
theorem AYn:∀ v,Sp v=AL 0 Tryz.prog Env.none AE9 Tryz.f26 AE8 AE7 AE6 v:=by
 rintro⟨a0,a1,⟨⟩⟩
 kernel_rfl
theorem Ai8:AD (AR Tryz.f26) 0=[(0,AB Tryz.f26 0)]:=by kernel_rfl
theorem ATJ:AN Tryz.prog 26 (AF 0 2 AE8 AE7 AE6 IN):=AG Env.ANT Tryz.func26 (by kernel_rfl) (by kernel_rfl) rfl (fun v=>(AKP v).trans (AYn v)) (AA Ai8 ⟨Ae8,trivial⟩)
def AHU:Env:=Env.none.ext 26 true true (AF 0 2 AE8 AE7 AE6 IN)
theorem Z4:AW Tryz.prog AHU:=Env.Aa Env.ANT ATJ (fun _=>AI rfl rfl) (fun _=>AH rfl rfl)
abbrev Age:Hints:={  }
theorem AVJ:∀ v,R2 v=AL 0 Tryz.prog AHU Age Tryz.f109 ABj ABi ABh v:=by
 rintro⟨a0,⟨⟩⟩
 kernel_rfl
theorem Agd:AD (AR Tryz.f109) 0=[]:=by kernel_rfl
theorem AP1:AN Tryz.prog 109 (AF 0 1 ABj ABi ABh M9):=AG Z4 Tryz.func109 (by kernel_rfl) (by kernel_rfl) rfl (fun v=>(AJB v).trans (AVJ v)) (AA Agd trivial)
def AG8:Env:=AHU.ext 109 true true (AF 0 1 ABj ABi ABh M9)
theorem Zq:AW Tryz.prog AG8:=Env.Aa Z4 AP1 (fun _=>AI rfl rfl) (fun _=>AH rfl rfl)
abbrev AoC:Hints:={  }
theorem Akx:∀ v,Aai v=AL 0 Tryz.prog AG8 AoC Tryz.f85 Ag3 Ag2 Ag1 v:=by
 rintro⟨a0,a1,⟨⟩⟩
 kernel_rfl
theorem AoB:AD (AR Tryz.f85) 0=[]:=by kernel_rfl
theorem Ag0:AN Tryz.prog 85 (AF 0 2 Ag3 Ag2 Ag1 tin):=AG Zq Tryz.func85 (by kernel_rfl) (by kernel_rfl) rfl (fun v=>(Ag4 v).trans (Akx v)) (AA AoB trivial)
def Akd:Env:=AG8.ext 85 true true (AF 0 2 Ag3 Ag2 Ag1 tin)
theorem AUv:AW Tryz.prog Akd:=Env.Aa Zq Ag0 (fun _=>AI rfl rfl) (fun _=>AH rfl rfl)
abbrev Am9:Hints:={  }
theorem Ag8:∀ v,ALt v=AL 0 Tryz.prog Akd Am9 Tryz.f153 AVd AVc AVb v:=by
 rintro⟨a0,a1,a2,⟨⟩⟩
 kernel_rfl
theorem Am8:AD (AR Tryz.f153) 0=[]:=by kernel_rfl
theorem Acw:AN Tryz.prog 153 (AF 0 3 AVd AVc AVb Acx):=AG AUv Tryz.func153 (by kernel_rfl) (by kernel_rfl) rfl (fun v=>(Aaj v).trans (Ag8 v)) (AA Am8 trivial)
def AaS:Env:=Akd.ext 153 true true (AF 0 3 AVd AVc AVb Acx)
theorem AKv:AW Tryz.prog AaS:=Env.Aa AUv Acw (fun _=>AI rfl rfl) (fun _=>AH rfl rfl)
abbrev Agc:Hints:={ fp:=fun n=>match n with|5=>[[],[],[],[],[],[],[],[],[]]|_=>[] }
theorem AVI:∀ v,R1 v=AL 0 Tryz.prog AaS Agc Tryz.f132 ABf ABe ABd v:=by
 rintro⟨a0,a1,⟨⟩⟩
 kernel_rfl
theorem Agb:AD (AR Tryz.f132) 0=[]:=by kernel_rfl
theorem AP0:AN Tryz.prog 132 (AF 0 2 ABf ABe ABd ABg):=AG AKv Tryz.func132 (by kernel_rfl) (by kernel_rfl) rfl (fun v=>(AJA v).trans (AVI v)) (AA Agb trivial)
def Tl:Env:=AaS.ext 132 true true (AF 0 2 ABf ABe ABd ABg)
theorem OO:AW Tryz.prog Tl:=Env.Aa AKv AP0 (fun _=>AI rfl rfl) (fun _=>AH rfl rfl)
abbrev ALo:Hints:={ loop:=fun n=>match n with|0=>AZ 0 25 AQK AQJ H0|_=>fun _ _ _=>none }
theorem AQI:∀ v,H0 v=roundOf Tryz.prog Tl ALo 1 0 25 (AB Tryz.f107 0) AQK AQJ v:=by
 rintro⟨a0,a1,a2,a3,a4,⟨⟩⟩
 kernel_rfl
theorem Agy:AD (AB Tryz.f107 0) 1=[]:=by kernel_rfl
theorem Agz:AY Tryz.prog 0 (.loop (AB Tryz.f107 0)) (ALo.loop 0):=AT OO (AQI) (AA Agy trivial)
theorem Acs:∀ v,AAo v=AL 0 Tryz.prog Tl ALo Tryz.f107 ALn ALm ALl v:=by
 rintro⟨a0,⟨⟩⟩
 kernel_rfl
theorem Aku:AD (AR Tryz.f107) 0=[(0,AB Tryz.f107 0)]:=by kernel_rfl
theorem AVW:AN Tryz.prog 107 (AF 0 1 ALn ALm ALl AQM):=AG OO Tryz.func107 (by kernel_rfl) (by kernel_rfl) rfl (fun v=>(AQL v).trans (Acs v)) (AA Aku ⟨Agz,trivial⟩)
def AA8:Env:=Tl.ext 107 true true (AF 0 1 ALn ALm ALl AQM)
theorem Rc:AW Tryz.prog AA8:=Env.Aa OO AVW (fun _=>AI rfl rfl) (fun _=>AH rfl rfl)
abbrev AFG:Hints:={ loop:=fun n=>match n with|0=>AZ 0 19 AKS AKR F9|_=>fun _ _ _=>none }
theorem AN1:∀ v,F9 v=roundOf Tryz.prog AA8 AFG 1 0 19 (AB Tryz.f134 0) AKS AKR v:=by
 rintro⟨a0,a1,a2,a3,⟨⟩⟩
 kernel_rfl
theorem AfB:AD (AB Tryz.f134 0) 1=[]:=by kernel_rfl
theorem AfC:AY Tryz.prog 0 (.loop (AB Tryz.f134 0)) (AFG.loop 0):=AT Rc (AN1) (AA AfB trivial)
theorem AYy:∀ v,Sr v=AL 0 Tryz.prog AA8 AFG Tryz.f134 AFF AFE AFD v:=by
 rintro⟨a0,a1,⟨⟩⟩
 kernel_rfl
theorem AjH:AD (AR Tryz.f134) 0=[(0,AB Tryz.f134 0)]:=by kernel_rfl
theorem ATK:AN Tryz.prog 134 (AF 0 2 AFF AFE AFD Q1):=AG Rc Tryz.func134 (by kernel_rfl) (by kernel_rfl) rfl (fun v=>(AKT v).trans (AYy v)) (AA AjH ⟨AfC,trivial⟩)
def AHV:Env:=AA8.ext 134 true true (AF 0 2 AFF AFE AFD Q1)
theorem Z5:AW Tryz.prog AHV:=Env.Aa Rc ATK (fun _=>AI rfl rfl) (fun _=>AH rfl rfl)
abbrev AUC:Hints:={  }
theorem AIm:∀ v,JX v=AL 0 Tryz.prog AHV AUC Tryz.f114 OA N9 N8 v:=by
 rintro⟨a0,a1,⟨⟩⟩
 kernel_rfl
theorem AUB:AD (AR Tryz.f114) 0=[]:=by kernel_rfl
theorem AF5:AN Tryz.prog 114 (AF 0 2 OA N9 N8 GM):=AG Z5 Tryz.func114 (by kernel_rfl) (by kernel_rfl) rfl (fun v=>(TO v).trans (AIm v)) (AA AUB trivial)
def Ji:Env:=AHV.ext 114 true true (AF 0 2 OA N9 N8 GM)
theorem Iu:AW Tryz.prog Ji:=Env.Aa Z5 AF5 (fun _=>AI rfl rfl) (fun _=>AH rfl rfl)
abbrev AX9:Hints:={ loop:=fun n=>match n with|0=>AZ 0 25 AbX AbW LZ|_=>fun _ _ _=>none }
theorem AX5:∀ v,LZ v=roundOf Tryz.prog Ji AX9 1 0 25 (AB Tryz.f110 0) AbX AbW v:=by
 rintro⟨a0,a1,a2,⟨⟩⟩
 kernel_rfl
theorem Alu:AD (AB Tryz.f110 0) 1=[]:=by kernel_rfl
theorem Alv:AY Tryz.prog 0 (.loop (AB Tryz.f110 0)) (AX9.loop 0):=AT Iu (AX5) (AA Alu trivial)
theorem Aiu:∀ v,ANW v=AL 0 Tryz.prog Ji AX9 Tryz.f110 AX8 AX7 AX6 v:=by
 rintro⟨a0,⟨⟩⟩
 kernel_rfl
theorem Ani:AD (AR Tryz.f110) 0=[(0,AB Tryz.f110 0)]:=by kernel_rfl
theorem AeX:AN Tryz.prog 110 (AF 0 1 AX8 AX7 AX6 AeY):=AG Iu Tryz.func110 (by kernel_rfl) (by kernel_rfl) rfl (fun v=>(AbY v).trans (Aiu v)) (AA Ani ⟨Alv,trivial⟩)
def Aaa:Env:=Ji.ext 110 true true (AF 0 1 AX8 AX7 AX6 AeY)
theorem AK3:AW Tryz.prog Aaa:=Env.Aa Iu AeX (fun _=>AI rfl rfl) (fun _=>AH rfl rfl)
abbrev AmM:Hints:={  }
theorem AfR:∀ v,AA1 v=AL 0 Tryz.prog Aaa AmM Tryz.f161 AOL AOK AOJ v:=by
 rintro⟨a0,⟨⟩⟩
 kernel_rfl
theorem AmL:AD (AR Tryz.f161) 0=[]:=by kernel_rfl
theorem AY7:AN Tryz.prog 161 (AF 0 2 AOL AOK AOJ ATk):=AG AK3 Tryz.func161 (by kernel_rfl) (by kernel_rfl) rfl (fun v=>(ATj v).trans (AfR v)) (AA AmL trivial)
def UK:Env:=Aaa.ext 161 false true (AF 0 2 AOL AOK AOJ ATk)
theorem Mh:AW Tryz.prog UK:=Env.Aa AK3 AY7 ((by simp)) (fun _=>AH rfl rfl)
abbrev Kt:Hints:={ loop:=fun n=>match n with|0=>AZ 0 36 AGE AGC Ef|1=>AZ 0 36 AGD AGB Ee|_=>fun _ _ _=>none }
theorem AIo:∀ v,Ee v=roundOf Tryz.prog UK Kt 2 0 36 (AB Tryz.f152 1) AGD AGB v:=by
 rintro⟨a0,a1,a2,a3,⟨⟩⟩
 kernel_rfl
theorem AZe:AD (AB Tryz.f152 1) 2=[]:=by kernel_rfl
theorem AZg:AY Tryz.prog 0 (.loop (AB Tryz.f152 1)) (Kt.loop 1):=AT Mh (AIo) (AA AZe trivial)
theorem AIp:∀ v,Ef v=roundOf Tryz.prog UK Kt 1 0 36 (AB Tryz.f152 0) AGE AGC v:=by
 rintro⟨a0,a1,a2,a3,a4,⟨⟩⟩
 kernel_rfl
theorem AZf:AD (AB Tryz.f152 0) 1=[]:=by kernel_rfl
theorem AZh:AY Tryz.prog 0 (.loop (AB Tryz.f152 0)) (Kt.loop 0):=AT Mh (AIp) (AA AZf trivial)
theorem AUF:∀ v,PG v=AL 0 Tryz.prog UK Kt Tryz.f152 Xp Xo Xn v:=by
 rintro⟨a0,⟨⟩⟩
 kernel_rfl
theorem Afl:AD (AR Tryz.f152) 0=[(0,AB Tryz.f152 0),(1,AB Tryz.f152 1)]:=by kernel_rfl
theorem AOf:AN Tryz.prog 152 (AF 0 1 Xp Xo Xn JY):=AG Mh Tryz.func152 (by kernel_rfl) (by kernel_rfl) rfl (fun v=>(AGF v).trans (AUF v)) (AA Afl ⟨AZh,AZg,trivial⟩)
def Yd:Env:=UK.ext 152 true true (AF 0 1 Xp Xo Xn JY)
theorem UP:AW Tryz.prog Yd:=Env.Aa Mh AOf (fun _=>AI rfl rfl) (fun _=>AH rfl rfl)
theorem Ada:Tryz.f96.body.isSome=true:=by kernel_rfl
theorem AdZ : (Tryz.f96.name == "runtime.NumGoroutine") = false := by kernel_rfl
theorem AdY:loops (AR Tryz.f96)=0:=by kernel_rfl
def Jf:Env:=Yd.ext 96 false false (DL Tryz.prog Yd {} Tryz.f96)
theorem Ir:AW Tryz.prog Jf:=Env.Aa UP (Ct UP Tryz.func96 Ada AdZ AdY) (by simp) (by simp)
end
end Go.Pev
end
section
namespace Go.Pev
open Go.Proofs
noncomputable section
abbrev IW:Hints:={ loop:=fun n=>match n with|0=>AZ 0 19 Mm Ml B5|_=>fun _ _ _=>none }
theorem Q4:∀ v,B5 v=roundOf Tryz.prog Jf IW 1 0 19 (AB Tryz.f91 0) Mm Ml v:=by
 rintro⟨a0,a1,a2,⟨⟩⟩
 kernel_rfl
theorem AAO:AD (AB Tryz.f91 0) 1=[]:=by kernel_rfl
theorem AAP:AY Tryz.prog 0 (.loop (AB Tryz.f91 0)) (IW.loop 0):=AT Ir (Q4) (AA AAO trivial)
theorem XR:∀ v,FO v=AL 0 Tryz.prog Jf IW Tryz.f91 IV IU IT v:=by
 rintro⟨a0,⟨⟩⟩
 kernel_rfl
theorem AFR:AD (AR Tryz.f91) 0=[(0,AB Tryz.f91 0)]:=by kernel_rfl
theorem S3:AN Tryz.prog 91 (AF 0 2 IV IU IT HW):=AG Ir Tryz.func91 (by kernel_rfl) (by kernel_rfl) rfl (fun v=>(Mn v).trans (XR v)) (AA AFR ⟨AAP,trivial⟩)
def It:Env:=Jf.CD 91 1 96 (AF 0 2 IV IU IT HW)
theorem Jh:AW Tryz.prog It:=Env.Az Ir S3 (AH rfl rfl)
abbrev AAZ:Hints:={  }
theorem TV:∀ v,EN v=AL 0 Tryz.prog It AAZ Tryz.f73 HD HC HB v:=by
 rintro⟨a0,⟨⟩⟩
 kernel_rfl
theorem AAY:AD (AR Tryz.f73) 0=[]:=by kernel_rfl
theorem RP:AN Tryz.prog 73 (AF 0 2 HD HC HB EH):=AG Jh Tryz.func73 (by kernel_rfl) (by kernel_rfl) rfl (fun v=>(Ks v).trans (TV v)) (AA AAY trivial)
def EO:Env:=It.CD 73 1 96 (AF 0 2 HD HC HB EH)
theorem Ep:AW Tryz.prog EO:=Env.Az Jh RP (AH rfl rfl)
abbrev AXr:Hints:={ loop:=fun n=>match n with|0=>AZ 0 23 AbN AbM LU|_=>fun _ _ _=>none }
theorem AXn:∀ v,LU v=roundOf Tryz.prog EO AXr 1 0 23 (AB Tryz.f97 0) AbN AbM v:=by
 rintro⟨a0,a1,a2,a3,a4,⟨⟩⟩
 kernel_rfl
theorem Alo:AD (AB Tryz.f97 0) 1=[]:=by kernel_rfl
theorem Alp:AY Tryz.prog 0 (.loop (AB Tryz.f97 0)) (AXr.loop 0):=AT Ep (AXn) (AA Alo trivial)
theorem Ail:∀ v,ANN v=AL 0 Tryz.prog EO AXr Tryz.f97 AXq AXp AXo v:=by
 rintro⟨a0,⟨⟩⟩
 kernel_rfl
theorem AnY:AD (AR Tryz.f97) 0=[(0,AB Tryz.f97 0)]:=by kernel_rfl
theorem AeL:AN Tryz.prog 97 (AF 0 1 AXq AXp AXo once):=AG Ep Tryz.func97 (by kernel_rfl) (by kernel_rfl) rfl (fun v=>(AbO v).trans (Ail v)) (AA AnY ⟨Alp,trivial⟩)
def AaY:Env:=EO.ext 97 true true (AF 0 1 AXq AXp AXo once)
theorem AK1:AW Tryz.prog AaY:=Env.Aa Ep AeL (fun _=>AI rfl rfl) (fun _=>AH rfl rfl)
abbrev Ahi:Hints:={  }
theorem AWP:∀ v,SH v=AL 0 Tryz.prog AaY Ahi Tryz.f72 ACu ACt ACs v:=by
 rintro⟨a0,⟨⟩⟩
 kernel_rfl
theorem Ahh:AD (AR Tryz.f72) 0=[]:=by kernel_rfl
theorem AQx:AN Tryz.prog 72 (AF 0 1 ACu ACt ACs LM):=AG AK1 Tryz.func72 (by kernel_rfl) (by kernel_rfl) rfl (fun v=>(AJm v).trans (AWP v)) (AA Ahh trivial)
def AHI:Env:=AaY.ext 72 true true (AF 0 1 ACu ACt ACs LM)
theorem Zx:AW Tryz.prog AHI:=Env.Aa AK1 AQx (fun _=>AI rfl rfl) (fun _=>AH rfl rfl)
abbrev Aga:Hints:={ fp:=fun n=>match n with|1=>[[],[],[],[],[],[],[],[0],[]]|_=>[] }
theorem AVG:∀ v,R0 v=AL 0 Tryz.prog AHI Aga Tryz.f160 ABc ABb ABa v:=by
 rintro⟨a0,a1,⟨⟩⟩
 kernel_rfl
theorem AgZ:AD (AR Tryz.f160) 0=[]:=by kernel_rfl
theorem APz:AN Tryz.prog 160 (AF 0 2 ABc ABb ABa VH):=AG Zx Tryz.func160 (by kernel_rfl) (by kernel_rfl) rfl (fun v=>(AI9 v).trans (AVG v)) (AA AgZ trivial)
def Tk:Env:=AHI.ext 160 true true (AF 0 2 ABc ABb ABa VH)
theorem ON:AW Tryz.prog Tk:=Env.Aa Zx APz (fun _=>AI rfl rfl) (fun _=>AH rfl rfl)
abbrev ADU:Hints:={ loop:=fun n=>match n with|0=>AZ 0 29 AJw AJv Ez|_=>fun _ _ _=>none }
theorem AMv:∀ v,Ez v=roundOf Tryz.prog Tk ADU 1 0 29 (AB Tryz.f159 0) AJw AJv v:=by
 rintro⟨a0,a1,a2,a3,a4,⟨⟩⟩
 kernel_rfl
theorem Adt:AD (AB Tryz.f159 0) 1=[]:=by kernel_rfl
theorem Adu:AY Tryz.prog 0 (.loop (AB Tryz.f159 0)) (ADU.loop 0):=AT ON (AMv) (AA Adt trivial)
theorem AW4:∀ v,SX v=AL 0 Tryz.prog Tk ADU Tryz.f159 ADT ADS ADR v:=by
 rintro⟨a0,a1,⟨⟩⟩
 kernel_rfl
theorem Ah1:AD (AR Tryz.f159) 0=[(0,AB Tryz.f159 0)]:=by kernel_rfl
theorem ARN:AN Tryz.prog 159 (AF 0 2 ADT ADS ADR places):=AG ON Tryz.func159 (by kernel_rfl) (by kernel_rfl) rfl (fun v=>(AJx v).trans (AW4 v)) (AA Ah1 ⟨Adu,trivial⟩)
def AHM:Env:=Tk.ext 159 true true (AF 0 2 ADT ADS ADR places)
theorem Zz:AW Tryz.prog AHM:=Env.Aa ON ARN (fun _=>AI rfl rfl) (fun _=>AH rfl rfl)
abbrev AlQ:Hints:={  }
theorem Adi:∀ v,AAt v=AL 0 Tryz.prog AHM AlQ Tryz.f151 AMh AMg AMf v:=by
 rintro⟨a0,a1,⟨⟩⟩
 kernel_rfl
theorem AlP:AD (AR Tryz.f151) 0=[]:=by kernel_rfl
theorem AWe:AN Tryz.prog 151 (AF 0 2 AMh AMg AMf AJp):=AG Zz Tryz.func151 (by kernel_rfl) (by kernel_rfl) rfl (fun v=>(ARC v).trans (Adi v)) (AA AlP trivial)
def APS:Env:=AHM.ext 151 true true (AF 0 2 AMh AMg AMf AJp)
theorem AHK:AW Tryz.prog APS:=Env.Aa Zz AWe (fun _=>AI rfl rfl) (fun _=>AH rfl rfl)
abbrev Ahk:Hints:={  }
theorem AWR:∀ v,SJ v=AL 0 Tryz.prog APS Ahk Tryz.f162 ACx ACw ACv v:=by
 rintro⟨a0,⟨⟩⟩
 kernel_rfl
theorem Ahj:AD (AR Tryz.f162) 0=[]:=by kernel_rfl
theorem AQy:AN Tryz.prog 162 (AF 0 1 ACx ACw ACv ACy):=AG AHK Tryz.func162 (by kernel_rfl) (by kernel_rfl) rfl (fun v=>(AJn v).trans (AWR v)) (AA Ahj trivial)
def AHJ:Env:=APS.ext 162 true true (AF 0 1 ACx ACw ACv ACy)
theorem Zy:AW Tryz.prog AHJ:=Env.Aa AHK AQy (fun _=>AI rfl rfl) (fun _=>AH rfl rfl)
theorem Acm:Tryz.f113.body.isSome=true:=by kernel_rfl
theorem Acl : (Tryz.f113.name == "runtime.NumGoroutine") = false := by kernel_rfl
theorem Ack:loops (AR Tryz.f113)=0:=by kernel_rfl
def Je:Env:=AHJ.ext 113 false false (DL Tryz.prog AHJ {} Tryz.f113)
theorem Ip:AW Tryz.prog Je:=Env.Aa Zy (Ct Zy Tryz.func113 Acm Acl Ack) (by simp) (by simp)
abbrev GD:Hints:={ loop:=fun n=>match n with|0=>AZ 1 19 JG JF Bj|_=>fun _ _ _=>none }
theorem Nk:∀ v,Bj v=roundOf Tryz.prog Je GD 1 1 19 (AB Tryz.f112 0) JG JF v:=by
 rintro⟨a0,a1,a2,a3,⟨⟩⟩
 kernel_rfl
theorem Sv:AD (AB Tryz.f112 0) 1=[]:=by kernel_rfl
theorem Sw:AY Tryz.prog 1 (.loop (AB Tryz.f112 0)) (GD.loop 0):=AT Ip (Nk) (AA Sv trivial)
theorem Q2:∀ v,D2 v=AL 1 Tryz.prog Je GD Tryz.f112 GC GB GA v:=by
 rintro⟨a0,a1,⟨⟩⟩
 kernel_rfl
theorem XM:AD (AR Tryz.f112) 0=[(0,AB Tryz.f112 0)]:=by kernel_rfl
theorem Pf:AN Tryz.prog 112 (AF 1 2 GC GB GA FM):=AG Ip Tryz.func112 (by kernel_rfl) (by kernel_rfl) rfl (fun v=>(JH v).trans (Q2 v)) (AA XM ⟨Sw,trivial⟩)
def GY:Env:=Je.CD 112 1 113 (AF 1 2 GC GB GA FM)
theorem HK:AW Tryz.prog GY:=Env.Az Ip Pf (AH rfl rfl)
abbrev Agm:Hints:={  }
theorem AVR:∀ v,R6 v=AL 0 Tryz.prog GY Agm Tryz.f87 ABz ABy ABx v:=by
 rintro⟨a0,a1,⟨⟩⟩
 kernel_rfl
theorem Agl:AD (AR Tryz.f87) 0=[]:=by kernel_rfl
theorem AP7:AN Tryz.prog 87 (AF 0 2 ABz ABy ABx QH):=AG HK Tryz.func87 (by kernel_rfl) (by kernel_rfl) rfl (fun v=>(AJQ v).trans (AVR v)) (AA Agl trivial)
def AHA:Env:=GY.ext 87 true true (AF 0 2 ABz ABy ABx QH)
theorem Zs:AW Tryz.prog AHA:=Env.Aa HK AP7 (fun _=>AI rfl rfl) (fun _=>AH rfl rfl)
theorem Amo:Tryz.f133.body.isSome=true:=by kernel_rfl
theorem Amn : (Tryz.f133.name == "runtime.NumGoroutine") = false := by kernel_rfl
theorem Amm:loops (AR Tryz.f133)=0:=by kernel_rfl
def Pb:Env:=AHA.ext 133 false false (DL Tryz.prog AHA {} Tryz.f133)
theorem Mk:AW Tryz.prog Pb:=Env.Aa Zs (Ct Zs Tryz.func133 Amo Amn Amm) (by simp) (by simp)
end
end Go.Pev
end
section
namespace Go.Pev
open Go.Proofs
noncomputable section
abbrev AZC:Hints:={ loop:=fun n=>match n with|0=>AZ 0 107 Abv Abu JP|_=>fun _ _ _=>none,fp:=fun n=>match n with|8=>[[],[],[],[],[],[],[],[],[1000003],[],[],[],[],[],[],[],[],[0],[0],[0],[],[0],[0],[0],[2,26],[],[2,26],[2,26],[],[],[],[],[]]|13=>[[],[0],[0],[0],[2],[],[],[],[0],[0],[0],[6],[],[0],[0],[0],[4],[],[],[]]|3=>[[],[],[],[],[],[],[],[],[11],[],[],[],[8,10,12],[]]|_=>[] }
theorem AY8:∀ v,JP v=roundOf Tryz.prog Pb AZC 1 0 107 (AB Tryz.f111 0) Abv Abu v:=by
 rintro⟨a0,a1,a2,a3,a4,a5,a6,⟨⟩⟩
 kernel_rfl
theorem AmN:AD (AB Tryz.f111 0) 1=[]:=by kernel_rfl
theorem AmO:AY Tryz.prog 0 (.loop (AB Tryz.f111 0)) (AZC.loop 0):=AT Mk (AY8) (AA AmN trivial)
theorem Aji:∀ v,AON v=AL 0 Tryz.prog Pb AZC Tryz.f111 AZB AZA AY9 v:=by
 rintro⟨a0,a1,⟨⟩⟩
 kernel_rfl
theorem Ans:AD (AR Tryz.f111) 0=[(0,AB Tryz.f111 0)]:=by kernel_rfl
theorem AfX:AN Tryz.prog 111 (AF 0 2 AZB AZA AY9 goes):=AG Mk Tryz.func111 (by kernel_rfl) (by kernel_rfl) rfl (fun v=>(Abw v).trans (Aji v)) (AA Ans ⟨AmO,trivial⟩)
def Ya:Env:=Pb.ext 111 true true (AF 0 2 AZB AZA AY9 goes)
theorem K4:AW Tryz.prog Ya:=Env.Aa Mk AfX (fun _=>AI rfl rfl) (fun _=>AH rfl rfl)
abbrev Hw:Hints:={ loop:=fun n=>match n with|0=>AZ 0 87 AJH AJE Du|1=>AZ 0 87 AJG AJD Dt|2=>AZ 0 87 AJF AJC Es|_=>fun _ _ _=>none,fp:=fun n=>match n with|8=>[[],[],[],[],[],[],[],[],[],[],[],[],[],[],[],[],[],[],[],[],[],[],[],[],[0],[0],[],[],[],[]]|_=>[] }
theorem ALT:∀ v,Es v=roundOf Tryz.prog Ya Hw 3 0 87 (AB Tryz.f86 2) AJF AJC v:=by
 rintro⟨a0,a1,a2,⟨⟩⟩
 kernel_rfl
theorem AcV:AD (AB Tryz.f86 2) 3=[]:=by kernel_rfl
theorem AcY:AY Tryz.prog 0 (.loop (AB Tryz.f86 2)) (Hw.loop 2):=AT K4 (ALT) (AA AcV trivial)
theorem ALU:∀ v,Dt v=roundOf Tryz.prog Ya Hw 2 0 87 (AB Tryz.f86 1) AJG AJD v:=by
 rintro⟨a0,a1,a2,a3,a4,a5,a6,a7,a8,a9,a10,a11,a12,a13,a14,a15,a16,a17,a18,a19,a20,a21,a22,a23,a24,a25,⟨⟩⟩
 kernel_rfl
theorem AcW:AD (AB Tryz.f86 1) 2=[]:=by kernel_rfl
theorem AcZ:AY Tryz.prog 0 (.loop (AB Tryz.f86 1)) (Hw.loop 1):=AT K4 (ALU) (AA AcW trivial)
theorem ALV:∀ v,Du v=roundOf Tryz.prog Ya Hw 1 0 87 (AB Tryz.f86 0) AJH AJE v:=by
 rintro⟨a0,a1,a2,a3,a4,a5,a6,⟨⟩⟩
 kernel_rfl
theorem AcX:AD (AB Tryz.f86 0) 1=[(1,AB Tryz.f86 1)]:=by kernel_rfl
theorem Aca:AY Tryz.prog 0 (.loop (AB Tryz.f86 0)) (Hw.loop 0):=AT K4 (ALV) (AA AcX ⟨AcZ,trivial⟩)
theorem AVL:∀ v,R3 v=AL 0 Tryz.prog Ya Hw Tryz.f86 ABp ABo ABn v:=by
 rintro⟨a0,⟨⟩⟩
 kernel_rfl
theorem Agj:AD (AR Tryz.f86) 0=[(0,AB Tryz.f86 0),(2,AB Tryz.f86 2)]:=by kernel_rfl
theorem AP4:AN Tryz.prog 86 (AF 0 1 ABp ABo ABn QG):=AG K4 Tryz.func86 (by kernel_rfl) (by kernel_rfl) rfl (fun v=>(AJI v).trans (AVL v)) (AA Agj ⟨Aca,AcY,trivial⟩)
def AG9:Env:=Ya.ext 86 true true (AF 0 1 ABp ABo ABn QG)
theorem Zr:AW Tryz.prog AG9:=Env.Aa K4 AP4 (fun _=>AI rfl rfl) (fun _=>AH rfl rfl)
abbrev Amg:Hints:={  }
theorem AgC:∀ v,AA6 v=AL 0 Tryz.prog AG9 Amg Tryz.f150 APA AO9 AO8 v:=by
 rintro⟨a0,a1,a2,⟨⟩⟩
 kernel_rfl
theorem Amf:AD (AR Tryz.f150) 0=[]:=by kernel_rfl
theorem AaJ:AN Tryz.prog 150 (AF 0 3 APA AO9 AO8 asked):=AG Zr Tryz.func150 (by kernel_rfl) (by kernel_rfl) rfl (fun v=>(AUg v).trans (AgC v)) (AA Amf trivial)
def APc:Env:=AG9.ext 150 true true (AF 0 3 APA AO9 AO8 asked)
theorem AHc:AW Tryz.prog APc:=Env.Aa Zr AaJ (fun _=>AI rfl rfl) (fun _=>AH rfl rfl)
abbrev Anh:Hints:={  }
theorem Ais:∀ v,LY v=AL 0 Tryz.prog APc Anh Tryz.f90 AX4 AX3 AX2 v:=by
 rintro⟨a0,⟨⟩⟩
 kernel_rfl
theorem Ang:AD (AR Tryz.f90) 0=[]:=by kernel_rfl
theorem AeT:AN Tryz.prog 90 (AF 0 1 AX4 AX3 AX2 Ait):=AG AHc Tryz.func90 (by kernel_rfl) (by kernel_rfl) rfl (fun v=>(LX v).trans (Ais v)) (AA Ang trivial)
def AaZ:Env:=APc.ext 90 true true (AF 0 1 AX4 AX3 AX2 Ait)
theorem AK2:AW Tryz.prog AaZ:=Env.Aa AHc AeT (fun _=>AI rfl rfl) (fun _=>AH rfl rfl)
abbrev AZj:Hints:={  }
theorem AOi:∀ v,Eg v=AL 0 Tryz.prog AaZ AZj Tryz.f62 RT RR RQ v:=by
 rintro⟨a0,a1,⟨⟩⟩
 kernel_rfl
theorem AZi:AD (AR Tryz.f62) 0=[]:=by kernel_rfl
theorem AIq:AN Tryz.prog 62 (AF 0 2 RT RR RQ Dk):=AG AK2 Tryz.func62 (by kernel_rfl) (by kernel_rfl) rfl (fun v=>(G2 v).trans (AOi v)) (AA AZi trivial)
def Rl:Env:=AaZ.ext 62 true true (AF 0 2 RT RR RQ Dk)
theorem QA:AW Tryz.prog Rl:=Env.Aa AK2 AIq (fun _=>AI rfl rfl) (fun _=>AH rfl rfl)
abbrev Akh:Hints:={ fp:=fun n=>match n with|1=>[[],[],[],[],[],[],[],[]]|_=>[] }
theorem AcO:∀ v,AAl v=AL 0 Tryz.prog Rl Akh Tryz.f164 ALE ALD ALC v:=by
 rintro⟨a0,a1,⟨⟩⟩
 kernel_rfl
theorem Akg:AD (AR Tryz.f164) 0=[]:=by kernel_rfl
theorem AUx:AN Tryz.prog 164 (AF 0 2 ALE ALD ALC BP):=AG QA Tryz.func164 (by kernel_rfl) (by kernel_rfl) rfl (fun v=>(APi v).trans (AcO v)) (AA Akg trivial)
def APO:Env:=Rl.ext 164 true true (AF 0 2 ALE ALD ALC BP)
theorem AG4:AW Tryz.prog APO:=Env.Aa QA AUx (fun _=>AI rfl rfl) (fun _=>AH rfl rfl)
abbrev Al2:Hints:={  }
theorem Ae5:∀ v,AAz v=AL 0 Tryz.prog APO Al2 Tryz.f124 ANw ANv ANu v:=by
 rintro⟨a0,⟨⟩⟩
 kernel_rfl
theorem Al1:AD (AR Tryz.f124) 0=[]:=by kernel_rfl
theorem AYf:AN Tryz.prog 124 (AF 0 1 ANw ANv ANu ATG):=AG AG4 Tryz.func124 (by kernel_rfl) (by kernel_rfl) rfl (fun v=>(ATF v).trans (Ae5 v)) (AA Al1 trivial)
def APX:Env:=APO.ext 124 true true (AF 0 1 ANw ANv ANu ATG)
theorem AHT:AW Tryz.prog APX:=Env.Aa AG4 AYf (fun _=>AI rfl rfl) (fun _=>AH rfl rfl)
abbrev Af8:Hints:={  }
theorem AUd:∀ v,PN v=AL 0 Tryz.prog APX Af8 Tryz.f89 X6 X5 X4 v:=by
 rintro⟨a0,⟨⟩⟩
 kernel_rfl
theorem Af7:AD (AR Tryz.f89) 0=[]:=by kernel_rfl
theorem AO3:AN Tryz.prog 89 (AF 0 1 X6 X5 X4 bitsLen):=AG AHT Tryz.func89 (by kernel_rfl) (by kernel_rfl) rfl (fun v=>(AGu v).trans (AUd v)) (AA Af7 trivial)
def Yg:Env:=APX.ext 89 true true (AF 0 1 X6 X5 X4 bitsLen)
theorem US:AW Tryz.prog Yg:=Env.Aa AHT AO3 (fun _=>AI rfl rfl) (fun _=>AH rfl rfl)
abbrev AcL:Hints:={ fp:=fun n=>match n with|3=>[[],[0],[0],[],[0],[0],[],[],[0],[1]]|2=>[[],[0],[0],[],[0],[0],[],[],[0],[1]]|1=>[[],[0],[0],[],[0],[0],[],[],[0],[1]]|_=>[] }
theorem APe:∀ v,Oc v=AL 1 Tryz.prog Yg AcL Tryz.f137 VA UZ UY v:=by
 rintro⟨a0,⟨⟩⟩
 kernel_rfl
theorem AcK:AD (AR Tryz.f137) 0=[]:=by kernel_rfl
theorem ALB:AN Tryz.prog 137 (AF 1 1 VA UZ UY xorNext):=AG US Tryz.func137 (by kernel_rfl) (by kernel_rfl) rfl (fun v=>(ABG v).trans (APe v)) (AA AcK trivial)
def YG:Env:=Yg.ext 137 false true (AF 1 1 VA UZ UY xorNext)
theorem Ti:AW Tryz.prog YG:=Env.Aa US ALB ((by simp)) (fun _=>AH rfl rfl)
abbrev AeS:Hints:={  }
theorem ASl:∀ v,O5 v=AL 0 Tryz.prog YG AeS Tryz.f136 Wq Wp Wo v:=by
 rintro⟨a0,⟨⟩⟩
 kernel_rfl
theorem AeR:AD (AR Tryz.f136) 0=[]:=by kernel_rfl
theorem ANU:AN Tryz.prog 136 (AF 0 1 Wq Wp Wo Sh):=AG Ti Tryz.func136 (by kernel_rfl) (by kernel_rfl) rfl (fun v=>(AEX v).trans (ASl v)) (AA AeR trivial)
def Kw:Env:=YG.ext 136 true true (AF 0 1 Wq Wp Wo Sh)
theorem HZ:AW Tryz.prog Kw:=Env.Aa Ti ANU (fun _=>AI rfl rfl) (fun _=>AH rfl rfl)
abbrev AFA:Hints:={ loop:=fun n=>match n with|0=>AZ 1 53 Abg Abe Abc|1=>AZ 1 53 Abf Abd Abb|_=>fun _ _ _=>none,fp:=fun n=>match n with|4=>[[],[],[],[],[],[],[],[0],[0],[],[],[],[0],[0],[],[],[]]|6=>[[],[],[],[],[],[],[],[],[0],[0],[],[],[0],[0],[0],[1],[0],[1]]|_=>[] }
theorem AYo:∀ v,Abb v=roundOf Tryz.prog Kw AFA 2 1 53 (AB Tryz.f166 1) Abf Abd v:=by
 rintro⟨a0,a1,a2,a3,a4,⟨⟩⟩
 kernel_rfl
theorem Al3:AD (AB Tryz.f166 1) 2=[]:=by kernel_rfl
theorem Al5:AY Tryz.prog 1 (.loop (AB Tryz.f166 1)) (AFA.loop 1):=AT HZ (AYo) (AA Al3 trivial)
theorem AYp:∀ v,Abc v=roundOf Tryz.prog Kw AFA 1 1 53 (AB Tryz.f166 0) Abg Abe v:=by
 rintro⟨a0,a1,a2,a3,⟨⟩⟩
 kernel_rfl
theorem Al4:AD (AB Tryz.f166 0) 1=[(1,AB Tryz.f166 1)]:=by kernel_rfl
theorem Al6:AY Tryz.prog 1 (.loop (AB Tryz.f166 0)) (AFA.loop 0):=AT HZ (AYp) (AA Al4 ⟨Al5,trivial⟩)
theorem AjA:∀ v,AjB v=AL 1 Tryz.prog Kw AFA Tryz.f166 AYs AYr AYq v:=by
 rintro⟨a0,a1,a2,⟨⟩⟩
 kernel_rfl
theorem Anm:AD (AR Tryz.f166) 0=[(0,AB Tryz.f166 0)]:=by kernel_rfl
theorem Ae9:AN Tryz.prog 166 (AF 1 4 AYs AYr AYq Ann):=AG HZ Tryz.func166 (by kernel_rfl) (by kernel_rfl) rfl (fun v=>(Al7 v).trans (AjA v)) (AA Anm ⟨Al6,trivial⟩)
def APY:Env:=Kw.CD 166 3 164 (AF 1 4 AYs AYr AYq Ann)
theorem YY:AW Tryz.prog APY:=Env.Az HZ Ae9 (AH rfl rfl)
abbrev AML:Hints:={ loop:=fun n=>match n with|0=>AZ 1 82 AQj AQi AQh|_=>fun _ _ _=>none,fp:=fun n=>match n with|6=>[[],[],[],[],[],[],[],[],[],[],[],[],[0],[0],[],[],[],[],[0],[0],[0],[1],[0],[1]]|5=>[[],[],[],[],[],[0],[0],[],[],[],[],[0],[0],[],[],[]]|3=>[[],[],[],[],[],[],[],[],[],[],[0],[0],[],[],[],[],[],[0],[0],[],[],[]]|_=>[] }
theorem AQg:∀ v,AQh v=roundOf Tryz.prog APY AML 1 1 82 (AB Tryz.f174 0) AQj AQi v:=by
 rintro⟨a0,a1,a2,a3,⟨⟩⟩
 kernel_rfl
theorem AhO:AD (AB Tryz.f174 0) 1=[]:=by kernel_rfl
theorem AhP:AY Tryz.prog 1 (.loop (AB Tryz.f174 0)) (AML.loop 0):=AT YY (AQg) (AA AhO trivial)
theorem AdD:∀ v,Aau v=AL 1 Tryz.prog APY AML Tryz.f174 AMK AMJ AMI v:=by
 rintro⟨a0,a1,a2,a3,⟨⟩⟩
 kernel_rfl
theorem AlE:AD (AR Tryz.f174) 0=[(0,AB Tryz.f174 0)]:=by kernel_rfl
theorem AV9:AN Tryz.prog 174 (AF 1 5 AMK AMJ AMI AhR):=AG YY Tryz.func174 (by kernel_rfl) (by kernel_rfl) rfl (fun v=>(AhQ v).trans (AdD v)) (AA AlE ⟨AhP,trivial⟩)
def Tx:Env:=APY.CD 174 4 164 (AF 1 5 AMK AMJ AMI AhR)
theorem MX:AW Tryz.prog Tx:=Env.Az YY AV9 (AH rfl rfl)
end
end Go.Pev
end
section
namespace Go.Pev
open Go.Proofs
noncomputable section
abbrev S8:Hints:={ loop:=fun n=>match n with|0=>AZ 1 60 ATW ATU ATS|1=>AZ 1 60 ATV ATT ATQ|_=>fun _ _ _=>none,fp:=fun n=>match n with|10=>[[],[],[],[],[],[],[],[],[],[],[0],[0],[],[],[0],[0],[0],[1],[0],[1]]|_=>[] }
theorem ATP:∀ v,ATQ v=roundOf Tryz.prog Tx S8 2 1 60 (AB Tryz.f167 1) ATV ATT v:=by
 rintro⟨a0,a1,a2,a3,⟨⟩⟩
 kernel_rfl
theorem AjS:AD (AB Tryz.f167 1) 2=[]:=by kernel_rfl
theorem AjU:AY Tryz.prog 1 (.loop (AB Tryz.f167 1)) (S8.loop 1):=AT MX (ATP) (AA AjS trivial)
theorem ATR:∀ v,ATS v=roundOf Tryz.prog Tx S8 1 1 60 (AB Tryz.f167 0) ATW ATU v:=by
 rintro⟨a0,a1,a2,a3,a4,⟨⟩⟩
 kernel_rfl
theorem AjT:AD (AB Tryz.f167 0) 1=[]:=by kernel_rfl
theorem AjV:AY Tryz.prog 1 (.loop (AB Tryz.f167 0)) (S8.loop 0):=AT MX (ATR) (AA AjT trivial)
theorem AfJ:∀ v,Abr v=AL 1 Tryz.prog Tx S8 Tryz.f167 AOD AOC AOB v:=by
 rintro⟨a0,a1,a2,⟨⟩⟩
 kernel_rfl
theorem AmI:AD (AR Tryz.f167) 0=[(0,AB Tryz.f167 0),(1,AB Tryz.f167 1)]:=by kernel_rfl
theorem AY4:AN Tryz.prog 167 (AF 1 4 AOD AOC AOB AjX):=AG MX Tryz.func167 (by kernel_rfl) (by kernel_rfl) rfl (fun v=>(AjW v).trans (AfJ v)) (AA AmI ⟨AjV,AjU,trivial⟩)
def ABA:Env:=Tx.CD 167 3 164 (AF 1 4 AOD AOC AOB AjX)
theorem Rh:AW Tryz.prog ABA:=Env.Az MX AY4 (AH rfl rfl)
abbrev AGn:Hints:={ loop:=fun n=>match n with|0=>AZ 1 67 AKj AKi AKh|_=>fun _ _ _=>none,fp:=fun n=>match n with|10=>[[],[],[],[],[],[],[],[],[],[],[0],[0],[],[],[0],[0],[0],[1],[0],[1]]|_=>[] }
theorem AO0:∀ v,AKh v=roundOf Tryz.prog ABA AGn 1 1 67 (AB Tryz.f168 0) AKj AKi v:=by
 rintro⟨a0,a1,a2,a3,a4,a5,⟨⟩⟩
 kernel_rfl
theorem Af0:AD (AB Tryz.f168 0) 1=[]:=by kernel_rfl
theorem Af1:AY Tryz.prog 1 (.loop (AB Tryz.f168 0)) (AGn.loop 0):=AT Rh (AO0) (AA Af0 trivial)
theorem AZ8:∀ v,AUZ v=AL 1 Tryz.prog ABA AGn Tryz.f168 AGm AGl AGk v:=by
 rintro⟨a0,a1,a2,⟨⟩⟩
 kernel_rfl
theorem AkL:AD (AR Tryz.f168) 0=[(0,AB Tryz.f168 0)]:=by kernel_rfl
theorem AUY:AN Tryz.prog 168 (AF 1 4 AGm AGl AGk AZ9):=AG Rh Tryz.func168 (by kernel_rfl) (by kernel_rfl) rfl (fun v=>(Af2 v).trans (AZ8 v)) (AA AkL ⟨Af1,trivial⟩)
def AHa:Env:=ABA.CD 168 3 164 (AF 1 4 AGm AGl AGk AZ9)
theorem Z9:AW Tryz.prog AHa:=Env.Az Rh AUY (AH rfl rfl)
abbrev AeG:Hints:={ fp:=fun n=>match n with|1=>[[],[],[],[0],[0],[],[],[0],[0],[],[]]|_=>[] }
theorem ASh:∀ v,AJ5 v=AL 2 Tryz.prog AHa AeG Tryz.f177 Wj Wi Wh v:=by
 rintro⟨a0,a1,a2,a3,⟨⟩⟩
 kernel_rfl
theorem AeF:AD (AR Tryz.f177) 0=[]:=by kernel_rfl
theorem ANI:AN Tryz.prog 177 (AF 2 5 Wj Wi Wh ANJ):=AG Z9 Tryz.func177 (by kernel_rfl) (by kernel_rfl) rfl (fun v=>(AXk v).trans (ASh v)) (AA AeF trivial)
def YP:Env:=AHa.CD 177 4 164 (AF 2 5 Wj Wi Wh ANJ)
theorem T9:AW Tryz.prog YP:=Env.Az Z9 ANI (AH rfl rfl)
abbrev Aeb:Hints:={  }
theorem ASq:∀ v,AJ8 v=AL 2 Tryz.prog YP Aeb Tryz.f176 Wu Wt Ws v:=by
 rintro⟨a0,a1,a2,a3,a4,⟨⟩⟩
 kernel_rfl
theorem Aea:AD (AR Tryz.f176) 0=[]:=by kernel_rfl
theorem ANX:AN Tryz.prog 176 (AF 2 6 Wu Wt Ws ANY):=AG T9 Tryz.func176 (by kernel_rfl) (by kernel_rfl) rfl (fun v=>(AYB v).trans (ASq v)) (AA Aea trivial)
def YS:Env:=YP.CD 176 5 164 (AF 2 6 Wu Wt Ws ANY)
theorem UB:AW Tryz.prog YS:=Env.Az T9 ANX (AH rfl rfl)
abbrev Aef:Hints:={  }
theorem ASs:∀ v,AKA v=AL 2 Tryz.prog YS Aef Tryz.f175 W0 Wz Wy v:=by
 rintro⟨a0,a1,a2,⟨⟩⟩
 kernel_rfl
theorem Aee:AD (AR Tryz.f175) 0=[]:=by kernel_rfl
theorem ANb:AN Tryz.prog 175 (AF 2 4 W0 Wz Wy ANc):=AG UB Tryz.func175 (by kernel_rfl) (by kernel_rfl) rfl (fun v=>(AYE v).trans (ASs v)) (AA Aee trivial)
def YU:Env:=YS.CD 175 3 164 (AF 2 4 W0 Wz Wy ANc)
theorem UD:AW Tryz.prog YU:=Env.Az UB ANb (AH rfl rfl)
abbrev Ah3:Hints:={  }
theorem AXB:∀ v,ARR v=AL 1 Tryz.prog YU Ah3 Tryz.f169 ADd ADc ADb v:=by
 rintro⟨a0,a1,a2,⟨⟩⟩
 kernel_rfl
theorem Ah2:AD (AR Tryz.f169) 0=[]:=by kernel_rfl
theorem ARQ:AN Tryz.prog 169 (AF 1 4 ADd ADc ADb AXC):=AG UD Tryz.func169 (by kernel_rfl) (by kernel_rfl) rfl (fun v=>(Adx v).trans (AXB v)) (AA Ah2 trivial)
def T7:Env:=YU.CD 169 3 164 (AF 1 4 ADd ADc ADb AXC)
theorem OT:AW Tryz.prog T7:=Env.Az UD ARQ (AH rfl rfl)
abbrev AWj:Hints:={ loop:=fun n=>match n with|0=>AZ 1 34 Aa5 Aa4 Aa3|_=>fun _ _ _=>none,fp:=fun n=>match n with|3=>[[],[],[],[],[],[],[0],[0],[],[],[0],[0],[0],[1],[0],[1]]|_=>[] }
theorem AWf:∀ v,Aa3 v=roundOf Tryz.prog T7 AWj 1 1 34 (AB Tryz.f170 0) Aa5 Aa4 v:=by
 rintro⟨a0,a1,a2,⟨⟩⟩
 kernel_rfl
theorem AlR:AD (AB Tryz.f170 0) 1=[]:=by kernel_rfl
theorem AlS:AY Tryz.prog 1 (.loop (AB Tryz.f170 0)) (AWj.loop 0):=AT OT (AWf) (AA AlR trivial)
theorem Ahm:∀ v,Ahn v=AL 1 Tryz.prog T7 AWj Tryz.f170 AWi AWh AWg v:=by
 rintro⟨a0,a1,a2,⟨⟩⟩
 kernel_rfl
theorem AnM:AD (AR Tryz.f170) 0=[(0,AB Tryz.f170 0)]:=by kernel_rfl
theorem Adj:AN Tryz.prog 170 (AF 1 4 AWi AWh AWg AnN):=AG OT Tryz.func170 (by kernel_rfl) (by kernel_rfl) rfl (fun v=>(AlT v).trans (Ahm v)) (AA AnM ⟨AlS,trivial⟩)
def Rf:Env:=T7.CD 170 3 164 (AF 1 4 AWi AWh AWg AnN)
theorem Hr:AW Tryz.prog Rf:=Env.Az OT Adj (AH rfl rfl)
abbrev C3:Hints:={ loop:=fun n=>match n with|0=>AZ 1 141 Y9 Y5 Y1|1=>AZ 1 141 Y8 Y4 Y0|2=>AZ 1 141 Y7 Y3 Yz|3=>AZ 1 141 Y6 Y2 Yy|_=>fun _ _ _=>none,fp:=fun n=>match n with|11=>[[],[],[],[],[],[],[],[],[0],[0],[],[],[0],[0],[0],[1],[0],[1]]|5=>[[],[],[],[],[],[],[],[0],[0],[],[],[],[0],[0],[],[],[],[]]|17=>[[],[],[],[],[],[],[],[],[0],[0],[],[],[0],[0],[0],[1],[0],[1]]|16=>[[],[],[],[0],[0],[],[],[],[0],[0],[],[],[]]|23=>[[],[],[],[],[],[],[],[],[0],[0],[],[],[0],[0],[0],[1],[0],[1]]|22=>[[],[],[],[0],[0],[],[],[],[0],[0],[],[],[]]|_=>[] }
theorem ADw:∀ v,Yy v=roundOf Tryz.prog Rf C3 4 1 141 (AB Tryz.f171 3) Y6 Y2 v:=by
 rintro⟨a0,a1,a2,a3,a4,a5,⟨⟩⟩
 kernel_rfl
theorem ARt:AD (AB Tryz.f171 3) 4=[]:=by kernel_rfl
theorem ARx:AY Tryz.prog 1 (.loop (AB Tryz.f171 3)) (C3.loop 3):=AT Hr (ADw) (AA ARt trivial)
theorem ADx:∀ v,Yz v=roundOf Tryz.prog Rf C3 3 1 141 (AB Tryz.f171 2) Y7 Y3 v:=by
 rintro⟨a0,a1,a2,a3,a4,a5,⟨⟩⟩
 kernel_rfl
theorem ARu:AD (AB Tryz.f171 2) 3=[]:=by kernel_rfl
theorem ARy:AY Tryz.prog 1 (.loop (AB Tryz.f171 2)) (C3.loop 2):=AT Hr (ADx) (AA ARu trivial)
theorem ADy:∀ v,Y0 v=roundOf Tryz.prog Rf C3 2 1 141 (AB Tryz.f171 1) Y8 Y4 v:=by
 rintro⟨a0,a1,a2,a3,a4,⟨⟩⟩
 kernel_rfl
theorem ARv:AD (AB Tryz.f171 1) 2=[]:=by kernel_rfl
theorem ARz:AY Tryz.prog 1 (.loop (AB Tryz.f171 1)) (C3.loop 1):=AT Hr (ADy) (AA ARv trivial)
theorem ADz:∀ v,Y1 v=roundOf Tryz.prog Rf C3 1 1 141 (AB Tryz.f171 0) Y9 Y5 v:=by
 rintro⟨a0,a1,a2,a3,a4,⟨⟩⟩
 kernel_rfl
theorem ARw:AD (AB Tryz.f171 0) 1=[(1,AB Tryz.f171 1),(2,AB Tryz.f171 2),(3,AB Tryz.f171 3)]:=by kernel_rfl
theorem AR0:AY Tryz.prog 1 (.loop (AB Tryz.f171 0)) (C3.loop 0):=AT Hr (ADz) (AA ARw ⟨ARz,ARy,ARx,trivial⟩)
theorem AM7:∀ v,AD0 v=AL 1 Tryz.prog Rf C3 Tryz.f171 Qf Qe Qd v:=by
 rintro⟨a0,a1,a2,⟨⟩⟩
 kernel_rfl
theorem AXR:AD (AR Tryz.f171) 0=[(0,AB Tryz.f171 0)]:=by kernel_rfl
theorem AH5:AN Tryz.prog 171 (AF 1 4 Qf Qe Qd AD1):=AG Hr Tryz.func171 (by kernel_rfl) (by kernel_rfl) rfl (fun v=>(AR1 v).trans (AM7 v)) (AA AXR ⟨AR0,trivial⟩)
def GV:Env:=Rf.CD 171 3 164 (AF 1 4 Qf Qe Qd AD1)
theorem EK:AW Tryz.prog GV:=Env.Az Hr AH5 (AH rfl rfl)
abbrev Fx:Hints:={ loop:=fun n=>match n with|0=>AZ 1 90 AEH AEE AEB|1=>AZ 1 90 AEG AED AEA|2=>AZ 1 90 AEF AEC AD9|_=>fun _ _ _=>none,fp:=fun n=>match n with|8=>[[],[],[],[],[],[],[0],[0],[],[],[0],[0],[0],[1],[0],[1]]|3=>[[],[],[],[],[],[],[],[0],[0],[],[],[0],[0],[],[],[],[]]|5=>[[],[],[],[],[],[],[],[0],[0],[],[],[0],[0],[],[],[]]|1=>[[],[],[],[],[],[],[0],[0],[],[],[0],[0],[0],[1],[0],[1]]|_=>[] }
theorem AIA:∀ v,AD9 v=roundOf Tryz.prog GV Fx 3 1 90 (AB Tryz.f172 2) AEF AEC v:=by
 rintro⟨a0,a1,a2,a3,⟨⟩⟩
 kernel_rfl
theorem AXU:AD (AB Tryz.f172 2) 3=[]:=by kernel_rfl
theorem AXX:AY Tryz.prog 1 (.loop (AB Tryz.f172 2)) (Fx.loop 2):=AT EK (AIA) (AA AXU trivial)
theorem AIB:∀ v,AEA v=roundOf Tryz.prog GV Fx 2 1 90 (AB Tryz.f172 1) AEG AED v:=by
 rintro⟨a0,a1,a2,a3,⟨⟩⟩
 kernel_rfl
theorem AXV:AD (AB Tryz.f172 1) 2=[]:=by kernel_rfl
theorem AXY:AY Tryz.prog 1 (.loop (AB Tryz.f172 1)) (Fx.loop 1):=AT EK (AIB) (AA AXV trivial)
theorem AIC:∀ v,AEB v=roundOf Tryz.prog GV Fx 1 1 90 (AB Tryz.f172 0) AEH AEE v:=by
 rintro⟨a0,a1,a2,a3,⟨⟩⟩
 kernel_rfl
theorem AXW:AD (AB Tryz.f172 0) 1=[(1,AB Tryz.f172 1),(2,AB Tryz.f172 2)]:=by kernel_rfl
theorem AXZ:AY Tryz.prog 1 (.loop (AB Tryz.f172 0)) (Fx.loop 0):=AT EK (AIC) (AA AXW ⟨AXY,AXX,trivial⟩)
theorem ASG:∀ v,AJ1 v=AL 1 Tryz.prog GV Fx Tryz.f172 Wd Wc Wb v:=by
 rintro⟨a0,a1,a2,a3,⟨⟩⟩
 kernel_rfl
theorem AeA:AD (AR Tryz.f172) 0=[(0,AB Tryz.f172 0)]:=by kernel_rfl
theorem ANA:AN Tryz.prog 172 (AF 1 5 Wd Wc Wb ANB):=AG EK Tryz.func172 (by kernel_rfl) (by kernel_rfl) rfl (fun v=>(AXa v).trans (ASG v)) (AA AeA ⟨AXZ,trivial⟩)
def FA:Env:=GV.CD 172 4 164 (AF 1 5 Wd Wc Wb ANB)
theorem DH:AW Tryz.prog FA:=Env.Az EK ANA (AH rfl rfl)
abbrev FH:Hints:={ loop:=fun n=>match n with|0=>AZ 1 178 ARs ARn ARi|1=>AZ 1 178 ARr ARm ARg|2=>AZ 1 178 ARq ARl ARe|3=>AZ 1 178 ARp ARk ARc|4=>AZ 1 178 ARo ARj ARa|_=>fun _ _ _=>none,fp:=fun n=>match n with|3=>[[],[],[],[],[],[],[],[0],[0],[],[],[0],[0],[],[],[]]|5=>[[],[],[],[],[],[],[],[0],[0],[],[],[0],[0],[],[],[],[]]|18=>[[],[],[],[],[],[],[0],[0],[],[],[0],[0],[0],[1],[0],[1]]|13=>[[],[],[],[],[],[],[],[0],[0],[],[],[0],[0],[],[],[]]|15=>[[],[],[],[],[],[],[],[0],[0],[],[],[0],[0],[],[],[],[]]|21=>[[],[],[],[],[],[],[0],[0],[],[],[0],[0],[0],[1],[0],[1]]|10=>[[],[],[],[],[],[],[0],[0],[],[],[0],[0],[0],[1],[0],[1]]|8=>[[],[],[],[],[],[],[0],[0],[],[],[0],[0],[0],[1],[0],[1]]|1=>[[],[],[],[],[],[],[0],[0],[],[],[0],[0],[0],[1],[0],[1]]|_=>[] }
theorem ARZ:∀ v,ARa v=roundOf Tryz.prog FA FH 5 1 178 (AB Tryz.f173 4) ARo ARj v:=by
 rintro⟨a0,a1,a2,a3,⟨⟩⟩
 kernel_rfl
theorem AiB:AD (AB Tryz.f173 4) 5=[]:=by kernel_rfl
theorem AiG:AY Tryz.prog 1 (.loop (AB Tryz.f173 4)) (FH.loop 4):=AT DH (ARZ) (AA AiB trivial)
theorem ARb:∀ v,ARc v=roundOf Tryz.prog FA FH 4 1 178 (AB Tryz.f173 3) ARp ARk v:=by
 rintro⟨a0,a1,a2,a3,⟨⟩⟩
 kernel_rfl
theorem AiC:AD (AB Tryz.f173 3) 4=[]:=by kernel_rfl
theorem AiH:AY Tryz.prog 1 (.loop (AB Tryz.f173 3)) (FH.loop 3):=AT DH (ARb) (AA AiC trivial)
theorem ARd:∀ v,ARe v=roundOf Tryz.prog FA FH 3 1 178 (AB Tryz.f173 2) ARq ARl v:=by
 rintro⟨a0,a1,a2,a3,⟨⟩⟩
 kernel_rfl
theorem AiD:AD (AB Tryz.f173 2) 3=[(3,AB Tryz.f173 3),(4,AB Tryz.f173 4)]:=by kernel_rfl
theorem AiI:AY Tryz.prog 1 (.loop (AB Tryz.f173 2)) (FH.loop 2):=AT DH (ARd) (AA AiD ⟨AiH,AiG,trivial⟩)
theorem ARf:∀ v,ARg v=roundOf Tryz.prog FA FH 2 1 178 (AB Tryz.f173 1) ARr ARm v:=by
 rintro⟨a0,a1,a2,a3,⟨⟩⟩
 kernel_rfl
theorem AiE:AD (AB Tryz.f173 1) 2=[]:=by kernel_rfl
theorem AiJ:AY Tryz.prog 1 (.loop (AB Tryz.f173 1)) (FH.loop 1):=AT DH (ARf) (AA AiE trivial)
theorem ARh:∀ v,ARi v=roundOf Tryz.prog FA FH 1 1 178 (AB Tryz.f173 0) ARs ARn v:=by
 rintro⟨a0,a1,a2,a3,⟨⟩⟩
 kernel_rfl
theorem AiF:AD (AB Tryz.f173 0) 1=[]:=by kernel_rfl
theorem AiK:AY Tryz.prog 1 (.loop (AB Tryz.f173 0)) (FH.loop 0):=AT DH (ARh) (AA AiF trivial)
theorem Ad8:∀ v,AbJ v=AL 1 Tryz.prog FA FH Tryz.f173 AM6 AM5 AM4 v:=by
 rintro⟨a0,a1,a2,a3,⟨⟩⟩
 kernel_rfl
theorem Alj:AD (AR Tryz.f173) 0=[(0,AB Tryz.f173 0),(1,AB Tryz.f173 1),(2,AB Tryz.f173 2)]:=by kernel_rfl
theorem AXQ:AN Tryz.prog 173 (AF 1 5 AM6 AM5 AM4 AiM):=AG DH Tryz.func173 (by kernel_rfl) (by kernel_rfl) rfl (fun v=>(AiL v).trans (Ad8 v)) (AA Alj ⟨AiK,AiJ,AiI,trivial⟩)
def APU:Env:=FA.CD 173 4 164 (AF 1 5 AM6 AM5 AM4 AiM)
theorem AHO:AW Tryz.prog APU:=Env.Az DH AXQ (AH rfl rfl)
abbrev AXL(self:(List (List Int)×Int×Int×Int×Unit)→Option ((List (List Int)×Unit))):Hints:={ loop:=fun n=>match n with|0=>AZ 1 148 AbF AbE (AbD self)|_=>fun _ _ _=>none,fp:=fun n=>match n with|17=>[[],[],[],[],[],[],[],[0],[0],[],[],[0],[0],[],[],[],[]]|_=>[] }
abbrev AM0(self:(List (List Int)×Int×Int×Int×Unit)→Option ((List (List Int)×Unit))):Env:=APU.ext 165 false true (AF 1 5 ADp ADo ADn self)
theorem AXK(self:(List (List Int)×Int×Int×Int×Unit)→Option ((List (List Int)×Unit))):∀ v,AbD self v=roundOf Tryz.prog (AM0 self) (AXL self) 1 1 148 (AB Tryz.f165 0) AbF AbE v:=by
 rintro⟨a0,a1,a2,a3,a4,a5,⟨⟩⟩
 kernel_rfl
theorem Ala:AD (AB Tryz.f165 0) 1=[]:=by kernel_rfl
theorem Alb(self:(List (List Int)×Int×Int×Int×Unit)→Option ((List (List Int)×Unit)))(hE:AW Tryz.prog (AM0 self)):AY Tryz.prog 1 (.loop (AB Tryz.f165 0)) ((AXL self).loop 0):=AT hE (AXK self) (AA Ala trivial)
theorem Ah8(self:(List (List Int)×Int×Int×Int×Unit)→Option ((List (List Int)×Unit))):∀ v,AnT self v=AL 1 Tryz.prog (AM0 self) (AXL self) Tryz.f165 ADp ADo ADn v:=by
 rintro⟨a0,a1,a2,a3,⟨⟩⟩
 kernel_rfl
theorem AnS:AD (AR Tryz.f165) 0=[(0,AB Tryz.f165 0)]:=by kernel_rfl
theorem AXM:∀ n,AN Tryz.prog 165 (AF 1 5 ADp ADo ADn (ADq n)):=by
 intro n
 induction n with
 |zero=>exact ZO fun _=>rfl
 |succ n ih=>
  have hE:AW Tryz.prog (AM0 (ADq n)):=Env.Aa AHO ih ((by simp)) (fun _=>AH rfl rfl)
  let self:=ADq n
  exact AG hE Tryz.func165 (by kernel_rfl) (by kernel_rfl) rfl (Ah8 self) (AA AnS ⟨(Alb self hE),trivial⟩)
theorem Ad6:AN Tryz.prog 165 (AF 1 5 ADp ADo ADn Ald):=by
 have e:Ald=ADq 100:=funext Alc
 rw[e]
 exact AXM _
def AaW:Env:=APU.CD 165 4 164 (AF 1 5 ADp ADo ADn Ald)
theorem AKz:AW Tryz.prog AaW:=Env.Az AHO Ad6 (AH rfl rfl)
abbrev Ak4:Hints:={  }
theorem Ac5:∀ v,Aan v=AL 1 Tryz.prog AaW Ak4 Tryz.f163 AL6 AL5 AL4 v:=by
 rintro⟨a0,⟨⟩⟩
 kernel_rfl
theorem Ak3:AD (AR Tryz.f163) 0=[]:=by kernel_rfl
theorem AVv:AN Tryz.prog 163 (AF 1 2 AL6 AL5 AL4 AQX):=AG AKz Tryz.func163 (by kernel_rfl) (by kernel_rfl) rfl (fun v=>(AhJ v).trans (Ac5 v)) (AA Ak3 trivial)
def Ts:Env:=AaW.CD 163 1 164 (AF 1 2 AL6 AL5 AL4 AQX)
theorem MV:AW Tryz.prog Ts:=Env.Az AKz AVv (AH rfl rfl)
end
end Go.Pev
end
section
namespace Go.Pev
open Go.Proofs
noncomputable section
abbrev Rv:Hints:={ loop:=fun n=>match n with|0=>AZ 0 47 APt APr Hu|1=>AZ 0 47 APs APq Ht|_=>fun _ _ _=>none }
theorem APo:∀ v,Ht v=roundOf Tryz.prog Ts Rv 2 0 47 (AB Tryz.f154 1) APs APq v:=by
 rintro⟨a0,a1,a2,a3,a4,a5,a6,⟨⟩⟩
 kernel_rfl
theorem AgT:AD (AB Tryz.f154 1) 2=[]:=by kernel_rfl
theorem AgV:AY Tryz.prog 0 (.loop (AB Tryz.f154 1)) (Rv.loop 1):=AT MV (APo) (AA AgT trivial)
theorem APp:∀ v,Hu v=roundOf Tryz.prog Ts Rv 1 0 47 (AB Tryz.f154 0) APt APr v:=by
 rintro⟨a0,a1,a2,a3,a4,a5,a6,a7,a8,⟨⟩⟩
 kernel_rfl
theorem AgU:AD (AB Tryz.f154 0) 1=[]:=by kernel_rfl
theorem AgW:AY Tryz.prog 0 (.loop (AB Tryz.f154 0)) (Rv.loop 0):=AT MV (APp) (AA AgU trivial)
theorem AcT:∀ v,AAm v=AL 0 Tryz.prog Ts Rv Tryz.f154 ALM ALL ALK v:=by
 rintro⟨a0,a1,a2,⟨⟩⟩
 kernel_rfl
theorem Aki:AD (AR Tryz.f154) 0=[(0,AB Tryz.f154 0),(1,AB Tryz.f154 1)]:=by kernel_rfl
theorem AU7:AN Tryz.prog 154 (AF 0 3 ALM ALL ALK APv):=AG MV Tryz.func154 (by kernel_rfl) (by kernel_rfl) rfl (fun v=>(APu v).trans (AcT v)) (AA Aki ⟨AgW,AgV,trivial⟩)
def APP:Env:=Ts.ext 154 true true (AF 0 3 ALM ALL ALK APv)
theorem AG6:AW Tryz.prog APP:=Env.Aa MV AU7 (fun _=>AI rfl rfl) (fun _=>AH rfl rfl)
abbrev Akw:Hints:={ fp:=fun n=>match n with|9=>[[],[28],[0],[0],[],[],[],[],[],[0],[0],[],[],[],[],[],[28],[28,52,36,62],[64],[]]|4=>[[0],[],[],[0],[],[],[],[]]|_=>[] }
theorem Acu:∀ v,HN v=AL 0 Tryz.prog APP Akw Tryz.f131 ALr ALq ALp v:=by
 rintro⟨a0,a1,a2,⟨⟩⟩
 kernel_rfl
theorem Akv:AD (AR Tryz.f131) 0=[]:=by kernel_rfl
theorem AVY:AN Tryz.prog 131 (AF 0 3 ALr ALq ALp NA):=AG AG6 Tryz.func131 (by kernel_rfl) (by kernel_rfl) rfl (fun v=>(H3 v).trans (Acu v)) (AA Akv trivial)
def APQ:Env:=APP.ext 131 true true (AF 0 3 ALr ALq ALp NA)
theorem AHD:AW Tryz.prog APQ:=Env.Aa AG6 AVY (fun _=>AI rfl rfl) (fun _=>AH rfl rfl)
theorem Ag7:Tryz.f158.body.isSome=true:=by kernel_rfl
theorem Ag6 : (Tryz.f158.name == "runtime.NumGoroutine") = false := by kernel_rfl
theorem Ag5:loops (AR Tryz.f158)=0:=by kernel_rfl
def MR:Env:=APQ.ext 158 false false (DL Tryz.prog APQ {} Tryz.f158)
theorem KH:AW Tryz.prog MR:=Env.Aa AHD (Ct AHD Tryz.func158 Ag7 Ag6 Ag5) (by simp) (by simp)
abbrev GJ:Hints:={ loop:=fun n=>match n with|0=>AZ 1 19 JK JJ Bk|_=>fun _ _ _=>none }
theorem Nn:∀ v,Bk v=roundOf Tryz.prog MR GJ 1 1 19 (AB Tryz.f91 0) JK JJ v:=by
 rintro⟨a0,a1,a2,a3,a4,⟨⟩⟩
 kernel_rfl
theorem Sy:AD (AB Tryz.f91 0) 1=[]:=by kernel_rfl
theorem S0:AY Tryz.prog 1 (.loop (AB Tryz.f91 0)) (GJ.loop 0):=AT KH (Nn) (AA Sy trivial)
theorem Q3:∀ v,D3 v=AL 1 Tryz.prog MR GJ Tryz.f91 GH GG GF v:=by
 rintro⟨a0,a1,a2,⟨⟩⟩
 kernel_rfl
theorem XO:AD (AR Tryz.f91) 0=[(0,AB Tryz.f91 0)]:=by kernel_rfl
theorem Pg:AN Tryz.prog 91 (AF 1 2 GH GG GF FN):=AG KH Tryz.func91 (by kernel_rfl) (by kernel_rfl) rfl (fun v=>(JL v).trans (Q3 v)) (AA XO ⟨S0,trivial⟩)
def Ga:Env:=MR.CD 91 1 158 (AF 1 2 GH GG GF FN)
theorem HL:AW Tryz.prog Ga:=Env.Az KH Pg (AH rfl rfl)
abbrev TQ:Hints:={  }
theorem Ph:∀ v,DU v=AL 1 Tryz.prog Ga TQ Tryz.f73 FX FW FV v:=by
 rintro⟨a0,a1,a2,⟨⟩⟩
 kernel_rfl
theorem TP:AD (AR Tryz.f73) 0=[]:=by kernel_rfl
theorem OB:AN Tryz.prog 73 (AF 1 2 FX FW FV DN):=AG HL Tryz.func73 (by kernel_rfl) (by kernel_rfl) rfl (fun v=>(Ie v).trans (Ph v)) (AA TP trivial)
def Fi:Env:=Ga.CD 73 1 158 (AF 1 2 FX FW FV DN)
theorem G6:AW Tryz.prog Fi:=Env.Az HL OB (AH rfl rfl)
abbrev Ajl:Hints:={  }
theorem AZD:∀ v,TC v=AL 0 Tryz.prog Fi Ajl Tryz.f148 AFc AFb AFa v:=by
 rintro⟨a0,a1,⟨⟩⟩
 kernel_rfl
theorem Ajk:AD (AR Tryz.f148) 0=[]:=by kernel_rfl
theorem ATq:AN Tryz.prog 148 (AF 0 2 AFc AFb AFa Q9):=AG G6 Tryz.func148 (by kernel_rfl) (by kernel_rfl) rfl (fun v=>(AKX v).trans (AZD v)) (AA Ajk trivial)
def UL:Env:=Fi.ext 148 true true (AF 0 2 AFc AFb AFa Q9)
theorem OX:AW Tryz.prog UL:=Env.Aa G6 ATq (fun _=>AI rfl rfl) (fun _=>AH rfl rfl)
abbrev AZU:Hints:={ loop:=fun n=>match n with|0=>AZ 0 21 Ab3 Ab2 L7|_=>fun _ _ _=>none }
theorem AZQ:∀ v,L7 v=roundOf Tryz.prog UL AZU 1 0 21 (AB Tryz.f149 0) Ab3 Ab2 v:=by
 rintro⟨a0,a1,a2,a3,⟨⟩⟩
 kernel_rfl
theorem AmU:AD (AB Tryz.f149 0) 1=[]:=by kernel_rfl
theorem AmV:AY Tryz.prog 0 (.loop (AB Tryz.f149 0)) (AZU.loop 0):=AT OX (AZQ) (AA AmU trivial)
theorem Aj1:∀ v,AOY v=AL 0 Tryz.prog UL AZU Tryz.f149 AZT AZS AZR v:=by
 rintro⟨a0,⟨⟩⟩
 kernel_rfl
theorem Anu:AD (AR Tryz.f149) 0=[(0,AB Tryz.f149 0)]:=by kernel_rfl
theorem Afi:AN Tryz.prog 149 (AF 0 1 AZT AZS AZR ends):=AG OX Tryz.func149 (by kernel_rfl) (by kernel_rfl) rfl (fun v=>(Ab4 v).trans (Aj1 v)) (AA Anu ⟨AmV,trivial⟩)
def APb:Env:=UL.ext 149 true true (AF 0 1 AZT AZS AZR ends)
theorem Yc:AW Tryz.prog APb:=Env.Aa OX Afi (fun _=>AI rfl rfl) (fun _=>AH rfl rfl)
abbrev RO:Hints:={ loop:=fun n=>match n with|0=>AZ 0 48 Zg Zf Bv|_=>fun _ _ _=>none,fp:=fun n=>match n with|1=>[[0],[],[],[4],[]]|_=>[] }
theorem AFw:∀ v,Bv v=roundOf Tryz.prog APb RO 1 0 48 (AB Tryz.f130 0) Zg Zf v:=by
 rintro⟨a0,a1,a2,a3,a4,a5,a6,⟨⟩⟩
 kernel_rfl
theorem AT5:AD (AB Tryz.f130 0) 1=[]:=by kernel_rfl
theorem AT6:AY Tryz.prog 0 (.loop (AB Tryz.f130 0)) (RO.loop 0):=AT Yc (AFw) (AA AT5 trivial)
theorem AOZ:∀ v,IZ v=AL 0 Tryz.prog APb RO Tryz.f130 RN RL RJ v:=by
 rintro⟨a0,a1,⟨⟩⟩
 kernel_rfl
theorem AZV:AD (AR Tryz.f130) 0=[(0,AB Tryz.f130 0)]:=by kernel_rfl
theorem AIh:AN Tryz.prog 130 (AF 0 3 RN RL RJ TL):=AG Yc Tryz.func130 (by kernel_rfl) (by kernel_rfl) rfl (fun v=>(N4 v).trans (AOZ v)) (AA AZV ⟨AT6,trivial⟩)
def Rk:Env:=APb.CD 130 2 131 (AF 0 3 RN RL RJ TL)
theorem P9:AW Tryz.prog Rk:=Env.Az Yc AIh (AH rfl rfl)
abbrev Aju:Hints:={  }
theorem AZJ:∀ v,N0 v=AL 0 Tryz.prog Rk Aju Tryz.f108 AFi AFh AFg v:=by
 rintro⟨a0,a1,⟨⟩⟩
 kernel_rfl
theorem Ajt:AD (AR Tryz.f108) 0=[]:=by kernel_rfl
theorem ATu:AN Tryz.prog 108 (AF 0 2 AFi AFh AFg AOR):=AG P9 Tryz.func108 (by kernel_rfl) (by kernel_rfl) rfl (fun v=>(XZ v).trans (AZJ v)) (AA Ajt trivial)
def AHX:Env:=Rk.ext 108 true true (AF 0 2 AFi AFh AFg AOR)
theorem Z6:AW Tryz.prog AHX:=Env.Aa P9 ATu (fun _=>AI rfl rfl) (fun _=>AH rfl rfl)
abbrev AoP:Hints:={  }
theorem AmR:∀ v,ATt v=AL 0 Tryz.prog AHX AoP Tryz.f83 Ajs Ajr Ajq v:=by
 rintro⟨a0,a1,⟨⟩⟩
 kernel_rfl
theorem AoO:AD (AR Tryz.f83) 0=[]:=by kernel_rfl
theorem Ajp:AN Tryz.prog 83 (AF 0 2 Ajs Ajr Ajq fof):=AG Z6 Tryz.func83 (by kernel_rfl) (by kernel_rfl) rfl (fun v=>(AZI v).trans (AmR v)) (AA AoO trivial)
def AcJ:Env:=AHX.ext 83 true true (AF 0 2 Ajs Ajr Ajq fof)
theorem AHW:AW Tryz.prog AcJ:=Env.Aa Z6 Ajp (fun _=>AI rfl rfl) (fun _=>AH rfl rfl)
abbrev Aij:Hints:={ loop:=fun n=>match n with|0=>AZ 0 18 Aih Aif Fz|_=>fun _ _ _=>none }
theorem AeJ:∀ v,Fz v=roundOf Tryz.prog AcJ Aij 1 0 18 (AB Tryz.f61 0) Aih Aif v:=by
 rintro⟨a0,a1,a2,a3,⟨⟩⟩
 kernel_rfl
theorem AnW:AD (AB Tryz.f61 0) 1=[]:=by kernel_rfl
theorem AnX:AY Tryz.prog 0 (.loop (AB Tryz.f61 0)) (Aij.loop 0):=AT AHW (AeJ) (AA AnW trivial)
theorem Aln:∀ v,AJ7 v=AL 0 Tryz.prog AcJ Aij Tryz.f61 Aii Aig Aie v:=by
 rintro⟨a0,⟨⟩⟩
 kernel_rfl
theorem AoK:AD (AR Tryz.f61) 0=[(0,AB Tryz.f61 0)]:=by kernel_rfl
theorem Aid:AN Tryz.prog 61 (AF 0 1 Aii Aig Aie orI):=AG AHW Tryz.func61 (by kernel_rfl) (by kernel_rfl) rfl (fun v=>(ANM v).trans (Aln v)) (AA AoK ⟨AnX,trivial⟩)
def Ake:Env:=AcJ.ext 61 true true (AF 0 1 Aii Aig Aie orI)
theorem AUw:AW Tryz.prog Ake:=Env.Aa AHW Aid (fun _=>AI rfl rfl) (fun _=>AH rfl rfl)
abbrev Ai0:Hints:={  }
theorem AYV:∀ v,Ng v=AL 0 Tryz.prog Ake Ai0 Tryz.f104 AEo AEn AEm v:=by
 rintro⟨a0,⟨⟩⟩
 kernel_rfl
theorem Aiz:AD (AR Tryz.f104) 0=[]:=by kernel_rfl
theorem AS6:AN Tryz.prog 104 (AF 0 1 AEo AEn AEm W7):=AG AUw Tryz.func104 (by kernel_rfl) (by kernel_rfl) rfl (fun v=>(W6 v).trans (AYV v)) (AA Aiz trivial)
def AHS:Env:=Ake.ext 104 true true (AF 0 1 AEo AEn AEm W7)
theorem Z3:AW Tryz.prog AHS:=Env.Aa AUw AS6 (fun _=>AI rfl rfl) (fun _=>AH rfl rfl)
end
end Go.Pev
end
section
namespace Go.Pev
open Go.Proofs
noncomputable section
abbrev Ank:Hints:={  }
theorem Aiy:∀ v,AYU v=AL 0 Tryz.prog AHS Ank Tryz.f105 AYT AYS AYR v:=by
 rintro⟨a0,⟨⟩⟩
 kernel_rfl
theorem Anj:AD (AR Tryz.f105) 0=[]:=by kernel_rfl
theorem Aer:AN Tryz.prog 105 (AF 0 1 AYT AYS AYR ANo):=AG Z3 Tryz.func105 (by kernel_rfl) (by kernel_rfl) rfl (fun v=>(Aly v).trans (Aiy v)) (AA Anj trivial)
def Aab:Env:=AHS.ext 105 true true (AF 0 1 AYT AYS AYR ANo)
theorem AK4:AW Tryz.prog Aab:=Env.Aa Z3 Aer (fun _=>AI rfl rfl) (fun _=>AH rfl rfl)
abbrev AYi:Hints:={ fp:=fun n=>match n with|1=>[[0],[0],[2],[2],[],[0],[0],[2],[2],[],[],[20],[]]|_=>[] }
theorem ANy:∀ v,Lj v=AL 0 Tryz.prog Aab AYi Tryz.f106 Qv Qu Qt v:=by
 rintro⟨a0,a1,⟨⟩⟩
 kernel_rfl
theorem AYh:AD (AR Tryz.f106) 0=[]:=by kernel_rfl
theorem AIR:AN Tryz.prog 106 (AF 0 2 Qv Qu Qt Kj):=AG AK4 Tryz.func106 (by kernel_rfl) (by kernel_rfl) rfl (fun v=>(ZU v).trans (ANy v)) (AA AYh trivial)
def Mf:Env:=Aab.ext 106 true true (AF 0 2 Qv Qu Qt Kj)
theorem KJ:AW Tryz.prog Mf:=Env.Aa AK4 AIR (fun _=>AI rfl rfl) (fun _=>AH rfl rfl)
abbrev AEl:Hints:={ loop:=fun n=>match n with|0=>AZ 0 33 AKJ AKI Cn|_=>fun _ _ _=>none }
theorem ANn:∀ v,Cn v=roundOf Tryz.prog Mf AEl 1 0 33 (AB Tryz.f84 0) AKJ AKI v:=by
 rintro⟨a0,a1,a2,a3,a4,⟨⟩⟩
 kernel_rfl
theorem Aep:AD (AB Tryz.f84 0) 1=[]:=by kernel_rfl
theorem Aeq:AY Tryz.prog 0 (.loop (AB Tryz.f84 0)) (AEl.loop 0):=AT KJ (ANn) (AA Aep trivial)
theorem AYQ:∀ v,Nf v=AL 0 Tryz.prog Mf AEl Tryz.f84 AEk AEj AEi v:=by
 rintro⟨a0,a1,⟨⟩⟩
 kernel_rfl
theorem Aix:AD (AR Tryz.f84) 0=[(0,AB Tryz.f84 0)]:=by kernel_rfl
theorem AS2:AN Tryz.prog 84 (AF 0 2 AEk AEj AEi Qr):=AG KJ Tryz.func84 (by kernel_rfl) (by kernel_rfl) rfl (fun v=>(W5 v).trans (AYQ v)) (AA Aix ⟨Aeq,trivial⟩)
def UG:Env:=Mf.ext 84 true true (AF 0 2 AEk AEj AEi Qr)
theorem OV:AW Tryz.prog UG:=Env.Aa KJ AS2 (fun _=>AI rfl rfl) (fun _=>AH rfl rfl)
abbrev AEs:Hints:={ loop:=fun n=>match n with|0=>AZ 0 96 AKL AKK Dy|_=>fun _ _ _=>none,fp:=fun n=>match n with|7=>[[2],[2],[],[],[2],[2],[2],[2],[],[],[],[2],[2],[0],[0],[],[],[],[2],[2],[],[],[],[2],[2],[],[],[],[],[],[],[],[0],[0],[],[],[],[],[2],[],[],[],[]]|_=>[] }
theorem ANp:∀ v,Dy v=roundOf Tryz.prog UG AEs 1 0 96 (AB Tryz.f82 0) AKL AKK v:=by
 rintro⟨a0,a1,a2,a3,a4,a5,⟨⟩⟩
 kernel_rfl
theorem Aes:AD (AB Tryz.f82 0) 1=[]:=by kernel_rfl
theorem Aet:AY Tryz.prog 0 (.loop (AB Tryz.f82 0)) (AEs.loop 0):=AT OV (ANp) (AA Aes trivial)
theorem AYW:∀ v,IK v=AL 0 Tryz.prog UG AEs Tryz.f82 AEr AEq AEp v:=by
 rintro⟨a0,⟨⟩⟩
 kernel_rfl
theorem Ai1:AD (AR Tryz.f82) 0=[(0,AB Tryz.f82 0)]:=by kernel_rfl
theorem AS7:AN Tryz.prog 82 (AF 0 1 AEr AEq AEp Ld):=AG OV Tryz.func82 (by kernel_rfl) (by kernel_rfl) rfl (fun v=>(Kh v).trans (AYW v)) (AA Ai1 ⟨Aet,trivial⟩)
def Kx:Env:=UG.ext 82 true true (AF 0 1 AEr AEq AEp Ld)
theorem G5:AW Tryz.prog Kx:=Env.Aa OV AS7 (fun _=>AI rfl rfl) (fun _=>AH rfl rfl)
abbrev Dl:Hints:={ loop:=fun n=>match n with|0=>AZ 0 83 Tb TY DE|1=>AZ 0 83 Ta TX D7|2=>AZ 0 83 TZ TW DD|_=>fun _ _ _=>none,fp:=fun n=>match n with|14=>[[],[],[0],[0],[],[],[0],[0],[],[]]|13=>[[],[],[],[],[],[],[],[],[],[],[],[],[],[],[],[],[],[],[],[0],[0],[],[],[0],[0],[],[]]|12=>[[],[],[],[],[],[],[],[],[],[],[],[]]|_=>[] }
theorem AAa:∀ v,DD v=roundOf Tryz.prog Kx Dl 3 0 83 (AB Tryz.f49 2) TZ TW v:=by
 rintro⟨a0,a1,a2,a3,a4,⟨⟩⟩
 kernel_rfl
theorem AOk:AD (AB Tryz.f49 2) 3=[]:=by kernel_rfl
theorem AOn:AY Tryz.prog 0 (.loop (AB Tryz.f49 2)) (Dl.loop 2):=AT G5 (AAa) (AA AOk trivial)
theorem AAb:∀ v,D7 v=roundOf Tryz.prog Kx Dl 2 0 83 (AB Tryz.f49 1) Ta TX v:=by
 rintro⟨a0,a1,a2,a3,⟨⟩⟩
 kernel_rfl
theorem AOl:AD (AB Tryz.f49 1) 2=[(2,AB Tryz.f49 2)]:=by kernel_rfl
theorem AOo:AY Tryz.prog 0 (.loop (AB Tryz.f49 1)) (Dl.loop 1):=AT G5 (AAb) (AA AOl ⟨AOn,trivial⟩)
theorem AAc:∀ v,DE v=roundOf Tryz.prog Kx Dl 1 0 83 (AB Tryz.f49 0) Tb TY v:=by
 rintro⟨a0,a1,a2,a3,⟨⟩⟩
 kernel_rfl
theorem AOm:AD (AB Tryz.f49 0) 1=[]:=by kernel_rfl
theorem AOp:AY Tryz.prog 0 (.loop (AB Tryz.f49 0)) (Dl.loop 0):=AT G5 (AAc) (AA AOm trivial)
theorem AIs:∀ v,JZ v=AL 0 Tryz.prog Kx Dl Tryz.f49 OG OF OE v:=by
 rintro⟨a0,a1,⟨⟩⟩
 kernel_rfl
theorem AUJ:AD (AR Tryz.f49) 0=[(0,AB Tryz.f49 0),(1,AB Tryz.f49 1)]:=by kernel_rfl
theorem AGL:AN Tryz.prog 49 (AF 0 2 OG OF OE Hm):=AG G5 Tryz.func49 (by kernel_rfl) (by kernel_rfl) rfl (fun v=>(Tc v).trans (AIs v)) (AA AUJ ⟨AOp,AOo,trivial⟩)
def Jl:Env:=Kx.ext 49 true true (AF 0 2 OG OF OE Hm)
theorem Iy:AW Tryz.prog Jl:=Env.Aa G5 AGL (fun _=>AI rfl rfl) (fun _=>AH rfl rfl)
abbrev ALh:Hints:={ loop:=fun n=>match n with|0=>AZ 0 20 AQG AQF AB5|_=>fun _ _ _=>none }
theorem AQE:∀ v,AB5 v=roundOf Tryz.prog Jl ALh 1 0 20 (AB Tryz.f52 0) AQG AQF v:=by
 rintro⟨a0,a1,⟨⟩⟩
 kernel_rfl
theorem Agp:AD (AB Tryz.f52 0) 1=[]:=by kernel_rfl
theorem Agq:AY Tryz.prog 0 (.loop (AB Tryz.f52 0)) (ALh.loop 0):=AT Iy (AQE) (AA Agp trivial)
theorem Acp:∀ v,ALi v=AL 0 Tryz.prog Jl ALh Tryz.f52 ALg ALf ALe v:=by
 rintro⟨a0,⟨⟩⟩
 kernel_rfl
theorem Akr:AD (AR Tryz.f52) 0=[(0,AB Tryz.f52 0)]:=by kernel_rfl
theorem AVV:AN Tryz.prog 52 (AF 0 1 ALg ALf ALe Pn):=AG Iy Tryz.func52 (by kernel_rfl) (by kernel_rfl) rfl (fun v=>(Agr v).trans (Acp v)) (AA Akr ⟨Agq,trivial⟩)
def Tp:Env:=Jl.ext 52 true true (AF 0 1 ALg ALf ALe Pn)
theorem MQ:AW Tryz.prog Tp:=Env.Aa Iy AVV (fun _=>AI rfl rfl) (fun _=>AH rfl rfl)
abbrev KW:Hints:={ loop:=fun n=>match n with|0=>AZ 0 138 AC4 AC2 Cz|1=>AZ 0 138 AC3 AC1 Db|_=>fun _ _ _=>none,fp:=fun n=>match n with|10=>[[],[],[],[0],[0],[],[],[],[],[],[4],[4],[],[],[0],[0],[],[],[],[],[],[4],[4],[],[],[0],[0],[],[],[],[],[],[4],[4],[],[],[],[]]|8=>[[4],[4],[],[],[4],[4],[4],[4],[],[],[],[4],[4],[0],[0],[],[],[],[4],[4],[],[],[],[4],[4],[0],[0],[],[],[]]|_=>[] }
theorem AHs:∀ v,Db v=roundOf Tryz.prog Tp KW 2 0 138 (AB Tryz.f48 1) AC3 AC1 v:=by
 rintro⟨a0,a1,a2,a3,a4,a5,⟨⟩⟩
 kernel_rfl
theorem AWT:AD (AB Tryz.f48 1) 2=[]:=by kernel_rfl
theorem AWV:AY Tryz.prog 0 (.loop (AB Tryz.f48 1)) (KW.loop 1):=AT MQ (AHs) (AA AWT trivial)
theorem AHt:∀ v,Cz v=roundOf Tryz.prog Tp KW 1 0 138 (AB Tryz.f48 0) AC4 AC2 v:=by
 rintro⟨a0,a1,a2,a3,⟨⟩⟩
 kernel_rfl
theorem AWU:AD (AB Tryz.f48 0) 1=[]:=by kernel_rfl
theorem AWW:AY Tryz.prog 0 (.loop (AB Tryz.f48 0)) (KW.loop 0):=AT MQ (AHt) (AA AWU trivial)
theorem AQ8:∀ v,Ew v=AL 0 Tryz.prog Tp KW Tryz.f48 Vy Vx Vw v:=by
 rintro⟨a0,⟨⟩⟩
 kernel_rfl
theorem Adb:AD (AR Tryz.f48) 0=[(0,AB Tryz.f48 0),(1,AB Tryz.f48 1)]:=by kernel_rfl
theorem AMb:AN Tryz.prog 48 (AF 0 1 Vy Vx Vw FF):=AG MQ Tryz.func48 (by kernel_rfl) (by kernel_rfl) rfl (fun v=>(Fs v).trans (AQ8 v)) (AA Adb ⟨AWW,AWV,trivial⟩)
def YM:Env:=Tp.ext 48 true true (AF 0 1 Vy Vx Vw FF)
theorem T4:AW Tryz.prog YM:=Env.Aa MQ AMb (fun _=>AI rfl rfl) (fun _=>AH rfl rfl)
abbrev Anr:Hints:={  }
theorem AjK:∀ v,AN2 v=AL 0 Tryz.prog YM Anr Tryz.f94 AY1 AY0 AYz v:=by
 rintro⟨a0,a1,⟨⟩⟩
 kernel_rfl
theorem Anq:AD (AR Tryz.f94) 0=[]:=by kernel_rfl
theorem AfD:AN Tryz.prog 94 (AF 0 2 AY1 AY0 AYz AFH):=AG T4 Tryz.func94 (by kernel_rfl) (by kernel_rfl) rfl (fun v=>(Abn v).trans (AjK v)) (AA Anq trivial)
def Aac:Env:=YM.ext 94 true true (AF 0 2 AY1 AY0 AYz AFH)
theorem AK5:AW Tryz.prog Aac:=Env.Aa T4 AfD (fun _=>AI rfl rfl) (fun _=>AH rfl rfl)
abbrev Acr:Hints:={ fp:=fun n=>match n with|5=>[[],[],[],[],[],[],[],[],[],[],[],[]]|_=>[] }
theorem AQH:∀ v,Ol v=AL 0 Tryz.prog Aac Acr Tryz.f142 VT VS VR v:=by
 rintro⟨a0,a1,⟨⟩⟩
 kernel_rfl
theorem Acq:AD (AR Tryz.f142) 0=[]:=by kernel_rfl
theorem ALj:AN Tryz.prog 142 (AF 0 2 VT VS VR Om):=AG AK5 Tryz.func142 (by kernel_rfl) (by kernel_rfl) rfl (fun v=>(AB6 v).trans (AQH v)) (AA Acq trivial)
def YK:Env:=Aac.ext 142 true true (AF 0 2 VT VS VR Om)
theorem Tq:AW Tryz.prog YK:=Env.Aa AK5 ALj (fun _=>AI rfl rfl) (fun _=>AH rfl rfl)
abbrev Amk:Hints:={  }
theorem AgH:∀ v,AA7 v=AL 0 Tryz.prog YK Amk Tryz.f143 APG APF APE v:=by
 rintro⟨a0,a1,a2,⟨⟩⟩
 kernel_rfl
theorem Amj:AD (AR Tryz.f143) 0=[]:=by kernel_rfl
theorem AaK:AN Tryz.prog 143 (AF 0 3 APG APF APE AGw):=AG Tq Tryz.func143 (by kernel_rfl) (by kernel_rfl) rfl (fun v=>(AUj v).trans (AgH v)) (AA Amj trivial)
def ABD:Env:=YK.ext 143 true true (AF 0 3 APG APF APE AGw)
theorem Rn:AW Tryz.prog ABD:=Env.Aa Tq AaK (fun _=>AI rfl rfl) (fun _=>AH rfl rfl)
abbrev AEh:Hints:={ loop:=fun n=>match n with|0=>AZ 0 28 AKG AKF F6|_=>fun _ _ _=>none }
theorem ANm:∀ v,F6 v=roundOf Tryz.prog ABD AEh 1 0 28 (AB Tryz.f125 0) AKG AKF v:=by
 rintro⟨a0,a1,a2,a3,a4,⟨⟩⟩
 kernel_rfl
theorem Aem:AD (AB Tryz.f125 0) 1=[]:=by kernel_rfl
theorem Aen:AY Tryz.prog 0 (.loop (AB Tryz.f125 0)) (AEh.loop 0):=AT Rn (ANm) (AA Aem trivial)
theorem AYN:∀ v,Sk v=AL 0 Tryz.prog ABD AEh Tryz.f125 AEg AEf AEe v:=by
 rintro⟨a0,⟨⟩⟩
 kernel_rfl
theorem Aiw:AD (AR Tryz.f125) 0=[(0,AB Tryz.f125 0)]:=by kernel_rfl
theorem AS0:AN Tryz.prog 125 (AF 0 1 AEg AEf AEe W4):=AG Rn Tryz.func125 (by kernel_rfl) (by kernel_rfl) rfl (fun v=>(AKH v).trans (AYN v)) (AA Aiw ⟨Aen,trivial⟩)
def AHR:Env:=ABD.ext 125 true true (AF 0 1 AEg AEf AEe W4)
theorem Z2:AW Tryz.prog AHR:=Env.Aa Rn AS0 (fun _=>AI rfl rfl) (fun _=>AH rfl rfl)
abbrev AVo:Hints:={  }
theorem ALx:∀ v,LF v=AL 0 Tryz.prog AHR AVo Tryz.f144 QP QO QN v:=by
 rintro⟨a0,a1,a2,⟨⟩⟩
 kernel_rfl
theorem AVn:AD (AR Tryz.f144) 0=[]:=by kernel_rfl
theorem AHn:AN Tryz.prog 144 (AF 0 3 QP QO QN NC):=AG Z2 Tryz.func144 (by kernel_rfl) (by kernel_rfl) rfl (fun v=>(Yp v).trans (ALx v)) (AA AVn trivial)
def GS:Env:=AHR.ext 144 true true (AF 0 3 QP QO QN NC)
theorem EJ:AW Tryz.prog GS:=Env.Aa Z2 AHn (fun _=>AI rfl rfl) (fun _=>AH rfl rfl)
end
end Go.Pev
end
section
namespace Go.Pev
open Go.Proofs
noncomputable section
abbrev Hx:Hints:={ loop:=fun n=>match n with|0=>AZ 0 129 AJO AJL He|1=>AZ 0 129 AJN AJK Ci|2=>AZ 0 129 AJM AJJ Fl|_=>fun _ _ _=>none,fp:=fun n=>match n with|7=>[[],[],[0],[0],[],[],[],[],[0],[],[0],[0],[],[],[],[],[0],[],[0],[0],[],[],[]]|_=>[] }
theorem ALY:∀ v,Fl v=roundOf Tryz.prog GS Hx 3 0 129 (AB Tryz.f127 2) AJM AJJ v:=by
 rintro⟨a0,a1,a2,a3,a4,a5,a6,a7,a8,a9,a10,a11,a12,a13,a14,a15,a16,a17,a18,a19,a20,a21,a22,a23,a24,a25,a26,a27,⟨⟩⟩
 kernel_rfl
theorem Ace:AD (AB Tryz.f127 2) 3=[]:=by kernel_rfl
theorem Ach:AY Tryz.prog 0 (.loop (AB Tryz.f127 2)) (Hx.loop 2):=AT EJ (ALY) (AA Ace trivial)
theorem ALZ:∀ v,Ci v=roundOf Tryz.prog GS Hx 2 0 129 (AB Tryz.f127 1) AJN AJK v:=by
 rintro⟨a0,a1,a2,a3,⟨⟩⟩
 kernel_rfl
theorem Acf:AD (AB Tryz.f127 1) 2=[(2,AB Tryz.f127 2)]:=by kernel_rfl
theorem Aci:AY Tryz.prog 0 (.loop (AB Tryz.f127 1)) (Hx.loop 1):=AT EJ (ALZ) (AA Acf ⟨Ach,trivial⟩)
theorem ALa:∀ v,He v=roundOf Tryz.prog GS Hx 1 0 129 (AB Tryz.f127 0) AJO AJL v:=by
 rintro⟨a0,a1,⟨⟩⟩
 kernel_rfl
theorem Acg:AD (AB Tryz.f127 0) 1=[(1,AB Tryz.f127 1)]:=by kernel_rfl
theorem Acj:AY Tryz.prog 0 (.loop (AB Tryz.f127 0)) (Hx.loop 0):=AT EJ (ALa) (AA Acg ⟨Aci,trivial⟩)
theorem AVQ:∀ v,R5 v=AL 0 Tryz.prog GS Hx Tryz.f127 ABv ABu ABt v:=by
 rintro⟨a0,a1,⟨⟩⟩
 kernel_rfl
theorem Agk:AD (AR Tryz.f127) 0=[(0,AB Tryz.f127 0)]:=by kernel_rfl
theorem AP6:AN Tryz.prog 127 (AF 0 2 ABv ABu ABt ABw):=AG EJ Tryz.func127 (by kernel_rfl) (by kernel_rfl) rfl (fun v=>(AJP v).trans (AVQ v)) (AA Agk ⟨Acj,trivial⟩)
def Tn:Env:=GS.ext 127 true true (AF 0 2 ABv ABu ABt ABw)
theorem OP:AW Tryz.prog Tn:=Env.Aa EJ AP6 (fun _=>AI rfl rfl) (fun _=>AH rfl rfl)
abbrev WZ:Hints:={ loop:=fun n=>match n with|0=>AZ 0 19 ADZ ADY EY|_=>fun _ _ _=>none }
theorem AH2:∀ v,EY v=roundOf Tryz.prog Tn WZ 1 0 19 (AB Tryz.f68 0) ADZ ADY v:=by
 rintro⟨a0,a1,a2,⟨⟩⟩
 kernel_rfl
theorem AW9:AD (AB Tryz.f68 0) 1=[]:=by kernel_rfl
theorem AXA:AY Tryz.prog 0 (.loop (AB Tryz.f68 0)) (WZ.loop 0):=AT OP (AH2) (AA AW9 trivial)
theorem ARP:∀ v,O3 v=AL 0 Tryz.prog Tn WZ Tryz.f68 WY WX WW v:=by
 rintro⟨a0,a1,⟨⟩⟩
 kernel_rfl
theorem Adw:AD (AR Tryz.f68) 0=[(0,AB Tryz.f68 0)]:=by kernel_rfl
theorem AMx:AN Tryz.prog 68 (AF 0 2 WY WX WW I9):=AG OP Tryz.func68 (by kernel_rfl) (by kernel_rfl) rfl (fun v=>(ADa v).trans (ARP v)) (AA Adw ⟨AXA,trivial⟩)
def PZ:Env:=Tn.ext 68 true true (AF 0 2 WY WX WW I9)
theorem Mc:AW Tryz.prog PZ:=Env.Aa OP AMx (fun _=>AI rfl rfl) (fun _=>AH rfl rfl)
abbrev WJ:Hints:={ loop:=fun n=>match n with|0=>AZ 0 36 ADC ADB Dc|_=>fun _ _ _=>none,fp:=fun n=>match n with|6=>[[],[],[],[],[],[],[],[],[],[],[],[],[],[],[],[],[],[],[],[],[],[],[]]|_=>[] }
theorem AHx:∀ v,Dc v=roundOf Tryz.prog PZ WJ 1 0 36 (AB Tryz.f77 0) ADC ADB v:=by
 rintro⟨a0,a1,⟨⟩⟩
 kernel_rfl
theorem AWc:AD (AB Tryz.f77 0) 1=[]:=by kernel_rfl
theorem AWd:AY Tryz.prog 0 (.loop (AB Tryz.f77 0)) (WJ.loop 0):=AT Mc (AHx) (AA AWc trivial)
theorem ARB:∀ v,Ox v=AL 0 Tryz.prog PZ WJ Tryz.f77 WI WH WG v:=by
 rintro⟨a0,⟨⟩⟩
 kernel_rfl
theorem Adg:AD (AR Tryz.f77) 0=[(0,AB Tryz.f77 0)]:=by kernel_rfl
theorem AMe:AN Tryz.prog 77 (AF 0 1 WI WH WG HS):=AG Mc Tryz.func77 (by kernel_rfl) (by kernel_rfl) rfl (fun v=>(ADD v).trans (ARB v)) (AA Adg ⟨AWd,trivial⟩)
def YO:Env:=PZ.ext 77 true true (AF 0 1 WI WH WG HS)
theorem T6:AW Tryz.prog YO:=Env.Aa Mc AMe (fun _=>AI rfl rfl) (fun _=>AH rfl rfl)
abbrev Ajo:Hints:={ fp:=fun n=>match n with|4=>[[],[],[],[],[17],[],[],[],[19],[],[]]|_=>[] }
theorem AZE:∀ v,TD v=AL 0 Tryz.prog YO Ajo Tryz.f145 AFf AFe AFd v:=by
 rintro⟨a0,a1,⟨⟩⟩
 kernel_rfl
theorem Ajn:AD (AR Tryz.f145) 0=[]:=by kernel_rfl
theorem ATr:AN Tryz.prog 145 (AF 0 2 AFf AFe AFd RB):=AG T6 Tryz.func145 (by kernel_rfl) (by kernel_rfl) rfl (fun v=>(AKY v).trans (AZE v)) (AA Ajn trivial)
def UM:Env:=YO.ext 145 true true (AF 0 2 AFf AFe AFd RB)
theorem OY:AW Tryz.prog UM:=Env.Aa T6 ATr (fun _=>AI rfl rfl) (fun _=>AH rfl rfl)
abbrev WR:Hints:={ loop:=fun n=>match n with|0=>AZ 0 37 ADP ADO EW|_=>fun _ _ _=>none }
theorem AH0:∀ v,EW v=roundOf Tryz.prog UM WR 1 0 37 (AB Tryz.f128 0) ADP ADO v:=by
 rintro⟨a0,a1,a2,⟨⟩⟩
 kernel_rfl
theorem AW2:AD (AB Tryz.f128 0) 1=[]:=by kernel_rfl
theorem AW3:AY Tryz.prog 0 (.loop (AB Tryz.f128 0)) (WR.loop 0):=AT OY (AH0) (AA AW2 trivial)
theorem ARM:∀ v,O0 v=AL 0 Tryz.prog UM WR Tryz.f128 WQ WN WM v:=by
 rintro⟨a0,⟨⟩⟩
 kernel_rfl
theorem Ads:AD (AR Tryz.f128) 0=[(0,AB Tryz.f128 0)]:=by kernel_rfl
theorem AMu:AN Tryz.prog 128 (AF 0 1 WQ WN WM O1):=AG OY Tryz.func128 (by kernel_rfl) (by kernel_rfl) rfl (fun v=>(ADQ v).trans (ARM v)) (AA Ads ⟨AW3,trivial⟩)
def PX:Env:=UM.ext 128 true true (AF 0 1 WQ WN WM O1)
theorem Ma:AW Tryz.prog PX:=Env.Aa OY AMu (fun _=>AI rfl rfl) (fun _=>AH rfl rfl)
abbrev XC:Hints:={ loop:=fun n=>match n with|0=>AZ 0 27 AEv AEu Dg|_=>fun _ _ _=>none,fp:=fun n=>match n with|6=>[[],[],[],[],[],[],[],[],[],[]]|_=>[] }
theorem AIO:∀ v,Dg v=roundOf Tryz.prog PX XC 1 0 27 (AB Tryz.f21 0) AEv AEu v:=by
 rintro⟨a0,a1,a2,⟨⟩⟩
 kernel_rfl
theorem AYY:AD (AB Tryz.f21 0) 1=[]:=by kernel_rfl
theorem AYZ:AY Tryz.prog 0 (.loop (AB Tryz.f21 0)) (XC.loop 0):=AT Ma (AIO) (AA AYY trivial)
theorem AS9:∀ v,O6 v=AL 0 Tryz.prog PX XC Tryz.f21 XB XA W9 v:=by
 rintro⟨a0,a1,⟨⟩⟩
 kernel_rfl
theorem Aex:AD (AR Tryz.f21) 0=[(0,AB Tryz.f21 0)]:=by kernel_rfl
theorem ANr:AN Tryz.prog 21 (AF 0 2 XB XA W9 Lf):=AG Ma Tryz.func21 (by kernel_rfl) (by kernel_rfl) rfl (fun v=>(AEw v).trans (AS9 v)) (AA Aex ⟨AYZ,trivial⟩)
def Ky:Env:=PX.ext 21 true true (AF 0 2 XB XA W9 Lf)
theorem Ha:AW Tryz.prog Ky:=Env.Aa Ma ANr (fun _=>AI rfl rfl) (fun _=>AH rfl rfl)
abbrev KX:Hints:={ loop:=fun n=>match n with|0=>AZ 0 106 AC8 AC6 C1|1=>AZ 0 106 AC7 AC5 C0|_=>fun _ _ _=>none,fp:=fun n=>match n with|16=>[[],[],[],[],[0],[0],[]]|_=>[] }
theorem AHu:∀ v,C0 v=roundOf Tryz.prog Ky KX 2 0 106 (AB Tryz.f93 1) AC7 AC5 v:=by
 rintro⟨a0,a1,a2,a3,a4,a5,a6,a7,a8,a9,a10,a11,a12,a13,a14,a15,a16,a17,a18,a19,a20,a21,a22,a23,a24,a25,⟨⟩⟩
 kernel_rfl
theorem AWX:AD (AB Tryz.f93 1) 2=[]:=by kernel_rfl
theorem AWZ:AY Tryz.prog 0 (.loop (AB Tryz.f93 1)) (KX.loop 1):=AT Ha (AHu) (AA AWX trivial)
theorem AHv:∀ v,C1 v=roundOf Tryz.prog Ky KX 1 0 106 (AB Tryz.f93 0) AC8 AC6 v:=by
 rintro⟨a0,a1,a2,a3,a4,a5,⟨⟩⟩
 kernel_rfl
theorem AWY:AD (AB Tryz.f93 0) 1=[(1,AB Tryz.f93 1)]:=by kernel_rfl
theorem AWa:AY Tryz.prog 0 (.loop (AB Tryz.f93 0)) (KX.loop 0):=AT Ha (AHv) (AA AWY ⟨AWZ,trivial⟩)
theorem AQ9:∀ v,Ov v=AL 0 Tryz.prog Ky KX Tryz.f93 WB WA Vz v:=by
 rintro⟨a0,⟨⟩⟩
 kernel_rfl
theorem Adc:AD (AR Tryz.f93) 0=[(0,AB Tryz.f93 0)]:=by kernel_rfl
theorem AMc:AN Tryz.prog 93 (AF 0 1 WB WA Vz LN):=AG Ha Tryz.func93 (by kernel_rfl) (by kernel_rfl) rfl (fun v=>(AC9 v).trans (AQ9 v)) (AA Adc ⟨AWa,trivial⟩)
def PW:Env:=Ky.ext 93 true true (AF 0 1 WB WA Vz LN)
theorem MZ:AW Tryz.prog PW:=Env.Aa Ha AMc (fun _=>AI rfl rfl) (fun _=>AH rfl rfl)
abbrev WV:Hints:={ loop:=fun n=>match n with|0=>AZ 0 22 ADW ADV EX|_=>fun _ _ _=>none }
theorem AH1:∀ v,EX v=roundOf Tryz.prog PW WV 1 0 22 (AB Tryz.f95 0) ADW ADV v:=by
 rintro⟨a0,a1,a2,a3,⟨⟩⟩
 kernel_rfl
theorem AW7:AD (AB Tryz.f95 0) 1=[]:=by kernel_rfl
theorem AW8:AY Tryz.prog 0 (.loop (AB Tryz.f95 0)) (WV.loop 0):=AT MZ (AH1) (AA AW7 trivial)
theorem ARO:∀ v,O2 v=AL 0 Tryz.prog PW WV Tryz.f95 WU WT WS v:=by
 rintro⟨a0,a1,⟨⟩⟩
 kernel_rfl
theorem Adv:AD (AR Tryz.f95) 0=[(0,AB Tryz.f95 0)]:=by kernel_rfl
theorem AMw:AN Tryz.prog 95 (AF 0 2 WU WT WS HT):=AG MZ Tryz.func95 (by kernel_rfl) (by kernel_rfl) rfl (fun v=>(ADX v).trans (ARO v)) (AA Adv ⟨AW8,trivial⟩)
def PY:Env:=PW.ext 95 true true (AF 0 2 WU WT WS HT)
theorem Mb:AW Tryz.prog PY:=Env.Aa MZ AMw (fun _=>AI rfl rfl) (fun _=>AH rfl rfl)
abbrev AMr:Hints:={ loop:=fun n=>match n with|0=>AZ 0 38 ARG ARF IA|_=>fun _ _ _=>none,fp:=fun n=>match n with|3=>[[],[],[],[],[],[],[],[],[],[],[],[],[0],[0],[],[]]|5=>[[],[],[],[],[3],[],[0],[5,6],[],[],[],[9],[]]|_=>[] }
theorem ARE:∀ v,IA v=roundOf Tryz.prog PY AMr 1 0 38 (AB Tryz.f157 0) ARG ARF v:=by
 rintro⟨a0,a1,a2,⟨⟩⟩
 kernel_rfl
theorem Ahw:AD (AB Tryz.f157 0) 1=[]:=by kernel_rfl
theorem Ahx:AY Tryz.prog 0 (.loop (AB Tryz.f157 0)) (AMr.loop 0):=AT Mb (ARE) (AA Ahw trivial)
theorem Adq:∀ v,AAu v=AL 0 Tryz.prog PY AMr Tryz.f157 AMq AMp AMo v:=by
 rintro⟨a0,a1,⟨⟩⟩
 kernel_rfl
theorem AlY:AD (AR Tryz.f157) 0=[(0,AB Tryz.f157 0)]:=by kernel_rfl
theorem AWy:AN Tryz.prog 157 (AF 0 2 AMq AMp AMo AJu):=AG Mb Tryz.func157 (by kernel_rfl) (by kernel_rfl) rfl (fun v=>(ARH v).trans (Adq v)) (AA AlY ⟨Ahx,trivial⟩)
def APT:Env:=PY.ext 157 true true (AF 0 2 AMq AMp AMo AJu)
theorem AHL:AW Tryz.prog APT:=Env.Aa Mb AWy (fun _=>AI rfl rfl) (fun _=>AH rfl rfl)
abbrev APg:Hints:={ fp:=fun n=>match n with|1=>[[],[],[],[],[1],[],[],[],[],[3],[]]|_=>[] }
theorem AHe:∀ v,I2 v=AL 0 Tryz.prog APT APg Tryz.f156 M0 Mz My v:=by
 rintro⟨a0,a1,⟨⟩⟩
 kernel_rfl
theorem APf:AD (AR Tryz.f156) 0=[]:=by kernel_rfl
theorem ABH:AN Tryz.prog 156 (AF 0 2 M0 Mz My Er):=AG AHL Tryz.func156 (by kernel_rfl) (by kernel_rfl) rfl (fun v=>(Rp v).trans (AHe v)) (AA APf trivial)
def OM:Env:=APT.ext 156 true true (AF 0 2 M0 Mz My Er)
theorem OL:AW Tryz.prog OM:=Env.Aa AHL ABH (fun _=>AI rfl rfl) (fun _=>AH rfl rfl)
abbrev Ai6:Hints:={ fp:=fun n=>match n with|13=>[[0],[0],[],[],[],[],[102],[],[110,100],[],[3],[]]|11=>[[],[0],[0],[],[],[],[],[87,96],[],[60],[99,60],[]]|7=>[[0],[],[],[0],[],[],[],[]]|5=>[[0],[],[],[0],[],[],[],[]]|_=>[] }
theorem AYe:∀ v,IM v=AL 0 Tryz.prog OM Ai6 Tryz.f141 AE2 AE1 AE0 v:=by
 rintro⟨a0,a1,a2,⟨⟩⟩
 kernel_rfl
theorem Ai5:AD (AR Tryz.f141) 0=[]:=by kernel_rfl
theorem ATC:AN Tryz.prog 141 (AF 0 3 AE2 AE1 AE0 Nh):=AG OL Tryz.func141 (by kernel_rfl) (by kernel_rfl) rfl (fun v=>(Ki v).trans (AYe v)) (AA Ai5 trivial)
def UI:Env:=OM.ext 141 true true (AF 0 3 AE2 AE1 AE0 Nh)
theorem OW:AW Tryz.prog UI:=Env.Aa OL ATC (fun _=>AI rfl rfl) (fun _=>AH rfl rfl)
abbrev ACl:Hints:={ loop:=fun n=>match n with|0=>AZ 0 26 AJl AJk Vv|_=>fun _ _ _=>none,fp:=fun n=>match n with|6=>[[],[],[],[],[],[],[],[],[]]|_=>[] }
theorem AMa:∀ v,Vv v=roundOf Tryz.prog UI ACl 1 0 26 (AB Tryz.f17 0) AJl AJk v:=by
 rintro⟨a0,a1,a2,⟨⟩⟩
 kernel_rfl
theorem AdS:AD (AB Tryz.f17 0) 1=[]:=by kernel_rfl
theorem AdT:AY Tryz.prog 0 (.loop (AB Tryz.f17 0)) (ACl.loop 0):=AT OW (AMa) (AA AdS trivial)
theorem AWM:∀ v,ACm v=AL 0 Tryz.prog UI ACl Tryz.f17 ACk ACj ACi v:=by
 rintro⟨a0,a1,⟨⟩⟩
 kernel_rfl
theorem Ahf:AD (AR Tryz.f17) 0=[(0,AB Tryz.f17 0)]:=by kernel_rfl
theorem AQv:AN Tryz.prog 17 (AF 0 2 ACk ACj ACi ACn):=AG OW Tryz.func17 (by kernel_rfl) (by kernel_rfl) rfl (fun v=>(AdU v).trans (AWM v)) (AA Ahf ⟨AdT,trivial⟩)
def AHH:Env:=UI.ext 17 true true (AF 0 2 ACk ACj ACi ACn)
theorem Zw:AW Tryz.prog AHH:=Env.Aa OW AQv (fun _=>AI rfl rfl) (fun _=>AH rfl rfl)
end
end Go.Pev
end
section
namespace Go.Pev
open Go.Proofs
noncomputable section
abbrev AoA:Hints:={  }
theorem Akt:∀ v,Aag v=AL 0 Tryz.prog AHH AoA Tryz.f58 Agv Agu Agt v:=by
 rintro⟨a0,a1,⟨⟩⟩
 kernel_rfl
theorem An9:AD (AR Tryz.f58) 0=[]:=by kernel_rfl
theorem Ags:AN Tryz.prog 58 (AF 0 2 Agv Agu Agt tof):=AG Zw Tryz.func58 (by kernel_rfl) (by kernel_rfl) rfl (fun v=>(Agw v).trans (Akt v)) (AA An9 trivial)
def AcI:Env:=AHH.ext 58 true true (AF 0 2 Agv Agu Agt tof)
theorem AHC:AW Tryz.prog AcI:=Env.Aa Zw Ags (fun _=>AI rfl rfl) (fun _=>AH rfl rfl)
abbrev VX:Hints:={ loop:=fun n=>match n with|0=>AZ 0 49 AB8 AB7 EU|_=>fun _ _ _=>none,fp:=fun n=>match n with|6=>[[],[],[],[],[],[],[],[],[],[],[],[],[0],[0],[],[],[],[],[],[],[],[],[],[],[],[],[],[],[],[],[0],[0],[],[]]|_=>[] }
theorem AHl:∀ v,EU v=roundOf Tryz.prog AcI VX 1 0 49 (AB Tryz.f140 0) AB8 AB7 v:=by
 rintro⟨a0,a1,a2,a3,⟨⟩⟩
 kernel_rfl
theorem AVZ:AD (AB Tryz.f140 0) 1=[]:=by kernel_rfl
theorem AVa:AY Tryz.prog 0 (.loop (AB Tryz.f140 0)) (VX.loop 0):=AT AHC (AHl) (AA AVZ trivial)
theorem AQP:∀ v,On v=AL 0 Tryz.prog AcI VX Tryz.f140 VW VV VU v:=by
 rintro⟨a0,a1,⟨⟩⟩
 kernel_rfl
theorem Acv:AD (AR Tryz.f140) 0=[(0,AB Tryz.f140 0)]:=by kernel_rfl
theorem ALs:AN Tryz.prog 140 (AF 0 2 VW VV VU R8):=AG AHC Tryz.func140 (by kernel_rfl) (by kernel_rfl) rfl (fun v=>(AB9 v).trans (AQP v)) (AA Acv ⟨AVa,trivial⟩)
def PU:Env:=AcI.ext 140 true true (AF 0 2 VW VV VU R8)
theorem MT:AW Tryz.prog PU:=Env.Aa AHC ALs (fun _=>AI rfl rfl) (fun _=>AH rfl rfl)
abbrev XG:Hints:={ loop:=fun n=>match n with|0=>AZ 0 48 AEy AEx Ea|_=>fun _ _ _=>none,fp:=fun n=>match n with|8=>[[0],[],[],[],[],[],[],[],[],[],[],[],[],[],[],[],[15],[]]|_=>[] }
theorem AIP:∀ v,Ea v=roundOf Tryz.prog PU XG 1 0 48 (AB Tryz.f126 0) AEy AEx v:=by
 rintro⟨a0,a1,a2,a3,a4,a5,⟨⟩⟩
 kernel_rfl
theorem AYb:AD (AB Tryz.f126 0) 1=[]:=by kernel_rfl
theorem AYc:AY Tryz.prog 0 (.loop (AB Tryz.f126 0)) (XG.loop 0):=AT MT (AIP) (AA AYb trivial)
theorem ATA:∀ v,O7 v=AL 0 Tryz.prog PU XG Tryz.f126 XF XE XD v:=by
 rintro⟨a0,a1,⟨⟩⟩
 kernel_rfl
theorem Aey:AD (AR Tryz.f126) 0=[(0,AB Tryz.f126 0)]:=by kernel_rfl
theorem ANs:AN Tryz.prog 126 (AF 0 2 XF XE XD Sm):=AG MT Tryz.func126 (by kernel_rfl) (by kernel_rfl) rfl (fun v=>(AEz v).trans (ATA v)) (AA Aey ⟨AYc,trivial⟩)
def YW:Env:=PU.ext 126 true true (AF 0 2 XF XE XD Sm)
theorem UH:AW Tryz.prog YW:=Env.Aa MT ANs (fun _=>AI rfl rfl) (fun _=>AH rfl rfl)
abbrev Anb:Hints:={  }
theorem Aim:∀ v,ANR v=AL 0 Tryz.prog YW Anb Tryz.f92 AXw AXv AXu v:=by
 rintro⟨a0,a1,⟨⟩⟩
 kernel_rfl
theorem Ana:AD (AR Tryz.f92) 0=[]:=by kernel_rfl
theorem AeO:AN Tryz.prog 92 (AF 0 2 AXw AXv AXu Ain):=AG UH Tryz.func92 (by kernel_rfl) (by kernel_rfl) rfl (fun v=>(AbS v).trans (Aim v)) (AA Ana trivial)
def APW:Env:=YW.ext 92 true true (AF 0 2 AXw AXv AXu Ain)
theorem YR:AW Tryz.prog APW:=Env.Aa UH AeO (fun _=>AI rfl rfl) (fun _=>AH rfl rfl)
abbrev VM:Hints:={ loop:=fun n=>match n with|0=>AZ 0 47 ABr ABq ES|_=>fun _ _ _=>none,fp:=fun n=>match n with|6=>[[],[0],[0],[],[],[],[],[0],[0],[],[],[],[],[],[],[3,4],[]]|_=>[] }
theorem AHj:∀ v,ES v=roundOf Tryz.prog APW VM 1 0 47 (AB Tryz.f51 0) ABr ABq v:=by
 rintro⟨a0,a1,a2,a3,a4,⟨⟩⟩
 kernel_rfl
theorem AVM:AD (AB Tryz.f51 0) 1=[]:=by kernel_rfl
theorem AVN:AY Tryz.prog 0 (.loop (AB Tryz.f51 0)) (VM.loop 0):=AT YR (AHj) (AA AVM trivial)
theorem AP5:∀ v,Oi v=AL 0 Tryz.prog APW VM Tryz.f51 VL VK VJ v:=by
 rintro⟨a0,a1,⟨⟩⟩
 kernel_rfl
theorem Acb:AD (AR Tryz.f51) 0=[(0,AB Tryz.f51 0)]:=by kernel_rfl
theorem ALX:AN Tryz.prog 51 (AF 0 2 VL VK VJ R4):=AG YR Tryz.func51 (by kernel_rfl) (by kernel_rfl) rfl (fun v=>(ABs v).trans (AP5 v)) (AA Acb ⟨AVN,trivial⟩)
def YI:Env:=APW.ext 51 true true (AF 0 2 VL VK VJ R4)
theorem Tm:AW Tryz.prog YI:=Env.Aa YR ALX (fun _=>AI rfl rfl) (fun _=>AH rfl rfl)
abbrev AZG:Hints:={ fp:=fun n=>match n with|3=>[[0],[0],[0],[],[],[12],[],[],[3],[]]|_=>[] }
theorem AOQ:∀ v,L5 v=AL 0 Tryz.prog YI AZG Tryz.f66 RE RD RC v:=by
 rintro⟨a0,a1,⟨⟩⟩
 kernel_rfl
theorem AZF:AD (AR Tryz.f66) 0=[]:=by kernel_rfl
theorem AIf:AN Tryz.prog 66 (AF 0 2 RE RD RC Nz):=AG Tm Tryz.func66 (by kernel_rfl) (by kernel_rfl) rfl (fun v=>(Zb v).trans (AOQ v)) (AA AZF trivial)
def Rj:Env:=YI.ext 66 true true (AF 0 2 RE RD RC Nz)
theorem P8:AW Tryz.prog Rj:=Env.Aa Tm AIf (fun _=>AI rfl rfl) (fun _=>AH rfl rfl)
abbrev Ae1:Hints:={ fp:=fun n=>match n with|3=>[[0],[0],[0],[],[],[12],[],[],[3],[]]|_=>[] }
theorem ATD:∀ v,Hj v=AL 0 Tryz.prog Rj Ae1 Tryz.f57 XJ XI XH v:=by
 rintro⟨a0,a1,⟨⟩⟩
 kernel_rfl
theorem Ae0:AD (AR Tryz.f57) 0=[]:=by kernel_rfl
theorem ANt:AN Tryz.prog 57 (AF 0 2 XJ XI XH Lh):=AG P8 Tryz.func57 (by kernel_rfl) (by kernel_rfl) rfl (fun v=>(Lg v).trans (ATD v)) (AA Ae0 trivial)
def YX:Env:=Rj.ext 57 true true (AF 0 2 XJ XI XH Lh)
theorem UJ:AW Tryz.prog YX:=Env.Aa P8 ANt (fun _=>AI rfl rfl) (fun _=>AH rfl rfl)
abbrev Ane:Hints:={  }
theorem Aio:∀ v,ANS v=AL 0 Tryz.prog YX Ane Tryz.f67 AXz AXy AXx v:=by
 rintro⟨a0,a1,⟨⟩⟩
 kernel_rfl
theorem Anc:AD (AR Tryz.f67) 0=[]:=by kernel_rfl
theorem AeQ:AN Tryz.prog 67 (AF 0 2 AXz AXy AXx Aip):=AG UJ Tryz.func67 (by kernel_rfl) (by kernel_rfl) rfl (fun v=>(AbT v).trans (Aio v)) (AA Anc trivial)
def Akf:Env:=YX.ext 67 true true (AF 0 2 AXz AXy AXx Aip)
theorem AgM:AW Tryz.prog Akf:=Env.Aa UJ AeQ (fun _=>AI rfl rfl) (fun _=>AH rfl rfl)
theorem AkG : (Tryz.f64.name == "runtime.NumGoroutine") = false := by kernel_rfl
theorem AOj:AHd Tryz.prog Tryz.f64 43 3 (.int .i64) where
 body:=by kernel_rfl
 nt:=by kernel_rfl
 res:=by kernel_rfl
 d:=⟨by kernel_rfl,by kernel_rfl,by kernel_rfl,by kernel_rfl,by kernel_rfl,by kernel_rfl,by kernel_rfl,by kernel_rfl⟩
 g:=⟨by kernel_rfl,by kernel_rfl,by kernel_rfl,by kernel_rfl,by kernel_rfl,by kernel_rfl,by kernel_rfl,by kernel_rfl⟩
 o00:=by kernel_rfl
 o10:=by kernel_rfl
 o11:=by kernel_rfl
 o20:=by kernel_rfl
 o30:=by kernel_rfl
 o31:=by kernel_rfl
 o32:=by kernel_rfl
 o33:=by kernel_rfl
 sl:=by kernel_rfl
 z:=by kernel_rfl
 by1:=by kernel_rfl
def AHZ:Env:=Akf.ext 64 true true (Hl 3 (.int .i64))
theorem Z8:AW Tryz.prog AHZ:=Env.Aa AgM (AkF AOj Tryz.func64 AkG) (fun _=>Ms _ _) (fun _=>(Ms _ _).AoW)
abbrev Ak8:Hints:={ fp:=fun n=>match n with|1=>[[0],[0],[2],[2],[],[0],[0],[2],[2],[],[],[20],[]]|_=>[] }
theorem AdA:∀ v,AAr v=AL 0 Tryz.prog AHZ Ak8 Tryz.f60 AMF AME AMD v:=by
 rintro⟨a0,a1,⟨⟩⟩
 kernel_rfl
theorem Ak7:AD (AR Tryz.f60) 0=[]:=by kernel_rfl
theorem AV2:AN Tryz.prog 60 (AF 0 2 AMF AME AMD BQ):=AG Z8 Tryz.func60 (by kernel_rfl) (by kernel_rfl) rfl (fun v=>(AQf v).trans (AdA v)) (AA Ak7 trivial)
def Tv:Env:=AHZ.ext 60 true true (AF 0 2 AMF AME AMD BQ)
theorem MW:AW Tryz.prog Tv:=Env.Aa Z8 AV2 (fun _=>AI rfl rfl) (fun _=>AH rfl rfl)
abbrev AFC:Hints:={ loop:=fun n=>match n with|0=>AZ 1 53 Abm Abk Abi|1=>AZ 1 53 Abl Abj Abh|_=>fun _ _ _=>none,fp:=fun n=>match n with|4=>[[],[],[],[],[],[],[],[0],[0],[],[],[],[0],[0],[],[],[]]|6=>[[],[],[],[],[],[],[],[],[0],[0],[],[],[0],[0],[0],[1],[0],[1]]|_=>[] }
theorem AYt:∀ v,Abh v=roundOf Tryz.prog Tv AFC 2 1 53 (AB Tryz.f115 1) Abl Abj v:=by
 rintro⟨a0,a1,a2,a3,a4,⟨⟩⟩
 kernel_rfl
theorem AmA:AD (AB Tryz.f115 1) 2=[]:=by kernel_rfl
theorem AmC:AY Tryz.prog 1 (.loop (AB Tryz.f115 1)) (AFC.loop 1):=AT MW (AYt) (AA AmA trivial)
theorem AYu:∀ v,Abi v=roundOf Tryz.prog Tv AFC 1 1 53 (AB Tryz.f115 0) Abm Abk v:=by
 rintro⟨a0,a1,a2,a3,⟨⟩⟩
 kernel_rfl
theorem AmB:AD (AB Tryz.f115 0) 1=[(1,AB Tryz.f115 1)]:=by kernel_rfl
theorem AmD:AY Tryz.prog 1 (.loop (AB Tryz.f115 0)) (AFC.loop 0):=AT MW (AYu) (AA AmB ⟨AmC,trivial⟩)
theorem AjF:∀ v,AjG v=AL 1 Tryz.prog Tv AFC Tryz.f115 AYx AYw AYv v:=by
 rintro⟨a0,a1,a2,⟨⟩⟩
 kernel_rfl
theorem Ano:AD (AR Tryz.f115) 0=[(0,AB Tryz.f115 0)]:=by kernel_rfl
theorem AfA:AN Tryz.prog 115 (AF 1 4 AYx AYw AYv Anp):=AG MW Tryz.func115 (by kernel_rfl) (by kernel_rfl) rfl (fun v=>(AmE v).trans (AjF v)) (AA Ano ⟨AmD,trivial⟩)
def APZ:Env:=Tv.CD 115 3 60 (AF 1 4 AYx AYw AYv Anp)
theorem YZ:AW Tryz.prog APZ:=Env.Az MW AfA (AH rfl rfl)
abbrev AMP:Hints:={ loop:=fun n=>match n with|0=>AZ 1 82 AQn AQm AQl|_=>fun _ _ _=>none,fp:=fun n=>match n with|6=>[[],[],[],[],[],[],[],[],[],[],[],[],[0],[0],[],[],[],[],[0],[0],[0],[1],[0],[1]]|5=>[[],[],[],[],[],[0],[0],[],[],[],[],[0],[0],[],[],[]]|3=>[[],[],[],[],[],[],[],[],[],[],[0],[0],[],[],[],[],[],[0],[0],[],[],[]]|_=>[] }
theorem AQk:∀ v,AQl v=roundOf Tryz.prog APZ AMP 1 1 82 (AB Tryz.f135 0) AQn AQm v:=by
 rintro⟨a0,a1,a2,a3,⟨⟩⟩
 kernel_rfl
theorem AhT:AD (AB Tryz.f135 0) 1=[]:=by kernel_rfl
theorem AhU:AY Tryz.prog 1 (.loop (AB Tryz.f135 0)) (AMP.loop 0):=AT YZ (AQk) (AA AhT trivial)
theorem AdE:∀ v,Aav v=AL 1 Tryz.prog APZ AMP Tryz.f135 AMO AMN AMM v:=by
 rintro⟨a0,a1,a2,a3,⟨⟩⟩
 kernel_rfl
theorem AlF:AD (AR Tryz.f135) 0=[(0,AB Tryz.f135 0)]:=by kernel_rfl
theorem AWB:AN Tryz.prog 135 (AF 1 5 AMO AMN AMM AhW):=AG YZ Tryz.func135 (by kernel_rfl) (by kernel_rfl) rfl (fun v=>(AhV v).trans (AdE v)) (AA AlF ⟨AhU,trivial⟩)
def Tz:Env:=APZ.CD 135 4 60 (AF 1 5 AMO AMN AMM AhW)
theorem MY:AW Tryz.prog Tz:=Env.Az YZ AWB (AH rfl rfl)
end
end Go.Pev
end
section
namespace Go.Pev
open Go.Proofs
noncomputable section
abbrev TA:Hints:={ loop:=fun n=>match n with|0=>AZ 1 60 ATg ATe ATc|1=>AZ 1 60 ATf ATd ATa|_=>fun _ _ _=>none,fp:=fun n=>match n with|10=>[[],[],[],[],[],[],[],[],[],[],[0],[0],[],[],[0],[0],[0],[1],[0],[1]]|_=>[] }
theorem ATZ:∀ v,ATa v=roundOf Tryz.prog Tz TA 2 1 60 (AB Tryz.f116 1) ATf ATd v:=by
 rintro⟨a0,a1,a2,a3,⟨⟩⟩
 kernel_rfl
theorem AjZ:AD (AB Tryz.f116 1) 2=[]:=by kernel_rfl
theorem Ajb:AY Tryz.prog 1 (.loop (AB Tryz.f116 1)) (TA.loop 1):=AT MY (ATZ) (AA AjZ trivial)
theorem ATb:∀ v,ATc v=roundOf Tryz.prog Tz TA 1 1 60 (AB Tryz.f116 0) ATg ATe v:=by
 rintro⟨a0,a1,a2,a3,a4,⟨⟩⟩
 kernel_rfl
theorem Aja:AD (AB Tryz.f116 0) 1=[]:=by kernel_rfl
theorem Ajc:AY Tryz.prog 1 (.loop (AB Tryz.f116 0)) (TA.loop 0):=AT MY (ATb) (AA Aja trivial)
theorem AfM:∀ v,Abs v=AL 1 Tryz.prog Tz TA Tryz.f116 AOG AOF AOE v:=by
 rintro⟨a0,a1,a2,⟨⟩⟩
 kernel_rfl
theorem AmJ:AD (AR Tryz.f116) 0=[(0,AB Tryz.f116 0),(1,AB Tryz.f116 1)]:=by kernel_rfl
theorem AY5:AN Tryz.prog 116 (AF 1 4 AOG AOF AOE Aje):=AG MY Tryz.func116 (by kernel_rfl) (by kernel_rfl) rfl (fun v=>(Ajd v).trans (AfM v)) (AA AmJ ⟨Ajc,Ajb,trivial⟩)
def ABB:Env:=Tz.CD 116 3 60 (AF 1 4 AOG AOF AOE Aje)
theorem Ri:AW Tryz.prog ABB:=Env.Az MY AY5 (AH rfl rfl)
abbrev AGs:Hints:={ loop:=fun n=>match n with|0=>AZ 1 67 AKm AKl AKk|_=>fun _ _ _=>none,fp:=fun n=>match n with|10=>[[],[],[],[],[],[],[],[],[],[],[0],[0],[],[],[0],[0],[0],[1],[0],[1]]|_=>[] }
theorem AO1:∀ v,AKk v=roundOf Tryz.prog ABB AGs 1 1 67 (AB Tryz.f117 0) AKm AKl v:=by
 rintro⟨a0,a1,a2,a3,a4,a5,⟨⟩⟩
 kernel_rfl
theorem Af4:AD (AB Tryz.f117 0) 1=[]:=by kernel_rfl
theorem Af5:AY Tryz.prog 1 (.loop (AB Tryz.f117 0)) (AGs.loop 0):=AT Ri (AO1) (AA Af4 trivial)
theorem AaB:∀ v,AUc v=AL 1 Tryz.prog ABB AGs Tryz.f117 AGr AGq AGp v:=by
 rintro⟨a0,a1,a2,⟨⟩⟩
 kernel_rfl
theorem AkM:AD (AR Tryz.f117) 0=[(0,AB Tryz.f117 0)]:=by kernel_rfl
theorem AUb:AN Tryz.prog 117 (AF 1 4 AGr AGq AGp AaC):=AG Ri Tryz.func117 (by kernel_rfl) (by kernel_rfl) rfl (fun v=>(Af6 v).trans (AaB v)) (AA AkM ⟨Af5,trivial⟩)
def AHb:Env:=ABB.CD 117 3 60 (AF 1 4 AGr AGq AGp AaC)
theorem AAA:AW Tryz.prog AHb:=Env.Az Ri AUb (AH rfl rfl)
abbrev AeI:Hints:={ fp:=fun n=>match n with|1=>[[],[],[],[0],[0],[],[],[0],[0],[],[]]|_=>[] }
theorem ASi:∀ v,AJ6 v=AL 2 Tryz.prog AHb AeI Tryz.f155 Wm Wl Wk v:=by
 rintro⟨a0,a1,a2,a3,⟨⟩⟩
 kernel_rfl
theorem AeH:AD (AR Tryz.f155) 0=[]:=by kernel_rfl
theorem ANK:AN Tryz.prog 155 (AF 2 5 Wm Wl Wk ANL):=AG AAA Tryz.func155 (by kernel_rfl) (by kernel_rfl) rfl (fun v=>(AXm v).trans (ASi v)) (AA AeH trivial)
def YQ:Env:=AHb.CD 155 4 60 (AF 2 5 Wm Wl Wk ANL)
theorem UA:AW Tryz.prog YQ:=Env.Az AAA ANK (AH rfl rfl)
abbrev Aed:Hints:={  }
theorem ASr:∀ v,AJ9 v=AL 2 Tryz.prog YQ Aed Tryz.f139 Wx Ww Wv v:=by
 rintro⟨a0,a1,a2,a3,a4,⟨⟩⟩
 kernel_rfl
theorem Aec:AD (AR Tryz.f139) 0=[]:=by kernel_rfl
theorem ANZ:AN Tryz.prog 139 (AF 2 6 Wx Ww Wv ANa):=AG UA Tryz.func139 (by kernel_rfl) (by kernel_rfl) rfl (fun v=>(AYD v).trans (ASr v)) (AA Aec trivial)
def YT:Env:=YQ.CD 139 5 60 (AF 2 6 Wx Ww Wv ANa)
theorem UC:AW Tryz.prog YT:=Env.Az UA ANZ (AH rfl rfl)
abbrev Aeh:Hints:={  }
theorem ASt:∀ v,AKB v=AL 2 Tryz.prog YT Aeh Tryz.f138 W3 W2 W1 v:=by
 rintro⟨a0,a1,a2,⟨⟩⟩
 kernel_rfl
theorem Aeg:AD (AR Tryz.f138) 0=[]:=by kernel_rfl
theorem ANd:AN Tryz.prog 138 (AF 2 4 W3 W2 W1 ANe):=AG UC Tryz.func138 (by kernel_rfl) (by kernel_rfl) rfl (fun v=>(AYG v).trans (ASt v)) (AA Aeg trivial)
def YV:Env:=YT.CD 138 3 60 (AF 2 4 W3 W2 W1 ANe)
theorem UE:AW Tryz.prog YV:=Env.Az UC ANd (AH rfl rfl)
abbrev Ah5:Hints:={  }
theorem AXE:∀ v,ART v=AL 1 Tryz.prog YV Ah5 Tryz.f118 ADh ADg ADf v:=by
 rintro⟨a0,a1,a2,⟨⟩⟩
 kernel_rfl
theorem Ah4:AD (AR Tryz.f118) 0=[]:=by kernel_rfl
theorem ARS:AN Tryz.prog 118 (AF 1 4 ADh ADg ADf AXF):=AG UE Tryz.func118 (by kernel_rfl) (by kernel_rfl) rfl (fun v=>(Adz v).trans (AXE v)) (AA Ah4 trivial)
def T8:Env:=YV.CD 118 3 60 (AF 1 4 ADh ADg ADf AXF)
theorem OU:AW Tryz.prog T8:=Env.Az UE ARS (AH rfl rfl)
abbrev AWo:Hints:={ loop:=fun n=>match n with|0=>AZ 1 34 Aa8 Aa7 Aa6|_=>fun _ _ _=>none,fp:=fun n=>match n with|3=>[[],[],[],[],[],[],[0],[0],[],[],[0],[0],[0],[1],[0],[1]]|_=>[] }
theorem AWk:∀ v,Aa6 v=roundOf Tryz.prog T8 AWo 1 1 34 (AB Tryz.f119 0) Aa8 Aa7 v:=by
 rintro⟨a0,a1,a2,⟨⟩⟩
 kernel_rfl
theorem AlV:AD (AB Tryz.f119 0) 1=[]:=by kernel_rfl
theorem AlW:AY Tryz.prog 1 (.loop (AB Tryz.f119 0)) (AWo.loop 0):=AT OU (AWk) (AA AlV trivial)
theorem Ahq:∀ v,Ahr v=AL 1 Tryz.prog T8 AWo Tryz.f119 AWn AWm AWl v:=by
 rintro⟨a0,a1,a2,⟨⟩⟩
 kernel_rfl
theorem AnO:AD (AR Tryz.f119) 0=[(0,AB Tryz.f119 0)]:=by kernel_rfl
theorem Adl:AN Tryz.prog 119 (AF 1 4 AWn AWm AWl AnP):=AG OU Tryz.func119 (by kernel_rfl) (by kernel_rfl) rfl (fun v=>(AlX v).trans (Ahq v)) (AA AnO ⟨AlW,trivial⟩)
def Rg:Env:=T8.CD 119 3 60 (AF 1 4 AWn AWm AWl AnP)
theorem Hs:AW Tryz.prog Rg:=Env.Az OU Adl (AH rfl rfl)
abbrev C4:Hints:={ loop:=fun n=>match n with|0=>AZ 1 141 ZM ZI ZE|1=>AZ 1 141 ZL ZH ZD|2=>AZ 1 141 ZK ZG ZC|3=>AZ 1 141 ZJ ZF ZB|_=>fun _ _ _=>none,fp:=fun n=>match n with|11=>[[],[],[],[],[],[],[],[],[0],[0],[],[],[0],[0],[0],[1],[0],[1]]|5=>[[],[],[],[],[],[],[],[0],[0],[],[],[],[0],[0],[],[],[],[]]|17=>[[],[],[],[],[],[],[],[],[0],[0],[],[],[0],[0],[0],[1],[0],[1]]|16=>[[],[],[],[0],[0],[],[],[],[0],[0],[],[],[]]|23=>[[],[],[],[],[],[],[],[],[0],[0],[],[],[0],[0],[0],[1],[0],[1]]|22=>[[],[],[],[0],[0],[],[],[],[0],[0],[],[],[]]|_=>[] }
theorem AD2:∀ v,ZB v=roundOf Tryz.prog Rg C4 4 1 141 (AB Tryz.f120 3) ZJ ZF v:=by
 rintro⟨a0,a1,a2,a3,a4,a5,⟨⟩⟩
 kernel_rfl
theorem AR3:AD (AB Tryz.f120 3) 4=[]:=by kernel_rfl
theorem AR7:AY Tryz.prog 1 (.loop (AB Tryz.f120 3)) (C4.loop 3):=AT Hs (AD2) (AA AR3 trivial)
theorem AD3:∀ v,ZC v=roundOf Tryz.prog Rg C4 3 1 141 (AB Tryz.f120 2) ZK ZG v:=by
 rintro⟨a0,a1,a2,a3,a4,a5,⟨⟩⟩
 kernel_rfl
theorem AR4:AD (AB Tryz.f120 2) 3=[]:=by kernel_rfl
theorem AR8:AY Tryz.prog 1 (.loop (AB Tryz.f120 2)) (C4.loop 2):=AT Hs (AD3) (AA AR4 trivial)
theorem AD4:∀ v,ZD v=roundOf Tryz.prog Rg C4 2 1 141 (AB Tryz.f120 1) ZL ZH v:=by
 rintro⟨a0,a1,a2,a3,a4,⟨⟩⟩
 kernel_rfl
theorem AR5:AD (AB Tryz.f120 1) 2=[]:=by kernel_rfl
theorem AR9:AY Tryz.prog 1 (.loop (AB Tryz.f120 1)) (C4.loop 1):=AT Hs (AD4) (AA AR5 trivial)
theorem AD5:∀ v,ZE v=roundOf Tryz.prog Rg C4 1 1 141 (AB Tryz.f120 0) ZM ZI v:=by
 rintro⟨a0,a1,a2,a3,a4,⟨⟩⟩
 kernel_rfl
theorem AR6:AD (AB Tryz.f120 0) 1=[(1,AB Tryz.f120 1),(2,AB Tryz.f120 2),(3,AB Tryz.f120 3)]:=by kernel_rfl
theorem ASA:AY Tryz.prog 1 (.loop (AB Tryz.f120 0)) (C4.loop 0):=AT Hs (AD5) (AA AR6 ⟨AR9,AR8,AR7,trivial⟩)
theorem AM9:∀ v,AD6 v=AL 1 Tryz.prog Rg C4 Tryz.f120 Qi Qh Qg v:=by
 rintro⟨a0,a1,a2,⟨⟩⟩
 kernel_rfl
theorem AXS:AD (AR Tryz.f120) 0=[(0,AB Tryz.f120 0)]:=by kernel_rfl
theorem AH9:AN Tryz.prog 120 (AF 1 4 Qi Qh Qg AD7):=AG Hs Tryz.func120 (by kernel_rfl) (by kernel_rfl) rfl (fun v=>(ASB v).trans (AM9 v)) (AA AXS ⟨ASA,trivial⟩)
def GW:Env:=Rg.CD 120 3 60 (AF 1 4 Qi Qh Qg AD7)
theorem EM:AW Tryz.prog GW:=Env.Az Hs AH9 (AH rfl rfl)
abbrev Fy:Hints:={ loop:=fun n=>match n with|0=>AZ 1 90 AEQ AEN AEK|1=>AZ 1 90 AEP AEM AEJ|2=>AZ 1 90 AEO AEL AEI|_=>fun _ _ _=>none,fp:=fun n=>match n with|8=>[[],[],[],[],[],[],[0],[0],[],[],[0],[0],[0],[1],[0],[1]]|3=>[[],[],[],[],[],[],[],[0],[0],[],[],[0],[0],[],[],[],[]]|5=>[[],[],[],[],[],[],[],[0],[0],[],[],[0],[0],[],[],[]]|1=>[[],[],[],[],[],[],[0],[0],[],[],[0],[0],[0],[1],[0],[1]]|_=>[] }
theorem AIF:∀ v,AEI v=roundOf Tryz.prog GW Fy 3 1 90 (AB Tryz.f121 2) AEO AEL v:=by
 rintro⟨a0,a1,a2,a3,⟨⟩⟩
 kernel_rfl
theorem AXc:AD (AB Tryz.f121 2) 3=[]:=by kernel_rfl
theorem AXf:AY Tryz.prog 1 (.loop (AB Tryz.f121 2)) (Fy.loop 2):=AT EM (AIF) (AA AXc trivial)
theorem AIH:∀ v,AEJ v=roundOf Tryz.prog GW Fy 2 1 90 (AB Tryz.f121 1) AEP AEM v:=by
 rintro⟨a0,a1,a2,a3,⟨⟩⟩
 kernel_rfl
theorem AXd:AD (AB Tryz.f121 1) 2=[]:=by kernel_rfl
theorem AXg:AY Tryz.prog 1 (.loop (AB Tryz.f121 1)) (Fy.loop 1):=AT EM (AIH) (AA AXd trivial)
theorem AII:∀ v,AEK v=roundOf Tryz.prog GW Fy 1 1 90 (AB Tryz.f121 0) AEQ AEN v:=by
 rintro⟨a0,a1,a2,a3,⟨⟩⟩
 kernel_rfl
theorem AXe:AD (AB Tryz.f121 0) 1=[(1,AB Tryz.f121 1),(2,AB Tryz.f121 2)]:=by kernel_rfl
theorem AXh:AY Tryz.prog 1 (.loop (AB Tryz.f121 0)) (Fy.loop 0):=AT EM (AII) (AA AXe ⟨AXg,AXf,trivial⟩)
theorem ASI:∀ v,AJ2 v=AL 1 Tryz.prog GW Fy Tryz.f121 Wg Wf We v:=by
 rintro⟨a0,a1,a2,a3,⟨⟩⟩
 kernel_rfl
theorem AeB:AD (AR Tryz.f121) 0=[(0,AB Tryz.f121 0)]:=by kernel_rfl
theorem AND:AN Tryz.prog 121 (AF 1 5 Wg Wf We ANE):=AG EM Tryz.func121 (by kernel_rfl) (by kernel_rfl) rfl (fun v=>(AXi v).trans (ASI v)) (AA AeB ⟨AXh,trivial⟩)
def FD:Env:=GW.CD 121 4 60 (AF 1 5 Wg Wf We ANE)
theorem DI:AW Tryz.prog FD:=Env.Az EM AND (AH rfl rfl)
abbrev FI:Hints:={ loop:=fun n=>match n with|0=>AZ 1 178 ASc ASX ASS|1=>AZ 1 178 ASb ASW ASQ|2=>AZ 1 178 ASa ASV ASO|3=>AZ 1 178 ASZ ASU ASM|4=>AZ 1 178 ASY AST ASK|_=>fun _ _ _=>none,fp:=fun n=>match n with|3=>[[],[],[],[],[],[],[],[0],[0],[],[],[0],[0],[],[],[]]|5=>[[],[],[],[],[],[],[],[0],[0],[],[],[0],[0],[],[],[],[]]|18=>[[],[],[],[],[],[],[0],[0],[],[],[0],[0],[0],[1],[0],[1]]|13=>[[],[],[],[],[],[],[],[0],[0],[],[],[0],[0],[],[],[]]|15=>[[],[],[],[],[],[],[],[0],[0],[],[],[0],[0],[],[],[],[]]|21=>[[],[],[],[],[],[],[0],[0],[],[],[0],[0],[0],[1],[0],[1]]|10=>[[],[],[],[],[],[],[0],[0],[],[],[0],[0],[0],[1],[0],[1]]|8=>[[],[],[],[],[],[],[0],[0],[],[],[0],[0],[0],[1],[0],[1]]|1=>[[],[],[],[],[],[],[0],[0],[],[],[0],[0],[0],[1],[0],[1]]|_=>[] }
theorem ASJ:∀ v,ASK v=roundOf Tryz.prog FD FI 5 1 178 (AB Tryz.f122 4) ASY AST v:=by
 rintro⟨a0,a1,a2,a3,⟨⟩⟩
 kernel_rfl
theorem AiO:AD (AB Tryz.f122 4) 5=[]:=by kernel_rfl
theorem AiT:AY Tryz.prog 1 (.loop (AB Tryz.f122 4)) (FI.loop 4):=AT DI (ASJ) (AA AiO trivial)
theorem ASL:∀ v,ASM v=roundOf Tryz.prog FD FI 4 1 178 (AB Tryz.f122 3) ASZ ASU v:=by
 rintro⟨a0,a1,a2,a3,⟨⟩⟩
 kernel_rfl
theorem AiP:AD (AB Tryz.f122 3) 4=[]:=by kernel_rfl
theorem AiU:AY Tryz.prog 1 (.loop (AB Tryz.f122 3)) (FI.loop 3):=AT DI (ASL) (AA AiP trivial)
theorem ASN:∀ v,ASO v=roundOf Tryz.prog FD FI 3 1 178 (AB Tryz.f122 2) ASa ASV v:=by
 rintro⟨a0,a1,a2,a3,⟨⟩⟩
 kernel_rfl
theorem AiQ:AD (AB Tryz.f122 2) 3=[(3,AB Tryz.f122 3),(4,AB Tryz.f122 4)]:=by kernel_rfl
theorem AiV:AY Tryz.prog 1 (.loop (AB Tryz.f122 2)) (FI.loop 2):=AT DI (ASN) (AA AiQ ⟨AiU,AiT,trivial⟩)
theorem ASP:∀ v,ASQ v=roundOf Tryz.prog FD FI 2 1 178 (AB Tryz.f122 1) ASb ASW v:=by
 rintro⟨a0,a1,a2,a3,⟨⟩⟩
 kernel_rfl
theorem AiR:AD (AB Tryz.f122 1) 2=[]:=by kernel_rfl
theorem AiW:AY Tryz.prog 1 (.loop (AB Tryz.f122 1)) (FI.loop 1):=AT DI (ASP) (AA AiR trivial)
theorem ASR:∀ v,ASS v=roundOf Tryz.prog FD FI 1 1 178 (AB Tryz.f122 0) ASc ASX v:=by
 rintro⟨a0,a1,a2,a3,⟨⟩⟩
 kernel_rfl
theorem AiS:AD (AB Tryz.f122 0) 1=[]:=by kernel_rfl
theorem AiX:AY Tryz.prog 1 (.loop (AB Tryz.f122 0)) (FI.loop 0):=AT DI (ASR) (AA AiS trivial)
theorem AeC:∀ v,AbK v=AL 1 Tryz.prog FD FI Tryz.f122 ANH ANG ANF v:=by
 rintro⟨a0,a1,a2,a3,⟨⟩⟩
 kernel_rfl
theorem Alk:AD (AR Tryz.f122) 0=[(0,AB Tryz.f122 0),(1,AB Tryz.f122 1),(2,AB Tryz.f122 2)]:=by kernel_rfl
theorem AXj:AN Tryz.prog 122 (AF 1 5 ANH ANG ANF AiZ):=AG DI Tryz.func122 (by kernel_rfl) (by kernel_rfl) rfl (fun v=>(AiY v).trans (AeC v)) (AA Alk ⟨AiX,AiW,AiV,trivial⟩)
def APV:Env:=FD.CD 122 4 60 (AF 1 5 ANH ANG ANF AiZ)
theorem AHP:AW Tryz.prog APV:=Env.Az DI AXj (AH rfl rfl)
abbrev AXO(self:(List (Int×Int×Unit)×Int×Int×Int×Unit)→Option ((List (Int×Int×Unit)×Unit))):Hints:={ loop:=fun n=>match n with|0=>AZ 1 148 AbI AbH (AbG self)|_=>fun _ _ _=>none,fp:=fun n=>match n with|17=>[[],[],[],[],[],[],[],[0],[0],[],[],[0],[0],[],[],[],[]]|_=>[] }
abbrev AM3(self:(List (Int×Int×Unit)×Int×Int×Int×Unit)→Option ((List (Int×Int×Unit)×Unit))):Env:=APV.ext 88 false true (AF 1 5 ADu ADt ADs self)
theorem AXN(self:(List (Int×Int×Unit)×Int×Int×Int×Unit)→Option ((List (Int×Int×Unit)×Unit))):∀ v,AbG self v=roundOf Tryz.prog (AM3 self) (AXO self) 1 1 148 (AB Tryz.f88 0) AbI AbH v:=by
 rintro⟨a0,a1,a2,a3,a4,a5,⟨⟩⟩
 kernel_rfl
theorem Alf:AD (AB Tryz.f88 0) 1=[]:=by kernel_rfl
theorem Alg(self:(List (Int×Int×Unit)×Int×Int×Int×Unit)→Option ((List (Int×Int×Unit)×Unit)))(hE:AW Tryz.prog (AM3 self)):AY Tryz.prog 1 (.loop (AB Tryz.f88 0)) ((AXO self).loop 0):=AT hE (AXN self) (AA Alf trivial)
theorem AiA(self:(List (Int×Int×Unit)×Int×Int×Int×Unit)→Option ((List (Int×Int×Unit)×Unit))):∀ v,AnV self v=AL 1 Tryz.prog (AM3 self) (AXO self) Tryz.f88 ADu ADt ADs v:=by
 rintro⟨a0,a1,a2,a3,⟨⟩⟩
 kernel_rfl
theorem AnU:AD (AR Tryz.f88) 0=[(0,AB Tryz.f88 0)]:=by kernel_rfl
theorem AXP:∀ n,AN Tryz.prog 88 (AF 1 5 ADu ADt ADs (ADv n)):=by
 intro n
 induction n with
 |zero=>exact ZO fun _=>rfl
 |succ n ih=>
  have hE:AW Tryz.prog (AM3 (ADv n)):=Env.Aa AHP ih ((by simp)) (fun _=>AH rfl rfl)
  let self:=ADv n
  exact AG hE Tryz.func88 (by kernel_rfl) (by kernel_rfl) rfl (AiA self) (AA AnU ⟨(Alg self hE),trivial⟩)
theorem Ad7:AN Tryz.prog 88 (AF 1 5 ADu ADt ADs Ali):=by
 have e:Ali=ADv 100:=funext Alh
 rw[e]
 exact AXP _
def AaX:Env:=APV.CD 88 4 60 (AF 1 5 ADu ADt ADs Ali)
theorem AK0:AW Tryz.prog AaX:=Env.Az AHP Ad7 (AH rfl rfl)
abbrev Ak6:Hints:={  }
theorem Ac6:∀ v,Aap v=AL 1 Tryz.prog AaX Ak6 Tryz.f59 AL9 AL8 AL7 v:=by
 rintro⟨a0,⟨⟩⟩
 kernel_rfl
theorem Ak5:AD (AR Tryz.f59) 0=[]:=by kernel_rfl
theorem AVw:AN Tryz.prog 59 (AF 1 2 AL9 AL8 AL7 AQY):=AG AK0 Tryz.func59 (by kernel_rfl) (by kernel_rfl) rfl (fun v=>(AhL v).trans (Ac6 v)) (AA Ak5 trivial)
def APR:Env:=AaX.CD 59 1 60 (AF 1 2 AL9 AL8 AL7 AQY)
theorem AHF:AW Tryz.prog APR:=Env.Az AK0 AVw (AH rfl rfl)
end
end Go.Pev
end
section
namespace Go.Pev
open Go.Proofs
noncomputable section
abbrev AkE:Hints:={  }
theorem AZl:∀ v,OD v=AL 0 Tryz.prog APR AkE Tryz.f75 AGK AGJ AGI v:=by
 rintro⟨a0,a1,⟨⟩⟩
 kernel_rfl
theorem AkD:AD (AR Tryz.f75) 0=[]:=by kernel_rfl
theorem AUI:AN Tryz.prog 75 (AF 0 2 AGK AGJ AGI RV):=AG AHF Tryz.func75 (by kernel_rfl) (by kernel_rfl) rfl (fun v=>(Xq v).trans (AZl v)) (AA AkD trivial)
def AHY:Env:=APR.ext 75 true true (AF 0 2 AGK AGJ AGI RV)
theorem Z7:AW Tryz.prog AHY:=Env.Aa AHF AUI (fun _=>AI rfl rfl) (fun _=>AH rfl rfl)
abbrev Am7:Hints:={  }
theorem AgQ:∀ v,ALH v=AL 0 Tryz.prog AHY Am7 Tryz.f98 AU3 AU2 AU1 v:=by
 rintro⟨a0,⟨⟩⟩
 kernel_rfl
theorem Am6:AD (AR Tryz.f98) 0=[]:=by kernel_rfl
theorem AcQ:AN Tryz.prog 98 (AF 0 1 AU3 AU2 AU1 AU4):=AG Z7 Tryz.func98 (by kernel_rfl) (by kernel_rfl) rfl (fun v=>(Aaf v).trans (AgQ v)) (AA Am6 trivial)
def AaR:Env:=AHY.ext 98 true true (AF 0 1 AU3 AU2 AU1 AU4)
theorem AKu:AW Tryz.prog AaR:=Env.Aa Z7 AcQ (fun _=>AI rfl rfl) (fun _=>AH rfl rfl)
abbrev Afv:Hints:={  }
theorem AUS:∀ v,PI v=AL 0 Tryz.prog AaR Afv Tryz.f74 Xx Xw Xv v:=by
 rintro⟨a0,⟨⟩⟩
 kernel_rfl
theorem Afu:AD (AR Tryz.f74) 0=[]:=by kernel_rfl
theorem AOu:AN Tryz.prog 74 (AF 0 1 Xx Xw Xv Td):=AG AKu Tryz.func74 (by kernel_rfl) (by kernel_rfl) rfl (fun v=>(AGP v).trans (AUS v)) (AA Afu trivial)
def Ye:Env:=AaR.ext 74 true true (AF 0 1 Xx Xw Xv Td)
theorem UQ:AW Tryz.prog Ye:=Env.Aa AKu AOu (fun _=>AI rfl rfl) (fun _=>AH rfl rfl)
abbrev AgY:Hints:={  }
theorem AU8:∀ v,Rw v=AL 0 Tryz.prog Ye AgY Tryz.f71 ABR ABQ ABP v:=by
 rintro⟨a0,⟨⟩⟩
 kernel_rfl
theorem AgX:AD (AR Tryz.f71) 0=[]:=by kernel_rfl
theorem APw:AN Tryz.prog 71 (AF 0 1 ABR ABQ ABP ABS):=AG UQ Tryz.func71 (by kernel_rfl) (by kernel_rfl) rfl (fun v=>(AI8 v).trans (AU8 v)) (AA AgX trivial)
def AG7:Env:=Ye.ext 71 true true (AF 0 1 ABR ABQ ABP ABS)
theorem Zp:AW Tryz.prog AG7:=Env.Aa UQ APw (fun _=>AI rfl rfl) (fun _=>AH rfl rfl)
theorem AVF:Tryz.f70.body.isSome=true:=by kernel_rfl
theorem AVE : (Tryz.f70.name == "runtime.NumGoroutine") = false := by kernel_rfl
theorem AVD:loops (AR Tryz.f70)=0:=by kernel_rfl
def HY:Env:=AG7.ext 70 false false (DL Tryz.prog AG7 {} Tryz.f70)
theorem HG:AW Tryz.prog HY:=Env.Aa Zp (Ct Zp Tryz.func70 AVF AVE AVD) (by simp) (by simp)
abbrev J0:Hints:={ loop:=fun n=>match n with|0=>AZ 0 19 Np No CJ|_=>fun _ _ _=>none }
theorem S1:∀ v,CJ v=roundOf Tryz.prog HY J0 1 0 19 (AB Tryz.f91 0) Np No v:=by
 rintro⟨a0,a1,a2,⟨⟩⟩
 kernel_rfl
theorem AFN:AD (AB Tryz.f91 0) 1=[]:=by kernel_rfl
theorem AFO:AY Tryz.prog 0 (.loop (AB Tryz.f91 0)) (J0.loop 0):=AT HG (S1) (AA AFN trivial)
theorem AAM:∀ v,Gi v=AL 0 Tryz.prog HY J0 Tryz.f91 Jz Jy Jx v:=by
 rintro⟨a0,⟨⟩⟩
 kernel_rfl
theorem AIT:AD (AR Tryz.f91) 0=[(0,AB Tryz.f91 0)]:=by kernel_rfl
theorem XP:AN Tryz.prog 91 (AF 0 2 Jz Jy Jx JM):=AG HG Tryz.func91 (by kernel_rfl) (by kernel_rfl) rfl (fun v=>(Nq v).trans (AAM v)) (AA AIT ⟨AFO,trivial⟩)
def KK:Env:=HY.CD 91 1 70 (AF 0 2 Jz Jy Jx JM)
theorem Kz:AW Tryz.prog KK:=Env.Az HG XP (AH rfl rfl)
abbrev AF7:Hints:={  }
theorem Xl:∀ v,FY v=AL 0 Tryz.prog KK AF7 Tryz.f73 Ii Ih Ig v:=by
 rintro⟨a0,⟨⟩⟩
 kernel_rfl
theorem AF6:AD (AR Tryz.f73) 0=[]:=by kernel_rfl
theorem TT:AN Tryz.prog 73 (AF 0 2 Ii Ih Ig FZ):=AG Kz Tryz.func73 (by kernel_rfl) (by kernel_rfl) rfl (fun v=>(Mq v).trans (Xl v)) (AA AF6 trivial)
def Iv:Env:=KK.CD 73 1 70 (AF 0 2 Ii Ih Ig FZ)
theorem Jj:AW Tryz.prog Iv:=Env.Az Kz TT (AH rfl rfl)
abbrev KP:Hints:={ loop:=fun n=>match n with|0=>AZ 0 78 ABX ABV ER|1=>AZ 0 78 ABW ABU Cw|_=>fun _ _ _=>none,fp:=fun n=>match n with|12=>[[2],[2],[],[],[],[],[],[10],[10],[8],[9,12]]|5=>[[],[],[],[],[],[],[],[],[37]]|_=>[] }
def Og:Env:={ Iv with keep:=false,rows:=false,arrs:=true }
theorem K8:AW Tryz.prog Og:=Jj
theorem AHh:∀ v,Cw v=roundOf Tryz.prog Og KP 2 0 78 (AB Tryz.f39 1) ABW ABU v:=by
 rintro⟨a0,a1,a2,a3,a4,a5,a6,a7,a8,a9,a10,⟨⟩⟩
 kernel_rfl
theorem AU9:AD (AB Tryz.f39 1) 2=[]:=by kernel_rfl
theorem AVB:AY Tryz.prog 0 (.loop (AB Tryz.f39 1)) (KP.loop 1):=AT K8 (AHh) (AA AU9 trivial)
theorem AHi:∀ v,ER v=roundOf Tryz.prog Og KP 1 0 78 (AB Tryz.f39 0) ABX ABV v:=by
 rintro⟨a0,a1,a2,a3,a4,a5,a6,a7,⟨⟩⟩
 kernel_rfl
theorem AVA:AD (AB Tryz.f39 0) 1=[(1,AB Tryz.f39 1)]:=by kernel_rfl
theorem AVC:AY Tryz.prog 0 (.loop (AB Tryz.f39 0)) (KP.loop 0):=AT K8 (AHi) (AA AVA ⟨AVB,trivial⟩)
theorem APy:∀ v,Of v=AL 0 Tryz.prog Og KP Tryz.f39 VG VF VE v:=by
 rintro⟨a0,a1,⟨⟩⟩
 kernel_rfl
theorem AcU:AD (AR Tryz.f39) 0=[(0,AB Tryz.f39 0)]:=by kernel_rfl
theorem ALP:AN Tryz.prog 39 (AF 0 2 VG VF VE Oh):=AG K8 Tryz.func39 (by kernel_rfl) (by kernel_rfl) rfl (fun v=>(ABY v).trans (APy v)) (AA AcU ⟨AVC,trivial⟩)
def PT:Env:=Iv.ext 39 true true (AF 0 2 VG VF VE Oh)
theorem MP:AW Tryz.prog PT:=Env.Aa Jj ALP (fun _=>AI rfl rfl) (fun _=>AH rfl rfl)
abbrev M8:Hints:={ loop:=fun n=>match n with|0=>AZ 0 28 Ry Rx Cv|_=>fun _ _ _=>none }
theorem AAF:∀ v,Cv v=roundOf Tryz.prog PT M8 1 0 28 (AB Tryz.f40 0) Ry Rx v:=by
 rintro⟨a0,a1,a2,a3,a4,⟨⟩⟩
 kernel_rfl
theorem ALN:AD (AB Tryz.f40 0) 1=[]:=by kernel_rfl
theorem ALO:AY Tryz.prog 0 (.loop (AB Tryz.f40 0)) (M8.loop 0):=AT MP (AAF) (AA ALN trivial)
theorem AHg:∀ v,I3 v=AL 0 Tryz.prog PT M8 Tryz.f40 M7 M6 M5 v:=by
 rintro⟨a0,a1,⟨⟩⟩
 kernel_rfl
theorem APx:AD (AR Tryz.f40) 0=[(0,AB Tryz.f40 0)]:=by kernel_rfl
theorem ABT:AN Tryz.prog 40 (AF 0 2 M7 M6 M5 KO):=AG MP Tryz.func40 (by kernel_rfl) (by kernel_rfl) rfl (fun v=>(Rz v).trans (AHg v)) (AA APx ⟨ALO,trivial⟩)
def Jd:Env:=PT.ext 40 true true (AF 0 2 M7 M6 M5 KO)
theorem Io:AW Tryz.prog Jd:=Env.Aa MP ABT (fun _=>AI rfl rfl) (fun _=>AH rfl rfl)
abbrev AFo:Hints:={ loop:=fun n=>match n with|0=>AZ 0 26 AKc AKb GK|_=>fun _ _ _=>none,fp:=fun n=>match n with|6=>[[],[],[],[],[],[],[],[],[]]|_=>[] }
theorem AOW:∀ v,GK v=roundOf Tryz.prog Jd AFo 1 0 26 (AB Tryz.f146 0) AKc AKb v:=by
 rintro⟨a0,a1,a2,a3,⟨⟩⟩
 kernel_rfl
theorem Afe:AD (AB Tryz.f146 0) 1=[]:=by kernel_rfl
theorem Aff:AY Tryz.prog 0 (.loop (AB Tryz.f146 0)) (AFo.loop 0):=AT Io (AOW) (AA Afe trivial)
theorem AZL:∀ v,TF v=AL 0 Tryz.prog Jd AFo Tryz.f146 AFn AFm AFl v:=by
 rintro⟨a0,a1,⟨⟩⟩
 kernel_rfl
theorem Ajy:AD (AR Tryz.f146) 0=[(0,AB Tryz.f146 0)]:=by kernel_rfl
theorem AT0:AN Tryz.prog 146 (AF 0 2 AFn AFm AFl RI):=AG Io Tryz.func146 (by kernel_rfl) (by kernel_rfl) rfl (fun v=>(AKd v).trans (AZL v)) (AA Ajy ⟨Aff,trivial⟩)
def UN:Env:=Jd.ext 146 true true (AF 0 2 AFn AFm AFl RI)
theorem OZ:AW Tryz.prog UN:=Env.Aa Io AT0 (fun _=>AI rfl rfl) (fun _=>AH rfl rfl)
abbrev Xe:Hints:={ loop:=fun n=>match n with|0=>AZ 0 32 AFq AFp Ed|_=>fun _ _ _=>none }
theorem AIg:∀ v,Ed v=roundOf Tryz.prog UN Xe 1 0 32 (AB Tryz.f147 0) AFq AFp v:=by
 rintro⟨a0,a1,a2,a3,⟨⟩⟩
 kernel_rfl
theorem AZN:AD (AB Tryz.f147 0) 1=[]:=by kernel_rfl
theorem AZO:AY Tryz.prog 0 (.loop (AB Tryz.f147 0)) (Xe.loop 0):=AT OZ (AIg) (AA AZN trivial)
theorem AT1:∀ v,PE v=AL 0 Tryz.prog UN Xe Tryz.f147 Xd Xc Xb v:=by
 rintro⟨a0,a1,⟨⟩⟩
 kernel_rfl
theorem Afg:AD (AR Tryz.f147) 0=[(0,AB Tryz.f147 0)]:=by kernel_rfl
theorem AOX:AN Tryz.prog 147 (AF 0 3 Xd Xc Xb TJ):=AG OZ Tryz.func147 (by kernel_rfl) (by kernel_rfl) rfl (fun v=>(AFr v).trans (AT1 v)) (AA Afg ⟨AZO,trivial⟩)
def Yb:Env:=UN.CD 147 2 146 (AF 0 3 Xd Xc Xb TJ)
theorem UO:AW Tryz.prog Yb:=Env.Az OZ AOX (AH rfl rfl)
abbrev AgS:Hints:={  }
theorem AU5:∀ v,Rs v=AL 0 Tryz.prog Yb AgS Tryz.f129 ABM ABL ABK v:=by
 rintro⟨a0,a1,⟨⟩⟩
 kernel_rfl
theorem AgR:AD (AR Tryz.f129) 0=[]:=by kernel_rfl
theorem APl:AN Tryz.prog 129 (AF 0 2 ABM ABL ABK ABN):=AG UO Tryz.func129 (by kernel_rfl) (by kernel_rfl) rfl (fun v=>(AI6 v).trans (AU5 v)) (AA AgR trivial)
def AG5:Env:=Yb.ext 129 true true (AF 0 2 ABM ABL ABK ABN)
theorem Zo:AW Tryz.prog AG5:=Env.Aa UO APl (fun _=>AI rfl rfl) (fun _=>AH rfl rfl)
end
end Go.Pev
end
section
namespace Go.Pev
open Go.Proofs
noncomputable section
abbrev AcS:Hints:={  }
theorem APn:∀ v,Oe v=AL 0 Tryz.prog AG5 AcS Tryz.f99 VD VC VB v:=by
 rintro⟨a0,⟨⟩⟩
 kernel_rfl
theorem AcR:AD (AR Tryz.f99) 0=[]:=by kernel_rfl
theorem ALJ:AN Tryz.prog 99 (AF 0 1 VD VC VB Ru):=AG Zo Tryz.func99 (by kernel_rfl) (by kernel_rfl) rfl (fun v=>(ABO v).trans (APn v)) (AA AcR trivial)
def YH:Env:=AG5.ext 99 true true (AF 0 1 VD VC VB Ru)
theorem Tj:AW Tryz.prog YH:=Env.Aa Zo ALJ (fun _=>AI rfl rfl) (fun _=>AH rfl rfl)
theorem AnI:Tryz.f100.body.isSome=true:=by kernel_rfl
theorem AnH : (Tryz.f100.name == "runtime.NumGoroutine") = false := by kernel_rfl
theorem AnG:loops (AR Tryz.f100)=0:=by kernel_rfl
def Tt:Env:=YH.ext 100 false false (DL Tryz.prog YH {} Tryz.f100)
theorem OR:AW Tryz.prog Tt:=Env.Aa Tj (Ct Tj Tryz.func100 AnI AnH AnG) (by simp) (by simp)
abbrev J4:Hints:={ loop:=fun n=>match n with|0=>AZ 0 19 Ns Nr CK|_=>fun _ _ _=>none }
theorem S2:∀ v,CK v=roundOf Tryz.prog Tt J4 1 0 19 (AB Tryz.f91 0) Ns Nr v:=by
 rintro⟨a0,a1,a2,⟨⟩⟩
 kernel_rfl
theorem AFP:AD (AB Tryz.f91 0) 1=[]:=by kernel_rfl
theorem AFQ:AY Tryz.prog 0 (.loop (AB Tryz.f91 0)) (J4.loop 0):=AT OR (S2) (AA AFP trivial)
theorem AAN:∀ v,Gj v=AL 0 Tryz.prog Tt J4 Tryz.f91 J3 J2 J1 v:=by
 rintro⟨a0,⟨⟩⟩
 kernel_rfl
theorem AIU:AD (AR Tryz.f91) 0=[(0,AB Tryz.f91 0)]:=by kernel_rfl
theorem XQ:AN Tryz.prog 91 (AF 0 2 J3 J2 J1 JN):=AG OR Tryz.func91 (by kernel_rfl) (by kernel_rfl) rfl (fun v=>(Nt v).trans (AAN v)) (AA AIU ⟨AFQ,trivial⟩)
def KL:Env:=Tt.CD 91 1 100 (AF 0 2 J3 J2 J1 JN)
theorem K0:AW Tryz.prog KL:=Env.Az OR XQ (AH rfl rfl)
abbrev AF9:Hints:={  }
theorem Xm:∀ v,Fa v=AL 0 Tryz.prog KL AF9 Tryz.f73 Il Ik Ij v:=by
 rintro⟨a0,⟨⟩⟩
 kernel_rfl
theorem AF8:AD (AR Tryz.f73) 0=[]:=by kernel_rfl
theorem TU:AN Tryz.prog 73 (AF 0 2 Il Ik Ij Fb):=AG K0 Tryz.func73 (by kernel_rfl) (by kernel_rfl) rfl (fun v=>(Mr v).trans (Xm v)) (AA AF8 trivial)
def Iw:Env:=KL.CD 73 1 100 (AF 0 2 Il Ik Ij Fb)
theorem Jk:AW Tryz.prog Iw:=Env.Az K0 TU (AH rfl rfl)
abbrev H6:Hints:={ loop:=fun n=>match n with|0=>AZ 0 100 AJi AJf Ev|1=>AZ 0 100 AJh AJe Eu|2=>AZ 0 100 AJg AJd Et|_=>fun _ _ _=>none,fp:=fun n=>match n with|17=>[[],[],[0],[0],[],[],[0],[0],[],[]]|_=>[] }
def NI:Env:={ Iw with keep:=false,rows:=true,arrs:=false }
theorem I6:AW Tryz.prog NI:=Jk
theorem AMX:∀ v,Et v=roundOf Tryz.prog NI H6 3 0 100 (AB Tryz.f76 2) AJg AJd v:=by
 rintro⟨a0,a1,a2,a3,a4,a5,a6,a7,a8,a9,⟨⟩⟩
 kernel_rfl
theorem AdL:AD (AB Tryz.f76 2) 3=[]:=by kernel_rfl
theorem AdO:AY Tryz.prog 0 (.loop (AB Tryz.f76 2)) (H6.loop 2):=AT I6 (AMX) (AA AdL trivial)
theorem AMY:∀ v,Eu v=roundOf Tryz.prog NI H6 2 0 100 (AB Tryz.f76 1) AJh AJe v:=by
 rintro⟨a0,a1,a2,a3,a4,a5,⟨⟩⟩
 kernel_rfl
theorem AdM:AD (AB Tryz.f76 1) 2=[(2,AB Tryz.f76 2)]:=by kernel_rfl
theorem AdP:AY Tryz.prog 0 (.loop (AB Tryz.f76 1)) (H6.loop 1):=AT I6 (AMY) (AA AdM ⟨AdO,trivial⟩)
theorem AMZ:∀ v,Ev v=roundOf Tryz.prog NI H6 1 0 100 (AB Tryz.f76 0) AJi AJf v:=by
 rintro⟨a0,a1,a2,a3,a4,a5,a6,a7,⟨⟩⟩
 kernel_rfl
theorem AdN:AD (AB Tryz.f76 0) 1=[]:=by kernel_rfl
theorem AdQ:AY Tryz.prog 0 (.loop (AB Tryz.f76 0)) (H6.loop 0):=AT I6 (AMZ) (AA AdN trivial)
theorem AWK:∀ v,SF v=AL 0 Tryz.prog NI H6 Tryz.f76 ACc ACb ACa v:=by
 rintro⟨a0,a1,⟨⟩⟩
 kernel_rfl
theorem Ahb:AD (AR Tryz.f76) 0=[(0,AB Tryz.f76 0),(1,AB Tryz.f76 1)]:=by kernel_rfl
theorem AQs:AN Tryz.prog 76 (AF 0 2 ACc ACb ACa ACd):=AG I6 Tryz.func76 (by kernel_rfl) (by kernel_rfl) rfl (fun v=>(AJj v).trans (AWK v)) (AA Ahb ⟨AdQ,AdP,trivial⟩)
def T3:Env:=Iw.ext 76 true true (AF 0 2 ACc ACb ACa ACd)
theorem OS:AW Tryz.prog T3:=Env.Aa Jk AQs (fun _=>AI rfl rfl) (fun _=>AH rfl rfl)
abbrev ADl:Hints:={ loop:=fun n=>match n with|0=>AZ 0 29 AJz AJy Fw|_=>fun _ _ _=>none }
theorem AMy:∀ v,Fw v=roundOf Tryz.prog T3 ADl 1 0 29 (AB Tryz.f42 0) AJz AJy v:=by
 rintro⟨a0,a1,a2,a3,a4,a5,a6,⟨⟩⟩
 kernel_rfl
theorem Ad1:AD (AB Tryz.f42 0) 1=[]:=by kernel_rfl
theorem Ad2:AY Tryz.prog 0 (.loop (AB Tryz.f42 0)) (ADl.loop 0):=AT OS (AMy) (AA Ad1 trivial)
theorem AXH:∀ v,SY v=AL 0 Tryz.prog T3 ADl Tryz.f42 ADk ADj ADi v:=by
 rintro⟨a0,a1,⟨⟩⟩
 kernel_rfl
theorem Ah6:AD (AR Tryz.f42) 0=[(0,AB Tryz.f42 0)]:=by kernel_rfl
theorem ARV:AN Tryz.prog 42 (AF 0 2 ADk ADj ADi ADm):=AG OS Tryz.func42 (by kernel_rfl) (by kernel_rfl) rfl (fun v=>(AJ0 v).trans (AXH v)) (AA Ah6 ⟨Ad2,trivial⟩)
def AHN:Env:=T3.ext 42 true true (AF 0 2 ADk ADj ADi ADm)
theorem Z0:AW Tryz.prog AHN:=Env.Aa OS ARV (fun _=>AI rfl rfl) (fun _=>AH rfl rfl)
abbrev QZ:Hints:={ loop:=fun n=>match n with|0=>AZ 0 108 Aa1 Aay I5|1=>AZ 0 108 Aa0 Aax I4|2=>AZ 0 108 Aaz Aaw Gd|_=>fun _ _ _=>none,fp:=fun n=>match n with|19=>[[],[0],[0],[0],[],[],[0],[0],[0],[],[4],[6],[6],[6],[6],[],[],[5,8],[5]]|6=>[[0],[0],[10],[10],[10],[],[],[],[],[],[],[],[20,22],[]]|_=>[] }
def ACS:Env:={ AHN with keep:=false,rows:=true,arrs:=true }
theorem Oq:AW Tryz.prog ACS:=Z0
theorem AWD:∀ v,Gd v=roundOf Tryz.prog ACS QZ 3 0 108 (AB Tryz.f27 2) Aaz Aaw v:=by
 rintro⟨a0,a1,a2,a3,a4,a5,a6,a7,a8,a9,a10,a11,a12,a13,a14,a15,a16,⟨⟩⟩
 kernel_rfl
theorem AlI:AD (AB Tryz.f27 2) 3=[]:=by kernel_rfl
theorem AlL:AY Tryz.prog 0 (.loop (AB Tryz.f27 2)) (QZ.loop 2):=AT Oq (AWD) (AA AlI trivial)
theorem AWE:∀ v,I4 v=roundOf Tryz.prog ACS QZ 2 0 108 (AB Tryz.f27 1) Aa0 Aax v:=by
 rintro⟨a0,a1,a2,a3,a4,a5,a6,a7,⟨⟩⟩
 kernel_rfl
theorem AlJ:AD (AB Tryz.f27 1) 2=[(2,AB Tryz.f27 2)]:=by kernel_rfl
theorem AlM:AY Tryz.prog 0 (.loop (AB Tryz.f27 1)) (QZ.loop 1):=AT Oq (AWE) (AA AlJ ⟨AlL,trivial⟩)
theorem AWF:∀ v,I5 v=roundOf Tryz.prog ACS QZ 1 0 108 (AB Tryz.f27 0) Aa1 Aay v:=by
 rintro⟨a0,a1,a2,a3,a4,a5,a6,a7,a8,a9,⟨⟩⟩
 kernel_rfl
theorem AlK:AD (AB Tryz.f27 0) 1=[]:=by kernel_rfl
theorem AlN:AY Tryz.prog 0 (.loop (AB Tryz.f27 0)) (QZ.loop 0):=AT Oq (AWF) (AA AlK trivial)
theorem AhZ:∀ v,Vs v=AXJ 0 Tryz.prog ACS QZ Tryz.f27 AWI AWH AWG v:=by
 rintro⟨a0,a1,a2,⟨⟩⟩
 kernel_rfl
theorem AnK:AD (AR Tryz.f27) 0=[(0,AB Tryz.f27 0),(1,AB Tryz.f27 1)]:=by kernel_rfl
theorem AdI:AN Tryz.prog 27 (ASn 0 3 AWI AWH AWG seen):=AkS Oq Tryz.func27 (by kernel_rfl) (by kernel_rfl) rfl (fun v=>(AAs v).trans (AhZ v)) (AA AnK ⟨AlN,AlM,trivial⟩)
def AaV:Env:=AHN.ext 27 false false (ASn 0 3 AWI AWH AWG seen)
theorem AKy:AW Tryz.prog AaV:=Env.Aa Z0 AdI ((by simp)) (by simp)
abbrev Ac9:Hints:={ fp:=fun n=>match n with|1=>[[],[0],[0],[0],[4],[4],[2],[],[0],[0],[0],[4],[4],[2],[],[],[]]|_=>[] }
theorem AQd:∀ v,Vr v=AL 2 Tryz.prog AaV Ac9 Tryz.f32 Vq Vp Vo v:=by
 rintro⟨a0,a1,a2,a3,a4,⟨⟩⟩
 kernel_rfl
theorem Ac8:AD (AR Tryz.f32) 0=[]:=by kernel_rfl
theorem AMC:AN Tryz.prog 32 (AF 2 2 Vq Vp Vo Oo):=AG AKy Tryz.func32 (by kernel_rfl) (by kernel_rfl) rfl (fun v=>(AV1 v).trans (AQd v)) (AA Ac8 trivial)
def YL:Env:=AaV.ext 32 false true (AF 2 2 Vq Vp Vo Oo)
theorem Tu:AW Tryz.prog YL:=Env.Aa AKy AMC ((by simp)) (fun _=>AH rfl rfl)
abbrev AV0:Hints:={  }
theorem AMB:∀ v,LG v=AL 2 Tryz.prog YL AV0 Tryz.f41 QX QW QV v:=by
 rintro⟨a0,a1,a2,a3,a4,⟨⟩⟩
 kernel_rfl
theorem AVz:AD (AR Tryz.f41) 0=[]:=by kernel_rfl
theorem AHp:AN Tryz.prog 41 (AF 2 2 QX QW QV H5):=AG Tu Tryz.func41 (by kernel_rfl) (by kernel_rfl) rfl (fun v=>(Yr v).trans (AMB v)) (AA AVz trivial)
def Re:Env:=YL.ext 41 false true (AF 2 2 QX QW QV H5)
theorem P7:AW Tryz.prog Re:=Env.Aa Tu AHp ((by simp)) (fun _=>AH rfl rfl)
theorem AQc:Tryz.f65.body.isSome=true:=by kernel_rfl
theorem AQb : (Tryz.f65.name == "runtime.NumGoroutine") = false := by kernel_rfl
theorem AQa:loops (AR Tryz.f65)=0:=by kernel_rfl
def Gq:Env:=Re.ext 65 false false (DL Tryz.prog Re {} Tryz.f65)
theorem GU:AW Tryz.prog Gq:=Env.Aa P7 (Ct P7 Tryz.func65 AQc AQb AQa) (by simp) (by simp)
abbrev Jv:Hints:={ loop:=fun n=>match n with|0=>AZ 4 19 Nm Nl IS|_=>fun _ _ _=>none }
theorem Sx:∀ v,IS v=roundOf Tryz.prog Gq Jv 1 4 19 (AB Tryz.f91 0) Nm Nl v:=by
 rintro⟨a0,a1,a2,a3,a4,a5,a6,⟨⟩⟩
 kernel_rfl
theorem AFK:AD (AB Tryz.f91 0) 1=[]:=by kernel_rfl
theorem AFL:AY Tryz.prog 4 (.loop (AB Tryz.f91 0)) (Jv.loop 0):=AT GU (Sx) (AA AFK trivial)
theorem AAL:∀ v,Jw v=AL 4 Tryz.prog Gq Jv Tryz.f91 Ju Jt Js v:=by
 rintro⟨a0,a1,a2,a3,a4,⟨⟩⟩
 kernel_rfl
theorem AIS:AD (AR Tryz.f91) 0=[(0,AB Tryz.f91 0)]:=by kernel_rfl
theorem XN:AN Tryz.prog 91 (AF 4 2 Ju Jt Js JI):=AG GU Tryz.func91 (by kernel_rfl) (by kernel_rfl) rfl (fun v=>(AFM v).trans (AAL v)) (AA AIS ⟨AFL,trivial⟩)
def Gr:Env:=Gq.CD 91 1 65 (AF 4 2 Ju Jt Js JI)
theorem GZ:AW Tryz.prog Gr:=Env.Az GU XN (AH rfl rfl)
abbrev KC:Hints:={ loop:=fun n=>match n with|0=>AZ 4 42 N7 N6 Ic|_=>fun _ _ _=>none }
theorem TM:∀ v,Ic v=roundOf Tryz.prog Gr KC 1 4 42 (AB Tryz.f63 0) N7 N6 v:=by
 rintro⟨a0,a1,a2,a3,a4,a5,a6,⟨⟩⟩
 kernel_rfl
theorem AFy:AD (AB Tryz.f63 0) 1=[]:=by kernel_rfl
theorem AFz:AY Tryz.prog 4 (.loop (AB Tryz.f63 0)) (KC.loop 0):=AT GZ (TM) (AA AFy trivial)
theorem AAU:∀ v,KD v=AL 4 Tryz.prog Gr KC Tryz.f63 KB KA J9 v:=by
 rintro⟨a0,a1,a2,a3,a4,⟨⟩⟩
 kernel_rfl
theorem AIi:AD (AR Tryz.f63) 0=[(0,AB Tryz.f63 0)]:=by kernel_rfl
theorem Xh:AN Tryz.prog 63 (AF 4 2 KB KA J9 JW):=AG GZ Tryz.func63 (by kernel_rfl) (by kernel_rfl) rfl (fun v=>(AF0 v).trans (AAU v)) (AA AIi ⟨AFz,trivial⟩)
def KN:Env:=Gr.CD 63 1 65 (KR (AF 4 2 KB KA J9 JW))
theorem K5:AW Tryz.prog KN:=Env.Az GZ (Yn Xh) (Aak rfl rfl)
end
end Go.Pev
end
section
namespace Go.Pev
open Go.Proofs
noncomputable section
abbrev AVy:Hints:={  }
theorem AMA:∀ v,QU v=AL 2 Tryz.prog KN AVy Tryz.f30 QT QS QR v:=by
 rintro⟨a0,a1,a2,a3,⟨⟩⟩
 kernel_rfl
theorem AVx:AD (AR Tryz.f30) 0=[]:=by kernel_rfl
theorem AHo:AN Tryz.prog 30 (AF 2 1 QT QS QR KT):=AG K5 Tryz.func30 (by kernel_rfl) (by kernel_rfl) rfl (fun v=>(AQZ v).trans (AMA v)) (AA AVx trivial)
def Iq:Env:=KN.ext 30 false true (AF 2 1 QT QS QR KT)
theorem Gp:AW Tryz.prog Iq:=Env.Aa K5 AHo ((by simp)) (fun _=>AH rfl rfl)
abbrev ACO:Hints:={ loop:=fun n=>match n with|0=>AZ 2 48 Aat Aar AMH|1=>AZ 2 48 Aas Aaq AMG|_=>fun _ _ _=>none,fp:=fun n=>match n with|9=>[[],[8],[4],[],[5],[],[5]]|_=>[] }
theorem AV3:∀ v,AMG v=roundOf Tryz.prog Iq ACO 2 2 48 (AB Tryz.f29 1) Aas Aaq v:=by
 rintro⟨a0,a1,a2,a3,a4,a5,a6,a7,a8,a9,a10,a11,⟨⟩⟩
 kernel_rfl
theorem Ak9:AD (AB Tryz.f29 1) 2=[]:=by kernel_rfl
theorem AlB:AY Tryz.prog 2 (.loop (AB Tryz.f29 1)) (ACO.loop 1):=AT Gp (AV3) (AA Ak9 trivial)
theorem AV4:∀ v,AMH v=roundOf Tryz.prog Iq ACO 1 2 48 (AB Tryz.f29 0) Aat Aar v:=by
 rintro⟨a0,a1,a2,a3,a4,a5,a6,a7,a8,⟨⟩⟩
 kernel_rfl
theorem AlA:AD (AB Tryz.f29 0) 1=[(1,AB Tryz.f29 1)]:=by kernel_rfl
theorem AlC:AY Tryz.prog 2 (.loop (AB Tryz.f29 0)) (ACO.loop 0):=AT Gp (AV4) (AA AlA ⟨AlB,trivial⟩)
theorem AhM:∀ v,AV8 v=AL 2 Tryz.prog Iq ACO Tryz.f29 AV7 AV6 AV5 v:=by
 rintro⟨a0,a1,a2,a3,a4,⟨⟩⟩
 kernel_rfl
theorem AnJ:AD (AR Tryz.f29) 0=[(0,AB Tryz.f29 0)]:=by kernel_rfl
theorem AdB:AN Tryz.prog 29 (AF 2 2 AV7 AV6 AV5 AdC):=AG Gp Tryz.func29 (by kernel_rfl) (by kernel_rfl) rfl (fun v=>(AlD v).trans (AhM v)) (AA AnJ ⟨AlC,trivial⟩)
def AaU:Env:=Iq.ext 29 false true (AF 2 2 AV7 AV6 AV5 AdC)
theorem AKx:AW Tryz.prog AaU:=Env.Aa Gp AdB ((by simp)) (fun _=>AH rfl rfl)
theorem Ak2:Tryz.f31.body.isSome=true:=by kernel_rfl
theorem Ak1 : (Tryz.f31.name == "runtime.NumGoroutine") = false := by kernel_rfl
theorem Ak0:loops (AR Tryz.f31)=0:=by kernel_rfl
def PV:Env:=AaU.ext 31 false false (DL Tryz.prog AaU {} Tryz.f31)
theorem MU:AW Tryz.prog PV:=Env.Aa AKx (Ct AKx Tryz.func31 Ak2 Ak1 Ak0) (by simp) (by simp)
abbrev Ls:Hints:={ loop:=fun n=>match n with|0=>AZ 4 19 Pu Pt J5|_=>fun _ _ _=>none }
theorem XS:∀ v,J5 v=roundOf Tryz.prog PV Ls 1 4 19 (AB Tryz.f38 0) Pu Pt v:=by
 rintro⟨a0,a1,a2,a3,a4,a5,a6,⟨⟩⟩
 kernel_rfl
theorem AIV:AD (AB Tryz.f38 0) 1=[]:=by kernel_rfl
theorem AIW:AY Tryz.prog 4 (.loop (AB Tryz.f38 0)) (Ls.loop 0):=AT MU (XS) (AA AIV trivial)
theorem AFS:∀ v,Lt v=AL 4 Tryz.prog PV Ls Tryz.f38 Lr Lq Lp v:=by
 rintro⟨a0,a1,a2,a3,a4,⟨⟩⟩
 kernel_rfl
theorem AN5:AD (AR Tryz.f38) 0=[(0,AB Tryz.f38 0)]:=by kernel_rfl
theorem AAQ:AN Tryz.prog 38 (AF 4 2 Lr Lq Lp Lu):=AG MU Tryz.func38 (by kernel_rfl) (by kernel_rfl) rfl (fun v=>(AIX v).trans (AFS v)) (AA AN5 ⟨AIW,trivial⟩)
def Hb:Env:=PV.CD 38 1 31 (AF 4 2 Lr Lq Lp Lu)
theorem HH:AW Tryz.prog Hb:=Env.Az MU AAQ (AH rfl rfl)
abbrev MF:Hints:={ loop:=fun n=>match n with|0=>AZ 4 42 P5 P2 KE|_=>fun _ _ _=>none }
theorem Xi:∀ v,KE v=roundOf Tryz.prog Hb MF 1 4 42 (AB Tryz.f28 0) P5 P2 v:=by
 rintro⟨a0,a1,a2,a3,a4,a5,a6,⟨⟩⟩
 kernel_rfl
theorem AIj:AD (AB Tryz.f28 0) 1=[]:=by kernel_rfl
theorem AIk:AY Tryz.prog 4 (.loop (AB Tryz.f28 0)) (MF.loop 0):=AT HH (Xi) (AA AIj trivial)
theorem AF1:∀ v,MG v=AL 4 Tryz.prog Hb MF Tryz.f28 ME MD MC v:=by
 rintro⟨a0,a1,a2,a3,a4,⟨⟩⟩
 kernel_rfl
theorem AOa:AD (AR Tryz.f28) 0=[(0,AB Tryz.f28 0)]:=by kernel_rfl
theorem AAV:AN Tryz.prog 28 (AF 4 2 ME MD MC MH):=AG HH Tryz.func28 (by kernel_rfl) (by kernel_rfl) rfl (fun v=>(AIl v).trans (AF1 v)) (AA AOa ⟨AIk,trivial⟩)
def Mi:Env:=Hb.CD 28 1 31 (KR (AF 4 2 ME MD MC MH))
theorem Mv:AW Tryz.prog Mi:=Env.Az HH (Yn AAV) (Aak rfl rfl)
abbrev AnF:Hints:={ fp:=fun n=>match n with|4=>[[10],[10],[1000005,3,5],[1000005,3,13,5],[],[1000005,21,11,3,5],[],[]]|_=>[] }
theorem AhH:∀ v,AVu v=AL 0 Tryz.prog Mi AnF Tryz.f11 AVt AVs AVr v:=by
 rintro⟨a0,a1,a2,⟨⟩⟩
 kernel_rfl
theorem AnE:AD (AR Tryz.f11) 0=[]:=by kernel_rfl
theorem Ac4:AN Tryz.prog 11 (AF 0 3 AVt AVs AVr AhI):=AG Mv Tryz.func11 (by kernel_rfl) (by kernel_rfl) rfl (fun v=>(Akz v).trans (AhH v)) (AA AnE trivial)
def AaT:Env:=Mi.ext 11 true true (AF 0 3 AVt AVs AVr AhI)
theorem AKw:AW Tryz.prog AaT:=Env.Aa Mv Ac4 (fun _=>AI rfl rfl) (fun _=>AH rfl rfl)
abbrev AhG:Hints:={  }
theorem AVq:∀ v,ACN v=AL 0 Tryz.prog AaT AhG Tryz.f13 ACL ACK ACJ v:=by
 rintro⟨a0,a1,a2,a3,⟨⟩⟩
 kernel_rfl
theorem AhF:AD (AR Tryz.f13) 0=[]:=by kernel_rfl
theorem AQW:AN Tryz.prog 13 (AF 0 4 ACL ACK ACJ AL3):=AG AKw Tryz.func13 (by kernel_rfl) (by kernel_rfl) rfl (fun v=>(Ac3 v).trans (AVq v)) (AA AhF trivial)
def Tr:Env:=AaT.ext 13 true true (AF 0 4 ACL ACK ACJ AL3)
theorem OQ:AW Tryz.prog Tr:=Env.Aa AKw AQW (fun _=>AI rfl rfl) (fun _=>AH rfl rfl)
abbrev Ly:Hints:={ loop:=fun n=>match n with|0=>AZ 2 19 Pw Pv J6|_=>fun _ _ _=>none }
theorem XT:∀ v,J6 v=roundOf Tryz.prog Tr Ly 1 2 19 (AB Tryz.f38 0) Pw Pv v:=by
 rintro⟨a0,a1,a2,a3,a4,a5,a6,⟨⟩⟩
 kernel_rfl
theorem AIY:AD (AB Tryz.f38 0) 1=[]:=by kernel_rfl
theorem AIZ:AY Tryz.prog 2 (.loop (AB Tryz.f38 0)) (Ly.loop 0):=AT OQ (XT) (AA AIY trivial)
theorem AFT:∀ v,Lz v=AL 2 Tryz.prog Tr Ly Tryz.f38 Lx Lw Lv v:=by
 rintro⟨a0,a1,a2,a3,a4,⟨⟩⟩
 kernel_rfl
theorem AN6:AD (AR Tryz.f38) 0=[(0,AB Tryz.f38 0)]:=by kernel_rfl
theorem AAR:AN Tryz.prog 38 (AF 2 2 Lx Lw Lv L0):=AG OQ Tryz.func38 (by kernel_rfl) (by kernel_rfl) rfl (fun v=>(AIa v).trans (AFT v)) (AA AN6 ⟨AIZ,trivial⟩)
def Hc:Env:=Tr.CD 38 1 32 (AF 2 2 Lx Lw Lv L0)
theorem HJ:AW Tryz.prog Hc:=Env.Az OQ AAR (AH rfl rfl)
abbrev AL1:Hints:={ loop:=fun n=>match n with|0=>AZ 0 66 AQV AQU ACH|_=>fun _ _ _=>none,fp:=fun n=>match n with|11=>[[],[],[6],[6],[0],[1],[0],[1]]|_=>[] }
theorem AQT:∀ v,ACH v=roundOf Tryz.prog Hc AL1 1 0 66 (AB Tryz.f15 0) AQV AQU v:=by
 rintro⟨a0,a1,a2,a3,a4,a5,a6,a7,a8,a9,⟨⟩⟩
 kernel_rfl
theorem AhC:AD (AB Tryz.f15 0) 1=[]:=by kernel_rfl
theorem AhD:AY Tryz.prog 0 (.loop (AB Tryz.f15 0)) (AL1.loop 0):=AT HJ (AQT) (AA AhC trivial)
theorem Ac2:∀ v,AL2 v=AL 0 Tryz.prog Hc AL1 Tryz.f15 AL0 ALz ALy v:=by
 rintro⟨a0,a1,a2,⟨⟩⟩
 kernel_rfl
theorem Aky:AD (AR Tryz.f15) 0=[(0,AB Tryz.f15 0)]:=by kernel_rfl
theorem AVp:AN Tryz.prog 15 (AF 0 3 AL0 ALz ALy ACI):=AG HJ Tryz.func15 (by kernel_rfl) (by kernel_rfl) rfl (fun v=>(AhE v).trans (Ac2 v)) (AA Aky ⟨AhD,trivial⟩)
def AA9:Env:=Hc.ext 15 true true (AF 0 3 AL0 ALz ALy ACI)
theorem Rd:AW Tryz.prog AA9:=Env.Aa HJ AVp (fun _=>AI rfl rfl) (fun _=>AH rfl rfl)
abbrev ACE:Hints:={ loop:=fun n=>match n with|0=>AZ 0 65 AJX AJW Fm|_=>fun _ _ _=>none,fp:=fun n=>match n with|4=>[[],[4],[4],[4],[],[4],[4],[4],[],[],[12],[],[],[],[3]]|_=>[] }
theorem ALv:∀ v,Fm v=roundOf Tryz.prog AA9 ACE 1 0 65 (AB Tryz.f18 0) AJX AJW v:=by
 rintro⟨a0,a1,a2,a3,a4,a5,a6,a7,a8,a9,a10,⟨⟩⟩
 kernel_rfl
theorem Acy:AD (AB Tryz.f18 0) 1=[]:=by kernel_rfl
theorem Acz:AY Tryz.prog 0 (.loop (AB Tryz.f18 0)) (ACE.loop 0):=AT Rd (ALv) (AA Acy trivial)
theorem AVg:∀ v,NB v=AL 0 Tryz.prog AA9 ACE Tryz.f18 ACD ACC ACB v:=by
 rintro⟨a0,a1,a2,a3,⟨⟩⟩
 kernel_rfl
theorem AhB:AD (AR Tryz.f18) 0=[(0,AB Tryz.f18 0)]:=by kernel_rfl
theorem AQS:AN Tryz.prog 18 (AF 0 4 ACD ACC ACB QM):=AG Rd Tryz.func18 (by kernel_rfl) (by kernel_rfl) rfl (fun v=>(VZ v).trans (AVg v)) (AA AhB ⟨Acz,trivial⟩)
def AHE:Env:=AA9.ext 18 true true (AF 0 4 ACD ACC ACB QM)
theorem Zu:AW Tryz.prog AHE:=Env.Aa Rd AQS (fun _=>AI rfl rfl) (fun _=>AH rfl rfl)
abbrev An1:Hints:={  }
theorem AkO:∀ v,AO7 v=AL 0 Tryz.prog AHE An1 Tryz.f79 AaI AaH AaG v:=by
 rintro⟨a0,a1,⟨⟩⟩
 kernel_rfl
theorem An0:AD (AR Tryz.f79) 0=[]:=by kernel_rfl
theorem AgB:AN Tryz.prog 79 (AF 0 2 AaI AaH AaG AkP):=AG Zu Tryz.func79 (by kernel_rfl) (by kernel_rfl) rfl (fun v=>(Ab9 v).trans (AkO v)) (AA An0 trivial)
def Aad:Env:=AHE.ext 79 true true (AF 0 2 AaI AaH AaG AkP)
theorem AK7:AW Tryz.prog Aad:=Env.Aa Zu AgB (fun _=>AI rfl rfl) (fun _=>AH rfl rfl)
abbrev Ame:Hints:={  }
theorem AgA:∀ v,AA5 v=AL 0 Tryz.prog Aad Ame Tryz.f101 AO6 AO5 AO4 v:=by
 rintro⟨a0,a1,⟨⟩⟩
 kernel_rfl
theorem Amd:AD (AR Tryz.f101) 0=[]:=by kernel_rfl
theorem AaE:AN Tryz.prog 101 (AF 0 2 AO6 AO5 AO4 AUf):=AG AK7 Tryz.func101 (by kernel_rfl) (by kernel_rfl) rfl (fun v=>(AUe v).trans (AgA v)) (AA Amd trivial)
def ABC:Env:=Aad.ext 101 true true (AF 0 2 AO6 AO5 AO4 AUf)
theorem Rm:AW Tryz.prog ABC:=Env.Aa AK7 AaE (fun _=>AI rfl rfl) (fun _=>AH rfl rfl)
end
end Go.Pev
end
section
namespace Go.Pev
open Go.Proofs
noncomputable section
abbrev Q8:Hints:={ loop:=fun n=>match n with|0=>AZ 0 16 ZY ZX CB|_=>fun _ _ _=>none }
theorem AFW:∀ v,CB v=roundOf Tryz.prog ABC Q8 1 0 16 (AB Tryz.f78 0) ZY ZX v:=by
 rintro⟨a0,a1,⟨⟩⟩
 kernel_rfl
theorem ATN:AD (AB Tryz.f78 0) 1=[]:=by kernel_rfl
theorem ATO:AY Tryz.prog 0 (.loop (AB Tryz.f78 0)) (Q8.loop 0):=AT Rm (AFW) (AA ATN trivial)
theorem AOA:∀ v,L3 v=AL 0 Tryz.prog ABC Q8 Tryz.f78 Q7 Q6 Q5 v:=by
 rintro⟨a0,⟨⟩⟩
 kernel_rfl
theorem AY3:AD (AR Tryz.f78) 0=[(0,AB Tryz.f78 0)]:=by kernel_rfl
theorem AId:AN Tryz.prog 78 (AF 0 1 Q7 Q6 Q5 Ny):=AG Rm Tryz.func78 (by kernel_rfl) (by kernel_rfl) rfl (fun v=>(ZZ v).trans (AOA v)) (AA AY3 ⟨ATO,trivial⟩)
def Mg:Env:=ABC.ext 78 true true (AF 0 1 Q7 Q6 Q5 Ny)
theorem KM:AW Tryz.prog Mg:=Env.Aa Rm AId (fun _=>AI rfl rfl) (fun _=>AH rfl rfl)
abbrev Nx:Hints:={ loop:=fun n=>match n with|0=>AZ 0 31 S6 S5 DA|_=>fun _ _ _=>none }
theorem AAS:∀ v,DA v=roundOf Tryz.prog Mg Nx 1 0 31 (AB Tryz.f44 0) S6 S5 v:=by
 rintro⟨a0,a1,a2,a3,⟨⟩⟩
 kernel_rfl
theorem AN7:AD (AB Tryz.f44 0) 1=[]:=by kernel_rfl
theorem AN8:AY Tryz.prog 0 (.loop (AB Tryz.f44 0)) (Nx.loop 0):=AT KM (AAS) (AA AN7 trivial)
theorem AIc:∀ v,JO v=AL 0 Tryz.prog Mg Nx Tryz.f44 Nw Nv Nu v:=by
 rintro⟨a0,a1,⟨⟩⟩
 kernel_rfl
theorem ATM:AD (AR Tryz.f44) 0=[(0,AB Tryz.f44 0)]:=by kernel_rfl
theorem AFV:AN Tryz.prog 44 (AF 0 2 Nw Nv Nu Kl):=AG KM Tryz.func44 (by kernel_rfl) (by kernel_rfl) rfl (fun v=>(S7 v).trans (AIc v)) (AA ATM ⟨AN8,trivial⟩)
def Ds:Env:=Mg.ext 44 true true (AF 0 2 Nw Nv Nu Kl)
theorem Cs:AW Tryz.prog Ds:=Env.Aa KM AFV (fun _=>AI rfl rfl) (fun _=>AH rfl rfl)
abbrev D9:Hints:={ loop:=fun n=>match n with|0=>AZ 0 94 AGh AGd En|1=>AZ 0 94 AGg AGc Em|2=>AZ 0 94 AGf AGb Dn|3=>AZ 0 94 AGe AGa El|_=>fun _ _ _=>none }
theorem AI1:∀ v,El v=roundOf Tryz.prog Ds D9 4 0 94 (AB Tryz.f43 3) AGe AGa v:=by
 rintro⟨a0,a1,a2,a3,a4,a5,a6,a7,a8,⟨⟩⟩
 kernel_rfl
theorem AZ0:AD (AB Tryz.f43 3) 4=[]:=by kernel_rfl
theorem AZ4:AY Tryz.prog 0 (.loop (AB Tryz.f43 3)) (D9.loop 3):=AT Cs (AI1) (AA AZ0 trivial)
theorem AI2:∀ v,Dn v=roundOf Tryz.prog Ds D9 3 0 94 (AB Tryz.f43 2) AGf AGb v:=by
 rintro⟨a0,a1,a2,a3,a4,a5,a6,a7,⟨⟩⟩
 kernel_rfl
theorem AZ1:AD (AB Tryz.f43 2) 3=[(3,AB Tryz.f43 3)]:=by kernel_rfl
theorem AZ5:AY Tryz.prog 0 (.loop (AB Tryz.f43 2)) (D9.loop 2):=AT Cs (AI2) (AA AZ1 ⟨AZ4,trivial⟩)
theorem AI3:∀ v,Em v=roundOf Tryz.prog Ds D9 2 0 94 (AB Tryz.f43 1) AGg AGc v:=by
 rintro⟨a0,a1,a2,a3,a4,a5,⟨⟩⟩
 kernel_rfl
theorem AZ2:AD (AB Tryz.f43 1) 2=[(2,AB Tryz.f43 2)]:=by kernel_rfl
theorem AZ6:AY Tryz.prog 0 (.loop (AB Tryz.f43 1)) (D9.loop 1):=AT Cs (AI3) (AA AZ2 ⟨AZ5,trivial⟩)
theorem AI4:∀ v,En v=roundOf Tryz.prog Ds D9 1 0 94 (AB Tryz.f43 0) AGh AGd v:=by
 rintro⟨a0,a1,a2,a3,⟨⟩⟩
 kernel_rfl
theorem AZ3:AD (AB Tryz.f43 0) 1=[]:=by kernel_rfl
theorem AZ7:AY Tryz.prog 0 (.loop (AB Tryz.f43 0)) (D9.loop 0):=AT Cs (AI4) (AA AZ3 trivial)
theorem AUX:∀ v,PL v=AL 0 Tryz.prog Ds D9 Tryz.f43 X3 X2 X1 v:=by
 rintro⟨a0,a1,⟨⟩⟩
 kernel_rfl
theorem Afz:AD (AR Tryz.f43) 0=[(0,AB Tryz.f43 0),(1,AB Tryz.f43 1)]:=by kernel_rfl
theorem AOz:AN Tryz.prog 43 (AF 0 2 X3 X2 X1 PM):=AG Cs Tryz.func43 (by kernel_rfl) (by kernel_rfl) rfl (fun v=>(AGi v).trans (AUX v)) (AA Afz ⟨AZ7,AZ6,trivial⟩)
def Yf:Env:=Ds.ext 43 true true (AF 0 2 X3 X2 X1 PM)
theorem UR:AW Tryz.prog Yf:=Env.Aa Cs AOz (fun _=>AI rfl rfl) (fun _=>AH rfl rfl)
abbrev Ahe:Hints:={  }
theorem AWL:∀ v,NJ v=AL 0 Tryz.prog Yf Ahe Tryz.f20 ACh ACg ACf v:=by
 rintro⟨a0,a1,⟨⟩⟩
 kernel_rfl
theorem Ahd:AD (AR Tryz.f20) 0=[]:=by kernel_rfl
theorem AQu:AN Tryz.prog 20 (AF 0 2 ACh ACg ACf Qb):=AG UR Tryz.func20 (by kernel_rfl) (by kernel_rfl) rfl (fun v=>(Vu v).trans (AWL v)) (AA Ahd trivial)
def AHG:Env:=Yf.ext 20 true true (AF 0 2 ACh ACg ACf Qb)
theorem Zv:AW Tryz.prog AHG:=Env.Aa UR AQu (fun _=>AI rfl rfl) (fun _=>AH rfl rfl)
abbrev Adf:Hints:={  }
theorem ARA:∀ v,Ow v=AL 0 Tryz.prog AHG Adf Tryz.f102 WE WD WC v:=by
 rintro⟨a0,⟨⟩⟩
 kernel_rfl
theorem Ade:AD (AR Tryz.f102) 0=[]:=by kernel_rfl
theorem AMd:AN Tryz.prog 102 (AF 0 1 WE WD WC SO):=AG Zv Tryz.func102 (by kernel_rfl) (by kernel_rfl) rfl (fun v=>(ADA v).trans (ARA v)) (AA Ade trivial)
def YN:Env:=AHG.ext 102 true true (AF 0 1 WE WD WC SO)
theorem T5:AW Tryz.prog YN:=Env.Aa Zv AMd (fun _=>AI rfl rfl) (fun _=>AH rfl rfl)
abbrev Alx:Hints:={  }
theorem Aei:∀ v,AAx v=AL 0 Tryz.prog YN Alx Tryz.f103 ANh ANg ANf v:=by
 rintro⟨a0,⟨⟩⟩
 kernel_rfl
theorem Alw:AD (AR Tryz.f103) 0=[]:=by kernel_rfl
theorem AYH:AN Tryz.prog 103 (AF 0 1 ANh ANg ANf ASv):=AG T5 Tryz.func103 (by kernel_rfl) (by kernel_rfl) rfl (fun v=>(ASu v).trans (Aei v)) (AA Alw trivial)
def Md:Env:=YN.ext 103 true true (AF 0 1 ANh ANg ANf ASv)
theorem GX:AW Tryz.prog Md:=Env.Aa T5 AYH (fun _=>AI rfl rfl) (fun _=>AH rfl rfl)
abbrev D8:Hints:={ loop:=fun n=>match n with|0=>AZ 0 89 AGY AGU Ek|1=>AZ 0 89 AGX AGT Ej|2=>AZ 0 89 AGW AGS Dm|3=>AZ 0 89 AGV AGR Ei|_=>fun _ _ _=>none }
theorem AIx:∀ v,Ei v=roundOf Tryz.prog Md D8 4 0 89 (AB Tryz.f80 3) AGV AGR v:=by
 rintro⟨a0,a1,a2,a3,a4,a5,a6,a7,a8,a9,a10,⟨⟩⟩
 kernel_rfl
theorem AZs:AD (AB Tryz.f80 3) 4=[]:=by kernel_rfl
theorem AZw:AY Tryz.prog 0 (.loop (AB Tryz.f80 3)) (D8.loop 3):=AT GX (AIx) (AA AZs trivial)
theorem AIy:∀ v,Dm v=roundOf Tryz.prog Md D8 3 0 89 (AB Tryz.f80 2) AGW AGS v:=by
 rintro⟨a0,a1,a2,a3,a4,a5,a6,a7,a8,⟨⟩⟩
 kernel_rfl
theorem AZt:AD (AB Tryz.f80 2) 3=[(3,AB Tryz.f80 3)]:=by kernel_rfl
theorem AZx:AY Tryz.prog 0 (.loop (AB Tryz.f80 2)) (D8.loop 2):=AT GX (AIy) (AA AZt ⟨AZw,trivial⟩)
theorem AIz:∀ v,Ej v=roundOf Tryz.prog Md D8 2 0 89 (AB Tryz.f80 1) AGX AGT v:=by
 rintro⟨a0,a1,a2,a3,a4,a5,a6,⟨⟩⟩
 kernel_rfl
theorem AZu:AD (AB Tryz.f80 1) 2=[(2,AB Tryz.f80 2)]:=by kernel_rfl
theorem AZy:AY Tryz.prog 0 (.loop (AB Tryz.f80 1)) (D8.loop 1):=AT GX (AIz) (AA AZu ⟨AZx,trivial⟩)
theorem AI0:∀ v,Ek v=roundOf Tryz.prog Md D8 1 0 89 (AB Tryz.f80 0) AGY AGU v:=by
 rintro⟨a0,a1,a2,a3,a4,a5,⟨⟩⟩
 kernel_rfl
theorem AZv:AD (AB Tryz.f80 0) 1=[]:=by kernel_rfl
theorem AZz:AY Tryz.prog 0 (.loop (AB Tryz.f80 0)) (D8.loop 0):=AT GX (AI0) (AA AZv trivial)
theorem AUW:∀ v,PK v=AL 0 Tryz.prog Md D8 Tryz.f80 X0 Xz Xy v:=by
 rintro⟨a0,a1,⟨⟩⟩
 kernel_rfl
theorem Afy:AD (AR Tryz.f80) 0=[(0,AB Tryz.f80 0),(1,AB Tryz.f80 1)]:=by kernel_rfl
theorem AOy:AN Tryz.prog 80 (AF 0 2 X0 Xz Xy Te):=AG GX Tryz.func80 (by kernel_rfl) (by kernel_rfl) rfl (fun v=>(AGZ v).trans (AUW v)) (AA Afy ⟨AZz,AZy,trivial⟩)
def Pa:Env:=Md.ext 80 true true (AF 0 2 X0 Xz Xy Te)
theorem Mj:AW Tryz.prog Pa:=Env.Aa GX AOy (fun _=>AI rfl rfl) (fun _=>AH rfl rfl)
abbrev AEc:Hints:={ loop:=fun n=>match n with|0=>AZ 0 29 AKD AKC F5|_=>fun _ _ _=>none }
theorem ANk:∀ v,F5 v=roundOf Tryz.prog Pa AEc 1 0 29 (AB Tryz.f46 0) AKD AKC v:=by
 rintro⟨a0,a1,a2,a3,a4,a5,⟨⟩⟩
 kernel_rfl
theorem Aej:AD (AB Tryz.f46 0) 1=[]:=by kernel_rfl
theorem Aek:AY Tryz.prog 0 (.loop (AB Tryz.f46 0)) (AEc.loop 0):=AT Mj (ANk) (AA Aej trivial)
theorem AYL:∀ v,Sj v=AL 0 Tryz.prog Pa AEc Tryz.f46 AEb AEa AEZ v:=by
 rintro⟨a0,a1,⟨⟩⟩
 kernel_rfl
theorem Aiv:AD (AR Tryz.f46) 0=[(0,AB Tryz.f46 0)]:=by kernel_rfl
theorem ASy:AN Tryz.prog 46 (AF 0 2 AEb AEa AEZ AEd):=AG Mj Tryz.func46 (by kernel_rfl) (by kernel_rfl) rfl (fun v=>(AKE v).trans (AYL v)) (AA Aiv ⟨Aek,trivial⟩)
def AHQ:Env:=Pa.ext 46 true true (AF 0 2 AEb AEa AEZ AEd)
theorem Z1:AW Tryz.prog AHQ:=Env.Aa Mj ASy (fun _=>AI rfl rfl) (fun _=>AH rfl rfl)
abbrev AgE:Hints:={  }
theorem AUh:∀ v,Ho v=AL 0 Tryz.prog AHQ AgE Tryz.f33 X9 X8 X7 v:=by
 rintro⟨a0,a1,⟨⟩⟩
 kernel_rfl
theorem AgD:AD (AR Tryz.f33) 0=[]:=by kernel_rfl
theorem APB:AN Tryz.prog 33 (AF 0 2 X9 X8 X7 HX):=AG Z1 Tryz.func33 (by kernel_rfl) (by kernel_rfl) rfl (fun v=>(MK v).trans (AUh v)) (AA AgD trivial)
def Yh:Env:=AHQ.ext 33 true true (AF 0 2 X9 X8 X7 HX)
theorem UT:AW Tryz.prog Yh:=Env.Aa Z1 APB (fun _=>AI rfl rfl) (fun _=>AH rfl rfl)
abbrev Ago:Hints:={  }
theorem AVU:∀ v,R7 v=AL 0 Tryz.prog Yh Ago Tryz.f34 AB4 AB3 AB2 v:=by
 rintro⟨a0,a1,a2,⟨⟩⟩
 kernel_rfl
theorem Agn:AD (AR Tryz.f34) 0=[]:=by kernel_rfl
theorem AQB:AN Tryz.prog 34 (AF 0 3 AB4 AB3 AB2 QJ):=AG UT Tryz.func34 (by kernel_rfl) (by kernel_rfl) rfl (fun v=>(AJR v).trans (AVU v)) (AA Agn trivial)
def AHB:Env:=Yh.ext 34 true true (AF 0 3 AB4 AB3 AB2 QJ)
theorem Zt:AW Tryz.prog AHB:=Env.Aa UT AQB (fun _=>AI rfl rfl) (fun _=>AH rfl rfl)
abbrev ASf:Hints:={  }
theorem AIK:∀ v,JB v=AL 0 Tryz.prog AHB ASf Tryz.f69 NZ NY NW v:=by
 rintro⟨a0,a1,⟨⟩⟩
 kernel_rfl
theorem ASe:AD (AR Tryz.f69) 0=[]:=by kernel_rfl
theorem AET:AN Tryz.prog 69 (AF 0 2 NZ NY NW Kc):=AG Zt Tryz.func69 (by kernel_rfl) (by kernel_rfl) rfl (fun v=>(Sd v).trans (AIK v)) (AA ASe trivial)
def Jg:Env:=AHB.ext 69 true true (AF 0 2 NZ NY NW Kc)
theorem Is:AW Tryz.prog Jg:=Env.Aa Zt AET (fun _=>AI rfl rfl) (fun _=>AH rfl rfl)
abbrev Qo:Hints:={ loop:=fun n=>match n with|0=>AZ 0 42 ZQ ZP Df|_=>fun _ _ _=>none }
theorem AEY:∀ v,Df v=roundOf Tryz.prog Jg Qo 1 0 42 (AB Tryz.f45 0) ZQ ZP v:=by
 rintro⟨a0,a1,a2,a3,a4,⟨⟩⟩
 kernel_rfl
theorem ASw:AD (AB Tryz.f45 0) 1=[]:=by kernel_rfl
theorem ASx:AY Tryz.prog 0 (.loop (AB Tryz.f45 0)) (Qo.loop 0):=AT Is (AEY) (AA ASw trivial)
theorem ANj:∀ v,Lc v=AL 0 Tryz.prog Jg Qo Tryz.f45 Qn Qm Ql v:=by
 rintro⟨a0,a1,a2,⟨⟩⟩
 kernel_rfl
theorem AYJ:AD (AR Tryz.f45) 0=[(0,AB Tryz.f45 0)]:=by kernel_rfl
theorem AIM:AN Tryz.prog 45 (AF 0 3 Qn Qm Ql Nd):=AG Is Tryz.func45 (by kernel_rfl) (by kernel_rfl) rfl (fun v=>(ZR v).trans (ANj v)) (AA AYJ ⟨ASx,trivial⟩)
def Me:Env:=Jg.ext 45 true true (AF 0 3 Qn Qm Ql Nd)
theorem KI:AW Tryz.prog Me:=Env.Aa Is AIM (fun _=>AI rfl rfl) (fun _=>AH rfl rfl)
end
end Go.Pev
end
section
namespace Go.Pev
open Go.Proofs
noncomputable section
abbrev VQ:Hints:={ loop:=fun n=>match n with|0=>AZ 0 71 AB1 AB0 ET|_=>fun _ _ _=>none,fp:=fun n=>match n with|10=>[[],[],[],[],[],[0],[0],[],[],[0],[],[],[],[],[],[],[],[],[13,22],[]]|_=>[] }
theorem AHk:∀ v,ET v=roundOf Tryz.prog Me VQ 1 0 71 (AB Tryz.f19 0) AB1 AB0 v:=by
 rintro⟨a0,a1,a2,a3,a4,a5,a6,a7,a8,⟨⟩⟩
 kernel_rfl
theorem AVS:AD (AB Tryz.f19 0) 1=[]:=by kernel_rfl
theorem AVT:AY Tryz.prog 0 (.loop (AB Tryz.f19 0)) (VQ.loop 0):=AT KI (AHk) (AA AVS trivial)
theorem AP9:∀ v,KQ v=AL 0 Tryz.prog Me VQ Tryz.f19 VP VO VN v:=by
 rintro⟨a0,a1,a2,a3,⟨⟩⟩
 kernel_rfl
theorem Acn:AD (AR Tryz.f19) 0=[(0,AB Tryz.f19 0)]:=by kernel_rfl
theorem ALb:AN Tryz.prog 19 (AF 0 4 VP VO VN Oj):=AG KI Tryz.func19 (by kernel_rfl) (by kernel_rfl) rfl (fun v=>(QI v).trans (AP9 v)) (AA Acn ⟨AVT,trivial⟩)
def YJ:Env:=Me.ext 19 true true (AF 0 4 VP VO VN Oj)
theorem To:AW Tryz.prog YJ:=Env.Aa KI ALb (fun _=>AI rfl rfl) (fun _=>AH rfl rfl)
abbrev AgJ:Hints:={  }
theorem AUo:∀ v,YD v=AL 0 Tryz.prog YJ AgJ Tryz.f9 YC YB YA v:=by
 rintro⟨⟨⟩⟩
 kernel_rfl
theorem AgI:AD (AR Tryz.f9) 0=[]:=by kernel_rfl
theorem API:AN Tryz.prog 9 (AF 0 0 YC YB YA Jb):=AG To Tryz.func9 (by kernel_rfl) (by kernel_rfl) rfl (fun v=>(AaM v).trans (AUo v)) (AA AgI trivial)
def Yi:Env:=YJ.ext 9 true true (AF 0 0 YC YB YA Jb)
theorem UU:AW Tryz.prog Yi:=Env.Aa To API (fun _=>AI rfl rfl) (fun _=>AH rfl rfl)
abbrev AfT:Hints:={  }
theorem ATm:∀ v,PC v=AL 0 Tryz.prog Yi AfT Tryz.f10 XX XW XV v:=by
 rintro⟨a0,⟨⟩⟩
 kernel_rfl
theorem AfS:AD (AR Tryz.f10) 0=[]:=by kernel_rfl
theorem AOM:AN Tryz.prog 10 (AF 0 1 XX XW XV PD):=AG UU Tryz.func10 (by kernel_rfl) (by kernel_rfl) rfl (fun v=>(AFX v).trans (ATm v)) (AA AfS trivial)
def AK6:Env:=Yi.ext 10 true true (AF 0 1 XX XW XV PD)
theorem APa:AW Tryz.prog AK6:=Env.Aa UU AOM (fun _=>AI rfl rfl) (fun _=>AH rfl rfl)
abbrev AMV:Hints:={  }
theorem ACZ:∀ v,HQ v=AL 0 Tryz.prog AK6 AMV Tryz.f4 LK LJ LI v:=by
 rintro⟨a0,a1,a2,⟨⟩⟩
 kernel_rfl
theorem AMU:AD (AR Tryz.f4) 0=[]:=by kernel_rfl
theorem AAI:AN Tryz.prog 4 (AF 0 3 LK LJ LI Fq):=AG APa Tryz.func4 (by kernel_rfl) (by kernel_rfl) rfl (fun v=>(Pp v).trans (ACZ v)) (AA AMU trivial)
end
end Go.Pev
end
section

end
