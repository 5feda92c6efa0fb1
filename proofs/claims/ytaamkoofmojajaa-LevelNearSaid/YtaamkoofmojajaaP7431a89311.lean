/- A part of the proofs of this seat: G21aP6 G21aP7 G21aP8 G21aP. -/
import Derived.Test.YtaamkoofmojajaaPe759eb9cb4
set_option linter.unusedVariables false
set_option linter.unusedSimpArgs false
set_option linter.unusedSectionVars false
set_option maxRecDepth 100000
section
namespace Go.Pev
open Go.Proofs
noncomputable section
abbrev AT3:Hints:={  }
theorem AQK:∀ v,AIQ v=AO Try.prog Vp AT3 Try.f14 AIP AIO AIN v:=by
 rintro⟨a0,⟨⟩⟩
 kernel_rfl
theorem AT2:AD (AU Try.f14) 0=[]:=by kernel_rfl
theorem AMr:AP Try.prog 14 (AG 1 AIP AIO AIN TU):=AI QL Try.func14 (by kernel_rfl) (by kernel_rfl) rfl (fun v=>(ASX v).trans (AQK v)) (AA AT2 trivial)
def AJ5:Env:=Vp.ext 14 true true (AG 1 AIP AIO AIN TU)
theorem YN:Ae Try.prog AJ5:=Env.Ai QL AMr (fun _=>AM rfl rfl) (fun _=>AH rfl rfl)
abbrev AIj:Hints:={ fp:=fun n=>match n with|1=>[[0],[0],[2],[2],[],[0],[0],[2],[2],[],[],[20],[]]|_=>[] }
theorem AAl:∀ v,GK v=AO Try.prog AJ5 AIj Try.f25 Kp Ko Km v:=by
 rintro⟨a0,a1,⟨⟩⟩
 kernel_rfl
theorem AIi:AD (AU Try.f25) 0=[]:=by kernel_rfl
theorem Wm:AP Try.prog 25 (AG 2 Kp Ko Km C1):=AI YN Try.func25 (by kernel_rfl) (by kernel_rfl) rfl (fun v=>(JC v).trans (AAl v)) (AA AIi trivial)
def IP:Env:=AJ5.ext 25 true true (AG 2 Kp Ko Km C1)
theorem HM:Ae Try.prog IP:=Env.Ai YN Wm (fun _=>AM rfl rfl) (fun _=>AH rfl rfl)
abbrev TS:Hints:={ loop:=fun n=>match n with|0=>Ad 0 33 Xh Xg CK|_=>fun _ _ _=>none }
theorem AAD:∀ v,CK v=roundOf Try.prog IP TS 1 0 33 (AB Try.f22 0) Xh Xg v:=by
 rintro⟨a0,a1,a2,a3,a4,⟨⟩⟩
 kernel_rfl
theorem AMp:AD (AB Try.f22 0) 1=[]:=by kernel_rfl
theorem AMq:Ac Try.prog 0 (.loop (AB Try.f22 0)) (TS.loop 0):=AW HM (AAD) (AA AMp trivial)
theorem AIM:∀ v,I6 v=AO Try.prog IP TS Try.f22 TR TQ TP v:=by
 rintro⟨a0,a1,⟨⟩⟩
 kernel_rfl
theorem AQI:AD (AU Try.f22) 0=[(0,AB Try.f22 0)]:=by kernel_rfl
theorem AEY:AP Try.prog 22 (AG 2 TR TQ TP Kl):=AI HM Try.func22 (by kernel_rfl) (by kernel_rfl) rfl (fun v=>(OC v).trans (AIM v)) (AA AQI ⟨AMq,trivial⟩)
def NA:Env:=IP.ext 22 true true (AG 2 TR TQ TP Kl)
theorem JZ:Ae Try.prog NA:=Env.Ai HM AEY (fun _=>AM rfl rfl) (fun _=>AH rfl rfl)
abbrev Tb:Hints:={ loop:=fun n=>match n with|0=>Ad 0 96 Xj Xi DC|_=>fun _ _ _=>none,fp:=fun n=>match n with|7=>[[2],[2],[],[],[2],[2],[2],[2],[],[],[],[2],[2],[0],[0],[],[],[],[2],[2],[],[],[],[2],[2],[],[],[],[],[],[],[],[0],[0],[],[],[],[],[2],[],[],[],[]]|_=>[] }
theorem AAI:∀ v,DC v=roundOf Try.prog NA Tb 1 0 96 (AB Try.f16 0) Xj Xi v:=by
 rintro⟨a0,a1,a2,a3,a4,a5,⟨⟩⟩
 kernel_rfl
theorem AMt:AD (AB Try.f16 0) 1=[]:=by kernel_rfl
theorem AMu:Ac Try.prog 0 (.loop (AB Try.f16 0)) (Tb.loop 0):=AW JZ (AAI) (AA AMt trivial)
theorem AIT:∀ v,GH v=AO Try.prog NA Tb Try.f16 Ta TZ TY v:=by
 rintro⟨a0,⟨⟩⟩
 kernel_rfl
theorem AQO:AD (AU Try.f16) 0=[(0,AB Try.f16 0)]:=by kernel_rfl
theorem AEa:AP Try.prog 16 (AG 1 Ta TZ TY FN):=AI JZ Try.func16 (by kernel_rfl) (by kernel_rfl) rfl (fun v=>(HT v).trans (AIT v)) (AA AQO ⟨AMu,trivial⟩)
def NB:Env:=NA.ext 16 true true (AG 1 Ta TZ TY FN)
theorem Ja:Ae Try.prog NB:=Env.Ai JZ AEa (fun _=>AM rfl rfl) (fun _=>AH rfl rfl)
abbrev To:Hints:={ loop:=fun n=>match n with|0=>Ad 0 26 Xm Xl OL|_=>fun _ _ _=>none }
theorem AAh:∀ v,OL v=roundOf Try.prog NB To 1 0 26 (AB Try.f13 0) Xm Xl v:=by
 rintro⟨a0,a1,a2,a3,⟨⟩⟩
 kernel_rfl
theorem AM9:AD (AB Try.f13 0) 1=[]:=by kernel_rfl
theorem ANA:Ac Try.prog 0 (.loop (AB Try.f13 0)) (To.loop 0):=AW Ja (AAh) (AA AM9 trivial)
theorem AId:∀ v,Tp v=AO Try.prog NB To Try.f13 Tn Tm Tl v:=by
 rintro⟨a0,⟨⟩⟩
 kernel_rfl
theorem AQV:AD (AU Try.f13) 0=[(0,AB Try.f13 0)]:=by kernel_rfl
theorem AEn:AP Try.prog 13 (AG 1 Tn Tm Tl AAi):=AI Ja Try.func13 (by kernel_rfl) (by kernel_rfl) rfl (fun v=>(ANB v).trans (AId v)) (AA AQV ⟨ANA,trivial⟩)
def Hj:Env:=NB.ext 13 true true (AG 1 Tn Tm Tl AAi)
theorem FI:Ae Try.prog Hj:=Env.Ai Ja AEn (fun _=>AM rfl rfl) (fun _=>AH rfl rfl)
abbrev C5:Hints:={ loop:=fun n=>match n with|0=>Ad 0 83 Ml Mi Cb|1=>Ad 0 83 Mk Mh DG|2=>Ad 0 83 Mj Mg Ca|_=>fun _ _ _=>none,fp:=fun n=>match n with|14=>[[],[],[0],[0],[],[],[0],[0],[],[]]|13=>[[],[],[],[],[],[],[],[],[],[],[],[],[],[],[],[],[],[],[],[0],[0],[],[],[0],[0],[],[]]|12=>[[],[],[],[],[],[],[],[],[],[],[],[]]|_=>[] }
theorem Qh:∀ v,Ca v=roundOf Try.prog Hj C5 3 0 83 (AB Try.f18 2) Mj Mg v:=by
 rintro⟨a0,a1,a2,a3,a4,⟨⟩⟩
 kernel_rfl
theorem ABT:AD (AB Try.f18 2) 3=[]:=by kernel_rfl
theorem ABW:Ac Try.prog 0 (.loop (AB Try.f18 2)) (C5.loop 2):=AW FI (Qh) (AA ABT trivial)
theorem Qi:∀ v,DG v=roundOf Try.prog Hj C5 2 0 83 (AB Try.f18 1) Mk Mh v:=by
 rintro⟨a0,a1,a2,a3,⟨⟩⟩
 kernel_rfl
theorem ABU:AD (AB Try.f18 1) 2=[(2,AB Try.f18 2)]:=by kernel_rfl
theorem ABX:Ac Try.prog 0 (.loop (AB Try.f18 1)) (C5.loop 1):=AW FI (Qi) (AA ABU ⟨ABW,trivial⟩)
theorem Qj:∀ v,Cb v=roundOf Try.prog Hj C5 1 0 83 (AB Try.f18 0) Ml Mi v:=by
 rintro⟨a0,a1,a2,a3,⟨⟩⟩
 kernel_rfl
theorem ABV:AD (AB Try.f18 0) 1=[]:=by kernel_rfl
theorem ABY:Ac Try.prog 0 (.loop (AB Try.f18 0)) (C5.loop 0):=AW FI (Qj) (AA ABV trivial)
theorem Wv:∀ v,G3 v=AO Try.prog Hj C5 Try.f18 JR JQ JP v:=by
 rintro⟨a0,a1,⟨⟩⟩
 kernel_rfl
theorem AFl:AD (AU Try.f18) 0=[(0,AB Try.f18 0),(1,AB Try.f18 1)]:=by kernel_rfl
theorem VJ:AP Try.prog 18 (AG 2 JR JQ JP Fs):=AI FI Try.func18 (by kernel_rfl) (by kernel_rfl) rfl (fun v=>(Mm v).trans (Wv v)) (AA AFl ⟨ABY,ABX,trivial⟩)
def HB:Env:=Hj.ext 18 true true (AG 2 JR JQ JP Fs)
theorem Gi:Ae Try.prog HB:=Env.Ai FI VJ (fun _=>AM rfl rfl) (fun _=>AH rfl rfl)
abbrev Yk:Hints:={ loop:=fun n=>match n with|0=>Ad 0 20 ACW ACV Rv|_=>fun _ _ _=>none }
theorem ACU:∀ v,Rv v=roundOf Try.prog HB Yk 1 0 20 (AB Try.f9 0) ACW ACV v:=by
 rintro⟨a0,a1,⟨⟩⟩
 kernel_rfl
theorem AOf:AD (AB Try.f9 0) 1=[]:=by kernel_rfl
theorem AOg:Ac Try.prog 0 (.loop (AB Try.f9 0)) (Yk.loop 0):=AW Gi (ACU) (AA AOf trivial)
theorem ALe:∀ v,Yl v=AO Try.prog HB Yk Try.f9 Yj Yi Yh v:=by
 rintro⟨a0,⟨⟩⟩
 kernel_rfl
theorem ARm:AD (AU Try.f9) 0=[(0,AB Try.f9 0)]:=by kernel_rfl
theorem AGQ:AP Try.prog 9 (AG 1 Yj Yi Yh Ih):=AI Gi Try.func9 (by kernel_rfl) (by kernel_rfl) rfl (fun v=>(AOh v).trans (ALe v)) (AA ARm ⟨AOg,trivial⟩)
def Mw:Env:=HB.ext 9 true true (AG 1 Yj Yi Yh Ih)
theorem IH:Ae Try.prog Mw:=Env.Ai Gi AGQ (fun _=>AM rfl rfl) (fun _=>AH rfl rfl)
abbrev HP:Hints:={ loop:=fun n=>match n with|0=>Ad 0 138 SK SH CS|1=>Ad 0 138 SJ SF Cx|_=>fun _ _ _=>none,fp:=fun n=>match n with|10=>[[],[],[],[0],[0],[],[],[],[],[],[4],[4],[],[],[0],[0],[],[],[],[],[],[4],[4],[],[],[0],[0],[],[],[],[],[],[4],[4],[],[],[],[]]|8=>[[4],[4],[],[],[4],[4],[4],[4],[],[],[],[4],[4],[0],[0],[],[],[],[4],[4],[],[],[],[4],[4],[0],[0],[],[],[]]|_=>[] }
theorem WA:∀ v,Cx v=roundOf Try.prog Mw HP 2 0 138 (AB Try.f7 1) SJ SF v:=by
 rintro⟨a0,a1,a2,a3,a4,a5,⟨⟩⟩
 kernel_rfl
theorem AGu:AD (AB Try.f7 1) 2=[]:=by kernel_rfl
theorem AGw:Ac Try.prog 0 (.loop (AB Try.f7 1)) (HP.loop 1):=AW IH (WA) (AA AGu trivial)
theorem WB:∀ v,CS v=roundOf Try.prog Mw HP 1 0 138 (AB Try.f7 0) SK SH v:=by
 rintro⟨a0,a1,a2,a3,⟨⟩⟩
 kernel_rfl
theorem AGv:AD (AB Try.f7 0) 1=[]:=by kernel_rfl
theorem AGx:Ac Try.prog 0 (.loop (AB Try.f7 0)) (HP.loop 0):=AW IH (WB) (AA AGv trivial)
theorem AC7:∀ v,Dm v=AO Try.prog Mw HP Try.f7 Nd Nc Nb v:=by
 rintro⟨a0,⟨⟩⟩
 kernel_rfl
theorem ALx:AD (AU Try.f7) 0=[(0,AB Try.f7 0),(1,AB Try.f7 1)]:=by kernel_rfl
theorem ZI:AP Try.prog 7 (AG 1 Nd Nc Nb Fa):=AI IH Try.func7 (by kernel_rfl) (by kernel_rfl) rfl (fun v=>(EO v).trans (AC7 v)) (AA ALx ⟨AGx,AGw,trivial⟩)
def O4:Env:=Mw.ext 7 true true (AG 1 Nd Nc Nb Fa)
theorem M0:Ae Try.prog O4:=Env.Ai IH ZI (fun _=>AM rfl rfl) (fun _=>AH rfl rfl)
abbrev AM1:Hints:={ fp:=fun n=>match n with|3=>[[0],[0],[0],[],[],[12],[],[],[3],[]]|_=>[] }
theorem AEh:∀ v,Jv v=AO Try.prog O4 AM1 Try.f12 OJ OI OH v:=by
 rintro⟨a0,a1,⟨⟩⟩
 kernel_rfl
theorem AM0:AD (AU Try.f12) 0=[]:=by kernel_rfl
theorem AAP:AP Try.prog 12 (AG 2 OJ OI OH Jw):=AI M0 Try.func12 (by kernel_rfl) (by kernel_rfl) rfl (fun v=>(Th v).trans (AEh v)) (AA AM0 trivial)
def PB:Env:=O4.ext 12 true true (AG 2 OJ OI OH Jw)
theorem ND:Ae Try.prog PB:=Env.Ai M0 AAP (fun _=>AM rfl rfl) (fun _=>AH rfl rfl)
abbrev ASg:Hints:={  }
theorem AM4:∀ v,RE v=AO Try.prog PB ASg Try.f41 AAd AAc AAb v:=by
 rintro⟨a0,a1,⟨⟩⟩
 kernel_rfl
theorem ASf:AD (AU Try.f41) 0=[]:=by kernel_rfl
theorem AIb:AP Try.prog 41 (AG 2 AAd AAc AAb DQ):=AI ND Try.func41 (by kernel_rfl) (by kernel_rfl) rfl (fun v=>(AEk v).trans (AM4 v)) (AA ASf trivial)
def NF:Env:=PB.ext 41 true true (AG 2 AAd AAc AAb DQ)
theorem IN:Ae Try.prog NF:=Env.Ai ND AIb (fun _=>AM rfl rfl) (fun _=>AH rfl rfl)
abbrev T5:Hints:={ loop:=fun n=>match n with|0=>Ad 1 49 AKu AKs J0|1=>Ad 1 49 AKt AKr Jz|_=>fun _ _ _=>none,fp:=fun n=>match n with|4=>[[],[],[],[],[],[],[0],[0],[],[],[],[0],[0],[],[]]|6=>[[],[],[],[],[],[],[],[],[0],[0],[],[],[0],[0],[0],[1],[0],[1]]|_=>[] }
theorem AIt:∀ v,Jz v=roundOf Try.prog NF T5 2 1 49 (AB Try.f35 1) AKt AKr v:=by
 rintro⟨a0,a1,a2,a3,a4,⟨⟩⟩
 kernel_rfl
theorem ASp:AD (AB Try.f35 1) 2=[]:=by kernel_rfl
theorem ASr:Ac Try.prog 1 (.loop (AB Try.f35 1)) (T5.loop 1):=AW IN (AIt) (AA ASp trivial)
theorem AIu:∀ v,J0 v=roundOf Try.prog NF T5 1 1 49 (AB Try.f35 0) AKu AKs v:=by
 rintro⟨a0,a1,a2,a3,⟨⟩⟩
 kernel_rfl
theorem ASq:AD (AB Try.f35 0) 1=[(1,AB Try.f35 1)]:=by kernel_rfl
theorem ASs:Ac Try.prog 1 (.loop (AB Try.f35 0)) (T5.loop 0):=AW IN (AIu) (AA ASq ⟨ASr,trivial⟩)
theorem AQd:∀ v,AAp v=AO Try.prog NF T5 Try.f35 AIx AIw AIv v:=by
 rintro⟨a0,a1,a2,⟨⟩⟩
 kernel_rfl
theorem AT6:AD (AU Try.f35) 0=[(0,AB Try.f35 0)]:=by kernel_rfl
theorem ANH:AP Try.prog 35 (AG 3 AIx AIw AIv ANI):=AI IN Try.func35 (by kernel_rfl) (by kernel_rfl) rfl (fun v=>(AKv v).trans (AQd v)) (AA AT6 ⟨ASs,trivial⟩)
def AB5:Env:=NF.ext 35 false true (AG 3 AIx AIw AIv ANI)
theorem PE:Ae Try.prog AB5:=Env.Ai IN ANH ((by simp)) (fun _=>AH rfl rfl)
abbrev ZA:Hints:={ loop:=fun n=>match n with|0=>Ad 1 76 ACq ACp HN|_=>fun _ _ _=>none,fp:=fun n=>match n with|6=>[[],[],[],[],[],[],[],[],[],[],[],[],[0],[0],[],[],[],[],[0],[0],[0],[1],[0],[1]]|5=>[[],[],[],[],[0],[0],[],[],[],[],[0],[0],[],[]]|3=>[[],[],[],[],[],[],[],[],[],[0],[0],[],[],[],[],[],[0],[0],[],[]]|_=>[] }
theorem ACo:∀ v,HN v=roundOf Try.prog AB5 ZA 1 1 76 (AB Try.f48 0) ACq ACp v:=by
 rintro⟨a0,a1,a2,a3,⟨⟩⟩
 kernel_rfl
theorem AO4:AD (AB Try.f48 0) 1=[]:=by kernel_rfl
theorem AO5:Ac Try.prog 1 (.loop (AB Try.f48 0)) (ZA.loop 0):=AW PE (ACo) (AA AO4 trivial)
theorem ALs:∀ v,Q0 v=AO Try.prog AB5 ZA Try.f48 Y9 Y8 Y7 v:=by
 rintro⟨a0,a1,a2,a3,⟨⟩⟩
 kernel_rfl
theorem ARw:AD (AU Try.f48) 0=[(0,AB Try.f48 0)]:=by kernel_rfl
theorem AGj:AP Try.prog 48 (AG 4 Y9 Y8 Y7 XJ):=AI PE Try.func48 (by kernel_rfl) (by kernel_rfl) rfl (fun v=>(ACr v).trans (ALs v)) (AA ARw ⟨AO5,trivial⟩)
def Mz:Env:=AB5.ext 48 false true (AG 4 Y9 Y8 Y7 XJ)
theorem IL:Ae Try.prog Mz:=Env.Ai PE AGj ((by simp)) (fun _=>AH rfl rfl)
end
end Go.Pev
end
section
namespace Go.Pev
open Go.Proofs
noncomputable section
abbrev MP:Hints:={ loop:=fun n=>match n with|0=>Ad 1 56 AFB AE9 HY|1=>Ad 1 56 AFA AE8 HX|_=>fun _ _ _=>none,fp:=fun n=>match n with|10=>[[],[],[],[],[],[],[],[],[],[],[0],[0],[],[],[0],[0],[0],[1],[0],[1]]|_=>[] }
theorem AE6:∀ v,HX v=roundOf Try.prog Mz MP 2 1 56 (AB Try.f36 1) AFA AE8 v:=by
 rintro⟨a0,a1,a2,a3,⟨⟩⟩
 kernel_rfl
theorem AQo:AD (AB Try.f36 1) 2=[]:=by kernel_rfl
theorem AQq:Ac Try.prog 1 (.loop (AB Try.f36 1)) (MP.loop 1):=AW IL (AE6) (AA AQo trivial)
theorem AE7:∀ v,HY v=roundOf Try.prog Mz MP 1 1 56 (AB Try.f36 0) AFB AE9 v:=by
 rintro⟨a0,a1,a2,a3,a4,⟨⟩⟩
 kernel_rfl
theorem AQp:AD (AB Try.f36 0) 1=[]:=by kernel_rfl
theorem AQr:Ac Try.prog 1 (.loop (AB Try.f36 0)) (MP.loop 0):=AW IL (AE7) (AA AQp trivial)
theorem ANS:∀ v,RI v=AO Try.prog Mz MP Try.f36 AA0 AAz AAy v:=by
 rintro⟨a0,a1,a2,⟨⟩⟩
 kernel_rfl
theorem AS1:AD (AU Try.f36) 0=[(0,AB Try.f36 0),(1,AB Try.f36 1)]:=by kernel_rfl
theorem AI1:AP Try.prog 36 (AG 3 AA0 AAz AAy Xv):=AI IL Try.func36 (by kernel_rfl) (by kernel_rfl) rfl (fun v=>(AFC v).trans (ANS v)) (AA AS1 ⟨AQr,AQq,trivial⟩)
def RW:Env:=Mz.ext 36 false true (AG 3 AA0 AAz AAy Xv)
theorem LL:Ae Try.prog RW:=Env.Ai IL AI1 ((by simp)) (fun _=>AH rfl rfl)
abbrev VW:Hints:={ loop:=fun n=>match n with|0=>Ad 1 65 X9 X8 Em|_=>fun _ _ _=>none,fp:=fun n=>match n with|10=>[[],[],[],[],[],[],[],[],[],[],[0],[0],[],[],[0],[0],[0],[1],[0],[1]]|_=>[] }
theorem ABh:∀ v,Em v=roundOf Try.prog RW VW 1 1 65 (AB Try.f37 0) X9 X8 v:=by
 rintro⟨a0,a1,a2,a3,a4,a5,⟨⟩⟩
 kernel_rfl
theorem AN9:AD (AB Try.f37 0) 1=[]:=by kernel_rfl
theorem AOA:Ac Try.prog 1 (.loop (AB Try.f37 0)) (VW.loop 0):=AW LL (ABh) (AA AN9 trivial)
theorem AJm:∀ v,Mn v=AO Try.prog RW VW Try.f37 VV VU VT v:=by
 rintro⟨a0,a1,a2,⟨⟩⟩
 kernel_rfl
theorem ARS:AD (AU Try.f37) 0=[(0,AB Try.f37 0)]:=by kernel_rfl
theorem AFx:AP Try.prog 37 (AG 3 VV VU VT Oq):=AI LL Try.func37 (by kernel_rfl) (by kernel_rfl) rfl (fun v=>(YA v).trans (AJm v)) (AA ARS ⟨AOA,trivial⟩)
def Vy:Env:=RW.ext 37 false true (AG 3 VV VU VT Oq)
theorem QS:Ae Try.prog Vy:=Env.Ai LL AFx ((by simp)) (fun _=>AH rfl rfl)
abbrev AMT:Hints:={ fp:=fun n=>match n with|1=>[[],[],[0],[0],[],[],[0],[0],[]]|_=>[] }
theorem AEP:∀ v,Jk v=AO Try.prog Vy AMT Try.f61 Nu Nt Ns v:=by
 rintro⟨a0,a1,a2,a3,⟨⟩⟩
 kernel_rfl
theorem AMS:AD (AU Try.f61) 0=[]:=by kernel_rfl
theorem Zx:AP Try.prog 61 (AG 4 Nu Nt Ns Hv):=AI QS Try.func61 (by kernel_rfl) (by kernel_rfl) rfl (fun v=>(TG v).trans (AEP v)) (AA AMS trivial)
def O6:Env:=Vy.ext 61 false true (AG 4 Nu Nt Ns Hv)
theorem M5:Ae Try.prog O6:=Env.Ai QS Zx ((by simp)) (fun _=>AH rfl rfl)
abbrev AMj:Hints:={  }
theorem AEV:∀ v,Jp v=AO Try.prog O6 AMj Try.f52 N5 N4 N3 v:=by
 rintro⟨a0,a1,a2,a3,a4,⟨⟩⟩
 kernel_rfl
theorem AMi:AD (AU Try.f52) 0=[]:=by kernel_rfl
theorem Z8:AP Try.prog 52 (AG 5 N5 N4 N3 H3):=AI M5 Try.func52 (by kernel_rfl) (by kernel_rfl) rfl (fun v=>(TN v).trans (AEV v)) (AA AMi trivial)
def O8:Env:=O6.ext 52 false true (AG 5 N5 N4 N3 H3)
theorem M7:Ae Try.prog O8:=Env.Ai M5 Z8 ((by simp)) (fun _=>AH rfl rfl)
abbrev AMn:Hints:={  }
theorem AEX:∀ v,Js v=AO Try.prog O8 AMn Try.f51 OB OA N9 v:=by
 rintro⟨a0,a1,a2,⟨⟩⟩
 kernel_rfl
theorem AMm:AD (AU Try.f51) 0=[]:=by kernel_rfl
theorem AAB:AP Try.prog 51 (AG 3 OB OA N9 H4):=AI M7 Try.func51 (by kernel_rfl) (by kernel_rfl) rfl (fun v=>(TO v).trans (AEX v)) (AA AMm trivial)
def PA:Env:=O8.ext 51 false true (AG 3 OB OA N9 H4)
theorem M9:Ae Try.prog PA:=Env.Ai M7 AAB ((by simp)) (fun _=>AH rfl rfl)
abbrev APW:Hints:={  }
theorem AHQ:∀ v,Le v=AO Try.prog PA APW Try.f38 Sf Se Sd v:=by
 rintro⟨a0,a1,a2,⟨⟩⟩
 kernel_rfl
theorem APV:AD (AU Try.f38) 0=[]:=by kernel_rfl
theorem ADF:AP Try.prog 38 (AG 3 Sf Se Sd Nf):=AI M9 Try.func38 (by kernel_rfl) (by kernel_rfl) rfl (fun v=>(XW v).trans (AHQ v)) (AA APV trivial)
def M3:Env:=PA.ext 38 false true (AG 3 Sf Se Sd Nf)
theorem JY:Ae Try.prog M3:=Env.Ai M9 ADF ((by simp)) (fun _=>AH rfl rfl)
abbrev AG8:Hints:={ loop:=fun n=>match n with|0=>Ad 1 32 AKM AKL Lb|_=>fun _ _ _=>none,fp:=fun n=>match n with|3=>[[],[],[],[],[],[],[0],[0],[],[],[0],[0],[0],[1],[0],[1]]|_=>[] }
theorem AG4:∀ v,Lb v=roundOf Try.prog M3 AG8 1 1 32 (AB Try.f39 0) AKM AKL v:=by
 rintro⟨a0,a1,a2,⟨⟩⟩
 kernel_rfl
theorem AR5:AD (AB Try.f39 0) 1=[]:=by kernel_rfl
theorem AR6:Ac Try.prog 1 (.loop (AB Try.f39 0)) (AG8.loop 0):=AW JY (AG4) (AA AR5 trivial)
theorem APG:∀ v,ZM v=AO Try.prog M3 AG8 Try.f39 AG7 AG6 AG5 v:=by
 rintro⟨a0,a1,a2,⟨⟩⟩
 kernel_rfl
theorem ATp:AD (AU Try.f39) 0=[(0,AB Try.f39 0)]:=by kernel_rfl
theorem AL2:AP Try.prog 39 (AG 3 AG7 AG6 AG5 AL4):=AI JY Try.func39 (by kernel_rfl) (by kernel_rfl) rfl (fun v=>(AKN v).trans (APG v)) (AA ATp ⟨AR6,trivial⟩)
def LH:Env:=M3.ext 39 false true (AG 3 AG7 AG6 AG5 AL4)
theorem Fw:Ae Try.prog LH:=Env.Ai JY AL2 ((by simp)) (fun _=>AH rfl rfl)
abbrev CU:Hints:={ loop:=fun n=>match n with|0=>Ad 1 133 Po Pj B1|1=>Ad 1 133 Pn Ph E6|2=>Ad 1 133 Pm Pg Dq|3=>Ad 1 133 Pk Pf Dp|_=>fun _ _ _=>none,fp:=fun n=>match n with|11=>[[],[],[],[],[],[],[],[],[0],[0],[],[],[0],[0],[0],[1],[0],[1]]|5=>[[],[],[],[],[],[],[0],[0],[],[],[],[0],[0],[],[],[]]|17=>[[],[],[],[],[],[],[],[],[0],[0],[],[],[0],[0],[0],[1],[0],[1]]|16=>[[],[],[0],[0],[],[],[],[0],[0],[],[]]|23=>[[],[],[],[],[],[],[],[],[0],[0],[],[],[0],[0],[0],[1],[0],[1]]|22=>[[],[],[0],[0],[],[],[],[0],[0],[],[]]|_=>[] }
theorem Su:∀ v,Dp v=roundOf Try.prog LH CU 4 1 133 (AB Try.f40 3) Pk Pf v:=by
 rintro⟨a0,a1,a2,a3,a4,a5,⟨⟩⟩
 kernel_rfl
theorem ADm:AD (AB Try.f40 3) 4=[]:=by kernel_rfl
theorem ADq:Ac Try.prog 1 (.loop (AB Try.f40 3)) (CU.loop 3):=AW Fw (Su) (AA ADm trivial)
theorem Sv:∀ v,Dq v=roundOf Try.prog LH CU 3 1 133 (AB Try.f40 2) Pm Pg v:=by
 rintro⟨a0,a1,a2,a3,a4,a5,⟨⟩⟩
 kernel_rfl
theorem ADn:AD (AB Try.f40 2) 3=[]:=by kernel_rfl
theorem ADr:Ac Try.prog 1 (.loop (AB Try.f40 2)) (CU.loop 2):=AW Fw (Sv) (AA ADn trivial)
theorem Sw:∀ v,E6 v=roundOf Try.prog LH CU 2 1 133 (AB Try.f40 1) Pn Ph v:=by
 rintro⟨a0,a1,a2,a3,a4,⟨⟩⟩
 kernel_rfl
theorem ADo:AD (AB Try.f40 1) 2=[]:=by kernel_rfl
theorem ADs:Ac Try.prog 1 (.loop (AB Try.f40 1)) (CU.loop 1):=AW Fw (Sw) (AA ADo trivial)
theorem Sx:∀ v,B1 v=roundOf Try.prog LH CU 1 1 133 (AB Try.f40 0) Po Pj v:=by
 rintro⟨a0,a1,a2,a3,a4,⟨⟩⟩
 kernel_rfl
theorem ADp:AD (AB Try.f40 0) 1=[(1,AB Try.f40 1),(2,AB Try.f40 2),(3,AB Try.f40 3)]:=by kernel_rfl
theorem ADt:Ac Try.prog 1 (.loop (AB Try.f40 0)) (CU.loop 0):=AW Fw (Sx) (AA ADp ⟨ADs,ADr,ADq,trivial⟩)
theorem Zl:∀ v,Hq v=AO Try.prog LH CU Try.f40 Kg Kf Ke v:=by
 rintro⟨a0,a1,a2,⟨⟩⟩
 kernel_rfl
theorem AHb:AD (AU Try.f40) 0=[(0,AB Try.f40 0)]:=by kernel_rfl
theorem WJ:AP Try.prog 40 (AG 3 Kg Kf Ke HR):=AI Fw Try.func40 (by kernel_rfl) (by kernel_rfl) rfl (fun v=>(Pp v).trans (Zl v)) (AA AHb ⟨ADt,trivial⟩)
def Es:Env:=LH.ext 40 false true (AG 3 Kg Kf Ke HR)
theorem DW:Ae Try.prog Es:=Env.Ai Fw WJ ((by simp)) (fun _=>AH rfl rfl)
abbrev ES:Hints:={ loop:=fun n=>match n with|0=>Ad 1 84 TD TA GG|1=>Ad 1 84 TC S9 GF|2=>Ad 1 84 TB S8 GD|_=>fun _ _ _=>none,fp:=fun n=>match n with|8=>[[],[],[],[],[],[],[0],[0],[],[],[0],[0],[0],[1],[0],[1]]|3=>[[],[],[],[],[],[],[0],[0],[],[],[0],[0],[],[],[]]|5=>[[],[],[],[],[],[],[0],[0],[],[],[0],[0],[],[]]|1=>[[],[],[],[],[],[],[0],[0],[],[],[0],[0],[0],[1],[0],[1]]|_=>[] }
theorem WU:∀ v,GD v=roundOf Try.prog Es ES 3 1 84 (AB Try.f42 2) TB S8 v:=by
 rintro⟨a0,a1,a2,a3,⟨⟩⟩
 kernel_rfl
theorem AHm:AD (AB Try.f42 2) 3=[]:=by kernel_rfl
theorem AHp:Ac Try.prog 1 (.loop (AB Try.f42 2)) (ES.loop 2):=AW DW (WU) (AA AHm trivial)
theorem WW:∀ v,GF v=roundOf Try.prog Es ES 2 1 84 (AB Try.f42 1) TC S9 v:=by
 rintro⟨a0,a1,a2,a3,⟨⟩⟩
 kernel_rfl
theorem AHn:AD (AB Try.f42 1) 2=[]:=by kernel_rfl
theorem AHq:Ac Try.prog 1 (.loop (AB Try.f42 1)) (ES.loop 1):=AW DW (WW) (AA AHn trivial)
theorem WY:∀ v,GG v=roundOf Try.prog Es ES 1 1 84 (AB Try.f42 0) TD TA v:=by
 rintro⟨a0,a1,a2,a3,⟨⟩⟩
 kernel_rfl
theorem AHo:AD (AB Try.f42 0) 1=[(1,AB Try.f42 1),(2,AB Try.f42 2)]:=by kernel_rfl
theorem AHr:Ac Try.prog 1 (.loop (AB Try.f42 0)) (ES.loop 0):=AW DW (WY) (AA AHo ⟨AHq,AHp,trivial⟩)
theorem AEL:∀ v,Jh v=AO Try.prog Es ES Try.f42 No Nn Nm v:=by
 rintro⟨a0,a1,a2,a3,⟨⟩⟩
 kernel_rfl
theorem AMN:AD (AU Try.f42) 0=[(0,AB Try.f42 0)]:=by kernel_rfl
theorem Zs:AP Try.prog 42 (AG 4 No Nn Nm Ji):=AI DW Try.func42 (by kernel_rfl) (by kernel_rfl) rfl (fun v=>(TE v).trans (AEL v)) (AA AMN ⟨AHr,trivial⟩)
def Du:Env:=Es.ext 42 false true (AG 4 No Nn Nm Ji)
theorem Cd:Ae Try.prog Du:=Env.Ai DW Zs ((by simp)) (fun _=>AH rfl rfl)
abbrev D2:Hints:={ loop:=fun n=>match n with|0=>Ad 1 168 AED AD8 Iy|1=>Ad 1 168 AEC AD7 Ix|2=>Ad 1 168 AEB AD6 Iw|3=>Ad 1 168 AEA AD5 Iv|4=>Ad 1 168 AD9 AD4 Iu|_=>fun _ _ _=>none,fp:=fun n=>match n with|3=>[[],[],[],[],[],[],[0],[0],[],[],[0],[0],[],[]]|5=>[[],[],[],[],[],[],[0],[0],[],[],[0],[0],[],[],[]]|18=>[[],[],[],[],[],[],[0],[0],[],[],[0],[0],[0],[1],[0],[1]]|13=>[[],[],[],[],[],[],[0],[0],[],[],[0],[0],[],[]]|15=>[[],[],[],[],[],[],[0],[0],[],[],[0],[0],[],[],[]]|21=>[[],[],[],[],[],[],[0],[0],[],[],[0],[0],[0],[1],[0],[1]]|10=>[[],[],[],[],[],[],[0],[0],[],[],[0],[0],[0],[1],[0],[1]]|8=>[[],[],[],[],[],[],[0],[0],[],[],[0],[0],[0],[1],[0],[1]]|1=>[[],[],[],[],[],[],[0],[0],[],[],[0],[0],[0],[1],[0],[1]]|_=>[] }
theorem ADv:∀ v,Iu v=roundOf Try.prog Du D2 5 1 168 (AB Try.f43 4) AD9 AD4 v:=by
 rintro⟨a0,a1,a2,a3,⟨⟩⟩
 kernel_rfl
theorem APo:AD (AB Try.f43 4) 5=[]:=by kernel_rfl
theorem APt:Ac Try.prog 1 (.loop (AB Try.f43 4)) (D2.loop 4):=AW Cd (ADv) (AA APo trivial)
theorem ADx:∀ v,Iv v=roundOf Try.prog Du D2 4 1 168 (AB Try.f43 3) AEA AD5 v:=by
 rintro⟨a0,a1,a2,a3,⟨⟩⟩
 kernel_rfl
theorem APp:AD (AB Try.f43 3) 4=[]:=by kernel_rfl
theorem APu:Ac Try.prog 1 (.loop (AB Try.f43 3)) (D2.loop 3):=AW Cd (ADx) (AA APp trivial)
theorem ADz:∀ v,Iw v=roundOf Try.prog Du D2 3 1 168 (AB Try.f43 2) AEB AD6 v:=by
 rintro⟨a0,a1,a2,a3,⟨⟩⟩
 kernel_rfl
theorem APq:AD (AB Try.f43 2) 3=[(3,AB Try.f43 3),(4,AB Try.f43 4)]:=by kernel_rfl
theorem APv:Ac Try.prog 1 (.loop (AB Try.f43 2)) (D2.loop 2):=AW Cd (ADz) (AA APq ⟨APu,APt,trivial⟩)
theorem AD0:∀ v,Ix v=roundOf Try.prog Du D2 2 1 168 (AB Try.f43 1) AEC AD7 v:=by
 rintro⟨a0,a1,a2,a3,⟨⟩⟩
 kernel_rfl
theorem APr:AD (AB Try.f43 1) 2=[]:=by kernel_rfl
theorem APw:Ac Try.prog 1 (.loop (AB Try.f43 1)) (D2.loop 1):=AW Cd (AD0) (AA APr trivial)
theorem AD2:∀ v,Iy v=roundOf Try.prog Du D2 1 1 168 (AB Try.f43 0) AED AD8 v:=by
 rintro⟨a0,a1,a2,a3,⟨⟩⟩
 kernel_rfl
theorem APs:AD (AB Try.f43 0) 1=[]:=by kernel_rfl
theorem APx:Ac Try.prog 1 (.loop (AB Try.f43 0)) (D2.loop 0):=AW Cd (AD2) (AA APs trivial)
theorem AMK:∀ v,Q5 v=AO Try.prog Du D2 Try.f43 Zp Zo Zn v:=by
 rintro⟨a0,a1,a2,a3,⟨⟩⟩
 kernel_rfl
theorem ASK:AD (AU Try.f43) 0=[(0,AB Try.f43 0),(1,AB Try.f43 1),(2,AB Try.f43 2)]:=by kernel_rfl
theorem AHc:AP Try.prog 43 (AG 4 Zp Zo Zn Ll):=AI Cd Try.func43 (by kernel_rfl) (by kernel_rfl) rfl (fun v=>(AEE v).trans (AMK v)) (AA ASK ⟨APx,APw,APv,trivial⟩)
def AB2:Env:=Du.ext 43 false true (AG 4 Zp Zo Zn Ll)
theorem Vo:Ae Try.prog AB2:=Env.Ai Cd AHc ((by simp)) (fun _=>AH rfl rfl)
abbrev AHX(self:(List Int×Int×Int×Int×Unit)→Option ((List Int×Unit))):Hints:={ loop:=fun n=>match n with|0=>Ad 1 134 AKT AKS (Jg self)|_=>fun _ _ _=>none,fp:=fun n=>match n with|17=>[[],[],[],[],[],[],[0],[0],[],[],[0],[0],[],[],[]]|_=>[] }
abbrev Zb(self:(List Int×Int×Int×Int×Unit)→Option ((List Int×Unit))):Env:=AB2.ext 27 false true (AG 4 Sm Sl Sk self)
theorem AHW(self:(List Int×Int×Int×Int×Unit)→Option ((List Int×Unit))):∀ v,Jg self v=roundOf Try.prog (Zb self) (AHX self) 1 1 134 (AB Try.f27 0) AKT AKS v:=by
 rintro⟨a0,a1,a2,a3,a4,a5,⟨⟩⟩
 kernel_rfl
theorem ASF:AD (AB Try.f27 0) 1=[]:=by kernel_rfl
theorem ASG(self:(List Int×Int×Int×Int×Unit)→Option ((List Int×Unit)))(hE:Ae Try.prog (Zb self)):Ac Try.prog 1 (.loop (AB Try.f27 0)) ((AHX self).loop 0):=AW hE (AHW self) (AA ASF trivial)
theorem APZ(self:(List Int×Int×Int×Int×Unit)→Option ((List Int×Unit))):∀ v,Za self v=AO Try.prog (Zb self) (AHX self) Try.f27 Sm Sl Sk v:=by
 rintro⟨a0,a1,a2,a3,⟨⟩⟩
 kernel_rfl
theorem ATt:AD (AU Try.f27) 0=[(0,AB Try.f27 0)]:=by kernel_rfl
theorem AHY:∀ n,AP Try.prog 27 (AG 4 Sm Sl Sk (GC n)):=by
 intro n
 induction n with
 |zero=>exact Ps fun _=>rfl
 |succ n ih=>
  have hE:Ae Try.prog (Zb (GC n)):=Env.Ai Vo ih ((by simp)) (fun _=>AH rfl rfl)
  let self:=GC n
  exact AI hE Try.func27 (by kernel_rfl) (by kernel_rfl) rfl (APZ self) (AA ATt ⟨(ASG self hE),trivial⟩)
theorem AMG:AP Try.prog 27 (AG 4 Sm Sl Sk AMH):=by
 have e:AMH=GC 100:=funext AKU
 rw[e]
 exact AHY _
def AJ1:Env:=AB2.ext 27 false true (AG 4 Sm Sl Sk AMH)
theorem YJ:Ae Try.prog AJ1:=Env.Ai Vo AMG ((by simp)) (fun _=>AH rfl rfl)
abbrev ARu:Hints:={  }
theorem ALp:∀ v,Qy v=AO Try.prog AJ1 ARu Try.f19 Y1 Y0 Yz v:=by
 rintro⟨a0,⟨⟩⟩
 kernel_rfl
theorem ARt:AD (AU Try.f19) 0=[]:=by kernel_rfl
theorem AGh:AP Try.prog 19 (AG 1 Y1 Y0 Yz ACh):=AI YJ Try.func19 (by kernel_rfl) (by kernel_rfl) rfl (fun v=>(ACg v).trans (ALp v)) (AA ARt trivial)
def RR:Env:=AJ1.ext 19 false true (AG 1 Y1 Y0 Yz ACh)
theorem LF:Ae Try.prog RR:=Env.Ai YJ AGh ((by simp)) (fun _=>AH rfl rfl)
end
end Go.Pev
end
section
namespace Go.Pev
open Go.Proofs
noncomputable section
abbrev UQ:Hints:={ loop:=fun n=>match n with|0=>Ad 0 26 X0 Xz Oc|_=>fun _ _ _=>none,fp:=fun n=>match n with|6=>[[],[],[],[],[],[],[],[],[]]|_=>[] }
theorem ABF:∀ v,Oc v=roundOf Try.prog RR UQ 1 0 26 (AB Try.f26 0) X0 Xz v:=by
 rintro⟨a0,a1,a2,a3,⟨⟩⟩
 kernel_rfl
theorem ANl:AD (AB Try.f26 0) 1=[]:=by kernel_rfl
theorem ANm:Ac Try.prog 0 (.loop (AB Try.f26 0)) (UQ.loop 0):=AW LF (ABF) (AA ANl trivial)
theorem AJE:∀ v,UR v=AO Try.prog RR UQ Try.f26 UP UO UN v:=by
 rintro⟨a0,a1,⟨⟩⟩
 kernel_rfl
theorem ARA:AD (AU Try.f26) 0=[(0,AB Try.f26 0)]:=by kernel_rfl
theorem AFU:AP Try.prog 26 (AG 2 UP UO UN ABG):=AI LF Try.func26 (by kernel_rfl) (by kernel_rfl) rfl (fun v=>(ANn v).trans (AJE v)) (AA ARA ⟨ANm,trivial⟩)
def Vw:Env:=RR.ext 26 true true (AG 2 UP UO UN ABG)
theorem QQ:Ae Try.prog Vw:=Env.Ai LF AFU (fun _=>AM rfl rfl) (fun _=>AH rfl rfl)
abbrev ASZ:Hints:={  }
theorem AMs:∀ v,AAH v=AO Try.prog Vw ASZ Try.f17 AAG AAF AAE v:=by
 rintro⟨a0,a1,⟨⟩⟩
 kernel_rfl
theorem ASY:AD (AU Try.f17) 0=[]:=by kernel_rfl
theorem AIS:AP Try.prog 17 (AG 2 AAG AAF AAE AKj):=AI QQ Try.func17 (by kernel_rfl) (by kernel_rfl) rfl (fun v=>(AQN v).trans (AMs v)) (AA ASY trivial)
def RT:Env:=Vw.ext 17 true true (AG 2 AAG AAF AAE AKj)
theorem LI:Ae Try.prog RT:=Env.Ai QQ AIS (fun _=>AM rfl rfl) (fun _=>AH rfl rfl)
abbrev AJs:Hints:={ loop:=fun n=>match n with|0=>Ad 0 49 ALG ALF IC|_=>fun _ _ _=>none,fp:=fun n=>match n with|5=>[[],[],[],[],[],[0],[],[]]|8=>[[],[],[],[],[],[],[],[],[],[],[0],[],[],[],[],[]]|_=>[] }
theorem AJo:∀ v,IC v=roundOf Try.prog RT AJs 1 0 49 (AB Try.f28 0) ALG ALF v:=by
 rintro⟨a0,a1,a2,a3,a4,a5,a6,a7,⟨⟩⟩
 kernel_rfl
theorem ATK:AD (AB Try.f28 0) 1=[]:=by kernel_rfl
theorem ATL:Ac Try.prog 0 (.loop (AB Try.f28 0)) (AJs.loop 0):=AW LI (AJo) (AA ATK trivial)
theorem ARV:∀ v,ABk v=AO Try.prog RT AJs Try.f28 AJr AJq AJp v:=by
 rintro⟨a0,a1,⟨⟩⟩
 kernel_rfl
theorem AUL:AD (AU Try.f28) 0=[(0,AB Try.f28 0)]:=by kernel_rfl
theorem AOE:AP Try.prog 28 (AG 3 AJr AJq AJp AOF):=AI LI Try.func28 (by kernel_rfl) (by kernel_rfl) rfl (fun v=>(ALH v).trans (ARV v)) (AA AUL ⟨ATL,trivial⟩)
def AJ6:Env:=RT.FP 28 2 25 (AG 3 AJr AJq AJp AOF)
theorem YO:Ae Try.prog AJ6:=Env.Bd LI AOE (AH rfl rfl)
abbrev AQQ:Hints:={  }
theorem AIU:∀ v,Lw v=AO Try.prog AJ6 AQQ Try.f20 Te Td Tc v:=by
 rintro⟨a0,a1,a2,⟨⟩⟩
 kernel_rfl
theorem AQP:AD (AU Try.f20) 0=[]:=by kernel_rfl
theorem AEc:AP Try.prog 20 (AG 3 Te Td Tc AAJ):=AI YO Try.func20 (by kernel_rfl) (by kernel_rfl) rfl (fun v=>(Xk v).trans (AIU v)) (AA AQP trivial)
def Vq:Env:=AJ6.ext 20 true true (AG 3 Te Td Tc AAJ)
theorem QM:Ae Try.prog Vq:=Env.Ai YO AEc (fun _=>AM rfl rfl) (fun _=>AH rfl rfl)
abbrev ASe:Hints:={  }
theorem AM3:∀ v,RD v=AO Try.prog Vq ASe Try.f11 AAS AAR AAQ v:=by
 rintro⟨a0,a1,a2,⟨⟩⟩
 kernel_rfl
theorem ASd:AD (AU Try.f11) 0=[]:=by kernel_rfl
theorem AIa:AP Try.prog 11 (AG 3 AAS AAR AAQ Ti):=AI QM Try.func11 (by kernel_rfl) (by kernel_rfl) rfl (fun v=>(AEi v).trans (AM3 v)) (AA ASd trivial)
def RU:Env:=Vq.ext 11 true true (AG 3 AAS AAR AAQ Ti)
theorem LJ:Ae Try.prog RU:=Env.Ai QM AIa (fun _=>AM rfl rfl) (fun _=>AH rfl rfl)
abbrev AAO:Hints:={ loop:=fun n=>match n with|0=>Ad 0 66 AEf AEe FD|_=>fun _ _ _=>none }
theorem AEd:∀ v,FD v=roundOf Try.prog RU AAO 1 0 66 (AB Try.f10 0) AEf AEe v:=by
 rintro⟨a0,a1,a2,a3,a4,a5,a6,⟨⟩⟩
 kernel_rfl
theorem AQT:AD (AB Try.f10 0) 1=[]:=by kernel_rfl
theorem AQU:Ac Try.prog 0 (.loop (AB Try.f10 0)) (AAO.loop 0):=AW LJ (AEd) (AA AQT trivial)
theorem AMy:∀ v,RC v=AO Try.prog RU AAO Try.f10 AAN AAM AAL v:=by
 rintro⟨a0,a1,a2,a3,⟨⟩⟩
 kernel_rfl
theorem ASb:AD (AU Try.f10) 0=[(0,AB Try.f10 0)]:=by kernel_rfl
theorem AIW:AP Try.prog 10 (AG 4 AAN AAM AAL Pu):=AI LJ Try.func10 (by kernel_rfl) (by kernel_rfl) rfl (fun v=>(AEg v).trans (AMy v)) (AA ASb ⟨AQU,trivial⟩)
def NC:Env:=RU.ext 10 true true (AG 4 AAN AAM AAL Pu)
theorem IM:Ae Try.prog NC:=Env.Ai LJ AIW (fun _=>AM rfl rfl) (fun _=>AH rfl rfl)
abbrev HU:Hints:={ loop:=fun n=>match n with|0=>Ad 0 56 Tt Tr C0|1=>Ad 0 56 Ts Tq CX|_=>fun _ _ _=>none,fp:=fun n=>match n with|10=>[[],[4],[4],[],[],[2],[],[3],[],[3]]|15=>[[],[],[],[],[4],[],[1,6],[],[],[],[],[4],[],[3,10],[],[]]|_=>[] }
theorem Wi:∀ v,CX v=roundOf Try.prog NC HU 2 0 56 (AB Try.f8 1) Ts Tq v:=by
 rintro⟨a0,a1,a2,a3,a4,⟨⟩⟩
 kernel_rfl
theorem AIe:AD (AB Try.f8 1) 2=[]:=by kernel_rfl
theorem AIg:Ac Try.prog 0 (.loop (AB Try.f8 1)) (HU.loop 1):=AW IM (Wi) (AA AIe trivial)
theorem Wj:∀ v,C0 v=roundOf Try.prog NC HU 1 0 56 (AB Try.f8 0) Tt Tr v:=by
 rintro⟨a0,a1,a2,a3,a4,a5,⟨⟩⟩
 kernel_rfl
theorem AIf:AD (AB Try.f8 0) 1=[]:=by kernel_rfl
theorem AIh:Ac Try.prog 0 (.loop (AB Try.f8 0)) (HU.loop 0):=AW IM (Wj) (AA AIf trivial)
theorem AEp:∀ v,Jx v=AO Try.prog NC HU Try.f8 OO ON OM v:=by
 rintro⟨a0,⟨⟩⟩
 kernel_rfl
theorem ANC:AD (AU Try.f8) 0=[(0,AB Try.f8 0),(1,AB Try.f8 1)]:=by kernel_rfl
theorem AAj:AP Try.prog 8 (AG 1 OO ON OM Jy):=AI IM Try.func8 (by kernel_rfl) (by kernel_rfl) rfl (fun v=>(Tu v).trans (AEp v)) (AA ANC ⟨AIh,AIg,trivial⟩)
def PC:Env:=NC.ext 8 true true (AG 1 OO ON OM Jy)
theorem NG:Ae Try.prog PC:=Env.Ai IM AAj (fun _=>AM rfl rfl) (fun _=>AH rfl rfl)
abbrev AOK:Hints:={  }
theorem AF5:∀ v,Oz v=AO Try.prog PC AOK Try.f5 Oy Ox Ow v:=by
 rintro⟨⟨⟩⟩
 kernel_rfl
theorem AOJ:AD (AU Try.f5) 0=[]:=by kernel_rfl
theorem ABq:AP Try.prog 5 (AG 0 Oy Ox Ow G5):=AI NG Try.func5 (by kernel_rfl) (by kernel_rfl) rfl (fun v=>(AJv v).trans (AF5 v)) (AA AOJ trivial)
def PJ:Env:=PC.ext 5 true true (AG 0 Oy Ox Ow G5)
theorem NL:Ae Try.prog PJ:=Env.Ai NG ABq (fun _=>AM rfl rfl) (fun _=>AH rfl rfl)
abbrev ANb:Hints:={  }
theorem AFK:∀ v,J1 v=AO Try.prog PJ ANb Try.f6 OY OX OW v:=by
 rintro⟨a0,⟨⟩⟩
 kernel_rfl
theorem ANa:AD (AU Try.f6) 0=[]:=by kernel_rfl
theorem AA7:AP Try.prog 6 (AG 1 OY OX OW J2):=AI NL Try.func6 (by kernel_rfl) (by kernel_rfl) rfl (fun v=>(UC v).trans (AFK v)) (AA ANa trivial)
def Fx:Env:=PJ.ext 6 true true (AG 1 OY OX OW J2)
theorem EE:Ae Try.prog Fx:=Env.Ai NL AA7 (fun _=>AM rfl rfl) (fun _=>AH rfl rfl)
abbrev B7:Hints:={ loop:=fun n=>match n with|0=>Ad 0 153 L7 L0 B6|1=>Ad 0 153 L6 Lz B5|2=>Ad 0 153 L5 Ly Bc|3=>Ad 0 153 L4 Lx B4|_=>fun _ _ _=>none,fp:=fun n=>match n with|29=>[[],[],[],[2],[2],[],[],[],[4],[4],[],[]]|24=>[[],[],[],[],[0],[0],[],[],[],[],[0],[0],[],[],[],[],[],[],[],[],[0],[0],[],[],[],[],[],[],[],[],[],[],[],[],[],[],[],[6],[6],[],[],[6],[6],[],[],[]]|23=>[[0],[],[],[],[6],[6],[],[]]|_=>[] }
theorem QY:∀ v,B4 v=roundOf Try.prog Fx B7 4 0 153 (AB Try.f3 3) L4 Lx v:=by
 rintro⟨a0,a1,a2,a3,a4,a5,a6,a7,a8,a9,a10,⟨⟩⟩
 kernel_rfl
theorem AAT:AD (AB Try.f3 3) 4=[]:=by kernel_rfl
theorem AAX:Ac Try.prog 0 (.loop (AB Try.f3 3)) (B7.loop 3):=AW EE (QY) (AA AAT trivial)
theorem QZ:∀ v,Bc v=roundOf Try.prog Fx B7 3 0 153 (AB Try.f3 2) L5 Ly v:=by
 rintro⟨a0,a1,a2,a3,a4,a5,a6,a7,a8,⟨⟩⟩
 kernel_rfl
theorem AAU:AD (AB Try.f3 2) 3=[(3,AB Try.f3 3)]:=by kernel_rfl
theorem AAY:Ac Try.prog 0 (.loop (AB Try.f3 2)) (B7.loop 2):=AW EE (QZ) (AA AAU ⟨AAX,trivial⟩)
theorem Qa:∀ v,B5 v=roundOf Try.prog Fx B7 2 0 153 (AB Try.f3 1) L6 Lz v:=by
 rintro⟨a0,a1,a2,a3,a4,a5,a6,a7,⟨⟩⟩
 kernel_rfl
theorem AAV:AD (AB Try.f3 1) 2=[(2,AB Try.f3 2)]:=by kernel_rfl
theorem AAZ:Ac Try.prog 0 (.loop (AB Try.f3 1)) (B7.loop 1):=AW EE (Qa) (AA AAV ⟨AAY,trivial⟩)
theorem Qb:∀ v,B6 v=roundOf Try.prog Fx B7 1 0 153 (AB Try.f3 0) L7 L0 v:=by
 rintro⟨a0,a1,a2,a3,a4,a5,a6,⟨⟩⟩
 kernel_rfl
theorem AAW:AD (AB Try.f3 0) 1=[(1,AB Try.f3 1)]:=by kernel_rfl
theorem AAa:Ac Try.prog 0 (.loop (AB Try.f3 0)) (B7.loop 0):=AW EE (Qb) (AA AAW ⟨AAZ,trivial⟩)
theorem Wh:∀ v,Gr v=AO Try.prog Fx B7 Try.f3 JB JA I9 v:=by
 rintro⟨a0,⟨⟩⟩
 kernel_rfl
theorem AEj:AD (AU Try.f3) 0=[(0,AB Try.f3 0)]:=by kernel_rfl
theorem Tk:AP Try.prog 3 (AG 1 JB JA I9 Fp):=AI EE Try.func3 (by kernel_rfl) (by kernel_rfl) rfl (fun v=>(L8 v).trans (Wh v)) (AA AEj ⟨AAa,trivial⟩)
end
end Go.Pev
end
section

end
