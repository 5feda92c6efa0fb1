/- A part of the proofs of this seat: G24gP7 G24gP8 G24gP9 G24gP10 G24gP11 G24gP. -/
import Derived.Test.YtaamkoofmojajaaGreatPa13892b887
set_option linter.unusedVariables false
set_option linter.unusedSimpArgs false
set_option linter.unusedSectionVars false
set_option maxRecDepth 100000
section
namespace Go.Pev
open Go.Proofs
noncomputable section
abbrev Rh:Hints:={ loop:=fun n=>match n with|0=>Ab 0 47 Xl Xk D8|_=>fun _ _ _=>none,fp:=fun n=>match n with|6=>[[],[0],[0],[],[],[],[],[0],[0],[],[],[],[],[],[],[3,4],[]]|_=>[] }
theorem AB8:∀ v,D8 v=roundOf Tryz.prog RQ Rh 1 0 47 (AB Tryz.f78 0) Xl Xk v:=by
 rintro⟨a0,a1,a2,a3,a4,⟨⟩⟩
 kernel_rfl
theorem AOF:AD (AB Tryz.f78 0) 1=[]:=by kernel_rfl
theorem AOG:Aa Tryz.prog 0 (.loop (AB Tryz.f78 0)) (Rh.loop 0):=AX Me (AB8) (AA AOF trivial)
theorem AJb:∀ v,Mg v=AR Tryz.prog RQ Rh Tryz.f78 Rg Rf Re v:=by
 rintro⟨a0,a1,⟨⟩⟩
 kernel_rfl
theorem AUR:AD (AW Tryz.f78) 0=[(0,AB Tryz.f78 0)]:=by kernel_rfl
theorem AFC:AU Tryz.prog 78 (AG 2 Rg Rf Re Mh):=AK Me Tryz.func78 (by kernel_rfl) (by kernel_rfl) rfl (fun v=>(Xm v).trans (AJb v)) (AA AUR ⟨AOG,trivial⟩)
def NX:Env:=RQ.ext 78 true true (AG 2 Rg Rf Re Mh)
theorem Ke:Ac Tryz.prog NX:=Env.Ad Me AFC (fun _=>AP rfl rfl) (fun _=>AL rfl rfl)
abbrev X8:Hints:={ loop:=fun n=>match n with|0=>Ab 0 38 ADZ ADY ES|_=>fun _ _ _=>none,fp:=fun n=>match n with|6=>[[0],[0],[],[],[],[2],[2],[],[],[],[]]|_=>[] }
theorem AFn:∀ v,ES v=roundOf Tryz.prog NX X8 1 0 38 (AB Tryz.f55 0) ADZ ADY v:=by
 rintro⟨a0,a1,a2,a3,a4,⟨⟩⟩
 kernel_rfl
theorem AUm:AD (AB Tryz.f55 0) 1=[]:=by kernel_rfl
theorem AUn:Aa Tryz.prog 0 (.loop (AB Tryz.f55 0)) (X8.loop 0):=AX Ke (AFn) (AA AUm trivial)
theorem AOj:∀ v,PU v=AR Tryz.prog NX X8 Tryz.f55 X7 X6 X5 v:=by
 rintro⟨a0,a1,⟨⟩⟩
 kernel_rfl
theorem AYX:AD (AW Tryz.f55) 0=[(0,AB Tryz.f55 0)]:=by kernel_rfl
theorem AKA:AU Tryz.prog 55 (AG 2 X7 X6 X5 OF):=AK Ke Tryz.func55 (by kernel_rfl) (by kernel_rfl) rfl (fun v=>(ADa v).trans (AOj v)) (AA AYX ⟨AUn,trivial⟩)
def Q5:Env:=NX.ext 55 true true (AG 2 X7 X6 X5 OF)
theorem MX:Ac Tryz.prog Q5:=Env.Ad Ke AKA (fun _=>AP rfl rfl) (fun _=>AL rfl rfl)
abbrev AHq:Hints:={ loop:=fun n=>match n with|0=>Ab 0 18 AMt AMs H4|_=>fun _ _ _=>none,fp:=fun n=>match n with|4=>[[],[],[],[],[0],[]]|_=>[] }
theorem AMr:∀ v,H4 v=roundOf Tryz.prog Q5 AHq 1 0 18 (AB Tryz.f70 0) AMt AMs v:=by
 rintro⟨a0,a1,a2,a3,⟨⟩⟩
 kernel_rfl
theorem Aal:AD (AB Tryz.f70 0) 1=[]:=by kernel_rfl
theorem Aam:Aa Tryz.prog 0 (.loop (AB Tryz.f70 0)) (AHq.loop 0):=AX MX (AMr) (AA Aal trivial)
theorem AWg:∀ v,XF v=AR Tryz.prog Q5 AHq Tryz.f70 AHp AHo AHn v:=by
 rintro⟨a0,a1,⟨⟩⟩
 kernel_rfl
theorem Ac7:AD (AW Tryz.f70) 0=[(0,AB Tryz.f70 0)]:=by kernel_rfl
theorem ARO:AU Tryz.prog 70 (AG 2 AHp AHo AHn AAR):=AK MX Tryz.func70 (by kernel_rfl) (by kernel_rfl) rfl (fun v=>(AMu v).trans (AWg v)) (AA Ac7 ⟨Aam,trivial⟩)
def RL:Env:=Q5.ext 70 true true (AG 2 AHp AHo AHn AAR)
theorem Ko:Ac Tryz.prog RL:=Env.Ad MX ARO (fun _=>AP rfl rfl) (fun _=>AL rfl rfl)
abbrev JN:Hints:={ loop:=fun n=>match n with|0=>Ab 0 39 Yj Yh ED|1=>Ab 0 39 Yi Yg DK|_=>fun _ _ _=>none }
theorem ACG:∀ v,DK v=roundOf Tryz.prog RL JN 2 0 39 (AB Tryz.f69 1) Yi Yg v:=by
 rintro⟨a0,a1,a2,a3,a4,⟨⟩⟩
 kernel_rfl
theorem APP:AD (AB Tryz.f69 1) 2=[]:=by kernel_rfl
theorem APR:Aa Tryz.prog 0 (.loop (AB Tryz.f69 1)) (JN.loop 1):=AX Ko (ACG) (AA APP trivial)
theorem ACH:∀ v,ED v=roundOf Tryz.prog RL JN 1 0 39 (AB Tryz.f69 0) Yj Yh v:=by
 rintro⟨a0,a1,a2,a3,⟨⟩⟩
 kernel_rfl
theorem APQ:AD (AB Tryz.f69 0) 1=[(1,AB Tryz.f69 1)]:=by kernel_rfl
theorem APS:Aa Tryz.prog 0 (.loop (AB Tryz.f69 0)) (JN.loop 0):=AX Ko (ACH) (AA APQ ⟨APR,trivial⟩)
theorem AKU:∀ v,Mo v=AR Tryz.prog RL JN Tryz.f69 R4 R3 R2 v:=by
 rintro⟨a0,a1,⟨⟩⟩
 kernel_rfl
theorem AU7:AD (AW Tryz.f69) 0=[(0,AB Tryz.f69 0)]:=by kernel_rfl
theorem AF7:AU Tryz.prog 69 (AG 2 R4 R3 R2 Pj):=AK Ko Tryz.func69 (by kernel_rfl) (by kernel_rfl) rfl (fun v=>(Yk v).trans (AKU v)) (AA AU7 ⟨APS,trivial⟩)
def Tj:Env:=RL.ext 69 true true (AG 2 R4 R3 R2 Pj)
theorem Q6:Ac Tryz.prog Tj:=Env.Ad Ko AF7 (fun _=>AP rfl rfl) (fun _=>AL rfl rfl)
abbrev AV9:Hints:={ fp:=fun n=>match n with|3=>[[0],[0],[0],[],[],[12],[],[],[3],[]]|_=>[] }
theorem AMJ:∀ v,JU v=AR Tryz.prog Tj AV9 Tryz.f41 Sy Sx Sw v:=by
 rintro⟨a0,a1,⟨⟩⟩
 kernel_rfl
theorem AV8:AD (AW Tryz.f41) 0=[]:=by kernel_rfl
theorem AHF:AU Tryz.prog 41 (AG 2 Sy Sx Sw ND):=AK Q6 Tryz.func41 (by kernel_rfl) (by kernel_rfl) rfl (fun v=>(OW v).trans (AMJ v)) (AA AV8 trivial)
def Tq:Env:=Tj.ext 41 true true (AG 2 Sy Sx Sw ND)
theorem RJ:Ac Tryz.prog Tq:=Env.Ad Q6 AHF (fun _=>AP rfl rfl) (fun _=>AL rfl rfl)
abbrev Ack:Hints:={  }
theorem AWC:∀ v,W9 v=AR Tryz.prog Tq Ack Tryz.f168 AHL AHK AHJ v:=by
 rintro⟨a0,a1,⟨⟩⟩
 kernel_rfl
theorem Acj:AD (AW Tryz.f168) 0=[]:=by kernel_rfl
theorem AQu:AU Tryz.prog 168 (AG 2 AHL AHK AHJ Dw):=AK RJ Tryz.func168 (by kernel_rfl) (by kernel_rfl) rfl (fun v=>(AMM v).trans (AWC v)) (AA Acj trivial)
def RK:Env:=Tq.ext 168 true true (AG 2 AHL AHK AHJ Dw)
theorem Kl:Ac Tryz.prog RK:=Env.Ad RJ AQu (fun _=>AP rfl rfl) (fun _=>AL rfl rfl)
abbrev AAI:Hints:={ loop:=fun n=>match n with|0=>Ab 1 49 ATh ATf NG|1=>Ab 1 49 ATg ATe NF|_=>fun _ _ _=>none,fp:=fun n=>match n with|4=>[[],[],[],[],[],[],[0],[0],[],[],[],[0],[0],[],[]]|6=>[[],[],[],[],[],[],[],[],[0],[0],[],[],[0],[0],[0],[1],[0],[1]]|_=>[] }
theorem ARA:∀ v,NF v=roundOf Tryz.prog RK AAI 2 1 49 (AB Tryz.f162 1) ATg ATe v:=by
 rintro⟨a0,a1,a2,a3,a4,⟨⟩⟩
 kernel_rfl
theorem Acu:AD (AB Tryz.f162 1) 2=[]:=by kernel_rfl
theorem Acw:Aa Tryz.prog 1 (.loop (AB Tryz.f162 1)) (AAI.loop 1):=AX Kl (ARA) (AA Acu trivial)
theorem ARB:∀ v,NG v=roundOf Tryz.prog RK AAI 1 1 49 (AB Tryz.f162 0) ATh ATf v:=by
 rintro⟨a0,a1,a2,a3,⟨⟩⟩
 kernel_rfl
theorem Acv:AD (AB Tryz.f162 0) 1=[(1,AB Tryz.f162 1)]:=by kernel_rfl
theorem Acx:Aa Tryz.prog 1 (.loop (AB Tryz.f162 0)) (AAI.loop 0):=AX Kl (ARB) (AA Acv ⟨Acw,trivial⟩)
theorem AaQ:∀ v,AHV v=AR Tryz.prog RK AAI Tryz.f162 ARE ARD ARC v:=by
 rintro⟨a0,a1,a2,⟨⟩⟩
 kernel_rfl
theorem AeT:AD (AW Tryz.f162) 0=[(0,AB Tryz.f162 0)]:=by kernel_rfl
theorem AWM:AU Tryz.prog 162 (AG 3 ARE ARD ARC AWN):=AK Kl Tryz.func162 (by kernel_rfl) (by kernel_rfl) rfl (fun v=>(ATi v).trans (AaQ v)) (AA AeT ⟨Acx,trivial⟩)
def AJB:Env:=RK.ext 162 false true (AG 3 ARE ARD ARC AWN)
theorem Ts:Ac Tryz.prog AJB:=Env.Ad Kl AWM ((by simp)) (fun _=>AL rfl rfl)
abbrev AFh:Hints:={ loop:=fun n=>match n with|0=>Ab 1 76 AJ0 AJz JI|_=>fun _ _ _=>none,fp:=fun n=>match n with|6=>[[],[],[],[],[],[],[],[],[],[],[],[],[0],[0],[],[],[],[],[0],[0],[0],[1],[0],[1]]|5=>[[],[],[],[],[0],[0],[],[],[],[],[0],[0],[],[]]|3=>[[],[],[],[],[],[],[],[],[],[0],[0],[],[],[],[],[],[0],[0],[],[]]|_=>[] }
theorem AJy:∀ v,JI v=roundOf Tryz.prog AJB AFh 1 1 76 (AB Tryz.f189 0) AJ0 AJz v:=by
 rintro⟨a0,a1,a2,a3,⟨⟩⟩
 kernel_rfl
theorem AYR:AD (AB Tryz.f189 0) 1=[]:=by kernel_rfl
theorem AYS:Aa Tryz.prog 1 (.loop (AB Tryz.f189 0)) (AFh.loop 0):=AX Ts (AJy) (AA AYR trivial)
theorem AUk:∀ v,Wt v=AR Tryz.prog AJB AFh Tryz.f189 AFg AFf AFe v:=by
 rintro⟨a0,a1,a2,a3,⟨⟩⟩
 kernel_rfl
theorem Ab0:AD (AW Tryz.f189) 0=[(0,AB Tryz.f189 0)]:=by kernel_rfl
theorem AOd:AU Tryz.prog 189 (AG 4 AFg AFf AFe ADV):=AK Ts Tryz.func189 (by kernel_rfl) (by kernel_rfl) rfl (fun v=>(AJ1 v).trans (AUk v)) (AA Ab0 ⟨AYS,trivial⟩)
def Q4:Env:=AJB.ext 189 false true (AG 4 AFg AFf AFe ADV)
theorem Kj:Ac Tryz.prog Q4:=Env.Ad Ts AOd ((by simp)) (fun _=>AL rfl rfl)
abbrev QW:Hints:={ loop:=fun n=>match n with|0=>Ab 1 56 AMi AMg JY|1=>Ab 1 56 AMh AMf JX|_=>fun _ _ _=>none,fp:=fun n=>match n with|10=>[[],[],[],[],[],[],[],[],[],[],[0],[0],[],[],[0],[0],[0],[1],[0],[1]]|_=>[] }
theorem AMd:∀ v,JX v=roundOf Tryz.prog Q4 QW 2 1 56 (AB Tryz.f163 1) AMh AMf v:=by
 rintro⟨a0,a1,a2,a3,⟨⟩⟩
 kernel_rfl
theorem Aae:AD (AB Tryz.f163 1) 2=[]:=by kernel_rfl
theorem Aag:Aa Tryz.prog 1 (.loop (AB Tryz.f163 1)) (QW.loop 1):=AX Kj (AMd) (AA Aae trivial)
theorem AMe:∀ v,JY v=roundOf Tryz.prog Q4 QW 1 1 56 (AB Tryz.f163 0) AMi AMg v:=by
 rintro⟨a0,a1,a2,a3,a4,⟨⟩⟩
 kernel_rfl
theorem Aaf:AD (AB Tryz.f163 0) 1=[]:=by kernel_rfl
theorem Aah:Aa Tryz.prog 1 (.loop (AB Tryz.f163 0)) (QW.loop 0):=AX Kj (AMe) (AA Aaf trivial)
theorem AWc:∀ v,XC v=AR Tryz.prog Q4 QW Tryz.f163 AHh AHg AHf v:=by
 rintro⟨a0,a1,a2,⟨⟩⟩
 kernel_rfl
theorem Ac5:AD (AW Tryz.f163) 0=[(0,AB Tryz.f163 0),(1,AB Tryz.f163 1)]:=by kernel_rfl
theorem ARM:AU Tryz.prog 163 (AG 3 AHh AHg AHf AEI):=AK Kj Tryz.func163 (by kernel_rfl) (by kernel_rfl) rfl (fun v=>(AMj v).trans (AWc v)) (AA Ac5 ⟨Aah,Aag,trivial⟩)
def XP:Env:=Q4.ext 163 false true (AG 3 AHh AHg AHf AEI)
theorem PF:Ac Tryz.prog XP:=Env.Ad Kj ARM ((by simp)) (fun _=>AL rfl rfl)
abbrev ABQ:Hints:={ loop:=fun n=>match n with|0=>Ab 1 65 AEd AEc Fw|_=>fun _ _ _=>none,fp:=fun n=>match n with|10=>[[],[],[],[],[],[],[],[],[],[],[0],[0],[],[],[0],[0],[0],[1],[0],[1]]|_=>[] }
theorem AIh:∀ v,Fw v=roundOf Tryz.prog XP ABQ 1 1 65 (AB Tryz.f164 0) AEd AEc v:=by
 rintro⟨a0,a1,a2,a3,a4,a5,⟨⟩⟩
 kernel_rfl
theorem AXU:AD (AB Tryz.f164 0) 1=[]:=by kernel_rfl
theorem AXV:Aa Tryz.prog 1 (.loop (AB Tryz.f164 0)) (ABQ.loop 0):=AX PF (AIh) (AA AXU trivial)
theorem ASM:∀ v,Qu v=AR Tryz.prog XP ABQ Tryz.f164 ABP ABO ABN v:=by
 rintro⟨a0,a1,a2,⟨⟩⟩
 kernel_rfl
theorem AbQ:AD (AW Tryz.f164) 0=[(0,AB Tryz.f164 0)]:=by kernel_rfl
theorem ANn:AU Tryz.prog 164 (AG 3 ABP ABO ABN TX):=AK PF Tryz.func164 (by kernel_rfl) (by kernel_rfl) rfl (fun v=>(AEe v).trans (ASM v)) (AA AbQ ⟨AXV,trivial⟩)
def AB4:Env:=XP.ext 164 false true (AG 3 ABP ABO ABN TX)
theorem Vy:Ac Tryz.prog AB4:=Env.Ad PF ANn ((by simp)) (fun _=>AL rfl rfl)
abbrev AVa:Hints:={ fp:=fun n=>match n with|1=>[[],[],[0],[0],[],[],[0],[0],[]]|_=>[] }
theorem ALp:∀ v,Mx v=AR Tryz.prog AB4 AVa Tryz.f205 SV SU SS v:=by
 rintro⟨a0,a1,a2,a3,⟨⟩⟩
 kernel_rfl
theorem AVZ:AD (AW Tryz.f205) 0=[]:=by kernel_rfl
theorem AGl:AU Tryz.prog 205 (AG 4 SV SU SS J6):=AK Vy Tryz.func205 (by kernel_rfl) (by kernel_rfl) rfl (fun v=>(Zb v).trans (ALp v)) (AA AVZ trivial)
def Tl:Env:=AB4.ext 205 false true (AG 4 SV SU SS J6)
theorem RA:Ac Tryz.prog Tl:=Env.Ad Vy AGl ((by simp)) (fun _=>AL rfl rfl)
abbrev AVs:Hints:={  }
theorem AL7:∀ v,M5 v=AR Tryz.prog Tl AVs Tryz.f193 Sh Sg Sf v:=by
 rintro⟨a0,a1,a2,a3,a4,⟨⟩⟩
 kernel_rfl
theorem AVr:AD (AW Tryz.f193) 0=[]:=by kernel_rfl
theorem AG3:AU Tryz.prog 193 (AG 5 Sh Sg Sf KD):=AK RA Tryz.func193 (by kernel_rfl) (by kernel_rfl) rfl (fun v=>(Zk v).trans (AL7 v)) (AA AVr trivial)
def Tn:Env:=Tl.ext 193 false true (AG 5 Sh Sg Sf KD)
theorem RC:Ac Tryz.prog Tn:=Env.Ad RA AG3 ((by simp)) (fun _=>AL rfl rfl)
end
end Go.Pev
end
section
namespace Go.Pev
open Go.Proofs
noncomputable section
abbrev AVw:Hints:={  }
theorem AL9:∀ v,M8 v=AR Tryz.prog Tn AVw Tryz.f192 Sn Sm Sl v:=by
 rintro⟨a0,a1,a2,⟨⟩⟩
 kernel_rfl
theorem AVv:AD (AW Tryz.f192) 0=[]:=by kernel_rfl
theorem AG6:AU Tryz.prog 192 (AG 3 Sn Sm Sl KE):=AK RC Tryz.func192 (by kernel_rfl) (by kernel_rfl) rfl (fun v=>(Zl v).trans (AL9 v)) (AA AVv trivial)
def Tp:Env:=Tn.ext 192 false true (AG 3 Sn Sm Sl KE)
theorem RE:Ac Tryz.prog Tp:=Env.Ad RC AG6 ((by simp)) (fun _=>AL rfl rfl)
abbrev AY0:Hints:={  }
theorem APc:∀ v,Pm v=AR Tryz.prog Tp AY0 Tryz.f165 Yu Yt Ys v:=by
 rintro⟨a0,a1,a2,⟨⟩⟩
 kernel_rfl
theorem AYz:AD (AW Tryz.f165) 0=[]:=by kernel_rfl
theorem AKY:AU Tryz.prog 165 (AG 3 Yu Yt Ys R8):=AK RE Tryz.func165 (by kernel_rfl) (by kernel_rfl) rfl (fun v=>(ADs v).trans (APc v)) (AA AYz trivial)
def Q8:Env:=Tp.ext 165 false true (AG 3 Yu Yt Ys R8)
theorem MZ:Ac Tryz.prog Q8:=Env.Ad RE AKY ((by simp)) (fun _=>AL rfl rfl)
abbrev AO7:Hints:={ loop:=fun n=>match n with|0=>Ab 1 32 AS2 AS1 Pa|_=>fun _ _ _=>none,fp:=fun n=>match n with|3=>[[],[],[],[],[],[],[0],[0],[],[],[0],[0],[0],[1],[0],[1]]|_=>[] }
theorem AO3:∀ v,Pa v=roundOf Tryz.prog Q8 AO7 1 1 32 (AB Tryz.f166 0) AS2 AS1 v:=by
 rintro⟨a0,a1,a2,⟨⟩⟩
 kernel_rfl
theorem Ab8:AD (AB Tryz.f166 0) 1=[]:=by kernel_rfl
theorem Ab9:Aa Tryz.prog 1 (.loop (AB Tryz.f166 0)) (AO7.loop 0):=AX MZ (AO3) (AA Ab8 trivial)
theorem AYh:∀ v,AFt v=AR Tryz.prog Q8 AO7 Tryz.f166 AO6 AO5 AO4 v:=by
 rintro⟨a0,a1,a2,⟨⟩⟩
 kernel_rfl
theorem Adz:AD (AW Tryz.f166) 0=[(0,AB Tryz.f166 0)]:=by kernel_rfl
theorem AUw:AU Tryz.prog 166 (AG 3 AO6 AO5 AO4 AUy):=AK MZ Tryz.func166 (by kernel_rfl) (by kernel_rfl) rfl (fun v=>(AS3 v).trans (AYh v)) (AA Adz ⟨Ab9,trivial⟩)
def PB:Env:=Q8.ext 166 false true (AG 3 AO6 AO5 AO4 AUy)
theorem HP:Ac Tryz.prog PB:=Env.Ad MZ AUw ((by simp)) (fun _=>AL rfl rfl)
abbrev Cp:Hints:={ loop:=fun n=>match n with|0=>Ab 1 133 VB UX CL|1=>Ab 1 133 VA UW GO|2=>Ab 1 133 UZ UU EY|3=>Ab 1 133 UY UT EX|_=>fun _ _ _=>none,fp:=fun n=>match n with|11=>[[],[],[],[],[],[],[],[],[0],[0],[],[],[0],[0],[0],[1],[0],[1]]|5=>[[],[],[],[],[],[],[0],[0],[],[],[],[0],[0],[],[],[]]|17=>[[],[],[],[],[],[],[],[],[0],[0],[],[],[0],[0],[0],[1],[0],[1]]|16=>[[],[],[0],[0],[],[],[],[0],[0],[],[]]|23=>[[],[],[],[],[],[],[],[],[0],[0],[],[],[0],[0],[0],[1],[0],[1]]|22=>[[],[],[0],[0],[],[],[],[0],[0],[],[]]|_=>[] }
theorem ZG:∀ v,EX v=roundOf Tryz.prog PB Cp 4 1 133 (AB Tryz.f167 3) UY UT v:=by
 rintro⟨a0,a1,a2,a3,a4,a5,⟨⟩⟩
 kernel_rfl
theorem ALC:AD (AB Tryz.f167 3) 4=[]:=by kernel_rfl
theorem ALG:Aa Tryz.prog 1 (.loop (AB Tryz.f167 3)) (Cp.loop 3):=AX HP (ZG) (AA ALC trivial)
theorem ZH:∀ v,EY v=roundOf Tryz.prog PB Cp 3 1 133 (AB Tryz.f167 2) UZ UU v:=by
 rintro⟨a0,a1,a2,a3,a4,a5,⟨⟩⟩
 kernel_rfl
theorem ALD:AD (AB Tryz.f167 2) 3=[]:=by kernel_rfl
theorem ALH:Aa Tryz.prog 1 (.loop (AB Tryz.f167 2)) (Cp.loop 2):=AX HP (ZH) (AA ALD trivial)
theorem ZI:∀ v,GO v=roundOf Tryz.prog PB Cp 2 1 133 (AB Tryz.f167 1) VA UW v:=by
 rintro⟨a0,a1,a2,a3,a4,⟨⟩⟩
 kernel_rfl
theorem ALE:AD (AB Tryz.f167 1) 2=[]:=by kernel_rfl
theorem ALI:Aa Tryz.prog 1 (.loop (AB Tryz.f167 1)) (Cp.loop 1):=AX HP (ZI) (AA ALE trivial)
theorem ZJ:∀ v,CL v=roundOf Tryz.prog PB Cp 1 1 133 (AB Tryz.f167 0) VB UX v:=by
 rintro⟨a0,a1,a2,a3,a4,⟨⟩⟩
 kernel_rfl
theorem ALF:AD (AB Tryz.f167 0) 1=[(1,AB Tryz.f167 1),(2,AB Tryz.f167 2),(3,AB Tryz.f167 3)]:=by kernel_rfl
theorem ALJ:Aa Tryz.prog 1 (.loop (AB Tryz.f167 0)) (Cp.loop 0):=AX HP (ZJ) (AA ALF ⟨ALI,ALH,ALG,trivial⟩)
theorem AGZ:∀ v,J1 v=AR Tryz.prog PB Cp Tryz.f167 OQ OP OO v:=by
 rintro⟨a0,a1,a2,⟨⟩⟩
 kernel_rfl
theorem APt:AD (AW Tryz.f167) 0=[(0,AB Tryz.f167 0)]:=by kernel_rfl
theorem ACN:AU Tryz.prog 167 (AG 3 OQ OP OO JO):=AK HP Tryz.func167 (by kernel_rfl) (by kernel_rfl) rfl (fun v=>(VC v).trans (AGZ v)) (AA APt ⟨ALJ,trivial⟩)
def F4:Env:=PB.ext 167 false true (AG 3 OQ OP OO JO)
theorem D1:Ac Tryz.prog F4:=Env.Ad HP ACN ((by simp)) (fun _=>AL rfl rfl)
abbrev FT:Hints:={ loop:=fun n=>match n with|0=>Ab 1 84 ZY ZV Hn|1=>Ab 1 84 ZX ZU Hm|2=>Ab 1 84 ZW ZT Hl|_=>fun _ _ _=>none,fp:=fun n=>match n with|8=>[[],[],[],[],[],[],[0],[0],[],[],[0],[0],[0],[1],[0],[1]]|3=>[[],[],[],[],[],[],[0],[0],[],[],[0],[0],[],[],[]]|5=>[[],[],[],[],[],[],[0],[0],[],[],[0],[0],[],[]]|1=>[[],[],[],[],[],[],[0],[0],[],[],[0],[0],[0],[1],[0],[1]]|_=>[] }
theorem ACX:∀ v,Hl v=roundOf Tryz.prog F4 FT 3 1 84 (AB Tryz.f169 2) ZW ZT v:=by
 rintro⟨a0,a1,a2,a3,⟨⟩⟩
 kernel_rfl
theorem AP4:AD (AB Tryz.f169 2) 3=[]:=by kernel_rfl
theorem AP7:Aa Tryz.prog 1 (.loop (AB Tryz.f169 2)) (FT.loop 2):=AX D1 (ACX) (AA AP4 trivial)
theorem ACZ:∀ v,Hm v=roundOf Tryz.prog F4 FT 2 1 84 (AB Tryz.f169 1) ZX ZU v:=by
 rintro⟨a0,a1,a2,a3,⟨⟩⟩
 kernel_rfl
theorem AP5:AD (AB Tryz.f169 1) 2=[]:=by kernel_rfl
theorem AP8:Aa Tryz.prog 1 (.loop (AB Tryz.f169 1)) (FT.loop 1):=AX D1 (ACZ) (AA AP5 trivial)
theorem ACb:∀ v,Hn v=roundOf Tryz.prog F4 FT 1 1 84 (AB Tryz.f169 0) ZY ZV v:=by
 rintro⟨a0,a1,a2,a3,⟨⟩⟩
 kernel_rfl
theorem AP6:AD (AB Tryz.f169 0) 1=[(1,AB Tryz.f169 1),(2,AB Tryz.f169 2)]:=by kernel_rfl
theorem AP9:Aa Tryz.prog 1 (.loop (AB Tryz.f169 0)) (FT.loop 0):=AX D1 (ACb) (AA AP6 ⟨AP8,AP7,trivial⟩)
theorem ALl:∀ v,Mu v=AR Tryz.prog F4 FT Tryz.f169 SN SM SK v:=by
 rintro⟨a0,a1,a2,a3,⟨⟩⟩
 kernel_rfl
theorem AVV:AD (AW Tryz.f169) 0=[(0,AB Tryz.f169 0)]:=by kernel_rfl
theorem AGg:AU Tryz.prog 169 (AG 4 SN SM SK Mv):=AK D1 Tryz.func169 (by kernel_rfl) (by kernel_rfl) rfl (fun v=>(ZZ v).trans (ALl v)) (AA AVV ⟨AP9,trivial⟩)
def Eg:Env:=F4.ext 169 false true (AG 4 SN SM SK Mv)
theorem Cw:Ac Tryz.prog Eg:=Env.Ad D1 AGg ((by simp)) (fun _=>AL rfl rfl)
abbrev Ep:Hints:={ loop:=fun n=>match n with|0=>Ab 1 168 ALd ALY Lj|1=>Ab 1 168 ALc ALX Li|2=>Ab 1 168 ALb ALW Lh|3=>Ab 1 168 ALa ALV Lg|4=>Ab 1 168 ALZ ALU Lf|_=>fun _ _ _=>none,fp:=fun n=>match n with|3=>[[],[],[],[],[],[],[0],[0],[],[],[0],[0],[],[]]|5=>[[],[],[],[],[],[],[0],[0],[],[],[0],[0],[],[],[]]|18=>[[],[],[],[],[],[],[0],[0],[],[],[0],[0],[0],[1],[0],[1]]|13=>[[],[],[],[],[],[],[0],[0],[],[],[0],[0],[],[]]|15=>[[],[],[],[],[],[],[0],[0],[],[],[0],[0],[],[],[]]|21=>[[],[],[],[],[],[],[0],[0],[],[],[0],[0],[0],[1],[0],[1]]|10=>[[],[],[],[],[],[],[0],[0],[],[],[0],[0],[0],[1],[0],[1]]|8=>[[],[],[],[],[],[],[0],[0],[],[],[0],[0],[0],[1],[0],[1]]|1=>[[],[],[],[],[],[],[0],[0],[],[],[0],[0],[0],[1],[0],[1]]|_=>[] }
theorem ALL:∀ v,Lf v=roundOf Tryz.prog Eg Ep 5 1 168 (AB Tryz.f170 4) ALZ ALU v:=by
 rintro⟨a0,a1,a2,a3,⟨⟩⟩
 kernel_rfl
theorem AZa:AD (AB Tryz.f170 4) 5=[]:=by kernel_rfl
theorem AZf:Aa Tryz.prog 1 (.loop (AB Tryz.f170 4)) (Ep.loop 4):=AX Cw (ALL) (AA AZa trivial)
theorem ALN:∀ v,Lg v=roundOf Tryz.prog Eg Ep 4 1 168 (AB Tryz.f170 3) ALa ALV v:=by
 rintro⟨a0,a1,a2,a3,⟨⟩⟩
 kernel_rfl
theorem AZb:AD (AB Tryz.f170 3) 4=[]:=by kernel_rfl
theorem AZg:Aa Tryz.prog 1 (.loop (AB Tryz.f170 3)) (Ep.loop 3):=AX Cw (ALN) (AA AZb trivial)
theorem ALP:∀ v,Lh v=roundOf Tryz.prog Eg Ep 3 1 168 (AB Tryz.f170 2) ALb ALW v:=by
 rintro⟨a0,a1,a2,a3,⟨⟩⟩
 kernel_rfl
theorem AZc:AD (AB Tryz.f170 2) 3=[(3,AB Tryz.f170 3),(4,AB Tryz.f170 4)]:=by kernel_rfl
theorem AZh:Aa Tryz.prog 1 (.loop (AB Tryz.f170 2)) (Ep.loop 2):=AX Cw (ALP) (AA AZc ⟨AZg,AZf,trivial⟩)
theorem ALQ:∀ v,Li v=roundOf Tryz.prog Eg Ep 2 1 168 (AB Tryz.f170 1) ALc ALX v:=by
 rintro⟨a0,a1,a2,a3,⟨⟩⟩
 kernel_rfl
theorem AZd:AD (AB Tryz.f170 1) 2=[]:=by kernel_rfl
theorem AZi:Aa Tryz.prog 1 (.loop (AB Tryz.f170 1)) (Ep.loop 1):=AX Cw (ALQ) (AA AZd trivial)
theorem ALS:∀ v,Lj v=roundOf Tryz.prog Eg Ep 1 1 168 (AB Tryz.f170 0) ALd ALY v:=by
 rintro⟨a0,a1,a2,a3,⟨⟩⟩
 kernel_rfl
theorem AZe:AD (AB Tryz.f170 0) 1=[]:=by kernel_rfl
theorem AZj:Aa Tryz.prog 1 (.loop (AB Tryz.f170 0)) (Ep.loop 0):=AX Cw (ALS) (AA AZe trivial)
theorem AVS:∀ v,W1 v=AR Tryz.prog Eg Ep Tryz.f170 AGd AGc AGb v:=by
 rintro⟨a0,a1,a2,a3,⟨⟩⟩
 kernel_rfl
theorem AcU:AD (AW Tryz.f170) 0=[(0,AB Tryz.f170 0),(1,AB Tryz.f170 1),(2,AB Tryz.f170 2)]:=by kernel_rfl
theorem APu:AU Tryz.prog 170 (AG 4 AGd AGc AGb Pt):=AK Cw Tryz.func170 (by kernel_rfl) (by kernel_rfl) rfl (fun v=>(ALe v).trans (AVS v)) (AA AcU ⟨AZj,AZi,AZh,trivial⟩)
def AI8:Env:=Eg.ext 170 false true (AG 4 AGd AGc AGb Pt)
theorem ABs:Ac Tryz.prog AI8:=Env.Ad Cw APu ((by simp)) (fun _=>AL rfl rfl)
abbrev APp(self:(List Int×Int×Int×Int×Unit)→Option ((List Int×Unit))):Hints:={ loop:=fun n=>match n with|0=>Ab 1 134 ATE ATD (Mt self)|_=>fun _ _ _=>none,fp:=fun n=>match n with|17=>[[],[],[],[],[],[],[0],[0],[],[],[0],[0],[],[],[]]|_=>[] }
abbrev AGP(self:(List Int×Int×Int×Int×Unit)→Option ((List Int×Unit))):Env:=AI8.ext 131 false true (AG 4 Y8 Y7 Y6 self)
theorem APo(self:(List Int×Int×Int×Int×Unit)→Option ((List Int×Unit))):∀ v,Mt self v=roundOf Tryz.prog (AGP self) (APp self) 1 1 134 (AB Tryz.f131 0) ATE ATD v:=by
 rintro⟨a0,a1,a2,a3,a4,a5,⟨⟩⟩
 kernel_rfl
theorem AcN:AD (AB Tryz.f131 0) 1=[]:=by kernel_rfl
theorem AcO(self:(List Int×Int×Int×Int×Unit)→Option ((List Int×Unit)))(hE:Ac Tryz.prog (AGP self)):Aa Tryz.prog 1 (.loop (AB Tryz.f131 0)) ((APp self).loop 0):=AX hE (APo self) (AA AcN trivial)
theorem AZA(self:(List Int×Int×Int×Int×Unit)→Option ((List Int×Unit))):∀ v,AGO self v=AR Tryz.prog (AGP self) (APp self) Tryz.f131 Y8 Y7 Y6 v:=by
 rintro⟨a0,a1,a2,a3,⟨⟩⟩
 kernel_rfl
theorem Ad5:AD (AW Tryz.f131) 0=[(0,AB Tryz.f131 0)]:=by kernel_rfl
theorem APq:∀ n,AU Tryz.prog 131 (AG 4 Y8 Y7 Y6 (Hk n)):=by
 intro n
 induction n with
 |zero=>exact VH fun _=>rfl
 |succ n ih=>
  have hE:Ac Tryz.prog (AGP (Hk n)):=Env.Ad ABs ih ((by simp)) (fun _=>AL rfl rfl)
  let self:=Hk n
  exact AK hE Tryz.func131 (by kernel_rfl) (by kernel_rfl) rfl (AZA self) (AA Ad5 ⟨(AcO self hE),trivial⟩)
theorem AVI:AU Tryz.prog 131 (AG 4 Y8 Y7 Y6 AVJ):=by
 have e:AVJ=Hk 100:=funext ATF
 rw[e]
 exact APq _
def ASc:Env:=AI8.ext 131 false true (AG 4 Y8 Y7 Y6 AVJ)
theorem AEn:Ac Tryz.prog ASc:=Env.Ad ABs AVI ((by simp)) (fun _=>AL rfl rfl)
abbrev Aby:Hints:={  }
theorem AUh:∀ v,Wr v=AR Tryz.prog ASc Aby Tryz.f95 AFZ AFY AFX v:=by
 rintro⟨a0,⟨⟩⟩
 kernel_rfl
theorem Abx:AD (AW Tryz.f95) 0=[]:=by kernel_rfl
theorem AOb:AU Tryz.prog 95 (AG 1 AFZ AFY AFX AJs):=AK AEn Tryz.func95 (by kernel_rfl) (by kernel_rfl) rfl (fun v=>(AJr v).trans (AUh v)) (AA Abx trivial)
def AI1:Env:=ASc.ext 95 false true (AG 1 AFZ AFY AFX AJs)
theorem ABg:Ac Tryz.prog AI1:=Env.Ad AEn AOb ((by simp)) (fun _=>AL rfl rfl)
abbrev AeW:Hints:={  }
theorem AaV:∀ v,AHY v=AR Tryz.prog AI1 AeW Tryz.f110 ARI ARH ARG v:=by
 rintro⟨a0,a1,⟨⟩⟩
 kernel_rfl
theorem AeV:AD (AW Tryz.f110) 0=[]:=by kernel_rfl
theorem AWQ:AU Tryz.prog 110 (AG 2 ARI ARH ARG ACl):=AK ABg Tryz.func110 (by kernel_rfl) (by kernel_rfl) rfl (fun v=>(ATj v).trans (AaV v)) (AA AeV trivial)
def ABy:Env:=AI1.ext 110 true true (AG 2 ARI ARH ARG ACl)
theorem NZ:Ac Tryz.prog ABy:=Env.Ad ABg AWQ (fun _=>AP rfl rfl) (fun _=>AL rfl rfl)
abbrev L7:Hints:={ loop:=fun n=>match n with|0=>Ab 0 64 AEN AEL Fk|1=>Ab 0 64 AEM AEK Fj|_=>fun _ _ _=>none,fp:=fun n=>match n with|6=>[[0],[],[],[],[],[],[],[],[],[0],[],[],[],[],[],[],[],[]]|_=>[] }
theorem AHz:∀ v,Fj v=roundOf Tryz.prog ABy L7 2 0 64 (AB Tryz.f65 1) AEM AEK v:=by
 rintro⟨a0,a1,a2,a3,⟨⟩⟩
 kernel_rfl
theorem AWs:AD (AB Tryz.f65 1) 2=[]:=by kernel_rfl
theorem AWu:Aa Tryz.prog 0 (.loop (AB Tryz.f65 1)) (L7.loop 1):=AX NZ (AHz) (AA AWs trivial)
theorem AH0:∀ v,Fk v=roundOf Tryz.prog ABy L7 1 0 64 (AB Tryz.f65 0) AEN AEL v:=by
 rintro⟨a0,a1,a2,a3,⟨⟩⟩
 kernel_rfl
theorem AWt:AD (AB Tryz.f65 0) 1=[]:=by kernel_rfl
theorem AWv:Aa Tryz.prog 0 (.loop (AB Tryz.f65 0)) (L7.loop 0):=AX NZ (AH0) (AA AWt trivial)
theorem ARU:∀ v,L8 v=AR Tryz.prog ABy L7 Tryz.f65 AAV AAU AAT v:=by
 rintro⟨a0,a1,⟨⟩⟩
 kernel_rfl
theorem Aao:AD (AW Tryz.f65) 0=[(0,AB Tryz.f65 0),(1,AB Tryz.f65 1)]:=by kernel_rfl
theorem AM2:AU Tryz.prog 65 (AG 2 AAV AAU AAT TB):=AK NZ Tryz.func65 (by kernel_rfl) (by kernel_rfl) rfl (fun v=>(TA v).trans (ARU v)) (AA Aao ⟨AWv,AWu,trivial⟩)
def RO:Env:=ABy.ext 65 true true (AG 2 AAV AAU AAT TB)
theorem Mc:Ac Tryz.prog RO:=Env.Ad NZ AM2 (fun _=>AP rfl rfl) (fun _=>AL rfl rfl)
abbrev Lq:Hints:={ loop:=fun n=>match n with|0=>Ab 0 36 P7 P6 Cq|_=>fun _ _ _=>none,fp:=fun n=>match n with|6=>[[],[],[2],[2],[],[],[2],[2],[]]|1=>[[0],[0],[0],[],[],[2],[]]|_=>[] }
theorem WJ:∀ v,Cq v=roundOf Tryz.prog RO Lq 1 0 36 (AB Tryz.f91 0) P7 P6 v:=by
 rintro⟨a0,a1,a2,a3,a4,a5,⟨⟩⟩
 kernel_rfl
theorem AGz:AD (AB Tryz.f91 0) 1=[]:=by kernel_rfl
theorem AG0:Aa Tryz.prog 0 (.loop (AB Tryz.f91 0)) (Lq.loop 0):=AX Mc (WJ) (AA AGz trivial)
theorem ACg:∀ v,Ib v=AR Tryz.prog RO Lq Tryz.f91 Lp Lo Ln v:=by
 rintro⟨a0,a1,a2,⟨⟩⟩
 kernel_rfl
theorem AL4:AD (AW Tryz.f91) 0=[(0,AB Tryz.f91 0)]:=by kernel_rfl
theorem Zi:AU Tryz.prog 91 (AG 3 Lp Lo Ln HH):=AK Mc Tryz.func91 (by kernel_rfl) (by kernel_rfl) rfl (fun v=>(P8 v).trans (ACg v)) (AA AL4 ⟨AG0,trivial⟩)
def I0:Env:=RO.ext 91 true true (AG 3 Lp Lo Ln HH)
theorem IQ:Ac Tryz.prog I0:=Env.Ad Mc Zi (fun _=>AP rfl rfl) (fun _=>AL rfl rfl)
abbrev AHm:Hints:={ loop:=fun n=>match n with|0=>Ab 0 18 AMp AMo H3|_=>fun _ _ _=>none }
theorem AMn:∀ v,H3 v=roundOf Tryz.prog I0 AHm 1 0 18 (AB Tryz.f111 0) AMp AMo v:=by
 rintro⟨a0,a1,a2,⟨⟩⟩
 kernel_rfl
theorem Aaj:AD (AB Tryz.f111 0) 1=[]:=by kernel_rfl
theorem Aak:Aa Tryz.prog 0 (.loop (AB Tryz.f111 0)) (AHm.loop 0):=AX IQ (AMn) (AA Aaj trivial)
theorem AWf:∀ v,XE v=AR Tryz.prog I0 AHm Tryz.f111 AHl AHk AHj v:=by
 rintro⟨a0,a1,⟨⟩⟩
 kernel_rfl
theorem Ac6:AD (AW Tryz.f111) 0=[(0,AB Tryz.f111 0)]:=by kernel_rfl
theorem ARN:AU Tryz.prog 111 (AG 2 AHl AHk AHj JZ):=AK IQ Tryz.func111 (by kernel_rfl) (by kernel_rfl) rfl (fun v=>(AMq v).trans (AWf v)) (AA Ac6 ⟨Aak,trivial⟩)
def AJC:Env:=I0.ext 111 true true (AG 2 AHl AHk AHj JZ)
theorem ABz:Ac Tryz.prog AJC:=Env.Ad IQ ARN (fun _=>AP rfl rfl) (fun _=>AL rfl rfl)
end
end Go.Pev
end
section
namespace Go.Pev
open Go.Proofs
noncomputable section
abbrev AYV:Hints:={ fp:=fun n=>match n with|8=>[[],[26],[],[34],[],[],[],[26],[],[34],[],[],[],[26],[26],[],[34],[34],[],[],[]]|5=>[[0],[],[],[],[0],[],[],[],[],[]]|_=>[] }
theorem AOg:∀ v,JJ v=AR Tryz.prog AJC AYV Tryz.f63 X0 Xz Xy v:=by
 rintro⟨a0,a1,a2,a3,⟨⟩⟩
 kernel_rfl
theorem AYU:AD (AW Tryz.f63) 0=[]:=by kernel_rfl
theorem AJ3:AU Tryz.prog 63 (AG 4 X0 Xz Xy OD):=AK ABz Tryz.func63 (by kernel_rfl) (by kernel_rfl) rfl (fun v=>(Ml v).trans (AOg v)) (AA AYU trivial)
def Jm:Env:=AJC.ext 63 true true (AG 4 X0 Xz Xy OD)
theorem Gd:Ac Tryz.prog Jm:=Env.Ad ABz AJ3 (fun _=>AP rfl rfl) (fun _=>AL rfl rfl)
abbrev J7:Hints:={ loop:=fun n=>match n with|0=>Ab 0 208 ALz ALw Er|1=>Ab 0 208 ALy ALv GV|2=>Ab 0 208 ALx ALu GU|_=>fun _ _ _=>none,fp:=fun n=>match n with|34=>[[6],[10],[1],[3],[]]|33=>[[14],[14],[14],[14],[],[10],[11],[10],[11]]|35=>[[4],[8],[1],[3],[]]|9=>[[0],[0],[],[0],[0],[],[],[41],[0],[0],[],[],[],[43],[],[],[47]]|_=>[] }
theorem ALr:∀ v,GU v=roundOf Tryz.prog Jm J7 3 0 208 (AB Tryz.f61 2) ALx ALu v:=by
 rintro⟨a0,a1,a2,a3,a4,a5,a6,a7,a8,a9,a10,a11,a12,a13,a14,a15,a16,a17,a18,a19,a20,a21,⟨⟩⟩
 kernel_rfl
theorem AZv:AD (AB Tryz.f61 2) 3=[]:=by kernel_rfl
theorem AZy:Aa Tryz.prog 0 (.loop (AB Tryz.f61 2)) (J7.loop 2):=AX Gd (ALr) (AA AZv trivial)
theorem ALs:∀ v,GV v=roundOf Tryz.prog Jm J7 2 0 208 (AB Tryz.f61 1) ALy ALv v:=by
 rintro⟨a0,a1,a2,a3,a4,a5,a6,a7,a8,a9,a10,a11,a12,a13,a14,a15,a16,a17,a18,a19,a20,a21,⟨⟩⟩
 kernel_rfl
theorem AZw:AD (AB Tryz.f61 1) 2=[]:=by kernel_rfl
theorem AZz:Aa Tryz.prog 0 (.loop (AB Tryz.f61 1)) (J7.loop 1):=AX Gd (ALs) (AA AZw trivial)
theorem ALt:∀ v,Er v=roundOf Tryz.prog Jm J7 1 0 208 (AB Tryz.f61 0) ALz ALw v:=by
 rintro⟨a0,a1,a2,a3,a4,a5,a6,a7,a8,a9,a10,a11,a12,a13,a14,a15,a16,a17,a18,⟨⟩⟩
 kernel_rfl
theorem AZx:AD (AB Tryz.f61 0) 1=[(1,AB Tryz.f61 1),(2,AB Tryz.f61 2)]:=by kernel_rfl
theorem AZ0:Aa Tryz.prog 0 (.loop (AB Tryz.f61 0)) (J7.loop 0):=AX Gd (ALt) (AA AZx ⟨AZz,AZy,trivial⟩)
theorem AVd:∀ v,P1 v=AR Tryz.prog Jm J7 Tryz.f61 AGr AGq AGo v:=by
 rintro⟨a0,a1,a2,⟨⟩⟩
 kernel_rfl
theorem AcX:AD (AW Tryz.f61) 0=[(0,AB Tryz.f61 0)]:=by kernel_rfl
theorem AQD:AU Tryz.prog 61 (AG 3 AGr AGq AGo VE):=AK Gd Tryz.func61 (by kernel_rfl) (by kernel_rfl) rfl (fun v=>(Ze v).trans (AVd v)) (AA AcX ⟨AZ0,trivial⟩)
def XN:Env:=Jm.ext 61 true true (AG 3 AGr AGq AGo VE)
theorem PD:Ac Tryz.prog XN:=Env.Ad Gd AQD (fun _=>AP rfl rfl) (fun _=>AL rfl rfl)
abbrev AST:Hints:={ loop:=fun n=>match n with|0=>Ab 0 49 AT1 AT0 Ka|_=>fun _ _ _=>none,fp:=fun n=>match n with|5=>[[],[],[],[],[],[0],[],[]]|8=>[[],[],[],[],[],[],[],[],[],[],[0],[],[],[],[],[]]|_=>[] }
theorem ASP:∀ v,Ka v=roundOf Tryz.prog XN AST 1 0 49 (AB Tryz.f132 0) AT1 AT0 v:=by
 rintro⟨a0,a1,a2,a3,a4,a5,a6,a7,⟨⟩⟩
 kernel_rfl
theorem AdV:AD (AB Tryz.f132 0) 1=[]:=by kernel_rfl
theorem AdW:Aa Tryz.prog 0 (.loop (AB Tryz.f132 0)) (AST.loop 0):=AX PD (ASP) (AA AdV trivial)
theorem AbT:∀ v,AIk v=AR Tryz.prog XN AST Tryz.f132 ASS ASR ASQ v:=by
 rintro⟨a0,a1,⟨⟩⟩
 kernel_rfl
theorem Aef:AD (AW Tryz.f132) 0=[(0,AB Tryz.f132 0)]:=by kernel_rfl
theorem AXZ:AU Tryz.prog 132 (AG 3 ASS ASR ASQ AXa):=AK PD Tryz.func132 (by kernel_rfl) (by kernel_rfl) rfl (fun v=>(AT2 v).trans (AbT v)) (AA Aef ⟨AdW,trivial⟩)
def ASi:Env:=XN.E0 132 2 98 (AG 3 ASS ASR ASQ AXa)
theorem AEt:Ac Tryz.prog ASi:=Env.Bb PD AXZ (AL rfl rfl)
abbrev AaE:Hints:={  }
theorem AQo:∀ v,QA v=AR Tryz.prog ASi AaE Tryz.f99 Z1 Z0 Zz v:=by
 rintro⟨a0,a1,a2,⟨⟩⟩
 kernel_rfl
theorem AaD:AD (AW Tryz.f99) 0=[]:=by kernel_rfl
theorem AMG:AU Tryz.prog 99 (AG 3 Z1 Z0 Zz AHB):=AK AEt Tryz.func99 (by kernel_rfl) (by kernel_rfl) rfl (fun v=>(AD4 v).trans (AQo v)) (AA AaD trivial)
def ABu:Env:=ASi.ext 99 true true (AG 3 Z1 Z0 Zz AHB)
theorem Vs:Ac Tryz.prog ABu:=Env.Ad AEt AMG (fun _=>AP rfl rfl) (fun _=>AL rfl rfl)
abbrev Aci:Hints:={  }
theorem AWB:∀ v,W8 v=AR Tryz.prog ABu Aci Tryz.f51 AHI AHH AHG v:=by
 rintro⟨a0,a1,a2,⟨⟩⟩
 kernel_rfl
theorem Ach:AD (AW Tryz.f51) 0=[]:=by kernel_rfl
theorem AQt:AU Tryz.prog 51 (AG 3 AHI AHH AHG AML):=AK Vs Tryz.func51 (by kernel_rfl) (by kernel_rfl) rfl (fun v=>(AMK v).trans (AWB v)) (AA Ach trivial)
def AUD:Env:=ABu.ext 51 true true (AG 3 AHI AHH AHG AML)
theorem ASh:Ac Tryz.prog AUD:=Env.Ad Vs AQt (fun _=>AP rfl rfl) (fun _=>AL rfl rfl)
theorem AbM : (Tryz.f144.name == "runtime.NumGoroutine") = false := by kernel_rfl
theorem AIR:AB6 Tryz.prog Tryz.f144 55 3 (.int .i64) where
 body:=by kernel_rfl
 nt:=by kernel_rfl
 res:=by kernel_rfl
 d:=⟨by kernel_rfl,by kernel_rfl,by kernel_rfl,by kernel_rfl,by kernel_rfl,by kernel_rfl,by kernel_rfl,by kernel_rfl⟩
 g:=⟨by kernel_rfl,by kernel_rfl,by kernel_rfl,by kernel_rfl,by kernel_rfl,by kernel_rfl,by kernel_rfl,by kernel_rfl⟩
 o00:=by kernel_rfl
 o10:=by kernel_rfl
 o11:=by kernel_rfl
 o20:=by kernel_rfl
 o30:=by kernel_rfl
 o31:=by kernel_rfl
 o32:=by kernel_rfl
 o33:=by kernel_rfl
 sl:=by kernel_rfl
 z:=by kernel_rfl
 by1:=by kernel_rfl
def AB2:Env:=AUD.ext 144 true true (HK 3 (.int .i64))
theorem Vw:Ac Tryz.prog AB2:=Env.Ad ASh (AbL AIR Tryz.func144 AbM) (fun _=>LA _ _) (fun _=>(LA _ _).Ae0)
theorem AQa:Tryz.f145.body.isSome=true:=by kernel_rfl
theorem AQZ : (Tryz.f145.name == "runtime.NumGoroutine") = false := by kernel_rfl
theorem AQY:loops (AW Tryz.f145)=0:=by kernel_rfl
def HB:Env:=AB2.ext 145 false false (Cy Tryz.prog AB2 {} Tryz.f145)
theorem Gs:Ac Tryz.prog HB:=Env.Ad Vw (Ch Vw Tryz.func145 AQa AQZ AQY) (by simp) (by simp)
abbrev H0:Hints:={ loop:=fun n=>match n with|0=>Ab 2 19 K4 K0 Bh|_=>fun _ _ _=>none }
theorem Ol:∀ v,Bh v=roundOf Tryz.prog HB H0 1 2 19 (AB Tryz.f174 0) K4 K0 v:=by
 rintro⟨a0,a1,a2,a3,a4,⟨⟩⟩
 kernel_rfl
theorem WO:AD (AB Tryz.f174 0) 1=[]:=by kernel_rfl
theorem WQ:Aa Tryz.prog 2 (.loop (AB Tryz.f174 0)) (H0.loop 0):=AX Gs (Ol) (AA WO trivial)
theorem S4:∀ v,Ez v=AR Tryz.prog HB H0 Tryz.f174 Hz Hy Hx v:=by
 rintro⟨a0,a1,a2,⟨⟩⟩
 kernel_rfl
theorem AAP:AD (AW Tryz.f174) 0=[(0,AB Tryz.f174 0)]:=by kernel_rfl
theorem QT:AU Tryz.prog 174 (AG 2 Hz Hy Hx G1):=AK Gs Tryz.func174 (by kernel_rfl) (by kernel_rfl) rfl (fun v=>(K5 v).trans (S4 v)) (AA AAP ⟨WQ,trivial⟩)
def FD:Env:=HB.E0 174 1 145 (AG 2 Hz Hy Hx G1)
theorem FA:Ac Tryz.prog FD:=Env.Bb Gs QT (AL rfl rfl)
abbrev IE:Hints:={ loop:=fun n=>match n with|0=>Ab 2 42 K8 K7 CH|_=>fun _ _ _=>none }
theorem O0:∀ v,CH v=roundOf Tryz.prog FD IE 1 2 42 (AB Tryz.f143 0) K8 K7 v:=by
 rintro⟨a0,a1,a2,a3,a4,⟨⟩⟩
 kernel_rfl
theorem WU:AD (AB Tryz.f143 0) 1=[]:=by kernel_rfl
theorem WV:Aa Tryz.prog 2 (.loop (AB Tryz.f143 0)) (IE.loop 0):=AX FA (O0) (AA WU trivial)
theorem TL:∀ v,E3 v=AR Tryz.prog FD IE Tryz.f143 ID IC IB v:=by
 rintro⟨a0,a1,a2,⟨⟩⟩
 kernel_rfl
theorem AAu:AD (AW Tryz.f143) 0=[(0,AB Tryz.f143 0)]:=by kernel_rfl
theorem Qg:AU Tryz.prog 143 (AG 2 ID IC IB E4):=AK FA Tryz.func143 (by kernel_rfl) (by kernel_rfl) rfl (fun v=>(K9 v).trans (TL v)) (AA AAu ⟨WV,trivial⟩)
def IT:Env:=FD.E0 143 1 145 (JH (AG 2 ID IC IB E4))
theorem I2:Ac Tryz.prog IT:=Env.Bb FA (T5 Qg) (ASs rfl rfl)
abbrev ARe:Hints:={ fp:=fun n=>match n with|4=>[[0],[0],[0],[],[],[],[],[],[],[1000005,21,1],[]]|_=>[] }
theorem AH5:∀ v,KQ v=AR Tryz.prog IT ARe Tryz.f112 Ou Ot Oq v:=by
 rintro⟨a0,a1,⟨⟩⟩
 kernel_rfl
theorem ARd:AD (AW Tryz.f112) 0=[]:=by kernel_rfl
theorem ACp:AU Tryz.prog 112 (AG 2 Ou Ot Oq H5):=AK I2 Tryz.func112 (by kernel_rfl) (by kernel_rfl) rfl (fun v=>(VP v).trans (AH5 v)) (AA ARd trivial)
def PG:Env:=IT.ext 112 true true (AG 2 Ou Ot Oq H5)
theorem N0:Ac Tryz.prog PG:=Env.Ad I2 ACp (fun _=>AP rfl rfl) (fun _=>AL rfl rfl)
abbrev Ac9:Hints:={  }
theorem AWl:∀ v,XG v=AR Tryz.prog PG Ac9 Tryz.f140 AHu AHt AHs v:=by
 rintro⟨a0,⟨⟩⟩
 kernel_rfl
theorem Ac8:AD (AW Tryz.f140) 0=[]:=by kernel_rfl
theorem ARQ:AU Tryz.prog 140 (AG 2 AHu AHt AHs AMx):=AK N0 Tryz.func140 (by kernel_rfl) (by kernel_rfl) rfl (fun v=>(AMw v).trans (AWl v)) (AA Ac8 trivial)
def RM:Env:=PG.ext 140 false true (AG 2 AHu AHt AHs AMx)
theorem Kp:Ac Tryz.prog RM:=Env.Ad N0 ARQ ((by simp)) (fun _=>AL rfl rfl)
abbrev Jh:Hints:={ loop:=fun n=>match n with|0=>Ab 0 36 AA4 AA2 EI|1=>Ab 0 36 AA3 AA1 EH|_=>fun _ _ _=>none }
theorem ACw:∀ v,EH v=roundOf Tryz.prog RM Jh 2 0 36 (AB Tryz.f108 1) AA3 AA1 v:=by
 rintro⟨a0,a1,a2,a3,⟨⟩⟩
 kernel_rfl
theorem AR0:AD (AB Tryz.f108 1) 2=[]:=by kernel_rfl
theorem AR2:Aa Tryz.prog 0 (.loop (AB Tryz.f108 1)) (Jh.loop 1):=AX Kp (ACw) (AA AR0 trivial)
theorem ACx:∀ v,EI v=roundOf Tryz.prog RM Jh 1 0 36 (AB Tryz.f108 0) AA4 AA2 v:=by
 rintro⟨a0,a1,a2,a3,a4,⟨⟩⟩
 kernel_rfl
theorem AR1:AD (AB Tryz.f108 0) 1=[]:=by kernel_rfl
theorem AR3:Aa Tryz.prog 0 (.loop (AB Tryz.f108 0)) (Jh.loop 0):=AX Kp (ACx) (AA AR1 trivial)
theorem ANX:∀ v,NL v=AR Tryz.prog RM Jh Tryz.f108 TQ TP TO v:=by
 rintro⟨a0,⟨⟩⟩
 kernel_rfl
theorem AXG:AD (AW Tryz.f108) 0=[(0,AB Tryz.f108 0),(1,AB Tryz.f108 1)]:=by kernel_rfl
theorem AIL:AU Tryz.prog 108 (AG 1 TQ TP TO NM):=AK Kp Tryz.func108 (by kernel_rfl) (by kernel_rfl) rfl (fun v=>(AA5 v).trans (ANX v)) (AA AXG ⟨AR3,AR2,trivial⟩)
def Tv:Env:=RM.ext 108 true true (AG 1 TQ TP TO NM)
theorem RR:Ac Tryz.prog Tv:=Env.Ad Kp AIL (fun _=>AP rfl rfl) (fun _=>AL rfl rfl)
end
end Go.Pev
end
section
namespace Go.Pev
open Go.Proofs
noncomputable section
theorem AdE:Tryz.f116.body.isSome=true:=by kernel_rfl
theorem AdD : (Tryz.f116.name == "runtime.NumGoroutine") = false := by kernel_rfl
theorem AdC:loops (AW Tryz.f116)=0:=by kernel_rfl
def Na:Env:=Tv.ext 116 false false (Cy Tryz.prog Tv {} Tryz.f116)
theorem Kr:Ac Tryz.prog Na:=Env.Ad RR (Ch RR Tryz.func116 AdE AdD AdC) (by simp) (by simp)
abbrev KL:Hints:={ loop:=fun n=>match n with|0=>Ab 3 19 Np No CA|_=>fun _ _ _=>none }
theorem S5:∀ v,CA v=roundOf Tryz.prog Na KL 1 3 19 (AB Tryz.f147 0) Np No v:=by
 rintro⟨a0,a1,a2,a3,⟨⟩⟩
 kernel_rfl
theorem ACm:AD (AB Tryz.f147 0) 1=[]:=by kernel_rfl
theorem ACn:Aa Tryz.prog 3 (.loop (AB Tryz.f147 0)) (KL.loop 0):=AX Kr (S5) (AA ACm trivial)
theorem AAQ:∀ v,G2 v=AR Tryz.prog Na KL Tryz.f147 KK KJ KI v:=by
 rintro⟨a0,a1,⟨⟩⟩
 kernel_rfl
theorem AHb:AD (AW Tryz.f147) 0=[(0,AB Tryz.f147 0)]:=by kernel_rfl
theorem WR:AU Tryz.prog 147 (AG 2 KK KJ KI KM):=AK Kr Tryz.func147 (by kernel_rfl) (by kernel_rfl) rfl (fun v=>(Nq v).trans (AAQ v)) (AA AHb ⟨ACn,trivial⟩)
def HC:Env:=Na.E0 147 1 116 (AG 2 KK KJ KI KM)
theorem Gt:Ac Tryz.prog HC:=Env.Bb Kr WR (AL rfl rfl)
abbrev KY:Hints:={ loop:=fun n=>match n with|0=>Ab 3 42 Nv Nu C5|_=>fun _ _ _=>none }
theorem TM:∀ v,C5 v=roundOf Tryz.prog HC KY 1 3 42 (AB Tryz.f115 0) Nv Nu v:=by
 rintro⟨a0,a1,a2,a3,⟨⟩⟩
 kernel_rfl
theorem ACs:AD (AB Tryz.f115 0) 1=[]:=by kernel_rfl
theorem ACt:Aa Tryz.prog 3 (.loop (AB Tryz.f115 0)) (KY.loop 0):=AX Gt (TM) (AA ACs trivial)
theorem AAv:∀ v,G5 v=AR Tryz.prog HC KY Tryz.f115 KX KW KV v:=by
 rintro⟨a0,a1,⟨⟩⟩
 kernel_rfl
theorem AIH:AD (AW Tryz.f115) 0=[(0,AB Tryz.f115 0)]:=by kernel_rfl
theorem WW:AU Tryz.prog 115 (AG 2 KX KW KV IF):=AK Gt Tryz.func115 (by kernel_rfl) (by kernel_rfl) rfl (fun v=>(Nw v).trans (AAv v)) (AA AIH ⟨ACt,trivial⟩)
def HD:Env:=HC.E0 115 1 116 (JH (AG 2 KX KW KV IF))
theorem Gu:Ac Tryz.prog HD:=Env.Bb Gt (T5 WW) (ASs rfl rfl)
abbrev AGE:Hints:={ loop:=fun n=>match n with|0=>Ab 0 51 AKc AKb Dv|_=>fun _ _ _=>none,fp:=fun n=>match n with|10=>[[2],[6],[4],[],[5],[],[5]]|_=>[] }
theorem AKa:∀ v,Dv v=roundOf Tryz.prog HD AGE 1 0 51 (AB Tryz.f64 0) AKc AKb v:=by
 rintro⟨a0,a1,a2,a3,a4,a5,⟨⟩⟩
 kernel_rfl
theorem AY1:AD (AB Tryz.f64 0) 1=[]:=by kernel_rfl
theorem AY2:Aa Tryz.prog 0 (.loop (AB Tryz.f64 0)) (AGE.loop 0):=AX Gu (AKa) (AA AY1 trivial)
theorem AVE:∀ v,Po v=AR Tryz.prog HD AGE Tryz.f64 AGD AGC AGB v:=by
 rintro⟨a0,a1,⟨⟩⟩
 kernel_rfl
theorem AcH:AD (AW Tryz.f64) 0=[(0,AB Tryz.f64 0)]:=by kernel_rfl
theorem APf:AU Tryz.prog 64 (AG 2 AGD AGC AGB UD):=AK Gu Tryz.func64 (by kernel_rfl) (by kernel_rfl) rfl (fun v=>(Yv v).trans (AVE v)) (AA AcH ⟨AY2,trivial⟩)
def AI5:Env:=HD.ext 64 true true (AG 2 AGD AGC AGB UD)
theorem ABn:Ac Tryz.prog AI5:=Env.Ad Gu APf (fun _=>AP rfl rfl) (fun _=>AL rfl rfl)
abbrev AY4:Hints:={  }
theorem APi:∀ v,LY v=AR Tryz.prog AI5 AY4 Tryz.f107 Yz Yy Yx v:=by
 rintro⟨a0,a1,a2,⟨⟩⟩
 kernel_rfl
theorem AY3:AD (AW Tryz.f107) 0=[]:=by kernel_rfl
theorem AKd:AU Tryz.prog 107 (AG 3 Yz Yy Yx OJ):=AK ABn Tryz.func107 (by kernel_rfl) (by kernel_rfl) rfl (fun v=>(R9 v).trans (APi v)) (AA AY3 trivial)
def ABo:Env:=AI5.ext 107 true true (AG 3 Yz Yy Yx OJ)
theorem Vq:Ac Tryz.prog ABo:=Env.Ad ABn AKd (fun _=>AP rfl rfl) (fun _=>AL rfl rfl)
abbrev AcE:Hints:={ fp:=fun n=>match n with|9=>[[],[20],[],[28],[],[],[20],[20],[],[28],[28],[],[],[60],[],[]]|_=>[] }
theorem AU4:∀ v,Pd v=AR Tryz.prog ABo AcE Tryz.f62 AF4 AF3 AF2 v:=by
 rintro⟨a0,a1,a2,a3,⟨⟩⟩
 kernel_rfl
theorem AcD:AD (AW Tryz.f62) 0=[]:=by kernel_rfl
theorem API:AU Tryz.prog 62 (AG 4 AF4 AF3 AF2 Pe):=AK Vq Tryz.func62 (by kernel_rfl) (by kernel_rfl) rfl (fun v=>(YY v).trans (AU4 v)) (AA AcD trivial)
def AI3:Env:=ABo.ext 62 true true (AG 4 AF4 AF3 AF2 Pe)
theorem ABl:Ac Tryz.prog AI3:=Env.Ad Vq API (fun _=>AP rfl rfl) (fun _=>AL rfl rfl)
theorem AYt:Tryz.f142.body.isSome=true:=by kernel_rfl
theorem AYs : (Tryz.f142.name == "runtime.NumGoroutine") = false := by kernel_rfl
theorem AYr:loops (AW Tryz.f142)=0:=by kernel_rfl
theorem AeE:Tryz.f141.body.isSome=true:=by kernel_rfl
theorem AeD : (Tryz.f141.name == "runtime.NumGoroutine") = false := by kernel_rfl
theorem AeC:loops (AW Tryz.f141)=0:=by kernel_rfl
def PC:Env:=AI3.ext 142 false false (Cy Tryz.prog AI3 { fp:=fun n=>match n with|0=>[[],[],[0],[0],[0],[],[2],[2],[2],[],[],[2],[2],[3]]|_=>[] } Tryz.f142)
theorem Nz:Ac Tryz.prog PC:=Env.Ad ABl (Ch ABl Tryz.func142 AYt AYs AYr) (by simp) (by simp)
def Jn:Env:=PC.ext 141 false false (Cy Tryz.prog PC {} Tryz.f141)
theorem Ge:Ac Tryz.prog Jn:=Env.Ad Nz (Ch Nz Tryz.func141 AeE AeD AeC) (by simp) (by simp)
abbrev Y9:Hints:={ loop:=fun n=>match n with|0=>Ab 2 127 AZL AZH Le|1=>Ab 2 127 AZK AZG Ld|2=>Ab 2 127 AZJ AZF Lc|_=>fun _ _ _=>none,fp:=fun n=>match n with|29=>[[],[],[],[2],[2],[2],[],[2],[2],[2],[],[0],[0],[0],[1],[0],[0],[0],[1]]|_=>[] }
theorem AVK:∀ v,Lc v=roundOf Tryz.prog Jn Y9 3 2 127 (AB Tryz.f109 2) AZJ AZF v:=by
 rintro⟨a0,a1,a2,a3,a4,a5,a6,a7,a8,a9,a10,a11,⟨⟩⟩
 kernel_rfl
theorem Ad6:AD (AB Tryz.f109 2) 3=[]:=by kernel_rfl
theorem Ad9:Aa Tryz.prog 2 (.loop (AB Tryz.f109 2)) (Y9.loop 2):=AX Ge (AVK) (AA Ad6 trivial)
theorem AVL:∀ v,Ld v=roundOf Tryz.prog Jn Y9 2 2 127 (AB Tryz.f109 1) AZK AZG v:=by
 rintro⟨a0,a1,a2,a3,a4,a5,a6,a7,a8,a9,a10,a11,a12,⟨⟩⟩
 kernel_rfl
theorem Ad7:AD (AB Tryz.f109 1) 2=[]:=by kernel_rfl
theorem AeA:Aa Tryz.prog 2 (.loop (AB Tryz.f109 1)) (Y9.loop 1):=AX Ge (AVL) (AA Ad7 trivial)
theorem AVM:∀ v,Le v=roundOf Tryz.prog Jn Y9 1 2 127 (AB Tryz.f109 0) AZL AZH v:=by
 rintro⟨a0,a1,a2,a3,a4,a5,a6,a7,a8,a9,a10,a11,a12,⟨⟩⟩
 kernel_rfl
theorem Ad8:AD (AB Tryz.f109 0) 1=[]:=by kernel_rfl
theorem AeB:Aa Tryz.prog 2 (.loop (AB Tryz.f109 0)) (Y9.loop 0):=AX Ge (AVM) (AA Ad8 trivial)
theorem AcS:∀ v,ATG v=AR Tryz.prog Jn Y9 Tryz.f109 AZM AZI AZE v:=by
 rintro⟨a0,a1,a2,a3,a4,a5,a6,a7,a8,a9,a10,⟨⟩⟩
 kernel_rfl
theorem Aeo:AD (AW Tryz.f109) 0=[(0,AB Tryz.f109 0),(1,AB Tryz.f109 1),(2,AB Tryz.f109 2)]:=by kernel_rfl
theorem AZD:AU Tryz.prog 109 (AG 4 AZM AZI AZE pat):=AK Ge Tryz.func109 (by kernel_rfl) (by kernel_rfl) rfl (fun v=>(AZN v).trans (AcS v)) (AA Aeo ⟨AeB,AeA,Ad9,trivial⟩)
def AUC:Env:=Jn.ext 109 false true (AG 4 AZM AZI AZE pat)
theorem ABq:Ac Tryz.prog AUC:=Env.Ad Ge AZD ((by simp)) (fun _=>AL rfl rfl)
abbrev APN:Hints:={ loop:=fun n=>match n with|0=>Ab 0 81 AS8 AS7 D3|_=>fun _ _ _=>none,fp:=fun n=>match n with|9=>[[],[4],[4],[4],[],[4],[4],[4],[1],[3],[]]|5=>[[0],[0],[0],[0],[],[],[0],[0],[],[],[],[],[16],[],[14],[14],[],[0],[0],[],[],[18],[]]|_=>[] }
theorem APJ:∀ v,D3 v=roundOf Tryz.prog AUC APN 1 0 81 (AB Tryz.f60 0) AS8 AS7 v:=by
 rintro⟨a0,a1,a2,a3,a4,a5,a6,a7,a8,a9,a10,a11,a12,a13,a14,a15,a16,a17,a18,⟨⟩⟩
 kernel_rfl
theorem AcF:AD (AB Tryz.f60 0) 1=[]:=by kernel_rfl
theorem AcG:Aa Tryz.prog 0 (.loop (AB Tryz.f60 0)) (APN.loop 0):=AX ABq (APJ) (AA AcF trivial)
theorem AYv:∀ v,Yb v=AR Tryz.prog AUC APN Tryz.f60 APM APL APK v:=by
 rintro⟨a0,a1,a2,⟨⟩⟩
 kernel_rfl
theorem Ad2:AD (AW Tryz.f60) 0=[(0,AB Tryz.f60 0)]:=by kernel_rfl
theorem AU5:AU Tryz.prog 60 (AG 3 APM APL APK Yc):=AK ABq Tryz.func60 (by kernel_rfl) (by kernel_rfl) rfl (fun v=>(AF6 v).trans (AYv v)) (AA Ad2 ⟨AcG,trivial⟩)
def AI4:Env:=AUC.ext 60 true true (AG 3 APM APL APK Yc)
theorem Ti:Ac Tryz.prog AI4:=Env.Ad ABq AU5 (fun _=>AP rfl rfl) (fun _=>AL rfl rfl)
abbrev AGJ:Hints:={ loop:=fun n=>match n with|0=>Ab 0 55 AKh AKg Y1|_=>fun _ _ _=>none,fp:=fun n=>match n with|12=>[[20],[],[22],[],[5,24],[7],[]]|_=>[] }
theorem AKf:∀ v,Y1 v=roundOf Tryz.prog AI4 AGJ 1 0 55 (AB Tryz.f66 0) AKh AKg v:=by
 rintro⟨a0,a1,a2,a3,a4,a5,a6,a7,a8,⟨⟩⟩
 kernel_rfl
theorem AY6:AD (AB Tryz.f66 0) 1=[]:=by kernel_rfl
theorem AY7:Aa Tryz.prog 0 (.loop (AB Tryz.f66 0)) (AGJ.loop 0):=AX Ti (AKf) (AA AY6 trivial)
theorem AVG:∀ v,AGK v=AR Tryz.prog AI4 AGJ Tryz.f66 AGI AGH AGG v:=by
 rintro⟨a0,a1,⟨⟩⟩
 kernel_rfl
theorem AcI:AD (AW Tryz.f66) 0=[(0,AB Tryz.f66 0)]:=by kernel_rfl
theorem APk:AU Tryz.prog 66 (AG 2 AGI AGH AGG AS9):=AK Ti Tryz.func66 (by kernel_rfl) (by kernel_rfl) rfl (fun v=>(AY8 v).trans (AVG v)) (AA AcI ⟨AY7,trivial⟩)
def AI6:Env:=AI4.ext 66 true true (AG 2 AGI AGH AGG AS9)
theorem ABp:Ac Tryz.prog AI6:=Env.Ad Ti APk (fun _=>AP rfl rfl) (fun _=>AL rfl rfl)
abbrev AXf:Hints:={  }
theorem ANw:∀ v,Te v=AR Tryz.prog AI6 AXf Tryz.f58 Td Tc Tb v:=by
 rintro⟨⟨⟩⟩
 kernel_rfl
theorem AXe:AD (AW Tryz.f58) 0=[]:=by kernel_rfl
theorem AIt:AU Tryz.prog 58 (AG 0 Td Tc Tb Iw):=AK ABp Tryz.func58 (by kernel_rfl) (by kernel_rfl) rfl (fun v=>(ASW v).trans (ANw v)) (AA AXe trivial)
def Tz:Env:=AI6.ext 58 true true (AG 0 Td Tc Tb Iw)
theorem RV:Ac Tryz.prog Tz:=Env.Ad ABp AIt (fun _=>AP rfl rfl) (fun _=>AL rfl rfl)
end
end Go.Pev
end
section
namespace Go.Pev
open Go.Proofs
noncomputable section
abbrev AWp:Hints:={  }
theorem AM1:∀ v,NI v=AR Tryz.prog Tz AWp Tryz.f59 S9 S8 S7 v:=by
 rintro⟨a0,a1,⟨⟩⟩
 kernel_rfl
theorem AWo:AD (AW Tryz.f59) 0=[]:=by kernel_rfl
theorem AHy:AU Tryz.prog 59 (AG 2 S9 S8 S7 NJ):=AK RV Tryz.func59 (by kernel_rfl) (by kernel_rfl) rfl (fun v=>(AAS v).trans (AM1 v)) (AA AWo trivial)
def AEs:Env:=Tz.ext 59 true true (AG 2 S9 S8 S7 NJ)
theorem AJD:Ac Tryz.prog AEs:=Env.Ad RV AHy (fun _=>AP rfl rfl) (fun _=>AL rfl rfl)
abbrev Ya:Hints:={ fp:=fun n=>match n with|5=>[[0],[0],[],[0],[0],[21],[],[],[25]]|_=>[] }
theorem R1:∀ v,Em v=AR Tryz.prog AEs Ya Tryz.f9 Hf He Hd v:=by
 rintro⟨a0,a1,a2,⟨⟩⟩
 kernel_rfl
theorem YZ:AD (AW Tryz.f9) 0=[]:=by kernel_rfl
theorem Pg:AU Tryz.prog 9 (AG 3 Hf He Hd DZ):=AK AJD Tryz.func9 (by kernel_rfl) (by kernel_rfl) rfl (fun v=>(Kw v).trans (R1 v)) (AA YZ trivial)
end
end Go.Pev
end
section

end
