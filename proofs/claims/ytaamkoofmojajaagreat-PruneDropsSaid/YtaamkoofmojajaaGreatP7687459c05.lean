/- A part of the proofs of this seat: G24hP7 G24hP8 G24hP9 G24hP10 G24hP11 G24hP. -/
import Derived.Test.YtaamkoofmojajaaGreatPeeeb7d5d56
set_option linter.unusedVariables false
set_option linter.unusedSimpArgs false
set_option linter.unusedSectionVars false
set_option maxRecDepth 100000
section
namespace Go.Pev
open Go.Proofs
noncomputable section
abbrev Rg:Hints:={ loop:=fun n=>match n with|0=>Ab 0 47 Xn Xm D9|_=>fun _ _ _=>none,fp:=fun n=>match n with|6=>[[],[0],[0],[],[],[],[],[0],[0],[],[],[],[],[],[],[3,4],[]]|_=>[] }
theorem ACK:∀ v,D9 v=roundOf Tryz.prog RO Rg 1 0 47 (AB Tryz.f78 0) Xn Xm v:=by
 rintro⟨a0,a1,a2,a3,a4,⟨⟩⟩
 kernel_rfl
theorem AOf:AD (AB Tryz.f78 0) 1=[]:=by kernel_rfl
theorem AOg:Aa Tryz.prog 0 (.loop (AB Tryz.f78 0)) (Rg.loop 0):=AX Mf (ACK) (AA AOf trivial)
theorem AJy:∀ v,Mi v=AS Tryz.prog RO Rg Tryz.f78 Rf Re Rd v:=by
 rintro⟨a0,a1,⟨⟩⟩
 kernel_rfl
theorem AUw:AD (AW Tryz.f78) 0=[(0,AB Tryz.f78 0)]:=by kernel_rfl
theorem AFV:AT Tryz.prog 78 (AG 2 Rf Re Rd Mj):=AK Mf Tryz.func78 (by kernel_rfl) (by kernel_rfl) rfl (fun v=>(Xo v).trans (AJy v)) (AA AUw ⟨AOg,trivial⟩)
def NZ:Env:=RO.ext 78 true true (AG 2 Rf Re Rd Mj)
theorem Kg:Ac Tryz.prog NZ:=Env.Ad Mf AFV (fun _=>AP rfl rfl) (fun _=>AL rfl rfl)
abbrev YE:Hints:={ loop:=fun n=>match n with|0=>Ab 0 38 ADp ADo ET|_=>fun _ _ _=>none,fp:=fun n=>match n with|6=>[[0],[0],[],[],[],[2],[2],[],[],[],[]]|_=>[] }
theorem AF7:∀ v,ET v=roundOf Tryz.prog NZ YE 1 0 38 (AB Tryz.f55 0) ADp ADo v:=by
 rintro⟨a0,a1,a2,a3,a4,⟨⟩⟩
 kernel_rfl
theorem AVJ:AD (AB Tryz.f55 0) 1=[]:=by kernel_rfl
theorem AVK:Aa Tryz.prog 0 (.loop (AB Tryz.f55 0)) (YE.loop 0):=AX Kg (AF7) (AA AVJ trivial)
theorem APB:∀ v,PU v=AS Tryz.prog NZ YE Tryz.f55 YD YC YB v:=by
 rintro⟨a0,a1,⟨⟩⟩
 kernel_rfl
theorem AY8:AD (AW Tryz.f55) 0=[(0,AB Tryz.f55 0)]:=by kernel_rfl
theorem AKZ:AT Tryz.prog 55 (AG 2 YD YC YB Ro):=AK Kg Tryz.func55 (by kernel_rfl) (by kernel_rfl) rfl (fun v=>(ADq v).trans (APB v)) (AA AY8 ⟨AVK,trivial⟩)
def Q3:Env:=NZ.ext 55 true true (AG 2 YD YC YB Ro)
theorem MY:Ac Tryz.prog Q3:=Env.Ad Kg AKZ (fun _=>AP rfl rfl) (fun _=>AL rfl rfl)
abbrev AIC:Hints:={ loop:=fun n=>match n with|0=>Ab 0 18 ANI ANH H3|_=>fun _ _ _=>none,fp:=fun n=>match n with|4=>[[],[],[],[],[0],[]]|_=>[] }
theorem ANG:∀ v,H3 v=roundOf Tryz.prog Q3 AIC 1 0 18 (AB Tryz.f70 0) ANI ANH v:=by
 rintro⟨a0,a1,a2,a3,⟨⟩⟩
 kernel_rfl
theorem AbL:AD (AB Tryz.f70 0) 1=[]:=by kernel_rfl
theorem AbM:Aa Tryz.prog 0 (.loop (AB Tryz.f70 0)) (AIC.loop 0):=AX MY (ANG) (AA AbL trivial)
theorem AXE:∀ v,XG v=AS Tryz.prog Q3 AIC Tryz.f70 AIB AIA AH9 v:=by
 rintro⟨a0,a1,⟨⟩⟩
 kernel_rfl
theorem Adj:AD (AW Tryz.f70) 0=[(0,AB Tryz.f70 0)]:=by kernel_rfl
theorem ARt:AT Tryz.prog 70 (AG 2 AIB AIA AH9 AAY):=AK MY Tryz.func70 (by kernel_rfl) (by kernel_rfl) rfl (fun v=>(ANJ v).trans (AXE v)) (AA Adj ⟨AbM,trivial⟩)
def RJ:Env:=Q3.ext 70 true true (AG 2 AIB AIA AH9 AAY)
theorem Kq:Ac Tryz.prog RJ:=Env.Ad MY ARt (fun _=>AP rfl rfl) (fun _=>AL rfl rfl)
abbrev JM:Hints:={ loop:=fun n=>match n with|0=>Ab 0 39 Yr Yp EE|1=>Ab 0 39 Yq Yo DM|_=>fun _ _ _=>none }
theorem ACU:∀ v,DM v=roundOf Tryz.prog RJ JM 2 0 39 (AB Tryz.f69 1) Yq Yo v:=by
 rintro⟨a0,a1,a2,a3,a4,⟨⟩⟩
 kernel_rfl
theorem APs:AD (AB Tryz.f69 1) 2=[]:=by kernel_rfl
theorem APu:Aa Tryz.prog 0 (.loop (AB Tryz.f69 1)) (JM.loop 1):=AX Kq (ACU) (AA APs trivial)
theorem ACV:∀ v,EE v=roundOf Tryz.prog RJ JM 1 0 39 (AB Tryz.f69 0) Yr Yp v:=by
 rintro⟨a0,a1,a2,a3,⟨⟩⟩
 kernel_rfl
theorem APt:AD (AB Tryz.f69 0) 1=[(1,AB Tryz.f69 1)]:=by kernel_rfl
theorem APv:Aa Tryz.prog 0 (.loop (AB Tryz.f69 0)) (JM.loop 0):=AX Kq (ACV) (AA APt ⟨APu,trivial⟩)
theorem AKs:∀ v,Mr v=AS Tryz.prog RJ JM Tryz.f69 Rz Ry Rx v:=by
 rintro⟨a0,a1,⟨⟩⟩
 kernel_rfl
theorem AVf:AD (AW Tryz.f69) 0=[(0,AB Tryz.f69 0)]:=by kernel_rfl
theorem AGU:AT Tryz.prog 69 (AG 2 Rz Ry Rx Pf):=AK Kq Tryz.func69 (by kernel_rfl) (by kernel_rfl) rfl (fun v=>(Ys v).trans (AKs v)) (AA AVf ⟨APv,trivial⟩)
def Tf:Env:=RJ.ext 69 true true (AG 2 Rz Ry Rx Pf)
theorem Q4:Ac Tryz.prog Tf:=Env.Ad Kq AGU (fun _=>AP rfl rfl) (fun _=>AL rfl rfl)
abbrev AWh:Hints:={ fp:=fun n=>match n with|3=>[[0],[0],[0],[],[],[12],[],[],[3],[]]|_=>[] }
theorem AMi:∀ v,JT v=AS Tryz.prog Tf AWh Tryz.f41 Ss Sr Sq v:=by
 rintro⟨a0,a1,⟨⟩⟩
 kernel_rfl
theorem AWg:AD (AW Tryz.f41) 0=[]:=by kernel_rfl
theorem AHb:AT Tryz.prog 41 (AG 2 Ss Sr Sq NG):=AK Q4 Tryz.func41 (by kernel_rfl) (by kernel_rfl) rfl (fun v=>(OV v).trans (AMi v)) (AA AWg trivial)
def Tm:Env:=Tf.ext 41 true true (AG 2 Ss Sr Sq NG)
theorem RH:Ac Tryz.prog Tm:=Env.Ad Q4 AHb (fun _=>AP rfl rfl) (fun _=>AL rfl rfl)
abbrev AdM:Hints:={  }
theorem AWk:∀ v,XA v=AS Tryz.prog Tm AdM Tryz.f168 AHh AHg AHf v:=by
 rintro⟨a0,a1,⟨⟩⟩
 kernel_rfl
theorem AdL:AD (AW Tryz.f168) 0=[]:=by kernel_rfl
theorem ARO:AT Tryz.prog 168 (AG 2 AHh AHg AHf Dx):=AK RH Tryz.func168 (by kernel_rfl) (by kernel_rfl) rfl (fun v=>(AMl v).trans (AWk v)) (AA AdL trivial)
def RI:Env:=Tm.ext 168 true true (AG 2 AHh AHg AHf Dx)
theorem Ko:Ac Tryz.prog RI:=Env.Ad RH ARO (fun _=>AP rfl rfl) (fun _=>AL rfl rfl)
abbrev AAP:Hints:={ loop:=fun n=>match n with|0=>Ab 1 49 AUC AUA NI|1=>Ab 1 49 AUB AT9 NH|_=>fun _ _ _=>none,fp:=fun n=>match n with|4=>[[],[],[],[],[],[],[0],[0],[],[],[],[0],[0],[],[]]|6=>[[],[],[],[],[],[],[],[],[0],[0],[],[],[0],[0],[0],[1],[0],[1]]|_=>[] }
theorem ARf:∀ v,NH v=roundOf Tryz.prog RI AAP 2 1 49 (AB Tryz.f162 1) AUB AT9 v:=by
 rintro⟨a0,a1,a2,a3,a4,⟨⟩⟩
 kernel_rfl
theorem AdV:AD (AB Tryz.f162 1) 2=[]:=by kernel_rfl
theorem AdX:Aa Tryz.prog 1 (.loop (AB Tryz.f162 1)) (AAP.loop 1):=AX Ko (ARf) (AA AdV trivial)
theorem ARg:∀ v,NI v=roundOf Tryz.prog RI AAP 1 1 49 (AB Tryz.f162 0) AUC AUA v:=by
 rintro⟨a0,a1,a2,a3,⟨⟩⟩
 kernel_rfl
theorem AdW:AD (AB Tryz.f162 0) 1=[(1,AB Tryz.f162 1)]:=by kernel_rfl
theorem AdY:Aa Tryz.prog 1 (.loop (AB Tryz.f162 0)) (AAP.loop 0):=AX Ko (ARg) (AA AdW ⟨AdX,trivial⟩)
theorem Aa0:∀ v,AHr v=AS Tryz.prog RI AAP Tryz.f162 ARj ARi ARh v:=by
 rintro⟨a0,a1,a2,⟨⟩⟩
 kernel_rfl
theorem Ae4:AD (AW Tryz.f162) 0=[(0,AB Tryz.f162 0)]:=by kernel_rfl
theorem AWu:AT Tryz.prog 162 (AG 3 ARj ARi ARh AWv):=AK Ko Tryz.func162 (by kernel_rfl) (by kernel_rfl) rfl (fun v=>(AUD v).trans (Aa0 v)) (AA Ae4 ⟨AdY,trivial⟩)
def AJX:Env:=RI.ext 162 false true (AG 3 ARj ARi ARh AWv)
theorem To:Ac Tryz.prog AJX:=Env.Ad Ko AWu ((by simp)) (fun _=>AL rfl rfl)
abbrev AF0:Hints:={ loop:=fun n=>match n with|0=>Ab 1 76 AKN AKM JH|_=>fun _ _ _=>none,fp:=fun n=>match n with|6=>[[],[],[],[],[],[],[],[],[],[],[],[],[0],[0],[],[],[],[],[0],[0],[0],[1],[0],[1]]|5=>[[],[],[],[],[0],[0],[],[],[],[],[0],[0],[],[]]|3=>[[],[],[],[],[],[],[],[],[],[0],[0],[],[],[],[],[],[0],[0],[],[]]|_=>[] }
theorem AKL:∀ v,JH v=roundOf Tryz.prog AJX AF0 1 1 76 (AB Tryz.f189 0) AKN AKM v:=by
 rintro⟨a0,a1,a2,a3,⟨⟩⟩
 kernel_rfl
theorem AY1:AD (AB Tryz.f189 0) 1=[]:=by kernel_rfl
theorem AY2:Aa Tryz.prog 1 (.loop (AB Tryz.f189 0)) (AF0.loop 0):=AX To (AKL) (AA AY1 trivial)
theorem AVF:∀ v,Wt v=AS Tryz.prog AJX AF0 Tryz.f189 AFz AFy AFx v:=by
 rintro⟨a0,a1,a2,a3,⟨⟩⟩
 kernel_rfl
theorem Acb:AD (AW Tryz.f189) 0=[(0,AB Tryz.f189 0)]:=by kernel_rfl
theorem AO3:AT Tryz.prog 189 (AG 4 AFz AFy AFx ADi):=AK To Tryz.func189 (by kernel_rfl) (by kernel_rfl) rfl (fun v=>(AKO v).trans (AVF v)) (AA Acb ⟨AY2,trivial⟩)
def Q2:Env:=AJX.ext 189 false true (AG 4 AFz AFy AFx ADi)
theorem Kl:Ac Tryz.prog Q2:=Env.Ad To AO3 ((by simp)) (fun _=>AL rfl rfl)
abbrev QT:Hints:={ loop:=fun n=>match n with|0=>Ab 1 56 AM7 AM5 JX|1=>Ab 1 56 AM6 AM4 JW|_=>fun _ _ _=>none,fp:=fun n=>match n with|10=>[[],[],[],[],[],[],[],[],[],[],[0],[0],[],[],[0],[0],[0],[1],[0],[1]]|_=>[] }
theorem AM2:∀ v,JW v=roundOf Tryz.prog Q2 QT 2 1 56 (AB Tryz.f163 1) AM6 AM4 v:=by
 rintro⟨a0,a1,a2,a3,⟨⟩⟩
 kernel_rfl
theorem AbE:AD (AB Tryz.f163 1) 2=[]:=by kernel_rfl
theorem AbG:Aa Tryz.prog 1 (.loop (AB Tryz.f163 1)) (QT.loop 1):=AX Kl (AM2) (AA AbE trivial)
theorem AM3:∀ v,JX v=roundOf Tryz.prog Q2 QT 1 1 56 (AB Tryz.f163 0) AM7 AM5 v:=by
 rintro⟨a0,a1,a2,a3,a4,⟨⟩⟩
 kernel_rfl
theorem AbF:AD (AB Tryz.f163 0) 1=[]:=by kernel_rfl
theorem AbH:Aa Tryz.prog 1 (.loop (AB Tryz.f163 0)) (QT.loop 0):=AX Kl (AM3) (AA AbF trivial)
theorem AXA:∀ v,XD v=AS Tryz.prog Q2 QT Tryz.f163 AH3 AH2 AH1 v:=by
 rintro⟨a0,a1,a2,⟨⟩⟩
 kernel_rfl
theorem Adh:AD (AW Tryz.f163) 0=[(0,AB Tryz.f163 0),(1,AB Tryz.f163 1)]:=by kernel_rfl
theorem ARr:AT Tryz.prog 163 (AG 3 AH3 AH2 AH1 AEY):=AK Kl Tryz.func163 (by kernel_rfl) (by kernel_rfl) rfl (fun v=>(AM8 v).trans (AXA v)) (AA Adh ⟨AbH,AbG,trivial⟩)
def XR:Env:=Q2.ext 163 false true (AG 3 AH3 AH2 AH1 AEY)
theorem PE:Ac Tryz.prog XR:=Env.Ad Kl ARr ((by simp)) (fun _=>AL rfl rfl)
abbrev ABc:Hints:={ loop:=fun n=>match n with|0=>Ab 1 65 AEw AEv Fv|_=>fun _ _ _=>none,fp:=fun n=>match n with|10=>[[],[],[],[],[],[],[],[],[],[],[0],[0],[],[],[0],[0],[0],[1],[0],[1]]|_=>[] }
theorem AI4:∀ v,Fv v=roundOf Tryz.prog XR ABc 1 1 65 (AB Tryz.f164 0) AEw AEv v:=by
 rintro⟨a0,a1,a2,a3,a4,a5,⟨⟩⟩
 kernel_rfl
theorem AX4:AD (AB Tryz.f164 0) 1=[]:=by kernel_rfl
theorem AX5:Aa Tryz.prog 1 (.loop (AB Tryz.f164 0)) (ABc.loop 0):=AX PE (AI4) (AA AX4 trivial)
theorem ASs:∀ v,Qs v=AS Tryz.prog XR ABc Tryz.f164 ABb ABa ABZ v:=by
 rintro⟨a0,a1,a2,⟨⟩⟩
 kernel_rfl
theorem Ab1:AD (AW Tryz.f164) 0=[(0,AB Tryz.f164 0)]:=by kernel_rfl
theorem AOD:AT Tryz.prog 164 (AG 3 ABb ABa ABZ TT):=AK PE Tryz.func164 (by kernel_rfl) (by kernel_rfl) rfl (fun v=>(AEx v).trans (ASs v)) (AA Ab1 ⟨AX5,trivial⟩)
def ACG:Env:=XR.ext 164 false true (AG 3 ABb ABa ABZ TT)
theorem Vw:Ac Tryz.prog ACG:=Env.Ad PE AOD ((by simp)) (fun _=>AL rfl rfl)
abbrev AV8:Hints:={ fp:=fun n=>match n with|1=>[[],[],[0],[0],[],[],[0],[0],[]]|_=>[] }
theorem AME:∀ v,Mz v=AS Tryz.prog ACG AV8 Tryz.f205 SO SN SM v:=by
 rintro⟨a0,a1,a2,a3,⟨⟩⟩
 kernel_rfl
theorem AV7:AD (AW Tryz.f205) 0=[]:=by kernel_rfl
theorem AG7:AT Tryz.prog 205 (AG 4 SO SN SM J8):=AK Vw Tryz.func205 (by kernel_rfl) (by kernel_rfl) rfl (fun v=>(Zj v).trans (AME v)) (AA AV7 trivial)
def Th:Env:=ACG.ext 205 false true (AG 4 SO SN SM J8)
theorem Q8:Ac Tryz.prog Th:=Env.Ad Vw AG7 ((by simp)) (fun _=>AL rfl rfl)
abbrev AWQ:Hints:={  }
theorem AMW:∀ v,M7 v=AS Tryz.prog Th AWQ Tryz.f193 Sc Sb Sa v:=by
 rintro⟨a0,a1,a2,a3,a4,⟨⟩⟩
 kernel_rfl
theorem AWP:AD (AW Tryz.f193) 0=[]:=by kernel_rfl
theorem AHP:AT Tryz.prog 193 (AG 5 Sc Sb Sa KF):=AK Q8 Tryz.func193 (by kernel_rfl) (by kernel_rfl) rfl (fun v=>(Zs v).trans (AMW v)) (AA AWP trivial)
def Tj:Env:=Th.ext 193 false true (AG 5 Sc Sb Sa KF)
theorem RA:Ac Tryz.prog Tj:=Env.Ad Q8 AHP ((by simp)) (fun _=>AL rfl rfl)
end
end Go.Pev
end
section
namespace Go.Pev
open Go.Proofs
noncomputable section
abbrev AWU:Hints:={  }
theorem AMY:∀ v,NA v=AS Tryz.prog Tj AWU Tryz.f192 Si Sh Sg v:=by
 rintro⟨a0,a1,a2,⟨⟩⟩
 kernel_rfl
theorem AWT:AD (AW Tryz.f192) 0=[]:=by kernel_rfl
theorem AHS:AT Tryz.prog 192 (AG 3 Si Sh Sg KG):=AK RA Tryz.func192 (by kernel_rfl) (by kernel_rfl) rfl (fun v=>(Zt v).trans (AMY v)) (AA AWT trivial)
def Tl:Env:=Tj.ext 192 false true (AG 3 Si Sh Sg KG)
theorem RC:Ac Tryz.prog Tl:=Env.Ad RA AHS ((by simp)) (fun _=>AL rfl rfl)
abbrev AZb:Hints:={  }
theorem AP5:∀ v,Ph v=AS Tryz.prog Tl AZb Tryz.f165 Y2 Y1 Y0 v:=by
 rintro⟨a0,a1,a2,⟨⟩⟩
 kernel_rfl
theorem AZa:AD (AW Tryz.f165) 0=[]:=by kernel_rfl
theorem AKw:AT Tryz.prog 165 (AG 3 Y2 Y1 Y0 R3):=AK RC Tryz.func165 (by kernel_rfl) (by kernel_rfl) rfl (fun v=>(AD7 v).trans (AP5 v)) (AA AZa trivial)
def Q6:Env:=Tl.ext 165 false true (AG 3 Y2 Y1 Y0 R3)
theorem Ma:Ac Tryz.prog Q6:=Env.Ad RC AKw ((by simp)) (fun _=>AL rfl rfl)
abbrev APZ:Hints:={ loop:=fun n=>match n with|0=>Ab 1 32 ATY ATX PZ|_=>fun _ _ _=>none,fp:=fun n=>match n with|3=>[[],[],[],[],[],[],[0],[0],[],[],[0],[0],[0],[1],[0],[1]]|_=>[] }
theorem APV:∀ v,PZ v=roundOf Tryz.prog Q6 APZ 1 1 32 (AB Tryz.f166 0) ATY ATX v:=by
 rintro⟨a0,a1,a2,⟨⟩⟩
 kernel_rfl
theorem Ack:AD (AB Tryz.f166 0) 1=[]:=by kernel_rfl
theorem Acl:Aa Tryz.prog 1 (.loop (AB Tryz.f166 0)) (APZ.loop 0):=AX Ma (APV) (AA Ack trivial)
theorem AZI:∀ v,AGE v=AS Tryz.prog Q6 APZ Tryz.f166 APY APX APW v:=by
 rintro⟨a0,a1,a2,⟨⟩⟩
 kernel_rfl
theorem Aea:AD (AW Tryz.f166) 0=[(0,AB Tryz.f166 0)]:=by kernel_rfl
theorem AVU:AT Tryz.prog 166 (AG 3 APY APX APW AVW):=AK Ma Tryz.func166 (by kernel_rfl) (by kernel_rfl) rfl (fun v=>(ATZ v).trans (AZI v)) (AA Aea ⟨Acl,trivial⟩)
def O9:Env:=Q6.ext 166 false true (AG 3 APY APX APW AVW)
theorem HQ:Ac Tryz.prog O9:=Env.Ad Ma AVU ((by simp)) (fun _=>AL rfl rfl)
abbrev Cr:Hints:={ loop:=fun n=>match n with|0=>Ab 1 133 UX US CL|1=>Ab 1 133 UW UR GN|2=>Ab 1 133 UU UQ EZ|3=>Ab 1 133 UT UP EY|_=>fun _ _ _=>none,fp:=fun n=>match n with|11=>[[],[],[],[],[],[],[],[],[0],[0],[],[],[0],[0],[0],[1],[0],[1]]|5=>[[],[],[],[],[],[],[0],[0],[],[],[],[0],[0],[],[],[]]|17=>[[],[],[],[],[],[],[],[],[0],[0],[],[],[0],[0],[0],[1],[0],[1]]|16=>[[],[],[0],[0],[],[],[],[0],[0],[],[]]|23=>[[],[],[],[],[],[],[],[],[0],[0],[],[],[0],[0],[0],[1],[0],[1]]|22=>[[],[],[0],[0],[],[],[],[0],[0],[],[]]|_=>[] }
theorem ZO:∀ v,EY v=roundOf Tryz.prog O9 Cr 4 1 133 (AB Tryz.f167 3) UT UP v:=by
 rintro⟨a0,a1,a2,a3,a4,a5,⟨⟩⟩
 kernel_rfl
theorem ALb:AD (AB Tryz.f167 3) 4=[]:=by kernel_rfl
theorem ALf:Aa Tryz.prog 1 (.loop (AB Tryz.f167 3)) (Cr.loop 3):=AX HQ (ZO) (AA ALb trivial)
theorem ZP:∀ v,EZ v=roundOf Tryz.prog O9 Cr 3 1 133 (AB Tryz.f167 2) UU UQ v:=by
 rintro⟨a0,a1,a2,a3,a4,a5,⟨⟩⟩
 kernel_rfl
theorem ALc:AD (AB Tryz.f167 2) 3=[]:=by kernel_rfl
theorem ALg:Aa Tryz.prog 1 (.loop (AB Tryz.f167 2)) (Cr.loop 2):=AX HQ (ZP) (AA ALc trivial)
theorem ZQ:∀ v,GN v=roundOf Tryz.prog O9 Cr 2 1 133 (AB Tryz.f167 1) UW UR v:=by
 rintro⟨a0,a1,a2,a3,a4,⟨⟩⟩
 kernel_rfl
theorem ALd:AD (AB Tryz.f167 1) 2=[]:=by kernel_rfl
theorem ALh:Aa Tryz.prog 1 (.loop (AB Tryz.f167 1)) (Cr.loop 1):=AX HQ (ZQ) (AA ALd trivial)
theorem ZR:∀ v,CL v=roundOf Tryz.prog O9 Cr 1 1 133 (AB Tryz.f167 0) UX US v:=by
 rintro⟨a0,a1,a2,a3,a4,⟨⟩⟩
 kernel_rfl
theorem ALe:AD (AB Tryz.f167 0) 1=[(1,AB Tryz.f167 1),(2,AB Tryz.f167 2),(3,AB Tryz.f167 3)]:=by kernel_rfl
theorem ALi:Aa Tryz.prog 1 (.loop (AB Tryz.f167 0)) (Cr.loop 0):=AX HQ (ZR) (AA ALe ⟨ALh,ALg,ALf,trivial⟩)
theorem AGv:∀ v,J3 v=AS Tryz.prog O9 Cr Tryz.f167 OP OO ON v:=by
 rintro⟨a0,a1,a2,⟨⟩⟩
 kernel_rfl
theorem AQN:AD (AW Tryz.f167) 0=[(0,AB Tryz.f167 0)]:=by kernel_rfl
theorem ACa:AT Tryz.prog 167 (AG 3 OP OO ON JN):=AK HQ Tryz.func167 (by kernel_rfl) (by kernel_rfl) rfl (fun v=>(UY v).trans (AGv v)) (AA AQN ⟨ALi,trivial⟩)
def Fz:Env:=O9.ext 167 false true (AG 3 OP OO ON JN)
theorem D2:Ac Tryz.prog Fz:=Env.Ad HQ ACa ((by simp)) (fun _=>AL rfl rfl)
abbrev FQ:Hints:={ loop:=fun n=>match n with|0=>Ab 1 84 Zg Zd Hm|1=>Ab 1 84 Zf Zc Hl|2=>Ab 1 84 Ze Zb Hk|_=>fun _ _ _=>none,fp:=fun n=>match n with|8=>[[],[],[],[],[],[],[0],[0],[],[],[0],[0],[0],[1],[0],[1]]|3=>[[],[],[],[],[],[],[0],[0],[],[],[0],[0],[],[],[]]|5=>[[],[],[],[],[],[],[0],[0],[],[],[0],[0],[],[]]|1=>[[],[],[],[],[],[],[0],[0],[],[],[0],[0],[0],[1],[0],[1]]|_=>[] }
theorem ACk:∀ v,Hk v=roundOf Tryz.prog Fz FQ 3 1 84 (AB Tryz.f169 2) Ze Zb v:=by
 rintro⟨a0,a1,a2,a3,⟨⟩⟩
 kernel_rfl
theorem AQY:AD (AB Tryz.f169 2) 3=[]:=by kernel_rfl
theorem AQb:Aa Tryz.prog 1 (.loop (AB Tryz.f169 2)) (FQ.loop 2):=AX D2 (ACk) (AA AQY trivial)
theorem ACm:∀ v,Hl v=roundOf Tryz.prog Fz FQ 2 1 84 (AB Tryz.f169 1) Zf Zc v:=by
 rintro⟨a0,a1,a2,a3,⟨⟩⟩
 kernel_rfl
theorem AQZ:AD (AB Tryz.f169 1) 2=[]:=by kernel_rfl
theorem AQc:Aa Tryz.prog 1 (.loop (AB Tryz.f169 1)) (FQ.loop 1):=AX D2 (ACm) (AA AQZ trivial)
theorem ACo:∀ v,Hm v=roundOf Tryz.prog Fz FQ 1 1 84 (AB Tryz.f169 0) Zg Zd v:=by
 rintro⟨a0,a1,a2,a3,⟨⟩⟩
 kernel_rfl
theorem AQa:AD (AB Tryz.f169 0) 1=[(1,AB Tryz.f169 1),(2,AB Tryz.f169 2)]:=by kernel_rfl
theorem AQd:Aa Tryz.prog 1 (.loop (AB Tryz.f169 0)) (FQ.loop 0):=AX D2 (ACo) (AA AQa ⟨AQc,AQb,trivial⟩)
theorem AMA:∀ v,Mw v=AS Tryz.prog Fz FQ Tryz.f169 SF SD SC v:=by
 rintro⟨a0,a1,a2,a3,⟨⟩⟩
 kernel_rfl
theorem AV3:AD (AW Tryz.f169) 0=[(0,AB Tryz.f169 0)]:=by kernel_rfl
theorem AG2:AT Tryz.prog 169 (AG 4 SF SD SC Mx):=AK D2 Tryz.func169 (by kernel_rfl) (by kernel_rfl) rfl (fun v=>(Zh v).trans (AMA v)) (AA AV3 ⟨AQd,trivial⟩)
def Eg:Env:=Fz.ext 169 false true (AG 4 SF SD SC Mx)
theorem Cy:Ac Tryz.prog Eg:=Env.Ad D2 AG2 ((by simp)) (fun _=>AL rfl rfl)
abbrev Eo:Hints:={ loop:=fun n=>match n with|0=>Ab 1 168 AL2 ALx Ll|1=>Ab 1 168 AL1 ALw Lj|2=>Ab 1 168 AL0 ALv Li|3=>Ab 1 168 ALz ALu Lh|4=>Ab 1 168 ALy ALt Lg|_=>fun _ _ _=>none,fp:=fun n=>match n with|3=>[[],[],[],[],[],[],[0],[0],[],[],[0],[0],[],[]]|5=>[[],[],[],[],[],[],[0],[0],[],[],[0],[0],[],[],[]]|18=>[[],[],[],[],[],[],[0],[0],[],[],[0],[0],[0],[1],[0],[1]]|13=>[[],[],[],[],[],[],[0],[0],[],[],[0],[0],[],[]]|15=>[[],[],[],[],[],[],[0],[0],[],[],[0],[0],[],[],[]]|21=>[[],[],[],[],[],[],[0],[0],[],[],[0],[0],[0],[1],[0],[1]]|10=>[[],[],[],[],[],[],[0],[0],[],[],[0],[0],[0],[1],[0],[1]]|8=>[[],[],[],[],[],[],[0],[0],[],[],[0],[0],[0],[1],[0],[1]]|1=>[[],[],[],[],[],[],[0],[0],[],[],[0],[0],[0],[1],[0],[1]]|_=>[] }
theorem ALk:∀ v,Lg v=roundOf Tryz.prog Eg Eo 5 1 168 (AB Tryz.f170 4) ALy ALt v:=by
 rintro⟨a0,a1,a2,a3,⟨⟩⟩
 kernel_rfl
theorem AaA:AD (AB Tryz.f170 4) 5=[]:=by kernel_rfl
theorem AaF:Aa Tryz.prog 1 (.loop (AB Tryz.f170 4)) (Eo.loop 4):=AX Cy (ALk) (AA AaA trivial)
theorem ALm:∀ v,Lh v=roundOf Tryz.prog Eg Eo 4 1 168 (AB Tryz.f170 3) ALz ALu v:=by
 rintro⟨a0,a1,a2,a3,⟨⟩⟩
 kernel_rfl
theorem AaB:AD (AB Tryz.f170 3) 4=[]:=by kernel_rfl
theorem AaG:Aa Tryz.prog 1 (.loop (AB Tryz.f170 3)) (Eo.loop 3):=AX Cy (ALm) (AA AaB trivial)
theorem ALo:∀ v,Li v=roundOf Tryz.prog Eg Eo 3 1 168 (AB Tryz.f170 2) AL0 ALv v:=by
 rintro⟨a0,a1,a2,a3,⟨⟩⟩
 kernel_rfl
theorem AaC:AD (AB Tryz.f170 2) 3=[(3,AB Tryz.f170 3),(4,AB Tryz.f170 4)]:=by kernel_rfl
theorem AaH:Aa Tryz.prog 1 (.loop (AB Tryz.f170 2)) (Eo.loop 2):=AX Cy (ALo) (AA AaC ⟨AaG,AaF,trivial⟩)
theorem ALp:∀ v,Lj v=roundOf Tryz.prog Eg Eo 2 1 168 (AB Tryz.f170 1) AL1 ALw v:=by
 rintro⟨a0,a1,a2,a3,⟨⟩⟩
 kernel_rfl
theorem AaD:AD (AB Tryz.f170 1) 2=[]:=by kernel_rfl
theorem AaI:Aa Tryz.prog 1 (.loop (AB Tryz.f170 1)) (Eo.loop 1):=AX Cy (ALp) (AA AaD trivial)
theorem ALr:∀ v,Ll v=roundOf Tryz.prog Eg Eo 1 1 168 (AB Tryz.f170 0) AL2 ALx v:=by
 rintro⟨a0,a1,a2,a3,⟨⟩⟩
 kernel_rfl
theorem AaE:AD (AB Tryz.f170 0) 1=[]:=by kernel_rfl
theorem AaJ:Aa Tryz.prog 1 (.loop (AB Tryz.f170 0)) (Eo.loop 0):=AX Cy (ALr) (AA AaE trivial)
theorem AV0:∀ v,W2 v=AS Tryz.prog Eg Eo Tryz.f170 AGz AGy AGx v:=by
 rintro⟨a0,a1,a2,a3,⟨⟩⟩
 kernel_rfl
theorem Ac7:AD (AW Tryz.f170) 0=[(0,AB Tryz.f170 0),(1,AB Tryz.f170 1),(2,AB Tryz.f170 2)]:=by kernel_rfl
theorem AQO:AT Tryz.prog 170 (AG 4 AGz AGy AGx Pq):=AK Cy Tryz.func170 (by kernel_rfl) (by kernel_rfl) rfl (fun v=>(AL3 v).trans (AV0 v)) (AA Ac7 ⟨AaJ,AaI,AaH,trivial⟩)
def AJU:Env:=Eg.ext 170 false true (AG 4 AGz AGy AGx Pq)
theorem AB4:Ac Tryz.prog AJU:=Env.Ad Cy AQO ((by simp)) (fun _=>AL rfl rfl)
abbrev AQJ(self:(List Int×Int×Int×Int×Unit)→Option ((List Int×Unit))):Hints:={ loop:=fun n=>match n with|0=>Ab 1 134 ATj ATi (Mv self)|_=>fun _ _ _=>none,fp:=fun n=>match n with|17=>[[],[],[],[],[],[],[0],[0],[],[],[0],[0],[],[],[]]|_=>[] }
abbrev AGl(self:(List Int×Int×Int×Int×Unit)→Option ((List Int×Unit))):Env:=AJU.ext 131 false true (AG 4 ZG ZF ZE self)
theorem AQI(self:(List Int×Int×Int×Int×Unit)→Option ((List Int×Unit))):∀ v,Mv self v=roundOf Tryz.prog (AGl self) (AQJ self) 1 1 134 (AB Tryz.f131 0) ATj ATi v:=by
 rintro⟨a0,a1,a2,a3,a4,a5,⟨⟩⟩
 kernel_rfl
theorem Ac0:AD (AB Tryz.f131 0) 1=[]:=by kernel_rfl
theorem Ac1(self:(List Int×Int×Int×Int×Unit)→Option ((List Int×Unit)))(hE:Ac Tryz.prog (AGl self)):Aa Tryz.prog 1 (.loop (AB Tryz.f131 0)) ((AQJ self).loop 0):=AX hE (AQI self) (AA Ac0 trivial)
theorem AZk(self:(List Int×Int×Int×Int×Unit)→Option ((List Int×Unit))):∀ v,AGk self v=AS Tryz.prog (AGl self) (AQJ self) Tryz.f131 ZG ZF ZE v:=by
 rintro⟨a0,a1,a2,a3,⟨⟩⟩
 kernel_rfl
theorem Aeg:AD (AW Tryz.f131) 0=[(0,AB Tryz.f131 0)]:=by kernel_rfl
theorem AQK:∀ n,AT Tryz.prog 131 (AG 4 ZG ZF ZE (Hj n)):=by
 intro n
 induction n with
 |zero=>exact VD fun _=>rfl
 |succ n ih=>
  have hE:Ac Tryz.prog (AGl (Hj n)):=Env.Ad AB4 ih ((by simp)) (fun _=>AL rfl rfl)
  let self:=Hj n
  exact AK hE Tryz.func131 (by kernel_rfl) (by kernel_rfl) rfl (AZk self) (AA Aeg ⟨(Ac1 self hE),trivial⟩)
theorem AVq:AT Tryz.prog 131 (AG 4 ZG ZF ZE AVr):=by
 have e:AVr=Hj 100:=funext ATk
 rw[e]
 exact AQK _
def AS8:Env:=AJU.ext 131 false true (AG 4 ZG ZF ZE AVr)
theorem AE6:Ac Tryz.prog AS8:=Env.Ad AB4 AVq ((by simp)) (fun _=>AL rfl rfl)
abbrev AcZ:Hints:={  }
theorem AVC:∀ v,Wr v=AS Tryz.prog AS8 AcZ Tryz.f95 AFs AFr AFq v:=by
 rintro⟨a0,⟨⟩⟩
 kernel_rfl
theorem AcY:AD (AW Tryz.f95) 0=[]:=by kernel_rfl
theorem AO1:AT Tryz.prog 95 (AG 1 AFs AFr AFq AKF):=AK AE6 Tryz.func95 (by kernel_rfl) (by kernel_rfl) rfl (fun v=>(AKE v).trans (AVC v)) (AA AcY trivial)
def AJO:Env:=AS8.ext 95 false true (AG 1 AFs AFr AFq AKF)
theorem ABs:Ac Tryz.prog AJO:=Env.Ad AE6 AO1 ((by simp)) (fun _=>AL rfl rfl)
abbrev Ae7:Hints:={  }
theorem Aa5:∀ v,AHu v=AS Tryz.prog AJO Ae7 Tryz.f110 ARn ARm ARl v:=by
 rintro⟨a0,a1,⟨⟩⟩
 kernel_rfl
theorem Ae6:AD (AW Tryz.f110) 0=[]:=by kernel_rfl
theorem AWy:AT Tryz.prog 110 (AG 2 ARn ARm ARl ACy):=AK ABs Tryz.func110 (by kernel_rfl) (by kernel_rfl) rfl (fun v=>(AUE v).trans (Aa5 v)) (AA Ae6 trivial)
def ACA:Env:=AJO.ext 110 true true (AG 2 ARn ARm ARl ACy)
theorem Nb:Ac Tryz.prog ACA:=Env.Ad ABs AWy (fun _=>AP rfl rfl) (fun _=>AL rfl rfl)
abbrev L8:Hints:={ loop:=fun n=>match n with|0=>Ab 0 64 AEd AEb Fj|1=>Ab 0 64 AEc AEa Fi|_=>fun _ _ _=>none,fp:=fun n=>match n with|6=>[[0],[],[],[],[],[],[],[],[],[0],[],[],[],[],[],[],[],[]]|_=>[] }
theorem AIM:∀ v,Fi v=roundOf Tryz.prog ACA L8 2 0 64 (AB Tryz.f65 1) AEc AEa v:=by
 rintro⟨a0,a1,a2,a3,⟨⟩⟩
 kernel_rfl
theorem AXQ:AD (AB Tryz.f65 1) 2=[]:=by kernel_rfl
theorem AXS:Aa Tryz.prog 0 (.loop (AB Tryz.f65 1)) (L8.loop 1):=AX Nb (AIM) (AA AXQ trivial)
theorem AIN:∀ v,Fj v=roundOf Tryz.prog ACA L8 1 0 64 (AB Tryz.f65 0) AEd AEb v:=by
 rintro⟨a0,a1,a2,a3,⟨⟩⟩
 kernel_rfl
theorem AXR:AD (AB Tryz.f65 0) 1=[]:=by kernel_rfl
theorem AXT:Aa Tryz.prog 0 (.loop (AB Tryz.f65 0)) (L8.loop 0):=AX Nb (AIN) (AA AXR trivial)
theorem ARz:∀ v,L9 v=AS Tryz.prog ACA L8 Tryz.f65 AAc AAb AAa v:=by
 rintro⟨a0,a1,⟨⟩⟩
 kernel_rfl
theorem AbO:AD (AW Tryz.f65) 0=[(0,AB Tryz.f65 0),(1,AB Tryz.f65 1)]:=by kernel_rfl
theorem ANR:AT Tryz.prog 65 (AG 2 AAc AAb AAa S7):=AK Nb Tryz.func65 (by kernel_rfl) (by kernel_rfl) rfl (fun v=>(S6 v).trans (ARz v)) (AA AbO ⟨AXT,AXS,trivial⟩)
def RM:Env:=ACA.ext 65 true true (AG 2 AAc AAb AAa S7)
theorem Md:Ac Tryz.prog RM:=Env.Ad Nb ANR (fun _=>AP rfl rfl) (fun _=>AL rfl rfl)
abbrev Lr:Hints:={ loop:=fun n=>match n with|0=>Ab 0 36 P2 P1 Cs|_=>fun _ _ _=>none,fp:=fun n=>match n with|6=>[[],[],[2],[2],[],[],[2],[2],[]]|1=>[[0],[0],[0],[],[],[2],[]]|_=>[] }
theorem WJ:∀ v,Cs v=roundOf Tryz.prog RM Lr 1 0 36 (AB Tryz.f91 0) P2 P1 v:=by
 rintro⟨a0,a1,a2,a3,a4,a5,⟨⟩⟩
 kernel_rfl
theorem AHL:AD (AB Tryz.f91 0) 1=[]:=by kernel_rfl
theorem AHM:Aa Tryz.prog 0 (.loop (AB Tryz.f91 0)) (Lr.loop 0):=AX Md (WJ) (AA AHL trivial)
theorem ACt:∀ v,Ia v=AS Tryz.prog RM Lr Tryz.f91 Lq Lp Lo v:=by
 rintro⟨a0,a1,a2,⟨⟩⟩
 kernel_rfl
theorem AMT:AD (AW Tryz.f91) 0=[(0,AB Tryz.f91 0)]:=by kernel_rfl
theorem Zq:AT Tryz.prog 91 (AG 3 Lq Lp Lo HJ):=AK Md Tryz.func91 (by kernel_rfl) (by kernel_rfl) rfl (fun v=>(P5 v).trans (ACt v)) (AA AMT ⟨AHM,trivial⟩)
def Iz:Env:=RM.ext 91 true true (AG 3 Lq Lp Lo HJ)
theorem IP:Ac Tryz.prog Iz:=Env.Ad Md Zq (fun _=>AP rfl rfl) (fun _=>AL rfl rfl)
abbrev AH8:Hints:={ loop:=fun n=>match n with|0=>Ab 0 18 ANE AND H0|_=>fun _ _ _=>none }
theorem ANC:∀ v,H0 v=roundOf Tryz.prog Iz AH8 1 0 18 (AB Tryz.f111 0) ANE AND v:=by
 rintro⟨a0,a1,a2,⟨⟩⟩
 kernel_rfl
theorem AbJ:AD (AB Tryz.f111 0) 1=[]:=by kernel_rfl
theorem AbK:Aa Tryz.prog 0 (.loop (AB Tryz.f111 0)) (AH8.loop 0):=AX IP (ANC) (AA AbJ trivial)
theorem AXD:∀ v,XF v=AS Tryz.prog Iz AH8 Tryz.f111 AH7 AH6 AH5 v:=by
 rintro⟨a0,a1,⟨⟩⟩
 kernel_rfl
theorem Adi:AD (AW Tryz.f111) 0=[(0,AB Tryz.f111 0)]:=by kernel_rfl
theorem ARs:AT Tryz.prog 111 (AG 2 AH7 AH6 AH5 JY):=AK IP Tryz.func111 (by kernel_rfl) (by kernel_rfl) rfl (fun v=>(ANF v).trans (AXD v)) (AA Adi ⟨AbK,trivial⟩)
def AJY:Env:=Iz.ext 111 true true (AG 2 AH7 AH6 AH5 JY)
theorem ACB:Ac Tryz.prog AJY:=Env.Ad IP ARs (fun _=>AP rfl rfl) (fun _=>AL rfl rfl)
end
end Go.Pev
end
section
namespace Go.Pev
open Go.Proofs
noncomputable section
abbrev AY5:Hints:={ fp:=fun n=>match n with|8=>[[],[26],[],[34],[],[],[],[26],[],[34],[],[],[],[26],[26],[],[34],[34],[],[],[]]|5=>[[0],[],[],[],[0],[],[],[],[],[]]|_=>[] }
theorem AO6:∀ v,JI v=AS Tryz.prog AJY AY5 Tryz.f63 X2 X1 X0 v:=by
 rintro⟨a0,a1,a2,a3,⟨⟩⟩
 kernel_rfl
theorem AY4:AD (AW Tryz.f63) 0=[]:=by kernel_rfl
theorem AKQ:AT Tryz.prog 63 (AG 4 X2 X1 X0 Rl):=AK ACB Tryz.func63 (by kernel_rfl) (by kernel_rfl) rfl (fun v=>(Mn v).trans (AO6 v)) (AA AY4 trivial)
def Jl:Env:=AJY.ext 63 true true (AG 4 X2 X1 X0 Rl)
theorem Gc:Ac Tryz.prog Jl:=Env.Ad ACB AKQ (fun _=>AP rfl rfl) (fun _=>AL rfl rfl)
abbrev J9:Hints:={ loop:=fun n=>match n with|0=>Ab 0 208 AMO AML Ep|1=>Ab 0 208 AMN AMK GU|2=>Ab 0 208 AMM AMJ GS|_=>fun _ _ _=>none,fp:=fun n=>match n with|34=>[[6],[10],[1],[3],[]]|33=>[[14],[14],[14],[14],[],[10],[11],[10],[11]]|35=>[[4],[8],[1],[3],[]]|9=>[[0],[0],[],[0],[0],[],[],[41],[0],[0],[],[],[],[43],[],[],[47]]|_=>[] }
theorem AMG:∀ v,GS v=roundOf Tryz.prog Jl J9 3 0 208 (AB Tryz.f61 2) AMM AMJ v:=by
 rintro⟨a0,a1,a2,a3,a4,a5,a6,a7,a8,a9,a10,a11,a12,a13,a14,a15,a16,a17,a18,a19,a20,a21,⟨⟩⟩
 kernel_rfl
theorem AaV:AD (AB Tryz.f61 2) 3=[]:=by kernel_rfl
theorem AaY:Aa Tryz.prog 0 (.loop (AB Tryz.f61 2)) (J9.loop 2):=AX Gc (AMG) (AA AaV trivial)
theorem AMH:∀ v,GU v=roundOf Tryz.prog Jl J9 2 0 208 (AB Tryz.f61 1) AMN AMK v:=by
 rintro⟨a0,a1,a2,a3,a4,a5,a6,a7,a8,a9,a10,a11,a12,a13,a14,a15,a16,a17,a18,a19,a20,a21,⟨⟩⟩
 kernel_rfl
theorem AaW:AD (AB Tryz.f61 1) 2=[]:=by kernel_rfl
theorem AaZ:Aa Tryz.prog 0 (.loop (AB Tryz.f61 1)) (J9.loop 1):=AX Gc (AMH) (AA AaW trivial)
theorem AMI:∀ v,Ep v=roundOf Tryz.prog Jl J9 1 0 208 (AB Tryz.f61 0) AMO AML v:=by
 rintro⟨a0,a1,a2,a3,a4,a5,a6,a7,a8,a9,a10,a11,a12,a13,a14,a15,a16,a17,a18,⟨⟩⟩
 kernel_rfl
theorem AaX:AD (AB Tryz.f61 0) 1=[(1,AB Tryz.f61 1),(2,AB Tryz.f61 2)]:=by kernel_rfl
theorem Aaa:Aa Tryz.prog 0 (.loop (AB Tryz.f61 0)) (J9.loop 0):=AX Gc (AMI) (AA AaX ⟨AaZ,AaY,trivial⟩)
theorem AWB:∀ v,Px v=AS Tryz.prog Jl J9 Tryz.f61 AHD AHC AHA v:=by
 rintro⟨a0,a1,a2,⟨⟩⟩
 kernel_rfl
theorem AdA:AD (AW Tryz.f61) 0=[(0,AB Tryz.f61 0)]:=by kernel_rfl
theorem AQh:AT Tryz.prog 61 (AG 3 AHD AHC AHA VA):=AK Gc Tryz.func61 (by kernel_rfl) (by kernel_rfl) rfl (fun v=>(Zm v).trans (AWB v)) (AA AdA ⟨Aaa,trivial⟩)
def XP:Env:=Jl.ext 61 true true (AG 3 AHD AHC AHA VA)
theorem PC:Ac Tryz.prog XP:=Env.Ad Gc AQh (fun _=>AP rfl rfl) (fun _=>AL rfl rfl)
abbrev AA4:Hints:={ loop:=fun n=>match n with|0=>Ab 0 59 AEo AEn C7|_=>fun _ _ _=>none,fp:=fun n=>match n with|9=>[[8],[],[],[4],[4],[4],[],[],[4],[4],[4],[],[],[],[],[],[],[],[19],[21],[]]|_=>[] }
theorem AIc:∀ v,C7 v=roundOf Tryz.prog XP AA4 1 0 59 (AB Tryz.f33 0) AEo AEn v:=by
 rintro⟨a0,a1,a2,a3,a4,a5,a6,a7,⟨⟩⟩
 kernel_rfl
theorem AXl:AD (AB Tryz.f33 0) 1=[]:=by kernel_rfl
theorem AXm:Aa Tryz.prog 0 (.loop (AB Tryz.f33 0)) (AA4.loop 0):=AX PC (AIc) (AA AXl trivial)
theorem ASP:∀ v,Qd v=AS Tryz.prog XP AA4 Tryz.f33 AA3 AA2 AA1 v:=by
 rintro⟨a0,a1,⟨⟩⟩
 kernel_rfl
theorem Abk:AD (AW Tryz.f33) 0=[(0,AB Tryz.f33 0)]:=by kernel_rfl
theorem ANq:AT Tryz.prog 33 (AG 2 AA3 AA2 AA1 AA5):=AK PC Tryz.func33 (by kernel_rfl) (by kernel_rfl) rfl (fun v=>(AEp v).trans (ASP v)) (AA Abk ⟨AXm,trivial⟩)
def RP:Env:=XP.ext 33 true true (AG 2 AA3 AA2 AA1 AA5)
theorem Mg:Ac Tryz.prog RP:=Env.Ad PC ANq (fun _=>AP rfl rfl) (fun _=>AL rfl rfl)
abbrev ASz:Hints:={ loop:=fun n=>match n with|0=>Ab 0 49 AUW AUV Kc|_=>fun _ _ _=>none,fp:=fun n=>match n with|5=>[[],[],[],[],[],[0],[],[]]|8=>[[],[],[],[],[],[],[],[],[],[],[0],[],[],[],[],[]]|_=>[] }
theorem ASv:∀ v,Kc v=roundOf Tryz.prog RP ASz 1 0 49 (AB Tryz.f132 0) AUW AUV v:=by
 rintro⟨a0,a1,a2,a3,a4,a5,a6,a7,⟨⟩⟩
 kernel_rfl
theorem Ad7:AD (AB Tryz.f132 0) 1=[]:=by kernel_rfl
theorem Ad8:Aa Tryz.prog 0 (.loop (AB Tryz.f132 0)) (ASz.loop 0):=AX Mg (ASv) (AA Ad7 trivial)
theorem Ab4:∀ v,AI7 v=AS Tryz.prog RP ASz Tryz.f132 ASy ASx ASw v:=by
 rintro⟨a0,a1,⟨⟩⟩
 kernel_rfl
theorem AfG:AD (AW Tryz.f132) 0=[(0,AB Tryz.f132 0)]:=by kernel_rfl
theorem AX9:AT Tryz.prog 132 (AG 3 ASy ASx ASw AYA):=AK Mg Tryz.func132 (by kernel_rfl) (by kernel_rfl) rfl (fun v=>(AUX v).trans (Ab4 v)) (AA AfG ⟨Ad8,trivial⟩)
def ATE:Env:=RP.Ez 132 2 98 (AG 3 ASy ASx ASw AYA)
theorem AFC:Ac Tryz.prog ATE:=Env.Bb Mg AX9 (AL rfl rfl)
abbrev Aao:Hints:={  }
theorem ARI:∀ v,P7 v=AS Tryz.prog ATE Aao Tryz.f99 Z9 Z8 Z7 v:=by
 rintro⟨a0,a1,a2,⟨⟩⟩
 kernel_rfl
theorem Aan:AD (AW Tryz.f99) 0=[]:=by kernel_rfl
theorem AMf:AT Tryz.prog 99 (AG 3 Z9 Z8 Z7 AHX):=AK AFC Tryz.func99 (by kernel_rfl) (by kernel_rfl) rfl (fun v=>(AEK v).trans (ARI v)) (AA Aan trivial)
def AB6:Env:=ATE.ext 99 true true (AG 3 Z9 Z8 Z7 AHX)
theorem Vq:Ac Tryz.prog AB6:=Env.Ad AFC AMf (fun _=>AP rfl rfl) (fun _=>AL rfl rfl)
abbrev AdK:Hints:={  }
theorem AWj:∀ v,W9 v=AS Tryz.prog AB6 AdK Tryz.f51 AHe AHd AHc v:=by
 rintro⟨a0,a1,a2,⟨⟩⟩
 kernel_rfl
theorem AdJ:AD (AW Tryz.f51) 0=[]:=by kernel_rfl
theorem ARN:AT Tryz.prog 51 (AG 3 AHe AHd AHc AMk):=AK Vq Tryz.func51 (by kernel_rfl) (by kernel_rfl) rfl (fun v=>(AMj v).trans (AWj v)) (AA AdJ trivial)
def AUi:Env:=AB6.ext 51 true true (AG 3 AHe AHd AHc AMk)
theorem ATD:Ac Tryz.prog AUi:=Env.Ad Vq ARN (fun _=>AP rfl rfl) (fun _=>AL rfl rfl)
theorem Abx : (Tryz.f144.name == "runtime.NumGoroutine") = false := by kernel_rfl
theorem AIo:ACI Tryz.prog Tryz.f144 55 3 (.int .i64) where
 body:=by kernel_rfl
 nt:=by kernel_rfl
 res:=by kernel_rfl
 d:=⟨by kernel_rfl,by kernel_rfl,by kernel_rfl,by kernel_rfl,by kernel_rfl,by kernel_rfl,by kernel_rfl,by kernel_rfl⟩
 g:=⟨by kernel_rfl,by kernel_rfl,by kernel_rfl,by kernel_rfl,by kernel_rfl,by kernel_rfl,by kernel_rfl,by kernel_rfl⟩
 o00:=by kernel_rfl
 o10:=by kernel_rfl
 o11:=by kernel_rfl
 o20:=by kernel_rfl
 o30:=by kernel_rfl
 o31:=by kernel_rfl
 o32:=by kernel_rfl
 o33:=by kernel_rfl
 sl:=by kernel_rfl
 z:=by kernel_rfl
 by1:=by kernel_rfl
def ACE:Env:=AUi.ext 144 true true (HL 3 (.int .i64))
theorem Vu:Ac Tryz.prog ACE:=Env.Ad ATD (Abw AIo Tryz.func144 Abx) (fun _=>LB _ _) (fun _=>(LB _ _).Afb)
theorem AQ4:Tryz.f145.body.isSome=true:=by kernel_rfl
theorem AQ3 : (Tryz.f145.name == "runtime.NumGoroutine") = false := by kernel_rfl
theorem AQ2:loops (AW Tryz.f145)=0:=by kernel_rfl
def HC:Env:=ACE.ext 145 false false (C0 Tryz.prog ACE {} Tryz.f145)
theorem Gs:Ac Tryz.prog HC:=Env.Ad Vu (Cj Vu Tryz.func145 AQ4 AQ3 AQ2) (by simp) (by simp)
abbrev Hz:Hints:={ loop:=fun n=>match n with|0=>Ab 2 19 K5 K4 Bh|_=>fun _ _ _=>none }
theorem Oi:∀ v,Bh v=roundOf Tryz.prog HC Hz 1 2 19 (AB Tryz.f174 0) K5 K4 v:=by
 rintro⟨a0,a1,a2,a3,a4,⟨⟩⟩
 kernel_rfl
theorem WO:AD (AB Tryz.f174 0) 1=[]:=by kernel_rfl
theorem WQ:Aa Tryz.prog 2 (.loop (AB Tryz.f174 0)) (Hz.loop 0):=AX Gs (Oi) (AA WO trivial)
theorem S0:∀ v,Ey v=AS Tryz.prog HC Hz Tryz.f174 Hy Hx Hw v:=by
 rintro⟨a0,a1,a2,⟨⟩⟩
 kernel_rfl
theorem AAW:AD (AW Tryz.f174) 0=[(0,AB Tryz.f174 0)]:=by kernel_rfl
theorem QQ:AT Tryz.prog 174 (AG 2 Hy Hx Hw G2):=AK Gs Tryz.func174 (by kernel_rfl) (by kernel_rfl) rfl (fun v=>(K6 v).trans (S0 v)) (AA AAW ⟨WQ,trivial⟩)
def FA:Env:=HC.Ez 174 1 145 (AG 2 Hy Hx Hw G2)
theorem E9:Ac Tryz.prog FA:=Env.Bb Gs QQ (AL rfl rfl)
abbrev ID:Hints:={ loop:=fun n=>match n with|0=>Ab 2 42 K9 K8 CH|_=>fun _ _ _=>none }
theorem Oy:∀ v,CH v=roundOf Tryz.prog FA ID 1 2 42 (AB Tryz.f143 0) K9 K8 v:=by
 rintro⟨a0,a1,a2,a3,a4,⟨⟩⟩
 kernel_rfl
theorem WU:AD (AB Tryz.f143 0) 1=[]:=by kernel_rfl
theorem WV:Aa Tryz.prog 2 (.loop (AB Tryz.f143 0)) (ID.loop 0):=AX E9 (Oy) (AA WU trivial)
theorem TG:∀ v,E2 v=AS Tryz.prog FA ID Tryz.f143 IC IB IA v:=by
 rintro⟨a0,a1,a2,⟨⟩⟩
 kernel_rfl
theorem AA6:AD (AW Tryz.f143) 0=[(0,AB Tryz.f143 0)]:=by kernel_rfl
theorem Qe:AT Tryz.prog 143 (AG 2 IC IB IA E3):=AK E9 Tryz.func143 (by kernel_rfl) (by kernel_rfl) rfl (fun v=>(LA v).trans (TG v)) (AA AA6 ⟨WV,trivial⟩)
def IS:Env:=FA.Ez 143 1 145 (JG (AG 2 IC IB IA E3))
theorem I1:Ac Tryz.prog IS:=Env.Bb E9 (T1 Qe) (ATO rfl rfl)
abbrev AR9:Hints:={ fp:=fun n=>match n with|4=>[[0],[0],[0],[],[],[],[],[],[],[1000005,21,1],[]]|_=>[] }
theorem AIS:∀ v,KS v=AS Tryz.prog IS AR9 Tryz.f112 Oq Oo On v:=by
 rintro⟨a0,a1,⟨⟩⟩
 kernel_rfl
theorem AR8:AD (AW Tryz.f112) 0=[]:=by kernel_rfl
theorem AC2:AT Tryz.prog 112 (AG 2 Oq Oo On H4):=AK I1 Tryz.func112 (by kernel_rfl) (by kernel_rfl) rfl (fun v=>(VL v).trans (AIS v)) (AA AR8 trivial)
def PF:Env:=IS.ext 112 true true (AG 2 Oq Oo On H4)
theorem N2:Ac Tryz.prog PF:=Env.Ad I1 AC2 (fun _=>AP rfl rfl) (fun _=>AL rfl rfl)
abbrev Adl:Hints:={  }
theorem AXJ:∀ v,XH v=AS Tryz.prog PF Adl Tryz.f140 AIH AIF AIE v:=by
 rintro⟨a0,⟨⟩⟩
 kernel_rfl
theorem Adk:AD (AW Tryz.f140) 0=[]:=by kernel_rfl
theorem ARv:AT Tryz.prog 140 (AG 2 AIH AIF AIE ANM):=AK N2 Tryz.func140 (by kernel_rfl) (by kernel_rfl) rfl (fun v=>(ANL v).trans (AXJ v)) (AA Adk trivial)
def RK:Env:=PF.ext 140 false true (AG 2 AIH AIF AIE ANM)
theorem Kr:Ac Tryz.prog RK:=Env.Ad N2 ARv ((by simp)) (fun _=>AL rfl rfl)
end
end Go.Pev
end
section
namespace Go.Pev
open Go.Proofs
noncomputable section
abbrev Jg:Hints:={ loop:=fun n=>match n with|0=>Ab 0 36 ABG ABE EJ|1=>Ab 0 36 ABF ABD EI|_=>fun _ _ _=>none }
theorem AC9:∀ v,EI v=roundOf Tryz.prog RK Jg 2 0 36 (AB Tryz.f108 1) ABF ABD v:=by
 rintro⟨a0,a1,a2,a3,⟨⟩⟩
 kernel_rfl
theorem ASW:AD (AB Tryz.f108 1) 2=[]:=by kernel_rfl
theorem ASY:Aa Tryz.prog 0 (.loop (AB Tryz.f108 1)) (Jg.loop 1):=AX Kr (AC9) (AA ASW trivial)
theorem ADA:∀ v,EJ v=roundOf Tryz.prog RK Jg 1 0 36 (AB Tryz.f108 0) ABG ABE v:=by
 rintro⟨a0,a1,a2,a3,a4,⟨⟩⟩
 kernel_rfl
theorem ASX:AD (AB Tryz.f108 0) 1=[]:=by kernel_rfl
theorem ASZ:Aa Tryz.prog 0 (.loop (AB Tryz.f108 0)) (Jg.loop 0):=AX Kr (ADA) (AA ASX trivial)
theorem ANx:∀ v,NN v=AS Tryz.prog RK Jg Tryz.f108 TM TL TK v:=by
 rintro⟨a0,⟨⟩⟩
 kernel_rfl
theorem AXq:AD (AW Tryz.f108) 0=[(0,AB Tryz.f108 0),(1,AB Tryz.f108 1)]:=by kernel_rfl
theorem AIi:AT Tryz.prog 108 (AG 1 TM TL TK NO):=AK Kr Tryz.func108 (by kernel_rfl) (by kernel_rfl) rfl (fun v=>(ABH v).trans (ANx v)) (AA AXq ⟨ASZ,ASY,trivial⟩)
def Tr:Env:=RK.ext 108 true true (AG 1 TM TL TK NO)
theorem RQ:Ac Tryz.prog Tr:=Env.Ad Kr AIi (fun _=>AP rfl rfl) (fun _=>AL rfl rfl)
theorem Adq:Tryz.f116.body.isSome=true:=by kernel_rfl
theorem Adp : (Tryz.f116.name == "runtime.NumGoroutine") = false := by kernel_rfl
theorem Ado:loops (AW Tryz.f116)=0:=by kernel_rfl
def Nc:Env:=Tr.ext 116 false false (C0 Tryz.prog Tr {} Tryz.f116)
theorem Kt:Ac Tryz.prog Nc:=Env.Ad RQ (Cj RQ Tryz.func116 Adq Adp Ado) (by simp) (by simp)
abbrev KN:Hints:={ loop:=fun n=>match n with|0=>Ab 3 19 Nr Nq CA|_=>fun _ _ _=>none }
theorem S1:∀ v,CA v=roundOf Tryz.prog Nc KN 1 3 19 (AB Tryz.f147 0) Nr Nq v:=by
 rintro⟨a0,a1,a2,a3,⟨⟩⟩
 kernel_rfl
theorem ACz:AD (AB Tryz.f147 0) 1=[]:=by kernel_rfl
theorem AC0:Aa Tryz.prog 3 (.loop (AB Tryz.f147 0)) (KN.loop 0):=AX Kt (S1) (AA ACz trivial)
theorem AAX:∀ v,G3 v=AS Tryz.prog Nc KN Tryz.f147 KM KL KK v:=by
 rintro⟨a0,a1,⟨⟩⟩
 kernel_rfl
theorem AHx:AD (AW Tryz.f147) 0=[(0,AB Tryz.f147 0)]:=by kernel_rfl
theorem WR:AT Tryz.prog 147 (AG 2 KM KL KK KO):=AK Kt Tryz.func147 (by kernel_rfl) (by kernel_rfl) rfl (fun v=>(Ns v).trans (AAX v)) (AA AHx ⟨AC0,trivial⟩)
def HD:Env:=Nc.Ez 147 1 116 (AG 2 KM KL KK KO)
theorem Gt:Ac Tryz.prog HD:=Env.Bb Kt WR (AL rfl rfl)
abbrev Ka:Hints:={ loop:=fun n=>match n with|0=>Ab 3 42 Nx Nw C8|_=>fun _ _ _=>none }
theorem TH:∀ v,C8 v=roundOf Tryz.prog HD Ka 1 3 42 (AB Tryz.f115 0) Nx Nw v:=by
 rintro⟨a0,a1,a2,a3,⟨⟩⟩
 kernel_rfl
theorem AC5:AD (AB Tryz.f115 0) 1=[]:=by kernel_rfl
theorem AC6:Aa Tryz.prog 3 (.loop (AB Tryz.f115 0)) (Ka.loop 0):=AX Gt (TH) (AA AC5 trivial)
theorem AA7:∀ v,G6 v=AS Tryz.prog HD Ka Tryz.f115 KZ KY KX v:=by
 rintro⟨a0,a1,⟨⟩⟩
 kernel_rfl
theorem AIe:AD (AW Tryz.f115) 0=[(0,AB Tryz.f115 0)]:=by kernel_rfl
theorem WW:AT Tryz.prog 115 (AG 2 KZ KY KX IE):=AK Gt Tryz.func115 (by kernel_rfl) (by kernel_rfl) rfl (fun v=>(Ny v).trans (AA7 v)) (AA AIe ⟨AC6,trivial⟩)
def HE:Env:=HD.Ez 115 1 116 (JG (AG 2 KZ KY KX IE))
theorem Gu:Ac Tryz.prog HE:=Env.Bb Gt (T1 WW) (ATO rfl rfl)
abbrev AGb:Hints:={ loop:=fun n=>match n with|0=>Ab 0 51 AK0 AKz Dv|_=>fun _ _ _=>none,fp:=fun n=>match n with|10=>[[2],[6],[4],[],[5],[],[5]]|_=>[] }
theorem AKy:∀ v,Dv v=roundOf Tryz.prog HE AGb 1 0 51 (AB Tryz.f64 0) AK0 AKz v:=by
 rintro⟨a0,a1,a2,a3,a4,a5,⟨⟩⟩
 kernel_rfl
theorem AZc:AD (AB Tryz.f64 0) 1=[]:=by kernel_rfl
theorem AZd:Aa Tryz.prog 0 (.loop (AB Tryz.f64 0)) (AGb.loop 0):=AX Gu (AKy) (AA AZc trivial)
theorem AVm:∀ v,Pk v=AS Tryz.prog HE AGb Tryz.f64 AGa AGZ AGY v:=by
 rintro⟨a0,a1,⟨⟩⟩
 kernel_rfl
theorem Acu:AD (AW Tryz.f64) 0=[(0,AB Tryz.f64 0)]:=by kernel_rfl
theorem AP8:AT Tryz.prog 64 (AG 2 AGa AGZ AGY Y4):=AK Gu Tryz.func64 (by kernel_rfl) (by kernel_rfl) rfl (fun v=>(Y3 v).trans (AVm v)) (AA Acu ⟨AZd,trivial⟩)
def AJS:Env:=HE.ext 64 true true (AG 2 AGa AGZ AGY Y4)
theorem AB0:Ac Tryz.prog AJS:=Env.Ad Gu AP8 (fun _=>AP rfl rfl) (fun _=>AL rfl rfl)
abbrev AZf:Hints:={  }
theorem AQB:∀ v,LZ v=AS Tryz.prog AJS AZf Tryz.f107 Y8 Y7 Y6 v:=by
 rintro⟨a0,a1,a2,⟨⟩⟩
 kernel_rfl
theorem AZe:AD (AW Tryz.f107) 0=[]:=by kernel_rfl
theorem AK1:AT Tryz.prog 107 (AG 3 Y8 Y7 Y6 OI):=AK AB0 Tryz.func107 (by kernel_rfl) (by kernel_rfl) rfl (fun v=>(R4 v).trans (AQB v)) (AA AZe trivial)
def AB1:Env:=AJS.ext 107 true true (AG 3 Y8 Y7 Y6 OI)
theorem Vo:Ac Tryz.prog AB1:=Env.Ad AB0 AK1 (fun _=>AP rfl rfl) (fun _=>AL rfl rfl)
abbrev Acq:Hints:={ fp:=fun n=>match n with|9=>[[],[20],[],[28],[],[],[20],[20],[],[28],[28],[],[],[60],[],[]]|_=>[] }
theorem AVc:∀ v,Pc v=AS Tryz.prog AB1 Acq Tryz.f62 AGP AGO AGN v:=by
 rintro⟨a0,a1,a2,a3,⟨⟩⟩
 kernel_rfl
theorem Acp:AD (AW Tryz.f62) 0=[]:=by kernel_rfl
theorem APk:AT Tryz.prog 62 (AG 4 AGP AGO AGN T6):=AK Vo Tryz.func62 (by kernel_rfl) (by kernel_rfl) rfl (fun v=>(Ye v).trans (AVc v)) (AA Acp trivial)
def AJQ:Env:=AB1.ext 62 true true (AG 4 AGP AGO AGN T6)
theorem ABy:Ac Tryz.prog AJQ:=Env.Ad Vo APk (fun _=>AP rfl rfl) (fun _=>AL rfl rfl)
theorem AZU:Tryz.f142.body.isSome=true:=by kernel_rfl
theorem AZT : (Tryz.f142.name == "runtime.NumGoroutine") = false := by kernel_rfl
theorem AZS:loops (AW Tryz.f142)=0:=by kernel_rfl
theorem Aep:Tryz.f141.body.isSome=true:=by kernel_rfl
theorem Aeo : (Tryz.f141.name == "runtime.NumGoroutine") = false := by kernel_rfl
theorem Aen:loops (AW Tryz.f141)=0:=by kernel_rfl
def PA:Env:=AJQ.ext 142 false false (C0 Tryz.prog AJQ { fp:=fun n=>match n with|0=>[[],[],[0],[0],[0],[],[2],[2],[2],[],[],[2],[2],[3]]|_=>[] } Tryz.f142)
theorem N1:Ac Tryz.prog PA:=Env.Ad ABy (Cj ABy Tryz.func142 AZU AZT AZS) (by simp) (by simp)
def Jm:Env:=PA.ext 141 false false (C0 Tryz.prog PA {} Tryz.f141)
theorem Gd:Ac Tryz.prog Jm:=Env.Ad N1 (Cj N1 Tryz.func141 Aep Aeo Aen) (by simp) (by simp)
abbrev ZH:Hints:={ loop:=fun n=>match n with|0=>Ab 2 127 AZv AZr Lf|1=>Ab 2 127 AZu AZq Le|2=>Ab 2 127 AZt AZp Ld|_=>fun _ _ _=>none,fp:=fun n=>match n with|29=>[[],[],[],[2],[2],[2],[],[2],[2],[2],[],[0],[0],[0],[1],[0],[0],[0],[1]]|_=>[] }
theorem AVs:∀ v,Ld v=roundOf Tryz.prog Jm ZH 3 2 127 (AB Tryz.f109 2) AZt AZp v:=by
 rintro⟨a0,a1,a2,a3,a4,a5,a6,a7,a8,a9,a10,a11,⟨⟩⟩
 kernel_rfl
theorem Aeh:AD (AB Tryz.f109 2) 3=[]:=by kernel_rfl
theorem Aek:Aa Tryz.prog 2 (.loop (AB Tryz.f109 2)) (ZH.loop 2):=AX Gd (AVs) (AA Aeh trivial)
theorem AVt:∀ v,Le v=roundOf Tryz.prog Jm ZH 2 2 127 (AB Tryz.f109 1) AZu AZq v:=by
 rintro⟨a0,a1,a2,a3,a4,a5,a6,a7,a8,a9,a10,a11,a12,⟨⟩⟩
 kernel_rfl
theorem Aei:AD (AB Tryz.f109 1) 2=[]:=by kernel_rfl
theorem Ael:Aa Tryz.prog 2 (.loop (AB Tryz.f109 1)) (ZH.loop 1):=AX Gd (AVt) (AA Aei trivial)
theorem AVu:∀ v,Lf v=roundOf Tryz.prog Jm ZH 1 2 127 (AB Tryz.f109 0) AZv AZr v:=by
 rintro⟨a0,a1,a2,a3,a4,a5,a6,a7,a8,a9,a10,a11,a12,⟨⟩⟩
 kernel_rfl
theorem Aej:AD (AB Tryz.f109 0) 1=[]:=by kernel_rfl
theorem Aem:Aa Tryz.prog 2 (.loop (AB Tryz.f109 0)) (ZH.loop 0):=AX Gd (AVu) (AA Aej trivial)
theorem Ac5:∀ v,ATl v=AS Tryz.prog Jm ZH Tryz.f109 AZw AZs AZo v:=by
 rintro⟨a0,a1,a2,a3,a4,a5,a6,a7,a8,a9,a10,⟨⟩⟩
 kernel_rfl
theorem AfP:AD (AW Tryz.f109) 0=[(0,AB Tryz.f109 0),(1,AB Tryz.f109 1),(2,AB Tryz.f109 2)]:=by kernel_rfl
theorem AZn:AT Tryz.prog 109 (AG 4 AZw AZs AZo pat):=AK Gd Tryz.func109 (by kernel_rfl) (by kernel_rfl) rfl (fun v=>(AZx v).trans (Ac5 v)) (AA AfP ⟨Aem,Ael,Aek,trivial⟩)
def AUh:Env:=Jm.ext 109 false true (AG 4 AZw AZs AZo pat)
theorem AB2:Ac Tryz.prog AUh:=Env.Ad Gd AZn ((by simp)) (fun _=>AL rfl rfl)
abbrev APq:Hints:={ loop:=fun n=>match n with|0=>Ab 0 81 ATe ATd D4|_=>fun _ _ _=>none,fp:=fun n=>match n with|9=>[[],[4],[4],[4],[],[4],[4],[4],[1],[3],[]]|5=>[[0],[0],[0],[0],[],[],[0],[0],[],[],[],[],[16],[],[14],[14],[],[0],[0],[],[],[18],[]]|_=>[] }
theorem APm:∀ v,D4 v=roundOf Tryz.prog AUh APq 1 0 81 (AB Tryz.f60 0) ATe ATd v:=by
 rintro⟨a0,a1,a2,a3,a4,a5,a6,a7,a8,a9,a10,a11,a12,a13,a14,a15,a16,a17,a18,⟨⟩⟩
 kernel_rfl
theorem Acr:AD (AB Tryz.f60 0) 1=[]:=by kernel_rfl
theorem Acs:Aa Tryz.prog 0 (.loop (AB Tryz.f60 0)) (APq.loop 0):=AX AB2 (APm) (AA Acr trivial)
theorem AZW:∀ v,Yk v=AS Tryz.prog AUh APq Tryz.f60 APp APo APn v:=by
 rintro⟨a0,a1,a2,⟨⟩⟩
 kernel_rfl
theorem Aed:AD (AW Tryz.f60) 0=[(0,AB Tryz.f60 0)]:=by kernel_rfl
theorem AVd:AT Tryz.prog 60 (AG 3 APp APo APn ACT):=AK AB2 Tryz.func60 (by kernel_rfl) (by kernel_rfl) rfl (fun v=>(AGT v).trans (AZW v)) (AA Aed ⟨Acs,trivial⟩)
def AJR:Env:=AUh.ext 60 true true (AG 3 APp APo APn ACT)
theorem Te:Ac Tryz.prog AJR:=Env.Ad AB2 AVd (fun _=>AP rfl rfl) (fun _=>AL rfl rfl)
abbrev AGg:Hints:={ loop:=fun n=>match n with|0=>Ab 0 55 AK5 AK4 Dw|_=>fun _ _ _=>none,fp:=fun n=>match n with|12=>[[20],[],[22],[],[5,24],[7],[]]|_=>[] }
theorem AK3:∀ v,Dw v=roundOf Tryz.prog AJR AGg 1 0 55 (AB Tryz.f66 0) AK5 AK4 v:=by
 rintro⟨a0,a1,a2,a3,a4,a5,a6,a7,a8,⟨⟩⟩
 kernel_rfl
theorem AZh:AD (AB Tryz.f66 0) 1=[]:=by kernel_rfl
theorem AZi:Aa Tryz.prog 0 (.loop (AB Tryz.f66 0)) (AGg.loop 0):=AX Te (AK3) (AA AZh trivial)
theorem AVo:∀ v,W1 v=AS Tryz.prog AJR AGg Tryz.f66 AGf AGe AGd v:=by
 rintro⟨a0,a1,⟨⟩⟩
 kernel_rfl
theorem Acv:AD (AW Tryz.f66) 0=[(0,AB Tryz.f66 0)]:=by kernel_rfl
theorem AQD:AT Tryz.prog 66 (AG 2 AGf AGe AGd AD8):=AK Te Tryz.func66 (by kernel_rfl) (by kernel_rfl) rfl (fun v=>(AK6 v).trans (AVo v)) (AA Acv ⟨AZi,trivial⟩)
def XO:Env:=AJR.ext 66 true true (AG 2 AGf AGe AGd AD8)
theorem PB:Ac Tryz.prog XO:=Env.Ad Te AQD (fun _=>AP rfl rfl) (fun _=>AL rfl rfl)
end
end Go.Pev
end
section
namespace Go.Pev
open Go.Proofs
noncomputable section
abbrev X9:Hints:={ loop:=fun n=>match n with|0=>Ab 0 26 ADm ADl FJ|_=>fun _ _ _=>none,fp:=fun n=>match n with|6=>[[],[],[],[],[],[],[],[],[]]|_=>[] }
theorem AF6:∀ v,FJ v=roundOf Tryz.prog XO X9 1 0 26 (AB Tryz.f67 0) ADm ADl v:=by
 rintro⟨a0,a1,a2,⟨⟩⟩
 kernel_rfl
theorem AVH:AD (AB Tryz.f67 0) 1=[]:=by kernel_rfl
theorem AVI:Aa Tryz.prog 0 (.loop (AB Tryz.f67 0)) (X9.loop 0):=AX PB (AF6) (AA AVH trivial)
theorem AO9:∀ v,PT v=AS Tryz.prog XO X9 Tryz.f67 X8 X7 X6 v:=by
 rintro⟨a0,a1,⟨⟩⟩
 kernel_rfl
theorem AY7:AD (AW Tryz.f67) 0=[(0,AB Tryz.f67 0)]:=by kernel_rfl
theorem AKX:AT Tryz.prog 67 (AG 2 X8 X7 X6 YA):=AK PB Tryz.func67 (by kernel_rfl) (by kernel_rfl) rfl (fun v=>(ADn v).trans (AO9 v)) (AA AY7 ⟨AVI,trivial⟩)
def ABt:Env:=XO.ext 67 true true (AG 2 X8 X7 X6 YA)
theorem VW:Ac Tryz.prog ABt:=Env.Ad PB AKX (fun _=>AP rfl rfl) (fun _=>AL rfl rfl)
abbrev AYF:Hints:={  }
theorem AOM:∀ v,Ta v=AS Tryz.prog ABt AYF Tryz.f58 TZ TY TX v:=by
 rintro⟨⟨⟩⟩
 kernel_rfl
theorem AYE:AD (AW Tryz.f58) 0=[]:=by kernel_rfl
theorem AJG:AT Tryz.prog 58 (AG 0 TZ TY TX Iv):=AK VW Tryz.func58 (by kernel_rfl) (by kernel_rfl) rfl (fun v=>(AS2 v).trans (AOM v)) (AA AYE trivial)
def Tu:Env:=ABt.ext 58 true true (AG 0 TZ TY TX Iv)
theorem RU:Ac Tryz.prog Tu:=Env.Ad VW AJG (fun _=>AP rfl rfl) (fun _=>AL rfl rfl)
abbrev AXN:Hints:={  }
theorem ANQ:∀ v,NK v=AS Tryz.prog Tu AXN Tryz.f59 S5 S4 S3 v:=by
 rintro⟨a0,a1,⟨⟩⟩
 kernel_rfl
theorem AXM:AD (AW Tryz.f59) 0=[]:=by kernel_rfl
theorem AIL:AT Tryz.prog 59 (AG 2 S5 S4 S3 NL):=AK RU Tryz.func59 (by kernel_rfl) (by kernel_rfl) rfl (fun v=>(AAZ v).trans (ANQ v)) (AA AXM trivial)
def AFB:Env:=Tu.ext 59 true true (AG 2 S5 S4 S3 NL)
theorem AJZ:Ac Tryz.prog AFB:=Env.Ad RU AIL (fun _=>AP rfl rfl) (fun _=>AL rfl rfl)
abbrev AGR:Hints:={  }
theorem Yj:∀ v,Gy v=AS Tryz.prog AFB AGR Tryz.f10 J2 J1 J0 v:=by
 rintro⟨a0,a1,⟨⟩⟩
 kernel_rfl
theorem AGQ:AD (AW Tryz.f10) 0=[]:=by kernel_rfl
theorem WH:AT Tryz.prog 10 (AG 2 J2 J1 J0 FO):=AK AJZ Tryz.func10 (by kernel_rfl) (by kernel_rfl) rfl (fun v=>(No v).trans (Yj v)) (AA AGQ trivial)
end
end Go.Pev
end
section

end
