/- A part of the proofs of this seat: G24kP3 G24kP4 G24kP5 G24kP6 G24kP7 G24kP8 G24kP9 G24kP10 G24kP11 G24kP12 G24kP. -/
import Derived.Test.YtaamkoofmojajaaGreatP7f0c4780cc
set_option linter.unusedVariables false
set_option linter.unusedSimpArgs false
set_option linter.unusedSectionVars false
set_option maxRecDepth 100000
section
namespace Go.Pev
open Go.Proofs
noncomputable section
abbrev AWm:Hints:={ loop:=fun n=>match n with|0=>Aa 0 107 AZA AY9 JK|_=>fun _ _ _=>none,fp:=fun n=>match n with|8=>[[],[],[],[],[],[],[],[],[1000003],[],[],[],[],[],[],[],[],[0],[0],[0],[],[0],[0],[0],[2,26],[],[2,26],[2,26],[],[],[],[],[]]|13=>[[],[0],[0],[0],[2],[],[],[],[0],[0],[0],[6],[],[0],[0],[0],[4],[],[],[]]|3=>[[],[],[],[],[],[],[],[],[11],[],[],[],[8,10,12],[]]|_=>[] }
theorem AWi:∀ v,JK v=roundOf Tryz.prog O1 AWm 1 0 107 (AB Tryz.f178 0) AZA AY9 v:=by
 rintro⟨a0,a1,a2,a3,a4,a5,a6,⟨⟩⟩
 kernel_rfl
theorem AjM:AD (AB Tryz.f178 0) 1=[]:=by kernel_rfl
theorem AjN:AZ Tryz.prog 0 (.loop (AB Tryz.f178 0)) (AWm.loop 0):=AW Lm (AWi) (AA AjM trivial)
theorem Ago:∀ v,AMB v=AR Tryz.prog O1 AWm Tryz.f178 AWl AWk AWj v:=by
 rintro⟨a0,a1,⟨⟩⟩
 kernel_rfl
theorem Akh:AD (AU Tryz.f178) 0=[(0,AB Tryz.f178 0)]:=by kernel_rfl
theorem Acg:AT Tryz.prog 178 (AG 2 AWl AWk AWj Agq):=AI Lm Tryz.func178 (by kernel_rfl) (by kernel_rfl) rfl (fun v=>(AZB v).trans (Ago v)) (AA Akh ⟨AjN,trivial⟩)
def XF:Env:=O1.ext 178 true true (AG 2 AWl AWk AWj Agq)
theorem KP:Ac Tryz.prog XF:=Env.AY Lm Acg (fun _=>AL rfl rfl) (fun _=>AJ rfl rfl)
abbrev Hy:Hints:={ loop:=fun n=>match n with|0=>Aa 0 87 AGw AGt Dt|1=>Aa 0 87 AGv AGs Ds|2=>Aa 0 87 AGu AGr Ey|_=>fun _ _ _=>none,fp:=fun n=>match n with|8=>[[],[],[],[],[],[],[],[],[],[],[],[],[],[],[],[],[],[],[],[],[],[],[],[],[0],[0],[],[],[],[]]|_=>[] }
theorem AIx:∀ v,Ey v=roundOf Tryz.prog XF Hy 3 0 87 (AB Tryz.f153 2) AGu AGr v:=by
 rintro⟨a0,a1,a2,⟨⟩⟩
 kernel_rfl
theorem AZf:AD (AB Tryz.f153 2) 3=[]:=by kernel_rfl
theorem AZi:AZ Tryz.prog 0 (.loop (AB Tryz.f153 2)) (Hy.loop 2):=AW KP (AIx) (AA AZf trivial)
theorem AIy:∀ v,Ds v=roundOf Tryz.prog XF Hy 2 0 87 (AB Tryz.f153 1) AGv AGs v:=by
 rintro⟨a0,a1,a2,a3,a4,a5,a6,a7,a8,a9,a10,a11,a12,a13,a14,a15,a16,a17,a18,a19,a20,a21,a22,a23,a24,a25,⟨⟩⟩
 kernel_rfl
theorem AZg:AD (AB Tryz.f153 1) 2=[]:=by kernel_rfl
theorem AZj:AZ Tryz.prog 0 (.loop (AB Tryz.f153 1)) (Hy.loop 1):=AW KP (AIy) (AA AZg trivial)
theorem AIz:∀ v,Dt v=roundOf Tryz.prog XF Hy 1 0 87 (AB Tryz.f153 0) AGw AGt v:=by
 rintro⟨a0,a1,a2,a3,a4,a5,a6,⟨⟩⟩
 kernel_rfl
theorem AZh:AD (AB Tryz.f153 0) 1=[(1,AB Tryz.f153 1)]:=by kernel_rfl
theorem AZk:AZ Tryz.prog 0 (.loop (AB Tryz.f153 0)) (Hy.loop 0):=AW KP (AIz) (AA AZh ⟨AZj,trivial⟩)
theorem ASw:∀ v,Q8 v=AR Tryz.prog XF Hy Tryz.f153 AAB AAA Z9 v:=by
 rintro⟨a0,⟨⟩⟩
 kernel_rfl
theorem Adk:AD (AU Tryz.f153) 0=[(0,AB Tryz.f153 0),(2,AB Tryz.f153 2)]:=by kernel_rfl
theorem ANy:AT Tryz.prog 153 (AG 1 AAB AAA Z9 PZ):=AI KP Tryz.func153 (by kernel_rfl) (by kernel_rfl) rfl (fun v=>(AGx v).trans (ASw v)) (AA Adk ⟨AZk,AZi,trivial⟩)
def AEp:Env:=XF.ext 153 true true (AG 1 AAB AAA Z9 PZ)
theorem YJ:Ac Tryz.prog AEp:=Env.AY KP ANy (fun _=>AL rfl rfl) (fun _=>AJ rfl rfl)
abbrev Ajf:Hints:={  }
theorem AdJ:∀ v,Zf v=AR Tryz.prog AEp Ajf Tryz.f184 AM2 AM1 AM0 v:=by
 rintro⟨a0,a1,a2,⟨⟩⟩
 kernel_rfl
theorem Aje:AD (AU Tryz.f184) 0=[]:=by kernel_rfl
theorem AXo:AT Tryz.prog 184 (AG 3 AM2 AM1 AM0 asked):=AI YJ Tryz.func184 (by kernel_rfl) (by kernel_rfl) rfl (fun v=>(ASQ v).trans (AdJ v)) (AA Aje trivial)
def ANa:Env:=AEp.ext 184 true true (AG 3 AM2 AM1 AM0 asked)
theorem AFK:Ac Tryz.prog ANa:=Env.AY YJ AXo (fun _=>AL rfl rfl) (fun _=>AJ rfl rfl)
abbrev AkV:Hints:={  }
theorem Af0:∀ v,VK v=AR Tryz.prog ANa AkV Tryz.f118 AVY AVX AVW v:=by
 rintro⟨a0,⟨⟩⟩
 kernel_rfl
theorem AkU:AD (AU Tryz.f118) 0=[]:=by kernel_rfl
theorem AbO:AT Tryz.prog 118 (AG 1 AVY AVX AVW AVZ):=AI AFK Tryz.func118 (by kernel_rfl) (by kernel_rfl) rfl (fun v=>(ZS v).trans (Af0 v)) (AA AkU trivial)
def AX3:Env:=ANa.ext 118 true true (AG 1 AVY AVX AVW AVZ)
theorem AIe:Ac Tryz.prog AX3:=Env.AY AFK AbO (fun _=>AL rfl rfl) (fun _=>AJ rfl rfl)
abbrev AXR:Hints:={  }
theorem AMZ:∀ v,Ir v=AR Tryz.prog AX3 AXR Tryz.f74 Qd Qc Qb v:=by
 rintro⟨a0,a1,⟨⟩⟩
 kernel_rfl
theorem AXQ:AD (AU Tryz.f74) 0=[]:=by kernel_rfl
theorem AGa:AT Tryz.prog 74 (AG 2 Qd Qc Qb Fj):=AI AIe Tryz.func74 (by kernel_rfl) (by kernel_rfl) rfl (fun v=>(NM v).trans (AMZ v)) (AA AXQ trivial)
def Qw:Env:=AX3.ext 74 true true (AG 2 Qd Qc Qb Fj)
theorem PT:Ac Tryz.prog Qw:=Env.AY AIe AGa (fun _=>AL rfl rfl) (fun _=>AJ rfl rfl)
abbrev Aho:Hints:={ fp:=fun n=>match n with|1=>[[],[],[],[],[],[],[],[]]|_=>[] }
theorem AZb:∀ v,Y7 v=AR Tryz.prog Qw Aho Tryz.f204 AIp AIo AIn v:=by
 rintro⟨a0,a1,⟨⟩⟩
 kernel_rfl
theorem Ahn:AD (AU Tryz.f204) 0=[]:=by kernel_rfl
theorem ASn:AT Tryz.prog 204 (AG 2 AIp AIo AIn BI):=AI PT Tryz.func204 (by kernel_rfl) (by kernel_rfl) rfl (fun v=>(ANg v).trans (AZb v)) (AA Ahn trivial)
def ANJ:Env:=Qw.ext 204 true true (AG 2 AIp AIo AIn BI)
theorem AEm:Ac Tryz.prog ANJ:=Env.AY PT ASn (fun _=>AL rfl rfl) (fun _=>AJ rfl rfl)
abbrev Aiw:Hints:={  }
theorem Aby:∀ v,ZW v=AR Tryz.prog ANJ Aiw Tryz.f134 ALb ALa ALZ v:=by
 rintro⟨a0,⟨⟩⟩
 kernel_rfl
theorem Aiv:AD (AU Tryz.f134) 0=[]:=by kernel_rfl
theorem AV6:AT Tryz.prog 134 (AG 1 ALb ALa ALZ AQ4):=AI AEm Tryz.func134 (by kernel_rfl) (by kernel_rfl) rfl (fun v=>(AQ3 v).trans (Aby v)) (AA Aiv trivial)
def ANW:Env:=ANJ.ext 134 true true (AG 1 ALb ALa ALZ AQ4)
theorem AFB:Ac Tryz.prog ANW:=Env.AY AEm AV6 (fun _=>AL rfl rfl) (fun _=>AJ rfl rfl)
abbrev AdG:Hints:={  }
theorem ASP:∀ v,Oe v=AR Tryz.prog ANW AdG Tryz.f100 Wo Wn Wm v:=by
 rintro⟨a0,⟨⟩⟩
 kernel_rfl
theorem AdF:AD (AU Tryz.f100) 0=[]:=by kernel_rfl
theorem AMx:AT Tryz.prog 100 (AG 1 Wo Wn Wm bitsLen):=AI AFB Tryz.func100 (by kernel_rfl) (by kernel_rfl) rfl (fun v=>(AEc v).trans (ASP v)) (AA AdF trivial)
def XK:Env:=ANW.ext 100 true true (AG 1 Wo Wn Wm bitsLen)
theorem TO:Ac Tryz.prog XK:=Env.AY AFB AMx (fun _=>AL rfl rfl) (fun _=>AJ rfl rfl)
abbrev AZa:Hints:={ fp:=fun n=>match n with|3=>[[],[0],[0],[],[0],[0],[],[],[0],[1]]|2=>[[],[0],[0],[],[0],[0],[],[],[0],[1]]|1=>[[],[0],[0],[],[0],[0],[],[],[0],[1]]|_=>[] }
theorem ANc:∀ v,Nn v=AR Tryz.prog XK AZa Tryz.f191 TV TU TT v:=by
 rintro⟨a0,⟨⟩⟩
 kernel_rfl
theorem AZZ:AD (AU Tryz.f191) 0=[]:=by kernel_rfl
theorem AIm:AT Tryz.prog 191 (AG 1 TV TU TT xorNext):=AI TO Tryz.func191 (by kernel_rfl) (by kernel_rfl) rfl (fun v=>(Zq v).trans (ANc v)) (AA AZZ trivial)
def W0:Env:=XK.ext 191 false true (AG 1 TV TU TT xorNext)
theorem Sm:Ac Tryz.prog W0:=Env.AY TO AIm ((by simp)) (fun _=>AJ rfl rfl)
abbrev AbL:Hints:={  }
theorem AQZ:∀ v,OH v=AR Tryz.prog W0 AbL Tryz.f190 VJ VI VH v:=by
 rintro⟨a0,⟨⟩⟩
 kernel_rfl
theorem AbK:AD (AU Tryz.f190) 0=[]:=by kernel_rfl
theorem AK4:AT Tryz.prog 190 (AG 1 VJ VI VH OI):=AI Sm Tryz.func190 (by kernel_rfl) (by kernel_rfl) rfl (fun v=>(ACf v).trans (AQZ v)) (AA AbK trivial)
def KM:Env:=W0.ext 190 true true (AG 1 VJ VI VH OI)
theorem He:Ac Tryz.prog KM:=Env.AY Sm AK4 (fun _=>AL rfl rfl) (fun _=>AJ rfl rfl)
abbrev ADQ:Hints:={ loop:=fun n=>match n with|0=>Aa 1 53 AYx AYv AYt|1=>Aa 1 53 AYw AYu AYs|_=>fun _ _ _=>none,fp:=fun n=>match n with|4=>[[],[],[],[],[],[],[],[0],[0],[],[],[],[0],[0],[],[],[]]|6=>[[],[],[],[],[],[],[],[],[0],[0],[],[],[0],[0],[0],[1],[0],[1]]|_=>[] }
theorem AWH:∀ v,AYs v=roundOf Tryz.prog KM ADQ 2 1 53 (AB Tryz.f207 1) AYw AYu v:=by
 rintro⟨a0,a1,a2,a3,a4,⟨⟩⟩
 kernel_rfl
theorem Aiy:AD (AB Tryz.f207 1) 2=[]:=by kernel_rfl
theorem Ai0:AZ Tryz.prog 1 (.loop (AB Tryz.f207 1)) (ADQ.loop 1):=AW He (AWH) (AA Aiy trivial)
theorem AWI:∀ v,AYt v=roundOf Tryz.prog KM ADQ 1 1 53 (AB Tryz.f207 0) AYx AYv v:=by
 rintro⟨a0,a1,a2,a3,⟨⟩⟩
 kernel_rfl
theorem Aiz:AD (AB Tryz.f207 0) 1=[(1,AB Tryz.f207 1)]:=by kernel_rfl
theorem Ai1:AZ Tryz.prog 1 (.loop (AB Tryz.f207 0)) (ADQ.loop 0):=AW He (AWI) (AA Aiz ⟨Ai0,trivial⟩)
theorem AgJ:∀ v,AgK v=AR Tryz.prog KM ADQ Tryz.f207 AWL AWK AWJ v:=by
 rintro⟨a0,a1,a2,⟨⟩⟩
 kernel_rfl
theorem Aka:AD (AU Tryz.f207) 0=[(0,AB Tryz.f207 0)]:=by kernel_rfl
theorem Ab3:AT Tryz.prog 207 (AG 4 AWL AWK AWJ Akb):=AI He Tryz.func207 (by kernel_rfl) (by kernel_rfl) rfl (fun v=>(Ai2 v).trans (AgJ v)) (AA Aka ⟨Ai1,trivial⟩)
def ANX:Env:=KM.Fa 207 3 204 (AG 4 AWL AWK AWJ Akb)
theorem XD:Ac Tryz.prog ANX:=Env.Bf He Ab3 (AJ rfl rfl)
abbrev AJZ:Hints:={ loop:=fun n=>match n with|0=>Aa 1 82 AOR AOQ AOP|_=>fun _ _ _=>none,fp:=fun n=>match n with|6=>[[],[],[],[],[],[],[],[],[],[],[],[],[0],[0],[],[],[],[],[0],[0],[0],[1],[0],[1]]|5=>[[],[],[],[],[],[0],[0],[],[],[],[],[0],[0],[],[],[]]|3=>[[],[],[],[],[],[],[],[],[],[],[0],[0],[],[],[],[],[],[0],[0],[],[],[]]|_=>[] }
theorem AOO:∀ v,AOP v=roundOf Tryz.prog ANX AJZ 1 1 82 (AB Tryz.f215 0) AOR AOQ v:=by
 rintro⟨a0,a1,a2,a3,⟨⟩⟩
 kernel_rfl
theorem AeE:AD (AB Tryz.f215 0) 1=[]:=by kernel_rfl
theorem AeF:AZ Tryz.prog 1 (.loop (AB Tryz.f215 0)) (AJZ.loop 0):=AW XD (AOO) (AA AeE trivial)
theorem AaC:∀ v,AYJ v=AR Tryz.prog ANX AJZ Tryz.f215 AJY AJX AJW v:=by
 rintro⟨a0,a1,a2,a3,⟨⟩⟩
 kernel_rfl
theorem Ah7:AD (AU Tryz.f215) 0=[(0,AB Tryz.f215 0)]:=by kernel_rfl
theorem ATU:AT Tryz.prog 215 (AG 5 AJY AJX AJW AeH):=AI XD Tryz.func215 (by kernel_rfl) (by kernel_rfl) rfl (fun v=>(AeG v).trans (AaC v)) (AA Ah7 ⟨AeF,trivial⟩)
def Sv:Env:=ANX.Fa 215 4 204 (AG 5 AJY AJX AJW AeH)
theorem LW:Ac Tryz.prog Sv:=Env.Bf XD ATU (AJ rfl rfl)
end
end Go.Pev
end
section
namespace Go.Pev
open Go.Proofs
noncomputable section
abbrev SC:Hints:={ loop:=fun n=>match n with|0=>Aa 1 60 ARH ARF ARD|1=>Aa 1 60 ARG ARE ARB|_=>fun _ _ _=>none,fp:=fun n=>match n with|10=>[[],[],[],[],[],[],[],[],[],[],[0],[0],[],[],[0],[0],[0],[1],[0],[1]]|_=>[] }
theorem ARA:∀ v,ARB v=roundOf Tryz.prog Sv SC 2 1 60 (AB Tryz.f208 1) ARG ARE v:=by
 rintro⟨a0,a1,a2,a3,⟨⟩⟩
 kernel_rfl
theorem AgX:AD (AB Tryz.f208 1) 2=[]:=by kernel_rfl
theorem AgZ:AZ Tryz.prog 1 (.loop (AB Tryz.f208 1)) (SC.loop 1):=AW LW (ARA) (AA AgX trivial)
theorem ARC:∀ v,ARD v=roundOf Tryz.prog Sv SC 1 1 60 (AB Tryz.f208 0) ARH ARF v:=by
 rintro⟨a0,a1,a2,a3,a4,⟨⟩⟩
 kernel_rfl
theorem AgY:AD (AB Tryz.f208 0) 1=[]:=by kernel_rfl
theorem Aga:AZ Tryz.prog 1 (.loop (AB Tryz.f208 0)) (SC.loop 0):=AW LW (ARC) (AA AgY trivial)
theorem AcI:∀ v,AY6 v=AR Tryz.prog Sv SC Tryz.f208 ALs ALr ALq v:=by
 rintro⟨a0,a1,a2,⟨⟩⟩
 kernel_rfl
theorem AjC:AD (AU Tryz.f208) 0=[(0,AB Tryz.f208 0),(1,AB Tryz.f208 1)]:=by kernel_rfl
theorem AWZ:AT Tryz.prog 208 (AG 4 ALs ALr ALq Agc):=AI LW Tryz.func208 (by kernel_rfl) (by kernel_rfl) rfl (fun v=>(Agb v).trans (AcI v)) (AA AjC ⟨Aga,AgZ,trivial⟩)
def Zl:Env:=Sv.Fa 208 3 204 (AG 4 ALs ALr ALq Agc)
theorem Qr:Ac Tryz.prog Zl:=Env.Bf LW AWZ (AJ rfl rfl)
abbrev AEW:Hints:={ loop:=fun n=>match n with|0=>Aa 1 67 AIN AIM AIL|_=>fun _ _ _=>none,fp:=fun n=>match n with|10=>[[],[],[],[],[],[],[],[],[],[],[0],[0],[],[],[0],[0],[0],[1],[0],[1]]|_=>[] }
theorem AMu:∀ v,AIL v=roundOf Tryz.prog Zl AEW 1 1 67 (AB Tryz.f209 0) AIN AIM v:=by
 rintro⟨a0,a1,a2,a3,a4,a5,⟨⟩⟩
 kernel_rfl
theorem Ac9:AD (AB Tryz.f209 0) 1=[]:=by kernel_rfl
theorem AdA:AZ Tryz.prog 1 (.loop (AB Tryz.f209 0)) (AEW.loop 0):=AW Qr (AMu) (AA Ac9 trivial)
theorem AXc:∀ v,ASL v=AR Tryz.prog Zl AEW Tryz.f209 AEV AEU AET v:=by
 rintro⟨a0,a1,a2,⟨⟩⟩
 kernel_rfl
theorem AhU:AD (AU Tryz.f209) 0=[(0,AB Tryz.f209 0)]:=by kernel_rfl
theorem ASK:AT Tryz.prog 209 (AG 4 AEV AEU AET AXd):=AI Qr Tryz.func209 (by kernel_rfl) (by kernel_rfl) rfl (fun v=>(AdB v).trans (AXc v)) (AA AhU ⟨AdA,trivial⟩)
def AFI:Env:=Zl.Fa 209 3 204 (AG 4 AEV AEU AET AXd)
theorem YX:Ac Tryz.prog AFI:=Env.Bf Qr ASK (AJ rfl rfl)
abbrev AbA:Hints:={ fp:=fun n=>match n with|1=>[[],[],[],[0],[0],[],[],[0],[0],[],[]]|_=>[] }
theorem AQT:∀ v,AHa v=AR Tryz.prog AFI AbA Tryz.f218 VD VC VB v:=by
 rintro⟨a0,a1,a2,a3,⟨⟩⟩
 kernel_rfl
theorem Aa9:AD (AU Tryz.f218) 0=[]:=by kernel_rfl
theorem AKt:AT Tryz.prog 218 (AG 5 VD VC VB AKu):=AI YX Tryz.func218 (by kernel_rfl) (by kernel_rfl) rfl (fun v=>(AVH v).trans (AQT v)) (AA Aa9 trivial)
def W5:Env:=AFI.Fa 218 4 204 (AG 5 VD VC VB AKu)
theorem S2:Ac Tryz.prog W5:=Env.Bf YX AKt (AJ rfl rfl)
abbrev AbV:Hints:={  }
theorem AQh:∀ v,AHd v=AR Tryz.prog W5 AbV Tryz.f217 VO VN VM v:=by
 rintro⟨a0,a1,a2,a3,a4,⟨⟩⟩
 kernel_rfl
theorem AbU:AD (AU Tryz.f217) 0=[]:=by kernel_rfl
theorem ALE:AT Tryz.prog 217 (AG 6 VO VN VM ALF):=AI S2 Tryz.func217 (by kernel_rfl) (by kernel_rfl) rfl (fun v=>(AVj v).trans (AQh v)) (AA AbU trivial)
def W7:Env:=W5.Fa 217 5 204 (AG 6 VO VN VM ALF)
theorem S4:Ac Tryz.prog W7:=Env.Bf S2 ALE (AJ rfl rfl)
abbrev AbZ:Hints:={  }
theorem AQj:∀ v,AHe v=AR Tryz.prog W7 AbZ Tryz.f216 VU VT VS v:=by
 rintro⟨a0,a1,a2,⟨⟩⟩
 kernel_rfl
theorem AbY:AD (AU Tryz.f216) 0=[]:=by kernel_rfl
theorem ALH:AT Tryz.prog 216 (AG 4 VU VT VS ALI):=AI S4 Tryz.func216 (by kernel_rfl) (by kernel_rfl) rfl (fun v=>(AVl v).trans (AQj v)) (AA AbY trivial)
def W9:Env:=W7.Fa 216 3 204 (AG 4 VU VT VS ALI)
theorem S6:Ac Tryz.prog W9:=Env.Bf S4 ALH (AJ rfl rfl)
abbrev Aes:Hints:={  }
theorem AUc:∀ v,APB v=AR Tryz.prog W9 Aes Tryz.f210 ABn ABm ABl v:=by
 rintro⟨a0,a1,a2,⟨⟩⟩
 kernel_rfl
theorem Aer:AD (AU Tryz.f210) 0=[]:=by kernel_rfl
theorem APA:AT Tryz.prog 210 (AG 4 ABn ABm ABl AUd):=AI S6 Tryz.func210 (by kernel_rfl) (by kernel_rfl) rfl (fun v=>(Aam v).trans (AUc v)) (AA Aer trivial)
def S0:Env:=W9.Fa 210 3 204 (AG 4 ABn ABm ABl AUd)
theorem Nd:Ac Tryz.prog S0:=Env.Bf S6 APA (AJ rfl rfl)
abbrev ATz:Hints:={ loop:=fun n=>match n with|0=>Aa 1 34 AYN AYM AYL|_=>fun _ _ _=>none,fp:=fun n=>match n with|3=>[[],[],[],[],[],[],[0],[0],[],[],[0],[0],[0],[1],[0],[1]]|_=>[] }
theorem ATv:∀ v,AYL v=roundOf Tryz.prog S0 ATz 1 1 34 (AB Tryz.f211 0) AYN AYM v:=by
 rintro⟨a0,a1,a2,⟨⟩⟩
 kernel_rfl
theorem AiD:AD (AB Tryz.f211 0) 1=[]:=by kernel_rfl
theorem AiE:AZ Tryz.prog 1 (.loop (AB Tryz.f211 0)) (ATz.loop 0):=AW Nd (ATv) (AA AiD trivial)
theorem AeT:∀ v,AeU v=AR Tryz.prog S0 ATz Tryz.f211 ATy ATx ATw v:=by
 rintro⟨a0,a1,a2,⟨⟩⟩
 kernel_rfl
theorem Aj5:AD (AU Tryz.f211) 0=[(0,AB Tryz.f211 0)]:=by kernel_rfl
theorem AaR:AT Tryz.prog 211 (AG 4 ATy ATx ATw Aj6):=AI Nd Tryz.func211 (by kernel_rfl) (by kernel_rfl) rfl (fun v=>(AiF v).trans (AeT v)) (AA Aj5 ⟨AiE,trivial⟩)
def Qn:Env:=S0.Fa 211 3 204 (AG 4 ATy ATx ATw Aj6)
theorem Ht:Ac Tryz.prog Qn:=Env.Bf Nd AaR (AJ rfl rfl)
abbrev C5:Hints:={ loop:=fun n=>match n with|0=>Aa 1 141 Xn Xj Xf|1=>Aa 1 141 Xm Xi Xe|2=>Aa 1 141 Xl Xh Xd|3=>Aa 1 141 Xk Xg Xc|_=>fun _ _ _=>none,fp:=fun n=>match n with|11=>[[],[],[],[],[],[],[],[],[0],[0],[],[],[0],[0],[0],[1],[0],[1]]|5=>[[],[],[],[],[],[],[],[0],[0],[],[],[],[0],[0],[],[],[],[]]|17=>[[],[],[],[],[],[],[],[],[0],[0],[],[],[0],[0],[0],[1],[0],[1]]|16=>[[],[],[],[0],[0],[],[],[],[0],[0],[],[],[]]|23=>[[],[],[],[],[],[],[],[],[0],[0],[],[],[0],[0],[0],[1],[0],[1]]|22=>[[],[],[],[0],[0],[],[],[],[0],[0],[],[],[]]|_=>[] }
theorem AB7:∀ v,Xc v=roundOf Tryz.prog Qn C5 4 1 141 (AB Tryz.f212 3) Xk Xg v:=by
 rintro⟨a0,a1,a2,a3,a4,a5,⟨⟩⟩
 kernel_rfl
theorem APi:AD (AB Tryz.f212 3) 4=[]:=by kernel_rfl
theorem APm:AZ Tryz.prog 1 (.loop (AB Tryz.f212 3)) (C5.loop 3):=AW Ht (AB7) (AA APi trivial)
theorem AB8:∀ v,Xd v=roundOf Tryz.prog Qn C5 3 1 141 (AB Tryz.f212 2) Xl Xh v:=by
 rintro⟨a0,a1,a2,a3,a4,a5,⟨⟩⟩
 kernel_rfl
theorem APj:AD (AB Tryz.f212 2) 3=[]:=by kernel_rfl
theorem APn:AZ Tryz.prog 1 (.loop (AB Tryz.f212 2)) (C5.loop 2):=AW Ht (AB8) (AA APj trivial)
theorem AB9:∀ v,Xe v=roundOf Tryz.prog Qn C5 2 1 141 (AB Tryz.f212 1) Xm Xi v:=by
 rintro⟨a0,a1,a2,a3,a4,⟨⟩⟩
 kernel_rfl
theorem APk:AD (AB Tryz.f212 1) 2=[]:=by kernel_rfl
theorem APo:AZ Tryz.prog 1 (.loop (AB Tryz.f212 1)) (C5.loop 1):=AW Ht (AB9) (AA APk trivial)
theorem ACA:∀ v,Xf v=roundOf Tryz.prog Qn C5 1 1 141 (AB Tryz.f212 0) Xn Xj v:=by
 rintro⟨a0,a1,a2,a3,a4,⟨⟩⟩
 kernel_rfl
theorem APl:AD (AB Tryz.f212 0) 1=[(1,AB Tryz.f212 1),(2,AB Tryz.f212 2),(3,AB Tryz.f212 3)]:=by kernel_rfl
theorem APp:AZ Tryz.prog 1 (.loop (AB Tryz.f212 0)) (C5.loop 0):=AW Ht (ACA) (AA APl ⟨APo,APn,APm,trivial⟩)
theorem AKh:∀ v,ACB v=AR Tryz.prog Qn C5 Tryz.f212 Pr Pq Pp v:=by
 rintro⟨a0,a1,a2,⟨⟩⟩
 kernel_rfl
theorem AUy:AD (AU Tryz.f212) 0=[(0,AB Tryz.f212 0)]:=by kernel_rfl
theorem AFr:AT Tryz.prog 212 (AG 4 Pr Pq Pp ACC):=AI Ht Tryz.func212 (by kernel_rfl) (by kernel_rfl) rfl (fun v=>(APq v).trans (AKh v)) (AA AUy ⟨APp,trivial⟩)
def Gb:Env:=Qn.Fa 212 3 204 (AG 4 Pr Pq Pp ACC)
theorem ES:Ac Tryz.prog Gb:=Env.Bf Ht AFr (AJ rfl rfl)
abbrev F7:Hints:={ loop:=fun n=>match n with|0=>Aa 1 90 ACQ ACN ACJ|1=>Aa 1 90 ACP ACL ACI|2=>Aa 1 90 ACO ACK ACH|_=>fun _ _ _=>none,fp:=fun n=>match n with|8=>[[],[],[],[],[],[],[0],[0],[],[],[0],[0],[0],[1],[0],[1]]|3=>[[],[],[],[],[],[],[],[0],[0],[],[],[0],[0],[],[],[],[]]|5=>[[],[],[],[],[],[],[],[0],[0],[],[],[0],[0],[],[],[]]|1=>[[],[],[],[],[],[],[0],[0],[],[],[0],[0],[0],[1],[0],[1]]|_=>[] }
theorem AFz:∀ v,ACH v=roundOf Tryz.prog Gb F7 3 1 90 (AB Tryz.f213 2) ACO ACK v:=by
 rintro⟨a0,a1,a2,a3,⟨⟩⟩
 kernel_rfl
theorem AU3:AD (AB Tryz.f213 2) 3=[]:=by kernel_rfl
theorem AU6:AZ Tryz.prog 1 (.loop (AB Tryz.f213 2)) (F7.loop 2):=AW ES (AFz) (AA AU3 trivial)
theorem AF0:∀ v,ACI v=roundOf Tryz.prog Gb F7 2 1 90 (AB Tryz.f213 1) ACP ACL v:=by
 rintro⟨a0,a1,a2,a3,⟨⟩⟩
 kernel_rfl
theorem AU4:AD (AB Tryz.f213 1) 2=[]:=by kernel_rfl
theorem AU7:AZ Tryz.prog 1 (.loop (AB Tryz.f213 1)) (F7.loop 1):=AW ES (AF0) (AA AU4 trivial)
theorem AF1:∀ v,ACJ v=roundOf Tryz.prog Gb F7 1 1 90 (AB Tryz.f213 0) ACQ ACN v:=by
 rintro⟨a0,a1,a2,a3,⟨⟩⟩
 kernel_rfl
theorem AU5:AD (AB Tryz.f213 0) 1=[(1,AB Tryz.f213 1),(2,AB Tryz.f213 2)]:=by kernel_rfl
theorem AU8:AZ Tryz.prog 1 (.loop (AB Tryz.f213 0)) (F7.loop 0):=AW ES (AF1) (AA AU5 ⟨AU7,AU6,trivial⟩)
theorem AQO:∀ v,AHX v=AR Tryz.prog Gb F7 Tryz.f213 UX UW UU v:=by
 rintro⟨a0,a1,a2,a3,⟨⟩⟩
 kernel_rfl
theorem Aa6:AD (AU Tryz.f213) 0=[(0,AB Tryz.f213 0)]:=by kernel_rfl
theorem AKo:AT Tryz.prog 213 (AG 5 UX UW UU AKp):=AI ES Tryz.func213 (by kernel_rfl) (by kernel_rfl) rfl (fun v=>(AU9 v).trans (AQO v)) (AA Aa6 ⟨AU8,trivial⟩)
def FE:Env:=Gb.Fa 213 4 204 (AG 5 UX UW UU AKp)
theorem DC:Ac Tryz.prog FE:=Env.Bf ES AKo (AJ rfl rfl)
abbrev FN:Hints:={ loop:=fun n=>match n with|0=>Aa 1 178 APh APc APX|1=>Aa 1 178 APg APb APV|2=>Aa 1 178 APf APa APT|3=>Aa 1 178 APe APZ APR|4=>Aa 1 178 APd APY APP|_=>fun _ _ _=>none,fp:=fun n=>match n with|3=>[[],[],[],[],[],[],[],[0],[0],[],[],[0],[0],[],[],[]]|5=>[[],[],[],[],[],[],[],[0],[0],[],[],[0],[0],[],[],[],[]]|18=>[[],[],[],[],[],[],[0],[0],[],[],[0],[0],[0],[1],[0],[1]]|13=>[[],[],[],[],[],[],[],[0],[0],[],[],[0],[0],[],[],[]]|15=>[[],[],[],[],[],[],[],[0],[0],[],[],[0],[0],[],[],[],[]]|21=>[[],[],[],[],[],[],[0],[0],[],[],[0],[0],[0],[1],[0],[1]]|10=>[[],[],[],[],[],[],[0],[0],[],[],[0],[0],[0],[1],[0],[1]]|8=>[[],[],[],[],[],[],[0],[0],[],[],[0],[0],[0],[1],[0],[1]]|1=>[[],[],[],[],[],[],[0],[0],[],[],[0],[0],[0],[1],[0],[1]]|_=>[] }
theorem APO:∀ v,APP v=roundOf Tryz.prog FE FN 5 1 178 (AB Tryz.f214 4) APd APY v:=by
 rintro⟨a0,a1,a2,a3,⟨⟩⟩
 kernel_rfl
theorem AfJ:AD (AB Tryz.f214 4) 5=[]:=by kernel_rfl
theorem AfO:AZ Tryz.prog 1 (.loop (AB Tryz.f214 4)) (FN.loop 4):=AW DC (APO) (AA AfJ trivial)
theorem APQ:∀ v,APR v=roundOf Tryz.prog FE FN 4 1 178 (AB Tryz.f214 3) APe APZ v:=by
 rintro⟨a0,a1,a2,a3,⟨⟩⟩
 kernel_rfl
theorem AfK:AD (AB Tryz.f214 3) 4=[]:=by kernel_rfl
theorem AfP:AZ Tryz.prog 1 (.loop (AB Tryz.f214 3)) (FN.loop 3):=AW DC (APQ) (AA AfK trivial)
theorem APS:∀ v,APT v=roundOf Tryz.prog FE FN 3 1 178 (AB Tryz.f214 2) APf APa v:=by
 rintro⟨a0,a1,a2,a3,⟨⟩⟩
 kernel_rfl
theorem AfL:AD (AB Tryz.f214 2) 3=[(3,AB Tryz.f214 3),(4,AB Tryz.f214 4)]:=by kernel_rfl
theorem AfQ:AZ Tryz.prog 1 (.loop (AB Tryz.f214 2)) (FN.loop 2):=AW DC (APS) (AA AfL ⟨AfP,AfO,trivial⟩)
theorem APU:∀ v,APV v=roundOf Tryz.prog FE FN 2 1 178 (AB Tryz.f214 1) APg APb v:=by
 rintro⟨a0,a1,a2,a3,⟨⟩⟩
 kernel_rfl
theorem AfM:AD (AB Tryz.f214 1) 2=[]:=by kernel_rfl
theorem AfR:AZ Tryz.prog 1 (.loop (AB Tryz.f214 1)) (FN.loop 1):=AW DC (APU) (AA AfM trivial)
theorem APW:∀ v,APX v=roundOf Tryz.prog FE FN 1 1 178 (AB Tryz.f214 0) APh APc v:=by
 rintro⟨a0,a1,a2,a3,⟨⟩⟩
 kernel_rfl
theorem AfN:AD (AB Tryz.f214 0) 1=[]:=by kernel_rfl
theorem AfS:AZ Tryz.prog 1 (.loop (AB Tryz.f214 0)) (FN.loop 0):=AW DC (APW) (AA AfN trivial)
theorem Aa2:∀ v,AYb v=AR Tryz.prog FE FN Tryz.f214 AKg AKf AKe v:=by
 rintro⟨a0,a1,a2,a3,⟨⟩⟩
 kernel_rfl
theorem Aid:AD (AU Tryz.f214) 0=[(0,AB Tryz.f214 0),(1,AB Tryz.f214 1),(2,AB Tryz.f214 2)]:=by kernel_rfl
theorem AUx:AT Tryz.prog 214 (AG 5 AKg AKf AKe AfU):=AI DC Tryz.func214 (by kernel_rfl) (by kernel_rfl) rfl (fun v=>(AfT v).trans (Aa2 v)) (AA Aid ⟨AfS,AfR,AfQ,trivial⟩)
def ANT:Env:=FE.Fa 214 4 204 (AG 5 AKg AKf AKe AfU)
theorem AE5:Ac Tryz.prog ANT:=Env.Bf DC AUx (AJ rfl rfl)
abbrev AUq(self:(List (List Int)×Int×Int×Int×Unit)→Option ((List (List Int)×Unit))):Hints:={ loop:=fun n=>match n with|0=>Aa 1 148 AYW AYV (AYU self)|_=>fun _ _ _=>none,fp:=fun n=>match n with|17=>[[],[],[],[],[],[],[],[0],[0],[],[],[0],[0],[],[],[],[]]|_=>[] }
abbrev AKW(self:(List (List Int)×Int×Int×Int×Unit)→Option ((List (List Int)×Unit))):Env:=ANT.ext 206 false true (AG 5 AB1 AB0 ABz self)
theorem AUp(self:(List (List Int)×Int×Int×Int×Unit)→Option ((List (List Int)×Unit))):∀ v,AYU self v=roundOf Tryz.prog (AKW self) (AUq self) 1 1 148 (AB Tryz.f206 0) AYW AYV v:=by
 rintro⟨a0,a1,a2,a3,a4,a5,⟨⟩⟩
 kernel_rfl
theorem AiT:AD (AB Tryz.f206 0) 1=[]:=by kernel_rfl
theorem AiU(self:(List (List Int)×Int×Int×Int×Unit)→Option ((List (List Int)×Unit)))(hE:Ac Tryz.prog (AKW self)):AZ Tryz.prog 1 (.loop (AB Tryz.f206 0)) ((AUq self).loop 0):=AW hE (AUp self) (AA AiT trivial)
theorem Ae3(self:(List (List Int)×Int×Int×Int×Unit)→Option ((List (List Int)×Unit))):∀ v,AkC self v=AR Tryz.prog (AKW self) (AUq self) Tryz.f206 AB1 AB0 ABz v:=by
 rintro⟨a0,a1,a2,a3,⟨⟩⟩
 kernel_rfl
theorem AkB:AD (AU Tryz.f206) 0=[(0,AB Tryz.f206 0)]:=by kernel_rfl
theorem AUr:∀ n,AT Tryz.prog 206 (AG 5 AB1 AB0 ABz (AB2 n)):=by
 intro n
 induction n with
 |zero=>exact X1 fun _=>rfl
 |succ n ih=>
  have hE:Ac Tryz.prog (AKW (AB2 n)):=Env.AY AE5 ih ((by simp)) (fun _=>AJ rfl rfl)
  let self:=AB2 n
  exact AI hE Tryz.func206 (by kernel_rfl) (by kernel_rfl) rfl (Ae3 self) (AA AkB ⟨(AiU self hE),trivial⟩)
theorem Aat:AT Tryz.prog 206 (AG 5 AB1 AB0 ABz AiW):=by
 have e:AiW=AB2 100:=funext AiV
 rw[e]
 exact AUr _
def AXz:Env:=ANT.Fa 206 4 204 (AG 5 AB1 AB0 ABz AiW)
theorem AIa:Ac Tryz.prog AXz:=Env.Bf AE5 Aat (AJ rfl rfl)
abbrev Ah3:Hints:={  }
theorem AZ8:∀ v,AYI v=AR Tryz.prog AXz Ah3 Tryz.f203 AJS AJR AJQ v:=by
 rintro⟨a0,⟨⟩⟩
 kernel_rfl
theorem Ah2:AD (AU Tryz.f203) 0=[]:=by kernel_rfl
theorem ATS:AT Tryz.prog 203 (AG 2 AJS AJR AJQ AOK):=AI AIa Tryz.func203 (by kernel_rfl) (by kernel_rfl) rfl (fun v=>(AeB v).trans (AZ8 v)) (AA Ah2 trivial)
def Su:Env:=AXz.Fa 203 1 204 (AG 2 AJS AJR AJQ AOK)
theorem LV:Ac Tryz.prog Su:=Env.Bf AIa ATS (AJ rfl rfl)
end
end Go.Pev
end
section
namespace Go.Pev
open Go.Proofs
noncomputable section
abbrev Q2:Hints:={ loop:=fun n=>match n with|0=>Aa 0 47 ANq ANo Hw|1=>Aa 0 47 ANp ANn Hv|_=>fun _ _ _=>none }
theorem ANl:∀ v,Hv v=roundOf Tryz.prog Su Q2 2 0 47 (AB Tryz.f188 1) ANp ANn v:=by
 rintro⟨a0,a1,a2,a3,a4,a5,a6,⟨⟩⟩
 kernel_rfl
theorem AdW:AD (AB Tryz.f188 1) 2=[]:=by kernel_rfl
theorem AdY:AZ Tryz.prog 0 (.loop (AB Tryz.f188 1)) (Q2.loop 1):=AW LV (ANl) (AA AdW trivial)
theorem ANm:∀ v,Hw v=roundOf Tryz.prog Su Q2 1 0 47 (AB Tryz.f188 0) ANq ANo v:=by
 rintro⟨a0,a1,a2,a3,a4,a5,a6,a7,a8,⟨⟩⟩
 kernel_rfl
theorem AdX:AD (AB Tryz.f188 0) 1=[]:=by kernel_rfl
theorem AdZ:AZ Tryz.prog 0 (.loop (AB Tryz.f188 0)) (Q2.loop 0):=AW LV (ANm) (AA AdX trivial)
theorem AZe:∀ v,Y8 v=AR Tryz.prog Su Q2 Tryz.f188 AIt AIs AIr v:=by
 rintro⟨a0,a1,a2,⟨⟩⟩
 kernel_rfl
theorem Ahp:AD (AU Tryz.f188) 0=[(0,AB Tryz.f188 0),(1,AB Tryz.f188 1)]:=by kernel_rfl
theorem ASr:AT Tryz.prog 188 (AG 3 AIt AIs AIr ANs):=AI LV Tryz.func188 (by kernel_rfl) (by kernel_rfl) rfl (fun v=>(ANr v).trans (AZe v)) (AA Ahp ⟨AdZ,AdY,trivial⟩)
def ANK:Env:=Su.ext 188 true true (AG 3 AIt AIs AIr ANs)
theorem AEn:Ac Tryz.prog ANK:=Env.AY LV ASr (fun _=>AL rfl rfl) (fun _=>AJ rfl rfl)
abbrev Ah0:Hints:={ fp:=fun n=>match n with|9=>[[],[28],[0],[0],[],[],[],[],[],[0],[0],[],[],[],[],[],[28],[28,52,36,62],[64],[]]|4=>[[0],[],[],[0],[],[],[],[]]|_=>[] }
theorem AZz:∀ v,HR v=AR Tryz.prog ANK Ah0 Tryz.f161 AJK AJJ AJI v:=by
 rintro⟨a0,a1,a2,⟨⟩⟩
 kernel_rfl
theorem Ahz:AD (AU Tryz.f161) 0=[]:=by kernel_rfl
theorem AS6:AT Tryz.prog 161 (AG 3 AJK AJJ AJI Lo):=AI AEn Tryz.func161 (by kernel_rfl) (by kernel_rfl) rfl (fun v=>(H6 v).trans (AZz v)) (AA Ahz trivial)
def ANL:Env:=ANK.ext 161 true true (AG 3 AJK AJJ AJI Lo)
theorem AEs:Ac Tryz.prog ANL:=Env.AY AEn AS6 (fun _=>AL rfl rfl) (fun _=>AJ rfl rfl)
theorem Ad6:Tryz.f155.body.isSome=true:=by kernel_rfl
theorem Ad5 : (Tryz.f155.name == "runtime.NumGoroutine") = false := by kernel_rfl
theorem Ad4:loops (AU Tryz.f155)=0:=by kernel_rfl
def LR:Env:=ANL.ext 155 false false (DF Tryz.prog ANL {} Tryz.f155)
theorem Jk:Ac Tryz.prog LR:=Env.AY AEs (Cy AEs Tryz.func155 Ad6 Ad5 Ad4) (by simp) (by simp)
abbrev GP:Hints:={ loop:=fun n=>match n with|0=>Aa 1 19 JI JH Bk|_=>fun _ _ _=>none }
theorem Mz:∀ v,Bk v=roundOf Tryz.prog LR GP 1 1 19 (AB Tryz.f174 0) JI JH v:=by
 rintro⟨a0,a1,a2,a3,a4,⟨⟩⟩
 kernel_rfl
theorem R7:AD (AB Tryz.f174 0) 1=[]:=by kernel_rfl
theorem R8:AZ Tryz.prog 1 (.loop (AB Tryz.f174 0)) (GP.loop 0):=AW Jk (Mz) (AA R7 trivial)
theorem QF:∀ v,D4 v=AR Tryz.prog LR GP Tryz.f174 GO GN GM v:=by
 rintro⟨a0,a1,a2,⟨⟩⟩
 kernel_rfl
theorem WG:AD (AU Tryz.f174) 0=[(0,AB Tryz.f174 0)]:=by kernel_rfl
theorem O7:AT Tryz.prog 174 (AG 2 GO GN GM FW):=AI Jk Tryz.func174 (by kernel_rfl) (by kernel_rfl) rfl (fun v=>(JJ v).trans (QF v)) (AA WG ⟨R8,trivial⟩)
def Ge:Env:=LR.Fa 174 1 155 (AG 2 GO GN GM FW)
theorem HP:Ac Tryz.prog Ge:=Env.Bf Jk O7 (AJ rfl rfl)
abbrev SY:Hints:={  }
theorem O8:∀ v,DS v=AR Tryz.prog Ge SY Tryz.f154 Fi Fh Fg v:=by
 rintro⟨a0,a1,a2,⟨⟩⟩
 kernel_rfl
theorem SX:AD (AU Tryz.f154) 0=[]:=by kernel_rfl
theorem NK:AT Tryz.prog 154 (AG 2 Fi Fh Fg DG):=AI HP Tryz.func154 (by kernel_rfl) (by kernel_rfl) rfl (fun v=>(Ip v).trans (O8 v)) (AA SX trivial)
def Fp:Env:=Ge.Fa 154 1 155 (AG 2 Fi Fh Fg DG)
theorem G9:Ac Tryz.prog Fp:=Env.Bf HP NK (AJ rfl rfl)
abbrev Agt:Hints:={  }
theorem AWn:∀ v,SH v=AR Tryz.prog Fp Agt Tryz.f125 ADh ADg ADf v:=by
 rintro⟨a0,a1,⟨⟩⟩
 kernel_rfl
theorem Ags:AD (AU Tryz.f125) 0=[]:=by kernel_rfl
theorem ARe:AT Tryz.prog 125 (AG 2 ADh ADg ADf K9):=AI G9 Tryz.func125 (by kernel_rfl) (by kernel_rfl) rfl (fun v=>(AH9 v).trans (AWn v)) (AA Ags trivial)
def TH:Env:=Fp.ext 125 true true (AG 2 ADh ADg ADf K9)
theorem Nk:Ac Tryz.prog TH:=Env.AY G9 ARe (fun _=>AL rfl rfl) (fun _=>AJ rfl rfl)
abbrev AW5:Hints:={ loop:=fun n=>match n with|0=>Aa 0 21 AZF AZE LC|_=>fun _ _ _=>none }
theorem AW1:∀ v,LC v=roundOf Tryz.prog TH AW5 1 0 21 (AB Tryz.f183 0) AZF AZE v:=by
 rintro⟨a0,a1,a2,a3,⟨⟩⟩
 kernel_rfl
theorem AjS:AD (AB Tryz.f183 0) 1=[]:=by kernel_rfl
theorem AjT:AZ Tryz.prog 0 (.loop (AB Tryz.f183 0)) (AW5.loop 0):=AW Nk (AW1) (AA AjS trivial)
theorem AhA:∀ v,AMP v=AR Tryz.prog TH AW5 Tryz.f183 AW4 AW3 AW2 v:=by
 rintro⟨a0,⟨⟩⟩
 kernel_rfl
theorem Akk:AD (AU Tryz.f183) 0=[(0,AB Tryz.f183 0)]:=by kernel_rfl
theorem Acp:AT Tryz.prog 183 (AG 1 AW4 AW3 AW2 ends):=AI Nk Tryz.func183 (by kernel_rfl) (by kernel_rfl) rfl (fun v=>(AZG v).trans (AhA v)) (AA Akk ⟨AjT,trivial⟩)
def ANZ:Env:=TH.ext 183 true true (AG 1 AW4 AW3 AW2 ends)
theorem XG:Ac Tryz.prog ANZ:=Env.AY Nk Acp (fun _=>AL rfl rfl) (fun _=>AJ rfl rfl)
abbrev QY:Hints:={ loop:=fun n=>match n with|0=>Aa 0 48 YD YC B4|_=>fun _ _ _=>none,fp:=fun n=>match n with|1=>[[0],[],[],[4],[]]|_=>[] }
theorem AD0:∀ v,B4 v=roundOf Tryz.prog ANZ QY 1 0 48 (AB Tryz.f160 0) YD YC v:=by
 rintro⟨a0,a1,a2,a3,a4,a5,a6,⟨⟩⟩
 kernel_rfl
theorem ARv:AD (AB Tryz.f160 0) 1=[]:=by kernel_rfl
theorem ARw:AZ Tryz.prog 0 (.loop (AB Tryz.f160 0)) (QY.loop 0):=AW XG (AD0) (AA ARv trivial)
theorem AMR:∀ v,Ih v=AR Tryz.prog ANZ QY Tryz.f160 QX QW QV v:=by
 rintro⟨a0,a1,⟨⟩⟩
 kernel_rfl
theorem AW8:AD (AU Tryz.f160) 0=[(0,AB Tryz.f160 0)]:=by kernel_rfl
theorem AGR:AT Tryz.prog 160 (AG 3 QX QW QV SR):=AI XG Tryz.func160 (by kernel_rfl) (by kernel_rfl) rfl (fun v=>(NG v).trans (AMR v)) (AA AW8 ⟨ARw,trivial⟩)
def Qv:Env:=ANZ.Fa 160 2 161 (AG 3 QX QW QV SR)
theorem PS:Ac Tryz.prog Qv:=Env.Bf XG AGR (AJ rfl rfl)
abbrev Ag2:Hints:={  }
theorem AWv:∀ v,M9 v=AR Tryz.prog Qv Ag2 Tryz.f130 ADn ADm ADl v:=by
 rintro⟨a0,a1,⟨⟩⟩
 kernel_rfl
theorem Ag1:AD (AU Tryz.f130) 0=[]:=by kernel_rfl
theorem ARi:AT Tryz.prog 130 (AG 2 ADn ADm ADl AMJ):=AI PS Tryz.func130 (by kernel_rfl) (by kernel_rfl) rfl (fun v=>(WO v).trans (AWv v)) (AA Ag1 trivial)
def AFG:Env:=Qv.ext 130 true true (AG 2 ADn ADm ADl AMJ)
theorem YV:Ac Tryz.prog AFG:=Env.AY PS ARi (fun _=>AL rfl rfl) (fun _=>AJ rfl rfl)
abbrev Ak2:Hints:={  }
theorem AjP:∀ v,ARh v=AR Tryz.prog AFG Ak2 Tryz.f92 Ag0 Agz Agy v:=by
 rintro⟨a0,a1,⟨⟩⟩
 kernel_rfl
theorem Ak1:AD (AU Tryz.f92) 0=[]:=by kernel_rfl
theorem Agx:AT Tryz.prog 92 (AG 2 Ag0 Agz Agy fof):=AI YV Tryz.func92 (by kernel_rfl) (by kernel_rfl) rfl (fun v=>(AWs v).trans (AjP v)) (AA Ak1 trivial)
def AZY:Env:=AFG.ext 92 true true (AG 2 Ag0 Agz Agy fof)
theorem AFF:Ac Tryz.prog AZY:=Env.AY YV Agx (fun _=>AL rfl rfl) (fun _=>AJ rfl rfl)
abbrev Afo:Hints:={ loop:=fun n=>match n with|0=>Aa 0 18 Afm Afk Pv|_=>fun _ _ _=>none }
theorem AbD:∀ v,Pv v=roundOf Tryz.prog AZY Afo 1 0 18 (AB Tryz.f114 0) Afm Afk v:=by
 rintro⟨a0,a1,a2,a3,⟨⟩⟩
 kernel_rfl
theorem AkO:AD (AB Tryz.f114 0) 1=[]:=by kernel_rfl
theorem AkP:AZ Tryz.prog 0 (.loop (AB Tryz.f114 0)) (Afo.loop 0):=AW AFF (AbD) (AA AkO trivial)
theorem Aig:∀ v,AYc v=AR Tryz.prog AZY Afo Tryz.f114 Afn Afl Afj v:=by
 rintro⟨a0,⟨⟩⟩
 kernel_rfl
theorem Aky:AD (AU Tryz.f114) 0=[(0,AB Tryz.f114 0)]:=by kernel_rfl
theorem Afi:AT Tryz.prog 114 (AG 1 Afn Afl Afj orI):=AI AFF Tryz.func114 (by kernel_rfl) (by kernel_rfl) rfl (fun v=>(Afp v).trans (Aig v)) (AA Aky ⟨AkP,trivial⟩)
def Ahm:Env:=AZY.ext 114 true true (AG 1 Afn Afl Afj orI)
theorem ASm:Ac Tryz.prog Ahm:=Env.AY AFF Afi (fun _=>AL rfl rfl) (fun _=>AJ rfl rfl)
abbrev Af6:Hints:={  }
theorem AVu:∀ v,Mt v=AR Tryz.prog Ahm Af6 Tryz.f97 ACw ACv ACu v:=by
 rintro⟨a0,⟨⟩⟩
 kernel_rfl
theorem Af5:AD (AU Tryz.f97) 0=[]:=by kernel_rfl
theorem AQp:AT Tryz.prog 97 (AG 1 ACw ACv ACu Vo):=AI ASm Tryz.func97 (by kernel_rfl) (by kernel_rfl) rfl (fun v=>(VZ v).trans (AVu v)) (AA Af5 trivial)
def AE9:Env:=Ahm.ext 97 true true (AG 1 ACw ACv ACu Vo)
theorem YR:Ac Tryz.prog AE9:=Env.AY ASm AQp (fun _=>AL rfl rfl) (fun _=>AJ rfl rfl)
end
end Go.Pev
end
section
namespace Go.Pev
open Go.Proofs
noncomputable section
abbrev AkY:Hints:={  }
theorem Af4:∀ v,AVt v=AR Tryz.prog AE9 AkY Tryz.f53 AVs AVr AVq v:=by
 rintro⟨a0,⟨⟩⟩
 kernel_rfl
theorem AkX:AD (AU Tryz.f53) 0=[]:=by kernel_rfl
theorem Abh:AT Tryz.prog 53 (AG 1 AVs AVr AVq AGC):=AI YR Tryz.func53 (by kernel_rfl) (by kernel_rfl) rfl (fun v=>(Aip v).trans (Af4 v)) (AA AkX trivial)
def AX5:Env:=AE9.ext 53 true true (AG 1 AVs AVr AVq AGC)
theorem AIg:Ac Tryz.prog AX5:=Env.AY YR Abh (fun _=>AL rfl rfl) (fun _=>AJ rfl rfl)
abbrev AWB:Hints:={ fp:=fun n=>match n with|1=>[[0],[0],[2],[2],[],[0],[0],[2],[2],[],[],[20],[]]|_=>[] }
theorem ALe:∀ v,IN v=AR Tryz.prog AX5 AWB Tryz.f98 P8 P7 P6 v:=by
 rintro⟨a0,a1,⟨⟩⟩
 kernel_rfl
theorem AWA:AD (AU Tryz.f98) 0=[]:=by kernel_rfl
theorem AGI:AT Tryz.prog 98 (AG 2 P8 P7 P6 Dj):=AI AIg Tryz.func98 (by kernel_rfl) (by kernel_rfl) rfl (fun v=>(Mv v).trans (ALe v)) (AA AWA trivial)
def Lf:Env:=AX5.ext 98 true true (AG 2 P8 P7 P6 Dj)
theorem Jl:Ac Tryz.prog Lf:=Env.AY AIg AGI (fun _=>AL rfl rfl) (fun _=>AJ rfl rfl)
abbrev ACs:Hints:={ loop:=fun n=>match n with|0=>Aa 0 33 AHj AHi Ct|_=>fun _ _ _=>none }
theorem ALM:∀ v,Ct v=roundOf Tryz.prog Lf ACs 1 0 33 (AB Tryz.f93 0) AHj AHi v:=by
 rintro⟨a0,a1,a2,a3,a4,⟨⟩⟩
 kernel_rfl
theorem Abf:AD (AB Tryz.f93 0) 1=[]:=by kernel_rfl
theorem Abg:AZ Tryz.prog 0 (.loop (AB Tryz.f93 0)) (ACs.loop 0):=AW Jl (ALM) (AA Abf trivial)
theorem AVp:∀ v,Mr v=AR Tryz.prog Lf ACs Tryz.f93 ACr ACq ACp v:=by
 rintro⟨a0,a1,⟨⟩⟩
 kernel_rfl
theorem Af3:AD (AU Tryz.f93) 0=[(0,AB Tryz.f93 0)]:=by kernel_rfl
theorem AQn:AT Tryz.prog 93 (AG 2 ACr ACq ACp P2):=AI Jl Tryz.func93 (by kernel_rfl) (by kernel_rfl) rfl (fun v=>(VY v).trans (AVp v)) (AA Af3 ⟨Abg,trivial⟩)
def S8:Env:=Lf.ext 93 true true (AG 2 ACr ACq ACp P2)
theorem Ng:Ac Tryz.prog S8:=Env.AY Jl AQn (fun _=>AL rfl rfl) (fun _=>AJ rfl rfl)
abbrev AC0:Hints:={ loop:=fun n=>match n with|0=>Aa 0 96 AHl AHk Dz|_=>fun _ _ _=>none,fp:=fun n=>match n with|7=>[[2],[2],[],[],[2],[2],[2],[2],[],[],[],[2],[2],[0],[0],[],[],[],[2],[2],[],[],[],[2],[2],[],[],[],[],[],[],[],[0],[0],[],[],[],[],[2],[],[],[],[]]|_=>[] }
theorem ALN:∀ v,Dz v=roundOf Tryz.prog S8 AC0 1 0 96 (AB Tryz.f49 0) AHl AHk v:=by
 rintro⟨a0,a1,a2,a3,a4,a5,⟨⟩⟩
 kernel_rfl
theorem Abi:AD (AB Tryz.f49 0) 1=[]:=by kernel_rfl
theorem Abj:AZ Tryz.prog 0 (.loop (AB Tryz.f49 0)) (AC0.loop 0):=AW Ng (ALN) (AA Abi trivial)
theorem AVv:∀ v,IK v=AR Tryz.prog S8 AC0 Tryz.f49 ACz ACy ACx v:=by
 rintro⟨a0,⟨⟩⟩
 kernel_rfl
theorem Af7:AD (AU Tryz.f49) 0=[(0,AB Tryz.f49 0)]:=by kernel_rfl
theorem AQq:AT Tryz.prog 49 (AG 1 ACz ACy ACx GC):=AI Ng Tryz.func49 (by kernel_rfl) (by kernel_rfl) rfl (fun v=>(J1 v).trans (AVv v)) (AA Af7 ⟨Abj,trivial⟩)
def S9:Env:=S8.ext 49 true true (AG 1 ACz ACy ACx GC)
theorem Nh:Ac Tryz.prog S9:=Env.AY Ng AQq (fun _=>AL rfl rfl) (fun _=>AJ rfl rfl)
abbrev ADI:Hints:={ loop:=fun n=>match n with|0=>Aa 0 26 AHp AHo GD|_=>fun _ _ _=>none }
theorem ALc:∀ v,GD v=roundOf Tryz.prog S9 ADI 1 0 26 (AB Tryz.f52 0) AHp AHo v:=by
 rintro⟨a0,a1,a2,a3,⟨⟩⟩
 kernel_rfl
theorem Abz:AD (AB Tryz.f52 0) 1=[]:=by kernel_rfl
theorem Ab0:AZ Tryz.prog 0 (.loop (AB Tryz.f52 0)) (ADI.loop 0):=AW Nh (ALc) (AA Abz trivial)
theorem AV8:∀ v,Rq v=AR Tryz.prog S9 ADI Tryz.f52 ADH ADG ADF v:=by
 rintro⟨a0,⟨⟩⟩
 kernel_rfl
theorem AgF:AD (AU Tryz.f52) 0=[(0,AB Tryz.f52 0)]:=by kernel_rfl
theorem AQ5:AT Tryz.prog 52 (AG 1 ADH ADG ADF ADJ):=AI Nh Tryz.func52 (by kernel_rfl) (by kernel_rfl) rfl (fun v=>(AHq v).trans (AV8 v)) (AA AgF ⟨Ab0,trivial⟩)
def KO:Env:=S9.ext 52 true true (AG 1 ADH ADG ADF ADJ)
theorem G8:Ac Tryz.prog KO:=Env.AY Nh AQ5 (fun _=>AL rfl rfl) (fun _=>AJ rfl rfl)
abbrev Dq:Hints:={ loop:=fun n=>match n with|0=>Aa 0 83 Sf Sc DB|1=>Aa 0 83 Se Sb D5|2=>Aa 0 83 Sd Sa DA|_=>fun _ _ _=>none,fp:=fun n=>match n with|14=>[[],[],[0],[0],[],[],[0],[0],[],[]]|13=>[[],[],[],[],[],[],[],[],[],[],[],[],[],[],[],[],[],[],[],[0],[0],[],[],[0],[0],[],[]]|12=>[[],[],[],[],[],[],[],[],[],[],[],[]]|_=>[] }
theorem Yx:∀ v,DA v=roundOf Tryz.prog KO Dq 3 0 83 (AB Tryz.f68 2) Sd Sa v:=by
 rintro⟨a0,a1,a2,a3,a4,⟨⟩⟩
 kernel_rfl
theorem AMe:AD (AB Tryz.f68 2) 3=[]:=by kernel_rfl
theorem AMh:AZ Tryz.prog 0 (.loop (AB Tryz.f68 2)) (Dq.loop 2):=AW G8 (Yx) (AA AMe trivial)
theorem Yy:∀ v,D5 v=roundOf Tryz.prog KO Dq 2 0 83 (AB Tryz.f68 1) Se Sb v:=by
 rintro⟨a0,a1,a2,a3,⟨⟩⟩
 kernel_rfl
theorem AMf:AD (AB Tryz.f68 1) 2=[(2,AB Tryz.f68 2)]:=by kernel_rfl
theorem AMi:AZ Tryz.prog 0 (.loop (AB Tryz.f68 1)) (Dq.loop 1):=AW G8 (Yy) (AA AMf ⟨AMh,trivial⟩)
theorem Yz:∀ v,DB v=roundOf Tryz.prog KO Dq 1 0 83 (AB Tryz.f68 0) Sf Sc v:=by
 rintro⟨a0,a1,a2,a3,⟨⟩⟩
 kernel_rfl
theorem AMg:AD (AB Tryz.f68 0) 1=[]:=by kernel_rfl
theorem AMj:AZ Tryz.prog 0 (.loop (AB Tryz.f68 0)) (Dq.loop 0):=AW G8 (Yz) (AA AMg trivial)
theorem AGc:∀ v,JQ v=AR Tryz.prog KO Dq Tryz.f68 NP NO NN v:=by
 rintro⟨a0,a1,⟨⟩⟩
 kernel_rfl
theorem ASA:AD (AU Tryz.f68) 0=[(0,AB Tryz.f68 0),(1,AB Tryz.f68 1)]:=by kernel_rfl
theorem AEM:AT Tryz.prog 68 (AG 2 NP NO NN DO):=AI G8 Tryz.func68 (by kernel_rfl) (by kernel_rfl) rfl (fun v=>(Sg v).trans (AGc v)) (AA ASA ⟨AMj,AMi,trivial⟩)
def Ja:Env:=KO.ext 68 true true (AG 2 NP NO NN DO)
theorem I1:Ac Tryz.prog Ja:=Env.AY G8 AEM (fun _=>AL rfl rfl) (fun _=>AJ rfl rfl)
abbrev AJA:Hints:={ loop:=fun n=>match n with|0=>Aa 0 20 AN6 AN5 AAL|_=>fun _ _ _=>none }
theorem AN4:∀ v,AAL v=roundOf Tryz.prog Ja AJA 1 0 20 (AB Tryz.f38 0) AN6 AN5 v:=by
 rintro⟨a0,a1,⟨⟩⟩
 kernel_rfl
theorem Ado:AD (AB Tryz.f38 0) 1=[]:=by kernel_rfl
theorem Adp:AZ Tryz.prog 0 (.loop (AB Tryz.f38 0)) (AJA.loop 0):=AW I1 (AN4) (AA Ado trivial)
theorem AZv:∀ v,AJB v=AR Tryz.prog Ja AJA Tryz.f38 AI9 AI8 AI7 v:=by
 rintro⟨a0,⟨⟩⟩
 kernel_rfl
theorem Ahv:AD (AU Tryz.f38) 0=[(0,AB Tryz.f38 0)]:=by kernel_rfl
theorem AS3:AT Tryz.prog 38 (AG 1 AI9 AI8 AI7 Ln):=AI I1 Tryz.func38 (by kernel_rfl) (by kernel_rfl) rfl (fun v=>(Adq v).trans (AZv v)) (AA Ahv ⟨Adp,trivial⟩)
def Sr:Env:=Ja.ext 38 true true (AG 1 AI9 AI8 AI7 Ln)
theorem LQ:Ac Tryz.prog Sr:=Env.AY I1 AS3 (fun _=>AL rfl rfl) (fun _=>AJ rfl rfl)
abbrev Js:Hints:={ loop:=fun n=>match n with|0=>Aa 0 138 AA4 AA2 C2|1=>Aa 0 138 AA3 AA1 Dd|_=>fun _ _ _=>none,fp:=fun n=>match n with|10=>[[],[],[],[0],[0],[],[],[],[],[],[4],[4],[],[],[0],[0],[],[],[],[],[],[4],[4],[],[],[0],[0],[],[],[],[],[],[4],[4],[],[],[],[]]|8=>[[4],[4],[],[],[4],[4],[4],[4],[],[],[],[4],[4],[0],[0],[],[],[],[4],[4],[],[],[],[4],[4],[0],[0],[],[],[]]|_=>[] }
theorem AFZ:∀ v,Dd v=roundOf Tryz.prog Sr Js 2 0 138 (AB Tryz.f50 1) AA3 AA1 v:=by
 rintro⟨a0,a1,a2,a3,a4,a5,⟨⟩⟩
 kernel_rfl
theorem ATj:AD (AB Tryz.f50 1) 2=[]:=by kernel_rfl
theorem ATl:AZ Tryz.prog 0 (.loop (AB Tryz.f50 1)) (Js.loop 1):=AW LQ (AFZ) (AA ATj trivial)
theorem AFa:∀ v,C2 v=roundOf Tryz.prog Sr Js 1 0 138 (AB Tryz.f50 0) AA4 AA2 v:=by
 rintro⟨a0,a1,a2,a3,⟨⟩⟩
 kernel_rfl
theorem ATk:AD (AB Tryz.f50 0) 1=[]:=by kernel_rfl
theorem ATm:AZ Tryz.prog 0 (.loop (AB Tryz.f50 0)) (Js.loop 0):=AW LQ (AFa) (AA ATk trivial)
theorem AOn:∀ v,E1 v=AR Tryz.prog Sr Js Tryz.f50 Tv Tu Tt v:=by
 rintro⟨a0,⟨⟩⟩
 kernel_rfl
theorem AaN:AD (AU Tryz.f50) 0=[(0,AB Tryz.f50 0),(1,AB Tryz.f50 1)]:=by kernel_rfl
theorem AJo:AT Tryz.prog 50 (AG 1 Tv Tu Tt B5):=AI LQ Tryz.func50 (by kernel_rfl) (by kernel_rfl) rfl (fun v=>(Fy v).trans (AOn v)) (AA AaN ⟨ATm,ATl,trivial⟩)
def Ot:Env:=Sr.ext 50 true true (AG 1 Tv Tu Tt B5)
theorem LY:Ac Tryz.prog Ot:=Env.AY LQ AJo (fun _=>AL rfl rfl) (fun _=>AJ rfl rfl)
abbrev WW:Hints:={ loop:=fun n=>match n with|0=>Aa 0 32 ADy ADx Em|_=>fun _ _ _=>none,fp:=fun n=>match n with|7=>[[],[0],[0],[],[],[],[],[0],[0],[],[],[],[],[],[],[3,4],[]]|_=>[] }
theorem AGQ:∀ v,Em v=roundOf Tryz.prog Ot WW 1 0 32 (AB Tryz.f36 0) ADy ADx v:=by
 rintro⟨a0,a1,a2,a3,⟨⟩⟩
 kernel_rfl
theorem AW6:AD (AB Tryz.f36 0) 1=[]:=by kernel_rfl
theorem AW7:AZ Tryz.prog 0 (.loop (AB Tryz.f36 0)) (WW.loop 0):=AW LY (AGQ) (AA AW6 trivial)
theorem ARu:∀ v,OW v=AR Tryz.prog Ot WW Tryz.f36 WV WU WT v:=by
 rintro⟨a0,⟨⟩⟩
 kernel_rfl
theorem Acr:AD (AU Tryz.f36) 0=[(0,AB Tryz.f36 0)]:=by kernel_rfl
theorem AMQ:AT Tryz.prog 36 (AG 1 WV WU WT LF):=AI LY Tryz.func36 (by kernel_rfl) (by kernel_rfl) rfl (fun v=>(ADz v).trans (ARu v)) (AA Acr ⟨AW7,trivial⟩)
def XH:Env:=Ot.ext 36 true true (AG 1 WV WU WT LF)
theorem TL:Ac Tryz.prog XH:=Env.AY LY AMQ (fun _=>AL rfl rfl) (fun _=>AJ rfl rfl)
abbrev Akg:Hints:={  }
theorem AgU:∀ v,ALm v=AR Tryz.prog XH Akg Tryz.f138 AWX AWW AWV v:=by
 rintro⟨a0,a1,⟨⟩⟩
 kernel_rfl
theorem Akf:AD (AU Tryz.f138) 0=[]:=by kernel_rfl
theorem Ab9:AT Tryz.prog 138 (AG 2 AWX AWW AWV AGK):=AI TL Tryz.func138 (by kernel_rfl) (by kernel_rfl) rfl (fun v=>(AY4 v).trans (AgU v)) (AA Akf trivial)
def AX7:Env:=XH.ext 138 true true (AG 2 AWX AWW AWV AGK)
theorem AIh:Ac Tryz.prog AX7:=Env.AY TL Ab9 (fun _=>AL rfl rfl) (fun _=>AJ rfl rfl)
abbrev AZx:Hints:={ fp:=fun n=>match n with|5=>[[],[],[],[],[],[],[],[],[],[],[],[]]|_=>[] }
theorem AN7:∀ v,Nq v=AR Tryz.prog AX7 AZx Tryz.f171 Te Td Tc v:=by
 rintro⟨a0,a1,⟨⟩⟩
 kernel_rfl
theorem AZw:AD (AU Tryz.f171) 0=[]:=by kernel_rfl
theorem AJC:AT Tryz.prog 171 (AG 2 Te Td Tc Nr):=AI AIh Tryz.func171 (by kernel_rfl) (by kernel_rfl) rfl (fun v=>(AAM v).trans (AN7 v)) (AA AZw trivial)
def W2:Env:=AX7.ext 171 true true (AG 2 Te Td Tc Nr)
theorem Ss:Ac Tryz.prog W2:=Env.AY AIh AJC (fun _=>AL rfl rfl) (fun _=>AJ rfl rfl)
abbrev Aji:Hints:={  }
theorem AdN:∀ v,Zg v=AR Tryz.prog W2 Aji Tryz.f105 AM7 AM6 AM5 v:=by
 rintro⟨a0,a1,a2,⟨⟩⟩
 kernel_rfl
theorem Ajh:AD (AU Tryz.f105) 0=[]:=by kernel_rfl
theorem AXr:AT Tryz.prog 105 (AG 3 AM7 AM6 AM5 AEg):=AI Ss Tryz.func105 (by kernel_rfl) (by kernel_rfl) rfl (fun v=>(AST v).trans (AdN v)) (AA Ajh trivial)
def Zo:Env:=W2.ext 105 true true (AG 3 AM7 AM6 AM5 AEg)
theorem Qx:Ac Tryz.prog Zo:=Env.AY Ss AXr (fun _=>AL rfl rfl) (fun _=>AJ rfl rfl)
end
end Go.Pev
end
section
namespace Go.Pev
open Go.Proofs
noncomputable section
abbrev ACo:Hints:={ loop:=fun n=>match n with|0=>Aa 0 28 AHg AHf GB|_=>fun _ _ _=>none }
theorem ALL:∀ v,GB v=roundOf Tryz.prog Zo ACo 1 0 28 (AB Tryz.f122 0) AHg AHf v:=by
 rintro⟨a0,a1,a2,a3,a4,⟨⟩⟩
 kernel_rfl
theorem Abd:AD (AB Tryz.f122 0) 1=[]:=by kernel_rfl
theorem Abe:AZ Tryz.prog 0 (.loop (AB Tryz.f122 0)) (ACo.loop 0):=AW Qx (ALL) (AA Abd trivial)
theorem AVn:∀ v,Rn v=AR Tryz.prog Zo ACo Tryz.f122 ACn ACm ACl v:=by
 rintro⟨a0,⟨⟩⟩
 kernel_rfl
theorem Af2:AD (AU Tryz.f122) 0=[(0,AB Tryz.f122 0)]:=by kernel_rfl
theorem AQl:AT Tryz.prog 122 (AG 1 ACn ACm ACl P1):=AI Qx Tryz.func122 (by kernel_rfl) (by kernel_rfl) rfl (fun v=>(AHh v).trans (AVn v)) (AA Af2 ⟨Abe,trivial⟩)
def AE8:Env:=Zo.ext 122 true true (AG 1 ACn ACm ACl P1)
theorem YQ:Ac Tryz.prog AE8:=Env.AY Qx AQl (fun _=>AL rfl rfl) (fun _=>AJ rfl rfl)
abbrev ATJ:Hints:={  }
theorem AJO:∀ v,KX v=AR Tryz.prog AE8 ATJ Tryz.f172 Pf Pe Pd v:=by
 rintro⟨a0,a1,a2,⟨⟩⟩
 kernel_rfl
theorem ATI:AD (AU Tryz.f172) 0=[]:=by kernel_rfl
theorem AFS:AT Tryz.prog 172 (AG 3 Pf Pe Pd MK):=AI YQ Tryz.func172 (by kernel_rfl) (by kernel_rfl) rfl (fun v=>(XQ v).trans (AJO v)) (AA ATI trivial)
def Ga:Env:=AE8.ext 172 true true (AG 3 Pf Pe Pd MK)
theorem ER:Ac Tryz.prog Ga:=Env.AY YQ AFS (fun _=>AL rfl rfl) (fun _=>AJ rfl rfl)
abbrev Hz:Hints:={ loop:=fun n=>match n with|0=>Aa 0 129 AG3 AG0 Hk|1=>Aa 0 129 AG2 AGz Cq|2=>Aa 0 129 AG1 AGy Fw|_=>fun _ _ _=>none,fp:=fun n=>match n with|7=>[[],[],[0],[0],[],[],[],[],[0],[],[0],[0],[],[],[],[],[0],[],[0],[0],[],[],[]]|_=>[] }
theorem AI2:∀ v,Fw v=roundOf Tryz.prog Ga Hz 3 0 129 (AB Tryz.f136 2) AG1 AGy v:=by
 rintro⟨a0,a1,a2,a3,a4,a5,a6,a7,a8,a9,a10,a11,a12,a13,a14,a15,a16,a17,a18,a19,a20,a21,a22,a23,a24,a25,a26,a27,⟨⟩⟩
 kernel_rfl
theorem AZm:AD (AB Tryz.f136 2) 3=[]:=by kernel_rfl
theorem AZp:AZ Tryz.prog 0 (.loop (AB Tryz.f136 2)) (Hz.loop 2):=AW ER (AI2) (AA AZm trivial)
theorem AI3:∀ v,Cq v=roundOf Tryz.prog Ga Hz 2 0 129 (AB Tryz.f136 1) AG2 AGz v:=by
 rintro⟨a0,a1,a2,a3,⟨⟩⟩
 kernel_rfl
theorem AZn:AD (AB Tryz.f136 1) 2=[(2,AB Tryz.f136 2)]:=by kernel_rfl
theorem AZq:AZ Tryz.prog 0 (.loop (AB Tryz.f136 1)) (Hz.loop 1):=AW ER (AI3) (AA AZn ⟨AZp,trivial⟩)
theorem AI4:∀ v,Hk v=roundOf Tryz.prog Ga Hz 1 0 129 (AB Tryz.f136 0) AG3 AG0 v:=by
 rintro⟨a0,a1,⟨⟩⟩
 kernel_rfl
theorem AZo:AD (AB Tryz.f136 0) 1=[(1,AB Tryz.f136 1)]:=by kernel_rfl
theorem AZr:AZ Tryz.prog 0 (.loop (AB Tryz.f136 0)) (Hz.loop 0):=AW ER (AI4) (AA AZo ⟨AZq,trivial⟩)
theorem AS1:∀ v,Q9 v=AR Tryz.prog Ga Hz Tryz.f136 AAG AAF AAE v:=by
 rintro⟨a0,a1,⟨⟩⟩
 kernel_rfl
theorem Adl:AD (AU Tryz.f136) 0=[(0,AB Tryz.f136 0)]:=by kernel_rfl
theorem AN1:AT Tryz.prog 136 (AG 2 AAG AAF AAE AAH):=AI ER Tryz.func136 (by kernel_rfl) (by kernel_rfl) rfl (fun v=>(AG4 v).trans (AS1 v)) (AA Adl ⟨AZr,trivial⟩)
def Sq:Env:=Ga.ext 136 true true (AG 2 AAG AAF AAE AAH)
theorem Nb:Ac Tryz.prog Sq:=Env.AY ER AN1 (fun _=>AL rfl rfl) (fun _=>AJ rfl rfl)
abbrev UO:Hints:={ loop:=fun n=>match n with|0=>Aa 0 19 ABj ABi Ei|_=>fun _ _ _=>none }
theorem AFn:∀ v,Ei v=roundOf Tryz.prog Sq UO 1 0 19 (AB Tryz.f104 0) ABj ABi v:=by
 rintro⟨a0,a1,a2,⟨⟩⟩
 kernel_rfl
theorem AUa:AD (AB Tryz.f104 0) 1=[]:=by kernel_rfl
theorem AUb:AZ Tryz.prog 0 (.loop (AB Tryz.f104 0)) (UO.loop 0):=AW Nb (AFn) (AA AUa trivial)
theorem AO9:∀ v,N6 v=AR Tryz.prog Sq UO Tryz.f104 UN UM UL v:=by
 rintro⟨a0,a1,⟨⟩⟩
 kernel_rfl
theorem Aal:AD (AU Tryz.f104) 0=[(0,AB Tryz.f104 0)]:=by kernel_rfl
theorem AKK:AT Tryz.prog 104 (AG 2 UN UM UL I6):=AI Nb Tryz.func104 (by kernel_rfl) (by kernel_rfl) rfl (fun v=>(ABk v).trans (AO9 v)) (AA Aal ⟨AUb,trivial⟩)
def Oy:Env:=Sq.ext 104 true true (AG 2 UN UM UL I6)
theorem Ld:Ac Tryz.prog Oy:=Env.AY Nb AKK (fun _=>AL rfl rfl) (fun _=>AJ rfl rfl)
abbrev T4:Hints:={ loop:=fun n=>match n with|0=>Aa 0 36 ABB ABA De|_=>fun _ _ _=>none,fp:=fun n=>match n with|6=>[[],[],[],[],[],[],[],[],[],[],[],[],[],[],[],[],[],[],[],[],[],[],[]]|_=>[] }
theorem AFe:∀ v,De v=roundOf Tryz.prog Oy T4 1 0 36 (AB Tryz.f135 0) ABB ABA v:=by
 rintro⟨a0,a1,⟨⟩⟩
 kernel_rfl
theorem ATr:AD (AB Tryz.f135 0) 1=[]:=by kernel_rfl
theorem ATs:AZ Tryz.prog 0 (.loop (AB Tryz.f135 0)) (T4.loop 0):=AW Ld (AFe) (AA ATr trivial)
theorem AOp:∀ v,Nz v=AR Tryz.prog Oy T4 Tryz.f135 T3 T2 T1 v:=by
 rintro⟨a0,⟨⟩⟩
 kernel_rfl
theorem AaP:AD (AU Tryz.f135) 0=[(0,AB Tryz.f135 0)]:=by kernel_rfl
theorem AJq:AT Tryz.prog 135 (AG 1 T3 T2 T1 KZ):=AI Ld Tryz.func135 (by kernel_rfl) (by kernel_rfl) rfl (fun v=>(ABC v).trans (AOp v)) (AA AaP ⟨ATs,trivial⟩)
def W3:Env:=Oy.ext 135 true true (AG 1 T3 T2 T1 KZ)
theorem Sy:Ac Tryz.prog W3:=Env.AY Ld AJq (fun _=>AL rfl rfl) (fun _=>AJ rfl rfl)
abbrev Agw:Hints:={ fp:=fun n=>match n with|4=>[[],[],[],[],[17],[],[],[],[19],[],[]]|_=>[] }
theorem AWo:∀ v,SJ v=AR Tryz.prog W3 Agw Tryz.f173 ADk ADj ADi v:=by
 rintro⟨a0,a1,⟨⟩⟩
 kernel_rfl
theorem Agv:AD (AU Tryz.f173) 0=[]:=by kernel_rfl
theorem ARf:AT Tryz.prog 173 (AG 2 ADk ADj ADi QN):=AI Sy Tryz.func173 (by kernel_rfl) (by kernel_rfl) rfl (fun v=>(AIA v).trans (AWo v)) (AA Agv trivial)
def TJ:Env:=W3.ext 173 true true (AG 2 ADk ADj ADi QN)
theorem Nl:Ac Tryz.prog TJ:=Env.AY Sy ARf (fun _=>AL rfl rfl) (fun _=>AJ rfl rfl)
abbrev UG:Hints:={ loop:=fun n=>match n with|0=>Aa 0 37 ABZ ABY Eg|_=>fun _ _ _=>none }
theorem AFl:∀ v,Eg v=roundOf Tryz.prog TJ UG 1 0 37 (AB Tryz.f137 0) ABZ ABY v:=by
 rintro⟨a0,a1,a2,⟨⟩⟩
 kernel_rfl
theorem AUT:AD (AB Tryz.f137 0) 1=[]:=by kernel_rfl
theorem AUU:AZ Tryz.prog 0 (.loop (AB Tryz.f137 0)) (UG.loop 0):=AW Nl (AFl) (AA AUT trivial)
theorem AO6:∀ v,N3 v=AR Tryz.prog TJ UG Tryz.f137 UE UD UC v:=by
 rintro⟨a0,⟨⟩⟩
 kernel_rfl
theorem Aah:AD (AU Tryz.f137) 0=[(0,AB Tryz.f137 0)]:=by kernel_rfl
theorem AKG:AT Tryz.prog 137 (AG 1 UE UD UC N4):=AI Nl Tryz.func137 (by kernel_rfl) (by kernel_rfl) rfl (fun v=>(ABa v).trans (AO6 v)) (AA Aah ⟨AUU,trivial⟩)
def Ow:Env:=TJ.ext 137 true true (AG 1 UE UD UC N4)
theorem Lb:Ac Tryz.prog Ow:=Env.AY Nl AKG (fun _=>AL rfl rfl) (fun _=>AJ rfl rfl)
abbrev Vt:Hints:={ loop:=fun n=>match n with|0=>Aa 0 27 AC7 AC6 Di|_=>fun _ _ _=>none,fp:=fun n=>match n with|6=>[[],[],[],[],[],[],[],[],[],[]]|_=>[] }
theorem AGE:∀ v,Di v=roundOf Tryz.prog Ow Vt 1 0 27 (AB Tryz.f96 0) AC7 AC6 v:=by
 rintro⟨a0,a1,a2,⟨⟩⟩
 kernel_rfl
theorem AVx:AD (AB Tryz.f96 0) 1=[]:=by kernel_rfl
theorem AVy:AZ Tryz.prog 0 (.loop (AB Tryz.f96 0)) (Vt.loop 0):=AW Lb (AGE) (AA AVx trivial)
theorem AQu:∀ v,OQ v=AR Tryz.prog Ow Vt Tryz.f96 Vs Vr Vq v:=by
 rintro⟨a0,a1,⟨⟩⟩
 kernel_rfl
theorem Abn:AD (AU Tryz.f96) 0=[(0,AB Tryz.f96 0)]:=by kernel_rfl
theorem ALQ:AT Tryz.prog 96 (AG 2 Vs Vr Vq Rp):=AI Lb Tryz.func96 (by kernel_rfl) (by kernel_rfl) rfl (fun v=>(AC8 v).trans (AQu v)) (AA Abn ⟨AVy,trivial⟩)
def KN:Env:=Ow.ext 96 true true (AG 2 Vs Vr Vq Rp)
theorem Hg:Ac Tryz.prog KN:=Env.AY Lb ALQ (fun _=>AL rfl rfl) (fun _=>AJ rfl rfl)
abbrev Jt:Hints:={ loop:=fun n=>match n with|0=>Aa 0 106 AA8 AA6 C4|1=>Aa 0 106 AA7 AA5 C3|_=>fun _ _ _=>none,fp:=fun n=>match n with|16=>[[],[],[],[],[0],[0],[]]|_=>[] }
theorem AFb:∀ v,C3 v=roundOf Tryz.prog KN Jt 2 0 106 (AB Tryz.f102 1) AA7 AA5 v:=by
 rintro⟨a0,a1,a2,a3,a4,a5,a6,a7,a8,a9,a10,a11,a12,a13,a14,a15,a16,a17,a18,a19,a20,a21,a22,a23,a24,a25,⟨⟩⟩
 kernel_rfl
theorem ATn:AD (AB Tryz.f102 1) 2=[]:=by kernel_rfl
theorem ATp:AZ Tryz.prog 0 (.loop (AB Tryz.f102 1)) (Jt.loop 1):=AW Hg (AFb) (AA ATn trivial)
theorem AFc:∀ v,C4 v=roundOf Tryz.prog KN Jt 1 0 106 (AB Tryz.f102 0) AA8 AA6 v:=by
 rintro⟨a0,a1,a2,a3,a4,a5,⟨⟩⟩
 kernel_rfl
theorem ATo:AD (AB Tryz.f102 0) 1=[(1,AB Tryz.f102 1)]:=by kernel_rfl
theorem ATq:AZ Tryz.prog 0 (.loop (AB Tryz.f102 0)) (Jt.loop 0):=AW Hg (AFc) (AA ATo ⟨ATp,trivial⟩)
theorem AOo:∀ v,Nx v=AR Tryz.prog KN Jt Tryz.f102 Tz Tx Tw v:=by
 rintro⟨a0,⟨⟩⟩
 kernel_rfl
theorem AaO:AD (AU Tryz.f102) 0=[(0,AB Tryz.f102 0)]:=by kernel_rfl
theorem AJp:AT Tryz.prog 102 (AG 1 Tz Tx Tw Ny):=AI Hg Tryz.func102 (by kernel_rfl) (by kernel_rfl) rfl (fun v=>(AA9 v).trans (AOo v)) (AA AaO ⟨ATq,trivial⟩)
def Ou:Env:=KN.ext 102 true true (AG 1 Tz Tx Tw Ny)
theorem LZ:Ac Tryz.prog Ou:=Env.AY Hg AJp (fun _=>AL rfl rfl) (fun _=>AJ rfl rfl)
abbrev UK:Hints:={ loop:=fun n=>match n with|0=>Aa 0 22 ABg ABf Eh|_=>fun _ _ _=>none }
theorem AFm:∀ v,Eh v=roundOf Tryz.prog Ou UK 1 0 22 (AB Tryz.f139 0) ABg ABf v:=by
 rintro⟨a0,a1,a2,a3,⟨⟩⟩
 kernel_rfl
theorem AUY:AD (AB Tryz.f139 0) 1=[]:=by kernel_rfl
theorem AUZ:AZ Tryz.prog 0 (.loop (AB Tryz.f139 0)) (UK.loop 0):=AW LZ (AFm) (AA AUY trivial)
theorem AO8:∀ v,N5 v=AR Tryz.prog Ou UK Tryz.f139 UJ UI UH v:=by
 rintro⟨a0,a1,⟨⟩⟩
 kernel_rfl
theorem Aak:AD (AU Tryz.f139) 0=[(0,AB Tryz.f139 0)]:=by kernel_rfl
theorem AKJ:AT Tryz.prog 139 (AG 2 UJ UI UH I5):=AI LZ Tryz.func139 (by kernel_rfl) (by kernel_rfl) rfl (fun v=>(ABh v).trans (AO8 v)) (AA Aak ⟨AUZ,trivial⟩)
def Ox:Env:=Ou.ext 139 true true (AG 2 UJ UI UH I5)
theorem Lc:Ac Tryz.prog Ox:=Env.AY LZ AKJ (fun _=>AL rfl rfl) (fun _=>AJ rfl rfl)
abbrev AJ8:Hints:={ loop:=fun n=>match n with|0=>Aa 0 38 AOz AOy IB|_=>fun _ _ _=>none,fp:=fun n=>match n with|3=>[[],[],[],[],[],[],[],[],[],[],[],[],[0],[0],[],[]]|5=>[[],[],[],[],[3],[],[0],[5,6],[],[],[],[9],[]]|_=>[] }
theorem AOx:∀ v,IB v=roundOf Tryz.prog Ox AJ8 1 0 38 (AB Tryz.f182 0) AOz AOy v:=by
 rintro⟨a0,a1,a2,⟨⟩⟩
 kernel_rfl
theorem Aeh:AD (AB Tryz.f182 0) 1=[]:=by kernel_rfl
theorem Aei:AZ Tryz.prog 0 (.loop (AB Tryz.f182 0)) (AJ8.loop 0):=AW Lc (AOx) (AA Aeh trivial)
theorem Aac:∀ v,ZK v=AR Tryz.prog Ox AJ8 Tryz.f182 AJ7 AJ6 AJ5 v:=by
 rintro⟨a0,a1,⟨⟩⟩
 kernel_rfl
theorem AiL:AD (AU Tryz.f182) 0=[(0,AB Tryz.f182 0)]:=by kernel_rfl
theorem AUF:AT Tryz.prog 182 (AG 2 AJ7 AJ6 AJ5 AHP):=AI Lc Tryz.func182 (by kernel_rfl) (by kernel_rfl) rfl (fun v=>(AO0 v).trans (Aac v)) (AA AiL ⟨Aei,trivial⟩)
def ANO:Env:=Ox.ext 182 true true (AG 2 AJ7 AJ6 AJ5 AHP)
theorem AEy:Ac Tryz.prog ANO:=Env.AY Lc AUF (fun _=>AL rfl rfl) (fun _=>AJ rfl rfl)
abbrev ANe:Hints:={ fp:=fun n=>match n with|1=>[[],[],[],[],[1],[],[],[],[],[3],[]]|_=>[] }
theorem AFN:∀ v,I3 v=AR Tryz.prog ANO ANe Tryz.f181 L9 L8 L7 v:=by
 rintro⟨a0,a1,⟨⟩⟩
 kernel_rfl
theorem ANd:AD (AU Tryz.f181) 0=[]:=by kernel_rfl
theorem Zr:AT Tryz.prog 181 (AG 2 L9 L8 L7 Ex):=AI AEy Tryz.func181 (by kernel_rfl) (by kernel_rfl) rfl (fun v=>(Qz v).trans (AFN v)) (AA ANd trivial)
def NY:Env:=ANO.ext 181 true true (AG 2 L9 L8 L7 Ex)
theorem NX:Ac Tryz.prog NY:=Env.AY AEy Zr (fun _=>AL rfl rfl) (fun _=>AJ rfl rfl)
end
end Go.Pev
end
section
namespace Go.Pev
open Go.Proofs
noncomputable section
abbrev AgE:Hints:={ fp:=fun n=>match n with|13=>[[0],[0],[],[],[],[],[102],[],[110,100],[],[3],[]]|11=>[[],[0],[0],[],[],[],[],[87,96],[],[60],[99,60],[]]|7=>[[0],[],[],[0],[],[],[],[]]|5=>[[0],[],[],[0],[],[],[],[]]|_=>[] }
theorem AV3:∀ v,IM v=AR Tryz.prog NY AgE Tryz.f158 ADD ADC ADB v:=by
 rintro⟨a0,a1,a2,⟨⟩⟩
 kernel_rfl
theorem AgD:AD (AU Tryz.f158) 0=[]:=by kernel_rfl
theorem AQy:AT Tryz.prog 158 (AG 3 ADD ADC ADB Mu):=AI NX Tryz.func158 (by kernel_rfl) (by kernel_rfl) rfl (fun v=>(J2 v).trans (AV3 v)) (AA AgD trivial)
def TB:Env:=NY.ext 158 true true (AG 3 ADD ADC ADB Mu)
theorem Ni:Ac Tryz.prog TB:=Env.AY NX AQy (fun _=>AL rfl rfl) (fun _=>AJ rfl rfl)
abbrev AAo:Hints:={ loop:=fun n=>match n with|0=>Aa 0 26 AHI AHH Ts|_=>fun _ _ _=>none,fp:=fun n=>match n with|6=>[[],[],[],[],[],[],[],[],[]]|_=>[] }
theorem AJm:∀ v,Ts v=roundOf Tryz.prog TB AAo 1 0 26 (AB Tryz.f19 0) AHI AHH v:=by
 rintro⟨a0,a1,a2,⟨⟩⟩
 kernel_rfl
theorem AaH:AD (AB Tryz.f19 0) 1=[]:=by kernel_rfl
theorem AaI:AZ Tryz.prog 0 (.loop (AB Tryz.f19 0)) (AAo.loop 0):=AW Ni (AJm) (AA AaH trivial)
theorem ATc:∀ v,AAp v=AR Tryz.prog TB AAo Tryz.f19 AAn AAm AAl v:=by
 rintro⟨a0,a1,⟨⟩⟩
 kernel_rfl
theorem AeN:AD (AU Tryz.f19) 0=[(0,AB Tryz.f19 0)]:=by kernel_rfl
theorem AOe:AT Tryz.prog 19 (AG 2 AAn AAm AAl AJn):=AI Ni Tryz.func19 (by kernel_rfl) (by kernel_rfl) rfl (fun v=>(AaJ v).trans (ATc v)) (AA AeN ⟨AaI,trivial⟩)
def AEu:Env:=TB.ext 19 true true (AG 2 AAn AAm AAl AJn)
theorem YL:Ac Tryz.prog AEu:=Env.AY Ni AOe (fun _=>AL rfl rfl) (fun _=>AJ rfl rfl)
abbrev Aks:Hints:={  }
theorem Ahx:∀ v,AYB v=AR Tryz.prog AEu Aks Tryz.f126 Adu Adt Ads v:=by
 rintro⟨a0,a1,⟨⟩⟩
 kernel_rfl
theorem Akr:AD (AU Tryz.f126) 0=[]:=by kernel_rfl
theorem Adr:AT Tryz.prog 126 (AG 2 Adu Adt Ads tof):=AI YL Tryz.func126 (by kernel_rfl) (by kernel_rfl) rfl (fun v=>(Adv v).trans (Ahx v)) (AA Akr trivial)
def AZV:Env:=AEu.ext 126 true true (AG 2 Adu Adt Ads tof)
theorem AEr:Ac Tryz.prog AZV:=Env.AY YL Adr (fun _=>AL rfl rfl) (fun _=>AJ rfl rfl)
abbrev Ti:Hints:={ loop:=fun n=>match n with|0=>Aa 0 49 AAO AAN Ea|_=>fun _ _ _=>none,fp:=fun n=>match n with|6=>[[],[],[],[],[],[],[],[],[],[],[],[],[0],[0],[],[],[],[],[],[],[],[],[],[],[],[],[],[],[],[],[0],[0],[],[]]|_=>[] }
theorem AFQ:∀ v,Ea v=roundOf Tryz.prog AZV Ti 1 0 49 (AB Tryz.f106 0) AAO AAN v:=by
 rintro⟨a0,a1,a2,a3,⟨⟩⟩
 kernel_rfl
theorem AS7:AD (AB Tryz.f106 0) 1=[]:=by kernel_rfl
theorem AS8:AZ Tryz.prog 0 (.loop (AB Tryz.f106 0)) (Ti.loop 0):=AW AEr (AFQ) (AA AS7 trivial)
theorem AOD:∀ v,Ns v=AR Tryz.prog AZV Ti Tryz.f106 Th Tg Tf v:=by
 rintro⟨a0,a1,⟨⟩⟩
 kernel_rfl
theorem AZ1:AD (AU Tryz.f106) 0=[(0,AB Tryz.f106 0)]:=by kernel_rfl
theorem AJL:AT Tryz.prog 106 (AG 2 Th Tg Tf RB):=AI AEr Tryz.func106 (by kernel_rfl) (by kernel_rfl) rfl (fun v=>(AAP v).trans (AOD v)) (AA AZ1 ⟨AS8,trivial⟩)
def Oo:Env:=AZV.ext 106 true true (AG 2 Th Tg Tf RB)
theorem LS:Ac Tryz.prog Oo:=Env.AY AEr AJL (fun _=>AL rfl rfl) (fun _=>AJ rfl rfl)
abbrev Vx:Hints:={ loop:=fun n=>match n with|0=>Aa 0 48 ADA AC9 Bg|_=>fun _ _ _=>none,fp:=fun n=>match n with|8=>[[0],[],[],[],[],[],[],[],[],[],[],[],[],[],[],[],[15],[]]|_=>[] }
theorem AGF:∀ v,Bg v=roundOf Tryz.prog Oo Vx 1 0 48 (AB Tryz.f128 0) ADA AC9 v:=by
 rintro⟨a0,a1,a2,a3,a4,a5,⟨⟩⟩
 kernel_rfl
theorem AV0:AD (AB Tryz.f128 0) 1=[]:=by kernel_rfl
theorem AV1:AZ Tryz.prog 0 (.loop (AB Tryz.f128 0)) (Vx.loop 0):=AW LS (AGF) (AA AV0 trivial)
theorem AQv:∀ v,Hn v=AR Tryz.prog Oo Vx Tryz.f128 Vw Vv Vu v:=by
 rintro⟨a0,a1,⟨⟩⟩
 kernel_rfl
theorem Abo:AD (AU Tryz.f128) 0=[(0,AB Tryz.f128 0)]:=by kernel_rfl
theorem ALR:AT Tryz.prog 128 (AG 2 Vw Vv Vu JC):=AI LS Tryz.func128 (by kernel_rfl) (by kernel_rfl) rfl (fun v=>(Kx v).trans (AQv v)) (AA Abo ⟨AV1,trivial⟩)
def XB:Env:=Oo.ext 128 true true (AG 2 Vw Vv Vu JC)
theorem TA:Ac Tryz.prog XB:=Env.AY LS ALR (fun _=>AL rfl rfl) (fun _=>AJ rfl rfl)
abbrev AkT:Hints:={  }
theorem Afu:∀ v,ACd v=AR Tryz.prog XB AkT Tryz.f94 AVT AVS AVR v:=by
 rintro⟨a0,a1,⟨⟩⟩
 kernel_rfl
theorem AkS:AD (AU Tryz.f94) 0=[]:=by kernel_rfl
theorem AbI:AT Tryz.prog 94 (AG 2 AVT AVS AVR AbJ):=AI TA Tryz.func94 (by kernel_rfl) (by kernel_rfl) rfl (fun v=>(AK2 v).trans (Afu v)) (AA AkS trivial)
def AX2:Env:=XB.ext 94 true true (AG 2 AVT AVS AVR AbJ)
theorem AId:Ac Tryz.prog AX2:=Env.AY TA AbI (fun _=>AL rfl rfl) (fun _=>AJ rfl rfl)
abbrev AXb:Hints:={  }
theorem AMo:∀ v,LM v=AR Tryz.prog AX2 AXb Tryz.f89 Qi Qh Qg v:=by
 rintro⟨a0,a1,⟨⟩⟩
 kernel_rfl
theorem AXa:AD (AU Tryz.f89) 0=[]:=by kernel_rfl
theorem AGg:AT Tryz.prog 89 (AG 2 Qi Qh Qg NQ):=AI AId Tryz.func89 (by kernel_rfl) (by kernel_rfl) rfl (fun v=>(YE v).trans (AMo v)) (AA AXa trivial)
def Ll:Env:=AX2.ext 89 true true (AG 2 Qi Qh Qg NQ)
theorem Jn:Ac Tryz.prog Ll:=Env.AY AId AGg (fun _=>AL rfl rfl) (fun _=>AJ rfl rfl)
abbrev Tb:Hints:={ loop:=fun n=>match n with|0=>Aa 0 47 AAD AAC CM|_=>fun _ _ _=>none,fp:=fun n=>match n with|6=>[[],[0],[0],[],[],[],[],[0],[0],[],[],[],[],[],[],[3,4],[]]|_=>[] }
theorem AFP:∀ v,CM v=roundOf Tryz.prog Ll Tb 1 0 47 (AB Tryz.f78 0) AAD AAC v:=by
 rintro⟨a0,a1,a2,a3,a4,⟨⟩⟩
 kernel_rfl
theorem ASx:AD (AB Tryz.f78 0) 1=[]:=by kernel_rfl
theorem ASy:AZ Tryz.prog 0 (.loop (AB Tryz.f78 0)) (Tb.loop 0):=AW Jn (AFP) (AA ASx trivial)
theorem AN0:∀ v,Jo v=AR Tryz.prog Ll Tb Tryz.f78 Ta TZ TY v:=by
 rintro⟨a0,a1,⟨⟩⟩
 kernel_rfl
theorem AZl:AD (AU Tryz.f78) 0=[(0,AB Tryz.f78 0)]:=by kernel_rfl
theorem AI1:AT Tryz.prog 78 (AG 2 Ta TZ TY HQ):=AI Jn Tryz.func78 (by kernel_rfl) (by kernel_rfl) rfl (fun v=>(Pa v).trans (AN0 v)) (AA AZl ⟨ASy,trivial⟩)
def W1:Env:=Ll.ext 78 true true (AG 2 Ta TZ TY HQ)
theorem Sp:Ac Tryz.prog W1:=Env.AY Jn AI1 (fun _=>AL rfl rfl) (fun _=>AJ rfl rfl)
abbrev AWq:Hints:={ fp:=fun n=>match n with|3=>[[0],[0],[0],[],[],[12],[],[],[3],[]]|_=>[] }
theorem AMG:∀ v,Ia v=AR Tryz.prog W1 AWq Tryz.f42 QQ QP QO v:=by
 rintro⟨a0,a1,⟨⟩⟩
 kernel_rfl
theorem AWp:AD (AU Tryz.f42) 0=[]:=by kernel_rfl
theorem AGO:AT Tryz.prog 42 (AG 2 QQ QP QO J9):=AI Sp Tryz.func42 (by kernel_rfl) (by kernel_rfl) rfl (fun v=>(M8 v).trans (AMG v)) (AA AWp trivial)
def Lj:Env:=W1.ext 42 true true (AG 2 QQ QP QO J9)
theorem Jm:Ac Tryz.prog Lj:=Env.AY Sp AGO (fun _=>AL rfl rfl) (fun _=>AJ rfl rfl)
abbrev AAk:Hints:={ loop:=fun n=>match n with|0=>Aa 0 38 AHF AHE Ez|_=>fun _ _ _=>none,fp:=fun n=>match n with|6=>[[0],[0],[],[],[],[2],[2],[],[],[],[]]|_=>[] }
theorem AJl:∀ v,Ez v=roundOf Tryz.prog Lj AAk 1 0 38 (AB Tryz.f55 0) AHF AHE v:=by
 rintro⟨a0,a1,a2,a3,a4,⟨⟩⟩
 kernel_rfl
theorem AaF:AD (AB Tryz.f55 0) 1=[]:=by kernel_rfl
theorem AaG:AZ Tryz.prog 0 (.loop (AB Tryz.f55 0)) (AAk.loop 0):=AW Jm (AJl) (AA AaF trivial)
theorem ATb:∀ v,RE v=AR Tryz.prog Lj AAk Tryz.f55 AAj AAi AAh v:=by
 rintro⟨a0,a1,⟨⟩⟩
 kernel_rfl
theorem AeM:AD (AU Tryz.f55) 0=[(0,AB Tryz.f55 0)]:=by kernel_rfl
theorem AOd:AT Tryz.prog 55 (AG 2 AAj AAi AAh Tr):=AI Jm Tryz.func55 (by kernel_rfl) (by kernel_rfl) rfl (fun v=>(AHG v).trans (ATb v)) (AA AeM ⟨AaG,trivial⟩)
def Sx:Env:=Lj.ext 55 true true (AG 2 AAj AAi AAh Tr)
theorem Nc:Ac Tryz.prog Sx:=Env.AY Jm AOd (fun _=>AL rfl rfl) (fun _=>AJ rfl rfl)
abbrev AL1:Hints:={ loop:=fun n=>match n with|0=>Aa 0 18 ARU ART IZ|_=>fun _ _ _=>none,fp:=fun n=>match n with|4=>[[],[],[],[],[0],[]]|_=>[] }
theorem ARS:∀ v,IZ v=roundOf Tryz.prog Sx AL1 1 0 18 (AB Tryz.f70 0) ARU ART v:=by
 rintro⟨a0,a1,a2,a3,⟨⟩⟩
 kernel_rfl
theorem Agj:AD (AB Tryz.f70 0) 1=[]:=by kernel_rfl
theorem Agk:AZ Tryz.prog 0 (.loop (AB Tryz.f70 0)) (AL1.loop 0):=AW Nc (ARS) (AA Agj trivial)
theorem AcO:∀ v,ZZ v=AR Tryz.prog Sx AL1 Tryz.f70 AL0 ALz ALy v:=by
 rintro⟨a0,a1,⟨⟩⟩
 kernel_rfl
theorem AjE:AD (AU Tryz.f70) 0=[(0,AB Tryz.f70 0)]:=by kernel_rfl
theorem AWb:AT Tryz.prog 70 (AG 2 AL0 ALz ALy X6):=AI Nc Tryz.func70 (by kernel_rfl) (by kernel_rfl) rfl (fun v=>(ARV v).trans (AcO v)) (AA AjE ⟨Agk,trivial⟩)
def Zn:Env:=Sx.ext 70 true true (AG 2 AL0 ALz ALy X6)
theorem Qt:Ac Tryz.prog Zn:=Env.AY Nc AWb (fun _=>AL rfl rfl) (fun _=>AJ rfl rfl)
abbrev Ws:Hints:={ loop:=fun n=>match n with|0=>Aa 0 49 AEe AEd Et|_=>fun _ _ _=>none,fp:=fun n=>match n with|6=>[[],[],[],[],[],[],[],[],[],[],[],[],[0],[0],[],[],[],[],[],[],[],[],[],[],[],[],[],[],[],[],[0],[0],[],[]]|_=>[] }
theorem AGi:∀ v,Et v=roundOf Tryz.prog Zn Ws 1 0 49 (AB Tryz.f127 0) AEe AEd v:=by
 rintro⟨a0,a1,a2,a3,⟨⟩⟩
 kernel_rfl
theorem AXp:AD (AB Tryz.f127 0) 1=[]:=by kernel_rfl
theorem AXq:AZ Tryz.prog 0 (.loop (AB Tryz.f127 0)) (Ws.loop 0):=AW Qt (AGi) (AA AXp trivial)
theorem ASS:∀ v,Of v=AR Tryz.prog Zn Ws Tryz.f127 Wr Wq Wp v:=by
 rintro⟨a0,a1,⟨⟩⟩
 kernel_rfl
theorem AdK:AD (AU Tryz.f127) 0=[(0,AB Tryz.f127 0)]:=by kernel_rfl
theorem AM3:AT Tryz.prog 127 (AG 2 Wr Wq Wp Sk):=AI Qt Tryz.func127 (by kernel_rfl) (by kernel_rfl) rfl (fun v=>(AEf v).trans (ASS v)) (AA AdK ⟨AXq,trivial⟩)
def KQ:Env:=Zn.ext 127 true true (AG 2 Wr Wq Wp Sk)
theorem Hj:Ac Tryz.prog KQ:=Env.AY Qt AM3 (fun _=>AL rfl rfl) (fun _=>AJ rfl rfl)
end
end Go.Pev
end
section
namespace Go.Pev
open Go.Proofs
noncomputable section
abbrev Jw:Hints:={ loop:=fun n=>match n with|0=>Aa 0 39 ABW ABU Ef|1=>Aa 0 39 ABV ABT Df|_=>fun _ _ _=>none }
theorem AFj:∀ v,Df v=roundOf Tryz.prog KQ Jw 2 0 39 (AB Tryz.f69 1) ABV ABT v:=by
 rintro⟨a0,a1,a2,a3,a4,⟨⟩⟩
 kernel_rfl
theorem AUP:AD (AB Tryz.f69 1) 2=[]:=by kernel_rfl
theorem AUR:AZ Tryz.prog 0 (.loop (AB Tryz.f69 1)) (Jw.loop 1):=AW Hj (AFj) (AA AUP trivial)
theorem AFk:∀ v,Ef v=roundOf Tryz.prog KQ Jw 1 0 39 (AB Tryz.f69 0) ABW ABU v:=by
 rintro⟨a0,a1,a2,a3,⟨⟩⟩
 kernel_rfl
theorem AUQ:AD (AB Tryz.f69 0) 1=[(1,AB Tryz.f69 1)]:=by kernel_rfl
theorem AUS:AZ Tryz.prog 0 (.loop (AB Tryz.f69 0)) (Jw.loop 0):=AW Hj (AFk) (AA AUQ ⟨AUR,trivial⟩)
theorem AO5:∀ v,N1 v=AR Tryz.prog KQ Jw Tryz.f69 UB UA T9 v:=by
 rintro⟨a0,a1,⟨⟩⟩
 kernel_rfl
theorem Aag:AD (AU Tryz.f69) 0=[(0,AB Tryz.f69 0)]:=by kernel_rfl
theorem AKF:AT Tryz.prog 69 (AG 2 UB UA T9 N2):=AI Hj Tryz.func69 (by kernel_rfl) (by kernel_rfl) rfl (fun v=>(ABX v).trans (AO5 v)) (AA Aag ⟨AUS,trivial⟩)
def Ov:Env:=KQ.ext 69 true true (AG 2 UB UA T9 N2)
theorem La:Ac Tryz.prog Ov:=Env.AY Hj AKF (fun _=>AL rfl rfl) (fun _=>AJ rfl rfl)
abbrev AK9:Hints:={ loop:=fun n=>match n with|0=>Aa 0 44 AQc AQb II|_=>fun _ _ _=>none }
theorem AQa:∀ v,II v=roundOf Tryz.prog Ov AK9 1 0 44 (AB Tryz.f87 0) AQc AQb v:=by
 rintro⟨a0,a1,a2,a3,⟨⟩⟩
 kernel_rfl
theorem Afy:AD (AB Tryz.f87 0) 1=[]:=by kernel_rfl
theorem Afz:AZ Tryz.prog 0 (.loop (AB Tryz.f87 0)) (AK9.loop 0):=AW La (AQa) (AA Afy trivial)
theorem AbN:∀ v,ZR v=AR Tryz.prog Ov AK9 Tryz.f87 AK8 AK7 AK6 v:=by
 rintro⟨a0,a1,⟨⟩⟩
 kernel_rfl
theorem Ail:AD (AU Tryz.f87) 0=[(0,AB Tryz.f87 0)]:=by kernel_rfl
theorem AVV:AT Tryz.prog 87 (AG 2 AK8 AK7 AK6 AHc):=AI La Tryz.func87 (by kernel_rfl) (by kernel_rfl) rfl (fun v=>(AQd v).trans (AbN v)) (AA Ail ⟨Afz,trivial⟩)
def ANV:Env:=Ov.ext 87 true true (AG 2 AK8 AK7 AK6 AHc)
theorem AE7:Ac Tryz.prog ANV:=Env.AY La AVV (fun _=>AL rfl rfl) (fun _=>AJ rfl rfl)
abbrev Ag6:Hints:={  }
theorem AWx:∀ v,SK v=AR Tryz.prog ANV Ag6 Tryz.f88 ADq ADp ADo v:=by
 rintro⟨a0,a1,⟨⟩⟩
 kernel_rfl
theorem Ag5:AD (AU Tryz.f88) 0=[]:=by kernel_rfl
theorem ARj:AT Tryz.prog 88 (AG 2 ADq ADp ADo ADr):=AI AE7 Tryz.func88 (by kernel_rfl) (by kernel_rfl) rfl (fun v=>(AIC v).trans (AWx v)) (AA Ag5 trivial)
def TK:Env:=ANV.ext 88 true true (AG 2 ADq ADp ADo ADr)
theorem Nm:Ac Tryz.prog TK:=Env.AY AE7 ARj (fun _=>AL rfl rfl) (fun _=>AJ rfl rfl)
abbrev AJ4:Hints:={ loop:=fun n=>match n with|0=>Aa 0 54 AOu AOt IA|_=>fun _ _ _=>none,fp:=fun n=>match n with|2=>[[],[],[],[],[],[],[],[],[],[],[0],[0],[],[],[],[],[],[],[],[0],[0],[],[],[],[],[],[],[],[0],[0],[],[],[],[]]|4=>[[],[],[],[],[3],[0],[],[5,6],[],[],[],[9],[]]|_=>[] }
theorem AOs:∀ v,IA v=roundOf Tryz.prog TK AJ4 1 0 54 (AB Tryz.f90 0) AOu AOt v:=by
 rintro⟨a0,a1,a2,a3,a4,a5,⟨⟩⟩
 kernel_rfl
theorem Aef:AD (AB Tryz.f90 0) 1=[]:=by kernel_rfl
theorem Aeg:AZ Tryz.prog 0 (.loop (AB Tryz.f90 0)) (AJ4.loop 0):=AW Nm (AOs) (AA Aef trivial)
theorem Aaa:∀ v,ZJ v=AR Tryz.prog TK AJ4 Tryz.f90 AJ3 AJ2 AJ1 v:=by
 rintro⟨a0,a1,⟨⟩⟩
 kernel_rfl
theorem AiK:AD (AU Tryz.f90) 0=[(0,AB Tryz.f90 0)]:=by kernel_rfl
theorem AUE:AT Tryz.prog 90 (AG 2 AJ3 AJ2 AJ1 AOw):=AI Nm Tryz.func90 (by kernel_rfl) (by kernel_rfl) rfl (fun v=>(AOv v).trans (Aaa v)) (AA AiK ⟨Aeg,trivial⟩)
def Zk:Env:=TK.ext 90 true true (AG 2 AJ3 AJ2 AJ1 AOw)
theorem Qp:Ac Tryz.prog Zk:=Env.AY Nm AUE (fun _=>AL rfl rfl) (fun _=>AJ rfl rfl)
abbrev ANE:Hints:={ loop:=fun n=>match n with|0=>Aa 0 76 ASb ASa G4|_=>fun _ _ _=>none,fp:=fun n=>match n with|12=>[[6],[6],[],[],[2],[2],[2],[],[],[2],[2],[2],[],[],[4],[4],[],[8],[6],[7]]|8=>[[0],[0],[],[0],[0],[39],[],[],[43]]|_=>[] }
theorem ASZ:∀ v,G4 v=roundOf Tryz.prog Zk ANE 1 0 76 (AB Tryz.f32 0) ASb ASa v:=by
 rintro⟨a0,a1,a2,a3,a4,a5,⟨⟩⟩
 kernel_rfl
theorem Ahe:AD (AB Tryz.f32 0) 1=[]:=by kernel_rfl
theorem Ahf:AZ Tryz.prog 0 (.loop (AB Tryz.f32 0)) (ANE.loop 0):=AW Qp (ASZ) (AA Ahe trivial)
theorem AdQ:∀ v,Zh v=AR Tryz.prog Zk ANE Tryz.f32 AND ANC ANB v:=by
 rintro⟨a0,a1,⟨⟩⟩
 kernel_rfl
theorem Ajm:AD (AU Tryz.f32) 0=[(0,AB Tryz.f32 0)]:=by kernel_rfl
theorem AXt:AT Tryz.prog 32 (AG 2 AND ANC ANB AIW):=AI Qp Tryz.func32 (by kernel_rfl) (by kernel_rfl) rfl (fun v=>(ASd v).trans (AdQ v)) (AA Ajm ⟨Ahf,trivial⟩)
def ANb:Env:=Zk.ext 32 true true (AG 2 AND ANC ANB AIW)
theorem AFL:Ac Tryz.prog ANb:=Env.AY Qp AXt (fun _=>AL rfl rfl) (fun _=>AJ rfl rfl)
abbrev Abr:Hints:={ fp:=fun n=>match n with|3=>[[0],[0],[0],[],[],[12],[],[],[3],[]]|_=>[] }
theorem AQz:∀ v,J3 v=AR Tryz.prog ANb Abr Tryz.f41 WB WA Vz v:=by
 rintro⟨a0,a1,⟨⟩⟩
 kernel_rfl
theorem Abq:AD (AU Tryz.f41) 0=[]:=by kernel_rfl
theorem ALS:AT Tryz.prog 41 (AG 2 WB WA Vz OS):=AI AFL Tryz.func41 (by kernel_rfl) (by kernel_rfl) rfl (fun v=>(P5 v).trans (AQz v)) (AA Abq trivial)
def XC:Env:=ANb.ext 41 true true (AG 2 WB WA Vz OS)
theorem TC:Ac Tryz.prog XC:=Env.AY AFL ALS (fun _=>AL rfl rfl) (fun _=>AJ rfl rfl)
abbrev Aiu:Hints:={  }
theorem Abu:∀ v,ZV v=AR Tryz.prog XC Aiu Tryz.f168 ALY ALX ALW v:=by
 rintro⟨a0,a1,⟨⟩⟩
 kernel_rfl
theorem Ait:AD (AU Tryz.f168) 0=[]:=by kernel_rfl
theorem AV5:AT Tryz.prog 168 (AG 2 ALY ALX ALW EK):=AI TC Tryz.func168 (by kernel_rfl) (by kernel_rfl) rfl (fun v=>(AQ2 v).trans (Abu v)) (AA Ait trivial)
def TD:Env:=XC.ext 168 true true (AG 2 ALY ALX ALW EK)
theorem Le:Ac Tryz.prog TD:=Env.AY TC AV5 (fun _=>AL rfl rfl) (fun _=>AJ rfl rfl)
abbrev ADR:Hints:={ loop:=fun n=>match n with|0=>Aa 1 49 AY1 AYz OU|1=>Aa 1 49 AY0 AYy OT|_=>fun _ _ _=>none,fp:=fun n=>match n with|4=>[[],[],[],[],[],[],[0],[0],[],[],[],[0],[0],[],[]]|6=>[[],[],[],[],[],[],[],[],[0],[0],[],[],[0],[0],[0],[1],[0],[1]]|_=>[] }
theorem AWM:∀ v,OT v=roundOf Tryz.prog TD ADR 2 1 49 (AB Tryz.f162 1) AY0 AYy v:=by
 rintro⟨a0,a1,a2,a3,a4,⟨⟩⟩
 kernel_rfl
theorem Ai3:AD (AB Tryz.f162 1) 2=[]:=by kernel_rfl
theorem Ai5:AZ Tryz.prog 1 (.loop (AB Tryz.f162 1)) (ADR.loop 1):=AW Le (AWM) (AA Ai3 trivial)
theorem AWN:∀ v,OU v=roundOf Tryz.prog TD ADR 1 1 49 (AB Tryz.f162 0) AY1 AYz v:=by
 rintro⟨a0,a1,a2,a3,⟨⟩⟩
 kernel_rfl
theorem Ai4:AD (AB Tryz.f162 0) 1=[(1,AB Tryz.f162 1)]:=by kernel_rfl
theorem Ai6:AZ Tryz.prog 1 (.loop (AB Tryz.f162 0)) (ADR.loop 0):=AW Le (AWN) (AA Ai4 ⟨Ai5,trivial⟩)
theorem AgN:∀ v,ALi v=AR Tryz.prog TD ADR Tryz.f162 AWQ AWP AWO v:=by
 rintro⟨a0,a1,a2,⟨⟩⟩
 kernel_rfl
theorem Akc:AD (AU Tryz.f162) 0=[(0,AB Tryz.f162 0)]:=by kernel_rfl
theorem Ab4:AT Tryz.prog 162 (AG 3 AWQ AWP AWO Ab5):=AI Le Tryz.func162 (by kernel_rfl) (by kernel_rfl) rfl (fun v=>(AY2 v).trans (AgN v)) (AA Akc ⟨Ai6,trivial⟩)
def ANY:Env:=TD.ext 162 false true (AG 3 AWQ AWP AWO Ab5)
theorem XE:Ac Tryz.prog ANY:=Env.AY Le Ab4 ((by simp)) (fun _=>AJ rfl rfl)
abbrev AJd:Hints:={ loop:=fun n=>match n with|0=>Aa 1 76 AOU AOT Jq|_=>fun _ _ _=>none,fp:=fun n=>match n with|6=>[[],[],[],[],[],[],[],[],[],[],[],[],[0],[0],[],[],[],[],[0],[0],[0],[1],[0],[1]]|5=>[[],[],[],[],[0],[0],[],[],[],[],[0],[0],[],[]]|3=>[[],[],[],[],[],[],[],[],[],[0],[0],[],[],[],[],[],[0],[0],[],[]]|_=>[] }
theorem AOS:∀ v,Jq v=roundOf Tryz.prog ANY AJd 1 1 76 (AB Tryz.f189 0) AOU AOT v:=by
 rintro⟨a0,a1,a2,a3,⟨⟩⟩
 kernel_rfl
theorem AeI:AD (AB Tryz.f189 0) 1=[]:=by kernel_rfl
theorem AeJ:AZ Tryz.prog 1 (.loop (AB Tryz.f189 0)) (AJd.loop 0):=AW XE (AOS) (AA AeI trivial)
theorem AaD:∀ v,ZD v=AR Tryz.prog ANY AJd Tryz.f189 AJc AJb AJa v:=by
 rintro⟨a0,a1,a2,a3,⟨⟩⟩
 kernel_rfl
theorem Ah8:AD (AU Tryz.f189) 0=[(0,AB Tryz.f189 0)]:=by kernel_rfl
theorem ATV:AT Tryz.prog 189 (AG 4 AJc AJb AJa AHB):=AI XE Tryz.func189 (by kernel_rfl) (by kernel_rfl) rfl (fun v=>(AOV v).trans (AaD v)) (AA Ah8 ⟨AeJ,trivial⟩)
def Sw:Env:=ANY.ext 189 false true (AG 4 AJc AJb AJa AHB)
theorem LX:Ac Tryz.prog Sw:=Env.AY XE ATV ((by simp)) (fun _=>AJ rfl rfl)
abbrev SD:Hints:={ loop:=fun n=>match n with|0=>Aa 1 56 ARN ARL J7|1=>Aa 1 56 ARM ARK J6|_=>fun _ _ _=>none,fp:=fun n=>match n with|10=>[[],[],[],[],[],[],[],[],[],[],[0],[0],[],[],[0],[0],[0],[1],[0],[1]]|_=>[] }
theorem ARI:∀ v,J6 v=roundOf Tryz.prog Sw SD 2 1 56 (AB Tryz.f163 1) ARM ARK v:=by
 rintro⟨a0,a1,a2,a3,⟨⟩⟩
 kernel_rfl
theorem Agd:AD (AB Tryz.f163 1) 2=[]:=by kernel_rfl
theorem Agf:AZ Tryz.prog 1 (.loop (AB Tryz.f163 1)) (SD.loop 1):=AW LX (ARI) (AA Agd trivial)
theorem ARJ:∀ v,J7 v=roundOf Tryz.prog Sw SD 1 1 56 (AB Tryz.f163 0) ARN ARL v:=by
 rintro⟨a0,a1,a2,a3,a4,⟨⟩⟩
 kernel_rfl
theorem Age:AD (AB Tryz.f163 0) 1=[]:=by kernel_rfl
theorem Agg:AZ Tryz.prog 1 (.loop (AB Tryz.f163 0)) (SD.loop 0):=AW LX (ARJ) (AA Age trivial)
theorem AcL:∀ v,ZX v=AR Tryz.prog Sw SD Tryz.f163 ALv ALu ALt v:=by
 rintro⟨a0,a1,a2,⟨⟩⟩
 kernel_rfl
theorem AjD:AD (AU Tryz.f163) 0=[(0,AB Tryz.f163 0),(1,AB Tryz.f163 1)]:=by kernel_rfl
theorem AWa:AT Tryz.prog 163 (AG 3 ALv ALu ALt AH0):=AI LX Tryz.func163 (by kernel_rfl) (by kernel_rfl) rfl (fun v=>(ARO v).trans (AcL v)) (AA AjD ⟨Agg,Agf,trivial⟩)
def Zm:Env:=Sw.ext 163 false true (AG 3 ALv ALu ALt AH0)
theorem Qs:Ac Tryz.prog Zm:=Env.AY LX AWa ((by simp)) (fun _=>AJ rfl rfl)
abbrev AEa:Hints:={ loop:=fun n=>match n with|0=>Aa 1 65 AIP AIO GX|_=>fun _ _ _=>none,fp:=fun n=>match n with|10=>[[],[],[],[],[],[],[],[],[],[],[0],[0],[],[],[0],[0],[0],[1],[0],[1]]|_=>[] }
theorem AMv:∀ v,GX v=roundOf Tryz.prog Zm AEa 1 1 65 (AB Tryz.f164 0) AIP AIO v:=by
 rintro⟨a0,a1,a2,a3,a4,a5,⟨⟩⟩
 kernel_rfl
theorem AdC:AD (AB Tryz.f164 0) 1=[]:=by kernel_rfl
theorem AdD:AZ Tryz.prog 1 (.loop (AB Tryz.f164 0)) (AEa.loop 0):=AW Qs (AMv) (AA AdC trivial)
theorem AXf:∀ v,Sh v=AR Tryz.prog Zm AEa Tryz.f164 AEZ AEY AEX v:=by
 rintro⟨a0,a1,a2,⟨⟩⟩
 kernel_rfl
theorem AhV:AD (AU Tryz.f164) 0=[(0,AB Tryz.f164 0)]:=by kernel_rfl
theorem ASM:AT Tryz.prog 164 (AG 3 AEZ AEY AEX Wl):=AI Qs Tryz.func164 (by kernel_rfl) (by kernel_rfl) rfl (fun v=>(AIQ v).trans (AXf v)) (AA AhV ⟨AdD,trivial⟩)
def AFJ:Env:=Zm.ext 164 false true (AG 3 AEZ AEY AEX Wl)
theorem YY:Ac Tryz.prog AFJ:=Env.AY Qs ASM ((by simp)) (fun _=>AJ rfl rfl)
abbrev AbC:Hints:={ fp:=fun n=>match n with|1=>[[],[],[0],[0],[],[],[0],[0],[]]|_=>[] }
theorem AQU:∀ v,OD v=AR Tryz.prog AFJ AbC Tryz.f205 VG VF VE v:=by
 rintro⟨a0,a1,a2,a3,⟨⟩⟩
 kernel_rfl
theorem AbB:AD (AU Tryz.f205) 0=[]:=by kernel_rfl
theorem AKv:AT Tryz.prog 205 (AG 4 VG VF VE Km):=AI YY Tryz.func205 (by kernel_rfl) (by kernel_rfl) rfl (fun v=>(ACZ v).trans (AQU v)) (AA AbB trivial)
def W6:Env:=AFJ.ext 205 false true (AG 4 VG VF VE Km)
theorem S3:Ac Tryz.prog W6:=Env.AY YY AKv ((by simp)) (fun _=>AJ rfl rfl)
end
end Go.Pev
end
section
namespace Go.Pev
open Go.Proofs
noncomputable section
abbrev AbX:Hints:={  }
theorem AQi:∀ v,OK v=AR Tryz.prog W6 AbX Tryz.f193 VR VQ VP v:=by
 rintro⟨a0,a1,a2,a3,a4,⟨⟩⟩
 kernel_rfl
theorem AbW:AD (AU Tryz.f193) 0=[]:=by kernel_rfl
theorem ALG:AT Tryz.prog 193 (AG 5 VR VQ VP Ku):=AI S3 Tryz.func193 (by kernel_rfl) (by kernel_rfl) rfl (fun v=>(ACi v).trans (AQi v)) (AA AbW trivial)
def W8:Env:=W6.ext 193 false true (AG 5 VR VQ VP Ku)
theorem S5:Ac Tryz.prog W8:=Env.AY S3 ALG ((by simp)) (fun _=>AJ rfl rfl)
abbrev Abb:Hints:={  }
theorem AQk:∀ v,ON v=AR Tryz.prog W8 Abb Tryz.f192 VX VW VV v:=by
 rintro⟨a0,a1,a2,⟨⟩⟩
 kernel_rfl
theorem Aba:AD (AU Tryz.f192) 0=[]:=by kernel_rfl
theorem ALJ:AT Tryz.prog 192 (AG 3 VX VW VV Kv):=AI S5 Tryz.func192 (by kernel_rfl) (by kernel_rfl) rfl (fun v=>(ACj v).trans (AQk v)) (AA Aba trivial)
def XA:Env:=W8.ext 192 false true (AG 3 VX VW VV Kv)
theorem S7:Ac Tryz.prog XA:=Env.AY S5 ALJ ((by simp)) (fun _=>AJ rfl rfl)
abbrev Aeu:Hints:={  }
theorem AUf:∀ v,RT v=AR Tryz.prog XA Aeu Tryz.f165 ABq ABp ABo v:=by
 rintro⟨a0,a1,a2,⟨⟩⟩
 kernel_rfl
theorem Aet:AD (AU Tryz.f165) 0=[]:=by kernel_rfl
theorem APC:AT Tryz.prog 165 (AG 3 ABq ABp ABo UP):=AI S7 Tryz.func165 (by kernel_rfl) (by kernel_rfl) rfl (fun v=>(AHV v).trans (AUf v)) (AA Aet trivial)
def S1:Env:=XA.ext 165 false true (AG 3 ABq ABp ABo UP)
theorem Nf:Ac Tryz.prog S1:=Env.AY S7 APC ((by simp)) (fun _=>AJ rfl rfl)
abbrev AT4:Hints:={ loop:=fun n=>match n with|0=>Aa 1 32 AYP AYO RK|_=>fun _ _ _=>none,fp:=fun n=>match n with|3=>[[],[],[],[],[],[],[0],[0],[],[],[0],[0],[0],[1],[0],[1]]|_=>[] }
theorem AT0:∀ v,RK v=roundOf Tryz.prog S1 AT4 1 1 32 (AB Tryz.f166 0) AYP AYO v:=by
 rintro⟨a0,a1,a2,⟨⟩⟩
 kernel_rfl
theorem AiG:AD (AB Tryz.f166 0) 1=[]:=by kernel_rfl
theorem AiH:AZ Tryz.prog 1 (.loop (AB Tryz.f166 0)) (AT4.loop 0):=AW Nf (AT0) (AA AiG trivial)
theorem AeW:∀ v,AJu v=AR Tryz.prog S1 AT4 Tryz.f166 AT3 AT2 AT1 v:=by
 rintro⟨a0,a1,a2,⟨⟩⟩
 kernel_rfl
theorem Aj7:AD (AU Tryz.f166) 0=[(0,AB Tryz.f166 0)]:=by kernel_rfl
theorem AaS:AT Tryz.prog 166 (AG 3 AT3 AT2 AT1 AaU):=AI Nf Tryz.func166 (by kernel_rfl) (by kernel_rfl) rfl (fun v=>(AYQ v).trans (AeW v)) (AA Aj7 ⟨AiH,trivial⟩)
def Qo:Env:=S1.ext 166 false true (AG 3 AT3 AT2 AT1 AaU)
theorem Hu:Ac Tryz.prog Qo:=Env.AY Nf AaS ((by simp)) (fun _=>AJ rfl rfl)
abbrev C6:Hints:={ loop:=fun n=>match n with|0=>Aa 1 133 Xw Xs CZ|1=>Aa 1 133 Xv Xr Gv|2=>Aa 1 133 Xu Xq E6|3=>Aa 1 133 Xt Xp E5|_=>fun _ _ _=>none,fp:=fun n=>match n with|11=>[[],[],[],[],[],[],[],[],[0],[0],[],[],[0],[0],[0],[1],[0],[1]]|5=>[[],[],[],[],[],[],[0],[0],[],[],[],[0],[0],[],[],[]]|17=>[[],[],[],[],[],[],[],[],[0],[0],[],[],[0],[0],[0],[1],[0],[1]]|16=>[[],[],[0],[0],[],[],[],[0],[0],[],[]]|23=>[[],[],[],[],[],[],[],[],[0],[0],[],[],[0],[0],[0],[1],[0],[1]]|22=>[[],[],[0],[0],[],[],[],[0],[0],[],[]]|_=>[] }
theorem ACD:∀ v,E5 v=roundOf Tryz.prog Qo C6 4 1 133 (AB Tryz.f167 3) Xt Xp v:=by
 rintro⟨a0,a1,a2,a3,a4,a5,⟨⟩⟩
 kernel_rfl
theorem APr:AD (AB Tryz.f167 3) 4=[]:=by kernel_rfl
theorem APv:AZ Tryz.prog 1 (.loop (AB Tryz.f167 3)) (C6.loop 3):=AW Hu (ACD) (AA APr trivial)
theorem ACE:∀ v,E6 v=roundOf Tryz.prog Qo C6 3 1 133 (AB Tryz.f167 2) Xu Xq v:=by
 rintro⟨a0,a1,a2,a3,a4,a5,⟨⟩⟩
 kernel_rfl
theorem APs:AD (AB Tryz.f167 2) 3=[]:=by kernel_rfl
theorem APw:AZ Tryz.prog 1 (.loop (AB Tryz.f167 2)) (C6.loop 2):=AW Hu (ACE) (AA APs trivial)
theorem ACF:∀ v,Gv v=roundOf Tryz.prog Qo C6 2 1 133 (AB Tryz.f167 1) Xv Xr v:=by
 rintro⟨a0,a1,a2,a3,a4,⟨⟩⟩
 kernel_rfl
theorem APt:AD (AB Tryz.f167 1) 2=[]:=by kernel_rfl
theorem APx:AZ Tryz.prog 1 (.loop (AB Tryz.f167 1)) (C6.loop 1):=AW Hu (ACF) (AA APt trivial)
theorem ACG:∀ v,CZ v=roundOf Tryz.prog Qo C6 1 1 133 (AB Tryz.f167 0) Xw Xs v:=by
 rintro⟨a0,a1,a2,a3,a4,⟨⟩⟩
 kernel_rfl
theorem APu:AD (AB Tryz.f167 0) 1=[(1,AB Tryz.f167 1),(2,AB Tryz.f167 2),(3,AB Tryz.f167 3)]:=by kernel_rfl
theorem APy:AZ Tryz.prog 1 (.loop (AB Tryz.f167 0)) (C6.loop 0):=AW Hu (ACG) (AA APu ⟨APx,APw,APv,trivial⟩)
theorem AKj:∀ v,Kh v=AR Tryz.prog Qo C6 Tryz.f167 Pu Pt Ps v:=by
 rintro⟨a0,a1,a2,⟨⟩⟩
 kernel_rfl
theorem AUz:AD (AU Tryz.f167) 0=[(0,AB Tryz.f167 0)]:=by kernel_rfl
theorem AFs:AT Tryz.prog 167 (AG 3 Pu Pt Ps Jx):=AI Hu Tryz.func167 (by kernel_rfl) (by kernel_rfl) rfl (fun v=>(Xx v).trans (AKj v)) (AA AUz ⟨APy,trivial⟩)
def Gc:Env:=Qo.ext 167 false true (AG 3 Pu Pt Ps Jx)
theorem ET:Ac Tryz.prog Gc:=Env.AY Hu AFs ((by simp)) (fun _=>AJ rfl rfl)
abbrev F8:Hints:={ loop:=fun n=>match n with|0=>Aa 1 84 ACW ACT IG|1=>Aa 1 84 ACV ACS IF|2=>Aa 1 84 ACU ACR IE|_=>fun _ _ _=>none,fp:=fun n=>match n with|8=>[[],[],[],[],[],[],[0],[0],[],[],[0],[0],[0],[1],[0],[1]]|3=>[[],[],[],[],[],[],[0],[0],[],[],[0],[0],[],[],[]]|5=>[[],[],[],[],[],[],[0],[0],[],[],[0],[0],[],[]]|1=>[[],[],[],[],[],[],[0],[0],[],[],[0],[0],[0],[1],[0],[1]]|_=>[] }
theorem AF2:∀ v,IE v=roundOf Tryz.prog Gc F8 3 1 84 (AB Tryz.f169 2) ACU ACR v:=by
 rintro⟨a0,a1,a2,a3,⟨⟩⟩
 kernel_rfl
theorem AVA:AD (AB Tryz.f169 2) 3=[]:=by kernel_rfl
theorem AVD:AZ Tryz.prog 1 (.loop (AB Tryz.f169 2)) (F8.loop 2):=AW ET (AF2) (AA AVA trivial)
theorem AF4:∀ v,IF v=roundOf Tryz.prog Gc F8 2 1 84 (AB Tryz.f169 1) ACV ACS v:=by
 rintro⟨a0,a1,a2,a3,⟨⟩⟩
 kernel_rfl
theorem AVB:AD (AB Tryz.f169 1) 2=[]:=by kernel_rfl
theorem AVE:AZ Tryz.prog 1 (.loop (AB Tryz.f169 1)) (F8.loop 1):=AW ET (AF4) (AA AVB trivial)
theorem AF6:∀ v,IG v=roundOf Tryz.prog Gc F8 1 1 84 (AB Tryz.f169 0) ACW ACT v:=by
 rintro⟨a0,a1,a2,a3,⟨⟩⟩
 kernel_rfl
theorem AVC:AD (AB Tryz.f169 0) 1=[(1,AB Tryz.f169 1),(2,AB Tryz.f169 2)]:=by kernel_rfl
theorem AVF:AZ Tryz.prog 1 (.loop (AB Tryz.f169 0)) (F8.loop 0):=AW ET (AF6) (AA AVC ⟨AVE,AVD,trivial⟩)
theorem AQQ:∀ v,OA v=AR Tryz.prog Gc F8 Tryz.f169 VA UZ UY v:=by
 rintro⟨a0,a1,a2,a3,⟨⟩⟩
 kernel_rfl
theorem Aa7:AD (AU Tryz.f169) 0=[(0,AB Tryz.f169 0)]:=by kernel_rfl
theorem AKq:AT Tryz.prog 169 (AG 4 VA UZ UY OB):=AI ET Tryz.func169 (by kernel_rfl) (by kernel_rfl) rfl (fun v=>(ACX v).trans (AQQ v)) (AA Aa7 ⟨AVF,trivial⟩)
def FF:Env:=Gc.ext 169 false true (AG 4 VA UZ UY OB)
theorem DD:Ac Tryz.prog FF:=Env.AY ET AKq ((by simp)) (fun _=>AJ rfl rfl)
abbrev FO:Hints:={ loop:=fun n=>match n with|0=>Aa 1 168 AQI AQD Mf|1=>Aa 1 168 AQH AQC Me|2=>Aa 1 168 AQG AQB Md|3=>Aa 1 168 AQF AQA Mc|4=>Aa 1 168 AQE AP9 Mb|_=>fun _ _ _=>none,fp:=fun n=>match n with|3=>[[],[],[],[],[],[],[0],[0],[],[],[0],[0],[],[]]|5=>[[],[],[],[],[],[],[0],[0],[],[],[0],[0],[],[],[]]|18=>[[],[],[],[],[],[],[0],[0],[],[],[0],[0],[0],[1],[0],[1]]|13=>[[],[],[],[],[],[],[0],[0],[],[],[0],[0],[],[]]|15=>[[],[],[],[],[],[],[0],[0],[],[],[0],[0],[],[],[]]|21=>[[],[],[],[],[],[],[0],[0],[],[],[0],[0],[0],[1],[0],[1]]|10=>[[],[],[],[],[],[],[0],[0],[],[],[0],[0],[0],[1],[0],[1]]|8=>[[],[],[],[],[],[],[0],[0],[],[],[0],[0],[0],[1],[0],[1]]|1=>[[],[],[],[],[],[],[0],[0],[],[],[0],[0],[0],[1],[0],[1]]|_=>[] }
theorem AP0:∀ v,Mb v=roundOf Tryz.prog FF FO 5 1 168 (AB Tryz.f170 4) AQE AP9 v:=by
 rintro⟨a0,a1,a2,a3,⟨⟩⟩
 kernel_rfl
theorem AfV:AD (AB Tryz.f170 4) 5=[]:=by kernel_rfl
theorem Afa:AZ Tryz.prog 1 (.loop (AB Tryz.f170 4)) (FO.loop 4):=AW DD (AP0) (AA AfV trivial)
theorem AP2:∀ v,Mc v=roundOf Tryz.prog FF FO 4 1 168 (AB Tryz.f170 3) AQF AQA v:=by
 rintro⟨a0,a1,a2,a3,⟨⟩⟩
 kernel_rfl
theorem AfW:AD (AB Tryz.f170 3) 4=[]:=by kernel_rfl
theorem Afb:AZ Tryz.prog 1 (.loop (AB Tryz.f170 3)) (FO.loop 3):=AW DD (AP2) (AA AfW trivial)
theorem AP4:∀ v,Md v=roundOf Tryz.prog FF FO 3 1 168 (AB Tryz.f170 2) AQG AQB v:=by
 rintro⟨a0,a1,a2,a3,⟨⟩⟩
 kernel_rfl
theorem AfX:AD (AB Tryz.f170 2) 3=[(3,AB Tryz.f170 3),(4,AB Tryz.f170 4)]:=by kernel_rfl
theorem Afc:AZ Tryz.prog 1 (.loop (AB Tryz.f170 2)) (FO.loop 2):=AW DD (AP4) (AA AfX ⟨Afb,Afa,trivial⟩)
theorem AP5:∀ v,Me v=roundOf Tryz.prog FF FO 2 1 168 (AB Tryz.f170 1) AQH AQC v:=by
 rintro⟨a0,a1,a2,a3,⟨⟩⟩
 kernel_rfl
theorem AfY:AD (AB Tryz.f170 1) 2=[]:=by kernel_rfl
theorem Afd:AZ Tryz.prog 1 (.loop (AB Tryz.f170 1)) (FO.loop 1):=AW DD (AP5) (AA AfY trivial)
theorem AP7:∀ v,Mf v=roundOf Tryz.prog FF FO 1 1 168 (AB Tryz.f170 0) AQI AQD v:=by
 rintro⟨a0,a1,a2,a3,⟨⟩⟩
 kernel_rfl
theorem AfZ:AD (AB Tryz.f170 0) 1=[]:=by kernel_rfl
theorem Afe:AZ Tryz.prog 1 (.loop (AB Tryz.f170 0)) (FO.loop 0):=AW DD (AP7) (AA AfZ trivial)
theorem Aa4:∀ v,ZM v=AR Tryz.prog FF FO Tryz.f170 AKn AKm AKl v:=by
 rintro⟨a0,a1,a2,a3,⟨⟩⟩
 kernel_rfl
theorem Aie:AD (AU Tryz.f170) 0=[(0,AB Tryz.f170 0),(1,AB Tryz.f170 1),(2,AB Tryz.f170 2)]:=by kernel_rfl
theorem AU0:AT Tryz.prog 170 (AG 4 AKn AKm AKl Ra):=AI DD Tryz.func170 (by kernel_rfl) (by kernel_rfl) rfl (fun v=>(AQJ v).trans (Aa4 v)) (AA Aie ⟨Afe,Afd,Afc,trivial⟩)
def ANU:Env:=FF.ext 170 false true (AG 4 AKn AKm AKl Ra)
theorem AE6:Ac Tryz.prog ANU:=Env.AY DD AU0 ((by simp)) (fun _=>AJ rfl rfl)
abbrev AUt(self:(List Int×Int×Int×Int×Unit)→Option ((List Int×Unit))):Hints:={ loop:=fun n=>match n with|0=>Aa 1 134 AYY AYX (N8 self)|_=>fun _ _ _=>none,fp:=fun n=>match n with|17=>[[],[],[],[],[],[],[0],[0],[],[],[0],[0],[],[],[]]|_=>[] }
abbrev AKZ(self:(List Int×Int×Int×Int×Unit)→Option ((List Int×Unit))):Env:=ANU.ext 131 false true (AG 4 AB5 AB4 AB3 self)
theorem AUs(self:(List Int×Int×Int×Int×Unit)→Option ((List Int×Unit))):∀ v,N8 self v=roundOf Tryz.prog (AKZ self) (AUt self) 1 1 134 (AB Tryz.f131 0) AYY AYX v:=by
 rintro⟨a0,a1,a2,a3,a4,a5,⟨⟩⟩
 kernel_rfl
theorem AiX:AD (AB Tryz.f131 0) 1=[]:=by kernel_rfl
theorem AiY(self:(List Int×Int×Int×Int×Unit)→Option ((List Int×Unit)))(hE:Ac Tryz.prog (AKZ self)):AZ Tryz.prog 1 (.loop (AB Tryz.f131 0)) ((AUt self).loop 0):=AW hE (AUs self) (AA AiX trivial)
theorem Ae4(self:(List Int×Int×Int×Int×Unit)→Option ((List Int×Unit))):∀ v,AKY self v=AR Tryz.prog (AKZ self) (AUt self) Tryz.f131 AB5 AB4 AB3 v:=by
 rintro⟨a0,a1,a2,a3,⟨⟩⟩
 kernel_rfl
theorem AkD:AD (AU Tryz.f131) 0=[(0,AB Tryz.f131 0)]:=by kernel_rfl
theorem AUu:∀ n,AT Tryz.prog 131 (AG 4 AB5 AB4 AB3 (ID n)):=by
 intro n
 induction n with
 |zero=>exact X1 fun _=>rfl
 |succ n ih=>
  have hE:Ac Tryz.prog (AKZ (ID n)):=Env.AY AE6 ih ((by simp)) (fun _=>AJ rfl rfl)
  let self:=ID n
  exact AI hE Tryz.func131 (by kernel_rfl) (by kernel_rfl) rfl (Ae4 self) (AA AkD ⟨(AiY self hE),trivial⟩)
theorem Aau:AT Tryz.prog 131 (AG 4 AB5 AB4 AB3 Aav):=by
 have e:Aav=ID 100:=funext AYZ
 rw[e]
 exact AUu _
def AX0:Env:=ANU.ext 131 false true (AG 4 AB5 AB4 AB3 Aav)
theorem AIb:Ac Tryz.prog AX0:=Env.AY AE6 Aau ((by simp)) (fun _=>AJ rfl rfl)
abbrev Ah5:Hints:={  }
theorem AaA:∀ v,ZB v=AR Tryz.prog AX0 Ah5 Tryz.f95 AJV AJU AJT v:=by
 rintro⟨a0,⟨⟩⟩
 kernel_rfl
theorem Ah4:AD (AU Tryz.f95) 0=[]:=by kernel_rfl
theorem ATT:AT Tryz.prog 95 (AG 1 AJV AJU AJT AOM):=AI AIb Tryz.func95 (by kernel_rfl) (by kernel_rfl) rfl (fun v=>(AOL v).trans (AaA v)) (AA Ah4 trivial)
def ANM:Env:=AX0.ext 95 false true (AG 1 AJV AJU AJT AOM)
theorem AEt:Ac Tryz.prog ANM:=Env.AY AIb ATT ((by simp)) (fun _=>AJ rfl rfl)
abbrev Ake:Hints:={  }
theorem AgT:∀ v,ALl v=AR Tryz.prog ANM Ake Tryz.f110 AWU AWT AWS v:=by
 rintro⟨a0,a1,⟨⟩⟩
 kernel_rfl
theorem Akd:AD (AU Tryz.f110) 0=[]:=by kernel_rfl
theorem Ab8:AT Tryz.prog 110 (AG 2 AWU AWT AWS AGJ):=AI AEt Tryz.func110 (by kernel_rfl) (by kernel_rfl) rfl (fun v=>(AY3 v).trans (AgT v)) (AA Akd trivial)
def AFE:Env:=ANM.ext 110 true true (AG 2 AWU AWT AWS AGJ)
theorem Oz:Ac Tryz.prog AFE:=Env.AY AEt Ab8 (fun _=>AL rfl rfl) (fun _=>AJ rfl rfl)
abbrev M6:Hints:={ loop:=fun n=>match n with|0=>Aa 0 64 AH7 AH5 GR|1=>Aa 0 64 AH6 AH4 GQ|_=>fun _ _ _=>none,fp:=fun n=>match n with|6=>[[0],[],[],[],[],[],[],[],[],[0],[],[],[],[],[],[],[],[]]|_=>[] }
theorem AL9:∀ v,GQ v=roundOf Tryz.prog AFE M6 2 0 64 (AB Tryz.f65 1) AH6 AH4 v:=by
 rintro⟨a0,a1,a2,a3,⟨⟩⟩
 kernel_rfl
theorem AcY:AD (AB Tryz.f65 1) 2=[]:=by kernel_rfl
theorem Aca:AZ Tryz.prog 0 (.loop (AB Tryz.f65 1)) (M6.loop 1):=AW Oz (AL9) (AA AcY trivial)
theorem AMA:∀ v,GR v=roundOf Tryz.prog AFE M6 1 0 64 (AB Tryz.f65 0) AH7 AH5 v:=by
 rintro⟨a0,a1,a2,a3,⟨⟩⟩
 kernel_rfl
theorem AcZ:AD (AB Tryz.f65 0) 1=[]:=by kernel_rfl
theorem Acb:AZ Tryz.prog 0 (.loop (AB Tryz.f65 0)) (M6.loop 0):=AW Oz (AMA) (AA AcZ trivial)
theorem AWh:∀ v,M7 v=AR Tryz.prog AFE M6 Tryz.f65 ADc ADb ADa v:=by
 rintro⟨a0,a1,⟨⟩⟩
 kernel_rfl
theorem Agm:AD (AU Tryz.f65) 0=[(0,AB Tryz.f65 0),(1,AB Tryz.f65 1)]:=by kernel_rfl
theorem ARc:AT Tryz.prog 65 (AG 2 ADc ADb ADa QK):=AI Oz Tryz.func65 (by kernel_rfl) (by kernel_rfl) rfl (fun v=>(WN v).trans (AWh v)) (AA Agm ⟨Acb,Aca,trivial⟩)
def TG:Env:=AFE.ext 65 true true (AG 2 ADc ADb ADa QK)
theorem Nj:Ac Tryz.prog TG:=Env.AY Oz ARc (fun _=>AL rfl rfl) (fun _=>AJ rfl rfl)
abbrev Ml:Hints:={ loop:=fun n=>match n with|0=>Aa 0 36 Rk Rj C7|_=>fun _ _ _=>none,fp:=fun n=>match n with|6=>[[],[],[2],[2],[],[],[2],[2],[]]|1=>[[0],[0],[0],[],[],[2],[]]|_=>[] }
theorem Yj:∀ v,C7 v=roundOf Tryz.prog TG Ml 1 0 36 (AB Tryz.f91 0) Rk Rj v:=by
 rintro⟨a0,a1,a2,a3,a4,a5,⟨⟩⟩
 kernel_rfl
theorem ALC:AD (AB Tryz.f91 0) 1=[]:=by kernel_rfl
theorem ALD:AZ Tryz.prog 0 (.loop (AB Tryz.f91 0)) (Ml.loop 0):=AW Nj (Yj) (AA ALC trivial)
theorem AGB:∀ v,JA v=AR Tryz.prog TG Ml Tryz.f91 Mk Mj Mi v:=by
 rintro⟨a0,a1,a2,⟨⟩⟩
 kernel_rfl
theorem AQg:AD (AU Tryz.f91) 0=[(0,AB Tryz.f91 0)]:=by kernel_rfl
theorem ACg:AT Tryz.prog 91 (AG 3 Mk Mj Mi GA):=AI Nj Tryz.func91 (by kernel_rfl) (by kernel_rfl) rfl (fun v=>(Rl v).trans (AGB v)) (AA AQg ⟨ALD,trivial⟩)
def Dr:Env:=TG.ext 91 true true (AG 3 Mk Mj Mi GA)
theorem Cw:Ac Tryz.prog Dr:=Env.AY Nj ACg (fun _=>AL rfl rfl) (fun _=>AJ rfl rfl)
end
end Go.Pev
end
section
namespace Go.Pev
open Go.Proofs
noncomputable section
abbrev Dv:Hints:={ loop:=fun n=>match n with|0=>Aa 0 105 AAa AAW Ec|1=>Aa 0 105 AAZ AAV Eb|2=>Aa 0 105 AAY AAU DY|3=>Aa 0 105 AAX AAT DX|_=>fun _ _ _=>none,fp:=fun n=>match n with|8=>[[],[],[2],[2],[],[],[4],[4],[]]|14=>[[0],[0],[0],[],[],[10],[]]|19=>[[4],[4],[],[],[4],[4],[],[],[],[],[],[4],[4],[2],[2],[],[4],[4],[2],[2],[],[]]|4=>[[0],[0],[0],[],[26],[]]|3=>[[0],[0],[0],[],[10],[]]|_=>[] }
theorem AFT:∀ v,DX v=roundOf Tryz.prog Dr Dv 4 0 105 (AB Tryz.f34 3) AAX AAT v:=by
 rintro⟨a0,a1,a2,a3,a4,⟨⟩⟩
 kernel_rfl
theorem ATK:AD (AB Tryz.f34 3) 4=[]:=by kernel_rfl
theorem ATO:AZ Tryz.prog 0 (.loop (AB Tryz.f34 3)) (Dv.loop 3):=AW Cw (AFT) (AA ATK trivial)
theorem AFU:∀ v,DY v=roundOf Tryz.prog Dr Dv 3 0 105 (AB Tryz.f34 2) AAY AAU v:=by
 rintro⟨a0,a1,a2,a3,a4,a5,⟨⟩⟩
 kernel_rfl
theorem ATL:AD (AB Tryz.f34 2) 3=[]:=by kernel_rfl
theorem ATP:AZ Tryz.prog 0 (.loop (AB Tryz.f34 2)) (Dv.loop 2):=AW Cw (AFU) (AA ATL trivial)
theorem AFV:∀ v,Eb v=roundOf Tryz.prog Dr Dv 2 0 105 (AB Tryz.f34 1) AAZ AAV v:=by
 rintro⟨a0,a1,a2,a3,⟨⟩⟩
 kernel_rfl
theorem ATM:AD (AB Tryz.f34 1) 2=[(2,AB Tryz.f34 2),(3,AB Tryz.f34 3)]:=by kernel_rfl
theorem ATQ:AZ Tryz.prog 0 (.loop (AB Tryz.f34 1)) (Dv.loop 1):=AW Cw (AFV) (AA ATM ⟨ATP,ATO,trivial⟩)
theorem AFW:∀ v,Ec v=roundOf Tryz.prog Dr Dv 1 0 105 (AB Tryz.f34 0) AAa AAW v:=by
 rintro⟨a0,a1,a2,a3,a4,⟨⟩⟩
 kernel_rfl
theorem ATN:AD (AB Tryz.f34 0) 1=[]:=by kernel_rfl
theorem ATR:AZ Tryz.prog 0 (.loop (AB Tryz.f34 0)) (Dv.loop 0):=AW Cw (AFW) (AA ATN trivial)
theorem AOG:∀ v,Nv v=AR Tryz.prog Dr Dv Tryz.f34 Tn Tm Tl v:=by
 rintro⟨a0,⟨⟩⟩
 kernel_rfl
theorem AZ6:AD (AU Tryz.f34) 0=[(0,AB Tryz.f34 0),(1,AB Tryz.f34 1)]:=by kernel_rfl
theorem AJP:AT Tryz.prog 34 (AG 1 Tn Tm Tl RC):=AI Cw Tryz.func34 (by kernel_rfl) (by kernel_rfl) rfl (fun v=>(AAb v).trans (AOG v)) (AA AZ6 ⟨ATR,ATQ,trivial⟩)
def Oq:Env:=Dr.ext 34 true true (AG 1 Tn Tm Tl RC)
theorem LU:Ac Tryz.prog Oq:=Env.AY Cw AJP (fun _=>AL rfl rfl) (fun _=>AJ rfl rfl)
abbrev AXm:Hints:={ loop:=fun n=>match n with|0=>Aa 0 49 AZM AZL LN|_=>fun _ _ _=>none,fp:=fun n=>match n with|5=>[[],[],[],[],[],[0],[],[]]|8=>[[],[],[],[],[],[],[],[],[],[],[0],[],[],[],[],[]]|_=>[] }
theorem AXi:∀ v,LN v=roundOf Tryz.prog Oq AXm 1 0 49 (AB Tryz.f132 0) AZM AZL v:=by
 rintro⟨a0,a1,a2,a3,a4,a5,a6,a7,⟨⟩⟩
 kernel_rfl
theorem Ajc:AD (AB Tryz.f132 0) 1=[]:=by kernel_rfl
theorem Ajd:AZ Tryz.prog 0 (.loop (AB Tryz.f132 0)) (AXm.loop 0):=AW LU (AXi) (AA Ajc trivial)
theorem AhY:∀ v,AMy v=AR Tryz.prog Oq AXm Tryz.f132 AXl AXk AXj v:=by
 rintro⟨a0,a1,⟨⟩⟩
 kernel_rfl
theorem Akn:AD (AU Tryz.f132) 0=[(0,AB Tryz.f132 0)]:=by kernel_rfl
theorem AdH:AT Tryz.prog 132 (AG 3 AXl AXk AXj AdI):=AI LU Tryz.func132 (by kernel_rfl) (by kernel_rfl) rfl (fun v=>(AZN v).trans (AhY v)) (AA Akn ⟨Ajd,trivial⟩)
def AX8:Env:=Oq.Fa 132 2 98 (AG 3 AXl AXk AXj AdI)
theorem AIi:Ac Tryz.prog AX8:=Env.Bf LU AdH (AJ rfl rfl)
abbrev Af9:Hints:={  }
theorem AVw:∀ v,Ro v=AR Tryz.prog AX8 Af9 Tryz.f99 AC3 AC2 AC1 v:=by
 rintro⟨a0,a1,a2,⟨⟩⟩
 kernel_rfl
theorem Af8:AD (AU Tryz.f99) 0=[]:=by kernel_rfl
theorem AQs:AT Tryz.prog 99 (AG 3 AC3 AC2 AC1 ALO):=AI AIi Tryz.func99 (by kernel_rfl) (by kernel_rfl) rfl (fun v=>(AHm v).trans (AVw v)) (AA Af8 trivial)
def AFA:Env:=AX8.ext 99 true true (AG 3 AC3 AC2 AC1 ALO)
theorem YS:Ac Tryz.prog AFA:=Env.AY AIi AQs (fun _=>AL rfl rfl) (fun _=>AJ rfl rfl)
abbrev Ais:Hints:={  }
theorem Abt:∀ v,ZU v=AR Tryz.prog AFA Ais Tryz.f51 ALV ALU ALT v:=by
 rintro⟨a0,a1,a2,⟨⟩⟩
 kernel_rfl
theorem Air:AD (AU Tryz.f51) 0=[]:=by kernel_rfl
theorem AV4:AT Tryz.prog 51 (AG 3 ALV ALU ALT AQ1):=AI YS Tryz.func51 (by kernel_rfl) (by kernel_rfl) rfl (fun v=>(AQ0 v).trans (Abt v)) (AA Air trivial)
def AZX:Env:=AFA.ext 51 true true (AG 3 ALV ALU ALT AQ1)
theorem AX6:Ac Tryz.prog AZX:=Env.AY YS AV4 (fun _=>AL rfl rfl) (fun _=>AJ rfl rfl)
theorem AhP : (Tryz.f144.name == "runtime.NumGoroutine") = false := by kernel_rfl
theorem AMc:AFM Tryz.prog Tryz.f144 55 3 (.int .i64) where
 body:=by kernel_rfl
 nt:=by kernel_rfl
 res:=by kernel_rfl
 d:=⟨by kernel_rfl,by kernel_rfl,by kernel_rfl,by kernel_rfl,by kernel_rfl,by kernel_rfl,by kernel_rfl,by kernel_rfl⟩
 g:=⟨by kernel_rfl,by kernel_rfl,by kernel_rfl,by kernel_rfl,by kernel_rfl,by kernel_rfl,by kernel_rfl,by kernel_rfl⟩
 o00:=by kernel_rfl
 o10:=by kernel_rfl
 o11:=by kernel_rfl
 o20:=by kernel_rfl
 o30:=by kernel_rfl
 o31:=by kernel_rfl
 o32:=by kernel_rfl
 o33:=by kernel_rfl
 sl:=by kernel_rfl
 z:=by kernel_rfl
 by1:=by kernel_rfl
def AFH:Env:=AZX.ext 144 true true (Hp 3 (.int .i64))
theorem YW:Ac Tryz.prog AFH:=Env.AY AX6 (AhO AMc Tryz.func144 AhP) (fun _=>L3 _ _) (fun _=>(L3 _ _).Ak7)
theorem AVi:Tryz.f145.body.isSome=true:=by kernel_rfl
theorem AVh : (Tryz.f145.name == "runtime.NumGoroutine") = false := by kernel_rfl
theorem AVg:loops (AU Tryz.f145)=0:=by kernel_rfl
def Hf:Env:=AFH.ext 145 false false (DF Tryz.prog AFH {} Tryz.f145)
theorem HL:Ac Tryz.prog Hf:=Env.AY YW (Cy YW Tryz.func145 AVi AVh AVg) (by simp) (by simp)
abbrev IY:Hints:={ loop:=fun n=>match n with|0=>Aa 2 19 Lv Lu Bn|_=>fun _ _ _=>none }
theorem QH:∀ v,Bn v=roundOf Tryz.prog Hf IY 1 2 19 (AB Tryz.f174 0) Lv Lu v:=by
 rintro⟨a0,a1,a2,a3,a4,⟨⟩⟩
 kernel_rfl
theorem Yn:AD (AB Tryz.f174 0) 1=[]:=by kernel_rfl
theorem Yo:AZ Tryz.prog 2 (.loop (AB Tryz.f174 0)) (IY.loop 0):=AW HL (QH) (AA Yn trivial)
theorem WI:∀ v,FY v=AR Tryz.prog Hf IY Tryz.f174 IX IW IV v:=by
 rintro⟨a0,a1,a2,⟨⟩⟩
 kernel_rfl
theorem ADY:AD (AU Tryz.f174) 0=[(0,AB Tryz.f174 0)]:=by kernel_rfl
theorem SA:AT Tryz.prog 174 (AG 2 IX IW IV HV):=AI HL Tryz.func174 (by kernel_rfl) (by kernel_rfl) rfl (fun v=>(Lw v).trans (WI v)) (AA ADY ⟨Yo,trivial⟩)
def Fm:Env:=Hf.Fa 174 1 145 (AG 2 IX IW IV HV)
theorem Fl:Ac Tryz.prog Fm:=Env.Bf HL SA (AJ rfl rfl)
abbrev Im:Hints:={ loop:=fun n=>match n with|0=>Aa 2 42 Lz Ly CV|_=>fun _ _ _=>none }
theorem QZ:∀ v,CV v=roundOf Tryz.prog Fm Im 1 2 42 (AB Tryz.f143 0) Lz Ly v:=by
 rintro⟨a0,a1,a2,a3,a4,⟨⟩⟩
 kernel_rfl
theorem Ys:AD (AB Tryz.f143 0) 1=[]:=by kernel_rfl
theorem Yt:AZ Tryz.prog 2 (.loop (AB Tryz.f143 0)) (Im.loop 0):=AW Fl (QZ) (AA Ys trivial)
theorem WX:∀ v,Fe v=AR Tryz.prog Fm Im Tryz.f143 Il Ik Ij v:=by
 rintro⟨a0,a1,a2,⟨⟩⟩
 kernel_rfl
theorem AD3:AD (AU Tryz.f143) 0=[(0,AB Tryz.f143 0)]:=by kernel_rfl
theorem SU:AT Tryz.prog 143 (AG 2 Il Ik Ij Ff):=AI Fl Tryz.func143 (by kernel_rfl) (by kernel_rfl) rfl (fun v=>(L0 v).trans (WX v)) (AA AD3 ⟨Yt,trivial⟩)
def Iz:Env:=Fm.Fa 143 1 145 (Jp (AG 2 Il Ik Ij Ff))
theorem JY:Ac Tryz.prog Iz:=Env.Bf Fl (XO SU) (AYF rfl rfl)
abbrev AWu:Hints:={ fp:=fun n=>match n with|4=>[[0],[0],[0],[],[],[],[],[],[],[1000005,21,1],[]]|_=>[] }
theorem AMI:∀ v,LA v=AR Tryz.prog Iz AWu Tryz.f112 QT QS QR v:=by
 rintro⟨a0,a1,⟨⟩⟩
 kernel_rfl
theorem AWt:AD (AU Tryz.f112) 0=[]:=by kernel_rfl
theorem AGP:AT Tryz.prog 112 (AG 2 QT QS QR Ib):=AI JY Tryz.func112 (by kernel_rfl) (by kernel_rfl) rfl (fun v=>(X9 v).trans (AMI v)) (AA AWt trivial)
def Qu:Env:=Iz.ext 112 true true (AG 2 QT QS QR Ib)
theorem PR:Ac Tryz.prog Qu:=Env.AY JY AGP (fun _=>AL rfl rfl) (fun _=>AJ rfl rfl)
abbrev AjG:Hints:={  }
theorem AcS:∀ v,Za v=AR Tryz.prog Qu AjG Tryz.f140 AL5 AL4 AL3 v:=by
 rintro⟨a0,⟨⟩⟩
 kernel_rfl
theorem AjF:AD (AU Tryz.f140) 0=[]:=by kernel_rfl
theorem AWe:AT Tryz.prog 140 (AG 2 AL5 AL4 AL3 ARY):=AI PR Tryz.func140 (by kernel_rfl) (by kernel_rfl) rfl (fun v=>(ARX v).trans (AcS v)) (AA AjF trivial)
def TE:Env:=Qu.ext 140 false true (AG 2 AL5 AL4 AL3 ARY)
theorem Lg:Ac Tryz.prog TE:=Env.AY PR AWe ((by simp)) (fun _=>AJ rfl rfl)
abbrev KH:Hints:={ loop:=fun n=>match n with|0=>Aa 0 36 AED AEB Eo|1=>Aa 0 36 AEC AEA En|_=>fun _ _ _=>none }
theorem AGW:∀ v,En v=roundOf Tryz.prog TE KH 2 0 36 (AB Tryz.f108 1) AEC AEA v:=by
 rintro⟨a0,a1,a2,a3,⟨⟩⟩
 kernel_rfl
theorem AXI:AD (AB Tryz.f108 1) 2=[]:=by kernel_rfl
theorem AXK:AZ Tryz.prog 0 (.loop (AB Tryz.f108 1)) (KH.loop 1):=AW Lg (AGW) (AA AXI trivial)
theorem AGX:∀ v,Eo v=roundOf Tryz.prog TE KH 1 0 36 (AB Tryz.f108 0) AED AEB v:=by
 rintro⟨a0,a1,a2,a3,a4,⟨⟩⟩
 kernel_rfl
theorem AXJ:AD (AB Tryz.f108 0) 1=[]:=by kernel_rfl
theorem AXL:AZ Tryz.prog 0 (.loop (AB Tryz.f108 0)) (KH.loop 0):=AW Lg (AGX) (AA AXJ trivial)
theorem AR5:∀ v,OY v=AR Tryz.prog TE KH Tryz.f108 Wd Wc Wb v:=by
 rintro⟨a0,⟨⟩⟩
 kernel_rfl
theorem Acx:AD (AU Tryz.f108) 0=[(0,AB Tryz.f108 0),(1,AB Tryz.f108 1)]:=by kernel_rfl
theorem AMW:AT Tryz.prog 108 (AG 1 Wd Wc Wb OZ):=AI Lg Tryz.func108 (by kernel_rfl) (by kernel_rfl) rfl (fun v=>(AEE v).trans (AR5 v)) (AA Acx ⟨AXL,AXK,trivial⟩)
def XI:Env:=TE.ext 108 true true (AG 1 Wd Wc Wb OZ)
theorem TM:Ac Tryz.prog XI:=Env.AY Lg AMW (fun _=>AL rfl rfl) (fun _=>AJ rfl rfl)
theorem AjL:Tryz.f116.body.isSome=true:=by kernel_rfl
theorem AjK : (Tryz.f116.name == "runtime.NumGoroutine") = false := by kernel_rfl
theorem AjJ:loops (AU Tryz.f116)=0:=by kernel_rfl
def O0:Env:=XI.ext 116 false false (DF Tryz.prog XI {} Tryz.f116)
theorem Li:Ac Tryz.prog O0:=Env.AY TM (Cy TM Tryz.func116 AjL AjK AjJ) (by simp) (by simp)
end
end Go.Pev
end
section
namespace Go.Pev
open Go.Proofs
noncomputable section
abbrev K6:Hints:={ loop:=fun n=>match n with|0=>Aa 3 19 PH PG CK|_=>fun _ _ _=>none }
theorem WJ:∀ v,CK v=roundOf Tryz.prog O0 K6 1 3 19 (AB Tryz.f147 0) PH PG v:=by
 rintro⟨a0,a1,a2,a3,⟨⟩⟩
 kernel_rfl
theorem AGL:AD (AB Tryz.f147 0) 1=[]:=by kernel_rfl
theorem AGM:AZ Tryz.prog 3 (.loop (AB Tryz.f147 0)) (K6.loop 0):=AW Li (WJ) (AA AGL trivial)
theorem ADZ:∀ v,HW v=AR Tryz.prog O0 K6 Tryz.f147 K5 K4 K0 v:=by
 rintro⟨a0,a1,⟨⟩⟩
 kernel_rfl
theorem ALp:AD (AU Tryz.f147) 0=[(0,AB Tryz.f147 0)]:=by kernel_rfl
theorem Yp:AT Tryz.prog 147 (AG 2 K5 K4 K0 K7):=AI Li Tryz.func147 (by kernel_rfl) (by kernel_rfl) rfl (fun v=>(PI v).trans (ADZ v)) (AA ALp ⟨AGM,trivial⟩)
def Hh:Env:=O0.Fa 147 1 116 (AG 2 K5 K4 K0 K7)
theorem HM:Ac Tryz.prog Hh:=Env.Bf Li Yp (AJ rfl rfl)
abbrev LK:Hints:={ loop:=fun n=>match n with|0=>Aa 3 42 PM PL DN|_=>fun _ _ _=>none }
theorem WY:∀ v,DN v=roundOf Tryz.prog Hh LK 1 3 42 (AB Tryz.f115 0) PM PL v:=by
 rintro⟨a0,a1,a2,a3,⟨⟩⟩
 kernel_rfl
theorem AGS:AD (AB Tryz.f115 0) 1=[]:=by kernel_rfl
theorem AGT:AZ Tryz.prog 3 (.loop (AB Tryz.f115 0)) (LK.loop 0):=AW HM (WY) (AA AGS trivial)
theorem AD4:∀ v,HZ v=AR Tryz.prog Hh LK Tryz.f115 LJ LI LH v:=by
 rintro⟨a0,a1,⟨⟩⟩
 kernel_rfl
theorem AMT:AD (AU Tryz.f115) 0=[(0,AB Tryz.f115 0)]:=by kernel_rfl
theorem Yu:AT Tryz.prog 115 (AG 2 LJ LI LH Io):=AI HM Tryz.func115 (by kernel_rfl) (by kernel_rfl) rfl (fun v=>(PN v).trans (AD4 v)) (AA AMT ⟨AGT,trivial⟩)
def Hi:Env:=Hh.Fa 115 1 116 (Jp (AG 2 LJ LI LH Io))
theorem HN:Ac Tryz.prog Hi:=Env.Bf HM (XO Yu) (AYF rfl rfl)
abbrev AKP:Hints:={ loop:=fun n=>match n with|0=>Aa 0 51 APG APF EH|_=>fun _ _ _=>none,fp:=fun n=>match n with|10=>[[2],[6],[4],[],[5],[],[5]]|_=>[] }
theorem APE:∀ v,EH v=roundOf Tryz.prog Hi AKP 1 0 51 (AB Tryz.f64 0) APG APF v:=by
 rintro⟨a0,a1,a2,a3,a4,a5,⟨⟩⟩
 kernel_rfl
theorem Aev:AD (AB Tryz.f64 0) 1=[]:=by kernel_rfl
theorem Aew:AZ Tryz.prog 0 (.loop (AB Tryz.f64 0)) (AKP.loop 0):=AW HN (APE) (AA Aev trivial)
theorem Aaq:∀ v,RV v=AR Tryz.prog Hi AKP Tryz.f64 AKO AKN AKM v:=by
 rintro⟨a0,a1,⟨⟩⟩
 kernel_rfl
theorem AiR:AD (AU Tryz.f64) 0=[(0,AB Tryz.f64 0)]:=by kernel_rfl
theorem AUi:AT Tryz.prog 64 (AG 2 AKO AKN AKM ABs):=AI HN Tryz.func64 (by kernel_rfl) (by kernel_rfl) rfl (fun v=>(ABr v).trans (Aaq v)) (AA AiR ⟨Aew,trivial⟩)
def ANR:Env:=Hi.ext 64 true true (AG 2 AKO AKN AKM ABs)
theorem AE1:Ac Tryz.prog ANR:=Env.AY HN AUi (fun _=>AL rfl rfl) (fun _=>AJ rfl rfl)
abbrev Aey:Hints:={  }
theorem AUl:∀ v,MU v=AR Tryz.prog ANR Aey Tryz.f107 ABw ABv ABu v:=by
 rintro⟨a0,a1,a2,⟨⟩⟩
 kernel_rfl
theorem Aex:AD (AU Tryz.f107) 0=[]:=by kernel_rfl
theorem APH:AT Tryz.prog 107 (AG 3 ABw ABv ABu Pn):=AI AE1 Tryz.func107 (by kernel_rfl) (by kernel_rfl) rfl (fun v=>(UQ v).trans (AUl v)) (AA Aex trivial)
def AE2:Env:=ANR.ext 107 true true (AG 3 ABw ABv ABu Pn)
theorem YP:Ac Tryz.prog AE2:=Env.AY AE1 APH (fun _=>AL rfl rfl) (fun _=>AJ rfl rfl)
abbrev AiO:Hints:={ fp:=fun n=>match n with|9=>[[],[20],[],[28],[],[],[20],[20],[],[28],[28],[],[],[60],[],[]]|_=>[] }
theorem Aad:∀ v,RN v=AR Tryz.prog AE2 AiO Tryz.f62 AKB AKA AJ9 v:=by
 rintro⟨a0,a1,a2,a3,⟨⟩⟩
 kernel_rfl
theorem AiN:AD (AU Tryz.f62) 0=[]:=by kernel_rfl
theorem AUH:AT Tryz.prog 62 (AG 4 AKB AKA AJ9 XV):=AI YP Tryz.func62 (by kernel_rfl) (by kernel_rfl) rfl (fun v=>(ABJ v).trans (Aad v)) (AA AiN trivial)
def ANP:Env:=AE2.ext 62 true true (AG 4 AKB AKA AJ9 XV)
theorem AEz:Ac Tryz.prog ANP:=Env.AY YP AUH (fun _=>AL rfl rfl) (fun _=>AJ rfl rfl)
theorem Aen:Tryz.f142.body.isSome=true:=by kernel_rfl
theorem Aem : (Tryz.f142.name == "runtime.NumGoroutine") = false := by kernel_rfl
theorem Ael:loops (AU Tryz.f142)=0:=by kernel_rfl
theorem AkM:Tryz.f141.body.isSome=true:=by kernel_rfl
theorem AkL : (Tryz.f141.name == "runtime.NumGoroutine") = false := by kernel_rfl
theorem AkK:loops (AU Tryz.f141)=0:=by kernel_rfl
def Qq:Env:=ANP.ext 142 false false (DF Tryz.prog ANP { fp:=fun n=>match n with|0=>[[],[],[0],[0],[0],[],[2],[2],[2],[],[],[2],[2],[3]]|_=>[] } Tryz.f142)
theorem PQ:Ac Tryz.prog Qq:=Env.AY AEz (Cy AEz Tryz.func142 Aen Aem Ael) (by simp) (by simp)
def KL:Env:=Qq.ext 141 false false (DF Tryz.prog Qq {} Tryz.f141)
theorem G7:Ac Tryz.prog KL:=Env.AY PQ (Cy PQ Tryz.func141 AkM AkL AkK) (by simp) (by simp)
abbrev AB6:Hints:={ loop:=fun n=>match n with|0=>Aa 2 127 AfF AfB Ma|1=>Aa 2 127 AfE AfA MZ|2=>Aa 2 127 AfD Ae9 MY|_=>fun _ _ _=>none,fp:=fun n=>match n with|29=>[[],[],[],[2],[2],[2],[],[2],[2],[2],[],[0],[0],[0],[1],[0],[0],[0],[1]]|_=>[] }
theorem Aaw:∀ v,MY v=roundOf Tryz.prog KL AB6 3 2 127 (AB Tryz.f109 2) AfD Ae9 v:=by
 rintro⟨a0,a1,a2,a3,a4,a5,a6,a7,a8,a9,a10,a11,⟨⟩⟩
 kernel_rfl
theorem AkE:AD (AB Tryz.f109 2) 3=[]:=by kernel_rfl
theorem AkH:AZ Tryz.prog 2 (.loop (AB Tryz.f109 2)) (AB6.loop 2):=AW G7 (Aaw) (AA AkE trivial)
theorem Aax:∀ v,MZ v=roundOf Tryz.prog KL AB6 2 2 127 (AB Tryz.f109 1) AfE AfA v:=by
 rintro⟨a0,a1,a2,a3,a4,a5,a6,a7,a8,a9,a10,a11,a12,⟨⟩⟩
 kernel_rfl
theorem AkF:AD (AB Tryz.f109 1) 2=[]:=by kernel_rfl
theorem AkI:AZ Tryz.prog 2 (.loop (AB Tryz.f109 1)) (AB6.loop 1):=AW G7 (Aax) (AA AkF trivial)
theorem Aay:∀ v,Ma v=roundOf Tryz.prog KL AB6 1 2 127 (AB Tryz.f109 0) AfF AfB v:=by
 rintro⟨a0,a1,a2,a3,a4,a5,a6,a7,a8,a9,a10,a11,a12,⟨⟩⟩
 kernel_rfl
theorem AkG:AD (AB Tryz.f109 0) 1=[]:=by kernel_rfl
theorem AkJ:AZ Tryz.prog 2 (.loop (AB Tryz.f109 0)) (AB6.loop 0):=AW G7 (Aay) (AA AkG trivial)
theorem Aic:∀ v,AYa v=AR Tryz.prog KL AB6 Tryz.f109 AfG AfC Ae8 v:=by
 rintro⟨a0,a1,a2,a3,a4,a5,a6,a7,a8,a9,a10,⟨⟩⟩
 kernel_rfl
theorem Akx:AD (AU Tryz.f109) 0=[(0,AB Tryz.f109 0),(1,AB Tryz.f109 1),(2,AB Tryz.f109 2)]:=by kernel_rfl
theorem Ae7:AT Tryz.prog 109 (AG 4 AfG AfC Ae8 pat):=AI G7 Tryz.func109 (by kernel_rfl) (by kernel_rfl) rfl (fun v=>(AfH v).trans (Aic v)) (AA Akx ⟨AkJ,AkI,AkH,trivial⟩)
def AZW:Env:=KL.ext 109 false true (AG 4 AfG AfC Ae8 pat)
theorem AE4:Ac Tryz.prog AZW:=Env.AY G7 Ae7 ((by simp)) (fun _=>AJ rfl rfl)
abbrev AUN:Hints:={ loop:=fun n=>match n with|0=>Aa 0 81 AYT AYS EV|_=>fun _ _ _=>none,fp:=fun n=>match n with|9=>[[],[4],[4],[4],[],[4],[4],[4],[1],[3],[]]|5=>[[0],[0],[0],[0],[],[],[0],[0],[],[],[],[],[16],[],[14],[14],[],[0],[0],[],[],[18],[]]|_=>[] }
theorem AUJ:∀ v,EV v=roundOf Tryz.prog AZW AUN 1 0 81 (AB Tryz.f60 0) AYT AYS v:=by
 rintro⟨a0,a1,a2,a3,a4,a5,a6,a7,a8,a9,a10,a11,a12,a13,a14,a15,a16,a17,a18,⟨⟩⟩
 kernel_rfl
theorem AiP:AD (AB Tryz.f60 0) 1=[]:=by kernel_rfl
theorem AiQ:AZ Tryz.prog 0 (.loop (AB Tryz.f60 0)) (AUN.loop 0):=AW AE4 (AUJ) (AA AiP trivial)
theorem Aep:∀ v,ABQ v=AR Tryz.prog AZW AUN Tryz.f60 AUM AUL AUK v:=by
 rintro⟨a0,a1,a2,⟨⟩⟩
 kernel_rfl
theorem AkA:AD (AU Tryz.f60) 0=[(0,AB Tryz.f60 0)]:=by kernel_rfl
theorem Aae:AT Tryz.prog 60 (AG 3 AUM AUL AUK AFi):=AI AE4 Tryz.func60 (by kernel_rfl) (by kernel_rfl) rfl (fun v=>(AKE v).trans (Aep v)) (AA AkA ⟨AiQ,trivial⟩)
def ANQ:Env:=AZW.ext 60 true true (AG 3 AUM AUL AUK AFi)
theorem W4:Ac Tryz.prog ANQ:=Env.AY AE4 Aae (fun _=>AL rfl rfl) (fun _=>AJ rfl rfl)
abbrev AKU:Hints:={ loop:=fun n=>match n with|0=>Aa 0 55 APL APK EI|_=>fun _ _ _=>none,fp:=fun n=>match n with|12=>[[20],[],[22],[],[5,24],[7],[]]|_=>[] }
theorem APJ:∀ v,EI v=roundOf Tryz.prog ANQ AKU 1 0 55 (AB Tryz.f66 0) APL APK v:=by
 rintro⟨a0,a1,a2,a3,a4,a5,a6,a7,a8,⟨⟩⟩
 kernel_rfl
theorem Ae0:AD (AB Tryz.f66 0) 1=[]:=by kernel_rfl
theorem Ae2:AZ Tryz.prog 0 (.loop (AB Tryz.f66 0)) (AKU.loop 0):=AW W4 (APJ) (AA Ae0 trivial)
theorem Aas:∀ v,ZL v=AR Tryz.prog ANQ AKU Tryz.f66 AKT AKS AKR v:=by
 rintro⟨a0,a1,⟨⟩⟩
 kernel_rfl
theorem AiS:AD (AU Tryz.f66) 0=[(0,AB Tryz.f66 0)]:=by kernel_rfl
theorem AUn:AT Tryz.prog 66 (AG 2 AKT AKS AKR ABy):=AI W4 Tryz.func66 (by kernel_rfl) (by kernel_rfl) rfl (fun v=>(APM v).trans (Aas v)) (AA AiS ⟨Ae2,trivial⟩)
def ANS:Env:=ANQ.ext 66 true true (AG 2 AKT AKS AKR ABy)
theorem AE3:Ac Tryz.prog ANS:=Env.AY W4 AUn (fun _=>AL rfl rfl) (fun _=>AJ rfl rfl)
abbrev AdP:Hints:={  }
theorem ASY:∀ v,Wx v=AR Tryz.prog ANS AdP Tryz.f58 Ww Wv Wu v:=by
 rintro⟨⟨⟩⟩
 kernel_rfl
theorem AdO:AD (AU Tryz.f58) 0=[]:=by kernel_rfl
theorem ANA:AT Tryz.prog 58 (AG 0 Ww Wv Wu JS):=AI AE3 Tryz.func58 (by kernel_rfl) (by kernel_rfl) rfl (fun v=>(AXs v).trans (ASY v)) (AA AdO trivial)
def XL:Env:=ANS.ext 58 true true (AG 0 Ww Wv Wu JS)
theorem TP:Ac Tryz.prog XL:=Env.AY AE3 ANA (fun _=>AL rfl rfl) (fun _=>AJ rfl rfl)
abbrev Kf:Hints:={ loop:=fun n=>match n with|0=>Aa 0 92 PD PC BB|_=>fun _ _ _=>none }
theorem T8:∀ v,BB v=roundOf Tryz.prog XL Kf 1 0 92 (AB Tryz.f11 0) PD PC v:=by
 rintro⟨a0,a1,a2,a3,a4,⟨⟩⟩
 kernel_rfl
theorem AFf:AD (AB Tryz.f11 0) 1=[]:=by kernel_rfl
theorem AFg:AZ Tryz.prog 0 (.loop (AB Tryz.f11 0)) (Kf.loop 0):=AW TP (T8) (AA AFf trivial)
theorem ABP:∀ v,HS v=AR Tryz.prog XL Kf Tryz.f11 Ke Kd Kc v:=by
 rintro⟨a0,a1,a2,⟨⟩⟩
 kernel_rfl
theorem AKC:AD (AU Tryz.f11) 0=[(0,AB Tryz.f11 0)]:=by kernel_rfl
theorem Yh:AT Tryz.prog 11 (AG 3 Ke Kd Kc F6):=AI TP Tryz.func11 (by kernel_rfl) (by kernel_rfl) rfl (fun v=>(PE v).trans (ABP v)) (AA AKC ⟨AFg,trivial⟩)
end
end Go.Pev
end
section

end
