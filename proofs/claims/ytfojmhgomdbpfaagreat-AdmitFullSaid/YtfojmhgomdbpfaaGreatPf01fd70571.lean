/- A part of the proofs of this seat: G26bP9 G26bP10 G26bP11 G26bP12 G26bP13 G26bP14 G26bP15 G26bP. -/
import Derived.Test.YtfojmhgomdbpfaaGreatP2a40dae0fb
set_option linter.unusedVariables false
set_option linter.unusedSimpArgs false
set_option linter.unusedSectionVars false
set_option maxRecDepth 100000
section
namespace Go.Pev
open Go.Proofs
noncomputable section
theorem Ade:Tryz.f53.body.isSome=true:=by kernel_rfl
theorem Adc : (Tryz.f53.name == "runtime.NumGoroutine") = false := by kernel_rfl
theorem Adb:loops (AQ Tryz.f53)=0:=by kernel_rfl
def I4:Env:=AGe.ext 50 false false (Cj Tryz.prog AGe {} Tryz.f50)
theorem IG:AX Tryz.prog I4:=Env.AZ Y2 (CV Y2 Tryz.func50 Adh Adg Adf) (by simp) (by simp)
abbrev K5:Hints:={ loop:=fun n=>match n with|0=>Ab 0 19 O5 O4 Cc|_=>fun _ _ _=>none }
theorem WL:∀ v,Cc v=roundOf Tryz.prog I4 K5 1 0 19 (AB Tryz.f76 0) O5 O4 v:=by
 rintro⟨a0,a1,a2,⟨⟩⟩
 kernel_rfl
theorem AHy:AD (AB Tryz.f76 0) 1=[]:=by kernel_rfl
theorem AHz:Aa Tryz.prog 0 (.loop (AB Tryz.f76 0)) (K5.loop 0):=AT IG (WL) (AA AHy trivial)
theorem AEU:∀ v,HE v=AL 0 Tryz.prog I4 K5 Tryz.f76 K4 K3 K2 v:=by
 rintro⟨a0,⟨⟩⟩
 kernel_rfl
theorem ANy:AD (AQ Tryz.f76) 0=[(0,AB Tryz.f76 0)]:=by kernel_rfl
theorem ZZ:AP Tryz.prog 76 (AF 0 2 K4 K3 K2 K6):=AH IG Tryz.func76 (by kernel_rfl) (by kernel_rfl) rfl (fun v=>(O6 v).trans (AEU v)) (AA ANy ⟨AHz,trivial⟩)
def Lu:Env:=I4.CD 76 1 50 (AF 0 2 K4 K3 K2 K6)
theorem MD:AX Tryz.prog Lu:=Env.Aw IG ZZ (AG rfl rfl)
abbrev AIM:Hints:={  }
theorem Zh:∀ v,Gb v=AL 0 Tryz.prog Lu AIM Tryz.f52 JU JT JS v:=by
 rintro⟨a0,⟨⟩⟩
 kernel_rfl
theorem AIL:AD (AQ Tryz.f52) 0=[]:=by kernel_rfl
theorem Ww:AP Tryz.prog 52 (AF 0 2 JU JT JS DZ):=AH MD Tryz.func52 (by kernel_rfl) (by kernel_rfl) rfl (fun v=>(NG v).trans (Zh v)) (AA AIL trivial)
def Jd:Env:=Lu.CD 52 1 50 (AF 0 2 JU JT JS DZ)
theorem KR:AX Tryz.prog Jd:=Env.Aw MD Ww (AG rfl rfl)
def I3:Env:=Jd.ext 53 false false (Cj Tryz.prog Jd {} Tryz.f53)
theorem IF:AX Tryz.prog I3:=Env.AZ KR (CV KR Tryz.func53 Ade Adc Adb) (by simp) (by simp)
abbrev LG:Hints:={ loop:=fun n=>match n with|0=>Ab 0 19 PB PA Cd|_=>fun _ _ _=>none }
theorem WO:∀ v,Cd v=roundOf Tryz.prog I3 LG 1 0 19 (AB Tryz.f77 0) PB PA v:=by
 rintro⟨a0,a1,a2,⟨⟩⟩
 kernel_rfl
theorem AH2:AD (AB Tryz.f77 0) 1=[]:=by kernel_rfl
theorem AH3:Aa Tryz.prog 0 (.loop (AB Tryz.f77 0)) (LG.loop 0):=AT IF (WO) (AA AH2 trivial)
theorem AEW:∀ v,HG v=AL 0 Tryz.prog I3 LG Tryz.f77 LF LD LC v:=by
 rintro⟨a0,⟨⟩⟩
 kernel_rfl
theorem AN0:AD (AQ Tryz.f77) 0=[(0,AB Tryz.f77 0)]:=by kernel_rfl
theorem Zb:AP Tryz.prog 77 (AF 0 2 LF LD LC LH):=AH IF Tryz.func77 (by kernel_rfl) (by kernel_rfl) rfl (fun v=>(PC v).trans (AEW v)) (AA AN0 ⟨AH3,trivial⟩)
def Lv:Env:=I3.CD 77 1 53 (AF 0 2 LF LD LC LH)
theorem ME:AX Tryz.prog Lv:=Env.Aw IF Zb (AG rfl rfl)
abbrev AIO:Hints:={  }
theorem Zi:∀ v,Gc v=AL 0 Tryz.prog Lv AIO Tryz.f55 JX JW JV v:=by
 rintro⟨a0,⟨⟩⟩
 kernel_rfl
theorem AIN:AD (AQ Tryz.f55) 0=[]:=by kernel_rfl
theorem Wx:AP Tryz.prog 55 (AF 0 2 JX JW JV Gq):=AH ME Tryz.func55 (by kernel_rfl) (by kernel_rfl) rfl (fun v=>(NH v).trans (Zi v)) (AA AIN trivial)
def Je:Env:=Lv.CD 55 1 53 (AF 0 2 JX JW JV Gq)
theorem KS:AX Tryz.prog Je:=Env.Aw ME Wx (AG rfl rfl)
abbrev AiB:Hints:={  }
theorem AWQ:∀ v,Qv v=AL 0 Tryz.prog Je AiB Tryz.f28 AAd AAc AAb v:=by
 rintro⟨a0,⟨⟩⟩
 kernel_rfl
theorem AiA:AD (AQ Tryz.f28) 0=[]:=by kernel_rfl
theorem AQQ:AP Tryz.prog 28 (AF 0 1 AAd AAc AAb AAe):=AH KS Tryz.func28 (by kernel_rfl) (by kernel_rfl) rfl (fun v=>(AIj v).trans (AWQ v)) (AA AiA trivial)
def Sp:Env:=Je.ext 28 true true (AF 0 1 AAd AAc AAb AAe)
theorem NW:AX Tryz.prog Sp:=Env.AZ KS AQQ (fun _=>AI rfl rfl) (fun _=>AG rfl rfl)
abbrev AEx:Hints:={ loop:=fun n=>match n with|0=>Ab 0 26 AKD AKC WU|_=>fun _ _ _=>none,fp:=fun n=>match n with|6=>[[],[],[],[],[],[],[],[],[]]|_=>[] }
theorem AOW:∀ v,WU v=roundOf Tryz.prog Sp AEx 1 0 26 (AB Tryz.f69 0) AKD AKC v:=by
 rintro⟨a0,a1,a2,a3,⟨⟩⟩
 kernel_rfl
theorem Agp:AD (AB Tryz.f69 0) 1=[]:=by kernel_rfl
theorem Agq:Aa Tryz.prog 0 (.loop (AB Tryz.f69 0)) (AEx.loop 0):=AT NW (AOW) (AA Agp trivial)
theorem AaO:∀ v,AEy v=AL 0 Tryz.prog Sp AEx Tryz.f69 AEw AEv AEu v:=by
 rintro⟨a0,a1,⟨⟩⟩
 kernel_rfl
theorem Al1:AD (AQ Tryz.f69) 0=[(0,AB Tryz.f69 0)]:=by kernel_rfl
theorem AUg:AP Tryz.prog 69 (AF 0 2 AEw AEv AEu AOX):=AH NW Tryz.func69 (by kernel_rfl) (by kernel_rfl) rfl (fun v=>(Agr v).trans (AaO v)) (AA Al1 ⟨Agq,trivial⟩)
def TO:Env:=Sp.ext 69 true true (AF 0 2 AEw AEv AEu AOX)
theorem Nl:AX Tryz.prog TO:=Env.AZ NW AUg (fun _=>AI rfl rfl) (fun _=>AG rfl rfl)
abbrev AE2:Hints:={ loop:=fun n=>match n with|0=>Ab 0 26 AKF AKE WV|_=>fun _ _ _=>none,fp:=fun n=>match n with|6=>[[],[],[],[],[],[],[],[],[]]|_=>[] }
theorem AOY:∀ v,WV v=roundOf Tryz.prog TO AE2 1 0 26 (AB Tryz.f70 0) AKF AKE v:=by
 rintro⟨a0,a1,a2,a3,⟨⟩⟩
 kernel_rfl
theorem Ags:AD (AB Tryz.f70 0) 1=[]:=by kernel_rfl
theorem Agt:Aa Tryz.prog 0 (.loop (AB Tryz.f70 0)) (AE2.loop 0):=AT Nl (AOY) (AA Ags trivial)
theorem AaP:∀ v,AE3 v=AL 0 Tryz.prog TO AE2 Tryz.f70 AE1 AE0 AEz v:=by
 rintro⟨a0,a1,⟨⟩⟩
 kernel_rfl
theorem Al2:AD (AQ Tryz.f70) 0=[(0,AB Tryz.f70 0)]:=by kernel_rfl
theorem AUh:AP Tryz.prog 70 (AF 0 2 AE1 AE0 AEz equalA):=AH Nl Tryz.func70 (by kernel_rfl) (by kernel_rfl) rfl (fun v=>(Agu v).trans (AaP v)) (AA Al2 ⟨Agt,trivial⟩)
def AG5:Env:=TO.ext 70 true true (AF 0 2 AE1 AE0 AEz equalA)
theorem ZG:AX Tryz.prog AG5:=Env.AZ Nl AUh (fun _=>AI rfl rfl) (fun _=>AG rfl rfl)
abbrev Am5:Hints:={  }
theorem Ada:∀ v,ALD v=AL 0 Tryz.prog AG5 Am5 Tryz.f37 ALC ALB ALA v:=by
 rintro⟨a0,a1,⟨⟩⟩
 kernel_rfl
theorem Am4:AD (AQ Tryz.f37) 0=[]:=by kernel_rfl
theorem AWP:AP Tryz.prog 37 (AF 0 2 ALC ALB ALA Abz):=AH ZG Tryz.func37 (by kernel_rfl) (by kernel_rfl) rfl (fun v=>(Ah9 v).trans (Ada v)) (AA Am4 trivial)
def APz:Env:=AG5.ext 37 true true (AF 0 2 ALC ALB ALA Abz)
theorem AGd:AX Tryz.prog APz:=Env.AZ ZG AWP (fun _=>AI rfl rfl) (fun _=>AG rfl rfl)
abbrev Amp:Hints:={  }
theorem Abh:∀ v,Sl v=AL 0 Tryz.prog APz Amp Tryz.f36 AGU AGT AGS v:=by
 rintro⟨a0,⟨⟩⟩
 kernel_rfl
theorem Amo:AD (AQ Tryz.f36) 0=[]:=by kernel_rfl
theorem AV3:AP Tryz.prog 36 (AF 0 1 AGU AGT AGS AGV):=AH AGd Tryz.func36 (by kernel_rfl) (by kernel_rfl) rfl (fun v=>(AKp v).trans (Abh v)) (AA Amo trivial)
def Np:Env:=APz.ext 36 true true (AF 0 1 AGU AGT AGS AGV)
theorem JE:AX Tryz.prog Np:=Env.AZ AGd AV3 (fun _=>AI rfl rfl) (fun _=>AG rfl rfl)
abbrev Sh:Hints:={ loop:=fun n=>match n with|0=>Ab 0 36 AVv AVt IC|1=>Ab 0 36 AVu AVs IB|_=>fun _ _ _=>none }
theorem AVq:∀ v,IB v=roundOf Tryz.prog Np Sh 2 0 36 (AB Tryz.f14 1) AVu AVs v:=by
 rintro⟨a0,a1,a2,a3,⟨⟩⟩
 kernel_rfl
theorem Amj:AD (AB Tryz.f14 1) 2=[]:=by kernel_rfl
theorem Aml:Aa Tryz.prog 0 (.loop (AB Tryz.f14 1)) (Sh.loop 1):=AT JE (AVq) (AA Amj trivial)
theorem AVr:∀ v,IC v=roundOf Tryz.prog Np Sh 1 0 36 (AB Tryz.f14 0) AVv AVt v:=by
 rintro⟨a0,a1,a2,a3,a4,a5,a6,⟨⟩⟩
 kernel_rfl
theorem Amk:AD (AB Tryz.f14 0) 1=[]:=by kernel_rfl
theorem Amm:Aa Tryz.prog 0 (.loop (AB Tryz.f14 0)) (Sh.loop 0):=AT JE (AVr) (AA Amk trivial)
theorem Ahw:∀ v,AAO v=AL 0 Tryz.prog Np Sh Tryz.f14 APe APd APc v:=by
 rintro⟨a0,⟨⟩⟩
 kernel_rfl
theorem ApL:AD (AQ Tryz.f14) 0=[(0,AB Tryz.f14 0),(1,AB Tryz.f14 1)]:=by kernel_rfl
theorem Aba:AP Tryz.prog 14 (AF 0 1 APe APd APc AKl):=AH JE Tryz.func14 (by kernel_rfl) (by kernel_rfl) rfl (fun v=>(AVw v).trans (Ahw v)) (AA ApL ⟨Amm,Aml,trivial⟩)
def AQK:Env:=Np.ext 14 true true (AF 0 1 APe APd APc AKl)
theorem AHF:AX Tryz.prog AQK:=Env.AZ JE Aba (fun _=>AI rfl rfl) (fun _=>AG rfl rfl)
abbrev ApT:Hints:={  }
theorem Ah2:∀ v,Sk v=AL 0 Tryz.prog AQK ApT Tryz.f16 APq APp APo v:=by
 rintro⟨a0,⟨⟩⟩
 kernel_rfl
theorem ApS:AD (AQ Tryz.f16) 0=[]:=by kernel_rfl
theorem Abf:AP Tryz.prog 16 (AF 0 1 APq APp APo Yz):=AH AHF Tryz.func16 (by kernel_rfl) (by kernel_rfl) rfl (fun v=>(AGQ v).trans (Ah2 v)) (AA ApS trivial)
def AQN:Env:=AQK.ext 16 true true (AF 0 1 APq APp APo Yz)
theorem AHI:AX Tryz.prog AQN:=Env.AZ AHF Abf (fun _=>AI rfl rfl) (fun _=>AG rfl rfl)
end
end Go.Pev
end
section
namespace Go.Pev
open Go.Proofs
noncomputable section
abbrev ApP:Hints:={  }
theorem Ahz:∀ v,APm v=AL 0 Tryz.prog AQN ApP Tryz.f18 APl APk APj v:=by
 rintro⟨a0,a1,⟨⟩⟩
 kernel_rfl
theorem ApO:AD (AQ Tryz.f18) 0=[]:=by kernel_rfl
theorem Abe:AP Tryz.prog 18 (AF 0 2 APl APk APj AdS):=AH AHI Tryz.func18 (by kernel_rfl) (by kernel_rfl) rfl (fun v=>(Amn v).trans (Ahz v)) (AA ApO trivial)
def AQM:Env:=AQN.ext 18 true true (AF 0 2 APl APk APj AdS)
theorem AHH:AX Tryz.prog AQM:=Env.AZ AHI Abe (fun _=>AI rfl rfl) (fun _=>AG rfl rfl)
abbrev Ao5:Hints:={  }
theorem AhA:∀ v,AAI v=AL 0 Tryz.prog AQM Ao5 Tryz.f78 AOr AOq AOp v:=by
 rintro⟨a0,⟨⟩⟩
 kernel_rfl
theorem Ao4:AD (AQ Tryz.f78) 0=[]:=by kernel_rfl
theorem Aaq:AP Tryz.prog 78 (AF 0 1 AOr AOq AOp AKO):=AH AHH Tryz.func78 (by kernel_rfl) (by kernel_rfl) rfl (fun v=>(AU0 v).trans (AhA v)) (AA Ao4 trivial)
def AQF:Env:=AQM.ext 78 true true (AF 0 1 AOr AOq AOp AKO)
theorem AG6:AX Tryz.prog AQF:=Env.AZ AHH Aaq (fun _=>AI rfl rfl) (fun _=>AG rfl rfl)
abbrev Aqa:Hints:={  }
theorem AmB:∀ v,AOm v=AL 0 Tryz.prog AQF Aqa Tryz.f57 Aan Aam Aal v:=by
 rintro⟨a0,⟨⟩⟩
 kernel_rfl
theorem AqZ:AD (AQ Tryz.f57) 0=[]:=by kernel_rfl
theorem Ag8:AP Tryz.prog 57 (AF 0 1 Aan Aam Aal AmC):=AH AG6 Tryz.func57 (by kernel_rfl) (by kernel_rfl) rfl (fun v=>(AdM v).trans (AmB v)) (AA AqZ trivial)
def Abw:Env:=AQF.ext 57 true true (AF 0 1 Aan Aam Aal AmC)
theorem AK3:AX Tryz.prog Abw:=Env.AZ AG6 Ag8 (fun _=>AI rfl rfl) (fun _=>AG rfl rfl)
abbrev Ao7:Hints:={  }
theorem AhI:∀ v,AAJ v=AL 0 Tryz.prog Abw Ao7 Tryz.f59 AOy AOx AOw v:=by
 rintro⟨a0,⟨⟩⟩
 kernel_rfl
theorem Ao6:AD (AQ Tryz.f59) 0=[]:=by kernel_rfl
theorem Aaw:AP Tryz.prog 59 (AF 0 1 AOy AOx AOw AU5):=AH AK3 Tryz.func59 (by kernel_rfl) (by kernel_rfl) rfl (fun v=>(AU4 v).trans (AhI v)) (AA Ao6 trivial)
def AAY:Env:=Abw.ext 59 true true (AF 0 1 AOy AOx AOw AU5)
theorem Qr:AX Tryz.prog AAY:=Env.AZ AK3 Aaw (fun _=>AI rfl rfl) (fun _=>AG rfl rfl)
abbrev Wq:Hints:={ loop:=fun n=>match n with|0=>Ab 0 32 AFU AFT EZ|_=>fun _ _ _=>none }
theorem AIE:∀ v,EZ v=roundOf Tryz.prog AAY Wq 1 0 32 (AB Tryz.f91 0) AFU AFT v:=by
 rintro⟨a0,a1,a2,a3,a4,⟨⟩⟩
 kernel_rfl
theorem Aar:AD (AB Tryz.f91 0) 1=[]:=by kernel_rfl
theorem Aas:Aa Tryz.prog 0 (.loop (AB Tryz.f91 0)) (Wq.loop 0):=AT Qr (AIE) (AA Aar trivial)
theorem AU2:∀ v,ON v=AL 0 Tryz.prog AAY Wq Tryz.f91 Wp Wo Wn v:=by
 rintro⟨a0,⟨⟩⟩
 kernel_rfl
theorem AhB:AD (AQ Tryz.f91) 0=[(0,AB Tryz.f91 0)]:=by kernel_rfl
theorem AOs:AP Tryz.prog 91 (AF 0 1 Wp Wo Wn SM):=AH Qr Tryz.func91 (by kernel_rfl) (by kernel_rfl) rfl (fun v=>(AFV v).trans (AU2 v)) (AA AhB ⟨Aas,trivial⟩)
def Xk:Env:=AAY.ext 91 true true (AF 0 1 Wp Wo Wn SM)
theorem TU:AX Tryz.prog Xk:=Env.AZ Qr AOs (fun _=>AI rfl rfl) (fun _=>AG rfl rfl)
abbrev Ael:Hints:={  }
theorem ARj:∀ v,Jl v=AL 0 Tryz.prog Xk Ael Tryz.f110 UO UN UM v:=by
 rintro⟨a0,⟨⟩⟩
 kernel_rfl
theorem Aek:AD (AQ Tryz.f110) 0=[]:=by kernel_rfl
theorem AMW:AP Tryz.prog 110 (AF 0 1 UO UN UM Ke):=AH TU Tryz.func110 (by kernel_rfl) (by kernel_rfl) rfl (fun v=>(Pk v).trans (ARj v)) (AA Aek trivial)
def XW:Env:=Xk.ext 110 true true (AF 0 1 UO UN UM Ke)
theorem S7:AX Tryz.prog XW:=Env.AZ TU AMW (fun _=>AI rfl rfl) (fun _=>AG rfl rfl)
abbrev AjF:Hints:={  }
theorem AXS:∀ v,RK v=AL 0 Tryz.prog XW AjF Tryz.f153 ABw ABv ABu v:=by
 rintro⟨a0,a1,⟨⟩⟩
 kernel_rfl
theorem AjE:AD (AQ Tryz.f153) 0=[]:=by kernel_rfl
theorem ARY:AP Tryz.prog 153 (AF 0 2 ABw ABv ABu ABx):=AH S7 Tryz.func153 (by kernel_rfl) (by kernel_rfl) rfl (fun v=>(AJH v).trans (AXS v)) (AA AjE trivial)
def AGp:Env:=XW.ext 153 true true (AF 0 2 ABw ABv ABu ABx)
theorem Y8:AX Tryz.prog AGp:=Env.AZ S7 ARY (fun _=>AI rfl rfl) (fun _=>AG rfl rfl)
abbrev Aja:Hints:={  }
theorem AXz:∀ v,RU v=AL 0 Tryz.prog AGp Aja Tryz.f138 ACT ACS ACR v:=by
 rintro⟨a0,a1,a2,⟨⟩⟩
 kernel_rfl
theorem AjZ:AD (AQ Tryz.f138) 0=[]:=by kernel_rfl
theorem AR3:AP Tryz.prog 138 (AF 0 3 ACT ACS ACR Pn):=AH Y8 Tryz.func138 (by kernel_rfl) (by kernel_rfl) rfl (fun v=>(AJN v).trans (AXz v)) (AA AjZ trivial)
def S8:Env:=AGp.ext 138 true true (AF 0 3 ACT ACS ACR Pn)
theorem Nb:AX Tryz.prog S8:=Env.AZ Y8 AR3 (fun _=>AI rfl rfl) (fun _=>AG rfl rfl)
abbrev AMa:Hints:={ loop:=fun n=>match n with|0=>Ab 0 37 ARr ARq Hl|_=>fun _ _ _=>none }
theorem ARp:∀ v,Hl v=roundOf Tryz.prog S8 AMa 1 0 37 (AB Tryz.f113 0) ARr ARq v:=by
 rintro⟨a0,a1,a2,a3,a4,a5,⟨⟩⟩
 kernel_rfl
theorem AjO:AD (AB Tryz.f113 0) 1=[]:=by kernel_rfl
theorem AjP:Aa Tryz.prog 0 (.loop (AB Tryz.f113 0)) (AMa.loop 0):=AT Nb (ARp) (AA AjO trivial)
theorem Aen:∀ v,Z2 v=AL 0 Tryz.prog S8 AMa Tryz.f113 AMZ AMY AMX v:=by
 rintro⟨a0,a1,⟨⟩⟩
 kernel_rfl
theorem Anh:AD (AQ Tryz.f113) 0=[(0,AB Tryz.f113 0)]:=by kernel_rfl
theorem AXa:AP Tryz.prog 113 (AF 0 2 AMZ AMY AMX ARt):=AH Nb Tryz.func113 (by kernel_rfl) (by kernel_rfl) rfl (fun v=>(ARs v).trans (Aen v)) (AA Anh ⟨AjP,trivial⟩)
def Oa:Env:=S8.ext 113 true true (AF 0 2 AMZ AMY AMX ARt)
theorem IJ:AX Tryz.prog Oa:=Env.AZ Nb AXa (fun _=>AI rfl rfl) (fun _=>AG rfl rfl)
abbrev ACU:Hints:={ loop:=fun n=>match n with|0=>Ab 0 91 Ajk Ajg Pq|1=>Ab 0 91 Ajj Ajf Pp|2=>Ab 0 91 Aji Aje Po|_=>fun _ _ _=>none,fp:=fun n=>match n with|10=>[[],[],[],[0],[0],[],[],[0],[0],[],[0],[1]]|_=>[] }
theorem Aey:∀ v,Po v=roundOf Tryz.prog Oa ACU 3 0 91 (AB Tryz.f112 2) Aji Aje v:=by
 rintro⟨a0,a1,a2,a3,a4,a5,a6,a7,⟨⟩⟩
 kernel_rfl
theorem Ap2:AD (AB Tryz.f112 2) 3=[]:=by kernel_rfl
theorem Ap5:Aa Tryz.prog 0 (.loop (AB Tryz.f112 2)) (ACU.loop 2):=AT IJ (Aey) (AA Ap2 trivial)
theorem Aez:∀ v,Pp v=roundOf Tryz.prog Oa ACU 2 0 91 (AB Tryz.f112 1) Ajj Ajf v:=by
 rintro⟨a0,a1,a2,a3,a4,a5,a6,⟨⟩⟩
 kernel_rfl
theorem Ap3:AD (AB Tryz.f112 1) 2=[]:=by kernel_rfl
theorem Ap6:Aa Tryz.prog 0 (.loop (AB Tryz.f112 1)) (ACU.loop 1):=AT IJ (Aez) (AA Ap3 trivial)
theorem Ae0:∀ v,Pq v=roundOf Tryz.prog Oa ACU 1 0 91 (AB Tryz.f112 0) Ajk Ajg v:=by
 rintro⟨a0,a1,a2,a3,a4,a5,a6,a7,⟨⟩⟩
 kernel_rfl
theorem Ap4:AD (AB Tryz.f112 0) 1=[]:=by kernel_rfl
theorem Ap7:Aa Tryz.prog 0 (.loop (AB Tryz.f112 0)) (ACU.loop 0):=AT IJ (Ae0) (AA Ap4 trivial)
theorem Ant:∀ v,AcM v=AL 0 Tryz.prog Oa ACU Tryz.f112 Ajl Ajh Ajd v:=by
 rintro⟨a0,a1,a2,a3,⟨⟩⟩
 kernel_rfl
theorem Aqp:AD (AQ Tryz.f112) 0=[(0,AB Tryz.f112 0),(1,AB Tryz.f112 1),(2,AB Tryz.f112 2)]:=by kernel_rfl
theorem Ajc:AP Tryz.prog 112 (AF 0 4 Ajl Ajh Ajd rby):=AH IJ Tryz.func112 (by kernel_rfl) (by kernel_rfl) rfl (fun v=>(Ajm v).trans (Ant v)) (AA Aqp ⟨Ap7,Ap6,Ap5,trivial⟩)
def Am1:Env:=Oa.ext 112 true true (AF 0 4 Ajl Ajh Ajd rby)
theorem AWI:AX Tryz.prog Am1:=Env.AZ IJ Ajc (fun _=>AI rfl rfl) (fun _=>AG rfl rfl)
abbrev AQ3:Hints:={  }
theorem AHN:∀ v,IX v=AL 0 Tryz.prog Am1 AQ3 Tryz.f196 MT MS MR v:=by
 rintro⟨a0,a1,⟨⟩⟩
 kernel_rfl
theorem AQ2:AD (AQ Tryz.f196) 0=[]:=by kernel_rfl
theorem ABL:AP Tryz.prog 196 (AF 0 2 MT MS MR HR):=AH AWI Tryz.func196 (by kernel_rfl) (by kernel_rfl) rfl (fun v=>(Q6 v).trans (AHN v)) (AA AQ2 trivial)
def I6:Env:=Am1.ext 196 true true (AF 0 2 MT MS MR HR)
theorem II:AX Tryz.prog I6:=Env.AZ AWI ABL (fun _=>AI rfl rfl) (fun _=>AG rfl rfl)
abbrev Tt:Hints:={ loop:=fun n=>match n with|0=>Ab 0 72 ABD ABC EJ|_=>fun _ _ _=>none }
theorem AHL:∀ v,EJ v=roundOf Tryz.prog I6 Tt 1 0 72 (AB Tryz.f202 0) ABD ABC v:=by
 rintro⟨a0,a1,a2,a3,a4,a5,⟨⟩⟩
 kernel_rfl
theorem AWm:AD (AB Tryz.f202 0) 1=[]:=by kernel_rfl
theorem AWn:Aa Tryz.prog 0 (.loop (AB Tryz.f202 0)) (Tt.loop 0):=AT II (AHL) (AA AWm trivial)
theorem AQx:∀ v,Nu v=AL 0 Tryz.prog I6 Tt Tryz.f202 Ts Tq Tp v:=by
 rintro⟨a0,⟨⟩⟩
 kernel_rfl
theorem Ad8:AD (AQ Tryz.f202) 0=[(0,AB Tryz.f202 0)]:=by kernel_rfl
theorem ALm:AP Tryz.prog 202 (AF 0 1 Ts Tq Tp Nv):=AH II Tryz.func202 (by kernel_rfl) (by kernel_rfl) rfl (fun v=>(ABE v).trans (AQx v)) (AA Ad8 ⟨AWn,trivial⟩)
def XS:Env:=I6.ext 202 true true (AF 0 1 Ts Tq Tp Nv)
theorem Sw:AX Tryz.prog XS:=Env.AZ II ALm (fun _=>AI rfl rfl) (fun _=>AG rfl rfl)
end
end Go.Pev
end
section
namespace Go.Pev
open Go.Proofs
noncomputable section
abbrev Ad7:Hints:={  }
theorem AQw:∀ v,Nt v=AL 0 Tryz.prog XS Ad7 Tryz.f209 To Tn Tm v:=by
 rintro⟨a0,a1,⟨⟩⟩
 kernel_rfl
theorem Ad6:AD (AQ Tryz.f209) 0=[]:=by kernel_rfl
theorem ALl:AP Tryz.prog 209 (AF 0 2 To Tn Tm Ka):=AH Sw Tryz.func209 (by kernel_rfl) (by kernel_rfl) rfl (fun v=>(ABB v).trans (AQw v)) (AA Ad6 trivial)
def XR:Env:=XS.ext 209 true true (AF 0 2 To Tn Tm Ka)
theorem Sv:AX Tryz.prog XR:=Env.AZ Sw ALl (fun _=>AI rfl rfl) (fun _=>AG rfl rfl)
abbrev Ad5:Hints:={  }
theorem AQv:∀ v,Ns v=AL 0 Tryz.prog XR Ad5 Tryz.f210 Tl Tk Tj v:=by
 rintro⟨a0,⟨⟩⟩
 kernel_rfl
theorem Ad4:AD (AQ Tryz.f210) 0=[]:=by kernel_rfl
theorem ALk:AP Tryz.prog 210 (AF 0 1 Tl Tk Tj IW):=AH Sv Tryz.func210 (by kernel_rfl) (by kernel_rfl) rfl (fun v=>(ABA v).trans (AQv v)) (AA Ad4 trivial)
def XQ:Env:=XR.ext 210 true true (AF 0 1 Tl Tk Tj IW)
theorem Su:AX Tryz.prog XQ:=Env.AZ Sv ALk (fun _=>AI rfl rfl) (fun _=>AG rfl rfl)
abbrev AeA:Hints:={ fp:=fun n=>match n with|1=>[[0],[],[],[],[],[0],[0],[],[],[],[],[0],[0],[],[],[]]|_=>[] }
theorem AQz:∀ v,Nw v=AL 0 Tryz.prog XQ AeA Tryz.f205 Tw Tv Tu v:=by
 rintro⟨a0,a1,⟨⟩⟩
 kernel_rfl
theorem Ad9:AD (AQ Tryz.f205) 0=[]:=by kernel_rfl
theorem ALn:AP Tryz.prog 205 (AF 0 2 Tw Tv Tu Nx):=AH Su Tryz.func205 (by kernel_rfl) (by kernel_rfl) rfl (fun v=>(ABJ v).trans (AQz v)) (AA Ad9 trivial)
def XT:Env:=XQ.ext 205 true true (AF 0 2 Tw Tv Tu Nx)
theorem Sy:AX Tryz.prog XT:=Env.AZ Su ALn (fun _=>AI rfl rfl) (fun _=>AG rfl rfl)
abbrev AeD:Hints:={  }
theorem AQ5:∀ v,Ny v=AL 0 Tryz.prog XT AeD Tryz.f189 T1 Tz Tx v:=by
 rintro⟨a0,a1,⟨⟩⟩
 kernel_rfl
theorem AeC:AD (AQ Tryz.f189) 0=[]:=by kernel_rfl
theorem ALr:AP Tryz.prog 189 (AF 0 2 T1 Tz Tx Q7):=AH Sy Tryz.func189 (by kernel_rfl) (by kernel_rfl) rfl (fun v=>(ABM v).trans (AQ5 v)) (AA AeC trivial)
def AKu:Env:=XT.ext 189 true true (AF 0 2 T1 Tz Tx Q7)
theorem AP4:AX Tryz.prog AKu:=Env.AZ Sy ALr (fun _=>AI rfl rfl) (fun _=>AG rfl rfl)
theorem Aha : (Tryz.f211.name == "runtime.NumGoroutine") = false := by kernel_rfl
theorem AIU:L5 Tryz.prog Tryz.f211 171 199 (.prod (.int .i64) (.prod (.int .i64) (.prod (.int .i64) (.prod (.int .i64) .unit)))) where
 body:=by kernel_rfl
 nt:=by kernel_rfl
 res:=by kernel_rfl
 d:=⟨by kernel_rfl,by kernel_rfl,by kernel_rfl,by kernel_rfl,by kernel_rfl,by kernel_rfl,by kernel_rfl,by kernel_rfl⟩
 g:=⟨by kernel_rfl,by kernel_rfl,by kernel_rfl,by kernel_rfl,by kernel_rfl,by kernel_rfl,by kernel_rfl,by kernel_rfl⟩
 o00:=by kernel_rfl
 o10:=by kernel_rfl
 o11:=by kernel_rfl
 o20:=by kernel_rfl
 o30:=by kernel_rfl
 o31:=by kernel_rfl
 o32:=by kernel_rfl
 o33:=by kernel_rfl
 sl:=by kernel_rfl
 z:=by kernel_rfl
 by1:=by kernel_rfl
def AK4:Env:=AKu.ext 211 true true (Es 199 (.prod (.int .i64) (.prod (.int .i64) (.prod (.int .i64) (.prod (.int .i64) .unit)))))
theorem AQH:AX Tryz.prog AK4:=Env.AZ AP4 (AFt AIU Tryz.func211 Aha) (fun _=>CP _ _) (fun _=>(CP _ _).AnI)
theorem AmP : (Tryz.f212.name == "runtime.NumGoroutine") = false := by kernel_rfl
theorem APE:L5 Tryz.prog Tryz.f212 104 4 .bool where
 body:=by kernel_rfl
 nt:=by kernel_rfl
 res:=by kernel_rfl
 d:=⟨by kernel_rfl,by kernel_rfl,by kernel_rfl,by kernel_rfl,by kernel_rfl,by kernel_rfl,by kernel_rfl,by kernel_rfl⟩
 g:=⟨by kernel_rfl,by kernel_rfl,by kernel_rfl,by kernel_rfl,by kernel_rfl,by kernel_rfl,by kernel_rfl,by kernel_rfl⟩
 o00:=by kernel_rfl
 o10:=by kernel_rfl
 o11:=by kernel_rfl
 o20:=by kernel_rfl
 o30:=by kernel_rfl
 o31:=by kernel_rfl
 o32:=by kernel_rfl
 o33:=by kernel_rfl
 sl:=by kernel_rfl
 z:=by kernel_rfl
 by1:=by kernel_rfl
def AWN:Env:=AK4.ext 212 true true (Es 4 .bool)
theorem AWM:AX Tryz.prog AWN:=Env.AZ AQH (AFt APE Tryz.func212 AmP) (fun _=>CP _ _) (fun _=>(CP _ _).AnI)
theorem AmO : (Tryz.f198.name == "runtime.NumGoroutine") = false := by kernel_rfl
theorem APD:L5 Tryz.prog Tryz.f198 76 41 (.slice (.int .i64)) where
 body:=by kernel_rfl
 nt:=by kernel_rfl
 res:=by kernel_rfl
 d:=⟨by kernel_rfl,by kernel_rfl,by kernel_rfl,by kernel_rfl,by kernel_rfl,by kernel_rfl,by kernel_rfl,by kernel_rfl⟩
 g:=⟨by kernel_rfl,by kernel_rfl,by kernel_rfl,by kernel_rfl,by kernel_rfl,by kernel_rfl,by kernel_rfl,by kernel_rfl⟩
 o00:=by kernel_rfl
 o10:=by kernel_rfl
 o11:=by kernel_rfl
 o20:=by kernel_rfl
 o30:=by kernel_rfl
 o31:=by kernel_rfl
 o32:=by kernel_rfl
 o33:=by kernel_rfl
 sl:=by kernel_rfl
 z:=by kernel_rfl
 by1:=by kernel_rfl
def AWL:Env:=AWN.ext 198 true true (Es 41 (.slice (.int .i64)))
theorem AWK:AX Tryz.prog AWL:=Env.AZ AWM (AFt APD Tryz.func198 AmO) (fun _=>CP _ _) (fun _=>(CP _ _).AnI)
theorem ApG : (Tryz.f207.name == "runtime.NumGoroutine") = false := by kernel_rfl
theorem AVL:AK5 Tryz.prog Tryz.f207 41 3 1 where
 body:=by kernel_rfl
 nt:=by kernel_rfl
 res:=by kernel_rfl
 d:=⟨by kernel_rfl,by kernel_rfl,by kernel_rfl,by kernel_rfl,by kernel_rfl,by kernel_rfl,by kernel_rfl,by kernel_rfl⟩
 g:=⟨by kernel_rfl,by kernel_rfl,by kernel_rfl,by kernel_rfl,by kernel_rfl,by kernel_rfl,by kernel_rfl,by kernel_rfl⟩
 o00:=by kernel_rfl
 o10:=by kernel_rfl
 o11:=by kernel_rfl
 o12:=by kernel_rfl
 o13:=by kernel_rfl
 o14:=by kernel_rfl
 o15:=by kernel_rfl
 o16:=by kernel_rfl
 sl:=by kernel_rfl
 sz:=by kernel_rfl
def AQI:Env:=AWL.ext 207 true true (NL 1)
theorem AHA:AX Tryz.prog AQI:=Env.AZ AWK (ApF AVL Tryz.func207 ApG) (fun _=>NK _) (fun _=>(NK _).AnI)
abbrev Aic:Hints:={ fp:=fun n=>match n with|11=>[[0],[0],[],[12],[12],[],[],[],[],[12],[12],[],[],[],[31,38],[0],[1]]|10=>[[12],[12],[12],[],[],[],[]]|6=>[[12],[],[0],[0],[],[],[12],[12],[],[],[]]|_=>[] }
theorem AWp:∀ v,Q5 v=AL 0 Tryz.prog AQI Aic Tryz.f206 ABH ABG ABF v:=by
 rintro⟨a0,a1,⟨⟩⟩
 kernel_rfl
theorem Aib:AD (AQ Tryz.f206) 0=[]:=by kernel_rfl
theorem AQy:AP Tryz.prog 206 (AF 0 2 ABH ABG ABF ABI):=AH AHA Tryz.func206 (by kernel_rfl) (by kernel_rfl) rfl (fun v=>(AIy v).trans (AWp v)) (AA Aib trivial)
def Sx:Env:=AQI.ext 206 true true (AF 0 2 ABH ABG ABF ABI)
theorem NZ:AX Tryz.prog Sx:=Env.AZ AHA AQy (fun _=>AI rfl rfl) (fun _=>AG rfl rfl)
abbrev PX:Hints:={ loop:=fun n=>match n with|0=>Ab 1 32 Xw Xv DK|_=>fun _ _ _=>none }
theorem ABK:∀ v,DK v=roundOf Tryz.prog Sx PX 1 1 32 (AB Tryz.f213 0) Xw Xv v:=by
 rintro⟨a0,a1,⟨⟩⟩
 kernel_rfl
theorem AQ0:AD (AB Tryz.f213 0) 1=[]:=by kernel_rfl
theorem AQ1:Aa Tryz.prog 1 (.loop (AB Tryz.f213 0)) (PX.loop 0):=AT NZ (ABK) (AA AQ0 trivial)
theorem ALp:∀ v,Kb v=AL 1 Tryz.prog Sx PX Tryz.f213 PW PV PU v:=by
 rintro⟨a0,a1,⟨⟩⟩
 kernel_rfl
theorem AWq:AD (AQ Tryz.f213) 0=[(0,AB Tryz.f213 0)]:=by kernel_rfl
theorem AHM:AP Tryz.prog 213 (AF 1 2 PW PV PU MQ):=AH NZ Tryz.func213 (by kernel_rfl) (by kernel_rfl) rfl (fun v=>(Xx v).trans (ALp v)) (AA AWq ⟨AQ1,trivial⟩)
def Lg:Env:=Sx.ext 213 false true (AF 1 2 PW PV PU MQ)
theorem JY:AX Tryz.prog Lg:=Env.AZ NZ AHM ((by simp)) (fun _=>AG rfl rfl)
abbrev AWv:Hints:={ loop:=fun n=>match n with|0=>Ab 0 67 Ab3 Ab2 Kc|_=>fun _ _ _=>none,fp:=fun n=>match n with|12=>[[0],[0],[0],[8],[8],[1000005,3],[7],[],[]]|7=>[[0],[0],[],[0],[0],[],[0],[1],[0],[1]]|5=>[[12],[],[0],[0],[],[],[12],[12],[],[],[],[0],[0],[12],[12],[],[],[]]|_=>[] }
theorem AWr:∀ v,Kc v=roundOf Tryz.prog Lg AWv 1 0 67 (AB Tryz.f208 0) Ab3 Ab2 v:=by
 rintro⟨a0,a1,a2,a3,a4,a5,a6,a7,a8,⟨⟩⟩
 kernel_rfl
theorem AnM:AD (AB Tryz.f208 0) 1=[]:=by kernel_rfl
theorem AnN:Aa Tryz.prog 0 (.loop (AB Tryz.f208 0)) (AWv.loop 0):=AT JY (AWr) (AA AnM trivial)
theorem Aie:∀ v,ALq v=AL 0 Tryz.prog Lg AWv Tryz.f208 AWu AWt AWs v:=by
 rintro⟨a0,a1,⟨⟩⟩
 kernel_rfl
theorem Apr:AD (AQ Tryz.f208) 0=[(0,AB Tryz.f208 0)]:=by kernel_rfl
theorem AeB:AP Tryz.prog 208 (AF 0 2 AWu AWt AWs Aif):=AH JY Tryz.func208 (by kernel_rfl) (by kernel_rfl) rfl (fun v=>(Ab4 v).trans (Aie v)) (AA Apr ⟨AnN,trivial⟩)
def Abn:Env:=Lg.ext 208 true true (AF 0 2 AWu AWt AWs Aif)
theorem AKt:AX Tryz.prog Abn:=Env.AZ JY AeB (fun _=>AI rfl rfl) (fun _=>AG rfl rfl)
abbrev AbR:Hints:={  }
theorem APW:∀ v,Lb v=AL 0 Tryz.prog Abn AbR Tryz.f203 Qd Qc Qb v:=by
 rintro⟨a0,⟨⟩⟩
 kernel_rfl
theorem AbQ:AD (AQ Tryz.f203) 0=[]:=by kernel_rfl
theorem AIZ:AP Tryz.prog 203 (AF 0 1 Qd Qc Qb KG):=AH AKt Tryz.func203 (by kernel_rfl) (by kernel_rfl) rfl (fun v=>(Yw v).trans (APW v)) (AA AbQ trivial)
def Qt:Env:=Abn.ext 203 true true (AF 0 1 Qd Qc Qb KG)
theorem PO:AX Tryz.prog Qt:=Env.AZ AKt AIZ (fun _=>AI rfl rfl) (fun _=>AG rfl rfl)
end
end Go.Pev
end
section
namespace Go.Pev
open Go.Proofs
noncomputable section
abbrev AmS:Hints:={ fp:=fun n=>match n with|1=>[[],[],[],[],[0],[0],[],[],[],[],[0],[0],[],[],[],[],[],[],[],[0],[],[],[],[0],[0],[0],[0],[],[],[],[],[],[],[],[],[],[]]|_=>[] }
theorem AbM:∀ v,Sc v=AL 0 Tryz.prog Qt AmS Tryz.f204 AF0 AFz AFy v:=by
 rintro⟨a0,a1,⟨⟩⟩
 kernel_rfl
theorem AmR:AD (AQ Tryz.f204) 0=[]:=by kernel_rfl
theorem AVV:AP Tryz.prog 204 (AF 0 2 AF0 AFz AFy AF1):=AH PO Tryz.func204 (by kernel_rfl) (by kernel_rfl) rfl (fun v=>(AKb v).trans (AbM v)) (AA AmR trivial)
def Nn:Env:=Qt.ext 204 true true (AF 0 2 AF0 AFz AFy AF1)
theorem JD:AX Tryz.prog Nn:=Env.AZ PO AVV (fun _=>AI rfl rfl) (fun _=>AG rfl rfl)
abbrev M9:Hints:={ loop:=fun n=>match n with|0=>Ab 0 67 AKX AKV GD|1=>Ab 0 67 AKW AKU Er|_=>fun _ _ _=>none }
theorem AO4:∀ v,Er v=roundOf Tryz.prog Nn M9 2 0 67 (AB Tryz.f197 1) AKW AKU v:=by
 rintro⟨a0,a1,a2,a3,a4,a5,a6,a7,a8,a9,a10,a11,a12,a13,⟨⟩⟩
 kernel_rfl
theorem AhN:AD (AB Tryz.f197 1) 2=[]:=by kernel_rfl
theorem AhP:Aa Tryz.prog 0 (.loop (AB Tryz.f197 1)) (M9.loop 1):=AT JD (AO4) (AA AhN trivial)
theorem AO5:∀ v,GD v=roundOf Tryz.prog Nn M9 1 0 67 (AB Tryz.f197 0) AKX AKV v:=by
 rintro⟨a0,a1,a2,a3,a4,a5,a6,a7,a8,a9,a10,⟨⟩⟩
 kernel_rfl
theorem AhO:AD (AB Tryz.f197 0) 1=[(1,AB Tryz.f197 1)]:=by kernel_rfl
theorem AhQ:Aa Tryz.prog 0 (.loop (AB Tryz.f197 0)) (M9.loop 0):=AT JD (AO5) (AA AhO ⟨AhP,trivial⟩)
theorem Aa3:∀ v,SO v=AL 0 Tryz.prog Nn M9 Tryz.f197 AFf AFe AFd v:=by
 rintro⟨a0,⟨⟩⟩
 kernel_rfl
theorem AmK:AD (AQ Tryz.f197) 0=[(0,AB Tryz.f197 0)]:=by kernel_rfl
theorem AVB:AP Tryz.prog 197 (AF 0 1 AFf AFe AFd AFg):=AH JD Tryz.func197 (by kernel_rfl) (by kernel_rfl) rfl (fun v=>(AKY v).trans (Aa3 v)) (AA AmK ⟨AhQ,trivial⟩)
def AG9:Env:=Nn.ext 197 true true (AF 0 1 AFf AFe AFd AFg)
theorem ZI:AX Tryz.prog AG9:=Env.AZ JD AVB (fun _=>AI rfl rfl) (fun _=>AG rfl rfl)
abbrev Amg:Hints:={  }
def AVf:Env:={ AG9 with keep:=true }
theorem AVe:AX Tryz.prog AVf:=ZI
theorem AbT:∀ v,Se v=AL 0 Tryz.prog AVf Amg Tryz.f173 AF9 AF8 AF7 v:=by
 rintro⟨a0,a1,a2,⟨⟩⟩
 kernel_rfl
theorem Amf:AD (AQ Tryz.f173) 0=[]:=by kernel_rfl
theorem AVd:AP Tryz.prog 173 (AF 0 3 AF9 AF8 AF7 AGA):=AH AVe Tryz.func173 (by kernel_rfl) (by kernel_rfl) rfl (fun v=>(AKd v).trans (AbT v)) (AA Amf trivial)
def TX:Env:=AG9.ext 173 true true (AF 0 3 AF9 AF8 AF7 AGA)
theorem No:AX Tryz.prog TX:=Env.AZ ZI AVd (fun _=>AI rfl rfl) (fun _=>AG rfl rfl)
abbrev APS:Hints:={ loop:=fun n=>match n with|0=>Ab 0 18 AVY AVX H9|_=>fun _ _ _=>none }
theorem AVW:∀ v,H9 v=roundOf Tryz.prog TX APS 1 0 18 (AB Tryz.f191 0) AVY AVX v:=by
 rintro⟨a0,a1,a2,a3,⟨⟩⟩
 kernel_rfl
theorem AmT:AD (AB Tryz.f191 0) 1=[]:=by kernel_rfl
theorem AmU:Aa Tryz.prog 0 (.loop (AB Tryz.f191 0)) (APS.loop 0):=AT No (AVW) (AA AmT trivial)
theorem Ahi:∀ v,AAL v=AL 0 Tryz.prog TX APS Tryz.f191 APR APQ APP v:=by
 rintro⟨a0,⟨⟩⟩
 kernel_rfl
theorem ApH:AD (AQ Tryz.f191) 0=[(0,AB Tryz.f191 0)]:=by kernel_rfl
theorem AbN:AP Tryz.prog 191 (AF 0 1 APR APQ APP AVa):=AH No Tryz.func191 (by kernel_rfl) (by kernel_rfl) rfl (fun v=>(AVZ v).trans (Ahi v)) (AA ApH ⟨AmU,trivial⟩)
def AQJ:Env:=TX.ext 191 true true (AF 0 1 APR APQ APP AVa)
theorem AHB:AX Tryz.prog AQJ:=Env.AZ No AbN (fun _=>AI rfl rfl) (fun _=>AG rfl rfl)
abbrev AhX:Hints:={  }
theorem AVK:∀ v,OP v=AL 2 Tryz.prog AQJ AhX Tryz.f199 W3 W2 W1 v:=by
 rintro⟨a0,a1,a2,a3,a4,a5,a6,a7,a8,a9,a10,a11,⟨⟩⟩
 kernel_rfl
theorem AhW:AD (AQ Tryz.f199) 0=[]:=by kernel_rfl
theorem APB:AP Tryz.prog 199 (AF 2 2 W3 W2 W1 OQ):=AH AHB Tryz.func199 (by kernel_rfl) (by kernel_rfl) rfl (fun v=>(AFr v).trans (AVK v)) (AA AhW trivial)
def Xm:Env:=AQJ.ext 199 false true (AF 2 2 W3 W2 W1 OQ)
theorem TW:AX Tryz.prog Xm:=Env.AZ AHB APB ((by simp)) (fun _=>AG rfl rfl)
abbrev Amb:Hints:={ fp:=fun n=>match n with|9=>[[],[0],[0],[0],[0],[],[],[],[2],[3]]|6=>[[],[0],[0],[0],[0],[],[],[],[],[],[2],[3]]|1=>[[],[0],[0],[0],[0],[],[2],[2],[],[0],[0],[0],[0],[],[2],[2],[],[]]|_=>[] }
theorem AbP:∀ v,Sd v=AL 2 Tryz.prog Xm Amb Tryz.f200 AF4 AF3 AF2 v:=by
 rintro⟨a0,a1,a2,a3,a4,a5,a6,a7,a8,a9,a10,a11,a12,⟨⟩⟩
 kernel_rfl
theorem Ama:AD (AQ Tryz.f200) 0=[]:=by kernel_rfl
theorem AVc:AP Tryz.prog 200 (AF 2 3 AF4 AF3 AF2 AF5):=AH TW Tryz.func200 (by kernel_rfl) (by kernel_rfl) rfl (fun v=>(AKc v).trans (AbP v)) (AA Ama trivial)
def AHC:Env:=Xm.ext 200 false true (AF 2 3 AF4 AF3 AF2 AF5)
theorem ZJ:AX Tryz.prog AHC:=Env.AZ TW AVc ((by simp)) (fun _=>AG rfl rfl)
abbrev Aqx:Hints:={ fp:=fun n=>match n with|9=>[[],[],[0],[0],[0],[0],[],[0],[0],[0],[0],[],[],[],[],[],[0],[0],[0],[1],[],[]]|6=>[[],[0],[0],[0],[0],[],[],[0],[0],[0],[0],[],[2],[2],[],[],[],[],[28],[2],[3,30]]|3=>[[],[],[0],[0],[0],[0],[],[0],[0],[0],[0],[],[],[],[],[],[],[0],[0],[0],[1],[],[],[]]|1=>[[],[0],[0],[0],[0],[],[0],[0],[0],[0],[]]|_=>[] }
theorem ApJ:∀ v,AdQ v=AL 2 Tryz.prog AHC Aqx Tryz.f201 AmY AmX AmW v:=by
 rintro⟨a0,a1,a2,a3,a4,a5,a6,a7,a8,a9,a10,a11,⟨⟩⟩
 kernel_rfl
theorem Aqw:AD (AQ Tryz.f201) 0=[]:=by kernel_rfl
theorem AmV:AP Tryz.prog 201 (AF 2 2 AmY AmX AmW cgo):=AH ZJ Tryz.func201 (by kernel_rfl) (by kernel_rfl) rfl (fun v=>(AmZ v).trans (ApJ v)) (AA Aqw trivial)
def Am3:Env:=AHC.ext 201 false true (AF 2 2 AmY AmX AmW cgo)
theorem AWO:AX Tryz.prog Am3:=Env.AZ ZJ AmV ((by simp)) (fun _=>AG rfl rfl)
abbrev ApB:Hints:={ fp:=fun n=>match n with|18=>[[],[14],[14],[14],[],[14],[14],[14],[3],[5],[]]|14=>[[],[14],[14],[14],[],[14],[14],[14],[3],[5],[]]|_=>[] }
theorem AhM:∀ v,AAK v=AL 0 Tryz.prog Am3 ApB Tryz.f190 AO2 AO1 AO0 v:=by
 rintro⟨a0,a1,a2,⟨⟩⟩
 kernel_rfl
theorem ApA:AD (AQ Tryz.f190) 0=[]:=by kernel_rfl
theorem Aa1:AP Tryz.prog 190 (AF 0 3 AO2 AO1 AO0 AU8):=AH AWO Tryz.func190 (by kernel_rfl) (by kernel_rfl) rfl (fun v=>(AU7 v).trans (AhM v)) (AA ApA trivial)
def AQG:Env:=Am3.ext 190 true true (AF 0 3 AO2 AO1 AO0 AU8)
theorem AG8:AX Tryz.prog AQG:=Env.AZ AWO Aa1 (fun _=>AI rfl rfl) (fun _=>AG rfl rfl)
abbrev Ao1:Hints:={ fp:=fun n=>match n with|3=>[[],[],[12],[],[0],[0],[0],[14],[],[3,16],[0],[0],[1],[0],[0],[1]]|_=>[] }
theorem Ag2:∀ v,AAH v=AL 1 Tryz.prog AQG Ao1 Tryz.f174 AOg AOf AOe v:=by
 rintro⟨a0,a1,a2,a3,a4,a5,a6,a7,a8,a9,⟨⟩⟩
 kernel_rfl
theorem Ao0:AD (AQ Tryz.f174) 0=[]:=by kernel_rfl
theorem Aab:AP Tryz.prog 174 (AF 1 3 AOg AOf AOe AKM):=AH AG8 Tryz.func174 (by kernel_rfl) (by kernel_rfl) rfl (fun v=>(AUr v).trans (Ag2 v)) (AA Ao0 trivial)
def TQ:Env:=AQG.ext 174 false true (AF 1 3 AOg AOf AOe AKM)
theorem Lz:AX Tryz.prog TQ:=Env.AZ AG8 Aab ((by simp)) (fun _=>AG rfl rfl)
abbrev KC:Hints:={ loop:=fun n=>match n with|0=>Ab 1 41 AFJ AFH Cw|1=>Ab 1 41 AFI AFG CJ|_=>fun _ _ _=>none }
theorem AIA:∀ v,CJ v=roundOf Tryz.prog TQ KC 2 1 41 (AB Tryz.f175 1) AFI AFG v:=by
 rintro⟨a0,a1,a2,a3,a4,a5,a6,a7,a8,a9,a10,⟨⟩⟩
 kernel_rfl
theorem Aac:AD (AB Tryz.f175 1) 2=[]:=by kernel_rfl
theorem Aae:Aa Tryz.prog 1 (.loop (AB Tryz.f175 1)) (KC.loop 1):=AT Lz (AIA) (AA Aac trivial)
theorem AIB:∀ v,Cw v=roundOf Tryz.prog TQ KC 1 1 41 (AB Tryz.f175 0) AFJ AFH v:=by
 rintro⟨a0,a1,a2,a3,a4,a5,a6,a7,a8,⟨⟩⟩
 kernel_rfl
theorem Aad:AD (AB Tryz.f175 0) 1=[(1,AB Tryz.f175 1)]:=by kernel_rfl
theorem Aaf:Aa Tryz.prog 1 (.loop (AB Tryz.f175 0)) (KC.loop 0):=AT Lz (AIB) (AA Aad ⟨Aae,trivial⟩)
theorem AUt:∀ v,OK v=AL 1 Tryz.prog TQ KC Tryz.f175 We Wd Wc v:=by
 rintro⟨a0,a1,a2,a3,a4,a5,a6,a7,⟨⟩⟩
 kernel_rfl
theorem Ag3:AD (AQ Tryz.f175) 0=[(0,AB Tryz.f175 0)]:=by kernel_rfl
theorem AOh:AP Tryz.prog 175 (AF 1 1 We Wd Wc SF):=AH Lz Tryz.func175 (by kernel_rfl) (by kernel_rfl) rfl (fun v=>(AFK v).trans (AUt v)) (AA Ag3 ⟨Aaf,trivial⟩)
def Oh:Env:=TQ.ext 175 false true (AF 1 1 We Wd Wc SF)
theorem L0:AX Tryz.prog Oh:=Env.AZ Lz AOh ((by simp)) (fun _=>AG rfl rfl)
abbrev AFE:Hints:={ loop:=fun n=>match n with|0=>Ab 0 71 AKJ AKI Eo|_=>fun _ _ _=>none,fp:=fun n=>match n with|11=>[[],[2],[2],[2],[],[2],[2],[2],[],[1],[],[]]|14=>[[],[2],[2],[2],[],[2],[2],[2],[],[1],[],[]]|_=>[] }
theorem AOd:∀ v,Eo v=roundOf Tryz.prog Oh AFE 1 0 71 (AB Tryz.f155 0) AKJ AKI v:=by
 rintro⟨a0,a1,a2,a3,a4,a5,a6,a7,a8,a9,a10,a11,a12,a13,a14,⟨⟩⟩
 kernel_rfl
theorem Ag0:AD (AB Tryz.f155 0) 1=[]:=by kernel_rfl
theorem Ag1:Aa Tryz.prog 0 (.loop (AB Tryz.f155 0)) (AFE.loop 0):=AT L0 (AOd) (AA Ag0 trivial)
theorem Aaa:∀ v,SD v=AL 0 Tryz.prog Oh AFE Tryz.f155 AFD AFC AFB v:=by
 rintro⟨a0,a1,a2,a3,⟨⟩⟩
 kernel_rfl
theorem Al9:AD (AQ Tryz.f155) 0=[(0,AB Tryz.f155 0)]:=by kernel_rfl
theorem AUq:AP Tryz.prog 155 (AF 0 4 AFD AFC AFB AFF):=AH L0 Tryz.func155 (by kernel_rfl) (by kernel_rfl) rfl (fun v=>(AKK v).trans (Aaa v)) (AA Al9 ⟨Ag1,trivial⟩)
def TP:Env:=Oh.ext 155 true true (AF 0 4 AFD AFC AFB AFF)
theorem Nm:AX Tryz.prog TP:=Env.AZ L0 AUq (fun _=>AI rfl rfl) (fun _=>AG rfl rfl)
abbrev Wi:Hints:={ loop:=fun n=>match n with|0=>Ab 0 48 AFP AFO EX|_=>fun _ _ _=>none }
theorem AIC:∀ v,EX v=roundOf Tryz.prog TP Wi 1 0 48 (AB Tryz.f156 0) AFP AFO v:=by
 rintro⟨a0,a1,a2,a3,a4,a5,a6,a7,a8,a9,a10,⟨⟩⟩
 kernel_rfl
theorem Aaj:AD (AB Tryz.f156 0) 1=[]:=by kernel_rfl
theorem Aak:Aa Tryz.prog 0 (.loop (AB Tryz.f156 0)) (Wi.loop 0):=AT Nm (AIC) (AA Aaj trivial)
theorem AUx:∀ v,OL v=AL 0 Tryz.prog TP Wi Tryz.f156 Wh Wg Wf v:=by
 rintro⟨a0,a1,⟨⟩⟩
 kernel_rfl
theorem Ag7:AD (AQ Tryz.f156) 0=[(0,AB Tryz.f156 0)]:=by kernel_rfl
theorem AOl:AP Tryz.prog 156 (AF 0 2 Wh Wg Wf SJ):=AH Nm Tryz.func156 (by kernel_rfl) (by kernel_rfl) rfl (fun v=>(AFQ v).trans (AUx v)) (AA Ag7 ⟨Aak,trivial⟩)
def Xi:Env:=TP.ext 156 true true (AF 0 2 Wh Wg Wf SJ)
theorem TS:AX Tryz.prog Xi:=Env.AZ Nm AOl (fun _=>AI rfl rfl) (fun _=>AG rfl rfl)
end
end Go.Pev
end
section
namespace Go.Pev
open Go.Proofs
noncomputable section
abbrev Aln:Hints:={  }
theorem AaC:∀ v,R3 v=AL 0 Tryz.prog Xi Aln Tryz.f154 AEh AEg AEf v:=by
 rintro⟨a0,⟨⟩⟩
 kernel_rfl
theorem Alm:AD (AQ Tryz.f154) 0=[]:=by kernel_rfl
theorem AUR:AP Tryz.prog 154 (AF 0 1 AEh AEg AEf AEi):=AH TS Tryz.func154 (by kernel_rfl) (by kernel_rfl) rfl (fun v=>(AJ4 v).trans (AaC v)) (AA Alm trivial)
def Nk:Env:=Xi.ext 154 true true (AF 0 1 AEh AEg AEf AEi)
theorem JA:AX Tryz.prog Nk:=Env.AZ TS AUR (fun _=>AI rfl rfl) (fun _=>AG rfl rfl)
abbrev M0:Hints:={ loop:=fun n=>match n with|0=>Ab 0 70 AJ8 AJ6 F7|1=>Ab 0 70 AJ7 AJ5 F6|_=>fun _ _ _=>none }
theorem AOM:∀ v,F6 v=roundOf Tryz.prog Nk M0 2 0 70 (AB Tryz.f139 1) AJ7 AJ5 v:=by
 rintro⟨a0,a1,a2,a3,a4,a5,a6,a7,a8,⟨⟩⟩
 kernel_rfl
theorem Agf:AD (AB Tryz.f139 1) 2=[]:=by kernel_rfl
theorem Agh:Aa Tryz.prog 0 (.loop (AB Tryz.f139 1)) (M0.loop 1):=AT JA (AOM) (AA Agf trivial)
theorem AON:∀ v,F7 v=roundOf Tryz.prog Nk M0 1 0 70 (AB Tryz.f139 0) AJ8 AJ6 v:=by
 rintro⟨a0,a1,a2,a3,a4,⟨⟩⟩
 kernel_rfl
theorem Agg:AD (AB Tryz.f139 0) 1=[(1,AB Tryz.f139 1)]:=by kernel_rfl
theorem Agi:Aa Tryz.prog 0 (.loop (AB Tryz.f139 0)) (M0.loop 0):=AT JA (AON) (AA Agg ⟨Agh,trivial⟩)
theorem AaF:∀ v,J7 v=AL 0 Tryz.prog Nk M0 Tryz.f139 AEm AEl AEk v:=by
 rintro⟨a0,a1,⟨⟩⟩
 kernel_rfl
theorem Alo:AD (AQ Tryz.f139) 0=[(0,AB Tryz.f139 0)]:=by kernel_rfl
theorem AUT:AP Tryz.prog 139 (AF 0 2 AEm AEl AEk CN):=AH JA Tryz.func139 (by kernel_rfl) (by kernel_rfl) rfl (fun v=>(OH v).trans (AaF v)) (AA Alo ⟨Agi,trivial⟩)
def AG1:Env:=Nk.ext 139 true true (AF 0 2 AEm AEl AEk CN)
theorem ZE:AX Tryz.prog AG1:=Env.AZ JA AUT (fun _=>AI rfl rfl) (fun _=>AG rfl rfl)
abbrev Aiv:Hints:={  }
theorem AW6:∀ v,RB v=AL 0 Tryz.prog AG1 Aiv Tryz.f149 ABU ABT ABS v:=by
 rintro⟨a0,⟨⟩⟩
 kernel_rfl
theorem Aiu:AD (AQ Tryz.f149) 0=[]:=by kernel_rfl
theorem AQ7:AP Tryz.prog 149 (AF 0 1 ABU ABT ABS T3):=AH ZE Tryz.func149 (by kernel_rfl) (by kernel_rfl) rfl (fun v=>(AI3 v).trans (AW6 v)) (AA Aiu trivial)
def AGm:Env:=AG1.ext 149 true true (AF 0 1 ABU ABT ABS T3)
theorem Y6:AX Tryz.prog AGm:=Env.AZ ZE AQ7 (fun _=>AI rfl rfl) (fun _=>AG rfl rfl)
abbrev AeY:Hints:={  }
theorem ARR:∀ v,N1 v=AL 0 Tryz.prog AGm AeY Tryz.f150 UE UD UC v:=by
 rintro⟨a0,a1,⟨⟩⟩
 kernel_rfl
theorem AeX:AD (AQ Tryz.f150) 0=[]:=by kernel_rfl
theorem AMO:AP Tryz.prog 150 (AF 0 2 UE UD UC RH):=AH Y6 Tryz.func150 (by kernel_rfl) (by kernel_rfl) rfl (fun v=>(ABd v).trans (ARR v)) (AA AeX trivial)
def XV:Env:=AGm.ext 150 true true (AF 0 2 UE UD UC RH)
theorem S5:AX Tryz.prog XV:=Env.AZ Y6 AMO (fun _=>AI rfl rfl) (fun _=>AG rfl rfl)
abbrev AnV:Hints:={  }
theorem AeL:∀ v,Zz v=AL 0 Tryz.prog XV AnV Tryz.f152 AL2 AL1 AL0 v:=by
 rintro⟨a0,a1,a2,⟨⟩⟩
 kernel_rfl
theorem AnU:AD (AQ Tryz.f152) 0=[]:=by kernel_rfl
theorem AXD:AP Tryz.prog 152 (AF 0 3 AL2 AL1 AL0 AI5):=AH S5 Tryz.func152 (by kernel_rfl) (by kernel_rfl) rfl (fun v=>(AQ9 v).trans (AeL v)) (AA AnU trivial)
def AP5:Env:=XV.ext 152 true true (AF 0 3 AL2 AL1 AL0 AI5)
theorem AGn:AX Tryz.prog AP5:=Env.AZ S5 AXD (fun _=>AI rfl rfl) (fun _=>AG rfl rfl)
theorem Ait:Tryz.f137.body.isSome=true:=by kernel_rfl
theorem Ais : (Tryz.f137.name == "runtime.NumGoroutine") = false := by kernel_rfl
theorem Air:loops (AQ Tryz.f137)=0:=by kernel_rfl
def Li:Env:=AP5.ext 137 false false (Cj Tryz.prog AP5 {} Tryz.f137)
theorem Ja:AX Tryz.prog Li:=Env.AZ AGn (CV AGn Tryz.func137 Ait Ais Air) (by simp) (by simp)
abbrev ABs:Hints:={ loop:=fun n=>match n with|0=>Ab 0 31 AJF AJE Fb|_=>fun _ _ _=>none }
theorem AMR:∀ v,Fb v=roundOf Tryz.prog Li ABs 1 0 31 (AB Tryz.f151 0) AJF AJE v:=by
 rintro⟨a0,a1,a2,a3,a4,⟨⟩⟩
 kernel_rfl
theorem Aee:AD (AB Tryz.f151 0) 1=[]:=by kernel_rfl
theorem Aef:Aa Tryz.prog 0 (.loop (AB Tryz.f151 0)) (ABs.loop 0):=AT Ja (AMR) (AA Aee trivial)
theorem AXP:∀ v,RJ v=AL 0 Tryz.prog Li ABs Tryz.f151 ABr ABq ABp v:=by
 rintro⟨a0,⟨⟩⟩
 kernel_rfl
theorem AjC:AD (AQ Tryz.f151) 0=[(0,AB Tryz.f151 0)]:=by kernel_rfl
theorem ARW:AP Tryz.prog 151 (AF 0 2 ABr ABq ABp Pg):=AH Ja Tryz.func151 (by kernel_rfl) (by kernel_rfl) rfl (fun v=>(AJG v).trans (AXP v)) (AA AjC ⟨Aef,trivial⟩)
def KM:Env:=Li.CD 151 1 137 (AF 0 2 ABr ABq ABp Pg)
theorem Gv:AX Tryz.prog KM:=Env.Aw Ja ARW (AG rfl rfl)
abbrev FZ:Hints:={ loop:=fun n=>match n with|0=>Ab 0 118 ABa ABX EO|1=>Ab 0 118 ABZ ABW EN|2=>Ab 0 118 ABY ABV EM|_=>fun _ _ _=>none }
theorem AHP:∀ v,EM v=roundOf Tryz.prog KM FZ 3 0 118 (AB Tryz.f136 2) ABY ABV v:=by
 rintro⟨a0,a1,a2,a3,a4,a5,a6,a7,a8,a9,a10,a11,a12,⟨⟩⟩
 kernel_rfl
theorem AW7:AD (AB Tryz.f136 2) 3=[]:=by kernel_rfl
theorem AXA:Aa Tryz.prog 0 (.loop (AB Tryz.f136 2)) (FZ.loop 2):=AT Gv (AHP) (AA AW7 trivial)
theorem AHQ:∀ v,EN v=roundOf Tryz.prog KM FZ 2 0 118 (AB Tryz.f136 1) ABZ ABW v:=by
 rintro⟨a0,a1,a2,a3,a4,a5,a6,a7,a8,⟨⟩⟩
 kernel_rfl
theorem AW8:AD (AB Tryz.f136 1) 2=[(2,AB Tryz.f136 2)]:=by kernel_rfl
theorem AXB:Aa Tryz.prog 0 (.loop (AB Tryz.f136 1)) (FZ.loop 1):=AT Gv (AHQ) (AA AW8 ⟨AXA,trivial⟩)
theorem AHR:∀ v,EO v=roundOf Tryz.prog KM FZ 1 0 118 (AB Tryz.f136 0) ABa ABX v:=by
 rintro⟨a0,a1,a2,a3,a4,a5,a6,⟨⟩⟩
 kernel_rfl
theorem AW9:AD (AB Tryz.f136 0) 1=[]:=by kernel_rfl
theorem AXC:Aa Tryz.prog 0 (.loop (AB Tryz.f136 0)) (FZ.loop 0):=AT Gv (AHR) (AA AW9 trivial)
theorem AQ8:∀ v,Ji v=AL 0 Tryz.prog KM FZ Tryz.f136 T6 T5 T4 v:=by
 rintro⟨a0,a1,a2,⟨⟩⟩
 kernel_rfl
theorem AeK:AD (AQ Tryz.f136) 0=[(0,AB Tryz.f136 0),(1,AB Tryz.f136 1)]:=by kernel_rfl
theorem ALz:AP Tryz.prog 136 (AF 0 4 T6 T5 T4 Nz):=AH Gv Tryz.func136 (by kernel_rfl) (by kernel_rfl) rfl (fun v=>(PZ v).trans (AQ8 v)) (AA AeK ⟨AXC,AXB,trivial⟩)
def XU:Env:=KM.CD 136 3 137 (AF 0 4 T6 T5 T4 Nz)
theorem S0:AX Tryz.prog XU:=Env.Aw Gv ALz (AG rfl rfl)
abbrev AnT:Hints:={  }
theorem AeI:∀ v,RA v=AL 0 Tryz.prog XU AnT Tryz.f111 ALy ALx ALw v:=by
 rintro⟨a0,a1,a2,⟨⟩⟩
 kernel_rfl
theorem AnS:AD (AQ Tryz.f111) 0=[]:=by kernel_rfl
theorem AW5:AP Tryz.prog 111 (AF 0 3 ALy ALx ALw Xz):=AH S0 Tryz.func111 (by kernel_rfl) (by kernel_rfl) rfl (fun v=>(ABR v).trans (AeI v)) (AA AnS trivial)
def AAT:Env:=XU.ext 111 true true (AF 0 3 ALy ALx ALw Xz)
theorem Qj:AX Tryz.prog AAT:=Env.AZ S0 AW5 (fun _=>AI rfl rfl) (fun _=>AG rfl rfl)
abbrev ACk:Hints:={ loop:=fun n=>match n with|0=>Ab 0 26 AJU AJT Fg|_=>fun _ _ _=>none }
theorem AMn:∀ v,Fg v=roundOf Tryz.prog AAT ACk 1 0 26 (AB Tryz.f115 0) AJU AJT v:=by
 rintro⟨a0,a1,a2,a3,a4,⟨⟩⟩
 kernel_rfl
theorem Ae5:AD (AB Tryz.f115 0) 1=[]:=by kernel_rfl
theorem Ae6:Aa Tryz.prog 0 (.loop (AB Tryz.f115 0)) (ACk.loop 0):=AT Qj (AMn) (AA Ae5 trivial)
theorem AX9:∀ v,RY v=AL 0 Tryz.prog AAT ACk Tryz.f115 ACj ACi ACh v:=by
 rintro⟨a0,a1,⟨⟩⟩
 kernel_rfl
theorem Ajv:AD (AQ Tryz.f115) 0=[(0,AB Tryz.f115 0)]:=by kernel_rfl
theorem AR8:AP Tryz.prog 115 (AF 0 2 ACj ACi ACh ACl):=AH Qj Tryz.func115 (by kernel_rfl) (by kernel_rfl) rfl (fun v=>(AJV v).trans (AX9 v)) (AA Ajv ⟨Ae6,trivial⟩)
def TA:Env:=AAT.ext 115 true true (AF 0 2 ACj ACi ACh ACl)
theorem Nd:AX Tryz.prog TA:=Env.AZ Qj AR8 (fun _=>AI rfl rfl) (fun _=>AG rfl rfl)
abbrev VA:Hints:={ loop:=fun n=>match n with|0=>Ab 0 66 ACe ACd ES|_=>fun _ _ _=>none }
theorem AHZ:∀ v,ES v=roundOf Tryz.prog TA VA 1 0 66 (AB Tryz.f114 0) ACe ACd v:=by
 rintro⟨a0,a1,a2,a3,a4,a5,a6,a7,⟨⟩⟩
 kernel_rfl
theorem AX6:AD (AB Tryz.f114 0) 1=[]:=by kernel_rfl
theorem AX7:Aa Tryz.prog 0 (.loop (AB Tryz.f114 0)) (VA.loop 0):=AT Nd (AHZ) (AA AX6 trivial)
theorem AR7:∀ v,N6 v=AL 0 Tryz.prog TA VA Tryz.f114 UZ UY UX v:=by
 rintro⟨a0,a1,a2,⟨⟩⟩
 kernel_rfl
theorem Ae4:AD (AQ Tryz.f114) 0=[(0,AB Tryz.f114 0)]:=by kernel_rfl
theorem AMm:AP Tryz.prog 114 (AF 0 3 UZ UY UX RX):=AH Nd Tryz.func114 (by kernel_rfl) (by kernel_rfl) rfl (fun v=>(ACf v).trans (AR7 v)) (AA Ae4 ⟨AX7,trivial⟩)
def XX:Env:=TA.ext 114 true true (AF 0 3 UZ UY UX RX)
theorem S9:AX Tryz.prog XX:=Env.AZ Nd AMm (fun _=>AI rfl rfl) (fun _=>AG rfl rfl)
abbrev Ajq:Hints:={ fp:=fun n=>match n with|1=>[[],[],[],[0],[2],[],[],[],[],[],[]]|_=>[] }
theorem AX4:∀ v,RW v=AL 0 Tryz.prog XX Ajq Tryz.f90 ACZ ACY ACX v:=by
 rintro⟨a0,a1,a2,⟨⟩⟩
 kernel_rfl
theorem Ajp:AD (AQ Tryz.f90) 0=[]:=by kernel_rfl
theorem AR4:AP Tryz.prog 90 (AF 0 3 ACZ ACY ACX ACa):=AH S9 Tryz.func90 (by kernel_rfl) (by kernel_rfl) rfl (fun v=>(AJP v).trans (AX4 v)) (AA Ajp trivial)
def Nc:Env:=XX.ext 90 true true (AF 0 3 ACZ ACY ACX ACa)
theorem I8:AX Tryz.prog Nc:=Env.AZ S9 AR4 (fun _=>AI rfl rfl) (fun _=>AG rfl rfl)
end
end Go.Pev
end
section
namespace Go.Pev
open Go.Proofs
noncomputable section
abbrev RL:Hints:={ loop:=fun n=>match n with|0=>Ab 0 59 ARg ARe Hk|1=>Ab 0 59 ARf ARd Hj|_=>fun _ _ _=>none }
theorem ARb:∀ v,Hj v=roundOf Tryz.prog Nc RL 2 0 59 (AB Tryz.f88 1) ARf ARd v:=by
 rintro⟨a0,a1,a2,a3,a4,a5,a6,⟨⟩⟩
 kernel_rfl
theorem AjG:AD (AB Tryz.f88 1) 2=[]:=by kernel_rfl
theorem AjI:Aa Tryz.prog 0 (.loop (AB Tryz.f88 1)) (RL.loop 1):=AT I8 (ARb) (AA AjG trivial)
theorem ARc:∀ v,Hk v=roundOf Tryz.prog Nc RL 1 0 59 (AB Tryz.f88 0) ARg ARe v:=by
 rintro⟨a0,a1,a2,a3,a4,a5,a6,⟨⟩⟩
 kernel_rfl
theorem AjH:AD (AB Tryz.f88 0) 1=[]:=by kernel_rfl
theorem AjJ:Aa Tryz.prog 0 (.loop (AB Tryz.f88 0)) (RL.loop 0):=AT I8 (ARc) (AA AjH trivial)
theorem Aei:∀ v,RM v=AL 0 Tryz.prog Nc RL Tryz.f88 AMV AMU AMT v:=by
 rintro⟨a0,a1,a2,a3,⟨⟩⟩
 kernel_rfl
theorem Ang:AD (AQ Tryz.f88) 0=[(0,AB Tryz.f88 0),(1,AB Tryz.f88 1)]:=by kernel_rfl
theorem AXV:AP Tryz.prog 88 (AF 0 4 AMV AMU AMT AB3):=AH I8 Tryz.func88 (by kernel_rfl) (by kernel_rfl) rfl (fun v=>(AB1 v).trans (Aei v)) (AA Ang ⟨AjJ,AjI,trivial⟩)
def AAU:Env:=Nc.ext 88 true true (AF 0 4 AMV AMU AMT AB3)
theorem Qk:AX Tryz.prog AAU:=Env.AZ I8 AXV (fun _=>AI rfl rfl) (fun _=>AG rfl rfl)
abbrev UL:Hints:={ loop:=fun n=>match n with|0=>Ab 0 29 ABz ABy ER|_=>fun _ _ _=>none }
theorem AHU:∀ v,ER v=roundOf Tryz.prog AAU UL 1 0 29 (AB Tryz.f89 0) ABz ABy v:=by
 rintro⟨a0,a1,a2,a3,a4,⟨⟩⟩
 kernel_rfl
theorem AXT:AD (AB Tryz.f89 0) 1=[]:=by kernel_rfl
theorem AXU:Aa Tryz.prog 0 (.loop (AB Tryz.f89 0)) (UL.loop 0):=AT Qk (AHU) (AA AXT trivial)
theorem ARa:∀ v,N2 v=AL 0 Tryz.prog AAU UL Tryz.f89 UK UJ UI v:=by
 rintro⟨a0,a1,⟨⟩⟩
 kernel_rfl
theorem Aeg:AD (AQ Tryz.f89) 0=[(0,AB Tryz.f89 0)]:=by kernel_rfl
theorem AMS:AP Tryz.prog 89 (AF 0 2 UK UJ UI N3):=AH Qk Tryz.func89 (by kernel_rfl) (by kernel_rfl) rfl (fun v=>(AB0 v).trans (ARa v)) (AA Aeg ⟨AXU,trivial⟩)
def OZ:Env:=AAU.ext 89 true true (AF 0 2 UK UJ UI N3)
theorem Lo:AX Tryz.prog OZ:=Env.AZ Qk AMS (fun _=>AI rfl rfl) (fun _=>AG rfl rfl)
abbrev Wm:Hints:={ loop:=fun n=>match n with|0=>Ab 0 93 AFS AFR EY|_=>fun _ _ _=>none,fp:=fun n=>match n with|5=>[[],[10],[0],[0],[0],[0],[18],[],[],[],[],[],[],[]]|_=>[] }
theorem AID:∀ v,EY v=roundOf Tryz.prog OZ Wm 1 0 93 (AB Tryz.f79 0) AFS AFR v:=by
 rintro⟨a0,a1,a2,a3,a4,a5,a6,a7,⟨⟩⟩
 kernel_rfl
theorem Aao:AD (AB Tryz.f79 0) 1=[]:=by kernel_rfl
theorem Aap:Aa Tryz.prog 0 (.loop (AB Tryz.f79 0)) (Wm.loop 0):=AT Lo (AID) (AA Aao trivial)
theorem AUz:∀ v,KD v=AL 0 Tryz.prog OZ Wm Tryz.f79 Wl Wk Wj v:=by
 rintro⟨a0,a1,⟨⟩⟩
 kernel_rfl
theorem Ag9:AD (AQ Tryz.f79) 0=[(0,AB Tryz.f79 0)]:=by kernel_rfl
theorem AOo:AP Tryz.prog 79 (AF 0 2 Wl Wk Wj OM):=AH Lo Tryz.func79 (by kernel_rfl) (by kernel_rfl) rfl (fun v=>(QT v).trans (AUz v)) (AA Ag9 ⟨Aap,trivial⟩)
def Xj:Env:=OZ.ext 79 true true (AF 0 2 Wl Wk Wj OM)
theorem TT:AX Tryz.prog Xj:=Env.AZ Lo AOo (fun _=>AI rfl rfl) (fun _=>AG rfl rfl)
abbrev Ao3:Hints:={  }
theorem Ag5:∀ v,SH v=AL 0 Tryz.prog Xj Ao3 Tryz.f58 AOk AOj AOi v:=by
 rintro⟨a0,a1,⟨⟩⟩
 kernel_rfl
theorem Ao2:AD (AQ Tryz.f58) 0=[]:=by kernel_rfl
theorem Aai:AP Tryz.prog 58 (AF 0 2 AOk AOj AOi Yp):=AH TT Tryz.func58 (by kernel_rfl) (by kernel_rfl) rfl (fun v=>(AFM v).trans (Ag5 v)) (AA Ao2 trivial)
def TR:Env:=Xj.ext 58 true true (AF 0 2 AOk AOj AOi Yp)
theorem L3:AX Tryz.prog TR:=Env.AZ TT Aai (fun _=>AI rfl rfl) (fun _=>AG rfl rfl)
abbrev M7:Hints:={ loop:=fun n=>match n with|0=>Ab 0 63 AKS AKQ GB|1=>Ab 0 63 AKR AKP C8|_=>fun _ _ _=>none }
theorem AOu:∀ v,C8 v=roundOf Tryz.prog TR M7 2 0 63 (AB Tryz.f31 1) AKR AKP v:=by
 rintro⟨a0,a1,a2,a3,a4,a5,⟨⟩⟩
 kernel_rfl
theorem AhD:AD (AB Tryz.f31 1) 2=[]:=by kernel_rfl
theorem AhF:Aa Tryz.prog 0 (.loop (AB Tryz.f31 1)) (M7.loop 1):=AT L3 (AOu) (AA AhD trivial)
theorem AOv:∀ v,GB v=roundOf Tryz.prog TR M7 1 0 63 (AB Tryz.f31 0) AKS AKQ v:=by
 rintro⟨a0,a1,a2,a3,a4,a5,a6,a7,a8,⟨⟩⟩
 kernel_rfl
theorem AhE:AD (AB Tryz.f31 0) 1=[]:=by kernel_rfl
theorem AhG:Aa Tryz.prog 0 (.loop (AB Tryz.f31 0)) (M7.loop 0):=AT L3 (AOv) (AA AhE trivial)
theorem Aau:∀ v,M8 v=AL 0 Tryz.prog TR M7 Tryz.f31 AFZ AFY AFX v:=by
 rintro⟨a0,a1,⟨⟩⟩
 kernel_rfl
theorem AmF:AD (AQ Tryz.f31) 0=[(0,AB Tryz.f31 0),(1,AB Tryz.f31 1)]:=by kernel_rfl
theorem AU3:AP Tryz.prog 31 (AF 0 2 AFZ AFY AFX Wt):=AH L3 Tryz.func31 (by kernel_rfl) (by kernel_rfl) rfl (fun v=>(Ws v).trans (Aau v)) (AA AmF ⟨AhG,AhF,trivial⟩)
def AG7:Env:=TR.ext 31 true true (AF 0 2 AFZ AFY AFX Wt)
theorem ZH:AX Tryz.prog AG7:=Env.AZ L3 AU3 (fun _=>AI rfl rfl) (fun _=>AG rfl rfl)
theorem Ah7:Tryz.f30.body.isSome=true:=by kernel_rfl
theorem Ah6 : (Tryz.f30.name == "runtime.NumGoroutine") = false := by kernel_rfl
theorem Ah5:loops (AQ Tryz.f30)=0:=by kernel_rfl
def JF:Env:=AG7.ext 30 false false (Cj Tryz.prog AG7 {} Tryz.f30)
theorem IQ:AX Tryz.prog JF:=Env.AZ ZH (CV ZH Tryz.func30 Ah7 Ah6 Ah5) (by simp) (by simp)
abbrev K0:Hints:={ loop:=fun n=>match n with|0=>Ab 1 19 O2 O1 Cb|_=>fun _ _ _=>none }
theorem WK:∀ v,Cb v=roundOf Tryz.prog JF K0 1 1 19 (AB Tryz.f56 0) O2 O1 v:=by
 rintro⟨a0,a1,a2,a3,a4,⟨⟩⟩
 kernel_rfl
theorem AHw:AD (AB Tryz.f56 0) 1=[]:=by kernel_rfl
theorem AHx:Aa Tryz.prog 1 (.loop (AB Tryz.f56 0)) (K0.loop 0):=AT IQ (WK) (AA AHw trivial)
theorem AET:∀ v,HD v=AL 1 Tryz.prog JF K0 Tryz.f56 Kz Ky Kx v:=by
 rintro⟨a0,a1,a2,⟨⟩⟩
 kernel_rfl
theorem ANx:AD (AQ Tryz.f56) 0=[(0,AB Tryz.f56 0)]:=by kernel_rfl
theorem ZY:AP Tryz.prog 56 (AF 1 2 Kz Ky Kx K1):=AH IQ Tryz.func56 (by kernel_rfl) (by kernel_rfl) rfl (fun v=>(O3 v).trans (AET v)) (AA ANx ⟨AHx,trivial⟩)
def Lt:Env:=JF.CD 56 1 30 (AF 1 2 Kz Ky Kx K1)
theorem MC:AX Tryz.prog Lt:=Env.Aw IQ ZY (AG rfl rfl)
abbrev AIK:Hints:={  }
theorem Zg:∀ v,Ga v=AL 1 Tryz.prog Lt AIK Tryz.f29 JR JQ JP v:=by
 rintro⟨a0,a1,a2,⟨⟩⟩
 kernel_rfl
theorem AIJ:AD (AQ Tryz.f29) 0=[]:=by kernel_rfl
theorem Wv:AP Tryz.prog 29 (AF 1 2 JR JQ JP Gp):=AH MC Tryz.func29 (by kernel_rfl) (by kernel_rfl) rfl (fun v=>(NF v).trans (Zg v)) (AA AIJ trivial)
def Jc:Env:=Lt.CD 29 1 30 (AF 1 2 JR JQ JP Gp)
theorem KQ:AX Tryz.prog Jc:=Env.Aw MC Wv (AG rfl rfl)
abbrev Amv:Hints:={ fp:=fun n=>match n with|16=>[[48],[48],[50],[0],[],[]]|_=>[] }
theorem Abj:∀ v,KK v=AL 0 Tryz.prog Jc Amv Tryz.f10 AGa AGZ AGY v:=by
 rintro⟨a0,a1,a2,⟨⟩⟩
 kernel_rfl
theorem Amu:AD (AQ Tryz.f10) 0=[]:=by kernel_rfl
theorem AV8:AP Tryz.prog 10 (AF 0 3 AGa AGZ AGY IE):=AH KQ Tryz.func10 (by kernel_rfl) (by kernel_rfl) rfl (fun v=>(OV v).trans (Abj v)) (AA Amu trivial)
def AHJ:Env:=Jc.ext 10 true true (AF 0 3 AGa AGZ AGY IE)
theorem ZM:AX Tryz.prog AHJ:=Env.AZ KQ AV8 (fun _=>AI rfl rfl) (fun _=>AG rfl rfl)
abbrev AeS:Hints:={  }
theorem ARN:∀ v,N0 v=AL 0 Tryz.prog AHJ AeS Tryz.f40 UA T9 T8 v:=by
 rintro⟨a0,⟨⟩⟩
 kernel_rfl
theorem AeR:AD (AQ Tryz.f40) 0=[]:=by kernel_rfl
theorem AMK:AP Tryz.prog 40 (AF 0 1 UA T9 T8 IY):=AH ZM Tryz.func40 (by kernel_rfl) (by kernel_rfl) rfl (fun v=>(ABc v).trans (ARN v)) (AA AeR trivial)
def KL:Env:=AHJ.ext 40 true true (AF 0 1 UA T9 T8 IY)
theorem HL:AX Tryz.prog KL:=Env.AZ ZM AMK (fun _=>AI rfl rfl) (fun _=>AG rfl rfl)
abbrev Jo:Hints:={ loop:=fun n=>match n with|0=>Ab 0 105 ACH ACF CG|1=>Ab 0 105 ACG ACE CF|_=>fun _ _ _=>none }
theorem AHV:∀ v,CF v=roundOf Tryz.prog KL Jo 2 0 105 (AB Tryz.f22 1) ACG ACE v:=by
 rintro⟨a0,a1,a2,a3,⟨⟩⟩
 kernel_rfl
theorem AXb:AD (AB Tryz.f22 1) 2=[]:=by kernel_rfl
theorem AXd:Aa Tryz.prog 0 (.loop (AB Tryz.f22 1)) (Jo.loop 1):=AT HL (AHV) (AA AXb trivial)
theorem AHW:∀ v,CG v=roundOf Tryz.prog KL Jo 1 0 105 (AB Tryz.f22 0) ACH ACF v:=by
 rintro⟨a0,a1,a2,a3,⟨⟩⟩
 kernel_rfl
theorem AXc:AD (AB Tryz.f22 0) 1=[]:=by kernel_rfl
theorem AXe:Aa Tryz.prog 0 (.loop (AB Tryz.f22 0)) (Jo.loop 0):=AT HL (AHW) (AA AXc trivial)
theorem ARy:∀ v,N4 v=AL 0 Tryz.prog KL Jo Tryz.f22 US UR UQ v:=by
 rintro⟨a0,⟨⟩⟩
 kernel_rfl
theorem Aer:AD (AQ Tryz.f22) 0=[(0,AB Tryz.f22 0),(1,AB Tryz.f22 1)]:=by kernel_rfl
theorem AMb:AP Tryz.prog 22 (AF 0 1 US UR UQ RP):=AH HL Tryz.func22 (by kernel_rfl) (by kernel_rfl) rfl (fun v=>(ACI v).trans (ARy v)) (AA Aer ⟨AXe,AXd,trivial⟩)
def Oc:Env:=KL.ext 22 true true (AF 0 1 US UR UQ RP)
theorem Lp:AX Tryz.prog Oc:=Env.AZ HL AMb (fun _=>AI rfl rfl) (fun _=>AG rfl rfl)
abbrev ABi:Hints:={ loop:=fun n=>match n with|0=>Ab 0 46 AJA AI9 UG|_=>fun _ _ _=>none,fp:=fun n=>match n with|6=>[[0],[0],[],[],[],[2],[2],[],[],[],[]]|_=>[] }
theorem AMP:∀ v,UG v=roundOf Tryz.prog Oc ABi 1 0 46 (AB Tryz.f12 0) AJA AI9 v:=by
 rintro⟨a0,a1,a2,a3,a4,a5,a6,⟨⟩⟩
 kernel_rfl
theorem AeZ:AD (AB Tryz.f12 0) 1=[]:=by kernel_rfl
theorem Aea:Aa Tryz.prog 0 (.loop (AB Tryz.f12 0)) (ABi.loop 0):=AT Lp (AMP) (AA AeZ trivial)
theorem AXN:∀ v,ABj v=AL 0 Tryz.prog Oc ABi Tryz.f12 ABh ABg ABf v:=by
 rintro⟨a0,a1,⟨⟩⟩
 kernel_rfl
theorem AjA:AD (AQ Tryz.f12) 0=[(0,AB Tryz.f12 0)]:=by kernel_rfl
theorem ART:AP Tryz.prog 12 (AF 0 2 ABh ABg ABf ABk):=AH Lp Tryz.func12 (by kernel_rfl) (by kernel_rfl) rfl (fun v=>(Aeb v).trans (AXN v)) (AA AjA ⟨Aea,trivial⟩)
def AGo:Env:=Oc.ext 12 true true (AF 0 2 ABh ABg ABf ABk)
theorem Y7:AX Tryz.prog AGo:=Env.AZ Lp ART (fun _=>AI rfl rfl) (fun _=>AG rfl rfl)
end
end Go.Pev
end
section
namespace Go.Pev
open Go.Proofs
noncomputable section
abbrev Ah4:Hints:={  }
theorem AV5:∀ v,XJ v=AL 0 Tryz.prog AGo Ah4 Tryz.f8 XI XH XG v:=by
 rintro⟨⟨⟩⟩
 kernel_rfl
theorem Ah3:AD (AQ Tryz.f8) 0=[]:=by kernel_rfl
theorem APt:AP Tryz.prog 8 (AF 0 0 XI XH XG Iz):=AH Y7 Tryz.func8 (by kernel_rfl) (by kernel_rfl) rfl (fun v=>(Abi v).trans (AV5 v)) (AA Ah3 trivial)
def KU:Env:=AGo.ext 8 true true (AF 0 0 XI XH XG Iz)
theorem HQ:AX Tryz.prog KU:=Env.AZ Y7 APt (fun _=>AI rfl rfl) (fun _=>AG rfl rfl)
abbrev H3:Hints:={ loop:=fun n=>match n with|0=>Ab 0 40 Yi Yg DV|1=>Ab 0 40 Yh Yf DU|_=>fun _ _ _=>none }
theorem AEr:∀ v,DU v=roundOf Tryz.prog KU H3 2 0 40 (AB Tryz.f24 1) Yh Yf v:=by
 rintro⟨a0,a1,a2,a3,a4,a5,a6,⟨⟩⟩
 kernel_rfl
theorem AUZ:AD (AB Tryz.f24 1) 2=[]:=by kernel_rfl
theorem AUb:Aa Tryz.prog 0 (.loop (AB Tryz.f24 1)) (H3.loop 1):=AT HQ (AEr) (AA AUZ trivial)
theorem AEs:∀ v,DV v=roundOf Tryz.prog KU H3 1 0 40 (AB Tryz.f24 0) Yi Yg v:=by
 rintro⟨a0,a1,a2,a3,a4,a5,⟨⟩⟩
 kernel_rfl
theorem AUa:AD (AB Tryz.f24 0) 1=[(1,AB Tryz.f24 1)]:=by kernel_rfl
theorem AUc:Aa Tryz.prog 0 (.loop (AB Tryz.f24 0)) (H3.loop 0):=AT HQ (AEs) (AA AUa ⟨AUb,trivial⟩)
theorem AOR:∀ v,LO v=AL 0 Tryz.prog KU H3 Tryz.f24 QO QN QM v:=by
 rintro⟨a0,a1,⟨⟩⟩
 kernel_rfl
theorem AaN:AD (AQ Tryz.f24) 0=[(0,AB Tryz.f24 0)]:=by kernel_rfl
theorem AH7:AP Tryz.prog 24 (AF 0 2 QO QN QM M3):=AH HQ Tryz.func24 (by kernel_rfl) (by kernel_rfl) rfl (fun v=>(Yj v).trans (AOR v)) (AA AaN ⟨AUc,trivial⟩)
def AG4:Env:=KU.ext 24 true true (AF 0 2 QO QN QM M3)
theorem AIi:AX Tryz.prog AG4:=Env.AZ HQ AH7 (fun _=>AI rfl rfl) (fun _=>AG rfl rfl)
abbrev AV7:Hints:={ fp:=fun n=>match n with|15=>[[],[],[],[30],[30],[],[22,40],[],[],[18],[10],[18],[18],[10],[],[],[],[]]|_=>[] }
theorem AIg:∀ v,I1 v=AL 0 Tryz.prog AG4 AV7 Tryz.f6 NU NT NS v:=by
 rintro⟨a0,a1,⟨⟩⟩
 kernel_rfl
theorem AV6:AD (AQ Tryz.f6) 0=[]:=by kernel_rfl
theorem AGX:AP Tryz.prog 6 (AF 0 2 NU NT NS HX):=AH AIi Tryz.func6 (by kernel_rfl) (by kernel_rfl) rfl (fun v=>(Sm v).trans (AIg v)) (AA AV6 trivial)
end
end Go.Pev
end
section

end
