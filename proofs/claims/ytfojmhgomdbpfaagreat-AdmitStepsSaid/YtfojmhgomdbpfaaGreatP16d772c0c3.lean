/- A part of the proofs of this seat: G26cP11 G26cP12 G26cP13 G26cP14 G26cP. -/
import Derived.Test.YtfojmhgomdbpfaaGreatPd27109f36c
set_option linter.unusedVariables false
set_option linter.unusedSimpArgs false
set_option linter.unusedSectionVars false
set_option maxRecDepth 100000
section
namespace Go.Pev
open Go.Proofs
noncomputable section
abbrev AfP:Hints:={ fp:=fun n=>match n with|11=>[[0],[0],[],[12],[12],[],[],[],[],[12],[12],[],[],[],[31,38],[0],[1]]|10=>[[12],[12],[12],[],[],[],[]]|6=>[[12],[],[0],[0],[],[],[12],[12],[],[],[]]|_=>[] }
theorem AT2:∀ v,QV v=AK 0 Tryz.prog AN0 AfP Tryz.f206 Z0 Zz Zy v:=by
 rintro⟨a0,a1,⟨⟩⟩
 kernel_rfl
theorem AfO:AD (AQ Tryz.f206) 0=[]:=by kernel_rfl
theorem AOd:AO Tryz.prog 206 (AF 0 2 Z0 Zz Zy Z1):=AH AFT Tryz.func206 (by kernel_rfl) (by kernel_rfl) rfl (fun v=>(AG3 v).trans (AT2 v)) (AA AfO trivial)
def R1:Env:=AN0.ext 206 true true (AF 0 2 Z0 Zz Zy Z1)
theorem Mv:AY Tryz.prog R1:=Env.AZ AFT AOd (fun _=>AI rfl rfl) (fun _=>AG rfl rfl)
abbrev Ow:Hints:={ loop:=fun n=>match n with|0=>Ac 1 32 Wp Wo DG|_=>fun _ _ _=>none }
theorem Z3:∀ v,DG v=roundOf Tryz.prog R1 Ow 1 1 32 (AB Tryz.f213 0) Wp Wo v:=by
 rintro⟨a0,a1,⟨⟩⟩
 kernel_rfl
theorem AOf:AD (AB Tryz.f213 0) 1=[]:=by kernel_rfl
theorem AOg:Ab Tryz.prog 1 (.loop (AB Tryz.f213 0)) (Ow.loop 0):=AU Mv (Z3) (AA AOf trivial)
theorem AJr:∀ v,J7 v=AK 1 Tryz.prog R1 Ow Tryz.f213 Ov Ou Ot v:=by
 rintro⟨a0,a1,⟨⟩⟩
 kernel_rfl
theorem AT3:AD (AQ Tryz.f213) 0=[(0,AB Tryz.f213 0)]:=by kernel_rfl
theorem AFe:AO Tryz.prog 213 (AF 1 2 Ov Ou Ot Lt):=AH Mv Tryz.func213 (by kernel_rfl) (by kernel_rfl) rfl (fun v=>(Wq v).trans (AJr v)) (AA AT3 ⟨AOg,trivial⟩)
def LC:Env:=R1.ext 213 false true (AF 1 2 Ov Ou Ot Lt)
theorem JA:AY Tryz.prog LC:=Env.AZ Mv AFe ((by simp)) (fun _=>AG rfl rfl)
abbrev AT8:Hints:={ loop:=fun n=>match n with|0=>Ac 0 67 AYy AYx J8|_=>fun _ _ _=>none,fp:=fun n=>match n with|12=>[[0],[0],[0],[8],[8],[1000005,3],[7],[],[]]|7=>[[0],[0],[],[0],[0],[],[0],[1],[0],[1]]|5=>[[12],[],[0],[0],[],[],[12],[12],[],[],[],[0],[0],[12],[12],[],[],[]]|_=>[] }
theorem AT4:∀ v,J8 v=roundOf Tryz.prog LC AT8 1 0 67 (AB Tryz.f208 0) AYy AYx v:=by
 rintro⟨a0,a1,a2,a3,a4,a5,a6,a7,a8,⟨⟩⟩
 kernel_rfl
theorem Aj3:AD (AB Tryz.f208 0) 1=[]:=by kernel_rfl
theorem Aj4:Ab Tryz.prog 0 (.loop (AB Tryz.f208 0)) (AT8.loop 0):=AU JA (AT4) (AA Aj3 trivial)
theorem AfR:∀ v,AJs v=AK 0 Tryz.prog LC AT8 Tryz.f208 AT7 AT6 AT5 v:=by
 rintro⟨a0,a1,⟨⟩⟩
 kernel_rfl
theorem AmT:AD (AQ Tryz.f208) 0=[(0,AB Tryz.f208 0)]:=by kernel_rfl
theorem Aa6:AO Tryz.prog 208 (AF 0 2 AT7 AT6 AT5 AfS):=AH JA Tryz.func208 (by kernel_rfl) (by kernel_rfl) rfl (fun v=>(AYz v).trans (AfR v)) (AA AmT ⟨Aj4,trivial⟩)
def AYg:Env:=LC.ext 208 true true (AF 0 2 AT7 AT6 AT5 AfS)
theorem AI1:AY Tryz.prog AYg:=Env.AZ JA Aa6 (fun _=>AI rfl rfl) (fun _=>AG rfl rfl)
abbrev AYM:Hints:={  }
theorem ANG:∀ v,K4 v=AK 0 Tryz.prog AYg AYM Tryz.f203 P2 P1 Pz v:=by
 rintro⟨a0,⟨⟩⟩
 kernel_rfl
theorem AYL:AD (AQ Tryz.f203) 0=[]:=by kernel_rfl
theorem AGi:AO Tryz.prog 203 (AF 0 1 P2 P1 Pz Jq):=AH AI1 Tryz.func203 (by kernel_rfl) (by kernel_rfl) rfl (fun v=>(Xk v).trans (ANG v)) (AA AYL trivial)
def QJ:Env:=AYg.ext 203 true true (AF 0 1 P2 P1 Pz Jq)
theorem Oj:AY Tryz.prog QJ:=Env.AZ AI1 AGi (fun _=>AI rfl rfl) (fun _=>AG rfl rfl)
abbrev AjA:Hints:={ fp:=fun n=>match n with|1=>[[],[],[],[],[0],[0],[],[],[],[],[0],[0],[],[],[],[],[],[],[],[0],[],[],[],[0],[0],[0],[0],[],[],[],[],[],[],[],[],[],[]]|_=>[] }
theorem AYH:∀ v,Rj v=AK 0 Tryz.prog QJ AjA Tryz.f204 AEK AEJ AEI v:=by
 rintro⟨a0,a1,⟨⟩⟩
 kernel_rfl
theorem Ai9:AD (AQ Tryz.f204) 0=[]:=by kernel_rfl
theorem ASn:AO Tryz.prog 204 (AF 0 2 AEK AEJ AEI AEL):=AH Oj Tryz.func204 (by kernel_rfl) (by kernel_rfl) rfl (fun v=>(AIi v).trans (AYH v)) (AA Ai9 trivial)
def NA:Env:=QJ.ext 204 true true (AF 0 2 AEK AEJ AEI AEL)
theorem Ip:AY Tryz.prog NA:=Env.AZ Oj ASn (fun _=>AI rfl rfl) (fun _=>AG rfl rfl)
abbrev Ma:Hints:={ loop:=fun n=>match n with|0=>Ac 0 67 AIe AIc Fw|1=>Ac 0 67 AId AIb EZ|_=>fun _ _ _=>none }
theorem AMt:∀ v,EZ v=roundOf Tryz.prog NA Ma 2 0 67 (AB Tryz.f197 1) AId AIb v:=by
 rintro⟨a0,a1,a2,a3,a4,a5,a6,a7,a8,a9,a10,a11,a12,a13,⟨⟩⟩
 kernel_rfl
theorem AeE:AD (AB Tryz.f197 1) 2=[]:=by kernel_rfl
theorem AeG:Ab Tryz.prog 0 (.loop (AB Tryz.f197 1)) (Ma.loop 1):=AU Ip (AMt) (AA AeE trivial)
theorem AMu:∀ v,Fw v=roundOf Tryz.prog NA Ma 1 0 67 (AB Tryz.f197 0) AIe AIc v:=by
 rintro⟨a0,a1,a2,a3,a4,a5,a6,a7,a8,a9,a10,⟨⟩⟩
 kernel_rfl
theorem AeF:AD (AB Tryz.f197 0) 1=[(1,AB Tryz.f197 1)]:=by kernel_rfl
theorem AeH:Ab Tryz.prog 0 (.loop (AB Tryz.f197 0)) (Ma.loop 0):=AU Ip (AMu) (AA AeF ⟨AeG,trivial⟩)
theorem AXz:∀ v,Re v=AK 0 Tryz.prog NA Ma Tryz.f197 AD0 ADz ADy v:=by
 rintro⟨a0,⟨⟩⟩
 kernel_rfl
theorem Ai2:AD (AQ Tryz.f197) 0=[(0,AB Tryz.f197 0)]:=by kernel_rfl
theorem ASV:AO Tryz.prog 197 (AF 0 1 AD0 ADz ADy AD1):=AH Ip Tryz.func197 (by kernel_rfl) (by kernel_rfl) rfl (fun v=>(AIf v).trans (AXz v)) (AA Ai2 ⟨AeH,trivial⟩)
def AFS:Env:=NA.ext 197 true true (AF 0 1 AD0 ADz ADy AD1)
theorem X6:AY Tryz.prog AFS:=Env.AZ Ip ASV (fun _=>AI rfl rfl) (fun _=>AG rfl rfl)
abbrev AjN:Hints:={  }
def ASx:Env:={ AFS with keep:=true }
theorem ASw:AY Tryz.prog ASx:=X6
theorem AYO:∀ v,Rl v=AK 0 Tryz.prog ASx AjN Tryz.f173 AET AES AER v:=by
 rintro⟨a0,a1,a2,⟨⟩⟩
 kernel_rfl
theorem AjM:AD (AQ Tryz.f173) 0=[]:=by kernel_rfl
theorem ASv:AO Tryz.prog 173 (AF 0 3 AET AES AER AEU):=AH ASw Tryz.func173 (by kernel_rfl) (by kernel_rfl) rfl (fun v=>(AIk v).trans (AYO v)) (AA AjM trivial)
def Sg:Env:=AFS.ext 173 true true (AF 0 3 AET AES AER AEU)
theorem NB:AY Tryz.prog Sg:=Env.AZ X6 ASv (fun _=>AI rfl rfl) (fun _=>AG rfl rfl)
abbrev ANC:Hints:={ loop:=fun n=>match n with|0=>Ac 0 18 ASq ASp Hq|_=>fun _ _ _=>none }
theorem ASo:∀ v,Hq v=roundOf Tryz.prog Sg ANC 1 0 18 (AB Tryz.f191 0) ASq ASp v:=by
 rintro⟨a0,a1,a2,a3,⟨⟩⟩
 kernel_rfl
theorem AjB:AD (AB Tryz.f191 0) 1=[]:=by kernel_rfl
theorem AjC:Ab Tryz.prog 0 (.loop (AB Tryz.f191 0)) (ANC.loop 0):=AU NB (ASo) (AA AjB trivial)
theorem AeX:∀ v,Y4 v=AK 0 Tryz.prog Sg ANC Tryz.f191 ANB ANA AM9 v:=by
 rintro⟨a0,⟨⟩⟩
 kernel_rfl
theorem Als:AD (AQ Tryz.f191) 0=[(0,AB Tryz.f191 0)]:=by kernel_rfl
theorem AYI:AO Tryz.prog 191 (AF 0 1 ANB ANA AM9 ASs):=AH NB Tryz.func191 (by kernel_rfl) (by kernel_rfl) rfl (fun v=>(ASr v).trans (AeX v)) (AA Als ⟨AjC,trivial⟩)
def AN1:Env:=Sg.ext 191 true true (AF 0 1 ANB ANA AM9 ASs)
theorem AFU:AY Tryz.prog AN1:=Env.AZ NB AYI (fun _=>AI rfl rfl) (fun _=>AG rfl rfl)
abbrev AeN:Hints:={  }
theorem ASe:∀ v,No v=AK 2 Tryz.prog AN1 AeN Tryz.f199 VY VX VW v:=by
 rintro⟨a0,a1,a2,a3,a4,a5,a6,a7,a8,a9,a10,a11,⟨⟩⟩
 kernel_rfl
theorem AeM:AD (AQ Tryz.f199) 0=[]:=by kernel_rfl
theorem AM0:AO Tryz.prog 199 (AF 2 2 VY VX VW Np):=AH AFU Tryz.func199 (by kernel_rfl) (by kernel_rfl) rfl (fun v=>(AEC v).trans (ASe v)) (AA AeM trivial)
def Wg:Env:=AN1.ext 199 false true (AF 2 2 VY VX VW Np)
theorem Sf:AY Tryz.prog Wg:=Env.AZ AFU AM0 ((by simp)) (fun _=>AG rfl rfl)
abbrev AjJ:Hints:={ fp:=fun n=>match n with|9=>[[],[0],[0],[0],[0],[],[],[],[2],[3]]|6=>[[],[0],[0],[0],[0],[],[],[],[],[],[2],[3]]|1=>[[],[0],[0],[0],[0],[],[2],[2],[],[0],[0],[0],[0],[],[2],[2],[],[]]|_=>[] }
theorem AYK:∀ v,Rk v=AK 2 Tryz.prog Wg AjJ Tryz.f200 AEO AEN AEM v:=by
 rintro⟨a0,a1,a2,a3,a4,a5,a6,a7,a8,a9,a10,a11,a12,⟨⟩⟩
 kernel_rfl
theorem AjI:AD (AQ Tryz.f200) 0=[]:=by kernel_rfl
theorem ASu:AO Tryz.prog 200 (AF 2 3 AEO AEN AEM AEP):=AH Sf Tryz.func200 (by kernel_rfl) (by kernel_rfl) rfl (fun v=>(AIj v).trans (AYK v)) (AA AjI trivial)
def AFV:Env:=Wg.ext 200 false true (AF 2 3 AEO AEN AEM AEP)
theorem X7:AY Tryz.prog AFV:=Env.AZ Sf ASu ((by simp)) (fun _=>AG rfl rfl)
abbrev Ana:Hints:={ fp:=fun n=>match n with|9=>[[],[],[0],[0],[0],[0],[],[0],[0],[0],[0],[],[],[],[],[],[0],[0],[0],[1],[],[]]|6=>[[],[0],[0],[0],[0],[],[],[0],[0],[0],[0],[],[2],[2],[],[],[],[],[28],[2],[3,30]]|3=>[[],[],[0],[0],[0],[0],[],[0],[0],[0],[0],[],[],[],[],[],[],[0],[0],[0],[1],[],[],[]]|1=>[[],[0],[0],[0],[0],[],[0],[0],[0],[0],[]]|_=>[] }
theorem Alv:∀ v,AaJ v=AK 2 Tryz.prog AFV Ana Tryz.f201 AjG AjF AjE v:=by
 rintro⟨a0,a1,a2,a3,a4,a5,a6,a7,a8,a9,a10,a11,⟨⟩⟩
 kernel_rfl
theorem AnZ:AD (AQ Tryz.f201) 0=[]:=by kernel_rfl
theorem AjD:AO Tryz.prog 201 (AF 2 2 AjG AjF AjE cgo):=AH X7 Tryz.func201 (by kernel_rfl) (by kernel_rfl) rfl (fun v=>(AjH v).trans (Alv v)) (AA AnZ trivial)
def Ajk:Env:=AFV.ext 201 false true (AF 2 2 AjG AjF AjE cgo)
theorem ATc:AY Tryz.prog Ajk:=Env.AZ X7 AjD ((by simp)) (fun _=>AG rfl rfl)
abbrev Alm:Hints:={ fp:=fun n=>match n with|18=>[[],[14],[14],[14],[],[14],[14],[14],[3],[5],[]]|14=>[[],[14],[14],[14],[],[14],[14],[14],[3],[5],[]]|_=>[] }
theorem AeD:∀ v,Y3 v=AK 0 Tryz.prog Ajk Alm Tryz.f190 AMr AMq AMp v:=by
 rintro⟨a0,a1,a2,⟨⟩⟩
 kernel_rfl
theorem All:AD (AQ Tryz.f190) 0=[]:=by kernel_rfl
theorem AXx:AO Tryz.prog 190 (AF 0 3 AMr AMq AMp ASS):=AH ATc Tryz.func190 (by kernel_rfl) (by kernel_rfl) rfl (fun v=>(ASR v).trans (AeD v)) (AA All trivial)
def ANy:Env:=Ajk.ext 190 true true (AF 0 3 AMr AMq AMp ASS)
theorem AFR:AY Tryz.prog ANy:=Env.AZ ATc AXx (fun _=>AI rfl rfl) (fun _=>AG rfl rfl)
end
end Go.Pev
end
section
namespace Go.Pev
open Go.Proofs
noncomputable section
abbrev Alc:Hints:={ fp:=fun n=>match n with|3=>[[],[],[12],[],[0],[0],[0],[14],[],[3,16],[0],[0],[1],[0],[0],[1]]|_=>[] }
theorem Adt:∀ v,Y0 v=AK 1 Tryz.prog ANy Alc Tryz.f174 AMV AMU AMT v:=by
 rintro⟨a0,a1,a2,a3,a4,a5,a6,a7,a8,a9,⟨⟩⟩
 kernel_rfl
theorem Alb:AD (AQ Tryz.f174) 0=[]:=by kernel_rfl
theorem AXX:AO Tryz.prog 174 (AF 1 3 AMV AMU AMT AIT):=AH AFR Tryz.func174 (by kernel_rfl) (by kernel_rfl) rfl (fun v=>(ASB v).trans (Adt v)) (AA Alb trivial)
def SZ:Env:=ANy.ext 174 false true (AF 1 3 AMV AMU AMT AIT)
theorem LR:AY Tryz.prog SZ:=Env.AZ AFR AXX ((by simp)) (fun _=>AG rfl rfl)
abbrev Jm:Hints:={ loop:=fun n=>match n with|0=>Ac 1 41 ADe ADc Cv|1=>Ac 1 41 ADd ADb CH|_=>fun _ _ _=>none }
theorem AGL:∀ v,CH v=roundOf Tryz.prog SZ Jm 2 1 41 (AB Tryz.f175 1) ADd ADb v:=by
 rintro⟨a0,a1,a2,a3,a4,a5,a6,a7,a8,a9,a10,⟨⟩⟩
 kernel_rfl
theorem AXY:AD (AB Tryz.f175 1) 2=[]:=by kernel_rfl
theorem AXa:Ab Tryz.prog 1 (.loop (AB Tryz.f175 1)) (Jm.loop 1):=AU LR (AGL) (AA AXY trivial)
theorem AGM:∀ v,Cv v=roundOf Tryz.prog SZ Jm 1 1 41 (AB Tryz.f175 0) ADe ADc v:=by
 rintro⟨a0,a1,a2,a3,a4,a5,a6,a7,a8,⟨⟩⟩
 kernel_rfl
theorem AXZ:AD (AB Tryz.f175 0) 1=[(1,AB Tryz.f175 1)]:=by kernel_rfl
theorem AXb:Ab Tryz.prog 1 (.loop (AB Tryz.f175 0)) (Jm.loop 0):=AU LR (AGM) (AA AXZ ⟨AXa,trivial⟩)
theorem ASD:∀ v,Nj v=AK 1 Tryz.prog SZ Jm Tryz.f175 UZ UY UX v:=by
 rintro⟨a0,a1,a2,a3,a4,a5,a6,a7,⟨⟩⟩
 kernel_rfl
theorem Adu:AD (AQ Tryz.f175) 0=[(0,AB Tryz.f175 0)]:=by kernel_rfl
theorem AMW:AO Tryz.prog 175 (AF 1 1 UZ UY UX RY):=AH LR Tryz.func175 (by kernel_rfl) (by kernel_rfl) rfl (fun v=>(ADf v).trans (ASD v)) (AA Adu ⟨AXb,trivial⟩)
def N1:Env:=SZ.ext 175 false true (AF 1 1 UZ UY UX RY)
theorem LS:AY Tryz.prog N1:=Env.AZ LR AMW ((by simp)) (fun _=>AG rfl rfl)
abbrev ADZ:Hints:={ loop:=fun n=>match n with|0=>Ac 0 71 AIQ AIP EX|_=>fun _ _ _=>none,fp:=fun n=>match n with|11=>[[],[2],[2],[2],[],[2],[2],[2],[],[1],[],[]]|14=>[[],[2],[2],[2],[],[2],[2],[2],[],[1],[],[]]|_=>[] }
theorem AMS:∀ v,EX v=roundOf Tryz.prog N1 ADZ 1 0 71 (AB Tryz.f155 0) AIQ AIP v:=by
 rintro⟨a0,a1,a2,a3,a4,a5,a6,a7,a8,a9,a10,a11,a12,a13,a14,⟨⟩⟩
 kernel_rfl
theorem Adr:AD (AB Tryz.f155 0) 1=[]:=by kernel_rfl
theorem Ads:Ab Tryz.prog 0 (.loop (AB Tryz.f155 0)) (ADZ.loop 0):=AU LS (AMS) (AA Adr trivial)
theorem AXW:∀ v,RX v=AK 0 Tryz.prog N1 ADZ Tryz.f155 ADY ADX ADW v:=by
 rintro⟨a0,a1,a2,a3,⟨⟩⟩
 kernel_rfl
theorem Air:AD (AQ Tryz.f155) 0=[(0,AB Tryz.f155 0)]:=by kernel_rfl
theorem ASA:AO Tryz.prog 155 (AF 0 4 ADY ADX ADW ADa):=AH LS Tryz.func155 (by kernel_rfl) (by kernel_rfl) rfl (fun v=>(AIR v).trans (AXW v)) (AA Air ⟨Ads,trivial⟩)
def SY:Env:=N1.ext 155 true true (AF 0 4 ADY ADX ADW ADa)
theorem M9:AY Tryz.prog SY:=Env.AZ LS ASA (fun _=>AI rfl rfl) (fun _=>AG rfl rfl)
abbrev VD:Hints:={ loop:=fun n=>match n with|0=>Ac 0 48 ADk ADj EF|_=>fun _ _ _=>none }
theorem AGN:∀ v,EF v=roundOf Tryz.prog SY VD 1 0 48 (AB Tryz.f156 0) ADk ADj v:=by
 rintro⟨a0,a1,a2,a3,a4,a5,a6,a7,a8,a9,a10,⟨⟩⟩
 kernel_rfl
theorem AXf:AD (AB Tryz.f156 0) 1=[]:=by kernel_rfl
theorem AXg:Ab Tryz.prog 0 (.loop (AB Tryz.f156 0)) (VD.loop 0):=AU M9 (AGN) (AA AXf trivial)
theorem ASH:∀ v,Nk v=AK 0 Tryz.prog SY VD Tryz.f156 VC VB VA v:=by
 rintro⟨a0,a1,⟨⟩⟩
 kernel_rfl
theorem Ady:AD (AQ Tryz.f156) 0=[(0,AB Tryz.f156 0)]:=by kernel_rfl
theorem AMa:AO Tryz.prog 156 (AF 0 2 VC VB VA Ra):=AH M9 Tryz.func156 (by kernel_rfl) (by kernel_rfl) rfl (fun v=>(ADl v).trans (ASH v)) (AA Ady ⟨AXg,trivial⟩)
def Wc:Env:=SY.ext 156 true true (AF 0 2 VC VB VA Ra)
theorem Sb:AY Tryz.prog Wc:=Env.AZ M9 AMa (fun _=>AI rfl rfl) (fun _=>AG rfl rfl)
abbrev AiW:Hints:={  }
theorem AXD:∀ v,RO v=AK 0 Tryz.prog Wc AiW Tryz.f154 AC7 AC6 AC5 v:=by
 rintro⟨a0,⟨⟩⟩
 kernel_rfl
theorem AiV:AD (AQ Tryz.f154) 0=[]:=by kernel_rfl
theorem ARr:AO Tryz.prog 154 (AF 0 1 AC7 AC6 AC5 AC8):=AH Sb Tryz.func154 (by kernel_rfl) (by kernel_rfl) rfl (fun v=>(AIB v).trans (AXD v)) (AA AiV trivial)
def M7:Env:=Wc.ext 154 true true (AF 0 1 AC7 AC6 AC5 AC8)
theorem Im:AY Tryz.prog M7:=Env.AZ Sb ARr (fun _=>AI rfl rfl) (fun _=>AG rfl rfl)
abbrev MU:Hints:={ loop:=fun n=>match n with|0=>Ac 0 70 AIF AID Fp|1=>Ac 0 70 AIE AIC Fm|_=>fun _ _ _=>none }
theorem AMD:∀ v,Fm v=roundOf Tryz.prog M7 MU 2 0 70 (AB Tryz.f139 1) AIE AIC v:=by
 rintro⟨a0,a1,a2,a3,a4,a5,a6,a7,a8,⟨⟩⟩
 kernel_rfl
theorem AdV:AD (AB Tryz.f139 1) 2=[]:=by kernel_rfl
theorem AdX:Ab Tryz.prog 0 (.loop (AB Tryz.f139 1)) (MU.loop 1):=AU Im (AMD) (AA AdV trivial)
theorem AME:∀ v,Fp v=roundOf Tryz.prog M7 MU 1 0 70 (AB Tryz.f139 0) AIF AID v:=by
 rintro⟨a0,a1,a2,a3,a4,⟨⟩⟩
 kernel_rfl
theorem AdW:AD (AB Tryz.f139 0) 1=[(1,AB Tryz.f139 1)]:=by kernel_rfl
theorem AdY:Ab Tryz.prog 0 (.loop (AB Tryz.f139 0)) (MU.loop 0):=AU Im (AME) (AA AdW ⟨AdX,trivial⟩)
theorem AXG:∀ v,Jh v=AK 0 Tryz.prog M7 MU Tryz.f139 ADC ADB ADA v:=by
 rintro⟨a0,a1,⟨⟩⟩
 kernel_rfl
theorem AiX:AD (AQ Tryz.f139) 0=[(0,AB Tryz.f139 0)]:=by kernel_rfl
theorem ARt:AO Tryz.prog 139 (AF 0 2 ADC ADB ADA CM):=AH Im Tryz.func139 (by kernel_rfl) (by kernel_rfl) rfl (fun v=>(Nh v).trans (AXG v)) (AA AiX ⟨AdY,trivial⟩)
def AFL:Env:=M7.ext 139 true true (AF 0 2 ADC ADB ADA CM)
theorem X2:AY Tryz.prog AFL:=Env.AZ Im ARt (fun _=>AI rfl rfl) (fun _=>AG rfl rfl)
abbrev Afi:Hints:={  }
theorem AUK:∀ v,Qa v=AK 0 Tryz.prog AFL Afi Tryz.f149 AAD AAC AAB v:=by
 rintro⟨a0,⟨⟩⟩
 kernel_rfl
theorem Afh:AD (AQ Tryz.f149) 0=[]:=by kernel_rfl
theorem AOm:AO Tryz.prog 149 (AF 0 1 AAD AAC AAB TD):=AH X2 Tryz.func149 (by kernel_rfl) (by kernel_rfl) rfl (fun v=>(AG8 v).trans (AUK v)) (AA Afh trivial)
def AE6:Env:=AFL.ext 149 true true (AF 0 1 AAD AAC AAB TD)
theorem Xt:AY Tryz.prog AE6:=Env.AZ X2 AOm (fun _=>AI rfl rfl) (fun _=>AG rfl rfl)
abbrev AbR:Hints:={  }
theorem AO5:∀ v,NP v=AK 0 Tryz.prog AE6 AbR Tryz.f150 TM TL TK v:=by
 rintro⟨a0,a1,⟨⟩⟩
 kernel_rfl
theorem AbQ:AD (AQ Tryz.f150) 0=[]:=by kernel_rfl
theorem AKP:AO Tryz.prog 150 (AF 0 2 TM TL TK Qe):=AH Xt Tryz.func150 (by kernel_rfl) (by kernel_rfl) rfl (fun v=>(AAL v).trans (AO5 v)) (AA AbQ trivial)
def WL:Env:=AE6.ext 150 true true (AF 0 2 TM TL TK Qe)
theorem R8:AY Tryz.prog WL:=Env.AZ Xt AKP (fun _=>AI rfl rfl) (fun _=>AG rfl rfl)
abbrev AkA:Hints:={  }
theorem AbG:∀ v,Yk v=AK 0 Tryz.prog WL AkA Tryz.f152 AJ4 AJ3 AJ2 v:=by
 rintro⟨a0,a1,a2,⟨⟩⟩
 kernel_rfl
theorem Aj9:AD (AQ Tryz.f152) 0=[]:=by kernel_rfl
theorem AUR:AO Tryz.prog 152 (AF 0 3 AJ4 AJ3 AJ2 AHA):=AH R8 Tryz.func152 (by kernel_rfl) (by kernel_rfl) rfl (fun v=>(AOo v).trans (AbG v)) (AA Aj9 trivial)
def ANo:Env:=WL.ext 152 true true (AF 0 3 AJ4 AJ3 AJ2 AHA)
theorem AE7:AY Tryz.prog ANo:=Env.AZ R8 AUR (fun _=>AI rfl rfl) (fun _=>AG rfl rfl)
theorem Afg:Tryz.f137.body.isSome=true:=by kernel_rfl
theorem Aff : (Tryz.f137.name == "runtime.NumGoroutine") = false := by kernel_rfl
theorem Afe:loops (AQ Tryz.f137)=0:=by kernel_rfl
def LF:Env:=ANo.ext 137 false false (Ck Tryz.prog ANo {} Tryz.f137)
theorem JC:AY Tryz.prog LF:=Env.AZ AE7 (CW AE7 Tryz.func137 Afg Aff Afe) (by simp) (by simp)
abbrev AAZ:Hints:={ loop:=fun n=>match n with|0=>Ac 0 31 AHL AHK FK|_=>fun _ _ _=>none }
theorem AKS:∀ v,FK v=roundOf Tryz.prog LF AAZ 1 0 31 (AB Tryz.f151 0) AHL AHK v:=by
 rintro⟨a0,a1,a2,a3,a4,⟨⟩⟩
 kernel_rfl
theorem AbW:AD (AB Tryz.f151 0) 1=[]:=by kernel_rfl
theorem AbX:Ab Tryz.prog 0 (.loop (AB Tryz.f151 0)) (AAZ.loop 0):=AU JC (AKS) (AA AbW trivial)
theorem AUd:∀ v,Qh v=AK 0 Tryz.prog LF AAZ Tryz.f151 AAY AAX AAW v:=by
 rintro⟨a0,⟨⟩⟩
 kernel_rfl
theorem Afz:AD (AQ Tryz.f151) 0=[(0,AB Tryz.f151 0)]:=by kernel_rfl
theorem APA:AO Tryz.prog 151 (AF 0 2 AAY AAX AAW O6):=AH JC Tryz.func151 (by kernel_rfl) (by kernel_rfl) rfl (fun v=>(AHM v).trans (AUd v)) (AA Afz ⟨AbX,trivial⟩)
def Jv:Env:=LF.CD 151 1 137 (AF 0 2 AAY AAX AAW O6)
theorem Gh:AY Tryz.prog Jv:=Env.Aw JC APA (AG rfl rfl)
abbrev FH:Hints:={ loop:=fun n=>match n with|0=>Ac 0 118 AAJ AAG D9|1=>Ac 0 118 AAI AAF D8|2=>Ac 0 118 AAH AAE D7|_=>fun _ _ _=>none }
theorem AFh:∀ v,D7 v=roundOf Tryz.prog Jv FH 3 0 118 (AB Tryz.f136 2) AAH AAE v:=by
 rintro⟨a0,a1,a2,a3,a4,a5,a6,a7,a8,a9,a10,a11,a12,⟨⟩⟩
 kernel_rfl
theorem AUL:AD (AB Tryz.f136 2) 3=[]:=by kernel_rfl
theorem AUO:Ab Tryz.prog 0 (.loop (AB Tryz.f136 2)) (FH.loop 2):=AU Gh (AFh) (AA AUL trivial)
theorem AFi:∀ v,D8 v=roundOf Tryz.prog Jv FH 2 0 118 (AB Tryz.f136 1) AAI AAF v:=by
 rintro⟨a0,a1,a2,a3,a4,a5,a6,a7,a8,⟨⟩⟩
 kernel_rfl
theorem AUM:AD (AB Tryz.f136 1) 2=[(2,AB Tryz.f136 2)]:=by kernel_rfl
theorem AUP:Ab Tryz.prog 0 (.loop (AB Tryz.f136 1)) (FH.loop 1):=AU Gh (AFi) (AA AUM ⟨AUO,trivial⟩)
theorem AFj:∀ v,D9 v=roundOf Tryz.prog Jv FH 1 0 118 (AB Tryz.f136 0) AAJ AAG v:=by
 rintro⟨a0,a1,a2,a3,a4,a5,a6,⟨⟩⟩
 kernel_rfl
theorem AUN:AD (AB Tryz.f136 0) 1=[]:=by kernel_rfl
theorem AUQ:Ab Tryz.prog 0 (.loop (AB Tryz.f136 0)) (FH.loop 0):=AU Gh (AFj) (AA AUN trivial)
theorem AOn:∀ v,JL v=AK 0 Tryz.prog Jv FH Tryz.f136 TG TF TE v:=by
 rintro⟨a0,a1,a2,⟨⟩⟩
 kernel_rfl
theorem AbF:AD (AQ Tryz.f136) 0=[(0,AB Tryz.f136 0),(1,AB Tryz.f136 1)]:=by kernel_rfl
theorem AJ1:AO Tryz.prog 136 (AF 0 4 TG TF TE NO):=AH Gh Tryz.func136 (by kernel_rfl) (by kernel_rfl) rfl (fun v=>(Oy v).trans (AOn v)) (AA AbF ⟨AUQ,AUP,trivial⟩)
def WK:Env:=Jv.CD 136 3 137 (AF 0 4 TG TF TE NO)
theorem R3:AY Tryz.prog WK:=Env.Aw Gh AJ1 (AG rfl rfl)
end
end Go.Pev
end
section
namespace Go.Pev
open Go.Proofs
noncomputable section
abbrev Aj8:Hints:={  }
theorem AbD:∀ v,QZ v=AK 0 Tryz.prog WK Aj8 Tryz.f111 AJ0 AJz AJy v:=by
 rintro⟨a0,a1,a2,⟨⟩⟩
 kernel_rfl
theorem Aj7:AD (AQ Tryz.f111) 0=[]:=by kernel_rfl
theorem AUJ:AO Tryz.prog 111 (AF 0 3 AJ0 AJz AJy Ws):=AH R3 Tryz.func111 (by kernel_rfl) (by kernel_rfl) rfl (fun v=>(AAA v).trans (AbD v)) (AA Aj7 trivial)
def ZC:Env:=WK.ext 111 true true (AF 0 3 AJ0 AJz AJy Ws)
theorem QA:AY Tryz.prog ZC:=Env.AZ R3 AUJ (fun _=>AI rfl rfl) (fun _=>AG rfl rfl)
abbrev ABG:Hints:={ loop:=fun n=>match n with|0=>Ac 0 26 AHa AHZ FP|_=>fun _ _ _=>none }
theorem AKm:∀ v,FP v=roundOf Tryz.prog ZC ABG 1 0 26 (AB Tryz.f115 0) AHa AHZ v:=by
 rintro⟨a0,a1,a2,a3,a4,⟨⟩⟩
 kernel_rfl
theorem Abv:AD (AB Tryz.f115 0) 1=[]:=by kernel_rfl
theorem Abw:Ab Tryz.prog 0 (.loop (AB Tryz.f115 0)) (ABG.loop 0):=AU QA (AKm) (AA Abv trivial)
theorem AVH:∀ v,Qu v=AK 0 Tryz.prog ZC ABG Tryz.f115 ABF ABE ABD v:=by
 rintro⟨a0,a1,⟨⟩⟩
 kernel_rfl
theorem Agj:AD (AQ Tryz.f115) 0=[(0,AB Tryz.f115 0)]:=by kernel_rfl
theorem APh:AO Tryz.prog 115 (AF 0 2 ABF ABE ABD ABH):=AH QA Tryz.func115 (by kernel_rfl) (by kernel_rfl) rfl (fun v=>(AHb v).trans (AVH v)) (AA Agj ⟨Abw,trivial⟩)
def SC:Env:=ZC.ext 115 true true (AF 0 2 ABF ABE ABD ABH)
theorem My:AY Tryz.prog SC:=Env.AZ QA APh (fun _=>AI rfl rfl) (fun _=>AG rfl rfl)
abbrev TX:Hints:={ loop:=fun n=>match n with|0=>Ac 0 66 ABA AA9 ED|_=>fun _ _ _=>none }
theorem AFo:∀ v,ED v=roundOf Tryz.prog SC TX 1 0 66 (AB Tryz.f114 0) ABA AA9 v:=by
 rintro⟨a0,a1,a2,a3,a4,a5,a6,a7,⟨⟩⟩
 kernel_rfl
theorem AVE:AD (AB Tryz.f114 0) 1=[]:=by kernel_rfl
theorem AVF:Ab Tryz.prog 0 (.loop (AB Tryz.f114 0)) (TX.loop 0):=AU My (AFo) (AA AVE trivial)
theorem APg:∀ v,NU v=AK 0 Tryz.prog SC TX Tryz.f114 TW TV TU v:=by
 rintro⟨a0,a1,a2,⟨⟩⟩
 kernel_rfl
theorem Abu:AD (AQ Tryz.f114) 0=[(0,AB Tryz.f114 0)]:=by kernel_rfl
theorem AKl:AO Tryz.prog 114 (AF 0 3 TW TV TU Qt):=AH My Tryz.func114 (by kernel_rfl) (by kernel_rfl) rfl (fun v=>(ABB v).trans (APg v)) (AA Abu ⟨AVF,trivial⟩)
def WO:Env:=SC.ext 114 true true (AF 0 3 TW TV TU Qt)
theorem SB:AY Tryz.prog WO:=Env.AZ My AKl (fun _=>AI rfl rfl) (fun _=>AG rfl rfl)
abbrev Age:Hints:={ fp:=fun n=>match n with|1=>[[],[],[],[0],[2],[],[],[],[],[],[]]|_=>[] }
theorem AVC:∀ v,Qs v=AK 0 Tryz.prog WO Age Tryz.f90 AA5 AA4 AA3 v:=by
 rintro⟨a0,a1,a2,⟨⟩⟩
 kernel_rfl
theorem Agd:AD (AQ Tryz.f90) 0=[]:=by kernel_rfl
theorem APd:AO Tryz.prog 90 (AF 0 3 AA5 AA4 AA3 AA6):=AH SB Tryz.func90 (by kernel_rfl) (by kernel_rfl) rfl (fun v=>(AHV v).trans (AVC v)) (AA Agd trivial)
def Mx:Env:=WO.ext 90 true true (AF 0 3 AA5 AA4 AA3 AA6)
theorem Ik:AY Tryz.prog Mx:=Env.AZ SB APd (fun _=>AI rfl rfl) (fun _=>AG rfl rfl)
abbrev Qj:Hints:={ loop:=fun n=>match n with|0=>Ac 0 59 APK API HT|1=>Ac 0 59 APJ APH HS|_=>fun _ _ _=>none }
theorem APF:∀ v,HS v=roundOf Tryz.prog Mx Qj 2 0 59 (AB Tryz.f88 1) APJ APH v:=by
 rintro⟨a0,a1,a2,a3,a4,a5,a6,⟨⟩⟩
 kernel_rfl
theorem Af3:AD (AB Tryz.f88 1) 2=[]:=by kernel_rfl
theorem Af5:Ab Tryz.prog 0 (.loop (AB Tryz.f88 1)) (Qj.loop 1):=AU Ik (APF) (AA Af3 trivial)
theorem APG:∀ v,HT v=roundOf Tryz.prog Mx Qj 1 0 59 (AB Tryz.f88 0) APK API v:=by
 rintro⟨a0,a1,a2,a3,a4,a5,a6,⟨⟩⟩
 kernel_rfl
theorem Af4:AD (AB Tryz.f88 0) 1=[]:=by kernel_rfl
theorem Af6:Ab Tryz.prog 0 (.loop (AB Tryz.f88 0)) (Qj.loop 0):=AU Ik (APG) (AA Af4 trivial)
theorem Aba:∀ v,Qk v=AK 0 Tryz.prog Mx Qj Tryz.f88 AKW AKV AKU v:=by
 rintro⟨a0,a1,a2,a3,⟨⟩⟩
 kernel_rfl
theorem AkK:AD (AQ Tryz.f88) 0=[(0,AB Tryz.f88 0),(1,AB Tryz.f88 1)]:=by kernel_rfl
theorem AUj:AO Tryz.prog 88 (AF 0 4 AKW AKV AKU AAk):=AH Ik Tryz.func88 (by kernel_rfl) (by kernel_rfl) rfl (fun v=>(AAi v).trans (Aba v)) (AA AkK ⟨Af6,Af5,trivial⟩)
def ZD:Env:=Mx.ext 88 true true (AF 0 4 AKW AKV AKU AAk)
theorem QB:AY Tryz.prog ZD:=Env.AZ Ik AUj (fun _=>AI rfl rfl) (fun _=>AG rfl rfl)
abbrev TQ:Hints:={ loop:=fun n=>match n with|0=>Ac 0 29 AAg AAf EB|_=>fun _ _ _=>none }
theorem AFm:∀ v,EB v=roundOf Tryz.prog ZD TQ 1 0 29 (AB Tryz.f89 0) AAg AAf v:=by
 rintro⟨a0,a1,a2,a3,a4,⟨⟩⟩
 kernel_rfl
theorem AUh:AD (AB Tryz.f89 0) 1=[]:=by kernel_rfl
theorem AUi:Ab Tryz.prog 0 (.loop (AB Tryz.f89 0)) (TQ.loop 0):=AU QB (AFm) (AA AUh trivial)
theorem APE:∀ v,NQ v=AK 0 Tryz.prog ZD TQ Tryz.f89 TP TO TN v:=by
 rintro⟨a0,a1,⟨⟩⟩
 kernel_rfl
theorem AbY:AD (AQ Tryz.f89) 0=[(0,AB Tryz.f89 0)]:=by kernel_rfl
theorem AKT:AO Tryz.prog 89 (AF 0 2 TP TO TN NR):=AH QB Tryz.func89 (by kernel_rfl) (by kernel_rfl) rfl (fun v=>(AAh v).trans (APE v)) (AA AbY ⟨AUi,trivial⟩)
def Ny:Env:=ZD.ext 89 true true (AF 0 2 TP TO TN NR)
theorem LK:AY Tryz.prog Ny:=Env.AZ QB AKT (fun _=>AI rfl rfl) (fun _=>AG rfl rfl)
abbrev VH:Hints:={ loop:=fun n=>match n with|0=>Ac 0 93 ADn ADm EG|_=>fun _ _ _=>none,fp:=fun n=>match n with|5=>[[],[10],[0],[0],[0],[0],[18],[],[],[],[],[],[],[]]|_=>[] }
theorem AGO:∀ v,EG v=roundOf Tryz.prog Ny VH 1 0 93 (AB Tryz.f79 0) ADn ADm v:=by
 rintro⟨a0,a1,a2,a3,a4,a5,a6,a7,⟨⟩⟩
 kernel_rfl
theorem AXk:AD (AB Tryz.f79 0) 1=[]:=by kernel_rfl
theorem AXl:Ab Tryz.prog 0 (.loop (AB Tryz.f79 0)) (VH.loop 0):=AU LK (AGO) (AA AXk trivial)
theorem ASJ:∀ v,Jn v=AK 0 Tryz.prog Ny VH Tryz.f79 VG VF VE v:=by
 rintro⟨a0,a1,⟨⟩⟩
 kernel_rfl
theorem Ad0:AD (AQ Tryz.f79) 0=[(0,AB Tryz.f79 0)]:=by kernel_rfl
theorem AMd:AO Tryz.prog 79 (AF 0 2 VG VF VE Nl):=AH LK Tryz.func79 (by kernel_rfl) (by kernel_rfl) rfl (fun v=>(Pq v).trans (ASJ v)) (AA Ad0 ⟨AXl,trivial⟩)
def Wd:Env:=Ny.ext 79 true true (AF 0 2 VG VF VE Nl)
theorem Sc:AY Tryz.prog Wd:=Env.AZ LK AMd (fun _=>AI rfl rfl) (fun _=>AG rfl rfl)
abbrev Ale:Hints:={  }
theorem Adw:∀ v,RZ v=AK 0 Tryz.prog Wd Ale Tryz.f58 AMZ AMY AMX v:=by
 rintro⟨a0,a1,⟨⟩⟩
 kernel_rfl
theorem Ald:AD (AQ Tryz.f58) 0=[]:=by kernel_rfl
theorem AXe:AO Tryz.prog 58 (AF 0 2 AMZ AMY AMX Xd):=AH Sc Tryz.func58 (by kernel_rfl) (by kernel_rfl) rfl (fun v=>(ADh v).trans (Adw v)) (AA Ald trivial)
def Sa:Env:=Wd.ext 58 true true (AF 0 2 AMZ AMY AMX Xd)
theorem LU:AY Tryz.prog Sa:=Env.AZ Sc AXe (fun _=>AI rfl rfl) (fun _=>AG rfl rfl)
abbrev MY:Hints:={ loop:=fun n=>match n with|0=>Ac 0 63 AIZ AIX Fu|1=>Ac 0 63 AIY AIW C5|_=>fun _ _ _=>none }
theorem AMj:∀ v,C5 v=roundOf Tryz.prog Sa MY 2 0 63 (AB Tryz.f31 1) AIY AIW v:=by
 rintro⟨a0,a1,a2,a3,a4,a5,⟨⟩⟩
 kernel_rfl
theorem Ad4:AD (AB Tryz.f31 1) 2=[]:=by kernel_rfl
theorem Ad6:Ab Tryz.prog 0 (.loop (AB Tryz.f31 1)) (MY.loop 1):=AU LU (AMj) (AA Ad4 trivial)
theorem AMk:∀ v,Fu v=roundOf Tryz.prog Sa MY 1 0 63 (AB Tryz.f31 0) AIZ AIX v:=by
 rintro⟨a0,a1,a2,a3,a4,a5,a6,a7,a8,⟨⟩⟩
 kernel_rfl
theorem Ad5:AD (AB Tryz.f31 0) 1=[]:=by kernel_rfl
theorem Ad7:Ab Tryz.prog 0 (.loop (AB Tryz.f31 0)) (MY.loop 0):=AU LU (AMk) (AA Ad5 trivial)
theorem AXq:∀ v,MZ v=AK 0 Tryz.prog Sa MY Tryz.f31 ADu ADt ADs v:=by
 rintro⟨a0,a1,⟨⟩⟩
 kernel_rfl
theorem Aix:AD (AQ Tryz.f31) 0=[(0,AB Tryz.f31 0),(1,AB Tryz.f31 1)]:=by kernel_rfl
theorem ASN:AO Tryz.prog 31 (AF 0 2 ADu ADt ADs VO):=AH LU Tryz.func31 (by kernel_rfl) (by kernel_rfl) rfl (fun v=>(VN v).trans (AXq v)) (AA Aix ⟨Ad7,Ad6,trivial⟩)
def AFQ:Env:=Sa.ext 31 true true (AF 0 2 ADu ADt ADs VO)
theorem X5:AY Tryz.prog AFQ:=Env.AZ LU ASN (fun _=>AI rfl rfl) (fun _=>AG rfl rfl)
theorem Aev:Tryz.f30.body.isSome=true:=by kernel_rfl
theorem Aeu : (Tryz.f30.name == "runtime.NumGoroutine") = false := by kernel_rfl
theorem Aet:loops (AQ Tryz.f30)=0:=by kernel_rfl
def Ir:Env:=AFQ.ext 30 false false (Ck Tryz.prog AFQ {} Tryz.f30)
theorem H6:AY Tryz.prog Ir:=Env.AZ X5 (CW X5 Tryz.func30 Aev Aeu Aet) (by simp) (by simp)
abbrev KW:Hints:={ loop:=fun n=>match n with|0=>Ac 1 19 OJ OI Cc|_=>fun _ _ _=>none }
theorem UI:∀ v,Cc v=roundOf Tryz.prog Ir KW 1 1 19 (AB Tryz.f56 0) OJ OI v:=by
 rintro⟨a0,a1,a2,a3,a4,⟨⟩⟩
 kernel_rfl
theorem AF9:AD (AB Tryz.f56 0) 1=[]:=by kernel_rfl
theorem AGA:Ab Tryz.prog 1 (.loop (AB Tryz.f56 0)) (KW.loop 0):=AU H6 (UI) (AA AF9 trivial)
theorem ACt:∀ v,Gz v=AK 1 Tryz.prog Ir KW Tryz.f56 KV KU KT v:=by
 rintro⟨a0,a1,a2,⟨⟩⟩
 kernel_rfl
theorem ALr:AD (AQ Tryz.f56) 0=[(0,AB Tryz.f56 0)]:=by kernel_rfl
theorem YK:AO Tryz.prog 56 (AF 1 2 KV KU KT KX):=AH H6 Tryz.func56 (by kernel_rfl) (by kernel_rfl) rfl (fun v=>(OK v).trans (ACt v)) (AA ALr ⟨AGA,trivial⟩)
def LM:Env:=Ir.CD 56 1 30 (AF 1 2 KV KU KT KX)
theorem Lf:AY Tryz.prog LM:=Env.Aw H6 YK (AG rfl rfl)
abbrev AGU:Hints:={  }
theorem YS:∀ v,GM v=AK 1 Tryz.prog LM AGU Tryz.f29 I3 I2 I1 v:=by
 rintro⟨a0,a1,a2,⟨⟩⟩
 kernel_rfl
theorem AGT:AD (AQ Tryz.f29) 0=[]:=by kernel_rfl
theorem VQ:AO Tryz.prog 29 (AF 1 2 I3 I2 I1 Gb):=AH Lf Tryz.func29 (by kernel_rfl) (by kernel_rfl) rfl (fun v=>(Mf v).trans (YS v)) (AA AGT trivial)
def JE:Env:=LM.CD 29 1 30 (AF 1 2 I3 I2 I1 Gb)
theorem Jy:AY Tryz.prog JE:=Env.Aw Lf VQ (AG rfl rfl)
end
end Go.Pev
end
section
namespace Go.Pev
open Go.Proofs
noncomputable section
abbrev Ajc:Hints:={ fp:=fun n=>match n with|16=>[[48],[48],[50],[0],[],[]]|_=>[] }
theorem AYc:∀ v,Ju v=AK 0 Tryz.prog JE Ajc Tryz.f10 AEu AEt AEs v:=by
 rintro⟨a0,a1,a2,⟨⟩⟩
 kernel_rfl
theorem Ajb:AD (AQ Tryz.f10) 0=[]:=by kernel_rfl
theorem ATN:AO Tryz.prog 10 (AF 0 3 AEu AEt AEs F6):=AH Jy Tryz.func10 (by kernel_rfl) (by kernel_rfl) rfl (fun v=>(Nu v).trans (AYc v)) (AA Ajb trivial)
def Sj:Env:=JE.ext 10 true true (AF 0 3 AEu AEt AEs F6)
theorem ND:AY Tryz.prog Sj:=Env.AZ Jy ATN (fun _=>AI rfl rfl) (fun _=>AG rfl rfl)
abbrev AAQ:Hints:={ loop:=fun n=>match n with|0=>Ac 0 46 AHF AHE FI|_=>fun _ _ _=>none,fp:=fun n=>match n with|6=>[[0],[0],[],[],[],[2],[2],[],[],[],[]]|_=>[] }
theorem AKQ:∀ v,FI v=roundOf Tryz.prog Sj AAQ 1 0 46 (AB Tryz.f12 0) AHF AHE v:=by
 rintro⟨a0,a1,a2,a3,a4,a5,a6,⟨⟩⟩
 kernel_rfl
theorem AbS:AD (AB Tryz.f12 0) 1=[]:=by kernel_rfl
theorem AbT:Ab Tryz.prog 0 (.loop (AB Tryz.f12 0)) (AAQ.loop 0):=AU ND (AKQ) (AA AbS trivial)
theorem AUb:∀ v,Qf v=AK 0 Tryz.prog Sj AAQ Tryz.f12 AAP AAO AAN v:=by
 rintro⟨a0,a1,⟨⟩⟩
 kernel_rfl
theorem Afx:AD (AQ Tryz.f12) 0=[(0,AB Tryz.f12 0)]:=by kernel_rfl
theorem AO7:AO Tryz.prog 12 (AF 0 2 AAP AAO AAN O4):=AH ND Tryz.func12 (by kernel_rfl) (by kernel_rfl) rfl (fun v=>(AHG v).trans (AUb v)) (AA Afx ⟨AbT,trivial⟩)
def AE8:Env:=Sj.ext 12 true true (AF 0 2 AAP AAO AAN O4)
theorem Xu:AY Tryz.prog AE8:=Env.AZ ND AO7 (fun _=>AI rfl rfl) (fun _=>AG rfl rfl)
abbrev AdM:Hints:={  }
theorem ARn:∀ v,Nd v=AK 0 Tryz.prog AE8 AdM Tryz.f9 UO UN UM v:=by
 rintro⟨a0,a1,a2,⟨⟩⟩
 kernel_rfl
theorem AdL:AD (AQ Tryz.f9) 0=[]:=by kernel_rfl
theorem AL7:AO Tryz.prog 9 (AF 0 3 UO UN UM Nf):=AH Xu Tryz.func9 (by kernel_rfl) (by kernel_rfl) rfl (fun v=>(ACx v).trans (ARn v)) (AA AdL trivial)
def WZ:Env:=AE8.ext 9 true true (AF 0 3 UO UN UM Nf)
theorem SV:AY Tryz.prog WZ:=Env.AZ Xu AL7 (fun _=>AI rfl rfl) (fun _=>AG rfl rfl)
abbrev Aes:Hints:={  }
theorem ATM:∀ v,Vy v=AK 0 Tryz.prog WZ Aes Tryz.f8 Vx Vw Vv v:=by
 rintro⟨⟨⟩⟩
 kernel_rfl
theorem Aer:AD (AQ Tryz.f8) 0=[]:=by kernel_rfl
theorem ANb:AO Tryz.prog 8 (AF 0 0 Vx Vw Vv Ib):=AH SV Tryz.func8 (by kernel_rfl) (by kernel_rfl) rfl (fun v=>(AYb v).trans (ATM v)) (AA Aer trivial)
def Wi:Env:=WZ.ext 8 true true (AF 0 0 Vx Vw Vv Ib)
theorem Si:AY Tryz.prog Wi:=Env.AZ SV ANb (fun _=>AI rfl rfl) (fun _=>AG rfl rfl)
abbrev LB:Hints:={ loop:=fun n=>match n with|0=>Ac 0 121 Oc Oa CB|_=>fun _ _ _=>none,fp:=fun n=>match n with|9=>[[],[],[],[],[],[],[],[],[],[],[],[],[],[5,6],[]]|_=>[] }
theorem WA:∀ v,CB v=roundOf Tryz.prog Wi LB 1 0 121 (AB Tryz.f7 0) Oc Oa v:=by
 rintro⟨a0,a1,a2,a3,a4,a5,a6,a7,a8,a9,⟨⟩⟩
 kernel_rfl
theorem AGk:AD (AB Tryz.f7 0) 1=[]:=by kernel_rfl
theorem AGl:Ab Tryz.prog 0 (.loop (AB Tryz.f7 0)) (LB.loop 0):=AU Si (WA) (AA AGk trivial)
theorem AEr:∀ v,G7 v=AK 0 Tryz.prog Wi LB Tryz.f7 LA K9 K8 v:=by
 rintro⟨a0,a1,a2,⟨⟩⟩
 kernel_rfl
theorem ANc:AD (AQ Tryz.f7) 0=[(0,AB Tryz.f7 0)]:=by kernel_rfl
theorem Yc:AO Tryz.prog 7 (AF 0 3 LA K9 K8 F5):=AH Si Tryz.func7 (by kernel_rfl) (by kernel_rfl) rfl (fun v=>(Od v).trans (AEr v)) (AA ANc ⟨AGl,trivial⟩)
end
end Go.Pev
end
section

end
