/- A part of the proofs of this seat: G29aP6 G29aP7 G29aP8 G29aP9 G29aP10 G29aP11 G29aP. -/
import Derived.Test.YtfojmhgomdbpfaaGreatDoorP151b8425e1
set_option linter.unusedVariables false
set_option linter.unusedSimpArgs false
set_option linter.unusedSectionVars false
set_option maxRecDepth 100000
section
namespace Go.Pev
open Go.Proofs
noncomputable section
abbrev AgV:Hints:={  }
theorem Abs:∀ v,ASS v=AP 0 Tryz.prog ADX AgV Tryz.f105 ASR ASQ ASP v:=by
 rintro⟨a0,⟨⟩⟩
 kernel_rfl
theorem AgU:AD (AS Tryz.f105) 0=[]:=by kernel_rfl
theorem AX5:AR Tryz.prog 105 (AF 0 1 ASR ASQ ASP AIt):=AH XB Tryz.func105 (by kernel_rfl) (by kernel_rfl) rfl (fun v=>(Aer v).trans (Abs v)) (AA AgU trivial)
def AUD:Env:=ADX.ext 105 true true (AF 0 1 ASR ASQ ASP AIt)
theorem AGT:Aa Tryz.prog AUD:=Env.Af XB AX5 (fun _=>AL rfl rfl) (fun _=>AI rfl rfl)
abbrev ASd:Hints:={ fp:=fun n=>match n with|1=>[[0],[0],[2],[2],[],[0],[0],[2],[2],[],[],[20],[]]|_=>[] }
theorem AI3:∀ v,LC v=AP 0 Tryz.prog AUD ASd Tryz.f106 PS PR PQ v:=by
 rintro⟨a0,a1,⟨⟩⟩
 kernel_rfl
theorem ASc:AD (AS Tryz.f106) 0=[]:=by kernel_rfl
theorem AEO:AR Tryz.prog 106 (AF 0 2 PS PR PQ KL):=AH AGT Tryz.func106 (by kernel_rfl) (by kernel_rfl) rfl (fun v=>(Wk v).trans (AI3 v)) (AA ASc trivial)
def Ls:Env:=AUD.ext 106 true true (AF 0 2 PS PR PQ KL)
theorem Ju:Aa Tryz.prog Ls:=Env.Af AGT AEO (fun _=>AL rfl rfl) (fun _=>AI rfl rfl)
abbrev ABN:Hints:={ loop:=fun n=>match n with|0=>Ac 0 33 AFj AFi Ck|_=>fun _ _ _=>none }
theorem AIs:∀ v,Ck v=roundOf Tryz.prog Ls ABN 1 0 33 (AB Tryz.f84 0) AFj AFi v:=by
 rintro⟨a0,a1,a2,a3,a4,⟨⟩⟩
 kernel_rfl
theorem AX3:AD (AB Tryz.f84 0) 1=[]:=by kernel_rfl
theorem AX4:Ab Tryz.prog 0 (.loop (AB Tryz.f84 0)) (ABN.loop 0):=AU Ju (AIs) (AA AX3 trivial)
theorem ASO:∀ v,Mt v=AP 0 Tryz.prog Ls ABN Tryz.f84 ABM ABL ABK v:=by
 rintro⟨a0,a1,⟨⟩⟩
 kernel_rfl
theorem Abr:AD (AS Tryz.f84) 0=[(0,AB Tryz.f84 0)]:=by kernel_rfl
theorem ANT:AR Tryz.prog 84 (AF 0 2 ABM ABL ABK PL):=AH Ju Tryz.func84 (by kernel_rfl) (by kernel_rfl) rfl (fun v=>(Tb v).trans (ASO v)) (AA Abr ⟨AX4,trivial⟩)
def R2:Env:=Ls.ext 84 true true (AF 0 2 ABM ABL ABK PL)
theorem NZ:Aa Tryz.prog R2:=Env.Af Ju ANT (fun _=>AL rfl rfl) (fun _=>AI rfl rfl)
abbrev ABU:Hints:={ loop:=fun n=>match n with|0=>Ac 0 96 AFl AFk Dw|_=>fun _ _ _=>none,fp:=fun n=>match n with|7=>[[2],[2],[],[],[2],[2],[2],[2],[],[],[],[2],[2],[0],[0],[],[],[],[2],[2],[],[],[],[2],[2],[],[],[],[],[],[],[],[0],[0],[],[],[],[],[2],[],[],[],[]]|_=>[] }
theorem AIu:∀ v,Dw v=roundOf Tryz.prog R2 ABU 1 0 96 (AB Tryz.f82 0) AFl AFk v:=by
 rintro⟨a0,a1,a2,a3,a4,a5,⟨⟩⟩
 kernel_rfl
theorem AX6:AD (AB Tryz.f82 0) 1=[]:=by kernel_rfl
theorem AX7:Ab Tryz.prog 0 (.loop (AB Tryz.f82 0)) (ABU.loop 0):=AU NZ (AIu) (AA AX6 trivial)
theorem ASU:∀ v,Hv v=AP 0 Tryz.prog R2 ABU Tryz.f82 ABT ABS ABR v:=by
 rintro⟨a0,⟨⟩⟩
 kernel_rfl
theorem Abv:AD (AS Tryz.f82) 0=[(0,AB Tryz.f82 0)]:=by kernel_rfl
theorem ANY:AR Tryz.prog 82 (AF 0 1 ABT ABS ABR PM):=AH NZ Tryz.func82 (by kernel_rfl) (by kernel_rfl) rfl (fun v=>(KI v).trans (ASU v)) (AA Abv ⟨AX7,trivial⟩)
def KX:Env:=R2.ext 82 true true (AF 0 1 ABT ABS ABR PM)
theorem Gg:Aa Tryz.prog KX:=Env.Af NZ ANY (fun _=>AL rfl rfl) (fun _=>AI rfl rfl)
abbrev Di:Hints:={ loop:=fun n=>match n with|0=>Ac 0 83 RZ RW C8|1=>Ac 0 83 RY RV D3|2=>Ac 0 83 RX RU C7|_=>fun _ _ _=>none,fp:=fun n=>match n with|14=>[[],[],[0],[0],[],[],[0],[0],[],[]]|13=>[[],[],[],[],[],[],[],[],[],[],[],[],[],[],[],[],[],[],[],[0],[0],[],[],[0],[0],[],[]]|12=>[[],[],[],[],[],[],[],[],[],[],[],[]]|_=>[] }
theorem Xn:∀ v,C7 v=roundOf Tryz.prog KX Di 3 0 83 (AB Tryz.f49 2) RX RU v:=by
 rintro⟨a0,a1,a2,a3,a4,⟨⟩⟩
 kernel_rfl
theorem AJo:AD (AB Tryz.f49 2) 3=[]:=by kernel_rfl
theorem AJr:Ab Tryz.prog 0 (.loop (AB Tryz.f49 2)) (Di.loop 2):=AU Gg (Xn) (AA AJo trivial)
theorem Xo:∀ v,D3 v=roundOf Tryz.prog KX Di 2 0 83 (AB Tryz.f49 1) RY RV v:=by
 rintro⟨a0,a1,a2,a3,⟨⟩⟩
 kernel_rfl
theorem AJp:AD (AB Tryz.f49 1) 2=[(2,AB Tryz.f49 2)]:=by kernel_rfl
theorem AJs:Ab Tryz.prog 0 (.loop (AB Tryz.f49 1)) (Di.loop 1):=AU Gg (Xo) (AA AJp ⟨AJr,trivial⟩)
theorem Xp:∀ v,C8 v=roundOf Tryz.prog KX Di 1 0 83 (AB Tryz.f49 0) RZ RW v:=by
 rintro⟨a0,a1,a2,a3,⟨⟩⟩
 kernel_rfl
theorem AJq:AD (AB Tryz.f49 0) 1=[]:=by kernel_rfl
theorem AJt:Ab Tryz.prog 0 (.loop (AB Tryz.f49 0)) (Di.loop 0):=AU Gg (Xp) (AA AJq trivial)
theorem AEj:∀ v,JB v=AP 0 Tryz.prog KX Di Tryz.f49 NN NM NL v:=by
 rintro⟨a0,a1,⟨⟩⟩
 kernel_rfl
theorem AOi:AD (AS Tryz.f49) 0=[(0,AB Tryz.f49 0),(1,AB Tryz.f49 1)]:=by kernel_rfl
theorem ACr:AR Tryz.prog 49 (AF 0 2 NN NM NL DM):=AH Gg Tryz.func49 (by kernel_rfl) (by kernel_rfl) rfl (fun v=>(Ra v).trans (AEj v)) (AA AOi ⟨AJt,AJs,trivial⟩)
def JM:Env:=KX.ext 49 true true (AF 0 2 NN NM NL DM)
theorem IX:Aa Tryz.prog JM:=Env.Af Gg ACr (fun _=>AL rfl rfl) (fun _=>AI rfl rfl)
abbrev AG2:Hints:={ loop:=fun n=>match n with|0=>Ac 0 20 AK3 AK2 Y8|_=>fun _ _ _=>none }
theorem AK1:∀ v,Y8 v=roundOf Tryz.prog JM AG2 1 0 20 (AB Tryz.f52 0) AK3 AK2 v:=by
 rintro⟨a0,a1,⟨⟩⟩
 kernel_rfl
theorem AZv:AD (AB Tryz.f52 0) 1=[]:=by kernel_rfl
theorem AZw:Ab Tryz.prog 0 (.loop (AB Tryz.f52 0)) (AG2.loop 0):=AU IX (AK1) (AA AZv trivial)
theorem AWL:∀ v,AG3 v=AP 0 Tryz.prog JM AG2 Tryz.f52 AG1 AG0 AGz v:=by
 rintro⟨a0,⟨⟩⟩
 kernel_rfl
theorem Adg:AD (AS Tryz.f52) 0=[(0,AB Tryz.f52 0)]:=by kernel_rfl
theorem APk:AR Tryz.prog 52 (AF 0 1 AG1 AG0 AGz MO):=AH IX Tryz.func52 (by kernel_rfl) (by kernel_rfl) rfl (fun v=>(AZx v).trans (AWL v)) (AA Adg ⟨AZw,trivial⟩)
def Rk:Env:=JM.ext 52 true true (AF 0 1 AG1 AG0 AGz MO)
theorem Li:Aa Tryz.prog Rk:=Env.Af IX APk (fun _=>AL rfl rfl) (fun _=>AI rfl rfl)
abbrev J6:Hints:={ loop:=fun n=>match n with|0=>Ac 0 138 Z4 Z2 Cv|1=>Ac 0 138 Z3 Z1 DZ|_=>fun _ _ _=>none,fp:=fun n=>match n with|10=>[[],[],[],[0],[0],[],[],[],[],[],[4],[4],[],[],[0],[0],[],[],[],[],[],[4],[4],[],[],[0],[0],[],[],[],[],[],[4],[4],[],[],[],[]]|8=>[[4],[4],[],[],[4],[4],[4],[4],[],[],[],[4],[4],[0],[0],[],[],[],[4],[4],[],[],[],[4],[4],[0],[0],[],[],[]]|_=>[] }
theorem AD0:∀ v,DZ v=roundOf Tryz.prog Rk J6 2 0 138 (AB Tryz.f48 1) Z3 Z1 v:=by
 rintro⟨a0,a1,a2,a3,a4,a5,⟨⟩⟩
 kernel_rfl
theorem AQk:AD (AB Tryz.f48 1) 2=[]:=by kernel_rfl
theorem AQm:Ab Tryz.prog 0 (.loop (AB Tryz.f48 1)) (J6.loop 1):=AU Li (AD0) (AA AQk trivial)
theorem AD1:∀ v,Cv v=roundOf Tryz.prog Rk J6 1 0 138 (AB Tryz.f48 0) Z4 Z2 v:=by
 rintro⟨a0,a1,a2,a3,⟨⟩⟩
 kernel_rfl
theorem AQl:AD (AB Tryz.f48 0) 1=[]:=by kernel_rfl
theorem AQn:Ab Tryz.prog 0 (.loop (AB Tryz.f48 0)) (J6.loop 0):=AU Li (AD1) (AA AQl trivial)
theorem ALs:∀ v,Eg v=AP 0 Tryz.prog Rk J6 Tryz.f48 Sv Su Ss v:=by
 rintro⟨a0,⟨⟩⟩
 kernel_rfl
theorem AW5:AD (AS Tryz.f48) 0=[(0,AB Tryz.f48 0),(1,AB Tryz.f48 1)]:=by kernel_rfl
theorem AHv:AR Tryz.prog 48 (AF 0 1 Sv Su Ss Du):=AH Li Tryz.func48 (by kernel_rfl) (by kernel_rfl) rfl (fun v=>(FU v).trans (ALs v)) (AA AW5 ⟨AQn,AQm,trivial⟩)
def OD:Env:=Rk.ext 48 true true (AF 0 1 Sv Su Ss Du)
theorem Lq:Aa Tryz.prog OD:=Env.Af Li AHv (fun _=>AL rfl rfl) (fun _=>AI rfl rfl)
abbrev UJ:Hints:={ loop:=fun n=>match n with|0=>Ac 0 32 ACR ACQ EW|_=>fun _ _ _=>none,fp:=fun n=>match n with|7=>[[],[0],[0],[],[],[],[],[0],[0],[],[],[],[],[],[],[3,4],[]]|_=>[] }
theorem AEY:∀ v,EW v=roundOf Tryz.prog OD UJ 1 0 32 (AB Tryz.f50 0) ACR ACQ v:=by
 rintro⟨a0,a1,a2,a3,⟨⟩⟩
 kernel_rfl
theorem ATM:AD (AB Tryz.f50 0) 1=[]:=by kernel_rfl
theorem ATN:Ab Tryz.prog 0 (.loop (AB Tryz.f50 0)) (UJ.loop 0):=AU Lq (AEY) (AA ATM trivial)
theorem AOT:∀ v,N2 v=AP 0 Tryz.prog OD UJ Tryz.f50 UI UH UG v:=by
 rintro⟨a0,⟨⟩⟩
 kernel_rfl
theorem AYy:AD (AS Tryz.f50) 0=[(0,AB Tryz.f50 0)]:=by kernel_rfl
theorem AJa:AR Tryz.prog 50 (AF 0 1 UI UH UG RH):=AH Lq Tryz.func50 (by kernel_rfl) (by kernel_rfl) rfl (fun v=>(ACS v).trans (AOT v)) (AA AYy ⟨ATN,trivial⟩)
def OF:Env:=OD.ext 50 true true (AF 0 1 UI UH UG RH)
theorem Lu:Aa Tryz.prog OF:=Env.Af Lq AJa (fun _=>AL rfl rfl) (fun _=>AI rfl rfl)
abbrev Zl:Hints:={ loop:=fun n=>match n with|0=>Ac 0 26 AFH AFG Sr|_=>fun _ _ _=>none,fp:=fun n=>match n with|6=>[[],[],[],[],[],[],[],[],[]]|_=>[] }
theorem AHu:∀ v,Sr v=roundOf Tryz.prog OF Zl 1 0 26 (AB Tryz.f17 0) AFH AFG v:=by
 rintro⟨a0,a1,a2,⟨⟩⟩
 kernel_rfl
theorem AWx:AD (AB Tryz.f17 0) 1=[]:=by kernel_rfl
theorem AWy:Ab Tryz.prog 0 (.loop (AB Tryz.f17 0)) (Zl.loop 0):=AU Lu (AHu) (AA AWx trivial)
theorem AQd:∀ v,Zm v=AP 0 Tryz.prog OF Zl Tryz.f17 Zk Zj Zi v:=by
 rintro⟨a0,a1,⟨⟩⟩
 kernel_rfl
theorem Aah:AD (AS Tryz.f17) 0=[(0,AB Tryz.f17 0)]:=by kernel_rfl
theorem ALh:AR Tryz.prog 17 (AF 0 2 Zk Zj Zi Zn):=AH Lu Tryz.func17 (by kernel_rfl) (by kernel_rfl) rfl (fun v=>(AWz v).trans (AQd v)) (AA Aah ⟨AWy,trivial⟩)
def ADP:Env:=OF.ext 17 true true (AF 0 2 Zk Zj Zi Zn)
theorem W6:Aa Tryz.prog ADP:=Env.Af Lu ALh (fun _=>AL rfl rfl) (fun _=>AI rfl rfl)
abbrev Agp:Hints:={  }
theorem Adj:∀ v,AUG v=AP 0 Tryz.prog ADP Agp Tryz.f58 AZ1 AZ0 AZz v:=by
 rintro⟨a0,a1,⟨⟩⟩
 kernel_rfl
theorem Ago:AD (AS Tryz.f58) 0=[]:=by kernel_rfl
theorem AZy:AR Tryz.prog 58 (AF 0 2 AZ1 AZ0 AZz tof):=AH W6 Tryz.func58 (by kernel_rfl) (by kernel_rfl) rfl (fun v=>(AZ2 v).trans (Adj v)) (AA Ago trivial)
def AVt:Env:=ADP.ext 58 true true (AF 0 2 AZ1 AZ0 AZz tof)
theorem ADL:Aa Tryz.prog AVt:=Env.Af W6 AZy (fun _=>AL rfl rfl) (fun _=>AI rfl rfl)
abbrev SZ:Hints:={ loop:=fun n=>match n with|0=>Ac 0 47 Y1 Y0 EN|_=>fun _ _ _=>none,fp:=fun n=>match n with|6=>[[],[0],[0],[],[],[],[],[0],[0],[],[],[],[],[],[],[3,4],[]]|_=>[] }
theorem ADm:∀ v,EN v=roundOf Tryz.prog AVt SZ 1 0 47 (AB Tryz.f51 0) Y1 Y0 v:=by
 rintro⟨a0,a1,a2,a3,a4,⟨⟩⟩
 kernel_rfl
theorem APe:AD (AB Tryz.f51 0) 1=[]:=by kernel_rfl
theorem APf:Ab Tryz.prog 0 (.loop (AB Tryz.f51 0)) (SZ.loop 0):=AU ADL (ADm) (AA APe trivial)
theorem AKy:∀ v,Nj v=AP 0 Tryz.prog AVt SZ Tryz.f51 SY SX SW v:=by
 rintro⟨a0,a1,⟨⟩⟩
 kernel_rfl
theorem AWF:AD (AS Tryz.f51) 0=[(0,AB Tryz.f51 0)]:=by kernel_rfl
theorem AGx:AR Tryz.prog 51 (AF 0 2 SY SX SW Ia):=AH ADL Tryz.func51 (by kernel_rfl) (by kernel_rfl) rfl (fun v=>(Y2 v).trans (AKy v)) (AA AWF ⟨APf,trivial⟩)
def VO:Env:=AVt.ext 51 true true (AF 0 2 SY SX SW Ia)
theorem Rj:Aa Tryz.prog VO:=Env.Af ADL AGx (fun _=>AL rfl rfl) (fun _=>AI rfl rfl)
abbrev AYC:Hints:={ fp:=fun n=>match n with|3=>[[0],[0],[0],[],[],[12],[],[],[3],[]]|_=>[] }
theorem ANc:∀ v,KK v=AP 0 Tryz.prog VO AYC Tryz.f57 Tk Tj Ti v:=by
 rintro⟨a0,a1,⟨⟩⟩
 kernel_rfl
theorem AYB:AD (AS Tryz.f57) 0=[]:=by kernel_rfl
theorem AIy:AR Tryz.prog 57 (AF 0 2 Tk Tj Ti Nv):=AH Rj Tryz.func57 (by kernel_rfl) (by kernel_rfl) rfl (fun v=>(PO v).trans (ANc v)) (AA AYB trivial)
def OE:Env:=VO.ext 57 true true (AF 0 2 Tk Tj Ti Nv)
theorem Lr:Aa Tryz.prog OE:=Env.Af Rj AIy (fun _=>AL rfl rfl) (fun _=>AI rfl rfl)
end
end Go.Pev
end
section
namespace Go.Pev
open Go.Proofs
noncomputable section
abbrev Mq:Hints:={ loop:=fun n=>match n with|0=>Ac 0 36 Qn Qm C2|_=>fun _ _ _=>none,fp:=fun n=>match n with|6=>[[],[],[2],[2],[],[],[2],[2],[]]|1=>[[0],[0],[0],[],[],[2],[]]|_=>[] }
theorem XY:∀ v,C2 v=roundOf Tryz.prog OE Mq 1 0 36 (AB Tryz.f53 0) Qn Qm v:=by
 rintro⟨a0,a1,a2,a3,a4,a5,⟨⟩⟩
 kernel_rfl
theorem AIg:AD (AB Tryz.f53 0) 1=[]:=by kernel_rfl
theorem AIh:Ab Tryz.prog 0 (.loop (AB Tryz.f53 0)) (Mq.loop 0):=AU Lr (XY) (AA AIg trivial)
theorem AEL:∀ v,Im v=AP 0 Tryz.prog OE Mq Tryz.f53 Mo Mn Mm v:=by
 rintro⟨a0,a1,a2,⟨⟩⟩
 kernel_rfl
theorem ANN:AD (AS Tryz.f53) 0=[(0,AB Tryz.f53 0)]:=by kernel_rfl
theorem ABH:AR Tryz.prog 53 (AF 0 3 Mo Mn Mm KE):=AH Lr Tryz.func53 (by kernel_rfl) (by kernel_rfl) rfl (fun v=>(Qo v).trans (AEL v)) (AA ANN ⟨AIh,trivial⟩)
def Dm:Env:=OE.ext 53 true true (AF 0 3 Mo Mn Mm KE)
theorem Cq:Aa Tryz.prog Dm:=Env.Af Lr ABH (fun _=>AL rfl rfl) (fun _=>AI rfl rfl)
abbrev Ds:Hints:={ loop:=fun n=>match n with|0=>Ac 0 105 ZW ZS EP|1=>Ac 0 105 ZV ZR EO|2=>Ac 0 105 ZU ZQ DX|3=>Ac 0 105 ZT ZP DW|_=>fun _ _ _=>none,fp:=fun n=>match n with|8=>[[],[],[2],[2],[],[],[4],[4],[]]|14=>[[0],[0],[0],[],[],[10],[]]|19=>[[4],[4],[],[],[4],[4],[],[],[],[],[],[4],[4],[2],[2],[],[4],[4],[2],[2],[],[]]|4=>[[0],[0],[0],[],[26],[]]|3=>[[0],[0],[0],[],[10],[]]|_=>[] }
theorem ADo:∀ v,DW v=roundOf Tryz.prog Dm Ds 4 0 105 (AB Tryz.f23 3) ZT ZP v:=by
 rintro⟨a0,a1,a2,a3,a4,⟨⟩⟩
 kernel_rfl
theorem AP6:AD (AB Tryz.f23 3) 4=[]:=by kernel_rfl
theorem AQA:Ab Tryz.prog 0 (.loop (AB Tryz.f23 3)) (Ds.loop 3):=AU Cq (ADo) (AA AP6 trivial)
theorem ADp:∀ v,DX v=roundOf Tryz.prog Dm Ds 3 0 105 (AB Tryz.f23 2) ZU ZQ v:=by
 rintro⟨a0,a1,a2,a3,a4,a5,⟨⟩⟩
 kernel_rfl
theorem AP7:AD (AB Tryz.f23 2) 3=[]:=by kernel_rfl
theorem AQB:Ab Tryz.prog 0 (.loop (AB Tryz.f23 2)) (Ds.loop 2):=AU Cq (ADp) (AA AP7 trivial)
theorem ADq:∀ v,EO v=roundOf Tryz.prog Dm Ds 2 0 105 (AB Tryz.f23 1) ZV ZR v:=by
 rintro⟨a0,a1,a2,a3,⟨⟩⟩
 kernel_rfl
theorem AP8:AD (AB Tryz.f23 1) 2=[(2,AB Tryz.f23 2),(3,AB Tryz.f23 3)]:=by kernel_rfl
theorem AQC:Ab Tryz.prog 0 (.loop (AB Tryz.f23 1)) (Ds.loop 1):=AU Cq (ADq) (AA AP8 ⟨AQB,AQA,trivial⟩)
theorem ADr:∀ v,EP v=roundOf Tryz.prog Dm Ds 1 0 105 (AB Tryz.f23 0) ZW ZS v:=by
 rintro⟨a0,a1,a2,a3,a4,⟨⟩⟩
 kernel_rfl
theorem AP9:AD (AB Tryz.f23 0) 1=[]:=by kernel_rfl
theorem AQD:Ab Tryz.prog 0 (.loop (AB Tryz.f23 0)) (Ds.loop 0):=AU Cq (ADr) (AA AP9 trivial)
theorem ALJ:∀ v,J2 v=AP 0 Tryz.prog Dm Ds Tryz.f23 Sh Sg Sf v:=by
 rintro⟨a0,⟨⟩⟩
 kernel_rfl
theorem AWa:AD (AS Tryz.f23) 0=[(0,AB Tryz.f23 0),(1,AB Tryz.f23 1)]:=by kernel_rfl
theorem AHP:AR Tryz.prog 23 (AF 0 1 Sh Sg Sf Km):=AH Cq Tryz.func23 (by kernel_rfl) (by kernel_rfl) rfl (fun v=>(Oy v).trans (ALJ v)) (AA AWa ⟨AQD,AQC,trivial⟩)
def AGL:Env:=Dm.ext 23 true true (AF 0 1 Sh Sg Sf Km)
theorem AKN:Aa Tryz.prog AGL:=Env.Af Cq AHP (fun _=>AL rfl rfl) (fun _=>AI rfl rfl)
theorem Ac6 : (Tryz.f64.name == "runtime.NumGoroutine") = false := by kernel_rfl
theorem AJn:ADi Tryz.prog Tryz.f64 43 3 (.int .i64) where
 body:=by kernel_rfl
 nt:=by kernel_rfl
 res:=by kernel_rfl
 d:=⟨by kernel_rfl,by kernel_rfl,by kernel_rfl,by kernel_rfl,by kernel_rfl,by kernel_rfl,by kernel_rfl,by kernel_rfl⟩
 g:=⟨by kernel_rfl,by kernel_rfl,by kernel_rfl,by kernel_rfl,by kernel_rfl,by kernel_rfl,by kernel_rfl,by kernel_rfl⟩
 o00:=by kernel_rfl
 o10:=by kernel_rfl
 o11:=by kernel_rfl
 o20:=by kernel_rfl
 o30:=by kernel_rfl
 o31:=by kernel_rfl
 o32:=by kernel_rfl
 o33:=by kernel_rfl
 sl:=by kernel_rfl
 z:=by kernel_rfl
 by1:=by kernel_rfl
def ADe:Env:=AGL.ext 64 true true (HP 3 (.int .i64))
theorem XG:Aa Tryz.prog ADe:=Env.Af AKN (Ac5 AJn Tryz.func64 Ac6) (fun _=>L5 _ _) (fun _=>(L5 _ _).Ag6)
abbrev Adz:Hints:={ fp:=fun n=>match n with|1=>[[0],[0],[2],[2],[],[0],[0],[2],[2],[],[],[20],[]]|_=>[] }
theorem AWh:∀ v,X7 v=AP 0 Tryz.prog ADe Adz Tryz.f60 AHb AHa AHZ v:=by
 rintro⟨a0,a1,⟨⟩⟩
 kernel_rfl
theorem Ady:AD (AS Tryz.f60) 0=[]:=by kernel_rfl
theorem AQK:AR Tryz.prog 60 (AF 0 2 AHb AHa AHZ BO):=AH XG Tryz.func60 (by kernel_rfl) (by kernel_rfl) rfl (fun v=>(ALS v).trans (AWh v)) (AA Ady trivial)
def Rp:Env:=ADe.ext 60 true true (AF 0 2 AHb AHa AHZ BO)
theorem Ln:Aa Tryz.prog Rp:=Env.Af XG AQK (fun _=>AL rfl rfl) (fun _=>AI rfl rfl)
abbrev ABg:Hints:={ loop:=fun n=>match n with|0=>Ac 1 53 AVM AVK AVI|1=>Ac 1 53 AVL AVJ AVH|_=>fun _ _ _=>none,fp:=fun n=>match n with|4=>[[],[],[],[],[],[],[],[0],[0],[],[],[],[0],[0],[],[],[]]|6=>[[],[],[],[],[],[],[],[],[0],[0],[],[],[0],[0],[0],[1],[0],[1]]|_=>[] }
theorem ASp:∀ v,AVH v=roundOf Tryz.prog Rp ABg 2 1 53 (AB Tryz.f115 1) AVL AVJ v:=by
 rintro⟨a0,a1,a2,a3,a4,⟨⟩⟩
 kernel_rfl
theorem Ae2:AD (AB Tryz.f115 1) 2=[]:=by kernel_rfl
theorem Ae4:Ab Tryz.prog 1 (.loop (AB Tryz.f115 1)) (ABg.loop 1):=AU Ln (ASp) (AA Ae2 trivial)
theorem ASq:∀ v,AVI v=roundOf Tryz.prog Rp ABg 1 1 53 (AB Tryz.f115 0) AVM AVK v:=by
 rintro⟨a0,a1,a2,a3,⟨⟩⟩
 kernel_rfl
theorem Ae3:AD (AB Tryz.f115 0) 1=[(1,AB Tryz.f115 1)]:=by kernel_rfl
theorem Ae5:Ab Tryz.prog 1 (.loop (AB Tryz.f115 0)) (ABg.loop 0):=AU Ln (ASq) (AA Ae3 ⟨Ae4,trivial⟩)
theorem Ab8:∀ v,Ab9 v=AP 1 Tryz.prog Rp ABg Tryz.f115 ASt ASs ASr v:=by
 rintro⟨a0,a1,a2,⟨⟩⟩
 kernel_rfl
theorem AgZ:AD (AS Tryz.f115) 0=[(0,AB Tryz.f115 0)]:=by kernel_rfl
theorem AYL:AR Tryz.prog 115 (AF 1 4 ASt ASs ASr Aga):=AH Ln Tryz.func115 (by kernel_rfl) (by kernel_rfl) rfl (fun v=>(Ae6 v).trans (Ab8 v)) (AA AgZ ⟨Ae5,trivial⟩)
def AKU:Env:=Rp.CE 115 3 60 (AF 1 4 ASt ASs ASr Aga)
theorem VX:Aa Tryz.prog AKU:=Env.Ay Ln AYL (AI rfl rfl)
abbrev AHk:Hints:={ loop:=fun n=>match n with|0=>Ac 1 82 ALa ALZ ALY|_=>fun _ _ _=>none,fp:=fun n=>match n with|6=>[[],[],[],[],[],[],[],[],[],[],[],[],[0],[0],[],[],[],[],[0],[0],[0],[1],[0],[1]]|5=>[[],[],[],[],[],[0],[0],[],[],[],[],[0],[0],[],[],[]]|3=>[[],[],[],[],[],[],[],[],[],[],[0],[0],[],[],[],[],[],[0],[0],[],[],[]]|_=>[] }
theorem ALX:∀ v,ALY v=roundOf Tryz.prog AKU AHk 1 1 82 (AB Tryz.f135 0) ALa ALZ v:=by
 rintro⟨a0,a1,a2,a3,⟨⟩⟩
 kernel_rfl
theorem AaY:AD (AB Tryz.f135 0) 1=[]:=by kernel_rfl
theorem AaZ:Ab Tryz.prog 1 (.loop (AB Tryz.f135 0)) (AHk.loop 0):=AU VX (ALX) (AA AaY trivial)
theorem AWk:∀ v,AUW v=AP 1 Tryz.prog AKU AHk Tryz.f135 AHj AHi AHh v:=by
 rintro⟨a0,a1,a2,a3,⟨⟩⟩
 kernel_rfl
theorem Ad5:AD (AS Tryz.f135) 0=[(0,AB Tryz.f135 0)]:=by kernel_rfl
theorem AQT:AR Tryz.prog 135 (AF 1 5 AHj AHi AHh Aab):=AH VX Tryz.func135 (by kernel_rfl) (by kernel_rfl) rfl (fun v=>(Aaa v).trans (AWk v)) (AA Ad5 ⟨AaZ,trivial⟩)
def Rr:Env:=AKU.CE 135 4 60 (AF 1 5 AHj AHi AHh Aab)
theorem Lp:Aa Tryz.prog Rr:=Env.Ay VX AQT (AI rfl rfl)
abbrev Q8:Hints:={ loop:=fun n=>match n with|0=>Ac 1 60 AN1 ANz ANx|1=>Ac 1 60 AN0 ANy ANv|_=>fun _ _ _=>none,fp:=fun n=>match n with|10=>[[],[],[],[],[],[],[],[],[],[],[0],[0],[],[],[0],[0],[0],[1],[0],[1]]|_=>[] }
theorem ANu:∀ v,ANv v=roundOf Tryz.prog Rr Q8 2 1 60 (AB Tryz.f116 1) AN0 ANy v:=by
 rintro⟨a0,a1,a2,a3,⟨⟩⟩
 kernel_rfl
theorem AcO:AD (AB Tryz.f116 1) 2=[]:=by kernel_rfl
theorem AcQ:Ab Tryz.prog 1 (.loop (AB Tryz.f116 1)) (Q8.loop 1):=AU Lp (ANu) (AA AcO trivial)
theorem ANw:∀ v,ANx v=roundOf Tryz.prog Rr Q8 1 1 60 (AB Tryz.f116 0) AN1 ANz v:=by
 rintro⟨a0,a1,a2,a3,a4,⟨⟩⟩
 kernel_rfl
theorem AcP:AD (AB Tryz.f116 0) 1=[]:=by kernel_rfl
theorem AcR:Ab Tryz.prog 1 (.loop (AB Tryz.f116 0)) (Q8.loop 0):=AU Lp (ANw) (AA AcP trivial)
theorem AYW:∀ v,AVR v=AP 1 Tryz.prog Rr Q8 Tryz.f116 AJH AJG AJF v:=by
 rintro⟨a0,a1,a2,⟨⟩⟩
 kernel_rfl
theorem AfB:AD (AS Tryz.f116) 0=[(0,AB Tryz.f116 0),(1,AB Tryz.f116 1)]:=by kernel_rfl
theorem ASy:AR Tryz.prog 116 (AF 1 4 AJH AJG AJF AcT):=AH Lp Tryz.func116 (by kernel_rfl) (by kernel_rfl) rfl (fun v=>(AcS v).trans (AYW v)) (AA AfB ⟨AcR,AcQ,trivial⟩)
def YQ:Env:=Rr.CE 116 3 60 (AF 1 4 AJH AJG AJF AcT)
theorem P7:Aa Tryz.prog YQ:=Env.Ay Lp ASy (AI rfl rfl)
abbrev AC5:Hints:={ loop:=fun n=>match n with|0=>Ac 1 67 AGB AGA AF9|_=>fun _ _ _=>none,fp:=fun n=>match n with|10=>[[],[],[],[],[],[],[],[],[],[],[0],[0],[],[],[0],[0],[0],[1],[0],[1]]|_=>[] }
theorem AJ3:∀ v,AF9 v=roundOf Tryz.prog YQ AC5 1 1 67 (AB Tryz.f117 0) AGB AGA v:=by
 rintro⟨a0,a1,a2,a3,a4,a5,⟨⟩⟩
 kernel_rfl
theorem AZK:AD (AB Tryz.f117 0) 1=[]:=by kernel_rfl
theorem AZL:Ab Tryz.prog 1 (.loop (AB Tryz.f117 0)) (AC5.loop 0):=AU P7 (AJ3) (AA AZK trivial)
theorem ATr:∀ v,AOx v=AP 1 Tryz.prog YQ AC5 Tryz.f117 AC4 AC3 AC2 v:=by
 rintro⟨a0,a1,a2,⟨⟩⟩
 kernel_rfl
theorem AdB:AD (AS Tryz.f117) 0=[(0,AB Tryz.f117 0)]:=by kernel_rfl
theorem AOw:AR Tryz.prog 117 (AF 1 4 AC4 AC3 AC2 ATs):=AH P7 Tryz.func117 (by kernel_rfl) (by kernel_rfl) rfl (fun v=>(AZM v).trans (ATr v)) (AA AdB ⟨AZL,trivial⟩)
def ADg:Env:=YQ.CE 117 3 60 (AF 1 4 AC4 AC3 AC2 ATs)
theorem XI:Aa Tryz.prog ADg:=Env.Ay P7 AOw (AI rfl rfl)
abbrev AXe:Hints:={ fp:=fun n=>match n with|1=>[[],[],[],[0],[0],[],[],[0],[0],[],[]]|_=>[] }
theorem ANE:∀ v,AFc v=AP 2 Tryz.prog ADg AXe Tryz.f155 TH TG TF v:=by
 rintro⟨a0,a1,a2,a3,⟨⟩⟩
 kernel_rfl
theorem AXd:AD (AS Tryz.f155) 0=[]:=by kernel_rfl
theorem AIW:AR Tryz.prog 155 (AF 2 5 TH TG TF AIX):=AH XI Tryz.func155 (by kernel_rfl) (by kernel_rfl) rfl (fun v=>(ARs v).trans (ANE v)) (AA AXd trivial)
def VR:Env:=ADg.CE 155 4 60 (AF 2 5 TH TG TF AIX)
theorem Rx:Aa Tryz.prog VR:=Env.Ay XI AIW (AI rfl rfl)
abbrev AXv:Hints:={  }
theorem ANP:∀ v,AFf v=AP 2 Tryz.prog VR AXv Tryz.f139 TU TT TS v:=by
 rintro⟨a0,a1,a2,a3,a4,⟨⟩⟩
 kernel_rfl
theorem AXu:AD (AS Tryz.f139) 0=[]:=by kernel_rfl
theorem AIk:AR Tryz.prog 139 (AF 2 6 TU TT TS AIl):=AH Rx Tryz.func139 (by kernel_rfl) (by kernel_rfl) rfl (fun v=>(ASH v).trans (ANP v)) (AA AXu trivial)
def VT:Env:=VR.CE 139 5 60 (AF 2 6 TU TT TS AIl)
theorem Rz:Aa Tryz.prog VT:=Env.Ay Rx AIk (AI rfl rfl)
abbrev AXz:Hints:={  }
theorem ANR:∀ v,AFh v=AP 2 Tryz.prog VT AXz Tryz.f138 Ta TZ TY v:=by
 rintro⟨a0,a1,a2,⟨⟩⟩
 kernel_rfl
theorem AXy:AD (AS Tryz.f138) 0=[]:=by kernel_rfl
theorem AIo:AR Tryz.prog 138 (AF 2 4 Ta TZ TY AIp):=AH Rz Tryz.func138 (by kernel_rfl) (by kernel_rfl) rfl (fun v=>(ASK v).trans (ANR v)) (AA AXy trivial)
def VV:Env:=VT.CE 138 3 60 (AF 2 4 Ta TZ TY AIp)
theorem R1:Aa Tryz.prog VV:=Env.Ay Rz AIo (AI rfl rfl)
abbrev Aa2:Hints:={  }
theorem ARL:∀ v,AL2 v=AP 1 Tryz.prog VV Aa2 Tryz.f118 AAQ AAP AAO v:=by
 rintro⟨a0,a1,a2,⟨⟩⟩
 kernel_rfl
theorem Aa1:AD (AS Tryz.f118) 0=[]:=by kernel_rfl
theorem AL1:AR Tryz.prog 118 (AF 1 4 AAQ AAP AAO ARM):=AH R1 Tryz.func118 (by kernel_rfl) (by kernel_rfl) rfl (fun v=>(AXK v).trans (ARL v)) (AA Aa1 trivial)
def Rv:Env:=VV.CE 118 3 60 (AF 1 4 AAQ AAP AAO ARM)
theorem NY:Aa Tryz.prog Rv:=Env.Ay R1 AL1 (AI rfl rfl)
end
end Go.Pev
end
section
namespace Go.Pev
open Go.Proofs
noncomputable section
abbrev AQ0:Hints:={ loop:=fun n=>match n with|0=>Ac 1 34 AUj AUi AUh|_=>fun _ _ _=>none,fp:=fun n=>match n with|3=>[[],[],[],[],[],[],[0],[0],[],[],[0],[0],[0],[1],[0],[1]]|_=>[] }
theorem AQw:∀ v,AUh v=roundOf Tryz.prog Rv AQ0 1 1 34 (AB Tryz.f119 0) AUj AUi v:=by
 rintro⟨a0,a1,a2,⟨⟩⟩
 kernel_rfl
theorem AeM:AD (AB Tryz.f119 0) 1=[]:=by kernel_rfl
theorem AeN:Ab Tryz.prog 1 (.loop (AB Tryz.f119 0)) (AQ0.loop 0):=AU NY (AQw) (AA AeM trivial)
theorem Aar:∀ v,Aas v=AP 1 Tryz.prog Rv AQ0 Tryz.f119 AQz AQy AQx v:=by
 rintro⟨a0,a1,a2,⟨⟩⟩
 kernel_rfl
theorem AgC:AD (AS Tryz.f119) 0=[(0,AB Tryz.f119 0)]:=by kernel_rfl
theorem AXA:AR Tryz.prog 119 (AF 1 4 AQz AQy AQx AgD):=AH NY Tryz.func119 (by kernel_rfl) (by kernel_rfl) rfl (fun v=>(AeO v).trans (Aar v)) (AA AgC ⟨AeN,trivial⟩)
def P5:Env:=Rv.CE 119 3 60 (AF 1 4 AQz AQy AQx AgD)
theorem HU:Aa Tryz.prog P5:=Env.Ay NY AXA (AI rfl rfl)
abbrev Cy:Hints:={ loop:=fun n=>match n with|0=>Ac 1 141 Wg Wc WY|1=>Ac 1 141 Wf Wb WX|2=>Ac 1 141 We Wa WW|3=>Ac 1 141 Wd WZ WV|_=>fun _ _ _=>none,fp:=fun n=>match n with|11=>[[],[],[],[],[],[],[],[],[0],[0],[],[],[0],[0],[0],[1],[0],[1]]|5=>[[],[],[],[],[],[],[],[0],[0],[],[],[],[0],[0],[],[],[],[]]|17=>[[],[],[],[],[],[],[],[],[0],[0],[],[],[0],[0],[0],[1],[0],[1]]|16=>[[],[],[],[0],[0],[],[],[],[0],[0],[],[],[]]|23=>[[],[],[],[],[],[],[],[],[0],[0],[],[],[0],[0],[0],[1],[0],[1]]|22=>[[],[],[],[0],[0],[],[],[],[0],[0],[],[],[]]|_=>[] }
theorem AAl:∀ v,WV v=roundOf Tryz.prog P5 Cy 4 1 141 (AB Tryz.f120 3) Wd WZ v:=by
 rintro⟨a0,a1,a2,a3,a4,a5,⟨⟩⟩
 kernel_rfl
theorem AMc:AD (AB Tryz.f120 3) 4=[]:=by kernel_rfl
theorem AMg:Ab Tryz.prog 1 (.loop (AB Tryz.f120 3)) (Cy.loop 3):=AU HU (AAl) (AA AMc trivial)
theorem AAm:∀ v,WW v=roundOf Tryz.prog P5 Cy 3 1 141 (AB Tryz.f120 2) We Wa v:=by
 rintro⟨a0,a1,a2,a3,a4,a5,⟨⟩⟩
 kernel_rfl
theorem AMd:AD (AB Tryz.f120 2) 3=[]:=by kernel_rfl
theorem AMh:Ab Tryz.prog 1 (.loop (AB Tryz.f120 2)) (Cy.loop 2):=AU HU (AAm) (AA AMd trivial)
theorem AAn:∀ v,WX v=roundOf Tryz.prog P5 Cy 2 1 141 (AB Tryz.f120 1) Wf Wb v:=by
 rintro⟨a0,a1,a2,a3,a4,⟨⟩⟩
 kernel_rfl
theorem AMe:AD (AB Tryz.f120 1) 2=[]:=by kernel_rfl
theorem AMi:Ab Tryz.prog 1 (.loop (AB Tryz.f120 1)) (Cy.loop 1):=AU HU (AAn) (AA AMe trivial)
theorem AAo:∀ v,WY v=roundOf Tryz.prog P5 Cy 1 1 141 (AB Tryz.f120 0) Wg Wc v:=by
 rintro⟨a0,a1,a2,a3,a4,⟨⟩⟩
 kernel_rfl
theorem AMf:AD (AB Tryz.f120 0) 1=[(1,AB Tryz.f120 1),(2,AB Tryz.f120 2),(3,AB Tryz.f120 3)]:=by kernel_rfl
theorem AMj:Ab Tryz.prog 1 (.loop (AB Tryz.f120 0)) (Cy.loop 0):=AU HU (AAo) (AA AMf ⟨AMi,AMh,AMg,trivial⟩)
theorem AIL:∀ v,AAp v=AP 1 Tryz.prog P5 Cy Tryz.f120 PG PF PE v:=by
 rintro⟨a0,a1,a2,⟨⟩⟩
 kernel_rfl
theorem ARY:AD (AS Tryz.f120) 0=[(0,AB Tryz.f120 0)]:=by kernel_rfl
theorem AEA:AR Tryz.prog 120 (AF 1 4 PG PF PE AAq):=AH HU Tryz.func120 (by kernel_rfl) (by kernel_rfl) rfl (fun v=>(AMk v).trans (AIL v)) (AA ARY ⟨AMj,trivial⟩)
def F5:Env:=P5.CE 120 3 60 (AF 1 4 PG PF PE AAq)
theorem EH:Aa Tryz.prog F5:=Env.Ay HU AEA (AI rfl rfl)
abbrev FZ:Hints:={ loop:=fun n=>match n with|0=>Ac 1 90 AA9 AA6 AA3|1=>Ac 1 90 AA8 AA5 AA2|2=>Ac 1 90 AA7 AA4 AA1|_=>fun _ _ _=>none,fp:=fun n=>match n with|8=>[[],[],[],[],[],[],[0],[0],[],[],[0],[0],[0],[1],[0],[1]]|3=>[[],[],[],[],[],[],[],[0],[0],[],[],[0],[0],[],[],[],[]]|5=>[[],[],[],[],[],[],[],[0],[0],[],[],[0],[0],[],[],[]]|1=>[[],[],[],[],[],[],[0],[0],[],[],[0],[0],[0],[1],[0],[1]]|_=>[] }
theorem AEG:∀ v,AA1 v=roundOf Tryz.prog F5 FZ 3 1 90 (AB Tryz.f121 2) AA7 AA4 v:=by
 rintro⟨a0,a1,a2,a3,⟨⟩⟩
 kernel_rfl
theorem ARi:AD (AB Tryz.f121 2) 3=[]:=by kernel_rfl
theorem ARl:Ab Tryz.prog 1 (.loop (AB Tryz.f121 2)) (FZ.loop 2):=AU EH (AEG) (AA ARi trivial)
theorem AEH:∀ v,AA2 v=roundOf Tryz.prog F5 FZ 2 1 90 (AB Tryz.f121 1) AA8 AA5 v:=by
 rintro⟨a0,a1,a2,a3,⟨⟩⟩
 kernel_rfl
theorem ARj:AD (AB Tryz.f121 1) 2=[]:=by kernel_rfl
theorem ARm:Ab Tryz.prog 1 (.loop (AB Tryz.f121 1)) (FZ.loop 1):=AU EH (AEH) (AA ARj trivial)
theorem AEI:∀ v,AA3 v=roundOf Tryz.prog F5 FZ 1 1 90 (AB Tryz.f121 0) AA9 AA6 v:=by
 rintro⟨a0,a1,a2,a3,⟨⟩⟩
 kernel_rfl
theorem ARk:AD (AB Tryz.f121 0) 1=[(1,AB Tryz.f121 1),(2,AB Tryz.f121 2)]:=by kernel_rfl
theorem ARn:Ab Tryz.prog 1 (.loop (AB Tryz.f121 0)) (FZ.loop 0):=AU EH (AEI) (AA ARk ⟨ARm,ARl,trivial⟩)
theorem AMr:∀ v,AFX v=AP 1 Tryz.prog F5 FZ Tryz.f121 TB TA S9 v:=by
 rintro⟨a0,a1,a2,a3,⟨⟩⟩
 kernel_rfl
theorem AXX:AD (AS Tryz.f121) 0=[(0,AB Tryz.f121 0)]:=by kernel_rfl
theorem AIP:AR Tryz.prog 121 (AF 1 5 TB TA S9 AIQ):=AH EH Tryz.func121 (by kernel_rfl) (by kernel_rfl) rfl (fun v=>(ARo v).trans (AMr v)) (AA AXX ⟨ARn,trivial⟩)
def Ew:Env:=F5.CE 121 4 60 (AF 1 5 TB TA S9 AIQ)
theorem DC:Aa Tryz.prog Ew:=Env.Ay EH AIP (AI rfl rfl)
abbrev E1:Hints:={ loop:=fun n=>match n with|0=>Ac 1 178 ANB AM6 AM1|1=>Ac 1 178 ANA AM5 AMz|2=>Ac 1 178 AM9 AM4 AMx|3=>Ac 1 178 AM8 AM3 AMv|4=>Ac 1 178 AM7 AM2 AMt|_=>fun _ _ _=>none,fp:=fun n=>match n with|3=>[[],[],[],[],[],[],[],[0],[0],[],[],[0],[0],[],[],[]]|5=>[[],[],[],[],[],[],[],[0],[0],[],[],[0],[0],[],[],[],[]]|18=>[[],[],[],[],[],[],[0],[0],[],[],[0],[0],[0],[1],[0],[1]]|13=>[[],[],[],[],[],[],[],[0],[0],[],[],[0],[0],[],[],[]]|15=>[[],[],[],[],[],[],[],[0],[0],[],[],[0],[0],[],[],[],[]]|21=>[[],[],[],[],[],[],[0],[0],[],[],[0],[0],[0],[1],[0],[1]]|10=>[[],[],[],[],[],[],[0],[0],[],[],[0],[0],[0],[1],[0],[1]]|8=>[[],[],[],[],[],[],[0],[0],[],[],[0],[0],[0],[1],[0],[1]]|1=>[[],[],[],[],[],[],[0],[0],[],[],[0],[0],[0],[1],[0],[1]]|_=>[] }
theorem AMs:∀ v,AMt v=roundOf Tryz.prog Ew E1 5 1 178 (AB Tryz.f122 4) AM7 AM2 v:=by
 rintro⟨a0,a1,a2,a3,⟨⟩⟩
 kernel_rfl
theorem AbL:AD (AB Tryz.f122 4) 5=[]:=by kernel_rfl
theorem AbQ:Ab Tryz.prog 1 (.loop (AB Tryz.f122 4)) (E1.loop 4):=AU DC (AMs) (AA AbL trivial)
theorem AMu:∀ v,AMv v=roundOf Tryz.prog Ew E1 4 1 178 (AB Tryz.f122 3) AM8 AM3 v:=by
 rintro⟨a0,a1,a2,a3,⟨⟩⟩
 kernel_rfl
theorem AbM:AD (AB Tryz.f122 3) 4=[]:=by kernel_rfl
theorem AbR:Ab Tryz.prog 1 (.loop (AB Tryz.f122 3)) (E1.loop 3):=AU DC (AMu) (AA AbM trivial)
theorem AMw:∀ v,AMx v=roundOf Tryz.prog Ew E1 3 1 178 (AB Tryz.f122 2) AM9 AM4 v:=by
 rintro⟨a0,a1,a2,a3,⟨⟩⟩
 kernel_rfl
theorem AbN:AD (AB Tryz.f122 2) 3=[(3,AB Tryz.f122 3),(4,AB Tryz.f122 4)]:=by kernel_rfl
theorem AbS:Ab Tryz.prog 1 (.loop (AB Tryz.f122 2)) (E1.loop 2):=AU DC (AMw) (AA AbN ⟨AbR,AbQ,trivial⟩)
theorem AMy:∀ v,AMz v=roundOf Tryz.prog Ew E1 2 1 178 (AB Tryz.f122 1) ANA AM5 v:=by
 rintro⟨a0,a1,a2,a3,⟨⟩⟩
 kernel_rfl
theorem AbO:AD (AB Tryz.f122 1) 2=[]:=by kernel_rfl
theorem AbT:Ab Tryz.prog 1 (.loop (AB Tryz.f122 1)) (E1.loop 1):=AU DC (AMy) (AA AbO trivial)
theorem AM0:∀ v,AM1 v=roundOf Tryz.prog Ew E1 1 1 178 (AB Tryz.f122 0) ANB AM6 v:=by
 rintro⟨a0,a1,a2,a3,⟨⟩⟩
 kernel_rfl
theorem AbP:AD (AB Tryz.f122 0) 1=[]:=by kernel_rfl
theorem AbU:Ab Tryz.prog 1 (.loop (AB Tryz.f122 0)) (E1.loop 0):=AU DC (AM0) (AA AbP trivial)
theorem AXY:∀ v,AUx v=AP 1 Tryz.prog Ew E1 Tryz.f122 AIT AIS AIR v:=by
 rintro⟨a0,a1,a2,a3,⟨⟩⟩
 kernel_rfl
theorem Aea:AD (AS Tryz.f122) 0=[(0,AB Tryz.f122 0),(1,AB Tryz.f122 1),(2,AB Tryz.f122 2)]:=by kernel_rfl
theorem ARp:AR Tryz.prog 122 (AF 1 5 AIT AIS AIR AbW):=AH DC Tryz.func122 (by kernel_rfl) (by kernel_rfl) rfl (fun v=>(AbV v).trans (AXY v)) (AA Aea ⟨AbU,AbT,AbS,trivial⟩)
def AKR:Env:=Ew.CE 122 4 60 (AF 1 5 AIT AIS AIR AbW)
theorem ADW:Aa Tryz.prog AKR:=Env.Ay DC ARp (AI rfl rfl)
abbrev ARU(self:(List (Int×Int×Unit)×Int×Int×Int×Unit)→Option ((List (Int×Int×Unit)×Unit))):Hints:={ loop:=fun n=>match n with|0=>Ac 1 148 AUv AUu (AUt self)|_=>fun _ _ _=>none,fp:=fun n=>match n with|17=>[[],[],[],[],[],[],[],[0],[0],[],[],[0],[0],[],[],[],[]]|_=>[] }
abbrev AIE(self:(List (Int×Int×Unit)×Int×Int×Int×Unit)→Option ((List (Int×Int×Unit)×Unit))):Env:=AKR.ext 88 false true (AF 1 5 AAd AAc AAb self)
theorem ART(self:(List (Int×Int×Unit)×Int×Int×Int×Unit)→Option ((List (Int×Int×Unit)×Unit))):∀ v,AUt self v=roundOf Tryz.prog (AIE self) (ARU self) 1 1 148 (AB Tryz.f88 0) AUv AUu v:=by
 rintro⟨a0,a1,a2,a3,a4,a5,⟨⟩⟩
 kernel_rfl
theorem AeV:AD (AB Tryz.f88 0) 1=[]:=by kernel_rfl
theorem AeW(self:(List (Int×Int×Unit)×Int×Int×Int×Unit)→Option ((List (Int×Int×Unit)×Unit)))(hE:Aa Tryz.prog (AIE self)):Ab Tryz.prog 1 (.loop (AB Tryz.f88 0)) ((ARU self).loop 0):=AU hE (ART self) (AA AeV trivial)
theorem Aa7(self:(List (Int×Int×Unit)×Int×Int×Int×Unit)→Option ((List (Int×Int×Unit)×Unit))):∀ v,AgJ self v=AP 1 Tryz.prog (AIE self) (ARU self) Tryz.f88 AAd AAc AAb v:=by
 rintro⟨a0,a1,a2,a3,⟨⟩⟩
 kernel_rfl
theorem AgI:AD (AS Tryz.f88) 0=[(0,AB Tryz.f88 0)]:=by kernel_rfl
theorem ARV:∀ n,AR Tryz.prog 88 (AF 1 5 AAd AAc AAb (AAe n)):=by
 intro n
 induction n with
 |zero=>exact Wi fun _=>rfl
 |succ n ih=>
  have hE:Aa Tryz.prog (AIE (AAe n)):=Env.Af ADW ih ((by simp)) (fun _=>AI rfl rfl)
  let self:=AAe n
  exact AH hE Tryz.func88 (by kernel_rfl) (by kernel_rfl) rfl (Aa7 self) (AA AgI ⟨(AeW self hE),trivial⟩)
theorem AXT:AR Tryz.prog 88 (AF 1 5 AAd AAc AAb AeY):=by
 have e:AeY=AAe 100:=funext AeX
 rw[e]
 exact ARV _
def AT9:Env:=AKR.CE 88 4 60 (AF 1 5 AAd AAc AAb AeY)
theorem AGP:Aa Tryz.prog AT9:=Env.Ay ADW AXT (AI rfl rfl)
abbrev Adw:Hints:={  }
theorem AWd:∀ v,AUP v=AP 1 Tryz.prog AT9 Adw Tryz.f59 AHV AHU AHT v:=by
 rintro⟨a0,⟨⟩⟩
 kernel_rfl
theorem Adv:AD (AS Tryz.f59) 0=[]:=by kernel_rfl
theorem AQF:AR Tryz.prog 59 (AF 1 2 AHV AHU AHT AE6):=AH AGP Tryz.func59 (by kernel_rfl) (by kernel_rfl) rfl (fun v=>(AaQ v).trans (AWd v)) (AA Adv trivial)
def AKO:Env:=AT9.CE 59 1 60 (AF 1 2 AHV AHU AHT AE6)
theorem ADO:Aa Tryz.prog AKO:=Env.Ay AGP AQF (AI rfl rfl)
abbrev Ac4:Hints:={  }
theorem ATf:∀ v,ACp v=AP 0 Tryz.prog AKO Ac4 Tryz.f75 ACo ACn ACm v:=by
 rintro⟨a0,a1,⟨⟩⟩
 kernel_rfl
theorem Ac3:AD (AS Tryz.f75) 0=[]:=by kernel_rfl
theorem AOh:AR Tryz.prog 75 (AF 0 2 ACo ACn ACm AJm):=AH ADO Tryz.func75 (by kernel_rfl) (by kernel_rfl) rfl (fun v=>(AY4 v).trans (ATf v)) (AA Ac3 trivial)
def ADd:Env:=AKO.ext 75 true true (AF 0 2 ACo ACn ACm AJm)
theorem XF:Aa Tryz.prog ADd:=Env.Af ADO AOh (fun _=>AL rfl rfl) (fun _=>AI rfl rfl)
abbrev Afx:Hints:={  }
theorem AZY:∀ v,APL v=AP 0 Tryz.prog ADd Afx Tryz.f98 APK APJ API v:=by
 rintro⟨a0,⟨⟩⟩
 kernel_rfl
theorem Afw:AD (AS Tryz.f98) 0=[]:=by kernel_rfl
theorem AV2:AR Tryz.prog 98 (AF 0 1 APK APJ API AdX):=AH XF Tryz.func98 (by kernel_rfl) (by kernel_rfl) rfl (fun v=>(AdW v).trans (AZY v)) (AA Afw trivial)
def AT3:Env:=ADd.ext 98 true true (AF 0 1 APK APJ API AdX)
theorem AGI:Aa Tryz.prog AT3:=Env.Af XF AV2 (fun _=>AL rfl rfl) (fun _=>AI rfl rfl)
abbrev AZD:Hints:={  }
theorem AOq:∀ v,VB v=AP 0 Tryz.prog AT3 AZD Tryz.f74 VA UZ UY v:=by
 rintro⟨a0,⟨⟩⟩
 kernel_rfl
theorem AZC:AD (AS Tryz.f74) 0=[]:=by kernel_rfl
theorem AJy:AR Tryz.prog 74 (AF 0 1 VA UZ UY YK):=AH AGI Tryz.func74 (by kernel_rfl) (by kernel_rfl) rfl (fun v=>(ATn v).trans (AOq v)) (AA AZC trivial)
def Vq:Env:=AT3.ext 74 true true (AF 0 1 VA UZ UY YK)
theorem R8:Aa Tryz.prog Vq:=Env.Af AGI AJy (fun _=>AL rfl rfl) (fun _=>AI rfl rfl)
abbrev AZg:Hints:={  }
theorem APP:∀ v,Yd v=AP 0 Tryz.prog Vq AZg Tryz.f71 Yc Yb Ya v:=by
 rintro⟨a0,⟨⟩⟩
 kernel_rfl
theorem AZf:AD (AS Tryz.f71) 0=[]:=by kernel_rfl
theorem AKo:AR Tryz.prog 71 (AF 0 1 Yc Yb Ya AGl):=AH R8 Tryz.func71 (by kernel_rfl) (by kernel_rfl) rfl (fun v=>(AV7 v).trans (APP v)) (AA AZf trivial)
def ADH:Env:=Vq.ext 71 true true (AF 0 1 Yc Yb Ya AGl)
theorem W1:Aa Tryz.prog ADH:=Env.Af R8 AKo (fun _=>AL rfl rfl) (fun _=>AI rfl rfl)
theorem APX:Tryz.f70.body.isSome=true:=by kernel_rfl
theorem APW : (Tryz.f70.name == "runtime.NumGoroutine") = false := by kernel_rfl
theorem APV:loops (AS Tryz.f70)=0:=by kernel_rfl
def HC:Env:=ADH.ext 70 false false (DF Tryz.prog ADH {} Tryz.f70)
theorem Gs:Aa Tryz.prog HC:=Env.Af W1 (Cr W1 Tryz.func70 APX APW APV) (by simp) (by simp)
abbrev Jc:Hints:={ loop:=fun n=>match n with|0=>Ac 0 19 M4 M3 H0|_=>fun _ _ _=>none }
theorem Q2:∀ v,H0 v=roundOf Tryz.prog HC Jc 1 0 19 (AB Tryz.f91 0) M4 M3 v:=by
 rintro⟨a0,a1,a2,⟨⟩⟩
 kernel_rfl
theorem ABp:AD (AB Tryz.f91 0) 1=[]:=by kernel_rfl
theorem ABq:Ab Tryz.prog 0 (.loop (AB Tryz.f91 0)) (Jc.loop 0):=AU Gs (Q2) (AA ABp trivial)
theorem Xa:∀ v,Jd v=AP 0 Tryz.prog HC Jc Tryz.f91 Jb Ja JZ v:=by
 rintro⟨a0,⟨⟩⟩
 kernel_rfl
theorem AEQ:AD (AS Tryz.f91) 0=[(0,AB Tryz.f91 0)]:=by kernel_rfl
theorem Tr:AR Tryz.prog 91 (AF 0 2 Jb Ja JZ Iy):=AH Gs Tryz.func91 (by kernel_rfl) (by kernel_rfl) rfl (fun v=>(ABr v).trans (Xa v)) (AA AEQ ⟨ABq,trivial⟩)
def Jv:Env:=HC.CE 91 1 70 (AF 0 2 Jb Ja JZ Iy)
theorem KY:Aa Tryz.prog Jv:=Env.Ay Gs Tr (AI rfl rfl)
end
end Go.Pev
end
section
namespace Go.Pev
open Go.Proofs
noncomputable section
abbrev ACc:Hints:={  }
theorem UO:∀ v,IH v=AP 0 Tryz.prog Jv ACc Tryz.f73 IG IF IE v:=by
 rintro⟨a0,⟨⟩⟩
 kernel_rfl
theorem ACb:AD (AS Tryz.f73) 0=[]:=by kernel_rfl
theorem RQ:AR Tryz.prog 73 (AF 0 2 IG IF IE HA):=AH KY Tryz.func73 (by kernel_rfl) (by kernel_rfl) rfl (fun v=>(Xj v).trans (UO v)) (AA ACb trivial)
def IV:Env:=Jv.CE 73 1 70 (AF 0 2 IG IF IE HA)
theorem JK:Aa Tryz.prog IV:=Env.Ay KY RQ (AI rfl rfl)
abbrev Jy:Hints:={ loop:=fun n=>match n with|0=>Ac 0 78 Yi Yg Oq|1=>Ac 0 78 Yh Yf Kf|_=>fun _ _ _=>none,fp:=fun n=>match n with|12=>[[2],[2],[],[],[],[],[],[10],[10],[8],[9,12]]|5=>[[],[],[],[],[],[],[],[],[37]]|_=>[] }
def Nh:Env:={ IV with keep:=false,rows:=false,arrs:=true }
theorem Kg:Aa Tryz.prog Nh:=JK
theorem ADk:∀ v,Kf v=roundOf Tryz.prog Nh Jy 2 0 78 (AB Tryz.f39 1) Yh Yf v:=by
 rintro⟨a0,a1,a2,a3,a4,a5,a6,a7,a8,a9,a10,⟨⟩⟩
 kernel_rfl
theorem APQ:AD (AB Tryz.f39 1) 2=[]:=by kernel_rfl
theorem APS:Ab Tryz.prog 0 (.loop (AB Tryz.f39 1)) (Jy.loop 1):=AU Kg (ADk) (AA APQ trivial)
theorem ADl:∀ v,Oq v=roundOf Tryz.prog Nh Jy 1 0 78 (AB Tryz.f39 0) Yi Yg v:=by
 rintro⟨a0,a1,a2,a3,a4,a5,a6,a7,⟨⟩⟩
 kernel_rfl
theorem APR:AD (AB Tryz.f39 0) 1=[(1,AB Tryz.f39 1)]:=by kernel_rfl
theorem APT:Ab Tryz.prog 0 (.loop (AB Tryz.f39 0)) (Jy.loop 0):=AU Kg (ADl) (AA APR ⟨APS,trivial⟩)
theorem AKq:∀ v,SS v=AP 0 Tryz.prog Nh Jy Tryz.f39 SR SQ SO v:=by
 rintro⟨a0,a1,⟨⟩⟩
 kernel_rfl
theorem AV8:AD (AS Tryz.f39) 0=[(0,AB Tryz.f39 0)]:=by kernel_rfl
theorem AGp:AR Tryz.prog 39 (AF 0 2 SR SQ SO QG):=AH Kg Tryz.func39 (by kernel_rfl) (by kernel_rfl) rfl (fun v=>(APU v).trans (AKq v)) (AA AV8 ⟨APT,trivial⟩)
def OB:Env:=IV.ext 39 true true (AF 0 2 SR SQ SO QG)
theorem Lh:Aa Tryz.prog OB:=Env.Af JK AGp (fun _=>AL rfl rfl) (fun _=>AI rfl rfl)
abbrev MK:Hints:={ loop:=fun n=>match n with|0=>Ac 0 28 QF QE Ke|_=>fun _ _ _=>none }
theorem XN:∀ v,Ke v=roundOf Tryz.prog OB MK 1 0 28 (AB Tryz.f40 0) QF QE v:=by
 rintro⟨a0,a1,a2,a3,a4,⟨⟩⟩
 kernel_rfl
theorem AGm:AD (AB Tryz.f40 0) 1=[]:=by kernel_rfl
theorem AGn:Ab Tryz.prog 0 (.loop (AB Tryz.f40 0)) (MK.loop 0):=AU Lh (XN) (AA AGm trivial)
theorem ADj:∀ v,ML v=AP 0 Tryz.prog OB MK Tryz.f40 MJ MH MG v:=by
 rintro⟨a0,a1,⟨⟩⟩
 kernel_rfl
theorem AKp:AD (AS Tryz.f40) 0=[(0,AB Tryz.f40 0)]:=by kernel_rfl
theorem Ye:AR Tryz.prog 40 (AF 0 2 MJ MH MG Ng):=AH Lh Tryz.func40 (by kernel_rfl) (by kernel_rfl) rfl (fun v=>(AGo v).trans (ADj v)) (AA AKp ⟨AGn,trivial⟩)
def JF:Env:=OB.ext 40 true true (AF 0 2 MJ MH MG Ng)
theorem IN:Aa Tryz.prog JF:=Env.Af Lh Ye (fun _=>AL rfl rfl) (fun _=>AI rfl rfl)
abbrev ACH:Hints:={ loop:=fun n=>match n with|0=>Ac 0 26 AF1 AF0 T6|_=>fun _ _ _=>none,fp:=fun n=>match n with|6=>[[],[],[],[],[],[],[],[],[]]|_=>[] }
theorem AJX:∀ v,T6 v=roundOf Tryz.prog JF ACH 1 0 26 (AB Tryz.f146 0) AF1 AF0 v:=by
 rintro⟨a0,a1,a2,a3,⟨⟩⟩
 kernel_rfl
theorem AYs:AD (AB Tryz.f146 0) 1=[]:=by kernel_rfl
theorem AYt:Ab Tryz.prog 0 (.loop (AB Tryz.f146 0)) (ACH.loop 0):=AU IN (AJX) (AA AYs trivial)
theorem ATB:∀ v,ACI v=AP 0 Tryz.prog JF ACH Tryz.f146 ACG ACF ACE v:=by
 rintro⟨a0,a1,⟨⟩⟩
 kernel_rfl
theorem Acm:AD (AS Tryz.f146) 0=[(0,AB Tryz.f146 0)]:=by kernel_rfl
theorem AON:AR Tryz.prog 146 (AF 0 2 ACG ACF ACE T7):=AH IN Tryz.func146 (by kernel_rfl) (by kernel_rfl) rfl (fun v=>(AYu v).trans (ATB v)) (AA Acm ⟨AYt,trivial⟩)
def R5:Env:=JF.ext 146 true true (AF 0 2 ACG ACF ACE T7)
theorem Nb:Aa Tryz.prog R5:=Env.Af IN AON (fun _=>AL rfl rfl) (fun _=>AI rfl rfl)
abbrev UB:Hints:={ loop:=fun n=>match n with|0=>Ac 0 32 ACK ACJ Ph|_=>fun _ _ _=>none }
theorem AEX:∀ v,Ph v=roundOf Tryz.prog R5 UB 1 0 32 (AB Tryz.f147 0) ACK ACJ v:=by
 rintro⟨a0,a1,a2,a3,⟨⟩⟩
 kernel_rfl
theorem ATD:AD (AB Tryz.f147 0) 1=[]:=by kernel_rfl
theorem ATE:Ab Tryz.prog 0 (.loop (AB Tryz.f147 0)) (UB.loop 0):=AU Nb (AEX) (AA ATD trivial)
theorem AOO:∀ v,UC v=AP 0 Tryz.prog R5 UB Tryz.f147 UA T9 T8 v:=by
 rintro⟨a0,a1,⟨⟩⟩
 kernel_rfl
theorem AYv:AD (AS Tryz.f147) 0=[(0,AB Tryz.f147 0)]:=by kernel_rfl
theorem AJY:AR Tryz.prog 147 (AF 0 3 UA T9 T8 YI):=AH Nb Tryz.func147 (by kernel_rfl) (by kernel_rfl) rfl (fun v=>(ATF v).trans (AOO v)) (AA AYv ⟨ATE,trivial⟩)
def VZ:Env:=R5.CE 147 2 146 (AF 0 3 UA T9 T8 YI)
theorem R6:Aa Tryz.prog VZ:=Env.Ay Nb AJY (AI rfl rfl)
abbrev AZa:Hints:={  }
theorem APM:∀ v,YZ v=AP 0 Tryz.prog VZ AZa Tryz.f129 YY YX YW v:=by
 rintro⟨a0,a1,⟨⟩⟩
 kernel_rfl
theorem AZZ:AD (AS Tryz.f129) 0=[]:=by kernel_rfl
theorem AKe:AR Tryz.prog 129 (AF 0 2 YY YX YW AGg):=AH R6 Tryz.func129 (by kernel_rfl) (by kernel_rfl) rfl (fun v=>(AV3 v).trans (APM v)) (AA AZZ trivial)
def ADF:Env:=VZ.ext 129 true true (AF 0 2 YY YX YW AGg)
theorem W0:Aa Tryz.prog ADF:=Env.Af R6 AKe (fun _=>AL rfl rfl) (fun _=>AI rfl rfl)
abbrev AV5:Hints:={  }
theorem AKf:∀ v,SN v=AP 0 Tryz.prog ADF AV5 Tryz.f99 SM SK SJ v:=by
 rintro⟨a0,⟨⟩⟩
 kernel_rfl
theorem AV4:AD (AS Tryz.f99) 0=[]:=by kernel_rfl
theorem AGh:AR Tryz.prog 99 (AF 0 1 SM SK SJ Xz):=AH W0 Tryz.func99 (by kernel_rfl) (by kernel_rfl) rfl (fun v=>(APN v).trans (AKf v)) (AA AV4 trivial)
def VN:Env:=ADF.ext 99 true true (AF 0 1 SM SK SJ Xz)
theorem Rg:Aa Tryz.prog VN:=Env.Af W0 AGh (fun _=>AL rfl rfl) (fun _=>AI rfl rfl)
theorem Af6:Tryz.f100.body.isSome=true:=by kernel_rfl
theorem Af5 : (Tryz.f100.name == "runtime.NumGoroutine") = false := by kernel_rfl
theorem Af4:loops (AS Tryz.f100)=0:=by kernel_rfl
def Rn:Env:=VN.ext 100 false false (DF Tryz.prog VN {} Tryz.f100)
theorem NV:Aa Tryz.prog Rn:=Env.Af Rg (Cr Rg Tryz.func100 Af6 Af5 Af4) (by simp) (by simp)
abbrev Jh:Hints:={ loop:=fun n=>match n with|0=>Ac 0 19 M6 M5 H3|_=>fun _ _ _=>none }
theorem Q3:∀ v,H3 v=roundOf Tryz.prog Rn Jh 1 0 19 (AB Tryz.f91 0) M6 M5 v:=by
 rintro⟨a0,a1,a2,⟨⟩⟩
 kernel_rfl
theorem ABs:AD (AB Tryz.f91 0) 1=[]:=by kernel_rfl
theorem ABt:Ab Tryz.prog 0 (.loop (AB Tryz.f91 0)) (Jh.loop 0):=AU NV (Q3) (AA ABs trivial)
theorem Xb:∀ v,Ji v=AP 0 Tryz.prog Rn Jh Tryz.f91 Jg Jf Je v:=by
 rintro⟨a0,⟨⟩⟩
 kernel_rfl
theorem AER:AD (AS Tryz.f91) 0=[(0,AB Tryz.f91 0)]:=by kernel_rfl
theorem Ts:AR Tryz.prog 91 (AF 0 2 Jg Jf Je Iz):=AH NV Tryz.func91 (by kernel_rfl) (by kernel_rfl) rfl (fun v=>(ABu v).trans (Xb v)) (AA AER ⟨ABt,trivial⟩)
def Jw:Env:=Rn.CE 91 1 100 (AF 0 2 Jg Jf Je Iz)
theorem KZ:Aa Tryz.prog Jw:=Env.Ay NV Ts (AI rfl rfl)
abbrev ACe:Hints:={  }
theorem UP:∀ v,IL v=AP 0 Tryz.prog Jw ACe Tryz.f73 IK IJ II v:=by
 rintro⟨a0,⟨⟩⟩
 kernel_rfl
theorem ACd:AD (AS Tryz.f73) 0=[]:=by kernel_rfl
theorem RR:AR Tryz.prog 73 (AF 0 2 IK IJ II HB):=AH KZ Tryz.func73 (by kernel_rfl) (by kernel_rfl) rfl (fun v=>(Xk v).trans (UP v)) (AA ACd trivial)
def IW:Env:=Jw.CE 73 1 100 (AF 0 2 IK IJ II HB)
theorem JL:Aa Tryz.prog IW:=Env.Ay KZ RR (AI rfl rfl)
abbrev Hh:Hints:={ loop:=fun n=>match n with|0=>Ac 0 100 AFF AFC Sq|1=>Ac 0 100 AFE AFB Sp|2=>Ac 0 100 AFD AFA So|_=>fun _ _ _=>none,fp:=fun n=>match n with|17=>[[],[],[0],[0],[],[],[0],[0],[],[]]|_=>[] }
def MW:Env:={ IW with keep:=false,rows:=true,arrs:=false }
theorem Ih:Aa Tryz.prog MW:=JL
theorem AHq:∀ v,So v=roundOf Tryz.prog MW Hh 3 0 100 (AB Tryz.f76 2) AFD AFA v:=by
 rintro⟨a0,a1,a2,a3,a4,a5,a6,a7,a8,a9,⟨⟩⟩
 kernel_rfl
theorem AWq:AD (AB Tryz.f76 2) 3=[]:=by kernel_rfl
theorem AWt:Ab Tryz.prog 0 (.loop (AB Tryz.f76 2)) (Hh.loop 2):=AU Ih (AHq) (AA AWq trivial)
theorem AHr:∀ v,Sp v=roundOf Tryz.prog MW Hh 2 0 100 (AB Tryz.f76 1) AFE AFB v:=by
 rintro⟨a0,a1,a2,a3,a4,a5,⟨⟩⟩
 kernel_rfl
theorem AWr:AD (AB Tryz.f76 1) 2=[(2,AB Tryz.f76 2)]:=by kernel_rfl
theorem AWu:Ab Tryz.prog 0 (.loop (AB Tryz.f76 1)) (Hh.loop 1):=AU Ih (AHr) (AA AWr ⟨AWt,trivial⟩)
theorem AHs:∀ v,Sq v=roundOf Tryz.prog MW Hh 1 0 100 (AB Tryz.f76 0) AFF AFC v:=by
 rintro⟨a0,a1,a2,a3,a4,a5,a6,a7,⟨⟩⟩
 kernel_rfl
theorem AWs:AD (AB Tryz.f76 0) 1=[]:=by kernel_rfl
theorem AWv:Ab Tryz.prog 0 (.loop (AB Tryz.f76 0)) (Hh.loop 0):=AU Ih (AHs) (AA AWs trivial)
theorem AQc:∀ v,Zg v=AP 0 Tryz.prog MW Hh Tryz.f76 Zf Ze Zd v:=by
 rintro⟨a0,a1,⟨⟩⟩
 kernel_rfl
theorem Aaf:AD (AS Tryz.f76) 0=[(0,AB Tryz.f76 0),(1,AB Tryz.f76 1)]:=by kernel_rfl
theorem ALf:AR Tryz.prog 76 (AF 0 2 Zf Ze Zd AHt):=AH Ih Tryz.func76 (by kernel_rfl) (by kernel_rfl) rfl (fun v=>(AWw v).trans (AQc v)) (AA Aaf ⟨AWv,AWu,trivial⟩)
def Rs:Env:=IW.ext 76 true true (AF 0 2 Zf Ze Zd AHt)
theorem NW:Aa Tryz.prog Rs:=Env.Af JL ALf (fun _=>AL rfl rfl) (fun _=>AI rfl rfl)
abbrev AAU:Hints:={ loop:=fun n=>match n with|0=>Ac 0 29 AFV AFU S4|_=>fun _ _ _=>none }
theorem AH8:∀ v,S4 v=roundOf Tryz.prog Rs AAU 1 0 29 (AB Tryz.f42 0) AFV AFU v:=by
 rintro⟨a0,a1,a2,a3,a4,a5,a6,⟨⟩⟩
 kernel_rfl
theorem AXM:AD (AB Tryz.f42 0) 1=[]:=by kernel_rfl
theorem AXN:Ab Tryz.prog 0 (.loop (AB Tryz.f42 0)) (AAU.loop 0):=AU NW (AH8) (AA AXM trivial)
theorem ARN:∀ v,AAV v=AP 0 Tryz.prog Rs AAU Tryz.f42 AAT AAS AAR v:=by
 rintro⟨a0,a1,⟨⟩⟩
 kernel_rfl
theorem Aa3:AD (AS Tryz.f42) 0=[(0,AB Tryz.f42 0)]:=by kernel_rfl
theorem AL4:AR Tryz.prog 42 (AF 0 2 AAT AAS AAR AH9):=AH NW Tryz.func42 (by kernel_rfl) (by kernel_rfl) rfl (fun v=>(AXO v).trans (ARN v)) (AA Aa3 ⟨AXN,trivial⟩)
def ADU:Env:=Rs.ext 42 true true (AF 0 2 AAT AAS AAR AH9)
theorem XA:Aa Tryz.prog ADU:=Env.Af NW AL4 (fun _=>AL rfl rfl) (fun _=>AI rfl rfl)
end
end Go.Pev
end
section
namespace Go.Pev
open Go.Proofs
noncomputable section
abbrev O7:Hints:={ loop:=fun n=>match n with|0=>Ac 0 108 AUc AUZ Ig|1=>Ac 0 108 AUb AUY Ie|2=>Ac 0 108 AUa AUX GB|_=>fun _ _ _=>none,fp:=fun n=>match n with|19=>[[],[0],[0],[0],[],[],[0],[0],[0],[],[4],[6],[6],[6],[6],[],[],[5,8],[5]]|6=>[[0],[0],[10],[10],[10],[],[],[],[],[],[],[],[20,22],[]]|_=>[] }
def Zc:Env:={ ADU with keep:=false,rows:=true,arrs:=true }
theorem Nm:Aa Tryz.prog Zc:=XA
theorem AQW:∀ v,GB v=roundOf Tryz.prog Zc O7 3 0 108 (AB Tryz.f27 2) AUa AUX v:=by
 rintro⟨a0,a1,a2,a3,a4,a5,a6,a7,a8,a9,a10,a11,a12,a13,a14,a15,a16,⟨⟩⟩
 kernel_rfl
theorem Ad9:AD (AB Tryz.f27 2) 3=[]:=by kernel_rfl
theorem AeC:Ab Tryz.prog 0 (.loop (AB Tryz.f27 2)) (O7.loop 2):=AU Nm (AQW) (AA Ad9 trivial)
theorem AQX:∀ v,Ie v=roundOf Tryz.prog Zc O7 2 0 108 (AB Tryz.f27 1) AUb AUY v:=by
 rintro⟨a0,a1,a2,a3,a4,a5,a6,a7,⟨⟩⟩
 kernel_rfl
theorem AeA:AD (AB Tryz.f27 1) 2=[(2,AB Tryz.f27 2)]:=by kernel_rfl
theorem AeD:Ab Tryz.prog 0 (.loop (AB Tryz.f27 1)) (O7.loop 1):=AU Nm (AQX) (AA AeA ⟨AeC,trivial⟩)
theorem AQY:∀ v,Ig v=roundOf Tryz.prog Zc O7 1 0 108 (AB Tryz.f27 0) AUc AUZ v:=by
 rintro⟨a0,a1,a2,a3,a4,a5,a6,a7,a8,a9,⟨⟩⟩
 kernel_rfl
theorem AeB:AD (AB Tryz.f27 0) 1=[]:=by kernel_rfl
theorem AeE:Ab Tryz.prog 0 (.loop (AB Tryz.f27 0)) (O7.loop 0):=AU Nm (AQY) (AA AeB trivial)
theorem Aae:∀ v,Zb v=ARP 0 Tryz.prog Zc O7 Tryz.f27 AQb AQa AQZ v:=by
 rintro⟨a0,a1,a2,⟨⟩⟩
 kernel_rfl
theorem Af8:AD (AS Tryz.f27) 0=[(0,AB Tryz.f27 0),(1,AB Tryz.f27 1)]:=by kernel_rfl
theorem AWn:AR Tryz.prog 27 (ANL 0 3 AQb AQa AQZ seen):=AdI Nm Tryz.func27 (by kernel_rfl) (by kernel_rfl) rfl (fun v=>(AHo v).trans (Aae v)) (AA Af8 ⟨AeE,AeD,trivial⟩)
def AT7:Env:=ADU.ext 27 false false (ANL 0 3 AQb AQa AQZ seen)
theorem AGN:Aa Tryz.prog AT7:=Env.Af XA AWn ((by simp)) (by simp)
abbrev AWg:Hints:={ fp:=fun n=>match n with|1=>[[],[0],[0],[0],[4],[4],[2],[],[0],[0],[0],[4],[4],[2],[],[],[]]|_=>[] }
theorem ALQ:∀ v,Nl v=AP 2 Tryz.prog AT7 AWg Tryz.f32 Sk Sj Si v:=by
 rintro⟨a0,a1,a2,a3,a4,⟨⟩⟩
 kernel_rfl
theorem AWf:AD (AS Tryz.f32) 0=[]:=by kernel_rfl
theorem AHY:AR Tryz.prog 32 (AF 2 2 Sk Sj Si Kq):=AH AGN Tryz.func32 (by kernel_rfl) (by kernel_rfl) rfl (fun v=>(ZX v).trans (ALQ v)) (AA AWf trivial)
def VP:Env:=AT7.ext 32 false true (AF 2 2 Sk Sj Si Kq)
theorem Ro:Aa Tryz.prog VP:=Env.Af AGN AHY ((by simp)) (fun _=>AI rfl rfl)
abbrev AQJ:Hints:={  }
theorem AHX:∀ v,Kp v=AP 2 Tryz.prog VP AQJ Tryz.f41 O5 O4 O3 v:=by
 rintro⟨a0,a1,a2,a3,a4,⟨⟩⟩
 kernel_rfl
theorem AQI:AD (AS Tryz.f41) 0=[]:=by kernel_rfl
theorem ADu:AR Tryz.prog 41 (AF 2 2 O5 O4 O3 Hg):=AH Ro Tryz.func41 (by kernel_rfl) (by kernel_rfl) rfl (fun v=>(WA v).trans (AHX v)) (AA AQI trivial)
def P1:Env:=VP.ext 41 false true (AF 2 2 O5 O4 O3 Hg)
theorem Oi:Aa Tryz.prog P1:=Env.Af Ro ADu ((by simp)) (fun _=>AI rfl rfl)
theorem ALP:Tryz.f65.body.isSome=true:=by kernel_rfl
theorem ALO : (Tryz.f65.name == "runtime.NumGoroutine") = false := by kernel_rfl
theorem ALN:loops (AS Tryz.f65)=0:=by kernel_rfl
def GP:Env:=P1.ext 65 false false (DF Tryz.prog P1 {} Tryz.f65)
theorem Fz:Aa Tryz.prog GP:=Env.Af Oi (Cr Oi Tryz.func65 ALP ALO ALN) (by simp) (by simp)
abbrev JY:Hints:={ loop:=fun n=>match n with|0=>Ac 4 19 My Mx Bw|_=>fun _ _ _=>none }
theorem Qz:∀ v,Bw v=roundOf Tryz.prog GP JY 1 4 19 (AB Tryz.f91 0) My Mx v:=by
 rintro⟨a0,a1,a2,a3,a4,a5,a6,⟨⟩⟩
 kernel_rfl
theorem ABn:AD (AB Tryz.f91 0) 1=[]:=by kernel_rfl
theorem ABo:Ab Tryz.prog 4 (.loop (AB Tryz.f91 0)) (JY.loop 0):=AU Fz (Qz) (AA ABn trivial)
theorem XZ:∀ v,GJ v=AP 4 Tryz.prog GP JY Tryz.f91 JX JW JV v:=by
 rintro⟨a0,a1,a2,a3,a4,⟨⟩⟩
 kernel_rfl
theorem AEP:AD (AS Tryz.f91) 0=[(0,AB Tryz.f91 0)]:=by kernel_rfl
theorem Tp:AR Tryz.prog 91 (AF 4 2 JX JW JV It):=AH Fz Tryz.func91 (by kernel_rfl) (by kernel_rfl) rfl (fun v=>(Mz v).trans (XZ v)) (AA AEP ⟨ABo,trivial⟩)
def GQ:Env:=GP.CE 91 1 65 (AF 4 2 JX JW JV It)
theorem F7:Aa Tryz.prog GQ:=Env.Ay Fz Tp (AI rfl rfl)
abbrev Jp:Hints:={ loop:=fun n=>match n with|0=>Ac 4 42 ND NC Co|_=>fun _ _ _=>none }
theorem RJ:∀ v,Co v=roundOf Tryz.prog GQ Jp 1 4 42 (AB Tryz.f63 0) ND NC v:=by
 rintro⟨a0,a1,a2,a3,a4,a5,a6,⟨⟩⟩
 kernel_rfl
theorem ACU:AD (AB Tryz.f63 0) 1=[]:=by kernel_rfl
theorem ACV:Ab Tryz.prog 4 (.loop (AB Tryz.f63 0)) (Jp.loop 0):=AU F7 (RJ) (AA ACU trivial)
theorem Xh:∀ v,GM v=AP 4 Tryz.prog GQ Jp Tryz.f63 Jo Jn Jm v:=by
 rintro⟨a0,a1,a2,a3,a4,⟨⟩⟩
 kernel_rfl
theorem AEa:AD (AS Tryz.f63) 0=[(0,AB Tryz.f63 0)]:=by kernel_rfl
theorem UK:AR Tryz.prog 63 (AF 4 2 Jo Jn Jm I8):=AH F7 Tryz.func63 (by kernel_rfl) (by kernel_rfl) rfl (fun v=>(NF v).trans (Xh v)) (AA AEa ⟨ACV,trivial⟩)
def Jx:Env:=GQ.CE 63 1 65 (J0 (AF 4 2 Jo Jn Jm I8))
theorem Kb:Aa Tryz.prog Jx:=Env.Ay F7 (Vv UK) (AUK rfl rfl)
abbrev AQH:Hints:={  }
theorem AHW:∀ v,Ko v=AP 2 Tryz.prog Jx AQH Tryz.f30 O2 O1 O0 v:=by
 rintro⟨a0,a1,a2,a3,⟨⟩⟩
 kernel_rfl
theorem AQG:AD (AS Tryz.f30) 0=[]:=by kernel_rfl
theorem ADt:AR Tryz.prog 30 (AF 2 1 O2 O1 O0 Hf):=AH Kb Tryz.func30 (by kernel_rfl) (by kernel_rfl) rfl (fun v=>(Vz v).trans (AHW v)) (AA AQG trivial)
def IQ:Env:=Jx.ext 30 false true (AF 2 1 O2 O1 O0 Hf)
theorem GO:Aa Tryz.prog IQ:=Env.Af Kb ADt ((by simp)) (fun _=>AI rfl rfl)
abbrev ZY:Hints:={ loop:=fun n=>match n with|0=>Ac 2 48 AUT AUR Kr|1=>Ac 2 48 AUS AUQ Ic|_=>fun _ _ _=>none,fp:=fun n=>match n with|9=>[[],[8],[4],[],[5],[],[5]]|_=>[] }
theorem AQL:∀ v,Ic v=roundOf Tryz.prog IQ ZY 2 2 48 (AB Tryz.f29 1) AUS AUQ v:=by
 rintro⟨a0,a1,a2,a3,a4,a5,a6,a7,a8,a9,a10,a11,⟨⟩⟩
 kernel_rfl
theorem Ad0:AD (AB Tryz.f29 1) 2=[]:=by kernel_rfl
theorem Ad2:Ab Tryz.prog 2 (.loop (AB Tryz.f29 1)) (ZY.loop 1):=AU GO (AQL) (AA Ad0 trivial)
theorem AQM:∀ v,Kr v=roundOf Tryz.prog IQ ZY 1 2 48 (AB Tryz.f29 0) AUT AUR v:=by
 rintro⟨a0,a1,a2,a3,a4,a5,a6,a7,a8,⟨⟩⟩
 kernel_rfl
theorem Ad1:AD (AB Tryz.f29 0) 1=[(1,AB Tryz.f29 1)]:=by kernel_rfl
theorem Ad3:Ab Tryz.prog 2 (.loop (AB Tryz.f29 0)) (ZY.loop 0):=AU GO (AQM) (AA Ad1 ⟨Ad2,trivial⟩)
theorem AaR:∀ v,AHc v=AP 2 Tryz.prog IQ ZY Tryz.f29 AQP AQO AQN v:=by
 rintro⟨a0,a1,a2,a3,a4,⟨⟩⟩
 kernel_rfl
theorem Af7:AD (AS Tryz.f29) 0=[(0,AB Tryz.f29 0)]:=by kernel_rfl
theorem AWi:AR Tryz.prog 29 (AF 2 2 AQP AQO AQN AQQ):=AH GO Tryz.func29 (by kernel_rfl) (by kernel_rfl) rfl (fun v=>(AUU v).trans (AaR v)) (AA Af7 ⟨Ad3,trivial⟩)
def AT6:Env:=IQ.ext 29 false true (AF 2 2 AQP AQO AQN AQQ)
theorem AGM:Aa Tryz.prog AT6:=Env.Af GO AWi ((by simp)) (fun _=>AI rfl rfl)
theorem Ads:Tryz.f31.body.isSome=true:=by kernel_rfl
theorem Adr : (Tryz.f31.name == "runtime.NumGoroutine") = false := by kernel_rfl
theorem Adq:loops (AS Tryz.f31)=0:=by kernel_rfl
def OC:Env:=AT6.ext 31 false false (DF Tryz.prog AT6 {} Tryz.f31)
theorem Ll:Aa Tryz.prog OC:=Env.Af AGM (Cr AGM Tryz.func31 Ads Adr Adq) (by simp) (by simp)
abbrev LL:Hints:={ loop:=fun n=>match n with|0=>Ac 4 19 OV OU CC|_=>fun _ _ _=>none }
theorem Tu:∀ v,CC v=roundOf Tryz.prog OC LL 1 4 19 (AB Tryz.f38 0) OV OU v:=by
 rintro⟨a0,a1,a2,a3,a4,a5,a6,⟨⟩⟩
 kernel_rfl
theorem AES:AD (AB Tryz.f38 0) 1=[]:=by kernel_rfl
theorem AET:Ab Tryz.prog 4 (.loop (AB Tryz.f38 0)) (LL.loop 0):=AU Ll (Tu) (AA AES trivial)
theorem ABw:∀ v,G6 v=AP 4 Tryz.prog OC LL Tryz.f38 LK LJ LI v:=by
 rintro⟨a0,a1,a2,a3,a4,⟨⟩⟩
 kernel_rfl
theorem AJA:AD (AS Tryz.f38) 0=[(0,AB Tryz.f38 0)]:=by kernel_rfl
theorem Xe:AR Tryz.prog 38 (AF 4 2 LK LJ LI LM):=AH Ll Tryz.func38 (by kernel_rfl) (by kernel_rfl) rfl (fun v=>(OW v).trans (ABw v)) (AA AJA ⟨AET,trivial⟩)
def HE:Env:=OC.CE 38 1 31 (AF 4 2 LK LJ LI LM)
theorem Gt:Aa Tryz.prog HE:=Env.Ay Ll Xe (AI rfl rfl)
abbrev Lb:Hints:={ loop:=fun n=>match n with|0=>Ac 4 42 Of Oe DK|_=>fun _ _ _=>none }
theorem UL:∀ v,DK v=roundOf Tryz.prog HE Lb 1 4 42 (AB Tryz.f28 0) Of Oe v:=by
 rintro⟨a0,a1,a2,a3,a4,a5,a6,⟨⟩⟩
 kernel_rfl
theorem AEb:AD (AB Tryz.f28 0) 1=[]:=by kernel_rfl
theorem AEc:Ab Tryz.prog 4 (.loop (AB Tryz.f28 0)) (Lb.loop 0):=AU Gt (UL) (AA AEb trivial)
theorem ACW:∀ v,G9 v=AP 4 Tryz.prog HE Lb Tryz.f28 La LZ LY v:=by
 rintro⟨a0,a1,a2,a3,a4,⟨⟩⟩
 kernel_rfl
theorem AJd:AD (AS Tryz.f28) 0=[(0,AB Tryz.f28 0)]:=by kernel_rfl
theorem Xi:AR Tryz.prog 28 (AF 4 2 La LZ LY IC):=AH Gt Tryz.func28 (by kernel_rfl) (by kernel_rfl) rfl (fun v=>(Og v).trans (ACW v)) (AA AJd ⟨AEc,trivial⟩)
def Lv:Env:=HE.CE 28 1 31 (J0 (AF 4 2 La LZ LY IC))
theorem L8:Aa Tryz.prog Lv:=Env.Ay Gt (Vv Xi) (AUK rfl rfl)
abbrev Af3:Hints:={ fp:=fun n=>match n with|4=>[[10],[10],[1000005,3,5],[1000005,3,13,5],[],[1000005,21,11,3,5],[],[]]|_=>[] }
theorem AaM:∀ v,ZO v=AP 0 Tryz.prog Lv Af3 Tryz.f11 AP5 AP4 AP3 v:=by
 rintro⟨a0,a1,a2,⟨⟩⟩
 kernel_rfl
theorem Af2:AD (AS Tryz.f11) 0=[]:=by kernel_rfl
theorem AWZ:AR Tryz.prog 11 (AF 0 3 AP5 AP4 AP3 AHO):=AH L8 Tryz.func11 (by kernel_rfl) (by kernel_rfl) rfl (fun v=>(AHN v).trans (AaM v)) (AA Af2 trivial)
def AT5:Env:=Lv.ext 11 true true (AF 0 3 AP5 AP4 AP3 AHO)
theorem AGK:Aa Tryz.prog AT5:=Env.Af L8 AWZ (fun _=>AL rfl rfl) (fun _=>AI rfl rfl)
end
end Go.Pev
end
section
namespace Go.Pev
open Go.Proofs
noncomputable section
abbrev AaK:Hints:={  }
theorem AP2:∀ v,ZN v=AP 0 Tryz.prog AT5 AaK Tryz.f13 ZM ZL ZK v:=by
 rintro⟨a0,a1,a2,a3,⟨⟩⟩
 kernel_rfl
theorem AaJ:AD (AS Tryz.f13) 0=[]:=by kernel_rfl
theorem ALI:AR Tryz.prog 13 (AF 0 4 ZM ZL ZK AHM):=AH AGK Tryz.func13 (by kernel_rfl) (by kernel_rfl) rfl (fun v=>(AWY v).trans (AP2 v)) (AA AaJ trivial)
def Rl:Env:=AT5.ext 13 true true (AF 0 4 ZM ZL ZK AHM)
theorem NU:Aa Tryz.prog Rl:=Env.Af AGK ALI (fun _=>AL rfl rfl) (fun _=>AI rfl rfl)
abbrev LQ:Hints:={ loop:=fun n=>match n with|0=>Ac 2 19 OY OX Cc|_=>fun _ _ _=>none }
theorem Tv:∀ v,Cc v=roundOf Tryz.prog Rl LQ 1 2 19 (AB Tryz.f38 0) OY OX v:=by
 rintro⟨a0,a1,a2,a3,a4,a5,a6,⟨⟩⟩
 kernel_rfl
theorem AEU:AD (AB Tryz.f38 0) 1=[]:=by kernel_rfl
theorem AEV:Ab Tryz.prog 2 (.loop (AB Tryz.f38 0)) (LQ.loop 0):=AU NU (Tv) (AA AEU trivial)
theorem ABx:∀ v,G7 v=AP 2 Tryz.prog Rl LQ Tryz.f38 LP LO LN v:=by
 rintro⟨a0,a1,a2,a3,a4,⟨⟩⟩
 kernel_rfl
theorem AJB:AD (AS Tryz.f38) 0=[(0,AB Tryz.f38 0)]:=by kernel_rfl
theorem Xf:AR Tryz.prog 38 (AF 2 2 LP LO LN H8):=AH NU Tryz.func38 (by kernel_rfl) (by kernel_rfl) rfl (fun v=>(OZ v).trans (ABx v)) (AA AJB ⟨AEV,trivial⟩)
def HF:Env:=Rl.CE 38 1 32 (AF 2 2 LP LO LN H8)
theorem Gu:Aa Tryz.prog HF:=Env.Ay NU Xf (AI rfl rfl)
abbrev AHL:Hints:={ loop:=fun n=>match n with|0=>Ac 0 66 ALH ALG GS|_=>fun _ _ _=>none,fp:=fun n=>match n with|11=>[[],[],[6],[6],[0],[1],[0],[1]]|_=>[] }
theorem ALF:∀ v,GS v=roundOf Tryz.prog HF AHL 1 0 66 (AB Tryz.f15 0) ALH ALG v:=by
 rintro⟨a0,a1,a2,a3,a4,a5,a6,a7,a8,a9,⟨⟩⟩
 kernel_rfl
theorem AaH:AD (AB Tryz.f15 0) 1=[]:=by kernel_rfl
theorem AaI:Ab Tryz.prog 0 (.loop (AB Tryz.f15 0)) (AHL.loop 0):=AU Gu (ALF) (AA AaH trivial)
theorem AWW:∀ v,QM v=AP 0 Tryz.prog HF AHL Tryz.f15 AHK AHJ AHI v:=by
 rintro⟨a0,a1,a2,⟨⟩⟩
 kernel_rfl
theorem Adp:AD (AS Tryz.f15) 0=[(0,AB Tryz.f15 0)]:=by kernel_rfl
theorem AP0:AR Tryz.prog 15 (AF 0 3 AHK AHJ AHI MQ):=AH Gu Tryz.func15 (by kernel_rfl) (by kernel_rfl) rfl (fun v=>(ZJ v).trans (AWW v)) (AA Adp ⟨AaI,trivial⟩)
def YO:Env:=HF.ext 15 true true (AF 0 3 AHK AHJ AHI MQ)
theorem Pz:Aa Tryz.prog YO:=Env.Af Gu AP0 (fun _=>AL rfl rfl) (fun _=>AI rfl rfl)
abbrev ZD:Hints:={ loop:=fun n=>match n with|0=>Ac 0 65 AE4 AE3 Se|_=>fun _ _ _=>none,fp:=fun n=>match n with|4=>[[],[4],[4],[4],[],[4],[4],[4],[],[],[12],[],[],[],[3]]|_=>[] }
theorem AHF:∀ v,Se v=roundOf Tryz.prog YO ZD 1 0 65 (AB Tryz.f18 0) AE4 AE3 v:=by
 rintro⟨a0,a1,a2,a3,a4,a5,a6,a7,a8,a9,a10,⟨⟩⟩
 kernel_rfl
theorem AWQ:AD (AB Tryz.f18 0) 1=[]:=by kernel_rfl
theorem AWR:Ab Tryz.prog 0 (.loop (AB Tryz.f18 0)) (ZD.loop 0):=AU Pz (AHF) (AA AWQ trivial)
theorem APu:∀ v,ZE v=AP 0 Tryz.prog YO ZD Tryz.f18 ZC ZB ZA v:=by
 rintro⟨a0,a1,a2,a3,⟨⟩⟩
 kernel_rfl
theorem AaG:AD (AS Tryz.f18) 0=[(0,AB Tryz.f18 0)]:=by kernel_rfl
theorem ALD:AR Tryz.prog 18 (AF 0 4 ZC ZB ZA AHG):=AH Pz Tryz.func18 (by kernel_rfl) (by kernel_rfl) rfl (fun v=>(AWS v).trans (APu v)) (AA AaG ⟨AWR,trivial⟩)
def ADN:Env:=YO.ext 18 true true (AF 0 4 ZC ZB ZA AHG)
theorem W5:Aa Tryz.prog ADN:=Env.Af Pz ALD (fun _=>AL rfl rfl) (fun _=>AI rfl rfl)
abbrev AZT:Hints:={  }
theorem AO6:∀ v,VJ v=AP 0 Tryz.prog ADN AZT Tryz.f9 VI VH VG v:=by
 rintro⟨⟨⟩⟩
 kernel_rfl
theorem AZS:AD (AS Tryz.f9) 0=[]:=by kernel_rfl
theorem AKE:AR Tryz.prog 9 (AF 0 0 VI VH VG JD):=AH W5 Tryz.func9 (by kernel_rfl) (by kernel_rfl) rfl (fun v=>(ATy v).trans (AO6 v)) (AA AZS trivial)
def Vs:Env:=ADN.ext 9 true true (AF 0 0 VI VH VG JD)
theorem SA:Aa Tryz.prog Vs:=Env.Af W5 AKE (fun _=>AL rfl rfl) (fun _=>AI rfl rfl)
abbrev AYd:Hints:={  }
theorem AN7:∀ v,Nz v=AP 0 Tryz.prog Vs AYd Tryz.f10 T2 Tz Tx v:=by
 rintro⟨a0,⟨⟩⟩
 kernel_rfl
theorem AYc:AD (AS Tryz.f10) 0=[]:=by kernel_rfl
theorem AJN:AR Tryz.prog 10 (AF 0 1 T2 Tz Tx N0):=AH SA Tryz.func10 (by kernel_rfl) (by kernel_rfl) rfl (fun v=>(ABy v).trans (AN7 v)) (AA AYc trivial)
def AGU:Env:=Vs.ext 10 true true (AF 0 1 T2 Tz Tx N0)
theorem AKV:Aa Tryz.prog AGU:=Env.Af SA AJN (fun _=>AL rfl rfl) (fun _=>AI rfl rfl)
abbrev ADx:Hints:={  }
theorem XU:∀ v,GC v=AP 0 Tryz.prog AGU ADx Tryz.f7 JQ JP JO v:=by
 rintro⟨a0,a1,⟨⟩⟩
 kernel_rfl
theorem ADw:AD (AS Tryz.f7) 0=[]:=by kernel_rfl
theorem Sm:AR Tryz.prog 7 (AF 0 2 JQ JP JO Ef):=AH AKV Tryz.func7 (by kernel_rfl) (by kernel_rfl) rfl (fun v=>(MT v).trans (XU v)) (AA ADw trivial)
end
end Go.Pev
end
section

end
