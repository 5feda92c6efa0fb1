/- A part of the proofs of this seat: G26aP10 G26aP11 G26aP12 G26aP13 G26aP14 G26aP. -/
import Derived.Test.YtfojmhgomdbpfaaGreatPf4cda23ff6
set_option linter.unusedVariables false
set_option linter.unusedSimpArgs false
set_option linter.unusedSectionVars false
set_option maxRecDepth 100000
section
namespace Go.Pev
open Go.Proofs
noncomputable section
abbrev Ac1:Hints:={  }
theorem AQc:∀ v,Jb v=AK 0 Tryz.prog XD Ac1 Tryz.f110 Tt Ts Tq v:=by
 rintro⟨a0,⟨⟩⟩
 kernel_rfl
theorem Ac0:AD (AQ Tryz.f110) 0=[]:=by kernel_rfl
theorem ALY:AO Tryz.prog 110 (AF 0 1 Tt Ts Tq KT):=AH S5 Tryz.func110 (by kernel_rfl) (by kernel_rfl) rfl (fun v=>(PV v).trans (AQc v)) (AA Ac0 trivial)
def Ww:Env:=XD.ext 110 true true (AF 0 1 Tt Ts Tq KT)
theorem Sf:AW Tryz.prog Ww:=Env.AZ S5 ALY (fun _=>AI rfl rfl) (fun _=>AG rfl rfl)
abbrev AhU:Hints:={  }
theorem AVz:∀ v,Q0 v=AK 0 Tryz.prog Ww AhU Tryz.f153 ABJ ABI ABH v:=by
 rintro⟨a0,a1,⟨⟩⟩
 kernel_rfl
theorem AhT:AD (AQ Tryz.f153) 0=[]:=by kernel_rfl
theorem AQR:AO Tryz.prog 153 (AF 0 2 ABJ ABI ABH ABK):=AH Sf Tryz.func153 (by kernel_rfl) (by kernel_rfl) rfl (fun v=>(AIJ v).trans (AVz v)) (AA AhT trivial)
def AF2:Env:=Ww.ext 153 true true (AF 0 2 ABJ ABI ABH ABK)
theorem YV:AW Tryz.prog AF2:=Env.AZ Sf AQR (fun _=>AI rfl rfl) (fun _=>AG rfl rfl)
abbrev Ahq:Hints:={  }
theorem AWU:∀ v,Q8 v=AK 0 Tryz.prog AF2 Ahq Tryz.f138 ABk ABj ABi v:=by
 rintro⟨a0,a1,a2,⟨⟩⟩
 kernel_rfl
theorem Ahp:AD (AQ Tryz.f138) 0=[]:=by kernel_rfl
theorem AQt:AO Tryz.prog 138 (AF 0 3 ABk ABj ABi PX):=AH YV Tryz.func138 (by kernel_rfl) (by kernel_rfl) rfl (fun v=>(AIP v).trans (AWU v)) (AA Ahp trivial)
def Sh:Env:=AF2.ext 138 true true (AF 0 3 ABk ABj ABi PX)
theorem NO:AW Tryz.prog Sh:=Env.AZ YV AQt (fun _=>AI rfl rfl) (fun _=>AG rfl rfl)
abbrev ALc:Hints:={ loop:=fun n=>match n with|0=>Ab 0 37 AQj AQi Hb|_=>fun _ _ _=>none }
theorem AQh:∀ v,Hb v=roundOf Tryz.prog Sh ALc 1 0 37 (AB Tryz.f113 0) AQj AQi v:=by
 rintro⟨a0,a1,a2,a3,a4,a5,⟨⟩⟩
 kernel_rfl
theorem Ahe:AD (AB Tryz.f113 0) 1=[]:=by kernel_rfl
theorem Ahf:Aa Tryz.prog 0 (.loop (AB Tryz.f113 0)) (ALc.loop 0):=AT NO (AQh) (AA Ahe trivial)
theorem Ac3:∀ v,ZT v=AK 0 Tryz.prog Sh ALc Tryz.f113 ALb ALa ALZ v:=by
 rintro⟨a0,a1,⟨⟩⟩
 kernel_rfl
theorem Alq:AD (AQ Tryz.f113) 0=[(0,AB Tryz.f113 0)]:=by kernel_rfl
theorem AV7:AO Tryz.prog 113 (AF 0 2 ALb ALa ALZ AQl):=AH NO Tryz.func113 (by kernel_rfl) (by kernel_rfl) rfl (fun v=>(AQk v).trans (Ac3 v)) (AA Alq ⟨Ahf,trivial⟩)
def OK:Env:=Sh.ext 113 true true (AF 0 2 ALb ALa ALZ AQl)
theorem IB:AW Tryz.prog OK:=Env.AZ NO AV7 (fun _=>AI rfl rfl) (fun _=>AG rfl rfl)
abbrev ABl:Hints:={ loop:=fun n=>match n with|0=>Ab 0 91 Ah0 Ahw Pa|1=>Ab 0 91 Ahz Ahv PZ|2=>Ab 0 91 Ahy Ahu PY|_=>fun _ _ _=>none,fp:=fun n=>match n with|10=>[[],[],[],[0],[0],[],[],[0],[0],[],[0],[1]]|_=>[] }
theorem AdF:∀ v,PY v=roundOf Tryz.prog OK ABl 3 0 91 (AB Tryz.f112 2) Ahy Ahu v:=by
 rintro⟨a0,a1,a2,a3,a4,a5,a6,a7,⟨⟩⟩
 kernel_rfl
theorem AoA:AD (AB Tryz.f112 2) 3=[]:=by kernel_rfl
theorem AoD:Aa Tryz.prog 0 (.loop (AB Tryz.f112 2)) (ABl.loop 2):=AT IB (AdF) (AA AoA trivial)
theorem AdG:∀ v,PZ v=roundOf Tryz.prog OK ABl 2 0 91 (AB Tryz.f112 1) Ahz Ahv v:=by
 rintro⟨a0,a1,a2,a3,a4,a5,a6,⟨⟩⟩
 kernel_rfl
theorem AoB:AD (AB Tryz.f112 1) 2=[]:=by kernel_rfl
theorem AoE:Aa Tryz.prog 0 (.loop (AB Tryz.f112 1)) (ABl.loop 1):=AT IB (AdG) (AA AoB trivial)
theorem AdH:∀ v,Pa v=roundOf Tryz.prog OK ABl 1 0 91 (AB Tryz.f112 0) Ah0 Ahw v:=by
 rintro⟨a0,a1,a2,a3,a4,a5,a6,a7,⟨⟩⟩
 kernel_rfl
theorem AoC:AD (AB Tryz.f112 0) 1=[]:=by kernel_rfl
theorem AoF:Aa Tryz.prog 0 (.loop (AB Tryz.f112 0)) (ABl.loop 0):=AT IB (AdH) (AA AoC trivial)
theorem Al3:∀ v,Aag v=AK 0 Tryz.prog OK ABl Tryz.f112 Ah1 Ahx Aht v:=by
 rintro⟨a0,a1,a2,a3,⟨⟩⟩
 kernel_rfl
theorem Aoz:AD (AQ Tryz.f112) 0=[(0,AB Tryz.f112 0),(1,AB Tryz.f112 1),(2,AB Tryz.f112 2)]:=by kernel_rfl
theorem Ahs:AO Tryz.prog 112 (AF 0 4 Ah1 Ahx Aht rby):=AH IB Tryz.func112 (by kernel_rfl) (by kernel_rfl) rfl (fun v=>(Ah2 v).trans (Al3 v)) (AA Aoz ⟨AoF,AoE,AoD,trivial⟩)
def AlD:Env:=OK.ext 112 true true (AF 0 4 Ah1 Ahx Aht rby)
theorem AUq:AW Tryz.prog AlD:=Env.AZ IB Ahs (fun _=>AI rfl rfl) (fun _=>AG rfl rfl)
abbrev APx:Hints:={  }
theorem AGY:∀ v,IN v=AK 0 Tryz.prog AlD APx Tryz.f196 MM ML MK v:=by
 rintro⟨a0,a1,⟨⟩⟩
 kernel_rfl
theorem APw:AD (AQ Tryz.f196) 0=[]:=by kernel_rfl
theorem AAk:AO Tryz.prog 196 (AF 0 2 MM ML MK HJ):=AH AUq Tryz.func196 (by kernel_rfl) (by kernel_rfl) rfl (fun v=>(Qo v).trans (AGY v)) (AA APw trivial)
def Iw:Env:=AlD.ext 196 true true (AF 0 2 MM ML MK HJ)
theorem IA:AW Tryz.prog Iw:=Env.AZ AUq AAk (fun _=>AI rfl rfl) (fun _=>AG rfl rfl)
abbrev TV:Hints:={ loop:=fun n=>match n with|0=>Ab 0 72 AAc AAb EE|_=>fun _ _ _=>none }
theorem AGW:∀ v,EE v=roundOf Tryz.prog Iw TV 1 0 72 (AB Tryz.f202 0) AAc AAb v:=by
 rintro⟨a0,a1,a2,a3,a4,a5,⟨⟩⟩
 kernel_rfl
theorem AVI:AD (AB Tryz.f202 0) 1=[]:=by kernel_rfl
theorem AVJ:Aa Tryz.prog 0 (.loop (AB Tryz.f202 0)) (TV.loop 0):=AT IA (AGW) (AA AVI trivial)
theorem APr:∀ v,Ni v=AK 0 Tryz.prog Iw TV Tryz.f202 TU TT TS v:=by
 rintro⟨a0,⟨⟩⟩
 kernel_rfl
theorem AcP:AD (AQ Tryz.f202) 0=[(0,AB Tryz.f202 0)]:=by kernel_rfl
theorem AKp:AO Tryz.prog 202 (AF 0 1 TU TT TS Nj):=AH IA Tryz.func202 (by kernel_rfl) (by kernel_rfl) rfl (fun v=>(AAd v).trans (APr v)) (AA AcP ⟨AVJ,trivial⟩)
def Ws:Env:=Iw.ext 202 true true (AF 0 1 TU TT TS Nj)
theorem SW:AW Tryz.prog Ws:=Env.AZ IA AKp (fun _=>AI rfl rfl) (fun _=>AG rfl rfl)
abbrev AcO:Hints:={  }
theorem APq:∀ v,Nh v=AK 0 Tryz.prog Ws AcO Tryz.f209 TR TQ TP v:=by
 rintro⟨a0,a1,⟨⟩⟩
 kernel_rfl
theorem AcN:AD (AQ Tryz.f209) 0=[]:=by kernel_rfl
theorem AKo:AO Tryz.prog 209 (AF 0 2 TR TQ TP KP):=AH SW Tryz.func209 (by kernel_rfl) (by kernel_rfl) rfl (fun v=>(AAa v).trans (APq v)) (AA AcN trivial)
def Wr:Env:=Ws.ext 209 true true (AF 0 2 TR TQ TP KP)
theorem SV:AW Tryz.prog Wr:=Env.AZ SW AKo (fun _=>AI rfl rfl) (fun _=>AG rfl rfl)
abbrev AcM:Hints:={  }
theorem APp:∀ v,Ng v=AK 0 Tryz.prog Wr AcM Tryz.f210 TO TN TM v:=by
 rintro⟨a0,⟨⟩⟩
 kernel_rfl
theorem AcL:AD (AQ Tryz.f210) 0=[]:=by kernel_rfl
theorem AKn:AO Tryz.prog 210 (AF 0 1 TO TN TM IM):=AH SV Tryz.func210 (by kernel_rfl) (by kernel_rfl) rfl (fun v=>(AAZ v).trans (APp v)) (AA AcL trivial)
def Wq:Env:=Wr.ext 210 true true (AF 0 1 TO TN TM IM)
theorem SU:AW Tryz.prog Wq:=Env.AZ SV AKn (fun _=>AI rfl rfl) (fun _=>AG rfl rfl)
abbrev AcR:Hints:={ fp:=fun n=>match n with|1=>[[0],[],[],[],[],[0],[0],[],[],[],[],[0],[0],[],[],[]]|_=>[] }
theorem APt:∀ v,Nk v=AK 0 Tryz.prog Wq AcR Tryz.f205 TY TX TW v:=by
 rintro⟨a0,a1,⟨⟩⟩
 kernel_rfl
theorem AcQ:AD (AQ Tryz.f205) 0=[]:=by kernel_rfl
theorem AKq:AO Tryz.prog 205 (AF 0 2 TY TX TW Nl):=AH SU Tryz.func205 (by kernel_rfl) (by kernel_rfl) rfl (fun v=>(AAi v).trans (APt v)) (AA AcQ trivial)
def Wt:Env:=Wq.ext 205 true true (AF 0 2 TY TX TW Nl)
theorem SY:AW Tryz.prog Wt:=Env.AZ SU AKq (fun _=>AI rfl rfl) (fun _=>AG rfl rfl)
abbrev AcU:Hints:={  }
theorem APz:∀ v,Nm v=AK 0 Tryz.prog Wt AcU Tryz.f189 Tb Ta TZ v:=by
 rintro⟨a0,a1,⟨⟩⟩
 kernel_rfl
theorem AcT:AD (AQ Tryz.f189) 0=[]:=by kernel_rfl
theorem AKu:AO Tryz.prog 189 (AF 0 2 Tb Ta TZ Qp):=AH SY Tryz.func189 (by kernel_rfl) (by kernel_rfl) rfl (fun v=>(AAl v).trans (APz v)) (AA AcT trivial)
def AJx:Env:=Wt.ext 189 true true (AF 0 2 Tb Ta TZ Qp)
theorem AOy:AW Tryz.prog AJx:=Env.AZ SY AKu (fun _=>AI rfl rfl) (fun _=>AG rfl rfl)
theorem Afs : (Tryz.f211.name == "runtime.NumGoroutine") = false := by kernel_rfl
theorem AHZ:Lv Tryz.prog Tryz.f211 171 199 (.prod (.int .i64) (.prod (.int .i64) (.prod (.int .i64) (.prod (.int .i64) .unit)))) where
 body:=by kernel_rfl
 nt:=by kernel_rfl
 res:=by kernel_rfl
 d:=⟨by kernel_rfl,by kernel_rfl,by kernel_rfl,by kernel_rfl,by kernel_rfl,by kernel_rfl,by kernel_rfl,by kernel_rfl⟩
 g:=⟨by kernel_rfl,by kernel_rfl,by kernel_rfl,by kernel_rfl,by kernel_rfl,by kernel_rfl,by kernel_rfl,by kernel_rfl⟩
 o00:=by kernel_rfl
 o10:=by kernel_rfl
 o11:=by kernel_rfl
 o20:=by kernel_rfl
 o30:=by kernel_rfl
 o31:=by kernel_rfl
 o32:=by kernel_rfl
 o33:=by kernel_rfl
 sl:=by kernel_rfl
 z:=by kernel_rfl
 by1:=by kernel_rfl
def AJ7:Env:=AJx.ext 211 true true (El 199 (.prod (.int .i64) (.prod (.int .i64) (.prod (.int .i64) (.prod (.int .i64) .unit)))))
theorem APA:AW Tryz.prog AJ7:=Env.AZ AOy (AE3 AHZ Tryz.func211 Afs) (fun _=>CR _ _) (fun _=>(CR _ _).AlU)
end
end Go.Pev
end
section
namespace Go.Pev
open Go.Proofs
noncomputable section
theorem Akc : (Tryz.f212.name == "runtime.NumGoroutine") = false := by kernel_rfl
theorem AN9:Lv Tryz.prog Tryz.f212 104 4 .bool where
 body:=by kernel_rfl
 nt:=by kernel_rfl
 res:=by kernel_rfl
 d:=⟨by kernel_rfl,by kernel_rfl,by kernel_rfl,by kernel_rfl,by kernel_rfl,by kernel_rfl,by kernel_rfl,by kernel_rfl⟩
 g:=⟨by kernel_rfl,by kernel_rfl,by kernel_rfl,by kernel_rfl,by kernel_rfl,by kernel_rfl,by kernel_rfl,by kernel_rfl⟩
 o00:=by kernel_rfl
 o10:=by kernel_rfl
 o11:=by kernel_rfl
 o20:=by kernel_rfl
 o30:=by kernel_rfl
 o31:=by kernel_rfl
 o32:=by kernel_rfl
 o33:=by kernel_rfl
 sl:=by kernel_rfl
 z:=by kernel_rfl
 by1:=by kernel_rfl
def AUv:Env:=AJ7.ext 212 true true (El 4 .bool)
theorem AUu:AW Tryz.prog AUv:=Env.AZ APA (AE3 AN9 Tryz.func212 Akc) (fun _=>CR _ _) (fun _=>(CR _ _).AlU)
theorem Akb : (Tryz.f198.name == "runtime.NumGoroutine") = false := by kernel_rfl
theorem AN8:Lv Tryz.prog Tryz.f198 76 41 (.slice (.int .i64)) where
 body:=by kernel_rfl
 nt:=by kernel_rfl
 res:=by kernel_rfl
 d:=⟨by kernel_rfl,by kernel_rfl,by kernel_rfl,by kernel_rfl,by kernel_rfl,by kernel_rfl,by kernel_rfl,by kernel_rfl⟩
 g:=⟨by kernel_rfl,by kernel_rfl,by kernel_rfl,by kernel_rfl,by kernel_rfl,by kernel_rfl,by kernel_rfl,by kernel_rfl⟩
 o00:=by kernel_rfl
 o10:=by kernel_rfl
 o11:=by kernel_rfl
 o20:=by kernel_rfl
 o30:=by kernel_rfl
 o31:=by kernel_rfl
 o32:=by kernel_rfl
 o33:=by kernel_rfl
 sl:=by kernel_rfl
 z:=by kernel_rfl
 by1:=by kernel_rfl
def AUt:Env:=AUv.ext 198 true true (El 41 (.slice (.int .i64)))
theorem AUs:AW Tryz.prog AUt:=Env.AZ AUu (AE3 AN8 Tryz.func198 Akb) (fun _=>CR _ _) (fun _=>(CR _ _).AlU)
theorem AnN : (Tryz.f207.name == "runtime.NumGoroutine") = false := by kernel_rfl
theorem ATx:AJ8 Tryz.prog Tryz.f207 41 3 1 where
 body:=by kernel_rfl
 nt:=by kernel_rfl
 res:=by kernel_rfl
 d:=⟨by kernel_rfl,by kernel_rfl,by kernel_rfl,by kernel_rfl,by kernel_rfl,by kernel_rfl,by kernel_rfl,by kernel_rfl⟩
 g:=⟨by kernel_rfl,by kernel_rfl,by kernel_rfl,by kernel_rfl,by kernel_rfl,by kernel_rfl,by kernel_rfl,by kernel_rfl⟩
 o00:=by kernel_rfl
 o10:=by kernel_rfl
 o11:=by kernel_rfl
 o12:=by kernel_rfl
 o13:=by kernel_rfl
 o14:=by kernel_rfl
 o15:=by kernel_rfl
 o16:=by kernel_rfl
 sl:=by kernel_rfl
 sz:=by kernel_rfl
def APB:Env:=AUt.ext 207 true true (NB 1)
theorem AGM:AW Tryz.prog APB:=Env.AZ AUs (AnM ATx Tryz.func207 AnN) (fun _=>NA _) (fun _=>(NA _).AlU)
abbrev Agr:Hints:={ fp:=fun n=>match n with|11=>[[0],[0],[],[12],[12],[],[],[],[],[12],[12],[],[],[],[31,38],[0],[1]]|10=>[[12],[12],[12],[],[],[],[]]|6=>[[12],[],[0],[0],[],[],[12],[12],[],[],[]]|_=>[] }
theorem AVL:∀ v,Qn v=AK 0 Tryz.prog APB Agr Tryz.f206 AAg AAf AAe v:=by
 rintro⟨a0,a1,⟨⟩⟩
 kernel_rfl
theorem Agq:AD (AQ Tryz.f206) 0=[]:=by kernel_rfl
theorem APs:AO Tryz.prog 206 (AF 0 2 AAg AAf AAe AAh):=AH AGM Tryz.func206 (by kernel_rfl) (by kernel_rfl) rfl (fun v=>(AHy v).trans (AVL v)) (AA Agq trivial)
def SX:Env:=APB.ext 206 true true (AF 0 2 AAg AAf AAe AAh)
theorem NN:AW Tryz.prog SX:=Env.AZ AGM APs (fun _=>AI rfl rfl) (fun _=>AG rfl rfl)
abbrev PI:Hints:={ loop:=fun n=>match n with|0=>Ab 1 32 XN XM DM|_=>fun _ _ _=>none }
theorem AAj:∀ v,DM v=roundOf Tryz.prog SX PI 1 1 32 (AB Tryz.f213 0) XN XM v:=by
 rintro⟨a0,a1,⟨⟩⟩
 kernel_rfl
theorem APu:AD (AB Tryz.f213 0) 1=[]:=by kernel_rfl
theorem APv:Aa Tryz.prog 1 (.loop (AB Tryz.f213 0)) (PI.loop 0):=AT NN (AAj) (AA APu trivial)
theorem AKs:∀ v,KQ v=AK 1 Tryz.prog SX PI Tryz.f213 PH PG PF v:=by
 rintro⟨a0,a1,⟨⟩⟩
 kernel_rfl
theorem AVM:AD (AQ Tryz.f213) 0=[(0,AB Tryz.f213 0)]:=by kernel_rfl
theorem AGX:AO Tryz.prog 213 (AF 1 2 PH PG PF MJ):=AH NN Tryz.func213 (by kernel_rfl) (by kernel_rfl) rfl (fun v=>(XO v).trans (AKs v)) (AA AVM ⟨APv,trivial⟩)
def La:Env:=SX.ext 213 false true (AF 1 2 PH PG PF MJ)
theorem JN:AW Tryz.prog La:=Env.AZ NN AGX ((by simp)) (fun _=>AG rfl rfl)
abbrev AVR:Hints:={ loop:=fun n=>match n with|0=>Ab 0 67 AaN AaM KR|_=>fun _ _ _=>none,fp:=fun n=>match n with|12=>[[0],[0],[0],[8],[8],[1000005,3],[7],[],[]]|7=>[[0],[0],[],[0],[0],[],[0],[1],[0],[1]]|5=>[[12],[],[0],[0],[],[],[12],[12],[],[],[],[0],[0],[12],[12],[],[],[]]|_=>[] }
theorem AVN:∀ v,KR v=roundOf Tryz.prog La AVR 1 0 67 (AB Tryz.f208 0) AaN AaM v:=by
 rintro⟨a0,a1,a2,a3,a4,a5,a6,a7,a8,⟨⟩⟩
 kernel_rfl
theorem AlY:AD (AB Tryz.f208 0) 1=[]:=by kernel_rfl
theorem AlZ:Aa Tryz.prog 0 (.loop (AB Tryz.f208 0)) (AVR.loop 0):=AT JN (AVN) (AA AlY trivial)
theorem Agt:∀ v,AKt v=AK 0 Tryz.prog La AVR Tryz.f208 AVQ AVP AVO v:=by
 rintro⟨a0,a1,⟨⟩⟩
 kernel_rfl
theorem An0:AD (AQ Tryz.f208) 0=[(0,AB Tryz.f208 0)]:=by kernel_rfl
theorem AcS:AO Tryz.prog 208 (AF 0 2 AVQ AVP AVO Agu):=AH JN Tryz.func208 (by kernel_rfl) (by kernel_rfl) rfl (fun v=>(AaO v).trans (Agt v)) (AA An0 ⟨AlZ,trivial⟩)
def AZ7:Env:=La.ext 208 true true (AF 0 2 AVQ AVP AVO Agu)
theorem AJw:AW Tryz.prog AZ7:=Env.AZ JN AcS (fun _=>AI rfl rfl) (fun _=>AG rfl rfl)
abbrev AZn:Hints:={  }
theorem AOR:∀ v,LQ v=AK 0 Tryz.prog AZ7 AZn Tryz.f203 QM QL QK v:=by
 rintro⟨a0,⟨⟩⟩
 kernel_rfl
theorem AZm:AD (AQ Tryz.f203) 0=[]:=by kernel_rfl
theorem AHe:AO Tryz.prog 203 (AF 0 1 QM QL QK J6):=AH AJw Tryz.func203 (by kernel_rfl) (by kernel_rfl) rfl (fun v=>(YJ v).trans (AOR v)) (AA AZm trivial)
def Qb:Env:=AZ7.ext 203 true true (AF 0 1 QM QL QK J6)
theorem PA:AW Tryz.prog Qb:=Env.AZ AJw AHe (fun _=>AI rfl rfl) (fun _=>AG rfl rfl)
abbrev Ake:Hints:={ fp:=fun n=>match n with|1=>[[],[],[],[],[0],[0],[],[],[],[],[0],[0],[],[],[],[],[],[],[],[0],[],[],[],[0],[0],[0],[0],[],[],[],[],[],[],[],[],[],[]]|_=>[] }
theorem AZi:∀ v,R9 v=AK 0 Tryz.prog Qb Ake Tryz.f204 AFB AFA AE9 v:=by
 rintro⟨a0,a1,⟨⟩⟩
 kernel_rfl
theorem Akd:AD (AQ Tryz.f204) 0=[]:=by kernel_rfl
theorem AT7:AO Tryz.prog 204 (AF 0 2 AFB AFA AE9 AFC):=AH PA Tryz.func204 (by kernel_rfl) (by kernel_rfl) rfl (fun v=>(AJe v).trans (AZi v)) (AA Akd trivial)
def NZ:Env:=Qb.ext 204 true true (AF 0 2 AFB AFA AE9 AFC)
theorem I3:AW Tryz.prog NZ:=Env.AZ PA AT7 (fun _=>AI rfl rfl) (fun _=>AG rfl rfl)
abbrev Mz:Hints:={ loop:=fun n=>match n with|0=>Ab 0 67 AJb AJZ F8|1=>Ab 0 67 AJa AJY Ek|_=>fun _ _ _=>none }
theorem ANz:∀ v,Ek v=roundOf Tryz.prog NZ Mz 2 0 67 (AB Tryz.f197 1) AJa AJY v:=by
 rintro⟨a0,a1,a2,a3,a4,a5,a6,a7,a8,a9,a10,a11,a12,a13,⟨⟩⟩
 kernel_rfl
theorem Afg:AD (AB Tryz.f197 1) 2=[]:=by kernel_rfl
theorem Afi:Aa Tryz.prog 0 (.loop (AB Tryz.f197 1)) (Mz.loop 1):=AT I3 (ANz) (AA Afg trivial)
theorem AN0:∀ v,F8 v=roundOf Tryz.prog NZ Mz 1 0 67 (AB Tryz.f197 0) AJb AJZ v:=by
 rintro⟨a0,a1,a2,a3,a4,a5,a6,a7,a8,a9,a10,⟨⟩⟩
 kernel_rfl
theorem Afh:AD (AB Tryz.f197 0) 1=[(1,AB Tryz.f197 1)]:=by kernel_rfl
theorem Afj:Aa Tryz.prog 0 (.loop (AB Tryz.f197 0)) (Mz.loop 0):=AT I3 (AN0) (AA Afh ⟨Afi,trivial⟩)
theorem AZO:∀ v,Rx v=AK 0 Tryz.prog NZ Mz Tryz.f197 AEq AEp AEo v:=by
 rintro⟨a0,⟨⟩⟩
 kernel_rfl
theorem AkX:AD (AQ Tryz.f197) 0=[(0,AB Tryz.f197 0)]:=by kernel_rfl
theorem ATn:AO Tryz.prog 197 (AF 0 1 AEq AEp AEo AEr):=AH I3 Tryz.func197 (by kernel_rfl) (by kernel_rfl) rfl (fun v=>(AJc v).trans (AZO v)) (AA AkX ⟨Afj,trivial⟩)
def AGL:Env:=NZ.ext 197 true true (AF 0 1 AEq AEp AEo AEr)
theorem Yg:AW Tryz.prog AGL:=Env.AZ I3 ATn (fun _=>AI rfl rfl) (fun _=>AG rfl rfl)
abbrev Akr:Hints:={  }
def AUH:Env:={ AGL with keep:=true }
theorem AUG:AW Tryz.prog AUH:=Yg
theorem AZp:∀ v,SB v=AK 0 Tryz.prog AUH Akr Tryz.f173 AFK AFJ AFI v:=by
 rintro⟨a0,a1,a2,⟨⟩⟩
 kernel_rfl
theorem Akq:AD (AQ Tryz.f173) 0=[]:=by kernel_rfl
theorem AUF:AO Tryz.prog 173 (AF 0 3 AFK AFJ AFI AFL):=AH AUG Tryz.func173 (by kernel_rfl) (by kernel_rfl) rfl (fun v=>(AJg v).trans (AZp v)) (AA Akq trivial)
def S8:Env:=AGL.ext 173 true true (AF 0 3 AFK AFJ AFI AFL)
theorem Na:AW Tryz.prog S8:=Env.AZ Yg AUF (fun _=>AI rfl rfl) (fun _=>AG rfl rfl)
abbrev AON:Hints:={ loop:=fun n=>match n with|0=>Ab 0 18 AUA AT9 Hz|_=>fun _ _ _=>none }
theorem AT8:∀ v,Hz v=roundOf Tryz.prog S8 AON 1 0 18 (AB Tryz.f191 0) AUA AT9 v:=by
 rintro⟨a0,a1,a2,a3,⟨⟩⟩
 kernel_rfl
theorem Akf:AD (AB Tryz.f191 0) 1=[]:=by kernel_rfl
theorem Akg:Aa Tryz.prog 0 (.loop (AB Tryz.f191 0)) (AON.loop 0):=AT Na (AT8) (AA Akf trivial)
theorem Af0:∀ v,Zl v=AK 0 Tryz.prog S8 AON Tryz.f191 AOM AOL AOK v:=by
 rintro⟨a0,⟨⟩⟩
 kernel_rfl
theorem AnO:AD (AQ Tryz.f191) 0=[(0,AB Tryz.f191 0)]:=by kernel_rfl
theorem AZj:AO Tryz.prog 191 (AF 0 1 AOM AOL AOK AUC):=AH Na Tryz.func191 (by kernel_rfl) (by kernel_rfl) rfl (fun v=>(AUB v).trans (Af0 v)) (AA AnO ⟨Akg,trivial⟩)
def APC:Env:=S8.ext 191 true true (AF 0 1 AOM AOL AOK AUC)
theorem AGN:AW Tryz.prog APC:=Env.AZ Na AZj (fun _=>AI rfl rfl) (fun _=>AG rfl rfl)
abbrev Afp:Hints:={  }
theorem ATw:∀ v,OB v=AK 2 Tryz.prog APC Afp Tryz.f199 WX WW WV v:=by
 rintro⟨a0,a1,a2,a3,a4,a5,a6,a7,a8,a9,a10,a11,⟨⟩⟩
 kernel_rfl
theorem Afo:AD (AQ Tryz.f199) 0=[]:=by kernel_rfl
theorem AN6:AO Tryz.prog 199 (AF 2 2 WX WW WV OC):=AH AGN Tryz.func199 (by kernel_rfl) (by kernel_rfl) rfl (fun v=>(AE1 v).trans (ATw v)) (AA Afo trivial)
def XF:Env:=APC.ext 199 false true (AF 2 2 WX WW WV OC)
theorem S7:AW Tryz.prog XF:=Env.AZ AGN AN6 ((by simp)) (fun _=>AG rfl rfl)
end
end Go.Pev
end
section
namespace Go.Pev
open Go.Proofs
noncomputable section
abbrev Akn:Hints:={ fp:=fun n=>match n with|9=>[[],[0],[0],[0],[0],[],[],[],[2],[3]]|6=>[[],[0],[0],[0],[0],[],[],[],[],[],[2],[3]]|1=>[[],[0],[0],[0],[0],[],[2],[2],[],[0],[0],[0],[0],[],[2],[2],[],[]]|_=>[] }
theorem AZl:∀ v,SA v=AK 2 Tryz.prog XF Akn Tryz.f200 AFF AFE AFD v:=by
 rintro⟨a0,a1,a2,a3,a4,a5,a6,a7,a8,a9,a10,a11,a12,⟨⟩⟩
 kernel_rfl
theorem Akm:AD (AQ Tryz.f200) 0=[]:=by kernel_rfl
theorem AUE:AO Tryz.prog 200 (AF 2 3 AFF AFE AFD AFG):=AH S7 Tryz.func200 (by kernel_rfl) (by kernel_rfl) rfl (fun v=>(AJf v).trans (AZl v)) (AA Akm trivial)
def AGO:Env:=XF.ext 200 false true (AF 2 3 AFF AFE AFD AFG)
theorem Yh:AW Tryz.prog AGO:=Env.AZ S7 AUE ((by simp)) (fun _=>AG rfl rfl)
abbrev Ao7:Hints:={ fp:=fun n=>match n with|9=>[[],[],[0],[0],[0],[0],[],[0],[0],[0],[0],[],[],[],[],[],[0],[0],[0],[1],[],[]]|6=>[[],[0],[0],[0],[0],[],[],[0],[0],[0],[0],[],[2],[2],[],[],[],[],[28],[2],[3,30]]|3=>[[],[],[0],[0],[0],[0],[],[0],[0],[0],[0],[],[],[],[],[],[],[0],[0],[0],[1],[],[],[]]|1=>[[],[0],[0],[0],[0],[],[0],[0],[0],[0],[]]|_=>[] }
theorem AnQ:∀ v,Abg v=AK 2 Tryz.prog AGO Ao7 Tryz.f201 Akk Akj Aki v:=by
 rintro⟨a0,a1,a2,a3,a4,a5,a6,a7,a8,a9,a10,a11,⟨⟩⟩
 kernel_rfl
theorem Ao6:AD (AQ Tryz.f201) 0=[]:=by kernel_rfl
theorem Akh:AO Tryz.prog 201 (AF 2 2 Akk Akj Aki cgo):=AH Yh Tryz.func201 (by kernel_rfl) (by kernel_rfl) rfl (fun v=>(Akl v).trans (AnQ v)) (AA Ao6 trivial)
def AlF:Env:=AGO.ext 201 false true (AF 2 2 Akk Akj Aki cgo)
theorem AUw:AW Tryz.prog AlF:=Env.AZ Yh Akh ((by simp)) (fun _=>AG rfl rfl)
abbrev AnI:Hints:={ fp:=fun n=>match n with|18=>[[],[14],[14],[14],[],[14],[14],[14],[3],[5],[]]|14=>[[],[14],[14],[14],[],[14],[14],[14],[3],[5],[]]|_=>[] }
theorem Aff:∀ v,Zk v=AK 0 Tryz.prog AlF AnI Tryz.f190 ANx ANw ANv v:=by
 rintro⟨a0,a1,a2,⟨⟩⟩
 kernel_rfl
theorem AnH:AD (AQ Tryz.f190) 0=[]:=by kernel_rfl
theorem AZM:AO Tryz.prog 190 (AF 0 3 ANx ANw ANv ATk):=AH AUw Tryz.func190 (by kernel_rfl) (by kernel_rfl) rfl (fun v=>(ATj v).trans (Aff v)) (AA AnH trivial)
def AO9:Env:=AlF.ext 190 true true (AF 0 3 ANx ANw ANv ATk)
theorem AGK:AW Tryz.prog AO9:=Env.AZ AUw AZM (fun _=>AI rfl rfl) (fun _=>AG rfl rfl)
abbrev Am8:Hints:={ fp:=fun n=>match n with|3=>[[],[],[12],[],[0],[0],[0],[14],[],[3,16],[0],[0],[1],[0],[0],[1]]|_=>[] }
theorem AfM:∀ v,Zh v=AK 1 Tryz.prog AO9 Am8 Tryz.f174 ANb ANa ANZ v:=by
 rintro⟨a0,a1,a2,a3,a4,a5,a6,a7,a8,a9,⟨⟩⟩
 kernel_rfl
theorem Am7:AD (AQ Tryz.f174) 0=[]:=by kernel_rfl
theorem AYw:AO Tryz.prog 174 (AF 1 3 ANb ANa ANZ AJP):=AH AGK Tryz.func174 (by kernel_rfl) (by kernel_rfl) rfl (fun v=>(ATT v).trans (AfM v)) (AA Am7 trivial)
def S1:Env:=AO9.ext 174 false true (AF 1 3 ANb ANa ANZ AJP)
theorem Lq:AW Tryz.prog S1:=Env.AZ AGK AYw ((by simp)) (fun _=>AG rfl rfl)
abbrev J2:Hints:={ loop:=fun n=>match n with|0=>Ab 1 41 AEU AES Cz|1=>Ab 1 41 AET AER CK|_=>fun _ _ _=>none }
theorem AHG:∀ v,CK v=roundOf Tryz.prog S1 J2 2 1 41 (AB Tryz.f175 1) AET AER v:=by
 rintro⟨a0,a1,a2,a3,a4,a5,a6,a7,a8,a9,a10,⟨⟩⟩
 kernel_rfl
theorem AYx:AD (AB Tryz.f175 1) 2=[]:=by kernel_rfl
theorem AYz:Aa Tryz.prog 1 (.loop (AB Tryz.f175 1)) (J2.loop 1):=AT Lq (AHG) (AA AYx trivial)
theorem AHH:∀ v,Cz v=roundOf Tryz.prog S1 J2 1 1 41 (AB Tryz.f175 0) AEU AES v:=by
 rintro⟨a0,a1,a2,a3,a4,a5,a6,a7,a8,⟨⟩⟩
 kernel_rfl
theorem AYy:AD (AB Tryz.f175 0) 1=[(1,AB Tryz.f175 1)]:=by kernel_rfl
theorem AY0:Aa Tryz.prog 1 (.loop (AB Tryz.f175 0)) (J2.loop 0):=AT Lq (AHH) (AA AYy ⟨AYz,trivial⟩)
theorem ATV:∀ v,N6 v=AK 1 Tryz.prog S1 J2 Tryz.f175 Vt Vs Vr v:=by
 rintro⟨a0,a1,a2,a3,a4,a5,a6,a7,⟨⟩⟩
 kernel_rfl
theorem AfN:AD (AQ Tryz.f175) 0=[(0,AB Tryz.f175 0)]:=by kernel_rfl
theorem ANc:AO Tryz.prog 175 (AF 1 1 Vt Vs Vr Rq):=AH Lq Tryz.func175 (by kernel_rfl) (by kernel_rfl) rfl (fun v=>(AEV v).trans (ATV v)) (AA AfN ⟨AY0,trivial⟩)
def ON:Env:=S1.ext 175 false true (AF 1 1 Vt Vs Vr Rq)
theorem Lr:AW Tryz.prog ON:=Env.AZ Lq ANc ((by simp)) (fun _=>AG rfl rfl)
abbrev AEP:Hints:={ loop:=fun n=>match n with|0=>Ab 0 71 AJM AJL Ei|_=>fun _ _ _=>none,fp:=fun n=>match n with|11=>[[],[2],[2],[2],[],[2],[2],[2],[],[1],[],[]]|14=>[[],[2],[2],[2],[],[2],[2],[2],[],[1],[],[]]|_=>[] }
theorem ANY:∀ v,Ei v=roundOf Tryz.prog ON AEP 1 0 71 (AB Tryz.f155 0) AJM AJL v:=by
 rintro⟨a0,a1,a2,a3,a4,a5,a6,a7,a8,a9,a10,a11,a12,a13,a14,⟨⟩⟩
 kernel_rfl
theorem AfK:AD (AB Tryz.f155 0) 1=[]:=by kernel_rfl
theorem AfL:Aa Tryz.prog 0 (.loop (AB Tryz.f155 0)) (AEP.loop 0):=AT Lr (ANY) (AA AfK trivial)
theorem AYv:∀ v,Rp v=AK 0 Tryz.prog ON AEP Tryz.f155 AEO AEN AEM v:=by
 rintro⟨a0,a1,a2,a3,⟨⟩⟩
 kernel_rfl
theorem AkM:AD (AQ Tryz.f155) 0=[(0,AB Tryz.f155 0)]:=by kernel_rfl
theorem ATS:AO Tryz.prog 155 (AF 0 4 AEO AEN AEM AEQ):=AH Lr Tryz.func155 (by kernel_rfl) (by kernel_rfl) rfl (fun v=>(AJN v).trans (AYv v)) (AA AkM ⟨AfL,trivial⟩)
def S0:Env:=ON.ext 155 true true (AF 0 4 AEO AEN AEM AEQ)
theorem NY:AW Tryz.prog S0:=Env.AZ Lr ATS (fun _=>AI rfl rfl) (fun _=>AG rfl rfl)
abbrev Vx:Hints:={ loop:=fun n=>match n with|0=>Ab 0 48 AEa AEZ EO|_=>fun _ _ _=>none }
theorem AHI:∀ v,EO v=roundOf Tryz.prog S0 Vx 1 0 48 (AB Tryz.f156 0) AEa AEZ v:=by
 rintro⟨a0,a1,a2,a3,a4,a5,a6,a7,a8,a9,a10,⟨⟩⟩
 kernel_rfl
theorem AY4:AD (AB Tryz.f156 0) 1=[]:=by kernel_rfl
theorem AY5:Aa Tryz.prog 0 (.loop (AB Tryz.f156 0)) (Vx.loop 0):=AT NY (AHI) (AA AY4 trivial)
theorem ATZ:∀ v,N7 v=AK 0 Tryz.prog S0 Vx Tryz.f156 Vw Vv Vu v:=by
 rintro⟨a0,a1,⟨⟩⟩
 kernel_rfl
theorem AfQ:AD (AQ Tryz.f156) 0=[(0,AB Tryz.f156 0)]:=by kernel_rfl
theorem ANg:AO Tryz.prog 156 (AF 0 2 Vw Vv Vu Rs):=AH NY Tryz.func156 (by kernel_rfl) (by kernel_rfl) rfl (fun v=>(AEb v).trans (ATZ v)) (AA AfQ ⟨AY5,trivial⟩)
def XB:Env:=S0.ext 156 true true (AF 0 2 Vw Vv Vu Rs)
theorem S3:AW Tryz.prog XB:=Env.AZ NY ANg (fun _=>AI rfl rfl) (fun _=>AG rfl rfl)
abbrev Ajy:Hints:={  }
theorem AYa:∀ v,Mr v=AK 0 Tryz.prog XB Ajy Tryz.f154 ADt ADs ADr v:=by
 rintro⟨a0,⟨⟩⟩
 kernel_rfl
theorem Ajx:AD (AQ Tryz.f154) 0=[]:=by kernel_rfl
theorem AS7:AO Tryz.prog 154 (AF 0 1 ADt ADs ADr ADu):=AH S3 Tryz.func154 (by kernel_rfl) (by kernel_rfl) rfl (fun v=>(VW v).trans (AYa v)) (AA Ajx trivial)
def NW:Env:=XB.ext 154 true true (AF 0 1 ADt ADs ADr ADu)
theorem I0:AW Tryz.prog NW:=Env.AZ S3 AS7 (fun _=>AI rfl rfl) (fun _=>AG rfl rfl)
abbrev Mt:Hints:={ loop:=fun n=>match n with|0=>Ab 0 70 AI9 AI7 Fx|1=>Ab 0 70 AI8 AI6 Fw|_=>fun _ _ _=>none }
theorem ANI:∀ v,Fw v=roundOf Tryz.prog NW Mt 2 0 70 (AB Tryz.f139 1) AI8 AI6 v:=by
 rintro⟨a0,a1,a2,a3,a4,a5,a6,a7,a8,⟨⟩⟩
 kernel_rfl
theorem Aew:AD (AB Tryz.f139 1) 2=[]:=by kernel_rfl
theorem Aey:Aa Tryz.prog 0 (.loop (AB Tryz.f139 1)) (Mt.loop 1):=AT I0 (ANI) (AA Aew trivial)
theorem ANJ:∀ v,Fx v=roundOf Tryz.prog NW Mt 1 0 70 (AB Tryz.f139 0) AI9 AI7 v:=by
 rintro⟨a0,a1,a2,a3,a4,⟨⟩⟩
 kernel_rfl
theorem Aex:AD (AB Tryz.f139 0) 1=[(1,AB Tryz.f139 1)]:=by kernel_rfl
theorem Aez:Aa Tryz.prog 0 (.loop (AB Tryz.f139 0)) (Mt.loop 0):=AT I0 (ANJ) (AA Aex ⟨Aey,trivial⟩)
theorem AYd:∀ v,Jx v=AK 0 Tryz.prog NW Mt Tryz.f139 ADy ADx ADw v:=by
 rintro⟨a0,a1,⟨⟩⟩
 kernel_rfl
theorem Ajz:AD (AQ Tryz.f139) 0=[(0,AB Tryz.f139 0)]:=by kernel_rfl
theorem AS9:AO Tryz.prog 139 (AF 0 2 ADy ADx ADw CO):=AH I0 Tryz.func139 (by kernel_rfl) (by kernel_rfl) rfl (fun v=>(N4 v).trans (AYd v)) (AA Ajz ⟨Aez,trivial⟩)
def AGD:Env:=NW.ext 139 true true (AF 0 2 ADy ADx ADw CO)
theorem Yb:AW Tryz.prog AGD:=Env.AZ I0 AS9 (fun _=>AI rfl rfl) (fun _=>AG rfl rfl)
abbrev AhA:Hints:={  }
theorem AVd:∀ v,Qs v=AK 0 Tryz.prog AGD AhA Tryz.f149 AAt AAs AAr v:=by
 rintro⟨a0,⟨⟩⟩
 kernel_rfl
theorem Ag9:AD (AQ Tryz.f149) 0=[]:=by kernel_rfl
theorem AP1:AO Tryz.prog 149 (AF 0 1 AAt AAs AAr Td):=AH Yb Tryz.func149 (by kernel_rfl) (by kernel_rfl) rfl (fun v=>(AH3 v).trans (AVd v)) (AA Ag9 trivial)
def AFy:Env:=AGD.ext 149 true true (AF 0 1 AAt AAs AAr Td)
theorem YS:AW Tryz.prog AFy:=Env.AZ Yb AP1 (fun _=>AI rfl rfl) (fun _=>AG rfl rfl)
abbrev Aco:Hints:={  }
theorem AQK:∀ v,No v=AK 0 Tryz.prog AFy Aco Tryz.f150 Tl Tk Tj v:=by
 rintro⟨a0,a1,⟨⟩⟩
 kernel_rfl
theorem Acn:AD (AQ Tryz.f150) 0=[]:=by kernel_rfl
theorem ALQ:AO Tryz.prog 150 (AF 0 2 Tl Tk Tj Qw):=AH YS Tryz.func150 (by kernel_rfl) (by kernel_rfl) rfl (fun v=>(AA1 v).trans (AQK v)) (AA Acn trivial)
def Wv:Env:=AFy.ext 150 true true (AF 0 2 Tl Tk Tj Qw)
theorem Se:AW Tryz.prog Wv:=Env.AZ YS ALQ (fun _=>AI rfl rfl) (fun _=>AG rfl rfl)
abbrev Alf:Hints:={  }
theorem Acd:∀ v,ZQ v=AK 0 Tryz.prog Wv Alf Tryz.f152 AK5 AK4 AK3 v:=by
 rintro⟨a0,a1,a2,⟨⟩⟩
 kernel_rfl
theorem Ale:AD (AQ Tryz.f152) 0=[]:=by kernel_rfl
theorem AVk:AO Tryz.prog 152 (AF 0 3 AK5 AK4 AK3 AH5):=AH Se Tryz.func152 (by kernel_rfl) (by kernel_rfl) rfl (fun v=>(AP3 v).trans (Acd v)) (AA Ale trivial)
def AOz:Env:=Wv.ext 152 true true (AF 0 3 AK5 AK4 AK3 AH5)
theorem AFz:AW Tryz.prog AOz:=Env.AZ Se AVk (fun _=>AI rfl rfl) (fun _=>AG rfl rfl)
end
end Go.Pev
end
section
namespace Go.Pev
open Go.Proofs
noncomputable section
theorem Ag8:Tryz.f137.body.isSome=true:=by kernel_rfl
theorem Ag7 : (Tryz.f137.name == "runtime.NumGoroutine") = false := by kernel_rfl
theorem Ag6:loops (AQ Tryz.f137)=0:=by kernel_rfl
def Lc:Env:=AOz.ext 137 false false (Co Tryz.prog AOz {} Tryz.f137)
theorem JP:AW Tryz.prog Lc:=Env.AZ AFz (CX AFz Tryz.func137 Ag8 Ag7 Ag6) (by simp) (by simp)
abbrev ABF:Hints:={ loop:=fun n=>match n with|0=>Ab 0 31 AIH AIF FV|_=>fun _ _ _=>none }
theorem ALT:∀ v,FV v=roundOf Tryz.prog Lc ABF 1 0 31 (AB Tryz.f151 0) AIH AIF v:=by
 rintro⟨a0,a1,a2,a3,a4,⟨⟩⟩
 kernel_rfl
theorem Acu:AD (AB Tryz.f151 0) 1=[]:=by kernel_rfl
theorem Acv:Aa Tryz.prog 0 (.loop (AB Tryz.f151 0)) (ABF.loop 0):=AT JP (ALT) (AA Acu trivial)
theorem AVw:∀ v,Qz v=AK 0 Tryz.prog Lc ABF Tryz.f151 ABE ABD ABC v:=by
 rintro⟨a0,⟨⟩⟩
 kernel_rfl
theorem AhR:AD (AQ Tryz.f151) 0=[(0,AB Tryz.f151 0)]:=by kernel_rfl
theorem AQP:AO Tryz.prog 151 (AF 0 2 ABE ABD ABC PS):=AH JP Tryz.func151 (by kernel_rfl) (by kernel_rfl) rfl (fun v=>(AII v).trans (AVw v)) (AA AhR ⟨Acv,trivial⟩)
def KC:Env:=Lc.CG 151 1 137 (AF 0 2 ABE ABD ABC PS)
theorem Gq:AW Tryz.prog KC:=Env.Aw JP AQP (AG rfl rfl)
abbrev FQ:Hints:={ loop:=fun n=>match n with|0=>Ab 0 118 AAz AAw EI|1=>Ab 0 118 AAy AAv EH|2=>Ab 0 118 AAx AAu EG|_=>fun _ _ _=>none }
theorem AGa:∀ v,EG v=roundOf Tryz.prog KC FQ 3 0 118 (AB Tryz.f136 2) AAx AAu v:=by
 rintro⟨a0,a1,a2,a3,a4,a5,a6,a7,a8,a9,a10,a11,a12,⟨⟩⟩
 kernel_rfl
theorem AVe:AD (AB Tryz.f136 2) 3=[]:=by kernel_rfl
theorem AVh:Aa Tryz.prog 0 (.loop (AB Tryz.f136 2)) (FQ.loop 2):=AT Gq (AGa) (AA AVe trivial)
theorem AGb:∀ v,EH v=roundOf Tryz.prog KC FQ 2 0 118 (AB Tryz.f136 1) AAy AAv v:=by
 rintro⟨a0,a1,a2,a3,a4,a5,a6,a7,a8,⟨⟩⟩
 kernel_rfl
theorem AVf:AD (AB Tryz.f136 1) 2=[(2,AB Tryz.f136 2)]:=by kernel_rfl
theorem AVi:Aa Tryz.prog 0 (.loop (AB Tryz.f136 1)) (FQ.loop 1):=AT Gq (AGb) (AA AVf ⟨AVh,trivial⟩)
theorem AGc:∀ v,EI v=roundOf Tryz.prog KC FQ 1 0 118 (AB Tryz.f136 0) AAz AAw v:=by
 rintro⟨a0,a1,a2,a3,a4,a5,a6,⟨⟩⟩
 kernel_rfl
theorem AVg:AD (AB Tryz.f136 0) 1=[]:=by kernel_rfl
theorem AVj:Aa Tryz.prog 0 (.loop (AB Tryz.f136 0)) (FQ.loop 0):=AT Gq (AGc) (AA AVg trivial)
theorem AP2:∀ v,JY v=AK 0 Tryz.prog KC FQ Tryz.f136 Tg Tf Te v:=by
 rintro⟨a0,a1,a2,⟨⟩⟩
 kernel_rfl
theorem Acb:AD (AQ Tryz.f136) 0=[(0,AB Tryz.f136 0),(1,AB Tryz.f136 1)]:=by kernel_rfl
theorem AK2:AO Tryz.prog 136 (AF 0 4 Tg Tf Te Nn):=AH Gq Tryz.func136 (by kernel_rfl) (by kernel_rfl) rfl (fun v=>(PK v).trans (AP2 v)) (AA Acb ⟨AVj,AVi,trivial⟩)
def Wu:Env:=KC.CG 136 3 137 (AF 0 4 Tg Tf Te Nn)
theorem SZ:AW Tryz.prog Wu:=Env.Aw Gq AK2 (AG rfl rfl)
abbrev Ald:Hints:={  }
theorem AcZ:∀ v,Qr v=AK 0 Tryz.prog Wu Ald Tryz.f111 AK1 AK0 AKz v:=by
 rintro⟨a0,a1,a2,⟨⟩⟩
 kernel_rfl
theorem Alc:AD (AQ Tryz.f111) 0=[]:=by kernel_rfl
theorem AVc:AO Tryz.prog 111 (AF 0 3 AK1 AK0 AKz XQ):=AH SZ Tryz.func111 (by kernel_rfl) (by kernel_rfl) rfl (fun v=>(AAq v).trans (AcZ v)) (AA Alc trivial)
def Zt:Env:=Wu.ext 111 true true (AF 0 3 AK1 AK0 AKz XQ)
theorem QS:AW Tryz.prog Zt:=Env.AZ SZ AVc (fun _=>AI rfl rfl) (fun _=>AG rfl rfl)
abbrev AB1:Hints:={ loop:=fun n=>match n with|0=>Ab 0 26 AIW AIV FZ|_=>fun _ _ _=>none }
theorem ALp:∀ v,FZ v=roundOf Tryz.prog Zt AB1 1 0 26 (AB Tryz.f115 0) AIW AIV v:=by
 rintro⟨a0,a1,a2,a3,a4,⟨⟩⟩
 kernel_rfl
theorem AdM:AD (AB Tryz.f115 0) 1=[]:=by kernel_rfl
theorem AdN:Aa Tryz.prog 0 (.loop (AB Tryz.f115 0)) (AB1.loop 0):=AT QS (ALp) (AA AdM trivial)
theorem AWe:∀ v,RC v=AK 0 Tryz.prog Zt AB1 Tryz.f115 AB0 ABz ABy v:=by
 rintro⟨a0,a1,⟨⟩⟩
 kernel_rfl
theorem AiB:AD (AQ Tryz.f115) 0=[(0,AB Tryz.f115 0)]:=by kernel_rfl
theorem AQy:AO Tryz.prog 115 (AF 0 2 AB0 ABz ABy AB2):=AH QS Tryz.func115 (by kernel_rfl) (by kernel_rfl) rfl (fun v=>(AIX v).trans (AWe v)) (AA AiB ⟨AdN,trivial⟩)
def Sj:Env:=Zt.ext 115 true true (AF 0 2 AB0 ABz ABy AB2)
theorem NQ:AW Tryz.prog Sj:=Env.AZ QS AQy (fun _=>AI rfl rfl) (fun _=>AG rfl rfl)
abbrev T5:Hints:={ loop:=fun n=>match n with|0=>Ab 0 66 ABv ABu EM|_=>fun _ _ _=>none }
theorem AGj:∀ v,EM v=roundOf Tryz.prog Sj T5 1 0 66 (AB Tryz.f114 0) ABv ABu v:=by
 rintro⟨a0,a1,a2,a3,a4,a5,a6,a7,⟨⟩⟩
 kernel_rfl
theorem AWb:AD (AB Tryz.f114 0) 1=[]:=by kernel_rfl
theorem AWc:Aa Tryz.prog 0 (.loop (AB Tryz.f114 0)) (T5.loop 0):=AT NQ (AGj) (AA AWb trivial)
theorem AQx:∀ v,Nt v=AK 0 Tryz.prog Sj T5 Tryz.f114 T4 T3 T2 v:=by
 rintro⟨a0,a1,a2,⟨⟩⟩
 kernel_rfl
theorem AdL:AD (AQ Tryz.f114) 0=[(0,AB Tryz.f114 0)]:=by kernel_rfl
theorem ALo:AO Tryz.prog 114 (AF 0 3 T4 T3 T2 RB):=AH NQ Tryz.func114 (by kernel_rfl) (by kernel_rfl) rfl (fun v=>(ABw v).trans (AQx v)) (AA AdL ⟨AWc,trivial⟩)
def Wy:Env:=Sj.ext 114 true true (AF 0 3 T4 T3 T2 RB)
theorem Si:AW Tryz.prog Wy:=Env.AZ NQ ALo (fun _=>AI rfl rfl) (fun _=>AG rfl rfl)
abbrev Ah6:Hints:={ fp:=fun n=>match n with|1=>[[],[],[],[0],[2],[],[],[],[],[],[]]|_=>[] }
theorem AWZ:∀ v,RA v=AK 0 Tryz.prog Wy Ah6 Tryz.f90 ABq ABp ABo v:=by
 rintro⟨a0,a1,a2,⟨⟩⟩
 kernel_rfl
theorem Ah5:AD (AQ Tryz.f90) 0=[]:=by kernel_rfl
theorem AQu:AO Tryz.prog 90 (AF 0 3 ABq ABp ABo ABr):=AH Si Tryz.func90 (by kernel_rfl) (by kernel_rfl) rfl (fun v=>(AIR v).trans (AWZ v)) (AA Ah5 trivial)
def NP:Env:=Wy.ext 90 true true (AF 0 3 ABq ABp ABo ABr)
theorem Iy:AW Tryz.prog NP:=Env.AZ Si AQu (fun _=>AI rfl rfl) (fun _=>AG rfl rfl)
abbrev Q1:Hints:={ loop:=fun n=>match n with|0=>Ab 0 59 AQZ AQX Ha|1=>Ab 0 59 AQY AQW HZ|_=>fun _ _ _=>none }
theorem AQU:∀ v,HZ v=roundOf Tryz.prog NP Q1 2 0 59 (AB Tryz.f88 1) AQY AQW v:=by
 rintro⟨a0,a1,a2,a3,a4,a5,a6,⟨⟩⟩
 kernel_rfl
theorem AhV:AD (AB Tryz.f88 1) 2=[]:=by kernel_rfl
theorem AhX:Aa Tryz.prog 0 (.loop (AB Tryz.f88 1)) (Q1.loop 1):=AT Iy (AQU) (AA AhV trivial)
theorem AQV:∀ v,Ha v=roundOf Tryz.prog NP Q1 1 0 59 (AB Tryz.f88 0) AQZ AQX v:=by
 rintro⟨a0,a1,a2,a3,a4,a5,a6,⟨⟩⟩
 kernel_rfl
theorem AhW:AD (AB Tryz.f88 0) 1=[]:=by kernel_rfl
theorem AhY:Aa Tryz.prog 0 (.loop (AB Tryz.f88 0)) (Q1.loop 0):=AT Iy (AQV) (AA AhW trivial)
theorem Acy:∀ v,Q2 v=AK 0 Tryz.prog NP Q1 Tryz.f88 ALX ALW ALV v:=by
 rintro⟨a0,a1,a2,a3,⟨⟩⟩
 kernel_rfl
theorem Alp:AD (AQ Tryz.f88) 0=[(0,AB Tryz.f88 0),(1,AB Tryz.f88 1)]:=by kernel_rfl
theorem AV2:AO Tryz.prog 88 (AF 0 4 ALX ALW ALV ABQ):=AH Iy Tryz.func88 (by kernel_rfl) (by kernel_rfl) rfl (fun v=>(ABO v).trans (Acy v)) (AA Alp ⟨AhY,AhX,trivial⟩)
def Zu:Env:=NP.ext 88 true true (AF 0 4 ALX ALW ALV ABQ)
theorem QT:AW Tryz.prog Zu:=Env.AZ Iy AV2 (fun _=>AI rfl rfl) (fun _=>AG rfl rfl)
abbrev Tp:Hints:={ loop:=fun n=>match n with|0=>Ab 0 29 ABM ABL EK|_=>fun _ _ _=>none }
theorem AGf:∀ v,EK v=roundOf Tryz.prog Zu Tp 1 0 29 (AB Tryz.f89 0) ABM ABL v:=by
 rintro⟨a0,a1,a2,a3,a4,⟨⟩⟩
 kernel_rfl
theorem AV0:AD (AB Tryz.f89 0) 1=[]:=by kernel_rfl
theorem AV1:Aa Tryz.prog 0 (.loop (AB Tryz.f89 0)) (Tp.loop 0):=AT QT (AGf) (AA AV0 trivial)
theorem AQT:∀ v,Np v=AK 0 Tryz.prog Zu Tp Tryz.f89 To Tn Tm v:=by
 rintro⟨a0,a1,⟨⟩⟩
 kernel_rfl
theorem Acw:AD (AQ Tryz.f89) 0=[(0,AB Tryz.f89 0)]:=by kernel_rfl
theorem ALU:AO Tryz.prog 89 (AF 0 2 To Tn Tm Nq):=AH QT Tryz.func89 (by kernel_rfl) (by kernel_rfl) rfl (fun v=>(ABN v).trans (AQT v)) (AA Acw ⟨AV1,trivial⟩)
def OJ:Env:=Zu.ext 89 true true (AF 0 2 To Tn Tm Nq)
theorem Lh:AW Tryz.prog OJ:=Env.AZ QT ALU (fun _=>AI rfl rfl) (fun _=>AG rfl rfl)
abbrev WB:Hints:={ loop:=fun n=>match n with|0=>Ab 0 93 AEd AEc EP|_=>fun _ _ _=>none,fp:=fun n=>match n with|5=>[[],[10],[0],[0],[0],[0],[18],[],[],[],[],[],[],[]]|_=>[] }
theorem AHJ:∀ v,EP v=roundOf Tryz.prog OJ WB 1 0 93 (AB Tryz.f79 0) AEd AEc v:=by
 rintro⟨a0,a1,a2,a3,a4,a5,a6,a7,⟨⟩⟩
 kernel_rfl
theorem AY9:AD (AB Tryz.f79 0) 1=[]:=by kernel_rfl
theorem AZA:Aa Tryz.prog 0 (.loop (AB Tryz.f79 0)) (WB.loop 0):=AT Lh (AHJ) (AA AY9 trivial)
theorem ATb:∀ v,J3 v=AK 0 Tryz.prog OJ WB Tryz.f79 WA Vz Vy v:=by
 rintro⟨a0,a1,⟨⟩⟩
 kernel_rfl
theorem AfS:AD (AQ Tryz.f79) 0=[(0,AB Tryz.f79 0)]:=by kernel_rfl
theorem ANj:AO Tryz.prog 79 (AF 0 2 WA Vz Vy N8):=AH Lh Tryz.func79 (by kernel_rfl) (by kernel_rfl) rfl (fun v=>(QC v).trans (ATb v)) (AA AfS ⟨AZA,trivial⟩)
def XC:Env:=OJ.ext 79 true true (AF 0 2 WA Vz Vy N8)
theorem S4:AW Tryz.prog XC:=Env.AZ Lh ANj (fun _=>AI rfl rfl) (fun _=>AG rfl rfl)
abbrev AnA:Hints:={  }
theorem AfO:∀ v,Rr v=AK 0 Tryz.prog XC AnA Tryz.f58 ANf ANe ANd v:=by
 rintro⟨a0,a1,⟨⟩⟩
 kernel_rfl
theorem Am9:AD (AQ Tryz.f58) 0=[]:=by kernel_rfl
theorem AY3:AO Tryz.prog 58 (AF 0 2 ANf ANe ANd YC):=AH S4 Tryz.func58 (by kernel_rfl) (by kernel_rfl) rfl (fun v=>(AEX v).trans (AfO v)) (AA Am9 trivial)
def S2:Env:=XC.ext 58 true true (AF 0 2 ANf ANe ANd YC)
theorem Ls:AW Tryz.prog S2:=Env.AZ S4 AY3 (fun _=>AI rfl rfl) (fun _=>AG rfl rfl)
abbrev Mx:Hints:={ loop:=fun n=>match n with|0=>Ab 0 63 AJW AJU F6|1=>Ab 0 63 AJV AJT DC|_=>fun _ _ _=>none }
theorem ANp:∀ v,DC v=roundOf Tryz.prog S2 Mx 2 0 63 (AB Tryz.f31 1) AJV AJT v:=by
 rintro⟨a0,a1,a2,a3,a4,a5,⟨⟩⟩
 kernel_rfl
theorem AfW:AD (AB Tryz.f31 1) 2=[]:=by kernel_rfl
theorem AfY:Aa Tryz.prog 0 (.loop (AB Tryz.f31 1)) (Mx.loop 1):=AT Ls (ANp) (AA AfW trivial)
theorem ANq:∀ v,F6 v=roundOf Tryz.prog S2 Mx 1 0 63 (AB Tryz.f31 0) AJW AJU v:=by
 rintro⟨a0,a1,a2,a3,a4,a5,a6,a7,a8,⟨⟩⟩
 kernel_rfl
theorem AfX:AD (AB Tryz.f31 0) 1=[]:=by kernel_rfl
theorem AfZ:Aa Tryz.prog 0 (.loop (AB Tryz.f31 0)) (Mx.loop 0):=AT Ls (ANq) (AA AfX trivial)
theorem AZF:∀ v,My v=AK 0 Tryz.prog S2 Mx Tryz.f31 AEk AEj AEi v:=by
 rintro⟨a0,a1,⟨⟩⟩
 kernel_rfl
theorem AkS:AD (AQ Tryz.f31) 0=[(0,AB Tryz.f31 0),(1,AB Tryz.f31 1)]:=by kernel_rfl
theorem ATf:AO Tryz.prog 31 (AF 0 2 AEk AEj AEi WJ):=AH Ls Tryz.func31 (by kernel_rfl) (by kernel_rfl) rfl (fun v=>(WI v).trans (AZF v)) (AA AkS ⟨AfZ,AfY,trivial⟩)
def AGJ:Env:=S2.ext 31 true true (AF 0 2 AEk AEj AEi WJ)
theorem Yf:AW Tryz.prog AGJ:=Env.AZ Ls ATf (fun _=>AI rfl rfl) (fun _=>AG rfl rfl)
end
end Go.Pev
end
section
namespace Go.Pev
open Go.Proofs
noncomputable section
theorem AgO:Tryz.f30.body.isSome=true:=by kernel_rfl
theorem AgN : (Tryz.f30.name == "runtime.NumGoroutine") = false := by kernel_rfl
theorem AgM:loops (AQ Tryz.f30)=0:=by kernel_rfl
def I5:Env:=AGJ.ext 30 false false (Co Tryz.prog AGJ {} Tryz.f30)
theorem IH:AW Tryz.prog I5:=Env.AZ Yf (CX Yf Tryz.func30 AgO AgN AgM) (by simp) (by simp)
abbrev Kq:Hints:={ loop:=fun n=>match n with|0=>Ab 1 19 Oi Oh Cf|_=>fun _ _ _=>none }
theorem VN:∀ v,Cf v=roundOf Tryz.prog I5 Kq 1 1 19 (AB Tryz.f56 0) Oi Oh v:=by
 rintro⟨a0,a1,a2,a3,a4,⟨⟩⟩
 kernel_rfl
theorem AG4:AD (AB Tryz.f56 0) 1=[]:=by kernel_rfl
theorem AG5:Aa Tryz.prog 1 (.loop (AB Tryz.f56 0)) (Kq.loop 0):=AT IH (VN) (AA AG4 trivial)
theorem ADe:∀ v,G7 v=AK 1 Tryz.prog I5 Kq Tryz.f56 Kp Ko Km v:=by
 rintro⟨a0,a1,a2,⟨⟩⟩
 kernel_rfl
theorem AMw:AD (AQ Tryz.f56) 0=[(0,AB Tryz.f56 0)]:=by kernel_rfl
theorem Yv:AO Tryz.prog 56 (AF 1 2 Kp Ko Km Kr):=AH IH Tryz.func56 (by kernel_rfl) (by kernel_rfl) rfl (fun v=>(Oj v).trans (ADe v)) (AA AMw ⟨AG5,trivial⟩)
def Ll:Env:=I5.CG 56 1 30 (AF 1 2 Kp Ko Km Kr)
theorem L5:AW Tryz.prog Ll:=Env.Aw IH Yv (AG rfl rfl)
abbrev AHP:Hints:={  }
theorem Y3:∀ v,GV v=AK 1 Tryz.prog Ll AHP Tryz.f29 JG JF JE v:=by
 rintro⟨a0,a1,a2,⟨⟩⟩
 kernel_rfl
theorem AHO:AD (AQ Tryz.f29) 0=[]:=by kernel_rfl
theorem WN:AO Tryz.prog 29 (AF 1 2 JG JF JE Gi):=AH L5 Tryz.func29 (by kernel_rfl) (by kernel_rfl) rfl (fun v=>(M6 v).trans (Y3 v)) (AA AHO trivial)
def JR:Env:=Ll.CG 29 1 30 (AF 1 2 JG JF JE Gi)
theorem KG:AW Tryz.prog JR:=Env.Aw L5 WN (AG rfl rfl)
abbrev Ak6:Hints:={ fp:=fun n=>match n with|16=>[[48],[48],[50],[0],[],[]]|_=>[] }
theorem AZ3:∀ v,H6 v=AK 0 Tryz.prog JR Ak6 Tryz.f10 AFm AFl AFk v:=by
 rintro⟨a0,a1,a2,⟨⟩⟩
 kernel_rfl
theorem Ak5:AD (AQ Tryz.f10) 0=[]:=by kernel_rfl
theorem AUh:AO Tryz.prog 10 (AF 0 3 AFm AFl AFk C3):=AH KG Tryz.func10 (by kernel_rfl) (by kernel_rfl) rfl (fun v=>(KA v).trans (AZ3 v)) (AA Ak5 trivial)
def TA:Env:=JR.ext 10 true true (AF 0 3 AFm AFl AFk C3)
theorem Nc:AW Tryz.prog TA:=Env.AZ KG AUh (fun _=>AI rfl rfl) (fun _=>AG rfl rfl)
abbrev AA6:Hints:={ loop:=fun n=>match n with|0=>Ab 0 46 AIA AH9 FT|_=>fun _ _ _=>none,fp:=fun n=>match n with|6=>[[0],[0],[],[],[],[2],[2],[],[],[],[]]|_=>[] }
theorem ALR:∀ v,FT v=roundOf Tryz.prog TA AA6 1 0 46 (AB Tryz.f12 0) AIA AH9 v:=by
 rintro⟨a0,a1,a2,a3,a4,a5,a6,⟨⟩⟩
 kernel_rfl
theorem Acp:AD (AB Tryz.f12 0) 1=[]:=by kernel_rfl
theorem Acq:Aa Tryz.prog 0 (.loop (AB Tryz.f12 0)) (AA6.loop 0):=AT Nc (ALR) (AA Acp trivial)
theorem AVu:∀ v,Qx v=AK 0 Tryz.prog TA AA6 Tryz.f12 AA5 AA4 AA3 v:=by
 rintro⟨a0,a1,⟨⟩⟩
 kernel_rfl
theorem AhP:AD (AQ Tryz.f12) 0=[(0,AB Tryz.f12 0)]:=by kernel_rfl
theorem AQM:AO Tryz.prog 12 (AF 0 2 AA5 AA4 AA3 I6):=AH Nc Tryz.func12 (by kernel_rfl) (by kernel_rfl) rfl (fun v=>(AIB v).trans (AVu v)) (AA AhP ⟨Acq,trivial⟩)
def AF0:Env:=TA.ext 12 true true (AF 0 2 AA5 AA4 AA3 I6)
theorem YT:AW Tryz.prog AF0:=Env.AZ Nc AQM (fun _=>AI rfl rfl) (fun _=>AG rfl rfl)
abbrev Ac9:Hints:={  }
theorem AQq:∀ v,Nr v=AK 0 Tryz.prog AF0 Ac9 Tryz.f20 T1 Tz Tx v:=by
 rintro⟨a0,⟨⟩⟩
 kernel_rfl
theorem Ac8:AD (AQ Tryz.f20) 0=[]:=by kernel_rfl
theorem ALe:AO Tryz.prog 20 (AF 0 1 T1 Tz Tx IT):=AH YT Tryz.func20 (by kernel_rfl) (by kernel_rfl) rfl (fun v=>(ABf v).trans (AQq v)) (AA Ac8 trivial)
def Wx:Env:=AF0.ext 20 true true (AF 0 1 T1 Tz Tx IT)
theorem Sg:AW Tryz.prog Wx:=Env.AZ YT ALe (fun _=>AI rfl rfl) (fun _=>AG rfl rfl)
abbrev Aem:Hints:={  }
theorem AS3:∀ v,N1 v=AK 0 Tryz.prog Wx Aem Tryz.f9 VT VS VR v:=by
 rintro⟨a0,a1,a2,⟨⟩⟩
 kernel_rfl
theorem Ael:AD (AQ Tryz.f9) 0=[]:=by kernel_rfl
theorem ANC:AO Tryz.prog 9 (AF 0 3 VT VS VR N2):=AH Sg Tryz.func9 (by kernel_rfl) (by kernel_rfl) rfl (fun v=>(ADj v).trans (AS3 v)) (AA Ael trivial)
def W7:Env:=Wx.ext 9 true true (AF 0 3 VT VS VR N2)
theorem Sw:AW Tryz.prog W7:=Env.AZ Sg ANC (fun _=>AI rfl rfl) (fun _=>AG rfl rfl)
abbrev AgL:Hints:={  }
theorem AUg:∀ v,Wj v=AK 0 Tryz.prog W7 AgL Tryz.f8 Wi Wh Wg v:=by
 rintro⟨⟨⟩⟩
 kernel_rfl
theorem AgK:AD (AQ Tryz.f8) 0=[]:=by kernel_rfl
theorem AOm:AO Tryz.prog 8 (AF 0 0 Wi Wh Wg Iq):=AH Sw Tryz.func8 (by kernel_rfl) (by kernel_rfl) rfl (fun v=>(AZ2 v).trans (AUg v)) (AA AgK trivial)
def OP:Env:=W7.ext 8 true true (AF 0 0 Wi Wh Wg Iq)
theorem Lu:AW Tryz.prog OP:=Env.AZ Sw AOm (fun _=>AI rfl rfl) (fun _=>AG rfl rfl)
abbrev AD6:Hints:={ loop:=fun n=>match n with|0=>Ab 0 41 AJC AJB Fy|_=>fun _ _ _=>none }
theorem ANN:∀ v,Fy v=roundOf Tryz.prog OP AD6 1 0 41 (AB Tryz.f19 0) AJC AJB v:=by
 rintro⟨a0,a1,a2,a3,a4,⟨⟩⟩
 kernel_rfl
theorem Ae8:AD (AB Tryz.f19 0) 1=[]:=by kernel_rfl
theorem Ae9:Aa Tryz.prog 0 (.loop (AB Tryz.f19 0)) (AD6.loop 0):=AT Lu (ANN) (AA Ae8 trivial)
theorem AYk:∀ v,Ri v=AK 0 Tryz.prog OP AD6 Tryz.f19 AD5 AD4 AD3 v:=by
 rintro⟨a0,a1,a2,⟨⟩⟩
 kernel_rfl
theorem AkC:AD (AQ Tryz.f19) 0=[(0,AB Tryz.f19 0)]:=by kernel_rfl
theorem ATF:AO Tryz.prog 19 (AF 0 3 AD5 AD4 AD3 VY):=AH Lu Tryz.func19 (by kernel_rfl) (by kernel_rfl) rfl (fun v=>(AJD v).trans (AYk v)) (AA AkC ⟨Ae9,trivial⟩)
def AGG:Env:=OP.ext 19 true true (AF 0 3 AD5 AD4 AD3 VY)
theorem Yd:AW Tryz.prog AGG:=Env.AZ Lu ATF (fun _=>AI rfl rfl) (fun _=>AG rfl rfl)
abbrev LY:Hints:={ loop:=fun n=>match n with|0=>Ab 0 191 O4 O3 CE|_=>fun _ _ _=>none,fp:=fun n=>match n with|17=>[[8],[8],[8],[8],[],[],[],[2],[2],[],[],[],[],[],[],[],[6],[6],[],[],[],[],[],[8],[8],[],[],[6],[6],[],[],[],[],[],[8],[8],[],[],[6],[6],[],[],[],[],[],[8],[8],[],[],[],[],[]]|_=>[] }
theorem Wl:∀ v,CE v=roundOf Tryz.prog AGG LY 1 0 191 (AB Tryz.f4 0) O4 O3 v:=by
 rintro⟨a0,a1,a2,a3,a4,a5,a6,a7,a8,a9,a10,a11,a12,a13,a14,⟨⟩⟩
 kernel_rfl
theorem AHg:AD (AB Tryz.f4 0) 1=[]:=by kernel_rfl
theorem AHh:Aa Tryz.prog 0 (.loop (AB Tryz.f4 0)) (LY.loop 0):=AT Yd (Wl) (AA AHg trivial)
theorem AFj:∀ v,HE v=AK 0 Tryz.prog AGG LY Tryz.f4 LX LW LV v:=by
 rintro⟨a0,a1,a2,⟨⟩⟩
 kernel_rfl
theorem AOn:AD (AQ Tryz.f4) 0=[(0,AB Tryz.f4 0)]:=by kernel_rfl
theorem ZG:AO Tryz.prog 4 (AF 0 3 LX LW LV GD):=AH Yd Tryz.func4 (by kernel_rfl) (by kernel_rfl) rfl (fun v=>(O5 v).trans (AFj v)) (AA AOn ⟨AHh,trivial⟩)
end
end Go.Pev
end
section

end
