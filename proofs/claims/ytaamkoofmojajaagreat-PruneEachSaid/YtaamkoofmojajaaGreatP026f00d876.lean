/- A part of the proofs of this seat: G24jP5 G24jP6 G24jP7 G24jP8 G24jP9 G24jP10 G24jP. -/
import Derived.Test.YtaamkoofmojajaaGreatP67b4859c59
set_option linter.unusedVariables false
set_option linter.unusedSimpArgs false
set_option linter.unusedSectionVars false
set_option maxRecDepth 100000
section
namespace Go.Pev
open Go.Proofs
noncomputable section
abbrev PX:Hints:={ loop:=fun n=>match n with|0=>Ae 0 47 AJR AJP HY|1=>Ae 0 47 AJQ AJO HX|_=>fun _ _ _=>none }
theorem AJM:∀ v,HX v=roundOf Tryz.prog RC PX 2 0 47 (AB Tryz.f188 1) AJQ AJO v:=by
 rintro⟨a0,a1,a2,a3,a4,a5,a6,⟨⟩⟩
 kernel_rfl
theorem AXU:AD (AB Tryz.f188 1) 2=[]:=by kernel_rfl
theorem AXW:Ac Tryz.prog 0 (.loop (AB Tryz.f188 1)) (PX.loop 1):=AY Kt (AJM) (AA AXU trivial)
theorem AJN:∀ v,HY v=roundOf Tryz.prog RC PX 1 0 47 (AB Tryz.f188 0) AJR AJP v:=by
 rintro⟨a0,a1,a2,a3,a4,a5,a6,a7,a8,⟨⟩⟩
 kernel_rfl
theorem AXV:AD (AB Tryz.f188 0) 1=[]:=by kernel_rfl
theorem AXX:Ac Tryz.prog 0 (.loop (AB Tryz.f188 0)) (PX.loop 0):=AY Kt (AJN) (AA AXV trivial)
theorem AT9:∀ v,Wv v=AT Tryz.prog RC PX Tryz.f188 AFA AE9 AE8 v:=by
 rintro⟨a0,a1,a2,⟨⟩⟩
 kernel_rfl
theorem AbQ:AD (AW Tryz.f188) 0=[(0,AB Tryz.f188 0),(1,AB Tryz.f188 1)]:=by kernel_rfl
theorem ANx:AU Tryz.prog 188 (AH 3 AFA AE9 AE8 AJT):=AN Kt Tryz.func188 (by kernel_rfl) (by kernel_rfl) rfl (fun v=>(AJS v).trans (AT9 v)) (AA AbQ ⟨AXX,AXW,trivial⟩)
def AI2:Env:=RC.ext 188 true true (AH 3 AFA AE9 AE8 AJT)
theorem ABg:Af Tryz.prog AI2:=Env.Ai Kt ANx (fun _=>AQ rfl rfl) (fun _=>AO rfl rfl)
abbrev Abb:Hints:={ fp:=fun n=>match n with|9=>[[],[28],[0],[0],[],[],[],[],[],[0],[0],[],[],[],[],[],[28],[28,52,36,62],[64],[]]|4=>[[0],[],[],[0],[],[],[],[]]|_=>[] }
theorem AUN:∀ v,G5 v=AT Tryz.prog AI2 Abb Tryz.f161 AFY AFX AFW v:=by
 rintro⟨a0,a1,a2,⟨⟩⟩
 kernel_rfl
theorem Aba:AD (AW Tryz.f161) 0=[]:=by kernel_rfl
theorem AOE:AU Tryz.prog 161 (AH 3 AFY AFX AFW LV):=AN ABg Tryz.func161 (by kernel_rfl) (by kernel_rfl) rfl (fun v=>(Hf v).trans (AUN v)) (AA Aba trivial)
def AI3:Env:=AI2.ext 161 true true (AH 3 AFY AFX AFW LV)
theorem ABl:Af Tryz.prog AI3:=Env.Ai ABg AOE (fun _=>AQ rfl rfl) (fun _=>AO rfl rfl)
theorem AX2:Tryz.f155.body.isSome=true:=by kernel_rfl
theorem AX1 : (Tryz.f155.name == "runtime.NumGoroutine") = false := by kernel_rfl
theorem AX0:loops (AW Tryz.f155)=0:=by kernel_rfl
def Kr:Env:=AI3.ext 155 false false (C7 Tryz.prog AI3 {} Tryz.f155)
theorem JK:Af Tryz.prog Kr:=Env.Ai ABl (Cs ABl Tryz.func155 AX2 AX1 AX0) (by simp) (by simp)
abbrev F7:Hints:={ loop:=fun n=>match n with|0=>Ae 1 19 Is Ir Bi|_=>fun _ _ _=>none }
theorem MJ:∀ v,Bi v=roundOf Tryz.prog Kr F7 1 1 19 (AB Tryz.f174 0) Is Ir v:=by
 rintro⟨a0,a1,a2,a3,a4,⟨⟩⟩
 kernel_rfl
theorem Qb:AD (AB Tryz.f174 0) 1=[]:=by kernel_rfl
theorem Qc:Ac Tryz.prog 1 (.loop (AB Tryz.f174 0)) (F7.loop 0):=AY JK (MJ) (AA Qb trivial)
theorem Ow:∀ v,Dv v=AT Tryz.prog Kr F7 Tryz.f174 F6 F5 F4 v:=by
 rintro⟨a0,a1,a2,⟨⟩⟩
 kernel_rfl
theorem S5:AD (AW Tryz.f174) 0=[(0,AB Tryz.f174 0)]:=by kernel_rfl
theorem Nw:AU Tryz.prog 174 (AH 2 F6 F5 F4 FE):=AN JK Tryz.func174 (by kernel_rfl) (by kernel_rfl) rfl (fun v=>(It v).trans (Ow v)) (AA S5 ⟨Qc,trivial⟩)
def GK:Env:=Kr.FH 174 1 155 (AH 2 F6 F5 F4 FE)
theorem G4:Af Tryz.prog GK:=Env.Bc JK Nw (AO rfl rfl)
abbrev Qu:Hints:={  }
theorem Nx:∀ v,DK v=AT Tryz.prog GK Qu Tryz.f154 FO FN FM v:=by
 rintro⟨a0,a1,a2,⟨⟩⟩
 kernel_rfl
theorem Qt:AD (AW Tryz.f154) 0=[]:=by kernel_rfl
theorem MZ:AU Tryz.prog 154 (AH 2 FO FN FM C8):=AN G4 Tryz.func154 (by kernel_rfl) (by kernel_rfl) rfl (fun v=>(IL v).trans (Nx v)) (AA Qt trivial)
def FV:Env:=GK.FH 154 1 155 (AH 2 FO FN FM C8)
theorem Gn:Af Tryz.prog FV:=Env.Bc G4 MZ (AO rfl rfl)
abbrev Aaa:Hints:={  }
theorem ART:∀ v,Qk v=AT Tryz.prog FV Aaa Tryz.f125 AAj AAi AAh v:=by
 rintro⟨a0,a1,⟨⟩⟩
 kernel_rfl
theorem AaZ:AD (AW Tryz.f125) 0=[]:=by kernel_rfl
theorem AMv:AU Tryz.prog 125 (AH 2 AAj AAi AAh KY):=AN Gn Tryz.func125 (by kernel_rfl) (by kernel_rfl) rfl (fun v=>(AEX v).trans (ART v)) (AA AaZ trivial)
def RX:Env:=FV.ext 125 true true (AH 2 AAj AAi AAh KY)
theorem Ms:Af Tryz.prog RX:=Env.Ai Gn AMv (fun _=>AQ rfl rfl) (fun _=>AO rfl rfl)
abbrev ARh:Hints:={ loop:=fun n=>match n with|0=>Ae 0 21 ATi ATh Kc|_=>fun _ _ _=>none }
theorem ARd:∀ v,Kc v=roundOf Tryz.prog RX ARh 1 0 21 (AB Tryz.f183 0) ATi ATh v:=by
 rintro⟨a0,a1,a2,a3,⟨⟩⟩
 kernel_rfl
theorem Ac4:AD (AB Tryz.f183 0) 1=[]:=by kernel_rfl
theorem Ac5:Ac Tryz.prog 0 (.loop (AB Tryz.f183 0)) (ARh.loop 0):=AY Ms (ARd) (AA Ac4 trivial)
theorem Aan:∀ v,AIE v=AT Tryz.prog RX ARh Tryz.f183 ARg ARf ARe v:=by
 rintro⟨a0,⟨⟩⟩
 kernel_rfl
theorem AeD:AD (AW Tryz.f183) 0=[(0,AB Tryz.f183 0)]:=by kernel_rfl
theorem AWu:AU Tryz.prog 183 (AH 1 ARg ARf ARe ends):=AN Ms Tryz.func183 (by kernel_rfl) (by kernel_rfl) rfl (fun v=>(ATj v).trans (Aan v)) (AA AeD ⟨Ac5,trivial⟩)
def AJD:Env:=RX.ext 183 true true (AH 1 ARg ARf ARe ends)
theorem Tx:Af Tryz.prog AJD:=Env.Ai Ms AWu (fun _=>AQ rfl rfl) (fun _=>AO rfl rfl)
abbrev O9:Hints:={ loop:=fun n=>match n with|0=>Ae 0 48 VW VV B1|_=>fun _ _ _=>none,fp:=fun n=>match n with|1=>[[0],[],[],[4],[]]|_=>[] }
theorem AAx:∀ v,B1 v=roundOf Tryz.prog AJD O9 1 0 48 (AB Tryz.f160 0) VW VV v:=by
 rintro⟨a0,a1,a2,a3,a4,a5,a6,⟨⟩⟩
 kernel_rfl
theorem ANC:AD (AB Tryz.f160 0) 1=[]:=by kernel_rfl
theorem AND:Ac Tryz.prog 0 (.loop (AB Tryz.f160 0)) (O9.loop 0):=AY Tx (AAx) (AA ANC trivial)
theorem AIH:∀ v,IE v=AT Tryz.prog AJD O9 Tryz.f160 O8 O7 O6 v:=by
 rintro⟨a0,a1,⟨⟩⟩
 kernel_rfl
theorem ARk:AD (AW Tryz.f160) 0=[(0,AB Tryz.f160 0)]:=by kernel_rfl
theorem AC2:AU Tryz.prog 160 (AH 3 O8 O7 O6 Qp):=AN Tx Tryz.func160 (by kernel_rfl) (by kernel_rfl) rfl (fun v=>(MU v).trans (AIH v)) (AA ARk ⟨AND,trivial⟩)
def PS:Env:=AJD.FH 160 2 161 (AH 3 O8 O7 O6 Qp)
theorem OD:Af Tryz.prog PS:=Env.Bc Tx AC2 (AO rfl rfl)
abbrev Aah:Hints:={  }
theorem ARY:∀ v,MP v=AT Tryz.prog PS Aah Tryz.f130 AAo AAn AAm v:=by
 rintro⟨a0,a1,⟨⟩⟩
 kernel_rfl
theorem Aag:AD (AW Tryz.f130) 0=[]:=by kernel_rfl
theorem AM0:AU Tryz.prog 130 (AH 2 AAo AAn AAm AH9):=AN OD Tryz.func130 (by kernel_rfl) (by kernel_rfl) rfl (fun v=>(TD v).trans (ARY v)) (AA Aag trivial)
def AB5:Env:=PS.ext 130 true true (AH 2 AAo AAn AAm AH9)
theorem WD:Af Tryz.prog AB5:=Env.Ai OD AM0 (fun _=>AQ rfl rfl) (fun _=>AO rfl rfl)
abbrev AeX:Hints:={  }
theorem Ac1:∀ v,AMz v=AT Tryz.prog AB5 AeX Tryz.f92 Aaf Aae Aad v:=by
 rintro⟨a0,a1,⟨⟩⟩
 kernel_rfl
theorem AeW:AD (AW Tryz.f92) 0=[]:=by kernel_rfl
theorem Aac:AU Tryz.prog 92 (AH 2 Aaf Aae Aad fof):=AN WD Tryz.func92 (by kernel_rfl) (by kernel_rfl) rfl (fun v=>(ARV v).trans (Ac1 v)) (AA AeW trivial)
def AT3:Env:=AB5.ext 92 true true (AH 2 Aaf Aae Aad fof)
theorem AB4:Af Tryz.prog AT3:=Env.Ai WD Aac (fun _=>AQ rfl rfl) (fun _=>AO rfl rfl)
abbrev AZi:Hints:={ loop:=fun n=>match n with|0=>Ae 0 18 AZg AZe Oc|_=>fun _ _ _=>none }
theorem AVS:∀ v,Oc v=roundOf Tryz.prog AT3 AZi 1 0 18 (AB Tryz.f114 0) AZg AZe v:=by
 rintro⟨a0,a1,a2,a3,⟨⟩⟩
 kernel_rfl
theorem Adw:AD (AB Tryz.f114 0) 1=[]:=by kernel_rfl
theorem Adx:Ac Tryz.prog 0 (.loop (AB Tryz.f114 0)) (AZi.loop 0):=AY AB4 (AVS) (AA Adw trivial)
theorem AcE:∀ v,AS7 v=AT Tryz.prog AT3 AZi Tryz.f114 AZh AZf AZd v:=by
 rintro⟨a0,⟨⟩⟩
 kernel_rfl
theorem AeT:AD (AW Tryz.f114) 0=[(0,AB Tryz.f114 0)]:=by kernel_rfl
theorem AZc:AU Tryz.prog 114 (AH 1 AZh AZf AZd orI):=AN AB4 Tryz.func114 (by kernel_rfl) (by kernel_rfl) rfl (fun v=>(AZj v).trans (AcE v)) (AA AeT ⟨Adx,trivial⟩)
def AbN:Env:=AT3.ext 114 true true (AH 1 AZh AZf AZd orI)
theorem ANs:Af Tryz.prog AbN:=Env.Ai AB4 AZc (fun _=>AQ rfl rfl) (fun _=>AO rfl rfl)
abbrev AZu:Hints:={  }
theorem AQl:∀ v,MD v=AT Tryz.prog AbN AZu Tryz.f97 Z6 Z5 Z4 v:=by
 rintro⟨a0,⟨⟩⟩
 kernel_rfl
theorem AZt:AD (AW Tryz.f97) 0=[]:=by kernel_rfl
theorem AMB:AU Tryz.prog 97 (AH 1 Z6 Z5 Z4 Ss):=AN ANs Tryz.func97 (by kernel_rfl) (by kernel_rfl) rfl (fun v=>(Sr v).trans (AQl v)) (AA AZt trivial)
def ABz:Env:=AbN.ext 97 true true (AH 1 Z6 Z5 Z4 Ss)
theorem Vz:Af Tryz.prog ABz:=Env.Ai ANs AMB (fun _=>AQ rfl rfl) (fun _=>AO rfl rfl)
end
end Go.Pev
end
section
namespace Go.Pev
open Go.Proofs
noncomputable section
abbrev Ad5:Hints:={  }
theorem AZs:∀ v,AQk v=AT Tryz.prog ABz Ad5 Tryz.f53 AQj AQi AQh v:=by
 rintro⟨a0,⟨⟩⟩
 kernel_rfl
theorem Ad4:AD (AW Tryz.f53) 0=[]:=by kernel_rfl
theorem AVr:AU Tryz.prog 53 (AH 1 AQj AQi AQh ACt):=AN Vz Tryz.func53 (by kernel_rfl) (by kernel_rfl) rfl (fun v=>(AcN v).trans (AZs v)) (AA Ad4 trivial)
def ASa:Env:=ABz.ext 53 true true (AH 1 AQj AQi AQh ACt)
theorem AEx:Af Tryz.prog ASa:=Env.Ai Vz AVr (fun _=>AQ rfl rfl) (fun _=>AO rfl rfl)
abbrev AQz:Hints:={ fp:=fun n=>match n with|1=>[[0],[0],[2],[2],[],[0],[0],[2],[2],[],[],[20],[]]|_=>[] }
theorem AHc:∀ v,Hy v=AT Tryz.prog ASa AQz Tryz.f98 Om Ol Oj v:=by
 rintro⟨a0,a1,⟨⟩⟩
 kernel_rfl
theorem AQy:AD (AW Tryz.f98) 0=[]:=by kernel_rfl
theorem ACw:AU Tryz.prog 98 (AH 2 Om Ol Oj DX):=AN AEx Tryz.func98 (by kernel_rfl) (by kernel_rfl) rfl (fun v=>(ME v).trans (AHc v)) (AA AQy trivial)
def Ky:Env:=ASa.ext 98 true true (AH 2 Om Ol Oj DX)
theorem JL:Af Tryz.prog Ky:=Env.Ai AEx ACw (fun _=>AQ rfl rfl) (fun _=>AO rfl rfl)
abbrev Z2:Hints:={ loop:=fun n=>match n with|0=>Ae 0 33 AEB AEA Cl|_=>fun _ _ _=>none }
theorem AHK:∀ v,Cl v=roundOf Tryz.prog Ky Z2 1 0 33 (AB Tryz.f93 0) AEB AEA v:=by
 rintro⟨a0,a1,a2,a3,a4,⟨⟩⟩
 kernel_rfl
theorem AVp:AD (AB Tryz.f93 0) 1=[]:=by kernel_rfl
theorem AVq:Ac Tryz.prog 0 (.loop (AB Tryz.f93 0)) (Z2.loop 0):=AY JL (AHK) (AA AVp trivial)
theorem AQg:∀ v,MA v=AT Tryz.prog Ky Z2 Tryz.f93 Z1 Z0 Zz v:=by
 rintro⟨a0,a1,⟨⟩⟩
 kernel_rfl
theorem AZr:AD (AW Tryz.f93) 0=[(0,AB Tryz.f93 0)]:=by kernel_rfl
theorem AL9:AU Tryz.prog 93 (AH 2 Z1 Z0 Zz Oh):=AN JL Tryz.func93 (by kernel_rfl) (by kernel_rfl) rfl (fun v=>(Sq v).trans (AQg v)) (AA AZr ⟨AVq,trivial⟩)
def RP:Env:=Ky.ext 93 true true (AH 2 Z1 Z0 Zz Oh)
theorem Mq:Af Tryz.prog RP:=Env.Ai JL AL9 (fun _=>AQ rfl rfl) (fun _=>AO rfl rfl)
abbrev AAA:Hints:={ loop:=fun n=>match n with|0=>Ae 0 96 AED AEC Dq|_=>fun _ _ _=>none,fp:=fun n=>match n with|7=>[[2],[2],[],[],[2],[2],[2],[2],[],[],[],[2],[2],[0],[0],[],[],[],[2],[2],[],[],[],[2],[2],[],[],[],[],[],[],[],[0],[0],[],[],[],[],[2],[],[],[],[]]|_=>[] }
theorem AHL:∀ v,Dq v=roundOf Tryz.prog RP AAA 1 0 96 (AB Tryz.f49 0) AED AEC v:=by
 rintro⟨a0,a1,a2,a3,a4,a5,⟨⟩⟩
 kernel_rfl
theorem AVs:AD (AB Tryz.f49 0) 1=[]:=by kernel_rfl
theorem AVt:Ac Tryz.prog 0 (.loop (AB Tryz.f49 0)) (AAA.loop 0):=AY Mq (AHL) (AA AVs trivial)
theorem AQm:∀ v,Hv v=AT Tryz.prog RP AAA Tryz.f49 Z9 Z8 Z7 v:=by
 rintro⟨a0,⟨⟩⟩
 kernel_rfl
theorem AZv:AD (AW Tryz.f49) 0=[(0,AB Tryz.f49 0)]:=by kernel_rfl
theorem AMC:AU Tryz.prog 49 (AH 1 Z9 Z8 Z7 Fq):=AN Mq Tryz.func49 (by kernel_rfl) (by kernel_rfl) rfl (fun v=>(JZ v).trans (AQm v)) (AA AZv ⟨AVt,trivial⟩)
def RQ:Env:=RP.ext 49 true true (AH 1 Z9 Z8 Z7 Fq)
theorem Mr:Af Tryz.prog RQ:=Env.Ai Mq AMC (fun _=>AQ rfl rfl) (fun _=>AO rfl rfl)
abbrev AAK:Hints:={ loop:=fun n=>match n with|0=>Ae 0 26 AEH AEG Ft|_=>fun _ _ _=>none }
theorem AHa:∀ v,Ft v=roundOf Tryz.prog RQ AAK 1 0 26 (AB Tryz.f52 0) AEH AEG v:=by
 rintro⟨a0,a1,a2,a3,⟨⟩⟩
 kernel_rfl
theorem AV7:AD (AB Tryz.f52 0) 1=[]:=by kernel_rfl
theorem AV8:Ac Tryz.prog 0 (.loop (AB Tryz.f52 0)) (AAK.loop 0):=AY Mr (AHa) (AA AV7 trivial)
theorem AQw:∀ v,QL v=AT Tryz.prog RQ AAK Tryz.f52 AAJ AAI AAH v:=by
 rintro⟨a0,⟨⟩⟩
 kernel_rfl
theorem AZ1:AD (AW Tryz.f52) 0=[(0,AB Tryz.f52 0)]:=by kernel_rfl
theorem AMN:AU Tryz.prog 52 (AH 1 AAJ AAI AAH AAL):=AN Mr Tryz.func52 (by kernel_rfl) (by kernel_rfl) rfl (fun v=>(AEI v).trans (AQw v)) (AA AZ1 ⟨AV8,trivial⟩)
def Jy:Env:=RQ.ext 52 true true (AH 1 AAJ AAI AAH AAL)
theorem Gm:Af Tryz.prog Jy:=Env.Ai Mr AMN (fun _=>AQ rfl rfl) (fun _=>AO rfl rfl)
abbrev Dd:Hints:={ loop:=fun n=>match n with|0=>Ae 0 83 Q1 Qy C3|1=>Ae 0 83 Q0 Qx Dw|2=>Ae 0 83 Qz Qw C2|_=>fun _ _ _=>none,fp:=fun n=>match n with|14=>[[],[],[0],[0],[],[],[0],[0],[],[]]|13=>[[],[],[],[],[],[],[],[],[],[],[],[],[],[],[],[],[],[],[],[0],[0],[],[],[0],[0],[],[]]|12=>[[],[],[],[],[],[],[],[],[],[],[],[]]|_=>[] }
theorem Wj:∀ v,C2 v=roundOf Tryz.prog Jy Dd 3 0 83 (AB Tryz.f68 2) Qz Qw v:=by
 rintro⟨a0,a1,a2,a3,a4,⟨⟩⟩
 kernel_rfl
theorem AIU:AD (AB Tryz.f68 2) 3=[]:=by kernel_rfl
theorem AIX:Ac Tryz.prog 0 (.loop (AB Tryz.f68 2)) (Dd.loop 2):=AY Gm (Wj) (AA AIU trivial)
theorem Wk:∀ v,Dw v=roundOf Tryz.prog Jy Dd 2 0 83 (AB Tryz.f68 1) Q0 Qx v:=by
 rintro⟨a0,a1,a2,a3,⟨⟩⟩
 kernel_rfl
theorem AIV:AD (AB Tryz.f68 1) 2=[(2,AB Tryz.f68 2)]:=by kernel_rfl
theorem AIY:Ac Tryz.prog 0 (.loop (AB Tryz.f68 1)) (Dd.loop 1):=AY Gm (Wk) (AA AIV ⟨AIX,trivial⟩)
theorem Wl:∀ v,C3 v=roundOf Tryz.prog Jy Dd 1 0 83 (AB Tryz.f68 0) Q1 Qy v:=by
 rintro⟨a0,a1,a2,a3,⟨⟩⟩
 kernel_rfl
theorem AIW:AD (AB Tryz.f68 0) 1=[]:=by kernel_rfl
theorem AIZ:Ac Tryz.prog 0 (.loop (AB Tryz.f68 0)) (Dd.loop 0):=AY Gm (Wl) (AA AIW trivial)
theorem ADD:∀ v,I0 v=AT Tryz.prog Jy Dd Tryz.f68 Me Md Mc v:=by
 rintro⟨a0,a1,⟨⟩⟩
 kernel_rfl
theorem ANQ:AD (AW Tryz.f68) 0=[(0,AB Tryz.f68 0),(1,AB Tryz.f68 1)]:=by kernel_rfl
theorem ABI:AU Tryz.prog 68 (AH 2 Me Md Mc DG):=AN Gm Tryz.func68 (by kernel_rfl) (by kernel_rfl) rfl (fun v=>(Q2 v).trans (ADD v)) (AA ANQ ⟨AIZ,AIY,trivial⟩)
def JA:Env:=Jy.ext 68 true true (AH 2 Me Md Mc DG)
theorem IY:Af Tryz.prog JA:=Env.Ai Gm ABI (fun _=>AQ rfl rfl) (fun _=>AO rfl rfl)
abbrev AFP:Hints:={ loop:=fun n=>match n with|0=>Ae 0 20 AJh AJg Xz|_=>fun _ _ _=>none }
theorem AJf:∀ v,Xz v=roundOf Tryz.prog JA AFP 1 0 20 (AB Tryz.f38 0) AJh AJg v:=by
 rintro⟨a0,a1,⟨⟩⟩
 kernel_rfl
theorem AXk:AD (AB Tryz.f38 0) 1=[]:=by kernel_rfl
theorem AXl:Ac Tryz.prog 0 (.loop (AB Tryz.f38 0)) (AFP.loop 0):=AY IY (AJf) (AA AXk trivial)
theorem AUL:∀ v,AFQ v=AT Tryz.prog JA AFP Tryz.f38 AFO AFN AFM v:=by
 rintro⟨a0,⟨⟩⟩
 kernel_rfl
theorem AbW:AD (AW Tryz.f38) 0=[(0,AB Tryz.f38 0)]:=by kernel_rfl
theorem AOA:AU Tryz.prog 38 (AH 1 AFO AFN AFM K7):=AN IY Tryz.func38 (by kernel_rfl) (by kernel_rfl) rfl (fun v=>(AXm v).trans (AUL v)) (AA AbW ⟨AXl,trivial⟩)
def RB:Env:=JA.ext 38 true true (AH 1 AFO AFN AFM K7)
theorem Kq:Af Tryz.prog RB:=Env.Ai IY AOA (fun _=>AQ rfl rfl) (fun _=>AO rfl rfl)
abbrev JR:Hints:={ loop:=fun n=>match n with|0=>Ae 0 138 Yj Yh Cw|1=>Ae 0 138 Yi Yg DU|_=>fun _ _ _=>none,fp:=fun n=>match n with|10=>[[],[],[],[0],[0],[],[],[],[],[],[4],[4],[],[],[0],[0],[],[],[],[],[],[4],[4],[],[],[0],[0],[],[],[],[],[],[4],[4],[],[],[],[]]|8=>[[4],[4],[],[],[4],[4],[4],[4],[],[],[],[4],[4],[0],[0],[],[],[],[4],[4],[],[],[],[4],[4],[0],[0],[],[],[]]|_=>[] }
theorem ACL:∀ v,DU v=roundOf Tryz.prog RB JR 2 0 138 (AB Tryz.f50 1) Yi Yg v:=by
 rintro⟨a0,a1,a2,a3,a4,a5,⟨⟩⟩
 kernel_rfl
theorem AOp:AD (AB Tryz.f50 1) 2=[]:=by kernel_rfl
theorem AOr:Ac Tryz.prog 0 (.loop (AB Tryz.f50 1)) (JR.loop 1):=AY Kq (ACL) (AA AOp trivial)
theorem ACN:∀ v,Cw v=roundOf Tryz.prog RB JR 1 0 138 (AB Tryz.f50 0) Yj Yh v:=by
 rintro⟨a0,a1,a2,a3,⟨⟩⟩
 kernel_rfl
theorem AOq:AD (AB Tryz.f50 0) 1=[]:=by kernel_rfl
theorem AOs:Ac Tryz.prog 0 (.loop (AB Tryz.f50 0)) (JR.loop 0):=AY Kq (ACN) (AA AOq trivial)
theorem AKQ:∀ v,Em v=AT Tryz.prog RB JR Tryz.f50 R3 R2 R1 v:=by
 rintro⟨a0,⟨⟩⟩
 kernel_rfl
theorem AUm:AD (AW Tryz.f50) 0=[(0,AB Tryz.f50 0),(1,AB Tryz.f50 1)]:=by kernel_rfl
theorem AF2:AU Tryz.prog 50 (AH 1 R3 R2 R1 Ci):=AN Kq Tryz.func50 (by kernel_rfl) (by kernel_rfl) rfl (fun v=>(Ff v).trans (AKQ v)) (AA AUm ⟨AOs,AOr,trivial⟩)
def Np:Env:=RB.ext 50 true true (AH 1 R3 R2 R1 Ci)
theorem Kw:Af Tryz.prog Np:=Env.Ai Kq AF2 (fun _=>AQ rfl rfl) (fun _=>AO rfl rfl)
abbrev TL:Hints:={ loop:=fun n=>match n with|0=>Ae 0 32 AAv AAu EZ|_=>fun _ _ _=>none,fp:=fun n=>match n with|7=>[[],[0],[0],[],[],[],[],[0],[0],[],[],[],[],[],[],[3,4],[]]|_=>[] }
theorem AC1:∀ v,EZ v=roundOf Tryz.prog Np TL 1 0 32 (AB Tryz.f36 0) AAv AAu v:=by
 rintro⟨a0,a1,a2,a3,⟨⟩⟩
 kernel_rfl
theorem ARi:AD (AB Tryz.f36 0) 1=[]:=by kernel_rfl
theorem ARj:Ac Tryz.prog 0 (.loop (AB Tryz.f36 0)) (TL.loop 0):=AY Kw (AC1) (AA ARi trivial)
theorem ANB:∀ v,NX v=AT Tryz.prog Np TL Tryz.f36 TK TJ TH v:=by
 rintro⟨a0,⟨⟩⟩
 kernel_rfl
theorem AWw:AD (AW Tryz.f36) 0=[(0,AB Tryz.f36 0)]:=by kernel_rfl
theorem AIF:AU Tryz.prog 36 (AH 1 TK TJ TH NY):=AN Kw Tryz.func36 (by kernel_rfl) (by kernel_rfl) rfl (fun v=>(AAw v).trans (ANB v)) (AA AWw ⟨ARj,trivial⟩)
def Nr:Env:=Np.ext 36 true true (AH 1 TK TJ TH NY)
theorem K5:Af Tryz.prog Nr:=Env.Ai Kw AIF (fun _=>AQ rfl rfl) (fun _=>AO rfl rfl)
abbrev YT:Hints:={ loop:=fun n=>match n with|0=>Ae 0 26 ADo ADn R0|_=>fun _ _ _=>none,fp:=fun n=>match n with|6=>[[],[],[],[],[],[],[],[],[]]|_=>[] }
theorem AF0:∀ v,R0 v=roundOf Tryz.prog Nr YT 1 0 26 (AB Tryz.f19 0) ADo ADn v:=by
 rintro⟨a0,a1,a2,⟨⟩⟩
 kernel_rfl
theorem AUg:AD (AB Tryz.f19 0) 1=[]:=by kernel_rfl
theorem AUh:Ac Tryz.prog 0 (.loop (AB Tryz.f19 0)) (YT.loop 0):=AY K5 (AF0) (AA AUg trivial)
theorem AOi:∀ v,YU v=AT Tryz.prog Nr YT Tryz.f19 YS YR YQ v:=by
 rintro⟨a0,a1,⟨⟩⟩
 kernel_rfl
theorem AYK:AD (AW Tryz.f19) 0=[(0,AB Tryz.f19 0)]:=by kernel_rfl
theorem AKG:AU Tryz.prog 19 (AH 2 YS YR YQ AF1):=AN K5 Tryz.func19 (by kernel_rfl) (by kernel_rfl) rfl (fun v=>(AUi v).trans (AOi v)) (AA AYK ⟨AUh,trivial⟩)
def ABo:Env:=Nr.ext 19 true true (AH 2 YS YR YQ AF1)
theorem Vu:Af Tryz.prog ABo:=Env.Ai K5 AKG (fun _=>AQ rfl rfl) (fun _=>AO rfl rfl)
abbrev AeN:Hints:={  }
theorem AbY:∀ v,ASf v=AT Tryz.prog ABo AeN Tryz.f126 AXq AXp AXo v:=by
 rintro⟨a0,a1,⟨⟩⟩
 kernel_rfl
theorem AeM:AD (AW Tryz.f126) 0=[]:=by kernel_rfl
theorem AXn:AU Tryz.prog 126 (AH 2 AXq AXp AXo tof):=AN Vu Tryz.func126 (by kernel_rfl) (by kernel_rfl) rfl (fun v=>(AXr v).trans (AbY v)) (AA AeM trivial)
def AT0:Env:=ABo.ext 126 true true (AH 2 AXq AXp AXo tof)
theorem ABk:Af Tryz.prog AT0:=Env.Ai Vu AXn (fun _=>AQ rfl rfl) (fun _=>AO rfl rfl)
abbrev Rn:Hints:={ loop:=fun n=>match n with|0=>Ae 0 47 Xt Xs EP|_=>fun _ _ _=>none,fp:=fun n=>match n with|6=>[[],[0],[0],[],[],[],[],[0],[0],[],[],[],[],[],[],[3,4],[]]|_=>[] }
theorem ACC:∀ v,EP v=roundOf Tryz.prog AT0 Rn 1 0 47 (AB Tryz.f78 0) Xt Xs v:=by
 rintro⟨a0,a1,a2,a3,a4,⟨⟩⟩
 kernel_rfl
theorem AN4:AD (AB Tryz.f78 0) 1=[]:=by kernel_rfl
theorem AN5:Ac Tryz.prog 0 (.loop (AB Tryz.f78 0)) (Rn.loop 0):=AY ABk (ACC) (AA AN4 trivial)
theorem AJc:∀ v,Mv v=AT Tryz.prog AT0 Rn Tryz.f78 Rm Rl Rk v:=by
 rintro⟨a0,a1,⟨⟩⟩
 kernel_rfl
theorem AUG:AD (AW Tryz.f78) 0=[(0,AB Tryz.f78 0)]:=by kernel_rfl
theorem AFJ:AU Tryz.prog 78 (AH 2 Rm Rl Rk Ia):=AN ABk Tryz.func78 (by kernel_rfl) (by kernel_rfl) rfl (fun v=>(Xu v).trans (AJc v)) (AA AUG ⟨AN5,trivial⟩)
def Nn:Env:=AT0.ext 78 true true (AH 2 Rm Rl Rk Ia)
theorem Kp:Af Tryz.prog Nn:=Env.Ai ABk AFJ (fun _=>AQ rfl rfl) (fun _=>AO rfl rfl)
end
end Go.Pev
end
section
namespace Go.Pev
open Go.Proofs
noncomputable section
abbrev YP:Hints:={ loop:=fun n=>match n with|0=>Ae 0 38 ADl ADk Ek|_=>fun _ _ _=>none,fp:=fun n=>match n with|6=>[[0],[0],[],[],[],[2],[2],[],[],[],[]]|_=>[] }
theorem AFz:∀ v,Ek v=roundOf Tryz.prog Nn YP 1 0 38 (AB Tryz.f55 0) ADl ADk v:=by
 rintro⟨a0,a1,a2,a3,a4,⟨⟩⟩
 kernel_rfl
theorem AUe:AD (AB Tryz.f55 0) 1=[]:=by kernel_rfl
theorem AUf:Ac Tryz.prog 0 (.loop (AB Tryz.f55 0)) (YP.loop 0):=AY Kp (AFz) (AA AUe trivial)
theorem AOh:∀ v,Pg v=AT Tryz.prog Nn YP Tryz.f55 YO YN YM v:=by
 rintro⟨a0,a1,⟨⟩⟩
 kernel_rfl
theorem AYJ:AD (AW Tryz.f55) 0=[(0,AB Tryz.f55 0)]:=by kernel_rfl
theorem AKF:AU Tryz.prog 55 (AH 2 YO YN YM Rz):=AN Kp Tryz.func55 (by kernel_rfl) (by kernel_rfl) rfl (fun v=>(ADm v).trans (AOh v)) (AA AYJ ⟨AUf,trivial⟩)
def ABn:Env:=Nn.ext 55 true true (AH 2 YO YN YM Rz)
theorem Vt:Af Tryz.prog ABn:=Env.Ai Kp AKF (fun _=>AQ rfl rfl) (fun _=>AO rfl rfl)
abbrev AVz:Hints:={ fp:=fun n=>match n with|3=>[[0],[0],[0],[],[],[12],[],[],[3],[]]|_=>[] }
theorem AMH:∀ v,Jb v=AT Tryz.prog ABn AVz Tryz.f41 S1 S0 Sy v:=by
 rintro⟨a0,a1,⟨⟩⟩
 kernel_rfl
theorem AVy:AD (AW Tryz.f41) 0=[]:=by kernel_rfl
theorem AHQ:AU Tryz.prog 41 (AH 2 S1 S0 Sy NR):=AN Vt Tryz.func41 (by kernel_rfl) (by kernel_rfl) rfl (fun v=>(Oi v).trans (AMH v)) (AA AVy trivial)
def Ts:Env:=ABn.ext 41 true true (AH 2 S1 S0 Sy NR)
theorem RR:Af Tryz.prog Ts:=Env.Ai Vt AHQ (fun _=>AQ rfl rfl) (fun _=>AO rfl rfl)
abbrev AcS:Hints:={  }
theorem AV2:∀ v,XI v=AT Tryz.prog Ts AcS Tryz.f168 AHW AHV AHU v:=by
 rintro⟨a0,a1,⟨⟩⟩
 kernel_rfl
theorem AcR:AD (AW Tryz.f168) 0=[]:=by kernel_rfl
theorem AQt:AU Tryz.prog 168 (AH 2 AHW AHV AHU EB):=AN RR Tryz.func168 (by kernel_rfl) (by kernel_rfl) rfl (fun v=>(AMK v).trans (AV2 v)) (AA AcR trivial)
def RT:Env:=Ts.ext 168 true true (AH 2 AHW AHV AHU EB)
theorem Kx:Af Tryz.prog RT:=Env.Ai RR AQt (fun _=>AQ rfl rfl) (fun _=>AO rfl rfl)
abbrev AAT:Hints:={ loop:=fun n=>match n with|0=>Ae 1 49 ATW ATU NT|1=>Ae 1 49 ATV ATT NS|_=>fun _ _ _=>none,fp:=fun n=>match n with|4=>[[],[],[],[],[],[],[0],[0],[],[],[],[0],[0],[],[]]|6=>[[],[],[],[],[],[],[],[],[0],[0],[],[],[0],[0],[0],[1],[0],[1]]|_=>[] }
theorem ARA:∀ v,NS v=roundOf Tryz.prog RT AAT 2 1 49 (AB Tryz.f162 1) ATV ATT v:=by
 rintro⟨a0,a1,a2,a3,a4,⟨⟩⟩
 kernel_rfl
theorem Acb:AD (AB Tryz.f162 1) 2=[]:=by kernel_rfl
theorem Ace:Ac Tryz.prog 1 (.loop (AB Tryz.f162 1)) (AAT.loop 1):=AY Kx (ARA) (AA Acb trivial)
theorem ARB:∀ v,NT v=roundOf Tryz.prog RT AAT 1 1 49 (AB Tryz.f162 0) ATW ATU v:=by
 rintro⟨a0,a1,a2,a3,⟨⟩⟩
 kernel_rfl
theorem Acd:AD (AB Tryz.f162 0) 1=[(1,AB Tryz.f162 1)]:=by kernel_rfl
theorem Acf:Ac Tryz.prog 1 (.loop (AB Tryz.f162 0)) (AAT.loop 0):=AY Kx (ARB) (AA Acd ⟨Ace,trivial⟩)
theorem AZ9:∀ v,AHg v=AT Tryz.prog RT AAT Tryz.f162 ARE ARD ARC v:=by
 rintro⟨a0,a1,a2,⟨⟩⟩
 kernel_rfl
theorem Ad9:AD (AW Tryz.f162) 0=[(0,AB Tryz.f162 0)]:=by kernel_rfl
theorem AWD:AU Tryz.prog 162 (AH 3 ARE ARD ARC AWE):=AN Kx Tryz.func162 (by kernel_rfl) (by kernel_rfl) rfl (fun v=>(ATX v).trans (AZ9 v)) (AA Ad9 ⟨Acf,trivial⟩)
def AJC:Env:=RT.ext 162 false true (AH 3 ARE ARD ARC AWE)
theorem Tu:Af Tryz.prog AJC:=Env.Ai Kx AWD ((by simp)) (fun _=>AO rfl rfl)
abbrev AFq:Hints:={ loop:=fun n=>match n with|0=>Ae 1 76 AJ4 AJ3 JP|_=>fun _ _ _=>none,fp:=fun n=>match n with|6=>[[],[],[],[],[],[],[],[],[],[],[],[],[0],[0],[],[],[],[],[0],[0],[0],[1],[0],[1]]|5=>[[],[],[],[],[0],[0],[],[],[],[],[0],[0],[],[]]|3=>[[],[],[],[],[],[],[],[],[],[0],[0],[],[],[],[],[],[0],[0],[],[]]|_=>[] }
theorem AJ2:∀ v,JP v=roundOf Tryz.prog AJC AFq 1 1 76 (AB Tryz.f189 0) AJ4 AJ3 v:=by
 rintro⟨a0,a1,a2,a3,⟨⟩⟩
 kernel_rfl
theorem AYE:AD (AB Tryz.f189 0) 1=[]:=by kernel_rfl
theorem AYF:Ac Tryz.prog 1 (.loop (AB Tryz.f189 0)) (AFq.loop 0):=AY Tu (AJ2) (AA AYE trivial)
theorem AUa:∀ v,W1 v=AT Tryz.prog AJC AFq Tryz.f189 AFp AFo AFn v:=by
 rintro⟨a0,a1,a2,a3,⟨⟩⟩
 kernel_rfl
theorem Abi:AD (AW Tryz.f189) 0=[(0,AB Tryz.f189 0)]:=by kernel_rfl
theorem AOa:AU Tryz.prog 189 (AH 4 AFp AFo AFn ADe):=AN Tu Tryz.func189 (by kernel_rfl) (by kernel_rfl) rfl (fun v=>(AJ5 v).trans (AUa v)) (AA Abi ⟨AYF,trivial⟩)
def RE:Env:=AJC.ext 189 false true (AH 4 AFp AFo AFn ADe)
theorem Kv:Af Tryz.prog RE:=Env.Ai Tu AOa ((by simp)) (fun _=>AO rfl rfl)
abbrev Qh:Hints:={ loop:=fun n=>match n with|0=>Ae 1 56 AMh AMf Jf|1=>Ae 1 56 AMg AMe Je|_=>fun _ _ _=>none,fp:=fun n=>match n with|10=>[[],[],[],[],[],[],[],[],[],[],[0],[0],[],[],[0],[0],[0],[1],[0],[1]]|_=>[] }
theorem AMc:∀ v,Je v=roundOf Tryz.prog RE Qh 2 1 56 (AB Tryz.f163 1) AMg AMe v:=by
 rintro⟨a0,a1,a2,a3,⟨⟩⟩
 kernel_rfl
theorem AaN:AD (AB Tryz.f163 1) 2=[]:=by kernel_rfl
theorem AaP:Ac Tryz.prog 1 (.loop (AB Tryz.f163 1)) (Qh.loop 1):=AY Kv (AMc) (AA AaN trivial)
theorem AMd:∀ v,Jf v=roundOf Tryz.prog RE Qh 1 1 56 (AB Tryz.f163 0) AMh AMf v:=by
 rintro⟨a0,a1,a2,a3,a4,⟨⟩⟩
 kernel_rfl
theorem AaO:AD (AB Tryz.f163 0) 1=[]:=by kernel_rfl
theorem AaQ:Ac Tryz.prog 1 (.loop (AB Tryz.f163 0)) (Qh.loop 0):=AY Kv (AMd) (AA AaO trivial)
theorem AWS:∀ v,XK v=AT Tryz.prog RE Qh Tryz.f163 AHr AHq AHp v:=by
 rintro⟨a0,a1,a2,⟨⟩⟩
 kernel_rfl
theorem Aco:AD (AW Tryz.f163) 0=[(0,AB Tryz.f163 0),(1,AB Tryz.f163 1)]:=by kernel_rfl
theorem ARK:AU Tryz.prog 163 (AH 3 AHr AHq AHp AES):=AN Kv Tryz.func163 (by kernel_rfl) (by kernel_rfl) rfl (fun v=>(AMi v).trans (AWS v)) (AA Aco ⟨AaQ,AaP,trivial⟩)
def XW:Env:=RE.ext 163 false true (AH 3 AHr AHq AHp AES)
theorem PQ:Af Tryz.prog XW:=Env.Ai Kv ARK ((by simp)) (fun _=>AO rfl rfl)
abbrev ABW:Hints:={ loop:=fun n=>match n with|0=>Ae 1 65 AEj AEi GC|_=>fun _ _ _=>none,fp:=fun n=>match n with|10=>[[],[],[],[],[],[],[],[],[],[],[0],[0],[],[],[0],[0],[0],[1],[0],[1]]|_=>[] }
theorem AIi:∀ v,GC v=roundOf Tryz.prog XW ABW 1 1 65 (AB Tryz.f164 0) AEj AEi v:=by
 rintro⟨a0,a1,a2,a3,a4,a5,⟨⟩⟩
 kernel_rfl
theorem AXG:AD (AB Tryz.f164 0) 1=[]:=by kernel_rfl
theorem AXH:Ac Tryz.prog 1 (.loop (AB Tryz.f164 0)) (ABW.loop 0):=AY PQ (AIi) (AA AXG trivial)
theorem ASF:∀ v,Q3 v=AT Tryz.prog XW ABW Tryz.f164 ABV ABU ABT v:=by
 rintro⟨a0,a1,a2,⟨⟩⟩
 kernel_rfl
theorem Aa7:AD (AW Tryz.f164) 0=[(0,AB Tryz.f164 0)]:=by kernel_rfl
theorem ANc:AU Tryz.prog 164 (AH 3 ABV ABU ABT Ta):=AN PQ Tryz.func164 (by kernel_rfl) (by kernel_rfl) rfl (fun v=>(AEk v).trans (ASF v)) (AA Aa7 ⟨AXH,trivial⟩)
def AB8:Env:=XW.ext 164 false true (AH 3 ABV ABU ABT Ta)
theorem WH:Af Tryz.prog AB8:=Env.Ai PQ ANc ((by simp)) (fun _=>AO rfl rfl)
abbrev AVR:Hints:={ fp:=fun n=>match n with|1=>[[],[],[0],[0],[],[],[0],[0],[]]|_=>[] }
theorem ALv:∀ v,NB v=AT Tryz.prog AB8 AVR Tryz.f205 SY SX SW v:=by
 rintro⟨a0,a1,a2,a3,⟨⟩⟩
 kernel_rfl
theorem AVQ:AD (AW Tryz.f205) 0=[]:=by kernel_rfl
theorem AGz:AU Tryz.prog 205 (AH 4 SY SX SW KG):=AN WH Tryz.func205 (by kernel_rfl) (by kernel_rfl) rfl (fun v=>(Zn v).trans (ALv v)) (AA AVQ trivial)
def Tn:Env:=AB8.ext 205 false true (AH 4 SY SX SW KG)
theorem RK:Af Tryz.prog Tn:=Env.Ai WH AGz ((by simp)) (fun _=>AO rfl rfl)
abbrev AVi:Hints:={  }
theorem AL5:∀ v,NJ v=AT Tryz.prog Tn AVi Tryz.f193 Sj Si Sh v:=by
 rintro⟨a0,a1,a2,a3,a4,⟨⟩⟩
 kernel_rfl
theorem AVh:AD (AW Tryz.f193) 0=[]:=by kernel_rfl
theorem AHE:AU Tryz.prog 193 (AH 5 Sj Si Sh KN):=AN RK Tryz.func193 (by kernel_rfl) (by kernel_rfl) rfl (fun v=>(Zw v).trans (AL5 v)) (AA AVh trivial)
def Tp:Env:=Tn.ext 193 false true (AH 5 Sj Si Sh KN)
theorem RM:Af Tryz.prog Tp:=Env.Ai RK AHE ((by simp)) (fun _=>AO rfl rfl)
abbrev AVm:Hints:={  }
theorem AL7:∀ v,NM v=AT Tryz.prog Tp AVm Tryz.f192 Sp So Sn v:=by
 rintro⟨a0,a1,a2,⟨⟩⟩
 kernel_rfl
theorem AVl:AD (AW Tryz.f192) 0=[]:=by kernel_rfl
theorem AHH:AU Tryz.prog 192 (AH 3 Sp So Sn KO):=AN RM Tryz.func192 (by kernel_rfl) (by kernel_rfl) rfl (fun v=>(Zx v).trans (AL7 v)) (AA AVl trivial)
def Tr:Env:=Tp.ext 192 false true (AH 3 Sp So Sn KO)
theorem RO:Af Tryz.prog Tr:=Env.Ai RM AHH ((by simp)) (fun _=>AO rfl rfl)
abbrev AYo:Hints:={  }
theorem APY:∀ v,Px v=AT Tryz.prog Tr AYo Tryz.f165 Y6 Y5 Y4 v:=by
 rintro⟨a0,a1,a2,⟨⟩⟩
 kernel_rfl
theorem AYn:AD (AW Tryz.f165) 0=[]:=by kernel_rfl
theorem AKd:AU Tryz.prog 165 (AH 3 Y6 Y5 Y4 SC):=AN RO Tryz.func165 (by kernel_rfl) (by kernel_rfl) rfl (fun v=>(AD1 v).trans (APY v)) (AA AYn trivial)
def RI:Env:=Tr.ext 165 false true (AH 3 Y6 Y5 Y4 SC)
theorem Mo:Af Tryz.prog RI:=Env.Ai RO AKd ((by simp)) (fun _=>AO rfl rfl)
abbrev AO5:Hints:={ loop:=fun n=>match n with|0=>Ae 1 32 ASt ASs Pn|_=>fun _ _ _=>none,fp:=fun n=>match n with|3=>[[],[],[],[],[],[],[0],[0],[],[],[0],[0],[0],[1],[0],[1]]|_=>[] }
theorem AO1:∀ v,Pn v=roundOf Tryz.prog RI AO5 1 1 32 (AB Tryz.f166 0) ASt ASs v:=by
 rintro⟨a0,a1,a2,⟨⟩⟩
 kernel_rfl
theorem Abq:AD (AB Tryz.f166 0) 1=[]:=by kernel_rfl
theorem Abr:Ac Tryz.prog 1 (.loop (AB Tryz.f166 0)) (AO5.loop 0):=AY Mo (AO1) (AA Abq trivial)
theorem AYU:∀ v,AF6 v=AT Tryz.prog RI AO5 Tryz.f166 AO4 AO3 AO2 v:=by
 rintro⟨a0,a1,a2,⟨⟩⟩
 kernel_rfl
theorem Adf:AD (AW Tryz.f166) 0=[(0,AB Tryz.f166 0)]:=by kernel_rfl
theorem AUp:AU Tryz.prog 166 (AH 3 AO4 AO3 AO2 AUr):=AN Mo Tryz.func166 (by kernel_rfl) (by kernel_rfl) rfl (fun v=>(ASu v).trans (AYU v)) (AA Adf ⟨Abr,trivial⟩)
def PL:Env:=RI.ext 166 false true (AH 3 AO4 AO3 AO2 AUr)
theorem HW:Af Tryz.prog PL:=Env.Ai Mo AUp ((by simp)) (fun _=>AO rfl rfl)
end
end Go.Pev
end
section
namespace Go.Pev
open Go.Proofs
noncomputable section
abbrev Cy:Hints:={ loop:=fun n=>match n with|0=>Ae 1 133 VF VB CS|1=>Ae 1 133 VE VA Ga|2=>Ae 1 133 VD UZ Er|3=>Ae 1 133 VC UY Ep|_=>fun _ _ _=>none,fp:=fun n=>match n with|11=>[[],[],[],[],[],[],[],[],[0],[0],[],[],[0],[0],[0],[1],[0],[1]]|5=>[[],[],[],[],[],[],[0],[0],[],[],[],[0],[0],[],[],[]]|17=>[[],[],[],[],[],[],[],[],[0],[0],[],[],[0],[0],[0],[1],[0],[1]]|16=>[[],[],[0],[0],[],[],[],[0],[0],[],[]]|23=>[[],[],[],[],[],[],[],[],[0],[0],[],[],[0],[0],[0],[1],[0],[1]]|22=>[[],[],[0],[0],[],[],[],[0],[0],[],[]]|_=>[] }
theorem ZS:∀ v,Ep v=roundOf Tryz.prog PL Cy 4 1 133 (AB Tryz.f167 3) VC UY v:=by
 rintro⟨a0,a1,a2,a3,a4,a5,⟨⟩⟩
 kernel_rfl
theorem ALI:AD (AB Tryz.f167 3) 4=[]:=by kernel_rfl
theorem ALM:Ac Tryz.prog 1 (.loop (AB Tryz.f167 3)) (Cy.loop 3):=AY HW (ZS) (AA ALI trivial)
theorem ZT:∀ v,Er v=roundOf Tryz.prog PL Cy 3 1 133 (AB Tryz.f167 2) VD UZ v:=by
 rintro⟨a0,a1,a2,a3,a4,a5,⟨⟩⟩
 kernel_rfl
theorem ALJ:AD (AB Tryz.f167 2) 3=[]:=by kernel_rfl
theorem ALN:Ac Tryz.prog 1 (.loop (AB Tryz.f167 2)) (Cy.loop 2):=AY HW (ZT) (AA ALJ trivial)
theorem ZU:∀ v,Ga v=roundOf Tryz.prog PL Cy 2 1 133 (AB Tryz.f167 1) VE VA v:=by
 rintro⟨a0,a1,a2,a3,a4,⟨⟩⟩
 kernel_rfl
theorem ALK:AD (AB Tryz.f167 1) 2=[]:=by kernel_rfl
theorem ALO:Ac Tryz.prog 1 (.loop (AB Tryz.f167 1)) (Cy.loop 1):=AY HW (ZU) (AA ALK trivial)
theorem ZV:∀ v,CS v=roundOf Tryz.prog PL Cy 1 1 133 (AB Tryz.f167 0) VF VB v:=by
 rintro⟨a0,a1,a2,a3,a4,⟨⟩⟩
 kernel_rfl
theorem ALL:AD (AB Tryz.f167 0) 1=[(1,AB Tryz.f167 1),(2,AB Tryz.f167 2),(3,AB Tryz.f167 3)]:=by kernel_rfl
theorem ALP:Ac Tryz.prog 1 (.loop (AB Tryz.f167 0)) (Cy.loop 0):=AY HW (ZV) (AA ALL ⟨ALO,ALN,ALM,trivial⟩)
theorem AGn:∀ v,KB v=AT Tryz.prog PL Cy Tryz.f167 Oa OZ OY v:=by
 rintro⟨a0,a1,a2,⟨⟩⟩
 kernel_rfl
theorem APs:AD (AW Tryz.f167) 0=[(0,AB Tryz.f167 0)]:=by kernel_rfl
theorem ACZ:AU Tryz.prog 167 (AH 3 Oa OZ OY JU):=AN HW Tryz.func167 (by kernel_rfl) (by kernel_rfl) rfl (fun v=>(VG v).trans (AGn v)) (AA APs ⟨ALP,trivial⟩)
def GH:Env:=PL.ext 167 false true (AH 3 Oa OZ OY JU)
theorem EG:Af Tryz.prog GH:=Env.Ai HW ACZ ((by simp)) (fun _=>AO rfl rfl)
abbrev Fl:Hints:={ loop:=fun n=>match n with|0=>Ae 1 84 Zk Zh Hs|1=>Ae 1 84 Zj Zg Hr|2=>Ae 1 84 Zi Zf Hq|_=>fun _ _ _=>none,fp:=fun n=>match n with|8=>[[],[],[],[],[],[],[0],[0],[],[],[0],[0],[0],[1],[0],[1]]|3=>[[],[],[],[],[],[],[0],[0],[],[],[0],[0],[],[],[]]|5=>[[],[],[],[],[],[],[0],[0],[],[],[0],[0],[],[]]|1=>[[],[],[],[],[],[],[0],[0],[],[],[0],[0],[0],[1],[0],[1]]|_=>[] }
theorem ACj:∀ v,Hq v=roundOf Tryz.prog GH Fl 3 1 84 (AB Tryz.f169 2) Zi Zf v:=by
 rintro⟨a0,a1,a2,a3,⟨⟩⟩
 kernel_rfl
theorem AP3:AD (AB Tryz.f169 2) 3=[]:=by kernel_rfl
theorem AP6:Ac Tryz.prog 1 (.loop (AB Tryz.f169 2)) (Fl.loop 2):=AY EG (ACj) (AA AP3 trivial)
theorem ACl:∀ v,Hr v=roundOf Tryz.prog GH Fl 2 1 84 (AB Tryz.f169 1) Zj Zg v:=by
 rintro⟨a0,a1,a2,a3,⟨⟩⟩
 kernel_rfl
theorem AP4:AD (AB Tryz.f169 1) 2=[]:=by kernel_rfl
theorem AP7:Ac Tryz.prog 1 (.loop (AB Tryz.f169 1)) (Fl.loop 1):=AY EG (ACl) (AA AP4 trivial)
theorem ACn:∀ v,Hs v=roundOf Tryz.prog GH Fl 1 1 84 (AB Tryz.f169 0) Zk Zh v:=by
 rintro⟨a0,a1,a2,a3,⟨⟩⟩
 kernel_rfl
theorem AP5:AD (AB Tryz.f169 0) 1=[(1,AB Tryz.f169 1),(2,AB Tryz.f169 2)]:=by kernel_rfl
theorem AP8:Ac Tryz.prog 1 (.loop (AB Tryz.f169 0)) (Fl.loop 0):=AY EG (ACn) (AA AP5 ⟨AP7,AP6,trivial⟩)
theorem ALr:∀ v,M8 v=AT Tryz.prog GH Fl Tryz.f169 SR SQ SO v:=by
 rintro⟨a0,a1,a2,a3,⟨⟩⟩
 kernel_rfl
theorem AVM:AD (AW Tryz.f169) 0=[(0,AB Tryz.f169 0)]:=by kernel_rfl
theorem AGu:AU Tryz.prog 169 (AH 4 SR SQ SO M9):=AN EG Tryz.func169 (by kernel_rfl) (by kernel_rfl) rfl (fun v=>(Zl v).trans (ALr v)) (AA AVM ⟨AP8,trivial⟩)
def Ey:Env:=GH.ext 169 false true (AH 4 SR SQ SO M9)
theorem C5:Af Tryz.prog Ey:=Env.Ai EG AGu ((by simp)) (fun _=>AO rfl rfl)
abbrev E6:Hints:={ loop:=fun n=>match n with|0=>Ae 1 168 ALj ALe Lx|1=>Ae 1 168 ALi ALd Lw|2=>Ae 1 168 ALh ALc Lv|3=>Ae 1 168 ALg ALb Lu|4=>Ae 1 168 ALf ALa Lt|_=>fun _ _ _=>none,fp:=fun n=>match n with|3=>[[],[],[],[],[],[],[0],[0],[],[],[0],[0],[],[]]|5=>[[],[],[],[],[],[],[0],[0],[],[],[0],[0],[],[],[]]|18=>[[],[],[],[],[],[],[0],[0],[],[],[0],[0],[0],[1],[0],[1]]|13=>[[],[],[],[],[],[],[0],[0],[],[],[0],[0],[],[]]|15=>[[],[],[],[],[],[],[0],[0],[],[],[0],[0],[],[],[]]|21=>[[],[],[],[],[],[],[0],[0],[],[],[0],[0],[0],[1],[0],[1]]|10=>[[],[],[],[],[],[],[0],[0],[],[],[0],[0],[0],[1],[0],[1]]|8=>[[],[],[],[],[],[],[0],[0],[],[],[0],[0],[0],[1],[0],[1]]|1=>[[],[],[],[],[],[],[0],[0],[],[],[0],[0],[0],[1],[0],[1]]|_=>[] }
theorem ALR:∀ v,Lt v=roundOf Tryz.prog Ey E6 5 1 168 (AB Tryz.f170 4) ALf ALa v:=by
 rintro⟨a0,a1,a2,a3,⟨⟩⟩
 kernel_rfl
theorem AZP:AD (AB Tryz.f170 4) 5=[]:=by kernel_rfl
theorem AZU:Ac Tryz.prog 1 (.loop (AB Tryz.f170 4)) (E6.loop 4):=AY C5 (ALR) (AA AZP trivial)
theorem ALT:∀ v,Lu v=roundOf Tryz.prog Ey E6 4 1 168 (AB Tryz.f170 3) ALg ALb v:=by
 rintro⟨a0,a1,a2,a3,⟨⟩⟩
 kernel_rfl
theorem AZQ:AD (AB Tryz.f170 3) 4=[]:=by kernel_rfl
theorem AZV:Ac Tryz.prog 1 (.loop (AB Tryz.f170 3)) (E6.loop 3):=AY C5 (ALT) (AA AZQ trivial)
theorem ALV:∀ v,Lv v=roundOf Tryz.prog Ey E6 3 1 168 (AB Tryz.f170 2) ALh ALc v:=by
 rintro⟨a0,a1,a2,a3,⟨⟩⟩
 kernel_rfl
theorem AZR:AD (AB Tryz.f170 2) 3=[(3,AB Tryz.f170 3),(4,AB Tryz.f170 4)]:=by kernel_rfl
theorem AZW:Ac Tryz.prog 1 (.loop (AB Tryz.f170 2)) (E6.loop 2):=AY C5 (ALV) (AA AZR ⟨AZV,AZU,trivial⟩)
theorem ALW:∀ v,Lw v=roundOf Tryz.prog Ey E6 2 1 168 (AB Tryz.f170 1) ALi ALd v:=by
 rintro⟨a0,a1,a2,a3,⟨⟩⟩
 kernel_rfl
theorem AZS:AD (AB Tryz.f170 1) 2=[]:=by kernel_rfl
theorem AZX:Ac Tryz.prog 1 (.loop (AB Tryz.f170 1)) (E6.loop 1):=AY C5 (ALW) (AA AZS trivial)
theorem ALY:∀ v,Lx v=roundOf Tryz.prog Ey E6 1 1 168 (AB Tryz.f170 0) ALj ALe v:=by
 rintro⟨a0,a1,a2,a3,⟨⟩⟩
 kernel_rfl
theorem AZT:AD (AB Tryz.f170 0) 1=[]:=by kernel_rfl
theorem AZY:Ac Tryz.prog 1 (.loop (AB Tryz.f170 0)) (E6.loop 0):=AY C5 (ALY) (AA AZT trivial)
theorem AVJ:∀ v,XA v=AT Tryz.prog Ey E6 Tryz.f170 AGr AGq AGp v:=by
 rintro⟨a0,a1,a2,a3,⟨⟩⟩
 kernel_rfl
theorem AcC:AD (AW Tryz.f170) 0=[(0,AB Tryz.f170 0),(1,AB Tryz.f170 1),(2,AB Tryz.f170 2)]:=by kernel_rfl
theorem APt:AU Tryz.prog 170 (AH 4 AGr AGq AGp P7):=AN C5 Tryz.func170 (by kernel_rfl) (by kernel_rfl) rfl (fun v=>(ALk v).trans (AVJ v)) (AA AcC ⟨AZY,AZX,AZW,trivial⟩)
def AI9:Env:=Ey.ext 170 false true (AH 4 AGr AGq AGp P7)
theorem ABy:Af Tryz.prog AI9:=Env.Ai C5 APt ((by simp)) (fun _=>AO rfl rfl)
abbrev APm(self:(List Int×Int×Int×Int×Unit)→Option ((List Int×Unit))):Hints:={ loop:=fun n=>match n with|0=>Ae 1 134 AS3 AS2 (M6 self)|_=>fun _ _ _=>none,fp:=fun n=>match n with|17=>[[],[],[],[],[],[],[0],[0],[],[],[0],[0],[],[],[]]|_=>[] }
abbrev AGd(self:(List Int×Int×Int×Int×Unit)→Option ((List Int×Unit))):Env:=AI9.ext 131 false true (AH 4 ZK ZJ ZI self)
theorem APl(self:(List Int×Int×Int×Int×Unit)→Option ((List Int×Unit))):∀ v,M6 self v=roundOf Tryz.prog (AGd self) (APm self) 1 1 134 (AB Tryz.f131 0) AS3 AS2 v:=by
 rintro⟨a0,a1,a2,a3,a4,a5,⟨⟩⟩
 kernel_rfl
theorem Ab5:AD (AB Tryz.f131 0) 1=[]:=by kernel_rfl
theorem Ab6(self:(List Int×Int×Int×Int×Unit)→Option ((List Int×Unit)))(hE:Af Tryz.prog (AGd self)):Ac Tryz.prog 1 (.loop (AB Tryz.f131 0)) ((APm self).loop 0):=AY hE (APl self) (AA Ab5 trivial)
theorem AYy(self:(List Int×Int×Int×Int×Unit)→Option ((List Int×Unit))):∀ v,AGc self v=AT Tryz.prog (AGd self) (APm self) Tryz.f131 ZK ZJ ZI v:=by
 rintro⟨a0,a1,a2,a3,⟨⟩⟩
 kernel_rfl
theorem Adl:AD (AW Tryz.f131) 0=[(0,AB Tryz.f131 0)]:=by kernel_rfl
theorem APn:∀ n,AU Tryz.prog 131 (AH 4 ZK ZJ ZI (Hp n)):=by
 intro n
 induction n with
 |zero=>exact VK fun _=>rfl
 |succ n ih=>
  have hE:Af Tryz.prog (AGd (Hp n)):=Env.Ai ABy ih ((by simp)) (fun _=>AO rfl rfl)
  let self:=Hp n
  exact AN hE Tryz.func131 (by kernel_rfl) (by kernel_rfl) rfl (AYy self) (AA Adl ⟨(Ab6 self hE),trivial⟩)
theorem AU9:AU Tryz.prog 131 (AH 4 ZK ZJ ZI AVA):=by
 have e:AVA=Hp 100:=funext AS4
 rw[e]
 exact APn _
def ASW:Env:=AI9.ext 131 false true (AH 4 ZK ZJ ZI AVA)
theorem AEt:Af Tryz.prog ASW:=Env.Ai ABy AU9 ((by simp)) (fun _=>AO rfl rfl)
abbrev Abg:Hints:={  }
theorem AUX:∀ v,Wz v=AT Tryz.prog ASW Abg Tryz.f95 AFi AFh AFg v:=by
 rintro⟨a0,⟨⟩⟩
 kernel_rfl
theorem Abf:AD (AW Tryz.f95) 0=[]:=by kernel_rfl
theorem AOY:AU Tryz.prog 95 (AH 1 AFi AFh AFg AJw):=AN AEt Tryz.func95 (by kernel_rfl) (by kernel_rfl) rfl (fun v=>(AJv v).trans (AUX v)) (AA Abf trivial)
def XT:Env:=ASW.ext 95 false true (AH 1 AFi AFh AFg AJw)
theorem PJ:Af Tryz.prog XT:=Env.Ai AEt AOY ((by simp)) (fun _=>AO rfl rfl)
abbrev L5:Hints:={ loop:=fun n=>match n with|0=>Ae 0 36 QH QG Cz|_=>fun _ _ _=>none,fp:=fun n=>match n with|6=>[[],[],[2],[2],[],[],[2],[2],[]]|1=>[[0],[0],[0],[],[],[2],[]]|_=>[] }
theorem WV:∀ v,Cz v=roundOf Tryz.prog XT L5 1 0 36 (AB Tryz.f91 0) QH QG v:=by
 rintro⟨a0,a1,a2,a3,a4,a5,⟨⟩⟩
 kernel_rfl
theorem AHA:AD (AB Tryz.f91 0) 1=[]:=by kernel_rfl
theorem AHB:Ac Tryz.prog 0 (.loop (AB Tryz.f91 0)) (L5.loop 0):=AY PJ (WV) (AA AHA trivial)
theorem ACs:∀ v,Ik v=AT Tryz.prog XT L5 Tryz.f91 L4 L3 L0 v:=by
 rintro⟨a0,a1,a2,⟨⟩⟩
 kernel_rfl
theorem AL3:AD (AW Tryz.f91) 0=[(0,AB Tryz.f91 0)]:=by kernel_rfl
theorem Zu:AU Tryz.prog 91 (AH 3 L4 L3 L0 Fp):=AN PJ Tryz.func91 (by kernel_rfl) (by kernel_rfl) rfl (fun v=>(QI v).trans (ACs v)) (AA AL3 ⟨AHB,trivial⟩)
def Df:Env:=XT.ext 91 true true (AH 3 L4 L3 L0 Fp)
theorem Cp:Af Tryz.prog Df:=Env.Ai PJ Zu (fun _=>AQ rfl rfl) (fun _=>AO rfl rfl)
abbrev Dk:Hints:={ loop:=fun n=>match n with|0=>Ae 0 105 YB X7 ES|1=>Ae 0 105 YA X6 ER|2=>Ae 0 105 X9 X5 DP|3=>Ae 0 105 X8 X4 DO|_=>fun _ _ _=>none,fp:=fun n=>match n with|8=>[[],[],[2],[2],[],[],[4],[4],[]]|14=>[[0],[0],[0],[],[],[10],[]]|19=>[[4],[4],[],[],[4],[4],[],[],[],[],[],[4],[4],[2],[2],[],[4],[4],[2],[2],[],[]]|4=>[[0],[0],[0],[],[26],[]]|3=>[[0],[0],[0],[],[10],[]]|_=>[] }
theorem ACE:∀ v,DO v=roundOf Tryz.prog Df Dk 4 0 105 (AB Tryz.f34 3) X8 X4 v:=by
 rintro⟨a0,a1,a2,a3,a4,⟨⟩⟩
 kernel_rfl
theorem AOP:AD (AB Tryz.f34 3) 4=[]:=by kernel_rfl
theorem AOT:Ac Tryz.prog 0 (.loop (AB Tryz.f34 3)) (Dk.loop 3):=AY Cp (ACE) (AA AOP trivial)
theorem ACF:∀ v,DP v=roundOf Tryz.prog Df Dk 3 0 105 (AB Tryz.f34 2) X9 X5 v:=by
 rintro⟨a0,a1,a2,a3,a4,a5,⟨⟩⟩
 kernel_rfl
theorem AOQ:AD (AB Tryz.f34 2) 3=[]:=by kernel_rfl
theorem AOU:Ac Tryz.prog 0 (.loop (AB Tryz.f34 2)) (Dk.loop 2):=AY Cp (ACF) (AA AOQ trivial)
theorem ACG:∀ v,ER v=roundOf Tryz.prog Df Dk 2 0 105 (AB Tryz.f34 1) YA X6 v:=by
 rintro⟨a0,a1,a2,a3,⟨⟩⟩
 kernel_rfl
theorem AOR:AD (AB Tryz.f34 1) 2=[(2,AB Tryz.f34 2),(3,AB Tryz.f34 3)]:=by kernel_rfl
theorem AOV:Ac Tryz.prog 0 (.loop (AB Tryz.f34 1)) (Dk.loop 1):=AY Cp (ACG) (AA AOR ⟨AOU,AOT,trivial⟩)
theorem ACH:∀ v,ES v=roundOf Tryz.prog Df Dk 1 0 105 (AB Tryz.f34 0) YB X7 v:=by
 rintro⟨a0,a1,a2,a3,a4,⟨⟩⟩
 kernel_rfl
theorem AOS:AD (AB Tryz.f34 0) 1=[]:=by kernel_rfl
theorem AOW:Ac Tryz.prog 0 (.loop (AB Tryz.f34 0)) (Dk.loop 0):=AY Cp (ACH) (AA AOS trivial)
theorem AJq:∀ v,JO v=AT Tryz.prog Df Dk Tryz.f34 Rv Ru Rs v:=by
 rintro⟨a0,⟨⟩⟩
 kernel_rfl
theorem AUT:AD (AW Tryz.f34) 0=[(0,AB Tryz.f34 0),(1,AB Tryz.f34 1)]:=by kernel_rfl
theorem AFc:AU Tryz.prog 34 (AH 1 Rv Ru Rs J7):=AN Cp Tryz.func34 (by kernel_rfl) (by kernel_rfl) rfl (fun v=>(ON v).trans (AJq v)) (AA AUT ⟨AOW,AOV,trivial⟩)
def No:Env:=Df.ext 34 true true (AH 1 Rv Ru Rs J7)
theorem Ks:Af Tryz.prog No:=Env.Ai Cp AFc (fun _=>AQ rfl rfl) (fun _=>AO rfl rfl)
abbrev ASN:Hints:={ loop:=fun n=>match n with|0=>Ae 0 49 ATq ATp Kk|_=>fun _ _ _=>none,fp:=fun n=>match n with|5=>[[],[],[],[],[],[0],[],[]]|8=>[[],[],[],[],[],[],[],[],[],[],[0],[],[],[],[],[]]|_=>[] }
theorem ASJ:∀ v,Kk v=roundOf Tryz.prog No ASN 1 0 49 (AB Tryz.f132 0) ATq ATp v:=by
 rintro⟨a0,a1,a2,a3,a4,a5,a6,a7,⟨⟩⟩
 kernel_rfl
theorem AdD:AD (AB Tryz.f132 0) 1=[]:=by kernel_rfl
theorem AdE:Ac Tryz.prog 0 (.loop (AB Tryz.f132 0)) (ASN.loop 0):=AY Ks (ASJ) (AA AdD trivial)
theorem AbA:∀ v,AIl v=AT Tryz.prog No ASN Tryz.f132 ASM ASL ASK v:=by
 rintro⟨a0,a1,⟨⟩⟩
 kernel_rfl
theorem AeI:AD (AW Tryz.f132) 0=[(0,AB Tryz.f132 0)]:=by kernel_rfl
theorem AXL:AU Tryz.prog 132 (AH 3 ASM ASL ASK AXM):=AN Ks Tryz.func132 (by kernel_rfl) (by kernel_rfl) rfl (fun v=>(ATr v).trans (AbA v)) (AA AeI ⟨AdE,trivial⟩)
def ASc:Env:=No.FH 132 2 98 (AH 3 ASM ASL ASK AXM)
theorem AEy:Af Tryz.prog ASc:=Env.Bc Ks AXL (AO rfl rfl)
abbrev AZx:Hints:={  }
theorem AQn:∀ v,QK v=AT Tryz.prog ASc AZx Tryz.f99 AAD AAC AAB v:=by
 rintro⟨a0,a1,a2,⟨⟩⟩
 kernel_rfl
theorem AZw:AD (AW Tryz.f99) 0=[]:=by kernel_rfl
theorem AME:AU Tryz.prog 99 (AH 3 AAD AAC AAB AHM):=AN AEy Tryz.func99 (by kernel_rfl) (by kernel_rfl) rfl (fun v=>(AEE v).trans (AQn v)) (AA AZw trivial)
def AB0:Env:=ASc.ext 99 true true (AH 3 AAD AAC AAB AHM)
theorem WA:Af Tryz.prog AB0:=Env.Ai AEy AME (fun _=>AQ rfl rfl) (fun _=>AO rfl rfl)
abbrev AcQ:Hints:={  }
theorem AV1:∀ v,XH v=AT Tryz.prog AB0 AcQ Tryz.f51 AHT AHS AHR v:=by
 rintro⟨a0,a1,a2,⟨⟩⟩
 kernel_rfl
theorem AcP:AD (AW Tryz.f51) 0=[]:=by kernel_rfl
theorem AQs:AU Tryz.prog 51 (AH 3 AHT AHS AHR AMJ):=AN WA Tryz.func51 (by kernel_rfl) (by kernel_rfl) rfl (fun v=>(AMI v).trans (AV1 v)) (AA AcP trivial)
def AT2:Env:=AB0.ext 51 true true (AH 3 AHT AHS AHR AMJ)
theorem ASb:Af Tryz.prog AT2:=Env.Ai WA AQs (fun _=>AQ rfl rfl) (fun _=>AO rfl rfl)
theorem Aa2 : (Tryz.f144.name == "runtime.NumGoroutine") = false := by kernel_rfl
theorem AIS:ACA Tryz.prog Tryz.f144 55 3 (.int .i64) where
 body:=by kernel_rfl
 nt:=by kernel_rfl
 res:=by kernel_rfl
 d:=⟨by kernel_rfl,by kernel_rfl,by kernel_rfl,by kernel_rfl,by kernel_rfl,by kernel_rfl,by kernel_rfl,by kernel_rfl⟩
 g:=⟨by kernel_rfl,by kernel_rfl,by kernel_rfl,by kernel_rfl,by kernel_rfl,by kernel_rfl,by kernel_rfl,by kernel_rfl⟩
 o00:=by kernel_rfl
 o10:=by kernel_rfl
 o11:=by kernel_rfl
 o20:=by kernel_rfl
 o30:=by kernel_rfl
 o31:=by kernel_rfl
 o32:=by kernel_rfl
 o33:=by kernel_rfl
 sl:=by kernel_rfl
 z:=by kernel_rfl
 by1:=by kernel_rfl
def AB6:Env:=AT2.ext 144 true true (HR 3 (.int .i64))
theorem WE:Af Tryz.prog AB6:=Env.Ai ASb (Aa1 AIS Tryz.func144 Aa2) (fun _=>LL _ _) (fun _=>(LL _ _).Aec)
theorem AQZ:Tryz.f145.body.isSome=true:=by kernel_rfl
theorem AQY : (Tryz.f145.name == "runtime.NumGoroutine") = false := by kernel_rfl
theorem AQX:loops (AW Tryz.f145)=0:=by kernel_rfl
def HJ:Env:=AB6.ext 145 false false (C7 Tryz.prog AB6 {} Tryz.f145)
theorem G0:Af Tryz.prog HJ:=Env.Ai WE (Cs WE Tryz.func145 AQZ AQY AQX) (by simp) (by simp)
end
end Go.Pev
end
section
namespace Go.Pev
open Go.Proofs
noncomputable section
abbrev H9:Hints:={ loop:=fun n=>match n with|0=>Ae 2 19 LF LD Bl|_=>fun _ _ _=>none }
theorem Oy:∀ v,Bl v=roundOf Tryz.prog HJ H9 1 2 19 (AB Tryz.f174 0) LF LD v:=by
 rintro⟨a0,a1,a2,a3,a4,⟨⟩⟩
 kernel_rfl
theorem WZ:AD (AB Tryz.f174 0) 1=[]:=by kernel_rfl
theorem Wa:Ac Tryz.prog 2 (.loop (AB Tryz.f174 0)) (H9.loop 0):=AY G0 (Oy) (AA WZ trivial)
theorem S7:∀ v,FG v=AT Tryz.prog HJ H9 Tryz.f174 H8 H7 H6 v:=by
 rintro⟨a0,a1,a2,⟨⟩⟩
 kernel_rfl
theorem AAa:AD (AW Tryz.f174) 0=[(0,AB Tryz.f174 0)]:=by kernel_rfl
theorem Qe:AU Tryz.prog 174 (AH 2 H8 H7 H6 G9):=AN G0 Tryz.func174 (by kernel_rfl) (by kernel_rfl) rfl (fun v=>(LG v).trans (S7 v)) (AA AAa ⟨Wa,trivial⟩)
def FU:Env:=HJ.FH 174 1 145 (AH 2 H8 H7 H6 G9)
theorem FT:Af Tryz.prog FU:=Env.Bc G0 Qe (AO rfl rfl)
abbrev IJ:Hints:={ loop:=fun n=>match n with|0=>Ae 2 42 LJ LI CO|_=>fun _ _ _=>none }
theorem PA:∀ v,CO v=roundOf Tryz.prog FU IJ 1 2 42 (AB Tryz.f143 0) LJ LI v:=by
 rintro⟨a0,a1,a2,a3,a4,⟨⟩⟩
 kernel_rfl
theorem We:AD (AB Tryz.f143 0) 1=[]:=by kernel_rfl
theorem Wf:Ac Tryz.prog 2 (.loop (AB Tryz.f143 0)) (IJ.loop 0):=AY FT (PA) (AA We trivial)
theorem TN:∀ v,FK v=AT Tryz.prog FU IJ Tryz.f143 II IH IG v:=by
 rintro⟨a0,a1,a2,⟨⟩⟩
 kernel_rfl
theorem AA0:AD (AW Tryz.f143) 0=[(0,AB Tryz.f143 0)]:=by kernel_rfl
theorem Qq:AU Tryz.prog 143 (AH 2 II IH IG FL):=AN FT Tryz.func143 (by kernel_rfl) (by kernel_rfl) rfl (fun v=>(LK v).trans (TN v)) (AA AA0 ⟨Wf,trivial⟩)
def IW:Env:=FU.FH 143 1 145 (JN (AH 2 II IH IG FL))
theorem I8:Af Tryz.prog IW:=Env.Bc FT (T7 Qq) (ASj rfl rfl)
abbrev ARX:Hints:={ fp:=fun n=>match n with|4=>[[0],[0],[0],[],[],[],[],[],[],[1000005,21,1],[]]|_=>[] }
theorem AH8:∀ v,Ka v=AT Tryz.prog IW ARX Tryz.f112 O4 O3 O2 v:=by
 rintro⟨a0,a1,⟨⟩⟩
 kernel_rfl
theorem ARW:AD (AW Tryz.f112) 0=[]:=by kernel_rfl
theorem AC0:AU Tryz.prog 112 (AH 2 O4 O3 O2 IA):=AN I8 Tryz.func112 (by kernel_rfl) (by kernel_rfl) rfl (fun v=>(VR v).trans (AH8 v)) (AA ARW trivial)
def PR:Env:=IW.ext 112 true true (AH 2 O4 O3 O2 IA)
theorem OC:Af Tryz.prog PR:=Env.Ai I8 AC0 (fun _=>AQ rfl rfl) (fun _=>AO rfl rfl)
abbrev Acq:Hints:={  }
theorem AWZ:∀ v,XM v=AT Tryz.prog PR Acq Tryz.f140 AHy AHx AHw v:=by
 rintro⟨a0,⟨⟩⟩
 kernel_rfl
theorem Acp:AD (AW Tryz.f140) 0=[]:=by kernel_rfl
theorem ARM:AU Tryz.prog 140 (AH 2 AHy AHx AHw AMp):=AN OC Tryz.func140 (by kernel_rfl) (by kernel_rfl) rfl (fun v=>(AMo v).trans (AWZ v)) (AA Acp trivial)
def RU:Env:=PR.ext 140 false true (AH 2 AHy AHx AHw AMp)
theorem Kz:Af Tryz.prog RU:=Env.Ai OC ARM ((by simp)) (fun _=>AO rfl rfl)
abbrev Jr:Hints:={ loop:=fun n=>match n with|0=>Ae 0 36 ABA AA8 Ec|1=>Ae 0 36 AA9 AA7 Eb|_=>fun _ _ _=>none }
theorem AC7:∀ v,Eb v=roundOf Tryz.prog RU Jr 2 0 36 (AB Tryz.f108 1) AA9 AA7 v:=by
 rintro⟨a0,a1,a2,a3,⟨⟩⟩
 kernel_rfl
theorem ARt:AD (AB Tryz.f108 1) 2=[]:=by kernel_rfl
theorem ARv:Ac Tryz.prog 0 (.loop (AB Tryz.f108 1)) (Jr.loop 1):=AY Kz (AC7) (AA ARt trivial)
theorem AC8:∀ v,Ec v=roundOf Tryz.prog RU Jr 1 0 36 (AB Tryz.f108 0) ABA AA8 v:=by
 rintro⟨a0,a1,a2,a3,a4,⟨⟩⟩
 kernel_rfl
theorem ARu:AD (AB Tryz.f108 0) 1=[]:=by kernel_rfl
theorem ARw:Ac Tryz.prog 0 (.loop (AB Tryz.f108 0)) (Jr.loop 0):=AY Kz (AC8) (AA ARu trivial)
theorem ANM:∀ v,Na v=AT Tryz.prog RU Jr Tryz.f108 TT TS TR v:=by
 rintro⟨a0,⟨⟩⟩
 kernel_rfl
theorem AW1:AD (AW Tryz.f108) 0=[(0,AB Tryz.f108 0),(1,AB Tryz.f108 1)]:=by kernel_rfl
theorem AIM:AU Tryz.prog 108 (AH 1 TT TS TR Nb):=AN Kz Tryz.func108 (by kernel_rfl) (by kernel_rfl) rfl (fun v=>(ABB v).trans (ANM v)) (AA AW1 ⟨ARw,ARv,trivial⟩)
def Tz:Env:=RU.ext 108 true true (AH 1 TT TS TR Nb)
theorem RY:Af Tryz.prog Tz:=Env.Ai Kz AIM (fun _=>AQ rfl rfl) (fun _=>AO rfl rfl)
theorem Acw:Tryz.f116.body.isSome=true:=by kernel_rfl
theorem Acv : (Tryz.f116.name == "runtime.NumGoroutine") = false := by kernel_rfl
theorem Acu:loops (AW Tryz.f116)=0:=by kernel_rfl
def Nq:Env:=Tz.ext 116 false false (C7 Tryz.prog Tz {} Tryz.f116)
theorem K4:Af Tryz.prog Nq:=Env.Ai RY (Cs RY Tryz.func116 Acw Acv Acu) (by simp) (by simp)
abbrev KV:Hints:={ loop:=fun n=>match n with|0=>Ae 3 19 N3 N2 CF|_=>fun _ _ _=>none }
theorem S8:∀ v,CF v=roundOf Tryz.prog Nq KV 1 3 19 (AB Tryz.f147 0) N3 N2 v:=by
 rintro⟨a0,a1,a2,a3,⟨⟩⟩
 kernel_rfl
theorem ACx:AD (AB Tryz.f147 0) 1=[]:=by kernel_rfl
theorem ACy:Ac Tryz.prog 3 (.loop (AB Tryz.f147 0)) (KV.loop 0):=AY K4 (S8) (AA ACx trivial)
theorem AAb:∀ v,HA v=AT Tryz.prog Nq KV Tryz.f147 KU KT KS v:=by
 rintro⟨a0,a1,⟨⟩⟩
 kernel_rfl
theorem AHl:AD (AW Tryz.f147) 0=[(0,AB Tryz.f147 0)]:=by kernel_rfl
theorem Wb:AU Tryz.prog 147 (AH 2 KU KT KS KW):=AN K4 Tryz.func147 (by kernel_rfl) (by kernel_rfl) rfl (fun v=>(N4 v).trans (AAb v)) (AA AHl ⟨ACy,trivial⟩)
def HK:Env:=Nq.FH 147 1 116 (AH 2 KU KT KS KW)
theorem G1:Af Tryz.prog HK:=Env.Bc K4 Wb (AO rfl rfl)
abbrev Ki:Hints:={ loop:=fun n=>match n with|0=>Ae 3 42 N8 N7 DE|_=>fun _ _ _=>none }
theorem TO:∀ v,DE v=roundOf Tryz.prog HK Ki 1 3 42 (AB Tryz.f115 0) N8 N7 v:=by
 rintro⟨a0,a1,a2,a3,⟨⟩⟩
 kernel_rfl
theorem AC3:AD (AB Tryz.f115 0) 1=[]:=by kernel_rfl
theorem AC4:Ac Tryz.prog 3 (.loop (AB Tryz.f115 0)) (Ki.loop 0):=AY G1 (TO) (AA AC3 trivial)
theorem AA1:∀ v,HC v=AT Tryz.prog HK Ki Tryz.f115 Kh Kg Kf v:=by
 rintro⟨a0,a1,⟨⟩⟩
 kernel_rfl
theorem AIJ:AD (AW Tryz.f115) 0=[(0,AB Tryz.f115 0)]:=by kernel_rfl
theorem Wg:AU Tryz.prog 115 (AH 2 Kh Kg Kf IK):=AN G1 Tryz.func115 (by kernel_rfl) (by kernel_rfl) rfl (fun v=>(N9 v).trans (AA1 v)) (AA AIJ ⟨AC4,trivial⟩)
def HL:Env:=HK.FH 115 1 116 (JN (AH 2 Kh Kg Kf IK))
theorem G2:Af Tryz.prog HL:=Env.Bc G1 (T7 Wg) (ASj rfl rfl)
abbrev AGT:Hints:={ loop:=fun n=>match n with|0=>Ae 0 51 AKh AKg D8|_=>fun _ _ _=>none,fp:=fun n=>match n with|10=>[[2],[6],[4],[],[5],[],[5]]|_=>[] }
theorem AKf:∀ v,D8 v=roundOf Tryz.prog HL AGT 1 0 51 (AB Tryz.f64 0) AKh AKg v:=by
 rintro⟨a0,a1,a2,a3,a4,a5,⟨⟩⟩
 kernel_rfl
theorem AYp:AD (AB Tryz.f64 0) 1=[]:=by kernel_rfl
theorem AYq:Ac Tryz.prog 0 (.loop (AB Tryz.f64 0)) (AGT.loop 0):=AY G2 (AKf) (AA AYp trivial)
theorem AU5:∀ v,Pz v=AT Tryz.prog HL AGT Tryz.f64 AGS AGR AGQ v:=by
 rintro⟨a0,a1,⟨⟩⟩
 kernel_rfl
theorem Abz:AD (AW Tryz.f64) 0=[(0,AB Tryz.f64 0)]:=by kernel_rfl
theorem APb:AU Tryz.prog 64 (AH 2 AGS AGR AGQ UI):=AN G2 Tryz.func64 (by kernel_rfl) (by kernel_rfl) rfl (fun v=>(Y7 v).trans (AU5 v)) (AA Abz ⟨AYq,trivial⟩)
def AI7:Env:=HL.ext 64 true true (AH 2 AGS AGR AGQ UI)
theorem ABu:Af Tryz.prog AI7:=Env.Ai G2 APb (fun _=>AQ rfl rfl) (fun _=>AO rfl rfl)
abbrev AYs:Hints:={  }
theorem APe:∀ v,Lm v=AT Tryz.prog AI7 AYs Tryz.f107 ZB ZA Y9 v:=by
 rintro⟨a0,a1,a2,⟨⟩⟩
 kernel_rfl
theorem AYr:AD (AW Tryz.f107) 0=[]:=by kernel_rfl
theorem AKi:AU Tryz.prog 107 (AH 3 ZB ZA Y9 OT):=AN ABu Tryz.func107 (by kernel_rfl) (by kernel_rfl) rfl (fun v=>(SD v).trans (APe v)) (AA AYr trivial)
def ABv:Env:=AI7.ext 107 true true (AH 3 ZB ZA Y9 OT)
theorem Vy:Af Tryz.prog ABv:=Env.Ai ABu AKi (fun _=>AQ rfl rfl) (fun _=>AO rfl rfl)
abbrev Abw:Hints:={ fp:=fun n=>match n with|9=>[[],[20],[],[28],[],[],[20],[20],[],[28],[28],[],[],[60],[],[]]|_=>[] }
theorem AUx:∀ v,Pq v=AT Tryz.prog ABv Abw Tryz.f62 AGH AGG AGF v:=by
 rintro⟨a0,a1,a2,a3,⟨⟩⟩
 kernel_rfl
theorem Abv:AD (AW Tryz.f62) 0=[]:=by kernel_rfl
theorem APG:AU Tryz.prog 62 (AH 4 AGH AGG AGF UD):=AN Vy Tryz.func62 (by kernel_rfl) (by kernel_rfl) rfl (fun v=>(Yq v).trans (AUx v)) (AA Abv trivial)
def AI5:Env:=ABv.ext 62 true true (AH 4 AGH AGG AGF UD)
theorem ABs:Af Tryz.prog AI5:=Env.Ai Vy APG (fun _=>AQ rfl rfl) (fun _=>AO rfl rfl)
theorem AYh:Tryz.f142.body.isSome=true:=by kernel_rfl
theorem AYg : (Tryz.f142.name == "runtime.NumGoroutine") = false := by kernel_rfl
theorem AYf:loops (AW Tryz.f142)=0:=by kernel_rfl
end
end Go.Pev
end
section
namespace Go.Pev
open Go.Proofs
noncomputable section
theorem Adu:Tryz.f141.body.isSome=true:=by kernel_rfl
theorem Adt : (Tryz.f141.name == "runtime.NumGoroutine") = false := by kernel_rfl
theorem Ads:loops (AW Tryz.f141)=0:=by kernel_rfl
def PM:Env:=AI5.ext 142 false false (C7 Tryz.prog AI5 { fp:=fun n=>match n with|0=>[[],[],[0],[0],[0],[],[2],[2],[2],[],[],[2],[2],[3]]|_=>[] } Tryz.f142)
theorem OB:Af Tryz.prog PM:=Env.Ai ABs (Cs ABs Tryz.func142 AYh AYg AYf) (by simp) (by simp)
def Jw:Env:=PM.ext 141 false false (C7 Tryz.prog PM {} Tryz.f141)
theorem Gl:Af Tryz.prog Jw:=Env.Ai OB (Cs OB Tryz.func141 Adu Adt Ads) (by simp) (by simp)
abbrev ZL:Hints:={ loop:=fun n=>match n with|0=>Ae 2 127 AY9 AY5 Ls|1=>Ae 2 127 AY8 AY4 Lr|2=>Ae 2 127 AY7 AY3 Lq|_=>fun _ _ _=>none,fp:=fun n=>match n with|29=>[[],[],[],[2],[2],[2],[],[2],[2],[2],[],[0],[0],[0],[1],[0],[0],[0],[1]]|_=>[] }
theorem AVB:∀ v,Lq v=roundOf Tryz.prog Jw ZL 3 2 127 (AB Tryz.f109 2) AY7 AY3 v:=by
 rintro⟨a0,a1,a2,a3,a4,a5,a6,a7,a8,a9,a10,a11,⟨⟩⟩
 kernel_rfl
theorem Adm:AD (AB Tryz.f109 2) 3=[]:=by kernel_rfl
theorem Adp:Ac Tryz.prog 2 (.loop (AB Tryz.f109 2)) (ZL.loop 2):=AY Gl (AVB) (AA Adm trivial)
theorem AVC:∀ v,Lr v=roundOf Tryz.prog Jw ZL 2 2 127 (AB Tryz.f109 1) AY8 AY4 v:=by
 rintro⟨a0,a1,a2,a3,a4,a5,a6,a7,a8,a9,a10,a11,a12,⟨⟩⟩
 kernel_rfl
theorem Adn:AD (AB Tryz.f109 1) 2=[]:=by kernel_rfl
theorem Adq:Ac Tryz.prog 2 (.loop (AB Tryz.f109 1)) (ZL.loop 1):=AY Gl (AVC) (AA Adn trivial)
theorem AVD:∀ v,Ls v=roundOf Tryz.prog Jw ZL 1 2 127 (AB Tryz.f109 0) AY9 AY5 v:=by
 rintro⟨a0,a1,a2,a3,a4,a5,a6,a7,a8,a9,a10,a11,a12,⟨⟩⟩
 kernel_rfl
theorem Ado:AD (AB Tryz.f109 0) 1=[]:=by kernel_rfl
theorem Adr:Ac Tryz.prog 2 (.loop (AB Tryz.f109 0)) (ZL.loop 0):=AY Gl (AVD) (AA Ado trivial)
theorem AcA:∀ v,AS5 v=AT Tryz.prog Jw ZL Tryz.f109 AZA AY6 AY2 v:=by
 rintro⟨a0,a1,a2,a3,a4,a5,a6,a7,a8,a9,a10,⟨⟩⟩
 kernel_rfl
theorem AeS:AD (AW Tryz.f109) 0=[(0,AB Tryz.f109 0),(1,AB Tryz.f109 1),(2,AB Tryz.f109 2)]:=by kernel_rfl
theorem AY1:AU Tryz.prog 109 (AH 4 AZA AY6 AY2 pat):=AN Gl Tryz.func109 (by kernel_rfl) (by kernel_rfl) rfl (fun v=>(AZB v).trans (AcA v)) (AA AeS ⟨Adr,Adq,Adp,trivial⟩)
def AT1:Env:=Jw.ext 109 false true (AH 4 AZA AY6 AY2 pat)
theorem ABw:Af Tryz.prog AT1:=Env.Ai Gl AY1 ((by simp)) (fun _=>AO rfl rfl)
abbrev APM:Hints:={ loop:=fun n=>match n with|0=>Ae 0 81 ASy ASx EJ|_=>fun _ _ _=>none,fp:=fun n=>match n with|9=>[[],[4],[4],[4],[],[4],[4],[4],[1],[3],[]]|5=>[[0],[0],[0],[0],[],[],[0],[0],[],[],[],[],[16],[],[14],[14],[],[0],[0],[],[],[18],[]]|_=>[] }
theorem API:∀ v,EJ v=roundOf Tryz.prog AT1 APM 1 0 81 (AB Tryz.f60 0) ASy ASx v:=by
 rintro⟨a0,a1,a2,a3,a4,a5,a6,a7,a8,a9,a10,a11,a12,a13,a14,a15,a16,a17,a18,⟨⟩⟩
 kernel_rfl
theorem Abx:AD (AB Tryz.f60 0) 1=[]:=by kernel_rfl
theorem Aby:Ac Tryz.prog 0 (.loop (AB Tryz.f60 0)) (APM.loop 0):=AY ABw (API) (AA Abx trivial)
theorem AYj:∀ v,Yt v=AT Tryz.prog AT1 APM Tryz.f60 APL APK APJ v:=by
 rintro⟨a0,a1,a2,⟨⟩⟩
 kernel_rfl
theorem Adi:AD (AW Tryz.f60) 0=[(0,AB Tryz.f60 0)]:=by kernel_rfl
theorem AUy:AU Tryz.prog 60 (AH 3 APL APK APJ WU):=AN ABw Tryz.func60 (by kernel_rfl) (by kernel_rfl) rfl (fun v=>(AGL v).trans (AYj v)) (AA Adi ⟨Aby,trivial⟩)
def AI6:Env:=AT1.ext 60 true true (AH 3 APL APK APJ WU)
theorem Tl:Af Tryz.prog AI6:=Env.Ai ABw AUy (fun _=>AQ rfl rfl) (fun _=>AO rfl rfl)
abbrev AGY:Hints:={ loop:=fun n=>match n with|0=>Ae 0 55 AKm AKl D9|_=>fun _ _ _=>none,fp:=fun n=>match n with|12=>[[20],[],[22],[],[5,24],[7],[]]|_=>[] }
theorem AKk:∀ v,D9 v=roundOf Tryz.prog AI6 AGY 1 0 55 (AB Tryz.f66 0) AKm AKl v:=by
 rintro⟨a0,a1,a2,a3,a4,a5,a6,a7,a8,⟨⟩⟩
 kernel_rfl
theorem AYu:AD (AB Tryz.f66 0) 1=[]:=by kernel_rfl
theorem AYw:Ac Tryz.prog 0 (.loop (AB Tryz.f66 0)) (AGY.loop 0):=AY Tl (AKk) (AA AYu trivial)
theorem AU7:∀ v,W9 v=AT Tryz.prog AI6 AGY Tryz.f66 AGX AGW AGV v:=by
 rintro⟨a0,a1,⟨⟩⟩
 kernel_rfl
theorem Ab0:AD (AW Tryz.f66) 0=[(0,AB Tryz.f66 0)]:=by kernel_rfl
theorem APg:AU Tryz.prog 66 (AH 2 AGX AGW AGV ZD):=AN Tl Tryz.func66 (by kernel_rfl) (by kernel_rfl) rfl (fun v=>(AKn v).trans (AU7 v)) (AA Ab0 ⟨AYw,trivial⟩)
def XU:Env:=AI6.ext 66 true true (AH 2 AGX AGW AGV ZD)
theorem PN:Af Tryz.prog XU:=Env.Ai Tl APg (fun _=>AQ rfl rfl) (fun _=>AO rfl rfl)
abbrev YK:Hints:={ loop:=fun n=>match n with|0=>Ae 0 26 ADi ADh Fe|_=>fun _ _ _=>none,fp:=fun n=>match n with|6=>[[],[],[],[],[],[],[],[],[]]|_=>[] }
theorem AFy:∀ v,Fe v=roundOf Tryz.prog XU YK 1 0 26 (AB Tryz.f67 0) ADi ADh v:=by
 rintro⟨a0,a1,a2,⟨⟩⟩
 kernel_rfl
theorem AUc:AD (AB Tryz.f67 0) 1=[]:=by kernel_rfl
theorem AUd:Ac Tryz.prog 0 (.loop (AB Tryz.f67 0)) (YK.loop 0):=AY PN (AFy) (AA AUc trivial)
theorem AOf:∀ v,Pf v=AT Tryz.prog XU YK Tryz.f67 YJ YI YH v:=by
 rintro⟨a0,a1,⟨⟩⟩
 kernel_rfl
theorem AYI:AD (AW Tryz.f67) 0=[(0,AB Tryz.f67 0)]:=by kernel_rfl
theorem AKD:AU Tryz.prog 67 (AH 2 YJ YI YH YL):=AN PN Tryz.func67 (by kernel_rfl) (by kernel_rfl) rfl (fun v=>(ADj v).trans (AOf v)) (AA AYI ⟨AUd,trivial⟩)
def ABm:Env:=XU.ext 67 true true (AH 2 YJ YI YH YL)
theorem Vs:Af Tryz.prog ABm:=Env.Ai PN AKD (fun _=>AQ rfl rfl) (fun _=>AO rfl rfl)
abbrev AXR:Hints:={  }
theorem ANl:∀ v,Th v=AT Tryz.prog ABm AXR Tryz.f58 Tg Tf Te v:=by
 rintro⟨⟨⟩⟩
 kernel_rfl
theorem AXQ:AD (AW Tryz.f58) 0=[]:=by kernel_rfl
theorem AIv:AU Tryz.prog 58 (AH 0 Tg Tf Te I2):=AN Vs Tryz.func58 (by kernel_rfl) (by kernel_rfl) rfl (fun v=>(ASQ v).trans (ANl v)) (AA AXQ trivial)
def T3:Env:=ABm.ext 58 true true (AH 0 Tg Tf Te I2)
theorem Rb:Af Tryz.prog T3:=Env.Ai Vs AIv (fun _=>AQ rfl rfl) (fun _=>AO rfl rfl)
abbrev AWd:Hints:={  }
theorem AMt:∀ v,NV v=AT Tryz.prog T3 AWd Tryz.f59 TC TB TA v:=by
 rintro⟨a0,a1,⟨⟩⟩
 kernel_rfl
theorem AWc:AD (AW Tryz.f59) 0=[]:=by kernel_rfl
theorem AH2:AU Tryz.prog 59 (AH 2 TC TB TA NW):=AN Rb Tryz.func59 (by kernel_rfl) (by kernel_rfl) rfl (fun v=>(AAc v).trans (AMt v)) (AA AWc trivial)
def Tv:Env:=T3.ext 59 true true (AH 2 TC TB TA NW)
theorem RW:Af Tryz.prog Tv:=Env.Ai Rb AH2 (fun _=>AQ rfl rfl) (fun _=>AO rfl rfl)
abbrev Li:Hints:={ loop:=fun n=>match n with|0=>Ae 0 104 Ps Pr CR|_=>fun _ _ _=>none,fp:=fun n=>match n with|17=>[[18],[],[20],[],[9,22],[7],[]]|14=>[[6],[],[],[0],[0],[0],[],[],[0],[0],[0],[],[],[],[],[],[],[],[19],[21],[]]|_=>[] }
theorem WS:∀ v,CR v=roundOf Tryz.prog Tv Li 1 0 104 (AB Tryz.f14 0) Ps Pr v:=by
 rintro⟨a0,a1,a2,a3,a4,a5,a6,a7,a8,⟨⟩⟩
 kernel_rfl
theorem AGI:AD (AB Tryz.f14 0) 1=[]:=by kernel_rfl
theorem AGJ:Ac Tryz.prog 0 (.loop (AB Tryz.f14 0)) (Li.loop 0):=AY RW (WS) (AA AGI trivial)
theorem ACT:∀ v,Ie v=AT Tryz.prog Tv Li Tryz.f14 Lh Lg Lf v:=by
 rintro⟨a0,a1,⟨⟩⟩
 kernel_rfl
theorem AKU:AD (AW Tryz.f14) 0=[(0,AB Tryz.f14 0)]:=by kernel_rfl
theorem Ys:AU Tryz.prog 14 (AH 2 Lh Lg Lf HO):=AN RW Tryz.func14 (by kernel_rfl) (by kernel_rfl) rfl (fun v=>(Pt v).trans (ACT v)) (AA AKU ⟨AGJ,trivial⟩)
end
end Go.Pev
end
section

end
