/- A part of the proofs of this seat: G29bP7 G29bP8 G29bP9 G29bP10 G29bP. -/
import Derived.Test.YtfojmhgomdbpfaaGreatDoorPd413f0b2f7
set_option linter.unusedVariables false
set_option linter.unusedSimpArgs false
set_option linter.unusedSectionVars false
set_option maxRecDepth 100000
section
namespace Go.Pev
open Go.Proofs
noncomputable section
abbrev ABb:Hints:={ loop:=fun n=>match n with|0=>Ae 1 67 AEe AEd AEc|_=>fun _ _ _=>none,fp:=fun n=>match n with|10=>[[],[],[],[],[],[],[],[],[],[],[0],[0],[],[],[0],[0],[0],[1],[0],[1]]|_=>[] }
theorem AII:∀ v,AEc v=roundOf Tryz.prog XL ABb 1 1 67 (AB Tryz.f117 0) AEe AEd v:=by
 rintro⟨a0,a1,a2,a3,a4,a5,⟨⟩⟩
 kernel_rfl
theorem AWy:AD (AB Tryz.f117 0) 1=[]:=by kernel_rfl
theorem AWz:Ad Tryz.prog 1 (.loop (AB Tryz.f117 0)) (ABb.loop 0):=AY PS (AII) (AA AWy trivial)
theorem ARj:∀ v,AM1 v=AQ 1 Tryz.prog XL ABb Tryz.f117 ABa ABZ ABY v:=by
 rintro⟨a0,a1,a2,⟨⟩⟩
 kernel_rfl
theorem Aam:AD (AT Tryz.f117) 0=[(0,AB Tryz.f117 0)]:=by kernel_rfl
theorem AM0:AR Tryz.prog 117 (AF 1 4 ABa ABZ ABY ARk):=AI PS Tryz.func117 (by kernel_rfl) (by kernel_rfl) rfl (fun v=>(AW0 v).trans (ARj v)) (AA Aam ⟨AWz,trivial⟩)
def ACC:Env:=XL.CF 117 3 60 (AF 1 4 ABa ABZ ABY ARk)
theorem WL:Ab Tryz.prog ACC:=Env.Ax PS AM0 (AJ rfl rfl)
abbrev AVN:Hints:={ fp:=fun n=>match n with|1=>[[],[],[],[0],[0],[],[],[0],[0],[],[]]|_=>[] }
theorem ALM:∀ v,AD5 v=AQ 2 Tryz.prog ACC AVN Tryz.f155 SK SJ SH v:=by
 rintro⟨a0,a1,a2,a3,⟨⟩⟩
 kernel_rfl
theorem AVM:AD (AT Tryz.f155) 0=[]:=by kernel_rfl
theorem AGt:AR Tryz.prog 155 (AF 2 5 SK SJ SH AGu):=AI WL Tryz.func155 (by kernel_rfl) (by kernel_rfl) rfl (fun v=>(APm v).trans (ALM v)) (AA AVM trivial)
def Tp:Env:=ACC.CF 155 4 60 (AF 2 5 SK SJ SH AGu)
theorem Q9:Ab Tryz.prog Tp:=Env.Ax WL AGt (AJ rfl rfl)
abbrev AVe:Hints:={  }
theorem ALV:∀ v,AD8 v=AQ 2 Tryz.prog Tp AVe Tryz.f139 SY SX SW v:=by
 rintro⟨a0,a1,a2,a3,a4,⟨⟩⟩
 kernel_rfl
theorem AVd:AD (AT Tryz.f139) 0=[]:=by kernel_rfl
theorem AG5:AR Tryz.prog 139 (AF 2 6 SY SX SW AG6):=AI Q9 Tryz.func139 (by kernel_rfl) (by kernel_rfl) rfl (fun v=>(AQA v).trans (ALV v)) (AA AVd trivial)
def Tr:Env:=Tp.CF 139 5 60 (AF 2 6 SY SX SW AG6)
theorem RB:Ab Tryz.prog Tr:=Env.Ax Q9 AG5 (AJ rfl rfl)
abbrev AVi:Hints:={  }
theorem ALX:∀ v,AEA v=AQ 2 Tryz.prog Tr AVi Tryz.f138 Se Sd Sc v:=by
 rintro⟨a0,a1,a2,⟨⟩⟩
 kernel_rfl
theorem AVh:AD (AT Tryz.f138) 0=[]:=by kernel_rfl
theorem AG9:AR Tryz.prog 138 (AF 2 4 Se Sd Sc AHA):=AI RB Tryz.func138 (by kernel_rfl) (by kernel_rfl) rfl (fun v=>(AQD v).trans (ALX v)) (AA AVh trivial)
def Tt:Env:=Tr.CF 138 3 60 (AF 2 4 Se Sd Sc AHA)
theorem RD:Ab Tryz.prog Tt:=Env.Ax RB AG9 (AJ rfl rfl)
abbrev AYf:Hints:={  }
theorem APF:∀ v,AKA v=AQ 1 Tryz.prog Tt AYf Tryz.f118 Y2 Y1 Y0 v:=by
 rintro⟨a0,a1,a2,⟨⟩⟩
 kernel_rfl
theorem AYe:AD (AT Tryz.f118) 0=[]:=by kernel_rfl
theorem AJ9:AR Tryz.prog 118 (AF 1 4 Y2 Y1 Y0 APG):=AI RD Tryz.func118 (by kernel_rfl) (by kernel_rfl) rfl (fun v=>(AU3 v).trans (APF v)) (AA AYe trivial)
def Q7:Env:=Tt.CF 118 3 60 (AF 1 4 Y2 Y1 Y0 APG)
theorem My:Ab Tryz.prog Q7:=Env.Ax RD AJ9 (AJ rfl rfl)
abbrev AOt:Hints:={ loop:=fun n=>match n with|0=>Ae 1 34 ASc ASb ASa|_=>fun _ _ _=>none,fp:=fun n=>match n with|3=>[[],[],[],[],[],[],[0],[0],[],[],[0],[0],[0],[1],[0],[1]]|_=>[] }
theorem AOp:∀ v,ASa v=roundOf Tryz.prog Q7 AOt 1 1 34 (AB Tryz.f119 0) ASc ASb v:=by
 rintro⟨a0,a1,a2,⟨⟩⟩
 kernel_rfl
theorem Abu:AD (AB Tryz.f119 0) 1=[]:=by kernel_rfl
theorem Abv:Ad Tryz.prog 1 (.loop (AB Tryz.f119 0)) (AOt.loop 0):=AY My (AOp) (AA Abu trivial)
theorem AYT:∀ v,AYU v=AQ 1 Tryz.prog Q7 AOt Tryz.f119 AOs AOr AOq v:=by
 rintro⟨a0,a1,a2,⟨⟩⟩
 kernel_rfl
theorem Adj:AD (AT Tryz.f119) 0=[(0,AB Tryz.f119 0)]:=by kernel_rfl
theorem AUt:AR Tryz.prog 119 (AF 1 4 AOs AOr AOq Adk):=AI My Tryz.func119 (by kernel_rfl) (by kernel_rfl) rfl (fun v=>(Abw v).trans (AYT v)) (AA Adj ⟨Abv,trivial⟩)
def PQ:Env:=Q7.CF 119 3 60 (AF 1 4 AOs AOr AOq Adk)
theorem HE:Ab Tryz.prog PQ:=Env.Ax My AUt (AJ rfl rfl)
abbrev Cy:Hints:={ loop:=fun n=>match n with|0=>Ae 1 141 VJ VF VB|1=>Ae 1 141 VI VE VA|2=>Ae 1 141 VH VD UZ|3=>Ae 1 141 VG VC UY|_=>fun _ _ _=>none,fp:=fun n=>match n with|11=>[[],[],[],[],[],[],[],[],[0],[0],[],[],[0],[0],[0],[1],[0],[1]]|5=>[[],[],[],[],[],[],[],[0],[0],[],[],[],[0],[0],[],[],[],[]]|17=>[[],[],[],[],[],[],[],[],[0],[0],[],[],[0],[0],[0],[1],[0],[1]]|16=>[[],[],[],[0],[0],[],[],[],[0],[0],[],[],[]]|23=>[[],[],[],[],[],[],[],[],[0],[0],[],[],[0],[0],[0],[1],[0],[1]]|22=>[[],[],[],[0],[0],[],[],[],[0],[0],[],[],[]]|_=>[] }
theorem ZN:∀ v,UY v=roundOf Tryz.prog PQ Cy 4 1 141 (AB Tryz.f120 3) VG VC v:=by
 rintro⟨a0,a1,a2,a3,a4,a5,⟨⟩⟩
 kernel_rfl
theorem AKk:AD (AB Tryz.f120 3) 4=[]:=by kernel_rfl
theorem AKo:Ad Tryz.prog 1 (.loop (AB Tryz.f120 3)) (Cy.loop 3):=AY HE (ZN) (AA AKk trivial)
theorem ZO:∀ v,UZ v=roundOf Tryz.prog PQ Cy 3 1 141 (AB Tryz.f120 2) VH VD v:=by
 rintro⟨a0,a1,a2,a3,a4,a5,⟨⟩⟩
 kernel_rfl
theorem AKl:AD (AB Tryz.f120 2) 3=[]:=by kernel_rfl
theorem AKp:Ad Tryz.prog 1 (.loop (AB Tryz.f120 2)) (Cy.loop 2):=AY HE (ZO) (AA AKl trivial)
theorem ZP:∀ v,VA v=roundOf Tryz.prog PQ Cy 2 1 141 (AB Tryz.f120 1) VI VE v:=by
 rintro⟨a0,a1,a2,a3,a4,⟨⟩⟩
 kernel_rfl
theorem AKm:AD (AB Tryz.f120 1) 2=[]:=by kernel_rfl
theorem AKq:Ad Tryz.prog 1 (.loop (AB Tryz.f120 1)) (Cy.loop 1):=AY HE (ZP) (AA AKm trivial)
theorem ZQ:∀ v,VB v=roundOf Tryz.prog PQ Cy 1 1 141 (AB Tryz.f120 0) VJ VF v:=by
 rintro⟨a0,a1,a2,a3,a4,⟨⟩⟩
 kernel_rfl
theorem AKn:AD (AB Tryz.f120 0) 1=[(1,AB Tryz.f120 1),(2,AB Tryz.f120 2),(3,AB Tryz.f120 3)]:=by kernel_rfl
theorem AKr:Ad Tryz.prog 1 (.loop (AB Tryz.f120 0)) (Cy.loop 0):=AY HE (ZQ) (AA AKn ⟨AKq,AKp,AKo,trivial⟩)
theorem AGi:∀ v,ZR v=AQ 1 Tryz.prog PQ Cy Tryz.f120 Oe Od Oc v:=by
 rintro⟨a0,a1,a2,⟨⟩⟩
 kernel_rfl
theorem APS:AD (AT Tryz.f120) 0=[(0,AB Tryz.f120 0)]:=by kernel_rfl
theorem ACd:AR Tryz.prog 120 (AF 1 4 Oe Od Oc ZS):=AI HE Tryz.func120 (by kernel_rfl) (by kernel_rfl) rfl (fun v=>(AKs v).trans (AGi v)) (AA APS ⟨AKr,trivial⟩)
def Fj:Env:=PQ.CF 120 3 60 (AF 1 4 Oe Od Oc ZS)
theorem D2:Ab Tryz.prog Fj:=Env.Ax HE ACd (AJ rfl rfl)
abbrev FH:Hints:={ loop:=fun n=>match n with|0=>Ae 1 90 Zl Zi Zf|1=>Ae 1 90 Zk Zh Ze|2=>Ae 1 90 Zj Zg Zd|_=>fun _ _ _=>none,fp:=fun n=>match n with|8=>[[],[],[],[],[],[],[0],[0],[],[],[0],[0],[0],[1],[0],[1]]|3=>[[],[],[],[],[],[],[],[0],[0],[],[],[0],[0],[],[],[],[]]|5=>[[],[],[],[],[],[],[],[0],[0],[],[],[0],[0],[],[],[]]|1=>[[],[],[],[],[],[],[0],[0],[],[],[0],[0],[0],[1],[0],[1]]|_=>[] }
theorem ACj:∀ v,Zd v=roundOf Tryz.prog Fj FH 3 1 90 (AB Tryz.f121 2) Zj Zg v:=by
 rintro⟨a0,a1,a2,a3,⟨⟩⟩
 kernel_rfl
theorem APc:AD (AB Tryz.f121 2) 3=[]:=by kernel_rfl
theorem APf:Ad Tryz.prog 1 (.loop (AB Tryz.f121 2)) (FH.loop 2):=AY D2 (ACj) (AA APc trivial)
theorem ACk:∀ v,Ze v=roundOf Tryz.prog Fj FH 2 1 90 (AB Tryz.f121 1) Zk Zh v:=by
 rintro⟨a0,a1,a2,a3,⟨⟩⟩
 kernel_rfl
theorem APd:AD (AB Tryz.f121 1) 2=[]:=by kernel_rfl
theorem APg:Ad Tryz.prog 1 (.loop (AB Tryz.f121 1)) (FH.loop 1):=AY D2 (ACk) (AA APd trivial)
theorem ACl:∀ v,Zf v=roundOf Tryz.prog Fj FH 1 1 90 (AB Tryz.f121 0) Zl Zi v:=by
 rintro⟨a0,a1,a2,a3,⟨⟩⟩
 kernel_rfl
theorem APe:AD (AB Tryz.f121 0) 1=[(1,AB Tryz.f121 1),(2,AB Tryz.f121 2)]:=by kernel_rfl
theorem APh:Ad Tryz.prog 1 (.loop (AB Tryz.f121 0)) (FH.loop 0):=AY D2 (ACl) (AA APe ⟨APg,APf,trivial⟩)
theorem AKz:∀ v,AD0 v=AQ 1 Tryz.prog Fj FH Tryz.f121 SB SA R9 v:=by
 rintro⟨a0,a1,a2,a3,⟨⟩⟩
 kernel_rfl
theorem AVG:AD (AT Tryz.f121) 0=[(0,AB Tryz.f121 0)]:=by kernel_rfl
theorem AGm:AR Tryz.prog 121 (AF 1 5 SB SA R9 AGn):=AI D2 Tryz.func121 (by kernel_rfl) (by kernel_rfl) rfl (fun v=>(APi v).trans (AKz v)) (AA AVG ⟨APh,trivial⟩)
def EZ:Env:=Fj.CF 121 4 60 (AF 1 5 SB SA R9 AGn)
theorem C9:Ab Tryz.prog EZ:=Env.Ax D2 AGm (AJ rfl rfl)
abbrev Ee:Hints:={ loop:=fun n=>match n with|0=>Ae 1 178 ALJ ALE AK9|1=>Ae 1 178 ALI ALD AK7|2=>Ae 1 178 ALH ALC AK5|3=>Ae 1 178 ALG ALB AK3|4=>Ae 1 178 ALF ALA AK1|_=>fun _ _ _=>none,fp:=fun n=>match n with|3=>[[],[],[],[],[],[],[],[0],[0],[],[],[0],[0],[],[],[]]|5=>[[],[],[],[],[],[],[],[0],[0],[],[],[0],[0],[],[],[],[]]|18=>[[],[],[],[],[],[],[0],[0],[],[],[0],[0],[0],[1],[0],[1]]|13=>[[],[],[],[],[],[],[],[0],[0],[],[],[0],[0],[],[],[]]|15=>[[],[],[],[],[],[],[],[0],[0],[],[],[0],[0],[],[],[],[]]|21=>[[],[],[],[],[],[],[0],[0],[],[],[0],[0],[0],[1],[0],[1]]|10=>[[],[],[],[],[],[],[0],[0],[],[],[0],[0],[0],[1],[0],[1]]|8=>[[],[],[],[],[],[],[0],[0],[],[],[0],[0],[0],[1],[0],[1]]|1=>[[],[],[],[],[],[],[0],[0],[],[],[0],[0],[0],[1],[0],[1]]|_=>[] }
theorem AK0:∀ v,AK1 v=roundOf Tryz.prog EZ Ee 5 1 178 (AB Tryz.f122 4) ALF ALA v:=by
 rintro⟨a0,a1,a2,a3,⟨⟩⟩
 kernel_rfl
theorem AYy:AD (AB Tryz.f122 4) 5=[]:=by kernel_rfl
theorem AY3:Ad Tryz.prog 1 (.loop (AB Tryz.f122 4)) (Ee.loop 4):=AY C9 (AK0) (AA AYy trivial)
theorem AK2:∀ v,AK3 v=roundOf Tryz.prog EZ Ee 4 1 178 (AB Tryz.f122 3) ALG ALB v:=by
 rintro⟨a0,a1,a2,a3,⟨⟩⟩
 kernel_rfl
theorem AYz:AD (AB Tryz.f122 3) 4=[]:=by kernel_rfl
theorem AY4:Ad Tryz.prog 1 (.loop (AB Tryz.f122 3)) (Ee.loop 3):=AY C9 (AK2) (AA AYz trivial)
theorem AK4:∀ v,AK5 v=roundOf Tryz.prog EZ Ee 3 1 178 (AB Tryz.f122 2) ALH ALC v:=by
 rintro⟨a0,a1,a2,a3,⟨⟩⟩
 kernel_rfl
theorem AY0:AD (AB Tryz.f122 2) 3=[(3,AB Tryz.f122 3),(4,AB Tryz.f122 4)]:=by kernel_rfl
theorem AY5:Ad Tryz.prog 1 (.loop (AB Tryz.f122 2)) (Ee.loop 2):=AY C9 (AK4) (AA AY0 ⟨AY4,AY3,trivial⟩)
theorem AK6:∀ v,AK7 v=roundOf Tryz.prog EZ Ee 2 1 178 (AB Tryz.f122 1) ALI ALD v:=by
 rintro⟨a0,a1,a2,a3,⟨⟩⟩
 kernel_rfl
theorem AY1:AD (AB Tryz.f122 1) 2=[]:=by kernel_rfl
theorem AY6:Ad Tryz.prog 1 (.loop (AB Tryz.f122 1)) (Ee.loop 1):=AY C9 (AK6) (AA AY1 trivial)
theorem AK8:∀ v,AK9 v=roundOf Tryz.prog EZ Ee 1 1 178 (AB Tryz.f122 0) ALJ ALE v:=by
 rintro⟨a0,a1,a2,a3,⟨⟩⟩
 kernel_rfl
theorem AY2:AD (AB Tryz.f122 0) 1=[]:=by kernel_rfl
theorem AY7:Ad Tryz.prog 1 (.loop (AB Tryz.f122 0)) (Ee.loop 0):=AY C9 (AK8) (AA AY2 trivial)
theorem AVH:∀ v,ASp v=AQ 1 Tryz.prog EZ Ee Tryz.f122 AGq AGp AGo v:=by
 rintro⟨a0,a1,a2,a3,⟨⟩⟩
 kernel_rfl
theorem Ab8:AD (AT Tryz.f122) 0=[(0,AB Tryz.f122 0),(1,AB Tryz.f122 1),(2,AB Tryz.f122 2)]:=by kernel_rfl
theorem APj:AR Tryz.prog 122 (AF 1 5 AGq AGp AGo AY9):=AI C9 Tryz.func122 (by kernel_rfl) (by kernel_rfl) rfl (fun v=>(AY8 v).trans (AVH v)) (AA Ab8 ⟨AY7,AY6,AY5,trivial⟩)
def AId:Env:=EZ.CF 122 4 60 (AF 1 5 AGq AGp AGo AY9)
theorem AB2:Ab Tryz.prog AId:=Env.Ax C9 APj (AJ rfl rfl)
abbrev APO(self:(List (Int×Int×Unit)×Int×Int×Int×Unit)→Option ((List (Int×Int×Unit)×Unit))):Hints:={ loop:=fun n=>match n with|0=>Ae 1 148 ASn ASm (ASl self)|_=>fun _ _ _=>none,fp:=fun n=>match n with|17=>[[],[],[],[],[],[],[],[0],[0],[],[],[0],[0],[],[],[],[]]|_=>[] }
abbrev AGc(self:(List (Int×Int×Unit)×Int×Int×Int×Unit)→Option ((List (Int×Int×Unit)×Unit))):Env:=AId.ext 88 false true (AF 1 5 ZF ZE ZD self)
theorem APN(self:(List (Int×Int×Unit)×Int×Int×Int×Unit)→Option ((List (Int×Int×Unit)×Unit))):∀ v,ASl self v=roundOf Tryz.prog (AGc self) (APO self) 1 1 148 (AB Tryz.f88 0) ASn ASm v:=by
 rintro⟨a0,a1,a2,a3,a4,a5,⟨⟩⟩
 kernel_rfl
theorem Ab3:AD (AB Tryz.f88 0) 1=[]:=by kernel_rfl
theorem Ab4(self:(List (Int×Int×Unit)×Int×Int×Int×Unit)→Option ((List (Int×Int×Unit)×Unit)))(hE:Ab Tryz.prog (AGc self)):Ad Tryz.prog 1 (.loop (AB Tryz.f88 0)) ((APO self).loop 0):=AY hE (APN self) (AA Ab3 trivial)
theorem AYk(self:(List (Int×Int×Unit)×Int×Int×Int×Unit)→Option ((List (Int×Int×Unit)×Unit))):∀ v,Adq self v=AQ 1 Tryz.prog (AGc self) (APO self) Tryz.f88 ZF ZE ZD v:=by
 rintro⟨a0,a1,a2,a3,⟨⟩⟩
 kernel_rfl
theorem Adp:AD (AT Tryz.f88) 0=[(0,AB Tryz.f88 0)]:=by kernel_rfl
theorem APP:∀ n,AR Tryz.prog 88 (AF 1 5 ZF ZE ZD (ZG n)):=by
 intro n
 induction n with
 |zero=>exact VL fun _=>rfl
 |succ n ih=>
  have hE:Ab Tryz.prog (AGc (ZG n)):=Env.Ak AB2 ih ((by simp)) (fun _=>AJ rfl rfl)
  let self:=ZG n
  exact AI hE Tryz.func88 (by kernel_rfl) (by kernel_rfl) rfl (AYk self) (AA Adp ⟨(Ab4 self hE),trivial⟩)
theorem AVC:AR Tryz.prog 88 (AF 1 5 ZF ZE ZD Ab6):=by
 have e:Ab6=ZG 100:=funext Ab5
 rw[e]
 exact APP _
def AR1:Env:=AId.CF 88 4 60 (AF 1 5 ZF ZE ZD Ab6)
theorem AEr:Ab Tryz.prog AR1:=Env.Ax AB2 AVC (AJ rfl rfl)
abbrev AbV:Hints:={  }
theorem AUO:∀ v,ASH v=AQ 1 Tryz.prog AR1 AbV Tryz.f59 AFq AFp AFo v:=by
 rintro⟨a0,⟨⟩⟩
 kernel_rfl
theorem AbU:AD (AT Tryz.f59) 0=[]:=by kernel_rfl
theorem AOC:AR Tryz.prog 59 (AF 1 2 AFq AFp AFo ADX):=AI AEr Tryz.func59 (by kernel_rfl) (by kernel_rfl) rfl (fun v=>(AX1 v).trans (AUO v)) (AA AbU trivial)
def AIa:Env:=AR1.CF 59 1 60 (AF 1 2 AFq AFp AFo ADX)
theorem ABu:Ab Tryz.prog AIa:=Env.Ax AEr AOC (AJ rfl rfl)
abbrev Aag:Hints:={  }
theorem ARX:∀ v,ABM v=AQ 0 Tryz.prog AIa Aag Tryz.f75 ABL ABK ABJ v:=by
 rintro⟨a0,a1,⟨⟩⟩
 kernel_rfl
theorem Aaf:AD (AT Tryz.f75) 0=[]:=by kernel_rfl
theorem AMm:AR Tryz.prog 75 (AF 0 2 ABL ABK ABJ AH5):=AI ABu Tryz.func75 (by kernel_rfl) (by kernel_rfl) rfl (fun v=>(AWj v).trans (ARX v)) (AA Aaf trivial)
def AB9:Env:=AIa.ext 75 true true (AF 0 2 ABL ABK ABJ AH5)
theorem WI:Ab Tryz.prog AB9:=Env.Ak ABu AMm (fun _=>AO rfl rfl) (fun _=>AJ rfl rfl)
end
end Go.Pev
end
section
namespace Go.Pev
open Go.Proofs
noncomputable section
abbrev AdT:Hints:={  }
theorem AXC:∀ v,ANQ v=AQ 0 Tryz.prog AB9 AdT Tryz.f98 ANP ANO ANN v:=by
 rintro⟨a0,⟨⟩⟩
 kernel_rfl
theorem AdS:AD (AT Tryz.f98) 0=[]:=by kernel_rfl
theorem ATp:AR Tryz.prog 98 (AF 0 1 ANP ANO ANN Aa7):=AI WI Tryz.func98 (by kernel_rfl) (by kernel_rfl) rfl (fun v=>(Aa6 v).trans (AXC v)) (AA AdS trivial)
def ARv:Env:=AB9.ext 98 true true (AF 0 1 ANP ANO ANN Aa7)
theorem AEl:Ab Tryz.prog ARv:=Env.Ak WI ATp (fun _=>AO rfl rfl) (fun _=>AJ rfl rfl)
abbrev AWr:Hints:={  }
theorem AMu:∀ v,Tb v=AQ 0 Tryz.prog ARv AWr Tryz.f74 Ta TZ TY v:=by
 rintro⟨a0,⟨⟩⟩
 kernel_rfl
theorem AWq:AD (AT Tryz.f74) 0=[]:=by kernel_rfl
theorem AIC:AR Tryz.prog 74 (AF 0 1 Ta TZ TY XE):=AI AEl Tryz.func74 (by kernel_rfl) (by kernel_rfl) rfl (fun v=>(ARf v).trans (AMu v)) (AA AWq trivial)
def T3:Env:=ARv.ext 74 true true (AF 0 1 Ta TZ TY XE)
theorem RP:Ab Tryz.prog T3:=Env.Ak AEl AIC (fun _=>AO rfl rfl) (fun _=>AJ rfl rfl)
abbrev AXK:Hints:={  }
theorem ANU:∀ v,XY v=AQ 0 Tryz.prog T3 AXK Tryz.f71 XX XW XV v:=by
 rintro⟨a0,⟨⟩⟩
 kernel_rfl
theorem AXJ:AD (AT Tryz.f71) 0=[]:=by kernel_rfl
theorem AI0:AR Tryz.prog 71 (AF 0 1 XX XW XV AFD):=AI RP Tryz.func71 (by kernel_rfl) (by kernel_rfl) rfl (fun v=>(ATu v).trans (ANU v)) (AA AXJ trivial)
def ABo:Env:=T3.ext 71 true true (AF 0 1 XX XW XV AFD)
theorem Vt:Ab Tryz.prog ABo:=Env.Ak RP AI0 (fun _=>AO rfl rfl) (fun _=>AJ rfl rfl)
theorem ANc:Tryz.f70.body.isSome=true:=by kernel_rfl
theorem ANb : (Tryz.f70.name == "runtime.NumGoroutine") = false := by kernel_rfl
theorem ANa:loops (AT Tryz.f70)=0:=by kernel_rfl
def Gw:Env:=ABo.ext 70 false false (DC Tryz.prog ABo {} Tryz.f70)
theorem Gc:Ab Tryz.prog Gw:=Env.Ak Vt (Cs Vt Tryz.func70 ANc ANb ANa) (by simp) (by simp)
abbrev JH:Hints:={ loop:=fun n=>match n with|0=>Ae 0 19 MV MU Hm|_=>fun _ _ _=>none }
theorem QU:∀ v,Hm v=roundOf Tryz.prog Gw JH 1 0 19 (AB Tryz.f91 0) MV MU v:=by
 rintro⟨a0,a1,a2,⟨⟩⟩
 kernel_rfl
theorem AAQ:AD (AB Tryz.f91 0) 1=[]:=by kernel_rfl
theorem AAR:Ad Tryz.prog 0 (.loop (AB Tryz.f91 0)) (JH.loop 0):=AY Gc (QU) (AA AAQ trivial)
theorem WY:∀ v,JI v=AQ 0 Tryz.prog Gw JH Tryz.f91 JG JF JE v:=by
 rintro⟨a0,⟨⟩⟩
 kernel_rfl
theorem ACr:AD (AT Tryz.f91) 0=[(0,AB Tryz.f91 0)]:=by kernel_rfl
theorem Sw:AR Tryz.prog 91 (AF 0 2 JG JF JE Ig):=AI Gc Tryz.func91 (by kernel_rfl) (by kernel_rfl) rfl (fun v=>(AAS v).trans (WY v)) (AA ACr ⟨AAR,trivial⟩)
def JZ:Env:=Gw.CF 91 1 70 (AF 0 2 JG JF JE Ig)
theorem J7:Ab Tryz.prog JZ:=Env.Ax Gc Sw (AJ rfl rfl)
abbrev AA9:Hints:={  }
theorem TO:∀ v,H4 v=AQ 0 Tryz.prog JZ AA9 Tryz.f73 H3 H0 Hz v:=by
 rintro⟨a0,⟨⟩⟩
 kernel_rfl
theorem AA8:AD (AT Tryz.f73) 0=[]:=by kernel_rfl
theorem Qn:AR Tryz.prog 73 (AF 0 2 H3 H0 Hz Gt):=AI J7 Tryz.func73 (by kernel_rfl) (by kernel_rfl) rfl (fun v=>(Wh v).trans (TO v)) (AA AA8 trivial)
def IG:Env:=JZ.CF 73 1 70 (AF 0 2 H3 H0 Hz Gt)
theorem I2:Ab Tryz.prog IG:=Env.Ax J7 Qn (AJ rfl rfl)
abbrev Jc:Hints:={ loop:=fun n=>match n with|0=>Ae 0 78 Xd Xb OF|1=>Ae 0 78 Xc Xa KE|_=>fun _ _ _=>none,fp:=fun n=>match n with|12=>[[2],[2],[],[],[],[],[],[10],[10],[8],[9,12]]|5=>[[],[],[],[],[],[],[],[],[37]]|_=>[] }
def M9:Env:={ IG with keep:=false,rows:=false,arrs:=true }
theorem KF:Ab Tryz.prog M9:=I2
theorem ACG:∀ v,KE v=roundOf Tryz.prog M9 Jc 2 0 78 (AB Tryz.f39 1) Xc Xa v:=by
 rintro⟨a0,a1,a2,a3,a4,a5,a6,a7,a8,a9,a10,⟨⟩⟩
 kernel_rfl
theorem ANV:AD (AB Tryz.f39 1) 2=[]:=by kernel_rfl
theorem ANX:Ad Tryz.prog 0 (.loop (AB Tryz.f39 1)) (Jc.loop 1):=AY KF (ACG) (AA ANV trivial)
theorem ACH:∀ v,OF v=roundOf Tryz.prog M9 Jc 1 0 78 (AB Tryz.f39 0) Xd Xb v:=by
 rintro⟨a0,a1,a2,a3,a4,a5,a6,a7,⟨⟩⟩
 kernel_rfl
theorem ANW:AD (AB Tryz.f39 0) 1=[(1,AB Tryz.f39 1)]:=by kernel_rfl
theorem ANY:Ad Tryz.prog 0 (.loop (AB Tryz.f39 0)) (Jc.loop 0):=AY KF (ACH) (AA ANW ⟨ANX,trivial⟩)
theorem AI2:∀ v,Rf v=AQ 0 Tryz.prog M9 Jc Tryz.f39 Re Rd Rc v:=by
 rintro⟨a0,a1,⟨⟩⟩
 kernel_rfl
theorem ATv:AD (AT Tryz.f39) 0=[(0,AB Tryz.f39 0)]:=by kernel_rfl
theorem AFH:AR Tryz.prog 39 (AF 0 2 Re Rd Rc Pb):=AI KF Tryz.func39 (by kernel_rfl) (by kernel_rfl) rfl (fun v=>(ANZ v).trans (AI2 v)) (AA ATv ⟨ANY,trivial⟩)
def Nd:Env:=IG.ext 39 true true (AF 0 2 Re Rd Rc Pb)
theorem LI:Ab Tryz.prog Nd:=Env.Ak I2 AFH (fun _=>AO rfl rfl) (fun _=>AJ rfl rfl)
abbrev Ln:Hints:={ loop:=fun n=>match n with|0=>Ae 0 28 Pa PZ KD|_=>fun _ _ _=>none }
theorem WR:∀ v,KD v=roundOf Tryz.prog Nd Ln 1 0 28 (AB Tryz.f40 0) Pa PZ v:=by
 rintro⟨a0,a1,a2,a3,a4,⟨⟩⟩
 kernel_rfl
theorem AFE:AD (AB Tryz.f40 0) 1=[]:=by kernel_rfl
theorem AFF:Ad Tryz.prog 0 (.loop (AB Tryz.f40 0)) (Ln.loop 0):=AY LI (WR) (AA AFE trivial)
theorem ACF:∀ v,Lo v=AQ 0 Tryz.prog Nd Ln Tryz.f40 Lm Ll Lj v:=by
 rintro⟨a0,a1,⟨⟩⟩
 kernel_rfl
theorem AI1:AD (AT Tryz.f40) 0=[(0,AB Tryz.f40 0)]:=by kernel_rfl
theorem XZ:AR Tryz.prog 40 (AF 0 2 Lm Ll Lj M8):=AI LI Tryz.func40 (by kernel_rfl) (by kernel_rfl) rfl (fun v=>(AFG v).trans (ACF v)) (AA AI1 ⟨AFF,trivial⟩)
def Iw:Env:=Nd.ext 40 true true (AF 0 2 Lm Ll Lj M8)
theorem IA:Ab Tryz.prog Iw:=Env.Ak LI XZ (fun _=>AO rfl rfl) (fun _=>AJ rfl rfl)
abbrev AAs:Hints:={ loop:=fun n=>match n with|0=>Ae 0 26 AEU AET S9|_=>fun _ _ _=>none,fp:=fun n=>match n with|6=>[[],[],[],[],[],[],[],[],[]]|_=>[] }
theorem AHr:∀ v,S9 v=roundOf Tryz.prog Iw AAs 1 0 26 (AB Tryz.f146 0) AEU AET v:=by
 rintro⟨a0,a1,a2,a3,⟨⟩⟩
 kernel_rfl
theorem AWZ:AD (AB Tryz.f146 0) 1=[]:=by kernel_rfl
theorem AWa:Ad Tryz.prog 0 (.loop (AB Tryz.f146 0)) (AAs.loop 0):=AY IA (AHr) (AA AWZ trivial)
theorem AQ5:∀ v,AAt v=AQ 0 Tryz.prog Iw AAs Tryz.f146 AAr AAq AAp v:=by
 rintro⟨a0,a1,⟨⟩⟩
 kernel_rfl
theorem AaP:AD (AT Tryz.f146) 0=[(0,AB Tryz.f146 0)]:=by kernel_rfl
theorem AMU:AR Tryz.prog 146 (AF 0 2 AAr AAq AAp TA):=AI IA Tryz.func146 (by kernel_rfl) (by kernel_rfl) rfl (fun v=>(AWb v).trans (AQ5 v)) (AA AaP ⟨AWa,trivial⟩)
def RL:Env:=Iw.ext 146 true true (AF 0 2 AAr AAq AAp TA)
theorem M4:Ab Tryz.prog RL:=Env.Ak IA AMU (fun _=>AO rfl rfl) (fun _=>AJ rfl rfl)
abbrev TE:Hints:={ loop:=fun n=>match n with|0=>Ae 0 32 AAv AAu O6|_=>fun _ _ _=>none }
theorem ACy:∀ v,O6 v=roundOf Tryz.prog RL TE 1 0 32 (AB Tryz.f147 0) AAv AAu v:=by
 rintro⟨a0,a1,a2,a3,⟨⟩⟩
 kernel_rfl
theorem AQ7:AD (AB Tryz.f147 0) 1=[]:=by kernel_rfl
theorem AQ8:Ad Tryz.prog 0 (.loop (AB Tryz.f147 0)) (TE.loop 0):=AY M4 (ACy) (AA AQ7 trivial)
theorem AMV:∀ v,TF v=AQ 0 Tryz.prog RL TE Tryz.f147 TD TC TB v:=by
 rintro⟨a0,a1,⟨⟩⟩
 kernel_rfl
theorem AWc:AD (AT Tryz.f147) 0=[(0,AB Tryz.f147 0)]:=by kernel_rfl
theorem AHs:AR Tryz.prog 147 (AF 0 3 TD TC TB XC):=AI M4 Tryz.func147 (by kernel_rfl) (by kernel_rfl) rfl (fun v=>(AQ9 v).trans (AMV v)) (AA AWc ⟨AQ8,trivial⟩)
def Tx:Env:=RL.CF 147 2 146 (AF 0 3 TD TC TB XC)
theorem RN:Ab Tryz.prog Tx:=Env.Ax M4 AHs (AJ rfl rfl)
abbrev AXE:Hints:={  }
theorem ANR:∀ v,XU v=AQ 0 Tryz.prog Tx AXE Tryz.f129 XT XS XR v:=by
 rintro⟨a0,a1,⟨⟩⟩
 kernel_rfl
theorem AXD:AD (AT Tryz.f129) 0=[]:=by kernel_rfl
theorem AIq:AR Tryz.prog 129 (AF 0 2 XT XS XR AE8):=AI RN Tryz.func129 (by kernel_rfl) (by kernel_rfl) rfl (fun v=>(ATq v).trans (ANR v)) (AA AXD trivial)
def ABm:Env:=Tx.ext 129 true true (AF 0 2 XT XS XR AE8)
theorem Vs:Ab Tryz.prog ABm:=Env.Ak RN AIq (fun _=>AO rfl rfl) (fun _=>AJ rfl rfl)
abbrev ATs:Hints:={  }
theorem AIr:∀ v,Rb v=AQ 0 Tryz.prog ABm ATs Tryz.f99 Ra RZ RY v:=by
 rintro⟨a0,⟨⟩⟩
 kernel_rfl
theorem ATr:AD (AT Tryz.f99) 0=[]:=by kernel_rfl
theorem AE9:AR Tryz.prog 99 (AF 0 1 Ra RZ RY Wu):=AI Vs Tryz.func99 (by kernel_rfl) (by kernel_rfl) rfl (fun v=>(ANS v).trans (AIr v)) (AA ATr trivial)
def Tm:Env:=ABm.ext 99 true true (AF 0 1 Ra RZ RY Wu)
theorem Qv:Ab Tryz.prog Tm:=Env.Ak Vs AE9 (fun _=>AO rfl rfl) (fun _=>AJ rfl rfl)
end
end Go.Pev
end
section
namespace Go.Pev
open Go.Proofs
noncomputable section
theorem Adc:Tryz.f100.body.isSome=true:=by kernel_rfl
theorem Adb : (Tryz.f100.name == "runtime.NumGoroutine") = false := by kernel_rfl
theorem Ada:loops (AT Tryz.f100)=0:=by kernel_rfl
def Q0:Env:=Tm.ext 100 false false (DC Tryz.prog Tm {} Tryz.f100)
theorem Mv:Ab Tryz.prog Q0:=Env.Ak Qv (Cs Qv Tryz.func100 Adc Adb Ada) (by simp) (by simp)
abbrev JM:Hints:={ loop:=fun n=>match n with|0=>Ae 0 19 MX MW Hn|_=>fun _ _ _=>none }
theorem QV:∀ v,Hn v=roundOf Tryz.prog Q0 JM 1 0 19 (AB Tryz.f91 0) MX MW v:=by
 rintro⟨a0,a1,a2,⟨⟩⟩
 kernel_rfl
theorem AAT:AD (AB Tryz.f91 0) 1=[]:=by kernel_rfl
theorem AAU:Ad Tryz.prog 0 (.loop (AB Tryz.f91 0)) (JM.loop 0):=AY Mv (QV) (AA AAT trivial)
theorem WZ:∀ v,JN v=AQ 0 Tryz.prog Q0 JM Tryz.f91 JL JK JJ v:=by
 rintro⟨a0,⟨⟩⟩
 kernel_rfl
theorem ACs:AD (AT Tryz.f91) 0=[(0,AB Tryz.f91 0)]:=by kernel_rfl
theorem Sx:AR Tryz.prog 91 (AF 0 2 JL JK JJ Ih):=AI Mv Tryz.func91 (by kernel_rfl) (by kernel_rfl) rfl (fun v=>(AAV v).trans (WZ v)) (AA ACs ⟨AAU,trivial⟩)
def Ja:Env:=Q0.CF 91 1 100 (AF 0 2 JL JK JJ Ih)
theorem J8:Ab Tryz.prog Ja:=Env.Ax Mv Sx (AJ rfl rfl)
abbrev ABB:Hints:={  }
theorem TP:∀ v,H8 v=AQ 0 Tryz.prog Ja ABB Tryz.f73 H7 H6 H5 v:=by
 rintro⟨a0,⟨⟩⟩
 kernel_rfl
theorem ABA:AD (AT Tryz.f73) 0=[]:=by kernel_rfl
theorem Qo:AR Tryz.prog 73 (AF 0 2 H7 H6 H5 Gu):=AI J8 Tryz.func73 (by kernel_rfl) (by kernel_rfl) rfl (fun v=>(Wi v).trans (TP v)) (AA ABA trivial)
def IH:Env:=Ja.CF 73 1 100 (AF 0 2 H7 H6 H5 Gu)
theorem I3:Ab Tryz.prog IH:=Env.Ax J8 Qo (AJ rfl rfl)
abbrev HS:Hints:={ loop:=fun n=>match n with|0=>Ae 0 100 ADg ADd Rw|1=>Ae 0 100 ADf ADc Rv|2=>Ae 0 100 ADe ADb Ru|_=>fun _ _ _=>none,fp:=fun n=>match n with|17=>[[],[],[0],[0],[],[],[0],[0],[],[]]|_=>[] }
def Lx:Env:={ IH with keep:=false,rows:=true,arrs:=false }
theorem IS:Ab Tryz.prog Lx:=I3
theorem AGE:∀ v,Ru v=roundOf Tryz.prog Lx HS 3 0 100 (AB Tryz.f76 2) ADe ADb v:=by
 rintro⟨a0,a1,a2,a3,a4,a5,a6,a7,a8,a9,⟨⟩⟩
 kernel_rfl
theorem AUb:AD (AB Tryz.f76 2) 3=[]:=by kernel_rfl
theorem AUe:Ad Tryz.prog 0 (.loop (AB Tryz.f76 2)) (HS.loop 2):=AY IS (AGE) (AA AUb trivial)
theorem AGF:∀ v,Rv v=roundOf Tryz.prog Lx HS 2 0 100 (AB Tryz.f76 1) ADf ADc v:=by
 rintro⟨a0,a1,a2,a3,a4,a5,⟨⟩⟩
 kernel_rfl
theorem AUc:AD (AB Tryz.f76 1) 2=[(2,AB Tryz.f76 2)]:=by kernel_rfl
theorem AUf:Ad Tryz.prog 0 (.loop (AB Tryz.f76 1)) (HS.loop 1):=AY IS (AGF) (AA AUc ⟨AUe,trivial⟩)
theorem AGG:∀ v,Rw v=roundOf Tryz.prog Lx HS 1 0 100 (AB Tryz.f76 0) ADg ADd v:=by
 rintro⟨a0,a1,a2,a3,a4,a5,a6,a7,⟨⟩⟩
 kernel_rfl
theorem AUd:AD (AB Tryz.f76 0) 1=[]:=by kernel_rfl
theorem AUg:Ad Tryz.prog 0 (.loop (AB Tryz.f76 0)) (HS.loop 0):=AY IS (AGG) (AA AUd trivial)
theorem AOZ:∀ v,YP v=AQ 0 Tryz.prog Lx HS Tryz.f76 YO YN YM v:=by
 rintro⟨a0,a1,⟨⟩⟩
 kernel_rfl
theorem AYH:AD (AT Tryz.f76) 0=[(0,AB Tryz.f76 0),(1,AB Tryz.f76 1)]:=by kernel_rfl
theorem AJn:AR Tryz.prog 76 (AF 0 2 YO YN YM AGH):=AI IS Tryz.func76 (by kernel_rfl) (by kernel_rfl) rfl (fun v=>(AUh v).trans (AOZ v)) (AA AYH ⟨AUg,AUf,trivial⟩)
def Q5:Env:=IH.ext 76 true true (AF 0 2 YO YN YM AGH)
theorem Mw:Ab Tryz.prog Q5:=Env.Ak I3 AJn (fun _=>AO rfl rfl) (fun _=>AJ rfl rfl)
abbrev Y6:Hints:={ loop:=fun n=>match n with|0=>Ae 0 29 ADy ADx R4|_=>fun _ _ _=>none }
theorem AGW:∀ v,R4 v=roundOf Tryz.prog Q5 Y6 1 0 29 (AB Tryz.f42 0) ADy ADx v:=by
 rintro⟨a0,a1,a2,a3,a4,a5,a6,⟨⟩⟩
 kernel_rfl
theorem AU5:AD (AB Tryz.f42 0) 1=[]:=by kernel_rfl
theorem AU6:Ad Tryz.prog 0 (.loop (AB Tryz.f42 0)) (Y6.loop 0):=AY Mw (AGW) (AA AU5 trivial)
theorem APH:∀ v,Y7 v=AQ 0 Tryz.prog Q5 Y6 Tryz.f42 Y5 Y4 Y3 v:=by
 rintro⟨a0,a1,⟨⟩⟩
 kernel_rfl
theorem AYg:AD (AT Tryz.f42) 0=[(0,AB Tryz.f42 0)]:=by kernel_rfl
theorem AKC:AR Tryz.prog 42 (AF 0 2 Y5 Y4 Y3 AGX):=AI Mw Tryz.func42 (by kernel_rfl) (by kernel_rfl) rfl (fun v=>(AU7 v).trans (APH v)) (AA AYg ⟨AU6,trivial⟩)
def AB0:Env:=Q5.ext 42 true true (AF 0 2 Y5 Y4 Y3 AGX)
theorem WC:Ab Tryz.prog AB0:=Env.Ak Mw AKC (fun _=>AO rfl rfl) (fun _=>AJ rfl rfl)
abbrev OV:Hints:={ loop:=fun n=>match n with|0=>Ae 0 108 ASV ASS IN|1=>Ae 0 108 ASU ASR IM|2=>Ae 0 108 AST ASQ Fs|_=>fun _ _ _=>none,fp:=fun n=>match n with|19=>[[],[0],[0],[0],[],[],[0],[0],[0],[],[4],[6],[6],[6],[6],[],[],[5,8],[5]]|6=>[[0],[0],[10],[10],[10],[],[],[],[],[],[],[],[20,22],[]]|_=>[] }
def YJ:Env:={ AB0 with keep:=false,rows:=true,arrs:=true }
theorem NC:Ab Tryz.prog YJ:=WC
theorem AOT:∀ v,Fs v=roundOf Tryz.prog YJ OV 3 0 108 (AB Tryz.f27 2) AST ASQ v:=by
 rintro⟨a0,a1,a2,a3,a4,a5,a6,a7,a8,a9,a10,a11,a12,a13,a14,a15,a16,⟨⟩⟩
 kernel_rfl
theorem Abh:AD (AB Tryz.f27 2) 3=[]:=by kernel_rfl
theorem Abk:Ad Tryz.prog 0 (.loop (AB Tryz.f27 2)) (OV.loop 2):=AY NC (AOT) (AA Abh trivial)
theorem AOU:∀ v,IM v=roundOf Tryz.prog YJ OV 2 0 108 (AB Tryz.f27 1) ASU ASR v:=by
 rintro⟨a0,a1,a2,a3,a4,a5,a6,a7,⟨⟩⟩
 kernel_rfl
theorem Abi:AD (AB Tryz.f27 1) 2=[(2,AB Tryz.f27 2)]:=by kernel_rfl
theorem Abl:Ad Tryz.prog 0 (.loop (AB Tryz.f27 1)) (OV.loop 1):=AY NC (AOU) (AA Abi ⟨Abk,trivial⟩)
theorem AOV:∀ v,IN v=roundOf Tryz.prog YJ OV 1 0 108 (AB Tryz.f27 0) ASV ASS v:=by
 rintro⟨a0,a1,a2,a3,a4,a5,a6,a7,a8,a9,⟨⟩⟩
 kernel_rfl
theorem Abj:AD (AB Tryz.f27 0) 1=[]:=by kernel_rfl
theorem Abm:Ad Tryz.prog 0 (.loop (AB Tryz.f27 0)) (OV.loop 0):=AY NC (AOV) (AA Abj trivial)
theorem AYF:∀ v,Rq v=APJ 0 Tryz.prog YJ OV Tryz.f27 AOY AOX AOW v:=by
 rintro⟨a0,a1,a2,⟨⟩⟩
 kernel_rfl
theorem Adf:AD (AT Tryz.f27) 0=[(0,AB Tryz.f27 0),(1,AB Tryz.f27 1)]:=by kernel_rfl
theorem AUY:AR Tryz.prog 27 (ALS 0 3 AOY AOX AOW seen):=Aar NC Tryz.func27 (by kernel_rfl) (by kernel_rfl) rfl (fun v=>(W2 v).trans (AYF v)) (AA Adf ⟨Abm,Abl,trivial⟩)
def ARz:Env:=AB0.ext 27 false false (ALS 0 3 AOY AOX AOW seen)
theorem AEp:Ab Tryz.prog ARz:=Env.Ak WC AUY ((by simp)) (by simp)
abbrev AUR:Hints:={ fp:=fun n=>match n with|1=>[[],[0],[0],[0],[4],[4],[2],[],[0],[0],[0],[4],[4],[2],[],[],[]]|_=>[] }
theorem AJX:∀ v,NB v=AQ 2 Tryz.prog ARz AUR Tryz.f32 Rp Ro Rn v:=by
 rintro⟨a0,a1,a2,a3,a4,⟨⟩⟩
 kernel_rfl
theorem AUQ:AD (AT Tryz.f32) 0=[]:=by kernel_rfl
theorem AFt:AR Tryz.prog 32 (AF 2 2 Rp Ro Rn KM):=AI AEp Tryz.func32 (by kernel_rfl) (by kernel_rfl) rfl (fun v=>(YF v).trans (AJX v)) (AA AUQ trivial)
def Tn:Env:=ARz.ext 32 false true (AF 2 2 Rp Ro Rn KM)
theorem Q1:Ab Tryz.prog Tn:=Env.Ak AEp AFt ((by simp)) (fun _=>AJ rfl rfl)
abbrev AOG:Hints:={  }
theorem AFs:∀ v,KL v=AQ 2 Tryz.prog Tn AOG Tryz.f41 OT OS OR v:=by
 rintro⟨a0,a1,a2,a3,a4,⟨⟩⟩
 kernel_rfl
theorem AOF:AD (AT Tryz.f41) 0=[]:=by kernel_rfl
theorem ACK:AR Tryz.prog 41 (AF 2 2 OT OS OR HR):=AI Q1 Tryz.func41 (by kernel_rfl) (by kernel_rfl) rfl (fun v=>(UD v).trans (AFs v)) (AA AOF trivial)
def PN:Env:=Tn.ext 41 false true (AF 2 2 OT OS OR HR)
theorem N9:Ab Tryz.prog PN:=Env.Ak Q1 ACK ((by simp)) (fun _=>AJ rfl rfl)
theorem AJW:Tryz.f65.body.isSome=true:=by kernel_rfl
theorem AJV : (Tryz.f65.name == "runtime.NumGoroutine") = false := by kernel_rfl
theorem AJU:loops (AT Tryz.f65)=0:=by kernel_rfl
def F8:Env:=PN.ext 65 false false (DC Tryz.prog PN {} Tryz.f65)
theorem Fh:Ab Tryz.prog F8:=Env.Ak N9 (Cs N9 Tryz.func65 AJW AJV AJU) (by simp) (by simp)
abbrev JD:Hints:={ loop:=fun n=>match n with|0=>Ae 4 19 MQ MP Bx|_=>fun _ _ _=>none }
theorem QR:∀ v,Bx v=roundOf Tryz.prog F8 JD 1 4 19 (AB Tryz.f91 0) MQ MP v:=by
 rintro⟨a0,a1,a2,a3,a4,a5,a6,⟨⟩⟩
 kernel_rfl
theorem AAO:AD (AB Tryz.f91 0) 1=[]:=by kernel_rfl
theorem AAP:Ad Tryz.prog 4 (.loop (AB Tryz.f91 0)) (JD.loop 0):=AY Fh (QR) (AA AAO trivial)
theorem WX:∀ v,Fx v=AQ 4 Tryz.prog F8 JD Tryz.f91 JC JB JA v:=by
 rintro⟨a0,a1,a2,a3,a4,⟨⟩⟩
 kernel_rfl
theorem ACq:AD (AT Tryz.f91) 0=[(0,AB Tryz.f91 0)]:=by kernel_rfl
theorem Su:AR Tryz.prog 91 (AF 4 2 JC JB JA Ia):=AI Fh Tryz.func91 (by kernel_rfl) (by kernel_rfl) rfl (fun v=>(MR v).trans (WX v)) (AA ACq ⟨AAP,trivial⟩)
def F9:Env:=F8.CF 91 1 65 (AF 4 2 JC JB JA Ia)
theorem Fl:Ab Tryz.prog F9:=Env.Ax Fh Su (AJ rfl rfl)
abbrev JT:Hints:={ loop:=fun n=>match n with|0=>Ae 4 42 Mf Me Cq|_=>fun _ _ _=>none }
theorem Qi:∀ v,Cq v=roundOf Tryz.prog F9 JT 1 4 42 (AB Tryz.f63 0) Mf Me v:=by
 rintro⟨a0,a1,a2,a3,a4,a5,a6,⟨⟩⟩
 kernel_rfl
theorem AA1:AD (AB Tryz.f63 0) 1=[]:=by kernel_rfl
theorem AA2:Ad Tryz.prog 4 (.loop (AB Tryz.f63 0)) (JT.loop 0):=AY Fl (Qi) (AA AA1 trivial)
theorem Wf:∀ v,F4 v=AQ 4 Tryz.prog F9 JT Tryz.f63 JS JR JQ v:=by
 rintro⟨a0,a1,a2,a3,a4,⟨⟩⟩
 kernel_rfl
theorem AC0:AD (AT Tryz.f63) 0=[(0,AB Tryz.f63 0)]:=by kernel_rfl
theorem TK:AR Tryz.prog 63 (AF 4 2 JS JR JQ Iq):=AI Fl Tryz.func63 (by kernel_rfl) (by kernel_rfl) rfl (fun v=>(Mg v).trans (Wf v)) (AA AC0 ⟨AA2,trivial⟩)
def Jb:Env:=F9.CF 63 1 65 (Je (AF 4 2 JS JR JQ Iq))
theorem KA:Ab Tryz.prog Jb:=Env.Ax Fl (T9 TK) (ASB rfl rfl)
abbrev AOE:Hints:={  }
theorem AFr:∀ v,KK v=AQ 2 Tryz.prog Jb AOE Tryz.f30 OQ OP OO v:=by
 rintro⟨a0,a1,a2,a3,⟨⟩⟩
 kernel_rfl
theorem AOD:AD (AT Tryz.f30) 0=[]:=by kernel_rfl
theorem ACJ:AR Tryz.prog 30 (AF 2 1 OQ OP OO HQ):=AI KA Tryz.func30 (by kernel_rfl) (by kernel_rfl) rfl (fun v=>(UC v).trans (AFr v)) (AA AOD trivial)
def IC:Env:=Jb.ext 30 false true (AF 2 1 OQ OP OO HQ)
theorem F7:Ab Tryz.prog IC:=Env.Ak KA ACJ ((by simp)) (fun _=>AJ rfl rfl)
end
end Go.Pev
end
section
namespace Go.Pev
open Go.Proofs
noncomputable section
abbrev YG:Hints:={ loop:=fun n=>match n with|0=>Ae 2 48 ASL ASJ KN|1=>Ae 2 48 ASK ASI IL|_=>fun _ _ _=>none,fp:=fun n=>match n with|9=>[[],[8],[4],[],[5],[],[5]]|_=>[] }
theorem AOI:∀ v,IL v=roundOf Tryz.prog IC YG 2 2 48 (AB Tryz.f29 1) ASK ASI v:=by
 rintro⟨a0,a1,a2,a3,a4,a5,a6,a7,a8,a9,a10,a11,⟨⟩⟩
 kernel_rfl
theorem AbZ:AD (AB Tryz.f29 1) 2=[]:=by kernel_rfl
theorem Abb:Ad Tryz.prog 2 (.loop (AB Tryz.f29 1)) (YG.loop 1):=AY F7 (AOI) (AA AbZ trivial)
theorem AOJ:∀ v,KN v=roundOf Tryz.prog IC YG 1 2 48 (AB Tryz.f29 0) ASL ASJ v:=by
 rintro⟨a0,a1,a2,a3,a4,a5,a6,a7,a8,⟨⟩⟩
 kernel_rfl
theorem Aba:AD (AB Tryz.f29 0) 1=[(1,AB Tryz.f29 1)]:=by kernel_rfl
theorem Abc:Ad Tryz.prog 2 (.loop (AB Tryz.f29 0)) (YG.loop 0):=AY F7 (AOJ) (AA Aba ⟨Abb,trivial⟩)
theorem AX2:∀ v,AFx v=AQ 2 Tryz.prog IC YG Tryz.f29 AOM AOL AOK v:=by
 rintro⟨a0,a1,a2,a3,a4,⟨⟩⟩
 kernel_rfl
theorem Ade:AD (AT Tryz.f29) 0=[(0,AB Tryz.f29 0)]:=by kernel_rfl
theorem AUT:AR Tryz.prog 29 (AF 2 2 AOM AOL AOK AON):=AI F7 Tryz.func29 (by kernel_rfl) (by kernel_rfl) rfl (fun v=>(ASM v).trans (AX2 v)) (AA Ade ⟨Abc,trivial⟩)
def ARy:Env:=IC.ext 29 false true (AF 2 2 AOM AOL AOK AON)
theorem AEo:Ab Tryz.prog ARy:=Env.Ak F7 AUT ((by simp)) (fun _=>AJ rfl rfl)
theorem AbR:Tryz.f31.body.isSome=true:=by kernel_rfl
theorem AbQ : (Tryz.f31.name == "runtime.NumGoroutine") = false := by kernel_rfl
theorem AbP:loops (AT Tryz.f31)=0:=by kernel_rfl
def Nf:Env:=ARy.ext 31 false false (DC Tryz.prog ARy {} Tryz.f31)
theorem LK:Ab Tryz.prog Nf:=Env.Ak AEo (Cs AEo Tryz.func31 AbR AbQ AbP) (by simp) (by simp)
abbrev Ks:Hints:={ loop:=fun n=>match n with|0=>Ae 4 19 Nx Nw CD|_=>fun _ _ _=>none }
theorem S0:∀ v,CD v=roundOf Tryz.prog Nf Ks 1 4 19 (AB Tryz.f38 0) Nx Nw v:=by
 rintro⟨a0,a1,a2,a3,a4,a5,a6,⟨⟩⟩
 kernel_rfl
theorem ACt:AD (AB Tryz.f38 0) 1=[]:=by kernel_rfl
theorem ACu:Ad Tryz.prog 4 (.loop (AB Tryz.f38 0)) (Ks.loop 0):=AY LK (S0) (AA ACt trivial)
theorem AAX:∀ v,Gq v=AQ 4 Tryz.prog Nf Ks Tryz.f38 Kr Kq Kp v:=by
 rintro⟨a0,a1,a2,a3,a4,⟨⟩⟩
 kernel_rfl
theorem AHV:AD (AT Tryz.f38) 0=[(0,AB Tryz.f38 0)]:=by kernel_rfl
theorem Wc:AR Tryz.prog 38 (AF 4 2 Kr Kq Kp Kt):=AI LK Tryz.func38 (by kernel_rfl) (by kernel_rfl) rfl (fun v=>(Ny v).trans (AAX v)) (AA AHV ⟨ACu,trivial⟩)
def Gy:Env:=Nf.CF 38 1 31 (AF 4 2 Kr Kq Kp Kt)
theorem Gd:Ab Tryz.prog Gy:=Env.Ax LK Wc (AJ rfl rfl)
abbrev LB:Hints:={ loop:=fun n=>match n with|0=>Ae 4 42 N6 N5 DH|_=>fun _ _ _=>none }
theorem TL:∀ v,DH v=roundOf Tryz.prog Gy LB 1 4 42 (AB Tryz.f28 0) N6 N5 v:=by
 rintro⟨a0,a1,a2,a3,a4,a5,a6,⟨⟩⟩
 kernel_rfl
theorem AC1:AD (AB Tryz.f28 0) 1=[]:=by kernel_rfl
theorem AC2:Ad Tryz.prog 4 (.loop (AB Tryz.f28 0)) (LB.loop 0):=AY Gd (TL) (AA AC1 trivial)
theorem AA3:∀ v,Gs v=AQ 4 Tryz.prog Gy LB Tryz.f28 LA K9 K8 v:=by
 rintro⟨a0,a1,a2,a3,a4,⟨⟩⟩
 kernel_rfl
theorem AHw:AD (AT Tryz.f28) 0=[(0,AB Tryz.f28 0)]:=by kernel_rfl
theorem Wg:AR Tryz.prog 28 (AF 4 2 LA K9 K8 Hx):=AI Gd Tryz.func28 (by kernel_rfl) (by kernel_rfl) rfl (fun v=>(N7 v).trans (AA3 v)) (AA AHw ⟨AC2,trivial⟩)
def LS:Env:=Gy.CF 28 1 31 (Je (AF 4 2 LA K9 K8 Hx))
theorem Ld:Ab Tryz.prog LS:=Env.Ax Gd (T9 Wg) (ASB rfl rfl)
abbrev AdZ:Hints:={ fp:=fun n=>match n with|4=>[[10],[10],[1000005,3,5],[1000005,3,13,5],[],[1000005,21,11,3,5],[],[]]|_=>[] }
theorem AXx:∀ v,YE v=AQ 0 Tryz.prog LS AdZ Tryz.f11 AOA AN9 AN8 v:=by
 rintro⟨a0,a1,a2,⟨⟩⟩
 kernel_rfl
theorem AdY:AD (AT Tryz.f11) 0=[]:=by kernel_rfl
theorem AUL:AR Tryz.prog 11 (AF 0 3 AOA AN9 AN8 AJS):=AI Ld Tryz.func11 (by kernel_rfl) (by kernel_rfl) rfl (fun v=>(AFk v).trans (AXx v)) (AA AdY trivial)
def ARx:Env:=LS.ext 11 true true (AF 0 3 AOA AN9 AN8 AJS)
theorem AEn:Ab Tryz.prog ARx:=Env.Ak Ld AUL (fun _=>AO rfl rfl) (fun _=>AJ rfl rfl)
abbrev AXv:Hints:={  }
theorem AN7:∀ v,Pj v=AQ 0 Tryz.prog ARx AXv Tryz.f13 YD YC YB v:=by
 rintro⟨a0,a1,a2,a3,⟨⟩⟩
 kernel_rfl
theorem AXu:AD (AT Tryz.f13) 0=[]:=by kernel_rfl
theorem AJR:AR Tryz.prog 13 (AF 0 4 YD YC YB OM):=AI AEn Tryz.func13 (by kernel_rfl) (by kernel_rfl) rfl (fun v=>(ADW v).trans (AN7 v)) (AA AXu trivial)
def Qy:Env:=ARx.ext 13 true true (AF 0 4 YD YC YB OM)
theorem Mu:Ab Tryz.prog Qy:=Env.Ak AEn AJR (fun _=>AO rfl rfl) (fun _=>AJ rfl rfl)
abbrev Kx:Hints:={ loop:=fun n=>match n with|0=>Ae 2 19 N0 Nz Cf|_=>fun _ _ _=>none }
theorem S1:∀ v,Cf v=roundOf Tryz.prog Qy Kx 1 2 19 (AB Tryz.f38 0) N0 Nz v:=by
 rintro⟨a0,a1,a2,a3,a4,a5,a6,⟨⟩⟩
 kernel_rfl
theorem ACv:AD (AB Tryz.f38 0) 1=[]:=by kernel_rfl
theorem ACw:Ad Tryz.prog 2 (.loop (AB Tryz.f38 0)) (Kx.loop 0):=AY Mu (S1) (AA ACv trivial)
theorem AAY:∀ v,Gr v=AQ 2 Tryz.prog Qy Kx Tryz.f38 Kw Kv Ku v:=by
 rintro⟨a0,a1,a2,a3,a4,⟨⟩⟩
 kernel_rfl
theorem AHW:AD (AT Tryz.f38) 0=[(0,AB Tryz.f38 0)]:=by kernel_rfl
theorem Wd:AR Tryz.prog 38 (AF 2 2 Kw Kv Ku Hs):=AI Mu Tryz.func38 (by kernel_rfl) (by kernel_rfl) rfl (fun v=>(N1 v).trans (AAY v)) (AA AHW ⟨ACw,trivial⟩)
def Gz:Env:=Qy.CF 38 1 32 (AF 2 2 Kw Kv Ku Hs)
theorem Ge:Ab Tryz.prog Gz:=Env.Ax Mu Wd (AJ rfl rfl)
abbrev AFj:Hints:={ loop:=fun n=>match n with|0=>Ae 0 66 AJQ AJP GB|_=>fun _ _ _=>none,fp:=fun n=>match n with|11=>[[],[],[6],[6],[0],[1],[0],[1]]|_=>[] }
theorem AJO:∀ v,GB v=roundOf Tryz.prog Gz AFj 1 0 66 (AB Tryz.f15 0) AJQ AJP v:=by
 rintro⟨a0,a1,a2,a3,a4,a5,a6,a7,a8,a9,⟨⟩⟩
 kernel_rfl
theorem AXs:AD (AB Tryz.f15 0) 1=[]:=by kernel_rfl
theorem AXt:Ad Tryz.prog 0 (.loop (AB Tryz.f15 0)) (AFj.loop 0):=AY Ge (AJO) (AA AXs trivial)
theorem AUJ:∀ v,Ph v=AQ 0 Tryz.prog Gz AFj Tryz.f15 AFi AFh AFg v:=by
 rintro⟨a0,a1,a2,⟨⟩⟩
 kernel_rfl
theorem AbO:AD (AT Tryz.f15) 0=[(0,AB Tryz.f15 0)]:=by kernel_rfl
theorem AN4:AR Tryz.prog 15 (AF 0 3 AFi AFh AFg Ns):=AI Ge Tryz.func15 (by kernel_rfl) (by kernel_rfl) rfl (fun v=>(YA v).trans (AUJ v)) (AA AbO ⟨AXt,trivial⟩)
def XJ:Env:=Gz.ext 15 true true (AF 0 3 AFi AFh AFg Ns)
theorem PM:Ab Tryz.prog XJ:=Env.Ak Ge AN4 (fun _=>AO rfl rfl) (fun _=>AJ rfl rfl)
abbrev X5:Hints:={ loop:=fun n=>match n with|0=>Ae 0 65 ADU ADT Rm|_=>fun _ _ _=>none,fp:=fun n=>match n with|4=>[[],[4],[4],[4],[],[4],[4],[4],[],[],[12],[],[],[],[3]]|_=>[] }
theorem AFd:∀ v,Rm v=roundOf Tryz.prog XJ X5 1 0 65 (AB Tryz.f18 0) ADU ADT v:=by
 rintro⟨a0,a1,a2,a3,a4,a5,a6,a7,a8,a9,a10,⟨⟩⟩
 kernel_rfl
theorem AUD:AD (AB Tryz.f18 0) 1=[]:=by kernel_rfl
theorem AUE:Ad Tryz.prog 0 (.loop (AB Tryz.f18 0)) (X5.loop 0):=AY PM (AFd) (AA AUD trivial)
theorem ANy:∀ v,X6 v=AQ 0 Tryz.prog XJ X5 Tryz.f18 X4 X3 X2 v:=by
 rintro⟨a0,a1,a2,a3,⟨⟩⟩
 kernel_rfl
theorem AXr:AD (AT Tryz.f18) 0=[(0,AB Tryz.f18 0)]:=by kernel_rfl
theorem AJM:AR Tryz.prog 18 (AF 0 4 X4 X3 X2 AFe):=AI PM Tryz.func18 (by kernel_rfl) (by kernel_rfl) rfl (fun v=>(AUF v).trans (ANy v)) (AA AXr ⟨AUE,trivial⟩)
def ABt:Env:=XJ.ext 18 true true (AF 0 4 X4 X3 X2 AFe)
theorem Vx:Ab Tryz.prog ABt:=Env.Ak PM AJM (fun _=>AO rfl rfl) (fun _=>AJ rfl rfl)
abbrev AW7:Hints:={  }
theorem ANA:∀ v,Ti v=AQ 0 Tryz.prog ABt AW7 Tryz.f9 Th Tg Tf v:=by
 rintro⟨⟨⟩⟩
 kernel_rfl
theorem AW6:AD (AT Tryz.f9) 0=[]:=by kernel_rfl
theorem AIS:AR Tryz.prog 9 (AF 0 0 Th Tg Tf Iu):=AI Vx Tryz.func9 (by kernel_rfl) (by kernel_rfl) rfl (fun v=>(ARq v).trans (ANA v)) (AA AW6 trivial)
def T5:Env:=ABt.ext 9 true true (AF 0 0 Th Tg Tf Iu)
theorem RR:Ab Tryz.prog T5:=Env.Ak Vx AIS (fun _=>AO rfl rfl) (fun _=>AJ rfl rfl)
abbrev AWM:Hints:={  }
theorem AME:∀ v,NQ v=AQ 0 Tryz.prog T5 AWM Tryz.f10 S5 S4 S3 v:=by
 rintro⟨a0,⟨⟩⟩
 kernel_rfl
theorem AWL:AD (AT Tryz.f10) 0=[]:=by kernel_rfl
theorem AHi:AR Tryz.prog 10 (AF 0 1 S5 S4 S3 NR):=AI RR Tryz.func10 (by kernel_rfl) (by kernel_rfl) rfl (fun v=>(AAZ v).trans (AME v)) (AA AWL trivial)
def Ng:Env:=T5.ext 10 true true (AF 0 1 S5 S4 S3 NR)
theorem LR:Ab Tryz.prog Ng:=Env.Ak RR AHi (fun _=>AO rfl rfl) (fun _=>AJ rfl rfl)
abbrev GD:Hints:={ loop:=fun n=>match n with|0=>Ae 0 210 Pr Pp Bi|1=>Ae 0 210 Pq Po Bh|_=>fun _ _ _=>none,fp:=fun n=>match n with|17=>[[],[],[],[],[2],[2],[0],[0],[],[],[]]|22=>[[],[],[],[],[2],[2],[0],[0],[],[],[]]|_=>[] }
theorem WT:∀ v,Bh v=roundOf Tryz.prog Ng GD 2 0 210 (AB Tryz.f5 1) Pq Po v:=by
 rintro⟨a0,a1,a2,a3,a4,a5,a6,a7,a8,a9,⟨⟩⟩
 kernel_rfl
theorem AF9:AD (AB Tryz.f5 1) 2=[]:=by kernel_rfl
theorem AGB:Ad Tryz.prog 0 (.loop (AB Tryz.f5 1)) (GD.loop 1):=AY LR (WT) (AA AF9 trivial)
theorem WU:∀ v,Bi v=roundOf Tryz.prog Ng GD 1 0 210 (AB Tryz.f5 0) Pr Pp v:=by
 rintro⟨a0,a1,a2,a3,a4,a5,a6,a7,a8,a9,⟨⟩⟩
 kernel_rfl
theorem AGA:AD (AB Tryz.f5 0) 1=[]:=by kernel_rfl
theorem AGC:Ad Tryz.prog 0 (.loop (AB Tryz.f5 0)) (GD.loop 0):=AY LR (WU) (AA AGA trivial)
theorem ACS:∀ v,IQ v=AQ 0 Tryz.prog Ng GD Tryz.f5 Lu Lt Ls v:=by
 rintro⟨a0,a1,⟨⟩⟩
 kernel_rfl
theorem AJl:AD (AT Tryz.f5) 0=[(0,AB Tryz.f5 0),(1,AB Tryz.f5 1)]:=by kernel_rfl
theorem YL:AR Tryz.prog 5 (AF 0 2 Lu Lt Ls G3):=AI LR Tryz.func5 (by kernel_rfl) (by kernel_rfl) rfl (fun v=>(Ps v).trans (ACS v)) (AA AJl ⟨AGC,AGB,trivial⟩)
end
end Go.Pev
end
section

end
