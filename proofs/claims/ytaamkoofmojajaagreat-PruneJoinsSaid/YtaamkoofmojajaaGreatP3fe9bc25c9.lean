/- A part of the proofs of this seat: G24lP8 G24lP9 G24lP10 G24lP. -/
import Derived.Test.YtaamkoofmojajaaGreatP1e0623b75f
set_option linter.unusedVariables false
set_option linter.unusedSimpArgs false
set_option linter.unusedSectionVars false
set_option maxRecDepth 100000
section
namespace Go.Pev
open Go.Proofs
noncomputable section
abbrev AOD:Hints:={ loop:=fun n=>match n with|0=>Aa 1 32 ARz ARy PT|_=>fun _ _ _=>none,fp:=fun n=>match n with|3=>[[],[],[],[],[],[],[0],[0],[],[],[0],[0],[0],[1],[0],[1]]|_=>[] }
theorem AN9:∀ v,PT v=roundOf Tryz.prog Qu AOD 1 1 32 (AB Tryz.f166 0) ARz ARy v:=by
 rintro⟨a0,a1,a2,⟨⟩⟩
 kernel_rfl
theorem Aau:AD (AB Tryz.f166 0) 1=[]:=by kernel_rfl
theorem Aav:AZ Tryz.prog 1 (.loop (AB Tryz.f166 0)) (AOD.loop 0):=AX MW (AN9) (AA Aau trivial)
theorem AXY:∀ v,AFJ v=AS Tryz.prog Qu AOD Tryz.f166 AOC AOB AOA v:=by
 rintro⟨a0,a1,a2,⟨⟩⟩
 kernel_rfl
theorem Ack:AD (AW Tryz.f166) 0=[(0,AB Tryz.f166 0)]:=by kernel_rfl
theorem ATy:AU Tryz.prog 166 (AG 3 AOC AOB AOA AT0):=AJ MW Tryz.func166 (by kernel_rfl) (by kernel_rfl) rfl (fun v=>(AR0 v).trans (AXY v)) (AA Ack ⟨Aav,trivial⟩)
def O5:Env:=Qu.ext 166 false true (AG 3 AOC AOB AOA AT0)
theorem HP:Ac Tryz.prog O5:=Env.Ae MW ATy ((by simp)) (fun _=>AL rfl rfl)
abbrev Cs:Hints:={ loop:=fun n=>match n with|0=>Aa 1 133 UI UD CP|1=>Aa 1 133 UH UC GR|2=>Aa 1 133 UG UB Eh|3=>Aa 1 133 UE UA Eg|_=>fun _ _ _=>none,fp:=fun n=>match n with|11=>[[],[],[],[],[],[],[],[],[0],[0],[],[],[0],[0],[0],[1],[0],[1]]|5=>[[],[],[],[],[],[],[0],[0],[],[],[],[0],[0],[],[],[]]|17=>[[],[],[],[],[],[],[],[],[0],[0],[],[],[0],[0],[0],[1],[0],[1]]|16=>[[],[],[0],[0],[],[],[],[0],[0],[],[]]|23=>[[],[],[],[],[],[],[],[],[0],[0],[],[],[0],[0],[0],[1],[0],[1]]|22=>[[],[],[0],[0],[],[],[],[0],[0],[],[]]|_=>[] }
theorem Yo:∀ v,Eg v=roundOf Tryz.prog O5 Cs 4 1 133 (AB Tryz.f167 3) UE UA v:=by
 rintro⟨a0,a1,a2,a3,a4,a5,⟨⟩⟩
 kernel_rfl
theorem AKP:AD (AB Tryz.f167 3) 4=[]:=by kernel_rfl
theorem AKT:AZ Tryz.prog 1 (.loop (AB Tryz.f167 3)) (Cs.loop 3):=AX HP (Yo) (AA AKP trivial)
theorem Yp:∀ v,Eh v=roundOf Tryz.prog O5 Cs 3 1 133 (AB Tryz.f167 2) UG UB v:=by
 rintro⟨a0,a1,a2,a3,a4,a5,⟨⟩⟩
 kernel_rfl
theorem AKQ:AD (AB Tryz.f167 2) 3=[]:=by kernel_rfl
theorem AKU:AZ Tryz.prog 1 (.loop (AB Tryz.f167 2)) (Cs.loop 2):=AX HP (Yp) (AA AKQ trivial)
theorem Yq:∀ v,GR v=roundOf Tryz.prog O5 Cs 2 1 133 (AB Tryz.f167 1) UH UC v:=by
 rintro⟨a0,a1,a2,a3,a4,⟨⟩⟩
 kernel_rfl
theorem AKR:AD (AB Tryz.f167 1) 2=[]:=by kernel_rfl
theorem AKV:AZ Tryz.prog 1 (.loop (AB Tryz.f167 1)) (Cs.loop 1):=AX HP (Yq) (AA AKR trivial)
theorem Yr:∀ v,CP v=roundOf Tryz.prog O5 Cs 1 1 133 (AB Tryz.f167 0) UI UD v:=by
 rintro⟨a0,a1,a2,a3,a4,⟨⟩⟩
 kernel_rfl
theorem AKS:AD (AB Tryz.f167 0) 1=[(1,AB Tryz.f167 1),(2,AB Tryz.f167 2),(3,AB Tryz.f167 3)]:=by kernel_rfl
theorem AKW:AZ Tryz.prog 1 (.loop (AB Tryz.f167 0)) (Cs.loop 0):=AX HP (Yr) (AA AKS ⟨AKV,AKU,AKT,trivial⟩)
theorem AF0:∀ v,Jv v=AS Tryz.prog O5 Cs Tryz.f167 OL OK OJ v:=by
 rintro⟨a0,a1,a2,⟨⟩⟩
 kernel_rfl
theorem AOw:AD (AW Tryz.f167) 0=[(0,AB Tryz.f167 0)]:=by kernel_rfl
theorem ABq:AU Tryz.prog 167 (AG 3 OL OK OJ JK):=AJ HP Tryz.func167 (by kernel_rfl) (by kernel_rfl) rfl (fun v=>(UJ v).trans (AF0 v)) (AA AOw ⟨AKW,trivial⟩)
def F6:Env:=O5.ext 167 false true (AG 3 OL OK OJ JK)
theorem D8:Ac Tryz.prog F6:=Env.Ae HP ABq ((by simp)) (fun _=>AL rfl rfl)
abbrev Fa:Hints:={ loop:=fun n=>match n with|0=>Aa 1 84 Y6 Y3 Hk|1=>Aa 1 84 Y5 Y2 Hj|2=>Aa 1 84 Y4 Y1 Hi|_=>fun _ _ _=>none,fp:=fun n=>match n with|8=>[[],[],[],[],[],[],[0],[0],[],[],[0],[0],[0],[1],[0],[1]]|3=>[[],[],[],[],[],[],[0],[0],[],[],[0],[0],[],[],[]]|5=>[[],[],[],[],[],[],[0],[0],[],[],[0],[0],[],[]]|1=>[[],[],[],[],[],[],[0],[0],[],[],[0],[0],[0],[1],[0],[1]]|_=>[] }
theorem AB0:∀ v,Hi v=roundOf Tryz.prog F6 Fa 3 1 84 (AB Tryz.f169 2) Y4 Y1 v:=by
 rintro⟨a0,a1,a2,a3,⟨⟩⟩
 kernel_rfl
theorem AO7:AD (AB Tryz.f169 2) 3=[]:=by kernel_rfl
theorem APA:AZ Tryz.prog 1 (.loop (AB Tryz.f169 2)) (Fa.loop 2):=AX D8 (AB0) (AA AO7 trivial)
theorem AB2:∀ v,Hj v=roundOf Tryz.prog F6 Fa 2 1 84 (AB Tryz.f169 1) Y5 Y2 v:=by
 rintro⟨a0,a1,a2,a3,⟨⟩⟩
 kernel_rfl
theorem AO8:AD (AB Tryz.f169 1) 2=[]:=by kernel_rfl
theorem APB:AZ Tryz.prog 1 (.loop (AB Tryz.f169 1)) (Fa.loop 1):=AX D8 (AB2) (AA AO8 trivial)
theorem AB4:∀ v,Hk v=roundOf Tryz.prog F6 Fa 1 1 84 (AB Tryz.f169 0) Y6 Y3 v:=by
 rintro⟨a0,a1,a2,a3,⟨⟩⟩
 kernel_rfl
theorem AO9:AD (AB Tryz.f169 0) 1=[(1,AB Tryz.f169 1),(2,AB Tryz.f169 2)]:=by kernel_rfl
theorem APC:AZ Tryz.prog 1 (.loop (AB Tryz.f169 0)) (Fa.loop 0):=AX D8 (AB4) (AA AO9 ⟨APB,APA,trivial⟩)
theorem AKy:∀ v,Mm v=AS Tryz.prog F6 Fa Tryz.f169 R2 R1 R0 v:=by
 rintro⟨a0,a1,a2,a3,⟨⟩⟩
 kernel_rfl
theorem AUU:AD (AW Tryz.f169) 0=[(0,AB Tryz.f169 0)]:=by kernel_rfl
theorem AF7:AU Tryz.prog 169 (AG 4 R2 R1 R0 Mn):=AJ D8 Tryz.func169 (by kernel_rfl) (by kernel_rfl) rfl (fun v=>(Y7 v).trans (AKy v)) (AA AUU ⟨APC,trivial⟩)
def Eo:Env:=F6.ext 169 false true (AG 4 R2 R1 R0 Mn)
theorem C1:Ac Tryz.prog Eo:=Env.Ae D8 AF7 ((by simp)) (fun _=>AL rfl rfl)
abbrev Ez:Hints:={ loop:=fun n=>match n with|0=>Aa 1 168 AKq AKl Lg|1=>Aa 1 168 AKp AKk Lf|2=>Aa 1 168 AKo AKj Le|3=>Aa 1 168 AKn AKi Ld|4=>Aa 1 168 AKm AKh Lc|_=>fun _ _ _=>none,fp:=fun n=>match n with|3=>[[],[],[],[],[],[],[0],[0],[],[],[0],[0],[],[]]|5=>[[],[],[],[],[],[],[0],[0],[],[],[0],[0],[],[],[]]|18=>[[],[],[],[],[],[],[0],[0],[],[],[0],[0],[0],[1],[0],[1]]|13=>[[],[],[],[],[],[],[0],[0],[],[],[0],[0],[],[]]|15=>[[],[],[],[],[],[],[0],[0],[],[],[0],[0],[],[],[]]|21=>[[],[],[],[],[],[],[0],[0],[],[],[0],[0],[0],[1],[0],[1]]|10=>[[],[],[],[],[],[],[0],[0],[],[],[0],[0],[0],[1],[0],[1]]|8=>[[],[],[],[],[],[],[0],[0],[],[],[0],[0],[0],[1],[0],[1]]|1=>[[],[],[],[],[],[],[0],[0],[],[],[0],[0],[0],[1],[0],[1]]|_=>[] }
theorem AKY:∀ v,Lc v=roundOf Tryz.prog Eo Ez 5 1 168 (AB Tryz.f170 4) AKm AKh v:=by
 rintro⟨a0,a1,a2,a3,⟨⟩⟩
 kernel_rfl
theorem AYU:AD (AB Tryz.f170 4) 5=[]:=by kernel_rfl
theorem AYZ:AZ Tryz.prog 1 (.loop (AB Tryz.f170 4)) (Ez.loop 4):=AX C1 (AKY) (AA AYU trivial)
theorem AKa:∀ v,Ld v=roundOf Tryz.prog Eo Ez 4 1 168 (AB Tryz.f170 3) AKn AKi v:=by
 rintro⟨a0,a1,a2,a3,⟨⟩⟩
 kernel_rfl
theorem AYV:AD (AB Tryz.f170 3) 4=[]:=by kernel_rfl
theorem AYa:AZ Tryz.prog 1 (.loop (AB Tryz.f170 3)) (Ez.loop 3):=AX C1 (AKa) (AA AYV trivial)
theorem AKc:∀ v,Le v=roundOf Tryz.prog Eo Ez 3 1 168 (AB Tryz.f170 2) AKo AKj v:=by
 rintro⟨a0,a1,a2,a3,⟨⟩⟩
 kernel_rfl
theorem AYW:AD (AB Tryz.f170 2) 3=[(3,AB Tryz.f170 3),(4,AB Tryz.f170 4)]:=by kernel_rfl
theorem AYb:AZ Tryz.prog 1 (.loop (AB Tryz.f170 2)) (Ez.loop 2):=AX C1 (AKc) (AA AYW ⟨AYa,AYZ,trivial⟩)
theorem AKd:∀ v,Lf v=roundOf Tryz.prog Eo Ez 2 1 168 (AB Tryz.f170 1) AKp AKk v:=by
 rintro⟨a0,a1,a2,a3,⟨⟩⟩
 kernel_rfl
theorem AYX:AD (AB Tryz.f170 1) 2=[]:=by kernel_rfl
theorem AYc:AZ Tryz.prog 1 (.loop (AB Tryz.f170 1)) (Ez.loop 1):=AX C1 (AKd) (AA AYX trivial)
theorem AKf:∀ v,Lg v=roundOf Tryz.prog Eo Ez 1 1 168 (AB Tryz.f170 0) AKq AKl v:=by
 rintro⟨a0,a1,a2,a3,⟨⟩⟩
 kernel_rfl
theorem AYY:AD (AB Tryz.f170 0) 1=[]:=by kernel_rfl
theorem AYd:AZ Tryz.prog 1 (.loop (AB Tryz.f170 0)) (Ez.loop 0):=AX C1 (AKf) (AA AYY trivial)
theorem AUR:∀ v,Wf v=AS Tryz.prog Eo Ez Tryz.f170 AF4 AF3 AF2 v:=by
 rintro⟨a0,a1,a2,a3,⟨⟩⟩
 kernel_rfl
theorem AbG:AD (AW Tryz.f170) 0=[(0,AB Tryz.f170 0),(1,AB Tryz.f170 1),(2,AB Tryz.f170 2)]:=by kernel_rfl
theorem AOx:AU Tryz.prog 170 (AG 4 AF4 AF3 AF2 Ph):=AJ C1 Tryz.func170 (by kernel_rfl) (by kernel_rfl) rfl (fun v=>(AKr v).trans (AUR v)) (AA AbG ⟨AYd,AYc,AYb,trivial⟩)
def AIM:Env:=Eo.ext 170 false true (AG 4 AF4 AF3 AF2 Ph)
theorem ABG:Ac Tryz.prog AIM:=Env.Ae C1 AOx ((by simp)) (fun _=>AL rfl rfl)
abbrev AOq(self:(List Int×Int×Int×Int×Unit)→Option ((List Int×Unit))):Hints:={ loop:=fun n=>match n with|0=>Aa 1 134 ASB ASA (Ml self)|_=>fun _ _ _=>none,fp:=fun n=>match n with|17=>[[],[],[],[],[],[],[0],[0],[],[],[0],[0],[],[],[]]|_=>[] }
abbrev AFq(self:(List Int×Int×Int×Int×Unit)→Option ((List Int×Unit))):Env:=AIM.ext 131 false true (AG 4 Yg Yf Ye self)
theorem AOp(self:(List Int×Int×Int×Int×Unit)→Option ((List Int×Unit))):∀ v,Ml self v=roundOf Tryz.prog (AFq self) (AOq self) 1 1 134 (AB Tryz.f131 0) ASB ASA v:=by
 rintro⟨a0,a1,a2,a3,a4,a5,⟨⟩⟩
 kernel_rfl
theorem Aa9:AD (AB Tryz.f131 0) 1=[]:=by kernel_rfl
theorem AbA(self:(List Int×Int×Int×Int×Unit)→Option ((List Int×Unit)))(hE:Ac Tryz.prog (AFq self)):AZ Tryz.prog 1 (.loop (AB Tryz.f131 0)) ((AOq self).loop 0):=AX hE (AOp self) (AA Aa9 trivial)
theorem AX3(self:(List Int×Int×Int×Int×Unit)→Option ((List Int×Unit))):∀ v,AFp self v=AS Tryz.prog (AFq self) (AOq self) Tryz.f131 Yg Yf Ye v:=by
 rintro⟨a0,a1,a2,a3,⟨⟩⟩
 kernel_rfl
theorem Acq:AD (AW Tryz.f131) 0=[(0,AB Tryz.f131 0)]:=by kernel_rfl
theorem AOr:∀ n,AU Tryz.prog 131 (AG 4 Yg Yf Ye (Hh n)):=by
 intro n
 induction n with
 |zero=>exact UN fun _=>rfl
 |succ n ih=>
  have hE:Ac Tryz.prog (AFq (Hh n)):=Env.Ae ABG ih ((by simp)) (fun _=>AL rfl rfl)
  let self:=Hh n
  exact AJ hE Tryz.func131 (by kernel_rfl) (by kernel_rfl) rfl (AX3 self) (AA Acq ⟨(AbA self hE),trivial⟩)
theorem AUH:AU Tryz.prog 131 (AG 4 Yg Yf Ye AUI):=by
 have e:AUI=Hh 100:=funext ASC
 rw[e]
 exact AOr _
def ARc:Env:=AIM.ext 131 false true (AG 4 Yg Yf Ye AUI)
theorem AD7:Ac Tryz.prog ARc:=Env.Ae ABG AUH ((by simp)) (fun _=>AL rfl rfl)
abbrev Aai:Hints:={  }
theorem ATg:∀ v,WV v=AS Tryz.prog ARc Aai Tryz.f95 AEy AEx AEw v:=by
 rintro⟨a0,⟨⟩⟩
 kernel_rfl
theorem Aah:AD (AW Tryz.f95) 0=[]:=by kernel_rfl
theorem ANe:AU Tryz.prog 95 (AG 1 AEy AEx AEw AI7):=AJ AD7 Tryz.func95 (by kernel_rfl) (by kernel_rfl) rfl (fun v=>(AI6 v).trans (ATg v)) (AA Aah trivial)
def Wx:Env:=ARc.ext 95 false true (AG 1 AEy AEx AEw AI7)
theorem O3:Ac Tryz.prog Wx:=Env.Ae AD7 ANe ((by simp)) (fun _=>AL rfl rfl)
abbrev Ln:Hints:={ loop:=fun n=>match n with|0=>Aa 0 36 Pt Ps Ct|_=>fun _ _ _=>none,fp:=fun n=>match n with|6=>[[],[],[2],[2],[],[],[2],[2],[]]|1=>[[0],[0],[0],[],[],[2],[]]|_=>[] }
theorem Vq:∀ v,Ct v=roundOf Tryz.prog Wx Ln 1 0 36 (AB Tryz.f91 0) Pt Ps v:=by
 rintro⟨a0,a1,a2,a3,a4,a5,⟨⟩⟩
 kernel_rfl
theorem AGL:AD (AB Tryz.f91 0) 1=[]:=by kernel_rfl
theorem AGM:AZ Tryz.prog 0 (.loop (AB Tryz.f91 0)) (Ln.loop 0):=AX O3 (Vq) (AA AGL trivial)
theorem AB9:∀ v,IW v=AS Tryz.prog Wx Ln Tryz.f91 Lm Ll Lj v:=by
 rintro⟨a0,a1,a2,⟨⟩⟩
 kernel_rfl
theorem AK8:AD (AW Tryz.f91) 0=[(0,AB Tryz.f91 0)]:=by kernel_rfl
theorem ZF:AU Tryz.prog 91 (AG 3 Lm Ll Lj Fc):=AJ O3 Tryz.func91 (by kernel_rfl) (by kernel_rfl) rfl (fun v=>(Pu v).trans (AB9 v)) (AA AK8 ⟨AGM,trivial⟩)
def Dc:Env:=Wx.ext 91 true true (AG 3 Lm Ll Lj Fc)
theorem Ck:Ac Tryz.prog Dc:=Env.Ae O3 ZF (fun _=>AP rfl rfl) (fun _=>AL rfl rfl)
abbrev Dh:Hints:={ loop:=fun n=>match n with|0=>Aa 0 105 Xd XZ EH|1=>Aa 0 105 Xc XY EG|2=>Aa 0 105 Xb XX DL|3=>Aa 0 105 Xa XW DK|_=>fun _ _ _=>none,fp:=fun n=>match n with|8=>[[],[],[2],[2],[],[],[4],[4],[]]|14=>[[0],[0],[0],[],[],[10],[]]|19=>[[4],[4],[],[],[4],[4],[],[],[],[],[],[4],[4],[2],[2],[],[4],[4],[2],[2],[],[]]|4=>[[0],[0],[0],[],[26],[]]|3=>[[0],[0],[0],[],[10],[]]|_=>[] }
theorem ABW:∀ v,DK v=roundOf Tryz.prog Dc Dh 4 0 105 (AB Tryz.f34 3) Xa XW v:=by
 rintro⟨a0,a1,a2,a3,a4,⟨⟩⟩
 kernel_rfl
theorem ANV:AD (AB Tryz.f34 3) 4=[]:=by kernel_rfl
theorem ANZ:AZ Tryz.prog 0 (.loop (AB Tryz.f34 3)) (Dh.loop 3):=AX Ck (ABW) (AA ANV trivial)
theorem ABX:∀ v,DL v=roundOf Tryz.prog Dc Dh 3 0 105 (AB Tryz.f34 2) Xb XX v:=by
 rintro⟨a0,a1,a2,a3,a4,a5,⟨⟩⟩
 kernel_rfl
theorem ANW:AD (AB Tryz.f34 2) 3=[]:=by kernel_rfl
theorem ANa:AZ Tryz.prog 0 (.loop (AB Tryz.f34 2)) (Dh.loop 2):=AX Ck (ABX) (AA ANW trivial)
theorem ABY:∀ v,EG v=roundOf Tryz.prog Dc Dh 2 0 105 (AB Tryz.f34 1) Xc XY v:=by
 rintro⟨a0,a1,a2,a3,⟨⟩⟩
 kernel_rfl
theorem ANX:AD (AB Tryz.f34 1) 2=[(2,AB Tryz.f34 2),(3,AB Tryz.f34 3)]:=by kernel_rfl
theorem ANb:AZ Tryz.prog 0 (.loop (AB Tryz.f34 1)) (Dh.loop 1):=AX Ck (ABY) (AA ANX ⟨ANa,ANZ,trivial⟩)
theorem ABZ:∀ v,EH v=roundOf Tryz.prog Dc Dh 1 0 105 (AB Tryz.f34 0) Xd XZ v:=by
 rintro⟨a0,a1,a2,a3,a4,⟨⟩⟩
 kernel_rfl
theorem ANY:AD (AB Tryz.f34 0) 1=[]:=by kernel_rfl
theorem ANc:AZ Tryz.prog 0 (.loop (AB Tryz.f34 0)) (Dh.loop 0):=AX Ck (ABZ) (AA ANY trivial)
theorem AI1:∀ v,JF v=AS Tryz.prog Dc Dh Tryz.f34 RZ RY RX v:=by
 rintro⟨a0,⟨⟩⟩
 kernel_rfl
theorem ATc:AD (AW Tryz.f34) 0=[(0,AB Tryz.f34 0),(1,AB Tryz.f34 1)]:=by kernel_rfl
theorem AEs:AU Tryz.prog 34 (AG 1 RZ RY RX Et):=AJ Ck Tryz.func34 (by kernel_rfl) (by kernel_rfl) rfl (fun v=>(N8 v).trans (AI1 v)) (AA ATc ⟨ANc,ANb,trivial⟩)
def NS:Env:=Dc.ext 34 true true (AG 1 RZ RY RX Et)
theorem Ke:Ac Tryz.prog NS:=Env.Ae Ck AEs (fun _=>AP rfl rfl) (fun _=>AL rfl rfl)
abbrev ART:Hints:={ loop:=fun n=>match n with|0=>Aa 0 49 ASz ASy KX|_=>fun _ _ _=>none,fp:=fun n=>match n with|5=>[[],[],[],[],[],[0],[],[]]|8=>[[],[],[],[],[],[],[],[],[],[],[0],[],[],[],[],[]]|_=>[] }
theorem ARP:∀ v,KX v=roundOf Tryz.prog NS ART 1 0 49 (AB Tryz.f132 0) ASz ASy v:=by
 rintro⟨a0,a1,a2,a3,a4,a5,a6,a7,⟨⟩⟩
 kernel_rfl
theorem AcI:AD (AB Tryz.f132 0) 1=[]:=by kernel_rfl
theorem AcJ:AZ Tryz.prog 0 (.loop (AB Tryz.f132 0)) (ART.loop 0):=AX Ke (ARP) (AA AcI trivial)
theorem AaC:∀ v,AHw v=AS Tryz.prog NS ART Tryz.f132 ARS ARR ARQ v:=by
 rintro⟨a0,a1,⟨⟩⟩
 kernel_rfl
theorem AdO:AD (AW Tryz.f132) 0=[(0,AB Tryz.f132 0)]:=by kernel_rfl
theorem AWR:AU Tryz.prog 132 (AG 3 ARS ARR ARQ AWS):=AJ Ke Tryz.func132 (by kernel_rfl) (by kernel_rfl) rfl (fun v=>(AS0 v).trans (AaC v)) (AA AdO ⟨AcJ,trivial⟩)
def ARi:Env:=NS.E8 132 2 98 (AG 3 ARS ARR ARQ AWS)
theorem AEC:Ac Tryz.prog ARi:=Env.Bc Ke AWR (AL rfl rfl)
abbrev AY2:Hints:={  }
theorem APr:∀ v,Pw v=AS Tryz.prog ARi AY2 Tryz.f99 ZY ZX ZW v:=by
 rintro⟨a0,a1,a2,⟨⟩⟩
 kernel_rfl
theorem AY1:AD (AW Tryz.f99) 0=[]:=by kernel_rfl
theorem ALJ:AU Tryz.prog 99 (AG 3 ZY ZX ZW AGX):=AJ AEC Tryz.func99 (by kernel_rfl) (by kernel_rfl) rfl (fun v=>(ADU v).trans (APr v)) (AA AY1 trivial)
def ABI:Env:=ARi.ext 99 true true (AG 3 ZY ZX ZW AGX)
theorem VO:Ac Tryz.prog ABI:=Env.Ae AEC ALJ (fun _=>AP rfl rfl) (fun _=>AL rfl rfl)
abbrev AbV:Hints:={  }
theorem AU8:∀ v,Wl v=AS Tryz.prog ABI AbV Tryz.f51 AGe AGd AGc v:=by
 rintro⟨a0,a1,a2,⟨⟩⟩
 kernel_rfl
theorem AbU:AD (AW Tryz.f51) 0=[]:=by kernel_rfl
theorem APx:AU Tryz.prog 51 (AG 3 AGe AGd AGc ALO):=AJ VO Tryz.func51 (by kernel_rfl) (by kernel_rfl) rfl (fun v=>(ALN v).trans (AU8 v)) (AA AbU trivial)
def ATB:Env:=ABI.ext 51 true true (AG 3 AGe AGd AGc ALO)
theorem ARh:Ac Tryz.prog ATB:=Env.Ae VO APx (fun _=>AP rfl rfl) (fun _=>AL rfl rfl)
theorem AZ5 : (Tryz.f144.name == "runtime.NumGoroutine") = false := by kernel_rfl
theorem AHc:ABS Tryz.prog Tryz.f144 55 3 (.int .i64) where
 body:=by kernel_rfl
 nt:=by kernel_rfl
 res:=by kernel_rfl
 d:=⟨by kernel_rfl,by kernel_rfl,by kernel_rfl,by kernel_rfl,by kernel_rfl,by kernel_rfl,by kernel_rfl,by kernel_rfl⟩
 g:=⟨by kernel_rfl,by kernel_rfl,by kernel_rfl,by kernel_rfl,by kernel_rfl,by kernel_rfl,by kernel_rfl,by kernel_rfl⟩
 o00:=by kernel_rfl
 o10:=by kernel_rfl
 o11:=by kernel_rfl
 o20:=by kernel_rfl
 o30:=by kernel_rfl
 o31:=by kernel_rfl
 o32:=by kernel_rfl
 o33:=by kernel_rfl
 sl:=by kernel_rfl
 z:=by kernel_rfl
 by1:=by kernel_rfl
def ABO:Env:=ATB.ext 144 true true (HK 3 (.int .i64))
theorem VS:Ac Tryz.prog ABO:=Env.Ae ARh (AZ4 AHc Tryz.func144 AZ5) (fun _=>K6 _ _) (fun _=>(K6 _ _).Adi)
end
end Go.Pev
end
section
namespace Go.Pev
open Go.Proofs
noncomputable section
theorem APc:Tryz.f145.body.isSome=true:=by kernel_rfl
theorem APb : (Tryz.f145.name == "runtime.NumGoroutine") = false := by kernel_rfl
theorem APa:loops (AW Tryz.f145)=0:=by kernel_rfl
def HB:Env:=ABO.ext 145 false false (C3 Tryz.prog ABO {} Tryz.f145)
theorem Gt:Ac Tryz.prog HB:=Env.Ae VS (Cm VS Tryz.func145 APc APb APa) (by simp) (by simp)
abbrev Hy:Hints:={ loop:=fun n=>match n with|0=>Aa 2 19 Kx Kw Bk|_=>fun _ _ _=>none }
theorem Oe:∀ v,Bk v=roundOf Tryz.prog HB Hy 1 2 19 (AB Tryz.f174 0) Kx Kw v:=by
 rintro⟨a0,a1,a2,a3,a4,⟨⟩⟩
 kernel_rfl
theorem Vu:AD (AB Tryz.f174 0) 1=[]:=by kernel_rfl
theorem Vv:AZ Tryz.prog 2 (.loop (AB Tryz.f174 0)) (Hy.loop 0):=AX Gt (Oe) (AA Vu trivial)
theorem Sm:∀ v,E7 v=AS Tryz.prog HB Hy Tryz.f174 Hx Hw Hv v:=by
 rintro⟨a0,a1,a2,⟨⟩⟩
 kernel_rfl
theorem Zu:AD (AW Tryz.f174) 0=[(0,AB Tryz.f174 0)]:=by kernel_rfl
theorem QH:AU Tryz.prog 174 (AG 2 Hx Hw Hv G4):=AJ Gt Tryz.func174 (by kernel_rfl) (by kernel_rfl) rfl (fun v=>(Ky v).trans (Sm v)) (AA Zu ⟨Vv,trivial⟩)
def FL:Env:=HB.E8 174 1 145 (AG 2 Hx Hw Hv G4)
theorem FK:Ac Tryz.prog FL:=Env.Bc Gt QH (AL rfl rfl)
abbrev H9:Hints:={ loop:=fun n=>match n with|0=>Aa 2 42 K4 K0 CM|_=>fun _ _ _=>none }
theorem Ou:∀ v,CM v=roundOf Tryz.prog FL H9 1 2 42 (AB Tryz.f143 0) K4 K0 v:=by
 rintro⟨a0,a1,a2,a3,a4,⟨⟩⟩
 kernel_rfl
theorem Vy:AD (AB Tryz.f143 0) 1=[]:=by kernel_rfl
theorem Vz:AZ Tryz.prog 2 (.loop (AB Tryz.f143 0)) (H9.loop 0):=AX FK (Ou) (AA Vy trivial)
theorem S3:∀ v,FD v=AS Tryz.prog FL H9 Tryz.f143 H8 H7 H6 v:=by
 rintro⟨a0,a1,a2,⟨⟩⟩
 kernel_rfl
theorem AAI:AD (AW Tryz.f143) 0=[(0,AB Tryz.f143 0)]:=by kernel_rfl
theorem QU:AU Tryz.prog 143 (AG 2 H8 H7 H6 FE):=AJ FK Tryz.func143 (by kernel_rfl) (by kernel_rfl) rfl (fun v=>(K5 v).trans (S3 v)) (AA AAI ⟨Vz,trivial⟩)
def IK:Env:=FL.E8 143 1 145 (JE (AG 2 H8 H7 H6 FE))
theorem Iw:Ac Tryz.prog IK:=Env.Bc FK (Tm QU) (ARp rfl rfl)
abbrev AQe:Hints:={ fp:=fun n=>match n with|4=>[[0],[0],[0],[],[],[],[],[],[],[1000005,21,1],[]]|_=>[] }
theorem AHI:∀ v,KK v=AS Tryz.prog IK AQe Tryz.f112 Ol Oj Oi v:=by
 rintro⟨a0,a1,⟨⟩⟩
 kernel_rfl
theorem AQd:AD (AW Tryz.f112) 0=[]:=by kernel_rfl
theorem ACI:AU Tryz.prog 112 (AG 2 Ol Oj Oi Hz):=AJ Iw Tryz.func112 (by kernel_rfl) (by kernel_rfl) rfl (fun v=>(UU v).trans (AHI v)) (AA AQd trivial)
def O9:Env:=IK.ext 112 true true (AG 2 Ol Oj Oi Hz)
theorem Nv:Ac Tryz.prog O9:=Env.Ae Iw ACI (fun _=>AP rfl rfl) (fun _=>AL rfl rfl)
abbrev Abw:Hints:={  }
theorem AVg:∀ v,Wq v=AS Tryz.prog O9 Abw Tryz.f140 AG9 AG8 AG7 v:=by
 rintro⟨a0,⟨⟩⟩
 kernel_rfl
theorem Abv:AD (AW Tryz.f140) 0=[]:=by kernel_rfl
theorem AQT:AU Tryz.prog 140 (AG 2 AG9 AG8 AG7 ALu):=AJ Nv Tryz.func140 (by kernel_rfl) (by kernel_rfl) rfl (fun v=>(ALt v).trans (AVg v)) (AA Abv trivial)
def Q5:Env:=O9.ext 140 false true (AG 2 AG9 AG8 AG7 ALu)
theorem Kl:Ac Tryz.prog Q5:=Env.Ae Nv AQT ((by simp)) (fun _=>AL rfl rfl)
abbrev Jb:Hints:={ loop:=fun n=>match n with|0=>Aa 0 36 AAS AAQ ET|1=>Aa 0 36 AAR AAP ES|_=>fun _ _ _=>none }
theorem ACR:∀ v,ES v=roundOf Tryz.prog Q5 Jb 2 0 36 (AB Tryz.f108 1) AAR AAP v:=by
 rintro⟨a0,a1,a2,a3,⟨⟩⟩
 kernel_rfl
theorem AQ0:AD (AB Tryz.f108 1) 2=[]:=by kernel_rfl
theorem AQ2:AZ Tryz.prog 0 (.loop (AB Tryz.f108 1)) (Jb.loop 1):=AX Kl (ACR) (AA AQ0 trivial)
theorem ACS:∀ v,ET v=roundOf Tryz.prog Q5 Jb 1 0 36 (AB Tryz.f108 0) AAS AAQ v:=by
 rintro⟨a0,a1,a2,a3,a4,⟨⟩⟩
 kernel_rfl
theorem AQ1:AD (AB Tryz.f108 0) 1=[]:=by kernel_rfl
theorem AQ3:AZ Tryz.prog 0 (.loop (AB Tryz.f108 0)) (Jb.loop 0):=AX Kl (ACS) (AA AQ1 trivial)
theorem AMS:∀ v,NF v=AS Tryz.prog Q5 Jb Tryz.f108 S9 S8 S7 v:=by
 rintro⟨a0,⟨⟩⟩
 kernel_rfl
theorem AV7:AD (AW Tryz.f108) 0=[(0,AB Tryz.f108 0),(1,AB Tryz.f108 1)]:=by kernel_rfl
theorem AHX:AU Tryz.prog 108 (AG 1 S9 S8 S7 NG):=AJ Kl Tryz.func108 (by kernel_rfl) (by kernel_rfl) rfl (fun v=>(AAT v).trans (AMS v)) (AA AV7 ⟨AQ3,AQ2,trivial⟩)
def Te:Env:=Q5.ext 108 true true (AG 1 S9 S8 S7 NG)
theorem Q9:Ac Tryz.prog Te:=Env.Ae Kl AHX (fun _=>AP rfl rfl) (fun _=>AL rfl rfl)
theorem Ab1:Tryz.f116.body.isSome=true:=by kernel_rfl
theorem Ab0 : (Tryz.f116.name == "runtime.NumGoroutine") = false := by kernel_rfl
theorem Abz:loops (AW Tryz.f116)=0:=by kernel_rfl
def NV:Env:=Te.ext 116 false false (C3 Tryz.prog Te {} Tryz.f116)
theorem Kp:Ac Tryz.prog NV:=Env.Ae Q9 (Cm Q9 Tryz.func116 Ab1 Ab0 Abz) (by simp) (by simp)
abbrev KF:Hints:={ loop:=fun n=>match n with|0=>Aa 3 19 No Nn I5|_=>fun _ _ _=>none }
theorem Sn:∀ v,I5 v=roundOf Tryz.prog NV KF 1 3 19 (AB Tryz.f147 0) No Nn v:=by
 rintro⟨a0,a1,a2,a3,⟨⟩⟩
 kernel_rfl
theorem ACE:AD (AB Tryz.f147 0) 1=[]:=by kernel_rfl
theorem ACF:AZ Tryz.prog 3 (.loop (AB Tryz.f147 0)) (KF.loop 0):=AX Kp (Sn) (AA ACE trivial)
theorem Zv:∀ v,KG v=AS Tryz.prog NV KF Tryz.f147 KE KD KC v:=by
 rintro⟨a0,a1,⟨⟩⟩
 kernel_rfl
theorem AGx:AD (AW Tryz.f147) 0=[(0,AB Tryz.f147 0)]:=by kernel_rfl
theorem Vw:AU Tryz.prog 147 (AG 2 KE KD KC KH):=AJ Kp Tryz.func147 (by kernel_rfl) (by kernel_rfl) rfl (fun v=>(ACG v).trans (Zv v)) (AA AGx ⟨ACF,trivial⟩)
def HC:Env:=NV.E8 147 1 116 (AG 2 KE KD KC KH)
theorem Gu:Ac Tryz.prog HC:=Env.Bc Kp Vw (AL rfl rfl)
abbrev KT:Hints:={ loop:=fun n=>match n with|0=>Aa 3 42 Ns Nr I8|_=>fun _ _ _=>none }
theorem S4:∀ v,I8 v=roundOf Tryz.prog HC KT 1 3 42 (AB Tryz.f115 0) Ns Nr v:=by
 rintro⟨a0,a1,a2,a3,⟨⟩⟩
 kernel_rfl
theorem ACL:AD (AB Tryz.f115 0) 1=[]:=by kernel_rfl
theorem ACN:AZ Tryz.prog 3 (.loop (AB Tryz.f115 0)) (KT.loop 0):=AX Gu (S4) (AA ACL trivial)
theorem AAJ:∀ v,KU v=AS Tryz.prog HC KT Tryz.f115 KS KR KQ v:=by
 rintro⟨a0,a1,⟨⟩⟩
 kernel_rfl
theorem AHU:AD (AW Tryz.f115) 0=[(0,AB Tryz.f115 0)]:=by kernel_rfl
theorem WA:AU Tryz.prog 115 (AG 2 KS KR KQ KV):=AJ Gu Tryz.func115 (by kernel_rfl) (by kernel_rfl) rfl (fun v=>(ACO v).trans (AAJ v)) (AA AHU ⟨ACN,trivial⟩)
def HD:Env:=HC.E8 115 1 116 (JE (AG 2 KS KR KQ KV))
theorem Gv:Ac Tryz.prog HD:=Env.Bc Gu (Tm WA) (ARp rfl rfl)
abbrev AFe:Hints:={ loop:=fun n=>match n with|0=>Aa 0 51 AJo AJn YU|_=>fun _ _ _=>none,fp:=fun n=>match n with|10=>[[2],[6],[4],[],[5],[],[5]]|_=>[] }
theorem AJm:∀ v,YU v=roundOf Tryz.prog HD AFe 1 0 51 (AB Tryz.f64 0) AJo AJn v:=by
 rintro⟨a0,a1,a2,a3,a4,a5,⟨⟩⟩
 kernel_rfl
theorem AXt:AD (AB Tryz.f64 0) 1=[]:=by kernel_rfl
theorem AXu:AZ Tryz.prog 0 (.loop (AB Tryz.f64 0)) (AFe.loop 0):=AX Gv (AJm) (AA AXt trivial)
theorem AUD:∀ v,AFf v=AS Tryz.prog HD AFe Tryz.f64 AFd AFc AFb v:=by
 rintro⟨a0,a1,⟨⟩⟩
 kernel_rfl
theorem Aa3:AD (AW Tryz.f64) 0=[(0,AB Tryz.f64 0)]:=by kernel_rfl
theorem AOh:AU Tryz.prog 64 (AG 2 AFd AFc AFb AJp):=AJ Gv Tryz.func64 (by kernel_rfl) (by kernel_rfl) rfl (fun v=>(AXv v).trans (AUD v)) (AA Aa3 ⟨AXu,trivial⟩)
def AIJ:Env:=HD.ext 64 true true (AG 2 AFd AFc AFb AJp)
theorem ABB:Ac Tryz.prog AIJ:=Env.Ae Gv AOh (fun _=>AP rfl rfl) (fun _=>AL rfl rfl)
abbrev AXx:Hints:={  }
theorem AOi:∀ v,LV v=AS Tryz.prog AIJ AXx Tryz.f107 YY YX YW v:=by
 rintro⟨a0,a1,a2,⟨⟩⟩
 kernel_rfl
theorem AXw:AD (AW Tryz.f107) 0=[]:=by kernel_rfl
theorem AJq:AU Tryz.prog 107 (AG 3 YY YX YW OE):=AJ ABB Tryz.func107 (by kernel_rfl) (by kernel_rfl) rfl (fun v=>(Rs v).trans (AOi v)) (AA AXw trivial)
def ABC:Env:=AIJ.ext 107 true true (AG 3 YY YX YW OE)
theorem VM:Ac Tryz.prog ABC:=Env.Ae ABB AJq (fun _=>AP rfl rfl) (fun _=>AL rfl rfl)
abbrev Aa0:Hints:={ fp:=fun n=>match n with|9=>[[],[20],[],[28],[],[],[20],[20],[],[28],[28],[],[],[60],[],[]]|_=>[] }
theorem AT6:∀ v,PW v=AS Tryz.prog ABC Aa0 Tryz.f62 AFU AFT AFS v:=by
 rintro⟨a0,a1,a2,a3,⟨⟩⟩
 kernel_rfl
theorem Aaz:AD (AW Tryz.f62) 0=[]:=by kernel_rfl
theorem AOO:AU Tryz.prog 62 (AG 4 AFU AFT AFS Tr):=AJ VM Tryz.func62 (by kernel_rfl) (by kernel_rfl) rfl (fun v=>(YA v).trans (AT6 v)) (AA Aaz trivial)
def AIH:Env:=ABC.ext 62 true true (AG 4 AFU AFT AFS Tr)
theorem AA9:Ac Tryz.prog AIH:=Env.Ae VM AOO (fun _=>AP rfl rfl) (fun _=>AL rfl rfl)
end
end Go.Pev
end
section
namespace Go.Pev
open Go.Proofs
noncomputable section
theorem AXl:Tryz.f142.body.isSome=true:=by kernel_rfl
theorem AXk : (Tryz.f142.name == "runtime.NumGoroutine") = false := by kernel_rfl
theorem AXj:loops (AW Tryz.f142)=0:=by kernel_rfl
theorem Ac0:Tryz.f141.body.isSome=true:=by kernel_rfl
theorem Acz : (Tryz.f141.name == "runtime.NumGoroutine") = false := by kernel_rfl
theorem Acy:loops (AW Tryz.f141)=0:=by kernel_rfl
def O6:Env:=AIH.ext 142 false false (C3 Tryz.prog AIH { fp:=fun n=>match n with|0=>[[],[],[0],[0],[0],[],[2],[2],[2],[],[],[2],[2],[3]]|_=>[] } Tryz.f142)
theorem Nu:Ac Tryz.prog O6:=Env.Ae AA9 (Cm AA9 Tryz.func142 AXl AXk AXj) (by simp) (by simp)
def Jg:Env:=O6.ext 141 false false (C3 Tryz.prog O6 {} Tryz.f141)
theorem Ge:Ac Tryz.prog Jg:=Env.Ae Nu (Cm Nu Tryz.func141 Ac0 Acz Acy) (by simp) (by simp)
abbrev Yh:Hints:={ loop:=fun n=>match n with|0=>Aa 2 127 AYE AYA Lb|1=>Aa 2 127 AYD AX9 La|2=>Aa 2 127 AYC AX8 LZ|_=>fun _ _ _=>none,fp:=fun n=>match n with|29=>[[],[],[],[2],[2],[2],[],[2],[2],[2],[],[0],[0],[0],[1],[0],[0],[0],[1]]|_=>[] }
theorem AUJ:∀ v,LZ v=roundOf Tryz.prog Jg Yh 3 2 127 (AB Tryz.f109 2) AYC AX8 v:=by
 rintro⟨a0,a1,a2,a3,a4,a5,a6,a7,a8,a9,a10,a11,⟨⟩⟩
 kernel_rfl
theorem Acr:AD (AB Tryz.f109 2) 3=[]:=by kernel_rfl
theorem Acv:AZ Tryz.prog 2 (.loop (AB Tryz.f109 2)) (Yh.loop 2):=AX Ge (AUJ) (AA Acr trivial)
theorem AUK:∀ v,La v=roundOf Tryz.prog Jg Yh 2 2 127 (AB Tryz.f109 1) AYD AX9 v:=by
 rintro⟨a0,a1,a2,a3,a4,a5,a6,a7,a8,a9,a10,a11,a12,⟨⟩⟩
 kernel_rfl
theorem Acs:AD (AB Tryz.f109 1) 2=[]:=by kernel_rfl
theorem Acw:AZ Tryz.prog 2 (.loop (AB Tryz.f109 1)) (Yh.loop 1):=AX Ge (AUK) (AA Acs trivial)
theorem AUL:∀ v,Lb v=roundOf Tryz.prog Jg Yh 1 2 127 (AB Tryz.f109 0) AYE AYA v:=by
 rintro⟨a0,a1,a2,a3,a4,a5,a6,a7,a8,a9,a10,a11,a12,⟨⟩⟩
 kernel_rfl
theorem Acu:AD (AB Tryz.f109 0) 1=[]:=by kernel_rfl
theorem Acx:AZ Tryz.prog 2 (.loop (AB Tryz.f109 0)) (Yh.loop 0):=AX Ge (AUL) (AA Acu trivial)
theorem AbE:∀ v,ASD v=AS Tryz.prog Jg Yh Tryz.f109 AYF AYB AX7 v:=by
 rintro⟨a0,a1,a2,a3,a4,a5,a6,a7,a8,a9,a10,⟨⟩⟩
 kernel_rfl
theorem AdY:AD (AW Tryz.f109) 0=[(0,AB Tryz.f109 0),(1,AB Tryz.f109 1),(2,AB Tryz.f109 2)]:=by kernel_rfl
theorem AX6:AU Tryz.prog 109 (AG 4 AYF AYB AX7 pat):=AJ Ge Tryz.func109 (by kernel_rfl) (by kernel_rfl) rfl (fun v=>(AYG v).trans (AbE v)) (AA AdY ⟨Acx,Acw,Acv,trivial⟩)
def ATA:Env:=Jg.ext 109 false true (AG 4 AYF AYB AX7 pat)
theorem ABE:Ac Tryz.prog ATA:=Env.Ae Ge AX6 ((by simp)) (fun _=>AL rfl rfl)
abbrev AOU:Hints:={ loop:=fun n=>match n with|0=>Aa 0 81 AR4 AR3 EA|_=>fun _ _ _=>none,fp:=fun n=>match n with|9=>[[],[4],[4],[4],[],[4],[4],[4],[1],[3],[]]|5=>[[0],[0],[0],[0],[],[],[0],[0],[],[],[],[],[16],[],[14],[14],[],[0],[0],[],[],[18],[]]|_=>[] }
theorem AOQ:∀ v,EA v=roundOf Tryz.prog ATA AOU 1 0 81 (AB Tryz.f60 0) AR4 AR3 v:=by
 rintro⟨a0,a1,a2,a3,a4,a5,a6,a7,a8,a9,a10,a11,a12,a13,a14,a15,a16,a17,a18,⟨⟩⟩
 kernel_rfl
theorem Aa1:AD (AB Tryz.f60 0) 1=[]:=by kernel_rfl
theorem Aa2:AZ Tryz.prog 0 (.loop (AB Tryz.f60 0)) (AOU.loop 0):=AX ABE (AOQ) (AA Aa1 trivial)
theorem AXn:∀ v,AFX v=AS Tryz.prog ATA AOU Tryz.f60 AOT AOS AOR v:=by
 rintro⟨a0,a1,a2,⟨⟩⟩
 kernel_rfl
theorem Acn:AD (AW Tryz.f60) 0=[(0,AB Tryz.f60 0)]:=by kernel_rfl
theorem AT7:AU Tryz.prog 60 (AG 3 AOT AOS AOR ABl):=AJ ABE Tryz.func60 (by kernel_rfl) (by kernel_rfl) rfl (fun v=>(AR5 v).trans (AXn v)) (AA Acn ⟨Aa2,trivial⟩)
def AII:Env:=ATA.ext 60 true true (AG 3 AOT AOS AOR ABl)
theorem TS:Ac Tryz.prog AII:=Env.Ae ABE AT7 (fun _=>AP rfl rfl) (fun _=>AL rfl rfl)
abbrev AFk:Hints:={ loop:=fun n=>match n with|0=>Aa 0 55 AJu AJt YZ|_=>fun _ _ _=>none,fp:=fun n=>match n with|12=>[[20],[],[22],[],[5,24],[7],[]]|_=>[] }
theorem AJs:∀ v,YZ v=roundOf Tryz.prog AII AFk 1 0 55 (AB Tryz.f66 0) AJu AJt v:=by
 rintro⟨a0,a1,a2,a3,a4,a5,a6,a7,a8,⟨⟩⟩
 kernel_rfl
theorem AXz:AD (AB Tryz.f66 0) 1=[]:=by kernel_rfl
theorem AX0:AZ Tryz.prog 0 (.loop (AB Tryz.f66 0)) (AFk.loop 0):=AX TS (AJs) (AA AXz trivial)
theorem AUF:∀ v,AFl v=AS Tryz.prog AII AFk Tryz.f66 AFj AFi AFh v:=by
 rintro⟨a0,a1,⟨⟩⟩
 kernel_rfl
theorem Aa4:AD (AW Tryz.f66) 0=[(0,AB Tryz.f66 0)]:=by kernel_rfl
theorem AOl:AU Tryz.prog 66 (AG 2 AFj AFi AFh AR6):=AJ TS Tryz.func66 (by kernel_rfl) (by kernel_rfl) rfl (fun v=>(AX1 v).trans (AUF v)) (AA Aa4 ⟨AX0,trivial⟩)
def AIK:Env:=AII.ext 66 true true (AG 2 AFj AFi AFh AR6)
theorem ABD:Ac Tryz.prog AIK:=Env.Ae TS AOl (fun _=>AP rfl rfl) (fun _=>AL rfl rfl)
abbrev AWX:Hints:={  }
theorem AMr:∀ v,TO v=AS Tryz.prog AIK AWX Tryz.f58 TN TM TL v:=by
 rintro⟨⟨⟩⟩
 kernel_rfl
theorem AWW:AD (AW Tryz.f58) 0=[]:=by kernel_rfl
theorem AH6:AU Tryz.prog 58 (AG 0 TN TM TL Iq):=AJ ABD Tryz.func58 (by kernel_rfl) (by kernel_rfl) rfl (fun v=>(ARW v).trans (AMr v)) (AA AWW trivial)
def Th:Env:=AIK.ext 58 true true (AG 0 TN TM TL Iq)
theorem RC:Ac Tryz.prog Th:=Env.Ae ABD AH6 (fun _=>AP rfl rfl) (fun _=>AL rfl rfl)
abbrev AVk:Hints:={  }
theorem ALy:∀ v,NA v=AS Tryz.prog Th AVk Tryz.f59 Sr Sq Sp v:=by
 rintro⟨a0,a1,⟨⟩⟩
 kernel_rfl
theorem AVj:AD (AW Tryz.f59) 0=[]:=by kernel_rfl
theorem AHD:AU Tryz.prog 59 (AG 2 Sr Sq Sp NB):=AJ RC Tryz.func59 (by kernel_rfl) (by kernel_rfl) rfl (fun v=>(Zw v).trans (ALy v)) (AA AVj trivial)
def NU:Env:=Th.ext 59 true true (AG 2 Sr Sq Sp NB)
theorem Ko:Ac Tryz.prog NU:=Env.Ae RC AHD (fun _=>AP rfl rfl) (fun _=>AL rfl rfl)
abbrev Ew:Hints:={ loop:=fun n=>match n with|0=>Aa 0 202 Nk Ni CD|1=>Aa 0 202 Nj Nh BS|_=>fun _ _ _=>none,fp:=fun n=>match n with|25=>[[],[2],[2],[],[],[],[],[],[14],[14],[],[]]|23=>[[2],[2],[],[],[],[],[14],[14],[],[],[14],[14],[],[2],[2],[],[],[],[],[],[],[],[],[2],[2],[],[],[],[],[],[14],[14],[],[],[],[4],[4],[14],[14],[14],[14],[],[],[],[]]|22=>[[0],[0],[0],[2],[2],[],[],[],[],[2],[2],[],[],[],[],[],[],[],[],[15]]|16=>[[2],[],[],[16,6],[],[],[4],[4],[],[4],[4],[],[],[8],[8],[],[],[8],[8],[],[],[],[],[],[4],[4],[],[],[4],[4],[],[4],[4],[],[],[],[],[],[2],[],[],[]]|_=>[] }
theorem Rm:∀ v,BS v=roundOf Tryz.prog NU Ew 2 0 202 (AB Tryz.f12 1) Nj Nh v:=by
 rintro⟨a0,a1,a2,a3,a4,a5,a6,a7,a8,a9,a10,⟨⟩⟩
 kernel_rfl
theorem ABg:AD (AB Tryz.f12 1) 2=[]:=by kernel_rfl
theorem ABi:AZ Tryz.prog 0 (.loop (AB Tryz.f12 1)) (Ew.loop 1):=AX Ko (Rm) (AA ABg trivial)
theorem Rn:∀ v,CD v=roundOf Tryz.prog NU Ew 1 0 202 (AB Tryz.f12 0) Nk Ni v:=by
 rintro⟨a0,a1,a2,a3,a4,a5,a6,a7,a8,a9,a10,a11,a12,a13,⟨⟩⟩
 kernel_rfl
theorem ABh:AD (AB Tryz.f12 0) 1=[]:=by kernel_rfl
theorem ABj:AZ Tryz.prog 0 (.loop (AB Tryz.f12 0)) (Ew.loop 0):=AX Ko (Rn) (AA ABh trivial)
theorem YG:∀ v,G0 v=AS Tryz.prog NU Ew Tryz.f12 Ju Jt Js v:=by
 rintro⟨a0,a1,a2,⟨⟩⟩
 kernel_rfl
theorem AFV:AD (AW Tryz.f12) 0=[(0,AB Tryz.f12 0),(1,AB Tryz.f12 1)]:=by kernel_rfl
theorem Vp:AU Tryz.prog 12 (AG 3 Ju Jt Js FY):=AJ Ko Tryz.func12 (by kernel_rfl) (by kernel_rfl) rfl (fun v=>(Nl v).trans (YG v)) (AA AFV ⟨ABj,ABi,trivial⟩)
end
end Go.Pev
end
section

end
