/- A part of the proofs of this seat: G28P21 G28P22 G28P23 G28P24 G28X2 G28M8 G28M Pln PlnB T18a T18b T18c PlnM VDKA T18d PevClaim VDKB VDKC T19a VDKD T22a T21a T23a T23b T24a PlnC VDKE VDKF. -/
import Derived.Test.YtbnaceonlbiheaaGreatDoorP5ca05773ce
import Derived.IntWalk
import Derived.Sort.AssemblyPlain
import Derived.ProofKit
import Derived.ChangeArms
import Derived.ReadAgain
import Derived.Deep.Slices
import Derived.OpenShut
import Derived.KernelRfl
set_option linter.unusedVariables false
set_option linter.unusedSimpArgs false
set_option linter.unusedSectionVars false
set_option maxRecDepth 100000
section
namespace Go.Pev
open Go.Proofs
noncomputable section
abbrev Q7:Row:=⟨60,0,1,2,0,some (1,172),EB,[(.ret,JU)],AA,[],[]⟩
def JX[Lk]:Env:=Lc.BR 60 1 172 (AG 1 2 EB JU AA Ec)
theorem Mz:AI Tryz.prog JX:=Row.AE Q7 PL Tryz.func60 Ij
abbrev Ym:Row:=⟨60,0,0,2,0,some (1,129),GV,[(.ret,AM)],AA,[],[]⟩
def M0[Lk]:Env:=JX.BR 60 1 129 (AG 0 2 GV AM AA Hb)
theorem Ra:AI Tryz.prog M0:=Row.AE Ym Mz Tryz.func60 LY
abbrev PD:Row:=⟨60,0,1,2,0,some (1,212),De,[(.ret,Il)],AA,[],[]⟩
def Iu[Lk]:Env:=M0.BR 60 1 212 (AG 1 2 De Il AA GH)
theorem Le:AI Tryz.prog Iu:=Row.AE PD Ra Tryz.func60 Nv
abbrev AAn:Row:=⟨60,0,1,2,0,some (1,115),HV,[(.ret,N8)],AA,[],[]⟩
def OG[Lk]:Env:=Iu.BR 60 1 115 (AG 1 2 HV N8 AA Mf)
theorem S3:AI Tryz.prog OG:=Row.AE AAn Le Tryz.func60 Yn
abbrev Yi:Row:=⟨334,0,2,2,8,some (1,335),FG,[(.ret,Mb)],AA,[],[(0,VJ,VI)]⟩
def My[Lk]:Env:=OG.BR 334 1 335 (EO (AG 2 2 FG Mb AA LM))
theorem RX:AI Tryz.prog My:=Row.AE Yi S3 Tryz.func334 VK
abbrev Ahk:Row:=⟨139,0,0,2,0,none,DO,[(.ret,AM)],AA,[],[]⟩
def AOH[Lk]:Env:=My.ext 139 true true (AG 0 2 DO AM AA Yl)
theorem AOG:AI Tryz.prog AOH:=Row.AE Ahk RX Tryz.func139 AbT
abbrev Ab3:Row:=⟨65,0,0,2,0,none,ADG,[(.ret,C5)],AQ,[(5,[[0],[2],[2],[],[],[0],[2],[2],[],[],[],[]])],[]⟩
def AEN[Lk]:Env:=AOH.ext 65 true true (AG 0 2 ADG C5 AQ AGu)
theorem AIC:AI Tryz.prog AEN:=Row.AE Ab3 AOG Tryz.func65 AS4
abbrev AYV:Row:=⟨74,0,0,1,0,none,LG,[(.ret,Dv)],AQ,[],[(0,APd,APc)]⟩
def ADc[Lk]:Env:=AEN.ext 74 true true (AG 0 1 LG Dv AQ WA)
theorem AHM:AI Tryz.prog ADc:=Row.AE AYV AIC Tryz.func74 W9
abbrev AeQ:Row:=⟨124,0,0,1,0,none,E9,[(.ret,AM)],AA,[],[]⟩
def ANJ[Lk]:Env:=ADc.ext 124 true true (AG 0 1 E9 AM AA Ly)
theorem ANI:AI Tryz.prog ANJ:=Row.AE AeQ AHM Tryz.func124 AB7
abbrev Aeu:Row:=⟨317,0,0,2,0,none,DO,[(.ret,Gt)],AQ,[],[(0,AZH,AZG)]⟩
def ANT[Lk]:Env:=ANJ.ext 317 true true (AG 0 2 DO Gt AQ places)
theorem ANS:AI Tryz.prog ANT:=Row.AE Aeu ANI Tryz.func317 ACE
abbrev Ajy:Row:=⟨267,0,0,2,0,none,Ci,[(.ret,Gt)],AQ,[],[]⟩
def AWy[Lk]:Env:=ANT.ext 267 true true (AG 0 2 Ci Gt AQ AJZ)
theorem ATh:AI Tryz.prog AWy:=Row.AE Ajy ANS Tryz.func267 AJY
abbrev AeR:Row:=⟨319,0,0,1,0,none,E9,[(.ret,BX)],AA,[],[]⟩
def ANL[Lk]:Env:=AWy.ext 319 true true (AG 0 1 E9 BX AA AFE)
theorem ANK:AI Tryz.prog ANL:=Row.AE AeR ATh Tryz.func319 AB8
end
end Go.Pev
end
section
namespace Go.Pev
open Go.Proofs
noncomputable section
abbrev AdG:Row:=⟨55,0,0,1,0,none,NL,[(.ret,AM)],AA,[(8,[[],[],[],[],[],[],[],[],[],[],[],[],[],[],[],[],[],[],[],[],[],[],[],[],[0],[0],[],[],[],[]])],[(0,AXv,AXs),(1,AXu,AXr),(2,AXt,AXq)]⟩
def AMv[Lk]:Env:=ANL.ext 55 true true (AG 0 1 NL AM AA OM)
theorem AMu:AI Tryz.prog AMv:=Row.AE AdG ANK Tryz.func55 ABd
abbrev AmH:Row:=⟨266,0,0,3,0,none,J1,[(.ret,AP)],AA,[],[]⟩
def AXP[Lk]:Env:=AMv.ext 266 true true (AG 0 3 J1 AP AA asked)
theorem AT8:AI Tryz.prog AXP:=Row.AE AmH AMu Tryz.func266 AMW
abbrev AjN:Row:=⟨269,0,0,3,0,none,AUN,[(.ret,AUM)],AUL,[],[(0,Ac9,Ac7),(1,Ac8,Ac6)]⟩
def AWi[Lk]:Env:=AXP.ext 269 true true (AG 0 3 AUN AUM AUL AUO)
theorem ATR:AI Tryz.prog AWi:=Row.AE AjN AT8 Tryz.func269 AIY
abbrev AjX:Row:=⟨228,0,0,3,0,none,J1,[(.ret,QL)],I2,[(9,[[],[28],[0],[0],[],[],[],[],[],[0],[0],[],[],[],[],[],[28],[28,52,36,62],[64],[]]),(4,[[0],[],[],[0],[],[],[],[]])],[]⟩
def AWl[Lk]:Env:=AWi.ext 228 true true (AG 0 3 J1 QL I2 N0)
theorem ATU:AI Tryz.prog AWl:=Row.AE AjX ATR Tryz.func228 IC
abbrev AhD:Row:=⟨89,0,0,2,0,none,ALK,[(.ret,AP)],AA,[],[]⟩
def AN1[Lk]:Env:=AWl.ext 89 true true (AG 0 2 ALK AP AA MQ)
theorem AN0:AI Tryz.prog AN1:=Row.AE AhD ATU Tryz.func89 ACx
abbrev AR9:Row:=⟨227,0,0,3,0,some (2,228),Yd,[(.ret,Hu)],BE,[(1,[[0],[],[],[4],[]])],[(0,ALg,ALf)]⟩
def Zt[Lk]:Env:=AN1.BR 227 2 228 (AG 0 3 Yd Hu BE Ye)
theorem ABH:AI Tryz.prog Zt:=Row.AE AR9 AN0 Tryz.func227 MY
abbrev AhJ:Row:=⟨171,0,0,2,0,none,DT,[(.ret,Hu)],BE,[],[]⟩
def AN9[Lk]:Env:=Zt.ext 171 true true (AG 0 2 DT Hu BE AR2)
theorem AN8:AI Tryz.prog AN9:=Row.AE AhJ ABH Tryz.func171 Sf
abbrev ApG:Row:=⟨87,0,0,2,0,none,CM,[(.ret,Bt)],AQ,[],[]⟩
def Am0[Lk]:Env:=AN9.ext 87 true true (AG 0 2 CM Bt AQ fof)
theorem AjC:AI Tryz.prog Am0:=Row.AE ApG AN8 Tryz.func87 AR0
abbrev Af5:Row:=⟨86,0,0,1,0,none,DV,[(.ret,AM)],AA,[(7,[[2],[2],[],[],[2],[2],[2],[2],[],[],[],[2],[2],[0],[0],[],[],[],[2],[2],[],[],[],[2],[2],[],[],[],[],[],[],[],[0],[0],[],[],[],[],[2],[],[],[],[]])],[(0,AaI,AaH)]⟩
def ANl[Lk]:Env:=Am0.ext 86 true true (AG 0 1 DV AM AA Ek)
theorem ANk:AI Tryz.prog ANl:=Row.AE Af5 AjC Tryz.func86 Jz
abbrev Aot:Row:=⟨90,0,0,2,0,none,Bt,[(.ret,AP)],AA,[],[]⟩
def Amv[Lk]:Env:=ANl.ext 90 true true (AG 0 2 Bt AP AA tof)
theorem Aii:AI Tryz.prog Amv:=Row.AE Aot ANk Tryz.func90 Am6
abbrev AaQ:Row:=⟨39,0,0,2,0,none,EU,[(.ret,Bt)],AQ,[(3,[[0],[0],[0],[],[],[12],[],[],[3],[]])],[]⟩
def AEB[Lk]:Env:=Amv.ext 39 true true (AG 0 2 EU Bt AQ NW)
theorem AH0:AI Tryz.prog AEB:=Row.AE AaQ Aii Tryz.func39 X3
abbrev AXp:Row:=⟨58,0,0,2,4,none,DO,[(.ret,Nn)],H3,[(12,[[2],[2],[],[],[],[],[],[10],[10],[8],[9,12]]),(5,[[],[],[],[],[],[],[],[],[37]])],[(0,AOx,AOv),(1,AOw,AOu)]⟩
def ADR[Lk]:Env:=AEB.ext 58 true true (AG 0 2 DO Nn H3 Vs)
theorem AG8:AI Tryz.prog ADR:=Row.AE AXp AH0 Tryz.func58 Wh
end
end Go.Pev
end
section
namespace Go.Pev
open Go.Proofs
noncomputable section
abbrev AgG:Row:=⟨42,0,0,1,0,none,DV,[(.ret,Jy)],AA,[],[(0,AaW,AaV)]⟩
def ANp[Lk]:Env:=ADR.ext 42 true true (AG 0 1 DV Jy AA X4)
theorem ANo:AI Tryz.prog ANp:=Row.AE AgG AG8 Tryz.func42 AaX
abbrev AkH:Row:=⟨109,0,0,2,0,none,I6,[(.ret,NO)],AQ,[(10,[[2],[6],[4],[],[5],[],[5]])],[(0,Ae7,Ae6)]⟩
def AW0[Lk]:Env:=ANp.ext 109 true true (AG 0 2 I6 NO AQ AUv)
theorem ATj:AI Tryz.prog AW0:=Row.AE AkH ANo Tryz.func109 Ae8
abbrev AoL:Row:=⟨102,0,0,2,0,none,I6,[(.ret,NO)],AQ,[],[(0,Alj,Alh),(1,Ali,Alg)]⟩
def AjA[Lk]:Env:=AW0.ext 102 true true (AG 0 2 I6 NO AQ All)
theorem Acs:AI Tryz.prog AjA:=Row.AE AoL ATj Tryz.func102 Alk
abbrev AmK:Row:=⟨116,0,0,1,0,none,DV,[(.ret,AP)],AA,[],[]⟩
def AXQ[Lk]:Env:=AjA.ext 116 true true (AG 0 1 DV AP AA AiT)
theorem AT9:AI Tryz.prog AXQ:=Row.AE AmK Acs Tryz.func116 AiS
abbrev Aia:Row:=⟨50,0,0,3,0,none,AMh,[(.ret,AMg)],AEo,[(16,[[48],[48],[50],[0],[],[]])],[]⟩
def AOn[Lk]:Env:=AXQ.ext 50 true true (AG 0 3 AMh AMg AEo Aib)
theorem AOm:AI Tryz.prog AOn:=Row.AE Aia AT9 Tryz.func50 AcM
abbrev Aku:Row:=⟨250,0,0,3,0,none,Gn,[(.ret,AP)],AA,[],[]⟩
def AW3[Lk]:Env:=AOn.ext 250 true true (AG 0 3 Gn AP AA AgD)
theorem ATm:AI Tryz.prog AW3:=Row.AE Aku AOm Tryz.func250 AgC
abbrev AR1:Row:=⟨299,0,0,2,0,none,Bt,[(.ret,ER)],AQ,[(4,[[0],[0],[0],[],[],[],[],[],[],[1000005,21,1],[]])],[]⟩
def Zr[Lk]:Env:=AW3.ext 299 true true (AG 0 2 Bt ER AQ Qq)
theorem ABF:AI Tryz.prog Zr:=Row.AE AR1 ATm Tryz.func299 ALQ
abbrev Ae9:Row:=⟨192,0,0,3,0,none,Gn,[(.ret,C5)],AQ,[],[]⟩
def ANd[Lk]:Env:=Zr.ext 192 true true (AG 0 3 Gn C5 AQ AFS)
theorem ANc:AI Tryz.prog ANd:=Row.AE Ae9 ABF Tryz.func192 AZQ
abbrev AkC:Row:=⟨252,0,0,4,0,none,AUr,[(.ret,ER)],AQ,[(9,[[],[20],[],[28],[],[],[20],[20],[],[28],[28],[],[],[60],[],[]])],[]⟩
def AHX[Lk]:Env:=ANd.ext 252 true true (AG 0 4 AUr ER AQ Ael)
theorem Zb:AI Tryz.prog AHX:=Row.AE AkC ANc Tryz.func252 Aek
def Mu[Lk]:Env:=AHX.ext 254 false false (Bb Tryz.prog AHX { fp:=fun n=>match n with|0=>[[],[],[0],[0],[0],[],[2],[2],[2],[],[],[2],[2],[3]]|_=>[] } Tryz.f254)
theorem Mt:AI Tryz.prog Mu:=Env.Bi Zb (BI Zb Tryz.func254 Aeq Aep Aeo) (by simp) (by simp)
def ADr[Lk]:Env:=Mu.ext 253 false false (Bb Tryz.prog Mu {} Tryz.f253)
theorem AHc:AI Tryz.prog ADr:=Env.Bi Mt (BI Mt Tryz.func253 Anz Anx Anw) (by simp) (by simp)
abbrev Ao5:Row:=⟨194,0,2,4,0,none,Amd,[(.ret,Amc)],AA,[(29,[[],[],[],[2],[2],[2],[],[2],[2],[2],[],[0],[0],[0],[1],[0],[0],[0],[1]])],[(0,Anu,Anr),(1,Ant,Anq),(2,Ans,Anp)]⟩
def Amy[Lk]:Env:=ADr.ext 194 false true (AG 2 4 Amd Amc AA pat)
theorem Aiw:AI Tryz.prog Amy:=Row.AE Ao5 AHc Tryz.func194 Anv
abbrev Anb:Row:=⟨110,0,0,3,0,none,Gn,[(.ret,Aer)],AFQ,[(9,[[],[4],[4],[4],[],[4],[4],[4],[1],[3],[]]),(5,[[0],[0],[0],[0],[],[],[0],[0],[],[],[],[],[16],[],[14],[14],[],[0],[0],[],[],[18],[]])],[(0,AkF,AkE)]⟩
def Air[Lk]:Env:=Amy.ext 110 true true (AG 0 3 Gn Aer AFQ Anc)
theorem Aca:AI Tryz.prog Air:=Row.AE Anb Aiw Tryz.func110 AkG
abbrev AkI:Row:=⟨48,0,0,2,0,none,I6,[(.ret,AUw)],BE,[(12,[[20],[],[22],[],[5,24],[7],[]])],[(0,AfC,AfB)]⟩
def AW1[Lk]:Env:=Air.ext 48 true true (AG 0 2 I6 AUw BE Amb)
theorem ATk:AI Tryz.prog AW1:=Row.AE AkI Aca Tryz.func48 AfD
end
end Go.Pev
end
section
namespace Go.Pev
open Go.Proofs
noncomputable section
abbrev Ajv:Row:=⟨64,0,0,1,0,none,DV,[(.ret,Gt)],AQ,[(3,[[0],[0],[0],[],[10],[],[],[],[],[]])],[]⟩
def AWv[Lk]:Env:=AW1.ext 64 true true (AG 0 1 DV Gt AQ Ad8)
theorem ATe:AI Tryz.prog AWv:=Row.AE Ajv ATk Tryz.func64 Ad7
abbrev APh:Row:=⟨214,0,0,2,0,none,XC,[(.ret,ER)],AQ,[],[(0,AJD,AJC)]⟩
def ZY[Lk]:Env:=AWv.ext 214 true true (AG 0 2 XC ER AQ AJF)
theorem AA4:AI Tryz.prog ZY:=Row.AE APh ATe Tryz.func214 AJE
abbrev AhK:Row:=⟨238,0,0,2,0,none,Bt,[(.ret,C5)],AQ,[(4,[[0],[0],[0],[],[],[],[],[],[],[],[]])],[]⟩
def AOB[Lk]:Env:=ZY.ext 238 true true (AG 0 2 Bt C5 AQ AGF)
theorem AOA:AI Tryz.prog AOB:=Row.AE AhK AA4 Tryz.func238 Aa2
abbrev AI4:Row:=⟨185,0,0,2,0,none,DT,[(.ret,NO)],AQ,[],[(0,AE5,AE4)]⟩
def UD[Lk]:Env:=AOB.ext 185 true true (AG 0 2 DT NO AQ Rv)
theorem ZW:AI Tryz.prog UD:=Row.AE AI4 AOA Tryz.func185 AE6
abbrev AYX:Row:=⟨104,0,0,2,0,none,DT,[(.ret,ABz)],AQ,[],[]⟩
def ADd[Lk]:Env:=UD.ext 104 true true (AG 0 2 DT ABz AQ AE7)
theorem AHN:AI Tryz.prog ADd:=Row.AE AYX ZW Tryz.func104 APf
abbrev AoM:Row:=⟨47,0,0,2,0,none,I6,[(.ret,AhA)],AFQ,[(12,[[],[10],[10],[10],[10],[],[],[6],[6],[],[],[9,12],[]])],[(0,Alo,Aln)]⟩
def AjB[Lk]:Env:=ADd.ext 47 true true (AG 0 2 I6 AhA AFQ ApF)
theorem Acu:AI Tryz.prog AjB:=Row.AE AoM AHN Tryz.func47 Alp
abbrev AgO:Row:=⟨57,0,0,1,0,none,QR,[(.ret,AM)],AA,[],[]⟩
def RO[Lk]:Env:=AjB.ext 57 true true (AG 0 1 QR AM AA HA)
theorem G2:AI Tryz.prog RO:=Row.AE AgO Acu Tryz.func57 ACm
end
end Go.Pev
end
section
namespace Go.Pev
open Go.Proofs
noncomputable section
set_option maxHeartbeats 8000000
attribute [local irreducible] AH AJ Ai CL Eo Cb AF C3 Bs imax idx CE ilt ile ieq seq? quo? rem? shl? shr? fits Bq IntKind.wrap AR Ae AAC AZw AX VG AL many LN
abbrev JI:AD:=[(.tmp 0,.di)]
abbrev JH:AD:=[]
abbrev K8:List RS:=[]
abbrev QT:AD:=[]
def AFy[Lk]:Hints:={ fp:=Qo [] }
def ACr[Lk](v:Au (leaves JI)):Option (Au (leaves JH)⊕(List Int×Au (leaves QT))):=Lk.f (Cp 0 Tryz.prog RO AFy Tryz.f213 JI JH K8 229 [.i64] QT v)
theorem AK6(v):ACr v=Cp 0 Tryz.prog RO AFy Tryz.f213 JI JH K8 229 [.i64] QT v:=AB _
theorem Ti:BB Tryz.prog 0 AFy (BU Tryz.f213) 0:=CN _ 0 (by kernel_rfl)
theorem Aga:Gb Tryz.prog 213 (AG 0 1 JI JH K8 fun x=>Ca (ACr x)) (HK 0 1 JI JH K8 229 [.i64] QT ACr):=Jw G2.1 G2.2.1 G2.2.2 Tryz.func213 (FW (by kernel_rfl)) (Bm Tryz.func213 (by kernel_rfl) (by kernel_rfl)) (AqT rfl) AK6 Ti
theorem AgZ:Ak Tryz.prog 213 (AG 0 1 JI JH K8 fun x=>Ca (ACr x)):=Ju G2 Tryz.func213 (by kernel_rfl) (by kernel_rfl) rfl AK6 Ti
def WW[Lk]:Env:=Env.AGJ RO 213 true (AG 0 1 JI JH K8 fun x=>Ca (ACr x)) (HK 0 1 JI JH K8 229 [.i64] QT ACr)
theorem It:AI Tryz.prog WW:=Env.WM G2 AgZ Aga (fun _=>Bw rfl rfl)
abbrev JF:AD:=[(.tmp 0,.box 7),(.cell 0 0,.di),(.cell 0 1,.dat (.slice (.prod (.int .i64) (.prod (.int .i64) (.prod (.int .i64) (.prod .bool .unit)))))),(.cell 0 2,.di),(.cell 0 3,.di),(.cell 0 4,.di),(.cell 0 5,.di),(.cell 0 6,.dat (.slice (.int .i64))),(.tmp 1,.dat (.prod (.int .i64) (.prod (.slice (.prod (.int .i64) (.prod (.int .i64) .unit))) (.prod (.slice (.prod (.int .i64) (.prod (.int .i64) (.prod (.int .i64) .unit)))) .unit)))),(.tmp 2,.dat (.prod (.int .i64) (.prod (.int .i64) (.prod (.prod (.int .i64) (.prod (.int .i64) (.prod (.slice (.arr 2 (.int .i64))) .unit))) .unit))))]
abbrev JE:AD:=[(.obj 0,.box 7),(.cell 0 0,.di),(.cell 0 1,.dat (.slice (.prod (.int .i64) (.prod (.int .i64) (.prod (.int .i64) (.prod .bool .unit)))))),(.cell 0 2,.di),(.cell 0 3,.di),(.cell 0 4,.di),(.cell 0 5,.di),(.cell 0 6,.dat (.slice (.int .i64)))]
abbrev K5:List RS:=[]
abbrev QP:AD:=[(.obj 0,.box 7)]
def AFr[Lk]:Hints:={ fp:=Qo [(1,[[],[0],[0],[0],[0],[2],[4],[],[],[],[],[],[],[15],[],[]]),(7,[[],[],[],[0],[0],[0],[0],[14],[14],[6],[],[],[],[],[0],[0],[0],[1],[0],[0],[0],[1],[]]),(9,[[],[],[0],[0],[0],[0],[14],[14],[6],[],[],[],[],[0],[0],[0],[1],[]]),(12,[[],[],[0],[0],[0],[0],[14],[14],[],[],[],[],[0],[0],[0],[1],[]])] }
def ACl[Lk](v:Au (leaves JF)):Option (Au (leaves JE)⊕(List Int×Au (leaves QP))):=Lk.f (Cp 1 Tryz.prog WW AFr Tryz.f144 JF JE K5 229 [.i64] QP v)
theorem AK1(v):ACl v=Cp 1 Tryz.prog WW AFr Tryz.f144 JF JE K5 229 [.i64] QP v:=AB _
theorem Th:BB Tryz.prog 1 AFr (BU Tryz.f144) 0:=CN _ 0 (by kernel_rfl)
theorem AgJ:Gb Tryz.prog 144 (AG 1 3 JF JE K5 fun x=>Ca (ACl x)) (HK 1 3 JF JE K5 229 [.i64] QP ACl):=Jw It.1 It.2.1 It.2.2 Tryz.func144 (FW (by kernel_rfl)) (Bm Tryz.func144 (by kernel_rfl) (by kernel_rfl)) (AqT rfl) AK1 Th
theorem AgI:Ak Tryz.prog 144 (AG 1 3 JF JE K5 fun x=>Ca (ACl x)):=Ju It Tryz.func144 (by kernel_rfl) (by kernel_rfl) rfl AK1 Th
def WV[Lk]:Env:=Env.AGJ WW 144 false (AG 1 3 JF JE K5 fun x=>Ca (ACl x)) (HK 1 3 JF JE K5 229 [.i64] QP ACl)
theorem LR:AI Tryz.prog WV:=Env.WM It AgI AgJ (by simp)
abbrev ME:AD:=[(.tmp 0,.dat (.prod (.prod (.int .i64) (.prod (.slice (.prod (.int .i64) (.prod (.int .i64) (.prod (.int .i64) (.prod .bool .unit))))) .unit)) (.prod (.int .i64) (.prod (.int .i64) .unit)))),(.tmp 1,.dat (.prod (.int .i64) (.prod (.slice (.prod (.int .i64) (.prod (.int .i64) .unit))) (.prod (.slice (.prod (.int .i64) (.prod (.int .i64) (.prod (.int .i64) .unit)))) .unit)))),(.tmp 2,.dat (.prod (.int .i64) (.prod (.int .i64) (.prod (.prod (.int .i64) (.prod (.int .i64) (.prod (.slice (.arr 2 (.int .i64))) .unit))) .unit))))]
abbrev MD:AD:=[(.tmp 0,.dat (.prod (.prod (.int .i64) (.prod (.slice (.prod (.int .i64) (.prod (.int .i64) (.prod (.int .i64) (.prod .bool .unit))))) .unit)) (.prod (.int .i64) (.prod (.int .i64) .unit)))),(.tmp 1,.dat (.prod (.int .i64) (.prod (.int .i64) (.prod (.slice (.int .i64)) .unit))))]
abbrev QO:List RS:=[.one,.one]
abbrev AK0:AD:=[(.tmp 3,.box 4),(.tmp 6,.box 4),(.tmp 7,.box 3),(.cell 0 0,.di),(.cell 0 1,.dat (.slice (.prod (.int .i64) (.prod (.int .i64) (.prod (.int .i64) (.prod .bool .unit)))))),(.cell 0 2,.di),(.cell 0 3,.di),(.cell 1 0,.di),(.cell 1 1,.nil (.prod (.int .i64) (.prod (.int .i64) (.prod (.int .i64) (.prod .bool .unit))))),(.cell 1 2,.di),(.cell 1 3,.di),(.cell 2 0,.di),(.cell 2 1,.di),(.cell 2 2,.nil (.int .i64)),(.tmp 4,.box 3),(.cell 3 0,.di),(.cell 3 1,.dat (.slice (.prod (.int .i64) (.prod (.int .i64) .unit)))),(.cell 3 2,.dat (.slice (.prod (.int .i64) (.prod (.int .i64) (.prod (.int .i64) .unit))))),(.tmp 5,.box 5),(.cell 4 0,.di),(.cell 4 1,.di),(.cell 4 2,.di),(.cell 4 3,.di),(.cell 4 4,.dat (.slice (.arr 2 (.int .i64))))]
def SU[Lk]:Hints:={ fp:=Qo [(6,[[],[10],[10],[10],[],[10],[10],[10],[3],[5]])] }
def ACk:Hints:={ fp:=Qo [(3,[[0],[20],[20],[],[3],[5]])] }
def EI[Lk](v:Au (leaves ME)):Option (Au (leaves MD)):=Lk.f (R9 Tryz.prog WV Tryz.f68 2 ME MD QO {} SU ACk AK0 3 v)
theorem AaZ(v):EI v=R9 Tryz.prog WV Tryz.f68 2 ME MD QO {} SU ACk AK0 3 v:=AB _
theorem AFp[DfI]:BB Tryz.prog 3 SU (AL6 2 (BU Tryz.f68)) 0:=CN _ 0 (by kernel_rfl)
theorem AKz:Ak Tryz.prog 68 (AG 0 3 ME MD QO EI):=AKm LR.1 LR.2.1 LR.2.2 Tryz.func68 (FW (by kernel_rfl)) (Bm Tryz.func68 (by kernel_rfl) (by kernel_rfl)) (AqT rfl) AaZ AFp
def ANr[Lk]:Env:=WV.ext 68 true true (AG 0 3 ME MD QO EI)
theorem ANq:AI Tryz.prog ANr:=Env.Bi LR AKz (fun _=>Kt rfl rfl) (fun _=>Bw rfl rfl)
end
end Go.Pev
end
section
namespace Go.Pev
noncomputable section
def Md[Lk]:U8→Option (Uc):=fun(a0,_)=>
 match(ile 0 a0)with
 |true=>some ((ile a0 1099511627776),())
 |false=>some (false,())
def KE[Lk]:=fun v=>Lk.f (Md v)
theorem Q5 v:KE v=Md v:=AB _
def R0[Lk]:(V2×Unit)→Option (Uc):=fun(a0,_)=>
 match HQ ((a0.1.1,(a0.1.2.1,())),())with|none=>none|some (y0,_)=>match y0 with
 |true=>match KE (a0.2.1,())with|none=>none|some (y1,_)=>match y1 with
  |true=>match KE (a0.2.2.1,())with|none=>none|some (y2,_)=>some (y2,())
  |false=>some (false,())
 |false=>some (false,())
def Pt[Lk]:=fun v=>Lk.f (R0 v)
theorem XP v:Pt v=R0 v:=AB _
abbrev Kc:AD:=[(.tmp 0,.dat (.prod Um U4)),(.tmp 1,.dat V6)]
abbrev Kb:AD:=[(.tmp 0,.own 39 V7),(.tmp 1,.di)]
abbrev AIe:AD:=[(.tmp 1,.dat V6),(.tmp 6,.box 2),(.cell 0 0,.di),(.cell 0 1,.dat Ue),(.tmp 8,.own 39 V7),(.tmp 9,.di)]
abbrev TB:AW:=[(.exit 0,[(.tmp 8,.own 39 V7)])]
def Gi[Lk]:(List Int×Int×List U5×List Uk×Int×Unit)→Option ((List Int×Int×List U5×List Uk×Int×Unit)⊕(List Uk×Unit)⊕Unit):=fun(a0,a1,a2,a3,a4,_)=>
 match(ilt a4 (AH a2))with
 |true=>match idx a2 a4 with|none=>none|some x0=>match idx a2 a4 with|none=>none|some x1=>match Nb (x1,a0,())with|none=>none|some (y2,_)=>match WU (x0,y2,())with|none=>none|some (y3,y4,y5,y6,_)=>match(fits ((AH a3)+(AH ([(y3,(y4,(y5,())))]:List Uk))))with
  |true=>some (.inl (a0,a1,a2,(Ai a3 ([(y3,(y4,(y5,())))]:List Uk)),(IntKind.wrap .i64 (a4+1)),()))
  |false=>none
 |false=>some (.inr (.inl (a3,())))
def Kd[Lk]:(V2×List Int×Unit)→Option ((List Uk×Int×Unit)):=fun(a0,a1,_)=>
 match Pt (((a0.1.1,(a0.1.2.1,())),(a0.2.1,(a0.2.2.1,()))),())with|none=>none|some (y0,_)=>match(!y0)with
 |true=>some (([]:List Uk),1,())
 |false=>match Qp ((a0.1.1,(a0.1.2.1,())),0,())with|none=>none|some (y1,y2,_)=>match AL Gi many (a1,y1.1,y1.2.1,([]:List Uk),0,())with|none=>none|some r=>match r with
 |.inl (o3,_)=>some (o3,0,())
 |.inr _=>none
def Pb[Lk]:=fun v=>Lk.f (Kd v)
theorem Lp v:Pb v=Kd v:=AB _
abbrev AB2:AD:=[(.tmp 0,.dat (.slice V7)),(.tmp 1,.dat (.slice V7))]
abbrev APi:AD:=[(.tmp 0,.dat (.slice V7)),(.tmp 1,.dat (.slice V7)),(.tmp 5,.di)]
def IG[Lk]:(List Uk×List Uk×Int×Unit)→Option ((List Uk×List Uk×Int×Unit)⊕Uc⊕(Unit)⊕Unit):=fun(a0,a1,a2,_)=>
 match(ilt a2 (AH a0))with
 |true=>match idx a0 a2 with|none=>none|some x0=>match idx a1 a2 with|none=>none|some x1=>match AFB ((x0.1,(x0.2.1,(x0.2.2.1,()))),(x1.1,(x1.2.1,(x1.2.2.1,()))),())with|none=>none|some (y2,_)=>match(!y2)with
  |true=>some (.inr (.inl (false,())))
  |false=>some (.inl (a0,a1,(IntKind.wrap .i64 (a2+1)),()))
 |false=>some (.inr (.inr (.inl ())))
def Rx[Lk]:(List Uk×List Uk×Unit)→Option (Uc):=fun(a0,a1,_)=>
 match(!(ieq (AH a0) (AH a1)))with
 |true=>some (false,())
 |false=>match AL IG many (a0,a1,0,())with|none=>none|some r=>match r with
 |.inl (o0,_)=>some (o0,())
 |.inr r=>match r with
 |.inl _=>some (true,())
 |.inr _=>none
def Pp[Lk]:=fun v=>Lk.f (Rx v)
theorem XF v:Pp v=Rx v:=AB _
abbrev NM:AD:=[(.tmp 0,.dat (.slice Ut))]
abbrev AP4:AD:=[(.tmp 0,.dat (.slice Ut)),(.tmp 4,.own 5 (.int .u8)),(.tmp 5,.di)]
def Ft[Lk]:(List Ui×List Int×Int×Unit)→Option ((List Ui×List Int×Int×Unit)⊕U8⊕Ua⊕Unit):=fun(a0,a1,a2,_)=>
 match(ilt a2 (AH a0))with
 |true=>match idx a0 a2 with|none=>none|some x0=>match Qz ((x0.1,(x0.2.1,(x0.2.2.1,()))),())with|none=>none|some (y1,y2,_)=>match(!(ieq y2 0))with
  |true=>some (.inr (.inl (y2,())))
  |false=>match(fits ((AH a1)+(AH y1)))with
  |true=>some (.inl (a0,(Ai a1 y1),(IntKind.wrap .i64 (a2+1)),()))
  |false=>none
 |false=>some (.inr (.inr (.inl (a1,()))))
def R4[Lk]:(List Ui×Unit)→Option (Uh):=fun(a0,_)=>
 match AL Ft many (a0,([]:List (Int)),0,())with|none=>none|some r=>match r with
 |.inl (o0,_)=>some (([]:List (Int)),o0,())
 |.inr r=>match r with
 |.inl (o1,_)=>some (o1,0,())
 |.inr _=>none
def WC[Lk]:=fun v=>Lk.f (R4 v)
theorem XS v:WC v=R4 v:=AB _
abbrev AWU:AD:=[(.tmp 0,.dat (.slice Ut)),(.tmp 1,.dat (.slice Ut))]
abbrev AiW:AD:=[(.tmp 0,.dat (.slice Ut)),(.tmp 1,.dat (.slice Ut)),(.tmp 5,.di)]
def AiV[Lk]:(List Ui×List Ui×Int×Unit)→Option ((List Ui×List Ui×Int×Unit)⊕Uc⊕(Unit)⊕Unit):=fun(a0,a1,a2,_)=>
 match(ilt a2 (AH a0))with
 |true=>match idx a0 a2 with|none=>none|some x0=>match idx a1 a2 with|none=>none|some x1=>match Ry ((x0.1,(x0.2.1,(x0.2.2.1,()))),(x1.1,(x1.2.1,(x1.2.2.1,()))),())with|none=>none|some (y2,_)=>match(!y2)with
  |true=>some (.inr (.inl (false,())))
  |false=>some (.inl (a0,a1,(IntKind.wrap .i64 (a2+1)),()))
 |false=>some (.inr (.inr (.inl ())))
def AWV[Lk]:(List Ui×List Ui×Unit)→Option (Uc):=fun(a0,a1,_)=>
 match(!(ieq (AH a0) (AH a1)))with
 |true=>some (false,())
 |false=>match AL AiV many (a0,a1,0,())with|none=>none|some r=>match r with
 |.inl (o0,_)=>some (o0,())
 |.inr r=>match r with
 |.inl _=>some (true,())
 |.inr _=>none
def AMe[Lk]:=fun v=>Lk.f (AWV v)
theorem AiX v:AMe v=AWV v:=AB _
abbrev AK8:AD:=[(.tmp 0,.dat (.prod Um U4)),(.tmp 1,.di)]
def AK9[Lk]:U8→Option ((V2×Int×Unit)):=fun(a0,_)=>
 match(ilt a0 1)with
 |true=>some (((0,(([]:List U1),())),(0,(0,()))),1,())
 |false=>match(ilt 64 a0)with
 |true=>some (((0,(([]:List U1),())),(0,(0,()))),1,())
 |false=>some (((a0,(([]:List U1),())),(0,(0,()))),0,())
def YN[Lk]:=fun v=>Lk.f (AK9 v)
theorem Aak v:YN v=AK9 v:=AB _
abbrev AgM:AD:=[(.tmp 0,.dat (.prod Um U4)),(.tmp 1,.dat (.slice (.int .u8))),(.tmp 2,.dat (.prod U0 (.prod U0 (.prod Us .unit))))]
abbrev AgL:AD:=[(.tmp 0,.dat (.prod Um U4)),(.tmp 1,.own 58 Ut),(.tmp 2,.di)]
abbrev Ak1:AD:=[(.tmp 3,.box 4),(.cell 0 0,.di),(.cell 0 1,.dat Uy),(.cell 0 2,.di),(.cell 0 3,.di),(.tmp 5,.box 5),(.cell 1 0,.di),(.cell 1 1,.di),(.cell 1 2,.di),(.cell 1 3,.di),(.cell 1 4,.dat (.slice (.arr 2 U0))),(.tmp 6,.box 4),(.cell 2 0,.di),(.cell 2 1,.nil U2),(.cell 2 2,.di),(.cell 2 3,.di),(.tmp 11,.di),(.tmp 12,.own 58 Ut),(.tmp 27,.dat (.slice (.prod U0 (.prod Vb (.prod (.slice (.prod U0 U4)) .unit))))),(.tmp 28,.di),(.tmp 29,.di)]
abbrev Ak0:AW:=[(.exit 0,[(.tmp 3,.box 4),(.cell 0 0,.di),(.cell 0 1,.dat Uy),(.cell 0 2,.di),(.cell 0 3,.di),(.tmp 6,.box 4),(.cell 1 0,.di),(.cell 1 1,.nil U2),(.cell 1 2,.di),(.cell 1 3,.di),(.tmp 11,.di),(.tmp 12,.own 58 Ut)])]
def QQ[Lk]:(Int×List U1×Int×Int×Int×Int×Int×Int×List U5×Int×Int×Int×Int×List Ui×List (Int×(List U3)×(List Ug)×Unit)×Int×Int×Unit)→Option ((Int×List U1×Int×Int×Int×Int×Int×Int×List U5×Int×Int×Int×Int×List Ui×List (Int×(List U3)×(List Ug)×Unit)×Int×Int×Unit)⊕(Int×List U1×Int×Int×Int×Int×Int×Int×List Ui×Unit)⊕Unit):=fun(a0,a1,a2,a3,a4,a5,a6,a7,a8,a9,a10,a11,a12,a13,a14,a15,a16,_)=>
 match(ilt a16 a15)with
 |true=>match idx a14 a16 with|none=>none|some x0=>match EI (((a0,(a1,())),(a2,(a3,()))),(x0.1,(x0.2.1,(x0.2.2.1,()))),(a4,(a5,((a6,(a7,(a8,()))),()))),())with|none=>none|some (y1,y2,_)=>match(fits ((AH a13)+(AH ([(y2.1,(y2.2.1,(y2.2.2.1,())))]:List Ui))))with
  |true=>some (.inl (y1.1.1,y1.1.2.1,y1.2.1,y1.2.2.1,a4,a5,a6,a7,a8,a9,a10,a11,a12,(Ai a13 ([(y2.1,(y2.2.1,(y2.2.2.1,())))]:List Ui)),a14,a15,(IntKind.wrap .i64 (a16+1)),()))
  |false=>none
 |false=>some (.inr (.inl (a0,a1,a2,a3,a9,a10,a11,a12,a13,())))
def ARo[Lk]:(V2×List Int×(Int×Int×V0×Unit)×Unit)→Option ((V2×List Ui×Int×Unit)):=fun(a0,a1,a2,_)=>
 match HA (((a0.1.1,(a0.1.2.1,())),(a0.2.1,(a0.2.2.1,()))),())with|none=>none|some (y0,_)=>match(!y0)with
 |true=>some (((a0.1.1,(a0.1.2.1,())),(a0.2.1,(a0.2.2.1,()))),([]:List Ui),1,())
 |false=>match KX (a1,())with|none=>none|some (y1,y2,y3,_)=>match AL QQ many (a0.1.1,a0.1.2.1,a0.2.1,a0.2.2.1,a2.1,a2.2.1,a2.2.2.1.1,a2.2.2.1.2.1,a2.2.2.1.2.2.1,0,0,0,y3,([]:List Ui),y1,(AH y1),0,())with|none=>none|some r=>match r with
 |.inl (o4,o5,o6,o7,o8,o9,o10,o11,o12,_)=>match(!(ieq o11 0))with
  |true=>match(fits ((AH o12)+(AH ([(o11,(0,(([]:List (Int)),())))]:List Ui))))with
   |true=>some (((o4,(o5,())),(o6,(o7,()))),(Ai o12 ([(o11,(0,(([]:List (Int)),())))]:List Ui)),o11,())
   |false=>none
  |false=>some (((o4,(o5,())),(o6,(o7,()))),o12,o11,())
 |.inr _=>none
def AgN[Lk]:=fun v=>Lk.f (ARo v)
theorem AVl v:AgN v=ARo v:=AB _
abbrev Aab:AD:=[(.tmp 4,.own 5 (.int .u8)),(.tmp 9,.dat (.slice Ut)),(.tmp 10,.di),(.tmp 11,.di)]
def Hv[Lk]:(List Int×List Ui×Int×Int×Unit)→Option ((List Int×List Ui×Int×Int×Unit)⊕U8⊕Ua⊕Unit):=fun(a0,a1,a2,a3,_)=>
 match(ilt a3 a2)with
 |true=>match idx a1 a3 with|none=>none|some x0=>match WA ((x0.1,(x0.2.1,(x0.2.2.1,()))),())with|none=>none|some (y1,y2,_)=>match(!(ieq y2 0))with
  |true=>some (.inr (.inl (y2,())))
  |false=>match(fits ((AH a0)+(AH y1)))with
  |true=>some (.inl ((Ai a0 y1),a1,a2,(IntKind.wrap .i64 (a3+1)),()))
  |false=>none
 |false=>some (.inr (.inr (.inl (a0,()))))
def YA[Lk]:(List Ui×Unit)→Option (Uh):=fun(a0,_)=>
 match AL Hv many (([]:List (Int)),a0,(AH a0),0,())with|none=>none|some r=>match r with
 |.inl (o0,_)=>some (([]:List (Int)),o0,())
 |.inr r=>match r with
 |.inl (o1,_)=>some (o1,0,())
 |.inr _=>none
def Oq[Lk]:=fun v=>Lk.f (YA v)
theorem ACn v:Oq v=YA v:=AB _
abbrev ARn:AD:=[(.tmp 1,.dat V6),(.tmp 8,.own 39 V7),(.tmp 23,.dat Ue),(.tmp 24,.di),(.tmp 25,.di)]
def IY[Lk]:(List Int×List Uk×List U5×Int×Int×Unit)→Option ((List Int×List Uk×List U5×Int×Int×Unit)⊕(List Uk×Unit)⊕Unit):=fun(a0,a1,a2,a3,a4,_)=>
 match(ilt a4 a3)with
 |true=>match idx a2 a4 with|none=>none|some x0=>match NA (x0,a0,())with|none=>none|some (y1,_)=>match Vs (x0,y1,())with|none=>none|some (y2,y3,y4,y5,_)=>match(fits ((AH a1)+(AH ([(y2,(y3,(y4,())))]:List Uk))))with
  |true=>some (.inl (a0,(Ai a1 ([(y2,(y3,(y4,())))]:List Uk)),a2,a3,(IntKind.wrap .i64 (a4+1)),()))
  |false=>none
 |false=>some (.inr (.inl (a1,())))
def NZ[Lk]:(V2×List Int×Unit)→Option ((List Uk×Int×Unit)):=fun(a0,a1,_)=>
 match HA (((a0.1.1,(a0.1.2.1,())),(a0.2.1,(a0.2.2.1,()))),())with|none=>none|some (y0,_)=>match(!y0)with
 |true=>some (([]:List Uk),1,())
 |false=>match NW ((a0.1.1,(a0.1.2.1,())),0,())with|none=>none|some (y1,y2,_)=>match AL IY many (a1,([]:List Uk),y1.2.1,(AH y1.2.1),0,())with|none=>none|some r=>match r with
 |.inl (o3,_)=>some (o3,0,())
 |.inr _=>none
def K4[Lk]:=fun v=>Lk.f (NZ v)
theorem On v:K4 v=NZ v:=AB _
abbrev AVj:AD:=[(.tmp 0,.dat (.prod Um U4)),(.tmp 1,.dat (.prod Um U4))]
def AVk[Lk]:(V2×V2×Unit)→Option (Uc):=fun(a0,a1,_)=>
 match Af4 ((a0.1.1,(a0.1.2.1,())),(a1.1.1,(a1.1.2.1,())),())with|none=>none|some (y0,_)=>match y0 with
 |true=>match(ieq a0.2.1 a1.2.1)with
  |true=>some ((ieq a0.2.2.1 a1.2.2.1),())
  |false=>some (false,())
 |false=>some (false,())
def AK2[Lk]:=fun v=>Lk.f (AVk v)
theorem AgK v:AK2 v=AVk v:=AB _
abbrev Vr:AD:=[]
abbrev AUF:AD:=[(.tmp 0,.di),(.tmp 1,.di),(.tmp 2,.di),(.tmp 3,.di),(.tmp 4,.own 161 (.arr 2 U0))]
abbrev AUE:List RS:=[.agg 5]
def AUG[Lk]:(Unit)→Option ((Int×Int×Int×Int×List U5×Unit)):=fun _=>
 some (8,2,1,2,([([0,0]:List (Int)),([1,0]:List (Int))]:List U5),())
def AIU[Lk]:=fun v=>Lk.f (AUG v)
theorem AIT v:AIU v=AUG v:=AB _
abbrev ACv:AD:=[(.tmp 0,.dat (.prod Um U4)),(.tmp 1,.dat (.prod U0 (.prod U0 (.prod Us .unit))))]
def Sc[Lk]:(V2×(Int×Int×V0×Unit)×Unit)→Option (Uc):=fun(a0,a1,_)=>
 match(ilt 30 (AH a0.1.2.1))with
 |true=>some (true,())
 |false=>match(ilt 12 a0.1.1)with
 |true=>some (true,())
 |false=>some ((ilt 60 (AH a1.2.2.1.2.2.1)),())
def Qm[Lk]:=fun v=>Lk.f (Sc v)
theorem YR v:Qm v=Sc v:=AB _
def Sy[Lk]:(Unit)→Option (Uc):=fun _=>
 match YN (4,())with|none=>none|some (y0,y1,_)=>match AIU ()with|none=>none|some (y2,y3,y4,y5,y6,_)=>match AgN (((y0.1.1,(y0.1.2.1,())),(y0.2.1,(y0.2.2.1,()))),([1,0,2,0,3,0,1,0,0,0,1,3,0,2,3,0,3,0,0,4,0,0,0,0,2,0,1,0,0,0,1,3,0,1,2,0,3,0,0,9]:List (Int)),(y2,(y3,((y4,(y5,(y6,()))),()))),())with|none=>none|some (y7,y8,y9,_)=>match K4 (((y7.1.1,(y7.1.2.1,())),(y7.2.1,(y7.2.2.1,()))),([1,2]:List (Int)),())with|none=>none|some (y10,y11,_)=>match Oq (y8,())with|none=>none|some (y12,y13,_)=>match AIU ()with|none=>none|some (y14,y15,y16,y17,y18,_)=>match EI (((y7.1.1,(y7.1.2.1,())),(y7.2.1,(y7.2.2.1,()))),(2,(([(4,(0,()))]:List U3),(([]:List Ug),()))),(y14,(y15,((y16,(y17,(y18,()))),()))),())with|none=>none|some (y19,y20,_)=>match(ieq y1 0)with
 |true=>match(ieq y9 8)with
  |true=>match(ieq y11 0)with
   |true=>match(ieq y13 0)with
    |true=>match AMe (y8,([(0,(2,(([]:List (Int)),()))),(0,(0,(([3,2]:List (Int)),()))),(0,(1,(([]:List (Int)),()))),(0,(0,(([1]:List (Int)),()))),(8,(0,(([]:List (Int)),())))]:List Ui),())with|none=>none|some (y21,_)=>match y21 with
     |true=>match(ieq (AH y10) 3)with
      |true=>match(ieq (AH y12) 31)with
       |true=>match(ieq y7.2.1 4)with
        |true=>match(ilt 0 y7.2.2.1)with
         |true=>match HA (((y7.1.1,(y7.1.2.1,())),(y7.2.1,(y7.2.2.1,()))),())with|none=>none|some (y22,_)=>match y22 with
          |true=>match AK2 (((y7.1.1,(y7.1.2.1,())),(y7.2.1,(y7.2.2.1,()))),((y19.1.1,(y19.1.2.1,())),(y19.2.1,(y19.2.2.1,()))),())with|none=>none|some (y23,_)=>match y23 with
           |true=>match Ry ((y20.1,(y20.2.1,(y20.2.2.1,()))),(10,(0,(([]:List (Int)),()))),())with|none=>none|some (y24,_)=>match y24 with
            |true=>match XH ((y7.1.1,(y7.1.2.1,())),(4,(([(1,(3,(0,(true,()))))]:List U1),())),())with|none=>none|some (y25,_)=>some (y25,())
            |false=>some (false,())
           |false=>some (false,())
          |false=>some (false,())
         |false=>some (false,())
        |false=>some (false,())
       |false=>some (false,())
      |false=>some (false,())
     |false=>some (false,())
    |false=>some (false,())
   |false=>some (false,())
  |false=>some (false,())
 |false=>some (false,())
def RE[Lk]:=fun v=>Lk.f (Sy v)
theorem Y6 v:RE v=Sy v:=AB _
abbrev GU:AD:=[(.tmp 0,.dat (.prod Um U4)),(.tmp 1,.dat V6),(.tmp 2,.dat (.slice Ut))]
abbrev YE:AD:=[(.tmp 1,.dat V6),(.tmp 2,.dat (.slice Ut)),(.tmp 3,.box 4),(.cell 0 0,.di),(.cell 0 1,.dat Uy),(.cell 0 2,.di),(.cell 0 3,.di),(.tmp 7,.di)]
abbrev YD:AW:=[(.ret,[(.tmp 6,.dat .bool)]),(.exit 0,[(.tmp 1,.dat V6),(.tmp 2,.dat (.slice Ut)),(.tmp 3,.box 4),(.cell 0 0,.di),(.cell 0 1,.dat Uy),(.cell 0 2,.di),(.cell 0 3,.di)])]
def C0[Lk]:(List Int×List Ui×Int×List U1×Int×Int×Int×Unit)→Option ((List Int×List Ui×Int×List U1×Int×Int×Int×Unit)⊕Uc⊕(List Int×List Ui×Int×List U1×Int×Int×Unit)⊕Unit):=fun(a0,a1,a2,a3,a4,a5,a6,_)=>
 match(ilt a6 (AH a1))with
 |true=>match idx a1 a6 with|none=>none|some x0=>match(ilt 100 (AH x0.2.2.1))with
  |true=>some (.inr (.inl (true,())))
  |false=>some (.inl (a0,a1,a2,a3,a4,a5,(IntKind.wrap .i64 (a6+1)),()))
 |false=>some (.inr (.inr (.inl (a0,a1,a2,a3,a4,a5,()))))
def Jc[Lk]:(V2×List Int×List Ui×Unit)→Option (Uc):=fun(a0,a1,a2,_)=>
 match RE ()with|none=>none|some (y0,_)=>match(!y0)with
 |true=>some (false,())
 |false=>match Qm (((a0.1.1,(a0.1.2.1,())),(a0.2.1,(a0.2.2.1,()))),(0,(0,((0,(0,(([]:List U5),()))),()))),())with|none=>none|some (y1,_)=>match y1 with
 |true=>some (true,())
 |false=>match(ilt 10 (AH a2))with
 |true=>some (true,())
 |false=>match AL C0 many (a1,a2,a0.1.1,a0.1.2.1,a0.2.1,a0.2.2.1,0,())with|none=>none|some r=>match r with
 |.inl (o2,_)=>some (o2,())
 |.inr r=>match r with
 |.inl (o3,o4,o5,o6,o7,o8,_)=>match K4 (((o5,(o6,())),(o7,(o8,()))),o3,())with|none=>none|some (y9,y10,_)=>match Pb (((o5,(o6,())),(o7,(o8,()))),o3,())with|none=>none|some (y11,y12,_)=>match Oq (o4,())with|none=>none|some (y13,y14,_)=>match WC (o4,())with|none=>none|some (y15,y16,_)=>match Pp (y9,y11,())with|none=>none|some (y17,_)=>match y17 with
  |true=>match(ieq y10 y12)with
   |true=>match(seq? (LN y13) (LN y15))with
    |true=>some ((ieq y14 y16),())
    |false=>some (false,())
   |false=>some (false,())
  |false=>some (false,())
 |.inr _=>none
def C6[Lk]:=fun v=>Lk.f (Jc v)
theorem MG v:C6 v=Jc v:=AB _
end
end Go.Pev
end
section

end
section
namespace Go.Pev.Pl
theorem Ad{n:Int}(h:-9223372036854775808≤n∧n≤9223372036854775807):IntKind.wrap .i64 n=n:=IntWalk.i64_in n h
section
variable {α:Type} [Inhabited α]
theorem A3{d:Array α}{n:Nat}(h:n<d.size):idx d.toList (n:Int)=some d[n]! := by rw[idx_eq,YI,Ap4 (by omega)];simp[h]
theorem Bd{d:Array α}{n:Nat}{z:α}(h:n<d.size):AJ d.toList (AF (n:Int)) z=d[n]! := by simp[AJ,AF,h]
theorem JT{d:Array α}{n:Nat}{x:α}:AX d.toList (AF (n:Int)) x=(d.setIfInBounds n x).toList:=by simp[AX,AF]
theorem AWD{d:Array α}:AH d.toList=(d.size:Int):=by simp[AH]
theorem Jp(d:Array α)(i j:Nat):(d.setIfInBounds i d[j]!).setIfInBounds j d[i]! = Go.Sort.swp d i j:=rfl
theorem size_swp(d:Array α)(i j:Nat):(Go.Sort.swp d i j).size=d.size:=by simp[Go.Sort.swp]
end
theorem AN(a b:Nat):ilt (a:Int) (b:Int)=decide (a<b):=by rw[Ab];simp
theorem Ea(a b:Nat):ile (a:Int) (b:Int)=decide (a≤b):=by rw[Ao];simp
theorem AVn(a b:Nat):ieq (a:Int) (b:Int)=decide (a=b):=by rw[Db];by_cases h:a=b;simp[h];simp[h];omega
section
theorem wrap_add{a b:Nat}(h:a+b<9223372036854775808):IntKind.wrap .i64 ((a:Int)+(b:Int))=((a+b:Nat):Int):=by rw[Ad (by omega)];omega
theorem AO{a:Nat}(h:a+1<9223372036854775808):IntKind.wrap .i64 ((a:Int)+1)=((a+1:Nat):Int):=by rw[Ad (by omega)];omega
theorem ABO{a:Nat}(h:2*a<9223372036854775808):IntKind.wrap .i64 ((2:Int)*(a:Int))=((2*a:Nat):Int):=by rw[Ad (by omega)];omega
theorem AXc{a:Nat}(h:a<9223372036854775808):IntKind.wrap .i64 ((a:Int)*1)=((a*1:Nat):Int):=by rw[Ad (by omega)];omega
theorem M4{a:Nat}(h:a*2<9223372036854775808):IntKind.wrap .i64 ((a:Int)*2)=((a*2:Nat):Int):=by rw[Ad (by omega)];omega
theorem AXb{a:Nat}(h:a*3<9223372036854775808):IntKind.wrap .i64 ((a:Int)*3)=((a*3:Nat):Int):=by rw[Ad (by omega)];omega
theorem Df{a b:Nat}(h:b≤a∧a<9223372036854775808):IntKind.wrap .i64 ((a:Int)-(b:Int))=((a-b:Nat):Int):=by rw[Ad (by omega)];omega
theorem A8{a:Nat}(h:1≤a∧a<9223372036854775808):IntKind.wrap .i64 ((a:Int)-1)=((a-1:Nat):Int):=by rw[Ad (by omega)];omega
theorem Ao3{a:Nat}(h:a<9223372036854775808):quo? .i64 (a:Int) 2=some ((a/2:Nat):Int):=by rw[OT,AFM,Ap4 (by omega),Aq6 (by omega),Ad (by omega)];rfl
theorem AUn{a:Nat}(h:a<9223372036854775808):quo? .i64 (a:Int) 4=some ((a/4:Nat):Int):=by rw[OT,AFM,Ap4 (by omega),Aq6 (by omega),Ad (by omega)];rfl
theorem Ao2{a:Nat}(h:a<9223372036854775808):quo? .i64 (a:Int) 8=some ((a/8:Nat):Int):=by rw[OT,AFM,Ap4 (by omega),Aq6 (by omega),Ad (by omega)];rfl
end
end Go.Pev.Pl
end
section
namespace Go.Pev.Pl
section
variable {α:Type}
theorem EV{xs:List α}{n:Nat}(z:α)(h:n<xs.length):idx xs (n:Int)=some (xs.getD n z):=by rw[idx_eq,YI,Ap4 (by omega)];simp[h]
theorem AoI{xs:List α}{n:Nat}(h:n<xs.length):∃ x,idx xs (n:Int)=some x:=by rw[idx_eq,YI,Ap4 (by omega)];exact⟨xs[n],by simp[h]⟩
theorem AF0(xs:List α)(n:Nat):idx xs (n:Int)=xs[n]? := by rw[idx_eq,YI,Ap4 (by omega)];simp
theorem Gr(xs:List α):idx xs (0:Int)=xs.head? := by rw[idx_eq,YI,Ap4 (by omega)];cases xs<;>rfl
theorem LL(xs:List α)(n:Nat)(z:α):AJ xs (AF (n:Int)) z=xs.getD n z:=by simp[AJ,AF]
theorem AGN(xs:List α)(n:Nat)(x:α):AX xs (AF (n:Int)) x=xs.set n x:=by simp[AX,AF]
theorem AK(xs:List α):AH xs=(xs.length:Int):=rfl
theorem MZ(n:Nat):AF (n:Int)=n:=by simp[AF]
theorem DG(xs ys:List α):Ai xs ys=xs++ys:=rfl
theorem AEs{xs:List α}{l h:Nat}(h1:l≤h)(h2:h≤xs.length):CE xs (l:Int) (h:Int)=some ((xs.take h).drop l):=by rw[NF,ABq,Ap5 (by omega)];simp
end
theorem A7{n:Int}(h:n≤4294967296):fits n=true:=(FN n).2 h
theorem PG{α:Type}{xs:List α}(h:xs.length≤4294967296):HH xs=some xs:=by rw[ADE,AGe,(Sg _).2 (by rw[AK];omega)]
theorem YH{α β:Type}(xs:List α)(ys:List β):ieq (AH xs) (AH ys)=decide (xs.length=ys.length):=by rw[AK,AK,AVn]
theorem As(a b:Int):ieq a b=decide (a=b):=by rw[Db];by_cases h:a=b<;>simp[h]
def walk{α β ρ:Type}(f:β→α→α⊕ρ)(fin:α→ρ):List β→α→ρ
 |[],a=>fin a
 |x::xs,a=>match f x a with
  |.inl a=>walk f fin xs a
  |.inr r=>r
theorem AXl{σ ρ α β:Type}{step:σ→Option (σ⊕ρ)}(st:Nat→α→σ)(xs:List β)(f:β→α→α⊕ρ)(fin:α→ρ)(I:Nat→α→Prop)
  (h:∀ i x a,i<xs.length→xs[i]? = some x→I i a→(∀ a',f x a = .inl a'→step (st i a)=some (.inl (st (i+1) a'))∧I (i+1) a')∧(∀ r,f x a = .inr r→step (st i a)=some (.inr r)))
  (hN:∀ a,I xs.length a→step (st xs.length a)=some (.inr (fin a))) :
  ∀ (m i n:Nat) (a:α),xs.length-i=m→i≤xs.length→m<n→I i a→AU step n (st i a)=some (walk f fin (xs.drop i) a):=by
 intro m;induction m with
  |zero=>
   intro i n a hk hi hn hI;obtain⟨n,rfl⟩:∃ k,n=k+1:=⟨n-1,by omega⟩
   have e:i=xs.length:=by omega
   subst e;rw[AU,hN a hI,List.drop_length];rfl
  |succ m ih=>
   intro i n a hk hi hn hI;obtain⟨n,rfl⟩:∃ k,n=k+1:=⟨n-1,by omega⟩
   have hi':i<xs.length:=by omega
   obtain⟨g1,g2⟩:=h i xs[i] a hi' (by simp[hi']) hI;rw[AqX hi',walk,AU];cases hf:f xs[i] a with
    |inl a'=>obtain⟨e,hI'⟩:=g1 a' hf;rw[e];exact ih (i+1) n a' (by omega) (by omega) (by omega) hI'
    |inr r=>rw[g2 r hf]
theorem CC{σ ρ α β:Type}{step:σ→Option (σ⊕ρ)}(st:Nat→α→σ)(xs:List β)(f:β→α→α⊕ρ)(fin:α→ρ)(I:Nat→α→Prop)(hs:xs.length<9223372036854775808)
  (h:∀ i x a,i<xs.length→xs[i]? = some x→I i a→(∀ a',f x a = .inl a'→step (st i a)=some (.inl (st (i+1) a'))∧I (i+1) a')∧(∀ r,f x a = .inr r→step (st i a)=some (.inr r)))
  (hN:∀ a,I xs.length a→step (st xs.length a)=some (.inr (fin a))) (a:α) (h0:I 0 a):AL step many (st 0 a)=some (walk f fin xs a):=by
 have hm:9223372036854775808<many:=by simp only[many];omega
 rw[At,AXl st xs f fin I h hN xs.length 0 many a (by omega) (by omega) (by omega) h0];rfl
theorem AXm{β ρ:Type}(P:β→Bool)(rt:ρ)(rf:ρ)(xs:List β):walk (fun x (_:Unit)=>if P x then .inr rt else .inl ()) (fun _=>rf) xs ()=if xs.any P then rt else rf:=by
 induction xs with
  |nil=>rfl
  |cons x xs ih=>simp only[walk,List.any_cons];by_cases hx:P x=true;simp[hx];simp[hx,ih]
theorem Ha{α:Type}{xs ys:List α}(z:α)(hl:xs.length=ys.length)(h:∀ j,j<xs.length→xs.getD j z=ys.getD j z):xs=ys:=by apply List.ext_getElem hl;intro i h1 h2;have:=h i h1;simpa [h1,h2]using this
theorem Td{α:Type}{xs ys:List α}(z:α){j:Nat}(h:xs.getD j z≠ys.getD j z):xs≠ys:=fun e=>h (by rw[e])
theorem AYY{σ ρ:Type}{step:σ→Option (σ⊕ρ)}(st:Nat→σ)(N:Nat)(P:Nat→Bool)(rt:Nat→ρ)(rf:ρ)
  (h:∀ i,i<N→step (st i)=if P i then some (.inr (rt i))else some (.inl (st (i+1)))) (hN:step (st N)=some (.inr rf)) :
  ∀ (m i n:Nat),N-i=m→i≤N→m<n→(∃ k,i≤k∧k<N∧P k=true∧(∀ j,i≤j→j<k→P j=false)∧AU step n (st i)=some (rt k))∨((∀ j,i≤j→j<N→P j=false)∧AU step n (st i)=some rf):=by
 intro m;induction m with
  |zero=>
   intro i n hk hi hn;obtain⟨n,rfl⟩:∃ k,n=k+1:=⟨n-1,by omega⟩
   have e:i=N:=by omega
   subst e;exact .inr ⟨fun j h1 h2=>by omega,by rw[AU,hN]⟩
  |succ m ih=>
   intro i n hk hi hn;obtain⟨n,rfl⟩:∃ k,n=k+1:=⟨n-1,by omega⟩
   have hi':i<N:=by omega
   cases hP:P i;have e:AU step (n+1) (st i)=AU step n (st (i+1)):=by rw[AU,h i hi',hP];rfl
   rw[e];rcases ih (i+1) n (by omega) (by omega) (by omega)with⟨k,h1,h2,h3,h4,h5⟩|⟨h1,h2⟩
   refine .inl ⟨k,by omega,h2,h3,fun j a1 a2 => ?_,h5⟩;by_cases ej:j=i;subst ej;exact hP;exact h4 j (by omega) a2;refine .inr ⟨fun j a1 a2 => ?_,h2⟩;by_cases ej:j=i;subst ej;exact hP;exact h1 j (by omega) a2;exact .inl ⟨i,Ap1 _,hi',hP,fun j a1 a2=>by omega,by rw[AU,h i hi',hP];rfl⟩
theorem AI9{σ ρ:Type}{step:σ→Option (σ⊕ρ)}(st:Nat→σ)(N:Nat)(P:Nat→Bool)(rt:Nat→ρ)(rf:ρ)(hs:N<9223372036854775808)
  (h:∀ i,i<N→step (st i)=if P i then some (.inr (rt i))else some (.inl (st (i+1)))) (hN:step (st N)=some (.inr rf)) :
  (∃ k,k<N∧P k=true∧(∀ j,j<k→P j=false)∧AL step many (st 0)=some (rt k))∨((∀ j,j<N→P j=false)∧AL step many (st 0)=some rf):=by
 have hm:9223372036854775808<many:=by simp only[many];omega
 rw[At];rcases AYY st N P rt rf h hN N 0 many rfl (by omega) (by omega)with⟨k,h1,h2,h3,h4,h5⟩|⟨h1,h2⟩
 exact .inl ⟨k,h2,h3,fun j a=>h4 j (by omega) a,h5⟩;exact .inr ⟨fun j a=>h1 j (by omega) a,h2⟩
end Go.Pev.Pl
end
section
namespace Go.Pev.Pl
inductive Tok where
 |ver (v:Int)
 |arc (u v:Int)
 deriving DecidableEq
namespace Tok
def st:Tok→Int
 |.ver v=>v
 |.arc _ v=>v
def step(s:List Int×List Int):Tok→Option (List Int×List Int)
 |.ver v=>match s.1 with
  |w::_=>if w=v then some s else none
  |[]=>none
 |.arc u v=>match s.1 with
  |w::r=>if w=u then match r with
    |p::r'=>if p=v then some (p::r',s.2)else if v∈s.2 then none else some (v::w::r,v::s.2)
    |[]=>if v∈s.2 then none else some (v::w::r,v::s.2)
   else none
  |[]=>none
def run:List Int×List Int→List Tok→Option (List Int×List Int)
 |s,[]=>some s
 |s,t::l=>match step s t with
  |some s=>run s l
  |none=>none
theorem Ef(s:List Int×List Int)(a b:List Tok):run s (a++b)=(run s a).bind fun s=>run s b:=by
 induction a generalizing s with
  |nil=>rfl
  |cons t a ih=>
   simp only[AqJ,run];cases step s t with
    |none=>rfl
    |some s=>exact ih s
theorem Dh{s s':List Int×List Int}{t:Tok}(h:step s t=some s'):
  (∃ v r,t = .ver v∧s.1=v::r∧s'=s) ∨
  (∃ u v r,t = .arc u v∧s.1=u::v::r∧s'=(v::r,s.2)) ∨
  (∃ u v r,t = .arc u v∧s.1=u::r∧r.head?≠some v∧v∉s.2∧s'=(v::u::r,v::s.2)):=by
 obtain⟨way,c⟩:=s;cases t with
  |ver v=>
   cases way with
    |nil=>simp[step]at h
    |cons w r=>simp only[step]at h;split at h;rename_i e;cases h;exact .inl ⟨v,r,rfl,by simp[e],rfl⟩;cases h
  |arc u v=>
   cases way with
    |nil=>simp[step]at h
    |cons w r=>
     simp only[step]at h;split at h;rename_i e;subst e;cases r with
      |nil=>simp only at h;split at h;cases h;rename_i hc;cases h;exact .inr (.inr ⟨w,v,[],rfl,rfl,by simp,hc,rfl⟩)
      |cons p r=>simp only at h;split at h;rename_i e;subst e;cases h;exact .inr (.inl ⟨w,p,r,rfl,rfl,rfl⟩);split at h;cases h;rename_i e hc;cases h;exact .inr (.inr ⟨w,v,p::r,rfl,rfl,by simpa using e,hc,rfl⟩)
     cases h
theorem EP(v:Int)(r c:List Int):step (v::r,c) (.ver v)=some (v::r,c):=by simp[step]
theorem IF(u v:Int)(r c:List Int):step (u::v::r,c) (.arc u v)=some (v::r,c):=by simp[step]
theorem Hl(u v:Int)(r c:List Int)(h1:r.head?≠some v)(h2:v∉c):step (u::r,c) (.arc u v)=some (v::u::r,v::c):=by
 cases r with
  |nil=>simp[step,h2]
  |cons p r=>
   have:p≠v:=by simpa using h1
   simp[step,h2,this]
def Inv(s:List Int×List Int):Prop:=s.1.Nodup∧(∀ x∈s.1,x∈s.2)
theorem W1{s s':List Int×List Int}{t:Tok}(h:step s t=some s')(hi:Inv s):Inv s'∧(∀ x∈s.2,x∈s'.2)∧s'.1.head? = some t.st:=by
 obtain⟨way,c⟩:=s;obtain⟨h1,h2⟩:=hi;rcases Dh h with⟨v,r,rfl,hw,rfl⟩|⟨u,v,r,rfl,hw,rfl⟩|⟨u,v,r,rfl,hw,_,hn,rfl⟩
 exact⟨⟨h1,h2⟩,fun x hx=>hx,by rw[hw];rfl⟩;simp only at hw h1 h2;subst hw;refine⟨⟨?_,?_⟩,fun x hx=>hx,rfl⟩;exact(AqO.1 h1).2;intro x hx;exact h2 x (by simp only at hx;simp[Apv.1 hx]);simp only at hw h1 h2 hn;subst hw;refine⟨⟨?_,?_⟩,fun x hx=>by simp[hx],rfl⟩;exact AqO.2 ⟨fun hm=>hn (h2 _ hm),h1⟩;intro x hx;rcases Apv.1 hx with rfl|hx;simp;exact AqD _ (h2 x hx)
theorem Pr{l:List Tok}:∀ {s s':List Int×List Int},run s l=some s'→Inv s→Inv s'∧(∀ x∈s.2,x∈s'.2)∧∀ t,l.getLast? = some t→s'.1.head? = some t.st:=by
 induction l with
  |nil=>intro s s' h hi;cases h;exact⟨hi,fun x hx=>hx,fun t ht=>by simp at ht⟩
  |cons t l ih=>
   intro s s' h hi;simp only[run]at h;split at h;rename_i s1 h1;obtain⟨q1,q2,q3⟩:=W1 h1 hi;obtain⟨p1,p2,p3⟩:=ih h q1;refine⟨p1,fun x hx=>p2 x (q2 x hx),fun t' ht' => ?_⟩;cases l with
    |nil=>simp at ht';subst ht';simp only[run]at h;cases h;exact q3
    |cons y l=>exact p3 t' (by rw[AsW]at ht';exact ht')
   cases h
theorem Hm{Z:Int→Prop}:∀ {l:List Tok} {way way' c d c2 low:List Int},run (way,c) l=some (way',d)→way≠[]→(∀ x,x∈c2↔x∈c∨Z x) →
  (∀ u v,.arc u v∈l→¬ Z v)→(∀ y∈low,Z y)→∃ d2,run (way++low,c2) l=some (way'++low,d2)∧(∀ x,x∈d2↔x∈d∨Z x):=by
 intro l;induction l with
  |nil=>intro way way' c d c2 low h _ hc _ _;cases h;exact⟨c2,rfl,hc⟩
  |cons t l ih=>
   intro way way' c d c2 low h hne hc hz hl;simp only[run]at h;split at h;rename_i s1 h1;have hz':∀ u v,Tok.arc u v∈l→¬ Z v:=fun u v hm=>hz u v (AqD _ hm);rcases Dh h1 with⟨v,r,rfl,hw,rfl⟩|⟨u,v,r,rfl,hw,rfl⟩|⟨u,v,r,rfl,hw,hh,hn,rfl⟩
   simp only at hw;subst hw;obtain⟨d2,e1,e2⟩:=ih h hne hc hz' hl;exact⟨d2,by simp only[run,AqJ,EP];exact e1,e2⟩;simp only at hw;subst hw;obtain⟨d2,e1,e2⟩:=ih h (by simp) hc hz' hl;exact⟨d2,by simp only[run,AqJ,IF];exact e1,e2⟩;simp only at hw hn;subst hw;have hzv:=hz u v (by simp);have hn2:v∉c2:=by rw[hc];rintro (h|h);exact hn h;exact hzv h
   have hh2:(r++low).head?≠some v:=by
    cases r with
     |nil=>
      cases low with
       |nil=>simp
       |cons y low=>simp only[AqI,List.head?_cons,ne_eq,Apq];rintro rfl;exact hzv (hl _ (by simp))
     |cons p r=>simpa using hh
   obtain⟨d2,e1,e2⟩:=ih (c2:=v::c2) h (by simp) (by intro x;simp only[Apv,hc,or_assoc]) hz' hl;exact⟨d2,by simp only[run,AqJ,Hl _ _ _ _ hh2 hn2];exact e1,e2⟩;cases h
theorem AJQ{z:Int}:∀ {l:List Tok} {way way' c2 d2 c:List Int},run (way,c2) l=some (way',d2)→z∉way→(∀ x,x∈c2↔x∈c∨x=z)→z∉c →
  .ver z∉l∧∃ d,run (way,c) l=some (way',d)∧(∀ x,x∈d2↔x∈d∨x=z)∧z∉d:=by
 intro l;induction l with
  |nil=>intro way way' c2 d2 c h _ hc hz;cases h;exact⟨by simp,c,rfl,hc,hz⟩
  |cons t l ih=>
   intro way way' c2 d2 c h hzw hc hz;simp only[run]at h;split at h;rename_i s1 h1;rcases Dh h1 with⟨v,r,rfl,hw,rfl⟩|⟨u,v,r,rfl,hw,rfl⟩|⟨u,v,r,rfl,hw,hh,hn,rfl⟩
   simp only at hw;subst hw;obtain⟨e0,d,e1,e2,e3⟩:=ih h hzw hc hz;refine⟨?_,d,by simp only[run,EP];exact e1,e2,e3⟩;rintro hm;rcases Apv.1 hm with hm|hm;cases hm;exact hzw (by simp);exact e0 hm;simp only at hw;subst hw;obtain⟨e0,d,e1,e2,e3⟩:=ih h (fun hm=>hzw (AqD _ hm)) hc hz;refine⟨?_,d,by simp only[run,IF];exact e1,e2,e3⟩;rintro hm;rcases Apv.1 hm with hm|hm;cases hm;exact e0 hm;simp only at hw hn;subst hw;have hvz:v≠z:=by rintro rfl;exact hn ((hc v).2 (.inr rfl))
   have hn':v∉c:=fun hm=>hn ((hc v).2 (.inl hm))
   obtain⟨e0,d,e1,e2,e3⟩:=ih (c:=v::c) h (by intro hm;rcases Apv.1 hm with hm|hm;exact hvz hm.symm;exact hzw hm)
    (by intro x;simp only[Apv,hc,or_assoc])
    (by intro hm;rcases Apv.1 hm with hm|hm;exact hvz hm.symm;exact hz hm)
   refine⟨?_,d,by simp only[run,Hl _ _ _ _ hh hn'];exact e1,e2,e3⟩;rintro hm;rcases Apv.1 hm with hm|hm;cases hm;exact e0 hm;cases h
def Rot(a b:List Tok):Prop:=∃ x y,a=x++y∧b=y++x
theorem Rot.refl(a:List Tok):Rot a a:=⟨[],a,rfl,by simp⟩
theorem Rot.trans{a b c:List Tok}(h:Rot a b)(g:Rot b c):Rot a c:=by
 obtain⟨x,y,rfl,h2⟩:=h;obtain⟨z,w,h3,rfl⟩:=g;rw[h2]at h3;rcases List.append_eq_append_iff.1 h3 with⟨k,h4,h5⟩|⟨k,h4,h5⟩
 subst h4 h5;exact⟨k,w++y,by simp,by simp⟩;subst h4 h5;exact⟨x++z,k,by simp,by simp⟩
theorem Rot.perm{a b:List Tok}(h:Rot a b):a.Perm b:=by obtain⟨x,y,rfl,rfl⟩:=h;exact Arh
theorem Rot.mem{a b:List Tok}(h:Rot a b)(t:Tok):t∈a↔t∈b:=h.perm.mem_iff
theorem Rot.nodup{a b:List Tok}(h:Rot a b):a.Nodup↔b.Nodup:=h.perm.nodup_iff
theorem Rot.length{a b:List Tok}(h:Rot a b):a.length=b.length:=h.perm.length_eq
inductive T:List Tok→Prop
 |one (v:Int):T [.ver v]
 |add (x:Tok) (l:List Tok) (v:Int):T (x::l)→x.st≠v→.ver v∉x::l→T (x :: .arc x.st v :: .ver v :: .arc v x.st::l)
 |rot (a b:List Tok):T (a++b)→T (b++a)
theorem T.ARH{a b:List Tok}(h:T a)(r:Rot a b):T b:=by obtain⟨x,y,rfl,rfl⟩:=r;exact T.rot x y h
theorem T.facts{l:List Tok}(h:T l):l≠[]∧(∀ t∈l,.ver t.st∈l)∧(∀ u v,.arc u v∈l→.ver u∈l∧.ver v∈l∧.arc v u∈l∧u≠v):=by
 induction h with
  |one v=>exact⟨by simp,by simp[st],by simp⟩
  |add x l v h hne hv ih=>
   obtain⟨_,i2,i3⟩:=ih;have hsub:∀ t,t∈x::l→t∈x::Tok.arc x.st v :: .ver v :: .arc v x.st::l:=by intro t ht;rcases Apv.1 ht with rfl|ht;simp;simp[ht]
   have hx:=hsub _ (i2 x (by simp));have cases3:∀ t,t∈x::Tok.arc x.st v :: .ver v :: .arc v x.st::l→t∈x::l∨t = .arc x.st v∨t = .ver v∨t = .arc v x.st:=by intro t ht;simp only[Apv]at ht ⊢;rcases ht with h|h|h|h|h<;>simp[h]
   refine⟨by simp,fun t ht => ?_,fun a b hab => ?_⟩;rcases cases3 t ht with h|rfl|rfl|rfl;exact hsub _ (i2 t h);simp[st];simp[st];exact hx;rcases cases3 _ hab with h|h|h|h;obtain⟨p1,p2,p3,p4⟩:=i3 a b h;exact⟨hsub _ p1,hsub _ p2,hsub _ p3,p4⟩;cases h;exact⟨hx,by simp,by simp,hne⟩;cases h;cases h;exact⟨by simp,hx,by simp,Aq2 hne⟩
  |rot a b h ih=>obtain⟨i1,i2,i3⟩:=ih;have hm:∀ t,t∈a++b↔t∈b++a:=fun t=>List.perm_append_comm.mem_iff;refine⟨by intro e;simp only[List.append_eq_nil_iff]at e;exact i1 (by simp[e.1,e.2]),fun t ht=>(hm _).1 (i2 t ((hm _).2 ht)),fun u v huv => ?_⟩;obtain⟨p1,p2,p3,p4⟩:=i3 u v ((hm _).2 huv);exact⟨(hm _).1 p1,(hm _).1 p2,(hm _).1 p3,p4⟩
theorem T.nodup{l:List Tok}(h:T l):l.Nodup:=by
 induction h with
  |one v=>simp
  |add x l v h hne hv ih=>obtain⟨_,_,f3⟩:=h.facts;have h1:Tok.arc x.st v∉x::l:=fun hm=>hv (f3 _ _ hm).2.1;have h2:Tok.arc v x.st∉x::l:=fun hm=>hv (f3 _ _ hm).1;simp only[Apv,not_or]at h1 h2 hv;have ih':=AqO.1 ih;simp only[AqO,Apv,not_or];refine⟨⟨fun e=>h1.1 e.symm,fun e=>hv.1 e.symm,fun e=>h2.1 e.symm,ih'.1⟩,⟨by simp,?_,h1.2⟩,⟨by simp,hv.2⟩,h2.2,ih'.2⟩;intro e;simp only[Tok.arc.injEq]at e;exact hne e.1
  |rot a b h ih=>exact(List.perm_append_comm.nodup_iff).1 ih
def C(l:List Tok):Prop:=∀ r,Rot l r→∀ t,r.getLast? = some t→∃ c,run ([t.st],[t.st]) r=some ([t.st],c)∧∀ x,x∈c↔.ver x∈l
end Tok
end Go.Pev.Pl
end
section
namespace Go.Pev.Pl.Tok
theorem getLast?_app{a b:List Tok}{t:Tok}(h:b.getLast? = some t):(a++b).getLast? = some t:=by rw[Aro,h];rfl
theorem BK(s:List Int×List Int)(t:Tok)(l:List Tok):run s (t::l)=(step s t).bind fun s=>run s l:=by rw[run];cases step s t<;>rfl
theorem RI(v:Int):Inv ([v],[v]):=⟨by simp,by simp⟩
theorem T.toC{l:List Tok}(h:T l):C l:=by
 induction h with
  |one v=>intro r hr t ht;have:r=[.ver v]:=List.perm_singleton.1 hr.perm.symm;subst this;simp at ht;subst ht;exact⟨[v],by simp[run,st,step],by simp⟩
  |rot a b h ih=>intro r hr t ht;obtain⟨c,h1,h2⟩:=ih r (Rot.trans ⟨a,b,rfl,rfl⟩ hr) t ht;exact⟨c,h1,fun x=>(h2 x).trans (List.perm_append_comm.mem_iff)⟩
  |add x l v h hne hv ih=>
   obtain⟨_,f2,f3⟩:=h.facts;have hnz:∀ u w,Tok.arc u w∈x::l→¬ (w=v):=fun u w hm e=>hv (e▸(f3 u w hm).2.1);have fin:∀ {d2 c:List Int},(∀ y,y∈d2↔y∈c∨y=v)→(∀ y,y∈c↔.ver y∈x::l)→∀ y,y∈d2↔Tok.ver y∈x :: .arc x.st v :: .ver v :: .arc v x.st::l:=by intro d2 c e1 e2 y;rw[e1,e2];simp only[Apv,reduceCtorEq,false_or,Tok.ver.injEq];constructor;rintro ((h|h)|h)<;>simp[h];rintro (h|h|h)<;>simp[h]
   have triple:∀ {w' c1:List Int},Inv (x.st::w',c1)→v∉c1→∀ p,run (x.st::w',c1) (.arc x.st v :: .ver v :: .arc v x.st::p)=run (x.st::w',v::c1) p:=by
    intro w' c1 hi hn p;have hh:w'.head?≠some v:=by intro e;exact hn (hi.2 v (AqD _ (List.mem_of_head? e)))
    rw[BK,Hl _ _ _ _ hh hn,AqQ,BK,EP,AqQ,BK,IF,AqQ]
   have G:∀ q1 p1,l=p1++q1→∀ t,(q1++x :: .arc x.st v :: .ver v :: .arc v x.st::p1).getLast? = some t→∃ c,run ([t.st],[t.st]) (q1++x :: .arc x.st v :: .ver v :: .arc v x.st::p1)=some ([t.st],c)∧∀ y,y∈c↔.ver y∈x :: .arc x.st v :: .ver v :: .arc v x.st::l:=by
    intro q1 p1 hl t ht;have hrot:Rot (x::l) (q1++x::p1):=⟨x::p1,q1,by simp[hl],rfl⟩
    have ht0:∃ t0,(q1++x::p1).getLast? = some t0∧t0.st=t.st:=by
     cases p1 with
      |nil=>refine⟨x,getLast?_app (by simp),?_⟩;rw[show q1++[x,Tok.arc x.st v,.ver v,.arc v x.st]=(q1++[x,Tok.arc x.st v,.ver v])++[Tok.arc v x.st] by simp,ArI]at ht;cases ht;rfl
      |cons y p1=>refine⟨t,?_,rfl⟩;rw[show q1++x::Tok.arc x.st v :: .ver v :: .arc v x.st::y::p1=(q1++[x,Tok.arc x.st v,.ver v,.arc v x.st])++y::p1 by simp,Aro]at ht;rw[show q1++x::y::p1=(q1++[x])++y::p1 by simp,Aro];exact ht
    obtain⟨t0,e0,e1⟩:=ht0;obtain⟨c,h1,h2⟩:=ih _ hrot t0 e0;rw[e1,show q1++x::p1=(q1++[x])++p1 by simp,Ef,Aqh]at h1;obtain⟨⟨w1,c1⟩,g1,g2⟩:=h1;obtain⟨i1,i2,i3⟩:=Pr g1 (RI _);obtain⟨j1,j2,j3⟩:=Pr g2 i1;have i3':=i3 x (by simp);simp only at i3';cases w1 with
     |nil=>simp at i3'
     |cons w0 w'=>
      simp at i3';subst i3';have hn:v∉c1:=fun hm=>hv ((h2 v).1 (j2 v hm));obtain⟨d2,k1,k2⟩:=Hm (Z:=(· = v)) (c2:=v::c1) (low:=[]) g2 (by simp) (fun y=>by simp[or_comm]) (fun u w hm=>hnz u w (by simp[hl,hm])) (by simp)
      refine⟨d2,?_,fin k2 h2⟩;rw[show q1++x::Tok.arc x.st v :: .ver v :: .arc v x.st::p1=(q1++[x])++Tok.arc x.st v :: .ver v :: .arc v x.st::p1 by simp,Ef,g1,AqQ,triple i1 hn];simpa using k1
   intro r hr t ht;obtain⟨p,q,hpq,rfl⟩:=hr;have base:∀ t0:Tok,(l++[x]).getLast? = some t0→t0=x:=fun t0 h=>by rw[ArI]at h;exact(Arf h).symm
   obtain⟨c,h1,h2⟩:=ih (l++[x]) ⟨[x],l,rfl,rfl⟩ x (by simp);match p with
   |[]=>
    simp only[AqI]at hpq
    subst hpq
    have:=G [] l (by simp) t (by simpa using ht)
    simpa using this
   |[y]=>
    simp only[AqJ,AqI,AqF]at hpq
    obtain⟨rfl,rfl⟩:=hpq
    have:t=x:=by
     rw[ArI]at ht
     exact(Arf ht).symm
    subst this
    have hn:v∉[t.st]:=by simp;exact Aq2 hne
    obtain⟨d2,k1,k2⟩:=Hm (Z:=(· = v)) (c2:=[v,t.st]) (low:=[]) h1 (by simp) (fun y=>by simp[or_comm]) (fun u w hm=>hnz u w (by simpa [or_comm]using hm)) (by simp)
    refine⟨d2,?_,fin k2 h2⟩
    rw[show(Tok.arc t.st v :: .ver v :: .arc v t.st::l)++[t]=Tok.arc t.st v :: .ver v :: .arc v t.st::(l++[t]) by simp,triple (RI _) hn]
    simpa using k1
   |[y,z]=>
    simp only[AqJ,AqI,AqF]at hpq
    obtain⟨rfl,rfl,rfl⟩:=hpq
    have:t = .arc x.st v:=by
     rw[show(Tok.ver v :: .arc v x.st::l)++[x,.arc x.st v]=(Tok.ver v :: .arc v x.st::l++[x])++[.arc x.st v] by simp,ArI]at ht
     exact(Arf ht).symm
    subst this
    obtain⟨d2,k1,k2⟩:=Hm (Z:=(· = v)) (c2:=[x.st,v]) (low:=[v]) h1 (by simp) (fun y=>by simp) (fun u w hm=>hnz u w (by simpa [or_comm]using hm)) (by simp)
    refine⟨d2,?_,fin k2 h2⟩
    rw[show(Tok.ver v :: .arc v x.st::l)++[x,.arc x.st v]=Tok.ver v :: .arc v x.st::((l++[x])++[.arc x.st v]) by simp]
    rw[BK]
    show(step ([v],[v]) _).bind _=_
    rw[EP,AqQ,BK,Hl _ _ _ _ (by simp) (by simp;exact hne),AqQ,Ef]
    rw[show([x.st]++[v]:List Int)=[x.st,v]from rfl]at k1
    rw[k1,AqQ,BK,IF]
    rfl
   |[y,z,w]=>
    simp only[AqJ,AqI,AqF]at hpq
    obtain⟨rfl,rfl,rfl,rfl⟩:=hpq
    have:t = .ver v:=by
     rw[show(Tok.arc v x.st::l)++[x,.arc x.st v,.ver v]=(Tok.arc v x.st::l++[x,.arc x.st v])++[.ver v] by simp,ArI]at ht
     exact(Arf ht).symm
    subst this
    obtain⟨d2,k1,k2⟩:=Hm (Z:=(· = v)) (c2:=[x.st,v]) (low:=[v]) h1 (by simp) (fun y=>by simp) (fun u w hm=>hnz u w (by simpa [or_comm]using hm)) (by simp)
    refine⟨d2,?_,fin k2 h2⟩
    rw[show(Tok.arc v x.st::l)++[x,.arc x.st v,.ver v]=Tok.arc v x.st::((l++[x])++[.arc x.st v,.ver v]) by simp]
    rw[BK]
    show(step ([v],[v]) _).bind _=_
    rw[Hl _ _ _ _ (by simp) (by simp;exact hne),AqQ,Ef]
    rw[show([x.st]++[v]:List Int)=[x.st,v]from rfl]at k1
    rw[k1,AqQ,BK,IF,AqQ,BK,EP]
    rfl
   |y::z::w::w2::p1=>
    simp only[AqJ,AqF]at hpq
    obtain⟨rfl,rfl,rfl,rfl,rfl⟩:=hpq
    exact G q p1 rfl t ht
def comp(P:List Tok):List Int→List Tok
 |[]=>[]
 |w::r=>(if .ver w∈P then []else [.ver w])++match r with
  |[]=>[]
  |p::_=>.arc w p::comp P r
theorem PF{P P':List Tok}:∀ {way:List Int},(∀ w∈way,(Tok.ver w∈P↔Tok.ver w∈P'))→comp P way=comp P' way:=by
 intro way;induction way with
  |nil=>intro _;rfl
  |cons w r ih=>intro h;have h1:=h w (by simp);have h2:=ih fun x hx=>h x (AqD _ hx);simp only[comp,h1,h2]
theorem AoJ:∀ (M P:List Tok) (way c c':List Int) (r:Int) (t0:Tok),run (way,c) M=some ([r],c')→Inv (way,c)→P.getLast? = some t0→way.head? = some t0.st →
  T (P++comp P way)→(∀ x,.ver x∈P++comp P way→x∈c)→(∀ x∈c',Tok.ver x∈P++M)→(P++M).Nodup→T (P++M):=by
 intro M;induction M with
  |nil=>intro P way c c' r t0 h hi hl hh hT hc hc' hn;cases h;have:=hc' r (hi.2 r (by simp));rw[Aqv]at this;simpa [comp,this]using hT
  |cons t M ih=>
   intro P way c c' r t0 h hi hl hh hT hc hc' hn;rw[BK,Aqh]at h;obtain⟨⟨w1,c1⟩,h1,h2⟩:=h;obtain⟨hi1,hsub,hhd⟩:=W1 h1 hi;have asso:P++t::M=(P++[t])++M:=by simp
   rw[asso]at hn hc' ⊢;have hnt:t∉P:=by
    have:=(Arl.1 (Arl.1 hn).1)
    intro hm;exact this.2.2 t hm t (by simp) rfl
   rcases Dh h1 with⟨v,rr,rfl,hw,e⟩|⟨u,v,rr,rfl,hw,e⟩|⟨u,v,rr,rfl,hw,hh2,hn2,e⟩
   cases e;simp only at hw;subst hw;have key:comp P (v::rr) = .ver v::comp (P++[.ver v]) (v::rr):=by
    have e2:comp P rr=comp (P++[.ver v]) rr:=PF fun w hwm=>by
     have:w≠v:=by rintro rfl;exact(AqO.1 hi.1).1 hwm
     simp[this]
    simp only[comp,hnt,e2];simp
   rw[key]at hT hc;exact ih _ _ _ _ _ (.ver v) h2 hi1 (by simp) hhd (by simpa using hT) (fun x hx=>hc x (by simpa using hx)) hc' hn;cases e;simp only at hw;subst hw;have hu:Tok.ver u∈P:=by
    have hun:=(AqO.1 hi.1).1;obtain⟨g1,_⟩:=AJQ (z:=u) (c:=c.filter (·≠u)) h2 hun (fun x=>by simp only[ArL,Aps];constructor;intro h;by_cases e:x=u;exact .inr e;exact .inl ⟨h,by simpa using e⟩;rintro (h|rfl);exact h.1;exact hi.2 x (by simp)) (by simp)
    have hmono:=(Pr h2 hi1).2.1 u (hi.2 u (by simp));have:=hc' u hmono;simp only[Ap6,AqR,reduceCtorEq,AsD]at this;rcases this with h|h;exact h;exact absurd h g1
   have key:comp P (u::v::rr) = .arc u v::comp (P++[.arc u v]) (v::rr):=by
    have e2:comp P (v::rr)=comp (P++[.arc u v]) (v::rr):=PF fun w hwm=>by simp
    rw[← e2];simp only[comp,hu];simp
   rw[key]at hT hc;exact ih _ _ _ _ _ (.arc u v) h2 hi1 (by simp) hhd (by simpa using hT) (fun x hx=>hc x (by simpa using hx)) hc' hn;cases e;simp only at hw hn2;subst hw;have hu:u=t0.st:=by simpa using hh
   subst hu;have hvc:∀ x,Tok.ver x∈P++comp P (t0.st::rr)→x≠v:=by rintro x hx rfl;exact hn2 (hc x hx)
   have hvP:Tok.ver v∉P++comp P (t0.st::rr):=fun hm=>hvc v hm rfl;have hvP':Tok.ver v∉P:=fun hm=>hvP (by simp[hm]);have key:comp (P++[.arc t0.st v]) (v::t0.st::rr) = .ver v :: .arc v t0.st::comp P (t0.st::rr):=by
    have e2:comp (P++[.arc t0.st v]) (t0.st::rr)=comp P (t0.st::rr):=PF fun w hwm=>by simp
    rw[← e2];simp only[comp,Ap6,hvP',AqR,reduceCtorEq,AsD,AqB];rfl
   have hne:t0.st≠v:=by rintro e;exact hn2 (e▸hi.2 t0.st (by simp))
   refine ih _ _ _ _ _ (.arc t0.st v) h2 hi1 (by simp) hhd ?_ ?_ hc' hn;rw[key];obtain⟨P0,rfl⟩:∃ P0,P=P0++[t0]:=List.getLast?_eq_some_iff.1 hl;have hT1:T (t0::(comp (P0++[t0]) (t0.st::rr)++P0)):=hT.ARH ⟨P0,t0::comp (P0++[t0]) (t0.st::rr),by simp,by simp⟩;have hT2:=T.add t0 _ v hT1 hne (by intro hm;apply hvP;simp only[Ap6,Apv,ArO,AsD]at hm ⊢;rcases hm with h|h|h<;>simp[h])
   exact hT2.ARH ⟨t0 :: .arc t0.st v :: .ver v :: .arc v t0.st::comp (P0++[t0]) (t0.st::rr),P0,by simp,by simp⟩;intro x hx;rw[key]at hx;simp only[Ap6,Apv,ArO,AsD,reduceCtorEq,Tok.ver.injEq,false_or]at hx;rcases hx with h|h|h;exact AqD _ (hc x (by simp[h]));simp[h];exact AqD _ (hc x (by simp[h]))
def Af(l:List Tok):Prop:=∃ r l' c,l = .ver r::l'∧run ([r],[r]) l=some ([r],c)∧∀ x∈c,Tok.ver x∈l
theorem Af.toT{l:List Tok}(h:Af l)(hn:l.Nodup):T l:=by obtain⟨r,l',c,rfl,h1,h2⟩:=h;rw[BK,EP,AqQ]at h1;have:=AoJ l' [.ver r] [r] [r] c r (.ver r) h1 (RI r) (by simp) (by simp[st]) (by simp[comp];exact T.one r) (by simp[comp]) (by simpa using h2) (by simpa using hn);simpa using this
theorem T.AEl{r:Int}{l:List Tok}(h:T (.ver r::l)):Af (.ver r::l):=by
 obtain⟨t,ht⟩:∃ t,(Tok.ver r::l).getLast? = some t:=⟨_,List.getLast?_eq_some_getLast (by simp)⟩
 obtain⟨c,h1,h2⟩:=h.toC _ (Rot.refl _) t ht;have h1':=h1;rw[BK,Aqh]at h1';obtain⟨s,g1,_⟩:=h1';have e:t.st=r:=by simp only[step]at g1;split at g1;assumption;cases g1
 rw[e]at h1;exact⟨r,l,c,rfl,h1,fun x hx=>(h2 x).1 hx⟩
end Go.Pev.Pl.Tok
end
section
namespace Go.Pev.Pl.Tok
theorem T.AL5{l:List Tok}(h:T l):∃ v r,Rot l (.ver v::r):=by obtain⟨f1,f2,_⟩:=h.facts;obtain⟨t,ht⟩:=List.exists_mem_of_ne_nil l f1;obtain⟨a,b,rfl⟩:=Ar3 (f2 t ht);exact⟨t.st,b++a,a,.ver t.st::b,rfl,rfl⟩
theorem T.less{x:Tok}{v:Int}{l:List Tok}(h:T (x :: .arc x.st v :: .ver v :: .arc v x.st::l)):T (x::l):=by
 have hC:=h.toC;have hn:=h.nodup;obtain⟨_,f2,f3⟩:=h.facts;have hne:x.st≠v:=(f3 x.st v (by simp)).2.2.2;have hvl:Tok.ver v∉l:=by intro hm;simp only[AqO,Apv,not_or]at hn;exact hn.2.2.1.2 hm
 have hvx:x≠.ver v:=by rintro rfl;exact hne rfl
 have key:∀ p q,l=p++q→∀ t0,(q++x::p).getLast? = some t0→∃ c,run ([t0.st],[t0.st]) (q++x::p)=some ([t0.st],c)∧∀ y,y∈c↔.ver y∈x::l:=by
  intro p q hl t0 ht0;have hrot:Rot (x :: .arc x.st v :: .ver v :: .arc v x.st::l) (q++x :: .arc x.st v :: .ver v :: .arc v x.st::p):=⟨x :: .arc x.st v :: .ver v :: .arc v x.st::p,q,by simp[hl],rfl⟩
  have ht:∃ t,(q++x::Tok.arc x.st v :: .ver v :: .arc v x.st::p).getLast? = some t∧t.st=t0.st:=by
   cases p with
    |nil=>rw[ArI]at ht0;cases ht0;exact⟨.arc v x.st,by rw[show q++[x,Tok.arc x.st v,.ver v,.arc v x.st]=(q++[x,Tok.arc x.st v,.ver v])++[Tok.arc v x.st] by simp,ArI],rfl⟩
    |cons y p=>refine⟨t0,?_,rfl⟩;rw[show q++x::Tok.arc x.st v :: .ver v :: .arc v x.st::y::p=(q++[x,Tok.arc x.st v,.ver v,.arc v x.st])++y::p by simp,Aro];rw[show q++x::y::p=(q++[x])++y::p by simp,Aro]at ht0;exact ht0
  obtain⟨t,e0,e1⟩:=ht;obtain⟨c,h1,h2⟩:=hC _ hrot t e0;rw[e1,show q++x::Tok.arc x.st v :: .ver v :: .arc v x.st::p=(q++[x])++Tok.arc x.st v :: .ver v :: .arc v x.st::p by simp,Ef,Aqh]at h1;obtain⟨⟨w1,c1⟩,g1,g2⟩:=h1;obtain⟨i1,i2,i3⟩:=Pr g1 (RI _);have i3':=i3 x (by simp);simp only at i3';cases w1 with
   |nil=>simp at i3'
   |cons w0 w'=>
    simp at i3';subst i3';rw[BK,Aqh]at g2;obtain⟨s1,k1,k2⟩:=g2;rcases Dh k1 with⟨v',r,e,_⟩|⟨u',v',r,e,hw,rfl⟩|⟨u',v',r,e,hw,hh,hnc,rfl⟩
    cases e;cases e;simp only[AqF]at hw;obtain⟨_,rfl⟩:=hw;exfalso;rw[BK,EP,AqQ,BK,Aqh]at k2;obtain⟨s2,m1,_⟩:=k2;have hnd:=i1.1;rcases Dh m1 with⟨v',r',e,_⟩|⟨u',v',r',e,hw,rfl⟩|⟨u',v',r',e,hw,hh,hnc,rfl⟩
    cases e;cases e;simp only[AqF]at hw;obtain⟨_,rfl⟩:=hw;simp at hnd;cases e;exact hnc (i1.2 _ (by simp));cases e;simp only[AqF,Arx]at hw;subst hw;simp only at hnc;rw[BK,EP,AqQ,BK,IF,AqQ]at k2;have hvw:v∉x.st::w':=fun hm=>hnc (i1.2 v hm);obtain⟨_,d,m1,m2,m3⟩:=AJQ (z:=v) (c:=c1) k2 hvw (fun y=>by simp[or_comm]) hnc;refine⟨d,?_,fun y => ?_⟩;rw[show q++x::p=(q++[x])++p by simp,Ef,g1,AqQ,m1];have q1:=m2 y;have q2:=h2 y;by_cases e:y=v;subst e;refine⟨fun h=>absurd h m3,fun h => ?_⟩;rcases Apv.1 h with h|h;exact absurd h.symm hvx;exact absurd h hvl;rw[q2]at q1;simp only[e,AsD]at q1;rw[← q1];simp[e]
 obtain⟨s,b,a,hsb⟩:∃ s a b,x::l=a ++ .ver s::b:=by have:=f2 x (by simp);simp only[Apv,reduceCtorEq,false_or,Tok.ver.injEq,hne]at this;rcases this with h|h;exact⟨x.st,[],l,by rw[← h];rfl⟩;obtain⟨a,b,rfl⟩:=Ar3 h;exact⟨x.st,x::a,b,rfl⟩
 have hg:Af (.ver s::a++b):=by
  have hr:∃ p q,l=p++q∧q++x::p = .ver s::a++b:=by
   cases b with
    |nil=>simp only[AqI,AqF]at hsb;obtain⟨rfl,rfl⟩:=hsb;exact⟨l,[],by simp,by simp⟩
    |cons y b=>simp only[AqJ,AqF]at hsb;obtain⟨rfl,rfl⟩:=hsb;exact⟨b,.ver s::a,rfl,by simp⟩
  obtain⟨p,q,hl,e⟩:=hr;obtain⟨t0,ht0⟩:∃ t0,(q++x::p).getLast? = some t0:=⟨_,List.getLast?_eq_some_getLast (by simp)⟩
  obtain⟨c,h1,h2⟩:=key p q hl t0 ht0;rw[e]at h1;have h1':=h1;rw[AqJ,BK,Aqh]at h1';obtain⟨s',g1,_⟩:=h1';have e':t0.st=s:=by simp only[step]at g1;split at g1;assumption;cases g1
  rw[e']at h1;refine⟨s,a++b,c,rfl,h1,fun y hy => ?_⟩;have:=(h2 y).1 hy;rw[hsb]at this;simp only[Ap6,Apv]at this ⊢;rcases this with h|h|h<;>simp[h]
 have hrot2:Rot (.ver s::a++b) (x::l):=⟨.ver s::a,b,rfl,hsb⟩
 have hnx:(x::l).Nodup:=by simp only[AqO,Apv,not_or]at hn ⊢;exact⟨hn.1.2.2.2,hn.2.2.2.2⟩
 exact(hg.toT (hrot2.nodup.2 hnx)).ARH hrot2
theorem T.leaf{l:List Tok}(h:T l):(∃ v,l=[.ver v])∨∃ x v r,Rot l (x :: .arc x.st v :: .ver v :: .arc v x.st::r):=by
 induction h with
  |one v=>exact .inl ⟨v,rfl⟩
  |add x l v h hne hv ih=>exact .inr ⟨x,v,l,Rot.refl _⟩
  |rot a b h ih=>
   rcases ih with⟨v,e⟩|⟨x,v,r,hr⟩
   have hr:Rot [.ver v] (b++a):=⟨a,b,e.symm,rfl⟩
   exact .inl ⟨v,List.perm_singleton.1 hr.perm.symm⟩;exact .inr ⟨x,v,r,Rot.trans ⟨b,a,rfl,rfl⟩ hr⟩
def Ll:List Tok→List Int
 |[]=>[]
 |.ver v::l=>v::Ll l
 |.arc _ _::l=>Ll l
theorem QD{v:Int}:∀ {l:List Tok},v∈Ll l↔.ver v∈l
 |[]=>by simp[Ll]
 |.ver w::l=>by simp[Ll,QD (l:=l)]
 |.arc _ _::l=>by simp[Ll,QD (l:=l)]
theorem AIW(a b:List Tok):Ll (a++b)=Ll a++Ll b:=by
 induction a with
  |nil=>rfl
  |cons t a ih=>cases t<;>simp[Ll,ih]
theorem T.len{l:List Tok}(h:T l):l.length+2=3*(Ll l).length:=by
 induction h with
  |one v=>rfl
  |add x l v h hne hv ih=>cases x<;>simp[Ll]at ih ⊢<;>omega
  |rot a b h ih=>simp only[AIW,Ap3]at ih ⊢;omega
end Go.Pev.Pl.Tok
end
section
namespace Go.Pev.Pl
section
variable {β:Type}
def BG(es:List (Int×β)):List Int:=es.map Prod.fst
theorem SS(es:List (Int×β)):(BG es).length=es.length:=by simp[BG]
theorem HU(es:List (Int×β))(k:Int)(v:β)(j:Int):AR (Ae es k v) j=if j=k then some v else AR es j:=by
 induction es with
  |nil=>simp only[Ae,AR];by_cases h:k=j;simp[h];simp[h,Aq2 h]
  |cons e es ih=>obtain⟨a,b⟩:=e;simp only[Ae];by_cases h:a=k;subst h;simp only[AqP,AR];by_cases h2:a=j;simp[h2];simp[h2,Aq2 h2];simp only[h,AqB,AR,ih];by_cases h2:a=j;subst h2;simp[h];simp[h2]
theorem Oj(es:List (Int×β))(k:Int)(v:β):BG (Ae es k v)=if k∈BG es then BG es else BG es++[k]:=by
 induction es with
  |nil=>rfl
  |cons e es ih=>
   obtain⟨a,b⟩:=e;simp only[Ae];by_cases h:a=k;subst h;simp[BG];simp only[h,AqB];show a::BG (Ae es k v)=_;rw[ih];have:k∈BG ((a,b)::es)↔k∈BG es:=by simp[BG,Aq2 h]
   simp only[this];split<;>rfl
theorem Te(es:List (Int×β))(k:Int):AR es k=none↔k∉BG es:=by
 induction es with
  |nil=>simp[AR,BG]
  |cons e es ih=>obtain⟨a,b⟩:=e;simp only[AR];by_cases h:a=k;simp[h,BG];simp only[h,AqB,ih];simp[BG,Aq2 h]
theorem FA(es:List (Int×β))(k:Int)(v:β)(j:Int):j∈BG (Ae es k v)↔j=k∨j∈BG es:=by rw[Oj];split;rename_i h;constructor;exact .inr;rintro (rfl|h2);exact h;exact h2;simp[or_comm]
theorem Jv{es:List (Int×β)}(h:(BG es).Nodup)(k:Int)(v:β):(BG (Ae es k v)).Nodup:=by rw[Oj];split;exact h;rename_i hk;rw[Arl];exact⟨h,by simp,fun a ha b hb=>by rintro rfl;simp at hb;exact hk (hb▸ha)⟩
end
def dd:List Int→List Int→List Int
 |ks,[]=>ks
 |ks,x::xs=>dd (if x∈ks then ks else ks++[x]) xs
theorem AoV:∀ (xs ks:List Int),(dd ks xs).length≤ks.length+xs.length∧((dd ks xs).length=ks.length+xs.length↔xs.Nodup∧∀ x∈xs,x∉ks):=by
 intro xs;induction xs with
  |nil=>intro ks;simp[dd]
  |cons x xs ih=>intro ks;rw[dd];by_cases h:x∈ks;obtain⟨h1,_⟩:=ih ks;rw[Ap5 h];refine⟨by simp only[Apw];omega,?_,fun hh=>absurd h (hh.2 x (by simp))⟩;intro e;simp only[Apw]at e;omega;obtain⟨h1,h2⟩:=ih (ks++[x]);rw[Ap4 h];simp only[Ap3,Apw,Ap8,Aqg]at h1 h2 ⊢;refine⟨by omega,?_⟩;rw[show ks.length+(xs.length+1)=ks.length+1+xs.length by omega,h2,AqO];constructor;rintro⟨g1,g2⟩;refine⟨⟨fun hx=>g2 x hx (by simp),g1⟩,fun y hy => ?_⟩;rcases Apv.1 hy with rfl|hy;exact h;exact fun hk=>g2 y hy (by simp[hk]);rintro⟨⟨g1,g2⟩,g3⟩;refine⟨g2,fun y hy hk => ?_⟩;simp only[Ap6,AqR]at hk;rcases hk with hk|rfl;exact g3 y (by simp[hy]) hk;exact g1 hy
theorem Ahi(xs:List Int):(dd [] xs).length=xs.length↔xs.Nodup:=by have:=(AoV xs []).2;simpa using this
theorem BD{α β ρ:Type}(g:β→α→α)(fin:α→ρ):∀ (xs:List β) (a:α),walk (fun x a=>.inl (g x a)) fin xs a=fin (xs.foldl (fun a x=>g x a) a):=by
 intro xs;induction xs with
  |nil=>intro a;rfl
  |cons x xs ih=>intro a;rw[walk,AqY];exact ih _
theorem N6{σ ρ β:Type}{step:σ→Option (σ⊕ρ)}(st:Nat→σ)(xs:List β)(P:β→Bool)(rt:Nat→ρ)(rf:ρ)(hs:xs.length<9223372036854775808)
  (h:∀ i x,i<xs.length→xs[i]? = some x→step (st i)=if P x then some (.inr (rt i))else some (.inl (st (i+1)))) (hN:step (st xs.length)=some (.inr rf)) :
  AL step many (st 0)=some (if xs.any P then rt (xs.findIdx P)else rf):=by
 have key:∀ (l:List β) (a:Nat),walk (fun x (a:Nat)=>if P x then .inr (rt a)else .inl (a+1)) (fun _=>rf) l a=if l.any P then rt (a+l.findIdx P)else rf:=by
  intro l;induction l with
   |nil=>intro a;rfl
   |cons x l ih=>intro a;rw[walk,List.any_cons,List.findIdx_cons];by_cases hx:P x=true;simp[hx];simp only[hx,AqC,AqB,AsE,cond_false];rw[ih,show a+1+List.findIdx P l=a+(List.findIdx P l+1) by omega]
 have:=CC (step:=step) (fun i (a:Nat)=>st a) xs (fun x (a:Nat)=>if P x then .inr (rt a)else .inl (a+1)) (fun _=>rf) (fun i a=>a=i) hs
  (fun i x a hi hx ha=>by
   subst ha
   refine⟨fun a' h' => ?_,fun r h' => ?_⟩
   ·rw[h a x hi hx]
    split at h'
    ·cases h'
    ·rename_i hp
     cases h'
     simp[hp]
   ·rw[h a x hi hx]
    split at h'
    ·rename_i hp
     cases h'
     simp[hp]
    ·cases h')
  (fun a ha=>by subst ha;exact hN) 0 rfl
 rw[this,key,Aqg]
theorem Aa{α:Type}{xs:List α}{n:Nat}{x:α}(h:xs[n]? = some x):idx xs (n:Int)=some x:=by rw[AF0,h]
theorem AC7{α:Type}{xs:List α}{n:Nat}{x z:α}(h:xs[n]? = some x):AJ xs (AF (n:Int)) z=x:=by rw[LL,Apu,h];rfl
theorem OO{α:Type}{xs:List α}{h:Nat}(h2:h≤xs.length):CE xs (0:Int) (h:Int)=some (xs.take h):=by have:=AEs (xs:=xs) (l:=0) (AsH h) h2;simpa using this
theorem IE{α:Type}{xs:List α}{l:Nat}(h1:l≤xs.length):CE xs (l:Int) (AH xs)=some (xs.drop l):=by have:=AEs (xs:=xs) h1 (Ap1 _);rw[ArZ]at this;exact this
def pos(xs:List Int)(t:Int):Int:=if t∈xs then((xs.findIdx (fun x=>decide (x=t)):Nat):Int)else -1
theorem AWT(xs:List Int)(t:Int):(xs.any fun x=>decide (x=t))=decide (t∈xs):=by
 induction xs with
  |nil=>rfl
  |cons x xs ih=>simp only[List.any_cons,ih,Apv,Bool.decide_or];congr 1;exact Ary.2 eq_comm
theorem AFP{xs:List Int}{t:Int}(h:t∈xs):∃ k:Nat,pos xs t=(k:Int)∧k<xs.length∧xs[k]? = some t∧xs=xs.take k++t::xs.drop (k+1)∧t∉xs.take k:=by
 have hk:xs.findIdx (fun x=>decide (x=t))<xs.length:=Ara.2 ⟨t,h,by simp⟩;have hg:xs[xs.findIdx (fun x=>decide (x=t))]'hk=t:=by have:=List.findIdx_getElem (xs:=xs) (p:=fun x=>decide (x=t)) (w:=hk);simpa using this
 refine⟨_,by rw[pos,Ap5 h],hk,by rw[Apz hk,hg],?_,?_⟩;·conv=>lhs;rw[← Aqa (xs.findIdx (fun x=>decide (x=t))) xs,AqX hk,hg]
 intro hm;obtain⟨j,hj,e⟩:=Arp.1 hm;have:=List.not_of_lt_findIdx (p:=fun x=>decide (x=t)) (xs:=xs) (i:=j) (by omega);simp[e]at this
theorem Pz{xs:List Int}{t:Int}(h:t∉xs):pos xs t = -1:=by rw[pos,Ap4 h]
end Go.Pev.Pl
end
section
section
namespace Go.Pev.Pl
open Tok
def In(n v:Int):Prop:=1≤n∧n≤64∧0≤v∧v<n
instance (n v:Int):Decidable (In n v):=inferInstanceAs (Decidable (_∧_))
def Sz(n:Int):Prop:=1≤n∧n≤64
instance (n:Int):Decidable (Sz n):=inferInstanceAs (Decidable (_∧_))
theorem KZ(n:Int):OK (n,())=some (decide (Sz n),()):=by rw[ABc,Wm];simp only[Ao];by_cases h1:1≤n<;>by_cases h2:n≤64<;>simp[Sz,h1,h2]
theorem AEr(n v:Int):tin (n,v,())=some (decide (In n v),()):=by rw[AdR,AdS];simp only[KZ,Ao,Ab];by_cases h1:1≤n<;>by_cases h2:n≤64<;>by_cases h3:0≤v<;>simp[In,Sz,h1,h2,h3]
def Apa(n v:Int):Int:=if In n v then v else -1
def EM(n u v:Int):Int:=if In n u∧In n v∧u≠v then n*(u+1)+v else -1
theorem Fz{n u:Int}(h1:1≤n)(h2:n≤64)(h3:0≤u)(h4:u≤64):0≤n*u∧n*u≤4096:=by refine⟨Int.mul_nonneg (by omega) h3,?_⟩;have:=Int.mul_le_mul h2 h4 h3 (by omega);omega
theorem AIs(n u v:Int):AdW (n,u,v,())=some (EM n u v,()):=by rw[AUR,APJ];simp only[AEr,EM,As];by_cases h3:u=v;simp[h3];by_cases h1:In n u;by_cases h2:In n v;obtain⟨a1,a2,a3,a4⟩:=h1;obtain⟨b1,b2,b3,b4⟩:=h2;have hb:=Fz (u:=u+1) a1 a2 (by omega) (by omega);rw[Ad (n:=u+1) (by omega),Ad (n:=n*(u+1)) (by omega),Ad (n:=n*(u+1)+v) (by omega)];simp[In,a1,a2,a3,a4,b3,b4,h3];simp[h1,h2,h3];simp[h1,h3]
def CD(n t:Int):Option Tok:=
 if In n t then some (.ver t)
 else if Sz n∧n≤t∧t<n*(n+1)∧t/n-1≠t % n then some (.arc (t/n-1) (t % n))
 else none
def Nt:Option Tok→Int×Int×Bool×Bool×Unit
 |some (.ver v)=>(v,0,false,true,())
 |some (.arc u v)=>(u,v,true,true,())
 |none=>(0,0,false,false,())
def Dw(n:Int):Tok→Int
 |.ver v=>v
 |.arc u v=>n*(u+1)+v
def okT(n:Int):Tok→Prop
 |.ver v=>In n v
 |.arc u v=>In n u∧In n v∧u≠v
theorem WN{n u v:Int}(h1:In n u)(h2:In n v):n≤n*(u+1)+v∧n*(u+1)+v<n*(n+1)∧(n*(u+1)+v)/n=u+1∧(n*(u+1)+v) % n=v:=by
 obtain⟨a1,a2,a3,a4⟩:=h1;obtain⟨b1,b2,b3,b4⟩:=h2;have e2:n*(u+1)=n*u+n:=by rw[Asb,Asc]
 have e3:n*(n+1)=n*n+n:=by rw[Asb,Asc]
 have hb:=Fz (u:=u) a1 a2 (by omega) (by omega);have hle:n*(u+1)≤n*n:=Int.mul_le_mul_of_nonneg_left (by omega) (by omega);have hd:(n*(u+1)+v)/n=u+1:=by rw[Int.add_comm,Int.add_mul_ediv_left _ _ (by omega),Int.ediv_eq_zero_of_lt b3 b4];omega
 have hm:(n*(u+1)+v) % n=v:=by rw[Int.add_comm,Int.add_mul_emod_self_left,Int.emod_eq_of_lt b3 b4]
 exact⟨by omega,by omega,hd,hm⟩
theorem AGW{n t:Int}(hn:Sz n)(h1:n≤t)(h2:t<n*(n+1)):In n (t/n-1)∧In n (t % n)∧n*(t/n-1+1)+t % n=t:=by obtain⟨a1,a2⟩:=hn;have g1:1≤t/n:=(Int.le_ediv_iff_mul_le (by omega)).2 (by omega);have g2:t/n<n+1:=(Int.ediv_lt_iff_lt_mul (by omega)).2 (by rw[Int.mul_comm];exact h2);have g3:=Int.emod_nonneg t (show n≠0 by omega);have g4:=Int.emod_lt_of_pos t (show 0<n by omega);have g5:=Int.mul_ediv_add_emod t n;refine⟨⟨a1,a2,by omega,by omega⟩,⟨a1,a2,g3,g4⟩,?_⟩;rw[Int.sub_add_cancel];exact g5
theorem D4{n:Int}{t:Tok}(h:okT n t):CD n (Dw n t)=some t:=by
 cases t with
  |ver v=>simp only[okT]at h;simp[CD,Dw,h]
  |arc u v=>
   obtain⟨h1,h2,h3⟩:=h;obtain⟨g1,g2,g3,g4⟩:=WN h1 h2;have hni:¬ In n (n*(u+1)+v):=fun h=>by have:=h.2.2.2;omega
   have:u+1-1=u:=by omega
   simp only[CD,Dw,hni,AqB,g3,g4,this];rw[Ap5 ⟨⟨h1.1,h1.2.1⟩,g1,g2,h3⟩]
theorem Sk{n x:Int}{t:Tok}(h:CD n x=some t):okT n t∧Dw n t=x:=by rw[CD]at h;split at h;cases h;exact⟨by assumption,rfl⟩;split at h;rename_i hh;cases h;obtain⟨d1,d2,d3⟩:=AGW hh.1 hh.2.1 hh.2.2.1;exact⟨⟨d1,d2,hh.2.2.2⟩,d3⟩;cases h
theorem FX{n u v:Int}(h:okT n (.arc u v)):EM n u v=Dw n (.arc u v):=by simp only[okT]at h;rw[EM,Ap5 h];rfl
theorem GX{n:Int}{a b:Tok}(ha:okT n a)(hb:okT n b)(h:Dw n a=Dw n b):a=b:=by have:=D4 ha;rw[h,D4 hb]at this;exact(Arf this).symm
theorem AO1(n t:Int)(ht:-9223372036854775808≤t∧t≤9223372036854775807):AEg (n,t,())=some (Nt (CD n t)):=by
 rw[ABb,Wl];simp only[KZ];by_cases hs:Sz n;obtain⟨a1,a2⟩:=hs;have hb:=Fz (u:=n) a1 a2 (by omega) (by omega);have e3:n*(n+1)=n*n+n:=by rw[Asb,Asc]
 rw[Ad (n:=n+1) (by omega),Ad (n:=n*(n+1)) (by omega)];simp only[Sz,a1,a2,and_self,Apy,Apx,Ab,Ao];by_cases h1:t<0;have hni:¬ In n t:=fun h=>by have:=h.2.2.1;omega
 have h2:¬ n≤t:=by omega
 simp only[h1,Apy,CD,hni,AqB,h2,ArX,and_false,Nt];simp only[h1,AqA];by_cases h2:n*(n+1)≤t;have hni:¬ In n t:=fun h=>by have:=h.2.2.2;omega
 have h3:¬ t<n*(n+1):=by omega
 simp only[h2,Apy,CD,hni,AqB,h3,ArX,and_false,Nt];simp only[h2,AqA];by_cases h3:t<n;have hi:In n t:=⟨a1,a2,by omega,h3⟩
 simp only[h3,Apy,CD,hi,AqP,Nt];have hni:¬ In n t:=fun h=>h3 h.2.2.2;have hq:t.tdiv n=t/n:=Aq6 (by omega);have hm:t.tmod n=t % n:=AsF (by omega);obtain⟨d1,d2,d3⟩:=AGW (t:=t) ⟨a1,a2⟩ (by omega) (by omega);have q1:=d1.2.2.1;have q2:=d1.2.2.2;simp only[h3,AqA,OT,AFM,XT,AP6];rw[Ap4 (by omega),Ap4 (by omega),hq,hm,Ad (n:=t/n) (by omega)];simp only[];rw[Ad (n:=t/n-1) (by omega),As,CD,Ap4 hni];by_cases h4:t/n-1=t % n;rw[Ap4 (by intro h;exact h.2.2.2 h4),Apr h4];rfl;rw[Ap5 ⟨⟨a1,a2⟩,by omega,by omega,h4⟩,Apo h4];rfl;have hni:¬ In n t:=fun h=>hs ⟨h.1,h.2.1⟩;simp only[hs,AqA,Aqb,CD,hni,AqB,ArX,Nt]
theorem Ou(xs ys:List Int)(hs:xs.length<9223372036854775808):Ov (xs,ys,())=some (decide (xs=ys),()):=by
 rw[ACo,YB,YH];by_cases hl:xs.length=ys.length;rw[Apr hl];simp only[Apx];rcases AI9 (step:=Hw) (fun i=>(xs,ys,((i:Nat):Int),())) xs.length (fun i => !decide (xs.getD i 0=ys.getD i 0)) (fun _=>.inl (false,())) (.inr (.inl ())) hs (fun i hi=>by rw[Hw,AK,AN,Apr hi];simp (disch:=omega) only[EV (0:Int),AO,As];by_cases h:xs.getD i 0=ys.getD i 0;rw[Apr h];simp;rw[Apo h];simp) (by rw[Hw,AK,AN,Apo (by omega)])with⟨k,hk,hP,_,e⟩|⟨h,e⟩
 have e':AL Hw many (xs,ys,(0:Int),())=_:=e;rw[e'];have:xs≠ys:=Td (0:Int) (j:=k) (by simpa using hP);simp[this];have e':AL Hw many (xs,ys,(0:Int),())=_:=e;rw[e'];have:xs=ys:=Ha (0:Int) hl fun j hj=>by simpa using h j hj
 simp[this];rw[Apo hl];have:xs≠ys:=fun e=>hl (by rw[e]);simp[this]
def BV(n:Nat):List (List Int):=(List.range n).map fun(v:Nat)=>[(v:Int)]
theorem Pm(n:Nat):BV (n+1)=BV n++[[(n:Int)]]:=by simp[BV,Aqp]
theorem TG(n:Nat):(BV n).length=n:=by simp[BV]
theorem AO8(N:Nat)(hN:N≤64)(c:Int):∀ (k i n:Nat),i+k=N→k<n→AU Lq n (c,(N:Int),BV i,(N:Int),(i:Int),())=some (.inl (c,(N:Int),BV N,())):=by
 intro k;induction k with
  |zero=>
   intro i n hi hn;obtain⟨n,rfl⟩:∃ k,n=k+1:=⟨n-1,by omega⟩
   have:i=N:=by omega
   subst this;rw[AU,Lq,AN,Apo (by omega)]
  |succ k ih=>
   intro i n hi hn;obtain⟨n,rfl⟩:∃ k,n=k+1:=⟨n-1,by omega⟩
   rw[AU,Lq,AN,Apr (by omega)];simp only[AK,TG,Apw,Ap8];rw[A7 (by omega),AO (by omega)];simp only[DG,← Pm];exact ih (i+1) n (by omega) (by omega)
def HT(n:Int):Int×List (List Int)×Int×Unit:=if Sz n then(n,BV n.toNat,0,())else(0,[],1,())
theorem ABg(n:Int):AUQ (n,())=some (HT n):=by
 have hm:4294967296<many:=by simp only[many];omega
 rw[AIh,AEn,HT];simp only[KZ];by_cases h:Sz n;obtain⟨h1,h2⟩:=h;obtain⟨N,rfl⟩:=Ap7 (show 0≤n by omega);have hS:Sz (N:Int):=⟨by omega,by omega⟩
 have e:=AO8 N (by omega) 0 N 0 many (by omega) (by omega);have e':AU Lq many (0,(N:Int),[],(N:Int),(0:Int),())=_:=e;simp[hS,At,e'];simp[h]
end Go.Pev.Pl
end
section
namespace Go.Pev.Pl
theorem Ox(xs:List Int)(t:Int)(hs:xs.length<9223372036854775808):SY (xs,t,())=some (pos xs t,()):=by
 rw[ACq,YF]
 have e:=N6 (step:=J5) (fun i=>(xs,t,AH xs,(i:Int),())) xs (fun x=>decide (x=t)) (fun i=>.inl ((i:Int),())) (.inr (.inl ())) hs
  (fun i x hi hx=>by
   rw[J5,AK,AN,Apr hi]
   simp only[Aa hx,As]
   by_cases h:x=t
   ·simp[h]
   ·simp only[h,Aq2 h,AqA];rw[AO (by omega)];simp)
  (by rw[J5,AK,AN,Apo (by omega)])
 have e':AL J5 many (xs,t,AH xs,(0:Int),())=_:=e;rw[e',AWT,pos];by_cases h:t∈xs<;>simp[h]
theorem Jj(xs:List Int)(t:Int)(hs:xs.length<9223372036854775808):GG (xs,t,())=some (decide (t∈xs),()):=by rw[Q6,Me];simp only[Ox xs t hs,Ao];by_cases h:t∈xs;obtain⟨k,e,_⟩:=AFP h;rw[e];simp[h];rw[Pz h];simp[h]
def Rt(xs:List Int):Prop:=xs.length≤1000∧(∀ x∈xs,0≤x∧x≤10000)∧xs.Nodup
instance (xs:List Int):Decidable (Rt xs):=inferInstanceAs (Decidable (_∧_∧_))
theorem QA(xs:List Int):xs.Nodup↔∀ i,i<xs.length→xs.getD i 0∉xs.take i:=by rw[List.Nodup,Arq];constructor;intro h i hi hm;obtain⟨j,hj,e⟩:=Arp.1 hm;have:=h j i (by omega) hi (by omega);rw[Apu,Apz hi,AqK]at e;exact this e;intro h i j hi hj hij e;apply h j hj;rw[Apu,Apz hj,AqK,← e];exact Arp.2 ⟨i,by omega,rfl⟩
theorem AL4(xs:List Int)(hs:xs.length<9223372036854775808):GY (xs,())=some (xs.any (fun x=>decide (x<0)||decide (10000<x)),()):=by
 rw[KF,HF,LV,Ic]
 have e:=N6 (step:=DP) (fun i=>(xs,AH xs,(i:Int),())) xs (fun x=>decide (x<0)||decide (10000<x)) (fun i=>.inl ((i:Int),())) (.inr (.inl ())) hs
  (fun i x hi hx=>by
   rw[DP,AK,AN,Apr hi]
   simp only[Aa hx,Ab]
   rw[AO (by omega)]
   by_cases h:x<0
   ·simp[h]
   ·by_cases h2:10000<x
    ·simp[h,h2]
    ·simp[h,h2])
  (by rw[DP,AK,AN,Apo (by omega)])
 have e':AL DP many (xs,AH xs,(0:Int),())=_:=e;rw[e'];generalize (xs.any fun x=>decide (x<0)||decide (10000<x))=b;cases b<;>simp[Ao]
theorem Afv(xs:List Int)(hs:xs.length<9223372036854775808):once (xs,())=some (decide xs.Nodup,()):=by
 rw[AVO,ARF]
 have e:=CC (step:=P7) (fun i m=>(xs,m,xs,AH xs,(i:Int),())) xs (fun x m=>.inl (Ae m x (IntKind.wrap .i64 (((AR m x).getD (0:Int))+(1:Int))))) (fun m=>.inl (xs,m,())) (fun _ _=>True) hs
  (fun i x m hi hx _=>by
   refine⟨fun m' h' => ?_,fun r h'=>by cases h'⟩
   cases h'
   rw[P7,AK,AN,Apr hi]
   simp only[Aa hx]
   rw[AO (by omega)]
   exact⟨rfl,trivial⟩)
  (fun m _=>by rw[P7,AK,AN,Apo (by omega)]) [] trivial
 have e':AL P7 many (xs,([]:List (Int×Int)),xs,AH xs,(0:Int),())=_:=e;rw[e',BD];have key:∀ (l:List Int) (m:List (Int×Int)),BG (l.foldl (fun m x=>Ae m x (IntKind.wrap .i64 (((AR m x).getD (0:Int))+(1:Int)))) m)=dd (BG m) l:=by
  intro l;induction l with
   |nil=>intro m;rfl
   |cons x l ih=>intro m;rw[AqY,ih,Oj,dd]
 have hk:=key xs [];generalize xs.foldl (fun m x=>Ae m x (IntKind.wrap .i64 (((AR m x).getD (0:Int))+(1:Int)))) []=m at *;simp only[YH];have:m.length=(dd [] xs).length:=by rw[← SS,hk];rfl
 rw[this];simp only[Ahi]
theorem Ki(xs:List Int):Ly (xs,())=some (decide (Rt xs),()):=by
 rw[AB7,XM,AK,Ab];by_cases hl:xs.length≤1000;rw[Apo (by omega)];simp only[AL4 xs (by omega),Afv xs (by omega)];have hany:(xs.any fun x=>decide (x<0)||decide (10000<x)) = !decide (∀ x∈xs,0≤x∧x≤10000):=by rw[AsL];simp only[Arw,Aqu,Aps,Aqz,Aqc];constructor;rintro⟨x,hx,h⟩ hh;have:=hh x hx;omega;intro h;refine Aql fun hc=>h fun x hx => ?_;refine Aql fun hn=>hc ⟨x,hx,by omega⟩
 rw[hany];by_cases h1:∀ x∈xs,0≤x∧x≤10000;rw[Apr h1];by_cases h2:xs.Nodup;rw[Apr h2,Apr (show Rt xs from⟨hl,h1,h2⟩)];rfl;rw[Apo h2,Apo (show ¬ Rt xs from fun h=>h2 h.2.2)];rfl;rw[Apo h1,Apo (show ¬ Rt xs from fun h=>h1 h.2.1)];rfl;rw[Apr (by omega),Apo (show ¬ Rt xs from fun h=>hl h.1)]
def rot(xs:List Int)(k:Nat):List Int:=xs.drop k++xs.take k
theorem Aao(n:Nat)(hn:n<4294967296):ALE ((n:Int),())=some ([],()):=by
 have e0:IntKind.wrap .i64 ((n:Int)-IntKind.wrap .i64 ((0:Int)-0))=(n:Int):=by rw[Ad (n:=(0:Int)-0) (by omega),Ad (by omega)];omega
 rw[YQ,WL];simp only[e0,Ab];rw[Apo (by omega)];simp only[];by_cases h:0<n;rw[Apr (by omega)];have s1:CE ([]:List Unit) (0:Int) (0:Int)=some []:=by rw[NF];rfl
 have s2:CE (Cb (AF (n:Int)) (0:Int)) (0:Int) (0:Int)=some []:=by rw[NF,ABq,Ap5 (by omega)];simp
 have s3:Bq (n:Int)=true:=(Hy _).2 (by omega);simp only[s1,s2,s3];rfl;rw[Apo (by omega)]
theorem JO{α:Type}{xss:List (List α)}{i:Nat}{x:List α}(h:xss[i]? = some x):(xss.take (i+1)).flatten=(xss.take i).flatten++x:=by rw[List.take_add_one,h];simp
theorem LX{α:Type}(xss:List (List α))(i:Nat):(xss.take i).flatten.length≤xss.flatten.length:=by
 conv=>rhs;rw[← Aqa i xss,AsI,Ap3]
 omega
theorem Mh(xss:List (List Int))(hs:xss.length<4294967296)(h:xss.flatten.length<4294967296):Hc (xss,())=some (xss.flatten,()):=by
 rw[PE,Ni]
 have e:=CC (step:=DI) (fun i (a:Nat)=>(xss,(a:Int),xss,AH xss,(i:Int),())) xss (fun x a=>.inl (a+x.length)) (fun a=>.inl (xss,(a:Int),())) (fun i a=>a=(xss.take i).flatten.length) (by omega)
  (fun i x a hi hx ha=>by
   refine⟨fun m' h' => ?_,fun r h'=>by cases h'⟩
   cases h'
   have h1:=JO hx
   have h2:=LX xss (i+1)
   rw[h1,Ap3]at h2
   rw[DI]
   simp only[AK]
   rw[AN,Apr hi]
   simp only[Aa hx]
   rw[wrap_add (by omega),AO (by omega),Ab,Apo (by omega)]
   exact⟨rfl,by rw[h1,Ap3,ha]⟩)
  (fun a _=>by rw[DI,AK,AN,Apo (by omega)]) 0 rfl
 have e':AL DI many (xss,(0:Int),xss,AH xss,(0:Int),())=_:=e;rw[e',BD];have hsum:∀ (l:List (List Int)) (a:Nat),l.foldl (fun a x=>a+x.length) a=a+l.flatten.length:=by
  intro l;induction l with
   |nil=>intro a;rfl
   |cons x l ih=>intro a;rw[AqY,ih,Aqy,Ap3];omega
 rw[hsum,Aqg];simp only[Aao _ h]
 have g:=CC (step:=DH) (fun i (a:List Int)=>(a,xss,AH xss,(i:Int),())) xss (fun x a=>.inl (a++x)) (fun a=>.inl (a,())) (fun i a=>a=(xss.take i).flatten) (by omega)
  (fun i x a hi hx ha=>by
   refine⟨fun m' h' => ?_,fun r h'=>by cases h'⟩
   cases h'
   have h1:=JO hx
   have h2:=LX xss (i+1)
   rw[h1,Ap3]at h2
   rw[DH]
   simp only[AK]
   rw[AN,Apr hi]
   simp only[Aa hx]
   rw[AO (by omega),A7 (by rw[ha];omega)]
   exact⟨rfl,by rw[h1,ha]⟩)
  (fun a _=>by rw[DH,AK,AN,Apo (by omega)]) [] rfl
 have g':AL DH many ([],xss,AH xss,(0:Int),())=_:=g;rw[g',BD];have hcat:∀ (l:List (List Int)) (a:List Int),l.foldl (fun a x=>a++x) a=a++l.flatten:=by
  intro l;induction l with
   |nil=>intro a;simp
   |cons x l ih=>intro a;rw[AqY,ih,Aqy,ArV]
 rw[hcat];rfl
theorem Wi(xs:List Int)(k:Nat)(hk:k≤xs.length)(hs:xs.length<2147483648):Wk (xs,(k:Int),())=some (rot xs k,()):=by rw[ABa,Wj];simp only[IE hk,OO hk];rw[Mh _ (by simp) (by simp;omega)];simp[rot]
def A2(xs:List Int)(t:Int):List Int:=rot xs (xs.findIdx (fun x=>decide (x=t)))
def JN(xs:List Int)(t:Int):List Int×Bool×Unit:=if Rt xs∧t∈xs then(A2 xs t,true,())else([],false,())
theorem XO{xs:List Int}{t:Int}(h:t∈xs):∃ a b,xs=a++t::b∧t∉a∧A2 xs t=t::b++a:=by
 obtain⟨k,e,hk,hg,h1,h2⟩:=AFP h;rw[pos,Ap5 h]at e;have e':xs.findIdx (fun x=>decide (x=t))=k:=by omega
 refine⟨_,_,h1,h2,?_⟩;rw[A2,e',rot];congr 1;rw[AqX hk];congr 1;simpa [hk]using hg
theorem ACA(xs:List Int)(t:Int):AJZ (xs,t,())=some (JN xs t):=by
 rw[AJY,AFG,ACE,XX,JN];simp only[Ki];by_cases hr:Rt xs;have hl:=hr.1;simp only[hr,Apy,Apx,Arx];have e:AL Ho many (xs,[],[t],AH [t],(0:Int),())=some (.inl ([pos xs t],())):=by
  have g:=CC (step:=Ho) (fun i (a:List Int)=>(xs,a,[t],AH [t],(i:Int),())) [t] (fun x a=>.inl (a++[pos xs x])) (fun a=>.inl (a,())) (fun i a=>a.length=i) (by simp)
   (fun i x a hi hx ha=>by
    refine⟨fun m' h' => ?_,fun r h'=>by cases h'⟩
    cases h'
    rw[Ho,AK,AN,Apr hi]
    simp only[Aa hx,Ox xs x (by omega)]
    simp only[Apw,Ap8]at hi
    rw[AO (by omega),A7 (by simp only[AK,Apw,Ap8];omega)]
    exact⟨rfl,by simp[ha]⟩)
   (fun a _=>by rw[Ho,AK,AN,Apo (by omega)]) [] rfl
  have g':AL Ho many (xs,[],[t],AH [t],(0:Int),())=_:=g;rw[g'];rfl
 rw[e];simp only[Jj [pos xs t] (-1) (by simp)];by_cases h:t∈xs;have hk:xs.findIdx (fun x=>decide (x=t))<xs.length:=Ara.2 ⟨t,h,by simp⟩;rw[pos,Ap5 h,Ap5 h,A2];generalize xs.findIdx (fun x=>decide (x=t))=k at *;rw[Apo (by simp)];have i0:idx [(k:Int)] (0:Int)=some (k:Int):=by rw[Gr];rfl
 have d0:AJ [(k:Int)] 0 (0:Int)=(k:Int):=rfl;simp only[Aqb,Apx,i0,d0,Wi xs k (by omega) (by omega)];rw[Pz h,Ap4 h];simp;simp[hr]
def Gm:List Int→Int
 |[]=>0
 |x::xs=>xs.foldl (fun a y=>Bs a y) x
theorem ARz:∀ (xs:List Int) (a:Int),(xs.foldl (fun a y=>Bs a y) a)≤a∧(∀ x∈xs,xs.foldl (fun a y=>Bs a y) a≤x)∧(xs.foldl (fun a y=>Bs a y) a=a∨xs.foldl (fun a y=>Bs a y) a∈xs):=by
 intro xs;induction xs with
  |nil=>intro a;simp
  |cons x xs ih=>
   intro a;rw[AqY];obtain⟨h1,h2,h3⟩:=ih (Bs a x);have hm:Bs a x≤a∧Bs a x≤x∧(Bs a x=a∨Bs a x=x):=by rw[Bs];split<;>omega
   refine⟨by omega,fun y hy => ?_,?_⟩;rcases Apv.1 hy with rfl|hy;omega;exact h2 y hy;rcases h3 with h|h;rcases hm.2.2 with e|e;exact .inl (by rw[h,e]);exact .inr (by rw[h,e];simp);exact .inr (AqD _ h)
theorem Ew{xs:List Int}(h:xs≠[]):Gm xs∈xs∧∀ x∈xs,Gm xs≤x:=by
 cases xs with
  |nil=>exact absurd rfl h
  |cons x xs=>obtain⟨h1,h2,h3⟩:=ARz xs x;refine⟨?_,fun y hy => ?_⟩;rcases h3 with h|h;rw[Gm,h];simp;exact AqD _ h;rcases Apv.1 hy with rfl|hy;exact h1;exact h2 y hy
theorem Akn{xs:List Int}{m:Int}(h1:m∈xs)(h2:∀ x∈xs,m≤x):Gm xs=m:=by obtain⟨g1,g2⟩:=Ew (List.ne_nil_of_mem h1);have:=g2 m h1;have:=h2 _ g1;omega
theorem AKn(xs:List Int)(h:xs≠[])(hs:xs.length<9223372036854775808):Afx (xs,())=some (Gm xs,()):=by
 cases xs with
  |nil=>exact absurd rfl h
  |cons x xs=>
   rw[AVV,ARK,AK,Ab,Apo (by simp only[Apw];omega)];have i0:idx (x::xs) (0:Int)=some x:=by rw[Gr];rfl
   simp only[i0];simp only[Apw]at hs
   have e:=CC (step:=QC) (fun i (a:Int)=>(x::xs,a,((i+1:Nat):Int),())) xs (fun y a=>.inl (Bs a y)) (fun a=>.inl (a,())) (fun _ _=>True) (by omega)
    (fun i y a hi hy _=>by
     refine⟨fun m' h' => ?_,fun r h'=>by cases h'⟩
     cases h'
     rw[QC,AK,AN,Apr (by simp only[Apw];omega)]
     simp only[Aa (xs:=x::xs) (n:=i+1) (by simpa using hy)]
     rw[AO (by omega)]
     exact⟨rfl,trivial⟩)
    (fun a _=>by rw[QC,AK,AN,Apo (by simp)]) x trivial
   have e':AL QC many (x::xs,x,(1:Int),())=_:=e;rw[e',BD];rfl
def plain(xs:List Int):List Int:=if Rt xs∧xs≠[]then A2 xs (Gm xs)else []
theorem APq(xs:List Int):AFE (xs,())=some (plain xs,()):=by
 rw[AB8,XN,plain];simp only[Ki];by_cases hr:Rt xs;have hl:=hr.1;simp only[hr,Apy,Apx,Arx];by_cases h:xs=[]
 subst h;simp[AK,Db];have hp:0<xs.length:=List.length_pos_iff.2 h;rw[AK,As,Apo (by omega)];have hm:=(Ew h).1;have hk:xs.findIdx (fun x=>decide (x=Gm xs))<xs.length:=Ara.2 ⟨_,hm,by simp⟩;simp only[AKn xs h (by omega),Ox xs _ (show xs.length<9223372036854775808 by omega)];rw[pos,Ap5 hm,Ap5 (by simpa using h),A2];simp only[Wi xs _ (ArC hk) (by omega)];simp[hr]
theorem IL{xs:List Int}(hr:Rt xs)(h:xs≠[]):∃ a b,xs=a++Gm xs::b∧plain xs=Gm xs::b++a:=by obtain⟨a,b,h1,_,h2⟩:=XO (Ew h).1;exact⟨a,b,h1,by rw[plain,Ap5 ⟨hr,h⟩,h2]⟩
end Go.Pev.Pl
end
section
namespace Go.Pev.Pl
open Tok
def TI(n:Int)(xs:List Int):Prop:=∃ L,xs=L.map (Dw n)∧(∀ t∈L,okT n t)∧T L
noncomputable instance (n:Int) (xs:List Int):Decidable (TI n xs):=Classical.propDecidable _
abbrev ATM:=List Int×List (Int×Int)×List (Int×Int)
abbrev Amu:=(Bool×Unit)⊕(List Int×List (Int×Int)×List (Int×Int)×Unit)⊕Unit
def goF(n x:Int)(s:ATM):ATM⊕Amu:=
 match CD n x with
 |none=>.inr (.inl (false,()))
 |some t=>match Tok.step (s.1,BG s.2.1) t with
  |none=>.inr (.inl (false,()))
  |some s'=>match t with
   |.ver v=>.inl (s'.1,s.2.1,Ae s.2.2 v (IntKind.wrap .i64 (((AR s.2.2 v).getD (0:Int))+(1:Int))))
   |.arc _ v=>.inl (s'.1,if v∈BG s.2.1 then s.2.1 else Ae s.2.1 v 1,s.2.2)
def one(came:List (Int×Int)):Prop:=∀ k,(0<(AR came k).getD (0:Int))↔k∈BG came
theorem AZr{came:List (Int×Int)}(h:one came)(v:Int):one (Ae came v 1):=by intro k;rw[HU,FA];by_cases e:k=v;simp[e];simp only[e,AqB,false_or];exact h k
theorem Aas(n:Int)(xs:List Int)(i:Nat)(x:Int)(hx:xs[i]? = some x)(hi:i<xs.length)(hl:xs.length<4294967296)(hxr:-9223372036854775808≤x∧x≤9223372036854775807)
  (w:Int) (r:List Int) (came met:List (Int×Int)) (hr:r.length<4294967295) (hc:one came) (hsub:∀ y∈w::r,y∈BG came) :
  Nd (n,(w::r).reverse,came,met,xs,AH xs,(i:Int),())=match goF n x (w::r,came,met)with
   |.inl s=>some (.inl (n,s.1.reverse,s.2.1,s.2.2,xs,AH xs,((i+1:Nat):Int),()))
   |.inr y=>some (.inr y):=by
 have hd:AH ((w::r).reverse)=((r.length+1:Nat):Int):=by simp[AK]
 have e1:IntKind.wrap .i64 (((r.length+1:Nat):Int)-1)=(r.length:Int):=by rw[A8 (by omega)];rfl
 have i1:idx ((w::r).reverse) (r.length:Int)=some w:=by rw[AF0];simp
 have g1:AJ ((w::r).reverse) (AF (r.length:Int)) (0:Int)=w:=by rw[LL];simp
 have f1:∀ v:Int,fits (AH ((w::r).reverse)+AH [v])=true:=fun v=>A7 (by rw[hd,AK];simp only[Apw,Ap8];omega);have ap:∀ v:Int,Ai ((w::r).reverse) [v]=(v::w::r).reverse:=fun v=>by simp[DG]
 rw[Nd,AK,AN,Apr hi];rw[AK]at hd;simp only[Aa hx,AO1 n x hxr,goF];cases ht:CD n x with
  |none=>rfl
  |some t=>
   cases t with
    |ver v=>simp only[Nt,Apx,Aqb,AK,hd,e1,i1,g1,As,Tok.step];rw[AO (by omega)];by_cases h:w=v;simp[h];simp[h]
    |arc u v=>
     simp only[Nt,Apx,AK,hd,e1,i1,g1,As,Tok.step];rw[AO (by omega)];by_cases h:w=u;subst h;rw[Apr rfl];simp only[Apx];cases r with
      |nil=>
       have z:ilt (0:Int) ((([]:List Int).length:Nat):Int)=false:=by rw[Ab];rfl
       simp only[z];rw[Ab];have hcv:=hc v;by_cases hv:v∈BG came;rw[Apr (hcv.2 hv)];simp[hv];rw[Apo (fun h=>hv (hcv.1 h))];have f2:=f1 v;rw[AK,hd]at f2;have hz:(AR came v).getD (0:Int)=0:=by rw[(Te came v).2 hv];rfl
       have w1:IntKind.wrap .i64 ((0:Int)+1)=1:=by rw[Ad (by omega)];rfl
       rw[AK]at f2;simp only[f2,ap v,hz,w1,hv,AqB,AqP]
      |cons p r=>
       have z:ilt (0:Int) (((p::r).length:Nat):Int)=true:=by rw[Ab,Apr (by simp only[Apw];omega)]
       have e2:IntKind.wrap .i64 ((((p::r).length:Nat):Int)-1)=(r.length:Int):=by rw[A8 (by simp only[Apw]at hr ⊢;omega)];rfl
       have i2:idx ((w::p::r).reverse) (r.length:Int)=some p:=by rw[AF0];simp
       have g2:AJ ((w::p::r).reverse) (AF (r.length:Int)) (0:Int)=p:=by rw[LL];simp
       simp only[z,e2,i2,g2];by_cases hp:p=v;subst hp;rw[Apr rfl];have hmem:p∈BG came:=hsub p (by simp);have s1:CE ((w::p::r).reverse) (0:Int) (((p::r).length:Nat):Int)=some ((p::r).reverse):=by rw[OO (by simp)];rw[List.reverse_cons,AsN (by simp)]
       have t1:CL (AF (((p::r).reverse.length:Nat):Int)) ((w::p::r).reverse)=(p::r).reverse:=by rw[CL,MZ,List.reverse_cons (a:=w),AsN rfl]
       simp only[s1,t1,hmem,AqP];rw[Apo hp];simp only[hp,AqB];rw[Ab];have hcv:=hc v;by_cases hv:v∈BG came;rw[Apr (hcv.2 hv)];simp[hv];rw[Apo (fun h=>hv (hcv.1 h))];have f2:=f1 v;rw[AK,hd]at f2;have hz:(AR came v).getD (0:Int)=0:=by rw[(Te came v).2 hv];rfl
       have w1:IntKind.wrap .i64 ((0:Int)+1)=1:=by rw[Ad (by omega)];rfl
       rw[AK]at f2;simp only[f2,ap v,hz,w1,hv,AqB,AqP]
     rw[Apo h];simp[h]
end Go.Pev.Pl
end
section
namespace Go.Pev.Pl
open Tok
theorem DX{a b:List Int}(ha:a.Nodup)(h:∀ x∈a,x∈b):a.length≤b.length:=by
 induction a generalizing b with
  |nil=>simp
  |cons x a ih=>
   obtain⟨b1,b2,rfl⟩:=Ar3 (h x (by simp));rw[AqO]at ha;have:=ih (b:=b1++b2) ha.2 fun y hy=>by have:=h y (AqD _ hy);simp only[Ap6,Apv]at this ⊢;rcases this with h|rfl|h;exact .inl h;exact absurd hy ha.1;exact .inr h
   simp only[Ap3,Apw]at this ⊢;omega
theorem P9{a b:List Int}(ha:a.Nodup)(h:∀ x∈a,x∈b)(hl:b.length≤a.length):∀ x∈b,x∈a:=by
 intro x hx;refine Aql fun hn => ?_;have:=DX (a:=x::a) (b:=b) (AqO.2 ⟨hn,ha⟩) fun y hy=>by rcases Apv.1 hy with rfl|hy;exact hx;exact h y hy
 simp only[Apw]at this;omega
theorem W2{way c c2:List Int}(h:∀ x,x∈c↔x∈c2)(t:Tok):
  (Tok.step (way,c) t=none↔Tok.step (way,c2) t=none)∧∀ w1 c1,Tok.step (way,c) t=some (w1,c1)→∃ c1',Tok.step (way,c2) t=some (w1,c1')∧∀ x,x∈c1↔x∈c1':=by
 cases t with
  |ver v=>
   cases way with
    |nil=>simp[Tok.step]
    |cons w r=>by_cases e:w=v;simp only[Tok.step,e,AqP];exact⟨by simp,fun w1 c1 hh=>by cases hh;exact⟨c2,rfl,h⟩⟩;simp[Tok.step,e]
  |arc u v=>
   cases way with
    |nil=>simp[Tok.step]
    |cons w r=>
     by_cases e:w=u;cases r with
      |nil=>by_cases hv:v∈c;simp[Tok.step,e,hv,(h v).1 hv];have hv2:v∉c2:=fun q=>hv ((h v).2 q);simp only[Tok.step,e,AqP,hv,hv2,AqB];exact⟨by simp,fun w1 c1 hh=>by cases hh;exact⟨v::c2,rfl,fun x=>by simp[h]⟩⟩
      |cons p r=>by_cases e2:p=v;simp only[Tok.step,e,AqP,e2];exact⟨by simp,fun w1 c1 hh=>by cases hh;exact⟨c2,rfl,h⟩⟩;by_cases hv:v∈c;simp[Tok.step,e,e2,hv,(h v).1 hv];have hv2:v∉c2:=fun q=>hv ((h v).2 q);simp only[Tok.step,e,AqP,e2,hv,hv2,AqB];exact⟨by simp,fun w1 c1 hh=>by cases hh;exact⟨v::c2,rfl,fun x=>by simp[h]⟩⟩
     simp[Tok.step,e]
structure GI(s:ATM):Prop where
 ne:s.1≠[]
 one:one s.2.1
 sub:∀ y∈s.1,y∈BG s.2.1
 nc:(BG s.2.1).Nodup
 nm:(BG s.2.2).Nodup
theorem AVx{n x:Int}{s s':ATM}(hi:GI s)(h:goF n x s = .inl s'):
  GI s'∧s'.1.length≤s.1.length+1∧∃ t c1,CD n x=some t∧Tok.step (s.1,BG s.2.1) t=some (s'.1,c1)∧(∀ x,x∈c1↔x∈BG s'.2.1)∧(∀ y,y∈BG s'.2.2↔y∈BG s.2.2∨Tok.ver y=t):=by
 rw[goF]at h;cases ht:CD n x with
  |none=>rw[ht]at h;cases h
  |some t=>
   rw[ht]at h;simp only at h;cases hs:Tok.step (s.1,BG s.2.1) t with
    |none=>rw[hs]at h;cases h
    |some q=>
     obtain⟨w1,c1⟩:=q;rw[hs]at h;rcases Dh hs with⟨v,r,rfl,hw,e⟩|⟨u,v,r,rfl,hw,e⟩|⟨u,v,r,rfl,hw,hh,hn,e⟩
     cases h;cases e;refine⟨⟨hi.ne,hi.one,hi.sub,hi.nc,Jv hi.nm _ _⟩,by simp,_,_,rfl,hs,fun x=>Iff.rfl,fun y => ?_⟩;rw[FA];simp[or_comm];cases h;cases e;simp only at hw;have hv:v∈BG s.2.1:=hi.sub v (by rw[hw];simp);simp only[hv,AqP];refine⟨⟨by simp,hi.one,fun y hy=>hi.sub y (by rw[hw];exact AqD _ hy),hi.nc,hi.nm⟩,by rw[hw];simp,_,_,rfl,hs,fun x=>Iff.rfl,fun y=>by simp⟩;cases h;cases e;simp only at hw hn;simp only[hn,AqB];refine⟨⟨by simp,AZr hi.one v,fun y hy => ?_,Jv hi.nc _ _,hi.nm⟩,by rw[hw];simp,_,_,rfl,hs,fun x => ?_,fun y=>by simp⟩;rw[FA];rcases Apv.1 hy with rfl|hy;exact .inl rfl;exact .inr (hi.sub y (by rw[hw];exact hy));rw[FA,Apv]
def ALG(s:ATM):Amu:=.inr (.inl (s.1.reverse,s.2.1,s.2.2,()))
theorem Aaq(n:Int):∀ (xs:List Int) (s:ATM) (c:List Int),GI s→(∀ x,x∈c↔x∈BG s.2.1) →
  (∃ L s' c',xs=L.map (Dw n)∧(∀ t∈L,okT n t)∧run (s.1,c) L=some (s'.1,c')∧walk (goF n) ALG xs s=ALG s'∧GI s'∧(∀ x,x∈c'↔x∈BG s'.2.1)∧(∀ x,x∈BG s'.2.2↔x∈BG s.2.2∨Tok.ver x∈L)) ∨
  (walk (goF n) ALG xs s = .inl (false,())∧∀ L,xs=L.map (Dw n)→(∀ t∈L,okT n t)→run (s.1,c) L=none):=by
 intro xs;induction xs with
  |nil=>intro s c hi hc;exact .inl ⟨[],s,c,rfl,by simp,rfl,rfl,hi,hc,by simp⟩
  |cons x xs ih=>
   intro s c hi hc;rw[walk];have bad:∀ {t},CD n x=some t→Tok.step (s.1,BG s.2.1) t=none→∀ L,x::xs=L.map (Dw n)→(∀ t∈L,okT n t)→run (s.1,c) L=none:=by
    intro t ht hs L hL hok;cases L with
     |nil=>cases hL
     |cons t' L=>simp only[AqL,AqF]at hL;have h1:=D4 (hok t' (by simp));rw[← hL.1,ht]at h1;cases h1;rw[BK,((W2 hc t).1).2 hs];rfl
   cases hg:goF n x s with
    |inr r=>
     simp only;have hr:r = .inl (false,())∧∀ L,x::xs=L.map (Dw n)→(∀ t∈L,okT n t)→run (s.1,c) L=none:=by
      rw[goF]at hg;cases ht:CD n x with
       |none=>
        rw[ht]at hg;cases hg;refine⟨rfl,fun L hL hok => ?_⟩;cases L with
         |nil=>cases hL
         |cons t' L=>simp only[AqL,AqF]at hL;have h1:=D4 (hok t' (by simp));rw[← hL.1,ht]at h1;cases h1
       |some t=>
        rw[ht]at hg;simp only at hg;cases hs:Tok.step (s.1,BG s.2.1) t with
         |none=>rw[hs]at hg;cases hg;exact⟨rfl,bad ht hs⟩
         |some q=>rw[hs]at hg;cases t<;>cases hg
     rw[hr.1];exact .inr ⟨rfl,hr.2⟩
    |inl s'=>
     simp only;obtain⟨hi',_,t,c1,ht,hs,hcc,hm⟩:=AVx hi hg;obtain⟨c1',hs',hcc'⟩:=(W2 (c:=BG s.2.1) (c2:=c) (fun x=>(hc x).symm) t).2 _ _ hs;obtain⟨g1,g2⟩:=Sk ht;rcases ih s' c1' hi' (fun x=>(hcc' x).symm.trans (hcc x))with⟨L,s2,c2,a1,a2,a3,a4,a5,a6,a7⟩|⟨a1,a2⟩
     refine .inl ⟨t::L,s2,c2,by simp[g2,a1],?_,by rw[BK,hs'];exact a3,a4,a5,a6,fun y => ?_⟩;intro y hy;rcases Apv.1 hy with rfl|hy;exact g1;exact a2 y hy;rw[a7,hm,Apv,or_assoc];refine .inr ⟨a1,fun L hL hok => ?_⟩;cases L with
      |nil=>cases hL
      |cons t' L=>simp only[AqL,AqF]at hL;have h1:=D4 (hok t' (by simp));rw[← hL.1,ht]at h1;cases h1;rw[BK,hs'];exact a2 L hL.2 fun y hy=>hok y (AqD _ hy)
theorem APj:∀ {l:List Tok} {s s':List Int×List Int},run s l=some s'→s'.1.getLast? = s.1.getLast? := by
 intro l;induction l with
  |nil=>intro s s' h;cases h;rfl
  |cons t l ih=>
   intro s s' h;rw[BK,Aqh]at h;obtain⟨s1,h1,h2⟩:=h;rw[ih h2];rcases Dh h1 with⟨v,r,rfl,hw,rfl⟩|⟨u,v,r,rfl,hw,rfl⟩|⟨u,v,r,rfl,hw,hh,hn,rfl⟩
   rfl;rw[hw,AsW];rw[hw,AsW]
theorem AeG:∀ {l:List Tok} {s s':List Int×List Int},run s l=some s'→Tok.Inv s→∀ x,Tok.ver x∈l→x∈s'.2:=by
 intro l;induction l with
  |nil=>intro s s' _ _ x hx;cases hx
  |cons t l ih=>intro s s' h hi x hx;rw[BK,Aqh]at h;obtain⟨s1,h1,h2⟩:=h;obtain⟨i1,i2,i3⟩:=W1 h1 hi;rcases Apv.1 hx with rfl|hx;have:=(Pr h2 i1).2.1;refine this x (i1.2 x ?_);simp only[st]at i3;exact List.mem_of_head? i3;exact ih h2 i1 x hx
theorem AaD{n:Int}{L:List Tok}(h:(L.map (Dw n)).Nodup):L.Nodup:=by rw[List.Nodup,ArW]at h;exact h.imp fun h e=>h (by rw[e])
theorem AWW{n x:Int}{xs:List Int}(h:TI n (x::xs))(hm:Gm (x::xs)=x):In n x:=by
 obtain⟨L,h1,h2,h3⟩:=h;obtain⟨v,r,hr⟩:=h3.AL5;have hv:Tok.ver v∈L:=(hr.mem _).2 (by simp);have hvx:v∈x::xs:=by rw[h1];exact AqU.2 ⟨_,hv,rfl⟩
 have h4:=(Ew (xs:=x::xs) (by simp)).2 v hvx;rw[hm]at h4;have h5:=(h2 _ hv).2.2.2;cases L with
  |nil=>cases h1
  |cons t L=>
   simp only[AqL,AqF]at h1;have h6:=h2 t (by simp);cases t with
    |ver w=>rw[h1.1];exact h6
    |arc p q=>have:=(WN h6.1 h6.2.1).1;have e:x=n*(p+1)+q:=h1.1;omega
theorem Ag8(n:Int)(xs:List Int)(h0:xs≠[])(hs:xs.length<2147483648)(hr:∀ x∈xs, -9223372036854775808≤x∧x≤9223372036854775807)(hn:xs.Nodup)(hm:∀ x,xs.head? = some x→Gm xs=x):
  goes (n,xs,())=some (decide (TI n xs),()):=by
 cases xs with
  |nil=>exact absurd rfl h0
  |cons x0 tl=>
   rw[AVw,ARu];have i0:idx (x0::tl) (0:Int)=some x0:=by rw[Gr];rfl
   simp only[i0,AEr];by_cases hin:In n x0;rw[Apr hin];simp only[Apx];have hS:GI ([x0],Ae [] x0 1,[]):=by
    refine⟨by simp,fun k => ?_,fun y hy => ?_,?_,by simp[BG]⟩;have:AR (Ae ([]:List (Int×Int)) x0 1) k=if k=x0 then some 1 else none:=by rw[HU];rfl
    rw[this];by_cases e:k=x0<;>simp[e,Ae,BG];simp at hy;subst hy;simp[Ae,BG];simp[Ae,BG]
   have e:=CC (step:=Nd) (fun i (s:ATM)=>(n,s.1.reverse,s.2.1,s.2.2,x0::tl,AH (x0::tl),(i:Int),())) (x0::tl) (goF n) ALG (fun i s=>GI s∧s.1.length≤i+1) (by omega)
    (fun i x s hi hx ⟨hI,hlen⟩=>by
     obtain⟨way,came,met⟩:=s
     cases way with
     |nil=>exact absurd rfl hI.ne
     |cons w r=>
      have hst:=Aas n (x0::tl) i x hx hi (by omega) (hr x (Ap0 hx)) w r came met (by simp only[Apw]at hlen hi hs;omega) hI.one hI.sub
      refine⟨fun s' h' => ?_,fun y h' => ?_⟩
      ·rw[h']at hst
       obtain⟨g1,g2,_⟩:=AVx hI h'
       refine⟨hst,g1,?_⟩
       simp only at g2 hlen
       omega
      ·rw[h']at hst
       exact hst)
    (fun s _=>by rw[Nd,AK,AN,Apo (by omega)];rfl) ([x0],Ae [] x0 1,[]) ⟨hS,by simp⟩
   have e':AL Nd many (n,[x0],Ae [] x0 1,[],x0::tl,AH (x0::tl),(0:Int),())=_:=e;rw[e'];have hk0:BG (Ae ([]:List (Int×Int)) x0 1)=[x0]:=rfl;rcases Aaq n (x0::tl) ([x0],Ae [] x0 1,[]) [x0] hS (fun x=>by rw[hk0])with⟨L,s',c',a1,a2,a3,a4,a5,a6,a7⟩|⟨a1,a2⟩
   rw[a4];obtain⟨t,L',rfl⟩:∃ t L',L=t::L':=by cases L with
    |nil=>cases a1
    |cons t L'=>exact⟨t,L',rfl⟩
   have ht:t = .ver x0:=by have h1:=D4 (a2 t (by simp));simp only[AqL,AqF]at a1;rw[← a1.1,CD,Ap5 hin]at h1;exact(Arf h1).symm
   subst ht;have hLn:(Tok.ver x0::L').Nodup:=AaD (n:=n) (by rw[← a1];exact hn);have hbot:=APj a3;have hvs:=AeG a3 (RI x0);have hk:(BG s'.2.2).length≤(BG s'.2.1).length:=DX a5.nm fun x hx=>by have:=(a7 x).1 hx;simp only[BG,Art,ArO,false_or]at this;exact(a6 x).1 (hvs x this)
   have hiff:(s'.1.length=1∧(BG s'.2.2).length=(BG s'.2.1).length)↔TI n (x0::tl):=by
    constructor;rintro⟨l1,l2⟩;obtain⟨w,hw⟩:=List.length_eq_one_iff.1 l1;rw[hw]at hbot a3;simp at hbot;subst hbot;refine⟨_,a1,a2,Tok.Af.toT ⟨w,L',c',rfl,a3,fun x hx => ?_⟩ hLn⟩;have h1:=P9 a5.nm (fun x hx=>by have:=(a7 x).1 hx;simp only[BG,Art,ArO,false_or]at this;exact(a6 x).1 (hvs x this)) (by omega) x ((a6 x).1 hx)
    have:=(a7 x).1 h1;simpa [BG]using this;rintro⟨K,k1,k2,k3⟩;have hKL:K=Tok.ver x0::L':=by
     have:∀ (A B:List Tok),A.map (Dw n)=B.map (Dw n)→(∀ t∈A,okT n t)→(∀ t∈B,okT n t)→A=B:=by
      intro A;induction A with
       |nil=>intro B h _ _;cases B with
        |nil=>rfl
        |cons b B=>cases h
       |cons a A ih=>
        intro B h hA hB;cases B with
         |nil=>cases h
         |cons b B=>simp only[AqL,AqF]at h;rw[GX (hA a (by simp)) (hB b (by simp)) h.1,ih B h.2 (fun t ht=>hA t (by simp[ht])) fun t ht=>hB t (by simp[ht])]
     exact this _ _ (by rw[← k1,a1]) k2 a2
    subst hKL;obtain⟨r,l',c,q1,q2,q3⟩:=k3.AEl;cases q1;rw[a3]at q2;cases hs':s'.1 with
     |nil=>rw[hs']at q2;cases q2
     |cons w r'=>rw[hs']at q2;cases q2;refine⟨rfl,?_⟩;have:=DX a5.nc (b:=BG s'.2.2) fun x hx=>(a7 x).2 (.inr (q3 x ((a6 x).2 hx)));omega
   simp only[ALG,As,AK,List.length_reverse];rw[SS,SS]at hiff;by_cases l1:s'.1.length=1;rw[Apr (show(s'.1.length:Int)=1 by omega)];simp only[l1,Arx]at hiff;by_cases l2:s'.2.2.length=s'.2.1.length;rw[Apr (show(s'.2.2.length:Int)=(s'.2.1.length:Int) by omega),Apr (hiff.1 l2)];rw[Apo (show ¬ (s'.2.2.length:Int)=(s'.2.1.length:Int) by omega),Apo (fun h=>l2 (hiff.2 h))];rw[Apo (show ¬ (s'.1.length:Int)=1 by omega),Apo (fun h=>l1 (hiff.2 h).1)];rw[a1];have:¬ TI n (x0::tl):=by
    rintro⟨K,k1,k2,k3⟩;obtain⟨r,l',c,q1,q2,q3⟩:Tok.Af K:=by
     obtain⟨t,L',rfl⟩:∃ t L',K=t::L':=by cases K with
      |nil=>cases k1
      |cons t L'=>exact⟨t,L',rfl⟩
     have h1:=D4 (k2 t (by simp));simp only[AqL,AqF]at k1;rw[← k1.1,CD,Ap5 hin]at h1;cases h1;exact k3.AEl
    have hr0:r=x0:=by subst q1;simp only[AqL,AqF]at k1;exact k1.1.symm
    subst hr0;have:=a2 K k1 k2;simp only at this;rw[q2]at this;cases this
   simp[this];rw[Apo hin];have:¬ TI n (x0::tl):=fun h=>hin (AWW h (hm x0 rfl));simp[this]
end Go.Pev.Pl
end
end
section
namespace Go.Pev.Pl.Tok
theorem T.join{u v:Int}{a b:List Tok}(hA:T (.ver u::a))(hB:T (.ver v::b))(hd:∀ x,Tok.ver x∈Tok.ver u::a→Tok.ver x∉Tok.ver v::b):
  T (.ver u :: .arc u v::(.ver v::b ++ .arc v u::a)):=by
 obtain⟨_,fA2,fA3⟩:=hA.facts;obtain⟨_,fB2,fB3⟩:=hB.facts;have nA:=hA.nodup;have nB:=hB.nodup;obtain⟨_,_,c1,e1,h1,m1⟩:=hA.AEl;cases e1;obtain⟨_,_,c2,e2,h2,m2⟩:=hB.AEl;cases e2;have huv:u≠v:=by rintro rfl;exact hd u (by simp) (by simp)
 have nAB:∀ t,t∈Tok.ver u::a→t∉Tok.ver v::b:=fun t ht hb=>hd _ (fA2 t ht) (fB2 t hb);have n1:Tok.arc u v∉Tok.ver u::a:=fun h=>hd v (fA3 _ _ h).2.1 (by simp);have n2:Tok.arc u v∉Tok.ver v::b:=fun h=>hd u (by simp) (fB3 _ _ h).1;have n3:Tok.arc v u∉Tok.ver u::a:=fun h=>hd v (fA3 _ _ h).1 (by simp);have n4:Tok.arc v u∉Tok.ver v::b:=fun h=>hd u (by simp) (fB3 _ _ h).2.1;have hnd:(Tok.ver u :: .arc u v::(.ver v::b ++ .arc v u::a)).Nodup:=by rw[AqO]at nA;have q1:Tok.ver u∉Tok.ver v::b:=nAB _ (by simp);rw[AqO,AqO,Arl,AqO (a:=Tok.arc v u)];refine⟨?_,?_,nB,⟨fun h=>n3 (AqD _ h),nA.2⟩,fun x hx y hy => ?_⟩;intro h;rcases Apv.1 h with h|h;cases h;rcases Ap6.1 h with h|h;exact q1 h;rcases Apv.1 h with h|h;cases h;exact nA.1 h;intro h;rcases Ap6.1 h with h|h;exact n2 h;rcases Apv.1 h with h|h;cases h;exact huv rfl;exact n1 (AqD _ h);rintro rfl;rcases Apv.1 hy with h|h;subst h;exact n4 hx;exact nAB x (AqD _ h) hx
 rw[BK,EP,AqQ]at h1;obtain⟨d2,k1,k2⟩:=Hm (Z:=(· = u)) (c2:=[v,u]) (low:=[u]) h2 (by simp) (fun y=>by simp) (fun p w hm=>by rintro rfl;exact hd w (by simp) (fB3 _ _ hm).2.1) (by simp)
 obtain⟨d3,g1,g2⟩:=Hm (Z:=(·∈c2)) (c2:=d2) (low:=[]) h1 (by simp) (fun y=>by rw[k2];simp[or_comm]) (fun p w hm hz=>hd w (fA3 _ _ (AqD _ hm)).2.1 (m2 w hz)) (by simp)
 refine Af.toT ⟨u,_,d3,rfl,?_,fun x hx => ?_⟩ hnd;rw[BK,EP,AqQ,BK,Hl _ _ _ _ (by simp) (by simp;exact Aq2 huv),AqQ,Ef];rw[show([v]++[u]:List Int)=[v,u]from rfl]at k1;rw[k1,AqQ,BK,IF,AqQ];simpa using g1;rcases(g2 x).1 hx with h|h;have:=m1 x h;simp only[Apv,Ap6]at this ⊢;rcases this with h|h<;>simp[h];have:=m2 x h;simp only[Apv,Ap6]at this ⊢;rcases this with h|h<;>simp[h]
end Go.Pev.Pl.Tok
end
section
namespace Go.Pev
open Go.RowKit Go.ChangeShapes Go.WideShapes Go.ChangeAt
def OS(P:Program)(rd:TypeId→Option Ty):List Field→Nat→Option Ty
 |[],_=>some .unit
 |f::r,off=>match rd f.type,OS P rd r (off+P.cellsOf f.type)with
  |some a,some b=>match Nat.beq f.offset off&&Nat.beq (P.cellsOf f.type) a.size with
   |true=>some (.prod a b)
   |false=>none
  |_,_=>none
def Fu(P:Program):Nat→TypeId→Option Ty
 |0,_=>none
 |n+1,t=>match P.underlying t with
  |some .bool=>some .bool
  |some (.int k)=>some (.int k)
  |some (.slice e)=>match Fu P n e with
   |some a=>match Nat.beq (P.cellsOf e) a.size && !(Nat.beq a.size 0)with
    |true=>some (.slice a)
    |false=>none
   |none=>none
  |some (.array c e)=>match Fu P n e with
   |some a=>match Nat.beq (P.cellsOf e) a.size&&Nat.beq (P.cellsOf t) (c*a.size)with
    |true=>some (.arr c a)
    |false=>none
   |none=>none
  |some (.struct fs)=>match OS P (Fu P n) fs.toList 0 with
   |some a=>match Nat.beq (P.cellsOf t) a.size with
    |true=>some a
    |false=>none
   |none=>none
  |_=>none
def wfD:(t:Ty)→t.den→Prop
 |.unit,_=>True
 |.bool,_=>True
 |.int k,n=>k.min≤n∧n≤k.max
 |.slice e,xs=>List.length (α:=e.den) xs≤maxLen∧∀ x∈(xs:List e.den),wfD e x
 |.prod a b,d=>wfD a d.1∧wfD b d.2
 |.arr n e,xs=>List.length (α:=e.den) xs=n∧∀ x∈(xs:List e.den),wfD e x
 |.nul _,_=>True
 |.mapi _ _,_=>True
section
variable {H:Type} {enc:TypeId×Value→H} {P:Program} {w:World} {spare:Nat→Bool} {held:Bool}
abbrev below(w:World):Nat→Prop:=fun b=>b<w.heap.size
theorem Am2{k:IntKind}{n:Int}(h:(Lit.int k n).wf=true):k.min≤n∧n≤k.max:=by simpa [Lit.wf]using h
theorem AUl{α:Type}{R:α→List Value→Prop}{k:Nat}:∀ (m:Nat) (f:Nat→List Value),(∀ i,i<m→(f i).length=k∧∃ x,R x (f i))→∃ xs:List α,xs.length=m∧rows R xs ((List.range m).flatMap f)∧∀ x∈xs,∃ i,i<m∧R x (f i):=by
 intro m;induction m with
  |zero=>intro f _;exact⟨[],rfl,rfl,fun x hx=>by cases hx⟩
  |succ m ih=>intro f h;obtain⟨xs,h1,h2,h3⟩:=ih f fun i hi=>h i (by omega);obtain⟨_,x,hx⟩:=h m (by omega);refine⟨xs++[x],by simp[h1],?_,fun y hy => ?_⟩;rw[Aqp,AsJ];exact IJ h2 (by simp;exact⟨f m,[],by simp,hx,rfl⟩);grind
theorem AhL{f:Nat→List Value}{k:Nat}:∀ (m:Nat),(∀ i,i<m→(f i).length=k)→∀ (j:Nat) (u:Value),((List.range m).flatMap f)[j]? = some u→∃ i r,i<m∧r<k∧j=i*k+r∧(f i)[r]? = some u:=by
 intro m;induction m with
  |zero=>simp
  |succ m ih=>
   intro hl j u h;rw[Aqp,AsJ]at h;have hlen:∀ m',m'≤m→((List.range m').flatMap f).length=m'*k:=by
    intro m' hm';induction m' with
     |zero=>simp
     |succ m' ih'=>rw[Aqp,AsJ,Ap3,ih' (by omega)];grind
   rcases Aru j (m*k)with hj|hj;rw[ArA (by grind)]at h;obtain⟨i,r,h1,h2,h3,h4⟩:=ih (fun i hi=>hl i (by omega)) j u h;grind;rw[AqV (by grind),hlen m (Ap1 _)]at h;grind
theorem AiZ(a:Addr)(i j:Nat):(a.add i).add j=a.add (i+j):=by unfold Addr.add;grind
theorem ASz{α:Type}[Inhabited α]{n:Nat}{p:Nat→α→Prop}(h:∀ i,i<n→∃ x,p i x):∃ f:Nat→α,∀ i,i<n→p i (f i):=by classical refine⟨fun i=>if hi:i<n then Classical.choose (h i hi)else default,fun i hi => ?_⟩;grind
theorem AQB{rd:TypeId→Option Ty}{cs:List Value}(hrd:∀ (f:Field) (a:Ty),rd f.type=some a→(P.cellsOf f.type=a.size)→(∃ y:Nat×(DataW H×List MemPlace),DataW.trod enc P w 0 spare held y.1 f.type ((cs.drop f.offset).take (P.cellsOf f.type))=some y.2)→∃ d:a.den,Dat w (below w) a d ((cs.drop f.offset).take (P.cellsOf f.type))∧wfD a d):
  ∀ (fs:List Field) (off:Nat) (t:Ty),OS P rd fs off=some t→off+t.size=cs.length→(∀ f∈fs,∃ y:Nat×(DataW H×List MemPlace),DataW.trod enc P w 0 spare held y.1 f.type ((cs.drop f.offset).take (P.cellsOf f.type))=some y.2) →
   ∃ d:t.den,Dat w (below w) t d (cs.drop off)∧wfD t d:=by
 intro fs;induction fs with
  |nil=>
   intro off t h hl _;simp only[OS,Apq]at h;subst h;refine⟨(),?_,trivial⟩;show cs.drop off=[]
   simp[Ty.size]at hl;grind
  |cons f r ih=>intro off t h hl hf;simp only[OS]at h;split at h;rename_i a b ha hb;split at h;rename_i hc;simp only[Apq]at h;subst h;simp only[Apt]at hc;have h1:=AqS hc.1;have h2:=AqS hc.2;obtain⟨d,hd,hw⟩:=hrd f a ha h2 (hf f (by simp));simp only[Ty.size]at hl;obtain⟨e,he,hw'⟩:=ih (off+P.cellsOf f.type) b hb (by omega) fun g hg=>hf g (by simp[hg]);refine⟨(d,e),⟨(cs.drop off).take (P.cellsOf f.type),cs.drop (off+P.cellsOf f.type),?_,?_,he⟩,hw,hw'⟩;rw[← ArP,Aqa];grind;grind;grind
theorem AdE:∀ (n:Nat) (t:TypeId) (ty:Ty) (fuel:Nat) (cs:List Value) (x:DataW H×List MemPlace),Fu P n t=some ty→DataW.trod enc P w 0 spare held fuel t cs=some x→∃ d:ty.den,Dat w (below w) ty d cs∧wfD ty d:=by
 intro n;induction n with
  |zero=>intro t ty fuel cs x h;cases h
  |succ n ih=>
   intro t ty fuel cs x h hx;simp only[Fu]at h;split at h;rename_i hu;simp only[Apq]at h;subst h;obtain⟨b,rfl,_⟩:=DataW.trod_bool hu hx;exact⟨b,rfl,trivial⟩;rename_i k hu;simp only[Apq]at h;subst h;obtain⟨m,rfl,_,hw⟩:=DataW.trod_int hu hx;exact⟨m,rfl,Am2 hw⟩;rename_i e hu;split at h;rename_i a ha;split at h;rename_i hc;simp only[Apq]at h;subst h;rw[Apt]at hc;have hpos:a.size≠0:=fun h0=>by simp_all
   have hc:=AqS hc.1;rcases DataW.trod_slice hu hx with⟨rfl,_⟩|⟨ad,len,cap,elems,rest,m,rfl,rfl,_,_,hle,hmax,hlen,hel,_⟩
   exact⟨[],⟨none,0,rfl,Ap1 _,fun hne=>absurd rfl hne⟩,AsH _,fun x hx=>by cases hx⟩;-- each element
   have each:∀ i,i<len→∃ cs',w.cells? 0 (ad.add (i*P.cellsOf e)) (P.cellsOf e)=some cs'∧∃ d:a.den,Dat w (below w) a d cs'∧wfD a d:=by intro i hi;have h1:=hel i hi;rw[Apz (by omega),Aqh]at h1;grind
   obtain⟨f,hf⟩:=ASz (α:=List Value) (p:=fun i cs'=>w.cells? 0 (ad.add (i*P.cellsOf e)) (P.cellsOf e)=some cs'∧∃ d:a.den,Dat w (below w) a d cs'∧wfD a d) each;have hfl:∀ i,i<len→(f i).length=a.size:=by intro i hi;obtain⟨_,hl,_⟩:=World.cells?_some (hf i hi).1;omega
   obtain⟨xs,h1,h2,h3⟩:=AUl (R:=fun(d:a.den) cs=>Dat w (below w) a d cs∧wfD a d) (k:=a.size) len f fun i hi=>⟨hfl i hi,(hf i hi).2⟩
   refine⟨xs,⟨some ad,cap,by rw[h1],by omega,fun hne=>⟨ad,(List.range len).flatMap f,rfl,?_,BL (fun x _ cs hx=>hx.1) h2,fun j u hu => ?_⟩⟩,by omega,fun x hx => ?_⟩;-- the block is there
   have hl0:0<len:=by grind
   have hb:=World.cells?_block (hf 0 hl0).1 (by omega);rw[Ar7]at hb;have e0:ad.add 0=ad:=by simp[Addr.add]
   grind;obtain⟨i,r,hi,hr,rfl,hur⟩:=AhL len hfl j u hu;obtain⟨_,_,hcell⟩:=World.cells?_some (hf i hi).1;have:=hcell r (by omega);rw[hur]at this;rw[← this,hc,AiZ];grind;grind;grind;rename_i c e hu;split at h;rename_i a ha;split at h;rename_i hc;simp only[Apq]at h;subst h;rw[Apt]at hc;have hc1:=AqS hc.1;have hc2:=AqS hc.2;obtain⟨xs,m,rfl,_,hl,hxs,hfs⟩:=DataW.trod_array hu hx;rw[hc2]at hl;obtain⟨ys,h1,h2,h3⟩:=AUl (R:=fun(d:a.den) cs=>Dat w (below w) a d cs∧wfD a d) (k:=a.size) c (fun i=>(cs.drop (i*a.size)).take a.size) fun i hi=>by
    have hi1:i*a.size+a.size≤c*a.size:=by have:=Aqj a.size (show i+1≤c from hi);grind
    grind
   have hjoin:∀ k,k≤c→(List.range k).flatMap (fun i=>(cs.drop (i*a.size)).take a.size)=cs.take (k*a.size):=by
    intro k;induction k with
     |zero=>simp
     |succ k ihk=>intro hk;rw[Aqp,AsJ,ihk (by omega),Aq7,Arr,List.take_add];simp
   rw[hjoin c (Ap1 _),← hl,ArZ]at h2;exact⟨ys,⟨h1,BL (fun x _ cs hx=>hx.1) h2⟩,h1,fun x hx=>by grind⟩;grind;grind;rename_i fs hu;split at h;rename_i a ha;split at h;rename_i hc;simp only[Apq]at h;subst h;have hc:=AqS hc;obtain⟨xs,m,rfl,_,hl,hxs,hfs⟩:=DataW.trod_struct hu hx;obtain⟨d,hd,hw⟩:=AQB (enc:=enc) (w:=w) (spare:=spare) (held:=held) (cs:=cs) (fun f b hb _ ⟨y,hy⟩=>ih f.type b y.1 _ y.2 hb hy) fs.toList 0 _ ha (by omega) (fun f hf=>by
    obtain⟨i,hi⟩:=List.getElem?_of_mem hf;have h1:=hfs i f (by grind);have hlt:i<xs.length:=by grind
    rw[Apz hlt]at h1;exact⟨(m,xs[i]),h1⟩)
   grind;grind;grind;grind
theorem ARG{r:Reach}{b0:Nat}{t:TypeId}{v:Value}(hval:Value.okWide P w r b0 t v)(hn:∀ d,P.underlying t=some d→(match d with|.bool|.int _|.slice _=>true|_=>false)=true){ty:Ty}{n:Nat}(h:Fu P (n+1) t=some ty):v.cells.toList=[v]:=by
 simp only[Value.okWide]at hval;have hu:∃ d,P.underlying t=some d:=by
  cases hu:P.underlying t with
   |none=>simp only[Fu,hu]at h;cases h
   |some d=>simp
 obtain⟨d,hu⟩:=hu;have:=hn d hu;rw[hu]at hval;cases d<;>simp only[AqC]at this<;>simp only[Cell.okWide,hu]at hval<;>cases v<;>first|rfl|(simp_all [Cell.ok])
theorem Wn{r:Reach}{b0:Nat}{t:TypeId}{v:Value}{ps:List MemPlace}{dd:DataW H}(hval:Value.okWide P w r b0 t v)(hd:DataW.Trod enc P w 0 spare held t v dd ps){ty:Ty}{n:Nat}(h:Fu P (n+1) t=some ty):
  ∃ d:ty.den,Bn w (below w) ty d v∧wfD ty d:=by
 obtain⟨fuel,hf⟩:=hd;obtain⟨d,h1,h2⟩:=AdE (n+1) t ty fuel _ _ h hf;refine⟨d,?_,h2⟩;have one:(∀ d,P.underlying t=some d→(match d with|.bool|.int _|.slice _=>true|_=>false)=true)→ty.isAgg=false→Bn w (below w) ty d v:=by intro hn hg;unfold Bn;rw[hg];rw[ARG hval hn h]at h1;exact h1
 have agg:(∃ cs,v = .agg cs)→ty.isAgg=true→Bn w (below w) ty d v:=by rintro⟨cs,rfl⟩ hg;unfold Bn;rw[hg];exact⟨cs,rfl,h1⟩
 have hu:∃ d,P.underlying t=some d:=by
  cases hu:P.underlying t with
   |none=>simp only[Fu,hu]at h;cases h
   |some d=>simp
 obtain⟨td,hu⟩:=hu;simp only[Fu,hu]at h;split at h;rename_i hq;cases hq;simp only[Apq]at h;subst h;exact one (fun d hd=>by grind) rfl;rename_i k hq;cases hq;simp only[Apq]at h;subst h;exact one (fun d hd=>by grind) rfl;rename_i e hq;cases hq;split at h;split at h;simp only[Apq]at h;subst h;exact one (fun d hd=>by grind) rfl;grind;grind;rename_i c e hq;cases hq;have hv:∃ cs,v = .agg cs:=by simp only[Value.okWide,hu]at hval;grind
 split at h;split at h;simp only[Apq]at h;subst h;exact agg hv rfl;grind;grind;rename_i fs hq;cases hq;have hv:∃ cs,v = .agg cs:=by simp only[Value.okWide,hu]at hval;grind
 split at h;rename_i a ha;split at h;simp only[Apq]at h;subst h;refine agg hv ?_;cases hfs:fs.toList with
  |nil=>rw[hfs]at ha;simp only[OS,Apq]at ha;subst ha;rfl
  |cons f r=>rw[hfs]at ha;simp only[OS]at ha;split at ha;split at ha;simp only[Apq]at ha;subst ha;rfl;grind;grind
 grind;grind;grind
theorem AAx{g:FuncId}{s:Spec}(hs:Ak P g s){args:List AV}{b:Bool}{e:Eff}(hrun:s (AV×Eff) args [] [] 0 (fun v e=>some (v,e))=some (.data .bool b,e)){vals:List Value}
  (hr:AT w (below w) (fun _=>none) [] args vals) (hglo:AcS w (below w):=by intro p h;simp[AGB]at h):Calls P g vals.toArray w fun en w'=>en = .returned (.bool b)∧Below w.heap.size w w':=by
 obtain⟨v,e',h1,_,_,h4⟩:=hs _ args [] [] 0 _ _ hrun;simp only[Apq,Ap9]at h1;obtain⟨rfl,rfl⟩:=h1;have hi:HI w (below w) (fun _=>none) [] []:=⟨fun id o h=>by simp at h,fun i T e t xs ver out h=>by simp at h,fun i T e t xs ver out h=>by simp at h,fun i j b c b' c' _ _ _ h=>(nomatch h),fun i b c _ h=>(nomatch h),fun i T t xs b c h=>by simp at h,fun b h=>h,hglo,rfl⟩
 refine(h4 w _ _ vals hi hr).mono ?_;rintro en w' ⟨u,rfl,F',m',⟨hx,_⟩,hu⟩;have hb:u = .bool b:=Cx hu;subst hb;exact⟨rfl,hx.os,hx.tape,hx.output,hx.size,fun i hi=>hx.keep i hi fun j c _ h=>by cases h⟩
end
section
variable {H:Type} {enc:TypeId×Value→H} {P:Program}
theorem AAB{f:Func}{s:ChangeSpec}{apart fresh handsOn again:Bool}{W W':World}{args:Array Value}{v:Value}{ds gs:List (DataW H)}{before pa pv:List MemPlace}
  (hW:DataW.Whole enc P f.params.toList s.vars apart W args.toList ds gs before)
  (hres:∀ (b:Nat) (sp:Nat→Bool) (hd:Bool),DataW.TrodAll enc P W' b sp hd f.resultTypes.toList (v.resultList f.resultTypes.size) (s.fn H (ds++gs)).results [])
  (hargs:∀ sp:Nat→Bool,(∀ p∈before,sp p.block=true)→DataW.TrodAll enc P W' 0 sp true f.params.toList args.toList (s.fn H (ds++gs)).args pa)
  (hvars:∀ sp:Nat→Bool,(∀ p∈before,sp p.block=true)→DataW.TrodVars enc P W' sp s.vars (s.fn H (ds++gs)).vars pv)
  (hps:before=pa++pv) (hb:Below W.heap.size W W')
  (hok:∀ (j:Nat) (t:TypeId) (r:Value),f.resultTypes[j]? = some t→(v.resultList f.resultTypes.size)[j]? = some r→Value.okWide P W' .any 0 t r) :
  s.post enc P f apart fresh handsOn again W args v W':=by
 have hlt:∀ p∈before,p.block<W.heap.size:=fun p hp=>hW.lt p hp;have hold:∀ p∈before,(fun b=>decide (b<W.heap.size)) p.block=true:=fun p hp=>by grind
 refine⟨ds,gs,before,[],pa,pv,hW,hres _ _ _,hargs _ hold,hvars _ hold,World.keptBut_mono (fun p hp=>⟨hp,?_⟩) (hb.frame (·∈before)),fun _ => ?_⟩
 grind
 ·obtain⟨_,_,_,_,_,hz,hn⟩:=hW;refine⟨hok,_,_,([]++pa)++pv,⟨[]++pa,pv,trodAll_append (hargs _ (fun _ _=>rfl)) (hres _ _ _),hvars _ (fun _ _=>rfl),rfl,?_,?_⟩,?_⟩;intro b off hp;have hin:MemPlace.cell b off∈before:=by grind
  rw[hb.frozen (hlt _ hin)];exact hz b off hin;all_goals grind
theorem OL{t:TypeId}(hl:laidOutB P=true)(hr:P.readableRec t=true)(hrow:t<P.types.size){W W':World}{v:Value}{d:DataW H}{ps:List MemPlace}
  (h:DataW.Trod enc P W 0 (fun _=>true) true t v d ps) (hb:Below W.heap.size W W') (hlt:∀ x∈ps,x.block<W.heap.size) {sp:Nat→Bool} (hs:∀ x∈ps,sp x.block=true) :
  DataW.Trod enc P W' 0 sp true t v d ps:=
 WideElems.Trod_stays hl hr hrow h (fun x hx=>hb.same (hlt x hx)) hs
end
end Go.Pev
end
section
section
namespace Go.Pev.Pl
open Tok
theorem HR{a b:Nat}(hb:0<b):rem? (a:Int) (b:Int)=some ((a % b:Nat):Int):=by rw[XT,AP6,Ap4 (by omega)];rfl
theorem Ks{a b:Nat}(h:a<2*b):a % b=if a<b then a else a-b:=by split;exact Aqm (by assumption);rw[AsR (by omega),Aqm (by omega)]
def Kf(n t u:Int):Bool:=match CD n t with
 |some x=>decide (x.st=u)
 |none=>false
theorem NK{l:List Int}{j:Nat}(hj:j≤l.length):(rot l j).length=l.length:=by simp[rot];omega
theorem GR{l:List Int}{j k:Nat}(hj:j<l.length)(hk:k<l.length):(rot l j).getD k 0=l.getD ((j+k) % l.length) 0:=by rw[Ks (by omega),rot];by_cases h:j+k<l.length;rw[Ap5 h,Apu,ArA (by simp;omega),AsP,Apu];rw[Ap4 h,Apu,AqV (by simp;omega),List.getElem?_take_of_lt (by simp;omega),Apu];congr 2;simp;omega
def Red(n:Int)(l l':List Int):Prop:=∃ j x u v rest,j<l.length∧rot l j=x::Dw n (.arc u v)::v::Dw n (.arc v u)::rest∧okT n (.arc u v)∧Kf n x u=true∧l'=rest++[x]
def Fs(l:List Int)(i:Nat):List Int:=(List.range' 3 (l.length-3)).map fun k=>l.getD ((i+k) % l.length) 0
theorem AY3{l:List Int}{i j:Nat}(hl:4≤l.length)(hj:j<l.length)(hij:i=if j+1=l.length then 0 else j+1):Fs l i=(rot l j).drop 4++[(rot l j).getD 0 0]:=by
 apply List.ext_getElem;simp[Fs,NK (ArC hj)];omega
 ·intro m h1 h2;simp only[Fs,Aqk,List.length_range']at h1;simp only[Fs,List.getElem_map,List.getElem_range',Arr];have hi:i<l.length:=by rw[hij];split<;>omega
  by_cases hm:m<l.length-4;·rw[List.getElem_append_left (by simp[NK (ArC hj)];omega),List.getElem_drop];have:=GR (l:=l) (j:=j) (k:=4+m) hj (by omega);rw[Apu,Apz (by rw[NK (ArC hj)];omega),AqK]at this;rw[this];congr 1;rw[Ks (by omega),Ks (by omega),hij];(repeat' split)<;>omega
  ·rw[List.getElem_append_right (by simp[NK (ArC hj)];omega)];simp only[List.getElem_singleton];rw[GR hj (by omega)];congr 1;rw[Ks (by omega),Ks (by omega),hij];(repeat' split)<;>omega
theorem ApA{α:Type}{l:List α}(z:α)(h:4≤l.length):l=l.getD 0 z::l.getD 1 z::l.getD 2 z::l.getD 3 z::l.drop 4:=by
 match l,h with
 |a::b::c::d::r,_=>rfl
def Ky(n:Int)(l:List Int)(i:Nat):Bool:=
 decide (4≤l.length)&&match CD n (l.getD i 0)with
  |some (.arc u v)=>decide (l.getD ((i+1) % l.length) 0=v)&&(decide (l.getD ((i+2) % l.length) 0=EM n v u)&&Kf n (l.getD ((i+l.length-1) % l.length) 0) u)
  |_=>false
theorem E8{n u v:Int}(h:okT n (.arc u v)):okT n (.arc v u):=⟨h.2.1,h.1,Aq2 h.2.2⟩
theorem ARi{n:Int}{l:List Int}{i:Nat}(hi:i<l.length)(h:Ky n l i=true):Red n l (Fs l i):=by
 rw[Ky,Apt,Aps]at h;obtain⟨hl,h⟩:=h;cases ht:CD n (l.getD i 0)with
  |none=>rw[ht]at h;cases h
  |some t=>
   rw[ht]at h;cases t with
    |ver v=>cases h
    |arc u v=>
     simp only[Apt,Aps]at h;obtain⟨h1,h2,h3⟩:=h;obtain⟨g1,g2⟩:=Sk ht;let j:=if i=0 then l.length-1 else i-1
     have hj:j<l.length:=by simp only[j];split<;>omega
     have hij:i=if j+1=l.length then 0 else j+1:=by simp only[j];(repeat' split)<;>omega
     have m0:(i+l.length-1) % l.length=(j+0) % l.length:=by rw[Ks (by omega),Ks (by omega)];simp only[j];(repeat' split)<;>omega
     have m1:i=(j+1) % l.length:=by rw[Ks (by omega)];simp only[j];(repeat' split)<;>omega
     have m2:(i+1) % l.length=(j+2) % l.length:=by rw[Ks (by omega),Ks (by omega)];simp only[j];(repeat' split)<;>omega
     have m3:(i+2) % l.length=(j+3) % l.length:=by rw[Ks (by omega),Ks (by omega)];simp only[j];(repeat' split)<;>omega
     have hlr:4≤(rot l j).length:=by rw[NK (ArC hj)];exact hl
     have e:=ApA (0:Int) hlr;have r0:=GR (l:=l) (k:=0) hj (by omega);have r1:=GR (l:=l) (k:=1) hj (by omega);have r2:=GR (l:=l) (k:=2) hj (by omega);have r3:=GR (l:=l) (k:=3) hj (by omega);rw[← m0]at r0;rw[← m1]at r1;rw[← m2,h1]at r2;rw[← m3,h2,FX (E8 g1)]at r3;refine⟨j,(rot l j).getD 0 0,u,v,(rot l j).drop 4,hj,?_,g1,by rw[r0];exact h3,AY3 hl hj hij⟩;rw[r1,r2,r3,← g2]at e;exact e
theorem AQA{n:Int}{l l':List Int}(h:Red n l l'):∃ i,i<l.length∧Ky n l i=true:=by
 obtain⟨j,x,u,v,rest,hj,hr,hok,hst,_⟩:=h;have hl:4≤l.length:=by have:=Aqx List.length hr;rw[NK (ArC hj)]at this;simp only[Apw]at this;omega
 let i:=if j+1=l.length then 0 else j+1
 have hi:i<l.length:=by simp only[i];split<;>omega
 have m0:(i+l.length-1) % l.length=(j+0) % l.length:=by rw[Ks (by omega),Ks (by omega)];simp only[i];(repeat' split)<;>omega
 have m1:i=(j+1) % l.length:=by rw[Ks (by omega)];simp only[i];(repeat' split)<;>omega
 have m2:(i+1) % l.length=(j+2) % l.length:=by rw[Ks (by omega),Ks (by omega)];simp only[i];(repeat' split)<;>omega
 have m3:(i+2) % l.length=(j+3) % l.length:=by rw[Ks (by omega),Ks (by omega)];simp only[i];(repeat' split)<;>omega
 have r0:=GR (l:=l) (k:=0) hj (by omega);have r1:=GR (l:=l) (k:=1) hj (by omega);have r2:=GR (l:=l) (k:=2) hj (by omega);have r3:=GR (l:=l) (k:=3) hj (by omega);rw[hr]at r0 r1 r2 r3;rw[← m0]at r0;rw[← m1]at r1;rw[← m2]at r2;rw[← m3]at r3;simp only[List.getD_cons_zero,List.getD_cons_succ]at r0 r1 r2 r3;refine⟨i,hi,?_⟩;rw[Ky,← r1,D4 hok];simp only[← r0,← r2,← r3,hst,FX (E8 hok),hl,Apy,Aqr]
theorem AnN{n:Int}{l l':List Int}(h:Red n l l')(hn:l.Nodup):TI n l↔TI n l':=by
 obtain⟨j,x,u,v,rest,hj,hr,hok,hst,rfl⟩:=h;obtain⟨X,hX,hXs⟩:∃ X,CD n x=some X∧X.st=u:=by
  rw[Kf]at hst;cases hx:CD n x with
   |none=>rw[hx]at hst;cases hst
   |some X=>rw[hx]at hst;exact⟨X,rfl,by simpa using hst⟩
 obtain⟨hX1,hX2⟩:=Sk hX;have hnr:(rot l j).Nodup:=by rw[rot];exact(List.perm_append_comm.nodup_iff).2 (by rw[Aqa];exact hn)
 rw[hr]at hnr;constructor;rintro⟨L,h1,h2,h3⟩;have hL:rot l j=(L.drop j++L.take j).map (Dw n):=by rw[rot,h1];simp
 have hTr:T (L.drop j++L.take j):=T.rot (L.take j) (L.drop j) (by rw[Aqa];exact h3);have hok2:∀ t∈L.drop j++L.take j,okT n t:=fun t ht=>h2 t (by rw[← Aqa j L];simp only[Ap6]at ht ⊢;exact ht.symm)
 generalize L.drop j++L.take j=M at *;rw[hr]at hL;match M,hL with
 |[_,_],hL=>simp at hL
 |[_,_,_],hL=>simp at hL
 |a::b::c::d::r,hL=>
  simp only[AqL,AqF]at hL
  obtain⟨e1,e2,e3,e4,e5⟩:=hL
  have q1:X=a:=GX hX1 (hok2 a (by simp)) (by rw[hX2,e1])
  have q2:Tok.arc u v=b:=GX hok (hok2 b (by simp)) e2
  have q3:Tok.ver v=c:=GX (show okT n (.ver v)from hok.2.1) (hok2 c (by simp)) e3
  have q4:Tok.arc v u=d:=GX (E8 hok) (hok2 d (by simp)) e4
  subst q1 q2 q3 q4
  subst hXs
  have:=T.less hTr
  refine⟨r++[X],by simp[e5,hX2],fun t ht=>hok2 t ?_,T.rot [X] r this⟩
  simp only[Ap6,AqR]at ht
  rcases ht with h|h<;>simp[h]
 rintro⟨K,k1,k2,k3⟩;obtain⟨K1,K2,rfl,e1,e2⟩:=Asd.1 k1.symm;obtain⟨X',K3,rfl,e3,e4⟩:=List.map_eq_cons_iff.1 e2;rw[List.map_eq_nil_iff]at e4;subst e4;have q1:X'=X:=GX (k2 X' (by simp)) hX1 (by rw[hX2,e3]);subst q1;have t1:T (X'::K1):=T.rot K1 [X'] k3;subst hXs;have hvm:∀ t,t∈X'::K1→okT n t:=fun t ht=>k2 t (by simp only[Apv,Ap6,AqR]at ht ⊢;rcases ht with h|h<;>simp[h])
 have hnv:Tok.ver v∉X'::K1:=by
  intro hm;have hvl:v=x∨v∈rest:=by rcases Apv.1 hm with h|h;left;rw[← hX2,← h];rfl;right;rw[← e1];exact AqU.2 ⟨_,h,rfl⟩
  simp only[AqO,Apv,not_or]at hnr;rcases hvl with h|h;exact hnr.1.2.1 h.symm;exact hnr.2.2.1.2 h
 have t2:=T.add X' K1 v t1 hok.2.2 hnv;have hmap:rot l j=(X' :: .arc X'.st v :: .ver v :: .arc v X'.st::K1).map (Dw n):=by rw[hr];simp only[AqL,hX2,e1];rfl
 have hok3:∀ t∈X'::Tok.arc X'.st v :: .ver v :: .arc v X'.st::K1,okT n t:=by intro t ht;simp only[Apv]at ht;rcases ht with rfl|rfl|rfl|rfl|h;exact hX1;exact hok;exact hok.2.1;exact E8 hok;exact hvm t (AqD _ h)
 generalize X'::Tok.arc X'.st v :: .ver v :: .arc v X'.st::K1=M at *;rw[rot]at hmap;obtain⟨M1,M2,rfl,f1,f2⟩:=Asd.1 hmap.symm;refine⟨M2++M1,by rw[Are,f1,f2,Aqa],fun t ht=>hok3 t ?_,T.rot M1 M2 t2⟩;simp only[Ap6]at ht ⊢;exact ht.symm
theorem Aon{n:Int}{l:List Int}(h:TI n l)(hl:1<l.length):∃ l',Red n l l':=by
 obtain⟨L,h1,h2,h3⟩:=h;rcases h3.leaf with⟨v,e⟩|⟨x,v,r,p,q,e1,e2⟩
 rw[h1,e]at hl;simp at hl;have hmap:l.map id=(p++q).map (Dw n):=by rw[List.map_id,h1,e1]
 rw[List.map_id]at hmap;have hok:∀ t∈q++p,okT n t:=fun t ht=>h2 t (by rw[e1];simp only[Ap6]at ht ⊢;exact ht.symm);have key:∀ j,j<l.length→rot l j=(q++p).map (Dw n)→∃ l',Red n l l':=by intro j hj hrj;rw[← e2]at hok;rw[← e2]at hrj;have ha:okT n (.arc x.st v):=hok _ (by simp);exact⟨_,j,Dw n x,x.st,v,r.map (Dw n),hj,by rw[hrj];rfl,ha,by rw[Kf,D4 (hok x (by simp))];simp,rfl⟩
 by_cases hq:q=[]
 subst hq;refine key 0 (by omega) ?_;simp[rot,hmap];have hj:p.length<l.length:=by rw[hmap,Aqk,Ap3];have:=List.length_pos_iff.2 hq;omega
 refine key p.length hj ?_;rw[rot,hmap,Are];rw[List.drop_left' (by simp),AsN (by simp),Are]
end Go.Pev.Pl
end
section
namespace Go.Pev.Pl
open Tok
theorem AP2{l:List Int}{i:Nat}(hi:i<l.length):∀ x∈Fs l i,x∈l:=by intro x hx;simp only[Fs,AqU]at hx;obtain⟨k,_,rfl⟩:=hx;have hk:(i+k) % l.length<l.length:=ArU _ (by omega);rw[Apu,Apz hk,AqK];exact Aq5 hk
theorem AY5{n:Int}{l l':List Int}(h:Red n l l')(hn:l.Nodup):l'.Nodup:=by
 obtain⟨j,x,u,v,rest,hj,hr,hok,hst,rfl⟩:=h;have hnr:(rot l j).Nodup:=by rw[rot];exact(List.perm_append_comm.nodup_iff).2 (by rw[Aqa];exact hn)
 rw[hr]at hnr;have:(x::rest).Nodup:=by simp only[AqO,Apv,not_or]at hnr ⊢;exact⟨hnr.1.2.2.2,hnr.2.2.2.2⟩
 exact(Arh (l₁:=[x]) (l₂:=rest)).nodup_iff.1 this
theorem Aid(n t:Int):TI n [t]↔In n t:=by
 constructor;rintro⟨L,h1,h2,h3⟩;rcases h3.leaf with⟨v,e⟩|⟨x,v,r,hr⟩
 subst e;simp only[AqL,Art,AqF,AsB]at h1;rw[h1];exact h2 (.ver v) (by simp);have h4:=hr.length;have h5:=Aqx List.length h1;simp only[Apw,Ap8,Aqk]at h4 h5;omega;intro h;exact⟨[.ver t],rfl,fun x hx=>by simp at hx;subst hx;exact h,T.one t⟩
theorem Aie(n:Int):¬ TI n []:=by
 rintro⟨L,h1,h2,h3⟩;have:=h3.facts.1;cases L with
  |nil=>exact this rfl
  |cons t L=>cases h1
end Go.Pev.Pl
end
section
namespace Go.Pev.Pl
open Tok
def RG(n:Int)(xs:List Int):Prop:=Rt xs∧xs≠[]∧Gm xs=xs.headD 0∧TI n xs
def okR(n:Int):List Int→Int→List (List Int)→Prop
 |_,_,[]=>True
 |seen,last,l::ls=>RG n l∧last<l.headD 0∧(∀ t∈l,t<n→t∉seen)∧okR n (seen++l.filter (fun t=>decide (t<n))) (l.headD 0) ls
def RF(n:Int)(rings:List (List Int)):Prop:=Sz n∧okR n [] (-1) rings∧∀ v,0≤v→v<n→v∈rings.flatten
noncomputable instance (n:Int) (rings:List (List Int)):Decidable (RF n rings):=Classical.propDecidable _
noncomputable instance (n:Int) (xs:List Int):Decidable (RG n xs):=Classical.propDecidable _
def MI(n:Int)(met:List (Int×Int))(seen:List Int):Prop:=∀ t,t<n→(AR met t).getD (0:Int)=if t∈seen then 1 else 0
theorem AEi(n:Int)(l:List Int)(hl:l.length<1073741824)(d1:List (List Int))(d3:Int)(d4:List (List Int))(d5 d6:Int)(d7:List Int)(d8 d9:Int)(d10:Bool)(d11:List Int)(d12 d13:Bool)(d14:List Int)(d15:Int)(d16:List Int)(d17:Int)(d18:Bool)(d19:Int)(d20:List Int)(d21 d22:Bool):
  ∀ (m k cnt:Nat) (met:List (Int×Int)) (seen:List Int),k+m=l.length→MI n met seen→(l.drop k).Nodup→m<cnt →
  ((∀ t∈l.drop k,t<n→t∉seen)∧∃ met',AU Fi cnt (n,d1,met,d3,d4,d5,d6,d7,d8,d9,d10,d11,d12,d13,d14,d15,d16,d17,d18,d19,d20,d21,d22,l,(l.length:Int),(k:Int),()) =
    some (.inr (.inl (n,d1,met',d3,d4,d5,d6,d7,d8,d9,d10,d11,d12,d13,d14,d15,d16,d17,d18,d19,d20,d21,d22,())))∧MI n met' (seen++(l.drop k).filter (fun t=>decide (t<n)))) ∨
  (¬ (∀ t∈l.drop k,t<n→t∉seen)∧AU Fi cnt (n,d1,met,d3,d4,d5,d6,d7,d8,d9,d10,d11,d12,d13,d14,d15,d16,d17,d18,d19,d20,d21,d22,l,(l.length:Int),(k:Int),())=some (.inl (false,()))):=by
 intro m;induction m with
  |zero=>
   intro k cnt met seen hk hm hn hc;obtain⟨cnt,rfl⟩:∃ c,cnt=c+1:=⟨cnt-1,by omega⟩
   have e:l.drop k=[]:=Aqq (by omega);rw[e];refine .inl ⟨by simp,met,?_,by simpa using hm⟩;rw[AU,Fi,AN,Apo (by omega)]
  |succ m ih=>
   intro k cnt met seen hk hm hn hc;obtain⟨cnt,rfl⟩:∃ c,cnt=c+1:=⟨cnt-1,by omega⟩
   have hk':k<l.length:=by omega
   have e:l.drop k=l.getD k 0::l.drop (k+1):=by rw[AqX hk',Apu,Apz hk',AqK]
   rw[AU,Fi,AN,Apr hk'];simp only[EV (0:Int) hk'];rw[e]at hn ⊢;generalize l.getD k 0=t at *;rw[AqO]at hn;rw[AO (by omega),Ab];by_cases ht:t<n;rw[Apr ht];have hmt:=hm t ht;simp only[hmt,Ab];by_cases hs:t∈seen;rw[Ap5 hs,Apr (by omega)];exact .inr ⟨fun h=>h t (by simp) ht hs,rfl⟩;rw[Ap4 hs,Apo (by omega)];simp only[];have w1:IntKind.wrap .i64 ((0:Int)+1)=1:=by rw[Ad (by omega)];rfl
   rw[w1];have hm':MI n (Ae met t 1) (seen++[t]):=by intro y hy;rw[HU];by_cases e2:y=t;simp[e2];simp only[e2,AqB,Ap6,AqR,AsD];exact hm y hy
   have hiff:(∀ y∈t::l.drop (k+1),y<n→y∉seen)↔∀ y∈l.drop (k+1),y<n→y∉seen++[t]:=by constructor;intro h y hy hyn hm2;simp only[Ap6,AqR]at hm2;rcases hm2 with h2|rfl;exact h y (AqD _ hy) hyn h2;exact hn.1 hy;intro h y hy hyn hm2;rcases Apv.1 hy with rfl|hy;exact hs hm2;exact h y hy hyn (by simp[hm2])
   rcases ih (k+1) cnt _ _ (by omega) hm' hn.2 (by omega)with⟨q1,met',q2,q3⟩|⟨q1,q2⟩
   refine .inl ⟨hiff.2 q1,met',q2,?_⟩;rw[AsX (by simpa using ht)];simpa using q3;exact .inr ⟨fun h=>q1 (hiff.1 h),q2⟩;rw[Apo ht];simp only[];have hm':MI n (Ae met t (IntKind.wrap .i64 (((AR met t).getD (0:Int))+(1:Int)))) seen:=by intro y hy;rw[HU,Ap4 (by omega)];exact hm y hy
   have hiff:(∀ y∈t::l.drop (k+1),y<n→y∉seen)↔∀ y∈l.drop (k+1),y<n→y∉seen:=by constructor;intro h y hy;exact h y (AqD _ hy);intro h y hy hyn;rcases Apv.1 hy with rfl|hy;exact absurd hyn ht;exact h y hy hyn
   rcases ih (k+1) cnt _ _ (by omega) hm' hn.2 (by omega)with⟨q1,met',q2,q3⟩|⟨q1,q2⟩
   refine .inl ⟨hiff.2 q1,met',q2,?_⟩;rw[AsY (by simpa using ht)];exact q3;exact .inr ⟨fun h=>q1 (hiff.1 h),q2⟩
theorem Wp(n:Int)(rings:List (List Int))(hlen:rings.length<1073741824)(hr:∀ l∈rings,l.length<9223372036854775808∧∀ x∈l, -9223372036854775808≤x∧x≤9223372036854775807):
  ∀ (ls:List (List Int)) (i cnt:Nat) (met:List (Int×Int)) (last:Int) (seen:List Int),rings.drop i=ls→i≤rings.length→MI n met seen→ls.length<cnt →
  (okR n seen last ls∧∃ met' seen',AU Fj cnt (n,rings,met,last,rings,(rings.length:Int),(i:Int),())=some (.inr (.inl (n,rings,met',())))∧MI n met' seen'∧∀ v,v∈seen'↔v∈seen∨(v<n∧v∈ls.flatten)) ∨
  (¬ okR n seen last ls∧AU Fj cnt (n,rings,met,last,rings,(rings.length:Int),(i:Int),())=some (.inl (false,()))):=by
 have hmany:4294967296<many:=by simp only[many];omega
 intro ls;induction ls with
  |nil=>
   intro i cnt met last seen hd hi hm hc;obtain⟨cnt,rfl⟩:∃ c,cnt=c+1:=⟨cnt-1,by simp at hc;omega⟩
   have:rings.length≤i:=by simpa using hd
   refine .inl ⟨trivial,met,seen,?_,hm,by simp⟩;rw[AU,Fj,AN,Apo (by omega)]
  |cons l ls ih=>
   intro i cnt met last seen hd hi hm hc;simp only[Apw]at hc;obtain⟨cnt,rfl⟩:∃ c,cnt=c+1:=⟨cnt-1,by omega⟩
   have hi':i<rings.length:=by refine Aql fun h => ?_;rw[Aqq (by omega)]at hd;cases hd
   rw[AqX hi']at hd;simp only[AqF]at hd;obtain⟨hd1,hd2⟩:=hd;have hx:rings[i]? = some l:=by rw[Apz hi',hd1]
   have hmem:l∈rings:=Ap0 hx;obtain⟨hl,hlr⟩:=hr l hmem;rw[AU,Fj,AN,Apr hi',okR];simp only[Aa hx,As];cases l with
    |nil=>rw[AK,Apr (by simp)];exact .inr ⟨fun h=>h.1.2.1 rfl,rfl⟩
    |cons x tl=>
     rw[AK,Apo (by simp only[Apw];omega)];have i0:idx (x::tl) (0:Int)=some x:=by rw[Gr];rfl
     simp only[i0,AsO,Ao];by_cases c1:x≤last;rw[Apr c1];exact .inr ⟨fun h=>by omega,rfl⟩;rw[Apo c1];simp only[Ki];by_cases c2:Rt (x::tl);rw[Apr c2];have hl:(x::tl).length<1073741824:=by have:=c2.1;omega
     simp only[Apx,AKn (x::tl) (by simp) (by omega)];by_cases c3:Gm (x::tl)=x;rw[Apr c3];simp only[Apx];rw[Ag8 n (x::tl) (by simp) (by omega) hlr c2.2.2 (fun y hy=>by simp at hy;rw[← hy];exact c3)];by_cases c4:TI n (x::tl);rw[Apr c4];simp only[Apx,At];have hRG:RG n (x::tl):=⟨c2,by simp,c3,c4⟩
     rcases AEi n (x::tl) hl rings x rings (rings.length:Int) (i:Int) (x::tl) x last false (x::tl) true false (x::tl) (Gm (x::tl)) (x::tl) x false n (x::tl) true false (x::tl).length 0 many met seen (by omega) hm (by rw[ArY];exact c2.2.2) (by omega)with⟨q1,met',q2,q3⟩|⟨q1,q2⟩
     rw[ArY]at q1 q3;have q2':AU Fi many (n,rings,met,x,rings,(rings.length:Int),(i:Int),x::tl,x,last,false,x::tl,true,false,x::tl,Gm (x::tl),x::tl,x,false,n,x::tl,true,false,x::tl,((x::tl).length:Int),(0:Int),())=_:=q2;simp only[q2',AO (show i+1<9223372036854775808 by omega)];rcases ih (i+1) cnt met' x (seen++(x::tl).filter (fun t=>decide (t<n))) hd2 (by omega) q3 (by omega)with⟨p1,met2,seen2,p2,p3,p4⟩|⟨p1,p2⟩
     refine .inl ⟨⟨hRG,by omega,q1,p1⟩,met2,seen2,p2,p3,fun v => ?_⟩;rw[p4,Ap6,ArL,Aqy,Ap6];simp only[Aps];constructor;rintro ((h|h)|h);exact .inl h;exact .inr ⟨h.2,.inl h.1⟩;exact .inr ⟨h.1,.inr h.2⟩;rintro (h|⟨h,h2|h2⟩);exact .inl (.inl h);exact .inl (.inr ⟨h2,h⟩);exact .inr ⟨h,h2⟩;exact .inr ⟨fun h=>p1 h.2.2.2,p2⟩;rw[ArY]at q1;have q2':AU Fi many (n,rings,met,x,rings,(rings.length:Int),(i:Int),x::tl,x,last,false,x::tl,true,false,x::tl,Gm (x::tl),x::tl,x,false,n,x::tl,true,false,x::tl,((x::tl).length:Int),(0:Int),())=_:=q2;simp only[q2'];exact .inr ⟨fun h=>q1 h.2.2.1,by trivial⟩;rw[Apo c4];exact .inr ⟨fun h=>c4 h.1.2.2.2,rfl⟩;rw[Apo c3];exact .inr ⟨fun h=>c3 h.1.2.2.1,rfl⟩;rw[Apo c2];exact .inr ⟨fun h=>c2 h.1.1,rfl⟩
theorem Wo(n:Int)(rings:List (List Int))(hlen:rings.length<1073741824)(hr:∀ l∈rings,l.length<9223372036854775808∧∀ x∈l, -9223372036854775808≤x∧x≤9223372036854775807):
  OM ((n,(rings,())),())=some (decide (RF n rings),()):=by
 have hmany:4294967296<many:=by simp only[many];omega
 rw[ABd,Wq];simp only[KZ];by_cases hS:Sz n;rw[Apr hS];simp only[Apx,At,AK];rcases Wp n rings hlen hr rings 0 many [] (-1) [] (by simp) (by omega) (fun t _=>by simp[AR]) (by omega)with⟨p1,met,seen,p2,p3,p4⟩|⟨p1,p2⟩
 have p2':AU Fj many (n,rings,[], -1,rings,(rings.length:Int),(0:Int),())=_:=p2;simp only[p2'];obtain⟨s1,s2⟩:=hS;obtain⟨N,rfl⟩:=Ap7 (show 0≤n by omega)
 have e:=AI9 (step:=Hj) (fun i=>(met,(N:Int),(i:Int),())) N (fun i=>decide ((i:Int)∉seen)) (fun _=>.inl (false,())) (.inr (.inl ())) (by omega)
  (fun i hi=>by
   have:=p3 (i:Int) (by omega)
   rw[Hj,AN,Apr hi]
   simp only[this,As]
   by_cases h:(i:Int)∈seen
   ·simp only[h,AqP,not_true]
    rw[AO (by omega)];simp
   ·simp[h])
  (by rw[Hj,AN,Apo (by omega)])
 rw[At]at e;have hv:∀ v,v∈seen↔(v<(N:Int)∧v∈rings.flatten):=fun v=>by rw[p4];simp
 rcases e with⟨k,k1,k2,_,k4⟩|⟨k1,k4⟩
 have k4':AU Hj many (met,(N:Int),(0:Int),())=_:=k4;rw[k4',Apo];rintro⟨_,_,h⟩;simp only[Aps]at k2;exact k2 ((hv _).2 ⟨by omega,h (k:Int) (by omega) (by omega)⟩);have k4':AU Hj many (met,(N:Int),(0:Int),())=_:=k4;rw[k4',Apr];refine⟨⟨s1,s2⟩,p1,fun v v1 v2 => ?_⟩;obtain⟨k,rfl⟩:=Ap7 v1;have:=k1 k (by omega);simp only[Aqc,AsZ]at this;exact((hv _).1 this).2;have p2':AU Fj many (n,rings,[], -1,rings,(rings.length:Int),(0:Int),())=_:=p2;simp only[p2'];rw[Apo (fun h=>p1 h.2.1)];rw[Apo hS,Apo (fun h=>hS h.1)];rfl
end Go.Pev.Pl
end
section
namespace Go.Pev.Pl
open Tok
def MB(N:Nat)(met:List Bool)(seen:List Int):Prop:=met.length=N∧∀ k,k<N→met.getD k false=decide ((k:Int)∈seen)
theorem AQL{xs:List Int}(hr:Rt xs)(h:xs≠[]):plain xs=xs↔Gm xs=xs.headD 0:=by
 obtain⟨a,b,h1,h2⟩:=IL hr h;constructor
 ·intro e;rw[e]at h2;rw[h2];have:Gm xs=Gm xs:=rfl;conv=>lhs;rw[← h2]
  rfl
 intro e;cases a with
  |nil=>rw[h2,Aqv];exact h1.symm
  |cons y a=>
   exfalso;have hn:=hr.2.2;have hy:y=Gm xs:=by rw[e,h1];rfl
   rw[h1,AqJ,AqO]at hn;exact hn.1 (by rw[← hy];simp)
theorem AZt{n:Int}:∀ {ls:List (List Int)} {seen:List Int} {last:Int},okR n seen last ls→seen.Nodup→(seen++ls.flatten.filter (fun t=>decide (t<n))).Nodup∧∀ l∈ls,RG n l:=by
 intro ls;induction ls with
  |nil=>intro seen last _ h;simpa using h
  |cons l ls ih=>
   intro seen last ⟨h1,h2,h3,h4⟩ hs;obtain⟨g1,g2⟩:=ih h4 (by rw[Arl];refine⟨hs,(h1.1.2.2).filter _,fun a ha b hb => ?_⟩;rintro rfl;simp only[ArL,Aps]at hb;exact h3 a hb.1 hb.2 ha)
   refine⟨by rw[Aqy,Ar2,← ArV];exact g1,fun k hk => ?_⟩;rcases Apv.1 hk with rfl|hk;exact h1;exact g2 k hk
theorem Np{n:Int}{l:List Int}(h:RG n l):In n (l.headD 0):=by
 obtain⟨h1,h2,h3,h4⟩:=h;cases l with
  |nil=>exact absurd rfl h2
  |cons x l=>exact AWW h4 h3
theorem AVP{n:Int}(hn:1≤n):∀ {ls:List (List Int)} {seen:List Int} {last:Int},okR n seen last ls→-1≤last→last<n→(ls.length:Int)≤n-1-last:=by
 intro ls;induction ls with
  |nil=>intro seen last _ _ h;simp;omega
  |cons l ls ih=>intro seen last ⟨h1,h2,h3,h4⟩ hl hl2;have hh:=(Np h1).2.2;have:=ih h4 (by omega) hh.2;simp only[Apw];omega
end Go.Pev.Pl
end
section
namespace Go.Pev.Pl
open Tok
def hd(l:List Int):Int:=l.headD 0
def Dis(n:Int)(a b:List Int):Prop:=∀ t∈a,t<n→t∉b
structure FR(n:Int)(rings:List (List Int)):Prop where
 sz:Sz n
 rg:∀ l∈rings,RG n l
 up:rings.Pairwise (fun a b=>hd a<hd b)
 dis:rings.Pairwise (Dis n)
 cov:∀ v,In n v→∃ l∈rings,v∈l
theorem Dis.symm{n:Int}{a b:List Int}(h:Dis n a b):Dis n b a:=fun t ht hn ha=>h t ha hn ht
theorem AVQ{n:Int}:∀ {ls:List (List Int)} {seen:List Int} {last:Int},okR n seen last ls↔(∀ l∈ls,RG n l∧last<hd l∧∀ t∈l,t<n→t∉seen)∧ls.Pairwise (fun a b=>hd a<hd b)∧ls.Pairwise (Dis n):=by
 intro ls;induction ls with
  |nil=>intro seen last;simp[okR]
  |cons l ls ih=>intro seen last;rw[okR,ih,Aqf,Aqf];constructor;rintro⟨h1,h2,h3,h4,h5,h6⟩;refine⟨fun k hk => ?_,⟨fun k hk=>(h4 k hk).2.1,h5⟩,⟨fun k hk t ht htn htk => ?_,h6⟩⟩;rcases Apv.1 hk with rfl|hk;exact⟨h1,h2,h3⟩;obtain⟨q1,q2,q3⟩:=h4 k hk;exact⟨q1,Int.lt_trans h2 q2,fun t ht htn hts=>q3 t ht htn (by simp[hts])⟩;exact(h4 k hk).2.2 t htk htn (by simp[ht,htn]);rintro⟨h1,⟨h2,h3⟩,⟨h4,h5⟩⟩;obtain⟨q1,q2,q3⟩:=h1 l (by simp);refine⟨q1,q2,q3,fun k hk => ?_,h3,h5⟩;obtain⟨p1,p2,p3⟩:=h1 k (by simp[hk]);refine⟨p1,h2 k hk,fun t ht htn hts => ?_⟩;simp only[Ap6,ArL]at hts;rcases hts with h|h;exact p3 t ht htn h;exact h4 k hk t h.1 htn ht
theorem Mq{n:Int}{rings:List (List Int)}:RF n rings↔FR n rings:=by constructor;rintro⟨h1,h2,h3⟩;obtain⟨q1,q2,q3⟩:=AVQ.1 h2;refine⟨h1,fun l hl=>(q1 l hl).1,q2,q3,fun v hv => ?_⟩;obtain⟨l,hl,h⟩:=List.mem_flatten.1 (h3 v hv.2.2.1 hv.2.2.2);exact⟨l,hl,h⟩;rintro⟨h1,h2,h3,h4,h5⟩;refine⟨h1,AVQ.2 ⟨fun l hl=>⟨h2 l hl,?_,by simp⟩,h3,h4⟩,fun v v1 v2 => ?_⟩;have:=(Np (h2 l hl)).2.2.1;show(-1:Int)<l.headD 0;omega;obtain⟨l,hl,h⟩:=h5 v ⟨h1.1,h1.2,v1,v2⟩;exact List.mem_flatten.2 ⟨l,hl,h⟩
theorem TF{ys zs:List (List Int)}(hz:zs.Pairwise (fun a b=>hd a<hd b))(hp:ys.Perm zs)(hy:ys.Pairwise (fun a b=>¬ hd b<hd a)):ys=zs:=by
 have hinj:∀ a∈zs,∀ b∈zs,hd a=hd b→a=b:=by intro a ha b hb e;refine Aql fun hne => ?_;obtain⟨i,hi,rfl⟩:=Aq8 ha;obtain⟨j,hj,rfl⟩:=Aq8 hb;rw[Arq]at hz;rcases Nat.lt_trichotomy i j with h|h|h;have:=hz i j hi hj h;omega;subst h;exact hne rfl;have:=hz j i hj hi h;omega
 refine List.Perm.eq_of_pairwise (le:=fun a b=>¬ hd b<hd a) ?_ hy ?_ hp;intro a b ha hb h1 h2;exact hinj a (hp.mem_iff.1 ha) b hb (by omega);exact hz.imp fun h=>by omega
def plc(rings:List (List Int))(v:Int):Int:=if rings.any (fun l=>decide (v∈l))then((rings.findIdx (fun l=>decide (v∈l)):Nat):Int)else -1
theorem Ka(n:Int)(rings:List (List Int))(v:Int)(hlen:rings.length<1073741824)(hr:∀ l∈rings,l.length<9223372036854775808):Rm ((n,(rings,())),v,())=some (plc rings v,()):=by
 rw[ABf,Wt,JJ,GA]
 have e:=N6 (step:=Cj) (fun i=>(v,rings,AH rings,(i:Int),())) rings (fun l=>decide (v∈l)) (fun i=>.inl (v,(i:Int),())) (.inr (.inl (v,()))) (by omega)
  (fun i l hi hx=>by
   have hl:=hr l (Ap0 hx)
   rw[Cj,AK,AN,Apr hi]
   simp only[Aa hx,Jj l v (by omega)]
   rw[AO (by omega)]
   by_cases h:v∈l
   ·rw[Apr h];rfl
   ·rw[Apo h];rfl)
  (by rw[Cj,AK,AN,Apo (by omega)])
 have e':AL Cj many (v,rings,AH rings,(0:Int),())=_:=e;simp only[e',plc];cases rings.any (fun l=>decide (v∈l))<;>rfl
theorem OU{rings:List (List Int)}{v:Int}(h:∃ l∈rings,v∈l):∃ k l,plc rings v=((k:Nat):Int)∧rings[k]? = some l∧v∈l∧k<rings.length:=by obtain⟨l,hl,hv⟩:=h;have hany:rings.any (fun l=>decide (v∈l))=true:=Arw.2 ⟨l,hl,by simpa using hv⟩;have hk:rings.findIdx (fun l=>decide (v∈l))<rings.length:=Ara.2 ⟨l,hl,by simpa using hv⟩;refine⟨_,rings[rings.findIdx (fun l=>decide (v∈l))],by rw[plc,Ap5 hany],by rw[Apz hk],?_,hk⟩;have:=List.findIdx_getElem (xs:=rings) (p:=fun l=>decide (v∈l)) (w:=hk);simpa using this
theorem FR.uniq{n:Int}{rings:List (List Int)}(h:FR n rings){i j:Nat}{a b:List Int}{v:Int}(hi:rings[i]? = some a)(hj:rings[j]? = some b)(hn:v<n)(ha:v∈a)(hb:v∈b):i=j:=by obtain⟨hi1,rfl⟩:=AqZ.1 hi;obtain⟨hj1,rfl⟩:=AqZ.1 hj;have hd:=Arq.1 h.dis;rcases Nat.lt_trichotomy i j with g|g|g;exact absurd hb (hd i j hi1 hj1 g v ha hn);exact g;exact absurd ha (hd j i hj1 hi1 g v hb hn)
theorem FR.AFR{n:Int}{rings:List (List Int)}(h:FR n rings){k:Nat}{a:List Int}{v:Int}(hk:rings[k]? = some a)(hn:v<n)(ha:v∈a):plc rings v=(k:Int):=by obtain⟨j,l,e,hj,hv,_⟩:=OU ⟨a,Ap0 hk,ha⟩;rw[e,h.uniq hj hk hn hv ha]
theorem YZ{α:Type}{l:List α}{i:Nat}{a:α}(h:l[i]? = some a):l.Perm (a::l.eraseIdx i):=by
 obtain⟨hi,rfl⟩:=AqZ.1 h;rw[List.eraseIdx_eq_take_drop_succ];conv=>lhs;rw[← Aqa i l,AqX hi]
 exact List.perm_middle
theorem JS{α:Type}{l:List α}{i j:Nat}{a b:α}(hij:i<j)(hi:l[i]? = some a)(hj:l[j]? = some b):l.Perm (a::b::(l.eraseIdx j).eraseIdx i):=by
 have h1:=YZ hj;have h2:(l.eraseIdx j)[i]? = some a:=by rw[List.getElem?_eraseIdx_of_lt hij,hi]
 exact h1.trans (((YZ h2).cons b).trans (List.Perm.swap a b _))
theorem AZs{n:Int}{t:Tok}(h:okT n t):0≤Dw n t∧Dw n t≤4160∧Dw n t<n*(n+1):=by
 cases t with
  |ver v=>obtain⟨h1,h2,h3,h4⟩:=h;have:n*1≤n*(n+1):=Int.mul_le_mul_of_nonneg_left (by omega) (by omega);simp only[Dw];omega
  |arc u v=>
   obtain⟨h1,h2,_⟩:=h;obtain⟨g1,g2,_⟩:=WN h1 h2;have hb:=Fz (u:=n+1-1) h1.1 h1.2.1 (by have:=h1.1;omega) (by have:=h1.2.1;omega);have e:n*(n+1)=n*(n+1-1)+n:=by rw[show n+1-1=n by omega,Asb,Asc]
   have:=h1.1;have:=h1.2.1;simp only[Dw];omega
theorem An3{n:Int}{t:Tok}(h:okT n t):Sz n:=by
 cases t with
  |ver v=>exact⟨h.1,h.2.1⟩
  |arc u v=>exact⟨h.1.1,h.1.2.1⟩
theorem OJ:∀ {L:List Tok},L.Nodup→(Ll L).Nodup
 |[],_=>by simp[Ll]
 |.ver v::L,h=>by rw[AqO]at h;rw[Ll,AqO];exact⟨fun hm=>h.1 (QD.1 hm),OJ h.2⟩
 |.arc _ _::L,h=>by rw[AqO]at h;rw[Ll];exact OJ h.2
theorem Amt{n:Int}{xs:List Int}(h:TI n xs):Rt xs:=by
 obtain⟨L,rfl,h2,h3⟩:=h;have hn:=h3.nodup;refine⟨?_,fun x hx => ?_,?_⟩;obtain⟨v,r,hr⟩:=h3.AL5;have hS:Sz n:=An3 (h2 (.ver v) ((hr.mem _).2 (by simp)));have hl:=h3.len;have hv:=DX (a:=Ll L) (b:=(List.range n.toNat).map (fun(k:Nat)=>(k:Int))) (OJ hn) fun x hx=>by have:=h2 _ (QD.1 hx);have h5:=this.2.2;rw[AqU];exact⟨x.toNat,by rw[Aqi];omega,by omega⟩
 have h6:=hS.2;simp only[Aqk,AqH]at hv ⊢;omega;obtain⟨t,ht,rfl⟩:=AqU.1 hx;have:=AZs (h2 t ht);omega;rw[List.Nodup,ArW];exact hn.imp_of_mem fun ha hb hne e=>hne (GX (h2 _ ha) (h2 _ hb) e)
def AcR(a b:List Int):Prop:=∃ x y,a=x++y∧b=y++x
theorem AcR.perm{a b:List Int}(h:AcR a b):a.Perm b:=by obtain⟨x,y,rfl,rfl⟩:=h;exact Arh
theorem Aic{n:Int}{a b:List Int}(h:TI n a)(r:AcR a b):TI n b:=by obtain⟨L,h1,h2,h3⟩:=h;obtain⟨x,y,rfl,rfl⟩:=r;obtain⟨L1,L2,rfl,e1,e2⟩:=Asd.1 h1.symm;refine⟨L2++L1,by rw[Are,e1,e2],fun t ht=>h2 t ?_,T.rot L1 L2 h3⟩;simp only[Ap6]at ht ⊢;exact ht.symm
theorem Co{xs:List Int}{t:Int}(h:t∈xs):AcR xs (A2 xs t):=by obtain⟨a,b,e1,_,e3⟩:=XO h;exact⟨a,t::b,e1,by rw[e3]⟩
theorem AZy{xs ys:List Int}(h:xs.Perm ys)(hne:xs≠[]):Gm ys=Gm xs:=by obtain⟨h1,h2⟩:=Ew hne;exact Akn (h.mem_iff.1 h1) fun x hx=>h2 x (h.mem_iff.2 hx)
theorem AQM{xs:List Int}(hr:Rt xs)(hne:xs≠[]):AcR xs (plain xs):=by rw[plain,Ap5 ⟨hr,hne⟩];exact Co (Ew hne).1
theorem Ams{n:Int}{xs:List Int}(h:TI n xs):xs≠[]:=by rintro rfl;exact Aie n h
theorem Y9{n:Int}{xs:List Int}(h:TI n xs):RG n (plain xs)∧AcR xs (plain xs):=by have hr:=Amt h;have hne:=Ams h;have h1:=AQM hr hne;have h2:=Aic h h1;refine⟨⟨Amt h2,Ams h2,?_,h2⟩,h1⟩;rw[AZy h1.perm hne];obtain⟨a,b,_,e⟩:=IL hr hne;rw[e];rfl
theorem AMj{n:Int}{xs:List Int}(h:TI n xs){t:Tok}(ht:okT n t)(hx:Dw n t∈xs):∃ a,A2 xs (Dw n t)=(t::a).map (Dw n)∧T (t::a)∧(∀ y∈t::a,okT n y):=by
 have h1:=Aic h (Co hx);obtain⟨a,b,e1,e2,e3⟩:=XO hx;obtain⟨L,q1,q2,q3⟩:=h1;rw[e3,AqJ]at q1;cases L with
  |nil=>cases q1
  |cons t' L=>simp only[AqL,AqF]at q1;have:=GX ht (q2 t' (by simp)) q1.1;subst this;exact⟨L,by rw[e3,AqJ,AqL,q1.2],q3,q2⟩
end Go.Pev.Pl
end
section
namespace Go.Pev.Pl
open Go.RowKit Tok
theorem Gq(a:Int):ieq a a=true:=by rw[Db];simp
def Dom(rings:List (List Int)):Prop:=rings.length<1073741824∧∀ l∈rings,l.length<9223372036854775808∧∀ x∈l, -9223372036854775808≤x∧x≤9223372036854775807
theorem FR.dom{n:Int}{rings:List (List Int)}(h:FR n rings):Dom rings:=by have h1:=Mq.2 h;have h2:=AVP h.sz.1 h1.2.1 (by omega) (by have:=h.sz.1;omega);have h3:=h.sz.2;refine⟨by omega,fun l hl => ?_⟩;have:=(h.rg l hl).1;exact⟨by have:=this.1;omega,fun x hx=>by have:=this.2.1 x hx;omega⟩
theorem Sb{l:List Int}(h:l≠[]):hd l∈l:=by
 cases l with
  |nil=>exact absurd rfl h
  |cons x l=>simp[hd]
end Go.Pev.Pl
end
section
namespace Go.Pev.Pl
open Tok
noncomputable def AMX(n:Int)(rings:List (List Int))(ok:Bool):Int:=if RF n rings then if ok then 0 else 10 else 1
theorem ASe(n:Int)(rings:List (List Int))(xs:List Int)(hs:xs.length<9223372036854775808):Ec (xs,n,rings,())=some (n,rings,xs.any (fun x=>decide (x<0)||decide (n≤x)),()):=by
 rw[Ij,FQ,JK,GB]
 have e:=N6 (step:=Ck) (fun i=>(n,rings,xs,AH xs,(i:Int),())) xs (fun x=>decide (x<0)||decide (n≤x)) (fun i=>.inl (n,rings,(i:Int),())) (.inr (.inl (n,rings,()))) hs
  (fun i x hi hx=>by
   rw[Ck,AK,AN,Apr hi]
   simp only[Aa hx,Ab,Ao]
   rw[AO (by omega)]
   by_cases h:x<0
   ·simp[h]
   ·by_cases h2:n≤x
    ·simp[h,h2]
    ·simp[h,h2])
  (by rw[Ck,AK,AN,Apo (by omega)])
 have e':AL Ck many (n,rings,xs,AH xs,(0:Int),())=_:=e;rw[e'];generalize (xs.any fun x=>decide (x<0)||decide (n≤x))=b;cases b<;>simp[Ao]
theorem ATL{n v:Int}(hS:Sz n):(decide (v<0)||decide (n≤v)) = !decide (In n v):=by
 by_cases h:In n v;obtain⟨_,_,h3,h4⟩:=h;simp[In,hS.1,hS.2,h3,h4];have:v<0∨n≤v:=by refine Aql fun hc=>h ⟨hS.1,hS.2,by omega,by omega⟩
 rcases this with g|g<;>simp[h,g]
theorem YV(n:Int)(rings:List (List Int))(xs:List Int)(hD:Dom rings)(hs:xs.length<9223372036854775808):MQ ((n,(rings,())),xs,())=some (AMX n rings (xs.all fun v=>decide (In n v)),()):=by
 rw[ACx,YW];simp only[Wo n rings hD.1 hD.2,ASe n rings xs hs,AMX];by_cases h:RF n rings;have hb:(xs.any fun x=>decide (x<0)||decide (n≤x)) = !(xs.all fun v=>decide (In n v)):=by rw[List.not_all_eq_any_not];congr 1;funext x;exact ATL h.1
 simp only[h,Apy,Apx,hb,AqP];cases xs.all fun v=>decide (In n v)<;>rfl;simp[h]
end Go.Pev.Pl
end
section
namespace Go.Pev.Pl.SG
open Go.Sort
structure SP(α:Type)where
 z:α
 c:α×α×Unit→Option (Int×Unit)
 ok:α→Prop
 okz:α
 Xt:ok okz
 lt:α→α→Bool
 swo:SWO lt
 AGc:∀ {x y:α},ok x→ok y→∃ r,c (x,y,())=some (r,())∧ilt r (0:Int)=lt x y
variable {α:Type} {S:SP α}
abbrev EL{α:Type}(S:SP α):={x:α // S.ok x}
instance:Inhabited (EL S):=⟨⟨S.okz,S.Xt⟩⟩
def rep(d:Array (EL S)):List α:=d.toList.map Subtype.val
theorem A3{d:Array (EL S)}{n:Nat}(h:n<d.size):idx (rep d) (n:Int)=some (d[n]!).val:=by rw[idx_eq,YI,Ap4 (by omega)];simp[rep,h]
theorem Bd{d:Array (EL S)}{n:Nat}{z:α}(h:n<d.size):AJ (rep d) (AF (n:Int)) z=(d[n]!).val:=by simp[AJ,AF,rep,h]
theorem JT{d:Array (EL S)}{n:Nat}{x:(EL S)}:AX (rep d) (AF (n:Int)) x.val=rep (d.setIfInBounds n x):=by simp[AX,AF,rep,List.map_set]
theorem AWD{d:Array (EL S)}:AH (rep d)=(d.size:Int):=by simp[AH,rep]
def ltX(x y:(EL S)):Bool:=S.lt x.val y.val
theorem AdX:SWO (ltX (S:=S)):=⟨fun x=>S.swo.irrefl x.val,fun x y z=>S.swo.trans x.val y.val z.val,fun x y z=>S.swo.ntrans x.val y.val z.val⟩
noncomputable def Al2(x y:(EL S)):Int:=match S.c (x.val,y.val,())with
 |some (c,_)=>c
 |none=>0
theorem Ch(x y:(EL S)):S.c (x.val,y.val,())=some (Al2 x y,()):=by obtain⟨c,e,_⟩:=S.AGc x.property y.property;rw[Al2,e]
theorem Dd(x y:(EL S)):ilt (Al2 x y) (0:Int)=ltX x y:=by obtain⟨c,e,h⟩:=S.AGc x.property y.property;rw[Al2,e];exact h
theorem AlG(a b i:Nat):∀ (j:Nat) (d:Array (EL S)) (n:Nat),j<d.size→d.size<4611686018427387904→j<n →
  AU (WI S.z S.c) n ((rep d),(a:Int),(b:Int),(i:Int),(j:Int),())=some (.inl ((rep (insInner ltX a j d)),(a:Int),(b:Int),(i:Int),())):=by
 intro j;induction j with
  |zero=>
   intro d n hj hs hn;obtain⟨n,rfl⟩:∃ k,n=k+1:=⟨n-1,by omega⟩
   have h0:ilt (a:Int) ((0:Nat):Int)=false:=by rw[AN];simp
   simp only[AU,WI,h0,insInner]
  |succ j ih=>
   intro d n hj hs hn;obtain⟨n,rfl⟩:∃ k,n=k+1:=⟨n-1,by omega⟩
   have e1:IntKind.wrap .i64 (((j+1:Nat):Int)-1)=(j:Int):=by rw[Ad (by omega)];omega
   have hj':j<d.size:=by omega
   simp only[AU,WI,AN,e1,A3 hj,A3 hj',Bd hj,Bd hj',Ch,Dd,insInner,gt_iff_lt];by_cases h1:a<j+1;cases h2:ltX d[j+1]! d[j]!;simp only[h1,Apy,h2,Bool.and_false,AqC,AqB];simp only[h1,Apy,h2,Bool.and_true,AqP,JT];rw[A3 (by simpa using hj')];simp only[Jp];exact ih (swp d (j+1) j) n (by rw[size_swp];omega) (by rw[size_swp];omega) (by omega);simp only[h1,AqA,Ar9,AqC,AqB]
theorem JY(lt:(EL S)→(EL S)→Bool)(a j:Nat)(d:Array (EL S)):(insInner lt a j d).size=d.size:=by
 induction j generalizing d with
  |zero=>rfl
  |succ j ih=>rw[insInner];split;rw[ih,size_swp];rfl
theorem AgX(a b:Nat):∀ (k i:Nat) (d:Array (EL S)) (n:Nat),b-i=k→b≤d.size→d.size<4611686018427387904→d.size<many→k<n →
  AU (WJ S.z S.c) n ((rep d),(a:Int),(b:Int),(i:Int),())=some (.inl ((rep (insOuter ltX a b i d)),())):=by
 intro k;induction k with
  |zero=>
   intro i d n hk hb hs hm hn;obtain⟨n,rfl⟩:∃ k,n=k+1:=⟨n-1,by omega⟩
   have h0:¬ i<b:=by omega
   rw[insOuter];simp only[AU,WJ,AN,h0,AqA,AqB]
  |succ k ih=>
   intro i d n hk hb hs hm hn;obtain⟨n,rfl⟩:∃ k,n=k+1:=⟨n-1,by omega⟩
   have h0:i<b:=by omega
   have e1:IntKind.wrap .i64 ((i:Int)+1)=((i+1:Nat):Int):=by rw[Ad (by omega)];omega
   rw[insOuter];simp only[AU,WJ,AN,h0,Apy,AqP,At];rw[AlG a b i i d many (by omega) hs (by omega)];simp only[e1];exact ih (i+1) _ n (by omega) (by rw[JY];omega) (by rw[JY];omega) (by rw[JY];omega) (by omega)
theorem AgW(d:Array (EL S))(a b:Nat)(hab:a≤b)(hb:b≤d.size)(hs:d.size<4294967296):(Aad S.z S.c) ((rep d),(a:Int),(b:Int),())=some ((rep (insertionSort ltX d a b)),()):=by
 have hm:d.size<many:=by simp only[many];omega
 have e1:IntKind.wrap .i64 ((a:Int)+1)=((a+1:Nat):Int):=by rw[Ad (by omega)];omega
 rw[AlH,SV];simp only[e1,At];rw[AgX a b (b-(a+1)) (a+1) d many rfl hb (by omega) hm (by omega)];rfl
end Go.Pev.Pl.SG
end
end
section
section
namespace Go.Pev.Pl.SG
open Go.Sort
variable {α:Type} {S:SP α}
theorem APa(hi first:Nat):∀ (k root:Nat) (d:Array (EL S)) (n:Nat),hi-root=k→root≤hi→first+hi≤d.size→d.size<4294967296→(hi=0∨root<hi)→k<n →
  AU (Pn S.z S.c) n ((rep d),(hi:Int),(first:Int),(root:Int),())=some (.inl ((rep (siftDown ltX hi first root d)),())) ∨
  AU (Pn S.z S.c) n ((rep d),(hi:Int),(first:Int),(root:Int),())=some (.inr (.inl ((rep (siftDown ltX hi first root d)),()))):=by
 intro k;induction k using Nat.strongRecOn with
  |_ k ih=>
   intro root d n hk hr hf hs hz hn;obtain⟨n,rfl⟩:∃ k,n=k+1:=⟨n-1,by omega⟩
   rw[siftDown];simp (disch:=omega) only[AU,Pn,ABO,AO,wrap_add,Ea,AN];by_cases h1:hi≤2*root+1;simp only[h1,Apy,ge_iff_le,dite_true,true_or];have i0:first+root<d.size:=by omega
   have i1:first+(2*root+1)<d.size:=by omega
   simp only[h1,AqA,ge_iff_le,AqB,dite_false];simp (disch:=omega) only[A3,Bd,Ch,Dd];by_cases h2:2*root+1+1<hi;have i2:first+(2*root+2)<d.size:=by omega
   have i3:2*root+1+1=2*root+2:=by omega
   have i4:first+(2*root+1)+1=first+(2*root+2):=by omega
   have h3:2*root+2<hi:=by omega
   simp only[i3,i4,h3,Apy];simp (disch:=omega) only[A3,Bd,Ch,Dd,JT];cases h4:ltX d[first+(2*root+1)]! d[first+(2*root+2)]!;simp only[Bool.and_false,AqC,AqB];cases h5:ltX d[first+root]! d[first+(2*root+1)]!;simp;simp only[Apx,AqC,AqB];rw[A3 (by simpa using i1)];simp only[Jp];exact ih (hi-(2*root+1)) (by omega) (2*root+1) _ n rfl (by omega) (by rw[size_swp];omega) (by rw[size_swp];omega) (by omega) (by omega);simp only[Bool.and_true,AqP];cases h5:ltX d[first+root]! d[first+(2*root+2)]!;simp;simp only[Apx,AqC,AqB,dite_true];rw[A3 (by simpa using i2)];simp only[Jp];exact ih (hi-(2*root+2)) (by omega) (2*root+2) _ n rfl (by omega) (by rw[size_swp];omega) (by rw[size_swp];omega) (by omega) (by omega);simp only[h2,AqA,Ar9,AqC,AqB,JT];cases h5:ltX d[first+root]! d[first+(2*root+1)]!;simp;simp only[Apx,AqC,AqB];rw[A3 (by simpa using i1)];simp only[Jp];exact ih (hi-(2*root+1)) (by omega) (2*root+1) _ n rfl (by omega) (by rw[size_swp];omega) (by rw[size_swp];omega) (by omega) (by omega)
theorem ABx(d:Array (EL S))(root hi first:Nat)(hf:first+hi≤d.size)(hs:d.size<4294967296)(hz:hi=0∧root=0∨root<hi):(W7 S.z S.c) ((rep d),(root:Int),(hi:Int),(first:Int),())=some ((rep (siftDown ltX hi first root d)),()):=by
 have hm:d.size<many:=by simp only[many];omega
 rw[Ad2,NI];simp only[At];rcases APa hi first (hi-root) root d many rfl (by omega) hf hs (by omega) (by omega)with h|h<;>rw[h]
theorem ES(lt:(EL S)→(EL S)→Bool)(hi first:Nat):∀ (k root:Nat) (d:Array (EL S)),hi-root=k→(siftDown lt hi first root d).size=d.size:=by
 intro k;induction k using Nat.strongRecOn with
  |_ k ih=>intro root d hk;rw[siftDown];split;rfl;split;split;rfl;split;rw[ih (hi-(2*root+2)) (by omega) _ _ rfl,size_swp];rfl;split;rfl;rw[ih (hi-(2*root+1)) (by omega) _ _ rfl,size_swp]
theorem ALC(hi first:Nat):∀ (k:Nat) (d:Array (EL S)) (n:Nat),(hi=0∧k≤1∨k≤hi)→first+hi≤d.size→d.size<4294967296→k<n →
  AU (Ql S.z S.c) n ((rep d),(first:Int),(0:Int),(hi:Int),(k:Int)-1,())=some (.inl ((rep (heapBuild ltX hi first k d)),(first:Int),(0:Int),(hi:Int),())):=by
 intro k;induction k with
  |zero=>
   intro d n hk hf hs hn;obtain⟨n,rfl⟩:∃ k,n=k+1:=⟨n-1,by omega⟩
   rw[AU,Ql,Ao,Apo (by omega)];rfl
  |succ k ih=>
   intro d n hk hf hs hn;obtain⟨n,rfl⟩:∃ k,n=k+1:=⟨n-1,by omega⟩
   have e0:((k+1:Nat):Int)-1=(k:Int):=by omega
   rw[AU,Ql,e0,Ao,Apr (by omega)];simp only[ABx d k hi first hf hs (by omega)];rw[Ad (by omega)];exact ih _ n (by omega) (by rw[ES _ _ _ _ _ _ rfl];omega) (by rw[ES _ _ _ _ _ _ rfl];omega) (by omega)
theorem Ls(lt:(EL S)→(EL S)→Bool)(hi first:Nat):∀ (k:Nat) (d:Array (EL S)),(heapBuild lt hi first k d).size=d.size:=by
 intro k;induction k with
  |zero=>intro d;rfl
  |succ k ih=>intro d;rw[heapBuild,ih,ES _ _ _ _ _ _ rfl]
theorem Aan(first:Nat):∀ (k:Nat) (d:Array (EL S)) (n:Nat),first+k≤d.size→d.size<4294967296→k<n →
  AU (Qk S.z S.c) n ((rep d),(first:Int),(0:Int),(k:Int)-1,())=some (.inl ((rep (heapPop ltX first k d)),())):=by
 intro k;induction k with
  |zero=>
   intro d n hf hs hn;obtain⟨n,rfl⟩:∃ k,n=k+1:=⟨n-1,by omega⟩
   rw[AU,Qk,Ao,Apo (by omega)];rfl
  |succ k ih=>
   intro d n hf hs hn;obtain⟨n,rfl⟩:∃ k,n=k+1:=⟨n-1,by omega⟩
   have e0:((k+1:Nat):Int)-1=(k:Int):=by omega
   have i0:first<d.size:=by omega
   have i1:first+k<d.size:=by omega
   rw[AU,Qk,e0,Ao,Apr (by omega)];simp (disch:=omega) only[wrap_add,A3,Bd,JT];rw[A3 (by simpa using i1)];simp only[Jp];have:=ABx (swp d first (first+k)) 0 k first (by rw[size_swp];omega) (by rw[size_swp];omega) (by omega)
   simp only[Int.natCast_zero]at this;simp only[this];rw[Ad (by omega)];exact ih _ n (by rw[ES _ _ _ _ _ _ rfl,size_swp];omega) (by rw[ES _ _ _ _ _ _ rfl,size_swp];omega) (by omega)
theorem Aam(d:Array (EL S))(a b:Nat)(hab:a<b)(hb:b≤d.size)(hs:d.size<4294967296):(ACu S.z S.c) ((rep d),(a:Int),(b:Int),())=some ((rep (heapSort ltX d a b)),()):=by
 have hm:4294967296<many:=by simp only[many];omega
 rw[Agx,Nc];simp (disch:=omega) only[Df,A8,Ao3,At];have e:(((b-a-1)/2:Nat):Int)=(((b-a-1)/2+1:Nat):Int)-1:=by omega
 rw[e,ALC (b-a) a _ d many (by omega) (by omega) hs (by omega)];have e2:(((b-a-1:Nat)):Int)=((b-a:Nat):Int)-1:=by omega
 simp (disch:=omega) only[A8,e2];rw[Aan a (b-a) _ many (by rw[Ls];omega) (by rw[Ls];omega) (by omega)];rfl
end Go.Pev.Pl.SG
end
section
namespace Go.Pev.Pl.SG
open Go.Sort
variable {α:Type} {S:SP α}
theorem AY1:∀ (k i j:Nat) (d:Array (EL S)) (n:Nat),j-i=k→(j<d.size)→d.size<4294967296→k<n →
  AU (AFH S.z S.c) n ((rep d),(i:Int),(j:Int),())=some (.inl ((rep (reverseLoop i j d)),())):=by
 intro k;induction k using Nat.strongRecOn with
  |_ k ih=>
   intro i j d n hk hj hs hn;obtain⟨n,rfl⟩:∃ k,n=k+1:=⟨n-1,by omega⟩
   rw[reverseLoop,AU,AFH];simp only[AN];by_cases h:i<j;have hi:i<d.size:=by omega
   simp only[h,Apy,AqP,A3 hj,A3 hi,Bd hi,Bd hj,JT];rw[A3 (by simpa using hj)];simp (disch:=omega) only[Jp,AO,A8];exact ih (j-1-(i+1)) (by omega) (i+1) (j-1) _ n rfl (by rw[size_swp];omega) (by rw[size_swp];omega) (by omega);simp only[h,AqA,AqB]
theorem AeY(d:Array (EL S))(a b:Nat)(hab:a<b)(hb:b≤d.size)(hs:d.size<4294967296):(AY2 S.z S.c) ((rep d),(a:Int),(b:Int),())=some ((rep (reverseRange d a b)),()):=by
 have hm:4294967296<many:=by simp only[many];omega
 rw[Aj6,R3];simp (disch:=omega) only[A8,At];rw[AY1 (b-1-a) a (b-1) d many rfl (by omega) hs (by omega)];rfl
theorem EH{d:Array (EL S)}{i j:Nat}(hi:i<d.size)(hj:j<d.size):idx (AX (rep d) (AF (i:Int)) (AJ (rep d) (AF (j:Int)) S.z)) (j:Int)=some ((d.setIfInBounds i d[j]!)[j]!).val ∧
  AX (AX (rep d) (AF (i:Int)) (AJ (rep d) (AF (j:Int)) S.z)) (AF (j:Int)) (AJ (rep d) (AF (i:Int)) S.z)=(rep (swp d i j)):=by rw[Bd hi,Bd hj,JT,JT];exact⟨A3 (by simpa using hj),rfl⟩
theorem AE8(step:List α×Int×Int×Int×Unit→Option ((List α×Int×Int×Int×Unit)⊕(List α×Int×Int×Int×Unit)⊕Unit))(p:(EL S)→Bool)(d:Array (EL S))(a j:Nat)(hs:d.size<4294967296)(hj:j<d.size)
  (h:∀ i:Nat,i≤d.size→step ((rep d),(a:Int),(i:Int),(j:Int),())=if i≤j∧p d[i]! then some (.inl ((rep d),(a:Int),((i+1:Nat):Int),(j:Int),()))else some (.inr (.inl ((rep d),(a:Int),(i:Int),(j:Int),())))) :
  ∀ (k i n:Nat),j+1-i=k→i≤d.size→k<n→AU step n ((rep d),(a:Int),(i:Int),(j:Int),())=some (.inl ((rep d),(a:Int),((scanUp p d j i:Nat):Int),(j:Int),())):=by
 intro k;induction k using Nat.strongRecOn with
  |_ k ih=>
   intro i n hk hi hn;obtain⟨n,rfl⟩:∃ k,n=k+1:=⟨n-1,by omega⟩
   rw[scanUp,AU,h i hi];by_cases h1:i≤j∧p d[i]! = true;rw[Ap5 h1,Ap5 (by simpa using h1)];exact ih (j+1-(i+1)) (by omega) (i+1) n rfl (by omega) (by omega);rw[Ap4 h1,Ap4 (by simpa using h1)]
theorem Rw(step:List α×Int×Int×Int×Unit→Option ((List α×Int×Int×Int×Unit)⊕(List α×Int×Int×Int×Unit)⊕Unit))(p:(EL S)→Bool)(d:Array (EL S))(a i:Nat)(hi:1≤i)
  (h:∀ j:Nat,j<d.size→step ((rep d),(a:Int),(i:Int),(j:Int),())=if i≤j∧p d[j]! then some (.inl ((rep d),(a:Int),(i:Int),((j-1:Nat):Int),()))else some (.inr (.inl ((rep d),(a:Int),(i:Int),(j:Int),())))) :
  ∀ (j n:Nat),j<d.size→j<n→AU step n ((rep d),(a:Int),(i:Int),(j:Int),())=some (.inl ((rep d),(a:Int),(i:Int),((scanDown p d i j:Nat):Int),())):=by
 intro j;induction j with
  |zero=>
   intro n hj hn;obtain⟨n,rfl⟩:∃ k,n=k+1:=⟨n-1,by omega⟩
   rw[AU,h 0 hj,Ap4 (by omega)];rfl
  |succ j ih=>
   intro n hj hn;obtain⟨n,rfl⟩:∃ k,n=k+1:=⟨n-1,by omega⟩
   rw[scanDown,AU,h (j+1) hj];by_cases h1:i≤j+1∧p d[j+1]! = true;rw[Ap5 h1,Ap5 (by simpa using h1)];exact ih n (by omega) (by omega);rw[Ap4 h1,Ap4 (by simpa using h1)]
section
variable (d:Array (EL S)) (a i j:Nat) (hs:d.size<4294967296) (ha:a<d.size) (hj:j<d.size)
include hs ha hj
theorem AKf(hi:i≤d.size):(Xn S.z S.c) ((rep d),(a:Int),(i:Int),(j:Int),())=if i≤j∧(fun x=>ltX x d[a]!) d[i]! = true then some (.inl ((rep d),(a:Int),((i+1:Nat):Int),(j:Int),()))else some (.inr (.inl ((rep d),(a:Int),(i:Int),(j:Int),()))):=by
 rw[Xn];simp only[Ea];by_cases h:i≤j;have hi':i<d.size:=by omega
 simp (disch:=omega) only[h,Apy,A3,Bd,Ch,Dd,AO,Arx];cases ltX d[i]! d[a]!<;>simp;simp only[h,AqA,ArX,AqB]
theorem AKd(hi:i≤d.size):(Xk S.z S.c) ((rep d),(a:Int),(i:Int),(j:Int),())=if i≤j∧(fun x=>ltX x d[a]!) d[i]! = true then some (.inl ((rep d),(a:Int),((i+1:Nat):Int),(j:Int),()))else some (.inr (.inl ((rep d),(a:Int),(i:Int),(j:Int),()))):=by
 rw[Xk];simp only[Ea];by_cases h:i≤j;have hi':i<d.size:=by omega
 simp (disch:=omega) only[h,Apy,A3,Bd,Ch,Dd,AO,Arx];cases ltX d[i]! d[a]!<;>simp;simp only[h,AqA,ArX,AqB]
theorem AKe(hi:1≤i):(Xm S.z S.c) ((rep d),(a:Int),(i:Int),(j:Int),())=if i≤j∧(fun x => !ltX x d[a]!) d[j]! = true then some (.inl ((rep d),(a:Int),(i:Int),((j-1:Nat):Int),()))else some (.inr (.inl ((rep d),(a:Int),(i:Int),(j:Int),()))):=by rw[Xm];simp only[Ea];by_cases h:i≤j;simp (disch:=omega) only[h,Apy,A3,Bd,Ch,Dd,A8,Arx];cases ltX d[j]! d[a]!<;>simp;simp only[h,AqA,ArX,AqB]
theorem AKc(hi:1≤i):(Xj S.z S.c) ((rep d),(a:Int),(i:Int),(j:Int),())=if i≤j∧(fun x => !ltX x d[a]!) d[j]! = true then some (.inl ((rep d),(a:Int),(i:Int),((j-1:Nat):Int),()))else some (.inr (.inl ((rep d),(a:Int),(i:Int),(j:Int),()))):=by rw[Xj];simp only[Ea];by_cases h:i≤j;simp (disch:=omega) only[h,Apy,A3,Bd,Ch,Dd,A8,Arx];cases ltX d[j]! d[a]!<;>simp;simp only[h,AqA,ArX,AqB]
theorem AAL(hi:i≤d.size):(Oa S.z S.c) ((rep d),(a:Int),(i:Int),(j:Int),())=if i≤j∧(fun x => !ltX d[a]! x) d[i]! = true then some (.inl ((rep d),(a:Int),((i+1:Nat):Int),(j:Int),()))else some (.inr (.inl ((rep d),(a:Int),(i:Int),(j:Int),()))):=by
 rw[Oa];simp only[Ea];by_cases h:i≤j;have hi':i<d.size:=by omega
 simp (disch:=omega) only[h,Apy,A3,Bd,Ch,Dd,AO,Arx];cases ltX d[a]! d[i]!<;>simp;simp only[h,AqA,ArX,AqB]
theorem AAK(hi:1≤i):(OZ S.z S.c) ((rep d),(a:Int),(i:Int),(j:Int),())=if i≤j∧(fun x=>ltX d[a]! x) d[j]! = true then some (.inl ((rep d),(a:Int),(i:Int),((j-1:Nat):Int),()))else some (.inr (.inl ((rep d),(a:Int),(i:Int),(j:Int),()))):=by rw[OZ];simp only[Ea];by_cases h:i≤j;simp (disch:=omega) only[h,Apy,A3,Bd,Ch,Dd,A8,Arx];cases ltX d[a]! d[j]!<;>simp;simp only[h,AqA,ArX,AqB]
end
theorem Lu(p:(EL S)→Bool)(d:Array (EL S))(j i:Nat)(hj:j<d.size)(hi:i≤d.size):scanUp p d j i≤d.size:=by
 suffices h:∀ (k i:Nat),j+1-i=k→i≤d.size→scanUp p d j i≤d.size from h _ i rfl hi
 intro k;induction k using Nat.strongRecOn with
  |_ k ih=>
   intro i hk hi;rw[scanUp];split;rename_i h;have:i≤j:=by simp at h;exact h.1
   exact ih (j+1-(i+1)) (by omega) (i+1) rfl (by omega);exact hi
theorem AQp(a:Nat):∀ (k i j:Nat) (d:Array (EL S)) (n:Nat),j+1-i=k→a<d.size→1≤i→i≤d.size→j<d.size→d.size<4294967296→k<n →
  AU (Xl S.z S.c) n ((rep d),(a:Int),(i:Int),(j:Int),())=some (.inl ((rep (partLoop ltX a i j d).2),(a:Int),(((partLoop ltX a i j d).1:Nat):Int),()))∧(partLoop ltX a i j d).1≤j∧(partLoop ltX a i j d).2.size=d.size:=by
 intro k;induction k using Nat.strongRecOn with
  |_ k ih=>
   intro i j d n hk ha hi hi' hj hs hn;have hm:4294967296<many:=by simp only[many];omega
   obtain⟨n,rfl⟩:∃ k,n=k+1:=⟨n-1,by omega⟩
   rw[partLoop_eq,AU,Xl];have u1:=scanUp_ge (fun x=>ltX x d[a]!) d j i;have u2:=Lu (fun x=>ltX x d[a]!) d j i hj hi';rw[At,AE8 _ (fun x=>ltX x d[a]!) d a j hs hj (fun i h=>AKd d a i j hs ha hj h) _ i many rfl hi' (by omega)];generalize scanUp (fun x=>ltX x d[a]!) d j i=i2 at *;have v1:=scanDown_le (fun x => !ltX x d[a]!) d i2 j;simp only[At];rw[Rw _ (fun x => !ltX x d[a]!) d a i2 (by omega) (fun j h=>AKc d a i2 j hs ha h (by omega)) j many hj (by omega)];generalize scanDown (fun x => !ltX x d[a]!) d i2 j=j2 at *;simp only[AN];by_cases h:j2<i2;simp only[h,Apy,gt_iff_lt,AqP];exact⟨trivial,v1,trivial⟩;have hi2:i2<d.size:=by omega
   have hj2:j2<d.size:=by omega
   simp only[h,AqA,gt_iff_lt,AqB,A3 hi2,A3 hj2,(EH hi2 hj2).1,(EH hi2 hj2).2];simp (disch:=omega) only[AO,A8];obtain⟨q1,q2,q3⟩:=ih (j2-1+1-(i2+1)) (by omega) (i2+1) (j2-1) (swp d i2 j2) n rfl (by rw[size_swp];omega) (by omega) (by rw[size_swp];omega) (by rw[size_swp];omega) (by rw[size_swp];omega) (by omega);exact⟨q1,by omega,by rw[q3,size_swp]⟩
theorem AZb(d:Array (EL S))(a b p:Nat)(ha:a≤p)(hp:p<b)(hb:b≤d.size)(hs:d.size<4294967296):
  (TY S.z S.c) ((rep d),(a:Int),(b:Int),(p:Int),())=some ((rep (partition ltX d a b p).2.2),(((partition ltX d a b p).1:Nat):Int),(partition ltX d a b p).2.1,()):=by
 have hm:4294967296<many:=by simp only[many];omega
 have ha':a<d.size:=by omega
 have hp':p<d.size:=by omega
 rw[Afj,NP,partition];simp only[A3 ha',A3 hp',(EH ha' hp').1,(EH ha' hp').2];have hs':=hs;rw[← size_swp d a p]at ha' hs' hb;generalize swp d a p=d at *;simp (disch:=omega) only[AO,A8,At];have u1:=scanUp_ge (fun x=>ltX x d[a]!) d (b-1) (a+1);have u2:=Lu (fun x=>ltX x d[a]!) d (b-1) (a+1) (by omega) (by omega);rw[AE8 _ (fun x=>ltX x d[a]!) d a (b-1) hs' (by omega) (fun i h=>AKf d a i (b-1) hs' ha' (by omega) h) _ (a+1) many rfl (by omega) (by omega)];generalize scanUp (fun x=>ltX x d[a]!) d (b-1) (a+1)=i2 at *;have v1:=scanDown_le (fun x => !ltX x d[a]!) d i2 (b-1);simp only[];rw[Rw _ (fun x => !ltX x d[a]!) d a i2 (by omega) (fun j h=>AKe d a i2 j hs' ha' h (by omega)) (b-1) many (by omega) (by omega)];generalize scanDown (fun x => !ltX x d[a]!) d i2 (b-1)=j2 at *;simp only[AN];have hj2:j2<d.size:=by omega
 by_cases h:j2<i2;simp only[h,Apy,gt_iff_lt,AqP,A3 ha',A3 hj2,(EH hj2 ha').1,(EH hj2 ha').2];have hi2:i2<d.size:=by omega
 simp only[h,AqA,gt_iff_lt,AqB,A3 hi2,A3 hj2,(EH hi2 hj2).1,(EH hi2 hj2).2];simp (disch:=omega) only[AO,A8];obtain⟨q1,q2,q3⟩:=AQp a (j2-1+1-(i2+1)) (i2+1) (j2-1) (swp d i2 j2) many rfl (by rw[size_swp];omega) (by omega) (by rw[size_swp];omega) (by rw[size_swp];omega) (by rw[size_swp];omega) (by omega);simp only[q1];rw[size_swp]at q3;generalize partLoop ltX a (i2+1) (j2-1) (swp d i2 j2)=r at *;have h1:r.1<r.2.size:=by omega
 have h2:a<r.2.size:=by omega
 simp only[A3 h1,A3 h2,(EH h1 h2).1,(EH h1 h2).2]
theorem AFe(a:Nat):∀ (k i j:Nat) (d:Array (EL S)) (n:Nat),j+1-i=k→a<d.size→1≤i→i≤d.size→j<d.size→d.size<4294967296→k<n →
  AU (Oc S.z S.c) n ((rep d),(a:Int),(i:Int),(j:Int),())=some (.inl ((rep (partEqLoop ltX a i j d).2),(((partEqLoop ltX a i j d).1:Nat):Int),())):=by
 intro k;induction k using Nat.strongRecOn with
  |_ k ih=>
   intro i j d n hk ha hi hi' hj hs hn;have hm:4294967296<many:=by simp only[many];omega
   obtain⟨n,rfl⟩:∃ k,n=k+1:=⟨n-1,by omega⟩
   rw[partEqLoop_eq,AU,Oc];have u1:=scanUp_ge (fun x => !ltX d[a]! x) d j i;have u2:=Lu (fun x => !ltX d[a]! x) d j i hj hi';rw[At,AE8 _ (fun x => !ltX d[a]! x) d a j hs hj (fun i h=>AAL d a i j hs ha hj h) _ i many rfl hi' (by omega)];generalize scanUp (fun x => !ltX d[a]! x) d j i=i2 at *;have v1:=scanDown_le (fun x=>ltX d[a]! x) d i2 j;simp only[At];rw[Rw _ (fun x=>ltX d[a]! x) d a i2 (by omega) (fun j h=>AAK d a i2 j hs ha h (by omega)) j many hj (by omega)];generalize scanDown (fun x=>ltX d[a]! x) d i2 j=j2 at *;simp only[AN];by_cases h:j2<i2;simp only[h,Apy,gt_iff_lt,AqP];have hi2:i2<d.size:=by omega
   have hj2:j2<d.size:=by omega
   simp only[h,AqA,gt_iff_lt,AqB,A3 hi2,A3 hj2,(EH hi2 hj2).1,(EH hi2 hj2).2];simp (disch:=omega) only[AO,A8];exact ih (j2-1+1-(i2+1)) (by omega) (i2+1) (j2-1) (swp d i2 j2) n rfl (by rw[size_swp];omega) (by omega) (by rw[size_swp];omega) (by rw[size_swp];omega) (by rw[size_swp];omega) (by omega)
theorem AKg(d:Array (EL S))(a b p:Nat)(ha:a≤p)(hp:p<b)(hb:b≤d.size)(hs:d.size<4294967296):
  (NQ S.z S.c) ((rep d),(a:Int),(b:Int),(p:Int),())=some ((rep (partitionEqual ltX d a b p).2),(((partitionEqual ltX d a b p).1:Nat):Int),()):=by
 have hm:4294967296<many:=by simp only[many];omega
 have ha':a<d.size:=by omega
 have hp':p<d.size:=by omega
 rw[AQ5,Hp,partitionEqual];simp only[A3 ha',A3 hp',(EH ha' hp').1,(EH ha' hp').2];have hs':=hs;rw[← size_swp d a p]at ha' hs' hb;generalize swp d a p=d at *;simp (disch:=omega) only[AO,A8,At];rw[AFe a _ (a+1) (b-1) d many rfl ha' (by omega) (by omega) (by omega) hs' (by omega)]
end Go.Pev.Pl.SG
end
section
namespace Go.Pev.Pl.SG
open Go.Sort
variable {α:Type} {S:SP α}
theorem Po(d:Array (EL S))(b:Nat):∀ (k i:Nat),b-i=k→i≤b→i≤scanSorted ltX d b i∧scanSorted ltX d b i≤b:=by
 intro k;induction k using Nat.strongRecOn with
  |_ k ih=>
   intro i hk hi;rw[scanSorted];split;rename_i h;have:i<b:=by simp at h;exact h.1
   have:=ih (b-(i+1)) (by omega) (i+1) rfl (by omega);omega;omega
theorem AAH(d:Array (EL S))(a b s:Nat)(hb:b≤d.size)(hs:d.size<4294967296):∀ (k i n:Nat),b-i=k→1≤i→i≤b→k<n →
  AU (L6 S.z S.c) n ((rep d),(a:Int),(b:Int),(i:Int),(s:Int),())=some (.inl ((rep d),(a:Int),(b:Int),((scanSorted ltX d b i:Nat):Int),(s:Int),())):=by
 intro k;induction k using Nat.strongRecOn with
  |_ k ih=>
   intro i n hk h1 hi hn;obtain⟨n,rfl⟩:∃ k,n=k+1:=⟨n-1,by omega⟩
   rw[scanSorted,AU,L6];simp only[AN];by_cases h:i<b;have i0:i<d.size:=by omega
   have i1:i-1<d.size:=by omega
   simp (disch:=omega) only[h,Apy,A8,AO,A3,Bd,Ch,Dd,Ase];cases h2:ltX d[i]! d[i-1]!;simp only[Aqb,AqP];exact ih (b-(i+1)) (by omega) (i+1) n rfl (by omega) (by omega) (by omega);simp only[Apx,AqC,AqB];simp only[h,AqA,Ar9,AqC,AqB]
theorem AAJ(a b i s:Nat):∀ (j:Nat) (d:Array (EL S)) (n:Nat),j<d.size→d.size<4294967296→j<n →
  AU (I9 S.z S.c) n ((rep d),(a:Int),(b:Int),(i:Int),(s:Int),(j:Int),())=some (.inl ((rep (shiftDown ltX j d)),(a:Int),(b:Int),(i:Int),(s:Int),())):=by
 intro j;induction j with
  |zero=>
   intro d n hj hs hn;obtain⟨n,rfl⟩:∃ k,n=k+1:=⟨n-1,by omega⟩
   rw[AU,I9,Ao,Apo (by omega)];rfl
  |succ j ih=>
   intro d n hj hs hn;obtain⟨n,rfl⟩:∃ k,n=k+1:=⟨n-1,by omega⟩
   have hj':j<d.size:=by omega
   rw[shiftDown,AU,I9,Ao,Apr (by omega)];simp (disch:=omega) only[A8,Ar5,A3,Bd,Ch,Dd];cases h2:ltX d[j+1]! d[j]!;simp only[Aqb,AqP];have e1:=EH hj hj';simp only[Bd hj,Bd hj']at e1;simp only[Apx,AqC,AqB,e1];exact ih _ n (by rw[size_swp];omega) (by rw[size_swp];omega) (by omega)
theorem TW(a b i s:Nat):∀ (k j:Nat) (d:Array (EL S)) (n:Nat),b-j=k→1≤j→b≤d.size→d.size<4294967296→k<n →
  AU (I8 S.z S.c) n ((rep d),(a:Int),(b:Int),(i:Int),(s:Int),(j:Int),())=some (.inl ((rep (shiftUp ltX b j d)),(a:Int),(b:Int),(i:Int),(s:Int),())):=by
 intro k;induction k using Nat.strongRecOn with
  |_ k ih=>
   intro j d n hk h1 hb hs hn;obtain⟨n,rfl⟩:∃ k,n=k+1:=⟨n-1,by omega⟩
   rw[shiftUp,AU,I8];simp only[AN];by_cases h:j<b;have i0:j<d.size:=by omega
   have i1:j-1<d.size:=by omega
   simp (disch:=omega) only[h,Apy,AqP,A8,AO,A3,Bd,Ch,Dd];cases h2:ltX d[j]! d[j-1]!;simp only[Aqb,AqP];have e1:=EH i0 i1;simp only[Bd i0,Bd i1]at e1;simp only[Apx,AqC,AqB,e1];exact ih (b-(j+1)) (by omega) (j+1) _ n rfl (by omega) (by rw[size_swp];omega) (by rw[size_swp];omega) (by omega);simp only[h,AqA,AqB]
theorem W6:∀ (j:Nat) (d:Array (EL S)),(shiftDown ltX j d).size=d.size:=by
 intro j;induction j with
  |zero=>intro d;rfl
  |succ j ih=>intro d;rw[shiftDown];split;rfl;rw[ih,size_swp]
theorem HP(b:Nat):∀ (k j:Nat) (d:Array (EL S)),b-j=k→(shiftUp ltX b j d).size=d.size:=by
 intro k;induction k using Nat.strongRecOn with
  |_ k ih=>intro j d hk;rw[shiftUp];split;split;rfl;rw[ih (b-(j+1)) (by omega) (j+1) _ rfl,size_swp];rfl
theorem AAI(a b:Nat)(hab:a<b):∀ (k i s:Nat) (d:Array (EL S)) (n:Nat),s+k=5→a+1≤i→i≤b→b≤d.size→d.size<4294967296→k<n →
  AU (Dk S.z S.c) n ((rep d),(a:Int),(b:Int),(i:Int),(s:Int),())=some (.inl ((rep (partialIns ltX a b k i d).1),(partialIns ltX a b k i d).2,())) ∨
  ((partialIns ltX a b k i d).2=false∧AU (Dk S.z S.c) n ((rep d),(a:Int),(b:Int),(i:Int),(s:Int),())=some (.inr (.inl ((rep (partialIns ltX a b k i d).1),())))):=by
 intro k;induction k with
  |zero=>
   intro i s d n hk h1 hi hb hs hn;obtain⟨n,rfl⟩:∃ k,n=k+1:=⟨n-1,by omega⟩
   rw[AU,Dk,Ab,Apo (by omega)];exact .inr ⟨rfl,rfl⟩
  |succ k ih=>
   intro i s d n hk h1 hi hb hs hn;have hm:4294967296<many:=by simp only[many];omega
   have es:IntKind.wrap .i64 ((s:Int)+1)=((s+1:Nat):Int):=AO (by omega);obtain⟨n,rfl⟩:∃ k,n=k+1:=⟨n-1,by omega⟩
   rw[AU,Dk,Ab,Apr (by omega),partialIns];simp only[At,AAH d a b s hb hs (b-i) i many rfl (by omega) hi (by omega)];have hsc:=Po d b _ i rfl hi;generalize scanSorted ltX d b i=i2 at *;simp only[AVn];by_cases h2:i2=b;simp only[h2,Apy,AqP,true_or];simp (disch:=omega) only[h2,AqA,AqB,Df,Ab,Ao];by_cases h3:b-a<50;rw[Ap5 h3,Apr (by omega)];exact .inl rfl;have i0:i2<d.size:=by omega
   have i1:i2-1<d.size:=by omega
   rw[Ap4 h3,Apo (by omega)];simp (disch:=omega) only[A8,AO,A3 i0,A3 i1,(EH i0 i1).1,(EH i0 i1).2];have hsz:=size_swp d i2 (i2-1);generalize swp d i2 (i2-1)=d2 at *;by_cases h4:i2-a≥2;rw[Ap5 h4,Apr (show(2:Int)≤((i2-a:Nat):Int) by omega)];simp only[AAJ a b i2 s (i2-1) d2 many (by omega) (by omega) (by omega)];have hsz2:=W6 (i2-1) d2;generalize shiftDown ltX (i2-1) d2=d3 at *;simp (disch:=omega) only[Df,AO];by_cases h5:b-i2≥2;rw[Ap5 h5,Apr (show(2:Int)≤((b-i2:Nat):Int) by omega)];simp only[TW a b i2 s _ (i2+1) d3 many rfl (by omega) (by omega) (by omega) (by omega)];simp only[es];exact ih i2 (s+1) (shiftUp ltX b (i2+1) d3) n (by omega) (by omega) (by omega) (by rw[HP b (b-(i2+1)) (i2+1) _ rfl];omega) (by rw[HP b (b-(i2+1)) (i2+1) _ rfl];omega) (by omega);rw[Ap4 h5,Apo (show ¬ (2:Int)≤((b-i2:Nat):Int) by omega)];simp only[es];exact ih i2 (s+1) d3 n (by omega) (by omega) (by omega) (by omega) (by omega) (by omega);rw[Ap4 h4,Apo (show ¬ (2:Int)≤((i2-a:Nat):Int) by omega)];by_cases h5:b-i2≥2;rw[Ap5 h5,Apr (show(2:Int)≤((b-i2:Nat):Int) by omega)];simp only[TW a b i2 s _ (i2+1) d2 many rfl (by omega) (by omega) (by omega) (by omega)];simp only[es];exact ih i2 (s+1) (shiftUp ltX b (i2+1) d2) n (by omega) (by omega) (by omega) (by rw[HP b (b-(i2+1)) (i2+1) _ rfl];omega) (by rw[HP b (b-(i2+1)) (i2+1) _ rfl];omega) (by omega);rw[Ap4 h5,Apo (show ¬ (2:Int)≤((b-i2:Nat):Int) by omega)];simp only[es];exact ih i2 (s+1) d2 n (by omega) (by omega) (by omega) (by omega) (by omega) (by omega)
theorem AFc(d:Array (EL S))(a b:Nat)(hab:a<b)(hb:b≤d.size)(hs:d.size<4294967296):
  (Jt S.z S.c) ((rep d),(a:Int),(b:Int),())=some ((rep (partialInsertionSort ltX d a b).1),(partialInsertionSort ltX d a b).2,()):=by
 have hm:4294967296<many:=by simp only[many];omega
 rw[AKT,Fx,partialInsertionSort];simp (disch:=omega) only[AO,At];have h:=AAI a b hab 5 (a+1) 0 d many rfl (Ap1 _) (by omega) hb hs (by omega);rcases h with h|⟨h0,h⟩
 have h':AU (Dk S.z S.c) many ((rep d),(a:Int),(b:Int),((a+1:Nat):Int),(0:Int),())=_:=h;rw[h'];have h':AU (Dk S.z S.c) many ((rep d),(a:Int),(b:Int),((a+1:Nat):Int),(0:Int),())=_:=h;rw[h',h0]
theorem L9(d:Array (EL S))(a b:Nat)(s:Int)(ha:a<d.size)(hb:b<d.size):
  ∃ s' p q,(JA S.z S.c) ((rep d),(a:Int),(b:Int),s,())=some ((rep d),s',((p:Nat):Int),((q:Nat):Int),())∧(p=a∧q=b∨p=b∧q=a):=by rw[ARD,Hq];simp only[A3 ha,A3 hb,Bd ha,Bd hb,Ch,Dd];cases ltX d[b]! d[a]!;exact⟨_,a,b,rfl,.inl ⟨rfl,rfl⟩⟩;exact⟨_,b,a,rfl,.inr ⟨rfl,rfl⟩⟩
theorem MA(d:Array (EL S))(a b c:Nat)(s:Int)(ha:a<d.size)(hb:b<d.size)(hc:c<d.size):
  ∃ s' p,(JC S.z S.c) ((rep d),(a:Int),(b:Int),(c:Int),s,())=some ((rep d),s',((p:Nat):Int),())∧(p=a∨p=b∨p=c):=by rw[ARR,Hr];obtain⟨s1,p1,q1,e1,h1⟩:=L9 d a b s ha hb;simp only[e1];obtain⟨s2,p2,q2,e2,h2⟩:=L9 d q1 c s1 (by omega) hc;simp only[e2];obtain⟨s3,p3,q3,e3,h3⟩:=L9 d p1 p2 s2 (by omega) (by omega);simp only[e3];exact⟨_,q3,rfl,by omega⟩
theorem MC(d:Array (EL S))(a:Nat)(s:Int)(h1:1≤a)(ha:a+1<d.size)(hs:d.size<4294967296):
  ∃ s' p,(JD S.z S.c) ((rep d),(a:Int),s,())=some ((rep d),s',((p:Nat):Int),())∧a≤p+1∧p≤a+1:=by rw[ARW,Hs];simp (disch:=omega) only[A8,AO];obtain⟨s1,p1,e1,h1⟩:=MA d (a-1) a (a+1) s (by omega) (by omega) ha;simp only[e1];exact⟨_,p1,rfl,by omega⟩
theorem AQT(d:Array (EL S))(a b:Nat)(hab:a+8≤b)(hb:b≤d.size)(hs:d.size<4294967296):
  ∃ p h,(R8 S.z S.c) ((rep d),(a:Int),(b:Int),())=some ((rep d),((p:Nat):Int),h,())∧a≤p∧p<b:=by rw[AZN,Js];simp (disch:=omega) only[Df,AUn,AXc,M4,AXb,wrap_add,Ao];rw[Apr (show(8:Int)≤((b-a:Nat):Int) by omega)];simp only[];by_cases h:50≤b-a;rw[Apr (show(50:Int)≤((b-a:Nat):Int) by omega)];simp only[];obtain⟨s1,p1,e1,h1⟩:=MC d (a+(b-a)/4*1) 0 (by omega) (by omega) hs;simp only[e1];obtain⟨s2,p2,e2,h2⟩:=MC d (a+(b-a)/4*2) s1 (by omega) (by omega) hs;simp only[e2];obtain⟨s3,p3,e3,h3⟩:=MC d (a+(b-a)/4*3) s2 (by omega) (by omega) hs;simp only[e3];obtain⟨s4,p4,e4,h4⟩:=MA d p1 p2 p3 s3 (by omega) (by omega) (by omega);simp only[e4];cases ieq s4 0;cases ieq s4 12;exact⟨p4,_,rfl,by omega,by omega⟩;exact⟨p4,_,rfl,by omega,by omega⟩;exact⟨p4,_,rfl,by omega,by omega⟩;rw[Apo (show ¬ (50:Int)≤((b-a:Nat):Int) by omega)];simp only[];obtain⟨s4,p4,e4,h4⟩:=MA d (a+(b-a)/4*1) (a+(b-a)/4*2) (a+(b-a)/4*3) 0 (by omega) (by omega) (by omega);simp only[e4];cases ieq s4 0;cases ieq s4 12;exact⟨p4,_,rfl,by omega,by omega⟩;exact⟨p4,_,rfl,by omega,by omega⟩;exact⟨p4,_,rfl,by omega,by omega⟩
end Go.Pev.Pl.SG
end
section
namespace Go.Pev.Pl
open Go.Sort
theorem AaR:(List.range 256).all (fun k=>match G9[k]? with
  |some v=>decide (0≤v)&&(decide (v≤8)&&decide (2 ^ v.toNat≤max 1 (2*k)))
  |none=>false)=true:=by decide +kernel
theorem AaS{k:Nat}(h:k<256):∃ v:Nat,idx G9 (k:Int)=some (v:Int)∧v≤8∧2 ^ v≤max 1 (2*k):=by
 have:=AqE.1 AaR k (Aqi.2 h);rw[idx_eq,YI,Ap4 (by omega),AqW];cases e:G9[k]? with
  |none=>rw[e]at this;cases this
  |some v=>rw[e]at this;simp only[Apt,Aps]at this;exact⟨v.toNat,by rw[Int.toNat_of_nonneg this.1],by omega,this.2.2⟩
theorem AEy(n s:Nat)(h:s≤64):shr? .u64 (n:Int) (s:Int)=some ((n/2 ^ s:Nat):Int):=by rw[Rr,AIz,Ap4 (by omega),AqW,show min s (IntKind.bits .u64)=s from Aqw h,Ari _ (Int.pow_nonneg (by omega))];rfl
theorem u8_in{n:Int}(h:0≤n∧n≤255):IntKind.wrap .u8 n=n:=IntWalk.u8_in n h
theorem u64_in{n:Int}(h:0≤n∧n≤18446744073709551615):IntKind.wrap .u64 n=n:=IntWalk.u64_in n h
theorem AaT(n:Nat)(hn:n<4294967296):∃ v:Nat,AVh ((n:Int),())=some ((v:Int),())∧v≤32∧2 ^ v≤max 1 (2*n):=by
 rw[AKv,AFm,Ao,Apo (by omega)];simp only[Ao];have key:∀ (s m:Nat),s≤24→m<256→m*2 ^ s≤n→(s=0∨1≤m)→∃ v:Nat,idx G9 (m:Int)=some (v:Int)∧v≤8∧2 ^ (s+v)≤max 1 (2*n):=by
  intro s m hs hm hle h1;obtain⟨v,e,h8,hp⟩:=AaS hm;refine⟨v,e,h8,?_⟩;rcases h1 with rfl|h1;rw[Aqg];simp at hle;omega;have h2:2 ^ v≤2*m:=by omega
  have h3:2 ^ (s+v)≤2*(m*2 ^ s):=by rw[Nat.pow_add,Nat.mul_comm (2 ^ s),← Nat.mul_assoc];exact Aqj _ h2
  omega
 by_cases h1:65536≤n;rw[Apr (show(65536:Int)≤(n:Int) by omega)];have e16:shr? .u64 (n:Int) 16=some ((n/65536:Nat):Int):=AEy n 16 (by omega);simp only[e16];by_cases h2:256≤n/65536;rw[Apr (show(256:Int)≤((n/65536:Nat):Int) by omega)];have e8:shr? .u64 ((n/65536:Nat):Int) 8=some ((n/65536/256:Nat):Int):=AEy _ 8 (by omega);obtain⟨v,e,h8,hp⟩:=key 24 (n/65536/256) (by omega) (by omega) (by omega) (by omega);simp only[e8];rw[u8_in (by omega)];simp only[e];refine⟨24+v,?_,by omega,hp⟩;rw[Ad (n:=0+16) (by omega),Ad (n:=(0:Int)+16+8) (by omega),Ad (n:=(v:Int)) (by omega),Ad (by omega)];congr 2;rw[Apo (show ¬ (256:Int)≤((n/65536:Nat):Int) by omega)];obtain⟨v,e,h8,hp⟩:=key 16 (n/65536) (by omega) (by omega) (by omega) (by omega);simp only[];rw[u8_in (by omega)];simp only[e];refine⟨16+v,?_,by omega,hp⟩;rw[Ad (n:=0+16) (by omega),Ad (n:=(v:Int)) (by omega),Ad (by omega)];congr 2;rw[Apo (show ¬ (65536:Int)≤(n:Int) by omega)];by_cases h2:256≤n;have e8:shr? .u64 (n:Int) 8=some ((n/256:Nat):Int):=AEy n 8 (by omega);obtain⟨v,e,h8,hp⟩:=key 8 (n/256) (by omega) (by omega) (by omega) (by omega);simp only[];rw[Apr (show(256:Int)≤(n:Int) by omega)];simp only[e8];rw[u8_in (by omega)];simp only[e];refine⟨8+v,?_,by omega,hp⟩;rw[Ad (n:=0+8) (by omega),Ad (n:=(v:Int)) (by omega),Ad (by omega)];congr 2;obtain⟨v,e,h8,hp⟩:=key 0 n (by omega) (by omega) (by omega) (by omega);simp only[];rw[Apo (show ¬ (256:Int)≤(n:Int) by omega)];simp only[];rw[u8_in (by omega)];simp only[e];refine⟨0+v,?_,by omega,hp⟩;rw[Ad (n:=(v:Int)) (by omega),Ad (by omega)];congr 2
theorem Tv(n:Nat)(hn:n<4294967296):∃ v:Nat,bitsLen ((n:Int),())=some ((v:Int),())∧v≤32∧2 ^ v≤max 1 (2*n):=by rw[Y2,Sw];obtain⟨v,e,h⟩:=AaT n hn;simp only[e];exact⟨v,rfl,h⟩
theorem AKk(n:Nat)(h1:1≤n)(hn:n<4294967296):∃ m:Nat,QB ((n:Int),())=some ((m:Int),())∧1≤m∧m≤2*n:=by
 rw[Xv,SF,u64_in (by omega)];obtain⟨v,e,h32,hp⟩:=Tv n hn;simp only[e];have e2:shl? .u64 (1:Int) (v:Int)=some ((2 ^ v:Nat):Int):=by
  rw[AEz,AYR,Ap4 (by omega),AqW,show min v (IntKind.bits .u64)=v from Aqw (by show v≤64;omega),Int.one_mul];have:2 ^ v≤2 ^ 32:=Nat.pow_le_pow_right (by omega) h32;have h1:1≤2 ^ v:=Nat.one_le_two_pow;have e:((2:Int) ^ v)=((2 ^ v:Nat):Int):=by simp
  rw[e,u64_in (by constructor<;>omega)]
 simp only[e2];exact⟨2 ^ v,rfl,Nat.one_le_two_pow,by omega⟩
theorem AIL(r:Int):∃ r' y,xorNext (r,())=some (r',y,()):=by rw[WY,Rf,AEz,AYR,Ap4 (by omega)];simp only[];rw[Rr,AIz,Ap4 (by omega)];simp only[];rw[AEz,AYR,Ap4 (by omega)];exact⟨_,_,rfl⟩
theorem Afs(y:Int)(m:Nat)(h1:1≤m)(hm:m<18446744073709551616):∃ o:Nat,IntKind.wrap .u64 ((BitVec.ofInt (IntKind.bits .u64) y &&& BitVec.ofInt (IntKind.bits .u64) (IntKind.wrap .u64 ((m:Int)-1))).toNat)=(o:Int)∧o<m:=by
 rw[u64_in (n:=(m:Int)-1) (by omega),show(m:Int)-1=((m-1:Nat):Int) by omega,BitVec.toNat_and];have h2:(BitVec.ofInt (IntKind.bits .u64) ((m-1:Nat):Int)).toNat=m-1:=by rw[BitVec.ofInt_natCast,BitVec.toNat_ofNat];exact Aqm (by show m-1<18446744073709551616;omega)
 rw[h2];have h3:(BitVec.ofInt (IntKind.bits .u64) y).toNat &&& (m-1)≤m-1:=Nat.and_le_right;exact⟨_,u64_in (by omega),by omega⟩
end Go.Pev.Pl
end
section
namespace Go.Pev.Pl.SG
open Go.Sort
variable {α:Type} {S:SP α}
theorem AMU(a b:Nat)(m:Nat)(h8:a+8≤b)(hm1:1≤m)(hm:m≤2*(b-a)):∀ (k t:Nat) (d:Array (EL S)) (r:Int) (n:Nat),t+k=3→b≤d.size→d.size<4294967296→k<n →
  ∃ d':Array (EL S),AU (KH S.z S.c) n ((rep d),(a:Int),((b-a:Nat):Int),r,(m:Int),((a+(b-a)/4*2-1+t:Nat):Int),())=some (.inl ((rep d'),()))∧PermIn a b d d':=by
 intro k;induction k with
  |zero=>
   intro t d r n hk hb hs hn;obtain⟨n,rfl⟩:∃ k,n=k+1:=⟨n-1,by omega⟩
   rw[AU,KH];simp (disch:=omega) only[AUn,M4,wrap_add,AO,Ea];rw[Apo (by omega)];exact⟨d,rfl,permIn_refl d a b⟩
  |succ k ih=>
   intro t d r n hk hb hs hn;obtain⟨n,rfl⟩:∃ k,n=k+1:=⟨n-1,by omega⟩
   rw[AU,KH];simp (disch:=omega) only[AUn,M4,wrap_add,AO,Ea];rw[Apr (show a+(b-a)/4*2-1+t≤a+(b-a)/4*2+1 by omega)];obtain⟨r',y,e⟩:=AIL r;obtain⟨o,e2,ho⟩:=Afs y m hm1 (by omega);simp only[e,e2];rw[Ad (n:=(o:Int)) (by omega)];simp only[Ea];have i0:a+(b-a)/4*2-1+t<d.size:=by omega
   have fin:∀ q:Nat,a≤q→q<b→∃ d':Array (EL S),AU (KH S.z S.c) n ((rep (swp d (a+(b-a)/4*2-1+t) q)),(a:Int),((b-a:Nat):Int),r',(m:Int),((a+(b-a)/4*2-1+t+1:Nat):Int),())=some (.inl ((rep d'),()))∧PermIn a b d d':=by intro q hq1 hq2;obtain⟨d',e',hp⟩:=ih (t+1) (swp d (a+(b-a)/4*2-1+t) q) r' n (by omega) (by rw[size_swp];omega) (by rw[size_swp];omega) (by omega);exact⟨d',e',permIn_trans _ _ _ a b (swp_permIn d a b _ q (by omega) (by omega) hq1 hq2 hb) hp⟩
   by_cases h:b-a≤o;have i1:a+(o-(b-a))<d.size:=by omega
   simp (disch:=omega) only[h,Apy,Df,wrap_add,AO,A3 i0,A3 i1,(EH i0 i1).1,(EH i0 i1).2];exact fin _ (by omega) (by omega);have i1:a+o<d.size:=by omega
   simp (disch:=omega) only[h,AqA,Df,wrap_add,AO,A3 i0,A3 i1,(EH i0 i1).1,(EH i0 i1).2];exact fin _ (by omega) (by omega)
theorem ATE(d:Array (EL S))(a b:Nat)(hab:a≤b)(hb:b≤d.size)(hs:d.size<4294967296):
  ∃ d':Array (EL S),(Sv S.z S.c) ((rep d),(a:Int),(b:Int),())=some ((rep d'),())∧PermIn a b d d':=by
 have hm:4294967296<many:=by simp only[many];omega
 rw[AcD,KI];simp (disch:=omega) only[Df,Ao];by_cases h:8≤b-a;rw[Apr (show(8:Int)≤((b-a:Nat):Int) by omega)];obtain⟨m,e,h1,h2⟩:=AKk (b-a) (by omega) (by omega);simp only[e];rw[u64_in (n:=((b-a:Nat):Int)) (by omega)];simp (disch:=omega) only[AUn,M4,wrap_add,A8,At];obtain⟨d',e2,hp⟩:=AMU a b m (by omega) h1 h2 3 0 d ((b-a:Nat):Int) many rfl hb hs (by omega);rw[Arb]at e2;simp only[e2];exact⟨d',rfl,hp⟩;rw[Apo (show ¬ (8:Int)≤((b-a:Nat):Int) by omega)];exact⟨d,rfl,permIn_refl d a b⟩
end Go.Pev.Pl.SG
end
section
namespace Go.Pev.Pl.SG
open Go.Sort
variable {α:Type} {S:SP α}
abbrev ApY(α:Type):=List α×Int×Int×Int×Bool×Bool×Unit
abbrev AWX(α:Type):=ApY α⊕(List α×Unit)⊕Unit
def ZA(d:Array (EL S))(a b:Nat):AWX α→Prop
 |.inl (xs,x,y,l,_,_,_)=>∃ (e:Array (EL S)) (i j:Nat),xs=(rep e)∧x=(i:Int)∧y=(j:Int)∧0≤l∧l≤100∧i≤j∧j≤e.size∧e.size=d.size∧j-i<b-a∧Below ltX i j e ∧
   ∀ R,PermIn i j e R→SortedIn ltX i j R→PermIn a b d R∧SortedIn ltX a b R
 |.inr (.inl (xs,_))=>∃ R:Array (EL S),xs=(rep R)∧PermIn a b d R∧SortedIn ltX a b R
 |.inr (.inr _)=>False
def Fa(self:(List α×Int×Int×Int×Unit)→Option ((List α×Unit)))(m:Nat):Prop:=
 ∀ (d:Array (EL S)) (a b:Nat) (l:Int),a≤b→b≤d.size→d.size<4294967296→0≤l→l≤100→Below ltX a b d→2*(b-a)<m →
  ∃ R:Array (EL S),self ((rep d),(a:Int),(b:Int),l,())=some ((rep R),())∧PermIn a b d R∧SortedIn ltX a b R
section
variable {self:(List α×Int×Int×Int×Unit)→Option ((List α×Unit))} {d:Array (EL S)} {a b:Nat} {l:Int}
theorem AJ1(hself:Fa (S:=S) self (b-a))(hb:b≤d.size)(hs:d.size<4294967296)(hl:0≤l∧l≤100)
  {d3:Array (EL S)} {p:Nat} (P3:PermIn a b d d3) (B3:Below ltX a b d3) (hp1:a≤p) (hp2:p<b) :
  ∃ o,(match(TY S.z S.c) ((rep d3),(a:Int),(b:Int),(p:Int),())with
  |none=>none
  |some (y20,y21,y22,_)=>match quo? .i64 (IntKind.wrap .i64 ((b:Int)-(a:Int))) (8:Int)with
   |none=>none
   |some x23=>match(ilt (IntKind.wrap .i64 (y21-(a:Int))) (IntKind.wrap .i64 ((b:Int)-y21)))with
    |true=>match self (y20,(a:Int),y21,l,())with
     |none=>none
     |some (y24,_)=>some ((.inl (y24,(IntKind.wrap .i64 (y21+(1:Int))),(b:Int),l,(ile x23 (IntKind.wrap .i64 (y21-(a:Int)))),y22,())):AWX α)
    |false=>match self (y20,(IntKind.wrap .i64 (y21+(1:Int))),(b:Int),l,())with
     |none=>none
     |some (y25,_)=>some (.inl (y25,(a:Int),y21,l,(ile x23 (IntKind.wrap .i64 ((b:Int)-y21))),y22,())))=some o∧ZA d a b o:=by
 have b3:b≤d3.size:=by rw[P3.1];exact hb
 have s3:d3.size<4294967296:=by rw[P3.1];exact hs
 rw[AZb d3 a b p hp1 hp2 b3 s3];rcases hx:partition ltX d3 a b p with⟨mid,ap,d4⟩
 obtain⟨g1,g2,hs4,hBa,hBr,hleft,hright⟩:=round_part AdX (partition_holds _) hp1 hp2 b3 B3 hx;simp (disch:=omega) only[Df,AO,Ao2,AN];have b4:b≤d4.size:=by omega
 by_cases h:mid-a<b-mid;obtain⟨L,e,l1,l2⟩:=hself d4 a mid l g1 (by omega) (by omega) hl.1 hl.2 hBa (by omega);simp only[h,Apy,e];obtain⟨hBL,hfin⟩:=hleft _ l1 l2;refine⟨_,rfl,L,mid+1,b,rfl,rfl,rfl,hl.1,hl.2,by omega,by rw[l1.1];exact b4,by rw[l1.1,hs4,P3.1],by omega,hBL,fun R r1 r2 => ?_⟩;obtain⟨q1,q2⟩:=hfin R r1 r2;exact⟨permIn_trans _ _ _ a b P3 q1,q2⟩;obtain⟨L,e,l1,l2⟩:=hself d4 (mid+1) b l (by omega) (by omega) (by omega) hl.1 hl.2 hBr (by omega);simp only[h,AqA,e];obtain⟨hBL,hfin⟩:=hright _ l1 l2;refine⟨_,rfl,L,a,mid,rfl,rfl,rfl,hl.1,hl.2,by omega,by rw[l1.1];omega,by rw[l1.1,hs4,P3.1],by omega,hBL,fun R r1 r2 => ?_⟩;obtain⟨q1,q2⟩:=hfin R r1 r2;exact⟨permIn_trans _ _ _ a b P3 q1,q2⟩
theorem P2(hself:Fa (S:=S) self (b-a))(hb:b≤d.size)(hs:d.size<4294967296)(hl:0≤l∧l≤100)
  {d3:Array (EL S)} {p:Nat} (wb wp:Bool) (P3:PermIn a b d d3) (B3:Below ltX a b d3) (hp1:a≤p) (hp2:p<b) :
  ∃ o,(SB S.z S.c) self (rep d3) (a:Int) (b:Int) (p:Int) l wb wp=some o∧ZA d a b o:=by
 have b3:b≤d3.size:=by rw[P3.1];exact hb
 have s3:d3.size<4294967296:=by rw[P3.1];exact hs
 rw[SB,Ab];by_cases h0:0<a;rw[Apr (by omega)];have i0:a-1<d3.size:=by omega
 have i1:p<d3.size:=by omega
 simp (disch:=omega) only[A8,A3,Bd,Ch,Dd];cases hc:ltX d3[a-1]! d3[p]!;simp only[Aqb];rw[AKg d3 a b p hp1 hp2 b3 s3];rcases hx:partitionEqual ltX d3 a b p with⟨mid,d4⟩
 obtain⟨hm1,hm2,hs4,hB4,hfin⟩:=round_eq AdX (partitionEqual_holds _) h0 hp1 hp2 b3 B3 hc hx;refine⟨_,rfl,d4,mid,b,rfl,rfl,rfl,hl.1,hl.2,by omega,by omega,by rw[hs4,P3.1],by omega,hB4,fun R r1 r2 => ?_⟩;obtain⟨q1,q2⟩:=hfin R r1 r2;exact⟨permIn_trans _ _ _ a b P3 q1,q2⟩;simp only[Apx];exact AJ1 hself hb hs hl P3 B3 hp1 hp2;rw[Apo (by omega)];exact AJ1 hself hb hs hl P3 B3 hp1 hp2
theorem AUz(hself:Fa (S:=S) self (b-a))(hab:a<b)(hb:b≤d.size)(hs:d.size<4294967296)(hl:0≤l∧l≤100)
  {d3:Array (EL S)} {p:Nat} (h:Int) (wb wp:Bool) (P3:PermIn a b d d3) (B3:Below ltX a b d3) (hp1:a≤p) (hp2:p<b) :
  ∃ o,(AFa S.z S.c) self (rep d3) (a:Int) (b:Int) (p:Int) h l wb wp=some o∧ZA d a b o:=by
 have b3:b≤d3.size:=by rw[P3.1];exact hb
 have s3:d3.size<4294967296:=by rw[P3.1];exact hs
 unfold AFa;cases wb;exact P2 hself hb hs hl _ _ P3 B3 hp1 hp2;cases wp;exact P2 hself hb hs hl _ _ P3 B3 hp1 hp2;simp only[];cases ieq h 1;exact P2 hself hb hs hl _ _ P3 B3 hp1 hp2;simp only[];rw[AFc d3 a b hab b3 s3];obtain⟨q1,q2⟩:=partialInsertionSort_holds (lt:=ltX) AdX d3 a b hab b3 B3;rcases hx:partialInsertionSort ltX d3 a b with⟨d4,fin⟩
 rw[hx]at q1 q2;have P4:PermIn a b d d4:=permIn_trans _ _ _ a b P3 q1;cases fin;exact P2 hself hb hs hl _ _ P4 (B3.perm b3 q1) hp1 hp2;exact⟨_,rfl,d4,rfl,P4,q2 rfl⟩
theorem AUy(hself:Fa (S:=S) self (b-a))(hab:a+8≤b)(hb:b≤d.size)(hs:d.size<4294967296)(hl:0≤l∧l≤100)
  {d3:Array (EL S)} (wb wp:Bool) (P3:PermIn a b d d3) (B3:Below ltX a b d3) :
  ∃ o,(AFZ S.z S.c) self (rep d3) (a:Int) (b:Int) l wb wp=some o∧ZA d a b o:=by
 have b3:b≤d3.size:=by rw[P3.1];exact hb
 have s3:d3.size<4294967296:=by rw[P3.1];exact hs
 rw[AFZ];obtain⟨p,h,e,hp1,hp2⟩:=AQT d3 a b hab b3 s3;simp only[e];cases ieq h 2;exact AUz hself (by omega) hb hs hl h _ _ P3 B3 hp1 hp2;simp only[AeY d3 a b (by omega) b3 s3];have q1:=reverseRange_holds (α:=(EL S)) d3 a b (by omega) b3;simp (disch:=omega) only[A8,Df];exact AUz hself (by omega) hb hs hl 1 _ _ (permIn_trans _ _ _ a b P3 q1) (B3.perm b3 q1) (by omega) (by omega)
theorem AZU(hself:Fa (S:=S) self (b-a))(hab:a≤b)(hb:b≤d.size)(hs:d.size<4294967296)(hl:0≤l∧l≤100)(wb wp:Bool)(B:Below ltX a b d):
  ∃ o,(Kp S.z S.c) self ((rep d),(a:Int),(b:Int),l,wb,wp,())=some o∧ZA d a b o:=by rw[Kp];simp (disch:=omega) only[Df,Ao,Db];by_cases h12:b-a≤12;rw[Apr (show((b-a:Nat):Int)≤12 by omega)];simp only[AgW d a b hab hb hs];obtain⟨q1,q2⟩:=insertionSort_holds (lt:=ltX) AdX d a b hab hb;exact⟨_,rfl,_,rfl,q1,q2⟩;rw[Apo (show ¬ ((b-a:Nat):Int)≤12 by omega)];simp only[];by_cases h0:l=0;subst h0;simp only[BEq.rfl,Aam d a b (by omega) hb hs];obtain⟨q1,q2⟩:=heapSort_holds (lt:=ltX) AdX d a b hab hb;exact⟨_,rfl,_,rfl,q1,q2⟩;rw[show(l==0)=false by simpa using h0];simp only[];cases wb;obtain⟨d',e,q1⟩:=ATE d a b hab hb hs;simp only[Aqb,e];rw[Ad (by omega)];exact AUy hself (by omega) hb hs (by omega) _ _ q1 (B.perm hb q1);simp only[Apx];exact AUy hself (by omega) hb hs hl _ _ (permIn_refl d a b) B
end
theorem AJ2{self:(List α×Int×Int×Int×Unit)→Option ((List α×Unit))}{m:Nat}(hself:Fa (S:=S) self m):∀ (k:Nat) (d:Array (EL S)) (a b:Nat) (l:Int) (wb wp:Bool) (n:Nat),b-a=k→k≤m→a≤b→b≤d.size→d.size<4294967296→0≤l→l≤100→Below ltX a b d→k<n →
  ∃ R:Array (EL S),AU ((Kp S.z S.c) self) n ((rep d),(a:Int),(b:Int),l,wb,wp,())=some (.inl ((rep R),()))∧PermIn a b d R∧SortedIn ltX a b R:=by
 intro k;induction k using Nat.strongRecOn with
  |_ k ih=>
   intro d a b l wb wp n hk hm hab hb hs hl1 hl2 B hn;obtain⟨n,rfl⟩:∃ k,n=k+1:=⟨n-1,by omega⟩
   have hself':Fa (S:=S) self (b-a):=fun d a' b' l h1 h2 h3 h4 h5 h6 h7=>hself d a' b' l h1 h2 h3 h4 h5 h6 (by omega);obtain⟨o,e,ho⟩:=AZU hself' hab hb hs ⟨hl1,hl2⟩ wb wp B;rw[AU,e];match o,ho with
  |.inl (xs,x,y,l',wb',wp',_),ho=>obtain⟨e',i,j,rfl,rfl,rfl,g1,g2,g3,g4,g5,g6,g7,hfin⟩:=ho;obtain⟨R,e2,r1,r2⟩:=ih (j-i) (by omega) e' i j l' wb' wp' n rfl (by omega) g3 g4 (by omega) g1 g2 g7 (by omega);exact⟨R,e2,hfin R r1 r2⟩
  |.inr (.inl (xs,_)),ho=>obtain⟨R,rfl,r1,r2⟩:=ho;exact⟨R,rfl,r1,r2⟩
theorem AZV:∀ k:Nat,Fa (S:=S) ((Jb S.z S.c) (k+1)) (2 ^ k):=by
 intro k;have hmany:4294967296<many:=by simp only[many];omega
 induction k with
  |zero=>
   intro d a b l h1 h2 h3 h4 h5 h6 h7;have:Fa (S:=S) ((Jb S.z S.c) 0) 0:=fun _ _ _ _ _ _ _ _ _ _ h=>by omega
   obtain⟨R,e,r1,r2⟩:=AJ2 this (b-a) d a b l true true many rfl (by omega) h1 h2 h3 h4 h5 h6 (by omega);refine⟨R,?_,r1,r2⟩;rw[Jb,SC];simp only[At,e]
  |succ k ih=>
   intro d a b l h1 h2 h3 h4 h5 h6 h7;have hp:2 ^ (k+1)=2*2 ^ k:=by rw[Nat.pow_succ];omega
   obtain⟨R,e,r1,r2⟩:=AJ2 ih (b-a) d a b l true true many rfl (by omega) h1 h2 h3 h4 h5 h6 (by omega);refine⟨R,?_,r1,r2⟩;rw[Jb,SC];simp only[At,e]
theorem W4{α:Type}(S:SP α)(xs:List α)(h:xs.length<4294967296)(hok:∀ x∈xs,S.ok x):∃ ys,(AIv S.z S.c) (xs,())=some (ys,())∧ys.Perm xs∧ys.Pairwise fun x y=>S.lt y x=false:=by
 obtain⟨d,rfl⟩:∃ d:Array (EL S),xs=rep d:=by refine⟨(xs.attach.map fun x=>⟨x.val,hok x.val x.property⟩).toArray,?_⟩;simp only[rep,List.map_map];exact(List.attach_map_subtype_val xs).symm
 have hl:(rep d).length=d.size:=by simp[rep]
 rw[hl]at h;rw[Adl,NH];rw[AWD,u64_in (by omega)];obtain⟨v,e,hv,_⟩:=Tv d.size h;simp only[e];obtain⟨R,e2,r1,r2⟩:=AZV 99 d 0 d.size (v:Int) (by omega) (by omega) h (by omega) (by omega) (.inl rfl) (by
  have:2 ^ 99=633825300114114700748351602688:=by decide
  omega)
 have e3:(AZZ S.z S.c) (rep d,(0:Int),(d.size:Int),(v:Int),())=some (rep R,()):=by rw[AkU];exact e2
 refine⟨rep R,by simp only[e3],?_,?_⟩;obtain⟨hsz,_,hp⟩:=r1;have e1:R.extract 0 d.size=R:=by rw[← hsz];exact Array.extract_size
 rw[e1,Array.extract_size]at hp;exact hp.map _;rw[rep,ArW,Arq];intro i j hi hj hij;have hi':i<R.size:=by simpa using hi
 have hj':j<R.size:=by simpa using hj
 have:=r2 i j (AsH _) hij (by rw[← r1.1];omega);rw[getElem!_pos R j hj',getElem!_pos R i hi']at this;simpa [ltX]using this
end Go.Pev.Pl.SG
end
section
namespace Go.Pev.Pl.SL
open Go.Sort
def ok(l:List Int):Prop:=l≠[]
def okz:List Int:=[0]
theorem Xt:ok okz:=by simp[ok,okz]
def lt(x y:List Int):Bool:=ltInt (x.headD 0) (y.headD 0)
theorem swo:SWO lt:=⟨fun x=>swo_ltInt.irrefl _,fun x y z=>swo_ltInt.trans _ _ _,fun x y z=>swo_ltInt.ntrans _ _ _⟩
theorem AGc{x y:List Int}(hx:ok x)(hy:ok y):∃ c,B8 (x,y,())=some (c,())∧ilt c (0:Int)=lt x y:=by
 cases x with
  |nil=>exact absurd rfl hx
  |cons a x=>
   cases y with
    |nil=>exact absurd rfl hy
    |cons b y=>
     rw[AIR,AEY];have i1:idx (a::x) (0:Int)=some a:=by rw[idx_eq];rfl
     have i2:idx (b::y) (0:Int)=some b:=by rw[idx_eq];rfl
     simp only[i1,i2,Mi,LO,AFf,AFg];simp only[Db,Ab,lt,AsO,ltInt];by_cases h:a<b;simp[h];by_cases h2:b<a;simp[h,h2];simp[h,h2]
noncomputable def S:SG.SP (List Int):=⟨([]:List (Int)),B8,ok,okz,Xt,lt,swo,fun h1 h2=>AGc h1 h2⟩
theorem W4(xs:List (List Int))(h:xs.length<4294967296)(hok:∀ x∈xs,ok x):∃ ys,AUb (xs,())=some (ys,())∧ys.Perm xs∧ys.Pairwise fun x y=>lt y x=false:=SG.W4 S xs h hok
end Go.Pev.Pl.SL
end
end
section
namespace Go.Pev.Pl
abbrev Edge:=Int×Int×Unit
inductive Con(l:List Edge):Int→Int→Prop
 |refl (a:Int):Con l a a
 |edge (e:Edge):e∈l→Con l e.1 e.2.1
 |symm {a b:Int}:Con l a b→Con l b a
 |trans {a b c:Int}:Con l a b→Con l b c→Con l a c
theorem Con.mono{l l':List Edge}(h:∀ e∈l,∃ e'∈l',(e'.1=e.1∧e'.2.1=e.2.1)∨(e'.1=e.2.1∧e'.2.1=e.1)){a b:Int}(c:Con l a b):Con l' a b:=by
 induction c with
  |refl a=>exact .refl a
  |edge e he=>obtain⟨e',h1,h2|h2⟩:=h e he;have:=Con.edge e' h1;rw[h2.1,h2.2]at this;exact this;have:=Con.edge e' h1;rw[h2.1,h2.2]at this;exact this.symm
  |symm _ ih=>exact ih.symm
  |trans _ _ ih1 ih2=>exact ih1.trans ih2
theorem Con.snoc{l:List Edge}{e:Edge}{a b:Int}:Con (l++[e]) a b↔Con l a b∨(Con l a e.1∧Con l e.2.1 b)∨(Con l a e.2.1∧Con l e.1 b):=by
 constructor;intro h;induction h with
  |refl a=>exact .inl (.refl a)
  |edge e' he=>rcases Ap6.1 he with h|h;exact .inl (.edge e' h);simp only[AqR]at h;subst h;exact .inr (.inl ⟨.refl _,.refl _⟩)
  |symm _ ih=>
   rcases ih with h|⟨h1,h2⟩|⟨h1,h2⟩
   exact .inl h.symm;exact .inr (.inr ⟨h2.symm,h1.symm⟩);exact .inr (.inl ⟨h2.symm,h1.symm⟩)
  |trans _ _ ih1 ih2=>
   rcases ih1 with h|⟨h1,h2⟩|⟨h1,h2⟩
   rcases ih2 with g|⟨g1,g2⟩|⟨g1,g2⟩
   exact .inl (h.trans g);exact .inr (.inl ⟨h.trans g1,g2⟩);exact .inr (.inr ⟨h.trans g1,g2⟩);rcases ih2 with g|⟨g1,g2⟩|⟨g1,g2⟩
   exact .inr (.inl ⟨h1,h2.trans g⟩);exact .inr (.inl ⟨h1,g2⟩);exact .inl (h1.trans g2);rcases ih2 with g|⟨g1,g2⟩|⟨g1,g2⟩
   exact .inr (.inr ⟨h1,h2.trans g⟩);exact .inl (h1.trans g2);exact .inr (.inr ⟨h1,g2⟩)
 have up:∀ {x y},Con l x y→Con (l++[e]) x y:=fun h=>h.mono fun e' he=>⟨e',by simp[he],.inl ⟨rfl,rfl⟩⟩
 have he:Con (l++[e]) e.1 e.2.1:=.edge e (by simp);rintro (h|⟨h1,h2⟩|⟨h1,h2⟩);exact up h;exact(up h1).trans (he.trans (up h2));exact(up h1).trans (he.symm.trans (up h2))
theorem Con.nil{a b:Int}(h:Con [] a b):a=b:=by
 induction h with
  |refl a=>rfl
  |edge e he=>cases he
  |symm _ ih=>exact ih.symm
  |trans _ _ ih1 ih2=>exact ih1.trans ih2
theorem Con.const{l:List Edge}{f:Int→Int}(h:∀ e∈l,f e.1=f e.2.1){a b:Int}(c:Con l a b):f a=f b:=by
 induction c with
  |refl a=>rfl
  |edge e he=>exact h e he
  |symm _ ih=>exact ih.symm
  |trans _ _ ih1 ih2=>exact ih1.trans ih2
end Go.Pev.Pl
end
section
section
namespace Go.Pev.Pl
open Tok
def C2{α:Type}(P:Nat→Bool):Nat→List α→List α
 |_,[]=>[]
 |i,x::xs=>if P i then C2 P (i+1) xs else x::C2 P (i+1) xs
theorem ALo{α:Type}(P:Nat→Bool):∀ (xs:List α) (s:Nat),(∀ k,s≤k→P k=false)→C2 P s xs=xs:=by
 intro xs;induction xs with
  |nil=>intro s _;rfl
  |cons x xs ih=>intro s h;rw[C2,h s (Ap1 _),ih (s+1) fun k hk=>h k (by omega)];rfl
theorem ASJ{α:Type}(P:Nat→Bool)(i:Nat):∀ (xs:List α) (s:Nat),s≤i→(∀ k,s≤k→P k=decide (k=i))→C2 P s xs=xs.eraseIdx (i-s):=by
 intro xs;induction xs with
  |nil=>intro s _ _;rfl
  |cons x xs ih=>intro s hs h;rw[C2,h s (Ap1 _)];by_cases e:s=i;subst e;rw[ALo P xs (s+1) fun k hk=>by rw[h k (by omega)];simp;omega];simp;rw[ih (s+1) (by omega) fun k hk=>h k (by omega)];rw[Apo e,Ap4 (by simp),show i-s=(i-(s+1))+1 by omega,Ar0]
theorem LK{α:Type}(P:Nat→Bool)(i j:Nat)(hij:i<j):∀ (xs:List α) (s:Nat),s≤i→(∀ k,s≤k→P k=decide (k=i∨k=j))→C2 P s xs=(xs.eraseIdx (j-s)).eraseIdx (i-s):=by
 intro xs;induction xs with
  |nil=>intro s _ _;rfl
  |cons x xs ih=>intro s hs h;rw[C2,h s (Ap1 _)];by_cases e:s=i;subst e;rw[ASJ P j xs (s+1) (by omega) fun k hk=>by rw[h k (by omega)];exact Ary.2 ⟨fun q=>by omega,fun q=>.inr q⟩];rw[Apr (.inl rfl),Ap5 rfl,show j-s=(j-(s+1))+1 by omega,Ar0,ArG,List.eraseIdx_zero];rfl;rw[ih (s+1) (by omega) fun k hk=>h k (by omega)];rw[Apo (by omega),Ap4 (by simp),show j-s=(j-(s+1))+1 by omega,Ar0,show i-s=(i-(s+1))+1 by omega,Ar0]
theorem ALp{α:Type}(P:Nat→Bool):∀ (xs:List α) (acc:List α) (k:Nat),(xs.foldl (fun(a:List α×Nat) x=>(if P a.2 then a.1 else a.1++[x],a.2+1)) (acc,k)).1=acc++C2 P k xs:=by
 intro xs;induction xs with
  |nil=>intro acc k;simp[C2]
  |cons x xs ih=>intro acc k;rw[AqY,ih,C2];cases P k<;>simp
theorem ASK{α:Type}(P:Nat→Bool):∀ (xs:List α) (k:Nat),(C2 P k xs).length≤xs.length∧∀ x∈C2 P k xs,x∈xs:=by
 intro xs;induction xs with
  |nil=>intro k;simp[C2]
  |cons x xs ih=>intro k;obtain⟨h1,h2⟩:=ih (k+1);rw[C2];split;exact⟨by simp only[Apw];omega,fun y hy=>AqD _ (h2 y hy)⟩;refine⟨by simp only[Apw];omega,fun y hy => ?_⟩;rcases Apv.1 hy with rfl|hy;simp;exact AqD _ (h2 y hy)
theorem ABY(n:Int)(rings:List (List Int))(away:List Int)(come:List (List Int))(hlen:rings.length<1073741824)(ha:away.length<1073741824)(hc:come.length<1073741824)
  (hne:∀ l∈rings,l≠[]) (hce:∀ r∈come,plain r≠[]) :
  ∃ ys,AUO ((n,(rings,())),away,come,())=some (n,ys,())∧ys.Perm (C2 (fun k=>decide ((k:Int)∈away)) 0 rings++come.map plain)∧ys.Pairwise (fun a b=>¬ hd b<hd a):=by
 rw[AIY,AEd]
 have e:=CC (step:=Ln) (fun i (a:List (List Int)×Nat)=>(away,come,n,rings,(0:Int),a.1,rings,AH rings,(i:Int),())) rings
  (fun x a=>.inl (if decide ((a.2:Int)∈away)then a.1 else a.1++[x],a.2+1)) (fun a=>.inl (come,n,rings,(0:Int),a.1,())) (fun i a=>a.2=i∧a.1.length≤i) (by omega)
  (fun i x a hi hx ⟨h1,h2⟩=>by
   refine⟨fun m' h' => ?_,fun r h'=>by cases h'⟩
   cases h'
   subst h1
   rw[Ln,AK,AN,Apr hi]
   simp only[Aa hx,Jj away _ (show away.length<9223372036854775808 by omega)]
   rw[AO (by omega),A7 (by simp only[AK,Apw,Ap8];omega)]
   by_cases h:(a.2:Int)∈away
   ·simp only[h,Apy,Apx,AqP]
    exact⟨by trivial,by trivial,by omega⟩
   ·simp only[h,AqA,Aqb]
    exact⟨by trivial,by trivial,by simp;omega⟩)
  (fun a _=>by rw[Ln,AK,AN,Apo (by omega)]) ([],0) ⟨rfl,by simp⟩
 have e':AL Ln many (away,come,n,rings,(0:Int),[],rings,AH rings,(0:Int),())=_:=e;rw[e',BD];have hdf:(rings.foldl (fun(a:List (List Int)×Nat) x=>(if decide ((a.2:Int)∈away)then a.1 else a.1++[x],a.2+1)) ([],0)).1=C2 (fun k=>decide ((k:Int)∈away)) 0 rings:=by have:=ALp (fun k=>decide ((k:Int)∈away)) rings [] 0;rw[AqI]at this;exact this
 simp only[hdf];obtain⟨g1,g2⟩:=ASK (fun k=>decide ((k:Int)∈away)) rings 0;generalize C2 (fun k=>decide ((k:Int)∈away)) 0 rings=rest at *
 have f:=CC (step:=Lm) (fun i (a:List (List Int))=>(n,rings,(0:Int),a,come,AH come,(i:Int),())) come
  (fun x a=>.inl (a++[plain x])) (fun a=>.inl (n,rings,(0:Int),a,())) (fun i a=>a.length=rest.length+i) (by omega)
  (fun i x a hi hx h1=>by
   refine⟨fun m' h' => ?_,fun r h'=>by cases h'⟩
   cases h'
   rw[Lm,AK,AN,Apr hi]
   simp only[Aa hx,APq]
   rw[AO (by omega),A7 (by simp only[AK,Apw,Ap8];omega)]
   exact⟨rfl,by simp;omega⟩)
  (fun a _=>by rw[Lm,AK,AN,Apo (by omega)]) rest rfl
 have f':AL Lm many (n,rings,(0:Int),rest,come,AH come,(0:Int),())=_:=f;rw[f',BD];have hfold:∀ (l acc:List (List Int)),l.foldl (fun a x=>a++[plain x]) acc=acc++l.map plain:=by
  intro l;induction l with
   |nil=>intro acc;simp
   |cons x l ih=>intro acc;rw[AqY,ih];simp
 simp only[hfold];obtain⟨ys,y1,y2,y3⟩:=SL.W4 (rest++come.map plain) (by simp;omega) (fun x hx=>by rcases Ap6.1 hx with h|h;exact hne x (g2 x h);obtain⟨r,hr,rfl⟩:=AqU.1 h;exact hce r hr)
 refine⟨ys,by simp only[y1],y2,y3.imp fun {a b} h => ?_⟩;simp only[SL.lt,Go.Sort.ltInt,Aqc]at h;exact h
def XU(rest:List (List Int))(p:List Int):List (List Int):=rest.take (rest.findIdx fun x => !decide (hd x<hd p))++p::rest.drop (rest.findIdx fun x => !decide (hd x<hd p))
theorem ACC(rest:List (List Int))(p:List Int):(XU rest p).Perm (p::rest):=by rw[XU];refine List.perm_middle.trans ?_;rw[Aqa]
theorem AUp{rest:List (List Int)}{p:List Int}(h:rest.Pairwise (fun a b=>hd a<hd b))(hne:∀ x∈rest,hd x≠hd p):(XU rest p).Pairwise (fun a b=>hd a<hd b):=by
 rw[XU];have hlt:∀ x∈rest.take (rest.findIdx fun x => !decide (hd x<hd p)),hd x<hd p:=by intro x hx;obtain⟨j,hj,e⟩:=Arp.1 hx;have:=List.not_of_lt_findIdx (p:=fun x => !decide (hd x<hd p)) (xs:=rest) (i:=j) (by omega);rw[e]at this;simpa using this
 have hgt:∀ x∈rest.drop (rest.findIdx fun x => !decide (hd x<hd p)),hd p<hd x:=by
  intro x hx;by_cases hk:(rest.findIdx fun x => !decide (hd x<hd p))<rest.length;have h0:=List.findIdx_getElem (p:=fun x => !decide (hd x<hd p)) (xs:=rest) (w:=hk);rw[AqX hk]at hx;have h1:¬ hd rest[rest.findIdx fun x => !decide (hd x<hd p)]<hd p:=by simpa using h0
  have h2:=hne _ (Aq5 hk);rcases Apv.1 hx with rfl|hx;omega;have hpw:(rest.drop (rest.findIdx fun x => !decide (hd x<hd p))).Pairwise (fun a b=>hd a<hd b):=h.sublist (List.drop_sublist _ _);rw[AqX hk,Aqf]at hpw;have:=hpw.1 x hx;omega;rw[Aqq (by omega)]at hx;cases hx
 rw[List.pairwise_append,Aqf];refine⟨h.sublist (List.take_sublist _ _),⟨hgt,h.sublist (List.drop_sublist _ _)⟩,fun a ha b hb => ?_⟩;rcases Apv.1 hb with rfl|hb;exact hlt a ha;have:=hlt a ha;have:=hgt b hb;omega
theorem AVo{l:List Int}(h:l≠[]):idx l (0:Int)=some (hd l):=by
 cases l with
  |nil=>exact absurd rfl h
  |cons x l=>rw[Gr];rfl
theorem Ahc(l:List Int):AJ l 0 (0:Int)=hd l:=by cases l<;>rfl
end Go.Pev.Pl
end
section
namespace Go.Pev.Pl
open Tok
theorem AGz{n u v:Int}(h:okT n (.arc u v)):n≤EM n u v:=by rw[FX h];exact(WN h.1 h.2.1).1
def BA(n:Int)(A B:List Int)(u v:Int):List Int:=u::EM n u v::(A2 B v++EM n v u::(A2 A u).tail)
theorem NV{n u v:Int}{A B:List Int}(hA:TI n A)(hB:TI n B)(hu:u∈A)(hv:v∈B)(iu:In n u)(iv:In n v)(hd:Dis n A B):
  TI n (BA n A B u v)∧A2 A u=u::(A2 A u).tail∧(∀ t,t<n→(t∈BA n A B u v↔t∈A∨t∈B))∧u≠v∧okT n (.arc u v):=by
 obtain⟨a,a1,a2,a3⟩:=AMj hA (t:=.ver u) iu hu;obtain⟨b,b1,b2,b3⟩:=AMj hB (t:=.ver v) iv hv;have a1':A2 A u=(Tok.ver u::a).map (Dw n):=a1;have b1':A2 B v=(Tok.ver v::b).map (Dw n):=b1;have huv:u≠v:=by rintro rfl;exact hd u hu iu.2.2.2 hv
 have ho:okT n (.arc u v):=⟨iu,iv,huv⟩
 have pA:=(Co hu).perm;have pB:=(Co hv).perm;have ht:A2 A u=u::(A2 A u).tail:=by rw[a1'];rfl
 have hall:BA n A B u v=(Tok.ver u :: .arc u v::(.ver v::b ++ .arc v u::a)).map (Dw n):=by rw[BA,a1',b1',FX ho,FX (E8 ho)];simp[Dw]
 refine⟨⟨_,hall,fun t ht => ?_,T.join a2 b2 fun x hx hx2 => ?_⟩,ht,fun t ht2 => ?_,huv,ho⟩;rcases Apv.1 ht with rfl|ht;exact iu;rcases Apv.1 ht with rfl|ht;exact ho;rcases Ap6.1 ht with ht|ht;exact b3 t ht;rcases Apv.1 ht with rfl|ht;exact E8 ho;exact a3 t (AqD _ ht);have ix:=a3 _ hx;have x1:x∈A:=pA.mem_iff.2 (by rw[a1'];exact AqU.2 ⟨_,hx,rfl⟩);have x2:x∈B:=pB.mem_iff.2 (by rw[b1'];exact AqU.2 ⟨_,hx2,rfl⟩);exact hd x x1 ix.2.2.2 x2;have g1:=AGz ho;have g2:=AGz (E8 ho);have e1:t∈A↔t=u∨t∈(A2 A u).tail:=by rw[pA.mem_iff,ht,Apv,ArQ]
 rw[BA,Apv,Apv,Ap6,Apv,e1,← pB.mem_iff];constructor;rintro (h|h|h|h|h);exact .inl (.inl h);omega;exact .inr h;omega;exact .inl (.inr h);rintro ((h|h)|h);exact .inl h;exact .inr (.inr (.inr (.inr h)));exact .inr (.inr (.inl h))
theorem KD{n:Int}{a b:List (List Int)}(h:a.Perm b)(ha:a.Pairwise (Dis n)):b.Pairwise (Dis n):=(h.pairwise_iff fun {_ _} hh=>hh.symm).1 ha
theorem AWb{n:Int}{rings rest zs:List (List Int)}{A B p:List Int}(h:FR n rings)(hp:rings.Perm (A::B::rest))(hg:RG n p)(hm:∀ t,t<n→(t∈p↔t∈A∨t∈B))(hz:zs.Perm (p::rest))(hu:zs.Pairwise (fun a b=>hd a<hd b)):FR n zs:=by have hd0:=KD hp h.dis;rw[Aqf,Aqf]at hd0;obtain⟨h1,h2,h3⟩:=hd0;refine⟨h.sz,fun l hl => ?_,hu,KD hz.symm ?_,fun v hv => ?_⟩;rcases Apv.1 (hz.mem_iff.1 hl)with rfl|hl;exact hg;exact h.rg l (hp.mem_iff.2 (by simp[hl]));rw[Aqf];refine⟨fun r hr t ht htn => ?_,h3⟩;rcases(hm t htn).1 ht with g|g;exact h1 r (by simp[hr]) t g htn;exact h2 r hr t g htn;obtain⟨l,hl,hvl⟩:=h.cov v hv;have:=hp.mem_iff.1 hl;simp only[Apv]at this;rcases this with rfl|rfl|g;exact⟨p,hz.mem_iff.2 (by simp),(hm v hv.2.2.2).2 (.inl hvl)⟩;exact⟨p,hz.mem_iff.2 (by simp),(hm v hv.2.2.2).2 (.inr hvl)⟩;exact⟨l,hz.mem_iff.2 (by simp[g]),hvl⟩
theorem H4(n:Int)(rings:List (List Int))(u v:Int)(hD:Dom rings):asked ((n,(rings,())),u,v,())=some (if RF n rings then if In n u∧In n v then 0 else 10 else 1,()):=by rw[AMW,AGx];simp only[Wo n rings hD.1 hD.2,AEr];by_cases h:RF n rings;by_cases h1:In n u;by_cases h2:In n v<;>simp[h,h1,h2];simp[h,h1];simp[h]
theorem Agc(a b:Nat):imax (a:Int) (b:Int)=((max a b:Nat):Int):=by rw[imax];split<;>omega
theorem Agb(a b:Nat):Bs (a:Int) (b:Int)=((min a b:Nat):Int):=by rw[Bs];split<;>omega
theorem Akt{n:Int}{rings:List (List Int)}{u v:Int}{i j:Nat}{A B:List Int}(h:FR n rings)(iu:In n u)(iv:In n v)(hi:rings[i]? = some A)(hj:rings[j]? = some B)(hu:u∈A)(hv:v∈B)(hij:i≠j):
  ∃ zs rest,N0 ((n,(rings,())),u,v,())=some (n,zs,0,())∧FR n zs∧rings.Perm (A::B::rest)∧zs.Perm (plain (BA n A B u v)::rest)∧Dis n A B:=by
 have hD:=h.dom;have hRF:=Mq.2 h;have rA:=h.rg A (Ap0 hi);have rB:=h.rg B (Ap0 hj);have hil:=(AqZ.1 hi).1;have hjl:=(AqZ.1 hj).1;have pu:plc rings u=(i:Int):=h.AFR hi iu.2.2.2 hu;have pv:plc rings v=(j:Int):=h.AFR hj iv.2.2.2 hv;have hperm:rings.Perm (A::B::(rings.eraseIdx (max i j)).eraseIdx (min i j)):=by rcases AsS hij with g|g;rw[Ash (by omega),Aqw (by omega)];exact JS g hi hj;rw[Nat.max_eq_left (by omega),Asi (by omega)];exact(JS g hj hi).trans (List.Perm.swap _ _ _)
 have hdis:Dis n A B:=by have:=KD hperm h.dis;rw[Aqf]at this;exact this.1 B (by simp)
 obtain⟨l1,l2,l3,huv,ho⟩:=NV rA.2.2.2 rB.2.2.2 hu hv iu iv hdis;obtain⟨hRG,hrot⟩:=Y9 l1;have hall:BA n A B u v=u::EM n u v::(A2 B v++EM n v u::(A2 A u).tail):=rfl;have lA:(A2 A u).length≤1000:=by rw[← (Co hu).perm.length_eq];exact rA.1.1
 have lB:(A2 B v).length≤1000:=by rw[← (Co hv).perm.length_eq];exact rB.1.1
 have hsub:((rings.eraseIdx (max i j)).eraseIdx (min i j)).Sublist rings:=(AsA _ _).trans (AsA _ _);have hdrop:C2 (fun k=>decide ((k:Int)∈[(i:Int),(j:Int)])) 0 rings=(rings.eraseIdx (max i j)).eraseIdx (min i j):=by rcases AsS hij with g|g;rw[Ash (by omega),Aqw (by omega)];exact LK _ i j g rings 0 (by omega) fun k _=>Ary.2 (by simp only[Apv,ArO,AsD];omega);rw[Nat.max_eq_left (by omega),Asi (by omega)];exact LK _ j i g rings 0 (by omega) fun k _=>Ary.2 (by simp only[Apv,ArO,AsD];omega)
 have hrl:((rings.eraseIdx (max i j)).eraseIdx (min i j)).length≤rings.length:=hsub.length_le;generalize (rings.eraseIdx (max i j)).eraseIdx (min i j)=rest at *;have hupr:rest.Pairwise (fun a b=>hd a<hd b):=h.up.sublist hsub;have hner:∀ l∈rest,l≠[]:=fun l hl=>(h.rg l (hsub.subset hl)).2.1;have hdd:=KD hperm h.dis;rw[Aqf,Aqf]at hdd;have hheads:∀ x∈rest,hd x≠hd (plain (BA n A B u v)):=by intro x hx e;have g1:=Np hRG;have g2:=(l3 _ g1.2.2.2).1 (hrot.perm.mem_iff.2 (Sb hRG.2.1));have g3:hd (plain (BA n A B u v))∈x:=e▸Sb (hner x hx);rcases g2 with g|g;exact hdd.1 x (by simp[hx]) _ g g1.2.2.2 g3;exact hdd.2.1 x hx _ g g1.2.2.2 g3
 have hup:=AUp hupr hheads;have hpz:=ACC rest (plain (BA n A B u v));refine⟨XU rest (plain (BA n A B u v)),rest,?_,AWb h hperm hRG (fun t ht=>by rw[← hrot.perm.mem_iff];exact l3 t ht) hpz hup,hperm,hpz,hdis⟩;obtain⟨ys,y1,y2,y3⟩:=ABY n rings [(i:Int),(j:Int)] [BA n A B u v] hD.1 (by simp) (by simp) (fun l hl=>(h.rg l hl).2.1) (by simp;exact hRG.2.1);have hys:ys=XU rest (plain (BA n A B u v)):=by refine TF hup (y2.trans ?_) y3;rw[hdrop];exact(Arh (l₁:=rest) (l₂:=[plain (BA n A B u v)])).trans hpz.symm
 rw[hys]at y1;rw[IC,I3];have s1:CE (A2 A u) (0:Int) (1:Int)=some [u]:=by have:=AEs (xs:=A2 A u) (l:=0) (h:=1) (by omega) (by rw[l2];simp);rw[l2]at this ⊢;exact this
 have s2:CE (A2 A u) (1:Int) (AH (A2 A u))=some (A2 A u).tail:=by have:=IE (xs:=A2 A u) (l:=1) (by rw[l2];simp);rw[ArN]at this;exact this
 have d1:Eo 0 (AF (AH [u])) (A2 A u)=[u]:=by rw[l2];rfl
 have d2:Eo 1 (AF (AH (A2 A u).tail)) (A2 A u)=(A2 A u).tail:=by rw[Eo,AK,MZ,ArN,ArZ]
 have hcat:Hc ([[u],[EM n u v],A2 B v,[EM n v u],(A2 A u).tail],())=some (BA n A B u v,()):=by rw[Mh _ (by simp) (by simp;omega)];simp[BA]
 have ne:((i:Int))≠(j:Int):=by omega
 simp only[H4 n rings u v hD,hRF,iu,iv,and_self,AqP,As,Ka n rings _ hD.1 (fun l hl=>(hD.2 l hl).1),pu,pv,ne,Apy,AqA,Apx,Aa hi,Aa hj,ACA,JN,rA.1,rB.1,hu,hv,s1,s2,AIs,d1,d2,hcat,y1]
theorem ARh{n:Int}{rings:List (List Int)}{u v:Int}(h:FR n rings)(iu:In n u)(iv:In n v)(hp:plc rings u=plc rings v):
  N0 ((n,(rings,())),u,v,())=some (n,rings,5,()):=by have hD:=h.dom;have hRF:=Mq.2 h;rw[IC,I3];simp only[H4 n rings u v hD,hRF,iu,iv,and_self,AqP,As,Ka n rings _ hD.1 (fun l hl=>(hD.2 l hl).1),hp,Apy,Apx]
end Go.Pev.Pl
end
section
namespace Go.Pev.Pl
open Tok
def PJ(rings:List (List Int))(a b:Int):Prop:=∃ A∈rings,a∈A∧b∈A
structure FC(n:Int)(rings:List (List Int))(l:List Edge):Prop where
 fr:FR n rings
 sam:∀ a b,In n a→In n b→(PJ rings a b↔Con l a b)
 arcs:∀ A∈rings,∀ u v,okT n (.arc u v)→EM n u v∈A→∃ e∈l,(e.1=u∧e.2.1=v)∨(e.1=v∧e.2.1=u)
theorem FR.AeA{n:Int}{rings:List (List Int)}(h:FR n rings){a b:Int}(ia:In n a)(ib:In n b):plc rings a=plc rings b↔PJ rings a b:=by
 obtain⟨i,A,pa,hi,ha,_⟩:=OU (h.cov a ia);obtain⟨j,B,pb,hj,hb,_⟩:=OU (h.cov b ib);rw[pa,pb];constructor;intro e;have:i=j:=by omega
 subst this;rw[hi]at hj;cases hj;exact⟨A,Ap0 hi,ha,hb⟩;rintro⟨K,hK,h1,h2⟩;obtain⟨k,hk⟩:∃ k:Nat,rings[k]? = some K:=by obtain⟨k,hk,rfl⟩:=Aq8 hK;exact⟨k,Apz hk⟩
 rw[h.uniq hi hk ia.2.2.2 ha h1,h.uniq hj hk ib.2.2.2 hb h2]
theorem FR.one{n:Int}{rings:List (List Int)}(h:FR n rings){A B:List Int}(hA:A∈rings)(hB:B∈rings){v:Int}(iv:v<n)(h1:v∈A)(h2:v∈B):A=B:=by obtain⟨i,hi,rfl⟩:=Aq8 hA;obtain⟨j,hj,rfl⟩:=Aq8 hB;have:=h.uniq (Apz hi) (Apz hj) iv h1 h2;subst this;rfl
theorem PJ.perm{a b:List (List Int)}(h:a.Perm b)(x y:Int):PJ a x y↔PJ b x y:=by constructor;rintro⟨A,hA,h1⟩;exact⟨A,h.mem_iff.1 hA,h1⟩;rintro⟨A,hA,h1⟩;exact⟨A,h.mem_iff.2 hA,h1⟩
theorem AaP{n u v x y:Int}{A B:List Int}(hA:TI n A)(hB:TI n B)(hu:u∈A)(hv:v∈B)(iu:In n u)(iv:In n v)(hd:Dis n A B)(ho:okT n (.arc x y))(h:EM n x y∈BA n A B u v):EM n x y∈A∨EM n x y∈B∨(x=u∧y=v)∨(x=v∧y=u):=by obtain⟨_,l2,_,huv,ho2⟩:=NV hA hB hu hv iu iv hd;have pA:=(Co hu).perm;have pB:=(Co hv).perm;have g:=AGz ho;rw[BA,Apv,Apv,Ap6,Apv]at h;rcases h with h|h|h|h|h;have:=iu.2.2.2;omega;rw[FX ho,FX ho2]at h;have:=GX ho ho2 h;cases this;exact .inr (.inr (.inl ⟨rfl,rfl⟩));exact .inr (.inl (pB.mem_iff.2 h));rw[FX ho,FX (E8 ho2)]at h;have:=GX ho (E8 ho2) h;cases this;exact .inr (.inr (.inr ⟨rfl,rfl⟩));refine .inl (pA.mem_iff.2 ?_);rw[l2];exact AqD _ h
theorem AWc{n:Int}{rings:List (List Int)}{l:List Edge}{e:Edge}(h:FC n rings l)(iu:In n e.1)(iv:In n e.2.1):
  ∃ zs q,N0 ((n,(rings,())),e.1,e.2.1,())=some (n,zs,q,())∧FC n zs (l++[e])∧(q=0∧zs.length+1=rings.length∨q=5∧zs=rings):=by
 have hF:=h.fr;obtain⟨i,A,pu,hi,hu,_⟩:=OU (hF.cov _ iu);obtain⟨j,B,pv,hj,hv,_⟩:=OU (hF.cov _ iv);have mA:=Ap0 hi;have mB:=Ap0 hj;by_cases hij:i=j;have hpe:plc rings e.1=plc rings e.2.1:=by rw[pu,pv,hij]
 refine⟨rings,5,ARh hF iu iv hpe,⟨hF,fun a b ia ib => ?_,fun A hA u v ho hm => ?_⟩,.inr ⟨rfl,rfl⟩⟩;rw[h.sam a b ia ib,Con.snoc];have hc:Con l e.1 e.2.1:=(h.sam _ _ iu iv).1 ((hF.AeA iu iv).1 hpe);constructor;exact .inl;rintro (g|⟨g1,g2⟩|⟨g1,g2⟩);exact g;exact g1.trans (hc.trans g2);exact g1.trans (hc.symm.trans g2);obtain⟨e',h1,h2⟩:=h.arcs A hA u v ho hm;exact⟨e',by simp[h1],h2⟩;obtain⟨zs,rest,q1,q3,q4,q5,q6⟩:=Akt hF iu iv hi hj hu hv hij;have gA:=hF.rg A mA;have gB:=hF.rg B mB;obtain⟨l1,l2,l3,huv,ho⟩:=NV gA.2.2.2 gB.2.2.2 hu hv iu iv q6;obtain⟨hRG,hrot⟩:=Y9 l1;have len1:=q4.length_eq;have len2:=q5.length_eq;simp only[Apw]at len1 len2;refine⟨zs,0,q1,⟨q3,fun a b ia ib => ?_,fun K hK x y hxy hm => ?_⟩,.inl ⟨rfl,by omega⟩⟩;rw[PJ.perm q5,Con.snoc,← h.sam a b ia ib,← h.sam a _ ia iu,← h.sam _ b iv ib,← h.sam a _ ia iv,← h.sam _ b iu ib];have pmem:∀ x,In n x→(x∈plain (BA n A B e.1 e.2.1)↔x∈A∨x∈B):=fun x ix=>by rw[← hrot.perm.mem_iff];exact l3 x ix.2.2.2
 have sA:∀ x,In n x→(PJ rings x e.1↔x∈A):=fun x ix=>by constructor;rintro⟨K,hK,h1,h2⟩;rw[hF.one mA hK iu.2.2.2 hu h2];exact h1;intro hx;exact⟨A,mA,hx,hu⟩
 have sB:∀ x,In n x→(PJ rings x e.2.1↔x∈B):=fun x ix=>by constructor;rintro⟨K,hK,h1,h2⟩;rw[hF.one mB hK iv.2.2.2 hv h2];exact h1;intro hx;exact⟨B,mB,hx,hv⟩
 have sy:∀ x y,PJ rings x y↔PJ rings y x:=fun x y=>⟨fun ⟨K,a,b,c⟩=>⟨K,a,c,b⟩,fun ⟨K,a,b,c⟩=>⟨K,a,c,b⟩⟩
 rw[sA a ia,sB a ia,sy e.2.1 b,sB b ib,sy e.1 b,sA b ib];have hs:PJ rings a b↔(a∈A∧b∈A)∨(a∈B∧b∈B)∨∃ K∈rest,a∈K∧b∈K:=by rw[PJ.perm q4];simp only[PJ,Apv,exists_eq_or_imp]
 have hz:PJ (plain (BA n A B e.1 e.2.1)::rest) a b↔((a∈A∨a∈B)∧(b∈A∨b∈B))∨∃ K∈rest,a∈K∧b∈K:=by simp only[PJ,Apv,exists_eq_or_imp,pmem a ia,pmem b ib]
 rw[hs,hz];constructor;rintro (⟨h1|h1,h2|h2⟩|h);exact .inl (.inl ⟨h1,h2⟩);exact .inr (.inl ⟨h1,h2⟩);exact .inr (.inr ⟨h1,h2⟩);exact .inl (.inr (.inl ⟨h1,h2⟩));exact .inl (.inr (.inr h));rintro ((⟨h1,h2⟩|⟨h1,h2⟩|h)|⟨h1,h2⟩|⟨h1,h2⟩);exact .inl ⟨.inl h1,.inl h2⟩;exact .inl ⟨.inr h1,.inr h2⟩;exact .inr h;exact .inl ⟨.inl h1,.inr h2⟩;exact .inl ⟨.inr h1,.inl h2⟩;have old:∀ K∈rings,EM n x y∈K→∃ e'∈l++[e],(e'.1=x∧e'.2.1=y)∨(e'.1=y∧e'.2.1=x):=fun K hK hm=>by obtain⟨e',h1,h2⟩:=h.arcs K hK x y hxy hm;exact⟨e',by simp[h1],h2⟩
 rcases Apv.1 (q5.mem_iff.1 hK)with rfl|hK;rcases AaP gA.2.2.2 gB.2.2.2 hu hv iu iv q6 hxy (hrot.perm.mem_iff.2 hm)with g|g|⟨g1,g2⟩|⟨g1,g2⟩
 exact old A mA g;exact old B mB g;exact⟨e,by simp,.inl ⟨g1.symm,g2.symm⟩⟩;exact⟨e,by simp,.inr ⟨g2.symm,g1.symm⟩⟩;exact old K (q4.mem_iff.2 (by simp[hK])) hm
theorem ZD{N:Nat}(h1:1≤N)(h2:N≤64):FC (N:Int) (BV N) []:=by
 have hS:∀ A∈BV N,∃ k:Nat,k<N∧A=[(k:Int)]:=fun A hA=>by simp only[BV,AqU,Aqi]at hA;obtain⟨k,hk,rfl⟩:=hA;exact⟨k,hk,rfl⟩
 have key:∀ k,k<N→In (N:Int) (k:Int):=fun k hk=>⟨by omega,by omega,by omega,by omega⟩
 refine⟨⟨⟨by omega,by omega⟩,fun l hl => ?_,?_,?_,fun v hv => ?_⟩,fun a b ia ib => ?_,fun A hA u v ho hm => ?_⟩;obtain⟨k,hk,rfl⟩:=hS l hl;refine⟨⟨by simp,fun x hx => ?_,by simp⟩,by simp,rfl,(Aid (N:Int) k).2 (key k hk)⟩;simp only[AqR]at hx;omega;rw[BV,ArW];exact List.pairwise_lt_range.imp fun h=>by simp only[hd,AsO];omega
 rw[BV,ArW];exact List.pairwise_lt_range.imp fun {a b} h t ht _ ht2=>by simp only[AqR]at ht ht2;omega
 obtain⟨k,rfl⟩:=Ap7 hv.2.2.1;have:=hv.2.2.2;exact⟨[(k:Int)],by simp only[BV,AqU,Aqi];exact⟨k,by omega,rfl⟩,by simp⟩;constructor;rintro⟨A,hA,h1,h2⟩;obtain⟨k,_,rfl⟩:=hS A hA;simp only[AqR]at h1 h2;rw[h1,h2];exact .refl _;intro hc;have:=hc.nil;subst this;obtain⟨k,rfl⟩:=Ap7 ia.2.2.1;have:=ia.2.2.2;exact⟨[(k:Int)],by simp only[BV,AqU,Aqi];exact⟨k,by omega,rfl⟩,by simp,by simp⟩;obtain⟨k,hk,rfl⟩:=hS A hA;simp only[AqR]at hm;have:=AGz ho;omega
theorem Yc(l:List Edge)(hs:l.length<1073741824):ends (l,())=some (l.flatMap fun e=>[e.1,e.2.1],()):=by
 rw[AV6,AR7]
 have e:=CC (step:=Qy) (fun i (a:List Int)=>(a,l,AH l,(i:Int),())) l (fun x a=>.inl (a++[x.1,x.2.1])) (fun a=>.inl (a,())) (fun i a=>a.length=2*i) (by omega)
  (fun i x a hi hx h1=>by
   refine⟨fun m' h' => ?_,fun r h'=>by cases h'⟩
   cases h'
   rw[Qy,AK,AN,Apr hi]
   simp only[Aa hx]
   rw[AO (by omega),A7 (by simp only[AK,Apw,Ap8];omega)]
   exact⟨rfl,by simp;omega⟩)
  (fun a _=>by rw[Qy,AK,AN,Apo (by omega)]) [] rfl
 have e':AL Qy many ([],l,AH l,(0:Int),())=_:=e;rw[e',BD];have hf:∀ (xs:List Edge) (acc:List Int),xs.foldl (fun a x=>a++[x.1,x.2.1]) acc=acc++xs.flatMap fun e=>[e.1,e.2.1]:=by
  intro xs;induction xs with
   |nil=>intro acc;simp
   |cons x xs ih=>intro acc;rw[AqY,ih,ArJ];simp
 rw[hf];rfl
theorem ALd(n:Int)(l:List Edge):((l.flatMap fun e=>[e.1,e.2.1]).all fun v=>decide (In n v))=l.all fun e=>decide (In n e.1∧In n e.2.1):=by
 induction l with
  |nil=>rfl
  |cons e l ih=>rw[ArJ,List.all_append,List.all_cons,ih];simp
theorem ALc(l:List Edge):(l.flatMap fun e=>[e.1,e.2.1]).length=2*l.length:=by
 induction l with
  |nil=>rfl
  |cons e l ih=>rw[ArJ,Ap3,ih];simp;omega
theorem ARe{n:Int}(l:List Edge)(hs:l.length<1073741824)(ha:∀ e∈l,In n e.1∧In n e.2.1):
  ∀ (m i cnt:Nat) (rings:List (List Int)) (taken:List Bool),i+m=l.length→taken.length=i→FC n rings (l.take i)→m<cnt →
  ∃ zs taken',AU Cn cnt (n,rings,(0:Int),taken,l,(l.length:Int),(i:Int),())=some (.inl (n,zs,(0:Int),taken',()))∧FC n zs l∧taken'.length=l.length:=by
 intro m;induction m with
  |zero=>
   intro i cnt rings taken hi ht h hc;obtain⟨cnt,rfl⟩:∃ c,cnt=c+1:=⟨cnt-1,by omega⟩
   rw[ArM (by omega)]at h;refine⟨rings,taken,?_,h,by omega⟩;rw[AU,Cn,AN,Apo (by omega)]
  |succ m ih=>
   intro i cnt rings taken hi ht h hc;obtain⟨cnt,rfl⟩:∃ c,cnt=c+1:=⟨cnt-1,by omega⟩
   have hi':i<l.length:=by omega
   have hx:l[i]? = some l[i]:=Apz hi';obtain⟨iu,iv⟩:=ha _ (Aq5 hi');obtain⟨zs,q,e1,e2,_⟩:=AWc h iu iv;rw[AU,Cn,AN,Apr hi'];simp only[Aa hx,e1];rw[AO (by omega),A7 (by simp only[AK,Apw,Ap8];omega)];rw[← Arv hi']at e2;exact ih (i+1) cnt zs _ (by omega) (by simp[DG,ht]) e2 (by omega)
theorem Alr(k:Int)(l:List Edge)(hk:Sz k)(hs:l.length<1073741824):
  ((∀ e∈l,In k e.1∧In k e.2.1)∧∃ rings,fof (k,l,())=some ((k,(rings,())),0,())∧FC k rings l) ∨
  (¬ (∀ e∈l,In k e.1∧In k e.2.1)∧fof (k,l,())=some ((0,([],())),10,())):=by
 have hmany:9223372036854775808<many:=by simp only[many];omega
 rw[AR0,AV1];have hm:HT k=(k,BV k.toNat,0,()):=by rw[HT,Ap5 hk]
 obtain⟨s1,s2⟩:=hk;obtain⟨N,rfl⟩:=Ap7 (show 0≤k by omega);have h0:=ZD (N:=N) (by omega) (by omega);have hD:=h0.fr.dom;have hRF:=Mq.2 h0.fr;have hfl:=ALc l;have hth:MQ (((N:Int),(BV N,())),l.flatMap fun e=>[e.1,e.2.1],())=some (if ∀ e∈l,In (N:Int) e.1∧In (N:Int) e.2.1 then 0 else 10,()):=by rw[YV _ _ _ hD (by omega),ALd,AMX,Ap5 hRF];by_cases ha:∀ e∈l,In (N:Int) e.1∧In (N:Int) e.2.1;rw[Ap5 ha,Ap5 (AqE.2 fun e he=>Apr (ha e he))];rw[Ap4 ha,Ap4];intro hc;exact ha fun e he=>Ar6 (AqE.1 hc e he)
 simp only[ABg,hm,AqW,Gq,Apx];rw[Sf,Qr,MY,LI];by_cases ha:∀ e∈l,In (N:Int) e.1∧In (N:Int) e.2.1;refine .inl ⟨ha,?_⟩;rw[Ap5 ha]at hth;obtain⟨zs,taken,e1,e2,_⟩:=ARe l hs ha l.length 0 many (BV N) [] (by omega) rfl (by rw[List.take_zero];exact h0) (by omega);have e1':AU Cn many ((N:Int),BV N,(0:Int),[],l,(l.length:Int),(0:Int),())=_:=e1;simp only[Yc l hs,hth,Gq,Apx,At,AK,e1'];exact⟨zs,rfl,e2⟩;refine .inr ⟨ha,?_⟩;rw[Ap4 ha]at hth;simp only[Yc l hs,hth,As];rfl
end Go.Pev.Pl
end
section
namespace Go.Pev.Pl
open Tok
def cl(out:List Int)(v:Int):Int:=out.getD v.toNat 0
def CI(N:Nat)(l:List Edge)(out:List Int):Prop:=out.length=N∧∀ k,k<N→0≤out.getD k 0∧out.getD k 0≤(k:Int)∧Con l (k:Int) (out.getD k 0)
theorem AUS:∀ (l:List Int) (k:Nat) (x:Int),k<l.length→(l.set k x).sum=l.sum-l.getD k 0+x:=by
 intro l;induction l with
  |nil=>intro k x h;simp at h
  |cons y l ih=>
   intro k x h;cases k with
    |zero=>simp;omega
    |succ k=>have:=ih k x (by simpa using h);simp only[List.set_cons_succ,List.sum_cons,List.getD_cons_succ,this];omega
theorem ON{N:Nat}{l:List Edge}{out:List Int}(h:CI N l out)(hN:N≤64):0≤out.sum∧out.sum≤4096:=by
 obtain⟨h1,h2⟩:=h;have key:∀ (xs:List Int),(∀ x∈xs,0≤x∧x≤64)→0≤xs.sum∧xs.sum≤64*(xs.length:Int):=by
  intro xs;induction xs with
   |nil=>intro _;simp
   |cons x xs ih=>intro h;have h3:=ih fun y hy=>h y (AqD _ hy);have h4:=h x (by simp);simp only[List.sum_cons,Apw];omega
 have:=key out fun x hx=>by obtain⟨k,hk,rfl⟩:=Aq8 hx;have h5:=h2 k (by omega);rw[Apu,Apz hk,AqK]at h5;omega
 omega
theorem Aow(N:Nat)(l:List Edge)(hs:l.length<1073741824)(ha:∀ e∈l,In (N:Int) e.1∧In (N:Int) e.2.1):
  ∀ (m i cnt:Nat) (out:List Int) (more:Bool),i+m=l.length→CI N l out→m<cnt →
  ∃ out' more',AU FT cnt ((N:Int),l,out,more,(i:Int),())=some (.inl ((N:Int),l,out',more',()))∧CI N l out' ∧
   ((more'=more∧out'=out∧∀ e∈l.drop i,cl out e.1=cl out e.2.1)∨(more'=true∧out'.sum<out.sum)):=by
 intro m;induction m with
  |zero=>
   intro i cnt out more hi h hc;obtain⟨cnt,rfl⟩:∃ c,cnt=c+1:=⟨cnt-1,by omega⟩
   refine⟨out,more,?_,h,.inl ⟨rfl,rfl,?_⟩⟩;rw[AU,FT,AK,AN,Apo (by omega)];rw[Aqq (by omega)];intro e he;cases he
  |succ m ih=>
   intro i cnt out more hi h hc;obtain⟨cnt,rfl⟩:∃ c,cnt=c+1:=⟨cnt-1,by omega⟩
   have hi':i<l.length:=by omega
   have hx:l[i]? = some l[i]:=Apz hi';have hm:=Aq5 hi';have hdr:l.drop i=l[i]::l.drop (i+1):=AqX hi';rw[AU,FT,AK,AN,Apr hi'];simp only[Aa hx];rw[hdr,AO (by omega)];generalize l[i]=e at *;obtain⟨iu,iv⟩:=ha e hm;have hcon:=Con.edge e hm;obtain⟨eu,ev,eu'⟩:=e;simp only at iu iv hcon ⊢;obtain⟨u,rfl⟩:=Ap7 iu.2.2.1;obtain⟨v,rfl⟩:=Ap7 iv.2.2.1;have hu:u<N:=by have:=iu.2.2.2;omega
   have hv:v<N:=by have:=iv.2.2.2;omega
   have hul:u<out.length:=by rw[h.1];exact hu
   have hvl:v<out.length:=by rw[h.1];exact hv
   rw[Ab,Apo (by omega)];simp only[];rw[Ab,Apo (by omega)];simp only[];rw[Ao,Apo (by omega)];simp only[];rw[Ao,Apo (by omega)];simp only[EV (0:Int) hul,EV (0:Int) hvl,LL,AGN,As];by_cases hq:out.getD u 0=out.getD v 0;rw[Apr hq];obtain⟨out',more',e1,e2,e3⟩:=ih (i+1) cnt out more (by omega) h (by omega);refine⟨out',more',e1,e2,?_⟩;rcases e3 with⟨g1,g2,g3⟩|g;refine .inl ⟨g1,g2,fun e' he' => ?_⟩;rcases Apv.1 he' with rfl|he';simpa [cl]using hq;exact g3 e' he';exact .inr g;rw[Apo hq];have hne:u≠v:=by rintro rfl;exact hq rfl
   have hlow:Bs (out.getD u 0) (out.getD v 0)=if out.getD v 0<out.getD u 0 then out.getD v 0 else out.getD u 0:=rfl
   generalize hlw:Bs (out.getD u 0) (out.getD v 0)=low at *;have hvl2:v<(out.set u low).length:=by simp;exact hvl
   simp only[EV (0:Int) hvl2];have cu:=h.2 u hu;have cv:=h.2 v hv;have hset:∀ k,k<N→((out.set u low).set v low).getD k 0=if k=u∨k=v then low else out.getD k 0:=by
    intro k hk;have hkl:k<out.length:=by rw[h.1];exact hk
    by_cases k2:k=v;subst k2;simp[Apu,hkl];by_cases k1:k=u;subst k1;rw[Ap5 (.inl rfl),Apu,Aq4 (Aq2 k2)];simp[hkl];rw[Ap4 (by omega),Apu,Aq4 (Aq2 k2),Aq4 (Aq2 k1),Apu]
   have hlc:0≤low∧low≤(u:Int)∧low≤(v:Int)∧Con l (u:Int) low:=by rw[hlow];split;exact⟨cv.1,by omega,cv.2.1,hcon.trans cv.2.2⟩;exact⟨cu.1,cu.2.1,by omega,cu.2.2⟩
   have hI:CI N l ((out.set u low).set v low):=by refine⟨by simp[h.1],fun k hk => ?_⟩;rw[hset k hk];split;rename_i hkk;rcases hkk with rfl|rfl;exact⟨hlc.1,hlc.2.1,hlc.2.2.2⟩;exact⟨hlc.1,hlc.2.2.1,hcon.symm.trans hlc.2.2.2⟩;exact h.2 k hk
   have hsum:((out.set u low).set v low).sum<out.sum:=by
    rw[AUS _ _ _ hvl2,AUS _ _ _ hul];have:(out.set u low).getD v 0=out.getD v 0:=by rw[Apu,Aq4 hne,← Apu]
    rw[this,hlow];split<;>omega
   obtain⟨out',more',e1,e2,e3⟩:=ih (i+1) cnt _ true (by omega) hI (by omega);refine⟨out',more',e1,e2,.inr ?_⟩;rcases e3 with⟨g1,g2,_⟩|⟨g1,g2⟩
   exact⟨g1,by rw[g2];exact hsum⟩;exact⟨g1,by omega⟩
theorem AnB(N:Nat)(hN:N≤64)(l:List Edge)(hs:l.length<1073741824)(ha:∀ e∈l,In (N:Int) e.1∧In (N:Int) e.2.1):
  ∀ (m cnt:Nat) (out:List Int),out.sum.toNat=m→CI N l out→m+1<cnt →
  ∃ out',AU Hd cnt ((N:Int),l,out,true,())=some (.inl (out',()))∧CI N l out'∧∀ e∈l,cl out' e.1=cl out' e.2.1:=by
 have hmany:9223372036854775808<many:=by simp only[many];omega
 intro m;induction m using Nat.strongRecOn with
  |_ m ih=>
   intro cnt out hm h hc;obtain⟨cnt,rfl⟩:∃ c,cnt=c+1:=⟨cnt-1,by omega⟩
   rw[AU,Hd];obtain⟨out',more',e1,e2,e3⟩:=Aow N l hs ha l.length 0 many out false (by omega) h (by omega);have e1':AU FT many ((N:Int),l,out,false,(0:Int),())=_:=e1;simp only[At,e1'];rcases e3 with⟨g1,g2,g3⟩|⟨g1,g2⟩
   subst g1 g2;obtain⟨cnt,rfl⟩:∃ c,cnt=c+1:=⟨cnt-1,by omega⟩
   rw[AU,Hd];exact⟨_,rfl,e2,by simpa using g3⟩;subst g1;have b1:=ON h hN;have b2:=ON e2 hN;exact ih out'.sum.toNat (by omega) cnt out' rfl e2 (by omega)
structure AIK(n:Int)(l:List Edge)(out:List Int):Prop where
 len:(out.length:Int)=n
 same:∀ a b,In n a→In n b→(cl out a=cl out b↔Con l a b)
 isin:∀ a,In n a→In n (cl out a)
 con:∀ a,In n a→Con l a (cl out a)
 least:∀ a b,In n a→In n b→Con l a b→cl out a≤b
theorem Ga(n:Int)(l:List Edge)(hn:Sz n)(hs:l.length<1073741824)(ha:∀ e∈l,In n e.1∧In n e.2.1):∃ out,Nm (n,l,())=some (out,())∧AIK n l out:=by
 have hmany:9223372036854775808<many:=by simp only[many];omega
 obtain⟨s1,s2⟩:=hn;obtain⟨N,rfl⟩:=Ap7 (show 0≤n by omega);rw[RA,Mm];have key:∀ (m k cnt:Nat),k+m=N→m<cnt→AU FU cnt ((N:Int),l,(List.range k).map (fun(k:Nat)=>(k:Int)),(k:Int),())=some (.inl ((N:Int),l,(List.range N).map (fun(k:Nat)=>(k:Int)),())):=by
  intro m;induction m with
   |zero=>
    intro k cnt hk hc;obtain⟨cnt,rfl⟩:∃ c,cnt=c+1:=⟨cnt-1,by omega⟩
    have:k=N:=by omega
    subst this;rw[AU,FU,AN,Apo (by omega)]
   |succ m ih=>
    intro k cnt hk hc;obtain⟨cnt,rfl⟩:∃ c,cnt=c+1:=⟨cnt-1,by omega⟩
    have hih:=ih (k+1) cnt (by omega) (by omega);rw[Aqp,Are]at hih;rw[AU,FU,AN,Apr (by omega)];simp only[];rw[AO (by omega),A7 (by simp only[AK,Apw,Ap8,Aqk,AqH];omega)];exact hih
 have e0:=key N 0 many (by omega) (by omega);have e0':AU FU many ((N:Int),l,[],(0:Int),())=_:=e0;have h0:CI N l ((List.range N).map (fun(k:Nat)=>(k:Int))):=by
  refine⟨by simp,fun k hk => ?_⟩;have:((List.range N).map (fun(k:Nat)=>(k:Int))).getD k 0=(k:Int):=by simp[Apu,hk]
  rw[this];exact⟨by omega,by omega,.refl _⟩
 have hb:=ON h0 (by omega);obtain⟨out,e1,e2,e3⟩:=AnB N (by omega) l hs ha _ many _ rfl h0 (by omega);simp only[At,e0',e1];have fact:∀ a,In (N:Int) a→0≤cl out a∧cl out a≤a∧Con l a (cl out a):=by intro a hia;obtain⟨k,rfl⟩:=Ap7 hia.2.2.1;have:=e2.2 k (by have:=hia.2.2.2;omega);simpa [cl]using this
 refine⟨out,rfl,by rw[e2.1],fun a b ia ib=>⟨fun h => ?_,fun h=>h.const e3⟩,fun a ia => ?_,fun a ia=>(fact a ia).2.2,fun a b ia ib h => ?_⟩;have h1:=(fact a ia).2.2;have h2:=(fact b ib).2.2;rw[← h]at h2;exact h1.trans h2.symm;have:=fact a ia;have h3:=ia.2.2.2;exact⟨s1,s2,by omega,by omega⟩;have h1:cl out a=cl out b:=h.const e3;have:=(fact b ib).2.1;omega
end Go.Pev.Pl
end
end
section
namespace Go.Pev.Pl
def Low(l:List Edge)(k:Nat):Prop:=∀ j:Nat,j<k→¬ Con l (j:Int) (k:Int)
noncomputable def Aks(l:List Edge)(k:Nat):Bool:=@decide (Low l k) (Classical.propDecidable _)
theorem Af7(l:List Edge)(k:Nat):Aks l k=true↔Low l k:=by unfold Aks;exact @decide_eq_true_iff _ (Classical.propDecidable _)
noncomputable def cc(N:Nat)(l:List Edge):Nat:=(List.range N).countP (Aks l)
noncomputable def ApI(l:List Edge)(a b:Int):Bool:=@decide (Con l a b) (Classical.propDecidable _)
theorem ApK(N:Nat)(l:List Edge):cc N l≤N:=by unfold cc;have:=List.countP_le_length (p:=Aks l) (l:=List.range N);rw[AqH]at this;exact this
def InE(N:Nat)(e:Edge):Prop:=(0≤e.1∧e.1<(N:Int))∧(0≤e.2.1∧e.2.1<(N:Int))
noncomputable def gfl:List Edge→List Edge→List Bool
 |_,[]=>[]
 |b,x::xs=>(!ApI b x.1 x.2.1)::gfl (b++[x]) xs
def Fo(N:Nat)(l:List Edge):Prop:=cc N l+l.length=N
end Go.Pev.Pl
end
section
namespace Go.Pev.Pl
abbrev Tie:=Int×Int×Int×Bool×Unit
abbrev zT:Tie:=(0,0,0,false,())
def ahead(p x:Tie):Prop:=p.1<x.1∨(p.1=x.1∧p.2.1<x.2.1)
instance (p x:Tie):Decidable (ahead p x):=inferInstanceAs (Decidable (_∨_))
def ed(t:Tie):Edge:=(t.1,t.2.1,())
def trk(ts:List Tie)(k:Int):List Edge:=(ts.filter fun t=>t.2.2.2.1&&decide (k≤t.2.2.1)).map ed
theorem Ako{ts:List Tie}{k:Int}{e:Edge}:e∈trk ts k↔∃ t∈ts,t.2.2.2.1=true∧k≤t.2.2.1∧ed t=e:=by unfold trk;simp only[AqU,ArL,Apt,Aps];constructor;rintro⟨t,⟨h1,h2,h3⟩,h4⟩;exact⟨t,h1,h2,h3,h4⟩;rintro⟨t,h1,h2,h3,h4⟩;exact⟨t,⟨h1,h2,h3⟩,h4⟩
noncomputable def csz(N:Nat)(l:List Edge)(v:Int):Nat:=(List.range N).countP fun(w:Nat)=>ApI l v (w:Int)
end Go.Pev.Pl
end
section
namespace Go.Pev.Pl
def AnY(top:Int)(t:Tie):Tie:=(t.1,t.2.1,min top (t.2.2.1+1),t.2.2.2.1,())
def both(S:Int→Bool)(t:Tie):Bool:=S t.1&&S t.2.1
def ApH(S:Int→Bool)(t:Tie):Prop:=S t.1≠S t.2.1
instance (S:Int→Bool)(t:Tie):Decidable (ApH S t):=inferInstanceAs (Decidable (_≠_))
def rB(S:Int→Bool)(top i:Int)(t:Tie):Tie:=if t.2.2.1=i∧both S t=true then AnY top t else t
section
variable {N:Nat} {top:Int} {O:List Tie} {S:Int→Bool} {i:Int} {c:Int}
variable (hS:∀ a b,Con (trk O i) a b→S a=S b)
include hS
end
end Go.Pev.Pl
end
section
namespace Go.Pev.Pl
theorem AO3(A B:List Tie)(k:Int):trk (A++B) k=trk A k++trk B k:=by unfold trk;rw[Ar2,Are]
structure Snd(N:Nat)(top:Int)(O:List Tie):Prop where
 lvl:∀ x∈O,0≤x.2.2.1∧x.2.2.1≤top
 ins:∀ x∈O,InE N (ed x)
 fo:Fo N (trk O 0)
 lie:∀ x∈O,x.2.2.2.1=false→Con (trk O x.2.2.1) x.1 x.2.1
 halv:∀ k:Nat,(k:Int)≤top→∀ v:Nat,v<N→csz N (trk O k) v≤max 1 (N/2 ^ k)
structure ApW(N:Nat)(top:Int)(t:Edge)(j:Int)(O:List Tie):Prop where
 lvl:∀ x∈O,0≤x.2.2.1∧x.2.2.1≤top
 ins:∀ x∈O,InE N (ed x)
 it:InE N t
 fo:Fo N (trk O 0++[t])
 lie1:∀ x∈O,x.2.2.2.1=false→j≤x.2.2.1→Con (trk O x.2.2.1) x.1 x.2.1
 lie2:∀ x∈O,x.2.2.2.1=false→x.2.2.1<j→Con (trk O x.2.2.1++[t]) x.1 x.2.1
 halv:∀ k:Nat,(k:Int)≤top→∀ v:Nat,v<N→csz N (trk O k) v≤max 1 (N/2 ^ k)
 halt:∀ k:Nat,(k:Int)<j→(k:Int)≤top→∀ v:Nat,v<N→csz N (trk O k++[t]) v≤max 1 (N/2 ^ k)
structure Aoq(N:Nat)(t:Edge)(i:Nat)(O:List Tie)(S:Int→Bool)(c:Nat):Prop where
 cN:c<N
 at_:t.1=(c:Int)∨t.2.1=(c:Int)
 side:∀ w:Nat,w<N→(S (w:Int)=true↔Con (trk O i) (c:Int) (w:Int))
 less:2*csz N (trk O i) (c:Int)≤csz N (trk O i) t.1+csz N (trk O i) t.2.1
section
variable {N:Nat} {top:Int} {t:Edge} {O:List Tie} {S:Int→Bool} {i c:Nat}
variable (hG:ApW N top t ((i:Int)+1) O) (hit:(i:Int)≤top) (hL:Aoq N t i O S c)
include hG
include hit hL
include hL
end
end Go.Pev.Pl
end
section
namespace Go.Pev.Pl
end Go.Pev.Pl
end
section
namespace Go.Pev.Pl
end Go.Pev.Pl
end
section
section
namespace Go.Pev.Pl
structure UF(N:Nat)(s:List Int)(c:Int→Int):Prop where
 len:s.length=N
 lo:∀ k,k<N→0≤s.getD k 0∧s.getD k 0≤(k:Int)
 par:∀ k,k<N→c (s.getD k 0)=c (k:Int)
 root:∀ k,k<N→s.getD k 0=(k:Int)→c (k:Int)=(k:Int)
 le:∀ k,k<N→0≤c (k:Int)∧c (k:Int)≤(k:Int)
theorem AlN(a b:Int):Bs a b=min a b:=by unfold Bs;split<;>omega
theorem Kk{N i x:Nat}(h:(List.range N)[i]? = some x):x=i:=by rw[AqZ]at h;obtain⟨h1,h2⟩:=h;simpa using h2.symm
end Go.Pev.Pl
end
section
namespace Go.Pev.Pl
def sh(n:Int):Prop:=0≤n∧n≤65535
instance (n:Int):Decidable (sh n):=inferInstanceAs (Decidable (_∧_))
def tw(n:Int):List Int:=[n/256,n % 256]
theorem wrap_u8(n:Int):IntKind.wrap .u8 n=n % 256:=by simp[IntKind.wrap,IntKind.bits,IntKind.signed]
theorem Ac2(n:Int):IntKind.wrap .u16 n=n % 65536:=by simp[IntKind.wrap,IntKind.bits,IntKind.signed]
theorem Ape(n:Int):shr? .i64 n (8:Int)=some (n/256):=by rw[Rr,AIz,Ap4 (by omega)];congr 1;show n.fdiv (2 ^ min (8:Int).toNat 64)=n/256;rw[show(2:Int) ^ min (8:Int).toNat 64=256 from by decide];exact Ari n (by omega)
theorem AnZ{n:Int}(h:sh n):quo? .i64 n (256:Int)=some (n/256):=by obtain⟨h1,h2⟩:=h;rw[OT,AFM,Ap4 (by omega),Aq6 h1,Ad (by omega)]
theorem AnL{n:Int}(h:sh n):rem? n (256:Int)=some (n % 256):=by rw[XT,AP6,Ap4 (by omega),AsF h.1]
end Go.Pev.Pl
end
section
namespace Go.Pev.Pl
theorem Ag5(n:Nat)(hn:n<4294967296):ALE ((n:Int),())=some ([],()):=by
 have e0:IntKind.wrap .i64 ((n:Int)-IntKind.wrap .i64 ((0:Int)-0))=(n:Int):=by rw[Ad (n:=(0:Int)-0) (by omega),Ad (by omega)];omega
 rw[YQ,WL];simp only[e0,Ab];rw[Apo (by omega)];simp only[];by_cases h:0<n;rw[Apr (by omega)];have s1:CE ([]:List Unit) (0:Int) (0:Int)=some []:=by rw[NF];rfl
 have s2:CE (Cb (AF (n:Int)) (0:Int)) (0:Int) (0:Int)=some []:=by rw[NF,ABq,Ap5 (by omega)];simp
 have s3:Bq (n:Int)=true:=(Hy _).2 (by omega);simp only[s1,s2,s3];rfl;rw[Apo (by omega)]
theorem Ig{α:Type}{xss:List (List α)}{i:Nat}{x:List α}(h:xss[i]? = some x):(xss.take (i+1)).flatten=(xss.take i).flatten++x:=by rw[List.take_add_one,h];simp
theorem KA{α:Type}(xss:List (List α))(i:Nat):(xss.take i).flatten.length≤xss.flatten.length:=by
 conv=>rhs;rw[← Aqa i xss,AsI,Ap3]
 omega
theorem ASn(xss:List (List Int))(hs:xss.length<4294967296)(h:xss.flatten.length<4294967296):Hc (xss,())=some (xss.flatten,()):=by
 rw[PE,Ni]
 have e:=CC (step:=DI) (fun i (a:Nat)=>(xss,(a:Int),xss,AH xss,(i:Int),())) xss (fun x a=>.inl (a+x.length)) (fun a=>.inl (xss,(a:Int),())) (fun i a=>a=(xss.take i).flatten.length) (by omega)
  (fun i x a hi hx ha=>by
   refine⟨fun m' h' => ?_,fun r h'=>by cases h'⟩
   cases h'
   have h1:=Ig hx
   have h2:=KA xss (i+1)
   rw[h1,Ap3]at h2
   rw[DI]
   simp only[AK]
   rw[AN,Apr hi]
   simp only[Aa hx]
   rw[wrap_add (by omega),AO (by omega),Ab,Apo (by omega)]
   exact⟨rfl,by rw[h1,Ap3,ha]⟩)
  (fun a _=>by rw[DI,AK,AN,Apo (by omega)]) 0 rfl
 have e':AL DI many (xss,(0:Int),xss,AH xss,(0:Int),())=_:=e;rw[e',BD];have hsum:∀ (l:List (List Int)) (a:Nat),l.foldl (fun a x=>a+x.length) a=a+l.flatten.length:=by
  intro l;induction l with
   |nil=>intro a;rfl
   |cons x l ih=>intro a;rw[AqY,ih,Aqy,Ap3];omega
 rw[hsum,Aqg];simp only[Ag5 _ h]
 have g:=CC (step:=DH) (fun i (a:List Int)=>(a,xss,AH xss,(i:Int),())) xss (fun x a=>.inl (a++x)) (fun a=>.inl (a,())) (fun i a=>a=(xss.take i).flatten) (by omega)
  (fun i x a hi hx ha=>by
   refine⟨fun m' h' => ?_,fun r h'=>by cases h'⟩
   cases h'
   have h1:=Ig hx
   have h2:=KA xss (i+1)
   rw[h1,Ap3]at h2
   rw[DH]
   simp only[AK]
   rw[AN,Apr hi]
   simp only[Aa hx]
   rw[AO (by omega),A7 (by rw[ha];omega)]
   exact⟨rfl,by rw[h1,ha]⟩)
  (fun a _=>by rw[DH,AK,AN,Apo (by omega)]) [] rfl
 have g':AL DH many ([],xss,AH xss,(0:Int),())=_:=g;rw[g',BD];have hcat:∀ (l:List (List Int)) (a:List Int),l.foldl (fun a x=>a++x) a=a++l.flatten:=by
  intro l;induction l with
   |nil=>intro a;simp
   |cons x l ih=>intro a;rw[AqY,ih,Aqy,ArV]
 rw[hcat];rfl
abbrev Res:=Int×Int×List Int×Unit
def val(r:Res):Prop:=(0≤r.1∧r.1≤255)∧sh r.2.1∧sh (r.2.2.1.length:Int)∧∀ x∈r.2.2.1,sh x
instance (r:Res):Decidable (val r):=inferInstanceAs (Decidable (_∧_∧_∧_))
def enc(r:Res):List Int:=r.1::(tw r.2.1++(tw (r.2.2.1.length:Int)++r.2.2.1.flatMap tw))
def AbB(r:Res):List Int×Int×Unit:=if val r then(enc r,0,())else([],1,())
theorem AhI:∀ (xs:List Int) (a:List Int),xs.foldl (fun a x=>a++tw x) a=a++xs.flatMap tw:=by
 intro xs;induction xs with
  |nil=>intro a;simp
  |cons x xs ih=>intro a;rw[AqY,ih];simp
theorem AV7(r:Res):(enc r).length=5+2*r.2.2.1.length:=by
 have:∀ xs:List Int,(xs.flatMap tw).length=2*xs.length:=by
  intro xs;induction xs with
   |nil=>rfl
   |cons x xs ih=>rw[ArJ,Ap3,ih,Apw];simp[tw];omega
 simp[enc,tw,this];omega
end Go.Pev.Pl
end
section
namespace Go.Pev.Pl
theorem Na(a:Int):ieq a a=true:=by rw[Db];simp
end Go.Pev.Pl
end
section
namespace Go.Pev.Pl
open Go.RowKit Tok
section
variable {n:Int} {rings:List (List Int)}
theorem ALD{l:List Edge}{out:List Int}(h:FC n rings l)(hc:AIK n l out){A:List Int}{u:Int}(hA:A∈rings)(iu:In n u)(hu:u∈A):hd A=cl out u:=by have gA:=h.fr.rg A hA;have ih:=Np gA;have hh:=Sb gA.2.1;have h1:Con l u (hd A):=(h.sam u (hd A) iu ih).1 ⟨A,hA,hu,hh⟩;have h2:=hc.least u (hd A) iu ih h1;have h3:=hc.isin u iu;obtain⟨K,hK,k1,k2⟩:=(h.sam u _ iu h3).2 (hc.con u iu);have:=h.fr.one hA hK iu.2.2.2 hu k1;subst this;have h4:=(Ew gA.2.1).2 _ k2;rw[gA.2.2.1]at h4;have:hd A=A.headD 0:=rfl;omega
end
end Go.Pev.Pl
end
section
namespace Go.Pev.Pl
def Pc(n:Nat):Int:=((@Pd idI ((n:Int),())).getD (0,())).1
theorem Apb:((List.range 65).all fun k=>decide (@Pd idI ((k:Int),())=some (Pc k,())))=true:=by kernel_rfl
theorem Aos:((List.range 65).all fun k=>decide (@AFk idI ((k:Int),())=some (Pc k,())))=true:=by kernel_rfl
theorem AX7(n:Nat)(h:n≤64):Pd ((n:Int),())=some (Pc n,()):=by rw[show Pd ((n:Int),()) = @Pd idI ((n:Int),())from Aqx (fun i=>@Pd i ((n:Int),())) X0];exact Ar6 (AqE.1 Apb n (by simp;omega))
theorem AKq(n:Nat)(h:n≤64):AFk ((n:Int),())=some (Pc n,()):=by rw[show AFk ((n:Int),()) = @AFk idI ((n:Int),())from Aqx (fun i=>@AFk i ((n:Int),())) X0];exact Ar6 (AqE.1 Aos n (by simp;omega))
def Al3(a b:Int):Int:=if a<b then -1 else if b<a then 1 else 0
theorem AGb(a b:Int):EX (a,b,())=some (Al3 a b,()):=by rw[Mi,LO];simp only[AFf,AFg,Na,Apx];unfold Al3;rw[Ab,Ab];by_cases h:a<b;rw[Apr h,Ap5 h];rw[Apo h,Ap4 h];by_cases h':b<a;rw[Apr h',Ap5 h'];rw[Apo h',Ap4 h']
theorem Akh(a b:Int):orI ([a,b],())=some (if a=0 then b else a,()):=by
 rw[Aft,Afu]
 have e:=N6 (step:=Xq) (fun i=>(0,[a,b],AH [a,b],(i:Int),())) [a,b] (fun x => !decide (x=0)) (fun i=>.inl ([a,b].getD i 0,())) (.inr (.inl (0,()))) (by simp)
  (fun i x hi hx=>by
   rw[Xq,AK,AN,Apr hi]
   simp only[Aa hx,As]
   have hi2:i<2:=hi
   rw[AO (by omega)]
   have hg:[a,b].getD i 0=x:=by rw[Apu,hx];rfl
   rw[hg]
   by_cases h:x=0
   ·simp[h]
   ·simp[h])
  (by rw[Xq,AK,AN,Apo (by omega)])
 have e':AL Xq many (0,[a,b],AH [a,b],(0:Int),())=_:=e;rw[e'];by_cases h:a=0;by_cases h':b=0;simp[h,h'];simp[h,h',List.findIdx_cons];simp[h,List.findIdx_cons]
theorem AFn(p x:Tie):∃ y,IX (p,x,())=some (y,())∧ile 0 y = !decide (ahead p x):=by
 rw[Tg,Oi];simp only[AGb,Akh];refine⟨_,rfl,?_⟩;rw[Ao];by_cases h:ahead p x;rw[Apr h];unfold ahead at h;unfold Al3;rw[Apo];· rfl
 split<;>split<;>(try split)<;>omega;rw[Apo h];unfold ahead at h;unfold Al3;rw[Apr];· rfl
 split<;>split<;>(try split)<;>omega
def Nu(N:Nat)(ts:List Tie)(i:Nat):Prop:=
 0≤(ts.getD i zT).1∧(ts.getD i zT).1<(ts.getD i zT).2.1∧(ts.getD i zT).2.1<(N:Int)∧0≤(ts.getD i zT).2.2.1∧(ts.getD i zT).2.2.1≤Pc N∧(i=0∨ahead (ts.getD (i-1) zT) (ts.getD i zT))
instance (N:Nat)(ts:List Tie)(i:Nat):Decidable (Nu N ts i):=inferInstanceAs (Decidable (_∧_∧_∧_∧_∧_))
def trs(ts:List Tie)(k:Nat):List Edge:=(List.range k).foldl (fun a i=>if(ts.getD i zT).2.2.2.1=true then a++[ed (ts.getD i zT)]else a) []
theorem AIV{α β ρ:Type}(P:β→Prop)[DecidablePred P](g:β→α→α)(fin:α→ρ)(rt:ρ):∀ (xs:List β) (a:α),walk (fun x a=>if P x then .inl (g x a)else .inr rt) fin xs a=if ∀ x∈xs,P x then fin (xs.foldl (fun a x=>g x a) a)else rt:=by
 intro xs;induction xs with
  |nil=>intro a;simp[walk]
  |cons x xs ih=>intro a;rw[walk];by_cases h:P x;rw[Ap5 h];simp only[];rw[ih];simp[h];rw[Ap4 h];simp[h]
theorem AIb(ts:List Tie)(k:Nat):trs ts (k+1)=if(ts.getD k zT).2.2.2.1=true then trs ts k++[ed (ts.getD k zT)]else trs ts k:=by unfold trs;rw[Aqp,List.foldl_append];rfl
theorem AEh(ts:List Tie):∀ k,(trs ts k).length≤k:=by
 intro k;induction k with
  |zero=>exact Ap1 _
  |succ k ih=>rw[AIb];split;rw[Ap3];simp;omega;omega
theorem AjP(ts:List Tie)(e:Edge):∀ k,e∈trs ts k→∃ i,i<k∧e=ed (ts.getD i zT):=by
 intro k;induction k with
  |zero=>intro h;simp[trs]at h
  |succ k ih=>intro h;rw[AIb]at h;split at h;rcases Ap6.1 h with h|h;obtain⟨i,h1,h2⟩:=ih h;exact⟨i,by omega,h2⟩;simp only[AqR]at h;exact⟨k,by omega,h⟩;obtain⟨i,h1,h2⟩:=ih h;exact⟨i,by omega,h2⟩
def oks(N:Nat)(ts:List Tie):Prop:=∀ i∈List.range ts.length,Nu N ts i
instance (N:Nat)(ts:List Tie):Decidable (oks N ts):=inferInstanceAs (Decidable (∀ i∈List.range ts.length,Nu N ts i))
theorem AKs(N:Nat)(hN:N≤64)(ts:List Tie)(hs:ts.length≤400):
  AL F6 many ((N:Int),ts,Pc N,ts,AH ts,(0:Int),())=some (if oks N ts then .inr (.inl ((N:Int),ts,()))else .inl (false,())):=by
 have e:=CC (step:=F6) (fun i (_:Unit)=>((N:Int),ts,Pc N,ts,AH ts,(i:Int),())) (List.range ts.length) (fun i a=>if Nu N ts i then .inl a else .inr (.inl (false,()))) (fun _=>.inr (.inl ((N:Int),ts,()))) (fun _ _=>True) (by simp;omega)
  (fun i x a hi hx _=>by
   have:=Kk hx
   subst this
   rw[AqH]at hi
   have step:F6 ((N:Int),ts,Pc N,ts,AH ts,(x:Int),())=if Nu N ts x then some (.inl ((N:Int),ts,Pc N,ts,AH ts,((x+1:Nat):Int),()))else some (.inr (.inl (false,()))):=by
    rw[F6,AK,AN,Apr hi]
    simp only[EV zT hi]
    obtain⟨t,ht⟩:∃ t,ts.getD x zT=t:=⟨_,rfl⟩
    have hk:Nu N ts x↔(0≤t.1∧t.1<t.2.1∧t.2.1<(N:Int)∧0≤t.2.2.1∧t.2.2.1≤Pc N∧(x=0∨ahead (ts.getD (x-1) zT) t)):=by unfold Nu;rw[ht]
    rw[ht]
    rw[Ab,Ao,Ao,Ab,Ab]
    by_cases h1:t.1<0
    ·rw[Apr h1,Ap4 (fun h=>by obtain⟨q1,q2,q3,q4,q5,_⟩:=hk.1 h;omega)]
    rw[Apo h1]
    by_cases h2:t.2.1≤t.1
    ·rw[Apr h2,Ap4 (fun h=>by obtain⟨q1,q2,q3,q4,q5,_⟩:=hk.1 h;omega)]
    rw[Apo h2]
    by_cases h3:(N:Int)≤t.2.1
    ·rw[Apr h3,Ap4 (fun h=>by obtain⟨q1,q2,q3,q4,q5,_⟩:=hk.1 h;omega)]
    rw[Apo h3]
    by_cases h4:t.2.2.1<0
    ·rw[Apr h4,Ap4 (fun h=>by obtain⟨q1,q2,q3,q4,q5,_⟩:=hk.1 h;omega)]
    rw[Apo h4]
    by_cases h5:Pc N<t.2.2.1
    ·rw[Apr h5,Ap4 (fun h=>by obtain⟨q1,q2,q3,q4,q5,_⟩:=hk.1 h;omega)]
    rw[Apo h5]
    simp only[]
    rw[AO (by omega),Ab]
    by_cases h6:x=0
    ·subst h6
     rw[Apo (by omega),Ap5 (hk.2 ⟨by omega,by omega,by omega,by omega,by omega,.inl rfl⟩)]
    ·rw[Apr (by omega),Ad (by omega),show((x:Int)-1)=((x-1:Nat):Int) by omega]
     simp only[EV zT (show x-1<ts.length by omega)]
     obtain⟨y,ey,hy⟩:=AFn (ts.getD (x-1) zT) t
     have ey':IX (((ts.getD (x-1) zT).1,((ts.getD (x-1) zT).2.1,((ts.getD (x-1) zT).2.2.1,((ts.getD (x-1) zT).2.2.2.1,())))),(t.1,(t.2.1,(t.2.2.1,(t.2.2.2.1,())))),())=some (y,()):=ey
     simp only[ey',hy]
     by_cases h7:ahead (ts.getD (x-1) zT) t
     ·rw[Apr h7,Ap5 (hk.2 ⟨by omega,by omega,by omega,by omega,by omega,.inr h7⟩)]
      rfl
     ·rw[Apo h7,Ap4 (fun h=>by rcases(hk.1 h).2.2.2.2.2 with h|h;exact h6 h;exact h7 h)]
      rfl
   by_cases h:Nu N ts x
   ·rw[Ap5 h]at step ⊢
    refine⟨fun m' h' => ?_,fun r h'=>(by cases h')⟩
    cases h'
    exact⟨step,trivial⟩
   ·rw[Ap4 h]at step ⊢
    refine⟨fun m' h'=>(by cases h'),fun r h' => ?_⟩
    cases h'
    exact step)
  (fun a _=>by rw[F6,AqH,AK,AN,Apo (by omega)]) () trivial
 have e':AL F6 many ((N:Int),ts,Pc N,ts,AH ts,(0:Int),())=_:=e;rw[e',AIV (Nu N ts) (fun _ a=>a)];rfl
theorem Pu(N:Nat)(hN:N≤64)(ts:List Tie)(hs:ts.length≤400):
  AL Eg many ((N:Int),ts,[],(0:Int),())=some (if oks N ts then .inr (.inl ((N:Int),ts,trs ts ts.length,()))else .inl (false,())):=by
 have e:=CC (step:=Eg) (fun i (a:List Edge)=>((N:Int),ts,a,(i:Int),())) (List.range ts.length) (fun i a=>if Nu N ts i then .inl (if(ts.getD i zT).2.2.2.1=true then a++[ed (ts.getD i zT)]else a)else .inr (.inl (false,()))) (fun a=>.inr (.inl ((N:Int),ts,a,()))) (fun i a=>a.length≤i) (by simp;omega)
  (fun i x a hi hx ha=>by
   have:=Kk hx
   subst this
   rw[AqH]at hi
   have step:Eg ((N:Int),ts,a,(x:Int),())=if Nu N ts x then some (.inl ((N:Int),ts,if(ts.getD x zT).2.2.2.1=true then a++[ed (ts.getD x zT)]else a,((x+1:Nat):Int),()))else some (.inr (.inl (false,()))):=by
    rw[Eg,AK,AN,Apr hi]
    simp only[EV zT hi,AX7 N hN]
    obtain⟨t,ht⟩:∃ t,ts.getD x zT=t:=⟨_,rfl⟩
    have hk:Nu N ts x↔(0≤t.1∧t.1<t.2.1∧t.2.1<(N:Int)∧0≤t.2.2.1∧t.2.2.1≤Pc N∧(x=0∨ahead (ts.getD (x-1) zT) t)):=by unfold Nu;rw[ht]
    rw[ht]
    rw[Ab,Ao,Ao,Ab,Ab]
    by_cases h1:t.1<0
    ·rw[Apr h1,Ap4 (fun h=>by obtain⟨q1,q2,q3,q4,q5,_⟩:=hk.1 h;omega)]
    rw[Apo h1]
    by_cases h2:t.2.1≤t.1
    ·rw[Apr h2,Ap4 (fun h=>by obtain⟨q1,q2,q3,q4,q5,_⟩:=hk.1 h;omega)]
    rw[Apo h2]
    by_cases h3:(N:Int)≤t.2.1
    ·rw[Apr h3,Ap4 (fun h=>by obtain⟨q1,q2,q3,q4,q5,_⟩:=hk.1 h;omega)]
    rw[Apo h3]
    by_cases h4:t.2.2.1<0
    ·rw[Apr h4,Ap4 (fun h=>by obtain⟨q1,q2,q3,q4,q5,_⟩:=hk.1 h;omega)]
    rw[Apo h4]
    by_cases h5:Pc N<t.2.2.1
    ·rw[Apr h5,Ap4 (fun h=>by obtain⟨q1,q2,q3,q4,q5,_⟩:=hk.1 h;omega)]
    rw[Apo h5]
    simp only[AK]
    have hfit:fits ((a.length:Int)+(([(t.1,t.2.1,())]:List Edge).length:Int))=true:=A7 (by simp;omega)
    rw[AO (by omega),Ab]
    by_cases h6:x=0
    ·subst h6
     rw[Apo (by omega),Ap5 (hk.2 ⟨by omega,by omega,by omega,by omega,by omega,.inl rfl⟩)]
     cases ht4:t.2.2.2.1
     ·simp
     ·simp only[hfit]
      simp[ed,Ai]
    ·rw[Apr (by omega),Ad (by omega),show((x:Int)-1)=((x-1:Nat):Int) by omega]
     simp only[EV zT (show x-1<ts.length by omega),As]
     generalize ts.getD (x-1) zT=p at hk ⊢
     rw[Ab,Ao]
     by_cases h7:t.1<p.1
     ·rw[Apr h7,Ap4 (fun h=>by rcases(hk.1 h).2.2.2.2.2 with h|h|h<;>omega)]
     rw[Apo h7]
     by_cases h8:p.1=t.1
     ·rw[Apr h8]
      by_cases h9:t.2.1≤p.2.1
      ·rw[Apr h9,Ap4 (fun h=>by rcases(hk.1 h).2.2.2.2.2 with h|h|h<;>omega)]
      rw[Apo h9,Ap5 (hk.2 ⟨by omega,by omega,by omega,by omega,by omega,.inr (.inr ⟨h8,by omega⟩)⟩)]
      cases ht4:t.2.2.2.1
      ·simp
      ·simp only[hfit]
       simp[ed,Ai]
     ·rw[Apo h8,Ap5 (hk.2 ⟨by omega,by omega,by omega,by omega,by omega,.inr (.inl (by omega))⟩)]
      cases ht4:t.2.2.2.1
      ·simp
      ·simp only[hfit]
       simp[ed,Ai]
   by_cases h:Nu N ts x
   ·rw[Ap5 h]at step ⊢
    refine⟨fun m' h' => ?_,fun r h'=>(by cases h')⟩
    cases h'
    refine⟨step,?_⟩
    split
    ·rw[Ap3];simp;omega
    ·omega
   ·rw[Ap4 h]at step ⊢
    refine⟨fun m' h'=>(by cases h'),fun r h' => ?_⟩
    cases h'
    exact step)
  (fun a _=>by rw[Eg,AqH,AK,AN,Apo (by omega)]) [] (Ap1 _)
 have e':AL Eg many ((N:Int),ts,[],(0:Int),())=_:=e;rw[e',AIV (Nu N ts) (fun i a=>if(ts.getD i zT).2.2.2.1=true then a++[ed (ts.getD i zT)]else a)];rfl
end Go.Pev.Pl
end
end
section
section
namespace Go.Pev.Pl
theorem AVS{N:Nat}{ts:List Tie}(hN:N≤64){i:Nat}(h:Nu N ts i):In (N:Int) (ed (ts.getD i zT)).1∧In (N:Int) (ed (ts.getD i zT)).2.1:=by obtain⟨q1,q2,q3,_⟩:=h;exact⟨⟨by omega,by omega,q1,by show(ts.getD i zT).1<_;omega⟩,⟨by omega,by omega,by show 0≤(ts.getD i zT).2.1;omega,q3⟩⟩
theorem AO2{N:Nat}{ts:List Tie}(hN:N≤64)(h:oks N ts):∀ e∈trs ts ts.length,In (N:Int) e.1∧In (N:Int) e.2.1:=by intro e he;obtain⟨i,hi,rfl⟩:=AjP ts e _ he;exact AVS hN (h i (by simp[hi]))
theorem AoS{N:Nat}{ts:List Tie}(hN:N≤64)(h:oks N ts):∀ e∈ts.map ed,In (N:Int) e.1∧In (N:Int) e.2.1:=by intro e he;obtain⟨t,ht,rfl⟩:=AqU.1 he;obtain⟨i,hi,rfl⟩:=Aq8 ht;have:=AVS hN (h i (by simp[hi]));simpa [hi]using this
theorem ARa{N:Nat}(ts:List Tie)(hs:ts.length≤400)(h:oks N ts):SJ (((N:Int),(ts,())),(0:Int),())=some (trs ts ts.length,()):=by
 rw[SH,QG]
 have e:=CC (step:=D8) (fun i (a:List Edge)=>((0:Int),a,ts,AH ts,(i:Int),())) (List.range ts.length) (fun i a=>.inl (if(ts.getD i zT).2.2.2.1=true then a++[ed (ts.getD i zT)]else a)) (fun a=>.inl (a,())) (fun i a=>a.length≤i) (by simp;omega)
  (fun i x a hi hx ha=>by
   refine⟨fun m' h' => ?_,fun r h'=>(by cases h')⟩
   cases h'
   have:=Kk hx
   subst this
   rw[AqH]at hi
   have hlv:=(h x (by simp[hi])).2.2.2.1
   constructor
   ·rw[D8,AK,AN,Apr hi]
    simp only[EV zT hi,AK]
    have hfit:fits ((a.length:Int)+(([((ts.getD x zT).1,(ts.getD x zT).2.1,())]:List Edge).length:Int))=true:=A7 (by simp;omega)
    rw[AO (by omega),Ao,Apr hlv]
    cases ht4:(ts.getD x zT).2.2.2.1
    ·simp
    ·simp only[hfit]
     simp[ed,Ai]
   ·split
    ·rw[Ap3];simp;omega
    ·omega)
  (fun a _=>by rw[D8,AqH,AK,AN,Apo (by omega)]) [] (Ap1 _)
 have e':AL D8 many ((0:Int),[],ts,AH ts,(0:Int),())=_:=e;simp only[e'];rw[BD (fun i a=>if(ts.getD i zT).2.2.2.1=true then a++[ed (ts.getD i zT)]else a)];rfl
def cnt(out:List Int)(N:Nat):Nat:=((List.range N).filter fun k=>decide (out.getD k 0=(k:Int))).length
theorem TN{N:Nat}{rings:List (List Int)}{l:List Edge}{out:List Int}(h:FC (N:Int) rings l)(hc:AIK (N:Int) l out):rings.length=cnt out N:=by
 have hsz:=h.fr.sz;have hp:(rings.map hd).Perm (((List.range N).filter fun k=>decide (out.getD k 0=(k:Int))).map fun(k:Nat)=>(k:Int)):=by
  rw[List.perm_ext_iff_of_nodup];intro a;simp only[AqU,ArL,Aqi,Aps];constructor;rintro⟨A,hA,rfl⟩;have gA:=h.fr.rg A hA;have ih:In (N:Int) (hd A):=Np gA;have hh:=Sb gA.2.1;have:=ALD h hc hA ih hh;obtain⟨_,_,a1,a2⟩:=ih;refine⟨(hd A).toNat,⟨by omega,?_⟩,by omega⟩;rw[show out.getD (hd A).toNat 0=cl out (hd A)from rfl,← this];omega;rintro⟨k,⟨hk,ho⟩,rfl⟩;have ik:In (N:Int) (k:Int):=⟨hsz.1,hsz.2,by omega,by omega⟩
  obtain⟨A,hA,hm⟩:=h.fr.cov _ ik;refine⟨A,hA,?_⟩;rw[ALD h hc hA ik hm];unfold cl;rw[AqW];exact ho;exact(ArW.2 h.fr.up).imp (fun h=>by omega);refine List.Pairwise.map _ (S:=fun a b=>a≠b) (R:=fun a b=>a≠b) (fun a b h h'=>h (by omega)) ?_;exact(List.nodup_range).filter _
 have:=hp.length_eq;rw[Aqk,Aqk]at this;exact this
theorem N1(N:Nat)(hN:N≤64)(p:List Tie)(q:List Edge)(out:List Int)(ho:out.length=N):AL Fl many ((N:Int),p,q,out,(0:Int),(0:Int),())=some (.inl ((N:Int),p,q,(cnt out N:Int),())):=by
 have e:=CC (step:=Fl) (fun i (a:Nat)=>((N:Int),p,q,out,(a:Int),(i:Int),())) (List.range N) (fun k a=>.inl (if out.getD k 0=(k:Int)then a+1 else a)) (fun a=>.inl ((N:Int),p,q,(a:Int),())) (fun i a=>a≤i) (by simp;omega)
  (fun i x a hi hx ha=>by
   refine⟨fun m' h' => ?_,fun r h'=>(by cases h')⟩
   cases h'
   have:=Kk hx
   subst this
   rw[AqH]at hi
   constructor
   ·rw[Fl,AN,Apr hi]
    simp only[EV 0 (show x<out.length by omega),LL,As]
    rw[AO (by omega),AO (by omega)]
    by_cases h:out.getD x 0=(x:Int)
    ·rw[Apr h,Ap5 h]
    ·rw[Apo h,Ap4 h]
   ·split<;>omega)
  (fun a _=>by rw[Fl,AqH,AN,Apo (by omega)]) 0 (Ap1 _)
 have e':AL Fl many ((N:Int),p,q,out,(0:Int),(0:Int),())=_:=e;rw[e',BD (fun k a=>if out.getD k 0=(k:Int)then a+1 else a)];have key:∀ (xs:List Nat) (a:Nat),xs.foldl (fun a k=>if out.getD k 0=(k:Int)then a+1 else a) a=a+(xs.filter fun k=>decide (out.getD k 0=(k:Int))).length:=by
  intro xs;induction xs with
   |nil=>intro a;rfl
   |cons x xs ih=>
    intro a;rw[AqY,ih,List.filter_cons];by_cases h:out.getD x 0=(x:Int)
    simp only[h,AqP,Apy,Apw];omega;simp only[h,AqB,AqA,AqC]
 rw[key,Aqg];rfl
theorem Y1(n:Int)(ts:List Tie)(hl:ts.length<4611686018427387904):∃ b:Bool,HQ ((n,(ts,())),())=some (b,())∧Ek ((n,(ts,())),())=some (b,())∧(b=true→∃ N:Nat,n=(N:Int)∧1≤N∧N≤64∧ts.length≤400∧oks N ts):=by
 by_cases hn:¬ (1≤n∧n≤64);refine⟨false,?_,?_,fun h=>by cases h⟩;rw[Fm,Fp,Ab,Ab];by_cases h:n<1;simp only[Apr h];simp only[Apo h,Apr (show 64<n by omega)];rw[Jz,J0];simp only[SK,QH,Ao];by_cases h:1≤n;simp only[Apr h,Apo (show ¬ n≤64 by omega),Aqb];simp only[Apo h,Aqb];have hn:=AsZ.1 hn;obtain⟨N,rfl⟩:=Ap7 (show 0≤n by omega);have hsz:Xy ((N:Int),())=some (true,()):=by simp only[SK,QH,Ao,Apr hn.1,Apr hn.2]
 by_cases h4:¬ ts.length≤400;refine⟨false,?_,?_,fun h=>by cases h⟩;rw[Fm,Fp];simp only[Ab,AK];rw[Apo (show ¬ (N:Int)<1 by omega),Apo (show ¬ 64<(N:Int) by omega),Apr (show 400<(ts.length:Int) by omega)];rw[Jz,J0];simp only[hsz,Apx,Ab,AK];rw[Apr (show 400<(ts.length:Int) by omega)];have h4:=AsZ.1 h4;have R:=Pu N (by omega) ts h4;have L:=AKs N (by omega) ts h4;by_cases ho:¬ oks N ts;rw[Ap4 ho]at R L;refine⟨false,?_,?_,fun h=>by cases h⟩;rw[Fm,Fp];simp only[Ab,AK];rw[Apo (show ¬ (N:Int)<1 by omega),Apo (show ¬ 64<(N:Int) by omega),Apo (show ¬ 400<(ts.length:Int) by omega)];simp only[R];rw[Jz,J0];simp only[hsz,Apx,Ab,AK,AKq N (by omega)];rw[Apo (show ¬ 400<(ts.length:Int) by omega)];rw[AK]at L;simp only[L];have ho:=AsZ.1 ho;rw[Ap5 ho]at R L;have hin:=AO2 (show N≤64 by omega) ho;have hlen:=AEh ts ts.length;obtain⟨out,hc,hcl⟩:=Ga (N:Int) (trs ts ts.length) hn (by omega) hin;rcases(Alr (N:Int) (trs ts ts.length) hn (by omega)).symm with⟨hno,_⟩|⟨_,rings,hf,hfc⟩
 exact absurd hin hno;have hcount:=TN hfc hcl;have hol:out.length=N:=by have:=hcl.len;omega
 refine⟨decide ((cnt out N:Int)=(N:Int)-(trs ts ts.length).length),?_,?_,fun _=>⟨N,rfl,by omega,by omega,h4,ho⟩⟩;rw[Fm,Fp];simp only[Ab,AK];rw[Apo (show ¬ (N:Int)<1 by omega),Apo (show ¬ 64<(N:Int) by omega),Apo (show ¬ 400<(ts.length:Int) by omega)];simp only[R,hc,N1 N (by omega) _ _ out hol,As];rw[Ad (by omega)];rw[Jz,J0];simp only[hsz,Apx,Ab,AK,AKq N (by omega)];rw[Apo (show ¬ 400<(ts.length:Int) by omega)];rw[AK]at L;simp only[L,ARa ts h4 ho,hf,Na,As,hcount];rw[Ad (by omega)]
end Go.Pev.Pl
end
section
namespace Go.Pev.Pl
theorem AIK.unique{N:Nat}{l:List Edge}{a b:List Int}(h1:1≤N)(h2:N≤64)(ha:AIK (N:Int) l a)(hb:AIK (N:Int) l b):a=b:=by
 have la:=ha.len;have lb:=hb.len;refine Ha (0:Int) (by omega) fun k hk => ?_;have ik:In (N:Int) (k:Int):=⟨by omega,by omega,by omega,by omega⟩
 have e1:=ha.least _ _ ik (hb.isin _ ik) (hb.con _ ik);have e2:=hb.least _ _ ik (ha.isin _ ik) (ha.con _ ik);unfold cl at e1 e2;rw[AqW]at e1 e2;omega
def InV(N:Nat)(x:Int):Prop:=0≤x∧x<(N:Int)
instance (N:Nat)(x:Int):Decidable (InV N x):=inferInstanceAs (Decidable (_∧_))
end Go.Pev.Pl
end
section
namespace Go.Pev.Pl
end Go.Pev.Pl
end
section
namespace Go.Pev.Pl
def ApE(l:List Edge)(u v:Int):Prop:=((u,(v,())):Edge)∈l∨((v,(u,())):Edge)∈l
instance (l:List Edge)(u v:Int):Decidable (ApE l u v):=inferInstanceAs (Decidable (_∨_))
def Apf(N:Nat)(l:List Edge)(u:Nat):List Edge:=((List.range (N-(u+1))).filter fun i=>decide (ApE l (u:Int) ((u+1+i:Nat):Int))).map fun(i:Nat)=>((u:Int),((u+1+i:Nat):Int),())
def Ane(N:Nat)(l:List Edge):List Edge:=(List.range N).flatMap fun u=>Apf N l u
end Go.Pev.Pl
end
section
namespace Go.Pev.Pl
def Ahr(N:Nat)(ts:List Tie)(l:List Edge):List Edge:=(Ane N l).filter fun x => !decide (x∈ts.map ed)
def Aph(l:List Tie)(t:Tie):List Tie:=l.take (l.findIdx fun x => !decide (ahead x t))++t::l.drop (l.findIdx fun x => !decide (ahead x t))
end Go.Pev.Pl
end
section
namespace Go.Pev.Pl
end Go.Pev.Pl
end
section
namespace Go.Pev.Pl
end Go.Pev.Pl
end
section
namespace Go.Pev.Pl
open Tok
instance (n v:Int):Decidable (In n v):=inferInstanceAs (Decidable (_∧_))
instance (n:Int):Decidable (Sz n):=inferInstanceAs (Decidable (_∧_))
theorem J6(n v:Int):AFx (n,v,())=some (decide (In n v),()):=by rw[AVm,ARq];simp only[Ao,Ab];by_cases h1:1≤n<;>by_cases h2:n≤64<;>by_cases h3:0≤v<;>simp[In,h1,h2,h3]
theorem ADK(n u v:Int):ADL (n,u,v,())=some (EM n u v,()):=by
 rw[AMY,AG0];simp only[J6,EM,As];by_cases h1:In n u;by_cases h2:In n v;by_cases h3:u=v;simp[h1,h2,h3];obtain⟨a1,a2,a3,a4⟩:=h1;obtain⟨b1,b2,b3,b4⟩:=h2;have hb:=Fz a1 a2 a3 (by omega);have e1:u*n=n*u:=Int.mul_comm _ _;have e2:n*(u+1)=n*u+n:=by rw[Asb,Asc]
 rw[e1,Ad (n:=n*u) (by omega),Ad (n:=n+n*u) (by omega),Ad (n:=n+n*u+v) (by omega),e2];have e3:n+n*u+v=n*u+n+v:=by omega
 simp[In,a1,a2,a3,a4,b3,b4,h3,e3];simp[h1,h2];simp[h1]
theorem TC(n t:Int)(ht:-9223372036854775808≤t∧t≤9223372036854775807):Pe (n,t,())=some (Nt (CD n t)):=by
 rw[Wu,Ro];simp only[J6,Ab,Ao];by_cases hi:In n t;simp only[hi,Apy,CD,AqP,Nt];simp only[hi,AqA];by_cases h1:n<1;have hs:¬ Sz n:=fun h=>by have:=h.1;omega
 simp only[h1,Apy,CD,hi,AqB,hs,ArX,Nt];simp only[h1,AqA];by_cases h2:64<n;have hs:¬ Sz n:=fun h=>by have:=h.2;omega
 simp only[h2,Apy,CD,hi,AqB,hs,ArX,Nt];have a1:1≤n:=by omega
 have a2:n≤64:=by omega
 have hb:=Fz (u:=n) a1 a2 (by omega) (by omega);have e3:n*(n+1)=n*n+n:=by rw[Asb,Asc]
 rw[Ad (n:=n*n) (by omega),Ad (n:=n+n*n) (by omega)];simp only[h2,AqA];by_cases h3:t<n;have:¬ n≤t:=by omega
 simp only[h3,Apy,CD,hi,AqB,this,ArX,and_false,Nt];simp only[h3,AqA];by_cases h4:n+n*n≤t;have:¬ t<n*(n+1):=by omega
 simp only[h4,Apy,CD,hi,AqB,this,ArX,and_false,Nt];obtain⟨d1,d2,d3⟩:=AGW (t:=t) ⟨a1,a2⟩ (by omega) (by omega);have q1:=d1.2.2.1;have q2:=d1.2.2.2;rw[Ad (n:=t-n) (by omega)];have hq:(t-n).tdiv n=t/n-1:=by rw[Aq6 (by omega)];have:=Int.add_mul_ediv_right t (-1) (show n≠0 by omega);rw[show t-n=t + -1*n by omega,this];omega
 have hm:(t-n).tmod n=t % n:=by rw[AsF (by omega)];have:=Int.add_mul_emod_self_right t (-1) n;rw[show t-n=t + -1*n by omega,this]
 simp only[h4,AqA,OT,AFM,XT,AP6];rw[Ap4 (by omega),Ap4 (by omega),hq,hm,Ad (n:=t/n-1) (by omega)];simp only[];rw[As,CD,Ap4 hi];by_cases h5:t/n-1=t % n;rw[Ap4 (by intro h;exact h.2.2.2 h5),Apr h5];rfl;rw[Ap5 ⟨⟨a1,a2⟩,by omega,by omega,h5⟩,Apo h5];rfl
theorem Tf(xs ys:List (List Int))(hs:xs.length<9223372036854775808)(hi:∀ x∈xs,x.length<9223372036854775808):QK (xs,ys,())=some (decide (xs=ys),()):=by
 rw[X1,SN,YH];by_cases hl:xs.length=ys.length;rw[Apr hl];simp only[Apx];rcases AI9 (step:=F8) (fun i=>(xs,ys,((i:Nat):Int),())) xs.length (fun i => !decide (xs.getD i []=ys.getD i [])) (fun _=>.inl (false,())) (.inr (.inl ())) hs (fun i hii=>by have hm:(xs.getD i []).length<9223372036854775808:=hi _ (by simp[hii]);rw[F8,AK,AN,Apr hii];simp (disch:=first|omega|exact hm) only[EV ([]:List Int),AO,Ou];by_cases h:xs.getD i []=ys.getD i [];rw[Apr h];simp;rw[Apo h];simp) (by rw[F8,AK,AN,Apo (by omega)])with⟨k,hk,hP,_,e⟩|⟨h,e⟩
 have e':AL F8 many (xs,ys,(0:Int),())=_:=e;rw[e'];have:xs≠ys:=Td ([]:List Int) (j:=k) (by simpa using hP);simp[this];have e':AL F8 many (xs,ys,(0:Int),())=_:=e;rw[e'];have:xs=ys:=Ha ([]:List Int) hl fun j hj=>by simpa using h j hj
 simp[this];rw[Apo hl];have:xs≠ys:=fun e=>hl (by rw[e]);simp[this]
theorem AKp(N:Nat)(hN:N≤64)(c:Int):∀ (k i n:Nat),i+k=N→k<n→AU Jx n ((N:Int),c,(N:Int),BV i,(i:Int),())=some (.inl (c,(N:Int),BV N,())):=by
 intro k;induction k with
  |zero=>
   intro i n hi hn;obtain⟨n,rfl⟩:∃ k,n=k+1:=⟨n-1,by omega⟩
   have:i=N:=by omega
   subst this;rw[AU,Jx,AN,Apo (by omega)]
  |succ k ih=>
   intro i n hi hn;obtain⟨n,rfl⟩:∃ k,n=k+1:=⟨n-1,by omega⟩
   rw[AU,Jx,AN,Apr (by omega)];simp only[AK,TG,Apw,Ap8];rw[A7 (by omega),AO (by omega)];simp only[DG,← Pm];exact ih (i+1) n (by omega) (by omega)
theorem ARY(n:Int):Xx (n,())=some (HT n):=by
 have hm:4294967296<many:=by simp only[many];omega
 rw[ACe,Xw,HT];simp only[Ab];by_cases h1:n<1;have:¬ Sz n:=fun h=>by have:=h.1;omega
 simp[h1,this];by_cases h2:64<n;have:¬ Sz n:=fun h=>by have:=h.2;omega
 simp[h1,h2,this];obtain⟨N,rfl⟩:=Ap7 (show 0≤n by omega);have hS:Sz (N:Int):=⟨by omega,by omega⟩
 have e:=AKp N (by omega) 0 N 0 many (by omega) (by omega);have e':AU Jx many ((N:Int),0,(N:Int),[],(0:Int),())=_:=e;simp[h1,h2,hS,At,e']
end Go.Pev.Pl
end
section
namespace Go.Pev.Pl
theorem L3(xs:List Int)(t:Int)(hs:xs.length<9223372036854775808):Km (xs,t,())=some (pos xs t,()):=by
 rw[XZ,R7]
 have e:=N6 (step:=IP) (fun i=>(xs,t,(i:Int),())) xs (fun x=>decide (x=t)) (fun i=>.inl ((i:Int),())) (.inr (.inl ())) hs
  (fun i x hi hx=>by
   rw[IP,AK,AN,Apr hi]
   simp only[Aa hx,As]
   by_cases h:x=t
   ·simp[h]
   ·simp only[h,AqA];rw[AO (by omega)];simp)
  (by rw[IP,AK,AN,Apo (by omega)])
 have e':AL IP many (xs,t,(0:Int),())=_:=e;rw[e',AWT,pos];by_cases h:t∈xs<;>simp[h]
instance (xs:List Int):Decidable (Rt xs):=inferInstanceAs (Decidable (_∧_∧_))
theorem I4(xs:List Int):I5 (xs,())=some (decide (Rt xs),()):=by
 rw[XR,R2,AK,Ab];by_cases hl:xs.length≤1000;rw[Apo (by omega)];simp only[];rcases AI9 (step:=Fq) (fun i=>(xs,((i:Nat):Int),())) xs.length (fun i=>decide (xs.getD i 0<0)||decide (10000<xs.getD i 0)||decide (xs.getD i 0∈xs.take i)) (fun _=>.inl (false,())) (.inr (.inl ())) (by omega) (fun i hi=>by rw[Fq,AK,AN,Apr hi];have hpl:Km (xs.take i,xs.getD i 0,())=some (pos (xs.take i) (xs.getD i 0),()):=L3 _ _ (by simp;omega);simp (disch:=omega) only[EV (0:Int),OO,hpl,AO,Ab,Ao];by_cases h1:xs.getD i 0<0;simp only[h1,Apy];simp;by_cases h2:10000<xs.getD i 0;simp only[h1,h2,Apy,AqA];simp;by_cases h3:xs.getD i 0∈xs.take i;obtain⟨k,e,_⟩:=AFP h3;rw[e];simp only[h1,h2,h3,Apy,AqA];simp;rw[Pz h3];simp only[h1,h2,h3,AqA];simp) (by rw[Fq,AK,AN,Apo (by omega)])with⟨k,hk,hP,_,e⟩|⟨h,e⟩
 have e':AL Fq many (xs,(0:Int),())=_:=e;rw[e'];have:¬ Rt xs:=by
  rintro⟨_,h1,h2⟩;have hm:xs.getD k 0∈xs:=by rw[Apu,Apz hk,AqK];exact Aq5 hk
  have:=h1 _ hm;have h3:=(QA xs).1 h2 k hk;have c1:¬ xs.getD k 0<0:=by omega
  have c2:¬ 10000<xs.getD k 0:=by omega
  rw[Apo c1,Apo c2,Apo h3]at hP;cases hP
 simp[this];have e':AL Fq many (xs,(0:Int),())=_:=e;rw[e'];have:Rt xs:=by
  have key:∀ j,j<xs.length→¬ xs.getD j 0<0∧¬ 10000<xs.getD j 0∧xs.getD j 0∉xs.take j:=fun j hj=>by have:=h j hj;rw[Bool.or_eq_false_iff,Bool.or_eq_false_iff,Aqc,Aqc,Aqc]at this;exact⟨this.1.1,this.1.2,this.2⟩
  refine⟨hl,fun x hx => ?_,(QA xs).2 fun j hj=>(key j hj).2.2⟩;obtain⟨j,hj,rfl⟩:=Aq8 hx;obtain⟨k1,k2,_⟩:=key j hj;rw[Apu,Apz hj,AqK]at k1 k2;omega
 simp[this];rw[Apr (by omega)];have:¬ Rt xs:=fun h=>hl h.1;simp[this]
theorem O9(xs:List Int)(t:Int)(hs:xs.length<9223372036854775808):Se (xs,t,())=some (JN xs t):=by rw[ACy,YX,JN];simp only[L3 xs t hs,I4];by_cases hr:Rt xs;have hl:=hr.1;simp only[hr,Apy,Apx,Arx];by_cases h:t∈xs;have hk:xs.findIdx (fun x=>decide (x=t))<xs.length:=Ara.2 ⟨t,h,by simp⟩;rw[pos,Ap5 h,Ap5 h,A2,rot];generalize xs.findIdx (fun x=>decide (x=t))=k at *;rw[Ab,Apo (by omega)];simp only[IE (ArC hk),OO (ArC hk)];rw[A7 (by simp only[AK,Ap8,Aq3];omega)];simp only[];rw[A7 (by simp only[AK,DG,AqI,Aqn,Aq3];omega)];simp only[DG,AqI];rw[Pz h,Ap4 h,Ab];simp;simp[hr]
theorem TO(xs:List Int):P1 (xs,())=some (plain xs,()):=by
 rw[XW,R5,plain];simp only[I4];by_cases hr:Rt xs;have hl:=hr.1;simp only[hr,Apy,Apx,Arx];cases xs with
  |nil=>simp[AK,Db]
  |cons x xs=>
   rw[AK,As,Apo (by simp only[Apw];omega)];have i0:idx (x::xs) (0:Int)=some x:=by rw[Gr];rfl
   simp only[i0]
   have e:=CC (step:=IM) (fun i (a:Int)=>(x::xs,a,(i:Int),())) (x::xs) (fun y a=>.inl (Bs a y)) (fun a=>.inl (x::xs,a,())) (fun _ _=>True) (by omega)
    (fun i y a hi hy _=>by
     refine⟨fun m' h' => ?_,fun r h'=>by cases h'⟩
     cases h'
     rw[IM,AK,AN,Apr hi]
     simp only[Aa hy]
     rw[AO (by omega)]
     exact⟨rfl,trivial⟩)
    (fun a _=>by rw[IM,AK,AN,Apo (by omega)]) x trivial
   have e':AL IM many (x::xs,x,(0:Int),())=_:=e;rw[e',BD];have hmin:(x::xs).foldl (fun a y=>Bs a y) x=Gm (x::xs):=by
    rw[AqY,Gm];have:Bs x x=x:=by rw[Bs];split<;>rfl
    rw[this]
   rw[hmin];have hm:=(Ew (xs:=x::xs) (by simp)).1;simp only[O9 (x::xs) _ (by omega),JN,hr,hm,and_self,AqP];simp
 simp[hr]
end Go.Pev.Pl
end
section
namespace Go.Pev.Pl
open Tok
noncomputable instance (n:Int) (xs:List Int):Decidable (TI n xs):=Classical.propDecidable _
end Go.Pev.Pl
end
section
namespace Go.Pev.Pl
open Tok
theorem AEu(n t u:Int)(ht:-9223372036854775808≤t∧t≤9223372036854775807):Ph (n,t,u,())=some (Kf n t u,()):=by
 rw[TE,OP,Kf];simp only[TC n t ht,As];cases CD n t with
  |none=>rfl
  |some x=>cases x with
   |ver v=>
    by_cases h:v=u<;>simp[Nt,st,h]
   |arc p q=>
    by_cases h:q=u<;>simp[Nt,st,h]
end Go.Pev.Pl
end
section
namespace Go.Pev.Pl
open Tok
theorem AjS(n:Int)(l:List Int)(i:Nat)(hi:i<l.length)(hl:l.length<1073741824)(d5 d6 d7 d8:Bool)(d9 d10:Int)(d11:Bool)(d12 d13 d14 d15 d16:Int)(d17:Bool)(d18 d19 d20 d21 d22 d23 d24 d25 d26:Int)(d27:Bool):
  ∀ (m k cnt:Nat) (acc:List Int),k+m=l.length→acc.length≤k→m<cnt →
  AU Jn cnt (n,l,(i:Int),acc,(k:Int),d5,d6,d7,d8,d9,d10,d11,d12,d13,d14,d15,d16,d17,d18,d19,d20,d21,d22,d23,d24,d25,d26,d27,()) =
   some (.inl (n,(i:Int),acc++(List.range' k m).map (fun k=>l.getD ((i+k) % l.length) 0),d5,d6,d7,d8,d9,d10,d11,d12,d13,d14,d15,d16,d17,d18,l,d19,d20,d21,d22,d23,d24,d25,d26,d27,())):=by
 intro m;induction m with
  |zero=>
   intro k cnt acc hk ha hc;obtain⟨cnt,rfl⟩:∃ c,cnt=c+1:=⟨cnt-1,by omega⟩
   rw[AU,Jn,AK,AN,Apo (by omega)];simp
  |succ m ih=>
   intro k cnt acc hk ha hc;obtain⟨cnt,rfl⟩:∃ c,cnt=c+1:=⟨cnt-1,by omega⟩
   have hm:(i+k) % l.length<l.length:=ArU _ (by omega);rw[AU,Jn,AK,AN,Apr (by omega)];simp only[];rw[wrap_add (by omega),HR (by omega)];simp only[EV (0:Int) hm,LL];rw[A7 (by simp only[AK,Apw,Ap8];omega),AO (by omega)];simp only[DG];rw[ih (k+1) cnt _ (by omega) (by simp;omega) (by omega)];simp[ArF]
theorem AO5(n:Int)(l:List Int)(i:Nat)(hi:i<l.length)(h1:1<l.length)(hl:l.length<1073741824)(hr:∀ x∈l, -9223372036854775808≤x∧x≤9223372036854775807):
  D3 (n,l,false,(i:Int),())=if Ky n l i then some (.inl (n,Fs l i,true,((i+1:Nat):Int),()))else some (.inl (n,l,false,((i+1:Nat):Int),())):=by
 have hmany:4294967296<many:=by simp only[many];omega
 have m1:(i+1) % l.length<l.length:=ArU _ (by omega);have m2:(i+2) % l.length<l.length:=ArU _ (by omega);have m0:(i+l.length-1) % l.length<l.length:=ArU _ (by omega);have hin:∀ {k:Nat},k<l.length→l.getD k 0∈l:=fun {k} hk=>by rw[Apu,Apz hk,AqK];exact Aq5 hk
 have w2:IntKind.wrap .i64 ((i:Int)+2)=((i+2:Nat):Int):=by rw[Ad (by omega)];omega
 have w3:IntKind.wrap .i64 ((i:Int)+(l.length:Int))=((i+l.length:Nat):Int):=wrap_add (by omega);have w4:IntKind.wrap .i64 (((i+l.length:Nat):Int)-1)=((i+l.length-1:Nat):Int):=A8 (by omega);have f4:ile (4:Int) (l.length:Int)=decide (4≤l.length):=by rw[Ao];by_cases h:4≤l.length;rw[Apr h,Apr (by omega)];rw[Apo h,Apo (by omega)]
 rw[D3,AK,AN,Apr hi];simp only[Aqb,EV (0:Int) hi];rw[AO (by omega),w2,HR (by omega),HR (by omega)];simp only[EV (0:Int) m1,EV (0:Int) m2,LL,TC n _ (hr _ (hin hi)),f4,Ky];by_cases h4:4≤l.length;simp only[h4,Apy,Ase];cases ht:CD n (l.getD i 0)with
  |none=>rfl
  |some t=>
   cases t with
    |ver v=>rfl
    |arc u v=>simp only[Nt,As,ADK];by_cases c1:l.getD ((i+1) % l.length) 0=v;simp only[c1,Apy,Ase];by_cases c2:l.getD ((i+2) % l.length) 0=EM n v u;simp only[c2,Apy,Ase,w3,w4];rw[HR (by omega)];simp only[EV (0:Int) m0,LL,AEu n _ u (hr _ (hin m0))];cases Kf n (l.getD ((i+l.length-1) % l.length) 0) u;rfl;simp only[AqP,At];have e:=AjS n l i hi hl false true true true v v true (EM n v u) n v u (EM n v u) true n (i:Int) (l.length:Int) ((i+l.length:Nat):Int) ((i+l.length-1:Nat):Int) (l.length:Int) (((i+l.length-1) % l.length:Nat):Int) (l.getD ((i+l.length-1) % l.length) 0) u true (l.length-3) 3 many [] (by omega) (by simp) (by omega);have e':AU Jn many (n,l,(i:Int),[],(3:Int),_)=_:=e;simp only[e',AO (show i+1<9223372036854775808 by omega)];rfl;simp only[c2,AqA,Ar9,AqC,AqB];simp only[c1,AqA,Ar9,AqC,AqB]
 simp only[h4,AqA,Ar9,AqC,AqB]
theorem AjT(n:Int)(l:List Int)(h1:1<l.length)(hl:l.length<1073741824)(hr:∀ x∈l, -9223372036854775808≤x∧x≤9223372036854775807):
  ∀ (m i cnt:Nat),i+m=l.length→m+1<cnt →
  (∃ k,k<l.length∧Ky n l k=true∧AU D3 cnt (n,l,false,(i:Int),())=some (.inl (n,Fs l k,true,()))) ∨
  ((∀ k,i≤k→k<l.length→Ky n l k=false)∧AU D3 cnt (n,l,false,(i:Int),())=some (.inl (n,l,false,()))):=by
 intro m;induction m with
  |zero=>
   intro i cnt hi hc;obtain⟨cnt,rfl⟩:∃ c,cnt=c+1:=⟨cnt-1,by omega⟩
   right;refine⟨fun k q1 q2=>by omega,?_⟩;rw[AU,D3,AK,AN,Apo (by omega)]
  |succ m ih=>
   intro i cnt hi hc;obtain⟨cnt,rfl⟩:∃ c,cnt=c+1:=⟨cnt-1,by omega⟩
   rw[AU,AO5 n l i (by omega) h1 hl hr];cases hlf:Ky n l i;simp only[AqC,AqB];rcases ih (i+1) cnt (by omega) (by omega)with h|⟨h,e⟩
   exact .inl h;refine .inr ⟨fun k q1 q2 => ?_,e⟩;by_cases ek:k=i;rw[ek];exact hlf;exact h k (by omega) q2;simp only[AqP];obtain⟨cnt,rfl⟩:∃ c,cnt=c+1:=⟨cnt-1,by omega⟩
   refine .inl ⟨i,by omega,hlf,?_⟩;rw[AU,D3];cases ilt ((i+1:Nat):Int) (AH (Fs l i))<;>rfl
theorem AjU(n:Int):∀ (m:Nat) (l:List Int) (cnt:Nat),l.length=m→l.length<1073741824→(∀ x∈l, -9223372036854775808≤x∧x≤9223372036854775807)→l.Nodup→m<cnt →
  (¬ TI n l∧AU NB cnt (n,l,())=some (.inl (false,()))) ∨
  ∃ l',AU NB cnt (n,l,())=some (.inr (.inl (n,l',())))∧l'.length≤1∧(TI n l↔TI n l'):=by
 intro m;induction m using Nat.strongRecOn with
  |_ m ih=>
   intro l cnt hm hl hr hn hc;have hmany:4294967296<many:=by simp only[many];omega
   obtain⟨cnt,rfl⟩:∃ c,cnt=c+1:=⟨cnt-1,by omega⟩
   rw[AU,NB,AK,Ab];by_cases h1:1<l.length;rw[Apr (by omega)];simp only[At];rcases AjT n l h1 hl hr l.length 0 many (by omega) (by omega)with⟨k,k1,k2,e⟩|⟨k1,e⟩
   have e':AU D3 many (n,l,false,(0:Int),())=_:=e;simp only[e',Apx];have hred:=ARi k1 k2;have hiff:=AnN hred hn;have hlen:(Fs l k).length=l.length-3:=by simp[Fs]
   rcases ih (l.length-3) (by omega) (Fs l k) cnt hlen (by omega) (fun x hx=>hr x (AP2 k1 x hx)) (AY5 hred hn) (by omega)with⟨q1,q2⟩|⟨l',q1,q2,q3⟩
   exact .inl ⟨fun h=>q1 (hiff.1 h),q2⟩;exact .inr ⟨l',q1,q2,hiff.trans q3⟩;have e':AU D3 many (n,l,false,(0:Int),())=_:=e;simp only[e',Aqb];refine .inl ⟨fun h => ?_,by trivial⟩;obtain⟨l',hl'⟩:=Aon h h1;obtain⟨i,i1,i2⟩:=AQA hl';rw[k1 i (by omega) i1]at i2;cases i2;rw[Apo (by omega)];exact .inr ⟨l,rfl,by omega,Iff.rfl⟩
theorem AO6(n:Int)(l:List Int)(hl:l.length<1073741824)(hr:∀ x∈l, -9223372036854775808≤x∧x≤9223372036854775807)(hn:l.Nodup):AEj (n,l,())=some (decide (TI n l),()):=by
 have hmany:4294967296<many:=by simp only[many];omega
 rw[ABe,Ws,A7 (by simp only[AK,Ap8];omega)];simp only[DG,AqI,At];rcases AjU n l.length l many rfl hl hr hn (by omega)with⟨q1,q2⟩|⟨l',q1,q2,q3⟩
 rw[q2,Apo q1];rw[q1];simp only[AK,As];match l',q2,q3 with
 |[],_,q3=>
  have:¬ TI n l:=fun h=>Aie n (q3.1 h)
  simp[this]
 |[t],_,q3=>
  rw[Aid]at q3
  have i0:idx [t] (0:Int)=some t:=by rw[Gr];rfl
  have d0:AJ [t] 0 (0:Int)=t:=rfl
  rw[Apr (by simp)]
  simp only[i0,d0,J6]
  by_cases h:In n t
  ·rw[Apr h,Apr (q3.2 h)]
  ·rw[Apo h,Apo (fun h2=>h (q3.1 h2))]
end Go.Pev.Pl
end
section
namespace Go.Pev.Pl
open Tok
noncomputable instance (n:Int) (rings:List (List Int)):Decidable (RF n rings):=Classical.propDecidable _
noncomputable instance (n:Int) (xs:List Int):Decidable (RG n xs):=Classical.propDecidable _
end Go.Pev.Pl
end
end
