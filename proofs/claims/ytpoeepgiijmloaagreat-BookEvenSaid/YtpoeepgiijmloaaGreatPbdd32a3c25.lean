/- A part of the proofs of this seat: GTP12 GTP13 GTP14 GTP15 GTX1 GTM4 GTM5 GTP16 GTP17 GTP18 GTP19 GTP20 GTP21 GTX2 GTM6 GTM Pln PlnB T18a T18b T18c PlnM NKA T18d PevClaim NKB NKC T19a NKD. -/
import Derived.Test.YtpoeepgiijmloaaGreatP18dadc6729
import Derived.Test.YtpoeepgiijmloaaGreatProg
import Derived.IntWalk
import Derived.Sort.AssemblyPlain
import Derived.ProofKit
import Derived.ChangeArms
import Derived.ReadAgain
import Derived.Deep.Slices
import Derived.OpenShut
import Derived.KernelRfl
set_option linter.unusedVariables false
set_option linter.unusedSimpArgs false
set_option linter.unusedSectionVars false
set_option maxRecDepth 100000
section
namespace Go.Pev
open Go.Proofs
noncomputable section
theorem AKL : (Tryz.f81.name == "runtime.NumGoroutine") = false := by kernel_rfl
theorem lV:Hb Tryz.prog Tryz.f81 22 61 (.prod (.int .i64) (.prod (.int .i64) (.prod (.int .i64) (.prod .bool .unit)))) where
 body:=by kernel_rfl
 nt:=by kernel_rfl
 res:=by kernel_rfl
 d:=⟨by kernel_rfl,by kernel_rfl,by kernel_rfl,by kernel_rfl,by kernel_rfl,by kernel_rfl,by kernel_rfl,by kernel_rfl⟩
 g:=⟨by kernel_rfl,by kernel_rfl,by kernel_rfl,by kernel_rfl,by kernel_rfl,by kernel_rfl,by kernel_rfl,by kernel_rfl⟩
 o00:=by kernel_rfl
 o10:=by kernel_rfl
 o11:=by kernel_rfl
 o20:=by kernel_rfl
 o30:=by kernel_rfl
 o31:=by kernel_rfl
 o32:=by kernel_rfl
 o33:=by kernel_rfl
 sl:=by kernel_rfl
 z:=by kernel_rfl
 by1:=by kernel_rfl
def sJ[Lk]:Env:=ZD.e.ext 81 true true (Eh 61 (.prod (.int .i64) (.prod (.int .i64) (.prod (.int .i64) (.prod .bool .unit)))))
theorem sI:Bp Tryz.prog sJ:=Env.Ce ZD.h (Od lV Tryz.func81 AKL) (fun _=>CQ _ _) (fun _=>(CQ _ _).AAj)
def ANW:=Chn.g ⟨sJ,sI⟩ ⟨224,0,0,2,0,none,Nb,[(.ret,BN)],A8,[],[]⟩ C9 Tryz.func224 px
def AQa:=Chn.g ANW ⟨218,0,1,3,0,none,E0,[(.ret,Jh)],Bv,[(4,[[],[],[],[],[],[],[0],[0],[],[],[],[0],[0]]),(6,[[],[],[],[],[],[],[],[],[0],[0],[],[],[0],[0],[0],[1],[0],[1]])],[(0,ANm,kD),(1,ANl,ANk)]⟩ ARd Tryz.func218 ANn
def AMH:=Chn.g AQa ⟨244,0,1,4,0,none,KM,[(.ret,Jh)],Bv,[(6,[[],[],[],[],[],[],[],[],[],[],[],[],[0],[0],[],[],[],[],[0],[0],[0],[1],[0],[1]]),(5,[[],[],[],[],[0],[0],[],[],[],[],[0],[0]]),(3,[[],[],[],[],[],[],[],[],[],[0],[0],[],[],[],[],[],[0],[0]])],[(0,AGa,AGZ)]⟩ API Tryz.func244 AGb
def AN1:=Chn.g AMH ⟨219,0,1,3,0,none,E0,[(.ret,Jh)],Bv,[(10,[[],[],[],[],[],[],[],[],[],[],[0],[0],[],[],[0],[0],[0],[1],[0],[1]])],[(0,AJJ,AJH),(1,AJI,AJG)]⟩ APS Tryz.func219 AJK
def ACR:=Chn.g AN1 ⟨255,0,2,4,0,none,ACP,[(.ret,ACO)],BZ,[(1,[[],[],[0],[0],[],[],[0],[0]])],[]⟩ ym Tryz.func255 vH
def ACo:=Chn.g ACR ⟨246,0,2,5,0,none,ACm,[(.ret,fU)],A8,[],[]⟩ zB Tryz.func246 vX
def AC0:=Chn.g ACo ⟨245,0,2,3,0,none,ACy,[(.ret,fU)],A8,[],[]⟩ zF Tryz.func245 vc
def AHh:=Chn.g AC0 ⟨221,0,1,3,0,none,E0,[(.ret,AHf)],BZ,[],[]⟩ AHi Tryz.func221 ABk
def APs:=Chn.g AHh ⟨222,0,1,3,0,none,E0,[(.ret,Jh)],Bv,[(3,[[],[],[],[],[],[],[0],[0],[],[],[0],[0],[0],[1],[0],[1]])],[(0,AMW,kD)]⟩ ARN Tryz.func222 AMX
def ui:=Chn.g APs ⟨223,0,1,3,0,none,E0,[(.ret,yK)],A8,[(11,[[],[],[],[],[],[],[],[],[0],[0],[],[],[0],[0],[0],[1],[0],[1]]),(5,[[],[],[],[],[],[],[0],[0],[],[],[],[0],[0]]),(17,[[],[],[],[],[],[],[],[],[0],[0],[],[],[0],[0],[0],[1],[0],[1]]),(16,[[],[],[0],[0],[],[],[],[0],[0]]),(23,[[],[],[],[],[],[],[],[],[0],[0],[],[],[0],[0],[0],[1],[0],[1]]),(22,[[],[],[0],[0],[],[],[],[0],[0]])],[(0,Wj,pC),(1,Wj,oz),(2,pE,oy),(3,pD,ox)]⟩ pG Tryz.func223 pF
def ACA:=Chn.g ui ⟨225,0,1,4,0,none,KM,[(.ret,nU)],A8,[(8,[[],[],[],[],[],[],[0],[0],[],[],[0],[0],[0],[1],[0],[1]]),(3,[[],[],[],[],[],[],[0],[0],[],[],[0],[0]]),(5,[[],[],[],[],[],[],[0],[0],[],[],[0],[0]]),(1,[[],[],[],[],[],[],[0],[0],[],[],[0],[0],[0],[1],[0],[1]])],[(0,Qf,u7),(1,Qf,u6),(2,Qf,u5)]⟩ yi Tryz.func225 u9
def ANC:=Chn.g ACA ⟨226,0,1,4,0,none,KM,[(.ret,ANA)],BZ,[(3,[[],[],[],[],[],[],[0],[0],[],[],[0],[0]]),(5,[[],[],[],[],[],[],[0],[0],[],[],[0],[0]]),(18,[[],[],[],[],[],[],[0],[0],[],[],[0],[0],[0],[1],[0],[1]]),(13,[[],[],[],[],[],[],[0],[0],[],[],[0],[0]]),(15,[[],[],[],[],[],[],[0],[0],[],[],[0],[0]]),(21,[[],[],[],[],[],[],[0],[0],[],[],[0],[0],[0],[1],[0],[1]]),(10,[[],[],[],[],[],[],[0],[0],[],[],[0],[0],[0],[1],[0],[1]]),(8,[[],[],[],[],[],[],[0],[0],[],[],[0],[0],[0],[1],[0],[1]]),(1,[[],[],[],[],[],[],[0],[0],[],[],[0],[0],[0],[1],[0],[1]])],[(0,Nz,AIE),(1,Nz,AID),(2,Nz,AIC),(3,Nz,AIB),(4,Nz,AIA)]⟩ APN Tryz.func226 AIF
def AQ1:=Chn.g ANC ⟨87,0,0,3,0,some (2,38),AQ0,[(.ret,xd)],BZ,[(5,[[],[],[],[],[],[0]]),(8,[[],[],[],[],[],[],[],[],[],[],[0]])],[(0,AOo,AOn)]⟩ AKn Tryz.func87 zt
def SX:=Chn.g AQ1 ⟨55,0,0,3,0,none,N9,[(.ret,xd)],BZ,[],[]⟩ vh Tryz.func55 fX
theorem vT:Tryz.f156.body.isSome=true:=by kernel_rfl
theorem vS : (Tryz.f156.name == "runtime.NumGoroutine") = false := by kernel_rfl
theorem vR:loops (CN Tryz.f156)=0:=by kernel_rfl
def QD[Lk]:Env:=SX.e.ext 156 false false (CZ Tryz.prog SX.e {} Tryz.f156)
theorem WK:Bp Tryz.prog QD:=Env.Ce SX.h (CD SX.h Tryz.func156 vT vS vR) (by simp) (by simp)
def aj:=Chn.g ⟨QD,WK⟩ ⟨68,0,2,2,0,some (1,156),OG,[(.ret,ai)],A8,[],[(0,XY,XX)]⟩ Mh Tryz.func68 ND
def AN5:=Chn.g aj ⟨88,0,0,2,0,none,AN4,[(.ret,zM)],A8,[],[]⟩ zN Tryz.func88 qH
def PW:=Chn.g AN5 ⟨57,0,0,1,0,none,AEe,[(.ret,zM)],A8,[],[(0,xG,xE),(1,xF,xD)]⟩ TH Tryz.func57 br
theorem AHP:Tryz.f91.body.isSome=true:=by kernel_rfl
theorem AHO : (Tryz.f91.name == "runtime.NumGoroutine") = false := by kernel_rfl
theorem AHN:loops (CN Tryz.f91)=0:=by kernel_rfl
theorem AQM:Tryz.f90.body.isSome=true:=by kernel_rfl
theorem AQL : (Tryz.f90.name == "runtime.NumGoroutine") = false := by kernel_rfl
theorem AQK:loops (CN Tryz.f90)=0:=by kernel_rfl
theorem AET:Tryz.f152.body.isSome=true:=by kernel_rfl
theorem AES : (Tryz.f152.name == "runtime.NumGoroutine") = false := by kernel_rfl
theorem AER:loops (CN Tryz.f152)=0:=by kernel_rfl
def Td[Lk]:Env:=PW.e.ext 152 false false (CZ Tryz.prog PW.e {} Tryz.f152)
theorem Xo:Bp Tryz.prog Td:=Env.Ce PW.h (CD PW.h Tryz.func152 AET AES AER) (by simp) (by simp)
def En:=Chn.g ⟨Td,Xo⟩ ⟨68,0,1,2,0,some (1,152),Kb,[(.ret,Sl)],A8,[],[(0,Q0,Qz)]⟩ IQ Tryz.func68 Jn
theorem AQ8:Tryz.f119.body.isSome=true:=by kernel_rfl
theorem AQ7 : (Tryz.f119.name == "runtime.NumGoroutine") = false := by kernel_rfl
theorem AQ6:loops (CN Tryz.f119)=0:=by kernel_rfl
def gu[Lk]:Env:=En.e.ext 119 false false (CZ Tryz.prog En.e {} Tryz.f119)
theorem mg:Bp Tryz.prog gu:=Env.Ce En.h (CD En.h Tryz.func119 AQ8 AQ7 AQ6) (by simp) (by simp)
def TD:=Chn.g ⟨gu,mg⟩ ⟨118,0,2,2,0,some (1,119),AKI,[(.ret,AKH)],A8,[],[(0,AEb,AEa)]⟩ bo Tryz.func118 gT
theorem AQ5:Tryz.f120.body.isSome=true:=by kernel_rfl
theorem AQ4 : (Tryz.f120.name == "runtime.NumGoroutine") = false := by kernel_rfl
theorem AQ3:loops (CN Tryz.f120)=0:=by kernel_rfl
def gr[Lk]:Env:=TD.e.ext 120 false false (CZ Tryz.prog TD.e {} Tryz.f120)
theorem mf:Bp Tryz.prog gr:=Env.Ce TD.h (CD TD.h Tryz.func120 AQ5 AQ4 AQ3) (by simp) (by simp)
def AKG:=Chn.g ⟨gr,mf⟩ ⟨118,0,0,2,0,some (1,120),AKF,[(.ret,BW)],A8,[],[(0,AEZ,AEY)]⟩ lQ Tryz.func118 gS
def AAO:=Chn.g AKG ⟨98,0,0,2,0,none,AAN,[(.ret,xd)],BZ,[],[]⟩ xo Tryz.func98 sP
def AOL:=Chn.g AAO ⟨83,0,0,2,0,none,aN,[(.ret,BW)],A8,[],[]⟩ C_ Tryz.func83 qN
def AQW:=Chn.g AOL ⟨143,0,1,4,0,some (3,83),VC,[(.ret,Jf)],Bv,[(4,[[],[],[],[],[],[],[],[0],[0],[],[],[],[0],[0]]),(6,[[],[],[],[],[],[],[],[],[0],[0],[],[],[0],[0],[0],[1],[0],[1]])],[(0,ANe,kB),(1,ANd,ANc)]⟩ ARb Tryz.func143 ANf
def AMD:=Chn.g AQW ⟨190,0,1,5,0,some (4,83),KK,[(.ret,Jf)],Bv,[(6,[[],[],[],[],[],[],[],[],[],[],[],[],[0],[0],[],[],[],[],[0],[0],[0],[1],[0],[1]]),(5,[[],[],[],[],[],[0],[0],[],[],[],[],[0],[0]]),(3,[[],[],[],[],[],[],[],[],[],[],[0],[0],[],[],[],[],[],[0],[0]])],[(0,AGU,AGT)]⟩ APG Tryz.func190 AGV
def ANx:=Chn.g AMD ⟨144,0,1,4,0,some (3,83),VC,[(.ret,Jf)],Bv,[(10,[[],[],[],[],[],[],[],[],[],[],[0],[0],[],[],[0],[0],[0],[1],[0],[1]])],[(0,AI9,AI7),(1,AI8,AI6)]⟩ APQ Tryz.func144 AJA
def ACI:=Chn.g ANx ⟨217,0,2,5,0,some (4,83),ACG,[(.ret,ACF)],BZ,[(1,[[],[],[],[0],[0],[],[],[0],[0]])],[]⟩ yk Tryz.func217 vF
def ACi:=Chn.g ACI ⟨194,0,2,6,0,some (5,83),ACg,[(.ret,fS)],A8,[],[]⟩ yz Tryz.func194 vV
def ACu:=Chn.g ACi ⟨193,0,2,4,0,some (3,83),ACs,[(.ret,fS)],A8,[],[]⟩ zD Tryz.func193 va
def AHZ:=Chn.g ACu ⟨146,0,1,4,0,some (3,83),VC,[(.ret,AHX)],BZ,[],[]⟩ AHa Tryz.func146 ABi
def APo:=Chn.g AHZ ⟨147,0,1,4,0,some (3,83),VC,[(.ret,Jf)],Bv,[(3,[[],[],[],[],[],[],[0],[0],[],[],[0],[0],[0],[1],[0],[1]])],[(0,AMS,kB)]⟩ ARL Tryz.func147 AMT
def ud:=Chn.g APo ⟨148,0,1,4,0,some (3,83),VC,[(.ret,ub)],A8,[(11,[[],[],[],[],[],[],[],[],[0],[0],[],[],[0],[0],[0],[1],[0],[1]]),(5,[[],[],[],[],[],[],[],[0],[0],[],[],[],[0],[0]]),(17,[[],[],[],[],[],[],[],[],[0],[0],[],[],[0],[0],[0],[1],[0],[1]]),(16,[[],[],[],[0],[0],[],[],[],[0],[0]]),(23,[[],[],[],[],[],[],[],[],[0],[0],[],[],[0],[0],[0],[1],[0],[1]]),(22,[[],[],[],[0],[0],[],[],[],[0],[0]])],[(0,Wh,oa),(1,Wh,oZ),(2,od,oY),(3,oc,oX)]⟩ og Tryz.func148 oe
def AB5:=Chn.g ud ⟨149,0,1,5,0,some (4,83),KK,[(.ret,AB3)],A8,[(8,[[],[],[],[],[],[],[0],[0],[],[],[0],[0],[0],[1],[0],[1]]),(3,[[],[],[],[],[],[],[],[0],[0],[],[],[0],[0]]),(5,[[],[],[],[],[],[],[],[0],[0],[],[],[0],[0]]),(1,[[],[],[],[],[],[],[0],[0],[],[],[0],[0],[0],[1],[0],[1]])],[(0,Qd,uu),(1,Qd,ur),(2,Qd,uq)]⟩ yg Tryz.func149 uv
def AM7:=Chn.g AB5 ⟨150,0,1,5,0,some (4,83),KK,[(.ret,AM5)],BZ,[(3,[[],[],[],[],[],[],[],[0],[0],[],[],[0],[0]]),(5,[[],[],[],[],[],[],[],[0],[0],[],[],[0],[0]]),(18,[[],[],[],[],[],[],[0],[0],[],[],[0],[0],[0],[1],[0],[1]]),(13,[[],[],[],[],[],[],[],[0],[0],[],[],[0],[0]]),(15,[[],[],[],[],[],[],[],[0],[0],[],[],[0],[0]]),(21,[[],[],[],[],[],[],[0],[0],[],[],[0],[0],[0],[1],[0],[1]]),(10,[[],[],[],[],[],[],[0],[0],[],[],[0],[0],[0],[1],[0],[1]]),(8,[[],[],[],[],[],[],[0],[0],[],[],[0],[0],[0],[1],[0],[1]]),(1,[[],[],[],[],[],[],[0],[0],[],[],[0],[0],[0],[1],[0],[1]])],[(0,Nw,AH2),(1,Nw,AH1),(2,Nw,AH0),(3,Nw,AHz),(4,Nw,AHy)]⟩ APL Tryz.func150 AH3
def AN8:=Chn.g AM7 ⟨78,0,0,2,0,none,SS,[(.ret,BN)],A8,[],[]⟩ zP Tryz.func78 qJ
def lH:=Chn.g AN8 ⟨31,0,3,2,8,some (1,33),So,[(.ret,lG)],A8,[],[(0,dX,dW)]⟩ My Tryz.func31 QA
def vz:=Chn.g lH ⟨47,0,0,1,0,none,BW,[(.ret,BN)],A8,[],[]⟩ OI Tryz.func47 Ww
def WS:=Chn.g vz ⟨65,0,0,1,0,none,BW,[(.ret,BN)],A8,[],[]⟩ wb1 Tryz.func65 APf
set_option maxHeartbeats 8000000
attribute [local irreducible] A4 A_ B6 DA KE ED A3 Ci C7 imax idx Dd ilt ile ieq seq? quo? rem? shl? shr? fits Cq IntKind.wrap A7 BF SC pd Be Xb A9 many RH
abbrev AWQ:Loc×Con:=(.cell 0 0,.dat (.slice (.int .u8)))
abbrev AWR:Loc×Con:=(.tmp 0,.box 2)
abbrev Hr:A0:=[AWR,AWQ,AVS,(.tmp 1,.clo 65 [])]
abbrev Hq:A0:=[AA,As,AWQ,AVS]
abbrev JB:List RS:=[.one]
abbrev NO:A0:=[As]
def YX[Lk]:Hints:={ fp:=Sx [(1,[[],[0],[0],[0],[],[0],[0],[0]]),(3,[[],[0],[0],[0],[],[0],[0],[0]])] }
def Ti[Lk](v:Bf (leaves Hr)):Option (Bf (leaves Hq)⊕(List Int×Bf (leaves NO))):=Lk.f (DU 1 Tryz.prog WS.e YX Tryz.f64 Hr Hq JB 105 [.i64,.i64] NO v)
theorem eB(v):Ti v=DU 1 Tryz.prog WS.e YX Tryz.f64 Hr Hq JB 105 [.i64,.i64] NO v:=A1 _
theorem Rf:Bu Tryz.prog 1 YX (CN Tryz.f64) 0:=DO _ 0 (by kernel_rfl)
theorem AAS:Hn Tryz.prog 64 (Bc 1 2 Hr Hq JB fun x=>Df (Ti x)) (IW 1 2 Hr Hq JB 105 [.i64,.i64] NO Ti):=LO WS.h.1 WS.h.2.1 WS.h.2.2 Tryz.func64 (Gq (by kernel_rfl)) (Cg Tryz.func64 (by kernel_rfl) (by kernel_rfl)) (AS9 rfl) eB Rf
theorem AAR:BT Tryz.prog 64 (Bc 1 2 Hr Hq JB fun x=>Df (Ti x)):=LM WS.h Tryz.func64 (by kernel_rfl) (by kernel_rfl) rfl eB Rf
def TZ[Lk]:Env:=Env.W2 WS.e 64 1 65 (Bc 1 2 Hr Hq JB fun x=>Df (Ti x)) (IW 1 2 Hr Hq JB 105 [.i64,.i64] NO Ti)
theorem IJ:Bp Tryz.prog TZ:=Env.qW WS.h AAR AAS (Ct rfl rfl)
abbrev Hp:A0:=[AWR,AWQ,AVS,(.tmp 1,.clo 67 [])]
abbrev Ho:A0:=[AA,As,AWQ,AVS]
abbrev JA:List RS:=[.one]
abbrev NN:A0:=[As]
def YW[Lk]:Hints:={ fp:=Sx [(1,[[],[0],[0],[0],[],[0],[0],[0]]),(3,[[],[0],[0],[0],[],[0],[0],[0]])] }
def Th[Lk](v:Bf (leaves Hp)):Option (Bf (leaves Ho)⊕(List Int×Bf (leaves NN))):=Lk.f (DU 1 Tryz.prog TZ YW Tryz.f64 Hp Ho JA 105 [.i64,.i64] NN v)
theorem dz(v):Th v=DU 1 Tryz.prog TZ YW Tryz.f64 Hp Ho JA 105 [.i64,.i64] NN v:=A1 _
theorem Re:Bu Tryz.prog 1 YW (CN Tryz.f64) 0:=DO _ 0 (by kernel_rfl)
theorem AAQ:Hn Tryz.prog 64 (Bc 1 2 Hp Ho JA fun x=>Df (Th x)) (IW 1 2 Hp Ho JA 105 [.i64,.i64] NN Th):=LO IJ.1 IJ.2.1 IJ.2.2 Tryz.func64 (Gq (by kernel_rfl)) (Cg Tryz.func64 (by kernel_rfl) (by kernel_rfl)) (AS9 rfl) dz Re
theorem AAP:BT Tryz.prog 64 (Bc 1 2 Hp Ho JA fun x=>Df (Th x)):=LM IJ Tryz.func64 (by kernel_rfl) (by kernel_rfl) rfl dz Re
def TY[Lk]:Env:=Env.W2 TZ 64 1 67 (Bc 1 2 Hp Ho JA fun x=>Df (Th x)) (IW 1 2 Hp Ho JA 105 [.i64,.i64] NN Th)
theorem II:Bp Tryz.prog TY:=Env.qW IJ AAP AAQ (Ct rfl rfl)
abbrev KH:A0:=[AWR,AWQ,AVS]
abbrev KG:A0:=[AA,As,AWQ,AVS]
abbrev Ly:List RS:=[.one]
abbrev Rc:A0:=[As]
def hQ[Lk]:Hints:={ fp:=Sx [(1,[[],[0],[0],[0],[],[0],[0],[0]])] }
def dw[Lk](v:Bf (leaves KH)):Option (Bf (leaves KG)⊕(List Int×Bf (leaves Rc))):=Lk.f (DU 1 Tryz.prog TY hQ Tryz.f66 KH KG Ly 105 [.i64,.i64] Rc v)
theorem ml(v):dw v=DU 1 Tryz.prog TY hQ Tryz.f66 KH KG Ly 105 [.i64,.i64] Rc v:=A1 _
theorem WQ:Bu Tryz.prog 1 hQ (CN Tryz.f66) 0:=DO _ 0 (by kernel_rfl)
theorem AFX:Hn Tryz.prog 66 (Bc 1 1 KH KG Ly fun x=>Df (dw x)) (IW 1 1 KH KG Ly 105 [.i64,.i64] Rc dw):=LO II.1 II.2.1 II.2.2 Tryz.func66 (Gq (by kernel_rfl)) (Cg Tryz.func66 (by kernel_rfl) (by kernel_rfl)) (AS9 rfl) ml WQ
theorem AFW:BT Tryz.prog 66 (Bc 1 1 KH KG Ly fun x=>Df (dw x)):=LM II Tryz.func66 (by kernel_rfl) (by kernel_rfl) rfl ml WQ
def Pd[Lk]:Env:=Env.kz TY 66 true (Bc 1 1 KH KG Ly fun x=>Df (dw x)) (IW 1 1 KH KG Ly 105 [.i64,.i64] Rc dw)
theorem E9:Bp Tryz.prog Pd:=Env.YE II AFW AFX (fun _=>Ct rfl rfl)
abbrev AWS:Loc×Con:=(.cell 1 2,.own 146 (.prod (.int .i64) (.prod (.int .i64) (.prod (.int .i64) .unit))))
abbrev AWT:Loc×Con:=(.cell 1 1,.own 47 (.prod (.int .i64) (.prod (.int .i64) .unit)))
abbrev O2:A0:=[AWR,AWQ,AVS,AVW,AJ,AWT,AWS,AV3,(.tmp 20,.di)]
abbrev O1:BI:=[(.exit 0,[AWR,AWQ,AVS,AVW,AJ,AWT,AWS])]
abbrev O0:A0:=[As]
def eE[Lk]:Hints:={ fp:=Sx [(9,[[2],[2],[],[1000005,1],[],[1000005,1],[],[1000005,1],[],[],[7,32],[2],[3]]),(10,[[2],[2],[],[1000005,1],[],[1000005,1],[],[],[5,24],[2],[3]])] }
theorem Rg:Bu Tryz.prog 1 { fp:=Sx [(9,[[2],[2],[],[1000005,1],[],[1000005,1],[],[1000005,1],[],[],[7,32],[2],[3]]),(10,[[2],[2],[],[1000005,1],[],[1000005,1],[],[],[5,24],[2],[3]])],loop:=fun _=>MX 1 49 O2 O1 105 [.i64,.i64] O0 (JT Tryz.prog Pd eE 1 1 49 (De Tryz.f43 0) O2 O1 105 [.i64,.i64] O0) } (CN Tryz.f43) 0:=XK (l:=[(0,(De Tryz.f43 0))]) (by kernel_rfl) ⟨aJ E9.1 E9.2.1 E9.2.2 (fun _=>rfl) (DO _ _ (by kernel_rfl)),trivial⟩
abbrev Ht:A0:=[AWR,AWQ,AVS]
abbrev Hs:A0:=[(.tmp 0,.dat (.prod (.int .i64) (.prod (.slice (.prod (.int .i64) (.prod (.int .i64) .unit))) (.prod (.slice (.prod (.int .i64) (.prod (.int .i64) (.prod (.int .i64) .unit)))) .unit)))),As,AWQ,AVS]
abbrev JC:List RS:=[.one]
abbrev NQ:A0:=[As]
def mv[Lk]:Hints:={ fp:=Sx [(9,[[2],[2],[],[1000005,1],[],[1000005,1],[],[1000005,1],[],[],[7,32],[2],[3]]),(10,[[2],[2],[],[1000005,1],[],[1000005,1],[],[],[5,24],[2],[3]])],loop:=fun _=>MX 1 49 O2 O1 105 [.i64,.i64] O0 (JT Tryz.prog Pd eE 1 1 49 (De Tryz.f43 0) O2 O1 105 [.i64,.i64] O0) }
def Tj[Lk](v:Bf (leaves Ht)):Option (Bf (leaves Hs)⊕(List Int×Bf (leaves NQ))):=Lk.f (DU 1 Tryz.prog Pd mv Tryz.f43 Ht Hs JC 105 [.i64,.i64] NQ v)
theorem eG(v):Tj v=DU 1 Tryz.prog Pd mv Tryz.f43 Ht Hs JC 105 [.i64,.i64] NQ v:=A1 _
theorem AAU:Hn Tryz.prog 43 (Bc 1 1 Ht Hs JC fun x=>Df (Tj x)) (IW 1 1 Ht Hs JC 105 [.i64,.i64] NQ Tj):=LO E9.1 E9.2.1 E9.2.2 Tryz.func43 (Gq (by kernel_rfl)) (Cg Tryz.func43 (by kernel_rfl) (by kernel_rfl)) (AS9 rfl) eG Rg
theorem AAT:BT Tryz.prog 43 (Bc 1 1 Ht Hs JC fun x=>Df (Tj x)):=LM E9 Tryz.func43 (by kernel_rfl) (by kernel_rfl) rfl eG Rg
def Ou[Lk]:Env:=Env.kz Pd 43 false (Bc 1 1 Ht Hs JC fun x=>Df (Tj x)) (IW 1 1 Ht Hs JC 105 [.i64,.i64] NQ Tj)
theorem IK:Bp Tryz.prog Ou:=Env.YE E9 AAT AAU (by simp)
abbrev AWU:Loc×Con:=(.tmp 2,.own 28 (.prod (.int .i64) (.prod (.slice (.prod (.int .i64) (.prod (.int .i64) .unit))) (.prod (.slice (.prod (.int .i64) (.prod (.int .i64) (.prod (.int .i64) .unit)))) .unit))))
abbrev AWV:Loc×Con:=(.cell 2 0,.dat (.slice (.int .u8)))
abbrev L4:A0:=[Al,An,AL,AJ,(.tmp 5,.box 2),AWV,AVu,AWM,AWU]
abbrev L3:BI:=[(.exit 0,[Al,An,AL,AJ,(.tmp 5,.box 2),AWV,AVu,AWM,AWU])]
abbrev L0:A0:=[Al,An,AL,AJ,AWU]
def Yc[Lk]:Hints:={}
theorem cx[DfI]:Bu Tryz.prog 2 { fp:=Sx [(5,[[],[],[4],[4],[4],[],[1],[3]])],loop:=fun _=>MX 2 27 L4 L3 105 [.i64,.i64] L0 (JT Tryz.prog Ou Yc 1 2 27 (De Tryz.f25 0) L4 L3 105 [.i64,.i64] L0) } (rG 1 (CN Tryz.f25)) 0:=XK (l:=[(0,(De Tryz.f25 0))]) (by kernel_rfl) ⟨aJ IK.1 IK.2.1 IK.2.2 (fun _=>rfl) (DO _ _ (by kernel_rfl)),trivial⟩
def Pe[Lk]:Env:=Ou.ext 42 false false (CZ Tryz.prog Ou {} Tryz.f42)
theorem Iw:Bp Tryz.prog Pe:=Env.Ce IK (CD IK Tryz.func42 (by kernel_rfl) (by kernel_rfl) (by kernel_rfl)) (by simp) (by simp)
abbrev K6:A0:=[AWM]
abbrev K5:A0:=[(.tmp 0,.dat (.slice (.prod (.int .i64) (.prod (.slice (.prod (.int .i64) (.prod (.int .i64) .unit))) (.prod (.slice (.prod (.int .i64) (.prod (.int .i64) (.prod (.int .i64) .unit)))) .unit))))),AF,AG]
abbrev O3:List RS:=[.one,.one,.one]
abbrev eI:A0:=[Al,An,AL,AJ,AWM,(.tmp 2,.nil (.prod (.int .i64) (.prod (.slice (.prod (.int .i64) (.prod (.int .i64) .unit))) (.prod (.slice (.prod (.int .i64) (.prod (.int .i64) (.prod (.int .i64) .unit)))) .unit))))]
def Yb[Lk]:Hints:={ fp:=Sx [(5,[[],[],[4],[4],[4],[],[1],[3]])],loop:=fun _=>MX 2 27 L4 L3 105 [.i64,.i64] L0 (JT Tryz.prog Ou Yc 1 2 27 (De Tryz.f25 0) L4 L3 105 [.i64,.i64] L0) }
def Ya:Hints:={ fp:=Sx [(2,[[14],[14],[14],[14],[1],[3]])] }
def Ib[Lk](v:Bf (leaves K6)):Option (Bf (leaves K5)):=Lk.f (Qb Tryz.prog Pe Tryz.f25 1 K6 K5 O3 {} Yb Ya eI 2 v)
theorem sS(v):Ib v=Qb Tryz.prog Pe Tryz.f25 1 K6 K5 O3 {} Yb Ya eI 2 v:=A1 _
theorem iD:BT Tryz.prog 25 (Bc 0 1 K6 K5 O3 Ib):=pf Iw.1 Iw.2.1 Iw.2.2 Tryz.func25 (Gq (by kernel_rfl)) (Cg Tryz.func25 (by kernel_rfl) (by kernel_rfl)) (AS9 rfl) sS cx
def WJ[Lk]:Env:=Pe.ext 25 true true (Bc 0 1 K6 K5 O3 Ib)
theorem Ta:Bp Tryz.prog WJ:=Env.Ce Iw iD (fun _=>MV rfl rfl) (fun _=>Ct rfl rfl)
end
end Go.Pev
end
section
namespace Go.Pev
noncomputable section
abbrev Py:A0:=[AO,(.tmp 1,.clo 46 [])]
abbrev al:A0:=[AO,(.tmp 1,.clo 46 []),AP,AQ]
def ak[Lk]:Uk->Option (Uk⊕Ub⊕(Unit)⊕Unit):=fun(b,c,a,_)=>
 match(ilt a c)with
 |true=>match idx b a with|none=>none|some d=>match(ilt d 0)with
  |true=>some (.inr (.inl (a,())))
  |false=>match(ilt 1073741824 d)with
  |true=>some (.inr (.inl (a,())))
  |false=>some (.inl (b,c,(w64 (a+1)),()))
 |false=>some (.inr (.inr (.inl ())))
def Pz[Lk]:Uh->Option (Ub):=fun(a,_)=>
 match A9 ak many (a,(A4 a),0,())with|none=>none|some r=>match r with
 |.inl (b,_)=>some (b,())
 |.inr r=>match r with
 |.inl _=>some ((-1:Int),())
 |.inr _=>none
def OH[Lk]:=lkk Pz
theorem ao v:OH v=Pz v:=A1 _
def OW[Lk]:Uh->Option (Ud):=fun(a,_)=>
 match OH (a,())with|none=>none|some (b,_)=>some ((ile 0 b),())
def M0[Lk]:=lkk OW
theorem Xf v:M0 v=OW v:=A1 _
abbrev AWW:Loc×Con:=(.tmp 0,.dat (.slice Vi))
abbrev AGk:A0:=[AWW,(.tmp 1,.dat (.slice Vi))]
abbrev ABD:A0:=[AWW,(.tmp 1,.dat (.slice Vi)),AVU]
abbrev ek:BI:=[(.ret,[Af]),(.exit 0,[])]
def ABC[Lk]:(List U9×List U9×Int×Unit)->Option ((List U9×List U9×Int×Unit)⊕Ud⊕(Unit)⊕Unit):=fun(d,e,c,_)=>
 match(ilt c (A4 d))with
 |true=>match idx d c with|none=>none|some a=>match idx e c with|none=>none|some b=>match(!(ieq a.1 b.1&&(ieq a.2.1 b.2.1&&(ieq a.2.2.1 b.2.2.1&&(ieq a.2.2.2.1 b.2.2.2.1&&(ieq a.2.2.2.2.1 b.2.2.2.2.1&&true))))))with
  |true=>some (.inr (.inl (false,())))
  |false=>some (.inl (d,e,(w64 (c+1)),()))
 |false=>some (.inr (.inr (.inl ())))
def nq[Lk]:(List U9×List U9×Unit)->Option (Ud):=fun(a,b,_)=>
 match(!(ieq (A4 a) (A4 b)))with
 |true=>some (false,())
 |false=>match A9 ABC many (a,b,0,())with|none=>none|some r=>match r with
 |.inl (c,_)=>some (c,())
 |.inr r=>match r with
 |.inl _=>some (true,())
 |.inr _=>none
def QS[Lk]:=lkk nq
theorem ABE v:QS v=nq v:=A1 _
abbrev xp:A0:=[]
abbrev ALc:A0:=[(.tmp 0,.dat V8)]
def xq[Lk]:(Unit)->Option ((V5×Unit)):=fun _=>
 some ((8,(4,((2,(2,(([]:List U7),()))),()))),())
def Po[Lk]:=lkk xq
theorem AFb v:Po v=xq v:=A1 _
def zK[Lk]:Ub->Option (Ub):=fun(a,_)=>
 match(ile 65536 a)with
 |true=>match shr? .u32 a 16 with|none=>none|some b=>match(ile 256 b)with
  |true=>match shr? .u32 b 8 with|none=>none|some c=>match idx ([0,1,2,2,3,3,3,3,4,4,4,4,4,4,4,4,5,5,5,5,5,5,5,5,5,5,5,5,5,5,5,5,6,6,6,6,6,6,6,6,6,6,6,6,6,6,6,6,6,6,6,6,6,6,6,6,6,6,6,6,6,6,6,6,7,7,7,7,7,7,7,7,7,7,7,7,7,7,7,7,7,7,7,7,7,7,7,7,7,7,7,7,7,7,7,7,7,7,7,7,7,7,7,7,7,7,7,7,7,7,7,7,7,7,7,7,7,7,7,7,7,7,7,7,7,7,7,7,8,8,8,8,8,8,8,8,8,8,8,8,8,8,8,8,8,8,8,8,8,8,8,8,8,8,8,8,8,8,8,8,8,8,8,8,8,8,8,8,8,8,8,8,8,8,8,8,8,8,8,8,8,8,8,8,8,8,8,8,8,8,8,8,8,8,8,8,8,8,8,8,8,8,8,8,8,8,8,8,8,8,8,8,8,8,8,8,8,8,8,8,8,8,8,8,8,8,8,8,8,8,8,8,8,8,8,8,8,8,8,8,8,8,8,8,8,8,8,8,8,8,8,8,8,8,8,8]:List (Int)) (IntKind.wrap .u8 c)with|none=>none|some d=>some ((w64 ((w64 (16+8))+(w64 d))),())
  |false=>match idx ([0,1,2,2,3,3,3,3,4,4,4,4,4,4,4,4,5,5,5,5,5,5,5,5,5,5,5,5,5,5,5,5,6,6,6,6,6,6,6,6,6,6,6,6,6,6,6,6,6,6,6,6,6,6,6,6,6,6,6,6,6,6,6,6,7,7,7,7,7,7,7,7,7,7,7,7,7,7,7,7,7,7,7,7,7,7,7,7,7,7,7,7,7,7,7,7,7,7,7,7,7,7,7,7,7,7,7,7,7,7,7,7,7,7,7,7,7,7,7,7,7,7,7,7,7,7,7,7,8,8,8,8,8,8,8,8,8,8,8,8,8,8,8,8,8,8,8,8,8,8,8,8,8,8,8,8,8,8,8,8,8,8,8,8,8,8,8,8,8,8,8,8,8,8,8,8,8,8,8,8,8,8,8,8,8,8,8,8,8,8,8,8,8,8,8,8,8,8,8,8,8,8,8,8,8,8,8,8,8,8,8,8,8,8,8,8,8,8,8,8,8,8,8,8,8,8,8,8,8,8,8,8,8,8,8,8,8,8,8,8,8,8,8,8,8,8,8,8,8,8,8,8,8,8,8,8]:List (Int)) (IntKind.wrap .u8 b)with|none=>none|some e=>some ((w64 (16+(w64 e))),())
 |false=>match(ile 256 a)with
 |true=>match shr? .u32 a 8 with|none=>none|some f=>match idx ([0,1,2,2,3,3,3,3,4,4,4,4,4,4,4,4,5,5,5,5,5,5,5,5,5,5,5,5,5,5,5,5,6,6,6,6,6,6,6,6,6,6,6,6,6,6,6,6,6,6,6,6,6,6,6,6,6,6,6,6,6,6,6,6,7,7,7,7,7,7,7,7,7,7,7,7,7,7,7,7,7,7,7,7,7,7,7,7,7,7,7,7,7,7,7,7,7,7,7,7,7,7,7,7,7,7,7,7,7,7,7,7,7,7,7,7,7,7,7,7,7,7,7,7,7,7,7,7,8,8,8,8,8,8,8,8,8,8,8,8,8,8,8,8,8,8,8,8,8,8,8,8,8,8,8,8,8,8,8,8,8,8,8,8,8,8,8,8,8,8,8,8,8,8,8,8,8,8,8,8,8,8,8,8,8,8,8,8,8,8,8,8,8,8,8,8,8,8,8,8,8,8,8,8,8,8,8,8,8,8,8,8,8,8,8,8,8,8,8,8,8,8,8,8,8,8,8,8,8,8,8,8,8,8,8,8,8,8,8,8,8,8,8,8,8,8,8,8,8,8,8,8,8,8,8,8]:List (Int)) (IntKind.wrap .u8 f)with|none=>none|some g=>some ((w64 ((w64 (0+8))+(w64 g))),())
 |false=>match idx ([0,1,2,2,3,3,3,3,4,4,4,4,4,4,4,4,5,5,5,5,5,5,5,5,5,5,5,5,5,5,5,5,6,6,6,6,6,6,6,6,6,6,6,6,6,6,6,6,6,6,6,6,6,6,6,6,6,6,6,6,6,6,6,6,7,7,7,7,7,7,7,7,7,7,7,7,7,7,7,7,7,7,7,7,7,7,7,7,7,7,7,7,7,7,7,7,7,7,7,7,7,7,7,7,7,7,7,7,7,7,7,7,7,7,7,7,7,7,7,7,7,7,7,7,7,7,7,7,8,8,8,8,8,8,8,8,8,8,8,8,8,8,8,8,8,8,8,8,8,8,8,8,8,8,8,8,8,8,8,8,8,8,8,8,8,8,8,8,8,8,8,8,8,8,8,8,8,8,8,8,8,8,8,8,8,8,8,8,8,8,8,8,8,8,8,8,8,8,8,8,8,8,8,8,8,8,8,8,8,8,8,8,8,8,8,8,8,8,8,8,8,8,8,8,8,8,8,8,8,8,8,8,8,8,8,8,8,8,8,8,8,8,8,8,8,8,8,8,8,8,8,8,8,8,8,8]:List (Int)) (IntKind.wrap .u8 a)with|none=>none|some h=>some ((w64 (0+(w64 h))),())
def APP[Lk]:=lkk zK
theorem AIl v:APP v=zK v:=A1 _
abbrev AWX:Loc×Con:=(.tmp 7,.dat .bool)
abbrev AWY:Loc×Con:=(.tmp 5,.own 3 U0)
abbrev lj:A0:=[AA,AWA,AWY,AWX,AQ]
abbrev ld:BI:=[(.exit 4,[AA,AWA,AWY,AWX])]
def Gm[Lk]:(Int×List U4×List Int×Bool×Int×Unit)->Option ((Int×List U4×List Int×Bool×Int×Unit)⊕(Int×List U4×List Int×Bool×Unit)⊕Unit):=fun(e,c,a,g,f,_)=>
 match(ilt f (A4 c))with
 |true=>match idx c f with|none=>none|some b=>match idx c f with|none=>none|some d=>match(ilt b.1 0)with
  |true=>some (.inl (e,c,a,g,(w64 (f+1)),()))
  |false=>match(ilt d.2.1 0)with
  |true=>some (.inl (e,c,a,g,(w64 (f+1)),()))
  |false=>match(ile e b.1)with
  |true=>some (.inl (e,c,a,g,(w64 (f+1)),()))
  |false=>match(ile e d.2.1)with
  |true=>some (.inl (e,c,a,g,(w64 (f+1)),()))
  |false=>match idx a b.1 with|none=>none|some h=>match idx a d.2.1 with|none=>none|some i=>match(ieq (A_ a (A3 b.1) 0) (A_ a (A3 d.2.1) 0))with
  |true=>some (.inl (e,c,a,g,(w64 (f+1)),()))
  |false=>match idx a b.1 with|none=>none|some j=>match idx a d.2.1 with|none=>none|some k=>match idx a b.1 with|none=>none|some l=>match idx (Be a (A3 b.1) (C7 (A_ a (A3 b.1) 0) (A_ a (A3 d.2.1) 0))) d.2.1 with|none=>none|some m=>some (.inl (e,c,(Be (Be a (A3 b.1) (C7 (A_ a (A3 b.1) 0) (A_ a (A3 d.2.1) 0))) (A3 d.2.1) (C7 (A_ a (A3 b.1) 0) (A_ a (A3 d.2.1) 0))),true,(w64 (f+1)),()))
 |false=>some (.inr (.inl (e,c,a,g,())))
abbrev ll:A0:=[AA,AWA,AWY,AWX]
abbrev lf:BI:=[(.exit 2,[AWY])]
def Is[Lk]:(Int×List U4×List Int×Bool×Unit)->Option ((Int×List U4×List Int×Bool×Unit)⊕Uh⊕Unit):=fun(b,c,a,d,_)=>
 match d with
 |true=>match A9 Gm many (b,c,a,false,0,())with|none=>none|some r=>match r with
  |.inl (e,f,g,h,_)=>some (.inl (e,f,g,h,()))
  |.inr _=>none
 |false=>some (.inr (.inl (a,())))
abbrev ln:A0:=[AA,AWA,AWY,AVe]
abbrev lh:BI:=[(.exit 0,[AA,AWA,AWY])]
def Gn[Lk]:(Int×List U4×List Int×Int×Unit)->Option ((Int×List U4×List Int×Int×Unit)⊕(Int×List U4×List Int×Unit)⊕Unit):=fun(b,d,c,a,_)=>
 match(ilt a b)with
 |true=>match(fits ((A4 c)+(A4 ([a]:List (Int)))))with
  |true=>some (.inl (b,d,(B6 c ([a]:List (Int))),(w64 (a+1)),()))
  |false=>none
 |false=>some (.inr (.inl (b,d,c,())))
def Og[Lk]:(Int×List U4×Unit)->Option (Uh):=fun(a,b,_)=>
 match A9 Gn many (a,b,([]:List (Int)),0,())with|none=>none|some r=>match r with
 |.inl (c,d,e,_)=>match A9 Is many (c,d,e,true,())with|none=>none|some r=>match r with
  |.inl (f,_)=>some (f,())
  |.inr _=>none
 |.inr _=>none
def FN[Lk]:=lkk Og
theorem TK v:FN v=Og v:=A1 _
abbrev AFp:A0:=[AS,AR]
def AFo[Lk]:U4->Option (U4⊕Ub⊕Unit):=fun(a,b,_)=>
 match(ilt 0 b)with
 |true=>match quo? .i64 b 2 with|none=>none|some c=>some (.inl ((w64 (a+1)),c,()))
 |false=>some (.inr (.inl (a,())))
def xx[Lk]:Ub->Option (Ub):=fun(a,_)=>
 match(ilt a 1)with
 |true=>some (0,())
 |false=>match(ilt 64 a)with
 |true=>some (0,())
 |false=>match A9 AFo many (0,(w64 (a-1)),())with|none=>none|some r=>match r with
 |.inl (b,_)=>some (b,())
 |.inr _=>none
def NW[Lk]:=lkk xx
theorem AFq v:NW v=xx v:=A1 _
abbrev F9:A0:=[AD]
abbrev AWZ:Loc×Con:=(.tmp 3,.own 47 U3)
abbrev AWa:Loc×Con:=(.tmp 1,.box 2)
abbrev tf:A0:=[AWa,AL,AV9,AWZ,AW,AP,AQ]
abbrev tc:BI:=[(.exit 2,[AWa,AL,AV9,AWZ,AP])]
def G6[Lk]:(Int×List U2×List U4×List Int×Int×Int×Unit)->Option ((Int×List U2×List U4×List Int×Int×Int×Unit)⊕Vd⊕Unit):=fun(b,d,e,c,f,a,_)=>
 match(ilt a b)with
 |true=>match idx c a with|none=>none|some g=>match(ieq (A_ c (A3 a) 0) a)with
  |true=>some (.inl (b,d,e,c,(w64 (f+1)),(w64 (a+1)),()))
  |false=>some (.inl (b,d,e,c,f,(w64 (a+1)),()))
 |false=>some (.inr (.inl (b,d,e,f,())))
abbrev Za:A0:=[AWa,AL,AV9,AWZ,AR]
abbrev te:BI:=[(.ret,[AH]),(.exit 0,[AWa,AL,AV9,AWZ])]
def Fs[Lk]:Vd->Option (Vd⊕Ud⊕(Int×List U2×List U4×Unit)⊕Unit):=fun(e,b,d,c,_)=>
 match(ilt c (A4 b))with
 |true=>match idx b c with|none=>none|some a=>match(ilt a.1 0)with
  |true=>some (.inr (.inl (false,())))
  |false=>match(ile a.2.1 a.1)with
  |true=>some (.inr (.inl (false,())))
  |false=>match(ile e a.2.1)with
  |true=>some (.inr (.inl (false,())))
  |false=>match(ilt a.2.2.1 0)with
  |true=>some (.inr (.inl (false,())))
  |false=>match NW (e,())with|none=>none|some (f,_)=>match(ilt f a.2.2.1)with
  |true=>some (.inr (.inl (false,())))
  |false=>match(ilt 0 c)with
  |true=>match idx b (w64 (c-1))with|none=>none|some g=>match(ilt a.1 g.1)with
   |true=>some (.inr (.inl (false,())))
   |false=>match idx b (w64 (c-1))with|none=>none|some h=>match(ieq h.1 a.1)with
   |true=>match idx b (w64 (c-1))with|none=>none|some i=>match(ile a.2.1 i.2.1)with
    |true=>some (.inr (.inl (false,())))
    |false=>match a.2.2.2.1 with
    |true=>match(fits ((A4 d)+(A4 ([(a.1,(a.2.1,()))]:List U4))))with
     |true=>some (.inl (e,b,(B6 d ([(a.1,(a.2.1,()))]:List U4)),(w64 (c+1)),()))
     |false=>none
    |false=>some (.inl (e,b,d,(w64 (c+1)),()))
   |false=>match a.2.2.2.1 with
   |true=>match(fits ((A4 d)+(A4 ([(a.1,(a.2.1,()))]:List U4))))with
    |true=>some (.inl (e,b,(B6 d ([(a.1,(a.2.1,()))]:List U4)),(w64 (c+1)),()))
    |false=>none
   |false=>some (.inl (e,b,d,(w64 (c+1)),()))
  |false=>match a.2.2.2.1 with
  |true=>match(fits ((A4 d)+(A4 ([(a.1,(a.2.1,()))]:List U4))))with
   |true=>some (.inl (e,b,(B6 d ([(a.1,(a.2.1,()))]:List U4)),(w64 (c+1)),()))
   |false=>none
  |false=>some (.inl (e,b,d,(w64 (c+1)),()))
 |false=>some (.inr (.inr (.inl (e,b,d,()))))
def G8[Lk]:(Uc×Unit)->Option (Ud):=fun(a,_)=>
 match(ilt a.1 1)with
 |true=>some (false,())
 |false=>match(ilt 64 a.1)with
 |true=>some (false,())
 |false=>match(ilt 400 (A4 a.2.1))with
 |true=>some (false,())
 |false=>match A9 Fs many (a.1,a.2.1,([]:List U4),0,())with|none=>none|some r=>match r with
 |.inl (d,_)=>some (d,())
 |.inr r=>match r with
 |.inl (b,e,c,_)=>match FN (b,c,())with|none=>none|some (f,_)=>match A9 G6 many (b,e,c,f,0,0,())with|none=>none|some r=>match r with
  |.inl (g,j,h,i,_)=>some ((ieq i (w64 (g-(A4 h)))),())
  |.inr _=>none
 |.inr _=>none
def GS[Lk]:=lkk G8
theorem G7 v:GS v=G8 v:=A1 _
abbrev sV:A0:=[AF,AK,AL,AV9,Aw,AVe]
def JE[Lk]:(Int×Int×List U2×List U4×Int×Unit)->Option ((Int×Int×List U2×List U4×Int×Unit)⊕V1⊕Unit):=fun(d,e,a,c,b,_)=>
 match(ilt b (A4 a))with
 |true=>match idx a b with|none=>none|some h=>match h.2.2.2.1 with
  |true=>match idx a b with|none=>none|some i=>match(ile d i.2.2.1)with
   |true=>match idx a b with|none=>none|some f=>match idx a b with|none=>none|some g=>match(fits ((A4 c)+(A4 ([(f.1,(g.2.1,()))]:List U4))))with
    |true=>some (.inl (d,e,a,(B6 c ([(f.1,(g.2.1,()))]:List U4)),(w64 (b+1)),()))
    |false=>none
   |false=>some (.inl (d,e,a,c,(w64 (b+1)),()))
  |false=>some (.inl (d,e,a,c,(w64 (b+1)),()))
 |false=>some (.inr (.inl (c,())))
def Tn[Lk]:(Uc×Int×Unit)->Option (V1):=fun(a,b,_)=>
 match A9 JE many (b,a.1,a.2.1,([]:List U4),0,())with|none=>none|some r=>match r with
 |.inl (c,_)=>some (c,())
 |.inr _=>none
def O4[Lk]:=lkk Tn
theorem Yp v:O4 v=Tn v:=A1 _
abbrev bM:BI:=[(.exit 0,[AWZ])]
def Js[Lk]:Vd->Option (Vd⊕V1⊕Unit):=fun(f,a,c,b,_)=>
 match(ilt b (A4 a))with
 |true=>match idx a b with|none=>none|some d=>match idx a b with|none=>none|some e=>match(fits ((A4 c)+(A4 ([(d.1,(e.2.1,()))]:List U4))))with
  |true=>some (.inl (f,a,(B6 c ([(d.1,(e.2.1,()))]:List U4)),(w64 (b+1)),()))
  |false=>none
 |false=>some (.inr (.inl (c,())))
def VV[Lk]:(Uc×Unit)->Option (V1):=fun(a,_)=>
 match GS ((a.1,(a.2.1,())),())with|none=>none|some (b,_)=>match(!b)with
 |true=>some (([]:List U4),())
 |false=>match A9 Js many (a.1,a.2.1,([]:List U4),0,())with|none=>none|some r=>match r with
 |.inl (c,_)=>some (c,())
 |.inr _=>none
def YH[Lk]:=lkk VV
theorem bN v:YH v=VV v:=A1 _
abbrev AWb:Loc×Con:=(.tmp 8,.own 3 U0)
abbrev AWc:Loc×Con:=(.tmp 3,.box 2)
abbrev jv:A0:=[AF,AWc,AL,AV9,AWC,AWb,Ac]
abbrev ju:BI:=[(.exit 0,[AWb])]
def GV[Lk]:(Int×Int×List U2×List Int×List Int×Int×Unit)->Option ((Int×Int×List U2×List Int×List Int×Int×Unit)⊕Uh⊕Unit):=fun(c,e,f,b,d,a,_)=>
 match(ilt a e)with
 |true=>match idx b a with|none=>none|some g=>match idx b c with|none=>none|some h=>match(ieq (A_ b (A3 a) 0) (A_ b (A3 c) 0))with
  |true=>match(fits ((A4 d)+(A4 ([a]:List (Int)))))with
   |true=>some (.inl (c,e,f,b,(B6 d ([a]:List (Int))),(w64 (a+1)),()))
   |false=>none
  |false=>some (.inl (c,e,f,b,d,(w64 (a+1)),()))
 |false=>some (.inr (.inl (d,())))
def N5[Lk]:(Uc×Int×Int×Unit)->Option (Uh):=fun(a,b,c,_)=>
 match O4 ((a.1,(a.2.1,())),c,())with|none=>none|some (d,_)=>match FN (a.1,d,())with|none=>none|some (e,_)=>match A9 GV many (b,a.1,a.2.1,e,([]:List (Int)),0,())with|none=>none|some r=>match r with
 |.inl (f,_)=>some (f,())
 |.inr _=>none
def PE[Lk]:=lkk N5
theorem SO v:PE v=N5 v:=A1 _
abbrev tG:A0:=[AWa,AL,AV9,AVe,AP,AZ]
abbrev tD:BI:=[(.ret,[AH]),(.exit 6,[AWa,AL,AV9,AVe,AP])]
def G4[Lk]:(Int×List U2×Int×Int×Int×Unit)->Option ((Int×List U2×Int×Int×Int×Unit)⊕Ud⊕Vg⊕Unit):=fun(a,b,c,d,e,_)=>
 match(ilt e a)with
 |true=>match PE ((a,(b,())),e,d,())with|none=>none|some (f,_)=>match(ilt (imax 1 c) (A4 f))with
  |true=>some (.inr (.inl (false,())))
  |false=>some (.inl (a,b,c,d,(w64 (e+1)),()))
 |false=>some (.inr (.inr (.inl (a,b,c,d,()))))
abbrev tH:A0:=[AWa,AL,AV9,AVe,AP,AWb,Ac]
abbrev tE:BI:=[(.ret,[AH]),(.exit 4,[AWa,AL,AV9,AVe,AP])]
def G5[Lk]:(Int×List U2×Int×Int×List Int×Int×Unit)->Option ((Int×List U2×Int×Int×List Int×Int×Unit)⊕Ud⊕Vg⊕Unit):=fun(f,b,g,d,a,e,_)=>
 match(ilt e (A4 b))with
 |true=>match idx b e with|none=>none|some c=>match(!c.2.2.2.1)with
  |true=>match(ieq c.2.2.1 d)with
   |true=>match idx a c.1 with|none=>none|some h=>match idx a c.2.1 with|none=>none|some i=>match(!(ieq (A_ a (A3 c.1) 0) (A_ a (A3 c.2.1) 0)))with
    |true=>some (.inr (.inl (false,())))
    |false=>some (.inl (f,b,g,d,a,(w64 (e+1)),()))
   |false=>some (.inl (f,b,g,d,a,(w64 (e+1)),()))
  |false=>some (.inl (f,b,g,d,a,(w64 (e+1)),()))
 |false=>some (.inr (.inr (.inl (f,b,g,d,()))))
abbrev tI:A0:=[AWa,AL,AV9,AVe,AP]
abbrev tF:BI:=[(.ret,[AH]),(.exit 2,[])]
def JL[Lk]:Vg->Option (Vg⊕Ud⊕(Unit)⊕Unit):=fun(a,c,d,b,_)=>
 match NW (a,())with|none=>none|some (e,_)=>match(ile b e)with
 |true=>match O4 ((a,(c,())),b,())with|none=>none|some (f,_)=>match FN (a,f,())with|none=>none|some (g,_)=>match A9 G5 many (a,c,d,b,g,0,())with|none=>none|some r=>match r with
  |.inl (h,_)=>some (.inr (.inl (h,())))
  |.inr r=>match r with
  |.inl (i,j,k,l,_)=>match A9 G4 many (i,j,k,l,0,())with|none=>none|some r=>match r with
   |.inl (m,_)=>some (.inr (.inl (m,())))
   |.inr r=>match r with
   |.inl (n,o,p,q,_)=>match quo? .i64 p 2 with|none=>none|some s=>some (.inl (n,o,s,(w64 (q+1)),()))
   |.inr _=>none
  |.inr _=>none
 |false=>some (.inr (.inr (.inl ())))
abbrev tJ:A0:=[AWa,AL,AV9,Au,(.tmp 4,.own 3 U0),AVU]
abbrev Y8:BI:=[(.ret,[AH]),(.exit 0,[AWa,AL,AV9])]
def JM[Lk]:(Int×List U2×List Int×List Int×Int×Unit)->Option ((Int×List U2×List Int×List Int×Int×Unit)⊕Ud⊕(Int×List U2×Unit)⊕Unit):=fun(b,e,c,d,a,_)=>
 match(ilt a b)with
 |true=>match idx c a with|none=>none|some f=>match idx d a with|none=>none|some g=>match(!(ieq (A_ c (A3 a) 0) (A_ d (A3 a) 0)))with
  |true=>some (.inr (.inl (false,())))
  |false=>some (.inl (b,e,c,d,(w64 (a+1)),()))
 |false=>some (.inr (.inr (.inl (b,e,()))))
def O9[Lk]:(Uc×Unit)->Option (Ud):=fun(a,_)=>
 match GS ((a.1,(a.2.1,())),())with|none=>none|some (c,_)=>match(!c)with
 |true=>some (false,())
 |false=>match YH ((a.1,(a.2.1,())),())with|none=>none|some (d,_)=>match FN (a.1,d,())with|none=>none|some (e,_)=>match O4 ((a.1,(a.2.1,())),0,())with|none=>none|some (f,_)=>match FN (a.1,f,())with|none=>none|some (g,_)=>match A9 JM many (a.1,a.2.1,e,g,0,())with|none=>none|some r=>match r with
 |.inl (h,_)=>some (h,())
 |.inr r=>match r with
 |.inl (b,i,_)=>match A9 JL many (b,i,b,0,())with|none=>none|some r=>match r with
  |.inl (j,_)=>some (j,())
  |.inr r=>match r with
  |.inl _=>some (true,())
  |.inr _=>none
 |.inr _=>none
def MF[Lk]:=lkk O9
theorem QM v:MF v=O9 v:=A1 _
abbrev AGm:A0:=[AD,(.tmp 1,.dat Up)]
abbrev ABF:A0:=[AK,AL,AV9,AWc,AJ,(.cell 1 1,.dat Ue),AVU]
def LD[Lk]:(Int×List U2×Int×List U2×Int×Unit)->Option ((Int×List U2×Int×List U2×Int×Unit)⊕Ud⊕(Unit)⊕Unit):=fun(f,d,g,e,a,_)=>
 match(ilt a (A4 d))with
 |true=>match idx d a with|none=>none|some b=>match idx e a with|none=>none|some c=>match(!(ieq b.1 c.1&&(ieq b.2.1 c.2.1&&(ieq b.2.2.1 c.2.2.1&&((b.2.2.2.1==c.2.2.2.1)&&true)))))with
  |true=>some (.inr (.inl (false,())))
  |false=>some (.inl (f,d,g,e,(w64 (a+1)),()))
 |false=>some (.inr (.inr (.inl ())))
def ZK[Lk]:(Uc×Uc×Unit)->Option (Ud):=fun(a,b,_)=>
 match(!(ieq a.1 b.1))with
 |true=>some (false,())
 |false=>match(!(ieq (A4 a.2.1) (A4 b.2.1)))with
 |true=>some (false,())
 |false=>match A9 LD many (a.1,a.2.1,b.1,b.2.1,0,())with|none=>none|some r=>match r with
 |.inl (c,_)=>some (c,())
 |.inr r=>match r with
 |.inl _=>some (true,())
 |.inr _=>none
def jC[Lk]:=lkk ZK
theorem eo v:jC v=ZK v:=A1 _
abbrev AWd:Loc×Con:=(.cell 1 0,.dat (.int .u64))
abbrev AWe:Loc×Con:=(.tmp 10,.dat (.int .u64))
abbrev AE1:A0:=[Ai,Aj,AF,AQ,(.tmp 9,.box 1),AWd,AWe,AZ]
def AKe[Lk]:=J3 (([]:List (Int)):U7) C8 tLt
def AKf[Lk]:=RQ (([]:List (Int)):U7) C8 tLt
theorem AE2 v:AKf v=AKe v:=A1 _
abbrev AWf:Loc×Con:=(.tmp 11,.dat .bool)
abbrev AWg:Loc×Con:=(.tmp 10,.dat .bool)
abbrev yZ:A0:=[Ai,Aj,AF,AG,AS,Ak,AWg,AWf]
abbrev yY:BI:=[(.ret,[Ai])]
def yX[Lk]:=KP (([]:List (Int)):U7) C8 tLt
def AP9[Lk]:=Qc (([]:List (Int)):U7) C8 tLt
def Zw[Lk]:=JX (([]:List (Int)):U7) C8 tLt
def AMu[Lk]:=uV (([]:List (Int)):U7) C8 tLt
theorem AMt v:AMu v=Zw 100 v:=A1 _
abbrev AL2:A0:=[Ah,(.tmp 1,.clo 168 [])]
def AL3[Lk]:=MG (([]:List (Int)):U7) C8 tLt
def yH[Lk]:=eb (([]:List (Int)):U7) C8 tLt
theorem AGL v:yH v=AL3 v:=A1 _
def AIe[Lk]:Ub->Option (Ub):=fun(a,_)=>
 match aH (a,())with|none=>none|some (b,_)=>match(!b)with
 |true=>some (0,())
 |false=>match bitsLen ((IntKind.wrap .u64 (w64 (a-1))),())with|none=>none|some (c,_)=>some (c,())
def dL[Lk]:=lkk AIe
theorem ANS v:dL v=AIe v:=A1 _
abbrev AE6:A0:=[Az,Aj,AF,AQ,(.tmp 9,.box 1),AWd,AWe,AZ]
def AKi[Lk]:=J3 ((0,(0,())):U4) Bj tLt
def AKj[Lk]:=RQ ((0,(0,())):U4) Bj tLt
theorem AE7 v:AKj v=AKi v:=A1 _
abbrev yf:A0:=[Az,Aj,AF,AG,AS,AVI,AWg,AWf]
abbrev ye:BI:=[(.ret,[Az])]
def yd[Lk]:=KP ((0,(0,())):U4) Bj tLt
def AQD[Lk]:=Qc ((0,(0,())):U4) Bj tLt
def Zy[Lk]:=JX ((0,(0,())):U4) Bj tLt
def AM3[Lk]:=uV ((0,(0,())):U4) Bj tLt
theorem AM2 v:AM3 v=Zy 100 v:=A1 _
abbrev AL7:A0:=[Av,(.tmp 1,.clo 84 [])]
def AL8[Lk]:=MG ((0,(0,())):U4) Bj tLt
def yI[Lk]:=eb ((0,(0,())):U4) Bj tLt
theorem AGO v:yI v=AL8 v:=A1 _
abbrev AE3:A0:=[AWB,Aj,AF,AVe,(.tmp 7,.box 1),AWd,(.tmp 8,.dat (.int .u64)),Ac]
def AKg[Lk]:=J3 (0:Int) C9 tId
def AKh[Lk]:=RQ (0:Int) C9 tId
theorem AE4 v:AKh v=AKg v:=A1 _
abbrev yc:A0:=[AWB,Aj,AF,AG,AS,Ap,(.tmp 9,.dat .bool)]
abbrev yb:BI:=[(.ret,[AWB])]
def ya[Lk]:=KP (0:Int) C9 tId
def AQB[Lk]:=Qc (0:Int) C9 tId
def Zx[Lk]:=JX (0:Int) C9 tId
def AMy[Lk]:=uV (0:Int) C9 tId
theorem AMx v:AMy v=Zx 100 v:=A1 _
def AL5[Lk]:=MG (0:Int) C9 tId
def nT[Lk]:=eb (0:Int) C9 tId
theorem AGM v:nT v=AL5 v:=A1 _
abbrev RI:A0:=[AB,AWK,AE]
def F6[Lk]:Vh->Option ((List Int×Bool×Unit)):=fun(a,b,_)=>
 match IQ (a,b,())with|none=>none|some (c,d,_)=>some (c,(ile 0 d),())
def HT[Lk]:=lkk F6
theorem IY v:HT v=F6 v:=A1 _
abbrev AEz:A0:=[AWO,Aj,AF,AQ,(.tmp 9,.box 1),AWd,AWe,AZ]
def AKd[Lk]:=J3 ((0,(0,(0,(false,())))):U2) C_ tLt
def breakT[Lk]:=RQ ((0,(0,(0,(false,())))):U2) C_ tLt
theorem AE0 v:breakT v=AKd v:=A1 _
abbrev yW:A0:=[AWO,Aj,AF,AG,AS,AWP,AWg,AWf]
abbrev yV:BI:=[(.ret,[AWO])]
def yU[Lk]:=KP ((0,(0,(0,(false,())))):U2) C_ tLt
def AP7[Lk]:=Qc ((0,(0,(0,(false,())))):U2) C_ tLt
def Zv[Lk]:=JX ((0,(0,(0,(false,())))):U2) C_ tLt
def AMq[Lk]:=uV ((0,(0,(0,(false,())))):U2) C_ tLt
theorem AMp v:AMq v=Zv 100 v:=A1 _
abbrev ALz:A0:=[AWI,(.tmp 1,.clo 83 [])]
def AL0[Lk]:=MG ((0,(0,(0,(false,())))):U2) C_ tLt
def yG[Lk]:=eb ((0,(0,(0,(false,())))):U2) C_ tLt
theorem AGK v:yG v=AL0 v:=A1 _
def IS[Lk]:Uh->Option (Ud):=fun(a,_)=>
 match Mg (a,())with|none=>none|some (b,_)=>some ((ile 0 b),())
def Hl[Lk]:=lkk IS
theorem Ln v:Hl v=IS v:=A1 _
abbrev TF:A0:=[As,AL,Ar,AE]
def Gl[Lk]:Vj->Option ((Int×List U7×Bool×Unit)):=fun(a,b,c,_)=>
 match Jk (a,b,c,())with|none=>none|some (d,e,f,_)=>some (d,e,(ile 0 f),())
def Fp[Lk]:=lkk Gl
theorem Jx v:Fp v=Gl v:=A1 _
abbrev dY:A0:=[As,AL,AV9,AE]
def K0[Lk]:(List Int×Int×List U2×Unit)->Option ((Int×List U2×Bool×Unit)):=fun(a,b,c,_)=>
 match Q1 (a,b,c,())with|none=>none|some (d,e,f,_)=>some (d,e,(ile 0 f),())
def Kh[Lk]:=lkk K0
theorem OX v:Kh v=K0 v:=A1 _
abbrev bY:A0:=[AWB,AWH,AJ,AWG,(.tmp 0,.win' 0)]
abbrev Xd:A0:=[AWB,AWH,AJ,AWG,Aj,AWF,AVU,AVe]
abbrev Xc:BI:=[(.exit 0,[AWB,AWH,AJ,AWG,Aj,AVU])]
def Fm[Lk]:Vf->Option (Vf⊕Vn⊕Unit):=fun(a,d,e,c,b,_)=>
 match(ilt b (A4 a))with
 |true=>match idx a b with|none=>none|some f=>match(!(ile d (A_ a (A3 b) 0)))with
  |true=>match idx a c with|none=>none|some g=>some (.inl ((Be a (A3 c) (A_ a (A3 b) 0)),d,e,(w64 (c+1)),(w64 (b+1)),()))
  |false=>some (.inl (a,d,e,c,(w64 (b+1)),()))
 |false=>some (.inr (.inl (a,d,e,c,())))
def Jw[Lk]:Vj->Option (Vn):=fun(h,i,j,_)=>
 match Mh (h,i,j,())with|none=>none|some (c,e,f,d,_)=>match(ieq d (-1:Int))with
 |true=>some (c,e,f,(A4 c),())
 |false=>match A9 Fm many (c,e,f,d,(w64 (d+1)),())with|none=>none|some r=>match r with
 |.inl (a,k,l,b,_)=>match Dd a b (A4 a)with|none=>none|some g=>match Dd (Ci (A3 b) (A3 (A4 g)) 0 a) 0 b with|none=>none|some m=>some ((Ci (A3 b) (A3 (A4 g)) 0 a),k,l,(((A3 (A4 m)):Nat):Int),())
 |.inr _=>none
def Ir[Lk]:=lkk Jw
theorem NF v:Ir v=Jw v:=A1 _
def bh[Lk]:Vh->Option (Ud):=fun(a,b,_)=>
 match HT (b,a,())with|none=>none|some (d,c,_)=>some ((!c),())
def Vq[Lk]:=lkk bh
theorem gQ v:Vq v=bh v:=A1 _
abbrev AEw:A0:=[AO,(.tmp 1,.dat (.prod U0 U3))]
def WD[Lk]:(List Int×Ua×Unit)->Option (U4):=fun(b,a,_)=>
 match(ieq a.1 1)with
 |true=>match Vq (b,([a.2.1,a.2.2.1]:List (Int)),())with|none=>none|some (c,_)=>match(!c)with
  |true=>some (0,10,())
  |false=>match idx b a.2.1 with|none=>none|some d=>match idx b a.2.2.1 with|none=>none|some e=>match(ieq d e)with
  |true=>some (1,0,())
  |false=>some (0,0,())
 |false=>match(ieq a.1 2)with
 |true=>match Vq (b,([a.2.1]:List (Int)),())with|none=>none|some (f,_)=>match(!f)with
  |true=>some (0,10,())
  |false=>match(ieq a.1 2)with
  |true=>match idx b a.2.1 with|none=>none|some g=>some (g,0,())
  |false=>match bo (b,b,a.1,a.2.1,a.2.2.1,())with|none=>none|some (m,n,o,p,h,_)=>some (h,0,())
 |false=>match(ieq a.1 3)with
 |true=>match Vq (b,([a.2.1]:List (Int)),())with|none=>none|some (i,_)=>match(!i)with
  |true=>some (0,10,())
  |false=>match(ieq a.1 2)with
  |true=>match idx b a.2.1 with|none=>none|some j=>some (j,0,())
  |false=>match bo (b,b,a.1,a.2.1,a.2.2.1,())with|none=>none|some (q,r,s,t,k,_)=>some (k,0,())
 |false=>match(ieq a.1 4)with
 |true=>match lQ (b,())with|none=>none|some (l,_)=>some (l,0,())
 |false=>some (0,1,())
def YM[Lk]:=lkk WD
theorem cF v:YM v=WD v:=A1 _
def ZV[Lk]:Uh->Option (Ud):=fun(a,_)=>
 match(ilt 1000 (A4 a))with
 |true=>some (false,())
 |false=>match Hl (a,())with|none=>none|some (b,_)=>match(!b)with
 |true=>match once (a,())with|none=>none|some (c,_)=>some (c,())
 |false=>some (false,())
def UA[Lk]:=lkk ZV
theorem fC v:UA v=ZV v:=A1 _
abbrev Zp:A0:=[AT,Aq]
abbrev ABh:A0:=[AO,AW,(.tmp 12,.dat U6),AN,AVo]
abbrev ABg:BI:=[(.exit 0,[AW])]
def I5[Lk]:Vb->Option (Vb⊕Uh⊕Unit):=fun(c,a,d,e,b,_)=>
 match(ilt b e)with
 |true=>match idx d b with|none=>none|some g=>match VF (c,g,())with|none=>none|some (f,_)=>match(fits ((A4 a)+(A4 ([f]:List (Int)))))with
  |true=>some (.inl (c,(B6 a ([f]:List (Int))),d,e,(w64 (b+1)),()))
  |false=>none
 |false=>some (.inr (.inl (a,())))
def Zq[Lk]:Vh->Option ((List Int×Bool×Unit)):=fun(a,b,_)=>
 match UA (a,())with|none=>none|some (d,_)=>match(!d)with
 |true=>some (([]:List (Int)),false,())
 |false=>match A9 I5 many (a,([]:List (Int)),b,(A4 b),0,())with|none=>none|some r=>match r with
 |.inl (c,_)=>match HS (c,(-1:Int),())with|none=>none|some (e,_)=>some (c,(!e),())
 |.inr _=>none
def places[Lk]:=lkk Zq
theorem fM v:places v=Zq v:=A1 _
def jH[Lk]:Um->Option ((List Int×Bool×Unit)):=fun(a,c,_)=>
 match places (a,([c]:List (Int)),())with|none=>none|some (b,d,_)=>match(!d)with
 |true=>some (([]:List (Int)),false,())
 |false=>match idx b 0 with|none=>none|some f=>match Yh (a,(A_ b 0 0),())with|none=>none|some (e,_)=>some (e,true,())
def oA[Lk]:=lkk jH
theorem n9 v:oA v=jH v:=A1 _
def ZW[Lk]:Uh->Option (Uh):=fun(a,_)=>
 match UA (a,())with|none=>none|some (b,_)=>match(!b)with
 |true=>some (([]:List (Int)),())
 |false=>match(ieq (A4 a) 0)with
 |true=>some (([]:List (Int)),())
 |false=>match AIb (a,())with|none=>none|some (c,_)=>match VF (a,c,())with|none=>none|some (d,_)=>match Yh (a,d,())with|none=>none|some (e,_)=>some (e,())
def jF[Lk]:=lkk ZW
theorem fD v:jF v=ZW v:=A1 _
abbrev AFm:A0:=[Ad]
abbrev AAc:A0:=[Ab,AV4,(.tmp 79,.di)]
abbrev AAZ:BI:=[(.ret,[AH]),(.exit 4,[])]
def Iz[Lk]:(List Uo×Int×Int×Unit)->Option ((List Uo×Int×Int×Unit)⊕Ud⊕(Unit)⊕Unit):=fun(b,c,a,_)=>
 match(ilt a c)with
 |true=>match(ieq ((A7 b a).getD 0) 0)with
  |true=>some (.inr (.inl (false,())))
  |false=>some (.inl (b,c,(w64 (a+1)),()))
 |false=>some (.inr (.inr (.inl ())))
abbrev AWh:Loc×Con:=(.tmp 18,.di)
abbrev AWi:Loc×Con:=(.tmp 29,.di)
abbrev AWj:Loc×Con:=(.tmp 47,.di)
abbrev AWk:Loc×Con:=(.tmp 28,.di)
abbrev AAd:A0:=[AWa,AL,Ar,Ab,AR,(.tmp 16,.dat Uf),(.tmp 17,.di),AWh,(.tmp 26,.dat U6),AWk,AWi,(.tmp 30,.dat .bool),(.tmp 33,.dat U6),(.tmp 34,.dat .bool),(.tmp 35,.dat .bool),(.tmp 38,.dat U6),AVc,(.tmp 40,.dat U6),(.tmp 42,.di),(.tmp 43,.dat .bool),(.tmp 46,.ptr' 0 0),AWj,(.tmp 48,.dat U6),(.tmp 49,.dat .bool),(.tmp 50,.dat .bool),(.tmp 55,.dat U6),(.tmp 56,.di),(.tmp 57,.di)]
abbrev AAa:BI:=[(.ret,[AH]),(.exit 2,[AWa,AL,Ar,Ab,AR,(.tmp 16,.dat Uf),(.tmp 17,.di),AWh,(.tmp 26,.dat U6),AWk,AWi,(.tmp 30,.dat .bool),(.tmp 33,.dat U6),(.tmp 34,.dat .bool),(.tmp 35,.dat .bool),(.tmp 38,.dat U6),AVc,(.tmp 40,.dat U6),(.tmp 42,.di),(.tmp 43,.dat .bool),(.tmp 46,.ptr' 0 0),AWj,(.tmp 48,.dat U6),(.tmp 49,.dat .bool),(.tmp 50,.dat .bool)])]
def I0[Lk]:Ux->Option (Ux⊕Ud⊕(Int×List U7×List Uo×Int×List U7×Int×Int×List Int×Int×Int×Bool×List Int×Bool×Bool×List Int×Int×List Int×Int×Bool×Int×List Int×Bool×Bool×Unit)⊕Unit):=fun(c,e,a,f,g,h,i,j,k,l,m,n,o,p,q,r,s,t,u,v,w,x,y,z,A,d,_)=>
 match(ilt d A)with
 |true=>match idx z d with|none=>none|some b=>match(ilt b c)with
  |true=>match(ilt 0 ((A7 a b).getD 0))with
   |true=>some (.inr (.inl (false,())))
   |false=>some (.inl (c,e,(BF a b (w64 (((A7 a b).getD 0)+1))),f,g,h,i,j,k,l,m,n,o,p,q,r,s,t,u,v,w,x,y,z,A,(w64 (d+1)),()))
  |false=>some (.inl (c,e,(BF a b (w64 (((A7 a b).getD 0)+1))),f,g,h,i,j,k,l,m,n,o,p,q,r,s,t,u,v,w,x,y,z,A,(w64 (d+1)),()))
 |false=>some (.inr (.inr (.inl (c,e,a,f,g,h,i,j,k,l,m,n,o,p,q,r,s,t,u,v,w,x,y,()))))
abbrev AAe:A0:=[AWa,AL,Ar,Ab,AR,(.tmp 16,.dat Uf),(.tmp 17,.di),AWh]
abbrev AAb:BI:=[(.ret,[AH]),(.exit 0,[AWa,AL,Ar,Ab])]
def G0[Lk]:(Int×List U7×List Uo×Int×List U7×Int×Int×Unit)->Option ((Int×List U7×List Uo×Int×List U7×Int×Int×Unit)⊕Ud⊕(Int×List U7×List Uo×Unit)⊕Unit):=fun(b,j,k,c,l,m,d,_)=>
 match(ilt d m)with
 |true=>match idx l d with|none=>none|some a=>match(ieq (A4 a) 0)with
  |true=>some (.inr (.inl (false,())))
  |false=>match idx a 0 with|none=>none|some e=>match(ile e c)with
  |true=>some (.inr (.inl (false,())))
  |false=>match UA (a,())with|none=>none|some (f,_)=>match(!f)with
  |true=>some (.inr (.inl (false,())))
  |false=>match AIb (a,())with|none=>none|some (g,_)=>match idx a 0 with|none=>none|some h=>match(!(ieq g h))with
  |true=>some (.inr (.inl (false,())))
  |false=>match goes (b,a,())with|none=>none|some (i,_)=>match(!i)with
  |true=>some (.inr (.inl (false,())))
  |false=>match idx a 0 with|none=>none|some n=>match A9 I0 many (b,j,k,n,l,m,d,a,e,c,(ile e c),a,f,(!f),a,g,a,h,(!(ieq g h)),b,a,i,(!i),a,(A4 a),0,())with|none=>none|some r=>match r with
  |.inl (o,_)=>some (.inr (.inl (o,())))
  |.inr r=>match r with
  |.inl (p,q,s,t,u,v,w,x,y,z,A,B,C,D,E,F,G,H,I,J,K,L,M,_)=>some (.inl (p,q,s,t,u,v,(w64 (w+1)),()))
  |.inr _=>none
 |false=>some (.inr (.inr (.inl (b,j,k,()))))
def Yo[Lk]:(Un×Unit)->Option (Ud):=fun(a,_)=>
 match QG (a.1,())with|none=>none|some (b,_)=>match(!b)with
 |true=>some (false,())
 |false=>match A9 G0 many (a.1,a.2.1,([]:List Uo),(-1:Int),a.2.1,(A4 a.2.1),0,())with|none=>none|some r=>match r with
 |.inl (c,_)=>some (c,())
 |.inr r=>match r with
 |.inl (d,g,e,_)=>match A9 Iz many (e,d,0,())with|none=>none|some r=>match r with
  |.inl (f,_)=>some (f,())
  |.inr r=>match r with
  |.inl _=>some (true,())
  |.inr _=>none
 |.inr _=>none
def NU[Lk]:=lkk Yo
theorem eN v:NU v=Yo v:=A1 _
abbrev zw:A0:=[Ad,AF,AG]
def mQ[Lk]:(Un×Int×Int×Unit)->Option (Ub):=fun(a,b,c,_)=>
 match NU ((a.1,(a.2.1,())),())with|none=>none|some (d,_)=>match(!d)with
 |true=>some (1,())
 |false=>match tin (a.1,b,())with|none=>none|some (e,_)=>match(!e)with
 |true=>some (10,())
 |false=>match tin (a.1,c,())with|none=>none|some (f,_)=>match(!f)with
 |true=>some (10,())
 |false=>some (0,())
def asked[Lk]:=lkk mQ
theorem rp v:asked v=mQ v:=A1 _
abbrev ALi:A0:=[Ad,Ae,(.tmp 2,.dat Uf)]
abbrev ALh:A0:=[AA,(.tmp 1,.own 56 U6)]
abbrev ALg:List RS:=[.agg 2]
abbrev AWl:Loc×Con:=(.tmp 7,.own 56 U6)
abbrev AWm:Loc×Con:=(.cell 1 1,.nil U6)
abbrev AWn:Loc×Con:=(.tmp 6,.box 2)
abbrev AFe:A0:=[AWc,AL,Ar,AWn,AJ,AWm,AWl,(.tmp 29,.dat Uf),(.tmp 30,.di),(.tmp 31,.di)]
abbrev AFc:BI:=[(.exit 2,[AWc,AL,Ar,AWn,AJ,AWm,AWl])]
def NS[Lk]:(Int×List U7×Int×List U7×List U7×Int×Int×Unit)->Option ((Int×List U7×Int×List U7×List U7×Int×Int×Unit)⊕(Int×List U7×Int×List U7×Unit)⊕Unit):=fun(c,d,e,a,f,g,b,_)=>
 match(ilt b g)with
 |true=>match idx f b with|none=>none|some i=>match jF (i,())with|none=>none|some (h,_)=>match(fits ((A4 a)+(A4 ([h]:List U7))))with
  |true=>some (.inl (c,d,e,(B6 a ([h]:List U7)),f,g,(w64 (b+1)),()))
  |false=>none
 |false=>some (.inr (.inl (c,d,e,a,())))
abbrev AFf:A0:=[Ae,(.tmp 2,.dat Uf),AWc,AL,Ar,AWn,AJ,AWm,AWl,(.tmp 13,.dat Uf),AVo,AVx]
abbrev AFd:BI:=[(.exit 0,[(.tmp 2,.dat Uf),AWc,AL,Ar,AWn,AJ,AWm,AWl])]
def NT[Lk]:(List Int×List U7×Int×List U7×Int×List U7×List U7×Int×Int×Unit)->Option ((List Int×List U7×Int×List U7×Int×List U7×List U7×Int×Int×Unit)⊕(List U7×Int×List U7×Int×List U7×Unit)⊕Unit):=fun(c,d,e,f,g,b,h,i,a,_)=>
 match(ilt a i)with
 |true=>match idx h a with|none=>none|some j=>match HS (c,a,())with|none=>none|some (k,_)=>match(!k)with
  |true=>match(fits ((A4 b)+(A4 ([j]:List U7))))with
   |true=>some (.inl (c,d,e,f,g,(B6 b ([j]:List U7)),h,i,(w64 (a+1)),()))
   |false=>none
  |false=>some (.inl (c,d,e,f,g,b,h,i,(w64 (a+1)),()))
 |false=>some (.inr (.inl (d,e,f,g,b,())))
def iJ[Lk]:(Un×List Int×List U7×Unit)->Option ((Int×List U7×Unit)):=fun(a,c,d,_)=>
 match A9 NT many (c,d,a.1,a.2.1,0,([]:List U7),a.2.1,(A4 a.2.1),0,())with|none=>none|some r=>match r with
 |.inl (b,e,f,g,h,_)=>match A9 NS many (e,f,g,h,b,(A4 b),0,())with|none=>none|some r=>match r with
  |.inl (i,l,m,j,_)=>match yH (j,())with|none=>none|some (k,_)=>some (i,k,())
  |.inr _=>none
 |.inr _=>none
def xv[Lk]:=lkk iJ
theorem m7 v:xv v=iJ v:=A1 _
abbrev ALp:A0:=[AA,(.tmp 1,.dat Uf),AG]
def Xp[Lk]:(Un×Int×Int×Unit)->Option ((Int×List U7×Int×Unit)):=fun(a,b,c,_)=>
 match asked ((a.1,(a.2.1,())),b,c,())with|none=>none|some (g,_)=>match(!(ieq g 0))with
 |true=>some (a.1,a.2.1,g,())
 |false=>match To ((a.1,(a.2.1,())),b,())with|none=>none|some (e,_)=>match To ((a.1,(a.2.1,())),c,())with|none=>none|some (f,_)=>match(ieq e f)with
 |true=>some (a.1,a.2.1,5,())
 |false=>match idx a.2.1 e with|none=>none|some h=>match oA (h,b,())with|none=>none|some (d,r,_)=>match idx a.2.1 f with|none=>none|some i=>match oA (i,c,())with|none=>none|some (j,s,_)=>match Dd d 0 1 with|none=>none|some k=>match AF9 (a.1,b,c,())with|none=>none|some (l,_)=>match AF9 (a.1,c,b,())with|none=>none|some (m,_)=>match Dd d 1 (A4 d)with|none=>none|some n=>match PY (([(KE 0 (A3 (A4 k)) d),([l]:List (Int)),j,([m]:List (Int)),(KE 1 (A3 (A4 n)) d)]:List U7),())with|none=>none|some (o,_)=>match xv ((a.1,(a.2.1,())),([e,f]:List (Int)),([o]:List U7),())with|none=>none|some (p,q,_)=>some (p,q,0,())
def eP[Lk]:=lkk Xp
theorem Yr v:eP v=Xp v:=A1 _
abbrev AJa:A0:=[Ad,Ae]
def bA[Lk]:(Un×List Int×Unit)->Option (Ub):=fun(a,b,_)=>
 match NU ((a.1,(a.2.1,())),())with|none=>none|some (c,_)=>match(!c)with
 |true=>some (1,())
 |false=>match Fp (b,a.1,a.2.1,())with|none=>none|some (e,f,d,_)=>match d with
 |true=>some (10,())
 |false=>some (0,())
def Mq[Lk]:=lkk bA
theorem fu v:Mq v=bA v:=A1 _
abbrev wR:A0:=[Ad,AWA,(.tmp 2,.clo 97 [])]
abbrev bO:A0:=[Ad,(.tmp 1,.own 4 .bool),AG]
abbrev qg:A0:=[(.tmp 2,.clo 97 []),AWc,AL,Ar,AWn,AJ,AWm,(.tmp 10,.own 4 .bool),(.tmp 23,.dat Uu),(.tmp 24,.di),AVJ]
abbrev qf:BI:=[(.exit 0,[AWc,AL,Ar,AWn,AJ,AWm,(.tmp 10,.own 4 .bool)])]
def IE[Lk]:(Int×List U7×Int×List Bool×List U4×Int×Int×Unit)->Option ((Int×List U7×Int×List Bool×List U4×Int×Int×Unit)⊕(Int×List U7×Int×List Bool×Unit)⊕Unit):=fun(c,d,e,a,f,g,b,_)=>
 match(ilt b g)with
 |true=>match idx f b with|none=>none|some h=>match eP ((c,(d,())),h.1,h.2.1,())with|none=>none|some (j,k,i,_)=>match(fits ((A4 a)+(A4 ([(ieq i 0)]:List (Bool)))))with
  |true=>some (.inl (j,k,e,(B6 a ([(ieq i 0)]:List (Bool))),f,g,(w64 (b+1)),()))
  |false=>none
 |false=>some (.inr (.inl (c,d,e,a,())))
def RD[Lk]:(Un×List U4×Unit)->Option ((Un×List Bool×Int×Unit)):=fun(a,b,_)=>
 match ends (b,())with|none=>none|some (d,_)=>match Mq ((a.1,(a.2.1,())),d,())with|none=>none|some (c,_)=>match(!(ieq c 0))with
 |true=>some ((a.1,(a.2.1,())),([]:List (Bool)),c,())
 |false=>match A9 IE many (a.1,a.2.1,0,([]:List (Bool)),b,(A4 b),0,())with|none=>none|some r=>match r with
 |.inl (e,f,h,g,_)=>some ((e,(f,())),g,0,())
 |.inr _=>none
def bP[Lk]:=lkk RD
theorem W7 v:bP v=RD v:=A1 _
abbrev bE:A0:=[Ad,AWA]
def bF[Lk]:(Un×List U4×Unit)->Option ((Un×List Bool×Int×Unit)):=fun(a,c,_)=>
 match bP ((a.1,(a.2.1,())),c,())with|none=>none|some (b,d,e,_)=>some ((b.1,(b.2.1,())),d,e,())
def wL[Lk]:=lkk bF
theorem gD v:wL v=bF v:=A1 _
def AJk[Lk]:(Int×List U4×Unit)->Option ((Un×Int×Unit)):=fun(d,e,_)=>
 match yA (d,())with|none=>none|some (f,g,a,_)=>match(!(ieq a 0))with
 |true=>some ((0,(([]:List U7),())),a,())
 |false=>match wL ((f,(g,())),e,())with|none=>none|some (b,h,c,_)=>match(!(ieq c 0))with
 |true=>some ((0,(([]:List U7),())),c,())
 |false=>some ((b.1,(b.2.1,())),0,())
def fof[Lk]:=lkk AJk
theorem AJj v:fof v=AJk v:=A1 _
abbrev AC9:A0:=[AWa,AL,AV9,AS,(.tmp 23,.dat Ue),(.tmp 24,.di),AVJ]
def HH[Lk]:Vc->Option (Vc⊕Ud⊕(Int×List U2×Unit)⊕Unit):=fun(c,d,f,g,h,b,_)=>
 match(ilt b h)with
 |true=>match idx g b with|none=>none|some a=>match(ilt a.1 0)with
  |true=>some (.inr (.inl (false,())))
  |false=>match(ile a.2.1 a.1)with
  |true=>some (.inr (.inl (false,())))
  |false=>match(ile c a.2.1)with
  |true=>some (.inr (.inl (false,())))
  |false=>match(ilt a.2.2.1 0)with
  |true=>some (.inr (.inl (false,())))
  |false=>match(ilt f a.2.2.1)with
  |true=>some (.inr (.inl (false,())))
  |false=>match(ilt 0 b)with
  |true=>match idx d (w64 (b-1))with|none=>none|some e=>match Fb ((e.1,(e.2.1,(e.2.2.1,(e.2.2.2.1,())))),(a.1,(a.2.1,(a.2.2.1,(a.2.2.2.1,())))),())with|none=>none|some (i,_)=>match(ile 0 i)with
   |true=>some (.inr (.inl (false,())))
   |false=>some (.inl (c,d,f,g,h,(w64 (b+1)),()))
  |false=>some (.inl (c,d,f,g,h,(w64 (b+1)),()))
 |false=>some (.inr (.inr (.inl (c,d,()))))
def LR[Lk]:(Uc×Unit)->Option (Ud):=fun(a,_)=>
 match aH (a.1,())with|none=>none|some (d,_)=>match(!d)with
 |true=>some (false,())
 |false=>match(ilt 400 (A4 a.2.1))with
 |true=>some (false,())
 |false=>match dL (a.1,())with|none=>none|some (e,_)=>match A9 HH many (a.1,a.2.1,e,a.2.1,(A4 a.2.1),0,())with|none=>none|some r=>match r with
 |.inl (f,_)=>some (f,())
 |.inr r=>match r with
 |.inl (b,g,_)=>match UU ((b,(g,())),0,())with|none=>none|some (c,_)=>match fof (b,c,())with|none=>none|some (h,i,_)=>match(ieq i 0)with
  |true=>some ((ieq (A4 h.2.1) (w64 (b-(A4 c)))),())
  |false=>some (false,())
 |.inr _=>none
def Cu[Lk]:=lkk LR
theorem LQ v:Cu v=LR v:=A1 _
def AFs[Lk]:(Un×Int×Unit)->Option (Ub):=fun(a,b,_)=>
 match tin (a.1,b,())with|none=>none|some (c,_)=>match(!c)with
 |true=>some ((-1:Int),())
 |false=>match NU ((a.1,(a.2.1,())),())with|none=>none|some (d,_)=>match(!d)with
 |true=>some ((-1:Int),())
 |false=>match To ((a.1,(a.2.1,())),b,())with|none=>none|some (e,_)=>some (e,())
def tof[Lk]:=lkk AFs
theorem AFr v:tof v=AFs v:=A1 _
def PH[Lk]:(Uc×Int×Unit)->Option ((Un×Int×Unit)):=fun(a,c,_)=>
 match Cu ((a.1,(a.2.1,())),())with|none=>none|some (d,_)=>match(!d)with
 |true=>some ((0,(([]:List U7),())),1,())
 |false=>match UU ((a.1,(a.2.1,())),c,())with|none=>none|some (e,_)=>match fof (a.1,e,())with|none=>none|some (b,f,_)=>some ((b.1,(b.2.1,())),f,())
def PI[Lk]:=lkk PH
theorem Qp v:PI v=PH v:=A1 _
abbrev ADI:A0:=[AWZ,(.tmp 10,.dat Ue),AZ,AM]
def LU[Lk]:(List U4×List U2×Int×Int×Unit)->Option ((List U4×List U2×Int×Int×Unit)⊕V1⊕Unit):=fun(b,d,e,c,_)=>
 match(ilt c e)with
 |true=>match idx d c with|none=>none|some a=>match(fits ((A4 b)+(A4 ([(a.1,(a.2.1,()))]:List U4))))with
  |true=>some (.inl ((B6 b ([(a.1,(a.2.1,()))]:List U4)),d,e,(w64 (c+1)),()))
  |false=>none
 |false=>some (.inr (.inl (b,())))
def aM[Lk]:(Uc×Unit)->Option (V1):=fun(a,_)=>
 match Cu ((a.1,(a.2.1,())),())with|none=>none|some (b,_)=>match(!b)with
 |true=>some (([]:List U4),())
 |false=>match A9 LU many (([]:List U4),a.2.1,(A4 a.2.1),0,())with|none=>none|some r=>match r with
 |.inl (c,_)=>some (c,())
 |.inr _=>none
def UZ[Lk]:=lkk aM
theorem fa v:UZ v=aM v:=A1 _
abbrev X3:A0:=[AD,AWA]
abbrev jW:A0:=[Av,AF]
abbrev AHo:A0:=[AK,AL,AV9,(.tmp 6,.box 1),Ay,(.tmp 13,.dat Uu),AVo,AVx]
abbrev AHn:BI:=[(.ret,[(.tmp 4,.nil U3),AVU]),(.exit 0,[AK,AL,AV9,(.tmp 6,.box 1),Ay])]
def H0[Lk]:(Int×List U2×List V7×List U4×Int×Int×Unit)->Option ((Int×List U2×List V7×List U4×Int×Int×Unit)⊕Ub⊕(Int×List U2×List V7×Unit)⊕Unit):=fun(c,e,b,f,g,d,_)=>
 match(ilt d g)with
 |true=>match idx f d with|none=>none|some a=>match(ilt (C7 a.1 a.2.1) 0)with
  |true=>some (.inr (.inl (10,())))
  |false=>match(ile c (imax a.1 a.2.1))with
  |true=>some (.inr (.inl (10,())))
  |false=>match(ile 0 (SC b ((C7 a.1 a.2.1),((imax a.1 a.2.1),())))&&ilt (SC b ((C7 a.1 a.2.1),((imax a.1 a.2.1),()))) (A4 (BF b ((C7 a.1 a.2.1),((imax a.1 a.2.1),())) ((A7 b ((C7 a.1 a.2.1),((imax a.1 a.2.1),()))).getD 0))))with
  |true=>some (.inl (c,e,(pd (BF b ((C7 a.1 a.2.1),((imax a.1 a.2.1),())) ((A7 b ((C7 a.1 a.2.1),((imax a.1 a.2.1),()))).getD 0)) (SC b ((C7 a.1 a.2.1),((imax a.1 a.2.1),()))) (w64 (((A7 b ((C7 a.1 a.2.1),((imax a.1 a.2.1),()))).getD 0)+1))),f,g,(w64 (d+1)),()))
  |false=>none
 |false=>some (.inr (.inr (.inl (c,e,b,()))))
def jX[Lk]:(Uc×List U4×Unit)->Option ((List U4×Int×Unit)):=fun(a,b,_)=>
 match Cu ((a.1,(a.2.1,())),())with|none=>none|some (c,_)=>match(!c)with
 |true=>some (([]:List U4),1,())
 |false=>match A9 H0 many (a.1,a.2.1,([]:List V7),b,(A4 b),0,())with|none=>none|some r=>match r with
 |.inl (d,_)=>some (([]:List U4),d,())
 |.inr r=>match r with
 |.inl (e,f,g,_)=>match UZ ((e,(f,())),())with|none=>none|some (h,_)=>match My (h,g,())with|none=>none|some (i,k,j,_)=>some ((DA (A3 j) i),0,())
 |.inr _=>none
def fO[Lk]:=lkk jX
theorem oN v:fO v=jX v:=A1 _
abbrev AWo:Loc×Con:=(.tmp 6,.map U3 U0)
abbrev AOG:A0:=[AK,AL,AV9,AWo,(.tmp 9,.own 47 U3),(.tmp 26,.dat Uu),AX,AWk]
abbrev AOE:BI:=[(.ret,[(.tmp 4,.nil U3),AVU]),(.exit 2,[(.tmp 9,.own 47 U3)])]
def PO[Lk]:(Int×List U2×List V7×List U4×List U4×Int×Int×Unit)->Option ((Int×List U2×List V7×List U4×List U4×Int×Int×Unit)⊕Ub⊕V1⊕Unit):=fun(d,h,e,b,f,g,c,_)=>
 match(ilt c g)with
 |true=>match idx f c with|none=>none|some a=>match(ilt (C7 a.1 a.2.1) 0)with
  |true=>some (.inr (.inl (10,())))
  |false=>match(ile d (imax a.1 a.2.1))with
  |true=>some (.inr (.inl (10,())))
  |false=>match(ilt (C7 a.1 a.2.1) (imax a.1 a.2.1))with
  |true=>match(ieq ((A7 e ((C7 a.1 a.2.1),((imax a.1 a.2.1),()))).getD 0) 0)with
   |true=>match(fits ((A4 b)+(A4 ([((C7 a.1 a.2.1),((imax a.1 a.2.1),()))]:List U4))))with
    |true=>some (.inl (d,h,(BF e ((C7 a.1 a.2.1),((imax a.1 a.2.1),())) 1),(B6 b ([((C7 a.1 a.2.1),((imax a.1 a.2.1),()))]:List U4)),f,g,(w64 (c+1)),()))
    |false=>none
   |false=>some (.inl (d,h,e,b,f,g,(w64 (c+1)),()))
  |false=>some (.inl (d,h,e,b,f,g,(w64 (c+1)),()))
 |false=>some (.inr (.inr (.inl (b,()))))
abbrev AOH:A0:=[AWA,AK,AL,AV9,AWo,(.tmp 17,.own 47 U3),AWh,AV3]
abbrev AOF:BI:=[(.exit 0,[AWA,AK,AL,AV9,AWo])]
def PQ[Lk]:(List U4×Int×List U2×List V7×List U4×Int×Int×Unit)->Option ((List U4×Int×List U2×List V7×List U4×Int×Int×Unit)⊕(List U4×Int×List U2×List V7×Unit)⊕Unit):=fun(c,d,e,f,b,g,a,_)=>
 match(ilt a g)with
 |true=>match idx b a with|none=>none|some h=>some (.inl (c,d,e,(BF f ((A_ b (A3 a) (0,(0,()))).1,((A_ b (A3 a) (0,(0,()))).2.1,())) 1),b,g,(w64 (a+1)),()))
 |false=>some (.inr (.inl (c,d,e,f,())))
def wA[Lk]:(Uc×List U4×Unit)->Option ((List U4×Int×Unit)):=fun(a,d,_)=>
 match Cu ((a.1,(a.2.1,())),())with|none=>none|some (e,_)=>match(!e)with
 |true=>some (([]:List U4),1,())
 |false=>match UZ ((a.1,(a.2.1,())),())with|none=>none|some (b,_)=>match A9 PQ many (d,a.1,a.2.1,([]:List V7),b,(A4 b),0,())with|none=>none|some r=>match r with
 |.inl (c,f,g,h,_)=>match A9 PO many (f,g,h,([]:List U4),c,(A4 c),0,())with|none=>none|some r=>match r with
  |.inl (i,_)=>some (([]:List U4),i,())
  |.inr r=>match r with
  |.inl (j,_)=>match yI (j,())with|none=>none|some (k,_)=>some (k,0,())
  |.inr _=>none
 |.inr _=>none
def AJW[Lk]:=lkk wA
theorem zS v:AJW v=wA v:=A1 _
def mS[Lk]:(Uc×Unit)->Option (Ub):=fun(a,_)=>
 match Cu ((a.1,(a.2.1,())),())with|none=>none|some (b,_)=>match(!b)with
 |true=>some (0,())
 |false=>some ((w64 (400-(A4 a.2.1))),())
def zx[Lk]:=lkk mS
theorem rq v:zx v=mS v:=A1 _
abbrev Oo:A0:=[AD,(.tmp 1,.dat (.prod U0 (.prod Uu (.prod V4 .unit)))),(.tmp 2,.dat V8)]
abbrev ALP:A0:=[AA,(.tmp 1,.own 47 U3),(.tmp 2,.dat V4),AS,AR]
def Lt[Lk]:(Uc×Uz×V5×Unit)->Option ((Int×List U4×List Ua×Int×Int×Unit)):=fun(c,a,b,_)=>
 match Cu ((c.1,(c.2.1,())),())with|none=>none|some (j,_)=>match(!j)with
 |true=>some (0,([]:List U4),([]:List Ua),0,1,())
 |false=>match hJ ((a.1,(a.2.1,(a.2.2.1,()))),())with|none=>none|some (k,_)=>match(!k)with
 |true=>some (0,([]:List U4),([]:List Ua),0,1,())
 |false=>match zv ((a.1,(a.2.1,(a.2.2.1,()))),())with|none=>none|some (l,_)=>match Kh (l,c.1,c.2.1,())with|none=>none|some (d,e,m,_)=>match m with
 |true=>some (0,([]:List U4),([]:List Ua),0,10,())
 |false=>match(ieq a.1 3)with
 |true=>some (a.1,([]:List U4),a.2.2.1,0,0,())
 |false=>match ba (a.2.1,(b.1,(b.2.1,((b.2.2.1.1,(b.2.2.1.2.1,(b.2.2.1.2.2.1,()))),()))),())with|none=>none|some (f,g,h,_)=>match(!(ieq h 0))with
 |true=>some (0,([]:List U4),([]:List Ua),0,h,())
 |false=>match(ieq a.1 2)with
 |true=>match fO ((d,(e,())),f,())with|none=>none|some (n,o,_)=>some (a.1,n,([]:List Ua),g,o,())
 |false=>match AJW ((d,(e,())),f,())with|none=>none|some (i,p,_)=>match zx ((d,(e,())),())with|none=>none|some (q,_)=>match(ilt q (A4 i))with
 |true=>some (0,([]:List U4),([]:List Ua),0,2,())
 |false=>some (a.1,i,([]:List Ua),g,p,())
def K4[Lk]:=lkk Lt
theorem Ls v:K4 v=Lt v:=A1 _
def jy[Lk]:(Uc×Int×Int×Unit)->Option (Ub):=fun(a,b,c,_)=>
 match Cu ((a.1,(a.2.1,())),())with|none=>none|some (d,_)=>match(!d)with
 |true=>some ((-1:Int),())
 |false=>match vh ((a.1,(a.2.1,())),b,c,())with|none=>none|some (e,f,_)=>match(!f)with
 |true=>some ((-1:Int),())
 |false=>some (e,())
def pw[Lk]:=lkk jy
theorem pr v:pw v=jy v:=A1 _
def RB[Lk]:(Un×Int×Unit)->Option (Um):=fun(a,b,_)=>
 match Mq ((a.1,(a.2.1,())),([b]:List (Int)),())with|none=>none|some (c,_)=>match(!(ieq c 0))with
 |true=>some (([]:List (Int)),c,())
 |false=>match tof ((a.1,(a.2.1,())),b,())with|none=>none|some (d,_)=>match idx a.2.1 d with|none=>none|some e=>match M6 e with|none=>none|some f=>match Ir (f,a.1,a.2.1,())with|none=>none|some (g,j,k,h,_)=>match nT ((DA (A3 h) g),())with|none=>none|some (i,_)=>some (i,0,())
def Ld[Lk]:=lkk RB
theorem Wz v:Ld v=RB v:=A1 _
def SD[Lk]:(Uc×Int×Int×Unit)->Option (U4):=fun(a,b,c,_)=>
 match Cu ((a.1,(a.2.1,())),())with|none=>none|some (e,_)=>match(!e)with
 |true=>some (0,1,())
 |false=>match(ilt (C7 b c) 0)with
 |true=>some (0,10,())
 |false=>match(ile a.1 (imax b c))with
 |true=>some (0,10,())
 |false=>match pw ((a.1,(a.2.1,())),b,c,())with|none=>none|some (d,_)=>match(ilt d 0)with
 |true=>some (0,6,())
 |false=>some (d,0,())
def UI[Lk]:=lkk SD
theorem UH v:UI v=SD v:=A1 _
abbrev AMh:A0:=[AD,AF,AG,AS]
def X0[Lk]:(Uc×Int×Int×Int×Unit)->Option (Um):=fun(b,g,f,h,_)=>
 match UI ((b.1,(b.2.1,())),g,f,())with|none=>none|some (m,c,_)=>match(ieq c 1)with
 |true=>some (([]:List (Int)),c,())
 |false=>match(ieq c 10)with
 |true=>some (([]:List (Int)),c,())
 |false=>match PI ((b.1,(b.2.1,())),h,())with|none=>none|some (d,n,_)=>match Ld ((d.1,(d.2.1,())),g,())with|none=>none|some (a,o,_)=>match Ld ((d.1,(d.2.1,())),f,())with|none=>none|some (e,p,_)=>match HS (a,f,())with|none=>none|some (i,_)=>match i with
 |true=>some (([]:List (Int)),5,())
 |false=>match Eb ((A4 a),(A4 e),())with|none=>none|some (j,_)=>match idx a 0 with|none=>none|some q=>match idx e 0 with|none=>none|some r=>match Eb ((A_ a 0 0),(A_ e 0 0),())with|none=>none|some (k,_)=>match orI (([j,k]:List (Int)),())with|none=>none|some (l,_)=>match(ilt l 0)with
 |true=>some (a,0,())
 |false=>some (e,0,())
def yP[Lk]:=lkk X0
theorem Zj v:yP v=X0 v:=A1 _
abbrev AWp:Loc×Con:=(.cell 0 1,.own 61 U1)
abbrev AWq:Loc×Con:=(.cell 0 2,.dat .bool)
abbrev AWr:Loc×Con:=(.cell 0 4,.di)
abbrev ARU:A0:=[(.tmp 0,.box 8),AL,AWp,AWq,AWE,AWr,AVb,AVa,AVh,AF,AG,AS]
abbrev ART:A0:=[AVm,AL,AWp,AWq,AWE,AWr,AVb,AVa,AVh,AVk,AE]
abbrev AWs:Loc×Con:=(.tmp 14,.clo 90 [(2,0)])
abbrev AWt:Loc×Con:=(.cell 2 0,.map U0 U0)
abbrev AQH:A0:=[AVm,AL,AWp,AWq,AWE,AWr,AVb,AVa,AVh,AVk,AVn,(.cap 14 0,.box 1),AWt,AWs,(.tmp 86,.prs 183 1),(.tmp 87,.di),(.tmp 88,.di)]
abbrev AQE:BI:=[(.exit 5,[AVm,AL,AWp,AWq,AWE,AWr,AVb,AVa,AVh,AVk]),(.ret,[AVm,AL,AWp,AWq,AWE,AWr,AVb,AVa,AVh,AVk,Ap])]
def UL[Lk]:(Int×List U2×Bool×Bool×Int×Int×Int×Int×List Uo×List Int×Int×Int×Unit)->Option ((Int×List U2×Bool×Bool×Int×Int×Int×Int×List Uo×List Int×Int×Int×Unit)⊕(Int×List U2×Bool×Bool×Int×Int×Int×Int×Unit)⊕(Int×List U2×Bool×Bool×Int×Int×Int×Int×Bool×Unit)⊕Unit):=fun(f,c,g,i,j,k,h,e,d,b,l,a,_)=>
 match(ilt a l)with
 |true=>match idx b a with|none=>none|some m=>match(ieq (w64 (((A7 d (A_ c (A3 (A_ b (A3 a) 0)) (0,(0,(0,(false,()))))).1).getD 0)+((A7 d (A_ c (A3 (A_ b (A3 a) 0)) (0,(0,(0,(false,()))))).2.1).getD 0))) 0)with
  |true=>some (.inl (f,c,g,i,j,k,h,e,d,b,l,(w64 (a+1)),()))
  |false=>match(ieq (w64 (((A7 d (A_ c (A3 (A_ b (A3 a) 0)) (0,(0,(0,(false,()))))).1).getD 0)+((A7 d (A_ c (A3 (A_ b (A3 a) 0)) (0,(0,(0,(false,()))))).2.1).getD 0))) 2)with
  |true=>some (.inl (f,(Be c (A3 (A_ b (A3 a) 0)) ((A_ c (A3 (A_ b (A3 a) 0)) (0,(0,(0,(false,()))))).1,((A_ c (A3 (A_ b (A3 a) 0)) (0,(0,(0,(false,()))))).2.1,((C7 e (w64 ((A_ c (A3 (A_ b (A3 a) 0)) (0,(0,(0,(false,()))))).2.2.1+1))),((A_ c (A3 (A_ b (A3 a) 0)) (0,(0,(0,(false,()))))).2.2.2.1,()))))),g,i,j,k,(w64 (h+1)),e,d,b,l,(w64 (a+1)),()))
  |false=>match(ieq (w64 (((A7 d (A_ c (A3 (A_ b (A3 a) 0)) (0,(0,(0,(false,()))))).1).getD 0)+((A7 d (A_ c (A3 (A_ b (A3 a) 0)) (0,(0,(0,(false,()))))).2.1).getD 0))) 1)with
  |true=>some (.inr (.inr (.inl (f,(Be c (A3 (A_ b (A3 a) 0)) ((A_ c (A3 (A_ b (A3 a) 0)) (0,(0,(0,(false,()))))).1,((A_ c (A3 (A_ b (A3 a) 0)) (0,(0,(0,(false,()))))).2.1,((A_ c (A3 (A_ b (A3 a) 0)) (0,(0,(0,(false,()))))).2.2.1,(true,()))))),g,true,(A_ (Be c (A3 (A_ b (A3 a) 0)) ((A_ c (A3 (A_ b (A3 a) 0)) (0,(0,(0,(false,()))))).1,((A_ c (A3 (A_ b (A3 a) 0)) (0,(0,(0,(false,()))))).2.1,((A_ c (A3 (A_ b (A3 a) 0)) (0,(0,(0,(false,()))))).2.2.1,(true,()))))) (A3 (A_ b (A3 a) 0)) (0,(0,(0,(false,()))))).1,(A_ (Be c (A3 (A_ b (A3 a) 0)) ((A_ c (A3 (A_ b (A3 a) 0)) (0,(0,(0,(false,()))))).1,((A_ c (A3 (A_ b (A3 a) 0)) (0,(0,(0,(false,()))))).2.1,((A_ c (A3 (A_ b (A3 a) 0)) (0,(0,(0,(false,()))))).2.2.1,(true,()))))) (A3 (A_ b (A3 a) 0)) (0,(0,(0,(false,()))))).2.1,h,e,true,()))))
  |false=>some (.inl (f,c,g,i,j,k,h,e,d,b,l,(w64 (a+1)),()))
 |false=>some (.inr (.inl (f,c,g,i,j,k,h,e,())))
abbrev AQI:A0:=[AVm,AL,AWp,AWq,AWE,AWr,AVb,AVa,AVh,AVk,AVn,AS,(.cap 14 0,.box 1),AWt,AWs,(.tmp 15,.prs 183 1),AWj,(.tmp 48,.di)]
abbrev AQF:BI:=[(.exit 2,[AVm,AL,AWp,AWq,AWE,AWr,AVb,AVa,AVh,AVk,AVn,(.cap 14 0,.box 1),AWt,AWs,(.tmp 15,.prs 183 1)])]
def UM[Lk]:Ur->Option (Ur⊕(Int×List U2×Bool×Bool×Int×Int×Int×Int×List Uo×List Int×Unit)⊕Unit):=fun(f,b,g,h,i,j,k,d,l,c,e,m,a,_)=>
 match(ilt a m)with
 |true=>match idx b a with|none=>none|some n=>match(!(ieq (A_ b (A3 a) (0,(0,(0,(false,()))))).2.2.1 l))with
  |true=>some (.inl (f,b,g,h,i,j,k,d,l,c,e,m,(w64 (a+1)),()))
  |false=>match(!(A_ b (A3 a) (0,(0,(0,(false,()))))).2.2.2.1)with
  |true=>match(fits ((A4 e)+(A4 ([(Int.ofNat (A3 a))]:List (Int)))))with
   |true=>some (.inl (f,b,g,h,i,j,k,d,l,c,(B6 e ([(Int.ofNat (A3 a))]:List (Int))),m,(w64 (a+1)),()))
   |false=>none
  |false=>match(ieq (w64 (((A7 c (A_ b (A3 a) (0,(0,(0,(false,()))))).1).getD 0)+((A7 c (A_ b (A3 a) (0,(0,(0,(false,()))))).2.1).getD 0))) 2)with
  |true=>some (.inl (f,(Be b (A3 a) ((A_ b (A3 a) (0,(0,(0,(false,()))))).1,((A_ b (A3 a) (0,(0,(0,(false,()))))).2.1,((C7 d (w64 ((A_ b (A3 a) (0,(0,(0,(false,()))))).2.2.1+1))),((A_ b (A3 a) (0,(0,(0,(false,()))))).2.2.2.1,()))))),g,h,i,j,(w64 (k+1)),d,l,c,e,m,(w64 (a+1)),()))
  |false=>some (.inl (f,b,g,h,i,j,k,d,l,c,e,m,(w64 (a+1)),()))
 |false=>some (.inr (.inl (f,b,g,h,i,j,k,d,c,e,())))
abbrev AQJ:A0:=[AVm,AL,AWp,AWq,AWE,AWr,AVb,AVa,AVh,AVk,AVn,AS,(.tmp 11,.box 1),AWt,(.tmp 32,.own 3 U0),(.tmp 33,.di),(.tmp 34,.di)]
abbrev AQG:BI:=[(.exit 0,[AVm,AL,AWp,AWq,AWE,AWr,AVb,AVa,AVh,AVk,AVn,AS,(.tmp 11,.box 1),AWt])]
def UN[Lk]:Ur->Option (Ur⊕(Int×List U2×Bool×Bool×Int×Int×Int×Int×Int×List Uo×Unit)⊕Unit):=fun(c,d,e,f,g,h,i,j,k,l,b,m,a,_)=>
 match(ilt a m)with
 |true=>match idx b a with|none=>none|some n=>some (.inl (c,d,e,f,g,h,i,j,k,(BF l (A_ b (A3 a) 0) 1),b,m,(w64 (a+1)),()))
 |false=>some (.inr (.inl (c,d,e,f,g,h,i,j,k,l,())))
def AHx[Lk]:(Int×List U2×Bool×Bool×Int×Int×Int×Int×Int×Int×Int×Unit)->Option ((Int×List U2×Bool×Bool×Int×Int×Int×Int×Bool×Unit)):=fun(a,b,g,h,i,j,k,l,m,n,c,_)=>
 match yP ((a,(b,())),m,n,c,())with|none=>none|some (d,Y,_)=>match A9 UN many (a,b,g,h,i,j,k,l,c,([]:List Uo),d,(A4 d),0,())with|none=>none|some r=>match r with
 |.inl (o,e,p,q,s,t,u,v,w,x,_)=>match A9 UM many (o,e,p,q,s,t,u,v,w,x,([]:List (Int)),(A4 e),0,())with|none=>none|some r=>match r with
  |.inl (y,z,A,B,C,D,E,F,G,f,_)=>match A9 UL many (y,z,A,B,C,D,E,F,G,f,(A4 f),0,())with|none=>none|some r=>match r with
   |.inl (H,I,J,K,L,M,N,O,_)=>some (H,I,J,K,L,M,N,O,false,())
   |.inr r=>match r with
   |.inl (P,Q,R,S,T,U,V,W,X,_)=>some (P,Q,R,S,T,U,V,W,X,())
   |.inr _=>none
  |.inr _=>none
 |.inr _=>none
def pat[Lk]:=lkk AHx
theorem AHw v:pat v=AHx v:=A1 _
abbrev AP4:A0:=[AA,(.tmp 1,.dat Ue),(.tmp 2,.dat V3),AS]
abbrev AHR:List RS:=[.agg 2,.one,.one]
abbrev AWu:Loc×Con:=(.cell 0 1,.nil U1)
abbrev AWv:Loc×Con:=(.cell 1 3,.di)
abbrev AMj:A0:=[AWn,AL,AWu,(.tmp 7,.box 5),(.cell 1 0,.dat .bool),(.cell 1 1,.dat .bool),AWL,AWv,(.cell 1 4,.di),(.tmp 11,.box 4),AVt,AVu,(.cell 2 2,.di),(.cell 2 3,.dat .bool),(.tmp 12,.box 8),(.cell 3 0,.di),(.cell 3 1,.own 61 U1),(.cell 3 2,.dat .bool),(.cell 3 3,.dat .bool),(.cell 3 4,.di),(.cell 3 5,.di),(.cell 3 6,.di),(.cell 3 7,.di),AN]
abbrev AMi:BI:=[(.exit 0,[AWn,AL,AWu,(.tmp 7,.box 5),(.cell 1 0,.dat .bool),(.cell 1 1,.dat .bool),AWL,AWv,(.cell 1 4,.di),(.tmp 12,.box 8),AVt,(.cell 2 1,.own 61 U1),(.cell 2 2,.dat .bool),(.cell 2 3,.dat .bool),(.cell 2 4,.di),(.cell 2 5,.di),(.cell 2 6,.di),(.cell 2 7,.di)])]
def Hf[Lk]:Ve->Option (Ve⊕(Int×Bool×Bool×Int×Int×Int×Int×List U2×Bool×Bool×Int×Int×Int×Int×Unit)⊕Unit):=fun(a,b,c,d,e,f,p,q,A,r,g,h,i,j,k,l,m,n,o,_)=>
 match r with
 |true=>match(ile 0 o)with
  |true=>match pat (g,h,i,j,k,l,m,n,p,q,o,())with|none=>none|some (s,t,u,v,w,x,y,z,B,_)=>match(!B)with
   |true=>some (.inl (a,b,c,d,e,f,p,q,A,r,s,t,u,v,w,x,y,z,(w64 (o-1)),()))
   |false=>some (.inr (.inl (a,b,c,d,e,f,s,t,u,v,w,x,y,z,())))
  |false=>some (.inr (.inl (a,b,c,d,e,f,g,h,i,j,k,l,m,n,())))
 |false=>some (.inr (.inl (a,b,c,d,e,f,g,h,i,j,k,l,m,n,())))
def jS[Lk]:(Uc×Int×Int×Unit)->Option ((Int×List U2×Ut×Int×Unit)):=fun(a,e,f,_)=>
 match UI ((a.1,(a.2.1,())),e,f,())with|none=>none|some (c,d,_)=>match(!(ieq d 0))with
 |true=>some (a.1,a.2.1,(false,(false,((0,(0,())),(0,())))),d,())
 |false=>match idx a.2.1 c with|none=>none|some b=>match Dd a.2.1 0 c with|none=>none|some g=>match Dd a.2.1 (w64 (c+1)) (A4 a.2.1)with|none=>none|some h=>match TH (([g,h]:List (List U2)),())with|none=>none|some (i,_)=>match dL (a.1,())with|none=>none|some (j,_)=>match A9 Hf many (0,false,false,0,0,0,b.1,b.2.1,b.2.2.1,b.2.2.2.1,a.1,i,b.2.2.2.1,false,0,0,0,j,b.2.2.1,())with|none=>none|some r=>match r with
 |.inl (s,t,u,v,w,x,k,l,m,n,o,p,q,y,_)=>some (k,l,(m,(n,((o,(p,())),(q,())))),0,())
 |.inr _=>none
def c9[Lk]:=lkk jS
theorem jR v:c9 v=jS v:=A1 _
abbrev AMl:A0:=[AD,(.tmp 1,.own 94 V3),AG]
abbrev AWw:Loc×Con:=(.cell 1 1,.nil U1)
abbrev AHr:A0:=[AK,AL,AV9,AI,AJ,AWw,(.tmp 9,.own 94 V3),(.tmp 10,.box 2),(.cell 3 0,.di),(.cell 3 1,.dat Ue),(.tmp 27,.own 47 U3),AWk,AWi]
abbrev AHq:BI:=[(.ret,[AI,AL,AV9,(.tmp 5,.nil V3),AVe]),(.exit 0,[AI,AL,AWu,(.tmp 9,.own 94 V3),(.tmp 10,.box 2),AVt,(.cell 2 1,.dat Ue)])]
def H3[Lk]:(Int×List U2×Int×List Ut×Int×List U2×List U4×Int×Int×Unit)->Option ((Int×List U2×Int×List Ut×Int×List U2×List U4×Int×Int×Unit)⊕(Int×List U2×Int×Unit)⊕(Int×List Ut×Int×List U2×Unit)⊕Unit):=fun(e,f,g,d,h,i,c,j,b,_)=>
 match(ilt b j)with
 |true=>match idx c b with|none=>none|some n=>match c9 ((h,(i,())),(A_ c (A3 b) (0,(0,()))).1,(A_ c (A3 b) (0,(0,()))).2.1,())with|none=>none|some (l,m,a,k,_)=>match(!(ieq k 0))with
  |true=>some (.inr (.inl (e,f,k,())))
  |false=>match(fits ((A4 d)+(A4 ([(a.1,(a.2.1,((a.2.2.1.1,(a.2.2.1.2.1,())),(a.2.2.2.1,()))))]:List Ut))))with
  |true=>some (.inl (e,f,g,(B6 d ([(a.1,(a.2.1,((a.2.2.1.1,(a.2.2.1.2.1,())),(a.2.2.2.1,()))))]:List Ut)),l,m,c,j,(w64 (b+1)),()))
  |false=>none
 |false=>some (.inr (.inr (.inl (g,d,h,i,()))))
def jZ[Lk]:(Uc×List U4×Unit)->Option ((Uc×List Ut×Int×Unit)):=fun(a,d,_)=>
 match fO ((a.1,(a.2.1,())),d,())with|none=>none|some (b,c,_)=>match(!(ieq c 0))with
 |true=>some ((a.1,(a.2.1,())),([]:List Ut),c,())
 |false=>match A9 H3 many (a.1,a.2.1,0,([]:List Ut),a.1,a.2.1,b,(A4 b),0,())with|none=>none|some r=>match r with
 |.inl (e,f,g,_)=>some ((e,(f,())),([]:List Ut),g,())
 |.inr r=>match r with
 |.inl (k,h,i,j,_)=>some ((i,(j,())),h,0,())
 |.inr _=>none
def Wf[Lk]:=lkk jZ
theorem oS v:Wf v=jZ v:=A1 _
def jA[Lk]:(Uc×Unit)->Option ((List Int×Bool×Unit)):=fun(a,_)=>
 match Cu ((a.1,(a.2.1,())),())with|none=>none|some (b,_)=>match(!b)with
 |true=>some (([]:List (Int)),false,())
 |false=>match UZ ((a.1,(a.2.1,())),())with|none=>none|some (c,_)=>match R2 (a.1,c,())with|none=>none|some (d,e,_)=>some (d,true,())
def yL[Lk]:=lkk jA
theorem ni v:yL v=jA v:=A1 _
abbrev tS:A0:=[AD,(.tmp 1,.dat V4)]
abbrev nk:A0:=[AW,AWb,(.tmp 20,.dat V4),(.tmp 21,.di),(.tmp 22,.di)]
abbrev nj:BI:=[(.ret,[(.tmp 4,.nil U0),AVU]),(.exit 0,[AWb])]
def F8[Lk]:(List Int×List Int×List Ua×Int×Int×Unit)->Option ((List Int×List Int×List Ua×Int×Int×Unit)⊕Ub⊕Uh⊕Unit):=fun(d,a,e,f,b,_)=>
 match(ilt b f)with
 |true=>match idx e b with|none=>none|some c=>match YM (d,(c.1,(c.2.1,(c.2.2.1,()))),())with|none=>none|some (g,h,_)=>match(!(ieq h 0))with
  |true=>some (.inr (.inl (h,())))
  |false=>match(fits ((A4 a)+(A4 ([g]:List (Int)))))with
  |true=>some (.inl (d,(B6 a ([g]:List (Int))),e,f,(w64 (b+1)),()))
  |false=>none
 |false=>some (.inr (.inr (.inl (a,()))))
def QR[Lk]:(Uc×List Ua×Unit)->Option (Um):=fun(a,b,_)=>
 match yL ((a.1,(a.2.1,())),())with|none=>none|some (c,d,_)=>match(!d)with
 |true=>some (([]:List (Int)),1,())
 |false=>match A9 F8 many (c,([]:List (Int)),b,(A4 b),0,())with|none=>none|some r=>match r with
 |.inl (e,_)=>some (([]:List (Int)),e,())
 |.inr r=>match r with
 |.inl (f,_)=>some (f,0,())
 |.inr _=>none
def LC[Lk]:=lkk QR
theorem Wd v:LC v=QR v:=A1 _
def bG[Lk]:(Un×Int×Unit)->Option (U4):=fun(a,b,_)=>
 match Mq ((a.1,(a.2.1,())),([b]:List (Int)),())with|none=>none|some (c,_)=>match(!(ieq c 0))with
 |true=>some (0,c,())
 |false=>match tof ((a.1,(a.2.1,())),b,())with|none=>none|some (d,_)=>match idx a.2.1 d with|none=>none|some e=>match idx e 0 with|none=>none|some f=>some (f,0,())
def VQ[Lk]:=lkk bG
theorem gE v:VQ v=bG v:=A1 _
abbrev AWx:Loc×Con:=(.tmp 7,.own 47 U3)
abbrev ir:A0:=[AK,AL,Ar,AWx,(.tmp 24,.dat Uu),AVJ,AY]
abbrev iq:BI:=[(.exit 0,[AWx])]
def GO[Lk]:(Int×List U7×List U4×List U4×Int×Int×Unit)->Option ((Int×List U7×List U4×List U4×Int×Int×Unit)⊕V1⊕Unit):=fun(a,b,c,e,f,d,_)=>
 match(ilt d f)with
 |true=>match idx e d with|none=>none|some g=>match VQ ((a,(b,())),g.1,())with|none=>none|some (h,j,_)=>match VQ ((a,(b,())),g.2.1,())with|none=>none|some (i,k,_)=>match(fits ((A4 c)+(A4 ([(h,(i,()))]:List U4))))with
  |true=>some (.inl (a,b,(B6 c ([(h,(i,()))]:List U4)),e,f,(w64 (d+1)),()))
  |false=>none
 |false=>some (.inr (.inl (c,())))
def Nl[Lk]:(Un×List U4×Unit)->Option ((List U4×Int×Unit)):=fun(a,b,_)=>
 match NU ((a.1,(a.2.1,())),())with|none=>none|some (d,_)=>match(!d)with
 |true=>some (([]:List U4),1,())
 |false=>match ZI (a.1,b,())with|none=>none|some (c,_)=>match(!(ieq c 0))with
 |true=>some (([]:List U4),c,())
 |false=>match A9 GO many (a.1,a.2.1,([]:List U4),b,(A4 b),0,())with|none=>none|some r=>match r with
 |.inl (e,_)=>some (e,0,())
 |.inr _=>none
def O_[Lk]:=lkk Nl
theorem R1 v:O_ v=Nl v:=A1 _
abbrev AA7:A0:=[AVL,AF]
def T6[Lk]:(Un×List U4×Unit)->Option ((List Bool×Int×Unit)):=fun(a,c,_)=>
 match O_ ((a.1,(a.2.1,())),c,())with|none=>none|some (d,b,_)=>match(!(ieq b 0))with
 |true=>some (([]:List (Bool)),b,())
 |false=>match ZN (a.1,())with|none=>none|some (e,_)=>match T4 (e,d,())with|none=>none|some (g,f,_)=>some (f,0,())
def Xw[Lk]:=lkk T6
theorem ZE v:Xw v=T6 v:=A1 _
abbrev AQi:A0:=[AA,(.tmp 1,.dat Ue),AG,AS]
abbrev AOK:A0:=[AK,AL,AV9,AI,AJ,AWw,AWx,(.tmp 11,.own 4 .bool),(.tmp 13,.own 61 U1),(.tmp 46,.own' 2),AWj,(.tmp 48,.di)]
abbrev AOJ:BI:=[(.exit 0,[AK,AL,AV9,AI,AJ,AWw,AWx,(.tmp 13,.own 61 U1)])]
def PR[Lk]:(Int×List U2×Int×List U4×List Bool×List U2×Int×Int×Unit)->Option ((Int×List U2×Int×List U4×List Bool×List U2×Int×Int×Unit)⊕(Int×List U2×Int×List U4×List U2×Unit)⊕Unit):=fun(e,f,g,b,c,d,h,a,_)=>
 match(ilt a h)with
 |true=>match idx b a with|none=>none|some i=>match idx c a with|none=>none|some j=>match(fits ((A4 d)+(A4 ([((A_ b (A3 a) (0,(0,()))).1,((A_ b (A3 a) (0,(0,()))).2.1,(0,((A_ c (A3 a) false),()))))]:List U2))))with
  |true=>some (.inl (e,f,g,b,c,(B6 d ([((A_ b (A3 a) (0,(0,()))).1,((A_ b (A3 a) (0,(0,()))).2.1,(0,((A_ c (A3 a) false),()))))]:List U2)),h,(w64 (a+1)),()))
  |false=>none
 |false=>some (.inr (.inl (e,f,g,b,d,())))
def wE[Lk]:(Uc×List U4×Unit)->Option (Vg):=fun(a,e,_)=>
 match AJW ((a.1,(a.2.1,())),e,())with|none=>none|some (b,c,_)=>match(!(ieq c 0))with
 |true=>some (a.1,a.2.1,0,c,())
 |false=>match zP ((a.1,(a.2.1,())),(A4 b),())with|none=>none|some (f,_)=>match(!f)with
 |true=>some (a.1,a.2.1,0,2,())
 |false=>match PI ((a.1,(a.2.1,())),0,())with|none=>none|some (d,m,_)=>match Xw ((d.1,(d.2.1,())),b,())with|none=>none|some (g,n,_)=>match M6 a.2.1 with|none=>none|some h=>match A9 PR many (a.1,a.2.1,0,b,g,h,(A4 b),0,())with|none=>none|some r=>match r with
 |.inl (i,o,p,j,k,_)=>match yG (k,())with|none=>none|some (l,_)=>some (i,l,(A4 j),0,())
 |.inr _=>none
def ADm[Lk]:=lkk wE
theorem zU v:ADm v=wE v:=A1 _
abbrev AIv:A0:=[(.tmp 0,.dat (.prod Up U3))]
def aV[Lk]:((Uc×Int×Int×Unit)×Unit)->Option (Ud):=fun(a,_)=>
 match Cu ((a.1.1,(a.1.2.1,())),())with|none=>none|some (b,_)=>match b with
 |true=>match OI (a.2.1,())with|none=>none|some (c,_)=>match c with
  |true=>match OI (a.2.2.1,())with|none=>none|some (d,_)=>some (d,())
  |false=>some (false,())
 |false=>some (false,())
def Kt[Lk]:=lkk aV
theorem ff v:Kt v=aV v:=A1 _
open Go.Proofs
theorem AOm:Tryz.f46.body.isSome=true:=by kernel_rfl
theorem AOl : (Tryz.f46.name == "runtime.NumGoroutine") = false := by kernel_rfl
theorem AOk:loops (CN Tryz.f46)=0:=by kernel_rfl
def cr[Lk]:Env:=WJ.ext 46 false false (CZ Tryz.prog WJ {} Tryz.f46)
theorem du:Bp Tryz.prog cr:=Env.Ce Ta (CD Ta Tryz.func46 AOm AOl AOk) (by simp) (by simp)
def dN:=Chn.g ⟨cr,du⟩ ⟨68,0,0,2,0,some (1,46),Py,[(.ret,BW)],A8,[],[(0,al,HL)]⟩ OH Tryz.func68 ao
def bp:=Chn.g dN ⟨45,0,0,2,0,some (1,46),Py,[(.ret,BN)],A8,[],[]⟩ M0 Tryz.func45 Xf
def AGl:=Chn.g bp ⟨14,0,0,2,0,none,AGk,[(.ret,BN)],A8,[],[(0,ABD,ek)]⟩ QS Tryz.func14 ABE
def ALd:=Chn.g AGl ⟨11,0,0,0,0,none,xp,[(.ret,ALc)],A8,[],[]⟩ Po Tryz.func11 AFb
def ANZ:=Chn.g ALd ⟨92,0,0,1,0,none,lK,[(.ret,BW)],A8,[],[]⟩ APP Tryz.func92 AIl
def rL:=Chn.g ANZ ⟨16,0,0,2,0,none,R4,[(.ret,Fj)],A8,[(14,[[],[],[0],[0],[],[],[0],[0]]),(13,[[],[],[],[],[],[],[],[],[],[],[],[],[],[],[],[],[],[],[],[0],[0],[],[],[0],[0]])],[(0,ln,lh),(1,ll,lf),(2,lj,ld)]⟩ FN Tryz.func16 TK
def ALm:=Chn.g rL ⟨9,0,0,1,0,none,BW,[(.ret,BW)],A8,[],[(0,AFp,yx)]⟩ NW Tryz.func9 AFq
def ABU:=Chn.g ALm ⟨15,0,0,1,0,none,F9,[(.ret,BN)],A8,[(10,[[],[],[],[0],[0],[],[],[],[],[],[4],[4],[],[],[0],[0],[],[],[],[],[],[4],[4],[],[],[0],[0],[],[],[],[],[],[4],[4]]),(8,[[4],[4],[],[],[4],[4],[4],[4],[],[],[],[4],[4],[0],[0],[],[],[],[4],[4],[],[],[],[4],[4],[0],[0]])],[(0,Za,te),(1,tf,tc)]⟩ GS Tryz.func15 G7
def AAf:=Chn.g ABU ⟨18,0,0,2,0,none,SS,[(.ret,SR)],A8,[(6,[[],[0],[0],[],[],[],[],[0],[0],[],[],[],[],[],[],[3,4]])],[(0,sV,fW)]⟩ O4 Tryz.func18 Yp
def AD1:=Chn.g AAf ⟨17,0,0,1,0,none,F9,[(.ret,SR)],A8,[(7,[[],[0],[0],[],[],[],[],[0],[0],[],[],[],[],[],[],[3,4]])],[(0,Za,bM)]⟩ YH Tryz.func17 bN
def ph:=Chn.g AD1 ⟨19,0,0,3,0,none,N9,[(.ret,Fj)],A8,[(6,[[],[],[2],[2],[],[],[2],[2]]),(1,[[0],[0],[0],[],[],[2]])],[(0,jv,ju)]⟩ PE Tryz.func19 SO
def AAy:=Chn.g ph ⟨6,0,0,1,0,none,F9,[(.ret,BN)],A8,[(8,[[],[],[2],[2],[],[],[4],[4]]),(14,[[0],[0],[0],[],[],[10]]),(19,[[4],[4],[],[],[4],[4],[],[],[],[],[],[4],[4],[2],[2],[],[4],[4],[2],[2]]),(4,[[0],[0],[0],[],[26]]),(3,[[0],[0],[0],[],[10]])],[(0,tJ,Y8),(1,tI,tF),(2,tH,tE),(3,tG,tD)]⟩ MF Tryz.func6 QM
def AGn:=Chn.g AAy ⟨8,0,0,2,0,none,AGm,[(.ret,BN)],A8,[(6,[[0],[0],[],[],[],[2],[2]])],[(0,ABF,ek)]⟩ jC Tryz.func8 eo
def TM:=Chn.g AGn ⟨229,0,1,4,0,some (3,168),VD,[(.ret,Jg)],Bv,[(10,[[],[],[],[],[],[],[],[],[],[],[0],[0],[],[],[0],[0],[0],[1],[0],[1]])],[(0,AE1,kC)]⟩ AKf Tryz.func229 AE2
abbrev uQ(self:(List (List Int)×Int×Int×Int×Unit)->Option ((List (List Int)×Unit))):Hints:={ loop:=fun n=>match n with|0=>MY 1 148 yZ yY (yX self)|_=>fun _ _ _=>none,fp:=fun n=>match n with|17=>[[],[],[],[],[],[],[],[0],[0],[],[],[0],[0],[],[],[],[]]|_=>[] }
abbrev jb(self:(List (List Int)×Int×Int×Int×Unit)->Option ((List (List Int)×Unit))):Env:=TM.e.ext 196 false true (Bc 1 5 KL Jg Bv self)
theorem uP(self:(List (List Int)×Int×Int×Int×Unit)->Option ((List (List Int)×Unit))):∀ v,yX self v=roundOf Tryz.prog (jb self) (uQ self) 1 1 148 (De Tryz.f196 0) yZ yY v:=by rintro⟨a,b,c,d,e,f,⟨⟩⟩;kernel_rfl
theorem AMr:Co (De Tryz.f196 0) 1=[]:=by kernel_rfl
theorem AMs(self:(List (List Int)×Int×Int×Int×Unit)->Option ((List (List Int)×Unit)))(a:Bp Tryz.prog (jb self)):J_ Tryz.prog 1 (.loop (De Tryz.f196 0)) ((uQ self).loop 0):=SY a (uP self) (E7 AMr trivial)
theorem AHt(self:(List (List Int)×Int×Int×Int×Unit)->Option ((List (List Int)×Unit))):∀ v,AP9 self v=EJ 1 Tryz.prog (jb self) (uQ self) Tryz.f196 KL Jg Bv v:=by rintro⟨a,b,c,d,⟨⟩⟩;kernel_rfl
theorem AP8:Co (CN Tryz.f196) 0=[(0,De Tryz.f196 0)]:=by kernel_rfl
theorem uR:∀ n,BT Tryz.prog 196 (Bc 1 5 KL Jg Bv (Zw n)):=by
 intro n;induction n with
  |zero=>exact KU fun _=>rfl
  |succ n b=>have a:Bp Tryz.prog (jb (Zw n)):=Env.Ce TM.h b ((by simp)) (fun _=>Ct rfl rfl);let self:=Zw n;exact I_ a Tryz.func196 (by kernel_rfl) (by kernel_rfl) rfl (AHt self) (E7 AP8 ⟨(AMs self a),trivial⟩)
theorem ABv:BT Tryz.prog 196 (Bc 1 5 KL Jg Bv AMu):=by have e:AMu=Zw 100:=funext AMt;rw[e];exact uR _
def ALW[Lk]:Env:=TM.e.Xa 196 4 168 (Bc 1 5 KL Jg Bv AMu)
theorem AFS:Bp Tryz.prog ALW:=Env.S0 TM.h ABv (Ct rfl rfl)
def AL4:=Chn.g ⟨ALW,AFS⟩ ⟨167,0,1,2,0,some (1,168),AL2,[(.ret,Jg)],Bv,[],[]⟩ yH Tryz.func167 AGL
def AQU:=Chn.g AL4 ⟨37,0,0,1,0,none,BW,[(.ret,BW)],A8,[],[]⟩ dL Tryz.func37 ANS
def TO:=Chn.g AQU ⟨175,0,1,4,0,some (3,84),VE,[(.ret,Ji)],Bv,[(10,[[],[],[],[],[],[],[],[],[],[],[0],[0],[],[],[0],[0],[0],[1],[0],[1]])],[(0,AE6,kE)]⟩ AKj Tryz.func175 AE7
abbrev uX(self:(List (Int×Int×Unit)×Int×Int×Int×Unit)->Option ((List (Int×Int×Unit)×Unit))):Hints:={ loop:=fun n=>match n with|0=>MY 1 148 yf ye (yd self)|_=>fun _ _ _=>none,fp:=fun n=>match n with|17=>[[],[],[],[],[],[],[],[0],[0],[],[],[0],[0],[],[],[],[]]|_=>[] }
abbrev jf(self:(List (Int×Int×Unit)×Int×Int×Int×Unit)->Option ((List (Int×Int×Unit)×Unit))):Env:=TO.e.ext 134 false true (Bc 1 5 KN Ji Bv self)
theorem uW(self:(List (Int×Int×Unit)×Int×Int×Int×Unit)->Option ((List (Int×Int×Unit)×Unit))):∀ v,yd self v=roundOf Tryz.prog (jf self) (uX self) 1 1 148 (De Tryz.f134 0) yf ye v:=by rintro⟨a,b,c,d,e,f,⟨⟩⟩;kernel_rfl
theorem AM0:Co (De Tryz.f134 0) 1=[]:=by kernel_rfl
theorem AM1(self:(List (Int×Int×Unit)×Int×Int×Int×Unit)->Option ((List (Int×Int×Unit)×Unit)))(a:Bp Tryz.prog (jf self)):J_ Tryz.prog 1 (.loop (De Tryz.f134 0)) ((uX self).loop 0):=SY a (uW self) (E7 AM0 trivial)
theorem AHv(self:(List (Int×Int×Unit)×Int×Int×Int×Unit)->Option ((List (Int×Int×Unit)×Unit))):∀ v,AQD self v=EJ 1 Tryz.prog (jf self) (uX self) Tryz.f134 KN Ji Bv v:=by rintro⟨a,b,c,d,⟨⟩⟩;kernel_rfl
theorem AQC:Co (CN Tryz.f134) 0=[(0,De Tryz.f134 0)]:=by kernel_rfl
theorem uY:∀ n,BT Tryz.prog 134 (Bc 1 5 KN Ji Bv (Zy n)):=by
 intro n;induction n with
  |zero=>exact KU fun _=>rfl
  |succ n b=>have a:Bp Tryz.prog (jf (Zy n)):=Env.Ce TO.h b ((by simp)) (fun _=>Ct rfl rfl);let self:=Zy n;exact I_ a Tryz.func134 (by kernel_rfl) (by kernel_rfl) rfl (AHv self) (E7 AQC ⟨(AM1 self a),trivial⟩)
theorem ABx:BT Tryz.prog 134 (Bc 1 5 KN Ji Bv AM3):=by have e:AM3=Zy 100:=funext AM2;rw[e];exact uY _
def ALY[Lk]:Env:=TO.e.Xa 134 4 84 (Bc 1 5 KN Ji Bv AM3)
theorem AFU:Bp Tryz.prog ALY:=Env.S0 TO.h ABx (Ct rfl rfl)
def AL9:=Chn.g ⟨ALY,AFU⟩ ⟨108,0,1,2,0,some (1,84),AL7,[(.ret,Ji)],Bv,[],[]⟩ yI Tryz.func108 AGO
def TN:=Chn.g AL9 ⟨220,0,1,3,0,none,E0,[(.ret,Jh)],Bv,[(10,[[],[],[],[],[],[],[],[],[],[],[0],[0],[],[],[0],[0],[0],[1],[0],[1]])],[(0,AE3,kD)]⟩ AKh Tryz.func220 AE4
abbrev uT(self:(List Int×Int×Int×Int×Unit)->Option ((List Int×Unit))):Hints:={ loop:=fun n=>match n with|0=>MY 1 134 yc yb (ya self)|_=>fun _ _ _=>none,fp:=fun n=>match n with|17=>[[],[],[],[],[],[],[0],[0],[],[],[0],[0],[],[],[]]|_=>[] }
abbrev jc(self:(List Int×Int×Int×Int×Unit)->Option ((List Int×Unit))):Env:=TN.e.ext 195 false true (Bc 1 4 KM Jh Bv self)
theorem uS(self:(List Int×Int×Int×Int×Unit)->Option ((List Int×Unit))):∀ v,ya self v=roundOf Tryz.prog (jc self) (uT self) 1 1 134 (De Tryz.f195 0) yc yb v:=by rintro⟨a,b,c,d,e,f,⟨⟩⟩;kernel_rfl
theorem AMv:Co (De Tryz.f195 0) 1=[]:=by kernel_rfl
theorem AMw(self:(List Int×Int×Int×Int×Unit)->Option ((List Int×Unit)))(a:Bp Tryz.prog (jc self)):J_ Tryz.prog 1 (.loop (De Tryz.f195 0)) ((uT self).loop 0):=SY a (uS self) (E7 AMv trivial)
theorem AHu(self:(List Int×Int×Int×Int×Unit)->Option ((List Int×Unit))):∀ v,AQB self v=EJ 1 Tryz.prog (jc self) (uT self) Tryz.f195 KM Jh Bv v:=by rintro⟨a,b,c,d,⟨⟩⟩;kernel_rfl
theorem AQA:Co (CN Tryz.f195) 0=[(0,De Tryz.f195 0)]:=by kernel_rfl
theorem uU:∀ n,BT Tryz.prog 195 (Bc 1 4 KM Jh Bv (Zx n)):=by
 intro n;induction n with
  |zero=>exact KU fun _=>rfl
  |succ n b=>have a:Bp Tryz.prog (jc (Zx n)):=Env.Ce TN.h b ((by simp)) (fun _=>Ct rfl rfl);let self:=Zx n;exact I_ a Tryz.func195 (by kernel_rfl) (by kernel_rfl) rfl (AHu self) (E7 AQA ⟨(AMw self a),trivial⟩)
theorem ABw:BT Tryz.prog 195 (Bc 1 4 KM Jh Bv AMy):=by have e:AMy=Zx 100:=funext AMx;rw[e];exact uU _
def ALX[Lk]:Env:=TN.e.ext 195 false true (Bc 1 4 KM Jh Bv AMy)
theorem AFT:Bp Tryz.prog ALX:=Env.Ce TN.h ABw ((by simp)) (fun _=>Ct rfl rfl)
def AL6:=Chn.g ⟨ALX,AFT⟩ ⟨157,0,1,1,0,none,Fj,[(.ret,Jh)],Bv,[],[]⟩ nT Tryz.func157 AGM
def RJ:=Chn.g AL6 ⟨45,0,1,2,0,some (1,152),Kb,[(.ret,RI)],A8,[],[]⟩ HT Tryz.func45 IY
def TL:=Chn.g RJ ⟨145,0,1,4,0,some (3,83),VC,[(.ret,Jf)],Bv,[(10,[[],[],[],[],[],[],[],[],[],[],[0],[0],[],[],[0],[0],[0],[1],[0],[1]])],[(0,AEz,kB)]⟩ breakT Tryz.func145 AE0
abbrev uN(self:(List (Int×Int×Int×Bool×Unit)×Int×Int×Int×Unit)->Option ((List (Int×Int×Int×Bool×Unit)×Unit))):Hints:={ loop:=fun n=>match n with|0=>MY 1 148 yW yV (yU self)|_=>fun _ _ _=>none,fp:=fun n=>match n with|17=>[[],[],[],[],[],[],[],[0],[0],[],[],[0],[0],[],[],[],[]]|_=>[] }
abbrev ja(self:(List (Int×Int×Int×Bool×Unit)×Int×Int×Int×Unit)->Option ((List (Int×Int×Int×Bool×Unit)×Unit))):Env:=TL.e.ext 115 false true (Bc 1 5 KK Jf Bv self)
theorem uM(self:(List (Int×Int×Int×Bool×Unit)×Int×Int×Int×Unit)->Option ((List (Int×Int×Int×Bool×Unit)×Unit))):∀ v,yU self v=roundOf Tryz.prog (ja self) (uN self) 1 1 148 (De Tryz.f115 0) yW yV v:=by rintro⟨a,b,c,d,e,f,⟨⟩⟩;kernel_rfl
theorem AMn:Co (De Tryz.f115 0) 1=[]:=by kernel_rfl
theorem AMo(self:(List (Int×Int×Int×Bool×Unit)×Int×Int×Int×Unit)->Option ((List (Int×Int×Int×Bool×Unit)×Unit)))(a:Bp Tryz.prog (ja self)):J_ Tryz.prog 1 (.loop (De Tryz.f115 0)) ((uN self).loop 0):=SY a (uM self) (E7 AMn trivial)
theorem AHs(self:(List (Int×Int×Int×Bool×Unit)×Int×Int×Int×Unit)->Option ((List (Int×Int×Int×Bool×Unit)×Unit))):∀ v,AP7 self v=EJ 1 Tryz.prog (ja self) (uN self) Tryz.f115 KK Jf Bv v:=by rintro⟨a,b,c,d,⟨⟩⟩;kernel_rfl
theorem AP6:Co (CN Tryz.f115) 0=[(0,De Tryz.f115 0)]:=by kernel_rfl
theorem uO:∀ n,BT Tryz.prog 115 (Bc 1 5 KK Jf Bv (Zv n)):=by
 intro n;induction n with
  |zero=>exact KU fun _=>rfl
  |succ n b=>have a:Bp Tryz.prog (ja (Zv n)):=Env.Ce TL.h b ((by simp)) (fun _=>Ct rfl rfl);let self:=Zv n;exact I_ a Tryz.func115 (by kernel_rfl) (by kernel_rfl) rfl (AHs self) (E7 AP6 ⟨(AMo self a),trivial⟩)
theorem ABu:BT Tryz.prog 115 (Bc 1 5 KK Jf Bv AMq):=by have e:AMq=Zv 100:=funext AMp;rw[e];exact uO _
def ALV[Lk]:Env:=TL.e.Xa 115 4 83 (Bc 1 5 KK Jf Bv AMq)
theorem AFR:Bp Tryz.prog ALV:=Env.S0 TL.h ABu (Ct rfl rfl)
def AL1:=Chn.g ⟨ALV,AFR⟩ ⟨82,0,1,2,0,some (1,83),ALz,[(.ret,Jf)],Bv,[],[]⟩ yG Tryz.func82 AGK
def Xe:=Chn.g AL1 ⟨45,0,0,2,0,some (1,213),OF,[(.ret,BN)],A8,[],[]⟩ Hl Tryz.func45 Ln
def TG:=Chn.g Xe ⟨45,0,1,2,0,some (1,159),LZ,[(.ret,TF)],A8,[],[]⟩ Fp Tryz.func45 Jx
def dZ:=Chn.g TG ⟨45,0,1,2,0,some (1,71),Sm,[(.ret,dY)],A8,[],[]⟩ Kh Tryz.func45 OX
def bZ:=Chn.g dZ ⟨153,0,2,2,8,some (1,156),OG,[(.ret,bY)],A8,[],[(0,Xd,Xc)]⟩ Ir Tryz.func153 NF
def AKC:=Chn.g bZ ⟨117,0,0,2,0,none,iA,[(.ret,BN)],A8,[],[]⟩ Vq Tryz.func117 gQ
def AEx:=Chn.g AKC ⟨86,0,0,2,0,none,AEw,[(.ret,Nb)],BZ,[(5,[[0],[2],[2],[],[],[0],[2],[2]])],[]⟩ YM Tryz.func86 cF
def AGz:=Chn.g AEx ⟨187,0,0,1,0,none,aD,[(.ret,BN)],A8,[],[]⟩ UA Tryz.func187 fC
def AHV:=Chn.g AGz ⟨163,0,0,2,0,none,iA,[(.ret,Zp)],BZ,[],[(0,ABh,ABg)]⟩ places Tryz.func163 fM
def AMR:=Chn.g AHV ⟨127,0,0,2,0,none,OD,[(.ret,Zp)],BZ,[],[]⟩ oA Tryz.func127 n9
def AG0:=Chn.g AMR ⟨166,0,0,1,0,none,aD,[(.ret,Fj)],A8,[],[]⟩ jF Tryz.func166 fD
def AFn:=Chn.g AG0 ⟨138,0,0,1,0,none,AFm,[(.ret,BN)],A8,[(8,[[],[],[],[],[],[],[],[],[],[],[],[],[],[],[],[],[],[],[],[],[],[],[],[],[0],[0]])],[(0,AAe,AAb),(1,AAd,AAa),(2,AAc,AAZ)]⟩ NU Tryz.func138 eN
def AOz:=Chn.g AFn ⟨125,0,0,3,0,none,zw,[(.ret,BW)],A8,[],[]⟩ asked Tryz.func125 rp
def ALj:=Chn.g AOz ⟨130,0,0,3,0,none,ALi,[(.ret,ALh)],ALg,[],[(0,AFf,AFd),(1,AFe,AFc)]⟩ xv Tryz.func130 m7
def ALq:=Chn.g ALj ⟨97,0,0,3,0,none,zw,[(.ret,ALp)],xz,[(9,[[],[28],[0],[0],[],[],[],[],[],[0],[0],[],[],[],[],[],[28],[28,52,36,62],[64]]),(4,[[0],[],[],[0]])],[]⟩ eP Tryz.func97 Yr
def AJb:=Chn.g ALq ⟨123,0,0,2,0,none,AJa,[(.ret,BW)],A8,[],[]⟩ Mq Tryz.func123 fu
def wS:=Chn.g AJb ⟨96,0,0,3,0,some (2,97),wR,[(.ret,bO)],Ea,[(1,[[0],[],[],[4]])],[(0,qg,qf)]⟩ bP Tryz.func96 W7
def AJl:=Chn.g wS ⟨63,0,0,2,0,none,bE,[(.ret,bO)],Ea,[],[]⟩ wL Tryz.func63 gD
def ARf:=Chn.g AJl ⟨40,0,0,2,0,none,R4,[(.ret,K7)],BZ,[],[]⟩ fof Tryz.func40 AJj
def AIg:=Chn.g ARf ⟨23,0,0,1,0,none,F9,[(.ret,BN)],A8,[(7,[[2],[2],[],[],[2],[2],[2],[2],[],[],[],[2],[2],[0],[0],[],[],[],[2],[2],[],[],[],[2],[2],[],[],[],[],[],[],[],[0],[0],[],[],[],[],[2]])],[(0,AC9,Y8)]⟩ Cu Tryz.func23 LQ
def ARG:=Chn.g AIg ⟨155,0,0,2,0,none,K7,[(.ret,BW)],A8,[],[]⟩ tof Tryz.func155 AFr
def ADE:=Chn.g ARG ⟨79,0,0,2,0,none,SS,[(.ret,K7)],BZ,[(3,[[0],[0],[0],[],[],[12],[],[],[3]])],[]⟩ PI Tryz.func79 Qp
def AIm:=Chn.g ADE ⟨32,0,0,1,0,none,F9,[(.ret,SR)],A8,[],[(0,ADI,bM)]⟩ UZ Tryz.func32 fa
def AMk:=Chn.g AIm ⟨21,0,0,2,0,none,X3,[(.ret,jW)],BZ,[(10,[[2],[6],[4],[],[5],[],[5]])],[(0,AHo,AHn)]⟩ fO Tryz.func21 oN
def AQh:=Chn.g AMk ⟨73,0,0,2,0,none,X3,[(.ret,jW)],BZ,[],[(0,AOH,AOF),(1,AOG,AOE)]⟩ AJW Tryz.func73 zS
def AO2:=Chn.g AQh ⟨74,0,0,1,0,none,F9,[(.ret,BW)],A8,[],[]⟩ zx Tryz.func74 rq
def ALQ:=Chn.g AO2 ⟨48,0,0,3,0,none,Oo,[(.ret,ALP)],AF0,[(16,[[48],[48],[50],[0]])],[]⟩ K4 Tryz.func48 Ls
def ANU:=Chn.g ALQ ⟨34,0,0,3,0,none,N9,[(.ret,BW)],A8,[],[]⟩ pw Tryz.func34 pr
def wK:=Chn.g ANU ⟨121,0,0,2,0,none,K7,[(.ret,Ni)],BZ,[(4,[[0],[0],[0],[],[],[],[],[],[],[1000005,21,1]])],[]⟩ Ld Tryz.func121 Wz
def AHp:=Chn.g wK ⟨56,0,0,3,0,none,N9,[(.ret,Nb)],BZ,[],[]⟩ UI Tryz.func56 UH
def X1:=Chn.g AHp ⟨89,0,0,4,0,none,AMh,[(.ret,Ni)],BZ,[(9,[[],[20],[],[28],[],[],[20],[20],[],[28],[28],[],[],[60]])],[]⟩ yP Tryz.func89 Zj
def Ow[Lk]:Env:=X1.e.ext 91 false false (CZ Tryz.prog X1.e { fp:=fun n=>match n with|0=>[[],[],[0],[0],[0],[],[2],[2],[2],[],[],[2],[2],[3]]|_=>[] } Tryz.f91)
theorem Ov:Bp Tryz.prog Ow:=Env.Ce X1.h (CD X1.h Tryz.func91 AHP AHO AHN) (by simp) (by simp)
def gn[Lk]:Env:=Ow.ext 90 false false (CZ Tryz.prog Ow {} Tryz.f90)
theorem ma:Bp Tryz.prog gn:=Env.Ce Ov (CD Ov Tryz.func90 AQM AQL AQK) (by simp) (by simp)
def ARV:=Chn.g ⟨gn,ma⟩ ⟨58,0,2,4,0,none,ARU,[(.ret,ART)],A8,[(29,[[],[],[],[2],[2],[2],[],[2],[2],[2],[],[0],[0],[0],[1],[0],[0],[0],[1]])],[(0,AQJ,AQG),(1,AQI,AQF),(2,AQH,AQE)]⟩ pat Tryz.func58 AHw
def AP5:=Chn.g ARV ⟨35,0,0,3,0,none,N9,[(.ret,AP4)],AHR,[(9,[[],[4],[4],[4],[],[4],[4],[4],[1],[3]]),(5,[[0],[0],[0],[0],[],[],[0],[0],[],[],[],[],[16],[],[14],[14],[],[0],[0],[],[],[18]])],[(0,AMj,AMi)]⟩ c9 Tryz.func35 jR
def AMm:=Chn.g AP5 ⟨52,0,0,2,0,none,X3,[(.ret,AMl)],Ea,[(12,[[20],[],[22],[],[5,24],[7]])],[(0,AHr,AHq)]⟩ Wf Tryz.func52 oS
def AMN:=Chn.g AMm ⟨85,0,0,1,0,none,F9,[(.ret,Zp)],BZ,[(3,[[0],[0],[0],[],[10]])],[]⟩ yL Tryz.func85 ni
def tT:=Chn.g AMN ⟨53,0,0,2,0,none,tS,[(.ret,Ni)],BZ,[],[(0,nk,nj)]⟩ LC Tryz.func53 Wd
def AJm:=Chn.g tT ⟨140,0,0,2,0,none,K7,[(.ret,Nb)],BZ,[(4,[[0],[0],[0]])],[]⟩ VQ Tryz.func140 gE
def nZ:=Chn.g AJm ⟨112,0,0,2,0,none,bE,[(.ret,jW)],BZ,[],[(0,ir,iq)]⟩ O_ Tryz.func112 R1
def AA8:=Chn.g nZ ⟨80,0,0,2,0,none,bE,[(.ret,AA7)],BZ,[],[]⟩ Xw Tryz.func80 ZE
def AQj:=Chn.g AA8 ⟨51,0,0,2,0,none,X3,[(.ret,AQi)],AHR,[(12,[[],[10],[10],[10],[10],[],[],[6],[6],[],[],[9,12]])],[(0,AOK,AOJ)]⟩ ADm Tryz.func51 zU
def GZ:=Chn.g AQj ⟨28,0,0,1,0,none,AIv,[(.ret,BN)],A8,[],[]⟩ Kt Tryz.func28 ff
set_option maxHeartbeats 8000000
attribute [local irreducible] A4 A_ B6 DA KE ED A3 Ci C7 imax idx Dd ilt ile ieq seq? quo? rem? shl? shr? fits Cq IntKind.wrap A7 BF SC pd Be Xb A9 many RH
abbrev Io:A0:=[AA]
abbrev Im:A0:=[]
abbrev KX:List RS:=[]
abbrev PM:A0:=[]
def YD[Lk]:Hints:={ fp:=Sx [] }
def Wu[Lk](v:Bf (leaves Io)):Option (Bf (leaves Im)⊕(List Int×Bf (leaves PM))):=Lk.f (DU 0 Tryz.prog GZ.e YD Tryz.f49 Io Im KX 83 [.i64] PM v)
theorem aX(v):Wu v=DU 0 Tryz.prog GZ.e YD Tryz.f49 Io Im KX 83 [.i64] PM v:=A1 _
theorem Wt:Bu Tryz.prog 0 YD (CN Tryz.f49) 0:=DO _ 0 (by kernel_rfl)
theorem AI4:Hn Tryz.prog 49 (Bc 0 1 Io Im KX fun x=>Df (Wu x)) (IW 0 1 Io Im KX 83 [.i64] PM Wu):=LO GZ.h.1 GZ.h.2.1 GZ.h.2.2 Tryz.func49 (Gq (by kernel_rfl)) (Cg Tryz.func49 (by kernel_rfl) (by kernel_rfl)) (AS9 rfl) aX Wt
theorem AI3:BT Tryz.prog 49 (Bc 0 1 Io Im KX fun x=>Df (Wu x)):=LM GZ.h Tryz.func49 (by kernel_rfl) (by kernel_rfl) rfl aX Wt
def Tc[Lk]:Env:=Env.kz GZ.e 49 true (Bc 0 1 Io Im KX fun x=>Df (Wu x)) (IW 0 1 Io Im KX 83 [.i64] PM Wu)
theorem J9:Bp Tryz.prog Tc:=Env.YE GZ.h AI3 AI4 (fun _=>Ct rfl rfl)
abbrev AWy:Loc×Con:=(.tmp 1,.dat (.prod (.int .i64) (.prod (.slice (.prod (.int .i64) (.prod (.int .i64) .unit))) (.prod (.slice (.prod (.int .i64) (.prod (.int .i64) (.prod (.int .i64) .unit)))) .unit))))
abbrev AWz:Loc×Con:=(.tmp 2,.dat (.prod (.int .i64) (.prod (.int .i64) (.prod (.prod (.int .i64) (.prod (.int .i64) (.prod (.slice (.arr 2 (.int .i64))) .unit))) .unit))))
abbrev AW0:Loc×Con:=(.cell 0 1,.dat (.slice (.prod (.int .i64) (.prod (.int .i64) (.prod (.int .i64) (.prod .bool .unit))))))
abbrev AW1:Loc×Con:=(.cell 0 6,.dat (.slice (.int .i64)))
abbrev Il:A0:=[(.tmp 0,.box 7),AL,AW0,AV7,AV8,AWr,AVb,AW1,AWy,AWz]
abbrev AW2:Loc×Con:=(.obj 0,.box 7)
abbrev Ik:A0:=[AW2,AL,AW0,AV7,AV8,AWr,AVb,AW1]
abbrev KV:List RS:=[]
abbrev PL:A0:=[AW2]
def YA[Lk]:Hints:={ fp:=Sx [(1,[[],[0],[0],[0],[0],[2],[4],[],[],[],[],[],[],[15]]),(7,[[],[],[],[0],[0],[0],[0],[14],[14],[6],[],[],[],[],[0],[0],[0],[1],[0],[0],[0],[1]]),(9,[[],[],[0],[0],[0],[0],[14],[14],[6],[],[],[],[],[0],[0],[0],[1]]),(12,[[],[],[0],[0],[0],[0],[14],[14],[],[],[],[],[0],[0],[0],[1]])] }
def aU[Lk](v:Bf (leaves Il)):Option (Bf (leaves Ik)⊕(List Int×Bf (leaves PL))):=Lk.f (DU 1 Tryz.prog Tc YA Tryz.f30 Il Ik KV 83 [.i64] PL v)
theorem aT(v):aU v=DU 1 Tryz.prog Tc YA Tryz.f30 Il Ik KV 83 [.i64] PL v:=A1 _
theorem Ws:Bu Tryz.prog 1 YA (CN Tryz.f30) 0:=DO _ 0 (by kernel_rfl)
theorem AIu:Hn Tryz.prog 30 (Bc 1 3 Il Ik KV fun x=>Df (aU x)) (IW 1 3 Il Ik KV 83 [.i64] PL aU):=LO J9.1 J9.2.1 J9.2.2 Tryz.func30 (Gq (by kernel_rfl)) (Cg Tryz.func30 (by kernel_rfl) (by kernel_rfl)) (AS9 rfl) aT Ws
theorem AIt:BT Tryz.prog 30 (Bc 1 3 Il Ik KV fun x=>Df (aU x)):=LM J9 Tryz.func30 (by kernel_rfl) (by kernel_rfl) rfl aT Ws
def Tb[Lk]:Env:=Env.kz Tc 30 false (Bc 1 3 Il Ik KV fun x=>Df (aU x)) (IW 1 3 Il Ik KV 83 [.i64] PL aU)
theorem M9:Bp Tryz.prog Tb:=Env.YE J9 AIt AIu (by simp)
abbrev AW3:Loc×Con:=(.tmp 0,.dat (.prod (.prod (.int .i64) (.prod (.slice (.prod (.int .i64) (.prod (.int .i64) (.prod (.int .i64) (.prod .bool .unit))))) .unit)) (.prod (.int .i64) (.prod (.int .i64) .unit))))
abbrev LX:A0:=[AW3,AWy,AWz]
abbrev LW:A0:=[AW3,(.tmp 1,.dat (.prod (.int .i64) (.prod (.int .i64) (.prod (.slice (.int .i64)) .unit))))]
abbrev OB:List RS:=[.one,.one]
abbrev aS:A0:=[(.tmp 3,.box 4),(.tmp 6,.box 4),(.tmp 7,.box 3),AL,AW0,AV7,AV8,AJ,(.cell 1 1,.nil (.prod (.int .i64) (.prod (.int .i64) (.prod (.int .i64) (.prod .bool .unit))))),AWL,AWv,AVt,AVu,(.cell 2 2,.nil (.int .i64)),(.tmp 4,.box 3),(.cell 3 0,.di),(.cell 3 1,.dat (.slice (.prod (.int .i64) (.prod (.int .i64) .unit)))),(.cell 3 2,.dat (.slice (.prod (.int .i64) (.prod (.int .i64) (.prod (.int .i64) .unit))))),(.tmp 5,.box 5),(.cell 4 0,.di),(.cell 4 1,.di),(.cell 4 2,.di),(.cell 4 3,.di),(.cell 4 4,.dat (.slice (.arr 2 (.int .i64))))]
def PK[Lk]:Hints:={ fp:=Sx [(6,[[],[10],[10],[10],[],[10],[10],[10],[3],[5]])] }
def VB:Hints:={ fp:=Sx [(3,[[0],[20],[20],[],[3],[5]])] }
def Ks[Lk](v:Bf (leaves LX)):Option (Bf (leaves LW)):=Lk.f (Qb Tryz.prog Tb Tryz.f20 2 LX LW OB {} PK VB aS 3 v)
theorem fe(v):Ks v=Qb Tryz.prog Tb Tryz.f20 2 LX LW OB {} PK VB aS 3 v:=A1 _
theorem j7[DfI]:Bu Tryz.prog 3 PK (rG 2 (CN Tryz.f20)) 0:=DO _ 0 (by kernel_rfl)
theorem p8:BT Tryz.prog 20 (Bc 0 3 LX LW OB Ks):=pf M9.1 M9.2.1 M9.2.2 Tryz.func20 (Gq (by kernel_rfl)) (Cg Tryz.func20 (by kernel_rfl) (by kernel_rfl)) (AS9 rfl) fe j7
def sH[Lk]:Env:=Tb.ext 20 true true (Bc 0 3 LX LW OB Ks)
theorem sG:Bp Tryz.prog sH:=Env.Ce M9 p8 (fun _=>MV rfl rfl) (fun _=>Ct rfl rfl)
end
end Go.Pev
end
section
namespace Go.Pev
noncomputable section
abbrev AKb:A0:=[AD,(.tmp 1,.dat U1)]
def cI[Lk]:(Uc×U2×Unit)->Option (Ub):=fun(a,b,_)=>
 match dL (a.1,())with|none=>none|some (c,_)=>some ((w64 (c-b.2.2.1)),())
def cJ[Lk]:=lkk cI
theorem gd v:cJ v=cI v:=A1 _
abbrev AFG:A0:=[AWa,AL,AV9,AG,(.tmp 9,.dat Ue),Aa,AZ]
def Lp[Lk]:Vc->Option (Vc⊕Ub⊕Unit):=fun(c,d,e,f,g,b,_)=>
 match(ilt b g)with
 |true=>match idx f b with|none=>none|some a=>match cJ ((c,(d,())),(a.1,(a.2.1,(a.2.2.1,(a.2.2.2.1,())))),())with|none=>none|some (h,_)=>some (.inl (c,d,(w64 (e+h)),f,g,(w64 (b+1)),()))
 |false=>some (.inr (.inl (e,())))
def cP[Lk]:(Uc×Unit)->Option (Ub):=fun(a,_)=>
 match Cu ((a.1,(a.2.1,())),())with|none=>none|some (b,_)=>match(!b)with
 |true=>some (0,())
 |false=>match A9 Lp many (a.1,a.2.1,0,a.2.1,(A4 a.2.1),0,())with|none=>none|some r=>match r with
 |.inl (c,_)=>some (c,())
 |.inr _=>none
def Gr[Lk]:=lkk cP
theorem gf v:Gr v=cP v:=A1 _
abbrev AOq:A0:=[(.tmp 0,.box 7),AL,AV9,AV7,AV8,AWr,AVb,AVa,AWA]
abbrev AOp:A0:=[AW2,AL,AV9,AV7,AV8,AWr,AVb,AVa]
abbrev AKq:A0:=[AW2,AL,AV9,AV7,AV8,AWr,AVb,AVa,AVn,(.tmp 10,.dat Uu),AZ,AM]
abbrev AKp:BI:=[(.ret,[AW2,AL,AV9,AV7,AV8,AWr,AVb,AVa]),(.exit 0,[AW2,AL,AV9,AV7,AV8,AWr,AVb,AVa])]
def Ol[Lk]:(Int×List U2×Int×Int×Int×Int×Int×List U4×Int×Int×Unit)->Option ((Int×List U2×Int×Int×Int×Int×Int×List U4×Int×Int×Unit)⊕(Int×List U2×Int×Int×Int×Int×Int×Unit)⊕(Int×List U2×Int×Int×Int×Int×Int×Unit)⊕Unit):=fun(b,a,e,f,g,h,i,k,l,j,_)=>
 match(ilt j l)with
 |true=>match idx k j with|none=>none|some c=>match pw ((b,(a,())),c.1,c.2.1,())with|none=>none|some (m,_)=>match(ilt m 0)with
  |true=>some (.inr (.inl (b,a,e,f,g,h,i,())))
  |false=>match idx a m with|none=>none|some d=>match cJ ((b,(a,())),(d.1,(d.2.1,(d.2.2.1,(d.2.2.2.1,())))),())with|none=>none|some (n,_)=>match c9 ((b,(a,())),c.1,c.2.1,())with|none=>none|some (o,p,q,r,_)=>some (.inl (o,p,e,(w64 (f+1)),(w64 (g+q.2.2.2.1)),(w64 (h+n)),i,k,l,(w64 (j+1)),()))
 |false=>some (.inr (.inr (.inl (b,a,e,f,g,h,i,()))))
def mN[Lk]:(Int×List U2×Int×Int×Int×Int×Int×List U4×Unit)->Option ((Int×List U2×Int×Int×Int×Int×Int×Unit)):=fun(b,c,d,e,f,g,h,a,_)=>
 match A9 Ol many (b,c,d,e,f,g,h,a,(A4 a),0,())with|none=>none|some r=>match r with
 |.inl (i,j,k,l,m,n,o,_)=>some (i,j,k,l,m,n,o,())
 |.inr r=>match r with
 |.inl (p,q,s,t,u,v,w,_)=>some (p,q,s,t,u,v,w,())
 |.inr _=>none
def zu[Lk]:=lkk mN
theorem rj v:zu v=mN v:=A1 _
abbrev AOs:A0:=[AD,(.tmp 1,.dat Vi),AG]
def Pa[Lk]:(Uc×Uz×V5×Unit)->Option ((Uc×U9×Int×Unit)):=fun(b,c,d,_)=>
 match Ks (((b.1,(b.2.1,())),(0,(0,()))),(c.1,(c.2.1,(c.2.2.1,()))),(d.1,(d.2.1,((d.2.2.1.1,(d.2.2.1.2.1,(d.2.2.1.2.2.1,()))),()))),())with|none=>none|some (a,e,_)=>match(!(ieq e.1 0))with
 |true=>some ((b.1,(b.2.1,())),(0,(0,(0,(0,(0,()))))),e.1,())
 |false=>match(ieq c.1 1)with
 |true=>match Gr ((a.1.1,(a.1.2.1,())),())with|none=>none|some (f,_)=>some ((a.1.1,(a.1.2.1,())),(e.2.1,(0,(0,(0,(f,()))))),0,())
 |false=>match(ieq c.1 2)with
 |true=>match fO ((b.1,(b.2.1,())),c.2.1,())with|none=>none|some (g,n,_)=>match zu (b.1,b.2.1,0,0,0,0,0,g,())with|none=>none|some (o,p,h,i,j,k,q,_)=>match Gr ((a.1.1,(a.1.2.1,())),())with|none=>none|some (l,_)=>some ((a.1.1,(a.1.2.1,())),(h,(i,(j,(k,(l,()))))),0,())
 |false=>match Gr ((a.1.1,(a.1.2.1,())),())with|none=>none|some (m,_)=>some ((a.1.1,(a.1.2.1,())),(0,(0,(0,(0,(m,()))))),0,())
def DN[Lk]:=lkk Pa
theorem Om v:DN v=Pa v:=A1 _
abbrev AOv:A0:=[AD,(.tmp 1,.dat (.slice (.int .u8))),(.tmp 2,.dat V8)]
abbrev AOu:A0:=[AD,(.tmp 1,.own 38 Vi),AG]
abbrev AKx:A0:=[AWc,AL,AV9,(.tmp 5,.box 5),AJ,AVp,AWL,AWv,(.cell 1 4,.dat (.slice (.arr 2 U0))),AWn,AVt,(.cell 2 1,.nil U1),AZ,(.tmp 12,.own 38 Vi),(.tmp 28,.dat (.slice (.prod U0 (.prod Uu (.prod V4 .unit))))),AWi,(.tmp 30,.di)]
abbrev AKw:BI:=[(.exit 0,[AWc,AL,AV9,AWn,AJ,AWw,AZ,(.tmp 12,.own 38 Vi)])]
def E3[Lk]:(Int×List U2×Int×Int×Int×Int×List U7×Int×Int×List U9×List Uz×Int×Int×Unit)->Option ((Int×List U2×Int×Int×Int×Int×List U7×Int×Int×List U9×List Uz×Int×Int×Unit)⊕(Int×List U2×Int×Int×List U9×Unit)⊕Unit):=fun(d,e,f,g,h,i,j,k,l,b,m,n,c,_)=>
 match(ilt c n)with
 |true=>match idx m c with|none=>none|some o=>match DN ((d,(e,())),(o.1,(o.2.1,(o.2.2.1,()))),(f,(g,((h,(i,(j,()))),()))),())with|none=>none|some (p,a,q,_)=>match(ieq q 0)with
  |true=>match(fits ((A4 b)+(A4 ([(a.1,(a.2.1,(a.2.2.1,(a.2.2.2.1,(a.2.2.2.2.1,())))))]:List U9))))with
   |true=>some (.inl (p.1,p.2.1,f,g,h,i,j,k,l,(B6 b ([(a.1,(a.2.1,(a.2.2.1,(a.2.2.2.1,(a.2.2.2.2.1,())))))]:List U9)),m,n,(w64 (c+1)),()))
   |false=>none
  |false=>some (.inl (d,e,f,g,h,i,j,k,l,b,m,n,(w64 (c+1)),()))
 |false=>some (.inr (.inl (d,e,k,l,b,())))
def mO[Lk]:(Uc×List Int×V5×Unit)->Option ((Uc×List U9×Int×Unit)):=fun(a,d,b,_)=>
 match Cu ((a.1,(a.2.1,())),())with|none=>none|some (e,_)=>match(!e)with
 |true=>some ((a.1,(a.2.1,())),([]:List U9),1,())
 |false=>match Ib (d,())with|none=>none|some (c,k,f,_)=>match A9 E3 many (a.1,a.2.1,b.1,b.2.1,b.2.2.1.1,b.2.2.1.2.1,b.2.2.1.2.2.1,0,f,([]:List U9),c,(A4 c),0,())with|none=>none|some r=>match r with
 |.inl (g,h,l,i,j,_)=>some ((g,(h,())),j,i,())
 |.inr _=>none
def rm[Lk]:=lkk mO
theorem rl v:rm v=mO v:=A1 _
abbrev AQx:A0:=[(.tmp 0,.dat Vi)]
def AKk[Lk]:(U9×Unit)->Option (Ud):=fun(a,_)=>
 match M0 (([a.1,a.2.1,a.2.2.1,a.2.2.2.1,a.2.2.2.2.1]:List (Int)),())with|none=>none|some (b,_)=>some (b,())
def AQz[Lk]:=lkk AKk
theorem AOj v:AQz v=AKk v:=A1 _
abbrev ab:A0:=[AWW,(.tmp 1,.clo 27 [])]
abbrev qD:A0:=[AWW,(.tmp 1,.clo 27 []),AP,AQ]
def qC[Lk]:(List U9×Int×Int×Unit)->Option ((List U9×Int×Int×Unit)⊕Ub⊕(Unit)⊕Unit):=fun(c,d,b,_)=>
 match(ilt b d)with
 |true=>match idx c b with|none=>none|some a=>match AQz ((a.1,(a.2.1,(a.2.2.1,(a.2.2.2.1,(a.2.2.2.2.1,()))))),())with|none=>none|some (e,_)=>match e with
  |true=>some (.inr (.inl (b,())))
  |false=>some (.inl (c,d,(w64 (b+1)),()))
 |false=>some (.inr (.inr (.inl ())))
def ae[Lk]:(List U9×Unit)->Option (Ub):=fun(a,_)=>
 match A9 qC many (a,(A4 a),0,())with|none=>none|some r=>match r with
 |.inl (b,_)=>some (b,())
 |.inr r=>match r with
 |.inl _=>some ((-1:Int),())
 |.inr _=>none
def af[Lk]:=lkk ae
theorem qE v:af v=ae v:=A1 _
def XB[Lk]:(List U9×Unit)->Option (Ud):=fun(a,_)=>
 match af (a,())with|none=>none|some (b,_)=>some ((ile 0 b),())
def Vt[Lk]:=lkk XB
theorem lR v:Vt v=XB v:=A1 _
abbrev AKs:A0:=[AWW]
abbrev AKr:A0:=[(.tmp 0,.dat Vi),AF]
abbrev AFE:A0:=[(.tmp 2,.box 5),AL,AVS,AV7,AV8,AWr,(.tmp 14,.dat (.slice Vi)),AVx,(.tmp 16,.di)]
abbrev AFD:BI:=[(.exit 0,[(.tmp 2,.box 5),AL,AVS,AV7,AV8,AWr])]
def AFC[Lk]:(Int×Int×Int×Int×Int×List U9×Int×Int×Unit)->Option ((Int×Int×Int×Int×Int×List U9×Int×Int×Unit)⊕U9⊕Unit):=fun(c,d,e,f,i,g,h,b,_)=>
 match(ilt b h)with
 |true=>match idx g b with|none=>none|some a=>some (.inl ((w64 (c+a.1)),(w64 (d+a.2.1)),(w64 (e+a.2.2.1)),(w64 (f+a.2.2.2.1)),a.2.2.2.2.1,g,h,(w64 (b+1)),()))
 |false=>some (.inr (.inl (c,d,e,f,i,())))
def rk[Lk]:(List U9×Unit)->Option ((U9×Int×Unit)):=fun(a,_)=>
 match(ilt 1000 (A4 a))with
 |true=>some ((0,(0,(0,(0,(0,()))))),1,())
 |false=>match Vt (a,())with|none=>none|some (b,_)=>match b with
 |true=>some ((0,(0,(0,(0,(0,()))))),1,())
 |false=>match A9 AFC many (0,0,0,0,0,a,(A4 a),0,())with|none=>none|some r=>match r with
 |.inl (c,d,e,f,g,_)=>some ((c,(d,(e,(f,(g,()))))),0,())
 |.inr _=>none
def RU[Lk]:=lkk rk
theorem AFF v:RU v=rk v:=A1 _
def WH[Lk]:(Unit)->Option (Ud):=fun _=>
 match Po ()with|none=>none|some (e,_)=>match DN ((6,(([]:List U2),())),(1,(([(0,(1,())),(1,(2,())),(2,(0,())),(3,(4,())),(4,(5,())),(5,(3,())),(2,(3,()))]:List U4),(([]:List Ua),()))),e,())with|none=>none|some (c,a,f,_)=>match Po ()with|none=>none|some (g,_)=>match DN ((c.1,(c.2.1,())),(2,(([(3,(2,())),(0,(1,())),(0,(5,()))]:List U4),(([]:List Ua),()))),g,())with|none=>none|some (h,b,i,_)=>match Po ()with|none=>none|some (j,_)=>match rm ((6,(([]:List U2),())),([1,0,2,0,0,0,1,0,0,0,2,1,0,1,0,0,0,9,2,0,1,0,0,0,1,8]:List (Int)),j,())with|none=>none|some (k,l,m,_)=>match RU (([(a.1,(a.2.1,(a.2.2.1,(a.2.2.2.1,(a.2.2.2.2.1,()))))),(b.1,(b.2.1,(b.2.2.1,(b.2.2.2.1,(b.2.2.2.2.1,())))))]:List U9),())with|none=>none|some (d,n,_)=>match Po ()with|none=>none|some (o,_)=>match DN ((c.1,(c.2.1,())),(9,(([]:List U4),(([]:List Ua),()))),o,())with|none=>none|some (s,t,p,_)=>match(ieq f 0)with
 |true=>match(ieq i 0)with
  |true=>match(ieq m 8)with
   |true=>match(ieq n 0)with
    |true=>match(ieq p 1)with
     |true=>match(ieq a.1 7&&(ieq a.2.1 0&&(ieq a.2.2.1 0&&(ieq a.2.2.2.1 0&&(ieq a.2.2.2.2.1 21&&true)))))with
      |true=>match(ieq b.1 0&&(ieq b.2.1 2&&(ieq b.2.2.1 2&&(ieq b.2.2.2.1 6&&(ieq b.2.2.2.2.1 13&&true)))))with
       |true=>match(ieq (A4 h.2.1) 5)with
        |true=>match(ieq (A4 k.2.1) 1)with
         |true=>match QS (l,([(2,(0,(0,(0,(6,()))))),(0,(1,(0,(3,(3,())))))]:List U9),())with|none=>none|some (q,_)=>match q with
          |true=>match(ieq d.1 7&&(ieq d.2.1 2&&(ieq d.2.2.1 2&&(ieq d.2.2.2.1 6&&(ieq d.2.2.2.2.1 13&&true)))))with
           |true=>match Gr ((c.1,(c.2.1,())),())with|none=>none|some (r,_)=>some ((ieq r 21),())
           |false=>some (false,())
          |false=>some (false,())
         |false=>some (false,())
        |false=>some (false,())
       |false=>some (false,())
      |false=>some (false,())
     |false=>some (false,())
    |false=>some (false,())
   |false=>some (false,())
  |false=>some (false,())
 |false=>some (false,())
def YP[Lk]:=lkk WH
theorem cV v:YP v=WH v:=A1 _
def RT[Lk]:(Uc×Uz×V5×Unit)->Option (Ud):=fun(b,e,c,_)=>
 match YP ()with|none=>none|some (g,_)=>match(!g)with
 |true=>some (false,())
 |false=>match Su ((b.1,(b.2.1,())),(c.1,(c.2.1,((c.2.2.1.1,(c.2.2.1.2.1,(c.2.2.1.2.2.1,()))),()))),())with|none=>none|some (h,_)=>match h with
 |true=>some (true,())
 |false=>match(ilt 30 (w64 ((A4 e.2.1)+(A4 e.2.2.1))))with
 |true=>some (true,())
 |false=>match MF ((b.1,(b.2.1,())),())with|none=>none|some (i,_)=>match(!i)with
 |true=>some (true,())
 |false=>match DN ((b.1,(b.2.1,())),(e.1,(e.2.1,(e.2.2.1,()))),(c.1,(c.2.1,((c.2.2.1.1,(c.2.2.1.2.1,(c.2.2.1.2.2.1,()))),()))),())with|none=>none|some (d,a,j,_)=>match(!(ieq j 0))with
 |true=>match jC ((d.1,(d.2.1,())),(b.1,(b.2.1,())),())with|none=>none|some (k,_)=>match k with
  |true=>some ((ieq a.1 0&&(ieq a.2.1 0&&(ieq a.2.2.1 0&&(ieq a.2.2.2.1 0&&(ieq a.2.2.2.2.1 0&&true))))),())
  |false=>some (false,())
 |false=>match NW (b.1,())with|none=>none|some (f,_)=>match Gr ((b.1,(b.2.1,())),())with|none=>none|some (l,_)=>match Gr ((d.1,(d.2.1,())),())with|none=>none|some (m,_)=>match(ieq (w64 (l+(w64 (f*a.1)))) (w64 ((w64 (m+a.2.2.1))+a.2.2.2.1)))with
 |true=>match Gr ((d.1,(d.2.1,())),())with|none=>none|some (n,_)=>match(ieq a.2.2.2.2.1 n)with
  |true=>match(ieq (A4 d.2.1) (w64 ((w64 ((A4 b.2.1)+a.1))-a.2.1)))with
   |true=>match MF ((d.1,(d.2.1,())),())with|none=>none|some (o,_)=>match o with
    |true=>match(ile a.2.2.2.1 (w64 (f*a.2.1)))with
     |true=>match(ieq e.1 2)with
      |true=>some (true,())
      |false=>match(ieq a.2.1 0)with
      |true=>some ((ieq a.2.2.1 0),())
      |false=>some (false,())
     |false=>some (false,())
    |false=>some (false,())
   |false=>some (false,())
  |false=>some (false,())
 |false=>some (false,())
def J4[Lk]:=lkk RT
theorem XF v:J4 v=RT v:=A1 _
end
end Go.Pev
end
section

end
section
namespace Go.Pev.Pl
theorem YU{n:Int}(h:-9223372036854775808<=n/\n<=9223372036854775807):IntKind.wrap .i64 n=n:=IntWalk.i64_in n h
theorem BG{n:Int}(h:-9223372036854775808<=n/\n<=9223372036854775807):w64 n=n:=IntWalk.i64_in n h
theorem ADL{σ ρ:Type}{step:σ->Option (σ⊕ρ)}(I:σ->Prop)(Q:ρ->Prop)(m:σ->Nat)
  (h:∀ v,I v->(∃ a,step v=some (.inl a)/\I a/\m a<m v)\/(∃ r,step v=some (.inr r)/\Q r)) :
  ∀ n v,I v->m v<n->∃ r,BD step n v=some r/\Q r:=by
 intro n;induction n with
  |zero=>omega
  |succ n c=>
   intro v b d;rcases h v b with⟨a,e,hi,f⟩|⟨r,e,g⟩
   rw[BD,e];grind;rw[BD,e];grind
theorem vp{σ ρ:Type}{step:σ->Option (σ⊕ρ)}(I:σ->Prop)(Q:ρ->Prop)(m:σ->Nat)
  (h:∀ v,I v->(∃ a,step v=some (.inl a)/\I a/\m a<m v)\/(∃ r,step v=some (.inr r)/\Q r))
  (v:σ) (hi:I v) (hm:m v<many):∃ r,A9 step many v=some r/\Q r:=by rw[BR];exact ADL I Q m h many v hi hm
section
variable {α:Type} [Inhabited α]
theorem Bq{d:Array α}{n:Nat}(h:n<d.size):idx d.toList (n:Int)=some d[n]! := by rw[idx_eq,aa,ASH (by omega)];simp[h]
theorem CT{d:Array α}{n:Nat}{z:α}(h:n<d.size):A_ d.toList (A3 (n:Int)) z=d[n]! := by simp[A_,A3,h]
theorem Kg{d:Array α}{n:Nat}{x:α}:Be d.toList (A3 (n:Int)) x=(d.setIfInBounds n x).toList:=by simp[Be,A3]
theorem zf{d:Array α}:A4 d.toList=(d.size:Int):=by simp[A4]
theorem K_(d:Array α)(i j:Nat):(d.setIfInBounds i d[j]!).setIfInBounds j d[i]! = Go.Sort.swp d i j:=rfl
theorem size_swp(d:Array α)(i j:Nat):(Go.Sort.swp d i j).size=d.size:=by simp[Go.Sort.swp]
end
theorem A2(a b:Nat):ilt (a:Int) (b:Int)=decide (a<b):=by rw[BC];simp
theorem Dq(a b:Nat):ile (a:Int) (b:Int)=decide (a<=b):=by rw[BM];simp
theorem kG(a b:Nat):ieq (a:Int) (b:Int)=decide (a=b):=by rw[Cd];grind
section
theorem wrap_add{a b:Nat}(h:a+b<9223372036854775808):w64 ((a:Int)+(b:Int))=((a+b:Nat):Int):=by rw[BG (by omega)];omega
theorem A5{a:Nat}(h:a+1<9223372036854775808):w64 ((a:Int)+1)=((a+1:Nat):Int):=by rw[BG (by omega)];omega
theorem AAM{a:Nat}(h:2*a<9223372036854775808):w64 ((2:Int)*(a:Int))=((2*a:Nat):Int):=by rw[BG (by omega)];omega
theorem AAL{a:Nat}(h:a<9223372036854775808):w64 ((a:Int)*1)=((a*1:Nat):Int):=by rw[BG (by omega)];omega
theorem Oy{a:Nat}(h:a*2<9223372036854775808):w64 ((a:Int)*2)=((a*2:Nat):Int):=by rw[BG (by omega)];omega
theorem AAK{a:Nat}(h:a*3<9223372036854775808):w64 ((a:Int)*3)=((a*3:Nat):Int):=by rw[BG (by omega)];omega
theorem Ep{a b:Nat}(h:b<=a/\a<9223372036854775808):w64 ((a:Int)-(b:Int))=((a-b:Nat):Int):=by rw[BG (by omega)];omega
theorem B1{a:Nat}(h:1<=a/\a<9223372036854775808):w64 ((a:Int)-1)=((a-1:Nat):Int):=by rw[BG (by omega)];omega
theorem AHG{a:Nat}(h:a<9223372036854775808):quo? .i64 (a:Int) 2=some ((a/2:Nat):Int):=by rw[QY,jP,ASH (by omega),AUL (by omega),YU (by omega)];rfl
theorem yO{a:Nat}(h:a<9223372036854775808):quo? .i64 (a:Int) 4=some ((a/4:Nat):Int):=by rw[QY,jP,ASH (by omega),AUL (by omega),YU (by omega)];rfl
theorem ARR{a:Nat}(h:a<9223372036854775808):quo? .i64 (a:Int) 8=some ((a/8:Nat):Int):=by rw[QY,jP,ASH (by omega),AUL (by omega),YU (by omega)];rfl
end
section
variable {α:Type}
theorem Dr{xs:List α}{n:Nat}(z:α)(h:n<xs.length):idx xs (n:Int)=some (xs.getD n z):=by rw[idx_eq,aa,ASH (by omega)];simp[h]
theorem AQd{xs:List α}{n:Nat}(h:n<xs.length):∃ x,idx xs (n:Int)=some x:=by rw[idx_eq,aa,ASH (by omega)];simp_all
theorem kH(xs:List α)(n:Nat):idx xs (n:Int)=xs[n]? := by rw[idx_eq,aa,ASH (by omega)];simp
theorem H8(xs:List α):idx xs (0:Int)=xs.head? := by rw[idx_eq,aa,ASH (by omega)];cases xs<;>rfl
theorem Gk(xs:List α)(n:Nat)(z:α):A_ xs (A3 (n:Int)) z=xs.getD n z:=by simp[A_,A3]
theorem DX(xs:List α)(n:Nat)(x:α):Be xs (A3 (n:Int)) x=xs.set n x:=by simp[Be,A3]
theorem A6(xs:List α):A4 xs=(xs.length:Int):=rfl
theorem OU(n:Nat):A3 (n:Int)=n:=by simp[A3]
theorem Ej(xs ys:List α):B6 xs ys=xs++ys:=rfl
theorem Tv{xs:List α}{l h:Nat}(a:l<=h)(b:h<=xs.length):Dd xs (l:Int) (h:Int)=some ((xs.take h).drop l):=by rw[O7,eT,ASL (by omega)];simp
end
theorem CC{n:Int}(h:n<=4294967296):fits n=true:=(Gf n).2 h
theorem HW{α:Type}{xs:List α}(h:xs.length<=4294967296):M6 xs=some xs:=by rw[gX,lW,(VR _).2 (by rw[A6];omega)]
theorem AI5{α β:Type}(xs:List α)(ys:List β):ieq (A4 xs) (A4 ys)=decide (xs.length=ys.length):=by rw[A6,A6,kG]
theorem BB(a b:Int):ieq a b=decide (a=b):=by rw[Cd];grind
def walk{α β ρ:Type}(f:β->α->α⊕ρ)(fin:α->ρ):List β->α->ρ
 |[],a=>fin a
 |x::xs,a=>match f x a with
  |.inl a=>walk f fin xs a
  |.inr r=>r
theorem AAV{σ ρ α β:Type}{step:σ->Option (σ⊕ρ)}(st:Nat->α->σ)(xs:List β)(f:β->α->α⊕ρ)(fin:α->ρ)(I:Nat->α->Prop)
  (h:∀ i x a,i<xs.length->xs[i]? = some x->I i a->(∀ c,f x a = .inl c->step (st i a)=some (.inl (st (i+1) c))/\I (i+1) c)/\(∀ r,f x a = .inr r->step (st i a)=some (.inr r)))
  (g:∀ a,I xs.length a->step (st xs.length a)=some (.inr (fin a))) :
  ∀ (m i n:Nat) (a:α),xs.length-i=m->i<=xs.length->m<n->I i a->BD step n (st i a)=some (walk f fin (xs.drop i) a):=by
 intro m;induction m with
  |zero=>
   intro i n a j hi l d;obtain⟨n,rfl⟩:∃ k,n=k+1:=⟨n-1,by omega⟩
   have e:i=xs.length:=by omega
   subst e;rw[BD,g a d,List.drop_length];rfl
  |succ m o=>
   intro i n a j hi l d;obtain⟨n,rfl⟩:∃ k,n=k+1:=⟨n-1,by omega⟩
   have b:i<xs.length:=by omega
   obtain⟨p,q⟩:=h i xs[i] a b (by simp) d;rw[ASr b,walk,BD];grind
theorem DL{σ ρ α β:Type}{step:σ->Option (σ⊕ρ)}(st:Nat->α->σ)(xs:List β)(f:β->α->α⊕ρ)(fin:α->ρ)(I:Nat->α->Prop)(e:xs.length<9223372036854775808)
  (h:∀ i x a,i<xs.length->xs[i]? = some x->I i a->(∀ b,f x a = .inl b->step (st i a)=some (.inl (st (i+1) b))/\I (i+1) b)/\(∀ r,f x a = .inr r->step (st i a)=some (.inr r)))
  (c:∀ a,I xs.length a->step (st xs.length a)=some (.inr (fin a))) (a:α) (d:I 0 a):A9 step many (st 0 a)=some (walk f fin xs a):=by
 have g:9223372036854775808<many:=by simp only[many];omega
 rw[BR,AAV st xs f fin I h c xs.length 0 many a (by omega) (by omega) (by omega) d];rfl
theorem S2{α:Type}{xs ys:List α}(z:α)(a:xs.length=ys.length)(h:∀ j,j<xs.length->xs.getD j z=ys.getD j z):xs=ys:=by apply AUV a;grind
theorem AA9{σ ρ:Type}{step:σ->Option (σ⊕ρ)}(st:Nat->σ)(N:Nat)(P:Nat->Bool)(c:Nat->ρ)(d:ρ)
  (h:∀ i,i<N->step (st i)=if P i then some (.inr (c i))else some (.inl (st (i+1)))) (l:step (st N)=some (.inr d)) :
  ∀ (m i n:Nat),N-i=m->i<=N->m<n->(∃ k,i<=k/\k<N/\P k=true/\(∀ j,i<=j->j<k->P j=false)/\BD step n (st i)=some (c k))\/((∀ j,i<=j->j<N->P j=false)/\BD step n (st i)=some d):=by
 intro m;induction m with
  |zero=>
   intro i n o hi p;obtain⟨n,rfl⟩:∃ k,n=k+1:=⟨n-1,by omega⟩
   have e:i=N:=by omega
   subst e;exact .inr ⟨fun j f g=>by omega,by rw[BD,l]⟩
  |succ m q=>
   intro i n o hi p;obtain⟨n,rfl⟩:∃ k,n=k+1:=⟨n-1,by omega⟩
   have a:i<N:=by omega
   cases b:P i
   ·have e:BD step (n+1) (st i)=BD step n (st (i+1)):=by rw[BD,h i a,b];rfl
    rw[e];rcases q (i+1) n (by omega) (by omega) (by omega)with⟨k,f,g,r,s,t⟩|⟨f,g⟩
    all_goals grind
   exact .inl ⟨i,ASG _,a,b,fun j u v=>by omega,by rw[BD,h i a,b];rfl⟩
theorem AGg{σ ρ:Type}{step:σ->Option (σ⊕ρ)}(st:Nat->σ)(N:Nat)(P:Nat->Bool)(a:Nat->ρ)(b:ρ)(f:N<9223372036854775808)
  (h:∀ i,i<N->step (st i)=if P i then some (.inr (a i))else some (.inl (st (i+1)))) (c:step (st N)=some (.inr b)) :
  (∃ k,k<N/\P k=true/\(∀ j,j<k->P j=false)/\A9 step many (st 0)=some (a k))\/((∀ j,j<N->P j=false)/\A9 step many (st 0)=some b):=by
 have g:9223372036854775808<many:=by simp only[many];omega
 rw[BR];rcases AA9 st N P a b h c N 0 many rfl (by omega) (by omega)with⟨k,d,e,l,m,n⟩|⟨d,e⟩
 all_goals grind
inductive Tok where
 |ver (v:Int)
 |arc (u v:Int)
 deriving DecidableEq
namespace Tok
def st:Tok->Int
 |.ver v=>v
 |.arc _ v=>v
def step(s:List Int×List Int):Tok->Option (List Int×List Int)
 |.ver v=>match s.1 with
  |w::_=>if w=v then some s else none
  |[]=>none
 |.arc u v=>match s.1 with
  |w::r=>if w=u then match r with
    |p::r'=>if p=v then some (p::r',s.2)else if v∈s.2 then none else some (v::w::r,v::s.2)
    |[]=>if v∈s.2 then none else some (v::w::r,v::s.2)
   else none
  |[]=>none
def run:List Int×List Int->List Tok->Option (List Int×List Int)
 |s,[]=>some s
 |s,t::l=>match step s t with
  |some s=>run s l
  |none=>none
theorem JQ(s:List Int×List Int)(a b:List Tok):run s (a++b)=(run s a).bind fun s=>run s b:=by
 induction a generalizing s with
  |nil=>rfl
  |cons t a c=>simp only[ASl,run];grind
theorem G2{s b:List Int×List Int}{t:Tok}(h:step s t=some b):
  (∃ v r,t = .ver v/\s.1=v::r/\b=s) \/
  (∃ u v r,t = .arc u v/\s.1=u::v::r/\b=(v::r,s.2)) \/
  (∃ u v r,t = .arc u v/\s.1=u::r/\r.head?≠some v/\v∉s.2/\b=(v::u::r,v::s.2)):=by
 obtain⟨a,c⟩:=s;cases t with
  |ver v=>
   cases a with
    |nil=>simp[step]at h
    |cons w r=>simp only[step]at h;grind
  |arc u v=>
   cases a with
    |nil=>simp[step]at h
    |cons w r=>
     simp only[step]at h;split at h
     ·rename_i e;subst e;cases r with
       |nil=>simp only at h;split at h;all_goals grind
       |cons p r=>simp only at h;split at h;grind;·split at h;all_goals grind
     grind
theorem Hw(v:Int)(r c:List Int):step (v::r,c) (.ver v)=some (v::r,c):=by simp[step]
theorem LA(u v:Int)(r c:List Int):step (u::v::r,c) (.arc u v)=some (v::r,c):=by simp[step]
theorem I2(u v:Int)(r c:List Int)(b:r.head?≠some v)(a:v∉c):step (u::r,c) (.arc u v)=some (v::u::r,v::c):=by
 cases r with
  |nil=>simp[step,a]
  |cons p r=>
   have:p≠v:=by grind
   simp[step,a,this]
def Inv(s:List Int×List Int):Prop:=s.1.Nodup/\(∀ x∈s.1,x∈s.2)
theorem Y0{s d:List Int×List Int}{t:Tok}(h:step s t=some d)(hi:Inv s):Inv d/\(∀ x∈s.2,x∈d.2)/\d.1.head? = some t.st:=by
 obtain⟨g,c⟩:=s;obtain⟨e,f⟩:=hi;rcases G2 h with⟨v,r,rfl,a,rfl⟩|⟨u,v,r,rfl,a,rfl⟩|⟨u,v,r,rfl,a,_,i,rfl⟩
 exact⟨⟨e,f⟩,fun x b=>b,by rw[a];rfl⟩;·simp only at a e f;subst a;refine⟨⟨?_,?_⟩,fun x b=>b,rfl⟩;all_goals grind
 ·simp only at a e f i;subst a;refine⟨⟨?_,?_⟩,fun x b=>by simp[b],rfl⟩;all_goals grind
theorem jD{l:List Tok}:∀ {s a:List Int×List Int},run s l=some a->Inv s->Inv a/\(∀ x∈s.2,x∈a.2)/\∀ t,l.getLast? = some t->a.1.head? = some t.st:=by
 induction l with
  |nil=>intro s a h hi;cases h;grind
  |cons t l c=>
   intro s a h hi;simp only[run]at h;split at h;rename_i k d;obtain⟨e,f,m⟩:=Y0 d hi;obtain⟨g,i,n⟩:=c h e;refine⟨g,fun x j=>i x (f x j),fun t' b => ?_⟩;cases l with
    |nil=>simp at b;subst b;simp only[run]at h;grind
    |cons y l=>grind
   grind
theorem I3{Z:Int->Prop}:∀ {l:List Tok} {b a c d c2 low:List Int},run (b,c) l=some (a,d)->b≠[]->(∀ x,x∈c2↔x∈c\/Z x) ->
  (∀ u v,.arc u v∈l->¬ Z v)->(∀ y∈low,Z y)->∃ e,run (b++low,c2) l=some (a++low,e)/\(∀ x,x∈e↔x∈d\/Z x):=by
 intro l;induction l with
  |nil=>intro b a c d c2 low h _ k _ _;cases h;exact⟨c2,rfl,k⟩
  |cons t l m=>
   intro b a c d c2 low h n k w o;simp only[run]at h;split at h;rename_i D z;have g:∀ u v,Tok.arc u v∈l->¬ Z v:=fun u v A=>w u v (ATO _ A);rcases G2 z with⟨v,r,rfl,f,rfl⟩|⟨u,v,r,rfl,f,rfl⟩|⟨u,v,r,rfl,f,E,B,rfl⟩
   simp only at f;subst f;obtain⟨e,i,j⟩:=m h n k g o;exact⟨e,by simp only[run,ASl,Hw];exact i,j⟩;simp only at f;subst f;obtain⟨e,i,j⟩:=m h (by simp) k g o;exact⟨e,by simp only[run,ASl,LA];exact i,j⟩;simp only at f B;subst f;have C:=w u v (by simp);have q:v∉c2:=by grind
   have s:(r++low).head?≠some v:=by
    cases r with
     |nil=>
      cases low with
       |nil=>simp
       |cons y low=>grind
     |cons p r=>grind
   obtain⟨e,i,j⟩:=m (c2:=v::c2) h (by simp) (by grind) g o;exact⟨e,by simp only[run,ASl,I2 _ _ _ _ s q];exact i,j⟩;grind
theorem AGt{z:Int}:∀ {l:List Tok} {b a c2 m c:List Int},run (b,c2) l=some (a,m)->z∉b->(∀ x,x∈c2↔x∈c\/x=z)->z∉c ->
  .ver z∉l/\∃ d,run (b,c) l=some (a,d)/\(∀ x,x∈m↔x∈d\/x=z)/\z∉d:=by
 intro l;induction l with
  |nil=>intro b a c2 m c h _ f n;cases h;exact⟨by simp,c,rfl,f,n⟩
  |cons t l o=>
   intro b a c2 m c h g f n;simp only[run]at h;split at h;rename_i C y;rcases G2 y with⟨v,r,rfl,e,rfl⟩|⟨u,v,r,rfl,e,rfl⟩|⟨u,v,r,rfl,e,A,s,rfl⟩
   simp only at e;subst e;obtain⟨w,d,i,j,k⟩:=o h g f n;refine⟨?_,d,by simp only[run,Hw];exact i,j,k⟩;grind;simp only at e;subst e;obtain⟨w,d,i,j,k⟩:=o h (fun p=>g (ATO _ p)) f n;refine⟨?_,d,by simp only[run,LA];exact i,j,k⟩;grind;simp only at e s;subst e;have B:v≠z:=by grind
   have q:v∉c:=fun p=>s ((f v).2 (.inl p))
   obtain⟨w,d,i,j,k⟩:=o (c:=v::c) h (by grind)
    (by grind)
    (by grind)
   refine⟨?_,d,by simp only[run,I2 _ _ _ _ A q];exact i,j,k⟩;grind;grind
def Rot(a b:List Tok):Prop:=∃ x y,a=x++y/\b=y++x
theorem Rot.refl(a:List Tok):Rot a a:=⟨[],a,rfl,by simp⟩
theorem Rot.trans{a b c:List Tok}(h:Rot a b)(g:Rot b c):Rot a c:=by
 obtain⟨x,y,rfl,i⟩:=h;obtain⟨z,w,f,rfl⟩:=g;rw[i]at f;rcases List.append_eq_append_iff.1 f with⟨k,d,e⟩|⟨k,d,e⟩
 subst d e;exact⟨k,w++y,by simp,by simp⟩;subst d e;exact⟨x++z,k,by simp,by simp⟩
theorem Rot.perm{a b:List Tok}(h:Rot a b):a.Perm b:=by obtain⟨x,y,rfl,rfl⟩:=h;grind
theorem Rot.mem{a b:List Tok}(h:Rot a b)(t:Tok):t∈a↔t∈b:=h.perm.mem_iff
theorem Rot.length{a b:List Tok}(h:Rot a b):a.length=b.length:=h.perm.length_eq
inductive T:List Tok->Prop
 |one (v:Int):T [.ver v]
 |add (x:Tok) (l:List Tok) (v:Int):T (x::l)->x.st≠v->.ver v∉x::l->T (x :: .arc x.st v :: .ver v :: .arc v x.st::l)
 |rot (a b:List Tok):T (a++b)->T (b++a)
theorem T.AIV{a b:List Tok}(h:T a)(r:Rot a b):T b:=by obtain⟨x,y,rfl,rfl⟩:=r;exact T.rot x y h
theorem T.facts{l:List Tok}(h:T l):l≠[]/\(∀ t∈l,.ver t.st∈l)/\(∀ u v,.arc u v∈l->.ver u∈l/\.ver v∈l/\.arc v u∈l/\u≠v):=by
 induction h with
  |one v=>exact⟨by simp,by simp[st],by simp⟩
  |add x l v h m q f=>
   obtain⟨_,g,n⟩:=f;have d:∀ t,t∈x::l->t∈x::Tok.arc x.st v :: .ver v :: .arc v x.st::l:=by grind
   have o:=d _ (g x (by simp));have c:∀ t,t∈x::Tok.arc x.st v :: .ver v :: .arc v x.st::l->t∈x::l\/t = .arc x.st v\/t = .ver v\/t = .arc v x.st:=by grind
   refine⟨by simp,fun t i => ?_,fun a b j => ?_⟩;rcases c t i with h|rfl|rfl|rfl;grind;simp[st];simp[st];exact o;·rcases c _ j with h|h|h|h;all_goals grind
  |rot a b h f=>obtain⟨r,g,n⟩:=f;have k:∀ t,t∈a++b↔t∈b++a:=fun t=>List.perm_append_comm.mem_iff;refine⟨by intro e;simp_all,fun t i=>(k _).1 (g t ((k _).2 i)),fun u v p => ?_⟩;grind
theorem T.nodup{l:List Tok}(h:T l):l.Nodup:=by
 induction h with
  |one v=>simp
  |add x l v h c e d=>obtain⟨_,_,f⟩:=h.facts;grind
  |rot a b h d=>grind
def C(l:List Tok):Prop:=∀ r,Rot l r->∀ t,r.getLast? = some t->∃ c,run ([t.st],[t.st]) r=some ([t.st],c)/\∀ x,x∈c↔.ver x∈l
end Tok
end Go.Pev.Pl
end
section
namespace Go.Pev.Pl.Tok
theorem getLast?_app{a b:List Tok}{t:Tok}(h:b.getLast? = some t):(a++b).getLast? = some t:=by grind
theorem CX(s:List Int×List Int)(t:Tok)(l:List Tok):run s (t::l)=(step s t).bind fun s=>run s l:=by rw[run];grind
theorem YQ(v:Int):Inv ([v],[v]):=⟨by simp,by simp⟩
theorem T.toC{l:List Tok}(h:T l):C l:=by
 induction h with
  |one v=>intro r I t j;have:r=[.ver v]:=List.perm_singleton.1 I.perm.symm;subst this;simp at j;subst j;exact⟨[v],by simp[run,st,step],by simp⟩
  |rot a b h K=>intro r I t j;obtain⟨c,s,A⟩:=K r (Rot.trans ⟨a,b,rfl,rfl⟩ I) t j;grind
  |add x l v h Q M K=>
   obtain⟨_,f2,R⟩:=h.facts;have m:∀ u w,Tok.arc u w∈x::l->¬ (w=v):=fun u w B e=>M (e▸(R u w B).2.1);have fin:∀ {k c:List Int},(∀ y,y∈k↔y∈c\/y=v)->(∀ y,y∈c↔.ver y∈x::l)->∀ y,y∈k↔Tok.ver y∈x :: .arc x.st v :: .ver v :: .arc v x.st::l:=by grind
   have g:∀ {w' n:List Int},Inv (x.st::w',n)->v∉n->∀ p,run (x.st::w',n) (.arc x.st v :: .ver v :: .arc v x.st::p)=run (x.st::w',v::n) p:=by
    intro w' n hi H p;have S:w'.head?≠some v:=by intro e;exact H (hi.2 v (ATO _ (List.mem_of_head? e)))
    rw[CX,I2 _ _ _ _ S H,ATC,CX,Hw,ATC,CX,LA,ATC]
   have G:∀ i f,l=f++i->∀ t,(i++x :: .arc x.st v :: .ver v :: .arc v x.st::f).getLast? = some t->∃ c,run ([t.st],[t.st]) (i++x :: .arc x.st v :: .ver v :: .arc v x.st::f)=some ([t.st],c)/\∀ y,y∈c↔.ver y∈x :: .arc x.st v :: .ver v :: .arc v x.st::l:=by
    intro i f U t j;have J:Rot (x::l) (i++x::f):=⟨x::f,i,by simp[U],rfl⟩
    have L:∃ o,(i++x::f).getLast? = some o/\o.st=t.st:=by
     cases f with
      |nil=>refine⟨x,getLast?_app (by simp),?_⟩;rw[show i++[x,Tok.arc x.st v,.ver v,.arc v x.st]=(i++[x,Tok.arc x.st v,.ver v])++[Tok.arc v x.st] by simp,List.getLast?_concat]at j;cases j;rfl
      |cons y f=>refine⟨t,?_,rfl⟩;grind
    obtain⟨o,V,W⟩:=L;obtain⟨c,s,A⟩:=K _ J o V;rw[W,show i++x::f=(i++[x])++f by simp,JQ,ATj]at s;obtain⟨⟨X,n⟩,N,O⟩:=s;obtain⟨P,i2,Y⟩:=jD N (YQ _);obtain⟨j1,j2,j3⟩:=jD O P;have D:=Y x (by simp);simp only at D;cases X with
     |nil=>grind
     |cons w0 w'=>
      simp at D;subst D;have H:v∉n:=fun B=>M ((A v).1 (j2 v B));obtain⟨k,E,F⟩:=I3 (Z:=(· = v)) (c2:=v::n) (low:=[]) O (by simp) (fun y=>by simp[or_comm]) (fun u w B=>m u w (by grind)) (by simp)
      refine⟨k,?_,fin F A⟩;rw[show i++x::Tok.arc x.st v :: .ver v :: .arc v x.st::f=(i++[x])++Tok.arc x.st v :: .ver v :: .arc v x.st::f by simp,JQ,N,ATC,g P H];grind
   intro r I t j;obtain⟨p,q,d,rfl⟩:=I;have base:∀ o:Tok,(l++[x]).getLast? = some o->o=x:=fun o h=>by grind
   obtain⟨c,s,A⟩:=K (l++[x]) ⟨[x],l,rfl,rfl⟩ x (by simp);match p with
   |[]=>
    simp only[AS1]at d
    subst d
    have:=G [] l (by simp) t (by grind)
    simpa using this
   |[y]=>
    simp only[ASl,AS1,ASn]at d
    obtain⟨rfl,rfl⟩:=d
    have:t=x:=by
     grind
    subst this
    have H:v∉[t.st]:=by grind
    obtain⟨k,E,F⟩:=I3 (Z:=(· = v)) (c2:=[v,t.st]) (low:=[]) s (by simp) (fun y=>by simp[or_comm]) (fun u w B=>m u w (by grind)) (by simp)
    refine⟨k,?_,fin F A⟩
    rw[show(Tok.arc t.st v :: .ver v :: .arc v t.st::l)++[t]=Tok.arc t.st v :: .ver v :: .arc v t.st::(l++[t]) by simp,g (YQ _) H]
    grind
   |[y,z]=>
    simp only[ASl,AS1,ASn]at d
    obtain⟨rfl,rfl,rfl⟩:=d
    have:t = .arc x.st v:=by
     rw[show(Tok.ver v :: .arc v x.st::l)++[x,.arc x.st v]=(Tok.ver v :: .arc v x.st::l++[x])++[.arc x.st v] by simp,List.getLast?_concat]at j
     grind
    subst this
    obtain⟨k,E,F⟩:=I3 (Z:=(· = v)) (c2:=[x.st,v]) (low:=[v]) s (by simp) (fun y=>by simp) (fun u w B=>m u w (by grind)) (by simp)
    refine⟨k,?_,fin F A⟩
    rw[show(Tok.ver v :: .arc v x.st::l)++[x,.arc x.st v]=Tok.ver v :: .arc v x.st::((l++[x])++[.arc x.st v]) by simp]
    rw[CX]
    show(step ([v],[v]) _).bind _=_
    rw[Hw,ATC,CX,I2 _ _ _ _ (by simp) (by grind),ATC,JQ]
    rw[show([x.st]++[v]:List Int)=[x.st,v]from rfl]at E
    rw[E,ATC,CX,LA]
    rfl
   |[y,z,w]=>
    simp only[ASl,AS1,ASn]at d
    obtain⟨rfl,rfl,rfl,rfl⟩:=d
    have:t = .ver v:=by
     rw[show(Tok.arc v x.st::l)++[x,.arc x.st v,.ver v]=(Tok.arc v x.st::l++[x,.arc x.st v])++[.ver v] by simp,List.getLast?_concat]at j
     grind
    subst this
    obtain⟨k,E,F⟩:=I3 (Z:=(· = v)) (c2:=[x.st,v]) (low:=[v]) s (by simp) (fun y=>by simp) (fun u w B=>m u w (by grind)) (by simp)
    refine⟨k,?_,fin F A⟩
    rw[show(Tok.arc v x.st::l)++[x,.arc x.st v,.ver v]=Tok.arc v x.st::((l++[x])++[.arc x.st v,.ver v]) by simp]
    rw[CX]
    show(step ([v],[v]) _).bind _=_
    rw[I2 _ _ _ _ (by simp) (by grind),ATC,JQ]
    rw[show([x.st]++[v]:List Int)=[x.st,v]from rfl]at E
    rw[E,ATC,CX,LA,ATC,CX,Hw]
    rfl
   |y::z::w::w2::f=>
    simp only[ASl,ASn]at d
    obtain⟨rfl,rfl,rfl,rfl,rfl⟩:=d
    exact G q f rfl t j
def comp(P:List Tok):List Int->List Tok
 |[]=>[]
 |w::r=>(if .ver w∈P then []else [.ver w])++match r with
  |[]=>[]
  |p::_=>.arc w p::comp P r
theorem RL{P b:List Tok}:∀ {a:List Int},(∀ w∈a,(Tok.ver w∈P↔Tok.ver w∈b))->comp P a=comp b a:=by
 intro a;induction a with
  |nil=>intro _;rfl
  |cons w r c=>intro h;have d:=h w (by simp);have e:=c fun x f=>h x (ATO _ f);simp only[comp,d,e]
theorem AQg:∀ (M P:List Tok) (d c c':List Int) (r:Int) (a:Tok),run (d,c) M=some ([r],c')->Inv (d,c)->P.getLast? = some a->d.head? = some a.st ->
  T (P++comp P d)->(∀ x,.ver x∈P++comp P d->x∈c)->(∀ x∈c',Tok.ver x∈P++M)->(P++M).Nodup->T (P++M):=by
 intro M;induction M with
  |nil=>intro P d c c' r a h hi N R n o f p;cases h;have:=f r (hi.2 r (by simp));rw[ATM]at this;simpa [comp,this]using n
  |cons t M C=>
   intro P d c c' r a h hi N R n o f p;rw[CX,ATj]at h;obtain⟨⟨V,W⟩,O,B⟩:=h;obtain⟨k,Q,l⟩:=Y0 O hi;have q:P++t::M=(P++[t])++M:=by simp
   rw[q]at p f |-;have D:t∉P:=by grind
   rcases G2 O with⟨v,b,rfl,i,e⟩|⟨u,v,b,rfl,i,e⟩|⟨u,v,b,rfl,i,S,s,e⟩
   cases e;simp only at i;subst i;have g:comp P (v::b) = .ver v::comp (P++[.ver v]) (v::b):=by
    have y:comp P b=comp (P++[.ver v]) b:=RL fun w m=>by
     have:w≠v:=by rintro rfl;exact(ATD.1 hi.1).1 m
     grind
    simp only[comp,D,y];simp
   rw[g]at n o;exact C _ _ _ _ _ (.ver v) B k (by simp) l (by grind) (fun x U=>o x (by grind)) f p;cases e;simp only at i;subst i;have E:Tok.ver u∈P:=by
    have F:=(ATD.1 hi.1).1;obtain⟨X,_⟩:=AGt (z:=u) (c:=c.filter (·≠u)) B F (fun x=>by simp only[ASa,ASC];constructor;grind;rintro (h|rfl);exact h.1;exact hi.2 x (by simp)) (by simp)
    grind
   have g:comp P (u::v::b) = .arc u v::comp (P++[.arc u v]) (v::b):=by
    have y:comp P (v::b)=comp (P++[.arc u v]) (v::b):=RL fun w m=>by simp
    rw[<- y];simp only[comp,E];simp
   rw[g]at n o;exact C _ _ _ _ _ (.arc u v) B k (by simp) l (by grind) (fun x U=>o x (by grind)) f p;cases e;simp only at i s;subst i;have E:u=a.st:=by grind
   subst E;have G:∀ x,Tok.ver x∈P++comp P (a.st::b)->x≠v:=by grind
   have H:Tok.ver v∉P++comp P (a.st::b):=fun I=>G v I rfl;have A:Tok.ver v∉P:=fun I=>H (by simp[I]);have g:comp (P++[.arc a.st v]) (v::a.st::b) = .ver v :: .arc v a.st::comp P (a.st::b):=by
    have y:comp (P++[.arc a.st v]) (a.st::b)=comp P (a.st::b):=RL fun w m=>by simp
    rw[<- y];simp only[comp,ASF,A,ASj,reduceCtorEq,or_false,ASX];rfl
   have J:a.st≠v:=by rintro e;exact s (e▸hi.2 a.st (by simp))
   refine C _ _ _ _ _ (.arc a.st v) B k (by simp) l ?_ ?_ f p;rw[g];obtain⟨j,rfl⟩:∃ j,P=j++[a]:=AUw.1 N;have K:T (a::(comp (j++[a]) (a.st::b)++j)):=n.AIV ⟨j,a::comp (j++[a]) (a.st::b),by simp,by simp⟩;have L:=T.add a _ v K J (by grind)
   exact L.AIV ⟨a :: .arc a.st v :: .ver v :: .arc v a.st::comp (j++[a]) (a.st::b),j,by simp,by simp⟩;grind
def BP(l:List Tok):Prop:=∃ r a c,l = .ver r::a/\run ([r],[r]) l=some ([r],c)/\∀ x∈c,Tok.ver x∈l
theorem BP.toT{l:List Tok}(h:BP l)(d:l.Nodup):T l:=by obtain⟨r,b,c,rfl,a,e⟩:=h;rw[CX,Hw,ATC]at a;have:=AQg b [.ver r] [r] [r] c r (.ver r) a (YQ r) (by simp) (by simp[st]) (by simp[comp];exact T.one r) (by simp[comp]) (by grind) (by grind);grind
theorem T.iQ{r:Int}{l:List Tok}(h:T (.ver r::l)):BP (.ver r::l):=by
 obtain⟨t,d⟩:∃ t,(Tok.ver r::l).getLast? = some t:=⟨_,List.getLast?_eq_some_getLast (by simp)⟩
 obtain⟨c,b,f⟩:=h.toC _ (Rot.refl _) t d;have a:=b;rw[CX,ATj]at a;obtain⟨s,g,_⟩:=a;have e:t.st=r:=by simp only[step]at g;grind
 rw[e]at b;exact⟨r,l,c,rfl,b,fun x i=>(f x).1 i⟩
theorem T.rC{l:List Tok}(h:T l):∃ v r,Rot l (.ver v::r):=by obtain⟨c,d,_⟩:=h.facts;obtain⟨t,e⟩:=List.exists_mem_of_ne_nil l c;obtain⟨a,b,rfl⟩:=AUd (d t e);exact⟨t.st,b++a,a,.ver t.st::b,rfl,rfl⟩
theorem T.leaf{l:List Tok}(h:T l):(∃ v,l=[.ver v])\/∃ x v r,Rot l (x :: .arc x.st v :: .ver v :: .arc v x.st::r):=by
 induction h with
  |one v=>simp
  |add x l v h f g d=>exact .inr ⟨x,v,l,Rot.refl _⟩
  |rot a b h d=>
   rcases d with⟨v,e⟩|⟨x,v,r,c⟩
   have c:Rot [.ver v] (b++a):=⟨a,b,e.symm,rfl⟩
   exact .inl ⟨v,List.perm_singleton.1 c.perm.symm⟩;exact .inr ⟨x,v,r,Rot.trans ⟨b,a,rfl,rfl⟩ c⟩
def NR:List Tok->List Int
 |[]=>[]
 |.ver v::l=>v::NR l
 |.arc _ _::l=>NR l
theorem SQ{v:Int}:∀ {l:List Tok},v∈NR l↔.ver v∈l
 |[]=>by simp[NR]
 |.ver w::l=>by simp[NR,SQ (l:=l)]
 |.arc _ _::l=>by simp[NR,SQ (l:=l)]
theorem m6(a b:List Tok):NR (a++b)=NR a++NR b:=by
 induction a with
  |nil=>rfl
  |cons t a c=>cases t<;>simp[NR,c]
theorem T.len{l:List Tok}(h:T l):l.length+2=3*(NR l).length:=by
 induction h with
  |one v=>rfl
  |add x l v h d e c=>cases x<;>simp[NR]at c |-<;>omega
  |rot a b h c=>simp only[m6,ASN]at c |-;omega
end Go.Pev.Pl.Tok
end
section
namespace Go.Pev.Pl
section
variable {β:Type}
def B5(a:List (Int×β)):List Int:=a.map Prod.fst
theorem U_(a:List (Int×β)):(B5 a).length=a.length:=by simp[B5]
theorem FG(c:List (Int×β))(k:Int)(v:β)(j:Int):A7 (BF c k v) j=if j=k then some v else A7 c j:=by
 induction c with
  |nil=>simp only[BF,A7];grind
  |cons e c d=>obtain⟨a,b⟩:=e;simp only[BF];by_cases h:a=k;subst h;simp only[ASh,A7];grind;simp only[h,ASX,A7,d];grind
theorem Qr(c:List (Int×β))(k:Int)(v:β):B5 (BF c k v)=if k∈B5 c then B5 c else B5 c++[k]:=by
 induction c with
  |nil=>rfl
  |cons e c d=>
   obtain⟨a,b⟩:=e;simp only[BF];by_cases h:a=k;subst h;simp[B5];simp only[h,ASX];show a::B5 (BF c k v)=_;rw[d];have:k∈B5 ((a,b)::c)↔k∈B5 c:=by simp[B5,ATy h]
   simp only[this];split<;>rfl
theorem Wr(c:List (Int×β))(k:Int):A7 c k=none↔k∉B5 c:=by
 induction c with
  |nil=>simp[A7,B5]
  |cons e c d=>obtain⟨a,b⟩:=e;simp only[A7];by_cases h:a=k;simp[h,B5];simp only[h,ASX,d];simp[B5,ATy h]
theorem GW(a:List (Int×β))(k:Int)(v:β)(j:Int):j∈B5 (BF a k v)↔j=k\/j∈B5 a:=by rw[Qr];grind
theorem LN{a:List (Int×β)}(h:(B5 a).Nodup)(k:Int)(v:β):(B5 (BF a k v)).Nodup:=by rw[Qr];grind
end
def dd:List Int->List Int->List Int
 |ks,[]=>ks
 |ks,x::xs=>dd (if x∈ks then ks else ks++[x]) xs
theorem AQt:∀ (xs a:List Int),(dd a xs).length<=a.length+xs.length/\((dd a xs).length=a.length+xs.length↔xs.Nodup/\∀ x∈xs,x∉a):=by
 intro xs;induction xs with
  |nil=>intro a;simp[dd]
  |cons x xs b=>intro a;rw[dd];by_cases h:x∈a;grind;obtain⟨c,d⟩:=b (a++[x]);grind
theorem AKA(xs:List Int):(dd [] xs).length=xs.length↔xs.Nodup:=by have:=(AQt xs []).2;grind
theorem B2{α β ρ:Type}(g:β->α->α)(fin:α->ρ):∀ (xs:List β) (a:α),walk (fun x a=>.inl (g x a)) fin xs a=fin (xs.foldl (fun a x=>g x a) a):=by
 intro xs;induction xs with
  |nil=>intro a;rfl
  |cons x xs b=>intro a;rw[walk,AS2];grind
theorem Gg{σ ρ β:Type}{step:σ->Option (σ⊕ρ)}(st:Nat->σ)(xs:List β)(P:β->Bool)(b:Nat->ρ)(c:ρ)(d:xs.length<9223372036854775808)
  (h:∀ i x,i<xs.length->xs[i]? = some x->step (st i)=if P x then some (.inr (b i))else some (.inl (st (i+1)))) (g:step (st xs.length)=some (.inr c)) :
  A9 step many (st 0)=some (if xs.any P then b (xs.findIdx P)else c):=by
 have e:∀ (l:List β) (a:Nat),walk (fun x (a:Nat)=>if P x then .inr (b a)else .inl (a+1)) (fun _=>c) l a=if l.any P then b (a+l.findIdx P)else c:=by
  intro l;induction l with
   |nil=>intro a;rfl
   |cons x l j=>intro a;rw[walk,List.any_cons,AUk];grind
 have:=DL (step:=step) (fun i (a:Nat)=>st a) xs (fun x (a:Nat)=>if P x then .inr (b a)else .inl (a+1)) (fun _=>c) (fun i a=>a=i) d
  (fun i x a hi k f=>by
   grind)
  (fun a f=>by grind) 0 rfl
 grind
theorem A'{α:Type}{xs:List α}{n:Nat}{x:α}(h:xs[n]? = some x):idx xs (n:Int)=some x:=by rw[kH,h]
theorem Bm{α:Type}{xs:List α}{n:Nat}{x z:α}(h:xs[n]? = some x):A_ xs (A3 (n:Int)) z=x:=by rw[Gk,ASY,h];rfl
theorem Tw{α:Type}{xs:List α}{h:Nat}(a:h<=xs.length):Dd xs (0:Int) (h:Int)=some (xs.take h):=by have:=Tv (xs:=xs) (l:=0) (ATw h) a;grind
theorem Nf{α:Type}{xs:List α}{l:Nat}(a:l<=xs.length):Dd xs (l:Int) (A4 xs)=some (xs.drop l):=by have:=Tv (xs:=xs) a (ASG _);rw[ASc]at this;exact this
def pos(xs:List Int)(t:Int):Int:=if t∈xs then((xs.findIdx (fun x=>decide (x=t)):Nat):Int)else -1
theorem AO4(xs:List Int)(t:Int):(xs.any fun x=>decide (x=t))=decide (t∈xs):=by grind
theorem AHQ{xs:List Int}{t:Int}(h:t∈xs):∃ k:Nat,pos xs t=(k:Int)/\k<xs.length/\xs[k]? = some t/\xs=xs.take k++t::xs.drop (k+1)/\t∉xs.take k:=by
 have a:xs.findIdx (fun x=>decide (x=t))<xs.length:=AT1.2 ⟨t,h,by simp⟩;have b:xs[xs.findIdx (fun x=>decide (x=t))]'a=t:=by grind
 refine⟨_,by rw[pos,ASL h],a,by grind,?_,?_⟩;·conv=>lhs;rw[<- AS8 (xs.findIdx (fun x=>decide (x=t))) xs,ASr a,b]
 intro c;obtain⟨j,d,e⟩:=AUx.1 c;grind
theorem yQ{xs:List Int}{t:Int}(h:t∉xs):pos xs t = -1:=by rw[pos,ASH h]
end Go.Pev.Pl
end
section
section
namespace Go.Pev.Pl
open Tok
def In(n v:Int):Prop:=1<=n/\n<=64/\0<=v/\v<n
instance (n v:Int):Decidable (In n v):=inferInstanceAs (Decidable (_/\_))
def Sz(n:Int):Prop:=1<=n/\n<=64
instance (n:Int):Decidable (Sz n):=inferInstanceAs (Decidable (_/\_))
theorem L7(n:Int):QG (n,())=some (decide (Sz n),()):=by rw[eM,Yj];simp only[BM];by_cases a:1<=n<;>by_cases b:n<=64<;>simp[Sz,a,b]
theorem Xr(n v:Int):tin (n,v,())=some (decide (In n v),()):=by rw[AF2,AF3];simp only[L7,BM,BC];by_cases a:1<=n<;>by_cases b:n<=64<;>by_cases c:0<=v<;>simp[In,Sz,a,b,c]
def ARp(n v:Int):Int:=if In n v then v else -1
def Pn(n u v:Int):Int:=if In n u/\In n v/\u≠v then n*(u+1)+v else -1
theorem MU{n u:Int}(d:1<=n)(b:n<=64)(a:0<=u)(c:u<=64):0<=n*u/\n*u<=4096:=by refine⟨Int.mul_nonneg (by omega) a,?_⟩;have:=Int.mul_le_mul b c a (by omega);omega
theorem AF7(n u v:Int):AF9 (n,u,v,())=some (Pn n u v,()):=by rw[yC,si];simp only[Xr,Pn,BB];by_cases a:u=v;simp[a];by_cases b:In n u;by_cases c:In n v;obtain⟨d,e,f,g⟩:=b;obtain⟨j,k,h,i⟩:=c;have l:=MU (u:=u+1) d e (by omega) (by omega);rw[BG (n:=u+1) (by omega),BG (n:=n*(u+1)) (by omega),BG (n:=n*(u+1)+v) (by omega)];simp[In,d,e,f,g,h,i,a];simp[b,c,a];simp[b,a]
def GN(n t:Int):Option Tok:=
 if In n t then some (.ver t)
 else if Sz n/\n<=t/\t<n*(n+1)/\t/n-1≠t % n then some (.arc (t/n-1) (t % n))
 else none
def sW:Option Tok->Int×Int×Bool×Bool×Unit
 |some (.ver v)=>(v,0,false,true,())
 |some (.arc u v)=>(u,v,true,true,())
 |none=>(0,0,false,false,())
def IC(n:Int):Tok->Int
 |.ver v=>v
 |.arc u v=>n*(u+1)+v
def okT(n:Int):Tok->Prop
 |.ver v=>In n v
 |.arc u v=>In n u/\In n v/\u≠v
theorem YG{n u v:Int}(c:In n u)(d:In n v):n<=n*(u+1)+v/\n*(u+1)+v<n*(n+1)/\(n*(u+1)+v)/n=u+1/\(n*(u+1)+v) % n=v:=by
 obtain⟨e,f,i,j⟩:=c;obtain⟨k,l,a,b⟩:=d;have m:n*(u+1)=n*u+n:=by rw[AUr,Int.mul_one]
 have o:n*(n+1)=n*n+n:=by rw[AUr,Int.mul_one]
 have p:=MU (u:=u) e f (by omega) (by omega);have g:n*(u+1)<=n*n:=Int.mul_le_mul_of_nonneg_left (by omega) (by omega);have hd:(n*(u+1)+v)/n=u+1:=by rw[Int.add_comm,Int.add_mul_ediv_left _ _ (by omega),Int.ediv_eq_zero_of_lt a b];omega
 have h:(n*(u+1)+v) % n=v:=by rw[Int.add_comm,Int.add_mul_emod_self_left,Int.emod_eq_of_lt a b]
 exact⟨by omega,by omega,hd,h⟩
theorem zi{n t:Int}(c:Sz n)(h:n<=t)(d:t<n*(n+1)):In n (t/n-1)/\In n (t % n)/\n*(t/n-1+1)+t % n=t:=by obtain⟨a,b⟩:=c;have i:1<=t/n:=(Int.le_ediv_iff_mul_le (by omega)).2 (by omega);have j:t/n<n+1:=(Int.ediv_lt_iff_lt_mul (by omega)).2 (by rw[Int.mul_comm];exact d);have e:=Int.emod_nonneg t (show n≠0 by omega);have f:=Int.emod_lt_of_pos t (show 0<n by omega);have g:=Int.mul_ediv_add_emod t n;refine⟨⟨a,b,by omega,by omega⟩,⟨a,b,e,f⟩,?_⟩;rw[Int.sub_add_cancel];exact g
theorem G1{n:Int}{t:Tok}(h:okT n t):GN n (IC n t)=some t:=by
 cases t with
  |ver v=>simp only[okT]at h;simp[GN,IC,h]
  |arc u v=>
   obtain⟨a,c,d⟩:=h;obtain⟨e,f,g,i⟩:=YG a c;have b:¬ In n (n*(u+1)+v):=fun h=>by have:=h.2.2.2;omega
   have:u+1-1=u:=by omega
   simp only[GN,IC,b,ASX,g,i,this];rw[ASL ⟨⟨a.1,a.2.1⟩,e,f,d⟩]
theorem AD0{n x:Int}{t:Tok}(h:GN n x=some t):okT n t/\IC n t=x:=by rw[GN]at h;split at h;cases h;exact⟨by assumption,rfl⟩;split at h;rename_i a;cases h;obtain⟨b,c,d⟩:=zi a.1 a.2.1 a.2.2.1;exact⟨⟨b,c,a.2.2.2⟩,d⟩;cases h
theorem J7{n u v:Int}(h:okT n (.arc u v)):Pn n u v=IC n (.arc u v):=by simp only[okT]at h;rw[Pn,ASL h];rfl
theorem S7{n:Int}{a b:Tok}(c:okT n a)(d:okT n b)(h:IC n a=IC n b):a=b:=by have:=G1 c;rw[h,G1 d]at this;exact(Option.some.inj this).symm
theorem sU(n t:Int)(m:-9223372036854775808<=t/\t<=9223372036854775807):iK (n,t,())=some (sW (GN n t)):=by
 rw[eL,Yi];simp only[L7];by_cases g:Sz n;obtain⟨c,d⟩:=g;have o:=MU (u:=n) c d (by omega) (by omega);have p:n*(n+1)=n*n+n:=by rw[AUr,Int.mul_one]
 rw[BG (n:=n+1) (by omega),BG (n:=n*(n+1)) (by omega)];simp only[Sz,c,d,and_self,ASU,ASE,BC,BM];by_cases i:t<0;have a:¬ In n t:=fun h=>by have:=h.2.2.1;omega
 have e:¬ n<=t:=by omega
 simp only[i,ASU,GN,a,ASX,e,AU3,and_false,sW];simp only[i,ASo];by_cases e:n*(n+1)<=t;have a:¬ In n t:=fun h=>by have:=h.2.2.2;omega
 have b:¬ t<n*(n+1):=by omega
 simp only[e,ASU,GN,a,ASX,b,AU3,and_false,sW];simp only[e,ASo];by_cases b:t<n;have hi:In n t:=⟨c,d,by omega,b⟩
 simp only[b,ASU,GN,hi,ASh,sW];have a:¬ In n t:=fun h=>b h.2.2.2;have k:t.tdiv n=t/n:=AUL (by omega);have l:t.tmod n=t % n:=Int.tmod_eq_emod_of_nonneg (by omega);obtain⟨j,q,r⟩:=zi (t:=t) ⟨c,d⟩ (by omega) (by omega);have s:=j.2.2.1;have v:=j.2.2.2;simp only[b,ASo,QY,jP,th,AG8];rw[ASH (by omega),ASH (by omega),k,l,YU (n:=t/n) (by omega)];simp only[];rw[BG (n:=t/n-1) (by omega),BB,GN,ASH a];by_cases f:t/n-1=t % n;rw[ASH (by intro h;exact h.2.2.2 f),AR9 f];rfl;rw[ASL ⟨⟨c,d⟩,by omega,by omega,f⟩,AR8 f];rfl;have a:¬ In n t:=fun h=>g ⟨h.1,h.2.1⟩;simp only[g,ASo,ASf,GN,a,ASX,AU3,sW]
def DI(n:Nat):List (List Int):=(List.range n).map fun(v:Nat)=>[(v:Int)]
theorem ig(n:Nat):DI (n+1)=DI n++[[(n:Int)]]:=by simp[DI,ASi]
theorem nW(n:Nat):(DI n).length=n:=by simp[DI]
theorem sX(N:Nat)(d:N<=64)(c:Int):∀ (k i n:Nat),i+k=N->k<n->BD NX n (c,(N:Int),DI i,(N:Int),(i:Int),())=some (.inl (c,(N:Int),DI N,())):=by
 intro k;induction k with
  |zero=>
   intro i n hi a;obtain⟨n,rfl⟩:∃ k,n=k+1:=⟨n-1,by omega⟩
   have:i=N:=by omega
   subst this;rw[BD,NX,A2,AR8 (by omega)]
  |succ k b=>
   intro i n hi a;obtain⟨n,rfl⟩:∃ k,n=k+1:=⟨n-1,by omega⟩
   rw[BD,NX,A2,AR9 (by omega)];simp only[A6,nW,ASK,ASV];rw[CC (by omega),A5 (by omega)];simp only[Ej,<- ig];exact b (i+1) n (by omega) (by omega)
def X8(n:Int):Int×List (List Int)×Int×Unit:=if Sz n then(n,DI n.toNat,0,())else(0,[],1,())
theorem AAk(n:Int):yA (n,())=some (X8 n):=by
 have c:4294967296<many:=by simp only[many];omega
 rw[nD,iS,X8];simp only[L7];by_cases h:Sz n;obtain⟨d,f⟩:=h;obtain⟨N,rfl⟩:=ASD (show 0<=n by omega);have a:Sz (N:Int):=⟨by omega,by omega⟩
 have e:=sX N (by omega) 0 N 0 many (by omega) (by omega);have b:BD NX many (0,(N:Int),[],(N:Int),(0:Int),())=_:=e;simp[a,BR,b];simp[h]
end Go.Pev.Pl
end
section
namespace Go.Pev.Pl
theorem Qx(xs:List Int)(t:Int)(a:xs.length<9223372036854775808):VF (xs,t,())=some (pos xs t,()):=by
 rw[fh,aW]
 have e:=Gg (step:=LY) (fun i=>(xs,t,A4 xs,(i:Int),())) xs (fun x=>decide (x=t)) (fun i=>.inl ((i:Int),())) (.inr (.inl ())) a
  (fun i x hi b=>by
   rw[LY,A6,A2,AR9 hi]
   simp only[A' b,BB]
   by_cases h:x=t
   ·simp[h]
   ·simp only[h,ATy h,ASo];rw[A5 (by omega)];simp)
  (by rw[LY,A6,A2,AR8 (by omega)])
 have c:A9 LY many (xs,t,A4 xs,(0:Int),())=_:=e;rw[c,AO4,pos];by_cases h:t∈xs<;>simp[h]
theorem Hk(xs:List Int)(t:Int)(a:xs.length<9223372036854775808):HS (xs,t,())=some (decide (t∈xs),()):=by rw[TE,OV];simp only[Qx xs t a,BM];by_cases h:t∈xs;obtain⟨k,e,_⟩:=AHQ h;rw[e];simp[h];rw[yQ h];simp[h]
def Rt(xs:List Int):Prop:=xs.length<=1000/\(∀ x∈xs,0<=x/\x<=10000)/\xs.Nodup
instance (xs:List Int):Decidable (Rt xs):=inferInstanceAs (Decidable (_/\_/\_))
theorem q8(xs:List Int)(c:xs.length<9223372036854775808):Hl (xs,())=some (xs.any (fun x=>decide (x<0)||decide (10000<x)),()):=by
 rw[Ln,IS,NC,Jl]
 have e:=Gg (step:=EY) (fun i=>(xs,A4 xs,(i:Int),())) xs (fun x=>decide (x<0)||decide (10000<x)) (fun i=>.inl ((i:Int),())) (.inr (.inl ())) c
  (fun i x hi d=>by
   rw[EY,A6,A2,AR9 hi]
   simp only[A' d,BC]
   rw[A5 (by omega)]
   by_cases h:x<0
   ·simp[h]
   ·by_cases a:10000<x
    ·simp[h,a]
    ·simp[h,a])
  (by rw[EY,A6,A2,AR8 (by omega)])
 have f:A9 EY many (xs,A4 xs,(0:Int),())=_:=e;rw[f];generalize (xs.any fun x=>decide (x<0)||decide (10000<x))=b;cases b<;>simp[BM]
theorem AIU(xs:List Int)(c:xs.length<9223372036854775808):once (xs,())=some (decide xs.Nodup,()):=by
 rw[yp,vK]
 have e:=DL (step:=SK) (fun i m=>(xs,m,xs,A4 xs,(i:Int),())) xs (fun x m=>.inl (BF m x (w64 (((A7 m x).getD (0:Int))+(1:Int))))) (fun m=>.inl (xs,m,())) (fun _ _=>True) c
  (fun i x m hi d _=>by
   refine⟨fun j a => ?_,fun r a=>by cases a⟩
   cases a
   rw[SK,A6,A2,AR9 hi]
   simp only[A' d]
   rw[A5 (by omega)]
   exact⟨rfl,trivial⟩)
  (fun m _=>by rw[SK,A6,A2,AR8 (by omega)]) [] trivial
 have f:A9 SK many (xs,([]:List (Int×Int)),xs,A4 xs,(0:Int),())=_:=e;rw[f,B2];have b:∀ (l:List Int) (m:List (Int×Int)),B5 (l.foldl (fun m x=>BF m x (w64 (((A7 m x).getD (0:Int))+(1:Int)))) m)=dd (B5 m) l:=by
  intro l;induction l with
   |nil=>intro m;rfl
   |cons x l g=>intro m;rw[AS2,g,Qr,dd]
 have h:=b xs [];generalize xs.foldl (fun m x=>BF m x (w64 (((A7 m x).getD (0:Int))+(1:Int)))) []=m at *;simp only[AI5];have:m.length=(dd [] xs).length:=by rw[<- U_,h];rfl
 rw[this];simp only[AKA]
theorem QU(xs:List Int):UA (xs,())=some (decide (Rt xs),()):=by
 rw[fC,ZV,A6,BC];by_cases e:xs.length<=1000;rw[AR8 (by omega)];simp only[q8 xs (by omega),AIU xs (by omega)];have a:(xs.any fun x=>decide (x<0)||decide (10000<x)) = !decide (∀ x∈xs,0<=x/\x<=10000):=by rw[ATH];simp only[ATZ,ATL,ASC,ATG,ASg];constructor;rintro⟨x,d,h⟩ f;have:=f x d;omega;intro h;refine ATI fun g=>h fun x d => ?_;refine ATI fun i=>g ⟨x,d,by omega⟩
 rw[a];by_cases b:∀ x∈xs,0<=x/\x<=10000;rw[AR9 b];by_cases c:xs.Nodup;rw[AR9 c,AR9 (show Rt xs from⟨e,b,c⟩)];rfl;rw[AR8 c,AR8 (show ¬ Rt xs from fun h=>c h.2.2)];rfl;rw[AR8 b,AR8 (show ¬ Rt xs from fun h=>b h.2.1)];rfl;rw[AR9 (by omega),AR8 (show ¬ Rt xs from fun h=>e h.1)]
def rot(xs:List Int)(k:Nat):List Int:=xs.drop k++xs.take k
theorem ADb(n:Nat)(e:n<4294967296):zO ((n:Int),())=some ([],()):=by
 have a:w64 ((n:Int)-w64 ((0:Int)-0))=(n:Int):=by rw[BG (n:=(0:Int)-0) (by omega),BG (by omega)];omega
 rw[qI,kS];simp only[a,BC];rw[AR8 (by omega)];simp only[];by_cases h:0<n;rw[AR9 (by omega)];have b:Dd ([]:List Unit) (0:Int) (0:Int)=some []:=by rw[O7];rfl
 have c:Dd (ED (A3 (n:Int)) (0:Int)) (0:Int) (0:Int)=some []:=by rw[O7,eT,ASL (by omega)];simp
 have d:Cq (n:Int)=true:=(I7 _).2 (by omega);simp only[b,c,d];rfl;rw[AR8 (by omega)]
theorem Eo{α:Type}{a:List (List α)}{i:Nat}{x:List α}(h:a[i]? = some x):(a.take (i+1)).flatten=(a.take i).flatten++x:=by rw[ATc,h];simp
theorem Fk{α:Type}(a:List (List α))(i:Nat):(a.take i).flatten.length<=a.flatten.length:=by
 conv=>rhs;rw[<- AS8 i a,AUs,ASN]
 omega
theorem XC(b:List (List Int))(t:b.length<4294967296)(h:b.flatten.length<4294967296):PY (b,())=some (b.flatten,()):=by
 rw[bt,Vv]
 have e:=DL (step:=J1) (fun i (a:Nat)=>(b,(a:Int),b,A4 b,(i:Int),())) b (fun x a=>.inl (a+x.length)) (fun a=>.inl (b,(a:Int),())) (fun i a=>a=(b.take i).flatten.length) (by omega)
  (fun i x a hi d m=>by
   refine⟨fun p c => ?_,fun r c=>by cases c⟩
   cases c
   have f:=Eo d
   have n:=Fk b (i+1)
   rw[f,ASN]at n
   rw[J1]
   simp only[A6]
   rw[A2,AR9 hi]
   simp only[A' d]
   rw[wrap_add (by omega),A5 (by omega),BC,AR8 (by omega)]
   exact⟨rfl,by rw[f,ASN,m]⟩)
  (fun a _=>by rw[J1,A6,A2,AR8 (by omega)]) 0 rfl
 have q:A9 J1 many (b,(0:Int),b,A4 b,(0:Int),())=_:=e;rw[q,B2];have j:∀ (l:List (List Int)) (a:Nat),l.foldl (fun a x=>a+x.length) a=a+l.flatten.length:=by
  intro l;induction l with
   |nil=>intro a;rfl
   |cons x l o=>intro a;rw[AS2,o,AUM,ASN];omega
 rw[j,ATE];simp only[ADb _ h]
 have g:=DL (step:=J0) (fun i (a:List Int)=>(a,b,A4 b,(i:Int),())) b (fun x a=>.inl (a++x)) (fun a=>.inl (a,())) (fun i a=>a=(b.take i).flatten) (by omega)
  (fun i x a hi d m=>by
   refine⟨fun p c => ?_,fun r c=>by cases c⟩
   cases c
   have f:=Eo d
   have n:=Fk b (i+1)
   rw[f,ASN]at n
   rw[J0]
   simp only[A6]
   rw[A2,AR9 hi]
   simp only[A' d]
   rw[A5 (by omega),CC (by rw[m];omega)]
   exact⟨rfl,by rw[f,m]⟩)
  (fun a _=>by rw[J0,A6,A2,AR8 (by omega)]) [] rfl
 have s:A9 J0 many ([],b,A4 b,(0:Int),())=_:=g;rw[s,B2];have k:∀ (l:List (List Int)) (a:List Int),l.foldl (fun a x=>a++x) a=a++l.flatten:=by
  intro l;induction l with
   |nil=>intro a;simp
   |cons x l o=>intro a;rw[AS2,o,AUM,ATo]
 rw[k];rfl
theorem Yf(xs:List Int)(k:Nat)(a:k<=xs.length)(b:xs.length<2147483648):Yh (xs,(k:Int),())=some (rot xs k,()):=by rw[eK,Yg];simp only[Nf a,Tw a];rw[XC _ (by simp) (by simp;omega)];simp[rot]
def DE(xs:List Int)(t:Int):List Int:=rot xs (xs.findIdx (fun x=>decide (x=t)))
def kY(xs:List Int)(t:Int):List Int×Bool×Unit:=if Rt xs/\t∈xs then(DE xs t,true,())else([],false,())
theorem ZY{xs:List Int}{t:Int}(h:t∈xs):∃ a b,xs=a++t::b/\t∉a/\DE xs t=t::b++a:=by
 obtain⟨k,e,c,d,f,g⟩:=AHQ h;rw[pos,ASL h]at e;have i:xs.findIdx (fun x=>decide (x=t))=k:=by omega
 refine⟨_,_,f,g,?_⟩;rw[DE,i,rot];congr 1;rw[ASr c];congr 1;simpa [c]using d
theorem ABV(xs:List Int)(t:Int):oA (xs,t,())=some (kY xs t):=by
 rw[n9,jH,fM,Zq,kY];simp only[QU];by_cases b:Rt xs;have n:=b.1;simp only[b,ASU,ASE,AU4];have e:A9 I5 many (xs,[],[t],A4 [t],(0:Int),())=some (.inl ([pos xs t],())):=by
  have g:=DL (step:=I5) (fun i (a:List Int)=>(xs,a,[t],A4 [t],(i:Int),())) [t] (fun x a=>.inl (a++[pos xs x])) (fun a=>.inl (a,())) (fun i a=>a.length=i) (by simp)
   (fun i x a hi d f=>by
    refine⟨fun o c => ?_,fun r c=>by cases c⟩
    cases c
    rw[I5,A6,A2,AR9 hi]
    simp only[A' d,Qx xs x (by omega)]
    simp only[ASK,ASV]at hi
    rw[A5 (by omega),CC (by simp only[A6,ASK,ASV];omega)]
    exact⟨rfl,by simp[f]⟩)
   (fun a _=>by rw[I5,A6,A2,AR8 (by omega)]) [] rfl
  have j:A9 I5 many (xs,[],[t],A4 [t],(0:Int),())=_:=g;rw[j];rfl
 rw[e];simp only[Hk [pos xs t] (-1) (by simp)];by_cases h:t∈xs;have p:xs.findIdx (fun x=>decide (x=t))<xs.length:=AT1.2 ⟨t,h,by simp⟩;rw[pos,ASL h,ASL h,DE];generalize xs.findIdx (fun x=>decide (x=t))=k at *;rw[AR8 (by simp)];have l:idx [(k:Int)] (0:Int)=some (k:Int):=by rw[H8];rfl
 have m:A_ [(k:Int)] 0 (0:Int)=(k:Int):=rfl;simp only[ASf,ASE,l,m,Yf xs k (by omega) (by omega)];rw[yQ h,ASH h];simp;simp[b]
def N4:List Int->Int
 |[]=>0
 |x::xs=>xs.foldl (fun a y=>C7 a y) x
theorem wJ:∀ (xs:List Int) (a:Int),(xs.foldl (fun a y=>C7 a y) a)<=a/\(∀ x∈xs,xs.foldl (fun a y=>C7 a y) a<=x)/\(xs.foldl (fun a y=>C7 a y) a=a\/xs.foldl (fun a y=>C7 a y) a∈xs):=by
 intro xs;induction xs with
  |nil=>intro a;simp
  |cons x xs c=>
   intro a;rw[AS2];obtain⟨i,d,f⟩:=c (C7 a x);have g:C7 a x<=a/\C7 a x<=x/\(C7 a x=a\/C7 a x=x):=by rw[C7];split<;>omega
   refine⟨by omega,fun y b => ?_,?_⟩;rcases ASW.1 b with rfl|b;omega;exact d y b;rcases f with h|h;rcases g.2.2 with e|e;exact .inl (by rw[h,e]);exact .inr (by rw[h,e];simp);exact .inr (ATO _ h)
theorem HE{xs:List Int}(h:xs≠[]):N4 xs∈xs/\∀ x∈xs,N4 xs<=x:=by
 cases xs with
  |nil=>exact absurd rfl h
  |cons x xs=>obtain⟨b,c,d⟩:=wJ xs x;refine⟨?_,fun y a => ?_⟩;rcases d with h|h;rw[N4,h];simp;exact ATO _ h;rcases ASW.1 a with rfl|a;exact b;exact c y a
theorem ANQ{xs:List Int}{m:Int}(a:m∈xs)(b:∀ x∈xs,m<=x):N4 xs=m:=by obtain⟨c,d⟩:=HE (List.ne_nil_of_mem a);have:=d m a;have:=b _ c;omega
theorem pg(xs:List Int)(h:xs≠[])(c:xs.length<9223372036854775808):AIb (xs,())=some (N4 xs,()):=by
 cases xs with
  |nil=>exact absurd rfl h
  |cons x xs=>
   rw[yy,vQ,A6,BC,AR8 (by simp only[ASK];omega)];have d:idx (x::xs) (0:Int)=some x:=by rw[H8];rfl
   simp only[d];simp only[ASK]at c
   have e:=DL (step:=SN) (fun i (a:Int)=>(x::xs,a,((i+1:Nat):Int),())) xs (fun y a=>.inl (C7 a y)) (fun a=>.inl (a,())) (fun _ _=>True) (by omega)
    (fun i y a hi f _=>by
     refine⟨fun j b => ?_,fun r b=>by cases b⟩
     cases b
     rw[SN,A6,A2,AR9 (by simp only[ASK];omega)]
     simp only[A' (xs:=x::xs) (n:=i+1) (by simpa using f)]
     rw[A5 (by omega)]
     exact⟨rfl,trivial⟩)
    (fun a _=>by rw[SN,A6,A2,AR8 (by simp)]) x trivial
   have g:A9 SN many (x::xs,x,(1:Int),())=_:=e;rw[g,B2];rfl
def plain(xs:List Int):List Int:=if Rt xs/\xs≠[]then DE xs (N4 xs)else []
theorem tY(xs:List Int):jF (xs,())=some (plain xs,()):=by
 rw[fD,ZW,plain];simp only[QU];by_cases a:Rt xs;have d:=a.1;simp only[a,ASU,ASE,AU4];by_cases h:xs=[]
 subst h;simp[A6,Cd];have e:0<xs.length:=List.length_pos_iff.2 h;rw[A6,BB,AR8 (by omega)];have b:=(HE h).1;have c:xs.findIdx (fun x=>decide (x=N4 xs))<xs.length:=AT1.2 ⟨_,b,by simp⟩;simp only[pg xs h (by omega),Qx xs _ (show xs.length<9223372036854775808 by omega)];rw[pos,ASL b,ASL (by simpa using h),DE];simp only[Yf xs _ (AT9 c) (by omega)];simp[a]
theorem Zn{xs:List Int}(c:Rt xs)(h:xs≠[]):∃ a b,xs=a++N4 xs::b/\plain xs=N4 xs::b++a:=by obtain⟨a,b,d,_,e⟩:=ZY (HE h).1;exact⟨a,b,d,by rw[plain,ASL ⟨c,h⟩,e]⟩
end Go.Pev.Pl
end
section
namespace Go.Pev.Pl
open Tok
def TI(n:Int)(xs:List Int):Prop:=∃ L,xs=L.map (IC n)/\(∀ t∈L,okT n t)/\T L
noncomputable instance (n:Int) (xs:List Int):Decidable (TI n xs):=Classical.propDecidable _
abbrev xk:=List Int×List (Int×Int)×List (Int×Int)
abbrev APd:=(Bool×Unit)⊕(List Int×List (Int×Int)×List (Int×Int)×Unit)⊕Unit
def goF(n x:Int)(s:xk):xk⊕APd:=
 match GN n x with
 |none=>.inr (.inl (false,()))
 |some t=>match Tok.step (s.1,B5 s.2.1) t with
  |none=>.inr (.inl (false,()))
  |some a=>match t with
   |.ver v=>.inl (a.1,s.2.1,BF s.2.2 v (w64 (((A7 s.2.2 v).getD (0:Int))+(1:Int))))
   |.arc _ v=>.inl (a.1,if v∈B5 s.2.1 then s.2.1 else BF s.2.1 v 1,s.2.2)
def one(a:List (Int×Int)):Prop:=∀ k,(0<(A7 a k).getD (0:Int))↔k∈B5 a
theorem ACW{a:List (Int×Int)}(h:one a)(v:Int):one (BF a v 1):=by intro k;rw[FG,GW];by_cases e:k=v;simp[e];simp only[e,ASX,false_or];exact h k
theorem ADj(n:Int)(xs:List Int)(i:Nat)(x:Int)(E:xs[i]? = some x)(hi:i<xs.length)(L:xs.length<4294967296)(j:-9223372036854775808<=x/\x<=9223372036854775807)
  (w:Int) (r:List Int) (b met:List (Int×Int)) (F:r.length<4294967295) (o:one b) (f:∀ y∈w::r,y∈B5 b) :
  PN (n,(w::r).reverse,b,met,xs,A4 xs,(i:Int),())=match goF n x (w::r,b,met)with
   |.inl s=>some (.inl (n,s.1.reverse,s.2.1,s.2.2,xs,A4 xs,((i+1:Nat):Int),()))
   |.inr y=>some (.inr y):=by
 have hd:A4 ((w::r).reverse)=((r.length+1:Nat):Int):=by simp[A6]
 have q:w64 (((r.length+1:Nat):Int)-1)=(r.length:Int):=by rw[B1 (by omega)];rfl
 have A:idx ((w::r).reverse) (r.length:Int)=some w:=by rw[kH];simp
 have B:A_ ((w::r).reverse) (A3 (r.length:Int)) (0:Int)=w:=by rw[Gk];simp
 have C:∀ v:Int,fits (A4 ((w::r).reverse)+A4 [v])=true:=fun v=>CC (by rw[hd,A6];simp only[ASK,ASV];omega);have D:∀ v:Int,B6 ((w::r).reverse) [v]=(v::w::r).reverse:=fun v=>by simp[Ej]
 rw[PN,A6,A2,AR9 hi];rw[A6]at hd;simp only[A' E,sU n x j,goF];cases M:GN n x with
  |none=>rfl
  |some t=>
   cases t with
    |ver v=>simp only[sW,ASE,ASf,A6,hd,q,A,B,BB,Tok.step];rw[A5 (by omega)];by_cases h:w=v;simp[h];simp[h]
    |arc u v=>
     simp only[sW,ASE,A6,hd,q,A,B,BB,Tok.step];rw[A5 (by omega)];by_cases h:w=u;subst h;rw[AR9 rfl];simp only[ASE];cases r with
      |nil=>
       have z:ilt (0:Int) ((([]:List Int).length:Nat):Int)=false:=by rw[BC];rfl
       simp only[z];rw[BC];have c:=o v;by_cases d:v∈B5 b;rw[AR9 (c.2 d)];simp[d];rw[AR8 (fun h=>d (c.1 h))];have e:=C v;rw[A6,hd]at e;have k:(A7 b v).getD (0:Int)=0:=by rw[(Wr b v).2 d];rfl
       have l:w64 ((0:Int)+1)=1:=by rw[BG (by omega)];rfl
       rw[A6]at e;simp only[e,D v,k,l,d,ASX,ASh]
      |cons p r=>
       have z:ilt (0:Int) (((p::r).length:Nat):Int)=true:=by rw[BC,AR9 (by simp only[ASK];omega)]
       have G:w64 ((((p::r).length:Nat):Int)-1)=(r.length:Int):=by rw[B1 (by simp only[ASK]at F |-;omega)];rfl
       have H:idx ((w::p::r).reverse) (r.length:Int)=some p:=by rw[kH];simp
       have I:A_ ((w::p::r).reverse) (A3 (r.length:Int)) (0:Int)=p:=by rw[Gk];simp
       simp only[z,G,H,I];by_cases m:p=v;subst m;rw[AR9 rfl];have g:p∈B5 b:=f p (by simp);have J:Dd ((w::p::r).reverse) (0:Int) (((p::r).length:Nat):Int)=some ((p::r).reverse):=by rw[Tw (by simp)];rw[List.reverse_cons,List.take_left' (by simp)]
       have K:DA (A3 (((p::r).reverse.length:Nat):Int)) ((w::p::r).reverse)=(p::r).reverse:=by rw[DA,OU,List.reverse_cons (a:=w),List.take_left' rfl]
       simp only[J,K,g,ASh];rw[AR8 m];simp only[m,ASX];rw[BC];have c:=o v;by_cases d:v∈B5 b;rw[AR9 (c.2 d)];simp[d];rw[AR8 (fun h=>d (c.1 h))];have e:=C v;rw[A6,hd]at e;have k:(A7 b v).getD (0:Int)=0:=by rw[(Wr b v).2 d];rfl
       have l:w64 ((0:Int)+1)=1:=by rw[BG (by omega)];rfl
       rw[A6]at e;simp only[e,D v,k,l,d,ASX,ASh]
     rw[AR8 h];simp[h]
end Go.Pev.Pl
end
section
namespace Go.Pev.Pl
open Tok
theorem Hg{a b:List Int}(c:a.Nodup)(h:∀ x∈a,x∈b):a.length<=b.length:=by
 induction a generalizing b with
  |nil=>simp
  |cons x a e=>
   obtain⟨f,g,rfl⟩:=AUd (h x (by simp));rw[ATD]at c;have:=e (b:=f++g) c.2 fun y d=>by have:=h y (ATO _ d);simp only[ASF,ASW]at this |-;rcases this with h|rfl|h;exact .inl h;exact absurd d c.1;exact .inr h
   simp only[ASN,ASK]at this |-;omega
theorem jo{a b:List Int}(d:a.Nodup)(h:∀ x∈a,x∈b)(g:b.length<=a.length):∀ x∈b,x∈a:=by
 intro x e;refine ATI fun f => ?_;have:=Hg (a:=x::a) (b:=b) (ATD.2 ⟨f,d⟩) fun y c=>by rcases ASW.1 c with rfl|c;exact e;exact h y c
 simp only[ASK]at this;omega
theorem Y1{a c c2:List Int}(h:∀ x,x∈c↔x∈c2)(t:Tok):
  (Tok.step (a,c) t=none↔Tok.step (a,c2) t=none)/\∀ g i,Tok.step (a,c) t=some (g,i)->∃ j,Tok.step (a,c2) t=some (g,j)/\∀ x,x∈i↔x∈j:=by
 cases t with
  |ver v=>
   cases a with
    |nil=>simp[Tok.step]
    |cons w r=>by_cases e:w=v;simp only[Tok.step,e,ASh];exact⟨by simp,fun g i d=>by cases d;exact⟨c2,rfl,h⟩⟩;simp[Tok.step,e]
  |arc u v=>
   cases a with
    |nil=>simp[Tok.step]
    |cons w r=>
     by_cases e:w=u;cases r with
      |nil=>by_cases b:v∈c;simp[Tok.step,e,b,(h v).1 b];have f:v∉c2:=fun q=>b ((h v).2 q);simp only[Tok.step,e,ASh,b,f,ASX];exact⟨by simp,fun g i d=>by cases d;exact⟨v::c2,rfl,fun x=>by simp[h]⟩⟩
      |cons p r=>by_cases k:p=v;simp only[Tok.step,e,ASh,k];exact⟨by simp,fun g i d=>by cases d;exact⟨c2,rfl,h⟩⟩;by_cases b:v∈c;simp[Tok.step,e,k,b,(h v).1 b];have f:v∉c2:=fun q=>b ((h v).2 q);simp only[Tok.step,e,ASh,k,b,f,ASX];exact⟨by simp,fun g i d=>by cases d;exact⟨v::c2,rfl,fun x=>by simp[h]⟩⟩
     simp[Tok.step,e]
structure GI(s:xk):Prop where
 ne:s.1≠[]
 one:one s.2.1
 sub:∀ y∈s.1,y∈B5 s.2.1
 nc:(B5 s.2.1).Nodup
 nm:(B5 s.2.2).Nodup
theorem zR{n x:Int}{s b:xk}(hi:GI s)(h:goF n x s = .inl b):
  GI b/\b.1.length<=s.1.length+1/\∃ t f,GN n x=some t/\Tok.step (s.1,B5 s.2.1) t=some (b.1,f)/\(∀ x,x∈f↔x∈B5 b.2.1)/\(∀ y,y∈B5 b.2.2↔y∈B5 s.2.2\/Tok.ver y=t):=by
 rw[goF]at h;cases g:GN n x with
  |none=>rw[g]at h;cases h
  |some t=>
   rw[g]at h;simp only at h;cases c:Tok.step (s.1,B5 s.2.1) t with
    |none=>rw[c]at h;cases h
    |some q=>
     obtain⟨k,f⟩:=q;rw[c]at h;rcases G2 c with⟨v,r,rfl,a,e⟩|⟨u,v,r,rfl,a,e⟩|⟨u,v,r,rfl,a,l,i,e⟩
     cases h;cases e;refine⟨⟨hi.ne,hi.one,hi.sub,hi.nc,LN hi.nm _ _⟩,by simp,_,_,rfl,c,fun x=>Iff.rfl,fun y => ?_⟩;rw[GW];simp[or_comm];cases h;cases e;simp only at a;have j:v∈B5 s.2.1:=hi.sub v (by rw[a];simp);simp only[j,ASh];refine⟨⟨by simp,hi.one,fun y d=>hi.sub y (by rw[a];exact ATO _ d),hi.nc,hi.nm⟩,by rw[a];simp,_,_,rfl,c,fun x=>Iff.rfl,fun y=>by simp⟩;cases h;cases e;simp only at a i;simp only[i,ASX];refine⟨⟨by simp,ACW hi.one v,fun y d => ?_,LN hi.nc _ _,hi.nm⟩,by rw[a];simp,_,_,rfl,c,fun x => ?_,fun y=>by simp⟩;rw[GW];rcases ASW.1 d with rfl|d;exact .inl rfl;exact .inr (hi.sub y (by rw[a];exact d));rw[GW,ASW]
def qL(s:xk):APd:=.inr (.inl (s.1.reverse,s.2.1,s.2.2,()))
theorem ADh(n:Int):∀ (xs:List Int) (s:xk) (c:List Int),GI s->(∀ x,x∈c↔x∈B5 s.2.1) ->
  (∃ L g c',xs=L.map (IC n)/\(∀ t∈L,okT n t)/\run (s.1,c) L=some (g.1,c')/\walk (goF n) qL xs s=qL g/\GI g/\(∀ x,x∈c'↔x∈B5 g.2.1)/\(∀ x,x∈B5 g.2.2↔x∈B5 s.2.2\/Tok.ver x∈L)) \/
  (walk (goF n) qL xs s = .inl (false,())/\∀ L,xs=L.map (IC n)->(∀ t∈L,okT n t)->run (s.1,c) L=none):=by
 intro xs;induction xs with
  |nil=>intro s c hi l;exact .inl ⟨[],s,c,rfl,by simp,rfl,rfl,hi,l,by simp⟩
  |cons x xs A=>
   intro s c hi l;rw[walk];have m:∀ {t},GN n x=some t->Tok.step (s.1,B5 s.2.1) t=none->∀ L,x::xs=L.map (IC n)->(∀ t∈L,okT n t)->run (s.1,c) L=none:=by
    intro t e h L b a;cases L with
     |nil=>cases b
     |cons t' L=>simp only[ASQ,ASn]at b;have f:=G1 (a t' (by simp));rw[<- b.1,e]at f;cases f;rw[CX,((Y1 l t).1).2 h];rfl
   cases d:goF n x s with
    |inr r=>
     simp only;have z:r = .inl (false,())/\∀ L,x::xs=L.map (IC n)->(∀ t∈L,okT n t)->run (s.1,c) L=none:=by
      rw[goF]at d;cases e:GN n x with
       |none=>
        rw[e]at d;cases d;refine⟨rfl,fun L b a => ?_⟩;cases L with
         |nil=>cases b
         |cons t' L=>simp only[ASQ,ASn]at b;have f:=G1 (a t' (by simp));rw[<- b.1,e]at f;cases f
       |some t=>
        rw[e]at d;simp only at d;cases h:Tok.step (s.1,B5 s.2.1) t with
         |none=>rw[h]at d;cases d;exact⟨rfl,m e h⟩
         |some q=>rw[h]at d;cases t<;>cases d
     rw[z.1];exact .inr ⟨rfl,z.2⟩
    |inl g=>
     simp only;obtain⟨o,_,t,K,e,h,p,B⟩:=zR hi d;obtain⟨u,i,j⟩:=(Y1 (c:=B5 s.2.1) (c2:=c) (fun x=>(l x).symm) t).2 _ _ h;obtain⟨C,D⟩:=AD0 e;rcases A g u o (fun x=>(j x).symm.trans (p x))with⟨L,E,c2,v,w,F,G,H,I,J⟩|⟨v,w⟩
     refine .inl ⟨t::L,E,c2,by simp[D,v],?_,by rw[CX,i];exact F,G,H,I,fun y => ?_⟩;intro y k;rcases ASW.1 k with rfl|k;exact C;exact w y k;rw[J,B,ASW,or_assoc];refine .inr ⟨v,fun L b a => ?_⟩;cases L with
      |nil=>cases b
      |cons t' L=>simp only[ASQ,ASn]at b;have f:=G1 (a t' (by simp));rw[<- b.1,e]at f;cases f;rw[CX,i];exact w L b.2 fun y k=>a y (ATO _ k)
theorem tU:∀ {l:List Tok} {s a:List Int×List Int},run s l=some a->a.1.getLast? = s.1.getLast? := by
 intro l;induction l with
  |nil=>intro s a h;cases h;rfl
  |cons t l c=>
   intro s a h;rw[CX,ATj]at h;obtain⟨f,d,e⟩:=h;rw[c e];rcases G2 d with⟨v,r,rfl,b,rfl⟩|⟨u,v,r,rfl,b,rfl⟩|⟨u,v,r,rfl,b,g,i,rfl⟩
   rfl;rw[b,List.getLast?_cons_cons];rw[b,List.getLast?_cons_cons]
theorem AGs:∀ {l:List Tok} {s b:List Int×List Int},run s l=some b->Tok.Inv s->∀ x,Tok.ver x∈l->x∈b.2:=by
 intro l;induction l with
  |nil=>intro s b _ _ x a;cases a
  |cons t l f=>intro s b h hi x a;rw[CX,ATj]at h;obtain⟨i,g,d⟩:=h;obtain⟨c,j,e⟩:=Y0 g hi;rcases ASW.1 a with rfl|a;have:=(jD d c).2.1;refine this x (c.2 x ?_);simp only[st]at e;exact List.mem_of_head? e;exact f d c x a
theorem AC6{n:Int}{L:List Tok}(h:(L.map (IC n)).Nodup):L.Nodup:=by rw[List.Nodup,ATd]at h;exact h.imp fun h e=>h (by rw[e])
theorem z4{n x:Int}{xs:List Int}(h:TI n (x::xs))(g:N4 (x::xs)=x):In n x:=by
 obtain⟨L,a,d,i⟩:=h;obtain⟨v,r,j⟩:=i.rC;have f:Tok.ver v∈L:=(j.mem _).2 (by simp);have b:v∈x::xs:=by rw[a];exact ASS.2 ⟨_,f,rfl⟩
 have k:=(HE (xs:=x::xs) (by simp)).2 v b;rw[g]at k;have l:=(d _ f).2.2.2;cases L with
  |nil=>cases a
  |cons t L=>
   simp only[ASQ,ASn]at a;have c:=d t (by simp);cases t with
    |ver w=>rw[a.1];exact c
    |arc p q=>have:=(YG c.1 c.2.1).1;have e:x=n*(p+1)+q:=a.1;omega
theorem AJU(n:Int)(xs:List Int)(h0:xs≠[])(hs:xs.length<2147483648)(hr:∀ x∈xs, -9223372036854775808<=x/\x<=9223372036854775807)(hn:xs.Nodup)(hm:∀ x,xs.head? = some x->N4 xs=x):
  goes (n,xs,())=some (decide (TI n xs),()):=by
 cases xs with
  |nil=>exact absurd rfl h0
  |cons d l=>
   rw[zQ,v8];have i0:idx (d::l) (0:Int)=some d:=by rw[H8];rfl
   simp only[i0,Xr];by_cases m:In n d;rw[AR9 m];simp only[ASE];have hS:GI ([d],BF [] d 1,[]):=by
    refine⟨by simp,fun k => ?_,fun y hy => ?_,?_,by simp[B5]⟩;have:A7 (BF ([]:List (Int×Int)) d 1) k=if k=d then some 1 else none:=by rw[FG];rfl
    rw[this];by_cases e:k=d<;>simp[e,BF,B5];simp at hy;subst hy;simp[BF,B5];simp[BF,B5]
   have e:=DL (step:=PN) (fun i (s:xk)=>(n,s.1.reverse,s.2.1,s.2.2,d::l,A4 (d::l),(i:Int),())) (d::l) (goF n) qL (fun i s=>GI s/\s.1.length<=i+1) (by omega)
    (fun i x s hi p ⟨M,u⟩=>by
     obtain⟨S,E,T⟩:=s
     cases S with
     |nil=>exact absurd rfl M.ne
     |cons w r=>
      have q:=ADj n (d::l) i x p hi (by omega) (hr x (ASJ p)) w r E T (by simp only[ASK]at u hi hs;omega) M.one M.sub
      refine⟨fun f N => ?_,fun y N => ?_⟩
      ·rw[N]at q
       obtain⟨g1,g2,_⟩:=zR M N
       refine⟨q,g1,?_⟩
       simp only at g2 u
       omega
      ·rw[N]at q
       exact q)
    (fun s _=>by rw[PN,A6,A2,AR8 (by omega)];rfl) ([d],BF [] d 1,[]) ⟨hS,by simp⟩
   have e':A9 PN many (n,[d],BF [] d 1,[],d::l,A4 (d::l),(0:Int),())=_:=e;rw[e'];have U:B5 (BF ([]:List (Int×Int)) d 1)=[d]:=rfl;rcases ADh n (d::l) ([d],BF [] d 1,[]) [d] hS (fun x=>by rw[U])with⟨L,f,c',v,F,G,a4,V,O,P⟩|⟨v,F⟩
   rw[a4];obtain⟨t,j,rfl⟩:∃ t j,L=t::j:=by cases L with
    |nil=>cases v
    |cons t j=>exact⟨t,j,rfl⟩
   have H:t = .ver d:=by have C:=G1 (F t (by simp));simp only[ASQ,ASn]at v;rw[<- v.1,GN,ASL m]at C;exact(Option.some.inj C).symm
   subst H;have W:(Tok.ver d::j).Nodup:=AC6 (n:=n) (by rw[<- v];exact hn);have o:=tU G;have I:=AGs G (YQ d);have hk:(B5 f.2.2).length<=(B5 f.2.1).length:=Hg V.nm fun x p=>by have:=(P x).1 p;simp only[B5,ATk,AVF,false_or]at this;exact(O x).1 (I x this)
   have g:(f.1.length=1/\(B5 f.2.2).length=(B5 f.2.1).length)↔TI n (d::l):=by
    constructor;rintro⟨Q,X⟩;obtain⟨w,hw⟩:=List.length_eq_one_iff.1 Q;rw[hw]at o G;simp at o;subst o;refine⟨_,v,F,Tok.BP.toT ⟨w,j,c',rfl,G,fun x p => ?_⟩ W⟩;have C:=jo V.nm (fun x p=>by have:=(P x).1 p;simp only[B5,ATk,AVF,false_or]at this;exact(O x).1 (I x this)) (by omega) x ((O x).1 p)
    have:=(P x).1 C;simpa [B5]using this;rintro⟨K,z,R,Y⟩;have Z:K=Tok.ver d::j:=by
     have:∀ (A B:List Tok),A.map (IC n)=B.map (IC n)->(∀ t∈A,okT n t)->(∀ t∈B,okT n t)->A=B:=by
      intro A;induction A with
       |nil=>intro B h _ _;cases B with
        |nil=>rfl
        |cons b B=>cases h
       |cons a A ih=>
        intro B h hA hB;cases B with
         |nil=>cases h
         |cons b B=>simp only[ASQ,ASn]at h;rw[S7 (hA a (by simp)) (hB b (by simp)) h.1,ih B h.2 (fun t H=>hA t (by simp[H])) fun t H=>hB t (by simp[H])]
     exact this _ _ (by rw[<- z,v]) R F
    subst Z;obtain⟨r,l',c,q1,D,q3⟩:=Y.iQ;cases q1;rw[G]at D;cases J:f.1 with
     |nil=>rw[J]at D;cases D
     |cons w r'=>rw[J]at D;cases D;refine⟨rfl,?_⟩;have:=Hg V.nc (b:=B5 f.2.2) fun x p=>(P x).2 (.inr (q3 x ((O x).2 p)));omega
   simp only[qL,BB,A6,List.length_reverse];rw[U_,U_]at g;by_cases Q:f.1.length=1;rw[AR9 (show(f.1.length:Int)=1 by omega)];simp only[Q,AU4]at g;by_cases X:f.2.2.length=f.2.1.length;rw[AR9 (show(f.2.2.length:Int)=(f.2.1.length:Int) by omega),AR9 (g.1 X)];rw[AR8 (show ¬ (f.2.2.length:Int)=(f.2.1.length:Int) by omega),AR8 (fun h=>X (g.2 h))];rw[AR8 (show ¬ (f.1.length:Int)=1 by omega),AR8 (fun h=>Q (g.2 h).1)];rw[v];have:¬ TI n (d::l):=by
    rintro⟨K,z,R,Y⟩;obtain⟨r,l',c,q1,D,q3⟩:Tok.BP K:=by
     obtain⟨t,j,rfl⟩:∃ t j,K=t::j:=by cases K with
      |nil=>cases z
      |cons t j=>exact⟨t,j,rfl⟩
     have C:=G1 (R t (by simp));simp only[ASQ,ASn]at z;rw[<- z.1,GN,ASL m]at C;cases C;exact Y.iQ
    have hr0:r=d:=by subst q1;simp only[ASQ,ASn]at z;exact z.1.symm
    subst hr0;have:=F K z R;simp only at this;rw[D]at this;cases this
   simp[this];rw[AR8 m];have:¬ TI n (d::l):=fun h=>m (z4 h (hm d rfl));simp[this]
end Go.Pev.Pl
end
end
section
namespace Go.Pev.Pl.Tok
theorem T.join{u v:Int}{a b:List Tok}(e:T (.ver u::a))(f:T (.ver v::b))(hd:∀ x,Tok.ver x∈Tok.ver u::a->Tok.ver x∉Tok.ver v::b):
  T (.ver u :: .arc u v::(.ver v::b ++ .arc v u::a)):=by
 obtain⟨_,g,c⟩:=e.facts;obtain⟨_,i,d⟩:=f.facts;have o:=e.nodup;have H:=f.nodup;obtain⟨_,_,I,q,l,J⟩:=e.iQ;cases q;obtain⟨_,_,c2,r,s,z⟩:=f.iQ;cases r;have A:u≠v:=by grind
 have j:∀ t,t∈Tok.ver u::a->t∉Tok.ver v::b:=fun t B C=>hd _ (g t B) (i t C);have K:Tok.arc u v∉Tok.ver u::a:=fun h=>hd v (c _ _ h).2.1 (by simp);have L:Tok.arc u v∉Tok.ver v::b:=fun h=>hd u (by simp) (d _ _ h).1;have M:Tok.arc v u∉Tok.ver u::a:=fun h=>hd v (c _ _ h).1 (by simp);have N:Tok.arc v u∉Tok.ver v::b:=fun h=>hd u (by simp) (d _ _ h).2.1;have k:(Tok.ver u :: .arc u v::(.ver v::b ++ .arc v u::a)).Nodup:=by rw[ATD]at o;have O:Tok.ver u∉Tok.ver v::b:=j _ (by simp);rw[ATD,ATD,AU7,ATD (a:=Tok.arc v u)];grind
 rw[CX,Hw,ATC]at l;obtain⟨D,m,E⟩:=I3 (Z:=(· = u)) (c2:=[v,u]) (low:=[u]) s (by simp) (fun y=>by simp) (fun p w n=>by grind) (by simp)
 obtain⟨F,P,Q⟩:=I3 (Z:=(·∈c2)) (c2:=D) (low:=[]) l (by simp) (fun y=>by rw[E];simp[or_comm]) (fun p w n G=>hd w (c _ _ (ATO _ n)).2.1 (z w G)) (by simp)
 refine BP.toT ⟨u,_,F,rfl,?_,fun x R => ?_⟩ k;rw[CX,Hw,ATC,CX,I2 _ _ _ _ (by simp) (by grind),ATC,JQ];rw[show([v]++[u]:List Int)=[v,u]from rfl]at m;rw[m,ATC,CX,LA,ATC];grind;grind
end Go.Pev.Pl.Tok
end
section
namespace Go.Pev
open Go.RowKit Go.ChangeShapes Go.WideShapes Go.ChangeAt
def QX(P:Program)(rd:TypeId->Option Ty):List Field->Nat->Option Ty
 |[],_=>some .unit
 |f::r,off=>match rd f.type,QX P rd r (off+P.cellsOf f.type)with
  |some a,some b=>match Nat.beq f.offset off&&Nat.beq (P.cellsOf f.type) a.size with
   |true=>some (.prod a b)
   |false=>none
  |_,_=>none
def G9(P:Program):Nat->TypeId->Option Ty
 |0,_=>none
 |n+1,t=>match P.underlying t with
  |some .bool=>some .bool
  |some (.int k)=>some (.int k)
  |some (.slice e)=>match G9 P n e with
   |some a=>match Nat.beq (P.cellsOf e) a.size && !(Nat.beq a.size 0)with
    |true=>some (.slice a)
    |false=>none
   |none=>none
  |some (.array c e)=>match G9 P n e with
   |some a=>match Nat.beq (P.cellsOf e) a.size&&Nat.beq (P.cellsOf t) (c*a.size)with
    |true=>some (.arr c a)
    |false=>none
   |none=>none
  |some (.struct fs)=>match QX P (G9 P n) fs.toList 0 with
   |some a=>match Nat.beq (P.cellsOf t) a.size with
    |true=>some a
    |false=>none
   |none=>none
  |_=>none
def wfD:(t:Ty)->t.den->Prop
 |.unit,_=>True
 |.bool,_=>True
 |.int k,n=>k.min<=n/\n<=k.max
 |.slice e,xs=>List.length (α:=e.den) xs<=maxLen/\∀ x∈(xs:List e.den),wfD e x
 |.prod a b,d=>wfD a d.1/\wfD b d.2
 |.arr n e,xs=>List.length (α:=e.den) xs=n/\∀ x∈(xs:List e.den),wfD e x
 |.nul _,_=>True
 |.mapi _ _,_=>True
section
variable {H:Type} {enc:TypeId×Value->H} {P:Program} {w:World} {spare:Nat->Bool} {held:Bool}
abbrev below(w:World):Nat->Prop:=fun b=>b<w.heap.size
theorem APe{k:IntKind}{n:Int}(h:(Lit.int k n).wf=true):k.min<=n/\n<=k.max:=by simpa [Lit.wf]using h
theorem yM{α:Type}{R:α->List Value->Prop}{k:Nat}:∀ (m:Nat) (f:Nat->List Value),(∀ i,i<m->(f i).length=k/\∃ x,R x (f i))->∃ xs:List α,xs.length=m/\rows R xs ((List.range m).flatMap f)/\∀ x∈xs,∃ i,i<m/\R x (f i):=by
 intro m;induction m with
  |zero=>intro f _;exact⟨[],rfl,rfl,fun x a=>by cases a⟩
  |succ m b=>intro f h;obtain⟨xs,c,d,e⟩:=b f fun i hi=>h i (by omega);obtain⟨_,x,a⟩:=h m (by omega);refine⟨xs++[x],by simp[c],?_,fun y g => ?_⟩;rw[ASi,ATS];exact JS d (by simp;exact⟨f m,[],by simp,a,rfl⟩);grind
theorem AJn{f:Nat->List Value}{k:Nat}:∀ (m:Nat),(∀ i,i<m->(f i).length=k)->∀ (j:Nat) (u:Value),((List.range m).flatMap f)[j]? = some u->∃ i r,i<m/\r<k/\j=i*k+r/\(f i)[r]? = some u:=by
 intro m;induction m with
  |zero=>simp
  |succ m d=>
   intro e j u h;rw[ASi,ATS]at h;have b:∀ a,a<=m->((List.range a).flatMap f).length=a*k:=by
    intro a g;induction a with
     |zero=>simp
     |succ a c=>rw[ASi,ATS,ASN,c (by omega)];grind
   rcases AUH j (m*k)with l|l;rw[AT8 (by grind)]at h;obtain⟨i,r,n,o,p,q⟩:=d (fun i hi=>e i (by omega)) j u h;grind;rw[AS0 (by grind),b m (ASG _)]at h;grind
theorem ALL(a:Addr)(i j:Nat):(a.add i).add j=a.add (i+j):=by unfold Addr.add;grind
theorem xV{α:Type}[Inhabited α]{n:Nat}{p:Nat->α->Prop}(h:∀ i,i<n->∃ x,p i x):∃ f:Nat->α,∀ i,i<n->p i (f i):=by classical refine⟨fun i=>if hi:i<n then Classical.choose (h i hi)else default,fun i hi => ?_⟩;grind
theorem tp{rd:TypeId->Option Ty}{cs:List Value}(i:∀ (f:Field) (a:Ty),rd f.type=some a->(P.cellsOf f.type=a.size)->(∃ y:Nat×(DataW H×List MemPlace),DataW.trod enc P w 0 spare held y.1 f.type ((cs.drop f.offset).take (P.cellsOf f.type))=some y.2)->∃ d:a.den,Dat w (below w) a d ((cs.drop f.offset).take (P.cellsOf f.type))/\wfD a d):
  ∀ (c:List Field) (off:Nat) (t:Ty),QX P rd c off=some t->off+t.size=cs.length->(∀ f∈c,∃ y:Nat×(DataW H×List MemPlace),DataW.trod enc P w 0 spare held y.1 f.type ((cs.drop f.offset).take (P.cellsOf f.type))=some y.2) ->
   ∃ d:t.den,Dat w (below w) t d (cs.drop off)/\wfD t d:=by
 intro c;induction c with
  |nil=>
   intro off t h j _;simp only[QX,ASA]at h;subst h;refine⟨(),?_,trivial⟩;show cs.drop off=[]
   simp[Ty.size]at j;grind
  |cons f r n=>intro off t h j m;simp only[QX]at h;split at h;rename_i a b o p;split at h;rename_i k;simp only[ASA]at h;subst h;simp only[ASB]at k;have x:=ASx k.1;have q:=ASx k.2;obtain⟨d,hd,s⟩:=i f a o q (m f (by simp));simp only[Ty.size]at j;obtain⟨e,u,l⟩:=n (off+P.cellsOf f.type) b p (by omega) fun g v=>m g (by simp[v]);refine⟨(d,e),⟨(cs.drop off).take (P.cellsOf f.type),cs.drop (off+P.cellsOf f.type),?_,?_,u⟩,s,l⟩;rw[<- ATm,AS8];grind;grind;grind
theorem AFk:∀ (n:Nat) (t:TypeId) (ty:Ty) (l:Nat) (cs:List Value) (x:DataW H×List MemPlace),G9 P n t=some ty->DataW.trod enc P w 0 spare held l t cs=some x->∃ d:ty.den,Dat w (below w) ty d cs/\wfD ty d:=by
 intro n;induction n with
  |zero=>intro t ty l cs x h;cases h
  |succ n ih=>
   intro t ty l cs x h g;simp only[G9]at h;split at h;rename_i o;simp only[ASA]at h;subst h;obtain⟨b,rfl,_⟩:=DataW.trod_bool o g;exact⟨b,rfl,trivial⟩;rename_i k o;simp only[ASA]at h;subst h;obtain⟨m,rfl,_,V⟩:=DataW.trod_int o g;exact⟨m,rfl,APe V⟩;rename_i e o;split at h;rename_i a J;split at h;rename_i q;simp only[ASA]at h;subst h;rw[ASB]at q;have W:a.size≠0:=fun h0=>by simp_all
   have q:=ASx q.1;rcases DataW.trod_slice o g with⟨rfl,_⟩|⟨ad,len,cap,K,X,m,rfl,rfl,_,_,hle,Y,Z,L,_⟩
   exact⟨[],⟨none,0,rfl,ASG _,fun D=>absurd rfl D⟩,ATw _,fun x g=>by cases g⟩;-- z element
   have z:∀ i,i<len->∃ s,w.cells? 0 (ad.add (i*P.cellsOf e)) (P.cellsOf e)=some s/\∃ d:a.den,Dat w (below w) a d s/\wfD a d:=by intro i hi;have v:=L i hi;rw[ASI (by omega),ATj]at v;grind
   obtain⟨f,C⟩:=xV (α:=List Value) (p:=fun i s=>w.cells? 0 (ad.add (i*P.cellsOf e)) (P.cellsOf e)=some s/\∃ d:a.den,Dat w (below w) a d s/\wfD a d) z;have E:∀ i,i<len->(f i).length=a.size:=by intro i hi;obtain⟨_,G,_⟩:=World.cells?_some (C i hi).1;omega
   obtain⟨xs,v,I,h3⟩:=yM (R:=fun(d:a.den) cs=>Dat w (below w) a d cs/\wfD a d) (k:=a.size) len f fun i hi=>⟨E i hi,(C i hi).2⟩
   refine⟨xs,⟨some ad,cap,by rw[v],by omega,fun D=>⟨ad,(List.range len).flatMap f,rfl,?_,B_ (fun x _ cs g=>g.1) I,fun j u o => ?_⟩⟩,by omega,fun x g => ?_⟩;-- the block is there
   have M:0<len:=by grind
   have N:=World.cells?_block (C 0 M).1 (by omega);rw[AUA]at N;have e0:ad.add 0=ad:=by simp[Addr.add]
   grind;obtain⟨i,r,hi,hr,rfl,O⟩:=AJn len E j u o;obtain⟨_,_,A⟩:=World.cells?_some (C i hi).1;have:=A r (by omega);rw[O]at this;rw[<- this,q,ALL];grind;grind;grind;rename_i c e o;split at h;rename_i a J;split at h;rename_i q;simp only[ASA]at h;subst h;rw[ASB]at q;have hc1:=ASx q.1;have Q:=ASx q.2;obtain⟨xs,m,rfl,_,G,S,F⟩:=DataW.trod_array o g;rw[Q]at G;obtain⟨ys,v,I,h3⟩:=yM (R:=fun(d:a.den) cs=>Dat w (below w) a d cs/\wfD a d) (k:=a.size) c (fun i=>(cs.drop (i*a.size)).take a.size) fun i hi=>by
    have hi1:i*a.size+a.size<=c*a.size:=by have:=ASw a.size (show i+1<=c from hi);grind
    grind
   have B:∀ k,k<=c->(List.range k).flatMap (fun i=>(cs.drop (i*a.size)).take a.size)=cs.take (k*a.size):=by
    intro k;induction k with
     |zero=>simp
     |succ k T=>intro hk;rw[ASi,ATS,T (by omega),ATh,AUS,List.take_add];simp
   rw[B c (ASG _),<- G,ASc]at I;exact⟨ys,⟨v,B_ (fun x _ cs g=>g.1) I⟩,v,fun x g=>by grind⟩;grind;grind;rename_i fs o;split at h;rename_i a J;split at h;rename_i q;simp only[ASA]at h;subst h;have q:=ASx q;obtain⟨xs,m,rfl,_,G,S,F⟩:=DataW.trod_struct o g;obtain⟨d,hd,V⟩:=tp (enc:=enc) (w:=w) (spare:=spare) (held:=held) (cs:=cs) (fun f b N _ ⟨y,hy⟩=>ih f.type b y.1 _ y.2 N hy) fs.toList 0 _ J (by omega) (fun f C=>by
    obtain⟨i,hi⟩:=AUE C;have v:=F i f (by grind);have U:i<xs.length:=by grind
    rw[ASI U]at v;exact⟨(m,xs[i]),v⟩)
   grind;grind;grind;grind
theorem vL{r:Reach}{c:Nat}{t:TypeId}{v:Value}(a:Value.okWide P w r c t v)(e:∀ d,P.underlying t=some d->(match d with|.bool|.int _|.slice _=>true|_=>false)=true){ty:Ty}{n:Nat}(h:G9 P (n+1) t=some ty):v.cells.toList=[v]:=by
 simp only[Value.okWide]at a;have b:∃ d,P.underlying t=some d:=by
  cases b:P.underlying t with
   |none=>simp only[G9,b]at h;cases h
   |some d=>simp
 obtain⟨d,b⟩:=b;have:=e d b;rw[b]at a;cases d<;>simp only[ASR]at this<;>simp only[Cell.okWide,b]at a<;>cases v<;>first|rfl|(simp_all [Cell.ok])
theorem Ym{r:Reach}{u:Nat}{t:TypeId}{v:Value}{x:List MemPlace}{dd:DataW H}(b:Value.okWide P w r u t v)(hd:DataW.Trod enc P w 0 spare held t v dd x){ty:Ty}{n:Nat}(h:G9 P (n+1) t=some ty):
  ∃ d:ty.den,Cj w (below w) ty d v/\wfD ty d:=by
 obtain⟨l,y⟩:=hd;obtain⟨d,p,z⟩:=AFk (n+1) t ty l _ _ h y;refine⟨d,?_,z⟩;have one:(∀ d,P.underlying t=some d->(match d with|.bool|.int _|.slice _=>true|_=>false)=true)->ty.isAgg=false->Cj w (below w) ty d v:=by intro A q;unfold Cj;rw[q];rw[vL b A h]at p;exact p
 have m:(∃ cs,v = .agg cs)->ty.isAgg=true->Cj w (below w) ty d v:=by rintro⟨cs,rfl⟩ q;unfold Cj;rw[q];exact⟨cs,rfl,p⟩
 have j:∃ d,P.underlying t=some d:=by
  cases j:P.underlying t with
   |none=>simp only[G9,j]at h;cases h
   |some d=>simp
 obtain⟨C,j⟩:=j;simp only[G9,j]at h;split at h;rename_i g;cases g;simp only[ASA]at h;subst h;exact one (fun d hd=>by grind) rfl;rename_i k g;cases g;simp only[ASA]at h;subst h;exact one (fun d hd=>by grind) rfl;rename_i e g;cases g;split at h;split at h;simp only[ASA]at h;subst h;exact one (fun d hd=>by grind) rfl;grind;grind;rename_i c e g;cases g;have s:∃ cs,v = .agg cs:=by simp only[Value.okWide,j]at b;grind
 split at h;split at h;simp only[ASA]at h;subst h;exact m s rfl;grind;grind;rename_i B g;cases g;have s:∃ cs,v = .agg cs:=by simp only[Value.okWide,j]at b;grind
 split at h;rename_i a i;split at h;simp only[ASA]at h;subst h;refine m s ?_;cases o:B.toList with
  |nil=>rw[o]at i;simp only[QX,ASA]at i;subst i;rfl
  |cons f r=>rw[o]at i;simp only[QX]at i;split at i;split at i;simp only[ASA]at i;subst i;rfl;grind;grind
 grind;grind;grind
theorem dk{g:FuncId}{s:Spec}(n:BT P g s){args:List AV}{b:Bool}{e:Eff}(d:s (AV×Eff) args [] [] 0 (fun v e=>some (v,e))=some (.data .bool b,e)){a:List Value}
  (q:BE w (below w) (fun _=>none) [] args a) (f:ALU w (below w):=by intro p h;simp[wB]at h):Calls P g a.toArray w fun l w'=>l = .returned (.bool b)/\Below w.heap.size w w':=by
 obtain⟨v,z,m,_,_,r⟩:=n _ args [] [] 0 _ _ d;simp only[ASA,AST]at m;obtain⟨rfl,rfl⟩:=m;have hi:HI w (below w) (fun _=>none) [] []:=⟨fun id o h=>by simp at h,fun i T e t xs ver out h=>by simp at h,fun i T e t xs ver out h=>by simp at h,fun i j b c b' c' _ _ _ h=>(nomatch h),fun i b c _ h=>(nomatch h),fun i T t xs b c h=>by simp at h,fun b h=>h,f,rfl⟩
 refine(r w _ _ a hi q).mono ?_;rintro l w' ⟨u,rfl,A,B,⟨k,_⟩,x⟩;have y:u = .bool b:=D9 x;subst y;exact⟨rfl,k.os,k.tape,k.output,k.size,fun i hi=>k.keep i hi fun j c _ h=>by cases h⟩
end
section
variable {H:Type} {enc:TypeId×Value->H} {P:Program}
theorem c8{f:Func}{s:ChangeSpec}{apart i c k:Bool}{W m:World}{args:Array Value}{v:Value}{ds n:List (DataW H)}{a pa pv:List MemPlace}
  (u:DataW.Whole enc P f.params.toList s.vars apart W args.toList ds n a)
  (g:∀ (b:Nat) (l:Nat->Bool) (hd:Bool),DataW.TrodAll enc P m b l hd f.resultTypes.toList (v.resultList f.resultTypes.size) (s.fn H (ds++n)).results [])
  (d:∀ l:Nat->Bool,(∀ p∈a,l p.block=true)->DataW.TrodAll enc P m 0 l true f.params.toList args.toList (s.fn H (ds++n)).args pa)
  (e:∀ l:Nat->Bool,(∀ p∈a,l p.block=true)->DataW.TrodVars enc P m l s.vars (s.fn H (ds++n)).vars pv)
  (z:a=pa++pv) (y:Below W.heap.size W m)
  (w:∀ (j:Nat) (t:TypeId) (r:Value),f.resultTypes[j]? = some t->(v.resultList f.resultTypes.size)[j]? = some r->Value.okWide P m .any 0 t r) :
  s.post enc P f apart i c k W args v m:=by
 have x:∀ p∈a,p.block<W.heap.size:=fun p o=>u.lt p o;have h:∀ p∈a,(fun b=>decide (b<W.heap.size)) p.block=true:=fun p o=>by grind
 refine⟨ds,n,a,[],pa,pv,u,g _ _ _,d _ h,e _ h,World.keptBut_mono (fun p o=>⟨o,?_⟩) (y.frame (·∈a)),fun _ => ?_⟩
 grind
 ·obtain⟨_,_,_,_,_,A,B⟩:=u;refine⟨w,_,_,([]++pa)++pv,⟨[]++pa,pv,trodAll_append (d _ (fun _ _=>rfl)) (g _ _ _),e _ (fun _ _=>rfl),rfl,?_,?_⟩,?_⟩;intro b off o;have q:MemPlace.cell b off∈a:=by grind
  rw[y.frozen (x _ q)];exact A b off q;all_goals grind
theorem QH{t:TypeId}(f:laidOutB P=true)(g:P.readableRec t=true)(a:t<P.types.size){W e:World}{v:Value}{d:DataW H}{b:List MemPlace}
  (h:DataW.Trod enc P W 0 (fun _=>true) true t v d b) (i:Below W.heap.size W e) (c:∀ x∈b,x.block<W.heap.size) {sp:Nat->Bool} (j:∀ x∈b,sp x.block=true) :
  DataW.Trod enc P e 0 sp true t v d b:=
 WideElems.Trod_stays f g a h (fun x k=>i.same (c x k)) j
end
end Go.Pev
end
section
section
namespace Go.Pev.Pl
open Tok
theorem N3{n u v:Int}(h:okT n (.arc u v)):okT n (.arc v u):=⟨h.2.1,h.1,ATy h.2.2⟩
end Go.Pev.Pl
end
section
namespace Go.Pev.Pl
open Tok
theorem ARA(n t:Int):TI n [t]↔In n t:=by
 constructor;rintro⟨L,a,c,d⟩;rcases d.leaf with⟨v,e⟩|⟨x,v,r,f⟩
 subst e;simp only[ASQ,ATk,ASn,AUo]at a;rw[a];exact c (.ver v) (by simp);have g:=f.length;have i:=ASt List.length a;grind;intro h;exact⟨[.ver t],rfl,fun x b=>by simp at b;subst b;exact h,T.one t⟩
theorem ARB(n:Int):¬ TI n []:=by rintro⟨L,b,c,a⟩;have:=a.facts.1;simp_all
end Go.Pev.Pl
end
section
namespace Go.Pev.Pl
open Tok
def RG(n:Int)(xs:List Int):Prop:=Rt xs/\xs≠[]/\N4 xs=xs.headD 0/\TI n xs
def okR(n:Int):List Int->Int->List (List Int)->Prop
 |_,_,[]=>True
 |seen,last,l::ls=>RG n l/\last<l.headD 0/\(∀ t∈l,t<n->t∉seen)/\okR n (seen++l.filter (fun t=>decide (t<n))) (l.headD 0) ls
def RF(n:Int)(a:List (List Int)):Prop:=Sz n/\okR n [] (-1) a/\∀ v,0<=v->v<n->v∈a.flatten
noncomputable instance (n:Int) (rings:List (List Int)):Decidable (RF n rings):=Classical.propDecidable _
noncomputable instance (n:Int) (xs:List Int):Decidable (RG n xs):=Classical.propDecidable _
def MI(n:Int)(b:List (Int×Int))(a:List Int):Prop:=∀ t,t<n->(A7 b t).getD (0:Int)=if t∈a then 1 else 0
theorem iO(n:Int)(l:List Int)(S:l.length<1073741824)(A:List (List Int))(B:Int)(C:List (List Int))(D E:Int)(F:List Int)(G H:Int)(f:Bool)(g:List Int)(h i:Bool)(j:List Int)(o:Int)(p:List Int)(q:Int)(r:Bool)(s:Int)(u:List Int)(v w:Bool):
  ∀ (m k cnt:Nat) (b:List (Int×Int)) (a:List Int),k+m=l.length->MI n b a->(l.drop k).Nodup->m<cnt ->
  ((∀ t∈l.drop k,t<n->t∉a)/\∃ d,BD I0 cnt (n,A,b,B,C,D,E,F,G,H,f,g,h,i,j,o,p,q,r,s,u,v,w,l,(l.length:Int),(k:Int),()) =
    some (.inr (.inl (n,A,d,B,C,D,E,F,G,H,f,g,h,i,j,o,p,q,r,s,u,v,w,())))/\MI n d (a++(l.drop k).filter (fun t=>decide (t<n)))) \/
  (¬ (∀ t∈l.drop k,t<n->t∉a)/\BD I0 cnt (n,A,b,B,C,D,E,F,G,H,f,g,h,i,j,o,p,q,r,s,u,v,w,l,(l.length:Int),(k:Int),())=some (.inl (false,()))):=by
 intro m;induction m with
  |zero=>
   intro k cnt b a O z I P;obtain⟨cnt,rfl⟩:∃ c,cnt=c+1:=⟨cnt-1,by omega⟩
   have e:l.drop k=[]:=AUh (by omega);rw[e];refine .inl ⟨by simp,b,?_,by grind⟩;rw[BD,I0,A2,AR8 (by omega)]
  |succ m T=>
   intro k cnt b a O z I P;obtain⟨cnt,rfl⟩:∃ c,cnt=c+1:=⟨cnt-1,by omega⟩
   have x:k<l.length:=by omega
   have e:l.drop k=l.getD k 0::l.drop (k+1):=by simp_all
   rw[BD,I0,A2,AR9 x];simp only[Dr (0:Int) x];rw[e]at I |-;generalize l.getD k 0=t at *;rw[ATD]at I;rw[A5 (by omega),BC];by_cases J:t<n;rw[AR9 J];have K:=z t J;simp only[K,BC];by_cases Q:t∈a;grind;rw[ASH Q,AR8 (by omega)];simp only[];have R:w64 ((0:Int)+1)=1:=by rw[BG (by omega)];rfl
   rw[R];have L:MI n (BF b t 1) (a++[t]):=by intro y M;rw[FG];by_cases N:y=t;simp[N];simp only[N,ASX,ASF,ASj,or_false];exact z y M
   grind;rw[AR8 J];simp only[];have L:MI n (BF b t (w64 (((A7 b t).getD (0:Int))+(1:Int)))) a:=by intro y M;rw[FG,ASH (by omega)];exact z y M
   grind
theorem Yn(n:Int)(a:List (List Int))(D:a.length<1073741824)(J:∀ l∈a,l.length<9223372036854775808/\∀ x∈l, -9223372036854775808<=x/\x<=9223372036854775807):
  ∀ (k:List (List Int)) (i cnt:Nat) (f:List (Int×Int)) (b:Int) (d:List Int),a.drop i=k->i<=a.length->MI n f d->k.length<cnt ->
  (okR n d b k/\∃ g j,BD G0 cnt (n,a,f,b,a,(a.length:Int),(i:Int),())=some (.inr (.inl (n,a,g,())))/\MI n g j/\∀ v,v∈j↔v∈d\/(v<n/\v∈k.flatten)) \/
  (¬ okR n d b k/\BD G0 cnt (n,a,f,b,a,(a.length:Int),(i:Int),())=some (.inl (false,()))):=by
 have u:4294967296<many:=by simp only[many];omega
 intro k;induction k with
  |nil=>
   intro i cnt f b d hd hi w E;obtain⟨cnt,rfl⟩:∃ c,cnt=c+1:=⟨cnt-1,by omega⟩
   have:a.length<=i:=by grind
   refine .inl ⟨trivial,f,d,?_,w,by simp⟩;rw[BD,G0,A2,AR8 (by omega)]
  |cons l k K=>
   intro i cnt f b d hd hi w E;simp only[ASK]at E;obtain⟨cnt,rfl⟩:∃ c,cnt=c+1:=⟨cnt-1,by omega⟩
   have o:i<a.length:=by grind
   rw[ASr o]at hd;simp only[ASn]at hd;obtain⟨L,z⟩:=hd;have F:a[i]? = some l:=by grind
   have p:l∈a:=ASJ F;obtain⟨G,A⟩:=J l p;rw[BD,G0,A2,AR9 o,okR];simp only[A' F,BB];cases l with
    |nil=>rw[A6,AR9 (by simp)];exact .inr ⟨fun h=>h.1.2.1 rfl,rfl⟩
    |cons x e=>
     rw[A6,AR8 (by grind)];have M:idx (x::e) (0:Int)=some x:=by rw[H8];rfl
     simp only[M,AUv,BM];by_cases N:x<=b;grind
     ·rw[AR8 N];simp only[QU];by_cases c2:Rt (x::e)
      ·rw[AR9 c2];have G:(x::e).length<1073741824:=by have:=c2.1;omega
       simp only[ASE,pg (x::e) (by simp) (by omega)];by_cases r:N4 (x::e)=x
       ·rw[AR9 r];simp only[ASE];rw[AJU n (x::e) (by simp) (by omega) A c2.2.2 (fun y Q=>by grind)];by_cases s:TI n (x::e)
        ·rw[AR9 s];simp only[ASE,BR];have B:RG n (x::e):=⟨c2,by simp,r,s⟩
         rcases iO n (x::e) G a x a (a.length:Int) (i:Int) (x::e) x b false (x::e) true false (x::e) (N4 (x::e)) (x::e) x false n (x::e) true false (x::e).length 0 many f d (by omega) w (by rw[List.drop_zero];exact c2.2.2) (by omega)with⟨q1,g,q2,q3⟩|⟨q1,q2⟩
         ·rw[List.drop_zero]at q1 q3;have C:BD I0 many (n,a,f,x,a,(a.length:Int),(i:Int),x::e,x,b,false,x::e,true,false,x::e,N4 (x::e),x::e,x,false,n,x::e,true,false,x::e,((x::e).length:Int),(0:Int),())=_:=q2;simp only[C,A5 (show i+1<9223372036854775808 by omega)];rcases K (i+1) cnt g x (d++(x::e).filter (fun t=>decide (t<n))) z (by omega) q3 (by omega)with⟨H,q,m,I,O,P⟩|⟨H,I⟩
          ·refine .inl ⟨⟨B,by omega,q1,H⟩,q,m,I,O,fun v => ?_⟩;rw[P,ASF,ASa,AUM,ASF];simp only[ASC];constructor;all_goals grind
          grind
         grind
        rw[AR8 s];exact .inr ⟨fun h=>s h.1.2.2.2,rfl⟩
       rw[AR8 r];exact .inr ⟨fun h=>r h.1.2.2.1,rfl⟩
      rw[AR8 c2];exact .inr ⟨fun h=>c2 h.1.1,rfl⟩
theorem L9(n:Int)(a:List (List Int))(g:a.length<1073741824)(r:∀ l∈a,l.length<9223372036854775808/\∀ x∈l, -9223372036854775808<=x/\x<=9223372036854775807):
  NU ((n,(a,())),())=some (decide (RF n a),()):=by
 have m:4294967296<many:=by simp only[many];omega
 rw[eN,Yo];simp only[L7];by_cases j:Sz n;rw[AR9 j];simp only[ASE,BR,A6];rcases Yn n a g r a 0 many [] (-1) [] (by simp) (by omega) (fun t _=>by simp[A7]) (by omega)with⟨o,c,b,p,s,A⟩|⟨o,p⟩
 have d:BD G0 many (n,a,[], -1,a,(a.length:Int),(0:Int),())=_:=p;simp only[d];obtain⟨u,w⟩:=j;obtain⟨N,rfl⟩:=ASD (show 0<=n by omega)
 have e:=AGg (step:=Iz) (fun i=>(c,(N:Int),(i:Int),())) N (fun i=>decide ((i:Int)∉b)) (fun _=>.inl (false,())) (.inr (.inl ())) (by omega)
  (fun i hi=>by
   have:=s (i:Int) (by omega)
   rw[Iz,A2,AR9 hi]
   simp only[this,BB]
   by_cases h:(i:Int)∈b
   ·simp only[h,ASh,not_true]
    rw[A5 (by omega)];simp
   grind)
  (by rw[Iz,A2,AR8 (by omega)])
 rw[BR]at e;have B:∀ v,v∈b↔(v<(N:Int)/\v∈a.flatten):=fun v=>by grind
 rcases e with⟨k,y,C,_,q⟩|⟨y,q⟩
 have f:BD Iz many (c,(N:Int),(0:Int),())=_:=q;rw[f,AR8];rintro⟨_,_,h⟩;grind;have f:BD Iz many (c,(N:Int),(0:Int),())=_:=q;rw[f,AR9];refine⟨⟨u,w⟩,o,fun v z D => ?_⟩;obtain⟨k,rfl⟩:=ASD z;grind;have d:BD G0 many (n,a,[], -1,a,(a.length:Int),(0:Int),())=_:=p;simp only[d];rw[AR8 (fun h=>o h.2.1)];rw[AR8 j,AR8 (fun h=>j h.1)];rfl
end Go.Pev.Pl
end
section
namespace Go.Pev.Pl
open Tok
theorem TW{n:Int}{l:List Int}(h:RG n l):In n (l.headD 0):=by
 obtain⟨c,d,a,b⟩:=h;cases l with
  |nil=>grind
  |cons x l=>exact z4 b a
theorem ANJ{n:Int}(f:1<=n):∀ {c:List (List Int)} {b:List Int} {a:Int},okR n b a c->-1<=a->a<n->(c.length:Int)<=n-1-a:=by
 intro c;induction c with
  |nil=>grind
  |cons l c g=>intro b a ⟨d,h,i,j⟩ k e;have m:=(TW d).2.2;grind
end Go.Pev.Pl
end
section
namespace Go.Pev.Pl
open Tok
def hd(l:List Int):Int:=l.headD 0
def Dis(n:Int)(a b:List Int):Prop:=∀ t∈a,t<n->t∉b
structure FR(n:Int)(rings:List (List Int)):Prop where
 sz:Sz n
 rg:∀ l∈rings,RG n l
 up:rings.Pairwise (fun a b=>hd a<hd b)
 dis:rings.Pairwise (Dis n)
 cov:∀ v,In n v->∃ l∈rings,v∈l
theorem Dis.symm{n:Int}{a b:List Int}(h:Dis n a b):Dis n b a:=fun t c d e=>h t e d c
theorem yq{n:Int}:∀ {f:List (List Int)} {c:List Int} {d:Int},okR n c d f↔(∀ l∈f,RG n l/\d<hd l/\∀ t∈l,t<n->t∉c)/\f.Pairwise (fun a b=>hd a<hd b)/\f.Pairwise (Dis n):=by
 intro f;induction f with
  |nil=>intro c d;simp[okR]
  |cons l f s=>intro c d;rw[okR,s,AS3,AS3];constructor;rintro⟨j,m,o,p,q,u⟩;refine⟨fun k e => ?_,⟨fun k e=>(p k e).2.1,q⟩,⟨fun k e t r g v => ?_,u⟩⟩;rcases ASW.1 e with rfl|e;exact⟨j,m,o⟩;grind;grind;rintro⟨j,⟨m,o⟩,⟨p,q⟩⟩;obtain⟨w,x,y⟩:=j l (by simp);refine⟨w,x,y,fun k e => ?_,o,q⟩;obtain⟨z,A,B⟩:=j k (by simp[e]);refine⟨z,m k e,fun t r g i => ?_⟩;simp only[ASF,ASa]at i;rcases i with h|h;grind;exact p k e t h.1 g r
theorem RZ{n:Int}{a:List (List Int)}:RF n a↔FR n a:=by constructor;rintro⟨c,d,e⟩;obtain⟨g,i,j⟩:=yq.1 d;refine⟨c,fun l b=>(g l b).1,i,j,fun v f => ?_⟩;obtain⟨l,b,h⟩:=List.mem_flatten.1 (e v f.2.2.1 f.2.2.2);grind;rintro⟨c,d,e,k,m⟩;refine⟨c,yq.2 ⟨fun l b=>⟨d l b,?_,by simp⟩,e,k⟩,fun v o p => ?_⟩;have:=(TW (d l b)).2.2.1;show(-1:Int)<l.headD 0;omega;obtain⟨l,b,h⟩:=m v ⟨c.1,c.2,o,p⟩;exact List.mem_flatten.2 ⟨l,b,h⟩
theorem nR{ys c:List (List Int)}(d:c.Pairwise (fun a b=>hd a<hd b))(g:ys.Perm c)(k:ys.Pairwise (fun a b=>¬ hd b<hd a)):ys=c:=by
 have f:∀ a∈c,∀ b∈c,hd a=hd b->a=b:=by intro a l b m e;refine ATI fun n => ?_;obtain⟨i,hi,rfl⟩:=AS5 l;obtain⟨j,o,rfl⟩:=AS5 m;rw[AS7]at d;grind
 refine ATg (le:=fun a b=>¬ hd b<hd a) ?_ k ?_ g;grind;exact d.imp fun h=>by omega
def plc(a:List (List Int))(v:Int):Int:=if a.any (fun l=>decide (v∈l))then((a.findIdx (fun l=>decide (v∈l)):Nat):Int)else -1
theorem QI(n:Int)(a:List (List Int))(v:Int)(b:a.length<1073741824)(d:∀ l∈a,l.length<9223372036854775808):To ((n,(a,())),v,())=some (plc a v,()):=by
 rw[eO,Yq,KZ,HM]
 have e:=Gg (step:=Ds) (fun i=>(v,a,A4 a,(i:Int),())) a (fun l=>decide (v∈l)) (fun i=>.inl (v,(i:Int),())) (.inr (.inl (v,()))) (by omega)
  (fun i l hi c=>by
   have g:=d l (ASJ c)
   rw[Ds,A6,A2,AR9 hi]
   simp only[A' c,Hk l v (by omega)]
   rw[A5 (by omega)]
   grind)
  (by rw[Ds,A6,A2,AR8 (by omega)])
 have f:A9 Ds many (v,a,A4 a,(0:Int),())=_:=e;simp only[f,plc];grind
theorem QZ{a:List (List Int)}{v:Int}(h:∃ l∈a,v∈l):∃ k l,plc a v=((k:Nat):Int)/\a[k]? = some l/\v∈l/\k<a.length:=by obtain⟨l,c,e⟩:=h;have b:a.any (fun l=>decide (v∈l))=true:=ATZ.2 ⟨l,c,by grind⟩;have d:a.findIdx (fun l=>decide (v∈l))<a.length:=AT1.2 ⟨l,c,by grind⟩;refine⟨_,a[a.findIdx (fun l=>decide (v∈l))],by rw[plc,ASL b],by simp,?_,d⟩;grind
theorem FR.uniq{n:Int}{c:List (List Int)}(h:FR n c){i j:Nat}{a b:List Int}{v:Int}(hi:c[i]? = some a)(m:c[j]? = some b)(f:v<n)(k:v∈a)(l:v∈b):i=j:=by obtain⟨d,rfl⟩:=ASM.1 hi;obtain⟨e,rfl⟩:=ASM.1 m;have hd:=AS7.1 h.dis;rcases AUi i j with g|g|g;exact absurd l (hd i j d e g v k f);exact g;exact absurd k (hd j i e d g v l f)
theorem FR.jU{n:Int}{b:List (List Int)}(h:FR n b){k:Nat}{a:List Int}{v:Int}(c:b[k]? = some a)(f:v<n)(d:v∈a):plc b v=(k:Int):=by obtain⟨j,l,e,g,i,_⟩:=QZ ⟨a,ASJ c,d⟩;rw[e,h.uniq g c f i d]
theorem bI{α:Type}{l:List α}{i:Nat}{a:α}(h:l[i]? = some a):l.Perm (a::l.eraseIdx i):=by
 obtain⟨hi,rfl⟩:=ASM.1 h;rw[List.eraseIdx_eq_take_drop_succ];conv=>lhs;rw[<- AS8 i l,ASr hi]
 exact List.perm_middle
theorem W3{α:Type}{l:List α}{i j:Nat}{a b:α}(c:i<j)(hi:l[i]? = some a)(d:l[j]? = some b):l.Perm (a::b::(l.eraseIdx j).eraseIdx i):=by
 have e:=bI d;have f:(l.eraseIdx j)[i]? = some a:=by grind
 exact e.trans (((bI f).cons b).trans (List.Perm.swap a b _))
theorem ACX{n:Int}{t:Tok}(h:okT n t):0<=IC n t/\IC n t<=4160/\IC n t<n*(n+1):=by
 cases t with
  |ver v=>obtain⟨a,b,c,d⟩:=h;have:n*1<=n*(n+1):=Int.mul_le_mul_of_nonneg_left (by omega) (by omega);simp only[IC];omega
  |arc u v=>
   obtain⟨a,b,_⟩:=h;obtain⟨f,g,_⟩:=YG a b;have i:=MU (u:=n+1-1) a.1 a.2.1 (by have:=a.1;omega) (by have:=a.2.1;omega);have e:n*(n+1)=n*(n+1-1)+n:=by grind
   have:=a.1;have:=a.2.1;simp only[IC];omega
theorem AQR{n:Int}{t:Tok}(h:okT n t):Sz n:=by
 cases t with
  |ver v=>exact⟨h.1,h.2.1⟩
  |arc u v=>exact⟨h.1.1,h.1.2.1⟩
theorem QF:∀ {L:List Tok},L.Nodup->(NR L).Nodup
 |[],_=>by simp[NR]
 |.ver v::L,h=>by rw[ATD]at h;rw[NR,ATD];exact⟨fun a=>h.1 (SQ.1 a),QF h.2⟩
 |.arc _ _::L,h=>by rw[ATD]at h;rw[NR];exact QF h.2
theorem APb{n:Int}{xs:List Int}(h:TI n xs):Rt xs:=by
 obtain⟨L,rfl,c,d⟩:=h;have i:=d.nodup;refine⟨?_,fun x f => ?_,?_⟩;obtain⟨v,r,j⟩:=d.rC;have l:Sz n:=AQR (c (.ver v) ((j.mem _).2 (by simp)));have q:=d.len;have s:=Hg (a:=NR L) (b:=(List.range n.toNat).map (fun(k:Nat)=>(k:Int))) (QF i) fun x f=>by have:=c _ (SQ.1 f);have u:=this.2.2;rw[ASS];exact⟨x.toNat,by grind,by omega⟩
 have w:=l.2;grind;obtain⟨t,m,rfl⟩:=ASS.1 f;have:=ACX (c t m);omega;rw[List.Nodup,ATd];exact i.imp_of_mem fun o p g e=>g (S7 (c _ o) (c _ p) e)
def AFQ(a b:List Int):Prop:=∃ x y,a=x++y/\b=y++x
theorem AFQ.perm{a b:List Int}(h:AFQ a b):a.Perm b:=by obtain⟨x,y,rfl,rfl⟩:=h;grind
theorem ALR{n:Int}{a b:List Int}(h:TI n a)(r:AFQ a b):TI n b:=by obtain⟨L,e,f,g⟩:=h;obtain⟨x,y,rfl,rfl⟩:=r;obtain⟨c,d,rfl,i,j⟩:=List.map_eq_append_iff.1 e.symm;refine⟨d++c,by grind,fun t k=>f t ?_,T.rot c d g⟩;grind
theorem Es{xs:List Int}{t:Int}(h:t∈xs):AFQ xs (DE xs t):=by obtain⟨a,b,c,_,d⟩:=ZY h;exact⟨a,t::b,c,by rw[d]⟩
theorem ACf{xs ys:List Int}(h:xs.Perm ys)(a:xs≠[]):N4 ys=N4 xs:=by obtain⟨b,c⟩:=HE a;exact ANQ (h.mem_iff.1 b) fun x d=>c x (h.mem_iff.2 d)
theorem uE{xs:List Int}(b:Rt xs)(a:xs≠[]):AFQ xs (plain xs):=by rw[plain,ASL ⟨b,a⟩];exact Es (HE a).1
theorem APa{n:Int}{xs:List Int}(h:TI n xs):xs≠[]:=by rintro rfl;exact ARB n h
theorem sC{n:Int}{xs:List Int}(h:TI n xs):RG n (plain xs)/\AFQ xs (plain xs):=by have g:=APb h;have c:=APa h;have d:=uE g c;have f:=ALR h d;refine⟨⟨APb f,APa f,?_,f⟩,d⟩;rw[ACf d.perm c];obtain⟨a,b,_,e⟩:=Zn g c;grind
theorem r8{n:Int}{xs:List Int}(h:TI n xs){t:Tok}(e:okT n t)(d:IC n t∈xs):∃ a,DE xs (IC n t)=(t::a).map (IC n)/\T (t::a)/\(∀ y∈t::a,okT n y):=by
 have f:=ALR h (Es d);obtain⟨a,b,j,k,g⟩:=ZY d;obtain⟨L,c,i,l⟩:=f;rw[g,ASl]at c;cases L with
  |nil=>cases c
  |cons t' L=>simp only[ASQ,ASn]at c;have:=S7 e (i t' (by simp)) c.1;grind
end Go.Pev.Pl
end
section
namespace Go.Pev.Pl
open Go.RowKit Tok
theorem aZ(a:Int):ieq a a=true:=by rw[Cd];simp
def Dom(a:List (List Int)):Prop:=a.length<1073741824/\∀ l∈a,l.length<9223372036854775808/\∀ x∈l, -9223372036854775808<=x/\x<=9223372036854775807
theorem FR.dom{n:Int}{a:List (List Int)}(h:FR n a):Dom a:=by have b:=RZ.2 h;have e:=ANJ h.sz.1 b.2.1 (by omega) (by have:=h.sz.1;omega);have f:=h.sz.2;refine⟨by omega,fun l c => ?_⟩;have:=(h.rg l c).1;exact⟨by have:=this.1;omega,fun x d=>by have:=this.2.1 x d;omega⟩
theorem kO{l:List Int}(h:l≠[]):hd l∈l:=by
 cases l with
  |nil=>grind
  |cons x l=>simp[hd]
end Go.Pev.Pl
end
section
namespace Go.Pev.Pl
open Tok
def FF(n:Int)(xs:List Int):List Int:=xs.filter fun t => !decide (n<=t)
noncomputable def AK2(n:Int)(a:List (List Int))(ok:Bool):Int:=if RF n a then if ok then 0 else 10 else 1
theorem xB(n:Int)(a:List (List Int))(xs:List Int)(c:xs.length<9223372036854775808):Fp (xs,n,a,())=some (n,a,xs.any (fun x=>decide (x<0)||decide (n<=x)),()):=by
 rw[Jx,Gl,Ka,HN]
 have e:=Gg (step:=Dt) (fun i=>(n,a,xs,A4 xs,(i:Int),())) xs (fun x=>decide (x<0)||decide (n<=x)) (fun i=>.inl (n,a,(i:Int),())) (.inr (.inl (n,a,()))) c
  (fun i x hi d=>by
   rw[Dt,A6,A2,AR9 hi]
   simp only[A' d,BC,BM]
   rw[A5 (by omega)]
   grind)
  (by rw[Dt,A6,A2,AR8 (by omega)])
 have f:A9 Dt many (n,a,xs,A4 xs,(0:Int),())=_:=e;rw[f];generalize (xs.any fun x=>decide (x<0)||decide (n<=x))=b;cases b<;>simp[BM]
theorem ARD{n v:Int}(a:Sz n):(decide (v<0)||decide (n<=v)) = !decide (In n v):=by
 by_cases h:In n v;obtain⟨_,_,b,c⟩:=h;simp[In,a.1,a.2,b,c];have:v<0\/n<=v:=by refine ATI fun d=>h ⟨a.1,a.2,by omega,by omega⟩
 grind
theorem Q9(n:Int)(a:List (List Int))(xs:List Int)(b:Dom a)(c:xs.length<9223372036854775808):Mq ((n,(a,())),xs,())=some (AK2 n a (xs.all fun v=>decide (In n v)),()):=by
 rw[fu,bA];simp only[L9 n a b.1 b.2,xB n a xs c,AK2];by_cases h:RF n a;have d:(xs.any fun x=>decide (x<0)||decide (n<=x)) = !(xs.all fun v=>decide (In n v)):=by rw[List.not_all_eq_any_not];congr 1;funext x;exact ARD h.1
 grind;grind
def Pp(n:Int)(A:List Int):List Int:=((List.range n.toNat).map fun(k:Nat)=>(k:Int)).filter fun v=>decide (v∈A)
theorem AAW{n:Int}{A:List Int}(v:Int):v∈Pp n A↔0<=v/\v<n/\v∈A:=by rw[Pp,ASa,ASS,ASC];constructor;grind;rintro⟨b,c,a⟩;exact⟨⟨v.toNat,by grind,by omega⟩,a⟩
theorem mz(n:Int)(A:List Int):(Pp n A).Pairwise (· < ·):=by rw[Pp];refine AUD _ ?_;rw[ATd];exact List.pairwise_lt_range.imp fun h=>by omega
theorem ADA{n:Int}{A:List Int}(h:RG n A):(FF n A).Perm (Pp n A):=by
 have a:(FF n A).Nodup:=h.1.2.2.filter _;have b:(Pp n A).Nodup:=(mz n A).imp fun h=>by omega
 exact(AT3 a b).2 fun v=>by rw[AAW,FF,ASa];simp only[ATG,ASg];constructor;rintro⟨c,d⟩;have:=(h.1.2.1 v c).1;grind;grind
end Go.Pev.Pl
end
section
namespace Go.Pev.Pl.SG
open Go.Sort
structure SP(α β:Type)where
 z:α
 c:α×α×Unit->Option (β×Unit)
 t:β->Bool
 ok:α->Prop
 okz:α
 Qk:ok okz
 lt:α->α->Bool
 swo:SWO lt
 M5:∀ {x y:α},ok x->ok y->∃ r,c (x,y,())=some (r,())/\t r=lt x y
variable {α β:Type} {S:SP α β}
abbrev EL{α β:Type}(S:SP α β):={x:α // S.ok x}
instance:Inhabited (EL S):=⟨⟨S.okz,S.Qk⟩⟩
def rep(d:Array (EL S)):List α:=d.toList.map Subtype.val
theorem Bq{d:Array (EL S)}{n:Nat}(h:n<d.size):idx (rep d) (n:Int)=some (d[n]!).val:=by rw[idx_eq,aa,ASH (by omega)];simp[rep,h]
theorem CT{d:Array (EL S)}{n:Nat}{z:α}(h:n<d.size):A_ (rep d) (A3 (n:Int)) z=(d[n]!).val:=by simp[A_,A3,rep,h]
theorem Kg{d:Array (EL S)}{n:Nat}{x:(EL S)}:Be (rep d) (A3 (n:Int)) x.val=rep (d.setIfInBounds n x):=by simp[Be,A3,rep,List.map_set]
theorem zf{d:Array (EL S)}:A4 (rep d)=(d.size:Int):=by simp[A4,rep]
def ltX(x y:(EL S)):Bool:=S.lt x.val y.val
theorem AGC:SWO (ltX (S:=S)):=⟨fun x=>S.swo.irrefl x.val,fun x y z=>S.swo.trans x.val y.val z.val,fun x y z=>S.swo.ntrans x.val y.val z.val⟩
noncomputable def ARj(x y:(EL S)):β:=(S.M5 x.property y.property).choose
theorem Dp(x y:(EL S)):S.c (x.val,y.val,())=some (ARj x y,()):=(S.M5 x.property y.property).choose_spec.1
theorem Em(x y:(EL S)):S.t (ARj x y)=ltX x y:=(S.M5 x.property y.property).choose_spec.2
theorem ANo(a b i:Nat):∀ (j:Nat) (d:Array (EL S)) (n:Nat),j<d.size->d.size<4611686018427387904->j<n ->
  BD (YB S.z S.c S.t) n ((rep d),(a:Int),(b:Int),(i:Int),(j:Int),())=some (.inl ((rep (insInner ltX a j d)),(a:Int),(b:Int),(i:Int),())):=by
 intro j;induction j with
  |zero=>
   intro d n f g h;obtain⟨n,rfl⟩:∃ k,n=k+1:=⟨n-1,by omega⟩
   have l:ilt (a:Int) ((0:Nat):Int)=false:=by rw[A2];simp
   simp only[BD,YB,l,insInner]
  |succ j m=>
   intro d n f g h;obtain⟨n,rfl⟩:∃ k,n=k+1:=⟨n-1,by omega⟩
   have o:w64 (((j+1:Nat):Int)-1)=(j:Int):=by rw[BG (by omega)];omega
   have e:j<d.size:=by omega
   simp only[BD,YB,A2,o,Bq f,Bq e,CT f,CT e,Dp,Em,insInner,gt_iff_lt];by_cases p:a<j+1;cases q:ltX d[j+1]! d[j]!;grind;simp only[p,ASU,q,Bool.and_true,ASh,Kg];rw[Bq (by grind)];simp only[K_];exact m (swp d (j+1) j) n (by rw[size_swp];omega) (by rw[size_swp];omega) (by omega);grind
theorem Ko(lt:(EL S)->(EL S)->Bool)(a j:Nat)(d:Array (EL S)):(insInner lt a j d).size=d.size:=by
 induction j generalizing d with
  |zero=>rfl
  |succ j b=>rw[insInner];split;rw[b,size_swp];rfl
theorem AI1(a b:Nat):∀ (k i:Nat) (d:Array (EL S)) (n:Nat),b-i=k->b<=d.size->d.size<4611686018427387904->d.size<many->k<n ->
  BD (YC S.z S.c S.t) n ((rep d),(a:Int),(b:Int),(i:Int),())=some (.inl ((rep (insOuter ltX a b i d)),())):=by
 intro k;induction k with
  |zero=>
   intro i d n g h f j l;obtain⟨n,rfl⟩:∃ k,n=k+1:=⟨n-1,by omega⟩
   have e:¬ i<b:=by omega
   rw[insOuter];simp only[BD,YC,A2,e,ASo,ASX]
  |succ k m=>
   intro i d n g h f j l;obtain⟨n,rfl⟩:∃ k,n=k+1:=⟨n-1,by omega⟩
   have e:i<b:=by omega
   have o:w64 ((i:Int)+1)=((i+1:Nat):Int):=by rw[BG (by omega)];omega
   rw[insOuter];simp only[BD,YC,A2,e,ASU,ASh,BR];rw[ANo a b i i d many (by omega) f (by omega)];simp only[o];exact m (i+1) _ n (by omega) (by rw[Ko];omega) (by rw[Ko];omega) (by rw[Ko];omega) (by omega)
theorem AI0(d:Array (EL S))(a b:Nat)(e:a<=b)(f:b<=d.size)(i:d.size<4294967296):(vu S.z S.c S.t) ((rep d),(a:Int),(b:Int),())=some ((rep (insertionSort ltX d a b)),()):=by
 have g:d.size<many:=by simp only[many];omega
 have h:w64 ((a:Int)+1)=((a+1:Nat):Int):=by rw[BG (by omega)];omega
 rw[ANp,Qw];simp only[h,BR];rw[AI1 a b (b-(a+1)) (a+1) d many rfl f (by omega) g (by omega)];rfl
end Go.Pev.Pl.SG
end
end
section
section
namespace Go.Pev.Pl.SG
open Go.Sort
variable {α β:Type} {S:SP α β}
theorem tN(hi first:Nat):∀ (k a:Nat) (d:Array (EL S)) (n:Nat),hi-a=k->a<=hi->first+hi<=d.size->d.size<4294967296->(hi=0\/a<hi)->k<n ->
  BD (Rz S.z S.c S.t) n ((rep d),(hi:Int),(first:Int),(a:Int),())=some (.inl ((rep (siftDown ltX hi first a d)),())) \/
  BD (Rz S.z S.c S.t) n ((rep d),(hi:Int),(first:Int),(a:Int),())=some (.inr (.inl ((rep (siftDown ltX hi first a d)),()))):=by
 intro k;induction k using Nat.strongRecOn with
  |_ k b=>
   intro a d n l m o p q r;obtain⟨n,rfl⟩:∃ k,n=k+1:=⟨n-1,by omega⟩
   rw[siftDown];simp (disch:=omega) only[BD,Rz,AAM,A5,wrap_add,Dq,A2];by_cases f:hi<=2*a+1;grind;have s:first+a<d.size:=by omega
   have u:first+(2*a+1)<d.size:=by omega
   simp only[f,ASo,ge_iff_le,ASX,dite_false];simp (disch:=omega) only[Bq,CT,Dp,Em];by_cases g:2*a+1+1<hi;have v:first+(2*a+2)<d.size:=by omega
   have h:2*a+1+1=2*a+2:=by omega
   have i:first+(2*a+1)+1=first+(2*a+2):=by omega
   have j:2*a+2<hi:=by omega
   simp only[h,i,j,ASU];simp (disch:=omega) only[Bq,CT,Dp,Em,Kg];cases w:ltX d[first+(2*a+1)]! d[first+(2*a+2)]!;simp only[Bool.and_false,ASR,ASX];cases e:ltX d[first+a]! d[first+(2*a+1)]!;simp;simp only[ASE,ASR,ASX];rw[Bq (by grind)];simp only[K_];exact b (hi-(2*a+1)) (by omega) (2*a+1) _ n rfl (by omega) (by rw[size_swp];omega) (by rw[size_swp];omega) (by omega) (by omega);simp only[Bool.and_true,ASh];cases e:ltX d[first+a]! d[first+(2*a+2)]!;simp;simp only[ASE,ASR,ASX,dite_true];rw[Bq (by grind)];simp only[K_];exact b (hi-(2*a+2)) (by omega) (2*a+2) _ n rfl (by omega) (by rw[size_swp];omega) (by rw[size_swp];omega) (by omega) (by omega);simp only[g,ASo,Bool.false_and,ASR,ASX,Kg];cases e:ltX d[first+a]! d[first+(2*a+1)]!;simp;simp only[ASE,ASR,ASX];rw[Bq (by grind)];simp only[K_];exact b (hi-(2*a+1)) (by omega) (2*a+1) _ n rfl (by omega) (by rw[size_swp];omega) (by rw[size_swp];omega) (by omega) (by omega)
theorem eh(d:Array (EL S))(a hi first:Nat)(b:first+hi<=d.size)(e:d.size<4294967296)(f:hi=0/\a=0\/a<hi):(WX S.z S.c S.t) ((rep d),(a:Int),(hi:Int),(first:Int),())=some ((rep (siftDown ltX hi first a d)),()):=by
 have g:d.size<many:=by simp only[many];omega
 rw[AGc,MJ];simp only[BR];rcases tN hi first (hi-a) a d many rfl (by omega) b e (by omega) (by omega)with h|h<;>rw[h]
theorem FY(lt:(EL S)->(EL S)->Bool)(hi first:Nat):∀ (k a:Nat) (d:Array (EL S)),hi-a=k->(siftDown lt hi first a d).size=d.size:=by
 intro k;induction k using Nat.strongRecOn with
  |_ k b=>intro a d c;rw[siftDown];split;rfl;split;split;rfl;split;rw[b (hi-(2*a+2)) (by omega) _ _ rfl,size_swp];rfl;split;rfl;rw[b (hi-(2*a+1)) (by omega) _ _ rfl,size_swp]
theorem qF(hi first:Nat):∀ (k:Nat) (d:Array (EL S)) (n:Nat),(hi=0/\k<=1\/k<=hi)->first+hi<=d.size->d.size<4294967296->k<n ->
  BD (Ss S.z S.c S.t) n ((rep d),(first:Int),(0:Int),(hi:Int),(k:Int)-1,())=some (.inl ((rep (heapBuild ltX hi first k d)),(first:Int),(0:Int),(hi:Int),())):=by
 intro k;induction k with
  |zero=>
   intro d n e a b f;obtain⟨n,rfl⟩:∃ k,n=k+1:=⟨n-1,by omega⟩
   rw[BD,Ss,BM,AR8 (by omega)];rfl
  |succ k g=>
   intro d n e a b f;obtain⟨n,rfl⟩:∃ k,n=k+1:=⟨n-1,by omega⟩
   have h:((k+1:Nat):Int)-1=(k:Int):=by omega
   rw[BD,Ss,h,BM,AR9 (by omega)];simp only[eh d k hi first a b (by omega)];rw[BG (by omega)];exact g _ n (by omega) (by rw[FY _ _ _ _ _ _ rfl];omega) (by rw[FY _ _ _ _ _ _ rfl];omega) (by omega)
theorem Nj(lt:(EL S)->(EL S)->Bool)(hi first:Nat):∀ (k:Nat) (d:Array (EL S)),(heapBuild lt hi first k d).size=d.size:=by
 intro k;induction k with
  |zero=>intro d;rfl
  |succ k a=>intro d;rw[heapBuild,a,FY _ _ _ _ _ _ rfl]
theorem ADX(first:Nat):∀ (k:Nat) (d:Array (EL S)) (n:Nat),first+k<=d.size->d.size<4294967296->k<n ->
  BD (Sr S.z S.c S.t) n ((rep d),(first:Int),(0:Int),(k:Int)-1,())=some (.inl ((rep (heapPop ltX first k d)),())):=by
 intro k;induction k with
  |zero=>
   intro d n a b e;obtain⟨n,rfl⟩:∃ k,n=k+1:=⟨n-1,by omega⟩
   rw[BD,Sr,BM,AR8 (by omega)];rfl
  |succ k f=>
   intro d n a b e;obtain⟨n,rfl⟩:∃ k,n=k+1:=⟨n-1,by omega⟩
   have g:((k+1:Nat):Int)-1=(k:Int):=by omega
   have h:first<d.size:=by omega
   have i:first+k<d.size:=by omega
   rw[BD,Sr,g,BM,AR9 (by omega)];simp (disch:=omega) only[wrap_add,Bq,CT,Kg];rw[Bq (by grind)];simp only[K_];have:=eh (swp d first (first+k)) 0 k first (by rw[size_swp];omega) (by rw[size_swp];omega) (by omega)
   simp only[Int.natCast_zero]at this;simp only[this];rw[BG (by omega)];exact f _ n (by rw[FY _ _ _ _ _ _ rfl,size_swp];omega) (by rw[FY _ _ _ _ _ _ rfl,size_swp];omega) (by omega)
theorem ADW(d:Array (EL S))(a b:Nat)(f:a<b)(i:b<=d.size)(g:d.size<4294967296):(ar S.z S.c S.t) ((rep d),(a:Int),(b:Int),())=some ((rep (heapSort ltX d a b)),()):=by
 have j:4294967296<many:=by simp only[many];omega
 rw[AJL,Mn];simp (disch:=omega) only[Ep,B1,AHG,BR];have e:(((b-a-1)/2:Nat):Int)=(((b-a-1)/2+1:Nat):Int)-1:=by omega
 rw[e,qF (b-a) a _ d many (by omega) (by omega) g (by omega)];have h:(((b-a-1:Nat)):Int)=((b-a:Nat):Int)-1:=by omega
 simp (disch:=omega) only[B1,h];rw[ADX a (b-a) _ many (by rw[Nj];omega) (by rw[Nj];omega) (by omega)];rfl
end Go.Pev.Pl.SG
end
section
namespace Go.Pev.Pl.SG
open Go.Sort
variable {α β:Type} {S:SP α β}
theorem ABW:∀ (k i j:Nat) (d:Array (EL S)) (n:Nat),j-i=k->(j<d.size)->d.size<4294967296->k<n ->
  BD (jI S.z S.c S.t) n ((rep d),(i:Int),(j:Int),())=some (.inl ((rep (reverseLoop i j d)),())):=by
 intro k;induction k using Nat.strongRecOn with
  |_ k b=>
   intro i j d n e a f g;obtain⟨n,rfl⟩:∃ k,n=k+1:=⟨n-1,by omega⟩
   rw[reverseLoop,BD,jI];simp only[A2];by_cases h:i<j;have hi:i<d.size:=by omega
   simp only[h,ASU,ASh,Bq a,Bq hi,CT hi,CT a,Kg];rw[Bq (by grind)];simp (disch:=omega) only[K_,A5,B1];exact b (j-1-(i+1)) (by omega) (i+1) (j-1) _ n rfl (by rw[size_swp];omega) (by rw[size_swp];omega) (by omega);grind
theorem AG6(d:Array (EL S))(a b:Nat)(e:a<b)(g:b<=d.size)(f:d.size<4294967296):(tg S.z S.c S.t) ((rep d),(a:Int),(b:Int),())=some ((rep (reverseRange d a b)),()):=by
 have h:4294967296<many:=by simp only[many];omega
 rw[AMY,QW];simp (disch:=omega) only[B1,BR];rw[ABW (b-1-a) a (b-1) d many rfl (by omega) f (by omega)];rfl
theorem FQ{d:Array (EL S)}{i j:Nat}(hi:i<d.size)(a:j<d.size):idx (Be (rep d) (A3 (i:Int)) (A_ (rep d) (A3 (j:Int)) S.z)) (j:Int)=some ((d.setIfInBounds i d[j]!)[j]!).val /\
  Be (Be (rep d) (A3 (i:Int)) (A_ (rep d) (A3 (j:Int)) S.z)) (A3 (j:Int)) (A_ (rep d) (A3 (i:Int)) S.z)=(rep (swp d i j)):=by rw[CT hi,CT a,Kg,Kg];exact⟨Bq (by grind),rfl⟩
theorem iz(step:List α×Int×Int×Int×Unit->Option ((List α×Int×Int×Int×Unit)⊕(List α×Int×Int×Int×Unit)⊕Unit))(p:(EL S)->Bool)(d:Array (EL S))(a j:Nat)(e:d.size<4294967296)(f:j<d.size)
  (h:∀ i:Nat,i<=d.size->step ((rep d),(a:Int),(i:Int),(j:Int),())=if i<=j/\p d[i]! then some (.inl ((rep d),(a:Int),((i+1:Nat):Int),(j:Int),()))else some (.inr (.inl ((rep d),(a:Int),(i:Int),(j:Int),())))) :
  ∀ (k i n:Nat),j+1-i=k->i<=d.size->k<n->BD step n ((rep d),(a:Int),(i:Int),(j:Int),())=some (.inl ((rep d),(a:Int),((scanUp p d j i:Nat):Int),(j:Int),())):=by
 intro k;induction k using Nat.strongRecOn with
  |_ k c=>
   intro i n g hi l;obtain⟨n,rfl⟩:∃ k,n=k+1:=⟨n-1,by omega⟩
   rw[scanUp,BD,h i hi];by_cases b:i<=j/\p d[i]! = true;rw[ASL b,ASL (by grind)];exact c (j+1-(i+1)) (by omega) (i+1) n rfl (by omega) (by omega);rw[ASH b,ASH (by grind)]
theorem T7(step:List α×Int×Int×Int×Unit->Option ((List α×Int×Int×Int×Unit)⊕(List α×Int×Int×Int×Unit)⊕Unit))(p:(EL S)->Bool)(d:Array (EL S))(a i:Nat)(hi:1<=i)
  (h:∀ j:Nat,j<d.size->step ((rep d),(a:Int),(i:Int),(j:Int),())=if i<=j/\p d[j]! then some (.inl ((rep d),(a:Int),(i:Int),((j-1:Nat):Int),()))else some (.inr (.inl ((rep d),(a:Int),(i:Int),(j:Int),())))) :
  ∀ (j n:Nat),j<d.size->j<n->BD step n ((rep d),(a:Int),(i:Int),(j:Int),())=some (.inl ((rep d),(a:Int),(i:Int),((scanDown p d i j:Nat):Int),())):=by
 intro j;induction j with
  |zero=>
   intro n b c;obtain⟨n,rfl⟩:∃ k,n=k+1:=⟨n-1,by omega⟩
   rw[BD,h 0 b,ASH (by omega)];rfl
  |succ j e=>
   intro n b c;obtain⟨n,rfl⟩:∃ k,n=k+1:=⟨n-1,by omega⟩
   rw[scanDown,BD,h (j+1) b];grind
section
variable (d:Array (EL S)) (a i j:Nat) (hs:d.size<4294967296) (ha:a<d.size) (hj:j<d.size)
include hs ha hj
theorem pT(hi:i<=d.size):(Z3 S.z S.c S.t) ((rep d),(a:Int),(i:Int),(j:Int),())=if i<=j/\(fun x=>ltX x d[a]!) d[i]! = true then some (.inl ((rep d),(a:Int),((i+1:Nat):Int),(j:Int),()))else some (.inr (.inl ((rep d),(a:Int),(i:Int),(j:Int),()))):=by
 rw[Z3];simp only[Dq];by_cases h:i<=j;have b:i<d.size:=by omega
 simp (disch:=omega) only[h,ASU,Bq,CT,Dp,Em,A5,AU4];cases ltX d[i]! d[a]!<;>simp;simp only[h,ASo,AU3,ASX]
theorem pR(hi:i<=d.size):(Z0 S.z S.c S.t) ((rep d),(a:Int),(i:Int),(j:Int),())=if i<=j/\(fun x=>ltX x d[a]!) d[i]! = true then some (.inl ((rep d),(a:Int),((i+1:Nat):Int),(j:Int),()))else some (.inr (.inl ((rep d),(a:Int),(i:Int),(j:Int),()))):=by
 rw[Z0];simp only[Dq];by_cases h:i<=j;have b:i<d.size:=by omega
 simp (disch:=omega) only[h,ASU,Bq,CT,Dp,Em,A5,AU4];cases ltX d[i]! d[a]!<;>simp;simp only[h,ASo,AU3,ASX]
theorem pS(hi:1<=i):(Z2 S.z S.c S.t) ((rep d),(a:Int),(i:Int),(j:Int),())=if i<=j/\(fun x => !ltX x d[a]!) d[j]! = true then some (.inl ((rep d),(a:Int),(i:Int),((j-1:Nat):Int),()))else some (.inr (.inl ((rep d),(a:Int),(i:Int),(j:Int),()))):=by rw[Z2];simp only[Dq];by_cases h:i<=j;simp (disch:=omega) only[h,ASU,Bq,CT,Dp,Em,B1,AU4];cases ltX d[j]! d[a]!<;>simp;simp only[h,ASo,AU3,ASX]
theorem pQ(hi:1<=i):(Zz S.z S.c S.t) ((rep d),(a:Int),(i:Int),(j:Int),())=if i<=j/\(fun x => !ltX x d[a]!) d[j]! = true then some (.inl ((rep d),(a:Int),(i:Int),((j-1:Nat):Int),()))else some (.inr (.inl ((rep d),(a:Int),(i:Int),(j:Int),()))):=by rw[Zz];simp only[Dq];by_cases h:i<=j;simp (disch:=omega) only[h,ASU,Bq,CT,Dp,Em,B1,AU4];cases ltX d[j]! d[a]!<;>simp;simp only[h,ASo,AU3,ASX]
theorem dI(hi:i<=d.size):(Qh S.z S.c S.t) ((rep d),(a:Int),(i:Int),(j:Int),())=if i<=j/\(fun x => !ltX d[a]! x) d[i]! = true then some (.inl ((rep d),(a:Int),((i+1:Nat):Int),(j:Int),()))else some (.inr (.inl ((rep d),(a:Int),(i:Int),(j:Int),()))):=by
 rw[Qh];simp only[Dq];by_cases h:i<=j;have b:i<d.size:=by omega
 simp (disch:=omega) only[h,ASU,Bq,CT,Dp,Em,A5,AU4];cases ltX d[a]! d[i]!<;>simp;simp only[h,ASo,AU3,ASX]
theorem dH(hi:1<=i):(Qg S.z S.c S.t) ((rep d),(a:Int),(i:Int),(j:Int),())=if i<=j/\(fun x=>ltX d[a]! x) d[j]! = true then some (.inl ((rep d),(a:Int),(i:Int),((j-1:Nat):Int),()))else some (.inr (.inl ((rep d),(a:Int),(i:Int),(j:Int),()))):=by rw[Qg];simp only[Dq];by_cases h:i<=j;simp (disch:=omega) only[h,ASU,Bq,CT,Dp,Em,B1,AU4];grind;grind
end
theorem Nm(p:(EL S)->Bool)(d:Array (EL S))(j i:Nat)(a:j<d.size)(hi:i<=d.size):scanUp p d j i<=d.size:=by
 suffices h:∀ (k i:Nat),j+1-i=k->i<=d.size->scanUp p d j i<=d.size from h _ i rfl hi
 intro k;induction k using Nat.strongRecOn with
  |_ k b=>intro i c hi;rw[scanUp];split;all_goals grind
theorem uo(a:Nat):∀ (k i j:Nat) (d:Array (EL S)) (n:Nat),j+1-i=k->a<d.size->1<=i->i<=d.size->j<d.size->d.size<4294967296->k<n ->
  BD (Z1 S.z S.c S.t) n ((rep d),(a:Int),(i:Int),(j:Int),())=some (.inl ((rep (partLoop ltX a i j d).2),(a:Int),(((partLoop ltX a i j d).1:Nat):Int),()))/\(partLoop ltX a i j d).1<=j/\(partLoop ltX a i j d).2.size=d.size:=by
 intro k;induction k using Nat.strongRecOn with
  |_ k ih=>
   intro i j d n hk ha hi hi' hj hs hn;have hm:4294967296<many:=by simp only[many];omega
   obtain⟨n,rfl⟩:∃ k,n=k+1:=⟨n-1,by omega⟩
   rw[partLoop_eq,BD,Z1];have u1:=scanUp_ge (fun x=>ltX x d[a]!) d j i;have u2:=Nm (fun x=>ltX x d[a]!) d j i hj hi';rw[BR,iz _ (fun x=>ltX x d[a]!) d a j hs hj (fun i h=>pR d a i j hs ha hj h) _ i many rfl hi' (by omega)];generalize scanUp (fun x=>ltX x d[a]!) d j i=i2 at *;have v1:=scanDown_le (fun x => !ltX x d[a]!) d i2 j;simp only[BR];rw[T7 _ (fun x => !ltX x d[a]!) d a i2 (by omega) (fun j h=>pQ d a i2 j hs ha h (by omega)) j many hj (by omega)];generalize scanDown (fun x => !ltX x d[a]!) d i2 j=j2 at *;simp only[A2];by_cases h:j2<i2;grind;have hi2:i2<d.size:=by omega
   have hj2:j2<d.size:=by omega
   simp only[h,ASo,gt_iff_lt,ASX,Bq hi2,Bq hj2,(FQ hi2 hj2).1,(FQ hi2 hj2).2];simp (disch:=omega) only[A5,B1];obtain⟨q1,q2,q3⟩:=ih (j2-1+1-(i2+1)) (by omega) (i2+1) (j2-1) (swp d i2 j2) n rfl (by rw[size_swp];omega) (by omega) (by rw[size_swp];omega) (by rw[size_swp];omega) (by rw[size_swp];omega) (by omega);exact⟨q1,by omega,by rw[q3,size_swp]⟩
theorem AB2(d:Array (EL S))(a b p:Nat)(ha:a<=p)(hp:p<b)(hb:b<=d.size)(hs:d.size<4294967296):
  (SH S.z S.c S.t) ((rep d),(a:Int),(b:Int),(p:Int),())=some ((rep (partition ltX d a b p).2.2),(((partition ltX d a b p).1:Nat):Int),(partition ltX d a b p).2.1,()):=by
 have hm:4294967296<many:=by simp only[many];omega
 have ha':a<d.size:=by omega
 have hp':p<d.size:=by omega
 rw[AIH,MP,partition];simp only[Bq ha',Bq hp',(FQ ha' hp').1,(FQ ha' hp').2];have hs':=hs;rw[<- size_swp d a p]at ha' hs' hb;generalize swp d a p=d at *;simp (disch:=omega) only[A5,B1,BR];have u1:=scanUp_ge (fun x=>ltX x d[a]!) d (b-1) (a+1);have u2:=Nm (fun x=>ltX x d[a]!) d (b-1) (a+1) (by omega) (by omega);rw[iz _ (fun x=>ltX x d[a]!) d a (b-1) hs' (by omega) (fun i h=>pT d a i (b-1) hs' ha' (by omega) h) _ (a+1) many rfl (by omega) (by omega)];generalize scanUp (fun x=>ltX x d[a]!) d (b-1) (a+1)=i2 at *;have v1:=scanDown_le (fun x => !ltX x d[a]!) d i2 (b-1);simp only[];rw[T7 _ (fun x => !ltX x d[a]!) d a i2 (by omega) (fun j h=>pS d a i2 j hs' ha' h (by omega)) (b-1) many (by omega) (by omega)];generalize scanDown (fun x => !ltX x d[a]!) d i2 (b-1)=j2 at *;simp only[A2];have hj2:j2<d.size:=by omega
 by_cases h:j2<i2;simp only[h,ASU,gt_iff_lt,ASh,Bq ha',Bq hj2,(FQ hj2 ha').1,(FQ hj2 ha').2];have hi2:i2<d.size:=by omega
 simp only[h,ASo,gt_iff_lt,ASX,Bq hi2,Bq hj2,(FQ hi2 hj2).1,(FQ hi2 hj2).2];simp (disch:=omega) only[A5,B1];obtain⟨q1,q2,q3⟩:=uo a (j2-1+1-(i2+1)) (i2+1) (j2-1) (swp d i2 j2) many rfl (by rw[size_swp];omega) (by omega) (by rw[size_swp];omega) (by rw[size_swp];omega) (by rw[size_swp];omega) (by omega);simp only[q1];rw[size_swp]at q3;generalize partLoop ltX a (i2+1) (j2-1) (swp d i2 j2)=r at *;have h1:r.1<r.2.size:=by omega
 have h2:a<r.2.size:=by omega
 simp only[Bq h1,Bq h2,(FQ h1 h2).1,(FQ h1 h2).2]
theorem jh(a:Nat):∀ (k i j:Nat) (d:Array (EL S)) (n:Nat),j+1-i=k->a<d.size->1<=i->i<=d.size->j<d.size->d.size<4294967296->k<n ->
  BD (Qi S.z S.c S.t) n ((rep d),(a:Int),(i:Int),(j:Int),())=some (.inl ((rep (partEqLoop ltX a i j d).2),(((partEqLoop ltX a i j d).1:Nat):Int),())):=by
 intro k;induction k using Nat.strongRecOn with
  |_ k ih=>
   intro i j d n hk ha hi hi' hj hs hn;have hm:4294967296<many:=by simp only[many];omega
   obtain⟨n,rfl⟩:∃ k,n=k+1:=⟨n-1,by omega⟩
   rw[partEqLoop_eq,BD,Qi];have u1:=scanUp_ge (fun x => !ltX d[a]! x) d j i;have u2:=Nm (fun x => !ltX d[a]! x) d j i hj hi';rw[BR,iz _ (fun x => !ltX d[a]! x) d a j hs hj (fun i h=>dI d a i j hs ha hj h) _ i many rfl hi' (by omega)];generalize scanUp (fun x => !ltX d[a]! x) d j i=i2 at *;have v1:=scanDown_le (fun x=>ltX d[a]! x) d i2 j;simp only[BR];rw[T7 _ (fun x=>ltX d[a]! x) d a i2 (by omega) (fun j h=>dH d a i2 j hs ha h (by omega)) j many hj (by omega)];generalize scanDown (fun x=>ltX d[a]! x) d i2 j=j2 at *;simp only[A2];by_cases h:j2<i2;grind;have hi2:i2<d.size:=by omega
   have hj2:j2<d.size:=by omega
   simp only[h,ASo,gt_iff_lt,ASX,Bq hi2,Bq hj2,(FQ hi2 hj2).1,(FQ hi2 hj2).2];simp (disch:=omega) only[A5,B1];exact ih (j2-1+1-(i2+1)) (by omega) (i2+1) (j2-1) (swp d i2 j2) n rfl (by rw[size_swp];omega) (by omega) (by rw[size_swp];omega) (by rw[size_swp];omega) (by rw[size_swp];omega) (by omega)
theorem pU(d:Array (EL S))(a b p:Nat)(ha:a<=p)(hp:p<b)(hb:b<=d.size)(hs:d.size<4294967296):
  (MQ S.z S.c S.t) ((rep d),(a:Int),(b:Int),(p:Int),())=some ((rep (partitionEqual ltX d a b p).2),(((partitionEqual ltX d a b p).1:Nat):Int),()):=by
 have hm:4294967296<many:=by simp only[many];omega
 have ha':a<d.size:=by omega
 have hp':p<d.size:=by omega
 rw[vA,HA,partitionEqual];simp only[Bq ha',Bq hp',(FQ ha' hp').1,(FQ ha' hp').2];have hs':=hs;rw[<- size_swp d a p]at ha' hs' hb;generalize swp d a p=d at *;simp (disch:=omega) only[A5,B1,BR];rw[jh a _ (a+1) (b-1) d many rfl ha' (by omega) (by omega) (by omega) hs' (by omega)]
end Go.Pev.Pl.SG
end
section
namespace Go.Pev.Pl.SG
open Go.Sort
variable {α β:Type} {S:SP α β}
theorem R3(d:Array (EL S))(b:Nat):∀ (k i:Nat),b-i=k->i<=b->i<=scanSorted ltX d b i/\scanSorted ltX d b i<=b:=by
 intro k;induction k using Nat.strongRecOn with
  |_ k a=>intro i c hi;rw[scanSorted];split;all_goals grind
theorem dE(d:Array (EL S))(a b s:Nat)(f:b<=d.size)(g:d.size<4294967296):∀ (k i n:Nat),b-i=k->1<=i->i<=b->k<n ->
  BD (Ny S.z S.c S.t) n ((rep d),(a:Int),(b:Int),(i:Int),(s:Int),())=some (.inl ((rep d),(a:Int),(b:Int),((scanSorted ltX d b i:Nat):Int),(s:Int),())):=by
 intro k;induction k using Nat.strongRecOn with
  |_ k e=>
   intro i n j l hi m;obtain⟨n,rfl⟩:∃ k,n=k+1:=⟨n-1,by omega⟩
   rw[scanSorted,BD,Ny];simp only[A2];by_cases h:i<b;have o:i<d.size:=by omega
   have p:i-1<d.size:=by omega
   simp (disch:=omega) only[h,ASU,B1,A5,Bq,CT,Dp,Em,Bool.true_and];cases q:ltX d[i]! d[i-1]!;simp only[ASf,ASh];exact e (b-(i+1)) (by omega) (i+1) n rfl (by omega) (by omega) (by omega);simp;grind
theorem dG(a b i s:Nat):∀ (j:Nat) (d:Array (EL S)) (n:Nat),j<d.size->d.size<4294967296->j<n ->
  BD (KR S.z S.c S.t) n ((rep d),(a:Int),(b:Int),(i:Int),(s:Int),(j:Int),())=some (.inl ((rep (shiftDown ltX j d)),(a:Int),(b:Int),(i:Int),(s:Int),())):=by
 intro j;induction j with
  |zero=>
   intro d n f h l;obtain⟨n,rfl⟩:∃ k,n=k+1:=⟨n-1,by omega⟩
   rw[BD,KR,BM,AR8 (by omega)];rfl
  |succ j m=>
   intro d n f h l;obtain⟨n,rfl⟩:∃ k,n=k+1:=⟨n-1,by omega⟩
   have e:j<d.size:=by omega
   rw[shiftDown,BD,KR,BM,AR9 (by omega)];simp (disch:=omega) only[B1,Nat.add_sub_cancel,Bq,CT,Dp,Em];cases o:ltX d[j+1]! d[j]!;simp;have g:=FQ f e;simp only[CT f,CT e]at g;simp only[ASE,ASR,ASX,g];exact m _ n (by rw[size_swp];omega) (by rw[size_swp];omega) (by omega)
theorem Wk(a b i s:Nat):∀ (k j:Nat) (d:Array (EL S)) (n:Nat),b-j=k->1<=j->b<=d.size->d.size<4294967296->k<n ->
  BD (KQ S.z S.c S.t) n ((rep d),(a:Int),(b:Int),(i:Int),(s:Int),(j:Int),())=some (.inl ((rep (shiftUp ltX b j d)),(a:Int),(b:Int),(i:Int),(s:Int),())):=by
 intro k;induction k using Nat.strongRecOn with
  |_ k l=>
   intro j d n m o p q r;obtain⟨n,rfl⟩:∃ k,n=k+1:=⟨n-1,by omega⟩
   rw[shiftUp,BD,KQ];simp only[A2];by_cases h:j<b;have e:j<d.size:=by omega
   have f:j-1<d.size:=by omega
   simp (disch:=omega) only[h,ASU,ASh,B1,A5,Bq,CT,Dp,Em];cases u:ltX d[j]! d[j-1]!;simp;have g:=FQ e f;simp only[CT e,CT f]at g;simp only[ASE,ASR,ASX,g];exact l (b-(j+1)) (by omega) (j+1) _ n rfl (by omega) (by rw[size_swp];omega) (by rw[size_swp];omega) (by omega);grind
theorem Y':∀ (j:Nat) (d:Array (EL S)),(shiftDown ltX j d).size=d.size:=by
 intro j;induction j with
  |zero=>intro d;rfl
  |succ j a=>intro d;rw[shiftDown];split;rfl;rw[a,size_swp]
theorem Ie(b:Nat):∀ (k j:Nat) (d:Array (EL S)),b-j=k->(shiftUp ltX b j d).size=d.size:=by
 intro k;induction k using Nat.strongRecOn with
  |_ k a=>intro j d c;rw[shiftUp];split;split;rfl;rw[a (b-(j+1)) (by omega) (j+1) _ rfl,size_swp];rfl
theorem dF(a b:Nat)(hab:a<b):∀ (k i s:Nat) (d:Array (EL S)) (n:Nat),s+k=5->a+1<=i->i<=b->b<=d.size->d.size<4294967296->k<n ->
  BD (Ev S.z S.c S.t) n ((rep d),(a:Int),(b:Int),(i:Int),(s:Int),())=some (.inl ((rep (partialIns ltX a b k i d).1),(partialIns ltX a b k i d).2,())) \/
  ((partialIns ltX a b k i d).2=false/\BD (Ev S.z S.c S.t) n ((rep d),(a:Int),(b:Int),(i:Int),(s:Int),())=some (.inr (.inl ((rep (partialIns ltX a b k i d).1),())))):=by
 intro k;induction k with
  |zero=>
   intro i s d n hk h1 hi hb hs hn;obtain⟨n,rfl⟩:∃ k,n=k+1:=⟨n-1,by omega⟩
   rw[BD,Ev,BC,AR8 (by omega)];exact .inr ⟨rfl,rfl⟩
  |succ k ih=>
   intro i s d n hk h1 hi hb hs hn;have hm:4294967296<many:=by simp only[many];omega
   have es:w64 ((s:Int)+1)=((s+1:Nat):Int):=A5 (by omega);obtain⟨n,rfl⟩:∃ k,n=k+1:=⟨n-1,by omega⟩
   rw[BD,Ev,BC,AR9 (by omega),partialIns];simp only[BR,dE d a b s hb hs (b-i) i many rfl (by omega) hi (by omega)];have hsc:=R3 d b _ i rfl hi;generalize scanSorted ltX d b i=i2 at *;simp only[kG];by_cases h2:i2=b;grind;simp (disch:=omega) only[h2,ASo,ASX,Ep,BC,BM];by_cases h3:b-a<50;grind;have i0:i2<d.size:=by omega
   have i1:i2-1<d.size:=by omega
   rw[ASH h3,AR8 (by omega)];simp (disch:=omega) only[B1,A5,Bq i0,Bq i1,(FQ i0 i1).1,(FQ i0 i1).2];have hsz:=size_swp d i2 (i2-1);generalize swp d i2 (i2-1)=d2 at *;by_cases h4:i2-a≥2;rw[ASL h4,AR9 (show(2:Int)<=((i2-a:Nat):Int) by omega)];simp only[dG a b i2 s (i2-1) d2 many (by omega) (by omega) (by omega)];have hsz2:=Y' (i2-1) d2;generalize shiftDown ltX (i2-1) d2=d3 at *;simp (disch:=omega) only[Ep,A5];by_cases h5:b-i2≥2;rw[ASL h5,AR9 (show(2:Int)<=((b-i2:Nat):Int) by omega)];simp only[Wk a b i2 s _ (i2+1) d3 many rfl (by omega) (by omega) (by omega) (by omega)];simp only[es];exact ih i2 (s+1) (shiftUp ltX b (i2+1) d3) n (by omega) (by omega) (by omega) (by rw[Ie b (b-(i2+1)) (i2+1) _ rfl];omega) (by rw[Ie b (b-(i2+1)) (i2+1) _ rfl];omega) (by omega);rw[ASH h5,AR8 (show ¬ (2:Int)<=((b-i2:Nat):Int) by omega)];simp only[es];exact ih i2 (s+1) d3 n (by omega) (by omega) (by omega) (by omega) (by omega) (by omega);rw[ASH h4,AR8 (show ¬ (2:Int)<=((i2-a:Nat):Int) by omega)];by_cases h5:b-i2≥2;rw[ASL h5,AR9 (show(2:Int)<=((b-i2:Nat):Int) by omega)];simp only[Wk a b i2 s _ (i2+1) d2 many rfl (by omega) (by omega) (by omega) (by omega)];simp only[es];exact ih i2 (s+1) (shiftUp ltX b (i2+1) d2) n (by omega) (by omega) (by omega) (by rw[Ie b (b-(i2+1)) (i2+1) _ rfl];omega) (by rw[Ie b (b-(i2+1)) (i2+1) _ rfl];omega) (by omega);omega
theorem jg(d:Array (EL S))(a b:Nat)(e:a<b)(g:b<=d.size)(i:d.size<4294967296):
  (JY S.z S.c S.t) ((rep d),(a:Int),(b:Int),())=some ((rep (partialInsertionSort ltX d a b).1),(partialInsertionSort ltX d a b).2,()):=by
 have k:4294967296<many:=by simp only[many];omega
 rw[pH,Fu,partialInsertionSort];simp (disch:=omega) only[A5,BR];have h:=dF a b e 5 (a+1) 0 d many rfl (ASG _) (by omega) g i (by omega);rcases h with h|⟨j,h⟩
 have f:BD (Ev S.z S.c S.t) many ((rep d),(a:Int),(b:Int),((a+1:Nat):Int),(0:Int),())=_:=h;rw[f];have f:BD (Ev S.z S.c S.t) many ((rep d),(a:Int),(b:Int),((a+1:Nat):Int),(0:Int),())=_:=h;rw[f,j]
theorem N1(d:Array (EL S))(a b:Nat)(s:Int)(e:a<d.size)(f:b<d.size):
  ∃ g p q,(Ig S.z S.c S.t) ((rep d),(a:Int),(b:Int),s,())=some ((rep d),g,((p:Nat):Int),((q:Nat):Int),())/\(p=a/\q=b\/p=b/\q=a):=by rw[vI,HC];simp only[Bq e,Bq f,CT e,CT f,Dp,Em];cases ltX d[b]! d[a]!;all_goals grind
theorem N7(d:Array (EL S))(a b c:Nat)(s:Int)(e:a<d.size)(f:b<d.size)(g:c<d.size):
  ∃ h p,(Ii S.z S.c S.t) ((rep d),(a:Int),(b:Int),(c:Int),s,())=some ((rep d),h,((p:Nat):Int),())/\(p=a\/p=b\/p=c):=by rw[vY,HF];obtain⟨i,j,k,l,q⟩:=N1 d a b s e f;simp only[l];obtain⟨m,n,r,o,u⟩:=N1 d k c i (by omega) g;simp only[o];obtain⟨v,w,x,y,A⟩:=N1 d j n m (by omega) (by omega);grind
theorem N8(d:Array (EL S))(a:Nat)(s:Int)(b:1<=a)(e:a+1<d.size)(g:d.size<4294967296):
  ∃ f p,(Ij S.z S.c S.t) ((rep d),(a:Int),s,())=some ((rep d),f,((p:Nat):Int),())/\a<=p+1/\p<=a+1:=by rw[vd,HG];simp (disch:=omega) only[B1,A5];obtain⟨h,i,j,b⟩:=N7 d (a-1) a (a+1) s (by omega) (by omega) e;grind
theorem uH(d:Array (EL S))(a b:Nat)(i:a+8<=b)(w:b<=d.size)(e:d.size<4294967296):
  ∃ p h,(Qa S.z S.c S.t) ((rep d),(a:Int),(b:Int),())=some ((rep d),((p:Nat):Int),h,())/\a<=p/\p<b:=by
 rw[ABl,JV];simp (disch:=omega) only[Ep,yO,AAL,Oy,AAK,wrap_add,BM];rw[AR9 (show(8:Int)<=((b-a:Nat):Int) by omega)];simp only[];by_cases h:50<=b-a;rw[AR9 (show(50:Int)<=((b-a:Nat):Int) by omega)];simp only[];obtain⟨j,k,l,x⟩:=N8 d (a+(b-a)/4*1) 0 (by omega) (by omega) e;simp only[l];obtain⟨m,n,o,y⟩:=N8 d (a+(b-a)/4*2) j (by omega) (by omega) e;simp only[o];obtain⟨q,r,s,A⟩:=N8 d (a+(b-a)/4*3) m (by omega) (by omega) e;simp only[s];obtain⟨f,u,g,v⟩:=N7 d k n r q (by omega) (by omega) (by omega);grind
 ·rw[AR8 (show ¬ (50:Int)<=((b-a:Nat):Int) by omega)];simp only[];obtain⟨f,u,g,v⟩:=N7 d (a+(b-a)/4*1) (a+(b-a)/4*2) (a+(b-a)/4*3) 0 (by omega) (by omega) (by omega);simp only[g];cases ieq f 0;·cases ieq f 12;all_goals grind
  grind
end Go.Pev.Pl.SG
end
section
namespace Go.Pev.Pl
open Go.Sort
theorem ADF:(List.range 256).all (fun k=>match IP[k]? with
  |some v=>decide (0<=v)&&(decide (v<=8)&&decide (2 ^ v.toNat<=max 1 (2*k)))
  |none=>false)=true:=by decide +kernel
theorem ADG{k:Nat}(h:k<256):∃ v:Nat,idx IP (k:Int)=some (v:Int)/\v<=8/\2 ^ v<=max 1 (2*k):=by
 have:=ASd.1 ADF k (ASb.2 h);rw[idx_eq,aa,ASH (by omega),ASv];cases e:IP[k]? with
  |none=>grind
  |some v=>rw[e]at this;simp only[ASB,ASC]at this;exact⟨v.toNat,by grind,by omega,this.2.2⟩
theorem Xv(n s:Nat)(h:s<=64):shr? .u64 (n:Int) (s:Int)=some ((n/2 ^ s:Nat):Int):=by rw[ZA,tO,ASH (by omega),ASv,show min s (IntKind.bits .u64)=s from ATq h,Int.fdiv_eq_ediv_of_nonneg _ (Int.pow_nonneg (by omega))];rfl
theorem u8_in{n:Int}(h:0<=n/\n<=255):IntKind.wrap .u8 n=n:=IntWalk.u8_in n h
theorem u64_in{n:Int}(h:0<=n/\n<=18446744073709551615):IntKind.wrap .u64 n=n:=IntWalk.u64_in n h
theorem ADH(n:Nat)(k:n<4294967296):∃ v:Nat,zJ ((n:Int),())=some ((v:Int),())/\v<=32/\2 ^ v<=max 1 (2*n):=by
 rw[py,j4,BM,AR8 (by omega)];simp only[BM];have a:∀ (s m:Nat),s<=24->m<256->m*2 ^ s<=n->(s=0\/1<=m)->∃ v:Nat,idx IP (m:Int)=some (v:Int)/\v<=8/\2 ^ (s+v)<=max 1 (2*n):=by
  intro s m l i j d;obtain⟨v,e,c,b⟩:=ADG i;refine⟨v,e,c,?_⟩;rcases d with rfl|d;grind;have f:2 ^ v<=2*m:=by omega
  have o:2 ^ (s+v)<=2*(m*2 ^ s):=by rw[Nat.pow_add,Nat.mul_comm (2 ^ s),<- Nat.mul_assoc];exact ASw _ f
  omega
 by_cases d:65536<=n;rw[AR9 (show(65536:Int)<=(n:Int) by omega)];have g:shr? .u64 (n:Int) 16=some ((n/65536:Nat):Int):=Xv n 16 (by omega);simp only[g];by_cases f:256<=n/65536;rw[AR9 (show(256:Int)<=((n/65536:Nat):Int) by omega)];have h:shr? .u64 ((n/65536:Nat):Int) 8=some ((n/65536/256:Nat):Int):=Xv _ 8 (by omega);obtain⟨v,e,c,b⟩:=a 24 (n/65536/256) (by omega) (by omega) (by omega) (by omega);simp only[h];rw[u8_in (by omega)];simp only[e];refine⟨24+v,?_,by omega,b⟩;rw[BG (n:=0+16) (by omega),BG (n:=(0:Int)+16+8) (by omega),BG (n:=(v:Int)) (by omega),BG (by omega)];congr 2;rw[AR8 (show ¬ (256:Int)<=((n/65536:Nat):Int) by omega)];obtain⟨v,e,c,b⟩:=a 16 (n/65536) (by omega) (by omega) (by omega) (by omega);simp only[];rw[u8_in (by omega)];simp only[e];refine⟨16+v,?_,by omega,b⟩;rw[BG (n:=0+16) (by omega),BG (n:=(v:Int)) (by omega),BG (by omega)];congr 2;rw[AR8 (show ¬ (65536:Int)<=(n:Int) by omega)];by_cases f:256<=n;have h:shr? .u64 (n:Int) 8=some ((n/256:Nat):Int):=Xv n 8 (by omega);obtain⟨v,e,c,b⟩:=a 8 (n/256) (by omega) (by omega) (by omega) (by omega);simp only[];rw[AR9 (show(256:Int)<=(n:Int) by omega)];simp only[h];rw[u8_in (by omega)];simp only[e];refine⟨8+v,?_,by omega,b⟩;rw[BG (n:=0+8) (by omega),BG (n:=(v:Int)) (by omega),BG (by omega)];congr 2;obtain⟨v,e,c,b⟩:=a 0 n (by omega) (by omega) (by omega) (by omega);simp only[];rw[AR8 (show ¬ (256:Int)<=(n:Int) by omega)];simp only[];rw[u8_in (by omega)];simp only[e];refine⟨0+v,?_,by omega,b⟩;rw[BG (n:=(v:Int)) (by omega),BG (by omega)];congr 2
theorem XG(n:Nat)(a:n<4294967296):∃ v:Nat,bitsLen ((n:Int),())=some ((v:Int),())/\v<=32/\2 ^ v<=max 1 (2*n):=by rw[cO,WE];obtain⟨v,e,h⟩:=ADH n a;grind
theorem pc(n:Nat)(b:1<=n)(c:n<4294967296):∃ m:Nat,X6 ((n:Int),())=some ((m:Int),())/\1<=m/\m<=2*n:=by
 rw[aB,UR,u64_in (by omega)];obtain⟨v,e,a,d⟩:=XG n c;simp only[e];have f:shl? .u64 (1:Int) (v:Int)=some ((2 ^ v:Nat):Int):=by
  rw[QN,il,ASH (by omega),ASv,show min v (IntKind.bits .u64)=v from ATq (by show v<=64;omega),Int.one_mul];have:2 ^ v<=2 ^ 32:=AUq (by omega) a;have b:1<=2 ^ v:=Nat.one_le_two_pow;have e:((2:Int) ^ v)=((2 ^ v:Nat):Int):=by simp
  rw[e,u64_in (by omega)]
 grind
theorem mi(r:Int):∃ a y,xorNext (r,())=some (a,y,()):=by rw[YS,Tf,QN,il,ASH (by omega)];simp only[];rw[ZA,tO,ASH (by omega)];simp only[];rw[QN,il,ASH (by omega)];simp
theorem AIR(y:Int)(m:Nat)(b:1<=m)(c:m<18446744073709551616):∃ o:Nat,IntKind.wrap .u64 ((BitVec.ofInt (IntKind.bits .u64) y &&& BitVec.ofInt (IntKind.bits .u64) (IntKind.wrap .u64 ((m:Int)-1))).toNat)=(o:Int)/\o<m:=by
 rw[u64_in (n:=(m:Int)-1) (by omega),show(m:Int)-1=((m-1:Nat):Int) by omega,BitVec.toNat_and];have a:(BitVec.ofInt (IntKind.bits .u64) ((m-1:Nat):Int)).toNat=m-1:=by rw[AUR,AUf];exact ATu (by show m-1<18446744073709551616;omega)
 rw[a];have d:(BitVec.ofInt (IntKind.bits .u64) y).toNat &&& (m-1)<=m-1:=Nat.and_le_right;exact⟨_,u64_in (by omega),by omega⟩
end Go.Pev.Pl
end
section
namespace Go.Pev.Pl.SG
open Go.Sort
variable {α β:Type} {S:SP α β}
theorem re(a b:Nat)(m:Nat)(E:a+8<=b)(j:1<=m)(F:m<=2*(b-a)):∀ (k t:Nat) (d:Array (EL S)) (r:Int) (n:Nat),t+k=3->b<=d.size->d.size<4294967296->k<n ->
  ∃ f:Array (EL S),BD (Lo S.z S.c S.t) n ((rep d),(a:Int),((b-a:Nat):Int),r,(m:Int),((a+(b-a)/4*2-1+t:Nat):Int),())=some (.inl ((rep f),()))/\PermIn a b d f:=by
 intro k;induction k with
  |zero=>
   intro t d r n v s w x;obtain⟨n,rfl⟩:∃ k,n=k+1:=⟨n-1,by omega⟩
   rw[BD,Lo];simp (disch:=omega) only[yO,Oy,wrap_add,A5,Dq];rw[AR8 (by omega)];exact⟨d,rfl,permIn_refl d a b⟩
  |succ k A=>
   intro t d r n v s w x;obtain⟨n,rfl⟩:∃ k,n=k+1:=⟨n-1,by omega⟩
   rw[BD,Lo];simp (disch:=omega) only[yO,Oy,wrap_add,A5,Dq];rw[AR9 (show a+(b-a)/4*2-1+t<=a+(b-a)/4*2+1 by omega)];obtain⟨u,y,e⟩:=mi r;obtain⟨o,B,G⟩:=AIR y m j (by omega);simp only[e,B];rw[BG (n:=(o:Int)) (by omega)];simp only[Dq];have i:a+(b-a)/4*2-1+t<d.size:=by omega
   have fin:∀ q:Nat,a<=q->q<b->∃ f:Array (EL S),BD (Lo S.z S.c S.t) n ((rep (swp d (a+(b-a)/4*2-1+t) q)),(a:Int),((b-a:Nat):Int),u,(m:Int),((a+(b-a)/4*2-1+t+1:Nat):Int),())=some (.inl ((rep f),()))/\PermIn a b d f:=by intro q l p;obtain⟨f,C,D⟩:=A (t+1) (swp d (a+(b-a)/4*2-1+t) q) u n (by omega) (by rw[size_swp];omega) (by rw[size_swp];omega) (by omega);exact⟨f,C,permIn_trans _ _ _ a b (swp_permIn d a b _ q (by omega) (by omega) l p s) D⟩
   by_cases h:b-a<=o;have g:a+(o-(b-a))<d.size:=by omega
   simp (disch:=omega) only[h,ASU,Ep,wrap_add,A5,Bq i,Bq g,(FQ i g).1,(FQ i g).2];exact fin _ (by omega) (by omega);have g:a+o<d.size:=by omega
   simp (disch:=omega) only[h,ASo,Ep,wrap_add,A5,Bq i,Bq g,(FQ i g).1,(FQ i g).2];exact fin _ (by omega) (by omega)
theorem xa(d:Array (EL S))(a b:Nat)(g:a<=b)(i:b<=d.size)(j:d.size<4294967296):
  ∃ f:Array (EL S),(RQ S.z S.c S.t) ((rep d),(a:Int),(b:Int),())=some ((rep f),())/\PermIn a b d f:=by
 have o:4294967296<many:=by simp only[many];omega
 rw[AE5,J3];simp (disch:=omega) only[Ep,BM];by_cases h:8<=b-a;rw[AR9 (show(8:Int)<=((b-a:Nat):Int) by omega)];obtain⟨m,e,k,l⟩:=pc (b-a) (by omega) (by omega);simp only[e];rw[u64_in (n:=((b-a:Nat):Int)) (by omega)];simp (disch:=omega) only[yO,Oy,wrap_add,B1,BR];obtain⟨f,p,q⟩:=re a b m (by omega) k l 3 0 d ((b-a:Nat):Int) many rfl i j (by omega);grind;rw[AR8 (show ¬ (8:Int)<=((b-a:Nat):Int) by omega)];exact⟨d,rfl,permIn_refl d a b⟩
end Go.Pev.Pl.SG
end
section
namespace Go.Pev.Pl.SG
open Go.Sort
variable {α β:Type} {S:SP α β}
abbrev ARn(α:Type):=List α×Int×Int×Int×Bool×Bool×Unit
abbrev z5(α:Type):=ARn α⊕(List α×Unit)⊕Unit
def cZ(d:Array (EL S))(a b:Nat):z5 α->Prop
 |.inl (xs,x,y,l,_,_,_)=>∃ (e:Array (EL S)) (i j:Nat),xs=(rep e)/\x=(i:Int)/\y=(j:Int)/\0<=l/\l<=100/\i<=j/\j<=e.size/\e.size=d.size/\j-i<b-a/\Below ltX i j e /\
   ∀ R,PermIn i j e R->SortedIn ltX i j R->PermIn a b d R/\SortedIn ltX a b R
 |.inr (.inl (xs,_))=>∃ R:Array (EL S),xs=(rep R)/\PermIn a b d R/\SortedIn ltX a b R
 |.inr (.inr _)=>False
def Gu(self:(List α×Int×Int×Int×Unit)->Option ((List α×Unit)))(m:Nat):Prop:=
 ∀ (d:Array (EL S)) (a b:Nat) (l:Int),a<=b->b<=d.size->d.size<4294967296->0<=l->l<=100->Below ltX a b d->2*(b-a)<m ->
  ∃ R:Array (EL S),self ((rep d),(a:Int),(b:Int),l,())=some ((rep R),())/\PermIn a b d R/\SortedIn ltX a b R
section
variable {self:(List α×Int×Int×Int×Unit)->Option ((List α×Unit))} {d:Array (EL S)} {a b:Nat} {l:Int}
theorem oU(f:Gu (S:=S) self (b-a))(G:b<=d.size)(H:d.size<4294967296)(j:0<=l/\l<=100)
  {d3:Array (EL S)} {p:Nat} (q:PermIn a b d d3) (I:Below ltX a b d3) (r:a<=p) (s:p<b) :
  ∃ o,(match(SH S.z S.c S.t) ((rep d3),(a:Int),(b:Int),(p:Int),())with
  |none=>none
  |some (y20,y21,y22,_)=>match quo? .i64 (w64 ((b:Int)-(a:Int))) (8:Int)with
   |none=>none
   |some u=>match(ilt (w64 (y21-(a:Int))) (w64 ((b:Int)-y21)))with
    |true=>match self (y20,(a:Int),y21,l,())with
     |none=>none
     |some (y24,_)=>some ((.inl (y24,(w64 (y21+(1:Int))),(b:Int),l,(ile u (w64 (y21-(a:Int)))),y22,())):z5 α)
    |false=>match self (y20,(w64 (y21+(1:Int))),(b:Int),l,())with
     |none=>none
     |some (y25,_)=>some (.inl (y25,(a:Int),y21,l,(ile u (w64 ((b:Int)-y21))),y22,())))=some o/\cZ d a b o:=by
 have F:b<=d3.size:=by rw[q.1];exact G
 have J:d3.size<4294967296:=by rw[q.1];exact H
 rw[AB2 d3 a b p r s F J];rcases K:partition ltX d3 a b p with⟨mid,O,w⟩
 obtain⟨M,P,v,x,y,k,i⟩:=round_part AGC (partition_holds _) r s F I K;simp (disch:=omega) only[Ep,A5,ARR,A2];have N:b<=w.size:=by omega
 by_cases h:mid-a<b-mid;obtain⟨L,e,m,A⟩:=f w a mid l M (by omega) (by omega) j.1 j.2 x (by omega);simp only[h,ASU,e];obtain⟨n,g⟩:=k _ m A;refine⟨_,rfl,L,mid+1,b,rfl,rfl,rfl,j.1,j.2,by omega,by rw[m.1];exact N,by rw[m.1,v,q.1],by omega,n,fun R B C => ?_⟩;obtain⟨D,E⟩:=g R B C;exact⟨permIn_trans _ _ _ a b q D,E⟩;obtain⟨L,e,m,A⟩:=f w (mid+1) b l (by omega) (by omega) (by omega) j.1 j.2 y (by omega);simp only[h,ASo,e];obtain⟨n,g⟩:=i _ m A;refine⟨_,rfl,L,a,mid,rfl,rfl,rfl,j.1,j.2,by omega,by rw[m.1];omega,by rw[m.1,v,q.1],by omega,n,fun R B C => ?_⟩;obtain⟨D,E⟩:=g R B C;exact⟨permIn_trans _ _ _ a b q D,E⟩
theorem SF(e:Gu (S:=S) self (b-a))(k:b<=d.size)(m:d.size<4294967296)(j:0<=l/\l<=100)
  {d3:Array (EL S)} {p:Nat} (u wp:Bool) (h:PermIn a b d d3) (n:Below ltX a b d3) (f:a<=p) (g:p<b) :
  ∃ o,(UK S.z S.c S.t) self (rep d3) (a:Int) (b:Int) (p:Int) l u wp=some o/\cZ d a b o:=by
 have s:b<=d3.size:=by rw[h.1];exact k
 have v:d3.size<4294967296:=by rw[h.1];exact m
 rw[UK,BC];by_cases w:0<a;rw[AR9 (by omega)];have H:a-1<d3.size:=by omega
 have I:p<d3.size:=by omega
 simp (disch:=omega) only[B1,Bq,CT,Dp,Em];cases x:ltX d3[a-1]! d3[p]!;simp only[ASf];rw[pU d3 a b p f g s v];rcases y:partitionEqual ltX d3 a b p with⟨mid,A⟩
 obtain⟨B,C,q,r,i⟩:=round_eq AGC (partitionEqual_holds _) w f g s n x y;refine⟨_,rfl,A,mid,b,rfl,rfl,rfl,j.1,j.2,by omega,by omega,by rw[q,h.1],by omega,r,fun R D E => ?_⟩;obtain⟨F,G⟩:=i R D E;exact⟨permIn_trans _ _ _ a b h F,G⟩;simp only[ASE];exact oU e k m j h n f g;rw[AR8 (by omega)];exact oU e k m j h n f g
theorem yT(e:Gu (S:=S) self (b-a))(j:a<b)(k:b<=d.size)(m:d.size<4294967296)(q:0<=l/\l<=100)
  {d3:Array (EL S)} {p:Nat} (h:Int) (u wp:Bool) (i:PermIn a b d d3) (n:Below ltX a b d3) (f:a<=p) (g:p<b) :
  ∃ o,(je S.z S.c S.t) self (rep d3) (a:Int) (b:Int) (p:Int) h l u wp=some o/\cZ d a b o:=by
 have r:b<=d3.size:=by rw[i.1];exact k
 have y:d3.size<4294967296:=by rw[i.1];exact m
 unfold je;cases u;exact SF e k m q _ _ i n f g;cases wp;exact SF e k m q _ _ i n f g;simp only[];cases ieq h 1;exact SF e k m q _ _ i n f g;simp only[];rw[jg d3 a b j r y];obtain⟨s,v⟩:=partialInsertionSort_holds (lt:=ltX) AGC d3 a b j r n;rcases A:partialInsertionSort ltX d3 a b with⟨w,fin⟩
 rw[A]at s v;have x:PermIn a b d w:=permIn_trans _ _ _ a b i s;cases fin;exact SF e k m q _ _ x (n.perm r s) f g;exact⟨_,rfl,w,rfl,x,v rfl⟩
theorem yS(f:Gu (S:=S) self (b-a))(j:a+8<=b)(k:b<=d.size)(m:d.size<4294967296)(r:0<=l/\l<=100)
  {d3:Array (EL S)} (w wp:Bool) (g:PermIn a b d d3) (s:Below ltX a b d3) :
  ∃ o,(jd S.z S.c S.t) self (rep d3) (a:Int) (b:Int) l w wp=some o/\cZ d a b o:=by
 have i:b<=d3.size:=by rw[g.1];exact k
 have u:d3.size<4294967296:=by rw[g.1];exact m
 rw[jd];obtain⟨p,h,e,n,q⟩:=uH d3 a b j i u;simp only[e];cases ieq h 2;exact yT f (by omega) k m r h _ _ g s n q;simp only[AG6 d3 a b (by omega) i u];have v:=reverseRange_holds (α:=(EL S)) d3 a b (by omega) i;simp (disch:=omega) only[B1,Ep];exact yT f (by omega) k m r 1 _ _ (permIn_trans _ _ _ a b g v) (s.perm i v) (by omega) (by omega)
theorem ABs(f:Gu (S:=S) self (b-a))(g:a<=b)(h:b<=d.size)(j:d.size<4294967296)(n:0<=l/\l<=100)(m p:Bool)(B:Below ltX a b d):
  ∃ o,(KP S.z S.c S.t) self ((rep d),(a:Int),(b:Int),l,m,p,())=some o/\cZ d a b o:=by rw[KP];simp (disch:=omega) only[Ep,BM,Cd];by_cases q:b-a<=12;rw[AR9 (show((b-a:Nat):Int)<=12 by omega)];simp only[AI0 d a b g h j];obtain⟨i,k⟩:=insertionSort_holds (lt:=ltX) AGC d a b g h;exact⟨_,rfl,_,rfl,i,k⟩;rw[AR8 (show ¬ ((b-a:Nat):Int)<=12 by omega)];simp only[];by_cases r:l=0;subst r;simp only[BEq.rfl,ADW d a b (by omega) h j];obtain⟨i,k⟩:=heapSort_holds (lt:=ltX) AGC d a b g h;exact⟨_,rfl,_,rfl,i,k⟩;rw[show(l==0)=false by grind];simp only[];cases m;obtain⟨s,e,i⟩:=xa d a b g h j;simp only[ASf,e];rw[BG (by omega)];exact yS f (by omega) h j (by omega) _ _ i (B.perm h i);simp only[ASE];exact yS f (by omega) h j n _ _ (permIn_refl d a b) B
end
theorem oV{self:(List α×Int×Int×Int×Unit)->Option ((List α×Unit))}{m:Nat}(g:Gu (S:=S) self m):∀ (k:Nat) (d:Array (EL S)) (a b:Nat) (l:Int) (p q:Bool) (n:Nat),b-a=k->k<=m->a<=b->b<=d.size->d.size<4294967296->0<=l->l<=100->Below ltX a b d->k<n ->
  ∃ R:Array (EL S),BD ((KP S.z S.c S.t) self) n ((rep d),(a:Int),(b:Int),l,p,q,())=some (.inl ((rep R),()))/\PermIn a b d R/\SortedIn ltX a b R:=by
 intro k;induction k using Nat.strongRecOn with
  |_ k w=>
   intro d a b l p q n U V r A C s u B W;obtain⟨n,rfl⟩:∃ k,n=k+1:=⟨n-1,by omega⟩
   have f:Gu (S:=S) self (b-a):=fun d D b' l E F G H I J X=>g d D b' l E F G H I J (by omega);obtain⟨o,e,h⟩:=ABs f r A C ⟨s,u⟩ p q B;rw[BD,e];match o,h with
  |.inl (xs,x,y,l',wb',wp',_),h=>obtain⟨K,i,j,rfl,rfl,rfl,L,M,N,O,Y,Z,P,v⟩:=h;obtain⟨R,e2,Q,T⟩:=w (j-i) (by omega) K i j l' wb' wp' n rfl (by omega) N O (by omega) L M P (by omega);grind
  |.inr (.inl (xs,_)),h=>obtain⟨R,rfl,Q,T⟩:=h;grind
theorem ABt:∀ k:Nat,Gu (S:=S) ((JX S.z S.c S.t) (k+1)) (2 ^ k):=by
 intro k;have f:4294967296<many:=by simp only[many];omega
 induction k with
  |zero=>
   intro d a b l g i j m n o r;have:Gu (S:=S) ((JX S.z S.c S.t) 0) 0:=fun _ _ _ _ _ _ _ _ _ _ h=>by omega
   obtain⟨R,e,p,q⟩:=oV this (b-a) d a b l true true many rfl (by omega) g i j m n o (by omega);refine⟨R,?_,p,q⟩;rw[JX,Qc];simp only[BR,e]
  |succ k s=>
   intro d a b l g i j m n o r;have u:2 ^ (k+1)=2*2 ^ k:=by omega
   obtain⟨R,e,p,q⟩:=oV s (b-a) d a b l true true many rfl (by omega) g i j m n o (by omega);refine⟨R,?_,p,q⟩;rw[JX,Qc];simp only[BR,e]
theorem FX{α β:Type}(S:SP α β)(xs:List α)(h:xs.length<4294967296)(a:∀ x∈xs,S.ok x):∃ ys,(eb S.z S.c S.t) (xs,())=some (ys,())/\ys.Perm xs/\ys.Pairwise fun x y=>S.lt y x=false:=by
 obtain⟨d,rfl⟩:∃ d:Array (EL S),xs=rep d:=by refine⟨(xs.attach.map fun x=>⟨x.val,a x.val x.property⟩).toArray,?_⟩;simp only[rep,List.map_map];simp
 have m:(rep d).length=d.size:=by simp[rep]
 rw[m]at h;rw[AGN,MG];rw[zf,u64_in (by omega)];obtain⟨v,e,s,_⟩:=XG d.size h;simp only[e];obtain⟨R,n,k,o⟩:=ABt 99 d 0 d.size (v:Int) (by omega) (by omega) h (by omega) (by omega) (.inl rfl) (by omega)
 have p:(uV S.z S.c S.t) (rep d,(0:Int),(d.size:Int),(v:Int),())=some (rep R,()):=by rw[AMz];exact n
 refine⟨rep R,by simp only[p],?_,?_⟩;obtain⟨q,_,l⟩:=k;have r:R.extract 0 d.size=R:=by grind
 rw[r,Array.extract_size]at l;exact l.map _;rw[rep,ATd,AS7];intro i j hi u b;have f:i<R.size:=by omega
 have g:j<R.size:=by omega
 have:=o i j (ATw _) b (by rw[<- k.1];omega);rw[getElem!_pos R j g,getElem!_pos R i f]at this;simpa [ltX]using this
end Go.Pev.Pl.SG
end
section
namespace Go.Pev.Pl.SL
open Go.Sort
def ok(l:List Int):Prop:=l≠[]
def okz:List Int:=[0]
theorem Qk:ok okz:=by simp[ok,okz]
def lt(x y:List Int):Bool:=ltInt (x.headD 0) (y.headD 0)
theorem swo:SWO lt:=⟨fun x=>swo_ltInt.irrefl _,fun x y z=>swo_ltInt.trans _ _ _,fun x y z=>swo_ltInt.ntrans _ _ _⟩
theorem M5{x y:List Int}(d:ok x)(e:ok y):∃ c,C8 (x,y,())=some (c,())/\ilt c (0:Int)=lt x y:=by
 cases x with
  |nil=>exact absurd rfl d
  |cons a x=>
   cases y with
    |nil=>exact absurd rfl e
    |cons b y=>
     rw[mr,iB];have f:idx (a::x) (0:Int)=some a:=by rw[idx_eq];rfl
     have g:idx (b::y) (0:Int)=some b:=by rw[idx_eq];rfl
     simp only[f,g,IF,HU,KT,MT];simp only[Cd,BC,lt,AUv,ltInt];by_cases h:a<b;simp[h];by_cases i:b<a;grind;simp[h,i]
noncomputable def S:SG.SP (List Int) Int:=⟨([]:List (Int)),C8,tLt,ok,okz,Qk,lt,swo,fun a b=>M5 a b⟩
theorem FX(xs:List (List Int))(h:xs.length<4294967296)(a:∀ x∈xs,ok x):∃ ys,yH (xs,())=some (ys,())/\ys.Perm xs/\ys.Pairwise fun x y=>lt y x=false:=SG.FX S xs h a
end Go.Pev.Pl.SL
end
end
section
namespace Go.Pev.Pl
abbrev Edge:=Int×Int×Unit
inductive Con(l:List Edge):Int->Int->Prop
 |refl (a:Int):Con l a a
 |edge (e:Edge):e∈l->Con l e.1 e.2.1
 |symm {a b:Int}:Con l a b->Con l b a
 |trans {a b c:Int}:Con l a b->Con l b c->Con l a c
theorem Con.mono{l j:List Edge}(h:∀ e∈l,∃ d∈j,(d.1=e.1/\d.2.1=e.2.1)\/(d.1=e.2.1/\d.2.1=e.1)){a b:Int}(c:Con l a b):Con j a b:=by
 induction c with
  |refl a=>exact .refl a
  |edge e m=>obtain⟨d,k,f|f⟩:=h e m;have:=Con.edge d k;rw[f.1,f.2]at this;exact this;have:=Con.edge d k;rw[f.1,f.2]at this;exact this.symm
  |symm _ n=>exact n.symm
  |trans _ _ g i=>exact g.trans i
theorem Con.snoc{l:List Edge}{e:Edge}{a b:Int}:Con (l++[e]) a b↔Con l a b\/(Con l a e.1/\Con l e.2.1 b)\/(Con l a e.2.1/\Con l e.1 b):=by
 constructor;intro h;induction h with
  |refl a=>exact .inl (.refl a)
  |edge n k=>rcases ASF.1 k with h|h;exact .inl (.edge n h);simp only[ASj]at h;subst h;exact .inr (.inl ⟨.refl _,.refl _⟩)
  |symm _ p=>
   rcases p with h|⟨c,d⟩|⟨c,d⟩
   exact .inl h.symm;exact .inr (.inr ⟨d.symm,c.symm⟩);exact .inr (.inl ⟨d.symm,c.symm⟩)
  |trans _ _ o i=>
   rcases o with h|⟨c,d⟩|⟨c,d⟩
   rcases i with g|⟨j,f⟩|⟨j,f⟩
   exact .inl (h.trans g);exact .inr (.inl ⟨h.trans j,f⟩);exact .inr (.inr ⟨h.trans j,f⟩);rcases i with g|⟨j,f⟩|⟨j,f⟩
   exact .inr (.inl ⟨c,d.trans g⟩);exact .inr (.inl ⟨c,f⟩);exact .inl (c.trans f);rcases i with g|⟨j,f⟩|⟨j,f⟩
   exact .inr (.inr ⟨c,d.trans g⟩);exact .inl (c.trans f);exact .inr (.inr ⟨c,f⟩)
 have m:∀ {x y},Con l x y->Con (l++[e]) x y:=fun h=>h.mono fun n k=>⟨n,by simp[k],.inl ⟨rfl,rfl⟩⟩
 have k:Con (l++[e]) e.1 e.2.1:=.edge e (by simp);rintro (h|⟨c,d⟩|⟨c,d⟩);exact m h;exact(m c).trans (k.trans (m d));exact(m c).trans (k.symm.trans (m d))
theorem Con.nil{a b:Int}(h:Con [] a b):a=b:=by
 induction h with
  |refl a=>rfl
  |edge e f=>cases f
  |symm _ g=>exact g.symm
  |trans _ _ c d=>exact c.trans d
theorem Con.within{l:List Edge}{I:Int->Prop}(h:∀ e∈l,I e.1/\I e.2.1){a b:Int}(c:Con l a b):a=b\/(I a/\I b):=by
 induction c with
  |refl a=>exact .inl rfl
  |edge e i=>exact .inr (h e i)
  |symm _ j=>rcases j with h|h;exact .inl h.symm;exact .inr ⟨h.2,h.1⟩
  |trans _ _ f d=>rcases f with rfl|g;exact d;rcases d with rfl|k;exact .inr g;exact .inr ⟨g.1,k.2⟩
theorem Con.const{l:List Edge}{f:Int->Int}(h:∀ e∈l,f e.1=f e.2.1){a b:Int}(c:Con l a b):f a=f b:=by
 induction c with
  |refl a=>rfl
  |edge e i=>exact h e i
  |symm _ j=>exact j.symm
  |trans _ _ d g=>exact d.trans g
end Go.Pev.Pl
end
section
section
namespace Go.Pev.Pl
open Tok
def ER{α:Type}(P:Nat->Bool):Nat->List α->List α
 |_,[]=>[]
 |i,x::xs=>if P i then ER P (i+1) xs else x::ER P (i+1) xs
theorem ql{α:Type}(P:Nat->Bool):∀ (xs:List α) (s:Nat),(∀ k,s<=k->P k=false)->ER P s xs=xs:=by
 intro xs;induction xs with
  |nil=>intro s _;rfl
  |cons x xs a=>intro s h;rw[ER,h s (ASG _),a (s+1) fun k b=>h k (by omega)];rfl
theorem wc{α:Type}(P:Nat->Bool)(i:Nat):∀ (xs:List α) (s:Nat),s<=i->(∀ k,s<=k->P k=decide (k=i))->ER P s xs=xs.eraseIdx (i-s):=by
 intro xs;induction xs with
  |nil=>intro s _ _;rfl
  |cons x xs a=>intro s c h;rw[ER,h s (ASG _)];by_cases e:s=i;subst e;rw[ql P xs (s+1) fun k b=>by grind];simp;rw[a (s+1) (by omega) fun k b=>h k (by omega)];rw[AR8 e,ASH (by simp),show i-s=(i-(s+1))+1 by omega,AUY]
theorem bT{α:Type}(P:Nat->Bool)(i j:Nat)(a:i<j):∀ (xs:List α) (s:Nat),s<=i->(∀ k,s<=k->P k=decide (k=i\/k=j))->ER P s xs=(xs.eraseIdx (j-s)).eraseIdx (i-s):=by
 intro xs;induction xs with
  |nil=>intro s _ _;rfl
  |cons x xs b=>intro s d h;rw[ER,h s (ASG _)];by_cases e:s=i;subst e;rw[wc P j xs (s+1) (by omega) fun k c=>by rw[h k (by omega)];grind];rw[AR9 (.inl rfl),ASL rfl,show j-s=(j-(s+1))+1 by omega,AUY,AT0,List.eraseIdx_zero];rfl;rw[b (s+1) (by omega) fun k c=>h k (by omega)];rw[AR8 (by omega),ASH (by simp),show j-s=(j-(s+1))+1 by omega,AUY,show i-s=(i-(s+1))+1 by omega,AUY]
theorem qm{α:Type}(P:Nat->Bool):∀ (xs:List α) (b:List α) (k:Nat),(xs.foldl (fun(a:List α×Nat) x=>(if P a.2 then a.1 else a.1++[x],a.2+1)) (b,k)).1=b++ER P k xs:=by
 intro xs;induction xs with
  |nil=>intro b k;simp[ER]
  |cons x xs c=>intro b k;rw[AS2,c,ER];grind
theorem wg{α:Type}(P:Nat->Bool):∀ (xs:List α) (k:Nat),(ER P k xs).length<=xs.length/\∀ x∈ER P k xs,x∈xs:=by
 intro xs;induction xs with
  |nil=>intro k;simp[ER]
  |cons x xs a=>intro k;obtain⟨b,c⟩:=a (k+1);rw[ER];grind
theorem AAY(n:Int)(c:List (List Int))(d:List Int)(g:List (List Int))(u:c.length<1073741824)(E:d.length<1073741824)(F:g.length<1073741824)
  (q:∀ l∈c,l≠[]) (s:∀ r∈g,plain r≠[]) :
  ∃ ys,xv ((n,(c,())),d,g,())=some (n,ys,())/\ys.Perm (ER (fun k=>decide ((k:Int)∈d)) 0 c++g.map plain)/\ys.Pairwise (fun a b=>¬ hd b<hd a):=by
 rw[m7,iJ]
 have e:=DL (step:=NT) (fun i (a:List (List Int)×Nat)=>(d,g,n,c,(0:Int),a.1,c,A4 c,(i:Int),())) c
  (fun x a=>.inl (if decide ((a.2:Int)∈d)then a.1 else a.1++[x],a.2+1)) (fun a=>.inl (g,n,c,(0:Int),a.1,())) (fun i a=>a.2=i/\a.1.length<=i) (by omega)
  (fun i x a hi o ⟨v,G⟩=>by
   refine⟨fun w j => ?_,fun r j=>by cases j⟩
   cases j
   subst v
   rw[NT,A6,A2,AR9 hi]
   simp only[A' o,Hk d _ (show d.length<9223372036854775808 by omega)]
   rw[A5 (by omega),CC (by simp only[A6,ASK,ASV];omega)]
   by_cases h:(a.2:Int)∈d
   ·grind
   ·simp only[h,ASo,ASf]
    exact⟨by trivial,by trivial,by grind⟩)
  (fun a _=>by rw[NT,A6,A2,AR8 (by omega)]) ([],0) ⟨rfl,by simp⟩
 have y:A9 NT many (d,g,n,c,(0:Int),[],c,A4 c,(0:Int),())=_:=e;rw[y,B2];have t:(c.foldl (fun(a:List (List Int)×Nat) x=>(if decide ((a.2:Int)∈d)then a.1 else a.1++[x],a.2+1)) ([],0)).1=ER (fun k=>decide ((k:Int)∈d)) 0 c:=by have:=qm (fun k=>decide ((k:Int)∈d)) c [] 0;grind
 simp only[t];obtain⟨H,z⟩:=wg (fun k=>decide ((k:Int)∈d)) c 0;generalize ER (fun k=>decide ((k:Int)∈d)) 0 c=rest at *
 have f:=DL (step:=NS) (fun i (a:List (List Int))=>(n,c,(0:Int),a,g,A4 g,(i:Int),())) g
  (fun x a=>.inl (a++[plain x])) (fun a=>.inl (n,c,(0:Int),a,())) (fun i a=>a.length=rest.length+i) (by omega)
  (fun i x a hi o v=>by
   refine⟨fun w j => ?_,fun r j=>by cases j⟩
   cases j
   rw[NS,A6,A2,AR9 hi]
   simp only[A' o,tY]
   rw[A5 (by omega),CC (by simp only[A6,ASK,ASV];omega)]
   exact⟨rfl,by grind⟩)
  (fun a _=>by rw[NS,A6,A2,AR8 (by omega)]) rest rfl
 have A:A9 NS many (n,c,(0:Int),rest,g,A4 g,(0:Int),())=_:=f;rw[A,B2];have m:∀ (l p:List (List Int)),l.foldl (fun a x=>a++[plain x]) p=p++l.map plain:=by
  intro l;induction l with
   |nil=>simp
   |cons x l I=>grind
 simp only[m];obtain⟨ys,J,B,C⟩:=SL.FX (rest++g.map plain) (by grind) (fun x o=>by rcases ASF.1 o with h|h;exact q x (z x h);obtain⟨r,D,rfl⟩:=ASS.1 h;exact s r D)
 refine⟨ys,by grind,B,C.imp fun {a b} h => ?_⟩;simp only[SL.lt,Go.Sort.ltInt,ASg]at h;exact h
def ABa(a:List (List Int))(p:List Int):List (List Int):=a.take (a.findIdx fun x => !decide (hd x<hd p))++p::a.drop (a.findIdx fun x => !decide (hd x<hd p))
theorem ABZ(a:List (List Int))(p:List Int):(ABa a p).Perm (p::a):=by rw[ABa];refine List.perm_middle.trans ?_;simp
theorem AMf{c:List (List Int)}{p:List Int}(h:c.Pairwise (fun a b=>hd a<hd b))(g:∀ x∈c,hd x≠hd p):(ABa c p).Pairwise (fun a b=>hd a<hd b):=by
 rw[ABa];have k:∀ x∈c.take (c.findIdx fun x => !decide (hd x<hd p)),hd x<hd p:=by intro x d;obtain⟨j,m,e⟩:=AUx.1 d;grind
 have l:∀ x∈c.drop (c.findIdx fun x => !decide (hd x<hd p)),hd p<hd x:=by
  intro x d;by_cases f:(c.findIdx fun x => !decide (hd x<hd p))<c.length;have n:=List.findIdx_getElem (p:=fun x => !decide (hd x<hd p)) (xs:=c) (w:=f);rw[ASr f]at d;have o:¬ hd c[c.findIdx fun x => !decide (hd x<hd p)]<hd p:=by grind
  have q:=g _ (ASu f);rcases ASW.1 d with rfl|d;omega;have i:(c.drop (c.findIdx fun x => !decide (hd x<hd p))).Pairwise (fun a b=>hd a<hd b):=h.sublist (List.drop_sublist _ _);rw[ASr f,AS3]at i;grind;grind
 rw[List.pairwise_append,AS3];grind
end Go.Pev.Pl
end
section
namespace Go.Pev.Pl
open Tok
theorem mT{n u v:Int}(h:okT n (.arc u v)):n<=Pn n u v:=by rw[J7 h];exact(YG h.1 h.2.1).1
def DJ(n:Int)(A B:List Int)(u v:Int):List Int:=u::Pn n u v::(DE B v++Pn n v u::(DE A u).tail)
theorem UY{n u v:Int}{A B:List Int}(q:TI n A)(r:TI n B)(j:u∈A)(k:v∈B)(i:In n u)(m:In n v)(hd:Dis n A B):
  TI n (DJ n A B u v)/\DE A u=u::(DE A u).tail/\(∀ t,t<n->(t∈DJ n A B u v↔t∈A\/t∈B))/\u≠v/\okT n (.arc u v):=by
 obtain⟨a,s,w,y⟩:=r8 q (t:=.ver u) i j;obtain⟨b,z,C,J⟩:=r8 r (t:=.ver v) m k;have d:DE A u=(Tok.ver u::a).map (IC n):=s;have f:DE B v=(Tok.ver v::b).map (IC n):=z;have g:u≠v:=by rintro rfl;exact hd u j i.2.2.2 k
 have e:okT n (.arc u v):=⟨i,m,g⟩
 have D:=(Es j).perm;have o:=(Es k).perm;have c:DE A u=u::(DE A u).tail:=by rw[d];rfl
 have h:DJ n A B u v=(Tok.ver u :: .arc u v::(.ver v::b ++ .arc v u::a)).map (IC n):=by rw[DJ,d,f,J7 e,J7 (N3 e)];grind
 refine⟨⟨_,h,fun t c => ?_,T.join w C fun x p l => ?_⟩,c,fun t E => ?_,g,e⟩;rcases ASW.1 c with rfl|c;exact i;rcases ASW.1 c with rfl|c;exact e;rcases ASF.1 c with c|c;grind;rcases ASW.1 c with rfl|c;exact N3 e;grind;have F:=y _ p;have G:x∈A:=D.mem_iff.2 (by rw[d];exact ASS.2 ⟨_,p,rfl⟩);have H:x∈B:=o.mem_iff.2 (by rw[f];exact ASS.2 ⟨_,l,rfl⟩);exact hd x G F.2.2.2 H;have K:=mT e;have L:=mT (N3 e);have I:t∈A↔t=u\/t∈(DE A u).tail:=by grind
 rw[DJ,ASW,ASW,ASF,ASW,I,<- o.mem_iff];grind
theorem S8{n:Int}{a b:List (List Int)}(h:a.Perm b)(c:a.Pairwise (Dis n)):b.Pairwise (Dis n):=(h.pairwise_iff fun {_ _} d=>d.symm).1 c
theorem APC{n:Int}{c d m:List (List Int)}{A B p:List Int}(h:FR n c)(o:c.Perm (A::B::d))(w:RG n p)(q:∀ t,t<n->(t∈p↔t∈A\/t∈B))(k:m.Perm (p::d))(x:m.Pairwise (fun a b=>hd a<hd b)):FR n m:=by have f:=S8 o h.dis;rw[AS3,AS3]at f;obtain⟨y,z,C⟩:=f;refine⟨h.sz,fun l i => ?_,x,S8 k.symm ?_,fun v s => ?_⟩;rcases ASW.1 (k.mem_iff.1 i)with rfl|i;exact w;exact h.rg l (o.mem_iff.2 (by simp[i]));rw[AS3];refine⟨fun r u t D e => ?_,C⟩;rcases(q t e).1 D with g|g;exact y r (by simp[u]) t g e;exact z r u t g e;obtain⟨l,i,j⟩:=h.cov v s;have:=o.mem_iff.1 i;simp only[ASW]at this;rcases this with rfl|rfl|g;exact⟨p,k.mem_iff.2 (by simp),(q v s.2.2.2).2 (.inl j)⟩;exact⟨p,k.mem_iff.2 (by simp),(q v s.2.2.2).2 (.inr j)⟩;grind
theorem gg(n:Int)(a:List (List Int))(u v:Int)(b:Dom a):asked ((n,(a,())),u,v,())=some (if RF n a then if In n u/\In n v then 0 else 10 else 1,()):=by rw[rp,mQ];simp only[L9 n a b.1 b.2,Xr];grind
theorem ANT{n:Int}{c:List (List Int)}{u v:Int}{i j:Nat}{A B:List Int}(h:FR n c)(K:In n u)(L:In n v)(hi:c[i]? = some A)(w:c[j]? = some B)(H:u∈A)(I:v∈B)(y:i≠j):
  ∃ M d,eP ((n,(c,())),u,v,())=some (n,M,0,())/\FR n M/\c.Perm (A::B::d)/\M.Perm (plain (DJ n A B u v)::d)/\Dis n A B:=by
 have J:=h.dom;have N:=RZ.2 h;have O:=h.rg A (ASJ hi);have rB:=h.rg B (ASJ w);have X:=(ASM.1 hi).1;have Y:=(ASM.1 w).1;have Z:plc c u=(i:Int):=h.jU hi K.2.2.2 H;have pv:plc c v=(j:Int):=h.jU w L.2.2.2 I;have f:c.Perm (A::B::(c.eraseIdx (max i j)).eraseIdx (min i j)):=by rcases Nat.lt_or_gt_of_ne y with g|g;rw[Nat.max_eq_right (by omega),ATq (by omega)];exact W3 g hi w;rw[Nat.max_eq_left (by omega),Nat.min_eq_right (by omega)];exact(W3 g w hi).trans (List.Perm.swap _ _ _)
 have q:Dis n A B:=by have:=S8 f h.dis;simp_all
 obtain⟨l1,l2,T,huv,ho⟩:=UY O.2.2.2 rB.2.2.2 H I K L q;obtain⟨o,r⟩:=sC l1;have U:DJ n A B u v=u::Pn n u v::(DE B v++Pn n v u::(DE A u).tail):=rfl;have lA:(DE A u).length<=1000:=by rw[<- (Es H).perm.length_eq];exact O.1.1
 have lB:(DE B v).length<=1000:=by rw[<- (Es I).perm.length_eq];exact rB.1.1
 have m:((c.eraseIdx (max i j)).eraseIdx (min i j)).Sublist c:=(List.eraseIdx_sublist _ _).trans (List.eraseIdx_sublist _ _);have P:ER (fun k=>decide ((k:Int)∈[(i:Int),(j:Int)])) 0 c=(c.eraseIdx (max i j)).eraseIdx (min i j):=by rcases Nat.lt_or_gt_of_ne y with g|g;rw[Nat.max_eq_right (by omega),ATq (by omega)];exact bT _ i j g c 0 (by omega) fun k _=>ATv.2 (by simp only[ASW,AVF,or_false];omega);rw[Nat.max_eq_left (by omega),Nat.min_eq_right (by omega)];exact bT _ j i g c 0 (by omega) fun k _=>ATv.2 (by simp only[ASW,AVF,or_false];omega)
 have hrl:((c.eraseIdx (max i j)).eraseIdx (min i j)).length<=c.length:=m.length_le;generalize (c.eraseIdx (max i j)).eraseIdx (min i j)=d at *;have z:d.Pairwise (fun a b=>hd a<hd b):=h.up.sublist m;have C:∀ l∈d,l≠[]:=fun l D=>(h.rg l (m.subset D)).2.1;have s:=S8 f h.dis;rw[AS3,AS3]at s;have p:∀ x∈d,hd x≠hd (plain (DJ n A B u v)):=by intro x Q e;have R:=TW o;have g2:=(T _ R.2.2.2).1 (r.perm.mem_iff.2 (kO o.2.1));have V:hd (plain (DJ n A B u v))∈x:=e▸kO (C x Q);rcases g2 with g|g;exact s.1 x (by simp[Q]) _ g R.2.2.2 V;exact s.2.1 x Q _ g R.2.2.2 V
 have E:=AMf z p;have F:=ABZ d (plain (DJ n A B u v));refine⟨ABa d (plain (DJ n A B u v)),d,?_,APC h f o (fun t ht=>by rw[<- r.perm.mem_iff];exact T t ht) F E,f,F,q⟩;obtain⟨ys,W,y2,y3⟩:=AAY n c [(i:Int),(j:Int)] [DJ n A B u v] J.1 (by simp) (by simp) (fun l D=>(h.rg l D).2.1) (by simp;exact o.2.1);have S:ys=ABa d (plain (DJ n A B u v)):=by refine nR E (y2.trans ?_) y3;grind
 rw[S]at W;rw[Yr,Xp];have s1:Dd (DE A u) (0:Int) (1:Int)=some [u]:=by have:=Tv (xs:=DE A u) (l:=0) (h:=1) (by omega) (by grind);grind
 have s2:Dd (DE A u) (1:Int) (A4 (DE A u))=some (DE A u).tail:=by have:=Nf (xs:=DE A u) (l:=1) (by grind);grind
 have d1:KE 0 (A3 (A4 [u])) (DE A u)=[u]:=by rw[l2];rfl
 have d2:KE 1 (A3 (A4 (DE A u).tail)) (DE A u)=(DE A u).tail:=by rw[KE,A6,OU,AVC,ASc]
 have G:PY ([[u],[Pn n u v],DE B v,[Pn n v u],(DE A u).tail],())=some (DJ n A B u v,()):=by rw[XC _ (by simp) (by simp;omega)];simp[DJ]
 have ne:((i:Int))≠(j:Int):=by omega
 simp only[gg n c u v J,N,K,L,and_self,ASh,BB,QI n c _ J.1 (fun l D=>(J.2 l D).1),Z,pv,ne,ASU,ASo,ASE,A' hi,A' w,ABV,kY,O.1,rB.1,H,I,s1,s2,AF7,d1,d2,G,W]
theorem vj{n:Int}{a:List (List Int)}{u v:Int}(h:FR n a)(d:In n u)(e:In n v)(f:plc a u=plc a v):
  eP ((n,(a,())),u,v,())=some (n,a,5,()):=by have b:=h.dom;have c:=RZ.2 h;rw[Yr,Xp];simp only[gg n a u v b,c,d,e,and_self,ASh,BB,QI n a _ b.1 (fun l g=>(b.2 l g).1),f,ASU,ASE]
end Go.Pev.Pl
end
section
namespace Go.Pev.Pl
open Tok
def RX(c:List (List Int))(a b:Int):Prop:=∃ A∈c,a∈A/\b∈A
structure FC(n:Int)(rings:List (List Int))(l:List Edge):Prop where
 fr:FR n rings
 sam:∀ a b,In n a->In n b->(RX rings a b↔Con l a b)
 arcs:∀ A∈rings,∀ u v,okT n (.arc u v)->Pn n u v∈A->∃ e∈l,(e.1=u/\e.2.1=v)\/(e.1=v/\e.2.1=u)
theorem FR.AGj{n:Int}{c:List (List Int)}(h:FR n c){a b:Int}(g:In n a)(l:In n b):plc c a=plc c b↔RX c a b:=by
 obtain⟨i,A,pa,hi,m,_⟩:=QZ (h.cov a g);obtain⟨j,B,p,f,o,_⟩:=QZ (h.cov b l);rw[pa,p];constructor;intro e;have:i=j:=by omega
 subst this;rw[hi]at f;cases f;exact⟨A,ASJ hi,m,o⟩;rintro⟨K,q,r,s⟩;obtain⟨k,d⟩:∃ k:Nat,c[k]? = some K:=by obtain⟨k,d,rfl⟩:=AS5 q;exact⟨k,ASI d⟩
 rw[h.uniq hi d g.2.2.2 m r,h.uniq f d l.2.2.2 o s]
theorem FR.one{n:Int}{a:List (List Int)}(h:FR n a){A B:List Int}(b:A∈a)(c:B∈a){v:Int}(d:v<n)(e:v∈A)(f:v∈B):A=B:=by obtain⟨i,hi,rfl⟩:=AS5 b;obtain⟨j,g,rfl⟩:=AS5 c;have:=h.uniq (ASI hi) (ASI g) d e f;grind
theorem RX.perm{a b:List (List Int)}(h:a.Perm b)(x y:Int):RX a x y↔RX b x y:=by constructor;rintro⟨A,c,d⟩;exact⟨A,h.mem_iff.1 c,d⟩;rintro⟨A,c,d⟩;exact⟨A,h.mem_iff.2 c,d⟩
theorem ADD{n u v x y:Int}{A B:List Int}(e:TI n A)(f:TI n B)(c:u∈A)(d:v∈B)(i:In n u)(j:In n v)(hd:Dis n A B)(b:okT n (.arc x y))(h:Pn n x y∈DJ n A B u v):Pn n x y∈A\/Pn n x y∈B\/(x=u/\y=v)\/(x=v/\y=u):=by obtain⟨_,l,_,k,a⟩:=UY e f c d i j hd;have m:=(Es c).perm;have o:=(Es d).perm;have g:=mT b;rw[DJ,ASW,ASW,ASF,ASW]at h;rcases h with h|h|h|h|h;grind;rw[J7 b,J7 a]at h;have:=S7 b a h;grind;grind;rw[J7 b,J7 (N3 a)]at h;have:=S7 b (N3 a) h;grind;grind
theorem APD{n:Int}{d:List (List Int)}{l:List Edge}{e:Edge}(h:FC n d l)(k:In n e.1)(m:In n e.2.1):
  ∃ z q,eP ((n,(d,())),e.1,e.2.1,())=some (n,z,q,())/\FC n z (l++[e])/\(q=0/\z.length+1=d.length\/q=5/\z=d):=by
 have o:=h.fr;obtain⟨i,A,pu,hi,D,_⟩:=QZ (o.cov _ k);obtain⟨j,B,pv,V,E,_⟩:=QZ (o.cov _ m);have P:=ASJ hi;have Q:=ASJ V;by_cases R:i=j;have F:plc d e.1=plc d e.2.1:=by omega
 refine⟨d,5,vj o k m F,⟨o,fun a b p r => ?_,fun A hA u v W G => ?_⟩,.inr ⟨rfl,rfl⟩⟩;rw[h.sam a b p r,Con.snoc];have X:Con l e.1 e.2.1:=(h.sam _ _ k m).1 ((o.AGj k m).1 F);constructor;grind;rintro (g|⟨H,I⟩|⟨H,I⟩);exact g;exact H.trans (X.trans I);exact H.trans (X.symm.trans I);obtain⟨C,J,L⟩:=h.arcs A hA u v W G;grind
 ·obtain⟨z,f,q1,q3,Y,S,Z⟩:=ANT o k m hi V D E R;have gA:=o.rg A P;have gB:=o.rg B Q;obtain⟨l1,l2,l3,huv,W⟩:=UY gA.2.2.2 gB.2.2.2 D E k m Z;obtain⟨hRG,s⟩:=sC l1;have M:=Y.length_eq;have N:=S.length_eq;simp only[ASK]at M N;refine⟨z,0,q1,⟨q3,fun a b p r => ?_,fun K t x y O G => ?_⟩,.inl ⟨rfl,by omega⟩⟩;rw[RX.perm S,Con.snoc,<- h.sam a b p r,<- h.sam a _ p k,<- h.sam _ b m r,<- h.sam a _ p m,<- h.sam _ b k r];have w:∀ x,In n x->(x∈plain (DJ n A B e.1 e.2.1)↔x∈A\/x∈B):=fun x T=>by rw[<- s.perm.mem_iff];exact l3 x T.2.2.2
  have sA:∀ x,In n x->(RX d x e.1↔x∈A):=fun x T=>by constructor;rintro⟨K,t,J,L⟩;rw[o.one P t k.2.2.2 D L];exact J;intro U;exact⟨A,P,U,D⟩
  have sB:∀ x,In n x->(RX d x e.2.1↔x∈B):=fun x T=>by constructor;rintro⟨K,t,J,L⟩;rw[o.one Q t m.2.2.2 E L];exact J;intro U;exact⟨B,Q,U,E⟩
  have sy:∀ x y,RX d x y↔RX d y x:=fun x y=>⟨fun ⟨K,a,b,c⟩=>⟨K,a,c,b⟩,fun ⟨K,a,b,c⟩=>⟨K,a,c,b⟩⟩
  rw[sA a p,sB a p,sy e.2.1 b,sB b r,sy e.1 b,sA b r];have hs:RX d a b↔(a∈A/\b∈A)\/(a∈B/\b∈B)\/∃ K∈f,a∈K/\b∈K:=by rw[RX.perm Y];simp only[RX,ASW,exists_eq_or_imp]
  have hz:RX (plain (DJ n A B e.1 e.2.1)::f) a b↔((a∈A\/a∈B)/\(b∈A\/b∈B))\/∃ K∈f,a∈K/\b∈K:=by simp only[RX,ASW,exists_eq_or_imp,w a p,w b r]
  grind
  ·have old:∀ K∈d,Pn n x y∈K->∃ C∈l++[e],(C.1=x/\C.2.1=y)\/(C.1=y/\C.2.1=x):=fun K t G=>by obtain⟨C,J,L⟩:=h.arcs K t x y O G;grind
   rcases ASW.1 (S.mem_iff.1 t)with rfl|t
   ·rcases ADD gA.2.2.2 gB.2.2.2 D E k m Z O (s.perm.mem_iff.2 G)with g|g|⟨H,I⟩|⟨H,I⟩
    all_goals grind
   grind
theorem xl{N:Nat}(d:1<=N)(e:N<=64):FC (N:Int) (DI N) []:=by
 have f:∀ A∈DI N,∃ k:Nat,k<N/\A=[(k:Int)]:=fun A c=>by simp only[DI,ASS,ASb]at c;grind
 have g:∀ k,k<N->In (N:Int) (k:Int):=fun k i=>⟨by omega,by omega,by omega,by omega⟩
 refine⟨⟨⟨by omega,by omega⟩,fun l n => ?_,?_,?_,fun v j => ?_⟩,fun a b m s => ?_,fun A c u v o p => ?_⟩;obtain⟨k,i,rfl⟩:=f l n;refine⟨⟨by simp,fun x w => ?_,by simp⟩,by simp,rfl,(ARA (N:Int) k).2 (g k i)⟩;grind;rw[DI,ATd];exact List.pairwise_lt_range.imp fun h=>by simp only[hd,AUv];omega
 rw[DI,ATd];exact List.pairwise_lt_range.imp fun {a b} h t y _ q=>by grind
 obtain⟨k,rfl⟩:=ASD j.2.2.1;have:=j.2.2.2;exact⟨[(k:Int)],by simp only[DI,ASS,ASb];grind,by simp⟩;constructor;rintro⟨A,c,d,e⟩;obtain⟨k,_,rfl⟩:=f A c;simp only[ASj]at d e;rw[d,e];exact .refl _;intro r;have:=r.nil;subst this;obtain⟨k,rfl⟩:=ASD m.2.2.1;have:=m.2.2.2;exact⟨[(k:Int)],by simp only[DI,ASS,ASb];grind,by simp,by simp⟩;obtain⟨k,i,rfl⟩:=f A c;simp only[ASj]at p;have:=mT o;omega
theorem qb(l:List Edge)(g:l.length<1073741824):ends (l,())=some (l.flatMap fun e=>[e.1,e.2.1],()):=by
 rw[zc,wQ]
 have e:=DL (step:=S6) (fun i (a:List Int)=>(a,l,A4 l,(i:Int),())) l (fun x a=>.inl (a++[x.1,x.2.1])) (fun a=>.inl (a,())) (fun i a=>a.length=2*i) (by omega)
  (fun i x a hi d h=>by
   refine⟨fun j c => ?_,fun r c=>by cases c⟩
   cases c
   rw[S6,A6,A2,AR9 hi]
   simp only[A' d]
   rw[A5 (by omega),CC (by simp only[A6,ASK,ASV];omega)]
   exact⟨rfl,by grind⟩)
  (fun a _=>by rw[S6,A6,A2,AR8 (by omega)]) [] rfl
 have f:A9 S6 many ([],l,A4 l,(0:Int),())=_:=e;rw[f,B2];have k:∀ (xs:List Edge) (b:List Int),xs.foldl (fun a x=>a++[x.1,x.2.1]) b=b++xs.flatMap fun e=>[e.1,e.2.1]:=by
  intro xs;induction xs with
   |nil=>simp
   |cons x xs m=>grind
 grind
theorem AJv(n:Int)(l:List Edge):((l.flatMap fun e=>[e.1,e.2.1]).all fun v=>decide (In n v))=l.all fun e=>decide (In n e.1/\In n e.2.1):=by simp
theorem AJu(l:List Edge):(l.flatMap fun e=>[e.1,e.2.1]).length=2*l.length:=by
 induction l with
  |nil=>rfl
  |cons e l a=>grind
theorem vi{n:Int}(l:List Edge)(w:l.length<1073741824)(o:∀ e∈l,In n e.1/\In n e.2.1):
  ∀ (m i cnt:Nat) (a:List (List Int)) (b:List Bool),i+m=l.length->b.length=i->FC n a (l.take i)->m<cnt ->
  ∃ g d,BD IE cnt (n,a,(0:Int),b,l,(l.length:Int),(i:Int),())=some (.inl (n,g,(0:Int),d,()))/\FC n g l/\d.length=l.length:=by
 intro m;induction m with
  |zero=>
   intro i cnt a b hi j h p;obtain⟨cnt,rfl⟩:∃ c,cnt=c+1:=⟨cnt-1,by omega⟩
   rw[AS4 (by omega)]at h;refine⟨a,b,?_,h,by omega⟩;rw[BD,IE,A2,AR8 (by omega)]
  |succ m r=>
   intro i cnt a b hi j h p;obtain⟨cnt,rfl⟩:∃ c,cnt=c+1:=⟨cnt-1,by omega⟩
   have f:i<l.length:=by omega
   have s:l[i]? = some l[i]:=ASI f;obtain⟨t,u⟩:=o _ (ASu f);obtain⟨g,q,v,k,_⟩:=APD h t u;rw[BD,IE,A2,AR9 f];simp only[A' s,v];rw[A5 (by omega),CC (by simp only[A6,ASK,ASV];omega)];rw[<- ATF f]at k;exact r (i+1) cnt g _ (by omega) (by simp[Ej,j]) k (by omega)
theorem ki(k:Int)(l:List Edge)(j:Sz k)(d:l.length<1073741824):
  ((∀ e∈l,In k e.1/\In k e.2.1)/\∃ a,fof (k,l,())=some ((k,(a,())),0,())/\FC k a l) \/
  (¬ (∀ e∈l,In k e.1/\In k e.2.1)/\fof (k,l,())=some ((0,([],())),10,())):=by
 have f:9223372036854775808<many:=by simp only[many];omega
 rw[AJj,AJk];have n:X8 k=(k,DI k.toNat,0,()):=by rw[X8,ASL j]
 obtain⟨r,s⟩:=j;obtain⟨N,rfl⟩:=ASD (show 0<=k by omega);have m:=xl (N:=N) (by omega) (by omega);have o:=m.fr.dom;have g:=RZ.2 m.fr;have p:=AJu l;have b:Mq (((N:Int),(DI N,())),l.flatMap fun e=>[e.1,e.2.1],())=some (if ∀ e∈l,In (N:Int) e.1/\In (N:Int) e.2.1 then 0 else 10,()):=by rw[Q9 _ _ _ o (by omega),AJv,AK2,ASL g];grind
 simp only[AAk,n,ASv,aZ,ASE];rw[gD,bF,W7,RD];by_cases c:∀ e∈l,In (N:Int) e.1/\In (N:Int) e.2.1;refine .inl ⟨c,?_⟩;rw[ASL c]at b;obtain⟨t,h,q,u,_⟩:=vi l d c l.length 0 many (DI N) [] (by omega) rfl (by grind) (by omega);have i:BD IE many ((N:Int),DI N,(0:Int),[],l,(l.length:Int),(0:Int),())=_:=q;simp only[qb l d,b,aZ,ASE,BR,A6,i];grind;refine .inr ⟨c,?_⟩;rw[ASH c]at b;simp only[qb l d,b,BB];rfl
end Go.Pev.Pl
end
section
namespace Go.Pev.Pl
open Tok
def cl(out:List Int)(v:Int):Int:=out.getD v.toNat 0
def CI(N:Nat)(l:List Edge)(out:List Int):Prop:=out.length=N/\∀ k,k<N->0<=out.getD k 0/\out.getD k 0<=(k:Int)/\Con l (k:Int) (out.getD k 0)
theorem yD:∀ (l:List Int) (k:Nat) (x:Int),k<l.length->(l.set k x).sum=l.sum-l.getD k 0+x:=by
 intro l;induction l with
  |nil=>simp
  |cons y l a=>
   intro k x h;cases k with
    |zero=>grind
    |succ k=>grind
theorem QK{N:Nat}{l:List Edge}{out:List Int}(h:CI N l out)(e:N<=64):0<=out.sum/\out.sum<=4096:=by
 obtain⟨f,g⟩:=h;have a:∀ (xs:List Int),(∀ x∈xs,0<=x/\x<=64)->0<=xs.sum/\xs.sum<=64*(xs.length:Int):=by
  intro xs;induction xs with
   |nil=>simp
   |cons x xs b=>intro h;have i:=b fun y c=>h y (ATO _ c);have j:=h x (by simp);grind
 have:=a out fun x d=>by obtain⟨k,m,rfl⟩:=AS5 d;grind
 omega
theorem ARI(N:Nat)(l:List Edge)(V:l.length<1073741824)(L:∀ e∈l,In (N:Int) e.1/\In (N:Int) e.2.1):
  ∀ (m i cnt:Nat) (out:List Int) (d:Bool),i+m=l.length->CI N l out->m<cnt ->
  ∃ b a,BD Gm cnt ((N:Int),l,out,d,(i:Int),())=some (.inl ((N:Int),l,b,a,()))/\CI N l b /\
   ((a=d/\b=out/\∀ e∈l.drop i,cl out e.1=cl out e.2.1)\/(a=true/\b.sum<out.sum)):=by
 intro m;induction m with
  |zero=>
   intro i cnt out d hi h M;obtain⟨cnt,rfl⟩:∃ c,cnt=c+1:=⟨cnt-1,by omega⟩
   refine⟨out,d,?_,h,.inl ⟨rfl,rfl,?_⟩⟩;rw[BD,Gm,A6,A2,AR8 (by omega)];grind
  |succ m C=>
   intro i cnt out d hi h M;obtain⟨cnt,rfl⟩:∃ c,cnt=c+1:=⟨cnt-1,by omega⟩
   have j:i<l.length:=by omega
   have O:l[i]? = some l[i]:=ASI j;have D:=ASu j;have t:l.drop i=l[i]::l.drop (i+1):=ASr j;rw[BD,Gm,A6,A2,AR9 j];simp only[A' O];rw[t,A5 (by omega)];generalize l[i]=e at *;obtain⟨w,x⟩:=L e D;have f:=Con.edge e D;obtain⟨W,ev,P⟩:=e;simp only at w x f |-;obtain⟨u,rfl⟩:=ASD w.2.2.1;obtain⟨v,rfl⟩:=ASD x.2.2.1;have E:u<N:=by have:=w.2.2.2;omega
   have F:v<N:=by have:=x.2.2.2;omega
   have p:u<out.length:=by rw[h.1];exact E
   have y:v<out.length:=by rw[h.1];exact F
   rw[BC,AR8 (by omega)];simp only[];rw[BC,AR8 (by omega)];simp only[];rw[BM,AR8 (by omega)];simp only[];rw[BM,AR8 (by omega)];simp only[Dr (0:Int) p,Dr (0:Int) y,Gk,DX,BB];by_cases z:out.getD u 0=out.getD v 0;rw[AR9 z];obtain⟨b,a,G,H,I⟩:=C (i+1) cnt out d (by omega) h (by omega);refine⟨b,a,G,H,?_⟩;rcases I with⟨Q,R,X⟩|g;refine .inl ⟨Q,R,fun Y q => ?_⟩;rcases ASW.1 q with rfl|q;simpa [cl]using z;grind;grind;rw[AR8 z];have S:u≠v:=by grind
   have r:C7 (out.getD u 0) (out.getD v 0)=if out.getD v 0<out.getD u 0 then out.getD v 0 else out.getD u 0:=rfl
   generalize T:C7 (out.getD u 0) (out.getD v 0)=low at *;have n:v<(out.set u low).length:=by grind
   simp only[Dr (0:Int) n];have Z:=h.2 u E;have A:=h.2 v F;have s:∀ k,k<N->((out.set u low).set v low).getD k 0=if k=u\/k=v then low else out.getD k 0:=by grind
   have o:0<=low/\low<=(u:Int)/\low<=(v:Int)/\Con l (u:Int) low:=by rw[r];split;exact⟨A.1,by omega,A.2.1,f.trans A.2.2⟩;grind
   have U:CI N l ((out.set u low).set v low):=by refine⟨by simp[h.1],fun k J => ?_⟩;rw[s k J];split;rename_i B;rcases B with rfl|rfl;grind;exact⟨o.1,o.2.2.1,f.symm.trans o.2.2.2⟩;exact h.2 k J
   have K:((out.set u low).set v low).sum<out.sum:=by rw[yD _ _ _ n,yD _ _ _ p];grind
   obtain⟨b,a,G,H,I⟩:=C (i+1) cnt _ true (by omega) U (by omega);grind
theorem APm(N:Nat)(i:N<=64)(l:List Edge)(n:l.length<1073741824)(o:∀ e∈l,In (N:Int) e.1/\In (N:Int) e.2.1):
  ∀ (m cnt:Nat) (out:List Int),out.sum.toNat=m->CI N l out->m+1<cnt ->
  ∃ a,BD Is cnt ((N:Int),l,out,true,())=some (.inl (a,()))/\CI N l a/\∀ e∈l,cl a e.1=cl a e.2.1:=by
 have b:9223372036854775808<many:=by simp only[many];omega
 intro m;induction m using Nat.strongRecOn with
  |_ m p=>
   intro cnt out s h t;obtain⟨cnt,rfl⟩:∃ c,cnt=c+1:=⟨cnt-1,by omega⟩
   rw[BD,Is];obtain⟨a,d,q,j,r⟩:=ARI N l n o l.length 0 many out false (by omega) h (by omega);have f:BD Gm many ((N:Int),l,out,false,(0:Int),())=_:=q;simp only[BR,f];rcases r with⟨g,k,u⟩|⟨g,k⟩
   subst g k;obtain⟨cnt,rfl⟩:∃ c,cnt=c+1:=⟨cnt-1,by omega⟩
   rw[BD,Is];grind;subst g;have v:=QK h i;have w:=QK j i;exact p a.sum.toNat (by omega) cnt a rfl j (by omega)
structure KF(n:Int)(l:List Edge)(out:List Int):Prop where
 len:(out.length:Int)=n
 same:∀ a b,In n a->In n b->(cl out a=cl out b↔Con l a b)
 isin:∀ a,In n a->In n (cl out a)
 con:∀ a,In n a->Con l a (cl out a)
 least:∀ a b,In n a->In n b->Con l a b->cl out a<=b
theorem D3(n:Int)(l:List Edge)(x:Sz n)(y:l.length<1073741824)(z:∀ e∈l,In n e.1/\In n e.2.1):∃ out,FN (n,l,())=some (out,())/\KF n l out:=by
 have j:9223372036854775808<many:=by simp only[many];omega
 obtain⟨A,B⟩:=x;obtain⟨N,rfl⟩:=ASD (show 0<=n by omega);rw[TK,Og];have o:∀ (m k cnt:Nat),k+m=N->m<cnt->BD Gn cnt ((N:Int),l,(List.range k).map (fun(k:Nat)=>(k:Int)),(k:Int),())=some (.inl ((N:Int),l,(List.range N).map (fun(k:Nat)=>(k:Int)),())):=by
  intro m;induction m with
   |zero=>
    intro k cnt q C;obtain⟨cnt,rfl⟩:∃ c,cnt=c+1:=⟨cnt-1,by omega⟩
    have:k=N:=by omega
    subst this;rw[BD,Gn,A2,AR8 (by omega)]
   |succ m D=>
    intro k cnt q C;obtain⟨cnt,rfl⟩:∃ c,cnt=c+1:=⟨cnt-1,by omega⟩
    have g:=D (k+1) cnt (by omega) (by omega);rw[ASi,ASz]at g;rw[BD,Gn,A2,AR9 (by omega)];simp only[];rw[A5 (by omega),CC (by simp only[A6,ASK,ASV,ASZ,ASP];omega)];exact g
 have E:=o N 0 many (by omega) (by omega);have p:BD Gn many ((N:Int),l,[],(0:Int),())=_:=E;have r:CI N l ((List.range N).map (fun(k:Nat)=>(k:Int))):=by
  refine⟨by simp,fun k q => ?_⟩;have:((List.range N).map (fun(k:Nat)=>(k:Int))).getD k 0=(k:Int):=by grind
  rw[this];exact⟨by omega,by omega,.refl _⟩
 have G:=QK r (by omega);obtain⟨out,F,s,t⟩:=APm N (by omega) l y z _ many _ rfl r (by omega);simp only[BR,p,F];have d:∀ a,In (N:Int) a->0<=cl out a/\cl out a<=a/\Con l a (cl out a):=by intro a i;obtain⟨k,rfl⟩:=ASD i.2.2.1;have:=s.2 k (by have:=i.2.2.2;omega);simpa [cl]using this
 refine⟨out,rfl,by rw[s.1],fun a b f u=>⟨fun h => ?_,fun h=>h.const t⟩,fun a f => ?_,fun a f=>(d a f).2.2,fun a b f u h => ?_⟩;have v:=(d a f).2.2;have w:=(d b u).2.2;rw[<- h]at w;exact v.trans w.symm;have:=d a f;have H:=f.2.2.2;exact⟨A,B,by omega,by omega⟩;have v:cl out a=cl out b:=h.const t;grind
end Go.Pev.Pl
end
end
