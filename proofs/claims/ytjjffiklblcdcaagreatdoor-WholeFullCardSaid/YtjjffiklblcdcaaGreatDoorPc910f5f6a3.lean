/- A part of the proofs of this seat: GTP3 GTP4 GTP5 GTP6 GTP7 GTP8 GTP9 GTP10 GTP11 GTP12 GTP13 GTP14 GTP15 GTP16 GTP17 GTX1 GTM5 GTP18 GTX2 GTM6 GTP19 GTP20 GTX3 GTM7 GTP21 GTP22 GTP23 GTX4 GTM8 GTP24 GTX5 GTM9 GTP25 GTX6 GTM10 GTM Pln PlnB T18a T18b T18c PlnM NKA T18d PevClaim. -/
import Derived.Test.YtjjffiklblcdcaaGreatDoorPfb1a6966a7
import Derived.Test.YtjjffiklblcdcaaGreatDoorProg
import Derived.IntWalk
import Derived.Sort.AssemblyPlain
import Derived.ProofKit
import Derived.ChangeArms
import Derived.ReadAgain
import Derived.Deep.Slices
import Derived.OpenShut
set_option linter.unusedVariables false
set_option linter.unusedSimpArgs false
set_option linter.unusedSectionVars false
set_option maxRecDepth 100000
section
namespace Go.Pev
open Go.Proofs
noncomputable section
def AYY:=Chn.g AYr ⟨209,0,0,1,0,none,Bg,[(.ret,BX)],A8,[],[]⟩ AIF Tryz.func209 LI
def ACh:=Chn.g AYY ⟨131,0,0,2,0,none,R0,[(.ret,Bg)],A8,[],[]⟩ Ed Tryz.func131 Ir
def ARZ:=Chn.g ACh ⟨337,0,0,2,0,none,ADO,[(.ret,Bg)],A8,[],[]⟩ C9 Tryz.func337 ra
def AYk:=Chn.g ARZ ⟨359,0,1,4,0,some (3,337),Xh,[(.ret,Kc)],BY,[(4,[[],[],[],[],[],[],[],[0],[0],[],[],[],[0],[0]]),(6,[[],[],[],[],[],[],[],[],[0],[0],[],[],[0],[0],[0],[1],[0],[1]])],[(0,AUL,oS),(1,AUK,AUJ)]⟩ AaG Tryz.func359 AUM
def ASX:=Chn.g AYk ⟨376,0,1,5,0,some (4,337),LA,[(.ret,Kc)],BY,[(6,[[],[],[],[],[],[],[],[],[],[],[],[],[0],[0],[],[],[],[],[0],[0],[0],[1],[0],[1]]),(5,[[],[],[],[],[],[0],[0],[],[],[],[],[0],[0]]),(3,[[],[],[],[],[],[],[],[],[],[],[0],[0],[],[],[],[],[],[0],[0]])],[(0,AMS,AMR)]⟩ AW7 Tryz.func376 AMT
def AUg:=Chn.g ASX ⟨360,0,1,4,0,some (3,337),Xh,[(.ret,Kc)],BY,[(10,[[],[],[],[],[],[],[],[],[],[],[0],[0],[],[],[0],[0],[0],[1],[0],[1]])],[(0,APP,APN),(1,APO,APM)]⟩ AXN Tryz.func360 APQ
def AH0:=Chn.g AUg ⟨382,0,2,5,0,some (4,337),AHy,[(.ret,AHx)],Bf,[(1,[[],[],[],[0],[0],[],[],[0],[0]])],[]⟩ AEN Tryz.func382 AAs
def AIS:=Chn.g AH0 ⟨378,0,2,6,0,some (5,337),AIQ,[(.ret,kF)],A8,[],[]⟩ AEb Tryz.func378 ABB
def AIh:=Chn.g AIS ⟨377,0,2,4,0,some (3,337),AIf,[(.ret,kF)],A8,[],[]⟩ AEg Tryz.func377 ABK
def ANX:=Chn.g AIh ⟨362,0,1,4,0,some (3,337),Xh,[(.ret,ANV)],Bf,[],[]⟩ ANY Tryz.func362 AHC
def AXz:=Chn.g ANX ⟨363,0,1,4,0,some (3,337),Xh,[(.ret,Kc)],BY,[(3,[[],[],[],[],[],[],[0],[0],[],[],[0],[0],[0],[1],[0],[1]])],[(0,ASu,oS)]⟩ AZz Tryz.func363 ASv
def AAO:=Chn.g AXz ⟨364,0,1,4,0,some (3,337),Xh,[(.ret,AAM)],A8,[(11,[[],[],[],[],[],[],[],[],[0],[0],[],[],[0],[0],[0],[1],[0],[1]]),(5,[[],[],[],[],[],[],[],[0],[0],[],[],[],[0],[0]]),(17,[[],[],[],[],[],[],[],[],[0],[0],[],[],[0],[0],[0],[1],[0],[1]]),(16,[[],[],[],[0],[0],[],[],[],[0],[0]]),(23,[[],[],[],[],[],[],[],[],[0],[0],[],[],[0],[0],[0],[1],[0],[1]]),(22,[[],[],[],[0],[0],[],[],[],[0],[0]])],[(0,Yh,tw),(1,Yh,tv),(2,tz,tu),(3,tx,tt)]⟩ uB Tryz.func364 uA
def AHe:=Chn.g AAO ⟨365,0,1,5,0,some (4,337),LA,[(.ret,AHc)],A8,[(8,[[],[],[],[],[],[],[0],[0],[],[],[0],[0],[0],[1],[0],[1]]),(3,[[],[],[],[],[],[],[],[0],[0],[],[],[0],[0]]),(5,[[],[],[],[],[],[],[],[0],[0],[],[],[0],[0]]),(1,[[],[],[],[],[],[],[0],[0],[],[],[0],[0],[0],[1],[0],[1]])],[(0,Si,AAe),(1,Si,AAd),(2,Si,AAc)]⟩ AEH Tryz.func365 AAf
def Z5:=Chn.g AHe ⟨366,0,1,5,0,some (4,337),LA,[(.ret,ATe)],Bf,[(3,[[],[],[],[],[],[],[],[0],[0],[],[],[0],[0]]),(5,[[],[],[],[],[],[],[],[0],[0],[],[],[0],[0]]),(18,[[],[],[],[],[],[],[0],[0],[],[],[0],[0],[0],[1],[0],[1]]),(13,[[],[],[],[],[],[],[],[0],[0],[],[],[0],[0]]),(15,[[],[],[],[],[],[],[],[0],[0],[],[],[0],[0]]),(21,[[],[],[],[],[],[],[0],[0],[],[],[0],[0],[0],[1],[0],[1]]),(10,[[],[],[],[],[],[],[0],[0],[],[],[0],[0],[0],[1],[0],[1]]),(8,[[],[],[],[],[],[],[0],[0],[],[],[0],[0],[0],[1],[0],[1]]),(1,[[],[],[],[],[],[],[0],[0],[],[],[0],[0],[0],[1],[0],[1]])],[(0,PR,AN6),(1,PR,AN5),(2,PR,AN4),(3,PR,AN3),(4,PR,AN2)]⟩ AXG Tryz.func366 AN7
theorem ALq:Tryz.f228.body.isSome=true:=by kernel_rfl
theorem ALp : (Tryz.f228.name == "runtime.NumGoroutine") = false := by kernel_rfl
theorem ALo:loops (Bu Tryz.f228)=0:=by kernel_rfl
def fy[Lk]:Env:=Z5.e.ext 228 false false (CJ Tryz.prog Z5.e {} Tryz.f228)
theorem iN:BC Tryz.prog fy:=Env.B7 Z5.h (Br Z5.h Tryz.func228 ALq ALp ALo) (by simp) (by simp)
def Xo:=Chn.g ⟨fy,iN⟩ ⟨206,0,1,2,0,some (1,228),Mn,[(.ret,Xn)],A8,[],[(0,UU,UT)]⟩ Kg Tryz.func206 LO
def AY2:=Chn.g Xo ⟨302,0,0,1,0,none,AY1,[(.ret,Gr)],A8,[],[(0,AU7,AE1)]⟩ ends Tryz.func302 AE2
def AZ9:=Chn.g AY2 ⟨130,0,0,1,0,none,dW,[(.ret,Bg)],A8,[],[(0,AYU,AYT)]⟩ orI Tryz.func130 n8
def AOh:=Chn.g AZ9 ⟨152,0,0,1,0,none,Bg,[(.ret,BX)],A8,[],[]⟩ dc Tryz.func152 XY
def ABV:=Chn.g AOh ⟨154,0,0,2,0,none,dm,[(.ret,Bg)],A8,[(1,[[0],[0],[2],[2],[],[0],[0],[2],[2],[],[],[20]])],[]⟩ UH Tryz.func154 Ys
def AOf:=Chn.g ABV ⟨134,0,0,2,0,none,dZ,[(.ret,UE)],A8,[],[(0,AIs,kH)]⟩ db Tryz.func134 kI
def wW:=Chn.g AOf ⟨19,0,0,2,0,none,LZ,[(.ret,Gr)],A8,[(14,[[],[],[0],[0],[],[],[0],[0]]),(13,[[],[],[],[],[],[],[],[],[],[],[],[],[],[],[],[],[],[],[],[0],[0],[],[],[0],[0]])],[(0,qF,qC),(1,qE,qB),(2,qD,qA)]⟩ RD Tryz.func19 VZ
def ARl:=Chn.g wW ⟨17,0,0,1,0,none,Bg,[(.ret,Bg)],A8,[],[(0,ALW,AEX)]⟩ Tb Tryz.func17 ALX
def jn:=Chn.g ARl ⟨52,0,0,1,0,none,Js,[(.ret,BX)],A8,[(10,[[],[],[],[0],[0],[],[],[],[],[],[4],[4],[],[],[0],[0],[],[],[],[],[],[4],[4],[],[],[0],[0],[],[],[],[],[],[4],[4]]),(8,[[4],[4],[],[],[4],[4],[4],[4],[],[],[],[4],[4],[0],[0],[],[],[],[4],[4],[],[],[],[4],[4],[0],[0]])],[(0,cf,zQ),(1,zR,zP)]⟩ Fs Tryz.func52 HY
theorem AQZ : (Tryz.f125.name == "runtime.NumGoroutine") = false := by kernel_rfl
theorem p8:FE Tryz.prog Tryz.f125 40 3 (.int .i64) where
 body:=by kernel_rfl
 nt:=by kernel_rfl
 res:=by kernel_rfl
 d:=⟨by kernel_rfl,by kernel_rfl,by kernel_rfl,by kernel_rfl,by kernel_rfl,by kernel_rfl,by kernel_rfl,by kernel_rfl⟩
 g:=⟨by kernel_rfl,by kernel_rfl,by kernel_rfl,by kernel_rfl,by kernel_rfl,by kernel_rfl,by kernel_rfl,by kernel_rfl⟩
 o00:=by kernel_rfl
 o10:=by kernel_rfl
 o11:=by kernel_rfl
 o20:=by kernel_rfl
 o30:=by kernel_rfl
 o31:=by kernel_rfl
 o32:=by kernel_rfl
 o33:=by kernel_rfl
 sl:=by kernel_rfl
 z:=by kernel_rfl
 by1:=by kernel_rfl
def gL[Lk]:Env:=jn.e.ext 125 true true (Di 3 (.int .i64))
theorem ZO:BC Tryz.prog gL:=Env.B7 jn.h (Ku p8 Tryz.func125 AQZ) (fun _=>Bw _ _) (fun _=>(Bw _ _).ru)
theorem AUs:Tryz.f221.body.isSome=true:=by kernel_rfl
theorem AUr : (Tryz.f221.name == "runtime.NumGoroutine") = false := by kernel_rfl
theorem AUq:loops (Bu Tryz.f221)=0:=by kernel_rfl
def lX[Lk]:Env:=gL.ext 221 false false (CJ Tryz.prog gL {} Tryz.f221)
theorem rJ:BC Tryz.prog lX:=Env.B7 ZO (Br ZO Tryz.func221 AUs AUr AUq) (by simp) (by simp)
def og:=Chn.g ⟨lX,rJ⟩ ⟨50,0,3,2,0,some (1,221),UY,[(.ret,oe)],A8,[],[(0,gz,gw)]⟩ S5 Tryz.func50 R_
def ABo:=Chn.g og ⟨132,0,0,2,0,none,eP,[(.ret,Bg)],A8,[(1,[[0],[0],[2],[2],[],[0],[0],[2],[2],[],[],[20]])],[]⟩ Bp Tryz.func132 Ps
def AYo:=Chn.g ABo ⟨260,0,1,4,0,some (3,132),Xi,[(.ret,De)],BY,[(4,[[],[],[],[],[],[],[],[0],[0],[],[],[],[0],[0]]),(6,[[],[],[],[],[],[],[],[],[0],[0],[],[],[0],[0],[0],[1],[0],[1]])],[(0,AUV,Qw),(1,AUU,AUT)]⟩ AaI Tryz.func260 AUW
def ASb:=Chn.g AYo ⟨297,0,1,5,0,some (4,132),LC,[(.ret,De)],BY,[(6,[[],[],[],[],[],[],[],[],[],[],[],[],[0],[0],[],[],[],[],[0],[0],[0],[1],[0],[1]]),(5,[[],[],[],[],[],[0],[0],[],[],[],[],[0],[0]]),(3,[[],[],[],[],[],[],[],[],[],[],[0],[0],[],[],[],[],[],[0],[0]])],[(0,AMY,sQ)]⟩ AW9 Tryz.func297 AMZ
def AH7:=Chn.g ASb ⟨332,0,2,5,0,some (4,132),AH5,[(.ret,kA)],Bf,[(1,[[],[],[],[0],[0],[],[],[0],[0]])],[]⟩ AEP Tryz.func332 AAv
def AX3:=Chn.g AH7 ⟨264,0,1,4,0,some (3,132),Xi,[(.ret,De)],BY,[(3,[[],[],[],[],[],[],[0],[0],[],[],[0],[0],[0],[1],[0],[1]])],[(0,ADt,Qw)]⟩ AZ1 Tryz.func264 ASz
def AAS:=Chn.g AX3 ⟨265,0,1,4,0,some (3,132),Xi,[(.ret,dE)],A8,[(11,[[],[],[],[],[],[],[],[],[0],[0],[],[],[0],[0],[0],[1],[0],[1]]),(5,[[],[],[],[],[],[],[],[0],[0],[],[],[],[0],[0]]),(17,[[],[],[],[],[],[],[],[],[0],[0],[],[],[0],[0],[0],[1],[0],[1]]),(16,[[],[],[],[0],[0],[],[],[],[0],[0]]),(23,[[],[],[],[],[],[],[],[],[0],[0],[],[],[0],[0],[0],[1],[0],[1]]),(22,[[],[],[],[0],[0],[],[],[],[0],[0]])],[(0,Yl,Yk),(1,Yl,uN),(2,uP,uM),(3,uO,uL)]⟩ uT Tryz.func265 uQ
def AHi:=Chn.g AAS ⟨266,0,1,5,0,some (4,132),LC,[(.ret,j7)],A8,[(8,[[],[],[],[],[],[],[0],[0],[],[],[0],[0],[0],[1],[0],[1]]),(3,[[],[],[],[],[],[],[],[0],[0],[],[],[0],[0]]),(5,[[],[],[],[],[],[],[],[0],[0],[],[],[0],[0]]),(1,[[],[],[],[],[],[],[0],[0],[],[],[0],[0],[0],[1],[0],[1]])],[(0,Sn,dK),(1,Sn,AAm),(2,Sn,AAl)]⟩ AEJ Tryz.func266 AAn
def ATk:=Chn.g AHi ⟨267,0,1,5,0,some (4,132),LC,[(.ret,AEK)],Bf,[(3,[[],[],[],[],[],[],[],[0],[0],[],[],[0],[0]]),(5,[[],[],[],[],[],[],[],[0],[0],[],[],[0],[0]]),(18,[[],[],[],[],[],[],[0],[0],[],[],[0],[0],[0],[1],[0],[1]]),(13,[[],[],[],[],[],[],[],[0],[0],[],[],[0],[0]]),(15,[[],[],[],[],[],[],[],[0],[0],[],[],[0],[0]]),(21,[[],[],[],[],[],[],[0],[0],[],[],[0],[0],[0],[1],[0],[1]]),(10,[[],[],[],[],[],[],[0],[0],[],[],[0],[0],[0],[1],[0],[1]]),(8,[[],[],[],[],[],[],[0],[0],[],[],[0],[0],[0],[1],[0],[1]]),(1,[[],[],[],[],[],[],[0],[0],[],[],[0],[0],[0],[1],[0],[1]])],[(0,PX,AOI),(1,PX,AOH),(2,PX,ud),(3,PX,AOG),(4,PX,AOF)]⟩ AXI Tryz.func267 AOJ
def ARa:=Chn.g ATk ⟨111,0,0,1,0,none,Bg,[(.ret,BX)],A8,[],[]⟩ bI Tryz.func111 re
def TQ:=Chn.g ARa ⟨114,0,0,1,0,none,Bg,[(.ret,BX)],A8,[],[]⟩ ln Tryz.func114 iw
theorem AFe:Tryz.f110.body.isSome=true:=by kernel_rfl
theorem AFd : (Tryz.f110.name == "runtime.NumGoroutine") = false := by kernel_rfl
theorem AFc:loops (Bu Tryz.f110)=0:=by kernel_rfl
theorem AFb:Tryz.f113.body.isSome=true:=by kernel_rfl
theorem AFa : (Tryz.f113.name == "runtime.NumGoroutine") = false := by kernel_rfl
theorem AFZ:loops (Bu Tryz.f113)=0:=by kernel_rfl
def ZI[Lk]:Env:=TQ.e.ext 110 false false (CJ Tryz.prog TQ.e {} Tryz.f110)
theorem fu:BC Tryz.prog ZI:=Env.B7 TQ.h (Br TQ.h Tryz.func110 AFe AFd AFc) (by simp) (by simp)
def JM:=Chn.g ⟨ZI,fu⟩ ⟨50,0,0,2,0,some (1,110),UX,[(.ret,Bg)],A8,[],[(0,gu,J1)]⟩ S4 Tryz.func50 R9
def ZH[Lk]:Env:=JM.e.ext 113 false false (CJ Tryz.prog JM.e {} Tryz.f113)
theorem fq:BC Tryz.prog ZH:=Env.B7 JM.h (Br JM.h Tryz.func113 AFb AFa AFZ) (by simp) (by simp)
def oh:=Chn.g ⟨ZH,fq⟩ ⟨198,0,0,2,0,some (1,113),UZ,[(.ret,Bg)],A8,[],[(0,g8,J1)]⟩ S6 Tryz.func198 SA
def iE:=Chn.g oh ⟨115,0,0,2,0,some (1,113),UZ,[(.ret,BX)],A8,[],[]⟩ LX Tryz.func115 P8
def ARF:=Chn.g iE ⟨245,0,0,1,0,none,ARE,[(.ret,Gr)],A8,[],[]⟩ qZ Tryz.func245 lO
def AVf:=Chn.g ARF ⟨188,0,0,1,0,none,qT,[(.ret,Gr)],A8,[],[(0,ARB,AQ9),(1,ARA,AQ8)]⟩ AFH Tryz.func188 w8
def AVD:=Chn.g AVf ⟨236,0,0,1,0,none,Bg,[(.ret,BX)],A8,[],[]⟩ wC Tryz.func236 wB
def AZB:=Chn.g AVD ⟨177,0,0,1,0,none,AQJ,[(.ret,AZA)],Bf,[],[]⟩ AVC Tryz.func177 AE6
def AVF:=Chn.g AZB ⟨179,0,0,1,0,none,pZ,[(.ret,AQJ)],A8,[],[]⟩ AE8 Tryz.func179 wF
def AJv:=Chn.g AVF ⟨278,0,0,1,0,none,k6,[(.ret,AJu)],A8,[],[(0,ACS,ACR)]⟩ aT Tryz.func278 fD
def AGo:=Chn.g AJv ⟨118,0,0,1,0,none,Bg,[(.ret,Bg)],A8,[],[]⟩ Qg Tryz.func118 Sc
def AMq:=Chn.g AGo ⟨354,0,0,2,0,none,R0,[(.ret,BX)],A8,[],[]⟩ nH Tryz.func354 jg
def AM4:=Chn.g AMq ⟨344,0,0,3,0,none,AM3,[(.ret,pZ)],A8,[],[]⟩ XL Tryz.func344 jr
def ASo:=Chn.g AM4 ⟨319,0,0,2,0,none,Pm,[(.ret,BX)],A8,[],[(0,AMy,AMx)]⟩ ADs Tryz.func319 si
def AZ3:=Chn.g ASo ⟨318,0,0,4,0,none,AZ2,[(.ret,Gr)],A8,[(10,[[],[],[],[0],[0],[],[],[0],[0],[],[0],[1]])],[(0,AYA,AX7),(1,AX9,AX6),(2,AX8,AX5)]⟩ rby Tryz.func318 AM6
def r7:=Chn.g AZ3 ⟨231,0,0,2,0,none,R0,[(.ret,BX)],A8,[],[]⟩ L6 Tryz.func231 Tg
def AF7:=Chn.g r7 ⟨246,0,0,1,0,none,AF6,[(.ret,BX)],A8,[],[(0,yR,bf)]⟩ Tc Tryz.func246 bg
def AF5:=Chn.g AF7 ⟨330,0,0,2,0,none,L5,[(.ret,Bg)],A8,[],[]⟩ QV Tryz.func330 bc
def AF4:=Chn.g AF5 ⟨331,0,0,1,0,none,AF3,[(.ret,Bg)],A8,[],[]⟩ NW Tryz.func331 ba
def AF8:=Chn.g AF4 ⟨294,0,0,2,0,none,L5,[(.ret,BX)],A8,[(1,[[0],[],[],[],[],[0],[0],[],[],[],[],[0],[0]])],[]⟩ Td Tryz.func294 bj
def jN:=Chn.g AF8 ⟨173,0,0,2,0,none,R0,[(.ret,AGB)],AGA,[],[]⟩ Zl Tryz.func173 bm
theorem AKK : (Tryz.f356.name == "runtime.NumGoroutine") = false := by kernel_rfl
theorem iH:FE Tryz.prog Tryz.f356 198 320 (.prod (.int .i64) (.prod (.int .i64) (.prod (.int .i64) (.prod (.int .i64) .unit)))) where
 body:=by kernel_rfl
 nt:=by kernel_rfl
 res:=by kernel_rfl
 d:=⟨by kernel_rfl,by kernel_rfl,by kernel_rfl,by kernel_rfl,by kernel_rfl,by kernel_rfl,by kernel_rfl,by kernel_rfl⟩
 g:=⟨by kernel_rfl,by kernel_rfl,by kernel_rfl,by kernel_rfl,by kernel_rfl,by kernel_rfl,by kernel_rfl,by kernel_rfl⟩
 o00:=by kernel_rfl
 o10:=by kernel_rfl
 o11:=by kernel_rfl
 o20:=by kernel_rfl
 o30:=by kernel_rfl
 o31:=by kernel_rfl
 o32:=by kernel_rfl
 o33:=by kernel_rfl
 sl:=by kernel_rfl
 z:=by kernel_rfl
 by1:=by kernel_rfl
def lY[Lk]:Env:=jN.e.ext 356 true true (Di 320 (.prod (.int .i64) (.prod (.int .i64) (.prod (.int .i64) (.prod (.int .i64) .unit)))))
theorem rN:BC Tryz.prog lY:=Env.B7 jN.h (Ku iH Tryz.func356 AKK) (fun _=>Bw _ _) (fun _=>(Bw _ _).ru)
theorem AQa : (Tryz.f357.name == "runtime.NumGoroutine") = false := by kernel_rfl
theorem p9:FE Tryz.prog Tryz.f357 192 4 .bool where
 body:=by kernel_rfl
 nt:=by kernel_rfl
 res:=by kernel_rfl
 d:=⟨by kernel_rfl,by kernel_rfl,by kernel_rfl,by kernel_rfl,by kernel_rfl,by kernel_rfl,by kernel_rfl,by kernel_rfl⟩
 g:=⟨by kernel_rfl,by kernel_rfl,by kernel_rfl,by kernel_rfl,by kernel_rfl,by kernel_rfl,by kernel_rfl,by kernel_rfl⟩
 o00:=by kernel_rfl
 o10:=by kernel_rfl
 o11:=by kernel_rfl
 o20:=by kernel_rfl
 o30:=by kernel_rfl
 o31:=by kernel_rfl
 o32:=by kernel_rfl
 o33:=by kernel_rfl
 sl:=by kernel_rfl
 z:=by kernel_rfl
 by1:=by kernel_rfl
def yD[Lk]:Env:=lY.ext 357 true true (Di 4 .bool)
theorem yC:BC Tryz.prog yD:=Env.B7 rN (Ku p9 Tryz.func357 AQa) (fun _=>Bw _ _) (fun _=>(Bw _ _).ru)
theorem AQY : (Tryz.f326.name == "runtime.NumGoroutine") = false := by kernel_rfl
theorem p7:FE Tryz.prog Tryz.f326 98 40 (.slice (.int .i64)) where
 body:=by kernel_rfl
 nt:=by kernel_rfl
 res:=by kernel_rfl
 d:=⟨by kernel_rfl,by kernel_rfl,by kernel_rfl,by kernel_rfl,by kernel_rfl,by kernel_rfl,by kernel_rfl,by kernel_rfl⟩
 g:=⟨by kernel_rfl,by kernel_rfl,by kernel_rfl,by kernel_rfl,by kernel_rfl,by kernel_rfl,by kernel_rfl,by kernel_rfl⟩
 o00:=by kernel_rfl
 o10:=by kernel_rfl
 o11:=by kernel_rfl
 o20:=by kernel_rfl
 o30:=by kernel_rfl
 o31:=by kernel_rfl
 o32:=by kernel_rfl
 o33:=by kernel_rfl
 sl:=by kernel_rfl
 z:=by kernel_rfl
 by1:=by kernel_rfl
def yB[Lk]:Env:=yD.ext 326 true true (Di 40 (.slice (.int .i64)))
theorem yA:BC Tryz.prog yB:=Env.B7 yC (Ku p7 Tryz.func326 AQY) (fun _=>Bw _ _) (fun _=>(Bw _ _).ru)
theorem AVQ : (Tryz.f218.name == "runtime.NumGoroutine") = false := by kernel_rfl
theorem wT:ld Tryz.prog Tryz.f218 40 3 1 where
 body:=by kernel_rfl
 nt:=by kernel_rfl
 res:=by kernel_rfl
 d:=⟨by kernel_rfl,by kernel_rfl,by kernel_rfl,by kernel_rfl,by kernel_rfl,by kernel_rfl,by kernel_rfl,by kernel_rfl⟩
 g:=⟨by kernel_rfl,by kernel_rfl,by kernel_rfl,by kernel_rfl,by kernel_rfl,by kernel_rfl,by kernel_rfl,by kernel_rfl⟩
 o00:=by kernel_rfl
 o10:=by kernel_rfl
 o11:=by kernel_rfl
 o12:=by kernel_rfl
 o13:=by kernel_rfl
 o14:=by kernel_rfl
 o15:=by kernel_rfl
 o16:=by kernel_rfl
 sl:=by kernel_rfl
 sz:=by kernel_rfl
def AFV[Lk]:Env:=yB.ext 218 true true (QC 1)
theorem ADL:BC Tryz.prog AFV:=Env.B7 yA (AVP wT Tryz.func218 AVQ) (fun _=>QB _) (fun _=>(QB _).ru)
def ALf:=Chn.g ⟨AFV,ADL⟩ ⟨348,0,0,2,0,none,L5,[(.ret,ALe)],ALd,[(11,[[0],[0],[],[12],[12],[],[],[],[],[12],[12],[],[],[],[31,38],[0],[1]]),(10,[[12],[12],[12]]),(6,[[12],[],[0],[0],[],[],[12],[12]])],[]⟩ mX Tryz.func348 jM
def yV:=Chn.g ALf ⟨358,0,1,2,0,none,yU,[(.ret,yT)],A8,[],[(0,r6,rz)]⟩ Te Tryz.func358 YW
def AXg:=Chn.g yV ⟨349,0,0,2,0,none,L5,[(.ret,AXf)],ALh,[(12,[[0],[0],[0],[8],[8],[1000005,3],[7]]),(7,[[0],[0],[],[0],[0],[],[0],[1],[0],[1]]),(5,[[12],[],[0],[0],[],[],[12],[12],[],[],[],[0],[0],[12],[12]])],[(0,ARs,ARr)]⟩ ARt Tryz.func349 ADV
def ACt:=Chn.g AXg ⟨247,0,0,1,0,none,Bg,[(.ret,BX)],A8,[],[]⟩ QG Tryz.func247 ZC
def AQc:=Chn.g ACt ⟨248,0,0,2,0,none,L5,[(.ret,BX)],A8,[(1,[[],[],[],[],[0],[0],[],[],[],[],[0],[0],[],[],[],[],[],[],[],[0],[],[],[],[0],[0],[0],[0]])],[]⟩ qK Tryz.func248 lE
def AQS:=Chn.g AQc ⟨191,0,0,1,0,none,wL,[(.ret,BX)],A8,[],[(0,AKB,bf),(1,AKA,AJ9)]⟩ pg Tryz.func191 k7
def AQo:=Chn.g AQS ⟨94,0,0,3,1,none,ALs,[(.ret,AQn)],AQm,[],[]⟩ TH Tryz.func94 lH
def AVR:=Chn.g AQo ⟨293,0,0,1,0,none,wL,[(.ret,Bg)],A8,[],[(0,AQd,wi)]⟩ AFD Tryz.func293 wj
def AKH:=Chn.g AVR ⟨327,0,2,2,0,none,lC,[(.ret,k9)],A8,[],[]⟩ VY Tryz.func327 fO
def AQi:=Chn.g AKH ⟨328,0,2,3,0,none,AQh,[(.ret,AQg)],A8,[(9,[[],[0],[0],[0],[0],[],[],[],[2],[3]]),(6,[[],[0],[0],[0],[0],[],[],[],[],[],[2],[3]]),(1,[[],[0],[0],[0],[0],[],[2],[2],[],[0],[0],[0],[0],[],[2],[2]])],[]⟩ qO Tryz.func328 lG
def AaN:=Chn.g AQi ⟨329,0,2,2,0,none,lC,[(.ret,k9)],A8,[(9,[[],[],[0],[0],[0],[0],[],[0],[0],[0],[0],[],[],[],[],[],[0],[0],[0],[1]]),(6,[[],[0],[0],[0],[0],[],[],[0],[0],[0],[0],[],[2],[2],[],[],[],[],[28],[2],[3,30]]),(3,[[],[],[0],[0],[0],[0],[],[0],[0],[0],[0],[],[],[],[],[],[],[0],[0],[0],[1]]),(1,[[],[0],[0],[0],[0],[],[0],[0],[0],[0]])],[]⟩ cgo Tryz.func329 AQe
def AVJ:=Chn.g AaN ⟨292,0,0,3,0,none,AVI,[(.ret,AVH)],AVG,[(18,[[],[14],[14],[14],[],[14],[14],[14],[3],[5]]),(14,[[],[14],[14],[14],[],[14],[14],[14],[3],[5]])],[]⟩ AFB Tryz.func292 wI
def AU9:=Chn.g AVJ ⟨243,0,1,3,0,none,AU8,[(.ret,AE4)],A8,[(3,[[],[],[12],[],[0],[0],[0],[14],[],[3,16],[0],[0],[1],[0],[0],[1]])],[]⟩ v5 Tryz.func243 vz
def AJn:=Chn.g AU9 ⟨244,0,1,1,0,none,AJm,[(.ret,AE4)],A8,[],[(0,ACH,ACF),(1,ACG,ACE)]⟩ aQ Tryz.func244 ep
def AQF:=Chn.g AJn ⟨186,0,0,4,0,none,AQE,[(.ret,AQD)],Ec,[(11,[[],[2],[2],[2],[],[2],[2],[2],[],[1]]),(14,[[],[2],[2],[2],[],[2],[2],[2],[],[1]])],[(0,AJk,AJj)]⟩ X1 Tryz.func186 ku
def AJr:=Chn.g AQF ⟨187,0,0,2,0,none,AJq,[(.ret,AJp)],A8,[],[(0,ACN,ACL)]⟩ aS Tryz.func187 fC
def APq:=Chn.g AJr ⟨185,0,0,1,0,none,APp,[(.ret,BX)],A8,[],[]⟩ pE Tryz.func185 kY
def APs:=Chn.g APq ⟨99,0,0,2,0,none,APr,[(.ret,E5)],Ec,[],[(0,AJY,AJW),(1,AJX,AJV)]⟩ Ct Tryz.func99 Q5
def AL3:=Chn.g APs ⟨257,0,0,1,0,none,Bg,[(.ret,BX)],A8,[],[]⟩ b7 Tryz.func257 jT
def AGb:=Chn.g AL3 ⟨199,0,0,2,0,none,R0,[(.ret,Bg)],A8,[],[]⟩ Zv Tryz.func199 cJ
def Zp:=Chn.g AGb ⟨353,0,0,3,0,none,AR8,[(.ret,k6)],A8,[],[]⟩ sH Tryz.func353 sG
theorem AL2:Tryz.f343.body.isSome=true:=by kernel_rfl
theorem AL1 : (Tryz.f343.name == "runtime.NumGoroutine") = false := by kernel_rfl
theorem AL0:loops (Bu Tryz.f343)=0:=by kernel_rfl
def gD[Lk]:Env:=Zp.e.ext 343 false false (CJ Tryz.prog Zp.e {} Tryz.f343)
theorem iS:BC Tryz.prog gD:=Env.B7 Zp.h (Br Zp.h Tryz.func343 AL2 AL1 AL0) (by simp) (by simp)
def AMn:=Chn.g ⟨gD,iS⟩ ⟨352,0,0,2,0,some (1,343),AMm,[(.ret,AMl)],Bf,[],[(0,AGi,AGh)]⟩ XF Tryz.func352 jf
def AGJ:=Chn.g AMn ⟨342,0,0,4,0,some (3,343),AGI,[(.ret,jU)],TY,[],[(0,yl,yi),(1,yk,yh),(2,yj,yg)]⟩ To Tryz.func342 SV
def AR7:=Chn.g AGJ ⟨317,0,0,3,0,none,ADd,[(.ret,jU)],TY,[],[]⟩ jS Tryz.func317 bw
def ANK:=Chn.g AR7 ⟨321,0,0,2,0,none,ANJ,[(.ret,tC)],A8,[],[(0,AG4,AG3)]⟩ nU Tryz.func321 jx
def AG2:=Chn.g ANK ⟨320,0,0,3,0,none,ADd,[(.ret,E5)],Ec,[],[(0,ze,zd)]⟩ Z0 Tryz.func320 ct
def ANA:=Chn.g AG2 ⟨277,0,0,3,0,none,AM9,[(.ret,E5)],Ec,[(1,[[],[],[],[0],[2]])],[]⟩ nT Tryz.func277 jt
def ASn:=Chn.g ANA ⟨275,0,0,4,0,none,ASm,[(.ret,E5)],Ec,[],[(0,AMu,AMs),(1,AMt,AMr)]⟩ ji Tryz.func275 cW
def AGl:=Chn.g ASn ⟨276,0,0,2,0,none,AGk,[(.ret,AGj)],Bf,[],[(0,zI,zH)]⟩ Tw Tryz.func276 cV
def AJt:=Chn.g AGl ⟨237,0,0,2,0,none,kz,[(.ret,AJs)],TY,[(5,[[],[10],[0],[0],[0],[0],[18]])],[(0,ACQ,ACP)]⟩ VR Tryz.func237 TE
def AVB:=Chn.g AJt ⟨178,0,0,2,0,none,kz,[(.ret,N9)],Ec,[],[]⟩ fA Tryz.func178 ez
def VT:=Chn.g AVB ⟨96,0,0,2,0,none,AQN,[(.ret,AQM)],Ec,[],[(0,AJ0,AJy),(1,AJz,AJx)]⟩ P2 Tryz.func96 X5
theorem AKv:Tryz.f189.body.isSome=true:=by kernel_rfl
theorem AKu : (Tryz.f189.name == "runtime.NumGoroutine") = false := by kernel_rfl
theorem AKt:loops (Bu Tryz.f189)=0:=by kernel_rfl
def ZP[Lk]:Env:=VT.e.ext 189 false false (CJ Tryz.prog VT.e {} Tryz.f189)
theorem gM:BC Tryz.prog ZP:=Env.B7 VT.h (Br VT.h Tryz.func189 AKv AKu AKt) (by simp) (by simp)
def od:=Chn.g ⟨ZP,gM⟩ ⟨206,0,1,2,0,some (1,189),UW,[(.ret,oc)],A8,[],[(0,gr,gq)]⟩ S3 Tryz.func206 R8
def AMe:=Chn.g od ⟨169,0,0,2,0,none,LZ,[(.ret,Bg)],A8,[],[(0,AGc,J1)]⟩ nC Tryz.func169 ja
def AMk:=Chn.g AMe ⟨170,0,0,1,0,none,Bg,[(.ret,Gr)],A8,[],[(0,AGg,AE1)]⟩ nF Tryz.func170 je
def AMG:=Chn.g AMk ⟨172,0,1,2,0,none,AMF,[(.ret,sJ)],A8,[],[(0,AGP,AGO)]⟩ b9 Tryz.func172 jW
def ASR:=Chn.g AMG ⟨230,0,1,3,0,none,E5,[(.ret,ADk)],A8,[],[]⟩ sO Tryz.func230 cB
def ACC:=Chn.g ASR ⟨229,0,1,2,0,some (1,230),ACB,[(.ret,ek)],A8,[],[(0,vw,vv)]⟩ VP Tryz.func229 Y8
def sN:=Chn.g ACC ⟨171,0,1,2,0,none,AMK,[(.ret,ek)],A8,[],[]⟩ mo Tryz.func171 jX
theorem AQW : (Tryz.f181.name == "runtime.NumGoroutine") = false := by kernel_rfl
theorem px:FE Tryz.prog Tryz.f181 30 65 (.prod (.int .i64) (.prod (.int .i64) (.prod (.int .i64) (.prod .bool .unit)))) where
 body:=by kernel_rfl
 nt:=by kernel_rfl
 res:=by kernel_rfl
 d:=⟨by kernel_rfl,by kernel_rfl,by kernel_rfl,by kernel_rfl,by kernel_rfl,by kernel_rfl,by kernel_rfl,by kernel_rfl⟩
 g:=⟨by kernel_rfl,by kernel_rfl,by kernel_rfl,by kernel_rfl,by kernel_rfl,by kernel_rfl,by kernel_rfl,by kernel_rfl⟩
 o00:=by kernel_rfl
 o10:=by kernel_rfl
 o11:=by kernel_rfl
 o20:=by kernel_rfl
 o30:=by kernel_rfl
 o31:=by kernel_rfl
 o32:=by kernel_rfl
 o33:=by kernel_rfl
 sl:=by kernel_rfl
 z:=by kernel_rfl
 by1:=by kernel_rfl
def xx[Lk]:Env:=sN.e.ext 181 true true (Di 65 (.prod (.int .i64) (.prod (.int .i64) (.prod (.int .i64) (.prod .bool .unit)))))
theorem xw:BC Tryz.prog xx:=Env.B7 sN.h (Ku px Tryz.func181 AQW) (fun _=>Bw _ _) (fun _=>(Bw _ _).ru)
def AT4:=Chn.g ⟨xx,xw⟩ ⟨373,0,0,2,0,none,R0,[(.ret,BX)],A8,[],[]⟩ C_ Tryz.func373 vB
def AYm:=Chn.g AT4 ⟨367,0,1,3,0,none,E5,[(.ret,Kd)],BY,[(4,[[],[],[],[],[],[],[0],[0],[],[],[],[0],[0]]),(6,[[],[],[],[],[],[],[],[],[0],[0],[],[],[0],[0],[0],[1],[0],[1]])],[(0,AUP,oT),(1,AUO,AUN)]⟩ AaH Tryz.func367 AUQ
def ASZ:=Chn.g AYm ⟨379,0,1,4,0,none,LB,[(.ret,Kd)],BY,[(6,[[],[],[],[],[],[],[],[],[],[],[],[],[0],[0],[],[],[],[],[0],[0],[0],[1],[0],[1]]),(5,[[],[],[],[],[0],[0],[],[],[],[],[0],[0]]),(3,[[],[],[],[],[],[],[],[],[],[0],[0],[],[],[],[],[],[0],[0]])],[(0,AMV,AMU)]⟩ AW8 Tryz.func379 AMW
def AUi:=Chn.g ASZ ⟨368,0,1,3,0,none,E5,[(.ret,Kd)],BY,[(10,[[],[],[],[],[],[],[],[],[],[],[0],[0],[],[],[0],[0],[0],[1],[0],[1]])],[(0,APU,APS),(1,APT,APR)]⟩ AXO Tryz.func368 APV
def AH4:=Chn.g AUi ⟨383,0,2,4,0,none,AH2,[(.ret,AH1)],Bf,[(1,[[],[],[0],[0],[],[],[0],[0]])],[]⟩ AEO Tryz.func383 AAt
def AIV:=Chn.g AH4 ⟨381,0,2,5,0,none,AIT,[(.ret,kG)],A8,[],[]⟩ AEc Tryz.func381 ABC
def AIk:=Chn.g AIV ⟨380,0,2,3,0,none,AIi,[(.ret,kG)],A8,[],[]⟩ AEh Tryz.func380 ABL
def ANb:=Chn.g AIk ⟨370,0,1,3,0,none,E5,[(.ret,ANZ)],Bf,[],[]⟩ ANc Tryz.func370 AHD
def AX1:=Chn.g ANb ⟨371,0,1,3,0,none,E5,[(.ret,Kd)],BY,[(3,[[],[],[],[],[],[],[0],[0],[],[],[0],[0],[0],[1],[0],[1]])],[(0,ASw,oT)]⟩ AZ0 Tryz.func371 ASx
def AAQ:=Chn.g AX1 ⟨372,0,1,3,0,none,E5,[(.ret,ADk)],A8,[(11,[[],[],[],[],[],[],[],[],[0],[0],[],[],[0],[0],[0],[1],[0],[1]]),(5,[[],[],[],[],[],[],[0],[0],[],[],[],[0],[0]]),(17,[[],[],[],[],[],[],[],[],[0],[0],[],[],[0],[0],[0],[1],[0],[1]]),(16,[[],[],[0],[0],[],[],[],[0],[0]]),(23,[[],[],[],[],[],[],[],[],[0],[0],[],[],[0],[0],[0],[1],[0],[1]]),(22,[[],[],[0],[0],[],[],[],[0],[0]])],[(0,Yi,uF),(1,Yi,uE),(2,uH,uD),(3,uG,uC)]⟩ uJ Tryz.func372 uI
def AHg:=Chn.g AAQ ⟨374,0,1,4,0,none,LB,[(.ret,sJ)],A8,[(8,[[],[],[],[],[],[],[0],[0],[],[],[0],[0],[0],[1],[0],[1]]),(3,[[],[],[],[],[],[],[0],[0],[],[],[0],[0]]),(5,[[],[],[],[],[],[],[0],[0],[],[],[0],[0]]),(1,[[],[],[],[],[],[],[0],[0],[],[],[0],[0],[0],[1],[0],[1]])],[(0,Sj,AAi),(1,Sj,AAh),(2,Sj,AAg)]⟩ AEI Tryz.func374 AAj
def ATi:=Chn.g AHg ⟨375,0,1,4,0,none,LB,[(.ret,ATg)],Bf,[(3,[[],[],[],[],[],[],[0],[0],[],[],[0],[0]]),(5,[[],[],[],[],[],[],[0],[0],[],[],[0],[0]]),(18,[[],[],[],[],[],[],[0],[0],[],[],[0],[0],[0],[1],[0],[1]]),(13,[[],[],[],[],[],[],[0],[0],[],[],[0],[0]]),(15,[[],[],[],[],[],[],[0],[0],[],[],[0],[0]]),(21,[[],[],[],[],[],[],[0],[0],[],[],[0],[0],[0],[1],[0],[1]]),(10,[[],[],[],[],[],[],[0],[0],[],[],[0],[0],[0],[1],[0],[1]]),(8,[[],[],[],[],[],[],[0],[0],[],[],[0],[0],[0],[1],[0],[1]]),(1,[[],[],[],[],[],[],[0],[0],[],[],[0],[0],[0],[1],[0],[1]])],[(0,PT,AOC),(1,PT,AOB),(2,PT,AOA),(3,PT,AN9),(4,PT,AN8)]⟩ AXH Tryz.func375 AOD
theorem AA7:Tryz.f346.body.isSome=true:=by kernel_rfl
theorem AA6 : (Tryz.f346.name == "runtime.NumGoroutine") = false := by kernel_rfl
theorem AA5:loops (Bu Tryz.f346)=0:=by kernel_rfl
theorem ANH:Tryz.f291.body.isSome=true:=by kernel_rfl
theorem ANG : (Tryz.f291.name == "runtime.NumGoroutine") = false := by kernel_rfl
theorem ANF:loops (Bu Tryz.f291)=0:=by kernel_rfl
theorem AYS:Tryz.f290.body.isSome=true:=by kernel_rfl
theorem AYR : (Tryz.f290.name == "runtime.NumGoroutine") = false := by kernel_rfl
theorem AYQ:loops (Bu Tryz.f290)=0:=by kernel_rfl
theorem AJ7:Tryz.f215.body.isSome=true:=by kernel_rfl
theorem AJ6 : (Tryz.f215.name == "runtime.NumGoroutine") = false := by kernel_rfl
theorem AJ5:loops (Bu Tryz.f215)=0:=by kernel_rfl
theorem AZT:Tryz.f143.body.isSome=true:=by kernel_rfl
theorem AZS : (Tryz.f143.name == "runtime.NumGoroutine") = false := by kernel_rfl
theorem AZR:loops (Bu Tryz.f143)=0:=by kernel_rfl
theorem AZQ:Tryz.f144.body.isSome=true:=by kernel_rfl
theorem AZP : (Tryz.f144.name == "runtime.NumGoroutine") = false := by kernel_rfl
theorem AZO:loops (Bu Tryz.f144)=0:=by kernel_rfl
def AU3:=Chn.g ATi ⟨183,0,0,2,0,none,dm,[(.ret,Bg)],A8,[],[]⟩ DB Tryz.func183 vX
def AYi:=Chn.g AU3 ⟨280,0,1,4,0,some (3,183),Xg,[(.ret,Kb)],BY,[(4,[[],[],[],[],[],[],[],[0],[0],[],[],[],[0],[0]]),(6,[[],[],[],[],[],[],[],[],[0],[0],[],[],[0],[0],[0],[1],[0],[1]])],[(0,AUH,oR),(1,AUG,AUF)]⟩ AaF Tryz.func280 AUI
def ASV:=Chn.g AYi ⟨322,0,1,5,0,some (4,183),K_,[(.ret,Kb)],BY,[(6,[[],[],[],[],[],[],[],[],[],[],[],[],[0],[0],[],[],[],[],[0],[0],[0],[1],[0],[1]]),(5,[[],[],[],[],[],[0],[0],[],[],[],[],[0],[0]]),(3,[[],[],[],[],[],[],[],[],[],[],[0],[0],[],[],[],[],[],[0],[0]])],[(0,AMP,AMO)]⟩ AW6 Tryz.func322 AMQ
def AUe:=Chn.g ASV ⟨281,0,1,4,0,some (3,183),Xg,[(.ret,Kb)],BY,[(10,[[],[],[],[],[],[],[],[],[],[],[0],[0],[],[],[0],[0],[0],[1],[0],[1]])],[(0,APK,API),(1,APJ,APH)]⟩ AXM Tryz.func281 APL
def AHw:=Chn.g AUe ⟨345,0,2,5,0,some (4,183),AHu,[(.ret,AHt)],Bf,[(1,[[],[],[],[0],[0],[],[],[0],[0]])],[]⟩ AEM Tryz.func345 AAr
def AIP:=Chn.g AHw ⟨324,0,2,6,0,some (5,183),AIN,[(.ret,kE)],A8,[],[]⟩ AEa Tryz.func324 ABA
def AIe:=Chn.g AIP ⟨323,0,2,4,0,some (3,183),AIc,[(.ret,kE)],A8,[],[]⟩ AEf Tryz.func323 ABJ
def ANT:=Chn.g AIe ⟨283,0,1,4,0,some (3,183),Xg,[(.ret,ANR)],Bf,[],[]⟩ ANU Tryz.func283 AHB
def AXx:=Chn.g ANT ⟨284,0,1,4,0,some (3,183),Xg,[(.ret,Kb)],BY,[(3,[[],[],[],[],[],[],[0],[0],[],[],[0],[0],[0],[1],[0],[1]])],[(0,ASs,oR)]⟩ AZy Tryz.func284 ASt
def AAL:=Chn.g AXx ⟨285,0,1,4,0,some (3,183),Xg,[(.ret,AAJ)],A8,[(11,[[],[],[],[],[],[],[],[],[0],[0],[],[],[0],[0],[0],[1],[0],[1]]),(5,[[],[],[],[],[],[],[],[0],[0],[],[],[],[0],[0]]),(17,[[],[],[],[],[],[],[],[],[0],[0],[],[],[0],[0],[0],[1],[0],[1]]),(16,[[],[],[],[0],[0],[],[],[],[0],[0]]),(23,[[],[],[],[],[],[],[],[],[0],[0],[],[],[0],[0],[0],[1],[0],[1]]),(22,[[],[],[],[0],[0],[],[],[],[0],[0]])],[(0,Yg,ti),(1,Yg,th),(2,tn,tg),(3,tj,tf)]⟩ tq Tryz.func285 tp
def AHb:=Chn.g AAL ⟨286,0,1,5,0,some (4,183),K_,[(.ret,AHZ)],A8,[(8,[[],[],[],[],[],[],[0],[0],[],[],[0],[0],[0],[1],[0],[1]]),(3,[[],[],[],[],[],[],[],[0],[0],[],[],[0],[0]]),(5,[[],[],[],[],[],[],[],[0],[0],[],[],[0],[0]]),(1,[[],[],[],[],[],[],[0],[0],[],[],[0],[0],[0],[1],[0],[1]])],[(0,Sh,AAa),(1,Sh,AAZ),(2,Sh,AAY)]⟩ AEG Tryz.func286 AAb
def ATd:=Chn.g AHb ⟨287,0,1,5,0,some (4,183),K_,[(.ret,ATb)],Bf,[(3,[[],[],[],[],[],[],[],[0],[0],[],[],[0],[0]]),(5,[[],[],[],[],[],[],[],[0],[0],[],[],[0],[0]]),(18,[[],[],[],[],[],[],[0],[0],[],[],[0],[0],[0],[1],[0],[1]]),(13,[[],[],[],[],[],[],[],[0],[0],[],[],[0],[0]]),(15,[[],[],[],[],[],[],[],[0],[0],[],[],[0],[0]]),(21,[[],[],[],[],[],[],[0],[0],[],[],[0],[0],[0],[1],[0],[1]]),(10,[[],[],[],[],[],[],[0],[0],[],[],[0],[0],[0],[1],[0],[1]]),(8,[[],[],[],[],[],[],[0],[0],[],[],[0],[0],[0],[1],[0],[1]]),(1,[[],[],[],[],[],[],[0],[0],[],[],[0],[0],[0],[1],[0],[1]])],[(0,PQ,AN0),(1,PQ,ANz),(2,PQ,ANy),(3,PQ,ANx),(4,PQ,ANw)]⟩ AXF Tryz.func287 AN1
def AUp:=Chn.g ATd ⟨58,0,0,2,0,none,dZ,[(.ret,BX)],A8,[],[]⟩ kV Tryz.func58 eL
def ABh:=Chn.g AUp ⟨107,0,0,1,0,none,Bg,[(.ret,BX)],A8,[],[]⟩ Pp Tryz.func107 Yx
def Q9:=Chn.g ABh ⟨20,0,0,1,0,none,Js,[(.ret,UE)],A8,[(7,[[],[0],[0],[],[],[],[],[0],[0],[],[],[],[],[],[],[3,4]])],[(0,cf,ec)]⟩ aO Tryz.func20 ee
theorem AXp:Tryz.f163.body.isSome=true:=by kernel_rfl
theorem AXo : (Tryz.f163.name == "runtime.NumGoroutine") = false := by kernel_rfl
theorem AXn:loops (Bu Tryz.f163)=0:=by kernel_rfl
abbrev AXi(self:(Int×Int×List (Int×Int)×Unit)->Option ((Int×List (Int×Int)×Int×Unit))):Hints:={ fp:=fun n=>match n with|5=>[[6,1000008],[],[],[1000005,1,3,6,5],[6,1000008],[],[],[],[],[1000005,1,3,6,5],[],[]]|_=>[] }
abbrev ALk(self:(Int×Int×List (Int×Int)×Unit)->Option ((Int×List (Int×Int)×Int×Unit))):Env:=Q9.e.ext 295 false true (thin (BT 4 4 bl bk A8 self))
theorem ALi(self:(Int×Int×List (Int×Int)×Unit)->Option ((Int×List (Int×Int)×Int×Unit))):∀ v,ALj self v=Cq 4 Tryz.prog (ALk self) (AXi self) Tryz.f295 bl bk A8 v:=by rintro⟨a,b,c,⟨⟩⟩;kernel_rfl
theorem AXh:CD (Bu Tryz.f295) 0=[]:=by kernel_rfl
theorem yX:∀ n,BS Tryz.prog 295 (thin (BT 4 4 bl bk A8 (SS n))):=by
 intro n;induction n with
  |zero=>exact(ADW (E1 fun _=>rfl))
  |succ n a=>have b:BC Tryz.prog (ALk (SS n)):=Env.B7 Q9.h a ((by simp)) (fun _=>ADX (CP rfl rfl));let self:=SS n;exact(ADW (En b Tryz.func295 (by kernel_rfl) (by kernel_rfl) rfl (ALi self) (CU AXh trivial)))
theorem AF9:BS Tryz.prog 295 (thin (BT 4 4 bl bk A8 ARw)):=by have e:ARw=SS 100:=funext ARv;rw[e];exact yX _
def ARP[Lk]:Env:=Q9.e.ext 295 false true (thin (BT 4 4 bl bk A8 ARw))
theorem AK1:BC Tryz.prog ARP:=Env.B7 Q9.h AF9 ((by simp)) (fun _=>ADX (CP rfl rfl))
theorem AQV : (Tryz.f232.name == "runtime.NumGoroutine") = false := by kernel_rfl
theorem pw:FE Tryz.prog Tryz.f232 78 115 (.int .u32) where
 body:=by kernel_rfl
 nt:=by kernel_rfl
 res:=by kernel_rfl
 d:=⟨by kernel_rfl,by kernel_rfl,by kernel_rfl,by kernel_rfl,by kernel_rfl,by kernel_rfl,by kernel_rfl,by kernel_rfl⟩
 g:=⟨by kernel_rfl,by kernel_rfl,by kernel_rfl,by kernel_rfl,by kernel_rfl,by kernel_rfl,by kernel_rfl,by kernel_rfl⟩
 o00:=by kernel_rfl
 o10:=by kernel_rfl
 o11:=by kernel_rfl
 o20:=by kernel_rfl
 o30:=by kernel_rfl
 o31:=by kernel_rfl
 o32:=by kernel_rfl
 o33:=by kernel_rfl
 sl:=by kernel_rfl
 z:=by kernel_rfl
 by1:=by kernel_rfl
def xv[Lk]:Env:=ARP.ext 232 true true (Di 115 (.int .u32))
theorem xu:BC Tryz.prog xv:=Env.B7 AK1 (Ku pw Tryz.func232 AQV) (fun _=>Bw _ _) (fun _=>(Bw _ _).ru)
def AYX:=Chn.g ⟨xv,xu⟩ ⟨341,0,0,1,0,none,pZ,[(.ret,BX)],A8,[],[]⟩ ATu Tryz.func341 ATt
def AT3:=Chn.g AYX ⟨314,0,0,2,0,none,AT2,[(.ret,BX)],A8,[],[]⟩ DP Tryz.func314 AOn
def AYg:=Chn.g AT3 ⟨308,0,1,3,0,none,N9,[(.ret,Ka)],BY,[(4,[[],[],[],[],[],[],[0],[0],[],[],[],[0],[0]]),(6,[[],[],[],[],[],[],[],[],[0],[0],[],[],[0],[0],[0],[1],[0],[1]])],[(0,AUD,oQ),(1,AUC,AUB)]⟩ AaE Tryz.func308 AUE
def AST:=Chn.g AYg ⟨338,0,1,4,0,none,K9,[(.ret,Ka)],BY,[(6,[[],[],[],[],[],[],[],[],[],[],[],[],[0],[0],[],[],[],[],[0],[0],[0],[1],[0],[1]]),(5,[[],[],[],[],[0],[0],[],[],[],[],[0],[0]]),(3,[[],[],[],[],[],[],[],[],[],[0],[0],[],[],[],[],[],[0],[0]])],[(0,AMM,AML)]⟩ AW5 Tryz.func338 AMN
def AUc:=Chn.g AST ⟨309,0,1,3,0,none,N9,[(.ret,Ka)],BY,[(10,[[],[],[],[],[],[],[],[],[],[],[0],[0],[],[],[0],[0],[0],[1],[0],[1]])],[(0,APF,APD),(1,APE,APC)]⟩ AXL Tryz.func309 APG
def AHs:=Chn.g AUc ⟨351,0,2,4,0,none,AHq,[(.ret,AHp)],Bf,[(1,[[],[],[0],[0],[],[],[0],[0]])],[]⟩ AEL Tryz.func351 AAq
def AIM:=Chn.g AHs ⟨340,0,2,5,0,none,AIK,[(.ret,kD)],A8,[],[]⟩ AEZ Tryz.func340 AA9
def AIb:=Chn.g AIM ⟨339,0,2,3,0,none,AIZ,[(.ret,kD)],A8,[],[]⟩ AEe Tryz.func339 ABI
def ANP:=Chn.g AIb ⟨311,0,1,3,0,none,N9,[(.ret,ANN)],Bf,[],[]⟩ ANQ Tryz.func311 AHA
def AXv:=Chn.g ANP ⟨312,0,1,3,0,none,N9,[(.ret,Ka)],BY,[(3,[[],[],[],[],[],[],[0],[0],[],[],[0],[0],[0],[1],[0],[1]])],[(0,ASq,oQ)]⟩ AZx Tryz.func312 ASr
def AAI:=Chn.g AXv ⟨313,0,1,3,0,none,N9,[(.ret,AAG)],A8,[(11,[[],[],[],[],[],[],[],[],[0],[0],[],[],[0],[0],[0],[1],[0],[1]]),(5,[[],[],[],[],[],[],[0],[0],[],[],[],[0],[0]]),(17,[[],[],[],[],[],[],[],[],[0],[0],[],[],[0],[0],[0],[1],[0],[1]]),(16,[[],[],[0],[0],[],[],[],[0],[0]]),(23,[[],[],[],[],[],[],[],[],[0],[0],[],[],[0],[0],[0],[1],[0],[1]]),(22,[[],[],[0],[0],[],[],[],[0],[0]])],[(0,Yf,tX),(1,Yf,tW),(2,tZ,tV),(3,tY,tU)]⟩ te Tryz.func313 tc
def AHY:=Chn.g AAI ⟨315,0,1,4,0,none,K9,[(.ret,AHW)],A8,[(8,[[],[],[],[],[],[],[0],[0],[],[],[0],[0],[0],[1],[0],[1]]),(3,[[],[],[],[],[],[],[0],[0],[],[],[0],[0]]),(5,[[],[],[],[],[],[],[0],[0],[],[],[0],[0]]),(1,[[],[],[],[],[],[],[0],[0],[],[],[0],[0],[0],[1],[0],[1]])],[(0,Sg,AAW),(1,Sg,AAV),(2,Sg,AAU)]⟩ AEF Tryz.func315 AAX
def ATa:=Chn.g AHY ⟨316,0,1,4,0,none,K9,[(.ret,ATY)],Bf,[(3,[[],[],[],[],[],[],[0],[0],[],[],[0],[0]]),(5,[[],[],[],[],[],[],[0],[0],[],[],[0],[0]]),(18,[[],[],[],[],[],[],[0],[0],[],[],[0],[0],[0],[1],[0],[1]]),(13,[[],[],[],[],[],[],[0],[0],[],[],[0],[0]]),(15,[[],[],[],[],[],[],[0],[0],[],[],[0],[0]]),(21,[[],[],[],[],[],[],[0],[0],[],[],[0],[0],[0],[1],[0],[1]]),(10,[[],[],[],[],[],[],[0],[0],[],[],[0],[0],[0],[1],[0],[1]]),(8,[[],[],[],[],[],[],[0],[0],[],[],[0],[0],[0],[1],[0],[1]]),(1,[[],[],[],[],[],[],[0],[0],[],[],[0],[0],[0],[1],[0],[1]])],[(0,PO,ANu),(1,PO,ANt),(2,PO,ANs),(3,PO,ANr),(4,PO,ANq)]⟩ AXE Tryz.func316 ANv
def AY9:=Chn.g ATa ⟨16,0,0,0,0,none,AB8,[(.ret,AY8)],AY7,[],[]⟩ X0 Tryz.func16 aP
def ASQ:=Chn.g AY9 ⟨129,0,0,2,0,none,eP,[(.ret,Bg)],A8,[(1,[[0],[0],[2],[2],[],[0],[0],[2],[2],[],[],[20]])],[]⟩ DO Tryz.func129 AMJ
def AUY:=Chn.g ASQ ⟨260,0,1,4,0,some (3,129),Qx,[(.ret,De)],BY,[(4,[[],[],[],[],[],[],[],[0],[0],[],[],[],[0],[0]]),(6,[[],[],[],[],[],[],[],[],[0],[0],[],[],[0],[0],[0],[1],[0],[1]])],[(0,AO5,Qw),(1,AO4,AO3)]⟩ AXK Tryz.func260 AO6
def AMb:=Chn.g AUY ⟨297,0,1,5,0,some (4,129),IY,[(.ret,De)],BY,[(6,[[],[],[],[],[],[],[],[],[],[],[],[],[0],[0],[],[],[],[],[0],[0],[0],[1],[0],[1]]),(5,[[],[],[],[],[],[0],[0],[],[],[],[],[0],[0]]),(3,[[],[],[],[],[],[],[],[],[],[],[0],[0],[],[],[],[],[],[0],[0]])],[(0,AGR,sQ)]⟩ AMc Tryz.func297 AGS
def APc:=Chn.g AMb ⟨261,0,1,4,0,some (3,129),Qx,[(.ret,De)],BY,[(10,[[],[],[],[],[],[],[],[],[],[],[0],[0],[],[],[0],[0],[0],[1],[0],[1]])],[(0,AJK,AJI),(1,AJJ,kS)]⟩ APd Tryz.func261 AJL
def AAy:=Chn.g APc ⟨332,0,2,5,0,some (4,129),AAw,[(.ret,kA)],Bf,[(1,[[],[],[],[0],[0],[],[],[0],[0]])],[]⟩ ug Tryz.func332 uf
def ABH:=Chn.g AAy ⟨301,0,2,6,0,some (5,129),ABF,[(.ret,Nn)],A8,[],[]⟩ ux Tryz.func301 uw
def AS1:=Chn.g ABH ⟨264,0,1,4,0,some (3,129),Qx,[(.ret,De)],BY,[(3,[[],[],[],[],[],[],[0],[0],[],[],[0],[0],[0],[1],[0],[1]])],[(0,ADt,Qw)]⟩ AXB Tryz.func264 AM1
def uS:=Chn.g AS1 ⟨265,0,1,4,0,some (3,129),Qx,[(.ret,dE)],A8,[(11,[[],[],[],[],[],[],[],[],[0],[0],[],[],[0],[0],[0],[1],[0],[1]]),(5,[[],[],[],[],[],[],[],[0],[0],[],[],[],[0],[0]]),(17,[[],[],[],[],[],[],[],[],[0],[0],[],[],[0],[0],[0],[1],[0],[1]]),(16,[[],[],[],[0],[0],[],[],[],[0],[0]]),(23,[[],[],[],[],[],[],[],[],[0],[0],[],[],[0],[0],[0],[1],[0],[1]]),(22,[[],[],[],[0],[0],[],[],[],[0],[0]])],[(0,T8,Yk),(1,T8,ny),(2,n5,nx),(3,nz,nw)]⟩ j6 Tryz.func265 n6
def AAp:=Chn.g uS ⟨266,0,1,5,0,some (4,129),IY,[(.ret,j7)],A8,[(8,[[],[],[],[],[],[],[0],[0],[],[],[0],[0],[0],[1],[0],[1]]),(3,[[],[],[],[],[],[],[],[0],[0],[],[],[0],[0]]),(5,[[],[],[],[],[],[],[],[0],[0],[],[],[0],[0]]),(1,[[],[],[],[],[],[],[0],[0],[],[],[0],[0],[0],[1],[0],[1]])],[(0,PW,dK),(1,PW,ua),(2,PW,uZ)]⟩ uc Tryz.func266 ub
def AOL:=Chn.g AAp ⟨267,0,1,5,0,some (4,129),IY,[(.ret,AEK)],Bf,[(3,[[],[],[],[],[],[],[],[0],[0],[],[],[0],[0]]),(5,[[],[],[],[],[],[],[],[0],[0],[],[],[0],[0]]),(18,[[],[],[],[],[],[],[0],[0],[],[],[0],[0],[0],[1],[0],[1]]),(13,[[],[],[],[],[],[],[],[0],[0],[],[],[0],[0]]),(15,[[],[],[],[],[],[],[],[0],[0],[],[],[0],[0]]),(21,[[],[],[],[],[],[],[0],[0],[],[],[0],[0],[0],[1],[0],[1]]),(10,[[],[],[],[],[],[],[0],[0],[],[],[0],[0],[0],[1],[0],[1]]),(8,[[],[],[],[],[],[],[0],[0],[],[],[0],[0],[0],[1],[0],[1]]),(1,[[],[],[],[],[],[],[0],[0],[],[],[0],[0],[0],[1],[0],[1]])],[(0,MV,AHm),(1,MV,AHl),(2,MV,ud),(3,MV,AHk),(4,MV,AHj)]⟩ AOM Tryz.func267 AHn
def AUm:=Chn.g AOL ⟨55,0,0,2,0,none,AUl,[(.ret,BX)],A8,[(4,[[],[],[],[],[0]])],[(0,APe,vR)]⟩ kU Tryz.func55 vS
def AKq:=Chn.g AUm ⟨53,0,0,2,0,none,KD,[(.ret,Bg)],A8,[(6,[[],[],[],[],[],[],[],[],[],[],[],[],[0],[0],[],[],[],[],[],[],[],[],[],[],[],[],[],[],[],[],[0],[0]])],[(0,ACy,J1)]⟩ aY Tryz.func53 fc
def AG7:=Chn.g AKq ⟨54,0,0,2,0,none,LZ,[(.ret,UE)],A8,[],[(0,zk,kH),(1,zj,zi)]⟩ Z1 Tryz.func54 c6
def ATs:=Chn.g AG7 ⟨22,0,0,2,0,none,KD,[(.ret,Z8)],Bf,[],[(0,AOb,AOa)]⟩ AEW Tryz.func22 uo
def AGT:=Chn.g ATs ⟨56,0,0,1,0,none,Bg,[(.ret,BX)],A8,[],[]⟩ Na Tryz.func56 cE
def AGu:=Chn.g AGT ⟨23,0,0,1,0,none,qT,[(.ret,BX)],A8,[],[(0,zO,zM),(1,zN,zL)]⟩ Zx Tryz.func23 cd
def AMj:=Chn.g AGu ⟨35,0,0,2,0,none,AMi,[(.ret,BX)],A8,[(6,[[0],[0],[],[],[],[2],[2]])],[(0,AGf,vR)]⟩ nD Tryz.func35 jd
def AB4:=Chn.g AMj ⟨21,0,0,2,0,none,R0,[(.ret,AB3)],eX,[],[(0,vh,vf),(1,vg,ve)]⟩ VG Tryz.func21 Y2
def AMh:=Chn.g AB4 ⟨24,0,0,2,0,none,AMg,[(.ret,BX)],A8,[],[]⟩ PD Tryz.func24 jc
def AUk:=Chn.g AMh ⟨261,0,1,4,0,some (3,132),Xi,[(.ret,De)],BY,[(10,[[],[],[],[],[],[],[],[],[],[],[0],[0],[],[],[0],[0],[0],[1],[0],[1]])],[(0,APZ,APX),(1,APY,kS)]⟩ AXP Tryz.func261 APa
def AIY:=Chn.g AUk ⟨301,0,2,6,0,some (5,132),AIW,[(.ret,Nn)],A8,[],[]⟩ AEd Tryz.func301 ABE
def AIn:=Chn.g AIY ⟨300,0,2,4,0,some (3,132),AIl,[(.ret,Nn)],A8,[],[]⟩ AEi Tryz.func300 ABN
def ABQ:=Chn.g AIn ⟨300,0,2,4,0,some (3,129),ABO,[(.ret,Nn)],A8,[],[]⟩ uz Tryz.func300 uy
def AHH:=Chn.g ABQ ⟨263,0,1,4,0,some (3,129),Qx,[(.ret,jz)],Bf,[],[]⟩ ADw Tryz.func263 zo
def T5:=Chn.g AHH ⟨263,0,1,4,0,some (3,132),Xi,[(.ret,jz)],Bf,[],[]⟩ ANe Tryz.func263 AHF
set_option maxHeartbeats 8000000
attribute [local irreducible] A2 A9 B2 C5 Iq Df A4 Cu C8 imax idx EX ilt ile ieq seq? quo? rem? shl? shr? fits CY IntKind.wrap A_ BH Om ZU Bl Oo A' many Kq
abbrev AfT:Loc×Con:=(.cell 1 1,.own 3 (.int .i64))
abbrev AfU:Loc×Con:=(.cell 1 0,.own 3 (.int .i64))
abbrev AfV:Loc×Con:=(.cell 0 1,.nil (.int .i64))
abbrev AfW:Loc×Con:=(.cell 0 0,.nil (.int .i64))
abbrev AfX:Loc×Con:=(.tmp 1,.own 3 (.int .i64))
abbrev AfY:Loc×Con:=(.tmp 0,.own 3 (.int .i64))
abbrev AfZ:Loc×Con:=(.tmp 17,.di)
abbrev MP:Row:=⟨64,0,0,1,0,none,[AA],[(.ret,[AfY,AfX,AF])],[.agg 2,.one],[],[(0,[AA,AJ,AfW,AfV,AL,AfU,AfT,Ae7,AfZ],[(.exit 0,[AJ,AfW,AfV,AL,AfU,AfT])])]⟩
def nV[Lk]:=fun v=>Lk.f (BE _ _ v (MP.self Tryz.prog (MP.ev T5.e) Tryz.f64))
def WT[Lk]:Env:=MP.Bh T5.e nV
theorem xc:BC Tryz.prog WT:=Row.BB MP T5.h Tryz.func64 (d:=MP.self Tryz.prog (MP.ev T5.e) Tryz.f64) (fun _=>(A0 _).trans (A5 ..)) (by kernel_rfl) fun _=>rfl
abbrev L_:Row:=⟨28,0,0,1,0,none,[AA],[(.ret,[AfY,AfX,(.tmp 2,.own 161 (.prod (.int .i64) (.prod (.int .i64) (.prod (.slice (.prod (.int .i64) (.prod (.int .i64) .unit))) .unit)))),AS])],[.agg 3,.one],[(4,[[10],[],[],[],[1]])],[]⟩
def mg[Lk]:=fun v=>Lk.f (BE _ _ v (L_.self Tryz.prog (L_.ev WT) Tryz.f28))
def WG[Lk]:Env:=L_.Bh WT mg
theorem xT:BC Tryz.prog WG:=Row.BB L_ xc Tryz.func28 (d:=L_.self Tryz.prog (L_.ev WT) Tryz.f28) (fun _=>(A0 _).trans (A5 ..)) (by kernel_rfl) fun _=>rfl
abbrev Jk:Row:=⟨75,0,0,1,0,none,[(.tmp 0,.dat (.prod (.int .i64) (.prod (.int .i64) (.prod (.slice (.prod (.int .i64) (.prod (.int .i64) .unit))) .unit))))],[(.ret,[AD])],[.one],[],[]⟩
def AR4[Lk]:=fun v=>Lk.f (BE _ _ v (Jk.self Tryz.prog (Jk.ev WG) Tryz.f75))
def RU[Lk]:Env:=Jk.Bh WG AR4
theorem qp:BC Tryz.prog RU:=Row.BB Jk xT Tryz.func75 (d:=Jk.self Tryz.prog (Jk.ev WG) Tryz.f75) (fun _=>(A0 _).trans (A5 ..)) (by kernel_rfl) fun _=>rfl
abbrev Afa:Loc×Con:=(.cell 0 2,.dat (.slice (.prod (.int .i64) (.prod (.int .i64) (.prod (.slice (.prod (.int .i64) (.prod (.int .i64) .unit))) .unit)))))
abbrev Afb:Loc×Con:=(.cell 0 4,.map (.prod (.int .i64) (.prod (.int .i64) .unit)) (.int .i64))
abbrev Afc:Loc×Con:=(.cell 0 3,.own 95 (.prod (.int .i64) (.prod (.int .i64) .unit)))
abbrev Afd:Loc×Con:=(.tmp 1,.dat (.prod (.int .i64) (.prod (.int .i64) .unit)))
abbrev Afe:Loc×Con:=(.cell 0 1,.dat (.slice (.int .i64)))
abbrev Aff:Loc×Con:=(.cell 0 0,.dat (.slice (.int .i64)))
abbrev Afg:Loc×Con:=(.obj 0,.box 5)
abbrev Afh:Loc×Con:=(.cell 3 0,.di)
abbrev HQ:Row:=⟨69,0,1,2,0,none,[(.tmp 0,.box 5),Aff,Afe,Afa,Afc,Afb,Afd],[(.ret,[Afg,Aff,Afe,Afa,Afc,Afb,AA])],[.one],[(6,[[],[0],[0],[0],[0],[6],[6],[],[],[],[],[],[7]]),(5,[[],[],[0],[0],[0],[6],[],[3,8],[0],[0],[1]]),(4,[[],[0],[0],[0],[6],[],[0],[0],[0],[2],[5]]),(1,[[],[0],[0],[0],[6],[4]])],[(0,[Afg,Aff,Afe,Afa,Afc,Afb,Aen,AfM,Afh,AeT],[(.ret,[Afg,Aff,Afe,Afa,Afc,Afb,AR])])]⟩
def ALx[Lk]:=fun v=>Lk.f (BE _ _ v (HQ.self Tryz.prog (HQ.ev RU) Tryz.f69))
def OK[Lk]:Env:=HQ.Bh RU ALx
theorem iQ:BC Tryz.prog OK:=Row.BB HQ qp Tryz.func69 (d:=HQ.self Tryz.prog (HQ.ev RU) Tryz.f69) (fun _=>(A0 _).trans (A5 ..)) (by kernel_rfl) fun _=>rfl
abbrev Afi:Loc×Con:=(.tmp 0,.dat (.int .u32))
abbrev Qs:Row:=⟨268,0,0,1,0,none,[Afi],[(.ret,[AA])],[.one],[],[]⟩
def AaD[Lk]:=fun v=>Lk.f (BE _ _ v (Qs.self Tryz.prog (Qs.ev OK) Tryz.f268))
def ao[Lk]:Env:=Qs.Bh OK AaD
theorem ADG:BC Tryz.prog ao:=Row.BB Qs iQ Tryz.func268 (d:=Qs.self Tryz.prog (Qs.ev OK) Tryz.f268) (fun _=>(A0 _).trans (A5 ..)) (by kernel_rfl) fun _=>rfl
abbrev Afj:Loc×Con:=(.tmp 0,.dat (.slice (.int .i64)))
abbrev Afk:Loc×Con:=(.tmp 1,.dat (.slice (.int .i64)))
abbrev Mk:Row:=⟨71,0,0,2,0,none,[Afj,Afk],[(.ret,[AD])],[.one],[],[(0,[Afj,Afk,AeR],[(.ret,[Ai]),(.exit 0,[])])]⟩
def S0[Lk]:=fun v=>Lk.f (BE _ _ v (Mk.self Tryz.prog (Mk.ev ao) Tryz.f71))
def WZ[Lk]:Env:=Mk.Bh ao S0
theorem xj:BC Tryz.prog WZ:=Row.BB Mk ADG Tryz.func71 (d:=Mk.self Tryz.prog (Mk.ev ao) Tryz.f71) (fun _=>(A0 _).trans (A5 ..)) (by kernel_rfl) fun _=>rfl
abbrev Afl:Loc×Con:=(.tmp 0,.dat (.slice (.int .u32)))
abbrev M9:Row:=⟨140,0,0,2,0,none,[Afl,AE],[(.ret,[Afi])],[.one],[],[]⟩
def AZH[Lk]:=fun v=>Lk.f (BE _ _ v (M9.self Tryz.prog (M9.ev WZ) Tryz.f140))
def Wo[Lk]:Env:=M9.Bh WZ AZH
theorem xt:BC Tryz.prog Wo:=Row.BB M9 xj Tryz.func140 (d:=M9.self Tryz.prog (M9.ev WZ) Tryz.f140) (fun _=>(A0 _).trans (A5 ..)) (by kernel_rfl) fun _=>rfl
abbrev Wy:Row:=⟨214,0,0,1,0,none,[Afi],[(.ret,[AA])],[.one],[],[]⟩
def AaV[Lk]:=fun v=>Lk.f (BE _ _ v (Wy.self Tryz.prog (Wy.ev Wo) Tryz.f214))
def qj[Lk]:Env:=Wy.Bh Wo AaV
theorem AK0:BC Tryz.prog qj:=Row.BB Wy xt Tryz.func214 (d:=Wy.self Tryz.prog (Wy.ev Wo) Tryz.f214) (fun _=>(A0 _).trans (A5 ..)) (by kernel_rfl) fun _=>rfl
abbrev J':Row:=⟨139,0,0,1,0,none,[Afi],[(.ret,[AA])],[.one],[],[]⟩
def AVS[Lk]:=fun v=>Lk.f (BE _ _ v (J'.self Tryz.prog (J'.ev qj) Tryz.f139))
def Rk[Lk]:Env:=J'.Bh qj AVS
theorem rO:BC Tryz.prog Rk:=Row.BB J' AK0 Tryz.func139 (d:=J'.self Tryz.prog (J'.ev qj) Tryz.f139) (fun _=>(A0 _).trans (A5 ..)) (by kernel_rfl) fun _=>rfl
abbrev L3:Row:=⟨136,0,0,1,0,none,[AA],[(.ret,[AD])],[.one],[],[]⟩
def AXc[Lk]:=fun v=>Lk.f (BE _ _ v (L3.self Tryz.prog (L3.ev Rk) Tryz.f136))
def WB[Lk]:Env:=L3.Bh Rk AXc
theorem xP:BC Tryz.prog WB:=Row.BB L3 rO Tryz.func136 (d:=L3.self Tryz.prog (L3.ev Rk) Tryz.f136) (fun _=>(A0 _).trans (A5 ..)) (by kernel_rfl) fun _=>rfl
abbrev Afm:Loc×Con:=(.tmp 1,.dat (.slice (.int .u32)))
abbrev Afn:Loc×Con:=(.tmp 5,.own 3 (.int .i64))
abbrev GB:Row:=⟨61,0,0,2,0,none,[Afj,Afm],[(.ret,[AfY])],[.one],[],[(0,[Afm,Afn,(.tmp 8,.dat (.slice (.int .i64))),Ac,AZ],[(.exit 0,[Afn])])]⟩
def AFr[Lk]:=fun v=>Lk.f (BE _ _ v (GB.self Tryz.prog (GB.ev WB) Tryz.f61))
def Lb[Lk]:Env:=GB.Bh WB AFr
theorem fw:BC Tryz.prog Lb:=Row.BB GB xP Tryz.func61 (d:=GB.self Tryz.prog (GB.ev WB) Tryz.f61) (fun _=>(A0 _).trans (A5 ..)) (by kernel_rfl) fun _=>rfl
abbrev Afo:Loc×Con:=(.tmp 1,.dat (.slice (.prod (.int .i64) (.prod (.int .i64) .unit))))
abbrev Afp:Loc×Con:=(.tmp 7,.own 3 (.int .i64))
abbrev HV:Row:=⟨92,0,0,2,0,none,[AA,Afo],[(.ret,[AfY,AE])],[.one,.one],[],[(0,[Afp,(.tmp 21,.di),(.tmp 22,.di)],[(.exit 0,[Afp])])]⟩
def Tu[Lk]:=fun v=>Lk.f (BE _ _ v (HV.self Tryz.prog (HV.ev Lb) Tryz.f92))
def OP[Lk]:Env:=HV.Bh Lb Tu
theorem iW:BC Tryz.prog OP:=Row.BB HV fw Tryz.func92 (d:=HV.self Tryz.prog (HV.ev Lb) Tryz.f92) (fun _=>(A0 _).trans (A5 ..)) (by kernel_rfl) fun _=>rfl
abbrev Afq:Loc×Con:=(.tmp 0,.dat (.slice (.prod (.int .i64) (.prod (.int .i64) (.prod (.int .i64) (.prod .bool .unit))))))
abbrev Afr:Loc×Con:=(.cell 0 3,.dat .bool)
abbrev Afs:Loc×Con:=(.tmp 2,.clo 154 [])
abbrev YF:Row:=⟨307,0,0,3,0,some (2,154),[Afq,(.tmp 1,.dat (.prod (.int .i64) (.prod (.int .i64) (.prod (.int .i64) (.prod .bool .unit))))),Afs],[(.ret,[AA,At])],[.one,.one],[(5,[[],[],[],[],[],[0]]),(8,[[],[],[],[],[],[],[],[],[],[],[0]])],[(0,[Afq,Afs,(.tmp 4,.box 4),AI,AeO,AfA,Afr,AP,Ac,AZ],[(.exit 0,[Afq,Afs,(.tmp 4,.box 4),AI,AeO,AfA,Afr,AP,Ac])])]⟩
def Aal[Lk]:=fun v=>Lk.f (BE _ _ v (YF.self Tryz.prog (YF.ev OP) Tryz.f307))
def rT[Lk]:Env:=YF.Bh OP Aal
theorem ALD:BC Tryz.prog rT:=Row.BB YF iW Tryz.func307 (d:=YF.self Tryz.prog (YF.ev OP) Tryz.f307) (fun _=>(A0 _).trans (A5 ..)) (by kernel_rfl) fun _=>rfl
abbrev Aft:Loc×Con:=(.tmp 0,.dat (.prod (.int .i64) (.prod (.slice (.prod (.int .i64) (.prod (.int .i64) (.prod (.int .i64) (.prod .bool .unit))))) .unit)))
abbrev Me:Row:=⟨272,0,0,3,0,none,[Aft,AE,AF],[(.ret,[AA,At])],[.one,.one],[],[]⟩
def AYb[Lk]:=fun v=>Lk.f (BE _ _ v (Me.self Tryz.prog (Me.ev rT) Tryz.f272))
def gI[Lk]:Env:=Me.Bh rT AYb
theorem ZM:BC Tryz.prog gI:=Row.BB Me ALD Tryz.func272 (d:=Me.self Tryz.prog (Me.ev rT) Tryz.f272) (fun _=>(A0 _).trans (A5 ..)) (by kernel_rfl) fun _=>rfl
def IJ[Lk]:Env:=gI.ext 346 false false (CJ Tryz.prog gI {} Tryz.f346)
theorem YK:BC Tryz.prog IJ:=Env.B7 ZM (Br ZM Tryz.func346 AA7 AA6 AA5) (by simp) (by simp)
abbrev Afu:Loc×Con:=(.cell 1 1,.dat (.slice (.slice (.int .i64))))
abbrev Afv:Loc×Con:=(.obj 0,.own 3 (.int .i64))
abbrev Afw:Loc×Con:=(.tmp 1,.clo 346 [(1,0)])
abbrev Afx:Loc×Con:=(.obj 1,.box 2)
abbrev D5:Row:=⟨206,0,2,2,0,some (1,346),[AfY,(.cap 1 0,.box 2),AK,Afu,Afw],[(.ret,[Afv,Afx,AK,Afu,AA])],[.one],[],[(0,[Afv,Afx,AK,Afu,Am,Afw,AQ,AP],[(.ret,[Afv,Afx,AK,Afu,AR]),(.exit 0,[Afv,Afx,AK,Afu])])]⟩
def oZ[Lk]:=fun v=>Lk.f (BE _ _ v (D5.self Tryz.prog (D5.ev IJ) Tryz.f206))
def G_[Lk]:Env:=D5.Bh IJ oZ
theorem Wb:BC Tryz.prog G_:=Row.BB D5 YK Tryz.func206 (d:=D5.self Tryz.prog (D5.ev IJ) Tryz.f206) (fun _=>(A0 _).trans (A5 ..)) (by kernel_rfl) fun _=>rfl
abbrev Afy:Loc×Con:=(.tmp 0,.own 65 (.prod (.int .i64) (.prod (.int .i64) (.prod (.int .i64) (.prod .bool .unit)))))
abbrev Qz:Row:=⟨288,0,0,2,0,none,[(.tmp 0,.nil (.prod (.int .i64) (.prod (.int .i64) (.prod (.int .i64) (.prod .bool .unit))))),AE],[(.ret,[Afy])],[.one],[],[]⟩
def AaJ[Lk]:=fun v=>Lk.f (BE _ _ v (Qz.self Tryz.prog (Qz.ev G_) Tryz.f288))
def aq[Lk]:Env:=Qz.Bh G_ AaJ
theorem ADI:BC Tryz.prog aq:=Row.BB Qz Wb Tryz.func288 (d:=Qz.self Tryz.prog (Qz.ev G_) Tryz.f288) (fun _=>(A0 _).trans (A5 ..)) (by kernel_rfl) fun _=>rfl
abbrev Afz:Loc×Con:=(.tmp 0,.dat (.slice (.slice (.prod (.int .i64) (.prod (.int .i64) (.prod (.int .i64) (.prod .bool .unit)))))))
abbrev Af0:Loc×Con:=(.tmp 6,.own 65 (.prod (.int .i64) (.prod (.int .i64) (.prod (.int .i64) (.prod .bool .unit)))))
abbrev J_:Row:=⟨241,0,0,1,0,none,[Afz],[(.ret,[Afy])],[.one],[],[(0,[Afz,AS,(.tmp 9,.dat (.slice (.slice (.prod (.int .i64) (.prod (.int .i64) (.prod (.int .i64) (.prod .bool .unit))))))),AZ,Aa],[(.exit 0,[Afz,AS])]),(1,[Af0,(.tmp 25,.dat (.slice (.slice (.prod (.int .i64) (.prod (.int .i64) (.prod (.int .i64) (.prod .bool .unit))))))),AY,AX],[(.exit 2,[Af0])])]⟩
def AVK[Lk]:=fun v=>Lk.f (BE _ _ v (J_.self Tryz.prog (J_.ev aq) Tryz.f241))
def YO[Lk]:Env:=J_.Bh aq AVK
theorem Wn:BC Tryz.prog YO:=Row.BB J_ ADI Tryz.func241 (d:=J_.self Tryz.prog (J_.ev aq) Tryz.f241) (fun _=>(A0 _).trans (A5 ..)) (by kernel_rfl) fun _=>rfl
def JX[Lk]:Env:=YO.ext 215 false false (CJ Tryz.prog YO {} Tryz.f215)
theorem Zi:BC Tryz.prog JX:=Env.B7 Wn (Br Wn Tryz.func215 AJ7 AJ6 AJ5) (by simp) (by simp)
abbrev Af1:Loc×Con:=(.tmp 1,.clo 215 [(0,0)])
abbrev DA:Row:=⟨206,0,1,2,0,some (1,215),[Afj,(.cap 1 0,.box 1),Aff,Af1],[(.ret,[AB,Aff,AA])],[.one],[],[(0,[AB,Aff,Afj,Af1,AQ,AP],[(.ret,[AB,Aff,AR]),(.exit 0,[AB,Aff])])]⟩
def ZX[Lk]:=fun v=>Lk.f (BE _ _ v (DA.self Tryz.prog (DA.ev JX) Tryz.f206))
def HA[Lk]:Env:=DA.Bh JX ZX
theorem Iz:BC Tryz.prog HA:=Row.BB DA Zi Tryz.func206 (d:=DA.self Tryz.prog (DA.ev JX) Tryz.f206) (fun _=>(A0 _).trans (A5 ..)) (by kernel_rfl) fun _=>rfl
def Rq[Lk]:Env:=HA.ext 143 false false (CJ Tryz.prog HA {} Tryz.f143)
theorem rV:BC Tryz.prog Rq:=Env.B7 Iz (Br Iz Tryz.func143 AZT AZS AZR) (by simp) (by simp)
abbrev Af2:Loc×Con:=(.tmp 7,.dat (.slice (.int .i64)))
abbrev Af3:Loc×Con:=(.cell 1 2,.di)
abbrev M6:Row:=⟨142,0,2,2,0,some (1,143),[Afj,(.cap 1 0,.box 1),Aff,(.cap 1 1,.box 3),AK,Aeq,Af3,(.tmp 1,.clo 143 [(0,0),(1,0)])],[(.ret,[AB,Aff,(.obj 1,.box 3),AK,Aeq,Af3,AA])],[.one],[],[(0,[AB,Aff,(.obj 1,.box 3),AK,Aeq,Af3,(.tmp 1,.clo 143 [(0,0),(1,0)]),AR,Af2,AP,Ac],[(.exit 0,[AB,Aff,(.obj 1,.box 3),AK,Aeq,Af3,AR])])]⟩
def AZG[Lk]:=fun v=>Lk.f (BE _ _ v (M6.self Tryz.prog (M6.ev Rq) Tryz.f142))
def gJ[Lk]:Env:=M6.Bh Rq AZG
theorem ZN:BC Tryz.prog gJ:=Row.BB M6 rV Tryz.func142 (d:=M6.self Tryz.prog (M6.ev Rq) Tryz.f142) (fun _=>(A0 _).trans (A5 ..)) (by kernel_rfl) fun _=>rfl
def Rp[Lk]:Env:=gJ.ext 144 false false (CJ Tryz.prog gJ {} Tryz.f144)
theorem rU:BC Tryz.prog Rp:=Env.B7 ZN (Br ZN Tryz.func144 AZQ AZP AZO) (by simp) (by simp)
abbrev M5:Row:=⟨142,0,0,2,0,some (1,144),[Afj,(.tmp 1,.clo 144 [])],[(.ret,[AA])],[.one],[],[(0,[(.tmp 1,.clo 144 []),AR,Af2,AP,Ac],[(.exit 0,[AR])])]⟩
def AZF[Lk]:=fun v=>Lk.f (BE _ _ v (M5.self Tryz.prog (M5.ev Rp) Tryz.f142))
def Wj[Lk]:Env:=M5.Bh Rp AZF
theorem xr:BC Tryz.prog Wj:=Row.BB M5 rU Tryz.func142 (d:=M5.self Tryz.prog (M5.ev Rp) Tryz.f142) (fun _=>(A0 _).trans (A5 ..)) (by kernel_rfl) fun _=>rfl
abbrev Af4:Loc×Con:=(.tmp 0,.dat (.slice (.int .u8)))
abbrev JY:Row:=⟨162,0,0,2,0,none,[Af4,AE],[(.ret,[AA,At])],[.one,.one],[],[]⟩
def ARY[Lk]:=fun v=>Lk.f (BE _ _ v (JY.self Tryz.prog (JY.ev Wj) Tryz.f162))
def RL[Lk]:Env:=JY.Bh Wj ARY
theorem qg:BC Tryz.prog RL:=Row.BB JY xr Tryz.func162 (d:=JY.self Tryz.prog (JY.ev Wj) Tryz.f162) (fun _=>(A0 _).trans (A5 ..)) (by kernel_rfl) fun _=>rfl
abbrev jD:Row:=⟨202,0,0,1,0,none,[AA],[(.ret,[AD])],[.one],[],[]⟩
def wb1[Lk]:=fun v=>Lk.f (BE _ _ v (jD.self Tryz.prog (jD.ev RL) Tryz.f202))
def AFQ[Lk]:Env:=jD.Bh RL wb1
theorem ARO:BC Tryz.prog AFQ:=Row.BB jD qg Tryz.func202 (d:=jD.self Tryz.prog (jD.ev RL) Tryz.f202) (fun _=>(A0 _).trans (A5 ..)) (by kernel_rfl) fun _=>rfl
abbrev Qa:Row:=⟨226,0,0,1,0,none,[AA],[(.ret,[AD])],[.one],[],[]⟩
def AZv[Lk]:=fun v=>Lk.f (BE _ _ v (Qa.self Tryz.prog (Qa.ev AFQ) Tryz.f226))
def af[Lk]:Env:=Qa.Bh AFQ AZv
theorem AC7:BC Tryz.prog af:=Row.BB Qa ARO Tryz.func226 (d:=Qa.self Tryz.prog (Qa.ev AFQ) Tryz.f226) (fun _=>(A0 _).trans (A5 ..)) (by kernel_rfl) fun _=>rfl
abbrev Af5:Loc×Con:=(.tmp 1,.dat (.slice (.prod (.int .i64) (.prod (.int .i64) (.prod (.int .i64) (.prod .bool .unit))))))
abbrev Mu:Row:=⟨105,0,0,2,0,none,[Afq,Af5],[(.ret,[AD])],[.one],[],[(0,[Afq,Af5,AN,AM],[(.ret,[Ai]),(.exit 0,[])])]⟩
def AYy[Lk]:=fun v=>Lk.f (BE _ _ v (Mu.self Tryz.prog (Mu.ev af) Tryz.f105))
def We[Lk]:Env:=Mu.Bh af AYy
theorem xl:BC Tryz.prog We:=Row.BB Mu AC7 Tryz.func105 (d:=Mu.self Tryz.prog (Mu.ev af) Tryz.f105) (fun _=>(A0 _).trans (A5 ..)) (by kernel_rfl) fun _=>rfl
abbrev Qp:Row:=⟨38,0,0,2,0,none,[Aft,(.tmp 1,.dat (.prod (.int .i64) (.prod (.slice (.prod (.int .i64) (.prod (.int .i64) (.prod (.int .i64) (.prod .bool .unit))))) .unit)))],[(.ret,[AD])],[.one],[],[]⟩
def de[Lk]:=fun v=>Lk.f (BE _ _ v (Qp.self Tryz.prog (Qp.ev We) Tryz.f38))
def ak[Lk]:Env:=Qp.Bh We de
theorem ADD:BC Tryz.prog ak:=Row.BB Qp xl Tryz.func38 (d:=Qp.self Tryz.prog (Qp.ev We) Tryz.f38) (fun _=>(A0 _).trans (A5 ..)) (by kernel_rfl) fun _=>rfl
abbrev Af6:Loc×Con:=(.tmp 0,.dat (.prod (.prod (.int .i64) (.prod (.slice (.prod (.int .i64) (.prod (.int .i64) (.prod (.int .i64) (.prod .bool .unit))))) .unit)) (.prod (.int .i64) (.prod (.int .i64) .unit))))
abbrev Mo:Row:=⟨84,0,0,1,0,none,[AA],[(.ret,[Af6,AE])],[.one,.one],[],[]⟩
def oi[Lk]:=fun v=>Lk.f (BE _ _ v (Mo.self Tryz.prog (Mo.ev ak) Tryz.f84))
def Wd[Lk]:Env:=Mo.Bh ak oi
theorem xk:BC Tryz.prog Wd:=Row.BB Mo ADD Tryz.func84 (d:=Mo.self Tryz.prog (Mo.ev ak) Tryz.f84) (fun _=>(A0 _).trans (A5 ..)) (by kernel_rfl) fun _=>rfl
abbrev Mv:Row:=⟨216,0,0,2,0,none,[Afj,Afk],[(.ret,[AD])],[.one],[],[(0,[Afj,Afk,AN,AM],[(.ret,[Ai]),(.exit 0,[])])]⟩
def AYz[Lk]:=fun v=>Lk.f (BE _ _ v (Mv.self Tryz.prog (Mv.ev Wd) Tryz.f216))
def Wf[Lk]:Env:=Mv.Bh Wd AYz
theorem xm:BC Tryz.prog Wf:=Row.BB Mv xk Tryz.func216 (d:=Mv.self Tryz.prog (Mv.ev Wd) Tryz.f216) (fun _=>(A0 _).trans (A5 ..)) (by kernel_rfl) fun _=>rfl
abbrev Af7:Loc×Con:=(.tmp 0,.dat (.slice (.slice (.int .i64))))
abbrev Af8:Loc×Con:=(.tmp 1,.dat (.slice (.slice (.int .i64))))
abbrev J6:Row:=⟨217,0,0,3,0,some (2,216),[Af7,Af8,(.tmp 2,.clo 216 [])],[(.ret,[AD])],[.one],[],[(0,[Af8,(.tmp 2,.clo 216 []),(.tmp 15,.dat (.slice (.slice (.int .i64)))),Ae7,AfZ],[(.ret,[AfD]),(.exit 0,[])])]⟩
def AU5[Lk]:=fun v=>Lk.f (BE _ _ v (J6.self Tryz.prog (J6.ev Wf) Tryz.f217))
def Rh[Lk]:Env:=J6.Bh Wf AU5
theorem rK:BC Tryz.prog Rh:=Row.BB J6 xm Tryz.func217 (d:=J6.self Tryz.prog (J6.ev Wf) Tryz.f217) (fun _=>(A0 _).trans (A5 ..)) (by kernel_rfl) fun _=>rfl
abbrev Af9:Loc×Con:=(.tmp 0,.dat (.prod (.slice (.int .i64)) (.prod (.slice (.int .i64)) (.prod (.slice (.slice (.int .i64))) .unit))))
abbrev AgA:Loc×Con:=(.tmp 1,.dat (.prod (.slice (.int .i64)) (.prod (.slice (.int .i64)) (.prod (.slice (.slice (.int .i64))) .unit))))
abbrev L0:Row:=⟨145,0,0,2,0,none,[Af9,AgA],[(.ret,[AD])],[.one],[],[]⟩
def AXb[Lk]:=fun v=>Lk.f (BE _ _ v (L0.self Tryz.prog (L0.ev Rh) Tryz.f145))
def fv[Lk]:Env:=L0.Bh Rh AXb
theorem ZJ:BC Tryz.prog fv:=Row.BB L0 rK Tryz.func145 (d:=L0.self Tryz.prog (L0.ev Rh) Tryz.f145) (fun _=>(A0 _).trans (A5 ..)) (by kernel_rfl) fun _=>rfl
def RV[Lk]:Env:=fv.ext 163 false false (CJ Tryz.prog fv {} Tryz.f163)
theorem qq:BC Tryz.prog RV:=Env.B7 ZJ (Br ZJ Tryz.func163 AXp AXo AXn) (by simp) (by simp)
abbrev AgB:Loc×Con:=(.tmp 1,.clo 163 [])
abbrev Ej:Row:=⟨206,0,0,2,0,some (1,163),[Afj,AgB],[(.ret,[AA])],[.one],[],[(0,[Afj,AgB,AQ,AP],[(.ret,[AR]),(.exit 0,[])])]⟩
def vO[Lk]:=fun v=>Lk.f (BE _ _ v (Ej.self Tryz.prog (Ej.ev RV) Tryz.f206))
def IM[Lk]:Env:=Ej.Bh RV vO
theorem YN:BC Tryz.prog IM:=Row.BB Ej qq Tryz.func206 (d:=Ej.self Tryz.prog (Ej.ev RV) Tryz.f206) (fun _=>(A0 _).trans (A5 ..)) (by kernel_rfl) fun _=>rfl
abbrev XW:Row:=⟨148,0,0,1,0,none,[Afj],[(.ret,[AA])],[.one],[],[(0,[Afj,AS,AR],[(.exit 0,[AS])])]⟩
def Aah[Lk]:=fun v=>Lk.f (BE _ _ v (XW.self Tryz.prog (XW.ev IM) Tryz.f148))
def rE[Lk]:Env:=XW.Bh IM Aah
theorem AK9:BC Tryz.prog rE:=Row.BB XW YN Tryz.func148 (d:=XW.self Tryz.prog (XW.ev IM) Tryz.f148) (fun _=>(A0 _).trans (A5 ..)) (by kernel_rfl) fun _=>rfl
abbrev AgC:Loc×Con:=(.cell 0 3,.dat (.slice (.slice (.int .i64))))
abbrev AgD:Loc×Con:=(.cell 0 2,.dat (.slice (.slice (.int .i64))))
abbrev AgE:Loc×Con:=(.cell 0 4,.di)
abbrev AgF:Loc×Con:=(.obj 0,.box 6)
abbrev MM:Row:=⟨167,0,1,2,0,none,[(.tmp 0,.box 6),Aff,Afe,AgD,AgC,AgE,Aea,AE],[(.ret,[AgF,Aff,Afe,AgD,AgC,AgE,Aea,AA,At])],[.one,.one],[(3,[[],[0],[0],[0],[0],[],[0],[0],[0]]),(11,[[],[],[0],[0],[0],[0],[],[0],[0],[0],[],[],[],[],[],[0],[0],[1]]),(7,[[],[0],[0],[0],[],[0],[0],[0]]),(6,[[],[0],[0],[0],[0],[],[0],[0],[0],[],[],[],[],[],[],[0],[0],[0]])],[(0,[AgF,Aff,Afe,AgD,AgC,AgE,Aea,Aen,AE],[(.ret,[AgF,Aff,Afe,AgD,AgC,AgE,Aea,AR,(.tmp 5,.dat .bool)]),(.exit 0,[AgF,Aff,Afe,AgD,AgC,AgE,Aea,AE])]),(1,[AgF,Aff,Afe,AgD,AgC,AgE,Aea,Aen,AE,Ad0,AQ],[(.exit 1,[AgF,Aff,Afe,AgD,AgC,AgE,Aea,Aen,AE,(.tmp 82,.di),(.tmp 83,.di),(.tmp 84,.dat .bool)]),(.exit 2,[AgF,Aff,Afe,AgD,AgC,AgE,Aea,AE])])]⟩
def AYC[Lk]:=fun v=>Lk.f (BE _ _ v (MM.self Tryz.prog (MM.ev rE) Tryz.f167))
def WQ[Lk]:Env:=MM.Bh rE AYC
theorem xa:BC Tryz.prog WQ:=Row.BB MM AK9 Tryz.func167 (d:=MM.self Tryz.prog (MM.ev rE) Tryz.f167) (fun _=>(A0 _).trans (A5 ..)) (by kernel_rfl) fun _=>rfl
abbrev QZ:Row:=⟨174,0,0,1,0,none,[AA],[(.ret,[AD])],[.one],[],[]⟩
def sized[Lk]:=fun v=>Lk.f (BE _ _ v (QZ.self Tryz.prog (QZ.ev WQ) Tryz.f174))
def ae[Lk]:Env:=QZ.Bh WQ sized
theorem AC6:BC Tryz.prog ae:=Row.BB QZ xa Tryz.func174 (d:=QZ.self Tryz.prog (QZ.ev WQ) Tryz.f174) (fun _=>(A0 _).trans (A5 ..)) (by kernel_rfl) fun _=>rfl
abbrev AgG:Loc×Con:=(.tmp 1,.dat (.int .u32))
abbrev Xp:Row:=⟨235,0,0,2,0,none,[AA,AgG],[(.ret,[AA])],[.one],[],[]⟩
def home[Lk]:=fun v=>Lk.f (BE _ _ v (Xp.self Tryz.prog (Xp.ev ae) Tryz.f235))
def rI[Lk]:Env:=Xp.Bh ae home
theorem ALB:BC Tryz.prog rI:=Row.BB Xp AC6 Tryz.func235 (d:=Xp.self Tryz.prog (Xp.ev ae) Tryz.f235) (fun _=>(A0 _).trans (A5 ..)) (by kernel_rfl) fun _=>rfl
abbrev AgH:Loc×Con:=(.tmp 0,.dat (.prod (.int .i64) (.prod (.slice (.int .u32)) (.prod (.slice .bool) .unit))))
abbrev AgI:Loc×Con:=(.cell 0 1,.dat (.slice (.int .u32)))
abbrev AgJ:Loc×Con:=(.cell 0 2,.dat (.slice .bool))
abbrev Qi:Row:=⟨176,0,0,2,0,none,[AgH,AgG],[(.ret,[AA,AE])],[.one,.one],[],[(0,[AgG,AeU,AI,AgI,AgJ,AR,AeR,Ad0],[(.exit 0,[AR,AeR])])]⟩
def AZ7[Lk]:=fun v=>Lk.f (BE _ _ v (Qi.self Tryz.prog (Qi.ev rI) Tryz.f176))
def ai[Lk]:Env:=Qi.Bh rI AZ7
theorem AC9:BC Tryz.prog ai:=Row.BB Qi ALB Tryz.func176 (d:=Qi.self Tryz.prog (Qi.ev rI) Tryz.f176) (fun _=>(A0 _).trans (A5 ..)) (by kernel_rfl) fun _=>rfl
abbrev AgK:Loc×Con:=(.obj 0,.own 115 (.int .u32))
abbrev AgL:Loc×Con:=(.tmp 0,.own 115 (.int .u32))
abbrev AgM:Loc×Con:=(.tmp 0,.win' 0)
abbrev Hv:Row:=⟨234,0,1,1,8,none,[AgL],[(.ret,[AgK,AgM])],[.one],[(6,[[],[],[0],[0],[],[],[],[0],[0]]),(11,[[],[],[0],[0],[],[],[],[0],[0]])],[(0,[AgK,Am,AS],[(.ret,[AgK,(.tmp 2,.win' 0)]),(.exit 0,[AgK,Am])]),(1,[AgK,Am,AS,(.tmp 4,.sub' 0),AeR],[(.exit 2,[AgK,Am,AS])])]⟩
def AQU[Lk]:=fun v=>Lk.f (BE _ _ v (Hv.self Tryz.prog (Hv.ev ai) Tryz.f234))
def OW[Lk]:Env:=Hv.Bh ai AQU
theorem il:BC Tryz.prog OW:=Row.BB Hv AC9 Tryz.func234 (d:=Hv.self Tryz.prog (Hv.ev ai) Tryz.f234) (fun _=>(A0 _).trans (A5 ..)) (by kernel_rfl) fun _=>rfl
abbrev AgN:Loc×Con:=(.tmp 18,.di)
abbrev MD:Row:=⟨250,0,0,2,0,none,[AA,Afo],[(.ret,[AA,AE])],[.one,.one],[],[(0,[AQ,AP,(.tmp 17,.own 3 (.int .i64)),AgN,Ae5],[(.exit 0,[AQ,AP])])]⟩
def AXs[Lk]:=fun v=>Lk.f (BE _ _ v (MD.self Tryz.prog (MD.ev OW) Tryz.f250))
def WK[Lk]:Env:=MD.Bh OW AXs
theorem xW:BC Tryz.prog WK:=Row.BB MD il Tryz.func250 (d:=MD.self Tryz.prog (MD.ev OW) Tryz.f250) (fun _=>(A0 _).trans (A5 ..)) (by kernel_rfl) fun _=>rfl
abbrev Jp:Row:=⟨86,0,0,1,0,none,[Af4],[(.ret,[AA,AE,(.tmp 2,.own 3 (.int .i64)),AS,AR])],[.agg 3,.one,.one],[],[(0,[Af4,AeU,AI,AeO,(.cell 0 2,.nil (.int .i64)),AeR,(.tmp 7,.box 3),AK,Aeq,(.cell 1 2,.own 3 (.int .i64)),Aee,(.tmp 41,.di)],[(.exit 0,[AeU,AI,AeO,(.cell 0 2,.nil (.int .i64)),AeR,(.tmp 7,.box 3),AK,Aeq,(.cell 1 2,.own 3 (.int .i64))])])]⟩
def Zt[Lk]:=fun v=>Lk.f (BE _ _ v (Jp.self Tryz.prog (Jp.ev WK) Tryz.f86))
def RZ[Lk]:Env:=Jp.Bh WK Zt
theorem qx:BC Tryz.prog RZ:=Row.BB Jp xW Tryz.func86 (d:=Jp.self Tryz.prog (Jp.ev WK) Tryz.f86) (fun _=>(A0 _).trans (A5 ..)) (by kernel_rfl) fun _=>rfl
abbrev AgO:Loc×Con:=(.tmp 0,.own 5 (.int .u8))
abbrev Wt:Row:=⟨160,0,0,2,0,none,[AgO,Afk],[(.ret,[AgO])],[.one],[],[(0,[AgO,Af2,AP,Ac],[(.exit 0,[AgO])])]⟩
def AaS[Lk]:=fun v=>Lk.f (BE _ _ v (Wt.self Tryz.prog (Wt.ev RZ) Tryz.f160))
def qf[Lk]:Env:=Wt.Bh RZ AaS
theorem AKz:BC Tryz.prog qf:=Row.BB Wt qx Tryz.func160 (d:=Wt.self Tryz.prog (Wt.ev RZ) Tryz.f160) (fun _=>(A0 _).trans (A5 ..)) (by kernel_rfl) fun _=>rfl
abbrev Jz:Row:=⟨72,0,0,2,0,none,[Af7,Af8],[(.ret,[AD])],[.one],[],[(0,[Af7,Af8,AeR],[(.ret,[Ai]),(.exit 0,[])])]⟩
def ATz[Lk]:=fun v=>Lk.f (BE _ _ v (Jz.self Tryz.prog (Jz.ev qf) Tryz.f72))
def Rf[Lk]:Env:=Jz.Bh qf ATz
theorem rG:BC Tryz.prog Rf:=Row.BB Jz AKz Tryz.func72 (d:=Jz.self Tryz.prog (Jz.ev qf) Tryz.f72) (fun _=>(A0 _).trans (A5 ..)) (by kernel_rfl) fun _=>rfl
abbrev AgP:Loc×Con:=(.cell 0 3,.dat (.mapi .i64 (.slice (.prod (.int .i64) (.prod (.int .i64) .unit)))))
abbrev AgQ:Loc×Con:=(.cell 0 2,.map (.int .i64) (.int .i64))
abbrev AgR:Loc×Con:=(.obj 1,.map' 1)
abbrev AgS:Loc×Con:=(.tmp 0,.box 4)
abbrev AgT:Loc×Con:=(.obj 0,.box 4)
abbrev Jn:Row:=⟨51,0,2,2,0,none,[AgS,AI,Afe,AgQ,AgP,Afd],[(.ret,[AgT,AI,Afe,AgQ,AgP,AgR,AD])],[.one],[(1,[[],[0],[0],[0],[4],[4],[2],[],[0],[0],[0],[4],[4],[2]])],[]⟩
def ASP[Lk]:=fun v=>Lk.f (BE _ _ v (Jn.self Tryz.prog (Jn.ev Rf) Tryz.f51))
def RX[Lk]:Env:=Jn.Bh Rf ASP
theorem qv:BC Tryz.prog RX:=Row.BB Jn rG Tryz.func51 (d:=Jn.self Tryz.prog (Jn.ev Rf) Tryz.f51) (fun _=>(A0 _).trans (A5 ..)) (by kernel_rfl) fun _=>rfl
abbrev HU:Row:=⟨127,0,2,2,0,none,[AgS,AI,Afe,AgQ,AgP,AE],[(.ret,[AgT,AI,Afe,AgQ,AgP,AgR,AD])],[.one],[],[]⟩
def AMI[Lk]:=fun v=>Lk.f (BE _ _ v (HU.self Tryz.prog (HU.ev RX) Tryz.f127))
def OO[Lk]:Env:=HU.Bh RX AMI
theorem iV:BC Tryz.prog OO:=Row.BB HU qv Tryz.func127 (d:=HU.self Tryz.prog (HU.ev RX) Tryz.f127) (fun _=>(A0 _).trans (A5 ..)) (by kernel_rfl) fun _=>rfl
abbrev AgU:Loc×Con:=(.tmp 0,.dat (.slice (.prod (.int .i64) (.prod (.int .i64) .unit))))
abbrev FQ:Row:=⟨50,0,2,2,0,some (1,51),[AgU,(.cap 1 0,.box 4),AI,Afe,AgQ,AgP,(.tmp 1,.bndp 51 0)],[(.ret,[AgT,AI,Afe,AgQ,AgP,AgR,AA])],[.one],[],[(0,[AgT,AI,Afe,AgQ,AgP,AgR,AgU,(.tmp 1,.bndp 51 0),AQ,AP],[(.ret,[AgT,AI,Afe,AgQ,AgP,AgR,AR]),(.exit 0,[AgT,AI,Afe,AgQ,AgP,AgR])])]⟩
def ABg[Lk]:=fun v=>Lk.f (BE _ _ v (FQ.self Tryz.prog (FQ.ev OO) Tryz.f50))
def JW[Lk]:Env:=FQ.Bh OO ABg
theorem Zh:BC Tryz.prog JW:=Row.BB FQ iV Tryz.func50 (d:=FQ.self Tryz.prog (FQ.ev OO) Tryz.f50) (fun _=>(A0 _).trans (A5 ..)) (by kernel_rfl) fun _=>rfl
abbrev MG:Row:=⟨31,0,0,2,0,none,[Af9,AgA],[(.ret,[AD])],[.one],[],[]⟩
def nE[Lk]:=fun v=>Lk.f (BE _ _ v (MG.self Tryz.prog (MG.ev JW) Tryz.f31))
def WN[Lk]:Env:=MG.Bh JW nE
theorem xY:BC Tryz.prog WN:=Row.BB MG Zh Tryz.func31 (d:=MG.self Tryz.prog (MG.ev JW) Tryz.f31) (fun _=>(A0 _).trans (A5 ..)) (by kernel_rfl) fun _=>rfl
abbrev He:Row:=⟨106,0,0,2,0,none,[Af4,AE],[(.ret,[AA,At])],[.one,.one],[],[]⟩
def AOW[Lk]:=fun v=>Lk.f (BE _ _ v (He.self Tryz.prog (He.ev WN) Tryz.f106))
def OR[Lk]:Env:=He.Bh WN AOW
theorem iY:BC Tryz.prog OR:=Row.BB He xY Tryz.func106 (d:=He.self Tryz.prog (He.ev WN) Tryz.f106) (fun _=>(A0 _).trans (A5 ..)) (by kernel_rfl) fun _=>rfl
abbrev AgV:Loc×Con:=(.cell 1 2,.own 85 (.prod (.int .i64) (.prod (.int .i64) (.prod (.int .i64) .unit))))
abbrev AgW:Loc×Con:=(.cell 0 2,.nil (.prod (.int .i64) (.prod (.int .i64) (.prod (.int .i64) .unit))))
abbrev AgX:Loc×Con:=(.cell 1 1,.own 59 (.prod (.int .i64) (.prod (.int .i64) .unit)))
abbrev AgY:Loc×Con:=(.cell 0 1,.nil (.prod (.int .i64) (.prod (.int .i64) .unit)))
abbrev Ht:Row:=⟨39,0,0,1,0,none,[Af4],[(.ret,[AA,(.tmp 1,.own 59 (.prod (.int .i64) (.prod (.int .i64) .unit))),(.tmp 2,.own 85 (.prod (.int .i64) (.prod (.int .i64) (.prod (.int .i64) .unit)))),AS,AR])],[.agg 3,.one,.one],[],[(0,[Af4,AeU,AI,AgY,AgW,Ag,AK,AgX,AgV,Ad0,AP,Ac],[(.ret,[AeU,AI,AgY,AgW,AS,AR]),(.exit 0,[AeU,AI,AgY,AgW,Ag,AK,AgX,AgV,AP])])]⟩
def AQO[Lk]:=fun v=>Lk.f (BE _ _ v (Ht.self Tryz.prog (Ht.ev OR) Tryz.f39))
def OV[Lk]:Env:=Ht.Bh OR AQO
theorem ij:BC Tryz.prog OV:=Row.BB Ht iY Tryz.func39 (d:=Ht.self Tryz.prog (Ht.ev OR) Tryz.f39) (fun _=>(A0 _).trans (A5 ..)) (by kernel_rfl) fun _=>rfl
abbrev AgZ:Loc×Con:=(.tmp 5,.own 48 (.prod (.int .i64) (.prod (.slice (.prod (.int .i64) (.prod (.int .i64) .unit))) (.prod (.slice (.prod (.int .i64) (.prod (.int .i64) (.prod (.int .i64) .unit)))) .unit))))
abbrev Aga:Loc×Con:=(.tmp 2,.own 48 (.prod (.int .i64) (.prod (.slice (.prod (.int .i64) (.prod (.int .i64) .unit))) (.prod (.slice (.prod (.int .i64) (.prod (.int .i64) (.prod (.int .i64) .unit)))) .unit))))
abbrev HR:Row:=⟨11,0,0,1,0,none,[Af4],[(.ret,[(.tmp 0,.own 48 (.prod (.int .i64) (.prod (.slice (.prod (.int .i64) (.prod (.int .i64) .unit))) (.prod (.slice (.prod (.int .i64) (.prod (.int .i64) (.prod (.int .i64) .unit)))) .unit)))),AE,AF])],[.one,.one,.one],[],[(0,[Af4,AgZ,Ad0],[(.ret,[Aga,AS,AR]),(.exit 0,[AgZ,Ad0])])]⟩
def Tj[Lk]:=fun v=>Lk.f (BE _ _ v (HR.self Tryz.prog (HR.ev OV) Tryz.f11))
def OL[Lk]:Env:=HR.Bh OV Tj
theorem iR:BC Tryz.prog OL:=Row.BB HR ij Tryz.func11 (d:=HR.self Tryz.prog (HR.ev OV) Tryz.f11) (fun _=>(A0 _).trans (A5 ..)) (by kernel_rfl) fun _=>rfl
abbrev Agb:Loc×Con:=(.tmp 0,.dat (.prod (.slice (.int .i64)) (.prod (.slice (.int .i64)) .unit)))
abbrev Jt:Row:=⟨73,0,0,1,0,none,[Agb],[(.ret,[AD])],[.one],[],[(0,[AS,(.tmp 4,.map (.int .i64) (.int .i64)),(.tmp 30,.dat (.slice (.int .i64))),(.tmp 31,.di),Ah],[(.ret,[AH]),(.exit 0,[])])]⟩
def AS7[Lk]:=fun v=>Lk.f (BE _ _ v (Jt.self Tryz.prog (Jt.ev OL) Tryz.f73))
def Ra[Lk]:Env:=Jt.Bh OL AS7
theorem q7:BC Tryz.prog Ra:=Row.BB Jt iR Tryz.func73 (d:=Jt.self Tryz.prog (Jt.ev OL) Tryz.f73) (fun _=>(A0 _).trans (A5 ..)) (by kernel_rfl) fun _=>rfl
abbrev MQ:Row:=⟨68,0,0,2,0,none,[Agb,Afd],[(.ret,[AD])],[.one],[(1,[[0],[],[],[2],[2],[],[],[],[2],[2],[0],[0],[],[],[],[],[0],[0],[2],[2],[],[],[2],[2],[],[],[],[0],[0],[2],[2]])],[]⟩
def AYE[Lk]:=fun v=>Lk.f (BE _ _ v (MQ.self Tryz.prog (MQ.ev Ra) Tryz.f68))
def WU[Lk]:Env:=MQ.Bh Ra AYE
theorem xd:BC Tryz.prog WU:=Row.BB MQ q7 Tryz.func68 (d:=MQ.self Tryz.prog (MQ.ev Ra) Tryz.f68) (fun _=>(A0 _).trans (A5 ..)) (by kernel_rfl) fun _=>rfl
abbrev MO:Row:=⟨146,0,0,1,0,none,[Agb],[(.ret,[Afj,Afk,(.tmp 2,.dat (.prod (.int .i64) (.prod (.int .i64) .unit))),AS])],[.agg 2,.one,.one],[(10,[[0],[],[0],[0],[],[22],[22],[],[3],[5]]),(4,[[],[],[],[0],[0],[0],[0]])],[]⟩
def AYD[Lk]:=fun v=>Lk.f (BE _ _ v (MO.self Tryz.prog (MO.ev WU) Tryz.f146))
def WS[Lk]:Env:=MO.Bh WU AYD
theorem xb:BC Tryz.prog WS:=Row.BB MO xd Tryz.func146 (d:=MO.self Tryz.prog (MO.ev WU) Tryz.f146) (fun _=>(A0 _).trans (A5 ..)) (by kernel_rfl) fun _=>rfl
abbrev Agc:Loc×Con:=(.tmp 5,.own 95 (.prod (.int .i64) (.prod (.int .i64) .unit)))
abbrev Agd:Loc×Con:=(.cell 1 0,.nil (.int .i64))
abbrev Age:Loc×Con:=(.cell 1 1,.nil (.int .i64))
abbrev Jh:Row:=⟨66,0,0,2,0,none,[Agb,AE],[(.ret,[Agb,(.tmp 1,.own 95 (.prod (.int .i64) (.prod (.int .i64) .unit))),AF])],[.one,.one,.one],[],[(0,[AJ,Aff,Afe,AL,Agd,Age,Agc,AP,Ac],[(.ret,[AL,Aff,Afe,(.tmp 5,.nil (.prod (.int .i64) (.prod (.int .i64) .unit))),Ad0]),(.exit 0,[AJ,Aff,Afe,AL,Agd,Age,Agc])])]⟩
def AR1[Lk]:=fun v=>Lk.f (BE _ _ v (Jh.self Tryz.prog (Jh.ev WS) Tryz.f66))
def RR[Lk]:Env:=Jh.Bh WS AR1
theorem qn:BC Tryz.prog RR:=Row.BB Jh xb Tryz.func66 (d:=Jh.self Tryz.prog (Jh.ev WS) Tryz.f66) (fun _=>(A0 _).trans (A5 ..)) (by kernel_rfl) fun _=>rfl
abbrev Jf:Row:=⟨249,0,0,2,0,none,[AA,AE],[(.ret,[AA,AE])],[.one,.one],[],[]⟩
def ARu[Lk]:=fun v=>Lk.f (BE _ _ v (Jf.self Tryz.prog (Jf.ev RR) Tryz.f249))
def RQ[Lk]:Env:=Jf.Bh RR ARu
theorem qm:BC Tryz.prog RQ:=Row.BB Jf qn Tryz.func249 (d:=Jf.self Tryz.prog (Jf.ev RR) Tryz.f249) (fun _=>(A0 _).trans (A5 ..)) (by kernel_rfl) fun _=>rfl
abbrev J8:Row:=⟨192,0,0,2,0,none,[(.tmp 0,.dat (.prod (.int .i64) (.prod (.int .i64) (.prod (.int .i64) (.prod (.int .i64) .unit))))),AE],[(.ret,[AA])],[.one],[],[]⟩
def AVA[Lk]:=fun v=>Lk.f (BE _ _ v (J8.self Tryz.prog (J8.ev RQ) Tryz.f192))
def Rj[Lk]:Env:=J8.Bh RQ AVA
theorem rM:BC Tryz.prog Rj:=Row.BB J8 qm Tryz.func192 (d:=J8.self Tryz.prog (J8.ev RQ) Tryz.f192) (fun _=>(A0 _).trans (A5 ..)) (by kernel_rfl) fun _=>rfl
abbrev Mz:Row:=⟨117,0,0,3,0,none,[AA,AE,AF],[(.ret,[AA])],[.one],[],[]⟩
def AZD[Lk]:=fun v=>Lk.f (BE _ _ v (Mz.self Tryz.prog (Mz.ev Rj) Tryz.f117))
def Wh[Lk]:Env:=Mz.Bh Rj AZD
theorem xp:BC Tryz.prog Wh:=Row.BB Mz rM Tryz.func117 (d:=Mz.self Tryz.prog (Mz.ev Rj) Tryz.f117) (fun _=>(A0 _).trans (A5 ..)) (by kernel_rfl) fun _=>rfl
abbrev Agf:Loc×Con:=(.tmp 1,.dat (.prod (.int .i64) (.prod (.int .i64) (.prod (.slice (.arr 2 (.int .i64))) .unit))))
abbrev RE:Row:=⟨116,0,0,2,0,none,[AA,Agf],[(.ret,[AD])],[.one],[],[]⟩
def AaO[Lk]:=fun v=>Lk.f (BE _ _ v (RE.self Tryz.prog (RE.ev Wh) Tryz.f116))
def av[Lk]:Env:=RE.Bh Wh AaO
theorem ADM:BC Tryz.prog av:=Row.BB RE xp Tryz.func116 (d:=RE.self Tryz.prog (RE.ev Wh) Tryz.f116) (fun _=>(A0 _).trans (A5 ..)) (by kernel_rfl) fun _=>rfl
abbrev KB:Row:=⟨44,0,0,2,0,none,[AA,Agf],[(.ret,[AA])],[.one],[(3,[[0],[0],[],[],[0],[0],[0],[0]])],[]⟩
def AVX[Lk]:=fun v=>Lk.f (BE _ _ v (KB.self Tryz.prog (KB.ev av) Tryz.f44))
def Rm[Lk]:Env:=KB.Bh av AVX
theorem rQ:BC Tryz.prog Rm:=Row.BB KB ADM Tryz.func44 (d:=KB.self Tryz.prog (KB.ev av) Tryz.f44) (fun _=>(A0 _).trans (A5 ..)) (by kernel_rfl) fun _=>rfl
abbrev NA:Row:=⟨200,0,0,3,0,none,[AA,AE,(.tmp 2,.dat (.prod (.int .i64) (.prod (.int .i64) (.prod (.slice (.arr 2 (.int .i64))) .unit))))],[(.ret,[AA])],[.one],[(1,[[],[],[],[0]])],[]⟩
def AZM[Lk]:=fun v=>Lk.f (BE _ _ v (NA.self Tryz.prog (NA.ev Rm) Tryz.f200))
def Wq[Lk]:Env:=NA.Bh Rm AZM
theorem yF:BC Tryz.prog Wq:=Row.BB NA rQ Tryz.func200 (d:=NA.self Tryz.prog (NA.ev Rm) Tryz.f200) (fun _=>(A0 _).trans (A5 ..)) (by kernel_rfl) fun _=>rfl
abbrev YD:Row:=⟨119,0,0,2,0,none,[(.tmp 0,.dat (.prod (.prod (.int .i64) (.prod (.int .i64) (.prod (.prod (.int .i64) (.prod (.int .i64) (.prod (.slice (.arr 2 (.int .i64))) .unit))) .unit))) (.prod (.int .i64) .unit))),AE],[(.ret,[AA])],[.one],[(3,[[0],[0],[],[],[0],[0],[0],[0],[0],[0],[],[],[],[0],[0],[0]])],[]⟩
def Aak[Lk]:=fun v=>Lk.f (BE _ _ v (YD.self Tryz.prog (YD.ev Wq) Tryz.f119))
def rR[Lk]:Env:=YD.Bh Wq Aak
theorem ALC:BC Tryz.prog rR:=Row.BB YD yF Tryz.func119 (d:=YD.self Tryz.prog (YD.ev Wq) Tryz.f119) (fun _=>(A0 _).trans (A5 ..)) (by kernel_rfl) fun _=>rfl
abbrev Agg:Loc×Con:=(.tmp 1,.dat (.prod (.int .i64) (.prod (.int .i64) (.prod (.prod (.int .i64) (.prod (.int .i64) (.prod (.slice (.arr 2 (.int .i64))) .unit))) .unit))))
abbrev M':Row:=⟨45,0,0,2,0,none,[AA,Agg],[(.ret,[AA])],[.one],[(1,[[0],[0],[0]])],[]⟩
def AZL[Lk]:=fun v=>Lk.f (BE _ _ v (M'.self Tryz.prog (M'.ev rR) Tryz.f45))
def Wp[Lk]:Env:=M'.Bh rR AZL
theorem yE:BC Tryz.prog Wp:=Row.BB M' ALC Tryz.func45 (d:=M'.self Tryz.prog (M'.ev rR) Tryz.f45) (fun _=>(A0 _).trans (A5 ..)) (by kernel_rfl) fun _=>rfl
abbrev Agh:Loc×Con:=(.cell 0 0,.dat (.slice (.prod (.int .i64) (.prod (.int .i64) (.prod (.int .i64) (.prod (.int .i64) .unit))))))
abbrev Agi:Loc×Con:=(.tmp 11,.dat (.slice (.slice (.int .i64))))
abbrev Mx:Row:=⟨101,0,0,1,0,none,[(.tmp 0,.dat (.prod (.prod (.slice (.prod (.int .i64) (.prod (.int .i64) (.prod (.int .i64) (.prod (.int .i64) .unit))))) (.prod (.int .i64) (.prod (.slice .bool) .unit))) (.prod (.slice (.slice (.int .i64))) (.prod .bool (.prod (.int .i64) (.prod (.int .i64) .unit))))))],[(.ret,[AA])],[.one],[(9,[[],[0],[0],[0],[],[],[],[0],[0],[0]])],[(0,[Aeb,Agh,AeO,AgJ,AgC,AeX,Aea,AeZ,AF,Agi,AN,AM],[(.exit 0,[AF])]),(1,[Aeb,Agh,AeO,AgJ,AgC,AeX,Aea,AeZ,AF,Agi,AN,AM,(.tmp 17,.dat (.slice (.int .i64))),AgN,Ae5],[(.exit 2,[Aeb,Agh,AeO,AgJ,AgC,AeX,Aea,AeZ,AF,Agi,AN,AM])])]⟩
def pS[Lk]:=fun v=>Lk.f (BE _ _ v (Mx.self Tryz.prog (Mx.ev Wp) Tryz.f101))
def xo[Lk]:Env:=Mx.Bh Wp pS
theorem xn:BC Tryz.prog xo:=Row.BB Mx yE Tryz.func101 (d:=Mx.self Tryz.prog (Mx.ev Wp) Tryz.f101) (fun _=>(A0 _).trans (A5 ..)) (by kernel_rfl) fun _=>rfl
end
end Go.Pev
end
section
namespace Go.Pev
noncomputable section
abbrev Agj:Loc×Con:=(.cell 1 0,.dat Vm)
abbrev AKc:A1:=[Al,Am,AE,AP,(.tmp 9,.box 1),Agj,(.tmp 10,.dat Vm),Aa]
def AQu[Lk]:=G3 (([]:List (Int)):U6) C9 tLt
def AQv[Lk]:=OE (([]:List (Int)):U6) C9 tLt
theorem AKd v:AQv v=AQu v:=A0 _
abbrev Agk:Loc×Con:=(.tmp 10,.dat .bool)
abbrev Agl:Loc×Con:=(.tmp 11,.dat .bool)
abbrev AD8:A1:=[Al,Am,AE,AF,AS,An,Agk,Agl]
abbrev AD7:BJ:=[(.ret,[Al])]
def AD6[Lk]:=H9 (([]:List (Int)):U6) C9 tLt
def AYL[Lk]:=Ni (([]:List (Int)):U6) C9 tLt
def dB[Lk]:=Hd (([]:List (Int)):U6) C9 tLt
def ATM[Lk]:=nn (([]:List (Int)):U6) C9 tLt
theorem ATL v:ATM v=dB 100 v:=A0 _
abbrev ASD:A1:=[Ak,(.tmp 1,.clo 337 [])]
def ASE[Lk]:=JC (([]:List (Int)):U6) C9 tLt
def ADg[Lk]:=YX (([]:List (Int)):U6) C9 tLt
theorem AL6 v:ADg v=ASE v:=A0 _
def AOg[Lk]:Ub->Option (Ub):=fun(a,_)=>
 match dc (a,())with|none=>none|some (b,_)=>match(!b)with
 |true=>some (0,())
 |false=>match bitsLen ((IntKind.wrap .u64 (w64 (a-1))),())with|none=>none|some (c,_)=>some (c,())
def oH[Lk]:=lkk AOg
theorem ATy v:oH v=AOg v:=A0 _
abbrev lI:A1:=[Ad6,Am,AE,AP,(.tmp 9,.box 1),Agj,(.tmp 10,.dat Vm),Aa]
def AQy[Lk]:=G3 ((0,(0,())):U3) Bp tLt
def AQ0[Lk]:=OE ((0,(0,())):U3) Bp tLt
theorem AKh v:AQ0 v=AQy v:=A0 _
abbrev AKe:A1:=[AfC,Am,AE,Ad0,(.tmp 7,.box 1),Agj,(.tmp 8,.dat Vm),Ac]
def AQw[Lk]:=G3 (0:Int) C_ tId
def AQx[Lk]:=OE (0:Int) C_ tId
theorem AKf v:AQx v=AQw v:=A0 _
abbrev AEB:A1:=[AfC,Am,AE,AF,AS,As,(.tmp 9,.dat .bool)]
abbrev AEA:BJ:=[(.ret,[AfC])]
def AD9[Lk]:=H9 (0:Int) C_ tId
def AYN[Lk]:=Ni (0:Int) C_ tId
def dC[Lk]:=Hd (0:Int) C_ tId
def ATQ[Lk]:=nn (0:Int) C_ tId
theorem ATP v:ATQ v=dC 100 v:=A0 _
def ASG[Lk]:=JC (0:Int) C_ tId
def AW4[Lk]:=YX (0:Int) C_ tId
theorem AL7 v:AW4 v=ASG v:=A0 _
abbrev AKa:A1:=[AfG,Am,AE,AP,(.tmp 9,.box 1),Agj,(.tmp 10,.dat Vm),Aa]
def AQt[Lk]:=G3 ((0,(0,(0,(false,())))):U4) DB tLt
def breakT[Lk]:=OE ((0,(0,(0,(false,())))):U4) DB tLt
theorem AKb v:breakT v=AQt v:=A0 _
abbrev AD5:A1:=[AfG,Am,AE,AF,AS,AfH,Agk,Agl]
abbrev AD4:BJ:=[(.ret,[AfG])]
def AD3[Lk]:=H9 ((0,(0,(0,(false,())))):U4) DB tLt
def AYJ[Lk]:=Ni ((0,(0,(0,(false,())))):U4) DB tLt
def dA[Lk]:=Hd ((0,(0,(0,(false,())))):U4) DB tLt
def ATI[Lk]:=nn ((0,(0,(0,(false,())))):U4) DB tLt
theorem ATH v:ATI v=dA 100 v:=A0 _
abbrev ASB:A1:=[AfF,(.tmp 1,.clo 183 [])]
def ASC[Lk]:=JC ((0,(0,(0,(false,())))):U4) DB tLt
def ADf[Lk]:=YX ((0,(0,(0,(false,())))):U4) DB tLt
theorem AL5 v:ADf v=ASC v:=A0 _
open Go.Proofs
def Vq:=Chn.g ⟨xo,xn⟩ ⟨361,0,1,4,0,some (3,337),Xh,[(.ret,Kc)],BY,[(10,[[],[],[],[],[],[],[],[],[],[],[0],[0],[],[],[0],[0],[0],[1],[0],[1]])],[(0,AKc,oS)]⟩ AQv Tryz.func361 AKd
abbrev z7(self:(List (List Int)×Int×Int×Int×Unit)->Option ((List (List Int)×Unit))):Hints:={ loop:=fun n=>match n with|0=>Gl 1 148 AD8 AD7 (AD6 self)|_=>fun _ _ _=>none,fp:=fun n=>match n with|17=>[[],[],[],[],[],[],[],[0],[0],[],[],[0],[0],[],[],[],[]]|_=>[] }
abbrev nh(self:(List (List Int)×Int×Int×Int×Unit)->Option ((List (List Int)×Unit))):Env:=Vq.e.ext 350 false true (BT 1 5 LA Kc BY self)
theorem z6(self:(List (List Int)×Int×Int×Int×Unit)->Option ((List (List Int)×Unit))):∀ v,AD6 self v=roundOf Tryz.prog (nh self) (z7 self) 1 1 148 (B_ Tryz.f350 0) AD8 AD7 v:=by rintro⟨a,b,c,d,e,f,⟨⟩⟩;kernel_rfl
theorem ATJ:CD (B_ Tryz.f350 0) 1=[]:=by kernel_rfl
theorem ATK(self:(List (List Int)×Int×Int×Int×Unit)->Option ((List (List Int)×Unit)))(a:BC Tryz.prog (nh self)):Fg Tryz.prog 1 (.loop (B_ Tryz.f350 0)) ((z7 self).loop 0):=IA a (z6 self) (CU ATJ trivial)
theorem ANk(self:(List (List Int)×Int×Int×Int×Unit)->Option ((List (List Int)×Unit))):∀ v,AYL self v=Cq 1 Tryz.prog (nh self) (z7 self) Tryz.f350 LA Kc BY v:=by rintro⟨a,b,c,d,⟨⟩⟩;kernel_rfl
theorem AYK:CD (Bu Tryz.f350) 0=[(0,B_ Tryz.f350 0)]:=by kernel_rfl
theorem z8:∀ n,BS Tryz.prog 350 (BT 1 5 LA Kc BY (dB n)):=by
 intro n;induction n with
  |zero=>exact E1 fun _=>rfl
  |succ n b=>have a:BC Tryz.prog (nh (dB n)):=Env.B7 Vq.h b ((by simp)) (fun _=>CP rfl rfl);let self:=dB n;exact En a Tryz.func350 (by kernel_rfl) (by kernel_rfl) rfl (ANk self) (CU AYK ⟨(ATK self a),trivial⟩)
theorem AHR:BS Tryz.prog 350 (BT 1 5 LA Kc BY ATM):=by have e:ATM=dB 100:=funext ATL;rw[e];exact z8 _
def ARU[Lk]:Env:=Vq.e.Xv 350 4 337 (BT 1 5 LA Kc BY ATM)
theorem AK7:BC Tryz.prog ARU:=Env.Q7 Vq.h AHR (CP rfl rfl)
def ASF:=Chn.g ⟨ARU,AK7⟩ ⟨336,0,1,2,0,some (1,337),ASD,[(.ret,Kc)],BY,[],[]⟩ ADg Tryz.func336 AL6
def AYa:=Chn.g ASF ⟨153,0,0,1,0,none,Bg,[(.ret,Bg)],A8,[],[]⟩ oH Tryz.func153 ATy
theorem yN:Tryz.f135.body.isSome=true:=by kernel_rfl
theorem yM : (Tryz.f135.name == "runtime.NumGoroutine") = false := by kernel_rfl
theorem yL:loops (Bu Tryz.f135)=0:=by kernel_rfl
def AQz:=Chn.g AYa ⟨262,0,1,4,0,some (3,132),Xi,[(.ret,De)],BY,[(10,[[],[],[],[],[],[],[],[],[],[],[0],[0],[],[],[0],[0],[0],[1],[0],[1]])],[(0,lI,Qw)]⟩ AQ0 Tryz.func262 AKh
def Vr:=Chn.g AQz ⟨369,0,1,3,0,none,E5,[(.ret,Kd)],BY,[(10,[[],[],[],[],[],[],[],[],[],[],[0],[0],[],[],[0],[0],[0],[1],[0],[1]])],[(0,AKe,oT)]⟩ AQx Tryz.func369 AKf
abbrev AAA(self:(List Int×Int×Int×Int×Unit)->Option ((List Int×Unit))):Hints:={ loop:=fun n=>match n with|0=>Gl 1 134 AEB AEA (AD9 self)|_=>fun _ _ _=>none,fp:=fun n=>match n with|17=>[[],[],[],[],[],[],[0],[0],[],[],[0],[0],[],[],[]]|_=>[] }
abbrev ni(self:(List Int×Int×Int×Int×Unit)->Option ((List Int×Unit))):Env:=Vr.e.ext 355 false true (BT 1 4 LB Kd BY self)
theorem z9(self:(List Int×Int×Int×Int×Unit)->Option ((List Int×Unit))):∀ v,AD9 self v=roundOf Tryz.prog (ni self) (AAA self) 1 1 134 (B_ Tryz.f355 0) AEB AEA v:=by rintro⟨a,b,c,d,e,f,⟨⟩⟩;kernel_rfl
theorem ATN:CD (B_ Tryz.f355 0) 1=[]:=by kernel_rfl
theorem ATO(self:(List Int×Int×Int×Int×Unit)->Option ((List Int×Unit)))(a:BC Tryz.prog (ni self)):Fg Tryz.prog 1 (.loop (B_ Tryz.f355 0)) ((AAA self).loop 0):=IA a (z9 self) (CU ATN trivial)
theorem ANl(self:(List Int×Int×Int×Int×Unit)->Option ((List Int×Unit))):∀ v,AYN self v=Cq 1 Tryz.prog (ni self) (AAA self) Tryz.f355 LB Kd BY v:=by rintro⟨a,b,c,d,⟨⟩⟩;kernel_rfl
theorem AYM:CD (Bu Tryz.f355) 0=[(0,B_ Tryz.f355 0)]:=by kernel_rfl
theorem AAB:∀ n,BS Tryz.prog 355 (BT 1 4 LB Kd BY (dC n)):=by
 intro n;induction n with
  |zero=>exact E1 fun _=>rfl
  |succ n b=>have a:BC Tryz.prog (ni (dC n)):=Env.B7 Vr.h b ((by simp)) (fun _=>CP rfl rfl);let self:=dC n;exact En a Tryz.func355 (by kernel_rfl) (by kernel_rfl) rfl (ANl self) (CU AYM ⟨(ATO self a),trivial⟩)
theorem AHS:BS Tryz.prog 355 (BT 1 4 LB Kd BY ATQ):=by have e:ATQ=dC 100:=funext ATP;rw[e];exact AAB _
def ARV[Lk]:Env:=Vr.e.ext 355 false true (BT 1 4 LB Kd BY ATQ)
theorem AK8:BC Tryz.prog ARV:=Env.B7 Vr.h AHS ((by simp)) (fun _=>CP rfl rfl)
def ASH:=Chn.g ⟨ARV,AK8⟩ ⟨347,0,1,1,0,none,Gr,[(.ret,Kd)],BY,[],[]⟩ AW4 Tryz.func347 AL7
def Vp:=Chn.g ASH ⟨282,0,1,4,0,some (3,183),Xg,[(.ret,Kb)],BY,[(10,[[],[],[],[],[],[],[],[],[],[],[0],[0],[],[],[0],[0],[0],[1],[0],[1]])],[(0,AKa,oR)]⟩ breakT Tryz.func282 AKb
abbrev z4(self:(List (Int×Int×Int×Bool×Unit)×Int×Int×Int×Unit)->Option ((List (Int×Int×Int×Bool×Unit)×Unit))):Hints:={ loop:=fun n=>match n with|0=>Gl 1 148 AD5 AD4 (AD3 self)|_=>fun _ _ _=>none,fp:=fun n=>match n with|17=>[[],[],[],[],[],[],[],[0],[0],[],[],[0],[0],[],[],[],[]]|_=>[] }
abbrev nd(self:(List (Int×Int×Int×Bool×Unit)×Int×Int×Int×Unit)->Option ((List (Int×Int×Int×Bool×Unit)×Unit))):Env:=Vp.e.ext 239 false true (BT 1 5 K_ Kb BY self)
theorem zy(self:(List (Int×Int×Int×Bool×Unit)×Int×Int×Int×Unit)->Option ((List (Int×Int×Int×Bool×Unit)×Unit))):∀ v,AD3 self v=roundOf Tryz.prog (nd self) (z4 self) 1 1 148 (B_ Tryz.f239 0) AD5 AD4 v:=by rintro⟨a,b,c,d,e,f,⟨⟩⟩;kernel_rfl
theorem ATF:CD (B_ Tryz.f239 0) 1=[]:=by kernel_rfl
theorem ATG(self:(List (Int×Int×Int×Bool×Unit)×Int×Int×Int×Unit)->Option ((List (Int×Int×Int×Bool×Unit)×Unit)))(a:BC Tryz.prog (nd self)):Fg Tryz.prog 1 (.loop (B_ Tryz.f239 0)) ((z4 self).loop 0):=IA a (zy self) (CU ATF trivial)
theorem ANj(self:(List (Int×Int×Int×Bool×Unit)×Int×Int×Int×Unit)->Option ((List (Int×Int×Int×Bool×Unit)×Unit))):∀ v,AYJ self v=Cq 1 Tryz.prog (nd self) (z4 self) Tryz.f239 K_ Kb BY v:=by rintro⟨a,b,c,d,⟨⟩⟩;kernel_rfl
theorem AYI:CD (Bu Tryz.f239) 0=[(0,B_ Tryz.f239 0)]:=by kernel_rfl
theorem z5:∀ n,BS Tryz.prog 239 (BT 1 5 K_ Kb BY (dA n)):=by
 intro n;induction n with
  |zero=>exact E1 fun _=>rfl
  |succ n b=>have a:BC Tryz.prog (nd (dA n)):=Env.B7 Vp.h b ((by simp)) (fun _=>CP rfl rfl);let self:=dA n;exact En a Tryz.func239 (by kernel_rfl) (by kernel_rfl) rfl (ANj self) (CU AYI ⟨(ATG self a),trivial⟩)
theorem AHQ:BS Tryz.prog 239 (BT 1 5 K_ Kb BY ATI):=by have e:ATI=dA 100:=funext ATH;rw[e];exact z5 _
def ART[Lk]:Env:=Vp.e.Xv 239 4 183 (BT 1 5 K_ Kb BY ATI)
theorem AK6:BC Tryz.prog ART:=Env.Q7 Vp.h AHQ (CP rfl rfl)
def K8:=Chn.g ⟨ART,AK6⟩ ⟨182,0,1,2,0,some (1,183),ASB,[(.ret,Kb)],BY,[],[]⟩ ADf Tryz.func182 AL5
set_option maxHeartbeats 8000000
attribute [local irreducible] A2 A9 B2 C5 Iq Df A4 Cu C8 imax idx EX ilt ile ieq seq? quo? rem? shl? shr? fits CY IntKind.wrap A_ BH Om ZU Bl Oo A' many Kq
abbrev Agm:Loc×Con:=(.cell 0 0,.dat (.slice (.int .u8)))
abbrev Agn:Loc×Con:=(.tmp 0,.box 2)
abbrev IS:A1:=[Agn,Agm,AeO,(.tmp 1,.clo 202 [])]
abbrev IQ:A1:=[AA,Av,Agm,AeO]
abbrev KG:List RS:=[.one]
abbrev Ov:A1:=[Av]
def bE[Lk]:Hints:={ fp:=VE [(1,[[],[0],[0],[0],[],[0],[0],[0]]),(3,[[],[0],[0],[0],[],[0],[0],[0]])] }
def Wv[Lk](v:Bd (leaves IS)):Option (Bd (leaves IQ)⊕(List Int×Bd (leaves Ov))):=Lk.f (DW 1 Tryz.prog K8.e bE Tryz.f201 IS IQ KG 235 [.i64,.i64] Ov v)
theorem iz(v):Wv v=DW 1 Tryz.prog K8.e bE Tryz.f201 IS IQ KG 235 [.i64,.i64] Ov v:=A0 _
theorem TS:Bz Tryz.prog 1 bE (Bu Tryz.f201) 0:=DR _ 0 (by kernel_rfl)
theorem AFl:IH Tryz.prog 201 (BT 1 2 IS IQ KG fun x=>Dd (Wv x)) (I_ 1 2 IS IQ KG 235 [.i64,.i64] Ov Wv):=MY K8.h.1 K8.h.2.1 K8.h.2.2 Tryz.func201 (Fv (by kernel_rfl)) (Cj Tryz.func201 (by kernel_rfl) (by kernel_rfl)) (AbP rfl) iz TS
theorem AFk:BS Tryz.prog 201 (BT 1 2 IS IQ KG fun x=>Dd (Wv x)):=MW K8.h Tryz.func201 (by kernel_rfl) (by kernel_rfl) rfl iz TS
def WA[Lk]:Env:=Env.Y3 K8.e 201 1 202 (BT 1 2 IS IQ KG fun x=>Dd (Wv x)) (I_ 1 2 IS IQ KG 235 [.i64,.i64] Ov Wv)
theorem Iw:BC Tryz.prog WA:=Env.vj K8.h AFk AFl (CP rfl rfl)
abbrev IP:A1:=[Agn,Agm,AeO,(.tmp 1,.clo 114 [])]
abbrev IN:A1:=[AA,Av,Agm,AeO]
abbrev KF:List RS:=[.one]
abbrev Ou:A1:=[Av]
def bD[Lk]:Hints:={ fp:=VE [(1,[[],[0],[0],[0],[],[0],[0],[0]]),(3,[[],[0],[0],[0],[],[0],[0],[0]])] }
def Wu[Lk](v:Bd (leaves IP)):Option (Bd (leaves IN)⊕(List Int×Bd (leaves Ou))):=Lk.f (DW 1 Tryz.prog WA bD Tryz.f201 IP IN KF 235 [.i64,.i64] Ou v)
theorem iy(v):Wu v=DW 1 Tryz.prog WA bD Tryz.f201 IP IN KF 235 [.i64,.i64] Ou v:=A0 _
theorem TR:Bz Tryz.prog 1 bD (Bu Tryz.f201) 0:=DR _ 0 (by kernel_rfl)
theorem AFj:IH Tryz.prog 201 (BT 1 2 IP IN KF fun x=>Dd (Wu x)) (I_ 1 2 IP IN KF 235 [.i64,.i64] Ou Wu):=MY Iw.1 Iw.2.1 Iw.2.2 Tryz.func201 (Fv (by kernel_rfl)) (Cj Tryz.func201 (by kernel_rfl) (by kernel_rfl)) (AbP rfl) iy TR
theorem AFi:BS Tryz.prog 201 (BT 1 2 IP IN KF fun x=>Dd (Wu x)):=MW Iw Tryz.func201 (by kernel_rfl) (by kernel_rfl) rfl iy TR
def V_[Lk]:Env:=Env.Y3 WA 201 1 114 (BT 1 2 IP IN KF fun x=>Dd (Wu x)) (I_ 1 2 IP IN KF 235 [.i64,.i64] Ou Wu)
theorem Iu:BC Tryz.prog V_:=Env.vj Iw AFi AFj (CP rfl rfl)
abbrev K5:A1:=[Agn,Agm,AeO]
abbrev K4:A1:=[AA,Av,Agm,AeO]
abbrev NM:List RS:=[.one]
abbrev TP:A1:=[Av]
def ll[Lk]:Hints:={ fp:=VE [(1,[[],[0],[0],[0],[],[0],[0],[0]])] }
def ir[Lk](v:Bd (leaves K5)):Option (Bd (leaves K4)⊕(List Int×Bd (leaves TP))):=Lk.f (DW 1 Tryz.prog V_ ll Tryz.f203 K5 K4 NM 235 [.i64,.i64] TP v)
theorem rY(v):ir v=DW 1 Tryz.prog V_ ll Tryz.f203 K5 K4 NM 235 [.i64,.i64] TP v:=A0 _
theorem YR:Bz Tryz.prog 1 ll (Bu Tryz.f203) 0:=DR _ 0 (by kernel_rfl)
theorem ALG:IH Tryz.prog 203 (BT 1 1 K5 K4 NM fun x=>Dd (ir x)) (I_ 1 1 K5 K4 NM 235 [.i64,.i64] TP ir):=MY Iu.1 Iu.2.1 Iu.2.2 Tryz.func203 (Fv (by kernel_rfl)) (Cj Tryz.func203 (by kernel_rfl) (by kernel_rfl)) (AbP rfl) rY YR
theorem ALF:BS Tryz.prog 203 (BT 1 1 K5 K4 NM fun x=>Dd (ir x)):=MW Iu Tryz.func203 (by kernel_rfl) (by kernel_rfl) rfl rY YR
def RJ[Lk]:Env:=Env.pM V_ 203 true (BT 1 1 K5 K4 NM fun x=>Dd (ir x)) (I_ 1 1 K5 K4 NM 235 [.i64,.i64] TP ir)
theorem FD:BC Tryz.prog RJ:=Env.aL Iu ALF ALG (fun _=>CP rfl rfl)
abbrev QT:A1:=[Agn,Agm,AeO,AeU,AK,AgX,AgV,Ae5,(.tmp 20,.di)]
abbrev QS:BJ:=[(.exit 0,[Agn,Agm,AeO,AeU,AK,AgX,AgV])]
abbrev QR:A1:=[Av]
def jB[Lk]:Hints:={ fp:=VE [(9,[[2],[2],[],[1000005,1],[],[1000005,1],[],[1000005,1],[],[],[7,32],[2],[3]]),(10,[[2],[2],[],[1000005,1],[],[1000005,1],[],[],[5,24],[2],[3]])] }
theorem TU:Bz Tryz.prog 1 { fp:=VE [(9,[[2],[2],[],[1000005,1],[],[1000005,1],[],[1000005,1],[],[],[7,32],[2],[3]]),(10,[[2],[2],[],[1000005,1],[],[1000005,1],[],[],[5,24],[2],[3]])],loop:=fun _=>Np 1 49 QT QS 235 [.i64,.i64] QR (KS Tryz.prog RJ jB 1 1 49 (B_ Tryz.f122 0) QT QS 235 [.i64,.i64] QR) } (Bu Tryz.f122) 0:=ZG (l:=[(0,(B_ Tryz.f122 0))]) (by kernel_rfl) ⟨df FD.1 FD.2.1 FD.2.2 (fun _=>rfl) (DR _ _ (by kernel_rfl)),trivial⟩
abbrev IU:A1:=[Agn,Agm,AeO]
abbrev Ago:Loc×Con:=(.tmp 0,.dat (.prod (.int .i64) (.prod (.slice (.prod (.int .i64) (.prod (.int .i64) .unit))) (.prod (.slice (.prod (.int .i64) (.prod (.int .i64) (.prod (.int .i64) .unit)))) .unit))))
abbrev IT:A1:=[Ago,Av,Agm,AeO]
abbrev KH:List RS:=[.one]
abbrev Oz:A1:=[Av]
def rh[Lk]:Hints:={ fp:=VE [(9,[[2],[2],[],[1000005,1],[],[1000005,1],[],[1000005,1],[],[],[7,32],[2],[3]]),(10,[[2],[2],[],[1000005,1],[],[1000005,1],[],[],[5,24],[2],[3]])],loop:=fun _=>Np 1 49 QT QS 235 [.i64,.i64] QR (KS Tryz.prog RJ jB 1 1 49 (B_ Tryz.f122 0) QT QS 235 [.i64,.i64] QR) }
def Wx[Lk](v:Bd (leaves IU)):Option (Bd (leaves IT)⊕(List Int×Bd (leaves Oz))):=Lk.f (DW 1 Tryz.prog RJ rh Tryz.f122 IU IT KH 235 [.i64,.i64] Oz v)
theorem jC(v):Wx v=DW 1 Tryz.prog RJ rh Tryz.f122 IU IT KH 235 [.i64,.i64] Oz v:=A0 _
theorem AFn:IH Tryz.prog 122 (BT 1 1 IU IT KH fun x=>Dd (Wx x)) (I_ 1 1 IU IT KH 235 [.i64,.i64] Oz Wx):=MY FD.1 FD.2.1 FD.2.2 Tryz.func122 (Fv (by kernel_rfl)) (Cj Tryz.func122 (by kernel_rfl) (by kernel_rfl)) (AbP rfl) jC TU
theorem AFm:BS Tryz.prog 122 (BT 1 1 IU IT KH fun x=>Dd (Wx x)):=MW FD Tryz.func122 (by kernel_rfl) (by kernel_rfl) rfl jC TU
def QL[Lk]:Env:=Env.pM RJ 122 false (BT 1 1 IU IT KH fun x=>Dd (Wx x)) (I_ 1 1 IU IT KH 235 [.i64,.i64] Oz Wx)
theorem Iy:BC Tryz.prog QL:=Env.aL FD AFm AFn (by simp)
abbrev Agp:Loc×Con:=(.cell 2 0,.dat (.slice (.int .u8)))
abbrev NQ:A1:=[Ao,Aq,AI,AK,AfR,Agp,Aev,Af4,Aga]
abbrev NP:BJ:=[(.exit 0,[Ao,Aq,AI,AK,AfR,Agp,Aev,Af4,Aga])]
abbrev NO:A1:=[Ao,Aq,AI,AK,Aga]
def bL[Lk]:Hints:={}
theorem gW[DfI]:Bz Tryz.prog 2 { fp:=VE [(5,[[],[],[4],[4],[4],[],[1],[3]])],loop:=fun _=>Np 2 27 NQ NP 235 [.i64,.i64] NO (KS Tryz.prog QL bL 1 2 27 (B_ Tryz.f46 0) NQ NP 235 [.i64,.i64] NO) } (wR 1 (Bu Tryz.f46)) 0:=ZG (l:=[(0,(B_ Tryz.f46 0))]) (by kernel_rfl) ⟨df Iy.1 Iy.2.1 Iy.2.2 (fun _=>rfl) (DR _ _ (by kernel_rfl)),trivial⟩
def RN[Lk]:Env:=QL.ext 121 false false (CJ Tryz.prog QL {} Tryz.f121)
theorem JU:BC Tryz.prog RN:=Env.B7 Iy (Br Iy Tryz.func121 (by kernel_rfl) (by kernel_rfl) (by kernel_rfl)) (by simp) (by simp)
abbrev Lz:A1:=[Af4]
abbrev Agq:Loc×Con:=(.tmp 0,.dat (.slice (.prod (.int .i64) (.prod (.slice (.prod (.int .i64) (.prod (.int .i64) .unit))) (.prod (.slice (.prod (.int .i64) (.prod (.int .i64) (.prod (.int .i64) .unit)))) .unit)))))
abbrev Ly:A1:=[Agq,AE,AF]
abbrev QU:List RS:=[.one,.one,.one]
abbrev jE:A1:=[Ao,Aq,AI,AK,Af4,(.tmp 2,.nil (.prod (.int .i64) (.prod (.slice (.prod (.int .i64) (.prod (.int .i64) .unit))) (.prod (.slice (.prod (.int .i64) (.prod (.int .i64) (.prod (.int .i64) .unit)))) .unit))))]
def bK[Lk]:Hints:={ fp:=VE [(5,[[],[],[4],[4],[4],[],[1],[3]])],loop:=fun _=>Np 2 27 NQ NP 235 [.i64,.i64] NO (KS Tryz.prog QL bL 1 2 27 (B_ Tryz.f46 0) NQ NP 235 [.i64,.i64] NO) }
def bJ:Hints:={ fp:=VE [(2,[[14],[14],[14],[14],[1],[3]])] }
def GY[Lk](v:Bd (leaves Lz)):Option (Bd (leaves Ly)):=Lk.f (Sf Tryz.prog RN Tryz.f46 1 Lz Ly QU {} bK bJ jE 2 v)
theorem yK(v):GY v=Sf Tryz.prog RN Tryz.f46 1 Lz Ly QU {} bK bJ jE 2 v:=A0 _
theorem mM:BS Tryz.prog 46 (BT 0 1 Lz Ly QU GY):=ur JU.1 JU.2.1 JU.2.2 Tryz.func46 (Fv (by kernel_rfl)) (Cj Tryz.func46 (by kernel_rfl) (by kernel_rfl)) (AbP rfl) yK gW
def lT[Lk]:Env:=RN.ext 46 true true (BT 0 1 Lz Ly QU GY)
theorem qi:BC Tryz.prog lT:=Env.B7 JU mM (fun _=>Nm rfl rfl) (fun _=>CP rfl rfl)
end
end Go.Pev
end
section
namespace Go.Pev
noncomputable section
abbrev AKY:A1:=[AfJ,Am,AE,Ad0,(.tmp 7,.box 1),Agj,(.tmp 8,.dat Vm),Ac]
def AQr[Lk]:=G3 (0:Int) DP tId
def AQs[Lk]:=OE (0:Int) DP tId
theorem AKZ v:AQs v=AQr v:=A0 _
abbrev AD2:A1:=[AfJ,Am,AE,AF,AS,As,(.tmp 9,.dat .bool)]
abbrev AD1:BJ:=[(.ret,[AfJ])]
def AD0[Lk]:=H9 (0:Int) DP tId
def AYH[Lk]:=Ni (0:Int) DP tId
def c9[Lk]:=Hd (0:Int) DP tId
def ATE[Lk]:=nn (0:Int) DP tId
theorem ATD v:ATE v=c9 100 v:=A0 _
def AR9[Lk]:=JC (0:Int) DP tId
def AW3[Lk]:=YX (0:Int) DP tId
theorem AL4 v:AW3 v=AR9 v:=A0 _
def AKi[Lk]:=G3 ((0,(0,())):U3) DO tLt
def AFF[Lk]:=OE ((0,(0,())):U3) DO tLt
theorem ACw v:AFF v=AKi v:=A0 _
abbrev AQp:A1:=[Ay,(.tmp 1,.dat U1)]
def wq[Lk]:(Uc×U4×Unit)->Option (Ub):=fun(a,b,_)=>
 match oH (a.1,())with|none=>none|some (c,_)=>some ((w64 (c-b.2.2.1)),())
def qR[Lk]:=lkk wq
theorem AKX v:qR v=wq v:=A0 _
def Lu[Lk]:Uz->Option (Ud):=fun(a,_)=>
 match S4 (a,())with|none=>none|some (b,_)=>some ((ile 0 b),())
def GO[Lk]:=lkk Lu
theorem P7 v:GO v=Lu v:=A0 _
def az[Lk]:(Us×Unit)->Option (Ud):=fun(a,_)=>
 match(ieq a.1 1)with
 |true=>match(ieq (A2 a.2.2.1) 0)with
  |true=>match(ile (A2 a.2.1) 60)with
   |true=>match GO (a.2.1,())with|none=>none|some (b,_)=>some ((!b),())
   |false=>some (false,())
  |false=>some (false,())
 |false=>match(ieq a.1 2)with
 |true=>match(ieq (A2 a.2.2.1) 0)with
  |true=>match(ile (A2 a.2.1) 60)with
   |true=>match GO (a.2.1,())with|none=>none|some (c,_)=>some ((!c),())
   |false=>some (false,())
  |false=>some (false,())
 |false=>match(ieq a.1 3)with
 |true=>match(ieq (A2 a.2.1) 0)with
  |true=>match(ile (A2 a.2.2.1) 60)with
   |true=>match LX (a.2.2.1,())with|none=>none|some (d,_)=>some ((!d),())
   |false=>some (false,())
  |false=>some (false,())
 |false=>some (false,())
def lj[Lk]:=lkk az
theorem iq v:lj v=az v:=A0 _
abbrev pW:A1:=[Ad6,Ap,Ad5,Ad7,AgM]
abbrev hY:A1:=[Ad6,Ap,Ad5,Ad7,Am,Ad4,AeR,Ad0]
abbrev hQ:BJ:=[(.exit 0,[Ad6,Ap,Ad5,Ad7,Am,AeR])]
def ID[Lk]:Vi->Option (Vi⊕(List U3×List V4×Int×Unit)⊕Unit):=fun(a,d,c,b,_)=>
 match(ilt b (A2 a))with
 |true=>match idx a b with|none=>none|some e=>match(!(ieq ((A_ d ((A9 a (A4 b) (0,(0,()))).1,((A9 a (A4 b) (0,(0,()))).2.1,()))).getD 0) 0))with
  |true=>match idx a c with|none=>none|some f=>some (.inl ((Bl a (A4 c) ((A9 a (A4 b) (0,(0,()))).1,((A9 a (A4 b) (0,(0,()))).2.1,()))),d,(w64 (c+1)),(w64 (b+1)),()))
  |false=>some (.inl (a,d,c,(w64 (b+1)),()))
 |false=>some (.inr (.inl (a,d,c,())))
def N_[Lk]:(List U3×List V4×Unit)->Option ((List U3×List V4×Int×Unit)):=fun(g,h,_)=>
 match S5 (g,h,())with|none=>none|some (c,e,d,_)=>match(ieq d (-1:Int))with
 |true=>some (c,e,(A2 c),())
 |false=>match A' ID many (c,e,d,(w64 (d+1)),())with|none=>none|some r=>match r with
 |.inl (a,i,b,_)=>match EX a b (A2 a)with|none=>none|some f=>match EX (Cu (A4 b) (A4 (A2 f)) (0,(0,())) a) 0 b with|none=>none|some j=>some ((Cu (A4 b) (A4 (A2 f)) (0,(0,())) a),i,(((A4 (A2 j)):Nat):Int),())
 |.inr _=>none
def OA[Lk]:=lkk N_
theorem SF v:OA v=N_ v:=A0 _
abbrev AED:A1:=[Ad6,Am,AE,AF,AS,Ad9,Agk,Agl]
abbrev Z3:BJ:=[(.ret,[Ad6])]
def AEC[Lk]:=H9 ((0,(0,())):U3) Bp tLt
def AYP[Lk]:=Ni ((0,(0,())):U3) Bp tLt
def dD[Lk]:=Hd ((0,(0,())):U3) Bp tLt
def ATX[Lk]:=nn ((0,(0,())):U3) Bp tLt
theorem ATU v:ATX v=dD 100 v:=A0 _
abbrev tS:A1:=[Ad6,Am,AE,AF,AS,AfL,Agk,Agl]
def tR[Lk]:=H9 ((0,(0,())):U3) DO tLt
def ATW[Lk]:=Ni ((0,(0,())):U3) DO tLt
def T7[Lk]:=Hd ((0,(0,())):U3) DO tLt
def AEE[Lk]:=nn ((0,(0,())):U3) DO tLt
theorem ANp v:AEE v=T7 100 v:=A0 _
abbrev AMA:A1:=[Az,(.tmp 1,.clo 129 [])]
def AMB[Lk]:=JC ((0,(0,())):U3) DO tLt
def AMD[Lk]:=YX ((0,(0,())):U3) DO tLt
theorem AGK v:AMD v=AMB v:=A0 _
abbrev ASI:A1:=[Az,(.tmp 1,.clo 132 [])]
def ASJ[Lk]:=JC ((0,(0,())):U3) Bp tLt
def ADh[Lk]:=YX ((0,(0,())):U3) Bp tLt
theorem AL9 v:ADh v=ASJ v:=A0 _
open Go.Proofs
theorem AY5:Tryz.f225.body.isSome=true:=by kernel_rfl
theorem AY4 : (Tryz.f225.name == "runtime.NumGoroutine") = false := by kernel_rfl
theorem AY3:loops (Bu Tryz.f225)=0:=by kernel_rfl
def Vo:=Chn.g ⟨lT,qi⟩ ⟨310,0,1,3,0,none,N9,[(.ret,Ka)],BY,[(10,[[],[],[],[],[],[],[],[],[],[],[0],[0],[],[],[0],[0],[0],[1],[0],[1]])],[(0,AKY,oQ)]⟩ AQs Tryz.func310 AKZ
abbrev zw(self:(List Int×Int×Int×Int×Unit)->Option ((List Int×Unit))):Hints:={ loop:=fun n=>match n with|0=>Gl 1 134 AD2 AD1 (AD0 self)|_=>fun _ _ _=>none,fp:=fun n=>match n with|17=>[[],[],[],[],[],[],[0],[0],[],[],[0],[0],[],[],[]]|_=>[] }
abbrev nb(self:(List Int×Int×Int×Int×Unit)->Option ((List Int×Unit))):Env:=Vo.e.ext 274 false true (BT 1 4 K9 Ka BY self)
theorem zv(self:(List Int×Int×Int×Int×Unit)->Option ((List Int×Unit))):∀ v,AD0 self v=roundOf Tryz.prog (nb self) (zw self) 1 1 134 (B_ Tryz.f274 0) AD2 AD1 v:=by rintro⟨a,b,c,d,e,f,⟨⟩⟩;kernel_rfl
theorem ATB:CD (B_ Tryz.f274 0) 1=[]:=by kernel_rfl
theorem ATC(self:(List Int×Int×Int×Int×Unit)->Option ((List Int×Unit)))(a:BC Tryz.prog (nb self)):Fg Tryz.prog 1 (.loop (B_ Tryz.f274 0)) ((zw self).loop 0):=IA a (zv self) (CU ATB trivial)
theorem ANi(self:(List Int×Int×Int×Int×Unit)->Option ((List Int×Unit))):∀ v,AYH self v=Cq 1 Tryz.prog (nb self) (zw self) Tryz.f274 K9 Ka BY v:=by rintro⟨a,b,c,d,⟨⟩⟩;kernel_rfl
theorem AYG:CD (Bu Tryz.f274) 0=[(0,B_ Tryz.f274 0)]:=by kernel_rfl
theorem zx:∀ n,BS Tryz.prog 274 (BT 1 4 K9 Ka BY (c9 n)):=by
 intro n;induction n with
  |zero=>exact E1 fun _=>rfl
  |succ n b=>have a:BC Tryz.prog (nb (c9 n)):=Env.B7 Vo.h b ((by simp)) (fun _=>CP rfl rfl);let self:=c9 n;exact En a Tryz.func274 (by kernel_rfl) (by kernel_rfl) rfl (ANi self) (CU AYG ⟨(ATC self a),trivial⟩)
theorem AHP:BS Tryz.prog 274 (BT 1 4 K9 Ka BY ATE):=by have e:ATE=c9 100:=funext ATD;rw[e];exact zx _
def ARS[Lk]:Env:=Vo.e.ext 274 false true (BT 1 4 K9 Ka BY ATE)
theorem AK5:BC Tryz.prog ARS:=Env.B7 Vo.h AHP ((by simp)) (fun _=>CP rfl rfl)
def ASA:=Chn.g ⟨ARS,AK5⟩ ⟨233,0,1,1,0,none,tC,[(.ret,Ka)],BY,[],[]⟩ AW3 Tryz.func233 AL4
def AKj:=Chn.g ASA ⟨262,0,1,4,0,some (3,129),Qx,[(.ret,De)],BY,[(10,[[],[],[],[],[],[],[],[],[],[],[0],[0],[],[],[0],[0],[0],[1],[0],[1]])],[(0,lI,Qw)]⟩ AFF Tryz.func262 ACw
theorem sM:Tryz.f126.body.isSome=true:=by kernel_rfl
theorem sL : (Tryz.f126.name == "runtime.NumGoroutine") = false := by kernel_rfl
theorem sK:loops (Bu Tryz.f126)=0:=by kernel_rfl
def AQq:=Chn.g AKj ⟨223,0,0,2,0,none,AQp,[(.ret,Bg)],A8,[(1,[[0],[0],[],[2],[2]])],[]⟩ qR Tryz.func223 AKX
theorem AGF:Tryz.f151.body.isSome=true:=by kernel_rfl
theorem AGE : (Tryz.f151.name == "runtime.NumGoroutine") = false := by kernel_rfl
theorem AGD:loops (Bu Tryz.f151)=0:=by kernel_rfl
def iD:=Chn.g AQq ⟨112,0,0,2,0,some (1,110),UX,[(.ret,BX)],A8,[],[]⟩ GO Tryz.func112 P7
def ALE:=Chn.g iD ⟨43,0,0,1,0,none,qT,[(.ret,BX)],A8,[],[]⟩ lj Tryz.func43 iq
def JQ:=Chn.g ALE ⟨220,0,3,2,8,some (1,221),UY,[(.ret,pW)],A8,[],[(0,hY,hQ)]⟩ OA Tryz.func220 SF
abbrev AAD(self:(List (Int×Int×Unit)×Int×Int×Int×Unit)->Option ((List (Int×Int×Unit)×Unit))):Hints:={ loop:=fun n=>match n with|0=>Gl 1 148 AED Z3 (AEC self)|_=>fun _ _ _=>none,fp:=fun n=>match n with|17=>[[],[],[],[],[],[],[],[0],[0],[],[],[0],[0],[],[],[],[]]|_=>[] }
abbrev nq(self:(List (Int×Int×Unit)×Int×Int×Int×Unit)->Option ((List (Int×Int×Unit)×Unit))):Env:=JQ.e.ext 207 false true (BT 1 5 LC De BY self)
theorem AAC(self:(List (Int×Int×Unit)×Int×Int×Int×Unit)->Option ((List (Int×Int×Unit)×Unit))):∀ v,AEC self v=roundOf Tryz.prog (nq self) (AAD self) 1 1 148 (B_ Tryz.f207 0) AED Z3 v:=by rintro⟨a,b,c,d,e,f,⟨⟩⟩;kernel_rfl
theorem ATS:CD (B_ Tryz.f207 0) 1=[]:=by kernel_rfl
theorem ATT(self:(List (Int×Int×Unit)×Int×Int×Int×Unit)->Option ((List (Int×Int×Unit)×Unit)))(a:BC Tryz.prog (nq self)):Fg Tryz.prog 1 (.loop (B_ Tryz.f207 0)) ((AAD self).loop 0):=IA a (AAC self) (CU ATS trivial)
theorem ANm(self:(List (Int×Int×Unit)×Int×Int×Int×Unit)->Option ((List (Int×Int×Unit)×Unit))):∀ v,AYP self v=Cq 1 Tryz.prog (nq self) (AAD self) Tryz.f207 LC De BY v:=by rintro⟨a,b,c,d,⟨⟩⟩;kernel_rfl
theorem AYO:CD (Bu Tryz.f207) 0=[(0,B_ Tryz.f207 0)]:=by kernel_rfl
theorem AAE:∀ n,BS Tryz.prog 207 (BT 1 5 LC De BY (dD n)):=by
 intro n;induction n with
  |zero=>exact E1 fun _=>rfl
  |succ n b=>have a:BC Tryz.prog (nq (dD n)):=Env.B7 JQ.h b ((by simp)) (fun _=>CP rfl rfl);let self:=dD n;exact En a Tryz.func207 (by kernel_rfl) (by kernel_rfl) rfl (ANm self) (CU AYO ⟨(ATT self a),trivial⟩)
theorem AHT:BS Tryz.prog 207 (BT 1 5 LC De BY ATX):=by have e:ATX=dD 100:=funext ATU;rw[e];exact AAE _
def ADC[Lk]:Env:=JQ.e.Xv 207 4 132 (BT 1 5 LC De BY ATX)
theorem lV:BC Tryz.prog ADC:=Env.Q7 JQ.h AHT (CP rfl rfl)
abbrev nr(self:(List (Int×Int×Unit)×Int×Int×Int×Unit)->Option ((List (Int×Int×Unit)×Unit))):Hints:={ loop:=fun n=>match n with|0=>Gl 1 148 tS Z3 (tR self)|_=>fun _ _ _=>none,fp:=fun n=>match n with|17=>[[],[],[],[],[],[],[],[0],[0],[],[],[0],[0],[],[],[],[]]|_=>[] }
abbrev Z4(self:(List (Int×Int×Unit)×Int×Int×Int×Unit)->Option ((List (Int×Int×Unit)×Unit))):Env:=ADC.ext 207 false true (BT 1 5 IY De BY self)
theorem tQ(self:(List (Int×Int×Unit)×Int×Int×Int×Unit)->Option ((List (Int×Int×Unit)×Unit))):∀ v,tR self v=roundOf Tryz.prog (Z4 self) (nr self) 1 1 148 (B_ Tryz.f207 0) tS Z3 v:=by rintro⟨a,b,c,d,e,f,⟨⟩⟩;kernel_rfl
theorem ANn:CD (B_ Tryz.f207 0) 1=[]:=by kernel_rfl
theorem ANo(self:(List (Int×Int×Unit)×Int×Int×Int×Unit)->Option ((List (Int×Int×Unit)×Unit)))(a:BC Tryz.prog (Z4 self)):Fg Tryz.prog 1 (.loop (B_ Tryz.f207 0)) ((nr self).loop 0):=IA a (tQ self) (CU ANn trivial)
theorem AHU(self:(List (Int×Int×Unit)×Int×Int×Int×Unit)->Option ((List (Int×Int×Unit)×Unit))):∀ v,ATW self v=Cq 1 Tryz.prog (Z4 self) (nr self) Tryz.f207 IY De BY v:=by rintro⟨a,b,c,d,⟨⟩⟩;kernel_rfl
theorem ATV:CD (Bu Tryz.f207) 0=[(0,B_ Tryz.f207 0)]:=by kernel_rfl
theorem tT:∀ n,BS Tryz.prog 207 (BT 1 5 IY De BY (T7 n)):=by
 intro n;induction n with
  |zero=>exact E1 fun _=>rfl
  |succ n b=>have a:BC Tryz.prog (Z4 (T7 n)):=Env.B7 lV b ((by simp)) (fun _=>CP rfl rfl);let self:=T7 n;exact En a Tryz.func207 (by kernel_rfl) (by kernel_rfl) rfl (AHU self) (CU ATV ⟨(ANo self a),trivial⟩)
theorem AAF:BS Tryz.prog 207 (BT 1 5 IY De BY AEE):=by have e:AEE=T7 100:=funext ANp;rw[e];exact tT _
def AFS[Lk]:Env:=ADC.Xv 207 4 129 (BT 1 5 IY De BY AEE)
theorem ADB:BC Tryz.prog AFS:=Env.Q7 lV AAF (CP rfl rfl)
def AMC:=Chn.g ⟨AFS,ADB⟩ ⟨128,0,1,2,0,some (1,129),AMA,[(.ret,De)],BY,[],[]⟩ AMD Tryz.func128 AGK
def Zq:=Chn.g AMC ⟨128,0,1,2,0,some (1,132),ASI,[(.ret,De)],BY,[],[]⟩ ADh Tryz.func128 AL9
set_option maxHeartbeats 8000000
attribute [local irreducible] A2 A9 B2 C5 Iq Df A4 Cu C8 imax idx EX ilt ile ieq seq? quo? rem? shl? shr? fits CY IntKind.wrap A_ BH Om ZU Bl Oo A' many Kq
def II[Lk]:Env:=Zq.e.ext 135 false false (CJ Tryz.prog Zq.e {} Tryz.f135)
theorem YJ:BC Tryz.prog II:=Env.B7 Zq.h (Br Zq.h Tryz.func135 yN yM yL) (by simp) (by simp)
abbrev Agr:Loc×Con:=(.tmp 1,.clo 135 [])
abbrev Ei:Row:=⟨206,0,0,2,0,some (1,135),[Afj,Agr],[(.ret,[AA])],[.one],[],[(0,[Afj,Agr,AQ,AP],[(.ret,[AR]),(.exit 0,[])])]⟩
def vN[Lk]:=fun v=>Lk.f (BE _ _ v (Ei.self Tryz.prog (Ei.ev II) Tryz.f206))
def Lw[Lk]:Env:=Ei.Bh II vN
theorem NI:BC Tryz.prog Lw:=Row.BB Ei YJ Tryz.func206 (d:=Ei.self Tryz.prog (Ei.ev II) Tryz.f206) (fun _=>(A0 _).trans (A5 ..)) (by kernel_rfl) fun _=>rfl
def Ri[Lk]:Env:=Lw.ext 225 false false (CJ Tryz.prog Lw {} Tryz.f225)
theorem rL:BC Tryz.prog Ri:=Env.B7 NI (Br NI Tryz.func225 AY5 AY4 AY3) (by simp) (by simp)
abbrev Ags:Loc×Con:=(.tmp 1,.clo 225 [])
abbrev D6:Row:=⟨206,0,0,2,0,some (1,225),[Afj,Ags],[(.ret,[AA])],[.one],[],[(0,[Afj,Ags,AQ,AP],[(.ret,[AR]),(.exit 0,[])])]⟩
def oa[Lk]:=fun v=>Lk.f (BE _ _ v (D6.self Tryz.prog (D6.ev Ri) Tryz.f206))
def G'[Lk]:Env:=D6.Bh Ri oa
theorem Wc:BC Tryz.prog G':=Row.BB D6 rL Tryz.func206 (d:=D6.self Tryz.prog (D6.ev Ri) Tryz.f206) (fun _=>(A0 _).trans (A5 ..)) (by kernel_rfl) fun _=>rfl
abbrev ML:Row:=⟨175,0,0,1,0,none,[Afl],[(.ret,[AgL])],[.one],[],[]⟩
def rising[Lk]:=fun v=>Lk.f (BE _ _ v (ML.self Tryz.prog (ML.ev G') Tryz.f175))
def WO[Lk]:Env:=ML.Bh G' rising
theorem xZ:BC Tryz.prog WO:=Row.BB ML Wc Tryz.func175 (d:=ML.self Tryz.prog (ML.ev G') Tryz.f175) (fun _=>(A0 _).trans (A5 ..)) (by kernel_rfl) fun _=>rfl
abbrev Agt:Loc×Con:=(.tmp 8,.box 3)
abbrev XX:Row:=⟨95,0,0,2,0,none,[AA,Afm],[(.ret,[AA,(.tmp 1,.own 115 (.int .u32)),AeP,AS])],[.agg 3,.one],[(12,[[2],[2],[],[2],[2],[],[],[4],[5],[6],[7]]),(7,[[],[],[],[],[],[],[],[23]])],[(0,[AeV,AI,(.cell 0 1,.nil (.int .u32)),Aep,Agt,AK,(.cell 1 1,.own 115 (.int .u32)),(.cell 1 2,.own 4 .bool),(.tmp 37,.own 115 (.int .u32)),(.tmp 38,.di),Aed],[(.exit 0,[AeV,AI,(.cell 0 1,.nil (.int .u32)),Aep,Agt,AK,(.cell 1 1,.own 115 (.int .u32)),(.cell 1 2,.own 4 .bool)])])]⟩
def make[Lk]:=fun v=>Lk.f (BE _ _ v (XX.self Tryz.prog (XX.ev WO) Tryz.f95))
def rF[Lk]:Env:=XX.Bh WO make
theorem ALA:BC Tryz.prog rF:=Row.BB XX xZ Tryz.func95 (d:=XX.self Tryz.prog (XX.ev WO) Tryz.f95) (fun _=>(A0 _).trans (A5 ..)) (by kernel_rfl) fun _=>rfl
abbrev Xc:Row:=⟨102,0,0,1,0,none,[AgH],[(.ret,[AgL])],[.one],[],[(0,[AeD,AI,AgI,AgJ,(.tmp 3,.own 115 (.int .u32)),(.tmp 7,.dat (.slice .bool)),AP,Ac],[(.exit 0,[(.tmp 3,.own 115 (.int .u32))])])]⟩
def keys[Lk]:=fun v=>Lk.f (BE _ _ v (Xc.self Tryz.prog (Xc.ev rF) Tryz.f102))
def ADH[Lk]:Env:=Xc.Bh rF keys
theorem lW:BC Tryz.prog ADH:=Row.BB Xc ALA Tryz.func102 (d:=Xc.self Tryz.prog (Xc.ev rF) Tryz.f102) (fun _=>(A0 _).trans (A5 ..)) (by kernel_rfl) fun _=>rfl
def G9[Lk]:Env:=ADH.ext 126 false false (CJ Tryz.prog ADH {} Tryz.f126)
theorem WJ:BC Tryz.prog G9:=Env.B7 lW (Br lW Tryz.func126 sM sL sK) (by simp) (by simp)
abbrev Agu:Loc×Con:=(.cell 2 3,.dat (.mapi .i64 (.slice (.prod (.int .i64) (.prod (.int .i64) .unit)))))
abbrev Agv:Loc×Con:=(.cell 2 2,.map (.int .i64) (.int .i64))
abbrev Agw:Loc×Con:=(.cell 2 1,.dat (.slice (.int .i64)))
abbrev Agx:Loc×Con:=(.tmp 1,.clo 126 [(1,0)])
abbrev Agy:Loc×Con:=(.cell 1 0,.box 4)
abbrev Agz:Loc×Con:=(.obj 2,.ptr' 2 0)
abbrev Ag0:Loc×Con:=(.obj 3,.map' 3)
abbrev Eh:Row:=⟨206,0,4,2,0,some (1,126),[AfY,(.cap 1 0,.box 1),Agy,Aeu,Agw,Agv,Agu,Agx],[(.ret,[Afv,Ap,Agy,Aeu,Agw,Agv,Agu,Agz,Ag0,AA])],[.one],[],[(0,[Afv,Ap,Agy,Aeu,Agw,Agv,Agu,Agz,Ag0,Am,Agx,AQ,AP],[(.ret,[Afv,Ap,Agy,Aeu,Agw,Agv,Agu,Agz,Ag0,AR]),(.exit 0,[Afv,Ap,Agy,Aeu,Agw,Agv,Agu,Agz,Ag0])])]⟩
def vM[Lk]:=fun v=>Lk.f (BE _ _ v (Eh.self Tryz.prog (Eh.ev G9) Tryz.f206))
def IL[Lk]:Env:=Eh.Bh G9 vM
theorem YM:BC Tryz.prog IL:=Row.BB Eh WJ Tryz.func206 (d:=Eh.self Tryz.prog (Eh.ev G9) Tryz.f206) (fun _=>(A0 _).trans (A5 ..)) (by kernel_rfl) fun _=>rfl
abbrev Em:Row:=⟨124,0,4,2,8,some (1,126),[AfY,(.cap 1 0,.box 1),Agy,Aeu,Agw,Agv,Agu,Agx],[(.ret,[Afv,Ap,Agy,Aeu,Agw,Agv,Agu,Agz,Ag0,AgM])],[.one],[],[(0,[Afv,Ap,Agy,Aeu,Agw,Agv,Agu,Agz,Ag0,Am,Agx,AeR,Ad0],[(.exit 0,[Afv,Ap,Agy,Aeu,Agw,Agv,Agu,Agz,Ag0,Am,AeR])])]⟩
def wE[Lk]:=fun v=>Lk.f (BE _ _ v (Em.self Tryz.prog (Em.ev IL) Tryz.f124))
def Lx[Lk]:Env:=Em.Bh IL wE
theorem NJ:BC Tryz.prog Lx:=Row.BB Em YM Tryz.func124 (d:=Em.self Tryz.prog (Em.ev IL) Tryz.f124) (fun _=>(A0 _).trans (A5 ..)) (by kernel_rfl) fun _=>rfl
def JV[Lk]:Env:=Lx.ext 151 false false (CJ Tryz.prog Lx {} Tryz.f151)
theorem Zg:BC Tryz.prog JV:=Env.B7 NJ (Br NJ Tryz.func151 AGF AGE AGD) (by simp) (by simp)
abbrev Ag1:Loc×Con:=(.tmp 1,.clo 151 [(0,0)])
abbrev Hn:Row:=⟨219,0,1,2,0,some (1,151),[AgU,(.cap 1 0,.box 2),Aff,Afe,Ag1],[(.ret,[Av,Aff,Afe,AA])],[.one],[],[(0,[Av,Aff,Afe,AgU,Ag1,AQ,AP],[(.ret,[Av,Aff,Afe,AR]),(.exit 0,[Av,Aff,Afe])])]⟩
def APB[Lk]:=fun v=>Lk.f (BE _ _ v (Hn.self Tryz.prog (Hn.ev JV) Tryz.f219))
def OT[Lk]:Env:=Hn.Bh JV APB
theorem iZ:BC Tryz.prog OT:=Row.BB Hn Zg Tryz.func219 (d:=Hn.self Tryz.prog (Hn.ev JV) Tryz.f219) (fun _=>(A0 _).trans (A5 ..)) (by kernel_rfl) fun _=>rfl
abbrev GN:Row:=⟨150,0,1,2,0,some (1,151),[AgU,(.cap 1 0,.box 2),Aff,Afe,Ag1],[(.ret,[Av,Aff,Afe,AD])],[.one],[],[]⟩
def AKC[Lk]:=fun v=>Lk.f (BE _ _ v (GN.self Tryz.prog (GN.ev OT) Tryz.f150))
def Le[Lk]:Env:=GN.Bh OT AKC
theorem gK:BC Tryz.prog Le:=Row.BB GN iZ Tryz.func150 (d:=GN.self Tryz.prog (GN.ev OT) Tryz.f150) (fun _=>(A0 _).trans (A5 ..)) (by kernel_rfl) fun _=>rfl
abbrev MA:Row:=⟨76,0,0,2,0,none,[Agb,(.tmp 1,.dat (.prod (.int .i64) (.prod (.int .i64) (.prod (.slice (.prod (.int .i64) (.prod (.int .i64) .unit))) .unit))))],[(.ret,[AD])],[.one],[],[]⟩
def AXm[Lk]:=fun v=>Lk.f (BE _ _ v (MA.self Tryz.prog (MA.ev Le) Tryz.f76))
def WH[Lk]:Env:=MA.Bh Le AXm
theorem xU:BC Tryz.prog WH:=Row.BB MA gK Tryz.func76 (d:=MA.self Tryz.prog (MA.ev Le) Tryz.f76) (fun _=>(A0 _).trans (A5 ..)) (by kernel_rfl) fun _=>rfl
abbrev Ag2:Loc×Con:=(.tmp 0,.dat (.prod (.prod (.slice (.int .i64)) (.prod (.slice (.int .i64)) .unit)) (.prod (.slice (.prod (.int .i64) (.prod (.int .i64) (.prod (.slice (.prod (.int .i64) (.prod (.int .i64) .unit))) .unit)))) .unit)))
abbrev Ji:Row:=⟨32,0,0,1,0,none,[Ag2],[(.ret,[AD])],[.one],[],[(0,[AeD,Aff,Afe,Afa,(.tmp 20,.dat (.slice (.prod (.int .i64) (.prod (.int .i64) (.prod (.slice (.prod (.int .i64) (.prod (.int .i64) .unit))) .unit))))),(.tmp 21,.di),(.tmp 22,.di)],[(.ret,[AH]),(.exit 0,[])])]⟩
def AR2[Lk]:=fun v=>Lk.f (BE _ _ v (Ji.self Tryz.prog (Ji.ev WH) Tryz.f32))
def RT[Lk]:Env:=Ji.Bh WH AR2
theorem qo:BC Tryz.prog RT:=Row.BB Ji xU Tryz.func32 (d:=Ji.self Tryz.prog (Ji.ev WH) Tryz.f32) (fun _=>(A0 _).trans (A5 ..)) (by kernel_rfl) fun _=>rfl
abbrev EA:Row:=⟨138,0,0,2,0,some (1,163),[Afj,AgB],[(.ret,[AD])],[.one],[],[]⟩
def pk[Lk]:=fun v=>Lk.f (BE _ _ v (EA.self Tryz.prog (EA.ev RT) Tryz.f138))
def HE[Lk]:Env:=EA.Bh RT pk
theorem Wm:BC Tryz.prog HE:=Row.BB EA qo Tryz.func138 (d:=EA.self Tryz.prog (EA.ev RT) Tryz.f138) (fun _=>(A0 _).trans (A5 ..)) (by kernel_rfl) fun _=>rfl
abbrev Dh:Row:=⟨138,0,0,2,0,some (1,225),[Afj,Ags],[(.ret,[AD])],[.one],[],[]⟩
def iA[Lk]:=fun v=>Lk.f (BE _ _ v (Dh.self Tryz.prog (Dh.ev HE) Tryz.f138))
def Fw[Lk]:Env:=Dh.Bh HE iA
theorem TN:BC Tryz.prog Fw:=Row.BB Dh Wm Tryz.func138 (d:=Dh.self Tryz.prog (Dh.ev HE) Tryz.f138) (fun _=>(A0 _).trans (A5 ..)) (by kernel_rfl) fun _=>rfl
abbrev D':Row:=⟨138,0,0,2,0,some (1,135),[Afj,Agr],[(.ret,[AD])],[.one],[],[]⟩
def pj[Lk]:=fun v=>Lk.f (BE _ _ v (D'.self Tryz.prog (D'.ev Fw) Tryz.f138))
def HD[Lk]:Env:=D'.Bh Fw pj
theorem Wl:BC Tryz.prog HD:=Row.BB D' TN Tryz.func138 (d:=D'.self Tryz.prog (D'.ev Fw) Tryz.f138) (fun _=>(A0 _).trans (A5 ..)) (by kernel_rfl) fun _=>rfl
abbrev Cv:Row:=⟨138,0,1,2,0,some (1,215),[Afj,(.cap 1 0,.box 1),Aff,Af1],[(.ret,[AB,Aff,AD])],[.one],[],[]⟩
def X7[Lk]:=fun v=>Lk.f (BE _ _ v (Cv.self Tryz.prog (Cv.ev HD) Tryz.f138))
def EW[Lk]:Env:=Cv.Bh HD X7
theorem Oq:BC Tryz.prog EW:=Row.BB Cv Wl Tryz.func138 (d:=Cv.self Tryz.prog (Cv.ev HD) Tryz.f138) (fun _=>(A0 _).trans (A5 ..)) (by kernel_rfl) fun _=>rfl
abbrev D9:Row:=⟨124,0,2,2,8,some (1,346),[AfY,(.cap 1 0,.box 2),AK,Afu,Afw],[(.ret,[Afv,Afx,AK,Afu,AgM])],[.one],[],[(0,[Afv,Afx,AK,Afu,Am,Afw,AeR,Ad0],[(.exit 0,[Afv,Afx,AK,Afu,Am,AeR])])]⟩
def pV[Lk]:=fun v=>Lk.f (BE _ _ v (D9.self Tryz.prog (D9.ev EW) Tryz.f124))
def HB[Lk]:Env:=D9.Bh EW pV
theorem Wg:BC Tryz.prog HB:=Row.BB D9 Oq Tryz.func124 (d:=D9.self Tryz.prog (D9.ev EW) Tryz.f124) (fun _=>(A0 _).trans (A5 ..)) (by kernel_rfl) fun _=>rfl
abbrev Ag3:Loc×Con:=(.cell 0 2,.dat (.slice (.prod (.int .i64) (.prod (.int .i64) (.prod (.int .i64) .unit)))))
abbrev Ag4:Loc×Con:=(.cell 0 1,.dat (.slice (.prod (.int .i64) (.prod (.int .i64) .unit))))
abbrev Ag5:Loc×Con:=(.tmp 4,.own 5 (.int .u8))
abbrev Ag6:Loc×Con:=(.tmp 43,.di)
abbrev Ag7:Loc×Con:=(.tmp 28,.di)
abbrev Ag8:Loc×Con:=(.tmp 42,.di)
abbrev JZ:Row:=⟨83,0,0,1,0,none,[Ago],[(.ret,[AgO,AE])],[.one,.one],[(12,[[],[2],[2],[],[],[1,4],[2],[2],[2],[2],[],[1000005,7,9]])],[(0,[AeD,AI,Ag4,Ag3,Ag5,(.tmp 26,.dat (.slice (.prod (.int .i64) (.prod (.int .i64) .unit)))),AX,Ag7],[(.exit 0,[AeD,AI,Ag4,Ag3,Ag5])]),(1,[Ag5,(.tmp 41,.dat (.slice (.prod (.int .i64) (.prod (.int .i64) (.prod (.int .i64) .unit))))),Ag8,Ag6],[(.exit 2,[Ag5])])]⟩
def H5[Lk]:=fun v=>Lk.f (BE _ _ v (JZ.self Tryz.prog (JZ.ev HB) Tryz.f83))
def RM[Lk]:Env:=JZ.Bh HB H5
theorem qh:BC Tryz.prog RM:=Row.BB JZ Wg Tryz.func83 (d:=JZ.self Tryz.prog (JZ.ev HB) Tryz.f83) (fun _=>(A0 _).trans (A5 ..)) (by kernel_rfl) fun _=>rfl
abbrev HT:Row:=⟨48,0,2,1,0,none,[AgS,AI,Afe,AgQ,AgP],[(.ret,[AgT,AI,Afe,AgQ,AgP,AgR,AfY])],[.one],[],[]⟩
def AMH[Lk]:=fun v=>Lk.f (BE _ _ v (HT.self Tryz.prog (HT.ev RM) Tryz.f48))
def ON[Lk]:Env:=HT.Bh RM AMH
theorem iU:BC Tryz.prog ON:=Row.BB HT qh Tryz.func48 (d:=HT.self Tryz.prog (HT.ev RM) Tryz.f48) (fun _=>(A0 _).trans (A5 ..)) (by kernel_rfl) fun _=>rfl
abbrev KC:Row:=⟨13,0,0,2,0,none,[Ago,Agg],[(.ret,[AA])],[.one],[(7,[[0],[0],[],[2],[],[0],[0],[],[2],[2]])],[]⟩
def AVY[Lk]:=fun v=>Lk.f (BE _ _ v (KC.self Tryz.prog (KC.ev ON) Tryz.f13))
def Ro[Lk]:Env:=KC.Bh ON AVY
theorem rS:BC Tryz.prog Ro:=Row.BB KC iU Tryz.func13 (d:=KC.self Tryz.prog (KC.ev ON) Tryz.f13) (fun _=>(A0 _).trans (A5 ..)) (by kernel_rfl) fun _=>rfl
abbrev Hx:Row:=⟨15,0,0,2,0,none,[Agq,Agg],[(.ret,[AA])],[.one],[],[(0,[(.tmp 3,.box 5),AI,AeO,AfA,AfB,(.cell 0 4,.dat (.slice (.arr 2 (.int .i64)))),AR,(.tmp 7,.dat (.slice (.prod (.int .i64) (.prod (.slice (.prod (.int .i64) (.prod (.int .i64) .unit))) (.prod (.slice (.prod (.int .i64) (.prod (.int .i64) (.prod (.int .i64) .unit)))) .unit))))),AP,Ac],[(.exit 0,[AR])])]⟩
def Vt[Lk]:=fun v=>Lk.f (BE _ _ v (Hx.self Tryz.prog (Hx.ev Ro) Tryz.f15))
def OX[Lk]:Env:=Hx.Bh Ro Vt
theorem im:BC Tryz.prog OX:=Row.BB Hx rS Tryz.func15 (d:=Hx.self Tryz.prog (Hx.ev Ro) Tryz.f15) (fun _=>(A0 _).trans (A5 ..)) (by kernel_rfl) fun _=>rfl
abbrev Ag9:Loc×Con:=(.tmp 5,.map (.prod (.int .i64) (.prod (.int .i64) .unit)) (.int .i64))
abbrev AhA:Loc×Con:=(.tmp 6,.own 59 (.prod (.int .i64) (.prod (.int .i64) .unit)))
abbrev AhB:Loc×Con:=(.tmp 12,.dat (.slice (.int .i64)))
abbrev W8:Row:=⟨49,0,2,2,0,none,[AgS,AI,Afe,AgQ,AgP,Afk],[(.ret,[AgT,AI,Afe,AgQ,AgP,AgR,(.tmp 0,.own 59 (.prod (.int .i64) (.prod (.int .i64) .unit)))])],[.one],[(9,[[],[8],[4],[],[5],[],[5]])],[(0,[AgT,AI,Afe,AgQ,AgP,AgR,Aen,Ag9,AhA,AhB,AM,Aeo],[(.exit 0,[AgT,AI,Afe,AgQ,AgP,AgR,AhA])]),(1,[AgT,AI,Afe,AgQ,AgP,AgR,Aen,Ag9,AhA,AhB,AM,Aeo,(.tmp 23,.dat (.slice (.prod (.int .i64) (.prod (.int .i64) .unit)))),AeK,AeA],[(.exit 2,[AgT,AI,Afe,AgQ,AgP,AgR,Aen,Ag9,AhA,AhB,AM,Aeo])])]⟩
def Aad[Lk]:=fun v=>Lk.f (BE _ _ v (W8.self Tryz.prog (W8.ev OX) Tryz.f49))
def ARQ[Lk]:Env:=W8.Bh OX Aad
theorem AK2:BC Tryz.prog ARQ:=Row.BB W8 im Tryz.func49 (d:=W8.self Tryz.prog (W8.ev OX) Tryz.f49) (fun _=>(A0 _).trans (A5 ..)) (by kernel_rfl) fun _=>rfl
end
end Go.Pev
end
section
namespace Go.Pev
noncomputable section
def I6[Lk]:Uj->Option (Ud):=fun(a,_)=>
 match Nx (a,())with|none=>none|some (b,_)=>some ((ile 0 b),())
def IE[Lk]:=lkk I6
theorem M7 v:IE v=I6 v:=A0 _
abbrev VW:A1:=[Av,AI,Au,AD]
def Gz[Lk]:(List Int×Int×List U6×Unit)->Option ((Int×List U6×Bool×Unit)):=fun(a,b,c,_)=>
 match Kg (a,b,c,())with|none=>none|some (d,e,f,_)=>some (d,e,(ile 0 f),())
def Fu[Lk]:=lkk Gz
theorem Kr v:Fu v=Gz v:=A0 _
abbrev iB:A1:=[Av,AI,Ad1,AD]
def Lt[Lk]:(List Int×Int×List U4×Unit)->Option ((Int×List U4×Bool×Unit)):=fun(a,b,c,_)=>
 match S3 (a,b,c,())with|none=>none|some (d,e,f,_)=>some (d,e,(ile 0 f),())
def LW[Lk]:=lkk Lt
theorem P6 v:LW v=Lt v:=A0 _
def cY[Lk]:Uj->Option (Ud):=fun(a,_)=>
 match(ilt 1000 (A2 a))with
 |true=>some (false,())
 |false=>match IE (a,())with|none=>none|some (b,_)=>match(!b)with
 |true=>match once (a,())with|none=>none|some (c,_)=>some (c,())
 |false=>some (false,())
def XH[Lk]:=lkk cY
theorem jl v:XH v=cY v:=A0 _
abbrev tH:A1:=[AT,At]
abbrev AG9:A1:=[AO,AW,(.tmp 12,.dat U7),AM,Aeo]
abbrev AG8:BJ:=[(.exit 0,[AW])]
def Ju[Lk]:V8->Option (V8⊕Uj⊕Unit):=fun(c,a,d,e,b,_)=>
 match(ilt b e)with
 |true=>match idx d b with|none=>none|some g=>match Xj (c,g,())with|none=>none|some (f,_)=>match(fits ((A2 a)+(A2 ([f]:List (Int)))))with
  |true=>some (.inl (c,(B2 a ([f]:List (Int))),d,e,(w64 (b+1)),()))
  |false=>none
 |false=>some (.inr (.inl (a,())))
def c7[Lk]:(List Int×List Int×Unit)->Option ((List Int×Bool×Unit)):=fun(a,b,_)=>
 match XH (a,())with|none=>none|some (d,_)=>match(!d)with
 |true=>some (([]:List (Int)),false,())
 |false=>match A' Ju many (a,([]:List (Int)),b,(A2 b),0,())with|none=>none|some r=>match r with
 |.inl (c,_)=>match J9 (c,(-1:Int),())with|none=>none|some (e,_)=>some (c,(!e),())
 |.inr _=>none
def places[Lk]:=lkk c7
theorem jy v:places v=c7 v:=A0 _
def nL[Lk]:Ut->Option ((List Int×Bool×Unit)):=fun(a,c,_)=>
 match places (a,([c]:List (Int)),())with|none=>none|some (b,d,_)=>match(!d)with
 |true=>some (([]:List (Int)),false,())
 |false=>match idx b 0 with|none=>none|some f=>match bQ (a,(A9 b 0 0),())with|none=>none|some (e,_)=>some (e,true,())
def su[Lk]:=lkk nL
theorem ss v:su v=nL v:=A0 _
def cZ[Lk]:Uj->Option (Uj):=fun(a,_)=>
 match XH (a,())with|none=>none|some (b,_)=>match(!b)with
 |true=>some (([]:List (Int)),())
 |false=>match(ieq (A2 a) 0)with
 |true=>some (([]:List (Int)),())
 |false=>match AOd (a,())with|none=>none|some (c,_)=>match Xj (a,c,())with|none=>none|some (d,_)=>match bQ (a,d,())with|none=>none|some (e,_)=>some (e,())
def nJ[Lk]:=lkk cZ
theorem jm v:nJ v=cZ v:=A0 _
abbrev ALT:A1:=[Ad]
abbrev AFv:A1:=[Ab,Ae4,(.tmp 79,.di)]
abbrev AFs:BJ:=[(.ret,[AH]),(.exit 4,[])]
def Jd[Lk]:(List Ui×Int×Int×Unit)->Option ((List Ui×Int×Int×Unit)⊕Ud⊕(Unit)⊕Unit):=fun(b,c,a,_)=>
 match(ilt a c)with
 |true=>match(ieq ((A_ b a).getD 0) 0)with
  |true=>some (.inr (.inl (false,())))
  |false=>some (.inl (b,c,(w64 (a+1)),()))
 |false=>some (.inr (.inr (.inl ())))
abbrev AhC:Loc×Con:=(.tmp 47,.di)
abbrev AhD:Loc×Con:=(.tmp 29,.di)
abbrev AFw:A1:=[Ad3,AI,Au,Ab,AR,(.tmp 16,.dat Uf),AfZ,AgN,(.tmp 26,.dat U7),Ag7,AhD,(.tmp 30,.dat .bool),(.tmp 33,.dat U7),(.tmp 34,.dat .bool),(.tmp 35,.dat .bool),(.tmp 38,.dat U7),Aed,(.tmp 40,.dat U7),Ag8,(.tmp 43,.dat .bool),(.tmp 46,.ptr' 0 0),AhC,(.tmp 48,.dat U7),(.tmp 49,.dat .bool),(.tmp 50,.dat .bool),(.tmp 55,.dat U7),(.tmp 56,.di),Ae8]
abbrev AFt:BJ:=[(.ret,[AH]),(.exit 2,[Ad3,AI,Au,Ab,AR,(.tmp 16,.dat Uf),AfZ,AgN,(.tmp 26,.dat U7),Ag7,AhD,(.tmp 30,.dat .bool),(.tmp 33,.dat U7),(.tmp 34,.dat .bool),(.tmp 35,.dat .bool),(.tmp 38,.dat U7),Aed,(.tmp 40,.dat U7),Ag8,(.tmp 43,.dat .bool),(.tmp 46,.ptr' 0 0),AhC,(.tmp 48,.dat U7),(.tmp 49,.dat .bool),(.tmp 50,.dat .bool)])]
def Je[Lk]:Ux->Option (Ux⊕Ud⊕(Int×List U6×List Ui×Int×List U6×Int×Int×List Int×Int×Int×Bool×List Int×Bool×Bool×List Int×Int×List Int×Int×Bool×Int×List Int×Bool×Bool×Unit)⊕Unit):=fun(c,e,a,f,g,h,i,j,k,l,m,n,o,p,q,r,s,t,u,v,w,x,y,z,A,d,_)=>
 match(ilt d A)with
 |true=>match idx z d with|none=>none|some b=>match(ilt b c)with
  |true=>match(ilt 0 ((A_ a b).getD 0))with
   |true=>some (.inr (.inl (false,())))
   |false=>some (.inl (c,e,(BH a b (w64 (((A_ a b).getD 0)+1))),f,g,h,i,j,k,l,m,n,o,p,q,r,s,t,u,v,w,x,y,z,A,(w64 (d+1)),()))
  |false=>some (.inl (c,e,(BH a b (w64 (((A_ a b).getD 0)+1))),f,g,h,i,j,k,l,m,n,o,p,q,r,s,t,u,v,w,x,y,z,A,(w64 (d+1)),()))
 |false=>some (.inr (.inr (.inl (c,e,a,f,g,h,i,j,k,l,m,n,o,p,q,r,s,t,u,v,w,x,y,()))))
abbrev AFx:A1:=[Ad3,AI,Au,Ab,AR,(.tmp 16,.dat Uf),AfZ,AgN]
abbrev AFu:BJ:=[(.ret,[AH]),(.exit 0,[Ad3,AI,Au,Ab])]
def HM[Lk]:(Int×List U6×List Ui×Int×List U6×Int×Int×Unit)->Option ((Int×List U6×List Ui×Int×List U6×Int×Int×Unit)⊕Ud⊕(Int×List U6×List Ui×Unit)⊕Unit):=fun(b,j,k,c,l,m,d,_)=>
 match(ilt d m)with
 |true=>match idx l d with|none=>none|some a=>match(ieq (A2 a) 0)with
  |true=>some (.inr (.inl (false,())))
  |false=>match idx a 0 with|none=>none|some e=>match(ile e c)with
  |true=>some (.inr (.inl (false,())))
  |false=>match XH (a,())with|none=>none|some (f,_)=>match(!f)with
  |true=>some (.inr (.inl (false,())))
  |false=>match AOd (a,())with|none=>none|some (g,_)=>match idx a 0 with|none=>none|some h=>match(!(ieq g h))with
  |true=>some (.inr (.inl (false,())))
  |false=>match goes (b,a,())with|none=>none|some (i,_)=>match(!i)with
  |true=>some (.inr (.inl (false,())))
  |false=>match idx a 0 with|none=>none|some n=>match A' Je many (b,j,k,n,l,m,d,a,e,c,(ile e c),a,f,(!f),a,g,a,h,(!(ieq g h)),b,a,i,(!i),a,(A2 a),0,())with|none=>none|some r=>match r with
  |.inl (o,_)=>some (.inr (.inl (o,())))
  |.inr r=>match r with
  |.inl (p,q,s,t,u,v,w,x,y,z,A,B,C,D,E,F,G,H,I,J,K,L,M,_)=>some (.inl (p,q,s,t,u,v,(w64 (w+1)),()))
  |.inr _=>none
 |false=>some (.inr (.inr (.inl (b,j,k,()))))
def bX[Lk]:(Up×Unit)->Option (Ud):=fun(a,_)=>
 match SO (a.1,())with|none=>none|some (b,_)=>match(!b)with
 |true=>some (false,())
 |false=>match A' HM many (a.1,a.2.1,([]:List Ui),(-1:Int),a.2.1,(A2 a.2.1),0,())with|none=>none|some r=>match r with
 |.inl (c,_)=>some (c,())
 |.inr r=>match r with
 |.inl (d,g,e,_)=>match A' Jd many (e,d,0,())with|none=>none|some r=>match r with
  |.inl (f,_)=>some (f,())
  |.inr r=>match r with
  |.inl _=>some (true,())
  |.inr _=>none
 |.inr _=>none
def KI[Lk]:=lkk bX
theorem jJ v:KI v=bX v:=A0 _
abbrev AFI:A1:=[Ad,AE,AF]
def qV[Lk]:(Up×Int×Int×Unit)->Option (Ub):=fun(a,b,c,_)=>
 match KI ((a.1,(a.2.1,())),())with|none=>none|some (d,_)=>match(!d)with
 |true=>some (1,())
 |false=>match tin (a.1,b,())with|none=>none|some (e,_)=>match(!e)with
 |true=>some (10,())
 |false=>match tin (a.1,c,())with|none=>none|some (f,_)=>match(!f)with
 |true=>some (10,())
 |false=>some (0,())
def asked[Lk]:=lkk qV
theorem w9 v:asked v=qV v:=A0 _
abbrev ARf:A1:=[Ad,Ae,(.tmp 2,.dat Uf)]
abbrev ARe:A1:=[AA,(.tmp 1,.own 40 U7)]
abbrev AhE:Loc×Con:=(.tmp 7,.own 40 U7)
abbrev AhF:Loc×Con:=(.cell 1 1,.nil U7)
abbrev AhG:Loc×Con:=(.tmp 6,.box 2)
abbrev ALK:A1:=[AfM,AI,Au,AhG,AK,AhF,AhE,(.tmp 29,.dat Uf),(.tmp 30,.di),(.tmp 31,.di)]
abbrev ALI:BJ:=[(.exit 2,[AfM,AI,Au,AhG,AK,AhF,AhE])]
def O1[Lk]:(Int×List U6×Int×List U6×List U6×Int×Int×Unit)->Option ((Int×List U6×Int×List U6×List U6×Int×Int×Unit)⊕(Int×List U6×Int×List U6×Unit)⊕Unit):=fun(c,d,e,a,f,g,b,_)=>
 match(ilt b g)with
 |true=>match idx f b with|none=>none|some i=>match nJ (i,())with|none=>none|some (h,_)=>match(fits ((A2 a)+(A2 ([h]:List U6))))with
  |true=>some (.inl (c,d,e,(B2 a ([h]:List U6)),f,g,(w64 (b+1)),()))
  |false=>none
 |false=>some (.inr (.inl (c,d,e,a,())))
abbrev ALL:A1:=[Ae,(.tmp 2,.dat Uf),AfM,AI,Au,AhG,AK,AhF,AhE,(.tmp 13,.dat Uf),Aeo,Aey]
abbrev ALJ:BJ:=[(.exit 0,[(.tmp 2,.dat Uf),AfM,AI,Au,AhG,AK,AhF,AhE])]
def O2[Lk]:(List Int×List U6×Int×List U6×Int×List U6×List U6×Int×Int×Unit)->Option ((List Int×List U6×Int×List U6×Int×List U6×List U6×Int×Int×Unit)⊕(List U6×Int×List U6×Int×List U6×Unit)⊕Unit):=fun(c,d,e,f,g,b,h,i,a,_)=>
 match(ilt a i)with
 |true=>match idx h a with|none=>none|some j=>match J9 (c,a,())with|none=>none|some (k,_)=>match(!k)with
  |true=>match(fits ((A2 b)+(A2 ([j]:List U6))))with
   |true=>some (.inl (c,d,e,f,g,(B2 b ([j]:List U6)),h,i,(w64 (a+1)),()))
   |false=>none
  |false=>some (.inl (c,d,e,f,g,b,h,i,(w64 (a+1)),()))
 |false=>some (.inr (.inl (d,e,f,g,b,())))
def mQ[Lk]:(Up×List Int×List U6×Unit)->Option ((Int×List U6×Unit)):=fun(a,c,d,_)=>
 match A' O2 many (c,d,a.1,a.2.1,0,([]:List U6),a.2.1,(A2 a.2.1),0,())with|none=>none|some r=>match r with
 |.inl (b,e,f,g,h,_)=>match A' O1 many (e,f,g,h,b,(A2 b),0,())with|none=>none|some r=>match r with
  |.inl (i,l,m,j,_)=>match ADg (j,())with|none=>none|some (k,_)=>some (i,k,())
  |.inr _=>none
 |.inr _=>none
def ADR[Lk]:=lkk mQ
theorem rn v:ADR v=mQ v:=A0 _
abbrev ARp:A1:=[AA,(.tmp 1,.dat Uf),AF]
def Zk[Lk]:(Up×Int×Int×Unit)->Option ((Int×List U6×Int×Unit)):=fun(a,b,c,_)=>
 match asked ((a.1,(a.2.1,())),b,c,())with|none=>none|some (g,_)=>match(!(ieq g 0))with
 |true=>some (a.1,a.2.1,g,())
 |false=>match Wz ((a.1,(a.2.1,())),b,())with|none=>none|some (e,_)=>match Wz ((a.1,(a.2.1,())),c,())with|none=>none|some (f,_)=>match(ieq e f)with
 |true=>some (a.1,a.2.1,5,())
 |false=>match idx a.2.1 e with|none=>none|some h=>match su (h,b,())with|none=>none|some (d,r,_)=>match idx a.2.1 f with|none=>none|some i=>match su (i,c,())with|none=>none|some (j,s,_)=>match EX d 0 1 with|none=>none|some k=>match ALt (a.1,b,c,())with|none=>none|some (l,_)=>match ALt (a.1,c,b,())with|none=>none|some (m,_)=>match EX d 1 (A2 d)with|none=>none|some n=>match RB (([(Iq 0 (A4 (A2 k)) d),([l]:List (Int)),j,([m]:List (Int)),(Iq 1 (A4 (A2 n)) d)]:List U6),())with|none=>none|some (o,_)=>match ADR ((a.1,(a.2.1,())),([e,f]:List (Int)),([o]:List U6),())with|none=>none|some (p,q,_)=>some (p,q,0,())
def jL[Lk]:=lkk Zk
theorem bZ v:jL v=Zk v:=A0 _
abbrev APl:A1:=[Ad,Ae]
def eR[Lk]:(Up×List Int×Unit)->Option (Ub):=fun(a,b,_)=>
 match KI ((a.1,(a.2.1,())),())with|none=>none|some (c,_)=>match(!c)with
 |true=>some (1,())
 |false=>match Fu (b,a.1,a.2.1,())with|none=>none|some (e,f,d,_)=>match d with
 |true=>some (10,())
 |false=>some (0,())
def S9[Lk]:=lkk eR
theorem kX v:S9 v=eR v:=A0 _
abbrev AB9:A1:=[Ad,Adx,(.tmp 2,.clo 271 [])]
abbrev eh:A1:=[Ad,(.tmp 1,.own 4 .bool),AF]
abbrev vu:A1:=[(.tmp 2,.clo 271 []),AfM,AI,Au,AhG,AK,AhF,(.tmp 10,.own 4 .bool),(.tmp 23,.dat Ul),AeK,AeA]
abbrev vr:BJ:=[(.exit 0,[AfM,AI,Au,AhG,AK,AhF,(.tmp 10,.own 4 .bool)])]
def Io[Lk]:(Int×List U6×Int×List Bool×List U3×Int×Int×Unit)->Option ((Int×List U6×Int×List Bool×List U3×Int×Int×Unit)⊕(Int×List U6×Int×List Bool×Unit)⊕Unit):=fun(c,d,e,a,f,g,b,_)=>
 match(ilt b g)with
 |true=>match idx f b with|none=>none|some h=>match jL ((c,(d,())),h.1,h.2.1,())with|none=>none|some (j,k,i,_)=>match(fits ((A2 a)+(A2 ([(ieq i 0)]:List (Bool)))))with
  |true=>some (.inl (j,k,e,(B2 a ([(ieq i 0)]:List (Bool))),f,g,(w64 (b+1)),()))
  |false=>none
 |false=>some (.inr (.inl (c,d,e,a,())))
def TC[Lk]:(Up×List U3×Unit)->Option ((Up×List Bool×Int×Unit)):=fun(a,b,_)=>
 match ends (b,())with|none=>none|some (d,_)=>match S9 ((a.1,(a.2.1,())),d,())with|none=>none|some (c,_)=>match(!(ieq c 0))with
 |true=>some ((a.1,(a.2.1,())),([]:List (Bool)),c,())
 |false=>match A' Io many (a.1,a.2.1,0,([]:List (Bool)),b,(A2 b),0,())with|none=>none|some r=>match r with
 |.inl (e,f,h,g,_)=>some ((e,(f,())),g,0,())
 |.inr _=>none
def ei[Lk]:=lkk TC
theorem Y7 v:ei v=TC v:=A0 _
abbrev eU:A1:=[Ad,Adx]
def eV[Lk]:(Up×List U3×Unit)->Option ((Up×List Bool×Int×Unit)):=fun(a,c,_)=>
 match ei ((a.1,(a.2.1,())),c,())with|none=>none|some (b,d,e,_)=>some ((b.1,(b.2.1,())),d,e,())
def ABy[Lk]:=lkk eV
theorem ki v:ABy v=eV v:=A0 _
def APv[Lk]:(Int×List U3×Unit)->Option ((Up×Int×Unit)):=fun(d,e,_)=>
 match ADU (d,())with|none=>none|some (f,g,a,_)=>match(!(ieq a 0))with
 |true=>some ((0,(([]:List U6),())),a,())
 |false=>match ABy ((f,(g,())),e,())with|none=>none|some (b,h,c,_)=>match(!(ieq c 0))with
 |true=>some ((0,(([]:List U6),())),c,())
 |false=>some ((b.1,(b.2.1,())),0,())
def fof[Lk]:=lkk APv
theorem APu v:fof v=APv v:=A0 _
abbrev AIu:A1:=[Ad3,AI,Ad1,AS,(.tmp 23,.dat Uh),AeK,AeA]
abbrev AIt:BJ:=[(.ret,[AH]),(.exit 0,[Ad3,AI,Ad1])]
def Hh[Lk]:V9->Option (V9⊕Ud⊕(Int×List U4×Unit)⊕Unit):=fun(c,d,f,g,h,b,_)=>
 match(ilt b h)with
 |true=>match idx g b with|none=>none|some a=>match(ilt a.1 0)with
  |true=>some (.inr (.inl (false,())))
  |false=>match(ile a.2.1 a.1)with
  |true=>some (.inr (.inl (false,())))
  |false=>match(ile c a.2.1)with
  |true=>some (.inr (.inl (false,())))
  |false=>match(ilt a.2.2.1 0)with
  |true=>some (.inr (.inl (false,())))
  |false=>match(ilt f a.2.2.1)with
  |true=>some (.inr (.inl (false,())))
  |false=>match(ilt 0 b)with
  |true=>match idx d (w64 (b-1))with|none=>none|some e=>match UH ((e.1,(e.2.1,(e.2.2.1,(e.2.2.2.1,())))),(a.1,(a.2.1,(a.2.2.1,(a.2.2.2.1,())))),())with|none=>none|some (i,_)=>match(ile 0 i)with
   |true=>some (.inr (.inl (false,())))
   |false=>some (.inl (c,d,f,g,h,(w64 (b+1)),()))
  |false=>some (.inl (c,d,f,g,h,(w64 (b+1)),()))
 |false=>some (.inr (.inr (.inl (c,d,()))))
def Md[Lk]:(Uc×Unit)->Option (Ud):=fun(a,_)=>
 match dc (a.1,())with|none=>none|some (d,_)=>match(!d)with
 |true=>some (false,())
 |false=>match(ilt 400 (A2 a.2.1))with
 |true=>some (false,())
 |false=>match oH (a.1,())with|none=>none|some (e,_)=>match A' Hh many (a.1,a.2.1,e,a.2.1,(A2 a.2.1),0,())with|none=>none|some r=>match r with
 |.inl (f,_)=>some (f,())
 |.inr r=>match r with
 |.inl (b,g,_)=>match db ((b,(g,())),0,())with|none=>none|some (c,_)=>match fof (b,c,())with|none=>none|some (h,i,_)=>match(ieq i 0)with
  |true=>some ((ieq (A2 h.2.1) (w64 (b-(A2 c)))),())
  |false=>some (false,())
 |.inr _=>none
def D3[Lk]:=lkk Md
theorem Mc v:D3 v=Md v:=A0 _
def ALZ[Lk]:(Up×Int×Unit)->Option (Ub):=fun(a,b,_)=>
 match tin (a.1,b,())with|none=>none|some (c,_)=>match(!c)with
 |true=>some ((-1:Int),())
 |false=>match KI ((a.1,(a.2.1,())),())with|none=>none|some (d,_)=>match(!d)with
 |true=>some ((-1:Int),())
 |false=>match Wz ((a.1,(a.2.1,())),b,())with|none=>none|some (e,_)=>some (e,())
def tof[Lk]:=lkk ALZ
theorem ALY v:tof v=ALZ v:=A0 _
def Xb[Lk]:(Uc×Int×Unit)->Option ((Up×Int×Unit)):=fun(a,c,_)=>
 match D3 ((a.1,(a.2.1,())),())with|none=>none|some (d,_)=>match(!d)with
 |true=>some ((0,(([]:List U6),())),1,())
 |false=>match db ((a.1,(a.2.1,())),c,())with|none=>none|some (e,_)=>match fof (a.1,e,())with|none=>none|some (b,f,_)=>some ((b.1,(b.2.1,())),f,())
def LJ[Lk]:=lkk Xb
theorem dh v:LJ v=Xb v:=A0 _
abbrev AI2:A1:=[Ad2,(.tmp 10,.dat Uh),Aa,AN]
def Mf[Lk]:(List U3×List U4×Int×Int×Unit)->Option ((List U3×List U4×Int×Int×Unit)⊕Uz⊕Unit):=fun(b,d,e,c,_)=>
 match(ilt c e)with
 |true=>match idx d c with|none=>none|some a=>match(fits ((A2 b)+(A2 ([(a.1,(a.2.1,()))]:List U3))))with
  |true=>some (.inl ((B2 b ([(a.1,(a.2.1,()))]:List U3)),d,e,(w64 (c+1)),()))
  |false=>none
 |false=>some (.inr (.inl (b,())))
def dk[Lk]:(Uc×Unit)->Option (Uz):=fun(a,_)=>
 match D3 ((a.1,(a.2.1,())),())with|none=>none|some (b,_)=>match(!b)with
 |true=>some (([]:List U3),())
 |false=>match A' Mf many (([]:List U3),a.2.1,(A2 a.2.1),0,())with|none=>none|some r=>match r with
 |.inl (c,_)=>some (c,())
 |.inr _=>none
def Pg[Lk]:=lkk dk
theorem kJ v:Pg v=dk v:=A0 _
abbrev ANg:A1:=[AJ,AI,Ad1,(.tmp 6,.box 1),Ad5,(.tmp 13,.dat Ul),Aeo,Aey]
abbrev ANf:BJ:=[(.ret,[(.tmp 4,.nil U2),AeR]),(.exit 0,[AJ,AI,Ad1,(.tmp 6,.box 1),Ad5])]
def Ia[Lk]:(Int×List U4×List V4×List U3×Int×Int×Unit)->Option ((Int×List U4×List V4×List U3×Int×Int×Unit)⊕Ub⊕(Int×List U4×List V4×Unit)⊕Unit):=fun(c,e,b,f,g,d,_)=>
 match(ilt d g)with
 |true=>match idx f d with|none=>none|some a=>match(ilt (C8 a.1 a.2.1) 0)with
  |true=>some (.inr (.inl (10,())))
  |false=>match(ile c (imax a.1 a.2.1))with
  |true=>some (.inr (.inl (10,())))
  |false=>match(ile 0 (Om b ((C8 a.1 a.2.1),((imax a.1 a.2.1),())))&&ilt (Om b ((C8 a.1 a.2.1),((imax a.1 a.2.1),()))) (A2 (BH b ((C8 a.1 a.2.1),((imax a.1 a.2.1),())) ((A_ b ((C8 a.1 a.2.1),((imax a.1 a.2.1),()))).getD 0))))with
  |true=>some (.inl (c,e,(ZU (BH b ((C8 a.1 a.2.1),((imax a.1 a.2.1),())) ((A_ b ((C8 a.1 a.2.1),((imax a.1 a.2.1),()))).getD 0)) (Om b ((C8 a.1 a.2.1),((imax a.1 a.2.1),()))) (w64 (((A_ b ((C8 a.1 a.2.1),((imax a.1 a.2.1),()))).getD 0)+1))),f,g,(w64 (d+1)),()))
  |false=>none
 |false=>some (.inr (.inr (.inl (c,e,b,()))))
def nY[Lk]:(Uc×List U3×Unit)->Option ((List U3×Int×Unit)):=fun(a,b,_)=>
 match D3 ((a.1,(a.2.1,())),())with|none=>none|some (c,_)=>match(!c)with
 |true=>some (([]:List U3),1,())
 |false=>match A' Ia many (a.1,a.2.1,([]:List V4),b,(A2 b),0,())with|none=>none|some r=>match r with
 |.inl (d,_)=>some (([]:List U3),d,())
 |.inr r=>match r with
 |.inl (e,f,g,_)=>match Pg ((e,(f,())),())with|none=>none|some (h,_)=>match OA (h,g,())with|none=>none|some (i,k,j,_)=>some ((C5 (A4 j) i),0,())
 |.inr _=>none
def Yd[Lk]:=lkk nY
theorem tJ v:Yd v=nY v:=A0 _
def qX[Lk]:(Uc×Unit)->Option (Ub):=fun(a,_)=>
 match D3 ((a.1,(a.2.1,())),())with|none=>none|some (b,_)=>match(!b)with
 |true=>some (0,())
 |false=>some ((w64 (400-(A2 a.2.1))),())
def AFJ[Lk]:=lkk qX
theorem xB v:AFJ v=qX v:=A0 _
def eW[Lk]:(Up×Int×Unit)->Option (U3):=fun(a,b,_)=>
 match S9 ((a.1,(a.2.1,())),([b]:List (Int)),())with|none=>none|some (c,_)=>match(!(ieq c 0))with
 |true=>some (0,c,())
 |false=>match tof ((a.1,(a.2.1,())),b,())with|none=>none|some (d,_)=>match idx a.2.1 d with|none=>none|some e=>match idx e 0 with|none=>none|some f=>some (f,0,())
def Xt[Lk]:=lkk eW
theorem kj v:Xt v=eW v:=A0 _
abbrev m7:A1:=[AJ,AI,Au,AfN,(.tmp 24,.dat Ul),AeA,AY]
abbrev m6:BJ:=[(.exit 0,[AfN])]
def Gb[Lk]:(Int×List U6×List U3×List U3×Int×Int×Unit)->Option ((Int×List U6×List U3×List U3×Int×Int×Unit)⊕Uz⊕Unit):=fun(a,b,c,e,f,d,_)=>
 match(ilt d f)with
 |true=>match idx e d with|none=>none|some g=>match Xt ((a,(b,())),g.1,())with|none=>none|some (h,j,_)=>match Xt ((a,(b,())),g.2.1,())with|none=>none|some (i,k,_)=>match(fits ((A2 c)+(A2 ([(h,(i,()))]:List U3))))with
  |true=>some (.inl (a,b,(B2 c ([(h,(i,()))]:List U3)),e,f,(w64 (d+1)),()))
  |false=>none
 |false=>some (.inr (.inl (c,())))
def PA[Lk]:(Up×List U3×Unit)->Option ((List U3×Int×Unit)):=fun(a,b,_)=>
 match KI ((a.1,(a.2.1,())),())with|none=>none|some (d,_)=>match(!d)with
 |true=>some (([]:List U3),1,())
 |false=>match nC (a.1,b,())with|none=>none|some (c,_)=>match(!(ieq c 0))with
 |true=>some (([]:List U3),c,())
 |false=>match A' Gb many (a.1,a.2.1,([]:List U3),b,(A2 b),0,())with|none=>none|some r=>match r with
 |.inl (e,_)=>some (e,0,())
 |.inr _=>none
def Qc[Lk]:=lkk PA
theorem Tt v:Qc v=PA v:=A0 _
abbrev AGY:A1:=[AeG,AE]
def XB[Lk]:(Up×List U3×Unit)->Option ((List Bool×Int×Unit)):=fun(a,c,_)=>
 match Qc ((a.1,(a.2.1,())),c,())with|none=>none|some (d,b,_)=>match(!(ieq b 0))with
 |true=>some (([]:List (Bool)),b,())
 |false=>match nF (a.1,())with|none=>none|some (e,_)=>match mo (e,d,())with|none=>none|some (g,f,_)=>some (f,0,())
def Zu[Lk]:=lkk XB
theorem cI v:Zu v=XB v:=A0 _
abbrev AOw:A1:=[AfS]
def dy[Lk]:(Vc×Unit)->Option (Ud):=fun(a,_)=>
 match D3 ((a.1.1,(a.1.2.1,())),())with|none=>none|some (b,_)=>match b with
 |true=>match Pp (a.2.1,())with|none=>none|some (c,_)=>match c with
  |true=>match Pp (a.2.2.1,())with|none=>none|some (d,_)=>some (d,())
  |false=>some (false,())
 |false=>some (false,())
def Hk[Lk]:=lkk dy
theorem kN v:Hk v=dy v:=A0 _
abbrev zA:A1:=[Ay,AE,AF]
abbrev AhH:Loc×Con:=(.cell 0 1,.dat U7)
abbrev yz:BJ:=[(.ret,[(.tmp 0,.nilp),AE]),(.ret,[AgS,AI,AhH,Af,(.cell 0 3,.dat (.mapi .i64 Ul)),AE])]
abbrev AhI:Loc×Con:=(.cell 0 3,.mrows .i64 59 U2)
abbrev AhJ:Loc×Con:=(.tmp 10,.box 4)
abbrev AhK:Loc×Con:=(.tmp 67,.di)
abbrev ADo:A1:=[AF,AhJ,AI,AhH,Af,AhI,(.tmp 14,.box 4),Afh,AeT,(.cell 3 2,.di),(.cell 3 3,.dat .bool),(.tmp 65,.dat Uh),(.tmp 66,.di),AhK,(.tmp 74,.ptr' 3 2),(.tmp 75,.di),(.tmp 76,.di),(.tmp 77,.dat .bool),(.tmp 83,.dat (.arr 2 U0)),(.tmp 84,.di)]
abbrev ADl:BJ:=[(.exit 5,[AF,AhJ,AI,AhH,Af,AhI,(.tmp 65,.dat Uh),(.tmp 66,.di),AhK,(.tmp 75,.di),(.tmp 76,.di),(.tmp 77,.dat .bool)])]
def mw[Lk]:V7->Option (V7⊕(Int×Int×List Int×List Ui×List Vh×List U4×Int×Int×Int×Int×Bool×Unit)⊕Unit):=fun(g,h,i,j,a,c,d,q,r,k,l,m,n,o,p,e,f,_)=>
 match(ilt f 2)with
 |true=>match idx ([(A9 e 0 0),(A9 e 1 0)]:List (Int)) f with|none=>none|some b=>match(fits ((A2 (A9 (List.map Prod.snd a) (GU (List.map Prod.fst a) b) ([]:List U3)))+(A2 ([(c,(d,()))]:List U3))))with
  |true=>match(ieq (((GU (List.map Prod.fst a) b):Nat):Int) (((GU (List.map Prod.fst a) b):Nat):Int)&&ieq ((GU (List.map Prod.fst a) b:Nat):Int) (((GU (List.map Prod.fst a) b):Nat):Int))with
   |true=>some (.inl (g,h,i,j,(List.zip (Oo (List.map Prod.fst a) (GU (List.map Prod.fst a) b) b) (Oo (List.map Prod.snd a) (GU (List.map Prod.fst a) b) (B2 (A9 (List.map Prod.snd a) (GU (List.map Prod.fst a) b) ([]:List U3)) ([(c,(d,()))]:List U3)))),c,d,q,r,k,l,m,n,o,p,e,(w64 (f+1)),()))
   |false=>none
  |false=>none
 |false=>some (.inr (.inl (g,h,i,j,(List.zip (List.map Prod.fst a) (List.map Prod.snd a)),k,l,m,n,o,p,())))
abbrev ADp:A1:=[AF,AhJ,AI,AhH,Af,AhI,(.tmp 65,.dat Uh),(.tmp 66,.di),AhK]
abbrev ADm:BJ:=[(.exit 3,[AhJ,AI,AhH,Af,AhI])]
def mz[Lk]:(Int×Int×List Int×List Ui×List Vh×List U4×Int×Int×Unit)->Option ((Int×Int×List Int×List Ui×List Vh×List U4×Int×Int×Unit)⊕(Int×List Int×List Ui×List Vh×Unit)⊕Unit):=fun(c,e,f,g,b,h,i,d,_)=>
 match(ilt d i)with
 |true=>match idx h d with|none=>none|some a=>match a.2.2.2.1 with
  |true=>some (.inl (c,e,f,g,(List.zip (List.map Prod.fst b) (List.map Prod.snd b)),h,i,(w64 (d+1)),()))
  |false=>match(!(ieq a.2.2.1 c))with
  |true=>some (.inl (c,e,f,g,(List.zip (List.map Prod.fst b) (List.map Prod.snd b)),h,i,(w64 (d+1)),()))
  |false=>match A' mw many (c,e,f,g,(List.zip (List.map Prod.fst b) (List.map Prod.snd b)),a.1,a.2.1,a.2.2.1,a.2.2.2.1,h,i,d,a.2.2.1,c,(!(ieq a.2.2.1 c)),([a.1,a.2.1]:List (Int)),0,())with|none=>none|some r=>match r with
  |.inl (k,l,m,n,j,o,p,q,s,t,u,_)=>some (.inl (k,l,m,n,(List.zip (List.map Prod.fst j) (List.map Prod.snd j)),o,p,(w64 (q+1)),()))
  |.inr _=>none
 |false=>some (.inr (.inl (e,f,g,(List.zip (List.map Prod.fst b) (List.map Prod.snd b)),())))
abbrev ADq:A1:=[AF,AfM,AI,Ad1,AhJ,AK,(.cell 1 1,.dat U7),(.cell 1 2,.map U0 U0),(.cell 1 3,.mrows .i64 59 U2),(.tmp 52,.dat U7),(.tmp 53,.di),(.tmp 54,.di)]
abbrev ADn:BJ:=[(.exit 1,[AF,AfM,AI,Ad1,AhJ,AK,(.cell 1 1,.dat U7),(.cell 1 2,.map U0 U0),(.cell 1 3,.mrows .i64 59 U2)])]
def m0[Lk]:(Int×Int×List U4×Int×List Int×List Ui×List Vh×List Int×Int×Int×Unit)->Option ((Int×Int×List U4×Int×List Int×List Ui×List Vh×List Int×Int×Int×Unit)⊕(Int×Int×List U4×Int×List Int×List Ui×List Vh×Unit)⊕Unit):=fun(c,d,e,f,g,h,a,i,j,b,_)=>
 match(ilt b j)with
 |true=>match idx i b with|none=>none|some k=>some (.inl (c,d,e,f,g,(BH h k 1),(List.zip (List.map Prod.fst a) (List.map Prod.snd a)),i,j,(w64 (b+1)),()))
 |false=>some (.inr (.inl (c,d,e,f,g,h,(List.zip (List.map Prod.fst a) (List.map Prod.snd a)),())))
def zB[Lk]:Vc->Option (Ub⊕(Int×List Int×List Ui×List Vh×Int×Unit)⊕Unit):=fun(a,b,e,_)=>
 match LJ ((a.1,(a.2.1,())),e,())with|none=>none|some (c,f,_)=>match(!(ieq f 0))with
 |true=>some (.inl (f,()))
 |false=>match(ilt b 0)with
 |true=>some (.inl (10,()))
 |false=>match(ile a.1 b)with
 |true=>some (.inl (10,()))
 |false=>match tof ((c.1,(c.2.1,())),b,())with|none=>none|some (j,_)=>match idx c.2.1 j with|none=>none|some d=>match A' m0 many (e,a.1,a.2.1,a.1,d,([]:List Ui),(List.zip ([]:List (Int)) ([]:List (List U3))),d,(A2 d),0,())with|none=>none|some r=>match r with
 |.inl (k,s,g,l,m,n,h,_)=>match A' mz many (k,l,m,n,(List.zip (List.map Prod.fst h) (List.map Prod.snd h)),g,(A2 g),0,())with|none=>none|some r=>match r with
  |.inl (o,p,q,i,_)=>some (.inr (.inl (o,p,q,(List.zip (List.map Prod.fst i) (List.map Prod.snd i)),0,())))
  |.inr _=>none
 |.inr _=>none
def seen[Lk](v:Vc):Option (Ub⊕(Int×List Int×List Ui×List Vh×Int×Unit)⊕Unit):=Lk.f (zB v)
theorem ASl v:seen v=zB v:=A0 _
abbrev AKo:A1:=[Ad3,AI,Ad1,AF,(.tmp 9,.dat Uh),AZ,Aa]
def AKn[Lk]:V9->Option (V9⊕Ub⊕Unit):=fun(c,d,e,f,g,b,_)=>
 match(ilt b g)with
 |true=>match idx f b with|none=>none|some a=>match qR ((c,(d,())),(a.1,(a.2.1,(a.2.2.1,(a.2.2.2.1,())))),())with|none=>none|some (h,_)=>some (.inl (c,d,(w64 (e+h)),f,g,(w64 (b+1)),()))
 |false=>some (.inr (.inl (e,())))
def wy[Lk]:(Uc×Unit)->Option (Ub):=fun(a,_)=>
 match D3 ((a.1,(a.2.1,())),())with|none=>none|some (b,_)=>match(!b)with
 |true=>some (0,())
 |false=>match A' AKn many (a.1,a.2.1,0,a.2.1,(A2 a.2.1),0,())with|none=>none|some r=>match r with
 |.inl (c,_)=>some (c,())
 |.inr _=>none
def Kw[Lk]:=lkk wy
theorem AKp v:Kw v=wy v:=A0 _
abbrev AhL:Loc×Con:=(.tmp 6,.map U2 U0)
abbrev AUx:A1:=[AJ,AI,Ad1,AhL,AfO,(.tmp 26,.dat Ul),AX,Ag7]
abbrev AUv:BJ:=[(.ret,[(.tmp 4,.nil U2),AeR]),(.exit 2,[AfO])]
def Q1[Lk]:(Int×List U4×List V4×List U3×List U3×Int×Int×Unit)->Option ((Int×List U4×List V4×List U3×List U3×Int×Int×Unit)⊕Ub⊕Uz⊕Unit):=fun(d,h,e,b,f,g,c,_)=>
 match(ilt c g)with
 |true=>match idx f c with|none=>none|some a=>match(ilt (C8 a.1 a.2.1) 0)with
  |true=>some (.inr (.inl (10,())))
  |false=>match(ile d (imax a.1 a.2.1))with
  |true=>some (.inr (.inl (10,())))
  |false=>match(ilt (C8 a.1 a.2.1) (imax a.1 a.2.1))with
  |true=>match(ieq ((A_ e ((C8 a.1 a.2.1),((imax a.1 a.2.1),()))).getD 0) 0)with
   |true=>match(fits ((A2 b)+(A2 ([((C8 a.1 a.2.1),((imax a.1 a.2.1),()))]:List U3))))with
    |true=>some (.inl (d,h,(BH e ((C8 a.1 a.2.1),((imax a.1 a.2.1),())) 1),(B2 b ([((C8 a.1 a.2.1),((imax a.1 a.2.1),()))]:List U3)),f,g,(w64 (c+1)),()))
    |false=>none
   |false=>some (.inl (d,h,e,b,f,g,(w64 (c+1)),()))
  |false=>some (.inl (d,h,e,b,f,g,(w64 (c+1)),()))
 |false=>some (.inr (.inr (.inl (b,()))))
abbrev AUy:A1:=[Adx,AJ,AI,Ad1,AhL,(.tmp 17,.own 59 U2),AgN,Ae5]
abbrev AUw:BJ:=[(.exit 0,[Adx,AJ,AI,Ad1,AhL])]
def Q2[Lk]:(List U3×Int×List U4×List V4×List U3×Int×Int×Unit)->Option ((List U3×Int×List U4×List V4×List U3×Int×Int×Unit)⊕(List U3×Int×List U4×List V4×Unit)⊕Unit):=fun(c,d,e,f,b,g,a,_)=>
 match(ilt a g)with
 |true=>match idx b a with|none=>none|some h=>some (.inl (c,d,e,(BH f ((A9 b (A4 a) (0,(0,()))).1,((A9 b (A4 a) (0,(0,()))).2.1,())) 1),b,g,(w64 (a+1)),()))
 |false=>some (.inr (.inl (c,d,e,f,())))
def ABn[Lk]:(Uc×List U3×Unit)->Option ((List U3×Int×Unit)):=fun(a,d,_)=>
 match D3 ((a.1,(a.2.1,())),())with|none=>none|some (e,_)=>match(!e)with
 |true=>some (([]:List U3),1,())
 |false=>match Pg ((a.1,(a.2.1,())),())with|none=>none|some (b,_)=>match A' Q2 many (d,a.1,a.2.1,([]:List V4),b,(A2 b),0,())with|none=>none|some r=>match r with
 |.inl (c,f,g,h,_)=>match A' Q1 many (f,g,h,([]:List U3),c,(A2 c),0,())with|none=>none|some r=>match r with
  |.inl (i,_)=>some (([]:List U3),i,())
  |.inr r=>match r with
  |.inl (j,_)=>match ADh (j,())with|none=>none|some (k,_)=>some (k,0,())
  |.inr _=>none
 |.inr _=>none
def AJS[Lk]:=lkk ABn
theorem AEq v:AJS v=ABn v:=A0 _
abbrev xH:A1:=[Ay,(.tmp 1,.dat (.prod U0 (.prod Ul (.prod Uw .unit)))),(.tmp 2,.dat Vd)]
abbrev ARI:A1:=[AA,(.tmp 1,.own 59 U2),(.tmp 2,.dat Uw),AS,AR]
def QI[Lk]:(Uc×Us×Vb×Unit)->Option ((Int×List U3×List Ua×Int×Int×Unit)):=fun(c,a,b,_)=>
 match D3 ((c.1,(c.2.1,())),())with|none=>none|some (j,_)=>match(!j)with
 |true=>some (0,([]:List U3),([]:List Ua),0,1,())
 |false=>match lj ((a.1,(a.2.1,(a.2.2.1,()))),())with|none=>none|some (k,_)=>match(!k)with
 |true=>some (0,([]:List U3),([]:List Ua),0,1,())
 |false=>match AFH ((a.1,(a.2.1,(a.2.2.1,()))),())with|none=>none|some (l,_)=>match LW (l,c.1,c.2.1,())with|none=>none|some (d,e,m,_)=>match m with
 |true=>some (0,([]:List U3),([]:List Ua),0,10,())
 |false=>match(ieq a.1 3)with
 |true=>some (a.1,([]:List U3),a.2.2.1,0,0,())
 |false=>match P2 (a.2.1,(b.1,(b.2.1,((b.2.2.1.1,(b.2.2.1.2.1,(b.2.2.1.2.2.1,()))),()))),())with|none=>none|some (f,g,h,_)=>match(!(ieq h 0))with
 |true=>some (0,([]:List U3),([]:List Ua),0,h,())
 |false=>match(ieq a.1 2)with
 |true=>match Yd ((d,(e,())),f,())with|none=>none|some (n,o,_)=>some (a.1,n,([]:List Ua),g,o,())
 |false=>match AJS ((d,(e,())),f,())with|none=>none|some (i,p,_)=>match AFJ ((d,(e,())),())with|none=>none|some (q,_)=>match(ilt q (A2 i))with
 |true=>some (0,([]:List U3),([]:List Ua),0,2,())
 |false=>some (a.1,i,([]:List Ua),g,p,())
def I7[Lk]:=lkk QI
theorem RH v:I7 v=QI v:=A0 _
abbrev AYv:A1:=[AA,(.tmp 1,.dat Uh),AF,AS]
abbrev AYu:List RS:=[.agg 2,.one,.one]
abbrev AhM:Loc×Con:=(.cell 1 1,.nil U1)
abbrev AU2:A1:=[AJ,AI,Ad1,AL,AK,AhM,AfN,(.tmp 11,.own 4 .bool),(.tmp 13,.own 65 U1),(.tmp 46,.own' 2),AhC,(.tmp 48,.di)]
abbrev AU1:BJ:=[(.exit 0,[AJ,AI,Ad1,AL,AK,AhM,AfN,(.tmp 13,.own 65 U1)])]
def Q3[Lk]:(Int×List U4×Int×List U3×List Bool×List U4×Int×Int×Unit)->Option ((Int×List U4×Int×List U3×List Bool×List U4×Int×Int×Unit)⊕(Int×List U4×Int×List U3×List U4×Unit)⊕Unit):=fun(e,f,g,b,c,d,h,a,_)=>
 match(ilt a h)with
 |true=>match idx b a with|none=>none|some i=>match idx c a with|none=>none|some j=>match(fits ((A2 d)+(A2 ([((A9 b (A4 a) (0,(0,()))).1,((A9 b (A4 a) (0,(0,()))).2.1,(0,((A9 c (A4 a) false),()))))]:List U4))))with
  |true=>some (.inl (e,f,g,b,c,(B2 d ([((A9 b (A4 a) (0,(0,()))).1,((A9 b (A4 a) (0,(0,()))).2.1,(0,((A9 c (A4 a) false),()))))]:List U4)),h,(w64 (a+1)),()))
  |false=>none
 |false=>some (.inr (.inl (e,f,g,b,d,())))
def ABp[Lk]:(Uc×List U3×Unit)->Option ((Int×List U4×Int×Int×Unit)):=fun(a,e,_)=>
 match AJS ((a.1,(a.2.1,())),e,())with|none=>none|some (b,c,_)=>match(!(ieq c 0))with
 |true=>some (a.1,a.2.1,0,c,())
 |false=>match kV ((a.1,(a.2.1,())),(A2 b),())with|none=>none|some (f,_)=>match(!f)with
 |true=>some (a.1,a.2.1,0,2,())
 |false=>match LJ ((a.1,(a.2.1,())),0,())with|none=>none|some (d,m,_)=>match Zu ((d.1,(d.2.1,())),b,())with|none=>none|some (g,n,_)=>match QA a.2.1 with|none=>none|some h=>match A' Q3 many (a.1,a.2.1,0,b,g,h,(A2 b),0,())with|none=>none|some r=>match r with
 |.inl (i,o,p,j,k,_)=>match ADf (k,())with|none=>none|some (l,_)=>some (i,l,(A2 j),0,())
 |.inr _=>none
def pC[Lk]:=lkk ABp
theorem AEt v:pC v=ABp v:=A0 _
def ox[Lk]:(Uc×List U3×Unit)->Option (Ud):=fun(a,b,_)=>
 match AJS ((a.1,(a.2.1,())),b,())with|none=>none|some (c,d,_)=>match(ieq d 0)with
 |true=>match kV ((a.1,(a.2.1,())),(A2 c),())with|none=>none|some (e,_)=>some (e,())
 |false=>some (false,())
def AEs[Lk]:=lkk ox
theorem vW v:AEs v=ox v:=A0 _
open Go.Proofs
def ZZ:=Chn.g ⟨ARQ,AK2⟩ ⟨138,0,0,2,0,some (1,212),Po,[(.ret,BX)],A8,[],[]⟩ IE Tryz.func138 M7
def VX:=Chn.g ZZ ⟨138,0,1,2,0,some (1,228),Mn,[(.ret,VW)],A8,[],[]⟩ Fu Tryz.func138 Kr
def iC:=Chn.g VX ⟨138,0,1,2,0,some (1,189),UW,[(.ret,iB)],A8,[],[]⟩ LW Tryz.func138 P6
def AMv:=Chn.g iC ⟨137,0,0,1,0,none,dW,[(.ret,BX)],A8,[],[]⟩ XH Tryz.func137 jl
def ANL:=Chn.g AMv ⟨333,0,0,2,0,none,ADO,[(.ret,tH)],Bf,[],[(0,AG9,AG8)]⟩ places Tryz.func333 jy
def ASp:=Chn.g ANL ⟨304,0,0,2,0,none,Pm,[(.ret,tH)],Bf,[],[]⟩ su Tryz.func304 ss
def AMw:=Chn.g ASp ⟨335,0,0,1,0,none,dW,[(.ret,Gr)],A8,[],[]⟩ nJ Tryz.func335 jm
def ALU:=Chn.g AMw ⟨104,0,0,1,0,none,ALT,[(.ret,BX)],A8,[(8,[[],[],[],[],[],[],[],[],[],[],[],[],[],[],[],[],[],[],[],[],[],[],[],[],[0],[0]])],[(0,AFx,AFu),(1,AFw,AFt),(2,AFv,AFs)]⟩ KI Tryz.func104 jJ
def AVh:=Chn.g ALU ⟨303,0,0,3,0,none,AFI,[(.ret,Bg)],A8,[],[]⟩ asked Tryz.func303 w9
def ARg:=Chn.g AVh ⟨306,0,0,3,0,none,ARf,[(.ret,ARe)],eX,[],[(0,ALL,ALJ),(1,ALK,ALI)]⟩ ADR Tryz.func306 rn
def ARq:=Chn.g ARg ⟨271,0,0,3,0,none,AFI,[(.ret,ARp)],ADT,[(9,[[],[28],[0],[0],[],[],[],[],[],[0],[0],[],[],[],[],[],[28],[28,52,36,62],[64]]),(4,[[0],[],[],[0]])],[]⟩ jL Tryz.func271 bZ
def APm:=Chn.g ARq ⟨168,0,0,2,0,none,APl,[(.ret,Bg)],A8,[],[]⟩ S9 Tryz.func168 kX
def ACA:=Chn.g APm ⟨270,0,0,3,0,some (2,271),AB9,[(.ret,eh)],Ec,[(1,[[0],[],[],[4]])],[(0,vu,vr)]⟩ ei Tryz.func270 Y7
def APy:=Chn.g ACA ⟨211,0,0,2,0,none,eU,[(.ret,eh)],Ec,[],[]⟩ ABy Tryz.func211 ki
def AaK:=Chn.g APy ⟨133,0,0,2,0,none,LZ,[(.ret,O3)],Bf,[],[]⟩ fof Tryz.func133 APu
def AOi:=Chn.g AaK ⟨77,0,0,1,0,none,Js,[(.ret,BX)],A8,[(7,[[2],[2],[],[],[2],[2],[2],[2],[],[],[],[2],[2],[0],[0],[],[],[],[2],[2],[],[],[],[2],[2],[],[],[],[],[],[],[],[0],[0],[],[],[],[],[2]])],[(0,AIu,AIt)]⟩ D3 Tryz.func77 Mc
def AZg:=Chn.g AOi ⟨123,0,0,2,0,none,O3,[(.ret,Bg)],A8,[],[]⟩ tof Tryz.func123 ALY
def AIy:=Chn.g AZg ⟨59,0,0,2,0,none,dZ,[(.ret,O3)],Bf,[(3,[[0],[0],[0],[],[],[12],[],[],[3]])],[]⟩ LJ Tryz.func59 dh
def AOo:=Chn.g AIy ⟨93,0,0,1,0,none,Js,[(.ret,UE)],A8,[],[(0,AI2,ec)]⟩ Pg Tryz.func93 kJ
def ATA:=Chn.g AOo ⟨155,0,0,2,0,none,KD,[(.ret,Z8)],Bf,[(10,[[2],[6],[4],[],[5],[],[5]])],[(0,ANg,ANf)]⟩ Yd Tryz.func155 tJ
def AVl:=Chn.g ATA ⟨190,0,0,1,0,none,Js,[(.ret,Bg)],A8,[],[]⟩ AFJ Tryz.func190 xB
def APz:=Chn.g AVl ⟨279,0,0,2,0,none,O3,[(.ret,R0)],Bf,[(4,[[0],[0],[0]])],[]⟩ Xt Tryz.func279 kj
def sU:=Chn.g APz ⟨238,0,0,2,0,none,eU,[(.ret,Z8)],Bf,[],[(0,m7,m6)]⟩ Qc Tryz.func238 Tt
def AGZ:=Chn.g sU ⟨180,0,0,2,0,none,eU,[(.ret,AGY)],Bf,[],[]⟩ Zu Tryz.func180 cI
def UM:=Chn.g AGZ ⟨40,0,0,1,0,none,AOw,[(.ret,BX)],A8,[],[]⟩ Hk Tryz.func40 kN
abbrev SZ:Hints:={ loop:=fun n=>match n with|0=>Gl 0 108 ADq ADn m0|1=>Gl 0 108 ADp ADm mz|2=>Gl 0 108 ADo ADl mw|_=>fun _ _ _=>none,fp:=fun n=>match n with|19=>[[],[0],[0],[0],[],[],[0],[0],[0],[],[4],[6],[6],[6],[6],[],[],[5,8],[5]]|6=>[[0],[0],[10],[10],[10],[],[],[],[],[],[],[],[20,22],[]]|_=>[] }
def cH:Env:={ UM.e with keep:=false,rows:=true,arrs:=true }
theorem Qb:BC Tryz.prog cH:=UM.h
theorem yw:∀ v,mw v=roundOf Tryz.prog cH SZ 3 0 108 (B_ Tryz.f47 2) ADo ADl v:=by rintro⟨h,i,j,k,l,m,n,o,p,q,a,b,c,d,e,f,g,⟨⟩⟩;kernel_rfl
theorem ASf:CD (B_ Tryz.f47 2) 3=[]:=by kernel_rfl
theorem ASi:Fg Tryz.prog 0 (.loop (B_ Tryz.f47 2)) (SZ.loop 2):=IA Qb (yw) (CU ASf trivial)
theorem yx:∀ v,mz v=roundOf Tryz.prog cH SZ 2 0 108 (B_ Tryz.f47 1) ADp ADm v:=by rintro⟨a,b,c,d,e,f,g,h,⟨⟩⟩;kernel_rfl
theorem ASg:CD (B_ Tryz.f47 1) 2=[(2,B_ Tryz.f47 2)]:=by kernel_rfl
theorem ASj:Fg Tryz.prog 0 (.loop (B_ Tryz.f47 1)) (SZ.loop 1):=IA Qb (yx) (CU ASg ⟨ASi,trivial⟩)
theorem yy:∀ v,m0 v=roundOf Tryz.prog cH SZ 1 0 108 (B_ Tryz.f47 0) ADq ADn v:=by rintro⟨a,b,c,d,e,f,g,h,i,j,⟨⟩⟩;kernel_rfl
theorem ASh:CD (B_ Tryz.f47 0) 1=[]:=by kernel_rfl
theorem ASk:Fg Tryz.prog 0 (.loop (B_ Tryz.f47 0)) (SZ.loop 0):=IA Qb (yy) (CU ASh trivial)
theorem AMd:∀ v,zB v=zu 0 Tryz.prog cH SZ Tryz.f47 zA yz Bf v:=by rintro⟨a,b,c,⟨⟩⟩;kernel_rfl
theorem AXr:CD (Bu Tryz.f47) 0=[(0,B_ Tryz.f47 0),(1,B_ Tryz.f47 1)]:=by kernel_rfl
theorem AGX:BS Tryz.prog 47 (uu 0 3 zA yz Bf seen):=ARD Qb Tryz.func47 (by kernel_rfl) (by kernel_rfl) rfl (fun v=>(ASl v).trans (AMd v)) (CU AXr ⟨ASk,ASj,trivial⟩)
def ARR[Lk]:Env:=UM.e.ext 47 false false (uu 0 3 zA yz Bf seen)
theorem AK3:BC Tryz.prog ARR:=Env.B7 UM.h AGX ((by simp)) (by simp)
def AQ5:=Chn.g ⟨ARR,AK3⟩ ⟨157,0,0,1,0,none,Js,[(.ret,Bg)],A8,[],[(0,AKo,wi)]⟩ Kw Tryz.func157 AKp
def AYt:=Chn.g AQ5 ⟨57,0,0,2,0,none,KD,[(.ret,Z8)],Bf,[],[(0,AUy,AUw),(1,AUx,AUv)]⟩ AJS Tryz.func57 AEq
def ARJ:=Chn.g AYt ⟨100,0,0,3,0,none,xH,[(.ret,ARI)],ALh,[(16,[[48],[48],[50],[0]])],[]⟩ I7 Tryz.func100 RH
def AYw:=Chn.g ARJ ⟨97,0,0,2,0,none,KD,[(.ret,AYv)],AYu,[(12,[[],[10],[10],[10],[10],[],[],[6],[6],[],[],[9,12]])],[(0,AU2,AU1)]⟩ pC Tryz.func97 AEt
def aK:=Chn.g AYw ⟨25,0,0,2,0,none,KD,[(.ret,BX)],A8,[],[]⟩ AEs Tryz.func25 vW
set_option maxHeartbeats 8000000
attribute [local irreducible] A2 A9 B2 C5 Iq Df A4 Cu C8 imax idx EX ilt ile ieq seq? quo? rem? shl? shr? fits CY IntKind.wrap A_ BH Om ZU Bl Oo A' many Kq
abbrev M0:Row:=⟨141,0,0,2,0,none,[Afj,Afk],[(.ret,[AD])],[.one],[],[]⟩
def AZE[Lk]:=fun v=>Lk.f (BE _ _ v (M0.self Tryz.prog (M0.ev aK.e) Tryz.f141))
def Wi[Lk]:Env:=M0.Bh aK.e AZE
theorem xq:BC Tryz.prog Wi:=Row.BB M0 aK.h Tryz.func141 (d:=M0.self Tryz.prog (M0.ev aK.e) Tryz.f141) (fun _=>(A0 _).trans (A5 ..)) (by kernel_rfl) fun _=>rfl
abbrev KA:Row:=⟨63,0,0,2,0,none,[Afj,(.tmp 1,.dat (.prod (.int .i64) (.prod (.int .i64) (.prod (.int .i64) .unit))))],[(.ret,[AA,AE])],[.one,.one],[(5,[[0],[2],[2],[],[],[0],[2],[2]])],[]⟩
def AVV[Lk]:=fun v=>Lk.f (BE _ _ v (KA.self Tryz.prog (KA.ev Wi) Tryz.f63))
def Rl[Lk]:Env:=KA.Bh Wi AVV
theorem rP:BC Tryz.prog Rl:=Row.BB KA xq Tryz.func63 (d:=KA.self Tryz.prog (KA.ev Wi) Tryz.f63) (fun _=>(A0 _).trans (A5 ..)) (by kernel_rfl) fun _=>rfl
abbrev Jo:Row:=⟨161,0,0,1,0,none,[(.tmp 0,.dat (.prod (.int .i64) (.prod (.int .i64) (.prod (.slice (.int .i64)) .unit))))],[(.ret,[AgO,AE])],[.one,.one],[],[(0,[(.tmp 5,.own 5 (.int .u8)),(.tmp 33,.own 3 (.int .i64)),(.tmp 34,.di),(.tmp 35,.di)],[(.exit 0,[(.tmp 5,.own 5 (.int .u8))])])]⟩
def ASe[Lk]:=fun v=>Lk.f (BE _ _ v (Jo.self Tryz.prog (Jo.ev Rl) Tryz.f161))
def RY[Lk]:Env:=Jo.Bh Rl ASe
theorem qw:BC Tryz.prog RY:=Row.BB Jo rP Tryz.func161 (d:=Jo.self Tryz.prog (Jo.ev Rl) Tryz.f161) (fun _=>(A0 _).trans (A5 ..)) (by kernel_rfl) fun _=>rfl
abbrev AhN:Loc×Con:=(.cell 1 2,.own 40 (.slice (.int .i64)))
abbrev AhO:Loc×Con:=(.tmp 2,.own 40 (.slice (.int .i64)))
abbrev AhP:Loc×Con:=(.cell 0 2,.nil (.slice (.int .i64)))
abbrev AhQ:Loc×Con:=(.tmp 9,.aptr 257 (.int .i64) 8)
abbrev Jc:Row:=⟨60,0,0,2,4,none,[Afj,Afk],[(.ret,[AfY,AfX,AhO,AS])],[.agg 3,.one],[(12,[[2],[2],[],[],[],[],[],[10],[10],[8],[9,12]]),(5,[[],[],[],[],[],[],[],[],[37]])],[(0,[Afk,AeV,AfW,AfV,AhP,Ad0,Agt,AfU,AfT,AhN,AhQ,Ag8,Ag6],[(.exit 0,[AeV,AfW,AfV,AhP,Agt,AfU,AfT,AhN])]),(1,[Afk,AeV,AfW,AfV,AhP,Ad0,Agt,AfU,AfT,AhN,AhQ,Aa,Ag8,Ag6,(.tmp 68,.di),(.tmp 69,.di)],[(.exit 2,[Afk,AeV,AfW,AfV,AhP,Ad0,Agt,AfU,AfT,AhN,AhQ,Ag8,Ag6])])]⟩
def ARh[Lk]:=fun v=>Lk.f (BE _ _ v (Jc.self Tryz.prog (Jc.ev RY) Tryz.f60))
def RP[Lk]:Env:=Jc.Bh RY ARh
theorem ql:BC Tryz.prog RP:=Row.BB Jc qw Tryz.func60 (d:=Jc.self Tryz.prog (Jc.ev RY) Tryz.f60) (fun _=>(A0 _).trans (A5 ..)) (by kernel_rfl) fun _=>rfl
abbrev Qr:Row:=⟨222,0,0,3,0,none,[Aft,AE,AF],[(.ret,[AA])],[.one],[],[]⟩
def AXJ[Lk]:=fun v=>Lk.f (BE _ _ v (Qr.self Tryz.prog (Qr.ev RP) Tryz.f222))
def al[Lk]:Env:=Qr.Bh RP AXJ
theorem ADE:BC Tryz.prog al:=Row.BB Qr ql Tryz.func222 (d:=Qr.self Tryz.prog (Qr.ev RP) Tryz.f222) (fun _=>(A0 _).trans (A5 ..)) (by kernel_rfl) fun _=>rfl
abbrev AhR:Loc×Con:=(.tmp 0,.dat (.prod (.int .i64) (.prod (.slice (.slice (.int .i64))) .unit)))
abbrev Ho:Row:=⟨325,0,0,2,0,none,[AhR,AE],[(.ret,[AfY,AE])],[.one,.one],[(4,[[0],[0],[0],[],[],[],[],[],[],[1000005,21,1]])],[]⟩
def APx[Lk]:=fun v=>Lk.f (BE _ _ v (Ho.self Tryz.prog (Ho.ev al) Tryz.f325))
def OU[Lk]:Env:=Ho.Bh al APx
theorem ig:BC Tryz.prog OU:=Row.BB Ho ADE Tryz.func325 (d:=Ho.self Tryz.prog (Ho.ev al) Tryz.f325) (fun _=>(A0 _).trans (A5 ..)) (by kernel_rfl) fun _=>rfl
abbrev MT:Row:=⟨240,0,0,3,0,none,[Aft,AE,AF],[(.ret,[AA,AE])],[.one,.one],[],[]⟩
def AYF[Lk]:=fun v=>Lk.f (BE _ _ v (MT.self Tryz.prog (MT.ev OU) Tryz.f240))
def WW[Lk]:Env:=MT.Bh OU AYF
theorem xf:BC Tryz.prog WW:=Row.BB MT ig Tryz.func240 (d:=MT.self Tryz.prog (MT.ev OU) Tryz.f240) (fun _=>(A0 _).trans (A5 ..)) (by kernel_rfl) fun _=>rfl
abbrev Qh:Row:=⟨289,0,0,4,0,none,[Aft,AE,AF,AS],[(.ret,[AfY,AE])],[.one,.one],[(9,[[],[20],[],[28],[],[],[20],[20],[],[28],[28],[],[],[60]])],[]⟩
def AZ6[Lk]:=fun v=>Lk.f (BE _ _ v (Qh.self Tryz.prog (Qh.ev WW) Tryz.f289))
def qy[Lk]:Env:=Qh.Bh WW AZ6
theorem gH:BC Tryz.prog qy:=Row.BB Qh xf Tryz.func289 (d:=Qh.self Tryz.prog (Qh.ev WW) Tryz.f289) (fun _=>(A0 _).trans (A5 ..)) (by kernel_rfl) fun _=>rfl
def QN[Lk]:Env:=qy.ext 291 false false (CJ Tryz.prog qy { fp:=fun n=>match n with|0=>[[],[],[0],[0],[0],[],[2],[2],[2],[],[],[2],[2],[3]]|_=>[] } Tryz.f291)
theorem QM:BC Tryz.prog QN:=Env.B7 gH (Br gH Tryz.func291 ANH ANG ANF) (by simp) (by simp)
def Re[Lk]:Env:=QN.ext 290 false false (CJ Tryz.prog QN {} Tryz.f290)
theorem rD:BC Tryz.prog Re:=Env.B7 QM (Br QM Tryz.func290 AYS AYR AYQ) (by simp) (by simp)
abbrev AhS:Loc×Con:=(.cell 0 1,.own 65 (.prod (.int .i64) (.prod (.int .i64) (.prod (.int .i64) (.prod .bool .unit)))))
abbrev AhT:Loc×Con:=(.cell 2 0,.map (.int .i64) (.int .i64))
abbrev AhU:Loc×Con:=(.tmp 14,.clo 290 [(2,0)])
abbrev AhV:Loc×Con:=(.cell 0 2,.dat .bool)
abbrev j5:Row:=⟨242,0,2,4,0,none,[(.tmp 0,.box 8),AI,AhS,AhV,Afr,AgE,Aea,AeZ,Aej,AE,AF,AS],[(.ret,[Aem,AI,AhS,AhV,Afr,AgE,Aea,AeZ,Aej,Aek,AD])],[.one],[(29,[[],[],[],[2],[2],[2],[],[2],[2],[2],[],[0],[0],[0],[1],[0],[0],[0],[1]])],[(0,[Aem,AI,AhS,AhV,Afr,AgE,Aea,AeZ,Aej,Aek,Aen,AS,(.tmp 11,.box 1),AhT,(.tmp 32,.own 3 (.int .i64)),(.tmp 33,.di),(.tmp 34,.di)],[(.exit 0,[Aem,AI,AhS,AhV,Afr,AgE,Aea,AeZ,Aej,Aek,Aen,AS,(.tmp 11,.box 1),AhT])]),(1,[Aem,AI,AhS,AhV,Afr,AgE,Aea,AeZ,Aej,Aek,Aen,AS,(.cap 14 0,.box 1),AhT,AhU,(.tmp 15,.prs 405 1),AhC,(.tmp 48,.di)],[(.exit 2,[Aem,AI,AhS,AhV,Afr,AgE,Aea,AeZ,Aej,Aek,Aen,(.cap 14 0,.box 1),AhT,AhU,(.tmp 15,.prs 405 1)])]),(2,[Aem,AI,AhS,AhV,Afr,AgE,Aea,AeZ,Aej,Aek,Aen,(.cap 14 0,.box 1),AhT,AhU,(.tmp 86,.prs 405 1),(.tmp 87,.di),(.tmp 88,.di)],[(.exit 5,[Aem,AI,AhS,AhV,Afr,AgE,Aea,AeZ,Aej,Aek]),(.ret,[Aem,AI,AhS,AhV,Afr,AgE,Aea,AeZ,Aej,Aek,As])])]⟩
def pat[Lk]:=fun v=>Lk.f (BE _ _ v (j5.self Tryz.prog (j5.ev Re) Tryz.f242))
def AFT[Lk]:Env:=j5.Bh Re pat
theorem ARW:BC Tryz.prog AFT:=Row.BB j5 rD Tryz.func242 (d:=j5.self Tryz.prog (j5.ev Re) Tryz.f242) (fun _=>(A0 _).trans (A5 ..)) (by kernel_rfl) fun _=>rfl
abbrev AhW:Loc×Con:=(.cell 0 1,.nil (.prod (.int .i64) (.prod (.int .i64) (.prod (.int .i64) (.prod .bool .unit)))))
abbrev AhX:Loc×Con:=(.cell 1 3,.di)
abbrev XN:Row:=⟨184,0,0,3,0,none,[Aft,AE,AF],[(.ret,[AA,Af5,(.tmp 2,.dat (.prod .bool (.prod .bool (.prod (.prod (.int .i64) (.prod (.int .i64) .unit)) (.prod (.int .i64) .unit))))),AS])],[.agg 2,.one,.one],[(9,[[],[4],[4],[4],[],[4],[4],[4],[1],[3]]),(5,[[0],[0],[0],[0],[],[],[0],[0],[],[],[],[],[16],[],[14],[14],[],[0],[0],[],[],[18]])],[(0,[AhG,AI,AhW,(.tmp 7,.box 5),(.cell 1 0,.dat .bool),(.cell 1 1,.dat .bool),Af3,AhX,(.cell 1 4,.di),(.tmp 11,.box 4),Aeu,Aev,(.cell 2 2,.di),(.cell 2 3,.dat .bool),(.tmp 12,.box 8),Afh,(.cell 3 1,.own 65 (.prod (.int .i64) (.prod (.int .i64) (.prod (.int .i64) (.prod .bool .unit))))),(.cell 3 2,.dat .bool),(.cell 3 3,.dat .bool),(.cell 3 4,.di),(.cell 3 5,.di),(.cell 3 6,.di),(.cell 3 7,.di),AM],[(.exit 0,[AhG,AI,AhW,(.tmp 7,.box 5),(.cell 1 0,.dat .bool),(.cell 1 1,.dat .bool),Af3,AhX,(.cell 1 4,.di),(.tmp 12,.box 8),Aeu,(.cell 2 1,.own 65 (.prod (.int .i64) (.prod (.int .i64) (.prod (.int .i64) (.prod .bool .unit))))),(.cell 2 2,.dat .bool),(.cell 2 3,.dat .bool),(.cell 2 4,.di),(.cell 2 5,.di),(.cell 2 6,.di),(.cell 2 7,.di)])])]⟩
def AZ8[Lk]:=fun v=>Lk.f (BE _ _ v (XN.self Tryz.prog (XN.ev AFT) Tryz.f184))
def qz[Lk]:Env:=XN.Bh AFT AZ8
theorem AK4:BC Tryz.prog qz:=Row.BB XN ARW Tryz.func184 (d:=XN.self Tryz.prog (XN.ev AFT) Tryz.f184) (fun _=>(A0 _).trans (A5 ..)) (by kernel_rfl) fun _=>rfl
abbrev AhY:Loc×Con:=(.tmp 9,.own 305 (.prod .bool (.prod .bool (.prod (.prod (.int .i64) (.prod (.int .i64) .unit)) (.prod (.int .i64) .unit)))))
abbrev AhZ:Loc×Con:=(.cell 0 1,.dat (.slice (.prod (.int .i64) (.prod (.int .i64) (.prod (.int .i64) (.prod .bool .unit))))))
abbrev Aha:Loc×Con:=(.cell 1 1,.nil (.prod (.int .i64) (.prod (.int .i64) (.prod (.int .i64) (.prod .bool .unit)))))
abbrev Qk:Row:=⟨98,0,0,2,0,none,[Aft,Afo],[(.ret,[Aft,(.tmp 1,.own 305 (.prod .bool (.prod .bool (.prod (.prod (.int .i64) (.prod (.int .i64) .unit)) (.prod (.int .i64) .unit))))),AF])],[.one,.one,.one],[(12,[[20],[],[22],[],[5,24],[7]])],[(0,[AJ,AI,AhZ,AL,AK,Aha,AhY,(.tmp 10,.box 2),Afh,(.cell 3 1,.dat (.slice (.prod (.int .i64) (.prod (.int .i64) (.prod (.int .i64) (.prod .bool .unit)))))),(.tmp 27,.own 59 (.prod (.int .i64) (.prod (.int .i64) .unit))),Ag7,AhD],[(.ret,[AL,AI,AhZ,(.tmp 5,.nil (.prod .bool (.prod .bool (.prod (.prod (.int .i64) (.prod (.int .i64) .unit)) (.prod (.int .i64) .unit))))),Ad0]),(.exit 0,[AL,AI,AhW,AhY,(.tmp 10,.box 2),Aeu,(.cell 2 1,.dat (.slice (.prod (.int .i64) (.prod (.int .i64) (.prod (.int .i64) (.prod .bool .unit))))))])])]⟩
def j4[Lk]:=fun v=>Lk.f (BE _ _ v (Qk.self Tryz.prog (Qk.ev qz) Tryz.f98))
def aj[Lk]:Env:=Qk.Bh qz j4
theorem ADA:BC Tryz.prog aj:=Row.BB Qk AK4 Tryz.func98 (d:=Qk.self Tryz.prog (Qk.ev qz) Tryz.f98) (fun _=>(A0 _).trans (A5 ..)) (by kernel_rfl) fun _=>rfl
abbrev Qd:Row:=⟨62,0,0,1,0,none,[Aft],[(.ret,[AfY,At])],[.one,.one],[(3,[[0],[0],[0],[],[10]])],[]⟩
def AZw[Lk]:=fun v=>Lk.f (BE _ _ v (Qd.self Tryz.prog (Qd.ev aj) Tryz.f62))
def ah[Lk]:Env:=Qd.Bh aj AZw
theorem AC8:BC Tryz.prog ah:=Row.BB Qd ADA Tryz.func62 (d:=Qd.self Tryz.prog (Qd.ev aj) Tryz.f62) (fun _=>(A0 _).trans (A5 ..)) (by kernel_rfl) fun _=>rfl
abbrev Ahb:Loc×Con:=(.tmp 6,.own 3 (.int .i64))
abbrev HW:Row:=⟨109,0,0,2,0,none,[Aft,(.tmp 1,.dat (.slice (.prod (.int .i64) (.prod (.int .i64) (.prod (.int .i64) .unit)))))],[(.ret,[AfY,AE])],[.one,.one],[],[(0,[Ahb,(.tmp 8,.own 3 (.int .i64)),(.tmp 20,.dat (.slice (.prod (.int .i64) (.prod (.int .i64) (.prod (.int .i64) .unit))))),(.tmp 21,.di),(.tmp 22,.di)],[(.ret,[(.tmp 4,.nil (.int .i64)),AeR]),(.exit 0,[(.tmp 8,.own 3 (.int .i64))])])]⟩
def cL[Lk]:=fun v=>Lk.f (BE _ _ v (HW.self Tryz.prog (HW.ev ah) Tryz.f109))
def OQ[Lk]:Env:=HW.Bh ah cL
theorem iX:BC Tryz.prog OQ:=Row.BB HW AC8 Tryz.func109 (d:=HW.self Tryz.prog (HW.ev ah) Tryz.f109) (fun _=>(A0 _).trans (A5 ..)) (by kernel_rfl) fun _=>rfl
abbrev Mj:Row:=⟨85,0,0,1,0,none,[(.tmp 0,.dat (.slice (.prod (.int .i64) (.prod (.int .i64) (.prod (.slice (.int .i64)) .unit)))))],[(.ret,[AgO,AE])],[.one,.one],[],[(0,[Ag5,(.tmp 9,.dat (.slice (.prod (.int .i64) (.prod (.int .i64) (.prod (.slice (.int .i64)) .unit))))),AZ,Aa],[(.ret,[(.tmp 2,.nil (.int .u8)),AS]),(.exit 0,[Ag5])])]⟩
def oP[Lk]:=fun v=>Lk.f (BE _ _ v (Mj.self Tryz.prog (Mj.ev OQ) Tryz.f85))
def WY[Lk]:Env:=Mj.Bh OQ oP
theorem xi:BC Tryz.prog WY:=Row.BB Mj iX Tryz.func85 (d:=Mj.self Tryz.prog (Mj.ev OQ) Tryz.f85) (fun _=>(A0 _).trans (A5 ..)) (by kernel_rfl) fun _=>rfl
abbrev Ahc:Loc×Con:=(.tmp 8,.own 100 (.prod (.slice (.int .i64)) (.prod (.slice (.int .i64)) (.prod (.slice (.slice (.int .i64))) .unit))))
abbrev J0:Row:=⟨26,0,0,2,0,none,[Af6,Afm],[(.ret,[(.tmp 0,.own 100 (.prod (.slice (.int .i64)) (.prod (.slice (.int .i64)) (.prod (.slice (.slice (.int .i64))) .unit)))),AE])],[.one,.one],[],[(0,[Afm,Ahc,(.tmp 23,.dat (.slice (.slice (.int .i64)))),AeK,AeA],[(.exit 0,[Ahc])])]⟩
def Nt[Lk]:=fun v=>Lk.f (BE _ _ v (J0.self Tryz.prog (J0.ev WY) Tryz.f26))
def Rg[Lk]:Env:=J0.Bh WY Nt
theorem rH:BC Tryz.prog Rg:=Row.BB J0 xi Tryz.func26 (d:=J0.self Tryz.prog (J0.ev WY) Tryz.f26) (fun _=>(A0 _).trans (A5 ..)) (by kernel_rfl) fun _=>rfl
abbrev Jb:Row:=⟨65,0,0,1,0,none,[Af9],[(.ret,[AD])],[.one],[],[]⟩
def Zj[Lk]:=fun v=>Lk.f (BE _ _ v (Jb.self Tryz.prog (Jb.ev Rg) Tryz.f65))
def RO[Lk]:Env:=Jb.Bh Rg Zj
theorem qk:BC Tryz.prog RO:=Row.BB Jb rH Tryz.func65 (d:=Jb.self Tryz.prog (Jb.ev Rg) Tryz.f65) (fun _=>(A0 _).trans (A5 ..)) (by kernel_rfl) fun _=>rfl
abbrev Ahd:Loc×Con:=(.tmp 56,.dat (.slice (.slice (.int .i64))))
abbrev Ahe:Loc×Con:=(.tmp 10,.rows 40 3 (.int .i64))
abbrev ME:Row:=⟨87,0,0,2,2,none,[Af9,Afk],[(.ret,[Af7,AE])],[.one,.one],[(17,[[],[],[0],[0],[],[],[0],[0]])],[(0,[AeU,Aff,Afe,AgD,Ad0,Afp,(.tmp 35,.dat (.slice (.int .i64))),(.tmp 36,.di),(.tmp 37,.di)],[(.exit 0,[AeU,Aff,Afe,AgD,Ad0,Afp])]),(1,[Ad0,Afp,Ahe,Ahd,Ae8,(.tmp 58,.di)],[(.exit 2,[Ahe])]),(2,[Ad0,Afp,Ahe,Aa,Ahd,Ae8,(.tmp 58,.di),(.tmp 63,.dat (.slice (.int .i64))),(.tmp 64,.di),(.tmp 65,.di)],[(.exit 4,[Ad0,Afp,Ahe,Ahd,Ae8,(.tmp 58,.di)])])]⟩
def m9[Lk]:=fun v=>Lk.f (BE _ _ v (ME.self Tryz.prog (ME.ev RO) Tryz.f87))
def WL[Lk]:Env:=ME.Bh RO m9
theorem xX:BC Tryz.prog WL:=Row.BB ME qk Tryz.func87 (d:=ME.self Tryz.prog (ME.ev RO) Tryz.f87) (fun _=>(A0 _).trans (A5 ..)) (by kernel_rfl) fun _=>rfl
abbrev L4:Row:=⟨165,0,0,1,0,none,[Af9],[(.ret,[AA])],[.one],[(3,[[0],[0],[0],[0]])],[]⟩
def AXd[Lk]:=fun v=>Lk.f (BE _ _ v (L4.self Tryz.prog (L4.ev WL) Tryz.f165))
def WC[Lk]:Env:=L4.Bh WL AXd
theorem xQ:BC Tryz.prog WC:=Row.BB L4 xX Tryz.func165 (d:=L4.self Tryz.prog (L4.ev WL) Tryz.f165) (fun _=>(A0 _).trans (A5 ..)) (by kernel_rfl) fun _=>rfl
abbrev HO:Row:=⟨164,0,0,2,0,none,[Af9,Af8],[(.ret,[Afj])],[.one],[],[(0,[Af8,AeU,Aff,Afe,AgD,Afn,(.tmp 10,.dat (.slice (.slice (.int .i64)))),Aa,AN],[(.ret,[(.tmp 4,.nil (.int .i64))]),(.exit 0,[Af8,AeU,Aff,Afe,AgD,Afn])])]⟩
def ALv[Lk]:=fun v=>Lk.f (BE _ _ v (HO.self Tryz.prog (HO.ev WC) Tryz.f164))
def OI[Lk]:Env:=HO.Bh WC ALv
theorem iO:BC Tryz.prog OI:=Row.BB HO xQ Tryz.func164 (d:=HO.self Tryz.prog (HO.ev WC) Tryz.f164) (fun _=>(A0 _).trans (A5 ..)) (by kernel_rfl) fun _=>rfl
abbrev L9:Row:=⟨89,0,0,2,0,none,[Af9,Af8],[(.ret,[AA,AE])],[.one,.one],[],[(0,[Af8,AeU,Aff,Afe,AgD,Ad0,AQ,AP,Ac,Agk],[(.exit 0,[AP])])]⟩
def mf[Lk]:=fun v=>Lk.f (BE _ _ v (L9.self Tryz.prog (L9.ev OI) Tryz.f89))
def WE[Lk]:Env:=L9.Bh OI mf
theorem xS:BC Tryz.prog WE:=Row.BB L9 iO Tryz.func89 (d:=L9.self Tryz.prog (L9.ev OI) Tryz.f89) (fun _=>(A0 _).trans (A5 ..)) (by kernel_rfl) fun _=>rfl
abbrev Ahf:Loc×Con:=(.tmp 5,.dat (.slice (.int .i64)))
abbrev Jv:Row:=⟨227,0,0,2,0,none,[Af9,Af8],[(.ret,[AD])],[.one],[],[(0,[Ahf,(.tmp 11,.dat (.slice (.int .i64))),AN,AM],[(.ret,[Ai]),(.exit 0,[Ahf])])]⟩
def AS8[Lk]:=fun v=>Lk.f (BE _ _ v (Jv.self Tryz.prog (Jv.ev WE) Tryz.f227))
def Rb[Lk]:Env:=Jv.Bh WE AS8
theorem q8:BC Tryz.prog Rb:=Row.BB Jv xS Tryz.func227 (d:=Jv.self Tryz.prog (Jv.ev WE) Tryz.f227) (fun _=>(A0 _).trans (A5 ..)) (by kernel_rfl) fun _=>rfl
abbrev Jx:Row:=⟨166,0,0,3,0,none,[Af9,Af8,AF],[(.ret,[(.tmp 0,.box 6),Aff,Afe,AgD,AgC,AgE,Aea,AE])],[.one,.one],[],[]⟩
def AS9[Lk]:=fun v=>Lk.f (BE _ _ v (Jx.self Tryz.prog (Jx.ev Rb) Tryz.f166))
def Rd[Lk]:Env:=Jx.Bh Rb AS9
theorem rC:BC Tryz.prog Rd:=Row.BB Jx q8 Tryz.func166 (d:=Jx.self Tryz.prog (Jx.ev Rb) Tryz.f166) (fun _=>(A0 _).trans (A5 ..)) (by kernel_rfl) fun _=>rfl
abbrev Q6:Row:=⟨254,0,0,3,0,none,[AhR,AE,AF],[(.ret,[AD,AE])],[.one,.one],[(4,[[0],[],[],[0]])],[]⟩
def AaL[Lk]:=fun v=>Lk.f (BE _ _ v (Q6.self Tryz.prog (Q6.ev Rd) Tryz.f254))
def au[Lk]:Env:=Q6.Bh Rd AaL
theorem ADK:BC Tryz.prog au:=Row.BB Q6 rC Tryz.func254 (d:=Q6.self Tryz.prog (Q6.ev Rd) Tryz.f254) (fun _=>(A0 _).trans (A5 ..)) (by kernel_rfl) fun _=>rfl
abbrev Q4:Row:=⟨91,0,0,2,0,none,[AhR,AE],[(.ret,[AA,AE])],[.one,.one],[(4,[[0],[0],[0]])],[]⟩
def AEu[Lk]:=fun v=>Lk.f (BE _ _ v (Q4.self Tryz.prog (Q4.ev au) Tryz.f91))
def ar[Lk]:Env:=Q4.Bh au AEu
theorem ADJ:BC Tryz.prog ar:=Row.BB Q4 ADK Tryz.func91 (d:=Q4.self Tryz.prog (Q4.ev au) Tryz.f91) (fun _=>(A0 _).trans (A5 ..)) (by kernel_rfl) fun _=>rfl
abbrev Ahg:Loc×Con:=(.tmp 3,.own 144 (.prod (.int .i64) (.prod (.slice (.slice (.int .i64))) .unit)))
abbrev GD:Row:=⟨251,0,0,1,0,none,[Aft],[(.ret,[(.tmp 0,.own 144 (.prod (.int .i64) (.prod (.slice (.slice (.int .i64))) .unit)))])],[.one],[],[(0,[Ad3,AI,AhZ,Ahg,AR],[(.ret,[(.tmp 2,.nil (.prod (.int .i64) (.prod (.slice (.slice (.int .i64))) .unit)))]),(.exit 0,[Ahg])])]⟩
def AGM[Lk]:=fun v=>Lk.f (BE _ _ v (GD.self Tryz.prog (GD.ev ar) Tryz.f251))
def Ld[Lk]:Env:=GD.Bh ar AGM
theorem gF:BC Tryz.prog Ld:=Row.BB GD ADJ Tryz.func251 (d:=GD.self Tryz.prog (GD.ev ar) Tryz.f251) (fun _=>(A0 _).trans (A5 ..)) (by kernel_rfl) fun _=>rfl
abbrev MC:Row:=⟨193,0,0,1,0,none,[Aft],[(.ret,[AD])],[.one],[(4,[[0],[0],[0],[],[12]])],[]⟩
def AXq[Lk]:=fun v=>Lk.f (BE _ _ v (MC.self Tryz.prog (MC.ev Ld) Tryz.f193))
def WI[Lk]:Env:=MC.Bh Ld AXq
theorem xV:BC Tryz.prog WI:=Row.BB MC gF Tryz.func193 (d:=MC.self Tryz.prog (MC.ev Ld) Tryz.f193) (fun _=>(A0 _).trans (A5 ..)) (by kernel_rfl) fun _=>rfl
abbrev GC:Row:=⟨195,0,0,1,0,none,[Aft],[(.ret,[AD])],[.one],[],[(0,[Ad3,AI,AhZ,Ahg,(.tmp 11,.own' 1),AN,AM],[(.ret,[AH]),(.exit 0,[Ahg])]),(1,[Ad3,AI,AhZ,Ahg,AR,AfR,Aeu,(.cell 2 1,.dat (.slice (.slice (.int .i64)))),(.tmp 11,.own' 1),AN,AM,Ae5,(.tmp 20,.di)],[(.ret,[AH]),(.exit 2,[Ad3,AI,AhZ,Ahg,(.tmp 11,.own' 1),AN,AM])])]⟩
def AGL[Lk]:=fun v=>Lk.f (BE _ _ v (GC.self Tryz.prog (GC.ev WI) Tryz.f195))
def Lc[Lk]:Env:=GC.Bh WI AGL
theorem gE:BC Tryz.prog Lc:=Row.BB GC xV Tryz.func195 (d:=GC.self Tryz.prog (GC.ev WI) Tryz.f195) (fun _=>(A0 _).trans (A5 ..)) (by kernel_rfl) fun _=>rfl
abbrev MS:Row:=⟨88,0,0,2,0,none,[Af9,(.tmp 1,.dat (.slice .bool))],[(.ret,[Af7,AE])],[.one,.one],[],[(0,[AeU,Aff,Afe,AgD,Ahb,(.tmp 12,.dat (.slice .bool)),AM,Aeo],[(.exit 0,[AeU,Aff,Afe,AgD,Ahb])])]⟩
def nX[Lk]:=fun v=>Lk.f (BE _ _ v (MS.self Tryz.prog (MS.ev Lc) Tryz.f88))
def WV[Lk]:Env:=MS.Bh Lc nX
theorem xe:BC Tryz.prog WV:=Row.BB MS gE Tryz.func88 (d:=MS.self Tryz.prog (MS.ev Lc) Tryz.f88) (fun _=>(A0 _).trans (A5 ..)) (by kernel_rfl) fun _=>rfl
abbrev Jw:Row:=⟨90,0,0,4,0,none,[Af9,Af8,AF,AS],[(.ret,[AfY,AE])],[.one,.one],[(9,[[],[],[0],[0],[0],[0],[],[0],[0],[0],[],[],[],[],[0],[0],[1]])],[(0,[AS,(.tmp 10,.box 6),Aff,Afe,AgD,AgC,AgE,Aea,(.tmp 12,.own 3 (.int .i64))],[(.exit 0,[(.tmp 12,.own 3 (.int .i64))])])]⟩
def Z2[Lk]:=fun v=>Lk.f (BE _ _ v (Jw.self Tryz.prog (Jw.ev WV) Tryz.f90))
def Rc[Lk]:Env:=Jw.Bh WV Z2
theorem q9:BC Tryz.prog Rc:=Row.BB Jw xe Tryz.func90 (d:=Jw.self Tryz.prog (Jw.ev WV) Tryz.f90) (fun _=>(A0 _).trans (A5 ..)) (by kernel_rfl) fun _=>rfl
abbrev Ahh:Loc×Con:=(.tmp 10,.own 161 (.prod (.int .i64) (.prod (.int .i64) (.prod (.slice (.prod (.int .i64) (.prod (.int .i64) .unit))) .unit))))
abbrev Ahi:Loc×Con:=(.cell 1 2,.nil (.prod (.int .i64) (.prod (.int .i64) (.prod (.slice (.prod (.int .i64) (.prod (.int .i64) .unit))) .unit))))
abbrev Ahj:Loc×Con:=(.cell 7 2,.own 95 (.prod (.int .i64) (.prod (.int .i64) .unit)))
abbrev Ahk:Loc×Con:=(.tmp 8,.own 95 (.prod (.int .i64) (.prod (.int .i64) .unit)))
abbrev Ahl:Loc×Con:=(.cell 3 0,.dat (.slice (.int .i64)))
abbrev Ahm:Loc×Con:=(.cell 3 1,.dat (.slice (.int .i64)))
abbrev Ahn:Loc×Con:=(.tmp 7,.box 2)
abbrev Aho:Loc×Con:=(.cell 6 1,.di)
abbrev Ahp:Loc×Con:=(.cell 6 0,.di)
abbrev QW:Row:=⟨29,0,0,2,0,none,[Ag2,AgA],[(.ret,[Afj,Afk,(.tmp 2,.dat (.slice (.prod (.int .i64) (.prod (.int .i64) (.prod (.slice (.prod (.int .i64) (.prod (.int .i64) .unit))) .unit))))),(.tmp 3,.dat (.prod (.int .i64) (.prod (.int .i64) .unit))),AR])],[.agg 3,.one,.one],[(10,[[0],[0],[],[],[],[0],[0],[],[],[],[],[],[15]]),(14,[[14],[14],[],[],[8],[8],[],[17,18],[14],[15]]),(18,[[4],[],[],[],[6],[6],[1],[3]])],[(0,[(.tmp 3,.box 3),Aff,Afe,AgD,AeV,Agd,Age,Ahi,AfR,Aeu,Aev,Ahn,Ahl,Ahm,Ahk,Ahh,(.tmp 44,.own' 4),AeJ,Aec],[(.exit 0,[AeV,AfW,AfV,(.cell 0 2,.nil (.prod (.int .i64) (.prod (.int .i64) (.prod (.slice (.prod (.int .i64) (.prod (.int .i64) .unit))) .unit)))),AfR,AK,Aeq,Ahn,(.cell 2 0,.dat (.slice (.int .i64))),Agw,Ahk,Ahh])]),(1,[(.tmp 3,.box 3),Aff,Afe,AgD,AeV,Agd,Age,Ahi,AfR,Aeu,Aev,Ahn,Ahl,Ahm,Ahk,Ahh,(.tmp 12,.box 2),Ahp,Aho,(.tmp 13,.box 3),(.cell 7 0,.di),(.cell 7 1,.di),Ahj,(.tmp 44,.own' 4),AeJ,Aec,(.tmp 66,.dat (.slice (.int .i64))),AhK,(.tmp 68,.di)],[(.exit 2,[(.tmp 3,.box 3),Aff,Afe,AgD,AeV,Agd,Age,Ahi,AfR,Aeu,Aev,Ahn,Ahl,Ahm,Ahk,Ahh,(.tmp 12,.box 2),Ahp,Aho,(.tmp 13,.box 3),(.cell 7 0,.di),(.cell 7 1,.di),Ahj,(.tmp 44,.own' 4),AeJ,Aec])])]⟩
def ADb[Lk]:=fun v=>Lk.f (BE _ _ v (QW.self Tryz.prog (QW.ev Rc) Tryz.f29))
def ab[Lk]:Env:=QW.Bh Rc ADb
theorem AC4:BC Tryz.prog ab:=Row.BB QW q9 Tryz.func29 (d:=QW.self Tryz.prog (QW.ev Rc) Tryz.f29) (fun _=>(A0 _).trans (A5 ..)) (by kernel_rfl) fun _=>rfl
abbrev Ahq:Loc×Con:=(.cell 6 2,.dat (.slice (.prod (.int .i64) (.prod (.int .i64) .unit))))
abbrev Ahr:Loc×Con:=(.cell 0 3,.dat (.slice (.prod (.int .i64) (.prod (.int .i64) .unit))))
abbrev Ahs:Loc×Con:=(.tmp 15,.dat (.slice (.prod (.int .i64) (.prod (.int .i64) .unit))))
abbrev Aht:Loc×Con:=(.cell 2 2,.own 40 (.slice (.int .i64)))
abbrev Ahu:Loc×Con:=(.cell 2 2,.nil (.slice (.int .i64)))
abbrev Ahv:Loc×Con:=(.cell 2 0,.own 3 (.int .i64))
abbrev Ahw:Loc×Con:=(.cell 2 1,.own 3 (.int .i64))
abbrev HP:Row:=⟨70,0,2,1,0,none,[(.tmp 0,.box 5),Aff,Afe,Afa,Ahr,Afb],[(.ret,[Afg,Aff,Afe,Afa,Ahr,Afb,AgR,AfY,AfX,AhO,AG])],[.agg 3,.one],[(14,[[4],[4],[12],[12],[],[7,16],[4],[4],[12],[12],[],[9,20],[4],[4],[],[14],[11,24],[4],[5],[4],[5],[4],[5]]),(4,[[],[0],[0],[0],[0],[12],[12],[],[],[],[15]]),(9,[[],[0],[0],[0],[16],[2]])],[(0,[Afg,Aff,Afe,Afa,Ahr,Afb,AgR,Aen,AeU,Ahv,Ahw,Aht,Ahs,Ae7,AfZ],[(.ret,[Afg,Aff,Afe,Afa,Ahr,Afb,AgR,AeU,(.cell 2 0,.nil (.int .i64)),(.cell 2 1,.nil (.int .i64)),Ahu,AG]),(.exit 0,[Afg,Aff,Afe,Afa,Ahr,Afb,AgR,AeU,Ahv,Ahw,Aht])]),(1,[Afg,Aff,Afe,Afa,Ahr,Afb,AgR,Aen,AeU,Ahv,Ahw,Aht,(.tmp 6,.box 3),Ahp,Aho,Ahq,Afp,Ahs,Ae7,AfZ,(.tmp 31,.dat (.slice (.prod (.int .i64) (.prod (.int .i64) .unit)))),Ah,(.tmp 33,.di)],[(.ret,[Afg,Aff,Afe,Afa,Ahr,Afb,AgR,AeU,(.cell 2 0,.nil (.int .i64)),(.cell 2 1,.nil (.int .i64)),Ahu,AG]),(.exit 2,[Afg,Aff,Afe,Afa,Ahr,Afb,AgR,Aen,AeU,Ahv,Ahw,Aht,(.tmp 6,.box 3),Ahp,Aho,Ahq,Afp,Ahs,Ae7,AfZ])])]⟩
def ALw[Lk]:=fun v=>Lk.f (BE _ _ v (HP.self Tryz.prog (HP.ev ab) Tryz.f70))
def OJ[Lk]:Env:=HP.Bh ab ALw
theorem iP:BC Tryz.prog OJ:=Row.BB HP AC4 Tryz.func70 (d:=HP.self Tryz.prog (HP.ev ab) Tryz.f70) (fun _=>(A0 _).trans (A5 ..)) (by kernel_rfl) fun _=>rfl
abbrev L8:Row:=⟨30,0,0,2,0,none,[Ag2,Afd],[(.ret,[AfY,AfX,AhO,(.tmp 3,.dat (.slice (.prod (.int .i64) (.prod (.int .i64) .unit)))),AR])],[.agg 3,.one,.one],[(10,[[42],[],[24],[24],[24],[5]])],[]⟩
def mb[Lk]:=fun v=>Lk.f (BE _ _ v (L8.self Tryz.prog (L8.ev OJ) Tryz.f30))
def WD[Lk]:Env:=L8.Bh OJ mb
theorem xR:BC Tryz.prog WD:=Row.BB L8 iP Tryz.func30 (d:=L8.self Tryz.prog (L8.ev OJ) Tryz.f30) (fun _=>(A0 _).trans (A5 ..)) (by kernel_rfl) fun _=>rfl
abbrev QX:Row:=⟨18,0,0,3,0,none,[Aft,AE,AF],[(.ret,[(.tmp 0,.dat (.prod .bool (.prod (.prod (.int .i64) (.prod (.int .i64) .unit)) (.prod (.int .i64) (.prod (.int .i64) .unit))))),AE])],[.one,.one],[(11,[[],[],[6],[6],[0],[1],[0],[1]])],[(0,[(.tmp 6,.box 5),(.cell 0 0,.dat .bool),AeO,AfA,AfB,AgE,(.tmp 8,.box 4),AK,(.cell 1 1,.dat (.slice (.int .i64))),(.cell 1 2,.map (.int .i64) (.int .i64)),(.cell 1 3,.dat (.mapi .i64 (.slice (.prod (.int .i64) (.prod (.int .i64) .unit))))),(.tmp 9,.dat (.slice (.int .i64)))],[(.exit 0,[(.tmp 6,.box 5),(.cell 0 0,.dat .bool),AeO,AfA,AfB,AgE])])]⟩
def ADe[Lk]:=fun v=>Lk.f (BE _ _ v (QX.self Tryz.prog (QX.ev WD) Tryz.f18))
def AFR[Lk]:Env:=QX.Bh WD ADe
theorem AC5:BC Tryz.prog AFR:=Row.BB QX xR Tryz.func18 (d:=QX.self Tryz.prog (QX.ev WD) Tryz.f18) (fun _=>(A0 _).trans (A5 ..)) (by kernel_rfl) fun _=>rfl
end
end Go.Pev
end
section
namespace Go.Pev
noncomputable section
abbrev AVa:A1:=[(.tmp 0,.box 7),AI,Ad1,AfA,AfB,AgE,Aea,AeZ,Adx]
abbrev Ahx:Loc×Con:=(.obj 0,.box 7)
abbrev AVZ:A1:=[Ahx,AI,Ad1,AfA,AfB,AgE,Aea,AeZ]
abbrev AQ3:A1:=[Ahx,AI,Ad1,AfA,AfB,AgE,Aea,AeZ,Aen,(.tmp 10,.dat Ul),Aa,AN]
abbrev AQ2:BJ:=[(.ret,[Ahx,AI,Ad1,AfA,AfB,AgE,Aea,AeZ]),(.exit 0,[Ahx,AI,Ad1,AfA,AfB,AgE,Aea,AeZ])]
def AQ1[Lk]:(Int×List U4×Int×Int×Int×Int×Int×List U3×Int×Int×Unit)->Option ((Int×List U4×Int×Int×Int×Int×Int×List U3×Int×Int×Unit)⊕Vl⊕Vl⊕Unit):=fun(b,a,e,f,g,h,i,k,l,j,_)=>
 match(ilt j l)with
 |true=>match idx k j with|none=>none|some c=>match AXJ ((b,(a,())),c.1,c.2.1,())with|none=>none|some (m,_)=>match(ilt m 0)with
  |true=>some (.inr (.inl (b,a,e,f,g,h,i,())))
  |false=>match idx a m with|none=>none|some d=>match qR ((b,(a,())),(d.1,(d.2.1,(d.2.2.1,(d.2.2.2.1,())))),())with|none=>none|some (n,_)=>match AZ8 ((b,(a,())),c.1,c.2.1,())with|none=>none|some (o,p,q,r,_)=>some (.inl (o,p,e,(w64 (f+1)),(w64 (g+q.2.2.2.1)),(w64 (h+n)),i,k,l,(w64 (j+1)),()))
 |false=>some (.inr (.inr (.inl (b,a,e,f,g,h,i,()))))
def AFG[Lk]:(Int×List U4×Int×Int×Int×Int×Int×List U3×Unit)->Option (Vl):=fun(b,c,d,e,f,g,h,a,_)=>
 match A' AQ1 many (b,c,d,e,f,g,h,a,(A2 a),0,())with|none=>none|some r=>match r with
 |.inl (i,j,k,l,m,n,o,_)=>some (i,j,k,l,m,n,o,())
 |.inr r=>match r with
 |.inl (p,q,s,t,u,v,w,_)=>some (p,q,s,t,u,v,w,())
 |.inr _=>none
def lJ[Lk]:=lkk AFG
theorem AQ4 v:lJ v=AFG v:=A0 _
open Go.Proofs
def JS:=Chn.g ⟨AFR,AC5⟩ ⟨156,0,1,2,0,none,AVa,[(.ret,AVZ)],BY,[(8,[[],[0],[0],[0],[0],[30],[30],[],[0],[0],[0],[1]]),(6,[[],[0],[0],[0],[2],[2],[2],[2],[],[],[],[],[],[],[],[29],[31]]),(5,[[],[0],[0],[0],[0],[],[0],[0],[0],[],[0],[0],[0],[0],[],[],[],[],[],[0],[0],[0],[1]]),(3,[[],[0],[0],[0],[2],[2],[2],[2]])],[(0,AQ3,AQ2)]⟩ lJ Tryz.func156 AQ4
theorem ASN:Tryz.f253.body.isSome=true:=by kernel_rfl
theorem ASM : (Tryz.f253.name == "runtime.NumGoroutine") = false := by kernel_rfl
theorem ASL:loops (Bu Tryz.f253)=0:=by kernel_rfl
set_option maxHeartbeats 8000000
attribute [local irreducible] A2 A9 B2 C5 Iq Df A4 Cu C8 imax idx EX ilt ile ieq seq? quo? rem? shl? shr? fits CY IntKind.wrap A_ BH Om ZU Bl Oo A' many Kq
abbrev JL:A1:=[AA]
abbrev JK:A1:=[]
abbrev LM:List RS:=[]
abbrev Qy:A1:=[]
def aG[Lk]:Hints:={ fp:=VE [] }
def Yv[Lk](v:Bd (leaves JL)):Option (Bd (leaves JK)⊕(List Int×Bd (leaves Qy))):=Lk.f (DW 0 Tryz.prog JS.e aG Tryz.f108 JL JK LM 120 [.i64] Qy v)
theorem eB(v):Yv v=DW 0 Tryz.prog JS.e aG Tryz.f108 JL JK LM 120 [.i64] Qy v:=A0 _
theorem Yu:Bz Tryz.prog 0 aG (Bu Tryz.f108) 0:=DR _ 0 (by kernel_rfl)
theorem AO9:IH Tryz.prog 108 (BT 0 1 JL JK LM fun x=>Dd (Yv x)) (I_ 0 1 JL JK LM 120 [.i64] Qy Yv):=MY JS.h.1 JS.h.2.1 JS.h.2.2 Tryz.func108 (Fv (by kernel_rfl)) (Cj Tryz.func108 (by kernel_rfl) (by kernel_rfl)) (AbP rfl) eB Yu
theorem AO8:BS Tryz.prog 108 (BT 0 1 JL JK LM fun x=>Dd (Yv x)):=MW JS.h Tryz.func108 (by kernel_rfl) (by kernel_rfl) rfl eB Yu
def Wa[Lk]:Env:=Env.pM JS.e 108 true (BT 0 1 JL JK LM fun x=>Dd (Yv x)) (I_ 0 1 JL JK LM 120 [.i64] Qy Yv)
theorem K0:BC Tryz.prog Wa:=Env.aL JS.h AO8 AO9 (fun _=>CP rfl rfl)
abbrev Ahy:Loc×Con:=(.tmp 1,.dat (.prod (.int .i64) (.prod (.slice (.prod (.int .i64) (.prod (.int .i64) .unit))) (.prod (.slice (.prod (.int .i64) (.prod (.int .i64) (.prod (.int .i64) .unit)))) .unit))))
abbrev Ahz:Loc×Con:=(.tmp 2,.dat (.prod (.int .i64) (.prod (.int .i64) (.prod (.prod (.int .i64) (.prod (.int .i64) (.prod (.slice (.arr 2 (.int .i64))) .unit))) .unit))))
abbrev Ah0:Loc×Con:=(.cell 0 6,.dat (.slice (.int .i64)))
abbrev JJ:A1:=[(.tmp 0,.box 7),AI,AhZ,AfA,AfB,AgE,Aea,Ah0,Ahy,Ahz]
abbrev JI:A1:=[Ahx,AI,AhZ,AfA,AfB,AgE,Aea,Ah0]
abbrev LK:List RS:=[]
abbrev Qv:A1:=[Ahx]
def aC[Lk]:Hints:={ fp:=VE [(1,[[],[0],[0],[0],[0],[2],[4],[],[],[],[],[],[],[15]]),(7,[[],[],[],[0],[0],[0],[0],[14],[14],[6],[],[],[],[],[0],[0],[0],[1],[0],[0],[0],[1]]),(9,[[],[],[0],[0],[0],[0],[14],[14],[6],[],[],[],[],[0],[0],[0],[1]]),(12,[[],[],[0],[0],[0],[0],[14],[14],[],[],[],[],[0],[0],[0],[1]])] }
def dx[Lk](v:Bd (leaves JJ)):Option (Bd (leaves JI)⊕(List Int×Bd (leaves Qv))):=Lk.f (DW 1 Tryz.prog Wa aC Tryz.f42 JJ JI LK 120 [.i64] Qv v)
theorem dw(v):dx v=DW 1 Tryz.prog Wa aC Tryz.f42 JJ JI LK 120 [.i64] Qv v:=A0 _
theorem Yt:Bz Tryz.prog 1 aC (Bu Tryz.f42) 0:=DR _ 0 (by kernel_rfl)
theorem AOv:IH Tryz.prog 42 (BT 1 3 JJ JI LK fun x=>Dd (dx x)) (I_ 1 3 JJ JI LK 120 [.i64] Qv dx):=MY K0.1 K0.2.1 K0.2.2 Tryz.func42 (Fv (by kernel_rfl)) (Cj Tryz.func42 (by kernel_rfl) (by kernel_rfl)) (AbP rfl) dw Yt
theorem AOu:BS Tryz.prog 42 (BT 1 3 JJ JI LK fun x=>Dd (dx x)):=MW K0 Tryz.func42 (by kernel_rfl) (by kernel_rfl) rfl dw Yt
def WX[Lk]:Env:=Env.pM Wa 42 false (BT 1 3 JJ JI LK fun x=>Dd (dx x)) (I_ 1 3 JJ JI LK 120 [.i64] Qv dx)
theorem OS:BC Tryz.prog WX:=Env.aL K0 AOu AOv (by simp)
abbrev Mi:A1:=[Af6,Ahy,Ahz]
abbrev Mh:A1:=[Af6,(.tmp 1,.dat (.prod (.int .i64) (.prod (.int .i64) (.prod (.slice (.int .i64)) .unit))))]
abbrev Pj:List RS:=[.one,.one]
abbrev dv:A1:=[(.tmp 3,.box 4),(.tmp 6,.box 4),(.tmp 7,.box 3),AI,AhZ,AfA,AfB,AK,Aha,Af3,AhX,Aeu,Aev,(.cell 2 2,.nil (.int .i64)),AeV,Afh,(.cell 3 1,.dat (.slice (.prod (.int .i64) (.prod (.int .i64) .unit)))),(.cell 3 2,.dat (.slice (.prod (.int .i64) (.prod (.int .i64) (.prod (.int .i64) .unit))))),(.tmp 5,.box 5),(.cell 4 0,.di),(.cell 4 1,.di),(.cell 4 2,.di),(.cell 4 3,.di),(.cell 4 4,.dat (.slice (.arr 2 (.int .i64))))]
def Qu[Lk]:Hints:={ fp:=VE [(6,[[],[10],[10],[10],[],[10],[10],[10],[3],[5]])] }
def Xf:Hints:={ fp:=VE [(3,[[0],[20],[20],[],[3],[5]])] }
def DN[Lk](v:Bd (leaves Mi)):Option (Bd (leaves Mh)):=Lk.f (Sf Tryz.prog WX Tryz.f12 2 Mi Mh Pj {} Qu Xf dv 3 v)
theorem kM(v):DN v=Sf Tryz.prog WX Tryz.f12 2 Mi Mh Pj {} Qu Xf dv 3 v:=A0 _
theorem oN[DfI]:Bz Tryz.prog 3 Qu (wR 2 (Bu Tryz.f12)) 0:=DR _ 0 (by kernel_rfl)
theorem vG:BS Tryz.prog 12 (BT 0 3 Mi Mh Pj DN):=ur OS.1 OS.2.1 OS.2.2 Tryz.func12 (Fv (by kernel_rfl)) (Cj Tryz.func12 (by kernel_rfl) (by kernel_rfl)) (AbP rfl) kM oN
def xh[Lk]:Env:=WX.ext 12 true true (BT 0 3 Mi Mh Pj DN)
theorem xg:BC Tryz.prog xh:=Env.B7 OS vG (fun _=>Nm rfl rfl) (fun _=>CP rfl rfl)
end
end Go.Pev
end
section
namespace Go.Pev
noncomputable section
abbrev Ah1:Loc×Con:=(.tmp 1,.dat (.slice (.int .u8)))
abbrev AYd:A1:=[AfS,Ah1,(.tmp 2,.dat Vd)]
abbrev AYc:A1:=[AfS,(.tmp 1,.own 42 (.prod U0 (.prod U0 (.prod U7 .unit)))),AF]
abbrev Ah2:Loc×Con:=(.tmp 12,.own 42 (.prod U0 (.prod U0 (.prod U7 .unit))))
abbrev Ah3:Loc×Con:=(.cell 1 4,.dat (.slice (.arr 2 U0)))
abbrev AUA:A1:=[(.tmp 3,.box 4),AI,Ad1,AfA,AfB,(.tmp 5,.box 5),AK,Aeq,Af3,AhX,Ah3,(.tmp 6,.box 4),Aeu,(.cell 2 1,.nil U1),(.cell 2 2,.di),(.cell 2 3,.di),Aa,Ah2,(.tmp 27,.dat (.slice (.prod U0 (.prod Ul (.prod Uw .unit))))),Ag7,AhD]
abbrev AT9:BJ:=[(.exit 0,[(.tmp 3,.box 4),AI,Ad1,AfA,AfB,(.tmp 6,.box 4),AK,AhM,Af3,AhX,Aa,Ah2])]
def UL[Lk]:Ve->Option (Ve⊕(Int×List U4×Int×Int×Int×Int×Int×Int×List V0×Unit)⊕Unit):=fun(f,g,h,i,j,k,l,m,n,o,p,q,r,c,s,t,d,_)=>
 match(ilt d t)with
 |true=>match idx s d with|none=>none|some e=>match DN (((f,(g,())),(h,(i,()))),(e.1,(e.2.1,(e.2.2.1,()))),(j,(k,((l,(m,(n,()))),()))),())with|none=>none|some (b,a,_)=>match(fits ((A2 c)+(A2 ([(a.1,(a.2.1,(a.2.2.1,())))]:List V0))))with
  |true=>some (.inl (b.1.1,b.1.2.1,b.2.1,b.2.2.1,j,k,l,m,n,o,p,q,r,(B2 c ([(a.1,(a.2.1,(a.2.2.1,())))]:List V0)),s,t,(w64 (d+1)),()))
  |false=>none
 |false=>some (.inr (.inl (f,g,h,i,o,p,q,r,c,())))
def ABc[Lk]:(Vc×List Int×Vb×Unit)->Option ((Vc×List V0×Int×Unit)):=fun(a,j,b,_)=>
 match Hk (((a.1.1,(a.1.2.1,())),(a.2.1,(a.2.2.1,()))),())with|none=>none|some (k,_)=>match(!k)with
 |true=>some (((a.1.1,(a.1.2.1,())),(a.2.1,(a.2.2.1,()))),([]:List V0),1,())
 |false=>match GY (j,())with|none=>none|some (e,m,l,_)=>match A' UL many (a.1.1,a.1.2.1,a.2.1,a.2.2.1,b.1,b.2.1,b.2.2.1.1,b.2.2.1.2.1,b.2.2.1.2.2.1,0,0,0,l,([]:List V0),e,(A2 e),0,())with|none=>none|some r=>match r with
 |.inl (f,g,h,i,n,o,p,c,d,_)=>match(!(ieq c 0))with
  |true=>match(fits ((A2 d)+(A2 ([(c,(0,(([]:List (Int)),())))]:List V0))))with
   |true=>some (((f,(g,())),(h,(i,()))),(B2 d ([(c,(0,(([]:List (Int)),())))]:List V0)),c,())
   |false=>none
  |false=>some (((f,(g,())),(h,(i,()))),d,c,())
 |.inr _=>none
def ABd[Lk]:=lkk ABc
theorem AEm v:ABd v=ABc v:=A0 _
abbrev AVb:A1:=[Ay,(.tmp 1,.dat (.prod U0 U8)),AF]
def aW[Lk]:(Uc×Us×Vb×Unit)->Option ((Uc×Ur×Int×Unit)):=fun(b,c,d,_)=>
 match DN (((b.1,(b.2.1,())),(0,(0,()))),(c.1,(c.2.1,(c.2.2.1,()))),(d.1,(d.2.1,((d.2.2.1.1,(d.2.2.1.2.1,(d.2.2.1.2.2.1,()))),()))),())with|none=>none|some (a,e,_)=>match(!(ieq e.1 0))with
 |true=>some ((b.1,(b.2.1,())),(0,(0,(0,(0,(0,()))))),e.1,())
 |false=>match(ieq c.1 1)with
 |true=>match Kw ((a.1.1,(a.1.2.1,())),())with|none=>none|some (f,_)=>some ((a.1.1,(a.1.2.1,())),(e.2.1,(0,(0,(0,(f,()))))),0,())
 |false=>match(ieq c.1 2)with
 |true=>match Yd ((b.1,(b.2.1,())),c.2.1,())with|none=>none|some (g,n,_)=>match lJ (b.1,b.2.1,0,0,0,0,0,g,())with|none=>none|some (o,p,h,i,j,k,q,_)=>match Kw ((a.1.1,(a.1.2.1,())),())with|none=>none|some (l,_)=>some ((a.1.1,(a.1.2.1,())),(h,(i,(j,(k,(l,()))))),0,())
 |false=>match Kw ((a.1.1,(a.1.2.1,())),())with|none=>none|some (m,_)=>some ((a.1.1,(a.1.2.1,())),(0,(0,(0,(0,(m,()))))),0,())
def Vx[Lk]:=lkk aW
theorem fb v:Vx v=aW v:=A0 _
abbrev AVe:A1:=[Ay,Ah1,(.tmp 2,.dat Vd)]
abbrev AVd:A1:=[Ay,(.tmp 1,.own 110 (.prod U0 U8)),AF]
abbrev AQ7:A1:=[AfM,AI,Ad1,(.tmp 5,.box 5),AK,Aeq,Af3,AhX,Ah3,AhG,Aeu,(.cell 2 1,.nil U1),Aa,(.tmp 12,.own 110 (.prod U0 U8)),(.tmp 28,.dat (.slice (.prod U0 (.prod Ul (.prod Uw .unit))))),AhD,(.tmp 30,.di)]
abbrev AQ6:BJ:=[(.exit 0,[AfM,AI,Ad1,AhG,AK,AhM,Aa,(.tmp 12,.own 110 (.prod U0 U8))])]
def NB[Lk]:(Int×List U4×Int×Int×Int×Int×List U6×Int×Int×List Ur×List Us×Int×Int×Unit)->Option ((Int×List U4×Int×Int×Int×Int×List U6×Int×Int×List Ur×List Us×Int×Int×Unit)⊕(Int×List U4×Int×Int×List Ur×Unit)⊕Unit):=fun(d,e,f,g,h,i,j,k,l,b,m,n,c,_)=>
 match(ilt c n)with
 |true=>match idx m c with|none=>none|some o=>match Vx ((d,(e,())),(o.1,(o.2.1,(o.2.2.1,()))),(f,(g,((h,(i,(j,()))),()))),())with|none=>none|some (p,a,q,_)=>match(ieq q 0)with
  |true=>match(fits ((A2 b)+(A2 ([(a.1,(a.2.1,(a.2.2.1,(a.2.2.2.1,(a.2.2.2.2.1,())))))]:List Ur))))with
   |true=>some (.inl (p.1,p.2.1,f,g,h,i,j,k,l,(B2 b ([(a.1,(a.2.1,(a.2.2.1,(a.2.2.2.1,(a.2.2.2.2.1,())))))]:List Ur)),m,n,(w64 (c+1)),()))
   |false=>none
  |false=>some (.inl (d,e,f,g,h,i,j,k,l,b,m,n,(w64 (c+1)),()))
 |false=>some (.inr (.inl (d,e,k,l,b,())))
def qS[Lk]:(Uc×List Int×Vb×Unit)->Option ((Uc×List Ur×Int×Unit)):=fun(a,d,b,_)=>
 match D3 ((a.1,(a.2.1,())),())with|none=>none|some (e,_)=>match(!e)with
 |true=>some ((a.1,(a.2.1,())),([]:List Ur),1,())
 |false=>match GY (d,())with|none=>none|some (c,k,f,_)=>match A' NB many (a.1,a.2.1,b.1,b.2.1,b.2.2.1.1,b.2.2.1.2.1,b.2.2.1.2.2.1,0,f,([]:List Ur),c,(A2 c),0,())with|none=>none|some r=>match r with
 |.inl (g,h,l,i,j,_)=>some ((g,(h,())),j,i,())
 |.inr _=>none
def w7[Lk]:=lkk qS
theorem wz v:w7 v=qS v:=A0 _
open Go.Proofs
def AYe:=Chn.g ⟨xh,xg⟩ ⟨14,0,0,3,0,none,AYd,[(.ret,AYc)],Ec,[(9,[[18],[],[20],[],[7,22],[1]])],[(0,AUA,AT9)]⟩ ABd Tryz.func14 AEm
def AVc:=Chn.g AYe ⟨78,0,0,3,0,none,xH,[(.ret,AVb)],Ec,[(12,[[18],[18],[],[22],[22],[22],[7],[9]]),(3,[[0],[],[20],[20],[7],[9]])],[]⟩ Vx Tryz.func78 fb
def aX:=Chn.g AVc ⟨33,0,0,3,0,none,AVe,[(.ret,AVd)],Ec,[(10,[[18],[],[20],[],[7,22],[1]])],[(0,AQ7,AQ6)]⟩ w7 Tryz.func33 wz
set_option maxHeartbeats 8000000
attribute [local irreducible] A2 A9 B2 C5 Iq Df A4 Cu C8 imax idx EX ilt ile ieq seq? quo? rem? shl? shr? fits CY IntKind.wrap A_ BH Om ZU Bl Oo A' many Kq
def OM[Lk]:Env:=aX.e.ext 253 false false (CJ Tryz.prog aX.e { fp:=fun n=>match n with|1=>[[0],[10],[10],[],[],[10],[10],[10],[10],[],[],[],[],[],[]]|_=>[] } Tryz.f253)
theorem iT:BC Tryz.prog OM:=Env.B7 aX.h (Br aX.h Tryz.func253 ASN ASM ASL) (by simp) (by simp)
abbrev Ah4:Loc×Con:=(.cell 0 0,.dat (.slice (.prod (.int .i64) (.prod (.slice (.slice (.int .i64))) .unit))))
abbrev Ah5:Loc×Con:=(.tmp 1,.clo 253 [(0,0)])
abbrev Eg:Row:=⟨296,0,1,2,0,some (1,253),[Afq,(.cap 1 0,.box 1),Ah4,Ah5],[(.ret,[AB,Ah4,AA])],[.one],[],[(0,[AB,Ah4,Afq,Ah5,AQ,AP],[(.ret,[AB,Ah4,AR]),(.exit 0,[AB,Ah4])])]⟩
def vL[Lk]:=fun v=>Lk.f (BE _ _ v (Eg.self Tryz.prog (Eg.ev OM) Tryz.f296))
def IK[Lk]:Env:=Eg.Bh OM vL
theorem YL:BC Tryz.prog IK:=Row.BB Eg iT Tryz.func296 (d:=Eg.self Tryz.prog (Eg.ev OM) Tryz.f296) (fun _=>(A0 _).trans (A5 ..)) (by kernel_rfl) fun _=>rfl
abbrev D_:Row:=⟨252,0,1,2,0,some (1,253),[Afq,(.cap 1 0,.box 1),Ah4,Ah5],[(.ret,[AB,Ah4,AD])],[.one],[],[]⟩
def ph[Lk]:=fun v=>Lk.f (BE _ _ v (D_.self Tryz.prog (D_.ev IK) Tryz.f252))
def HC[Lk]:Env:=D_.Bh IK ph
theorem Wk:BC Tryz.prog HC:=Row.BB D_ YL Tryz.func252 (d:=D_.self Tryz.prog (D_.ev IK) Tryz.f252) (fun _=>(A0 _).trans (A5 ..)) (by kernel_rfl) fun _=>rfl
abbrev Jm:Row:=⟨194,0,0,1,0,none,[Aft],[(.ret,[AD])],[.one],[],[]⟩
def ASK[Lk]:=fun v=>Lk.f (BE _ _ v (Jm.self Tryz.prog (Jm.ev HC) Tryz.f194))
def RW[Lk]:Env:=Jm.Bh HC ASK
theorem qu:BC Tryz.prog RW:=Row.BB Jm Wk Tryz.func194 (d:=Jm.self Tryz.prog (Jm.ev HC) Tryz.f194) (fun _=>(A0 _).trans (A5 ..)) (by kernel_rfl) fun _=>rfl
abbrev Jl:Row:=⟨103,0,0,1,0,none,[Aft],[(.ret,[AD])],[.one],[],[]⟩
def Zr[Lk]:=fun v=>Lk.f (BE _ _ v (Jl.self Tryz.prog (Jl.ev RW) Tryz.f103))
def lU[Lk]:Env:=Jl.Bh RW Zr
theorem qt:BC Tryz.prog lU:=Row.BB Jl qu Tryz.func103 (d:=Jl.self Tryz.prog (Jl.ev RW) Tryz.f103) (fun _=>(A0 _).trans (A5 ..)) (by kernel_rfl) fun _=>rfl
end
end Go.Pev
end
section
namespace Go.Pev
noncomputable section
def mL[Lk]:(Unit)->Option (Ud):=fun _=>
 match H5 ((1,(([(0,(1,())),(1,(2,())),(2,(0,())),(3,(2,()))]:List U3),(([]:List Ua),()))),())with|none=>none|some (f,j,_)=>match H5 ((2,(([(1,(0,()))]:List U3),(([]:List Ua),()))),())with|none=>none|some (g,k,_)=>match H5 ((3,(([]:List U3),(([(3,(3,(0,()))),(4,(0,(0,())))]:List Ua),()))),())with|none=>none|some (h,l,_)=>match oi (5,())with|none=>none|some (c,m,_)=>match(fits ((A2 f)+(A2 g)))with
 |true=>match(fits ((A2 (B2 f g))+(A2 h)))with
  |true=>match X0 ()with|none=>none|some (n,o,p,q,r,_)=>match ABd (((c.1.1,(c.1.2.1,())),(c.2.1,(c.2.2.1,()))),(B2 (B2 f g) h),(n,(o,((p,(q,(r,()))),()))),())with|none=>none|some (b,d,s,_)=>match oP (d,())with|none=>none|some (t,u,_)=>match Zt (t,())with|none=>none|some (y18,v,y20,y21,w,_)=>match Nt (((b.1.1,(b.1.2.1,())),(b.2.1,(b.2.2.1,()))),([1,2,4,8]:List (Int)),())with|none=>none|some (a,x,_)=>match(!(ieq j 0))with
   |true=>some (false,())
   |false=>match(!(ieq k 0))with
   |true=>some (false,())
   |false=>match(!(ieq l 0))with
   |true=>some (false,())
   |false=>match(!(ieq m 0))with
   |true=>some (false,())
   |false=>match(!(ieq s 0))with
   |true=>some (false,())
   |false=>match(!(ieq u 0))with
   |true=>some (false,())
   |false=>match(!(ieq w 0))with
   |true=>some (false,())
   |false=>match(!(ieq x 0))with
   |true=>some (false,())
   |false=>match(!(ieq (A2 d) 3))with
   |true=>some (false,())
   |false=>match(!(ieq (A2 a) 2))with
   |true=>some (false,())
   |false=>match(!(ieq v 4))with
   |true=>some (false,())
   |false=>match idx a 0 with|none=>none|some x25=>match idx a 0 with|none=>none|some x26=>match(CY (A2 (A9 a 0 (([]:List (Int)),(([]:List (Int)),(([]:List U6),())))).1)&&CY (A2 (A9 a 0 (([]:List (Int)),(([]:List (Int)),(([]:List U6),())))).1)&&ile (A2 (A9 a 0 (([]:List (Int)),(([]:List (Int)),(([]:List U6),())))).1) (A2 (A9 a 0 (([]:List (Int)),(([]:List (Int)),(([]:List U6),())))).1)&&true)with
   |true=>match m9 (((A9 a 0 (([]:List (Int)),(([]:List (Int)),(([]:List U6),())))).1,((A9 a 0 (([]:List (Int)),(([]:List (Int)),(([]:List U6),())))).2.1,((A9 a 0 (([]:List (Int)),(([]:List (Int)),(([]:List U6),())))).2.2.1,()))),(Df (A4 (A2 (A9 a 0 (([]:List (Int)),(([]:List (Int)),(([]:List U6),())))).1)) (0:Int)),())with|none=>none|some (y,z,_)=>match idx a 0 with|none=>none|some x29=>match idx a 0 with|none=>none|some x30=>match(CY (A2 (A9 a 0 (([]:List (Int)),(([]:List (Int)),(([]:List U6),())))).1)&&CY (A2 (A9 a 0 (([]:List (Int)),(([]:List (Int)),(([]:List U6),())))).1)&&ile (A2 (A9 a 0 (([]:List (Int)),(([]:List (Int)),(([]:List U6),())))).1) (A2 (A9 a 0 (([]:List (Int)),(([]:List (Int)),(([]:List U6),())))).1)&&true)with
    |true=>match nX (((A9 a 0 (([]:List (Int)),(([]:List (Int)),(([]:List U6),())))).1,((A9 a 0 (([]:List (Int)),(([]:List (Int)),(([]:List U6),())))).2.1,((A9 a 0 (([]:List (Int)),(([]:List (Int)),(([]:List U6),())))).2.2.1,()))),(Df (A4 (A2 (A9 a 0 (([]:List (Int)),(([]:List (Int)),(([]:List U6),())))).1)) false),())with|none=>none|some (A,B,_)=>match idx a 0 with|none=>none|some x33=>match mf (((A9 a 0 (([]:List (Int)),(([]:List (Int)),(([]:List U6),())))).1,((A9 a 0 (([]:List (Int)),(([]:List (Int)),(([]:List U6),())))).2.1,((A9 a 0 (([]:List (Int)),(([]:List (Int)),(([]:List U6),())))).2.2.1,()))),y,())with|none=>none|some (C,D,_)=>match idx a 0 with|none=>none|some x36=>match Z2 (((A9 a 0 (([]:List (Int)),(([]:List (Int)),(([]:List U6),())))).1,((A9 a 0 (([]:List (Int)),(([]:List (Int)),(([]:List U6),())))).2.1,((A9 a 0 (([]:List (Int)),(([]:List (Int)),(([]:List U6),())))).2.2.1,()))),A,0,3,())with|none=>none|some (E,F,_)=>match LJ ((b.1.1,(b.1.2.1,())),0,())with|none=>none|some (e,G,_)=>match AEu ((e.1,(e.2.1,())),3,())with|none=>none|some (H,I,_)=>match Pg ((b.1.1,(b.1.2.1,())),())with|none=>none|some (J,_)=>match Tu (5,J,())with|none=>none|some (K,L,_)=>match nV (3,())with|none=>none|some (y46,M,N,_)=>match TH (3,1,2,())with|none=>none|some (O,P,Q,R,S,T,U,V,_)=>match make (4,([3,1]:List (Int)),())with|none=>none|some (W,X,Y,Z,_)=>match X0 ()with|none=>none|some (y61,y62,y63,y64,y65,_)=>match P2 (([(0,(1,())),(1,(2,())),(2,(0,())),(3,(2,()))]:List U3),(y61,(y62,((y63,(y64,(y65,()))),()))),())with|none=>none|some (y66,y67,y68,_)=>match pC ((b.1.1,(b.1.2.1,())),([(1,(0,()))]:List U3),())with|none=>none|some (y69,y70,y71,y72,_)=>match j4 ((y69,(y70,())),([(1,(0,()))]:List U3),())with|none=>none|some (i,y74,y75,_)=>match X0 ()with|none=>none|some (y76,y77,y78,y79,y80,_)=>match Ct (4,(y78,(y79,(y80,()))),())with|none=>none|some (y81,y82,y83,_)=>match X0 ()with|none=>none|some (y84,y85,y86,y87,y88,_)=>match I7 ((b.1.1,(b.1.2.1,())),(3,(([]:List U3),(([(3,(3,(0,()))),(4,(0,(0,())))]:List Ua),()))),(y84,(y85,((y86,(y87,(y88,()))),()))),())with|none=>none|some (y89,y90,y91,y92,y93,_)=>match(ieq z 0)with
     |true=>match(ieq B 0)with
      |true=>match(ieq D 0)with
       |true=>match(ieq F 0)with
        |true=>match(ieq G 0)with
         |true=>match(ieq I 0)with
          |true=>match(ieq L 0)with
           |true=>match(ieq N 0)with
            |true=>match(ieq V 0)with
             |true=>match(ieq Z 0)with
              |true=>match(ieq y68 0)with
               |true=>match(ieq y72 0)with
                |true=>match(ieq y75 0)with
                 |true=>match(ieq y83 0)with
                  |true=>match(ieq y93 0)with
                   |true=>match(ieq C 0)with
                    |true=>match(ieq (A2 E) 0)with
                     |true=>match(ieq H 4)with
                      |true=>match S0 (K,([0,0,0,0,4]:List (Int)),())with|none=>none|some (y94,_)=>match y94 with
                       |true=>match(ieq (A2 M) 3)with
                        |true=>match pS (((O,(P,(Q,()))),(R,(S,(T,(U,()))))),())with|none=>none|some (y95,_)=>match(ieq y95 5)with
                         |true=>match keys ((W,(X,(Y,()))),())with|none=>none|some (y96,_)=>match(ieq (A2 y96) 2)with
                          |true=>match(ieq (A2 y66) 4)with
                           |true=>match Zr ((b.1.1,(b.1.2.1,())),())with|none=>none|some (y97,_)=>match y97 with
                            |true=>match de ((i.1,(i.2.1,())),(b.1.1,(b.1.2.1,())),())with|none=>none|some (y98,_)=>match y98 with
                             |true=>match(ieq (A2 y81) 4)with
                              |true=>match idx d 2 with|none=>none|some x99=>match S0 ((A9 d 2 (0,(0,(([]:List (Int)),())))).2.2.1,([4,2]:List (Int)),())with|none=>none|some (y100,_)=>match y100 with
                               |true=>match KI ((e.1,(e.2.1,())),())with|none=>none|some (y101,_)=>match y101 with
                                |true=>match idx a 0 with|none=>none|some x102=>match Zj (((A9 a 0 (([]:List (Int)),(([]:List (Int)),(([]:List U6),())))).1,((A9 a 0 (([]:List (Int)),(([]:List (Int)),(([]:List U6),())))).2.1,((A9 a 0 (([]:List (Int)),(([]:List (Int)),(([]:List U6),())))).2.2.1,()))),())with|none=>none|some (y103,_)=>some (y103,())
                                |false=>some (false,())
                               |false=>some (false,())
                              |false=>some (false,())
                             |false=>some (false,())
                            |false=>some (false,())
                           |false=>some (false,())
                          |false=>some (false,())
                         |false=>some (false,())
                        |false=>some (false,())
                       |false=>some (false,())
                      |false=>some (false,())
                     |false=>some (false,())
                    |false=>some (false,())
                   |false=>some (false,())
                  |false=>some (false,())
                 |false=>some (false,())
                |false=>some (false,())
               |false=>some (false,())
              |false=>some (false,())
             |false=>some (false,())
            |false=>some (false,())
           |false=>some (false,())
          |false=>some (false,())
         |false=>some (false,())
        |false=>some (false,())
       |false=>some (false,())
      |false=>some (false,())
     |false=>some (false,())
    |false=>none
   |false=>none
  |false=>none
 |false=>none
def rk[Lk]:=lkk mL
theorem rj v:rk v=mL v:=A0 _
def mh[Lk]:(Unit)->Option (Ud):=fun _=>
 match X0 ()with|none=>none|some (g,h,i,j,k,_)=>match ABd (((5,(([]:List U4),())),(0,(0,()))),([1,0,4,0,0,0,1,0,1,0,2,0,0,0,2,0,2,0,3,2,0,1,0,0,0,1]:List (Int)),(g,(h,((i,(j,(k,()))),()))),())with|none=>none|some (c,l,m,_)=>match X0 ()with|none=>none|some (n,o,p,q,r,_)=>match w7 ((5,(([]:List U4),())),([1,0,4,0,0,0,1,0,1,0,2,0,0,0,2,0,2,0,3,2,0,1,0,0,0,1]:List (Int)),(n,(o,((p,(q,(r,()))),()))),())with|none=>none|some (e,a,s,_)=>match Nt (((c.1.1,(c.1.2.1,())),(c.2.1,(c.2.2.1,()))),([2,1,4]:List (Int)),())with|none=>none|some (b,t,_)=>match(!(ieq m 0))with
 |true=>some (false,())
 |false=>match(!(ieq s 0))with
 |true=>some (false,())
 |false=>match(!(ieq t 0))with
 |true=>some (false,())
 |false=>match(!(ieq (A2 l) 2))with
 |true=>some (false,())
 |false=>match(!(ieq (A2 a) 2))with
 |true=>some (false,())
 |false=>match(!(ieq (A2 b) 2))with
 |true=>some (false,())
 |false=>match mg (11,())with|none=>none|some (u,v,w,x,_)=>match idx b 0 with|none=>none|some R=>match ADb (((u,(v,())),(w,())),((A9 b 0 (([]:List (Int)),(([]:List (Int)),(([]:List U6),())))).1,((A9 b 0 (([]:List (Int)),(([]:List (Int)),(([]:List U6),())))).2.1,((A9 b 0 (([]:List (Int)),(([]:List (Int)),(([]:List U6),())))).2.2.1,()))),())with|none=>none|some (y,z,A,f,B,_)=>match mb (((y,(z,())),(A,())),(f.1,(f.2.1,())),())with|none=>none|some (C,D,E,S,F,_)=>match ADe ((5,(([(0,(1,(0,(false,()))))]:List U4),())),1,0,())with|none=>none|some (d,G,_)=>match Tj (([1,0,4,0,0,0,1,0,1,0,2,0,0,0,2,0,2,0,3,2,0,1,0,0,0,1]:List (Int)),())with|none=>none|some (H,T,U,_)=>match rk ()with|none=>none|some (I,_)=>match I with
 |true=>match(ieq x 0)with
  |true=>match(ieq B 0)with
   |true=>match(ieq F 0)with
    |true=>match(ieq G 0)with
     |true=>match idx b 0 with|none=>none|some V=>match nE ((C,(D,(E,()))),((A9 b 0 (([]:List (Int)),(([]:List (Int)),(([]:List U6),())))).1,((A9 b 0 (([]:List (Int)),(([]:List (Int)),(([]:List U6),())))).2.1,((A9 b 0 (([]:List (Int)),(([]:List (Int)),(([]:List U6),())))).2.2.1,()))),())with|none=>none|some (J,_)=>match J with
      |true=>match de ((e.1,(e.2.1,())),(c.1.1,(c.1.2.1,())),())with|none=>none|some (K,_)=>match K with
       |true=>match idx a 0 with|none=>none|some W=>match(ieq (A9 a 0 (0,(0,(0,(0,(0,())))))).1 4&&(ieq (A9 a 0 (0,(0,(0,(0,(0,())))))).2.1 0&&(ieq (A9 a 0 (0,(0,(0,(0,(0,())))))).2.2.1 0&&(ieq (A9 a 0 (0,(0,(0,(0,(0,())))))).2.2.2.1 0&&(ieq (A9 a 0 (0,(0,(0,(0,(0,())))))).2.2.2.2.1 12&&true)))))with
        |true=>match idx a 1 with|none=>none|some X=>match(ieq (A9 a 1 (0,(0,(0,(0,(0,())))))).1 0&&(ieq (A9 a 1 (0,(0,(0,(0,(0,())))))).2.1 1&&(ieq (A9 a 1 (0,(0,(0,(0,(0,())))))).2.2.1 0&&(ieq (A9 a 1 (0,(0,(0,(0,(0,())))))).2.2.2.1 3&&(ieq (A9 a 1 (0,(0,(0,(0,(0,())))))).2.2.2.2.1 9&&true)))))with
         |true=>match((d.1==true)&&(ieq d.2.1.1 0&&(ieq d.2.1.2.1 1&&(ieq d.2.2.1 1&&(ieq d.2.2.2.1 1&&true)))))with
          |true=>match X0 ()with|none=>none|some (L,M,N,O,P,_)=>match Vt (H,(L,(M,((N,(O,(P,()))),()))),())with|none=>none|some (Q,_)=>match(ile c.2.2.1 Q)with
           |true=>some ((ilt 0 c.2.2.1),())
           |false=>some (false,())
          |false=>some (false,())
         |false=>some (false,())
        |false=>some (false,())
       |false=>some (false,())
      |false=>some (false,())
     |false=>some (false,())
    |false=>some (false,())
   |false=>some (false,())
  |false=>some (false,())
 |false=>some (false,())
def Tk[Lk]:=lkk mh
theorem sF v:Tk v=mh v:=A0 _
abbrev Ox:A1:=[(.tmp 0,.dat (.arr 2 (.int .u16))),Adx]
def Oy[Lk]:(List Int×List U3×Unit)->Option (Ud):=fun(g,e,_)=>
 match(ilt 60 (A2 e))with
 |true=>match Tk ()with|none=>none|some (h,_)=>some (h,())
 |false=>match rem? (w64 (A9 g 0 0)) 64 with|none=>none|some i=>match rem? (w64 (A9 g 1 0)) 401 with|none=>none|some j=>match VG ((w64 (1+i)),j,())with|none=>none|some (c,b,_)=>match X0 ()with|none=>none|some (k,l,m,n,o,_)=>match DN (((c,(b,())),(5,(7,()))),(1,(e,(([]:List Ua),()))),(k,(l,((m,(n,(o,()))),()))),())with|none=>none|some (a,d,_)=>match AEW ((c,(b,())),e,())with|none=>none|some (f,p,_)=>match(!(ieq p 0))with
 |true=>match Tk ()with|none=>none|some (q,_)=>match q with
  |true=>match(ieq d.1 10)with
   |true=>match PD (((a.1.1,(a.1.2.1,())),(a.2.1,(a.2.2.1,()))),((c,(b,())),(5,(7,()))),())with|none=>none|some (r,_)=>some (r,())
   |false=>match(ieq d.1 1)with
   |true=>match PD (((a.1.1,(a.1.2.1,())),(a.2.1,(a.2.2.1,()))),((c,(b,())),(5,(7,()))),())with|none=>none|some (s,_)=>some (s,())
   |false=>some (false,())
  |false=>some (false,())
 |false=>match Zx ((1,(e,(([]:List Ua),()))),())with|none=>none|some (t,_)=>match(!t)with
 |true=>match Tk ()with|none=>none|some (u,_)=>match u with
  |true=>match(ieq d.1 10)with
   |true=>match PD (((a.1.1,(a.1.2.1,())),(a.2.1,(a.2.2.1,()))),((c,(b,())),(5,(7,()))),())with|none=>none|some (v,_)=>some (v,())
   |false=>match(ieq d.1 1)with
   |true=>match PD (((a.1.1,(a.1.2.1,())),(a.2.1,(a.2.2.1,()))),((c,(b,())),(5,(7,()))),())with|none=>none|some (w,_)=>some (w,())
   |false=>some (false,())
  |false=>some (false,())
 |false=>match(ilt 400 (w64 ((A2 b)+(A2 f))))with
 |true=>match Tk ()with|none=>none|some (x,_)=>match x with
  |true=>match(ieq d.1 2)with
   |true=>match(ieq d.2.1 0)with
    |true=>match PD (((a.1.1,(a.1.2.1,())),(a.2.1,(a.2.2.1,()))),((c,(b,())),(5,(7,()))),())with|none=>none|some (y,_)=>match y with
     |true=>match AEs ((c,(b,())),e,())with|none=>none|some (z,_)=>some ((!z),())
     |false=>some (false,())
    |false=>some (false,())
   |false=>some (false,())
  |false=>some (false,())
 |false=>match Tk ()with|none=>none|some (A,_)=>match A with
 |true=>match(ieq d.1 0)with
  |true=>match(ieq d.2.1 (A2 f))with
   |true=>match(ieq a.2.1 6)with
    |true=>some ((ieq (A2 a.1.2.1) (w64 ((A2 b)+(A2 f)))),())
    |false=>some (false,())
   |false=>some (false,())
  |false=>some (false,())
 |false=>some (false,())
def GA[Lk]:=lkk Oy
theorem TT v:GA v=Oy v:=A0 _
end
end Go.Pev
end
section

end
section
namespace Go.Pev.Pl
theorem bA{n:Int}(h:-9223372036854775808<=n/\n<=9223372036854775807):IntKind.wrap .i64 n=n:=IntWalk.i64_in n h
theorem BM{n:Int}(h:-9223372036854775808<=n/\n<=9223372036854775807):w64 n=n:=IntWalk.i64_in n h
theorem AI5{σ ρ:Type}{step:σ->Option (σ⊕ρ)}(I:σ->Prop)(Q:ρ->Prop)(m:σ->Nat)
  (h:∀ v,I v->(∃ a,step v=some (.inl a)/\I a/\m a<m v)\/(∃ r,step v=some (.inr r)/\Q r)) :
  ∀ n v,I v->m v<n->∃ r,BK step n v=some r/\Q r:=by
 intro n;induction n with
  |zero=>omega
  |succ n c=>
   intro v b d;rcases h v b with⟨a,e,hi,f⟩|⟨r,e,g⟩
   rw[BK,e];grind;rw[BK,e];grind
theorem ABa{σ ρ:Type}{step:σ->Option (σ⊕ρ)}(I:σ->Prop)(Q:ρ->Prop)(m:σ->Nat)
  (h:∀ v,I v->(∃ a,step v=some (.inl a)/\I a/\m a<m v)\/(∃ r,step v=some (.inr r)/\Q r))
  (v:σ) (hi:I v) (hm:m v<many):∃ r,A' step many v=some r/\Q r:=by rw[Bo];exact AI5 I Q m h many v hi hm
section
variable {α:Type} [Inhabited α]
theorem Bx{d:Array α}{n:Nat}(h:n<d.size):idx d.toList (n:Int)=some d[n]! := by rw[idx_eq,eE,Aa2 (by omega)];simp[h]
theorem CZ{d:Array α}{n:Nat}{z:α}(h:n<d.size):A9 d.toList (A4 (n:Int)) z=d[n]! := by simp[A9,A4,h]
theorem LV{d:Array α}{n:Nat}{x:α}:Bl d.toList (A4 (n:Int)) x=(d.setIfInBounds n x).toList:=by simp[Bl,A4]
theorem AE5{d:Array α}:A2 d.toList=(d.size:Int):=by simp[A2]
theorem L7(d:Array α)(i j:Nat):(d.setIfInBounds i d[j]!).setIfInBounds j d[i]! = Go.Sort.swp d i j:=rfl
theorem size_swp(d:Array α)(i j:Nat):(Go.Sort.swp d i j).size=d.size:=by simp[Go.Sort.swp]
end
theorem A3(a b:Nat):ilt (a:Int) (b:Int)=decide (a<b):=by rw[BF];simp
theorem EN(a b:Nat):ile (a:Int) (b:Int)=decide (a<=b):=by rw[BR];simp
theorem oX(a b:Nat):ieq (a:Int) (b:Int)=decide (a=b):=by rw[DF];grind
section
theorem wrap_add{a b:Nat}(h:a+b<9223372036854775808):w64 ((a:Int)+(b:Int))=((a+b:Nat):Int):=by rw[BM (by omega)];omega
theorem A6{a:Nat}(h:a+1<9223372036854775808):w64 ((a:Int)+1)=((a+1:Nat):Int):=by rw[BM (by omega)];omega
theorem AFh{a:Nat}(h:2*a<9223372036854775808):w64 ((2:Int)*(a:Int))=((2*a:Nat):Int):=by rw[BM (by omega)];omega
theorem AFg{a:Nat}(h:a<9223372036854775808):w64 ((a:Int)*1)=((a*1:Nat):Int):=by rw[BM (by omega)];omega
theorem QP{a:Nat}(h:a*2<9223372036854775808):w64 ((a:Int)*2)=((a*2:Nat):Int):=by rw[BM (by omega)];omega
theorem AFf{a:Nat}(h:a*3<9223372036854775808):w64 ((a:Int)*3)=((a*3:Nat):Int):=by rw[BM (by omega)];omega
theorem Es{a b:Nat}(h:b<=a/\a<9223372036854775808):w64 ((a:Int)-(b:Int))=((a-b:Nat):Int):=by rw[BM (by omega)];omega
theorem B9{a:Nat}(h:1<=a/\a<9223372036854775808):w64 ((a:Int)-1)=((a-1:Nat):Int):=by rw[BM (by omega)];omega
theorem AXD{a:Nat}(h:a<9223372036854775808):quo? .i64 (a:Int) 2=some ((a/2:Nat):Int):=by rw[Se,nS,Aa2 (by omega),Acv (by omega),bA (by omega)];rfl
theorem ADu{a:Nat}(h:a<9223372036854775808):quo? .i64 (a:Int) 4=some ((a/4:Nat):Int):=by rw[Se,nS,Aa2 (by omega),Acv (by omega),bA (by omega)];rfl
theorem AZ4{a:Nat}(h:a<9223372036854775808):quo? .i64 (a:Int) 8=some ((a/8:Nat):Int):=by rw[Se,nS,Aa2 (by omega),Acv (by omega),bA (by omega)];rfl
end
section
variable {α:Type}
theorem Gp{xs:List α}{n:Nat}(z:α)(h:n<xs.length):idx xs (n:Int)=some (xs.getD n z):=by rw[idx_eq,eE,Aa2 (by omega)];simp[h]
theorem AYp{xs:List α}{n:Nat}(h:n<xs.length):∃ x,idx xs (n:Int)=some x:=by rw[idx_eq,eE,Aa2 (by omega)];simp_all
theorem oY(xs:List α)(n:Nat):idx xs (n:Int)=xs[n]? := by rw[idx_eq,eE,Aa2 (by omega)];simp
theorem Ke(xs:List α):idx xs (0:Int)=xs.head? := by rw[idx_eq,eE,Aa2 (by omega)];cases xs<;>rfl
theorem Lr(xs:List α)(n:Nat)(z:α):A9 xs (A4 (n:Int)) z=xs.getD n z:=by simp[A9,A4]
theorem D8(xs:List α)(n:Nat)(x:α):Bl xs (A4 (n:Int)) x=xs.set n x:=by simp[Bl,A4]
theorem A7(xs:List α):A2 xs=(xs.length:Int):=rfl
theorem fB(n:Nat):A4 (n:Int)=n:=by simp[A4]
theorem ES(xs ys:List α):B2 xs ys=xs++ys:=rfl
theorem ma{xs:List α}{l h:Nat}(a:l<=h)(b:h<=xs.length):EX xs (l:Int) (h:Int)=some ((xs.take h).drop l):=by rw[Zn,sE,Aa5 (by omega)];simp
end
theorem CM{n:Int}(h:n<=4294967296):fits n=true:=(Gv n).2 h
theorem Kv{α:Type}{xs:List α}(h:xs.length<=4294967296):QA xs=some xs:=by rw[lD,py,(Xu _).2 (by rw[A7];omega)]
theorem APA{α β:Type}(xs:List α)(ys:List β):ieq (A2 xs) (A2 ys)=decide (xs.length=ys.length):=by rw[A7,A7,oX]
theorem BI(a b:Int):ieq a b=decide (a=b):=by rw[DF];grind
def walk{α β ρ:Type}(f:β->α->α⊕ρ)(fin:α->ρ):List β->α->ρ
 |[],a=>fin a
 |x::xs,a=>match f x a with
  |.inl a=>walk f fin xs a
  |.inr r=>r
theorem AFo{σ ρ α β:Type}{step:σ->Option (σ⊕ρ)}(st:Nat->α->σ)(xs:List β)(f:β->α->α⊕ρ)(fin:α->ρ)(I:Nat->α->Prop)
  (h:∀ i x a,i<xs.length->xs[i]? = some x->I i a->(∀ c,f x a = .inl c->step (st i a)=some (.inl (st (i+1) c))/\I (i+1) c)/\(∀ r,f x a = .inr r->step (st i a)=some (.inr r)))
  (g:∀ a,I xs.length a->step (st xs.length a)=some (.inr (fin a))) :
  ∀ (m i n:Nat) (a:α),xs.length-i=m->i<=xs.length->m<n->I i a->BK step n (st i a)=some (walk f fin (xs.drop i) a):=by
 intro m;induction m with
  |zero=>
   intro i n a j hi l d;obtain⟨n,rfl⟩:∃ k,n=k+1:=⟨n-1,by omega⟩
   have e:i=xs.length:=by omega
   subst e;rw[BK,g a d,List.drop_length];rfl
  |succ m o=>
   intro i n a j hi l d;obtain⟨n,rfl⟩:∃ k,n=k+1:=⟨n-1,by omega⟩
   have b:i<xs.length:=by omega
   obtain⟨p,q⟩:=h i xs[i] a b (by simp) d;rw[Abl b,walk,BK];grind
theorem EC{σ ρ α β:Type}{step:σ->Option (σ⊕ρ)}(st:Nat->α->σ)(xs:List β)(f:β->α->α⊕ρ)(fin:α->ρ)(I:Nat->α->Prop)(e:xs.length<9223372036854775808)
  (h:∀ i x a,i<xs.length->xs[i]? = some x->I i a->(∀ b,f x a = .inl b->step (st i a)=some (.inl (st (i+1) b))/\I (i+1) b)/\(∀ r,f x a = .inr r->step (st i a)=some (.inr r)))
  (c:∀ a,I xs.length a->step (st xs.length a)=some (.inr (fin a))) (a:α) (d:I 0 a):A' step many (st 0 a)=some (walk f fin xs a):=by
 have g:9223372036854775808<many:=by simp only[many];omega
 rw[Bo,AFo st xs f fin I h c xs.length 0 many a (by omega) (by omega) (by omega) d];rfl
theorem pP{α:Type}{xs ys:List α}(z:α)(a:xs.length=ys.length)(h:∀ j,j<xs.length->xs.getD j z=ys.getD j z):xs=ys:=by apply AdO a;grind
theorem AGa{σ ρ:Type}{step:σ->Option (σ⊕ρ)}(st:Nat->σ)(N:Nat)(P:Nat->Bool)(c:Nat->ρ)(d:ρ)
  (h:∀ i,i<N->step (st i)=if P i then some (.inr (c i))else some (.inl (st (i+1)))) (l:step (st N)=some (.inr d)) :
  ∀ (m i n:Nat),N-i=m->i<=N->m<n->(∃ k,i<=k/\k<N/\P k=true/\(∀ j,i<=j->j<k->P j=false)/\BK step n (st i)=some (c k))\/((∀ j,i<=j->j<N->P j=false)/\BK step n (st i)=some d):=by
 intro m;induction m with
  |zero=>
   intro i n o hi p;obtain⟨n,rfl⟩:∃ k,n=k+1:=⟨n-1,by omega⟩
   have e:i=N:=by omega
   subst e;exact .inr ⟨fun j f g=>by omega,by rw[BK,l]⟩
  |succ m q=>
   intro i n o hi p;obtain⟨n,rfl⟩:∃ k,n=k+1:=⟨n-1,by omega⟩
   have a:i<N:=by omega
   cases b:P i
   ·have e:BK step (n+1) (st i)=BK step n (st (i+1)):=by rw[BK,h i a,b];rfl
    rw[e];rcases q (i+1) n (by omega) (by omega) (by omega)with⟨k,f,g,r,s,t⟩|⟨f,g⟩
    all_goals grind
   exact .inl ⟨i,Aax _,a,b,fun j u v=>by omega,by rw[BK,h i a,b];rfl⟩
theorem AXA{σ ρ:Type}{step:σ->Option (σ⊕ρ)}(st:Nat->σ)(N:Nat)(P:Nat->Bool)(a:Nat->ρ)(b:ρ)(f:N<9223372036854775808)
  (h:∀ i,i<N->step (st i)=if P i then some (.inr (a i))else some (.inl (st (i+1)))) (c:step (st N)=some (.inr b)) :
  (∃ k,k<N/\P k=true/\(∀ j,j<k->P j=false)/\A' step many (st 0)=some (a k))\/((∀ j,j<N->P j=false)/\A' step many (st 0)=some b):=by
 have g:9223372036854775808<many:=by simp only[many];omega
 rw[Bo];rcases AGa st N P a b h c N 0 many rfl (by omega) (by omega)with⟨k,d,e,l,m,n⟩|⟨d,e⟩
 all_goals grind
inductive Tok where
 |ver (v:Int)
 |arc (u v:Int)
 deriving DecidableEq
namespace Tok
def st:Tok->Int
 |.ver v=>v
 |.arc _ v=>v
def step(s:List Int×List Int):Tok->Option (List Int×List Int)
 |.ver v=>match s.1 with
  |w::_=>if w=v then some s else none
  |[]=>none
 |.arc u v=>match s.1 with
  |w::r=>if w=u then match r with
    |p::r'=>if p=v then some (p::r',s.2)else if v∈s.2 then none else some (v::w::r,v::s.2)
    |[]=>if v∈s.2 then none else some (v::w::r,v::s.2)
   else none
  |[]=>none
def run:List Int×List Int->List Tok->Option (List Int×List Int)
 |s,[]=>some s
 |s,t::l=>match step s t with
  |some s=>run s l
  |none=>none
theorem KP(s:List Int×List Int)(a b:List Tok):run s (a++b)=(run s a).bind fun s=>run s b:=by
 induction a generalizing s with
  |nil=>rfl
  |cons t a c=>simp only[AbO,run];grind
theorem HS{s b:List Int×List Int}{t:Tok}(h:step s t=some b):
  (∃ v r,t = .ver v/\s.1=v::r/\b=s) \/
  (∃ u v r,t = .arc u v/\s.1=u::v::r/\b=(v::r,s.2)) \/
  (∃ u v r,t = .arc u v/\s.1=u::r/\r.head?≠some v/\v∉s.2/\b=(v::u::r,v::s.2)):=by
 obtain⟨a,c⟩:=s;cases t with
  |ver v=>
   cases a with
    |nil=>simp[step]at h
    |cons w r=>simp only[step]at h;grind
  |arc u v=>
   cases a with
    |nil=>simp[step]at h
    |cons w r=>
     simp only[step]at h;split at h
     ·rename_i e;subst e;cases r with
       |nil=>simp only at h;split at h;all_goals grind
       |cons p r=>simp only at h;split at h;grind;·split at h;all_goals grind
     grind
theorem IX(v:Int)(r c:List Int):step (v::r,c) (.ver v)=some (v::r,c):=by simp[step]
theorem MB(u v:Int)(r c:List Int):step (u::v::r,c) (.arc u v)=some (v::r,c):=by simp[step]
theorem Jj(u v:Int)(r c:List Int)(b:r.head?≠some v)(a:v∉c):step (u::r,c) (.arc u v)=some (v::u::r,v::c):=by
 cases r with
  |nil=>simp[step,a]
  |cons p r=>
   have:p≠v:=by grind
   simp[step,a,this]
def Inv(s:List Int×List Int):Prop:=s.1.Nodup/\(∀ x∈s.1,x∈s.2)
theorem br{s d:List Int×List Int}{t:Tok}(h:step s t=some d)(hi:Inv s):Inv d/\(∀ x∈s.2,x∈d.2)/\d.1.head? = some t.st:=by
 obtain⟨g,c⟩:=s;obtain⟨e,f⟩:=hi;rcases HS h with⟨v,r,rfl,a,rfl⟩|⟨u,v,r,rfl,a,rfl⟩|⟨u,v,r,rfl,a,_,i,rfl⟩
 exact⟨⟨e,f⟩,fun x b=>b,by rw[a];rfl⟩;·simp only at a e f;subst a;refine⟨⟨?_,?_⟩,fun x b=>b,rfl⟩;all_goals grind
 ·simp only at a e f i;subst a;refine⟨⟨?_,?_⟩,fun x b=>by simp[b],rfl⟩;all_goals grind
theorem nG{l:List Tok}:∀ {s a:List Int×List Int},run s l=some a->Inv s->Inv a/\(∀ x∈s.2,x∈a.2)/\∀ t,l.getLast? = some t->a.1.head? = some t.st:=by
 induction l with
  |nil=>intro s a h hi;cases h;grind
  |cons t l c=>
   intro s a h hi;simp only[run]at h;split at h;rename_i k d;obtain⟨e,f,m⟩:=br d hi;obtain⟨g,i,n⟩:=c h e;refine⟨g,fun x j=>i x (f x j),fun t' b => ?_⟩;cases l with
    |nil=>simp at b;subst b;simp only[run]at h;grind
    |cons y l=>grind
   grind
theorem Jq{Z:Int->Prop}:∀ {l:List Tok} {b a c d c2 low:List Int},run (b,c) l=some (a,d)->b≠[]->(∀ x,x∈c2↔x∈c\/Z x) ->
  (∀ u v,.arc u v∈l->¬ Z v)->(∀ y∈low,Z y)->∃ e,run (b++low,c2) l=some (a++low,e)/\(∀ x,x∈e↔x∈d\/Z x):=by
 intro l;induction l with
  |nil=>intro b a c d c2 low h _ k _ _;cases h;exact⟨c2,rfl,k⟩
  |cons t l m=>
   intro b a c d c2 low h n k w o;simp only[run]at h;split at h;rename_i D z;have g:∀ u v,Tok.arc u v∈l->¬ Z v:=fun u v A=>w u v (Ab3 _ A);rcases HS z with⟨v,r,rfl,f,rfl⟩|⟨u,v,r,rfl,f,rfl⟩|⟨u,v,r,rfl,f,E,B,rfl⟩
   simp only at f;subst f;obtain⟨e,i,j⟩:=m h n k g o;exact⟨e,by simp only[run,AbO,IX];exact i,j⟩;simp only at f;subst f;obtain⟨e,i,j⟩:=m h (by simp) k g o;exact⟨e,by simp only[run,AbO,MB];exact i,j⟩;simp only at f B;subst f;have C:=w u v (by simp);have q:v∉c2:=by grind
   have s:(r++low).head?≠some v:=by
    cases r with
     |nil=>
      cases low with
       |nil=>simp
       |cons y low=>grind
     |cons p r=>grind
   obtain⟨e,i,j⟩:=m (c2:=v::c2) h (by simp) (by grind) g o;exact⟨e,by simp only[run,AbO,Jj _ _ _ _ s q];exact i,j⟩;grind
theorem AMp{z:Int}:∀ {l:List Tok} {b a c2 m c:List Int},run (b,c2) l=some (a,m)->z∉b->(∀ x,x∈c2↔x∈c\/x=z)->z∉c ->
  .ver z∉l/\∃ d,run (b,c) l=some (a,d)/\(∀ x,x∈m↔x∈d\/x=z)/\z∉d:=by
 intro l;induction l with
  |nil=>intro b a c2 m c h _ f n;cases h;exact⟨by simp,c,rfl,f,n⟩
  |cons t l o=>
   intro b a c2 m c h g f n;simp only[run]at h;split at h;rename_i C y;rcases HS y with⟨v,r,rfl,e,rfl⟩|⟨u,v,r,rfl,e,rfl⟩|⟨u,v,r,rfl,e,A,s,rfl⟩
   simp only at e;subst e;obtain⟨w,d,i,j,k⟩:=o h g f n;refine⟨?_,d,by simp only[run,IX];exact i,j,k⟩;grind;simp only at e;subst e;obtain⟨w,d,i,j,k⟩:=o h (fun p=>g (Ab3 _ p)) f n;refine⟨?_,d,by simp only[run,MB];exact i,j,k⟩;grind;simp only at e s;subst e;have B:v≠z:=by grind
   have q:v∉c:=fun p=>s ((f v).2 (.inl p))
   obtain⟨w,d,i,j,k⟩:=o (c:=v::c) h (by grind)
    (by grind)
    (by grind)
   refine⟨?_,d,by simp only[run,Jj _ _ _ _ A q];exact i,j,k⟩;grind;grind
def Rot(a b:List Tok):Prop:=∃ x y,a=x++y/\b=y++x
theorem Rot.refl(a:List Tok):Rot a a:=⟨[],a,rfl,by simp⟩
theorem Rot.trans{a b c:List Tok}(h:Rot a b)(g:Rot b c):Rot a c:=by
 obtain⟨x,y,rfl,i⟩:=h;obtain⟨z,w,f,rfl⟩:=g;rw[i]at f;rcases List.append_eq_append_iff.1 f with⟨k,d,e⟩|⟨k,d,e⟩
 subst d e;exact⟨k,w++y,by simp,by simp⟩;subst d e;exact⟨x++z,k,by simp,by simp⟩
theorem Rot.perm{a b:List Tok}(h:Rot a b):a.Perm b:=by obtain⟨x,y,rfl,rfl⟩:=h;grind
theorem Rot.mem{a b:List Tok}(h:Rot a b)(t:Tok):t∈a↔t∈b:=h.perm.mem_iff
theorem Rot.length{a b:List Tok}(h:Rot a b):a.length=b.length:=h.perm.length_eq
inductive T:List Tok->Prop
 |one (v:Int):T [.ver v]
 |add (x:Tok) (l:List Tok) (v:Int):T (x::l)->x.st≠v->.ver v∉x::l->T (x :: .arc x.st v :: .ver v :: .arc v x.st::l)
 |rot (a b:List Tok):T (a++b)->T (b++a)
theorem T.AOV{a b:List Tok}(h:T a)(r:Rot a b):T b:=by obtain⟨x,y,rfl,rfl⟩:=r;exact T.rot x y h
theorem T.facts{l:List Tok}(h:T l):l≠[]/\(∀ t∈l,.ver t.st∈l)/\(∀ u v,.arc u v∈l->.ver u∈l/\.ver v∈l/\.arc v u∈l/\u≠v):=by
 induction h with
  |one v=>exact⟨by simp,by simp[st],by simp⟩
  |add x l v h m q f=>
   obtain⟨_,g,n⟩:=f;have d:∀ t,t∈x::l->t∈x::Tok.arc x.st v :: .ver v :: .arc v x.st::l:=by grind
   have o:=d _ (g x (by simp));have c:∀ t,t∈x::Tok.arc x.st v :: .ver v :: .arc v x.st::l->t∈x::l\/t = .arc x.st v\/t = .ver v\/t = .arc v x.st:=by grind
   refine⟨by simp,fun t i => ?_,fun a b j => ?_⟩;rcases c t i with h|rfl|rfl|rfl;grind;simp[st];simp[st];exact o;·rcases c _ j with h|h|h|h;all_goals grind
  |rot a b h f=>obtain⟨r,g,n⟩:=f;have k:∀ t,t∈a++b↔t∈b++a:=fun t=>List.perm_append_comm.mem_iff;refine⟨by intro e;simp_all,fun t i=>(k _).1 (g t ((k _).2 i)),fun u v p => ?_⟩;grind
theorem T.nodup{l:List Tok}(h:T l):l.Nodup:=by
 induction h with
  |one v=>simp
  |add x l v h c e d=>obtain⟨_,_,f⟩:=h.facts;grind
  |rot a b h d=>grind
def C(l:List Tok):Prop:=∀ r,Rot l r->∀ t,r.getLast? = some t->∃ c,run ([t.st],[t.st]) r=some ([t.st],c)/\∀ x,x∈c↔.ver x∈l
end Tok
end Go.Pev.Pl
end
section
namespace Go.Pev.Pl.Tok
theorem getLast?_app{a b:List Tok}{t:Tok}(h:b.getLast? = some t):(a++b).getLast? = some t:=by grind
theorem Cd(s:List Int×List Int)(t:Tok)(l:List Tok):run s (t::l)=(step s t).bind fun s=>run s l:=by rw[run];grind
theorem aa(v:Int):Inv ([v],[v]):=⟨by simp,by simp⟩
theorem T.toC{l:List Tok}(h:T l):C l:=by
 induction h with
  |one v=>intro r I t j;have:r=[.ver v]:=List.perm_singleton.1 I.perm.symm;subst this;simp at j;subst j;exact⟨[v],by simp[run,st,step],by simp⟩
  |rot a b h K=>intro r I t j;obtain⟨c,s,A⟩:=K r (Rot.trans ⟨a,b,rfl,rfl⟩ I) t j;grind
  |add x l v h Q M K=>
   obtain⟨_,f2,R⟩:=h.facts;have m:∀ u w,Tok.arc u w∈x::l->¬ (w=v):=fun u w B e=>M (e▸(R u w B).2.1);have fin:∀ {k c:List Int},(∀ y,y∈k↔y∈c\/y=v)->(∀ y,y∈c↔.ver y∈x::l)->∀ y,y∈k↔Tok.ver y∈x :: .arc x.st v :: .ver v :: .arc v x.st::l:=by grind
   have g:∀ {w' n:List Int},Inv (x.st::w',n)->v∉n->∀ p,run (x.st::w',n) (.arc x.st v :: .ver v :: .arc v x.st::p)=run (x.st::w',v::n) p:=by
    intro w' n hi H p;have S:w'.head?≠some v:=by intro e;exact H (hi.2 v (Ab3 _ (List.mem_of_head? e)))
    rw[Cd,Jj _ _ _ _ S H,Abh,Cd,IX,Abh,Cd,MB,Abh]
   have G:∀ i f,l=f++i->∀ t,(i++x :: .arc x.st v :: .ver v :: .arc v x.st::f).getLast? = some t->∃ c,run ([t.st],[t.st]) (i++x :: .arc x.st v :: .ver v :: .arc v x.st::f)=some ([t.st],c)/\∀ y,y∈c↔.ver y∈x :: .arc x.st v :: .ver v :: .arc v x.st::l:=by
    intro i f U t j;have J:Rot (x::l) (i++x::f):=⟨x::f,i,by simp[U],rfl⟩
    have L:∃ o,(i++x::f).getLast? = some o/\o.st=t.st:=by
     cases f with
      |nil=>refine⟨x,getLast?_app (by simp),?_⟩;rw[show i++[x,Tok.arc x.st v,.ver v,.arc v x.st]=(i++[x,Tok.arc x.st v,.ver v])++[Tok.arc v x.st] by simp,List.getLast?_concat]at j;cases j;rfl
      |cons y f=>refine⟨t,?_,rfl⟩;grind
    obtain⟨o,V,W⟩:=L;obtain⟨c,s,A⟩:=K _ J o V;rw[W,show i++x::f=(i++[x])++f by simp,KP,AcK]at s;obtain⟨⟨X,n⟩,N,O⟩:=s;obtain⟨P,i2,Y⟩:=nG N (aa _);obtain⟨j1,j2,j3⟩:=nG O P;have D:=Y x (by simp);simp only at D;cases X with
     |nil=>grind
     |cons w0 w'=>
      simp at D;subst D;have H:v∉n:=fun B=>M ((A v).1 (j2 v B));obtain⟨k,E,F⟩:=Jq (Z:=(· = v)) (c2:=v::n) (low:=[]) O (by simp) (fun y=>by simp[or_comm]) (fun u w B=>m u w (by grind)) (by simp)
      refine⟨k,?_,fin F A⟩;rw[show i++x::Tok.arc x.st v :: .ver v :: .arc v x.st::f=(i++[x])++Tok.arc x.st v :: .ver v :: .arc v x.st::f by simp,KP,N,Abh,g P H];grind
   intro r I t j;obtain⟨p,q,d,rfl⟩:=I;have base:∀ o:Tok,(l++[x]).getLast? = some o->o=x:=fun o h=>by grind
   obtain⟨c,s,A⟩:=K (l++[x]) ⟨[x],l,rfl,rfl⟩ x (by simp);match p with
   |[]=>
    simp only[AbW]at d
    subst d
    have:=G [] l (by simp) t (by grind)
    simpa using this
   |[y]=>
    simp only[AbO,AbW,AbR]at d
    obtain⟨rfl,rfl⟩:=d
    have:t=x:=by
     grind
    subst this
    have H:v∉[t.st]:=by grind
    obtain⟨k,E,F⟩:=Jq (Z:=(· = v)) (c2:=[v,t.st]) (low:=[]) s (by simp) (fun y=>by simp[or_comm]) (fun u w B=>m u w (by grind)) (by simp)
    refine⟨k,?_,fin F A⟩
    rw[show(Tok.arc t.st v :: .ver v :: .arc v t.st::l)++[t]=Tok.arc t.st v :: .ver v :: .arc v t.st::(l++[t]) by simp,g (aa _) H]
    grind
   |[y,z]=>
    simp only[AbO,AbW,AbR]at d
    obtain⟨rfl,rfl,rfl⟩:=d
    have:t = .arc x.st v:=by
     rw[show(Tok.ver v :: .arc v x.st::l)++[x,.arc x.st v]=(Tok.ver v :: .arc v x.st::l++[x])++[.arc x.st v] by simp,List.getLast?_concat]at j
     grind
    subst this
    obtain⟨k,E,F⟩:=Jq (Z:=(· = v)) (c2:=[x.st,v]) (low:=[v]) s (by simp) (fun y=>by simp) (fun u w B=>m u w (by grind)) (by simp)
    refine⟨k,?_,fin F A⟩
    rw[show(Tok.ver v :: .arc v x.st::l)++[x,.arc x.st v]=Tok.ver v :: .arc v x.st::((l++[x])++[.arc x.st v]) by simp]
    rw[Cd]
    show(step ([v],[v]) _).bind _=_
    rw[IX,Abh,Cd,Jj _ _ _ _ (by simp) (by grind),Abh,KP]
    rw[show([x.st]++[v]:List Int)=[x.st,v]from rfl]at E
    rw[E,Abh,Cd,MB]
    rfl
   |[y,z,w]=>
    simp only[AbO,AbW,AbR]at d
    obtain⟨rfl,rfl,rfl,rfl⟩:=d
    have:t = .ver v:=by
     rw[show(Tok.arc v x.st::l)++[x,.arc x.st v,.ver v]=(Tok.arc v x.st::l++[x,.arc x.st v])++[.ver v] by simp,List.getLast?_concat]at j
     grind
    subst this
    obtain⟨k,E,F⟩:=Jq (Z:=(· = v)) (c2:=[x.st,v]) (low:=[v]) s (by simp) (fun y=>by simp) (fun u w B=>m u w (by grind)) (by simp)
    refine⟨k,?_,fin F A⟩
    rw[show(Tok.arc v x.st::l)++[x,.arc x.st v,.ver v]=Tok.arc v x.st::((l++[x])++[.arc x.st v,.ver v]) by simp]
    rw[Cd]
    show(step ([v],[v]) _).bind _=_
    rw[Jj _ _ _ _ (by simp) (by grind),Abh,KP]
    rw[show([x.st]++[v]:List Int)=[x.st,v]from rfl]at E
    rw[E,Abh,Cd,MB,Abh,Cd,IX]
    rfl
   |y::z::w::w2::f=>
    simp only[AbO,AbR]at d
    obtain⟨rfl,rfl,rfl,rfl,rfl⟩:=d
    exact G q f rfl t j
def comp(P:List Tok):List Int->List Tok
 |[]=>[]
 |w::r=>(if .ver w∈P then []else [.ver w])++match r with
  |[]=>[]
  |p::_=>.arc w p::comp P r
theorem TF{P b:List Tok}:∀ {a:List Int},(∀ w∈a,(Tok.ver w∈P↔Tok.ver w∈b))->comp P a=comp b a:=by
 intro a;induction a with
  |nil=>intro _;rfl
  |cons w r c=>intro h;have d:=h w (by simp);have e:=c fun x f=>h x (Ab3 _ f);simp only[comp,d,e]
theorem AYs:∀ (M P:List Tok) (d c c':List Int) (r:Int) (a:Tok),run (d,c) M=some ([r],c')->Inv (d,c)->P.getLast? = some a->d.head? = some a.st ->
  T (P++comp P d)->(∀ x,.ver x∈P++comp P d->x∈c)->(∀ x∈c',Tok.ver x∈P++M)->(P++M).Nodup->T (P++M):=by
 intro M;induction M with
  |nil=>intro P d c c' r a h hi N R n o f p;cases h;have:=f r (hi.2 r (by simp));rw[Abd]at this;simpa [comp,this]using n
  |cons t M C=>
   intro P d c c' r a h hi N R n o f p;rw[Cd,AcK]at h;obtain⟨⟨V,W⟩,O,B⟩:=h;obtain⟨k,Q,l⟩:=br O hi;have q:P++t::M=(P++[t])++M:=by simp
   rw[q]at p f |-;have D:t∉P:=by grind
   rcases HS O with⟨v,b,rfl,i,e⟩|⟨u,v,b,rfl,i,e⟩|⟨u,v,b,rfl,i,S,s,e⟩
   cases e;simp only at i;subst i;have g:comp P (v::b) = .ver v::comp (P++[.ver v]) (v::b):=by
    have y:comp P b=comp (P++[.ver v]) b:=TF fun w m=>by
     have:w≠v:=by rintro rfl;exact(Abj.1 hi.1).1 m
     grind
    simp only[comp,D,y];simp
   rw[g]at n o;exact C _ _ _ _ _ (.ver v) B k (by simp) l (by grind) (fun x U=>o x (by grind)) f p;cases e;simp only at i;subst i;have E:Tok.ver u∈P:=by
    have F:=(Abj.1 hi.1).1;obtain⟨X,_⟩:=AMp (z:=u) (c:=c.filter (·≠u)) B F (fun x=>by simp only[AbS,Aat];constructor;grind;rintro (h|rfl);exact h.1;exact hi.2 x (by simp)) (by simp)
    grind
   have g:comp P (u::v::b) = .arc u v::comp (P++[.arc u v]) (v::b):=by
    have y:comp P (v::b)=comp (P++[.arc u v]) (v::b):=TF fun w m=>by simp
    rw[<- y];simp only[comp,E];simp
   rw[g]at n o;exact C _ _ _ _ _ (.arc u v) B k (by simp) l (by grind) (fun x U=>o x (by grind)) f p;cases e;simp only at i s;subst i;have E:u=a.st:=by grind
   subst E;have G:∀ x,Tok.ver x∈P++comp P (a.st::b)->x≠v:=by grind
   have H:Tok.ver v∉P++comp P (a.st::b):=fun I=>G v I rfl;have A:Tok.ver v∉P:=fun I=>H (by simp[I]);have g:comp (P++[.arc a.st v]) (v::a.st::b) = .ver v :: .arc v a.st::comp P (a.st::b):=by
    have y:comp (P++[.arc a.st v]) (a.st::b)=comp P (a.st::b):=TF fun w m=>by simp
    rw[<- y];simp only[comp,Aa7,A,AcJ,reduceCtorEq,or_false,AbE];rfl
   have J:a.st≠v:=by rintro e;exact s (e▸hi.2 a.st (by simp))
   refine C _ _ _ _ _ (.arc a.st v) B k (by simp) l ?_ ?_ f p;rw[g];obtain⟨j,rfl⟩:∃ j,P=j++[a]:=AdW.1 N;have K:T (a::(comp (j++[a]) (a.st::b)++j)):=n.AOV ⟨j,a::comp (j++[a]) (a.st::b),by simp,by simp⟩;have L:=T.add a _ v K J (by grind)
   exact L.AOV ⟨a :: .arc a.st v :: .ver v :: .arc v a.st::comp (j++[a]) (a.st::b),j,by simp,by simp⟩;grind
def BU(l:List Tok):Prop:=∃ r a c,l = .ver r::a/\run ([r],[r]) l=some ([r],c)/\∀ x∈c,Tok.ver x∈l
theorem BU.toT{l:List Tok}(h:BU l)(d:l.Nodup):T l:=by obtain⟨r,b,c,rfl,a,e⟩:=h;rw[Cd,IX,Abh]at a;have:=AYs b [.ver r] [r] [r] c r (.ver r) a (aa r) (by simp) (by simp[st]) (by simp[comp];exact T.one r) (by simp[comp]) (by grind) (by grind);grind
theorem T.mU{r:Int}{l:List Tok}(h:T (.ver r::l)):BU (.ver r::l):=by
 obtain⟨t,d⟩:∃ t,(Tok.ver r::l).getLast? = some t:=⟨_,List.getLast?_eq_some_getLast (by simp)⟩
 obtain⟨c,b,f⟩:=h.toC _ (Rot.refl _) t d;have a:=b;rw[Cd,AcK]at a;obtain⟨s,g,_⟩:=a;have e:t.st=r:=by simp only[step]at g;grind
 rw[e]at b;exact⟨r,l,c,rfl,b,fun x i=>(f x).1 i⟩
theorem T.wO{l:List Tok}(h:T l):∃ v r,Rot l (.ver v::r):=by obtain⟨c,d,_⟩:=h.facts;obtain⟨t,e⟩:=List.exists_mem_of_ne_nil l c;obtain⟨a,b,rfl⟩:=AdC (d t e);exact⟨t.st,b++a,a,.ver t.st::b,rfl,rfl⟩
theorem T.leaf{l:List Tok}(h:T l):(∃ v,l=[.ver v])\/∃ x v r,Rot l (x :: .arc x.st v :: .ver v :: .arc v x.st::r):=by
 induction h with
  |one v=>simp
  |add x l v h f g d=>exact .inr ⟨x,v,l,Rot.refl _⟩
  |rot a b h d=>
   rcases d with⟨v,e⟩|⟨x,v,r,c⟩
   have c:Rot [.ver v] (b++a):=⟨a,b,e.symm,rfl⟩
   exact .inl ⟨v,List.perm_singleton.1 c.perm.symm⟩;exact .inr ⟨x,v,r,Rot.trans ⟨b,a,rfl,rfl⟩ c⟩
def O0:List Tok->List Int
 |[]=>[]
 |.ver v::l=>v::O0 l
 |.arc _ _::l=>O0 l
theorem UD{v:Int}:∀ {l:List Tok},v∈O0 l↔.ver v∈l
 |[]=>by simp[O0]
 |.ver w::l=>by simp[O0,UD (l:=l)]
 |.arc _ _::l=>by simp[O0,UD (l:=l)]
theorem rl(a b:List Tok):O0 (a++b)=O0 a++O0 b:=by
 induction a with
  |nil=>rfl
  |cons t a c=>cases t<;>simp[O0,c]
theorem T.len{l:List Tok}(h:T l):l.length+2=3*(O0 l).length:=by
 induction h with
  |one v=>rfl
  |add x l v h d e c=>cases x<;>simp[O0]at c |-<;>omega
  |rot a b h c=>simp only[rl,Aa3]at c |-;omega
end Go.Pev.Pl.Tok
end
section
namespace Go.Pev.Pl
section
variable {β:Type}
def CA(a:List (Int×β)):List Int:=a.map Prod.fst
theorem Xd(a:List (Int×β)):(CA a).length=a.length:=by simp[CA]
theorem FM(c:List (Int×β))(k:Int)(v:β)(j:Int):A_ (BH c k v) j=if j=k then some v else A_ c j:=by
 induction c with
  |nil=>simp only[BH,A_];grind
  |cons e c d=>obtain⟨a,b⟩:=e;simp only[BH];by_cases h:a=k;subst h;simp only[Abc,A_];grind;simp only[h,AbE,A_,d];grind
theorem Su(c:List (Int×β))(k:Int)(v:β):CA (BH c k v)=if k∈CA c then CA c else CA c++[k]:=by
 induction c with
  |nil=>rfl
  |cons e c d=>
   obtain⟨a,b⟩:=e;simp only[BH];by_cases h:a=k;subst h;simp[CA];simp only[h,AbE];show a::CA (BH c k v)=_;rw[d];have:k∈CA ((a,b)::c)↔k∈CA c:=by simp[CA,Acd h]
   simp only[this];split<;>rfl
theorem Yr(c:List (Int×β))(k:Int):A_ c k=none↔k∉CA c:=by
 induction c with
  |nil=>simp[A_,CA]
  |cons e c d=>obtain⟨a,b⟩:=e;simp only[A_];by_cases h:a=k;simp[h,CA];simp only[h,AbE,d];simp[CA,Acd h]
theorem Gi(a:List (Int×β))(k:Int)(v:β)(j:Int):j∈CA (BH a k v)↔j=k\/j∈CA a:=by rw[Su];grind
theorem MX{a:List (Int×β)}(h:(CA a).Nodup)(k:Int)(v:β):(CA (BH a k v)).Nodup:=by rw[Su];grind
end
def dd:List Int->List Int->List Int
 |ks,[]=>ks
 |ks,x::xs=>dd (if x∈ks then ks else ks++[x]) xs
theorem AZC:∀ (xs a:List Int),(dd a xs).length<=a.length+xs.length/\((dd a xs).length=a.length+xs.length↔xs.Nodup/\∀ x∈xs,x∉a):=by
 intro xs;induction xs with
  |nil=>intro a;simp[dd]
  |cons x xs b=>intro a;rw[dd];by_cases h:x∈a;grind;obtain⟨c,d⟩:=b (a++[x]);grind
theorem AQQ(xs:List Int):(dd [] xs).length=xs.length↔xs.Nodup:=by have:=(AZC xs []).2;grind
theorem CV{α β ρ:Type}(g:β->α->α)(fin:α->ρ):∀ (xs:List β) (a:α),walk (fun x a=>.inl (g x a)) fin xs a=fin (xs.foldl (fun a x=>g x a) a):=by
 intro xs;induction xs with
  |nil=>intro a;rfl
  |cons x xs b=>intro a;rw[walk,Abu];grind
theorem HK{σ ρ β:Type}{step:σ->Option (σ⊕ρ)}(st:Nat->σ)(xs:List β)(P:β->Bool)(b:Nat->ρ)(c:ρ)(d:xs.length<9223372036854775808)
  (h:∀ i x,i<xs.length->xs[i]? = some x->step (st i)=if P x then some (.inr (b i))else some (.inl (st (i+1)))) (g:step (st xs.length)=some (.inr c)) :
  A' step many (st 0)=some (if xs.any P then b (xs.findIdx P)else c):=by
 have e:∀ (l:List β) (a:Nat),walk (fun x (a:Nat)=>if P x then .inr (b a)else .inl (a+1)) (fun _=>c) l a=if l.any P then b (a+l.findIdx P)else c:=by
  intro l;induction l with
   |nil=>intro a;rfl
   |cons x l j=>intro a;rw[walk,List.any_cons,List.findIdx_cons];grind
 have:=EC (step:=step) (fun i (a:Nat)=>st a) xs (fun x (a:Nat)=>if P x then .inr (b a)else .inl (a+1)) (fun _=>c) (fun i a=>a=i) d
  (fun i x a hi k f=>by
   grind)
  (fun a f=>by grind) 0 rfl
 grind
theorem BA{α:Type}{xs:List α}{n:Nat}{x:α}(h:xs[n]? = some x):idx xs (n:Int)=some x:=by rw[oY,h]
theorem CQ{α:Type}{xs:List α}{n:Nat}{x z:α}(h:xs[n]? = some x):A9 xs (A4 (n:Int)) z=x:=by rw[Lr,AbG,h];rfl
theorem bp{α:Type}{xs:List α}{h:Nat}(a:h<=xs.length):EX xs (0:Int) (h:Int)=some (xs.take h):=by have:=ma (xs:=xs) (l:=0) (Acq h) a;grind
theorem Ti{α:Type}{xs:List α}{l:Nat}(a:l<=xs.length):EX xs (l:Int) (A2 xs)=some (xs.drop l):=by have:=ma (xs:=xs) a (Aax _);rw[AbM]at this;exact this
def pos(xs:List Int)(t:Int):Int:=if t∈xs then((xs.findIdx (fun x=>decide (x=t)):Nat):Int)else -1
theorem AVn(xs:List Int)(t:Int):(xs.any fun x=>decide (x=t))=decide (t∈xs):=by grind
theorem ANI{xs:List Int}{t:Int}(h:t∈xs):∃ k:Nat,pos xs t=(k:Int)/\k<xs.length/\xs[k]? = some t/\xs=xs.take k++t::xs.drop (k+1)/\t∉xs.take k:=by
 have a:xs.findIdx (fun x=>decide (x=t))<xs.length:=AdH.2 ⟨t,h,by simp⟩;have b:xs[xs.findIdx (fun x=>decide (x=t))]'a=t:=by grind
 refine⟨_,by rw[pos,Aa5 h],a,by grind,?_,?_⟩;·conv=>lhs;rw[<- Abv (xs.findIdx (fun x=>decide (x=t))) xs,Abl a,b]
 intro c;obtain⟨j,d,e⟩:=AdX.1 c;grind
theorem ADv{xs:List Int}{t:Int}(h:t∉xs):pos xs t = -1:=by rw[pos,Aa2 h]
end Go.Pev.Pl
end
section
section
namespace Go.Pev.Pl
open Tok
def In(n v:Int):Prop:=1<=n/\n<=64/\0<=v/\v<n
instance (n v:Int):Decidable (In n v):=inferInstanceAs (Decidable (_/\_))
def Sz(n:Int):Prop:=1<=n/\n<=64
instance (n:Int):Decidable (Sz n):=inferInstanceAs (Decidable (_/\_))
theorem NT(n:Int):SO (n,())=some (decide (Sz n),()):=by rw[jI,bS];simp only[BR];by_cases a:1<=n<;>by_cases b:n<=64<;>simp[Sz,a,b]
theorem Zm(n v:Int):tin (n,v,())=some (decide (In n v),()):=by rw[ALm,ALn];simp only[NT,BR,BF];by_cases a:1<=n<;>by_cases b:n<=64<;>by_cases c:0<=v<;>simp[In,Sz,a,b,c]
def AaU(n v:Int):Int:=if In n v then v else -1
def Ry(n u v:Int):Int:=if In n u/\In n v/\u≠v then n*(u+1)+v else -1
theorem Nl{n u:Int}(d:1<=n)(b:n<=64)(a:0<=u)(c:u<=64):0<=n*u/\n*u<=4096:=by refine⟨Int.mul_nonneg (by omega) a,?_⟩;have:=Int.mul_le_mul b c a (by omega);omega
theorem ALr(n u v:Int):ALt (n,u,v,())=some (Ry n u v,()):=by rw[ADY,yZ];simp only[Zm,Ry,BI];by_cases a:u=v;simp[a];by_cases b:In n u;by_cases c:In n v;obtain⟨d,e,f,g⟩:=b;obtain⟨h,i,j,k⟩:=c;have l:=Nl (u:=u+1) d e (by omega) (by omega);rw[BM (n:=u+1) (by omega),BM (n:=n*(u+1)) (by omega),BM (n:=n*(u+1)+v) (by omega)];grind;grind;grind
def GZ(n t:Int):Option Tok:=
 if In n t then some (.ver t)
 else if Sz n/\n<=t/\t<n*(n+1)/\t/n-1≠t % n then some (.arc (t/n-1) (t % n))
 else none
def yP:Option Tok->Int×Int×Bool×Bool×Unit
 |some (.ver v)=>(v,0,false,true,())
 |some (.arc u v)=>(u,v,true,true,())
 |none=>(0,0,false,false,())
def Il(n:Int):Tok->Int
 |.ver v=>v
 |.arc u v=>n*(u+1)+v
def okT(n:Int):Tok->Prop
 |.ver v=>In n v
 |.arc u v=>In n u/\In n v/\u≠v
theorem aN{n u v:Int}(c:In n u)(d:In n v):n<=n*(u+1)+v/\n*(u+1)+v<n*(n+1)/\(n*(u+1)+v)/n=u+1/\(n*(u+1)+v) % n=v:=by
 obtain⟨e,f,h,i⟩:=c;obtain⟨j,k,a,b⟩:=d;have l:n*(u+1)=n*u+n:=by grind
 have m:n*(n+1)=n*n+n:=by grind
 have o:=Nl (u:=u) e f (by omega) (by omega);have g:n*(u+1)<=n*n:=Int.mul_le_mul_of_nonneg_left (by omega) (by omega);have hd:(n*(u+1)+v)/n=u+1:=by rw[Int.add_comm,Int.add_mul_ediv_left _ _ (by omega),Int.ediv_eq_zero_of_lt a b];omega
 have p:(n*(u+1)+v) % n=v:=by rw[Int.add_comm,Int.add_mul_emod_self_left,Int.emod_eq_of_lt a b]
 omega
theorem AE9{n t:Int}(c:Sz n)(f:n<=t)(g:t<n*(n+1)):In n (t/n-1)/\In n (t % n)/\n*(t/n-1+1)+t % n=t:=by obtain⟨a,b⟩:=c;have h:1<=t/n:=(Int.le_ediv_iff_mul_le (by omega)).2 (by omega);have i:t/n<n+1:=(Int.ediv_lt_iff_lt_mul (by omega)).2 (by grind);have d:=Int.emod_nonneg t (show n≠0 by omega);have e:=Int.emod_lt_of_pos t (show 0<n by omega);have j:=Int.mul_ediv_add_emod t n;refine⟨⟨a,b,by omega,by omega⟩,⟨a,b,d,e⟩,?_⟩;grind
theorem HN{n:Int}{t:Tok}(h:okT n t):GZ n (Il n t)=some t:=by
 cases t with
  |ver v=>simp only[okT]at h;simp[GZ,Il,h]
  |arc u v=>
   obtain⟨a,c,d⟩:=h;obtain⟨e,f,g,i⟩:=aN a c;have b:¬ In n (n*(u+1)+v):=fun h=>by have:=h.2.2.2;omega
   have:u+1-1=u:=by omega
   simp only[GZ,Il,b,AbE,g,i,this];rw[Aa5 ⟨⟨a.1,a.2.1⟩,e,f,d⟩]
theorem AJh{n x:Int}{t:Tok}(h:GZ n x=some t):okT n t/\Il n t=x:=by rw[GZ]at h;split at h;cases h;exact⟨by assumption,rfl⟩;split at h;rename_i a;cases h;obtain⟨b,c,d⟩:=AE9 a.1 a.2.1 a.2.2.1;exact⟨⟨b,c,a.2.2.2⟩,d⟩;grind
theorem Ky{n u v:Int}(h:okT n (.arc u v)):Ry n u v=Il n (.arc u v):=by simp only[okT]at h;rw[Ry,Aa5 h];rfl
theorem VN{n:Int}{a b:Tok}(c:okT n a)(d:okT n b)(h:Il n a=Il n b):a=b:=by have:=HN c;rw[h,HN d]at this;grind
theorem yO(n t:Int)(m:-9223372036854775808<=t/\t<=9223372036854775807):mR (n,t,())=some (yP (GZ n t)):=by
 rw[jH,bR];simp only[NT];by_cases f:Sz n;obtain⟨c,d⟩:=f;have o:=Nl (u:=n) c d (by omega) (by omega);have p:n*(n+1)=n*n+n:=by grind
 rw[BM (n:=n+1) (by omega),BM (n:=n*(n+1)) (by omega)];simp only[Sz,c,d,and_self,Aa6,Aav,BF,BR];by_cases i:t<0;have a:¬ In n t:=fun h=>by have:=h.2.2.1;omega
 have e:¬ n<=t:=by omega
 simp only[i,Aa6,GZ,a,AbE,e,Adc,and_false,yP];simp only[i,AbV];by_cases e:n*(n+1)<=t;have a:¬ In n t:=fun h=>by have:=h.2.2.2;omega
 have b:¬ t<n*(n+1):=by omega
 simp only[e,Aa6,GZ,a,AbE,b,Adc,and_false,yP];simp only[e,AbV];by_cases b:t<n;have hi:In n t:=⟨c,d,by omega,b⟩
 simp only[b,Aa6,GZ,hi,Abc,yP];have a:¬ In n t:=fun h=>b h.2.2.2;have k:t.tdiv n=t/n:=Acv (by omega);have l:t.tmod n=t % n:=Int.tmod_eq_emod_of_nonneg (by omega);obtain⟨j,q,r⟩:=AE9 (t:=t) ⟨c,d⟩ (by omega) (by omega);have s:=j.2.2.1;have v:=j.2.2.2;simp only[b,AbV,Se,nS,cg,zS];rw[Aa2 (by omega),Aa2 (by omega),k,l,bA (n:=t/n) (by omega)];simp only[];rw[BM (n:=t/n-1) (by omega),BI,GZ,Aa2 a];by_cases g:t/n-1=t % n;rw[Aa2 (by omega),Aar g];rfl;rw[Aa5 ⟨⟨c,d⟩,by omega,by omega,g⟩,Aaq g];rfl;have a:¬ In n t:=fun h=>f ⟨h.1,h.2.1⟩;simp only[f,AbV,AbF,GZ,a,AbE,Adc,yP]
def DK(n:Nat):List (List Int):=(List.range n).map fun(v:Nat)=>[(v:Int)]
theorem mq(n:Nat):DK (n+1)=DK n++[[(n:Int)]]:=by simp[DK,AbJ]
theorem sP(n:Nat):(DK n).length=n:=by simp[DK]
theorem yQ(N:Nat)(b:N<=64)(c:Int):∀ (k i n:Nat),i+k=N->k<n->BK O4 n (c,(N:Int),DK i,(N:Int),(i:Int),())=some (.inl (c,(N:Int),DK N,())):=by
 intro k;induction k with
  |zero=>
   intro i n hi a;obtain⟨n,rfl⟩:∃ k,n=k+1:=⟨n-1,by omega⟩
   have:i=N:=by omega
   subst this;rw[BK,O4,A3,Aaq (by omega)]
  |succ k d=>
   intro i n hi a;obtain⟨n,rfl⟩:∃ k,n=k+1:=⟨n-1,by omega⟩
   rw[BK,O4,A3,Aar (by omega)];simp only[A7,sP,Aa1,Aa8];rw[CM (by omega),A6 (by omega)];simp only[ES,<- mq];grind
def Z_(n:Int):Int×List (List Int)×Int×Unit:=if Sz n then(n,DK n.toNat,0,())else(0,[],1,())
theorem AF2(n:Int):ADU (n,())=some (Z_ n):=by
 have c:4294967296<many:=by simp only[many];omega
 rw[ry,mW,Z_];simp only[NT];by_cases h:Sz n;obtain⟨d,f⟩:=h;obtain⟨N,rfl⟩:=Aaw (show 0<=n by omega);have a:Sz (N:Int):=⟨by omega,by omega⟩
 have e:=yQ N (by omega) 0 N 0 many (by omega) (by omega);have b:BK O4 many (0,(N:Int),[],(N:Int),(0:Int),())=_:=e;simp[a,Bo,b];grind
end Go.Pev.Pl
end
section
namespace Go.Pev.Pl
theorem S1(xs:List Int)(t:Int)(a:xs.length<9223372036854775808):Xj (xs,t,())=some (pos xs t,()):=by
 rw[kP,dz]
 have e:=HK (step:=Ml) (fun i=>(xs,t,A2 xs,(i:Int),())) xs (fun x=>decide (x=t)) (fun i=>.inl ((i:Int),())) (.inr (.inl ())) a
  (fun i x hi b=>by
   rw[Ml,A7,A3,Aar hi]
   simp only[BA b,BI]
   by_cases h:x=t
   ·simp[h]
   ·simp only[h,Acd h,AbV];rw[A6 (by omega)];simp)
  (by rw[Ml,A7,A3,Aaq (by omega)])
 have c:A' Ml many (xs,t,A2 xs,(0:Int),())=_:=e;rw[c,AVn,pos];grind
theorem Ls(xs:List Int)(t:Int)(a:xs.length<9223372036854775808):J9 (xs,t,())=some (decide (t∈xs),()):=by rw[VV,P5];simp only[S1 xs t a,BR];by_cases h:t∈xs;obtain⟨k,e,_⟩:=ANI h;rw[e];simp[h];rw[ADv h];simp[h]
def Rt(xs:List Int):Prop:=xs.length<=1000/\(∀ x∈xs,0<=x/\x<=10000)/\xs.Nodup
instance (xs:List Int):Decidable (Rt xs):=inferInstanceAs (Decidable (_/\_/\_))
theorem wN(xs:List Int)(a:xs.length<9223372036854775808):IE (xs,())=some (xs.any (fun x=>decide (x<0)||decide (10000<x)),()):=by
 rw[M7,I6,Oe,Kh]
 have e:=HK (step:=Ea) (fun i=>(xs,A2 xs,(i:Int),())) xs (fun x=>decide (x<0)||decide (10000<x)) (fun i=>.inl ((i:Int),())) (.inr (.inl ())) a
  (fun i x hi c=>by
   rw[Ea,A7,A3,Aar hi]
   simp only[BA c,BF]
   rw[A6 (by omega)]
   grind)
  (by rw[Ea,A7,A3,Aaq (by omega)])
 have d:A' Ea many (xs,A2 xs,(0:Int),())=_:=e;rw[d];generalize (xs.any fun x=>decide (x<0)||decide (10000<x))=b;cases b<;>simp[BR]
theorem AOU(xs:List Int)(c:xs.length<9223372036854775808):once (xs,())=some (decide xs.Nodup,()):=by
 rw[AER,AAz]
 have e:=EC (step:=T_) (fun i m=>(xs,m,xs,A2 xs,(i:Int),())) xs (fun x m=>.inl (BH m x (w64 (((A_ m x).getD (0:Int))+(1:Int))))) (fun m=>.inl (xs,m,())) (fun _ _=>True) c
  (fun i x m hi d _=>by
   refine⟨fun j a => ?_,fun r a=>by cases a⟩
   cases a
   rw[T_,A7,A3,Aar hi]
   simp only[BA d]
   rw[A6 (by omega)]
   simp)
  (fun m _=>by rw[T_,A7,A3,Aaq (by omega)]) [] trivial
 have f:A' T_ many (xs,([]:List (Int×Int)),xs,A2 xs,(0:Int),())=_:=e;rw[f,CV];have b:∀ (l:List Int) (m:List (Int×Int)),CA (l.foldl (fun m x=>BH m x (w64 (((A_ m x).getD (0:Int))+(1:Int)))) m)=dd (CA m) l:=by
  intro l;induction l with
   |nil=>intro m;rfl
   |cons x l g=>intro m;rw[Abu,g,Su,dd]
 have h:=b xs [];generalize xs.foldl (fun m x=>BH m x (w64 (((A_ m x).getD (0:Int))+(1:Int)))) []=m at *;simp only[APA];have:m.length=(dd [] xs).length:=by rw[<- Xd,h];rfl
 rw[this];simp only[AQQ]
theorem Sb(xs:List Int):XH (xs,())=some (decide (Rt xs),()):=by
 rw[jl,cY,A7,BF];by_cases d:xs.length<=1000;rw[Aaq (by omega)];simp only[wN xs (by omega),AOU xs (by omega)];have a:(xs.any fun x=>decide (x<0)||decide (10000<x)) = !decide (∀ x∈xs,0<=x/\x<=10000):=by grind
 rw[a];by_cases b:∀ x∈xs,0<=x/\x<=10000;rw[Aar b];by_cases c:xs.Nodup;rw[Aar c,Aar (show Rt xs from⟨d,b,c⟩)];rfl;rw[Aaq c,Aaq (show ¬ Rt xs from fun h=>c h.2.2)];rfl;rw[Aaq b,Aaq (show ¬ Rt xs from fun h=>b h.2.1)];rfl;rw[Aar (by omega),Aaq (show ¬ Rt xs from fun h=>d h.1)]
def rot(xs:List Int)(k:Nat):List Int:=xs.drop k++xs.take k
theorem AJN(n:Nat)(e:n<4294967296):AEn ((n:Int),())=some ([],()):=by
 have a:w64 ((n:Int)-w64 ((0:Int)-0))=(n:Int):=by rw[BM (n:=(0:Int)-0) (by omega),BM (by omega)];omega
 rw[vT,ou];simp only[a,BF];rw[Aaq (by omega)];simp only[];by_cases h:0<n;rw[Aar (by omega)];have b:EX ([]:List Unit) (0:Int) (0:Int)=some []:=by rw[Zn];rfl
 have c:EX (Df (A4 (n:Int)) (0:Int)) (0:Int) (0:Int)=some []:=by rw[Zn,sE,Aa5 (by omega)];simp
 have d:CY (n:Int)=true:=(J3 _).2 (by omega);simp only[b,c,d];rfl;grind
theorem LP{α:Type}{a:List (List α)}{i:Nat}{x:List α}(h:a[i]? = some x):(a.take (i+1)).flatten=(a.take i).flatten++x:=by rw[Adk,h];simp
theorem Og{α:Type}(a:List (List α))(i:Nat):(a.take i).flatten.length<=a.flatten.length:=by
 conv=>rhs;rw[<- Abv i a,AdS,Aa3]
 omega
theorem ZA(b:List (List Int))(t:b.length<4294967296)(h:b.flatten.length<4294967296):RB (b,())=some (b.flatten,()):=by
 rw[fK,X8]
 have e:=EC (step:=Kt) (fun i (a:Nat)=>(b,(a:Int),b,A2 b,(i:Int),())) b (fun x a=>.inl (a+x.length)) (fun a=>.inl (b,(a:Int),())) (fun i a=>a=(b.take i).flatten.length) (by omega)
  (fun i x a hi d n=>by
   refine⟨fun o c => ?_,fun r c=>by cases c⟩
   cases c
   have j:=LP d
   have k:=Og b (i+1)
   rw[j,Aa3]at k
   rw[Kt]
   simp only[A7]
   rw[A3,Aar hi]
   simp only[BA d]
   rw[wrap_add (by omega),A6 (by omega),BF,Aaq (by omega)]
   grind)
  (fun a _=>by rw[Kt,A7,A3,Aaq (by omega)]) 0 rfl
 have p:A' Kt many (b,(0:Int),b,A2 b,(0:Int),())=_:=e;rw[p,CV];have f:∀ (l:List (List Int)) (a:Nat),l.foldl (fun a x=>a+x.length) a=a+l.flatten.length:=by
  intro l;induction l with
   |nil=>simp
   |cons x l q=>grind
 rw[f,Abo];simp only[AJN _ h]
 have g:=EC (step:=Ks) (fun i (a:List Int)=>(a,b,A2 b,(i:Int),())) b (fun x a=>.inl (a++x)) (fun a=>.inl (a,())) (fun i a=>a=(b.take i).flatten) (by omega)
  (fun i x a hi d n=>by
   refine⟨fun o c => ?_,fun r c=>by cases c⟩
   cases c
   have j:=LP d
   have k:=Og b (i+1)
   rw[j,Aa3]at k
   rw[Ks]
   simp only[A7]
   rw[A3,Aar hi]
   simp only[BA d]
   rw[A6 (by omega),CM (by grind)]
   exact⟨rfl,by grind⟩)
  (fun a _=>by rw[Ks,A7,A3,Aaq (by omega)]) [] rfl
 have s:A' Ks many ([],b,A2 b,(0:Int),())=_:=g;rw[s,CV];have m:∀ (l:List (List Int)) (a:List Int),l.foldl (fun a x=>a++x) a=a++l.flatten:=by
  intro l;induction l with
   |nil=>simp
   |cons x l q=>grind
 grind
theorem bO(xs:List Int)(k:Nat)(a:k<=xs.length)(b:xs.length<2147483648):bQ (xs,(k:Int),())=some (rot xs k,()):=by rw[jG,bP];simp only[Ti a,bp a];rw[ZA _ (by simp) (by grind)];simp[rot]
def DH(xs:List Int)(t:Int):List Int:=rot xs (xs.findIdx (fun x=>decide (x=t)))
def pD(xs:List Int)(t:Int):List Int×Bool×Unit:=if Rt xs/\t∈xs then(DH xs t,true,())else([],false,())
theorem cb{xs:List Int}{t:Int}(h:t∈xs):∃ a b,xs=a++t::b/\t∉a/\DH xs t=t::b++a:=by
 obtain⟨k,e,g,i,c,d⟩:=ANI h;rw[pos,Aa5 h]at e;have f:xs.findIdx (fun x=>decide (x=t))=k:=by omega
 refine⟨_,_,c,d,?_⟩;rw[DH,f,rot];grind
theorem AGv(xs:List Int)(t:Int):su (xs,t,())=some (pD xs t):=by
 rw[ss,nL,jy,c7,pD];simp only[Sb];by_cases c:Rt xs;have n:=c.1;simp only[c,Aa6,Aav,Ade];have e:A' Ju many (xs,[],[t],A2 [t],(0:Int),())=some (.inl ([pos xs t],())):=by
  have g:=EC (step:=Ju) (fun i (a:List Int)=>(xs,a,[t],A2 [t],(i:Int),())) [t] (fun x a=>.inl (a++[pos xs x])) (fun a=>.inl (a,())) (fun i a=>a.length=i) (by simp)
   (fun i x a hi d f=>by
    refine⟨fun o b => ?_,fun r b=>by cases b⟩
    cases b
    rw[Ju,A7,A3,Aar hi]
    simp only[BA d,S1 xs x (by omega)]
    simp only[Aa1,Aa8]at hi
    rw[A6 (by omega),CM (by simp only[A7,Aa1,Aa8];omega)]
    exact⟨rfl,by simp[f]⟩)
   (fun a _=>by rw[Ju,A7,A3,Aaq (by omega)]) [] rfl
  have j:A' Ju many (xs,[],[t],A2 [t],(0:Int),())=_:=g;rw[j];rfl
 rw[e];simp only[Ls [pos xs t] (-1) (by simp)];by_cases h:t∈xs;have p:xs.findIdx (fun x=>decide (x=t))<xs.length:=AdH.2 ⟨t,h,by simp⟩;rw[pos,Aa5 h,Aa5 h,DH];generalize xs.findIdx (fun x=>decide (x=t))=k at *;rw[Aaq (by simp)];have l:idx [(k:Int)] (0:Int)=some (k:Int):=by rw[Ke];rfl
 have m:A9 [(k:Int)] 0 (0:Int)=(k:Int):=rfl;simp only[AbF,Aav,l,m,bO xs k (by omega) (by omega)];rw[ADv h,Aa2 h];simp;grind
def Pd:List Int->Int
 |[]=>0
 |x::xs=>xs.foldl (fun a y=>C8 a y) x
theorem ABx:∀ (xs:List Int) (a:Int),(xs.foldl (fun a y=>C8 a y) a)<=a/\(∀ x∈xs,xs.foldl (fun a y=>C8 a y) a<=x)/\(xs.foldl (fun a y=>C8 a y) a=a\/xs.foldl (fun a y=>C8 a y) a∈xs):=by
 intro xs;induction xs with
  |nil=>simp
  |cons x xs b=>
   intro a;rw[Abu];obtain⟨c,d,e⟩:=b (C8 a x);have f:C8 a x<=a/\C8 a x<=x/\(C8 a x=a\/C8 a x=x):=by rw[C8];omega
   grind
theorem Hf{xs:List Int}(h:xs≠[]):Pd xs∈xs/\∀ x∈xs,Pd xs<=x:=by
 cases xs with
  |nil=>grind
  |cons x xs=>obtain⟨b,c,d⟩:=ABx xs x;refine⟨?_,fun y a => ?_⟩;rcases d with h|h;rw[Pd,h];simp;exact Ab3 _ h;rcases AbD.1 a with rfl|a;exact b;exact c y a
theorem ATw{xs:List Int}{m:Int}(a:m∈xs)(b:∀ x∈xs,m<=x):Pd xs=m:=by obtain⟨c,d⟩:=Hf (List.ne_nil_of_mem a);grind
theorem uv(xs:List Int)(h:xs≠[])(c:xs.length<9223372036854775808):AOd (xs,())=some (Pd xs,()):=by
 cases xs with
  |nil=>grind
  |cons x xs=>
   rw[AEY,AA4,A7,BF,Aaq (by grind)];have d:idx (x::xs) (0:Int)=some x:=by rw[Ke];rfl
   simp only[d];simp only[Aa1]at c
   have e:=EC (step:=UC) (fun i (a:Int)=>(x::xs,a,((i+1:Nat):Int),())) xs (fun y a=>.inl (C8 a y)) (fun a=>.inl (a,())) (fun _ _=>True) (by omega)
    (fun i y a hi f _=>by
     refine⟨fun j b => ?_,fun r b=>by cases b⟩
     cases b
     rw[UC,A7,A3,Aar (by grind)]
     simp only[BA (xs:=x::xs) (n:=i+1) (by simpa using f)]
     rw[A6 (by omega)]
     simp)
    (fun a _=>by rw[UC,A7,A3,Aaq (by simp)]) x trivial
   have g:A' UC many (x::xs,x,(1:Int),())=_:=e;rw[g,CV];rfl
def plain(xs:List Int):List Int:=if Rt xs/\xs≠[]then DH xs (Pd xs)else []
theorem zJ(xs:List Int):nJ (xs,())=some (plain xs,()):=by
 rw[jm,cZ,plain];simp only[Sb];by_cases a:Rt xs;have d:=a.1;simp only[a,Aa6,Aav,Ade];by_cases h:xs=[]
 subst h;simp[A7,DF];have e:0<xs.length:=List.length_pos_iff.2 h;rw[A7,BI,Aaq (by omega)];have b:=(Hf h).1;have c:xs.findIdx (fun x=>decide (x=Pd xs))<xs.length:=AdH.2 ⟨_,b,by simp⟩;simp only[uv xs h (by omega),S1 xs _ (show xs.length<9223372036854775808 by omega)];rw[pos,Aa5 b,Aa5 (by omega),DH];simp only[bO xs _ (Acj c) (by omega)];grind
theorem cy{xs:List Int}(c:Rt xs)(h:xs≠[]):∃ a b,xs=a++Pd xs::b/\plain xs=Pd xs::b++a:=by obtain⟨a,b,d,_,e⟩:=cb (Hf h).1;exact⟨a,b,d,by rw[plain,Aa5 ⟨c,h⟩,e]⟩
end Go.Pev.Pl
end
section
namespace Go.Pev.Pl
open Tok
def TI(n:Int)(xs:List Int):Prop:=∃ L,xs=L.map (Il n)/\(∀ t∈L,okT n t)/\T L
noncomputable instance (n:Int) (xs:List Int):Decidable (TI n xs):=Classical.propDecidable _
abbrev AC2:=List Int×List (Int×Int)×List (Int×Int)
abbrev AXY:=(Bool×Unit)⊕(List Int×List (Int×Int)×List (Int×Int)×Unit)⊕Unit
def goF(n x:Int)(s:AC2):AC2⊕AXY:=
 match GZ n x with
 |none=>.inr (.inl (false,()))
 |some t=>match Tok.step (s.1,CA s.2.1) t with
  |none=>.inr (.inl (false,()))
  |some a=>match t with
   |.ver v=>.inl (a.1,s.2.1,BH s.2.2 v (w64 (((A_ s.2.2 v).getD (0:Int))+(1:Int))))
   |.arc _ v=>.inl (a.1,if v∈CA s.2.1 then s.2.1 else BH s.2.1 v 1,s.2.2)
def one(a:List (Int×Int)):Prop:=∀ k,(0<(A_ a k).getD (0:Int))↔k∈CA a
theorem AH8{a:List (Int×Int)}(h:one a)(v:Int):one (BH a v 1):=by intro k;rw[FM,Gi];by_cases e:k=v;simp[e];simp only[e,AbE,false_or];exact h k
theorem AJQ(n:Int)(xs:List Int)(i:Nat)(x:Int)(B:xs[i]? = some x)(hi:i<xs.length)(H:xs.length<4294967296)(g:-9223372036854775808<=x/\x<=9223372036854775807)
  (w:Int) (r:List Int) (b met:List (Int×Int)) (I:r.length<4294967295) (k:one b) (d:∀ y∈w::r,y∈CA b) :
  Q0 (n,(w::r).reverse,b,met,xs,A2 xs,(i:Int),())=match goF n x (w::r,b,met)with
   |.inl s=>some (.inl (n,s.1.reverse,s.2.1,s.2.2,xs,A2 xs,((i+1:Nat):Int),()))
   |.inr y=>some (.inr y):=by
 have hd:A2 ((w::r).reverse)=((r.length+1:Nat):Int):=by simp[A7]
 have l:w64 (((r.length+1:Nat):Int)-1)=(r.length:Int):=by rw[B9 (by omega)];rfl
 have m:idx ((w::r).reverse) (r.length:Int)=some w:=by rw[oY];simp
 have o:A9 ((w::r).reverse) (A4 (r.length:Int)) (0:Int)=w:=by rw[Lr];simp
 have q:∀ v:Int,fits (A2 ((w::r).reverse)+A2 [v])=true:=fun v=>CM (by rw[hd,A7];grind);have J:∀ v:Int,B2 ((w::r).reverse) [v]=(v::w::r).reverse:=fun v=>by simp[ES]
 rw[Q0,A7,A3,Aar hi];rw[A7]at hd;simp only[BA B,yO n x g,goF];cases K:GZ n x with
  |none=>rfl
  |some t=>
   cases t with
    |ver v=>simp only[yP,Aav,AbF,A7,hd,l,m,o,BI,Tok.step];rw[A6 (by omega)];grind
    |arc u v=>
     simp only[yP,Aav,A7,hd,l,m,o,BI,Tok.step];rw[A6 (by omega)];by_cases h:w=u;subst h;rw[Aar rfl];simp only[Aav];cases r with
      |nil=>
       have z:ilt (0:Int) ((([]:List Int).length:Nat):Int)=false:=by rw[BF];rfl
       simp only[z];rw[BF];have c:=k v;by_cases e:v∈CA b;grind;rw[Aaq (fun h=>e (c.1 h))];have f:=q v;rw[A7,hd]at f;have C:(A_ b v).getD (0:Int)=0:=by rw[(Yr b v).2 e];rfl
       have D:w64 ((0:Int)+1)=1:=by rw[BM (by omega)];rfl
       rw[A7]at f;grind
      |cons p r=>
       have z:ilt (0:Int) (((p::r).length:Nat):Int)=true:=by rw[BF,Aar (by simp)]
       have E:w64 ((((p::r).length:Nat):Int)-1)=(r.length:Int):=by rw[B9 (by grind)];rfl
       have F:idx ((w::p::r).reverse) (r.length:Int)=some p:=by rw[oY];simp
       have G:A9 ((w::p::r).reverse) (A4 (r.length:Int)) (0:Int)=p:=by rw[Lr];simp
       simp only[z,E,F,G];by_cases j:p=v;subst j;rw[Aar rfl];have A:p∈CA b:=d p (by simp);have L:EX ((w::p::r).reverse) (0:Int) (((p::r).length:Nat):Int)=some ((p::r).reverse):=by rw[bp (by simp)];grind
       have M:C5 (A4 (((p::r).reverse.length:Nat):Int)) ((w::p::r).reverse)=(p::r).reverse:=by rw[C5,fB,List.reverse_cons (a:=w),List.take_left' rfl]
       grind;rw[Aaq j];simp only[j,AbE];rw[BF];have c:=k v;by_cases e:v∈CA b;grind;rw[Aaq (fun h=>e (c.1 h))];have f:=q v;rw[A7,hd]at f;have C:(A_ b v).getD (0:Int)=0:=by rw[(Yr b v).2 e];rfl
       have D:w64 ((0:Int)+1)=1:=by rw[BM (by omega)];rfl
       rw[A7]at f;grind
     grind
end Go.Pev.Pl
end
section
namespace Go.Pev.Pl
open Tok
theorem H_{a b:List Int}(c:a.Nodup)(h:∀ x∈a,x∈b):a.length<=b.length:=by
 induction a generalizing b with
  |nil=>simp
  |cons x a d=>
   obtain⟨e,f,rfl⟩:=AdC (h x (by simp));rw[Abj]at c;have:=d (b:=e++f) c.2 fun y g=>by grind
   grind
theorem oB{a b:List Int}(c:a.Nodup)(h:∀ x∈a,x∈b)(e:b.length<=a.length):∀ x∈b,x∈a:=by
 intro x f;refine Ab6 fun d => ?_;have:=H_ (a:=x::a) (b:=b) (Abj.2 ⟨d,c⟩) fun y g=>by grind
 grind
theorem bt{a c c2:List Int}(h:∀ x,x∈c↔x∈c2)(t:Tok):
  (Tok.step (a,c) t=none↔Tok.step (a,c2) t=none)/\∀ i j,Tok.step (a,c) t=some (i,j)->∃ f,Tok.step (a,c2) t=some (i,f)/\∀ x,x∈j↔x∈f:=by
 cases t with
  |ver v=>
   cases a with
    |nil=>simp[Tok.step]
    |cons w r=>by_cases e:w=v;simp only[Tok.step,e,Abc];grind;simp[Tok.step,e]
  |arc u v=>
   cases a with
    |nil=>simp[Tok.step]
    |cons w r=>
     by_cases e:w=u;cases r with
      |nil=>by_cases b:v∈c;simp[Tok.step,e,b,(h v).1 b];have d:v∉c2:=fun q=>b ((h v).2 q);simp only[Tok.step,e,Abc,b,d,AbE];grind
      |cons p r=>by_cases g:p=v;simp only[Tok.step,e,Abc,g];grind;by_cases b:v∈c;simp[Tok.step,e,g,b,(h v).1 b];have d:v∉c2:=fun q=>b ((h v).2 q);simp only[Tok.step,e,Abc,g,b,d,AbE];grind
     simp[Tok.step,e]
structure GI(s:AC2):Prop where
 ne:s.1≠[]
 one:one s.2.1
 sub:∀ y∈s.1,y∈CA s.2.1
 nc:(CA s.2.1).Nodup
 nm:(CA s.2.2).Nodup
theorem AEp{n x:Int}{s a:AC2}(hi:GI s)(h:goF n x s = .inl a):
  GI a/\a.1.length<=s.1.length+1/\∃ t d,GZ n x=some t/\Tok.step (s.1,CA s.2.1) t=some (a.1,d)/\(∀ x,x∈d↔x∈CA a.2.1)/\(∀ y,y∈CA a.2.2↔y∈CA s.2.2\/Tok.ver y=t):=by
 rw[goF]at h;cases i:GZ n x with
  |none=>grind
  |some t=>
   rw[i]at h;simp only at h;cases b:Tok.step (s.1,CA s.2.1) t with
    |none=>grind
    |some q=>
     obtain⟨k,d⟩:=q;rw[b]at h;rcases HS b with⟨v,r,rfl,c,e⟩|⟨u,v,r,rfl,c,e⟩|⟨u,v,r,rfl,c,l,g,e⟩
     cases h;cases e;refine⟨⟨hi.ne,hi.one,hi.sub,hi.nc,MX hi.nm _ _⟩,by simp,_,_,rfl,b,fun x=>Iff.rfl,fun y => ?_⟩;rw[Gi];grind;cases h;cases e;simp only at c;have j:v∈CA s.2.1:=hi.sub v (by grind);simp only[j,Abc];refine⟨⟨by simp,hi.one,fun y f=>hi.sub y (by grind),hi.nc,hi.nm⟩,by grind,_,_,rfl,b,fun x=>Iff.rfl,fun y=>by simp⟩;cases h;cases e;simp only at c g;simp only[g,AbE];refine⟨⟨by simp,AH8 hi.one v,fun y f => ?_,MX hi.nc _ _,hi.nm⟩,by grind,_,_,rfl,b,fun x => ?_,fun y=>by simp⟩;rw[Gi];rcases AbD.1 f with rfl|f;omega;exact .inr (hi.sub y (by grind));rw[Gi,AbD]
def vU(s:AC2):AXY:=.inr (.inl (s.1.reverse,s.2.1,s.2.2,()))
theorem AJO(n:Int):∀ (xs:List Int) (s:AC2) (c:List Int),GI s->(∀ x,x∈c↔x∈CA s.2.1) ->
  (∃ L d c',xs=L.map (Il n)/\(∀ t∈L,okT n t)/\run (s.1,c) L=some (d.1,c')/\walk (goF n) vU xs s=vU d/\GI d/\(∀ x,x∈c'↔x∈CA d.2.1)/\(∀ x,x∈CA d.2.2↔x∈CA s.2.2\/Tok.ver x∈L)) \/
  (walk (goF n) vU xs s = .inl (false,())/\∀ L,xs=L.map (Il n)->(∀ t∈L,okT n t)->run (s.1,c) L=none):=by
 intro xs;induction xs with
  |nil=>intro s c hi i;exact .inl ⟨[],s,c,rfl,by simp,rfl,rfl,hi,i,by simp⟩
  |cons x xs q=>
   intro s c hi i;rw[walk];have u:∀ {t},GZ n x=some t->Tok.step (s.1,CA s.2.1) t=none->∀ L,x::xs=L.map (Il n)->(∀ t∈L,okT n t)->run (s.1,c) L=none:=by
    intro t e k L b a;cases L with
     |nil=>cases b
     |cons t' L=>simp only[AbL,AbR]at b;have f:=HN (a t' (by simp));rw[<- b.1,e]at f;cases f;rw[Cd,((bt i t).1).2 k];rfl
   cases j:goF n x s with
    |inr r=>
     simp only;have D:r = .inl (false,())/\∀ L,x::xs=L.map (Il n)->(∀ t∈L,okT n t)->run (s.1,c) L=none:=by
      rw[goF]at j;cases e:GZ n x with
       |none=>
        rw[e]at j;cases j;refine⟨rfl,fun L b a => ?_⟩;cases L with
         |nil=>cases b
         |cons t' L=>simp only[AbL,AbR]at b;have f:=HN (a t' (by simp));grind
       |some t=>grind
     grind
    |inl d=>
     simp only;obtain⟨l,_,t,E,e,k,m,F⟩:=AEp hi j;obtain⟨o,g,h⟩:=(bt (c:=CA s.2.1) (c2:=c) (fun x=>(i x).symm) t).2 _ _ k;obtain⟨G,H⟩:=AJh e;rcases q d o l (fun x=>(h x).symm.trans (m x))with⟨L,v,c2,p,w,z,A,B,C,I⟩|⟨p,w⟩
     ·refine .inl ⟨t::L,v,c2,by grind,?_,by rw[Cd,g];exact z,A,B,C,fun y => ?_⟩;all_goals grind
     refine .inr ⟨p,fun L b a => ?_⟩;cases L with
      |nil=>cases b
      |cons t' L=>simp only[AbL,AbR]at b;have f:=HN (a t' (by simp));rw[<- b.1,e]at f;cases f;rw[Cd,g];grind
theorem zF:∀ {l:List Tok} {s a:List Int×List Int},run s l=some a->a.1.getLast? = s.1.getLast? := by
 intro l;induction l with
  |nil=>intro s a h;cases h;rfl
  |cons t l c=>
   intro s a h;rw[Cd,AcK]at h;obtain⟨f,d,e⟩:=h;rw[c e];rcases HS d with⟨v,r,rfl,b,rfl⟩|⟨u,v,r,rfl,b,rfl⟩|⟨u,v,r,rfl,b,g,i,rfl⟩
   all_goals grind
theorem AMo:∀ {l:List Tok} {s a:List Int×List Int},run s l=some a->Tok.Inv s->∀ x,Tok.ver x∈l->x∈a.2:=by
 intro l;induction l with
  |nil=>simp
  |cons t l g=>intro s a h hi x b;rw[Cd,AcK]at h;obtain⟨i,e,f⟩:=h;obtain⟨c,j,d⟩:=br e hi;rcases AbD.1 b with rfl|b;have:=(nG f c).2.1;refine this x (c.2 x ?_);simp only[st]at d;exact List.mem_of_head? d;grind
theorem AIq{n:Int}{L:List Tok}(h:(L.map (Il n)).Nodup):L.Nodup:=by rw[List.Nodup,AcA]at h;exact h.imp fun h e=>h (by rw[e])
theorem AFL{n x:Int}{xs:List Int}(h:TI n (x::xs))(g:Pd (x::xs)=x):In n x:=by
 obtain⟨L,a,d,i⟩:=h;obtain⟨v,r,j⟩:=i.wO;have f:Tok.ver v∈L:=(j.mem _).2 (by simp);have b:v∈x::xs:=by rw[a];exact AbA.2 ⟨_,f,rfl⟩
 have k:=(Hf (xs:=x::xs) (by simp)).2 v b;rw[g]at k;have l:=(d _ f).2.2.2;cases L with
  |nil=>cases a
  |cons t L=>
   simp only[AbL,AbR]at a;have c:=d t (by simp);cases t with
    |ver w=>rw[a.1];exact c
    |arc p q=>have:=(aN c.1 c.2.1).1;have e:x=n*(p+1)+q:=a.1;omega
theorem APg(n:Int)(xs:List Int)(h0:xs≠[])(hs:xs.length<2147483648)(hr:∀ x∈xs, -9223372036854775808<=x/\x<=9223372036854775807)(hn:xs.Nodup)(hm:∀ x,xs.head? = some x->Pd xs=x):
  goes (n,xs,())=some (decide (TI n xs),()):=by
 cases xs with
  |nil=>grind
  |cons d g=>
   rw[AEo,ABl];have i0:idx (d::g) (0:Int)=some d:=by rw[Ke];rfl
   simp only[i0,Zm];by_cases j:In n d;rw[Aar j];simp only[Aav];have W:GI ([d],BH [] d 1,[]):=by
    refine⟨by simp,fun k => ?_,fun y X => ?_,?_,by simp[CA]⟩;have:A_ (BH ([]:List (Int×Int)) d 1) k=if k=d then some 1 else none:=by rw[FM];rfl
    rw[this];by_cases e:k=d<;>simp[e,BH,CA];simp at X;subst X;simp[BH,CA];simp[BH,CA]
   have e:=EC (step:=Q0) (fun i (s:AC2)=>(n,s.1.reverse,s.2.1,s.2.2,d::g,A2 (d::g),(i:Int),())) (d::g) (goF n) vU (fun i s=>GI s/\s.1.length<=i+1) (by omega)
    (fun i x s hi o ⟨E,Y⟩=>by
     obtain⟨H,z,I⟩:=s
     cases H with
     |nil=>exact absurd rfl E.ne
     |cons w r=>
      have J:=AJQ n (d::g) i x o hi (by omega) (hr x (Aay o)) w r z I (by grind) E.one E.sub
      refine⟨fun f M => ?_,fun y M => ?_⟩
      ·rw[M]at J
       obtain⟨g1,g2,_⟩:=AEp E M
       grind
      grind)
    (fun s _=>by rw[Q0,A7,A3,Aaq (by omega)];rfl) ([d],BH [] d 1,[]) ⟨W,by simp⟩
   have e':A' Q0 many (n,[d],BH [] d 1,[],d::g,A2 (d::g),(0:Int),())=_:=e;rw[e'];have N:CA (BH ([]:List (Int×Int)) d 1)=[d]:=rfl;rcases AJO n (d::g) ([d],BH [] d 1,[]) [d] W (fun x=>by rw[N])with⟨L,f,c',q,O,C,a4,P,Z,F⟩|⟨q,O⟩
   rw[a4];obtain⟨t,p,rfl⟩:∃ t p,L=t::p:=by cases L with
    |nil=>cases q
    |cons t p=>simp
   have D:t = .ver d:=by have u:=HN (O t (by simp));simp only[AbL,AbR]at q;rw[<- q.1,GZ,Aa5 j]at u;grind
   subst D;have Q:(Tok.ver d::p).Nodup:=AIq (n:=n) (by grind);have l:=zF C;have hvs:=AMo C (aa d);have hk:(CA f.2.2).length<=(CA f.2.1).length:=H_ P.nm fun x o=>by have:=(F x).1 o;simp only[CA,AcE,AdP,false_or]at this;grind
   have m:(f.1.length=1/\(CA f.2.2).length=(CA f.2.1).length)↔TI n (d::g):=by
    constructor;rintro⟨R,l2⟩;obtain⟨w,hw⟩:=List.length_eq_one_iff.1 R;rw[hw]at l C;simp at l;subst l;refine⟨_,q,O,Tok.BU.toT ⟨w,p,c',rfl,C,fun x o => ?_⟩ Q⟩;have u:=oB P.nm (fun x o=>by have:=(F x).1 o;simp only[CA,AcE,AdP,false_or]at this;grind) (by omega) x ((Z x).1 o)
    have:=(F x).1 u;simpa [CA]using this;rintro⟨K,v,k2,S⟩;have T:K=Tok.ver d::p:=by
     have:∀ (A B:List Tok),A.map (Il n)=B.map (Il n)->(∀ t∈A,okT n t)->(∀ t∈B,okT n t)->A=B:=by
      intro A;induction A with
       |nil=>simp
       |cons a A ih=>
        intro B h hA hB;cases B with
         |nil=>cases h
         |cons b B=>simp only[AbL,AbR]at h;rw[VN (hA a (by simp)) (hB b (by simp)) h.1,ih B h.2 (fun t D=>hA t (by simp[D])) fun t D=>hB t (by simp[D])]
     grind
    subst T;obtain⟨r,l',c,U,G,q3⟩:=S.mU;cases U;rw[C]at G;cases V:f.1 with
     |nil=>grind
     |cons w r'=>rw[V]at G;cases G;refine⟨rfl,?_⟩;have:=H_ P.nc (b:=CA f.2.2) fun x o=>(F x).2 (.inr (q3 x ((Z x).2 o)));omega
   simp only[vU,BI,A7,List.length_reverse];rw[Xd,Xd]at m;by_cases R:f.1.length=1;rw[Aar (show(f.1.length:Int)=1 by omega)];simp only[R,Ade]at m;by_cases l2:f.2.2.length=f.2.1.length;grind;rw[Aaq (show ¬ (f.2.2.length:Int)=(f.2.1.length:Int) by omega),Aaq (fun h=>l2 (m.2 h))];grind;rw[q];have:¬ TI n (d::g):=by
    rintro⟨K,v,k2,S⟩;obtain⟨r,l',c,U,G,q3⟩:Tok.BU K:=by
     obtain⟨t,p,rfl⟩:∃ t p,K=t::p:=by cases K with
      |nil=>cases v
      |cons t p=>simp
     have u:=HN (k2 t (by simp));simp only[AbL,AbR]at v;rw[<- v.1,GZ,Aa5 j]at u;cases u;exact S.mU
    have hr0:r=d:=by subst U;simp only[AbL,AbR]at v;exact v.1.symm
    grind
   grind;rw[Aaq j];have:¬ TI n (d::g):=fun h=>j (AFL h (hm d rfl));grind
end Go.Pev.Pl
end
end
section
namespace Go.Pev.Pl.Tok
theorem T.join{u v:Int}{a b:List Tok}(e:T (.ver u::a))(f:T (.ver v::b))(hd:∀ x,Tok.ver x∈Tok.ver u::a->Tok.ver x∉Tok.ver v::b):
  T (.ver u :: .arc u v::(.ver v::b ++ .arc v u::a)):=by
 obtain⟨_,g,c⟩:=e.facts;obtain⟨_,i,d⟩:=f.facts;have o:=e.nodup;have H:=f.nodup;obtain⟨_,_,I,q,l,J⟩:=e.mU;cases q;obtain⟨_,_,c2,r,s,z⟩:=f.mU;cases r;have A:u≠v:=by grind
 have j:∀ t,t∈Tok.ver u::a->t∉Tok.ver v::b:=fun t B C=>hd _ (g t B) (i t C);have K:Tok.arc u v∉Tok.ver u::a:=fun h=>hd v (c _ _ h).2.1 (by simp);have L:Tok.arc u v∉Tok.ver v::b:=fun h=>hd u (by simp) (d _ _ h).1;have M:Tok.arc v u∉Tok.ver u::a:=fun h=>hd v (c _ _ h).1 (by simp);have N:Tok.arc v u∉Tok.ver v::b:=fun h=>hd u (by simp) (d _ _ h).2.1;have k:(Tok.ver u :: .arc u v::(.ver v::b ++ .arc v u::a)).Nodup:=by rw[Abj]at o;have O:Tok.ver u∉Tok.ver v::b:=j _ (by simp);rw[Abj,Abj,Adi,Abj (a:=Tok.arc v u)];grind
 rw[Cd,IX,Abh]at l;obtain⟨D,m,E⟩:=Jq (Z:=(· = u)) (c2:=[v,u]) (low:=[u]) s (by simp) (fun y=>by simp) (fun p w n=>by grind) (by simp)
 obtain⟨F,P,Q⟩:=Jq (Z:=(·∈c2)) (c2:=D) (low:=[]) l (by simp) (fun y=>by rw[E];simp[or_comm]) (fun p w n G=>hd w (c _ _ (Ab3 _ n)).2.1 (z w G)) (by simp)
 refine BU.toT ⟨u,_,F,rfl,?_,fun x R => ?_⟩ k;rw[Cd,IX,Abh,Cd,Jj _ _ _ _ (by simp) (by grind),Abh,KP];rw[show([v]++[u]:List Int)=[v,u]from rfl]at m;rw[m,Abh,Cd,MB,Abh];grind;grind
end Go.Pev.Pl.Tok
end
section
namespace Go.Pev
open Go.RowKit Go.ChangeShapes Go.WideShapes Go.ChangeAt
def Sd(P:Program)(rd:TypeId->Option Ty):List Field->Nat->Option Ty
 |[],_=>some .unit
 |f::r,off=>match rd f.type,Sd P rd r (off+P.cellsOf f.type)with
  |some a,some b=>match Nat.beq f.offset off&&Nat.beq (P.cellsOf f.type) a.size with
   |true=>some (.prod a b)
   |false=>none
  |_,_=>none
def I3(P:Program):Nat->TypeId->Option Ty
 |0,_=>none
 |n+1,t=>match P.underlying t with
  |some .bool=>some .bool
  |some (.int k)=>some (.int k)
  |some (.slice e)=>match I3 P n e with
   |some a=>match Nat.beq (P.cellsOf e) a.size && !(Nat.beq a.size 0)with
    |true=>some (.slice a)
    |false=>none
   |none=>none
  |some (.array c e)=>match I3 P n e with
   |some a=>match Nat.beq (P.cellsOf e) a.size&&Nat.beq (P.cellsOf t) (c*a.size)with
    |true=>some (.arr c a)
    |false=>none
   |none=>none
  |some (.struct fs)=>match Sd P (I3 P n) fs.toList 0 with
   |some a=>match Nat.beq (P.cellsOf t) a.size with
    |true=>some a
    |false=>none
   |none=>none
  |_=>none
def wfD:(t:Ty)->t.den->Prop
 |.unit,_=>True
 |.bool,_=>True
 |.int k,n=>k.min<=n/\n<=k.max
 |.slice e,xs=>List.length (α:=e.den) xs<=maxLen/\∀ x∈(xs:List e.den),wfD e x
 |.prod a b,d=>wfD a d.1/\wfD b d.2
 |.arr n e,xs=>List.length (α:=e.den) xs=n/\∀ x∈(xs:List e.den),wfD e x
 |.nul _,_=>True
 |.mapi _ _,_=>True
section
variable {H:Type} {enc:TypeId×Value->H} {P:Program} {w:World} {spare:Nat->Bool} {held:Bool}
abbrev below(w:World):Nat->Prop:=fun b=>b<w.heap.size
theorem AXZ{k:IntKind}{n:Int}(h:(Lit.int k n).wf=true):k.min<=n/\n<=k.max:=by simpa [Lit.wf]using h
theorem ADr{α:Type}{R:α->List Value->Prop}{k:Nat}:∀ (m:Nat) (f:Nat->List Value),(∀ i,i<m->(f i).length=k/\∃ x,R x (f i))->∃ xs:List α,xs.length=m/\rows R xs ((List.range m).flatMap f)/\∀ x∈xs,∃ i,i<m/\R x (f i):=by
 intro m;induction m with
  |zero=>intro f _;exact⟨[],rfl,rfl,fun x a=>by cases a⟩
  |succ m b=>intro f h;obtain⟨xs,c,d,e⟩:=b f fun i hi=>h i (by omega);obtain⟨_,x,a⟩:=h m (by omega);refine⟨xs++[x],by simp[c],?_,fun y g => ?_⟩;rw[AbJ,Abp];exact KR d (by simp;exact⟨f m,[],by simp,a,rfl⟩);grind
theorem AP0{f:Nat->List Value}{k:Nat}:∀ (m:Nat),(∀ i,i<m->(f i).length=k)->∀ (j:Nat) (u:Value),((List.range m).flatMap f)[j]? = some u->∃ i r,i<m/\r<k/\j=i*k+r/\(f i)[r]? = some u:=by
 intro m;induction m with
  |zero=>simp
  |succ m d=>
   intro e j u h;rw[AbJ,Abp]at h;have b:∀ a,a<=m->((List.range a).flatMap f).length=a*k:=by
    intro a g;induction a with
     |zero=>simp
     |succ a c=>rw[AbJ,Abp,Aa3,c (by omega)];grind
   rcases Acs j (m*k)with l|l;rw[Aci (by grind)]at h;obtain⟨i,r,n,o,p,q⟩:=d (fun i hi=>e i (by omega)) j u h;grind;rw[Abb (by grind),b m (Aax _)]at h;grind
theorem ARG(a:Addr)(i j:Nat):(a.add i).add j=a.add (i+j):=by unfold Addr.add;grind
theorem ACq{α:Type}[Inhabited α]{n:Nat}{p:Nat->α->Prop}(h:∀ i,i<n->∃ x,p i x):∃ f:Nat->α,∀ i,i<n->p i (f i):=by classical refine⟨fun i=>if hi:i<n then Classical.choose (h i hi)else default,fun i hi => ?_⟩;grind
theorem zX{rd:TypeId->Option Ty}{cs:List Value}(i:∀ (f:Field) (a:Ty),rd f.type=some a->(P.cellsOf f.type=a.size)->(∃ y:Nat×(DataW H×List MemPlace),DataW.trod enc P w 0 spare held y.1 f.type ((cs.drop f.offset).take (P.cellsOf f.type))=some y.2)->∃ d:a.den,Dat w (below w) a d ((cs.drop f.offset).take (P.cellsOf f.type))/\wfD a d):
  ∀ (c:List Field) (off:Nat) (t:Ty),Sd P rd c off=some t->off+t.size=cs.length->(∀ f∈c,∃ y:Nat×(DataW H×List MemPlace),DataW.trod enc P w 0 spare held y.1 f.type ((cs.drop f.offset).take (P.cellsOf f.type))=some y.2) ->
   ∃ d:t.den,Dat w (below w) t d (cs.drop off)/\wfD t d:=by
 intro c;induction c with
  |nil=>
   intro off t h j _;simp only[Sd,Aas]at h;subst h;refine⟨(),?_,trivial⟩;show cs.drop off=[]
   simp[Ty.size]at j;grind
  |cons f r n=>intro off t h j m;simp only[Sd]at h;split at h;rename_i a b o p;split at h;rename_i k;simp only[Aas]at h;subst h;simp only[Aau]at k;have x:=AbZ k.1;have q:=AbZ k.2;obtain⟨d,hd,s⟩:=i f a o q (m f (by simp));simp only[Ty.size]at j;obtain⟨e,u,l⟩:=n (off+P.cellsOf f.type) b p (by omega) fun g v=>m g (by simp[v]);refine⟨(d,e),⟨(cs.drop off).take (P.cellsOf f.type),cs.drop (off+P.cellsOf f.type),?_,?_,u⟩,s,l⟩;rw[<- AcZ,Abv];grind;grind;grind
theorem ALQ:∀ (n:Nat) (t:TypeId) (ty:Ty) (l:Nat) (cs:List Value) (x:DataW H×List MemPlace),I3 P n t=some ty->DataW.trod enc P w 0 spare held l t cs=some x->∃ d:ty.den,Dat w (below w) ty d cs/\wfD ty d:=by
 intro n;induction n with
  |zero=>intro t ty l cs x h;cases h
  |succ n ih=>
   intro t ty l cs x h g;simp only[I3]at h;split at h;rename_i o;simp only[Aas]at h;subst h;obtain⟨b,rfl,_⟩:=DataW.trod_bool o g;exact⟨b,rfl,trivial⟩;rename_i k o;simp only[Aas]at h;subst h;obtain⟨m,rfl,_,V⟩:=DataW.trod_int o g;exact⟨m,rfl,AXZ V⟩;rename_i e o;split at h;rename_i a J;split at h;rename_i q;simp only[Aas]at h;subst h;rw[Aau]at q;have W:a.size≠0:=fun h0=>by simp_all
   have q:=AbZ q.1;rcases DataW.trod_slice o g with⟨rfl,_⟩|⟨ad,len,cap,K,X,m,rfl,rfl,_,_,hle,Y,Z,L,_⟩
   exact⟨[],⟨none,0,rfl,Aax _,fun D=>absurd rfl D⟩,Acq _,fun x g=>by cases g⟩;-- z element
   have z:∀ i,i<len->∃ s,w.cells? 0 (ad.add (i*P.cellsOf e)) (P.cellsOf e)=some s/\∃ d:a.den,Dat w (below w) a d s/\wfD a d:=by intro i hi;have v:=L i hi;rw[Aaz (by omega),AcK]at v;grind
   obtain⟨f,C⟩:=ACq (α:=List Value) (p:=fun i s=>w.cells? 0 (ad.add (i*P.cellsOf e)) (P.cellsOf e)=some s/\∃ d:a.den,Dat w (below w) a d s/\wfD a d) z;have E:∀ i,i<len->(f i).length=a.size:=by intro i hi;obtain⟨_,G,_⟩:=World.cells?_some (C i hi).1;omega
   obtain⟨xs,v,I,h3⟩:=ADr (R:=fun(d:a.den) cs=>Dat w (below w) a d cs/\wfD a d) (k:=a.size) len f fun i hi=>⟨E i hi,(C i hi).2⟩
   refine⟨xs,⟨some ad,cap,by rw[v],by omega,fun D=>⟨ad,(List.range len).flatMap f,rfl,?_,CC (fun x _ cs g=>g.1) I,fun j u o => ?_⟩⟩,by omega,fun x g => ?_⟩;-- the block is there
   have M:0<len:=by grind
   have N:=World.cells?_block (C 0 M).1 (by omega);rw[Ack]at N;have e0:ad.add 0=ad:=by simp[Addr.add]
   grind;obtain⟨i,r,hi,hr,rfl,O⟩:=AP0 len E j u o;obtain⟨_,_,A⟩:=World.cells?_some (C i hi).1;have:=A r (by omega);rw[O]at this;rw[<- this,q,ARG];grind;grind;grind;rename_i c e o;split at h;rename_i a J;split at h;rename_i q;simp only[Aas]at h;subst h;rw[Aau]at q;have hc1:=AbZ q.1;have Q:=AbZ q.2;obtain⟨xs,m,rfl,_,G,S,F⟩:=DataW.trod_array o g;rw[Q]at G;obtain⟨ys,v,I,h3⟩:=ADr (R:=fun(d:a.den) cs=>Dat w (below w) a d cs/\wfD a d) (k:=a.size) c (fun i=>(cs.drop (i*a.size)).take a.size) fun i hi=>by
    have hi1:i*a.size+a.size<=c*a.size:=by have:=AbY a.size (show i+1<=c from hi);grind
    grind
   have B:∀ k,k<=c->(List.range k).flatMap (fun i=>(cs.drop (i*a.size)).take a.size)=cs.take (k*a.size):=by
    intro k;induction k with
     |zero=>simp
     |succ k T=>intro hk;rw[AbJ,Abp,T (by omega),AcF,Ac4,List.take_add];simp
   rw[B c (Aax _),<- G,AbM]at I;exact⟨ys,⟨v,CC (fun x _ cs g=>g.1) I⟩,v,fun x g=>by grind⟩;grind;grind;rename_i fs o;split at h;rename_i a J;split at h;rename_i q;simp only[Aas]at h;subst h;have q:=AbZ q;obtain⟨xs,m,rfl,_,G,S,F⟩:=DataW.trod_struct o g;obtain⟨d,hd,V⟩:=zX (enc:=enc) (w:=w) (spare:=spare) (held:=held) (cs:=cs) (fun f b N _ ⟨y,hy⟩=>ih f.type b y.1 _ y.2 N hy) fs.toList 0 _ J (by omega) (fun f C=>by
    obtain⟨i,hi⟩:=Acn C;have v:=F i f (by grind);have U:i<xs.length:=by grind
    rw[Aaz U]at v;exact⟨(m,xs[i]),v⟩)
   grind;grind;grind;grind
theorem AA0{r:Reach}{c:Nat}{t:TypeId}{v:Value}(a:Value.okWide P w r c t v)(e:∀ d,P.underlying t=some d->(match d with|.bool|.int _|.slice _=>true|_=>false)=true){ty:Ty}{n:Nat}(h:I3 P (n+1) t=some ty):v.cells.toList=[v]:=by
 simp only[Value.okWide]at a;have b:∃ d,P.underlying t=some d:=by
  cases b:P.underlying t with
   |none=>simp only[I3,b]at h;cases h
   |some d=>simp
 obtain⟨d,b⟩:=b;have:=e d b;rw[b]at a;cases d<;>simp only[AbB]at this<;>simp only[Cell.okWide,b]at a<;>cases v<;>first|rfl|(simp_all [Cell.ok])
theorem rp{r:Reach}{u:Nat}{t:TypeId}{v:Value}{x:List MemPlace}{dd:DataW H}(b:Value.okWide P w r u t v)(hd:DataW.Trod enc P w 0 spare held t v dd x){ty:Ty}{n:Nat}(h:I3 P (n+1) t=some ty):
  ∃ d:ty.den,Cl w (below w) ty d v/\wfD ty d:=by
 obtain⟨l,y⟩:=hd;obtain⟨d,p,z⟩:=ALQ (n+1) t ty l _ _ h y;refine⟨d,?_,z⟩;have one:(∀ d,P.underlying t=some d->(match d with|.bool|.int _|.slice _=>true|_=>false)=true)->ty.isAgg=false->Cl w (below w) ty d v:=by intro A q;unfold Cl;rw[q];rw[AA0 b A h]at p;exact p
 have m:(∃ cs,v = .agg cs)->ty.isAgg=true->Cl w (below w) ty d v:=by rintro⟨cs,rfl⟩ q;unfold Cl;rw[q];exact⟨cs,rfl,p⟩
 have j:∃ d,P.underlying t=some d:=by
  cases j:P.underlying t with
   |none=>simp only[I3,j]at h;cases h
   |some d=>simp
 obtain⟨C,j⟩:=j;simp only[I3,j]at h;split at h;rename_i g;cases g;simp only[Aas]at h;subst h;exact one (fun d hd=>by grind) rfl;rename_i k g;cases g;simp only[Aas]at h;subst h;exact one (fun d hd=>by grind) rfl;rename_i e g;cases g;split at h;split at h;simp only[Aas]at h;subst h;exact one (fun d hd=>by grind) rfl;grind;grind;rename_i c e g;cases g;have s:∃ cs,v = .agg cs:=by simp only[Value.okWide,j]at b;grind
 split at h;split at h;simp only[Aas]at h;subst h;exact m s rfl;grind;grind;rename_i B g;cases g;have s:∃ cs,v = .agg cs:=by simp only[Value.okWide,j]at b;grind
 split at h;rename_i a i;split at h;simp only[Aas]at h;subst h;refine m s ?_;cases o:B.toList with
  |nil=>rw[o]at i;simp only[Sd,Aas]at i;subst i;rfl
  |cons f r=>rw[o]at i;simp only[Sd]at i;split at i;split at i;simp only[Aas]at i;subst i;rfl;grind;grind
 grind;grind;grind
theorem iM{g:FuncId}{s:Spec}(n:BS P g s){args:List AV}{b:Bool}{e:Eff}(d:s (AV×Eff) args [] [] 0 (fun v e=>some (v,e))=some (.data .bool b,e)){a:List Value}
  (q:BG w (below w) (fun _=>none) [] args a) (f:AKy w (below w):=by intro p h;simp[ow]at h):Calls P g a.toArray w fun l w'=>l = .returned (.bool b)/\Below w.heap.size w w':=by
 obtain⟨v,z,m,_,_,r⟩:=n _ args [] [] 0 _ _ d;simp only[Aas,Aa4]at m;obtain⟨rfl,rfl⟩:=m;have hi:HI w (below w) (fun _=>none) [] []:=⟨fun id o h=>by simp at h,fun i T e t xs ver out h=>by simp at h,fun i T e t xs ver out h=>by simp at h,fun i j b c b' c' _ _ _ h=>(nomatch h),fun i b c _ h=>(nomatch h),fun i T t xs b c h=>by simp at h,fun b h=>h,f,rfl⟩
 refine(r w _ _ a hi q).mono ?_;rintro l w' ⟨u,rfl,A,B,⟨k,_⟩,x⟩;have y:u = .bool b:=D1 x;subst y;exact⟨rfl,k.os,k.tape,k.output,k.size,fun i hi=>k.keep i hi fun j c _ h=>by cases h⟩
end
section
variable {H:Type} {enc:TypeId×Value->H} {P:Program}
theorem gb{f:Func}{s:ChangeSpec}{c k d l:Bool}{W n:World}{args:Array Value}{v:Value}{ds o:List (DataW H)}{a pa pv:List MemPlace}
  (w:DataW.Whole enc P f.params.toList s.vars c W args.toList ds o a)
  (h:∀ (b:Nat) (m:Nat->Bool) (hd:Bool),DataW.TrodAll enc P n b m hd f.resultTypes.toList (v.resultList f.resultTypes.size) (s.fn H (ds++o)).results [])
  (e:∀ m:Nat->Bool,(∀ p∈a,m p.block=true)->DataW.TrodAll enc P n 0 m true f.params.toList args.toList (s.fn H (ds++o)).args pa)
  (g:∀ m:Nat->Bool,(∀ p∈a,m p.block=true)->DataW.TrodVars enc P n m s.vars (s.fn H (ds++o)).vars pv)
  (A:a=pa++pv) (z:Below W.heap.size W n)
  (x:∀ (j:Nat) (t:TypeId) (r:Value),f.resultTypes[j]? = some t->(v.resultList f.resultTypes.size)[j]? = some r->Value.okWide P n .any 0 t r) :
  s.post enc P f c k d l W args v n:=by
 have y:∀ p∈a,p.block<W.heap.size:=fun p q=>w.lt p q;have i:∀ p∈a,(fun b=>decide (b<W.heap.size)) p.block=true:=fun p q=>by grind
 refine⟨ds,o,a,[],pa,pv,w,h _ _ _,e _ i,g _ i,World.keptBut_mono (fun p q=>⟨q,?_⟩) (z.frame (·∈a)),fun _ => ?_⟩
 grind
 ·obtain⟨_,_,_,_,_,B,C⟩:=w;refine⟨x,_,_,([]++pa)++pv,⟨[]++pa,pv,trodAll_append (e _ (fun _ _=>rfl)) (h _ _ _),g _ (fun _ _=>rfl),rfl,?_,?_⟩,?_⟩;intro b off q;have u:MemPlace.cell b off∈a:=by grind
  rw[z.frozen (y _ u)];exact B b off u;all_goals grind
theorem bV{t:TypeId}(f:laidOutB P=true)(g:P.readableRec t=true)(a:t<P.types.size){W e:World}{v:Value}{d:DataW H}{b:List MemPlace}
  (h:DataW.Trod enc P W 0 (fun _=>true) true t v d b) (i:Below W.heap.size W e) (c:∀ x∈b,x.block<W.heap.size) {sp:Nat->Bool} (j:∀ x∈b,sp x.block=true) :
  DataW.Trod enc P e 0 sp true t v d b:=
 WideElems.Trod_stays f g a h (fun x k=>i.same (c x k)) j
end
end Go.Pev
end
