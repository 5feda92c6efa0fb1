/- A part of the proofs of this seat: GWP9 GWP10 GWP11 GWP12 GWP13 GWP14 GWP15 GWP16 GWP17 GWX1 GWM5 GWM6 GWP18 GWP19 GWP20 GWP21 GWP22 GWP23 GWX2 GWM7 PevThin GWP24 GWP25 GWX3 GWM8 GWM Pln PlnB T18a T18b T18c PlnM NKA T18d PevClaim NKB. -/
import Derived.Test.YtbnaceonlbiheaaGreatDoorP967785be3e
import Derived.Test.YtbnaceonlbiheaaGreatDoorProg
import Derived.IntWalk
import Derived.Sort.AssemblyPlain
import Derived.ProofKit
import Derived.ChangeArms
import Derived.ReadAgain
import Derived.Deep.Slices
import Derived.OpenShut
import Derived.KernelRfl
set_option linter.unusedVariables false
set_option linter.unusedSimpArgs false
set_option linter.unusedSectionVars false
set_option maxRecDepth 100000
section
namespace Go.Pev
open Go.Proofs
noncomputable section
def AFZ:=Chn.g AFE ⟨328,0,0,3,0,none,AFY,[(.ret,LA)],A4,[],[]⟩ ei Tryz.func328 zh
def AKy:=Chn.g AFZ ⟨282,0,0,2,0,none,MT,[(.ret,BH)],A4,[],[(0,AFS,AFR)]⟩ AFU Tryz.func282 AFT
def AQt:=Chn.g AKy ⟨281,0,0,4,0,none,AQs,[(.ret,Ey)],A4,[(10,[[],[],[],[0],[0],[],[],[0],[0],[],[0],[1]])],[(0,AOv,AOs),(1,AOu,AOr),(2,AOt,AOq)]⟩ rby Tryz.func281 AOw
def jd:=Chn.g AQt ⟨177,0,0,2,0,none,J4,[(.ret,BH)],A4,[],[]⟩ NI Tryz.func177 du
def ya:=Chn.g jd ⟨198,0,0,1,0,none,yZ,[(.ret,BH)],A4,[],[(0,pQ,W6)]⟩ UB Tryz.func198 pR
def yY:=Chn.g ya ⟨304,0,0,2,0,none,J3,[(.ret,BM)],A4,[],[]⟩ PX Tryz.func304 pO
def yX:=Chn.g yY ⟨305,0,0,1,0,none,yW,[(.ret,BM)],A4,[],[]⟩ NH Tryz.func305 pN
def yc:=Chn.g yX ⟨257,0,0,2,0,none,J3,[(.ret,BH)],A4,[(1,[[0],[],[],[],[],[0],[0],[],[],[],[],[0],[0]])],[]⟩ UC Tryz.func257 pT
def bL:=Chn.g yc ⟨95,0,0,2,0,none,J4,[(.ret,ye)],bJ,[],[]⟩ dv Tryz.func95 pY
theorem AC2 : (Tryz.f355.name == "runtime.NumGoroutine") = false := by kernel_rfl
theorem aP:FA Tryz.prog Tryz.f355 111 212 (.prod (.int .i64) (.prod (.int .i64) (.prod (.int .i64) (.prod (.int .i64) .unit)))) where
 body:=by kernel_rfl
 nt:=by kernel_rfl
 res:=by kernel_rfl
 d:=⟨by kernel_rfl,by kernel_rfl,by kernel_rfl,by kernel_rfl,by kernel_rfl,by kernel_rfl,by kernel_rfl,by kernel_rfl⟩
 g:=⟨by kernel_rfl,by kernel_rfl,by kernel_rfl,by kernel_rfl,by kernel_rfl,by kernel_rfl,by kernel_rfl,by kernel_rfl⟩
 o00:=by kernel_rfl
 o10:=by kernel_rfl
 o11:=by kernel_rfl
 o20:=by kernel_rfl
 o30:=by kernel_rfl
 o31:=by kernel_rfl
 o32:=by kernel_rfl
 o33:=by kernel_rfl
 sl:=by kernel_rfl
 z:=by kernel_rfl
 by1:=by kernel_rfl
def dL[Lk]:Env:=bL.e.ext 355 true true (Dj 212 (.prod (.int .i64) (.prod (.int .i64) (.prod (.int .i64) (.prod (.int .i64) .unit)))))
theorem jD:BE Tryz.prog dL:=Env.CA bL.h (Ka aP Tryz.func355 AC2) (fun _=>B4 _ _) (fun _=>(B4 _ _).pL)
theorem AI6 : (Tryz.f356.name == "runtime.NumGoroutine") = false := by kernel_rfl
theorem gw:FA Tryz.prog Tryz.f356 98 4 .bool where
 body:=by kernel_rfl
 nt:=by kernel_rfl
 res:=by kernel_rfl
 d:=⟨by kernel_rfl,by kernel_rfl,by kernel_rfl,by kernel_rfl,by kernel_rfl,by kernel_rfl,by kernel_rfl,by kernel_rfl⟩
 g:=⟨by kernel_rfl,by kernel_rfl,by kernel_rfl,by kernel_rfl,by kernel_rfl,by kernel_rfl,by kernel_rfl,by kernel_rfl⟩
 o00:=by kernel_rfl
 o10:=by kernel_rfl
 o11:=by kernel_rfl
 o20:=by kernel_rfl
 o30:=by kernel_rfl
 o31:=by kernel_rfl
 o32:=by kernel_rfl
 o33:=by kernel_rfl
 sl:=by kernel_rfl
 z:=by kernel_rfl
 by1:=by kernel_rfl
def oe[Lk]:Env:=dL.ext 356 true true (Dj 4 .bool)
theorem od:BE Tryz.prog oe:=Env.CA jD (Ka gw Tryz.func356 AI6) (fun _=>B4 _ _) (fun _=>(B4 _ _).pL)
theorem AI4 : (Tryz.f300.name == "runtime.NumGoroutine") = false := by kernel_rfl
theorem gr:FA Tryz.prog Tryz.f300 37 36 (.slice (.int .i64)) where
 body:=by kernel_rfl
 nt:=by kernel_rfl
 res:=by kernel_rfl
 d:=⟨by kernel_rfl,by kernel_rfl,by kernel_rfl,by kernel_rfl,by kernel_rfl,by kernel_rfl,by kernel_rfl,by kernel_rfl⟩
 g:=⟨by kernel_rfl,by kernel_rfl,by kernel_rfl,by kernel_rfl,by kernel_rfl,by kernel_rfl,by kernel_rfl,by kernel_rfl⟩
 o00:=by kernel_rfl
 o10:=by kernel_rfl
 o11:=by kernel_rfl
 o20:=by kernel_rfl
 o30:=by kernel_rfl
 o31:=by kernel_rfl
 o32:=by kernel_rfl
 o33:=by kernel_rfl
 sl:=by kernel_rfl
 z:=by kernel_rfl
 by1:=by kernel_rfl
def oZ[Lk]:Env:=oe.ext 300 true true (Dj 36 (.slice (.int .i64)))
theorem oY:BE Tryz.prog oZ:=Env.CA od (Ka gr Tryz.func300 AI4) (fun _=>B4 _ _) (fun _=>(B4 _ _).pL)
theorem ANP : (Tryz.f338.name == "runtime.NumGoroutine") = false := by kernel_rfl
theorem nb:dP Tryz.prog Tryz.f338 36 3 1 where
 body:=by kernel_rfl
 nt:=by kernel_rfl
 res:=by kernel_rfl
 d:=⟨by kernel_rfl,by kernel_rfl,by kernel_rfl,by kernel_rfl,by kernel_rfl,by kernel_rfl,by kernel_rfl,by kernel_rfl⟩
 g:=⟨by kernel_rfl,by kernel_rfl,by kernel_rfl,by kernel_rfl,by kernel_rfl,by kernel_rfl,by kernel_rfl,by kernel_rfl⟩
 o00:=by kernel_rfl
 o10:=by kernel_rfl
 o11:=by kernel_rfl
 o12:=by kernel_rfl
 o13:=by kernel_rfl
 o14:=by kernel_rfl
 o15:=by kernel_rfl
 o16:=by kernel_rfl
 sl:=by kernel_rfl
 sz:=by kernel_rfl
def xg[Lk]:Env:=oZ.ext 338 true true (M0 1)
theorem vC:BE Tryz.prog xg:=Env.CA oY (ANO nb Tryz.func338 ANP) (fun _=>Mz _) (fun _=>(Mz _).pL)
def AEI:=Chn.g ⟨xg,vC⟩ ⟨337,0,0,2,0,none,J3,[(.ret,AEH)],AEG,[(11,[[0],[0],[],[12],[12],[],[],[],[],[12],[12],[],[],[],[31,38],[0],[1]]),(10,[[12],[12],[12]]),(6,[[12],[],[0],[0],[],[],[12],[12]])],[]⟩ pS Tryz.func337 yb
def pW:=Chn.g AEI ⟨357,0,1,2,0,none,pV,[(.ret,pU)],A4,[],[(0,jb,ja)]⟩ W8 Tryz.func357 jc
def AOR:=Chn.g pW ⟨339,0,0,2,0,none,J3,[(.ret,AOQ)],AEJ,[(12,[[0],[0],[0],[8],[8],[1000005,3],[7]]),(7,[[0],[0],[],[0],[0],[],[0],[1],[0],[1]]),(5,[[12],[],[0],[0],[],[],[12],[12],[],[],[],[0],[0],[12],[12]])],[(0,AKI,AKH)]⟩ AOS Tryz.func339 AKJ
def ui:=Chn.g AOR ⟨199,0,0,1,0,none,BM,[(.ret,BH)],A4,[],[]⟩ Qx Tryz.func199 ny
def AI7:=Chn.g ui ⟨200,0,0,2,0,none,J3,[(.ret,BH)],A4,[(1,[[],[],[],[],[0],[0],[],[],[],[],[0],[0],[],[],[],[],[],[],[],[0],[],[],[],[0],[0],[0],[0]])],[]⟩ ug Tryz.func200 ADA
def AIr:=Chn.g AI7 ⟨117,0,0,1,0,none,nR,[(.ret,BH)],A4,[],[(0,ACs,W6),(1,ACr,ACq)]⟩ uH Tryz.func117 ACt
def AJI:=Chn.g AIr ⟨44,0,0,3,1,none,pZ,[(.ret,AJH)],AJG,[],[]⟩ SZ Tryz.func44 ADE
def ANR:=Chn.g AJI ⟨256,0,0,1,0,none,nR,[(.ret,BM)],A4,[],[(0,AJA,AI9)]⟩ AJC Tryz.func256 AJB
def AC0:=Chn.g ANR ⟨301,0,2,2,0,none,cz,[(.ret,cy)],A4,[],[]⟩ VE Tryz.func301 uY
def AJF:=Chn.g AC0 ⟨302,0,2,3,0,none,AJE,[(.ret,AJD)],A4,[(9,[[],[0],[0],[0],[0],[],[],[],[2],[3]]),(6,[[],[0],[0],[0],[0],[],[],[],[],[],[2],[3]]),(1,[[],[0],[0],[0],[0],[],[2],[2],[],[0],[0],[0],[0],[],[2],[2]])],[]⟩ uh Tryz.func302 ADD
def ARK:=Chn.g AJF ⟨303,0,2,2,0,none,cz,[(.ret,cy)],A4,[(9,[[],[],[0],[0],[0],[0],[],[0],[0],[0],[0],[],[],[],[],[],[0],[0],[0],[1]]),(6,[[],[0],[0],[0],[0],[],[],[0],[0],[0],[0],[],[2],[2],[],[],[],[],[28],[2],[3,30]]),(3,[[],[],[0],[0],[0],[0],[],[0],[0],[0],[0],[],[],[],[],[],[],[0],[0],[0],[1]]),(1,[[],[0],[0],[0],[0],[],[0],[0],[0],[0]])],[]⟩ cgo Tryz.func303 AP4
def ANK:=Chn.g ARK ⟨255,0,0,3,0,none,ANJ,[(.ret,ANI)],ANH,[(18,[[],[14],[14],[14],[],[14],[14],[14],[3],[5]]),(14,[[],[14],[14],[14],[],[14],[14],[14],[3],[5]])],[]⟩ AIq Tryz.func255 AIp
def ANA:=Chn.g ANK ⟨195,0,1,3,0,none,AM9,[(.ret,xJ)],A4,[(3,[[],[],[12],[],[0],[0],[0],[14],[],[3,16],[0],[0],[1],[0],[0],[1]])],[]⟩ xL Tryz.func195 AIZ
def ACU:=Chn.g ANA ⟨196,0,1,1,0,none,ACT,[(.ret,xJ)],A4,[],[(0,tf,tc),(1,te,tZ)]⟩ gW Tryz.func196 tg
def AIY:=Chn.g ACU ⟨112,0,0,4,0,none,AIX,[(.ret,AIW)],D5,[(11,[[],[2],[2],[2],[],[2],[2],[2],[],[1]]),(14,[[],[2],[2],[2],[],[2],[2],[2],[],[1]])],[(0,ACR,ACQ)]⟩ tW Tryz.func112 ACS
def ACX:=Chn.g AIY ⟨113,0,0,2,0,none,ACW,[(.ret,ACV)],A4,[],[(0,tq,tp)]⟩ gY Tryz.func113 tr
def AIA:=Chn.g ACX ⟨111,0,0,1,0,none,AH9,[(.ret,BH)],A4,[],[]⟩ tG Tryz.func111 ABz
def AIC:=Chn.g AIA ⟨49,0,0,2,0,none,AIB,[(.ret,ER)],D5,[],[(0,AB5,AB3),(1,AB4,AB2)]⟩ O1 Tryz.func49 AB6
def AEb:=Chn.g AIC ⟨348,0,0,1,0,none,BM,[(.ret,BH)],A4,[],[]⟩ eB Tryz.func348 yi
def zH:=Chn.g AEb ⟨349,0,0,2,0,none,J4,[(.ret,BM)],A4,[],[]⟩ eV Tryz.func349 qI
def UE:=Chn.g zH ⟨351,0,0,3,0,none,AKT,[(.ret,cn)],A4,[],[]⟩ vY Tryz.func351 AEd
theorem AEa:Tryz.f327.body.isSome=true:=by kernel_rfl
theorem AEZ : (Tryz.f327.name == "runtime.NumGoroutine") = false := by kernel_rfl
theorem AEY:loops (Bz Tryz.f327)=0:=by kernel_rfl
def ZN[Lk]:Env:=UE.e.ext 327 false false (CE Tryz.prog UE.e {} Tryz.f327)
theorem aX:BE Tryz.prog ZN:=Env.CA UE.h (Bn UE.h Tryz.func327 AEa AEZ AEY) (by simp) (by simp)
def AFB:=Chn.g ⟨ZN,aX⟩ ⟨350,0,0,2,0,some (1,327),AFA,[(.ret,AE9)],BL,[],[(0,zP,zO)]⟩ XY Tryz.func350 zQ
def yk:=Chn.g AFB ⟨326,0,0,4,0,some (3,327),yj,[(.ret,bQ)],PT,[],[(0,p9,pz),(1,p8,py),(2,p7,px)]⟩ eD Tryz.func326 qA
def AKS:=Chn.g yk ⟨280,0,0,3,0,none,vU,[(.ret,bQ)],PT,[],[]⟩ vW Tryz.func280 AEX
def AFz:=Chn.g AKS ⟨284,0,0,2,0,none,AFy,[(.ret,AFx)],A4,[],[(0,zw,zv)]⟩ qu Tryz.func284 zx
def zt:=Chn.g AFz ⟨283,0,0,3,0,none,vU,[(.ret,ER)],D5,[],[(0,qq,qp)]⟩ ek Tryz.func283 qt
def AFd:=Chn.g zt ⟨235,0,0,3,0,none,AFc,[(.ret,ER)],D5,[(1,[[],[],[],[0],[2]])],[]⟩ ql Tryz.func235 zi
def AKx:=Chn.g AFd ⟨233,0,0,4,0,none,AKw,[(.ret,ER)],D5,[],[(0,AFK,AFI),(1,AFJ,AFH)]⟩ AFM Tryz.func233 AFL
def zW:=Chn.g AKx ⟨234,0,0,2,0,none,zV,[(.ret,zU)],BL,[],[(0,qV,qU)]⟩ eY Tryz.func234 qW
def ACZ:=Chn.g zW ⟨183,0,0,2,0,none,cj,[(.ret,ACY)],PT,[(5,[[],[10],[0],[0],[0],[0],[18]])],[(0,tv,tu)]⟩ gZ Tryz.func183 tx
def AND:=Chn.g ACZ ⟨100,0,0,2,0,none,cj,[(.ret,ANC)],D5,[],[]⟩ AId Tryz.func100 AIc
def Qp:=Chn.g AND ⟨46,0,0,2,0,none,AIi,[(.ret,AIh)],D5,[],[(0,ACh,ACf),(1,ACg,ACe)]⟩ SK Tryz.func46 ACi
theorem ADZ:Tryz.f115.body.isSome=true:=by kernel_rfl
theorem ADY : (Tryz.f115.name == "runtime.NumGoroutine") = false := by kernel_rfl
theorem ADX:loops (Bz Tryz.f115)=0:=by kernel_rfl
def RH[Lk]:Env:=Qp.e.ext 115 false false (CE Tryz.prog Qp.e {} Tryz.f115)
theorem T7:BE Tryz.prog RH:=Env.CA Qp.h (Bn Qp.h Tryz.func115 ADZ ADY ADX) (by simp) (by simp)
def fu:=Chn.g ⟨RH,T7⟩ ⟨134,0,1,2,0,some (1,115),QP,[(.ret,fq)],A4,[],[(0,Z4,Z3)]⟩ Ou Tryz.func134 Z5
def AE6:=Chn.g fu ⟨91,0,0,2,0,none,Jf,[(.ret,BM)],A4,[],[(0,zI,FL)]⟩ XS Tryz.func91 bj
def AE8:=Chn.g AE6 ⟨92,0,0,1,0,none,BM,[(.ret,Ey)],A4,[],[(0,zM,xG)]⟩ XX Tryz.func92 bm
def AEk:=Chn.g AE8 ⟨94,0,1,2,0,none,L5,[(.ret,jr)],A4,[],[(0,yq,yp)]⟩ RW Tryz.func94 bT
def AKi:=Chn.g AEk ⟨176,0,1,3,0,none,ER,[(.ret,ve)],A4,[],[]⟩ vf Tryz.func176 jt
def tV:=Chn.g AKi ⟨175,0,1,2,0,some (1,176),tU,[(.ret,Yh)],A4,[],[(0,nK,nJ)]⟩ Qm Tryz.func175 TJ
def AEm:=Chn.g tV ⟨93,0,1,2,0,none,AEl,[(.ret,Yh)],A4,[],[]⟩ XK Tryz.func93 bU
def XO:=Chn.g AEm ⟨41,0,0,2,0,none,Jf,[(.ret,L5)],BL,[],[(0,jz,jy)]⟩ IP Tryz.func41 Sq
theorem AI3 : (Tryz.f105.name == "runtime.NumGoroutine") = false := by kernel_rfl
theorem gp:FA Tryz.prog Tryz.f105 22 152 (.prod (.int .i64) (.prod (.int .i64) (.prod (.int .i64) (.prod .bool .unit)))) where
 body:=by kernel_rfl
 nt:=by kernel_rfl
 res:=by kernel_rfl
 d:=⟨by kernel_rfl,by kernel_rfl,by kernel_rfl,by kernel_rfl,by kernel_rfl,by kernel_rfl,by kernel_rfl,by kernel_rfl⟩
 g:=⟨by kernel_rfl,by kernel_rfl,by kernel_rfl,by kernel_rfl,by kernel_rfl,by kernel_rfl,by kernel_rfl,by kernel_rfl⟩
 o00:=by kernel_rfl
 o10:=by kernel_rfl
 o11:=by kernel_rfl
 o20:=by kernel_rfl
 o30:=by kernel_rfl
 o31:=by kernel_rfl
 o32:=by kernel_rfl
 o33:=by kernel_rfl
 sl:=by kernel_rfl
 z:=by kernel_rfl
 by1:=by kernel_rfl
def oX[Lk]:Env:=XO.e.ext 105 true true (Dj 152 (.prod (.int .i64) (.prod (.int .i64) (.prod (.int .i64) (.prod .bool .unit)))))
theorem oW:BE Tryz.prog oX:=Env.CA XO.h (Ka gp Tryz.func105 AI3) (fun _=>B4 _ _) (fun _=>(B4 _ _).pL)
def AL8:=Chn.g ⟨oX,oW⟩ ⟨384,0,0,2,0,none,J4,[(.ret,BH)],A4,[],[]⟩ Cs Tryz.func384 mN
def APg:=Chn.g AL8 ⟨378,0,1,3,0,none,ER,[(.ret,Il)],Bw,[(4,[[],[],[],[],[],[],[0],[0],[],[],[],[0],[0]]),(6,[[],[],[],[],[],[],[],[],[0],[0],[],[],[0],[0],[0],[1],[0],[1]])],[(0,AMO,fg),(1,AMN,AMM)]⟩ ARA Tryz.func378 AMP
def AKo:=Chn.g APg ⟨393,0,1,4,0,none,JG,[(.ret,Il)],Bw,[(6,[[],[],[],[],[],[],[],[],[],[],[],[],[0],[0],[],[],[],[],[0],[0],[0],[1],[0],[1]]),(5,[[],[],[],[],[0],[0],[],[],[],[],[0],[0]]),(3,[[],[],[],[],[],[],[],[],[],[0],[0],[],[],[],[],[],[0],[0]])],[(0,AEu,AEt)]⟩ ANs Tryz.func393 AEv
def AMd:=Chn.g AKo ⟨379,0,1,3,0,none,ER,[(.ret,Il)],Bw,[(10,[[],[],[],[],[],[],[],[],[],[],[0],[0],[],[],[0],[0],[0],[1],[0],[1]])],[(0,AHq,AHo),(1,AHp,AHn)]⟩ AN7 Tryz.func379 AHr
def AJP:=Chn.g AMd ⟨380,0,1,3,0,none,ER,[(.ret,Il)],Bw,[(10,[[],[],[],[],[],[],[],[],[],[],[0],[0],[],[],[0],[0],[0],[1],[0],[1]])],[(0,ADN,fg)]⟩ AJQ Tryz.func380 ADO
def AAk:=Chn.g AJP ⟨397,0,2,4,0,none,AAi,[(.ret,AAh)],BL,[(1,[[],[],[0],[0],[],[],[0],[0]])],[]⟩ wM Tryz.func397 sG
def AA3:=Chn.g AAk ⟨395,0,2,5,0,none,AA1,[(.ret,cE)],A4,[],[]⟩ wX Tryz.func395 sT
def ABF:=Chn.g AA3 ⟨394,0,2,3,0,none,ABD,[(.ret,cE)],A4,[],[]⟩ wc Tryz.func394 sY
def AGC:=Chn.g ABF ⟨381,0,1,3,0,none,ER,[(.ret,AGA)],BL,[],[]⟩ AGD Tryz.func381 z6
def AOj:=Chn.g AGC ⟨382,0,1,3,0,none,ER,[(.ret,Il)],Bw,[(3,[[],[],[],[],[],[],[0],[0],[],[],[0],[0],[0],[1],[0],[1]])],[(0,AK4,fg)]⟩ AQq Tryz.func382 AK5
def rZ:=Chn.g AOj ⟨383,0,1,3,0,none,ER,[(.ret,ve)],A4,[(11,[[],[],[],[],[],[],[],[],[0],[0],[],[],[0],[0],[0],[1],[0],[1]]),(5,[[],[],[],[],[],[],[0],[0],[],[],[],[0],[0]]),(17,[[],[],[],[],[],[],[],[],[0],[0],[],[],[0],[0],[0],[1],[0],[1]]),(16,[[],[],[0],[0],[],[],[],[0],[0]]),(23,[[],[],[],[],[],[],[],[],[0],[0],[],[],[0],[0],[0],[1],[0],[1]]),(22,[[],[],[0],[0],[],[],[],[0],[0]])],[(0,Sx,lP),(1,Sx,lO),(2,lR,lN),(3,lQ,lM)]⟩ lT Tryz.func383 lS
def AAU:=Chn.g rZ ⟨385,0,1,4,0,none,JG,[(.ret,jr)],A4,[(8,[[],[],[],[],[],[],[0],[0],[],[],[0],[0],[0],[1],[0],[1]]),(3,[[],[],[],[],[],[],[0],[0],[],[],[0],[0]]),(5,[[],[],[],[],[],[],[0],[0],[],[],[0],[0]]),(1,[[],[],[],[],[],[],[0],[0],[],[],[0],[0],[0],[1],[0],[1]])],[(0,OU,rz),(1,OU,ry),(2,OU,ru)]⟩ wI Tryz.func385 r6
def UR:=Chn.g AAU ⟨386,0,1,4,0,none,JG,[(.ret,ALf)],BL,[(3,[[],[],[],[],[],[],[0],[0],[],[],[0],[0]]),(5,[[],[],[],[],[],[],[0],[0],[],[],[0],[0]]),(18,[[],[],[],[],[],[],[0],[0],[],[],[0],[0],[0],[1],[0],[1]]),(13,[[],[],[],[],[],[],[0],[0],[],[],[0],[0]]),(15,[[],[],[],[],[],[],[0],[0],[],[],[0],[0]]),(21,[[],[],[],[],[],[],[0],[0],[],[],[0],[0],[0],[1],[0],[1]]),(10,[[],[],[],[],[],[],[0],[0],[],[],[0],[0],[0],[1],[0],[1]]),(8,[[],[],[],[],[],[],[0],[0],[],[],[0],[0],[0],[1],[0],[1]]),(1,[[],[],[],[],[],[],[0],[0],[],[],[0],[0],[0],[1],[0],[1]])],[(0,MH,AGn),(1,MH,AGm),(2,MH,AGl),(3,MH,AGk),(4,MH,AGj)]⟩ AN0 Tryz.func386 AGo
abbrev rM(self:(List Int×Int×Int×Int×Unit)->Option ((List Int×Unit))):Hints:={ loop:=fun n=>match n with|0=>K9 1 134 wC wB (wA self)|_=>fun _ _ _=>none,fp:=fun n=>match n with|17=>[[],[],[],[],[],[],[0],[0],[],[],[0],[0],[],[],[]]|_=>[] }
abbrev fG(self:(List Int×Int×Int×Int×Unit)->Option ((List Int×Unit))):Env:=UR.e.ext 354 false true (BU 1 4 JG Il Bw self)
theorem rL(self:(List Int×Int×Int×Int×Unit)->Option ((List Int×Unit))):∀ v,wA self v=roundOf Tryz.prog (fG self) (rM self) 1 1 134 (DF Tryz.f354 0) wC wB v:=by rintro⟨a,b,c,d,e,f,⟨⟩⟩;kernel_rfl
theorem ALS:CZ (DF Tryz.f354 0) 1=[]:=by kernel_rfl
theorem ALT(self:(List Int×Int×Int×Int×Unit)->Option ((List Int×Unit)))(a:BE Tryz.prog (fG self)):I7 Tryz.prog 1 (.loop (DF Tryz.f354 0)) ((rM self).loop 0):=P9 a (rL self) (Dz ALS trivial)
theorem AGU(self:(List Int×Int×Int×Int×Unit)->Option ((List Int×Unit))):∀ v,AO8 self v=Da 1 Tryz.prog (fG self) (rM self) Tryz.f354 JG Il Bw v:=by rintro⟨a,b,c,d,⟨⟩⟩;kernel_rfl
theorem AO7:CZ (Bz Tryz.f354) 0=[(0,DF Tryz.f354 0)]:=by kernel_rfl
theorem rN:∀ n,BQ Tryz.prog 354 (BU 1 4 JG Il Bw (Xs n)):=by
 intro n;induction n with
  |zero=>exact FK fun _=>rfl
  |succ n b=>have a:BE Tryz.prog (fG (Xs n)):=Env.CA UR.h b ((by simp)) (fun _=>CM rfl rfl);let self:=Xs n;exact Gc a Tryz.func354 (by kernel_rfl) (by kernel_rfl) rfl (AGU self) (Dz AO7 ⟨(ALT self a),trivial⟩)
theorem AAK:BQ Tryz.prog 354 (BU 1 4 JG Il Bw ALV):=by have e:ALV=Xs 100:=funext ALU;rw[e];exact rN _
def AJw[Lk]:Env:=UR.e.ext 354 false true (BU 1 4 JG Il Bw ALV)
theorem ADj:BE Tryz.prog AJw:=Env.CA UR.h AAK ((by simp)) (fun _=>CM rfl rfl)
def AKa:=Chn.g ⟨AJw,ADj⟩ ⟨336,0,1,1,0,none,Ey,[(.ret,Il)],Bw,[],[]⟩ AEh Tryz.func336 AEg
def AP7:=Chn.g AKa ⟨333,0,0,3,0,some (2,169),AP6,[(.ret,uk)],BL,[(5,[[],[],[],[],[],[0]]),(8,[[],[],[],[],[],[],[],[],[],[],[0]])],[(0,ANU,ANT)]⟩ AP8 Tryz.func333 ANV
def P7:=Chn.g AP7 ⟨298,0,0,3,0,none,P6,[(.ret,uk)],BL,[],[]⟩ sf Tryz.func298 ABO
theorem sQ:Tryz.f335.body.isSome=true:=by kernel_rfl
theorem sP : (Tryz.f335.name == "runtime.NumGoroutine") = false := by kernel_rfl
theorem sO:loops (Bz Tryz.f335)=0:=by kernel_rfl
def N8[Lk]:Env:=P7.e.ext 335 false false (CE Tryz.prog P7.e {} Tryz.f335)
theorem Sc:BE Tryz.prog N8:=Env.CA P7.h (Bn P7.h Tryz.func335 sQ sP sO) (by simp) (by simp)
def YM:=Chn.g ⟨N8,Sc⟩ ⟨134,0,2,2,0,some (1,335),Mc,[(.ret,YL)],A4,[],[(0,Tf,Te)]⟩ LK Tryz.func134 Tg
def AMh:=Chn.g YM ⟨251,0,0,2,0,none,AMg,[(.ret,wy)],A4,[],[]⟩ AHz Tryz.func251 AHy
def NW:=Chn.g AMh ⟨193,0,0,1,0,none,ACy,[(.ret,wy)],A4,[],[(0,uR,uP),(1,uQ,uO)]⟩ gl Tryz.func193 uS
theorem AFt:Tryz.f254.body.isSome=true:=by kernel_rfl
theorem AFs : (Tryz.f254.name == "runtime.NumGoroutine") = false := by kernel_rfl
theorem AFr:loops (Bz Tryz.f254)=0:=by kernel_rfl
theorem APN:Tryz.f253.body.isSome=true:=by kernel_rfl
theorem APM : (Tryz.f253.name == "runtime.NumGoroutine") = false := by kernel_rfl
theorem APL:loops (Bz Tryz.f253)=0:=by kernel_rfl
theorem ACn:Tryz.f212.body.isSome=true:=by kernel_rfl
theorem ACm : (Tryz.f212.name == "runtime.NumGoroutine") = false := by kernel_rfl
theorem ACl:loops (Bz Tryz.f212)=0:=by kernel_rfl
def RB[Lk]:Env:=NW.e.ext 212 false false (CE Tryz.prog NW.e {} Tryz.f212)
theorem T6:BE Tryz.prog RB:=Env.CA NW.h (Bn NW.h Tryz.func212 ACn ACm ACl) (by simp) (by simp)
def EC:=Chn.g ⟨RB,T6⟩ ⟨134,0,1,2,0,some (1,212),JX,[(.ret,QO)],A4,[],[(0,Ot,Oq)]⟩ HN Tryz.func134 Ir
theorem AQF:Tryz.f141.body.isSome=true:=by kernel_rfl
theorem AQE : (Tryz.f141.name == "runtime.NumGoroutine") = false := by kernel_rfl
theorem AQD:loops (Bz Tryz.f141)=0:=by kernel_rfl
def dN[Lk]:Env:=EC.e.ext 141 false false (CE Tryz.prog EC.e {} Tryz.f141)
theorem jF:BE Tryz.prog dN:=Env.CA EC.h (Bn EC.h Tryz.func141 AQF AQE AQD) (by simp) (by simp)
def Qs:=Chn.g ⟨dN,jF⟩ ⟨140,0,2,2,0,some (1,141),AIv,[(.ret,AIu)],A4,[],[(0,ACx,ACw)]⟩ Yr Tryz.func140 ct
theorem AQC:Tryz.f142.body.isSome=true:=by kernel_rfl
theorem AQB : (Tryz.f142.name == "runtime.NumGoroutine") = false := by kernel_rfl
theorem AQA:loops (Bz Tryz.f142)=0:=by kernel_rfl
def dM[Lk]:Env:=Qs.e.ext 142 false false (CE Tryz.prog Qs.e {} Tryz.f142)
theorem jE:BE Tryz.prog dM:=Env.CA Qs.h (Bn Qs.h Tryz.func142 AQC AQB AQA) (by simp) (by simp)
def AIt:=Chn.g ⟨dM,jE⟩ ⟨140,0,0,2,0,some (1,142),AIs,[(.ret,BM)],A4,[],[(0,ACv,ACu)]⟩ gi Tryz.func140 cr
def xv:=Chn.g AIt ⟨83,0,0,2,0,none,xu,[(.ret,uk)],BL,[],[]⟩ vE Tryz.func83 oi
def AM2:=Chn.g xv ⟨107,0,0,2,0,none,X9,[(.ret,BM)],A4,[],[]⟩ Ct Tryz.func107 mo
def APc:=Chn.g AM2 ⟨239,0,1,4,0,some (3,107),Rx,[(.ret,Ij)],Bw,[(4,[[],[],[],[],[],[],[],[0],[0],[],[],[],[0],[0]]),(6,[[],[],[],[],[],[],[],[],[0],[0],[],[],[0],[0],[0],[1],[0],[1]])],[(0,AMG,fe),(1,AMF,AME)]⟩ AQ8 Tryz.func239 AMH
def AKk:=Chn.g APc ⟨293,0,1,5,0,some (4,107),JE,[(.ret,Ij)],Bw,[(6,[[],[],[],[],[],[],[],[],[],[],[],[],[0],[0],[],[],[],[],[0],[0],[0],[1],[0],[1]]),(5,[[],[],[],[],[],[0],[0],[],[],[],[],[0],[0]]),(3,[[],[],[],[],[],[],[],[],[],[],[0],[0],[],[],[],[],[],[0],[0]])],[(0,AEo,AEn)]⟩ ANq Tryz.func293 AEp
def AMZ:=Chn.g AKk ⟨240,0,1,4,0,some (3,107),Rx,[(.ret,Ij)],Bw,[(10,[[],[],[],[],[],[],[],[],[],[],[0],[0],[],[],[0],[0],[0],[1],[0],[1]])],[(0,AHg,AHe),(1,AHf,AHd)]⟩ AN5 Tryz.func240 AHh
def AJK:=Chn.g AMZ ⟨241,0,1,4,0,some (3,107),Rx,[(.ret,Ij)],Bw,[(10,[[],[],[],[],[],[],[],[],[],[],[0],[0],[],[],[0],[0],[0],[1],[0],[1]])],[(0,ADJ,fe)]⟩ breakT Tryz.func241 ADK
def AAc:=Chn.g AJK ⟨332,0,2,5,0,some (4,107),AAa,[(.ret,AAZ)],BL,[(1,[[],[],[],[0],[0],[],[],[0],[0]])],[]⟩ wK Tryz.func332 sE
def AAx:=Chn.g AAc ⟨297,0,2,6,0,some (5,107),AAv,[(.ret,cC)],A4,[],[]⟩ wV Tryz.func297 sR
def AA9:=Chn.g AAx ⟨296,0,2,4,0,some (3,107),AA7,[(.ret,cC)],A4,[],[]⟩ wZ Tryz.func296 sW
def AF4:=Chn.g AA9 ⟨242,0,1,4,0,some (3,107),Rx,[(.ret,AF2)],BL,[],[]⟩ AF5 Tryz.func242 z4
def AOf:=Chn.g AF4 ⟨243,0,1,4,0,some (3,107),Rx,[(.ret,Ij)],Bw,[(3,[[],[],[],[],[],[],[0],[0],[],[],[0],[0],[0],[1],[0],[1]])],[(0,AK0,fe)]⟩ AQo Tryz.func243 AK1
def rU:=Chn.g AOf ⟨244,0,1,4,0,some (3,107),Rx,[(.ret,rS)],A4,[(11,[[],[],[],[],[],[],[],[],[0],[0],[],[],[0],[0],[0],[1],[0],[1]]),(5,[[],[],[],[],[],[],[],[0],[0],[],[],[],[0],[0]]),(17,[[],[],[],[],[],[],[],[],[0],[0],[],[],[0],[0],[0],[1],[0],[1]]),(16,[[],[],[],[0],[0],[],[],[],[0],[0]]),(23,[[],[],[],[],[],[],[],[],[0],[0],[],[],[0],[0],[0],[1],[0],[1]]),(22,[[],[],[],[0],[0],[],[],[],[0],[0]])],[(0,Sv,k7),(1,Sv,k6),(2,k9,k5),(3,k8,k0)]⟩ lD Tryz.func244 lC
def AAP:=Chn.g rU ⟨245,0,1,5,0,some (4,107),JE,[(.ret,AAN)],A4,[(8,[[],[],[],[],[],[],[0],[0],[],[],[0],[0],[0],[1],[0],[1]]),(3,[[],[],[],[],[],[],[],[0],[0],[],[],[0],[0]]),(5,[[],[],[],[],[],[],[],[0],[0],[],[],[0],[0]]),(1,[[],[],[],[],[],[],[0],[0],[],[],[0],[0],[0],[1],[0],[1]])],[(0,OS,rk),(1,OS,rj),(2,OS,ri)]⟩ wG Tryz.func245 rl
def UP:=Chn.g AAP ⟨246,0,1,5,0,some (4,107),JE,[(.ret,ALb)],BL,[(3,[[],[],[],[],[],[],[],[0],[0],[],[],[0],[0]]),(5,[[],[],[],[],[],[],[],[0],[0],[],[],[0],[0]]),(18,[[],[],[],[],[],[],[0],[0],[],[],[0],[0],[0],[1],[0],[1]]),(13,[[],[],[],[],[],[],[],[0],[0],[],[],[0],[0]]),(15,[[],[],[],[],[],[],[],[0],[0],[],[],[0],[0]]),(21,[[],[],[],[],[],[],[0],[0],[],[],[0],[0],[0],[1],[0],[1]]),(10,[[],[],[],[],[],[],[0],[0],[],[],[0],[0],[0],[1],[0],[1]]),(8,[[],[],[],[],[],[],[0],[0],[],[],[0],[0],[0],[1],[0],[1]]),(1,[[],[],[],[],[],[],[0],[0],[],[],[0],[0],[0],[1],[0],[1]])],[(0,ME,AGa),(1,ME,AGZ),(2,ME,AGY),(3,ME,AGX),(4,ME,AGW)]⟩ ANy Tryz.func246 AGb
abbrev rG(self:(List (Int×Int×Int×Bool×Unit)×Int×Int×Int×Unit)->Option ((List (Int×Int×Int×Bool×Unit)×Unit))):Hints:={ loop:=fun n=>match n with|0=>K9 1 148 v5 v3 (vz self)|_=>fun _ _ _=>none,fp:=fun n=>match n with|17=>[[],[],[],[],[],[],[],[0],[0],[],[],[0],[0],[],[],[],[]]|_=>[] }
abbrev fE(self:(List (Int×Int×Int×Bool×Unit)×Int×Int×Int×Unit)->Option ((List (Int×Int×Int×Bool×Unit)×Unit))):Env:=UP.e.ext 186 false true (BU 1 5 JE Ij Bw self)
theorem rF(self:(List (Int×Int×Int×Bool×Unit)×Int×Int×Int×Unit)->Option ((List (Int×Int×Int×Bool×Unit)×Unit))):∀ v,vz self v=roundOf Tryz.prog (fE self) (rG self) 1 1 148 (DF Tryz.f186 0) v5 v3 v:=by rintro⟨a,b,c,d,e,f,⟨⟩⟩;kernel_rfl
theorem ALK:CZ (DF Tryz.f186 0) 1=[]:=by kernel_rfl
theorem ALL(self:(List (Int×Int×Int×Bool×Unit)×Int×Int×Int×Unit)->Option ((List (Int×Int×Int×Bool×Unit)×Unit)))(a:BE Tryz.prog (fE self)):I7 Tryz.prog 1 (.loop (DF Tryz.f186 0)) ((rG self).loop 0):=P9 a (rF self) (Dz ALK trivial)
theorem AGS(self:(List (Int×Int×Int×Bool×Unit)×Int×Int×Int×Unit)->Option ((List (Int×Int×Int×Bool×Unit)×Unit))):∀ v,AO4 self v=Da 1 Tryz.prog (fE self) (rG self) Tryz.f186 JE Ij Bw v:=by rintro⟨a,b,c,d,⟨⟩⟩;kernel_rfl
theorem AO3:CZ (Bz Tryz.f186) 0=[(0,DF Tryz.f186 0)]:=by kernel_rfl
theorem rH:∀ n,BQ Tryz.prog 186 (BU 1 5 JE Ij Bw (Xq n)):=by
 intro n;induction n with
  |zero=>exact FK fun _=>rfl
  |succ n b=>have a:BE Tryz.prog (fE (Xq n)):=Env.CA UP.h b ((by simp)) (fun _=>CM rfl rfl);let self:=Xq n;exact Gc a Tryz.func186 (by kernel_rfl) (by kernel_rfl) rfl (AGS self) (Dz AO3 ⟨(ALL self a),trivial⟩)
theorem AAI:BQ Tryz.prog 186 (BU 1 5 JE Ij Bw ALN):=by have e:ALN=Xq 100:=funext ALM;rw[e];exact rH _
def AJu[Lk]:Env:=UP.e.Tl 186 4 107 (BU 1 5 JE Ij Bw ALN)
theorem ADh:BE Tryz.prog AJu:=Env.Qe UP.h AAI (CM rfl rfl)
def AKW:=Chn.g ⟨AJu,ADh⟩ ⟨106,0,1,2,0,some (1,107),AKU,[(.ret,Ij)],Bw,[],[]⟩ vZ Tryz.func106 AEe
def AMk:=Chn.g AKW ⟨103,0,0,2,0,none,P1,[(.ret,BH)],A4,[],[]⟩ AH1 Tryz.func103 AH0
def gd:=Chn.g AMk ⟨190,0,3,2,8,some (1,191),QT,[(.ret,gb)],A4,[],[(0,aH,aG)]⟩ O4 Tryz.func190 aI
def tA:=Chn.g gd ⟨128,0,0,1,0,none,BM,[(.ret,BH)],A4,[],[]⟩ Mg Tryz.func128 S'
def Sh:=Chn.g tA ⟨221,0,0,1,0,none,BM,[(.ret,BH)],A4,[],[]⟩ wb1 Tryz.func221 AOK
set_option maxHeartbeats 8000000
attribute [local irreducible] A2 A5 Bk C1 HP C5 A3 DX Cn imax idx D0 ilt ile ieq seq? quo? rem? shl? shr? fits CC IntKind.wrap A9 BI Xj sM Ba SH A6 many Mt
abbrev AVo:Loc×Con:=(.cell 0 0,.dat (.slice (.int .u8)))
abbrev AVp:Loc×Con:=(.tmp 0,.box 2)
abbrev Gv:A1:=[AVp,AVo,AUk,(.tmp 1,.clo 221 [])]
abbrev Gu:A1:=[AA,Aw,AVo,AUk]
abbrev IH:List RS:=[.one]
abbrev Lt:A1:=[Aw]
def VU[Lk]:Hints:={ fp:=Qb [(1,[[],[0],[0],[0],[],[0],[0],[0]]),(3,[[],[0],[0],[0],[],[0],[0],[0]])] }
def RN[Lk](v:BV (leaves Gv)):Option (BV (leaves Gu)⊕(List Int×BV (leaves Lt))):=Lk.f (DT 1 Tryz.prog Sh.e VU Tryz.f220 Gv Gu IH 239 [.i64,.i64] Lt v)
theorem aj(v):RN v=DT 1 Tryz.prog Sh.e VU Tryz.f220 Gv Gu IH 239 [.i64,.i64] Lt v:=A0 _
theorem PG:Bu Tryz.prog 1 VU (Bz Tryz.f220) 0:=C6 _ 0 (by kernel_rfl)
theorem yA:Gq Tryz.prog 220 (BU 1 2 Gv Gu IH fun x=>DG (RN x)) (HU 1 2 Gv Gu IH 239 [.i64,.i64] Lt RN):=KJ Sh.h.1 Sh.h.2.1 Sh.h.2.2 Tryz.func220 (Fp (by kernel_rfl)) (CW Tryz.func220 (by kernel_rfl) (by kernel_rfl)) (ASI rfl) aj PG
theorem xz:BQ Tryz.prog 220 (BU 1 2 Gv Gu IH fun x=>DG (RN x)):=KH Sh.h Tryz.func220 (by kernel_rfl) (by kernel_rfl) rfl aj PG
def Q2[Lk]:Env:=Env.TE Sh.e 220 1 221 (BU 1 2 Gv Gu IH fun x=>DG (RN x)) (HU 1 2 Gv Gu IH 239 [.i64,.i64] Lt RN)
theorem HF:BE Tryz.prog Q2:=Env.m7 Sh.h xz yA (CM rfl rfl)
abbrev Gt:A1:=[AVp,AVo,AUk,(.tmp 1,.clo 164 [])]
abbrev Gs:A1:=[AA,Aw,AVo,AUk]
abbrev IG:List RS:=[.one]
abbrev Ls:A1:=[Aw]
def VT[Lk]:Hints:={ fp:=Qb [(1,[[],[0],[0],[0],[],[0],[0],[0]]),(3,[[],[0],[0],[0],[],[0],[0],[0]])] }
def RM[Lk](v:BV (leaves Gt)):Option (BV (leaves Gs)⊕(List Int×BV (leaves Ls))):=Lk.f (DT 1 Tryz.prog Q2 VT Tryz.f220 Gt Gs IG 239 [.i64,.i64] Ls v)
theorem ai(v):RM v=DT 1 Tryz.prog Q2 VT Tryz.f220 Gt Gs IG 239 [.i64,.i64] Ls v:=A0 _
theorem PF:Bu Tryz.prog 1 VT (Bz Tryz.f220) 0:=C6 _ 0 (by kernel_rfl)
theorem xy:Gq Tryz.prog 220 (BU 1 2 Gt Gs IG fun x=>DG (RM x)) (HU 1 2 Gt Gs IG 239 [.i64,.i64] Ls RM):=KJ HF.1 HF.2.1 HF.2.2 Tryz.func220 (Fp (by kernel_rfl)) (CW Tryz.func220 (by kernel_rfl) (by kernel_rfl)) (ASI rfl) ai PF
theorem xx:BQ Tryz.prog 220 (BU 1 2 Gt Gs IG fun x=>DG (RM x)):=KH HF Tryz.func220 (by kernel_rfl) (by kernel_rfl) rfl ai PF
def Q1[Lk]:Env:=Env.TE Q2 220 1 164 (BU 1 2 Gt Gs IG fun x=>DG (RM x)) (HU 1 2 Gt Gs IG 239 [.i64,.i64] Ls RM)
theorem HE:BE Tryz.prog Q1:=Env.m7 HF xx xy (CM rfl rfl)
abbrev JB:A1:=[AVp,AVo,AUk]
abbrev JA:A1:=[AA,Aw,AVo,AUk]
abbrev Ki:List RS:=[.one]
abbrev PD:A1:=[Aw]
def dS[Lk]:Hints:={ fp:=Qb [(1,[[],[0],[0],[0],[],[0],[0],[0]])] }
def ae[Lk](v:BV (leaves JB)):Option (BV (leaves JA)⊕(List Int×BV (leaves PD))):=Lk.f (DT 1 Tryz.prog Q1 dS Tryz.f222 JB JA Ki 239 [.i64,.i64] PD v)
theorem jK(v):ae v=DT 1 Tryz.prog Q1 dS Tryz.f222 JB JA Ki 239 [.i64,.i64] PD v:=A0 _
theorem Sg:Bu Tryz.prog 1 dS (Bz Tryz.f222) 0:=C6 _ 0 (by kernel_rfl)
theorem ADp:Gq Tryz.prog 222 (BU 1 1 JB JA Ki fun x=>DG (ae x)) (HU 1 1 JB JA Ki 239 [.i64,.i64] PD ae):=KJ HE.1 HE.2.1 HE.2.2 Tryz.func222 (Fp (by kernel_rfl)) (CW Tryz.func222 (by kernel_rfl) (by kernel_rfl)) (ASI rfl) jK Sg
theorem ADo:BQ Tryz.prog 222 (BU 1 1 JB JA Ki fun x=>DG (ae x)):=KH HE Tryz.func222 (by kernel_rfl) (by kernel_rfl) rfl jK Sg
def Nb[Lk]:Env:=Env.gS Q1 222 true (BU 1 1 JB JA Ki fun x=>DG (ae x)) (HU 1 1 JB JA Ki 239 [.i64,.i64] PD ae)
theorem EY:BE Tryz.prog Nb:=Env.VB HE ADo ADp (fun _=>CM rfl rfl)
abbrev AVq:Loc×Con:=(.cell 1 2,.own 46 (.prod (.int .i64) (.prod (.int .i64) (.prod (.int .i64) .unit))))
abbrev AVr:Loc×Con:=(.cell 1 1,.own 88 (.prod (.int .i64) (.prod (.int .i64) .unit)))
abbrev ND:A1:=[AVp,AVo,AUk,AUp,AL,AVr,AVq,AVQ,(.tmp 20,.di)]
abbrev NC:BB:=[(.exit 0,[AVp,AVo,AUk,AUp,AL,AVr,AVq])]
abbrev NB:A1:=[Aw]
def al[Lk]:Hints:={ fp:=Qb [(9,[[2],[2],[],[1000005,1],[],[1000005,1],[],[1000005,1],[],[],[7,32],[2],[3]]),(10,[[2],[2],[],[1000005,1],[],[1000005,1],[],[],[5,24],[2],[3]])] }
theorem PI:Bu Tryz.prog 1 { fp:=Qb [(9,[[2],[2],[],[1000005,1],[],[1000005,1],[],[1000005,1],[],[],[7,32],[2],[3]]),(10,[[2],[2],[],[1000005,1],[],[1000005,1],[],[],[5,24],[2],[3]])],loop:=fun _=>K8 1 49 ND NC 239 [.i64,.i64] NB (IW Tryz.prog Nb al 1 1 49 (DF Tryz.f157 0) ND NC 239 [.i64,.i64] NB) } (Bz Tryz.f157) 0:=TQ (l:=[(0,(DF Tryz.f157 0))]) (by kernel_rfl) ⟨X6 EY.1 EY.2.1 EY.2.2 (fun _=>rfl) (C6 _ _ (by kernel_rfl)),trivial⟩
abbrev Gx:A1:=[AVp,AVo,AUk]
abbrev AVs:Loc×Con:=(.tmp 0,.dat (.prod (.int .i64) (.prod (.slice (.prod (.int .i64) (.prod (.int .i64) .unit))) (.prod (.slice (.prod (.int .i64) (.prod (.int .i64) (.prod (.int .i64) .unit)))) .unit))))
abbrev Gw:A1:=[AVs,Aw,AVo,AUk]
abbrev II:List RS:=[.one]
abbrev Lv:A1:=[Aw]
def jO[Lk]:Hints:={ fp:=Qb [(9,[[2],[2],[],[1000005,1],[],[1000005,1],[],[1000005,1],[],[],[7,32],[2],[3]]),(10,[[2],[2],[],[1000005,1],[],[1000005,1],[],[],[5,24],[2],[3]])],loop:=fun _=>K8 1 49 ND NC 239 [.i64,.i64] NB (IW Tryz.prog Nb al 1 1 49 (DF Tryz.f157 0) ND NC 239 [.i64,.i64] NB) }
def RO[Lk](v:BV (leaves Gx)):Option (BV (leaves Gw)⊕(List Int×BV (leaves Lv))):=Lk.f (DT 1 Tryz.prog Nb jO Tryz.f157 Gx Gw II 239 [.i64,.i64] Lv v)
theorem ao(v):RO v=DT 1 Tryz.prog Nb jO Tryz.f157 Gx Gw II 239 [.i64,.i64] Lv v:=A0 _
theorem yC:Gq Tryz.prog 157 (BU 1 1 Gx Gw II fun x=>DG (RO x)) (HU 1 1 Gx Gw II 239 [.i64,.i64] Lv RO):=KJ EY.1 EY.2.1 EY.2.2 Tryz.func157 (Fp (by kernel_rfl)) (CW Tryz.func157 (by kernel_rfl) (by kernel_rfl)) (ASI rfl) ao PI
theorem yB:BQ Tryz.prog 157 (BU 1 1 Gx Gw II fun x=>DG (RO x)):=KH EY Tryz.func157 (by kernel_rfl) (by kernel_rfl) rfl ao PI
def M5[Lk]:Env:=Env.gS Nb 157 false (BU 1 1 Gx Gw II fun x=>DG (RO x)) (HU 1 1 Gx Gw II 239 [.i64,.i64] Lv RO)
theorem HG:BE Tryz.prog M5:=Env.VB EY yB yC (by simp)
abbrev AVt:Loc×Con:=(.tmp 2,.own 91 (.prod (.int .i64) (.prod (.slice (.prod (.int .i64) (.prod (.int .i64) .unit))) (.prod (.slice (.prod (.int .i64) (.prod (.int .i64) (.prod (.int .i64) .unit)))) .unit))))
abbrev AVu:Loc×Con:=(.cell 2 0,.dat (.slice (.int .u8)))
abbrev AVv:Loc×Con:=(.tmp 5,.box 2)
abbrev Kq:A1:=[An,Ap,AK,AL,AVv,AVu,AVF,AVk,AVt]
abbrev Kp:BB:=[(.exit 0,[An,Ap,AK,AL,AVv,AVu,AVF,AVk,AVt])]
abbrev Ko:A1:=[An,Ap,AK,AL,AVt]
def Wk[Lk]:Hints:={}
theorem Zi[DfI]:Bu Tryz.prog 2 { fp:=Qb [(5,[[],[],[4],[4],[4],[],[1],[3]])],loop:=fun _=>K8 2 27 Kq Kp 239 [.i64,.i64] Ko (IW Tryz.prog M5 Wk 1 2 27 (DF Tryz.f77 0) Kq Kp 239 [.i64,.i64] Ko) } (nY 1 (Bz Tryz.f77)) 0:=TQ (l:=[(0,(DF Tryz.f77 0))]) (by kernel_rfl) ⟨X6 HG.1 HG.2.1 HG.2.2 (fun _=>rfl) (C6 _ _ (by kernel_rfl)),trivial⟩
def Nd[Lk]:Env:=M5.ext 156 false false (CE Tryz.prog M5 {} Tryz.f156)
theorem Hm:BE Tryz.prog Nd:=Env.CA HG (Bn HG Tryz.func156 (by kernel_rfl) (by kernel_rfl) (by kernel_rfl)) (by simp) (by simp)
abbrev J1:A1:=[AVk]
abbrev J0:A1:=[(.tmp 0,.dat (.slice (.prod (.int .i64) (.prod (.slice (.prod (.int .i64) (.prod (.int .i64) .unit))) (.prod (.slice (.prod (.int .i64) (.prod (.int .i64) (.prod (.int .i64) .unit)))) .unit))))),AH,AI]
abbrev NF:List RS:=[.one,.one,.one]
abbrev aq:A1:=[An,Ap,AK,AL,AVk,(.tmp 2,.nil (.prod (.int .i64) (.prod (.slice (.prod (.int .i64) (.prod (.int .i64) .unit))) (.prod (.slice (.prod (.int .i64) (.prod (.int .i64) (.prod (.int .i64) .unit)))) .unit))))]
def Wj[Lk]:Hints:={ fp:=Qb [(5,[[],[],[4],[4],[4],[],[1],[3]])],loop:=fun _=>K8 2 27 Kq Kp 239 [.i64,.i64] Ko (IW Tryz.prog M5 Wk 1 2 27 (DF Tryz.f77 0) Kq Kp 239 [.i64,.i64] Ko) }
def Wi:Hints:={ fp:=Qb [(2,[[14],[14],[14],[14],[1],[3]])] }
def Kr[Lk](v:BV (leaves J1)):Option (BV (leaves J0)):=Lk.f (Rf Tryz.prog Nd Tryz.f77 1 J1 J0 NF {} Wj Wi aq 2 v)
theorem ot(v):Kr v=Rf Tryz.prog Nd Tryz.f77 1 J1 J0 NF {} Wj Wi aq 2 v:=A0 _
theorem dW:BQ Tryz.prog 77 (BU 0 1 J1 J0 NF Kr):=mE Hm.1 Hm.2.1 Hm.2.2 Tryz.func77 (Fp (by kernel_rfl)) (CW Tryz.func77 (by kernel_rfl) (by kernel_rfl)) (ASI rfl) ot Zi
def dF[Lk]:Env:=Nd.ext 77 true true (BU 0 1 J1 J0 NF Kr)
theorem iR:BE Tryz.prog dF:=Env.CA Hm dW (fun _=>Hd rfl rfl) (fun _=>CM rfl rfl)
end
end Go.Pev
end
section
namespace Go.Pev
noncomputable section
def vg[Lk]:U9->Option (Uc):=fun(a,_)=>
 some ((ieq a (w64 (IntKind.wrap .u16 a))),())
def AE1[Lk]:=lkk vg
theorem AE0 v:AE1 v=vg v:=A0 _
abbrev Me:A1:=[AD,(.tmp 1,.clo 150 [])]
abbrev Ti:A1:=[AD,(.tmp 1,.clo 150 []),AQ,AR]
def Th[Lk]:Uf->Option (Uf⊕U9⊕(Unit)⊕Unit):=fun(b,c,a,_)=>
 match(ilt a c)with
 |true=>match idx b a with|none=>none|some d=>match AE1 (d,())with|none=>none|some (e,_)=>match(!e)with
  |true=>some (.inr (.inl (a,())))
  |false=>some (.inl (b,c,(w64 (a+1)),()))
 |false=>some (.inr (.inr (.inl ())))
def Mf[Lk]:Ue->Option (U9):=fun(a,_)=>
 match A6 Th many (a,(A2 a),0,())with|none=>none|some r=>match r with
 |.inl (b,_)=>some (b,())
 |.inr r=>match r with
 |.inl _=>some ((-1:Int),())
 |.inr _=>none
def LL[Lk]:=lkk Mf
theorem Tj v:LL v=Mf v:=A0 _
abbrev AIL:A1:=[AVb,AVB]
abbrev ACG:A1:=[AVb,AVB,AP,AO]
def ACF[Lk]:(List U2×List U2×Int×Int×Unit)->Option ((List U2×List U2×Int×Int×Unit)⊕Uc⊕(Unit)⊕Unit):=fun(d,e,f,a,_)=>
 match(ilt a f)with
 |true=>match idx d a with|none=>none|some b=>match idx e a with|none=>none|some c=>match(!(ieq b.1 c.1&&(ieq b.2.1 c.2.1&&(ieq b.2.2.1 c.2.2.1&&((b.2.2.2.1==c.2.2.2.1)&&true)))))with
  |true=>some (.inr (.inl (false,())))
  |false=>some (.inl (d,e,f,(w64 (a+1)),()))
 |false=>some (.inr (.inr (.inl ())))
def nD[Lk]:(List U2×List U2×Unit)->Option (Uc):=fun(a,b,_)=>
 match(!(ieq (A2 a) (A2 b)))with
 |true=>some (false,())
 |false=>match A6 ACF many (a,b,(A2 a),0,())with|none=>none|some r=>match r with
 |.inl (c,_)=>some (c,())
 |.inr r=>match r with
 |.inl _=>some (true,())
 |.inr _=>none
def tL[Lk]:=lkk nD
theorem ACH v:tL v=nD v:=A0 _
abbrev AL1:A1:=[Az,(.tmp 1,.dat Un)]
def wi[Lk]:(Ud×Ud×Unit)->Option (Uc):=fun(a,b,_)=>
 match(ieq a.1 b.1)with
 |true=>match tL (a.2.1,b.2.1,())with|none=>none|some (c,_)=>some (c,())
 |false=>some (false,())
def mJ[Lk]:=lkk wi
theorem AHA v:mJ v=wi v:=A0 _
def Mu[Lk]:U9->Option (Uc):=fun(a,_)=>
 match(ile 0 a)with
 |true=>some ((ile a 1099511627776),())
 |false=>some (false,())
def KW[Lk]:=lkk Mu
theorem Qr v:KW v=Mu v:=A0 _
abbrev AVw:Loc×Con:=(.tmp 0,.dat (.prod Un U3))
abbrev br:A1:=[AVw]
def Rc[Lk]:(V4×Unit)->Option (Uc):=fun(a,_)=>
 match Ex ((a.1.1,(a.1.2.1,())),())with|none=>none|some (b,_)=>match b with
 |true=>match KW (a.2.1,())with|none=>none|some (c,_)=>match c with
  |true=>match KW (a.2.2.1,())with|none=>none|some (d,_)=>some (d,())
  |false=>some (false,())
 |false=>some (false,())
def Pj[Lk]:=lkk Rc
theorem Xf v:Pj v=Rc v:=A0 _
abbrev AHa:A1:=[AVw,AH]
def mc[Lk]:U9->Option ((V4×Int×Unit)):=fun(a,_)=>
 match(ilt a 1)with
 |true=>some (((0,(([]:List U2),())),(0,(0,()))),1,())
 |false=>match(ilt 64 a)with
 |true=>some (((0,(([]:List U2),())),(0,(0,()))),1,())
 |false=>some (((a,(([]:List U2),())),(0,(0,()))),0,())
def YO[Lk]:=lkk mc
theorem ABq v:YO v=mc v:=A0 _
abbrev Yd:BB:=[(.exit 0,[AUQ])]
def Iv[Lk]:Vj->Option (Vj⊕V7⊕Unit):=fun(f,a,c,b,_)=>
 match(ilt b (A2 a))with
 |true=>match idx a b with|none=>none|some d=>match idx a b with|none=>none|some e=>match(fits ((A2 c)+(A2 ([(d.1,(e.2.1,()))]:List U4))))with
  |true=>some (.inl (f,a,(Bk c ([(d.1,(e.2.1,()))]:List U4)),(w64 (b+1)),()))
  |false=>none
 |false=>some (.inr (.inl (c,())))
def SF[Lk]:(Ud×Unit)->Option (V7):=fun(a,_)=>
 match Ex ((a.1,(a.2.1,())),())with|none=>none|some (b,_)=>match(!b)with
 |true=>some (([]:List U4),())
 |false=>match A6 Iv many (a.1,a.2.1,([]:List U4),0,())with|none=>none|some r=>match r with
 |.inl (c,_)=>some (c,())
 |.inr _=>none
def VD[Lk]:=lkk SF
theorem Ye v:VD v=SF v:=A0 _
abbrev ACI:A1:=[AD,AB,AP,AO]
def KT[Lk]:Up->Option (Up⊕Uc⊕(Unit)⊕Unit):=fun(b,c,d,a,_)=>
 match(ilt a d)with
 |true=>match idx b a with|none=>none|some e=>match idx c a with|none=>none|some f=>match(!(ieq e f))with
  |true=>some (.inr (.inl (false,())))
  |false=>some (.inl (b,c,d,(w64 (a+1)),()))
 |false=>some (.inr (.inr (.inl ())))
def YZ[Lk]:V2->Option (Uc):=fun(a,b,_)=>
 match(!(ieq (A2 a) (A2 b)))with
 |true=>some (false,())
 |false=>match A6 KT many (a,b,(A2 a),0,())with|none=>none|some r=>match r with
 |.inl (c,_)=>some (c,())
 |.inr r=>match r with
 |.inl _=>some (true,())
 |.inr _=>none
def SB[Lk]:=lkk YZ
theorem cd v:SB v=YZ v:=A0 _
abbrev AVx:Loc×Con:=(.tmp 1,.dat U8)
abbrev ACJ:A1:=[AW,AVx,(.tmp 2,.clo 136 [])]
abbrev AVy:Loc×Con:=(.tmp 17,.di)
abbrev tO:A1:=[AVx,(.tmp 2,.clo 136 []),(.tmp 15,.dat U8),(.tmp 16,.di),AVy]
abbrev tN:BB:=[(.ret,[AVZ]),(.exit 0,[])]
def Iu[Lk]:(List U6×List U6×Int×Int×Unit)->Option ((List U6×List U6×Int×Int×Unit)⊕Uc⊕(Unit)⊕Unit):=fun(b,c,d,a,_)=>
 match(ilt a d)with
 |true=>match idx c a with|none=>none|some e=>match idx b a with|none=>none|some f=>match SB (e,f,())with|none=>none|some (g,_)=>match(!g)with
  |true=>some (.inr (.inl (false,())))
  |false=>some (.inl (b,c,d,(w64 (a+1)),()))
 |false=>some (.inr (.inr (.inl ())))
def SC[Lk]:(List U6×List U6×Unit)->Option (Uc):=fun(a,b,_)=>
 match(!(ieq (A2 a) (A2 b)))with
 |true=>some (false,())
 |false=>match A6 Iu many (b,a,(A2 a),0,())with|none=>none|some r=>match r with
 |.inl (c,_)=>some (c,())
 |.inr r=>match r with
 |.inl _=>some (true,())
 |.inr _=>none
def Qi[Lk]:=lkk SC
theorem Ya v:Qi v=SC v:=A0 _
abbrev AVz:Loc×Con:=(.tmp 0,.dat Uu)
abbrev ADv:A1:=[AVz,(.tmp 1,.dat Uu)]
def Wm[Lk]:(Uk×Uk×Unit)->Option (Uc):=fun(a,b,_)=>
 match SB (a.1,b.1,())with|none=>none|some (c,_)=>match c with
 |true=>match SB (a.2.1,b.2.1,())with|none=>none|some (d,_)=>match d with
  |true=>match Qi (a.2.2.1,b.2.2.1,())with|none=>none|some (e,_)=>some (e,())
  |false=>some (false,())
 |false=>some (false,())
def dZ[Lk]:=lkk Wm
theorem ar v:dZ v=Wm v:=A0 _
abbrev Nz:A1:=[AD,(.tmp 1,.clo 61 [])]
abbrev YJ:A1:=[AD,(.tmp 1,.clo 61 []),AQ,AR]
def EN[Lk]:Uf->Option (Uf⊕U9⊕(Unit)⊕Unit):=fun(b,c,a,_)=>
 match(ilt a c)with
 |true=>match idx b a with|none=>none|some d=>match(ilt d (-1073741824:Int))with
  |true=>some (.inr (.inl (a,())))
  |false=>match(ilt 1073741824 d)with
  |true=>some (.inr (.inl (a,())))
  |false=>some (.inl (b,c,(w64 (a+1)),()))
 |false=>some (.inr (.inr (.inl ())))
def Js[Lk]:Ue->Option (U9):=fun(a,_)=>
 match A6 EN many (a,(A2 a),0,())with|none=>none|some r=>match r with
 |.inl (b,_)=>some (b,())
 |.inr r=>match r with
 |.inl _=>some ((-1:Int),())
 |.inr _=>none
def MZ[Lk]:=lkk Js
theorem MY v:MZ v=Js v:=A0 _
def Iz[Lk]:Ue->Option (Uc):=fun(a,_)=>
 match MZ (a,())with|none=>none|some (b,_)=>some ((ile 0 b),())
def Hj[Lk]:=lkk Iz
theorem Lm v:Hj v=Iz v:=A0 _
def HZ[Lk]:(Ud×Unit)->Option (Uc):=fun(a,_)=>
 match Ex ((a.1,(a.2.1,())),())with|none=>none|some (b,_)=>match b with
 |true=>match VD ((a.1,(a.2.1,())),())with|none=>none|some (c,_)=>match Gb (a.1,c,())with|none=>none|some (d,_)=>match T_ ((a.1,(a.2.1,())),0,())with|none=>none|some (e,_)=>match Gb (a.1,e,())with|none=>none|some (f,_)=>match Jp (d,f,())with|none=>none|some (g,_)=>some (g,())
 |false=>some (false,())
def IM[Lk]:=lkk HZ
theorem Jj v:IM v=HZ v:=A0 _
def Ln[Lk]:Ue->Option (Uc):=fun(a,_)=>
 match LL (a,())with|none=>none|some (b,_)=>some ((ile 0 b),())
def Jz[Lk]:=lkk Ln
theorem SQ v:Jz v=Ln v:=A0 _
def HQ[Lk]:Ue->Option (Uc):=fun(a,_)=>
 match LJ (a,())with|none=>none|some (b,_)=>some ((ile 0 b),())
def Gn[Lk]:=lkk HQ
theorem KZ v:Gn v=HQ v:=A0 _
abbrev Qu:A1:=[Aw,AK,Av,AE]
def Fj[Lk]:Vm->Option ((Int×List U6×Bool×Unit)):=fun(a,b,c,_)=>
 match Ip (a,b,c,())with|none=>none|some (d,e,f,_)=>some (d,e,(ile 0 f),())
def E0[Lk]:=lkk Fj
theorem Iw v:E0 v=Fj v:=A0 _
def Iy[Lk]:Ue->Option (Uc):=fun(a,_)=>
 match MX (a,())with|none=>none|some (b,_)=>some ((ile 0 b),())
def Hi[Lk]:=lkk Iy
theorem Ll v:Hi v=Iy v:=A0 _
abbrev O5:A1:=[Ae,AVi,AE]
def E_[Lk]:V2->Option ((List Int×Bool×Unit)):=fun(a,b,_)=>
 match HN (a,b,())with|none=>none|some (c,d,_)=>some (c,(ile 0 d),())
def GX[Lk]:=lkk E_
theorem HV v:GX v=E_ v:=A0 _
abbrev aK:A1:=[Aw,AK,AUP,AE]
def N3[Lk]:(List Int×Int×List U2×Unit)->Option ((Int×List U2×Bool×Unit)):=fun(a,b,c,_)=>
 match Ou (a,b,c,())with|none=>none|some (d,e,f,_)=>some (d,e,(ile 0 f),())
def Mw[Lk]:=lkk N3
theorem Yu v:Mw v=N3 v:=A0 _
abbrev Yj:A1:=[AVX,AVf,AL,AVe,(.tmp 0,.win' 0)]
abbrev Tp:A1:=[AVX,AVf,AL,AVe,Aj,AVd,AF,AUO]
abbrev To:BB:=[(.exit 0,[AVX,AVf,AL,AVe,Aj,AF])]
def Tn[Lk]:Vl->Option (Vl⊕(List Int×Int×List U6×Int×Unit)⊕Unit):=fun(a,d,e,c,b,_)=>
 match(ilt b (A2 a))with
 |true=>match idx a b with|none=>none|some f=>match(!(ile d (A5 a (A3 b) 0)))with
  |true=>match idx a c with|none=>none|some g=>some (.inl ((Ba a (A3 c) (A5 a (A3 b) 0)),d,e,(w64 (c+1)),(w64 (b+1)),()))
  |false=>some (.inl (a,d,e,c,(w64 (b+1)),()))
 |false=>some (.inr (.inl (a,d,e,c,())))
def Ms[Lk]:Vm->Option ((List Int×Int×List U6×Int×Unit)):=fun(h,i,j,_)=>
 match LK (h,i,j,())with|none=>none|some (c,e,f,d,_)=>match(ieq d (-1:Int))with
 |true=>some (c,e,f,(A2 c),())
 |false=>match A6 Tn many (c,e,f,d,(w64 (d+1)),())with|none=>none|some r=>match r with
 |.inl (a,k,l,b,_)=>match D0 a b (A2 a)with|none=>none|some g=>match D0 (DX (A3 b) (A3 (A2 g)) 0 a) 0 b with|none=>none|some m=>some ((DX (A3 b) (A3 (A2 g)) 0 a),k,l,(((A3 (A2 m)):Nat):Int),())
 |.inr _=>none
def LU[Lk]:=lkk Ms
theorem Tq v:LU v=Ms v:=A0 _
def Yo[Lk]:V2->Option (Uc):=fun(a,b,_)=>
 match GX (b,a,())with|none=>none|some (d,c,_)=>some ((!c),())
def SO[Lk]:=lkk Yo
theorem cq v:SO v=Yo v:=A0 _
abbrev ADG:A1:=[AD,(.tmp 1,.dat (.prod U0 U3))]
def Sa[Lk]:(List Int×Ub×Unit)->Option (U4):=fun(b,a,_)=>
 match(ieq a.1 1)with
 |true=>match SO (b,([a.2.1,a.2.2.1]:List (Int)),())with|none=>none|some (c,_)=>match(!c)with
  |true=>some (0,10,())
  |false=>match idx b a.2.1 with|none=>none|some d=>match idx b a.2.2.1 with|none=>none|some e=>match(ieq d e)with
  |true=>some (1,0,())
  |false=>some (0,0,())
 |false=>match(ieq a.1 2)with
 |true=>match SO (b,([a.2.1]:List (Int)),())with|none=>none|some (f,_)=>match(!f)with
  |true=>some (0,10,())
  |false=>match(ieq a.1 2)with
  |true=>match idx b a.2.1 with|none=>none|some g=>some (g,0,())
  |false=>match Yr (b,b,a.1,a.2.1,a.2.2.1,())with|none=>none|some (m,n,o,p,h,_)=>some (h,0,())
 |false=>match(ieq a.1 3)with
 |true=>match SO (b,([a.2.1]:List (Int)),())with|none=>none|some (i,_)=>match(!i)with
  |true=>some (0,10,())
  |false=>match(ieq a.1 2)with
  |true=>match idx b a.2.1 with|none=>none|some j=>some (j,0,())
  |false=>match Yr (b,b,a.1,a.2.1,a.2.2.1,())with|none=>none|some (q,r,s,t,k,_)=>some (k,0,())
 |false=>match(ieq a.1 4)with
 |true=>match gi (b,())with|none=>none|some (l,_)=>some (l,0,())
 |false=>some (0,1,())
def Qy[Lk]:=lkk Sa
theorem Y6 v:Qy v=Sa v:=A0 _
abbrev yw:A1:=[(.tmp 0,.dat Vf)]
abbrev AV0:Loc×Con:=(.tmp 0,.own 5 (.int .u8))
abbrev bY:A1:=[AV0,AH]
abbrev qF:A1:=[(.tmp 5,.own 5 (.int .u8)),(.tmp 33,.own 3 U0),(.tmp 34,.di),(.tmp 35,.di)]
abbrev qE:BB:=[(.exit 0,[(.tmp 5,.own 5 (.int .u8))])]
def qD[Lk]:Up->Option (Up⊕Ue⊕Unit):=fun(c,b,d,a,_)=>
 match(ilt a d)with
 |true=>match idx b a with|none=>none|some f=>match shr? .i64 (A5 b (A3 a) 0) 8 with|none=>none|some e=>match(fits ((A2 c)+(A2 ([(IntKind.wrap .u8 e),(IntKind.wrap .u8 (A5 b (A3 a) 0))]:List (Int)))))with
  |true=>some (.inl ((Bk c ([(IntKind.wrap .u8 e),(IntKind.wrap .u8 (A5 b (A3 a) 0))]:List (Int))),b,d,(w64 (a+1)),()))
  |false=>none
 |false=>some (.inr (.inl (c,())))
def bZ[Lk]:(Uw×Unit)->Option (Uj):=fun(a,_)=>
 match LV (([([a.2.1,(A2 a.2.2.1)]:List (Int)),a.2.2.1]:List U6),())with|none=>none|some (b,_)=>match(!(ieq a.1 (w64 (IntKind.wrap .u8 a.1))))with
 |true=>some (([]:List (Int)),1,())
 |false=>match Jz (b,())with|none=>none|some (c,_)=>match c with
 |true=>some (([]:List (Int)),1,())
 |false=>match A6 qD many (([(IntKind.wrap .u8 a.1)]:List (Int)),b,(A2 b),0,())with|none=>none|some r=>match r with
 |.inl (d,_)=>some (d,0,())
 |.inr _=>none
def eN[Lk]:=lkk bZ
theorem qG v:eN v=bZ v:=A0 _
def Xb[Lk]:Ue->Option (Uc):=fun(a,_)=>
 match(ilt 1000 (A2 a))with
 |true=>some (false,())
 |false=>match Gn (a,())with|none=>none|some (b,_)=>match(!b)with
 |true=>match once (a,())with|none=>none|some (c,_)=>some (c,())
 |false=>some (false,())
def MC[Lk]:=lkk Xb
theorem bo v:MC v=Xb v:=A0 _
abbrev Xm:A1:=[AU,As]
abbrev z3:A1:=[AD,AX,(.tmp 12,.dat U5),AO,AU8]
abbrev z0:BB:=[(.exit 0,[AX])]
def H6[Lk]:Uz->Option (Uz⊕Ue⊕Unit):=fun(c,a,d,e,b,_)=>
 match(ilt b e)with
 |true=>match idx d b with|none=>none|some g=>match MU (c,g,())with|none=>none|some (f,_)=>match(fits ((A2 a)+(A2 ([f]:List (Int)))))with
  |true=>some (.inl (c,(Bk a ([f]:List (Int))),d,e,(w64 (b+1)),()))
  |false=>none
 |false=>some (.inr (.inl (a,())))
def Xn[Lk]:V2->Option ((List Int×Bool×Unit)):=fun(a,b,_)=>
 match MC (a,())with|none=>none|some (d,_)=>match(!d)with
 |true=>some (([]:List (Int)),false,())
 |false=>match A6 H6 many (a,([]:List (Int)),b,(A2 b),0,())with|none=>none|some r=>match r with
 |.inl (c,_)=>match GW (c,(-1:Int),())with|none=>none|some (e,_)=>some (c,(!e),())
 |.inr _=>none
def places[Lk]:=lkk Xn
theorem b7 v:places v=Xn v:=A0 _
def ec[Lk]:Uj->Option ((List Int×Bool×Unit)):=fun(a,c,_)=>
 match places (a,([c]:List (Int)),())with|none=>none|some (b,d,_)=>match(!d)with
 |true=>some (([]:List (Int)),false,())
 |false=>match idx b 0 with|none=>none|some f=>match Wu (a,(A5 b 0 0),())with|none=>none|some (e,_)=>some (e,true,())
def kP[Lk]:=lkk ec
theorem kO v:kP v=ec v:=A0 _
def Xc[Lk]:Ue->Option (Ue):=fun(a,_)=>
 match MC (a,())with|none=>none|some (b,_)=>match(!b)with
 |true=>some (([]:List (Int)),())
 |false=>match(ieq (A2 a) 0)with
 |true=>some (([]:List (Int)),())
 |false=>match AG4 (a,())with|none=>none|some (c,_)=>match MU (a,c,())with|none=>none|some (d,_)=>match Wu (a,d,())with|none=>none|some (e,_)=>some (e,())
def eZ[Lk]:=lkk Xc
theorem bp v:eZ v=Xc v:=A0 _
abbrev AD8:A1:=[Af]
abbrev yN:A1:=[Ac,AVP,(.tmp 79,.di)]
abbrev yK:BB:=[(.ret,[AJ]),(.exit 4,[])]
def Hp[Lk]:(List Um×Int×Int×Unit)->Option ((List Um×Int×Int×Unit)⊕Uc⊕(Unit)⊕Unit):=fun(b,c,a,_)=>
 match(ilt a c)with
 |true=>match(ieq ((A9 b a).getD 0) 0)with
  |true=>some (.inr (.inl (false,())))
  |false=>some (.inl (b,c,(w64 (a+1)),()))
 |false=>some (.inr (.inr (.inl ())))
abbrev AV1:Loc×Con:=(.tmp 18,.di)
abbrev AV2:Loc×Con:=(.tmp 29,.di)
abbrev AV3:Loc×Con:=(.tmp 47,.di)
abbrev AV4:Loc×Con:=(.tmp 28,.di)
abbrev AV5:Loc×Con:=(.tmp 42,.di)
abbrev yO:A1:=[AUR,AK,Av,Ac,AS,(.tmp 16,.dat U8),AVy,AV1,(.tmp 26,.dat U5),AV4,AV2,(.tmp 30,.dat .bool),(.tmp 33,.dat U5),(.tmp 34,.dat .bool),(.tmp 35,.dat .bool),(.tmp 38,.dat U5),AUx,(.tmp 40,.dat U5),AV5,(.tmp 43,.dat .bool),(.tmp 46,.ptr' 0 0),AV3,(.tmp 48,.dat U5),(.tmp 49,.dat .bool),(.tmp 50,.dat .bool),(.tmp 55,.dat U5),(.tmp 56,.di),AVT]
abbrev yL:BB:=[(.ret,[AJ]),(.exit 2,[AUR,AK,Av,Ac,AS,(.tmp 16,.dat U8),AVy,AV1,(.tmp 26,.dat U5),AV4,AV2,(.tmp 30,.dat .bool),(.tmp 33,.dat U5),(.tmp 34,.dat .bool),(.tmp 35,.dat .bool),(.tmp 38,.dat U5),AUx,(.tmp 40,.dat U5),AV5,(.tmp 43,.dat .bool),(.tmp 46,.ptr' 0 0),AV3,(.tmp 48,.dat U5),(.tmp 49,.dat .bool),(.tmp 50,.dat .bool)])]
def Hq[Lk]:V5->Option (V5⊕Uc⊕(Int×List U6×List Um×Int×List U6×Int×Int×List Int×Int×Int×Bool×List Int×Bool×Bool×List Int×Int×List Int×Int×Bool×Int×List Int×Bool×Bool×Unit)⊕Unit):=fun(c,e,a,f,g,h,i,j,k,l,m,n,o,p,q,r,s,t,u,v,w,x,y,z,A,d,_)=>
 match(ilt d A)with
 |true=>match idx z d with|none=>none|some b=>match(ilt b c)with
  |true=>match(ilt 0 ((A9 a b).getD 0))with
   |true=>some (.inr (.inl (false,())))
   |false=>some (.inl (c,e,(BI a b (w64 (((A9 a b).getD 0)+1))),f,g,h,i,j,k,l,m,n,o,p,q,r,s,t,u,v,w,x,y,z,A,(w64 (d+1)),()))
  |false=>some (.inl (c,e,(BI a b (w64 (((A9 a b).getD 0)+1))),f,g,h,i,j,k,l,m,n,o,p,q,r,s,t,u,v,w,x,y,z,A,(w64 (d+1)),()))
 |false=>some (.inr (.inr (.inl (c,e,a,f,g,h,i,j,k,l,m,n,o,p,q,r,s,t,u,v,w,x,y,()))))
abbrev yP:A1:=[AUR,AK,Av,Ac,AS,(.tmp 16,.dat U8),AVy,AV1]
abbrev yM:BB:=[(.ret,[AJ]),(.exit 0,[AUR,AK,Av,Ac])]
def Fz[Lk]:(Int×List U6×List Um×Int×List U6×Int×Int×Unit)->Option ((Int×List U6×List Um×Int×List U6×Int×Int×Unit)⊕Uc⊕(Int×List U6×List Um×Unit)⊕Unit):=fun(b,j,k,c,l,m,d,_)=>
 match(ilt d m)with
 |true=>match idx l d with|none=>none|some a=>match(ieq (A2 a) 0)with
  |true=>some (.inr (.inl (false,())))
  |false=>match idx a 0 with|none=>none|some e=>match(ile e c)with
  |true=>some (.inr (.inl (false,())))
  |false=>match MC (a,())with|none=>none|some (f,_)=>match(!f)with
  |true=>some (.inr (.inl (false,())))
  |false=>match AG4 (a,())with|none=>none|some (g,_)=>match idx a 0 with|none=>none|some h=>match(!(ieq g h))with
  |true=>some (.inr (.inl (false,())))
  |false=>match goes (b,a,())with|none=>none|some (i,_)=>match(!i)with
  |true=>some (.inr (.inl (false,())))
  |false=>match idx a 0 with|none=>none|some n=>match A6 Hq many (b,j,k,n,l,m,d,a,e,c,(ile e c),a,f,(!f),a,g,a,h,(!(ieq g h)),b,a,i,(!i),a,(A2 a),0,())with|none=>none|some r=>match r with
  |.inl (o,_)=>some (.inr (.inl (o,())))
  |.inr r=>match r with
  |.inl (p,q,s,t,u,v,w,x,y,z,A,B,C,D,E,F,G,H,I,J,K,L,M,_)=>some (.inl (p,q,s,t,u,v,(w64 (w+1)),()))
  |.inr _=>none
 |false=>some (.inr (.inr (.inl (b,j,k,()))))
def W1[Lk]:(Uo×Unit)->Option (Uc):=fun(a,_)=>
 match OB (a.1,())with|none=>none|some (b,_)=>match(!b)with
 |true=>some (false,())
 |false=>match A6 Fz many (a.1,a.2.1,([]:List Um),(-1:Int),a.2.1,(A2 a.2.1),0,())with|none=>none|some r=>match r with
 |.inl (c,_)=>some (c,())
 |.inr r=>match r with
 |.inl (d,g,e,_)=>match A6 Hp many (e,d,0,())with|none=>none|some r=>match r with
  |.inl (f,_)=>some (f,())
  |.inr r=>match r with
  |.inl _=>some (true,())
  |.inr _=>none
 |.inr _=>none
def Ji[Lk]:=lkk W1
theorem bB v:Ji v=W1 v:=A0 _
abbrev xX:A1:=[Af,AH,AI]
def iH[Lk]:(Uo×Int×Int×Unit)->Option (U9):=fun(a,b,c,_)=>
 match Ji ((a.1,(a.2.1,())),())with|none=>none|some (d,_)=>match(!d)with
 |true=>some (1,())
 |false=>match tin (a.1,b,())with|none=>none|some (e,_)=>match(!e)with
 |true=>some (10,())
 |false=>match tin (a.1,c,())with|none=>none|some (f,_)=>match(!f)with
 |true=>some (10,())
 |false=>some (0,())
def asked[Lk]:=lkk iH
theorem n7 v:asked v=iH v:=A0 _
abbrev AJ5:A1:=[Af,AB,(.tmp 2,.dat U8)]
abbrev AJ4:A1:=[AA,(.tmp 1,.own 36 U5)]
abbrev AJ3:List RS:=[.agg 2]
abbrev AV6:Loc×Con:=(.tmp 7,.own 36 U5)
abbrev AV7:Loc×Con:=(.cell 1 1,.nil U5)
abbrev AV8:Loc×Con:=(.tmp 3,.box 2)
abbrev AV9:Loc×Con:=(.tmp 6,.box 2)
abbrev ADy:A1:=[AV8,AK,Av,AV9,AL,AV7,AV6,(.tmp 29,.dat U8),(.tmp 30,.di),(.tmp 31,.di)]
abbrev ADw:BB:=[(.exit 2,[AV8,AK,Av,AV9,AL,AV7,AV6])]
def Lx[Lk]:(Int×List U6×Int×List U6×List U6×Int×Int×Unit)->Option ((Int×List U6×Int×List U6×List U6×Int×Int×Unit)⊕(Int×List U6×Int×List U6×Unit)⊕Unit):=fun(c,d,e,a,f,g,b,_)=>
 match(ilt b g)with
 |true=>match idx f b with|none=>none|some i=>match eZ (i,())with|none=>none|some (h,_)=>match(fits ((A2 a)+(A2 ([h]:List U6))))with
  |true=>some (.inl (c,d,e,(Bk a ([h]:List U6)),f,g,(w64 (b+1)),()))
  |false=>none
 |false=>some (.inr (.inl (c,d,e,a,())))
abbrev ADz:A1:=[AB,(.tmp 2,.dat U8),AV8,AK,Av,AV9,AL,AV7,AV6,(.tmp 13,.dat U8),AU8,AVJ]
abbrev ADx:BB:=[(.exit 0,[(.tmp 2,.dat U8),AV8,AK,Av,AV9,AL,AV7,AV6])]
def Ly[Lk]:(List Int×List U6×Int×List U6×Int×List U6×List U6×Int×Int×Unit)->Option ((List Int×List U6×Int×List U6×Int×List U6×List U6×Int×Int×Unit)⊕(List U6×Int×List U6×Int×List U6×Unit)⊕Unit):=fun(c,d,e,f,g,b,h,i,a,_)=>
 match(ilt a i)with
 |true=>match idx h a with|none=>none|some j=>match GW (c,a,())with|none=>none|some (k,_)=>match(!k)with
  |true=>match(fits ((A2 b)+(A2 ([j]:List U6))))with
   |true=>some (.inl (c,d,e,f,g,(Bk b ([j]:List U6)),h,i,(w64 (a+1)),()))
   |false=>none
  |false=>some (.inl (c,d,e,f,g,b,h,i,(w64 (a+1)),()))
 |false=>some (.inr (.inl (d,e,f,g,b,())))
def da[Lk]:(Uo×List Int×List U6×Unit)->Option ((Int×List U6×Unit)):=fun(a,c,d,_)=>
 match A6 Ly many (c,d,a.1,a.2.1,0,([]:List U6),a.2.1,(A2 a.2.1),0,())with|none=>none|some r=>match r with
 |.inl (b,e,f,g,h,_)=>match A6 Lx many (e,f,g,h,b,(A2 b),0,())with|none=>none|some r=>match r with
  |.inl (i,l,m,j,_)=>match va (j,())with|none=>none|some (k,_)=>some (i,k,())
  |.inr _=>none
 |.inr _=>none
def vL[Lk]:=lkk da
theorem jT v:vL v=da v:=A0 _
abbrev AKE:A1:=[AA,AVx,AI]
def UA[Lk]:(Uo×Int×Int×Unit)->Option ((Int×List U6×Int×Unit)):=fun(a,b,c,_)=>
 match asked ((a.1,(a.2.1,())),b,c,())with|none=>none|some (g,_)=>match(!(ieq g 0))with
 |true=>some (a.1,a.2.1,g,())
 |false=>match RT ((a.1,(a.2.1,())),b,())with|none=>none|some (e,_)=>match RT ((a.1,(a.2.1,())),c,())with|none=>none|some (f,_)=>match(ieq e f)with
 |true=>some (a.1,a.2.1,5,())
 |false=>match idx a.2.1 e with|none=>none|some h=>match kP (h,b,())with|none=>none|some (d,r,_)=>match idx a.2.1 f with|none=>none|some i=>match kP (i,c,())with|none=>none|some (j,s,_)=>match D0 d 0 1 with|none=>none|some k=>match AEV (a.1,b,c,())with|none=>none|some (l,_)=>match AEV (a.1,c,b,())with|none=>none|some (m,_)=>match D0 d 1 (A2 d)with|none=>none|some n=>match LV (([(HP 0 (A3 (A2 k)) d),([l]:List (Int)),j,([m]:List (Int)),(HP 1 (A3 (A2 n)) d)]:List U6),())with|none=>none|some (o,_)=>match vL ((a.1,(a.2.1,())),([e,f]:List (Int)),([o]:List U6),())with|none=>none|some (p,q,_)=>some (p,q,0,())
def bE[Lk]:=lkk UA
theorem W5 v:bE v=UA v:=A0 _
abbrev AH6:A1:=[Af,AB]
def YU[Lk]:(Uo×List Int×Unit)->Option (U9):=fun(a,b,_)=>
 match Ji ((a.1,(a.2.1,())),())with|none=>none|some (c,_)=>match(!c)with
 |true=>some (1,())
 |false=>match E0 (b,a.1,a.2.1,())with|none=>none|some (e,f,d,_)=>match d with
 |true=>some (10,())
 |false=>some (0,())
def O0[Lk]:=lkk YU
theorem cW v:O0 v=YU v:=A0 _
abbrev tS:A1:=[Af,AUL,(.tmp 2,.clo 228 [])]
abbrev Yf:A1:=[Af,(.tmp 1,.own 4 .bool),AI]
abbrev nI:A1:=[(.tmp 2,.clo 228 []),AV8,AK,Av,AV9,AL,AV7,(.tmp 10,.own 4 .bool),(.tmp 23,.dat V0),AUg,AUa]
abbrev nH:BB:=[(.exit 0,[AV8,AK,Av,AV9,AL,AV7,(.tmp 10,.own 4 .bool)])]
def G'[Lk]:(Int×List U6×Int×List Bool×List U4×Int×Int×Unit)->Option ((Int×List U6×Int×List Bool×List U4×Int×Int×Unit)⊕(Int×List U6×Int×List Bool×Unit)⊕Unit):=fun(c,d,e,a,f,g,b,_)=>
 match(ilt b g)with
 |true=>match idx f b with|none=>none|some h=>match bE ((c,(d,())),h.1,h.2.1,())with|none=>none|some (j,k,i,_)=>match(fits ((A2 a)+(A2 ([(ieq i 0)]:List (Bool)))))with
  |true=>some (.inl (j,k,e,(Bk a ([(ieq i 0)]:List (Bool))),f,g,(w64 (b+1)),()))
  |false=>none
 |false=>some (.inr (.inl (c,d,e,a,())))
def O2[Lk]:(Uo×List U4×Unit)->Option ((Uo×List Bool×Int×Unit)):=fun(a,b,_)=>
 match ends (b,())with|none=>none|some (d,_)=>match O0 ((a.1,(a.2.1,())),d,())with|none=>none|some (c,_)=>match(!(ieq c 0))with
 |true=>some ((a.1,(a.2.1,())),([]:List (Bool)),c,())
 |false=>match A6 G' many (a.1,a.2.1,0,([]:List (Bool)),b,(A2 b),0,())with|none=>none|some r=>match r with
 |.inl (e,f,h,g,_)=>some ((e,(f,())),g,0,())
 |.inr _=>none
def Yg[Lk]:=lkk O2
theorem TH v:Yg v=O2 v:=A0 _
abbrev YW:A1:=[Af,AUL]
def YX[Lk]:(Uo×List U4×Unit)->Option ((Uo×List Bool×Int×Unit)):=fun(a,c,_)=>
 match Yg ((a.1,(a.2.1,())),c,())with|none=>none|some (b,d,e,_)=>some ((b.1,(b.2.1,())),d,e,())
def tJ[Lk]:=lkk YX
theorem ca v:tJ v=YX v:=A0 _
def AIE[Lk]:(Int×List U4×Unit)->Option ((Uo×Int×Unit)):=fun(d,e,_)=>
 match vO (d,())with|none=>none|some (f,g,a,_)=>match(!(ieq a 0))with
 |true=>some ((0,(([]:List U6),())),a,())
 |false=>match tJ ((f,(g,())),e,())with|none=>none|some (b,h,c,_)=>match(!(ieq c 0))with
 |true=>some ((0,(([]:List U6),())),c,())
 |false=>some ((b.1,(b.2.1,())),0,())
def fof[Lk]:=lkk AIE
theorem AID v:fof v=AIE v:=A0 _
abbrev ABN:A1:=[AUR,AK,AUP,AT,(.tmp 23,.dat Ui),AUg,AUa]
abbrev ABM:BB:=[(.ret,[AJ]),(.exit 0,[AUR,AK,AUP])]
def GO[Lk]:(Int×List U2×Int×List U2×Int×Int×Unit)->Option ((Int×List U2×Int×List U2×Int×Int×Unit)⊕Uc⊕(Int×List U2×Unit)⊕Unit):=fun(c,d,f,g,h,b,_)=>
 match(ilt b h)with
 |true=>match idx g b with|none=>none|some a=>match(ilt a.1 0)with
  |true=>some (.inr (.inl (false,())))
  |false=>match(ile a.2.1 a.1)with
  |true=>some (.inr (.inl (false,())))
  |false=>match(ile c a.2.1)with
  |true=>some (.inr (.inl (false,())))
  |false=>match(ilt a.2.2.1 0)with
  |true=>some (.inr (.inl (false,())))
  |false=>match(ilt f a.2.2.1)with
  |true=>some (.inr (.inl (false,())))
  |false=>match(ilt 0 b)with
  |true=>match idx d (w64 (b-1))with|none=>none|some e=>match KN ((e.1,(e.2.1,(e.2.2.1,(e.2.2.2.1,())))),(a.1,(a.2.1,(a.2.2.1,(a.2.2.2.1,())))),())with|none=>none|some (i,_)=>match(ile 0 i)with
   |true=>some (.inr (.inl (false,())))
   |false=>some (.inl (c,d,f,g,h,(w64 (b+1)),()))
  |false=>some (.inl (c,d,f,g,h,(w64 (b+1)),()))
 |false=>some (.inr (.inr (.inl (c,d,()))))
def KL[Lk]:(Ud×Unit)->Option (Uc):=fun(a,_)=>
 match X5 (a.1,())with|none=>none|some (d,_)=>match(!d)with
 |true=>some (false,())
 |false=>match(ilt 400 (A2 a.2.1))with
 |true=>some (false,())
 |false=>match fR (a.1,())with|none=>none|some (e,_)=>match A6 GO many (a.1,a.2.1,e,a.2.1,(A2 a.2.1),0,())with|none=>none|some r=>match r with
 |.inl (f,_)=>some (f,())
 |.inr r=>match r with
 |.inl (b,g,_)=>match Rm ((b,(g,())),0,())with|none=>none|some (c,_)=>match fof (b,c,())with|none=>none|some (h,i,_)=>match(ieq i 0)with
  |true=>some ((ieq (A2 h.2.1) (w64 (b-(A2 c)))),())
  |false=>some (false,())
 |.inr _=>none
def EK[Lk]:=lkk KL
theorem KK v:EK v=KL v:=A0 _
def ANp[Lk]:(Uo×Int×Unit)->Option (U9):=fun(a,b,_)=>
 match tin (a.1,b,())with|none=>none|some (c,_)=>match(!c)with
 |true=>some ((-1:Int),())
 |false=>match Ji ((a.1,(a.2.1,())),())with|none=>none|some (d,_)=>match(!d)with
 |true=>some ((-1:Int),())
 |false=>match RT ((a.1,(a.2.1,())),b,())with|none=>none|some (e,_)=>some (e,())
def tof[Lk]:=lkk ANp
theorem AOP v:tof v=ANp v:=A0 _
def NP[Lk]:(Ud×Int×Unit)->Option ((Uo×Int×Unit)):=fun(a,c,_)=>
 match EK ((a.1,(a.2.1,())),())with|none=>none|some (d,_)=>match(!d)with
 |true=>some ((0,(([]:List U6),())),1,())
 |false=>match Rm ((a.1,(a.2.1,())),c,())with|none=>none|some (e,_)=>match fof (a.1,e,())with|none=>none|some (b,f,_)=>some ((b.1,(b.2.1,())),f,())
def Gl[Lk]:=lkk NP
theorem Of v:Gl v=NP v:=A0 _
abbrev yI:A1:=[AU,(.tmp 1,.own 3 U0),(.tmp 2,.own 36 U5),AT]
abbrev AWA:Loc×Con:=(.tmp 9,.aptr 219 U0 8)
abbrev AWB:Loc×Con:=(.cell 1 2,.own 36 U5)
abbrev AWC:Loc×Con:=(.cell 1 0,.own 3 U0)
abbrev AWD:Loc×Con:=(.cell 1 1,.own 3 U0)
abbrev AWE:Loc×Con:=(.cell 0 1,.nil U0)
abbrev AWF:Loc×Con:=(.cell 0 0,.nil U0)
abbrev AWG:Loc×Con:=(.cell 0 2,.nil U5)
abbrev AWH:Loc×Con:=(.tmp 8,.box 3)
abbrev AWI:Loc×Con:=(.tmp 43,.di)
abbrev pC:A1:=[AB,AUo,AWF,AWE,AWG,AUO,AWH,AWC,AWD,AWB,AWA,Ab,AV5,AWI,(.tmp 68,.di),(.tmp 69,.di)]
abbrev oy:BB:=[(.exit 2,[AB,AUo,AWF,AWE,AWG,AUO,AWH,AWC,AWD,AWB,AWA,AV5,AWI])]
def E2[Lk]:(List Int×Int×List Int×List Int×List U6×List Int×Int×Int×Int×Int×Int×Unit)->Option ((List Int×Int×List Int×List Int×List U6×List Int×Int×Int×Int×Int×Int×Unit)⊕Vi⊕Unit):=fun(c,d,e,f,g,b,h,i,j,k,a,_)=>
 match(ilt a k)with
 |true=>match(ile 0 a&&(ilt a 8&&ilt a (A2 b)))with
  |true=>some (.inl (c,d,e,f,g,(Ba b (A3 a) h),h,i,j,k,(w64 (a+1)),()))
  |false=>none
 |false=>some (.inr (.inl (c,d,e,f,g,b,i,j,())))
abbrev pD:A1:=[AB,AUo,AWF,AWE,AWG,AUO,AWH,AWC,AWD,AWB,AWA,AV5,AWI]
abbrev oz:BB:=[(.exit 0,[AUo,AWF,AWE,AWG,AWH,AWC,AWD,AWB])]
def IJ[Lk]:Vi->Option (Vi⊕(List Int×List Int×List U6×Unit)⊕Unit):=fun(c,a,g,h,e,f,i,d,_)=>
 match(ilt d i)with
 |true=>match rem? d a with|none=>none|some b=>match(ile a d)with
  |true=>match idx c (w64 ((w64 (a-1))-b))with|none=>none|some j=>match D0 f 0 j with|none=>none|some k=>match HR (HP 0 (A3 (A2 k)) f)with|none=>none|some l=>match idx e (w64 ((w64 (a-1))-b))with|none=>none|some F=>match idx c (w64 ((w64 (a-1))-b))with|none=>none|some m=>match A6 E2 many (c,a,g,h,(Ba e (A3 (w64 ((w64 (a-1))-b))) l),f,(w64 ((w64 (a-1))-b)),i,d,m,0,())with|none=>none|some r=>match r with
   |.inl (n,o,p,q,s,t,u,v,_)=>some (.inl (n,o,p,q,s,t,u,(w64 (v+1)),()))
   |.inr _=>none
  |false=>match idx c (w64 ((w64 (a-1))-b))with|none=>none|some w=>match A6 E2 many (c,a,g,h,e,f,(w64 ((w64 (a-1))-b)),i,d,w,0,())with|none=>none|some r=>match r with
  |.inl (x,y,z,A,B,C,D,E,_)=>some (.inl (x,y,z,A,B,C,D,(w64 (E+1)),()))
  |.inr _=>none
 |false=>some (.inr (.inl (g,h,e,())))
def RQ[Lk]:V2->Option ((List Int×List Int×List U6×Int×Unit)):=fun(a,b,_)=>
 match(ieq (A2 a) 0)with
 |true=>some (([]:List (Int)),([]:List (Int)),([]:List U6),1,())
 |false=>match(!(ieq (A2 b) (A2 a)))with
 |true=>some (([]:List (Int)),([]:List (Int)),([]:List U6),1,())
 |false=>match MC (a,())with|none=>none|some (c,_)=>match(!c)with
 |true=>some (([]:List (Int)),([]:List (Int)),([]:List U6),1,())
 |false=>match Hi (b,())with|none=>none|some (d,_)=>match d with
 |true=>some (([]:List (Int)),([]:List (Int)),([]:List U6),1,())
 |false=>match HR a with|none=>none|some e=>match HR b with|none=>none|some f=>match(CC (A2 a)&&CC (A2 a)&&ile (A2 a) (A2 a)&&true)with
 |true=>match A6 IJ many (b,(A2 a),e,f,(C5 (A3 (A2 a)) ([]:List (Int))),(C5 8 (0:Int)),(w64 ((2:Int)*(A2 a))),(0:Int),())with|none=>none|some r=>match r with
  |.inl (g,h,i,_)=>some (g,h,i,0,())
  |.inr _=>none
 |false=>none
def PR[Lk]:=lkk RQ
theorem Wr v:PR v=RQ v:=A0 _
abbrev ABX:A1:=[AUQ,(.tmp 10,.dat Ui),Ab,AP]
def KM[Lk]:(List U4×List U2×Int×Int×Unit)->Option ((List U4×List U2×Int×Int×Unit)⊕V7⊕Unit):=fun(b,d,e,c,_)=>
 match(ilt c e)with
 |true=>match idx d c with|none=>none|some a=>match(fits ((A2 b)+(A2 ([(a.1,(a.2.1,()))]:List U4))))with
  |true=>some (.inl ((Bk b ([(a.1,(a.2.1,()))]:List U4)),d,e,(w64 (c+1)),()))
  |false=>none
 |false=>some (.inr (.inl (b,())))
def X8[Lk]:(Ud×Unit)->Option (V7):=fun(a,_)=>
 match EK ((a.1,(a.2.1,())),())with|none=>none|some (b,_)=>match(!b)with
 |true=>some (([]:List U4),())
 |false=>match A6 KM many (([]:List U4),a.2.1,(A2 a.2.1),0,())with|none=>none|some r=>match r with
 |.inl (c,_)=>some (c,())
 |.inr _=>none
def LB[Lk]:=lkk X8
theorem cH v:LB v=X8 v:=A0 _
abbrev UO:A1:=[Az,AUL]
abbrev fB:A1:=[AUJ,AH]
abbrev AGK:A1:=[AN,AK,AUP,(.tmp 6,.box 1),AUV,(.tmp 13,.dat V0),AU8,AVJ]
abbrev AGJ:BB:=[(.ret,[(.tmp 4,.nil U3),AF]),(.exit 0,[AN,AK,AUP,(.tmp 6,.box 1),AUV])]
def AGI[Lk]:(Int×List U2×List Vd×List U4×Int×Int×Unit)->Option ((Int×List U2×List Vd×List U4×Int×Int×Unit)⊕U9⊕(Int×List U2×List Vd×Unit)⊕Unit):=fun(c,e,b,f,g,d,_)=>
 match(ilt d g)with
 |true=>match idx f d with|none=>none|some a=>match(ilt (Cn a.1 a.2.1) 0)with
  |true=>some (.inr (.inl (10,())))
  |false=>match(ile c (imax a.1 a.2.1))with
  |true=>some (.inr (.inl (10,())))
  |false=>match(ile 0 (Xj b ((Cn a.1 a.2.1),((imax a.1 a.2.1),())))&&ilt (Xj b ((Cn a.1 a.2.1),((imax a.1 a.2.1),()))) (A2 (BI b ((Cn a.1 a.2.1),((imax a.1 a.2.1),())) ((A9 b ((Cn a.1 a.2.1),((imax a.1 a.2.1),()))).getD 0))))with
  |true=>some (.inl (c,e,(sM (BI b ((Cn a.1 a.2.1),((imax a.1 a.2.1),())) ((A9 b ((Cn a.1 a.2.1),((imax a.1 a.2.1),()))).getD 0)) (Xj b ((Cn a.1 a.2.1),((imax a.1 a.2.1),()))) (w64 (((A9 b ((Cn a.1 a.2.1),((imax a.1 a.2.1),()))).getD 0)+1))),f,g,(w64 (d+1)),()))
  |false=>none
 |false=>some (.inr (.inr (.inl (c,e,b,()))))
def vq[Lk]:(Ud×List U4×Unit)->Option ((List U4×Int×Unit)):=fun(a,b,_)=>
 match EK ((a.1,(a.2.1,())),())with|none=>none|some (c,_)=>match(!c)with
 |true=>some (([]:List U4),1,())
 |false=>match A6 AGI many (a.1,a.2.1,([]:List Vd),b,(A2 b),0,())with|none=>none|some r=>match r with
 |.inl (d,_)=>some (([]:List U4),d,())
 |.inr r=>match r with
 |.inl (e,f,g,_)=>match LB ((e,(f,())),())with|none=>none|some (h,_)=>match O4 (h,g,())with|none=>none|some (i,k,j,_)=>some ((C1 (A3 j) i),0,())
 |.inr _=>none
def vr[Lk]:=lkk vq
theorem AGL v:vr v=vq v:=A0 _
abbrev AWJ:Loc×Con:=(.tmp 6,.map U3 U0)
abbrev AMu:A1:=[AN,AK,AUP,AWJ,(.tmp 9,.own 88 U3),(.tmp 26,.dat V0),AY,AV4]
abbrev AMs:BB:=[(.ret,[(.tmp 4,.nil U3),AF]),(.exit 2,[(.tmp 9,.own 88 U3)])]
def AMq[Lk]:(Int×List U2×List Vd×List U4×List U4×Int×Int×Unit)->Option ((Int×List U2×List Vd×List U4×List U4×Int×Int×Unit)⊕U9⊕V7⊕Unit):=fun(d,h,e,b,f,g,c,_)=>
 match(ilt c g)with
 |true=>match idx f c with|none=>none|some a=>match(ilt (Cn a.1 a.2.1) 0)with
  |true=>some (.inr (.inl (10,())))
  |false=>match(ile d (imax a.1 a.2.1))with
  |true=>some (.inr (.inl (10,())))
  |false=>match(ilt (Cn a.1 a.2.1) (imax a.1 a.2.1))with
  |true=>match(ieq ((A9 e ((Cn a.1 a.2.1),((imax a.1 a.2.1),()))).getD 0) 0)with
   |true=>match(fits ((A2 b)+(A2 ([((Cn a.1 a.2.1),((imax a.1 a.2.1),()))]:List U4))))with
    |true=>some (.inl (d,h,(BI e ((Cn a.1 a.2.1),((imax a.1 a.2.1),())) 1),(Bk b ([((Cn a.1 a.2.1),((imax a.1 a.2.1),()))]:List U4)),f,g,(w64 (c+1)),()))
    |false=>none
   |false=>some (.inl (d,h,e,b,f,g,(w64 (c+1)),()))
  |false=>some (.inl (d,h,e,b,f,g,(w64 (c+1)),()))
 |false=>some (.inr (.inr (.inl (b,()))))
abbrev AMv:A1:=[AUL,AN,AK,AUP,AWJ,(.tmp 17,.own 88 U3),AV1,AVQ]
abbrev AMt:BB:=[(.exit 0,[AUL,AN,AK,AUP,AWJ])]
def AMr[Lk]:(List U4×Int×List U2×List Vd×List U4×Int×Int×Unit)->Option ((List U4×Int×List U2×List Vd×List U4×Int×Int×Unit)⊕(List U4×Int×List U2×List Vd×Unit)⊕Unit):=fun(c,d,e,f,b,g,a,_)=>
 match(ilt a g)with
 |true=>match idx b a with|none=>none|some h=>some (.inl (c,d,e,(BI f ((A5 b (A3 a) (0,(0,()))).1,((A5 b (A3 a) (0,(0,()))).2.1,())) 1),b,g,(w64 (a+1)),()))
 |false=>some (.inr (.inl (c,d,e,f,())))
def AH3[Lk]:(Ud×List U4×Unit)->Option ((List U4×Int×Unit)):=fun(a,d,_)=>
 match EK ((a.1,(a.2.1,())),())with|none=>none|some (e,_)=>match(!e)with
 |true=>some (([]:List U4),1,())
 |false=>match LB ((a.1,(a.2.1,())),())with|none=>none|some (b,_)=>match A6 AMr many (d,a.1,a.2.1,([]:List Vd),b,(A2 b),0,())with|none=>none|some r=>match r with
 |.inl (c,f,g,h,_)=>match A6 AMq many (f,g,h,([]:List U4),c,(A2 c),0,())with|none=>none|some r=>match r with
  |.inl (i,_)=>some (([]:List U4),i,())
  |.inr r=>match r with
  |.inl (j,_)=>match vb (j,())with|none=>none|some (k,_)=>some (k,0,())
  |.inr _=>none
 |.inr _=>none
def AMx[Lk]:=lkk AH3
theorem AMw v:AMx v=AH3 v:=A0 _
def xY[Lk]:(Ud×Unit)->Option (U9):=fun(a,_)=>
 match EK ((a.1,(a.2.1,())),())with|none=>none|some (b,_)=>match(!b)with
 |true=>some (0,())
 |false=>some ((w64 (400-(A2 a.2.1))),())
def AJg[Lk]:=lkk xY
theorem AJf v:AJg v=xY v:=A0 _
abbrev AWK:Loc×Con:=(.tmp 2,.dat (.prod U0 (.prod U0 (.prod Ul .unit))))
abbrev AJl:A1:=[Az,(.tmp 1,.dat (.prod U0 (.prod V0 (.prod Va .unit)))),AWK]
abbrev AJk:A1:=[AA,(.tmp 1,.own 88 U3),(.tmp 2,.dat Va),AT,AS]
def oD[Lk]:(Ud×(Int×(List U4)×(List Ub)×Unit)×(Int×Int×Us×Unit)×Unit)->Option ((Int×List U4×List Ub×Int×Int×Unit)):=fun(c,a,b,_)=>
 match EK ((c.1,(c.2.1,())),())with|none=>none|some (j,_)=>match(!j)with
 |true=>some (0,([]:List U4),([]:List Ub),0,1,())
 |false=>match oh ((a.1,(a.2.1,(a.2.2.1,()))),())with|none=>none|some (k,_)=>match(!k)with
 |true=>some (0,([]:List U4),([]:List Ub),0,1,())
 |false=>match AJc ((a.1,(a.2.1,(a.2.2.1,()))),())with|none=>none|some (l,_)=>match Mw (l,c.1,c.2.1,())with|none=>none|some (d,e,m,_)=>match m with
 |true=>some (0,([]:List U4),([]:List Ub),0,10,())
 |false=>match(ieq a.1 3)with
 |true=>some (a.1,([]:List U4),a.2.2.1,0,0,())
 |false=>match SK (a.2.1,(b.1,(b.2.1,((b.2.2.1.1,(b.2.2.1.2.1,(b.2.2.1.2.2.1,()))),()))),())with|none=>none|some (f,g,h,_)=>match(!(ieq h 0))with
 |true=>some (0,([]:List U4),([]:List Ub),0,h,())
 |false=>match(ieq a.1 2)with
 |true=>match vr ((d,(e,())),f,())with|none=>none|some (n,o,_)=>some (a.1,n,([]:List Ub),g,o,())
 |false=>match AMx ((d,(e,())),f,())with|none=>none|some (i,p,_)=>match AJg ((d,(e,())),())with|none=>none|some (q,_)=>match(ilt q (A2 i))with
 |true=>some (0,([]:List U4),([]:List Ub),0,2,())
 |false=>some (a.1,i,([]:List Ub),g,p,())
def ZD[Lk]:=lkk oD
theorem ADW v:ZD v=oD v:=A0 _
def wm[Lk]:V4->Option (U9):=fun(a,b,c,_)=>
 match EK ((a.1,(a.2.1,())),())with|none=>none|some (d,_)=>match(!d)with
 |true=>some ((-1:Int),())
 |false=>match sf ((a.1,(a.2.1,())),b,c,())with|none=>none|some (e,f,_)=>match(!f)with
 |true=>some ((-1:Int),())
 |false=>some (e,())
def AHG[Lk]:=lkk wm
theorem AHF v:AHG v=wm v:=A0 _
def YV[Lk]:(Uo×Int×Unit)->Option (Uj):=fun(a,b,_)=>
 match O0 ((a.1,(a.2.1,())),([b]:List (Int)),())with|none=>none|some (c,_)=>match(!(ieq c 0))with
 |true=>some (([]:List (Int)),c,())
 |false=>match tof ((a.1,(a.2.1,())),b,())with|none=>none|some (d,_)=>match idx a.2.1 d with|none=>none|some e=>match HR e with|none=>none|some f=>match LU (f,a.1,a.2.1,())with|none=>none|some (g,j,k,h,_)=>match AEh ((C1 (A3 h) g),())with|none=>none|some (i,_)=>some (i,0,())
def Qc[Lk]:=lkk YV
theorem mv v:Qc v=YV v:=A0 _
def kl[Lk]:V4->Option (U4):=fun(a,b,c,_)=>
 match EK ((a.1,(a.2.1,())),())with|none=>none|some (e,_)=>match(!e)with
 |true=>some (0,1,())
 |false=>match(ilt (Cn b c) 0)with
 |true=>some (0,10,())
 |false=>match(ile a.1 (imax b c))with
 |true=>some (0,10,())
 |false=>match AHG ((a.1,(a.2.1,())),b,c,())with|none=>none|some (d,_)=>match(ilt d 0)with
 |true=>some (0,6,())
 |false=>some (d,0,())
def fC[Lk]:=lkk kl
theorem AAC v:fC v=kl v:=A0 _
abbrev ALC:A1:=[Az,AH,AI,AT]
def vm[Lk]:(Ud×Int×Int×Int×Unit)->Option (Uj):=fun(b,g,f,h,_)=>
 match fC ((b.1,(b.2.1,())),g,f,())with|none=>none|some (m,c,_)=>match(ieq c 1)with
 |true=>some (([]:List (Int)),c,())
 |false=>match(ieq c 10)with
 |true=>some (([]:List (Int)),c,())
 |false=>match Gl ((b.1,(b.2.1,())),h,())with|none=>none|some (d,n,_)=>match Qc ((d.1,(d.2.1,())),g,())with|none=>none|some (a,o,_)=>match Qc ((d.1,(d.2.1,())),f,())with|none=>none|some (e,p,_)=>match GW (a,f,())with|none=>none|some (i,_)=>match i with
 |true=>some (([]:List (Int)),5,())
 |false=>match D6 ((A2 a),(A2 e),())with|none=>none|some (j,_)=>match idx a 0 with|none=>none|some q=>match idx e 0 with|none=>none|some r=>match D6 ((A5 a 0 0),(A5 e 0 0),())with|none=>none|some (k,_)=>match orI (([j,k]:List (Int)),())with|none=>none|some (l,_)=>match(ilt l 0)with
 |true=>some (a,0,())
 |false=>some (e,0,())
def AFj[Lk]:=lkk vm
theorem AFi v:AFj v=vm v:=A0 _
abbrev AWL:Loc×Con:=(.cell 0 1,.own 152 U1)
abbrev AWM:Loc×Con:=(.cell 0 2,.dat .bool)
abbrev AWN:Loc×Con:=(.cell 0 4,.di)
abbrev AQy:A1:=[(.tmp 0,.box 8),AK,AWL,AWM,AVc,AWN,AUu,AUv,AU3,AH,AI,AT]
abbrev AQx:A1:=[AU6,AK,AWL,AWM,AVc,AWN,AUu,AUv,AU3,AU4,AE]
abbrev AWO:Loc×Con:=(.tmp 14,.clo 253 [(2,0)])
abbrev AWP:Loc×Con:=(.cell 2 0,.map U0 U0)
abbrev APH:A1:=[AU6,AK,AWL,AWM,AVc,AWN,AUu,AUv,AU3,AU4,AU7,(.cap 14 0,.box 1),AWP,AWO,(.tmp 86,.prs 329 1),(.tmp 87,.di),(.tmp 88,.di)]
abbrev APE:BB:=[(.exit 5,[AU6,AK,AWL,AWM,AVc,AWN,AUu,AUv,AU3,AU4]),(.ret,[AU6,AK,AWL,AWM,AVc,AWN,AUu,AUv,AU3,AU4,Ar])]
def APB[Lk]:(Int×List U2×Bool×Bool×Int×Int×Int×Int×List Um×List Int×Int×Int×Unit)->Option ((Int×List U2×Bool×Bool×Int×Int×Int×Int×List Um×List Int×Int×Int×Unit)⊕(Int×List U2×Bool×Bool×Int×Int×Int×Int×Unit)⊕(Int×List U2×Bool×Bool×Int×Int×Int×Int×Bool×Unit)⊕Unit):=fun(f,c,g,i,j,k,h,e,d,b,l,a,_)=>
 match(ilt a l)with
 |true=>match idx b a with|none=>none|some m=>match(ieq (w64 (((A9 d (A5 c (A3 (A5 b (A3 a) 0)) (0,(0,(0,(false,()))))).1).getD 0)+((A9 d (A5 c (A3 (A5 b (A3 a) 0)) (0,(0,(0,(false,()))))).2.1).getD 0))) 0)with
  |true=>some (.inl (f,c,g,i,j,k,h,e,d,b,l,(w64 (a+1)),()))
  |false=>match(ieq (w64 (((A9 d (A5 c (A3 (A5 b (A3 a) 0)) (0,(0,(0,(false,()))))).1).getD 0)+((A9 d (A5 c (A3 (A5 b (A3 a) 0)) (0,(0,(0,(false,()))))).2.1).getD 0))) 2)with
  |true=>some (.inl (f,(Ba c (A3 (A5 b (A3 a) 0)) ((A5 c (A3 (A5 b (A3 a) 0)) (0,(0,(0,(false,()))))).1,((A5 c (A3 (A5 b (A3 a) 0)) (0,(0,(0,(false,()))))).2.1,((Cn e (w64 ((A5 c (A3 (A5 b (A3 a) 0)) (0,(0,(0,(false,()))))).2.2.1+1))),((A5 c (A3 (A5 b (A3 a) 0)) (0,(0,(0,(false,()))))).2.2.2.1,()))))),g,i,j,k,(w64 (h+1)),e,d,b,l,(w64 (a+1)),()))
  |false=>match(ieq (w64 (((A9 d (A5 c (A3 (A5 b (A3 a) 0)) (0,(0,(0,(false,()))))).1).getD 0)+((A9 d (A5 c (A3 (A5 b (A3 a) 0)) (0,(0,(0,(false,()))))).2.1).getD 0))) 1)with
  |true=>some (.inr (.inr (.inl (f,(Ba c (A3 (A5 b (A3 a) 0)) ((A5 c (A3 (A5 b (A3 a) 0)) (0,(0,(0,(false,()))))).1,((A5 c (A3 (A5 b (A3 a) 0)) (0,(0,(0,(false,()))))).2.1,((A5 c (A3 (A5 b (A3 a) 0)) (0,(0,(0,(false,()))))).2.2.1,(true,()))))),g,true,(A5 (Ba c (A3 (A5 b (A3 a) 0)) ((A5 c (A3 (A5 b (A3 a) 0)) (0,(0,(0,(false,()))))).1,((A5 c (A3 (A5 b (A3 a) 0)) (0,(0,(0,(false,()))))).2.1,((A5 c (A3 (A5 b (A3 a) 0)) (0,(0,(0,(false,()))))).2.2.1,(true,()))))) (A3 (A5 b (A3 a) 0)) (0,(0,(0,(false,()))))).1,(A5 (Ba c (A3 (A5 b (A3 a) 0)) ((A5 c (A3 (A5 b (A3 a) 0)) (0,(0,(0,(false,()))))).1,((A5 c (A3 (A5 b (A3 a) 0)) (0,(0,(0,(false,()))))).2.1,((A5 c (A3 (A5 b (A3 a) 0)) (0,(0,(0,(false,()))))).2.2.1,(true,()))))) (A3 (A5 b (A3 a) 0)) (0,(0,(0,(false,()))))).2.1,h,e,true,()))))
  |false=>some (.inl (f,c,g,i,j,k,h,e,d,b,l,(w64 (a+1)),()))
 |false=>some (.inr (.inl (f,c,g,i,j,k,h,e,())))
abbrev API:A1:=[AU6,AK,AWL,AWM,AVc,AWN,AUu,AUv,AU3,AU4,AU7,AT,(.cap 14 0,.box 1),AWP,AWO,(.tmp 15,.prs 329 1),AV3,(.tmp 48,.di)]
abbrev APF:BB:=[(.exit 2,[AU6,AK,AWL,AWM,AVc,AWN,AUu,AUv,AU3,AU4,AU7,(.cap 14 0,.box 1),AWP,AWO,(.tmp 15,.prs 329 1)])]
def APC[Lk]:Ut->Option (Ut⊕(Int×List U2×Bool×Bool×Int×Int×Int×Int×List Um×List Int×Unit)⊕Unit):=fun(f,b,g,h,i,j,k,d,l,c,e,m,a,_)=>
 match(ilt a m)with
 |true=>match idx b a with|none=>none|some n=>match(!(ieq (A5 b (A3 a) (0,(0,(0,(false,()))))).2.2.1 l))with
  |true=>some (.inl (f,b,g,h,i,j,k,d,l,c,e,m,(w64 (a+1)),()))
  |false=>match(!(A5 b (A3 a) (0,(0,(0,(false,()))))).2.2.2.1)with
  |true=>match(fits ((A2 e)+(A2 ([(Int.ofNat (A3 a))]:List (Int)))))with
   |true=>some (.inl (f,b,g,h,i,j,k,d,l,c,(Bk e ([(Int.ofNat (A3 a))]:List (Int))),m,(w64 (a+1)),()))
   |false=>none
  |false=>match(ieq (w64 (((A9 c (A5 b (A3 a) (0,(0,(0,(false,()))))).1).getD 0)+((A9 c (A5 b (A3 a) (0,(0,(0,(false,()))))).2.1).getD 0))) 2)with
  |true=>some (.inl (f,(Ba b (A3 a) ((A5 b (A3 a) (0,(0,(0,(false,()))))).1,((A5 b (A3 a) (0,(0,(0,(false,()))))).2.1,((Cn d (w64 ((A5 b (A3 a) (0,(0,(0,(false,()))))).2.2.1+1))),((A5 b (A3 a) (0,(0,(0,(false,()))))).2.2.2.1,()))))),g,h,i,j,(w64 (k+1)),d,l,c,e,m,(w64 (a+1)),()))
  |false=>some (.inl (f,b,g,h,i,j,k,d,l,c,e,m,(w64 (a+1)),()))
 |false=>some (.inr (.inl (f,b,g,h,i,j,k,d,c,e,())))
abbrev APJ:A1:=[AU6,AK,AWL,AWM,AVc,AWN,AUu,AUv,AU3,AU4,AU7,AT,(.tmp 11,.box 1),AWP,(.tmp 32,.own 3 U0),(.tmp 33,.di),(.tmp 34,.di)]
abbrev APG:BB:=[(.exit 0,[AU6,AK,AWL,AWM,AVc,AWN,AUu,AUv,AU3,AU4,AU7,AT,(.tmp 11,.box 1),AWP])]
def APD[Lk]:Ut->Option (Ut⊕(Int×List U2×Bool×Bool×Int×Int×Int×Int×Int×List Um×Unit)⊕Unit):=fun(c,d,e,f,g,h,i,j,k,l,b,m,a,_)=>
 match(ilt a m)with
 |true=>match idx b a with|none=>none|some n=>some (.inl (c,d,e,f,g,h,i,j,k,(BI l (A5 b (A3 a) 0) 1),b,m,(w64 (a+1)),()))
 |false=>some (.inr (.inl (c,d,e,f,g,h,i,j,k,l,())))
def ANx[Lk]:(Int×List U2×Bool×Bool×Int×Int×Int×Int×Int×Int×Int×Unit)->Option ((Int×List U2×Bool×Bool×Int×Int×Int×Int×Bool×Unit)):=fun(a,b,g,h,i,j,k,l,m,n,c,_)=>
 match AFj ((a,(b,())),m,n,c,())with|none=>none|some (d,Y,_)=>match A6 APD many (a,b,g,h,i,j,k,l,c,([]:List Um),d,(A2 d),0,())with|none=>none|some r=>match r with
 |.inl (o,e,p,q,s,t,u,v,w,x,_)=>match A6 APC many (o,e,p,q,s,t,u,v,w,x,([]:List (Int)),(A2 e),0,())with|none=>none|some r=>match r with
  |.inl (y,z,A,B,C,D,E,F,G,f,_)=>match A6 APB many (y,z,A,B,C,D,E,F,G,f,(A2 f),0,())with|none=>none|some r=>match r with
   |.inl (H,I,J,K,L,M,N,O,_)=>some (H,I,J,K,L,M,N,O,false,())
   |.inr r=>match r with
   |.inl (P,Q,R,S,T,U,V,W,X,_)=>some (P,Q,R,S,T,U,V,W,X,())
   |.inr _=>none
  |.inr _=>none
 |.inr _=>none
def pat[Lk]:=lkk ANx
theorem APK v:pat v=ANx v:=A0 _
abbrev AOy:A1:=[AA,AVB,(.tmp 2,.dat V9),AT]
abbrev AFv:List RS:=[.agg 2,.one,.one]
abbrev AWQ:Loc×Con:=(.cell 0 1,.nil U1)
abbrev AWR:Loc×Con:=(.cell 1 3,.di)
abbrev ALF:A1:=[AV9,AK,AWQ,(.tmp 7,.box 5),(.cell 1 0,.dat .bool),(.cell 1 1,.dat .bool),AVj,AWR,(.cell 1 4,.di),(.tmp 11,.box 4),AVG,AVF,(.cell 2 2,.di),(.cell 2 3,.dat .bool),(.tmp 12,.box 8),(.cell 3 0,.di),(.cell 3 1,.own 152 U1),(.cell 3 2,.dat .bool),(.cell 3 3,.dat .bool),(.cell 3 4,.di),(.cell 3 5,.di),(.cell 3 6,.di),(.cell 3 7,.di),AO]
abbrev ALE:BB:=[(.exit 0,[AV9,AK,AWQ,(.tmp 7,.box 5),(.cell 1 0,.dat .bool),(.cell 1 1,.dat .bool),AVj,AWR,(.cell 1 4,.di),(.tmp 12,.box 8),AVG,(.cell 2 1,.own 152 U1),(.cell 2 2,.dat .bool),(.cell 2 3,.dat .bool),(.cell 2 4,.di),(.cell 2 5,.di),(.cell 2 6,.di),(.cell 2 7,.di)])]
def ALD[Lk]:Vk->Option (Vk⊕(Int×Bool×Bool×Int×Int×Int×Int×List U2×Bool×Bool×Int×Int×Int×Int×Unit)⊕Unit):=fun(a,b,c,d,e,f,p,q,A,r,g,h,i,j,k,l,m,n,o,_)=>
 match r with
 |true=>match(ile 0 o)with
  |true=>match pat (g,h,i,j,k,l,m,n,p,q,o,())with|none=>none|some (s,t,u,v,w,x,y,z,B,_)=>match(!B)with
   |true=>some (.inl (a,b,c,d,e,f,p,q,A,r,s,t,u,v,w,x,y,z,(w64 (o-1)),()))
   |false=>some (.inr (.inl (a,b,c,d,e,f,s,t,u,v,w,x,y,z,())))
  |false=>some (.inr (.inl (a,b,c,d,e,f,g,h,i,j,k,l,m,n,())))
 |false=>some (.inr (.inl (a,b,c,d,e,f,g,h,i,j,k,l,m,n,())))
def AFw[Lk]:V4->Option ((Int×List U2×Ux×Int×Unit)):=fun(a,e,f,_)=>
 match fC ((a.1,(a.2.1,())),e,f,())with|none=>none|some (c,d,_)=>match(!(ieq d 0))with
 |true=>some (a.1,a.2.1,(false,(false,((0,(0,())),(0,())))),d,())
 |false=>match idx a.2.1 c with|none=>none|some b=>match D0 a.2.1 0 c with|none=>none|some g=>match D0 a.2.1 (w64 (c+1)) (A2 a.2.1)with|none=>none|some h=>match gl (([g,h]:List (List U2)),())with|none=>none|some (i,_)=>match fR (a.1,())with|none=>none|some (j,_)=>match A6 ALD many (0,false,false,0,0,0,b.1,b.2.1,b.2.2.1,b.2.2.2.1,a.1,i,b.2.2.2.1,false,0,0,0,j,b.2.2.1,())with|none=>none|some r=>match r with
 |.inl (s,t,u,v,w,x,k,l,m,n,o,p,q,y,_)=>some (k,l,(m,(n,((o,(p,())),(q,())))),0,())
 |.inr _=>none
def AO0[Lk]:=lkk AFw
theorem ALG v:AO0 v=AFw v:=A0 _
abbrev ALI:A1:=[Az,(.tmp 1,.own 196 V9),AI]
abbrev AWS:Loc×Con:=(.cell 1 1,.nil U1)
abbrev AGP:A1:=[AN,AK,AUP,AM,AL,AWS,(.tmp 9,.own 196 V9),(.tmp 10,.box 2),(.cell 3 0,.di),(.cell 3 1,.dat Ui),(.tmp 27,.own 88 U3),AV4,AV2]
abbrev AGO:BB:=[(.ret,[AM,AK,AUP,(.tmp 5,.nil V9),AUO]),(.exit 0,[AM,AK,AWQ,(.tmp 9,.own 196 V9),(.tmp 10,.box 2),AVG,(.cell 2 1,.dat Ui)])]
def AGN[Lk]:(Int×List U2×Int×List Ux×Int×List U2×List U4×Int×Int×Unit)->Option ((Int×List U2×Int×List Ux×Int×List U2×List U4×Int×Int×Unit)⊕(Int×List U2×Int×Unit)⊕(Int×List Ux×Int×List U2×Unit)⊕Unit):=fun(e,f,g,d,h,i,c,j,b,_)=>
 match(ilt b j)with
 |true=>match idx c b with|none=>none|some n=>match AO0 ((h,(i,())),(A5 c (A3 b) (0,(0,()))).1,(A5 c (A3 b) (0,(0,()))).2.1,())with|none=>none|some (l,m,a,k,_)=>match(!(ieq k 0))with
  |true=>some (.inr (.inl (e,f,k,())))
  |false=>match(fits ((A2 d)+(A2 ([(a.1,(a.2.1,((a.2.2.1.1,(a.2.2.1.2.1,())),(a.2.2.2.1,()))))]:List Ux))))with
  |true=>some (.inl (e,f,g,(Bk d ([(a.1,(a.2.1,((a.2.2.1.1,(a.2.2.1.2.1,())),(a.2.2.2.1,()))))]:List Ux)),l,m,c,j,(w64 (b+1)),()))
  |false=>none
 |false=>some (.inr (.inr (.inl (g,d,h,i,()))))
def vu[Lk]:(Ud×List U4×Unit)->Option ((Ud×List Ux×Int×Unit)):=fun(a,d,_)=>
 match vr ((a.1,(a.2.1,())),d,())with|none=>none|some (b,c,_)=>match(!(ieq c 0))with
 |true=>some ((a.1,(a.2.1,())),([]:List Ux),c,())
 |false=>match A6 AGN many (a.1,a.2.1,0,([]:List Ux),a.1,a.2.1,b,(A2 b),0,())with|none=>none|some r=>match r with
 |.inl (e,f,g,_)=>some ((e,(f,())),([]:List Ux),g,())
 |.inr r=>match r with
 |.inl (k,h,i,j,_)=>some ((i,(j,())),h,0,())
 |.inr _=>none
def ku[Lk]:=lkk vu
theorem AGQ v:ku v=vu v:=A0 _
def eW[Lk]:(Ud×Unit)->Option ((List Int×Bool×Unit)):=fun(a,_)=>
 match EK ((a.1,(a.2.1,())),())with|none=>none|some (b,_)=>match(!b)with
 |true=>some (([]:List (Int)),false,())
 |false=>match LB ((a.1,(a.2.1,())),())with|none=>none|some (c,_)=>match IP (a.1,c,())with|none=>none|some (d,e,_)=>some (d,true,())
def bh[Lk]:=lkk eW
theorem j8 v:bh v=eW v:=A0 _
abbrev qM:A1:=[Az,(.tmp 1,.dat Va)]
abbrev kB:A1:=[AX,(.tmp 8,.own 3 U0),(.tmp 20,.dat Va),(.tmp 21,.di),(.tmp 22,.di)]
abbrev kA:BB:=[(.ret,[(.tmp 4,.nil U0),AF]),(.exit 0,[(.tmp 8,.own 3 U0)])]
def j9[Lk]:(List Int×List Int×List Ub×Int×Int×Unit)->Option ((List Int×List Int×List Ub×Int×Int×Unit)⊕U9⊕Ue⊕Unit):=fun(d,a,e,f,b,_)=>
 match(ilt b f)with
 |true=>match idx e b with|none=>none|some c=>match Qy (d,(c.1,(c.2.1,(c.2.2.1,()))),())with|none=>none|some (g,h,_)=>match(!(ieq h 0))with
  |true=>some (.inr (.inl (h,())))
  |false=>match(fits ((A2 a)+(A2 ([g]:List (Int)))))with
  |true=>some (.inl (d,(Bk a ([g]:List (Int))),e,f,(w64 (b+1)),()))
  |false=>none
 |false=>some (.inr (.inr (.inl (a,()))))
def XT[Lk]:(Ud×List Ub×Unit)->Option (Uj):=fun(a,b,_)=>
 match bh ((a.1,(a.2.1,())),())with|none=>none|some (c,d,_)=>match(!d)with
 |true=>some (([]:List (Int)),1,())
 |false=>match A6 j9 many (c,([]:List (Int)),b,(A2 b),0,())with|none=>none|some r=>match r with
 |.inl (e,_)=>some (([]:List (Int)),e,())
 |.inr r=>match r with
 |.inl (f,_)=>some (f,0,())
 |.inr _=>none
def kD[Lk]:=lkk XT
theorem kC v:kD v=XT v:=A0 _
def mw[Lk]:(Uo×Int×Unit)->Option (U4):=fun(a,b,_)=>
 match O0 ((a.1,(a.2.1,())),([b]:List (Int)),())with|none=>none|some (c,_)=>match(!(ieq c 0))with
 |true=>some (0,c,())
 |false=>match tof ((a.1,(a.2.1,())),b,())with|none=>none|some (d,_)=>match idx a.2.1 d with|none=>none|some e=>match idx e 0 with|none=>none|some f=>some (f,0,())
def gO[Lk]:=lkk mw
theorem AB9 v:gO v=mw v:=A0 _
abbrev AWT:Loc×Con:=(.tmp 7,.own 88 U3)
abbrev eQ:A1:=[AN,AK,Av,AWT,(.tmp 24,.dat V0),AUa,AZ]
abbrev eP:BB:=[(.exit 0,[AWT])]
def eO[Lk]:(Int×List U6×List U4×List U4×Int×Int×Unit)->Option ((Int×List U6×List U4×List U4×Int×Int×Unit)⊕V7⊕Unit):=fun(a,b,c,e,f,d,_)=>
 match(ilt d f)with
 |true=>match idx e d with|none=>none|some g=>match gO ((a,(b,())),g.1,())with|none=>none|some (h,j,_)=>match gO ((a,(b,())),g.2.1,())with|none=>none|some (i,k,_)=>match(fits ((A2 c)+(A2 ([(h,(i,()))]:List U4))))with
  |true=>some (.inl (a,b,(Bk c ([(h,(i,()))]:List U4)),e,f,(w64 (d+1)),()))
  |false=>none
 |false=>some (.inr (.inl (c,())))
def Sp[Lk]:(Uo×List U4×Unit)->Option ((List U4×Int×Unit)):=fun(a,b,_)=>
 match Ji ((a.1,(a.2.1,())),())with|none=>none|some (d,_)=>match(!d)with
 |true=>some (([]:List U4),1,())
 |false=>match XS (a.1,b,())with|none=>none|some (c,_)=>match(!(ieq c 0))with
 |true=>some (([]:List U4),c,())
 |false=>match A6 eO many (a.1,a.2.1,([]:List U4),b,(A2 b),0,())with|none=>none|some r=>match r with
 |.inl (e,_)=>some (e,0,())
 |.inr _=>none
def RX[Lk]:=lkk Sp
theorem eR v:RX v=Sp v:=A0 _
abbrev yy:A1:=[AUc,AH]
def bc[Lk]:(Uo×List U4×Unit)->Option ((List Bool×Int×Unit)):=fun(a,c,_)=>
 match RX ((a.1,(a.2.1,())),c,())with|none=>none|some (d,b,_)=>match(!(ieq b 0))with
 |true=>some (([]:List (Bool)),b,())
 |false=>match XX (a.1,())with|none=>none|some (e,_)=>match XK (e,d,())with|none=>none|some (g,f,_)=>some (f,0,())
def eT[Lk]:=lkk bc
theorem qH v:eT v=bc v:=A0 _
abbrev APn:A1:=[AA,AVB,AI,AT]
abbrev AM0:A1:=[AN,AK,AUP,AM,AL,AWS,AWT,(.tmp 11,.own 4 .bool),(.tmp 13,.own 152 U1),(.tmp 46,.own' 2),AV3,(.tmp 48,.di)]
abbrev AMz:BB:=[(.exit 0,[AN,AK,AUP,AM,AL,AWS,AWT,(.tmp 13,.own 152 U1)])]
def AMy[Lk]:(Int×List U2×Int×List U4×List Bool×List U2×Int×Int×Unit)->Option ((Int×List U2×Int×List U4×List Bool×List U2×Int×Int×Unit)⊕(Int×List U2×Int×List U4×List U2×Unit)⊕Unit):=fun(e,f,g,b,c,d,h,a,_)=>
 match(ilt a h)with
 |true=>match idx b a with|none=>none|some i=>match idx c a with|none=>none|some j=>match(fits ((A2 d)+(A2 ([((A5 b (A3 a) (0,(0,()))).1,((A5 b (A3 a) (0,(0,()))).2.1,(0,((A5 c (A3 a) false),()))))]:List U2))))with
  |true=>some (.inl (e,f,g,b,c,(Bk d ([((A5 b (A3 a) (0,(0,()))).1,((A5 b (A3 a) (0,(0,()))).2.1,(0,((A5 c (A3 a) false),()))))]:List U2)),h,(w64 (a+1)),()))
  |false=>none
 |false=>some (.inr (.inl (e,f,g,b,d,())))
def AH4[Lk]:(Ud×List U4×Unit)->Option ((Int×List U2×Int×Int×Unit)):=fun(a,e,_)=>
 match AMx ((a.1,(a.2.1,())),e,())with|none=>none|some (b,c,_)=>match(!(ieq c 0))with
 |true=>some (a.1,a.2.1,0,c,())
 |false=>match AH1 ((a.1,(a.2.1,())),(A2 b),())with|none=>none|some (f,_)=>match(!f)with
 |true=>some (a.1,a.2.1,0,2,())
 |false=>match Gl ((a.1,(a.2.1,())),0,())with|none=>none|some (d,m,_)=>match eT ((d.1,(d.2.1,())),b,())with|none=>none|some (g,n,_)=>match HR a.2.1 with|none=>none|some h=>match A6 AMy many (a.1,a.2.1,0,b,g,h,(A2 b),0,())with|none=>none|some r=>match r with
 |.inl (i,o,p,j,k,_)=>match vZ (k,())with|none=>none|some (l,_)=>some (i,l,(A2 j),0,())
 |.inr _=>none
def AH5[Lk]:=lkk AH4
theorem AM1 v:AH5 v=AH4 v:=A0 _
def YD[Lk]:(V4×Unit)->Option (Uc):=fun(a,_)=>
 match EK ((a.1.1,(a.1.2.1,())),())with|none=>none|some (b,_)=>match b with
 |true=>match Mg (a.2.1,())with|none=>none|some (c,_)=>match c with
  |true=>match Mg (a.2.2.1,())with|none=>none|some (d,_)=>some (d,())
  |false=>some (false,())
 |false=>some (false,())
def Jo[Lk]:=lkk YD
theorem cO v:Jo v=YD v:=A0 _
open Go.Proofs
def UI:=Chn.g ⟨dF,iR⟩ ⟨151,0,0,1,0,none,BM,[(.ret,BH)],A4,[],[]⟩ AE1 Tryz.func151 AE0
theorem APu:Tryz.f150.body.isSome=true:=by kernel_rfl
theorem APt : (Tryz.f150.name == "runtime.NumGoroutine") = false := by kernel_rfl
theorem APs:loops (Bz Tryz.f150)=0:=by kernel_rfl
def dK[Lk]:Env:=UI.e.ext 150 false false (CE Tryz.prog UI.e {} Tryz.f150)
theorem jB:BE Tryz.prog dK:=Env.CA UI.h (Bn UI.h Tryz.func150 APu APt APs) (by simp) (by simp)
def YN:=Chn.g ⟨dK,jB⟩ ⟨134,0,0,2,0,some (1,150),Me,[(.ret,BM)],A4,[],[(0,Ti,FL)]⟩ LL Tryz.func134 Tj
def AIM:=Chn.g YN ⟨122,0,0,2,0,none,AIL,[(.ret,BH)],A4,[],[(0,ACG,Rv)]⟩ tL Tryz.func122 ACH
def AL2:=Chn.g AIM ⟨54,0,0,2,0,none,AL1,[(.ret,BH)],A4,[],[]⟩ mJ Tryz.func54 AHA
def nT:=Chn.g AL2 ⟨33,0,0,1,0,none,BM,[(.ret,BH)],A4,[],[]⟩ KW Tryz.func33 Qr
def zd:=Chn.g nT ⟨8,0,0,1,0,none,br,[(.ret,BH)],A4,[],[]⟩ Pj Tryz.func8 Xf
def AHb:=Chn.g zd ⟨21,0,0,1,0,none,BM,[(.ret,AHa)],BL,[],[]⟩ YO Tryz.func21 ABq
def ACO:=Chn.g AHb ⟨31,0,0,1,0,none,F_,[(.ret,Pz)],A4,[(7,[[],[0],[0],[],[],[],[],[0],[0],[],[],[],[],[],[],[3,4]])],[(0,Xg,Yd)]⟩ VD Tryz.func31 Ye
def AIN:=Chn.g ACO ⟨136,0,0,2,0,none,KP,[(.ret,BH)],A4,[],[(0,ACI,Rv)]⟩ SB Tryz.func136 cd
def ACK:=Chn.g AIN ⟨135,0,0,3,0,some (2,136),ACJ,[(.ret,BH)],A4,[],[(0,tO,tN)]⟩ Qi Tryz.func135 Ya
def PN:=Chn.g ACK ⟨127,0,0,2,0,none,ADv,[(.ret,BH)],A4,[],[]⟩ dZ Tryz.func127 ar
theorem AOb:Tryz.f61.body.isSome=true:=by kernel_rfl
theorem AOa : (Tryz.f61.name == "runtime.NumGoroutine") = false := by kernel_rfl
theorem AOZ:loops (Bz Tryz.f61)=0:=by kernel_rfl
def dG[Lk]:Env:=PN.e.ext 61 false false (CE Tryz.prog PN.e {} Tryz.f61)
theorem iV:BE Tryz.prog dG:=Env.CA PN.h (Bn PN.h Tryz.func61 AOb AOa AOZ) (by simp) (by simp)
def Z1:=Chn.g ⟨dG,iV⟩ ⟨134,0,0,2,0,some (1,61),Nz,[(.ret,BM)],A4,[],[(0,YJ,FL)]⟩ MZ Tryz.func134 MY
def Yt:=Chn.g Z1 ⟨60,0,0,2,0,some (1,61),Nz,[(.ret,BH)],A4,[],[]⟩ Hj Tryz.func60 Lm
def eE:=Chn.g Yt ⟨7,0,0,1,0,none,F_,[(.ret,BH)],A4,[(1,[[0],[],[],[0],[0],[0],[],[10],[0],[0],[0],[],[26],[18,34]])],[]⟩ IM Tryz.func7 Jj
def Tu:=Chn.g eE ⟨60,0,0,2,0,some (1,150),Me,[(.ret,BH)],A4,[],[]⟩ Jz Tryz.func60 SQ
def Tt:=Chn.g Tu ⟨60,0,0,2,0,some (1,207),Mb,[(.ret,BH)],A4,[],[]⟩ Gn Tryz.func60 KZ
def Qv:=Chn.g Tt ⟨60,0,1,2,0,some (1,172),KQ,[(.ret,Qu)],A4,[],[]⟩ E0 Tryz.func60 Iw
def Ys:=Chn.g Qv ⟨60,0,0,2,0,some (1,129),Ny,[(.ret,BH)],A4,[],[]⟩ Hi Tryz.func60 Ll
def O6:=Chn.g Ys ⟨60,0,1,2,0,some (1,212),JX,[(.ret,O5)],A4,[],[]⟩ GX Tryz.func60 HV
def aL:=Chn.g O6 ⟨60,0,1,2,0,some (1,115),QP,[(.ret,aK)],A4,[],[]⟩ Mw Tryz.func60 Yu
def Yk:=Chn.g aL ⟨334,0,2,2,8,some (1,335),Mc,[(.ret,Yj)],A4,[],[(0,Tp,To)]⟩ LU Tryz.func334 Tq
def AIo:=Chn.g Yk ⟨139,0,0,2,0,none,KP,[(.ret,BH)],A4,[],[]⟩ SO Tryz.func139 cq
def ADH:=Chn.g AIo ⟨65,0,0,2,0,none,ADG,[(.ret,J4)],BL,[(5,[[0],[2],[2],[],[],[0],[2],[2]])],[]⟩ Qy Tryz.func65 Y6
def yx:=Chn.g ADH ⟨74,0,0,1,0,none,yw,[(.ret,bY)],BL,[],[(0,qF,qE)]⟩ eN Tryz.func74 qG
def AFN:=Chn.g yx ⟨124,0,0,1,0,none,Oc,[(.ret,BH)],A4,[],[]⟩ MC Tryz.func124 bo
def AF1:=Chn.g AFN ⟨317,0,0,2,0,none,KP,[(.ret,Xm)],BL,[],[(0,z3,z0)]⟩ places Tryz.func317 b7
def AKz:=Chn.g AF1 ⟨267,0,0,2,0,none,MT,[(.ret,Xm)],BL,[],[]⟩ kP Tryz.func267 kO
def AFO:=Chn.g AKz ⟨319,0,0,1,0,none,Oc,[(.ret,Ey)],A4,[],[]⟩ eZ Tryz.func319 bp
def AD9:=Chn.g AFO ⟨55,0,0,1,0,none,AD8,[(.ret,BH)],A4,[(8,[[],[],[],[],[],[],[],[],[],[],[],[],[],[],[],[],[],[],[],[],[],[],[],[],[0],[0]])],[(0,yP,yM),(1,yO,yL),(2,yN,yK)]⟩ Ji Tryz.func55 bB
def ANY:=Chn.g AD9 ⟨266,0,0,3,0,none,xX,[(.ret,BM)],A4,[],[]⟩ asked Tryz.func266 n7
def AJ6:=Chn.g ANY ⟨269,0,0,3,0,none,AJ5,[(.ret,AJ4)],AJ3,[],[(0,ADz,ADx),(1,ADy,ADw)]⟩ vL Tryz.func269 jT
def AKF:=Chn.g AJ6 ⟨228,0,0,3,0,none,xX,[(.ret,AKE)],vN,[(9,[[],[28],[0],[0],[],[],[],[],[],[0],[0],[],[],[],[],[],[28],[28,52,36,62],[64]]),(4,[[0],[],[],[0]])],[]⟩ bE Tryz.func228 W5
def AH7:=Chn.g AKF ⟨89,0,0,2,0,none,AH6,[(.ret,BM)],A4,[],[]⟩ O0 Tryz.func89 cW
def tT:=Chn.g AH7 ⟨227,0,0,3,0,some (2,228),tS,[(.ret,Yf)],D5,[(1,[[0],[],[],[4]])],[(0,nI,nH)]⟩ Yg Tryz.func227 TH
def AIF:=Chn.g tT ⟨171,0,0,2,0,none,YW,[(.ret,Yf)],D5,[],[]⟩ tJ Tryz.func171 ca
def ARE:=Chn.g AIF ⟨87,0,0,2,0,none,Jf,[(.ret,J2)],BL,[],[]⟩ fof Tryz.func87 AID
def AHB:=Chn.g ARE ⟨86,0,0,1,0,none,F_,[(.ret,BH)],A4,[(7,[[2],[2],[],[],[2],[2],[2],[2],[],[],[],[2],[2],[0],[0],[],[],[],[2],[2],[],[],[],[2],[2],[],[],[],[],[],[],[],[0],[0],[],[],[],[],[2]])],[(0,ABN,ABM)]⟩ EK Tryz.func86 KK
def AQf:=Chn.g AHB ⟨90,0,0,2,0,none,J2,[(.ret,BM)],A4,[],[]⟩ tof Tryz.func90 AOP
def ABT:=Chn.g AQf ⟨39,0,0,2,0,none,P1,[(.ret,J2)],BL,[(3,[[0],[0],[0],[],[],[12],[],[],[3]])],[]⟩ Gl Tryz.func39 Of
def yJ:=Chn.g ABT ⟨58,0,0,2,4,none,KP,[(.ret,yI)],bJ,[(12,[[2],[2],[],[],[],[],[],[10],[10],[8],[9,12]]),(5,[[],[],[],[],[],[],[],[],[37]])],[(0,pD,oz),(1,pC,oy)]⟩ PR Tryz.func58 Wr
def AHI:=Chn.g yJ ⟨42,0,0,1,0,none,F_,[(.ret,Pz)],A4,[],[(0,ABX,Yd)]⟩ LB Tryz.func42 cH
def ALH:=Chn.g AHI ⟨109,0,0,2,0,none,UO,[(.ret,fB)],BL,[(10,[[2],[6],[4],[],[5],[],[5]])],[(0,AGK,AGJ)]⟩ vr Tryz.func109 AGL
def APm:=Chn.g ALH ⟨102,0,0,2,0,none,UO,[(.ret,fB)],BL,[],[(0,AMv,AMt),(1,AMu,AMs)]⟩ AMx Tryz.func102 AMw
def ANb:=Chn.g APm ⟨116,0,0,1,0,none,F_,[(.ret,BM)],A4,[],[]⟩ AJg Tryz.func116 AJf
def AJm:=Chn.g ANb ⟨50,0,0,3,0,none,AJl,[(.ret,AJk)],AEJ,[(16,[[48],[48],[50],[0]])],[]⟩ ZD Tryz.func50 ADW
def AL6:=Chn.g AJm ⟨250,0,0,3,0,none,P6,[(.ret,BM)],A4,[],[]⟩ AHG Tryz.func250 AHF
def tI:=Chn.g AL6 ⟨299,0,0,2,0,none,J2,[(.ret,L5)],BL,[(4,[[0],[0],[0],[],[],[],[],[],[],[1000005,21,1]])],[]⟩ Qc Tryz.func299 mv
def AGM:=Chn.g tI ⟨192,0,0,3,0,none,P6,[(.ret,J4)],BL,[],[]⟩ fC Tryz.func192 AAC
def UM:=Chn.g AGM ⟨252,0,0,4,0,none,ALC,[(.ret,L5)],BL,[(9,[[],[20],[],[28],[],[],[20],[20],[],[28],[28],[],[],[60]])],[]⟩ AFj Tryz.func252 AFi
def M9[Lk]:Env:=UM.e.ext 254 false false (CE Tryz.prog UM.e { fp:=fun n=>match n with|0=>[[],[],[0],[0],[0],[],[2],[2],[2],[],[],[2],[2],[3]]|_=>[] } Tryz.f254)
theorem M8:BE Tryz.prog M9:=Env.CA UM.h (Bn UM.h Tryz.func254 AFt AFs AFr) (by simp) (by simp)
def dI[Lk]:Env:=M9.ext 253 false false (CE Tryz.prog M9 {} Tryz.f253)
theorem ij:BE Tryz.prog dI:=Env.CA M8 (Bn M8 Tryz.func253 APN APM APL) (by simp) (by simp)
def AQz:=Chn.g ⟨dI,ij⟩ ⟨194,0,2,4,0,none,AQy,[(.ret,AQx)],A4,[(29,[[],[],[],[2],[2],[2],[],[2],[2],[2],[],[0],[0],[0],[1],[0],[0],[0],[1]])],[(0,APJ,APG),(1,API,APF),(2,APH,APE)]⟩ pat Tryz.func194 APK
def AOz:=Chn.g AQz ⟨110,0,0,3,0,none,P6,[(.ret,AOy)],AFv,[(9,[[],[4],[4],[4],[],[4],[4],[4],[1],[3]]),(5,[[0],[0],[0],[0],[],[],[0],[0],[],[],[],[],[16],[],[14],[14],[],[0],[0],[],[],[18]])],[(0,ALF,ALE)]⟩ AO0 Tryz.func110 ALG
def ALJ:=Chn.g AOz ⟨48,0,0,2,0,none,UO,[(.ret,ALI)],D5,[(12,[[20],[],[22],[],[5,24],[7]])],[(0,AGP,AGO)]⟩ ku Tryz.func48 AGQ
def AKv:=Chn.g ALJ ⟨64,0,0,1,0,none,F_,[(.ret,Xm)],BL,[(3,[[0],[0],[0],[],[10]])],[]⟩ bh Tryz.func64 j8
def qN:=Chn.g AKv ⟨214,0,0,2,0,none,qM,[(.ret,L5)],BL,[],[(0,kB,kA)]⟩ kD Tryz.func214 kC
def AIH:=Chn.g qN ⟨238,0,0,2,0,none,J2,[(.ret,J4)],BL,[(4,[[0],[0],[0]])],[]⟩ gO Tryz.func238 AB9
def jx:=Chn.g AIH ⟨185,0,0,2,0,none,YW,[(.ret,fB)],BL,[],[(0,eQ,eP)]⟩ RX Tryz.func185 eR
def yz:=Chn.g jx ⟨104,0,0,2,0,none,YW,[(.ret,yy)],BL,[],[]⟩ eT Tryz.func104 qH
def APo:=Chn.g yz ⟨47,0,0,2,0,none,UO,[(.ret,APn)],AFv,[(12,[[],[10],[10],[10],[10],[],[],[6],[6],[],[],[9,12]])],[(0,AM0,AMz)]⟩ AH5 Tryz.func47 AM1
def G5:=Chn.g APo ⟨57,0,0,1,0,none,br,[(.ret,BH)],A4,[],[]⟩ Jo Tryz.func57 cO
set_option maxHeartbeats 8000000
attribute [local irreducible] A2 A5 Bk C1 HP C5 A3 DX Cn imax idx D0 ilt ile ieq seq? quo? rem? shl? shr? fits CC IntKind.wrap A9 BI Xj sM Ba SH A6 many Mt
abbrev JU:A1:=[AA]
abbrev JT:A1:=[]
abbrev LI:List RS:=[]
abbrev QG:A1:=[]
def fi[Lk]:Hints:={ fp:=Qb [] }
def cR[Lk](v:BV (leaves JU)):Option (BV (leaves JT)⊕(List Int×BV (leaves QG))):=Lk.f (DT 0 Tryz.prog G5.e fi Tryz.f213 JU JT LI 229 [.i64] QG v)
theorem mZ(v):cR v=DT 0 Tryz.prog G5.e fi Tryz.f213 JU JT LI 229 [.i64] QG v:=A0 _
theorem S9:Bu Tryz.prog 0 fi (Bz Tryz.f213) 0:=C6 _ 0 (by kernel_rfl)
theorem AHY:Gq Tryz.prog 213 (BU 0 1 JU JT LI fun x=>DG (cR x)) (HU 0 1 JU JT LI 229 [.i64] QG cR):=KJ G5.h.1 G5.h.2.1 G5.h.2.2 Tryz.func213 (Fp (by kernel_rfl)) (CW Tryz.func213 (by kernel_rfl) (by kernel_rfl)) (ASI rfl) mZ S9
theorem AHX:BQ Tryz.prog 213 (BU 0 1 JU JT LI fun x=>DG (cR x)):=KH G5.h Tryz.func213 (by kernel_rfl) (by kernel_rfl) rfl mZ S9
def VN[Lk]:Env:=Env.gS G5.e 213 true (BU 0 1 JU JT LI fun x=>DG (cR x)) (HU 0 1 JU JT LI 229 [.i64] QG cR)
theorem I6:BE Tryz.prog VN:=Env.VB G5.h AHX AHY (fun _=>CM rfl rfl)
abbrev AWU:Loc×Con:=(.tmp 1,.dat (.prod (.int .i64) (.prod (.slice (.prod (.int .i64) (.prod (.int .i64) .unit))) (.prod (.slice (.prod (.int .i64) (.prod (.int .i64) (.prod (.int .i64) .unit)))) .unit))))
abbrev AWV:Loc×Con:=(.tmp 2,.dat (.prod (.int .i64) (.prod (.int .i64) (.prod (.prod (.int .i64) (.prod (.int .i64) (.prod (.slice (.arr 2 (.int .i64))) .unit))) .unit))))
abbrev AWW:Loc×Con:=(.cell 0 1,.dat (.slice (.prod (.int .i64) (.prod (.int .i64) (.prod (.int .i64) (.prod .bool .unit))))))
abbrev AWX:Loc×Con:=(.cell 0 6,.dat (.slice (.int .i64)))
abbrev JR:A1:=[(.tmp 0,.box 7),AK,AWW,AVV,AVW,AWN,AUu,AWX,AWU,AWV]
abbrev JQ:A1:=[(.obj 0,.box 7),AK,AWW,AVV,AVW,AWN,AUu,AWX]
abbrev LF:List RS:=[]
abbrev QC:A1:=[(.obj 0,.box 7)]
def fb[Lk]:Hints:={ fp:=Qb [(1,[[],[0],[0],[0],[0],[2],[4],[],[],[],[],[],[],[15]]),(7,[[],[],[],[0],[0],[0],[0],[14],[14],[6],[],[],[],[],[0],[0],[0],[1],[0],[0],[0],[1]]),(9,[[],[],[0],[0],[0],[0],[14],[14],[6],[],[],[],[],[0],[0],[0],[1]]),(12,[[],[],[0],[0],[0],[0],[14],[14],[],[],[],[],[0],[0],[0],[1]])] }
def cL[Lk](v:BV (leaves JR)):Option (BV (leaves JQ)⊕(List Int×BV (leaves QC))):=Lk.f (DT 1 Tryz.prog VN fb Tryz.f144 JR JQ LF 229 [.i64] QC v)
theorem mV(v):cL v=DT 1 Tryz.prog VN fb Tryz.f144 JR JQ LF 229 [.i64] QC v:=A0 _
theorem S8:Bu Tryz.prog 1 fb (Bz Tryz.f144) 0:=C6 _ 0 (by kernel_rfl)
theorem AHL:Gq Tryz.prog 144 (BU 1 3 JR JQ LF fun x=>DG (cL x)) (HU 1 3 JR JQ LF 229 [.i64] QC cL):=KJ I6.1 I6.2.1 I6.2.2 Tryz.func144 (Fp (by kernel_rfl)) (CW Tryz.func144 (by kernel_rfl) (by kernel_rfl)) (ASI rfl) mV S8
theorem AHK:BQ Tryz.prog 144 (BU 1 3 JR JQ LF fun x=>DG (cL x)):=KH I6 Tryz.func144 (by kernel_rfl) (by kernel_rfl) rfl mV S8
def VM[Lk]:Env:=Env.gS VN 144 false (BU 1 3 JR JQ LF fun x=>DG (cL x)) (HU 1 3 JR JQ LF 229 [.i64] QC cL)
theorem Ld:BE Tryz.prog VM:=Env.VB I6 AHK AHL (by simp)
abbrev AWY:Loc×Con:=(.tmp 0,.dat (.prod (.prod (.int .i64) (.prod (.slice (.prod (.int .i64) (.prod (.int .i64) (.prod (.int .i64) (.prod .bool .unit))))) .unit)) (.prod (.int .i64) (.prod (.int .i64) .unit))))
abbrev MR:A1:=[AWY,AWU,AWV]
abbrev MQ:A1:=[AWY,(.tmp 1,.dat (.prod (.int .i64) (.prod (.int .i64) (.prod (.slice (.int .i64)) .unit))))]
abbrev QB:List RS:=[.one,.one]
abbrev AWZ:Loc×Con:=(.tmp 3,.box 4)
abbrev mT:A1:=[AWZ,(.tmp 6,.box 4),(.tmp 7,.box 3),AK,AWW,AVV,AVW,AL,(.cell 1 1,.nil (.prod (.int .i64) (.prod (.int .i64) (.prod (.int .i64) (.prod .bool .unit))))),AVj,AWR,AVG,AVF,(.cell 2 2,.nil (.int .i64)),AUo,(.cell 3 0,.di),(.cell 3 1,.dat (.slice (.prod (.int .i64) (.prod (.int .i64) .unit)))),(.cell 3 2,.dat (.slice (.prod (.int .i64) (.prod (.int .i64) (.prod (.int .i64) .unit))))),(.tmp 5,.box 5),(.cell 4 0,.di),(.cell 4 1,.di),(.cell 4 2,.di),(.cell 4 3,.di),(.cell 4 4,.dat (.slice (.arr 2 (.int .i64))))]
def Rs[Lk]:Hints:={ fp:=Qb [(6,[[],[10],[10],[10],[],[10],[10],[10],[3],[5]])] }
def cK:Hints:={ fp:=Qb [(3,[[0],[20],[20],[],[3],[5]])] }
def Ig[Lk](v:BV (leaves MR)):Option (BV (leaves MQ)):=Lk.f (Rf Tryz.prog VM Tryz.f68 2 MR MQ QB {} Rs cK mT 3 v)
theorem ABZ(v):Ig v=Rf Tryz.prog VM Tryz.f68 2 MR MQ QB {} Rs cK mT 3 v:=A0 _
theorem fZ[DfI]:Bu Tryz.prog 3 Rs (nY 2 (Bz Tryz.f68)) 0:=C6 _ 0 (by kernel_rfl)
theorem mS:BQ Tryz.prog 68 (BU 0 3 MR MQ QB Ig):=mE Ld.1 Ld.2.1 Ld.2.2 Tryz.func68 (Fp (by kernel_rfl)) (CW Tryz.func68 (by kernel_rfl) (by kernel_rfl)) (ASI rfl) ABZ fZ
def oT[Lk]:Env:=VM.ext 68 true true (BU 0 3 MR MQ QB Ig)
theorem oS:BE Tryz.prog oT:=Env.CA Ld mS (fun _=>Hd rfl rfl) (fun _=>CM rfl rfl)
end
end Go.Pev
end
section
namespace Go.Pev
noncomputable section
abbrev APZ:A1:=[AVw,(.tmp 1,.dat (.slice (.int .u8))),AWK]
abbrev APY:A1:=[AVw,(.tmp 1,.own 58 Vf),AI]
abbrev AMD:A1:=[AWZ,AK,AUP,AVV,AVW,(.tmp 5,.box 5),AL,AVA,AVj,AWR,(.cell 1 4,.dat (.slice (.arr 2 U0))),(.tmp 6,.box 4),AVG,(.cell 2 1,.nil U1),(.cell 2 2,.di),(.cell 2 3,.di),Ab,(.tmp 12,.own 58 Vf),(.tmp 27,.dat (.slice (.prod U0 (.prod V0 (.prod Va .unit))))),AV4,AV2]
abbrev AMC:BB:=[(.exit 0,[AWZ,AK,AUP,AVV,AVW,(.tmp 6,.box 4),AL,AWS,AVj,AWR,Ab,(.tmp 12,.own 58 Vf)])]
def QD[Lk]:Ve->Option (Ve⊕(Int×List U2×Int×Int×Int×Int×Int×Int×List Uw×Unit)⊕Unit):=fun(f,g,h,i,j,k,l,m,n,o,p,q,r,c,s,t,d,_)=>
 match(ilt d t)with
 |true=>match idx s d with|none=>none|some e=>match Ig (((f,(g,())),(h,(i,()))),(e.1,(e.2.1,(e.2.2.1,()))),(j,(k,((l,(m,(n,()))),()))),())with|none=>none|some (b,a,_)=>match(fits ((A2 c)+(A2 ([(a.1,(a.2.1,(a.2.2.1,())))]:List Uw))))with
  |true=>some (.inl (b.1.1,b.1.2.1,b.2.1,b.2.2.1,j,k,l,m,n,o,p,q,r,(Bk c ([(a.1,(a.2.1,(a.2.2.1,())))]:List Uw)),s,t,(w64 (d+1)),()))
  |false=>none
 |false=>some (.inr (.inl (f,g,h,i,o,p,q,r,c,())))
def sw[Lk]:(V4×List Int×(Int×Int×Us×Unit)×Unit)->Option ((V4×List Uw×Int×Unit)):=fun(a,j,b,_)=>
 match Jo (((a.1.1,(a.1.2.1,())),(a.2.1,(a.2.2.1,()))),())with|none=>none|some (k,_)=>match(!k)with
 |true=>some (((a.1.1,(a.1.2.1,())),(a.2.1,(a.2.2.1,()))),([]:List Uw),1,())
 |false=>match Kr (j,())with|none=>none|some (e,m,l,_)=>match A6 QD many (a.1.1,a.1.2.1,a.2.1,a.2.2.1,b.1,b.2.1,b.2.2.1.1,b.2.2.1.2.1,b.2.2.1.2.2.1,0,0,0,l,([]:List Uw),e,(A2 e),0,())with|none=>none|some r=>match r with
 |.inl (f,g,h,i,n,o,p,c,d,_)=>match(!(ieq c 0))with
  |true=>match(fits ((A2 d)+(A2 ([(c,(0,(([]:List (Int)),())))]:List Uw))))with
   |true=>some (((f,(g,())),(h,(i,()))),(Bk d ([(c,(0,(([]:List (Int)),())))]:List Uw)),c,())
   |false=>none
  |false=>some (((f,(g,())),(h,(i,()))),d,c,())
 |.inr _=>none
def AHM[Lk]:=lkk sw
theorem wu v:AHM v=sw v:=A0 _
abbrev AHN:A1:=[(.tmp 0,.dat (.slice Vf))]
abbrev AWa:Loc×Con:=(.tmp 4,.own 5 (.int .u8))
abbrev ABg:A1:=[AWa,(.tmp 9,.dat (.slice Vf)),Aa,Ab]
abbrev ABf:BB:=[(.ret,[(.tmp 2,.nil (.int .u8)),AT]),(.exit 0,[AWa])]
def ABe[Lk]:(List Int×List Uw×Int×Int×Unit)->Option ((List Int×List Uw×Int×Int×Unit)⊕U9⊕Ue⊕Unit):=fun(a,d,e,b,_)=>
 match(ilt b e)with
 |true=>match idx d b with|none=>none|some c=>match eN ((c.1,(c.2.1,(c.2.2.1,()))),())with|none=>none|some (f,g,_)=>match(!(ieq g 0))with
  |true=>some (.inr (.inl (g,())))
  |false=>match(fits ((A2 a)+(A2 f)))with
  |true=>some (.inl ((Bk a f),d,e,(w64 (b+1)),()))
  |false=>none
 |false=>some (.inr (.inr (.inl (a,()))))
def mW[Lk]:(List Uw×Unit)->Option (Uj):=fun(a,_)=>
 match A6 ABe many (([]:List (Int)),a,(A2 a),0,())with|none=>none|some r=>match r with
 |.inl (b,_)=>some (([]:List (Int)),b,())
 |.inr r=>match r with
 |.inl (c,_)=>some (c,0,())
 |.inr _=>none
def YE[Lk]:=lkk mW
theorem ABh v:YE v=mW v:=A0 _
abbrev ABb:A1:=[AVw,AUT]
abbrev ABa:A1:=[(.tmp 0,.own 39 Uu),AH]
abbrev su:A1:=[AUT,(.tmp 8,.own 39 Uu),(.tmp 23,.dat U8),AUg,AUa]
abbrev ss:BB:=[(.exit 0,[(.tmp 8,.own 39 Uu)])]
def Ih[Lk]:(List Int×List Uk×List U6×Int×Int×Unit)->Option ((List Int×List Uk×List U6×Int×Int×Unit)⊕(List Uk×Unit)⊕Unit):=fun(c,a,d,e,b,_)=>
 match(ilt b e)with
 |true=>match idx d b with|none=>none|some f=>match NG (f,c,())with|none=>none|some (j,_)=>match PR (f,j,())with|none=>none|some (g,h,i,k,_)=>match(fits ((A2 a)+(A2 ([(g,(h,(i,())))]:List Uk))))with
  |true=>some (.inl (c,(Bk a ([(g,(h,(i,())))]:List Uk)),d,e,(w64 (b+1)),()))
  |false=>none
 |false=>some (.inr (.inl (a,())))
def Ru[Lk]:(V4×List Int×Unit)->Option ((List Uk×Int×Unit)):=fun(a,c,_)=>
 match Jo (((a.1.1,(a.1.2.1,())),(a.2.1,(a.2.2.1,()))),())with|none=>none|some (d,_)=>match(!d)with
 |true=>some (([]:List Uk),1,())
 |false=>match Gl ((a.1.1,(a.1.2.1,())),0,())with|none=>none|some (b,f,_)=>match A6 Ih many (c,([]:List Uk),b.2.1,(A2 b.2.1),0,())with|none=>none|some r=>match r with
 |.inl (e,_)=>some (e,0,())
 |.inr _=>none
def LD[Lk]:=lkk Ru
theorem YC v:LD v=Ru v:=A0 _
abbrev au:A1:=[AVz]
def RP[Lk]:(Uk×Unit)->Option (Uc):=fun(a,_)=>
 match PR (a.1,a.2.1,())with|none=>none|some (b,c,d,e,_)=>match(ieq e 0)with
 |true=>match dZ ((b,(c,(d,()))),(a.1,(a.2.1,(a.2.2.1,()))),())with|none=>none|some (f,_)=>some (f,())
 |false=>some (false,())
def JC[Lk]:=lkk RP
theorem Wo v:JC v=RP v:=A0 _
abbrev AE3:A1:=[AVz,AB]
abbrev AE2:A1:=[AW,AH]
abbrev AWb:Loc×Con:=(.tmp 10,.rows 36 3 U0)
abbrev zE:A1:=[AUO,AVY,AWb,Ab,(.tmp 56,.dat U8),AVT,(.tmp 58,.di),(.tmp 63,.dat U5),(.tmp 64,.di),(.tmp 65,.di)]
abbrev zB:BB:=[(.exit 4,[AUO,AVY,AWb,(.tmp 56,.dat U8),AVT,(.tmp 58,.di)])]
def Hz[Lk]:(Int×List Int×List U6×Int×List U6×Int×Int×List Int×Int×Int×Unit)->Option ((Int×List Int×List U6×Int×List U6×Int×Int×List Int×Int×Int×Unit)⊕(Int×List Int×List U6×List U6×Int×Int×Unit)⊕Unit):=fun(e,b,c,a,g,h,i,j,k,f,_)=>
 match(ilt f k)with
 |true=>match idx j f with|none=>none|some d=>match idx b d with|none=>none|some l=>match idx b a with|none=>none|some m=>match(ile d a)with
  |true=>match idx b e with|none=>none|some n=>match idx c a with|none=>none|some o=>match(fits ((A2 (A5 c (A3 a) ([]:List (Int))))+(A2 ([(w64 ((w64 ((A5 b (A3 d) 0)-(A5 b (A3 a) 0)))+(A5 b (A3 e) 0)))]:List (Int)))))with
   |true=>match idx (Ba c (A3 a) (Bk (A5 c (A3 a) ([]:List (Int))) ([(w64 ((w64 ((A5 b (A3 d) 0)-(A5 b (A3 a) 0)))+(A5 b (A3 e) 0)))]:List (Int)))) a with|none=>none|some p=>match(ieq (((A3 a):Nat):Int) (((A3 a):Nat):Int)&&ieq (((A3 a):Nat):Int) (((A3 a):Nat):Int))with
    |true=>some (.inl (e,b,(Ba c (A3 a) (Bk (A5 c (A3 a) ([]:List (Int))) ([(w64 ((w64 ((A5 b (A3 d) 0)-(A5 b (A3 a) 0)))+(A5 b (A3 e) 0)))]:List (Int)))),a,g,h,i,j,k,(w64 (f+1)),()))
    |false=>none
   |false=>none
  |false=>match idx c a with|none=>none|some q=>match(fits ((A2 (A5 c (A3 a) ([]:List (Int))))+(A2 ([(w64 ((A5 b (A3 d) 0)-(A5 b (A3 a) 0)))]:List (Int)))))with
  |true=>match idx (Ba c (A3 a) (Bk (A5 c (A3 a) ([]:List (Int))) ([(w64 ((A5 b (A3 d) 0)-(A5 b (A3 a) 0)))]:List (Int)))) a with|none=>none|some r=>match(ieq (((A3 a):Nat):Int) (((A3 a):Nat):Int)&&ieq (((A3 a):Nat):Int) (((A3 a):Nat):Int))with
   |true=>some (.inl (e,b,(Ba c (A3 a) (Bk (A5 c (A3 a) ([]:List (Int))) ([(w64 ((A5 b (A3 d) 0)-(A5 b (A3 a) 0)))]:List (Int)))),a,g,h,i,j,k,(w64 (f+1)),()))
   |false=>none
  |false=>none
 |false=>some (.inr (.inl (e,b,c,g,h,i,())))
abbrev zF:A1:=[AUO,AVY,AWb,(.tmp 56,.dat U8),AVT,(.tmp 58,.di)]
abbrev zC:BB:=[(.exit 2,[AWb])]
def H0[Lk]:(Int×List Int×List U6×List U6×Int×Int×Unit)->Option ((Int×List Int×List U6×List U6×Int×Int×Unit)⊕(List U6×Unit)⊕Unit):=fun(f,g,b,c,d,a,_)=>
 match(ilt a d)with
 |true=>match idx c a with|none=>none|some e=>match A6 Hz many (f,g,b,a,c,d,a,e,(A2 e),0,())with|none=>none|some r=>match r with
  |.inl (h,i,j,k,l,m,_)=>some (.inl (h,i,j,k,l,(w64 (m+1)),()))
  |.inr _=>none
 |false=>some (.inr (.inl (b,())))
abbrev AWc:Loc×Con:=(.cell 0 1,.dat U5)
abbrev AWd:Loc×Con:=(.cell 0 2,.dat U8)
abbrev zG:A1:=[AUp,AVi,AWc,AWd,AUO,AVY,(.tmp 35,.dat U5),(.tmp 36,.di),(.tmp 37,.di)]
abbrev zD:BB:=[(.exit 0,[AUp,AVi,AWc,AWd,AUO,AVY])]
def H3[Lk]:(List Int×List Int×List U6×Int×List Int×List Int×Int×Int×Unit)->Option ((List Int×List Int×List U6×Int×List Int×List Int×Int×Int×Unit)⊕(List Int×List Int×List U6×Int×List Int×Unit)⊕Unit):=fun(c,d,e,f,b,g,h,a,_)=>
 match(ilt a h)with
 |true=>match idx g a with|none=>none|some i=>match idx b a with|none=>none|some j=>match idx b (w64 (a+1))with|none=>none|some k=>some (.inl (c,d,e,f,(Ba b (A3 (w64 (a+1))) (w64 ((A5 b (A3 a) 0)+i))),g,h,(w64 (a+1)),()))
 |false=>some (.inr (.inl (c,d,e,f,b,())))
def XQ[Lk]:(Uk×List Int×Unit)->Option ((List U6×Int×Unit)):=fun(a,c,_)=>
 match(!(ieq (A2 c) (A2 a.1)))with
 |true=>some (([]:List U6),1,())
 |false=>match JC ((a.1,(a.2.1,(a.2.2.1,()))),())with|none=>none|some (e,_)=>match(!e)with
 |true=>some (([]:List U6),1,())
 |false=>match Hj (c,())with|none=>none|some (f,_)=>match f with
 |true=>some (([]:List U6),1,())
 |false=>match(CC (w64 ((A2 a.1)+1))&&CC (w64 ((A2 a.1)+1))&&ile (w64 ((A2 a.1)+1)) (w64 ((A2 a.1)+1))&&true)with
 |true=>match A6 H3 many (a.1,a.2.1,a.2.2.1,(A2 a.1),(C5 (A3 (w64 ((A2 a.1)+(1:Int)))) (0:Int)),c,(A2 c),(0:Int),())with|none=>none|some r=>match r with
  |.inl (i,j,d,b,g,_)=>match(CC b&&CC b&&ile b b&&true)with
   |true=>match A6 H0 many (b,g,(C5 (A3 b) ([]:List Int)),d,(A2 d),(0:Int),())with|none=>none|some r=>match r with
    |.inl (h,_)=>some (h,0,())
    |.inr _=>none
   |false=>none
  |.inr _=>none
 |false=>none
def L_[Lk]:=lkk XQ
theorem bf v:L_ v=XQ v:=A0 _
abbrev zJ:A1:=[Az,(.tmp 1,.dat (.prod U0 U3))]
def RZ[Lk]:(Ud×Ub×Unit)->Option (U4):=fun(b,a,_)=>
 match bh ((b.1,(b.2.1,())),())with|none=>none|some (c,d,_)=>match(!d)with
 |true=>some (0,1,())
 |false=>match Qy (c,(a.1,(a.2.1,(a.2.2.1,()))),())with|none=>none|some (e,f,_)=>some (e,f,())
def Pg[Lk]:=lkk RZ
theorem XU v:Pg v=RZ v:=A0 _
def Py[Lk]:Uf->Option (Uf⊕U9⊕Unit):=fun(a,c,b,_)=>
 match(ilt b (A2 a))with
 |true=>match idx a b with|none=>none|some d=>some (.inl (a,(imax c d),(w64 (b+1)),()))
 |false=>some (.inr (.inl (c,())))
def sc[Lk]:Ue->Option (U9):=fun(a,_)=>
 match(ilt (A2 a) 1)with
 |true=>none
 |false=>match idx a 0 with|none=>none|some b=>match A6 Py many (a,b,1,())with|none=>none|some r=>match r with
 |.inl (c,_)=>some (c,())
 |.inr _=>none
def ALz[Lk]:=lkk sc
theorem wh v:ALz v=sc v:=A0 _
def Wq[Lk]:(Uk×Unit)->Option (U9):=fun(a,_)=>
 match JC ((a.1,(a.2.1,(a.2.2.1,()))),())with|none=>none|some (b,_)=>match(!b)with
 |true=>some ((-1:Int),())
 |false=>match ALz (a.2.1,())with|none=>none|some (c,_)=>match MU (a.2.1,c,())with|none=>none|some (d,_)=>some (d,())
def df[Lk]:=lkk Wq
theorem aw v:df v=Wq v:=A0 _
abbrev OF:A1:=[AVz,AVx]
abbrev ji:A1:=[AVx,AUp,AVi,AWc,AWd,AUN,(.tmp 10,.dat U8),Ab,AP]
abbrev jh:BB:=[(.ret,[(.tmp 4,.nil U0)]),(.exit 0,[AVx,AUp,AVi,AWc,AWd,AUN])]
def Gz[Lk]:(List U6×List Int×List Int×List U6×List Int×List U6×Int×Int×Unit)->Option ((List U6×List Int×List Int×List U6×List Int×List U6×Int×Int×Unit)⊕(Unit)⊕(List U6×List Int×List Int×List U6×List Int×Unit)⊕Unit):=fun(c,d,e,f,a,g,h,b,_)=>
 match(ilt b h)with
 |true=>match idx g b with|none=>none|some i=>match(ieq (A2 i) 0)with
  |true=>some (.inr (.inl ()))
  |false=>match idx i 0 with|none=>none|some j=>match(fits ((A2 a)+(A2 ([j]:List (Int)))))with
  |true=>some (.inl (c,d,e,f,(Bk a ([j]:List (Int))),g,h,(w64 (b+1)),()))
  |false=>none
 |false=>some (.inr (.inr (.inl (c,d,e,f,a,()))))
def OG[Lk]:(Uk×List U6×Unit)->Option (Ue):=fun(a,b,_)=>
 match A6 Gz many (b,a.1,a.2.1,a.2.2.1,([]:List (Int)),b,(A2 b),0,())with|none=>none|some r=>match r with
 |.inl _=>some (([]:List (Int)),())
 |.inr r=>match r with
 |.inl (d,e,f,g,c,_)=>match L_ ((e,(f,(g,()))),c,())with|none=>none|some (h,i,_)=>match(!(ieq i 0))with
  |true=>some (([]:List (Int)),())
  |false=>match Qi (h,d,())with|none=>none|some (j,_)=>match(!j)with
  |true=>some (([]:List (Int)),())
  |false=>some (c,())
 |.inr _=>none
def J9[Lk]:=lkk OG
theorem Sk v:J9 v=OG v:=A0 _
abbrev yg:A1:=[AVx,AUp,AVi,AWc,AWd,AUO,AQ,AR,Ad,At]
abbrev yf:BB:=[(.exit 0,[AR])]
def J_[Lk]:(List U6×List Int×List Int×List U6×Int×Int×Int×Int×Bool×Unit)->Option ((List U6×List Int×List Int×List U6×Int×Int×Int×Int×Bool×Unit)⊕U9⊕Unit):=fun(c,g,h,d,e,a,f,b,i,_)=>
 match i with
 |true=>match idx c b with|none=>none|some j=>match idx j a with|none=>none|some k=>match idx d b with|none=>none|some l=>match idx l a with|none=>none|some m=>some (.inl (c,g,h,d,e,a,(w64 (f+k)),m,false,()))
 |false=>match(!(ieq b e))with
 |true=>match idx c b with|none=>none|some n=>match idx n a with|none=>none|some o=>match idx d b with|none=>none|some p=>match idx p a with|none=>none|some q=>some (.inl (c,g,h,d,e,a,(w64 (f+o)),q,false,()))
 |false=>some (.inr (.inl (f,())))
def XC[Lk]:(Uk×List U6×Unit)->Option (U4):=fun(a,c,_)=>
 match J9 ((a.1,(a.2.1,(a.2.2.1,()))),c,())with|none=>none|some (d,_)=>match(ieq (A2 d) 0)with
 |true=>some (0,1,())
 |false=>match df ((a.1,(a.2.1,(a.2.2.1,()))),())with|none=>none|some (b,_)=>match idx a.2.1 b with|none=>none|some e=>match A6 J_ many (c,a.1,a.2.1,a.2.2.1,b,(w64 (e-1)),0,b,true,())with|none=>none|some r=>match r with
 |.inl (f,_)=>some (f,0,())
 |.inr _=>none
def OI[Lk]:=lkk XC
theorem bN v:OI v=XC v:=A0 _
abbrev qJ:A1:=[AVz,AVx,AI,AT]
abbrev AWe:Loc×Con:=(.tmp 12,.clo 66 [(1,0)])
abbrev j6:A1:=[AVx,AT,AUo,AVi,AWc,AWd,AR,Ad,(.cap 12 0,.box 1),AL,AWe,AO,AU8]
abbrev j4:BB:=[(.exit 2,[AVx,AT,AUo,AVi,AWc,AWd,AR,Ad,(.cap 12 0,.box 1),AL,AWe,AO,AU8])]
def JI[Lk]:Vc->Option (Vc⊕Vc⊕Unit):=fun(f,c,g,h,d,i,j,a,b,e,_)=>
 match idx d b with|none=>none|some k=>match idx k e with|none=>none|some l=>match rem? (w64 ((w64 ((w64 (l-b))+a))-1)) a with|none=>none|some m=>match rem? (w64 ((w64 ((w64 (c-b))+a))-1)) a with|none=>none|some n=>match(ilt (w64 (n+1)) (w64 (m+1)))with
 |true=>some (.inl (f,c,g,h,d,i,j,a,b,(w64 (e-1)),()))
 |false=>some (.inr (.inl (f,c,g,h,d,i,j,a,b,e,())))
abbrev j7:A1:=[AVx,AT,AUo,AVi,AWc,AWd,AR,Ad,(.cap 12 0,.box 1),AL,AWe,AO]
abbrev j5:BB:=[(.exit 0,[AR,Ad])]
def JJ[Lk]:(List U6×Int×List Int×List Int×List U6×Int×Int×Int×Int×Unit)->Option ((List U6×Int×List Int×List Int×List U6×Int×Int×Int×Int×Unit)⊕U4⊕Unit):=fun(j,b,k,c,l,d,e,m,a,_)=>
 match(!(ieq a b))with
 |true=>match idx c a with|none=>none|some n=>match A6 JI many (j,b,k,c,l,d,e,m,a,(w64 (n-1)),())with|none=>none|some r=>match r with
  |.inl (f,o,p,q,g,s,t,u,h,i,_)=>match idx f h with|none=>none|some v=>match idx v i with|none=>none|some w=>match idx g h with|none=>none|some x=>match idx x i with|none=>none|some y=>some (.inl (f,o,p,q,g,(w64 (s+w)),(w64 (t+1)),u,y,()))
  |.inr _=>none
 |false=>some (.inr (.inl (d,e,())))
def OM[Lk]:(Uk×List U6×Int×Int×Unit)->Option (Ub):=fun(a,d,b,c,_)=>
 match J9 ((a.1,(a.2.1,(a.2.2.1,()))),d,())with|none=>none|some (e,_)=>match(ieq (A2 e) 0)with
 |true=>some (0,0,1,())
 |false=>match(ilt (Cn b c) 0)with
 |true=>some (0,0,6,())
 |false=>match(ile (A2 a.1) (imax b c))with
 |true=>some (0,0,6,())
 |false=>match A6 JJ many (d,c,a.1,a.2.1,a.2.2.1,0,0,(A2 a.1),b,())with|none=>none|some r=>match r with
 |.inl (f,g,_)=>some (f,g,0,())
 |.inr _=>none
def IQ[Lk]:=lkk OM
theorem Sr v:IQ v=OM v:=A0 _
abbrev kY:A1:=[(.tmp 0,.box 6),AVi,AWc,AWd,AUs,AWN,AUu,AH]
abbrev AWf:Loc×Con:=(.obj 0,.box 6)
abbrev AFk:A1:=[AWf,AVi,AWc,AWd,AUs,AWN,AUu,AA,As]
abbrev zp:A1:=[AWf,AVi,AWc,AWd,AUs,AWN,AUu,AU7,AH,AUO,AQ]
abbrev zn:BB:=[(.exit 1,[AWf,AVi,AWc,AWd,AUs,AWN,AUu,AU7,AH,(.tmp 82,.di),(.tmp 83,.di),(.tmp 84,.dat .bool)]),(.exit 2,[AWf,AVi,AWc,AWd,AUs,AWN,AUu,AH])]
def zl[Lk]:(List Int×List Int×List U6×List U6×Int×Int×Int×Int×Int×Unit)->Option ((List Int×List Int×List U6×List U6×Int×Int×Int×Int×Int×Unit)⊕(List Int×List Int×List U6×List U6×Int×Int×Int×Int×Int×Bool×Unit)⊕Ur⊕Unit):=fun(g,h,c,e,a,f,b,i,d,_)=>
 match(ile 0 d)with
 |true=>match idx c a with|none=>none|some l=>match idx l d with|none=>none|some m=>match rem? (w64 ((w64 ((w64 (m-a))+i))-1)) i with|none=>none|some k=>match idx e a with|none=>none|some n=>match idx n d with|none=>none|some j=>match(ile (w64 (k+1)) f)with
  |true=>match(ile j b)with
   |true=>match idx c a with|none=>none|some o=>match idx o d with|none=>none|some p=>some (.inr (.inl (g,h,c,e,p,(w64 (f-(w64 (k+1)))),(w64 (b-j)),j,b,(ile j b),())))
   |false=>some (.inl (g,h,c,e,a,f,b,i,(w64 (d-1)),()))
  |false=>some (.inl (g,h,c,e,a,f,b,i,(w64 (d-1)),()))
 |false=>some (.inr (.inr (.inl (g,h,c,e,a,f,b,()))))
abbrev zq:A1:=[AWf,AVi,AWc,AWd,AUs,AWN,AUu,AU7,AH]
abbrev zo:BB:=[(.ret,[AWf,AVi,AWc,AWd,AUs,AWN,AUu,AS,(.tmp 5,.dat .bool)]),(.exit 0,[AWf,AVi,AWc,AWd,AUs,AWN,AUu,AH])]
def zm[Lk]:Ur->Option (Ur⊕(List Int×List Int×List U6×List U6×Int×Int×Int×Bool×Unit)⊕Ur⊕Unit):=fun(a,b,e,f,c,d,g,_)=>
 match(ilt 0 d)with
 |true=>match idx b c with|none=>none|some h=>match A6 zl many (a,b,e,f,c,d,g,(A2 a),(w64 (h-1)),())with|none=>none|some r=>match r with
  |.inl (i,j,k,l,m,n,o,x,y,z,_)=>some (.inl (i,j,k,l,m,n,o,()))
  |.inr r=>match r with
  |.inl (p,q,s,t,u,v,w,_)=>some (.inr (.inl (p,q,s,t,u,v,w,true,())))
  |.inr _=>none
 |false=>some (.inr (.inr (.inl (a,b,e,f,c,d,g,()))))
def kZ[Lk]:Ur->Option ((List Int×List Int×List U6×List U6×Int×Int×Int×Bool×Unit)):=fun(a,b,c,d,e,f,g,_)=>
 match A6 zm many (a,b,c,d,e,f,g,())with|none=>none|some r=>match r with
 |.inl (h,i,j,k,l,m,n,o,_)=>some (h,i,j,k,l,m,n,o,())
 |.inr r=>match r with
 |.inl (p,q,s,t,u,v,w,_)=>some (p,q,s,t,u,v,w,false,())
 |.inr _=>none
def AFm[Lk]:=lkk kZ
theorem zr v:AFm v=kZ v:=A0 _
abbrev q8:A1:=[(.tmp 5,.dat U5),(.tmp 11,.dat U5),AP,AO]
abbrev q7:BB:=[(.ret,[AG]),(.exit 0,[(.tmp 5,.dat U5)])]
def qz[Lk]:Up->Option (Up⊕Uc⊕Ue⊕Unit):=fun(b,c,d,a,_)=>
 match(ilt a d)with
 |true=>match idx c a with|none=>none|some e=>match shr? .i64 e 1 with|none=>none|some f=>match(!(ieq f 0))with
  |true=>some (.inr (.inl (false,())))
  |false=>some (.inl (b,c,d,(w64 (a+1)),()))
 |false=>some (.inr (.inr (.inl (b,()))))
def b8[Lk]:(Uk×List U6×Unit)->Option (Uc):=fun(a,c,_)=>
 match J9 ((a.1,(a.2.1,(a.2.2.1,()))),c,())with|none=>none|some (b,_)=>match A6 qz many (b,b,(A2 b),0,())with|none=>none|some r=>match r with
 |.inl (d,_)=>some (d,())
 |.inr r=>match r with
 |.inl (e,_)=>some ((ilt 0 (A2 e)),())
 |.inr _=>none
def ew[Lk]:=lkk b8
theorem q9 v:ew v=b8 v:=A0 _
abbrev AAB:A1:=[AVz,AVx,AI]
def b9[Lk]:(Uk×List U6×Int×Unit)->Option (Ur):=fun(a,c,b,_)=>
 match ew ((a.1,(a.2.1,(a.2.2.1,()))),c,())with|none=>none|some (d,_)=>match(!d)with
 |true=>none
 |false=>match(ilt b 0)with
 |true=>none
 |false=>match(ile (A2 a.1) b)with
 |true=>none
 |false=>some (a.1,a.2.1,a.2.2.1,c,b,(A2 a.1),0,())
def vp[Lk]:=lkk b9
theorem rD v:vp v=b9 v:=A0 _
abbrev AWg:Loc×Con:=(.cell 3 0,.clo 258 [(0,0),(1,0),(3,0)])
abbrev W_:A1:=[AA,(.tmp 1,.box 1),AK,Aq,(.cell 1 0,.map U0 U0),An,AWg]
abbrev W9:A1:=[Ae,AK,Ao,(.cell 1 0,.map U0 U0),AUX,(.obj 3,.box 1),AWg,AA]
def AEM[Lk](self:(Int×Int×List Um×Unit)->Option ((Int×List Um×Int×Unit))):(Int×Int×List Um×Unit)->Option ((Int×List Um×Int×Unit)):=fun(a,c,b,_)=>
 match(ile a c)with
 |true=>some (c,b,1,())
 |false=>match(!((A9 b a).isSome))with
 |true=>match quo? .i64 a 2 with|none=>none|some f=>match self (f,c,b,())with|none=>none|some (g,h,d,_)=>match quo? .i64 a 2 with|none=>none|some i=>match self ((w64 (a-i)),g,h,())with|none=>none|some (j,k,e,_)=>some (j,(BI k a (w64 (d+e))),(w64 (d+e)),())
 |false=>some (c,b,((A9 b a).getD 0),())
def OE[Lk]:Nat->(Int×Int×List Um×Unit)->Option ((Int×List Um×Int×Unit))
 |0,_=>none
 |n+1,v=>AEM (OE n) v
def AKM[Lk]:=fun v=>Lk.f (OE 100 v)
theorem AKL v:AKM v=OE 100 v:=A0 _
open Go.RowKit
def Ra:List AV->List AV->Bool
 |[],[]=>true
 |.ptr i o::ps,.ptr j u::qs=>decide (i=j)&&decide (o=u)&&Ra ps qs
 |_,_=>false
def qO:Option Ob->Ob->Bool
 |some (.box [.clo f ps]),.box [.clo g qs]=>decide (f=g)&&Ra ps qs
 |_,_=>false
def L3(ids:List Nat)(H:List Ob)(e:Eff):Eff:=
 match e.heap.isNone&&Er (e.objs.map (·.1))with
 |true=>{ e with objs:=e.objs.filter fun p => !(ids.contains p.1&&qO H[p.1]? p.2) }
 |false=>e
def thin(s:Spec):Spec:=fun R args H fz slot k=>s R args H fz slot fun v e=>k v (L3 (Bt args) H e)
theorem bl:∀ {c d:List AV},Ra c d=true->c=d
 |[],[],_=>rfl
 |[],_::_,h=>by simp[Ra]at h
 |a::c,[],h=>by cases a<;>simp[Ra]at h
 |a::c,b::d,h=>by cases a<;>cases b<;>simp only[Ra,ARl,ARm,AR0]at h;obtain⟨⟨rfl,rfl⟩,h⟩:=h;rw[bl h]
theorem zL{o:Option Ob}{o':Ob}(h:qO o o'=true):o=some o':=by unfold qO at h;split at h;simp only[ARl,ARm]at h;rw[h.1,bl h.2];cases h
theorem l8{i:Nat}{l:List Nat}(h:Er (i::l)=true):i∉l/\Er l=true:=by simpa [Er]using h
theorem XN{q:Nat×Ob->Bool}:∀ (l:List (Nat×Ob)) (H:List Ob),Er (l.map (·.1))=true->(∀ p∈l,q p=false->H[p.1]? = some p.2)->Bi (l.filter q) H=Bi l H:=by
 intro l;induction l with
  |nil=>intros;rfl
  |cons p l d=>
   intro H m h;obtain⟨i,o⟩:=p;obtain⟨n,f⟩:=l8 m;rw[ATN];cases r:q (i,o)with
    |true=>simp only[ASR,Bi];refine d _ f fun p a b => ?_;have c:i≠p.1:=fun e=>n (ASC.2 ⟨p,a,e.symm⟩);rw[ATL c];exact h p (ASh _ a) b
    |false=>
     have g:=h _ (List.mem_cons_self ..) r;simp only[AR0,AR3,Bi];have e:H.set i o=H:=by apply AS5;intro j;by_cases k:i=j;subst k;rw[ATl (BS g)];exact g.symm;rw[ATL k]
     rw[e];exact d _ f fun p a=>h p (ASh _ a)
theorem AKN(ids:List Nat)(H:List Ob)(e:Eff):Cp (L3 ids H e) H=Cp e H:=by unfold L3;split;rename_i h;rw[ARl,Option.isNone_iff_eq_none]at h;have b:∀ l,Cp { heap:=e.heap,objs:=l,frz:=e.frz } H=Bi l H:=fun l=>Cf (e:={ heap:=e.heap,objs:=l,frz:=e.frz }) h.1 H;refine(b _).trans (Eq.trans ?_ (Cf h.1 H).symm);refine XN _ _ h.2 fun p _ a => ?_;simp only[Bool.not_eq_false',ARl]at a;exact zL a.2;rfl
theorem AKO(ids:List Nat)(H:List Ob)(e:Eff)(fz:List Bool):Eo (L3 ids H e) fz=Eo e fz:=by unfold L3;split<;>rfl
theorem vP{P:Program}{g:FuncId}{s:Spec}(h:BQ P g s):BQ P g (thin s):=by intro R args H fz slot k r b;obtain⟨v,e,c,d,f,i⟩:=h R args H fz slot _ r b;refine⟨v,L3 (Bt args) H e,c,fun j n=>d j _,f,fun w F m a hi l => ?_⟩;rw[AKN,AKO];exact i w F m a hi l
theorem je{ids:List Nat}{H H':List Ob}(h:∀ id∈ids,H[id]? = H'[id]?)(e:Eff):L3 ids H e=L3 ids H' e:=by
 unfold L3;split;congr 1;refine AUB fun p _ => ?_;by_cases a:p.1∈ids;rw[h _ a];have:ids.contains p.1=false:=by simpa using a
 rw[this];rfl;rfl
theorem vQ{s:Spec}(h:Fv s):Fv (thin s):=by
 intro R args H H' fz fz' slot k S b d c;unfold thin;rw[h R args H H' fz fz' slot _ S b d c];have:(fun v e=>k v (L3 (Bt args) H e))=fun v e=>k v (L3 (Bt args) H' e):=by funext v e;rw[je (fun id a=>c.heap id (b id a)) e]
 rw[this]
open Go.Proofs
def APa:=Chn.g ⟨oT,oS⟩ ⟨22,0,0,3,0,none,APZ,[(.ret,APY)],D5,[(9,[[18],[],[20],[],[7,22],[1]])],[(0,AMD,AMC)]⟩ AHM Tryz.func22 wu
def AHO:=Chn.g APa ⟨18,0,0,1,0,none,AHN,[(.ret,bY)],BL,[],[(0,ABg,ABf)]⟩ YE Tryz.func18 ABh
def ABc:=Chn.g AHO ⟨10,0,0,2,0,none,ABb,[(.ret,ABa)],BL,[],[(0,su,ss)]⟩ LD Tryz.func10 YC
def yG:=Chn.g ABc ⟨56,0,0,1,0,none,au,[(.ret,BH)],A4,[],[]⟩ JC Tryz.func56 Wo
def AE4:=Chn.g yG ⟨11,0,0,2,2,none,AE3,[(.ret,AE2)],BL,[(17,[[],[],[0],[0],[],[],[0],[0]])],[(0,zG,zD),(1,zF,zC),(2,zE,zB)]⟩ L_ Tryz.func11 bf
theorem AKh:Tryz.f205.body.isSome=true:=by kernel_rfl
theorem AKg : (Tryz.f205.name == "runtime.NumGoroutine") = false := by kernel_rfl
theorem AKf:loops (Bz Tryz.f205)=0:=by kernel_rfl
def zK:=Chn.g AE4 ⟨13,0,0,2,0,none,zJ,[(.ret,J4)],BL,[],[]⟩ Pg Tryz.func13 XU
def APV:=Chn.g zK ⟨138,0,0,1,0,none,Oc,[(.ret,BM)],A4,[],[(0,wT,fP)]⟩ ALz Tryz.func138 wh
def AD0:=Chn.g APV ⟨63,0,0,1,0,none,au,[(.ret,BM)],A4,[(3,[[0],[0],[0],[0]])],[]⟩ df Tryz.func63 aw
def pd:=Chn.g AD0 ⟨62,0,0,2,0,none,OF,[(.ret,Oc)],A4,[],[(0,ji,jh)]⟩ J9 Tryz.func62 Sk
def Pa:=Chn.g pd ⟨12,0,0,2,0,none,OF,[(.ret,J4)],BL,[],[(0,yg,yf)]⟩ OI Tryz.func12 bN
theorem AKu:Tryz.f66.body.isSome=true:=by kernel_rfl
theorem AKt : (Tryz.f66.name == "runtime.NumGoroutine") = false := by kernel_rfl
theorem AKs:loops (Bz Tryz.f66)=0:=by kernel_rfl
def ZP[Lk]:Env:=Pa.e.ext 66 false false (CE Tryz.prog Pa.e {} Tryz.f66)
theorem aZ:BE Tryz.prog ZP:=Env.CA Pa.h (Bn Pa.h Tryz.func66 AKu AKt AKs) (by simp) (by simp)
def qK:=Chn.g ⟨ZP,aZ⟩ ⟨14,0,0,4,0,none,qJ,[(.ret,pZ)],D5,[],[(0,j7,j5),(1,j6,j4)]⟩ IQ Tryz.func14 Sr
def AFl:=Chn.g qK ⟨85,0,1,2,0,none,kY,[(.ret,AFk)],BL,[(3,[[],[0],[0],[0],[0],[],[0],[0],[0]]),(11,[[],[],[0],[0],[0],[0],[],[0],[0],[0],[],[],[],[],[],[0],[0],[1]]),(7,[[],[0],[0],[0],[],[0],[0],[0]]),(6,[[],[0],[0],[0],[0],[],[0],[0],[0],[],[],[],[],[],[],[0],[0],[0]])],[(0,zq,zo),(1,zp,zn)]⟩ AFm Tryz.func85 zr
def z9:=Chn.g AFl ⟨166,0,0,2,0,none,OF,[(.ret,BH)],A4,[],[(0,q8,q7)]⟩ ew Tryz.func166 q9
def NN:=Chn.g z9 ⟨84,0,0,3,0,none,AAB,[(.ret,kY)],BL,[],[]⟩ vp Tryz.func84 rD
abbrev AOU(self:(Int×Int×List (Int×Int)×Unit)->Option ((Int×List (Int×Int)×Int×Unit))):Hints:={ fp:=fun n=>match n with|5=>[[6,1000008],[],[],[1000005,1,3,6,5],[6,1000008],[],[],[],[],[1000005,1,3,6,5],[],[]]|_=>[] }
abbrev AEN(self:(Int×Int×List (Int×Int)×Unit)->Option ((Int×List (Int×Int)×Int×Unit))):Env:=NN.e.ext 258 false true (thin (BU 4 4 W_ W9 A4 self))
theorem AEL(self:(Int×Int×List (Int×Int)×Unit)->Option ((Int×List (Int×Int)×Int×Unit))):∀ v,AEM self v=Da 4 Tryz.prog (AEN self) (AOU self) Tryz.f258 W_ W9 A4 v:=by rintro⟨a,b,c,⟨⟩⟩;kernel_rfl
theorem AOT:CZ (Bz Tryz.f258) 0=[]:=by kernel_rfl
theorem pX:∀ n,BQ Tryz.prog 258 (thin (BU 4 4 W_ W9 A4 (OE n))):=by
 intro n;induction n with
  |zero=>exact(vP (FK fun _=>rfl))
  |succ n a=>have b:BE Tryz.prog (AEN (OE n)):=Env.CA NN.h a ((by simp)) (fun _=>vQ (CM rfl rfl));let self:=OE n;exact(vP (Gc b Tryz.func258 (by kernel_rfl) (by kernel_rfl) rfl (AEL self) (Dz AOT trivial)))
theorem yd:BQ Tryz.prog 258 (thin (BU 4 4 W_ W9 A4 AKM)):=by have e:AKM=OE 100:=funext AKL;rw[e];exact pX _
def AJt[Lk]:Env:=NN.e.ext 258 false true (thin (BU 4 4 W_ W9 A4 AKM))
theorem ADe:BE Tryz.prog AJt:=Env.CA NN.h yd ((by simp)) (fun _=>vQ (CM rfl rfl))
theorem AI2 : (Tryz.f178.name == "runtime.NumGoroutine") = false := by kernel_rfl
theorem gn:FA Tryz.prog Tryz.f178 27 96 (.int .u32) where
 body:=by kernel_rfl
 nt:=by kernel_rfl
 res:=by kernel_rfl
 d:=⟨by kernel_rfl,by kernel_rfl,by kernel_rfl,by kernel_rfl,by kernel_rfl,by kernel_rfl,by kernel_rfl,by kernel_rfl⟩
 g:=⟨by kernel_rfl,by kernel_rfl,by kernel_rfl,by kernel_rfl,by kernel_rfl,by kernel_rfl,by kernel_rfl,by kernel_rfl⟩
 o00:=by kernel_rfl
 o10:=by kernel_rfl
 o11:=by kernel_rfl
 o20:=by kernel_rfl
 o30:=by kernel_rfl
 o31:=by kernel_rfl
 o32:=by kernel_rfl
 o33:=by kernel_rfl
 sl:=by kernel_rfl
 z:=by kernel_rfl
 by1:=by kernel_rfl
def RD[Lk]:Env:=AJt.ext 178 true true (Dj 96 (.int .u32))
theorem oV:BE Tryz.prog RD:=Env.CA ADe (Ka gn Tryz.func178 AI2) (fun _=>B4 _ _) (fun _=>(B4 _ _).pL)
set_option maxHeartbeats 8000000
attribute [local irreducible] A2 A5 Bk C1 HP C5 A3 DX Cn imax idx D0 ilt ile ieq seq? quo? rem? shl? shr? fits CC IntKind.wrap A9 BI Xj sM Ba SH A6 many Mt
abbrev KB:Row:=⟨202,0,0,2,0,none,[AA,(.tmp 1,.dat (.slice (.prod (.int .i64) (.prod (.int .i64) .unit))))],[(.ret,[AA,AH])],[.one,.one],[],[(0,[AQ,AR,(.tmp 17,.own 3 (.int .i64)),AV1,AVQ],[(.exit 0,[AQ,AR])])]⟩
def AOd[Lk]:=fun v=>Lk.f (Bx _ _ v (KB.self Tryz.prog (KB.ev RD) Tryz.f202))
def Q8[Lk]:Env:=KB.DH RD AOd
theorem oO:BE Tryz.prog Q8:=Row.Bg KB oV Tryz.func202 (d:=KB.self Tryz.prog (KB.ev RD) Tryz.f202) (fun _=>(A0 _).trans (BN ..)) (by kernel_rfl) fun _=>rfl
abbrev AWh:Loc×Con:=(.tmp 0,.dat (.prod (.int .i64) (.prod (.slice (.slice (.int .i64))) .unit)))
abbrev NU:Row:=⟨206,0,0,3,0,none,[AWh,AH,AI],[(.ret,[AE,AH])],[.one,.one],[(4,[[0],[],[],[0]])],[]⟩
def ARF[Lk]:=fun v=>Lk.f (Bx _ _ v (NU.self Tryz.prog (NU.ev Q8) Tryz.f206))
def VQ[Lk]:Env:=NU.DH Q8 ARF
theorem vB:BE Tryz.prog VQ:=Row.Bg NU oO Tryz.func206 (d:=NU.self Tryz.prog (NU.ev Q8) Tryz.f206) (fun _=>(A0 _).trans (BN ..)) (by kernel_rfl) fun _=>rfl
abbrev NT:Row:=⟨40,0,0,2,0,none,[AWh,AH],[(.ret,[AA,AH])],[.one,.one],[(4,[[0],[0],[0]])],[]⟩
def xA[Lk]:=fun v=>Lk.f (Bx _ _ v (NT.self Tryz.prog (NT.ev VQ) Tryz.f40))
def VP[Lk]:Env:=NT.DH VQ xA
theorem vA:BE Tryz.prog VP:=Row.Bg NT vB Tryz.func40 (d:=NT.self Tryz.prog (NT.ev VQ) Tryz.f40) (fun _=>(A0 _).trans (BN ..)) (by kernel_rfl) fun _=>rfl
abbrev AWi:Loc×Con:=(.tmp 0,.dat (.prod (.int .i64) (.prod (.slice (.prod (.int .i64) (.prod (.int .i64) (.prod (.int .i64) (.prod .bool .unit))))) .unit)))
abbrev AWj:Loc×Con:=(.tmp 3,.own 102 (.prod (.int .i64) (.prod (.slice (.slice (.int .i64))) .unit)))
abbrev FE:Row:=⟨203,0,0,1,0,none,[AWi],[(.ret,[(.tmp 0,.own 102 (.prod (.int .i64) (.prod (.slice (.slice (.int .i64))) .unit)))])],[.one],[],[(0,[AUR,AK,AWW,AWj,AS],[(.ret,[(.tmp 2,.nil (.prod (.int .i64) (.prod (.slice (.slice (.int .i64))) .unit)))]),(.exit 0,[AWj])])]⟩
def yn[Lk]:=fun v=>Lk.f (Bx _ _ v (FE.self Tryz.prog (FE.ev VP) Tryz.f203))
def M7[Lk]:Env:=FE.DH VP yn
theorem M6:BE Tryz.prog M7:=Row.Bg FE vA Tryz.func203 (d:=FE.self Tryz.prog (FE.ev VP) Tryz.f203) (fun _=>(A0 _).trans (BN ..)) (by kernel_rfl) fun _=>rfl
def Lb[Lk]:Env:=M7.ext 205 false false (CE Tryz.prog M7 { fp:=fun n=>match n with|1=>[[0],[10],[10],[],[],[10],[10],[10],[10],[],[],[],[],[],[]]|_=>[] } Tryz.f205)
theorem aY:BE Tryz.prog Lb:=Env.CA M6 (Bn M6 Tryz.func205 AKh AKg AKf) (by simp) (by simp)
abbrev AWk:Loc×Con:=(.tmp 0,.dat (.slice (.prod (.int .i64) (.prod (.int .i64) (.prod (.int .i64) (.prod .bool .unit))))))
abbrev AWl:Loc×Con:=(.cell 0 0,.dat (.slice (.prod (.int .i64) (.prod (.slice (.slice (.int .i64))) .unit))))
abbrev AWm:Loc×Con:=(.tmp 1,.clo 205 [(0,0)])
abbrev D9:Row:=⟨259,0,1,2,0,some (1,205),[AWk,(.cap 1 0,.box 1),AWl,AWm],[(.ret,[Ae,AWl,AA])],[.one],[],[(0,[Ae,AWl,AWk,AWm,AQ,AR],[(.ret,[Ae,AWl,AS]),(.exit 0,[Ae,AWl])])]⟩
def mb[Lk]:=fun v=>Lk.f (Bx _ _ v (D9.self Tryz.prog (D9.ev Lb) Tryz.f259))
def Gr[Lk]:Env:=D9.DH Lb mb
theorem Sd:BE Tryz.prog Gr:=Row.Bg D9 aY Tryz.func259 (d:=D9.self Tryz.prog (D9.ev Lb) Tryz.f259) (fun _=>(A0 _).trans (BN ..)) (by kernel_rfl) fun _=>rfl
abbrev Di:Row:=⟨204,0,1,2,0,some (1,205),[AWk,(.cap 1 0,.box 1),AWl,AWm],[(.ret,[Ae,AWl,AE])],[.one],[],[]⟩
def gj[Lk]:=fun v=>Lk.f (Bx _ _ v (Di.self Tryz.prog (Di.ev Gr) Tryz.f204))
def Fw[Lk]:Env:=Di.DH Gr gj
theorem RC:BE Tryz.prog Fw:=Row.Bg Di Sd Tryz.func204 (d:=Di.self Tryz.prog (Di.ev Gr) Tryz.f204) (fun _=>(A0 _).trans (BN ..)) (by kernel_rfl) fun _=>rfl
abbrev KA:Row:=⟨119,0,0,1,0,none,[AWi],[(.ret,[AE])],[.one],[(4,[[0],[0],[0],[],[12]])],[]⟩
def AOc[Lk]:=fun v=>Lk.f (Bx _ _ v (KA.self Tryz.prog (KA.ev Fw) Tryz.f119))
def Q7[Lk]:Env:=KA.DH Fw AOc
theorem oN:BE Tryz.prog Q7:=Row.Bg KA RC Tryz.func119 (d:=KA.self Tryz.prog (KA.ev Fw) Tryz.f119) (fun _=>(A0 _).trans (BN ..)) (by kernel_rfl) fun _=>rfl
abbrev Hx:Row:=⟨120,0,0,1,0,none,[AWi],[(.ret,[AE])],[.one],[],[]⟩
def AKe[Lk]:=fun v=>Lk.f (Bx _ _ v (Hx.self Tryz.prog (Hx.ev Q7) Tryz.f120))
def Nj[Lk]:Env:=Hx.DH Q7 AKe
theorem iX:BE Tryz.prog Nj:=Row.Bg Hx oN Tryz.func120 (d:=Hx.self Tryz.prog (Hx.ev Q7) Tryz.f120) (fun _=>(A0 _).trans (BN ..)) (by kernel_rfl) fun _=>rfl
abbrev FD:Row:=⟨121,0,0,1,0,none,[AWi],[(.ret,[AE])],[.one],[],[(0,[AUR,AK,AWW,AWj,(.tmp 11,.own' 1),AP,AO],[(.ret,[AJ]),(.exit 0,[AWj])]),(1,[AUR,AK,AWW,AWj,AS,AVv,AVG,(.cell 2 1,.dat (.slice (.slice (.int .i64)))),(.tmp 11,.own' 1),AP,AO,AVQ,(.tmp 20,.di)],[(.ret,[AJ]),(.exit 2,[AUR,AK,AWW,AWj,(.tmp 11,.own' 1),AP,AO])])]⟩
def ym[Lk]:=fun v=>Lk.f (Bx _ _ v (FD.self Tryz.prog (FD.ev Nj) Tryz.f121))
def Jh[Lk]:Env:=FD.DH Nj ym
theorem ZO:BE Tryz.prog Jh:=Row.Bg FD iX Tryz.func121 (d:=FD.self Tryz.prog (FD.ev Nj) Tryz.f121) (fun _=>(A0 _).trans (BN ..)) (by kernel_rfl) fun _=>rfl
abbrev Hw:Row:=⟨53,0,0,1,0,none,[AWi],[(.ret,[AE])],[.one],[],[]⟩
def UH[Lk]:=fun v=>Lk.f (Bx _ _ v (Hw.self Tryz.prog (Hw.ev Jh) Tryz.f53))
def Ni[Lk]:Env:=Hw.DH Jh UH
theorem iW:BE Tryz.prog Ni:=Row.Bg Hw ZO Tryz.func53 (d:=Hw.self Tryz.prog (Hw.ev Jh) Tryz.f53) (fun _=>(A0 _).trans (BN ..)) (by kernel_rfl) fun _=>rfl
abbrev AWn:Loc×Con:=(.tmp 0,.dat (.prod (.slice (.int .i64)) (.prod (.slice (.int .i64)) (.prod (.slice (.slice (.int .i64))) .unit))))
abbrev AWo:Loc×Con:=(.cell 0 2,.dat (.slice (.slice (.int .i64))))
abbrev AWp:Loc×Con:=(.cell 0 0,.dat (.slice (.int .i64)))
abbrev AWq:Loc×Con:=(.cell 0 1,.dat (.slice (.int .i64)))
abbrev KG:Row:=⟨37,0,0,2,0,none,[AWn,(.tmp 1,.dat (.slice .bool))],[(.ret,[(.tmp 0,.dat (.slice (.slice (.int .i64)))),AH])],[.one,.one],[],[(0,[AUp,AWp,AWq,AWo,(.tmp 6,.own 3 (.int .i64)),(.tmp 12,.dat (.slice .bool)),AO,AU8],[(.exit 0,[AUp,AWp,AWq,AWo,(.tmp 6,.own 3 (.int .i64))])])]⟩
def fA[Lk]:=fun v=>Lk.f (Bx _ _ v (KG.self Tryz.prog (KG.ev Ni) Tryz.f37))
def Q'[Lk]:Env:=KG.DH Ni fA
theorem oR:BE Tryz.prog Q':=Row.Bg KG iW Tryz.func37 (d:=KG.self Tryz.prog (KG.ev Ni) Tryz.f37) (fun _=>(A0 _).trans (BN ..)) (by kernel_rfl) fun _=>rfl
abbrev Hy:Row:=⟨36,0,0,1,0,none,[AVk],[(.ret,[AA,AH,(.tmp 2,.own 3 (.int .i64)),AT,AS])],[.agg 3,.one,.one],[],[(0,[AVk,AUp,AK,AUk,(.cell 0 2,.nil (.int .i64)),AF,(.tmp 7,.box 3),AL,AVA,(.cell 1 2,.own 3 (.int .i64)),AUy,(.tmp 41,.di)],[(.exit 0,[AUp,AK,AUk,(.cell 0 2,.nil (.int .i64)),AF,(.tmp 7,.box 3),AL,AVA,(.cell 1 2,.own 3 (.int .i64))])])]⟩
def UJ[Lk]:=fun v=>Lk.f (Bx _ _ v (Hy.self Tryz.prog (Hy.ev Q') Tryz.f36))
def Nk[Lk]:Env:=Hy.DH Q' UJ
theorem iY:BE Tryz.prog Nk:=Row.Bg Hy oR Tryz.func36 (d:=Hy.self Tryz.prog (Hy.ev Q') Tryz.f36) (fun _=>(A0 _).trans (BN ..)) (by kernel_rfl) fun _=>rfl
abbrev Hs:Row:=⟨96,0,0,1,0,none,[AA],[(.ret,[AE])],[.one],[],[]⟩
def AKP[Lk]:=fun v=>Lk.f (Bx _ _ v (Hs.self Tryz.prog (Hs.ev Nk) Tryz.f96))
def Ng[Lk]:Env:=Hs.DH Nk AKP
theorem iT:BE Tryz.prog Ng:=Row.Bg Hs iY Tryz.func96 (d:=Hs.self Tryz.prog (Hs.ev Nk) Tryz.f96) (fun _=>(A0 _).trans (BN ..)) (by kernel_rfl) fun _=>rfl
abbrev AWr:Loc×Con:=(.tmp 1,.dat (.int .u32))
abbrev J7:Row:=⟨181,0,0,2,0,none,[AA,AWr],[(.ret,[AA])],[.one],[],[]⟩
def AOV[Lk]:=fun v=>Lk.f (Bx _ _ v (J7.self Tryz.prog (J7.ev Ng) Tryz.f181))
def Q6[Lk]:Env:=J7.DH Ng AOV
theorem oM:BE Tryz.prog Q6:=Row.Bg J7 iT Tryz.func181 (d:=J7.self Tryz.prog (J7.ev Ng) Tryz.f181) (fun _=>(A0 _).trans (BN ..)) (by kernel_rfl) fun _=>rfl
abbrev AWs:Loc×Con:=(.tmp 0,.dat (.prod (.int .i64) (.prod (.slice (.int .u32)) (.prod (.slice .bool) .unit))))
abbrev AWt:Loc×Con:=(.cell 0 1,.dat (.slice (.int .u32)))
abbrev AWu:Loc×Con:=(.cell 0 2,.dat (.slice .bool))
abbrev Ht:Row:=⟨98,0,0,2,0,none,[AWs,AWr],[(.ret,[AA,AH])],[.one,.one],[],[(0,[AWr,AUp,AK,AWt,AWu,AS,AF,AUO],[(.exit 0,[AS,AF])])]⟩
def AKQ[Lk]:=fun v=>Lk.f (Bx _ _ v (Ht.self Tryz.prog (Ht.ev Q6) Tryz.f98))
def Nh[Lk]:Env:=Ht.DH Q6 AKQ
theorem iU:BE Tryz.prog Nh:=Row.Bg Ht oM Tryz.func98 (d:=Ht.self Tryz.prog (Ht.ev Q6) Tryz.f98) (fun _=>(A0 _).trans (BN ..)) (by kernel_rfl) fun _=>rfl
abbrev AWv:Loc×Con:=(.tmp 0,.own 96 (.int .u32))
abbrev AWw:Loc×Con:=(.obj 0,.own 96 (.int .u32))
abbrev GZ:Row:=⟨180,0,1,1,8,none,[AWv],[(.ret,[AWw,(.tmp 0,.win' 0)])],[.one],[(6,[[],[],[0],[0],[],[],[],[0],[0]]),(11,[[],[],[0],[0],[],[],[],[0],[0]])],[(0,[AWw,Aj,AT],[(.ret,[AWw,(.tmp 2,.win' 0)]),(.exit 0,[AWw,Aj])]),(1,[AWw,Aj,AT,(.tmp 4,.sub' 0),AF],[(.exit 2,[AWw,Aj,AT])])]⟩
def AIx[Lk]:=fun v=>Lk.f (Bx _ _ v (GZ.self Tryz.prog (GZ.ev Nh) Tryz.f180))
def Le[Lk]:Env:=GZ.DH Nh AIx
theorem ab:BE Tryz.prog Le:=Row.Bg GZ iU Tryz.func180 (d:=GZ.self Tryz.prog (GZ.ev Nh) Tryz.f180) (fun _=>(A0 _).trans (BN ..)) (by kernel_rfl) fun _=>rfl
abbrev Rk:Row:=⟨325,0,0,1,0,none,[(.tmp 0,.dat (.int .u32))],[(.ret,[AE])],[.one],[],[]⟩
def ARb[Lk]:=fun v=>Lk.f (Bx _ _ v (Rk.self Tryz.prog (Rk.ev Le) Tryz.f325))
def iq[Lk]:Env:=Rk.DH Le ARb
theorem ADl:BE Tryz.prog iq:=Row.Bg Rk ab Tryz.func325 (d:=Rk.self Tryz.prog (Rk.ev Le) Tryz.f325) (fun _=>(A0 _).trans (BN ..)) (by kernel_rfl) fun _=>rfl
abbrev NQ:Row:=⟨276,0,0,2,0,none,[(.tmp 0,.dat (.int .u32)),AWr],[(.ret,[AE])],[.one],[],[]⟩
def AQ6[Lk]:=fun v=>Lk.f (Bx _ _ v (NQ.self Tryz.prog (NQ.ev iq) Tryz.f276))
def VL[Lk]:Env:=NQ.DH iq AQ6
theorem u6:BE Tryz.prog VL:=Row.Bg NQ ADl Tryz.func276 (d:=NQ.self Tryz.prog (NQ.ev iq) Tryz.f276) (fun _=>(A0 _).trans (BN ..)) (by kernel_rfl) fun _=>rfl
abbrev Rw:Row:=⟨270,0,1,3,0,none,[AWv,AH,AI],[(.ret,[AWw])],[],[(4,[[],[],[],[],[],[],[0],[0],[],[],[],[0],[0]]),(6,[[],[],[],[],[],[],[],[],[0],[0],[],[],[0],[0],[0],[1],[0],[1]])],[(0,[AWw,Aj,AH,AI,AUO],[(.exit 0,[AWw])]),(1,[AWw,Aj,AH,AI,AUO,AQ],[(.exit 2,[AWw,Aj,AH,AI,AUO])])]⟩
def ARc[Lk]:=fun v=>Lk.f (Bx _ _ v (Rw.self Tryz.prog (Rw.ev VL) Tryz.f270))
def iz[Lk]:Env:=Rw.DH VL ARc
theorem ADm:BE Tryz.prog iz:=Row.Bg Rw u6 Tryz.func270 (d:=Rw.self Tryz.prog (Rw.ev VL) Tryz.f270) (fun _=>(A0 _).trans (BN ..)) (by kernel_rfl) fun _=>rfl
abbrev NK:Row:=⟨322,0,1,4,0,none,[AWv,AH,AI,AT],[(.ret,[AWw])],[],[(6,[[],[],[],[],[],[],[],[],[],[],[],[],[0],[0],[],[],[],[],[0],[0],[0],[1],[0],[1]]),(5,[[],[],[],[],[0],[0],[],[],[],[],[0],[0]]),(3,[[],[],[],[],[],[],[],[],[],[0],[0],[],[],[],[],[],[0],[0]])],[(0,[AWw,Aj,AI,AT,AR],[(.exit 0,[AWw]),(.ret,[AWw])])]⟩
def AQk[Lk]:=fun v=>Lk.f (Bx _ _ v (NK.self Tryz.prog (NK.ev iz) Tryz.f322))
def VJ[Lk]:Env:=NK.DH iz AQk
theorem u0:BE Tryz.prog VJ:=Row.Bg NK ADm Tryz.func322 (d:=NK.self Tryz.prog (NK.ev iz) Tryz.f322) (fun _=>(A0 _).trans (BN ..)) (by kernel_rfl) fun _=>rfl
abbrev NR:Row:=⟨271,0,1,3,0,none,[AWv,AH,AI],[(.ret,[AWw])],[],[(10,[[],[],[],[],[],[],[],[],[],[],[0],[0],[],[],[0],[0],[0],[1],[0],[1]])],[(0,[AWw,Aj,AUO,AQ,AR,Ad],[(.exit 0,[AWw,Aj,AUO,AQ,AR])]),(1,[AWw,Aj,AUO,AQ,Aa],[(.exit 2,[AWw])])]⟩
def ARC[Lk]:=fun v=>Lk.f (Bx _ _ v (NR.self Tryz.prog (NR.ev VJ) Tryz.f271))
def VO[Lk]:Env:=NR.DH VJ ARC
theorem u9:BE Tryz.prog VO:=Row.Bg NR u0 Tryz.func271 (d:=NR.self Tryz.prog (NR.ev VJ) Tryz.f271) (fun _=>(A0 _).trans (BN ..)) (by kernel_rfl) fun _=>rfl
abbrev Kb:Row:=⟨272,0,1,3,0,none,[AWv,AH,AI],[(.ret,[AWw])],[],[(10,[[],[],[],[],[],[],[],[],[],[],[0],[0],[],[],[0],[0],[0],[1],[0],[1]])],[(0,[AWw,Aj,AH,AUO,(.tmp 7,.box 1),Al,(.tmp 8,.dat (.int .u64)),Ad],[(.exit 0,[AWw])])]⟩
def AP5[Lk]:=fun v=>Lk.f (Bx _ _ v (Kb.self Tryz.prog (Kb.ev VO) Tryz.f272))
def RE[Lk]:Env:=Kb.DH VO AP5
theorem og:BE Tryz.prog RE:=Row.Bg Kb u9 Tryz.func272 (d:=Kb.self Tryz.prog (Kb.ev VO) Tryz.f272) (fun _=>(A0 _).trans (BN ..)) (by kernel_rfl) fun _=>rfl
abbrev H9:Row:=⟨347,0,2,4,0,none,[AWv,AH,AI,An,AL],[(.ret,[AWw,Ao,AL,AA,AH])],[.one,.one],[(1,[[],[],[0],[0],[],[],[0],[0]])],[]⟩
def ALl[Lk]:=fun v=>Lk.f (Bx _ _ v (H9.self Tryz.prog (H9.ev RE) Tryz.f347))
def Nm[Lk]:Env:=H9.DH RE ALl
theorem im:BE Tryz.prog Nm:=Row.Bg H9 og Tryz.func347 (d:=H9.self Tryz.prog (H9.ev RE) Tryz.f347) (fun _=>(A0 _).trans (BN ..)) (by kernel_rfl) fun _=>rfl
abbrev H_:Row:=⟨324,0,2,5,0,none,[AWv,AH,AI,AT,Ap,AL],[(.ret,[AWw,Ao,AL,AA])],[.one],[],[]⟩
def ALw[Lk]:=fun v=>Lk.f (Bx _ _ v (H_.self Tryz.prog (H_.ev Nm) Tryz.f324))
def Nn[Lk]:Env:=H_.DH Nm ALw
theorem ir:BE Tryz.prog Nn:=Row.Bg H_ im Tryz.func324 (d:=H_.self Tryz.prog (H_.ev Nm) Tryz.f324) (fun _=>(A0 _).trans (BN ..)) (by kernel_rfl) fun _=>rfl
abbrev IA:Row:=⟨323,0,2,3,0,none,[AWv,AH,Aq,AL],[(.ret,[AWw,Ao,AL,AA])],[.one],[],[]⟩
def ALx[Lk]:=fun v=>Lk.f (Bx _ _ v (IA.self Tryz.prog (IA.ev Nn) Tryz.f323))
def No[Lk]:Env:=IA.DH Nn ALx
theorem iy:BE Tryz.prog No:=Row.Bg IA ir Tryz.func323 (d:=IA.self Tryz.prog (IA.ev Nn) Tryz.f323) (fun _=>(A0 _).trans (BN ..)) (by kernel_rfl) fun _=>rfl
abbrev KF:Row:=⟨273,0,1,3,0,none,[AWv,AH,AI],[(.ret,[AWw,AA,AH])],[.one,.one],[],[]⟩
def AO2[Lk]:=fun v=>Lk.f (Bx _ _ v (KF.self Tryz.prog (KF.ev No) Tryz.f273))
def Q_[Lk]:Env:=KF.DH No AO2
theorem oQ:BE Tryz.prog Q_:=Row.Bg KF iy Tryz.func273 (d:=KF.self Tryz.prog (KF.ev No) Tryz.f273) (fun _=>(A0 _).trans (BN ..)) (by kernel_rfl) fun _=>rfl
abbrev Rd:Row:=⟨274,0,1,3,0,none,[AWv,AH,AI],[(.ret,[AWw])],[],[(3,[[],[],[],[],[],[],[0],[0],[],[],[0],[0],[0],[1],[0],[1]])],[(0,[AWw,Aj,AUO,AQ],[(.exit 0,[AWw])])]⟩
def ARX[Lk]:=fun v=>Lk.f (Bx _ _ v (Rd.self Tryz.prog (Rd.ev Q_) Tryz.f274))
def iZ[Lk]:Env:=Rd.DH Q_ ARX
theorem ADf:BE Tryz.prog iZ:=Row.Bg Rd oQ Tryz.func274 (d:=Rd.self Tryz.prog (Rd.ev Q_) Tryz.f274) (fun _=>(A0 _).trans (BN ..)) (by kernel_rfl) fun _=>rfl
abbrev GG:Row:=⟨275,0,1,3,0,none,[AWv,AH,AI],[(.ret,[AWw,AE])],[.one],[(11,[[],[],[],[],[],[],[],[],[0],[0],[],[],[0],[0],[0],[1],[0],[1]]),(5,[[],[],[],[],[],[],[0],[0],[],[],[],[0],[0]]),(17,[[],[],[],[],[],[],[],[],[0],[0],[],[],[0],[0],[0],[1],[0],[1]]),(16,[[],[],[0],[0],[],[],[],[0],[0]]),(23,[[],[],[],[],[],[],[],[],[0],[0],[],[],[0],[0],[0],[1],[0],[1]]),(22,[[],[],[0],[0],[],[],[],[0],[0]])],[(0,[AWw,Aj,AH,AI,AQ,AR],[(.ret,[AWw,AVZ]),(.exit 0,[AWw])]),(1,[AWw,Aj,AH,AI,AQ,AR],[(.exit 2,[AWw,Aj,AH,AI,AQ,AR])]),(2,[AWw,Aj,AH,AI,AQ,AR,Ad],[(.exit 4,[AWw,Aj,AH,AI,AQ,AR])]),(3,[AWw,Aj,AH,AI,AQ,AR,Aa],[(.exit 6,[AWw,Aj,AH,AI,AQ,AR])])]⟩
def AGi[Lk]:=fun v=>Lk.f (Bx _ _ v (GG.self Tryz.prog (GG.ev iZ) Tryz.f275))
def Lc[Lk]:Env:=GG.DH iZ AGi
theorem aa:BE Tryz.prog Lc:=Row.Bg GG ADf Tryz.func275 (d:=GG.self Tryz.prog (GG.ev iZ) Tryz.f275) (fun _=>(A0 _).trans (BN ..)) (by kernel_rfl) fun _=>rfl
abbrev H8:Row:=⟨277,0,1,4,0,none,[AWv,AH,AI,AT],[(.ret,[AWw,AA])],[.one],[(8,[[],[],[],[],[],[],[0],[0],[],[],[0],[0],[0],[1],[0],[1]]),(3,[[],[],[],[],[],[],[0],[0],[],[],[0],[0]]),(5,[[],[],[],[],[],[],[0],[0],[],[],[0],[0]]),(1,[[],[],[],[],[],[],[0],[0],[],[],[0],[0],[0],[1],[0],[1]])],[(0,[AWw,Aj,AH,Ad,Aa],[(.exit 0,[AWw,Ad])]),(1,[AWw,Aj,AH,Ad,Aa],[(.exit 2,[AWw,Aj,AH,Ad,Aa])]),(2,[AWw,Aj,AH,Ad,Aa],[(.exit 4,[AWw,Aj,AH,Ad,Aa])])]⟩
def ALh[Lk]:=fun v=>Lk.f (Bx _ _ v (H8.self Tryz.prog (H8.ev Lc) Tryz.f277))
def Nl[Lk]:Env:=H8.DH Lc ALh
theorem il:BE Tryz.prog Nl:=Row.Bg H8 aa Tryz.func277 (d:=H8.self Tryz.prog (H8.ev Lc) Tryz.f277) (fun _=>(A0 _).trans (BN ..)) (by kernel_rfl) fun _=>rfl
abbrev NO:Row:=⟨278,0,1,4,0,none,[AWv,AH,AI,AT],[(.ret,[AWw,AA,As])],[.one,.one],[(3,[[],[],[],[],[],[],[0],[0],[],[],[0],[0]]),(5,[[],[],[],[],[],[],[0],[0],[],[],[0],[0]]),(18,[[],[],[],[],[],[],[0],[0],[],[],[0],[0],[0],[1],[0],[1]]),(13,[[],[],[],[],[],[],[0],[0],[],[],[0],[0]]),(15,[[],[],[],[],[],[],[0],[0],[],[],[0],[0]]),(21,[[],[],[],[],[],[],[0],[0],[],[],[0],[0],[0],[1],[0],[1]]),(10,[[],[],[],[],[],[],[0],[0],[],[],[0],[0],[0],[1],[0],[1]]),(8,[[],[],[],[],[],[],[0],[0],[],[],[0],[0],[0],[1],[0],[1]]),(1,[[],[],[],[],[],[],[0],[0],[],[],[0],[0],[0],[1],[0],[1]])],[(0,[AWw,Aj,AH,Aa,Ab],[(.exit 0,[AWw,Aj,AH,Aa,Ab])]),(1,[AWw,Aj,AH,Aa,Ab],[(.exit 2,[AWw,Aj,AH,Aa,Ab])]),(2,[AWw,Aj,AH,Aa,Ab],[(.exit 4,[AWw,Aj,AH,Ab])]),(3,[AWw,Aj,AH,Aa,Ab],[(.exit 6,[AWw,Aj,AH,Aa,Ab])]),(4,[AWw,Aj,AH,Aa,Ab],[(.exit 8,[AWw,Aj,AH,Aa,Ab])])]⟩
def AQ0[Lk]:=fun v=>Lk.f (Bx _ _ v (NO.self Tryz.prog (NO.ev Nl) Tryz.f278))
def VK[Lk]:Env:=NO.DH Nl AQ0
theorem u5:BE Tryz.prog VK:=Row.Bg NO il Tryz.func278 (d:=NO.self Tryz.prog (NO.ev Nl) Tryz.f278) (fun _=>(A0 _).trans (BN ..)) (by kernel_rfl) fun _=>rfl
abbrev Xp:Row:=⟨232,103,1,4,0,none,[AWv,AH,AI,AT],[(.ret,[AWw])],[],[(17,[[],[],[],[],[],[],[0],[0],[],[],[0],[0]])],[(0,[AWw,Aj,AH,AI,AT,Ar,(.tmp 9,.dat .bool)],[(.ret,[AWw])])]⟩
def AGR[Lk]:Mr Xp Tryz.prog VK Tryz.f232:=⟨fun s v=>Xp.self Tryz.prog (Xp.ARG VK s) Tryz.f232 v,fun _ _=>rfl⟩
def ARa[Lk]:=fun v=>Lk.f (Row.rf AGR.d 100 v)
def ig[Lk]:Env:=Xp.DH VK ARa
theorem ADg:BE Tryz.prog ig:=Row.AM7 Xp u5 AGR Tryz.func232 100 (fun _=>A0 _)
abbrev NJ:Row:=⟨179,0,1,1,0,none,[AWv],[(.ret,[AWw])],[],[],[]⟩
def AQj[Lk]:=fun v=>Lk.f (Bx _ _ v (NJ.self Tryz.prog (NJ.ev ig) Tryz.f179))
def VI[Lk]:Env:=NJ.DH ig AQj
theorem uz:BE Tryz.prog VI:=Row.Bg NJ ADg Tryz.func179 (d:=NJ.self Tryz.prog (NJ.ev ig) Tryz.f179) (fun _=>(A0 _).trans (BN ..)) (by kernel_rfl) fun _=>rfl
abbrev F7:Row:=⟨97,0,0,1,0,none,[(.tmp 0,.dat (.slice (.int .u32)))],[(.ret,[AWv])],[.one],[],[]⟩
def AET[Lk]:=fun v=>Lk.f (Bx _ _ v (F7.self Tryz.prog (F7.ev VI) Tryz.f97))
def La[Lk]:Env:=F7.DH VI AET
theorem aW:BE Tryz.prog La:=Row.Bg F7 uz Tryz.func97 (d:=F7.self Tryz.prog (F7.ev VI) Tryz.f97) (fun _=>(A0 _).trans (BN ..)) (by kernel_rfl) fun _=>rfl
abbrev J5:Row:=⟨45,0,0,2,0,none,[AA,(.tmp 1,.dat (.slice (.int .u32)))],[(.ret,[AA,(.tmp 1,.own 96 (.int .u32)),AUl,AT])],[.agg 3,.one],[(12,[[2],[2],[],[2],[2],[],[],[4],[5],[6],[7]]),(7,[[],[],[],[],[],[],[],[23]])],[(0,[AUo,AK,(.cell 0 1,.nil (.int .u32)),AU9,AWH,AL,(.cell 1 1,.own 96 (.int .u32)),(.cell 1 2,.own 4 .bool),(.tmp 37,.own 96 (.int .u32)),(.tmp 38,.di),AUx],[(.exit 0,[AUo,AK,(.cell 0 1,.nil (.int .u32)),AU9,AWH,AL,(.cell 1 1,.own 96 (.int .u32)),(.cell 1 2,.own 4 .bool)])])]⟩
def dx[Lk]:=fun v=>Lk.f (Bx _ _ v (J5.self Tryz.prog (J5.ev La) Tryz.f45))
def Q4[Lk]:Env:=J5.DH La dx
theorem oK:BE Tryz.prog Q4:=Row.Bg J5 aW Tryz.func45 (d:=J5.self Tryz.prog (J5.ev La) Tryz.f45) (fun _=>(A0 _).trans (BN ..)) (by kernel_rfl) fun _=>rfl
abbrev J6:Row:=⟨52,0,0,1,0,none,[AWs],[(.ret,[AWv])],[.one],[],[(0,[AUb,AK,AWt,AWu,(.tmp 3,.own 96 (.int .u32)),(.tmp 7,.dat (.slice .bool)),AR,Ad],[(.exit 0,[(.tmp 3,.own 96 (.int .u32))])])]⟩
def dy[Lk]:=fun v=>Lk.f (Bx _ _ v (J6.self Tryz.prog (J6.ev Q4) Tryz.f52))
def Q5[Lk]:Env:=J6.DH Q4 dy
theorem oL:BE Tryz.prog Q5:=Row.Bg J6 oK Tryz.func52 (d:=J6.self Tryz.prog (J6.ev Q4) Tryz.f52) (fun _=>(A0 _).trans (BN ..)) (by kernel_rfl) fun _=>rfl
abbrev RL:Row:=⟨82,0,0,2,0,none,[AV0,(.tmp 1,.dat (.slice (.int .i64)))],[(.ret,[AV0])],[.one],[],[(0,[AV0,(.tmp 7,.dat (.slice (.int .i64))),AR,Ad],[(.exit 0,[AV0])])]⟩
def ARP[Lk]:=fun v=>Lk.f (Bx _ _ v (RL.self Tryz.prog (RL.ev Q5) Tryz.f82))
def iP[Lk]:Env:=RL.DH Q5 ARP
theorem ADd:BE Tryz.prog iP:=Row.Bg RL oL Tryz.func82 (d:=RL.self Tryz.prog (RL.ev Q5) Tryz.f82) (fun _=>(A0 _).trans (BN ..)) (by kernel_rfl) fun _=>rfl
abbrev AWx:Loc×Con:=(.cell 0 2,.dat (.slice (.prod (.int .i64) (.prod (.int .i64) (.prod (.int .i64) .unit)))))
abbrev AWy:Loc×Con:=(.cell 0 1,.dat (.slice (.prod (.int .i64) (.prod (.int .i64) .unit))))
abbrev Hn:Row:=⟨34,0,0,1,0,none,[AVs],[(.ret,[AV0,AH])],[.one,.one],[(12,[[],[2],[2],[],[],[1,4],[2],[2],[2],[2],[],[1000005,7,9]])],[(0,[AUb,AK,AWy,AWx,AWa,(.tmp 26,.dat (.slice (.prod (.int .i64) (.prod (.int .i64) .unit)))),AY,AV4],[(.exit 0,[AUb,AK,AWy,AWx,AWa])]),(1,[AWa,(.tmp 41,.dat (.slice (.prod (.int .i64) (.prod (.int .i64) (.prod (.int .i64) .unit))))),AV5,AWI],[(.exit 2,[AWa])])]⟩
def Gg[Lk]:=fun v=>Lk.f (Bx _ _ v (Hn.self Tryz.prog (Hn.ev iP) Tryz.f34))
def Nc[Lk]:Env:=Hn.DH iP Gg
theorem iQ:BE Tryz.prog Nc:=Row.Bg Hn ADd Tryz.func34 (d:=Hn.self Tryz.prog (Hn.ev iP) Tryz.f34) (fun _=>(A0 _).trans (BN ..)) (by kernel_rfl) fun _=>rfl
abbrev KD:Row:=⟨43,0,0,1,0,none,[AA],[(.ret,[(.tmp 0,.own 3 (.int .i64)),(.tmp 1,.own 3 (.int .i64)),AI])],[.agg 2,.one],[],[(0,[AA,AN,(.cell 0 0,.nil (.int .i64)),(.cell 0 1,.nil (.int .i64)),AM,(.cell 1 0,.own 3 (.int .i64)),(.cell 1 1,.own 3 (.int .i64)),(.tmp 16,.di),AVy],[(.exit 0,[AN,(.cell 0 0,.nil (.int .i64)),(.cell 0 1,.nil (.int .i64)),AM,(.cell 1 0,.own 3 (.int .i64)),(.cell 1 1,.own 3 (.int .i64))])])]⟩
def eo[Lk]:=fun v=>Lk.f (Bx _ _ v (KD.self Tryz.prog (KD.ev Nc) Tryz.f43))
def Q9[Lk]:Env:=KD.DH Nc eo
theorem oP:BE Tryz.prog Q9:=Row.Bg KD iQ Tryz.func43 (d:=KD.self Tryz.prog (KD.ev Nc) Tryz.f43) (fun _=>(A0 _).trans (BN ..)) (by kernel_rfl) fun _=>rfl
abbrev Hr:Row:=⟨201,0,0,2,0,none,[AA,AH],[(.ret,[AA,AH])],[.one,.one],[],[]⟩
def AKK[Lk]:=fun v=>Lk.f (Bx _ _ v (Hr.self Tryz.prog (Hr.ev Q9) Tryz.f201))
def Nf[Lk]:Env:=Hr.DH Q9 AKK
theorem iS:BE Tryz.prog Nf:=Row.Bg Hr oP Tryz.func201 (d:=Hr.self Tryz.prog (Hr.ev Q9) Tryz.f201) (fun _=>(A0 _).trans (BN ..)) (by kernel_rfl) fun _=>rfl
abbrev IE:Row:=⟨118,0,0,2,0,none,[(.tmp 0,.dat (.prod (.int .i64) (.prod (.int .i64) (.prod (.int .i64) (.prod (.int .i64) .unit))))),AH],[(.ret,[AA])],[.one],[],[]⟩
def ANB[Lk]:=fun v=>Lk.f (Bx _ _ v (IE.self Tryz.prog (IE.ev Nf) Tryz.f118))
def Np[Lk]:Env:=IE.DH Nf ANB
theorem jC:BE Tryz.prog Np:=Row.Bg IE iS Tryz.func118 (d:=IE.self Tryz.prog (IE.ev Nf) Tryz.f118) (fun _=>(A0 _).trans (BN ..)) (by kernel_rfl) fun _=>rfl
abbrev AWz:Loc×Con:=(.cell 0 0,.dat (.slice (.prod (.int .i64) (.prod (.int .i64) (.prod (.int .i64) (.prod (.int .i64) .unit))))))
abbrev AW0:Loc×Con:=(.cell 0 3,.dat (.slice (.slice (.int .i64))))
abbrev AW1:Loc×Con:=(.tmp 11,.dat (.slice (.slice (.int .i64))))
abbrev KU:Row:=⟨51,0,0,1,0,none,[(.tmp 0,.dat (.prod (.prod (.slice (.prod (.int .i64) (.prod (.int .i64) (.prod (.int .i64) (.prod (.int .i64) .unit))))) (.prod (.int .i64) (.prod (.slice .bool) .unit))) (.prod (.slice (.slice (.int .i64))) (.prod .bool (.prod (.int .i64) (.prod (.int .i64) .unit))))))],[(.ret,[AA])],[.one],[(9,[[],[0],[0],[0],[],[],[],[0],[0],[0]])],[(0,[AUt,AWz,AUk,AWu,AW0,AUr,AUu,AUv,AI,AW1,AP,AO],[(.exit 0,[AI])]),(1,[AUt,AWz,AUk,AWu,AW0,AUr,AUu,AUv,AI,AW1,AP,AO,(.tmp 17,.dat (.slice (.int .i64))),AV1,AVQ],[(.exit 2,[AUt,AWz,AUk,AWu,AW0,AUr,AUu,AUv,AI,AW1,AP,AO])])]⟩
def gX[Lk]:=fun v=>Lk.f (Bx _ _ v (KU.self Tryz.prog (KU.ev Np) Tryz.f51))
def RA[Lk]:Env:=KU.DH Np gX
theorem oU:BE Tryz.prog RA:=Row.Bg KU jC Tryz.func51 (d:=KU.self Tryz.prog (KU.ev Np) Tryz.f51) (fun _=>(A0 _).trans (BN ..)) (by kernel_rfl) fun _=>rfl
abbrev H7:Row:=⟨38,0,0,4,0,none,[AWn,(.tmp 1,.dat (.slice (.slice (.int .i64)))),AI,AT],[(.ret,[(.tmp 0,.own 3 (.int .i64)),AH])],[.one,.one],[(9,[[],[],[0],[0],[0],[0],[],[0],[0],[0],[],[],[],[],[0],[0],[1]])],[(0,[AT,(.tmp 10,.box 6),AWp,AWq,AWo,AW0,AWN,AUu,(.tmp 12,.own 3 (.int .i64))],[(.exit 0,[(.tmp 12,.own 3 (.int .i64))])])]⟩
def UN[Lk]:=fun v=>Lk.f (Bx _ _ v (H7.self Tryz.prog (H7.ev RA) Tryz.f38))
def dH[Lk]:Env:=H7.DH RA UN
theorem ic:BE Tryz.prog dH:=Row.Bg H7 oU Tryz.func38 (d:=H7.self Tryz.prog (H7.ev RA) Tryz.f38) (fun _=>(A0 _).trans (BN ..)) (by kernel_rfl) fun _=>rfl
end
end Go.Pev
end
section
namespace Go.Pev
noncomputable section
abbrev AIU:A1:=[]
abbrev APx:A1:=[AA,AH,AI,AT,(.tmp 4,.own 161 (.arr 2 U0))]
abbrev APw:List RS:=[.agg 5]
def AIV[Lk]:(Unit)->Option ((Int×Int×Int×Int×List U6×Unit)):=fun _=>
 some (8,3,2,3,([([0,1]:List (Int)),([1,0]:List (Int)),([2,0]:List (Int))]:List U6),())
def tR[Lk]:=lkk AIV
theorem xI v:tR v=AIV v:=A0 _
def dV[Lk]:(Unit)->Option (Uc):=fun _=>
 match Gg ((1,(([(0,(1,())),(1,(2,())),(2,(0,())),(3,(2,()))]:List U4),(([]:List Ub),()))),())with|none=>none|some (f,j,_)=>match Gg ((2,(([(1,(0,()))]:List U4),(([]:List Ub),()))),())with|none=>none|some (g,k,_)=>match Gg ((3,(([]:List U4),(([(3,(3,(0,()))),(4,(0,(0,())))]:List Ub),()))),())with|none=>none|some (h,l,_)=>match YO (5,())with|none=>none|some (c,m,_)=>match(fits ((A2 f)+(A2 g)))with
 |true=>match(fits ((A2 (Bk f g))+(A2 h)))with
  |true=>match tR ()with|none=>none|some (n,o,p,q,r,_)=>match AHM (((c.1.1,(c.1.2.1,())),(c.2.1,(c.2.2.1,()))),(Bk (Bk f g) h),(n,(o,((p,(q,(r,()))),()))),())with|none=>none|some (b,d,s,_)=>match YE (d,())with|none=>none|some (t,u,_)=>match UJ (t,())with|none=>none|some (y18,v,y20,y21,w,_)=>match LD (((b.1.1,(b.1.2.1,())),(b.2.1,(b.2.2.1,()))),([1,2,4,8]:List (Int)),())with|none=>none|some (a,x,_)=>match(!(ieq j 0))with
   |true=>some (false,())
   |false=>match(!(ieq k 0))with
   |true=>some (false,())
   |false=>match(!(ieq l 0))with
   |true=>some (false,())
   |false=>match(!(ieq m 0))with
   |true=>some (false,())
   |false=>match(!(ieq s 0))with
   |true=>some (false,())
   |false=>match(!(ieq u 0))with
   |true=>some (false,())
   |false=>match(!(ieq w 0))with
   |true=>some (false,())
   |false=>match(!(ieq x 0))with
   |true=>some (false,())
   |false=>match(!(ieq (A2 d) 3))with
   |true=>some (false,())
   |false=>match(!(ieq (A2 a) 2))with
   |true=>some (false,())
   |false=>match(!(ieq v 4))with
   |true=>some (false,())
   |false=>match idx a 0 with|none=>none|some x25=>match idx a 0 with|none=>none|some x26=>match(CC (A2 (A5 a 0 (([]:List (Int)),(([]:List (Int)),(([]:List U6),())))).1)&&CC (A2 (A5 a 0 (([]:List (Int)),(([]:List (Int)),(([]:List U6),())))).1)&&ile (A2 (A5 a 0 (([]:List (Int)),(([]:List (Int)),(([]:List U6),())))).1) (A2 (A5 a 0 (([]:List (Int)),(([]:List (Int)),(([]:List U6),())))).1)&&true)with
   |true=>match L_ (((A5 a 0 (([]:List (Int)),(([]:List (Int)),(([]:List U6),())))).1,((A5 a 0 (([]:List (Int)),(([]:List (Int)),(([]:List U6),())))).2.1,((A5 a 0 (([]:List (Int)),(([]:List (Int)),(([]:List U6),())))).2.2.1,()))),(C5 (A3 (A2 (A5 a 0 (([]:List (Int)),(([]:List (Int)),(([]:List U6),())))).1)) (0:Int)),())with|none=>none|some (y,z,_)=>match idx a 0 with|none=>none|some x29=>match idx a 0 with|none=>none|some x30=>match(CC (A2 (A5 a 0 (([]:List (Int)),(([]:List (Int)),(([]:List U6),())))).1)&&CC (A2 (A5 a 0 (([]:List (Int)),(([]:List (Int)),(([]:List U6),())))).1)&&ile (A2 (A5 a 0 (([]:List (Int)),(([]:List (Int)),(([]:List U6),())))).1) (A2 (A5 a 0 (([]:List (Int)),(([]:List (Int)),(([]:List U6),())))).1)&&true)with
    |true=>match fA (((A5 a 0 (([]:List (Int)),(([]:List (Int)),(([]:List U6),())))).1,((A5 a 0 (([]:List (Int)),(([]:List (Int)),(([]:List U6),())))).2.1,((A5 a 0 (([]:List (Int)),(([]:List (Int)),(([]:List U6),())))).2.2.1,()))),(C5 (A3 (A2 (A5 a 0 (([]:List (Int)),(([]:List (Int)),(([]:List U6),())))).1)) false),())with|none=>none|some (A,B,_)=>match idx a 0 with|none=>none|some x33=>match OI (((A5 a 0 (([]:List (Int)),(([]:List (Int)),(([]:List U6),())))).1,((A5 a 0 (([]:List (Int)),(([]:List (Int)),(([]:List U6),())))).2.1,((A5 a 0 (([]:List (Int)),(([]:List (Int)),(([]:List U6),())))).2.2.1,()))),y,())with|none=>none|some (C,D,_)=>match idx a 0 with|none=>none|some x36=>match UN (((A5 a 0 (([]:List (Int)),(([]:List (Int)),(([]:List U6),())))).1,((A5 a 0 (([]:List (Int)),(([]:List (Int)),(([]:List U6),())))).2.1,((A5 a 0 (([]:List (Int)),(([]:List (Int)),(([]:List U6),())))).2.2.1,()))),A,0,3,())with|none=>none|some (E,F,_)=>match Gl ((b.1.1,(b.1.2.1,())),0,())with|none=>none|some (e,G,_)=>match xA ((e.1,(e.2.1,())),3,())with|none=>none|some (H,I,_)=>match LB ((b.1.1,(b.1.2.1,())),())with|none=>none|some (J,_)=>match IP (5,J,())with|none=>none|some (K,L,_)=>match eo (3,())with|none=>none|some (y46,M,N,_)=>match SZ (3,1,2,())with|none=>none|some (O,P,Q,R,S,T,U,V,_)=>match dx (4,([3,1]:List (Int)),())with|none=>none|some (W,X,Y,Z,_)=>match tR ()with|none=>none|some (y61,y62,y63,y64,y65,_)=>match SK (([(0,(1,())),(1,(2,())),(2,(0,())),(3,(2,()))]:List U4),(y61,(y62,((y63,(y64,(y65,()))),()))),())with|none=>none|some (y66,y67,y68,_)=>match AH5 ((b.1.1,(b.1.2.1,())),([(1,(0,()))]:List U4),())with|none=>none|some (y69,y70,y71,y72,_)=>match ku ((y69,(y70,())),([(1,(0,()))]:List U4),())with|none=>none|some (i,y74,y75,_)=>match tR ()with|none=>none|some (y76,y77,y78,y79,y80,_)=>match O1 (4,(y78,(y79,(y80,()))),())with|none=>none|some (y81,y82,y83,_)=>match tR ()with|none=>none|some (y84,y85,y86,y87,y88,_)=>match ZD ((b.1.1,(b.1.2.1,())),(3,(([]:List U4),(([(3,(3,(0,()))),(4,(0,(0,())))]:List Ub),()))),(y84,(y85,((y86,(y87,(y88,()))),()))),())with|none=>none|some (y89,y90,y91,y92,y93,_)=>match(ieq z 0)with
     |true=>match(ieq B 0)with
      |true=>match(ieq D 0)with
       |true=>match(ieq F 0)with
        |true=>match(ieq G 0)with
         |true=>match(ieq I 0)with
          |true=>match(ieq L 0)with
           |true=>match(ieq N 0)with
            |true=>match(ieq V 0)with
             |true=>match(ieq Z 0)with
              |true=>match(ieq y68 0)with
               |true=>match(ieq y72 0)with
                |true=>match(ieq y75 0)with
                 |true=>match(ieq y83 0)with
                  |true=>match(ieq y93 0)with
                   |true=>match(ieq C 0)with
                    |true=>match(ieq (A2 E) 0)with
                     |true=>match(ieq H 4)with
                      |true=>match Jp (K,([0,0,0,0,4]:List (Int)),())with|none=>none|some (y94,_)=>match y94 with
                       |true=>match(ieq (A2 M) 3)with
                        |true=>match gX (((O,(P,(Q,()))),(R,(S,(T,(U,()))))),())with|none=>none|some (y95,_)=>match(ieq y95 5)with
                         |true=>match dy ((W,(X,(Y,()))),())with|none=>none|some (y96,_)=>match(ieq (A2 y96) 2)with
                          |true=>match(ieq (A2 y66) 4)with
                           |true=>match UH ((b.1.1,(b.1.2.1,())),())with|none=>none|some (y97,_)=>match y97 with
                            |true=>match mJ ((i.1,(i.2.1,())),(b.1.1,(b.1.2.1,())),())with|none=>none|some (y98,_)=>match y98 with
                             |true=>match(ieq (A2 y81) 4)with
                              |true=>match idx d 2 with|none=>none|some x99=>match Jp ((A5 d 2 (0,(0,(([]:List (Int)),())))).2.2.1,([4,2]:List (Int)),())with|none=>none|some (y100,_)=>match y100 with
                               |true=>match Ji ((e.1,(e.2.1,())),())with|none=>none|some (y101,_)=>match y101 with
                                |true=>match idx a 0 with|none=>none|some x102=>match JC (((A5 a 0 (([]:List (Int)),(([]:List (Int)),(([]:List U6),())))).1,((A5 a 0 (([]:List (Int)),(([]:List (Int)),(([]:List U6),())))).2.1,((A5 a 0 (([]:List (Int)),(([]:List (Int)),(([]:List U6),())))).2.2.1,()))),())with|none=>none|some (y103,_)=>some (y103,())
                                |false=>some (false,())
                               |false=>some (false,())
                              |false=>some (false,())
                             |false=>some (false,())
                            |false=>some (false,())
                           |false=>some (false,())
                          |false=>some (false,())
                         |false=>some (false,())
                        |false=>some (false,())
                       |false=>some (false,())
                      |false=>some (false,())
                     |false=>some (false,())
                    |false=>some (false,())
                   |false=>some (false,())
                  |false=>some (false,())
                 |false=>some (false,())
                |false=>some (false,())
               |false=>some (false,())
              |false=>some (false,())
             |false=>some (false,())
            |false=>some (false,())
           |false=>some (false,())
          |false=>some (false,())
         |false=>some (false,())
        |false=>some (false,())
       |false=>some (false,())
      |false=>some (false,())
     |false=>some (false,())
    |false=>none
   |false=>none
  |false=>none
 |false=>none
def PJ[Lk]:=lkk dV
theorem jQ v:PJ v=dV v:=A0 _
abbrev Kl:A1:=[AVw,AUT,(.tmp 2,.dat (.arr 2 (.int .u8)))]
abbrev Zg:A1:=[AWZ,AK,AUP,AVV,AVW,AVv,(.cell 1 0,.dat (.int .u8)),(.cell 1 1,.dat (.int .u8)),(.tmp 9,.box 3),(.cell 2 0,.dat U5),(.cell 2 1,.dat U5),(.cell 2 2,.dat U8),AVE,Ab]
abbrev ZT:BB:=[(.exit 0,[AWZ,AK,AUP,AVV,AVW,AVv,(.cell 1 0,.dat (.int .u8)),(.cell 1 1,.dat (.int .u8)),(.tmp 9,.box 3),(.cell 2 0,.dat U5),(.cell 2 1,.dat U5),(.cell 2 2,.dat U8),AVE])]
def Es[Lk]:(Int×List U2×Int×Int×Int×Int×List Int×List Int×List U6×List Int×Int×Unit)->Option ((Int×List U2×Int×Int×Int×Int×List Int×List Int×List U6×List Int×Int×Unit)⊕(Int×List U2×Int×Int×Int×Int×List Int×List Int×List U6×List Int×Unit)⊕Unit):=fun(c,e,f,g,h,i,b,j,k,d,a,_)=>
 match(ilt a (A2 b))with
 |true=>match idx b a with|none=>none|some l=>match(ilt l c)with
  |true=>match idx d a with|none=>none|some m=>some (.inl (c,e,f,g,h,i,b,j,k,(Ba d (A3 a) 1),(w64 (a+1)),()))
  |false=>some (.inl (c,e,f,g,h,i,b,j,k,d,(w64 (a+1)),()))
 |false=>some (.inr (.inl (c,e,f,g,h,i,b,j,k,d,())))
def Km[Lk]:(V4×List Int×List Int×Unit)->Option (Uc):=fun(a,k,g,_)=>
 match(ilt 30 (A2 a.1.2.1))with
 |true=>match PJ ()with|none=>none|some (l,_)=>some (l,())
 |false=>match(ilt 12 a.1.1)with
 |true=>match PJ ()with|none=>none|some (m,_)=>some (m,())
 |false=>match IM ((a.1.1,(a.1.2.1,())),())with|none=>none|some (n,_)=>match(!n)with
 |true=>match PJ ()with|none=>none|some (o,_)=>some (o,())
 |false=>match Pj (((a.1.1,(a.1.2.1,())),(a.2.1,(a.2.2.1,()))),())with|none=>none|some (p,_)=>match(!p)with
 |true=>match PJ ()with|none=>none|some (q,_)=>some (q,())
 |false=>match LD (((a.1.1,(a.1.2.1,())),(a.2.1,(a.2.2.1,()))),k,())with|none=>none|some (b,s,_)=>match(!(ieq s 0))with
 |true=>some (false,())
 |false=>match(ieq (A2 b) 0)with
 |true=>some (false,())
 |false=>match rem? (w64 (A5 g 0 0)) (A2 b)with|none=>none|some c=>match idx b c with|none=>none|some H=>match(CC (A2 (A5 b (A3 c) (([]:List (Int)),(([]:List (Int)),(([]:List U6),())))).1)&&CC (A2 (A5 b (A3 c) (([]:List (Int)),(([]:List (Int)),(([]:List U6),())))).1)&&ile (A2 (A5 b (A3 c) (([]:List (Int)),(([]:List (Int)),(([]:List U6),())))).1) (A2 (A5 b (A3 c) (([]:List (Int)),(([]:List (Int)),(([]:List U6),())))).1)&&true)with
 |true=>match A6 Es many (a.1.1,a.1.2.1,a.2.1,a.2.2.1,(A5 g 0 (0:Int)),(A5 g 1 (0:Int)),(A5 b (A3 c) (([]:List (Int)),(([]:List (Int)),(([]:List U6),())))).1,(A5 b (A3 c) (([]:List (Int)),(([]:List (Int)),(([]:List U6),())))).2.1,(A5 b (A3 c) (([]:List (Int)),(([]:List (Int)),(([]:List U6),())))).2.2.1,(C5 (A3 (A2 (A5 b (A3 c) (([]:List (Int)),(([]:List (Int)),(([]:List U6),())))).1)) (0:Int)),(0:Int),())with|none=>none|some r=>match r with
  |.inl (t,u,I,J,K,v,d,e,f,w,_)=>match L_ ((d,(e,(f,()))),w,())with|none=>none|some (h,x,_)=>match OI ((d,(e,(f,()))),h,())with|none=>none|some (y,z,_)=>match idx d 0 with|none=>none|some A=>match Pg ((t,(u,())),(3,(A,(0,()))),())with|none=>none|some (j,B,_)=>match rem? (w64 v) (A2 d)with|none=>none|some i=>match IQ ((d,(e,(f,()))),h,0,i,())with|none=>none|some (C,L,D,_)=>match IQ ((d,(e,(f,()))),h,i,0,())with|none=>none|some (E,M,F,_)=>match PJ ()with|none=>none|some (G,_)=>match G with
   |true=>match(ieq x 0)with
    |true=>match(ieq z 0)with
     |true=>match(ieq B 0)with
      |true=>match(ieq D 0)with
       |true=>match(ieq F 0)with
        |true=>match(ieq y j)with
         |true=>match(ieq i 0)with
          |true=>some (true,())
          |false=>some ((ieq (w64 (C+E)) j),())
         |false=>some (false,())
        |false=>some (false,())
       |false=>some (false,())
      |false=>some (false,())
     |false=>some (false,())
    |false=>some (false,())
   |false=>some (false,())
  |.inr _=>none
 |false=>none
def EE[Lk]:=lkk Km
theorem Nu v:EE v=Km v:=A0 _
end
end Go.Pev
end
section

end
section
namespace Go.Pev.Pl
theorem vD{n:Int}(h:-9223372036854775808<=n/\n<=9223372036854775807):IntKind.wrap .i64 n=n:=IntWalk.i64_in n h
theorem BK{n:Int}(h:-9223372036854775808<=n/\n<=9223372036854775807):w64 n=n:=IntWalk.i64_in n h
theorem ABd{σ ρ:Type}{step:σ->Option (σ⊕ρ)}(I:σ->Prop)(Q:ρ->Prop)(m:σ->Nat)
  (h:∀ v,I v->(∃ a,step v=some (.inl a)/\I a/\m a<m v)\/(∃ r,step v=some (.inr r)/\Q r)) :
  ∀ n v,I v->m v<n->∃ r,BC step n v=some r/\Q r:=by
 intro n;induction n with
  |zero=>omega
  |succ n c=>
   intro v b d;rcases h v b with⟨a,e,hi,f⟩|⟨r,e,g⟩
   rw[BC,e];grind;rw[BC,e];grind
theorem sv{σ ρ:Type}{step:σ->Option (σ⊕ρ)}(I:σ->Prop)(Q:ρ->Prop)(m:σ->Nat)
  (h:∀ v,I v->(∃ a,step v=some (.inl a)/\I a/\m a<m v)\/(∃ r,step v=some (.inr r)/\Q r))
  (v:σ) (hi:I v) (hm:m v<many):∃ r,A6 step many v=some r/\Q r:=by rw[Bj];exact ABd I Q m h many v hi hm
section
variable {α:Type} [Inhabited α]
theorem Bp{d:Array α}{n:Nat}(h:n<d.size):idx d.toList (n:Int)=some d[n]! := by rw[idx_eq,YH,ARv (by omega)];simp[h]
theorem CL{d:Array α}{n:Nat}{z:α}(h:n<d.size):A5 d.toList (A3 (n:Int)) z=d[n]! := by simp[A5,A3,h]
theorem Jc{d:Array α}{n:Nat}{x:α}:Ba d.toList (A3 (n:Int)) x=(d.setIfInBounds n x).toList:=by simp[Ba,A3]
theorem xN{d:Array α}:A2 d.toList=(d.size:Int):=by simp[A2]
theorem J8(d:Array α)(i j:Nat):(d.setIfInBounds i d[j]!).setIfInBounds j d[i]! = Go.Sort.swp d i j:=rfl
theorem size_swp(d:Array α)(i j:Nat):(Go.Sort.swp d i j).size=d.size:=by simp[Go.Sort.swp]
end
theorem A7(a b:Nat):ilt (a:Int) (b:Int)=decide (a<b):=by rw[BP];simp
theorem Dt(a b:Nat):ile (a:Int) (b:Int)=decide (a<=b):=by rw[Bf];simp
theorem VA(a b:Nat):ieq (a:Int) (b:Int)=decide (a=b):=by rw[CU];grind
section
theorem wrap_add{a b:Nat}(h:a+b<9223372036854775808):w64 ((a:Int)+(b:Int))=((a+b:Nat):Int):=by rw[BK (by omega)];omega
theorem A8{a:Nat}(h:a+1<9223372036854775808):w64 ((a:Int)+1)=((a+1:Nat):Int):=by rw[BK (by omega)];omega
theorem af{a:Nat}(h:2*a<9223372036854775808):w64 ((2:Int)*(a:Int))=((2*a:Nat):Int):=by rw[BK (by omega)];omega
theorem xt{a:Nat}(h:a<9223372036854775808):w64 ((a:Int)*1)=((a*1:Nat):Int):=by rw[BK (by omega)];omega
theorem M'{a:Nat}(h:a*2<9223372036854775808):w64 ((a:Int)*2)=((a*2:Nat):Int):=by rw[BK (by omega)];omega
theorem xr{a:Nat}(h:a*3<9223372036854775808):w64 ((a:Int)*3)=((a*3:Nat):Int):=by rw[BK (by omega)];omega
theorem ED{a b:Nat}(h:b<=a/\a<9223372036854775808):w64 ((a:Int)-(b:Int))=((a-b:Nat):Int):=by rw[BK (by omega)];omega
theorem Br{a:Nat}(h:1<=a/\a<9223372036854775808):w64 ((a:Int)-1)=((a-1:Nat):Int):=by rw[BK (by omega)];omega
theorem AQv{a:Nat}(h:a<9223372036854775808):quo? .i64 (a:Int) 2=some ((a/2:Nat):Int):=by rw[Xh,qk,ARv (by omega),ATS (by omega),vD (by omega)];rfl
theorem vk{a:Nat}(h:a<9223372036854775808):quo? .i64 (a:Int) 4=some ((a/4:Nat):Int):=by rw[Xh,qk,ARv (by omega),ATS (by omega),vD (by omega)];rfl
theorem AQu{a:Nat}(h:a<9223372036854775808):quo? .i64 (a:Int) 8=some ((a/8:Nat):Int):=by rw[Xh,qk,ARv (by omega),ATS (by omega),vD (by omega)];rfl
end
section
variable {α:Type}
theorem DZ{xs:List α}{n:Nat}(z:α)(h:n<xs.length):idx xs (n:Int)=some (xs.getD n z):=by rw[idx_eq,YH,ARv (by omega)];simp[h]
theorem AHZ{xs:List α}{n:Nat}(h:n<xs.length):∃ x,idx xs (n:Int)=some x:=by rw[idx_eq,YH,ARv (by omega)];simp_all
theorem fm(xs:List α)(n:Nat):idx xs (n:Int)=xs[n]? := by rw[idx_eq,YH,ARv (by omega)];simp
theorem QJ(xs:List α):idx xs (0:Int)=xs.head? := by rw[idx_eq,YH,ARv (by omega)];cases xs<;>rfl
theorem LS(xs:List α)(n:Nat)(z:α):A5 xs (A3 (n:Int)) z=xs.getD n z:=by simp[A5,A3]
theorem Jx(xs:List α)(n:Nat)(x:α):Ba xs (A3 (n:Int)) x=xs.set n x:=by simp[Ba,A3]
theorem A'(xs:List α):A2 xs=(xs.length:Int):=rfl
theorem SJ(n:Nat):A3 (n:Int)=n:=by simp[A3]
theorem Ym(xs ys:List α):Bk xs ys=xs++ys:=rfl
theorem pe{xs:List α}{l h:Nat}(a:l<=h)(b:h<=xs.length):D0 xs (l:Int) (h:Int)=some ((xs.take h).drop l):=by rw[UD,jn,ARt (by omega)];simp
end
theorem Cw{n:Int}(h:n<=4294967296):fits n=true:=(Fg n).2 h
theorem O8{α:Type}{xs:List α}(h:xs.length<=4294967296):HR xs=some xs:=by rw[c7,gq,(R9 _).2 (by rw[A'];omega)]
theorem ma{α β:Type}(xs:List α)(ys:List β):ieq (A2 xs) (A2 ys)=decide (xs.length=ys.length):=by rw[A',A',VA]
theorem CG(a b:Int):ieq a b=decide (a=b):=by rw[CU];grind
def walk{α β ρ:Type}(f:β->α->α⊕ρ)(fin:α->ρ):List β->α->ρ
 |[],a=>fin a
 |x::xs,a=>match f x a with
  |.inl a=>walk f fin xs a
  |.inr r=>r
theorem yD{σ ρ α β:Type}{step:σ->Option (σ⊕ρ)}(st:Nat->α->σ)(xs:List β)(f:β->α->α⊕ρ)(fin:α->ρ)(I:Nat->α->Prop)
  (h:∀ i x a,i<xs.length->xs[i]? = some x->I i a->(∀ c,f x a = .inl c->step (st i a)=some (.inl (st (i+1) c))/\I (i+1) c)/\(∀ r,f x a = .inr r->step (st i a)=some (.inr r)))
  (g:∀ a,I xs.length a->step (st xs.length a)=some (.inr (fin a))) :
  ∀ (m i n:Nat) (a:α),xs.length-i=m->i<=xs.length->m<n->I i a->BC step n (st i a)=some (walk f fin (xs.drop i) a):=by
 intro m;induction m with
  |zero=>
   intro i n a j hi l d;obtain⟨n,rfl⟩:∃ k,n=k+1:=⟨n-1,by omega⟩
   have e:i=xs.length:=by omega
   subst e;rw[BC,g a d,List.drop_length];rfl
  |succ m o=>
   intro i n a j hi l d;obtain⟨n,rfl⟩:∃ k,n=k+1:=⟨n-1,by omega⟩
   have b:i<xs.length:=by omega
   obtain⟨p,q⟩:=h i xs[i] a b (by simp) d;rw[AST b,walk,BC];grind
theorem DY{σ ρ α β:Type}{step:σ->Option (σ⊕ρ)}(st:Nat->α->σ)(xs:List β)(f:β->α->α⊕ρ)(fin:α->ρ)(I:Nat->α->Prop)(e:xs.length<9223372036854775808)
  (h:∀ i x a,i<xs.length->xs[i]? = some x->I i a->(∀ b,f x a = .inl b->step (st i a)=some (.inl (st (i+1) b))/\I (i+1) b)/\(∀ r,f x a = .inr r->step (st i a)=some (.inr r)))
  (c:∀ a,I xs.length a->step (st xs.length a)=some (.inr (fin a))) (a:α) (d:I 0 a):A6 step many (st 0 a)=some (walk f fin xs a):=by
 have g:9223372036854775808<many:=by simp only[many];omega
 rw[Bj,yD st xs f fin I h c xs.length 0 many a (by omega) (by omega) (by omega) d];rfl
theorem Em{α:Type}{xs ys:List α}(z:α)(a:xs.length=ys.length)(h:∀ j,j<xs.length->xs.getD j z=ys.getD j z):xs=ys:=by apply List.ext_getElem a;grind
theorem mC{α:Type}{xs ys:List α}(z:α){j:Nat}(h:xs.getD j z≠ys.getD j z):xs≠ys:=fun e=>h (by rw[e])
theorem zA{σ ρ:Type}{step:σ->Option (σ⊕ρ)}(st:Nat->σ)(N:Nat)(P:Nat->Bool)(c:Nat->ρ)(rf:ρ)
  (h:∀ i,i<N->step (st i)=if P i then some (.inr (c i))else some (.inl (st (i+1)))) (g:step (st N)=some (.inr rf)) :
  ∀ (m i n:Nat),N-i=m->i<=N->m<n->(∃ k,i<=k/\k<N/\P k=true/\(∀ j,i<=j->j<k->P j=false)/\BC step n (st i)=some (c k))\/((∀ j,i<=j->j<N->P j=false)/\BC step n (st i)=some rf):=by
 intro m;induction m with
  |zero=>
   intro i n l hi o;obtain⟨n,rfl⟩:∃ k,n=k+1:=⟨n-1,by omega⟩
   have e:i=N:=by omega
   subst e;exact .inr ⟨fun j d f=>by omega,by rw[BC,g]⟩
  |succ m p=>
   intro i n l hi o;obtain⟨n,rfl⟩:∃ k,n=k+1:=⟨n-1,by omega⟩
   have a:i<N:=by omega
   cases b:P i
   ·have e:BC step (n+1) (st i)=BC step n (st (i+1)):=by rw[BC,h i a,b];rfl
    rw[e];rcases p (i+1) n (by omega) (by omega) (by omega)with⟨k,d,f,q,r,s⟩|⟨d,f⟩
    all_goals grind
   exact .inl ⟨i,ARo _,a,b,fun j t u=>by omega,by rw[BC,h i a,b];rfl⟩
theorem ANu{σ ρ:Type}{step:σ->Option (σ⊕ρ)}(st:Nat->σ)(N:Nat)(P:Nat->Bool)(a:Nat->ρ)(rf:ρ)(e:N<9223372036854775808)
  (h:∀ i,i<N->step (st i)=if P i then some (.inr (a i))else some (.inl (st (i+1)))) (b:step (st N)=some (.inr rf)) :
  (∃ k,k<N/\P k=true/\(∀ j,j<k->P j=false)/\A6 step many (st 0)=some (a k))\/((∀ j,j<N->P j=false)/\A6 step many (st 0)=some rf):=by
 have f:9223372036854775808<many:=by simp only[many];omega
 rw[Bj];rcases zA st N P a rf h b N 0 many rfl (by omega) (by omega)with⟨k,c,d,g,l,m⟩|⟨c,d⟩
 all_goals grind
inductive Tok where
 |ver (v:Int)
 |arc (u v:Int)
 deriving DecidableEq
namespace Tok
def st:Tok->Int
 |.ver v=>v
 |.arc _ v=>v
def step(s:List Int×List Int):Tok->Option (List Int×List Int)
 |.ver v=>match s.1 with
  |w::_=>if w=v then some s else none
  |[]=>none
 |.arc u v=>match s.1 with
  |w::r=>if w=u then match r with
    |p::r'=>if p=v then some (p::r',s.2)else if v∈s.2 then none else some (v::w::r,v::s.2)
    |[]=>if v∈s.2 then none else some (v::w::r,v::s.2)
   else none
  |[]=>none
def run:List Int×List Int->List Tok->Option (List Int×List Int)
 |s,[]=>some s
 |s,t::l=>match step s t with
  |some s=>run s l
  |none=>none
theorem IU(s:List Int×List Int)(a b:List Tok):run s (a++b)=(run s a).bind fun s=>run s b:=by
 induction a generalizing s with
  |nil=>rfl
  |cons t a c=>simp only[ASG,run];grind
theorem F8{s b:List Int×List Int}{t:Tok}(h:step s t=some b):
  (∃ v r,t = .ver v/\s.1=v::r/\b=s) \/
  (∃ u v r,t = .arc u v/\s.1=u::v::r/\b=(v::r,s.2)) \/
  (∃ u v r,t = .arc u v/\s.1=u::r/\r.head?≠some v/\v∉s.2/\b=(v::u::r,v::s.2)):=by
 obtain⟨a,c⟩:=s;cases t with
  |ver v=>
   cases a with
    |nil=>simp[step]at h
    |cons w r=>simp only[step]at h;grind
  |arc u v=>
   cases a with
    |nil=>simp[step]at h
    |cons w r=>
     simp only[step]at h;split at h
     ·rename_i e;subst e;cases r with
       |nil=>simp only at h;split at h;all_goals grind
       |cons p r=>simp only at h;split at h;grind;·split at h;all_goals grind
     grind
theorem G0(v:Int)(r c:List Int):step (v::r,c) (.ver v)=some (v::r,c):=by simp[step]
theorem J'(u v:Int)(r c:List Int):step (u::v::r,c) (.arc u v)=some (v::r,c):=by simp[step]
theorem Hv(u v:Int)(r c:List Int)(b:r.head?≠some v)(a:v∉c):step (u::r,c) (.arc u v)=some (v::u::r,v::c):=by
 cases r with
  |nil=>simp[step,a]
  |cons p r=>
   have:p≠v:=by grind
   simp[step,a,this]
def Inv(s:List Int×List Int):Prop:=s.1.Nodup/\(∀ x∈s.1,x∈s.2)
theorem XD{s d:List Int×List Int}{t:Tok}(h:step s t=some d)(hi:Inv s):Inv d/\(∀ x∈s.2,x∈d.2)/\d.1.head? = some t.st:=by
 obtain⟨g,c⟩:=s;obtain⟨e,f⟩:=hi;rcases F8 h with⟨v,r,rfl,a,rfl⟩|⟨u,v,r,rfl,a,rfl⟩|⟨u,v,r,rfl,a,_,i,rfl⟩
 exact⟨⟨e,f⟩,fun x b=>b,by rw[a];rfl⟩;·simp only at a e f;subst a;refine⟨⟨?_,?_⟩,fun x b=>b,rfl⟩;all_goals grind
 ·simp only at a e f i;subst a;refine⟨⟨?_,?_⟩,fun x b=>by simp[b],rfl⟩;all_goals grind
theorem eX{l:List Tok}:∀ {s a:List Int×List Int},run s l=some a->Inv s->Inv a/\(∀ x∈s.2,x∈a.2)/\∀ t,l.getLast? = some t->a.1.head? = some t.st:=by
 induction l with
  |nil=>intro s a h hi;cases h;grind
  |cons t l c=>
   intro s a h hi;simp only[run]at h;split at h;rename_i k d;obtain⟨e,f,m⟩:=XD d hi;obtain⟨g,i,n⟩:=c h e;refine⟨g,fun x j=>i x (f x j),fun t' b => ?_⟩;cases l with
    |nil=>simp at b;subst b;simp only[run]at h;grind
    |cons y l=>grind
   grind
theorem H4{Z:Int->Prop}:∀ {l:List Tok} {b a c d c2 low:List Int},run (b,c) l=some (a,d)->b≠[]->(∀ x,x∈c2↔x∈c\/Z x) ->
  (∀ u v,.arc u v∈l->¬ Z v)->(∀ y∈low,Z y)->∃ e,run (b++low,c2) l=some (a++low,e)/\(∀ x,x∈e↔x∈d\/Z x):=by
 intro l;induction l with
  |nil=>intro b a c d c2 low h _ k _ _;cases h;exact⟨c2,rfl,k⟩
  |cons t l m=>
   intro b a c d c2 low h n k w o;simp only[run]at h;split at h;rename_i D z;have g:∀ u v,Tok.arc u v∈l->¬ Z v:=fun u v A=>w u v (ASh _ A);rcases F8 z with⟨v,r,rfl,f,rfl⟩|⟨u,v,r,rfl,f,rfl⟩|⟨u,v,r,rfl,f,E,B,rfl⟩
   simp only at f;subst f;obtain⟨e,i,j⟩:=m h n k g o;exact⟨e,by simp only[run,ASG,G0];exact i,j⟩;simp only at f;subst f;obtain⟨e,i,j⟩:=m h (by simp) k g o;exact⟨e,by simp only[run,ASG,J'];exact i,j⟩;simp only at f B;subst f;have C:=w u v (by simp);have q:v∉c2:=by grind
   have s:(r++low).head?≠some v:=by
    cases r with
     |nil=>
      cases low with
       |nil=>simp
       |cons y low=>grind
     |cons p r=>grind
   obtain⟨e,i,j⟩:=m (c2:=v::c2) h (by simp) (by grind) g o;exact⟨e,by simp only[run,ASG,Hv _ _ _ _ s q];exact i,j⟩;grind
theorem AFD{z:Int}:∀ {l:List Tok} {b a c2 m c:List Int},run (b,c2) l=some (a,m)->z∉b->(∀ x,x∈c2↔x∈c\/x=z)->z∉c ->
  .ver z∉l/\∃ d,run (b,c) l=some (a,d)/\(∀ x,x∈m↔x∈d\/x=z)/\z∉d:=by
 intro l;induction l with
  |nil=>intro b a c2 m c h _ f n;cases h;exact⟨by simp,c,rfl,f,n⟩
  |cons t l o=>
   intro b a c2 m c h g f n;simp only[run]at h;split at h;rename_i C y;rcases F8 y with⟨v,r,rfl,e,rfl⟩|⟨u,v,r,rfl,e,rfl⟩|⟨u,v,r,rfl,e,A,s,rfl⟩
   simp only at e;subst e;obtain⟨w,d,i,j,k⟩:=o h g f n;refine⟨?_,d,by simp only[run,G0];exact i,j,k⟩;grind;simp only at e;subst e;obtain⟨w,d,i,j,k⟩:=o h (fun p=>g (ASh _ p)) f n;refine⟨?_,d,by simp only[run,J'];exact i,j,k⟩;grind;simp only at e s;subst e;have B:v≠z:=by grind
   have q:v∉c:=fun p=>s ((f v).2 (.inl p))
   obtain⟨w,d,i,j,k⟩:=o (c:=v::c) h (by grind)
    (by grind)
    (by grind)
   refine⟨?_,d,by simp only[run,Hv _ _ _ _ A q];exact i,j,k⟩;grind;grind
def Rot(a b:List Tok):Prop:=∃ x y,a=x++y/\b=y++x
theorem Rot.refl(a:List Tok):Rot a a:=⟨[],a,rfl,by simp⟩
theorem Rot.trans{a b c:List Tok}(h:Rot a b)(g:Rot b c):Rot a c:=by
 obtain⟨x,y,rfl,i⟩:=h;obtain⟨z,w,f,rfl⟩:=g;rw[i]at f;rcases List.append_eq_append_iff.1 f with⟨k,d,e⟩|⟨k,d,e⟩
 subst d e;exact⟨k,w++y,by simp,by simp⟩;subst d e;exact⟨x++z,k,by simp,by simp⟩
theorem Rot.perm{a b:List Tok}(h:Rot a b):a.Perm b:=by obtain⟨x,y,rfl,rfl⟩:=h;grind
theorem Rot.mem{a b:List Tok}(h:Rot a b)(t:Tok):t∈a↔t∈b:=h.perm.mem_iff
theorem Rot.length{a b:List Tok}(h:Rot a b):a.length=b.length:=h.perm.length_eq
inductive T:List Tok->Prop
 |one (v:Int):T [.ver v]
 |add (x:Tok) (l:List Tok) (v:Int):T (x::l)->x.st≠v->.ver v∉x::l->T (x :: .arc x.st v :: .ver v :: .arc v x.st::l)
 |rot (a b:List Tok):T (a++b)->T (b++a)
theorem T.AG0{a b:List Tok}(h:T a)(r:Rot a b):T b:=by obtain⟨x,y,rfl,rfl⟩:=r;exact T.rot x y h
theorem T.facts{l:List Tok}(h:T l):l≠[]/\(∀ t∈l,.ver t.st∈l)/\(∀ u v,.arc u v∈l->.ver u∈l/\.ver v∈l/\.arc v u∈l/\u≠v):=by
 induction h with
  |one v=>exact⟨by simp,by simp[st],by simp⟩
  |add x l v h m q f=>
   obtain⟨_,g,n⟩:=f;have d:∀ t,t∈x::l->t∈x::Tok.arc x.st v :: .ver v :: .arc v x.st::l:=by grind
   have o:=d _ (g x (by simp));have c:∀ t,t∈x::Tok.arc x.st v :: .ver v :: .arc v x.st::l->t∈x::l\/t = .arc x.st v\/t = .ver v\/t = .arc v x.st:=by grind
   refine⟨by simp,fun t i => ?_,fun a b j => ?_⟩;rcases c t i with h|rfl|rfl|rfl;grind;simp[st];simp[st];exact o;·rcases c _ j with h|h|h|h;all_goals grind
  |rot a b h f=>obtain⟨r,g,n⟩:=f;have k:∀ t,t∈a++b↔t∈b++a:=fun t=>List.perm_append_comm.mem_iff;refine⟨by intro e;simp_all,fun t i=>(k _).1 (g t ((k _).2 i)),fun u v p => ?_⟩;grind
theorem T.nodup{l:List Tok}(h:T l):l.Nodup:=by
 induction h with
  |one v=>simp
  |add x l v h c e d=>obtain⟨_,_,f⟩:=h.facts;grind
  |rot a b h d=>grind
def C(l:List Tok):Prop:=∀ r,Rot l r->∀ t,r.getLast? = some t->∃ c,run ([t.st],[t.st]) r=some ([t.st],c)/\∀ x,x∈c↔.ver x∈l
end Tok
end Go.Pev.Pl
end
section
namespace Go.Pev.Pl.Tok
theorem getLast?_app{a b:List Tok}{t:Tok}(h:b.getLast? = some t):(a++b).getLast? = some t:=by grind
theorem CQ(s:List Int×List Int)(t:Tok)(l:List Tok):run s (t::l)=(step s t).bind fun s=>run s l:=by rw[run];grind
theorem VH(v:Int):Inv ([v],[v]):=⟨by simp,by simp⟩
theorem T.toC{l:List Tok}(h:T l):C l:=by
 induction h with
  |one v=>intro r I t j;have:r=[.ver v]:=List.perm_singleton.1 I.perm.symm;subst this;simp at j;subst j;exact⟨[v],by simp[run,st,step],by simp⟩
  |rot a b h K=>intro r I t j;obtain⟨c,s,A⟩:=K r (Rot.trans ⟨a,b,rfl,rfl⟩ I) t j;grind
  |add x l v h Q M K=>
   obtain⟨_,f2,R⟩:=h.facts;have m:∀ u w,Tok.arc u w∈x::l->¬ (w=v):=fun u w B e=>M (e▸(R u w B).2.1);have fin:∀ {k c:List Int},(∀ y,y∈k↔y∈c\/y=v)->(∀ y,y∈c↔.ver y∈x::l)->∀ y,y∈k↔Tok.ver y∈x :: .arc x.st v :: .ver v :: .arc v x.st::l:=by grind
   have g:∀ {w' n:List Int},Inv (x.st::w',n)->v∉n->∀ p,run (x.st::w',n) (.arc x.st v :: .ver v :: .arc v x.st::p)=run (x.st::w',v::n) p:=by
    intro w' n hi H p;have S:w'.head?≠some v:=by intro e;exact H (hi.2 v (ASh _ (List.mem_of_head? e)))
    rw[CQ,Hv _ _ _ _ S H,ASN,CQ,G0,ASN,CQ,J',ASN]
   have G:∀ i f,l=f++i->∀ t,(i++x :: .arc x.st v :: .ver v :: .arc v x.st::f).getLast? = some t->∃ c,run ([t.st],[t.st]) (i++x :: .arc x.st v :: .ver v :: .arc v x.st::f)=some ([t.st],c)/\∀ y,y∈c↔.ver y∈x :: .arc x.st v :: .ver v :: .arc v x.st::l:=by
    intro i f U t j;have J:Rot (x::l) (i++x::f):=⟨x::f,i,by simp[U],rfl⟩
    have L:∃ o,(i++x::f).getLast? = some o/\o.st=t.st:=by
     cases f with
      |nil=>refine⟨x,getLast?_app (by simp),?_⟩;rw[show i++[x,Tok.arc x.st v,.ver v,.arc v x.st]=(i++[x,Tok.arc x.st v,.ver v])++[Tok.arc v x.st] by simp,List.getLast?_concat]at j;cases j;rfl
      |cons y f=>refine⟨t,?_,rfl⟩;grind
    obtain⟨o,V,W⟩:=L;obtain⟨c,s,A⟩:=K _ J o V;rw[W,show i++x::f=(i++[x])++f by simp,IU,ASn]at s;obtain⟨⟨X,n⟩,N,O⟩:=s;obtain⟨P,i2,Y⟩:=eX N (VH _);obtain⟨j1,j2,j3⟩:=eX O P;have D:=Y x (by simp);simp only at D;cases X with
     |nil=>grind
     |cons w0 w'=>
      simp at D;subst D;have H:v∉n:=fun B=>M ((A v).1 (j2 v B));obtain⟨k,E,F⟩:=H4 (Z:=(· = v)) (c2:=v::n) (low:=[]) O (by simp) (fun y=>by simp[or_comm]) (fun u w B=>m u w (by grind)) (by simp)
      refine⟨k,?_,fin F A⟩;rw[show i++x::Tok.arc x.st v :: .ver v :: .arc v x.st::f=(i++[x])++Tok.arc x.st v :: .ver v :: .arc v x.st::f by simp,IU,N,ASN,g P H];grind
   intro r I t j;obtain⟨p,q,d,rfl⟩:=I;have base:∀ o:Tok,(l++[x]).getLast? = some o->o=x:=fun o h=>by grind
   obtain⟨c,s,A⟩:=K (l++[x]) ⟨[x],l,rfl,rfl⟩ x (by simp);match p with
   |[]=>
    simp only[ASO]at d
    subst d
    have:=G [] l (by simp) t (by grind)
    simpa using this
   |[y]=>
    simp only[ASG,ASO,AR5]at d
    obtain⟨rfl,rfl⟩:=d
    have:t=x:=by
     grind
    subst this
    have H:v∉[t.st]:=by grind
    obtain⟨k,E,F⟩:=H4 (Z:=(· = v)) (c2:=[v,t.st]) (low:=[]) s (by simp) (fun y=>by simp[or_comm]) (fun u w B=>m u w (by grind)) (by simp)
    refine⟨k,?_,fin F A⟩
    rw[show(Tok.arc t.st v :: .ver v :: .arc v t.st::l)++[t]=Tok.arc t.st v :: .ver v :: .arc v t.st::(l++[t]) by simp,g (VH _) H]
    grind
   |[y,z]=>
    simp only[ASG,ASO,AR5]at d
    obtain⟨rfl,rfl,rfl⟩:=d
    have:t = .arc x.st v:=by
     rw[show(Tok.ver v :: .arc v x.st::l)++[x,.arc x.st v]=(Tok.ver v :: .arc v x.st::l++[x])++[.arc x.st v] by simp,List.getLast?_concat]at j
     grind
    subst this
    obtain⟨k,E,F⟩:=H4 (Z:=(· = v)) (c2:=[x.st,v]) (low:=[v]) s (by simp) (fun y=>by simp) (fun u w B=>m u w (by grind)) (by simp)
    refine⟨k,?_,fin F A⟩
    rw[show(Tok.ver v :: .arc v x.st::l)++[x,.arc x.st v]=Tok.ver v :: .arc v x.st::((l++[x])++[.arc x.st v]) by simp]
    rw[CQ]
    show(step ([v],[v]) _).bind _=_
    rw[G0,ASN,CQ,Hv _ _ _ _ (by simp) (by grind),ASN,IU]
    rw[show([x.st]++[v]:List Int)=[x.st,v]from rfl]at E
    rw[E,ASN,CQ,J']
    rfl
   |[y,z,w]=>
    simp only[ASG,ASO,AR5]at d
    obtain⟨rfl,rfl,rfl,rfl⟩:=d
    have:t = .ver v:=by
     rw[show(Tok.arc v x.st::l)++[x,.arc x.st v,.ver v]=(Tok.arc v x.st::l++[x,.arc x.st v])++[.ver v] by simp,List.getLast?_concat]at j
     grind
    subst this
    obtain⟨k,E,F⟩:=H4 (Z:=(· = v)) (c2:=[x.st,v]) (low:=[v]) s (by simp) (fun y=>by simp) (fun u w B=>m u w (by grind)) (by simp)
    refine⟨k,?_,fin F A⟩
    rw[show(Tok.arc v x.st::l)++[x,.arc x.st v,.ver v]=Tok.arc v x.st::((l++[x])++[.arc x.st v,.ver v]) by simp]
    rw[CQ]
    show(step ([v],[v]) _).bind _=_
    rw[Hv _ _ _ _ (by simp) (by grind),ASN,IU]
    rw[show([x.st]++[v]:List Int)=[x.st,v]from rfl]at E
    rw[E,ASN,CQ,J',ASN,CQ,G0]
    rfl
   |y::z::w::w2::f=>
    simp only[ASG,AR5]at d
    obtain⟨rfl,rfl,rfl,rfl,rfl⟩:=d
    exact G q f rfl t j
def comp(P:List Tok):List Int->List Tok
 |[]=>[]
 |w::r=>(if .ver w∈P then []else [.ver w])++match r with
  |[]=>[]
  |p::_=>.arc w p::comp P r
theorem O7{P b:List Tok}:∀ {a:List Int},(∀ w∈a,(Tok.ver w∈P↔Tok.ver w∈b))->comp P a=comp b a:=by
 intro a;induction a with
  |nil=>intro _;rfl
  |cons w r c=>intro h;have d:=h w (by simp);have e:=c fun x f=>h x (ASh _ f);simp only[comp,d,e]
theorem APl:∀ (M P:List Tok) (d c c':List Int) (r:Int) (a:Tok),run (d,c) M=some ([r],c')->Inv (d,c)->P.getLast? = some a->d.head? = some a.st ->
  T (P++comp P d)->(∀ x,.ver x∈P++comp P d->x∈c)->(∀ x∈c',Tok.ver x∈P++M)->(P++M).Nodup->T (P++M):=by
 intro M;induction M with
  |nil=>intro P d c c' r a h hi N R n o f p;cases h;have:=f r (hi.2 r (by simp));rw[ASu]at this;simpa [comp,this]using n
  |cons t M C=>
   intro P d c c' r a h hi N R n o f p;rw[CQ,ASn]at h;obtain⟨⟨V,W⟩,O,B⟩:=h;obtain⟨k,Q,l⟩:=XD O hi;have q:P++t::M=(P++[t])++M:=by simp
   rw[q]at p f |-;have D:t∉P:=by grind
   rcases F8 O with⟨v,b,rfl,i,e⟩|⟨u,v,b,rfl,i,e⟩|⟨u,v,b,rfl,i,S,s,e⟩
   cases e;simp only at i;subst i;have g:comp P (v::b) = .ver v::comp (P++[.ver v]) (v::b):=by
    have y:comp P b=comp (P++[.ver v]) b:=O7 fun w m=>by
     have:w≠v:=by rintro rfl;exact(ASi.1 hi.1).1 m
     grind
    simp only[comp,D,y];simp
   rw[g]at n o;exact C _ _ _ _ _ (.ver v) B k (by simp) l (by grind) (fun x U=>o x (by grind)) f p;cases e;simp only at i;subst i;have E:Tok.ver u∈P:=by
    have F:=(ASi.1 hi.1).1;obtain⟨X,_⟩:=AFD (z:=u) (c:=c.filter (·≠u)) B F (fun x=>by simp only[AS8,ARm];constructor;grind;rintro (h|rfl);exact h.1;exact hi.2 x (by simp)) (by simp)
    grind
   have g:comp P (u::v::b) = .arc u v::comp (P++[.arc u v]) (v::b):=by
    have y:comp P (v::b)=comp (P++[.arc u v]) (v::b):=O7 fun w m=>by simp
    rw[<- y];simp only[comp,E];simp
   rw[g]at n o;exact C _ _ _ _ _ (.arc u v) B k (by simp) l (by grind) (fun x U=>o x (by grind)) f p;cases e;simp only at i s;subst i;have E:u=a.st:=by grind
   subst E;have G:∀ x,Tok.ver x∈P++comp P (a.st::b)->x≠v:=by grind
   have H:Tok.ver v∉P++comp P (a.st::b):=fun I=>G v I rfl;have A:Tok.ver v∉P:=fun I=>H (by simp[I]);have g:comp (P++[.arc a.st v]) (v::a.st::b) = .ver v :: .arc v a.st::comp P (a.st::b):=by
    have y:comp (P++[.arc a.st v]) (a.st::b)=comp P (a.st::b):=O7 fun w m=>by simp
    rw[<- y];simp only[comp,AR6,A,AS2,reduceCtorEq,or_false,AR3];rfl
   have J:a.st≠v:=by rintro e;exact s (e▸hi.2 a.st (by simp))
   refine C _ _ _ _ _ (.arc a.st v) B k (by simp) l ?_ ?_ f p;rw[g];obtain⟨j,rfl⟩:∃ j,P=j++[a]:=List.getLast?_eq_some_iff.1 N;have K:T (a::(comp (j++[a]) (a.st::b)++j)):=n.AG0 ⟨j,a::comp (j++[a]) (a.st::b),by simp,by simp⟩;have L:=T.add a _ v K J (by grind)
   exact L.AG0 ⟨a :: .arc a.st v :: .ver v :: .arc v a.st::comp (j++[a]) (a.st::b),j,by simp,by simp⟩;grind
def BO(l:List Tok):Prop:=∃ r a c,l = .ver r::a/\run ([r],[r]) l=some ([r],c)/\∀ x∈c,Tok.ver x∈l
theorem BO.toT{l:List Tok}(h:BO l)(d:l.Nodup):T l:=by obtain⟨r,b,c,rfl,a,e⟩:=h;rw[CQ,G0,ASN]at a;have:=APl b [.ver r] [r] [r] c r (.ver r) a (VH r) (by simp) (by simp[st]) (by simp[comp];exact T.one r) (by simp[comp]) (by grind) (by grind);grind
theorem T.dp{r:Int}{l:List Tok}(h:T (.ver r::l)):BO (.ver r::l):=by
 obtain⟨t,d⟩:∃ t,(Tok.ver r::l).getLast? = some t:=⟨_,List.getLast?_eq_some_getLast (by simp)⟩
 obtain⟨c,b,f⟩:=h.toC _ (Rot.refl _) t d;have a:=b;rw[CQ,ASn]at a;obtain⟨s,g,_⟩:=a;have e:t.st=r:=by simp only[step]at g;grind
 rw[e]at b;exact⟨r,l,c,rfl,b,fun x i=>(f x).1 i⟩
theorem T.nW{l:List Tok}(h:T l):∃ v r,Rot l (.ver v::r):=by obtain⟨c,d,_⟩:=h.facts;obtain⟨t,e⟩:=List.exists_mem_of_ne_nil l c;obtain⟨a,b,rfl⟩:=AT3 (d t e);exact⟨t.st,b++a,a,.ver t.st::b,rfl,rfl⟩
theorem T.leaf{l:List Tok}(h:T l):(∃ v,l=[.ver v])\/∃ x v r,Rot l (x :: .arc x.st v :: .ver v :: .arc v x.st::r):=by
 induction h with
  |one v=>simp
  |add x l v h f g d=>exact .inr ⟨x,v,l,Rot.refl _⟩
  |rot a b h d=>
   rcases d with⟨v,e⟩|⟨x,v,r,c⟩
   have c:Rot [.ver v] (b++a):=⟨a,b,e.symm,rfl⟩
   exact .inl ⟨v,List.perm_singleton.1 c.perm.symm⟩;exact .inr ⟨x,v,r,Rot.trans ⟨b,a,rfl,rfl⟩ c⟩
def Lw:List Tok->List Int
 |[]=>[]
 |.ver v::l=>v::Lw l
 |.arc _ _::l=>Lw l
theorem Px{v:Int}:∀ {l:List Tok},v∈Lw l↔.ver v∈l
 |[]=>by simp[Lw]
 |.ver w::l=>by simp[Lw,Px (l:=l)]
 |.arc _ _::l=>by simp[Lw,Px (l:=l)]
theorem jR(a b:List Tok):Lw (a++b)=Lw a++Lw b:=by
 induction a with
  |nil=>rfl
  |cons t a c=>cases t<;>simp[Lw,c]
theorem T.len{l:List Tok}(h:T l):l.length+2=3*(Lw l).length:=by
 induction h with
  |one v=>rfl
  |add x l v h d e c=>cases x<;>simp[Lw]at c |-<;>omega
  |rot a b h c=>simp only[jR,AR7]at c |-;omega
end Go.Pev.Pl.Tok
end
section
namespace Go.Pev.Pl
section
variable {β:Type}
def B1(a:List (Int×β)):List Int:=a.map Prod.fst
theorem Rr(a:List (Int×β)):(B1 a).length=a.length:=by simp[B1]
theorem Hg(c:List (Int×β))(k:Int)(v:β)(j:Int):A9 (BI c k v) j=if j=k then some v else A9 c j:=by
 induction c with
  |nil=>simp only[BI,A9];grind
  |cons e c d=>obtain⟨a,b⟩:=e;simp only[BI];by_cases h:a=k;subst h;simp only[ASR,A9];grind;simp only[h,AR3,A9,d];grind
theorem Oh(c:List (Int×β))(k:Int)(v:β):B1 (BI c k v)=if k∈B1 c then B1 c else B1 c++[k]:=by
 induction c with
  |nil=>rfl
  |cons e c d=>
   obtain⟨a,b⟩:=e;simp only[BI];by_cases h:a=k;subst h;simp[B1];simp only[h,AR3];show a::B1 (BI c k v)=_;rw[d];have:k∈B1 ((a,b)::c)↔k∈B1 c:=by simp[B1,ATY h]
   simp only[this];split<;>rfl
theorem S6(c:List (Int×β))(k:Int):A9 c k=none↔k∉B1 c:=by
 induction c with
  |nil=>simp[A9,B1]
  |cons e c d=>obtain⟨a,b⟩:=e;simp only[A9];by_cases h:a=k;simp[h,B1];simp only[h,AR3,d];simp[B1,ATY h]
theorem FW(a:List (Int×β))(k:Int)(v:β)(j:Int):j∈B1 (BI a k v)↔j=k\/j∈B1 a:=by rw[Oh];grind
theorem KI{a:List (Int×β)}(h:(B1 a).Nodup)(k:Int)(v:β):(B1 (BI a k v)).Nodup:=by rw[Oh];grind
end
def dd:List Int->List Int->List Int
 |ks,[]=>ks
 |ks,x::xs=>dd (if x∈ks then ks else ks++[x]) xs
theorem AP2:∀ (xs a:List Int),(dd a xs).length<=a.length+xs.length/\((dd a xs).length=a.length+xs.length↔xs.Nodup/\∀ x∈xs,x∉a):=by
 intro xs;induction xs with
  |nil=>intro a;simp[dd]
  |cons x xs b=>intro a;rw[dd];by_cases h:x∈a;grind;obtain⟨c,d⟩:=b (a++[x]);grind
theorem AIm(xs:List Int):(dd [] xs).length=xs.length↔xs.Nodup:=by have:=(AP2 xs []).2;grind
theorem B5{α β ρ:Type}(g:β->α->α)(fin:α->ρ):∀ (xs:List β) (a:α),walk (fun x a=>.inl (g x a)) fin xs a=fin (xs.foldl (fun a x=>g x a) a):=by
 intro xs;induction xs with
  |nil=>intro a;rfl
  |cons x xs b=>intro a;rw[walk,ASg];grind
theorem TC{σ ρ β:Type}{step:σ->Option (σ⊕ρ)}(st:Nat->σ)(xs:List β)(P:β->Bool)(b:Nat->ρ)(rf:ρ)(c:xs.length<9223372036854775808)
  (h:∀ i x,i<xs.length->xs[i]? = some x->step (st i)=if P x then some (.inr (b i))else some (.inl (st (i+1)))) (f:step (st xs.length)=some (.inr rf)) :
  A6 step many (st 0)=some (if xs.any P then b (xs.findIdx P)else rf):=by
 have d:∀ (l:List β) (a:Nat),walk (fun x (a:Nat)=>if P x then .inr (b a)else .inl (a+1)) (fun _=>rf) l a=if l.any P then b (a+l.findIdx P)else rf:=by
  intro l;induction l with
   |nil=>intro a;rfl
   |cons x l g=>intro a;rw[walk,List.any_cons,List.findIdx_cons];grind
 have:=DY (step:=step) (fun i (a:Nat)=>st a) xs (fun x (a:Nat)=>if P x then .inr (b a)else .inl (a+1)) (fun _=>rf) (fun i a=>a=i) c
  (fun i x a hi j e=>by
   grind)
  (fun a e=>by grind) 0 rfl
 grind
theorem BD{α:Type}{xs:List α}{n:Nat}{x:α}(h:xs[n]? = some x):idx xs (n:Int)=some x:=by rw[fm,h]
theorem KV{α:Type}{xs:List α}{n:Nat}{x z:α}(h:xs[n]? = some x):A5 xs (A3 (n:Int)) z=x:=by rw[LS,ARn,h];rfl
theorem pf{α:Type}{xs:List α}{h:Nat}(a:h<=xs.length):D0 xs (0:Int) (h:Int)=some (xs.take h):=by have:=pe (xs:=xs) (l:=0) (ATX h) a;grind
theorem jm{α:Type}{xs:List α}{l:Nat}(a:l<=xs.length):D0 xs (l:Int) (A2 xs)=some (xs.drop l):=by have:=pe (xs:=xs) a (ARo _);rw[ATa]at this;exact this
def pos(xs:List Int)(t:Int):Int:=if t∈xs then((xs.findIdx (fun x=>decide (x=t)):Nat):Int)else -1
theorem ANd(xs:List Int)(t:Int):(xs.any fun x=>decide (x=t))=decide (t∈xs):=by grind
theorem AFu{xs:List Int}{t:Int}(h:t∈xs):∃ k:Nat,pos xs t=(k:Int)/\k<xs.length/\xs[k]? = some t/\xs=xs.take k++t::xs.drop (k+1)/\t∉xs.take k:=by
 have a:xs.findIdx (fun x=>decide (x=t))<xs.length:=ATm.2 ⟨t,h,by simp⟩;have b:xs[xs.findIdx (fun x=>decide (x=t))]'a=t:=by grind
 refine⟨_,by rw[pos,ARt h],a,by grind,?_,?_⟩;·conv=>lhs;rw[<- ASx (xs.findIdx (fun x=>decide (x=t))) xs,AST a,b]
 intro c;obtain⟨j,d,e⟩:=List.mem_take_iff_getElem.1 c;grind
theorem vn{xs:List Int}{t:Int}(h:t∉xs):pos xs t = -1:=by rw[pos,ARv h]
end Go.Pev.Pl
end
section
section
namespace Go.Pev.Pl
open Tok
def In(n v:Int):Prop:=1<=n/\n<=64/\0<=v/\v<n
instance (n v:Int):Decidable (In n v):=inferInstanceAs (Decidable (_/\_))
def Sz(n:Int):Prop:=1<=n/\n<=64
instance (n:Int):Decidable (Sz n):=inferInstanceAs (Decidable (_/\_))
theorem Kt(n:Int):OB (n,())=some (decide (Sz n),()):=by rw[bA,Ww];simp only[Bf];by_cases a:1<=n<;>by_cases b:n<=64<;>simp[Sz,a,b]
theorem dw(n v:Int):tin (n,v,())=some (decide (In n v),()):=by rw[AEO,AEP];simp only[Kt,Bf,BP];by_cases a:1<=n<;>by_cases b:n<=64<;>by_cases c:0<=v<;>simp[In,Sz,a,b,c]
def ARR(n v:Int):Int:=if In n v then v else -1
def Nt(n u v:Int):Int:=if In n u/\In n v/\u≠v then n*(u+1)+v else -1
theorem K6{n u:Int}(d:1<=n)(b:n<=64)(a:0<=u)(c:u<=64):0<=n*u/\n*u<=4096:=by refine⟨Int.mul_nonneg (by omega) a,?_⟩;have:=Int.mul_le_mul b c a (by omega);omega
theorem AEU(n u v:Int):AEV (n,u,v,())=some (Nt n u v,()):=by rw[vR,pc];simp only[dw,Nt,CG];by_cases a:u=v;simp[a];by_cases b:In n u;by_cases c:In n v;obtain⟨d,e,f,g⟩:=b;obtain⟨h,i,j,k⟩:=c;have l:=K6 (u:=u+1) d e (by omega) (by omega);rw[BK (n:=u+1) (by omega),BK (n:=n*(u+1)) (by omega),BK (n:=n*(u+1)+v) (by omega)];grind;grind;grind
def FT(n t:Int):Option Tok:=
 if In n t then some (.ver t)
 else if Sz n/\n<=t/\t<n*(n+1)/\t/n-1≠t % n then some (.arc (t/n-1) (t % n))
 else none
def pK:Option Tok->Int×Int×Bool×Bool×Unit
 |some (.ver v)=>(v,0,false,true,())
 |some (.arc u v)=>(u,v,true,true,())
 |none=>(0,0,false,false,())
def G_(n:Int):Tok->Int
 |.ver v=>v
 |.arc u v=>n*(u+1)+v
def okT(n:Int):Tok->Prop
 |.ver v=>In n v
 |.arc u v=>In n u/\In n v/\u≠v
theorem VC{n u v:Int}(c:In n u)(d:In n v):n<=n*(u+1)+v/\n*(u+1)+v<n*(n+1)/\(n*(u+1)+v)/n=u+1/\(n*(u+1)+v) % n=v:=by
 obtain⟨e,f,h,i⟩:=c;obtain⟨j,k,a,b⟩:=d;have l:n*(u+1)=n*u+n:=by grind
 have m:n*(n+1)=n*n+n:=by grind
 have o:=K6 (u:=u) e f (by omega) (by omega);have g:n*(u+1)<=n*n:=Int.mul_le_mul_of_nonneg_left (by omega) (by omega);have hd:(n*(u+1)+v)/n=u+1:=by rw[Int.add_comm,Int.add_mul_ediv_left _ _ (by omega),Int.ediv_eq_zero_of_lt a b];omega
 have p:(n*(u+1)+v) % n=v:=by rw[Int.add_comm,Int.add_mul_emod_self_left,Int.emod_eq_of_lt a b]
 omega
theorem xR{n t:Int}(c:Sz n)(f:n<=t)(g:t<n*(n+1)):In n (t/n-1)/\In n (t % n)/\n*(t/n-1+1)+t % n=t:=by obtain⟨a,b⟩:=c;have h:1<=t/n:=(Int.le_ediv_iff_mul_le (by omega)).2 (by omega);have i:t/n<n+1:=(Int.ediv_lt_iff_lt_mul (by omega)).2 (by grind);have d:=Int.emod_nonneg t (show n≠0 by omega);have e:=Int.emod_lt_of_pos t (show 0<n by omega);have j:=Int.mul_ediv_add_emod t n;refine⟨⟨a,b,by omega,by omega⟩,⟨a,b,d,e⟩,?_⟩;grind
theorem F6{n:Int}{t:Tok}(h:okT n t):FT n (G_ n t)=some t:=by
 cases t with
  |ver v=>simp only[okT]at h;simp[FT,G_,h]
  |arc u v=>
   obtain⟨a,c,d⟩:=h;obtain⟨e,f,g,i⟩:=VC a c;have b:¬ In n (n*(u+1)+v):=fun h=>by have:=h.2.2.2;omega
   have:u+1-1=u:=by omega
   simp only[FT,G_,b,AR3,g,i,this];rw[ARt ⟨⟨a.1,a.2.1⟩,e,f,d⟩]
theorem ACN{n x:Int}{t:Tok}(h:FT n x=some t):okT n t/\G_ n t=x:=by rw[FT]at h;split at h;cases h;exact⟨by assumption,rfl⟩;split at h;rename_i a;cases h;obtain⟨b,c,d⟩:=xR a.1 a.2.1 a.2.2.1;exact⟨⟨b,c,a.2.2.2⟩,d⟩;grind
theorem I4{n u v:Int}(h:okT n (.arc u v)):Nt n u v=G_ n (.arc u v):=by simp only[okT]at h;rw[Nt,ARt h];rfl
theorem Ql{n:Int}{a b:Tok}(c:okT n a)(d:okT n b)(h:G_ n a=G_ n b):a=b:=by have:=F6 c;rw[h,F6 d]at this;grind
theorem pH(n t:Int)(m:-9223372036854775808<=t/\t<=9223372036854775807):dg (n,t,())=some (pK (FT n t)):=by
 rw[az,Wv];simp only[Kt];by_cases f:Sz n;obtain⟨c,d⟩:=f;have o:=K6 (u:=n) c d (by omega) (by omega);have p:n*(n+1)=n*n+n:=by grind
 rw[BK (n:=n+1) (by omega),BK (n:=n*(n+1)) (by omega)];simp only[Sz,c,d,and_self,ARx,ARp,BP,Bf];by_cases i:t<0;have a:¬ In n t:=fun h=>by have:=h.2.2.1;omega
 have e:¬ n<=t:=by omega
 simp only[i,ARx,FT,a,AR3,e,AT4,and_false,pK];simp only[i,AR8];by_cases e:n*(n+1)<=t;have a:¬ In n t:=fun h=>by have:=h.2.2.2;omega
 have b:¬ t<n*(n+1):=by omega
 simp only[e,ARx,FT,a,AR3,b,AT4,and_false,pK];simp only[e,AR8];by_cases b:t<n;have hi:In n t:=⟨c,d,by omega,b⟩
 simp only[b,ARx,FT,hi,ASR,pK];have a:¬ In n t:=fun h=>b h.2.2.2;have k:t.tdiv n=t/n:=ATS (by omega);have l:t.tmod n=t % n:=Int.tmod_eq_emod_of_nonneg (by omega);obtain⟨j,q,r⟩:=xR (t:=t) ⟨c,d⟩ (by omega) (by omega);have s:=j.2.2.1;have v:=j.2.2.2;simp only[b,AR8,Xh,qk,qe,AFX];rw[ARv (by omega),ARv (by omega),k,l,vD (n:=t/n) (by omega)];simp only[];rw[BK (n:=t/n-1) (by omega),CG,FT,ARv a];by_cases g:t/n-1=t % n;rw[ARv (by omega),ARk g];rfl;rw[ARt ⟨⟨c,d⟩,by omega,by omega,g⟩,ARj g];rfl;have a:¬ In n t:=fun h=>f ⟨h.1,h.2.1⟩;simp only[f,AR8,ASF,FT,a,AR3,AT4,pK]
theorem s7(xs ys:List Int)(c:xs.length<9223372036854775808):Jp (xs,ys,())=some (decide (xs=ys),()):=by
 rw[cP,YF,ma];by_cases a:xs.length=ys.length;rw[ARk a];simp only[ARp];rcases ANu (step:=IC) (fun i=>(xs,ys,((i:Nat):Int),())) xs.length (fun i => !decide (xs.getD i 0=ys.getD i 0)) (fun _=>.inl (false,())) (.inr (.inl ())) c (fun i hi=>by rw[IC,A',A7,ARk hi];simp (disch:=omega) only[DZ (0:Int),A8,CG];grind) (by rw[IC,A',A7,ARj (by omega)])with⟨k,hk,hP,_,e⟩|⟨h,e⟩
 have b:A6 IC many (xs,ys,(0:Int),())=_:=e;rw[b];have:xs≠ys:=mC (0:Int) (j:=k) (by grind);grind;have b:A6 IC many (xs,ys,(0:Int),())=_:=e;rw[b];have:xs=ys:=Em (0:Int) a fun j d=>by grind
 grind;rw[ARj a];have:xs≠ys:=fun e=>a (by rw[e]);grind
def C2(n:Nat):List (List Int):=(List.range n).map fun(v:Nat)=>[(v:Int)]
theorem eI(n:Nat):C2 (n+1)=C2 n++[[(n:Int)]]:=by simp[C2,ASV]
theorem ju(n:Nat):(C2 n).length=n:=by simp[C2]
theorem pM(N:Nat)(b:N<=64)(c:Int):∀ (k i n:Nat),i+k=N->k<n->BC L0 n (c,(N:Int),C2 i,(N:Int),(i:Int),())=some (.inl (c,(N:Int),C2 N,())):=by
 intro k;induction k with
  |zero=>
   intro i n hi a;obtain⟨n,rfl⟩:∃ k,n=k+1:=⟨n-1,by omega⟩
   have:i=N:=by omega
   subst this;rw[BC,L0,A7,ARj (by omega)]
  |succ k d=>
   intro i n hi a;obtain⟨n,rfl⟩:∃ k,n=k+1:=⟨n-1,by omega⟩
   rw[BC,L0,A7,ARk (by omega)];simp only[A',ju,ARy,ASD];rw[Cw (by omega),A8 (by omega)];simp only[Ym,<- eI];grind
def UY(n:Int):Int×List (List Int)×Int×Unit:=if Sz n then(n,C2 n.toNat,0,())else(0,[],1,())
theorem yV(n:Int):vO (n,())=some (UY n):=by
 have c:4294967296<many:=by simp only[many];omega
 rw[jX,dt,UY];simp only[Kt];by_cases h:Sz n;obtain⟨d,f⟩:=h;obtain⟨N,rfl⟩:=ARq (show 0<=n by omega);have a:Sz (N:Int):=⟨by omega,by omega⟩
 have e:=pM N (by omega) 0 N 0 many (by omega) (by omega);have b:BC L0 many (0,(N:Int),[],(N:Int),(0:Int),())=_:=e;simp[a,Bj,b];grind
end Go.Pev.Pl
end
section
namespace Go.Pev.Pl
theorem Oo(xs:List Int)(t:Int)(a:xs.length<9223372036854775808):MU (xs,t,())=some (pos xs t,()):=by
 rw[R0,QF]
 have e:=TC (step:=Eg) (fun i=>(xs,t,A2 xs,(i:Int),())) xs (fun x=>decide (x=t)) (fun i=>.inl ((i:Int),())) (.inr (.inl ())) a
  (fun i x hi b=>by
   rw[Eg,A',A7,ARk hi]
   simp only[BD b,CG]
   by_cases h:x=t
   ·simp[h]
   ·simp only[h,ATY h,AR8];rw[A8 (by omega)];simp)
  (by rw[Eg,A',A7,ARj (by omega)])
 have c:A6 Eg many (xs,t,A2 xs,(0:Int),())=_:=e;rw[c,ANd,pos];grind
theorem Jy(xs:List Int)(t:Int)(a:xs.length<9223372036854775808):GW (xs,t,())=some (decide (t∈xs),()):=by rw[Qt,Mv];simp only[Oo xs t a,Bf];by_cases h:t∈xs;obtain⟨k,e,_⟩:=AFu h;rw[e];simp[h];rw[vn h];simp[h]
def Rt(xs:List Int):Prop:=xs.length<=1000/\(∀ x∈xs,0<=x/\x<=10000)/\xs.Nodup
instance (xs:List Int):Decidable (Rt xs):=inferInstanceAs (Decidable (_/\_/\_))
theorem nV(xs:List Int)(a:xs.length<9223372036854775808):Gn (xs,())=some (xs.any (fun x=>decide (x<0)||decide (10000<x)),()):=by
 rw[KZ,HQ,Li,Iq]
 have e:=TC (step:=D3) (fun i=>(xs,A2 xs,(i:Int),())) xs (fun x=>decide (x<0)||decide (10000<x)) (fun i=>.inl ((i:Int),())) (.inr (.inl ())) a
  (fun i x hi c=>by
   rw[D3,A',A7,ARk hi]
   simp only[BD c,BP]
   rw[A8 (by omega)]
   grind)
  (by rw[D3,A',A7,ARj (by omega)])
 have d:A6 D3 many (xs,A2 xs,(0:Int),())=_:=e;rw[d];generalize (xs.any fun x=>decide (x<0)||decide (10000<x))=b;cases b<;>simp[Bf]
theorem AGz(xs:List Int)(c:xs.length<9223372036854775808):once (xs,())=some (decide xs.Nodup,()):=by
 rw[wP,sJ]
 have e:=DY (step:=Pu) (fun i m=>(xs,m,xs,A2 xs,(i:Int),())) xs (fun x m=>.inl (BI m x (w64 (((A9 m x).getD (0:Int))+(1:Int))))) (fun m=>.inl (xs,m,())) (fun _ _=>True) c
  (fun i x m hi d _=>by
   refine⟨fun j a => ?_,fun r a=>by cases a⟩
   cases a
   rw[Pu,A',A7,ARk hi]
   simp only[BD d]
   rw[A8 (by omega)]
   simp)
  (fun m _=>by rw[Pu,A',A7,ARj (by omega)]) [] trivial
 have f:A6 Pu many (xs,([]:List (Int×Int)),xs,A2 xs,(0:Int),())=_:=e;rw[f,B5];have b:∀ (l:List Int) (m:List (Int×Int)),B1 (l.foldl (fun m x=>BI m x (w64 (((A9 m x).getD (0:Int))+(1:Int)))) m)=dd (B1 m) l:=by
  intro l;induction l with
   |nil=>intro m;rfl
   |cons x l g=>intro m;rw[ASg,g,Oh,dd]
 have h:=b xs [];generalize xs.foldl (fun m x=>BI m x (w64 (((A9 m x).getD (0:Int))+(1:Int)))) []=m at *;simp only[ma];have:m.length=(dd [] xs).length:=by rw[<- Rr,h];rfl
 rw[this];simp only[AIm]
theorem Kz(xs:List Int):MC (xs,())=some (decide (Rt xs),()):=by
 rw[bo,Xb,A',BP];by_cases d:xs.length<=1000;rw[ARj (by omega)];simp only[nV xs (by omega),AGz xs (by omega)];have a:(xs.any fun x=>decide (x<0)||decide (10000<x)) = !decide (∀ x∈xs,0<=x/\x<=10000):=by grind
 rw[a];by_cases b:∀ x∈xs,0<=x/\x<=10000;rw[ARk b];by_cases c:xs.Nodup;rw[ARk c,ARk (show Rt xs from⟨d,b,c⟩)];rfl;rw[ARj c,ARj (show ¬ Rt xs from fun h=>c h.2.2)];rfl;rw[ARj b,ARj (show ¬ Rt xs from fun h=>b h.2.1)];rfl;rw[ARk (by omega),ARj (show ¬ Rt xs from fun h=>d h.1)]
def rot(xs:List Int)(k:Nat):List Int:=xs.drop k++xs.take k
theorem ABu(n:Nat)(e:n<4294967296):w6 ((n:Int),())=some ([],()):=by
 have a:w64 ((n:Int)-w64 ((0:Int)-0))=(n:Int):=by rw[BK (n:=(0:Int)-0) (by omega),BK (by omega)];omega
 rw[mh,gG];simp only[a,BP];rw[ARj (by omega)];simp only[];by_cases h:0<n;rw[ARk (by omega)];have b:D0 ([]:List Unit) (0:Int) (0:Int)=some []:=by rw[UD];rfl
 have c:D0 (C5 (A3 (n:Int)) (0:Int)) (0:Int) (0:Int)=some []:=by rw[UD,jn,ARt (by omega)];simp
 have d:CC (n:Int)=true:=(Ei _).2 (by omega);simp only[b,c,d];rfl;grind
theorem JY{α:Type}{a:List (List α)}{i:Nat}{x:List α}(h:a[i]? = some x):(a.take (i+1)).flatten=(a.take i).flatten++x:=by rw[AUC,h];simp
theorem Lj{α:Type}(a:List (List α))(i:Nat):(a.take i).flatten.length<=a.flatten.length:=by
 conv=>rhs;rw[<- ASx i a,List.flatten_append,AR7]
 omega
theorem TL(b:List (List Int))(t:b.length<4294967296)(h:b.flatten.length<4294967296):LV (b,())=some (b.flatten,()):=by
 rw[Yy,SS]
 have e:=DY (step:=I1) (fun i (a:Nat)=>(b,(a:Int),b,A2 b,(i:Int),())) b (fun x a=>.inl (a+x.length)) (fun a=>.inl (b,(a:Int),())) (fun i a=>a=(b.take i).flatten.length) (by omega)
  (fun i x a hi d n=>by
   refine⟨fun o c => ?_,fun r c=>by cases c⟩
   cases c
   have j:=JY d
   have k:=Lj b (i+1)
   rw[j,AR7]at k
   rw[I1]
   simp only[A']
   rw[A7,ARk hi]
   simp only[BD d]
   rw[wrap_add (by omega),A8 (by omega),BP,ARj (by omega)]
   grind)
  (fun a _=>by rw[I1,A',A7,ARj (by omega)]) 0 rfl
 have p:A6 I1 many (b,(0:Int),b,A2 b,(0:Int),())=_:=e;rw[p,B5];have f:∀ (l:List (List Int)) (a:Nat),l.foldl (fun a x=>a+x.length) a=a+l.flatten.length:=by
  intro l;induction l with
   |nil=>simp
   |cons x l q=>grind
 rw[f,ASP];simp only[ABu _ h]
 have g:=DY (step:=I0) (fun i (a:List Int)=>(a,b,A2 b,(i:Int),())) b (fun x a=>.inl (a++x)) (fun a=>.inl (a,())) (fun i a=>a=(b.take i).flatten) (by omega)
  (fun i x a hi d n=>by
   refine⟨fun o c => ?_,fun r c=>by cases c⟩
   cases c
   have j:=JY d
   have k:=Lj b (i+1)
   rw[j,AR7]at k
   rw[I0]
   simp only[A']
   rw[A7,ARk hi]
   simp only[BD d]
   rw[A8 (by omega),Cw (by grind)]
   exact⟨rfl,by grind⟩)
  (fun a _=>by rw[I0,A',A7,ARj (by omega)]) [] rfl
 have s:A6 I0 many ([],b,A2 b,(0:Int),())=_:=g;rw[s,B5];have m:∀ (l:List (List Int)) (a:List Int),l.foldl (fun a x=>a++x) a=a++l.flatten:=by
  intro l;induction l with
   |nil=>simp
   |cons x l q=>grind
 grind
theorem Ws(xs:List Int)(k:Nat)(a:k<=xs.length)(b:xs.length<2147483648):Wu (xs,(k:Int),())=some (rot xs k,()):=by rw[ay,Wt];simp only[jm a,pf a];rw[TL _ (by simp) (by grind)];simp[rot]
def Cy(xs:List Int)(t:Int):List Int:=rot xs (xs.findIdx (fun x=>decide (x=t)))
def gK(xs:List Int)(t:Int):List Int×Bool×Unit:=if Rt xs/\t∈xs then(Cy xs t,true,())else([],false,())
theorem Xe{xs:List Int}{t:Int}(h:t∈xs):∃ a b,xs=a++t::b/\t∉a/\Cy xs t=t::b++a:=by
 obtain⟨k,e,g,i,c,d⟩:=AFu h;rw[pos,ARt h]at e;have f:xs.findIdx (fun x=>decide (x=t))=k:=by omega
 refine⟨_,_,c,d,?_⟩;rw[Cy,f,rot];grind
theorem zf(xs:List Int)(t:Int):kP (xs,t,())=some (gK xs t):=by
 rw[kO,ec,b7,Xn,gK];simp only[Kz];by_cases c:Rt xs;have n:=c.1;simp only[c,ARx,ARp,AT5];have e:A6 H6 many (xs,[],[t],A2 [t],(0:Int),())=some (.inl ([pos xs t],())):=by
  have g:=DY (step:=H6) (fun i (a:List Int)=>(xs,a,[t],A2 [t],(i:Int),())) [t] (fun x a=>.inl (a++[pos xs x])) (fun a=>.inl (a,())) (fun i a=>a.length=i) (by simp)
   (fun i x a hi d f=>by
    refine⟨fun o b => ?_,fun r b=>by cases b⟩
    cases b
    rw[H6,A',A7,ARk hi]
    simp only[BD d,Oo xs x (by omega)]
    simp only[ARy,ASD]at hi
    rw[A8 (by omega),Cw (by simp only[A',ARy,ASD];omega)]
    exact⟨rfl,by simp[f]⟩)
   (fun a _=>by rw[H6,A',A7,ARj (by omega)]) [] rfl
  have j:A6 H6 many (xs,[],[t],A2 [t],(0:Int),())=_:=g;rw[j];rfl
 rw[e];simp only[Jy [pos xs t] (-1) (by simp)];by_cases h:t∈xs;have p:xs.findIdx (fun x=>decide (x=t))<xs.length:=ATm.2 ⟨t,h,by simp⟩;rw[pos,ARt h,ARt h,Cy];generalize xs.findIdx (fun x=>decide (x=t))=k at *;rw[ARj (by simp)];have l:idx [(k:Int)] (0:Int)=some (k:Int):=by rw[QJ];rfl
 have m:A5 [(k:Int)] 0 (0:Int)=(k:Int):=rfl;simp only[ASF,ARp,l,m,Ws xs k (by omega) (by omega)];rw[vn h,ARv h];simp;grind
def MN:List Int->Int
 |[]=>0
 |x::xs=>xs.foldl (fun a y=>Cn a y) x
theorem tH:∀ (xs:List Int) (a:Int),(xs.foldl (fun a y=>Cn a y) a)<=a/\(∀ x∈xs,xs.foldl (fun a y=>Cn a y) a<=x)/\(xs.foldl (fun a y=>Cn a y) a=a\/xs.foldl (fun a y=>Cn a y) a∈xs):=by
 intro xs;induction xs with
  |nil=>simp
  |cons x xs b=>
   intro a;rw[ASg];obtain⟨c,d,e⟩:=b (Cn a x);have f:Cn a x<=a/\Cn a x<=x/\(Cn a x=a\/Cn a x=x):=by rw[Cn];omega
   grind
theorem GL{xs:List Int}(h:xs≠[]):MN xs∈xs/\∀ x∈xs,MN xs<=x:=by
 cases xs with
  |nil=>grind
  |cons x xs=>obtain⟨b,c,d⟩:=tH xs x;refine⟨?_,fun y a => ?_⟩;rcases d with h|h;rw[MN,h];simp;exact ASh _ h;rcases AR4.1 a with rfl|a;exact b;exact c y a
theorem ALu{xs:List Int}{m:Int}(a:m∈xs)(b:∀ x∈xs,m<=x):MN xs=m:=by obtain⟨c,d⟩:=GL (List.ne_nil_of_mem a);grind
theorem mF(xs:List Int)(h:xs≠[])(c:xs.length<9223372036854775808):AG4 (xs,())=some (MN xs,()):=by
 cases xs with
  |nil=>grind
  |cons x xs=>
   rw[wU,sN,A',BP,ARj (by grind)];have d:idx (x::xs) (0:Int)=some x:=by rw[QJ];rfl
   simp only[d];simp only[ARy]at c
   have e:=DY (step:=Pw) (fun i (a:Int)=>(x::xs,a,((i+1:Nat):Int),())) xs (fun y a=>.inl (Cn a y)) (fun a=>.inl (a,())) (fun _ _=>True) (by omega)
    (fun i y a hi f _=>by
     refine⟨fun j b => ?_,fun r b=>by cases b⟩
     cases b
     rw[Pw,A',A7,ARk (by grind)]
     simp only[BD (xs:=x::xs) (n:=i+1) (by simpa using f)]
     rw[A8 (by omega)]
     simp)
    (fun a _=>by rw[Pw,A',A7,ARj (by simp)]) x trivial
   have g:A6 Pw many (x::xs,x,(1:Int),())=_:=e;rw[g,B5];rfl
def plain(xs:List Int):List Int:=if Rt xs/\xs≠[]then Cy xs (MN xs)else []
theorem qX(xs:List Int):eZ (xs,())=some (plain xs,()):=by
 rw[bp,Xc,plain];simp only[Kz];by_cases a:Rt xs;have d:=a.1;simp only[a,ARx,ARp,AT5];by_cases h:xs=[]
 subst h;simp[A',CU];have e:0<xs.length:=ATu.2 h;rw[A',CG,ARj (by omega)];have b:=(GL h).1;have c:xs.findIdx (fun x=>decide (x=MN xs))<xs.length:=ATm.2 ⟨_,b,by simp⟩;simp only[mF xs h (by omega),Oo xs _ (show xs.length<9223372036854775808 by omega)];rw[pos,ARt b,ARt (by omega),Cy];simp only[Ws xs _ (Nat.le_of_lt c) (by omega)];grind
theorem Xl{xs:List Int}(c:Rt xs)(h:xs≠[]):∃ a b,xs=a++MN xs::b/\plain xs=MN xs::b++a:=by obtain⟨a,b,d,_,e⟩:=Xe (GL h).1;exact⟨a,b,d,by rw[plain,ARt ⟨c,h⟩,e]⟩
end Go.Pev.Pl
end
section
namespace Go.Pev.Pl
open Tok
def TI(n:Int)(xs:List Int):Prop:=∃ L,xs=L.map (G_ n)/\(∀ t∈L,okT n t)/\T L
noncomputable instance (n:Int) (xs:List Int):Decidable (TI n xs):=Classical.propDecidable _
abbrev ux:=List Int×List (Int×Int)×List (Int×Int)
abbrev AOI:=(Bool×Unit)⊕(List Int×List (Int×Int)×List (Int×Int)×Unit)⊕Unit
def goF(n x:Int)(s:ux):ux⊕AOI:=
 match FT n x with
 |none=>.inr (.inl (false,()))
 |some t=>match Tok.step (s.1,B1 s.2.1) t with
  |none=>.inr (.inl (false,()))
  |some a=>match t with
   |.ver v=>.inl (a.1,s.2.1,BI s.2.2 v (w64 (((A9 s.2.2 v).getD (0:Int))+(1:Int))))
   |.arc _ v=>.inl (a.1,if v∈B1 s.2.1 then s.2.1 else BI s.2.1 v 1,s.2.2)
def one(a:List (Int×Int)):Prop:=∀ k,(0<(A9 a k).getD (0:Int))↔k∈B1 a
theorem AAp{a:List (Int×Int)}(h:one a)(v:Int):one (BI a v 1):=by intro k;rw[Hg,FW];by_cases e:k=v;simp[e];simp only[e,AR3,false_or];exact h k
theorem ABx(n:Int)(xs:List Int)(i:Nat)(x:Int)(B:xs[i]? = some x)(hi:i<xs.length)(H:xs.length<4294967296)(g:-9223372036854775808<=x/\x<=9223372036854775807)
  (w:Int) (r:List Int) (b met:List (Int×Int)) (I:r.length<4294967295) (k:one b) (d:∀ y∈w::r,y∈B1 b) :
  NS (n,(w::r).reverse,b,met,xs,A2 xs,(i:Int),())=match goF n x (w::r,b,met)with
   |.inl s=>some (.inl (n,s.1.reverse,s.2.1,s.2.2,xs,A2 xs,((i+1:Nat):Int),()))
   |.inr y=>some (.inr y):=by
 have hd:A2 ((w::r).reverse)=((r.length+1:Nat):Int):=by simp[A']
 have l:w64 (((r.length+1:Nat):Int)-1)=(r.length:Int):=by rw[Br (by omega)];rfl
 have m:idx ((w::r).reverse) (r.length:Int)=some w:=by rw[fm];simp
 have o:A5 ((w::r).reverse) (A3 (r.length:Int)) (0:Int)=w:=by rw[LS];simp
 have q:∀ v:Int,fits (A2 ((w::r).reverse)+A2 [v])=true:=fun v=>Cw (by rw[hd,A'];grind);have J:∀ v:Int,Bk ((w::r).reverse) [v]=(v::w::r).reverse:=fun v=>by simp[Ym]
 rw[NS,A',A7,ARk hi];rw[A']at hd;simp only[BD B,pH n x g,goF];cases K:FT n x with
  |none=>rfl
  |some t=>
   cases t with
    |ver v=>simp only[pK,ARp,ASF,A',hd,l,m,o,CG,Tok.step];rw[A8 (by omega)];grind
    |arc u v=>
     simp only[pK,ARp,A',hd,l,m,o,CG,Tok.step];rw[A8 (by omega)];by_cases h:w=u;subst h;rw[ARk rfl];simp only[ARp];cases r with
      |nil=>
       have z:ilt (0:Int) ((([]:List Int).length:Nat):Int)=false:=by rw[BP];rfl
       simp only[z];rw[BP];have c:=k v;by_cases e:v∈B1 b;grind;rw[ARj (fun h=>e (c.1 h))];have f:=q v;rw[A',hd]at f;have C:(A9 b v).getD (0:Int)=0:=by rw[(S6 b v).2 e];rfl
       have D:w64 ((0:Int)+1)=1:=by rw[BK (by omega)];rfl
       rw[A']at f;grind
      |cons p r=>
       have z:ilt (0:Int) (((p::r).length:Nat):Int)=true:=by rw[BP,ARk (by simp)]
       have E:w64 ((((p::r).length:Nat):Int)-1)=(r.length:Int):=by rw[Br (by grind)];rfl
       have F:idx ((w::p::r).reverse) (r.length:Int)=some p:=by rw[fm];simp
       have G:A5 ((w::p::r).reverse) (A3 (r.length:Int)) (0:Int)=p:=by rw[LS];simp
       simp only[z,E,F,G];by_cases j:p=v;subst j;rw[ARk rfl];have A:p∈B1 b:=d p (by simp);have L:D0 ((w::p::r).reverse) (0:Int) (((p::r).length:Nat):Int)=some ((p::r).reverse):=by rw[pf (by simp)];grind
       have M:C1 (A3 (((p::r).reverse.length:Nat):Int)) ((w::p::r).reverse)=(p::r).reverse:=by rw[C1,SJ,List.reverse_cons (a:=w),List.take_left' rfl]
       grind;rw[ARj j];simp only[j,AR3];rw[BP];have c:=k v;by_cases e:v∈B1 b;grind;rw[ARj (fun h=>e (c.1 h))];have f:=q v;rw[A',hd]at f;have C:(A9 b v).getD (0:Int)=0:=by rw[(S6 b v).2 e];rfl
       have D:w64 ((0:Int)+1)=1:=by rw[BK (by omega)];rfl
       rw[A']at f;grind
     grind
end Go.Pev.Pl
end
section
namespace Go.Pev.Pl
open Tok
theorem Gk{a b:List Int}(c:a.Nodup)(h:∀ x∈a,x∈b):a.length<=b.length:=by
 induction a generalizing b with
  |nil=>simp
  |cons x a d=>
   obtain⟨e,f,rfl⟩:=AT3 (h x (by simp));rw[ASi]at c;have:=d (b:=e++f) c.2 fun y g=>by grind
   grind
theorem fN{a b:List Int}(c:a.Nodup)(h:∀ x∈a,x∈b)(e:b.length<=a.length):∀ x∈b,x∈a:=by
 intro x f;refine AT1 fun d => ?_;have:=Gk (a:=x::a) (b:=b) (ASi.2 ⟨d,c⟩) fun y g=>by grind
 grind
theorem XE{a c c2:List Int}(h:∀ x,x∈c↔x∈c2)(t:Tok):
  (Tok.step (a,c) t=none↔Tok.step (a,c2) t=none)/\∀ i j,Tok.step (a,c) t=some (i,j)->∃ f,Tok.step (a,c2) t=some (i,f)/\∀ x,x∈j↔x∈f:=by
 cases t with
  |ver v=>
   cases a with
    |nil=>simp[Tok.step]
    |cons w r=>by_cases e:w=v;simp only[Tok.step,e,ASR];grind;simp[Tok.step,e]
  |arc u v=>
   cases a with
    |nil=>simp[Tok.step]
    |cons w r=>
     by_cases e:w=u;cases r with
      |nil=>by_cases b:v∈c;simp[Tok.step,e,b,(h v).1 b];have d:v∉c2:=fun q=>b ((h v).2 q);simp only[Tok.step,e,ASR,b,d,AR3];grind
      |cons p r=>by_cases g:p=v;simp only[Tok.step,e,ASR,g];grind;by_cases b:v∈c;simp[Tok.step,e,g,b,(h v).1 b];have d:v∉c2:=fun q=>b ((h v).2 q);simp only[Tok.step,e,ASR,g,b,d,AR3];grind
     simp[Tok.step,e]
structure GI(s:ux):Prop where
 ne:s.1≠[]
 one:one s.2.1
 sub:∀ y∈s.1,y∈B1 s.2.1
 nc:(B1 s.2.1).Nodup
 nm:(B1 s.2.2).Nodup
theorem w9{n x:Int}{s a:ux}(hi:GI s)(h:goF n x s = .inl a):
  GI a/\a.1.length<=s.1.length+1/\∃ t d,FT n x=some t/\Tok.step (s.1,B1 s.2.1) t=some (a.1,d)/\(∀ x,x∈d↔x∈B1 a.2.1)/\(∀ y,y∈B1 a.2.2↔y∈B1 s.2.2\/Tok.ver y=t):=by
 rw[goF]at h;cases i:FT n x with
  |none=>grind
  |some t=>
   rw[i]at h;simp only at h;cases b:Tok.step (s.1,B1 s.2.1) t with
    |none=>grind
    |some q=>
     obtain⟨k,d⟩:=q;rw[b]at h;rcases F8 b with⟨v,r,rfl,c,e⟩|⟨u,v,r,rfl,c,e⟩|⟨u,v,r,rfl,c,l,g,e⟩
     cases h;cases e;refine⟨⟨hi.ne,hi.one,hi.sub,hi.nc,KI hi.nm _ _⟩,by simp,_,_,rfl,b,fun x=>Iff.rfl,fun y => ?_⟩;rw[FW];grind;cases h;cases e;simp only at c;have j:v∈B1 s.2.1:=hi.sub v (by grind);simp only[j,ASR];refine⟨⟨by simp,hi.one,fun y f=>hi.sub y (by grind),hi.nc,hi.nm⟩,by grind,_,_,rfl,b,fun x=>Iff.rfl,fun y=>by simp⟩;cases h;cases e;simp only at c g;simp only[g,AR3];refine⟨⟨by simp,AAp hi.one v,fun y f => ?_,KI hi.nc _ _,hi.nm⟩,by grind,_,_,rfl,b,fun x => ?_,fun y=>by simp⟩;rw[FW];rcases AR4.1 f with rfl|f;omega;exact .inr (hi.sub y (by grind));rw[FW,AR4]
def mi(s:ux):AOI:=.inr (.inl (s.1.reverse,s.2.1,s.2.2,()))
theorem ABv(n:Int):∀ (xs:List Int) (s:ux) (c:List Int),GI s->(∀ x,x∈c↔x∈B1 s.2.1) ->
  (∃ L d c',xs=L.map (G_ n)/\(∀ t∈L,okT n t)/\run (s.1,c) L=some (d.1,c')/\walk (goF n) mi xs s=mi d/\GI d/\(∀ x,x∈c'↔x∈B1 d.2.1)/\(∀ x,x∈B1 d.2.2↔x∈B1 s.2.2\/Tok.ver x∈L)) \/
  (walk (goF n) mi xs s = .inl (false,())/\∀ L,xs=L.map (G_ n)->(∀ t∈L,okT n t)->run (s.1,c) L=none):=by
 intro xs;induction xs with
  |nil=>intro s c hi i;exact .inl ⟨[],s,c,rfl,by simp,rfl,rfl,hi,i,by simp⟩
  |cons x xs q=>
   intro s c hi i;rw[walk];have u:∀ {t},FT n x=some t->Tok.step (s.1,B1 s.2.1) t=none->∀ L,x::xs=L.map (G_ n)->(∀ t∈L,okT n t)->run (s.1,c) L=none:=by
    intro t e k L b a;cases L with
     |nil=>cases b
     |cons t' L=>simp only[ASE,AR5]at b;have f:=F6 (a t' (by simp));rw[<- b.1,e]at f;cases f;rw[CQ,((XE i t).1).2 k];rfl
   cases j:goF n x s with
    |inr r=>
     simp only;have D:r = .inl (false,())/\∀ L,x::xs=L.map (G_ n)->(∀ t∈L,okT n t)->run (s.1,c) L=none:=by
      rw[goF]at j;cases e:FT n x with
       |none=>
        rw[e]at j;cases j;refine⟨rfl,fun L b a => ?_⟩;cases L with
         |nil=>cases b
         |cons t' L=>simp only[ASE,AR5]at b;have f:=F6 (a t' (by simp));grind
       |some t=>grind
     grind
    |inl d=>
     simp only;obtain⟨l,_,t,E,e,k,m,F⟩:=w9 hi j;obtain⟨o,g,h⟩:=(XE (c:=B1 s.2.1) (c2:=c) (fun x=>(i x).symm) t).2 _ _ k;obtain⟨G,H⟩:=ACN e;rcases q d o l (fun x=>(h x).symm.trans (m x))with⟨L,v,c2,p,w,z,A,B,C,I⟩|⟨p,w⟩
     ·refine .inl ⟨t::L,v,c2,by grind,?_,by rw[CQ,g];exact z,A,B,C,fun y => ?_⟩;all_goals grind
     refine .inr ⟨p,fun L b a => ?_⟩;cases L with
      |nil=>cases b
      |cons t' L=>simp only[ASE,AR5]at b;have f:=F6 (a t' (by simp));rw[<- b.1,e]at f;cases f;rw[CQ,g];grind
theorem qQ:∀ {l:List Tok} {s a:List Int×List Int},run s l=some a->a.1.getLast? = s.1.getLast? := by
 intro l;induction l with
  |nil=>intro s a h;cases h;rfl
  |cons t l c=>
   intro s a h;rw[CQ,ASn]at h;obtain⟨f,d,e⟩:=h;rw[c e];rcases F8 d with⟨v,r,rfl,b,rfl⟩|⟨u,v,r,rfl,b,rfl⟩|⟨u,v,r,rfl,b,g,i,rfl⟩
   all_goals grind
theorem AFC:∀ {l:List Tok} {s a:List Int×List Int},run s l=some a->Tok.Inv s->∀ x,Tok.ver x∈l->x∈a.2:=by
 intro l;induction l with
  |nil=>simp
  |cons t l g=>intro s a h hi x b;rw[CQ,ASn]at h;obtain⟨i,e,f⟩:=h;obtain⟨c,j,d⟩:=XD e hi;rcases AR4.1 b with rfl|b;have:=(eX f c).2.1;refine this x (c.2 x ?_);simp only[st]at d;exact List.mem_of_head? d;grind
theorem ABJ{n:Int}{L:List Tok}(h:(L.map (G_ n)).Nodup):L.Nodup:=by rw[List.Nodup,ATU]at h;exact h.imp fun h e=>h (by rw[e])
theorem xZ{n x:Int}{xs:List Int}(h:TI n (x::xs))(g:MN (x::xs)=x):In n x:=by
 obtain⟨L,a,d,i⟩:=h;obtain⟨v,r,j⟩:=i.nW;have f:Tok.ver v∈L:=(j.mem _).2 (by simp);have b:v∈x::xs:=by rw[a];exact ASC.2 ⟨_,f,rfl⟩
 have k:=(GL (xs:=x::xs) (by simp)).2 v b;rw[g]at k;have l:=(d _ f).2.2.2;cases L with
  |nil=>cases a
  |cons t L=>
   simp only[ASE,AR5]at a;have c:=d t (by simp);cases t with
    |ver w=>rw[a.1];exact c
    |arc p q=>have:=(VC c.1 c.2.1).1;have e:x=n*(p+1)+q:=a.1;omega
theorem AH2(n:Int)(xs:List Int)(h0:xs≠[])(hs:xs.length<2147483648)(hr:∀ x∈xs, -9223372036854775808<=x/\x<=9223372036854775807)(hn:xs.Nodup)(hm:∀ x,xs.head? = some x->MN xs=x):
  goes (n,xs,())=some (decide (TI n xs),()):=by
 cases xs with
  |nil=>grind
  |cons d g=>
   rw[w8,tB];have i0:idx (d::g) (0:Int)=some d:=by rw[QJ];rfl
   simp only[i0,dw];by_cases j:In n d;rw[ARk j];simp only[ARp];have W:GI ([d],BI [] d 1,[]):=by
    refine⟨by simp,fun k => ?_,fun y X => ?_,?_,by simp[B1]⟩;have:A9 (BI ([]:List (Int×Int)) d 1) k=if k=d then some 1 else none:=by rw[Hg];rfl
    rw[this];by_cases e:k=d<;>simp[e,BI,B1];simp at X;subst X;simp[BI,B1];simp[BI,B1]
   have e:=DY (step:=NS) (fun i (s:ux)=>(n,s.1.reverse,s.2.1,s.2.2,d::g,A2 (d::g),(i:Int),())) (d::g) (goF n) mi (fun i s=>GI s/\s.1.length<=i+1) (by omega)
    (fun i x s hi o ⟨E,Y⟩=>by
     obtain⟨H,z,I⟩:=s
     cases H with
     |nil=>exact absurd rfl E.ne
     |cons w r=>
      have J:=ABx n (d::g) i x o hi (by omega) (hr x (ARu o)) w r z I (by grind) E.one E.sub
      refine⟨fun f M => ?_,fun y M => ?_⟩
      ·rw[M]at J
       obtain⟨g1,g2,_⟩:=w9 E M
       grind
      grind)
    (fun s _=>by rw[NS,A',A7,ARj (by omega)];rfl) ([d],BI [] d 1,[]) ⟨W,by simp⟩
   have e':A6 NS many (n,[d],BI [] d 1,[],d::g,A2 (d::g),(0:Int),())=_:=e;rw[e'];have N:B1 (BI ([]:List (Int×Int)) d 1)=[d]:=rfl;rcases ABv n (d::g) ([d],BI [] d 1,[]) [d] W (fun x=>by rw[N])with⟨L,f,c',q,O,C,a4,P,Z,F⟩|⟨q,O⟩
   rw[a4];obtain⟨t,p,rfl⟩:∃ t p,L=t::p:=by cases L with
    |nil=>cases q
    |cons t p=>simp
   have D:t = .ver d:=by have u:=F6 (O t (by simp));simp only[ASE,AR5]at q;rw[<- q.1,FT,ARt j]at u;grind
   subst D;have Q:(Tok.ver d::p).Nodup:=ABJ (n:=n) (by grind);have l:=qQ C;have hvs:=AFC C (VH d);have hk:(B1 f.2.2).length<=(B1 f.2.1).length:=Gk P.nm fun x o=>by have:=(F x).1 o;simp only[B1,ATJ,AUI,false_or]at this;grind
   have m:(f.1.length=1/\(B1 f.2.2).length=(B1 f.2.1).length)↔TI n (d::g):=by
    constructor;rintro⟨R,l2⟩;obtain⟨w,hw⟩:=List.length_eq_one_iff.1 R;rw[hw]at l C;simp at l;subst l;refine⟨_,q,O,Tok.BO.toT ⟨w,p,c',rfl,C,fun x o => ?_⟩ Q⟩;have u:=fN P.nm (fun x o=>by have:=(F x).1 o;simp only[B1,ATJ,AUI,false_or]at this;grind) (by omega) x ((Z x).1 o)
    have:=(F x).1 u;simpa [B1]using this;rintro⟨K,v,k2,S⟩;have T:K=Tok.ver d::p:=by
     have:∀ (A B:List Tok),A.map (G_ n)=B.map (G_ n)->(∀ t∈A,okT n t)->(∀ t∈B,okT n t)->A=B:=by
      intro A;induction A with
       |nil=>simp
       |cons a A ih=>
        intro B h hA hB;cases B with
         |nil=>cases h
         |cons b B=>simp only[ASE,AR5]at h;rw[Ql (hA a (by simp)) (hB b (by simp)) h.1,ih B h.2 (fun t D=>hA t (by simp[D])) fun t D=>hB t (by simp[D])]
     grind
    subst T;obtain⟨r,l',c,U,G,q3⟩:=S.dp;cases U;rw[C]at G;cases V:f.1 with
     |nil=>grind
     |cons w r'=>rw[V]at G;cases G;refine⟨rfl,?_⟩;have:=Gk P.nc (b:=B1 f.2.2) fun x o=>(F x).2 (.inr (q3 x ((Z x).2 o)));omega
   simp only[mi,CG,A',List.length_reverse];rw[Rr,Rr]at m;by_cases R:f.1.length=1;rw[ARk (show(f.1.length:Int)=1 by omega)];simp only[R,AT5]at m;by_cases l2:f.2.2.length=f.2.1.length;grind;rw[ARj (show ¬ (f.2.2.length:Int)=(f.2.1.length:Int) by omega),ARj (fun h=>l2 (m.2 h))];grind;rw[q];have:¬ TI n (d::g):=by
    rintro⟨K,v,k2,S⟩;obtain⟨r,l',c,U,G,q3⟩:Tok.BO K:=by
     obtain⟨t,p,rfl⟩:∃ t p,K=t::p:=by cases K with
      |nil=>cases v
      |cons t p=>simp
     have u:=F6 (k2 t (by simp));simp only[ASE,AR5]at v;rw[<- v.1,FT,ARt j]at u;cases u;exact S.dp
    have hr0:r=d:=by subst U;simp only[ASE,AR5]at v;exact v.1.symm
    grind
   grind;rw[ARj j];have:¬ TI n (d::g):=fun h=>j (xZ h (hm d rfl));grind
end Go.Pev.Pl
end
end
section
namespace Go.Pev.Pl.Tok
theorem T.join{u v:Int}{a b:List Tok}(e:T (.ver u::a))(f:T (.ver v::b))(hd:∀ x,Tok.ver x∈Tok.ver u::a->Tok.ver x∉Tok.ver v::b):
  T (.ver u :: .arc u v::(.ver v::b ++ .arc v u::a)):=by
 obtain⟨_,g,c⟩:=e.facts;obtain⟨_,i,d⟩:=f.facts;have o:=e.nodup;have H:=f.nodup;obtain⟨_,_,I,q,l,J⟩:=e.dp;cases q;obtain⟨_,_,c2,r,s,z⟩:=f.dp;cases r;have A:u≠v:=by grind
 have j:∀ t,t∈Tok.ver u::a->t∉Tok.ver v::b:=fun t B C=>hd _ (g t B) (i t C);have K:Tok.arc u v∉Tok.ver u::a:=fun h=>hd v (c _ _ h).2.1 (by simp);have L:Tok.arc u v∉Tok.ver v::b:=fun h=>hd u (by simp) (d _ _ h).1;have M:Tok.arc v u∉Tok.ver u::a:=fun h=>hd v (c _ _ h).1 (by simp);have N:Tok.arc v u∉Tok.ver v::b:=fun h=>hd u (by simp) (d _ _ h).2.1;have k:(Tok.ver u :: .arc u v::(.ver v::b ++ .arc v u::a)).Nodup:=by rw[ASi]at o;have O:Tok.ver u∉Tok.ver v::b:=j _ (by simp);rw[ASi,ASi,List.nodup_append,ASi (a:=Tok.arc v u)];grind
 rw[CQ,G0,ASN]at l;obtain⟨D,m,E⟩:=H4 (Z:=(· = u)) (c2:=[v,u]) (low:=[u]) s (by simp) (fun y=>by simp) (fun p w n=>by grind) (by simp)
 obtain⟨F,P,Q⟩:=H4 (Z:=(·∈c2)) (c2:=D) (low:=[]) l (by simp) (fun y=>by rw[E];simp[or_comm]) (fun p w n G=>hd w (c _ _ (ASh _ n)).2.1 (z w G)) (by simp)
 refine BO.toT ⟨u,_,F,rfl,?_,fun x R => ?_⟩ k;rw[CQ,G0,ASN,CQ,Hv _ _ _ _ (by simp) (by grind),ASN,IU];rw[show([v]++[u]:List Int)=[v,u]from rfl]at m;rw[m,ASN,CQ,J',ASN];grind;grind
end Go.Pev.Pl.Tok
end
section
namespace Go.Pev
open Go.RowKit Go.ChangeShapes Go.WideShapes Go.ChangeAt
def OP(P:Program)(rd:TypeId->Option Ty):List Field->Nat->Option Ty
 |[],_=>some .unit
 |f::r,off=>match rd f.type,OP P rd r (off+P.cellsOf f.type)with
  |some a,some b=>match Nat.beq f.offset off&&Nat.beq (P.cellsOf f.type) a.size with
   |true=>some (.prod a b)
   |false=>none
  |_,_=>none
def GC(P:Program):Nat->TypeId->Option Ty
 |0,_=>none
 |n+1,t=>match P.underlying t with
  |some .bool=>some .bool
  |some (.int k)=>some (.int k)
  |some (.slice e)=>match GC P n e with
   |some a=>match Nat.beq (P.cellsOf e) a.size && !(Nat.beq a.size 0)with
    |true=>some (.slice a)
    |false=>none
   |none=>none
  |some (.array c e)=>match GC P n e with
   |some a=>match Nat.beq (P.cellsOf e) a.size&&Nat.beq (P.cellsOf t) (c*a.size)with
    |true=>some (.arr c a)
    |false=>none
   |none=>none
  |some (.struct fs)=>match OP P (GC P n) fs.toList 0 with
   |some a=>match Nat.beq (P.cellsOf t) a.size with
    |true=>some a
    |false=>none
   |none=>none
  |_=>none
def wfD:(t:Ty)->t.den->Prop
 |.unit,_=>True
 |.bool,_=>True
 |.int k,n=>k.min<=n/\n<=k.max
 |.slice e,xs=>List.length (α:=e.den) xs<=maxLen/\∀ x∈(xs:List e.den),wfD e x
 |.prod a b,d=>wfD a d.1/\wfD b d.2
 |.arr n e,xs=>List.length (α:=e.den) xs=n/\∀ x∈(xs:List e.den),wfD e x
 |.nul _,_=>True
 |.mapi _ _,_=>True
section
variable {H:Type} {enc:TypeId×Value->H} {P:Program} {w:World} {spare:Nat->Bool} {held:Bool}
abbrev below(w:World):Nat->Prop:=fun b=>b<w.heap.size
theorem AOJ{k:IntKind}{n:Int}(h:(Lit.int k n).wf=true):k.min<=n/\n<=k.max:=by simpa [Lit.wf]using h
theorem vi{α:Type}{R:α->List Value->Prop}{k:Nat}:∀ (m:Nat) (f:Nat->List Value),(∀ i,i<m->(f i).length=k/\∃ x,R x (f i))->∃ xs:List α,xs.length=m/\rows R xs ((List.range m).flatMap f)/\∀ x∈xs,∃ i,i<m/\R x (f i):=by
 intro m;induction m with
  |zero=>intro f _;exact⟨[],rfl,rfl,fun x a=>by cases a⟩
  |succ m b=>intro f h;obtain⟨xs,c,d,e⟩:=b f fun i hi=>h i (by omega);obtain⟨_,x,a⟩:=h m (by omega);refine⟨xs++[x],by simp[c],?_,fun y g => ?_⟩;rw[ASV,ATv];exact IV d (by simp;exact⟨f m,[],by simp,a,rfl⟩);grind
theorem AII{f:Nat->List Value}{k:Nat}:∀ (m:Nat),(∀ i,i<m->(f i).length=k)->∀ (j:Nat) (u:Value),((List.range m).flatMap f)[j]? = some u->∃ i r,i<m/\r<k/\j=i*k+r/\(f i)[r]? = some u:=by
 intro m;induction m with
  |zero=>simp
  |succ m d=>
   intro e j u h;rw[ASV,ATv]at h;have b:∀ a,a<=m->((List.range a).flatMap f).length=a*k:=by
    intro a g;induction a with
     |zero=>simp
     |succ a c=>rw[ASV,ATv,AR7,c (by omega)];grind
   rcases ATc j (m*k)with l|l;rw[ATH (by grind)]at h;obtain⟨i,r,n,o,p,q⟩:=d (fun i hi=>e i (by omega)) j u h;grind;rw[ASK (by grind),b m (ARo _)]at h;grind
theorem AJj(a:Addr)(i j:Nat):(a.add i).add j=a.add (i+j):=by unfold Addr.add;grind
theorem uf{α:Type}[Inhabited α]{n:Nat}{p:Nat->α->Prop}(h:∀ i,i<n->∃ x,p i x):∃ f:Nat->α,∀ i,i<n->p i (f i):=by classical refine⟨fun i=>if hi:i<n then Classical.choose (h i hi)else default,fun i hi => ?_⟩;grind
theorem qi{rd:TypeId->Option Ty}{cs:List Value}(i:∀ (f:Field) (a:Ty),rd f.type=some a->(P.cellsOf f.type=a.size)->(∃ y:Nat×(DataW H×List MemPlace),DataW.trod enc P w 0 spare held y.1 f.type ((cs.drop f.offset).take (P.cellsOf f.type))=some y.2)->∃ d:a.den,Dat w (below w) a d ((cs.drop f.offset).take (P.cellsOf f.type))/\wfD a d):
  ∀ (c:List Field) (off:Nat) (t:Ty),OP P rd c off=some t->off+t.size=cs.length->(∀ f∈c,∃ y:Nat×(DataW H×List MemPlace),DataW.trod enc P w 0 spare held y.1 f.type ((cs.drop f.offset).take (P.cellsOf f.type))=some y.2) ->
   ∃ d:t.den,Dat w (below w) t d (cs.drop off)/\wfD t d:=by
 intro c;induction c with
  |nil=>
   intro off t h j _;simp only[OP,ARi]at h;subst h;refine⟨(),?_,trivial⟩;show cs.drop off=[]
   simp[Ty.size]at j;grind
  |cons f r n=>intro off t h j m;simp only[OP]at h;split at h;rename_i a b o p;split at h;rename_i k;simp only[ARi]at h;subst h;simp only[ARl]at k;have x:=ASH k.1;have q:=ASH k.2;obtain⟨d,hd,s⟩:=i f a o q (m f (by simp));simp only[Ty.size]at j;obtain⟨e,u,l⟩:=n (off+P.cellsOf f.type) b p (by omega) fun g v=>m g (by simp[v]);refine⟨(d,e),⟨(cs.drop off).take (P.cellsOf f.type),cs.drop (off+P.cellsOf f.type),?_,?_,u⟩,s,l⟩;rw[<- ATE,ASx];grind;grind;grind
theorem AD5:∀ (n:Nat) (t:TypeId) (ty:Ty) (l:Nat) (cs:List Value) (x:DataW H×List MemPlace),GC P n t=some ty->DataW.trod enc P w 0 spare held l t cs=some x->∃ d:ty.den,Dat w (below w) ty d cs/\wfD ty d:=by
 intro n;induction n with
  |zero=>intro t ty l cs x h;cases h
  |succ n ih=>
   intro t ty l cs x h g;simp only[GC]at h;split at h;rename_i o;simp only[ARi]at h;subst h;obtain⟨b,rfl,_⟩:=DataW.trod_bool o g;exact⟨b,rfl,trivial⟩;rename_i k o;simp only[ARi]at h;subst h;obtain⟨m,rfl,_,V⟩:=DataW.trod_int o g;exact⟨m,rfl,AOJ V⟩;rename_i e o;split at h;rename_i a J;split at h;rename_i q;simp only[ARi]at h;subst h;rw[ARl]at q;have W:a.size≠0:=fun h0=>by simp_all
   have q:=ASH q.1;rcases DataW.trod_slice o g with⟨rfl,_⟩|⟨ad,len,cap,K,X,m,rfl,rfl,_,_,hle,Y,Z,L,_⟩
   exact⟨[],⟨none,0,rfl,ARo _,fun D=>absurd rfl D⟩,ATX _,fun x g=>by cases g⟩;-- z element
   have z:∀ i,i<len->∃ s,w.cells? 0 (ad.add (i*P.cellsOf e)) (P.cellsOf e)=some s/\∃ d:a.den,Dat w (below w) a d s/\wfD a d:=by intro i hi;have v:=L i hi;rw[ARs (by omega),ASn]at v;grind
   obtain⟨f,C⟩:=uf (α:=List Value) (p:=fun i s=>w.cells? 0 (ad.add (i*P.cellsOf e)) (P.cellsOf e)=some s/\∃ d:a.den,Dat w (below w) a d s/\wfD a d) z;have E:∀ i,i<len->(f i).length=a.size:=by intro i hi;obtain⟨_,G,_⟩:=World.cells?_some (C i hi).1;omega
   obtain⟨xs,v,I,h3⟩:=vi (R:=fun(d:a.den) cs=>Dat w (below w) a d cs/\wfD a d) (k:=a.size) len f fun i hi=>⟨E i hi,(C i hi).2⟩
   refine⟨xs,⟨some ad,cap,by rw[v],by omega,fun D=>⟨ad,(List.range len).flatMap f,rfl,?_,B6 (fun x _ cs g=>g.1) I,fun j u o => ?_⟩⟩,by omega,fun x g => ?_⟩;-- the block is there
   have M:0<len:=by grind
   have N:=World.cells?_block (C 0 M).1 (by omega);rw[ATn]at N;have e0:ad.add 0=ad:=by simp[Addr.add]
   grind;obtain⟨i,r,hi,hr,rfl,O⟩:=AII len E j u o;obtain⟨_,_,A⟩:=World.cells?_some (C i hi).1;have:=A r (by omega);rw[O]at this;rw[<- this,q,AJj];grind;grind;grind;rename_i c e o;split at h;rename_i a J;split at h;rename_i q;simp only[ARi]at h;subst h;rw[ARl]at q;have hc1:=ASH q.1;have Q:=ASH q.2;obtain⟨xs,m,rfl,_,G,S,F⟩:=DataW.trod_array o g;rw[Q]at G;obtain⟨ys,v,I,h3⟩:=vi (R:=fun(d:a.den) cs=>Dat w (below w) a d cs/\wfD a d) (k:=a.size) c (fun i=>(cs.drop (i*a.size)).take a.size) fun i hi=>by
    have hi1:i*a.size+a.size<=c*a.size:=by have:=ASS a.size (show i+1<=c from hi);grind
    grind
   have B:∀ k,k<=c->(List.range k).flatMap (fun i=>(cs.drop (i*a.size)).take a.size)=cs.take (k*a.size):=by
    intro k;induction k with
     |zero=>simp
     |succ k T=>intro hk;rw[ASV,ATv,T (by omega),ASp,ATk,List.take_add];simp
   rw[B c (ARo _),<- G,ATa]at I;exact⟨ys,⟨v,B6 (fun x _ cs g=>g.1) I⟩,v,fun x g=>by grind⟩;grind;grind;rename_i fs o;split at h;rename_i a J;split at h;rename_i q;simp only[ARi]at h;subst h;have q:=ASH q;obtain⟨xs,m,rfl,_,G,S,F⟩:=DataW.trod_struct o g;obtain⟨d,hd,V⟩:=qi (enc:=enc) (w:=w) (spare:=spare) (held:=held) (cs:=cs) (fun f b N _ ⟨y,hy⟩=>ih f.type b y.1 _ y.2 N hy) fs.toList 0 _ J (by omega) (fun f C=>by
    obtain⟨i,hi⟩:=List.getElem?_of_mem C;have v:=F i f (by grind);have U:i<xs.length:=by grind
    rw[ARs U]at v;exact⟨(m,xs[i]),v⟩)
   grind;grind;grind;grind
theorem sK{r:Reach}{c:Nat}{t:TypeId}{v:Value}(a:Value.okWide P w r c t v)(e:∀ d,P.underlying t=some d->(match d with|.bool|.int _|.slice _=>true|_=>false)=true){ty:Ty}{n:Nat}(h:GC P (n+1) t=some ty):v.cells.toList=[v]:=by
 simp only[Value.okWide]at a;have b:∃ d,P.underlying t=some d:=by
  cases b:P.underlying t with
   |none=>simp only[GC,b]at h;cases h
   |some d=>simp
 obtain⟨d,b⟩:=b;have:=e d b;rw[b]at a;cases d<;>simp only[AR0]at this<;>simp only[Cell.okWide,b]at a<;>cases v<;>first|rfl|(simp_all [Cell.ok])
theorem Wy{r:Reach}{u:Nat}{t:TypeId}{v:Value}{x:List MemPlace}{dd:DataW H}(b:Value.okWide P w r u t v)(hd:DataW.Trod enc P w 0 spare held t v dd x){ty:Ty}{n:Nat}(h:GC P (n+1) t=some ty):
  ∃ d:ty.den,CX w (below w) ty d v/\wfD ty d:=by
 obtain⟨l,y⟩:=hd;obtain⟨d,p,z⟩:=AD5 (n+1) t ty l _ _ h y;refine⟨d,?_,z⟩;have one:(∀ d,P.underlying t=some d->(match d with|.bool|.int _|.slice _=>true|_=>false)=true)->ty.isAgg=false->CX w (below w) ty d v:=by intro A q;unfold CX;rw[q];rw[sK b A h]at p;exact p
 have m:(∃ cs,v = .agg cs)->ty.isAgg=true->CX w (below w) ty d v:=by rintro⟨cs,rfl⟩ q;unfold CX;rw[q];exact⟨cs,rfl,p⟩
 have j:∃ d,P.underlying t=some d:=by
  cases j:P.underlying t with
   |none=>simp only[GC,j]at h;cases h
   |some d=>simp
 obtain⟨C,j⟩:=j;simp only[GC,j]at h;split at h;rename_i g;cases g;simp only[ARi]at h;subst h;exact one (fun d hd=>by grind) rfl;rename_i k g;cases g;simp only[ARi]at h;subst h;exact one (fun d hd=>by grind) rfl;rename_i e g;cases g;split at h;split at h;simp only[ARi]at h;subst h;exact one (fun d hd=>by grind) rfl;grind;grind;rename_i c e g;cases g;have s:∃ cs,v = .agg cs:=by simp only[Value.okWide,j]at b;grind
 split at h;split at h;simp only[ARi]at h;subst h;exact m s rfl;grind;grind;rename_i B g;cases g;have s:∃ cs,v = .agg cs:=by simp only[Value.okWide,j]at b;grind
 split at h;rename_i a i;split at h;simp only[ARi]at h;subst h;refine m s ?_;cases o:B.toList with
  |nil=>rw[o]at i;simp only[OP,ARi]at i;subst i;rfl
  |cons f r=>rw[o]at i;simp only[OP]at i;split at i;split at i;simp only[ARi]at i;subst i;rfl;grind;grind
 grind;grind;grind
theorem aU{g:FuncId}{s:Spec}(n:BQ P g s){args:List AV}{b:Bool}{e:Eff}(d:s (AV×Eff) args [] [] 0 (fun v e=>some (v,e))=some (.data .bool b,e)){a:List Value}
  (q:BA w (below w) (fun _=>none) [] args a) (f:ADc w (below w):=by intro p h;simp[gH]at h):Calls P g a.toArray w fun l w'=>l = .returned (.bool b)/\Below w.heap.size w w':=by
 obtain⟨v,z,m,_,_,r⟩:=n _ args [] [] 0 _ _ d;simp only[ARi,ARw]at m;obtain⟨rfl,rfl⟩:=m;have hi:HI w (below w) (fun _=>none) [] []:=⟨fun id o h=>by simp at h,fun i T e t xs ver out h=>by simp at h,fun i T e t xs ver out h=>by simp at h,fun i j b c b' c' _ _ _ h=>(nomatch h),fun i b c _ h=>(nomatch h),fun i T t xs b c h=>by simp at h,fun b h=>h,f,rfl⟩
 refine(r w _ _ a hi q).mono ?_;rintro l w' ⟨u,rfl,A,B,⟨k,_⟩,x⟩;have y:u = .bool b:=De x;subst y;exact⟨rfl,k.os,k.tape,k.output,k.size,fun i hi=>k.keep i hi fun j c _ h=>by cases h⟩
end
section
variable {H:Type} {enc:TypeId×Value->H} {P:Program}
theorem Zo{f:Func}{s:ChangeSpec}{c k d l:Bool}{W n:World}{args:Array Value}{v:Value}{o q:List (DataW H)}{a pa pv:List MemPlace}
  (x:DataW.Whole enc P f.params.toList s.vars c W args.toList o q a)
  (h:∀ (b:Nat) (m:Nat->Bool) (hd:Bool),DataW.TrodAll enc P n b m hd f.resultTypes.toList (v.resultList f.resultTypes.size) (s.fn H (o++q)).results [])
  (e:∀ m:Nat->Bool,(∀ p∈a,m p.block=true)->DataW.TrodAll enc P n 0 m true f.params.toList args.toList (s.fn H (o++q)).args pa)
  (g:∀ m:Nat->Bool,(∀ p∈a,m p.block=true)->DataW.TrodVars enc P n m s.vars (s.fn H (o++q)).vars pv)
  (B:a=pa++pv) (A:Below W.heap.size W n)
  (y:∀ (j:Nat) (t:TypeId) (r:Value),f.resultTypes[j]? = some t->(v.resultList f.resultTypes.size)[j]? = some r->Value.okWide P n .any 0 t r) :
  s.post enc P f c k d l W args v n:=by
 have z:∀ p∈a,p.block<W.heap.size:=fun p u=>x.lt p u;have i:∀ p∈a,(fun b=>decide (b<W.heap.size)) p.block=true:=fun p u=>by grind
 refine⟨o,q,a,[],pa,pv,x,h _ _ _,e _ i,g _ i,World.keptBut_mono (fun p u=>⟨u,?_⟩) (A.frame (·∈a)),fun _ => ?_⟩
 grind
 ·obtain⟨_,_,_,_,_,C,D⟩:=x;refine⟨y,_,_,([]++pa)++pv,⟨[]++pa,pv,trodAll_append (e _ (fun _ _=>rfl)) (h _ _ _),g _ (fun _ _=>rfl),rfl,?_,?_⟩,?_⟩;intro b off u;have w:MemPlace.cell b off∈a:=by grind
  rw[A.frozen (z _ w)];exact C b off w;all_goals grind
theorem OC{t:TypeId}(f:laidOutB P=true)(g:P.readableRec t=true)(a:t<P.types.size){W e:World}{v:Value}{d:DataW H}{b:List MemPlace}
  (h:DataW.Trod enc P W 0 (fun _=>true) true t v d b) (i:Below W.heap.size W e) (c:∀ x∈b,x.block<W.heap.size) {sp:Nat->Bool} (j:∀ x∈b,sp x.block=true) :
  DataW.Trod enc P e 0 sp true t v d b:=
 WideElems.Trod_stays f g a h (fun x k=>i.same (c x k)) j
end
end Go.Pev
end
section
section
namespace Go.Pev.Pl
open Tok
theorem UL{a b:Nat}(c:0<b):rem? (a:Int) (b:Int)=some ((a % b:Nat):Int):=by rw[qe,AFX,ARv (by omega)];rfl
theorem AG3{a b:Nat}(h:a<2*b):a % b=if a<b then a else a-b:=by split;exact AR9 (by omega);rw[AT6 (by omega),AR9 (by omega)]
theorem ML{n u v:Int}(h:okT n (.arc u v)):okT n (.arc v u):=⟨h.2.1,h.1,ATY h.2.2⟩
end Go.Pev.Pl
end
section
namespace Go.Pev.Pl
open Tok
theorem AQH(n t:Int):TI n [t]↔In n t:=by
 constructor;rintro⟨L,a,c,d⟩;rcases d.leaf with⟨v,e⟩|⟨x,v,r,f⟩
 subst e;simp only[ASE,ATJ,AR5,ATq]at a;rw[a];exact c (.ver v) (by simp);have g:=f.length;have i:=ASo List.length a;grind;intro h;exact⟨[.ver t],rfl,fun x b=>by simp at b;subst b;exact h,T.one t⟩
theorem AQI(n:Int):¬ TI n []:=by rintro⟨L,b,c,a⟩;have:=a.facts.1;simp_all
end Go.Pev.Pl
end
section
namespace Go.Pev.Pl
open Tok
def RG(n:Int)(xs:List Int):Prop:=Rt xs/\xs≠[]/\MN xs=xs.headD 0/\TI n xs
def okR(n:Int):List Int->Int->List (List Int)->Prop
 |_,_,[]=>True
 |seen,last,l::ls=>RG n l/\last<l.headD 0/\(∀ t∈l,t<n->t∉seen)/\okR n (seen++l.filter (fun t=>decide (t<n))) (l.headD 0) ls
def RF(n:Int)(a:List (List Int)):Prop:=Sz n/\okR n [] (-1) a/\∀ v,0<=v->v<n->v∈a.flatten
noncomputable instance (n:Int) (rings:List (List Int)):Decidable (RF n rings):=Classical.propDecidable _
noncomputable instance (n:Int) (xs:List Int):Decidable (RG n xs):=Classical.propDecidable _
def MI(n:Int)(b:List (Int×Int))(a:List Int):Prop:=∀ t,t<n->(A9 b t).getD (0:Int)=if t∈a then 1 else 0
theorem dk(n:Int)(l:List Int)(S:l.length<1073741824)(A:List (List Int))(B:Int)(C:List (List Int))(D E:Int)(F:List Int)(G H:Int)(f:Bool)(g:List Int)(h i:Bool)(j:List Int)(o:Int)(p:List Int)(q:Int)(r:Bool)(s:Int)(u:List Int)(v w:Bool):
  ∀ (m k cnt:Nat) (b:List (Int×Int)) (a:List Int),k+m=l.length->MI n b a->(l.drop k).Nodup->m<cnt ->
  ((∀ t∈l.drop k,t<n->t∉a)/\∃ d,BC Hq cnt (n,A,b,B,C,D,E,F,G,H,f,g,h,i,j,o,p,q,r,s,u,v,w,l,(l.length:Int),(k:Int),()) =
    some (.inr (.inl (n,A,d,B,C,D,E,F,G,H,f,g,h,i,j,o,p,q,r,s,u,v,w,())))/\MI n d (a++(l.drop k).filter (fun t=>decide (t<n)))) \/
  (¬ (∀ t∈l.drop k,t<n->t∉a)/\BC Hq cnt (n,A,b,B,C,D,E,F,G,H,f,g,h,i,j,o,p,q,r,s,u,v,w,l,(l.length:Int),(k:Int),())=some (.inl (false,()))):=by
 intro m;induction m with
  |zero=>
   intro k cnt b a O z I P;obtain⟨cnt,rfl⟩:∃ c,cnt=c+1:=⟨cnt-1,by omega⟩
   have e:l.drop k=[]:=ATO (by omega);rw[e];refine .inl ⟨by simp,b,?_,by grind⟩;rw[BC,Hq,A7,ARj (by omega)]
  |succ m T=>
   intro k cnt b a O z I P;obtain⟨cnt,rfl⟩:∃ c,cnt=c+1:=⟨cnt-1,by omega⟩
   have x:k<l.length:=by omega
   have e:l.drop k=l.getD k 0::l.drop (k+1):=by simp_all
   rw[BC,Hq,A7,ARk x];simp only[DZ (0:Int) x];rw[e]at I |-;generalize l.getD k 0=t at *;rw[ASi]at I;rw[A8 (by omega),BP];by_cases J:t<n;rw[ARk J];have K:=z t J;simp only[K,BP];by_cases Q:t∈a;grind;rw[ARv Q,ARj (by omega)];simp only[];have R:w64 ((0:Int)+1)=1:=by rw[BK (by omega)];rfl
   rw[R];have L:MI n (BI b t 1) (a++[t]):=by intro y M;rw[Hg];by_cases N:y=t;simp[N];simp only[N,AR3,AR6,AS2,or_false];exact z y M
   grind;rw[ARj J];simp only[];have L:MI n (BI b t (w64 (((A9 b t).getD (0:Int))+(1:Int)))) a:=by intro y M;rw[Hg,ARv (by omega)];exact z y M
   grind
theorem W0(n:Int)(a:List (List Int))(D:a.length<1073741824)(J:∀ l∈a,l.length<9223372036854775808/\∀ x∈l, -9223372036854775808<=x/\x<=9223372036854775807):
  ∀ (k:List (List Int)) (i cnt:Nat) (f:List (Int×Int)) (b:Int) (d:List Int),a.drop i=k->i<=a.length->MI n f d->k.length<cnt ->
  (okR n d b k/\∃ g j,BC Fz cnt (n,a,f,b,a,(a.length:Int),(i:Int),())=some (.inr (.inl (n,a,g,())))/\MI n g j/\∀ v,v∈j↔v∈d\/(v<n/\v∈k.flatten)) \/
  (¬ okR n d b k/\BC Fz cnt (n,a,f,b,a,(a.length:Int),(i:Int),())=some (.inl (false,()))):=by
 have u:4294967296<many:=by simp only[many];omega
 intro k;induction k with
  |nil=>
   intro i cnt f b d hd hi w E;obtain⟨cnt,rfl⟩:∃ c,cnt=c+1:=⟨cnt-1,by omega⟩
   have:a.length<=i:=by grind
   refine .inl ⟨trivial,f,d,?_,w,by simp⟩;rw[BC,Fz,A7,ARj (by omega)]
  |cons l k K=>
   intro i cnt f b d hd hi w E;simp only[ARy]at E;obtain⟨cnt,rfl⟩:∃ c,cnt=c+1:=⟨cnt-1,by omega⟩
   have o:i<a.length:=by grind
   rw[AST o]at hd;simp only[AR5]at hd;obtain⟨L,z⟩:=hd;have F:a[i]? = some l:=by grind
   have p:l∈a:=ARu F;obtain⟨G,A⟩:=J l p;rw[BC,Fz,A7,ARk o,okR];simp only[BD F,CG];cases l with
    |nil=>rw[A',ARk (by simp)];exact .inr ⟨fun h=>h.1.2.1 rfl,rfl⟩
    |cons x e=>
     rw[A',ARj (by grind)];have M:idx (x::e) (0:Int)=some x:=by rw[QJ];rfl
     simp only[M,AT0,Bf];by_cases N:x<=b;grind
     ·rw[ARj N];simp only[Kz];by_cases c2:Rt (x::e)
      ·rw[ARk c2];have G:(x::e).length<1073741824:=by have:=c2.1;omega
       simp only[ARp,mF (x::e) (by simp) (by omega)];by_cases r:MN (x::e)=x
       ·rw[ARk r];simp only[ARp];rw[AH2 n (x::e) (by simp) (by omega) A c2.2.2 (fun y Q=>by grind)];by_cases s:TI n (x::e)
        ·rw[ARk s];simp only[ARp,Bj];have B:RG n (x::e):=⟨c2,by simp,r,s⟩
         rcases dk n (x::e) G a x a (a.length:Int) (i:Int) (x::e) x b false (x::e) true false (x::e) (MN (x::e)) (x::e) x false n (x::e) true false (x::e).length 0 many f d (by omega) w (by rw[List.drop_zero];exact c2.2.2) (by omega)with⟨q1,g,q2,q3⟩|⟨q1,q2⟩
         ·rw[List.drop_zero]at q1 q3;have C:BC Hq many (n,a,f,x,a,(a.length:Int),(i:Int),x::e,x,b,false,x::e,true,false,x::e,MN (x::e),x::e,x,false,n,x::e,true,false,x::e,((x::e).length:Int),(0:Int),())=_:=q2;simp only[C,A8 (show i+1<9223372036854775808 by omega)];rcases K (i+1) cnt g x (d++(x::e).filter (fun t=>decide (t<n))) z (by omega) q3 (by omega)with⟨H,q,m,I,O,P⟩|⟨H,I⟩
          ·refine .inl ⟨⟨B,by omega,q1,H⟩,q,m,I,O,fun v => ?_⟩;rw[P,AR6,AS8,AUA,AR6];simp only[ARm];constructor;all_goals grind
          grind
         grind
        rw[ARj s];exact .inr ⟨fun h=>s h.1.2.2.2,rfl⟩
       rw[ARj r];exact .inr ⟨fun h=>r h.1.2.2.1,rfl⟩
      rw[ARj c2];exact .inr ⟨fun h=>c2 h.1.1,rfl⟩
theorem Wz(n:Int)(a:List (List Int))(g:a.length<1073741824)(r:∀ l∈a,l.length<9223372036854775808/\∀ x∈l, -9223372036854775808<=x/\x<=9223372036854775807):
  Ji ((n,(a,())),())=some (decide (RF n a),()):=by
 have m:4294967296<many:=by simp only[many];omega
 rw[bB,W1];simp only[Kt];by_cases j:Sz n;rw[ARk j];simp only[ARp,Bj,A'];rcases W0 n a g r a 0 many [] (-1) [] (by simp) (by omega) (fun t _=>by simp[A9]) (by omega)with⟨o,c,b,p,s,A⟩|⟨o,p⟩
 have d:BC Fz many (n,a,[], -1,a,(a.length:Int),(0:Int),())=_:=p;simp only[d];obtain⟨u,w⟩:=j;obtain⟨N,rfl⟩:=ARq (show 0<=n by omega)
 have e:=ANu (step:=Hp) (fun i=>(c,(N:Int),(i:Int),())) N (fun i=>decide ((i:Int)∉b)) (fun _=>.inl (false,())) (.inr (.inl ())) (by omega)
  (fun i hi=>by
   have:=s (i:Int) (by omega)
   rw[Hp,A7,ARk hi]
   simp only[this,CG]
   by_cases h:(i:Int)∈b
   ·simp only[h,ASR,not_true]
    rw[A8 (by omega)];simp
   grind)
  (by rw[Hp,A7,ARj (by omega)])
 rw[Bj]at e;have B:∀ v,v∈b↔(v<(N:Int)/\v∈a.flatten):=fun v=>by grind
 rcases e with⟨k,y,C,_,q⟩|⟨y,q⟩
 have f:BC Hp many (c,(N:Int),(0:Int),())=_:=q;rw[f,ARj];rintro⟨_,_,h⟩;grind;have f:BC Hp many (c,(N:Int),(0:Int),())=_:=q;rw[f,ARk];refine⟨⟨u,w⟩,o,fun v z D => ?_⟩;obtain⟨k,rfl⟩:=ARq z;grind;have d:BC Fz many (n,a,[], -1,a,(a.length:Int),(0:Int),())=_:=p;simp only[d];rw[ARj (fun h=>o h.2.1)];rw[ARj j,ARj (fun h=>j h.1)];rfl
end Go.Pev.Pl
end
section
namespace Go.Pev.Pl
open Tok
theorem LY{n:Int}{l:List Int}(h:RG n l):In n (l.headD 0):=by
 obtain⟨c,d,a,b⟩:=h;cases l with
  |nil=>grind
  |cons x l=>exact xZ b a
theorem ALq{n:Int}(f:1<=n):∀ {c:List (List Int)} {b:List Int} {a:Int},okR n b a c->-1<=a->a<n->(c.length:Int)<=n-1-a:=by
 intro c;induction c with
  |nil=>grind
  |cons l c g=>intro b a ⟨d,h,i,j⟩ k e;have m:=(LY d).2.2;grind
end Go.Pev.Pl
end
section
namespace Go.Pev.Pl
open Tok
def hd(l:List Int):Int:=l.headD 0
def Dis(n:Int)(a b:List Int):Prop:=∀ t∈a,t<n->t∉b
structure FR(n:Int)(rings:List (List Int)):Prop where
 sz:Sz n
 rg:∀ l∈rings,RG n l
 up:rings.Pairwise (fun a b=>hd a<hd b)
 dis:rings.Pairwise (Dis n)
 cov:∀ v,In n v->∃ l∈rings,v∈l
theorem Dis.symm{n:Int}{a b:List Int}(h:Dis n a b):Dis n b a:=fun t c d e=>h t e d c
theorem wQ{n:Int}:∀ {f:List (List Int)} {c:List Int} {d:Int},okR n c d f↔(∀ l∈f,RG n l/\d<hd l/\∀ t∈l,t<n->t∉c)/\f.Pairwise (fun a b=>hd a<hd b)/\f.Pairwise (Dis n):=by
 intro f;induction f with
  |nil=>intro c d;simp[okR]
  |cons l f s=>intro c d;rw[okR,s,ASc,ASc];constructor;rintro⟨j,m,o,p,q,u⟩;refine⟨fun k e => ?_,⟨fun k e=>(p k e).2.1,q⟩,⟨fun k e t r g v => ?_,u⟩⟩;rcases AR4.1 e with rfl|e;exact⟨j,m,o⟩;grind;grind;rintro⟨j,⟨m,o⟩,⟨p,q⟩⟩;obtain⟨w,x,y⟩:=j l (by simp);refine⟨w,x,y,fun k e => ?_,o,q⟩;obtain⟨z,A,B⟩:=j k (by simp[e]);refine⟨z,m k e,fun t r g i => ?_⟩;simp only[AR6,AS8]at i;rcases i with h|h;grind;exact p k e t h.1 g r
theorem iK{n:Int}{a:List (List Int)}:RF n a↔FR n a:=by constructor;rintro⟨c,d,e⟩;obtain⟨g,i,j⟩:=wQ.1 d;refine⟨c,fun l b=>(g l b).1,i,j,fun v f => ?_⟩;obtain⟨l,b,h⟩:=List.mem_flatten.1 (e v f.2.2.1 f.2.2.2);grind;rintro⟨c,d,e,k,m⟩;refine⟨c,wQ.2 ⟨fun l b=>⟨d l b,?_,by simp⟩,e,k⟩,fun v o p => ?_⟩;have:=(LY (d l b)).2.2.1;show(-1:Int)<l.headD 0;omega;obtain⟨l,b,h⟩:=m v ⟨c.1,c.2,o,p⟩;exact List.mem_flatten.2 ⟨l,b,h⟩
theorem jq{ys c:List (List Int)}(d:c.Pairwise (fun a b=>hd a<hd b))(g:ys.Perm c)(k:ys.Pairwise (fun a b=>¬ hd b<hd a)):ys=c:=by
 have f:∀ a∈c,∀ b∈c,hd a=hd b->a=b:=by intro a l b m e;refine AT1 fun n => ?_;obtain⟨i,hi,rfl⟩:=ASs l;obtain⟨j,o,rfl⟩:=ASs m;rw[ATI]at d;grind
 refine List.Perm.eq_of_pairwise (le:=fun a b=>¬ hd b<hd a) ?_ k ?_ g;grind;exact d.imp fun h=>by omega
def plc(a:List (List Int))(v:Int):Int:=if a.any (fun l=>decide (v∈l))then((a.findIdx (fun l=>decide (v∈l)):Nat):Int)else -1
theorem W3(n:Int)(a:List (List Int))(v:Int)(b:a.length<1073741824)(d:∀ l∈a,l.length<9223372036854775808):RT ((n,(a,())),v,())=some (plc a v,()):=by
 rw[bD,W4,JV,GQ]
 have e:=TC (step:=DP) (fun i=>(v,a,A2 a,(i:Int),())) a (fun l=>decide (v∈l)) (fun i=>.inl (v,(i:Int),())) (.inr (.inl (v,()))) (by omega)
  (fun i l hi c=>by
   have g:=d l (ARu c)
   rw[DP,A',A7,ARk hi]
   simp only[BD c,Jy l v (by omega)]
   rw[A8 (by omega)]
   grind)
  (by rw[DP,A',A7,ARj (by omega)])
 have f:A6 DP many (v,a,A2 a,(0:Int),())=_:=e;simp only[f,plc];grind
theorem Xk{a:List (List Int)}{v:Int}(h:∃ l∈a,v∈l):∃ k l,plc a v=((k:Nat):Int)/\a[k]? = some l/\v∈l/\k<a.length:=by obtain⟨l,c,e⟩:=h;have b:a.any (fun l=>decide (v∈l))=true:=List.any_eq_true.2 ⟨l,c,by grind⟩;have d:a.findIdx (fun l=>decide (v∈l))<a.length:=ATm.2 ⟨l,c,by grind⟩;refine⟨_,a[a.findIdx (fun l=>decide (v∈l))],by rw[plc,ARt b],by simp,?_,d⟩;grind
theorem FR.uniq{n:Int}{c:List (List Int)}(h:FR n c){i j:Nat}{a b:List Int}{v:Int}(hi:c[i]? = some a)(m:c[j]? = some b)(f:v<n)(k:v∈a)(l:v∈b):i=j:=by obtain⟨d,rfl⟩:=ASU.1 hi;obtain⟨e,rfl⟩:=ASU.1 m;have hd:=ATI.1 h.dis;rcases Nat.lt_trichotomy i j with g|g|g;exact absurd l (hd i j d e g v k f);exact g;exact absurd k (hd j i e d g v l f)
theorem FR.AF0{n:Int}{b:List (List Int)}(h:FR n b){k:Nat}{a:List Int}{v:Int}(c:b[k]? = some a)(f:v<n)(d:v∈a):plc b v=(k:Int):=by obtain⟨j,l,e,g,i,_⟩:=Xk ⟨a,ARu c,d⟩;rw[e,h.uniq g c f i d]
theorem YY{α:Type}{l:List α}{i:Nat}{a:α}(h:l[i]? = some a):l.Perm (a::l.eraseIdx i):=by
 obtain⟨hi,rfl⟩:=ASU.1 h;rw[List.eraseIdx_eq_take_drop_succ];conv=>lhs;rw[<- ASx i l,AST hi]
 exact List.perm_middle
theorem TF{α:Type}{l:List α}{i j:Nat}{a b:α}(c:i<j)(hi:l[i]? = some a)(d:l[j]? = some b):l.Perm (a::b::(l.eraseIdx j).eraseIdx i):=by
 have e:=YY d;have f:(l.eraseIdx j)[i]? = some a:=by grind
 exact e.trans (((YY f).cons b).trans (List.Perm.swap a b _))
theorem AAq{n:Int}{t:Tok}(h:okT n t):0<=G_ n t/\G_ n t<=4160/\G_ n t<n*(n+1):=by
 cases t with
  |ver v=>obtain⟨a,b,c,d⟩:=h;have:n*1<=n*(n+1):=Int.mul_le_mul_of_nonneg_left (by omega) (by omega);simp only[G_];omega
  |arc u v=>
   obtain⟨a,b,_⟩:=h;obtain⟨f,g,_⟩:=VC a b;have i:=K6 (u:=n+1-1) a.1 a.2.1 (by have:=a.1;omega) (by have:=a.2.1;omega);have e:n*(n+1)=n*(n+1-1)+n:=by grind
   have:=a.1;have:=a.2.1;simp only[G_];omega
theorem APR{n:Int}{t:Tok}(h:okT n t):Sz n:=by
 cases t with
  |ver v=>exact⟨h.1,h.2.1⟩
  |arc u v=>exact⟨h.1.1,h.1.2.1⟩
theorem OA:∀ {L:List Tok},L.Nodup->(Lw L).Nodup
 |[],_=>by simp[Lw]
 |.ver v::L,h=>by rw[ASi]at h;rw[Lw,ASi];exact⟨fun a=>h.1 (Px.1 a),OA h.2⟩
 |.arc _ _::L,h=>by rw[ASi]at h;rw[Lw];exact OA h.2
theorem AOG{n:Int}{xs:List Int}(h:TI n xs):Rt xs:=by
 obtain⟨L,rfl,c,d⟩:=h;have i:=d.nodup;refine⟨?_,fun x f => ?_,?_⟩;obtain⟨v,r,j⟩:=d.nW;have l:Sz n:=APR (c (.ver v) ((j.mem _).2 (by simp)));have q:=d.len;have s:=Gk (a:=Lw L) (b:=(List.range n.toNat).map (fun(k:Nat)=>(k:Int))) (OA i) fun x f=>by have:=c _ (Px.1 f);have u:=this.2.2;rw[ASC];exact⟨x.toNat,by grind,by omega⟩
 have w:=l.2;grind;obtain⟨t,m,rfl⟩:=ASC.1 f;have:=AAq (c t m);omega;rw[List.Nodup,ATU];exact i.imp_of_mem fun o p g e=>g (Ql (c _ o) (c _ p) e)
def ADb(a b:List Int):Prop:=∃ x y,a=x++y/\b=y++x
theorem ADb.perm{a b:List Int}(h:ADb a b):a.Perm b:=by obtain⟨x,y,rfl,rfl⟩:=h;grind
theorem AJo{n:Int}{a b:List Int}(h:TI n a)(r:ADb a b):TI n b:=by obtain⟨L,e,f,g⟩:=h;obtain⟨x,y,rfl,rfl⟩:=r;obtain⟨c,d,rfl,i,j⟩:=List.map_eq_append_iff.1 e.symm;refine⟨d++c,by grind,fun t k=>f t ?_,T.rot c d g⟩;grind
theorem EG{xs:List Int}{t:Int}(h:t∈xs):ADb xs (Cy xs t):=by obtain⟨a,b,c,_,d⟩:=Xe h;exact⟨a,t::b,c,by rw[d]⟩
theorem AAu{xs ys:List Int}(h:xs.Perm ys)(a:xs≠[]):MN ys=MN xs:=by obtain⟨b,c⟩:=GL a;exact ALu (h.mem_iff.1 b) fun x d=>c x (h.mem_iff.2 d)
theorem qv{xs:List Int}(b:Rt xs)(a:xs≠[]):ADb xs (plain xs):=by rw[plain,ARt ⟨b,a⟩];exact EG (GL a).1
theorem AOF{n:Int}{xs:List Int}(h:TI n xs):xs≠[]:=by rintro rfl;exact AQI n h
theorem oH{n:Int}{xs:List Int}(h:TI n xs):RG n (plain xs)/\ADb xs (plain xs):=by have g:=AOG h;have c:=AOF h;have d:=qv g c;have f:=AJo h d;refine⟨⟨AOG f,AOF f,?_,f⟩,d⟩;rw[AAu d.perm c];obtain⟨a,b,_,e⟩:=Xl g c;grind
theorem oE{n:Int}{xs:List Int}(h:TI n xs){t:Tok}(e:okT n t)(d:G_ n t∈xs):∃ a,Cy xs (G_ n t)=(t::a).map (G_ n)/\T (t::a)/\(∀ y∈t::a,okT n y):=by
 have f:=AJo h (EG d);obtain⟨a,b,j,k,g⟩:=Xe d;obtain⟨L,c,i,l⟩:=f;rw[g,ASG]at c;cases L with
  |nil=>cases c
  |cons t' L=>simp only[ASE,AR5]at c;have:=Ql e (i t' (by simp)) c.1;grind
end Go.Pev.Pl
end
section
namespace Go.Pev.Pl
open Go.RowKit Tok
theorem CH(a:Int):ieq a a=true:=by rw[CU];simp
def Dom(a:List (List Int)):Prop:=a.length<1073741824/\∀ l∈a,l.length<9223372036854775808/\∀ x∈l, -9223372036854775808<=x/\x<=9223372036854775807
theorem FR.dom{n:Int}{a:List (List Int)}(h:FR n a):Dom a:=by have b:=iK.2 h;have e:=ALq h.sz.1 b.2.1 (by omega) (by have:=h.sz.1;omega);have f:=h.sz.2;refine⟨by omega,fun l c => ?_⟩;have:=(h.rg l c).1;exact⟨by have:=this.1;omega,fun x d=>by have:=this.2.1 x d;omega⟩
theorem YS{l:List Int}(h:l≠[]):hd l∈l:=by
 cases l with
  |nil=>grind
  |cons x l=>simp[hd]
end Go.Pev.Pl
end
section
namespace Go.Pev.Pl
open Tok
noncomputable def AP9(n:Int)(a:List (List Int))(ok:Bool):Int:=if RF n a then if ok then 0 else 10 else 1
theorem uK(n:Int)(a:List (List Int))(xs:List Int)(c:xs.length<9223372036854775808):E0 (xs,n,a,())=some (n,a,xs.any (fun x=>decide (x<0)||decide (n<=x)),()):=by
 rw[Iw,Fj,JW,GR]
 have e:=TC (step:=DQ) (fun i=>(n,a,xs,A2 xs,(i:Int),())) xs (fun x=>decide (x<0)||decide (n<=x)) (fun i=>.inl (n,a,(i:Int),())) (.inr (.inl (n,a,()))) c
  (fun i x hi d=>by
   rw[DQ,A',A7,ARk hi]
   simp only[BD d,BP,Bf]
   rw[A8 (by omega)]
   grind)
  (by rw[DQ,A',A7,ARj (by omega)])
 have f:A6 DQ many (n,a,xs,A2 xs,(0:Int),())=_:=e;rw[f];generalize (xs.any fun x=>decide (x<0)||decide (n<=x))=b;cases b<;>simp[Bf]
theorem AQL{n v:Int}(a:Sz n):(decide (v<0)||decide (n<=v)) = !decide (In n v):=by
 by_cases h:In n v;obtain⟨_,_,b,c⟩:=h;simp[In,a.1,a.2,b,c];have:v<0\/n<=v:=by refine AT1 fun d=>h ⟨a.1,a.2,by omega,by omega⟩
 grind
theorem tF(n:Int)(a:List (List Int))(xs:List Int)(b:Dom a)(c:xs.length<9223372036854775808):O0 ((n,(a,())),xs,())=some (AP9 n a (xs.all fun v=>decide (In n v)),()):=by
 rw[cW,YU];simp only[Wz n a b.1 b.2,uK n a xs c,AP9];by_cases h:RF n a;have d:(xs.any fun x=>decide (x<0)||decide (n<=x)) = !(xs.all fun v=>decide (In n v)):=by rw[List.not_all_eq_any_not];congr 1;funext x;exact AQL h.1
 grind;grind
end Go.Pev.Pl
end
section
namespace Go.Pev.Pl.SG
open Go.Sort
structure SP(α β:Type)where
 z:α
 c:α×α×Unit->Option (β×Unit)
 t:β->Bool
 ok:α->Prop
 okz:α
 OZ:ok okz
 lt:α->α->Bool
 swo:SWO lt
 LW:∀ {x y:α},ok x->ok y->∃ r,c (x,y,())=some (r,())/\t r=lt x y
variable {α β:Type} {S:SP α β}
abbrev EL{α β:Type}(S:SP α β):={x:α // S.ok x}
instance:Inhabited (EL S):=⟨⟨S.okz,S.OZ⟩⟩
def rep(d:Array (EL S)):List α:=d.toList.map Subtype.val
theorem Bp{d:Array (EL S)}{n:Nat}(h:n<d.size):idx (rep d) (n:Int)=some (d[n]!).val:=by rw[idx_eq,YH,ARv (by omega)];simp[rep,h]
theorem CL{d:Array (EL S)}{n:Nat}{z:α}(h:n<d.size):A5 (rep d) (A3 (n:Int)) z=(d[n]!).val:=by simp[A5,A3,rep,h]
theorem Jc{d:Array (EL S)}{n:Nat}{x:(EL S)}:Ba (rep d) (A3 (n:Int)) x.val=rep (d.setIfInBounds n x):=by simp[Ba,A3,rep,List.map_set]
theorem xN{d:Array (EL S)}:A2 (rep d)=(d.size:Int):=by simp[A2,rep]
def ltX(x y:(EL S)):Bool:=S.lt x.val y.val
theorem AEW:SWO (ltX (S:=S)):=⟨fun x=>S.swo.irrefl x.val,fun x y z=>S.swo.trans x.val y.val z.val,fun x y z=>S.swo.ntrans x.val y.val z.val⟩
noncomputable def ARJ(x y:(EL S)):β:=(S.LW x.property y.property).choose
theorem DO(x y:(EL S)):S.c (x.val,y.val,())=some (ARJ x y,()):=(S.LW x.property y.property).choose_spec.1
theorem EB(x y:(EL S)):S.t (ARJ x y)=ltX x y:=(S.LW x.property y.property).choose_spec.2
theorem AMQ(a b i:Nat):∀ (j:Nat) (d:Array (EL S)) (n:Nat),j<d.size->d.size<4611686018427387904->j<n ->
  BC (UZ S.z S.c S.t) n ((rep d),(a:Int),(b:Int),(i:Int),(j:Int),())=some (.inl ((rep (insInner ltX a j d)),(a:Int),(b:Int),(i:Int),())):=by
 intro j;induction j with
  |zero=>
   intro d n f g h;obtain⟨n,rfl⟩:∃ k,n=k+1:=⟨n-1,by omega⟩
   have l:ilt (a:Int) ((0:Nat):Int)=false:=by rw[A7];simp
   simp only[BC,UZ,l,insInner]
  |succ j m=>
   intro d n f g h;obtain⟨n,rfl⟩:∃ k,n=k+1:=⟨n-1,by omega⟩
   have o:w64 (((j+1:Nat):Int)-1)=(j:Int):=by rw[BK (by omega)];omega
   have e:j<d.size:=by omega
   simp only[BC,UZ,A7,o,Bp f,Bp e,CL f,CL e,DO,EB,insInner,gt_iff_lt];by_cases p:a<j+1;cases q:ltX d[j+1]! d[j]!;grind;simp only[p,ARx,q,AS4,ASR,Jc];rw[Bp (by grind)];simp only[J8];exact m (swp d (j+1) j) n (by rw[size_swp];omega) (by rw[size_swp];omega) (by omega);grind
theorem Jk(lt:(EL S)->(EL S)->Bool)(a j:Nat)(d:Array (EL S)):(insInner lt a j d).size=d.size:=by
 induction j generalizing d with
  |zero=>rfl
  |succ j b=>rw[insInner];split;rw[b,size_swp];rfl
theorem AHV(a b:Nat):∀ (k i:Nat) (d:Array (EL S)) (n:Nat),b-i=k->b<=d.size->d.size<4611686018427387904->d.size<many->k<n ->
  BC (U_ S.z S.c S.t) n ((rep d),(a:Int),(b:Int),(i:Int),())=some (.inl ((rep (insOuter ltX a b i d)),())):=by
 intro k;induction k with
  |zero=>
   intro i d n g h f j l;obtain⟨n,rfl⟩:∃ k,n=k+1:=⟨n-1,by omega⟩
   have e:¬ i<b:=by omega
   rw[insOuter];simp only[BC,U_,A7,e,AR8,AR3]
  |succ k m=>
   intro i d n g h f j l;obtain⟨n,rfl⟩:∃ k,n=k+1:=⟨n-1,by omega⟩
   have e:i<b:=by omega
   have o:w64 ((i:Int)+1)=((i+1:Nat):Int):=by rw[BK (by omega)];omega
   rw[insOuter];simp only[BC,U_,A7,e,ARx,ASR,Bj];rw[AMQ a b i i d many (by omega) f (by omega)];simp only[o];exact m (i+1) _ n (by omega) (by rw[Jk];omega) (by rw[Jk];omega) (by rw[Jk];omega) (by omega)
theorem AHU(d:Array (EL S))(a b:Nat)(e:a<=b)(f:b<=d.size)(i:d.size<4294967296):(s8 S.z S.c S.t) ((rep d),(a:Int),(b:Int),())=some ((rep (insertionSort ltX d a b)),()):=by
 have g:d.size<many:=by simp only[many];omega
 have h:w64 ((a:Int)+1)=((a+1:Nat):Int):=by rw[BK (by omega)];omega
 rw[AMR,On];simp only[h,Bj];rw[AHV a b (b-(a+1)) (a+1) d many rfl f (by omega) g (by omega)];rfl
end Go.Pev.Pl.SG
end
end
