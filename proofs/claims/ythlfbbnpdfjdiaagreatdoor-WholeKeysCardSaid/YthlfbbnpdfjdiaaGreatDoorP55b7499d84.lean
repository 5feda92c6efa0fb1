/- A part of the proofs of this seat: GLP9 GLP10 GLP11 GLP12 GLP13 GLP14 GLP15 GLP16 GLX1 GLM4 GLP17 GLP18 GLP19 GLX2 GLM5 GLP20 GLX3 GLM6 GLP21 GLX4 GLM7 PevThin GLP22 GLP23 GLP24 GLP25 GLX5 GLM8 GLP26 GLX6 GLM9 GLP27 GLX7 GLM10 GLP28 GLX8 GLM11 GLP29 GLX9 GLM12 GLM Pln PlnB T18a T18b T18c PlnM NKA T18d PevClaim NKB. -/
import Derived.Test.YthlfbbnpdfjdiaaGreatDoorPfda3299366
import Derived.Test.YthlfbbnpdfjdiaaGreatDoorProg
import Derived.IntWalk
import Derived.Sort.AssemblyPlain
import Derived.ProofKit
import Derived.ChangeArms
import Derived.ReadAgain
import Derived.Deep.Slices
import Derived.OpenShut
import Derived.KernelRfl
set_option linter.unusedVariables false
set_option linter.unusedSimpArgs false
set_option linter.unusedSectionVars false
set_option maxRecDepth 100000
section
namespace Go.Pev
open Go.Proofs
noncomputable section
def g8:=Chn.g AEp ⟨88,0,0,2,0,none,OE,[(.ret,AEr)],Pp,[],[]⟩ lQ Tryz.func88 xB
theorem AJN : (Tryz.f308.name == "runtime.NumGoroutine") = false := by kernel_rfl
theorem fE:F_ Tryz.prog Tryz.f308 105 208 (.prod (.int .i64) (.prod (.int .i64) (.prod (.int .i64) (.prod (.int .i64) .unit)))) where
 body:=by kernel_rfl
 nt:=by kernel_rfl
 res:=by kernel_rfl
 d:=⟨by kernel_rfl,by kernel_rfl,by kernel_rfl,by kernel_rfl,by kernel_rfl,by kernel_rfl,by kernel_rfl,by kernel_rfl⟩
 g:=⟨by kernel_rfl,by kernel_rfl,by kernel_rfl,by kernel_rfl,by kernel_rfl,by kernel_rfl,by kernel_rfl,by kernel_rfl⟩
 o00:=by kernel_rfl
 o10:=by kernel_rfl
 o11:=by kernel_rfl
 o20:=by kernel_rfl
 o30:=by kernel_rfl
 o31:=by kernel_rfl
 o32:=by kernel_rfl
 o33:=by kernel_rfl
 sl:=by kernel_rfl
 z:=by kernel_rfl
 by1:=by kernel_rfl
def kC[Lk]:Env:=g8.e.ext 308 true true (EE 208 (.prod (.int .i64) (.prod (.int .i64) (.prod (.int .i64) (.prod (.int .i64) .unit)))))
theorem pf:BH Tryz.prog kC:=Env.CB g8.h (Mi fE Tryz.func308 AJN) (fun _=>B_ _ _) (fun _=>(B_ _ _).wk)
theorem APl : (Tryz.f309.name == "runtime.NumGoroutine") = false := by kernel_rfl
theorem oZ:F_ Tryz.prog Tryz.f309 40 4 .bool where
 body:=by kernel_rfl
 nt:=by kernel_rfl
 res:=by kernel_rfl
 d:=⟨by kernel_rfl,by kernel_rfl,by kernel_rfl,by kernel_rfl,by kernel_rfl,by kernel_rfl,by kernel_rfl,by kernel_rfl⟩
 g:=⟨by kernel_rfl,by kernel_rfl,by kernel_rfl,by kernel_rfl,by kernel_rfl,by kernel_rfl,by kernel_rfl,by kernel_rfl⟩
 o00:=by kernel_rfl
 o10:=by kernel_rfl
 o11:=by kernel_rfl
 o20:=by kernel_rfl
 o30:=by kernel_rfl
 o31:=by kernel_rfl
 o32:=by kernel_rfl
 o33:=by kernel_rfl
 sl:=by kernel_rfl
 z:=by kernel_rfl
 by1:=by kernel_rfl
def wL[Lk]:Env:=kC.ext 309 true true (EE 4 .bool)
theorem wK:BH Tryz.prog wL:=Env.CB pf (Mi oZ Tryz.func309 APl) (fun _=>B_ _ _) (fun _=>(B_ _ _).wk)
theorem APj : (Tryz.f270.name == "runtime.NumGoroutine") = false := by kernel_rfl
theorem oX:F_ Tryz.prog Tryz.f270 85 51 (.slice (.int .i64)) where
 body:=by kernel_rfl
 nt:=by kernel_rfl
 res:=by kernel_rfl
 d:=⟨by kernel_rfl,by kernel_rfl,by kernel_rfl,by kernel_rfl,by kernel_rfl,by kernel_rfl,by kernel_rfl,by kernel_rfl⟩
 g:=⟨by kernel_rfl,by kernel_rfl,by kernel_rfl,by kernel_rfl,by kernel_rfl,by kernel_rfl,by kernel_rfl,by kernel_rfl⟩
 o00:=by kernel_rfl
 o10:=by kernel_rfl
 o11:=by kernel_rfl
 o20:=by kernel_rfl
 o30:=by kernel_rfl
 o31:=by kernel_rfl
 o32:=by kernel_rfl
 o33:=by kernel_rfl
 sl:=by kernel_rfl
 z:=by kernel_rfl
 by1:=by kernel_rfl
def wJ[Lk]:Env:=wL.ext 270 true true (EE 51 (.slice (.int .i64)))
theorem wI:BH Tryz.prog wJ:=Env.CB wK (Mi oX Tryz.func270 APj) (fun _=>B_ _ _) (fun _=>(B_ _ _).wk)
theorem AUW : (Tryz.f297.name == "runtime.NumGoroutine") = false := by kernel_rfl
theorem vC:kE Tryz.prog Tryz.f297 51 3 1 where
 body:=by kernel_rfl
 nt:=by kernel_rfl
 res:=by kernel_rfl
 d:=⟨by kernel_rfl,by kernel_rfl,by kernel_rfl,by kernel_rfl,by kernel_rfl,by kernel_rfl,by kernel_rfl,by kernel_rfl⟩
 g:=⟨by kernel_rfl,by kernel_rfl,by kernel_rfl,by kernel_rfl,by kernel_rfl,by kernel_rfl,by kernel_rfl,by kernel_rfl⟩
 o00:=by kernel_rfl
 o10:=by kernel_rfl
 o11:=by kernel_rfl
 o12:=by kernel_rfl
 o13:=by kernel_rfl
 o14:=by kernel_rfl
 o15:=by kernel_rfl
 o16:=by kernel_rfl
 sl:=by kernel_rfl
 sz:=by kernel_rfl
def AD6[Lk]:Env:=wJ.ext 297 true true (PK 1)
theorem ABx:BH Tryz.prog AD6:=Env.CB wI (AUV vC Tryz.func297 AUW) (fun _=>PJ _) (fun _=>(PJ _).wk)
def AKg:=Chn.g ⟨AD6,ABx⟩ ⟨296,0,0,2,0,none,Lp,[(.ret,AKf)],AKe,[(11,[[0],[0],[],[12],[12],[],[],[],[],[12],[12],[],[],[],[31,38],[0],[1]]),(10,[[12],[12],[12]]),(6,[[12],[],[0],[0],[],[],[12],[12]])],[]⟩ wy Tryz.func296 AEo
def w9:=Chn.g AKg ⟨310,0,1,2,0,none,w7,[(.ret,w6)],A5,[],[(0,qO,qN)]⟩ Z7 Tryz.func310 qP
def AVX:=Chn.g w9 ⟨298,0,0,2,0,none,Lp,[(.ret,AVW)],AKh,[(12,[[0],[0],[0],[8],[8],[1000005,3],[7]]),(7,[[0],[0],[],[0],[0],[],[0],[1],[0],[1]]),(5,[[12],[],[0],[0],[],[],[12],[12],[],[],[],[0],[0],[12],[12]])],[(0,AQ6,AQ5)]⟩ AVY Tryz.func298 AQ7
def ABe:=Chn.g AVX ⟨179,0,0,1,0,none,BR,[(.ret,BP)],A5,[],[]⟩ UB Tryz.func179 vO
def APp:=Chn.g ABe ⟨180,0,0,2,0,none,Lp,[(.ret,BP)],A5,[(1,[[],[],[],[],[0],[0],[],[],[],[],[0],[0],[],[],[],[],[],[],[],[0],[],[],[],[0],[0],[0],[0]])],[]⟩ ABc Tryz.func180 AJV
def APe:=Chn.g APp ⟨106,0,0,1,0,none,uo,[(.ret,BP)],A5,[],[(0,AJD,RD),(1,AJC,AJB)]⟩ ABC Tryz.func106 AJE
def AP2:=Chn.g APe ⟨37,0,0,3,1,none,AKs,[(.ret,AP1)],AP0,[],[]⟩ W9 Tryz.func37 AJc
def AUb:=Chn.g AP2 ⟨228,0,0,1,0,none,uo,[(.ret,BR)],A5,[],[(0,APs,APr)]⟩ APu Tryz.func228 APt
def AJK:=Chn.g AUb ⟨271,0,2,2,0,none,jo,[(.ret,jn)],A5,[],[]⟩ ZU Tryz.func271 ABS
def APx:=Chn.g AJK ⟨272,0,2,3,0,none,APw,[(.ret,APv)],A5,[(9,[[],[0],[0],[0],[0],[],[],[],[2],[3]]),(6,[[],[0],[0],[0],[0],[],[],[],[],[],[2],[3]]),(1,[[],[0],[0],[0],[0],[],[2],[2],[],[0],[0],[0],[0],[],[2],[2]])],[]⟩ ABd Tryz.func272 AJa
def AYZ:=Chn.g APx ⟨273,0,2,2,0,none,jo,[(.ret,jn)],A5,[(9,[[],[],[0],[0],[0],[0],[],[0],[0],[0],[0],[],[],[],[],[],[0],[0],[0],[1]]),(6,[[],[0],[0],[0],[0],[],[],[0],[0],[0],[0],[],[2],[2],[],[],[],[],[28],[2],[3,30]]),(3,[[],[],[0],[0],[0],[0],[],[0],[0],[0],[0],[],[],[],[],[],[],[0],[0],[0],[1]]),(1,[[],[0],[0],[0],[0],[],[0],[0],[0],[0]])],[]⟩ cgo Tryz.func273 AXJ
def AUR:=Chn.g AYZ ⟨227,0,0,3,0,none,AUQ,[(.ret,AUP)],AUO,[(18,[[],[14],[14],[14],[],[14],[14],[14],[3],[5]]),(14,[[],[14],[14],[14],[],[14],[14],[14],[3],[5]])],[]⟩ APd Tryz.func227 APc
def AUE:=Chn.g AUR ⟨175,0,1,3,0,none,AUD,[(.ret,ADe)],A5,[(3,[[],[],[12],[],[0],[0],[0],[14],[],[3,16],[0],[0],[1],[0],[0],[1]])],[]⟩ ADg Tryz.func175 APK
def AIl:=Chn.g AUE ⟨176,0,1,1,0,none,AIk,[(.ret,ADe)],A5,[],[(0,AAr,AAp),(1,AAq,AAo)]⟩ oA Tryz.func176 AAs
def APJ:=Chn.g AIl ⟨101,0,0,4,0,none,API,[(.ret,APH)],Ea,[(11,[[],[2],[2],[2],[],[2],[2],[2],[],[1]]),(14,[[],[2],[2],[2],[],[2],[2],[2],[],[1]])],[(0,AIi,AIh)]⟩ AAl Tryz.func101 AIj
def AIr:=Chn.g APJ ⟨102,0,0,2,0,none,AIq,[(.ret,AIp)],A5,[],[(0,AAy,AAx)]⟩ oD Tryz.func102 AAz
def AOo:=Chn.g AIr ⟨100,0,0,1,0,none,AOn,[(.ret,BP)],A5,[],[]⟩ nj Tryz.func100 jX
def AOq:=Chn.g AOo ⟨41,0,0,2,0,none,AOp,[(.ret,Fj)],Ea,[],[(0,AIR,AIP),(1,AIQ,AIO)]⟩ DH Tryz.func41 Wp
def AKz:=Chn.g AOq ⟨301,0,0,1,0,none,BR,[(.ret,BP)],A5,[],[]⟩ aG Tryz.func301 iD
def AFL:=Chn.g AKz ⟨302,0,0,2,0,none,OE,[(.ret,BR)],A5,[],[]⟩ Yz Tryz.func302 aM
def Yu:=Chn.g AFL ⟨304,0,0,3,0,none,ARJ,[(.ret,QM)],A5,[],[]⟩ qX Tryz.func304 qW
theorem AKy:Tryz.f287.body.isSome=true:=by kernel_rfl
theorem AKx : (Tryz.f287.name == "runtime.NumGoroutine") = false := by kernel_rfl
theorem AKw:loops (B5 Tryz.f287)=0:=by kernel_rfl
def dj[Lk]:Env:=Yu.e.ext 287 false false (CE Tryz.prog Yu.e {} Tryz.f287)
theorem fM:BH Tryz.prog dj:=Env.CB Yu.h (Bq Yu.h Tryz.func287 AKy AKx AKw) (by simp) (by simp)
def ALc:=Chn.g ⟨dj,fM⟩ ⟨303,0,0,2,0,some (1,287),ALb,[(.ret,ALa)],BV,[],[(0,AFQ,AFP)]⟩ Vs Tryz.func303 iL
def AE1:=Chn.g ALc ⟨286,0,0,4,0,some (3,287),AE0,[(.ret,iE)],SY,[],[(0,xO,xL),(1,xN,xK),(2,xM,xJ)]⟩ Sj Tryz.func286 RI
def ARG:=Chn.g AE1 ⟨251,0,0,3,0,none,ACB,[(.ret,iE)],SY,[],[]⟩ iC Tryz.func251 aE
def AMH:=Chn.g ARG ⟨255,0,0,2,0,none,AMG,[(.ret,L5)],A5,[],[(0,AFl,AFk)]⟩ mJ Tryz.func255 iZ
def AFj:=Chn.g AMH ⟨254,0,0,3,0,none,ACB,[(.ret,Fj)],Ea,[],[(0,xv,xu)]⟩ Y4 Tryz.func254 av
def AL2:=Chn.g AFj ⟨208,0,0,3,0,none,AL1,[(.ret,Fj)],Ea,[(1,[[],[],[],[0],[2]])],[]⟩ mF Tryz.func208 iV
def ARo:=Chn.g AL2 ⟨206,0,0,4,0,none,ARn,[(.ret,Fj)],Ea,[],[(0,ALj,ALh),(1,ALi,ALg)]⟩ iO Tryz.func206 aV
def AFT:=Chn.g ARo ⟨207,0,0,2,0,none,AFS,[(.ret,AFR)],BV,[],[(0,xa,xZ)]⟩ Sq Tryz.func207 aU
def AIt:=Chn.g AFT ⟨163,0,0,2,0,none,ji,[(.ret,AIs)],SY,[(5,[[],[10],[0],[0],[0],[0],[18]])],[(0,AA4,AA3)]⟩ Tx Tryz.func163 R4
def AUI:=Chn.g AIt ⟨89,0,0,2,0,none,ji,[(.ret,NZ)],Ea,[],[]⟩ ct Tryz.func89 cr
def T2:=Chn.g AUI ⟨38,0,0,2,0,none,APX,[(.ret,APW)],Ea,[],[(0,AI1,AIz),(1,AI0,AIy)]⟩ PC Tryz.func38 W0
theorem AJx:Tryz.f104.body.isSome=true:=by kernel_rfl
theorem AJw : (Tryz.f104.name == "runtime.NumGoroutine") = false := by kernel_rfl
theorem AJv:loops (B5 Tryz.f104)=0:=by kernel_rfl
def YM[Lk]:Env:=T2.e.ext 104 false false (CE Tryz.prog T2.e {} Tryz.f104)
theorem dw:BH Tryz.prog YM:=Env.CB T2.h (Bq T2.h Tryz.func104 AJx AJw AJv) (by simp) (by simp)
def Ta:=Chn.g ⟨YM,dw⟩ ⟨149,0,1,2,0,some (1,104),TZ,[(.ret,nQ)],A5,[],[(0,ee,ec)]⟩ Rq Tryz.func149 Qv
theorem APi : (Tryz.f94.name == "runtime.NumGoroutine") = false := by kernel_rfl
theorem oV:F_ Tryz.prog Tryz.f94 22 66 (.prod (.int .i64) (.prod (.int .i64) (.prod (.int .i64) (.prod .bool .unit)))) where
 body:=by kernel_rfl
 nt:=by kernel_rfl
 res:=by kernel_rfl
 d:=⟨by kernel_rfl,by kernel_rfl,by kernel_rfl,by kernel_rfl,by kernel_rfl,by kernel_rfl,by kernel_rfl,by kernel_rfl⟩
 g:=⟨by kernel_rfl,by kernel_rfl,by kernel_rfl,by kernel_rfl,by kernel_rfl,by kernel_rfl,by kernel_rfl,by kernel_rfl⟩
 o00:=by kernel_rfl
 o10:=by kernel_rfl
 o11:=by kernel_rfl
 o20:=by kernel_rfl
 o30:=by kernel_rfl
 o31:=by kernel_rfl
 o32:=by kernel_rfl
 o33:=by kernel_rfl
 sl:=by kernel_rfl
 z:=by kernel_rfl
 by1:=by kernel_rfl
def wH[Lk]:Env:=Ta.e.ext 94 true true (EE 66 (.prod (.int .i64) (.prod (.int .i64) (.prod (.int .i64) (.prod .bool .unit)))))
theorem wG:BH Tryz.prog wH:=Env.CB Ta.h (Mi oV Tryz.func94 APi) (fun _=>B_ _ _) (fun _=>(B_ _ _).wk)
def AS5:=Chn.g ⟨wH,wG⟩ ⟨325,0,0,2,0,none,OE,[(.ret,BP)],A5,[],[]⟩ DC Tryz.func325 tW
def AWj:=Chn.g AS5 ⟨319,0,1,3,0,none,Fj,[(.ret,KO)],Bm,[(4,[[],[],[],[],[],[],[0],[0],[],[],[],[0],[0]]),(6,[[],[],[],[],[],[],[],[],[0],[0],[],[],[0],[0],[0],[1],[0],[1]])],[(0,ATU,nK),(1,ATT,ATS)]⟩ AYR Tryz.func319 ATV
def ARj:=Chn.g AWj ⟨331,0,1,4,0,none,Kx,[(.ret,KO)],Bm,[(6,[[],[],[],[],[],[],[],[],[],[],[],[],[0],[0],[],[],[],[],[0],[0],[0],[1],[0],[1]]),(5,[[],[],[],[],[0],[0],[],[],[],[],[0],[0]]),(3,[[],[],[],[],[],[],[],[],[],[0],[0],[],[],[],[],[],[0],[0]])],[(0,ALM,ALL)]⟩ AU0 Tryz.func331 ALN
def ATl:=Chn.g ARj ⟨320,0,1,3,0,none,Fj,[(.ret,KO)],Bm,[(10,[[],[],[],[],[],[],[],[],[],[],[0],[0],[],[],[0],[0],[0],[1],[0],[1]])],[(0,AOU,AOS),(1,AOT,AOR)]⟩ AVE Tryz.func320 AOV
def AQC:=Chn.g ATl ⟨321,0,1,3,0,none,Fj,[(.ret,KO)],Bm,[(10,[[],[],[],[],[],[],[],[],[],[],[0],[0],[],[],[0],[0],[0],[1],[0],[1]])],[(0,AJl,nK)]⟩ AQD Tryz.func321 AJm
def AGg:=Chn.g AQC ⟨335,0,2,4,0,none,AGe,[(.ret,AGd)],BV,[(1,[[],[],[0],[0],[],[],[0],[0]])],[]⟩ ACo Tryz.func335 zO
def AG6:=Chn.g AGg ⟨333,0,2,5,0,none,AG4,[(.ret,jB)],A5,[],[]⟩ AC5 Tryz.func333 zh
def AHL:=Chn.g AG6 ⟨332,0,2,3,0,none,AHJ,[(.ret,jB)],A5,[],[]⟩ ADA Tryz.func332 zn
def AMX:=Chn.g AHL ⟨322,0,1,3,0,none,Fj,[(.ret,AMV)],BV,[],[]⟩ AMY Tryz.func322 AFt
def AVr:=Chn.g AMX ⟨323,0,1,3,0,none,Fj,[(.ret,KO)],Bm,[(3,[[],[],[],[],[],[],[0],[0],[],[],[0],[0],[0],[1],[0],[1]])],[(0,ARy,nK)]⟩ AX6 Tryz.func323 ARz
def yk:=Chn.g AVr ⟨324,0,1,3,0,none,Fj,[(.ret,yi)],A5,[(11,[[],[],[],[],[],[],[],[],[0],[0],[],[],[0],[0],[0],[1],[0],[1]]),(5,[[],[],[],[],[],[],[0],[0],[],[],[],[0],[0]]),(17,[[],[],[],[],[],[],[],[],[0],[0],[],[],[0],[0],[0],[1],[0],[1]]),(16,[[],[],[0],[0],[],[],[],[0],[0]]),(23,[[],[],[],[],[],[],[],[],[0],[0],[],[],[0],[0],[0],[1],[0],[1]]),(22,[[],[],[0],[0],[],[],[],[0],[0]])],[(0,Xb,sZ),(1,Xb,sY),(2,sc,sX),(3,sb,sW)]⟩ se Tryz.func324 sd
def AGM:=Chn.g yk ⟨326,0,1,4,0,none,Kx,[(.ret,AGK)],A5,[(8,[[],[],[],[],[],[],[0],[0],[],[],[0],[0],[0],[1],[0],[1]]),(3,[[],[],[],[],[],[],[0],[0],[],[],[0],[0]]),(5,[[],[],[],[],[],[],[0],[0],[],[],[0],[0]]),(1,[[],[],[],[],[],[],[0],[0],[],[],[0],[0],[0],[1],[0],[1]])],[(0,RX,zE),(1,RX,zD),(2,RX,zC)]⟩ ACj Tryz.func326 zF
def Y_:=Chn.g AGM ⟨327,0,1,4,0,none,Kx,[(.ret,ASk)],BV,[(3,[[],[],[],[],[],[],[0],[0],[],[],[0],[0]]),(5,[[],[],[],[],[],[],[0],[0],[],[],[0],[0]]),(18,[[],[],[],[],[],[],[0],[0],[],[],[0],[0],[0],[1],[0],[1]]),(13,[[],[],[],[],[],[],[0],[0],[],[],[0],[0]]),(15,[[],[],[],[],[],[],[0],[0],[],[],[0],[0]]),(21,[[],[],[],[],[],[],[0],[0],[],[],[0],[0],[0],[1],[0],[1]]),(10,[[],[],[],[],[],[],[0],[0],[],[],[0],[0],[0],[1],[0],[1]]),(8,[[],[],[],[],[],[],[0],[0],[],[],[0],[0],[0],[1],[0],[1]]),(1,[[],[],[],[],[],[],[0],[0],[],[],[0],[0],[0],[1],[0],[1]])],[(0,Oe,ANB),(1,Oe,ANA),(2,Oe,AM9),(3,Oe,AM8),(4,Oe,AM7)]⟩ AU8 Tryz.func327 ANC
abbrev yS(self:(List Int×Int×Int×Int×Unit)->Option ((List Int×Unit))):Hints:={ loop:=fun n=>match n with|0=>LX 1 134 ACc ACb (ACa self)|_=>fun _ _ _=>none,fp:=fun n=>match n with|17=>[[],[],[],[],[],[],[0],[0],[],[],[0],[0],[],[],[]]|_=>[] }
abbrev mT(self:(List Int×Int×Int×Int×Unit)->Option ((List Int×Unit))):Env:=Y_.e.ext 307 false true (BX 1 4 Kx KO Bm self)
theorem yR(self:(List Int×Int×Int×Int×Unit)->Option ((List Int×Unit))):∀ v,ACa self v=roundOf Tryz.prog (mT self) (yS self) 1 1 134 (C6 Tryz.f307 0) ACc ACb v:=by rintro⟨a,b,c,d,e,f,⟨⟩⟩;kernel_rfl
theorem ASU:Ca (C6 Tryz.f307 0) 1=[]:=by kernel_rfl
theorem ASV(self:(List Int×Int×Int×Int×Unit)->Option ((List Int×Unit)))(a:BH Tryz.prog (mT self)):I4 Tryz.prog 1 (.loop (C6 Tryz.f307 0)) ((yS self).loop 0):=P2 a (yR self) (Dd ASU trivial)
theorem AMl(self:(List Int×Int×Int×Int×Unit)->Option ((List Int×Unit))):∀ v,AWC self v=Dn 1 Tryz.prog (mT self) (yS self) Tryz.f307 Kx KO Bm v:=by rintro⟨a,b,c,d,⟨⟩⟩;kernel_rfl
theorem AWB:Ca (B5 Tryz.f307) 0=[(0,C6 Tryz.f307 0)]:=by kernel_rfl
theorem yT:∀ n,BS Tryz.prog 307 (BX 1 4 Kx KO Bm (bG n)):=by
 intro n;induction n with
  |zero=>exact GO fun _=>rfl
  |succ n b=>have a:BH Tryz.prog (mT (bG n)):=Env.CB Y_.h b ((by simp)) (fun _=>CR rfl rfl);let self:=bG n;exact GW a Tryz.func307 (by kernel_rfl) (by kernel_rfl) rfl (AMl self) (Dd AWB ⟨(ASV self a),trivial⟩)
theorem AF5:BS Tryz.prog 307 (BX 1 4 Kx KO Bm ASX):=by have e:ASX=bG 100:=funext ASW;rw[e];exact yT _
def AQg[Lk]:Env:=Y_.e.ext 307 false true (BX 1 4 Kx KO Bm ASX)
theorem AJ8:BH Tryz.prog AQg:=Env.CB Y_.h AF5 ((by simp)) (fun _=>CR rfl rfl)
def ARS:=Chn.g ⟨AQg,AJ8⟩ ⟨295,0,1,1,0,none,Hx,[(.ret,KO)],Bm,[],[]⟩ qb Tryz.func295 AK6
def AXM:=Chn.g ARS ⟨126,0,0,3,0,some (2,125),AXL,[(.ret,ABi)],BV,[(5,[[],[],[],[],[],[0]]),(8,[[],[],[],[],[],[],[],[],[],[],[0]])],[(0,AUg,AUf)]⟩ AQJ Tryz.func126 ADv
def TG:=Chn.g AXM ⟨55,0,0,3,0,none,TF,[(.ret,ABi)],BV,[],[]⟩ zw Tryz.func55 jF
theorem zb:Tryz.f294.body.isSome=true:=by kernel_rfl
theorem za : (Tryz.f294.name == "runtime.NumGoroutine") = false := by kernel_rfl
theorem zZ:loops (B5 Tryz.f294)=0:=by kernel_rfl
def Q7[Lk]:Env:=TG.e.ext 294 false false (CE Tryz.prog TG.e {} Tryz.f294)
theorem XD:BH Tryz.prog Q7:=Env.CB TG.h (Bq TG.h Tryz.func294 zb za zZ) (by simp) (by simp)
def cM:=Chn.g ⟨Q7,XD⟩ ⟨149,0,2,2,0,some (1,294),O3,[(.ret,cL)],A5,[],[(0,YW,YV)]⟩ NM Tryz.func149 Ns
def ATp:=Chn.g cM ⟨223,0,0,2,0,none,ATo,[(.ret,ADO)],A5,[],[]⟩ ADP Tryz.func223 uB
def AJI:=Chn.g ATp ⟨173,0,0,1,0,none,AJH,[(.ret,ADO)],A5,[],[(0,ABJ,ABH),(1,ABI,ABG)]⟩ T9 Tryz.func173 dD
theorem AMC:Tryz.f226.body.isSome=true:=by kernel_rfl
theorem AMB : (Tryz.f226.name == "runtime.NumGoroutine") = false := by kernel_rfl
theorem AMA:loops (B5 Tryz.f226)=0:=by kernel_rfl
theorem AWN:Tryz.f225.body.isSome=true:=by kernel_rfl
theorem AWM : (Tryz.f225.name == "runtime.NumGoroutine") = false := by kernel_rfl
theorem AWL:loops (B5 Tryz.f225)=0:=by kernel_rfl
theorem AI8:Tryz.f280.body.isSome=true:=by kernel_rfl
theorem AI7 : (Tryz.f280.name == "runtime.NumGoroutine") = false := by kernel_rfl
theorem AI6:loops (B5 Tryz.f280)=0:=by kernel_rfl
theorem AXS:Tryz.f243.body.isSome=true:=by kernel_rfl
theorem AXR : (Tryz.f243.name == "runtime.NumGoroutine") = false := by kernel_rfl
theorem AXQ:loops (B5 Tryz.f243)=0:=by kernel_rfl
theorem AXP:Tryz.f244.body.isSome=true:=by kernel_rfl
theorem AXO : (Tryz.f244.name == "runtime.NumGoroutine") = false := by kernel_rfl
theorem AXN:loops (B5 Tryz.f244)=0:=by kernel_rfl
def AT6:=Chn.g AJI ⟨96,0,0,2,0,none,br,[(.ret,BR)],A5,[],[]⟩ DQ Tryz.func96 AOi
def AWf:=Chn.g AT6 ⟨212,0,1,4,0,some (3,96),Wd,[(.ret,KM)],Bm,[(4,[[],[],[],[],[],[],[],[0],[0],[],[],[],[0],[0]]),(6,[[],[],[],[],[],[],[],[],[0],[0],[],[],[0],[0],[0],[1],[0],[1]])],[(0,ATL,nH),(1,ATK,ATJ)]⟩ AYP Tryz.func212 ATM
def ARf:=Chn.g AWf ⟨264,0,1,5,0,some (4,96),Kv,[(.ret,KM)],Bm,[(6,[[],[],[],[],[],[],[],[],[],[],[],[],[0],[0],[],[],[],[],[0],[0],[0],[1],[0],[1]]),(5,[[],[],[],[],[],[0],[0],[],[],[],[],[0],[0]]),(3,[[],[],[],[],[],[],[],[],[],[],[0],[0],[],[],[],[],[],[0],[0]])],[(0,ALG,ALF)]⟩ AUy Tryz.func264 ALH
def ATh:=Chn.g ARf ⟨213,0,1,4,0,some (3,96),Wd,[(.ret,KM)],Bm,[(10,[[],[],[],[],[],[],[],[],[],[],[0],[0],[],[],[0],[0],[0],[1],[0],[1]])],[(0,AOK,AOI),(1,AOJ,AOH)]⟩ AVC Tryz.func213 AOL
def AP7:=Chn.g ATh ⟨214,0,1,4,0,some (3,96),Wd,[(.ret,KM)],Bm,[(10,[[],[],[],[],[],[],[],[],[],[],[0],[0],[],[],[0],[0],[0],[1],[0],[1]])],[(0,AJh,nH)]⟩ breakT Tryz.func214 AJi
def AGY:=Chn.g AP7 ⟨292,0,2,5,0,some (4,96),AGW,[(.ret,AGV)],BV,[(1,[[],[],[],[0],[0],[],[],[0],[0]])],[]⟩ ACm Tryz.func292 zM
def AG0:=Chn.g AGY ⟨268,0,2,6,0,some (5,96),AGy,[(.ret,iz)],A5,[],[]⟩ AC3 Tryz.func268 zf
def AHF:=Chn.g AG0 ⟨267,0,2,4,0,some (3,96),AHD,[(.ret,iz)],A5,[],[]⟩ AC8 Tryz.func267 zl
def AMP:=Chn.g AHF ⟨215,0,1,4,0,some (3,96),Wd,[(.ret,AMN)],BV,[],[]⟩ AMQ Tryz.func215 AFr
def AVn:=Chn.g AMP ⟨216,0,1,4,0,some (3,96),Wd,[(.ret,KM)],Bm,[(3,[[],[],[],[],[],[],[0],[0],[],[],[0],[0],[0],[1],[0],[1]])],[(0,ARu,nH)]⟩ AX4 Tryz.func216 ARv
def ye:=Chn.g AVn ⟨217,0,1,4,0,some (3,96),Wd,[(.ret,yc)],A5,[(11,[[],[],[],[],[],[],[],[],[0],[0],[],[],[0],[0],[0],[1],[0],[1]]),(5,[[],[],[],[],[],[],[],[0],[0],[],[],[],[0],[0]]),(17,[[],[],[],[],[],[],[],[],[0],[0],[],[],[0],[0],[0],[1],[0],[1]]),(16,[[],[],[],[0],[0],[],[],[],[0],[0]]),(23,[[],[],[],[],[],[],[],[],[0],[0],[],[],[0],[0],[0],[1],[0],[1]]),(22,[[],[],[],[0],[0],[],[],[],[0],[0]])],[(0,XZ,sJ),(1,XZ,sI),(2,sL,sH),(3,sK,sG)]⟩ sN Tryz.func217 sM
def AGG:=Chn.g ye ⟨218,0,1,5,0,some (4,96),Kv,[(.ret,AGE)],A5,[(8,[[],[],[],[],[],[],[0],[0],[],[],[0],[0],[0],[1],[0],[1]]),(3,[[],[],[],[],[],[],[],[0],[0],[],[],[0],[0]]),(5,[[],[],[],[],[],[],[],[0],[0],[],[],[0],[0]]),(1,[[],[],[],[],[],[],[0],[0],[],[],[0],[0],[0],[1],[0],[1]])],[(0,RV,yw),(1,RV,yv),(2,RV,yu)]⟩ ACh Tryz.func218 yx
def Y8:=Chn.g AGG ⟨219,0,1,5,0,some (4,96),Kv,[(.ret,ASg)],BV,[(3,[[],[],[],[],[],[],[],[0],[0],[],[],[0],[0]]),(5,[[],[],[],[],[],[],[],[0],[0],[],[],[0],[0]]),(18,[[],[],[],[],[],[],[0],[0],[],[],[0],[0],[0],[1],[0],[1]]),(13,[[],[],[],[],[],[],[],[0],[0],[],[],[0],[0]]),(15,[[],[],[],[],[],[],[],[0],[0],[],[],[0],[0]]),(21,[[],[],[],[],[],[],[0],[0],[],[],[0],[0],[0],[1],[0],[1]]),(10,[[],[],[],[],[],[],[0],[0],[],[],[0],[0],[0],[1],[0],[1]]),(8,[[],[],[],[],[],[],[0],[0],[],[],[0],[0],[0],[1],[0],[1]]),(1,[[],[],[],[],[],[],[0],[0],[],[],[0],[0],[0],[1],[0],[1]])],[(0,Oa,AMz),(1,Oa,AMy),(2,Oa,AMx),(3,Oa,AMw),(4,Oa,AMv)]⟩ AU6 Tryz.func219 AM0
abbrev yM(self:(List (Int×Int×Int×Bool×Unit)×Int×Int×Int×Unit)->Option ((List (Int×Int×Int×Bool×Unit)×Unit))):Hints:={ loop:=fun n=>match n with|0=>LX 1 148 ACW ACV (ACU self)|_=>fun _ _ _=>none,fp:=fun n=>match n with|17=>[[],[],[],[],[],[],[],[0],[0],[],[],[0],[0],[],[],[],[]]|_=>[] }
abbrev mR(self:(List (Int×Int×Int×Bool×Unit)×Int×Int×Int×Unit)->Option ((List (Int×Int×Int×Bool×Unit)×Unit))):Env:=Y8.e.ext 166 false true (BX 1 5 Kv KM Bm self)
theorem yL(self:(List (Int×Int×Int×Bool×Unit)×Int×Int×Int×Unit)->Option ((List (Int×Int×Int×Bool×Unit)×Unit))):∀ v,ACU self v=roundOf Tryz.prog (mR self) (yM self) 1 1 148 (C6 Tryz.f166 0) ACW ACV v:=by rintro⟨a,b,c,d,e,f,⟨⟩⟩;kernel_rfl
theorem ASM:Ca (C6 Tryz.f166 0) 1=[]:=by kernel_rfl
theorem ASN(self:(List (Int×Int×Int×Bool×Unit)×Int×Int×Int×Unit)->Option ((List (Int×Int×Int×Bool×Unit)×Unit)))(a:BH Tryz.prog (mR self)):I4 Tryz.prog 1 (.loop (C6 Tryz.f166 0)) ((yM self).loop 0):=P2 a (yL self) (Dd ASM trivial)
theorem AMj(self:(List (Int×Int×Int×Bool×Unit)×Int×Int×Int×Unit)->Option ((List (Int×Int×Int×Bool×Unit)×Unit))):∀ v,AV8 self v=Dn 1 Tryz.prog (mR self) (yM self) Tryz.f166 Kv KM Bm v:=by rintro⟨a,b,c,d,⟨⟩⟩;kernel_rfl
theorem AV7:Ca (B5 Tryz.f166) 0=[(0,C6 Tryz.f166 0)]:=by kernel_rfl
theorem yN:∀ n,BS Tryz.prog 166 (BX 1 5 Kv KM Bm (bE n)):=by
 intro n;induction n with
  |zero=>exact GO fun _=>rfl
  |succ n b=>have a:BH Tryz.prog (mR (bE n)):=Env.CB Y8.h b ((by simp)) (fun _=>CR rfl rfl);let self:=bE n;exact GW a Tryz.func166 (by kernel_rfl) (by kernel_rfl) rfl (AMj self) (Dd AV7 ⟨(ASN self a),trivial⟩)
theorem AF3:BS Tryz.prog 166 (BX 1 5 Kv KM Bm ASP):=by have e:ASP=bE 100:=funext ASO;rw[e];exact yN _
def AQe[Lk]:Env:=Y8.e.YZ 166 4 96 (BX 1 5 Kv KM Bm ASP)
theorem AJ6:BH Tryz.prog AQe:=Env.Tn Y8.h AF3 (CR rfl rfl)
def ARO:=Chn.g ⟨AQe,AJ6⟩ ⟨95,0,1,2,0,some (1,96),ARM,[(.ret,KM)],Bm,[],[]⟩ AK4 Tryz.func95 AK3
def oH:=Chn.g ARO ⟨170,0,3,2,8,some (1,171),Td,[(.ret,oG)],A5,[],[(0,ep,eo)]⟩ Nb Tryz.func170 Q3
def AAL:=Chn.g oH ⟨127,0,0,1,0,none,BR,[(.ret,BP)],A5,[],[]⟩ O4 Tryz.func127 Xp
def AEK:=Chn.g AAL ⟨71,0,0,2,0,none,AEJ,[(.ret,ABi)],BV,[],[]⟩ ABy Tryz.func71 wP
def XM:=Chn.g AEK ⟨197,0,0,1,0,none,BR,[(.ret,BP)],A5,[],[]⟩ wb1 Tryz.func197 AVT
set_option maxHeartbeats 8000000
attribute [local irreducible] A3 A7 Bi CT C' C2 A2 Bp Cl imax idx Ci ilt ile ieq seq? quo? rem? shl? shr? fits B4 IntKind.wrap A8 BC LV Rd Bb NY A_ many Gx
abbrev Adn:Loc×Con:=(.cell 0 0,.dat (.slice (.int .u8)))
abbrev Ado:Loc×Con:=(.tmp 0,.box 2)
abbrev IE:A1:=[Ado,Adn,Aca,(.tmp 1,.clo 197 [])]
abbrev ID:A1:=[AA,Av,Adn,Aca]
abbrev J0:List RS:=[.one]
abbrev N4:A1:=[Av]
def Zk[Lk]:Hints:={ fp:=Tj [(1,[[],[0],[0],[0],[],[0],[0],[0]]),(3,[[],[0],[0],[0],[],[0],[0],[0]])] }
def VO[Lk](v:Bf (leaves IE)):Option (Bf (leaves ID)⊕(List Int×Bf (leaves N4))):=Lk.f (DY 1 Tryz.prog XM.e Zk Tryz.f196 IE ID J0 228 [.i64,.i64] N4 v)
theorem fX(v):VO v=DY 1 Tryz.prog XM.e Zk Tryz.f196 IE ID J0 228 [.i64,.i64] N4 v:=A0 _
theorem SO:B0 Tryz.prog 1 Zk (B5 Tryz.f196) 0:=DR _ 0 (by kernel_rfl)
theorem AEO:H7 Tryz.prog 196 (BX 1 2 IE ID J0 fun x=>Dg (VO x)) (I5 1 2 IE ID J0 228 [.i64,.i64] N4 VO):=MA XM.h.1 XM.h.2.1 XM.h.2.2 Tryz.func196 (G2 (by kernel_rfl)) (Cj Tryz.func196 (by kernel_rfl) (by kernel_rfl)) (AZn rfl) fX SO
theorem AEN:BS Tryz.prog 196 (BX 1 2 IE ID J0 fun x=>Dg (VO x)):=L9 XM.h Tryz.func196 (by kernel_rfl) (by kernel_rfl) rfl fX SO
def UM[Lk]:Env:=Env.Xx XM.e 196 1 197 (BX 1 2 IE ID J0 fun x=>Dg (VO x)) (I5 1 2 IE ID J0 228 [.i64,.i64] N4 VO)
theorem Il:BH Tryz.prog UM:=Env.uP XM.h AEN AEO (CR rfl rfl)
abbrev IC:A1:=[Ado,Adn,Aca,(.tmp 1,.clo 136 [])]
abbrev IB:A1:=[AA,Av,Adn,Aca]
abbrev Jz:List RS:=[.one]
abbrev N3:A1:=[Av]
def Zj[Lk]:Hints:={ fp:=Tj [(1,[[],[0],[0],[0],[],[0],[0],[0]]),(3,[[],[0],[0],[0],[],[0],[0],[0]])] }
def VN[Lk](v:Bf (leaves IC)):Option (Bf (leaves IB)⊕(List Int×Bf (leaves N3))):=Lk.f (DY 1 Tryz.prog UM Zj Tryz.f196 IC IB Jz 228 [.i64,.i64] N3 v)
theorem fW(v):VN v=DY 1 Tryz.prog UM Zj Tryz.f196 IC IB Jz 228 [.i64,.i64] N3 v:=A0 _
theorem SN:B0 Tryz.prog 1 Zj (B5 Tryz.f196) 0:=DR _ 0 (by kernel_rfl)
theorem AEM:H7 Tryz.prog 196 (BX 1 2 IC IB Jz fun x=>Dg (VN x)) (I5 1 2 IC IB Jz 228 [.i64,.i64] N3 VN):=MA Il.1 Il.2.1 Il.2.2 Tryz.func196 (G2 (by kernel_rfl)) (Cj Tryz.func196 (by kernel_rfl) (by kernel_rfl)) (AZn rfl) fW SN
theorem AEL:BS Tryz.prog 196 (BX 1 2 IC IB Jz fun x=>Dg (VN x)):=L9 Il Tryz.func196 (by kernel_rfl) (by kernel_rfl) rfl fW SN
def UL[Lk]:Env:=Env.Xx UM 196 1 136 (BX 1 2 IC IB Jz fun x=>Dg (VN x)) (I5 1 2 IC IB Jz 228 [.i64,.i64] N3 VN)
theorem Ik:BH Tryz.prog UL:=Env.uP Il AEL AEM (CR rfl rfl)
abbrev Ks:A1:=[Ado,Adn,Aca]
abbrev Kr:A1:=[AA,Av,Adn,Aca]
abbrev Mq:List RS:=[.one]
abbrev SJ:A1:=[Av]
def kI[Lk]:Hints:={ fp:=Tj [(1,[[],[0],[0],[0],[],[0],[0],[0]])] }
def fS[Lk](v:Bf (leaves Ks)):Option (Bf (leaves Kr)⊕(List Int×Bf (leaves SJ))):=Lk.f (DY 1 Tryz.prog UL kI Tryz.f198 Ks Kr Mq 228 [.i64,.i64] SJ v)
theorem pr(v):fS v=DY 1 Tryz.prog UL kI Tryz.f198 Ks Kr Mq 228 [.i64,.i64] SJ v:=A0 _
theorem XJ:B0 Tryz.prog 1 kI (B5 Tryz.f198) 0:=DR _ 0 (by kernel_rfl)
theorem AKD:H7 Tryz.prog 198 (BX 1 1 Ks Kr Mq fun x=>Dg (fS x)) (I5 1 1 Ks Kr Mq 228 [.i64,.i64] SJ fS):=MA Ik.1 Ik.2.1 Ik.2.2 Tryz.func198 (G2 (by kernel_rfl)) (Cj Tryz.func198 (by kernel_rfl) (by kernel_rfl)) (AZn rfl) pr XJ
theorem AKC:BS Tryz.prog 198 (BX 1 1 Ks Kr Mq fun x=>Dg (fS x)):=L9 Ik Tryz.func198 (by kernel_rfl) (by kernel_rfl) rfl pr XJ
def QS[Lk]:Env:=Env.ny UL 198 true (BX 1 1 Ks Kr Mq fun x=>Dg (fS x)) (I5 1 1 Ks Kr Mq 228 [.i64,.i64] SJ fS)
theorem E':BH Tryz.prog QS:=Env.ZN Ik AKC AKD (fun _=>CR rfl rfl)
abbrev Adp:Loc×Con:=(.cell 1 2,.own 70 (.prod (.int .i64) (.prod (.int .i64) (.prod (.int .i64) .unit))))
abbrev Adq:Loc×Con:=(.cell 1 1,.own 39 (.prod (.int .i64) (.prod (.int .i64) .unit)))
abbrev Ph:A1:=[Ado,Adn,Aca,Aci,AJ,Adq,Adp,AdP,(.tmp 20,.di)]
abbrev Pg:BF:=[(.exit 0,[Ado,Adn,Aca,Aci,AJ,Adq,Adp])]
abbrev Pf:A1:=[Av]
def ga[Lk]:Hints:={ fp:=Tj [(9,[[2],[2],[],[1000005,1],[],[1000005,1],[],[1000005,1],[],[],[7,32],[2],[3]]),(10,[[2],[2],[],[1000005,1],[],[1000005,1],[],[],[5,24],[2],[3]])] }
theorem SS:B0 Tryz.prog 1 { fp:=Tj [(9,[[2],[2],[],[1000005,1],[],[1000005,1],[],[1000005,1],[],[],[7,32],[2],[3]]),(10,[[2],[2],[],[1000005,1],[],[1000005,1],[],[],[5,24],[2],[3]])],loop:=fun _=>ND 1 49 Ph Pg 228 [.i64,.i64] Pf (KB Tryz.prog QS ga 1 1 49 (C6 Tryz.f140 0) Ph Pg 228 [.i64,.i64] Pf) } (B5 Tryz.f140) 0:=YC (l:=[(0,(C6 Tryz.f140 0))]) (by kernel_rfl) ⟨bl E'.1 E'.2.1 E'.2.2 (fun _=>rfl) (DR _ _ (by kernel_rfl)),trivial⟩
abbrev IG:A1:=[Ado,Adn,Aca]
abbrev Adr:Loc×Con:=(.tmp 0,.dat (.prod (.int .i64) (.prod (.slice (.prod (.int .i64) (.prod (.int .i64) .unit))) (.prod (.slice (.prod (.int .i64) (.prod (.int .i64) (.prod (.int .i64) .unit)))) .unit))))
abbrev IF:A1:=[Adr,Av,Adn,Aca]
abbrev J1:List RS:=[.one]
abbrev N8:A1:=[Av]
def p7[Lk]:Hints:={ fp:=Tj [(9,[[2],[2],[],[1000005,1],[],[1000005,1],[],[1000005,1],[],[],[7,32],[2],[3]]),(10,[[2],[2],[],[1000005,1],[],[1000005,1],[],[],[5,24],[2],[3]])],loop:=fun _=>ND 1 49 Ph Pg 228 [.i64,.i64] Pf (KB Tryz.prog QS ga 1 1 49 (C6 Tryz.f140 0) Ph Pg 228 [.i64,.i64] Pf) }
def VR[Lk](v:Bf (leaves IG)):Option (Bf (leaves IF)⊕(List Int×Bf (leaves N8))):=Lk.f (DY 1 Tryz.prog QS p7 Tryz.f140 IG IF J1 228 [.i64,.i64] N8 v)
theorem gb(v):VR v=DY 1 Tryz.prog QS p7 Tryz.f140 IG IF J1 228 [.i64,.i64] N8 v:=A0 _
theorem AEQ:H7 Tryz.prog 140 (BX 1 1 IG IF J1 fun x=>Dg (VR x)) (I5 1 1 IG IF J1 228 [.i64,.i64] N8 VR):=MA E'.1 E'.2.1 E'.2.2 Tryz.func140 (G2 (by kernel_rfl)) (Cj Tryz.func140 (by kernel_rfl) (by kernel_rfl)) (AZn rfl) gb SS
theorem AEP:BS Tryz.prog 140 (BX 1 1 IG IF J1 fun x=>Dg (VR x)):=L9 E' Tryz.func140 (by kernel_rfl) (by kernel_rfl) rfl gb SS
def PW[Lk]:Env:=Env.ny QS 140 false (BX 1 1 IG IF J1 fun x=>Dg (VR x)) (I5 1 1 IG IF J1 228 [.i64,.i64] N8 VR)
theorem Im:BH Tryz.prog PW:=Env.ZN E' AEP AEQ (by simp)
abbrev Ads:Loc×Con:=(.tmp 2,.own 30 (.prod (.int .i64) (.prod (.slice (.prod (.int .i64) (.prod (.int .i64) .unit))) (.prod (.slice (.prod (.int .i64) (.prod (.int .i64) (.prod (.int .i64) .unit)))) .unit))))
abbrev Adt:Loc×Con:=(.cell 2 0,.dat (.slice (.int .u8)))
abbrev Mu:A1:=[Am,Ao,AG,AJ,(.tmp 5,.box 2),Adt,AdD,Adm,Ads]
abbrev Mt:BF:=[(.exit 0,[Am,Ao,AG,AJ,(.tmp 5,.box 2),Adt,AdD,Adm,Ads])]
abbrev Ms:A1:=[Am,Ao,AG,AJ,Ads]
def Zr[Lk]:Hints:={}
theorem eK[DfI]:B0 Tryz.prog 2 { fp:=Tj [(5,[[],[],[4],[4],[4],[],[1],[3]])],loop:=fun _=>ND 2 27 Mu Mt 228 [.i64,.i64] Ms (KB Tryz.prog PW Zr 1 2 27 (C6 Tryz.f69 0) Mu Mt 228 [.i64,.i64] Ms) } (vB 1 (B5 Tryz.f69)) 0:=YC (l:=[(0,(C6 Tryz.f69 0))]) (by kernel_rfl) ⟨bl Im.1 Im.2.1 Im.2.2 (fun _=>rfl) (DR _ _ (by kernel_rfl)),trivial⟩
def QU[Lk]:Env:=PW.ext 139 false false (CE Tryz.prog PW {} Tryz.f139)
theorem JP:BH Tryz.prog QU:=Env.CB Im (Bq Im Tryz.func139 (by kernel_rfl) (by kernel_rfl) (by kernel_rfl)) (by simp) (by simp)
abbrev Ll:A1:=[Adm]
abbrev Lj:A1:=[(.tmp 0,.dat (.slice (.prod (.int .i64) (.prod (.slice (.prod (.int .i64) (.prod (.int .i64) .unit))) (.prod (.slice (.prod (.int .i64) (.prod (.int .i64) (.prod (.int .i64) .unit)))) .unit))))),AD,AE]
abbrev Pj:List RS:=[.one,.one,.one]
abbrev gd:A1:=[Am,Ao,AG,AJ,Adm,(.tmp 2,.nil (.prod (.int .i64) (.prod (.slice (.prod (.int .i64) (.prod (.int .i64) .unit))) (.prod (.slice (.prod (.int .i64) (.prod (.int .i64) (.prod (.int .i64) .unit)))) .unit))))]
def Zq[Lk]:Hints:={ fp:=Tj [(5,[[],[],[4],[4],[4],[],[1],[3]])],loop:=fun _=>ND 2 27 Mu Mt 228 [.i64,.i64] Ms (KB Tryz.prog PW Zr 1 2 27 (C6 Tryz.f69 0) Mu Mt 228 [.i64,.i64] Ms) }
def Zp:Hints:={ fp:=Tj [(2,[[14],[14],[14],[14],[1],[3]])] }
def Mv[Lk](v:Bf (leaves Ll)):Option (Bf (leaves Lj)):=Lk.f (RT Tryz.prog QU Tryz.f69 1 Ll Lj Pj {} Zq Zp gd 2 v)
theorem wT(v):Mv v=RT Tryz.prog QU Tryz.f69 1 Ll Lj Pj {} Zq Zp gd 2 v:=A0 _
theorem k7:BS Tryz.prog 69 (BX 0 1 Ll Lj Pj Mv):=tJ JP.1 JP.2.1 JP.2.2 Tryz.func69 (G2 (by kernel_rfl)) (Cj Tryz.func69 (by kernel_rfl) (by kernel_rfl)) (AZn rfl) wT eK
def j5[Lk]:Env:=QU.ext 69 true true (BX 0 1 Ll Lj Pj Mv)
theorem pL:BH Tryz.prog j5:=Env.CB JP k7 (fun _=>NB rfl rfl) (fun _=>CR rfl rfl)
end
end Go.Pev
end
section
namespace Go.Pev
noncomputable section
abbrev Adu:Loc×Con:=(.tmp 0,.dat (.prod Uo U3))
abbrev AN7:A1:=[Adu,AD]
def tu[Lk]:Ub->Option ((V5×Int×Unit)):=fun(a,_)=>
 match(ilt a 1)with
 |true=>some (((0,(([]:List U2),())),(0,(0,()))),1,())
 |false=>match(ilt 64 a)with
 |true=>some (((0,(([]:List U2),())),(0,(0,()))),1,())
 |false=>some (((a,(([]:List U2),())),(0,(0,()))),0,())
def cO[Lk]:=lkk tu
theorem AH5 v:cO v=tu v:=A0 _
abbrev ck:BF:=[(.exit 0,[AcE])]
def KW[Lk]:Vk->Option (Vk⊕Va⊕Unit):=fun(f,a,c,b,_)=>
 match(ilt b (A3 a))with
 |true=>match idx a b with|none=>none|some d=>match idx a b with|none=>none|some e=>match(fits ((A3 c)+(A3 ([(d.1,(e.2.1,()))]:List U4))))with
  |true=>some (.inl (f,a,(Bi c ([(d.1,(e.2.1,()))]:List U4)),(w64 (b+1)),()))
  |false=>none
 |false=>some (.inr (.inl (c,())))
def Ww[Lk]:(Ue×Unit)->Option (Va):=fun(a,_)=>
 match Fl ((a.1,(a.2.1,())),())with|none=>none|some (b,_)=>match(!b)with
 |true=>some (([]:List U4),())
 |false=>match A_ KW many (a.1,a.2.1,([]:List U4),0,())with|none=>none|some r=>match r with
 |.inl (c,_)=>some (c,())
 |.inr _=>none
def Tu[Lk]:=lkk Ww
theorem cm v:Tu v=Ww v:=A0 _
def I1[Lk]:Uf->Option (Uc):=fun(a,_)=>
 match NL (a,())with|none=>none|some (b,_)=>some ((ile 0 b),())
def H4[Lk]:=lkk I1
theorem Mg v:H4 v=I1 v:=A0 _
abbrev T6:A1:=[Av,AG,Au,AB]
def Gy[Lk]:(List Int×Int×List U5×Unit)->Option ((Int×List U5×Bool×Unit)):=fun(a,b,c,_)=>
 match KR (a,b,c,())with|none=>none|some (d,e,f,_)=>some (d,e,(ile 0 f),())
def Fs[Lk]:=lkk Gy
theorem Kb v:Fs v=Gy v:=A0 _
abbrev ez:A1:=[Av,AG,AcD,AB]
def Le[Lk]:(List Int×Int×List U2×Unit)->Option ((Int×List U2×Bool×Unit)):=fun(a,b,c,_)=>
 match Rq (a,b,c,())with|none=>none|some (d,e,f,_)=>some (d,e,(ile 0 f),())
def LJ[Lk]:=lkk Le
theorem PF v:LJ v=Le v:=A0 _
abbrev cz:A1:=[AdY,Adf,AJ,Ade,Adl]
abbrev Yc:A1:=[AdY,Adf,AJ,Ade,Ai,Adc,Acf,AcC]
abbrev Yb:BF:=[(.exit 0,[AdY,Adf,AJ,Ade,Ai,Acf])]
def Fq[Lk]:Vm->Option (Vm⊕(List Int×Int×List U5×Int×Unit)⊕Unit):=fun(a,d,e,c,b,_)=>
 match(ilt b (A3 a))with
 |true=>match idx a b with|none=>none|some f=>match(!(ile d (A7 a (A2 b) 0)))with
  |true=>match idx a c with|none=>none|some g=>some (.inl ((Bb a (A2 c) (A7 a (A2 b) 0)),d,e,(w64 (c+1)),(w64 (b+1)),()))
  |false=>some (.inl (a,d,e,c,(w64 (b+1)),()))
 |false=>some (.inr (.inl (a,d,e,c,())))
def Ka[Lk]:(List Int×Int×List U5×Unit)->Option ((List Int×Int×List U5×Int×Unit)):=fun(h,i,j,_)=>
 match NM (h,i,j,())with|none=>none|some (c,e,f,d,_)=>match(ieq d (-1:Int))with
 |true=>some (c,e,f,(A3 c),())
 |false=>match A_ Fq many (c,e,f,d,(w64 (d+1)),())with|none=>none|some r=>match r with
 |.inl (a,k,l,b,_)=>match Ci a b (A3 a)with|none=>none|some g=>match Ci (Bp (A2 b) (A2 (A3 g)) 0 a) 0 b with|none=>none|some m=>some ((Bp (A2 b) (A2 (A3 g)) 0 a),k,l,(((A2 (A3 m)):Nat):Int),())
 |.inr _=>none
def JM[Lk]:=lkk Ka
theorem Nu v:JM v=Ka v:=A0 _
def aX[Lk]:Uf->Option (Uc):=fun(a,_)=>
 match(ilt 1000 (A3 a))with
 |true=>some (false,())
 |false=>match H4 (a,())with|none=>none|some (b,_)=>match(!b)with
 |true=>match once (a,())with|none=>none|some (c,_)=>some (c,())
 |false=>some (false,())
def Vu[Lk]:=lkk aX
theorem iP v:Vu v=aX v:=A0 _
abbrev rb:A1:=[AR,Ar]
abbrev AFp:A1:=[AM,AT,(.tmp 12,.dat U7),AL,Ac6]
abbrev AFo:BF:=[(.exit 0,[AT])]
def Jj[Lk]:Vj->Option (Vj⊕Uf⊕Unit):=fun(c,a,d,e,b,_)=>
 match(ilt b e)with
 |true=>match idx d b with|none=>none|some g=>match Wg (c,g,())with|none=>none|some (f,_)=>match(fits ((A3 a)+(A3 ([f]:List (Int)))))with
  |true=>some (.inl (c,(Bi a ([f]:List (Int))),d,e,(w64 (b+1)),()))
  |false=>none
 |false=>some (.inr (.inl (a,())))
def az[Lk]:V2->Option ((List Int×Bool×Unit)):=fun(a,b,_)=>
 match Vu (a,())with|none=>none|some (d,_)=>match(!d)with
 |true=>some (([]:List (Int)),false,())
 |false=>match A_ Jj many (a,([]:List (Int)),b,(A3 b),0,())with|none=>none|some r=>match r with
 |.inl (c,_)=>match Hh (c,(-1:Int),())with|none=>none|some (e,_)=>some (c,(!e),())
 |.inr _=>none
def places[Lk]:=lkk az
theorem ig v:places v=az v:=A0 _
def l5[Lk]:Ul->Option ((List Int×Bool×Unit)):=fun(a,c,_)=>
 match places (a,([c]:List (Int)),())with|none=>none|some (b,d,_)=>match(!d)with
 |true=>some (([]:List (Int)),false,())
 |false=>match idx b 0 with|none=>none|some f=>match Zw (a,(A7 b 0 0),())with|none=>none|some (e,_)=>some (e,true,())
def rI[Lk]:=lkk l5
theorem rH v:rI v=l5 v:=A0 _
def aY[Lk]:Uf->Option (Uf):=fun(a,_)=>
 match Vu (a,())with|none=>none|some (b,_)=>match(!b)with
 |true=>some (([]:List (Int)),())
 |false=>match(ieq (A3 a) 0)with
 |true=>some (([]:List (Int)),())
 |false=>match ANU (a,())with|none=>none|some (c,_)=>match Wg (a,c,())with|none=>none|some (d,_)=>match Zw (a,d,())with|none=>none|some (e,_)=>some (e,())
def ln[Lk]:=lkk aY
theorem iQ v:ln v=aY v:=A0 _
abbrev AKU:A1:=[Ac]
abbrev AEa:A1:=[AZ,AdO,(.tmp 79,.di)]
abbrev AEX:BF:=[(.ret,[AF]),(.exit 4,[])]
def JU[Lk]:(List Um×Int×Int×Unit)->Option ((List Um×Int×Int×Unit)⊕Uc⊕(Unit)⊕Unit):=fun(b,c,a,_)=>
 match(ilt a c)with
 |true=>match(ieq ((A8 b a).getD 0) 0)with
  |true=>some (.inr (.inl (false,())))
  |false=>some (.inl (b,c,(w64 (a+1)),()))
 |false=>some (.inr (.inr (.inl ())))
abbrev Adv:Loc×Con:=(.tmp 17,.di)
abbrev Adw:Loc×Con:=(.tmp 47,.di)
abbrev Adx:Loc×Con:=(.tmp 28,.di)
abbrev Ady:Loc×Con:=(.tmp 42,.di)
abbrev Adz:Loc×Con:=(.tmp 18,.di)
abbrev Ad0:Loc×Con:=(.tmp 29,.di)
abbrev AEb:A1:=[AcF,AG,Au,AZ,AP,(.tmp 16,.dat Ud),Adv,Adz,(.tmp 26,.dat U7),Adx,Ad0,(.tmp 30,.dat .bool),(.tmp 33,.dat U7),(.tmp 34,.dat .bool),(.tmp 35,.dat .bool),(.tmp 38,.dat U7),Acv,(.tmp 40,.dat U7),Ady,(.tmp 43,.dat .bool),(.tmp 46,.ptr' 0 0),Adw,(.tmp 48,.dat U7),(.tmp 49,.dat .bool),(.tmp 50,.dat .bool),(.tmp 55,.dat U7),(.tmp 56,.di),AdT]
abbrev AEY:BF:=[(.ret,[AF]),(.exit 2,[AcF,AG,Au,AZ,AP,(.tmp 16,.dat Ud),Adv,Adz,(.tmp 26,.dat U7),Adx,Ad0,(.tmp 30,.dat .bool),(.tmp 33,.dat U7),(.tmp 34,.dat .bool),(.tmp 35,.dat .bool),(.tmp 38,.dat U7),Acv,(.tmp 40,.dat U7),Ady,(.tmp 43,.dat .bool),(.tmp 46,.ptr' 0 0),Adw,(.tmp 48,.dat U7),(.tmp 49,.dat .bool),(.tmp 50,.dat .bool)])]
def JV[Lk]:V4->Option (V4⊕Uc⊕(Int×List U5×List Um×Int×List U5×Int×Int×List Int×Int×Int×Bool×List Int×Bool×Bool×List Int×Int×List Int×Int×Bool×Int×List Int×Bool×Bool×Unit)⊕Unit):=fun(c,e,a,f,g,h,i,j,k,l,m,n,o,p,q,r,s,t,u,v,w,x,y,z,A,d,_)=>
 match(ilt d A)with
 |true=>match idx z d with|none=>none|some b=>match(ilt b c)with
  |true=>match(ilt 0 ((A8 a b).getD 0))with
   |true=>some (.inr (.inl (false,())))
   |false=>some (.inl (c,e,(BC a b (w64 (((A8 a b).getD 0)+1))),f,g,h,i,j,k,l,m,n,o,p,q,r,s,t,u,v,w,x,y,z,A,(w64 (d+1)),()))
  |false=>some (.inl (c,e,(BC a b (w64 (((A8 a b).getD 0)+1))),f,g,h,i,j,k,l,m,n,o,p,q,r,s,t,u,v,w,x,y,z,A,(w64 (d+1)),()))
 |false=>some (.inr (.inr (.inl (c,e,a,f,g,h,i,j,k,l,m,n,o,p,q,r,s,t,u,v,w,x,y,()))))
abbrev AEc:A1:=[AcF,AG,Au,AZ,AP,(.tmp 16,.dat Ud),Adv,Adz]
abbrev AEZ:BF:=[(.ret,[AF]),(.exit 0,[AcF,AG,Au,AZ])]
def HJ[Lk]:(Int×List U5×List Um×Int×List U5×Int×Int×Unit)->Option ((Int×List U5×List Um×Int×List U5×Int×Int×Unit)⊕Uc⊕(Int×List U5×List Um×Unit)⊕Unit):=fun(b,j,k,c,l,m,d,_)=>
 match(ilt d m)with
 |true=>match idx l d with|none=>none|some a=>match(ieq (A3 a) 0)with
  |true=>some (.inr (.inl (false,())))
  |false=>match idx a 0 with|none=>none|some e=>match(ile e c)with
  |true=>some (.inr (.inl (false,())))
  |false=>match Vu (a,())with|none=>none|some (f,_)=>match(!f)with
  |true=>some (.inr (.inl (false,())))
  |false=>match ANU (a,())with|none=>none|some (g,_)=>match idx a 0 with|none=>none|some h=>match(!(ieq g h))with
  |true=>some (.inr (.inl (false,())))
  |false=>match goes (b,a,())with|none=>none|some (i,_)=>match(!i)with
  |true=>some (.inr (.inl (false,())))
  |false=>match idx a 0 with|none=>none|some n=>match A_ JV many (b,j,k,n,l,m,d,a,e,c,(ile e c),a,f,(!f),a,g,a,h,(!(ieq g h)),b,a,i,(!i),a,(A3 a),0,())with|none=>none|some r=>match r with
  |.inl (o,_)=>some (.inr (.inl (o,())))
  |.inr r=>match r with
  |.inl (p,q,s,t,u,v,w,x,y,z,A,B,C,D,E,F,G,H,I,J,K,L,M,_)=>some (.inl (p,q,s,t,u,v,(w64 (w+1)),()))
  |.inr _=>none
 |false=>some (.inr (.inr (.inl (b,j,k,()))))
def Z2[Lk]:(Uv×Unit)->Option (Uc):=fun(a,_)=>
 match RA (a.1,())with|none=>none|some (b,_)=>match(!b)with
 |true=>some (false,())
 |false=>match A_ HJ many (a.1,a.2.1,([]:List Um),(-1:Int),a.2.1,(A3 a.2.1),0,())with|none=>none|some r=>match r with
 |.inl (c,_)=>some (c,())
 |.inr r=>match r with
 |.inl (d,g,e,_)=>match A_ JU many (e,d,0,())with|none=>none|some r=>match r with
  |.inl (f,_)=>some (f,())
  |.inr r=>match r with
  |.inl _=>some (true,())
  |.inr _=>none
 |.inr _=>none
def Mz[Lk]:=lkk Z2
theorem gl v:Mz v=Z2 v:=A0 _
abbrev ADx:A1:=[Ac,AD,AE]
def oy[Lk]:(Uv×Int×Int×Unit)->Option (Ub):=fun(a,b,c,_)=>
 match Mz ((a.1,(a.2.1,())),())with|none=>none|some (d,_)=>match(!d)with
 |true=>some (1,())
 |false=>match tin (a.1,b,())with|none=>none|some (e,_)=>match(!e)with
 |true=>some (10,())
 |false=>match tin (a.1,c,())with|none=>none|some (f,_)=>match(!f)with
 |true=>some (10,())
 |false=>some (0,())
def asked[Lk]:=lkk oy
theorem vW v:asked v=oy v:=A0 _
abbrev AQr:A1:=[Ac,Ad,(.tmp 2,.dat Ud)]
abbrev AQq:A1:=[AA,(.tmp 1,.own 51 U7)]
abbrev AQp:List RS:=[.agg 2]
abbrev Ad1:Loc×Con:=(.tmp 7,.own 51 U7)
abbrev Ad2:Loc×Con:=(.cell 1 1,.nil U7)
abbrev Ad3:Loc×Con:=(.tmp 6,.box 2)
abbrev Ad4:Loc×Con:=(.tmp 3,.box 2)
abbrev AKL:A1:=[Ad4,AG,Au,Ad3,AJ,Ad2,Ad1,(.tmp 29,.dat Ud),(.tmp 30,.di),(.tmp 31,.di)]
abbrev AKJ:BF:=[(.exit 2,[Ad4,AG,Au,Ad3,AJ,Ad2,Ad1])]
def OA[Lk]:(Int×List U5×Int×List U5×List U5×Int×Int×Unit)->Option ((Int×List U5×Int×List U5×List U5×Int×Int×Unit)⊕(Int×List U5×Int×List U5×Unit)⊕Unit):=fun(c,d,e,a,f,g,b,_)=>
 match(ilt b g)with
 |true=>match idx f b with|none=>none|some i=>match ln (i,())with|none=>none|some (h,_)=>match(fits ((A3 a)+(A3 ([h]:List U5))))with
  |true=>some (.inl (c,d,e,(Bi a ([h]:List U5)),f,g,(w64 (b+1)),()))
  |false=>none
 |false=>some (.inr (.inl (c,d,e,a,())))
abbrev AKM:A1:=[Ad,(.tmp 2,.dat Ud),Ad4,AG,Au,Ad3,AJ,Ad2,Ad1,(.tmp 13,.dat Ud),Ac6,AdI]
abbrev AKK:BF:=[(.exit 0,[(.tmp 2,.dat Ud),Ad4,AG,Au,Ad3,AJ,Ad2,Ad1])]
def OB[Lk]:(List Int×List U5×Int×List U5×Int×List U5×List U5×Int×Int×Unit)->Option ((List Int×List U5×Int×List U5×Int×List U5×List U5×Int×Int×Unit)⊕(List U5×Int×List U5×Int×List U5×Unit)⊕Unit):=fun(c,d,e,f,g,b,h,i,a,_)=>
 match(ilt a i)with
 |true=>match idx h a with|none=>none|some j=>match Hh (c,a,())with|none=>none|some (k,_)=>match(!k)with
  |true=>match(fits ((A3 b)+(A3 ([j]:List U5))))with
   |true=>some (.inl (c,d,e,f,g,(Bi b ([j]:List U5)),h,i,(w64 (a+1)),()))
   |false=>none
  |false=>some (.inl (c,d,e,f,g,b,h,i,(w64 (a+1)),()))
 |false=>some (.inr (.inl (d,e,f,g,b,())))
def lF[Lk]:(Uv×List Int×List U5×Unit)->Option ((Int×List U5×Unit)):=fun(a,c,d,_)=>
 match A_ OB many (c,d,a.1,a.2.1,0,([]:List U5),a.2.1,(A3 a.2.1),0,())with|none=>none|some r=>match r with
 |.inl (b,e,f,g,h,_)=>match A_ OA many (e,f,g,h,b,(A3 b),0,())with|none=>none|some r=>match r with
  |.inl (i,l,m,j,_)=>match ACC (j,())with|none=>none|some (k,_)=>some (i,k,())
  |.inr _=>none
 |.inr _=>none
def AB2[Lk]:=lkk lF
theorem qD v:AB2 v=lF v:=A0 _
abbrev AQ2:A1:=[AA,(.tmp 1,.dat Ud),AE]
def Yo[Lk]:(Uv×Int×Int×Unit)->Option ((Int×List U5×Int×Unit)):=fun(a,b,c,_)=>
 match asked ((a.1,(a.2.1,())),b,c,())with|none=>none|some (g,_)=>match(!(ieq g 0))with
 |true=>some (a.1,a.2.1,g,())
 |false=>match VV ((a.1,(a.2.1,())),b,())with|none=>none|some (e,_)=>match VV ((a.1,(a.2.1,())),c,())with|none=>none|some (f,_)=>match(ieq e f)with
 |true=>some (a.1,a.2.1,5,())
 |false=>match idx a.2.1 e with|none=>none|some h=>match rI (h,b,())with|none=>none|some (d,r,_)=>match idx a.2.1 f with|none=>none|some i=>match rI (i,c,())with|none=>none|some (j,s,_)=>match Ci d 0 1 with|none=>none|some k=>match AKt (a.1,b,c,())with|none=>none|some (l,_)=>match AKt (a.1,c,b,())with|none=>none|some (m,_)=>match Ci d 1 (A3 d)with|none=>none|some n=>match QO (([(C' 0 (A2 (A3 k)) d),([l]:List (Int)),j,([m]:List (Int)),(C' 1 (A2 (A3 n)) d)]:List U5),())with|none=>none|some (o,_)=>match AB2 ((a.1,(a.2.1,())),([e,f]:List (Int)),([o]:List U5),())with|none=>none|some (p,q,_)=>some (p,q,0,())
def gp[Lk]:=lkk Yo
theorem Z5 v:gp v=Yo v:=A0 _
abbrev AOj:A1:=[Ac,Ad]
def cU[Lk]:(Uv×List Int×Unit)->Option (Ub):=fun(a,b,_)=>
 match Mz ((a.1,(a.2.1,())),())with|none=>none|some (c,_)=>match(!c)with
 |true=>some (1,())
 |false=>match Fs (b,a.1,a.2.1,())with|none=>none|some (e,f,d,_)=>match d with
 |true=>some (10,())
 |false=>some (0,())
def R0[Lk]:=lkk cU
theorem jW v:R0 v=cU v:=A0 _
abbrev AAj:A1:=[Ac,Ab9,(.tmp 2,.clo 202 [])]
abbrev cn:A1:=[Ac,(.tmp 1,.own 4 .bool),AE]
abbrev uY:A1:=[(.tmp 2,.clo 202 []),Ad4,AG,Au,Ad3,AJ,Ad2,(.tmp 10,.own 4 .bool),(.tmp 23,.dat Uy),AcW,AcM]
abbrev uX:BF:=[(.exit 0,[Ad4,AG,Au,Ad3,AJ,Ad2,(.tmp 10,.own 4 .bool)])]
def Ic[Lk]:(Int×List U5×Int×List Bool×List U4×Int×Int×Unit)->Option ((Int×List U5×Int×List Bool×List U4×Int×Int×Unit)⊕(Int×List U5×Int×List Bool×Unit)⊕Unit):=fun(c,d,e,a,f,g,b,_)=>
 match(ilt b g)with
 |true=>match idx f b with|none=>none|some h=>match gp ((c,(d,())),h.1,h.2.1,())with|none=>none|some (j,k,i,_)=>match(fits ((A3 a)+(A3 ([(ieq i 0)]:List (Bool)))))with
  |true=>some (.inl (j,k,e,(Bi a ([(ieq i 0)]:List (Bool))),f,g,(w64 (b+1)),()))
  |false=>none
 |false=>some (.inr (.inl (c,d,e,a,())))
def R3[Lk]:(Uv×List U4×Unit)->Option ((Uv×List Bool×Int×Unit)):=fun(a,b,_)=>
 match ends (b,())with|none=>none|some (d,_)=>match R0 ((a.1,(a.2.1,())),d,())with|none=>none|some (c,_)=>match(!(ieq c 0))with
 |true=>some ((a.1,(a.2.1,())),([]:List (Bool)),c,())
 |false=>match A_ Ic many (a.1,a.2.1,0,([]:List (Bool)),b,(A3 b),0,())with|none=>none|some r=>match r with
 |.inl (e,f,h,g,_)=>some ((e,(f,())),g,0,())
 |.inr _=>none
def cp[Lk]:=lkk R3
theorem X3 v:cp v=R3 v:=A0 _
abbrev AOu:A1:=[Ac,Ab9]
def cY[Lk]:(Uv×List U4×Unit)->Option ((Uv×List Bool×Int×Unit)):=fun(a,c,_)=>
 match cp ((a.1,(a.2.1,())),c,())with|none=>none|some (b,d,e,_)=>some ((b.1,(b.2.1,())),d,e,())
def AAb[Lk]:=lkk cY
theorem ja v:AAb v=cY v:=A0 _
def AOt[Lk]:(Int×List U4×Unit)->Option ((Uv×Int×Unit)):=fun(d,e,_)=>
 match AB5 (d,())with|none=>none|some (f,g,a,_)=>match(!(ieq a 0))with
 |true=>some ((0,(([]:List U5),())),a,())
 |false=>match AAb ((f,(g,())),e,())with|none=>none|some (b,h,c,_)=>match(!(ieq c 0))with
 |true=>some ((0,(([]:List U5),())),c,())
 |false=>some ((b.1,(b.2.1,())),0,())
def fof[Lk]:=lkk AOt
theorem AOs v:fof v=AOt v:=A0 _
abbrev AHY:A1:=[AcF,AG,AcD,AQ,(.tmp 23,.dat Ui),AcW,AcM]
abbrev AHX:BF:=[(.ret,[AF]),(.exit 0,[AcF,AG,AcD])]
def HV[Lk]:(Int×List U2×Int×List U2×Int×Int×Unit)->Option ((Int×List U2×Int×List U2×Int×Int×Unit)⊕Uc⊕(Int×List U2×Unit)⊕Unit):=fun(c,d,f,g,h,b,_)=>
 match(ilt b h)with
 |true=>match idx g b with|none=>none|some a=>match(ilt a.1 0)with
  |true=>some (.inr (.inl (false,())))
  |false=>match(ile a.2.1 a.1)with
  |true=>some (.inr (.inl (false,())))
  |false=>match(ile c a.2.1)with
  |true=>some (.inr (.inl (false,())))
  |false=>match(ilt a.2.2.1 0)with
  |true=>some (.inr (.inl (false,())))
  |false=>match(ilt f a.2.2.1)with
  |true=>some (.inr (.inl (false,())))
  |false=>match(ilt 0 b)with
  |true=>match idx d (w64 (b-1))with|none=>none|some e=>match Fc ((e.1,(e.2.1,(e.2.2.1,(e.2.2.2.1,())))),(a.1,(a.2.1,(a.2.2.1,(a.2.2.2.1,())))),())with|none=>none|some (i,_)=>match(ile 0 i)with
   |true=>some (.inr (.inl (false,())))
   |false=>some (.inl (c,d,f,g,h,(w64 (b+1)),()))
  |false=>some (.inl (c,d,f,g,h,(w64 (b+1)),()))
 |false=>some (.inr (.inr (.inl (c,d,()))))
def ME[Lk]:(Ue×Unit)->Option (Uc):=fun(a,_)=>
 match bj (a.1,())with|none=>none|some (d,_)=>match(!d)with
 |true=>some (false,())
 |false=>match(ilt 400 (A3 a.2.1))with
 |true=>some (false,())
 |false=>match mq (a.1,())with|none=>none|some (e,_)=>match A_ HV many (a.1,a.2.1,e,a.2.1,(A3 a.2.1),0,())with|none=>none|some r=>match r with
 |.inl (f,_)=>some (f,())
 |.inr r=>match r with
 |.inl (b,g,_)=>match WU ((b,(g,())),0,())with|none=>none|some (c,_)=>match fof (b,c,())with|none=>none|some (h,i,_)=>match(ieq i 0)with
  |true=>some ((ieq (A3 h.2.1) (w64 (b-(A3 c)))),())
  |false=>some (false,())
 |.inr _=>none
def Ej[Lk]:=lkk ME
theorem MD v:Ej v=ME v:=A0 _
def AKa[Lk]:(Uv×Int×Unit)->Option (Ub):=fun(a,b,_)=>
 match tin (a.1,b,())with|none=>none|some (c,_)=>match(!c)with
 |true=>some ((-1:Int),())
 |false=>match Mz ((a.1,(a.2.1,())),())with|none=>none|some (d,_)=>match(!d)with
 |true=>some ((-1:Int),())
 |false=>match VV ((a.1,(a.2.1,())),b,())with|none=>none|some (e,_)=>some (e,())
def tof[Lk]:=lkk AKa
theorem AKZ v:tof v=AKa v:=A0 _
def WY[Lk]:(Ue×Int×Unit)->Option ((Uv×Int×Unit)):=fun(a,c,_)=>
 match Ej ((a.1,(a.2.1,())),())with|none=>none|some (d,_)=>match(!d)with
 |true=>some ((0,(([]:List U5),())),1,())
 |false=>match WU ((a.1,(a.2.1,())),c,())with|none=>none|some (e,_)=>match fof (a.1,e,())with|none=>none|some (b,f,_)=>some ((b.1,(b.2.1,())),f,())
def JE[Lk]:=lkk WY
theorem bo v:JE v=WY v:=A0 _
abbrev AHh:A1:=[AcE,(.tmp 10,.dat Ui),AY,AK]
def MF[Lk]:(List U4×List U2×Int×Int×Unit)->Option ((List U4×List U2×Int×Int×Unit)⊕Va⊕Unit):=fun(b,d,e,c,_)=>
 match(ilt c e)with
 |true=>match idx d c with|none=>none|some a=>match(fits ((A3 b)+(A3 ([(a.1,(a.2.1,()))]:List U4))))with
  |true=>some (.inl ((Bi b ([(a.1,(a.2.1,()))]:List U4)),d,e,(w64 (c+1)),()))
  |false=>none
 |false=>some (.inr (.inl (b,())))
def bq[Lk]:(Ue×Unit)->Option (Va):=fun(a,_)=>
 match Ej ((a.1,(a.2.1,())),())with|none=>none|some (b,_)=>match(!b)with
 |true=>some (([]:List U4),())
 |false=>match A_ MF many (([]:List U4),a.2.1,(A3 a.2.1),0,())with|none=>none|some r=>match r with
 |.inl (c,_)=>some (c,())
 |.inr _=>none
def Oq[Lk]:=lkk bq
theorem jI v:Oq v=bq v:=A0 _
abbrev Y6:A1:=[Ay,Ab9]
abbrev ACO:A1:=[Az,AD]
abbrev AMe:A1:=[AH,AG,AcD,(.tmp 6,.box 1),AcH,(.tmp 13,.dat Uy),Ac6,AdI]
abbrev AMd:BF:=[(.ret,[(.tmp 4,.nil U3),Acf]),(.exit 0,[AH,AG,AcD,(.tmp 6,.box 1),AcH])]
def IQ[Lk]:(Int×List U2×List Vf×List U4×Int×Int×Unit)->Option ((Int×List U2×List Vf×List U4×Int×Int×Unit)⊕Ub⊕(Int×List U2×List Vf×Unit)⊕Unit):=fun(c,e,b,f,g,d,_)=>
 match(ilt d g)with
 |true=>match idx f d with|none=>none|some a=>match(ilt (Cl a.1 a.2.1) 0)with
  |true=>some (.inr (.inl (10,())))
  |false=>match(ile c (imax a.1 a.2.1))with
  |true=>some (.inr (.inl (10,())))
  |false=>match(ile 0 (LV b ((Cl a.1 a.2.1),((imax a.1 a.2.1),())))&&ilt (LV b ((Cl a.1 a.2.1),((imax a.1 a.2.1),()))) (A3 (BC b ((Cl a.1 a.2.1),((imax a.1 a.2.1),())) ((A8 b ((Cl a.1 a.2.1),((imax a.1 a.2.1),()))).getD 0))))with
  |true=>some (.inl (c,e,(Rd (BC b ((Cl a.1 a.2.1),((imax a.1 a.2.1),())) ((A8 b ((Cl a.1 a.2.1),((imax a.1 a.2.1),()))).getD 0)) (LV b ((Cl a.1 a.2.1),((imax a.1 a.2.1),()))) (w64 (((A8 b ((Cl a.1 a.2.1),((imax a.1 a.2.1),()))).getD 0)+1))),f,g,(w64 (d+1)),()))
  |false=>none
 |false=>some (.inr (.inr (.inl (c,e,b,()))))
def mN[Lk]:(Ue×List U4×Unit)->Option ((List U4×Int×Unit)):=fun(a,b,_)=>
 match Ej ((a.1,(a.2.1,())),())with|none=>none|some (c,_)=>match(!c)with
 |true=>some (([]:List U4),1,())
 |false=>match A_ IQ many (a.1,a.2.1,([]:List Vf),b,(A3 b),0,())with|none=>none|some r=>match r with
 |.inl (d,_)=>some (([]:List U4),d,())
 |.inr r=>match r with
 |.inl (e,f,g,_)=>match Oq ((e,(f,())),())with|none=>none|some (h,_)=>match Nb (h,g,())with|none=>none|some (i,k,j,_)=>some ((CT (A2 j) i),0,())
 |.inr _=>none
def ri[Lk]:=lkk mN
theorem rh v:ri v=mN v:=A0 _
abbrev Ad5:Loc×Con:=(.tmp 6,.map U3 U0)
abbrev ATz:A1:=[AH,AG,AcD,Ad5,(.tmp 9,.own 39 U3),(.tmp 26,.dat Uy),AU,Adx]
abbrev ATx:BF:=[(.ret,[(.tmp 4,.nil U3),Acf]),(.exit 2,[(.tmp 9,.own 39 U3)])]
def QF[Lk]:(Int×List U2×List Vf×List U4×List U4×Int×Int×Unit)->Option ((Int×List U2×List Vf×List U4×List U4×Int×Int×Unit)⊕Ub⊕Va⊕Unit):=fun(d,h,e,b,f,g,c,_)=>
 match(ilt c g)with
 |true=>match idx f c with|none=>none|some a=>match(ilt (Cl a.1 a.2.1) 0)with
  |true=>some (.inr (.inl (10,())))
  |false=>match(ile d (imax a.1 a.2.1))with
  |true=>some (.inr (.inl (10,())))
  |false=>match(ilt (Cl a.1 a.2.1) (imax a.1 a.2.1))with
  |true=>match(ieq ((A8 e ((Cl a.1 a.2.1),((imax a.1 a.2.1),()))).getD 0) 0)with
   |true=>match(fits ((A3 b)+(A3 ([((Cl a.1 a.2.1),((imax a.1 a.2.1),()))]:List U4))))with
    |true=>some (.inl (d,h,(BC e ((Cl a.1 a.2.1),((imax a.1 a.2.1),())) 1),(Bi b ([((Cl a.1 a.2.1),((imax a.1 a.2.1),()))]:List U4)),f,g,(w64 (c+1)),()))
    |false=>none
   |false=>some (.inl (d,h,e,b,f,g,(w64 (c+1)),()))
  |false=>some (.inl (d,h,e,b,f,g,(w64 (c+1)),()))
 |false=>some (.inr (.inr (.inl (b,()))))
abbrev AT0:A1:=[Ab9,AH,AG,AcD,Ad5,(.tmp 17,.own 39 U3),Adz,AdP]
abbrev ATy:BF:=[(.exit 0,[Ab9,AH,AG,AcD,Ad5])]
def QG[Lk]:(List U4×Int×List U2×List Vf×List U4×Int×Int×Unit)->Option ((List U4×Int×List U2×List Vf×List U4×Int×Int×Unit)⊕(List U4×Int×List U2×List Vf×Unit)⊕Unit):=fun(c,d,e,f,b,g,a,_)=>
 match(ilt a g)with
 |true=>match idx b a with|none=>none|some h=>some (.inl (c,d,e,(BC f ((A7 b (A2 a) (0,(0,()))).1,((A7 b (A2 a) (0,(0,()))).2.1,())) 1),b,g,(w64 (a+1)),()))
 |false=>some (.inr (.inl (c,d,e,f,())))
def AAU[Lk]:(Ue×List U4×Unit)->Option ((List U4×Int×Unit)):=fun(a,d,_)=>
 match Ej ((a.1,(a.2.1,())),())with|none=>none|some (e,_)=>match(!e)with
 |true=>some (([]:List U4),1,())
 |false=>match Oq ((a.1,(a.2.1,())),())with|none=>none|some (b,_)=>match A_ QG many (d,a.1,a.2.1,([]:List Vf),b,(A3 b),0,())with|none=>none|some r=>match r with
 |.inl (c,f,g,h,_)=>match A_ QF many (f,g,h,([]:List U4),c,(A3 c),0,())with|none=>none|some r=>match r with
  |.inl (i,_)=>some (([]:List U4),i,())
  |.inr r=>match r with
  |.inl (j,_)=>match ACD (j,())with|none=>none|some (k,_)=>some (k,0,())
  |.inr _=>none
 |.inr _=>none
def AOg[Lk]:=lkk AAU
theorem ADT v:AOg v=AAU v:=A0 _
def pC[Lk]:(Ue×Unit)->Option (Ub):=fun(a,_)=>
 match Ej ((a.1,(a.2.1,())),())with|none=>none|some (b,_)=>match(!b)with
 |true=>some (0,())
 |false=>some ((w64 (400-(A3 a.2.1))),())
def ADy[Lk]:=lkk pC
theorem vX v:ADy v=pC v:=A0 _
abbrev Ad6:Loc×Con:=(.tmp 2,.dat (.prod U0 (.prod U0 (.prod Uk .unit))))
abbrev Ad7:Loc×Con:=(.tmp 1,.dat (.prod U0 (.prod Uy (.prod Ur .unit))))
abbrev AQU:A1:=[Ay,Ad7,Ad6]
abbrev AQT:A1:=[AA,(.tmp 1,.own 39 U3),(.tmp 2,.dat Ur),AQ,AP]
def PR[Lk]:(Ue×Ve×(Int×Int×Ut×Unit)×Unit)->Option ((Int×List U4×List U9×Int×Int×Unit)):=fun(c,a,b,_)=>
 match Ej ((c.1,(c.2.1,())),())with|none=>none|some (j,_)=>match(!j)with
 |true=>some (0,([]:List U4),([]:List U9),0,1,())
 |false=>match kH ((a.1,(a.2.1,(a.2.2.1,()))),())with|none=>none|some (k,_)=>match(!k)with
 |true=>some (0,([]:List U4),([]:List U9),0,1,())
 |false=>match ADw ((a.1,(a.2.1,(a.2.2.1,()))),())with|none=>none|some (l,_)=>match LJ (l,c.1,c.2.1,())with|none=>none|some (d,e,m,_)=>match m with
 |true=>some (0,([]:List U4),([]:List U9),0,10,())
 |false=>match(ieq a.1 3)with
 |true=>some (a.1,([]:List U4),a.2.2.1,0,0,())
 |false=>match PC (a.2.1,(b.1,(b.2.1,((b.2.2.1.1,(b.2.2.1.2.1,(b.2.2.1.2.2.1,()))),()))),())with|none=>none|some (f,g,h,_)=>match(!(ieq h 0))with
 |true=>some (0,([]:List U4),([]:List U9),0,h,())
 |false=>match(ieq a.1 2)with
 |true=>match ri ((d,(e,())),f,())with|none=>none|some (n,o,_)=>some (a.1,n,([]:List U9),g,o,())
 |false=>match AOg ((d,(e,())),f,())with|none=>none|some (i,p,_)=>match ADy ((d,(e,())),())with|none=>none|some (q,_)=>match(ilt q (A3 i))with
 |true=>some (0,([]:List U4),([]:List U9),0,2,())
 |false=>some (a.1,i,([]:List U9),g,p,())
def Kk[Lk]:=lkk PR
theorem QQ v:Kk v=PR v:=A0 _
def mu[Lk]:V5->Option (Ub):=fun(a,b,c,_)=>
 match Ej ((a.1,(a.2.1,())),())with|none=>none|some (d,_)=>match(!d)with
 |true=>some ((-1:Int),())
 |false=>match zw ((a.1,(a.2.1,())),b,c,())with|none=>none|some (e,f,_)=>match(!f)with
 |true=>some ((-1:Int),())
 |false=>some (e,())
def tU[Lk]:=lkk mu
theorem tT v:tU v=mu v:=A0 _
abbrev NU:A1:=[AR,AD]
def R2[Lk]:(Uv×Int×Unit)->Option (Ul):=fun(a,b,_)=>
 match R0 ((a.1,(a.2.1,())),([b]:List (Int)),())with|none=>none|some (c,_)=>match(!(ieq c 0))with
 |true=>some (([]:List (Int)),c,())
 |false=>match tof ((a.1,(a.2.1,())),b,())with|none=>none|some (d,_)=>match idx a.2.1 d with|none=>none|some e=>match Lh e with|none=>none|some f=>match JM (f,a.1,a.2.1,())with|none=>none|some (g,j,k,h,_)=>match qb ((CT (A2 h) g),())with|none=>none|some (i,_)=>some (i,0,())
def MS[Lk]:=lkk R2
theorem Xu v:MS v=R2 v:=A0 _
def S0[Lk]:V5->Option (U4):=fun(a,b,c,_)=>
 match Ej ((a.1,(a.2.1,())),())with|none=>none|some (e,_)=>match(!e)with
 |true=>some (0,1,())
 |false=>match(ilt (Cl b c) 0)with
 |true=>some (0,10,())
 |false=>match(ile a.1 (imax b c))with
 |true=>some (0,10,())
 |false=>match tU ((a.1,(a.2.1,())),b,c,())with|none=>none|some (d,_)=>match(ilt d 0)with
 |true=>some (0,6,())
 |false=>some (d,0,())
def WA[Lk]:=lkk S0
theorem V_ v:WA v=S0 v:=A0 _
abbrev AR9:A1:=[Ay,AD,AE,AQ]
def Y2[Lk]:(Ue×Int×Int×Int×Unit)->Option (Ul):=fun(b,g,f,h,_)=>
 match WA ((b.1,(b.2.1,())),g,f,())with|none=>none|some (m,c,_)=>match(ieq c 1)with
 |true=>some (([]:List (Int)),c,())
 |false=>match(ieq c 10)with
 |true=>some (([]:List (Int)),c,())
 |false=>match JE ((b.1,(b.2.1,())),h,())with|none=>none|some (d,n,_)=>match MS ((d.1,(d.2.1,())),g,())with|none=>none|some (a,o,_)=>match MS ((d.1,(d.2.1,())),f,())with|none=>none|some (e,p,_)=>match Hh (a,f,())with|none=>none|some (i,_)=>match i with
 |true=>some (([]:List (Int)),5,())
 |false=>match Eb ((A3 a),(A3 e),())with|none=>none|some (j,_)=>match idx a 0 with|none=>none|some q=>match idx e 0 with|none=>none|some r=>match Eb ((A7 a 0 0),(A7 e 0 0),())with|none=>none|some (k,_)=>match orI (([j,k]:List (Int)),())with|none=>none|some (l,_)=>match(ilt l 0)with
 |true=>some (a,0,())
 |false=>some (e,0,())
def ACJ[Lk]:=lkk Y2
theorem au v:ACJ v=Y2 v:=A0 _
abbrev Ad8:Loc×Con:=(.cell 0 2,.dat .bool)
abbrev Ad9:Loc×Con:=(.cell 0 1,.own 66 U1)
abbrev AeA:Loc×Con:=(.cell 0 4,.di)
abbrev AYE:A1:=[(.tmp 0,.box 8),AG,Ad9,Ad8,Adb,AeA,Acq,Acs,Ac1,AD,AE,AQ]
abbrev AYD:A1:=[Ac4,AG,Ad9,Ad8,Adb,AeA,Acq,Acs,Ac1,Ac2,AB]
abbrev AeB:Loc×Con:=(.tmp 14,.clo 225 [(2,0)])
abbrev AeC:Loc×Con:=(.cell 2 0,.map U0 U0)
abbrev AWI:A1:=[Ac4,AG,Ad9,Ad8,Adb,AeA,Acq,Acs,Ac1,Ac2,Ac5,(.cap 14 0,.box 1),AeC,AeB,(.tmp 86,.prs 321 1),(.tmp 87,.di),(.tmp 88,.di)]
abbrev AWF:BF:=[(.exit 5,[Ac4,AG,Ad9,Ad8,Adb,AeA,Acq,Acs,Ac1,Ac2]),(.ret,[Ac4,AG,Ad9,Ad8,Adb,AeA,Acq,Acs,Ac1,Ac2,Aq])]
def WD[Lk]:(Int×List U2×Bool×Bool×Int×Int×Int×Int×List Um×List Int×Int×Int×Unit)->Option ((Int×List U2×Bool×Bool×Int×Int×Int×Int×List Um×List Int×Int×Int×Unit)⊕(Int×List U2×Bool×Bool×Int×Int×Int×Int×Unit)⊕(Int×List U2×Bool×Bool×Int×Int×Int×Int×Bool×Unit)⊕Unit):=fun(f,c,g,i,j,k,h,e,d,b,l,a,_)=>
 match(ilt a l)with
 |true=>match idx b a with|none=>none|some m=>match(ieq (w64 (((A8 d (A7 c (A2 (A7 b (A2 a) 0)) (0,(0,(0,(false,()))))).1).getD 0)+((A8 d (A7 c (A2 (A7 b (A2 a) 0)) (0,(0,(0,(false,()))))).2.1).getD 0))) 0)with
  |true=>some (.inl (f,c,g,i,j,k,h,e,d,b,l,(w64 (a+1)),()))
  |false=>match(ieq (w64 (((A8 d (A7 c (A2 (A7 b (A2 a) 0)) (0,(0,(0,(false,()))))).1).getD 0)+((A8 d (A7 c (A2 (A7 b (A2 a) 0)) (0,(0,(0,(false,()))))).2.1).getD 0))) 2)with
  |true=>some (.inl (f,(Bb c (A2 (A7 b (A2 a) 0)) ((A7 c (A2 (A7 b (A2 a) 0)) (0,(0,(0,(false,()))))).1,((A7 c (A2 (A7 b (A2 a) 0)) (0,(0,(0,(false,()))))).2.1,((Cl e (w64 ((A7 c (A2 (A7 b (A2 a) 0)) (0,(0,(0,(false,()))))).2.2.1+1))),((A7 c (A2 (A7 b (A2 a) 0)) (0,(0,(0,(false,()))))).2.2.2.1,()))))),g,i,j,k,(w64 (h+1)),e,d,b,l,(w64 (a+1)),()))
  |false=>match(ieq (w64 (((A8 d (A7 c (A2 (A7 b (A2 a) 0)) (0,(0,(0,(false,()))))).1).getD 0)+((A8 d (A7 c (A2 (A7 b (A2 a) 0)) (0,(0,(0,(false,()))))).2.1).getD 0))) 1)with
  |true=>some (.inr (.inr (.inl (f,(Bb c (A2 (A7 b (A2 a) 0)) ((A7 c (A2 (A7 b (A2 a) 0)) (0,(0,(0,(false,()))))).1,((A7 c (A2 (A7 b (A2 a) 0)) (0,(0,(0,(false,()))))).2.1,((A7 c (A2 (A7 b (A2 a) 0)) (0,(0,(0,(false,()))))).2.2.1,(true,()))))),g,true,(A7 (Bb c (A2 (A7 b (A2 a) 0)) ((A7 c (A2 (A7 b (A2 a) 0)) (0,(0,(0,(false,()))))).1,((A7 c (A2 (A7 b (A2 a) 0)) (0,(0,(0,(false,()))))).2.1,((A7 c (A2 (A7 b (A2 a) 0)) (0,(0,(0,(false,()))))).2.2.1,(true,()))))) (A2 (A7 b (A2 a) 0)) (0,(0,(0,(false,()))))).1,(A7 (Bb c (A2 (A7 b (A2 a) 0)) ((A7 c (A2 (A7 b (A2 a) 0)) (0,(0,(0,(false,()))))).1,((A7 c (A2 (A7 b (A2 a) 0)) (0,(0,(0,(false,()))))).2.1,((A7 c (A2 (A7 b (A2 a) 0)) (0,(0,(0,(false,()))))).2.2.1,(true,()))))) (A2 (A7 b (A2 a) 0)) (0,(0,(0,(false,()))))).2.1,h,e,true,()))))
  |false=>some (.inl (f,c,g,i,j,k,h,e,d,b,l,(w64 (a+1)),()))
 |false=>some (.inr (.inl (f,c,g,i,j,k,h,e,())))
abbrev AWJ:A1:=[Ac4,AG,Ad9,Ad8,Adb,AeA,Acq,Acs,Ac1,Ac2,Ac5,AQ,(.cap 14 0,.box 1),AeC,AeB,(.tmp 15,.prs 321 1),Adw,(.tmp 48,.di)]
abbrev AWG:BF:=[(.exit 2,[Ac4,AG,Ad9,Ad8,Adb,AeA,Acq,Acs,Ac1,Ac2,Ac5,(.cap 14 0,.box 1),AeC,AeB,(.tmp 15,.prs 321 1)])]
def WE[Lk]:Uu->Option (Uu⊕(Int×List U2×Bool×Bool×Int×Int×Int×Int×List Um×List Int×Unit)⊕Unit):=fun(f,b,g,h,i,j,k,d,l,c,e,m,a,_)=>
 match(ilt a m)with
 |true=>match idx b a with|none=>none|some n=>match(!(ieq (A7 b (A2 a) (0,(0,(0,(false,()))))).2.2.1 l))with
  |true=>some (.inl (f,b,g,h,i,j,k,d,l,c,e,m,(w64 (a+1)),()))
  |false=>match(!(A7 b (A2 a) (0,(0,(0,(false,()))))).2.2.2.1)with
  |true=>match(fits ((A3 e)+(A3 ([(Int.ofNat (A2 a))]:List (Int)))))with
   |true=>some (.inl (f,b,g,h,i,j,k,d,l,c,(Bi e ([(Int.ofNat (A2 a))]:List (Int))),m,(w64 (a+1)),()))
   |false=>none
  |false=>match(ieq (w64 (((A8 c (A7 b (A2 a) (0,(0,(0,(false,()))))).1).getD 0)+((A8 c (A7 b (A2 a) (0,(0,(0,(false,()))))).2.1).getD 0))) 2)with
  |true=>some (.inl (f,(Bb b (A2 a) ((A7 b (A2 a) (0,(0,(0,(false,()))))).1,((A7 b (A2 a) (0,(0,(0,(false,()))))).2.1,((Cl d (w64 ((A7 b (A2 a) (0,(0,(0,(false,()))))).2.2.1+1))),((A7 b (A2 a) (0,(0,(0,(false,()))))).2.2.2.1,()))))),g,h,i,j,(w64 (k+1)),d,l,c,e,m,(w64 (a+1)),()))
  |false=>some (.inl (f,b,g,h,i,j,k,d,l,c,e,m,(w64 (a+1)),()))
 |false=>some (.inr (.inl (f,b,g,h,i,j,k,d,c,e,())))
abbrev AWK:A1:=[Ac4,AG,Ad9,Ad8,Adb,AeA,Acq,Acs,Ac1,Ac2,Ac5,AQ,(.tmp 11,.box 1),AeC,(.tmp 32,.own 3 U0),(.tmp 33,.di),(.tmp 34,.di)]
abbrev AWH:BF:=[(.exit 0,[Ac4,AG,Ad9,Ad8,Adb,AeA,Acq,Acs,Ac1,Ac2,Ac5,AQ,(.tmp 11,.box 1),AeC])]
def WG[Lk]:Uu->Option (Uu⊕(Int×List U2×Bool×Bool×Int×Int×Int×Int×Int×List Um×Unit)⊕Unit):=fun(c,d,e,f,g,h,i,j,k,l,b,m,a,_)=>
 match(ilt a m)with
 |true=>match idx b a with|none=>none|some n=>some (.inl (c,d,e,f,g,h,i,j,k,(BC l (A7 b (A2 a) 0) 1),b,m,(w64 (a+1)),()))
 |false=>some (.inr (.inl (c,d,e,f,g,h,i,j,k,l,())))
def AMo[Lk]:(Int×List U2×Bool×Bool×Int×Int×Int×Int×Int×Int×Int×Unit)->Option ((Int×List U2×Bool×Bool×Int×Int×Int×Int×Bool×Unit)):=fun(a,b,g,h,i,j,k,l,m,n,c,_)=>
 match ACJ ((a,(b,())),m,n,c,())with|none=>none|some (d,Y,_)=>match A_ WG many (a,b,g,h,i,j,k,l,c,([]:List Um),d,(A3 d),0,())with|none=>none|some r=>match r with
 |.inl (o,e,p,q,s,t,u,v,w,x,_)=>match A_ WE many (o,e,p,q,s,t,u,v,w,x,([]:List (Int)),(A3 e),0,())with|none=>none|some r=>match r with
  |.inl (y,z,A,B,C,D,E,F,G,f,_)=>match A_ WD many (y,z,A,B,C,D,E,F,G,f,(A3 f),0,())with|none=>none|some r=>match r with
   |.inl (H,I,J,K,L,M,N,O,_)=>some (H,I,J,K,L,M,N,O,false,())
   |.inr r=>match r with
   |.inl (P,Q,R,S,T,U,V,W,X,_)=>some (P,Q,R,S,T,U,V,W,X,())
   |.inr _=>none
  |.inr _=>none
 |.inr _=>none
def pat[Lk]:=lkk AMo
theorem AMn v:pat v=AMo v:=A0 _
abbrev AV3:A1:=[AA,(.tmp 1,.dat Ui),(.tmp 2,.dat V9),AQ]
abbrev AMF:List RS:=[.agg 2,.one,.one]
abbrev AeD:Loc×Con:=(.cell 0 1,.nil U1)
abbrev AeE:Loc×Con:=(.cell 3 0,.di)
abbrev AeF:Loc×Con:=(.cell 1 2,.di)
abbrev AeG:Loc×Con:=(.cell 1 3,.di)
abbrev ASC:A1:=[Ad3,AG,AeD,(.tmp 7,.box 5),(.cell 1 0,.dat .bool),(.cell 1 1,.dat .bool),AeF,AeG,(.cell 1 4,.di),(.tmp 11,.box 4),AdE,AdD,(.cell 2 2,.di),(.cell 2 3,.dat .bool),(.tmp 12,.box 8),AeE,(.cell 3 1,.own 66 U1),(.cell 3 2,.dat .bool),(.cell 3 3,.dat .bool),(.cell 3 4,.di),(.cell 3 5,.di),(.cell 3 6,.di),(.cell 3 7,.di),AL]
abbrev ASB:BF:=[(.exit 0,[Ad3,AG,AeD,(.tmp 7,.box 5),(.cell 1 0,.dat .bool),(.cell 1 1,.dat .bool),AeF,AeG,(.cell 1 4,.di),(.tmp 12,.box 8),AdE,(.cell 2 1,.own 66 U1),(.cell 2 2,.dat .bool),(.cell 2 3,.dat .bool),(.cell 2 4,.di),(.cell 2 5,.di),(.cell 2 6,.di),(.cell 2 7,.di)])]
def Hr[Lk]:Vl->Option (Vl⊕(Int×Bool×Bool×Int×Int×Int×Int×List U2×Bool×Bool×Int×Int×Int×Int×Unit)⊕Unit):=fun(a,b,c,d,e,f,p,q,A,r,g,h,i,j,k,l,m,n,o,_)=>
 match r with
 |true=>match(ile 0 o)with
  |true=>match pat (g,h,i,j,k,l,m,n,p,q,o,())with|none=>none|some (s,t,u,v,w,x,y,z,B,_)=>match(!B)with
   |true=>some (.inl (a,b,c,d,e,f,p,q,A,r,s,t,u,v,w,x,y,z,(w64 (o-1)),()))
   |false=>some (.inr (.inl (a,b,c,d,e,f,s,t,u,v,w,x,y,z,())))
  |false=>some (.inr (.inl (a,b,c,d,e,f,g,h,i,j,k,l,m,n,())))
 |false=>some (.inr (.inl (a,b,c,d,e,f,g,h,i,j,k,l,m,n,())))
def mI[Lk]:V5->Option ((Int×List U2×Ux×Int×Unit)):=fun(a,e,f,_)=>
 match WA ((a.1,(a.2.1,())),e,f,())with|none=>none|some (c,d,_)=>match(!(ieq d 0))with
 |true=>some (a.1,a.2.1,(false,(false,((0,(0,())),(0,())))),d,())
 |false=>match idx a.2.1 c with|none=>none|some b=>match Ci a.2.1 0 c with|none=>none|some g=>match Ci a.2.1 (w64 (c+1)) (A3 a.2.1)with|none=>none|some h=>match T9 (([g,h]:List (List U2)),())with|none=>none|some (i,_)=>match mq (a.1,())with|none=>none|some (j,_)=>match A_ Hr many (0,false,false,0,0,0,b.1,b.2.1,b.2.2.1,b.2.2.2.1,a.1,i,b.2.2.2.1,false,0,0,0,j,b.2.2.1,())with|none=>none|some r=>match r with
 |.inl (s,t,u,v,w,x,k,l,m,n,o,p,q,y,_)=>some (k,l,(m,(n,((o,(p,())),(q,())))),0,())
 |.inr _=>none
def rY[Lk]:=lkk mI
theorem mH v:rY v=mI v:=A0 _
abbrev ASG:A1:=[Ay,(.tmp 1,.own 192 V9),AE]
abbrev AeH:Loc×Con:=(.cell 1 1,.nil U1)
abbrev AMh:A1:=[AH,AG,AcD,AI,AJ,AeH,(.tmp 9,.own 192 V9),(.tmp 10,.box 2),AeE,(.cell 3 1,.dat Ui),(.tmp 27,.own 39 U3),Adx,Ad0]
abbrev AMg:BF:=[(.ret,[AI,AG,AcD,(.tmp 5,.nil V9),AcC]),(.exit 0,[AI,AG,AeD,(.tmp 9,.own 192 V9),(.tmp 10,.box 2),AdE,(.cell 2 1,.dat Ui)])]
def IS[Lk]:(Int×List U2×Int×List Ux×Int×List U2×List U4×Int×Int×Unit)->Option ((Int×List U2×Int×List Ux×Int×List U2×List U4×Int×Int×Unit)⊕(Int×List U2×Int×Unit)⊕(Int×List Ux×Int×List U2×Unit)⊕Unit):=fun(e,f,g,d,h,i,c,j,b,_)=>
 match(ilt b j)with
 |true=>match idx c b with|none=>none|some n=>match rY ((h,(i,())),(A7 c (A2 b) (0,(0,()))).1,(A7 c (A2 b) (0,(0,()))).2.1,())with|none=>none|some (l,m,a,k,_)=>match(!(ieq k 0))with
  |true=>some (.inr (.inl (e,f,k,())))
  |false=>match(fits ((A3 d)+(A3 ([(a.1,(a.2.1,((a.2.2.1.1,(a.2.2.1.2.1,())),(a.2.2.2.1,()))))]:List Ux))))with
  |true=>some (.inl (e,f,g,(Bi d ([(a.1,(a.2.1,((a.2.2.1.1,(a.2.2.1.2.1,())),(a.2.2.2.1,()))))]:List Ux)),l,m,c,j,(w64 (b+1)),()))
  |false=>none
 |false=>some (.inr (.inr (.inl (g,d,h,i,()))))
def mP[Lk]:(Ue×List U4×Unit)->Option ((Ue×List Ux×Int×Unit)):=fun(a,d,_)=>
 match ri ((a.1,(a.2.1,())),d,())with|none=>none|some (b,c,_)=>match(!(ieq c 0))with
 |true=>some ((a.1,(a.2.1,())),([]:List Ux),c,())
 |false=>match A_ IS many (a.1,a.2.1,0,([]:List Ux),a.1,a.2.1,b,(A3 b),0,())with|none=>none|some r=>match r with
 |.inl (e,f,g,_)=>some ((e,(f,())),([]:List Ux),g,())
 |.inr r=>match r with
 |.inl (k,h,i,j,_)=>some ((i,(j,())),h,0,())
 |.inr _=>none
def S1[Lk]:=lkk mP
theorem rp v:S1 v=mP v:=A0 _
abbrev ANs:A1:=[Adu]
def cD[Lk]:(V5×Unit)->Option (Uc):=fun(a,_)=>
 match Ej ((a.1.1,(a.1.2.1,())),())with|none=>none|some (b,_)=>match b with
 |true=>match O4 (a.2.1,())with|none=>none|some (c,_)=>match c with
  |true=>match O4 (a.2.2.1,())with|none=>none|some (d,_)=>some (d,())
  |false=>some (false,())
 |false=>some (false,())
def HY[Lk]:=lkk cD
theorem jM v:HY v=cD v:=A0 _
open Go.Proofs
theorem AW3:Tryz.f142.body.isSome=true:=by kernel_rfl
theorem AW2 : (Tryz.f142.name == "runtime.NumGoroutine") = false := by kernel_rfl
theorem AW1:loops (B5 Tryz.f142)=0:=by kernel_rfl
def AN8:=Chn.g ⟨j5,pL⟩ ⟨23,0,0,1,0,none,BR,[(.ret,AN7)],BV,[],[]⟩ cO Tryz.func23 AH5
def AIe:=Chn.g AN8 ⟨6,0,0,1,0,none,Jh,[(.ret,TC)],A5,[(7,[[],[0],[0],[],[],[],[],[0],[0],[],[],[],[],[],[],[3,4]])],[(0,ah,ck)]⟩ Tu Tryz.func6 cm
theorem AVh:Tryz.f75.body.isSome=true:=by kernel_rfl
theorem AVg : (Tryz.f75.name == "runtime.NumGoroutine") = false := by kernel_rfl
theorem AVf:loops (B5 Tryz.f75)=0:=by kernel_rfl
def Yd:=Chn.g AIe ⟨74,0,0,2,0,some (1,187),O2,[(.ret,BP)],A5,[],[]⟩ H4 Tryz.func74 Mg
def T7:=Chn.g Yd ⟨74,0,1,2,0,some (1,157),MQ,[(.ret,T6)],A5,[],[]⟩ Fs Tryz.func74 Kb
def fA:=Chn.g T7 ⟨74,0,1,2,0,some (1,104),TZ,[(.ret,ez)],A5,[],[]⟩ LJ Tryz.func74 PF
def c6:=Chn.g fA ⟨293,0,2,2,8,some (1,294),O3,[(.ret,cz)],A5,[],[(0,Yc,Yb)]⟩ JM Tryz.func293 Nu
def ALk:=Chn.g c6 ⟨113,0,0,1,0,none,bY,[(.ret,BP)],A5,[],[]⟩ Vu Tryz.func113 iP
def AMI:=Chn.g ALk ⟨281,0,0,2,0,none,kK,[(.ret,rb)],BV,[],[(0,AFp,AFo)]⟩ places Tryz.func281 ig
def ARr:=Chn.g AMI ⟨247,0,0,2,0,none,Oy,[(.ret,rb)],BV,[],[]⟩ rI Tryz.func247 rH
def ALl:=Chn.g ARr ⟨283,0,0,1,0,none,bY,[(.ret,Hx)],A5,[],[]⟩ ln Tryz.func283 iQ
def AKV:=Chn.g ALl ⟨47,0,0,1,0,none,AKU,[(.ret,BP)],A5,[(8,[[],[],[],[],[],[],[],[],[],[],[],[],[],[],[],[],[],[],[],[],[],[],[],[],[0],[0]])],[(0,AEc,AEZ),(1,AEb,AEY),(2,AEa,AEX)]⟩ Mz Tryz.func47 gl
def AUj:=Chn.g AKV ⟨246,0,0,3,0,none,ADx,[(.ret,BR)],A5,[],[]⟩ asked Tryz.func246 vW
def AQs:=Chn.g AUj ⟨249,0,0,3,0,none,AQr,[(.ret,AQq)],AQp,[],[(0,AKM,AKK),(1,AKL,AKJ)]⟩ AB2 Tryz.func249 qD
def AQ3:=Chn.g AQs ⟨202,0,0,3,0,none,ADx,[(.ret,AQ2)],AB4,[(9,[[],[28],[0],[0],[],[],[],[],[],[0],[0],[],[],[],[],[],[28],[28,52,36,62],[64]]),(4,[[0],[],[],[0]])],[]⟩ gp Tryz.func202 Z5
def AOk:=Chn.g AQ3 ⟨82,0,0,2,0,none,AOj,[(.ret,BR)],A5,[],[]⟩ R0 Tryz.func82 jW
def AAk:=Chn.g AOk ⟨201,0,0,3,0,some (2,202),AAj,[(.ret,cn)],Ea,[(1,[[0],[],[],[4]])],[(0,uY,uX)]⟩ cp Tryz.func201 X3
def AOv:=Chn.g AAk ⟨156,0,0,2,0,none,AOu,[(.ret,cn)],Ea,[],[]⟩ AAb Tryz.func156 ja
def AYU:=Chn.g AOv ⟨80,0,0,2,0,none,PL,[(.ret,OC)],BV,[],[]⟩ fof Tryz.func80 AOs
def ANe:=Chn.g AYU ⟨54,0,0,1,0,none,Jh,[(.ret,BP)],A5,[(7,[[2],[2],[],[],[2],[2],[2],[2],[],[],[],[2],[2],[0],[0],[],[],[],[2],[2],[],[],[],[2],[2],[],[],[],[],[],[],[],[0],[0],[],[],[],[],[2]])],[(0,AHY,AHX)]⟩ Ej Tryz.func54 MD
def AXv:=Chn.g ANe ⟨83,0,0,2,0,none,OC,[(.ret,BR)],A5,[],[]⟩ tof Tryz.func83 AKZ
def AHd:=Chn.g AXv ⟨32,0,0,2,0,none,bg,[(.ret,OC)],BV,[(3,[[0],[0],[0],[],[],[12],[],[],[3]])],[]⟩ JE Tryz.func32 bo
def ANj:=Chn.g AHd ⟨35,0,0,1,0,none,Jh,[(.ret,TC)],A5,[],[(0,AHh,ck)]⟩ Oq Tryz.func35 jI
def ASF:=Chn.g ANj ⟨98,0,0,2,0,none,Y6,[(.ret,ACO)],BV,[(10,[[2],[6],[4],[],[5],[],[5]])],[(0,AMe,AMd)]⟩ ri Tryz.func98 rh
def AWr:=Chn.g ASF ⟨91,0,0,2,0,none,Y6,[(.ret,ACO)],BV,[],[(0,AT0,ATy),(1,ATz,ATx)]⟩ AOg Tryz.func91 ADT
def AUn:=Chn.g AWr ⟨105,0,0,1,0,none,Jh,[(.ret,BR)],A5,[],[]⟩ ADy Tryz.func105 vX
def AQV:=Chn.g AUn ⟨42,0,0,3,0,none,AQU,[(.ret,AQT)],AKh,[(16,[[48],[48],[50],[0]])],[]⟩ Kk Tryz.func42 QQ
def AS2:=Chn.g AQV ⟨12,0,0,3,0,none,TF,[(.ret,BR)],A5,[],[]⟩ tU Tryz.func12 tT
def AAa:=Chn.g AS2 ⟨269,0,0,2,0,none,OC,[(.ret,NU)],BV,[(4,[[0],[0],[0],[],[],[],[],[],[],[1000005,21,1]])],[]⟩ MS Tryz.func269 Xu
def AMf:=Chn.g AAa ⟨172,0,0,3,0,none,TF,[(.ret,OE)],BV,[],[]⟩ WA Tryz.func172 V_
def Y3:=Chn.g AMf ⟨224,0,0,4,0,none,AR9,[(.ret,NU)],BV,[(9,[[],[20],[],[28],[],[],[20],[20],[],[28],[28],[],[],[60]])],[]⟩ ACJ Tryz.func224 au
def Pa[Lk]:Env:=Y3.e.ext 226 false false (CE Tryz.prog Y3.e { fp:=fun n=>match n with|0=>[[],[],[0],[0],[0],[],[2],[2],[2],[],[],[2],[2],[3]]|_=>[] } Tryz.f226)
theorem PZ:BH Tryz.prog Pa:=Env.CB Y3.h (Bq Y3.h Tryz.func226 AMC AMB AMA) (by simp) (by simp)
def kA[Lk]:Env:=Pa.ext 225 false false (CE Tryz.prog Pa {} Tryz.f225)
theorem pX:BH Tryz.prog kA:=Env.CB PZ (Bq PZ Tryz.func225 AWN AWM AWL) (by simp) (by simp)
def AYF:=Chn.g ⟨kA,pX⟩ ⟨174,0,2,4,0,none,AYE,[(.ret,AYD)],A5,[(29,[[],[],[],[2],[2],[2],[],[2],[2],[2],[],[0],[0],[0],[1],[0],[0],[0],[1]])],[(0,AWK,AWH),(1,AWJ,AWG),(2,AWI,AWF)]⟩ pat Tryz.func174 AMn
def AV4:=Chn.g AYF ⟨99,0,0,3,0,none,TF,[(.ret,AV3)],AMF,[(9,[[],[4],[4],[4],[],[4],[4],[4],[1],[3]]),(5,[[0],[0],[0],[0],[],[],[0],[0],[],[],[],[],[16],[],[14],[14],[],[0],[0],[],[],[18]])],[(0,ASC,ASB)]⟩ rY Tryz.func99 mH
def ASH:=Chn.g AV4 ⟨40,0,0,2,0,none,Y6,[(.ret,ASG)],Ea,[(12,[[20],[],[22],[],[5,24],[7]])],[(0,AMh,AMg)]⟩ S1 Tryz.func40 rp
def TP:=Chn.g ASH ⟨56,0,0,1,0,none,ANs,[(.ret,BP)],A5,[],[]⟩ HY Tryz.func56 jM
set_option maxHeartbeats 8000000
attribute [local irreducible] A3 A7 Bi CT C' C2 A2 Bp Cl imax idx Ci ilt ile ieq seq? quo? rem? shl? shr? fits B4 IntKind.wrap A8 BC LV Rd Bb NY A_ many Gx
abbrev AeI:Loc×Con:=(.tmp 1,.dat (.slice (.prod (.int .i64) (.prod (.int .i64) .unit))))
abbrev Lx:Row:=⟨84,0,0,2,0,none,[AA,AeI],[(.ret,[AA])],[.one],[],[(0,[AA,(.tmp 13,.dat (.slice (.prod (.int .i64) (.prod (.int .i64) .unit)))),Ac6,AdI],[(.ret,[AP]),(.exit 0,[])])]⟩
def ALV[Lk]:=fun v=>Lk.f (BZ _ _ v (Lx.self Tryz.prog (Lx.ev TP.e) Tryz.f84))
def UR[Lk]:Env:=Lx.Cf TP.e ALV
theorem vp:BH Tryz.prog UR:=Row.BM Lx TP.h Tryz.func84 (d:=Lx.self Tryz.prog (Lx.ev TP.e) Tryz.f84) (fun _=>(A0 _).trans (BE ..)) (by kernel_rfl) fun _=>rfl
abbrev AeJ:Loc×Con:=(.tmp 0,.own 3 (.int .i64))
abbrev Ly:Row:=⟨85,0,0,1,0,none,[AA],[(.ret,[AeJ])],[.one],[],[(0,[(.tmp 3,.own 3 (.int .i64)),AN,Aa],[(.exit 0,[(.tmp 3,.own 3 (.int .i64))])])]⟩
def ALZ[Lk]:=fun v=>Lk.f (BZ _ _ v (Ly.self Tryz.prog (Ly.ev UR) Tryz.f85))
def US[Lk]:Env:=Ly.Cf UR ALZ
theorem vq:BH Tryz.prog US:=Row.BM Ly vp Tryz.func85 (d:=Ly.self Tryz.prog (Ly.ev UR) Tryz.f85) (fun _=>(A0 _).trans (BE ..)) (by kernel_rfl) fun _=>rfl
abbrev AeK:Loc×Con:=(.obj 0,.own 3 (.int .i64))
abbrev Lu:Row:=⟨87,0,1,2,0,none,[AeJ,AD],[(.ret,[AeK,AA])],[.one],[],[(0,[AeK,Ai,AD],[(.exit 0,[AeK,AD])])]⟩
def ALA[Lk]:=fun v=>Lk.f (BZ _ _ v (Lu.self Tryz.prog (Lu.ev US) Tryz.f87))
def UP[Lk]:Env:=Lu.Cf US ALA
theorem vl:BH Tryz.prog UP:=Row.BM Lu vq Tryz.func87 (d:=Lu.self Tryz.prog (Lu.ev US) Tryz.f87) (fun _=>(A0 _).trans (BE ..)) (by kernel_rfl) fun _=>rfl
abbrev Pt:Row:=⟨161,0,1,3,0,none,[AeJ,AD,AE],[(.ret,[AeK,AB])],[.one],[],[]⟩
def AX1[Lk]:=fun v=>Lk.f (BZ _ _ v (Pt.self Tryz.prog (Pt.ev UP) Tryz.f161))
def ZY[Lk]:Env:=Pt.Cf UP AX1
theorem ABq:BH Tryz.prog ZY:=Row.BM Pt vl Tryz.func161 (d:=Pt.self Tryz.prog (Pt.ev UP) Tryz.f161) (fun _=>(A0 _).trans (BE ..)) (by kernel_rfl) fun _=>rfl
abbrev He:Row:=⟨160,0,1,2,0,some (1,161),[(.tmp 0,.dat (.slice (.prod (.int .i64) (.prod (.int .i64) .unit)))),(.cap 1 0,.own 3 (.int .i64)),(.tmp 1,.bnd 161 0)],[(.ret,[AeK,AcS])],[.one],[],[(0,[AeK,(.tmp 1,.bnd 161 0),(.tmp 5,.own 4 .bool),(.tmp 8,.dat (.slice (.prod (.int .i64) (.prod (.int .i64) .unit)))),Aa,AX],[(.exit 0,[AeK,(.tmp 5,.own 4 .bool)])])]⟩
def APG[Lk]:=fun v=>Lk.f (BZ _ _ v (He.self Tryz.prog (He.ev ZY) Tryz.f160))
def Nk[Lk]:Env:=He.Cf ZY APG
theorem fP:BH Tryz.prog Nk:=Row.BM He ABq Tryz.func160 (d:=He.self Tryz.prog (He.ev ZY) Tryz.f160) (fun _=>(A0 _).trans (BE ..)) (by kernel_rfl) fun _=>rfl
abbrev Lv:Row:=⟨86,0,1,2,0,none,[AeJ,AeI],[(.ret,[AeK,AcS])],[.one],[],[]⟩
def ALB[Lk]:=fun v=>Lk.f (BZ _ _ v (Lv.self Tryz.prog (Lv.ev Nk) Tryz.f86))
def vn[Lk]:Env:=Lv.Cf Nk ALB
theorem vm:BH Tryz.prog vn:=Row.BM Lv fP Tryz.func86 (d:=Lv.self Tryz.prog (Lv.ev Nk) Tryz.f86) (fun _=>(A0 _).trans (BE ..)) (by kernel_rfl) fun _=>rfl
end
end Go.Pev
end
section
namespace Go.Pev
noncomputable section
abbrev AeL:Loc×Con:=(.tmp 7,.own 3 U0)
abbrev qj:A1:=[AeL,(.tmp 21,.di),(.tmp 22,.di)]
abbrev qi:BF:=[(.exit 0,[AeL])]
def qh[Lk]:Uq->Option (Uq⊕Uf⊕Unit):=fun(b,c,a,_)=>
 match(ilt a c)with
 |true=>match ALA (b,a,())with|none=>none|some (d,e,_)=>match idx d a with|none=>none|some f=>some (.inl ((Bb d (A2 a) e),c,(w64 (a+1)),()))
 |false=>some (.inr (.inl (b,())))
def aK[Lk]:(Int×List U4×Unit)->Option (Ul):=fun(a,b,_)=>
 match ALV (a,b,())with|none=>none|some (c,_)=>match(!(ieq c 0))with
 |true=>some (([]:List (Int)),c,())
 |false=>match ALZ (a,())with|none=>none|some (e,_)=>match ALB (e,b,())with|none=>none|some (d,g,_)=>match A_ qh many (d,(A3 d),0,())with|none=>none|some r=>match r with
 |.inl (f,_)=>some (f,0,())
 |.inr _=>none
def OK[Lk]:=lkk aK
theorem qk v:OK v=aK v:=A0 _
open Go.Proofs
def M5:=Chn.g ⟨vn,vm⟩ ⟨34,0,0,2,0,none,PL,[(.ret,NU)],BV,[],[(0,qj,qi)]⟩ OK Tryz.func34 qk
set_option maxHeartbeats 8000000
attribute [local irreducible] A3 A7 Bi CT C' C2 A2 Bp Cl imax idx Ci ilt ile ieq seq? quo? rem? shl? shr? fits B4 IntKind.wrap A8 BC LV Rd Bb NY A_ many Gx
def JQ[Lk]:Env:=M5.e.ext 280 false false (CE Tryz.prog M5.e {} Tryz.f280)
theorem Yk:BH Tryz.prog JQ:=Env.CB M5.h (Bq M5.h Tryz.func280 AI8 AI7 AI6) (by simp) (by simp)
abbrev AeM:Loc×Con:=(.cell 0 0,.dat (.slice (.int .i64)))
abbrev AeN:Loc×Con:=(.tmp 0,.dat (.slice (.int .i64)))
abbrev AeO:Loc×Con:=(.tmp 1,.clo 280 [(0,0)])
abbrev DD:Row:=⟨149,0,1,2,0,some (1,280),[AeN,(.cap 1 0,.box 1),AeM,AeO],[(.ret,[Ab,AeM,AA])],[.one],[],[(0,[Ab,AeM,AeN,AeO,AO,AN],[(.ret,[Ab,AeM,AP]),(.exit 0,[Ab,AeM])])]⟩
def YX[Lk]:=fun v=>Lk.f (BZ _ _ v (DD.self Tryz.prog (DD.ev JQ) Tryz.f149))
def G9[Lk]:Env:=DD.Cf JQ YX
theorem Io:BH Tryz.prog G9:=Row.BM DD Yk Tryz.func149 (d:=DD.self Tryz.prog (DD.ev JQ) Tryz.f149) (fun _=>(A0 _).trans (BE ..)) (by kernel_rfl) fun _=>rfl
def Qi[Lk]:Env:=G9.ext 243 false false (CE Tryz.prog G9 {} Tryz.f243)
theorem pk:BH Tryz.prog Qi:=Env.CB Io (Bq Io Tryz.func243 AXS AXR AXQ) (by simp) (by simp)
abbrev AeP:Loc×Con:=(.tmp 7,.dat (.slice (.int .i64)))
abbrev Me:Row:=⟨242,0,2,2,0,some (1,243),[AeN,(.cap 1 0,.box 1),AeM,(.cap 1 1,.box 3),AJ,Ac9,AeF,(.tmp 1,.clo 243 [(0,0),(1,0)])],[(.ret,[Ab,AeM,(.obj 1,.box 3),AJ,Ac9,AeF,AA])],[.one],[],[(0,[Ab,AeM,(.obj 1,.box 3),AJ,Ac9,AeF,(.tmp 1,.clo 243 [(0,0),(1,0)]),AP,AeP,AN,Aa],[(.exit 0,[Ab,AeM,(.obj 1,.box 3),AJ,Ac9,AeF,AP])])]⟩
def AXG[Lk]:=fun v=>Lk.f (BZ _ _ v (Me.self Tryz.prog (Me.ev Qi) Tryz.f242))
def du[Lk]:Env:=Me.Cf Qi AXG
theorem YK:BH Tryz.prog du:=Row.BM Me pk Tryz.func242 (d:=Me.self Tryz.prog (Me.ev Qi) Tryz.f242) (fun _=>(A0 _).trans (BE ..)) (by kernel_rfl) fun _=>rfl
def Qh[Lk]:Env:=du.ext 244 false false (CE Tryz.prog du {} Tryz.f244)
theorem pj:BH Tryz.prog Qh:=Env.CB YK (Bq YK Tryz.func244 AXP AXO AXN) (by simp) (by simp)
abbrev Md:Row:=⟨242,0,0,2,0,some (1,244),[AeN,(.tmp 1,.clo 244 [])],[(.ret,[AA])],[.one],[],[(0,[(.tmp 1,.clo 244 []),AP,AeP,AN,Aa],[(.exit 0,[AP])])]⟩
def AXF[Lk]:=fun v=>Lk.f (BZ _ _ v (Md.self Tryz.prog (Md.ev Qh) Tryz.f242))
def VD[Lk]:Env:=Md.Cf Qh AXF
theorem wC:BH Tryz.prog VD:=Row.BM Md pj Tryz.func242 (d:=Md.self Tryz.prog (Md.ev Qh) Tryz.f242) (fun _=>(A0 _).trans (BE ..)) (by kernel_rfl) fun _=>rfl
abbrev AeQ:Loc×Con:=(.tmp 0,.dat (.prod (.int .i64) (.prod (.slice (.prod (.int .i64) (.prod (.int .i64) (.prod (.int .i64) (.prod .bool .unit))))) .unit)))
abbrev QD:Row:=⟨92,0,0,2,0,none,[AeQ,AD],[(.ret,[AB])],[.one],[],[]⟩
def AVH[Lk]:=fun v=>Lk.f (BZ _ _ v (QD.self Tryz.prog (QD.ev VD) Tryz.f92))
def Zb[Lk]:Env:=QD.Cf VD AVH
theorem ABu:BH Tryz.prog Zb:=Row.BM QD wC Tryz.func92 (d:=QD.self Tryz.prog (QD.ev VD) Tryz.f92) (fun _=>(A0 _).trans (BE ..)) (by kernel_rfl) fun _=>rfl
abbrev Pu:Row:=⟨143,0,0,1,0,none,[AA],[(.ret,[AB])],[.one],[],[]⟩
def AX2[Lk]:=fun v=>Lk.f (BZ _ _ v (Pu.self Tryz.prog (Pu.ev Zb) Tryz.f143))
def ZZ[Lk]:Env:=Pu.Cf Zb AX2
theorem ABr:BH Tryz.prog ZZ:=Row.BM Pu ABu Tryz.func143 (d:=Pu.self Tryz.prog (Pu.ev Zb) Tryz.f143) (fun _=>(A0 _).trans (BE ..)) (by kernel_rfl) fun _=>rfl
abbrev Cv:Row:=⟨74,0,1,2,0,some (1,280),[AeN,(.cap 1 0,.box 1),AeM,AeO],[(.ret,[Ab,AeM,AB])],[.one],[],[]⟩
def W2[Lk]:=fun v=>Lk.f (BZ _ _ v (Cv.self Tryz.prog (Cv.ev ZZ) Tryz.f74))
def EV[Lk]:Env:=Cv.Cf ZZ W2
theorem N2:BH Tryz.prog EV:=Row.BM Cv ABr Tryz.func74 (d:=Cv.self Tryz.prog (Cv.ev ZZ) Tryz.f74) (fun _=>(A0 _).trans (BE ..)) (by kernel_rfl) fun _=>rfl
abbrev AeR:Loc×Con:=(.tmp 1,.dat (.slice (.int .i64)))
abbrev Mc:Row:=⟨241,0,0,2,0,none,[AeN,AeR],[(.ret,[AB])],[.one],[],[]⟩
def AXE[Lk]:=fun v=>Lk.f (BZ _ _ v (Mc.self Tryz.prog (Mc.ev EV) Tryz.f241))
def VC[Lk]:Env:=Mc.Cf EV AXE
theorem wB:BH Tryz.prog VC:=Row.BM Mc N2 Tryz.func241 (d:=Mc.self Tryz.prog (Mc.ev EV) Tryz.f241) (fun _=>(A0 _).trans (BE ..)) (by kernel_rfl) fun _=>rfl
abbrev Jx:Row:=⟨193,0,0,2,0,none,[AeN,(.tmp 1,.dat (.prod (.int .i64) (.prod (.int .i64) (.prod (.int .i64) .unit))))],[(.ret,[AA,AD])],[.one,.one],[(5,[[0],[2],[2],[],[],[0],[2],[2]])],[]⟩
def ADu[Lk]:=fun v=>Lk.f (BZ _ _ v (Jx.self Tryz.prog (Jx.ev VC) Tryz.f193))
def Qg[Lk]:Env:=Jx.Cf VC ADu
theorem ph:BH Tryz.prog Qg:=Row.BM Jx wB Tryz.func193 (d:=Jx.self Tryz.prog (Jx.ev VC) Tryz.f193) (fun _=>(A0 _).trans (BE ..)) (by kernel_rfl) fun _=>rfl
abbrev Pv:Row:=⟨192,0,0,1,0,none,[AeQ],[(.ret,[AeJ,Ar])],[.one,.one],[(3,[[0],[0],[0],[],[10]])],[]⟩
def AU3[Lk]:=fun v=>Lk.f (BZ _ _ v (Pv.self Tryz.prog (Pv.ev Qg) Tryz.f192))
def Za[Lk]:Env:=Pv.Cf Qg AU3
theorem ABs:BH Tryz.prog Za:=Row.BM Pv ph Tryz.func192 (d:=Pv.self Tryz.prog (Pv.ev Qg) Tryz.f192) (fun _=>(A0 _).trans (BE ..)) (by kernel_rfl) fun _=>rfl
abbrev AeS:Loc×Con:=(.tmp 0,.dat (.prod (.int .i64) (.prod (.slice (.slice (.int .i64))) .unit)))
abbrev MT:Row:=⟨211,0,0,2,0,none,[AeS,AD],[(.ret,[AA,AD])],[.one,.one],[(4,[[0],[0],[0]])],[]⟩
def AWu[Lk]:=fun v=>Lk.f (BZ _ _ v (MT.self Tryz.prog (MT.ev Za) Tryz.f211))
def U'[Lk]:Env:=MT.Cf Za AWu
theorem v5:BH Tryz.prog U':=Row.BM MT ABs Tryz.func211 (d:=MT.self Tryz.prog (MT.ev Za) Tryz.f211) (fun _=>(A0 _).trans (BE ..)) (by kernel_rfl) fun _=>rfl
abbrev AeT:Loc×Con:=(.tmp 7,.own 39 (.prod (.int .i64) (.prod (.int .i64) .unit)))
abbrev GF:Row:=⟨165,0,0,2,0,none,[AeS,AeI],[(.ret,[(.tmp 0,.own 39 (.prod (.int .i64) (.prod (.int .i64) .unit))),AD])],[.one,.one],[],[(0,[AH,AG,(.cell 0 1,.dat (.slice (.slice (.int .i64)))),AeT,(.tmp 24,.dat (.slice (.prod (.int .i64) (.prod (.int .i64) .unit)))),AcM,AW],[(.exit 0,[AeT])])]⟩
def AFA[Lk]:=fun v=>Lk.f (BZ _ _ v (GF.self Tryz.prog (GF.ev U') Tryz.f165))
def LQ[Lk]:Env:=GF.Cf U' AFA
theorem dp:BH Tryz.prog LQ:=Row.BM GF v5 Tryz.func165 (d:=GF.self Tryz.prog (GF.ev U') Tryz.f165) (fun _=>(A0 _).trans (BE ..)) (by kernel_rfl) fun _=>rfl
abbrev Jd:Row:=⟨93,0,0,2,0,none,[AeS,AeI],[(.ret,[AcS,AD])],[.one,.one],[],[]⟩
def ACG[Lk]:=fun v=>Lk.f (BZ _ _ v (Jd.self Tryz.prog (Jd.ev LQ) Tryz.f93))
def j8[Lk]:Env:=Jd.Cf LQ ACG
theorem pU:BH Tryz.prog j8:=Row.BM Jd dp Tryz.func93 (d:=Jd.self Tryz.prog (Jd.ev LQ) Tryz.f93) (fun _=>(A0 _).trans (BE ..)) (by kernel_rfl) fun _=>rfl
end
end Go.Pev
end
section
namespace Go.Pev
noncomputable section
abbrev xT:A1:=[Ay,(.tmp 1,.dat Ur)]
abbrev qo:A1:=[AT,(.tmp 8,.own 3 U0),(.tmp 20,.dat Ur),(.tmp 21,.di),(.tmp 22,.di)]
abbrev qn:BF:=[(.ret,[(.tmp 4,.nil U0),Acf]),(.exit 0,[(.tmp 8,.own 3 U0)])]
def qm[Lk]:(List Int×List Int×List U9×Int×Int×Unit)->Option ((List Int×List Int×List U9×Int×Int×Unit)⊕Ub⊕Uf⊕Unit):=fun(d,a,e,f,b,_)=>
 match(ilt b f)with
 |true=>match idx e b with|none=>none|some c=>match ADu (d,(c.1,(c.2.1,(c.2.2.1,()))),())with|none=>none|some (g,h,_)=>match(!(ieq h 0))with
  |true=>some (.inr (.inl (h,())))
  |false=>match(fits ((A3 a)+(A3 ([g]:List (Int)))))with
  |true=>some (.inl (d,(Bi a ([g]:List (Int))),e,f,(w64 (b+1)),()))
  |false=>none
 |false=>some (.inr (.inr (.inl (a,()))))
def aN[Lk]:(Ue×List U9×Unit)->Option (Ul):=fun(a,b,_)=>
 match AU3 ((a.1,(a.2.1,())),())with|none=>none|some (c,d,_)=>match(!d)with
 |true=>some (([]:List (Int)),1,())
 |false=>match A_ qm many (c,([]:List (Int)),b,(A3 b),0,())with|none=>none|some r=>match r with
 |.inl (e,_)=>some (([]:List (Int)),e,())
 |.inr r=>match r with
 |.inl (f,_)=>some (f,0,())
 |.inr _=>none
def Sp[Lk]:=lkk aN
theorem qp v:Sp v=aN v:=A0 _
abbrev AWs:A1:=[AA,(.tmp 1,.dat Ui),AE,AQ]
abbrev AT4:A1:=[AH,AG,AcD,AI,AJ,AeH,(.tmp 7,.own 39 U3),(.tmp 11,.own 4 .bool),(.tmp 13,.own 66 U1),(.tmp 46,.own' 2),Adw,(.tmp 48,.di)]
abbrev AT3:BF:=[(.exit 0,[AH,AG,AcD,AI,AJ,AeH,(.tmp 7,.own 39 U3),(.tmp 13,.own 66 U1)])]
def AT2[Lk]:(Int×List U2×Int×List U4×List Bool×List U2×Int×Int×Unit)->Option ((Int×List U2×Int×List U4×List Bool×List U2×Int×Int×Unit)⊕(Int×List U2×Int×List U4×List U2×Unit)⊕Unit):=fun(e,f,g,b,c,d,h,a,_)=>
 match(ilt a h)with
 |true=>match idx b a with|none=>none|some i=>match idx c a with|none=>none|some j=>match(fits ((A3 d)+(A3 ([((A7 b (A2 a) (0,(0,()))).1,((A7 b (A2 a) (0,(0,()))).2.1,(0,((A7 c (A2 a) false),()))))]:List U2))))with
  |true=>some (.inl (e,f,g,b,c,(Bi d ([((A7 b (A2 a) (0,(0,()))).1,((A7 b (A2 a) (0,(0,()))).2.1,(0,((A7 c (A2 a) false),()))))]:List U2)),h,(w64 (a+1)),()))
  |false=>none
 |false=>some (.inr (.inl (e,f,g,b,d,())))
def AOh[Lk]:(Ue×List U4×Unit)->Option ((Int×List U2×Int×Int×Unit)):=fun(a,e,_)=>
 match AOg ((a.1,(a.2.1,())),e,())with|none=>none|some (b,c,_)=>match(!(ieq c 0))with
 |true=>some (a.1,a.2.1,0,c,())
 |false=>match AVH ((a.1,(a.2.1,())),(A3 b),())with|none=>none|some (f,_)=>match(!f)with
 |true=>some (a.1,a.2.1,0,2,())
 |false=>match JE ((a.1,(a.2.1,())),0,())with|none=>none|some (d,m,_)=>match ACG ((d.1,(d.2.1,())),b,())with|none=>none|some (g,n,_)=>match Lh a.2.1 with|none=>none|some h=>match A_ AT2 many (a.1,a.2.1,0,b,g,h,(A3 b),0,())with|none=>none|some r=>match r with
 |.inl (i,o,p,j,k,_)=>match AK4 (k,())with|none=>none|some (l,_)=>some (i,l,(A3 j),0,())
 |.inr _=>none
def AAX[Lk]:=lkk AOh
theorem AT5 v:AAX v=AOh v:=A0 _
open Go.Proofs
def xU:=Chn.g ⟨j8,pU⟩ ⟨129,0,0,2,0,none,xT,[(.ret,NU)],BV,[],[(0,qo,qn)]⟩ Sp Tryz.func129 qp
def NS:=Chn.g xU ⟨39,0,0,2,0,none,Y6,[(.ret,AWs)],AMF,[(12,[[],[10],[10],[10],[10],[],[],[6],[6],[],[],[9,12]])],[(0,AT4,AT3)]⟩ AAX Tryz.func39 AT5
set_option maxHeartbeats 8000000
attribute [local irreducible] A3 A7 Bi CT C' C2 A2 Bp Cl imax idx Ci ilt ile ieq seq? quo? rem? shl? shr? fits B4 IntKind.wrap A8 BC LV Rd Bb NY A_ many Gx
abbrev JI:A1:=[AA]
abbrev JH:A1:=[]
abbrev K_:List RS:=[]
abbrev QA:A1:=[]
def ZL[Lk]:Hints:={ fp:=Tj [] }
def Xn[Lk](v:Bf (leaves JI)):Option (Bf (leaves JH)⊕(List Int×Bf (leaves QA))):=Lk.f (DY 0 Tryz.prog NS.e ZL Tryz.f128 JI JH K_ 138 [.i64] QA v)
theorem cH(v):Xn v=DY 0 Tryz.prog NS.e ZL Tryz.f128 JI JH K_ 138 [.i64] QA v:=A0 _
theorem Xm:B0 Tryz.prog 0 ZL (B5 Tryz.f128) 0:=DR _ 0 (by kernel_rfl)
theorem AN6:H7 Tryz.prog 128 (BX 0 1 JI JH K_ fun x=>Dg (Xn x)) (I5 0 1 JI JH K_ 138 [.i64] QA Xn):=MA NS.h.1 NS.h.2.1 NS.h.2.2 Tryz.func128 (G2 (by kernel_rfl)) (Cj Tryz.func128 (by kernel_rfl) (by kernel_rfl)) (AZn rfl) cH Xm
theorem AN5:BS Tryz.prog 128 (BX 0 1 JI JH K_ fun x=>Dg (Xn x)):=L9 NS.h Tryz.func128 (by kernel_rfl) (by kernel_rfl) rfl cH Xm
def UZ[Lk]:Env:=Env.ny NS.e 128 true (BX 0 1 JI JH K_ fun x=>Dg (Xn x)) (I5 0 1 JI JH K_ 138 [.i64] QA Xn)
theorem Kl:BH Tryz.prog UZ:=Env.ZN NS.h AN5 AN6 (fun _=>CR rfl rfl)
abbrev AeU:Loc×Con:=(.tmp 1,.dat (.prod (.int .i64) (.prod (.slice (.prod (.int .i64) (.prod (.int .i64) .unit))) (.prod (.slice (.prod (.int .i64) (.prod (.int .i64) (.prod (.int .i64) .unit)))) .unit))))
abbrev AeV:Loc×Con:=(.tmp 2,.dat (.prod (.int .i64) (.prod (.int .i64) (.prod (.prod (.int .i64) (.prod (.int .i64) (.prod (.slice (.arr 2 (.int .i64))) .unit))) .unit))))
abbrev AeW:Loc×Con:=(.cell 0 1,.dat (.slice (.prod (.int .i64) (.prod (.int .i64) (.prod (.int .i64) (.prod .bool .unit))))))
abbrev AeX:Loc×Con:=(.cell 0 6,.dat (.slice (.int .i64)))
abbrev JG:A1:=[(.tmp 0,.box 7),AG,AeW,AdX,AdW,AeA,Acq,AeX,AeU,AeV]
abbrev JF:A1:=[(.obj 0,.box 7),AG,AeW,AdX,AdW,AeA,Acq,AeX]
abbrev K8:List RS:=[]
abbrev P_:A1:=[(.obj 0,.box 7)]
def ZH[Lk]:Hints:={ fp:=Tj [(1,[[],[0],[0],[0],[0],[2],[4],[],[],[],[],[],[],[15]]),(7,[[],[],[],[0],[0],[0],[0],[14],[14],[6],[],[],[],[],[0],[0],[0],[1],[0],[0],[0],[1]]),(9,[[],[],[0],[0],[0],[0],[14],[14],[6],[],[],[],[],[0],[0],[0],[1]]),(12,[[],[],[0],[0],[0],[0],[14],[14],[],[],[],[],[0],[0],[0],[1]])] }
def cB[Lk](v:Bf (leaves JG)):Option (Bf (leaves JF)⊕(List Int×Bf (leaves P_))):=Lk.f (DY 1 Tryz.prog UZ ZH Tryz.f58 JG JF K8 138 [.i64] P_ v)
theorem cA(v):cB v=DY 1 Tryz.prog UZ ZH Tryz.f58 JG JF K8 138 [.i64] P_ v:=A0 _
theorem Xl:B0 Tryz.prog 1 ZH (B5 Tryz.f58) 0:=DR _ 0 (by kernel_rfl)
theorem ANp:H7 Tryz.prog 58 (BX 1 3 JG JF K8 fun x=>Dg (cB x)) (I5 1 3 JG JF K8 138 [.i64] P_ cB):=MA Kl.1 Kl.2.1 Kl.2.2 Tryz.func58 (G2 (by kernel_rfl)) (Cj Tryz.func58 (by kernel_rfl) (by kernel_rfl)) (AZn rfl) cA Xl
theorem ANo:BS Tryz.prog 58 (BX 1 3 JG JF K8 fun x=>Dg (cB x)):=L9 Kl Tryz.func58 (by kernel_rfl) (by kernel_rfl) rfl cA Xl
def UY[Lk]:Env:=Env.ny UZ 58 false (BX 1 3 JG JF K8 fun x=>Dg (cB x)) (I5 1 3 JG JF K8 138 [.i64] P_ cB)
theorem Nj:BH Tryz.prog UY:=Env.ZN Kl ANo ANp (by simp)
abbrev AeY:Loc×Con:=(.tmp 0,.dat (.prod (.prod (.int .i64) (.prod (.slice (.prod (.int .i64) (.prod (.int .i64) (.prod (.int .i64) (.prod .bool .unit))))) .unit)) (.prod (.int .i64) (.prod (.int .i64) .unit))))
abbrev MK:A1:=[AeY,AeU,AeV]
abbrev MJ:A1:=[AeY,(.tmp 1,.dat (.prod (.int .i64) (.prod (.int .i64) (.prod (.slice (.int .i64)) .unit))))]
abbrev Ou:List RS:=[.one,.one]
abbrev b9:A1:=[(.tmp 3,.box 4),(.tmp 6,.box 4),(.tmp 7,.box 3),AG,AeW,AdX,AdW,AJ,(.cell 1 1,.nil (.prod (.int .i64) (.prod (.int .i64) (.prod (.int .i64) (.prod .bool .unit))))),AeF,AeG,AdE,AdD,(.cell 2 2,.nil (.int .i64)),Acj,AeE,(.cell 3 1,.dat (.slice (.prod (.int .i64) (.prod (.int .i64) .unit)))),(.cell 3 2,.dat (.slice (.prod (.int .i64) (.prod (.int .i64) (.prod (.int .i64) .unit))))),(.tmp 5,.box 5),Acm,(.cell 4 1,.di),Acl,Ack,(.cell 4 4,.dat (.slice (.arr 2 (.int .i64))))]
def P9[Lk]:Hints:={ fp:=Tj [(6,[[],[10],[10],[10],[],[10],[10],[10],[3],[5]])] }
def Wb:Hints:={ fp:=Tj [(3,[[0],[20],[20],[],[3],[5]])] }
def E0[Lk](v:Bf (leaves MK)):Option (Bf (leaves MJ)):=Lk.f (RT Tryz.prog UY Tryz.f13 2 MK MJ Ou {} P9 Wb b9 3 v)
theorem Wc(v):E0 v=RT Tryz.prog UY Tryz.f13 2 MK MJ Ou {} P9 Wb b9 3 v:=A0 _
theorem nD[DfI]:B0 Tryz.prog 3 P9 (vB 2 (B5 Tryz.f13)) 0:=DR _ 0 (by kernel_rfl)
theorem tf:BS Tryz.prog 13 (BX 0 3 MK MJ Ou E0):=tJ Nj.1 Nj.2.1 Nj.2.2 Tryz.func13 (G2 (by kernel_rfl)) (Cj Tryz.func13 (by kernel_rfl) (by kernel_rfl)) (AZn rfl) Wc nD
def vz[Lk]:Env:=UY.ext 13 true true (BX 0 3 MK MJ Ou E0)
theorem vw:BH Tryz.prog vz:=Env.CB Nj tf (fun _=>NB rfl rfl) (fun _=>CR rfl rfl)
end
end Go.Pev
end
section
namespace Go.Pev
noncomputable section
abbrev AWb:A1:=[Adu,(.tmp 1,.dat (.slice (.int .u8))),Ad6]
abbrev AWa:A1:=[Adu,(.tmp 1,.own 53 Vn),AE]
abbrev ATD:A1:=[(.tmp 3,.box 4),AG,AcD,AdX,AdW,(.tmp 5,.box 5),AJ,Ac9,AeF,AeG,(.cell 1 4,.dat (.slice (.arr 2 U0))),(.tmp 6,.box 4),AdE,(.cell 2 1,.nil U1),(.cell 2 2,.di),(.cell 2 3,.di),AY,(.tmp 12,.own 53 Vn),(.tmp 27,.dat (.slice (.prod U0 (.prod Uy (.prod Ur .unit))))),Adx,Ad0]
abbrev ATC:BF:=[(.exit 0,[(.tmp 3,.box 4),AG,AcD,AdX,AdW,(.tmp 6,.box 4),AJ,AeH,AeF,AeG,AY,(.tmp 12,.own 53 Vn)])]
def TO[Lk]:(Int×List U2×Int×Int×Int×Int×Int×Int×List U5×Int×Int×Int×Int×List V0×List Ve×Int×Int×Unit)->Option ((Int×List U2×Int×Int×Int×Int×Int×Int×List U5×Int×Int×Int×Int×List V0×List Ve×Int×Int×Unit)⊕(Int×List U2×Int×Int×Int×Int×Int×Int×List V0×Unit)⊕Unit):=fun(f,g,h,i,j,k,l,m,n,o,p,q,r,c,s,t,d,_)=>
 match(ilt d t)with
 |true=>match idx s d with|none=>none|some e=>match E0 (((f,(g,())),(h,(i,()))),(e.1,(e.2.1,(e.2.2.1,()))),(j,(k,((l,(m,(n,()))),()))),())with|none=>none|some (b,a,_)=>match(fits ((A3 c)+(A3 ([(a.1,(a.2.1,(a.2.2.1,())))]:List V0))))with
  |true=>some (.inl (b.1.1,b.1.2.1,b.2.1,b.2.2.1,j,k,l,m,n,o,p,q,r,(Bi c ([(a.1,(a.2.1,(a.2.2.1,())))]:List V0)),s,t,(w64 (d+1)),()))
  |false=>none
 |false=>some (.inr (.inl (f,g,h,i,o,p,q,r,c,())))
def AAF[Lk]:(V5×List Int×(Int×Int×Ut×Unit)×Unit)->Option ((V5×List V0×Int×Unit)):=fun(a,j,b,_)=>
 match HY (((a.1.1,(a.1.2.1,())),(a.2.1,(a.2.2.1,()))),())with|none=>none|some (k,_)=>match(!k)with
 |true=>some (((a.1.1,(a.1.2.1,())),(a.2.1,(a.2.2.1,()))),([]:List V0),1,())
 |false=>match Mv (j,())with|none=>none|some (e,m,l,_)=>match A_ TO many (a.1.1,a.1.2.1,a.2.1,a.2.2.1,b.1,b.2.1,b.2.2.1.1,b.2.2.1.2.1,b.2.2.1.2.2.1,0,0,0,l,([]:List V0),e,(A3 e),0,())with|none=>none|some r=>match r with
 |.inl (f,g,h,i,n,o,p,c,d,_)=>match(!(ieq c 0))with
  |true=>match(fits ((A3 d)+(A3 ([(c,(0,(([]:List (Int)),())))]:List V0))))with
   |true=>some (((f,(g,())),(h,(i,()))),(Bi d ([(c,(0,(([]:List (Int)),())))]:List V0)),c,())
   |false=>none
  |false=>some (((f,(g,())),(h,(i,()))),d,c,())
 |.inr _=>none
def ANr[Lk]:=lkk AAF
theorem ADK v:ANr v=AAF v:=A0 _
abbrev AeZ:Loc×Con:=(.cell 3 0,.clo 230 [(0,0),(1,0),(3,0)])
abbrev Z9:A1:=[AA,(.tmp 1,.box 1),AG,Ap,(.cell 1 0,.map U0 U0),Am,AeZ]
abbrev Z8:A1:=[Ab,AG,An,(.cell 1 0,.map U0 U0),AcJ,(.obj 3,.box 1),AeZ,AA]
def AKk[Lk](self:(Int×Int×List Um×Unit)->Option ((Int×List Um×Int×Unit))):(Int×Int×List Um×Unit)->Option ((Int×List Um×Int×Unit)):=fun(a,c,b,_)=>
 match(ile a c)with
 |true=>some (c,b,1,())
 |false=>match(!((A8 b a).isSome))with
 |true=>match quo? .i64 a 2 with|none=>none|some f=>match self (f,c,b,())with|none=>none|some (g,h,d,_)=>match quo? .i64 a 2 with|none=>none|some i=>match self ((w64 (a-i)),g,h,())with|none=>none|some (j,k,e,_)=>some (j,(BC k a (w64 (d+e))),(w64 (d+e)),())
 |false=>some (c,b,((A8 b a).getD 0),())
def RE[Lk]:Nat->(Int×Int×List Um×Unit)->Option ((Int×List Um×Int×Unit))
 |0,_=>none
 |n+1,v=>AKk (RE n) v
def ARA[Lk]:=fun v=>Lk.f (RE 100 v)
theorem AQ9 v:ARA v=RE 100 v:=A0 _
def lV[Lk]:Ub->Option (Uc):=fun(a,_)=>
 match(ile 1 a)with
 |true=>some ((ile a 10),())
 |false=>some (false,())
def sized[Lk]:=lkk lV
theorem qc v:sized v=lV v:=A0 _
abbrev AOA:A1:=[AA,AdG]
def AAM[Lk]:U4->Option (Ub):=fun(a,b,_)=>
 match sized (a,())with|none=>none|some (c,_)=>match(!c)with
 |true=>some ((-1:Int),())
 |false=>match shr? .u32 (IntKind.wrap .u32 (b*2654435761)) (IntKind.wrap .u64 (w64 (32-a)))with|none=>none|some d=>some ((w64 d),())
def home[Lk]:=lkk AAM
theorem ADM v:home v=AAM v:=A0 _
abbrev AH7:A1:=[AA,(.tmp 5,.dat (.int .u64)),AcC]
abbrev AH6:BF:=[(.exit 0,[(.tmp 5,.dat (.int .u64))])]
def MR[Lk]:U9->Option (U9⊕Ub⊕Unit):=fun(a,b,c,_)=>
 match(ilt c (w64 (32-a)))with
 |true=>match quo? .u64 b 2 with|none=>none|some d=>some (.inl (a,d,(w64 (c+1)),()))
 |false=>some (.inr (.inl (b,())))
def cP[Lk]:U4->Option (Ub):=fun(a,b,_)=>
 match(ilt a 1)with
 |true=>some ((-1:Int),())
 |false=>match(ilt 10 a)with
 |true=>some ((-1:Int),())
 |false=>match rem? (IntKind.wrap .u64 ((IntKind.wrap .u64 b)*2654435761)) 4294967296 with|none=>none|some c=>match A_ MR many (a,c,0,())with|none=>none|some r=>match r with
 |.inl (d,_)=>some ((w64 d),())
 |.inr _=>none
def nV[Lk]:=lkk cP
theorem jS v:nV v=cP v:=A0 _
abbrev Aea:Loc×Con:=(.tmp 0,.dat Vo)
abbrev ACK:A1:=[Aea,AdG]
abbrev Aeb:Loc×Con:=(.cell 0 1,.dat Uj)
abbrev AL7:A1:=[AdG,Aci,AG,Aeb,AcZ,AP,Acf,AcC]
abbrev AL6:BF:=[(.exit 0,[AP,Acf])]
def Sy[Lk]:(Int×Int×List Int×List Bool×Int×Int×Int×Unit)->Option ((Int×Int×List Int×List Bool×Int×Int×Int×Unit)⊕U4⊕Unit):=fun(c,g,d,e,a,b,f,_)=>
 match idx e a with|none=>none|some h=>match h with
 |true=>match idx d a with|none=>none|some i=>match(!(ieq i c))with
  |true=>some (.inl (c,g,d,e,(w64 ((BitVec.ofInt (IntKind.bits .i64) (w64 (a+1)) &&& BitVec.ofInt (IntKind.bits .i64) f).toNat)),(w64 (b+1)),f,()))
  |false=>some (.inr (.inl (a,b,())))
 |false=>some (.inr (.inl (a,b,())))
def mG[Lk]:(Vb×Int×Unit)->Option (U4):=fun(a,b,_)=>
 match home (a.1,b,())with|none=>none|some (c,_)=>match A_ Sy many (b,a.1,a.2.1,a.2.2.1,c,1,(w64 ((A3 a.2.1)-1)),())with|none=>none|some r=>match r with
 |.inl (d,e,_)=>some (d,e,())
 |.inr _=>none
def rV[Lk]:=lkk mG
theorem rU v:rV v=mG v:=A0 _
abbrev Aec:Loc×Con:=(.obj 0,.own 35 U8)
abbrev ABP:A1:=[Aec,Adl]
abbrev u9:A1:=[Aec,Ai,AQ,(.tmp 4,.sub' 0),Acf]
abbrev u5:BF:=[(.exit 2,[Aec,Ai,AQ])]
def Ig[Lk]:(List Int×Int×Int×Int×Int×Unit)->Option ((List Int×Int×Int×Int×Int×Unit)⊕Ul⊕Unit):=fun(a,e,c,d,b,_)=>
 match(ilt b (((A2 d):Nat):Int))with
 |true=>match idx (C' (A2 c) (A2 d) a) b with|none=>none|some f=>match idx (C' (A2 c) (A2 d) a) (w64 (b-1))with|none=>none|some g=>match(!(ieq (A7 a ((A2 c)+(A2 b)) 0) (A7 a ((A2 c)+(A2 (w64 (b-1)))) 0)))with
  |true=>match idx (C' (A2 c) (A2 d) a) b with|none=>none|some h=>match idx a e with|none=>none|some i=>some (.inl ((Bb a (A2 e) (A7 a ((A2 c)+(A2 b)) 0)),(w64 (e+1)),(((A2 c):Nat):Int),(((A2 d):Nat):Int),(w64 (b+1)),()))
  |false=>some (.inl (a,e,(((A2 c):Nat):Int),(((A2 d):Nat):Int),(w64 (b+1)),()))
 |false=>some (.inr (.inl (a,e,())))
abbrev vA:A1:=[Aec,Ai,AQ]
abbrev u6:BF:=[(.ret,[Aec,(.tmp 2,.win' 0)]),(.exit 0,[Aec,Ai])]
def E6[Lk]:Ul->Option (Ul⊕Ul⊕Uf⊕Unit):=fun(a,b,_)=>
 match(ilt b (A3 a))with
 |true=>match idx a b with|none=>none|some h=>match idx a (w64 (b-1))with|none=>none|some i=>match(ieq (A7 a (A2 b) 0) (A7 a (A2 (w64 (b-1))) 0))with
  |true=>match Ci a b (A3 a)with|none=>none|some f=>match A_ Ig many (a,b,(((A2 b):Nat):Int),(((A2 (A3 f)):Nat):Int),1,())with|none=>none|some r=>match r with
   |.inl (c,d,_)=>match Ci c d (A3 c)with|none=>none|some e=>match Ci (Bp (A2 d) (A2 (A3 e)) 0 c) 0 d with|none=>none|some g=>some (.inr (.inl ((Bp (A2 d) (A2 (A3 e)) 0 c),(((A2 (A3 g)):Nat):Int),())))
   |.inr _=>none
  |false=>some (.inl (a,(w64 (b+1)),()))
 |false=>some (.inr (.inr (.inl (a,()))))
def R5[Lk]:Uf->Option (Ul):=fun(a,_)=>
 match(ilt (A3 a) 2)with
 |true=>some (a,(A3 a),())
 |false=>match A_ E6 many (a,1,())with|none=>none|some r=>match r with
 |.inl (c,d,_)=>some (c,(((A2 d):Nat):Int),())
 |.inr r=>match r with
 |.inl (b,_)=>some (b,(A3 b),())
 |.inr _=>none
def T_[Lk]:=lkk R5
theorem X8 v:T_ v=R5 v:=A0 _
abbrev Aed:Loc×Con:=(.tmp 1,.dat Uj)
abbrev uT:A1:=[AcR,Aed]
abbrev AIZ:A1:=[AcR,Aed,AK,AL]
abbrev QK:BF:=[(.ret,[Ae]),(.exit 0,[])]
def Jr[Lk]:Un->Option (Un⊕Uc⊕(Unit)⊕Unit):=fun(b,c,d,a,_)=>
 match(ilt a d)with
 |true=>match idx b a with|none=>none|some e=>match idx c a with|none=>none|some f=>match(!(ieq e f))with
  |true=>some (.inr (.inl (false,())))
  |false=>some (.inl (b,c,d,(w64 (a+1)),()))
 |false=>some (.inr (.inr (.inl ())))
def cb[Lk]:V2->Option (Uc):=fun(a,b,_)=>
 match(!(ieq (A3 a) (A3 b)))with
 |true=>some (false,())
 |false=>match A_ Jr many (a,b,(A3 a),0,())with|none=>none|some r=>match r with
 |.inl (c,_)=>some (c,())
 |.inr r=>match r with
 |.inl _=>some (true,())
 |.inr _=>none
def n6[Lk]:=lkk cb
theorem jc v:n6 v=cb v:=A0 _
abbrev AO3:A1:=[AdQ,(.tmp 1,.dat Uh)]
abbrev AIa:A1:=[AdQ,(.tmp 1,.dat Uh),AK,AL]
def Js[Lk]:(List Bool×List Bool×Int×Int×Unit)->Option ((List Bool×List Bool×Int×Int×Unit)⊕Uc⊕(Unit)⊕Unit):=fun(b,c,d,a,_)=>
 match(ilt a d)with
 |true=>match idx b a with|none=>none|some e=>match idx c a with|none=>none|some f=>match(!(e==f))with
  |true=>some (.inr (.inl (false,())))
  |false=>some (.inl (b,c,d,(w64 (a+1)),()))
 |false=>some (.inr (.inr (.inl ())))
def cf[Lk]:(List Bool×List Bool×Unit)->Option (Uc):=fun(a,b,_)=>
 match(!(ieq (A3 a) (A3 b)))with
 |true=>some (false,())
 |false=>match A_ Js many (a,b,(A3 a),0,())with|none=>none|some r=>match r with
 |.inl (c,_)=>some (c,())
 |.inr r=>match r with
 |.inl _=>some (true,())
 |.inr _=>none
def n7[Lk]:=lkk cf
theorem jd v:n7 v=cf v:=A0 _
abbrev tp:A1:=[AcR,AdG]
abbrev AHx:A1:=[AcR,AdG,AO,AN]
def Jo[Lk]:Vd->Option (Vd⊕Ub⊕(Unit)⊕Unit):=fun(b,c,d,a,_)=>
 match(ilt a d)with
 |true=>match idx b a with|none=>none|some e=>match(ieq c e)with
  |true=>some (.inr (.inl (a,())))
  |false=>some (.inl (b,c,d,(w64 (a+1)),()))
 |false=>some (.inr (.inr (.inl ())))
def cF[Lk]:Ul->Option (Ub):=fun(a,b,_)=>
 match A_ Jo many (a,b,(A3 a),0,())with|none=>none|some r=>match r with
 |.inl (c,_)=>some (c,())
 |.inr r=>match r with
 |.inl _=>some ((-1:Int),())
 |.inr _=>none
def AAI[Lk]:=lkk cF
theorem jP v:AAI v=cF v:=A0 _
def PD[Lk]:Ul->Option (Uc):=fun(a,b,_)=>
 match AAI (a,b,())with|none=>none|some (c,_)=>some ((ile 0 c),())
def Mf[Lk]:=lkk PD
theorem T4 v:Mf v=PD v:=A0 _
def zW[Lk]:Ub->Option (Uc):=fun(a,_)=>
 some ((!(ieq a a)),())
def ASv[Lk]:=lkk zW
theorem ACz v:ASv v=zW v:=A0 _
abbrev AS3:A1:=[AcQ,AdG]
def mw[Lk]:U4->Option (Uc):=fun(a,b,_)=>
 match ASv (a,())with|none=>none|some (c,_)=>match c with
 |true=>match ASv (b,())with|none=>none|some (d,_)=>match(!d)with
  |true=>some (true,())
  |false=>some ((ilt a b),())
 |false=>some ((ilt a b),())
def DB[Lk]:=lkk mw
theorem tV v:DB v=mw v:=A0 _
abbrev KL:A1:=[Aec]
abbrev ATF:A1:=[Aec,Ai,AD,AE,AcC,AO]
abbrev ATE:BF:=[(.exit 2,[Aec,Ai,AD,AE,AcC])]
abbrev ATG:A1:=[Aec,Ai,AD,AE,AcC]
abbrev nG:BF:=[(.exit 0,[Aec])]
def AWc[Lk]:=Ox (0:Int) DB tId
def AYO[Lk]:=tn (0:Int) DB tId
theorem ATH v:AYO v=AWc v:=A0 _
abbrev Ku:A1:=[AdF,AD,AE,AQ]
abbrev ALD:A1:=[Aec,Ai,AE,AQ,AN]
abbrev ALC:BF:=[(.exit 0,[Aec]),(.ret,[Aec])]
def ARc[Lk]:=Ky (0:Int) DB tId
def AUx[Lk]:=Sm (0:Int) DB tId
theorem ALE v:AUx v=ARc v:=A0 _
abbrev AOE:A1:=[Aec,Ai,AcC,AO,AX]
abbrev AOC:BF:=[(.exit 2,[Aec])]
abbrev AOF:A1:=[Aec,Ai,AcC,AO,AN,Aa]
abbrev AOD:BF:=[(.exit 0,[Aec,Ai,AcC,AO,AN])]
def ATe[Lk]:=LC (0:Int) DB tId
def AVB[Lk]:=Xq (0:Int) DB tId
theorem AOG v:AVB v=ATe v:=A0 _
abbrev AJf:A1:=[Aec,Ai,AD,AcC,(.tmp 7,.box 1),Ak,(.tmp 8,.dat (.int .u64)),Aa]
def AP3[Lk]:=Ih (0:Int) DB tId
def AP5[Lk]:=PO (0:Int) DB tId
theorem AJg v:AP5 v=AP3 v:=A0 _
abbrev AGS:A1:=[AdF,AD,AE,Am,AJ]
abbrev AGR:A1:=[Aec,An,AJ,AA,AD]
def AGT[Lk]:=GM (0:Int) DB tId
def ACl[Lk]:=Hs (0:Int) DB tId
theorem zL v:ACl v=AGT v:=A0 _
abbrev AGv:A1:=[AdF,AD,AE,AQ,Ao,AJ]
abbrev iy:A1:=[Aec,An,AJ,AA]
def AGw[Lk]:=GP (0:Int) DB tId
def AC2[Lk]:=Hv (0:Int) DB tId
theorem ze v:AC2 v=AGw v:=A0 _
abbrev AHA:A1:=[AdF,AD,Ap,AJ]
def AHB[Lk]:=GQ (0:Int) DB tId
def AC7[Lk]:=Hw (0:Int) DB tId
theorem zk v:AC7 v=AHB v:=A0 _
abbrev AMJ:A1:=[Aec,AA,AD]
def AMK[Lk]:=IP (0:Int) DB tId
def AMM[Lk]:=OX (0:Int) DB tId
theorem AFq v:AMM v=AMK v:=A0 _
abbrev ARs:A1:=[Aec,Ai,AcC,AO]
def AVk[Lk]:=OT (0:Int) DB tId
def AX3[Lk]:=rJ (0:Int) DB tId
theorem ARt v:AX3 v=AVk v:=A0 _
abbrev yZ:A1:=[Aec,AB]
abbrev sC:A1:=[Aec,Ai,AD,AE,AO,AN,AX]
abbrev r6:BF:=[(.exit 6,[Aec,Ai,AD,AE,AO,AN])]
abbrev sD:A1:=[Aec,Ai,AD,AE,AO,AN,Aa]
abbrev r7:BF:=[(.exit 4,[Aec,Ai,AD,AE,AO,AN])]
abbrev XY:A1:=[Aec,Ai,AD,AE,AO,AN]
abbrev r8:BF:=[(.exit 2,[Aec,Ai,AD,AE,AO,AN])]
abbrev r9:BF:=[(.ret,[Aec,AdZ]),(.exit 0,[Aec])]
def ya[Lk]:=Ex (0:Int) DB tId
def sF[Lk]:=IT (0:Int) DB tId
theorem sE v:sF v=ya v:=A0 _
abbrev AGB:A1:=[Aec,AA]
abbrev RU:A1:=[Aec,Ai,AD,Aa,AX]
abbrev yp:BF:=[(.exit 4,[Aec,Ai,AD,Aa,AX])]
abbrev yq:BF:=[(.exit 2,[Aec,Ai,AD,Aa,AX])]
abbrev yr:BF:=[(.exit 0,[Aec,Aa])]
def AGC[Lk]:=GH (0:Int) DB tId
def ACg[Lk]:=K4 (0:Int) DB tId
theorem yt v:ACg v=AGC v:=A0 _
abbrev ASe:A1:=[Aec,AA,Ar]
abbrev OZ:A1:=[Aec,Ai,AD,AX,AY]
abbrev AMp:BF:=[(.exit 8,[Aec,Ai,AD,AX,AY])]
abbrev AMq:BF:=[(.exit 6,[Aec,Ai,AD,AX,AY])]
abbrev AMr:BF:=[(.exit 4,[Aec,Ai,AD,AY])]
abbrev AMs:BF:=[(.exit 2,[Aec,Ai,AD,AX,AY])]
abbrev AMt:BF:=[(.exit 0,[Aec,Ai,AD,AX,AY])]
def ASf[Lk]:=K3 (0:Int) DB tId
def AU5[Lk]:=Qr (0:Int) DB tId
theorem AMu v:AU5 v=ASf v:=A0 _
abbrev ACT:A1:=[Aec,Ai,AD,AE,AQ,Aq,(.tmp 9,.dat .bool)]
abbrev ACS:BF:=[(.ret,[Aec])]
def ACR[Lk]:=JB (0:Int) DB tId
def AV6[Lk]:=OY (0:Int) DB tId
def bD[Lk]:=Iv (0:Int) DB tId
def ASL[Lk]:=ry (0:Int) DB tId
theorem ASK v:ASL v=bD 100 v:=A0 _
def ARK[Lk]:=Kt (0:Int) DB tId
def qa[Lk]:=aH (0:Int) DB tId
theorem AK2 v:qa v=ARK v:=A0 _
def ae[Lk]:Uf->Option (Uf):=fun(a,_)=>
 match Lh a with|none=>none|some b=>match qa (b,())with|none=>none|some (c,_)=>match T_ (c,())with|none=>none|some (d,e,_)=>some ((CT (A2 e) d),())
def rising[Lk]:=lkk ae
theorem iR v:rising v=ae v:=A0 _
abbrev ANX:A1:=[AA,Aed]
abbrev ANW:A1:=[AA,(.tmp 1,.own 35 U8),Acb,AQ]
abbrev Aee:Loc×Con:=(.cell 1 2,.own 4 .bool)
abbrev Aef:Loc×Con:=(.cell 1 1,.own 35 U8)
abbrev Aeg:Loc×Con:=(.cell 0 1,.nil U8)
abbrev Aeh:Loc×Con:=(.tmp 8,.box 3)
abbrev ASy:A1:=[Acj,AG,Aeg,Ac7,Aeh,AJ,Aef,Aee,(.tmp 37,.own 35 U8),(.tmp 38,.di),Acv]
abbrev ADC:BF:=[(.exit 0,[Acj,AG,Aeg,Ac7,Aeh,AJ,Aef,Aee])]
def TA[Lk]:(Int×Int×List Int×List Bool×List Int×Int×Int×Unit)->Option ((Int×Int×List Int×List Bool×List Int×Int×Int×Unit)⊕(Int×Int×List Int×List Bool×Unit)⊕Unit):=fun(g,f,b,c,d,h,a,_)=>
 match(ilt a h)with
 |true=>match idx d a with|none=>none|some i=>match rV ((f,(b,(c,()))),(A7 d (A2 a) 0),())with|none=>none|some (e,j,_)=>match idx b e with|none=>none|some k=>match idx c e with|none=>none|some l=>some (.inl (g,f,(Bb b (A2 e) (A7 d (A2 a) 0)),(Bb c (A2 e) true),d,h,(w64 (a+1)),()))
 |false=>some (.inr (.inl (g,f,b,c,())))
def zq[Lk]:(Int×List Int×Unit)->Option ((Int×List Int×List Bool×Int×Unit)):=fun(b,d,_)=>
 match sized (b,())with|none=>none|some (e,_)=>match(!e)with
 |true=>some (0,([]:List (Int)),([]:List (Bool)),1,())
 |false=>match shl? .i64 1 (IntKind.wrap .u64 b)with|none=>none|some a=>match rising (d,())with|none=>none|some (c,_)=>match shr? .i64 a 1 with|none=>none|some f=>match shr? .i64 a 2 with|none=>none|some g=>match(ilt (w64 (f+g)) (A3 c))with
 |true=>some (0,([]:List (Int)),([]:List (Bool)),2,())
 |false=>match(B4 a&&B4 a&&ile a a&&true)with
 |true=>match(B4 a&&B4 a&&ile a a&&true)with
  |true=>match A_ TA many ((0:Int),b,(C2 (A2 a) (0:Int)),(C2 (A2 a) false),c,(A3 c),(0:Int),())with|none=>none|some r=>match r with
   |.inl (k,h,i,j,_)=>some (h,i,j,0,())
   |.inr _=>none
  |false=>none
 |false=>none
def make[Lk]:=lkk zq
theorem ADD v:make v=zq v:=A0 _
abbrev ANk:A1:=[Aea]
abbrev Aei:Loc×Con:=(.tmp 3,.own 35 U8)
abbrev AS9:A1:=[AcP,AG,Aeb,AcZ,Aei,(.tmp 7,.dat Uh),AN,Aa]
abbrev ADH:BF:=[(.exit 0,[Aei])]
def TJ[Lk]:(Int×List Int×List Bool×List Int×List Bool×Int×Int×Unit)->Option ((Int×List Int×List Bool×List Int×List Bool×Int×Int×Unit)⊕Uf⊕Unit):=fun(f,b,g,c,d,e,a,_)=>
 match(ilt a e)with
 |true=>match idx d a with|none=>none|some i=>match i with
  |true=>match(ilt a (A3 b))with
   |true=>match idx b a with|none=>none|some h=>match(fits ((A3 c)+(A3 ([h]:List (Int)))))with
    |true=>some (.inl (f,b,g,(Bi c ([h]:List (Int))),d,e,(w64 (a+1)),()))
    |false=>none
   |false=>some (.inl (f,b,g,c,d,e,(w64 (a+1)),()))
  |false=>some (.inl (f,b,g,c,d,e,(w64 (a+1)),()))
 |false=>some (.inr (.inl (c,())))
def z6[Lk]:(Vb×Unit)->Option (Uf):=fun(a,_)=>
 match A_ TJ many (a.1,a.2.1,a.2.2.1,([]:List (Int)),a.2.2.1,(A3 a.2.2.1),0,())with|none=>none|some r=>match r with
 |.inl (b,_)=>match rising (b,())with|none=>none|some (c,_)=>some (c,())
 |.inr _=>none
def keys[Lk]:=lkk z6
theorem keys_eq v:keys v=z6 v:=A0 _
def lz[Lk]:(Vb×Unit)->Option (Uc):=fun(a,_)=>
 match keys ((a.1,(a.2.1,(a.2.2.1,()))),())with|none=>none|some (b,_)=>match make (a.1,b,())with|none=>none|some (h,c,d,e,_)=>match(ieq e 0)with
 |true=>match n6 (c,a.2.1,())with|none=>none|some (f,_)=>match f with
  |true=>match n7 (d,a.2.2.1,())with|none=>none|some (g,_)=>some (g,())
  |false=>some (false,())
 |false=>some (false,())
def right[Lk]:=lkk lz
theorem rF v:right v=lz v:=A0 _
abbrev AWv:A1:=[AA,AD,AF]
def AAd[Lk]:(Vb×Int×Unit)->Option ((Int×Int×Bool×Unit)):=fun(a,d,_)=>
 match right ((a.1,(a.2.1,(a.2.2.1,()))),())with|none=>none|some (e,_)=>match(!e)with
 |true=>some (0,0,false,())
 |false=>match rV ((a.1,(a.2.1,(a.2.2.1,()))),d,())with|none=>none|some (b,c,_)=>match idx a.2.2.1 b with|none=>none|some f=>match(!f)with
 |true=>some (0,c,false,())
 |false=>some (b,c,true,())
def find[Lk]:=lkk AAd
theorem find_eq v:find v=AAd v:=A0 _
abbrev Aej:Loc×Con:=(.tmp 1,.clo 62 [(1,0)])
abbrev Aek:Loc×Con:=(.cell 1 0,.dat Uj)
abbrev Nq:A1:=[AdF,(.cap 1 0,.box 1),Aek,Aej]
abbrev YS:A1:=[Aec,An,Aek,AA]
abbrev Wi:A1:=[Aec,An,Aek,Ai,Aej,AO,AN]
abbrev Wh:BF:=[(.ret,[Aec,An,Aek,AP]),(.exit 0,[Aec,An,Aek])]
def DT[Lk]:Un->Option (Un⊕Us⊕V2⊕Unit):=fun(a,c,d,b,_)=>
 match(ilt b d)with
 |true=>match idx a b with|none=>none|some f=>match Mf (c,(A7 a (A2 b) 0),())with|none=>none|some (e,_)=>match e with
  |true=>some (.inr (.inl (a,c,b,())))
  |false=>some (.inl (a,c,d,(w64 (b+1)),()))
 |false=>some (.inr (.inr (.inl (a,c,()))))
def Iy[Lk]:V2->Option (Us):=fun(a,b,_)=>
 match A_ DT many (a,b,(A3 a),0,())with|none=>none|some r=>match r with
 |.inl (c,d,e,_)=>some (c,d,e,())
 |.inr r=>match r with
 |.inl (f,g,_)=>some (f,g,(-1:Int),())
 |.inr _=>none
def LZ[Lk]:=lkk Iy
theorem MP v:LZ v=Iy v:=A0 _
abbrev Nt:A1:=[Aec,An,Aek,Adl]
abbrev Wz:A1:=[Aec,An,Aek,Ai,Aej,Acf,AcC]
abbrev Wy:BF:=[(.exit 0,[Aec,An,Aek,Ai,Acf])]
def FP[Lk]:Un->Option (Un⊕Us⊕Unit):=fun(a,d,c,b,_)=>
 match(ilt b (A3 a))with
 |true=>match idx a b with|none=>none|some f=>match Mf (d,(A7 a (A2 b) 0),())with|none=>none|some (e,_)=>match(!e)with
  |true=>match idx a c with|none=>none|some g=>some (.inl ((Bb a (A2 c) (A7 a (A2 b) 0)),d,(w64 (c+1)),(w64 (b+1)),()))
  |false=>some (.inl (a,d,c,(w64 (b+1)),()))
 |false=>some (.inr (.inl (a,d,c,())))
def Iz[Lk]:V2->Option (Us):=fun(g,h,_)=>
 match LZ (g,h,())with|none=>none|some (c,e,d,_)=>match(ieq d (-1:Int))with
 |true=>some (c,e,(A3 c),())
 |false=>match A_ FP many (c,e,d,(w64 (d+1)),())with|none=>none|some r=>match r with
 |.inl (a,i,b,_)=>match Ci a b (A3 a)with|none=>none|some f=>match Ci (Bp (A2 b) (A2 (A3 f)) 0 a) 0 b with|none=>none|some j=>some ((Bp (A2 b) (A2 (A3 f)) 0 a),i,(((A2 (A3 j)):Nat):Int),())
 |.inr _=>none
def Hz[Lk]:=lkk Iz
theorem MZ v:Hz v=Iz v:=A0 _
abbrev AUH:A1:=[AdF,(.tmp 1,.box 1),Aek]
def oB[Lk]:V2->Option (Us):=fun(a,b,_)=>
 match Hz (a,b,())with|none=>none|some (c,d,e,_)=>some (c,d,(((A2 e):Nat):Int),())
def ADh[Lk]:=lkk oB
theorem uc v:ADh v=oB v:=A0 _
abbrev AXA:A1:=[Aea,Aed]
abbrev AW9:A1:=[AA,Aed,Ace,AQ]
def AAt[Lk]:(Vb×List Int×Unit)->Option ((Int×List Int×List Bool×Int×Unit)):=fun(a,c,_)=>
 match right ((a.1,(a.2.1,(a.2.2.1,()))),())with|none=>none|some (d,_)=>match(!d)with
 |true=>some (a.1,a.2.1,a.2.2.1,1,())
 |false=>match keys ((a.1,(a.2.1,(a.2.2.1,()))),())with|none=>none|some (e,_)=>match ADh (e,c,())with|none=>none|some (f,k,g,_)=>match make (a.1,(CT (A2 g) f),())with|none=>none|some (h,i,j,b,_)=>match(!(ieq b 0))with
 |true=>some (a.1,a.2.1,a.2.2.1,b,())
 |false=>some (h,i,j,0,())
def drop[Lk]:=lkk AAt
theorem drop_eq v:drop v=AAt v:=A0 _
abbrev wO:A1:=[AcR,Aed,Acf]
def HG[Lk]:Us->Option (Us⊕Uc⊕(Unit)⊕Unit):=fun(b,c,a,_)=>
 match(ilt a (A3 b))with
 |true=>match idx b a with|none=>none|some d=>match idx c a with|none=>none|some e=>match(!(ieq d e))with
  |true=>some (.inr (.inl (false,())))
  |false=>some (.inl (b,c,(w64 (a+1)),()))
 |false=>some (.inr (.inr (.inl ())))
def VM[Lk]:V2->Option (Uc):=fun(a,b,_)=>
 match(!(ieq (A3 a) (A3 b)))with
 |true=>some (false,())
 |false=>match A_ HG many (a,b,0,())with|none=>none|some r=>match r with
 |.inl (c,_)=>some (c,())
 |.inr r=>match r with
 |.inl _=>some (true,())
 |.inr _=>none
def SK[Lk]:=lkk VM
theorem Zh v:SK v=VM v:=A0 _
abbrev ALX:A1:=[Aea,(.tmp 1,.dat Vo)]
abbrev Ael:Loc×Con:=(.tmp 3,.box 3)
abbrev AFO:A1:=[Aci,AG,Aeb,AcZ,Ael,AJ,(.cell 1 1,.dat Uj),Ac8,Acf]
abbrev AFN:BF:=[(.ret,[Ae]),(.exit 0,[Aci,AG,Aeb,AcZ,Ael,AJ,(.cell 1 1,.dat Uj),Ac8])]
def Je[Lk]:(Int×List Int×List Bool×Int×List Int×List Bool×Int×Unit)->Option ((Int×List Int×List Bool×Int×List Int×List Bool×Int×Unit)⊕Uc⊕(Int×List Int×List Bool×Int×List Int×List Bool×Unit)⊕Unit):=fun(d,e,a,f,g,c,b,_)=>
 match(ilt b (A3 a))with
 |true=>match idx a b with|none=>none|some h=>match idx c b with|none=>none|some i=>match(!(h==i))with
  |true=>some (.inr (.inl (false,())))
  |false=>some (.inl (d,e,a,f,g,c,(w64 (b+1)),()))
 |false=>some (.inr (.inr (.inl (d,e,a,f,g,c,()))))
def aP[Lk]:(Vb×Vb×Unit)->Option (Uc):=fun(a,b,_)=>
 match(!(ieq a.1 b.1))with
 |true=>some (false,())
 |false=>match(!(ieq (A3 a.2.2.1) (A3 b.2.2.1)))with
 |true=>some (false,())
 |false=>match A_ Je many (a.1,a.2.1,a.2.2.1,b.1,b.2.1,b.2.2.1,0,())with|none=>none|some r=>match r with
 |.inl (c,_)=>some (c,())
 |.inr r=>match r with
 |.inl (g,d,h,i,e,j,_)=>match SK (d,e,())with|none=>none|some (f,_)=>some (f,())
 |.inr _=>none
def lh[Lk]:=lkk aP
theorem iK v:lh v=aP v:=A0 _
abbrev rC:A1:=[AcR,Aei,AP,Acf]
abbrev q8:BF:=[(.exit 2,[AcR,Aei,AP,Acf])]
def IL[Lk]:Un->Option (Un⊕Un⊕Unit):=fun(c,a,d,b,_)=>
 match(ilt b (A3 a))with
 |true=>match idx a b with|none=>none|some f=>match idx c d with|none=>none|some e=>match(ilt (A7 a (A2 b) 0) e)with
  |true=>some (.inl (c,a,d,(w64 (b+1)),()))
  |false=>some (.inr (.inl (c,a,d,b,())))
 |false=>some (.inr (.inl (c,a,d,b,())))
abbrev rD:A1:=[AcR,Aei,AP]
def IM[Lk]:Us->Option (Us⊕Uf⊕Unit):=fun(i,j,k,_)=>
 match(ilt k (A3 i))with
 |true=>match A_ IL many (i,j,k,0,())with|none=>none|some r=>match r with
  |.inl (c,a,d,b,_)=>match(ilt b (A3 a))with
   |true=>match idx a b with|none=>none|some o=>match idx c d with|none=>none|some n=>match(ieq (A7 a (A2 b) 0) n)with
    |true=>some (.inl (c,a,(w64 (d+1)),()))
    |false=>match Ci a 0 b with|none=>none|some e=>match(fits ((A3 ([]:List (Int)))+(A3 (C' 0 (A2 (A3 e)) a))))with
    |true=>match idx c d with|none=>none|some g=>match(fits ((A3 (Bi ([]:List (Int)) (C' 0 (A2 (A3 e)) a)))+(A3 ([g]:List (Int)))))with
     |true=>match Ci a b (A3 a)with|none=>none|some l=>match(fits ((A3 (Bi (Bi ([]:List (Int)) (C' 0 (A2 (A3 e)) a)) ([g]:List (Int))))+(A3 (C' (A2 b) (A2 (A3 l)) a))))with
      |true=>some (.inl (c,(Bi (Bi (Bi ([]:List (Int)) (C' 0 (A2 (A3 e)) a)) ([g]:List (Int))) (C' (A2 b) (A2 (A3 l)) a)),(w64 (d+1)),()))
      |false=>none
     |false=>none
    |false=>none
   |false=>match Ci a 0 b with|none=>none|some f=>match(fits ((A3 ([]:List (Int)))+(A3 (C' 0 (A2 (A3 f)) a))))with
   |true=>match idx c d with|none=>none|some h=>match(fits ((A3 (Bi ([]:List (Int)) (C' 0 (A2 (A3 f)) a)))+(A3 ([h]:List (Int)))))with
    |true=>match Ci a b (A3 a)with|none=>none|some m=>match(fits ((A3 (Bi (Bi ([]:List (Int)) (C' 0 (A2 (A3 f)) a)) ([h]:List (Int))))+(A3 (C' (A2 b) (A2 (A3 m)) a))))with
     |true=>some (.inl (c,(Bi (Bi (Bi ([]:List (Int)) (C' 0 (A2 (A3 f)) a)) ([h]:List (Int))) (C' (A2 b) (A2 (A3 m)) a)),(w64 (d+1)),()))
     |false=>none
    |false=>none
   |false=>none
  |.inr _=>none
 |false=>some (.inr (.inl (j,())))
def RP[Lk]:Uf->Option (Uf):=fun(a,_)=>
 match A_ IM many (a,([]:List (Int)),0,())with|none=>none|some r=>match r with
 |.inl (b,_)=>some (b,())
 |.inr _=>none
def Ss[Lk]:=lkk RP
theorem XT v:Ss v=RP v:=A0 _
abbrev Aem:Loc×Con:=(.cell 2 2,.own 4 .bool)
abbrev Aen:Loc×Con:=(.cell 2 1,.own 35 U8)
abbrev AHS:A1:=[AA,Acj,AG,Aeg,Ac7,AcC,AdV,Aeh,AdE,Aen,Aem,Aa,AX]
abbrev AHR:BF:=[(.exit 2,[AA,Acj,AG,Aeg,Ac7,AcC,AdV,Aeh,AdE,Aen,Aem,Aa,AX])]
def WS[Lk]:Vi->Option (Vi⊕Vi⊕Unit):=fun(d,e,c,f,g,h,a,i,b,_)=>
 match idx a b with|none=>none|some k=>match(A7 a (A2 b) false)with
 |true=>match rem? (w64 (b+1)) c with|none=>none|some j=>some (.inl (d,e,c,f,g,h,a,i,j,()))
 |false=>some (.inr (.inl (d,e,c,f,g,h,a,i,b,())))
abbrev AHT:A1:=[AA,Acj,AG,Aeg,Ac7,AcC,AdV,Aeh,AdE,Aen,Aem,Aa]
def MC[Lk]:(Int×Int×Int×List Int×Int×List Int×List Bool×Int×Unit)->Option ((Int×Int×Int×List Int×Int×List Int×List Bool×Int×Unit)⊕(Int×Int×List Int×List Bool×Unit)⊕Unit):=fun(f,g,m,a,h,i,j,b,_)=>
 match(ilt b (A3 a))with
 |true=>match idx a b with|none=>none|some t=>match nV (f,(A7 a (A2 b) 0),())with|none=>none|some (n,_)=>match A_ WS many (f,g,m,a,h,i,j,b,n,())with|none=>none|some r=>match r with
  |.inl (o,p,q,d,s,k,l,e,c,_)=>match idx d e with|none=>none|some u=>match idx k c with|none=>none|some v=>match idx l c with|none=>none|some w=>some (.inl (o,p,q,d,s,(Bb k (A2 c) (A7 d (A2 e) 0)),(Bb l (A2 c) true),(w64 (e+1)),()))
  |.inr _=>none
 |false=>some (.inr (.inl (g,h,i,j,())))
def bf[Lk]:(Int×List Int×Unit)->Option ((Int×List Int×List Bool×Int×Unit)):=fun(b,d,_)=>
 match(ilt b 1)with
 |true=>some (0,([]:List (Int)),([]:List (Bool)),1,())
 |false=>match(ilt 10 b)with
 |true=>some (0,([]:List (Int)),([]:List (Bool)),1,())
 |false=>match shl? .i64 1 (IntKind.wrap .u64 b)with|none=>none|some a=>match Ss (d,())with|none=>none|some (c,_)=>match quo? .i64 (w64 (a*3)) 4 with|none=>none|some e=>match(ilt e (A3 c))with
 |true=>some (0,([]:List (Int)),([]:List (Bool)),2,())
 |false=>match(B4 a&&B4 a&&ile a a&&true)with
 |true=>match(B4 a&&B4 a&&ile a a&&true)with
  |true=>match A_ MC many (b,(0:Int),a,c,b,(C2 (A2 a) (0:Int)),(C2 (A2 a) false),(0:Int),())with|none=>none|some r=>match r with
   |.inl (i,f,g,h,_)=>some (f,g,h,0,())
   |.inr _=>none
  |false=>none
 |false=>none
def mo[Lk]:=lkk bf
theorem jD v:mo v=bf v:=A0 _
abbrev zu:A1:=[AcF,AG,AcD,AQ]
def KH[Lk]:(Int×List U2×Int×Unit)->Option ((Int×List U2×Int×Unit)⊕Uc⊕(Unit)⊕Unit):=fun(c,b,d,_)=>
 match(ilt d (A3 b))with
 |true=>match idx b d with|none=>none|some a=>match Yn ((c,(b,())),a.2.2.1,())with|none=>none|some (f,_)=>match Jv (c,f,())with|none=>none|some (e,_)=>match(!a.2.2.2.1)with
  |true=>match idx e a.1 with|none=>none|some g=>match idx e a.2.1 with|none=>none|some h=>match(!(ieq (A7 e (A2 a.1) 0) (A7 e (A2 a.2.1) 0)))with
   |true=>some (.inr (.inl (false,())))
   |false=>some (.inl (c,b,(w64 (d+1)),()))
  |false=>some (.inl (c,b,(w64 (d+1)),()))
 |false=>some (.inr (.inr (.inl ())))
def P1[Lk]:(Ue×Unit)->Option (Uc):=fun(a,_)=>
 match Fl ((a.1,(a.2.1,())),())with|none=>none|some (b,_)=>match(!b)with
 |true=>some (false,())
 |false=>match A_ KH many (a.1,a.2.1,0,())with|none=>none|some r=>match r with
 |.inl (c,_)=>some (c,())
 |.inr r=>match r with
 |.inl _=>some (true,())
 |.inr _=>none
def TB[Lk]:=lkk P1
theorem Rg v:TB v=P1 v:=A0 _
def m9[Lk]:(U4×Unit)->Option ((Int×Bool×Unit)):=fun(a,_)=>
 match(ilt a.1 0)with
 |true=>some (0,false,())
 |false=>match(ilt a.2.1 0)with
 |true=>some (0,false,())
 |false=>match(ilt 65535 a.1)with
 |true=>some (0,false,())
 |false=>match(ilt 65535 a.2.1)with
 |true=>some (0,false,())
 |false=>some ((IntKind.wrap .u32 (w64 ((w64 ((Cl a.1 a.2.1)*65536))+(imax a.1 a.2.1)))),true,())
def ADJ[Lk]:=lkk m9
theorem tc v:ADJ v=m9 v:=A0 _
open Go.RowKit
def Vr:List AV->List AV->Bool
 |[],[]=>true
 |.ptr i o::ps,.ptr j u::qs=>decide (i=j)&&decide (o=u)&&Vr ps qs
 |_,_=>false
def xV:Option Ob->Ob->Bool
 |some (.box [.clo f ps]),.box [.clo g qs]=>decide (f=g)&&Vr ps qs
 |_,_=>false
def OF(ids:List Nat)(H:List Ob)(e:Eff):Eff:=
 match e.heap.isNone&&FW (e.objs.map (·.1))with
 |true=>{ e with objs:=e.objs.filter fun p => !(ids.contains p.1&&xV H[p.1]? p.2) }
 |false=>e
def thin(s:Spec):Spec:=fun R args H fz slot k=>s R args H fz slot fun v e=>k v (OF (Bz args) H e)
theorem iJ:∀ {c d:List AV},Vr c d=true->c=d
 |[],[],_=>rfl
 |[],_::_,h=>by simp[Vr]at h
 |a::c,[],h=>by cases a<;>simp[Vr]at h
 |a::c,b::d,h=>by cases a<;>cases b<;>simp only[Vr,AY3,AY2,AZH]at h;obtain⟨⟨rfl,rfl⟩,h⟩:=h;rw[iJ h]
theorem AFM{o:Option Ob}{o':Ob}(h:xV o o'=true):o=some o':=by unfold xV at h;split at h;simp only[AY3,AY2]at h;rw[h.1,iJ h.2];cases h
theorem tG{i:Nat}{l:List Nat}(h:FW (i::l)=true):i∉l/\FW l=true:=by simpa [FW]using h
theorem aJ{q:Nat×Ob->Bool}:∀ (l:List (Nat×Ob)) (H:List Ob),FW (l.map (·.1))=true->(∀ p∈l,q p=false->H[p.1]? = some p.2)->Bo (l.filter q) H=Bo l H:=by
 intro l;induction l with
  |nil=>intros;rfl
  |cons p l d=>
   intro H m h;obtain⟨i,o⟩:=p;obtain⟨n,f⟩:=tG m;rw[AaF];cases r:q (i,o)with
    |true=>simp only[AZa,Bo];refine d _ f fun p a b => ?_;have c:i≠p.1:=fun e=>n (AZG.2 ⟨p,a,e.symm⟩);rw[Aaw c];exact h p (AaQ _ a) b
    |false=>
     have g:=h _ (AbM ..) r;simp only[AZH,AZL,Bo];have e:H.set i o=H:=by apply AZt;intro j;by_cases k:i=j;subst k;rw[Abz (BW g)];exact g.symm;rw[Aaw k]
     rw[e];exact d _ f fun p a=>h p (AaQ _ a)
theorem ARB(ids:List Nat)(H:List Ob)(e:Eff):C9 (OF ids H e) H=C9 e H:=by unfold OF;split;rename_i h;rw[AY3,Option.isNone_iff_eq_none]at h;have b:∀ l,C9 { heap:=e.heap,objs:=l,frz:=e.frz } H=Bo l H:=fun l=>Cx (e:={ heap:=e.heap,objs:=l,frz:=e.frz }) h.1 H;refine(b _).trans (Eq.trans ?_ (Cx h.1 H).symm);refine aJ _ _ h.2 fun p _ a => ?_;simp only[Bool.not_eq_false',AY3]at a;exact AFM a.2;rfl
theorem ARC(ids:List Nat)(H:List Ob)(e:Eff)(fz:List Bool):FT (OF ids H e) fz=FT e fz:=by unfold OF;split<;>rfl
theorem AB6{P:Program}{g:FuncId}{s:Spec}(h:BS P g s):BS P g (thin s):=by intro R args H fz slot k r b;obtain⟨v,e,c,d,f,i⟩:=h R args H fz slot _ r b;refine⟨v,OF (Bz args) H e,c,fun j n=>d j _,f,fun w F m a hi l => ?_⟩;rw[ARB,ARC];exact i w F m a hi l
theorem qR{ids:List Nat}{H H':List Ob}(h:∀ id∈ids,H[id]? = H'[id]?)(e:Eff):OF ids H e=OF ids H' e:=by
 unfold OF;split;congr 1;refine AaU fun p _ => ?_;by_cases a:p.1∈ids;rw[h _ a];have:ids.contains p.1=false:=by simpa using a
 rw[this];rfl;rfl
theorem AB7{s:Spec}(h:G7 s):G7 (thin s):=by
 intro R args H H' fz fz' slot k S b d c;unfold thin;rw[h R args H H' fz fz' slot _ S b d c];have:(fun v e=>k v (OF (Bz args) H e))=fun v e=>k v (OF (Bz args) H' e):=by funext v e;rw[qR (fun id a=>c.heap id (b id a)) e]
 rw[this]
open Go.Proofs
def nF:=Chn.g ⟨vz,vw⟩ ⟨24,0,0,3,0,none,AWb,[(.ret,AWa)],Ea,[(9,[[18],[],[20],[],[7,22],[1]])],[(0,ATD,ATC)]⟩ ANr Tryz.func24 ADK
abbrev AVa(self:(Int×Int×List (Int×Int)×Unit)->Option ((Int×List (Int×Int)×Int×Unit))):Hints:={ fp:=fun n=>match n with|5=>[[6,1000008],[],[],[1000005,1,3,6,5],[6,1000008],[],[],[],[],[1000005,1,3,6,5],[],[]]|_=>[] }
abbrev AKl(self:(Int×Int×List (Int×Int)×Unit)->Option ((Int×List (Int×Int)×Int×Unit))):Env:=nF.e.ext 230 false true (thin (BX 4 4 Z9 Z8 A5 self))
theorem AKj(self:(Int×Int×List (Int×Int)×Unit)->Option ((Int×List (Int×Int)×Int×Unit))):∀ v,AKk self v=Dn 4 Tryz.prog (AKl self) (AVa self) Tryz.f230 Z9 Z8 A5 v:=by rintro⟨a,b,c,⟨⟩⟩;kernel_rfl
theorem AVZ:Ca (B5 Tryz.f230) 0=[]:=by kernel_rfl
theorem xA:∀ n,BS Tryz.prog 230 (thin (BX 4 4 Z9 Z8 A5 (RE n))):=by
 intro n;induction n with
  |zero=>exact(AB6 (GO fun _=>rfl))
  |succ n a=>have b:BH Tryz.prog (AKl (RE n)):=Env.CB nF.h a ((by simp)) (fun _=>AB7 (CR rfl rfl));let self:=RE n;exact(AB6 (GW b Tryz.func230 (by kernel_rfl) (by kernel_rfl) rfl (AKj self) (Dd AVZ trivial)))
theorem AEq:BS Tryz.prog 230 (thin (BX 4 4 Z9 Z8 A5 ARA)):=by have e:ARA=RE 100:=funext AQ9;rw[e];exact xA _
def AQc[Lk]:Env:=nF.e.ext 230 false true (thin (BX 4 4 Z9 Z8 A5 ARA))
theorem AJ4:BH Tryz.prog AQc:=Env.CB nF.h AEq ((by simp)) (fun _=>AB7 (CR rfl rfl))
theorem APh : (Tryz.f117.name == "runtime.NumGoroutine") = false := by kernel_rfl
theorem oU:F_ Tryz.prog Tryz.f117 34 35 (.int .u32) where
 body:=by kernel_rfl
 nt:=by kernel_rfl
 res:=by kernel_rfl
 d:=⟨by kernel_rfl,by kernel_rfl,by kernel_rfl,by kernel_rfl,by kernel_rfl,by kernel_rfl,by kernel_rfl,by kernel_rfl⟩
 g:=⟨by kernel_rfl,by kernel_rfl,by kernel_rfl,by kernel_rfl,by kernel_rfl,by kernel_rfl,by kernel_rfl,by kernel_rfl⟩
 o00:=by kernel_rfl
 o10:=by kernel_rfl
 o11:=by kernel_rfl
 o20:=by kernel_rfl
 o30:=by kernel_rfl
 o31:=by kernel_rfl
 o32:=by kernel_rfl
 o33:=by kernel_rfl
 sl:=by kernel_rfl
 z:=by kernel_rfl
 by1:=by kernel_rfl
def wF[Lk]:Env:=AQc.ext 117 true true (EE 35 (.int .u32))
theorem wE:BH Tryz.prog wF:=Env.CB AJ4 (Mi oU Tryz.func117 APh) (fun _=>B_ _ _) (fun _=>(B_ _ _).wk)
def ARb:=Chn.g ⟨wF,wE⟩ ⟨50,0,0,1,0,none,BR,[(.ret,BP)],A5,[],[]⟩ sized Tryz.func50 qc
def AWn:=Chn.g ARb ⟨120,0,0,2,0,none,AOA,[(.ret,BR)],A5,[],[]⟩ home Tryz.func120 ADM
def AOB:=Chn.g AWn ⟨65,0,0,2,0,none,AOA,[(.ret,BR)],A5,[],[(0,AH7,AH6)]⟩ nV Tryz.func65 jS
def ASA:=Chn.g AOB ⟨52,0,0,2,0,none,ACK,[(.ret,OE)],BV,[],[(0,AL7,AL6)]⟩ rV Tryz.func52 rU
def ABQ:=Chn.g ASA ⟨119,0,1,1,8,none,L5,[(.ret,ABP)],A5,[(6,[[],[],[0],[0],[],[],[],[0],[0]]),(11,[[],[],[0],[0],[],[],[],[0],[0]])],[(0,vA,u6),(1,u9,u5)]⟩ T_ Tryz.func119 X8
def AO1:=Chn.g ABQ ⟨121,0,0,2,0,none,uT,[(.ret,BP)],A5,[],[(0,AIZ,QK)]⟩ n6 Tryz.func121 jc
def AO4:=Chn.g AO1 ⟨122,0,0,2,0,none,AO3,[(.ret,BP)],A5,[],[(0,AIa,QK)]⟩ n7 Tryz.func122 jd
def AN3:=Chn.g AO4 ⟨131,0,0,2,0,none,tp,[(.ret,BR)],A5,[],[(0,AHx,MN)]⟩ AAI Tryz.func131 jP
def ur:=Chn.g AN3 ⟨63,0,0,2,0,none,tp,[(.ret,BP)],A5,[],[]⟩ Mf Tryz.func63 T4
def AWT:=Chn.g ur ⟨279,0,0,1,0,none,oK,[(.ret,BP)],A5,[],[]⟩ ASv Tryz.func279 ACz
def AS4:=Chn.g AWT ⟨238,0,0,2,0,none,AS3,[(.ret,BP)],A5,[],[]⟩ DB Tryz.func238 tV
def AWd:=Chn.g AS4 ⟨232,0,1,3,0,none,NZ,[(.ret,KL)],Bm,[(4,[[],[],[],[],[],[],[0],[0],[],[],[],[0],[0]]),(6,[[],[],[],[],[],[],[],[],[0],[0],[],[],[0],[0],[0],[1],[0],[1]])],[(0,ATG,nG),(1,ATF,ATE)]⟩ AYO Tryz.func232 ATH
def ARd:=Chn.g AWd ⟨276,0,1,4,0,none,Ku,[(.ret,KL)],Bm,[(6,[[],[],[],[],[],[],[],[],[],[],[],[],[0],[0],[],[],[],[],[0],[0],[0],[1],[0],[1]]),(5,[[],[],[],[],[0],[0],[],[],[],[],[0],[0]]),(3,[[],[],[],[],[],[],[],[],[],[0],[0],[],[],[],[],[],[0],[0]])],[(0,ALD,ALC)]⟩ AUx Tryz.func276 ALE
def ATf:=Chn.g ARd ⟨233,0,1,3,0,none,NZ,[(.ret,KL)],Bm,[(10,[[],[],[],[],[],[],[],[],[],[],[0],[0],[],[],[0],[0],[0],[1],[0],[1]])],[(0,AOF,AOD),(1,AOE,AOC)]⟩ AVB Tryz.func233 AOG
def AP4:=Chn.g ATf ⟨234,0,1,3,0,none,NZ,[(.ret,KL)],Bm,[(10,[[],[],[],[],[],[],[],[],[],[],[0],[0],[],[],[0],[0],[0],[1],[0],[1]])],[(0,AJf,nG)]⟩ AP5 Tryz.func234 AJg
def AGU:=Chn.g AP4 ⟨299,0,2,4,0,none,AGS,[(.ret,AGR)],BV,[(1,[[],[],[0],[0],[],[],[0],[0]])],[]⟩ ACl Tryz.func299 zL
def AGx:=Chn.g AGU ⟨278,0,2,5,0,none,AGv,[(.ret,iy)],A5,[],[]⟩ AC2 Tryz.func278 ze
def AHC:=Chn.g AGx ⟨277,0,2,3,0,none,AHA,[(.ret,iy)],A5,[],[]⟩ AC7 Tryz.func277 zk
def AML:=Chn.g AHC ⟨235,0,1,3,0,none,NZ,[(.ret,AMJ)],BV,[],[]⟩ AMM Tryz.func235 AFq
def AVl:=Chn.g AML ⟨236,0,1,3,0,none,NZ,[(.ret,KL)],Bm,[(3,[[],[],[],[],[],[],[0],[0],[],[],[0],[0],[0],[1],[0],[1]])],[(0,ARs,nG)]⟩ AX3 Tryz.func236 ARt
def yb:=Chn.g AVl ⟨237,0,1,3,0,none,NZ,[(.ret,yZ)],A5,[(11,[[],[],[],[],[],[],[],[],[0],[0],[],[],[0],[0],[0],[1],[0],[1]]),(5,[[],[],[],[],[],[],[0],[0],[],[],[],[0],[0]]),(17,[[],[],[],[],[],[],[],[],[0],[0],[],[],[0],[0],[0],[1],[0],[1]]),(16,[[],[],[0],[0],[],[],[],[0],[0]]),(23,[[],[],[],[],[],[],[],[],[0],[0],[],[],[0],[0],[0],[1],[0],[1]]),(22,[[],[],[0],[0],[],[],[],[0],[0]])],[(0,XY,r9),(1,XY,r8),(2,sD,r7),(3,sC,r6)]⟩ sF Tryz.func237 sE
def AGD:=Chn.g yb ⟨239,0,1,4,0,none,Ku,[(.ret,AGB)],A5,[(8,[[],[],[],[],[],[],[0],[0],[],[],[0],[0],[0],[1],[0],[1]]),(3,[[],[],[],[],[],[],[0],[0],[],[],[0],[0]]),(5,[[],[],[],[],[],[],[0],[0],[],[],[0],[0]]),(1,[[],[],[],[],[],[],[0],[0],[],[],[0],[0],[0],[1],[0],[1]])],[(0,RU,yr),(1,RU,yq),(2,RU,yp)]⟩ ACg Tryz.func239 yt
def Y7:=Chn.g AGD ⟨240,0,1,4,0,none,Ku,[(.ret,ASe)],BV,[(3,[[],[],[],[],[],[],[0],[0],[],[],[0],[0]]),(5,[[],[],[],[],[],[],[0],[0],[],[],[0],[0]]),(18,[[],[],[],[],[],[],[0],[0],[],[],[0],[0],[0],[1],[0],[1]]),(13,[[],[],[],[],[],[],[0],[0],[],[],[0],[0]]),(15,[[],[],[],[],[],[],[0],[0],[],[],[0],[0]]),(21,[[],[],[],[],[],[],[0],[0],[],[],[0],[0],[0],[1],[0],[1]]),(10,[[],[],[],[],[],[],[0],[0],[],[],[0],[0],[0],[1],[0],[1]]),(8,[[],[],[],[],[],[],[0],[0],[],[],[0],[0],[0],[1],[0],[1]]),(1,[[],[],[],[],[],[],[0],[0],[],[],[0],[0],[0],[1],[0],[1]])],[(0,OZ,AMt),(1,OZ,AMs),(2,OZ,AMr),(3,OZ,AMq),(4,OZ,AMp)]⟩ AU5 Tryz.func240 AMu
abbrev yJ(self:(List Int×Int×Int×Int×Unit)->Option ((List Int×Unit))):Hints:={ loop:=fun n=>match n with|0=>LX 1 134 ACT ACS (ACR self)|_=>fun _ _ _=>none,fp:=fun n=>match n with|17=>[[],[],[],[],[],[],[0],[0],[],[],[0],[0],[],[],[]]|_=>[] }
abbrev mQ(self:(List Int×Int×Int×Int×Unit)->Option ((List Int×Unit))):Env:=Y7.e.ext 191 false true (BX 1 4 Ku KL Bm self)
theorem yI(self:(List Int×Int×Int×Int×Unit)->Option ((List Int×Unit))):∀ v,ACR self v=roundOf Tryz.prog (mQ self) (yJ self) 1 1 134 (C6 Tryz.f191 0) ACT ACS v:=by rintro⟨a,b,c,d,e,f,⟨⟩⟩;kernel_rfl
theorem ASI:Ca (C6 Tryz.f191 0) 1=[]:=by kernel_rfl
theorem ASJ(self:(List Int×Int×Int×Int×Unit)->Option ((List Int×Unit)))(a:BH Tryz.prog (mQ self)):I4 Tryz.prog 1 (.loop (C6 Tryz.f191 0)) ((yJ self).loop 0):=P2 a (yI self) (Dd ASI trivial)
theorem AMi(self:(List Int×Int×Int×Int×Unit)->Option ((List Int×Unit))):∀ v,AV6 self v=Dn 1 Tryz.prog (mQ self) (yJ self) Tryz.f191 Ku KL Bm v:=by rintro⟨a,b,c,d,⟨⟩⟩;kernel_rfl
theorem AV5:Ca (B5 Tryz.f191) 0=[(0,C6 Tryz.f191 0)]:=by kernel_rfl
theorem yK:∀ n,BS Tryz.prog 191 (BX 1 4 Ku KL Bm (bD n)):=by
 intro n;induction n with
  |zero=>exact GO fun _=>rfl
  |succ n b=>have a:BH Tryz.prog (mQ (bD n)):=Env.CB Y7.h b ((by simp)) (fun _=>CR rfl rfl);let self:=bD n;exact GW a Tryz.func191 (by kernel_rfl) (by kernel_rfl) rfl (AMi self) (Dd AV5 ⟨(ASJ self a),trivial⟩)
theorem AF2:BS Tryz.prog 191 (BX 1 4 Ku KL Bm ASL):=by have e:ASL=bD 100:=funext ASK;rw[e];exact yK _
def AQd[Lk]:Env:=Y7.e.ext 191 false true (BX 1 4 Ku KL Bm ASL)
theorem AJ5:BH Tryz.prog AQd:=Env.CB Y7.h AF2 ((by simp)) (fun _=>CR rfl rfl)
def ARL:=Chn.g ⟨AQd,AJ5⟩ ⟨118,0,1,1,0,none,L5,[(.ret,KL)],Bm,[],[]⟩ qa Tryz.func118 AK2
def ALp:=Chn.g ARL ⟨51,0,0,1,0,none,QM,[(.ret,L5)],A5,[],[]⟩ rising Tryz.func51 iR
def AWX:=Chn.g ALp ⟨8,0,0,2,0,none,ANX,[(.ret,ANW)],Pp,[(12,[[2],[2],[],[2],[2],[],[],[4],[5],[6],[7]]),(7,[[],[],[],[],[],[],[],[23]])],[(0,ASy,ADC)]⟩ make Tryz.func8 ADD
def AWZ:=Chn.g AWX ⟨10,0,0,1,0,none,ANk,[(.ret,L5)],A5,[],[(0,AS9,ADH)]⟩ keys Tryz.func10 keys_eq
def ARq:=Chn.g AWZ ⟨53,0,0,1,0,none,ANk,[(.ret,BP)],A5,[(1,[[0],[0],[0],[],[2],[],[],[],[],[19]])],[]⟩ right Tryz.func53 rF
def nv:=Chn.g ARq ⟨11,0,0,2,0,none,ACK,[(.ret,AWv)],Ea,[],[]⟩ find Tryz.func11 find_eq
theorem APO:Tryz.f62.body.isSome=true:=by kernel_rfl
theorem APN : (Tryz.f62.name == "runtime.NumGoroutine") = false := by kernel_rfl
theorem APM:loops (B5 Tryz.f62)=0:=by kernel_rfl
def YJ[Lk]:Env:=nv.e.ext 62 false false (CE Tryz.prog nv.e {} Tryz.f62)
theorem dt:BH Tryz.prog YJ:=Env.CB nv.h (Bq nv.h Tryz.func62 APO APN APM) (by simp) (by simp)
def YT:=Chn.g ⟨YJ,dt⟩ ⟨130,0,2,2,0,some (1,62),Nq,[(.ret,YS)],A5,[],[(0,Wi,Wh)]⟩ LZ Tryz.func130 MP
def Ya:=Chn.g YT ⟨61,0,2,2,0,some (1,62),Nq,[(.ret,Nt)],A5,[],[(0,Wz,Wy)]⟩ Hz Tryz.func61 MZ
def ZQ:=Chn.g Ya ⟨60,0,2,2,8,none,AUH,[(.ret,Nt)],A5,[],[]⟩ ADh Tryz.func60 uc
theorem AJY:Tryz.f59.body.isSome=true:=by kernel_rfl
theorem AJX : (Tryz.f59.name == "runtime.NumGoroutine") = false := by kernel_rfl
theorem AJW:loops (B5 Tryz.f59)=0:=by kernel_rfl
def VI[Lk]:Env:=ZQ.e.ext 59 false false (CE Tryz.prog ZQ.e { fp:=fun n=>match n with|3=>[[14],[14],[],[14],[],[1000005,3,27],[40],[],[],[],[],[51],[]]|_=>[] } Tryz.f59)
theorem Yl:BH Tryz.prog VI:=Env.CB ZQ.h (Bq ZQ.h Tryz.func59 AJY AJX AJW) (by simp) (by simp)
def AXB:=Chn.g ⟨VI,Yl⟩ ⟨15,0,0,2,0,none,AXA,[(.ret,AW9)],Pp,[],[]⟩ drop Tryz.func15 drop_eq
def AEI:=Chn.g AXB ⟨9,0,0,2,0,none,uT,[(.ret,BP)],A5,[],[(0,wO,QK)]⟩ SK Tryz.func9 Zh
def ALY:=Chn.g AEI ⟨18,0,0,2,0,none,ALX,[(.ret,BP)],A5,[(6,[[0],[0],[],[],[],[2],[2]])],[(0,AFO,AFN)]⟩ lh Tryz.func18 iK
def xd:=Chn.g ALY ⟨64,0,0,1,0,none,QM,[(.ret,L5)],A5,[(9,[[],[],[],[0],[3,0],[],[],[],[],[],[5,6],[],[],[0],[9,0]]),(8,[[],[],[0],[],[],[],[],[0],[0]]),(6,[[],[],[0],[],[],[],[],[0],[0]])],[(0,rD,ADH),(1,rC,q8)]⟩ Ss Tryz.func64 XT
def ANY:=Chn.g xd ⟨17,0,0,2,0,none,ANX,[(.ret,ANW)],Pp,[(14,[[4],[4],[],[4],[4],[],[],[],[2],[2],[6],[7],[8],[9]]),(7,[[],[],[],[],[],[],[],[15]])],[(0,AHT,ADC),(1,AHS,AHR)]⟩ mo Tryz.func17 jD
def AHV:=Chn.g ANY ⟨4,0,0,1,0,none,Jh,[(.ret,BP)],A5,[(8,[[2],[2],[],[],[],[2],[2],[12],[12],[],[2],[2],[12],[12]]),(7,[[0],[0],[0],[2],[2],[],[4]])],[(0,zu,RD)]⟩ TB Tryz.func4 Rg
def ZF:=Chn.g AHV ⟨16,0,0,1,0,none,AA0,[(.ret,APR)],BV,[],[]⟩ ADJ Tryz.func16 tc
theorem ARZ:Tryz.f185.body.isSome=true:=by kernel_rfl
theorem ARY : (Tryz.f185.name == "runtime.NumGoroutine") = false := by kernel_rfl
theorem ARX:loops (B5 Tryz.f185)=0:=by kernel_rfl
set_option maxHeartbeats 8000000
attribute [local irreducible] A3 A7 Bi CT C' C2 A2 Bp Cl imax idx Ci ilt ile ieq seq? quo? rem? shl? shr? fits B4 IntKind.wrap A8 BC LV Rd Bb NY A_ many Gx
abbrev Aeo:Loc×Con:=(.tmp 0,.dat (.int .u32))
abbrev P6:Row:=⟨220,0,0,1,0,none,[Aeo],[(.ret,[AA])],[.one],[],[]⟩
def AYM[Lk]:=fun v=>Lk.f (BZ _ _ v (P6.self Tryz.prog (P6.ev ZF.e) Tryz.f220))
def AD5[Lk]:Env:=P6.Cf ZF.e AYM
theorem ABt:BH Tryz.prog AD5:=Row.BM P6 ZF.h Tryz.func220 (d:=P6.self Tryz.prog (P6.ev ZF.e) Tryz.f220) (fun _=>(A0 _).trans (BE ..)) (by kernel_rfl) fun _=>rfl
end
end Go.Pev
end
section
namespace Go.Pev
noncomputable section
abbrev AHv:A1:=[AM,Ad,Acf]
def AHu[Lk]:Us->Option (Us⊕Uc⊕(Unit)⊕Unit):=fun(b,c,a,_)=>
 match(ilt a (A3 b))with
 |true=>match idx b a with|none=>none|some d=>match idx c a with|none=>none|some e=>match(!(ieq d e))with
  |true=>some (.inr (.inl (false,())))
  |false=>some (.inl (b,c,(w64 (a+1)),()))
 |false=>some (.inr (.inr (.inl ())))
def tj[Lk]:V2->Option (Uc):=fun(a,b,_)=>
 match(!(ieq (A3 a) (A3 b)))with
 |true=>some (false,())
 |false=>match A_ AHu many (a,b,0,())with|none=>none|some r=>match r with
 |.inl (c,_)=>some (c,())
 |.inr r=>match r with
 |.inl _=>some (true,())
 |.inr _=>none
def Ov[Lk]:=lkk tj
theorem AHw v:Ov v=tj v:=A0 _
open Go.Proofs
def TQ:=Chn.g ⟨AD5,ABt⟩ ⟨43,0,0,2,0,none,kK,[(.ret,BP)],A5,[],[(0,AHv,QK)]⟩ Ov Tryz.func43 AHw
set_option maxHeartbeats 8000000
attribute [local irreducible] A3 A7 Bi CT C' C2 A2 Bp Cl imax idx Ci ilt ile ieq seq? quo? rem? shl? shr? fits B4 IntKind.wrap A8 BC LV Rd Bb NY A_ many Gx
abbrev Mh:Row:=⟨148,0,0,2,0,none,[(.tmp 0,.dat (.slice (.int .u32))),AD],[(.ret,[Aeo])],[.one],[],[]⟩
def AXH[Lk]:=fun v=>Lk.f (BZ _ _ v (Mh.self Tryz.prog (Mh.ev TQ.e) Tryz.f148))
def VH[Lk]:Env:=Mh.Cf TQ.e AXH
theorem wD:BH Tryz.prog VH:=Row.BM Mh TQ.h Tryz.func148 (d:=Mh.self Tryz.prog (Mh.ev TQ.e) Tryz.f148) (fun _=>(A0 _).trans (BE ..)) (by kernel_rfl) fun _=>rfl
abbrev VS:Row:=⟨200,0,0,1,0,none,[Aeo],[(.ret,[AA])],[.one],[],[]⟩
def AYh[Lk]:=fun v=>Lk.f (BZ _ _ v (VS.self Tryz.prog (VS.ev VH) Tryz.f200))
def pM[Lk]:Env:=VS.Cf VH AYh
theorem AJ3:BH Tryz.prog pM:=Row.BM VS wD Tryz.func200 (d:=VS.self Tryz.prog (VS.ev VH) Tryz.f200) (fun _=>(A0 _).trans (BE ..)) (by kernel_rfl) fun _=>rfl
abbrev Jw:Row:=⟨147,0,0,1,0,none,[Aeo],[(.ret,[AA])],[.one],[],[]⟩
def AUc[Lk]:=fun v=>Lk.f (BZ _ _ v (Jw.self Tryz.prog (Jw.ev pM) Tryz.f147))
def Qf[Lk]:Env:=Jw.Cf pM AUc
theorem pg:BH Tryz.prog Qf:=Row.BM Jw AJ3 Tryz.func147 (d:=Jw.self Tryz.prog (Jw.ev pM) Tryz.f147) (fun _=>(A0 _).trans (BE ..)) (by kernel_rfl) fun _=>rfl
abbrev Ln:Row:=⟨145,0,0,1,0,none,[AA],[(.ret,[AB])],[.one],[],[]⟩
def AVV[Lk]:=fun v=>Lk.f (BZ _ _ v (Ln.self Tryz.prog (Ln.ev Qf) Tryz.f145))
def de[Lk]:Env:=Ln.Cf Qf AVV
theorem YG:BH Tryz.prog de:=Row.BM Ln pg Tryz.func145 (d:=Ln.self Tryz.prog (Ln.ev Qf) Tryz.f145) (fun _=>(A0 _).trans (BE ..)) (by kernel_rfl) fun _=>rfl
def H8[Lk]:Env:=de.ext 144 false false (CE Tryz.prog de {} Tryz.f144)
theorem XB:BH Tryz.prog H8:=Env.CB YG (Bq YG Tryz.func144 wa wZ wY) (by simp) (by simp)
abbrev Aep:Loc×Con:=(.tmp 1,.clo 144 [])
abbrev Ef:Row:=⟨149,0,0,2,0,some (1,144),[AeN,Aep],[(.ret,[AA])],[.one],[],[(0,[AeN,Aep,AO,AN],[(.ret,[AP]),(.exit 0,[])])]⟩
def tr[Lk]:=fun v=>Lk.f (BZ _ _ v (Ef.self Tryz.prog (Ef.ev H8) Tryz.f149))
def H_[Lk]:Env:=Ef.Cf H8 tr
theorem XF:BH Tryz.prog H_:=Row.BM Ef XB Tryz.func149 (d:=Ef.self Tryz.prog (Ef.ev H8) Tryz.f149) (fun _=>(A0 _).trans (BE ..)) (by kernel_rfl) fun _=>rfl
abbrev Aeq:Loc×Con:=(.tmp 1,.dat (.slice (.int .u32)))
abbrev Aer:Loc×Con:=(.tmp 5,.own 3 (.int .i64))
abbrev GB:Row:=⟨73,0,0,2,0,none,[AeN,Aeq],[(.ret,[AeJ])],[.one],[],[(0,[Aeq,Aer,(.tmp 8,.dat (.slice (.int .i64))),Aa,AX],[(.exit 0,[Aer])])]⟩
def gh[Lk]:=fun v=>Lk.f (BZ _ _ v (GB.self Tryz.prog (GB.ev H_) Tryz.f73))
def PY[Lk]:Env:=GB.Cf H_ gh
theorem PX:BH Tryz.prog PY:=Row.BM GB XF Tryz.func73 (d:=GB.self Tryz.prog (GB.ev H_) Tryz.f73) (fun _=>(A0 _).trans (BE ..)) (by kernel_rfl) fun _=>rfl
def Qd[Lk]:Env:=PY.ext 142 false false (CE Tryz.prog PY {} Tryz.f142)
theorem pd:BH Tryz.prog Qd:=Env.CB PX (Bq PX Tryz.func142 AW3 AW2 AW1) (by simp) (by simp)
abbrev Aes:Loc×Con:=(.tmp 1,.clo 142 [])
abbrev D_:Row:=⟨149,0,0,2,0,some (1,142),[AeN,Aes],[(.ret,[AA])],[.one],[],[(0,[AeN,Aes,AO,AN],[(.ret,[AP]),(.exit 0,[])])]⟩
def nP[Lk]:=fun v=>Lk.f (BZ _ _ v (D_.self Tryz.prog (D_.ev Qd) Tryz.f149))
def G8[Lk]:Env:=D_.Cf Qd nP
theorem U_:BH Tryz.prog G8:=Row.BM D_ pd Tryz.func149 (d:=D_.self Tryz.prog (D_.ev Qd) Tryz.f149) (fun _=>(A0 _).trans (BE ..)) (by kernel_rfl) fun _=>rfl
abbrev Aet:Loc×Con:=(.tmp 1,.dat (.slice (.prod (.int .i64) (.prod (.int .i64) (.prod (.int .i64) (.prod .bool .unit))))))
abbrev Aeu:Loc×Con:=(.tmp 0,.dat (.slice (.prod (.int .i64) (.prod (.int .i64) (.prod (.int .i64) (.prod .bool .unit))))))
abbrev MW:Row:=⟨111,0,0,2,0,none,[Aeu,Aet],[(.ret,[AB])],[.one],[],[(0,[Aeu,Aet,AK,AL],[(.ret,[Ae]),(.exit 0,[])])]⟩
def AO2[Lk]:=fun v=>Lk.f (BZ _ _ v (MW.self Tryz.prog (MW.ev G8) Tryz.f111))
def v8[Lk]:Env:=MW.Cf G8 AO2
theorem v7:BH Tryz.prog v8:=Row.BM MW U_ Tryz.func111 (d:=MW.self Tryz.prog (MW.ev G8) Tryz.f111) (fun _=>(A0 _).trans (BE ..)) (by kernel_rfl) fun _=>rfl
end
end Go.Pev
end
section
namespace Go.Pev
noncomputable section
abbrev AS0:A1:=[Ay,(.tmp 1,.dat Uo)]
def ADE[Lk]:(Ue×Ue×Unit)->Option (Uc):=fun(a,b,_)=>
 match(ieq a.1 b.1)with
 |true=>match AO2 (a.2.1,b.2.1,())with|none=>none|some (c,_)=>some (c,())
 |false=>some (false,())
def tQ[Lk]:=lkk ADE
theorem ANd v:tQ v=ADE v:=A0 _
open Go.Proofs
def ZE:=Chn.g ⟨v8,v7⟩ ⟨46,0,0,2,0,none,AS0,[(.ret,BP)],A5,[],[]⟩ tQ Tryz.func46 ANd
set_option maxHeartbeats 8000000
attribute [local irreducible] A3 A7 Bi CT C' C2 A2 Bp Cl imax idx Ci ilt ile ieq seq? quo? rem? shl? shr? fits B4 IntKind.wrap A8 BC LV Rd Bb NY A_ many Gx
abbrev MX:Row:=⟨151,0,0,2,0,none,[AeN,AeR],[(.ret,[AB])],[.one],[],[(0,[AeN,AeR,AK,AL],[(.ret,[Ae]),(.exit 0,[])])]⟩
def AWx[Lk]:=fun v=>Lk.f (BZ _ _ v (MX.self Tryz.prog (MX.ev ZE.e) Tryz.f151))
def VA[Lk]:Env:=MX.Cf ZE.e AWx
theorem v9:BH Tryz.prog VA:=Row.BM MX ZE.h Tryz.func151 (d:=MX.self Tryz.prog (MX.ev ZE.e) Tryz.f151) (fun _=>(A0 _).trans (BE ..)) (by kernel_rfl) fun _=>rfl
abbrev Aev:Loc×Con:=(.tmp 0,.dat (.slice (.slice (.int .i64))))
abbrev Aew:Loc×Con:=(.tmp 1,.dat (.slice (.slice (.int .i64))))
abbrev Jt:Row:=⟨150,0,0,3,0,some (2,151),[Aev,Aew,(.tmp 2,.clo 151 [])],[(.ret,[AB])],[.one],[],[(0,[Aew,(.tmp 2,.clo 151 []),(.tmp 15,.dat (.slice (.slice (.int .i64)))),(.tmp 16,.di),Adv],[(.ret,[AdZ]),(.exit 0,[])])]⟩
def AT9[Lk]:=fun v=>Lk.f (BZ _ _ v (Jt.self Tryz.prog (Jt.ev VA) Tryz.f150))
def Qc[Lk]:Env:=Jt.Cf VA AT9
theorem pc:BH Tryz.prog Qc:=Row.BM Jt v9 Tryz.func150 (d:=Jt.self Tryz.prog (Jt.ev VA) Tryz.f150) (fun _=>(A0 _).trans (BE ..)) (by kernel_rfl) fun _=>rfl
abbrev Aex:Loc×Con:=(.tmp 0,.dat (.prod (.slice (.int .i64)) (.prod (.slice (.int .i64)) (.prod (.slice (.slice (.int .i64))) .unit))))
abbrev Lm:Row:=⟨116,0,0,2,0,none,[Aex,(.tmp 1,.dat (.prod (.slice (.int .i64)) (.prod (.slice (.int .i64)) (.prod (.slice (.slice (.int .i64))) .unit))))],[(.ret,[AB])],[.one],[],[]⟩
def AKI[Lk]:=fun v=>Lk.f (BZ _ _ v (Lm.self Tryz.prog (Lm.ev Qc) Tryz.f116))
def dc[Lk]:Env:=Lm.Cf Qc AKI
theorem YF:BH Tryz.prog dc:=Row.BM Lm pc Tryz.func116 (d:=Lm.self Tryz.prog (Lm.ev Qc) Tryz.f116) (fun _=>(A0 _).trans (BE ..)) (by kernel_rfl) fun _=>rfl
def QW[Lk]:Env:=dc.ext 75 false false (CE Tryz.prog dc {} Tryz.f75)
theorem pP:BH Tryz.prog QW:=Env.CB YF (Bq YF Tryz.func75 AVh AVg AVf) (by simp) (by simp)
abbrev Aey:Loc×Con:=(.tmp 1,.clo 75 [])
abbrev Eg:Row:=⟨149,0,0,2,0,some (1,75),[AeN,Aey],[(.ret,[AA])],[.one],[],[(0,[AeN,Aey,AO,AN],[(.ret,[AP]),(.exit 0,[])])]⟩
def tt[Lk]:=fun v=>Lk.f (BZ _ _ v (Eg.self Tryz.prog (Eg.ev QW) Tryz.f149))
def IA[Lk]:Env:=Eg.Cf QW tt
theorem XG:BH Tryz.prog IA:=Row.BM Eg pP Tryz.func149 (d:=Eg.self Tryz.prog (Eg.ev QW) Tryz.f149) (fun _=>(A0 _).trans (BE ..)) (by kernel_rfl) fun _=>rfl
abbrev ED:Row:=⟨74,0,0,2,0,some (1,75),[AeN,Aey],[(.ret,[AB])],[.one],[],[]⟩
def T8[Lk]:=fun v=>Lk.f (BZ _ _ v (ED.self Tryz.prog (ED.ev IA) Tryz.f74))
def HA[Lk]:Env:=ED.Cf IA T8
theorem VG:BH Tryz.prog HA:=Row.BM ED XG Tryz.func74 (d:=ED.self Tryz.prog (ED.ev IA) Tryz.f74) (fun _=>(A0 _).trans (BE ..)) (by kernel_rfl) fun _=>rfl
abbrev Dj:Row:=⟨74,0,0,2,0,some (1,142),[AeN,Aes],[(.ret,[AB])],[.one],[],[]⟩
def ew[Lk]:=fun v=>Lk.f (BZ _ _ v (Dj.self Tryz.prog (Dj.ev HA) Tryz.f74))
def Ft[Lk]:Env:=Dj.Cf HA ew
theorem SF:BH Tryz.prog Ft:=Row.BM Dj VG Tryz.func74 (d:=Dj.self Tryz.prog (Dj.ev HA) Tryz.f74) (fun _=>(A0 _).trans (BE ..)) (by kernel_rfl) fun _=>rfl
abbrev EC:Row:=⟨74,0,0,2,0,some (1,144),[AeN,Aep],[(.ret,[AB])],[.one],[],[]⟩
def oP[Lk]:=fun v=>Lk.f (BZ _ _ v (EC.self Tryz.prog (EC.ev Ft) Tryz.f74))
def G'[Lk]:Env:=EC.Cf Ft oP
theorem VF:BH Tryz.prog G':=Row.BM EC SF Tryz.func74 (d:=EC.self Tryz.prog (EC.ev Ft) Tryz.f74) (fun _=>(A0 _).trans (BE ..)) (by kernel_rfl) fun _=>rfl
abbrev Aez:Loc×Con:=(.tmp 0,.own 5 (.int .u8))
abbrev Jb:Row:=⟨70,0,0,1,0,none,[(.tmp 0,.dat (.prod (.int .i64) (.prod (.int .i64) (.prod (.slice (.int .i64)) .unit))))],[(.ret,[Aez,AD])],[.one,.one],[],[(0,[(.tmp 5,.own 5 (.int .u8)),(.tmp 33,.own 3 (.int .i64)),(.tmp 34,.di),(.tmp 35,.di)],[(.exit 0,[(.tmp 5,.own 5 (.int .u8))])])]⟩
def ACF[Lk]:=fun v=>Lk.f (BZ _ _ v (Jb.self Tryz.prog (Jb.ev G') Tryz.f70))
def QY[Lk]:Env:=Jb.Cf G' ACF
theorem pS:BH Tryz.prog QY:=Row.BM Jb VF Tryz.func70 (d:=Jb.self Tryz.prog (Jb.ev G') Tryz.f70) (fun _=>(A0 _).trans (BE ..)) (by kernel_rfl) fun _=>rfl
abbrev Ae0:Loc×Con:=(.cell 1 2,.own 51 (.slice (.int .i64)))
abbrev Ae1:Loc×Con:=(.cell 0 2,.nil (.slice (.int .i64)))
abbrev Ae2:Loc×Con:=(.tmp 9,.aptr 236 (.int .i64) 8)
abbrev Ae3:Loc×Con:=(.cell 1 1,.own 3 (.int .i64))
abbrev Ae4:Loc×Con:=(.cell 1 0,.own 3 (.int .i64))
abbrev Ae5:Loc×Con:=(.cell 0 0,.nil (.int .i64))
abbrev Ae6:Loc×Con:=(.cell 0 1,.nil (.int .i64))
abbrev Ae7:Loc×Con:=(.tmp 43,.di)
abbrev JT:Row:=⟨72,0,0,2,4,none,[AeN,AeR],[(.ret,[AeJ,(.tmp 1,.own 3 (.int .i64)),(.tmp 2,.own 51 (.slice (.int .i64))),AQ])],[.agg 3,.one],[(12,[[2],[2],[],[],[],[],[],[10],[10],[8],[9,12]]),(5,[[],[],[],[],[],[],[],[],[37]])],[(0,[AeR,Acj,Ae5,Ae6,Ae1,AcC,Aeh,Ae4,Ae3,Ae0,Ae2,Ady,Ae7],[(.exit 0,[Acj,Ae5,Ae6,Ae1,Aeh,Ae4,Ae3,Ae0])]),(1,[AeR,Acj,Ae5,Ae6,Ae1,AcC,Aeh,Ae4,Ae3,Ae0,Ae2,AY,Ady,Ae7,(.tmp 68,.di),(.tmp 69,.di)],[(.exit 2,[AeR,Acj,Ae5,Ae6,Ae1,AcC,Aeh,Ae4,Ae3,Ae0,Ae2,Ady,Ae7])])]⟩
def lG[Lk]:=fun v=>Lk.f (BZ _ _ v (JT.self Tryz.prog (JT.ev QY) Tryz.f72))
def j6[Lk]:Env:=JT.Cf QY lG
theorem pN:BH Tryz.prog j6:=Row.BM JT pS Tryz.func72 (d:=JT.self Tryz.prog (JT.ev QY) Tryz.f72) (fun _=>(A0 _).trans (BE ..)) (by kernel_rfl) fun _=>rfl
end
end Go.Pev
end
section
namespace Go.Pev
noncomputable section
abbrev ANu:A1:=[(.tmp 0,.dat (.slice Vn))]
abbrev ANt:A1:=[Aez,AD]
abbrev Ae8:Loc×Con:=(.tmp 4,.own 5 (.int .u8))
abbrev AHs:A1:=[Ae8,(.tmp 9,.dat (.slice Vn)),AX,AY]
abbrev AHr:BF:=[(.ret,[(.tmp 2,.nil (.int .u8)),AQ]),(.exit 0,[Ae8])]
def AHq[Lk]:(List Int×List V0×Int×Int×Unit)->Option ((List Int×List V0×Int×Int×Unit)⊕Ub⊕Uf⊕Unit):=fun(a,d,e,b,_)=>
 match(ilt b e)with
 |true=>match idx d b with|none=>none|some c=>match ACF ((c.1,(c.2.1,(c.2.2.1,()))),())with|none=>none|some (f,g,_)=>match(!(ieq g 0))with
  |true=>some (.inr (.inl (g,())))
  |false=>match(fits ((A3 a)+(A3 f)))with
  |true=>some (.inl ((Bi a f),d,e,(w64 (b+1)),()))
  |false=>none
 |false=>some (.inr (.inr (.inl (a,()))))
def tg[Lk]:(List V0×Unit)->Option (Ul):=fun(a,_)=>
 match A_ AHq many (([]:List (Int)),a,(A3 a),0,())with|none=>none|some r=>match r with
 |.inl (b,_)=>some (([]:List (Int)),b,())
 |.inr r=>match r with
 |.inl (c,_)=>some (c,0,())
 |.inr _=>none
def cE[Lk]:=lkk tg
theorem AHt v:cE v=tg v:=A0 _
abbrev AHn:A1:=[Adu,Aed]
abbrev AHm:A1:=[(.tmp 0,.own 89 (.prod U7 (.prod U7 Vg))),AD]
abbrev Ae9:Loc×Con:=(.tmp 8,.own 89 (.prod U7 (.prod U7 Vg)))
abbrev AAC:A1:=[Aed,Ae9,(.tmp 23,.dat Ud),AcW,AcM]
abbrev AAB:BF:=[(.exit 0,[Ae9])]
def AAA[Lk]:(List Int×List Uz×List U5×Int×Int×Unit)->Option ((List Int×List Uz×List U5×Int×Int×Unit)⊕(List Uz×Unit)⊕Unit):=fun(c,a,d,e,b,_)=>
 match(ilt b e)with
 |true=>match idx d b with|none=>none|some f=>match gh (f,c,())with|none=>none|some (j,_)=>match lG (f,j,())with|none=>none|some (g,h,i,k,_)=>match(fits ((A3 a)+(A3 ([(g,(h,(i,())))]:List Uz))))with
  |true=>some (.inl (c,(Bi a ([(g,(h,(i,())))]:List Uz)),d,e,(w64 (b+1)),()))
  |false=>none
 |false=>some (.inr (.inl (a,())))
def jL[Lk]:(V5×List Int×Unit)->Option ((List Uz×Int×Unit)):=fun(a,c,_)=>
 match HY (((a.1.1,(a.1.2.1,())),(a.2.1,(a.2.2.1,()))),())with|none=>none|some (d,_)=>match(!d)with
 |true=>some (([]:List Uz),1,())
 |false=>match JE ((a.1.1,(a.1.2.1,())),0,())with|none=>none|some (b,f,_)=>match A_ AAA many (c,([]:List Uz),b.2.1,(A3 b.2.1),0,())with|none=>none|some r=>match r with
 |.inl (e,_)=>some (e,0,())
 |.inr _=>none
def TN[Lk]:=lkk jL
theorem AAD v:TN v=jL v:=A0 _
abbrev AfA:Loc×Con:=(.tmp 0,.dat (.prod U7 (.prod U7 Vg)))
abbrev AEU:A1:=[AfA]
def gg[Lk]:(Uz×Unit)->Option (Uc):=fun(a,_)=>
 match lG (a.1,a.2.1,())with|none=>none|some (b,c,d,e,_)=>match(ieq e 0)with
 |true=>match AKI ((b,(c,(d,()))),(a.1,(a.2.1,(a.2.2.1,()))),())with|none=>none|some (f,_)=>some (f,())
 |false=>some (false,())
def Pm[Lk]:=lkk gg
theorem wX v:Pm v=gg v:=A0 _
abbrev ALU:A1:=[AfA,Ad]
abbrev ALT:A1:=[AS,AD]
abbrev AfB:Loc×Con:=(.tmp 10,.rows 51 3 U0)
abbrev AFH:A1:=[AcC,AeL,AfB,AY,(.tmp 56,.dat Ud),AdT,(.tmp 58,.di),(.tmp 63,.dat U7),(.tmp 64,.di),(.tmp 65,.di)]
abbrev AFE:BF:=[(.exit 4,[AcC,AeL,AfB,(.tmp 56,.dat Ud),AdT,(.tmp 58,.di)])]
def AFB[Lk]:(Int×List Int×List U5×Int×List U5×Int×Int×List Int×Int×Int×Unit)->Option ((Int×List Int×List U5×Int×List U5×Int×Int×List Int×Int×Int×Unit)⊕(Int×List Int×List U5×List U5×Int×Int×Unit)⊕Unit):=fun(e,b,c,a,g,h,i,j,k,f,_)=>
 match(ilt f k)with
 |true=>match idx j f with|none=>none|some d=>match idx b d with|none=>none|some l=>match idx b a with|none=>none|some m=>match(ile d a)with
  |true=>match idx b e with|none=>none|some n=>match idx c a with|none=>none|some o=>match(fits ((A3 (A7 c (A2 a) ([]:List (Int))))+(A3 ([(w64 ((w64 ((A7 b (A2 d) 0)-(A7 b (A2 a) 0)))+(A7 b (A2 e) 0)))]:List (Int)))))with
   |true=>match idx (Bb c (A2 a) (Bi (A7 c (A2 a) ([]:List (Int))) ([(w64 ((w64 ((A7 b (A2 d) 0)-(A7 b (A2 a) 0)))+(A7 b (A2 e) 0)))]:List (Int)))) a with|none=>none|some p=>match(ieq (((A2 a):Nat):Int) (((A2 a):Nat):Int)&&ieq (((A2 a):Nat):Int) (((A2 a):Nat):Int))with
    |true=>some (.inl (e,b,(Bb c (A2 a) (Bi (A7 c (A2 a) ([]:List (Int))) ([(w64 ((w64 ((A7 b (A2 d) 0)-(A7 b (A2 a) 0)))+(A7 b (A2 e) 0)))]:List (Int)))),a,g,h,i,j,k,(w64 (f+1)),()))
    |false=>none
   |false=>none
  |false=>match idx c a with|none=>none|some q=>match(fits ((A3 (A7 c (A2 a) ([]:List (Int))))+(A3 ([(w64 ((A7 b (A2 d) 0)-(A7 b (A2 a) 0)))]:List (Int)))))with
  |true=>match idx (Bb c (A2 a) (Bi (A7 c (A2 a) ([]:List (Int))) ([(w64 ((A7 b (A2 d) 0)-(A7 b (A2 a) 0)))]:List (Int)))) a with|none=>none|some r=>match(ieq (((A2 a):Nat):Int) (((A2 a):Nat):Int)&&ieq (((A2 a):Nat):Int) (((A2 a):Nat):Int))with
   |true=>some (.inl (e,b,(Bb c (A2 a) (Bi (A7 c (A2 a) ([]:List (Int))) ([(w64 ((A7 b (A2 d) 0)-(A7 b (A2 a) 0)))]:List (Int)))),a,g,h,i,j,k,(w64 (f+1)),()))
   |false=>none
  |false=>none
 |false=>some (.inr (.inl (e,b,c,g,h,i,())))
abbrev AFI:A1:=[AcC,AeL,AfB,(.tmp 56,.dat Ud),AdT,(.tmp 58,.di)]
abbrev AFF:BF:=[(.exit 2,[AfB])]
def AFC[Lk]:(Int×List Int×List U5×List U5×Int×Int×Unit)->Option ((Int×List Int×List U5×List U5×Int×Int×Unit)⊕(List U5×Unit)⊕Unit):=fun(f,g,b,c,d,a,_)=>
 match(ilt a d)with
 |true=>match idx c a with|none=>none|some e=>match A_ AFB many (f,g,b,a,c,d,a,e,(A3 e),0,())with|none=>none|some r=>match r with
  |.inl (h,i,j,k,l,m,_)=>some (.inl (h,i,j,k,l,(w64 (m+1)),()))
  |.inr _=>none
 |false=>some (.inr (.inl (b,())))
abbrev AfC:Loc×Con:=(.cell 0 1,.dat U7)
abbrev AfD:Loc×Con:=(.cell 0 2,.dat Ud)
abbrev AfE:Loc×Con:=(.cell 0 0,.dat U7)
abbrev AFJ:A1:=[Aci,AfE,AfC,AfD,AcC,AeL,(.tmp 35,.dat U7),(.tmp 36,.di),(.tmp 37,.di)]
abbrev AFG:BF:=[(.exit 0,[Aci,AfE,AfC,AfD,AcC,AeL])]
def AFD[Lk]:(List Int×List Int×List U5×Int×List Int×List Int×Int×Int×Unit)->Option ((List Int×List Int×List U5×Int×List Int×List Int×Int×Int×Unit)⊕(List Int×List Int×List U5×Int×List Int×Unit)⊕Unit):=fun(c,d,e,f,b,g,h,a,_)=>
 match(ilt a h)with
 |true=>match idx g a with|none=>none|some i=>match idx b a with|none=>none|some j=>match idx b (w64 (a+1))with|none=>none|some k=>some (.inl (c,d,e,f,(Bb b (A2 (w64 (a+1))) (w64 ((A7 b (A2 a) 0)+i))),g,h,(w64 (a+1)),()))
 |false=>some (.inr (.inl (c,d,e,f,b,())))
def ql[Lk]:(Uz×List Int×Unit)->Option ((List U5×Int×Unit)):=fun(a,c,_)=>
 match(!(ieq (A3 c) (A3 a.1)))with
 |true=>some (([]:List U5),1,())
 |false=>match Pm ((a.1,(a.2.1,(a.2.2.1,()))),())with|none=>none|some (e,_)=>match(!e)with
 |true=>some (([]:List U5),1,())
 |false=>match T8 (c,())with|none=>none|some (f,_)=>match f with
 |true=>some (([]:List U5),1,())
 |false=>match(B4 (w64 ((A3 a.1)+1))&&B4 (w64 ((A3 a.1)+1))&&ile (w64 ((A3 a.1)+1)) (w64 ((A3 a.1)+1))&&true)with
 |true=>match A_ AFD many (a.1,a.2.1,a.2.2.1,(A3 a.1),(C2 (A2 (w64 ((A3 a.1)+(1:Int)))) (0:Int)),c,(A3 c),(0:Int),())with|none=>none|some r=>match r with
  |.inl (i,j,d,b,g,_)=>match(B4 b&&B4 b&&ile b b&&true)with
   |true=>match A_ AFC many (b,g,(C2 (A2 b) ([]:List Int)),d,(A3 d),(0:Int),())with|none=>none|some r=>match r with
    |.inl (h,_)=>some (h,0,())
    |.inr _=>none
   |false=>none
  |.inr _=>none
 |false=>none
def aL[Lk]:=lkk ql
theorem AFK v:aL v=ql v:=A0 _
open Go.Proofs
def ANv:=Chn.g ⟨j6,pN⟩ ⟨25,0,0,1,0,none,ANu,[(.ret,ANt)],BV,[],[(0,AHs,AHr)]⟩ cE Tryz.func25 AHt
def AHo:=Chn.g ANv ⟨27,0,0,2,0,none,AHn,[(.ret,AHm)],BV,[],[(0,AAC,AAB)]⟩ TN Tryz.func27 AAD
def AEV:=Chn.g AHo ⟨48,0,0,1,0,none,AEU,[(.ret,BP)],A5,[],[]⟩ Pm Tryz.func48 wX
def So:=Chn.g AEV ⟨28,0,0,2,2,none,ALU,[(.ret,ALT)],BV,[(17,[[],[],[0],[0],[],[],[0],[0]])],[(0,AFJ,AFG),(1,AFI,AFF),(2,AFH,AFE)]⟩ aL Tryz.func28 AFK
set_option maxHeartbeats 8000000
attribute [local irreducible] A3 A7 Bi CT C' C2 A2 Bp Cl imax idx Ci ilt ile ieq seq? quo? rem? shl? shr? fits B4 IntKind.wrap A8 BC LV Rd Bb NY A_ many Gx
abbrev WQ:Row:=⟨153,0,0,1,0,none,[AeN],[(.ret,[AA])],[.one],[],[(0,[AeN,AQ,AP],[(.exit 0,[AQ])])]⟩
def AYr[Lk]:=fun v=>Lk.f (BZ _ _ v (WQ.self Tryz.prog (WQ.ev So.e) Tryz.f153))
def pY[Lk]:Env:=WQ.Cf So.e AYr
theorem AKA:BH Tryz.prog pY:=Row.BM WQ So.h Tryz.func153 (d:=WQ.self Tryz.prog (WQ.ev So.e) Tryz.f153) (fun _=>(A0 _).trans (BE ..)) (by kernel_rfl) fun _=>rfl
abbrev Lo:Row:=⟨77,0,0,1,0,none,[Aex],[(.ret,[AA])],[.one],[(3,[[0],[0],[0],[0]])],[]⟩
def AKN[Lk]:=fun v=>Lk.f (BZ _ _ v (Lo.self Tryz.prog (Lo.ev pY) Tryz.f77))
def UN[Lk]:Env:=Lo.Cf pY AKN
theorem vh:BH Tryz.prog UN:=Row.BM Lo AKA Tryz.func77 (d:=Lo.self Tryz.prog (Lo.ev pY) Tryz.f77) (fun _=>(A0 _).trans (BE ..)) (by kernel_rfl) fun _=>rfl
abbrev AfF:Loc×Con:=(.cell 0 2,.dat (.slice (.slice (.int .i64))))
abbrev AfG:Loc×Con:=(.cell 0 1,.dat (.slice (.int .i64)))
abbrev HL:Row:=⟨76,0,0,2,0,none,[Aex,Aew],[(.ret,[AeN])],[.one],[],[(0,[Aew,Aci,AeM,AfG,AfF,Aer,(.tmp 10,.dat (.slice (.slice (.int .i64)))),AY,AK],[(.ret,[(.tmp 4,.nil (.int .i64))]),(.exit 0,[Aew,Aci,AeM,AfG,AfF,Aer])])]⟩
def qU[Lk]:=fun v=>Lk.f (BZ _ _ v (HL.self Tryz.prog (HL.ev UN) Tryz.f76))
def dh[Lk]:Env:=HL.Cf UN qU
theorem fL:BH Tryz.prog dh:=Row.BM HL vh Tryz.func76 (d:=HL.self Tryz.prog (HL.ev UN) Tryz.f76) (fun _=>(A0 _).trans (BE ..)) (by kernel_rfl) fun _=>rfl
end
end Go.Pev
end
section
namespace Go.Pev
noncomputable section
abbrev AKv:A1:=[AfA,(.tmp 1,.dat Ud)]
abbrev AEv:A1:=[(.tmp 1,.dat Ud),Aci,AfE,AfC,AfD,AcC,AO,AN,Aa,As]
abbrev AEu:BF:=[(.exit 0,[AN])]
def AEt[Lk]:(List U5×List Int×List Int×List U5×Int×Int×Int×Int×Bool×Unit)->Option ((List U5×List Int×List Int×List U5×Int×Int×Int×Int×Bool×Unit)⊕Ub⊕Unit):=fun(c,g,h,d,e,a,f,b,i,_)=>
 match i with
 |true=>match idx c b with|none=>none|some j=>match idx j a with|none=>none|some k=>match idx d b with|none=>none|some l=>match idx l a with|none=>none|some m=>some (.inl (c,g,h,d,e,a,(w64 (f+k)),m,false,()))
 |false=>match(!(ieq b e))with
 |true=>match idx c b with|none=>none|some n=>match idx n a with|none=>none|some o=>match idx d b with|none=>none|some p=>match idx p a with|none=>none|some q=>some (.inl (c,g,h,d,e,a,(w64 (f+o)),q,false,()))
 |false=>some (.inr (.inl (f,())))
def qV[Lk]:(Uz×List U5×Unit)->Option (U4):=fun(a,c,_)=>
 match qU ((a.1,(a.2.1,(a.2.2.1,()))),c,())with|none=>none|some (d,_)=>match(ieq (A3 d) 0)with
 |true=>some (0,1,())
 |false=>match AKN ((a.1,(a.2.1,(a.2.2.1,()))),())with|none=>none|some (b,_)=>match idx a.2.1 b with|none=>none|some e=>match A_ AEt many (c,a.1,a.2.1,a.2.2.1,b,(w64 (e-1)),0,b,true,())with|none=>none|some r=>match r with
 |.inl (f,_)=>some (f,0,())
 |.inr _=>none
def aA[Lk]:=lkk qV
theorem AEw v:aA v=qV v:=A0 _
open Go.Proofs
def Sg:=Chn.g ⟨dh,fL⟩ ⟨30,0,0,2,0,none,AKv,[(.ret,OE)],BV,[],[(0,AEv,AEu)]⟩ aA Tryz.func30 AEw
set_option maxHeartbeats 8000000
attribute [local irreducible] A3 A7 Bi CT C' C2 A2 Bp Cl imax idx Ci ilt ile ieq seq? quo? rem? shl? shr? fits B4 IntKind.wrap A8 BC LV Rd Bb NY A_ many Gx
abbrev AfH:Loc×Con:=(.cell 0 3,.dat (.slice (.slice (.int .i64))))
abbrev AfI:Loc×Con:=(.obj 0,.box 6)
abbrev L0:Row:=⟨79,0,1,2,0,none,[(.tmp 0,.box 6),AeM,AfG,AfF,AfH,AeA,Acq,AD],[(.ret,[AfI,AeM,AfG,AfF,AfH,AeA,Acq,AA,Ar])],[.one,.one],[(3,[[],[0],[0],[0],[0],[],[0],[0],[0]]),(11,[[],[],[0],[0],[0],[0],[],[0],[0],[0],[],[],[],[],[],[0],[0],[1]]),(7,[[],[0],[0],[0],[],[0],[0],[0]]),(6,[[],[0],[0],[0],[0],[],[0],[0],[0],[],[],[],[],[],[],[0],[0],[0]])],[(0,[AfI,AeM,AfG,AfF,AfH,AeA,Acq,Ac5,AD],[(.ret,[AfI,AeM,AfG,AfF,AfH,AeA,Acq,AP,(.tmp 5,.dat .bool)]),(.exit 0,[AfI,AeM,AfG,AfF,AfH,AeA,Acq,AD])]),(1,[AfI,AeM,AfG,AfF,AfH,AeA,Acq,Ac5,AD,AcC,AO],[(.exit 1,[AfI,AeM,AfG,AfF,AfH,AeA,Acq,Ac5,AD,(.tmp 82,.di),(.tmp 83,.di),(.tmp 84,.dat .bool)]),(.exit 2,[AfI,AeM,AfG,AfF,AfH,AeA,Acq,AD])])]⟩
def AV2[Lk]:=fun v=>Lk.f (BZ _ _ v (L0.self Tryz.prog (L0.ev Sg.e) Tryz.f79))
def UT[Lk]:Env:=L0.Cf Sg.e AV2
theorem vr:BH Tryz.prog UT:=Row.BM L0 Sg.h Tryz.func79 (d:=L0.self Tryz.prog (L0.ev Sg.e) Tryz.f79) (fun _=>(A0 _).trans (BE ..)) (by kernel_rfl) fun _=>rfl
abbrev AfJ:Loc×Con:=(.tmp 5,.dat (.slice (.int .i64)))
abbrev Jk:Row:=⟨154,0,0,2,0,none,[Aex,Aew],[(.ret,[AB])],[.one],[],[(0,[AfJ,(.tmp 11,.dat (.slice (.int .i64))),AK,AL],[(.ret,[Ae]),(.exit 0,[AfJ])])]⟩
def ASD[Lk]:=fun v=>Lk.f (BZ _ _ v (Jk.self Tryz.prog (Jk.ev UT) Tryz.f154))
def Qa[Lk]:Env:=Jk.Cf UT ASD
theorem pV:BH Tryz.prog Qa:=Row.BM Jk vr Tryz.func154 (d:=Jk.self Tryz.prog (Jk.ev UT) Tryz.f154) (fun _=>(A0 _).trans (BE ..)) (by kernel_rfl) fun _=>rfl
abbrev Jm:Row:=⟨78,0,0,3,0,none,[Aex,Aew,AE],[(.ret,[(.tmp 0,.box 6),AeM,AfG,AfF,AfH,AeA,Acq,AD])],[.one,.one],[],[]⟩
def ASE[Lk]:=fun v=>Lk.f (BZ _ _ v (Jm.self Tryz.prog (Jm.ev Qa) Tryz.f78))
def Qb[Lk]:Env:=Jm.Cf Qa ASE
theorem pW:BH Tryz.prog Qb:=Row.BM Jm pV Tryz.func78 (d:=Jm.self Tryz.prog (Jm.ev Qa) Tryz.f78) (fun _=>(A0 _).trans (BE ..)) (by kernel_rfl) fun _=>rfl
abbrev Lw:Row:=⟨182,0,0,2,0,none,[AA,AeI],[(.ret,[AA,AD])],[.one,.one],[],[(0,[AO,AN,(.tmp 17,.own 3 (.int .i64)),Adz,AdP],[(.exit 0,[AO,AN])])]⟩
def AVj[Lk]:=fun v=>Lk.f (BZ _ _ v (Lw.self Tryz.prog (Lw.ev Qb) Tryz.f182))
def UQ[Lk]:Env:=Lw.Cf Qb AVj
theorem vo:BH Tryz.prog UQ:=Row.BM Lw pW Tryz.func182 (d:=Lw.self Tryz.prog (Lw.ev Qb) Tryz.f182) (fun _=>(A0 _).trans (BE ..)) (by kernel_rfl) fun _=>rfl
abbrev QI:Row:=⟨186,0,0,3,0,none,[AeS,AD,AE],[(.ret,[AB,AD])],[.one,.one],[(4,[[0],[],[],[0]])],[]⟩
def AYV[Lk]:=fun v=>Lk.f (BZ _ _ v (QI.self Tryz.prog (QI.ev UQ) Tryz.f186))
def Zd[Lk]:Env:=QI.Cf UQ AYV
theorem ABw:BH Tryz.prog Zd:=Row.BM QI vo Tryz.func186 (d:=QI.self Tryz.prog (QI.ev UQ) Tryz.f186) (fun _=>(A0 _).trans (BE ..)) (by kernel_rfl) fun _=>rfl
abbrev QH:Row:=⟨33,0,0,2,0,none,[AeS,AD],[(.ret,[AA,AD])],[.one,.one],[(4,[[0],[0],[0]])],[]⟩
def ADV[Lk]:=fun v=>Lk.f (BZ _ _ v (QH.self Tryz.prog (QH.ev Zd) Tryz.f33))
def Zc[Lk]:Env:=QH.Cf Zd ADV
theorem ABv:BH Tryz.prog Zc:=Row.BM QH ABw Tryz.func33 (d:=QH.self Tryz.prog (QH.ev Zd) Tryz.f33) (fun _=>(A0 _).trans (BE ..)) (by kernel_rfl) fun _=>rfl
abbrev AfK:Loc×Con:=(.tmp 3,.own 96 (.prod (.int .i64) (.prod (.slice (.slice (.int .i64))) .unit)))
abbrev GD:Row:=⟨183,0,0,1,0,none,[AeQ],[(.ret,[(.tmp 0,.own 96 (.prod (.int .i64) (.prod (.slice (.slice (.int .i64))) .unit)))])],[.one],[],[(0,[AcF,AG,AeW,AfK,AP],[(.ret,[(.tmp 2,.nil (.prod (.int .i64) (.prod (.slice (.slice (.int .i64))) .unit)))]),(.exit 0,[AfK])])]⟩
def AE6[Lk]:=fun v=>Lk.f (BZ _ _ v (GD.self Tryz.prog (GD.ev Zc) Tryz.f183))
def LP[Lk]:Env:=GD.Cf Zc AE6
theorem dm:BH Tryz.prog LP:=Row.BM GD ABv Tryz.func183 (d:=GD.self Tryz.prog (GD.ev Zc) Tryz.f183) (fun _=>(A0 _).trans (BE ..)) (by kernel_rfl) fun _=>rfl
abbrev Lt:Row:=⟨108,0,0,1,0,none,[AeQ],[(.ret,[AB])],[.one],[(4,[[0],[0],[0],[],[12]])],[]⟩
def AVi[Lk]:=fun v=>Lk.f (BZ _ _ v (Lt.self Tryz.prog (Lt.ev LP) Tryz.f108))
def UO[Lk]:Env:=Lt.Cf LP AVi
theorem vk:BH Tryz.prog UO:=Row.BM Lt dm Tryz.func108 (d:=Lt.self Tryz.prog (Lt.ev LP) Tryz.f108) (fun _=>(A0 _).trans (BE ..)) (by kernel_rfl) fun _=>rfl
abbrev GC:Row:=⟨110,0,0,1,0,none,[AeQ],[(.ret,[AB])],[.one],[],[(0,[AcF,AG,AeW,AfK,(.tmp 11,.own' 1),AK,AL],[(.ret,[AF]),(.exit 0,[AfK])]),(1,[AcF,AG,AeW,AfK,AP,(.tmp 5,.box 2),AdE,(.cell 2 1,.dat (.slice (.slice (.int .i64)))),(.tmp 11,.own' 1),AK,AL,AdP,(.tmp 20,.di)],[(.ret,[AF]),(.exit 2,[AcF,AG,AeW,AfK,(.tmp 11,.own' 1),AK,AL])])]⟩
def AE5[Lk]:=fun v=>Lk.f (BZ _ _ v (GC.self Tryz.prog (GC.ev UO) Tryz.f110))
def LO[Lk]:Env:=GC.Cf UO AE5
theorem dk:BH Tryz.prog LO:=Row.BM GC vk Tryz.func110 (d:=GC.self Tryz.prog (GC.ev UO) Tryz.f110) (fun _=>(A0 _).trans (BE ..)) (by kernel_rfl) fun _=>rfl
abbrev L8:Row:=⟨29,0,0,2,0,none,[Aex,(.tmp 1,.dat (.slice .bool))],[(.ret,[Aev,AD])],[.one,.one],[],[(0,[Aci,AeM,AfG,AfF,(.tmp 6,.own 3 (.int .i64)),(.tmp 12,.dat (.slice .bool)),AL,Ac6],[(.exit 0,[Aci,AeM,AfG,AfF,(.tmp 6,.own 3 (.int .i64))])])]⟩
def mM[Lk]:=fun v=>Lk.f (BZ _ _ v (L8.self Tryz.prog (L8.ev LO) Tryz.f29))
def UW[Lk]:Env:=L8.Cf LO mM
theorem vv:BH Tryz.prog UW:=Row.BM L8 dk Tryz.func29 (d:=L8.self Tryz.prog (L8.ev LO) Tryz.f29) (fun _=>(A0 _).trans (BE ..)) (by kernel_rfl) fun _=>rfl
abbrev Jc:Row:=⟨26,0,0,1,0,none,[Adm],[(.ret,[AA,AD,(.tmp 2,.own 3 (.int .i64)),AQ,AP])],[.agg 3,.one,.one],[],[(0,[Adm,Aci,AG,Aca,(.cell 0 2,.nil (.int .i64)),Acf,(.tmp 7,.box 3),AJ,Ac9,(.cell 1 2,.own 3 (.int .i64)),Acu,(.tmp 41,.di)],[(.exit 0,[Aci,AG,Aca,(.cell 0 2,.nil (.int .i64)),Acf,(.tmp 7,.box 3),AJ,Ac9,(.cell 1 2,.own 3 (.int .i64))])])]⟩
def Yy[Lk]:=fun v=>Lk.f (BZ _ _ v (Jc.self Tryz.prog (Jc.ev UW) Tryz.f26))
def QZ[Lk]:Env:=Jc.Cf UW Yy
theorem pT:BH Tryz.prog QZ:=Row.BM Jc vv Tryz.func26 (d:=Jc.self Tryz.prog (Jc.ev UW) Tryz.f26) (fun _=>(A0 _).trans (BE ..)) (by kernel_rfl) fun _=>rfl
abbrev VL:Row:=⟨68,0,0,2,0,none,[Aez,AeR],[(.ret,[Aez])],[.one],[],[(0,[Aez,AeP,AN,Aa],[(.exit 0,[Aez])])]⟩
def AYe[Lk]:=fun v=>Lk.f (BZ _ _ v (VL.self Tryz.prog (VL.ev QZ) Tryz.f68))
def pJ[Lk]:Env:=VL.Cf QZ AYe
theorem AJ2:BH Tryz.prog pJ:=Row.BM VL pT Tryz.func68 (d:=VL.self Tryz.prog (VL.ev QZ) Tryz.f68) (fun _=>(A0 _).trans (BE ..)) (by kernel_rfl) fun _=>rfl
abbrev AfL:Loc×Con:=(.cell 0 2,.dat (.slice (.prod (.int .i64) (.prod (.int .i64) (.prod (.int .i64) .unit)))))
abbrev AfM:Loc×Con:=(.cell 0 1,.dat (.slice (.prod (.int .i64) (.prod (.int .i64) .unit))))
abbrev JR:Row:=⟨22,0,0,1,0,none,[Adr],[(.ret,[Aez,AD])],[.one,.one],[(12,[[],[2],[2],[],[],[1,4],[2],[2],[2],[2],[],[1000005,7,9]])],[(0,[AcP,AG,AfM,AfL,Ae8,(.tmp 26,.dat (.slice (.prod (.int .i64) (.prod (.int .i64) .unit)))),AU,Adx],[(.exit 0,[AcP,AG,AfM,AfL,Ae8])]),(1,[Ae8,(.tmp 41,.dat (.slice (.prod (.int .i64) (.prod (.int .i64) (.prod (.int .i64) .unit))))),Ady,Ae7],[(.exit 2,[Ae8])])]⟩
def Hn[Lk]:=fun v=>Lk.f (BZ _ _ v (JR.self Tryz.prog (JR.ev pJ) Tryz.f22))
def QT[Lk]:Env:=JR.Cf pJ Hn
theorem pK:BH Tryz.prog QT:=Row.BM JR AJ2 Tryz.func22 (d:=JR.self Tryz.prog (JR.ev pJ) Tryz.f22) (fun _=>(A0 _).trans (BE ..)) (by kernel_rfl) fun _=>rfl
abbrev L6:Row:=⟨36,0,0,1,0,none,[AA],[(.ret,[AeJ,(.tmp 1,.own 3 (.int .i64)),AE])],[.agg 2,.one],[],[(0,[AA,AH,Ae5,Ae6,AI,Ae4,Ae3,(.tmp 16,.di),Adv],[(.exit 0,[AH,Ae5,Ae6,AI,Ae4,Ae3])])]⟩
def mK[Lk]:=fun v=>Lk.f (BZ _ _ v (L6.self Tryz.prog (L6.ev QT) Tryz.f36))
def UU[Lk]:Env:=L6.Cf QT mK
theorem vu:BH Tryz.prog UU:=Row.BM L6 pK Tryz.func36 (d:=L6.self Tryz.prog (L6.ev QT) Tryz.f36) (fun _=>(A0 _).trans (BE ..)) (by kernel_rfl) fun _=>rfl
abbrev JW:Row:=⟨181,0,0,2,0,none,[AA,AD],[(.ret,[AA,AD])],[.one,.one],[],[]⟩
def AQ8[Lk]:=fun v=>Lk.f (BZ _ _ v (JW.self Tryz.prog (JW.ev UU) Tryz.f181))
def QV[Lk]:Env:=JW.Cf UU AQ8
theorem pO:BH Tryz.prog QV:=Row.BM JW vu Tryz.func181 (d:=JW.self Tryz.prog (JW.ev UU) Tryz.f181) (fun _=>(A0 _).trans (BE ..)) (by kernel_rfl) fun _=>rfl
abbrev Ju:Row:=⟨107,0,0,2,0,none,[(.tmp 0,.dat (.prod (.int .i64) (.prod (.int .i64) (.prod (.int .i64) (.prod (.int .i64) .unit))))),AD],[(.ret,[AA])],[.one],[],[]⟩
def AUF[Lk]:=fun v=>Lk.f (BZ _ _ v (Ju.self Tryz.prog (Ju.ev QV) Tryz.f107))
def Qe[Lk]:Env:=Ju.Cf QV AUF
theorem pe:BH Tryz.prog Qe:=Row.BM Ju pO Tryz.func107 (d:=Ju.self Tryz.prog (Ju.ev QV) Tryz.f107) (fun _=>(A0 _).trans (BE ..)) (by kernel_rfl) fun _=>rfl
abbrev AfN:Loc×Con:=(.cell 0 0,.dat (.slice (.prod (.int .i64) (.prod (.int .i64) (.prod (.int .i64) (.prod (.int .i64) .unit))))))
abbrev AfO:Loc×Con:=(.tmp 11,.dat (.slice (.slice (.int .i64))))
abbrev AfP:Loc×Con:=(.cell 0 2,.dat (.slice .bool))
abbrev MY:Row:=⟨44,0,0,1,0,none,[(.tmp 0,.dat (.prod (.prod (.slice (.prod (.int .i64) (.prod (.int .i64) (.prod (.int .i64) (.prod (.int .i64) .unit))))) (.prod (.int .i64) (.prod (.slice .bool) .unit))) (.prod (.slice (.slice (.int .i64))) (.prod .bool (.prod (.int .i64) (.prod (.int .i64) .unit))))))],[(.ret,[AA])],[.one],[(9,[[],[0],[0],[0],[],[],[],[0],[0],[0]])],[(0,[Acr,AfN,Aca,AfP,AfH,Aco,Acq,Acs,AE,AfO,AK,AL],[(.exit 0,[AE])]),(1,[Acr,AfN,Aca,AfP,AfH,Aco,Acq,Acs,AE,AfO,AK,AL,(.tmp 17,.dat (.slice (.int .i64))),Adz,AdP],[(.exit 2,[Acr,AfN,Aca,AfP,AfH,Aco,Acq,Acs,AE,AfO,AK,AL])])]⟩
def oC[Lk]:=fun v=>Lk.f (BZ _ _ v (MY.self Tryz.prog (MY.ev Qe) Tryz.f44))
def VB[Lk]:Env:=MY.Cf Qe oC
theorem wA:BH Tryz.prog VB:=Row.BM MY pe Tryz.func44 (d:=MY.self Tryz.prog (MY.ev Qe) Tryz.f44) (fun _=>(A0 _).trans (BE ..)) (by kernel_rfl) fun _=>rfl
abbrev Jl:Row:=⟨31,0,0,4,0,none,[Aex,Aew,AE,AQ],[(.ret,[AeJ,AD])],[.one,.one],[(9,[[],[],[0],[0],[0],[0],[],[0],[0],[0],[],[],[],[],[0],[0],[1]])],[(0,[AQ,(.tmp 10,.box 6),AeM,AfG,AfF,AfH,AeA,Acq,(.tmp 12,.own 3 (.int .i64))],[(.exit 0,[(.tmp 12,.own 3 (.int .i64))])])]⟩
def Y5[Lk]:=fun v=>Lk.f (BZ _ _ v (Jl.self Tryz.prog (Jl.ev VB) Tryz.f31))
def XC[Lk]:Env:=Jl.Cf VB Y5
theorem UX:BH Tryz.prog XC:=Row.BM Jl wA Tryz.func31 (d:=Jl.self Tryz.prog (Jl.ev VB) Tryz.f31) (fun _=>(A0 _).trans (BE ..)) (by kernel_rfl) fun _=>rfl
def Ni[Lk]:Env:=XC.ext 185 false false (CE Tryz.prog XC { fp:=fun n=>match n with|1=>[[0],[10],[10],[],[],[10],[10],[10],[10],[],[],[],[],[],[]]|_=>[] } Tryz.f185)
theorem fO:BH Tryz.prog Ni:=Env.CB UX (Bq UX Tryz.func185 ARZ ARY ARX) (by simp) (by simp)
abbrev AfQ:Loc×Con:=(.cell 0 0,.dat (.slice (.prod (.int .i64) (.prod (.slice (.slice (.int .i64))) .unit))))
abbrev AfR:Loc×Con:=(.tmp 1,.clo 185 [(0,0)])
abbrev Ee:Row:=⟨231,0,1,2,0,some (1,185),[Aeu,(.cap 1 0,.box 1),AfQ,AfR],[(.ret,[Ab,AfQ,AA])],[.one],[],[(0,[Ab,AfQ,Aeu,AfR,AO,AN],[(.ret,[Ab,AfQ,AP]),(.exit 0,[Ab,AfQ])])]⟩
def tq[Lk]:=fun v=>Lk.f (BZ _ _ v (Ee.self Tryz.prog (Ee.ev Ni) Tryz.f231))
def H9[Lk]:Env:=Ee.Cf Ni tq
theorem XE:BH Tryz.prog H9:=Row.BM Ee fO Tryz.func231 (d:=Ee.self Tryz.prog (Ee.ev Ni) Tryz.f231) (fun _=>(A0 _).trans (BE ..)) (by kernel_rfl) fun _=>rfl
abbrev EB:Row:=⟨184,0,1,2,0,some (1,185),[Aeu,(.cap 1 0,.box 1),AfQ,AfR],[(.ret,[Ab,AfQ,AB])],[.one],[],[]⟩
def oO[Lk]:=fun v=>Lk.f (BZ _ _ v (EB.self Tryz.prog (EB.ev H9) Tryz.f184))
def G_[Lk]:Env:=EB.Cf H9 oO
theorem VE:BH Tryz.prog G_:=Row.BM EB XE Tryz.func184 (d:=EB.self Tryz.prog (EB.ev H9) Tryz.f184) (fun _=>(A0 _).trans (BE ..)) (by kernel_rfl) fun _=>rfl
abbrev Ja:Row:=⟨109,0,0,1,0,none,[AeQ],[(.ret,[AB])],[.one],[],[]⟩
def ARW[Lk]:=fun v=>Lk.f (BZ _ _ v (Ja.self Tryz.prog (Ja.ev G_) Tryz.f109))
def QX[Lk]:Env:=Ja.Cf G_ ARW
theorem pR:BH Tryz.prog QX:=Row.BM Ja VE Tryz.func109 (d:=Ja.self Tryz.prog (Ja.ev G_) Tryz.f109) (fun _=>(A0 _).trans (BE ..)) (by kernel_rfl) fun _=>rfl
abbrev JZ:Row:=⟨45,0,0,1,0,none,[AeQ],[(.ret,[AB])],[.one],[],[]⟩
def Yw[Lk]:=fun v=>Lk.f (BZ _ _ v (JZ.self Tryz.prog (JZ.ev QX) Tryz.f45))
def j7[Lk]:Env:=JZ.Cf QX Yw
theorem pQ:BH Tryz.prog j7:=Row.BM JZ pR Tryz.func45 (d:=JZ.self Tryz.prog (JZ.ev QX) Tryz.f45) (fun _=>(A0 _).trans (BE ..)) (by kernel_rfl) fun _=>rfl
end
end Go.Pev
end
section
namespace Go.Pev
noncomputable section
abbrev APD:A1:=[]
abbrev AW7:A1:=[AA,AD,AE,AQ,(.tmp 4,.own 144 (.arr 2 U0))]
abbrev AW6:List RS:=[.agg 5]
def APE[Lk]:(Unit)->Option ((Int×Int×Int×Int×List U5×Unit)):=fun _=>
 some (8,3,2,3,([([0,1]:List (Int)),([1,0]:List (Int)),([2,0]:List (Int))]:List U5),())
def n9[Lk]:=lkk APE
theorem n8 v:n9 v=APE v:=A0 _
def k6[Lk]:(Unit)->Option (Uc):=fun _=>
 match Hn ((1,(([(0,(1,())),(1,(2,())),(2,(0,())),(3,(2,()))]:List U4),(([]:List U9),()))),())with|none=>none|some (f,j,_)=>match Hn ((2,(([(1,(0,()))]:List U4),(([]:List U9),()))),())with|none=>none|some (g,k,_)=>match Hn ((3,(([]:List U4),(([(3,(3,(0,()))),(4,(0,(0,())))]:List U9),()))),())with|none=>none|some (h,l,_)=>match cO (5,())with|none=>none|some (c,m,_)=>match(fits ((A3 f)+(A3 g)))with
 |true=>match(fits ((A3 (Bi f g))+(A3 h)))with
  |true=>match n9 ()with|none=>none|some (n,o,p,q,r,_)=>match ANr (((c.1.1,(c.1.2.1,())),(c.2.1,(c.2.2.1,()))),(Bi (Bi f g) h),(n,(o,((p,(q,(r,()))),()))),())with|none=>none|some (b,d,s,_)=>match cE (d,())with|none=>none|some (t,u,_)=>match Yy (t,())with|none=>none|some (y18,v,y20,y21,w,_)=>match TN (((b.1.1,(b.1.2.1,())),(b.2.1,(b.2.2.1,()))),([1,2,4,8]:List (Int)),())with|none=>none|some (a,x,_)=>match(!(ieq j 0))with
   |true=>some (false,())
   |false=>match(!(ieq k 0))with
   |true=>some (false,())
   |false=>match(!(ieq l 0))with
   |true=>some (false,())
   |false=>match(!(ieq m 0))with
   |true=>some (false,())
   |false=>match(!(ieq s 0))with
   |true=>some (false,())
   |false=>match(!(ieq u 0))with
   |true=>some (false,())
   |false=>match(!(ieq w 0))with
   |true=>some (false,())
   |false=>match(!(ieq x 0))with
   |true=>some (false,())
   |false=>match(!(ieq (A3 d) 3))with
   |true=>some (false,())
   |false=>match(!(ieq (A3 a) 2))with
   |true=>some (false,())
   |false=>match(!(ieq v 4))with
   |true=>some (false,())
   |false=>match idx a 0 with|none=>none|some x25=>match idx a 0 with|none=>none|some x26=>match(B4 (A3 (A7 a 0 (([]:List (Int)),(([]:List (Int)),(([]:List U5),())))).1)&&B4 (A3 (A7 a 0 (([]:List (Int)),(([]:List (Int)),(([]:List U5),())))).1)&&ile (A3 (A7 a 0 (([]:List (Int)),(([]:List (Int)),(([]:List U5),())))).1) (A3 (A7 a 0 (([]:List (Int)),(([]:List (Int)),(([]:List U5),())))).1)&&true)with
   |true=>match aL (((A7 a 0 (([]:List (Int)),(([]:List (Int)),(([]:List U5),())))).1,((A7 a 0 (([]:List (Int)),(([]:List (Int)),(([]:List U5),())))).2.1,((A7 a 0 (([]:List (Int)),(([]:List (Int)),(([]:List U5),())))).2.2.1,()))),(C2 (A2 (A3 (A7 a 0 (([]:List (Int)),(([]:List (Int)),(([]:List U5),())))).1)) (0:Int)),())with|none=>none|some (y,z,_)=>match idx a 0 with|none=>none|some x29=>match idx a 0 with|none=>none|some x30=>match(B4 (A3 (A7 a 0 (([]:List (Int)),(([]:List (Int)),(([]:List U5),())))).1)&&B4 (A3 (A7 a 0 (([]:List (Int)),(([]:List (Int)),(([]:List U5),())))).1)&&ile (A3 (A7 a 0 (([]:List (Int)),(([]:List (Int)),(([]:List U5),())))).1) (A3 (A7 a 0 (([]:List (Int)),(([]:List (Int)),(([]:List U5),())))).1)&&true)with
    |true=>match mM (((A7 a 0 (([]:List (Int)),(([]:List (Int)),(([]:List U5),())))).1,((A7 a 0 (([]:List (Int)),(([]:List (Int)),(([]:List U5),())))).2.1,((A7 a 0 (([]:List (Int)),(([]:List (Int)),(([]:List U5),())))).2.2.1,()))),(C2 (A2 (A3 (A7 a 0 (([]:List (Int)),(([]:List (Int)),(([]:List U5),())))).1)) false),())with|none=>none|some (A,B,_)=>match idx a 0 with|none=>none|some x33=>match aA (((A7 a 0 (([]:List (Int)),(([]:List (Int)),(([]:List U5),())))).1,((A7 a 0 (([]:List (Int)),(([]:List (Int)),(([]:List U5),())))).2.1,((A7 a 0 (([]:List (Int)),(([]:List (Int)),(([]:List U5),())))).2.2.1,()))),y,())with|none=>none|some (C,D,_)=>match idx a 0 with|none=>none|some x36=>match Y5 (((A7 a 0 (([]:List (Int)),(([]:List (Int)),(([]:List U5),())))).1,((A7 a 0 (([]:List (Int)),(([]:List (Int)),(([]:List U5),())))).2.1,((A7 a 0 (([]:List (Int)),(([]:List (Int)),(([]:List U5),())))).2.2.1,()))),A,0,3,())with|none=>none|some (E,F,_)=>match JE ((b.1.1,(b.1.2.1,())),0,())with|none=>none|some (e,G,_)=>match ADV ((e.1,(e.2.1,())),3,())with|none=>none|some (H,I,_)=>match Oq ((b.1.1,(b.1.2.1,())),())with|none=>none|some (J,_)=>match OK (5,J,())with|none=>none|some (K,L,_)=>match mK (3,())with|none=>none|some (y46,M,N,_)=>match W9 (3,1,2,())with|none=>none|some (O,P,Q,R,S,T,U,V,_)=>match make (4,([3,1]:List (Int)),())with|none=>none|some (W,X,Y,Z,_)=>match n9 ()with|none=>none|some (y61,y62,y63,y64,y65,_)=>match PC (([(0,(1,())),(1,(2,())),(2,(0,())),(3,(2,()))]:List U4),(y61,(y62,((y63,(y64,(y65,()))),()))),())with|none=>none|some (y66,y67,y68,_)=>match AAX ((b.1.1,(b.1.2.1,())),([(1,(0,()))]:List U4),())with|none=>none|some (y69,y70,y71,y72,_)=>match S1 ((y69,(y70,())),([(1,(0,()))]:List U4),())with|none=>none|some (i,y74,y75,_)=>match n9 ()with|none=>none|some (y76,y77,y78,y79,y80,_)=>match DH (4,(y78,(y79,(y80,()))),())with|none=>none|some (y81,y82,y83,_)=>match n9 ()with|none=>none|some (y84,y85,y86,y87,y88,_)=>match Kk ((b.1.1,(b.1.2.1,())),(3,(([]:List U4),(([(3,(3,(0,()))),(4,(0,(0,())))]:List U9),()))),(y84,(y85,((y86,(y87,(y88,()))),()))),())with|none=>none|some (y89,y90,y91,y92,y93,_)=>match(ieq z 0)with
     |true=>match(ieq B 0)with
      |true=>match(ieq D 0)with
       |true=>match(ieq F 0)with
        |true=>match(ieq G 0)with
         |true=>match(ieq I 0)with
          |true=>match(ieq L 0)with
           |true=>match(ieq N 0)with
            |true=>match(ieq V 0)with
             |true=>match(ieq Z 0)with
              |true=>match(ieq y68 0)with
               |true=>match(ieq y72 0)with
                |true=>match(ieq y75 0)with
                 |true=>match(ieq y83 0)with
                  |true=>match(ieq y93 0)with
                   |true=>match(ieq C 0)with
                    |true=>match(ieq (A3 E) 0)with
                     |true=>match(ieq H 4)with
                      |true=>match Ov (K,([0,0,0,0,4]:List (Int)),())with|none=>none|some (y94,_)=>match y94 with
                       |true=>match(ieq (A3 M) 3)with
                        |true=>match oC (((O,(P,(Q,()))),(R,(S,(T,(U,()))))),())with|none=>none|some (y95,_)=>match(ieq y95 5)with
                         |true=>match keys ((W,(X,(Y,()))),())with|none=>none|some (y96,_)=>match(ieq (A3 y96) 2)with
                          |true=>match(ieq (A3 y66) 4)with
                           |true=>match Yw ((b.1.1,(b.1.2.1,())),())with|none=>none|some (y97,_)=>match y97 with
                            |true=>match tQ ((i.1,(i.2.1,())),(b.1.1,(b.1.2.1,())),())with|none=>none|some (y98,_)=>match y98 with
                             |true=>match(ieq (A3 y81) 4)with
                              |true=>match idx d 2 with|none=>none|some x99=>match Ov ((A7 d 2 (0,(0,(([]:List (Int)),())))).2.2.1,([4,2]:List (Int)),())with|none=>none|some (y100,_)=>match y100 with
                               |true=>match Mz ((e.1,(e.2.1,())),())with|none=>none|some (y101,_)=>match y101 with
                                |true=>match idx a 0 with|none=>none|some x102=>match Pm (((A7 a 0 (([]:List (Int)),(([]:List (Int)),(([]:List U5),())))).1,((A7 a 0 (([]:List (Int)),(([]:List (Int)),(([]:List U5),())))).2.1,((A7 a 0 (([]:List (Int)),(([]:List (Int)),(([]:List U5),())))).2.2.1,()))),())with|none=>none|some (y103,_)=>some (y103,())
                                |false=>some (false,())
                               |false=>some (false,())
                              |false=>some (false,())
                             |false=>some (false,())
                            |false=>some (false,())
                           |false=>some (false,())
                          |false=>some (false,())
                         |false=>some (false,())
                        |false=>some (false,())
                       |false=>some (false,())
                      |false=>some (false,())
                     |false=>some (false,())
                    |false=>some (false,())
                   |false=>some (false,())
                  |false=>some (false,())
                 |false=>some (false,())
                |false=>some (false,())
               |false=>some (false,())
              |false=>some (false,())
             |false=>some (false,())
            |false=>some (false,())
           |false=>some (false,())
          |false=>some (false,())
         |false=>some (false,())
        |false=>some (false,())
       |false=>some (false,())
      |false=>some (false,())
     |false=>some (false,())
    |false=>none
   |false=>none
  |false=>none
 |false=>none
def Qo[Lk]:=lkk k6
theorem p9 v:Qo v=k6 v:=A0 _
abbrev N6:A1:=[Adu,Ad7]
abbrev kn:A1:=[(.tmp 25,.box 3),AG,Aeb,AcZ,AW,(.tmp 27,.own 35 U8),(.tmp 28,.own 39 U3),Ad0]
abbrev kN:BF:=[(.exit 8,[(.tmp 25,.box 3),AG,Aeb,AcZ,AW,(.tmp 27,.own 35 U8)])]
def Ga[Lk]:(Int×List Int×List Bool×Int×List Int×List U4×Int×Unit)->Option ((Int×List Int×List Bool×Int×List Int×List U4×Int×Unit)⊕(Int×List Int×List Bool×Int×List Int×Unit)⊕Unit):=fun(d,e,f,g,c,a,b,_)=>
 match(ilt b (A3 a))with
 |true=>match idx a b with|none=>none|some i=>match ADJ (((A7 a (A2 b) (0,(0,()))).1,((A7 a (A2 b) (0,(0,()))).2.1,())),())with|none=>none|some (h,j,_)=>match(fits ((A3 c)+(A3 ([h]:List (Int)))))with
  |true=>some (.inl (d,e,f,g,(Bi c ([h]:List (Int))),a,(w64 (b+1)),()))
  |false=>none
 |false=>some (.inr (.inl (d,e,f,g,c,())))
abbrev AfS:Loc×Con:=(.tmp 10,.box 3)
abbrev ko:A1:=[Ael,AG,AcO,AcN,AfS,AJ,Aef,Aee,(.tmp 19,.box 4),Acm,(.cell 4 1,.dat Ui),Acl,Ack,(.tmp 21,.own 35 U8),(.tmp 22,.di)]
abbrev kO:BF:=[(.exit 6,[AfS,AG,(.cell 0 1,.own 35 U8),Ach,(.tmp 19,.box 4),AeE,(.cell 3 1,.dat Ui),(.cell 3 2,.di),(.cell 3 3,.di),(.tmp 21,.own 35 U8)])]
def Gb[Lk]:(Int×List U4×List U9×Int×List Int×List Bool×Int×List U2×Int×Int×List Int×Int×Unit)->Option ((Int×List U4×List U9×Int×List Int×List Bool×Int×List U2×Int×Int×List Int×Int×Unit)⊕(Int×List Int×List Bool×Int×List U2×Int×Int×List Int×Unit)⊕Unit):=fun(m,a,n,d,e,f,g,h,i,j,b,c,_)=>
 match(ilt c (A3 a))with
 |true=>match idx a c with|none=>none|some k=>match AA2 ((k.1,(k.2.1,())),())with|none=>none|some (l,o,_)=>match(fits ((A3 b)+(A3 ([l]:List (Int)))))with
  |true=>some (.inl (m,a,n,d,e,f,g,h,i,j,(Bi b ([l]:List (Int))),(w64 (c+1)),()))
  |false=>none
 |false=>some (.inr (.inl (d,e,f,g,h,i,j,b,())))
abbrev AfT:Loc×Con:=(.cell 1 1,.dat Uy)
abbrev AfU:Loc×Con:=(.cell 1 2,.dat Ur)
abbrev AfV:Loc×Con:=(.tmp 2,.box 4)
abbrev kq:A1:=[AfV,AG,AcD,AdX,AdW,Ael,AJ,AfT,AfU,AfS,AdE,Aen,Aem,AK,AL]
abbrev kP:BF:=[(.ret,[Ae]),(.exit 4,[AfV,AG,AcD,AdX,AdW,Ael,AJ,AfT,AfU,AfS,AdE,Aen,Aem,AK])]
def Gc[Lk]:(Int×List U2×Int×Int×Int×List U4×List U9×Int×List Int×List Bool×Int×Int×Unit)->Option ((Int×List U2×Int×Int×Int×List U4×List U9×Int×List Int×List Bool×Int×Int×Unit)⊕Uc⊕V8⊕Unit):=fun(a,d,h,i,j,k,l,e,f,g,b,c,_)=>
 match(ilt c a)with
 |true=>match AA2 ((c,(b,())),())with|none=>none|some (m,p,_)=>match find ((e,(f,(g,()))),m,())with|none=>none|some (q,r,n,_)=>match tU ((a,(d,())),b,c,())with|none=>none|some (o,_)=>match(!(n==(ile 0 o)))with
  |true=>some (.inr (.inl (false,())))
  |false=>some (.inl (a,d,h,i,j,k,l,e,f,g,b,(w64 (c+1)),()))
 |false=>some (.inr (.inr (.inl (a,d,h,i,j,k,l,e,f,g,b,()))))
abbrev kr:A1:=[AfV,AG,AcD,AdX,AdW,Ael,AJ,AfT,AfU,AfS,AdE,Aen,Aem,AK]
abbrev kQ:BF:=[(.ret,[Ae]),(.exit 2,[AfV,AG,AcD,AdX,AdW,Ael,AJ,AfT,AfU,AfS,AdE,Aen,Aem])]
def Gd[Lk]:V8->Option (V8⊕Uc⊕(Int×List U2×Int×Int×Int×List U4×List U9×Int×List Int×List Bool×Unit)⊕Unit):=fun(a,c,d,e,f,g,h,i,j,k,b,_)=>
 match(ilt b a)with
 |true=>match A_ Gc many (a,c,d,e,f,g,h,i,j,k,b,(w64 (b+1)),())with|none=>none|some r=>match r with
  |.inl (l,_)=>some (.inr (.inl (l,())))
  |.inr r=>match r with
  |.inl (m,n,o,p,q,s,t,u,v,w,x,_)=>some (.inl (m,n,o,p,q,s,t,u,v,w,(w64 (x+1)),()))
  |.inr _=>none
 |false=>some (.inr (.inr (.inl (a,c,d,e,f,g,h,i,j,k,()))))
abbrev ku:A1:=[AfV,AG,AcD,AdX,AdW,Ael,AJ,AfT,AfU,Ab8,AdH,AO]
abbrev kR:BF:=[(.ret,[Ae]),(.exit 0,[AfV,AG,AcD,AdX,AdW,Ael,AJ,AfT,AfU,AdH])]
def Ge[Lk]:(Int×List U2×Int×Int×Int×List U4×List U9×List U4×List Int×Int×Unit)->Option ((Int×List U2×Int×Int×Int×List U4×List U9×List U4×List Int×Int×Unit)⊕Uc⊕(Int×List U2×Int×Int×Int×List U4×List U9×List Int×Unit)⊕Unit):=fun(d,e,f,g,h,i,j,a,c,b,_)=>
 match(ilt b (A3 a))with
 |true=>match idx a b with|none=>none|some m=>match AA2 (((A7 a (A2 b) (0,(0,()))).1,((A7 a (A2 b) (0,(0,()))).2.1,())),())with|none=>none|some (k,l,_)=>match(!l)with
  |true=>some (.inr (.inl (false,())))
  |false=>match(fits ((A3 c)+(A3 ([k]:List (Int)))))with
  |true=>some (.inl (d,e,f,g,h,i,j,a,(Bi c ([k]:List (Int))),(w64 (b+1)),()))
  |false=>none
 |false=>some (.inr (.inr (.inl (d,e,f,g,h,i,j,c,()))))
def N7[Lk]:(V5×Ve×Unit)->Option (Uc):=fun(a,b,_)=>
 match(ilt 30 (A3 a.1.2.1))with
 |true=>match Qo ()with|none=>none|some (i,_)=>some (i,())
 |false=>match(ilt 12 a.1.1)with
 |true=>match Qo ()with|none=>none|some (j,_)=>some (j,())
 |false=>match(ilt 30 (A3 b.2.1))with
 |true=>match Qo ()with|none=>none|some (k,_)=>some (k,())
 |false=>match TB ((a.1.1,(a.1.2.1,())),())with|none=>none|some (l,_)=>match(!l)with
 |true=>match Qo ()with|none=>none|some (m,_)=>some (m,())
 |false=>match Tu ((a.1.1,(a.1.2.1,())),())with|none=>none|some (n,_)=>match A_ Ge many (a.1.1,a.1.2.1,a.2.1,a.2.2.1,b.1,b.2.1,b.2.2.1,n,([]:List (Int)),0,())with|none=>none|some r=>match r with
 |.inl (o,_)=>some (o,())
 |.inr r=>match r with
 |.inl (p,q,s,t,u,v,w,d,_)=>match make (6,d,())with|none=>none|some (e,f,g,x,_)=>match(!(ieq x 0))with
  |true=>some (false,())
  |false=>match keys ((e,(f,(g,()))),())with|none=>none|some (y,_)=>match SK (y,d,())with|none=>none|some (z,_)=>match(!z)with
  |true=>some (false,())
  |false=>match A_ Gd many (p,q,s,t,u,v,w,e,f,g,0,())with|none=>none|some r=>match r with
  |.inl (A,_)=>some (A,())
  |.inr r=>match r with
  |.inl (B,C,D,E,F,h,G,H,I,J,_)=>match n9 ()with|none=>none|some (K,L,M,N,O,_)=>match E0 (((B,(C,())),(D,(E,()))),(2,(h,(([]:List U9),()))),(K,(L,((M,(N,(O,()))),()))),())with|none=>none|some (c,P,_)=>match(!(ieq P.1 0))with
   |true=>match Qo ()with|none=>none|some (Q,_)=>some (Q,())
   |false=>match A_ Gb many (F,h,G,H,I,J,c.1.1,c.1.2.1,c.2.1,c.2.2.1,([]:List (Int)),0,())with|none=>none|some r=>match r with
   |.inl (R,S,T,U,V,o45,o46,W,_)=>match drop ((R,(S,(T,()))),W,())with|none=>none|some (X,Y,Z,y51,_)=>match Tu ((U,(V,())),())with|none=>none|some (y52,_)=>match A_ Ga many (X,Y,Z,y51,([]:List (Int)),y52,0,())with|none=>none|some r=>match r with
    |.inl (o53,o54,o55,o56,o57,_)=>match mo (6,o57,())with|none=>none|some (y58,y59,y60,y61,_)=>match Qo ()with|none=>none|some (y62,_)=>match y62 with
     |true=>match(ieq o56 0)with
      |true=>match(ieq y61 0)with
       |true=>match lh ((o53,(o54,(o55,()))),(y58,(y59,(y60,()))),())with|none=>none|some (y63,_)=>some (y63,())
       |false=>some (false,())
      |false=>some (false,())
     |false=>some (false,())
    |.inr _=>none
   |.inr _=>none
  |.inr _=>none
 |.inr _=>none
def GA[Lk]:=lkk N7
theorem SR v:GA v=N7 v:=A0 _
end
end Go.Pev
end
section

end
section
namespace Go.Pev.Pl
theorem XK{n:Int}(h:-9223372036854775808<=n/\n<=9223372036854775807):IntKind.wrap .i64 n=n:=IntWalk.i64_in n h
theorem BI{n:Int}(h:-9223372036854775808<=n/\n<=9223372036854775807):w64 n=n:=IntWalk.i64_in n h
section
variable {α:Type} [Inhabited α]
theorem Bv{d:Array α}{n:Nat}(h:n<d.size):idx d.toList (n:Int)=some d[n]! := by rw[idx_eq,cJ,AY7 (by omega)];simp[h]
theorem CU{d:Array α}{n:Nat}{z:α}(h:n<d.size):A7 d.toList (A2 (n:Int)) z=d[n]! := by simp[A7,A2,h]
theorem LI{d:Array α}{n:Nat}{x:α}:Bb d.toList (A2 (n:Int)) x=(d.setIfInBounds n x).toList:=by simp[Bb,A2]
theorem ADi{d:Array α}:A3 d.toList=(d.size:Int):=by simp[A3]
theorem Lq(d:Array α)(i j:Nat):(d.setIfInBounds i d[j]!).setIfInBounds j d[i]! = Go.Sort.swp d i j:=rfl
theorem size_swp(d:Array α)(i j:Nat):(Go.Sort.swp d i j).size=d.size:=by simp[Go.Sort.swp]
end
theorem A4(a b:Nat):ilt (a:Int) (b:Int)=decide (a<b):=by rw[BG];simp
theorem FJ(a b:Nat):ile (a:Int) (b:Int)=decide (a<=b):=by rw[BQ];simp
theorem nN(a b:Nat):ieq (a:Int) (b:Int)=decide (a=b):=by rw[B1];grind
section
theorem wrap_add{a b:Nat}(h:a+b<9223372036854775808):w64 ((a:Int)+(b:Int))=((a+b:Nat):Int):=by rw[BI (by omega)];omega
theorem A6{a:Nat}(h:a+1<9223372036854775808):w64 ((a:Int)+1)=((a+1:Nat):Int):=by rw[BI (by omega)];omega
theorem AEH{a:Nat}(h:2*a<9223372036854775808):w64 ((2:Int)*(a:Int))=((2*a:Nat):Int):=by rw[BI (by omega)];omega
theorem AEG{a:Nat}(h:a<9223372036854775808):w64 ((a:Int)*1)=((a*1:Nat):Int):=by rw[BI (by omega)];omega
theorem Pc{a:Nat}(h:a*2<9223372036854775808):w64 ((a:Int)*2)=((a*2:Nat):Int):=by rw[BI (by omega)];omega
theorem fT{a:Nat}(h:a*3<9223372036854775808):w64 ((a:Int)*3)=((a*3:Nat):Int):=by rw[BI (by omega)];omega
theorem FZ{a b:Nat}(h:b<=a/\a<9223372036854775808):w64 ((a:Int)-(b:Int))=((a-b:Nat):Int):=by rw[BI (by omega)];omega
theorem Bx{a:Nat}(h:1<=a/\a<9223372036854775808):w64 ((a:Int)-1)=((a-1:Nat):Int):=by rw[BI (by omega)];omega
theorem AYB{a:Nat}(h:a<9223372036854775808):quo? .i64 (a:Int) 2=some ((a/2:Nat):Int):=by rw[OV,eP,AY7 (by omega),Aao (by omega),XK (by omega)];rfl
theorem rL{a:Nat}(h:a<9223372036854775808):quo? .i64 (a:Int) 4=some ((a/4:Nat):Int):=by rw[OV,eP,AY7 (by omega),Aao (by omega),XK (by omega)];rfl
theorem AYA{a:Nat}(h:a<9223372036854775808):quo? .i64 (a:Int) 8=some ((a/8:Nat):Int):=by rw[OV,eP,AY7 (by omega),Aao (by omega),XK (by omega)];rfl
end
section
variable {α:Type}
theorem Cd{xs:List α}{n:Nat}(z:α)(h:n<xs.length):idx xs (n:Int)=some (xs.getD n z):=by rw[idx_eq,cJ,AY7 (by omega)];simp[h]
theorem AAK{xs:List α}{n:Nat}(h:n<xs.length):∃ x,idx xs (n:Int)=some x:=by rw[idx_eq,cJ,AY7 (by omega)];simp_all
theorem nO(xs:List α)(n:Nat):idx xs (n:Int)=xs[n]? := by rw[idx_eq,cJ,AY7 (by omega)];simp
theorem O1(xs:List α):idx xs (0:Int)=xs.head? := by rw[idx_eq,cJ,AY7 (by omega)];cases xs<;>rfl
theorem Ek(xs:List α)(n:Nat)(z:α):A7 xs (A2 (n:Int)) z=xs.getD n z:=by simp[A7,A2]
theorem FX(xs:List α)(n:Nat)(x:α):Bb xs (A2 (n:Int)) x=xs.set n x:=by simp[Bb,A2]
theorem A9(xs:List α):A3 xs=(xs.length:Int):=rfl
theorem EA(n:Nat):A2 (n:Int)=n:=by simp[A2]
theorem I0(xs ys:List α):Bi xs ys=xs++ys:=rfl
theorem Gh{xs:List α}{l h:Nat}(a:l<=h)(b:h<=xs.length):Ci xs (l:Int) (h:Int)=some ((xs.take h).drop l):=by rw[Pq,hQ,AZA (by omega)];simp
end
theorem CN{n:Int}(h:n<=4294967296):fits n=true:=(Gt n).2 h
theorem dG{α:Type}{xs:List α}(h:xs.length<=4294967296):Lh xs=some xs:=by rw[jr,oW,(Ws _).2 (by rw[A9];omega)]
theorem O0{α β:Type}(xs:List α)(ys:List β):ieq (A3 xs) (A3 ys)=decide (xs.length=ys.length):=by rw[A9,A9,nN]
theorem BL(a b:Int):ieq a b=decide (a=b):=by rw[B1];grind
def walk{α β ρ:Type}(f:β->α->α⊕ρ)(fin:α->ρ):List β->α->ρ
 |[],a=>fin a
 |x::xs,a=>match f x a with
  |.inl a=>walk f fin xs a
  |.inr r=>r
theorem AER{σ ρ α β:Type}{step:σ->Option (σ⊕ρ)}(st:Nat->α->σ)(xs:List β)(f:β->α->α⊕ρ)(fin:α->ρ)(I:Nat->α->Prop)
  (h:∀ i x a,i<xs.length->xs[i]? = some x->I i a->(∀ c,f x a = .inl c->step (st i a)=some (.inl (st (i+1) c))/\I (i+1) c)/\(∀ r,f x a = .inr r->step (st i a)=some (.inr r)))
  (g:∀ a,I xs.length a->step (st xs.length a)=some (.inr (fin a))) :
  ∀ (m i n:Nat) (a:α),xs.length-i=m->i<=xs.length->m<n->I i a->BA step n (st i a)=some (walk f fin (xs.drop i) a):=by
 intro m;induction m with
  |zero=>
   intro i n a j hi l d;obtain⟨n,rfl⟩:∃ k,n=k+1:=⟨n-1,by omega⟩
   have e:i=xs.length:=by omega
   subst e;rw[BA,g a d,List.drop_length];rfl
  |succ m o=>
   intro i n a j hi l d;obtain⟨n,rfl⟩:∃ k,n=k+1:=⟨n-1,by omega⟩
   have b:i<xs.length:=by omega
   obtain⟨p,q⟩:=h i xs[i] a b (by simp) d;rw[AZh b,walk,BA];grind
theorem Er{σ ρ α β:Type}{step:σ->Option (σ⊕ρ)}(st:Nat->α->σ)(xs:List β)(f:β->α->α⊕ρ)(fin:α->ρ)(I:Nat->α->Prop)(e:xs.length<9223372036854775808)
  (h:∀ i x a,i<xs.length->xs[i]? = some x->I i a->(∀ b,f x a = .inl b->step (st i a)=some (.inl (st (i+1) b))/\I (i+1) b)/\(∀ r,f x a = .inr r->step (st i a)=some (.inr r)))
  (c:∀ a,I xs.length a->step (st xs.length a)=some (.inr (fin a))) (a:α) (d:I 0 a):A_ step many (st 0 a)=some (walk f fin xs a):=by
 have g:9223372036854775808<many:=by simp only[many];omega
 rw[BO,AER st xs f fin I h c xs.length 0 many a (by omega) (by omega) (by omega) d];rfl
theorem Gw{α:Type}{xs ys:List α}(z:α)(a:xs.length=ys.length)(h:∀ j,j<xs.length->xs.getD j z=ys.getD j z):xs=ys:=by apply AbY a;grind
theorem K6{α:Type}{xs ys:List α}(z:α){j:Nat}(h:xs.getD j z≠ys.getD j z):xs≠ys:=fun e=>h (by rw[e])
theorem iI{σ ρ:Type}{step:σ->Option (σ⊕ρ)}(st:Nat->σ)(N:Nat)(P:Nat->Bool)(c:Nat->ρ)(d:ρ)
  (h:∀ i,i<N->step (st i)=if P i then some (.inr (c i))else some (.inl (st (i+1)))) (l:step (st N)=some (.inr d)) :
  ∀ (m i n:Nat),N-i=m->i<=N->m<n->(∃ k,i<=k/\k<N/\P k=true/\(∀ j,i<=j->j<k->P j=false)/\BA step n (st i)=some (c k))\/((∀ j,i<=j->j<N->P j=false)/\BA step n (st i)=some d):=by
 intro m;induction m with
  |zero=>
   intro i n o hi p;obtain⟨n,rfl⟩:∃ k,n=k+1:=⟨n-1,by omega⟩
   have e:i=N:=by omega
   subst e;exact .inr ⟨fun j f g=>by omega,by rw[BA,l]⟩
  |succ m q=>
   intro i n o hi p;obtain⟨n,rfl⟩:∃ k,n=k+1:=⟨n-1,by omega⟩
   have a:i<N:=by omega
   cases b:P i
   ·have e:BA step (n+1) (st i)=BA step n (st (i+1)):=by rw[BA,h i a,b];rfl
    rw[e];rcases q (i+1) n (by omega) (by omega) (by omega)with⟨k,f,g,r,s,t⟩|⟨f,g⟩
    all_goals grind
   exact .inl ⟨i,AY8 _,a,b,fun j u v=>by omega,by rw[BA,h i a,b];rfl⟩
theorem ALS{σ ρ:Type}{step:σ->Option (σ⊕ρ)}(st:Nat->σ)(N:Nat)(P:Nat->Bool)(a:Nat->ρ)(b:ρ)(f:N<9223372036854775808)
  (h:∀ i,i<N->step (st i)=if P i then some (.inr (a i))else some (.inl (st (i+1)))) (c:step (st N)=some (.inr b)) :
  (∃ k,k<N/\P k=true/\(∀ j,j<k->P j=false)/\A_ step many (st 0)=some (a k))\/((∀ j,j<N->P j=false)/\A_ step many (st 0)=some b):=by
 have g:9223372036854775808<many:=by simp only[many];omega
 rw[BO];rcases iI st N P a b h c N 0 many rfl (by omega) (by omega)with⟨k,d,e,l,m,n⟩|⟨d,e⟩
 all_goals grind
inductive Tok where
 |ver (v:Int)
 |arc (u v:Int)
 deriving DecidableEq
namespace Tok
def st:Tok->Int
 |.ver v=>v
 |.arc _ v=>v
def step(s:List Int×List Int):Tok->Option (List Int×List Int)
 |.ver v=>match s.1 with
  |w::_=>if w=v then some s else none
  |[]=>none
 |.arc u v=>match s.1 with
  |w::r=>if w=u then match r with
    |p::r'=>if p=v then some (p::r',s.2)else if v∈s.2 then none else some (v::w::r,v::s.2)
    |[]=>if v∈s.2 then none else some (v::w::r,v::s.2)
   else none
  |[]=>none
def run:List Int×List Int->List Tok->Option (List Int×List Int)
 |s,[]=>some s
 |s,t::l=>match step s t with
  |some s=>run s l
  |none=>none
theorem J_(s:List Int×List Int)(a b:List Tok):run s (a++b)=(run s a).bind fun s=>run s b:=by
 induction a generalizing s with
  |nil=>rfl
  |cons t a c=>simp only[AZe,run];grind
theorem HN{s a:List Int×List Int}{t:Tok}(h:step s t=some a):
  (∃ v r,t = .ver v/\s.1=v::r/\a=s) \/
  (∃ u v r,t = .arc u v/\s.1=u::v::r/\a=(v::r,s.2)) \/
  (∃ u v r,t = .arc u v/\s.1=u::r/\r.head?≠some v/\v∉s.2/\a=(v::u::r,v::s.2)):=by
 obtain⟨way,c⟩:=s;cases t with
  |ver v=>
   cases way with
    |nil=>simp[step]at h
    |cons w r=>simp only[step]at h;grind
  |arc u v=>
   cases way with
    |nil=>simp[step]at h
    |cons w r=>
     simp only[step]at h;split at h
     ·rename_i e;subst e;cases r with
       |nil=>simp only at h;split at h;all_goals grind
       |cons p r=>simp only at h;split at h;grind;·split at h;all_goals grind
     grind
theorem II(v:Int)(r c:List Int):step (v::r,c) (.ver v)=some (v::r,c):=by simp[step]
theorem Lr(u v:Int)(r c:List Int):step (u::v::r,c) (.arc u v)=some (v::r,c):=by simp[step]
theorem JY(u v:Int)(r c:List Int)(b:r.head?≠some v)(a:v∉c):step (u::r,c) (.arc u v)=some (v::u::r,v::c):=by
 cases r with
  |nil=>simp[step,a]
  |cons p r=>
   have:p≠v:=by grind
   simp[step,a,this]
def Inv(s:List Int×List Int):Prop:=s.1.Nodup/\(∀ x∈s.1,x∈s.2)
theorem aB{s d:List Int×List Int}{t:Tok}(h:step s t=some d)(hi:Inv s):Inv d/\(∀ x∈s.2,x∈d.2)/\d.1.head? = some t.st:=by
 obtain⟨way,c⟩:=s;obtain⟨e,f⟩:=hi;rcases HN h with⟨v,r,rfl,a,rfl⟩|⟨u,v,r,rfl,a,rfl⟩|⟨u,v,r,rfl,a,_,g,rfl⟩
 exact⟨⟨e,f⟩,fun x b=>b,by rw[a];rfl⟩;·simp only at a e f;subst a;refine⟨⟨?_,?_⟩,fun x b=>b,rfl⟩;all_goals grind
 ·simp only at a e f g;subst a;refine⟨⟨?_,?_⟩,fun x b=>by simp[b],rfl⟩;all_goals grind
theorem lj{l:List Tok}:∀ {s a:List Int×List Int},run s l=some a->Inv s->Inv a/\(∀ x∈s.2,x∈a.2)/\∀ t,l.getLast? = some t->a.1.head? = some t.st:=by
 induction l with
  |nil=>intro s a h hi;cases h;grind
  |cons t l c=>
   intro s a h hi;simp only[run]at h;split at h;rename_i k d;obtain⟨e,f,m⟩:=aB d hi;obtain⟨g,i,n⟩:=c h e;refine⟨g,fun x j=>i x (f x j),fun t' b => ?_⟩;cases l with
    |nil=>simp at b;subst b;simp only[run]at h;grind
    |cons y l=>grind
   grind
theorem Jf{Z:Int->Prop}:∀ {l:List Tok} {way a c d c2 low:List Int},run (way,c) l=some (a,d)->way≠[]->(∀ x,x∈c2↔x∈c\/Z x) ->
  (∀ u v,.arc u v∈l->¬ Z v)->(∀ y∈low,Z y)->∃ b,run (way++low,c2) l=some (a++low,b)/\(∀ x,x∈b↔x∈d\/Z x):=by
 intro l;induction l with
  |nil=>intro way a c d c2 low h _ j _ _;cases h;exact⟨c2,rfl,j⟩
  |cons t l k=>
   intro way a c d c2 low h m j s n;simp only[run]at h;split at h;rename_i C w;have f:∀ u v,Tok.arc u v∈l->¬ Z v:=fun u v z=>s u v (AaQ _ z);rcases HN w with⟨v,r,rfl,e,rfl⟩|⟨u,v,r,rfl,e,rfl⟩|⟨u,v,r,rfl,e,D,A,rfl⟩
   simp only at e;subst e;obtain⟨b,g,i⟩:=k h m j f n;exact⟨b,by simp only[run,AZe,II];exact g,i⟩;simp only at e;subst e;obtain⟨b,g,i⟩:=k h (by simp) j f n;exact⟨b,by simp only[run,AZe,Lr];exact g,i⟩;simp only at e A;subst e;have B:=s u v (by simp);have o:v∉c2:=by grind
   have q:(r++low).head?≠some v:=by
    cases r with
     |nil=>
      cases low with
       |nil=>simp
       |cons y low=>grind
     |cons p r=>grind
   obtain⟨b,g,i⟩:=k (c2:=v::c2) h (by simp) (by grind) f n;exact⟨b,by simp only[run,AZe,JY _ _ _ _ q o];exact g,i⟩;grind
theorem ALe{z:Int}:∀ {l:List Tok} {way a c2 k c:List Int},run (way,c2) l=some (a,k)->z∉way->(∀ x,x∈c2↔x∈c\/x=z)->z∉c ->
  .ver z∉l/\∃ d,run (way,c) l=some (a,d)/\(∀ x,x∈k↔x∈d\/x=z)/\z∉d:=by
 intro l;induction l with
  |nil=>intro way a c2 k c h _ e m;cases h;exact⟨by simp,c,rfl,e,m⟩
  |cons t l n=>
   intro way a c2 k c h f e m;simp only[run]at h;split at h;rename_i B w;rcases HN w with⟨v,r,rfl,b,rfl⟩|⟨u,v,r,rfl,b,rfl⟩|⟨u,v,r,rfl,b,y,q,rfl⟩
   simp only at b;subst b;obtain⟨s,d,g,i,j⟩:=n h f e m;refine⟨?_,d,by simp only[run,II];exact g,i,j⟩;grind;simp only at b;subst b;obtain⟨s,d,g,i,j⟩:=n h (fun o=>f (AaQ _ o)) e m;refine⟨?_,d,by simp only[run,Lr];exact g,i,j⟩;grind;simp only at b q;subst b;have A:v≠z:=by grind
   have p:v∉c:=fun o=>q ((e v).2 (.inl o))
   obtain⟨s,d,g,i,j⟩:=n (c:=v::c) h (by grind)
    (by grind)
    (by grind)
   refine⟨?_,d,by simp only[run,JY _ _ _ _ y p];exact g,i,j⟩;grind;grind
def Rot(a b:List Tok):Prop:=∃ x y,a=x++y/\b=y++x
theorem Rot.refl(a:List Tok):Rot a a:=⟨[],a,rfl,by simp⟩
theorem Rot.trans{a b c:List Tok}(h:Rot a b)(g:Rot b c):Rot a c:=by
 obtain⟨x,y,rfl,i⟩:=h;obtain⟨z,w,f,rfl⟩:=g;rw[i]at f;rcases List.append_eq_append_iff.1 f with⟨k,d,e⟩|⟨k,d,e⟩
 subst d e;exact⟨k,w++y,by simp,by simp⟩;subst d e;exact⟨x++z,k,by simp,by simp⟩
theorem Rot.perm{a b:List Tok}(h:Rot a b):a.Perm b:=by obtain⟨x,y,rfl,rfl⟩:=h;grind
theorem Rot.mem{a b:List Tok}(h:Rot a b)(t:Tok):t∈a↔t∈b:=h.perm.mem_iff
theorem Rot.length{a b:List Tok}(h:Rot a b):a.length=b.length:=h.perm.length_eq
inductive T:List Tok->Prop
 |one (v:Int):T [.ver v]
 |add (x:Tok) (l:List Tok) (v:Int):T (x::l)->x.st≠v->.ver v∉x::l->T (x :: .arc x.st v :: .ver v :: .arc v x.st::l)
 |rot (a b:List Tok):T (a++b)->T (b++a)
theorem T.ANQ{a b:List Tok}(h:T a)(r:Rot a b):T b:=by obtain⟨x,y,rfl,rfl⟩:=r;exact T.rot x y h
theorem T.facts{l:List Tok}(h:T l):l≠[]/\(∀ t∈l,.ver t.st∈l)/\(∀ u v,.arc u v∈l->.ver u∈l/\.ver v∈l/\.arc v u∈l/\u≠v):=by
 induction h with
  |one v=>exact⟨by simp,by simp[st],by simp⟩
  |add x l v h m q f=>
   obtain⟨_,g,n⟩:=f;have d:∀ t,t∈x::l->t∈x::Tok.arc x.st v :: .ver v :: .arc v x.st::l:=by grind
   have o:=d _ (g x (by simp));have c:∀ t,t∈x::Tok.arc x.st v :: .ver v :: .arc v x.st::l->t∈x::l\/t = .arc x.st v\/t = .ver v\/t = .arc v x.st:=by grind
   refine⟨by simp,fun t i => ?_,fun a b j => ?_⟩;rcases c t i with h|rfl|rfl|rfl;grind;simp[st];simp[st];exact o;·rcases c _ j with h|h|h|h;all_goals grind
  |rot a b h f=>obtain⟨r,g,n⟩:=f;have k:∀ t,t∈a++b↔t∈b++a:=fun t=>List.perm_append_comm.mem_iff;refine⟨by intro e;simp_all,fun t i=>(k _).1 (g t ((k _).2 i)),fun u v p => ?_⟩;grind
theorem T.nodup{l:List Tok}(h:T l):l.Nodup:=by
 induction h with
  |one v=>simp
  |add x l v h c e d=>obtain⟨_,_,f⟩:=h.facts;grind
  |rot a b h d=>grind
def C(l:List Tok):Prop:=∀ r,Rot l r->∀ t,r.getLast? = some t->∃ c,run ([t.st],[t.st]) r=some ([t.st],c)/\∀ x,x∈c↔.ver x∈l
end Tok
end Go.Pev.Pl
end
section
namespace Go.Pev.Pl.Tok
theorem getLast?_app{a b:List Tok}{t:Tok}(h:b.getLast? = some t):(a++b).getLast? = some t:=by grind
theorem CY(s:List Int×List Int)(t:Tok)(l:List Tok):run s (t::l)=(step s t).bind fun s=>run s l:=by rw[run];grind
theorem ZX(v:Int):Inv ([v],[v]):=⟨by simp,by simp⟩
theorem T.toC{l:List Tok}(h:T l):C l:=by
 induction h with
  |one v=>intro r I t j;have:r=[.ver v]:=List.perm_singleton.1 I.perm.symm;subst this;simp at j;subst j;exact⟨[v],by simp[run,st,step],by simp⟩
  |rot a b h K=>intro r I t j;obtain⟨c,s,A⟩:=K r (Rot.trans ⟨a,b,rfl,rfl⟩ I) t j;grind
  |add x l v h Q M K=>
   obtain⟨_,f2,R⟩:=h.facts;have m:∀ u w,Tok.arc u w∈x::l->¬ (w=v):=fun u w B e=>M (e▸(R u w B).2.1);have fin:∀ {k c:List Int},(∀ y,y∈k↔y∈c\/y=v)->(∀ y,y∈c↔.ver y∈x::l)->∀ y,y∈k↔Tok.ver y∈x :: .arc x.st v :: .ver v :: .arc v x.st::l:=by grind
   have g:∀ {w' n:List Int},Inv (x.st::w',n)->v∉n->∀ p,run (x.st::w',n) (.arc x.st v :: .ver v :: .arc v x.st::p)=run (x.st::w',v::n) p:=by
    intro w' n hi H p;have S:w'.head?≠some v:=by intro e;exact H (hi.2 v (AaQ _ (List.mem_of_head? e)))
    rw[CY,JY _ _ _ _ S H,AZ0,CY,II,AZ0,CY,Lr,AZ0]
   have G:∀ i f,l=f++i->∀ t,(i++x :: .arc x.st v :: .ver v :: .arc v x.st::f).getLast? = some t->∃ c,run ([t.st],[t.st]) (i++x :: .arc x.st v :: .ver v :: .arc v x.st::f)=some ([t.st],c)/\∀ y,y∈c↔.ver y∈x :: .arc x.st v :: .ver v :: .arc v x.st::l:=by
    intro i f U t j;have J:Rot (x::l) (i++x::f):=⟨x::f,i,by simp[U],rfl⟩
    have L:∃ o,(i++x::f).getLast? = some o/\o.st=t.st:=by
     cases f with
      |nil=>refine⟨x,getLast?_app (by simp),?_⟩;rw[show i++[x,Tok.arc x.st v,.ver v,.arc v x.st]=(i++[x,Tok.arc x.st v,.ver v])++[Tok.arc v x.st] by simp,List.getLast?_concat]at j;cases j;rfl
      |cons y f=>refine⟨t,?_,rfl⟩;grind
    obtain⟨o,V,W⟩:=L;obtain⟨c,s,A⟩:=K _ J o V;rw[W,show i++x::f=(i++[x])++f by simp,J_,AaZ]at s;obtain⟨⟨X,n⟩,N,O⟩:=s;obtain⟨P,i2,Y⟩:=lj N (ZX _);obtain⟨j1,j2,j3⟩:=lj O P;have D:=Y x (by simp);simp only at D;cases X with
     |nil=>grind
     |cons w0 w'=>
      simp at D;subst D;have H:v∉n:=fun B=>M ((A v).1 (j2 v B));obtain⟨k,E,F⟩:=Jf (Z:=(· = v)) (c2:=v::n) (low:=[]) O (by simp) (fun y=>by simp[or_comm]) (fun u w B=>m u w (by grind)) (by simp)
      refine⟨k,?_,fin F A⟩;rw[show i++x::Tok.arc x.st v :: .ver v :: .arc v x.st::f=(i++[x])++Tok.arc x.st v :: .ver v :: .arc v x.st::f by simp,J_,N,AZ0,g P H];grind
   intro r I t j;obtain⟨p,q,d,rfl⟩:=I;have base:∀ o:Tok,(l++[x]).getLast? = some o->o=x:=fun o h=>by grind
   obtain⟨c,s,A⟩:=K (l++[x]) ⟨[x],l,rfl,rfl⟩ x (by simp);match p with
   |[]=>
    simp only[AZk]at d
    subst d
    have:=G [] l (by simp) t (by grind)
    simpa using this
   |[y]=>
    simp only[AZe,AZk,AZb]at d
    obtain⟨rfl,rfl⟩:=d
    have:t=x:=by
     grind
    subst this
    have H:v∉[t.st]:=by grind
    obtain⟨k,E,F⟩:=Jf (Z:=(· = v)) (c2:=[v,t.st]) (low:=[]) s (by simp) (fun y=>by simp[or_comm]) (fun u w B=>m u w (by grind)) (by simp)
    refine⟨k,?_,fin F A⟩
    rw[show(Tok.arc t.st v :: .ver v :: .arc v t.st::l)++[t]=Tok.arc t.st v :: .ver v :: .arc v t.st::(l++[t]) by simp,g (ZX _) H]
    grind
   |[y,z]=>
    simp only[AZe,AZk,AZb]at d
    obtain⟨rfl,rfl,rfl⟩:=d
    have:t = .arc x.st v:=by
     rw[show(Tok.ver v :: .arc v x.st::l)++[x,.arc x.st v]=(Tok.ver v :: .arc v x.st::l++[x])++[.arc x.st v] by simp,List.getLast?_concat]at j
     grind
    subst this
    obtain⟨k,E,F⟩:=Jf (Z:=(· = v)) (c2:=[x.st,v]) (low:=[v]) s (by simp) (fun y=>by simp) (fun u w B=>m u w (by grind)) (by simp)
    refine⟨k,?_,fin F A⟩
    rw[show(Tok.ver v :: .arc v x.st::l)++[x,.arc x.st v]=Tok.ver v :: .arc v x.st::((l++[x])++[.arc x.st v]) by simp]
    rw[CY]
    show(step ([v],[v]) _).bind _=_
    rw[II,AZ0,CY,JY _ _ _ _ (by simp) (by grind),AZ0,J_]
    rw[show([x.st]++[v]:List Int)=[x.st,v]from rfl]at E
    rw[E,AZ0,CY,Lr]
    rfl
   |[y,z,w]=>
    simp only[AZe,AZk,AZb]at d
    obtain⟨rfl,rfl,rfl,rfl⟩:=d
    have:t = .ver v:=by
     rw[show(Tok.arc v x.st::l)++[x,.arc x.st v,.ver v]=(Tok.arc v x.st::l++[x,.arc x.st v])++[.ver v] by simp,List.getLast?_concat]at j
     grind
    subst this
    obtain⟨k,E,F⟩:=Jf (Z:=(· = v)) (c2:=[x.st,v]) (low:=[v]) s (by simp) (fun y=>by simp) (fun u w B=>m u w (by grind)) (by simp)
    refine⟨k,?_,fin F A⟩
    rw[show(Tok.arc v x.st::l)++[x,.arc x.st v,.ver v]=Tok.arc v x.st::((l++[x])++[.arc x.st v,.ver v]) by simp]
    rw[CY]
    show(step ([v],[v]) _).bind _=_
    rw[JY _ _ _ _ (by simp) (by grind),AZ0,J_]
    rw[show([x.st]++[v]:List Int)=[x.st,v]from rfl]at E
    rw[E,AZ0,CY,Lr,AZ0,CY,II]
    rfl
   |y::z::w::w2::f=>
    simp only[AZe,AZb]at d
    obtain⟨rfl,rfl,rfl,rfl,rfl⟩:=d
    exact G q f rfl t j
def comp(P:List Tok):List Int->List Tok
 |[]=>[]
 |w::r=>(if .ver w∈P then []else [.ver w])++match r with
  |[]=>[]
  |p::_=>.arc w p::comp P r
theorem R6{P a:List Tok}:∀ {way:List Int},(∀ w∈way,(Tok.ver w∈P↔Tok.ver w∈a))->comp P way=comp a way:=by
 intro way;induction way with
  |nil=>intro _;rfl
  |cons w r b=>intro h;have c:=h w (by simp);have d:=b fun x e=>h x (AaQ _ e);simp only[comp,c,d]
theorem AWq:∀ (M P:List Tok) (way c c':List Int) (r:Int) (a:Tok),run (way,c) M=some ([r],c')->Inv (way,c)->P.getLast? = some a->way.head? = some a.st ->
  T (P++comp P way)->(∀ x,.ver x∈P++comp P way->x∈c)->(∀ x∈c',Tok.ver x∈P++M)->(P++M).Nodup->T (P++M):=by
 intro M;induction M with
  |nil=>intro P way c c' r a h hi L Q m n d o;cases h;have:=d r (hi.2 r (by simp));rw[AZ8]at this;simpa [comp,this]using m
  |cons t M B=>
   intro P way c c' r a h hi L Q m n d o;rw[CY,AaZ]at h;obtain⟨⟨U,V⟩,N,A⟩:=h;obtain⟨j,O,k⟩:=aB N hi;have p:P++t::M=(P++[t])++M:=by simp
   rw[p]at o d |-;have C:t∉P:=by grind
   rcases HN N with⟨v,b,rfl,g,e⟩|⟨u,v,b,rfl,g,e⟩|⟨u,v,b,rfl,g,R,q,e⟩
   cases e;simp only at g;subst g;have f:comp P (v::b) = .ver v::comp (P++[.ver v]) (v::b):=by
    have s:comp P b=comp (P++[.ver v]) b:=R6 fun w l=>by
     have:w≠v:=by rintro rfl;exact(AaA.1 hi.1).1 l
     grind
    simp only[comp,C,s];simp
   rw[f]at m n;exact B _ _ _ _ _ (.ver v) A j (by simp) k (by grind) (fun x S=>n x (by grind)) d o;cases e;simp only at g;subst g;have D:Tok.ver u∈P:=by
    have E:=(AaA.1 hi.1).1;obtain⟨W,_⟩:=ALe (z:=u) (c:=c.filter (·≠u)) A E (fun x=>by simp only[AZS,AY2];constructor;grind;rintro (h|rfl);exact h.1;exact hi.2 x (by simp)) (by simp)
    grind
   have f:comp P (u::v::b) = .arc u v::comp (P++[.arc u v]) (v::b):=by
    have s:comp P (v::b)=comp (P++[.arc u v]) (v::b):=R6 fun w l=>by simp
    rw[<- s];simp only[comp,D];simp
   rw[f]at m n;exact B _ _ _ _ _ (.arc u v) A j (by simp) k (by grind) (fun x S=>n x (by grind)) d o;cases e;simp only at g q;subst g;have D:u=a.st:=by grind
   subst D;have F:∀ x,Tok.ver x∈P++comp P (a.st::b)->x≠v:=by grind
   have G:Tok.ver v∉P++comp P (a.st::b):=fun H=>F v H rfl;have y:Tok.ver v∉P:=fun H=>G (by simp[H]);have f:comp (P++[.arc a.st v]) (v::a.st::b) = .ver v :: .arc v a.st::comp P (a.st::b):=by
    have s:comp (P++[.arc a.st v]) (a.st::b)=comp P (a.st::b):=R6 fun w l=>by simp
    rw[<- s];simp only[comp,AY5,y,AZW,reduceCtorEq,or_false,AZL];rfl
   have I:a.st≠v:=by rintro e;exact q (e▸hi.2 a.st (by simp))
   refine B _ _ _ _ _ (.arc a.st v) A j (by simp) k ?_ ?_ d o;rw[f];obtain⟨i,rfl⟩:∃ i,P=i++[a]:=List.getLast?_eq_some_iff.1 L;have J:T (a::(comp (i++[a]) (a.st::b)++i)):=m.ANQ ⟨i,a::comp (i++[a]) (a.st::b),by simp,by simp⟩;have K:=T.add a _ v J I (by grind)
   exact K.ANQ ⟨a :: .arc a.st v :: .ver v :: .arc v a.st::comp (i++[a]) (a.st::b),i,by simp,by simp⟩;grind
def BT(l:List Tok):Prop:=∃ r a c,l = .ver r::a/\run ([r],[r]) l=some ([r],c)/\∀ x∈c,Tok.ver x∈l
theorem BT.toT{l:List Tok}(h:BT l)(d:l.Nodup):T l:=by obtain⟨r,b,c,rfl,a,e⟩:=h;rw[CY,II,AZ0]at a;have:=AWq b [.ver r] [r] [r] c r (.ver r) a (ZX r) (by simp) (by simp[st]) (by simp[comp];exact T.one r) (by simp[comp]) (by grind) (by grind);grind
theorem T.lM{r:Int}{l:List Tok}(h:T (.ver r::l)):BT (.ver r::l):=by
 obtain⟨t,d⟩:∃ t,(Tok.ver r::l).getLast? = some t:=⟨_,List.getLast?_eq_some_getLast (by simp)⟩
 obtain⟨c,b,f⟩:=h.toC _ (Rot.refl _) t d;have a:=b;rw[CY,AaZ]at a;obtain⟨s,g,_⟩:=a;have e:t.st=r:=by simp only[step]at g;grind
 rw[e]at b;exact⟨r,l,c,rfl,b,fun x i=>(f x).1 i⟩
theorem T.uw{l:List Tok}(h:T l):∃ v r,Rot l (.ver v::r):=by obtain⟨c,d,_⟩:=h.facts;obtain⟨t,e⟩:=List.exists_mem_of_ne_nil l c;obtain⟨a,b,rfl⟩:=Abq (d t e);exact⟨t.st,b++a,a,.ver t.st::b,rfl,rfl⟩
theorem T.leaf{l:List Tok}(h:T l):(∃ v,l=[.ver v])\/∃ x v r,Rot l (x :: .arc x.st v :: .ver v :: .arc v x.st::r):=by
 induction h with
  |one v=>simp
  |add x l v h f g d=>exact .inr ⟨x,v,l,Rot.refl _⟩
  |rot a b h d=>
   rcases d with⟨v,e⟩|⟨x,v,r,c⟩
   have c:Rot [.ver v] (b++a):=⟨a,b,e.symm,rfl⟩
   exact .inl ⟨v,List.perm_singleton.1 c.perm.symm⟩;exact .inr ⟨x,v,r,Rot.trans ⟨b,a,rfl,rfl⟩ c⟩
def N9:List Tok->List Int
 |[]=>[]
 |.ver v::l=>v::N9 l
 |.arc _ _::l=>N9 l
theorem S9{v:Int}:∀ {l:List Tok},v∈N9 l↔.ver v∈l
 |[]=>by simp[N9]
 |.ver w::l=>by simp[N9,S9 (l:=l)]
 |.arc _ _::l=>by simp[N9,S9 (l:=l)]
theorem qB(a b:List Tok):N9 (a++b)=N9 a++N9 b:=by
 induction a with
  |nil=>rfl
  |cons t a c=>cases t<;>simp[N9,c]
theorem T.len{l:List Tok}(h:T l):l.length+2=3*(N9 l).length:=by
 induction h with
  |one v=>rfl
  |add x l v h d e c=>cases x<;>simp[N9]at c |-<;>omega
  |rot a b h c=>simp only[qB,AZF]at c |-;omega
end Go.Pev.Pl.Tok
end
section
namespace Go.Pev.Pl
section
variable {β:Type}
def B8(a:List (Int×β)):List Int:=a.map Prod.fst
theorem WZ(a:List (Int×β)):(B8 a).length=a.length:=by simp[B8]
theorem Gl(c:List (Int×β))(k:Int)(v:β)(j:Int):A8 (BC c k v) j=if j=k then some v else A8 c j:=by
 induction c with
  |nil=>simp only[BC,A8];grind
  |cons e c d=>obtain⟨a,b⟩:=e;simp only[BC];by_cases h:a=k;subst h;simp only[AZa,A8];grind;simp only[h,AZL,A8,d];grind
theorem Ri(c:List (Int×β))(k:Int)(v:β):B8 (BC c k v)=if k∈B8 c then B8 c else B8 c++[k]:=by
 induction c with
  |nil=>rfl
  |cons e c d=>
   obtain⟨a,b⟩:=e;simp only[BC];by_cases h:a=k;subst h;simp[B8];simp only[h,AZL];show a::B8 (BC c k v)=_;rw[d];have:k∈B8 ((a,b)::c)↔k∈B8 c:=by simp[B8,Aal h]
   simp only[this];split<;>rfl
theorem Xk(c:List (Int×β))(k:Int):A8 c k=none↔k∉B8 c:=by
 induction c with
  |nil=>simp[A8,B8]
  |cons e c d=>obtain⟨a,b⟩:=e;simp only[A8];by_cases h:a=k;simp[h,B8];simp only[h,AZL,d];simp[B8,Aal h]
theorem Gk(a:List (Int×β))(k:Int)(v:β)(j:Int):j∈B8 (BC a k v)↔j=k\/j∈B8 a:=by rw[Ri];grind
theorem L_{a:List (Int×β)}(h:(B8 a).Nodup)(k:Int)(v:β):(B8 (BC a k v)).Nodup:=by rw[Ri];grind
end
def dd:List Int->List Int->List Int
 |ks,[]=>ks
 |ks,x::xs=>dd (if x∈ks then ks else ks++[x]) xs
theorem AXD:∀ (xs a:List Int),(dd a xs).length<=a.length+xs.length/\((dd a xs).length=a.length+xs.length↔xs.Nodup/\∀ x∈xs,x∉a):=by
 intro xs;induction xs with
  |nil=>intro a;simp[dd]
  |cons x xs b=>intro a;rw[dd];by_cases h:x∈a;grind;obtain⟨c,d⟩:=b (a++[x]);grind
theorem APZ(xs:List Int):(dd [] xs).length=xs.length↔xs.Nodup:=by have:=(AXD xs []).2;grind
theorem Ch{α β ρ:Type}(g:β->α->α)(fin:α->ρ):∀ (xs:List β) (a:α),walk (fun x a=>.inl (g x a)) fin xs a=fin (xs.foldl (fun a x=>g x a) a):=by
 intro xs;induction xs with
  |nil=>intro a;rfl
  |cons x xs b=>intro a;rw[walk,AZm];grind
theorem Q0{σ ρ β:Type}{step:σ->Option (σ⊕ρ)}(st:Nat->σ)(xs:List β)(P:β->Bool)(b:Nat->ρ)(c:ρ)(d:xs.length<9223372036854775808)
  (h:∀ i x,i<xs.length->xs[i]? = some x->step (st i)=if P x then some (.inr (b i))else some (.inl (st (i+1)))) (g:step (st xs.length)=some (.inr c)) :
  A_ step many (st 0)=some (if xs.any P then b (xs.findIdx P)else c):=by
 have e:∀ (l:List β) (a:Nat),walk (fun x (a:Nat)=>if P x then .inr (b a)else .inl (a+1)) (fun _=>c) l a=if l.any P then b (a+l.findIdx P)else c:=by
  intro l;induction l with
   |nil=>intro a;rfl
   |cons x l j=>intro a;rw[walk,List.any_cons,List.findIdx_cons];grind
 have:=Er (step:=step) (fun i (a:Nat)=>st a) xs (fun x (a:Nat)=>if P x then .inr (b a)else .inl (a+1)) (fun _=>c) (fun i a=>a=i) d
  (fun i x a hi k f=>by
   grind)
  (fun a f=>by grind) 0 rfl
 grind
theorem BB{α:Type}{xs:List α}{n:Nat}{x:α}(h:xs[n]? = some x):idx xs (n:Int)=some x:=by rw[nO,h]
theorem CG{α:Type}{xs:List α}{n:Nat}{x z:α}(h:xs[n]? = some x):A7 xs (A2 (n:Int)) z=x:=by rw[Ek,AZK,h];rfl
theorem lR{α:Type}{xs:List α}{h:Nat}(a:h<=xs.length):Ci xs (0:Int) (h:Int)=some (xs.take h):=by have:=Gh (xs:=xs) (l:=0) (AbR h) a;grind
theorem Sf{α:Type}{xs:List α}{l:Nat}(a:l<=xs.length):Ci xs (l:Int) (A3 xs)=some (xs.drop l):=by have:=Gh (xs:=xs) a (AY8 _);rw[AZT]at this;exact this
def pos(xs:List Int)(t:Int):Int:=if t∈xs then((xs.findIdx (fun x=>decide (x=t)):Nat):Int)else -1
theorem AUp(xs:List Int)(t:Int):(xs.any fun x=>decide (x=t))=decide (t∈xs):=by grind
theorem AMD{xs:List Int}{t:Int}(h:t∈xs):∃ k:Nat,pos xs t=(k:Int)/\k<xs.length/\xs[k]? = some t/\xs=xs.take k++t::xs.drop (k+1)/\t∉xs.take k:=by
 have a:xs.findIdx (fun x=>decide (x=t))<xs.length:=Aa5.2 ⟨t,h,by simp⟩;have b:xs[xs.findIdx (fun x=>decide (x=t))]'a=t:=by grind
 refine⟨_,by rw[pos,AZA h],a,by grind,?_,?_⟩;·conv=>lhs;rw[<- AaK (xs.findIdx (fun x=>decide (x=t))) xs,AZh a,b]
 intro c;obtain⟨j,d,e⟩:=Abl.1 c;grind
theorem ACL{xs:List Int}{t:Int}(h:t∉xs):pos xs t = -1:=by rw[pos,AY7 h]
end Go.Pev.Pl
end
section
section
namespace Go.Pev.Pl
open Tok
def In(n v:Int):Prop:=1<=n/\n<=64/\0<=v/\v<n
instance (n v:Int):Decidable (In n v):=inferInstanceAs (Decidable (_/\_))
def Sz(n:Int):Prop:=1<=n/\n<=64
instance (n:Int):Decidable (Sz n):=inferInstanceAs (Decidable (_/\_))
theorem Mx(n:Int):RA (n,())=some (decide (Sz n),()):=by rw[gk,Zy];simp only[BQ];by_cases a:1<=n<;>by_cases b:n<=64<;>simp[Sz,a,b]
theorem Yr(n v:Int):tin (n,v,())=some (decide (In n v),()):=by rw[AKm,AKn];simp only[Mx,BQ,BG];by_cases a:1<=n<;>by_cases b:n<=64<;>by_cases c:0<=v<;>simp[In,Sz,a,b,c]
def AYg(n v:Int):Int:=if In n v then v else -1
def Qm(n u v:Int):Int:=if In n u/\In n v/\u≠v then n*(u+1)+v else -1
theorem NA{n u:Int}(d:1<=n)(b:n<=64)(a:0<=u)(c:u<=64):0<=n*u/\n*u<=4096:=by refine⟨Int.mul_nonneg (by omega) a,?_⟩;have:=Int.mul_le_mul b c a (by omega);omega
theorem AKr(n u v:Int):AKt (n,u,v,())=some (Qm n u v,()):=by rw[AB8,xC];simp only[Yr,Qm,BL];by_cases a:u=v;simp[a];by_cases b:In n u;by_cases c:In n v;obtain⟨d,e,f,g⟩:=b;obtain⟨h,i,j,k⟩:=c;have l:=NA (u:=u+1) d e (by omega) (by omega);rw[BI (n:=u+1) (by omega),BI (n:=n*(u+1)) (by omega),BI (n:=n*(u+1)+v) (by omega)];grind;grind;grind
def Gg(n t:Int):Option Tok:=
 if In n t then some (.ver t)
 else if Sz n/\n<=t/\t<n*(n+1)/\t/n-1≠t % n then some (.arc (t/n-1) (t % n))
 else none
def wj:Option Tok->Int×Int×Bool×Bool×Unit
 |some (.ver v)=>(v,0,false,true,())
 |some (.arc u v)=>(u,v,true,true,())
 |none=>(0,0,false,false,())
def Ib(n:Int):Tok->Int
 |.ver v=>v
 |.arc u v=>n*(u+1)+v
def okT(n:Int):Tok->Prop
 |.ver v=>In n v
 |.arc u v=>In n u/\In n v/\u≠v
theorem ZO{n u v:Int}(c:In n u)(d:In n v):n<=n*(u+1)+v/\n*(u+1)+v<n*(n+1)/\(n*(u+1)+v)/n=u+1/\(n*(u+1)+v) % n=v:=by
 obtain⟨e,f,h,i⟩:=c;obtain⟨j,k,a,b⟩:=d;have l:n*(u+1)=n*u+n:=by grind
 have m:n*(n+1)=n*n+n:=by grind
 have o:=NA (u:=u) e f (by omega) (by omega);have g:n*(u+1)<=n*n:=Int.mul_le_mul_of_nonneg_left (by omega) (by omega);have hd:(n*(u+1)+v)/n=u+1:=by rw[Int.add_comm,Int.add_mul_ediv_left _ _ (by omega),Int.ediv_eq_zero_of_lt a b];omega
 have p:(n*(u+1)+v) % n=v:=by rw[Int.add_comm,Int.add_mul_emod_self_left,Int.emod_eq_of_lt a b]
 omega
theorem ADm{n t:Int}(c:Sz n)(f:n<=t)(g:t<n*(n+1)):In n (t/n-1)/\In n (t % n)/\n*(t/n-1+1)+t % n=t:=by obtain⟨a,b⟩:=c;have h:1<=t/n:=(Int.le_ediv_iff_mul_le (by omega)).2 (by omega);have i:t/n<n+1:=(Int.ediv_lt_iff_lt_mul (by omega)).2 (by grind);have d:=Int.emod_nonneg t (show n≠0 by omega);have e:=Int.emod_lt_of_pos t (show 0<n by omega);have j:=Int.mul_ediv_add_emod t n;refine⟨⟨a,b,by omega,by omega⟩,⟨a,b,d,e⟩,?_⟩;grind
theorem HK{n:Int}{t:Tok}(h:okT n t):Gg n (Ib n t)=some t:=by
 cases t with
  |ver v=>simp only[okT]at h;simp[Gg,Ib,h]
  |arc u v=>
   obtain⟨a,c,d⟩:=h;obtain⟨e,f,g,i⟩:=ZO a c;have b:¬ In n (n*(u+1)+v):=fun h=>by have:=h.2.2.2;omega
   have:u+1-1=u:=by omega
   simp only[Gg,Ib,b,AZL,g,i,this];rw[AZA ⟨⟨a.1,a.2.1⟩,e,f,d⟩]
theorem AId{n x:Int}{t:Tok}(h:Gg n x=some t):okT n t/\Ib n t=x:=by rw[Gg]at h;split at h;cases h;exact⟨by assumption,rfl⟩;split at h;rename_i a;cases h;obtain⟨b,c,d⟩:=ADm a.1 a.2.1 a.2.2.1;exact⟨⟨b,c,a.2.2.2⟩,d⟩;grind
theorem Ki{n u v:Int}(h:okT n (.arc u v)):Qm n u v=Ib n (.arc u v):=by simp only[okT]at h;rw[Qm,AZA h];rfl
theorem Tt{n:Int}{a b:Tok}(c:okT n a)(d:okT n b)(h:Ib n a=Ib n b):a=b:=by have:=HK c;rw[h,HK d]at this;grind
theorem wc(n t:Int)(m:-9223372036854775808<=t/\t<=9223372036854775807):lH (n,t,())=some (wj (Gg n t)):=by
 rw[gj,Zx];simp only[Mx];by_cases f:Sz n;obtain⟨c,d⟩:=f;have o:=NA (u:=n) c d (by omega) (by omega);have p:n*(n+1)=n*n+n:=by grind
 rw[BI (n:=n+1) (by omega),BI (n:=n*(n+1)) (by omega)];simp only[Sz,c,d,and_self,AZD,AY4,BG,BQ];by_cases i:t<0;have a:¬ In n t:=fun h=>by have:=h.2.2.1;omega
 have e:¬ n<=t:=by omega
 simp only[i,AZD,Gg,a,AZL,e,Abr,and_false,wj];simp only[i,AZQ];by_cases e:n*(n+1)<=t;have a:¬ In n t:=fun h=>by have:=h.2.2.2;omega
 have b:¬ t<n*(n+1):=by omega
 simp only[e,AZD,Gg,a,AZL,b,Abr,and_false,wj];simp only[e,AZQ];by_cases b:t<n;have hi:In n t:=⟨c,d,by omega,b⟩
 simp only[b,AZD,Gg,hi,AZa,wj];have a:¬ In n t:=fun h=>b h.2.2.2;have k:t.tdiv n=t/n:=Aao (by omega);have l:t.tmod n=t % n:=Abd (by omega);obtain⟨j,q,r⟩:=ADm (t:=t) ⟨c,d⟩ (by omega) (by omega);have s:=j.2.2.1;have v:=j.2.2.2;simp only[b,AZQ,OV,eP,l9,AFf];rw[AY7 (by omega),AY7 (by omega),k,l,XK (n:=t/n) (by omega)];simp only[];rw[BI (n:=t/n-1) (by omega),BL,Gg,AY7 a];by_cases g:t/n-1=t % n;rw[AY7 (by omega),AY0 g];rfl;rw[AZA ⟨⟨c,d⟩,by omega,by omega,g⟩,AYz g];rfl;have a:¬ In n t:=fun h=>f ⟨h.1,h.2.1⟩;simp only[f,AZQ,AZO,Gg,a,AZL,Abr,wj]
def DN(n:Nat):List (List Int):=(List.range n).map fun(v:Nat)=>[(v:Int)]
theorem lW(n:Nat):DN (n+1)=DN n++[[(n:Int)]]:=by simp[DN,AZo]
theorem qd(n:Nat):(DN n).length=n:=by simp[DN]
theorem wm(N:Nat)(b:N<=64)(c:Int):∀ (k i n:Nat),i+k=N->k<n->BA OD n (c,(N:Int),DN i,(N:Int),(i:Int),())=some (.inl (c,(N:Int),DN N,())):=by
 intro k;induction k with
  |zero=>
   intro i n hi a;obtain⟨n,rfl⟩:∃ k,n=k+1:=⟨n-1,by omega⟩
   have:i=N:=by omega
   subst this;rw[BA,OD,A4,AYz (by omega)]
  |succ k d=>
   intro i n hi a;obtain⟨n,rfl⟩:∃ k,n=k+1:=⟨n-1,by omega⟩
   rw[BA,OD,A4,AY0 (by omega)];simp only[A9,qd,AZC,AZP];rw[CN (by omega),A6 (by omega)];simp only[I0,<- lW];grind
def ZD(n:Int):Int×List (List Int)×Int×Unit:=if Sz n then(n,DN n.toNat,0,())else(0,[],1,())
theorem AEi(n:Int):AB5 (n,())=some (ZD n):=by
 have c:4294967296<many:=by simp only[many];omega
 rw[qK,lO,ZD];simp only[Mx];by_cases h:Sz n;obtain⟨d,f⟩:=h;obtain⟨N,rfl⟩:=AY6 (show 0<=n by omega);have a:Sz (N:Int):=⟨by omega,by omega⟩
 have e:=wm N (by omega) 0 N 0 many (by omega) (by omega);have b:BA OD many (0,(N:Int),[],(N:Int),(0:Int),())=_:=e;simp[a,BO,b];grind
end Go.Pev.Pl
end
section
namespace Go.Pev.Pl
theorem Ro(xs:List Int)(t:Int)(a:xs.length<9223372036854775808):Wg (xs,t,())=some (pos xs t,()):=by
 rw[jQ,cG]
 have e:=Q0 (step:=MM) (fun i=>(xs,t,A3 xs,(i:Int),())) xs (fun x=>decide (x=t)) (fun i=>.inl ((i:Int),())) (.inr (.inl ())) a
  (fun i x hi b=>by
   rw[MM,A9,A4,AY0 hi]
   simp only[BB b,BL]
   by_cases h:x=t
   ·simp[h]
   ·simp only[h,Aal h,AZQ];rw[A6 (by omega)];simp)
  (by rw[MM,A9,A4,AYz (by omega)])
 have c:A_ MM many (xs,t,A3 xs,(0:Int),())=_:=e;rw[c,AUp,pos];grind
theorem H3(xs:List Int)(t:Int)(a:xs.length<9223372036854775808):Hh (xs,t,())=some (decide (t∈xs),()):=by rw[T5,PE];simp only[Ro xs t a,BQ];by_cases h:t∈xs;obtain⟨k,e,_⟩:=AMD h;rw[e];simp[h];rw[ACL h];simp[h]
def Rt(xs:List Int):Prop:=xs.length<=1000/\(∀ x∈xs,0<=x/\x<=10000)/\xs.Nodup
instance (xs:List Int):Decidable (Rt xs):=inferInstanceAs (Decidable (_/\_/\_))
theorem uv(xs:List Int)(a:xs.length<9223372036854775808):H4 (xs,())=some (xs.any (fun x=>decide (x<0)||decide (10000<x)),()):=by
 rw[Mg,I1,Nr,KS]
 have e:=Q0 (step:=EY) (fun i=>(xs,A3 xs,(i:Int),())) xs (fun x=>decide (x<0)||decide (10000<x)) (fun i=>.inl ((i:Int),())) (.inr (.inl ())) a
  (fun i x hi c=>by
   rw[EY,A9,A4,AY0 hi]
   simp only[BB c,BG]
   rw[A6 (by omega)]
   grind)
  (by rw[EY,A9,A4,AYz (by omega)])
 have d:A_ EY many (xs,A3 xs,(0:Int),())=_:=e;rw[d];generalize (xs.any fun x=>decide (x<0)||decide (10000<x))=b;cases b<;>simp[BQ]
theorem ANP(xs:List Int)(c:xs.length<9223372036854775808):once (xs,())=some (decide xs.Nodup,()):=by
 rw[ACr,zR]
 have e:=Er (step:=S4) (fun i m=>(xs,m,xs,A3 xs,(i:Int),())) xs (fun x m=>.inl (BC m x (w64 (((A8 m x).getD (0:Int))+(1:Int))))) (fun m=>.inl (xs,m,())) (fun _ _=>True) c
  (fun i x m hi d _=>by
   refine⟨fun j a => ?_,fun r a=>by cases a⟩
   cases a
   rw[S4,A9,A4,AY0 hi]
   simp only[BB d]
   rw[A6 (by omega)]
   simp)
  (fun m _=>by rw[S4,A9,A4,AYz (by omega)]) [] trivial
 have f:A_ S4 many (xs,([]:List (Int×Int)),xs,A3 xs,(0:Int),())=_:=e;rw[f,Ch];have b:∀ (l:List Int) (m:List (Int×Int)),B8 (l.foldl (fun m x=>BC m x (w64 (((A8 m x).getD (0:Int))+(1:Int)))) m)=dd (B8 m) l:=by
  intro l;induction l with
   |nil=>intro m;rfl
   |cons x l g=>intro m;rw[AZm,g,Ri,dd]
 have h:=b xs [];generalize xs.foldl (fun m x=>BC m x (w64 (((A8 m x).getD (0:Int))+(1:Int)))) []=m at *;simp only[O0];have:m.length=(dd [] xs).length:=by rw[<- WZ,h];rfl
 rw[this];simp only[APZ]
theorem RN(xs:List Int):Vu (xs,())=some (decide (Rt xs),()):=by
 rw[iP,aX,A9,BG];by_cases d:xs.length<=1000;rw[AYz (by omega)];simp only[uv xs (by omega),ANP xs (by omega)];have a:(xs.any fun x=>decide (x<0)||decide (10000<x)) = !decide (∀ x∈xs,0<=x/\x<=10000):=by grind
 rw[a];by_cases b:∀ x∈xs,0<=x/\x<=10000;rw[AY0 b];by_cases c:xs.Nodup;rw[AY0 c,AY0 (show Rt xs from⟨d,b,c⟩)];rfl;rw[AYz c,AYz (show ¬ Rt xs from fun h=>c h.2.2)];rfl;rw[AYz b,AYz (show ¬ Rt xs from fun h=>b h.2.1)];rfl;rw[AY0 (by omega),AYz (show ¬ Rt xs from fun h=>d h.1)]
def rot(xs:List Int)(k:Nat):List Int:=xs.drop k++xs.take k
theorem AIC(n:Nat)(e:n<4294967296):ADQ ((n:Int),())=some ([],()):=by
 have a:w64 ((n:Int)-w64 ((0:Int)-0))=(n:Int):=by rw[BI (n:=(0:Int)-0) (by omega),BI (by omega)];omega
 rw[uC,nb];simp only[a,BG];rw[AYz (by omega)];simp only[];by_cases h:0<n;rw[AY0 (by omega)];have b:Ci ([]:List Unit) (0:Int) (0:Int)=some []:=by rw[Pq];rfl
 have c:Ci (C2 (A2 (n:Int)) (0:Int)) (0:Int) (0:Int)=some []:=by rw[Pq,hQ,AZA (by omega)];simp
 have d:B4 (n:Int)=true:=(Hb _).2 (by omega);simp only[b,c,d];rfl;grind
theorem Eo{α:Type}{a:List (List α)}{i:Nat}{x:List α}(h:a[i]? = some x):(a.take (i+1)).flatten=(a.take i).flatten++x:=by rw[Abw,h];simp
theorem Fm{α:Type}(a:List (List α))(i:Nat):(a.take i).flatten.length<=a.flatten.length:=by
 conv=>rhs;rw[<- AaK i a,List.flatten_append,AZF]
 omega
theorem X6(b:List (List Int))(t:b.length<4294967296)(h:b.flatten.length<4294967296):QO (b,())=some (b.flatten,()):=by
 rw[dE,W4]
 have e:=Er (step:=Kf) (fun i (a:Nat)=>(b,(a:Int),b,A3 b,(i:Int),())) b (fun x a=>.inl (a+x.length)) (fun a=>.inl (b,(a:Int),())) (fun i a=>a=(b.take i).flatten.length) (by omega)
  (fun i x a hi d n=>by
   refine⟨fun o c => ?_,fun r c=>by cases c⟩
   cases c
   have j:=Eo d
   have k:=Fm b (i+1)
   rw[j,AZF]at k
   rw[Kf]
   simp only[A9]
   rw[A4,AY0 hi]
   simp only[BB d]
   rw[wrap_add (by omega),A6 (by omega),BG,AYz (by omega)]
   grind)
  (fun a _=>by rw[Kf,A9,A4,AYz (by omega)]) 0 rfl
 have p:A_ Kf many (b,(0:Int),b,A3 b,(0:Int),())=_:=e;rw[p,Ch];have f:∀ (l:List (List Int)) (a:Nat),l.foldl (fun a x=>a+x.length) a=a+l.flatten.length:=by
  intro l;induction l with
   |nil=>simp
   |cons x l q=>grind
 rw[f,AZ3];simp only[AIC _ h]
 have g:=Er (step:=Ke) (fun i (a:List Int)=>(a,b,A3 b,(i:Int),())) b (fun x a=>.inl (a++x)) (fun a=>.inl (a,())) (fun i a=>a=(b.take i).flatten) (by omega)
  (fun i x a hi d n=>by
   refine⟨fun o c => ?_,fun r c=>by cases c⟩
   cases c
   have j:=Eo d
   have k:=Fm b (i+1)
   rw[j,AZF]at k
   rw[Ke]
   simp only[A9]
   rw[A4,AY0 hi]
   simp only[BB d]
   rw[A6 (by omega),CN (by grind)]
   exact⟨rfl,by grind⟩)
  (fun a _=>by rw[Ke,A9,A4,AYz (by omega)]) [] rfl
 have s:A_ Ke many ([],b,A3 b,(0:Int),())=_:=g;rw[s,Ch];have m:∀ (l:List (List Int)) (a:List Int),l.foldl (fun a x=>a++x) a=a++l.flatten:=by
  intro l;induction l with
   |nil=>simp
   |cons x l q=>grind
 grind
theorem Zu(xs:List Int)(k:Nat)(a:k<=xs.length)(b:xs.length<2147483648):Zw (xs,(k:Int),())=some (rot xs k,()):=by rw[gi,Zv];simp only[Sf a,lR a];rw[X6 _ (by simp) (by grind)];simp[rot]
def DK(xs:List Int)(t:Int):List Int:=rot xs (xs.findIdx (fun x=>decide (x=t)))
def ni(xs:List Int)(t:Int):List Int×Bool×Unit:=if Rt xs/\t∈xs then(DK xs t,true,())else([],false,())
theorem aa{xs:List Int}{t:Int}(h:t∈xs):∃ a b,xs=a++t::b/\t∉a/\DK xs t=t::b++a:=by
 obtain⟨k,e,g,i,c,d⟩:=AMD h;rw[pos,AZA h]at e;have f:xs.findIdx (fun x=>decide (x=t))=k:=by omega
 refine⟨_,_,c,d,?_⟩;rw[DK,f,rot];grind
theorem AFd(xs:List Int)(t:Int):rI (xs,t,())=some (ni xs t):=by
 rw[rH,l5,ig,az,ni];simp only[RN];by_cases c:Rt xs;have n:=c.1;simp only[c,AZD,AY4,Abs];have e:A_ Jj many (xs,[],[t],A3 [t],(0:Int),())=some (.inl ([pos xs t],())):=by
  have g:=Er (step:=Jj) (fun i (a:List Int)=>(xs,a,[t],A3 [t],(i:Int),())) [t] (fun x a=>.inl (a++[pos xs x])) (fun a=>.inl (a,())) (fun i a=>a.length=i) (by simp)
   (fun i x a hi d f=>by
    refine⟨fun o b => ?_,fun r b=>by cases b⟩
    cases b
    rw[Jj,A9,A4,AY0 hi]
    simp only[BB d,Ro xs x (by omega)]
    simp only[AZC,AZP]at hi
    rw[A6 (by omega),CN (by simp only[A9,AZC,AZP];omega)]
    exact⟨rfl,by simp[f]⟩)
   (fun a _=>by rw[Jj,A9,A4,AYz (by omega)]) [] rfl
  have j:A_ Jj many (xs,[],[t],A3 [t],(0:Int),())=_:=g;rw[j];rfl
 rw[e];simp only[H3 [pos xs t] (-1) (by simp)];by_cases h:t∈xs;have p:xs.findIdx (fun x=>decide (x=t))<xs.length:=Aa5.2 ⟨t,h,by simp⟩;rw[pos,AZA h,AZA h,DK];generalize xs.findIdx (fun x=>decide (x=t))=k at *;rw[AYz (by simp)];have l:idx [(k:Int)] (0:Int)=some (k:Int):=by rw[O1];rfl
 have m:A7 [(k:Int)] 0 (0:Int)=(k:Int):=rfl;simp only[AZO,AY4,l,m,Zu xs k (by omega) (by omega)];rw[ACL h,AY7 h];simp;grind
def Ol:List Int->Int
 |[]=>0
 |x::xs=>xs.foldl (fun a y=>Cl a y) x
theorem AAZ:∀ (xs:List Int) (a:Int),(xs.foldl (fun a y=>Cl a y) a)<=a/\(∀ x∈xs,xs.foldl (fun a y=>Cl a y) a<=x)/\(xs.foldl (fun a y=>Cl a y) a=a\/xs.foldl (fun a y=>Cl a y) a∈xs):=by
 intro xs;induction xs with
  |nil=>simp
  |cons x xs b=>
   intro a;rw[AZm];obtain⟨c,d,e⟩:=b (Cl a x);have f:Cl a x<=a/\Cl a x<=x/\(Cl a x=a\/Cl a x=x):=by rw[Cl];omega
   grind
theorem HU{xs:List Int}(h:xs≠[]):Ol xs∈xs/\∀ x∈xs,Ol xs<=x:=by
 cases xs with
  |nil=>grind
  |cons x xs=>obtain⟨b,c,d⟩:=AAZ xs x;refine⟨?_,fun y a => ?_⟩;rcases d with h|h;rw[Ol,h];simp;exact AaQ _ h;rcases AZJ.1 a with rfl|a;exact b;exact c y a
theorem ASw{xs:List Int}{m:Int}(a:m∈xs)(b:∀ x∈xs,m<=x):Ol xs=m:=by obtain⟨c,d⟩:=HU (List.ne_nil_of_mem a);grind
theorem tK(xs:List Int)(h:xs≠[])(c:xs.length<9223372036854775808):ANU (xs,())=some (Ol xs,()):=by
 cases xs with
  |nil=>grind
  |cons x xs=>
   rw[AC1,zY,A9,BG,AYz (by grind)];have d:idx (x::xs) (0:Int)=some x:=by rw[O1];rfl
   simp only[d];simp only[AZC]at c
   have e:=Er (step:=S8) (fun i (a:Int)=>(x::xs,a,((i+1:Nat):Int),())) xs (fun y a=>.inl (Cl a y)) (fun a=>.inl (a,())) (fun _ _=>True) (by omega)
    (fun i y a hi f _=>by
     refine⟨fun j b => ?_,fun r b=>by cases b⟩
     cases b
     rw[S8,A9,A4,AY0 (by grind)]
     simp only[BB (xs:=x::xs) (n:=i+1) (by simpa using f)]
     rw[A6 (by omega)]
     simp)
    (fun a _=>by rw[S8,A9,A4,AYz (by simp)]) x trivial
   have g:A_ S8 many (x::xs,x,(1:Int),())=_:=e;rw[g,Ch];rfl
def plain(xs:List Int):List Int:=if Rt xs/\xs≠[]then DK xs (Ol xs)else []
theorem xb(xs:List Int):ln (xs,())=some (plain xs,()):=by
 rw[iQ,aY,plain];simp only[RN];by_cases a:Rt xs;have d:=a.1;simp only[a,AZD,AY4,Abs];by_cases h:xs=[]
 subst h;simp[A9,B1];have e:0<xs.length:=List.length_pos_iff.2 h;rw[A9,BL,AYz (by omega)];have b:=(HU h).1;have c:xs.findIdx (fun x=>decide (x=Ol xs))<xs.length:=Aa5.2 ⟨_,b,by simp⟩;simp only[tK xs h (by omega),Ro xs _ (show xs.length<9223372036854775808 by omega)];rw[pos,AZA b,AZA (by omega),DK];simp only[Zu xs _ (AbX c) (by omega)];grind
theorem ay{xs:List Int}(c:Rt xs)(h:xs≠[]):∃ a b,xs=a++Ol xs::b/\plain xs=Ol xs::b++a:=by obtain⟨a,b,d,_,e⟩:=aa (HU h).1;exact⟨a,b,d,by rw[plain,AZA ⟨c,h⟩,e]⟩
end Go.Pev.Pl
end
section
namespace Go.Pev.Pl
open Tok
def TI(n:Int)(xs:List Int):Prop:=∃ L,xs=L.map (Ib n)/\(∀ t∈L,okT n t)/\T L
noncomputable instance (n:Int) (xs:List Int):Decidable (TI n xs):=Classical.propDecidable _
abbrev ABo:=List Int×List (Int×Int)×List (Int×Int)
abbrev AVR:=(Bool×Unit)⊕(List Int×List (Int×Int)×List (Int×Int)×Unit)⊕Unit
def goF(n x:Int)(s:ABo):ABo⊕AVR:=
 match Gg n x with
 |none=>.inr (.inl (false,()))
 |some t=>match Tok.step (s.1,B8 s.2.1) t with
  |none=>.inr (.inl (false,()))
  |some a=>match t with
   |.ver v=>.inl (a.1,s.2.1,BC s.2.2 v (w64 (((A8 s.2.2 v).getD (0:Int))+(1:Int))))
   |.arc _ v=>.inl (a.1,if v∈B8 s.2.1 then s.2.1 else BC s.2.1 v 1,s.2.2)
def one(a:List (Int×Int)):Prop:=∀ k,(0<(A8 a k).getD (0:Int))↔k∈B8 a
theorem AGl{a:List (Int×Int)}(h:one a)(v:Int):one (BC a v 1):=by intro k;rw[Gl,Gk];by_cases e:k=v;simp[e];simp only[e,AZL,false_or];exact h k
theorem AIJ(n:Int)(xs:List Int)(i:Nat)(x:Int)(B:xs[i]? = some x)(hi:i<xs.length)(H:xs.length<4294967296)(g:-9223372036854775808<=x/\x<=9223372036854775807)
  (w:Int) (r:List Int) (b met:List (Int×Int)) (I:r.length<4294967295) (k:one b) (d:∀ y∈w::r,y∈B8 b) :
  QE (n,(w::r).reverse,b,met,xs,A3 xs,(i:Int),())=match goF n x (w::r,b,met)with
   |.inl s=>some (.inl (n,s.1.reverse,s.2.1,s.2.2,xs,A3 xs,((i+1:Nat):Int),()))
   |.inr y=>some (.inr y):=by
 have hd:A3 ((w::r).reverse)=((r.length+1:Nat):Int):=by simp[A9]
 have l:w64 (((r.length+1:Nat):Int)-1)=(r.length:Int):=by rw[Bx (by omega)];rfl
 have m:idx ((w::r).reverse) (r.length:Int)=some w:=by rw[nO];simp
 have o:A7 ((w::r).reverse) (A2 (r.length:Int)) (0:Int)=w:=by rw[Ek];simp
 have q:∀ v:Int,fits (A3 ((w::r).reverse)+A3 [v])=true:=fun v=>CN (by rw[hd,A9];grind);have J:∀ v:Int,Bi ((w::r).reverse) [v]=(v::w::r).reverse:=fun v=>by simp[I0]
 rw[QE,A9,A4,AY0 hi];rw[A9]at hd;simp only[BB B,wc n x g,goF];cases K:Gg n x with
  |none=>rfl
  |some t=>
   cases t with
    |ver v=>simp only[wj,AY4,AZO,A9,hd,l,m,o,BL,Tok.step];rw[A6 (by omega)];grind
    |arc u v=>
     simp only[wj,AY4,A9,hd,l,m,o,BL,Tok.step];rw[A6 (by omega)];by_cases h:w=u;subst h;rw[AY0 rfl];simp only[AY4];cases r with
      |nil=>
       have z:ilt (0:Int) ((([]:List Int).length:Nat):Int)=false:=by rw[BG];rfl
       simp only[z];rw[BG];have c:=k v;by_cases e:v∈B8 b;grind;rw[AYz (fun h=>e (c.1 h))];have f:=q v;rw[A9,hd]at f;have C:(A8 b v).getD (0:Int)=0:=by rw[(Xk b v).2 e];rfl
       have D:w64 ((0:Int)+1)=1:=by rw[BI (by omega)];rfl
       rw[A9]at f;grind
      |cons p r=>
       have z:ilt (0:Int) (((p::r).length:Nat):Int)=true:=by rw[BG,AY0 (by simp)]
       have E:w64 ((((p::r).length:Nat):Int)-1)=(r.length:Int):=by rw[Bx (by grind)];rfl
       have F:idx ((w::p::r).reverse) (r.length:Int)=some p:=by rw[nO];simp
       have G:A7 ((w::p::r).reverse) (A2 (r.length:Int)) (0:Int)=p:=by rw[Ek];simp
       simp only[z,E,F,G];by_cases j:p=v;subst j;rw[AY0 rfl];have A:p∈B8 b:=d p (by simp);have L:Ci ((w::p::r).reverse) (0:Int) (((p::r).length:Nat):Int)=some ((p::r).reverse):=by rw[lR (by simp)];grind
       have M:CT (A2 (((p::r).reverse.length:Nat):Int)) ((w::p::r).reverse)=(p::r).reverse:=by rw[CT,EA,List.reverse_cons (a:=w),List.take_left' rfl]
       grind;rw[AYz j];simp only[j,AZL];rw[BG];have c:=k v;by_cases e:v∈B8 b;grind;rw[AYz (fun h=>e (c.1 h))];have f:=q v;rw[A9,hd]at f;have C:(A8 b v).getD (0:Int)=0:=by rw[(Xk b v).2 e];rfl
       have D:w64 ((0:Int)+1)=1:=by rw[BI (by omega)];rfl
       rw[A9]at f;grind
     grind
end Go.Pev.Pl
end
section
namespace Go.Pev.Pl
open Tok
theorem Ht{a b:List Int}(c:a.Nodup)(h:∀ x∈a,x∈b):a.length<=b.length:=by
 induction a generalizing b with
  |nil=>simp
  |cons x a d=>
   obtain⟨e,f,rfl⟩:=Abq (h x (by simp));rw[AaA]at c;have:=d (b:=e++f) c.2 fun y g=>by grind
   grind
theorem mf{a b:List Int}(c:a.Nodup)(h:∀ x∈a,x∈b)(e:b.length<=a.length):∀ x∈b,x∈a:=by
 intro x f;refine AaR fun d => ?_;have:=Ht (a:=x::a) (b:=b) (AaA.2 ⟨d,c⟩) fun y g=>by grind
 grind
theorem aC{way c c2:List Int}(h:∀ x,x∈c↔x∈c2)(t:Tok):
  (Tok.step (way,c) t=none↔Tok.step (way,c2) t=none)/\∀ g i,Tok.step (way,c) t=some (g,i)->∃ d,Tok.step (way,c2) t=some (g,d)/\∀ x,x∈i↔x∈d:=by
 cases t with
  |ver v=>
   cases way with
    |nil=>simp[Tok.step]
    |cons w r=>by_cases e:w=v;simp only[Tok.step,e,AZa];grind;simp[Tok.step,e]
  |arc u v=>
   cases way with
    |nil=>simp[Tok.step]
    |cons w r=>
     by_cases e:w=u;cases r with
      |nil=>by_cases a:v∈c;simp[Tok.step,e,a,(h v).1 a];have b:v∉c2:=fun q=>a ((h v).2 q);simp only[Tok.step,e,AZa,a,b,AZL];grind
      |cons p r=>by_cases f:p=v;simp only[Tok.step,e,AZa,f];grind;by_cases a:v∈c;simp[Tok.step,e,f,a,(h v).1 a];have b:v∉c2:=fun q=>a ((h v).2 q);simp only[Tok.step,e,AZa,f,a,b,AZL];grind
     simp[Tok.step,e]
structure GI(s:ABo):Prop where
 ne:s.1≠[]
 one:one s.2.1
 sub:∀ y∈s.1,y∈B8 s.2.1
 nc:(B8 s.2.1).Nodup
 nm:(B8 s.2.2).Nodup
theorem ADS{n x:Int}{s a:ABo}(hi:GI s)(h:goF n x s = .inl a):
  GI a/\a.1.length<=s.1.length+1/\∃ t d,Gg n x=some t/\Tok.step (s.1,B8 s.2.1) t=some (a.1,d)/\(∀ x,x∈d↔x∈B8 a.2.1)/\(∀ y,y∈B8 a.2.2↔y∈B8 s.2.2\/Tok.ver y=t):=by
 rw[goF]at h;cases i:Gg n x with
  |none=>grind
  |some t=>
   rw[i]at h;simp only at h;cases b:Tok.step (s.1,B8 s.2.1) t with
    |none=>grind
    |some q=>
     obtain⟨k,d⟩:=q;rw[b]at h;rcases HN b with⟨v,r,rfl,c,e⟩|⟨u,v,r,rfl,c,e⟩|⟨u,v,r,rfl,c,l,g,e⟩
     cases h;cases e;refine⟨⟨hi.ne,hi.one,hi.sub,hi.nc,L_ hi.nm _ _⟩,by simp,_,_,rfl,b,fun x=>Iff.rfl,fun y => ?_⟩;rw[Gk];grind;cases h;cases e;simp only at c;have j:v∈B8 s.2.1:=hi.sub v (by grind);simp only[j,AZa];refine⟨⟨by simp,hi.one,fun y f=>hi.sub y (by grind),hi.nc,hi.nm⟩,by grind,_,_,rfl,b,fun x=>Iff.rfl,fun y=>by simp⟩;cases h;cases e;simp only at c g;simp only[g,AZL];refine⟨⟨by simp,AGl hi.one v,fun y f => ?_,L_ hi.nc _ _,hi.nm⟩,by grind,_,_,rfl,b,fun x => ?_,fun y=>by simp⟩;rw[Gk];rcases AZJ.1 f with rfl|f;omega;exact .inr (hi.sub y (by grind));rw[Gk,AZJ]
def uD(s:ABo):AVR:=.inr (.inl (s.1.reverse,s.2.1,s.2.2,()))
theorem AIH(n:Int):∀ (xs:List Int) (s:ABo) (c:List Int),GI s->(∀ x,x∈c↔x∈B8 s.2.1) ->
  (∃ L d c',xs=L.map (Ib n)/\(∀ t∈L,okT n t)/\run (s.1,c) L=some (d.1,c')/\walk (goF n) uD xs s=uD d/\GI d/\(∀ x,x∈c'↔x∈B8 d.2.1)/\(∀ x,x∈B8 d.2.2↔x∈B8 s.2.2\/Tok.ver x∈L)) \/
  (walk (goF n) uD xs s = .inl (false,())/\∀ L,xs=L.map (Ib n)->(∀ t∈L,okT n t)->run (s.1,c) L=none):=by
 intro xs;induction xs with
  |nil=>intro s c hi i;exact .inl ⟨[],s,c,rfl,by simp,rfl,rfl,hi,i,by simp⟩
  |cons x xs q=>
   intro s c hi i;rw[walk];have u:∀ {t},Gg n x=some t->Tok.step (s.1,B8 s.2.1) t=none->∀ L,x::xs=L.map (Ib n)->(∀ t∈L,okT n t)->run (s.1,c) L=none:=by
    intro t e k L b a;cases L with
     |nil=>cases b
     |cons t' L=>simp only[AZN,AZb]at b;have f:=HK (a t' (by simp));rw[<- b.1,e]at f;cases f;rw[CY,((aC i t).1).2 k];rfl
   cases j:goF n x s with
    |inr r=>
     simp only;have D:r = .inl (false,())/\∀ L,x::xs=L.map (Ib n)->(∀ t∈L,okT n t)->run (s.1,c) L=none:=by
      rw[goF]at j;cases e:Gg n x with
       |none=>
        rw[e]at j;cases j;refine⟨rfl,fun L b a => ?_⟩;cases L with
         |nil=>cases b
         |cons t' L=>simp only[AZN,AZb]at b;have f:=HK (a t' (by simp));grind
       |some t=>grind
     grind
    |inl d=>
     simp only;obtain⟨l,_,t,E,e,k,m,F⟩:=ADS hi j;obtain⟨o,g,h⟩:=(aC (c:=B8 s.2.1) (c2:=c) (fun x=>(i x).symm) t).2 _ _ k;obtain⟨G,H⟩:=AId e;rcases q d o l (fun x=>(h x).symm.trans (m x))with⟨L,v,c2,p,w,z,A,B,C,I⟩|⟨p,w⟩
     ·refine .inl ⟨t::L,v,c2,by grind,?_,by rw[CY,g];exact z,A,B,C,fun y => ?_⟩;all_goals grind
     refine .inr ⟨p,fun L b a => ?_⟩;cases L with
      |nil=>cases b
      |cons t' L=>simp only[AZN,AZb]at b;have f:=HK (a t' (by simp));rw[<- b.1,e]at f;cases f;rw[CY,g];grind
theorem xX:∀ {l:List Tok} {s a:List Int×List Int},run s l=some a->a.1.getLast? = s.1.getLast? := by
 intro l;induction l with
  |nil=>intro s a h;cases h;rfl
  |cons t l c=>
   intro s a h;rw[CY,AaZ]at h;obtain⟨f,d,e⟩:=h;rw[c e];rcases HN d with⟨v,r,rfl,b,rfl⟩|⟨u,v,r,rfl,b,rfl⟩|⟨u,v,r,rfl,b,g,i,rfl⟩
   all_goals grind
theorem ALd:∀ {l:List Tok} {s a:List Int×List Int},run s l=some a->Tok.Inv s->∀ x,Tok.ver x∈l->x∈a.2:=by
 intro l;induction l with
  |nil=>simp
  |cons t l g=>intro s a h hi x b;rw[CY,AaZ]at h;obtain⟨i,e,f⟩:=h;obtain⟨c,j,d⟩:=aB e hi;rcases AZJ.1 b with rfl|b;have:=(lj f c).2.1;refine this x (c.2 x ?_);simp only[st]at d;exact List.mem_of_head? d;grind
theorem AHP{n:Int}{L:List Tok}(h:(L.map (Ib n)).Nodup):L.Nodup:=by rw[List.Nodup,AaN]at h;exact h.imp fun h e=>h (by rw[e])
theorem AD0{n x:Int}{xs:List Int}(h:TI n (x::xs))(g:Ol (x::xs)=x):In n x:=by
 obtain⟨L,a,d,i⟩:=h;obtain⟨v,r,j⟩:=i.uw;have f:Tok.ver v∈L:=(j.mem _).2 (by simp);have b:v∈x::xs:=by rw[a];exact AZG.2 ⟨_,f,rfl⟩
 have k:=(HU (xs:=x::xs) (by simp)).2 v b;rw[g]at k;have l:=(d _ f).2.2.2;cases L with
  |nil=>cases a
  |cons t L=>
   simp only[AZN,AZb]at a;have c:=d t (by simp);cases t with
    |ver w=>rw[a.1];exact c
    |arc p q=>have:=(ZO c.1 c.2.1).1;have e:x=n*(p+1)+q:=a.1;omega
theorem AOe(n:Int)(xs:List Int)(h0:xs≠[])(hs:xs.length<2147483648)(hr:∀ x∈xs, -9223372036854775808<=x/\x<=9223372036854775807)(hn:xs.Nodup)(hm:∀ x,xs.head? = some x->Ol xs=x):
  goes (n,xs,())=some (decide (TI n xs),()):=by
 cases xs with
  |nil=>grind
  |cons d g=>
   rw[ADR,AAS];have i0:idx (d::g) (0:Int)=some d:=by rw[O1];rfl
   simp only[i0,Yr];by_cases j:In n d;rw[AY0 j];simp only[AY4];have V:GI ([d],BC [] d 1,[]):=by
    refine⟨by simp,fun k => ?_,fun y W => ?_,?_,by simp[B8]⟩;have:A8 (BC ([]:List (Int×Int)) d 1) k=if k=d then some 1 else none:=by rw[Gl];rfl
    rw[this];by_cases e:k=d<;>simp[e,BC,B8];simp at W;subst W;simp[BC,B8];simp[BC,B8]
   have e:=Er (step:=QE) (fun i (s:ABo)=>(n,s.1.reverse,s.2.1,s.2.2,d::g,A3 (d::g),(i:Int),())) (d::g) (goF n) uD (fun i s=>GI s/\s.1.length<=i+1) (by omega)
    (fun i x s hi o ⟨E,X⟩=>by
     obtain⟨way,z,H⟩:=s
     cases way with
     |nil=>exact absurd rfl E.ne
     |cons w r=>
      have I:=AIJ n (d::g) i x o hi (by omega) (hr x (AY9 o)) w r z H (by grind) E.one E.sub
      refine⟨fun f J => ?_,fun y J => ?_⟩
      ·rw[J]at I
       obtain⟨g1,g2,_⟩:=ADS E J
       grind
      grind)
    (fun s _=>by rw[QE,A9,A4,AYz (by omega)];rfl) ([d],BC [] d 1,[]) ⟨V,by simp⟩
   have e':A_ QE many (n,[d],BC [] d 1,[],d::g,A3 (d::g),(0:Int),())=_:=e;rw[e'];have M:B8 (BC ([]:List (Int×Int)) d 1)=[d]:=rfl;rcases AIH n (d::g) ([d],BC [] d 1,[]) [d] V (fun x=>by rw[M])with⟨L,f,c',q,N,C,a4,O,Y,F⟩|⟨q,N⟩
   rw[a4];obtain⟨t,p,rfl⟩:∃ t p,L=t::p:=by cases L with
    |nil=>cases q
    |cons t p=>simp
   have D:t = .ver d:=by have u:=HK (N t (by simp));simp only[AZN,AZb]at q;rw[<- q.1,Gg,AZA j]at u;grind
   subst D;have P:(Tok.ver d::p).Nodup:=AHP (n:=n) (by grind);have l:=xX C;have hvs:=ALd C (ZX d);have hk:(B8 f.2.2).length<=(B8 f.2.1).length:=Ht O.nm fun x o=>by have:=(F x).1 o;simp only[B8,Aa6,Ab7,false_or]at this;grind
   have m:(f.1.length=1/\(B8 f.2.2).length=(B8 f.2.1).length)↔TI n (d::g):=by
    constructor;rintro⟨Q,Z⟩;obtain⟨w,hw⟩:=List.length_eq_one_iff.1 Q;rw[hw]at l C;simp at l;subst l;refine⟨_,q,N,Tok.BT.toT ⟨w,p,c',rfl,C,fun x o => ?_⟩ P⟩;have u:=mf O.nm (fun x o=>by have:=(F x).1 o;simp only[B8,Aa6,Ab7,false_or]at this;grind) (by omega) x ((Y x).1 o)
    have:=(F x).1 u;simpa [B8]using this;rintro⟨K,v,k2,R⟩;have S:K=Tok.ver d::p:=by
     have:∀ (A B:List Tok),A.map (Ib n)=B.map (Ib n)->(∀ t∈A,okT n t)->(∀ t∈B,okT n t)->A=B:=by
      intro A;induction A with
       |nil=>simp
       |cons a A ih=>
        intro B h hA hB;cases B with
         |nil=>cases h
         |cons b B=>simp only[AZN,AZb]at h;rw[Tt (hA a (by simp)) (hB b (by simp)) h.1,ih B h.2 (fun t D=>hA t (by simp[D])) fun t D=>hB t (by simp[D])]
     grind
    subst S;obtain⟨r,l',c,T,G,q3⟩:=R.lM;cases T;rw[C]at G;cases U:f.1 with
     |nil=>grind
     |cons w r'=>rw[U]at G;cases G;refine⟨rfl,?_⟩;have:=Ht O.nc (b:=B8 f.2.2) fun x o=>(F x).2 (.inr (q3 x ((Y x).2 o)));omega
   simp only[uD,BL,A9,List.length_reverse];rw[WZ,WZ]at m;by_cases Q:f.1.length=1;rw[AY0 (show(f.1.length:Int)=1 by omega)];simp only[Q,Abs]at m;by_cases Z:f.2.2.length=f.2.1.length;grind;rw[AYz (show ¬ (f.2.2.length:Int)=(f.2.1.length:Int) by omega),AYz (fun h=>Z (m.2 h))];grind;rw[q];have:¬ TI n (d::g):=by
    rintro⟨K,v,k2,R⟩;obtain⟨r,l',c,T,G,q3⟩:Tok.BT K:=by
     obtain⟨t,p,rfl⟩:∃ t p,K=t::p:=by cases K with
      |nil=>cases v
      |cons t p=>simp
     have u:=HK (k2 t (by simp));simp only[AZN,AZb]at v;rw[<- v.1,Gg,AZA j]at u;cases u;exact R.lM
    have hr0:r=d:=by subst T;simp only[AZN,AZb]at v;exact v.1.symm
    grind
   grind;rw[AYz j];have:¬ TI n (d::g):=fun h=>j (AD0 h (hm d rfl));grind
end Go.Pev.Pl
end
end
section
namespace Go.Pev.Pl.Tok
theorem T.join{u v:Int}{a b:List Tok}(e:T (.ver u::a))(f:T (.ver v::b))(hd:∀ x,Tok.ver x∈Tok.ver u::a->Tok.ver x∉Tok.ver v::b):
  T (.ver u :: .arc u v::(.ver v::b ++ .arc v u::a)):=by
 obtain⟨_,g,c⟩:=e.facts;obtain⟨_,i,d⟩:=f.facts;have o:=e.nodup;have H:=f.nodup;obtain⟨_,_,I,q,l,J⟩:=e.lM;cases q;obtain⟨_,_,c2,r,s,z⟩:=f.lM;cases r;have A:u≠v:=by grind
 have j:∀ t,t∈Tok.ver u::a->t∉Tok.ver v::b:=fun t B C=>hd _ (g t B) (i t C);have K:Tok.arc u v∉Tok.ver u::a:=fun h=>hd v (c _ _ h).2.1 (by simp);have L:Tok.arc u v∉Tok.ver v::b:=fun h=>hd u (by simp) (d _ _ h).1;have M:Tok.arc v u∉Tok.ver u::a:=fun h=>hd v (c _ _ h).1 (by simp);have N:Tok.arc v u∉Tok.ver v::b:=fun h=>hd u (by simp) (d _ _ h).2.1;have k:(Tok.ver u :: .arc u v::(.ver v::b ++ .arc v u::a)).Nodup:=by rw[AaA]at o;have O:Tok.ver u∉Tok.ver v::b:=j _ (by simp);rw[AaA,AaA,AbT,AaA (a:=Tok.arc v u)];grind
 rw[CY,II,AZ0]at l;obtain⟨D,m,E⟩:=Jf (Z:=(· = u)) (c2:=[v,u]) (low:=[u]) s (by simp) (fun y=>by simp) (fun p w n=>by grind) (by simp)
 obtain⟨F,P,Q⟩:=Jf (Z:=(·∈c2)) (c2:=D) (low:=[]) l (by simp) (fun y=>by rw[E];simp[or_comm]) (fun p w n G=>hd w (c _ _ (AaQ _ n)).2.1 (z w G)) (by simp)
 refine BT.toT ⟨u,_,F,rfl,?_,fun x R => ?_⟩ k;rw[CY,II,AZ0,CY,JY _ _ _ _ (by simp) (by grind),AZ0,J_];rw[show([v]++[u]:List Int)=[v,u]from rfl]at m;rw[m,AZ0,CY,Lr,AZ0];grind;grind
end Go.Pev.Pl.Tok
end
section
namespace Go.Pev
open Go.RowKit Go.ChangeShapes Go.WideShapes Go.ChangeAt
def RQ(P:Program)(rd:TypeId->Option Ty):List Field->Nat->Option Ty
 |[],_=>some .unit
 |f::r,off=>match rd f.type,RQ P rd r (off+P.cellsOf f.type)with
  |some a,some b=>match Nat.beq f.offset off&&Nat.beq (P.cellsOf f.type) a.size with
   |true=>some (.prod a b)
   |false=>none
  |_,_=>none
def It(P:Program):Nat->TypeId->Option Ty
 |0,_=>none
 |n+1,t=>match P.underlying t with
  |some .bool=>some .bool
  |some (.int k)=>some (.int k)
  |some (.slice e)=>match It P n e with
   |some a=>match Nat.beq (P.cellsOf e) a.size && !(Nat.beq a.size 0)with
    |true=>some (.slice a)
    |false=>none
   |none=>none
  |some (.array c e)=>match It P n e with
   |some a=>match Nat.beq (P.cellsOf e) a.size&&Nat.beq (P.cellsOf t) (c*a.size)with
    |true=>some (.arr c a)
    |false=>none
   |none=>none
  |some (.struct fs)=>match RQ P (It P n) fs.toList 0 with
   |some a=>match Nat.beq (P.cellsOf t) a.size with
    |true=>some a
    |false=>none
   |none=>none
  |_=>none
def wfD:(t:Ty)->t.den->Prop
 |.unit,_=>True
 |.bool,_=>True
 |.int k,n=>k.min<=n/\n<=k.max
 |.slice e,xs=>List.length (α:=e.den) xs<=maxLen/\∀ x∈(xs:List e.den),wfD e x
 |.prod a b,d=>wfD a d.1/\wfD b d.2
 |.arr n e,xs=>List.length (α:=e.den) xs=n/\∀ x∈(xs:List e.den),wfD e x
 |.nul _,_=>True
 |.mapi _ _,_=>True
section
variable {H:Type} {enc:TypeId×Value->H} {P:Program} {w:World} {spare:Nat->Bool} {held:Bool}
abbrev below(w:World):Nat->Prop:=fun b=>b<w.heap.size
theorem AVS{k:IntKind}{n:Int}(h:(Lit.int k n).wf=true):k.min<=n/\n<=k.max:=by simpa [Lit.wf]using h
theorem ACH{α:Type}{R:α->List Value->Prop}{k:Nat}:∀ (m:Nat) (f:Nat->List Value),(∀ i,i<m->(f i).length=k/\∃ x,R x (f i))->∃ xs:List α,xs.length=m/\rows R xs ((List.range m).flatMap f)/\∀ x∈xs,∃ i,i<m/\R x (f i):=by
 intro m;induction m with
  |zero=>intro f _;exact⟨[],rfl,rfl,fun x a=>by cases a⟩
  |succ m b=>intro f h;obtain⟨xs,c,d,e⟩:=b f fun i hi=>h i (by omega);obtain⟨_,x,a⟩:=h m (by omega);refine⟨xs++[x],by simp[c],?_,fun y g => ?_⟩;rw[AZo,AaS];exact KA d (by simp;exact⟨f m,[],by simp,a,rfl⟩);grind
theorem AOw{f:Nat->List Value}{k:Nat}:∀ (m:Nat),(∀ i,i<m->(f i).length=k)->∀ (j:Nat) (u:Value),((List.range m).flatMap f)[j]? = some u->∃ i r,i<m/\r<k/\j=i*k+r/\(f i)[r]? = some u:=by
 intro m;induction m with
  |zero=>simp
  |succ m d=>
   intro e j u h;rw[AZo,AaS]at h;have b:∀ a,a<=m->((List.range a).flatMap f).length=a*k:=by
    intro a g;induction a with
     |zero=>simp
     |succ a c=>rw[AZo,AaS,AZF,c (by omega)];grind
   rcases Aa7 j (m*k)with l|l;rw[Aau (by grind)]at h;obtain⟨i,r,n,o,p,q⟩:=d (fun i hi=>e i (by omega)) j u h;grind;rw[AZp (by grind),b m (AY8 _)]at h;grind
theorem AQS(a:Addr)(i j:Nat):(a.add i).add j=a.add (i+j):=by unfold Addr.add;grind
theorem ABb{α:Type}[Inhabited α]{n:Nat}{p:Nat->α->Prop}(h:∀ i,i<n->∃ x,p i x):∃ f:Nat->α,∀ i,i<n->p i (f i):=by classical refine⟨fun i=>if hi:i<n then Classical.choose (h i hi)else default,fun i hi => ?_⟩;grind
theorem xk{rd:TypeId->Option Ty}{cs:List Value}(i:∀ (f:Field) (a:Ty),rd f.type=some a->(P.cellsOf f.type=a.size)->(∃ y:Nat×(DataW H×List MemPlace),DataW.trod enc P w 0 spare held y.1 f.type ((cs.drop f.offset).take (P.cellsOf f.type))=some y.2)->∃ d:a.den,Dat w (below w) a d ((cs.drop f.offset).take (P.cellsOf f.type))/\wfD a d):
  ∀ (c:List Field) (off:Nat) (t:Ty),RQ P rd c off=some t->off+t.size=cs.length->(∀ f∈c,∃ y:Nat×(DataW H×List MemPlace),DataW.trod enc P w 0 spare held y.1 f.type ((cs.drop f.offset).take (P.cellsOf f.type))=some y.2) ->
   ∃ d:t.den,Dat w (below w) t d (cs.drop off)/\wfD t d:=by
 intro c;induction c with
  |nil=>
   intro off t h j _;simp only[RQ,AY1]at h;subst h;refine⟨(),?_,trivial⟩;show cs.drop off=[]
   simp[Ty.size]at j;grind
  |cons f r n=>intro off t h j m;simp only[RQ]at h;split at h;rename_i a b o p;split at h;rename_i k;simp only[AY1]at h;subst h;simp only[AY3]at k;have x:=AZl k.1;have q:=AZl k.2;obtain⟨d,hd,s⟩:=i f a o q (m f (by simp));simp only[Ty.size]at j;obtain⟨e,u,l⟩:=n (off+P.cellsOf f.type) b p (by omega) fun g v=>m g (by simp[v]);refine⟨(d,e),⟨(cs.drop off).take (P.cellsOf f.type),cs.drop (off+P.cellsOf f.type),?_,?_,u⟩,s,l⟩;rw[<- AaO,AaK];grind;grind;grind
theorem AKS:∀ (n:Nat) (t:TypeId) (ty:Ty) (l:Nat) (cs:List Value) (x:DataW H×List MemPlace),It P n t=some ty->DataW.trod enc P w 0 spare held l t cs=some x->∃ d:ty.den,Dat w (below w) ty d cs/\wfD ty d:=by
 intro n;induction n with
  |zero=>intro t ty l cs x h;cases h
  |succ n ih=>
   intro t ty l cs x h g;simp only[It]at h;split at h;rename_i o;simp only[AY1]at h;subst h;obtain⟨b,rfl,_⟩:=DataW.trod_bool o g;exact⟨b,rfl,trivial⟩;rename_i k o;simp only[AY1]at h;subst h;obtain⟨m,rfl,_,V⟩:=DataW.trod_int o g;exact⟨m,rfl,AVS V⟩;rename_i e o;split at h;rename_i a J;split at h;rename_i q;simp only[AY1]at h;subst h;rw[AY3]at q;have W:a.size≠0:=fun h0=>by simp_all
   have q:=AZl q.1;rcases DataW.trod_slice o g with⟨rfl,_⟩|⟨ad,len,cap,K,X,m,rfl,rfl,_,_,hle,Y,Z,L,_⟩
   exact⟨[],⟨none,0,rfl,AY8 _,fun D=>absurd rfl D⟩,AbR _,fun x g=>by cases g⟩;-- z element
   have z:∀ i,i<len->∃ s,w.cells? 0 (ad.add (i*P.cellsOf e)) (P.cellsOf e)=some s/\∃ d:a.den,Dat w (below w) a d s/\wfD a d:=by intro i hi;have v:=L i hi;rw[AZE (by omega),AaZ]at v;grind
   obtain⟨f,C⟩:=ABb (α:=List Value) (p:=fun i s=>w.cells? 0 (ad.add (i*P.cellsOf e)) (P.cellsOf e)=some s/\∃ d:a.den,Dat w (below w) a d s/\wfD a d) z;have E:∀ i,i<len->(f i).length=a.size:=by intro i hi;obtain⟨_,G,_⟩:=World.cells?_some (C i hi).1;omega
   obtain⟨xs,v,I,h3⟩:=ACH (R:=fun(d:a.den) cs=>Dat w (below w) a d cs/\wfD a d) (k:=a.size) len f fun i hi=>⟨E i hi,(C i hi).2⟩
   refine⟨xs,⟨some ad,cap,by rw[v],by omega,fun D=>⟨ad,(List.range len).flatMap f,rfl,?_,B' (fun x _ cs g=>g.1) I,fun j u o => ?_⟩⟩,by omega,fun x g => ?_⟩;-- the block is there
   have M:0<len:=by grind
   have N:=World.cells?_block (C 0 M).1 (by omega);rw[AbF]at N;have e0:ad.add 0=ad:=by simp[Addr.add]
   grind;obtain⟨i,r,hi,hr,rfl,O⟩:=AOw len E j u o;obtain⟨_,_,A⟩:=World.cells?_some (C i hi).1;have:=A r (by omega);rw[O]at this;rw[<- this,q,AQS];grind;grind;grind;rename_i c e o;split at h;rename_i a J;split at h;rename_i q;simp only[AY1]at h;subst h;rw[AY3]at q;have hc1:=AZl q.1;have Q:=AZl q.2;obtain⟨xs,m,rfl,_,G,S,F⟩:=DataW.trod_array o g;rw[Q]at G;obtain⟨ys,v,I,h3⟩:=ACH (R:=fun(d:a.den) cs=>Dat w (below w) a d cs/\wfD a d) (k:=a.size) c (fun i=>(cs.drop (i*a.size)).take a.size) fun i hi=>by
    have hi1:i*a.size+a.size<=c*a.size:=by have:=AZ1 a.size (show i+1<=c from hi);grind
    grind
   have B:∀ k,k<=c->(List.range k).flatMap (fun i=>(cs.drop (i*a.size)).take a.size)=cs.take (k*a.size):=by
    intro k;induction k with
     |zero=>simp
     |succ k T=>intro hk;rw[AZo,AaS,T (by omega),Aab,AbP,List.take_add];simp
   rw[B c (AY8 _),<- G,AZT]at I;exact⟨ys,⟨v,B' (fun x _ cs g=>g.1) I⟩,v,fun x g=>by grind⟩;grind;grind;rename_i fs o;split at h;rename_i a J;split at h;rename_i q;simp only[AY1]at h;subst h;have q:=AZl q;obtain⟨xs,m,rfl,_,G,S,F⟩:=DataW.trod_struct o g;obtain⟨d,hd,V⟩:=xk (enc:=enc) (w:=w) (spare:=spare) (held:=held) (cs:=cs) (fun f b N _ ⟨y,hy⟩=>ih f.type b y.1 _ y.2 N hy) fs.toList 0 _ J (by omega) (fun f C=>by
    obtain⟨i,hi⟩:=Aaz C;have v:=F i f (by grind);have U:i<xs.length:=by grind
    rw[AZE U]at v;exact⟨(m,xs[i]),v⟩)
   grind;grind;grind;grind
theorem zS{r:Reach}{c:Nat}{t:TypeId}{v:Value}(a:Value.okWide P w r c t v)(e:∀ d,P.underlying t=some d->(match d with|.bool|.int _|.slice _=>true|_=>false)=true){ty:Ty}{n:Nat}(h:It P (n+1) t=some ty):v.cells.toList=[v]:=by
 simp only[Value.okWide]at a;have b:∃ d,P.underlying t=some d:=by
  cases b:P.underlying t with
   |none=>simp only[It,b]at h;cases h
   |some d=>simp
 obtain⟨d,b⟩:=b;have:=e d b;rw[b]at a;cases d<;>simp only[AZH]at this<;>simp only[Cell.okWide,b]at a<;>cases v<;>first|rfl|(simp_all [Cell.ok])
theorem qE{r:Reach}{u:Nat}{t:TypeId}{v:Value}{x:List MemPlace}{dd:DataW H}(b:Value.okWide P w r u t v)(hd:DataW.Trod enc P w 0 spare held t v dd x){ty:Ty}{n:Nat}(h:It P (n+1) t=some ty):
  ∃ d:ty.den,Cm w (below w) ty d v/\wfD ty d:=by
 obtain⟨l,y⟩:=hd;obtain⟨d,p,z⟩:=AKS (n+1) t ty l _ _ h y;refine⟨d,?_,z⟩;have one:(∀ d,P.underlying t=some d->(match d with|.bool|.int _|.slice _=>true|_=>false)=true)->ty.isAgg=false->Cm w (below w) ty d v:=by intro A q;unfold Cm;rw[q];rw[zS b A h]at p;exact p
 have m:(∃ cs,v = .agg cs)->ty.isAgg=true->Cm w (below w) ty d v:=by rintro⟨cs,rfl⟩ q;unfold Cm;rw[q];exact⟨cs,rfl,p⟩
 have j:∃ d,P.underlying t=some d:=by
  cases j:P.underlying t with
   |none=>simp only[It,j]at h;cases h
   |some d=>simp
 obtain⟨C,j⟩:=j;simp only[It,j]at h;split at h;rename_i g;cases g;simp only[AY1]at h;subst h;exact one (fun d hd=>by grind) rfl;rename_i k g;cases g;simp only[AY1]at h;subst h;exact one (fun d hd=>by grind) rfl;rename_i e g;cases g;split at h;split at h;simp only[AY1]at h;subst h;exact one (fun d hd=>by grind) rfl;grind;grind;rename_i c e g;cases g;have s:∃ cs,v = .agg cs:=by simp only[Value.okWide,j]at b;grind
 split at h;split at h;simp only[AY1]at h;subst h;exact m s rfl;grind;grind;rename_i B g;cases g;have s:∃ cs,v = .agg cs:=by simp only[Value.okWide,j]at b;grind
 split at h;rename_i a i;split at h;simp only[AY1]at h;subst h;refine m s ?_;cases o:B.toList with
  |nil=>rw[o]at i;simp only[RQ,AY1]at i;subst i;rfl
  |cons f r=>rw[o]at i;simp only[RQ]at i;split at i;split at i;simp only[AY1]at i;subst i;rfl;grind;grind
 grind;grind;grind
theorem fJ{g:FuncId}{s:Spec}(n:BS P g s){args:List AV}{b:Bool}{e:Eff}(d:s (AV×Eff) args [] [] 0 (fun v e=>some (v,e))=some (.data .bool b,e)){a:List Value}
  (q:BD w (below w) (fun _=>none) [] args a) (f:AJ1 w (below w):=by intro p h;simp[nd]at h):Calls P g a.toArray w fun l w'=>l = .returned (.bool b)/\Below w.heap.size w w':=by
 obtain⟨v,z,m,_,_,r⟩:=n _ args [] [] 0 _ _ d;simp only[AY1,AZI]at m;obtain⟨rfl,rfl⟩:=m;have hi:HI w (below w) (fun _=>none) [] []:=⟨fun id o h=>by simp at h,fun i T e t xs ver out h=>by simp at h,fun i T e t xs ver out h=>by simp at h,fun i j b c b' c' _ _ _ h=>(nomatch h),fun i b c _ h=>(nomatch h),fun i T t xs b c h=>by simp at h,fun b h=>h,f,rfl⟩
 refine(r w _ _ a hi q).mono ?_;rintro l w' ⟨u,rfl,A,B,⟨k,_⟩,x⟩;have y:u = .bool b:=D5 x;subst y;exact⟨rfl,k.os,k.tape,k.output,k.size,fun i hi=>k.keep i hi fun j c _ h=>by cases h⟩
end
section
variable {H:Type} {enc:TypeId×Value->H} {P:Program}
theorem eQ{f:Func}{s:ChangeSpec}{apart i c k:Bool}{W m:World}{args:Array Value}{v:Value}{n o:List (DataW H)}{a pa pv:List MemPlace}
  (w:DataW.Whole enc P f.params.toList s.vars apart W args.toList n o a)
  (g:∀ (b:Nat) (l:Nat->Bool) (hd:Bool),DataW.TrodAll enc P m b l hd f.resultTypes.toList (v.resultList f.resultTypes.size) (s.fn H (n++o)).results [])
  (d:∀ l:Nat->Bool,(∀ p∈a,l p.block=true)->DataW.TrodAll enc P m 0 l true f.params.toList args.toList (s.fn H (n++o)).args pa)
  (e:∀ l:Nat->Bool,(∀ p∈a,l p.block=true)->DataW.TrodVars enc P m l s.vars (s.fn H (n++o)).vars pv)
  (A:a=pa++pv) (z:Below W.heap.size W m)
  (x:∀ (j:Nat) (t:TypeId) (r:Value),f.resultTypes[j]? = some t->(v.resultList f.resultTypes.size)[j]? = some r->Value.okWide P m .any 0 t r) :
  s.post enc P f apart i c k W args v m:=by
 have y:∀ p∈a,p.block<W.heap.size:=fun p q=>w.lt p q;have h:∀ p∈a,(fun b=>decide (b<W.heap.size)) p.block=true:=fun p q=>by grind
 refine⟨n,o,a,[],pa,pv,w,g _ _ _,d _ h,e _ h,World.keptBut_mono (fun p q=>⟨q,?_⟩) (z.frame (·∈a)),fun _ => ?_⟩
 grind
 ·obtain⟨_,_,_,_,_,B,C⟩:=w;refine⟨x,_,_,([]++pa)++pv,⟨[]++pa,pv,trodAll_append (d _ (fun _ _=>rfl)) (g _ _ _),e _ (fun _ _=>rfl),rfl,?_,?_⟩,?_⟩;intro b off q;have u:MemPlace.cell b off∈a:=by grind
  rw[z.frozen (y _ u)];exact B b off u;all_goals grind
theorem Z0{t:TypeId}(f:laidOutB P=true)(g:P.readableRec t=true)(a:t<P.types.size){W e:World}{v:Value}{d:DataW H}{b:List MemPlace}
  (h:DataW.Trod enc P W 0 (fun _=>true) true t v d b) (i:Below W.heap.size W e) (c:∀ x∈b,x.block<W.heap.size) {sp:Nat->Bool} (j:∀ x∈b,sp x.block=true) :
  DataW.Trod enc P e 0 sp true t v d b:=
 WideElems.Trod_stays f g a h (fun x k=>i.same (c x k)) j
end
end Go.Pev
end
section
section
namespace Go.Pev.Pl
open Tok
theorem Oi{n u v:Int}(h:okT n (.arc u v)):okT n (.arc v u):=⟨h.2.1,h.1,Aal h.2.2⟩
end Go.Pev.Pl
end
section
namespace Go.Pev.Pl
open Tok
theorem AXU(n t:Int):TI n [t]↔In n t:=by
 constructor;rintro⟨L,a,c,d⟩;rcases d.leaf with⟨v,e⟩|⟨x,v,r,f⟩
 subst e;simp only[AZN,Aa6,AZb,AbZ]at a;rw[a];exact c (.ver v) (by simp);have g:=f.length;have i:=AaB List.length a;grind;intro h;exact⟨[.ver t],rfl,fun x b=>by simp at b;subst b;exact h,T.one t⟩
theorem AXV(n:Int):¬ TI n []:=by rintro⟨L,b,c,a⟩;have:=a.facts.1;simp_all
end Go.Pev.Pl
end
section
namespace Go.Pev.Pl
open Tok
def RG(n:Int)(xs:List Int):Prop:=Rt xs/\xs≠[]/\Ol xs=xs.headD 0/\TI n xs
def okR(n:Int):List Int->Int->List (List Int)->Prop
 |_,_,[]=>True
 |seen,last,l::ls=>RG n l/\last<l.headD 0/\(∀ t∈l,t<n->t∉seen)/\okR n (seen++l.filter (fun t=>decide (t<n))) (l.headD 0) ls
def RF(n:Int)(a:List (List Int)):Prop:=Sz n/\okR n [] (-1) a/\∀ v,0<=v->v<n->v∈a.flatten
noncomputable instance (n:Int) (rings:List (List Int)):Decidable (RF n rings):=Classical.propDecidable _
noncomputable instance (n:Int) (xs:List Int):Decidable (RG n xs):=Classical.propDecidable _
def MI(n:Int)(b:List (Int×Int))(a:List Int):Prop:=∀ t,t<n->(A8 b t).getD (0:Int)=if t∈a then 1 else 0
theorem lK(n:Int)(l:List Int)(S:l.length<1073741824)(A:List (List Int))(B:Int)(C:List (List Int))(D E:Int)(F:List Int)(G H:Int)(f:Bool)(g:List Int)(h i:Bool)(j:List Int)(o:Int)(p:List Int)(q:Int)(r:Bool)(s:Int)(u:List Int)(v w:Bool):
  ∀ (m k cnt:Nat) (b:List (Int×Int)) (a:List Int),k+m=l.length->MI n b a->(l.drop k).Nodup->m<cnt ->
  ((∀ t∈l.drop k,t<n->t∉a)/\∃ d,BA JV cnt (n,A,b,B,C,D,E,F,G,H,f,g,h,i,j,o,p,q,r,s,u,v,w,l,(l.length:Int),(k:Int),()) =
    some (.inr (.inl (n,A,d,B,C,D,E,F,G,H,f,g,h,i,j,o,p,q,r,s,u,v,w,())))/\MI n d (a++(l.drop k).filter (fun t=>decide (t<n)))) \/
  (¬ (∀ t∈l.drop k,t<n->t∉a)/\BA JV cnt (n,A,b,B,C,D,E,F,G,H,f,g,h,i,j,o,p,q,r,s,u,v,w,l,(l.length:Int),(k:Int),())=some (.inl (false,()))):=by
 intro m;induction m with
  |zero=>
   intro k cnt b a O z I P;obtain⟨cnt,rfl⟩:∃ c,cnt=c+1:=⟨cnt-1,by omega⟩
   have e:l.drop k=[]:=AbQ (by omega);rw[e];refine .inl ⟨by simp,b,?_,by grind⟩;rw[BA,JV,A4,AYz (by omega)]
  |succ m T=>
   intro k cnt b a O z I P;obtain⟨cnt,rfl⟩:∃ c,cnt=c+1:=⟨cnt-1,by omega⟩
   have x:k<l.length:=by omega
   have e:l.drop k=l.getD k 0::l.drop (k+1):=by simp_all
   rw[BA,JV,A4,AY0 x];simp only[Cd (0:Int) x];rw[e]at I |-;generalize l.getD k 0=t at *;rw[AaA]at I;rw[A6 (by omega),BG];by_cases J:t<n;rw[AY0 J];have K:=z t J;simp only[K,BG];by_cases Q:t∈a;grind;rw[AY7 Q,AYz (by omega)];simp only[];have R:w64 ((0:Int)+1)=1:=by rw[BI (by omega)];rfl
   rw[R];have L:MI n (BC b t 1) (a++[t]):=by intro y M;rw[Gl];by_cases N:y=t;simp[N];simp only[N,AZL,AY5,AZW,or_false];exact z y M
   grind;rw[AYz J];simp only[];have L:MI n (BC b t (w64 (((A8 b t).getD (0:Int))+(1:Int)))) a:=by intro y M;rw[Gl,AY7 (by omega)];exact z y M
   grind
theorem Z1(n:Int)(a:List (List Int))(D:a.length<1073741824)(J:∀ l∈a,l.length<9223372036854775808/\∀ x∈l, -9223372036854775808<=x/\x<=9223372036854775807):
  ∀ (k:List (List Int)) (i cnt:Nat) (f:List (Int×Int)) (b:Int) (d:List Int),a.drop i=k->i<=a.length->MI n f d->k.length<cnt ->
  (okR n d b k/\∃ g j,BA HJ cnt (n,a,f,b,a,(a.length:Int),(i:Int),())=some (.inr (.inl (n,a,g,())))/\MI n g j/\∀ v,v∈j↔v∈d\/(v<n/\v∈k.flatten)) \/
  (¬ okR n d b k/\BA HJ cnt (n,a,f,b,a,(a.length:Int),(i:Int),())=some (.inl (false,()))):=by
 have u:4294967296<many:=by simp only[many];omega
 intro k;induction k with
  |nil=>
   intro i cnt f b d hd hi w E;obtain⟨cnt,rfl⟩:∃ c,cnt=c+1:=⟨cnt-1,by omega⟩
   have:a.length<=i:=by grind
   refine .inl ⟨trivial,f,d,?_,w,by simp⟩;rw[BA,HJ,A4,AYz (by omega)]
  |cons l k K=>
   intro i cnt f b d hd hi w E;simp only[AZC]at E;obtain⟨cnt,rfl⟩:∃ c,cnt=c+1:=⟨cnt-1,by omega⟩
   have o:i<a.length:=by grind
   rw[AZh o]at hd;simp only[AZb]at hd;obtain⟨L,z⟩:=hd;have F:a[i]? = some l:=by grind
   have p:l∈a:=AY9 F;obtain⟨G,A⟩:=J l p;rw[BA,HJ,A4,AY0 o,okR];simp only[BB F,BL];cases l with
    |nil=>rw[A9,AY0 (by simp)];exact .inr ⟨fun h=>h.1.2.1 rfl,rfl⟩
    |cons x e=>
     rw[A9,AYz (by grind)];have M:idx (x::e) (0:Int)=some x:=by rw[O1];rfl
     simp only[M,Abk,BQ];by_cases N:x<=b;grind
     ·rw[AYz N];simp only[RN];by_cases c2:Rt (x::e)
      ·rw[AY0 c2];have G:(x::e).length<1073741824:=by have:=c2.1;omega
       simp only[AY4,tK (x::e) (by simp) (by omega)];by_cases r:Ol (x::e)=x
       ·rw[AY0 r];simp only[AY4];rw[AOe n (x::e) (by simp) (by omega) A c2.2.2 (fun y Q=>by grind)];by_cases s:TI n (x::e)
        ·rw[AY0 s];simp only[AY4,BO];have B:RG n (x::e):=⟨c2,by simp,r,s⟩
         rcases lK n (x::e) G a x a (a.length:Int) (i:Int) (x::e) x b false (x::e) true false (x::e) (Ol (x::e)) (x::e) x false n (x::e) true false (x::e).length 0 many f d (by omega) w (by rw[Aa1];exact c2.2.2) (by omega)with⟨q1,g,q2,q3⟩|⟨q1,q2⟩
         ·rw[Aa1]at q1 q3;have C:BA JV many (n,a,f,x,a,(a.length:Int),(i:Int),x::e,x,b,false,x::e,true,false,x::e,Ol (x::e),x::e,x,false,n,x::e,true,false,x::e,((x::e).length:Int),(0:Int),())=_:=q2;simp only[C,A6 (show i+1<9223372036854775808 by omega)];rcases K (i+1) cnt g x (d++(x::e).filter (fun t=>decide (t<n))) z (by omega) q3 (by omega)with⟨H,q,m,I,O,P⟩|⟨H,I⟩
          ·refine .inl ⟨⟨B,by omega,q1,H⟩,q,m,I,O,fun v => ?_⟩;rw[P,AY5,AZS,Abu,AY5];simp only[AY2];constructor;all_goals grind
          grind
         grind
        rw[AYz s];exact .inr ⟨fun h=>s h.1.2.2.2,rfl⟩
       rw[AYz r];exact .inr ⟨fun h=>r h.1.2.2.1,rfl⟩
      rw[AYz c2];exact .inr ⟨fun h=>c2 h.1.1,rfl⟩
theorem RB(n:Int)(a:List (List Int))(g:a.length<1073741824)(r:∀ l∈a,l.length<9223372036854775808/\∀ x∈l, -9223372036854775808<=x/\x<=9223372036854775807):
  Mz ((n,(a,())),())=some (decide (RF n a),()):=by
 have m:4294967296<many:=by simp only[many];omega
 rw[gl,Z2];simp only[Mx];by_cases j:Sz n;rw[AY0 j];simp only[AY4,BO,A9];rcases Z1 n a g r a 0 many [] (-1) [] (by simp) (by omega) (fun t _=>by simp[A8]) (by omega)with⟨o,c,b,p,s,A⟩|⟨o,p⟩
 have d:BA HJ many (n,a,[], -1,a,(a.length:Int),(0:Int),())=_:=p;simp only[d];obtain⟨u,w⟩:=j;obtain⟨N,rfl⟩:=AY6 (show 0<=n by omega)
 have e:=ALS (step:=JU) (fun i=>(c,(N:Int),(i:Int),())) N (fun i=>decide ((i:Int)∉b)) (fun _=>.inl (false,())) (.inr (.inl ())) (by omega)
  (fun i hi=>by
   have:=s (i:Int) (by omega)
   rw[JU,A4,AY0 hi]
   simp only[this,BL]
   by_cases h:(i:Int)∈b
   ·simp only[h,AZa,not_true]
    rw[A6 (by omega)];simp
   grind)
  (by rw[JU,A4,AYz (by omega)])
 rw[BO]at e;have B:∀ v,v∈b↔(v<(N:Int)/\v∈a.flatten):=fun v=>by grind
 rcases e with⟨k,y,C,_,q⟩|⟨y,q⟩
 have f:BA JU many (c,(N:Int),(0:Int),())=_:=q;rw[f,AYz];rintro⟨_,_,h⟩;grind;have f:BA JU many (c,(N:Int),(0:Int),())=_:=q;rw[f,AY0];refine⟨⟨u,w⟩,o,fun v z D => ?_⟩;obtain⟨k,rfl⟩:=AY6 z;grind;have d:BA HJ many (n,a,[], -1,a,(a.length:Int),(0:Int),())=_:=p;simp only[d];rw[AYz (fun h=>o h.2.1)];rw[AYz j,AYz (fun h=>j h.1)];rfl
end Go.Pev.Pl
end
section
namespace Go.Pev.Pl
open Tok
theorem UK{n:Int}{l:List Int}(h:RG n l):In n (l.headD 0):=by
 obtain⟨c,d,a,b⟩:=h;cases l with
  |nil=>grind
  |cons x l=>exact AD0 b a
theorem ASr{n:Int}(f:1<=n):∀ {c:List (List Int)} {b:List Int} {a:Int},okR n b a c->-1<=a->a<n->(c.length:Int)<=n-1-a:=by
 intro c;induction c with
  |nil=>grind
  |cons l c g=>intro b a ⟨d,h,i,j⟩ k e;have m:=(UK d).2.2;grind
end Go.Pev.Pl
end
section
namespace Go.Pev.Pl
open Tok
def hd(l:List Int):Int:=l.headD 0
def Dis(n:Int)(a b:List Int):Prop:=∀ t∈a,t<n->t∉b
structure FR(n:Int)(rings:List (List Int)):Prop where
 sz:Sz n
 rg:∀ l∈rings,RG n l
 up:rings.Pairwise (fun a b=>hd a<hd b)
 dis:rings.Pairwise (Dis n)
 cov:∀ v,In n v->∃ l∈rings,v∈l
theorem Dis.symm{n:Int}{a b:List Int}(h:Dis n a b):Dis n b a:=fun t c d e=>h t e d c
theorem ACs{n:Int}:∀ {f:List (List Int)} {c:List Int} {d:Int},okR n c d f↔(∀ l∈f,RG n l/\d<hd l/\∀ t∈l,t<n->t∉c)/\f.Pairwise (fun a b=>hd a<hd b)/\f.Pairwise (Dis n):=by
 intro f;induction f with
  |nil=>intro c d;simp[okR]
  |cons l f s=>intro c d;rw[okR,s,AZj,AZj];constructor;rintro⟨j,m,o,p,q,u⟩;refine⟨fun k e => ?_,⟨fun k e=>(p k e).2.1,q⟩,⟨fun k e t r g v => ?_,u⟩⟩;rcases AZJ.1 e with rfl|e;exact⟨j,m,o⟩;grind;grind;rintro⟨j,⟨m,o⟩,⟨p,q⟩⟩;obtain⟨w,x,y⟩:=j l (by simp);refine⟨w,x,y,fun k e => ?_,o,q⟩;obtain⟨z,A,B⟩:=j k (by simp[e]);refine⟨z,m k e,fun t r g i => ?_⟩;simp only[AY5,AZS]at i;rcases i with h|h;grind;exact p k e t h.1 g r
theorem dW{n:Int}{a:List (List Int)}:RF n a↔FR n a:=by constructor;rintro⟨c,d,e⟩;obtain⟨g,i,j⟩:=ACs.1 d;refine⟨c,fun l b=>(g l b).1,i,j,fun v f => ?_⟩;obtain⟨l,b,h⟩:=List.mem_flatten.1 (e v f.2.2.1 f.2.2.2);grind;rintro⟨c,d,e,k,m⟩;refine⟨c,ACs.2 ⟨fun l b=>⟨d l b,?_,by simp⟩,e,k⟩,fun v o p => ?_⟩;have:=(UK (d l b)).2.2.1;show(-1:Int)<l.headD 0;omega;obtain⟨l,b,h⟩:=m v ⟨c.1,c.2,o,p⟩;exact List.mem_flatten.2 ⟨l,b,h⟩
theorem qY{ys c:List (List Int)}(d:c.Pairwise (fun a b=>hd a<hd b))(g:ys.Perm c)(k:ys.Pairwise (fun a b=>¬ hd b<hd a)):ys=c:=by
 have f:∀ a∈c,∀ b∈c,hd a=hd b->a=b:=by intro a l b m e;refine AaR fun n => ?_;obtain⟨i,hi,rfl⟩:=AZv l;obtain⟨j,o,rfl⟩:=AZv m;rw[AaH]at d;grind
 refine AaW (le:=fun a b=>¬ hd b<hd a) ?_ k ?_ g;grind;exact d.imp fun h=>by omega
def plc(a:List (List Int))(v:Int):Int:=if a.any (fun l=>decide (v∈l))then((a.findIdx (fun l=>decide (v∈l)):Nat):Int)else -1
theorem RC(n:Int)(a:List (List Int))(v:Int)(b:a.length<1073741824)(d:∀ l∈a,l.length<9223372036854775808):VV ((n,(a,())),v,())=some (plc a v,()):=by
 rw[gn,Z4,LA,HZ]
 have e:=Q0 (step:=Dr) (fun i=>(v,a,A3 a,(i:Int),())) a (fun l=>decide (v∈l)) (fun i=>.inl (v,(i:Int),())) (.inr (.inl (v,()))) (by omega)
  (fun i l hi c=>by
   have g:=d l (AY9 c)
   rw[Dr,A9,A4,AY0 hi]
   simp only[BB c,H3 l v (by omega)]
   rw[A6 (by omega)]
   grind)
  (by rw[Dr,A9,A4,AYz (by omega)])
 have f:A_ Dr many (v,a,A3 a,(0:Int),())=_:=e;simp only[f,plc];grind
theorem Vz{a:List (List Int)}{v:Int}(h:∃ l∈a,v∈l):∃ k l,plc a v=((k:Nat):Int)/\a[k]? = some l/\v∈l/\k<a.length:=by obtain⟨l,c,e⟩:=h;have b:a.any (fun l=>decide (v∈l))=true:=AbG.2 ⟨l,c,by grind⟩;have d:a.findIdx (fun l=>decide (v∈l))<a.length:=Aa5.2 ⟨l,c,by grind⟩;refine⟨_,a[a.findIdx (fun l=>decide (v∈l))],by rw[plc,AZA b],by simp,?_,d⟩;grind
theorem FR.uniq{n:Int}{c:List (List Int)}(h:FR n c){i j:Nat}{a b:List Int}{v:Int}(hi:c[i]? = some a)(m:c[j]? = some b)(f:v<n)(k:v∈a)(l:v∈b):i=j:=by obtain⟨d,rfl⟩:=AZM.1 hi;obtain⟨e,rfl⟩:=AZM.1 m;have hd:=AaH.1 h.dis;rcases AbU i j with g|g|g;exact absurd l (hd i j d e g v k f);exact g;exact absurd k (hd j i e d g v l f)
theorem FR.xx{n:Int}{b:List (List Int)}(h:FR n b){k:Nat}{a:List Int}{v:Int}(c:b[k]? = some a)(f:v<n)(d:v∈a):plc b v=(k:Int):=by obtain⟨j,l,e,g,i,_⟩:=Vz ⟨a,AY9 c,d⟩;rw[e,h.uniq g c f i d]
theorem ca{α:Type}{l:List α}{i:Nat}{a:α}(h:l[i]? = some a):l.Perm (a::l.eraseIdx i):=by
 obtain⟨hi,rfl⟩:=AZM.1 h;rw[List.eraseIdx_eq_take_drop_succ];conv=>lhs;rw[<- AaK i l,AZh hi]
 exact List.perm_middle
theorem Xy{α:Type}{l:List α}{i j:Nat}{a b:α}(c:i<j)(hi:l[i]? = some a)(d:l[j]? = some b):l.Perm (a::b::(l.eraseIdx j).eraseIdx i):=by
 have e:=ca d;have f:(l.eraseIdx j)[i]? = some a:=by grind
 exact e.trans (((ca f).cons b).trans (List.Perm.swap a b _))
theorem AGm{n:Int}{t:Tok}(h:okT n t):0<=Ib n t/\Ib n t<=4160/\Ib n t<n*(n+1):=by
 cases t with
  |ver v=>obtain⟨a,b,c,d⟩:=h;have:n*1<=n*(n+1):=Int.mul_le_mul_of_nonneg_left (by omega) (by omega);simp only[Ib];omega
  |arc u v=>
   obtain⟨a,b,_⟩:=h;obtain⟨f,g,_⟩:=ZO a b;have i:=NA (u:=n+1-1) a.1 a.2.1 (by have:=a.1;omega) (by have:=a.2.1;omega);have e:n*(n+1)=n*(n+1-1)+n:=by grind
   have:=a.1;have:=a.2.1;simp only[Ib];omega
theorem AWS{n:Int}{t:Tok}(h:okT n t):Sz n:=by
 cases t with
  |ver v=>exact⟨h.1,h.2.1⟩
  |arc u v=>exact⟨h.1.1,h.1.2.1⟩
theorem Q_:∀ {L:List Tok},L.Nodup->(N9 L).Nodup
 |[],_=>by simp[N9]
 |.ver v::L,h=>by rw[AaA]at h;rw[N9,AaA];exact⟨fun a=>h.1 (S9.1 a),Q_ h.2⟩
 |.arc _ _::L,h=>by rw[AaA]at h;rw[N9];exact Q_ h.2
theorem AVP{n:Int}{xs:List Int}(h:TI n xs):Rt xs:=by
 obtain⟨L,rfl,c,d⟩:=h;have i:=d.nodup;refine⟨?_,fun x f => ?_,?_⟩;obtain⟨v,r,j⟩:=d.uw;have l:Sz n:=AWS (c (.ver v) ((j.mem _).2 (by simp)));have q:=d.len;have s:=Ht (a:=N9 L) (b:=(List.range n.toNat).map (fun(k:Nat)=>(k:Int))) (Q_ i) fun x f=>by have:=c _ (S9.1 f);have u:=this.2.2;rw[AZG];exact⟨x.toNat,by grind,by omega⟩
 have w:=l.2;grind;obtain⟨t,m,rfl⟩:=AZG.1 f;have:=AGm (c t m);omega;rw[List.Nodup,AaN];exact i.imp_of_mem fun o p g e=>g (Tt (c _ o) (c _ p) e)
def AJz(a b:List Int):Prop:=∃ x y,a=x++y/\b=y++x
theorem AJz.perm{a b:List Int}(h:AJz a b):a.Perm b:=by obtain⟨x,y,rfl,rfl⟩:=h;grind
theorem AQX{n:Int}{a b:List Int}(h:TI n a)(r:AJz a b):TI n b:=by obtain⟨L,e,f,g⟩:=h;obtain⟨x,y,rfl,rfl⟩:=r;obtain⟨c,d,rfl,i,j⟩:=List.map_eq_append_iff.1 e.symm;refine⟨d++c,by grind,fun t k=>f t ?_,T.rot c d g⟩;grind
theorem Et{xs:List Int}{t:Int}(h:t∈xs):AJz xs (DK xs t):=by obtain⟨a,b,c,_,d⟩:=aa h;exact⟨a,t::b,c,by rw[d]⟩
theorem AGt{xs ys:List Int}(h:xs.Perm ys)(a:xs≠[]):Ol ys=Ol xs:=by obtain⟨b,c⟩:=HU a;exact ASw (h.mem_iff.1 b) fun x d=>c x (h.mem_iff.2 d)
theorem xy{xs:List Int}(b:Rt xs)(a:xs≠[]):AJz xs (plain xs):=by rw[plain,AZA ⟨b,a⟩];exact Et (HU a).1
theorem AVO{n:Int}{xs:List Int}(h:TI n xs):xs≠[]:=by rintro rfl;exact AXV n h
theorem ve{n:Int}{xs:List Int}(h:TI n xs):RG n (plain xs)/\AJz xs (plain xs):=by have g:=AVP h;have c:=AVO h;have d:=xy g c;have f:=AQX h d;refine⟨⟨AVP f,AVO f,?_,f⟩,d⟩;rw[AGt d.perm c];obtain⟨a,b,_,e⟩:=ay g c;grind
theorem vc{n:Int}{xs:List Int}(h:TI n xs){t:Tok}(e:okT n t)(d:Ib n t∈xs):∃ a,DK xs (Ib n t)=(t::a).map (Ib n)/\T (t::a)/\(∀ y∈t::a,okT n y):=by
 have f:=AQX h (Et d);obtain⟨a,b,j,k,g⟩:=aa d;obtain⟨L,c,i,l⟩:=f;rw[g,AZe]at c;cases L with
  |nil=>cases c
  |cons t' L=>simp only[AZN,AZb]at c;have:=Tt e (i t' (by simp)) c.1;grind
end Go.Pev.Pl
end
section
namespace Go.Pev.Pl
open Go.RowKit Tok
theorem E1(a:Int):ieq a a=true:=by rw[B1];simp
def Dom(a:List (List Int)):Prop:=a.length<1073741824/\∀ l∈a,l.length<9223372036854775808/\∀ x∈l, -9223372036854775808<=x/\x<=9223372036854775807
theorem FR.dom{n:Int}{a:List (List Int)}(h:FR n a):Dom a:=by have b:=dW.2 h;have e:=ASr h.sz.1 b.2.1 (by omega) (by have:=h.sz.1;omega);have f:=h.sz.2;refine⟨by omega,fun l c => ?_⟩;have:=(h.rg l c).1;exact⟨by have:=this.1;omega,fun x d=>by have:=this.2.1 x d;omega⟩
theorem nW{l:List Int}(h:l≠[]):hd l∈l:=by
 cases l with
  |nil=>grind
  |cons x l=>simp[hd]
end Go.Pev.Pl
end
section
namespace Go.Pev.Pl
open Tok
def FG(n:Int)(xs:List Int):List Int:=xs.filter fun t => !decide (n<=t)
noncomputable def AUk(n:Int)(a:List (List Int))(ok:Bool):Int:=if RF n a then if ok then 0 else 10 else 1
theorem ABE(n:Int)(a:List (List Int))(xs:List Int)(c:xs.length<9223372036854775808):Fs (xs,n,a,())=some (n,a,xs.any (fun x=>decide (x<0)||decide (n<=x)),()):=by
 rw[Kb,Gy,LB,Ha]
 have e:=Q0 (step:=Ds) (fun i=>(n,a,xs,A3 xs,(i:Int),())) xs (fun x=>decide (x<0)||decide (n<=x)) (fun i=>.inl (n,a,(i:Int),())) (.inr (.inl (n,a,()))) c
  (fun i x hi d=>by
   rw[Ds,A9,A4,AY0 hi]
   simp only[BB d,BG,BQ]
   rw[A6 (by omega)]
   grind)
  (by rw[Ds,A9,A4,AYz (by omega)])
 have f:A_ Ds many (n,a,xs,A3 xs,(0:Int),())=_:=e;rw[f];generalize (xs.any fun x=>decide (x<0)||decide (n<=x))=b;cases b<;>simp[BQ]
theorem AXW{n v:Int}(a:Sz n):(decide (v<0)||decide (n<=v)) = !decide (In n v):=by
 by_cases h:In n v;obtain⟨_,_,b,c⟩:=h;simp[In,a.1,a.2,b,c];have:v<0\/n<=v:=by refine AaR fun d=>h ⟨a.1,a.2,by omega,by omega⟩
 grind
theorem cT(n:Int)(a:List (List Int))(xs:List Int)(b:Dom a)(c:xs.length<9223372036854775808):R0 ((n,(a,())),xs,())=some (AUk n a (xs.all fun v=>decide (In n v)),()):=by
 rw[jW,cU];simp only[RB n a b.1 b.2,ABE n a xs c,AUk];by_cases h:RF n a;have d:(xs.any fun x=>decide (x<0)||decide (n<=x)) = !(xs.all fun v=>decide (In n v)):=by rw[List.not_all_eq_any_not];congr 1;funext x;exact AXW h.1
 grind;grind
def Qp(n:Int)(A:List Int):List Int:=((List.range n.toNat).map fun(k:Nat)=>(k:Int)).filter fun v=>decide (v∈A)
theorem AES{n:Int}{A:List Int}(v:Int):v∈Qp n A↔0<=v/\v<n/\v∈A:=by rw[Qp,AZS,AZG,AY2];constructor;grind;rintro⟨b,c,a⟩;exact⟨⟨v.toNat,by grind,by omega⟩,a⟩
theorem qA(n:Int)(A:List Int):(Qp n A).Pairwise (· < ·):=by rw[Qp];refine Aay _ ?_;rw[AaN];exact List.pairwise_lt_range.imp fun h=>by omega
theorem AHZ{n:Int}{A:List Int}(h:RG n A):(FG n A).Perm (Qp n A):=by
 have a:(FG n A).Nodup:=h.1.2.2.filter _;have b:(Qp n A).Nodup:=(qA n A).imp fun h=>by omega
 exact(Aap a b).2 fun v=>by rw[AES,FG,AZS];simp only[AaG,AZc];constructor;rintro⟨c,d⟩;have:=(h.1.2.1 v c).1;grind;grind
end Go.Pev.Pl
end
section
namespace Go.Pev.Pl.SG
open Go.Sort
structure SP(α β:Type)where
 z:α
 c:α×α×Unit->Option (β×Unit)
 t:β->Bool
 ok:α->Prop
 okz:α
 WK:ok okz
 lt:α->α->Bool
 swo:SWO lt
 R7:∀ {x y:α},ok x->ok y->∃ r,c (x,y,())=some (r,())/\t r=lt x y
variable {α β:Type} {S:SP α β}
abbrev EL{α β:Type}(S:SP α β):={x:α // S.ok x}
instance:Inhabited (EL S):=⟨⟨S.okz,S.WK⟩⟩
def rep(d:Array (EL S)):List α:=d.toList.map Subtype.val
theorem Bv{d:Array (EL S)}{n:Nat}(h:n<d.size):idx (rep d) (n:Int)=some (d[n]!).val:=by rw[idx_eq,cJ,AY7 (by omega)];simp[rep,h]
theorem CU{d:Array (EL S)}{n:Nat}{z:α}(h:n<d.size):A7 (rep d) (A2 (n:Int)) z=(d[n]!).val:=by simp[A7,A2,rep,h]
theorem LI{d:Array (EL S)}{n:Nat}{x:(EL S)}:Bb (rep d) (A2 (n:Int)) x.val=rep (d.setIfInBounds n x):=by simp[Bb,A2,rep,List.map_set]
theorem ADi{d:Array (EL S)}:A3 (rep d)=(d.size:Int):=by simp[A3,rep]
def ltX(x y:(EL S)):Bool:=S.lt x.val y.val
theorem AKu:SWO (ltX (S:=S)):=⟨fun x=>S.swo.irrefl x.val,fun x y z=>S.swo.trans x.val y.val z.val,fun x y z=>S.swo.ntrans x.val y.val z.val⟩
noncomputable def AYW(x y:(EL S)):β:=(S.R7 x.property y.property).choose
theorem Dq(x y:(EL S)):S.c (x.val,y.val,())=some (AYW x y,()):=(S.R7 x.property y.property).choose_spec.1
theorem En(x y:(EL S)):S.t (AYW x y)=ltX x y:=(S.R7 x.property y.property).choose_spec.2
theorem ATW(a b i:Nat):∀ (j:Nat) (d:Array (EL S)) (n:Nat),j<d.size->d.size<4611686018427387904->j<n ->
  BA (ZJ S.z S.c S.t) n ((rep d),(a:Int),(b:Int),(i:Int),(j:Int),())=some (.inl ((rep (insInner ltX a j d)),(a:Int),(b:Int),(i:Int),())):=by
 intro j;induction j with
  |zero=>
   intro d n f g h;obtain⟨n,rfl⟩:∃ k,n=k+1:=⟨n-1,by omega⟩
   have l:ilt (a:Int) ((0:Nat):Int)=false:=by rw[A4];simp
   simp only[BA,ZJ,l,insInner]
  |succ j m=>
   intro d n f g h;obtain⟨n,rfl⟩:∃ k,n=k+1:=⟨n-1,by omega⟩
   have o:w64 (((j+1:Nat):Int)-1)=(j:Int):=by rw[BI (by omega)];omega
   have e:j<d.size:=by omega
   simp only[BA,ZJ,A4,o,Bv f,Bv e,CU f,CU e,Dq,En,insInner,gt_iff_lt];by_cases p:a<j+1;cases q:ltX d[j+1]! d[j]!;grind;simp only[p,AZD,q,Aaj,AZa,LI];rw[Bv (by grind)];simp only[Lq];exact m (swp d (j+1) j) n (by rw[size_swp];omega) (by rw[size_swp];omega) (by omega);grind
theorem LS(lt:(EL S)->(EL S)->Bool)(a j:Nat)(d:Array (EL S)):(insInner lt a j d).size=d.size:=by
 induction j generalizing d with
  |zero=>rfl
  |succ j b=>rw[insInner];split;rw[b,size_swp];rfl
theorem AN2(a b:Nat):∀ (k i:Nat) (d:Array (EL S)) (n:Nat),b-i=k->b<=d.size->d.size<4611686018427387904->d.size<many->k<n ->
  BA (ZK S.z S.c S.t) n ((rep d),(a:Int),(b:Int),(i:Int),())=some (.inl ((rep (insOuter ltX a b i d)),())):=by
 intro k;induction k with
  |zero=>
   intro i d n g h f j l;obtain⟨n,rfl⟩:∃ k,n=k+1:=⟨n-1,by omega⟩
   have e:¬ i<b:=by omega
   rw[insOuter];simp only[BA,ZK,A4,e,AZQ,AZL]
  |succ k m=>
   intro i d n g h f j l;obtain⟨n,rfl⟩:∃ k,n=k+1:=⟨n-1,by omega⟩
   have e:i<b:=by omega
   have o:w64 ((i:Int)+1)=((i+1:Nat):Int):=by rw[BI (by omega)];omega
   rw[insOuter];simp only[BA,ZK,A4,e,AZD,AZa,BO];rw[ATW a b i i d many (by omega) f (by omega)];simp only[o];exact m (i+1) _ n (by omega) (by rw[LS];omega) (by rw[LS];omega) (by rw[LS];omega) (by omega)
theorem AN1(d:Array (EL S))(a b:Nat)(e:a<=b)(f:b<=d.size)(i:d.size<4294967296):(tn S.z S.c S.t) ((rep d),(a:Int),(b:Int),())=some ((rep (insertionSort ltX d a b)),()):=by
 have g:d.size<many:=by simp only[many];omega
 have h:w64 ((a:Int)+1)=((a+1:Nat):Int):=by rw[BI (by omega)];omega
 rw[ATX,Ox];simp only[h,BO];rw[AN2 a b (b-(a+1)) (a+1) d many rfl f (by omega) g (by omega)];rfl
end Go.Pev.Pl.SG
end
end
