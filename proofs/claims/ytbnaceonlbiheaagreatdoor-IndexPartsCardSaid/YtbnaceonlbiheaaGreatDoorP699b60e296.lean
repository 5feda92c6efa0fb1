/- A part of the proofs of this seat: PevRow G28P1 G28P2 G28P3 G28P4 G28P5 G28P6 G28P7 G28P8 G28P9 G28P10 G28P11 G28P12 G28P13 G28P14 G28P15 G28P16 G28P17 G28P18 G28P19 G28X1 G28M5 G28M6 G28P20 G28P21 G28P22 G28P23 G28P24 G28X2 G28M7 G28M Pln PlnB T18a T18b T18c PlnM NKA T18d PevClaim NKB NKC T19a. -/
import Derived.Test.YtbnaceonlbiheaaGreatDoorP06ef05050f
import Derived.KernelRfl
import Derived.Test.YtbnaceonlbiheaaGreatDoorProg
import Derived.IntWalk
import Derived.Sort.AssemblyPlain
import Derived.ProofKit
import Derived.ChangeArms
import Derived.ReadAgain
import Derived.Deep.Slices
import Derived.OpenShut
set_option linter.unusedVariables false
set_option linter.unusedSimpArgs false
set_option linter.unusedSectionVars false
set_option maxRecDepth 100000
section
namespace Go.Pev
noncomputable section
variable {P:Program} {E:Env} {r:Row} {fn:Func}
def Row.ev[Lk](r:Row)(E:Env):Env:={ E with keep:=r.mark 0,rows:=r.mark 1,arrs:=r.mark 2 }
def Row.AVP[Lk](r:Row)(E:Env)(f:Be (leaves r.its)->Option (Be (leaves r.outs))):Env:=r.put E (r.call f)
theorem Row.ACl(r:Row)(b:Bn P E)(c:P.funcs[r.g]? = some fn){f d:Be (leaves r.its)->Option (Be (leaves r.outs))}(e:∀ x,f x=d x)
  (a:r.okF fn=true:=by kernel_rfl) (hd:∀ x,d x=r.self P (r.ev E) fn x:=by intro _;kernel_rfl):Bn P (r.AVP E f):=by simp only[Row.okF,AV5,AXF]at a;obtain⟨h,i,⟨j,l⟩,k⟩:=a;exact Row.ATY b (Row.AEQ (E:=r.ev E) b c h i j fun x=>(e x).trans (hd x)) k
structure Chn(P:Program)where
  e:[Lk]->Env
  h:Bn P e
def Chn.g{P:Program}{fn:Func}(c:Chn P)(r:Row)(f:[Lk]->Be (leaves r.its)->Option (Be (leaves r.outs)))(i:P.funcs[r.g]? = some fn){d:Be (leaves r.its)->Option (Be (leaves r.outs))}(k:∀ x,f x=d x)(a:r.okF fn=true:=by kernel_rfl)(b:∀ x,d x=r.self P (r.ev c.e) fn x:=by intro _;kernel_rfl):Chn P:=⟨r.AVP c.e f,Row.ACl r c.h i k a b⟩
structure Ma{α β:Type}(f:α->β)where
 d:α->β
 h:∀ v,f v=d v
end
end Go.Pev
end
section
namespace Go.Pev
open Go.Proofs
noncomputable section
abbrev AQ9:Row:=⟨247,0,0,1,0,none,HX,[(.ret,BP)],A7,[],[]⟩
def ADA[Lk]:Env:=Env.none.ext 247 true true (Bb 0 1 HX BP A7 ASx)
theorem ABA:Bn Tryz.prog ADA:=Row.ACl AQ9 Env.AQx Tryz.func247 AMV
def AMn:=Chn.g ⟨ADA,ABA⟩ ⟨29,0,0,2,0,none,LH,[(.ret,BI)],A7,[],[(0,AG0,I3)]⟩ Qi Tryz.func29 iB
def AJP:=Chn.g AMn ⟨123,0,0,1,0,none,BP,[(.ret,BI)],A7,[],[]⟩ Px Tryz.func123 fO
def AU1:=Chn.g AJP ⟨173,0,0,2,0,none,Ku,[(.ret,BI)],A7,[],[]⟩ tin Tryz.func173 AJg
def ATH:=Chn.g AU1 ⟨268,0,0,3,0,none,j7,[(.ret,BP)],A7,[],[]⟩ AJm Tryz.func268 ABS
def AJO:=Chn.g ATH ⟨209,0,0,2,0,none,Ku,[(.ret,oo)],NG,[],[]⟩ jr Tryz.func209 fM
def APT:=Chn.g AJO ⟨170,0,0,1,0,none,BP,[(.ret,ABP)],Xp,[],[(0,AJb,pC)]⟩ ABQ Tryz.func170 pD
def AMr:=Chn.g APT ⟨137,0,0,2,0,none,Ja,[(.ret,BP)],A7,[],[(0,AG1,EN)]⟩ UX Tryz.func137 iD
def tP:=Chn.g AMr ⟨231,0,0,2,0,none,Ja,[(.ret,BI)],A7,[],[]⟩ HF Tryz.func231 TA
def AT1:=Chn.g tP ⟨125,0,0,1,0,none,QY,[(.ret,BP)],A7,[],[(0,ACG,lL)]⟩ AMH Tryz.func125 ACH
def ARo:=Chn.g AT1 ⟨219,0,0,2,0,none,ARn,[(.ret,EW)],A7,[],[]⟩ ACa Tryz.func219 sH
def PG:=Chn.g ARo ⟨149,0,0,1,0,none,AIM,[(.ret,EW)],A7,[],[(0,AAW,AAU),(1,AAV,AAT)]⟩ Mm Tryz.func149 cg
theorem AEn:Tryz.f207.body.isSome=true:=by kernel_rfl
theorem AEm : (Tryz.f207.name == "runtime.NumGoroutine") = false := by kernel_rfl
theorem AEl:loops (CE Tryz.f207)=0:=by kernel_rfl
def XH[Lk]:Env:=PG.e.ext 207 false false (CL Tryz.prog PG.e {} Tryz.f207)
theorem dQ:Bn Tryz.prog XH:=Env.CU PG.h (B4 PG.h Tryz.func207 AEn AEm AEl) (by simp) (by simp)
def bP:=Chn.g ⟨XH,dQ⟩ ⟨134,0,0,2,0,some (1,207),Nx,[(.ret,BP)],A7,[],[(0,XP,EN)]⟩ MO Tryz.func134 Mz
def ATw:=Chn.g bP ⟨208,0,0,1,0,none,QY,[(.ret,BI)],A7,[],[(0,AQt,AQs)]⟩ once Tryz.func208 ACA
def RX:=Chn.g ATw ⟨318,0,0,2,0,none,Ja,[(.ret,EW)],A7,[(1,[[],[],[],[],[],[],[],[0]])],[]⟩ Yr Tryz.func318 fL
theorem ADx:Tryz.f230.body.isSome=true:=by kernel_rfl
theorem ADw : (Tryz.f230.name == "runtime.NumGoroutine") = false := by kernel_rfl
theorem ADv:loops (CE Tryz.f230)=0:=by kernel_rfl
def XG[Lk]:Env:=RX.e.ext 230 false false (CL Tryz.prog RX.e {} Tryz.f230)
theorem dN:Bn Tryz.prog XG:=Env.CU RX.h (B4 RX.h Tryz.func230 ADx ADw ADv) (by simp) (by simp)
def U_:=Chn.g ⟨XG,dN⟩ ⟨229,0,1,2,0,some (1,230),UZ,[(.ret,UY)],A7,[],[(0,Sb,Sa)]⟩ Jb Tryz.func229 KM
def RZ:=Chn.g U_ ⟨174,0,0,2,0,none,F_,[(.ret,BP)],A7,[],[]⟩ Tf Tryz.func174 fR
theorem ASf:Tryz.f210.body.isSome=true:=by kernel_rfl
theorem ASe : (Tryz.f210.name == "runtime.NumGoroutine") = false := by kernel_rfl
theorem ASd:loops (CE Tryz.f210)=0:=by kernel_rfl
def jT[Lk]:Env:=RZ.e.ext 210 false false (CL Tryz.prog RZ.e {} Tryz.f210)
theorem oL:Bn Tryz.prog jT:=Env.CU RZ.h (B4 RZ.h Tryz.func210 ASf ASe ASd) (by simp) (by simp)
def AUI:=Chn.g ⟨jT,oL⟩ ⟨126,0,0,2,0,none,ANJ,[(.ret,BI)],A7,[(8,[[],[],[],[],[],[],[],[],[1000003],[],[],[],[],[],[],[],[],[0],[0],[0],[],[0],[0],[0],[2,26],[],[2,26],[2,26]]),(13,[[],[0],[0],[0],[2],[],[],[],[0],[0],[0],[6],[],[0],[0],[0],[4]]),(3,[[],[],[],[],[],[],[],[],[11],[],[],[],[8,10,12]])],[(0,ARu,ARt)]⟩ goes Tryz.func126 ACc
def AT0:=Chn.g AUI ⟨249,0,0,1,0,none,BP,[(.ret,BI)],A7,[],[]⟩ AF0 Tryz.func249 KG
def AAX:=Chn.g AT0 ⟨189,0,0,2,0,none,Ku,[(.ret,BP)],A7,[],[]⟩ EJ Tryz.func189 H3
def AO9:=Chn.g AAX ⟨321,0,0,2,0,none,LH,[(.ret,BP)],A7,[],[]⟩ C1 Tryz.func321 oS
def AQ8:=Chn.g AO9 ⟨248,0,0,1,0,none,lS,[(.ret,BP)],A7,[],[]⟩ ACU Tryz.func248 ri
def AIr:=Chn.g AQ8 ⟨187,0,0,1,0,none,lS,[(.ret,BP)],A7,[],[]⟩ bitsLen Tryz.func187 c8
def ADE:=Chn.g AIr ⟨295,0,1,1,0,none,ADD,[(.ret,ADC)],A7,[(3,[[],[0],[0],[],[0],[0],[],[],[0],[1]]),(2,[[],[0],[0],[],[0],[0],[],[],[0],[1]]),(1,[[],[0],[0],[],[0],[0],[],[],[0],[1]])],[]⟩ xorNext Tryz.func295 Yb
def AFx:=Chn.g ADE ⟨294,0,0,1,0,none,BP,[(.ret,lS)],A7,[],[]⟩ YD Tryz.func294 aN
def AUB:=Chn.g AFx ⟨370,0,1,4,0,some (3,321),UU,[(.ret,JX)],Bw,[(4,[[],[],[],[],[],[],[],[0],[0],[],[],[],[0],[0]]),(6,[[],[],[],[],[],[],[],[],[0],[0],[],[],[0],[0],[0],[1],[0],[1]])],[(0,ARO,lj),(1,ARN,ARM)]⟩ AVL Tryz.func370 ARP
def APq:=Chn.g AUB ⟨390,0,1,5,0,some (4,321),J',[(.ret,JX)],Bw,[(6,[[],[],[],[],[],[],[],[],[],[],[],[],[0],[0],[],[],[],[],[0],[0],[0],[1],[0],[1]]),(5,[[],[],[],[],[],[0],[0],[],[],[],[],[0],[0]]),(3,[[],[],[],[],[],[],[],[],[],[],[0],[0],[],[],[],[],[],[0],[0]])],[(0,AJ7,AJ6)]⟩ ASm Tryz.func390 AJ8
def ARg:=Chn.g APq ⟨371,0,1,4,0,some (3,321),UU,[(.ret,JX)],Bw,[(10,[[],[],[],[],[],[],[],[],[],[],[0],[0],[],[],[0],[0],[0],[1],[0],[1]])],[(0,AM5,AM3),(1,AM4,AM2)]⟩ AS0 Tryz.func371 AM6
def AOV:=Chn.g ARg ⟨372,0,1,4,0,some (3,321),UU,[(.ret,JX)],Bw,[(10,[[],[],[],[],[],[],[],[],[],[],[0],[0],[],[],[0],[0],[0],[1],[0],[1]])],[(0,AIk,lj)]⟩ AOW Tryz.func372 AIl
def AFk:=Chn.g AOV ⟨396,0,2,5,0,some (4,321),AFi,[(.ret,AFh)],BO,[(1,[[],[],[],[0],[0],[],[],[0],[0]])],[]⟩ AB6 Tryz.func396 yF
def AF8:=Chn.g AFk ⟨392,0,2,6,0,some (5,321),AF6,[(.ret,gn)],A7,[],[]⟩ ACJ Tryz.func392 yV
def AGK:=Chn.g AF8 ⟨391,0,2,4,0,some (3,321),AGI,[(.ret,gn)],A7,[],[]⟩ ACO Tryz.func391 ya
def ALL:=Chn.g AGK ⟨373,0,1,4,0,some (3,321),UU,[(.ret,ALJ)],BO,[],[]⟩ ALM Tryz.func373 AE8
def ATM:=Chn.g ALL ⟨374,0,1,4,0,some (3,321),UU,[(.ret,JX)],Bw,[(3,[[],[],[],[],[],[],[0],[0],[],[],[0],[0],[0],[1],[0],[1]])],[(0,AP4,lj)]⟩ AU5 Tryz.func374 AP5
def xf:=Chn.g ATM ⟨375,0,1,4,0,some (3,321),UU,[(.ret,xd)],A7,[(11,[[],[],[],[],[],[],[],[],[0],[0],[],[],[0],[0],[0],[1],[0],[1]]),(5,[[],[],[],[],[],[],[],[0],[0],[],[],[],[0],[0]]),(17,[[],[],[],[],[],[],[],[],[0],[0],[],[],[0],[0],[0],[1],[0],[1]]),(16,[[],[],[],[0],[0],[],[],[],[0],[0]]),(23,[[],[],[],[],[],[],[],[],[0],[0],[],[],[0],[0],[0],[1],[0],[1]]),(22,[[],[],[],[0],[0],[],[],[],[0],[0]])],[(0,Wa,qg),(1,Wa,qf),(2,qi,qe),(3,qh,qd)]⟩ qk Tryz.func375 qj
def AFW:=Chn.g xf ⟨376,0,1,5,0,some (4,321),J',[(.ret,AFU)],A7,[(8,[[],[],[],[],[],[],[0],[0],[],[],[0],[0],[0],[1],[0],[1]]),(3,[[],[],[],[],[],[],[],[0],[0],[],[],[0],[0]]),(5,[[],[],[],[],[],[],[],[0],[0],[],[],[0],[0]]),(1,[[],[],[],[],[],[],[0],[0],[],[],[0],[0],[0],[1],[0],[1]])],[(0,QP,xt),(1,QP,xr),(2,QP,xq)]⟩ AB2 Tryz.func376 xu
def X':=Chn.g AFW ⟨377,0,1,5,0,some (4,321),J',[(.ret,AQk)],BO,[(3,[[],[],[],[],[],[],[],[0],[0],[],[],[0],[0]]),(5,[[],[],[],[],[],[],[],[0],[0],[],[],[0],[0]]),(18,[[],[],[],[],[],[],[0],[0],[],[],[0],[0],[0],[1],[0],[1]]),(13,[[],[],[],[],[],[],[],[0],[0],[],[],[0],[0]]),(15,[[],[],[],[],[],[],[],[0],[0],[],[],[0],[0]]),(21,[[],[],[],[],[],[],[0],[0],[],[],[0],[0],[0],[1],[0],[1]]),(10,[[],[],[],[],[],[],[0],[0],[],[],[0],[0],[0],[1],[0],[1]]),(8,[[],[],[],[],[],[],[0],[0],[],[],[0],[0],[0],[1],[0],[1]]),(1,[[],[],[],[],[],[],[0],[0],[],[],[0],[0],[0],[1],[0],[1]])],[(0,Nf,ALq),(1,Nf,ALp),(2,Nf,ALo),(3,Nf,ALn),(4,Nf,ALm)]⟩ ASs Tryz.func377 ALr
abbrev xR(self:(List (List Int)×Int×Int×Int×Unit)->Option ((List (List Int)×Unit))):Hints:={ loop:=fun n=>match n with|0=>ME 1 148 ABu ABt (ABs self)|_=>fun _ _ _=>none,fp:=fun n=>match n with|17=>[[],[],[],[],[],[],[],[0],[0],[],[],[0],[0],[],[],[],[]]|_=>[] }
abbrev kv(self:(List (List Int)×Int×Int×Int×Unit)->Option ((List (List Int)×Unit))):Env:=X'.e.ext 346 false true (Bb 1 5 J' JX Bw self)
theorem xQ(self:(List (List Int)×Int×Int×Int×Unit)->Option ((List (List Int)×Unit))):∀ v,ABs self v=roundOf Tryz.prog (kv self) (xR self) 1 1 148 (DU Tryz.f346 0) ABu ABt v:=by rintro⟨a,b,c,d,e,f,⟨⟩⟩;kernel_rfl
theorem AQU:Cy (DU Tryz.f346 0) 1=[]:=by kernel_rfl
theorem AQV(self:(List (List Int)×Int×Int×Int×Unit)->Option ((List (List Int)×Unit)))(a:Bn Tryz.prog (kv self)):Jy Tryz.prog 1 (.loop (DU Tryz.f346 0)) ((xR self).loop 0):=SK a (xQ self) (Et AQU trivial)
theorem ALb(self:(List (List Int)×Int×Int×Int×Unit)->Option ((List (List Int)×Unit))):∀ v,ATf self v=D5 1 Tryz.prog (kv self) (xR self) Tryz.f346 J' JX Bw v:=by rintro⟨a,b,c,d,⟨⟩⟩;kernel_rfl
theorem ATe:Cy (CE Tryz.f346) 0=[(0,DU Tryz.f346 0)]:=by kernel_rfl
theorem xS:∀ n,BW Tryz.prog 346 (Bb 1 5 J' JX Bw (Z7 n)):=by
 intro n;induction n with
  |zero=>exact KH fun _=>rfl
  |succ n b=>have a:Bn Tryz.prog (kv (Z7 n)):=Env.CU X'.h b ((by simp)) (fun _=>Co rfl rfl);let self:=Z7 n;exact I7 a Tryz.func346 (by kernel_rfl) (by kernel_rfl) rfl (ALb self) (Et ATe ⟨(AQV self a),trivial⟩)
theorem AFK:BW Tryz.prog 346 (Bb 1 5 J' JX Bw AQX):=by have e:AQX=Z7 100:=funext AQW;rw[e];exact xS _
def AO4[Lk]:Env:=X'.e.XX 346 4 321 (Bb 1 5 J' JX Bw AQX)
theorem AI4:Bn Tryz.prog AO4:=Env.Su X'.h AFK (Co rfl rfl)
def Xv:=Chn.g ⟨AO4,AI4⟩ ⟨320,0,1,2,0,some (1,321),APe,[(.ret,JX)],Bw,[],[]⟩ ABX Tryz.func320 AJv
theorem AJk:Tryz.f172.body.isSome=true:=by kernel_rfl
theorem AJj : (Tryz.f172.name == "runtime.NumGoroutine") = false := by kernel_rfl
theorem AJi:loops (CE Tryz.f172)=0:=by kernel_rfl
def dO[Lk]:Env:=Xv.e.ext 172 false false (CL Tryz.prog Xv.e {} Tryz.f172)
theorem fA:Bn Tryz.prog dO:=Env.CU Xv.h (B4 Xv.h Tryz.func172 AJk AJj AJi) (by simp) (by simp)
def VA:=Chn.g ⟨dO,fA⟩ ⟨134,0,1,2,0,some (1,172),LJ,[(.ret,U')],A7,[],[(0,Sd,Sc)]⟩ Jc Tryz.func134 KN
def AUR:=Chn.g VA ⟨265,0,0,1,0,none,AUQ,[(.ret,EW)],A7,[],[(0,AR6,ACm)]⟩ ends Tryz.func265 ACn
def AVF:=Chn.g AUR ⟨188,0,0,1,0,none,QY,[(.ret,BP)],A7,[],[(0,ATv,ATu)]⟩ orI Tryz.func188 lD
def AMN:=Chn.g AVF ⟨167,0,0,1,0,none,BP,[(.ret,BI)],A7,[],[]⟩ aV Tryz.func167 UJ
def AT2:=Chn.g AMN ⟨168,0,0,1,0,none,BP,[(.ret,BP)],A7,[],[]⟩ lN Tryz.func168 AQ1
def yw:=Chn.g AT2 ⟨169,0,0,2,0,none,ae,[(.ret,BP)],A7,[(1,[[0],[0],[2],[2],[],[0],[0],[2],[2],[],[],[20]])],[]⟩ GJ Tryz.func169 Nr
def AML:=Chn.g yw ⟨88,0,0,2,0,none,Nq,[(.ret,aT)],A7,[],[(0,AGY,gr)]⟩ UI Tryz.func88 UH
def te:=Chn.g AML ⟨30,0,0,2,0,none,H4,[(.ret,EW)],A7,[(14,[[],[],[0],[0],[],[],[0],[0]]),(13,[[],[],[],[],[],[],[],[],[],[],[],[],[],[],[],[],[],[],[],[0],[0],[],[],[0],[0]])],[(0,nU,nQ),(1,nT,nP),(2,nS,nO)]⟩ PI Tryz.func30 TF
def APS:=Chn.g te ⟨80,0,0,1,0,none,BP,[(.ret,BP)],A7,[],[(0,AJW,lL)]⟩ Ra Tryz.func80 AJX
def AEp:=Chn.g APS ⟨28,0,0,1,0,none,K1,[(.ret,BI)],A7,[(10,[[],[],[],[0],[0],[],[],[],[],[],[4],[4],[],[],[0],[0],[],[],[],[],[],[4],[4],[],[],[0],[0],[],[],[],[],[],[4],[4]]),(8,[[4],[4],[],[],[4],[4],[4],[4],[],[],[],[4],[4],[0],[0],[],[],[],[4],[4],[],[],[],[4],[4],[0],[0]])],[(0,wJ,wH),(1,wI,wG)]⟩ HT Tryz.func28 Gw
def AUG:=Chn.g AEp ⟨307,0,0,2,0,none,Ku,[(.ret,BI)],A7,[],[]⟩ r7 Tryz.func307 ARa
def ADz:=Chn.g AUG ⟨358,0,0,2,0,none,Ku,[(.ret,oo)],NG,[],[]⟩ Xo Tryz.func358 vC
def ASa:=Chn.g ADz ⟨310,0,0,3,0,none,j7,[(.ret,BP)],A7,[],[]⟩ uG Tryz.func310 AOp
def AMJ:=Chn.g ASa ⟨215,0,0,1,0,none,BP,[(.ret,ABP)],Xp,[],[(0,AGV,pC)]⟩ yg Tryz.func215 AGW
def vX:=Chn.g AMJ ⟨359,0,0,3,0,none,j7,[(.ret,BI)],A7,[],[]⟩ ZD Tryz.func359 pN
def AJU:=Chn.g vX ⟨340,0,0,2,0,none,ANJ,[(.ret,BI)],A7,[(7,[[],[],[0],[0],[],[],[],[],[0],[],[0],[0],[],[],[],[],[0],[],[0],[0]])],[(0,ADt,ADq),(1,ADs,ADp),(2,ADr,ADo)]⟩ vA Tryz.func340 ADu
def AE6:=Chn.g AJU ⟨217,0,0,2,0,none,Ja,[(.ret,BP)],A7,[],[(0,xG,EN)]⟩ R2 Tryz.func217 xH
def AEr:=Chn.g AE6 ⟨146,0,0,1,0,none,QY,[(.ret,BI)],A7,[],[(0,wS,QG)]⟩ Ow Tryz.func146 wT
def ANS:=Chn.g AEr ⟨309,0,0,2,0,none,Ja,[(.ret,Sq)],BO,[(4,[[],[],[],[],[17],[],[],[],[19]])],[]⟩ bh Tryz.func309 AHQ
def AE2:=Chn.g ANS ⟨341,0,0,1,0,none,QY,[(.ret,EW)],A7,[],[(0,ACG,w7)]⟩ X7 Tryz.func341 w9
def AGf:=Chn.g AE2 ⟨154,0,0,2,0,none,AGe,[(.ret,BI)],A7,[],[(0,yk,I3)]⟩ YG Tryz.func154 yl
def AEq:=Chn.g AGf ⟨306,0,0,1,0,none,gL,[(.ret,BI)],A7,[(16,[[],[],[],[],[0],[0]])],[(0,wP,wN),(1,wO,wM)]⟩ X3 Tryz.func306 wQ
def AE5:=Chn.g AEq ⟨308,0,0,2,0,none,F_,[(.ret,BP)],A7,[],[(0,xD,EN)]⟩ Oz Tryz.func308 xE
def AQI:=Chn.g AE5 ⟨312,0,0,2,0,none,AQH,[(.ret,ABi)],A7,[(3,[[],[],[],[],[],[],[],[],[],[],[],[],[0],[0]]),(5,[[],[],[],[],[3],[],[0],[5,6],[],[],[],[9]])],[(0,AKw,AKv)]⟩ AKy Tryz.func312 AKx
def oQ:=Chn.g AQI ⟨311,0,0,2,0,none,oP,[(.ret,ABi)],A7,[(1,[[],[],[],[],[1],[],[],[],[],[3]])],[]⟩ Og Tryz.func311 jZ
def AMU:=Chn.g oQ ⟨261,0,0,3,0,none,aa,[(.ret,rX)],Xp,[(13,[[0],[0],[],[],[],[],[102],[],[110,100],[],[3]]),(11,[[],[0],[0],[],[],[],[],[87,96],[],[60],[99,60]]),(7,[[0],[],[],[0]]),(5,[[0],[],[],[0]])],[]⟩ yv Tryz.func261 AGi
def AEA:=Chn.g AMU ⟨260,0,0,2,0,none,Kv,[(.ret,BP)],A7,[(6,[[],[],[],[],[],[],[],[],[],[],[],[],[0],[0],[],[],[],[],[],[],[],[],[],[],[],[],[],[],[],[],[0],[0]])],[(0,vN,EN)]⟩ j6 Tryz.func260 vO
def AGg:=Chn.g AEA ⟨216,0,0,2,0,none,Kv,[(.ret,UL)],DH,[(8,[[0],[],[],[],[],[],[],[],[],[],[],[],[],[],[],[],[15]])],[(0,yq,yp)]⟩ lP Tryz.func216 yr
def ATy:=Chn.g AGg ⟨145,0,0,2,0,none,H4,[(.ret,F_)],BO,[],[]⟩ ATz Tryz.func145 AQv
def ADk:=Chn.g ATy ⟨32,0,0,2,0,none,Nq,[(.ret,aT)],A7,[(6,[[],[0],[0],[],[],[],[],[0],[0],[],[],[],[],[],[],[3,4]])],[(0,u7,gr)]⟩ ju Tryz.func32 u9
def bm:=Chn.g ADk ⟨71,0,0,2,0,none,Nq,[(.ret,F_)],BO,[(3,[[0],[0],[0],[],[],[12],[],[],[3]])],[]⟩ bn Tryz.func71 sQ
theorem AOF : (Tryz.f131.name == "runtime.NumGoroutine") = false := by kernel_rfl
theorem nM:HQ Tryz.prog Tryz.f131 36 3 (.int .i64) where
 body:=by kernel_rfl
 nt:=by kernel_rfl
 res:=by kernel_rfl
 d:=⟨by kernel_rfl,by kernel_rfl,by kernel_rfl,by kernel_rfl,by kernel_rfl,by kernel_rfl,by kernel_rfl,by kernel_rfl⟩
 g:=⟨by kernel_rfl,by kernel_rfl,by kernel_rfl,by kernel_rfl,by kernel_rfl,by kernel_rfl,by kernel_rfl,by kernel_rfl⟩
 o00:=by kernel_rfl
 o10:=by kernel_rfl
 o11:=by kernel_rfl
 o20:=by kernel_rfl
 o30:=by kernel_rfl
 o31:=by kernel_rfl
 o32:=by kernel_rfl
 o33:=by kernel_rfl
 sl:=by kernel_rfl
 z:=by kernel_rfl
 by1:=by kernel_rfl
def ub[Lk]:Env:=bm.e.ext 131 true true (ER 3 (.int .i64))
theorem ua:Bn Tryz.prog ub:=Env.CU bm.h (ON nM Tryz.func131 AOF) (fun _=>CJ _ _) (fun _=>(CJ _ _).AD0)
def AOC:=Chn.g ⟨ub,ua⟩ ⟨133,0,0,2,0,none,tT,[(.ret,HX)],A7,[],[]⟩ AAY Tryz.func133 AIO
def ATD:=Chn.g AOC ⟨211,0,0,1,0,none,HX,[(.ret,BP)],A7,[],[]⟩ ATE Tryz.func211 APH
def AIb:=Chn.g ATD ⟨132,0,0,1,0,none,HX,[(.ret,BP)],A7,[],[]⟩ nh Tryz.func132 AAk
def RV:=Chn.g AIb ⟨130,0,0,1,0,none,BP,[(.ret,BI)],A7,[],[]⟩ uk Tryz.func130 ADc
theorem uy:Tryz.f129.body.isSome=true:=by kernel_rfl
theorem ux : (Tryz.f129.name == "runtime.NumGoroutine") = false := by kernel_rfl
theorem uw:loops (CE Tryz.f129)=0:=by kernel_rfl
def TQ[Lk]:Env:=RV.e.ext 129 false false (CL Tryz.prog RV.e {} Tryz.f129)
theorem Xk:Bn Tryz.prog TQ:=Env.CU RV.h (B4 RV.h Tryz.func129 uy ux uw) (by simp) (by simp)
def eK:=Chn.g ⟨TQ,Xk⟩ ⟨134,0,0,2,0,some (1,129),Pc,[(.ret,BP)],A7,[],[(0,bN,EN)]⟩ Nw Tryz.func134 bO
def om:=Chn.g eK ⟨59,0,0,2,0,none,WB,[(.ret,EW)],A7,[],[(0,jn,RW)]⟩ Te Tryz.func59 jo
def AUd:=Chn.g om ⟨148,0,0,2,0,none,tT,[(.ret,HX)],A7,[],[]⟩ AUe Tryz.func148 ASV
def ASQ:=Chn.g AUd ⟨218,0,0,2,0,none,ASP,[(.ret,HX)],A7,[],[]⟩ AOe Tryz.func218 AOd
def zK:=Chn.g ASQ ⟨147,0,0,1,0,none,HX,[(.ret,BP)],A7,[],[(0,sD,lL)]⟩ bW Tryz.func147 sE
def r9:=Chn.g zK ⟨73,0,0,2,0,none,WB,[(.ret,EW)],A7,[],[(0,mH,RW)]⟩ VB Tryz.func73 mI
def AIh:=Chn.g r9 ⟨72,0,0,2,0,none,LH,[(.ret,jC)],Vp,[],[(0,AAz,AAv),(1,AAy,AAu),(2,AAx,AAt),(3,AAw,AAs)]⟩ nv Tryz.func72 AA0
def Rs:=Chn.g AIh ⟨76,0,0,2,0,none,AKP,[(.ret,BI)],A7,[],[]⟩ v9 Tryz.func76 AEZ
theorem ARs:Tryz.f191.body.isSome=true:=by kernel_rfl
theorem ARr : (Tryz.f191.name == "runtime.NumGoroutine") = false := by kernel_rfl
theorem ARq:loops (CE Tryz.f191)=0:=by kernel_rfl
def jO[Lk]:Env:=Rs.e.ext 191 false false (CL Tryz.prog Rs.e {} Tryz.f191)
theorem oG:Bn Tryz.prog jO:=Env.CU Rs.h (B4 Rs.h Tryz.func191 ARs ARr ARq) (by simp) (by simp)
def mD:=Chn.g ⟨jO,oG⟩ ⟨225,0,3,2,0,some (1,191),Sh,[(.ret,mC)],A7,[],[(0,eP,eO)]⟩ Qq Tryz.func225 Pg
def zR:=Chn.g mD ⟨108,0,0,2,0,none,zQ,[(.ret,BP)],A7,[(1,[[0],[0],[2],[2],[],[0],[0],[2],[2],[],[],[20]])],[]⟩ Bj Tryz.func108 N3
def AUF:=Chn.g zR ⟨285,0,1,4,0,some (3,108),UW,[(.ret,JZ)],Bw,[(4,[[],[],[],[],[],[],[],[0],[0],[],[],[],[0],[0]]),(6,[[],[],[],[],[],[],[],[],[0],[0],[],[],[0],[0],[0],[1],[0],[1]])],[(0,ARY,ln),(1,ARX,ARW)]⟩ AVN Tryz.func285 ARZ
def APu:=Chn.g AUF ⟨329,0,1,5,0,some (4,108),KB,[(.ret,JZ)],Bw,[(6,[[],[],[],[],[],[],[],[],[],[],[],[],[0],[0],[],[],[],[],[0],[0],[0],[1],[0],[1]]),(5,[[],[],[],[],[],[0],[0],[],[],[],[],[0],[0]]),(3,[[],[],[],[],[],[],[],[],[],[],[0],[0],[],[],[],[],[],[0],[0]])],[(0,AKE,AKD)]⟩ ASo Tryz.func329 AKF
def ARk:=Chn.g APu ⟨286,0,1,4,0,some (3,108),UW,[(.ret,JZ)],Bw,[(10,[[],[],[],[],[],[],[],[],[],[],[0],[0],[],[],[0],[0],[0],[1],[0],[1]])],[(0,ANG,ANE),(1,ANF,AND)]⟩ AS2 Tryz.func286 ANH
def AOb:=Chn.g ARk ⟨287,0,1,4,0,some (3,108),UW,[(.ret,JZ)],Bw,[(10,[[],[],[],[],[],[],[],[],[],[],[0],[0],[],[],[0],[0],[0],[1],[0],[1]])],[(0,AIp,ln)]⟩ AOc Tryz.func287 AIq
def AFs:=Chn.g AOb ⟨353,0,2,5,0,some (4,108),AFq,[(.ret,AFp)],BO,[(1,[[],[],[],[0],[0],[],[],[0],[0]])],[]⟩ AB8 Tryz.func353 yI
def AGE:=Chn.g AFs ⟨331,0,2,6,0,some (5,108),AGC,[(.ret,gq)],A7,[],[]⟩ ACL Tryz.func331 yY
def AGQ:=Chn.g AGE ⟨330,0,2,4,0,some (3,108),AGO,[(.ret,gq)],A7,[],[]⟩ ACQ Tryz.func330 yf
def ALT:=Chn.g AGQ ⟨288,0,1,4,0,some (3,108),UW,[(.ret,ALR)],BO,[],[]⟩ ALU Tryz.func288 AFB
def ATQ:=Chn.g ALT ⟨289,0,1,4,0,some (3,108),UW,[(.ret,JZ)],Bw,[(3,[[],[],[],[],[],[],[0],[0],[],[],[0],[0],[0],[1],[0],[1]])],[(0,AP9,ln)]⟩ AU7 Tryz.func289 AQA
def xk:=Chn.g ATQ ⟨290,0,1,4,0,some (3,108),UW,[(.ret,xi)],A7,[(11,[[],[],[],[],[],[],[],[],[0],[0],[],[],[0],[0],[0],[1],[0],[1]]),(5,[[],[],[],[],[],[],[],[0],[0],[],[],[],[0],[0]]),(17,[[],[],[],[],[],[],[],[],[0],[0],[],[],[0],[0],[0],[1],[0],[1]]),(16,[[],[],[],[0],[0],[],[],[],[0],[0]]),(23,[[],[],[],[],[],[],[],[],[0],[0],[],[],[0],[0],[0],[1],[0],[1]]),(22,[[],[],[],[0],[0],[],[],[],[0],[0]])],[(0,Wd,qy),(1,Wd,qx),(2,q7,qw),(3,qz,qv)]⟩ q9 Tryz.func290 q8
def AFb:=Chn.g xk ⟨291,0,1,5,0,some (4,108),KB,[(.ret,AFZ)],A7,[(8,[[],[],[],[],[],[],[0],[0],[],[],[0],[0],[0],[1],[0],[1]]),(3,[[],[],[],[],[],[],[],[0],[0],[],[],[0],[0]]),(5,[[],[],[],[],[],[],[],[0],[0],[],[],[0],[0]]),(1,[[],[],[],[],[],[],[0],[0],[],[],[0],[0],[0],[1],[0],[1]])],[(0,QU,yC),(1,QU,yB),(2,QU,yA)]⟩ AB4 Tryz.func291 yD
def YB:=Chn.g AFb ⟨292,0,1,5,0,some (4,108),KB,[(.ret,AQo)],BO,[(3,[[],[],[],[],[],[],[],[0],[0],[],[],[0],[0]]),(5,[[],[],[],[],[],[],[],[0],[0],[],[],[0],[0]]),(18,[[],[],[],[],[],[],[0],[0],[],[],[0],[0],[0],[1],[0],[1]]),(13,[[],[],[],[],[],[],[],[0],[0],[],[],[0],[0]]),(15,[[],[],[],[],[],[],[],[0],[0],[],[],[0],[0]]),(21,[[],[],[],[],[],[],[0],[0],[],[],[0],[0],[0],[1],[0],[1]]),(10,[[],[],[],[],[],[],[0],[0],[],[],[0],[0],[0],[1],[0],[1]]),(8,[[],[],[],[],[],[],[0],[0],[],[],[0],[0],[0],[1],[0],[1]]),(1,[[],[],[],[],[],[],[0],[0],[],[],[0],[0],[0],[1],[0],[1]])],[(0,Ni,AL3),(1,Ni,AL2),(2,Ni,AL1),(3,Ni,AL0),(4,Ni,ALz)]⟩ ASu Tryz.func292 AL4
abbrev xY(self:(List (Int×Int×Unit)×Int×Int×Int×Unit)->Option ((List (Int×Int×Unit)×Unit))):Hints:={ loop:=fun n=>match n with|0=>ME 1 148 AB0 ABz (ABy self)|_=>fun _ _ _=>none,fp:=fun n=>match n with|17=>[[],[],[],[],[],[],[],[0],[0],[],[],[0],[0],[],[],[],[]]|_=>[] }
abbrev k7(self:(List (Int×Int×Unit)×Int×Int×Int×Unit)->Option ((List (Int×Int×Unit)×Unit))):Env:=YB.e.ext 237 false true (Bb 1 5 KB JZ Bw self)
theorem xX(self:(List (Int×Int×Unit)×Int×Int×Int×Unit)->Option ((List (Int×Int×Unit)×Unit))):∀ v,ABy self v=roundOf Tryz.prog (k7 self) (xY self) 1 1 148 (DU Tryz.f237 0) AB0 ABz v:=by rintro⟨a,b,c,d,e,f,⟨⟩⟩;kernel_rfl
theorem AQd:Cy (DU Tryz.f237 0) 1=[]:=by kernel_rfl
theorem AQe(self:(List (Int×Int×Unit)×Int×Int×Int×Unit)->Option ((List (Int×Int×Unit)×Unit)))(a:Bn Tryz.prog (k7 self)):Jy Tryz.prog 1 (.loop (DU Tryz.f237 0)) ((xY self).loop 0):=SK a (xX self) (Et AQd trivial)
theorem ALd(self:(List (Int×Int×Unit)×Int×Int×Int×Unit)->Option ((List (Int×Int×Unit)×Unit))):∀ v,ATj self v=D5 1 Tryz.prog (k7 self) (xY self) Tryz.f237 KB JZ Bw v:=by rintro⟨a,b,c,d,⟨⟩⟩;kernel_rfl
theorem ATi:Cy (CE Tryz.f237) 0=[(0,DU Tryz.f237 0)]:=by kernel_rfl
theorem xZ:∀ n,BW Tryz.prog 237 (Bb 1 5 KB JZ Bw (Z9 n)):=by
 intro n;induction n with
  |zero=>exact KH fun _=>rfl
  |succ n b=>have a:Bn Tryz.prog (k7 (Z9 n)):=Env.CU YB.h b ((by simp)) (fun _=>Co rfl rfl);let self:=Z9 n;exact I7 a Tryz.func237 (by kernel_rfl) (by kernel_rfl) rfl (ALd self) (Et ATi ⟨(AQe self a),trivial⟩)
theorem AFM:BW Tryz.prog 237 (Bb 1 5 KB JZ Bw AQg):=by have e:AQg=Z9 100:=funext AQf;rw[e];exact xZ _
def AO6[Lk]:Env:=YB.e.XX 237 4 108 (Bb 1 5 KB JZ Bw AQg)
theorem AI6:Bn Tryz.prog AO6:=Env.Su YB.h AFM (Co rfl rfl)
def APk:=Chn.g ⟨AO6,AI6⟩ ⟨184,0,1,2,0,some (1,108),APi,[(.ret,JZ)],Bw,[],[]⟩ ABY Tryz.func184 AJy
def APA:=Chn.g APk ⟨161,0,0,1,0,none,BP,[(.ret,BI)],A7,[],[]⟩ Yi Tryz.func161 oU
def RL:=Chn.g APA ⟨164,0,0,1,0,none,BP,[(.ret,BI)],A7,[],[]⟩ TZ Tryz.func164 fE
theorem ADK:Tryz.f160.body.isSome=true:=by kernel_rfl
theorem ADJ : (Tryz.f160.name == "runtime.NumGoroutine") = false := by kernel_rfl
theorem ADI:loops (CE Tryz.f160)=0:=by kernel_rfl
theorem ADH:Tryz.f163.body.isSome=true:=by kernel_rfl
theorem ADG : (Tryz.f163.name == "runtime.NumGoroutine") = false := by kernel_rfl
theorem ADF:loops (CE Tryz.f163)=0:=by kernel_rfl
def XF[Lk]:Env:=RL.e.ext 160 false false (CL Tryz.prog RL.e {} Tryz.f160)
theorem dM:Bn Tryz.prog XF:=Env.CU RL.h (B4 RL.h Tryz.func160 ADK ADJ ADI) (by simp) (by simp)
def l9:=Chn.g ⟨XF,dM⟩ ⟨225,0,0,2,0,some (1,160),Sg,[(.ret,BP)],A7,[],[(0,eN,EN)]⟩ Qp Tryz.func225 Pf
def Hd:=Chn.g l9 ⟨162,0,0,2,0,some (1,160),Sg,[(.ret,BI)],A7,[],[]⟩ Fu Tryz.func162 OI
def XE[Lk]:Env:=Hd.e.ext 163 false false (CL Tryz.prog Hd.e {} Tryz.f163)
theorem dL:Bn Tryz.prog XE:=Env.CU Hd.h (B4 Hd.h Tryz.func163 ADH ADG ADF) (by simp) (by simp)
def mE:=Chn.g ⟨XE,dL⟩ ⟨226,0,0,2,0,some (1,163),Si,[(.ret,BP)],A7,[],[(0,eQ,EN)]⟩ Qr Tryz.func226 Ph
def ec:=Chn.g mE ⟨165,0,0,2,0,some (1,163),Si,[(.ret,BI)],A7,[],[]⟩ KW Tryz.func165 OJ
def AI7:=Chn.g ec ⟨81,0,0,1,0,none,oN,[(.ret,BI)],A7,[],[]⟩ jX Tryz.func81 fC
def AOr:=Chn.g AI7 ⟨197,0,0,1,0,none,AOq,[(.ret,EW)],A7,[],[]⟩ n7 Tryz.func197 jH
def AST:=Chn.g AOr ⟨114,0,0,1,0,none,oN,[(.ret,EW)],A7,[],[(0,AOl,AOj),(1,AOk,AOi)]⟩ AC1 Tryz.func114 uD
def ASC:=Chn.g AST ⟨182,0,0,1,0,none,BP,[(.ret,BI)],A7,[],[]⟩ tD Tryz.func182 tC
def AUX:=Chn.g ASC ⟨99,0,0,1,0,none,ANu,[(.ret,AUW)],BO,[],[]⟩ ASB Tryz.func99 ACr
def ASF:=Chn.g AUX ⟨101,0,0,1,0,none,HX,[(.ret,ANu)],A7,[],[]⟩ ACs Tryz.func101 tF
def AHx:=Chn.g ASF ⟨236,0,0,1,0,none,iY,[(.ret,AHw)],A7,[],[(0,AAA,z9)]⟩ YT Tryz.func236 cJ
def AEi:=Chn.g AHx ⟨279,0,0,1,0,none,BP,[(.ret,BP)],A7,[],[]⟩ Ov Tryz.func279 QF
def AKW:=Chn.g AEi ⟨352,0,0,2,0,none,Ku,[(.ret,BI)],A7,[],[]⟩ kO Tryz.func352 gG
def AKm:=Chn.g AKW ⟨328,0,0,3,0,none,AKl,[(.ret,HX)],A7,[],[]⟩ T5 Tryz.func328 gS
def AP0:=Chn.g AKm ⟨282,0,0,2,0,none,Ja,[(.ret,BI)],A7,[],[(0,AKf,AKe)]⟩ ABf Tryz.func282 p8
def AU9:=Chn.g AP0 ⟨281,0,0,4,0,none,AU8,[(.ret,EW)],A7,[(10,[[],[],[],[0],[0],[],[],[0],[0],[],[0],[1]])],[(0,ATX,ATU),(1,ATW,ATT),(2,ATV,ATS)]⟩ rby Tryz.func281 AKo
def pG:=Chn.g AU9 ⟨177,0,0,2,0,none,Ku,[(.ret,BI)],A7,[],[]⟩ Kt Tryz.func177 Rf
def AD6:=Chn.g pG ⟨198,0,0,1,0,none,AD5,[(.ret,BI)],A7,[],[(0,vF,QG)]⟩ Rb Tryz.func198 Y5
def AD4:=Chn.g AD6 ⟨304,0,0,2,0,none,Ks,[(.ret,BP)],A7,[],[]⟩ Om Tryz.func304 Y4
def AD3:=Chn.g AD4 ⟨305,0,0,1,0,none,AD2,[(.ret,BP)],A7,[],[]⟩ Lv Tryz.func305 Y3
def AD7:=Chn.g AD3 ⟨257,0,0,2,0,none,Ks,[(.ret,BI)],A7,[(1,[[0],[],[],[],[],[0],[0],[],[],[],[],[0],[0]])],[]⟩ Rc Tryz.func257 Y7
def fV:=Chn.g AD7 ⟨95,0,0,2,0,none,Ku,[(.ret,AD8)],Vp,[],[]⟩ Xr Tryz.func95 Y8
theorem AIS : (Tryz.f355.name == "runtime.NumGoroutine") = false := by kernel_rfl
theorem eh:HQ Tryz.prog Tryz.f355 111 212 (.prod (.int .i64) (.prod (.int .i64) (.prod (.int .i64) (.prod (.int .i64) .unit)))) where
 body:=by kernel_rfl
 nt:=by kernel_rfl
 res:=by kernel_rfl
 d:=⟨by kernel_rfl,by kernel_rfl,by kernel_rfl,by kernel_rfl,by kernel_rfl,by kernel_rfl,by kernel_rfl,by kernel_rfl⟩
 g:=⟨by kernel_rfl,by kernel_rfl,by kernel_rfl,by kernel_rfl,by kernel_rfl,by kernel_rfl,by kernel_rfl,by kernel_rfl⟩
 o00:=by kernel_rfl
 o10:=by kernel_rfl
 o11:=by kernel_rfl
 o20:=by kernel_rfl
 o30:=by kernel_rfl
 o31:=by kernel_rfl
 o32:=by kernel_rfl
 o33:=by kernel_rfl
 sl:=by kernel_rfl
 z:=by kernel_rfl
 by1:=by kernel_rfl
def jQ[Lk]:Env:=fV.e.ext 355 true true (ER 212 (.prod (.int .i64) (.prod (.int .i64) (.prod (.int .i64) (.prod (.int .i64) .unit)))))
theorem oI:Bn Tryz.prog jQ:=Env.CU fV.h (ON eh Tryz.func355 AIS) (fun _=>CJ _ _) (fun _=>(CJ _ _).AD0)
theorem AOG : (Tryz.f356.name == "runtime.NumGoroutine") = false := by kernel_rfl
theorem nN:HQ Tryz.prog Tryz.f356 98 4 .bool where
 body:=by kernel_rfl
 nt:=by kernel_rfl
 res:=by kernel_rfl
 d:=⟨by kernel_rfl,by kernel_rfl,by kernel_rfl,by kernel_rfl,by kernel_rfl,by kernel_rfl,by kernel_rfl,by kernel_rfl⟩
 g:=⟨by kernel_rfl,by kernel_rfl,by kernel_rfl,by kernel_rfl,by kernel_rfl,by kernel_rfl,by kernel_rfl,by kernel_rfl⟩
 o00:=by kernel_rfl
 o10:=by kernel_rfl
 o11:=by kernel_rfl
 o20:=by kernel_rfl
 o30:=by kernel_rfl
 o31:=by kernel_rfl
 o32:=by kernel_rfl
 o33:=by kernel_rfl
 sl:=by kernel_rfl
 z:=by kernel_rfl
 by1:=by kernel_rfl
def ud[Lk]:Env:=jQ.ext 356 true true (ER 4 .bool)
theorem uc:Bn Tryz.prog ud:=Env.CU oI (ON nN Tryz.func356 AOG) (fun _=>CJ _ _) (fun _=>(CJ _ _).AD0)
theorem AOE : (Tryz.f300.name == "runtime.NumGoroutine") = false := by kernel_rfl
theorem nL:HQ Tryz.prog Tryz.f300 37 36 (.slice (.int .i64)) where
 body:=by kernel_rfl
 nt:=by kernel_rfl
 res:=by kernel_rfl
 d:=⟨by kernel_rfl,by kernel_rfl,by kernel_rfl,by kernel_rfl,by kernel_rfl,by kernel_rfl,by kernel_rfl,by kernel_rfl⟩
 g:=⟨by kernel_rfl,by kernel_rfl,by kernel_rfl,by kernel_rfl,by kernel_rfl,by kernel_rfl,by kernel_rfl,by kernel_rfl⟩
 o00:=by kernel_rfl
 o10:=by kernel_rfl
 o11:=by kernel_rfl
 o20:=by kernel_rfl
 o30:=by kernel_rfl
 o31:=by kernel_rfl
 o32:=by kernel_rfl
 o33:=by kernel_rfl
 sl:=by kernel_rfl
 z:=by kernel_rfl
 by1:=by kernel_rfl
def uZ[Lk]:Env:=ud.ext 300 true true (ER 36 (.slice (.int .i64)))
theorem uY:Bn Tryz.prog uZ:=Env.CU uc (ON nL Tryz.func300 AOE) (fun _=>CJ _ _) (fun _=>(CJ _ _).AD0)
theorem ASM : (Tryz.f338.name == "runtime.NumGoroutine") = false := by kernel_rfl
theorem tY:jU Tryz.prog Tryz.f338 36 3 1 where
 body:=by kernel_rfl
 nt:=by kernel_rfl
 res:=by kernel_rfl
 d:=⟨by kernel_rfl,by kernel_rfl,by kernel_rfl,by kernel_rfl,by kernel_rfl,by kernel_rfl,by kernel_rfl,by kernel_rfl⟩
 g:=⟨by kernel_rfl,by kernel_rfl,by kernel_rfl,by kernel_rfl,by kernel_rfl,by kernel_rfl,by kernel_rfl,by kernel_rfl⟩
 o00:=by kernel_rfl
 o10:=by kernel_rfl
 o11:=by kernel_rfl
 o12:=by kernel_rfl
 o13:=by kernel_rfl
 o14:=by kernel_rfl
 o15:=by kernel_rfl
 o16:=by kernel_rfl
 sl:=by kernel_rfl
 sz:=by kernel_rfl
def ADB[Lk]:Env:=uZ.ext 338 true true (OP 1)
theorem ABB:Bn Tryz.prog ADB:=Env.CU uY (ASL tY Tryz.func338 ASM) (fun _=>OO _) (fun _=>(OO _).AD0)
def AJe:=Chn.g ⟨ADB,ABB⟩ ⟨337,0,0,2,0,none,Ks,[(.ret,AJd)],AJc,[(11,[[0],[0],[],[12],[12],[],[],[],[],[12],[12],[],[],[],[31,38],[0],[1]]),(10,[[12],[12],[12]]),(6,[[12],[],[0],[0],[],[],[12],[12]])],[]⟩ j4 Tryz.func337 fU
def vJ:=Chn.g AJe ⟨357,0,1,2,0,none,vI,[(.ret,vH)],A7,[],[(0,pF,pE)]⟩ Rd Tryz.func357 WJ
def ATG:=Chn.g vJ ⟨339,0,0,2,0,none,Ks,[(.ret,ATF)],vK,[(12,[[0],[0],[0],[8],[8],[1000005,3],[7]]),(7,[[0],[0],[],[0],[0],[],[0],[1],[0],[1]]),(5,[[12],[],[0],[0],[],[],[12],[12],[],[],[],[0],[0],[12],[12]])],[(0,APW,APV)]⟩ APX Tryz.func339 ABR
def AAm:=Chn.g ATG ⟨199,0,0,1,0,none,BP,[(.ret,BI)],A7,[],[]⟩ OT Tryz.func199 W_
def AOH:=Chn.g AAm ⟨200,0,0,2,0,none,Ks,[(.ret,BI)],A7,[(1,[[],[],[],[],[0],[0],[],[],[],[],[0],[0],[],[],[],[],[],[],[],[0],[],[],[],[0],[0],[0],[0]])],[]⟩ nd Tryz.func200 ir
def AN5:=Chn.g AOH ⟨117,0,0,1,0,none,tN,[(.ret,BI)],A7,[],[(0,AID,QG),(1,AIC,AIB)]⟩ nD Tryz.func117 ic
def AOR:=Chn.g AN5 ⟨44,0,0,3,1,none,j7,[(.ret,AOQ)],AOP,[],[]⟩ nq Tryz.func44 jB
def ASN:=Chn.g AOR ⟨256,0,0,1,0,none,tN,[(.ret,BP)],A7,[],[(0,AOJ,AOI)]⟩ ACy Tryz.func256 tq
def AIP:=Chn.g ASN ⟨301,0,2,2,0,none,im,[(.ret,il)],A7,[],[]⟩ TE Tryz.func301 ck
def AOO:=Chn.g AIP ⟨302,0,2,3,0,none,AON,[(.ret,AOM)],A7,[(9,[[],[0],[0],[0],[0],[],[],[],[2],[3]]),(6,[[],[0],[0],[0],[0],[],[],[],[],[],[2],[3]]),(1,[[],[0],[0],[0],[0],[],[2],[2],[],[0],[0],[0],[0],[],[2],[2]])],[]⟩ nk Tryz.func302 jA
def AVS:=Chn.g AOO ⟨303,0,2,2,0,none,im,[(.ret,il)],A7,[(9,[[],[],[0],[0],[0],[0],[],[0],[0],[0],[0],[],[],[],[],[],[0],[0],[0],[1]]),(6,[[],[0],[0],[0],[0],[],[],[0],[0],[0],[0],[],[2],[2],[],[],[],[],[28],[2],[3,30]]),(3,[[],[],[0],[0],[0],[0],[],[0],[0],[0],[0],[],[],[],[],[],[],[0],[0],[0],[1]]),(1,[[],[0],[0],[0],[0],[],[0],[0],[0],[0]])],[]⟩ cgo Tryz.func303 AOK
def ASJ:=Chn.g AVS ⟨255,0,0,3,0,none,ASI,[(.ret,ASH)],ASG,[(18,[[],[14],[14],[14],[],[14],[14],[14],[3],[5]]),(14,[[],[14],[14],[14],[],[14],[14],[14],[3],[5]])],[]⟩ ACv Tryz.func255 tK
def AR8:=Chn.g ASJ ⟨195,0,1,3,0,none,AR7,[(.ret,ACp)],A7,[(3,[[],[],[12],[],[0],[0],[0],[14],[],[3,16],[0],[0],[1],[0],[0],[1]])],[]⟩ s7 Tryz.func195 sw
def AHo:=Chn.g AR8 ⟨196,0,1,1,0,none,AHn,[(.ret,ACp)],A7,[],[(0,zv,zr),(1,zu,zq)]⟩ YQ Tryz.func196 cE
def ANr:=Chn.g AHo ⟨112,0,0,4,0,none,ANq,[(.ret,ANp)],DH,[(11,[[],[2],[2],[2],[],[2],[2],[2],[],[1]]),(14,[[],[2],[2],[2],[],[2],[2],[2],[],[1]])],[(0,AHl,AHk)]⟩ VJ Tryz.func112 iU
def AHt:=Chn.g ANr ⟨113,0,0,2,0,none,AHs,[(.ret,AHr)],A7,[],[(0,z5,z4)]⟩ YS Tryz.func113 cI
def ANU:=Chn.g AHt ⟨111,0,0,1,0,none,ANT,[(.ret,BI)],A7,[],[]⟩ mV Tryz.func111 iK
def ANW:=Chn.g ANU ⟨49,0,0,2,0,none,ANV,[(.ret,El)],DH,[],[(0,AHU,AHS),(1,AHT,AHR)]⟩ DE Tryz.func49 PC
def AJs:=Chn.g ANW ⟨348,0,0,1,0,none,BP,[(.ret,BI)],A7,[],[]⟩ ZG Tryz.func348 fe
def AEU:=Chn.g AJs ⟨349,0,0,2,0,none,Ku,[(.ret,BP)],A7,[],[]⟩ X1 Tryz.func349 ZR
def Xu:=Chn.g AEU ⟨351,0,0,3,0,none,APa,[(.ret,iY)],A7,[],[]⟩ pP Tryz.func351 pO
theorem AJr:Tryz.f327.body.isSome=true:=by kernel_rfl
theorem AJq : (Tryz.f327.name == "runtime.NumGoroutine") = false := by kernel_rfl
theorem AJp:loops (CE Tryz.f327)=0:=by kernel_rfl
def dP[Lk]:Env:=Xu.e.ext 327 false false (CL Tryz.prog Xu.e {} Tryz.f327)
theorem fB:Bn Tryz.prog dP:=Env.CU Xu.h (B4 Xu.h Tryz.func327 AJr AJq AJp) (by simp) (by simp)
def AKT:=Chn.g ⟨dP,fB⟩ ⟨350,0,0,2,0,some (1,327),AKS,[(.ret,AKR)],BO,[],[(0,AEc,AEb)]⟩ Tz Tryz.func350 gF
def AEF:=Chn.g AKT ⟨326,0,0,4,0,some (3,327),AEE,[(.ret,ff)],NG,[],[(0,ve,vb),(1,vd,vZ),(2,vc,vY)]⟩ Rj Tryz.func326 P6
def APZ:=Chn.g AEF ⟨280,0,0,3,0,none,ABV,[(.ret,ff)],NG,[],[]⟩ fc Tryz.func280 ZE
def ALC:=Chn.g APZ ⟨284,0,0,2,0,none,ALB,[(.ret,ALA)],A7,[],[(0,AE0,AEz)]⟩ ki Tryz.func284 gZ
def AEy:=Chn.g ALC ⟨283,0,0,3,0,none,ABV,[(.ret,El)],DH,[],[(0,wv,wu)]⟩ X6 Tryz.func283 Zw
def AKs:=Chn.g AEy ⟨235,0,0,3,0,none,AKr,[(.ret,El)],DH,[(1,[[],[],[],[0],[2]])],[]⟩ kZ Tryz.func235 gT
def APz:=Chn.g AKs ⟨233,0,0,4,0,none,APy,[(.ret,El)],DH,[],[(0,AKa,AKY),(1,AKZ,AKX)]⟩ gI Tryz.func233 Zh
def AEf:=Chn.g APz ⟨234,0,0,2,0,none,AEe,[(.ret,AEd)],BO,[],[(0,wD,wC)]⟩ Ru Tryz.func234 Zg
def AHv:=Chn.g AEf ⟨183,0,0,2,0,none,iW,[(.ret,AHu)],NG,[(5,[[],[10],[0],[0],[0],[0],[18]])],[(0,z8,z7)]⟩ S4 Tryz.func183 Q1
def ASA:=Chn.g AHv ⟨100,0,0,2,0,none,iW,[(.ret,AR9)],DH,[],[]⟩ cH Tryz.func100 cG
def S7:=Chn.g ASA ⟨46,0,0,2,0,none,AN0,[(.ret,ANz)],DH,[],[(0,AH3,AH1),(1,AH2,AH0)]⟩ cO Tryz.func46 VN
theorem AIz:Tryz.f115.body.isSome=true:=by kernel_rfl
theorem AIy : (Tryz.f115.name == "runtime.NumGoroutine") = false := by kernel_rfl
theorem AIx:loops (CE Tryz.f115)=0:=by kernel_rfl
def TU[Lk]:Env:=S7.e.ext 115 false false (CL Tryz.prog S7.e {} Tryz.f115)
theorem Xm:Bn Tryz.prog TU:=Env.CU S7.h (B4 S7.h Tryz.func115 AIz AIy AIx) (by simp) (by simp)
def l8:=Chn.g ⟨TU,Xm⟩ ⟨134,0,1,2,0,some (1,115),Sf,[(.ret,l7)],A7,[],[(0,eM,eL)]⟩ Qo Tryz.func134 Pe
def AKJ:=Chn.g l8 ⟨91,0,0,2,0,none,H4,[(.ret,BP)],A7,[],[(0,AEV,EN)]⟩ ZU Tryz.func91 fv
def AKQ:=Chn.g AKJ ⟨92,0,0,1,0,none,BP,[(.ret,EW)],A7,[],[(0,AEa,ACm)]⟩ Zb Tryz.func92 gE
def AJ0:=Chn.g AKQ ⟨94,0,1,2,0,none,NO,[(.ret,pT)],A7,[],[(0,AEJ,AEI)]⟩ Tq Tryz.func94 fi
def APm:=Chn.g AJ0 ⟨176,0,1,3,0,none,El,[(.ret,ABa)],A7,[],[]⟩ pU Tryz.func176 ZK
def zo:=Chn.g APm ⟨175,0,1,2,0,some (1,176),zm,[(.ret,cC)],A7,[],[(0,sv,su)]⟩ OC Tryz.func175 OB
def AJ2:=Chn.g zo ⟨93,0,1,2,0,none,AJ1,[(.ret,cC)],A7,[],[]⟩ Tt Tryz.func93 Ts
def ZP:=Chn.g AJ2 ⟨41,0,0,2,0,none,H4,[(.ret,NO)],BO,[],[(0,pc,pZ)]⟩ Rq Tryz.func41 WT
theorem AOD : (Tryz.f105.name == "runtime.NumGoroutine") = false := by kernel_rfl
theorem nJ:HQ Tryz.prog Tryz.f105 22 152 (.prod (.int .i64) (.prod (.int .i64) (.prod (.int .i64) (.prod .bool .unit)))) where
 body:=by kernel_rfl
 nt:=by kernel_rfl
 res:=by kernel_rfl
 d:=⟨by kernel_rfl,by kernel_rfl,by kernel_rfl,by kernel_rfl,by kernel_rfl,by kernel_rfl,by kernel_rfl,by kernel_rfl⟩
 g:=⟨by kernel_rfl,by kernel_rfl,by kernel_rfl,by kernel_rfl,by kernel_rfl,by kernel_rfl,by kernel_rfl,by kernel_rfl⟩
 o00:=by kernel_rfl
 o10:=by kernel_rfl
 o11:=by kernel_rfl
 o20:=by kernel_rfl
 o30:=by kernel_rfl
 o31:=by kernel_rfl
 o32:=by kernel_rfl
 o33:=by kernel_rfl
 sl:=by kernel_rfl
 z:=by kernel_rfl
 by1:=by kernel_rfl
def uX[Lk]:Env:=ZP.e.ext 105 true true (ER 152 (.prod (.int .i64) (.prod (.int .i64) (.prod (.int .i64) (.prod .bool .unit)))))
theorem uW:Bn Tryz.prog uX:=Env.CU ZP.h (ON nJ Tryz.func105 AOD) (fun _=>CJ _ _) (fun _=>(CJ _ _).AD0)
def AQ6:=Chn.g ⟨uX,uW⟩ ⟨384,0,0,2,0,none,Ku,[(.ret,BI)],A7,[],[]⟩ C2 Tryz.func384 rh
def AUD:=Chn.g AQ6 ⟨378,0,1,3,0,none,El,[(.ret,JY)],Bw,[(4,[[],[],[],[],[],[],[0],[0],[],[],[],[0],[0]]),(6,[[],[],[],[],[],[],[],[],[0],[0],[],[],[0],[0],[0],[1],[0],[1]])],[(0,ARS,ll),(1,ARR,ARQ)]⟩ AVM Tryz.func378 ART
def APs:=Chn.g AUD ⟨393,0,1,4,0,none,KA,[(.ret,JY)],Bw,[(6,[[],[],[],[],[],[],[],[],[],[],[],[],[0],[0],[],[],[],[],[0],[0],[0],[1],[0],[1]]),(5,[[],[],[],[],[0],[0],[],[],[],[],[0],[0]]),(3,[[],[],[],[],[],[],[],[],[],[0],[0],[],[],[],[],[],[0],[0]])],[(0,AKA,AJ9)]⟩ ASn Tryz.func393 AKB
def ARi:=Chn.g APs ⟨379,0,1,3,0,none,El,[(.ret,JY)],Bw,[(10,[[],[],[],[],[],[],[],[],[],[],[0],[0],[],[],[0],[0],[0],[1],[0],[1]])],[(0,ANA,AM8),(1,AM9,AM7)]⟩ AS1 Tryz.func379 ANB
def AOY:=Chn.g ARi ⟨380,0,1,3,0,none,El,[(.ret,JY)],Bw,[(10,[[],[],[],[],[],[],[],[],[],[],[0],[0],[],[],[0],[0],[0],[1],[0],[1]])],[(0,AIm,ll)]⟩ AOZ Tryz.func380 AIn
def AFo:=Chn.g AOY ⟨397,0,2,4,0,none,AFm,[(.ret,AFl)],BO,[(1,[[],[],[0],[0],[],[],[0],[0]])],[]⟩ AB7 Tryz.func397 yG
def AGB:=Chn.g AFo ⟨395,0,2,5,0,none,AF9,[(.ret,gp)],A7,[],[]⟩ ACK Tryz.func395 yW
def AGN:=Chn.g AGB ⟨394,0,2,3,0,none,AGL,[(.ret,gp)],A7,[],[]⟩ ACP Tryz.func394 yd
def ALP:=Chn.g AGN ⟨381,0,1,3,0,none,El,[(.ret,ALN)],BO,[],[]⟩ ALQ Tryz.func381 AE9
def ATO:=Chn.g ALP ⟨382,0,1,3,0,none,El,[(.ret,JY)],Bw,[(3,[[],[],[],[],[],[],[0],[0],[],[],[0],[0],[0],[1],[0],[1]])],[(0,AP6,ll)]⟩ AU6 Tryz.func382 AP7
def xh:=Chn.g ATO ⟨383,0,1,3,0,none,El,[(.ret,ABa)],A7,[(11,[[],[],[],[],[],[],[],[],[0],[0],[],[],[0],[0],[0],[1],[0],[1]]),(5,[[],[],[],[],[],[],[0],[0],[],[],[],[0],[0]]),(17,[[],[],[],[],[],[],[],[],[0],[0],[],[],[0],[0],[0],[1],[0],[1]]),(16,[[],[],[0],[0],[],[],[],[0],[0]]),(23,[[],[],[],[],[],[],[],[],[0],[0],[],[],[0],[0],[0],[1],[0],[1]]),(22,[[],[],[0],[0],[],[],[],[0],[0]])],[(0,Wb,qo),(1,Wb,qn),(2,qq,qm),(3,qp,ql)]⟩ qt Tryz.func383 qs
def AFY:=Chn.g xh ⟨385,0,1,4,0,none,KA,[(.ret,pT)],A7,[(8,[[],[],[],[],[],[],[0],[0],[],[],[0],[0],[0],[1],[0],[1]]),(3,[[],[],[],[],[],[],[0],[0],[],[],[0],[0]]),(5,[[],[],[],[],[],[],[0],[0],[],[],[0],[0]]),(1,[[],[],[],[],[],[],[0],[0],[],[],[0],[0],[0],[1],[0],[1]])],[(0,QQ,xx),(1,QQ,xw),(2,QQ,xv)]⟩ AB3 Tryz.func385 xy
def YA:=Chn.g AFY ⟨386,0,1,4,0,none,KA,[(.ret,AQm)],BO,[(3,[[],[],[],[],[],[],[0],[0],[],[],[0],[0]]),(5,[[],[],[],[],[],[],[0],[0],[],[],[0],[0]]),(18,[[],[],[],[],[],[],[0],[0],[],[],[0],[0],[0],[1],[0],[1]]),(13,[[],[],[],[],[],[],[0],[0],[],[],[0],[0]]),(15,[[],[],[],[],[],[],[0],[0],[],[],[0],[0]]),(21,[[],[],[],[],[],[],[0],[0],[],[],[0],[0],[0],[1],[0],[1]]),(10,[[],[],[],[],[],[],[0],[0],[],[],[0],[0],[0],[1],[0],[1]]),(8,[[],[],[],[],[],[],[0],[0],[],[],[0],[0],[0],[1],[0],[1]]),(1,[[],[],[],[],[],[],[0],[0],[],[],[0],[0],[0],[1],[0],[1]])],[(0,Nh,ALw),(1,Nh,ALv),(2,Nh,ALu),(3,Nh,ALt),(4,Nh,ALs)]⟩ ASt Tryz.func386 ALx
abbrev xU(self:(List Int×Int×Int×Int×Unit)->Option ((List Int×Unit))):Hints:={ loop:=fun n=>match n with|0=>ME 1 134 ABx ABw (ABv self)|_=>fun _ _ _=>none,fp:=fun n=>match n with|17=>[[],[],[],[],[],[],[0],[0],[],[],[0],[0],[],[],[]]|_=>[] }
abbrev kz(self:(List Int×Int×Int×Int×Unit)->Option ((List Int×Unit))):Env:=YA.e.ext 354 false true (Bb 1 4 KA JY Bw self)
theorem xT(self:(List Int×Int×Int×Int×Unit)->Option ((List Int×Unit))):∀ v,ABv self v=roundOf Tryz.prog (kz self) (xU self) 1 1 134 (DU Tryz.f354 0) ABx ABw v:=by rintro⟨a,b,c,d,e,f,⟨⟩⟩;kernel_rfl
theorem AQY:Cy (DU Tryz.f354 0) 1=[]:=by kernel_rfl
theorem AQZ(self:(List Int×Int×Int×Int×Unit)->Option ((List Int×Unit)))(a:Bn Tryz.prog (kz self)):Jy Tryz.prog 1 (.loop (DU Tryz.f354 0)) ((xU self).loop 0):=SK a (xT self) (Et AQY trivial)
theorem ALc(self:(List Int×Int×Int×Int×Unit)->Option ((List Int×Unit))):∀ v,ATh self v=D5 1 Tryz.prog (kz self) (xU self) Tryz.f354 KA JY Bw v:=by rintro⟨a,b,c,d,⟨⟩⟩;kernel_rfl
theorem ATg:Cy (CE Tryz.f354) 0=[(0,DU Tryz.f354 0)]:=by kernel_rfl
theorem xV:∀ n,BW Tryz.prog 354 (Bb 1 4 KA JY Bw (Z8 n)):=by
 intro n;induction n with
  |zero=>exact KH fun _=>rfl
  |succ n b=>have a:Bn Tryz.prog (kz (Z8 n)):=Env.CU YA.h b ((by simp)) (fun _=>Co rfl rfl);let self:=Z8 n;exact I7 a Tryz.func354 (by kernel_rfl) (by kernel_rfl) rfl (ALc self) (Et ATg ⟨(AQZ self a),trivial⟩)
theorem AFL:BW Tryz.prog 354 (Bb 1 4 KA JY Bw AQb):=by have e:AQb=Z8 100:=funext AQa;rw[e];exact xV _
def AO5[Lk]:Env:=YA.e.ext 354 false true (Bb 1 4 KA JY Bw AQb)
theorem AI5:Bn Tryz.prog AO5:=Env.CU YA.h AFL ((by simp)) (fun _=>Co rfl rfl)
def APh:=Chn.g ⟨AO5,AI5⟩ ⟨336,0,1,1,0,none,EW,[(.ret,JY)],Bw,[],[]⟩ pS Tryz.func336 AJw
def AUc:=Chn.g APh ⟨333,0,0,3,0,some (2,169),AUb,[(.ret,nw)],BO,[(5,[[],[],[],[],[],[0]]),(8,[[],[],[],[],[],[],[],[],[],[],[0]])],[(0,ASS,ASR)]⟩ AOh Tryz.func333 AC0
def SJ:=Chn.g AUc ⟨298,0,0,3,0,none,SH,[(.ret,nw)],BO,[],[]⟩ yi Tryz.func298 gu
theorem yS:Tryz.f335.body.isSome=true:=by kernel_rfl
theorem yR : (Tryz.f335.name == "runtime.NumGoroutine") = false := by kernel_rfl
theorem yQ:loops (CE Tryz.f335)=0:=by kernel_rfl
def Pr[Lk]:Env:=SJ.e.ext 335 false false (CL Tryz.prog SJ.e {} Tryz.f335)
theorem Vu:Bn Tryz.prog Pr:=Env.CU SJ.h (B4 SJ.h Tryz.func335 yS yR yQ) (by simp) (by simp)
def bR:=Chn.g ⟨Pr,Vu⟩ ⟨134,0,2,2,0,some (1,335),Ny,[(.ret,bQ)],A7,[],[(0,XR,XQ)]⟩ MP Tryz.func134 M0
def ARm:=Chn.g bR ⟨251,0,0,2,0,none,ARl,[(.ret,ACY)],A7,[],[]⟩ ACZ Tryz.func251 sG
def PF:=Chn.g ARm ⟨193,0,0,1,0,none,AIL,[(.ret,ACY)],A7,[],[(0,AAS,AAQ),(1,AAR,AAP)]⟩ TD Tryz.func193 cf
theorem AK5:Tryz.f254.body.isSome=true:=by kernel_rfl
theorem AK4 : (Tryz.f254.name == "runtime.NumGoroutine") = false := by kernel_rfl
theorem AK3:loops (CE Tryz.f254)=0:=by kernel_rfl
theorem ATs:Tryz.f253.body.isSome=true:=by kernel_rfl
theorem ATr : (Tryz.f253.name == "runtime.NumGoroutine") = false := by kernel_rfl
theorem ATq:loops (CE Tryz.f253)=0:=by kernel_rfl
theorem AH9:Tryz.f212.body.isSome=true:=by kernel_rfl
theorem AH8 : (Tryz.f212.name == "runtime.NumGoroutine") = false := by kernel_rfl
theorem AH7:loops (CE Tryz.f212)=0:=by kernel_rfl
def TT[Lk]:Env:=PF.e.ext 212 false false (CL Tryz.prog PF.e {} Tryz.f212)
theorem Xl:Bn Tryz.prog TT:=Env.CU PF.h (B4 PF.h Tryz.func212 AH9 AH8 AH7) (by simp) (by simp)
def EV:=Chn.g ⟨TT,Xl⟩ ⟨134,0,1,2,0,some (1,212),KO,[(.ret,Se)],A7,[],[(0,Qn,Qm)]⟩ ID Tryz.func134 Jf
theorem AUl:Tryz.f141.body.isSome=true:=by kernel_rfl
theorem AUk : (Tryz.f141.name == "runtime.NumGoroutine") = false := by kernel_rfl
theorem AUj:loops (CE Tryz.f141)=0:=by kernel_rfl
def jS[Lk]:Env:=EV.e.ext 141 false false (CL Tryz.prog EV.e {} Tryz.f141)
theorem oK:Bn Tryz.prog jS:=Env.CU EV.h (B4 EV.h Tryz.func141 AUl AUk AUj) (by simp) (by simp)
def S':=Chn.g ⟨jS,oK⟩ ⟨140,0,2,2,0,some (1,141),AN9,[(.ret,AN8)],A7,[],[(0,AII,AIH)]⟩ ca Tryz.func140 ij
theorem AUi:Tryz.f142.body.isSome=true:=by kernel_rfl
theorem AUh : (Tryz.f142.name == "runtime.NumGoroutine") = false := by kernel_rfl
theorem AUg:loops (CE Tryz.f142)=0:=by kernel_rfl
def jR[Lk]:Env:=S'.e.ext 142 false false (CL Tryz.prog S'.e {} Tryz.f142)
theorem oJ:Bn Tryz.prog jR:=Env.CU S'.h (B4 S'.h Tryz.func142 AUi AUh AUg) (by simp) (by simp)
def AN7:=Chn.g ⟨jR,oJ⟩ ⟨140,0,0,2,0,some (1,142),AN6,[(.ret,BP)],A7,[],[(0,AIF,AIE)]⟩ nE Tryz.func140 ig
def ADP:=Chn.g AN7 ⟨83,0,0,2,0,none,fD,[(.ret,nw)],BO,[],[]⟩ RJ Tryz.func83 Ye
def AR3:=Chn.g ADP ⟨107,0,0,2,0,none,ae,[(.ret,BP)],A7,[],[]⟩ C4 Tryz.func107 sM
def AT9:=Chn.g AR3 ⟨239,0,1,4,0,some (3,107),UT,[(.ret,JW)],Bw,[(4,[[],[],[],[],[],[],[],[0],[0],[],[],[],[0],[0]]),(6,[[],[],[],[],[],[],[],[],[0],[0],[],[],[0],[0],[0],[1],[0],[1]])],[(0,ARK,lh),(1,ARJ,ARI)]⟩ AVK Tryz.func239 ARL
def APo:=Chn.g AT9 ⟨293,0,1,5,0,some (4,107),J_,[(.ret,JW)],Bw,[(6,[[],[],[],[],[],[],[],[],[],[],[],[],[0],[0],[],[],[],[],[0],[0],[0],[1],[0],[1]]),(5,[[],[],[],[],[],[0],[0],[],[],[],[],[0],[0]]),(3,[[],[],[],[],[],[],[],[],[],[],[0],[0],[],[],[],[],[],[0],[0]])],[(0,AJ4,AJ3)]⟩ ASl Tryz.func293 AJ5
def ARe:=Chn.g APo ⟨240,0,1,4,0,some (3,107),UT,[(.ret,JW)],Bw,[(10,[[],[],[],[],[],[],[],[],[],[],[0],[0],[],[],[0],[0],[0],[1],[0],[1]])],[(0,AM0,AMy),(1,AMz,AMx)]⟩ ASz Tryz.func240 AM1
def AOT:=Chn.g ARe ⟨241,0,1,4,0,some (3,107),UT,[(.ret,JW)],Bw,[(10,[[],[],[],[],[],[],[],[],[],[],[0],[0],[],[],[0],[0],[0],[1],[0],[1]])],[(0,AIi,lh)]⟩ breakT Tryz.func241 AIj
def AFg:=Chn.g AOT ⟨332,0,2,5,0,some (4,107),AFe,[(.ret,AFd)],BO,[(1,[[],[],[],[0],[0],[],[],[0],[0]])],[]⟩ AB5 Tryz.func332 yE
def AF5:=Chn.g AFg ⟨297,0,2,6,0,some (5,107),AF3,[(.ret,gm)],A7,[],[]⟩ ACI Tryz.func297 yU
def AGH:=Chn.g AF5 ⟨296,0,2,4,0,some (3,107),AGF,[(.ret,gm)],A7,[],[]⟩ ACN Tryz.func296 yZ
def ALH:=Chn.g AGH ⟨242,0,1,4,0,some (3,107),UT,[(.ret,ALF)],BO,[],[]⟩ ALI Tryz.func242 AE7
def ATK:=Chn.g ALH ⟨243,0,1,4,0,some (3,107),UT,[(.ret,JW)],Bw,[(3,[[],[],[],[],[],[],[0],[0],[],[],[0],[0],[0],[1],[0],[1]])],[(0,AP2,lh)]⟩ AU4 Tryz.func243 AP3
def xc:=Chn.g ATK ⟨244,0,1,4,0,some (3,107),UT,[(.ret,xa)],A7,[(11,[[],[],[],[],[],[],[],[],[0],[0],[],[],[0],[0],[0],[1],[0],[1]]),(5,[[],[],[],[],[],[],[],[0],[0],[],[],[],[0],[0]]),(17,[[],[],[],[],[],[],[],[],[0],[0],[],[],[0],[0],[0],[1],[0],[1]]),(16,[[],[],[],[0],[0],[],[],[],[0],[0]]),(23,[[],[],[],[],[],[],[],[],[0],[0],[],[],[0],[0],[0],[1],[0],[1]]),(22,[[],[],[],[0],[0],[],[],[],[0],[0]])],[(0,WZ,qY),(1,WZ,qX),(2,qa,qW),(3,qZ,qV)]⟩ qc Tryz.func244 qb
def AFT:=Chn.g xc ⟨245,0,1,5,0,some (4,107),J_,[(.ret,AFR)],A7,[(8,[[],[],[],[],[],[],[0],[0],[],[],[0],[0],[0],[1],[0],[1]]),(3,[[],[],[],[],[],[],[],[0],[0],[],[],[0],[0]]),(5,[[],[],[],[],[],[],[],[0],[0],[],[],[0],[0]]),(1,[[],[],[],[],[],[],[0],[0],[],[],[0],[0],[0],[1],[0],[1]])],[(0,QO,xo),(1,QO,xn),(2,QO,xm)]⟩ AB1 Tryz.func245 xp
def X_:=Chn.g AFT ⟨246,0,1,5,0,some (4,107),J_,[(.ret,AQi)],BO,[(3,[[],[],[],[],[],[],[],[0],[0],[],[],[0],[0]]),(5,[[],[],[],[],[],[],[],[0],[0],[],[],[0],[0]]),(18,[[],[],[],[],[],[],[0],[0],[],[],[0],[0],[0],[1],[0],[1]]),(13,[[],[],[],[],[],[],[],[0],[0],[],[],[0],[0]]),(15,[[],[],[],[],[],[],[],[0],[0],[],[],[0],[0]]),(21,[[],[],[],[],[],[],[0],[0],[],[],[0],[0],[0],[1],[0],[1]]),(10,[[],[],[],[],[],[],[0],[0],[],[],[0],[0],[0],[1],[0],[1]]),(8,[[],[],[],[],[],[],[0],[0],[],[],[0],[0],[0],[1],[0],[1]]),(1,[[],[],[],[],[],[],[0],[0],[],[],[0],[0],[0],[1],[0],[1]])],[(0,Nd,ALk),(1,Nd,ALj),(2,Nd,ALi),(3,Nd,ALh),(4,Nd,ALg)]⟩ ASr Tryz.func246 ALl
abbrev xO(self:(List (Int×Int×Int×Bool×Unit)×Int×Int×Int×Unit)->Option ((List (Int×Int×Int×Bool×Unit)×Unit))):Hints:={ loop:=fun n=>match n with|0=>ME 1 148 ABr ABq (ABp self)|_=>fun _ _ _=>none,fp:=fun n=>match n with|17=>[[],[],[],[],[],[],[],[0],[0],[],[],[0],[0],[],[],[],[]]|_=>[] }
abbrev ku(self:(List (Int×Int×Int×Bool×Unit)×Int×Int×Int×Unit)->Option ((List (Int×Int×Int×Bool×Unit)×Unit))):Env:=X_.e.ext 186 false true (Bb 1 5 J_ JW Bw self)
theorem xN(self:(List (Int×Int×Int×Bool×Unit)×Int×Int×Int×Unit)->Option ((List (Int×Int×Int×Bool×Unit)×Unit))):∀ v,ABp self v=roundOf Tryz.prog (ku self) (xO self) 1 1 148 (DU Tryz.f186 0) ABr ABq v:=by rintro⟨a,b,c,d,e,f,⟨⟩⟩;kernel_rfl
theorem AQQ:Cy (DU Tryz.f186 0) 1=[]:=by kernel_rfl
theorem AQR(self:(List (Int×Int×Int×Bool×Unit)×Int×Int×Int×Unit)->Option ((List (Int×Int×Int×Bool×Unit)×Unit)))(a:Bn Tryz.prog (ku self)):Jy Tryz.prog 1 (.loop (DU Tryz.f186 0)) ((xO self).loop 0):=SK a (xN self) (Et AQQ trivial)
theorem ALa(self:(List (Int×Int×Int×Bool×Unit)×Int×Int×Int×Unit)->Option ((List (Int×Int×Int×Bool×Unit)×Unit))):∀ v,ATd self v=D5 1 Tryz.prog (ku self) (xO self) Tryz.f186 J_ JW Bw v:=by rintro⟨a,b,c,d,⟨⟩⟩;kernel_rfl
theorem ATc:Cy (CE Tryz.f186) 0=[(0,DU Tryz.f186 0)]:=by kernel_rfl
theorem xP:∀ n,BW Tryz.prog 186 (Bb 1 5 J_ JW Bw (Z6 n)):=by
 intro n;induction n with
  |zero=>exact KH fun _=>rfl
  |succ n b=>have a:Bn Tryz.prog (ku (Z6 n)):=Env.CU X_.h b ((by simp)) (fun _=>Co rfl rfl);let self:=Z6 n;exact I7 a Tryz.func186 (by kernel_rfl) (by kernel_rfl) rfl (ALa self) (Et ATc ⟨(AQR self a),trivial⟩)
theorem AFJ:BW Tryz.prog 186 (Bb 1 5 J_ JW Bw AQT):=by have e:AQT=Z6 100:=funext AQS;rw[e];exact xP _
def AO3[Lk]:Env:=X_.e.XX 186 4 107 (Bb 1 5 J_ JW Bw AQT)
theorem AI3:Bn Tryz.prog AO3:=Env.Su X_.h AFJ (Co rfl rfl)
def APd:=Chn.g ⟨AO3,AI3⟩ ⟨106,0,1,2,0,some (1,107),APb,[(.ret,JW)],Bw,[],[]⟩ ABW Tryz.func106 AJu
def ARp:=Chn.g APd ⟨103,0,0,2,0,none,Nq,[(.ret,BI)],A7,[],[]⟩ ACb Tryz.func103 sI
def mw:=Chn.g ARp ⟨190,0,3,2,8,some (1,191),Sh,[(.ret,mv)],A7,[],[(0,eU,eT)]⟩ Mj Tryz.func190 Pn
def zJ:=Chn.g mw ⟨128,0,0,1,0,none,BP,[(.ret,BI)],A7,[],[]⟩ N1 Tryz.func128 Wo
def RR:=Chn.g zJ ⟨221,0,0,1,0,none,BP,[(.ret,BI)],A7,[],[]⟩ wb1 Tryz.func221 AJE
set_option maxHeartbeats 8000000
attribute [local irreducible] A2 A9 BV C5 IF Dm A4 Cd Cp imax idx Ci ilt ile ieq seq? quo? rem? shl? shr? fits Ca IntKind.wrap A_ BG R1 rN Bc XY A8 many Q3
abbrev AaX:Loc×Con:=(.cell 0 0,.dat (.slice (.int .u8)))
abbrev AaY:Loc×Con:=(.tmp 0,.box 2)
abbrev F7:A1:=[AaY,AaX,AZf,(.tmp 1,.clo 221 [])]
abbrev F6:A1:=[AB,AYu,AaX,AZf]
abbrev Hh:List RS:=[.one]
abbrev Kp:A1:=[AYu]
def RP[Lk]:Hints:={ fp:=Sr [(1,[[],[0],[0],[0],[],[0],[0],[0]]),(3,[[],[0],[0],[0],[],[0],[0],[0]])] }
def M'[Lk](v:Be (leaves F7)):Option (Be (leaves F6)⊕(List Int×Be (leaves Kp))):=Lk.f (Cm 1 Tryz.prog RR.e RP Tryz.f220 F7 F6 Hh 239 [.i64,.i64] Kp v)
theorem Tb(v):M' v=Cm 1 Tryz.prog RR.e RP Tryz.f220 F7 F6 Hh 239 [.i64,.i64] Kp v:=A0 _
theorem RO:Bx Tryz.prog 1 RP (CE Tryz.f220) 0:=DF _ 0 (by kernel_rfl)
theorem ADU:Hf Tryz.prog 220 (Bb 1 2 F7 F6 Hh fun x=>DV (M' x)) (IJ 1 2 F7 F6 Hh 239 [.i64,.i64] Kp M'):=K8 RR.h.1 RR.h.2.1 RR.h.2.2 Tryz.func220 (Gb (by kernel_rfl)) (Cb Tryz.func220 (by kernel_rfl) (by kernel_rfl)) (AWl rfl) Tb RO
theorem ADT:BW Tryz.prog 220 (Bb 1 2 F7 F6 Hh fun x=>DV (M' x)):=K6 RR.h Tryz.func220 (by kernel_rfl) (by kernel_rfl) rfl Tb RO
def OY[Lk]:Env:=Env.Wv RR.e 220 1 221 (Bb 1 2 F7 F6 Hh fun x=>DV (M' x)) (IJ 1 2 F7 F6 Hh 239 [.i64,.i64] Kp M')
theorem H8:Bn Tryz.prog OY:=Env.sW RR.h ADT ADU (Co rfl rfl)
abbrev Fz:A1:=[AaY,AaX,AZf,(.tmp 1,.clo 164 [])]
abbrev Fy:A1:=[AB,AYu,AaX,AZf]
abbrev Hg:List RS:=[.one]
abbrev Ko:A1:=[AYu]
def RN[Lk]:Hints:={ fp:=Sr [(1,[[],[0],[0],[0],[],[0],[0],[0]]),(3,[[],[0],[0],[0],[],[0],[0],[0]])] }
def M_[Lk](v:Be (leaves Fz)):Option (Be (leaves Fy)⊕(List Int×Be (leaves Ko))):=Lk.f (Cm 1 Tryz.prog OY RN Tryz.f220 Fz Fy Hg 239 [.i64,.i64] Ko v)
theorem Ta(v):M_ v=Cm 1 Tryz.prog OY RN Tryz.f220 Fz Fy Hg 239 [.i64,.i64] Ko v:=A0 _
theorem RM:Bx Tryz.prog 1 RN (CE Tryz.f220) 0:=DF _ 0 (by kernel_rfl)
theorem ADR:Hf Tryz.prog 220 (Bb 1 2 Fz Fy Hg fun x=>DV (M_ x)) (IJ 1 2 Fz Fy Hg 239 [.i64,.i64] Ko M_):=K8 H8.1 H8.2.1 H8.2.2 Tryz.func220 (Gb (by kernel_rfl)) (Cb Tryz.func220 (by kernel_rfl) (by kernel_rfl)) (AWl rfl) Ta RM
theorem ADQ:BW Tryz.prog 220 (Bb 1 2 Fz Fy Hg fun x=>DV (M_ x)):=K6 H8 Tryz.func220 (by kernel_rfl) (by kernel_rfl) rfl Ta RM
def OX[Lk]:Env:=Env.Wv OY 220 1 164 (Bb 1 2 Fz Fy Hg fun x=>DV (M_ x)) (IJ 1 2 Fz Fy Hg 239 [.i64,.i64] Ko M_)
theorem H7:Bn Tryz.prog OX:=Env.sW H8 ADQ ADR (Co rfl rfl)
abbrev IP:A1:=[AaY,AaX,AZf]
abbrev IN:A1:=[AB,AYu,AaX,AZf]
abbrev J6:List RS:=[.one]
abbrev Oe:A1:=[AYu]
def Xn[Lk]:Hints:={ fp:=Sr [(1,[[],[0],[0],[0],[],[0],[0],[0]])] }
def Vz[Lk](v:Be (leaves IP)):Option (Be (leaves IN)⊕(List Int×Be (leaves Oe))):=Lk.f (Cm 1 Tryz.prog OX Xn Tryz.f222 IP IN J6 239 [.i64,.i64] Oe v)
theorem Yd(v):Vz v=Cm 1 Tryz.prog OX Xn Tryz.f222 IP IN J6 239 [.i64,.i64] Oe v:=A0 _
theorem Vy:Bx Tryz.prog 1 Xn (CE Tryz.f222) 0:=DF _ 0 (by kernel_rfl)
theorem AI9:Hf Tryz.prog 222 (Bb 1 1 IP IN J6 fun x=>DV (Vz x)) (IJ 1 1 IP IN J6 239 [.i64,.i64] Oe Vz):=K8 H7.1 H7.2.1 H7.2.2 Tryz.func222 (Gb (by kernel_rfl)) (Cb Tryz.func222 (by kernel_rfl) (by kernel_rfl)) (AWl rfl) Yd Vy
theorem AI8:BW Tryz.prog 222 (Bb 1 1 IP IN J6 fun x=>DV (Vz x)):=K6 H7 Tryz.func222 (by kernel_rfl) (by kernel_rfl) rfl Yd Vy
def Mt[Lk]:Env:=Env.mg OX 222 true (Bb 1 1 IP IN J6 fun x=>DV (Vz x)) (IJ 1 1 IP IN J6 239 [.i64,.i64] Oe Vz)
theorem Ev:Bn Tryz.prog Mt:=Env.YN H7 AI8 AI9 (fun _=>Co rfl rfl)
abbrev AaZ:Loc×Con:=(.cell 1 2,.own 46 (.prod (.int .i64) (.prod (.int .i64) (.prod (.int .i64) .unit))))
abbrev Aaa:Loc×Con:=(.cell 1 1,.own 88 (.prod (.int .i64) (.prod (.int .i64) .unit)))
abbrev Ol:A1:=[AaY,AaX,AZf,AZi,AQ,Aaa,AaZ,AaD,(.tmp 20,.di)]
abbrev Oj:BH:=[(.exit 0,[AaY,AaX,AZf,AZi,AQ,Aaa,AaZ])]
abbrev Oi:A1:=[AYu]
def fG[Lk]:Hints:={ fp:=Sr [(9,[[2],[2],[],[1000005,1],[],[1000005,1],[],[1000005,1],[],[],[7,32],[2],[3]]),(10,[[2],[2],[],[1000005,1],[],[1000005,1],[],[],[5,24],[2],[3]])] }
theorem RQ:Bx Tryz.prog 1 { fp:=Sr [(9,[[2],[2],[],[1000005,1],[],[1000005,1],[],[1000005,1],[],[],[7,32],[2],[3]]),(10,[[2],[2],[],[1000005,1],[],[1000005,1],[],[],[5,24],[2],[3]])],loop:=fun _=>MD 1 49 Ol Oj 239 [.i64,.i64] Oi (JJ Tryz.prog Mt fG 1 1 49 (DU Tryz.f157 0) Ol Oj 239 [.i64,.i64] Oi) } (CE Tryz.f157) 0:=XD (l:=[(0,(DU Tryz.f157 0))]) (by kernel_rfl) ⟨aX Ev.1 Ev.2.1 Ev.2.2 (fun _=>rfl) (DF _ _ (by kernel_rfl)),trivial⟩
abbrev F9:A1:=[AaY,AaX,AZf]
abbrev F8:A1:=[(.tmp 0,.dat (.prod (.int .i64) (.prod (.slice (.prod (.int .i64) (.prod (.int .i64) .unit))) (.prod (.slice (.prod (.int .i64) (.prod (.int .i64) (.prod (.int .i64) .unit)))) .unit)))),AYu,AaX,AZf]
abbrev Hi:List RS:=[.one]
abbrev Kq:A1:=[AYu]
def Yj[Lk]:Hints:={ fp:=Sr [(9,[[2],[2],[],[1000005,1],[],[1000005,1],[],[1000005,1],[],[],[7,32],[2],[3]]),(10,[[2],[2],[],[1000005,1],[],[1000005,1],[],[],[5,24],[2],[3]])],loop:=fun _=>MD 1 49 Ol Oj 239 [.i64,.i64] Oi (JJ Tryz.prog Mt fG 1 1 49 (DU Tryz.f157 0) Ol Oj 239 [.i64,.i64] Oi) }
def NB[Lk](v:Be (leaves F9)):Option (Be (leaves F8)⊕(List Int×Be (leaves Kq))):=Lk.f (Cm 1 Tryz.prog Mt Yj Tryz.f157 F9 F8 Hi 239 [.i64,.i64] Kq v)
theorem Tc(v):NB v=Cm 1 Tryz.prog Mt Yj Tryz.f157 F9 F8 Hi 239 [.i64,.i64] Kq v:=A0 _
theorem ADX:Hf Tryz.prog 157 (Bb 1 1 F9 F8 Hi fun x=>DV (NB x)) (IJ 1 1 F9 F8 Hi 239 [.i64,.i64] Kq NB):=K8 Ev.1 Ev.2.1 Ev.2.2 Tryz.func157 (Gb (by kernel_rfl)) (Cb Tryz.func157 (by kernel_rfl) (by kernel_rfl)) (AWl rfl) Tc RQ
theorem ADW:BW Tryz.prog 157 (Bb 1 1 F9 F8 Hi fun x=>DV (NB x)):=K6 Ev Tryz.func157 (by kernel_rfl) (by kernel_rfl) rfl Tc RQ
def OZ[Lk]:Env:=Env.mg Mt 157 false (Bb 1 1 F9 F8 Hi fun x=>DV (NB x)) (IJ 1 1 F9 F8 Hi 239 [.i64,.i64] Kq NB)
theorem H9:Bn Tryz.prog OZ:=Env.YN Ev ADW ADX (by simp)
abbrev Aab:Loc×Con:=(.tmp 2,.own 91 (.prod (.int .i64) (.prod (.slice (.prod (.int .i64) (.prod (.int .i64) .unit))) (.prod (.slice (.prod (.int .i64) (.prod (.int .i64) (.prod (.int .i64) .unit)))) .unit))))
abbrev Aac:Loc×Con:=(.cell 2 0,.dat (.slice (.int .u8)))
abbrev Lp:A1:=[As,Au,AN,AQ,(.tmp 5,.box 2),Aac,AZ4,AaT,Aab]
abbrev Lo:BH:=[(.exit 0,[As,Au,AN,AQ,(.tmp 5,.box 2),Aac,AZ4,AaT,Aab])]
abbrev Ln:A1:=[As,Au,AN,AQ,Aab]
def Yk[Lk]:Hints:={}
theorem dS[DfI]:Bx Tryz.prog 2 { fp:=Sr [(5,[[],[],[4],[4],[4],[],[1],[3]])],loop:=fun _=>MD 2 27 Lp Lo 239 [.i64,.i64] Ln (JJ Tryz.prog OZ Yk 1 2 27 (DU Tryz.f77 0) Lp Lo 239 [.i64,.i64] Ln) } (tV 1 (CE Tryz.f77)) 0:=XD (l:=[(0,(DU Tryz.f77 0))]) (by kernel_rfl) ⟨aX H9.1 H9.2.1 H9.2.2 (fun _=>rfl) (DF _ _ (by kernel_rfl)),trivial⟩
def Lh[Lk]:Env:=OZ.ext 156 false false (CL Tryz.prog OZ {} Tryz.f156)
theorem Im:Bn Tryz.prog Lh:=Env.CU H9 (B4 H9 Tryz.func156 (by kernel_rfl) (by kernel_rfl) (by kernel_rfl)) (by simp) (by simp)
abbrev Ip:A1:=[AaT]
abbrev Io:A1:=[(.tmp 0,.dat (.slice (.prod (.int .i64) (.prod (.slice (.prod (.int .i64) (.prod (.int .i64) .unit))) (.prod (.slice (.prod (.int .i64) (.prod (.int .i64) (.prod (.int .i64) .unit)))) .unit))))),AI,AJ]
abbrev Kr:List RS:=[.one,.one,.one]
abbrev Td:A1:=[As,Au,AN,AQ,AaT,(.tmp 2,.nil (.prod (.int .i64) (.prod (.slice (.prod (.int .i64) (.prod (.int .i64) .unit))) (.prod (.slice (.prod (.int .i64) (.prod (.int .i64) (.prod (.int .i64) .unit)))) .unit))))]
def Pu[Lk]:Hints:={ fp:=Sr [(5,[[],[],[4],[4],[4],[],[1],[3]])],loop:=fun _=>MD 2 27 Lp Lo 239 [.i64,.i64] Ln (JJ Tryz.prog OZ Yk 1 2 27 (DU Tryz.f77 0) Lp Lo 239 [.i64,.i64] Ln) }
def Pt:Hints:={ fp:=Sr [(2,[[14],[14],[14],[14],[1],[3]])] }
def J7[Lk](v:Be (leaves Ip)):Option (Be (leaves Io)):=Lk.f (Nc Tryz.prog Lh Tryz.f77 1 Ip Io Kr {} Pu Pt Td 2 v)
theorem Yl(v):J7 v=Nc Tryz.prog Lh Tryz.f77 1 Ip Io Kr {} Pu Pt Td 2 v:=A0 _
theorem jc:BW Tryz.prog 77 (Bb 0 1 Ip Io Kr J7):=rP Im.1 Im.2.1 Im.2.2 Tryz.func77 (Gb (by kernel_rfl)) (Cb Tryz.func77 (by kernel_rfl) (by kernel_rfl)) (AWl rfl) Yl dS
def jM[Lk]:Env:=Lh.ext 77 true true (Bb 0 1 Ip Io Kr J7)
theorem oE:Bn Tryz.prog jM:=Env.CU Im jc (fun _=>MB rfl rfl) (fun _=>Co rfl rfl)
end
end Go.Pev
end
section
namespace Go.Pev
noncomputable section
def ABb[Lk]:U9->Option (Ua):=fun(a,_)=>
 some ((ieq a (w64 (IntKind.wrap .u16 a))),())
def AKH[Lk]:=lkk ABb
theorem AKG v:AKH v=ABb v:=A0 _
abbrev Nz:A1:=[AD,(.tmp 1,.clo 150 [])]
abbrev XT:A1:=[AD,(.tmp 1,.clo 150 []),AU,AT]
def XS[Lk]:Uh->Option (Uh⊕U9⊕(Unit)⊕Unit):=fun(b,c,a,_)=>
 match(ilt a c)with
 |true=>match idx b a with|none=>none|some d=>match AKH (d,())with|none=>none|some (e,_)=>match(!e)with
  |true=>some (.inr (.inl (a,())))
  |false=>some (.inl (b,c,(w64 (a+1)),()))
 |false=>some (.inr (.inr (.inl ())))
def N0[Lk]:Ue->Option (U9):=fun(a,_)=>
 match A8 XS many (a,(A2 a),0,())with|none=>none|some r=>match r with
 |.inl (b,_)=>some (b,())
 |.inr r=>match r with
 |.inl _=>some ((-1:Int),())
 |.inr _=>none
def MQ[Lk]:=lkk N0
theorem XU v:MQ v=N0 v:=A0 _
def M4[Lk]:Ue->Option (Ua):=fun(a,_)=>
 match MQ (a,())with|none=>none|some (b,_)=>some ((ile 0 b),())
def Ki[Lk]:=lkk M4
theorem VR v:Ki v=M4 v:=A0 _
def fq[Lk]:U9->Option (Ua):=fun(a,_)=>
 match(ile 0 a)with
 |true=>some ((ile a 65535),())
 |false=>some (false,())
def Ro[Lk]:=lkk fq
theorem vl v:Ro v=fq v:=A0 _
abbrev API:A1:=[(.tmp 0,.own 5 (.int .u8))]
def ABK[Lk]:U9->Option (Ue):=fun(a,_)=>
 match quo? .i64 a 256 with|none=>none|some b=>match rem? a 256 with|none=>none|some c=>some (([(IntKind.wrap .u8 b),(IntKind.wrap .u8 c)]:List (Int)),())
def og[Lk]:=lkk ABK
theorem AJJ v:og v=ABK v:=A0 _
abbrev b7:A1:=[(.tmp 0,.dat Up)]
abbrev Mf:A1:=[(.tmp 0,.own 5 (.int .u8)),AI]
abbrev Aad:Loc×Con:=(.tmp 4,.own 5 (.int .u8))
abbrev sj:A1:=[AZX,AN,AZf,(.cell 0 2,.dat U6),Aad,AG]
abbrev N_:BH:=[(.ret,[(.tmp 2,.nil (.int .u8)),AX]),(.exit 0,[Aad])]
def si[Lk]:(Int×Int×List Int×List Int×Int×Unit)->Option ((Int×Int×List Int×List Int×Int×Unit)⊕U9⊕Ue⊕Unit):=fun(e,f,a,c,b,_)=>
 match(ilt b (A2 a))with
 |true=>match idx a b with|none=>none|some g=>match Ro (g,())with|none=>none|some (h,_)=>match(!h)with
  |true=>some (.inr (.inl (1,())))
  |false=>match idx a b with|none=>none|some i=>match og (i,())with|none=>none|some (d,_)=>match(fits ((A2 c)+(A2 d)))with
  |true=>some (.inl (e,f,a,(BV c d),(w64 (b+1)),()))
  |false=>none
 |false=>some (.inr (.inr (.inl (c,()))))
def b8[Lk]:(Ug×Unit)->Option (Uf):=fun(a,_)=>
 match(ilt a.1 0)with
 |true=>some (([]:List (Int)),1,())
 |false=>match(ilt 255 a.1)with
 |true=>some (([]:List (Int)),1,())
 |false=>match Ro (a.2.1,())with|none=>none|some (d,_)=>match(!d)with
 |true=>some (([]:List (Int)),1,())
 |false=>match Ro ((A2 a.2.2.1),())with|none=>none|some (e,_)=>match(!e)with
 |true=>some (([]:List (Int)),1,())
 |false=>match og (a.2.1,())with|none=>none|some (b,_)=>match(fits ((A2 ([(IntKind.wrap .u8 a.1)]:List (Int)))+(A2 b)))with
 |true=>match og ((A2 a.2.2.1),())with|none=>none|some (c,_)=>match(fits ((A2 (BV ([(IntKind.wrap .u8 a.1)]:List (Int)) b))+(A2 c)))with
  |true=>match A8 si many (a.1,a.2.1,a.2.2.1,(BV (BV ([(IntKind.wrap .u8 a.1)]:List (Int)) b) c),0,())with|none=>none|some r=>match r with
   |.inl (f,_)=>some (([]:List (Int)),f,())
   |.inr r=>match r with
   |.inl (g,_)=>some (g,0,())
   |.inr _=>none
  |false=>none
 |false=>none
def b9[Lk]:=lkk b8
theorem sk v:b9 v=b8 v:=A0 _
abbrev AKM:A1:=[(.tmp 0,.dat Up),(.tmp 1,.dat Up)]
def ZX[Lk]:(Ug×Ug×Unit)->Option (Ua):=fun(a,b,_)=>
 match(ieq a.1 b.1)with
 |true=>match(ieq a.2.1 b.2.1)with
  |true=>match Qi (a.2.2.1,b.2.2.1,())with|none=>none|some (c,_)=>some (c,())
  |false=>some (false,())
 |false=>some (false,())
def QA[Lk]:=lkk ZX
theorem fy v:QA v=ZX v:=A0 _
abbrev pn:A1:=[AYx,(.tmp 1,.dat Uk)]
abbrev Aae:Loc×Con:=(.tmp 3,.box 2)
abbrev AEY:A1:=[AP,AN,AY4,Aae,AQ,(.cell 1 1,.dat Uq),AG]
def Iw[Lk]:(Int×List U2×Int×List U2×Int×Unit)->Option ((Int×List U2×Int×List U2×Int×Unit)⊕Ua⊕(Unit)⊕Unit):=fun(f,d,g,e,a,_)=>
 match(ilt a (A2 d))with
 |true=>match idx d a with|none=>none|some b=>match idx e a with|none=>none|some c=>match(!(ieq b.1 c.1&&(ieq b.2.1 c.2.1&&(ieq b.2.2.1 c.2.2.1&&((b.2.2.2.1==c.2.2.2.1)&&true)))))with
  |true=>some (.inr (.inl (false,())))
  |false=>some (.inl (f,d,g,e,(w64 (a+1)),()))
 |false=>some (.inr (.inr (.inl ())))
def ZY[Lk]:(Uc×Uc×Unit)->Option (Ua):=fun(a,b,_)=>
 match(!(ieq a.1 b.1))with
 |true=>some (false,())
 |false=>match(!(ieq (A2 a.2.1) (A2 b.2.1)))with
 |true=>some (false,())
 |false=>match A8 Iw many (a.1,a.2.1,b.1,b.2.1,0,())with|none=>none|some r=>match r with
 |.inl (c,_)=>some (c,())
 |.inr r=>match r with
 |.inl _=>some (true,())
 |.inr _=>none
def QB[Lk]:=lkk ZY
theorem gD v:QB v=ZY v:=A0 _
abbrev ANg:A1:=[AaK,AZ1]
abbrev AHe:A1:=[AaK,AZ1,AR,AS]
def AHd[Lk]:(List U2×List U2×Int×Int×Unit)->Option ((List U2×List U2×Int×Int×Unit)⊕Ua⊕(Unit)⊕Unit):=fun(d,e,f,a,_)=>
 match(ilt a f)with
 |true=>match idx d a with|none=>none|some b=>match idx e a with|none=>none|some c=>match(!(ieq b.1 c.1&&(ieq b.2.1 c.2.1&&(ieq b.2.2.1 c.2.2.1&&((b.2.2.2.1==c.2.2.2.1)&&true)))))with
  |true=>some (.inr (.inl (false,())))
  |false=>some (.inl (d,e,f,(w64 (a+1)),()))
 |false=>some (.inr (.inr (.inl ())))
def sc[Lk]:(List U2×List U2×Unit)->Option (Ua):=fun(a,b,_)=>
 match(!(ieq (A2 a) (A2 b)))with
 |true=>some (false,())
 |false=>match A8 AHd many (a,b,(A2 a),0,())with|none=>none|some r=>match r with
 |.inl (c,_)=>some (c,())
 |.inr r=>match r with
 |.inl _=>some (true,())
 |.inr _=>none
def zf[Lk]:=lkk sc
theorem AHf v:zf v=sc v:=A0 _
def ACR[Lk]:(Uc×Uc×Unit)->Option (Ua):=fun(a,b,_)=>
 match(ieq a.1 b.1)with
 |true=>match zf (a.2.1,b.2.1,())with|none=>none|some (c,_)=>some (c,())
 |false=>some (false,())
def AMP[Lk]:=lkk ACR
theorem AMO v:AMP v=ACR v:=A0 _
def IG[Lk]:Ue->Option (Ua):=fun(a,_)=>
 match MO (a,())with|none=>none|some (b,_)=>some ((ile 0 b),())
def Hc[Lk]:=lkk IG
theorem LY v:Hc v=IG v:=A0 _
abbrev TB:A1:=[AYu,AN,AYt,AF]
def GX[Lk]:(List Int×Int×List U5×Unit)->Option ((Int×List U5×Bool×Unit)):=fun(a,b,c,_)=>
 match Jc (a,b,c,())with|none=>none|some (d,e,f,_)=>some (d,e,(ile 0 f),())
def FU[Lk]:=lkk GX
theorem Jn v:FU v=GX v:=A0 _
def OG[Lk]:Ue->Option (Ua):=fun(a,_)=>
 match Nw (a,())with|none=>none|some (b,_)=>some ((ile 0 b),())
def Ml[Lk]:=lkk OG
theorem Xb v:Ml v=OG v:=A0 _
abbrev Q4:A1:=[Ai,AaR,AF]
def Ff[Lk]:V2->Option ((List Int×Bool×Unit)):=fun(a,b,_)=>
 match ID (a,b,())with|none=>none|some (c,d,_)=>some (c,(ile 0 d),())
def HG[Lk]:=lkk Ff
theorem IK v:HG v=Ff v:=A0 _
abbrev eY:A1:=[AYu,AN,AY4,AF]
def Kj[Lk]:(List Int×Int×List U2×Unit)->Option ((Int×List U2×Bool×Unit)):=fun(a,b,c,_)=>
 match Qo (a,b,c,())with|none=>none|some (d,e,f,_)=>some (d,e,(ile 0 f),())
def KV[Lk]:=lkk Kj
theorem OH v:KV v=Kj v:=A0 _
abbrev cK:A1:=[AaI,AaO,AQ,AaN,(.tmp 0,.win' 0)]
abbrev Xa:A1:=[AaI,AaO,AQ,AaN,Ao,AaM,AG,AY3]
abbrev XZ:BH:=[(.exit 0,[AaI,AaO,AQ,AaN,Ao,AG])]
def FT[Lk]:(List Int×Int×List U5×Int×Int×Unit)->Option ((List Int×Int×List U5×Int×Int×Unit)⊕(List Int×Int×List U5×Int×Unit)⊕Unit):=fun(a,d,e,c,b,_)=>
 match(ilt b (A2 a))with
 |true=>match idx a b with|none=>none|some f=>match(!(ile d (A9 a (A4 b) 0)))with
  |true=>match idx a c with|none=>none|some g=>some (.inl ((Bc a (A4 c) (A9 a (A4 b) 0)),d,e,(w64 (c+1)),(w64 (b+1)),()))
  |false=>some (.inl (a,d,e,c,(w64 (b+1)),()))
 |false=>some (.inr (.inl (a,d,e,c,())))
def Jm[Lk]:(List Int×Int×List U5×Unit)->Option ((List Int×Int×List U5×Int×Unit)):=fun(h,i,j,_)=>
 match MP (h,i,j,())with|none=>none|some (c,e,f,d,_)=>match(ieq d (-1:Int))with
 |true=>some (c,e,f,(A2 c),())
 |false=>match A8 FT many (c,e,f,d,(w64 (d+1)),())with|none=>none|some r=>match r with
 |.inl (a,k,l,b,_)=>match Ci a b (A2 a)with|none=>none|some g=>match Ci (Cd (A4 b) (A4 (A2 g)) 0 a) 0 b with|none=>none|some m=>some ((Cd (A4 b) (A4 (A2 g)) 0 a),k,l,(((A4 (A2 m)):Nat):Int),())
 |.inr _=>none
def Ih[Lk]:=lkk Jm
theorem M3 v:Ih v=Jm v:=A0 _
def cV[Lk]:V2->Option (Ua):=fun(a,b,_)=>
 match HG (b,a,())with|none=>none|some (d,c,_)=>some ((!c),())
def VP[Lk]:=lkk cV
theorem iZ v:VP v=cV v:=A0 _
abbrev AIe:A1:=[AD,(.tmp 1,.dat Vm)]
def Vo[Lk]:(List Int×U8×Unit)->Option (U4):=fun(b,a,_)=>
 match(ieq a.1 1)with
 |true=>match VP (b,([a.2.1,a.2.2.1]:List (Int)),())with|none=>none|some (c,_)=>match(!c)with
  |true=>some (0,10,())
  |false=>match idx b a.2.1 with|none=>none|some d=>match idx b a.2.2.1 with|none=>none|some e=>match(ieq d e)with
  |true=>some (1,0,())
  |false=>some (0,0,())
 |false=>match(ieq a.1 2)with
 |true=>match VP (b,([a.2.1]:List (Int)),())with|none=>none|some (f,_)=>match(!f)with
  |true=>some (0,10,())
  |false=>match(ieq a.1 2)with
  |true=>match idx b a.2.1 with|none=>none|some g=>some (g,0,())
  |false=>match ca (b,b,a.1,a.2.1,a.2.2.1,())with|none=>none|some (m,n,o,p,h,_)=>some (h,0,())
 |false=>match(ieq a.1 3)with
 |true=>match VP (b,([a.2.1]:List (Int)),())with|none=>none|some (i,_)=>match(!i)with
  |true=>some (0,10,())
  |false=>match(ieq a.1 2)with
  |true=>match idx b a.2.1 with|none=>none|some j=>some (j,0,())
  |false=>match ca (b,b,a.1,a.2.1,a.2.2.1,())with|none=>none|some (q,r,s,t,k,_)=>some (k,0,())
 |false=>match(ieq a.1 4)with
 |true=>match nE (b,())with|none=>none|some (l,_)=>some (l,0,())
 |false=>some (0,1,())
def YW[Lk]:=lkk Vo
theorem cy v:YW v=Vo v:=A0 _
abbrev vq:A1:=[(.tmp 5,.own 5 (.int .u8)),(.tmp 33,.own 3 U0),(.tmp 34,.di),(.tmp 35,.di)]
abbrev vp:BH:=[(.exit 0,[(.tmp 5,.own 5 (.int .u8))])]
def vo[Lk]:V0->Option (V0⊕Ue⊕Unit):=fun(c,b,d,a,_)=>
 match(ilt a d)with
 |true=>match idx b a with|none=>none|some f=>match shr? .i64 (A9 b (A4 a) 0) 8 with|none=>none|some e=>match(fits ((A2 c)+(A2 ([(IntKind.wrap .u8 e),(IntKind.wrap .u8 (A9 b (A4 a) 0))]:List (Int)))))with
  |true=>some (.inl ((BV c ([(IntKind.wrap .u8 e),(IntKind.wrap .u8 (A9 b (A4 a) 0))]:List (Int))),b,d,(w64 (a+1)),()))
  |false=>none
 |false=>some (.inr (.inl (c,())))
def fu[Lk]:(Ug×Unit)->Option (Uf):=fun(a,_)=>
 match Mm (([([a.2.1,(A2 a.2.2.1)]:List (Int)),a.2.2.1]:List U5),())with|none=>none|some (b,_)=>match(!(ieq a.1 (w64 (IntKind.wrap .u8 a.1))))with
 |true=>some (([]:List (Int)),1,())
 |false=>match Ki (b,())with|none=>none|some (c,_)=>match c with
 |true=>some (([]:List (Int)),1,())
 |false=>match A8 vo many (([(IntKind.wrap .u8 a.1)]:List (Int)),b,(A2 b),0,())with|none=>none|some r=>match r with
 |.inl (d,_)=>some (d,0,())
 |.inr _=>none
def kF[Lk]:=lkk fu
theorem vr v:kF v=fu v:=A0 _
def Zj[Lk]:Ue->Option (Ua):=fun(a,_)=>
 match(ilt 1000 (A2 a))with
 |true=>some (false,())
 |false=>match Hc (a,())with|none=>none|some (b,_)=>match(!b)with
 |true=>match once (a,())with|none=>none|some (c,_)=>some (c,())
 |false=>some (false,())
def QE[Lk]:=lkk Zj
theorem gJ v:QE v=Zj v:=A0 _
abbrev AE4:A1:=[AD,Aa,(.tmp 12,.dat U6),AS,AZz]
abbrev AE3:BH:=[(.exit 0,[Aa])]
def I0[Lk]:V3->Option (V3⊕Ue⊕Unit):=fun(c,a,d,e,b,_)=>
 match(ilt b e)with
 |true=>match idx d b with|none=>none|some g=>match UX (c,g,())with|none=>none|some (f,_)=>match(fits ((A2 a)+(A2 ([f]:List (Int)))))with
  |true=>some (.inl (c,(BV a ([f]:List (Int))),d,e,(w64 (b+1)),()))
  |false=>none
 |false=>some (.inr (.inl (a,())))
def Z1[Lk]:V2->Option ((List Int×Bool×Unit)):=fun(a,b,_)=>
 match QE (a,())with|none=>none|some (d,_)=>match(!d)with
 |true=>some (([]:List (Int)),false,())
 |false=>match A8 I0 many (a,([]:List (Int)),b,(A2 b),0,())with|none=>none|some r=>match r with
 |.inl (c,_)=>match HF (c,(-1:Int),())with|none=>none|some (e,_)=>some (c,(!e),())
 |.inr _=>none
def places[Lk]:=lkk Z1
theorem gb v:places v=Z1 v:=A0 _
def kS[Lk]:Uf->Option ((List Int×Bool×Unit)):=fun(a,c,_)=>
 match places (a,([c]:List (Int)),())with|none=>none|some (b,d,_)=>match(!d)with
 |true=>some (([]:List (Int)),false,())
 |false=>match idx b 0 with|none=>none|some f=>match Yr (a,(A9 b 0 0),())with|none=>none|some (e,_)=>some (e,true,())
def qC[Lk]:=lkk kS
theorem qB v:qC v=kS v:=A0 _
def Zk[Lk]:Ue->Option (Ue):=fun(a,_)=>
 match QE (a,())with|none=>none|some (b,_)=>match(!b)with
 |true=>some (([]:List (Int)),())
 |false=>match(ieq (A2 a) 0)with
 |true=>some (([]:List (Int)),())
 |false=>match AMH (a,())with|none=>none|some (c,_)=>match UX (a,c,())with|none=>none|some (d,_)=>match Yr (a,d,())with|none=>none|some (e,_)=>some (e,())
def kP[Lk]:=lkk Zk
theorem gK v:kP v=Zk v:=A0 _
abbrev ADh:A1:=[Af,AZA,(.tmp 79,.di)]
abbrev ADe:BH:=[(.ret,[AK]),(.exit 4,[])]
def Ir[Lk]:(List Uu×Int×Int×Unit)->Option ((List Uu×Int×Int×Unit)⊕Ua⊕(Unit)⊕Unit):=fun(b,c,a,_)=>
 match(ilt a c)with
 |true=>match(ieq ((A_ b a).getD 0) 0)with
  |true=>some (.inr (.inl (false,())))
  |false=>some (.inl (b,c,(w64 (a+1)),()))
 |false=>some (.inr (.inr (.inl ())))
abbrev Aaf:Loc×Con:=(.tmp 28,.di)
abbrev Aag:Loc×Con:=(.tmp 47,.di)
abbrev Aah:Loc×Con:=(.tmp 42,.di)
abbrev Aai:Loc×Con:=(.tmp 29,.di)
abbrev Aaj:Loc×Con:=(.tmp 18,.di)
abbrev ADi:A1:=[AY6,AN,AYt,Af,AW,(.tmp 16,.dat Ud),(.tmp 17,.di),Aaj,(.tmp 26,.dat U6),Aaf,Aai,(.tmp 30,.dat .bool),(.tmp 33,.dat U6),(.tmp 34,.dat .bool),(.tmp 35,.dat .bool),(.tmp 38,.dat U6),AZp,(.tmp 40,.dat U6),Aah,(.tmp 43,.dat .bool),(.tmp 46,.ptr' 0 0),Aag,(.tmp 48,.dat U6),(.tmp 49,.dat .bool),(.tmp 50,.dat .bool),(.tmp 55,.dat U6),(.tmp 56,.di),(.tmp 57,.di)]
abbrev ADf:BH:=[(.ret,[AK]),(.exit 2,[AY6,AN,AYt,Af,AW,(.tmp 16,.dat Ud),(.tmp 17,.di),Aaj,(.tmp 26,.dat U6),Aaf,Aai,(.tmp 30,.dat .bool),(.tmp 33,.dat U6),(.tmp 34,.dat .bool),(.tmp 35,.dat .bool),(.tmp 38,.dat U6),AZp,(.tmp 40,.dat U6),Aah,(.tmp 43,.dat .bool),(.tmp 46,.ptr' 0 0),Aag,(.tmp 48,.dat U6),(.tmp 49,.dat .bool),(.tmp 50,.dat .bool)])]
def Is[Lk]:V8->Option (V8⊕Ua⊕(Int×List U5×List Uu×Int×List U5×Int×Int×List Int×Int×Int×Bool×List Int×Bool×Bool×List Int×Int×List Int×Int×Bool×Int×List Int×Bool×Bool×Unit)⊕Unit):=fun(c,e,a,f,g,h,i,j,k,l,m,n,o,p,q,r,s,t,u,v,w,x,y,z,A,d,_)=>
 match(ilt d A)with
 |true=>match idx z d with|none=>none|some b=>match(ilt b c)with
  |true=>match(ilt 0 ((A_ a b).getD 0))with
   |true=>some (.inr (.inl (false,())))
   |false=>some (.inl (c,e,(BG a b (w64 (((A_ a b).getD 0)+1))),f,g,h,i,j,k,l,m,n,o,p,q,r,s,t,u,v,w,x,y,z,A,(w64 (d+1)),()))
  |false=>some (.inl (c,e,(BG a b (w64 (((A_ a b).getD 0)+1))),f,g,h,i,j,k,l,m,n,o,p,q,r,s,t,u,v,w,x,y,z,A,(w64 (d+1)),()))
 |false=>some (.inr (.inr (.inl (c,e,a,f,g,h,i,j,k,l,m,n,o,p,q,r,s,t,u,v,w,x,y,()))))
abbrev ADj:A1:=[AY6,AN,AYt,Af,AW,(.tmp 16,.dat Ud),(.tmp 17,.di),Aaj]
abbrev ADg:BH:=[(.ret,[AK]),(.exit 0,[AY6,AN,AYt,Af])]
def Gq[Lk]:(Int×List U5×List Uu×Int×List U5×Int×Int×Unit)->Option ((Int×List U5×List Uu×Int×List U5×Int×Int×Unit)⊕Ua⊕(Int×List U5×List Uu×Unit)⊕Unit):=fun(b,j,k,c,l,m,d,_)=>
 match(ilt d m)with
 |true=>match idx l d with|none=>none|some a=>match(ieq (A2 a) 0)with
  |true=>some (.inr (.inl (false,())))
  |false=>match idx a 0 with|none=>none|some e=>match(ile e c)with
  |true=>some (.inr (.inl (false,())))
  |false=>match QE (a,())with|none=>none|some (f,_)=>match(!f)with
  |true=>some (.inr (.inl (false,())))
  |false=>match AMH (a,())with|none=>none|some (g,_)=>match idx a 0 with|none=>none|some h=>match(!(ieq g h))with
  |true=>some (.inr (.inl (false,())))
  |false=>match goes (b,a,())with|none=>none|some (i,_)=>match(!i)with
  |true=>some (.inr (.inl (false,())))
  |false=>match idx a 0 with|none=>none|some n=>match A8 Is many (b,j,k,n,l,m,d,a,e,c,(ile e c),a,f,(!f),a,g,a,h,(!(ieq g h)),b,a,i,(!i),a,(A2 a),0,())with|none=>none|some r=>match r with
  |.inl (o,_)=>some (.inr (.inl (o,())))
  |.inr r=>match r with
  |.inl (p,q,s,t,u,v,w,x,y,z,A,B,C,D,E,F,G,H,I,J,K,L,M,_)=>some (.inl (p,q,s,t,u,v,(w64 (w+1)),()))
  |.inr _=>none
 |false=>some (.inr (.inr (.inl (b,j,k,()))))
def Yx[Lk]:(Un×Unit)->Option (Ua):=fun(a,_)=>
 match Px (a.1,())with|none=>none|some (b,_)=>match(!b)with
 |true=>some (false,())
 |false=>match A8 Gq many (a.1,a.2.1,([]:List Uu),(-1:Int),a.2.1,(A2 a.2.1),0,())with|none=>none|some r=>match r with
 |.inl (c,_)=>some (c,())
 |.inr r=>match r with
 |.inl (d,g,e,_)=>match A8 Ir many (e,d,0,())with|none=>none|some r=>match r with
  |.inl (f,_)=>some (f,())
  |.inr r=>match r with
  |.inl _=>some (true,())
  |.inr _=>none
 |.inr _=>none
def NH[Lk]:=lkk Yx
theorem fP v:NH v=Yx v:=A0 _
def ny[Lk]:(Un×Int×Int×Unit)->Option (U9):=fun(a,b,c,_)=>
 match NH ((a.1,(a.2.1,())),())with|none=>none|some (d,_)=>match(!d)with
 |true=>some (1,())
 |false=>match tin (a.1,b,())with|none=>none|some (e,_)=>match(!e)with
 |true=>some (10,())
 |false=>match tin (a.1,c,())with|none=>none|some (f,_)=>match(!f)with
 |true=>some (10,())
 |false=>some (0,())
def asked[Lk]:=lkk ny
theorem uE v:asked v=ny v:=A0 _
abbrev APM:A1:=[Aj,AE,(.tmp 2,.dat Ud)]
abbrev APL:A1:=[AB,(.tmp 1,.own 36 U6)]
abbrev APK:List RS:=[.agg 2]
abbrev Aak:Loc×Con:=(.tmp 7,.own 36 U6)
abbrev Aal:Loc×Con:=(.tmp 6,.box 2)
abbrev AJM:A1:=[Aae,AN,AYt,Aal,AQ,AZE,Aak,(.tmp 29,.dat Ud),(.tmp 30,.di),(.tmp 31,.di)]
abbrev AJK:BH:=[(.exit 2,[Aae,AN,AYt,Aal,AQ,AZE,Aak])]
def ND[Lk]:(Int×List U5×Int×List U5×List U5×Int×Int×Unit)->Option ((Int×List U5×Int×List U5×List U5×Int×Int×Unit)⊕(Int×List U5×Int×List U5×Unit)⊕Unit):=fun(c,d,e,a,f,g,b,_)=>
 match(ilt b g)with
 |true=>match idx f b with|none=>none|some i=>match kP (i,())with|none=>none|some (h,_)=>match(fits ((A2 a)+(A2 ([h]:List U5))))with
  |true=>some (.inl (c,d,e,(BV a ([h]:List U5)),f,g,(w64 (b+1)),()))
  |false=>none
 |false=>some (.inr (.inl (c,d,e,a,())))
abbrev AJN:A1:=[AE,(.tmp 2,.dat Ud),Aae,AN,AYt,Aal,AQ,AZE,Aak,(.tmp 13,.dat Ud),AZz,AY8]
abbrev AJL:BH:=[(.exit 0,[(.tmp 2,.dat Ud),Aae,AN,AYt,Aal,AQ,AZE,Aak])]
def NF[Lk]:(List Int×List U5×Int×List U5×Int×List U5×List U5×Int×Int×Unit)->Option ((List Int×List U5×Int×List U5×Int×List U5×List U5×Int×Int×Unit)⊕(List U5×Int×List U5×Int×List U5×Unit)⊕Unit):=fun(c,d,e,f,g,b,h,i,a,_)=>
 match(ilt a i)with
 |true=>match idx h a with|none=>none|some j=>match HF (c,a,())with|none=>none|some (k,_)=>match(!k)with
  |true=>match(fits ((A2 b)+(A2 ([j]:List U5))))with
   |true=>some (.inl (c,d,e,f,g,(BV b ([j]:List U5)),h,i,(w64 (a+1)),()))
   |false=>none
  |false=>some (.inl (c,d,e,f,g,b,h,i,(w64 (a+1)),()))
 |false=>some (.inr (.inl (d,e,f,g,b,())))
def jl[Lk]:(Un×List Int×List U5×Unit)->Option ((Int×List U5×Unit)):=fun(a,c,d,_)=>
 match A8 NF many (c,d,a.1,a.2.1,0,([]:List U5),a.2.1,(A2 a.2.1),0,())with|none=>none|some r=>match r with
 |.inl (b,e,f,g,h,_)=>match A8 ND many (e,f,g,h,b,(A2 b),0,())with|none=>none|some r=>match r with
  |.inl (i,l,m,j,_)=>match ABX (j,())with|none=>none|some (k,_)=>some (i,k,())
  |.inr _=>none
 |.inr _=>none
def ABL[Lk]:=lkk jl
theorem oh v:ABL v=jl v:=A0 _
def Xq[Lk]:(Un×Int×Int×Unit)->Option (Vi):=fun(a,b,c,_)=>
 match asked ((a.1,(a.2.1,())),b,c,())with|none=>none|some (g,_)=>match(!(ieq g 0))with
 |true=>some (a.1,a.2.1,g,())
 |false=>match Tf ((a.1,(a.2.1,())),b,())with|none=>none|some (e,_)=>match Tf ((a.1,(a.2.1,())),c,())with|none=>none|some (f,_)=>match(ieq e f)with
 |true=>some (a.1,a.2.1,5,())
 |false=>match idx a.2.1 e with|none=>none|some h=>match qC (h,b,())with|none=>none|some (d,r,_)=>match idx a.2.1 f with|none=>none|some i=>match qC (i,c,())with|none=>none|some (j,s,_)=>match Ci d 0 1 with|none=>none|some k=>match AJm (a.1,b,c,())with|none=>none|some (l,_)=>match AJm (a.1,c,b,())with|none=>none|some (m,_)=>match Ci d 1 (A2 d)with|none=>none|some n=>match Mm (([(IF 0 (A4 (A2 k)) d),([l]:List (Int)),j,([m]:List (Int)),(IF 1 (A4 (A2 n)) d)]:List U5),())with|none=>none|some (o,_)=>match ABL ((a.1,(a.2.1,())),([e,f]:List (Int)),([o]:List U5),())with|none=>none|some (p,q,_)=>some (p,q,0,())
def fT[Lk]:=lkk Xq
theorem Y2 v:fT v=Xq v:=A0 _
abbrev ANO:A1:=[Aj,AE]
def bg[Lk]:(Un×List Int×Unit)->Option (U9):=fun(a,b,_)=>
 match NH ((a.1,(a.2.1,())),())with|none=>none|some (c,_)=>match(!c)with
 |true=>some (1,())
 |false=>match FU (b,a.1,a.2.1,())with|none=>none|some (e,f,d,_)=>match d with
 |true=>some (10,())
 |false=>some (0,())
def MY[Lk]:=lkk bg
theorem iJ v:MY v=bg v:=A0 _
abbrev zk:A1:=[Aj,AY0,(.tmp 2,.clo 228 [])]
abbrev ss:A1:=[(.tmp 2,.clo 228 []),Aae,AN,AYt,Aal,AQ,AZE,(.tmp 10,.own 4 .bool),(.tmp 23,.dat V4),AZb,AZW]
abbrev sr:BH:=[(.exit 0,[Aae,AN,AYt,Aal,AQ,AZE,(.tmp 10,.own 4 .bool)])]
def H0[Lk]:(Int×List U5×Int×List Bool×List U4×Int×Int×Unit)->Option ((Int×List U5×Int×List Bool×List U4×Int×Int×Unit)⊕(Int×List U5×Int×List Bool×Unit)⊕Unit):=fun(c,d,e,a,f,g,b,_)=>
 match(ilt b g)with
 |true=>match idx f b with|none=>none|some h=>match fT ((c,(d,())),h.1,h.2.1,())with|none=>none|some (j,k,i,_)=>match(fits ((A2 a)+(A2 ([(ieq i 0)]:List (Bool)))))with
  |true=>some (.inl (j,k,e,(BV a ([(ieq i 0)]:List (Bool))),f,g,(w64 (b+1)),()))
  |false=>none
 |false=>some (.inr (.inl (c,d,e,a,())))
def Q0[Lk]:(Un×List U4×Unit)->Option ((Un×List Bool×Int×Unit)):=fun(a,b,_)=>
 match ends (b,())with|none=>none|some (d,_)=>match MY ((a.1,(a.2.1,())),d,())with|none=>none|some (c,_)=>match(!(ieq c 0))with
 |true=>some ((a.1,(a.2.1,())),([]:List (Bool)),c,())
 |false=>match A8 H0 many (a.1,a.2.1,0,([]:List (Bool)),b,(A2 b),0,())with|none=>none|some r=>match r with
 |.inl (e,f,h,g,_)=>some ((e,(f,())),g,0,())
 |.inr _=>none
def cB[Lk]:=lkk Q0
theorem W0 v:cB v=Q0 v:=A0 _
def bp[Lk]:(Un×List U4×Unit)->Option ((Un×List Bool×Int×Unit)):=fun(a,c,_)=>
 match cB ((a.1,(a.2.1,())),c,())with|none=>none|some (b,d,e,_)=>some ((b.1,(b.2.1,())),d,e,())
def za[Lk]:=lkk bp
theorem iN v:za v=bp v:=A0 _
def ANZ[Lk]:(Int×List U4×Unit)->Option ((Un×Int×Unit)):=fun(d,e,_)=>
 match ABQ (d,())with|none=>none|some (f,g,a,_)=>match(!(ieq a 0))with
 |true=>some ((0,(([]:List U5),())),a,())
 |false=>match za ((f,(g,())),e,())with|none=>none|some (b,h,c,_)=>match(!(ieq c 0))with
 |true=>some ((0,(([]:List U5),())),c,())
 |false=>some ((b.1,(b.2.1,())),0,())
def fof[Lk]:=lkk ANZ
theorem ANY v:fof v=ANZ v:=A0 _
abbrev AGa:A1:=[AY6,AN,AY4,AX,(.tmp 23,.dat Uq),AZb,AZW]
abbrev AGZ:BH:=[(.ret,[AK]),(.exit 0,[AY6,AN,AY4])]
def G8[Lk]:(Int×List U2×Int×List U2×Int×Int×Unit)->Option ((Int×List U2×Int×List U2×Int×Int×Unit)⊕Ua⊕(Int×List U2×Unit)⊕Unit):=fun(c,d,f,g,h,b,_)=>
 match(ilt b h)with
 |true=>match idx g b with|none=>none|some a=>match(ilt a.1 0)with
  |true=>some (.inr (.inl (false,())))
  |false=>match(ile a.2.1 a.1)with
  |true=>some (.inr (.inl (false,())))
  |false=>match(ile c a.2.1)with
  |true=>some (.inr (.inl (false,())))
  |false=>match(ilt a.2.2.1 0)with
  |true=>some (.inr (.inl (false,())))
  |false=>match(ilt f a.2.2.1)with
  |true=>some (.inr (.inl (false,())))
  |false=>match(ilt 0 b)with
  |true=>match idx d (w64 (b-1))with|none=>none|some e=>match GJ ((e.1,(e.2.1,(e.2.2.1,(e.2.2.2.1,())))),(a.1,(a.2.1,(a.2.2.1,(a.2.2.2.1,())))),())with|none=>none|some (i,_)=>match(ile 0 i)with
   |true=>some (.inr (.inl (false,())))
   |false=>some (.inl (c,d,f,g,h,(w64 (b+1)),()))
  |false=>some (.inl (c,d,f,g,h,(w64 (b+1)),()))
 |false=>some (.inr (.inr (.inl (c,d,()))))
def LA[Lk]:(Uc×Unit)->Option (Ua):=fun(a,_)=>
 match aV (a.1,())with|none=>none|some (d,_)=>match(!d)with
 |true=>some (false,())
 |false=>match(ilt 400 (A2 a.2.1))with
 |true=>some (false,())
 |false=>match lN (a.1,())with|none=>none|some (e,_)=>match A8 G8 many (a.1,a.2.1,e,a.2.1,(A2 a.2.1),0,())with|none=>none|some r=>match r with
 |.inl (f,_)=>some (f,())
 |.inr r=>match r with
 |.inl (b,g,_)=>match UI ((b,(g,())),0,())with|none=>none|some (c,_)=>match fof (b,c,())with|none=>none|some (h,i,_)=>match(ieq i 0)with
  |true=>some ((ieq (A2 h.2.1) (w64 (b-(A2 c)))),())
  |false=>some (false,())
 |.inr _=>none
def Du[Lk]:=lkk LA
theorem K_ v:Du v=LA v:=A0 _
def AJZ[Lk]:(Un×Int×Unit)->Option (U9):=fun(a,b,_)=>
 match tin (a.1,b,())with|none=>none|some (c,_)=>match(!c)with
 |true=>some ((-1:Int),())
 |false=>match NH ((a.1,(a.2.1,())),())with|none=>none|some (d,_)=>match(!d)with
 |true=>some ((-1:Int),())
 |false=>match Tf ((a.1,(a.2.1,())),b,())with|none=>none|some (e,_)=>some (e,())
def tof[Lk]:=lkk AJZ
theorem AJY v:tof v=AJZ v:=A0 _
def O3[Lk]:(Uc×Int×Unit)->Option ((Un×Int×Unit)):=fun(a,c,_)=>
 match Du ((a.1,(a.2.1,())),())with|none=>none|some (d,_)=>match(!d)with
 |true=>some ((0,(([]:List U5),())),1,())
 |false=>match UI ((a.1,(a.2.1,())),c,())with|none=>none|some (e,_)=>match fof (a.1,e,())with|none=>none|some (b,f,_)=>some ((b.1,(b.2.1,())),f,())
def MG[Lk]:=lkk O3
theorem Qb v:MG v=O3 v:=A0 _
abbrev Aam:Loc×Con:=(.tmp 9,.aptr 219 U0 8)
abbrev ur:A1:=[AE,AZO,AZN,AZL,AZK,AY3,AZP,AZJ,AZI,AZH,Aam,Ae,Aah,(.tmp 43,.di),(.tmp 68,.di),(.tmp 69,.di)]
abbrev uo:BH:=[(.exit 2,[AE,AZO,AZN,AZL,AZK,AY3,AZP,AZJ,AZI,AZH,Aam,Aah,(.tmp 43,.di)])]
def Yo[Lk]:(List Int×Int×List Int×List Int×List U5×List Int×Int×Int×Int×Int×Int×Unit)->Option ((List Int×Int×List Int×List Int×List U5×List Int×Int×Int×Int×Int×Int×Unit)⊕Vl⊕Unit):=fun(c,d,e,f,g,b,h,i,j,k,a,_)=>
 match(ilt a k)with
 |true=>match(ile 0 a&&(ilt a 8&&ilt a (A2 b)))with
  |true=>some (.inl (c,d,e,f,g,(Bc b (A4 a) h),h,i,j,k,(w64 (a+1)),()))
  |false=>none
 |false=>some (.inr (.inl (c,d,e,f,g,b,i,j,())))
abbrev uu:A1:=[AE,AZO,AZN,AZL,AZK,AY3,AZP,AZJ,AZI,AZH,Aam,Aah,(.tmp 43,.di)]
abbrev uq:BH:=[(.exit 0,[AZO,AZN,AZL,AZK,AZP,AZJ,AZI,AZH])]
def um[Lk]:Vl->Option (Vl⊕(List Int×List Int×List U5×Unit)⊕Unit):=fun(c,a,g,h,e,f,i,d,_)=>
 match(ilt d i)with
 |true=>match rem? d a with|none=>none|some b=>match(ile a d)with
  |true=>match idx c (w64 ((w64 (a-1))-b))with|none=>none|some j=>match Ci f 0 j with|none=>none|some k=>match IH (IF 0 (A4 (A2 k)) f)with|none=>none|some l=>match idx e (w64 ((w64 (a-1))-b))with|none=>none|some F=>match idx c (w64 ((w64 (a-1))-b))with|none=>none|some m=>match A8 Yo many (c,a,g,h,(Bc e (A4 (w64 ((w64 (a-1))-b))) l),f,(w64 ((w64 (a-1))-b)),i,d,m,0,())with|none=>none|some r=>match r with
   |.inl (n,o,p,q,s,t,u,v,_)=>some (.inl (n,o,p,q,s,t,u,(w64 (v+1)),()))
   |.inr _=>none
  |false=>match idx c (w64 ((w64 (a-1))-b))with|none=>none|some w=>match A8 Yo many (c,a,g,h,e,f,(w64 ((w64 (a-1))-b)),i,d,w,0,())with|none=>none|some r=>match r with
  |.inl (x,y,z,A,B,C,D,E,_)=>some (.inl (x,y,z,A,B,C,D,(w64 (E+1)),()))
  |.inr _=>none
 |false=>some (.inr (.inl (g,h,e,())))
def fK[Lk]:V2->Option ((List Int×List Int×List U5×Int×Unit)):=fun(a,b,_)=>
 match(ieq (A2 a) 0)with
 |true=>some (([]:List (Int)),([]:List (Int)),([]:List U5),1,())
 |false=>match(!(ieq (A2 b) (A2 a)))with
 |true=>some (([]:List (Int)),([]:List (Int)),([]:List U5),1,())
 |false=>match QE (a,())with|none=>none|some (c,_)=>match(!c)with
 |true=>some (([]:List (Int)),([]:List (Int)),([]:List U5),1,())
 |false=>match Ml (b,())with|none=>none|some (d,_)=>match d with
 |true=>some (([]:List (Int)),([]:List (Int)),([]:List U5),1,())
 |false=>match IH a with|none=>none|some e=>match IH b with|none=>none|some f=>match(Ca (A2 a)&&Ca (A2 a)&&ile (A2 a) (A2 a)&&true)with
 |true=>match A8 um many (b,(A2 a),e,f,(Dm (A4 (A2 a)) ([]:List (Int))),(Dm 8 (0:Int)),(w64 ((2:Int)*(A2 a))),(0:Int),())with|none=>none|some r=>match r with
  |.inl (g,h,i,_)=>some (g,h,i,0,())
  |.inr _=>none
 |false=>none
def jq[Lk]:=lkk fK
theorem uv v:jq v=fK v:=A0 _
abbrev AGp:A1:=[AY5,(.tmp 10,.dat Uq),Ae,AR]
abbrev AGo:BH:=[(.exit 0,[AY5])]
def LC[Lk]:(List U4×List U2×Int×Int×Unit)->Option ((List U4×List U2×Int×Int×Unit)⊕Vf⊕Unit):=fun(b,d,e,c,_)=>
 match(ilt c e)with
 |true=>match idx d c with|none=>none|some a=>match(fits ((A2 b)+(A2 ([(a.1,(a.2.1,()))]:List U4))))with
  |true=>some (.inl ((BV b ([(a.1,(a.2.1,()))]:List U4)),d,e,(w64 (c+1)),()))
  |false=>none
 |false=>some (.inr (.inl (b,())))
def ab[Lk]:(Uc×Unit)->Option (Vf):=fun(a,_)=>
 match Du ((a.1,(a.2.1,())),())with|none=>none|some (b,_)=>match(!b)with
 |true=>some (([]:List U4),())
 |false=>match A8 LC many (([]:List U4),a.2.1,(A2 a.2.1),0,())with|none=>none|some r=>match r with
 |.inl (c,_)=>some (c,())
 |.inr _=>none
def UN[Lk]:=lkk ab
theorem g9 v:UN v=ab v:=A0 _
abbrev X8:A1:=[AYx,AY0]
abbrev ko:A1:=[AYy,AI]
abbrev ALW:A1:=[AP,AN,AY4,(.tmp 6,.box 1),AZR,(.tmp 13,.dat V4),AZz,AY8]
abbrev ALV:BH:=[(.ret,[(.tmp 4,.nil U3),AG]),(.exit 0,[AP,AN,AY4,(.tmp 6,.box 1),AZR])]
def Ho[Lk]:(Int×List U2×List Vg×List U4×Int×Int×Unit)->Option ((Int×List U2×List Vg×List U4×Int×Int×Unit)⊕U9⊕(Int×List U2×List Vg×Unit)⊕Unit):=fun(c,e,b,f,g,d,_)=>
 match(ilt d g)with
 |true=>match idx f d with|none=>none|some a=>match(ilt (Cp a.1 a.2.1) 0)with
  |true=>some (.inr (.inl (10,())))
  |false=>match(ile c (imax a.1 a.2.1))with
  |true=>some (.inr (.inl (10,())))
  |false=>match(ile 0 (R1 b ((Cp a.1 a.2.1),((imax a.1 a.2.1),())))&&ilt (R1 b ((Cp a.1 a.2.1),((imax a.1 a.2.1),()))) (A2 (BG b ((Cp a.1 a.2.1),((imax a.1 a.2.1),())) ((A_ b ((Cp a.1 a.2.1),((imax a.1 a.2.1),()))).getD 0))))with
  |true=>some (.inl (c,e,(rN (BG b ((Cp a.1 a.2.1),((imax a.1 a.2.1),())) ((A_ b ((Cp a.1 a.2.1),((imax a.1 a.2.1),()))).getD 0)) (R1 b ((Cp a.1 a.2.1),((imax a.1 a.2.1),()))) (w64 (((A_ b ((Cp a.1 a.2.1),((imax a.1 a.2.1),()))).getD 0)+1))),f,g,(w64 (d+1)),()))
  |false=>none
 |false=>some (.inr (.inr (.inl (c,e,b,()))))
def X9[Lk]:(Uc×List U4×Unit)->Option ((List U4×Int×Unit)):=fun(a,b,_)=>
 match Du ((a.1,(a.2.1,())),())with|none=>none|some (c,_)=>match(!c)with
 |true=>some (([]:List U4),1,())
 |false=>match A8 Ho many (a.1,a.2.1,([]:List Vg),b,(A2 b),0,())with|none=>none|some r=>match r with
 |.inl (d,_)=>some (([]:List U4),d,())
 |.inr r=>match r with
 |.inl (e,f,g,_)=>match UN ((e,(f,())),())with|none=>none|some (h,_)=>match Mj (h,g,())with|none=>none|some (i,k,j,_)=>some ((C5 (A4 j) i),0,())
 |.inr _=>none
def gh[Lk]:=lkk X9
theorem Z2 v:gh v=X9 v:=A0 _
abbrev Aan:Loc×Con:=(.tmp 6,.map U3 U0)
abbrev ARx:A1:=[AP,AN,AY4,Aan,(.tmp 9,.own 88 U3),(.tmp 26,.dat V4),Ab,Aaf]
abbrev ARv:BH:=[(.ret,[(.tmp 4,.nil U3),AG]),(.exit 2,[(.tmp 9,.own 88 U3)])]
def O_[Lk]:(Int×List U2×List Vg×List U4×List U4×Int×Int×Unit)->Option ((Int×List U2×List Vg×List U4×List U4×Int×Int×Unit)⊕U9⊕Vf⊕Unit):=fun(d,h,e,b,f,g,c,_)=>
 match(ilt c g)with
 |true=>match idx f c with|none=>none|some a=>match(ilt (Cp a.1 a.2.1) 0)with
  |true=>some (.inr (.inl (10,())))
  |false=>match(ile d (imax a.1 a.2.1))with
  |true=>some (.inr (.inl (10,())))
  |false=>match(ilt (Cp a.1 a.2.1) (imax a.1 a.2.1))with
  |true=>match(ieq ((A_ e ((Cp a.1 a.2.1),((imax a.1 a.2.1),()))).getD 0) 0)with
   |true=>match(fits ((A2 b)+(A2 ([((Cp a.1 a.2.1),((imax a.1 a.2.1),()))]:List U4))))with
    |true=>some (.inl (d,h,(BG e ((Cp a.1 a.2.1),((imax a.1 a.2.1),())) 1),(BV b ([((Cp a.1 a.2.1),((imax a.1 a.2.1),()))]:List U4)),f,g,(w64 (c+1)),()))
    |false=>none
   |false=>some (.inl (d,h,e,b,f,g,(w64 (c+1)),()))
  |false=>some (.inl (d,h,e,b,f,g,(w64 (c+1)),()))
 |false=>some (.inr (.inr (.inl (b,()))))
abbrev ARy:A1:=[AY0,AP,AN,AY4,Aan,(.tmp 17,.own 88 U3),Aaj,AaD]
abbrev ARw:BH:=[(.exit 0,[AY0,AP,AN,AY4,Aan])]
def PA[Lk]:(List U4×Int×List U2×List Vg×List U4×Int×Int×Unit)->Option ((List U4×Int×List U2×List Vg×List U4×Int×Int×Unit)⊕(List U4×Int×List U2×List Vg×Unit)⊕Unit):=fun(c,d,e,f,b,g,a,_)=>
 match(ilt a g)with
 |true=>match idx b a with|none=>none|some h=>some (.inl (c,d,e,(BG f ((A9 b (A4 a) (0,(0,()))).1,((A9 b (A4 a) (0,(0,()))).2.1,())) 1),b,g,(w64 (a+1)),()))
 |false=>some (.inr (.inl (c,d,e,f,())))
def zP[Lk]:(Uc×List U4×Unit)->Option ((List U4×Int×Unit)):=fun(a,d,_)=>
 match Du ((a.1,(a.2.1,())),())with|none=>none|some (e,_)=>match(!e)with
 |true=>some (([]:List U4),1,())
 |false=>match UN ((a.1,(a.2.1,())),())with|none=>none|some (b,_)=>match A8 PA many (d,a.1,a.2.1,([]:List Vg),b,(A2 b),0,())with|none=>none|some r=>match r with
 |.inl (c,f,g,h,_)=>match A8 O_ many (f,g,h,([]:List U4),c,(A2 c),0,())with|none=>none|some r=>match r with
  |.inl (i,_)=>some (([]:List U4),i,())
  |.inr r=>match r with
  |.inl (j,_)=>match ABY (j,())with|none=>none|some (k,_)=>some (k,0,())
  |.inr _=>none
 |.inr _=>none
def ANK[Lk]:=lkk zP
theorem ACe v:ANK v=zP v:=A0 _
def n5[Lk]:(Uc×Unit)->Option (U9):=fun(a,_)=>
 match Du ((a.1,(a.2.1,())),())with|none=>none|some (b,_)=>match(!b)with
 |true=>some (0,())
 |false=>some ((w64 (400-(A2 a.2.1))),())
def AC2[Lk]:=lkk n5
theorem uF v:AC2 v=n5 v:=A0 _
abbrev AOy:A1:=[AYx,(.tmp 1,.dat Us),(.tmp 2,.dat Vh)]
abbrev AOx:A1:=[AB,(.tmp 1,.own 88 U3),(.tmp 2,.dat (.slice Vm)),AX,AW]
def Le[Lk]:(Uc×Uo×(Int×Int×Ur×Unit)×Unit)->Option ((Int×List U4×List U8×Int×Int×Unit)):=fun(c,a,b,_)=>
 match Du ((c.1,(c.2.1,())),())with|none=>none|some (j,_)=>match(!j)with
 |true=>some (0,([]:List U4),([]:List U8),0,1,())
 |false=>match jX ((a.1,(a.2.1,(a.2.2.1,()))),())with|none=>none|some (k,_)=>match(!k)with
 |true=>some (0,([]:List U4),([]:List U8),0,1,())
 |false=>match AC1 ((a.1,(a.2.1,(a.2.2.1,()))),())with|none=>none|some (l,_)=>match KV (l,c.1,c.2.1,())with|none=>none|some (d,e,m,_)=>match m with
 |true=>some (0,([]:List U4),([]:List U8),0,10,())
 |false=>match(ieq a.1 3)with
 |true=>some (a.1,([]:List U4),a.2.2.1,0,0,())
 |false=>match cO (a.2.1,(b.1,(b.2.1,((b.2.2.1.1,(b.2.2.1.2.1,(b.2.2.1.2.2.1,()))),()))),())with|none=>none|some (f,g,h,_)=>match(!(ieq h 0))with
 |true=>some (0,([]:List U4),([]:List U8),0,h,())
 |false=>match(ieq a.1 2)with
 |true=>match gh ((d,(e,())),f,())with|none=>none|some (n,o,_)=>some (a.1,n,([]:List U8),g,o,())
 |false=>match ANK ((d,(e,())),f,())with|none=>none|some (i,p,_)=>match AC2 ((d,(e,())),())with|none=>none|some (q,_)=>match(ilt q (A2 i))with
 |true=>some (0,([]:List U4),([]:List U8),0,2,())
 |false=>some (a.1,i,([]:List U8),g,p,())
def Jw[Lk]:=lkk Le
theorem Ld v:Jw v=Le v:=A0 _
def lQ[Lk]:Ut->Option (U9):=fun(a,b,c,_)=>
 match Du ((a.1,(a.2.1,())),())with|none=>none|some (d,_)=>match(!d)with
 |true=>some ((-1:Int),())
 |false=>match yi ((a.1,(a.2.1,())),b,c,())with|none=>none|some (e,f,_)=>match(!f)with
 |true=>some ((-1:Int),())
 |false=>some (e,())
def ACT[Lk]:=lkk lQ
theorem re v:ACT v=lQ v:=A0 _
def Qy[Lk]:(Un×Int×Unit)->Option (Uf):=fun(a,b,_)=>
 match MY ((a.1,(a.2.1,())),([b]:List (Int)),())with|none=>none|some (c,_)=>match(!(ieq c 0))with
 |true=>some (([]:List (Int)),c,())
 |false=>match tof ((a.1,(a.2.1,())),b,())with|none=>none|some (d,_)=>match idx a.2.1 d with|none=>none|some e=>match IH e with|none=>none|some f=>match Ih (f,a.1,a.2.1,())with|none=>none|some (g,j,k,h,_)=>match pS ((C5 (A4 h) g),())with|none=>none|some (i,_)=>some (i,0,())
def LM[Lk]:=lkk Qy
theorem Ws v:LM v=Qy v:=A0 _
def R3[Lk]:Ut->Option (U4):=fun(a,b,c,_)=>
 match Du ((a.1,(a.2.1,())),())with|none=>none|some (e,_)=>match(!e)with
 |true=>some (0,1,())
 |false=>match(ilt (Cp b c) 0)with
 |true=>some (0,10,())
 |false=>match(ile a.1 (imax b c))with
 |true=>some (0,10,())
 |false=>match ACT ((a.1,(a.2.1,())),b,c,())with|none=>none|some (d,_)=>match(ilt d 0)with
 |true=>some (0,6,())
 |false=>some (d,0,())
def T8[Lk]:=lkk R3
theorem T7 v:T8 v=R3 v:=A0 _
abbrev AQK:A1:=[AYx,AI,AJ,AX]
def X4[Lk]:(Uc×Int×Int×Int×Unit)->Option (Uf):=fun(b,g,f,h,_)=>
 match T8 ((b.1,(b.2.1,())),g,f,())with|none=>none|some (m,c,_)=>match(ieq c 1)with
 |true=>some (([]:List (Int)),c,())
 |false=>match(ieq c 10)with
 |true=>some (([]:List (Int)),c,())
 |false=>match MG ((b.1,(b.2.1,())),h,())with|none=>none|some (d,n,_)=>match LM ((d.1,(d.2.1,())),g,())with|none=>none|some (a,o,_)=>match LM ((d.1,(d.2.1,())),f,())with|none=>none|some (e,p,_)=>match HF (a,f,())with|none=>none|some (i,_)=>match i with
 |true=>some (([]:List (Int)),5,())
 |false=>match EJ ((A2 a),(A2 e),())with|none=>none|some (j,_)=>match idx a 0 with|none=>none|some q=>match idx e 0 with|none=>none|some r=>match EJ ((A9 a 0 0),(A9 e 0 0),())with|none=>none|some (k,_)=>match orI (([j,k]:List (Int)),())with|none=>none|some (l,_)=>match(ilt l 0)with
 |true=>some (a,0,())
 |false=>some (e,0,())
def ABk[Lk]:=lkk X4
theorem Zv v:ABk v=X4 v:=A0 _
abbrev Aao:Loc×Con:=(.cell 0 1,.own 152 U1)
abbrev Aap:Loc×Con:=(.cell 0 2,.dat .bool)
abbrev Aaq:Loc×Con:=(.cell 0 4,.di)
abbrev AVD:A1:=[(.tmp 0,.box 8),AN,Aao,Aap,AaL,Aaq,AZm,AZn,AZt,AI,AJ,AX]
abbrev AVC:A1:=[AZx,AN,Aao,Aap,AaL,Aaq,AZm,AZn,AZt,AZv,AF]
abbrev Aar:Loc×Con:=(.tmp 14,.clo 253 [(2,0)])
abbrev Aas:Loc×Con:=(.cell 2 0,.map U0 U0)
abbrev ATn:A1:=[AZx,AN,Aao,Aap,AaL,Aaq,AZm,AZn,AZt,AZv,AZy,(.cap 14 0,.box 1),Aas,Aar,(.tmp 86,.prs 329 1),(.tmp 87,.di),(.tmp 88,.di)]
abbrev ATk:BH:=[(.exit 5,[AZx,AN,Aao,Aap,AaL,Aaq,AZm,AZn,AZt,AZv]),(.ret,[AZx,AN,Aao,Aap,AaL,Aaq,AZm,AZn,AZt,AZv,Aw])]
def UA[Lk]:(Int×List U2×Bool×Bool×Int×Int×Int×Int×List Uu×List Int×Int×Int×Unit)->Option ((Int×List U2×Bool×Bool×Int×Int×Int×Int×List Uu×List Int×Int×Int×Unit)⊕(Int×List U2×Bool×Bool×Int×Int×Int×Int×Unit)⊕(Int×List U2×Bool×Bool×Int×Int×Int×Int×Bool×Unit)⊕Unit):=fun(f,c,g,i,j,k,h,e,d,b,l,a,_)=>
 match(ilt a l)with
 |true=>match idx b a with|none=>none|some m=>match(ieq (w64 (((A_ d (A9 c (A4 (A9 b (A4 a) 0)) (0,(0,(0,(false,()))))).1).getD 0)+((A_ d (A9 c (A4 (A9 b (A4 a) 0)) (0,(0,(0,(false,()))))).2.1).getD 0))) 0)with
  |true=>some (.inl (f,c,g,i,j,k,h,e,d,b,l,(w64 (a+1)),()))
  |false=>match(ieq (w64 (((A_ d (A9 c (A4 (A9 b (A4 a) 0)) (0,(0,(0,(false,()))))).1).getD 0)+((A_ d (A9 c (A4 (A9 b (A4 a) 0)) (0,(0,(0,(false,()))))).2.1).getD 0))) 2)with
  |true=>some (.inl (f,(Bc c (A4 (A9 b (A4 a) 0)) ((A9 c (A4 (A9 b (A4 a) 0)) (0,(0,(0,(false,()))))).1,((A9 c (A4 (A9 b (A4 a) 0)) (0,(0,(0,(false,()))))).2.1,((Cp e (w64 ((A9 c (A4 (A9 b (A4 a) 0)) (0,(0,(0,(false,()))))).2.2.1+1))),((A9 c (A4 (A9 b (A4 a) 0)) (0,(0,(0,(false,()))))).2.2.2.1,()))))),g,i,j,k,(w64 (h+1)),e,d,b,l,(w64 (a+1)),()))
  |false=>match(ieq (w64 (((A_ d (A9 c (A4 (A9 b (A4 a) 0)) (0,(0,(0,(false,()))))).1).getD 0)+((A_ d (A9 c (A4 (A9 b (A4 a) 0)) (0,(0,(0,(false,()))))).2.1).getD 0))) 1)with
  |true=>some (.inr (.inr (.inl (f,(Bc c (A4 (A9 b (A4 a) 0)) ((A9 c (A4 (A9 b (A4 a) 0)) (0,(0,(0,(false,()))))).1,((A9 c (A4 (A9 b (A4 a) 0)) (0,(0,(0,(false,()))))).2.1,((A9 c (A4 (A9 b (A4 a) 0)) (0,(0,(0,(false,()))))).2.2.1,(true,()))))),g,true,(A9 (Bc c (A4 (A9 b (A4 a) 0)) ((A9 c (A4 (A9 b (A4 a) 0)) (0,(0,(0,(false,()))))).1,((A9 c (A4 (A9 b (A4 a) 0)) (0,(0,(0,(false,()))))).2.1,((A9 c (A4 (A9 b (A4 a) 0)) (0,(0,(0,(false,()))))).2.2.1,(true,()))))) (A4 (A9 b (A4 a) 0)) (0,(0,(0,(false,()))))).1,(A9 (Bc c (A4 (A9 b (A4 a) 0)) ((A9 c (A4 (A9 b (A4 a) 0)) (0,(0,(0,(false,()))))).1,((A9 c (A4 (A9 b (A4 a) 0)) (0,(0,(0,(false,()))))).2.1,((A9 c (A4 (A9 b (A4 a) 0)) (0,(0,(0,(false,()))))).2.2.1,(true,()))))) (A4 (A9 b (A4 a) 0)) (0,(0,(0,(false,()))))).2.1,h,e,true,()))))
  |false=>some (.inl (f,c,g,i,j,k,h,e,d,b,l,(w64 (a+1)),()))
 |false=>some (.inr (.inl (f,c,g,i,j,k,h,e,())))
abbrev ATo:A1:=[AZx,AN,Aao,Aap,AaL,Aaq,AZm,AZn,AZt,AZv,AZy,AX,(.cap 14 0,.box 1),Aas,Aar,(.tmp 15,.prs 329 1),Aag,(.tmp 48,.di)]
abbrev ATl:BH:=[(.exit 2,[AZx,AN,Aao,Aap,AaL,Aaq,AZm,AZn,AZt,AZv,AZy,(.cap 14 0,.box 1),Aas,Aar,(.tmp 15,.prs 329 1)])]
def UB[Lk]:Uw->Option (Uw⊕(Int×List U2×Bool×Bool×Int×Int×Int×Int×List Uu×List Int×Unit)⊕Unit):=fun(f,b,g,h,i,j,k,d,l,c,e,m,a,_)=>
 match(ilt a m)with
 |true=>match idx b a with|none=>none|some n=>match(!(ieq (A9 b (A4 a) (0,(0,(0,(false,()))))).2.2.1 l))with
  |true=>some (.inl (f,b,g,h,i,j,k,d,l,c,e,m,(w64 (a+1)),()))
  |false=>match(!(A9 b (A4 a) (0,(0,(0,(false,()))))).2.2.2.1)with
  |true=>match(fits ((A2 e)+(A2 ([(Int.ofNat (A4 a))]:List (Int)))))with
   |true=>some (.inl (f,b,g,h,i,j,k,d,l,c,(BV e ([(Int.ofNat (A4 a))]:List (Int))),m,(w64 (a+1)),()))
   |false=>none
  |false=>match(ieq (w64 (((A_ c (A9 b (A4 a) (0,(0,(0,(false,()))))).1).getD 0)+((A_ c (A9 b (A4 a) (0,(0,(0,(false,()))))).2.1).getD 0))) 2)with
  |true=>some (.inl (f,(Bc b (A4 a) ((A9 b (A4 a) (0,(0,(0,(false,()))))).1,((A9 b (A4 a) (0,(0,(0,(false,()))))).2.1,((Cp d (w64 ((A9 b (A4 a) (0,(0,(0,(false,()))))).2.2.1+1))),((A9 b (A4 a) (0,(0,(0,(false,()))))).2.2.2.1,()))))),g,h,i,j,(w64 (k+1)),d,l,c,e,m,(w64 (a+1)),()))
  |false=>some (.inl (f,b,g,h,i,j,k,d,l,c,e,m,(w64 (a+1)),()))
 |false=>some (.inr (.inl (f,b,g,h,i,j,k,d,c,e,())))
abbrev ATp:A1:=[AZx,AN,Aao,Aap,AaL,Aaq,AZm,AZn,AZt,AZv,AZy,AX,(.tmp 11,.box 1),Aas,(.tmp 32,.own 3 U0),(.tmp 33,.di),(.tmp 34,.di)]
abbrev ATm:BH:=[(.exit 0,[AZx,AN,Aao,Aap,AaL,Aaq,AZm,AZn,AZt,AZv,AZy,AX,(.tmp 11,.box 1),Aas])]
def UC[Lk]:Uw->Option (Uw⊕(Int×List U2×Bool×Bool×Int×Int×Int×Int×Int×List Uu×Unit)⊕Unit):=fun(c,d,e,f,g,h,i,j,k,l,b,m,a,_)=>
 match(ilt a m)with
 |true=>match idx b a with|none=>none|some n=>some (.inl (c,d,e,f,g,h,i,j,k,(BG l (A9 b (A4 a) 0) 1),b,m,(w64 (a+1)),()))
 |false=>some (.inr (.inl (c,d,e,f,g,h,i,j,k,l,())))
def ALf[Lk]:(Int×List U2×Bool×Bool×Int×Int×Int×Int×Int×Int×Int×Unit)->Option ((Int×List U2×Bool×Bool×Int×Int×Int×Int×Bool×Unit)):=fun(a,b,g,h,i,j,k,l,m,n,c,_)=>
 match ABk ((a,(b,())),m,n,c,())with|none=>none|some (d,Y,_)=>match A8 UC many (a,b,g,h,i,j,k,l,c,([]:List Uu),d,(A2 d),0,())with|none=>none|some r=>match r with
 |.inl (o,e,p,q,s,t,u,v,w,x,_)=>match A8 UB many (o,e,p,q,s,t,u,v,w,x,([]:List (Int)),(A2 e),0,())with|none=>none|some r=>match r with
  |.inl (y,z,A,B,C,D,E,F,G,f,_)=>match A8 UA many (y,z,A,B,C,D,E,F,G,f,(A2 f),0,())with|none=>none|some r=>match r with
   |.inl (H,I,J,K,L,M,N,O,_)=>some (H,I,J,K,L,M,N,O,false,())
   |.inr r=>match r with
   |.inl (P,Q,R,S,T,U,V,W,X,_)=>some (P,Q,R,S,T,U,V,W,X,())
   |.inr _=>none
  |.inr _=>none
 |.inr _=>none
def pat[Lk]:=lkk ALf
theorem ALe v:pat v=ALf v:=A0 _
abbrev ATa:A1:=[AB,AZ1,(.tmp 2,.dat Vc),AX]
abbrev AK9:List RS:=[.agg 2,.one,.one]
abbrev Aat:Loc×Con:=(.cell 0 1,.nil U1)
abbrev Aau:Loc×Con:=(.cell 1 3,.di)
abbrev AQM:A1:=[Aal,AN,Aat,(.tmp 7,.box 5),(.cell 1 0,.dat .bool),(.cell 1 1,.dat .bool),AaS,Aau,(.cell 1 4,.di),(.tmp 11,.box 4),AZ5,AZ4,(.cell 2 2,.di),(.cell 2 3,.dat .bool),(.tmp 12,.box 8),(.cell 3 0,.di),(.cell 3 1,.own 152 U1),(.cell 3 2,.dat .bool),(.cell 3 3,.dat .bool),(.cell 3 4,.di),(.cell 3 5,.di),(.cell 3 6,.di),(.cell 3 7,.di),AS]
abbrev AQL:BH:=[(.exit 0,[Aal,AN,Aat,(.tmp 7,.box 5),(.cell 1 0,.dat .bool),(.cell 1 1,.dat .bool),AaS,Aau,(.cell 1 4,.di),(.tmp 12,.box 8),AZ5,(.cell 2 1,.own 152 U1),(.cell 2 2,.dat .bool),(.cell 2 3,.dat .bool),(.cell 2 4,.di),(.cell 2 5,.di),(.cell 2 6,.di),(.cell 2 7,.di)])]
def HV[Lk]:Vn->Option (Vn⊕(Int×Bool×Bool×Int×Int×Int×Int×List U2×Bool×Bool×Int×Int×Int×Int×Unit)⊕Unit):=fun(a,b,c,d,e,f,p,q,A,r,g,h,i,j,k,l,m,n,o,_)=>
 match r with
 |true=>match(ile 0 o)with
  |true=>match pat (g,h,i,j,k,l,m,n,p,q,o,())with|none=>none|some (s,t,u,v,w,x,y,z,B,_)=>match(!B)with
   |true=>some (.inl (a,b,c,d,e,f,p,q,A,r,s,t,u,v,w,x,y,z,(w64 (o-1)),()))
   |false=>some (.inr (.inl (a,b,c,d,e,f,s,t,u,v,w,x,y,z,())))
  |false=>some (.inr (.inl (a,b,c,d,e,f,g,h,i,j,k,l,m,n,())))
 |false=>some (.inr (.inl (a,b,c,d,e,f,g,h,i,j,k,l,m,n,())))
def kg[Lk]:Ut->Option ((Int×List U2×Uz×Int×Unit)):=fun(a,e,f,_)=>
 match T8 ((a.1,(a.2.1,())),e,f,())with|none=>none|some (c,d,_)=>match(!(ieq d 0))with
 |true=>some (a.1,a.2.1,(false,(false,((0,(0,())),(0,())))),d,())
 |false=>match idx a.2.1 c with|none=>none|some b=>match Ci a.2.1 0 c with|none=>none|some g=>match Ci a.2.1 (w64 (c+1)) (A2 a.2.1)with|none=>none|some h=>match TD (([g,h]:List (List U2)),())with|none=>none|some (i,_)=>match lN (a.1,())with|none=>none|some (j,_)=>match A8 HV many (0,false,false,0,0,0,b.1,b.2.1,b.2.2.1,b.2.2.2.1,a.1,i,b.2.2.2.1,false,0,0,0,j,b.2.2.1,())with|none=>none|some r=>match r with
 |.inl (s,t,u,v,w,x,k,l,m,n,o,p,q,y,_)=>some (k,l,(m,(n,((o,(p,())),(q,())))),0,())
 |.inr _=>none
def wx[Lk]:=lkk kg
theorem kf v:wx v=kg v:=A0 _
abbrev AQO:A1:=[AYx,(.tmp 1,.own 196 Vc),AJ]
abbrev Aav:Loc×Con:=(.cell 1 1,.nil U1)
abbrev ALZ:A1:=[AP,AN,AY4,AO,AQ,Aav,(.tmp 9,.own 196 Vc),(.tmp 10,.box 2),(.cell 3 0,.di),(.cell 3 1,.dat Uq),(.tmp 27,.own 88 U3),Aaf,Aai]
abbrev ALY:BH:=[(.ret,[AO,AN,AY4,(.tmp 5,.nil Vc),AY3]),(.exit 0,[AO,AN,Aat,(.tmp 9,.own 196 Vc),(.tmp 10,.box 2),AZ5,(.cell 2 1,.dat Uq)])]
def Hp[Lk]:(Int×List U2×Int×List Uz×Int×List U2×List U4×Int×Int×Unit)->Option ((Int×List U2×Int×List Uz×Int×List U2×List U4×Int×Int×Unit)⊕(Int×List U2×Int×Unit)⊕(Int×List Uz×Int×List U2×Unit)⊕Unit):=fun(e,f,g,d,h,i,c,j,b,_)=>
 match(ilt b j)with
 |true=>match idx c b with|none=>none|some n=>match wx ((h,(i,())),(A9 c (A4 b) (0,(0,()))).1,(A9 c (A4 b) (0,(0,()))).2.1,())with|none=>none|some (l,m,a,k,_)=>match(!(ieq k 0))with
  |true=>some (.inr (.inl (e,f,k,())))
  |false=>match(fits ((A2 d)+(A2 ([(a.1,(a.2.1,((a.2.2.1.1,(a.2.2.1.2.1,())),(a.2.2.2.1,()))))]:List Uz))))with
  |true=>some (.inl (e,f,g,(BV d ([(a.1,(a.2.1,((a.2.2.1.1,(a.2.2.1.2.1,())),(a.2.2.2.1,()))))]:List Uz)),l,m,c,j,(w64 (b+1)),()))
  |false=>none
 |false=>some (.inr (.inr (.inl (g,d,h,i,()))))
def kr[Lk]:(Uc×List U4×Unit)->Option ((Uc×List Uz×Int×Unit)):=fun(a,d,_)=>
 match gh ((a.1,(a.2.1,())),d,())with|none=>none|some (b,c,_)=>match(!(ieq c 0))with
 |true=>some ((a.1,(a.2.1,())),([]:List Uz),c,())
 |false=>match A8 Hp many (a.1,a.2.1,0,([]:List Uz),a.1,a.2.1,b,(A2 b),0,())with|none=>none|some r=>match r with
 |.inl (e,f,g,_)=>some ((e,(f,())),([]:List Uz),g,())
 |.inr r=>match r with
 |.inl (k,h,i,j,_)=>some ((i,(j,())),h,0,())
 |.inr _=>none
def qS[Lk]:=lkk kr
theorem qR v:qS v=kr v:=A0 _
def kK[Lk]:(Uc×Unit)->Option ((List Int×Bool×Unit)):=fun(a,_)=>
 match Du ((a.1,(a.2.1,())),())with|none=>none|some (b,_)=>match(!b)with
 |true=>some (([]:List (Int)),false,())
 |false=>match UN ((a.1,(a.2.1,())),())with|none=>none|some (c,_)=>match Rq (a.1,c,())with|none=>none|some (d,e,_)=>some (d,true,())
def ABc[Lk]:=lkk kK
theorem pf v:ABc v=kK v:=A0 _
abbrev vu:A1:=[AYx,(.tmp 1,.dat (.slice Vm))]
abbrev ph:A1:=[Aa,(.tmp 8,.own 3 U0),(.tmp 20,.dat (.slice Vm)),(.tmp 21,.di),(.tmp 22,.di)]
abbrev pg:BH:=[(.ret,[(.tmp 4,.nil U0),AG]),(.exit 0,[(.tmp 8,.own 3 U0)])]
def Fi[Lk]:(List Int×List Int×List U8×Int×Int×Unit)->Option ((List Int×List Int×List U8×Int×Int×Unit)⊕U9⊕Ue⊕Unit):=fun(d,a,e,f,b,_)=>
 match(ilt b f)with
 |true=>match idx e b with|none=>none|some c=>match YW (d,(c.1,(c.2.1,(c.2.2.1,()))),())with|none=>none|some (g,h,_)=>match(!(ieq h 0))with
  |true=>some (.inr (.inl (h,())))
  |false=>match(fits ((A2 a)+(A2 ([g]:List (Int)))))with
  |true=>some (.inl (d,(BV a ([g]:List (Int))),e,f,(w64 (b+1)),()))
  |false=>none
 |false=>some (.inr (.inr (.inl (a,()))))
def P_[Lk]:(Uc×List U8×Unit)->Option (Uf):=fun(a,b,_)=>
 match ABc ((a.1,(a.2.1,())),())with|none=>none|some (c,d,_)=>match(!d)with
 |true=>some (([]:List (Int)),1,())
 |false=>match A8 Fi many (c,([]:List (Int)),b,(A2 b),0,())with|none=>none|some r=>match r with
 |.inl (e,_)=>some (([]:List (Int)),e,())
 |.inr r=>match r with
 |.inl (f,_)=>some (f,0,())
 |.inr _=>none
def NV[Lk]:=lkk P_
theorem WV v:NV v=P_ v:=A0 _
def bq[Lk]:(Un×Int×Unit)->Option (U4):=fun(a,b,_)=>
 match MY ((a.1,(a.2.1,())),([b]:List (Int)),())with|none=>none|some (c,_)=>match(!(ieq c 0))with
 |true=>some (0,c,())
 |false=>match tof ((a.1,(a.2.1,())),b,())with|none=>none|some (d,_)=>match idx a.2.1 d with|none=>none|some e=>match idx e 0 with|none=>none|some f=>some (f,0,())
def VE[Lk]:=lkk bq
theorem iO v:VE v=bq v:=A0 _
abbrev Aaw:Loc×Con:=(.tmp 7,.own 88 U3)
abbrev kH:A1:=[AP,AN,AYt,Aaw,(.tmp 24,.dat V4),AZW,Ac]
abbrev kG:BH:=[(.exit 0,[Aaw])]
def GB[Lk]:(Int×List U5×List U4×List U4×Int×Int×Unit)->Option ((Int×List U5×List U4×List U4×Int×Int×Unit)⊕Vf⊕Unit):=fun(a,b,c,e,f,d,_)=>
 match(ilt d f)with
 |true=>match idx e d with|none=>none|some g=>match VE ((a,(b,())),g.1,())with|none=>none|some (h,j,_)=>match VE ((a,(b,())),g.2.1,())with|none=>none|some (i,k,_)=>match(fits ((A2 c)+(A2 ([(h,(i,()))]:List U4))))with
  |true=>some (.inl (a,b,(BV c ([(h,(i,()))]:List U4)),e,f,(w64 (d+1)),()))
  |false=>none
 |false=>some (.inr (.inl (c,())))
def NS[Lk]:(Un×List U4×Unit)->Option ((List U4×Int×Unit)):=fun(a,b,_)=>
 match NH ((a.1,(a.2.1,())),())with|none=>none|some (d,_)=>match(!d)with
 |true=>some (([]:List U4),1,())
 |false=>match ZU (a.1,b,())with|none=>none|some (c,_)=>match(!(ieq c 0))with
 |true=>some (([]:List U4),c,())
 |false=>match A8 GB many (a.1,a.2.1,([]:List U4),b,(A2 b),0,())with|none=>none|some r=>match r with
 |.inl (e,_)=>some (e,0,())
 |.inr _=>none
def Oq[Lk]:=lkk NS
theorem Rp v:Oq v=NS v:=A0 _
abbrev AER:A1:=[AZY,AI]
def Tv[Lk]:(Un×List U4×Unit)->Option ((List Bool×Int×Unit)):=fun(a,c,_)=>
 match Oq ((a.1,(a.2.1,())),c,())with|none=>none|some (d,b,_)=>match(!(ieq b 0))with
 |true=>some (([]:List (Bool)),b,())
 |false=>match Zb (a.1,())with|none=>none|some (e,_)=>match Tt (e,d,())with|none=>none|some (g,f,_)=>some (f,0,())
def X0[Lk]:=lkk Tv
theorem ZQ v:X0 v=Tv v:=A0 _
abbrev AUL:A1:=[AB,AZ1,AJ,AX]
abbrev AR2:A1:=[AP,AN,AY4,AO,AQ,Aav,Aaw,(.tmp 11,.own 4 .bool),(.tmp 13,.own 152 U1),(.tmp 46,.own' 2),Aag,(.tmp 48,.di)]
abbrev AR1:BH:=[(.exit 0,[AP,AN,AY4,AO,AQ,Aav,Aaw,(.tmp 13,.own 152 U1)])]
def PB[Lk]:(Int×List U2×Int×List U4×List Bool×List U2×Int×Int×Unit)->Option ((Int×List U2×Int×List U4×List Bool×List U2×Int×Int×Unit)⊕(Int×List U2×Int×List U4×List U2×Unit)⊕Unit):=fun(e,f,g,b,c,d,h,a,_)=>
 match(ilt a h)with
 |true=>match idx b a with|none=>none|some i=>match idx c a with|none=>none|some j=>match(fits ((A2 d)+(A2 ([((A9 b (A4 a) (0,(0,()))).1,((A9 b (A4 a) (0,(0,()))).2.1,(0,((A9 c (A4 a) false),()))))]:List U2))))with
  |true=>some (.inl (e,f,g,b,c,(BV d ([((A9 b (A4 a) (0,(0,()))).1,((A9 b (A4 a) (0,(0,()))).2.1,(0,((A9 c (A4 a) false),()))))]:List U2)),h,(w64 (a+1)),()))
  |false=>none
 |false=>some (.inr (.inl (e,f,g,b,d,())))
def zS[Lk]:(Uc×List U4×Unit)->Option ((Int×List U2×Int×Int×Unit)):=fun(a,e,_)=>
 match ANK ((a.1,(a.2.1,())),e,())with|none=>none|some (b,c,_)=>match(!(ieq c 0))with
 |true=>some (a.1,a.2.1,0,c,())
 |false=>match ACb ((a.1,(a.2.1,())),(A2 b),())with|none=>none|some (f,_)=>match(!f)with
 |true=>some (a.1,a.2.1,0,2,())
 |false=>match MG ((a.1,(a.2.1,())),0,())with|none=>none|some (d,m,_)=>match X0 ((d.1,(d.2.1,())),b,())with|none=>none|some (g,n,_)=>match IH a.2.1 with|none=>none|some h=>match A8 PB many (a.1,a.2.1,0,b,g,h,(A2 b),0,())with|none=>none|some r=>match r with
 |.inl (i,o,p,j,k,_)=>match ABW (k,())with|none=>none|some (l,_)=>some (i,l,(A2 j),0,())
 |.inr _=>none
def AHO[Lk]:=lkk zS
theorem ACf v:AHO v=zS v:=A0 _
abbrev Aax:Loc×Con:=(.tmp 0,.dat (.prod Uk U3))
abbrev rq:A1:=[Aax]
def au[Lk]:(Ut×Unit)->Option (Ua):=fun(a,_)=>
 match Du ((a.1.1,(a.1.2.1,())),())with|none=>none|some (b,_)=>match b with
 |true=>match N1 (a.2.1,())with|none=>none|some (c,_)=>match c with
  |true=>match N1 (a.2.2.1,())with|none=>none|some (d,_)=>some (d,())
  |false=>some (false,())
 |false=>some (false,())
def FA[Lk]:=lkk au
theorem iA v:FA v=au v:=A0 _
open Go.Proofs
def Xy:=Chn.g ⟨jM,oE⟩ ⟨151,0,0,1,0,none,BP,[(.ret,BI)],A7,[],[]⟩ AKH Tryz.func151 AKG
theorem AUU:Tryz.f150.body.isSome=true:=by kernel_rfl
theorem AUT : (Tryz.f150.name == "runtime.NumGoroutine") = false := by kernel_rfl
theorem AUS:loops (CE Tryz.f150)=0:=by kernel_rfl
def jP[Lk]:Env:=Xy.e.ext 150 false false (CL Tryz.prog Xy.e {} Tryz.f150)
theorem oH:Bn Tryz.prog jP:=Env.CU Xy.h (B4 Xy.h Tryz.func150 AUU AUT AUS) (by simp) (by simp)
def bS:=Chn.g ⟨jP,oH⟩ ⟨134,0,0,2,0,some (1,150),Nz,[(.ret,BP)],A7,[],[(0,XT,EN)]⟩ MQ Tryz.func134 XU
def Xd:=Chn.g bS ⟨60,0,0,2,0,some (1,150),Nz,[(.ret,BI)],A7,[],[]⟩ Ki Tryz.func60 VR
def AEL:=Chn.g Xd ⟨152,0,0,1,0,none,BP,[(.ret,BI)],A7,[],[]⟩ Ro Tryz.func152 vl
def APJ:=Chn.g AEL ⟨153,0,0,1,0,none,BP,[(.ret,API)],A7,[],[]⟩ og Tryz.func153 AJJ
def zj:=Chn.g APJ ⟨75,0,0,1,0,none,b7,[(.ret,Mf)],BO,[(3,[[0],[0],[],[],[0],[0],[],[19,20],[0],[0],[],[],[29,30]])],[(0,sj,N_)]⟩ b9 Tryz.func75 sk
def AKN:=Chn.g zj ⟨70,0,0,2,0,none,AKM,[(.ret,BI)],A7,[],[]⟩ QA Tryz.func70 fy
def AKO:=Chn.g AKN ⟨25,0,0,2,0,none,pn,[(.ret,BI)],A7,[(6,[[0],[0],[],[],[],[2],[2]])],[(0,AEY,I3)]⟩ QB Tryz.func25 gD
def ANh:=Chn.g AKO ⟨122,0,0,2,0,none,ANg,[(.ret,BI)],A7,[],[(0,AHe,I3)]⟩ zf Tryz.func122 AHf
def AQ2:=Chn.g ANh ⟨54,0,0,2,0,none,pn,[(.ret,BI)],A7,[],[]⟩ AMP Tryz.func54 AMO
def Xc:=Chn.g AQ2 ⟨60,0,0,2,0,some (1,207),Nx,[(.ret,BI)],A7,[],[]⟩ Hc Tryz.func60 LY
def TC:=Chn.g Xc ⟨60,0,1,2,0,some (1,172),LJ,[(.ret,TB)],A7,[],[]⟩ FU Tryz.func60 Jn
def cb:=Chn.g TC ⟨60,0,0,2,0,some (1,129),Pc,[(.ret,BI)],A7,[],[]⟩ Ml Tryz.func60 Xb
def Q5:=Chn.g cb ⟨60,0,1,2,0,some (1,212),KO,[(.ret,Q4)],A7,[],[]⟩ HG Tryz.func60 IK
def eZ:=Chn.g Q5 ⟨60,0,1,2,0,some (1,115),Sf,[(.ret,eY)],A7,[],[]⟩ KV Tryz.func60 OH
def cL:=Chn.g eZ ⟨334,0,2,2,8,some (1,335),Ny,[(.ret,cK)],A7,[],[(0,Xa,XZ)]⟩ Ih Tryz.func334 M3
def AN4:=Chn.g cL ⟨139,0,0,2,0,none,LH,[(.ret,BI)],A7,[],[]⟩ VP Tryz.func139 iZ
def AIf:=Chn.g AN4 ⟨65,0,0,2,0,none,AIe,[(.ret,Ku)],BO,[(5,[[0],[2],[2],[],[],[0],[2],[2]])],[]⟩ YW Tryz.func65 cy
def AEP:=Chn.g AIf ⟨74,0,0,1,0,none,b7,[(.ret,Mf)],BO,[],[(0,vq,vp)]⟩ kF Tryz.func74 vr
def AKb:=Chn.g AEP ⟨124,0,0,1,0,none,QY,[(.ret,BI)],A7,[],[]⟩ QE Tryz.func124 gJ
def ALD:=Chn.g AKb ⟨317,0,0,2,0,none,LH,[(.ret,Sq)],BO,[],[(0,AE4,AE3)]⟩ places Tryz.func317 gb
def AP1:=Chn.g ALD ⟨267,0,0,2,0,none,Ja,[(.ret,Sq)],BO,[],[]⟩ qC Tryz.func267 qB
def AKc:=Chn.g AP1 ⟨319,0,0,1,0,none,QY,[(.ret,EW)],A7,[],[]⟩ kP Tryz.func319 gK
def AJT:=Chn.g AKc ⟨55,0,0,1,0,none,gL,[(.ret,BI)],A7,[(8,[[],[],[],[],[],[],[],[],[],[],[],[],[],[],[],[],[],[],[],[],[],[],[],[],[0],[0]])],[(0,ADj,ADg),(1,ADi,ADf),(2,ADh,ADe)]⟩ NH Tryz.func55 fP
def ASW:=Chn.g AJT ⟨266,0,0,3,0,none,aa,[(.ret,BP)],A7,[],[]⟩ asked Tryz.func266 uE
def APN:=Chn.g ASW ⟨269,0,0,3,0,none,APM,[(.ret,APL)],APK,[],[(0,AJN,AJL),(1,AJM,AJK)]⟩ ABL Tryz.func269 oh
def APU:=Chn.g APN ⟨228,0,0,3,0,none,aa,[(.ret,rX)],Xp,[(9,[[],[28],[0],[0],[],[],[],[],[],[0],[0],[],[],[],[],[],[28],[28,52,36,62],[64]]),(4,[[0],[],[],[0]])],[]⟩ fT Tryz.func228 Y2
def ANP:=Chn.g APU ⟨89,0,0,2,0,none,ANO,[(.ret,BP)],A7,[],[]⟩ MY Tryz.func89 iJ
def zl:=Chn.g ANP ⟨227,0,0,3,0,some (2,228),zk,[(.ret,UL)],DH,[(1,[[0],[],[],[4]])],[(0,ss,sr)]⟩ cB Tryz.func227 W0
def ANa:=Chn.g zl ⟨171,0,0,2,0,none,Kv,[(.ret,UL)],DH,[],[]⟩ za Tryz.func171 iN
def AVO:=Chn.g ANa ⟨87,0,0,2,0,none,H4,[(.ret,F_)],BO,[],[]⟩ fof Tryz.func87 ANY
def AMQ:=Chn.g AVO ⟨86,0,0,1,0,none,K1,[(.ret,BI)],A7,[(7,[[2],[2],[],[],[2],[2],[2],[2],[],[],[],[2],[2],[0],[0],[],[],[],[2],[2],[],[],[],[2],[2],[],[],[],[],[],[],[],[0],[0],[],[],[],[],[2]])],[(0,AGa,AGZ)]⟩ Du Tryz.func86 K_
def AU0:=Chn.g AMQ ⟨90,0,0,2,0,none,F_,[(.ret,BP)],A7,[],[]⟩ tof Tryz.func90 AJY
def AGj:=Chn.g AU0 ⟨39,0,0,2,0,none,Nq,[(.ret,F_)],BO,[(3,[[0],[0],[0],[],[],[12],[],[],[3]])],[]⟩ MG Tryz.func39 Qb
def ADd:=Chn.g AGj ⟨58,0,0,2,4,none,LH,[(.ret,jC)],Vp,[(12,[[2],[2],[],[],[],[],[],[10],[10],[8],[9,12]]),(5,[[],[],[],[],[],[],[],[],[37]])],[(0,uu,uq),(1,ur,uo)]⟩ jq Tryz.func58 uv
def AMW:=Chn.g ADd ⟨42,0,0,1,0,none,K1,[(.ret,aT)],A7,[],[(0,AGp,AGo)]⟩ UN Tryz.func42 g9
def AQN:=Chn.g AMW ⟨109,0,0,2,0,none,X8,[(.ret,ko)],BO,[(10,[[2],[6],[4],[],[5],[],[5]])],[(0,ALW,ALV)]⟩ gh Tryz.func109 Z2
def AUK:=Chn.g AQN ⟨102,0,0,2,0,none,X8,[(.ret,ko)],BO,[],[(0,ARy,ARw),(1,ARx,ARv)]⟩ ANK Tryz.func102 ACe
def ASZ:=Chn.g AUK ⟨116,0,0,1,0,none,K1,[(.ret,BP)],A7,[],[]⟩ AC2 Tryz.func116 uF
def AOz:=Chn.g ASZ ⟨50,0,0,3,0,none,AOy,[(.ret,AOx)],vK,[(16,[[48],[48],[50],[0]])],[]⟩ Jw Tryz.func50 Ld
def AQ4:=Chn.g AOz ⟨250,0,0,3,0,none,SH,[(.ret,BP)],A7,[],[]⟩ ACT Tryz.func250 re
def zZ:=Chn.g AQ4 ⟨299,0,0,2,0,none,F_,[(.ret,NO)],BO,[(4,[[0],[0],[0],[],[],[],[],[],[],[1000005,21,1]])],[]⟩ LM Tryz.func299 Ws
def ALX:=Chn.g zZ ⟨192,0,0,3,0,none,SH,[(.ret,Ku)],BO,[],[]⟩ T8 Tryz.func192 T7
def X5:=Chn.g ALX ⟨252,0,0,4,0,none,AQK,[(.ret,NO)],BO,[(9,[[],[20],[],[28],[],[],[20],[20],[],[28],[28],[],[],[60]])],[]⟩ ABk Tryz.func252 Zv
def Oc[Lk]:Env:=X5.e.ext 254 false false (CL Tryz.prog X5.e { fp:=fun n=>match n with|0=>[[],[],[0],[0],[0],[],[2],[2],[2],[],[],[2],[2],[3]]|_=>[] } Tryz.f254)
theorem Oa:Bn Tryz.prog Oc:=Env.CU X5.h (B4 X5.h Tryz.func254 AK5 AK4 AK3) (by simp) (by simp)
def jN[Lk]:Env:=Oc.ext 253 false false (CL Tryz.prog Oc {} Tryz.f253)
theorem oF:Bn Tryz.prog jN:=Env.CU Oa (B4 Oa Tryz.func253 ATs ATr ATq) (by simp) (by simp)
def AVE:=Chn.g ⟨jN,oF⟩ ⟨194,0,2,4,0,none,AVD,[(.ret,AVC)],A7,[(29,[[],[],[],[2],[2],[2],[],[2],[2],[2],[],[0],[0],[0],[1],[0],[0],[0],[1]])],[(0,ATp,ATm),(1,ATo,ATl),(2,ATn,ATk)]⟩ pat Tryz.func194 ALe
def ATb:=Chn.g AVE ⟨110,0,0,3,0,none,SH,[(.ret,ATa)],AK9,[(9,[[],[4],[4],[4],[],[4],[4],[4],[1],[3]]),(5,[[0],[0],[0],[0],[],[],[0],[0],[],[],[],[],[16],[],[14],[14],[],[0],[0],[],[],[18]])],[(0,AQM,AQL)]⟩ wx Tryz.func110 kf
def AQP:=Chn.g ATb ⟨48,0,0,2,0,none,X8,[(.ret,AQO)],DH,[(12,[[20],[],[22],[],[5,24],[7]])],[(0,ALZ,ALY)]⟩ qS Tryz.func48 qR
def APx:=Chn.g AQP ⟨64,0,0,1,0,none,K1,[(.ret,Sq)],BO,[(3,[[0],[0],[0],[],[10]])],[]⟩ ABc Tryz.func64 pf
def vv:=Chn.g APx ⟨214,0,0,2,0,none,vu,[(.ret,NO)],BO,[],[(0,ph,pg)]⟩ NV Tryz.func214 WV
def ANb:=Chn.g vv ⟨238,0,0,2,0,none,F_,[(.ret,Ku)],BO,[(4,[[0],[0],[0]])],[]⟩ VE Tryz.func238 iO
def pY:=Chn.g ANb ⟨185,0,0,2,0,none,Kv,[(.ret,ko)],BO,[],[(0,kH,kG)]⟩ Oq Tryz.func185 Rp
def AES:=Chn.g pY ⟨104,0,0,2,0,none,Kv,[(.ret,AER)],BO,[],[]⟩ X0 Tryz.func104 ZQ
def AUM:=Chn.g AES ⟨47,0,0,2,0,none,X8,[(.ret,AUL)],AK9,[(12,[[],[10],[10],[10],[10],[],[],[6],[6],[],[],[9,12]])],[(0,AR2,AR1)]⟩ AHO Tryz.func47 ACf
def GL:=Chn.g AUM ⟨57,0,0,1,0,none,rq,[(.ret,BI)],A7,[],[]⟩ FA Tryz.func57 iA
set_option maxHeartbeats 8000000
attribute [local irreducible] A2 A9 BV C5 IF Dm A4 Cd Cp imax idx Ci ilt ile ieq seq? quo? rem? shl? shr? fits Ca IntKind.wrap A_ BG R1 rN Bc XY A8 many Q3
abbrev Ic:A1:=[AB]
abbrev Ib:A1:=[]
abbrev KK:List RS:=[]
abbrev O6:A1:=[]
def YM[Lk]:Hints:={ fp:=Sr [] }
def Wm[Lk](v:Be (leaves Ic)):Option (Be (leaves Ib)⊕(List Int×Be (leaves O6))):=Lk.f (Cm 0 Tryz.prog GL.e YM Tryz.f213 Ic Ib KK 229 [.i64] O6 v)
theorem bH(v):Wm v=Cm 0 Tryz.prog GL.e YM Tryz.f213 Ic Ib KK 229 [.i64] O6 v:=A0 _
theorem Wl:Bx Tryz.prog 0 YM (CE Tryz.f213) 0:=DF _ 0 (by kernel_rfl)
theorem AMu:Hf Tryz.prog 213 (Bb 0 1 Ic Ib KK fun x=>DV (Wm x)) (IJ 0 1 Ic Ib KK 229 [.i64] O6 Wm):=K8 GL.h.1 GL.h.2.1 GL.h.2.2 Tryz.func213 (Gb (by kernel_rfl)) (Cb Tryz.func213 (by kernel_rfl) (by kernel_rfl)) (AWl rfl) bH Wl
theorem AMt:BW Tryz.prog 213 (Bb 0 1 Ic Ib KK fun x=>DV (Wm x)):=K6 GL.h Tryz.func213 (by kernel_rfl) (by kernel_rfl) rfl bH Wl
def TS[Lk]:Env:=Env.mg GL.e 213 true (Bb 0 1 Ic Ib KK fun x=>DV (Wm x)) (IJ 0 1 Ic Ib KK 229 [.i64] O6 Wm)
theorem Jx:Bn Tryz.prog TS:=Env.YN GL.h AMt AMu (fun _=>Co rfl rfl)
abbrev Aay:Loc×Con:=(.tmp 1,.dat (.prod (.int .i64) (.prod (.slice (.prod (.int .i64) (.prod (.int .i64) .unit))) (.prod (.slice (.prod (.int .i64) (.prod (.int .i64) (.prod (.int .i64) .unit)))) .unit))))
abbrev Aaz:Loc×Con:=(.tmp 2,.dat (.prod (.int .i64) (.prod (.int .i64) (.prod (.prod (.int .i64) (.prod (.int .i64) (.prod (.slice (.arr 2 (.int .i64))) .unit))) .unit))))
abbrev Aa0:Loc×Con:=(.cell 0 1,.dat (.slice (.prod (.int .i64) (.prod (.int .i64) (.prod (.int .i64) (.prod .bool .unit))))))
abbrev Aa1:Loc×Con:=(.cell 0 6,.dat (.slice (.int .i64)))
abbrev Ia:A1:=[(.tmp 0,.box 7),AN,Aa0,AaG,AaH,Aaq,AZm,Aa1,Aay,Aaz]
abbrev IZ:A1:=[(.obj 0,.box 7),AN,Aa0,AaG,AaH,Aaq,AZm,Aa1]
abbrev KI:List RS:=[]
abbrev O5:A1:=[(.obj 0,.box 7)]
def YJ[Lk]:Hints:={ fp:=Sr [(1,[[],[0],[0],[0],[0],[2],[4],[],[],[],[],[],[],[15]]),(7,[[],[],[],[0],[0],[0],[0],[14],[14],[6],[],[],[],[],[0],[0],[0],[1],[0],[0],[0],[1]]),(9,[[],[],[0],[0],[0],[0],[14],[14],[6],[],[],[],[],[0],[0],[0],[1]]),(12,[[],[],[0],[0],[0],[0],[14],[14],[],[],[],[],[0],[0],[0],[1]])] }
def ar[Lk](v:Be (leaves Ia)):Option (Be (leaves IZ)⊕(List Int×Be (leaves O5))):=Lk.f (Cm 1 Tryz.prog TS YJ Tryz.f144 Ia IZ KI 229 [.i64] O5 v)
theorem aq(v):ar v=Cm 1 Tryz.prog TS YJ Tryz.f144 Ia IZ KI 229 [.i64] O5 v:=A0 _
theorem Wk:Bx Tryz.prog 1 YJ (CE Tryz.f144) 0:=DF _ 0 (by kernel_rfl)
theorem AMg:Hf Tryz.prog 144 (Bb 1 3 Ia IZ KI fun x=>DV (ar x)) (IJ 1 3 Ia IZ KI 229 [.i64] O5 ar):=K8 Jx.1 Jx.2.1 Jx.2.2 Tryz.func144 (Gb (by kernel_rfl)) (Cb Tryz.func144 (by kernel_rfl) (by kernel_rfl)) (AWl rfl) aq Wk
theorem AMf:BW Tryz.prog 144 (Bb 1 3 Ia IZ KI fun x=>DV (ar x)):=K6 Jx Tryz.func144 (by kernel_rfl) (by kernel_rfl) rfl aq Wk
def TR[Lk]:Env:=Env.mg TS 144 false (Bb 1 3 Ia IZ KI fun x=>DV (ar x)) (IJ 1 3 Ia IZ KI 229 [.i64] O5 ar)
theorem Mu:Bn Tryz.prog TR:=Env.YN Jx AMf AMg (by simp)
abbrev Aa2:Loc×Con:=(.tmp 0,.dat (.prod (.prod (.int .i64) (.prod (.slice (.prod (.int .i64) (.prod (.int .i64) (.prod (.int .i64) (.prod .bool .unit))))) .unit)) (.prod (.int .i64) (.prod (.int .i64) .unit))))
abbrev LG:A1:=[Aa2,Aay,Aaz]
abbrev LF:A1:=[Aa2,(.tmp 1,.dat (.prod (.int .i64) (.prod (.int .i64) (.prod (.slice (.int .i64)) .unit))))]
abbrev Nt:List RS:=[.one,.one]
abbrev ao:A1:=[(.tmp 3,.box 4),(.tmp 6,.box 4),(.tmp 7,.box 3),AN,Aa0,AaG,AaH,AQ,(.cell 1 1,.nil (.prod (.int .i64) (.prod (.int .i64) (.prod (.int .i64) (.prod .bool .unit))))),AaS,Aau,AZ5,AZ4,(.cell 2 2,.nil (.int .i64)),AZO,(.cell 3 0,.di),(.cell 3 1,.dat (.slice (.prod (.int .i64) (.prod (.int .i64) .unit)))),(.cell 3 2,.dat (.slice (.prod (.int .i64) (.prod (.int .i64) (.prod (.int .i64) .unit))))),(.tmp 5,.box 5),(.cell 4 0,.di),(.cell 4 1,.di),(.cell 4 2,.di),(.cell 4 3,.di),(.cell 4 4,.dat (.slice (.arr 2 (.int .i64))))]
def O4[Lk]:Hints:={ fp:=Sr [(6,[[],[10],[10],[10],[],[10],[10],[10],[3],[5]])] }
def UR:Hints:={ fp:=Sr [(3,[[0],[20],[20],[],[3],[5]])] }
def D8[Lk](v:Be (leaves LG)):Option (Be (leaves LF)):=Lk.f (Nc Tryz.prog TR Tryz.f68 2 LG LF Nt {} O4 UR ao 3 v)
theorem US(v):D8 v=Nc Tryz.prog TR Tryz.f68 2 LG LF Nt {} O4 UR ao 3 v:=A0 _
theorem lW[DfI]:Bx Tryz.prog 3 O4 (tV 2 (CE Tryz.f68)) 0:=DF _ 0 (by kernel_rfl)
theorem rn:BW Tryz.prog 68 (Bb 0 3 LG LF Nt D8):=rP Mu.1 Mu.2.1 Mu.2.2 Tryz.func68 (Gb (by kernel_rfl)) (Cb Tryz.func68 (by kernel_rfl) (by kernel_rfl)) (AWl rfl) US lW
def uV[Lk]:Env:=TR.ext 68 true true (Bb 0 3 LG LF Nt D8)
theorem uU:Bn Tryz.prog uV:=Env.CU Mu rn (fun _=>MB rfl rfl) (fun _=>Co rfl rfl)
end
end Go.Pev
end
section
namespace Go.Pev
noncomputable section
def OE[Lk]:U9->Option (Ua):=fun(a,_)=>
 match(ile 0 a)with
 |true=>some ((ile a 1099511627776),())
 |false=>some (false,())
def LV[Lk]:=lkk OE
theorem S_ v:LV v=OE v:=A0 _
def T4[Lk]:(Ut×Unit)->Option (Ua):=fun(a,_)=>
 match HT ((a.1.1,(a.1.2.1,())),())with|none=>none|some (b,_)=>match b with
 |true=>match LV (a.2.1,())with|none=>none|some (c,_)=>match c with
  |true=>match LV (a.2.2.1,())with|none=>none|some (d,_)=>some (d,())
  |false=>some (false,())
 |false=>some (false,())
def IT[Lk]:=lkk T4
theorem Zo v:IT v=T4 v:=A0 _
abbrev Y0:A1:=[Aax,AZG]
abbrev Yz:A1:=[(.tmp 0,.own 39 Ux),AI]
abbrev Aa3:Loc×Con:=(.tmp 8,.own 39 Ux)
abbrev ow:A1:=[AZG,Aal,AN,AYt,Aa3,Ah]
abbrev WD:BH:=[(.exit 0,[Aa3])]
def ou[Lk]:(List Int×Int×List U5×List Uj×Int×Unit)->Option ((List Int×Int×List U5×List Uj×Int×Unit)⊕(List Uj×Unit)⊕Unit):=fun(d,h,a,c,b,_)=>
 match(ilt b (A2 a))with
 |true=>match idx a b with|none=>none|some i=>match idx a b with|none=>none|some j=>match VB (j,d,())with|none=>none|some (k,_)=>match nv (i,k,())with|none=>none|some (e,f,g,l,_)=>match(fits ((A2 c)+(A2 ([(e,(f,(g,())))]:List Uj))))with
  |true=>some (.inl (d,h,a,(BV c ([(e,(f,(g,())))]:List Uj)),(w64 (b+1)),()))
  |false=>none
 |false=>some (.inr (.inl (c,())))
def Y1[Lk]:(Ut×List Int×Unit)->Option ((List Uj×Int×Unit)):=fun(a,c,_)=>
 match IT (((a.1.1,(a.1.2.1,())),(a.2.1,(a.2.2.1,()))),())with|none=>none|some (d,_)=>match(!d)with
 |true=>some (([]:List Uj),1,())
 |false=>match bn ((a.1.1,(a.1.2.1,())),0,())with|none=>none|some (b,f,_)=>match A8 ou many (c,b.1,b.2.1,([]:List Uj),0,())with|none=>none|some r=>match r with
 |.inl (e,_)=>some (e,0,())
 |.inr _=>none
def oy[Lk]:=lkk Y1
theorem ox v:oy v=Y1 v:=A0 _
abbrev AEW:A1:=[(.tmp 0,.dat (.slice Ux)),(.tmp 1,.dat (.slice Ux))]
abbrev vz:A1:=[(.tmp 0,.dat (.slice Ux)),(.tmp 1,.dat (.slice Ux)),AG]
def vw[Lk]:(List Uj×List Uj×Int×Unit)->Option ((List Uj×List Uj×Int×Unit)⊕Ua⊕(Unit)⊕Unit):=fun(b,e,a,_)=>
 match(ilt a (A2 b))with
 |true=>match idx b a with|none=>none|some c=>match idx e a with|none=>none|some d=>match v9 ((c.1,(c.2.1,(c.2.2.1,()))),(d.1,(d.2.1,(d.2.2.1,()))),())with|none=>none|some (f,_)=>match(!f)with
  |true=>some (.inr (.inl (false,())))
  |false=>some (.inl (b,e,(w64 (a+1)),()))
 |false=>some (.inr (.inr (.inl ())))
def fw[Lk]:(List Uj×List Uj×Unit)->Option (Ua):=fun(a,b,_)=>
 match(!(ieq (A2 a) (A2 b)))with
 |true=>some (false,())
 |false=>match A8 vw many (a,b,0,())with|none=>none|some r=>match r with
 |.inl (c,_)=>some (c,())
 |.inr r=>match r with
 |.inl _=>some (true,())
 |.inr _=>none
def ABd[Lk]:=lkk fw
theorem v5 v:ABd v=fw v:=A0 _
abbrev Aa4:Loc×Con:=(.tmp 0,.dat (.slice Up))
abbrev gO:A1:=[Aa4]
abbrev wW:A1:=[Aa4,Aad,AG]
def wV[Lk]:(List Ug×List Int×Int×Unit)->Option ((List Ug×List Int×Int×Unit)⊕U9⊕Ue⊕Unit):=fun(a,b,c,_)=>
 match(ilt c (A2 a))with
 |true=>match idx a c with|none=>none|some d=>match b9 ((d.1,(d.2.1,(d.2.2.1,()))),())with|none=>none|some (e,f,_)=>match(!(ieq f 0))with
  |true=>some (.inr (.inl (f,())))
  |false=>match(fits ((A2 b)+(A2 e)))with
  |true=>some (.inl (a,(BV b e),(w64 (c+1)),()))
  |false=>none
 |false=>some (.inr (.inr (.inl (b,()))))
def gP[Lk]:(List Ug×Unit)->Option (Uf):=fun(a,_)=>
 match A8 wV many (a,([]:List (Int)),0,())with|none=>none|some r=>match r with
 |.inl (b,_)=>some (([]:List (Int)),b,())
 |.inr r=>match r with
 |.inl (c,_)=>some (c,0,())
 |.inr _=>none
def ABg[Lk]:=lkk gP
theorem wX v:ABg v=gP v:=A0 _
abbrev ASg:A1:=[Aa4,(.tmp 1,.dat (.slice Up))]
abbrev AOt:A1:=[Aa4,(.tmp 1,.dat (.slice Up)),AG]
def OV[Lk]:(List Ug×List Ug×Int×Unit)->Option ((List Ug×List Ug×Int×Unit)⊕Ua⊕(Unit)⊕Unit):=fun(b,e,a,_)=>
 match(ilt a (A2 b))with
 |true=>match idx b a with|none=>none|some c=>match idx e a with|none=>none|some d=>match QA ((c.1,(c.2.1,(c.2.2.1,()))),(d.1,(d.2.1,(d.2.2.1,()))),())with|none=>none|some (f,_)=>match(!f)with
  |true=>some (.inr (.inl (false,())))
  |false=>some (.inl (b,e,(w64 (a+1)),()))
 |false=>some (.inr (.inr (.inl ())))
def n8[Lk]:(List Ug×List Ug×Unit)->Option (Ua):=fun(a,b,_)=>
 match(!(ieq (A2 a) (A2 b)))with
 |true=>some (false,())
 |false=>match A8 OV many (a,b,0,())with|none=>none|some r=>match r with
 |.inl (c,_)=>some (c,())
 |.inr r=>match r with
 |.inl _=>some (true,())
 |.inr _=>none
def dD[Lk]:=lkk n8
theorem uK v:dD v=n8 v:=A0 _
abbrev AMv:A1:=[Aax,AI]
def r8[Lk]:U9->Option ((Ut×Int×Unit)):=fun(a,_)=>
 match(ilt a 1)with
 |true=>some (((0,(([]:List U2),())),(0,(0,()))),1,())
 |false=>match(ilt 64 a)with
 |true=>some (((0,(([]:List U2),())),(0,(0,()))),1,())
 |false=>some (((a,(([]:List U2),())),(0,(0,()))),0,())
def bT[Lk]:=lkk r8
theorem AG8 v:bT v=r8 v:=A0 _
abbrev AT6:A1:=[Aax,(.tmp 1,.dat (.slice (.int .u8))),(.tmp 2,.dat Vh)]
abbrev AT5:A1:=[Aax,(.tmp 1,.own 58 Up),AJ]
abbrev ARH:A1:=[(.tmp 3,.box 4),AN,AY4,AaG,AaH,(.tmp 5,.box 5),AQ,AZ0,AaS,Aau,(.cell 1 4,.dat (.slice (.arr 2 U0))),(.tmp 6,.box 4),AZ5,(.cell 2 1,.nil U1),(.cell 2 2,.di),(.cell 2 3,.di),Ae,(.tmp 12,.own 58 Up),(.tmp 27,.dat (.slice Us)),Aaf,Aai]
abbrev ARG:BH:=[(.exit 0,[(.tmp 3,.box 4),AN,AY4,AaG,AaH,(.tmp 6,.box 4),AQ,Aav,AaS,Aau,Ae,(.tmp 12,.own 58 Up)])]
def SV[Lk]:(Int×List U2×Int×Int×Int×Int×Int×Int×List U5×Int×Int×Int×Int×List Ug×List Uo×Int×Int×Unit)->Option ((Int×List U2×Int×Int×Int×Int×Int×Int×List U5×Int×Int×Int×Int×List Ug×List Uo×Int×Int×Unit)⊕(Int×List U2×Int×Int×Int×Int×Int×Int×List Ug×Unit)⊕Unit):=fun(f,g,h,i,j,k,l,m,n,o,p,q,r,c,s,t,d,_)=>
 match(ilt d t)with
 |true=>match idx s d with|none=>none|some e=>match D8 (((f,(g,())),(h,(i,()))),(e.1,(e.2.1,(e.2.2.1,()))),(j,(k,((l,(m,(n,()))),()))),())with|none=>none|some (b,a,_)=>match(fits ((A2 c)+(A2 ([(a.1,(a.2.1,(a.2.2.1,())))]:List Ug))))with
  |true=>some (.inl (b.1.1,b.1.2.1,b.2.1,b.2.2.1,j,k,l,m,n,o,p,q,r,(BV c ([(a.1,(a.2.1,(a.2.2.1,())))]:List Ug)),s,t,(w64 (d+1)),()))
  |false=>none
 |false=>some (.inr (.inl (f,g,h,i,o,p,q,r,c,())))
def ld[Lk]:(Ut×List Int×(Int×Int×Ur×Unit)×Unit)->Option ((Ut×List Ug×Int×Unit)):=fun(a,j,b,_)=>
 match FA (((a.1.1,(a.1.2.1,())),(a.2.1,(a.2.2.1,()))),())with|none=>none|some (k,_)=>match(!k)with
 |true=>some (((a.1.1,(a.1.2.1,())),(a.2.1,(a.2.2.1,()))),([]:List Ug),1,())
 |false=>match J7 (j,())with|none=>none|some (e,m,l,_)=>match A8 SV many (a.1.1,a.1.2.1,a.2.1,a.2.2.1,b.1,b.2.1,b.2.2.1.1,b.2.2.1.2.1,b.2.2.1.2.2.1,0,0,0,l,([]:List Ug),e,(A2 e),0,())with|none=>none|some r=>match r with
 |.inl (f,g,h,i,n,o,p,c,d,_)=>match(!(ieq c 0))with
  |true=>match(fits ((A2 d)+(A2 ([(c,(0,(([]:List (Int)),())))]:List Ug))))with
   |true=>some (((f,(g,())),(h,(i,()))),(BV d ([(c,(0,(([]:List (Int)),())))]:List Ug)),c,())
   |false=>none
  |false=>some (((f,(g,())),(h,(i,()))),d,c,())
 |.inr _=>none
def lf[Lk]:=lkk ld
theorem lZ v:lf v=ld v:=A0 _
abbrev AGx:A1:=[Aad,(.tmp 9,.dat (.slice Up)),Ad,Ae]
def AGw[Lk]:(List Int×List Ug×Int×Int×Unit)->Option ((List Int×List Ug×Int×Int×Unit)⊕U9⊕Ue⊕Unit):=fun(a,d,e,b,_)=>
 match(ilt b e)with
 |true=>match idx d b with|none=>none|some c=>match kF ((c.1,(c.2.1,(c.2.2.1,()))),())with|none=>none|some (f,g,_)=>match(!(ieq g 0))with
  |true=>some (.inr (.inl (g,())))
  |false=>match(fits ((A2 a)+(A2 f)))with
  |true=>some (.inl ((BV a f),d,e,(w64 (b+1)),()))
  |false=>none
 |false=>some (.inr (.inr (.inl (a,()))))
def ru[Lk]:(List Ug×Unit)->Option (Uf):=fun(a,_)=>
 match A8 AGw many (([]:List (Int)),a,(A2 a),0,())with|none=>none|some r=>match r with
 |.inl (b,_)=>some (([]:List (Int)),b,())
 |.inr r=>match r with
 |.inl (c,_)=>some (c,0,())
 |.inr _=>none
def av[Lk]:=lkk ru
theorem AGy v:av v=ru v:=A0 _
abbrev zC:A1:=[AZG,Aa3,(.tmp 23,.dat Ud),AZb,AZW]
def zB[Lk]:(List Int×List Uj×List U5×Int×Int×Unit)->Option ((List Int×List Uj×List U5×Int×Int×Unit)⊕(List Uj×Unit)⊕Unit):=fun(c,a,d,e,b,_)=>
 match(ilt b e)with
 |true=>match idx d b with|none=>none|some f=>match Te (f,c,())with|none=>none|some (j,_)=>match jq (f,j,())with|none=>none|some (g,h,i,k,_)=>match(fits ((A2 a)+(A2 ([(g,(h,(i,())))]:List Uj))))with
  |true=>some (.inl (c,(BV a ([(g,(h,(i,())))]:List Uj)),d,e,(w64 (b+1)),()))
  |false=>none
 |false=>some (.inr (.inl (a,())))
def hY[Lk]:(Ut×List Int×Unit)->Option ((List Uj×Int×Unit)):=fun(a,c,_)=>
 match FA (((a.1.1,(a.1.2.1,())),(a.2.1,(a.2.2.1,()))),())with|none=>none|some (d,_)=>match(!d)with
 |true=>some (([]:List Uj),1,())
 |false=>match MG ((a.1.1,(a.1.2.1,())),0,())with|none=>none|some (b,f,_)=>match A8 zB many (c,([]:List Uj),b.2.1,(A2 b.2.1),0,())with|none=>none|some r=>match r with
 |.inl (e,_)=>some (e,0,())
 |.inr _=>none
def SS[Lk]:=lkk hY
theorem zD v:SS v=hY v:=A0 _
abbrev ACW:A1:=[Aax,(.tmp 1,.dat (.prod Uk U3))]
def ACX[Lk]:(Ut×Ut×Unit)->Option (Ua):=fun(a,b,_)=>
 match AMP ((a.1.1,(a.1.2.1,())),(b.1.1,(b.1.2.1,())),())with|none=>none|some (c,_)=>match c with
 |true=>match(ieq a.2.1 b.2.1)with
  |true=>some ((ieq a.2.2.1 b.2.2.1),())
  |false=>some (false,())
 |false=>some (false,())
def rp[Lk]:=lkk ACX
theorem AMh v:rp v=ACX v:=A0 _
abbrev ABF:A1:=[]
abbrev APD:A1:=[AB,AI,AJ,AX,(.tmp 4,.own 161 (.arr 2 U0))]
abbrev APC:List RS:=[.agg 5]
def ABG[Lk]:(Unit)->Option ((Int×Int×Int×Int×List U5×Unit)):=fun _=>
 some (8,2,1,2,([([0,0]:List (Int)),([1,0]:List (Int))]:List U5),())
def oZ[Lk]:=lkk ABG
theorem oY v:oZ v=ABG v:=A0 _
abbrev AHF:A1:=[Aax,(.tmp 1,.dat Vh)]
def VC[Lk]:(Ut×(Int×Int×Ur×Unit)×Unit)->Option (Ua):=fun(a,b,_)=>
 match(ilt 30 (A2 a.1.2.1))with
 |true=>some (true,())
 |false=>match(ilt 12 a.1.1)with
 |true=>some (true,())
 |false=>some ((ilt 60 (A2 b.2.2.1.2.2.1)),())
def Sn[Lk]:=lkk VC
theorem ba v:Sn v=VC v:=A0 _
def Vs[Lk]:(Unit)->Option (Ua):=fun _=>
 match bT (4,())with|none=>none|some (b,f,_)=>match oZ ()with|none=>none|some (g,h,i,j,k,_)=>match lf (((b.1.1,(b.1.2.1,())),(b.2.1,(b.2.2.1,()))),([1,0,2,0,3,0,1,0,0,0,1,3,0,2,3,0,3,0,0,4,0,0,0,0,2,0,1,0,0,0,1,3,0,1,2,0,3,0,0,9]:List (Int)),(g,(h,((i,(j,(k,()))),()))),())with|none=>none|some (a,e,l,_)=>match SS (((a.1.1,(a.1.2.1,())),(a.2.1,(a.2.2.1,()))),([1,2]:List (Int)),())with|none=>none|some (m,n,_)=>match av (e,())with|none=>none|some (o,p,_)=>match oZ ()with|none=>none|some (q,r,s,t,u,_)=>match D8 (((a.1.1,(a.1.2.1,())),(a.2.1,(a.2.2.1,()))),(2,(([(4,(0,()))]:List U4),(([]:List U8),()))),(q,(r,((s,(t,(u,()))),()))),())with|none=>none|some (c,d,_)=>match(ieq f 0)with
 |true=>match(ieq l 8)with
  |true=>match(ieq n 0)with
   |true=>match(ieq p 0)with
    |true=>match dD (e,([(0,(2,(([]:List (Int)),()))),(0,(0,(([3,2]:List (Int)),()))),(0,(1,(([]:List (Int)),()))),(0,(0,(([1]:List (Int)),()))),(8,(0,(([]:List (Int)),())))]:List Ug),())with|none=>none|some (v,_)=>match v with
     |true=>match(ieq (A2 m) 3)with
      |true=>match(ieq (A2 o) 31)with
       |true=>match(ieq a.2.1 4)with
        |true=>match(ilt 0 a.2.2.1)with
         |true=>match FA (((a.1.1,(a.1.2.1,())),(a.2.1,(a.2.2.1,()))),())with|none=>none|some (w,_)=>match w with
          |true=>match rp (((a.1.1,(a.1.2.1,())),(a.2.1,(a.2.2.1,()))),((c.1.1,(c.1.2.1,())),(c.2.1,(c.2.2.1,()))),())with|none=>none|some (x,_)=>match x with
           |true=>match QA ((d.1,(d.2.1,(d.2.2.1,()))),(10,(0,(([]:List (Int)),()))),())with|none=>none|some (y,_)=>match y with
            |true=>match QB ((a.1.1,(a.1.2.1,())),(4,(([(1,(3,(0,(true,()))))]:List U2),())),())with|none=>none|some (z,_)=>some (z,())
            |false=>some (false,())
           |false=>some (false,())
          |false=>some (false,())
         |false=>some (false,())
        |false=>some (false,())
       |false=>some (false,())
      |false=>some (false,())
     |false=>some (false,())
    |false=>some (false,())
   |false=>some (false,())
  |false=>some (false,())
 |false=>some (false,())
def TO[Lk]:=lkk Vs
theorem dE v:TO v=Vs v:=A0 _
def QW[Lk]:Uf->Option ((Int×Bool×Unit)):=fun(b,a,_)=>
 match(ilt a 0)with
 |true=>some (0,false,())
 |false=>match(ile (w64 ((A2 b)-1)) a)with
 |true=>some (0,false,())
 |false=>match idx b a with|none=>none|some c=>match idx b (w64 (a+1))with|none=>none|some d=>some ((w64 ((w64 ((w64 c)*256))+(w64 d))),true,())
def Eg[Lk]:=lkk QW
theorem Wh v:Eg v=QW v:=A0 _
abbrev cP:A1:=[AaT]
abbrev AAD:A1:=[AB,(.tmp 1,.own 88 U3),(.tmp 2,.own 46 Vm),AX,AW]
abbrev Aa5:Loc×Con:=(.cell 0 1,.nil U3)
abbrev Aa6:Loc×Con:=(.cell 0 2,.nil Vm)
abbrev tH:A1:=[AaT,AZi,AN,Aa5,Aa6,Ak,AQ,(.cell 1 1,.own 88 U3),(.cell 1 2,.own 46 Vm),AY3,AT,Ah]
abbrev tG:BH:=[(.ret,[AZi,AN,Aa5,Aa6,AX,AW]),(.exit 0,[AZi,AN,Aa5,Aa6,Ak,AQ,(.cell 1 1,.own 88 U3),(.cell 1 2,.own 46 Vm),AT])]
def Eo[Lk]:(List Int×Int×Int×List U4×List U8×Int×Int×Int×Unit)->Option ((List Int×Int×Int×List U4×List U8×Int×Int×Int×Unit)⊕U8⊕(Int×Int×List U4×List U8×Int×Unit)⊕Unit):=fun(a,f,c,d,e,g,b,h,_)=>
 match(ilt h g)with
 |true=>match(ieq c 3)with
  |true=>match(ieq b (A2 a))with
   |true=>some (.inr (.inl (0,(A2 a),7,())))
   |false=>match idx a b with|none=>none|some i=>match(ilt (w64 i) 1)with
   |true=>some (.inr (.inl (0,b,8,())))
   |false=>match(ilt 4 (w64 i))with
   |true=>some (.inr (.inl (0,b,8,())))
   |false=>match Eg (a,(w64 (b+1)),())with|none=>none|some (j,p,_)=>match Eg (a,(w64 ((w64 (b+1))+2)),())with|none=>none|some (k,n,_)=>match(!n)with
   |true=>some (.inr (.inl (0,(A2 a),7,())))
   |false=>match(ieq c 3)with
   |true=>match(fits ((A2 e)+(A2 ([((w64 i),(j,(k,())))]:List U8))))with
    |true=>some (.inl (a,f,c,d,(BV e ([((w64 i),(j,(k,())))]:List U8)),g,(w64 ((w64 (b+1))+4)),(w64 (h+1)),()))
    |false=>none
   |false=>match(fits ((A2 d)+(A2 ([(j,(k,()))]:List U4))))with
   |true=>some (.inl (a,f,c,(BV d ([(j,(k,()))]:List U4)),e,g,(w64 ((w64 (b+1))+4)),(w64 (h+1)),()))
   |false=>none
  |false=>match Eg (a,b,())with|none=>none|some (l,q,_)=>match Eg (a,(w64 (b+2)),())with|none=>none|some (m,o,_)=>match(!o)with
  |true=>some (.inr (.inl (0,(A2 a),7,())))
  |false=>match(ieq c 3)with
  |true=>match(fits ((A2 e)+(A2 ([(0,(l,(m,())))]:List U8))))with
   |true=>some (.inl (a,f,c,d,(BV e ([(0,(l,(m,())))]:List U8)),g,(w64 (b+4)),(w64 (h+1)),()))
   |false=>none
  |false=>match(fits ((A2 d)+(A2 ([(l,(m,()))]:List U4))))with
  |true=>some (.inl (a,f,c,(BV d ([(l,(m,()))]:List U4)),e,g,(w64 (b+4)),(w64 (h+1)),()))
  |false=>none
 |false=>some (.inr (.inr (.inl (f,c,d,e,b,()))))
def Q2[Lk]:Ue->Option ((Int×List U4×List U8×Int×Int×Unit)):=fun(a,_)=>
 match(ieq (A2 a) 0)with
 |true=>some (0,([]:List U4),([]:List U8),0,7,())
 |false=>match idx a 0 with|none=>none|some b=>match(ilt (w64 b) 1)with
 |true=>some (0,([]:List U4),([]:List U8),0,8,())
 |false=>match(ilt 3 (w64 b))with
 |true=>some (0,([]:List U4),([]:List U8),0,8,())
 |false=>match Eg (a,1,())with|none=>none|some (c,d,_)=>match(!d)with
 |true=>some (0,([]:List U4),([]:List U8),(A2 a),7,())
 |false=>match(ilt 60 c)with
 |true=>some (0,([]:List U4),([]:List U8),1,9,())
 |false=>match A8 Eo many (a,0,(w64 b),([]:List U4),([]:List U8),c,3,0,())with|none=>none|some r=>match r with
 |.inl (e,f,g,_)=>some (e,([]:List U4),([]:List U8),f,g,())
 |.inr r=>match r with
 |.inl (l,h,i,j,k,_)=>some (h,i,j,k,0,())
 |.inr _=>none
def S8[Lk]:=lkk Q2
theorem W3 v:S8 v=Q2 v:=A0 _
abbrev vQ:A1:=[(.tmp 0,.own 91 Us),AI,AJ]
abbrev pL:A1:=[AaT,(.tmp 5,.own 91 Us),AY3]
abbrev pK:BH:=[(.ret,[(.tmp 2,.own 91 Us),AX,AW]),(.exit 0,[(.tmp 5,.own 91 Us),AY3])]
def Ea[Lk]:(List Int×List Uo×Int×Unit)->Option ((List Int×List Uo×Int×Unit)⊕(List Uo×Int×Int×Unit)⊕(List Uo×Int×Unit)⊕Unit):=fun(b,c,a,_)=>
 match(ilt a (A2 b))with
 |true=>match Ci b a (A2 b)with|none=>none|some i=>match S8 (i,())with|none=>none|some (d,e,f,g,h,_)=>match(!(ieq h 0))with
  |true=>some (.inr (.inl (c,(w64 (a+g)),h,())))
  |false=>match(fits ((A2 c)+(A2 ([(d,(e,(f,())))]:List Uo))))with
  |true=>some (.inl (b,(BV c ([(d,(e,(f,())))]:List Uo)),(w64 (a+g)),()))
  |false=>none
 |false=>some (.inr (.inr (.inl (c,a,()))))
def P5[Lk]:Ue->Option ((List Uo×Int×Int×Unit)):=fun(a,_)=>
 match A8 Ea many (a,([]:List Uo),0,())with|none=>none|some r=>match r with
 |.inl (b,c,d,_)=>some (b,c,d,())
 |.inr r=>match r with
 |.inl (e,f,_)=>some (e,f,0,())
 |.inr _=>none
def Rh[Lk]:=lkk P5
theorem WK v:Rh v=P5 v:=A0 _
def ZW[Lk]:(Ut×Ut×Unit)->Option (Ua):=fun(a,b,_)=>
 match QB ((a.1.1,(a.1.2.1,())),(b.1.1,(b.1.2.1,())),())with|none=>none|some (c,_)=>match c with
 |true=>match(ieq a.2.1 b.2.1)with
  |true=>some ((ieq a.2.2.1 b.2.2.1),())
  |false=>some (false,())
 |false=>some (false,())
def kM[Lk]:=lkk ZW
theorem fx v:kM v=ZW v:=A0 _
abbrev MM:A1:=[Aax,(.tmp 1,.dat (.prod (.slice (.int .u8)) (.prod (.slice (.int .u8)) .unit))),(.tmp 2,.dat Vh)]
def MN[Lk]:(Ut×(U5×U5×Unit)×(Int×Int×Ur×Unit)×Unit)->Option (Ua):=fun(a,c,b,_)=>
 match TO ()with|none=>none|some (k,_)=>match(!k)with
 |true=>some (false,())
 |false=>match Sn (((a.1.1,(a.1.2.1,())),(a.2.1,(a.2.2.1,()))),(b.1,(b.2.1,((b.2.2.1.1,(b.2.2.1.2.1,(b.2.2.1.2.2.1,()))),()))),())with|none=>none|some (l,_)=>match l with
 |true=>some (true,())
 |false=>match(ilt 120 (A2 c.1))with
 |true=>some (true,())
 |false=>match(ilt 120 (A2 c.2.1))with
 |true=>some (true,())
 |false=>match Rh (c.1,())with|none=>none|some (v,w,m,_)=>match(!(ieq m 0))with
 |true=>some (true,())
 |false=>match(fits ((A2 ([]:List (Int)))+(A2 c.1)))with
 |true=>match(fits ((A2 (BV ([]:List (Int)) c.1))+(A2 c.2.1)))with
  |true=>match lf (((a.1.1,(a.1.2.1,())),(a.2.1,(a.2.2.1,()))),(BV (BV ([]:List (Int)) c.1) c.2.1),(b.1,(b.2.1,((b.2.2.1.1,(b.2.2.1.2.1,(b.2.2.1.2.2.1,()))),()))),())with|none=>none|some (f,h,i,_)=>match lf (((a.1.1,(a.1.2.1,())),(a.2.1,(a.2.2.1,()))),c.1,(b.1,(b.2.1,((b.2.2.1.1,(b.2.2.1.2.1,(b.2.2.1.2.2.1,()))),()))),())with|none=>none|some (d,e,n,_)=>match IT (((a.1.1,(a.1.2.1,())),(a.2.1,(a.2.2.1,()))),())with|none=>none|some (o,_)=>match(!o)with
   |true=>match IT (((a.1.1,(a.1.2.1,())),(a.2.1,(a.2.2.1,()))),())with|none=>none|some (p,_)=>match p with
    |true=>some (true,())
    |false=>match(ieq i 1)with
    |true=>some ((ieq (w64 ((A2 h)+(A2 e))) 0),())
    |false=>some (false,())
   |false=>match IT (((d.1.1,(d.1.2.1,())),(d.2.1,(d.2.2.1,()))),())with|none=>none|some (q,_)=>match(!q)with
   |true=>match IT (((a.1.1,(a.1.2.1,())),(a.2.1,(a.2.2.1,()))),())with|none=>none|some (r,_)=>match r with
    |true=>some (true,())
    |false=>match(ieq i 1)with
    |true=>some ((ieq (w64 ((A2 h)+(A2 e))) 0),())
    |false=>some (false,())
   |false=>match lf (((d.1.1,(d.1.2.1,())),(d.2.1,(d.2.2.1,()))),c.2.1,(b.1,(b.2.1,((b.2.2.1.1,(b.2.2.1.2.1,(b.2.2.1.2.2.1,()))),()))),())with|none=>none|some (g,j,s,_)=>match(ieq n 0)with
   |true=>match(ieq i s)with
    |true=>match kM (((f.1.1,(f.1.2.1,())),(f.2.1,(f.2.2.1,()))),((g.1.1,(g.1.2.1,())),(g.2.1,(g.2.2.1,()))),())with|none=>none|some (t,_)=>match t with
     |true=>match(fits ((A2 ([]:List Ug))+(A2 e)))with
      |true=>match(fits ((A2 (BV ([]:List Ug) e))+(A2 j)))with
       |true=>match dD (h,(BV (BV ([]:List Ug) e) j),())with|none=>none|some (u,_)=>some (u,())
       |false=>none
      |false=>none
     |false=>some (false,())
    |false=>some (false,())
   |false=>some (false,())
  |false=>none
 |false=>none
def Ej[Lk]:=lkk MN
theorem Pa v:Ej v=MN v:=A0 _
end
end Go.Pev
end
section

end
section
namespace Go.Pev.Pl
theorem V_{n:Int}(h:-9223372036854775808<=n/\n<=9223372036854775807):IntKind.wrap .i64 n=n:=IntWalk.i64_in n h
theorem BE{n:Int}(h:-9223372036854775808<=n/\n<=9223372036854775807):w64 n=n:=IntWalk.i64_in n h
theorem AGt{σ ρ:Type}{step:σ->Option (σ⊕ρ)}(I:σ->Prop)(Q:ρ->Prop)(m:σ->Nat)
  (h:∀ v,I v->(∃ a,step v=some (.inl a)/\I a/\m a<m v)\/(∃ r,step v=some (.inr r)/\Q r)) :
  ∀ n v,I v->m v<n->∃ r,BC step n v=some r/\Q r:=by
 intro n;induction n with
  |zero=>omega
  |succ n c=>
   intro v b d;rcases h v b with⟨a,e,hi,f⟩|⟨r,e,g⟩
   rw[BC,e];grind;rw[BC,e];grind
theorem zE{σ ρ:Type}{step:σ->Option (σ⊕ρ)}(I:σ->Prop)(Q:ρ->Prop)(m:σ->Nat)
  (h:∀ v,I v->(∃ a,step v=some (.inl a)/\I a/\m a<m v)\/(∃ r,step v=some (.inr r)/\Q r))
  (v:σ) (hi:I v) (hm:m v<many):∃ r,A8 step many v=some r/\Q r:=by rw[BR];exact AGt I Q m h many v hi hm
section
variable {α:Type} [Inhabited α]
theorem Bq{d:Array α}{n:Nat}(h:n<d.size):idx d.toList (n:Int)=some d[n]! := by rw[idx_eq,bL,AV9 (by omega)];simp[h]
theorem CN{d:Array α}{n:Nat}{z:α}(h:n<d.size):A9 d.toList (A4 (n:Int)) z=d[n]! := by simp[A9,A4,h]
theorem KU{d:Array α}{n:Nat}{x:α}:Bc d.toList (A4 (n:Int)) x=(d.setIfInBounds n x).toList:=by simp[Bc,A4]
theorem ACq{d:Array α}:A2 d.toList=(d.size:Int):=by simp[A2]
theorem Kw(d:Array α)(i j:Nat):(d.setIfInBounds i d[j]!).setIfInBounds j d[i]! = Go.Sort.swp d i j:=rfl
theorem size_swp(d:Array α)(i j:Nat):(Go.Sort.swp d i j).size=d.size:=by simp[Go.Sort.swp]
end
theorem A3(a b:Nat):ilt (a:Int) (b:Int)=decide (a<b):=by rw[BD];simp
theorem D_(a b:Nat):ile (a:Int) (b:Int)=decide (a<=b):=by rw[BM];simp
theorem O8(a b:Nat):ieq (a:Int) (b:Int)=decide (a=b):=by rw[Cj];grind
section
theorem wrap_add{a b:Nat}(h:a+b<9223372036854775808):w64 ((a:Int)+(b:Int))=((a+b:Nat):Int):=by rw[BE (by omega)];omega
theorem A5{a:Nat}(h:a+1<9223372036854775808):w64 ((a:Int)+1)=((a+1:Nat):Int):=by rw[BE (by omega)];omega
theorem ADO{a:Nat}(h:2*a<9223372036854775808):w64 ((2:Int)*(a:Int))=((2*a:Nat):Int):=by rw[BE (by omega)];omega
theorem ADN{a:Nat}(h:a<9223372036854775808):w64 ((a:Int)*1)=((a*1:Nat):Int):=by rw[BE (by omega)];omega
theorem Of{a:Nat}(h:a*2<9223372036854775808):w64 ((a:Int)*2)=((a*2:Nat):Int):=by rw[BE (by omega)];omega
theorem ADM{a:Nat}(h:a*3<9223372036854775808):w64 ((a:Int)*3)=((a*3:Nat):Int):=by rw[BE (by omega)];omega
theorem EY{a b:Nat}(h:b<=a/\a<9223372036854775808):w64 ((a:Int)-(b:Int))=((a-b:Nat):Int):=by rw[BE (by omega)];omega
theorem Bz{a:Nat}(h:1<=a/\a<9223372036854775808):w64 ((a:Int)-1)=((a-1:Nat):Int):=by rw[BE (by omega)];omega
theorem ASq{a:Nat}(h:a<9223372036854775808):quo? .i64 (a:Int) 2=some ((a/2:Nat):Int):=by rw[QK,kY,AV9 (by omega),AX3 (by omega),V_ (by omega)];rfl
theorem ABh{a:Nat}(h:a<9223372036854775808):quo? .i64 (a:Int) 4=some ((a/4:Nat):Int):=by rw[QK,kY,AV9 (by omega),AX3 (by omega),V_ (by omega)];rfl
theorem AVA{a:Nat}(h:a<9223372036854775808):quo? .i64 (a:Int) 8=some ((a/8:Nat):Int):=by rw[QK,kY,AV9 (by omega),AX3 (by omega),V_ (by omega)];rfl
end
section
variable {α:Type}
theorem C3{xs:List α}{n:Nat}(z:α)(h:n<xs.length):idx xs (n:Int)=some (xs.getD n z):=by rw[idx_eq,bL,AV9 (by omega)];simp[h]
theorem AUH{xs:List α}{n:Nat}(h:n<xs.length):∃ x,idx xs (n:Int)=some x:=by rw[idx_eq,bL,AV9 (by omega)];simp_all
theorem l6(xs:List α)(n:Nat):idx xs (n:Int)=xs[n]? := by rw[idx_eq,bL,AV9 (by omega)];simp
theorem Ht(xs:List α):idx xs (0:Int)=xs.head? := by rw[idx_eq,bL,AV9 (by omega)];cases xs<;>rfl
theorem IE(xs:List α)(n:Nat)(z:α):A9 xs (A4 (n:Int)) z=xs.getD n z:=by simp[A9,A4]
theorem DO(xs:List α)(n:Nat)(x:α):Bc xs (A4 (n:Int)) x=xs.set n x:=by simp[Bc,A4]
theorem A6(xs:List α):A2 xs=(xs.length:Int):=rfl
theorem OD(n:Nat):A4 (n:Int)=n:=by simp[A4]
theorem Dy(xs ys:List α):BV xs ys=xs++ys:=rfl
theorem Tl{xs:List α}{l h:Nat}(a:l<=h)(b:h<=xs.length):Ci xs (l:Int) (h:Int)=some ((xs.take h).drop l):=by rw[On,fY,AWB (by omega)];simp
end
theorem Bo{n:Int}(h:n<=4294967296):fits n=true:=(GS n).2 h
theorem HK{α:Type}{xs:List α}(h:xs.length<=4294967296):IH xs=some xs:=by rw[iq,nK,(VF _).2 (by rw[A6];omega)]
theorem bK{α β:Type}(xs:List α)(ys:List β):ieq (A2 xs) (A2 ys)=decide (xs.length=ys.length):=by rw[A6,A6,O8]
theorem BB(a b:Int):ieq a b=decide (a=b):=by rw[Cj];grind
def walk{α β ρ:Type}(f:β->α->α⊕ρ)(fin:α->ρ):List β->α->ρ
 |[],a=>fin a
 |x::xs,a=>match f x a with
  |.inl a=>walk f fin xs a
  |.inr r=>r
theorem ADY{σ ρ α β:Type}{step:σ->Option (σ⊕ρ)}(st:Nat->α->σ)(xs:List β)(f:β->α->α⊕ρ)(fin:α->ρ)(I:Nat->α->Prop)
  (h:∀ i x a,i<xs.length->xs[i]? = some x->I i a->(∀ c,f x a = .inl c->step (st i a)=some (.inl (st (i+1) c))/\I (i+1) c)/\(∀ r,f x a = .inr r->step (st i a)=some (.inr r)))
  (g:∀ a,I xs.length a->step (st xs.length a)=some (.inr (fin a))) :
  ∀ (m i n:Nat) (a:α),xs.length-i=m->i<=xs.length->m<n->I i a->BC step n (st i a)=some (walk f fin (xs.drop i) a):=by
 intro m;induction m with
  |zero=>
   intro i n a j hi l d;obtain⟨n,rfl⟩:∃ k,n=k+1:=⟨n-1,by omega⟩
   have e:i=xs.length:=by omega
   subst e;rw[BC,g a d,List.drop_length];rfl
  |succ m o=>
   intro i n a j hi l d;obtain⟨n,rfl⟩:∃ k,n=k+1:=⟨n-1,by omega⟩
   have b:i<xs.length:=by omega
   obtain⟨p,q⟩:=h i xs[i] a b (by simp) d;rw[AWv b,walk,BC];grind
theorem DS{σ ρ α β:Type}{step:σ->Option (σ⊕ρ)}(st:Nat->α->σ)(xs:List β)(f:β->α->α⊕ρ)(fin:α->ρ)(I:Nat->α->Prop)(e:xs.length<9223372036854775808)
  (h:∀ i x a,i<xs.length->xs[i]? = some x->I i a->(∀ b,f x a = .inl b->step (st i a)=some (.inl (st (i+1) b))/\I (i+1) b)/\(∀ r,f x a = .inr r->step (st i a)=some (.inr r)))
  (c:∀ a,I xs.length a->step (st xs.length a)=some (.inr (fin a))) (a:α) (d:I 0 a):A8 step many (st 0 a)=some (walk f fin xs a):=by
 have g:9223372036854775808<many:=by simp only[many];omega
 rw[BR,ADY st xs f fin I h c xs.length 0 many a (by omega) (by omega) (by omega) d];rfl
theorem Me{α:Type}{xs ys:List α}(z:α)(a:xs.length=ys.length)(h:∀ j,j<xs.length->xs.getD j z=ys.getD j z):xs=ys:=by apply AYS a;grind
theorem rM{α:Type}{xs ys:List α}(z:α){j:Nat}(h:xs.getD j z≠ys.getD j z):xs≠ys:=fun e=>h (by rw[e])
theorem AET{σ ρ:Type}{step:σ->Option (σ⊕ρ)}(st:Nat->σ)(N:Nat)(P:Nat->Bool)(c:Nat->ρ)(d:ρ)
  (h:∀ i,i<N->step (st i)=if P i then some (.inr (c i))else some (.inl (st (i+1)))) (l:step (st N)=some (.inr d)) :
  ∀ (m i n:Nat),N-i=m->i<=N->m<n->(∃ k,i<=k/\k<N/\P k=true/\(∀ j,i<=j->j<k->P j=false)/\BC step n (st i)=some (c k))\/((∀ j,i<=j->j<N->P j=false)/\BC step n (st i)=some d):=by
 intro m;induction m with
  |zero=>
   intro i n o hi p;obtain⟨n,rfl⟩:∃ k,n=k+1:=⟨n-1,by omega⟩
   have e:i=N:=by omega
   subst e;exact .inr ⟨fun j f g=>by omega,by rw[BC,l]⟩
  |succ m q=>
   intro i n o hi p;obtain⟨n,rfl⟩:∃ k,n=k+1:=⟨n-1,by omega⟩
   have a:i<N:=by omega
   cases b:P i
   ·have e:BC step (n+1) (st i)=BC step n (st (i+1)):=by rw[BC,h i a,b];rfl
    rw[e];rcases q (i+1) n (by omega) (by omega) (by omega)with⟨k,f,g,r,s,t⟩|⟨f,g⟩
    all_goals grind
   exact .inl ⟨i,AV8 _,a,b,fun j u v=>by omega,by rw[BC,h i a,b];rfl⟩
theorem pe{σ ρ:Type}{step:σ->Option (σ⊕ρ)}(st:Nat->σ)(N:Nat)(P:Nat->Bool)(a:Nat->ρ)(b:ρ)(f:N<9223372036854775808)
  (h:∀ i,i<N->step (st i)=if P i then some (.inr (a i))else some (.inl (st (i+1)))) (c:step (st N)=some (.inr b)) :
  (∃ k,k<N/\P k=true/\(∀ j,j<k->P j=false)/\A8 step many (st 0)=some (a k))\/((∀ j,j<N->P j=false)/\A8 step many (st 0)=some b):=by
 have g:9223372036854775808<many:=by simp only[many];omega
 rw[BR];rcases AET st N P a b h c N 0 many rfl (by omega) (by omega)with⟨k,d,e,l,m,n⟩|⟨d,e⟩
 all_goals grind
inductive Tok where
 |ver (v:Int)
 |arc (u v:Int)
 deriving DecidableEq
namespace Tok
def st:Tok->Int
 |.ver v=>v
 |.arc _ v=>v
def step(s:List Int×List Int):Tok->Option (List Int×List Int)
 |.ver v=>match s.1 with
  |w::_=>if w=v then some s else none
  |[]=>none
 |.arc u v=>match s.1 with
  |w::r=>if w=u then match r with
    |p::r'=>if p=v then some (p::r',s.2)else if v∈s.2 then none else some (v::w::r,v::s.2)
    |[]=>if v∈s.2 then none else some (v::w::r,v::s.2)
   else none
  |[]=>none
def run:List Int×List Int->List Tok->Option (List Int×List Int)
 |s,[]=>some s
 |s,t::l=>match step s t with
  |some s=>run s l
  |none=>none
theorem JG(s:List Int×List Int)(a b:List Tok):run s (a++b)=(run s a).bind fun s=>run s b:=by
 induction a generalizing s with
  |nil=>rfl
  |cons t a c=>simp only[AWa,run];grind
theorem Gt{s b:List Int×List Int}{t:Tok}(h:step s t=some b):
  (∃ v r,t = .ver v/\s.1=v::r/\b=s) \/
  (∃ u v r,t = .arc u v/\s.1=u::v::r/\b=(v::r,s.2)) \/
  (∃ u v r,t = .arc u v/\s.1=u::r/\r.head?≠some v/\v∉s.2/\b=(v::u::r,v::s.2)):=by
 obtain⟨a,c⟩:=s;cases t with
  |ver v=>
   cases a with
    |nil=>simp[step]at h
    |cons w r=>simp only[step]at h;grind
  |arc u v=>
   cases a with
    |nil=>simp[step]at h
    |cons w r=>
     simp only[step]at h;split at h
     ·rename_i e;subst e;cases r with
       |nil=>simp only at h;split at h;all_goals grind
       |cons p r=>simp only at h;split at h;grind;·split at h;all_goals grind
     grind
theorem Hl(v:Int)(r c:List Int):step (v::r,c) (.ver v)=some (v::r,c):=by simp[step]
theorem Kx(u v:Int)(r c:List Int):step (u::v::r,c) (.arc u v)=some (v::r,c):=by simp[step]
theorem Iu(u v:Int)(r c:List Int)(b:r.head?≠some v)(a:v∉c):step (u::r,c) (.arc u v)=some (v::u::r,v::c):=by
 cases r with
  |nil=>simp[step,a]
  |cons p r=>
   have:p≠v:=by grind
   simp[step,a,this]
def Inv(s:List Int×List Int):Prop:=s.1.Nodup/\(∀ x∈s.1,x∈s.2)
theorem Y'{s d:List Int×List Int}{t:Tok}(h:step s t=some d)(hi:Inv s):Inv d/\(∀ x∈s.2,x∈d.2)/\d.1.head? = some t.st:=by
 obtain⟨g,c⟩:=s;obtain⟨e,f⟩:=hi;rcases Gt h with⟨v,r,rfl,a,rfl⟩|⟨u,v,r,rfl,a,rfl⟩|⟨u,v,r,rfl,a,_,i,rfl⟩
 exact⟨⟨e,f⟩,fun x b=>b,by rw[a];rfl⟩;·simp only at a e f;subst a;refine⟨⟨?_,?_⟩,fun x b=>b,rfl⟩;all_goals grind
 ·simp only at a e f i;subst a;refine⟨⟨?_,?_⟩,fun x b=>by simp[b],rfl⟩;all_goals grind
theorem kN{l:List Tok}:∀ {s a:List Int×List Int},run s l=some a->Inv s->Inv a/\(∀ x∈s.2,x∈a.2)/\∀ t,l.getLast? = some t->a.1.head? = some t.st:=by
 induction l with
  |nil=>intro s a h hi;cases h;grind
  |cons t l c=>
   intro s a h hi;simp only[run]at h;split at h;rename_i k d;obtain⟨e,f,m⟩:=Y' d hi;obtain⟨g,i,n⟩:=c h e;refine⟨g,fun x j=>i x (f x j),fun t' b => ?_⟩;cases l with
    |nil=>simp at b;subst b;simp only[run]at h;grind
    |cons y l=>grind
   grind
theorem Iy{Z:Int->Prop}:∀ {l:List Tok} {b a c d c2 low:List Int},run (b,c) l=some (a,d)->b≠[]->(∀ x,x∈c2↔x∈c\/Z x) ->
  (∀ u v,.arc u v∈l->¬ Z v)->(∀ y∈low,Z y)->∃ e,run (b++low,c2) l=some (a++low,e)/\(∀ x,x∈e↔x∈d\/Z x):=by
 intro l;induction l with
  |nil=>intro b a c d c2 low h _ k _ _;cases h;exact⟨c2,rfl,k⟩
  |cons t l m=>
   intro b a c d c2 low h n k w o;simp only[run]at h;split at h;rename_i D z;have g:∀ u v,Tok.arc u v∈l->¬ Z v:=fun u v A=>w u v (AXl _ A);rcases Gt z with⟨v,r,rfl,f,rfl⟩|⟨u,v,r,rfl,f,rfl⟩|⟨u,v,r,rfl,f,E,B,rfl⟩
   simp only at f;subst f;obtain⟨e,i,j⟩:=m h n k g o;exact⟨e,by simp only[run,AWa,Hl];exact i,j⟩;simp only at f;subst f;obtain⟨e,i,j⟩:=m h (by simp) k g o;exact⟨e,by simp only[run,AWa,Kx];exact i,j⟩;simp only at f B;subst f;have C:=w u v (by simp);have q:v∉c2:=by grind
   have s:(r++low).head?≠some v:=by
    cases r with
     |nil=>
      cases low with
       |nil=>simp
       |cons y low=>grind
     |cons p r=>grind
   obtain⟨e,i,j⟩:=m (c2:=v::c2) h (by simp) (by grind) g o;exact⟨e,by simp only[run,AWa,Iu _ _ _ _ s q];exact i,j⟩;grind
theorem AKV{z:Int}:∀ {l:List Tok} {b a c2 m c:List Int},run (b,c2) l=some (a,m)->z∉b->(∀ x,x∈c2↔x∈c\/x=z)->z∉c ->
  .ver z∉l/\∃ d,run (b,c) l=some (a,d)/\(∀ x,x∈m↔x∈d\/x=z)/\z∉d:=by
 intro l;induction l with
  |nil=>intro b a c2 m c h _ f n;cases h;exact⟨by simp,c,rfl,f,n⟩
  |cons t l o=>
   intro b a c2 m c h g f n;simp only[run]at h;split at h;rename_i C y;rcases Gt y with⟨v,r,rfl,e,rfl⟩|⟨u,v,r,rfl,e,rfl⟩|⟨u,v,r,rfl,e,A,s,rfl⟩
   simp only at e;subst e;obtain⟨w,d,i,j,k⟩:=o h g f n;refine⟨?_,d,by simp only[run,Hl];exact i,j,k⟩;grind;simp only at e;subst e;obtain⟨w,d,i,j,k⟩:=o h (fun p=>g (AXl _ p)) f n;refine⟨?_,d,by simp only[run,Kx];exact i,j,k⟩;grind;simp only at e s;subst e;have B:v≠z:=by grind
   have q:v∉c:=fun p=>s ((f v).2 (.inl p))
   obtain⟨w,d,i,j,k⟩:=o (c:=v::c) h (by grind)
    (by grind)
    (by grind)
   refine⟨?_,d,by simp only[run,Iu _ _ _ _ A q];exact i,j,k⟩;grind;grind
def Rot(a b:List Tok):Prop:=∃ x y,a=x++y/\b=y++x
theorem Rot.refl(a:List Tok):Rot a a:=⟨[],a,rfl,by simp⟩
theorem Rot.trans{a b c:List Tok}(h:Rot a b)(g:Rot b c):Rot a c:=by
 obtain⟨x,y,rfl,i⟩:=h;obtain⟨z,w,f,rfl⟩:=g;rw[i]at f;rcases List.append_eq_append_iff.1 f with⟨k,d,e⟩|⟨k,d,e⟩
 subst d e;exact⟨k,w++y,by simp,by simp⟩;subst d e;exact⟨x++z,k,by simp,by simp⟩
theorem Rot.perm{a b:List Tok}(h:Rot a b):a.Perm b:=by obtain⟨x,y,rfl,rfl⟩:=h;grind
theorem Rot.mem{a b:List Tok}(h:Rot a b)(t:Tok):t∈a↔t∈b:=h.perm.mem_iff
theorem Rot.length{a b:List Tok}(h:Rot a b):a.length=b.length:=h.perm.length_eq
inductive T:List Tok->Prop
 |one (v:Int):T [.ver v]
 |add (x:Tok) (l:List Tok) (v:Int):T (x::l)->x.st≠v->.ver v∉x::l->T (x :: .arc x.st v :: .ver v :: .arc v x.st::l)
 |rot (a b:List Tok):T (a++b)->T (b++a)
theorem T.AMB{a b:List Tok}(h:T a)(r:Rot a b):T b:=by obtain⟨x,y,rfl,rfl⟩:=r;exact T.rot x y h
theorem T.facts{l:List Tok}(h:T l):l≠[]/\(∀ t∈l,.ver t.st∈l)/\(∀ u v,.arc u v∈l->.ver u∈l/\.ver v∈l/\.arc v u∈l/\u≠v):=by
 induction h with
  |one v=>exact⟨by simp,by simp[st],by simp⟩
  |add x l v h m q f=>
   obtain⟨_,g,n⟩:=f;have d:∀ t,t∈x::l->t∈x::Tok.arc x.st v :: .ver v :: .arc v x.st::l:=by grind
   have o:=d _ (g x (by simp));have c:∀ t,t∈x::Tok.arc x.st v :: .ver v :: .arc v x.st::l->t∈x::l\/t = .arc x.st v\/t = .ver v\/t = .arc v x.st:=by grind
   refine⟨by simp,fun t i => ?_,fun a b j => ?_⟩;rcases c t i with h|rfl|rfl|rfl;grind;simp[st];simp[st];exact o;·rcases c _ j with h|h|h|h;all_goals grind
  |rot a b h f=>obtain⟨r,g,n⟩:=f;have k:∀ t,t∈a++b↔t∈b++a:=fun t=>List.perm_append_comm.mem_iff;refine⟨by intro e;simp_all,fun t i=>(k _).1 (g t ((k _).2 i)),fun u v p => ?_⟩;grind
theorem T.nodup{l:List Tok}(h:T l):l.Nodup:=by
 induction h with
  |one v=>simp
  |add x l v h c e d=>obtain⟨_,_,f⟩:=h.facts;grind
  |rot a b h d=>grind
def C(l:List Tok):Prop:=∀ r,Rot l r->∀ t,r.getLast? = some t->∃ c,run ([t.st],[t.st]) r=some ([t.st],c)/\∀ x,x∈c↔.ver x∈l
end Tok
end Go.Pev.Pl
end
section
namespace Go.Pev.Pl.Tok
theorem getLast?_app{a b:List Tok}{t:Tok}(h:b.getLast? = some t):(a++b).getLast? = some t:=by grind
theorem CR(s:List Int×List Int)(t:Tok)(l:List Tok):run s (t::l)=(step s t).bind fun s=>run s l:=by rw[run];grind
theorem YZ(v:Int):Inv ([v],[v]):=⟨by simp,by simp⟩
theorem T.toC{l:List Tok}(h:T l):C l:=by
 induction h with
  |one v=>intro r I t j;have:r=[.ver v]:=List.perm_singleton.1 I.perm.symm;subst this;simp at j;subst j;exact⟨[v],by simp[run,st,step],by simp⟩
  |rot a b h K=>intro r I t j;obtain⟨c,s,A⟩:=K r (Rot.trans ⟨a,b,rfl,rfl⟩ I) t j;grind
  |add x l v h Q M K=>
   obtain⟨_,f2,R⟩:=h.facts;have m:∀ u w,Tok.arc u w∈x::l->¬ (w=v):=fun u w B e=>M (e▸(R u w B).2.1);have fin:∀ {k c:List Int},(∀ y,y∈k↔y∈c\/y=v)->(∀ y,y∈c↔.ver y∈x::l)->∀ y,y∈k↔Tok.ver y∈x :: .arc x.st v :: .ver v :: .arc v x.st::l:=by grind
   have g:∀ {w' n:List Int},Inv (x.st::w',n)->v∉n->∀ p,run (x.st::w',n) (.arc x.st v :: .ver v :: .arc v x.st::p)=run (x.st::w',v::n) p:=by
    intro w' n hi H p;have S:w'.head?≠some v:=by intro e;exact H (hi.2 v (AXl _ (List.mem_of_head? e)))
    rw[CR,Iu _ _ _ _ S H,AWq,CR,Hl,AWq,CR,Kx,AWq]
   have G:∀ i f,l=f++i->∀ t,(i++x :: .arc x.st v :: .ver v :: .arc v x.st::f).getLast? = some t->∃ c,run ([t.st],[t.st]) (i++x :: .arc x.st v :: .ver v :: .arc v x.st::f)=some ([t.st],c)/\∀ y,y∈c↔.ver y∈x :: .arc x.st v :: .ver v :: .arc v x.st::l:=by
    intro i f U t j;have J:Rot (x::l) (i++x::f):=⟨x::f,i,by simp[U],rfl⟩
    have L:∃ o,(i++x::f).getLast? = some o/\o.st=t.st:=by
     cases f with
      |nil=>refine⟨x,getLast?_app (by simp),?_⟩;rw[show i++[x,Tok.arc x.st v,.ver v,.arc v x.st]=(i++[x,Tok.arc x.st v,.ver v])++[Tok.arc v x.st] by simp,List.getLast?_concat]at j;cases j;rfl
      |cons y f=>refine⟨t,?_,rfl⟩;grind
    obtain⟨o,V,W⟩:=L;obtain⟨c,s,A⟩:=K _ J o V;rw[W,show i++x::f=(i++[x])++f by simp,JG,AXR]at s;obtain⟨⟨X,n⟩,N,O⟩:=s;obtain⟨P,i2,Y⟩:=kN N (YZ _);obtain⟨j1,j2,j3⟩:=kN O P;have D:=Y x (by simp);simp only at D;cases X with
     |nil=>grind
     |cons w0 w'=>
      simp at D;subst D;have H:v∉n:=fun B=>M ((A v).1 (j2 v B));obtain⟨k,E,F⟩:=Iy (Z:=(· = v)) (c2:=v::n) (low:=[]) O (by simp) (fun y=>by simp[or_comm]) (fun u w B=>m u w (by grind)) (by simp)
      refine⟨k,?_,fin F A⟩;rw[show i++x::Tok.arc x.st v :: .ver v :: .arc v x.st::f=(i++[x])++Tok.arc x.st v :: .ver v :: .arc v x.st::f by simp,JG,N,AWq,g P H];grind
   intro r I t j;obtain⟨p,q,d,rfl⟩:=I;have base:∀ o:Tok,(l++[x]).getLast? = some o->o=x:=fun o h=>by grind
   obtain⟨c,s,A⟩:=K (l++[x]) ⟨[x],l,rfl,rfl⟩ x (by simp);match p with
   |[]=>
    simp only[AWh]at d
    subst d
    have:=G [] l (by simp) t (by grind)
    simpa using this
   |[y]=>
    simp only[AWa,AWh,AWc]at d
    obtain⟨rfl,rfl⟩:=d
    have:t=x:=by
     grind
    subst this
    have H:v∉[t.st]:=by grind
    obtain⟨k,E,F⟩:=Iy (Z:=(· = v)) (c2:=[v,t.st]) (low:=[]) s (by simp) (fun y=>by simp[or_comm]) (fun u w B=>m u w (by grind)) (by simp)
    refine⟨k,?_,fin F A⟩
    rw[show(Tok.arc t.st v :: .ver v :: .arc v t.st::l)++[t]=Tok.arc t.st v :: .ver v :: .arc v t.st::(l++[t]) by simp,g (YZ _) H]
    grind
   |[y,z]=>
    simp only[AWa,AWh,AWc]at d
    obtain⟨rfl,rfl,rfl⟩:=d
    have:t = .arc x.st v:=by
     rw[show(Tok.ver v :: .arc v x.st::l)++[x,.arc x.st v]=(Tok.ver v :: .arc v x.st::l++[x])++[.arc x.st v] by simp,List.getLast?_concat]at j
     grind
    subst this
    obtain⟨k,E,F⟩:=Iy (Z:=(· = v)) (c2:=[x.st,v]) (low:=[v]) s (by simp) (fun y=>by simp) (fun u w B=>m u w (by grind)) (by simp)
    refine⟨k,?_,fin F A⟩
    rw[show(Tok.ver v :: .arc v x.st::l)++[x,.arc x.st v]=Tok.ver v :: .arc v x.st::((l++[x])++[.arc x.st v]) by simp]
    rw[CR]
    show(step ([v],[v]) _).bind _=_
    rw[Hl,AWq,CR,Iu _ _ _ _ (by simp) (by grind),AWq,JG]
    rw[show([x.st]++[v]:List Int)=[x.st,v]from rfl]at E
    rw[E,AWq,CR,Kx]
    rfl
   |[y,z,w]=>
    simp only[AWa,AWh,AWc]at d
    obtain⟨rfl,rfl,rfl,rfl⟩:=d
    have:t = .ver v:=by
     rw[show(Tok.arc v x.st::l)++[x,.arc x.st v,.ver v]=(Tok.arc v x.st::l++[x,.arc x.st v])++[.ver v] by simp,List.getLast?_concat]at j
     grind
    subst this
    obtain⟨k,E,F⟩:=Iy (Z:=(· = v)) (c2:=[x.st,v]) (low:=[v]) s (by simp) (fun y=>by simp) (fun u w B=>m u w (by grind)) (by simp)
    refine⟨k,?_,fin F A⟩
    rw[show(Tok.arc v x.st::l)++[x,.arc x.st v,.ver v]=Tok.arc v x.st::((l++[x])++[.arc x.st v,.ver v]) by simp]
    rw[CR]
    show(step ([v],[v]) _).bind _=_
    rw[Iu _ _ _ _ (by simp) (by grind),AWq,JG]
    rw[show([x.st]++[v]:List Int)=[x.st,v]from rfl]at E
    rw[E,AWq,CR,Kx,AWq,CR,Hl]
    rfl
   |y::z::w::w2::f=>
    simp only[AWa,AWc]at d
    obtain⟨rfl,rfl,rfl,rfl,rfl⟩:=d
    exact G q f rfl t j
def comp(P:List Tok):List Int->List Tok
 |[]=>[]
 |w::r=>(if .ver w∈P then []else [.ver w])++match r with
  |[]=>[]
  |p::_=>.arc w p::comp P r
theorem Q6{P b:List Tok}:∀ {a:List Int},(∀ w∈a,(Tok.ver w∈P↔Tok.ver w∈b))->comp P a=comp b a:=by
 intro a;induction a with
  |nil=>intro _;rfl
  |cons w r c=>intro h;have d:=h w (by simp);have e:=c fun x f=>h x (AXl _ f);simp only[comp,d,e]
theorem AUJ:∀ (M P:List Tok) (d c c':List Int) (r:Int) (a:Tok),run (d,c) M=some ([r],c')->Inv (d,c)->P.getLast? = some a->d.head? = some a.st ->
  T (P++comp P d)->(∀ x,.ver x∈P++comp P d->x∈c)->(∀ x∈c',Tok.ver x∈P++M)->(P++M).Nodup->T (P++M):=by
 intro M;induction M with
  |nil=>intro P d c c' r a h hi N R n o f p;cases h;have:=f r (hi.2 r (by simp));rw[AWk]at this;simpa [comp,this]using n
  |cons t M C=>
   intro P d c c' r a h hi N R n o f p;rw[CR,AXR]at h;obtain⟨⟨V,W⟩,O,B⟩:=h;obtain⟨k,Q,l⟩:=Y' O hi;have q:P++t::M=(P++[t])++M:=by simp
   rw[q]at p f |-;have D:t∉P:=by grind
   rcases Gt O with⟨v,b,rfl,i,e⟩|⟨u,v,b,rfl,i,e⟩|⟨u,v,b,rfl,i,S,s,e⟩
   cases e;simp only at i;subst i;have g:comp P (v::b) = .ver v::comp (P++[.ver v]) (v::b):=by
    have y:comp P b=comp (P++[.ver v]) b:=Q6 fun w m=>by
     have:w≠v:=by rintro rfl;exact(AWz.1 hi.1).1 m
     grind
    simp only[comp,D,y];simp
   rw[g]at n o;exact C _ _ _ _ _ (.ver v) B k (by simp) l (by grind) (fun x U=>o x (by grind)) f p;cases e;simp only at i;subst i;have E:Tok.ver u∈P:=by
    have F:=(AWz.1 hi.1).1;obtain⟨X,_⟩:=AKV (z:=u) (c:=c.filter (·≠u)) B F (fun x=>by simp only[AWZ,AV4];constructor;grind;rintro (h|rfl);exact h.1;exact hi.2 x (by simp)) (by simp)
    grind
   have g:comp P (u::v::b) = .arc u v::comp (P++[.arc u v]) (v::b):=by
    have y:comp P (v::b)=comp (P++[.arc u v]) (v::b):=Q6 fun w m=>by simp
    rw[<- y];simp only[comp,E];simp
   rw[g]at n o;exact C _ _ _ _ _ (.arc u v) B k (by simp) l (by grind) (fun x U=>o x (by grind)) f p;cases e;simp only at i s;subst i;have E:u=a.st:=by grind
   subst E;have G:∀ x,Tok.ver x∈P++comp P (a.st::b)->x≠v:=by grind
   have H:Tok.ver v∉P++comp P (a.st::b):=fun I=>G v I rfl;have A:Tok.ver v∉P:=fun I=>H (by simp[I]);have g:comp (P++[.arc a.st v]) (v::a.st::b) = .ver v :: .arc v a.st::comp P (a.st::b):=by
    have y:comp (P++[.arc a.st v]) (a.st::b)=comp P (a.st::b):=Q6 fun w m=>by simp
    rw[<- y];simp only[comp,AWL,A,AXe,reduceCtorEq,or_false,AWN];rfl
   have J:a.st≠v:=by rintro e;exact s (e▸hi.2 a.st (by simp))
   refine C _ _ _ _ _ (.arc a.st v) B k (by simp) l ?_ ?_ f p;rw[g];obtain⟨j,rfl⟩:∃ j,P=j++[a]:=AYZ.1 N;have K:T (a::(comp (j++[a]) (a.st::b)++j)):=n.AMB ⟨j,a::comp (j++[a]) (a.st::b),by simp,by simp⟩;have L:=T.add a _ v K J (by grind)
   exact L.AMB ⟨a :: .arc a.st v :: .ver v :: .arc v a.st::comp (j++[a]) (a.st::b),j,by simp,by simp⟩;grind
def BS(l:List Tok):Prop:=∃ r a c,l = .ver r::a/\run ([r],[r]) l=some ([r],c)/\∀ x∈c,Tok.ver x∈l
theorem BS.toT{l:List Tok}(h:BS l)(d:l.Nodup):T l:=by obtain⟨r,b,c,rfl,a,e⟩:=h;rw[CR,Hl,AWq]at a;have:=AUJ b [.ver r] [r] [r] c r (.ver r) a (YZ r) (by simp) (by simp[st]) (by simp[comp];exact T.one r) (by simp[comp]) (by grind) (by grind);grind
theorem T.jx{r:Int}{l:List Tok}(h:T (.ver r::l)):BS (.ver r::l):=by
 obtain⟨t,d⟩:∃ t,(Tok.ver r::l).getLast? = some t:=⟨_,List.getLast?_eq_some_getLast (by simp)⟩
 obtain⟨c,b,f⟩:=h.toC _ (Rot.refl _) t d;have a:=b;rw[CR,AXR]at a;obtain⟨s,g,_⟩:=a;have e:t.st=r:=by simp only[step]at g;grind
 rw[e]at b;exact⟨r,l,c,rfl,b,fun x i=>(f x).1 i⟩
theorem T.tR{l:List Tok}(h:T l):∃ v r,Rot l (.ver v::r):=by obtain⟨c,d,_⟩:=h.facts;obtain⟨t,e⟩:=List.exists_mem_of_ne_nil l c;obtain⟨a,b,rfl⟩:=AYJ (d t e);exact⟨t.st,b++a,a,.ver t.st::b,rfl,rfl⟩
theorem T.leaf{l:List Tok}(h:T l):(∃ v,l=[.ver v])\/∃ x v r,Rot l (x :: .arc x.st v :: .ver v :: .arc v x.st::r):=by
 induction h with
  |one v=>simp
  |add x l v h f g d=>exact .inr ⟨x,v,l,Rot.refl _⟩
  |rot a b h d=>
   rcases d with⟨v,e⟩|⟨x,v,r,c⟩
   have c:Rot [.ver v] (b++a):=⟨a,b,e.symm,rfl⟩
   exact .inl ⟨v,List.perm_singleton.1 c.perm.symm⟩;exact .inr ⟨x,v,r,Rot.trans ⟨b,a,rfl,rfl⟩ c⟩
def NC:List Tok->List Int
 |[]=>[]
 |.ver v::l=>v::NC l
 |.arc _ _::l=>NC l
theorem SB{v:Int}:∀ {l:List Tok},v∈NC l↔.ver v∈l
 |[]=>by simp[NC]
 |.ver w::l=>by simp[NC,SB (l:=l)]
 |.arc _ _::l=>by simp[NC,SB (l:=l)]
theorem oe(a b:List Tok):NC (a++b)=NC a++NC b:=by
 induction a with
  |nil=>rfl
  |cons t a c=>cases t<;>simp[NC,c]
theorem T.len{l:List Tok}(h:T l):l.length+2=3*(NC l).length:=by
 induction h with
  |one v=>rfl
  |add x l v h d e c=>cases x<;>simp[NC]at c |-<;>omega
  |rot a b h c=>simp only[oe,AWF]at c |-;omega
end Go.Pev.Pl.Tok
end
section
namespace Go.Pev.Pl
section
variable {β:Type}
def B2(a:List (Int×β)):List Int:=a.map Prod.fst
theorem UO(a:List (Int×β)):(B2 a).length=a.length:=by simp[B2]
theorem E1(c:List (Int×β))(k:Int)(v:β)(j:Int):A_ (BG c k v) j=if j=k then some v else A_ c j:=by
 induction c with
  |nil=>simp only[BG,A_];grind
  |cons e c d=>obtain⟨a,b⟩:=e;simp only[BG];by_cases h:a=k;subst h;simp only[AWf,A_];grind;simp only[h,AWN,A_,d];grind
theorem Qd(c:List (Int×β))(k:Int)(v:β):B2 (BG c k v)=if k∈B2 c then B2 c else B2 c++[k]:=by
 induction c with
  |nil=>rfl
  |cons e c d=>
   obtain⟨a,b⟩:=e;simp only[BG];by_cases h:a=k;subst h;simp[B2];simp only[h,AWN];show a::B2 (BG c k v)=_;rw[d];have:k∈B2 ((a,b)::c)↔k∈B2 c:=by simp[B2,AXx h]
   simp only[this];split<;>rfl
theorem Wj(c:List (Int×β))(k:Int):A_ c k=none↔k∉B2 c:=by
 induction c with
  |nil=>simp[A_,B2]
  |cons e c d=>obtain⟨a,b⟩:=e;simp only[A_];by_cases h:a=k;simp[h,B2];simp only[h,AWN,d];simp[B2,AXx h]
theorem GF(a:List (Int×β))(k:Int)(v:β)(j:Int):j∈B2 (BG a k v)↔j=k\/j∈B2 a:=by rw[Qd];grind
theorem K7{a:List (Int×β)}(h:(B2 a).Nodup)(k:Int)(v:β):(B2 (BG a k v)).Nodup:=by rw[Qd];grind
end
def dd:List Int->List Int->List Int
 |ks,[]=>ks
 |ks,x::xs=>dd (if x∈ks then ks else ks++[x]) xs
theorem AUY:∀ (xs a:List Int),(dd a xs).length<=a.length+xs.length/\((dd a xs).length=a.length+xs.length↔xs.Nodup/\∀ x∈xs,x∉a):=by
 intro xs;induction xs with
  |nil=>intro a;simp[dd]
  |cons x xs b=>intro a;rw[dd];by_cases h:x∈a;grind;obtain⟨c,d⟩:=b (a++[x]);grind
theorem AN2(xs:List Int):(dd [] xs).length=xs.length↔xs.Nodup:=by have:=(AUY xs []).2;grind
theorem B'{α β ρ:Type}(g:β->α->α)(fin:α->ρ):∀ (xs:List β) (a:α),walk (fun x a=>.inl (g x a)) fin xs a=fin (xs.foldl (fun a x=>g x a) a):=by
 intro xs;induction xs with
  |nil=>intro a;rfl
  |cons x xs b=>intro a;rw[walk,AXA];grind
theorem KR{σ ρ β:Type}{step:σ->Option (σ⊕ρ)}(st:Nat->σ)(xs:List β)(P:β->Bool)(b:Nat->ρ)(c:ρ)(d:xs.length<9223372036854775808)
  (h:∀ i x,i<xs.length->xs[i]? = some x->step (st i)=if P x then some (.inr (b i))else some (.inl (st (i+1)))) (g:step (st xs.length)=some (.inr c)) :
  A8 step many (st 0)=some (if xs.any P then b (xs.findIdx P)else c):=by
 have e:∀ (l:List β) (a:Nat),walk (fun x (a:Nat)=>if P x then .inr (b a)else .inl (a+1)) (fun _=>c) l a=if l.any P then b (a+l.findIdx P)else c:=by
  intro l;induction l with
   |nil=>intro a;rfl
   |cons x l j=>intro a;rw[walk,List.any_cons,List.findIdx_cons];grind
 have:=DS (step:=step) (fun i (a:Nat)=>st a) xs (fun x (a:Nat)=>if P x then .inr (b a)else .inl (a+1)) (fun _=>c) (fun i a=>a=i) d
  (fun i x a hi k f=>by
   grind)
  (fun a f=>by grind) 0 rfl
 grind
theorem A'{α:Type}{xs:List α}{n:Nat}{x:α}(h:xs[n]? = some x):idx xs (n:Int)=some x:=by rw[l6,h]
theorem Bu{α:Type}{xs:List α}{n:Nat}{x z:α}(h:xs[n]? = some x):A9 xs (A4 (n:Int)) z=x:=by rw[IE,AWd,h];rfl
theorem Tn{α:Type}{xs:List α}{h:Nat}(a:h<=xs.length):Ci xs (0:Int) (h:Int)=some (xs.take h):=by have:=Tl (xs:=xs) (l:=0) (AXV h) a;grind
theorem I'{α:Type}{xs:List α}{l:Nat}(a:l<=xs.length):Ci xs (l:Int) (A2 xs)=some (xs.drop l):=by have:=Tl (xs:=xs) a (AV8 _);rw[AWT]at this;exact this
def pos(xs:List Int)(t:Int):Int:=if t∈xs then((xs.findIdx (fun x=>decide (x=t)):Nat):Int)else -1
theorem ASc(xs:List Int)(t:Int):(xs.any fun x=>decide (x=t))=decide (t∈xs):=by grind
theorem AK6{xs:List Int}{t:Int}(h:t∈xs):∃ k:Nat,pos xs t=(k:Int)/\k<xs.length/\xs[k]? = some t/\xs=xs.take k++t::xs.drop (k+1)/\t∉xs.take k:=by
 have a:xs.findIdx (fun x=>decide (x=t))<xs.length:=AXz.2 ⟨t,h,by simp⟩;have b:xs[xs.findIdx (fun x=>decide (x=t))]'a=t:=by grind
 refine⟨_,by rw[pos,AWB h],a,by grind,?_,?_⟩;·conv=>lhs;rw[<- AXC (xs.findIdx (fun x=>decide (x=t))) xs,AWv a,b]
 intro c;obtain⟨j,d,e⟩:=AYa.1 c;grind
theorem ABl{xs:List Int}{t:Int}(h:t∉xs):pos xs t = -1:=by rw[pos,AV9 h]
end Go.Pev.Pl
end
section
section
namespace Go.Pev.Pl
open Tok
def In(n v:Int):Prop:=1<=n/\n<=64/\0<=v/\v<n
instance (n v:Int):Decidable (In n v):=inferInstanceAs (Decidable (_/\_))
def Sz(n:Int):Prop:=1<=n/\n<=64
instance (n:Int):Decidable (Sz n):=inferInstanceAs (Decidable (_/\_))
theorem Ls(n:Int):Px (n,())=some (decide (Sz n),()):=by rw[fO,Yt];simp only[BM];by_cases a:1<=n<;>by_cases b:n<=64<;>simp[Sz,a,b]
theorem Xs(n v:Int):tin (n,v,())=some (decide (In n v),()):=by rw[AJg,AJh];simp only[Ls,BM,BD];by_cases a:1<=n<;>by_cases b:n<=64<;>by_cases c:0<=v<;>simp[In,Sz,a,b,c]
def AVj(n v:Int):Int:=if In n v then v else -1
def PQ(n u v:Int):Int:=if In n u/\In n v/\u≠v then n*(u+1)+v else -1
theorem MA{n u:Int}(d:1<=n)(b:n<=64)(a:0<=u)(c:u<=64):0<=n*u/\n*u<=4096:=by refine⟨Int.mul_nonneg (by omega) a,?_⟩;have:=Int.mul_le_mul b c a (by omega);omega
theorem AJl(n u v:Int):AJm (n,u,v,())=some (PQ n u v,()):=by rw[ABS,vP];simp only[Xs,PQ,BB];by_cases a:u=v;simp[a];by_cases b:In n u;by_cases c:In n v;obtain⟨d,e,f,g⟩:=b;obtain⟨h,i,j,k⟩:=c;have l:=MA (u:=u+1) d e (by omega) (by omega);rw[BE (n:=u+1) (by omega),BE (n:=n*(u+1)) (by omega),BE (n:=n*(u+1)+v) (by omega)];grind;grind;grind
def GA(n t:Int):Option Tok:=
 if In n t then some (.ver t)
 else if Sz n/\n<=t/\t<n*(n+1)/\t/n-1≠t % n then some (.arc (t/n-1) (t % n))
 else none
def vD:Option Tok->Int×Int×Bool×Bool×Unit
 |some (.ver v)=>(v,0,false,true,())
 |some (.arc u v)=>(u,v,true,true,())
 |none=>(0,0,false,false,())
def Hy(n:Int):Tok->Int
 |.ver v=>v
 |.arc u v=>n*(u+1)+v
def okT(n:Int):Tok->Prop
 |.ver v=>In n v
 |.arc u v=>In n u/\In n v/\u≠v
theorem YP{n u v:Int}(c:In n u)(d:In n v):n<=n*(u+1)+v/\n*(u+1)+v<n*(n+1)/\(n*(u+1)+v)/n=u+1/\(n*(u+1)+v) % n=v:=by
 obtain⟨e,f,h,i⟩:=c;obtain⟨j,k,a,b⟩:=d;have l:n*(u+1)=n*u+n:=by grind
 have m:n*(n+1)=n*n+n:=by grind
 have o:=MA (u:=u) e f (by omega) (by omega);have g:n*(u+1)<=n*n:=Int.mul_le_mul_of_nonneg_left (by omega) (by omega);have hd:(n*(u+1)+v)/n=u+1:=by rw[Int.add_comm,Int.add_mul_ediv_left _ _ (by omega),Int.ediv_eq_zero_of_lt a b];omega
 have p:(n*(u+1)+v) % n=v:=by rw[Int.add_comm,Int.add_mul_emod_self_left,Int.emod_eq_of_lt a b]
 omega
theorem ACt{n t:Int}(c:Sz n)(f:n<=t)(g:t<n*(n+1)):In n (t/n-1)/\In n (t % n)/\n*(t/n-1+1)+t % n=t:=by obtain⟨a,b⟩:=c;have h:1<=t/n:=(Int.le_ediv_iff_mul_le (by omega)).2 (by omega);have i:t/n<n+1:=(Int.ediv_lt_iff_lt_mul (by omega)).2 (by grind);have d:=Int.emod_nonneg t (show n≠0 by omega);have e:=Int.emod_lt_of_pos t (show 0<n by omega);have j:=Int.mul_ediv_add_emod t n;refine⟨⟨a,b,by omega,by omega⟩,⟨a,b,d,e⟩,?_⟩;grind
theorem Gr{n:Int}{t:Tok}(h:okT n t):GA n (Hy n t)=some t:=by
 cases t with
  |ver v=>simp only[okT]at h;simp[GA,Hy,h]
  |arc u v=>
   obtain⟨a,c,d⟩:=h;obtain⟨e,f,g,i⟩:=YP a c;have b:¬ In n (n*(u+1)+v):=fun h=>by have:=h.2.2.2;omega
   have:u+1-1=u:=by omega
   simp only[GA,Hy,b,AWN,g,i,this];rw[AWB ⟨⟨a.1,a.2.1⟩,e,f,d⟩]
theorem AHi{n x:Int}{t:Tok}(h:GA n x=some t):okT n t/\Hy n t=x:=by rw[GA]at h;split at h;cases h;exact⟨by assumption,rfl⟩;split at h;rename_i a;cases h;obtain⟨b,c,d⟩:=ACt a.1 a.2.1 a.2.2.1;exact⟨⟨b,c,a.2.2.2⟩,d⟩;grind
theorem Ju{n u v:Int}(h:okT n (.arc u v)):PQ n u v=Hy n (.arc u v):=by simp only[okT]at h;rw[PQ,AWB h];rfl
theorem S1{n:Int}{a b:Tok}(c:okT n a)(d:okT n b)(h:Hy n a=Hy n b):a=b:=by have:=Gr c;rw[h,Gr d]at this;grind
theorem uz(n t:Int)(m:-9223372036854775808<=t/\t<=9223372036854775807):jr (n,t,())=some (vD (GA n t)):=by
 rw[fM,Ys];simp only[Ls];by_cases f:Sz n;obtain⟨c,d⟩:=f;have o:=MA (u:=n) c d (by omega) (by omega);have p:n*(n+1)=n*n+n:=by grind
 rw[BE (n:=n+1) (by omega),BE (n:=n*(n+1)) (by omega)];simp only[Sz,c,d,and_self,AWG,AV6,BD,BM];by_cases i:t<0;have a:¬ In n t:=fun h=>by have:=h.2.2.1;omega
 have e:¬ n<=t:=by omega
 simp only[i,AWG,GA,a,AWN,e,AYf,and_false,vD];simp only[i,AWg];by_cases e:n*(n+1)<=t;have a:¬ In n t:=fun h=>by have:=h.2.2.2;omega
 have b:¬ t<n*(n+1):=by omega
 simp only[e,AWG,GA,a,AWN,b,AYf,and_false,vD];simp only[e,AWg];by_cases b:t<n;have hi:In n t:=⟨c,d,by omega,b⟩
 simp only[b,AWG,GA,hi,AWf,vD];have a:¬ In n t:=fun h=>b h.2.2.2;have k:t.tdiv n=t/n:=AX3 (by omega);have l:t.tmod n=t % n:=Int.tmod_eq_emod_of_nonneg (by omega);obtain⟨j,q,r⟩:=ACt (t:=t) ⟨c,d⟩ (by omega) (by omega);have s:=j.2.2.1;have v:=j.2.2.2;simp only[b,AWg,QK,kY,wY,AKk];rw[AV9 (by omega),AV9 (by omega),k,l,V_ (n:=t/n) (by omega)];simp only[];rw[BE (n:=t/n-1) (by omega),BB,GA,AV9 a];by_cases g:t/n-1=t % n;rw[AV9 (by omega),AV2 g];rfl;rw[AWB ⟨⟨c,d⟩,by omega,by omega,g⟩,AV1 g];rfl;have a:¬ In n t:=fun h=>f ⟨h.1,h.2.1⟩;simp only[f,AWg,AWR,GA,a,AWN,AYf,vD]
def DC(n:Nat):List (List Int):=(List.range n).map fun(v:Nat)=>[(v:Int)]
theorem kD(n:Nat):DC (n+1)=DC n++[[(n:Int)]]:=by simp[DC,AWX]
theorem pV(n:Nat):(DC n).length=n:=by simp[DC]
theorem vE(N:Nat)(b:N<=64)(c:Int):∀ (k i n:Nat),i+k=N->k<n->BC NI n (c,(N:Int),DC i,(N:Int),(i:Int),())=some (.inl (c,(N:Int),DC N,())):=by
 intro k;induction k with
  |zero=>
   intro i n hi a;obtain⟨n,rfl⟩:∃ k,n=k+1:=⟨n-1,by omega⟩
   have:i=N:=by omega
   subst this;rw[BC,NI,A3,AV1 (by omega)]
  |succ k d=>
   intro i n hi a;obtain⟨n,rfl⟩:∃ k,n=k+1:=⟨n-1,by omega⟩
   rw[BC,NI,A3,AV2 (by omega)];simp only[A6,pV,AWD,AWK];rw[Bo (by omega),A5 (by omega)];simp only[Dy,<- kD];grind
def YF(n:Int):Int×List (List Int)×Int×Unit:=if Sz n then(n,DC n.toNat,0,())else(0,[],1,())
theorem AD1(n:Int):ABQ (n,())=some (YF n):=by
 have c:4294967296<many:=by simp only[many];omega
 rw[pD,jz,YF];simp only[Ls];by_cases h:Sz n;obtain⟨d,f⟩:=h;obtain⟨N,rfl⟩:=AV7 (show 0<=n by omega);have a:Sz (N:Int):=⟨by omega,by omega⟩
 have e:=vE N (by omega) 0 N 0 many (by omega) (by omega);have b:BC NI many (0,(N:Int),[],(N:Int),(0:Int),())=_:=e;simp[a,BR,b];grind
end Go.Pev.Pl
end
section
namespace Go.Pev.Pl
theorem Qk(xs:List Int)(t:Int)(a:xs.length<9223372036854775808):UX (xs,t,())=some (pos xs t,()):=by
 rw[iD,bG]
 have e:=KR (step:=LI) (fun i=>(xs,t,A2 xs,(i:Int),())) xs (fun x=>decide (x=t)) (fun i=>.inl ((i:Int),())) (.inr (.inl ())) a
  (fun i x hi b=>by
   rw[LI,A6,A3,AV2 hi]
   simp only[A' b,BB]
   by_cases h:x=t
   ·simp[h]
   ·simp only[h,AXx h,AWg];rw[A5 (by omega)];simp)
  (by rw[LI,A6,A3,AV1 (by omega)])
 have c:A8 LI many (xs,t,A2 xs,(0:Int),())=_:=e;rw[c,ASc,pos];grind
theorem Hb(xs:List Int)(t:Int)(a:xs.length<9223372036854775808):HF (xs,t,())=some (decide (t∈xs),()):=by rw[TA,OF];simp only[Qk xs t a,BM];by_cases h:t∈xs;obtain⟨k,e,_⟩:=AK6 h;rw[e];simp[h];rw[ABl h];simp[h]
def Rt(xs:List Int):Prop:=xs.length<=1000/\(∀ x∈xs,0<=x/\x<=10000)/\xs.Nodup
instance (xs:List Int):Decidable (Rt xs):=inferInstanceAs (Decidable (_/\_/\_))
theorem tQ(xs:List Int)(a:xs.length<9223372036854775808):Hc (xs,())=some (xs.any (fun x=>decide (x<0)||decide (10000<x)),()):=by
 rw[LY,IG,Mz,Jd]
 have e:=KR (step:=EH) (fun i=>(xs,A2 xs,(i:Int),())) xs (fun x=>decide (x<0)||decide (10000<x)) (fun i=>.inl ((i:Int),())) (.inr (.inl ())) a
  (fun i x hi c=>by
   rw[EH,A6,A3,AV2 hi]
   simp only[A' c,BD]
   rw[A5 (by omega)]
   grind)
  (by rw[EH,A6,A3,AV1 (by omega)])
 have d:A8 EH many (xs,A2 xs,(0:Int),())=_:=e;rw[d];generalize (xs.any fun x=>decide (x<0)||decide (10000<x))=b;cases b<;>simp[BM]
theorem AMA(xs:List Int)(c:xs.length<9223372036854775808):once (xs,())=some (decide xs.Nodup,()):=by
 rw[ACA,yJ]
 have e:=DS (step:=R7) (fun i m=>(xs,m,xs,A2 xs,(i:Int),())) xs (fun x m=>.inl (BG m x (w64 (((A_ m x).getD (0:Int))+(1:Int))))) (fun m=>.inl (xs,m,())) (fun _ _=>True) c
  (fun i x m hi d _=>by
   refine⟨fun j a => ?_,fun r a=>by cases a⟩
   cases a
   rw[R7,A6,A3,AV2 hi]
   simp only[A' d]
   rw[A5 (by omega)]
   simp)
  (fun m _=>by rw[R7,A6,A3,AV1 (by omega)]) [] trivial
 have f:A8 R7 many (xs,([]:List (Int×Int)),xs,A2 xs,(0:Int),())=_:=e;rw[f,B'];have b:∀ (l:List Int) (m:List (Int×Int)),B2 (l.foldl (fun m x=>BG m x (w64 (((A_ m x).getD (0:Int))+(1:Int)))) m)=dd (B2 m) l:=by
  intro l;induction l with
   |nil=>intro m;rfl
   |cons x l g=>intro m;rw[AXA,g,Qd,dd]
 have h:=b xs [];generalize xs.foldl (fun m x=>BG m x (w64 (((A_ m x).getD (0:Int))+(1:Int)))) []=m at *;simp only[bK];have:m.length=(dd [] xs).length:=by rw[<- UO,h];rfl
 rw[this];simp only[AN2]
theorem QD(xs:List Int):QE (xs,())=some (decide (Rt xs),()):=by
 rw[gJ,Zj,A6,BD];by_cases d:xs.length<=1000;rw[AV1 (by omega)];simp only[tQ xs (by omega),AMA xs (by omega)];have a:(xs.any fun x=>decide (x<0)||decide (10000<x)) = !decide (∀ x∈xs,0<=x/\x<=10000):=by grind
 rw[a];by_cases b:∀ x∈xs,0<=x/\x<=10000;rw[AV2 b];by_cases c:xs.Nodup;rw[AV2 c,AV2 (show Rt xs from⟨d,b,c⟩)];rfl;rw[AV1 c,AV1 (show ¬ Rt xs from fun h=>c h.2.2)];rfl;rw[AV1 b,AV1 (show ¬ Rt xs from fun h=>b h.2.1)];rfl;rw[AV2 (by omega),AV1 (show ¬ Rt xs from fun h=>d h.1)]
def rot(xs:List Int)(k:Nat):List Int:=xs.drop k++xs.take k
theorem AHE(n:Nat)(e:n<4294967296):ACa ((n:Int),())=some ([],()):=by
 have a:w64 ((n:Int)-w64 ((0:Int)-0))=(n:Int):=by rw[BE (n:=(0:Int)-0) (by omega),BE (by omega)];omega
 rw[sH,mN];simp only[a,BD];rw[AV1 (by omega)];simp only[];by_cases h:0<n;rw[AV2 (by omega)];have b:Ci ([]:List Unit) (0:Int) (0:Int)=some []:=by rw[On];rfl
 have c:Ci (Dm (A4 (n:Int)) (0:Int)) (0:Int) (0:Int)=some []:=by rw[On,fY,AWB (by omega)];simp
 have d:Ca (n:Int)=true:=(I4 _).2 (by omega);simp only[b,c,d];rfl;grind
theorem EX{α:Type}{a:List (List α)}{i:Nat}{x:List α}(h:a[i]? = some x):(a.take (i+1)).flatten=(a.take i).flatten++x:=by rw[AYQ,h];simp
theorem FP{α:Type}(a:List (List α))(i:Nat):(a.take i).flatten.length<=a.flatten.length:=by
 conv=>rhs;rw[<- AXC i a,AYW,AWF]
 omega
theorem W7(b:List (List Int))(t:b.length<4294967296)(h:b.flatten.length<4294967296):Mm (b,())=some (b.flatten,()):=by
 rw[cg,VT]
 have e:=DS (step:=Jr) (fun i (a:Nat)=>(b,(a:Int),b,A2 b,(i:Int),())) b (fun x a=>.inl (a+x.length)) (fun a=>.inl (b,(a:Int),())) (fun i a=>a=(b.take i).flatten.length) (by omega)
  (fun i x a hi d n=>by
   refine⟨fun o c => ?_,fun r c=>by cases c⟩
   cases c
   have j:=EX d
   have k:=FP b (i+1)
   rw[j,AWF]at k
   rw[Jr]
   simp only[A6]
   rw[A3,AV2 hi]
   simp only[A' d]
   rw[wrap_add (by omega),A5 (by omega),BD,AV1 (by omega)]
   grind)
  (fun a _=>by rw[Jr,A6,A3,AV1 (by omega)]) 0 rfl
 have p:A8 Jr many (b,(0:Int),b,A2 b,(0:Int),())=_:=e;rw[p,B'];have f:∀ (l:List (List Int)) (a:Nat),l.foldl (fun a x=>a+x.length) a=a+l.flatten.length:=by
  intro l;induction l with
   |nil=>simp
   |cons x l q=>grind
 rw[f,AWs];simp only[AHE _ h]
 have g:=DS (step:=Jq) (fun i (a:List Int)=>(a,b,A2 b,(i:Int),())) b (fun x a=>.inl (a++x)) (fun a=>.inl (a,())) (fun i a=>a=(b.take i).flatten) (by omega)
  (fun i x a hi d n=>by
   refine⟨fun o c => ?_,fun r c=>by cases c⟩
   cases c
   have j:=EX d
   have k:=FP b (i+1)
   rw[j,AWF]at k
   rw[Jq]
   simp only[A6]
   rw[A3,AV2 hi]
   simp only[A' d]
   rw[A5 (by omega),Bo (by grind)]
   exact⟨rfl,by grind⟩)
  (fun a _=>by rw[Jq,A6,A3,AV1 (by omega)]) [] rfl
 have s:A8 Jq many ([],b,A2 b,(0:Int),())=_:=g;rw[s,B'];have m:∀ (l:List (List Int)) (a:List Int),l.foldl (fun a x=>a++x) a=a++l.flatten:=by
  intro l;induction l with
   |nil=>simp
   |cons x l q=>grind
 grind
theorem Yp(xs:List Int)(k:Nat)(a:k<=xs.length)(b:xs.length<2147483648):Yr (xs,(k:Int),())=some (rot xs k,()):=by rw[fL,Yq];simp only[I' a,Tn a];rw[W7 _ (by simp) (by grind)];simp[rot]
def C9(xs:List Int)(t:Int):List Int:=rot xs (xs.findIdx (fun x=>decide (x=t)))
def mU(xs:List Int)(t:Int):List Int×Bool×Unit:=if Rt xs/\t∈xs then(C9 xs t,true,())else([],false,())
theorem Zm{xs:List Int}{t:Int}(h:t∈xs):∃ a b,xs=a++t::b/\t∉a/\C9 xs t=t::b++a:=by
 obtain⟨k,e,g,i,c,d⟩:=AK6 h;rw[pos,AWB h]at e;have f:xs.findIdx (fun x=>decide (x=t))=k:=by omega
 refine⟨_,_,c,d,?_⟩;rw[C9,f,rot];grind
theorem AEs(xs:List Int)(t:Int):qC (xs,t,())=some (mU xs t):=by
 rw[qB,kS,gb,Z1,mU];simp only[QD];by_cases c:Rt xs;have n:=c.1;simp only[c,AWG,AV6,AYg];have e:A8 I0 many (xs,[],[t],A2 [t],(0:Int),())=some (.inl ([pos xs t],())):=by
  have g:=DS (step:=I0) (fun i (a:List Int)=>(xs,a,[t],A2 [t],(i:Int),())) [t] (fun x a=>.inl (a++[pos xs x])) (fun a=>.inl (a,())) (fun i a=>a.length=i) (by simp)
   (fun i x a hi d f=>by
    refine⟨fun o b => ?_,fun r b=>by cases b⟩
    cases b
    rw[I0,A6,A3,AV2 hi]
    simp only[A' d,Qk xs x (by omega)]
    simp only[AWD,AWK]at hi
    rw[A5 (by omega),Bo (by simp only[A6,AWD,AWK];omega)]
    exact⟨rfl,by simp[f]⟩)
   (fun a _=>by rw[I0,A6,A3,AV1 (by omega)]) [] rfl
  have j:A8 I0 many (xs,[],[t],A2 [t],(0:Int),())=_:=g;rw[j];rfl
 rw[e];simp only[Hb [pos xs t] (-1) (by simp)];by_cases h:t∈xs;have p:xs.findIdx (fun x=>decide (x=t))<xs.length:=AXz.2 ⟨t,h,by simp⟩;rw[pos,AWB h,AWB h,C9];generalize xs.findIdx (fun x=>decide (x=t))=k at *;rw[AV1 (by simp)];have l:idx [(k:Int)] (0:Int)=some (k:Int):=by rw[Ht];rfl
 have m:A9 [(k:Int)] 0 (0:Int)=(k:Int):=rfl;simp only[AWR,AV6,l,m,Yp xs k (by omega) (by omega)];rw[ABl h,AV9 h];simp;grind
def Nn:List Int->Int
 |[]=>0
 |x::xs=>xs.foldl (fun a y=>Cp a y) x
theorem zY:∀ (xs:List Int) (a:Int),(xs.foldl (fun a y=>Cp a y) a)<=a/\(∀ x∈xs,xs.foldl (fun a y=>Cp a y) a<=x)/\(xs.foldl (fun a y=>Cp a y) a=a\/xs.foldl (fun a y=>Cp a y) a∈xs):=by
 intro xs;induction xs with
  |nil=>simp
  |cons x xs b=>
   intro a;rw[AXA];obtain⟨c,d,e⟩:=b (Cp a x);have f:Cp a x<=a/\Cp a x<=x/\(Cp a x=a\/Cp a x=x):=by rw[Cp];omega
   grind
theorem G5{xs:List Int}(h:xs≠[]):Nn xs∈xs/\∀ x∈xs,Nn xs<=x:=by
 cases xs with
  |nil=>grind
  |cons x xs=>obtain⟨b,c,d⟩:=zY xs x;refine⟨?_,fun y a => ?_⟩;rcases d with h|h;rw[Nn,h];simp;exact AXl _ h;rcases AWO.1 a with rfl|a;exact b;exact c y a
theorem AQz{xs:List Int}{m:Int}(a:m∈xs)(b:∀ x∈xs,m<=x):Nn xs=m:=by obtain⟨c,d⟩:=G5 (List.ne_nil_of_mem a);grind
theorem rQ(xs:List Int)(h:xs≠[])(c:xs.length<9223372036854775808):AMH (xs,())=some (Nn xs,()):=by
 cases xs with
  |nil=>grind
  |cons x xs=>
   rw[ACH,yP,A6,BD,AV1 (by grind)];have d:idx (x::xs) (0:Int)=some x:=by rw[Ht];rfl
   simp only[d];simp only[AWD]at c
   have e:=DS (step:=SA) (fun i (a:Int)=>(x::xs,a,((i+1:Nat):Int),())) xs (fun y a=>.inl (Cp a y)) (fun a=>.inl (a,())) (fun _ _=>True) (by omega)
    (fun i y a hi f _=>by
     refine⟨fun j b => ?_,fun r b=>by cases b⟩
     cases b
     rw[SA,A6,A3,AV2 (by grind)]
     simp only[A' (xs:=x::xs) (n:=i+1) (by simpa using f)]
     rw[A5 (by omega)]
     simp)
    (fun a _=>by rw[SA,A6,A3,AV1 (by simp)]) x trivial
   have g:A8 SA many (x::xs,x,(1:Int),())=_:=e;rw[g,B'];rfl
def plain(xs:List Int):List Int:=if Rt xs/\xs≠[]then C9 xs (Nn xs)else []
theorem wE(xs:List Int):kP (xs,())=some (plain xs,()):=by
 rw[gK,Zk,plain];simp only[QD];by_cases a:Rt xs;have d:=a.1;simp only[a,AWG,AV6,AYg];by_cases h:xs=[]
 subst h;simp[A6,Cj];have e:0<xs.length:=List.length_pos_iff.2 h;rw[A6,BB,AV1 (by omega)];have b:=(G5 h).1;have c:xs.findIdx (fun x=>decide (x=Nn xs))<xs.length:=AXz.2 ⟨_,b,by simp⟩;simp only[rQ xs h (by omega),Qk xs _ (show xs.length<9223372036854775808 by omega)];rw[pos,AWB b,AWB (by omega),C9];simp only[Yp xs _ (AX0 c) (by omega)];grind
theorem Zz{xs:List Int}(c:Rt xs)(h:xs≠[]):∃ a b,xs=a++Nn xs::b/\plain xs=Nn xs::b++a:=by obtain⟨a,b,d,_,e⟩:=Zm (G5 h).1;exact⟨a,b,d,by rw[plain,AWB ⟨c,h⟩,e]⟩
end Go.Pev.Pl
end
section
namespace Go.Pev.Pl
open Tok
def TI(n:Int)(xs:List Int):Prop:=∃ L,xs=L.map (Hy n)/\(∀ t∈L,okT n t)/\T L
noncomputable instance (n:Int) (xs:List Int):Decidable (TI n xs):=Classical.propDecidable _
abbrev AA8:=List Int×List (Int×Int)×List (Int×Int)
abbrev ATA:=(Bool×Unit)⊕(List Int×List (Int×Int)×List (Int×Int)×Unit)⊕Unit
def goF(n x:Int)(s:AA8):AA8⊕ATA:=
 match GA n x with
 |none=>.inr (.inl (false,()))
 |some t=>match Tok.step (s.1,B2 s.2.1) t with
  |none=>.inr (.inl (false,()))
  |some a=>match t with
   |.ver v=>.inl (a.1,s.2.1,BG s.2.2 v (w64 (((A_ s.2.2 v).getD (0:Int))+(1:Int))))
   |.arc _ v=>.inl (a.1,if v∈B2 s.2.1 then s.2.1 else BG s.2.1 v 1,s.2.2)
def one(a:List (Int×Int)):Prop:=∀ k,(0<(A_ a k).getD (0:Int))↔k∈B2 a
theorem AFt{a:List (Int×Int)}(h:one a)(v:Int):one (BG a v 1):=by intro k;rw[E1,GF];by_cases e:k=v;simp[e];simp only[e,AWN,false_or];exact h k
theorem AHK(n:Int)(xs:List Int)(i:Nat)(x:Int)(B:xs[i]? = some x)(hi:i<xs.length)(H:xs.length<4294967296)(g:-9223372036854775808<=x/\x<=9223372036854775807)
  (w:Int) (r:List Int) (b met:List (Int×Int)) (I:r.length<4294967295) (k:one b) (d:∀ y∈w::r,y∈B2 b) :
  O9 (n,(w::r).reverse,b,met,xs,A2 xs,(i:Int),())=match goF n x (w::r,b,met)with
   |.inl s=>some (.inl (n,s.1.reverse,s.2.1,s.2.2,xs,A2 xs,((i+1:Nat):Int),()))
   |.inr y=>some (.inr y):=by
 have hd:A2 ((w::r).reverse)=((r.length+1:Nat):Int):=by simp[A6]
 have l:w64 (((r.length+1:Nat):Int)-1)=(r.length:Int):=by rw[Bz (by omega)];rfl
 have m:idx ((w::r).reverse) (r.length:Int)=some w:=by rw[l6];simp
 have o:A9 ((w::r).reverse) (A4 (r.length:Int)) (0:Int)=w:=by rw[IE];simp
 have q:∀ v:Int,fits (A2 ((w::r).reverse)+A2 [v])=true:=fun v=>Bo (by rw[hd,A6];grind);have J:∀ v:Int,BV ((w::r).reverse) [v]=(v::w::r).reverse:=fun v=>by simp[Dy]
 rw[O9,A6,A3,AV2 hi];rw[A6]at hd;simp only[A' B,uz n x g,goF];cases K:GA n x with
  |none=>rfl
  |some t=>
   cases t with
    |ver v=>simp only[vD,AV6,AWR,A6,hd,l,m,o,BB,Tok.step];rw[A5 (by omega)];grind
    |arc u v=>
     simp only[vD,AV6,A6,hd,l,m,o,BB,Tok.step];rw[A5 (by omega)];by_cases h:w=u;subst h;rw[AV2 rfl];simp only[AV6];cases r with
      |nil=>
       have z:ilt (0:Int) ((([]:List Int).length:Nat):Int)=false:=by rw[BD];rfl
       simp only[z];rw[BD];have c:=k v;by_cases e:v∈B2 b;grind;rw[AV1 (fun h=>e (c.1 h))];have f:=q v;rw[A6,hd]at f;have C:(A_ b v).getD (0:Int)=0:=by rw[(Wj b v).2 e];rfl
       have D:w64 ((0:Int)+1)=1:=by rw[BE (by omega)];rfl
       rw[A6]at f;grind
      |cons p r=>
       have z:ilt (0:Int) (((p::r).length:Nat):Int)=true:=by rw[BD,AV2 (by simp)]
       have E:w64 ((((p::r).length:Nat):Int)-1)=(r.length:Int):=by rw[Bz (by grind)];rfl
       have F:idx ((w::p::r).reverse) (r.length:Int)=some p:=by rw[l6];simp
       have G:A9 ((w::p::r).reverse) (A4 (r.length:Int)) (0:Int)=p:=by rw[IE];simp
       simp only[z,E,F,G];by_cases j:p=v;subst j;rw[AV2 rfl];have A:p∈B2 b:=d p (by simp);have L:Ci ((w::p::r).reverse) (0:Int) (((p::r).length:Nat):Int)=some ((p::r).reverse):=by rw[Tn (by simp)];grind
       have M:C5 (A4 (((p::r).reverse.length:Nat):Int)) ((w::p::r).reverse)=(p::r).reverse:=by rw[C5,OD,List.reverse_cons (a:=w),List.take_left' rfl]
       grind;rw[AV1 j];simp only[j,AWN];rw[BD];have c:=k v;by_cases e:v∈B2 b;grind;rw[AV1 (fun h=>e (c.1 h))];have f:=q v;rw[A6,hd]at f;have C:(A_ b v).getD (0:Int)=0:=by rw[(Wj b v).2 e];rfl
       have D:w64 ((0:Int)+1)=1:=by rw[BE (by omega)];rfl
       rw[A6]at f;grind
     grind
end Go.Pev.Pl
end
section
namespace Go.Pev.Pl
open Tok
theorem HW{a b:List Int}(c:a.Nodup)(h:∀ x∈a,x∈b):a.length<=b.length:=by
 induction a generalizing b with
  |nil=>simp
  |cons x a d=>
   obtain⟨e,f,rfl⟩:=AYJ (h x (by simp));rw[AWz]at c;have:=d (b:=e++f) c.2 fun y g=>by grind
   grind
theorem lH{a b:List Int}(c:a.Nodup)(h:∀ x∈a,x∈b)(e:b.length<=a.length):∀ x∈b,x∈a:=by
 intro x f;refine AX9 fun d => ?_;have:=HW (a:=x::a) (b:=b) (AWz.2 ⟨d,c⟩) fun y g=>by grind
 grind
theorem ZA{a c c2:List Int}(h:∀ x,x∈c↔x∈c2)(t:Tok):
  (Tok.step (a,c) t=none↔Tok.step (a,c2) t=none)/\∀ i j,Tok.step (a,c) t=some (i,j)->∃ f,Tok.step (a,c2) t=some (i,f)/\∀ x,x∈j↔x∈f:=by
 cases t with
  |ver v=>
   cases a with
    |nil=>simp[Tok.step]
    |cons w r=>by_cases e:w=v;simp only[Tok.step,e,AWf];grind;simp[Tok.step,e]
  |arc u v=>
   cases a with
    |nil=>simp[Tok.step]
    |cons w r=>
     by_cases e:w=u;cases r with
      |nil=>by_cases b:v∈c;simp[Tok.step,e,b,(h v).1 b];have d:v∉c2:=fun q=>b ((h v).2 q);simp only[Tok.step,e,AWf,b,d,AWN];grind
      |cons p r=>by_cases g:p=v;simp only[Tok.step,e,AWf,g];grind;by_cases b:v∈c;simp[Tok.step,e,g,b,(h v).1 b];have d:v∉c2:=fun q=>b ((h v).2 q);simp only[Tok.step,e,AWf,g,b,d,AWN];grind
     simp[Tok.step,e]
structure GI(s:AA8):Prop where
 ne:s.1≠[]
 one:one s.2.1
 sub:∀ y∈s.1,y∈B2 s.2.1
 nc:(B2 s.2.1).Nodup
 nm:(B2 s.2.2).Nodup
theorem ACd{n x:Int}{s a:AA8}(hi:GI s)(h:goF n x s = .inl a):
  GI a/\a.1.length<=s.1.length+1/\∃ t d,GA n x=some t/\Tok.step (s.1,B2 s.2.1) t=some (a.1,d)/\(∀ x,x∈d↔x∈B2 a.2.1)/\(∀ y,y∈B2 a.2.2↔y∈B2 s.2.2\/Tok.ver y=t):=by
 rw[goF]at h;cases i:GA n x with
  |none=>grind
  |some t=>
   rw[i]at h;simp only at h;cases b:Tok.step (s.1,B2 s.2.1) t with
    |none=>grind
    |some q=>
     obtain⟨k,d⟩:=q;rw[b]at h;rcases Gt b with⟨v,r,rfl,c,e⟩|⟨u,v,r,rfl,c,e⟩|⟨u,v,r,rfl,c,l,g,e⟩
     cases h;cases e;refine⟨⟨hi.ne,hi.one,hi.sub,hi.nc,K7 hi.nm _ _⟩,by simp,_,_,rfl,b,fun x=>Iff.rfl,fun y => ?_⟩;rw[GF];grind;cases h;cases e;simp only at c;have j:v∈B2 s.2.1:=hi.sub v (by grind);simp only[j,AWf];refine⟨⟨by simp,hi.one,fun y f=>hi.sub y (by grind),hi.nc,hi.nm⟩,by grind,_,_,rfl,b,fun x=>Iff.rfl,fun y=>by simp⟩;cases h;cases e;simp only at c g;simp only[g,AWN];refine⟨⟨by simp,AFt hi.one v,fun y f => ?_,K7 hi.nc _ _,hi.nm⟩,by grind,_,_,rfl,b,fun x => ?_,fun y=>by simp⟩;rw[GF];rcases AWO.1 f with rfl|f;omega;exact .inr (hi.sub y (by grind));rw[GF,AWO]
def sJ(s:AA8):ATA:=.inr (.inl (s.1.reverse,s.2.1,s.2.2,()))
theorem AHI(n:Int):∀ (xs:List Int) (s:AA8) (c:List Int),GI s->(∀ x,x∈c↔x∈B2 s.2.1) ->
  (∃ L d c',xs=L.map (Hy n)/\(∀ t∈L,okT n t)/\run (s.1,c) L=some (d.1,c')/\walk (goF n) sJ xs s=sJ d/\GI d/\(∀ x,x∈c'↔x∈B2 d.2.1)/\(∀ x,x∈B2 d.2.2↔x∈B2 s.2.2\/Tok.ver x∈L)) \/
  (walk (goF n) sJ xs s = .inl (false,())/\∀ L,xs=L.map (Hy n)->(∀ t∈L,okT n t)->run (s.1,c) L=none):=by
 intro xs;induction xs with
  |nil=>intro s c hi i;exact .inl ⟨[],s,c,rfl,by simp,rfl,rfl,hi,i,by simp⟩
  |cons x xs q=>
   intro s c hi i;rw[walk];have u:∀ {t},GA n x=some t->Tok.step (s.1,B2 s.2.1) t=none->∀ L,x::xs=L.map (Hy n)->(∀ t∈L,okT n t)->run (s.1,c) L=none:=by
    intro t e k L b a;cases L with
     |nil=>cases b
     |cons t' L=>simp only[AWW,AWc]at b;have f:=Gr (a t' (by simp));rw[<- b.1,e]at f;cases f;rw[CR,((ZA i t).1).2 k];rfl
   cases j:goF n x s with
    |inr r=>
     simp only;have D:r = .inl (false,())/\∀ L,x::xs=L.map (Hy n)->(∀ t∈L,okT n t)->run (s.1,c) L=none:=by
      rw[goF]at j;cases e:GA n x with
       |none=>
        rw[e]at j;cases j;refine⟨rfl,fun L b a => ?_⟩;cases L with
         |nil=>cases b
         |cons t' L=>simp only[AWW,AWc]at b;have f:=Gr (a t' (by simp));grind
       |some t=>grind
     grind
    |inl d=>
     simp only;obtain⟨l,_,t,E,e,k,m,F⟩:=ACd hi j;obtain⟨o,g,h⟩:=(ZA (c:=B2 s.2.1) (c2:=c) (fun x=>(i x).symm) t).2 _ _ k;obtain⟨G,H⟩:=AHi e;rcases q d o l (fun x=>(h x).symm.trans (m x))with⟨L,v,c2,p,w,z,A,B,C,I⟩|⟨p,w⟩
     ·refine .inl ⟨t::L,v,c2,by grind,?_,by rw[CR,g];exact z,A,B,C,fun y => ?_⟩;all_goals grind
     refine .inr ⟨p,fun L b a => ?_⟩;cases L with
      |nil=>cases b
      |cons t' L=>simp only[AWW,AWc]at b;have f:=Gr (a t' (by simp));rw[<- b.1,e]at f;cases f;rw[CR,g];grind
theorem wA:∀ {l:List Tok} {s a:List Int×List Int},run s l=some a->a.1.getLast? = s.1.getLast? := by
 intro l;induction l with
  |nil=>intro s a h;cases h;rfl
  |cons t l c=>
   intro s a h;rw[CR,AXR]at h;obtain⟨f,d,e⟩:=h;rw[c e];rcases Gt d with⟨v,r,rfl,b,rfl⟩|⟨u,v,r,rfl,b,rfl⟩|⟨u,v,r,rfl,b,g,i,rfl⟩
   all_goals grind
theorem AKU:∀ {l:List Tok} {s a:List Int×List Int},run s l=some a->Tok.Inv s->∀ x,Tok.ver x∈l->x∈a.2:=by
 intro l;induction l with
  |nil=>simp
  |cons t l g=>intro s a h hi x b;rw[CR,AXR]at h;obtain⟨i,e,f⟩:=h;obtain⟨c,j,d⟩:=Y' e hi;rcases AWO.1 b with rfl|b;have:=(kN f c).2.1;refine this x (c.2 x ?_);simp only[st]at d;exact List.mem_of_head? d;grind
theorem AGT{n:Int}{L:List Tok}(h:(L.map (Hy n)).Nodup):L.Nodup:=by rw[List.Nodup,AXW]at h;exact h.imp fun h e=>h (by rw[e])
theorem AC5{n x:Int}{xs:List Int}(h:TI n (x::xs))(g:Nn (x::xs)=x):In n x:=by
 obtain⟨L,a,d,i⟩:=h;obtain⟨v,r,j⟩:=i.tR;have f:Tok.ver v∈L:=(j.mem _).2 (by simp);have b:v∈x::xs:=by rw[a];exact AWV.2 ⟨_,f,rfl⟩
 have k:=(G5 (xs:=x::xs) (by simp)).2 v b;rw[g]at k;have l:=(d _ f).2.2.2;cases L with
  |nil=>cases a
  |cons t L=>
   simp only[AWW,AWc]at a;have c:=d t (by simp);cases t with
    |ver w=>rw[a.1];exact c
    |arc p q=>have:=(YP c.1 c.2.1).1;have e:x=n*(p+1)+q:=a.1;omega
theorem ANI(n:Int)(xs:List Int)(h0:xs≠[])(hs:xs.length<2147483648)(hr:∀ x∈xs, -9223372036854775808<=x/\x<=9223372036854775807)(hn:xs.Nodup)(hm:∀ x,xs.head? = some x->Nn xs=x):
  goes (n,xs,())=some (decide (TI n xs),()):=by
 cases xs with
  |nil=>grind
  |cons d g=>
   rw[ACc,zN];have i0:idx (d::g) (0:Int)=some d:=by rw[Ht];rfl
   simp only[i0,Xs];by_cases j:In n d;rw[AV2 j];simp only[AV6];have W:GI ([d],BG [] d 1,[]):=by
    refine⟨by simp,fun k => ?_,fun y X => ?_,?_,by simp[B2]⟩;have:A_ (BG ([]:List (Int×Int)) d 1) k=if k=d then some 1 else none:=by rw[E1];rfl
    rw[this];by_cases e:k=d<;>simp[e,BG,B2];simp at X;subst X;simp[BG,B2];simp[BG,B2]
   have e:=DS (step:=O9) (fun i (s:AA8)=>(n,s.1.reverse,s.2.1,s.2.2,d::g,A2 (d::g),(i:Int),())) (d::g) (goF n) sJ (fun i s=>GI s/\s.1.length<=i+1) (by omega)
    (fun i x s hi o ⟨E,Y⟩=>by
     obtain⟨H,z,I⟩:=s
     cases H with
     |nil=>exact absurd rfl E.ne
     |cons w r=>
      have J:=AHK n (d::g) i x o hi (by omega) (hr x (AWA o)) w r z I (by grind) E.one E.sub
      refine⟨fun f M => ?_,fun y M => ?_⟩
      ·rw[M]at J
       obtain⟨g1,g2,_⟩:=ACd E M
       grind
      grind)
    (fun s _=>by rw[O9,A6,A3,AV1 (by omega)];rfl) ([d],BG [] d 1,[]) ⟨W,by simp⟩
   have e':A8 O9 many (n,[d],BG [] d 1,[],d::g,A2 (d::g),(0:Int),())=_:=e;rw[e'];have N:B2 (BG ([]:List (Int×Int)) d 1)=[d]:=rfl;rcases AHI n (d::g) ([d],BG [] d 1,[]) [d] W (fun x=>by rw[N])with⟨L,f,c',q,O,C,a4,P,Z,F⟩|⟨q,O⟩
   rw[a4];obtain⟨t,p,rfl⟩:∃ t p,L=t::p:=by cases L with
    |nil=>cases q
    |cons t p=>simp
   have D:t = .ver d:=by have u:=Gr (O t (by simp));simp only[AWW,AWc]at q;rw[<- q.1,GA,AWB j]at u;grind
   subst D;have Q:(Tok.ver d::p).Nodup:=AGT (n:=n) (by grind);have l:=wA C;have hvs:=AKU C (YZ d);have hk:(B2 f.2.2).length<=(B2 f.2.1).length:=HW P.nm fun x o=>by have:=(F x).1 o;simp only[B2,AXS,AYs,false_or]at this;grind
   have m:(f.1.length=1/\(B2 f.2.2).length=(B2 f.2.1).length)↔TI n (d::g):=by
    constructor;rintro⟨R,l2⟩;obtain⟨w,hw⟩:=List.length_eq_one_iff.1 R;rw[hw]at l C;simp at l;subst l;refine⟨_,q,O,Tok.BS.toT ⟨w,p,c',rfl,C,fun x o => ?_⟩ Q⟩;have u:=lH P.nm (fun x o=>by have:=(F x).1 o;simp only[B2,AXS,AYs,false_or]at this;grind) (by omega) x ((Z x).1 o)
    have:=(F x).1 u;simpa [B2]using this;rintro⟨K,v,k2,S⟩;have T:K=Tok.ver d::p:=by
     have:∀ (A B:List Tok),A.map (Hy n)=B.map (Hy n)->(∀ t∈A,okT n t)->(∀ t∈B,okT n t)->A=B:=by
      intro A;induction A with
       |nil=>simp
       |cons a A ih=>
        intro B h hA hB;cases B with
         |nil=>cases h
         |cons b B=>simp only[AWW,AWc]at h;rw[S1 (hA a (by simp)) (hB b (by simp)) h.1,ih B h.2 (fun t D=>hA t (by simp[D])) fun t D=>hB t (by simp[D])]
     grind
    subst T;obtain⟨r,l',c,U,G,q3⟩:=S.jx;cases U;rw[C]at G;cases V:f.1 with
     |nil=>grind
     |cons w r'=>rw[V]at G;cases G;refine⟨rfl,?_⟩;have:=HW P.nc (b:=B2 f.2.2) fun x o=>(F x).2 (.inr (q3 x ((Z x).2 o)));omega
   simp only[sJ,BB,A6,List.length_reverse];rw[UO,UO]at m;by_cases R:f.1.length=1;rw[AV2 (show(f.1.length:Int)=1 by omega)];simp only[R,AYg]at m;by_cases l2:f.2.2.length=f.2.1.length;grind;rw[AV1 (show ¬ (f.2.2.length:Int)=(f.2.1.length:Int) by omega),AV1 (fun h=>l2 (m.2 h))];grind;rw[q];have:¬ TI n (d::g):=by
    rintro⟨K,v,k2,S⟩;obtain⟨r,l',c,U,G,q3⟩:Tok.BS K:=by
     obtain⟨t,p,rfl⟩:∃ t p,K=t::p:=by cases K with
      |nil=>cases v
      |cons t p=>simp
     have u:=Gr (k2 t (by simp));simp only[AWW,AWc]at v;rw[<- v.1,GA,AWB j]at u;cases u;exact S.jx
    have hr0:r=d:=by subst U;simp only[AWW,AWc]at v;exact v.1.symm
    grind
   grind;rw[AV1 j];have:¬ TI n (d::g):=fun h=>j (AC5 h (hm d rfl));grind
end Go.Pev.Pl
end
end
section
namespace Go.Pev.Pl.Tok
theorem T.join{u v:Int}{a b:List Tok}(e:T (.ver u::a))(f:T (.ver v::b))(hd:∀ x,Tok.ver x∈Tok.ver u::a->Tok.ver x∉Tok.ver v::b):
  T (.ver u :: .arc u v::(.ver v::b ++ .arc v u::a)):=by
 obtain⟨_,g,c⟩:=e.facts;obtain⟨_,i,d⟩:=f.facts;have o:=e.nodup;have H:=f.nodup;obtain⟨_,_,I,q,l,J⟩:=e.jx;cases q;obtain⟨_,_,c2,r,s,z⟩:=f.jx;cases r;have A:u≠v:=by grind
 have j:∀ t,t∈Tok.ver u::a->t∉Tok.ver v::b:=fun t B C=>hd _ (g t B) (i t C);have K:Tok.arc u v∉Tok.ver u::a:=fun h=>hd v (c _ _ h).2.1 (by simp);have L:Tok.arc u v∉Tok.ver v::b:=fun h=>hd u (by simp) (d _ _ h).1;have M:Tok.arc v u∉Tok.ver u::a:=fun h=>hd v (c _ _ h).1 (by simp);have N:Tok.arc v u∉Tok.ver v::b:=fun h=>hd u (by simp) (d _ _ h).2.1;have k:(Tok.ver u :: .arc u v::(.ver v::b ++ .arc v u::a)).Nodup:=by rw[AWz]at o;have O:Tok.ver u∉Tok.ver v::b:=j _ (by simp);rw[AWz,AWz,List.nodup_append,AWz (a:=Tok.arc v u)];grind
 rw[CR,Hl,AWq]at l;obtain⟨D,m,E⟩:=Iy (Z:=(· = u)) (c2:=[v,u]) (low:=[u]) s (by simp) (fun y=>by simp) (fun p w n=>by grind) (by simp)
 obtain⟨F,P,Q⟩:=Iy (Z:=(·∈c2)) (c2:=D) (low:=[]) l (by simp) (fun y=>by rw[E];simp[or_comm]) (fun p w n G=>hd w (c _ _ (AXl _ n)).2.1 (z w G)) (by simp)
 refine BS.toT ⟨u,_,F,rfl,?_,fun x R => ?_⟩ k;rw[CR,Hl,AWq,CR,Iu _ _ _ _ (by simp) (by grind),AWq,JG];rw[show([v]++[u]:List Int)=[v,u]from rfl]at m;rw[m,AWq,CR,Kx,AWq];grind;grind
end Go.Pev.Pl.Tok
end
section
namespace Go.Pev
open Go.RowKit Go.ChangeShapes Go.WideShapes Go.ChangeAt
def QI(P:Program)(rd:TypeId->Option Ty):List Field->Nat->Option Ty
 |[],_=>some .unit
 |f::r,off=>match rd f.type,QI P rd r (off+P.cellsOf f.type)with
  |some a,some b=>match Nat.beq f.offset off&&Nat.beq (P.cellsOf f.type) a.size with
   |true=>some (.prod a b)
   |false=>none
  |_,_=>none
def Gy(P:Program):Nat->TypeId->Option Ty
 |0,_=>none
 |n+1,t=>match P.underlying t with
  |some .bool=>some .bool
  |some (.int k)=>some (.int k)
  |some (.slice e)=>match Gy P n e with
   |some a=>match Nat.beq (P.cellsOf e) a.size && !(Nat.beq a.size 0)with
    |true=>some (.slice a)
    |false=>none
   |none=>none
  |some (.array c e)=>match Gy P n e with
   |some a=>match Nat.beq (P.cellsOf e) a.size&&Nat.beq (P.cellsOf t) (c*a.size)with
    |true=>some (.arr c a)
    |false=>none
   |none=>none
  |some (.struct fs)=>match QI P (Gy P n) fs.toList 0 with
   |some a=>match Nat.beq (P.cellsOf t) a.size with
    |true=>some a
    |false=>none
   |none=>none
  |_=>none
def wfD:(t:Ty)->t.den->Prop
 |.unit,_=>True
 |.bool,_=>True
 |.int k,n=>k.min<=n/\n<=k.max
 |.slice e,xs=>List.length (α:=e.den) xs<=maxLen/\∀ x∈(xs:List e.den),wfD e x
 |.prod a b,d=>wfD a d.1/\wfD b d.2
 |.arr n e,xs=>List.length (α:=e.den) xs=n/\∀ x∈(xs:List e.den),wfD e x
 |.nul _,_=>True
 |.mapi _ _,_=>True
section
variable {H:Type} {enc:TypeId×Value->H} {P:Program} {w:World} {spare:Nat->Bool} {held:Bool}
abbrev below(w:World):Nat->Prop:=fun b=>b<w.heap.size
theorem ATB{k:IntKind}{n:Int}(h:(Lit.int k n).wf=true):k.min<=n/\n<=k.max:=by simpa [Lit.wf]using h
theorem ABe{α:Type}{R:α->List Value->Prop}{k:Nat}:∀ (m:Nat) (f:Nat->List Value),(∀ i,i<m->(f i).length=k/\∃ x,R x (f i))->∃ xs:List α,xs.length=m/\rows R xs ((List.range m).flatMap f)/\∀ x∈xs,∃ i,i<m/\R x (f i):=by
 intro m;induction m with
  |zero=>intro f _;exact⟨[],rfl,rfl,fun x a=>by cases a⟩
  |succ m b=>intro f h;obtain⟨xs,c,d,e⟩:=b f fun i hi=>h i (by omega);obtain⟨_,x,a⟩:=h m (by omega);refine⟨xs++[x],by simp[c],?_,fun y g => ?_⟩;rw[AWX,AW5];exact JI d (by simp;exact⟨f m,[],by simp,a,rfl⟩);grind
theorem ANc{f:Nat->List Value}{k:Nat}:∀ (m:Nat),(∀ i,i<m->(f i).length=k)->∀ (j:Nat) (u:Value),((List.range m).flatMap f)[j]? = some u->∃ i r,i<m/\r<k/\j=i*k+r/\(f i)[r]? = some u:=by
 intro m;induction m with
  |zero=>simp
  |succ m d=>
   intro e j u h;rw[AWX,AW5]at h;have b:∀ a,a<=m->((List.range a).flatMap f).length=a*k:=by
    intro a g;induction a with
     |zero=>simp
     |succ a c=>rw[AWX,AW5,AWF,c (by omega)];grind
   rcases AX1 j (m*k)with l|l;rw[AXs (by grind)]at h;obtain⟨i,r,n,o,p,q⟩:=d (fun i hi=>e i (by omega)) j u h;grind;rw[AWm (by grind),b m (AV8 _)]at h;grind
theorem AOv(a:Addr)(i j:Nat):(a.add i).add j=a.add (i+j):=by unfold Addr.add;grind
theorem AAi{α:Type}[Inhabited α]{n:Nat}{p:Nat->α->Prop}(h:∀ i,i<n->∃ x,p i x):∃ f:Nat->α,∀ i,i<n->p i (f i):=by classical refine⟨fun i=>if hi:i<n then Classical.choose (h i hi)else default,fun i hi => ?_⟩;grind
theorem wh{rd:TypeId->Option Ty}{cs:List Value}(i:∀ (f:Field) (a:Ty),rd f.type=some a->(P.cellsOf f.type=a.size)->(∃ y:Nat×(DataW H×List MemPlace),DataW.trod enc P w 0 spare held y.1 f.type ((cs.drop f.offset).take (P.cellsOf f.type))=some y.2)->∃ d:a.den,Dat w (below w) a d ((cs.drop f.offset).take (P.cellsOf f.type))/\wfD a d):
  ∀ (c:List Field) (off:Nat) (t:Ty),QI P rd c off=some t->off+t.size=cs.length->(∀ f∈c,∃ y:Nat×(DataW H×List MemPlace),DataW.trod enc P w 0 spare held y.1 f.type ((cs.drop f.offset).take (P.cellsOf f.type))=some y.2) ->
   ∃ d:t.den,Dat w (below w) t d (cs.drop off)/\wfD t d:=by
 intro c;induction c with
  |nil=>
   intro off t h j _;simp only[QI,AV3]at h;subst h;refine⟨(),?_,trivial⟩;show cs.drop off=[]
   simp[Ty.size]at j;grind
  |cons f r n=>intro off t h j m;simp only[QI]at h;split at h;rename_i a b o p;split at h;rename_i k;simp only[AV3]at h;subst h;simp only[AV5]at k;have x:=AWi k.1;have q:=AWi k.2;obtain⟨d,hd,s⟩:=i f a o q (m f (by simp));simp only[Ty.size]at j;obtain⟨e,u,l⟩:=n (off+P.cellsOf f.type) b p (by omega) fun g v=>m g (by simp[v]);refine⟨(d,e),⟨(cs.drop off).take (P.cellsOf f.type),cs.drop (off+P.cellsOf f.type),?_,?_,u⟩,s,l⟩;rw[<- AXU,AXC];grind;grind;grind
theorem AJQ:∀ (n:Nat) (t:TypeId) (ty:Ty) (l:Nat) (cs:List Value) (x:DataW H×List MemPlace),Gy P n t=some ty->DataW.trod enc P w 0 spare held l t cs=some x->∃ d:ty.den,Dat w (below w) ty d cs/\wfD ty d:=by
 intro n;induction n with
  |zero=>intro t ty l cs x h;cases h
  |succ n ih=>
   intro t ty l cs x h g;simp only[Gy]at h;split at h;rename_i o;simp only[AV3]at h;subst h;obtain⟨b,rfl,_⟩:=DataW.trod_bool o g;exact⟨b,rfl,trivial⟩;rename_i k o;simp only[AV3]at h;subst h;obtain⟨m,rfl,_,V⟩:=DataW.trod_int o g;exact⟨m,rfl,ATB V⟩;rename_i e o;split at h;rename_i a J;split at h;rename_i q;simp only[AV3]at h;subst h;rw[AV5]at q;have W:a.size≠0:=fun h0=>by simp_all
   have q:=AWi q.1;rcases DataW.trod_slice o g with⟨rfl,_⟩|⟨ad,len,cap,K,X,m,rfl,rfl,_,_,hle,Y,Z,L,_⟩
   exact⟨[],⟨none,0,rfl,AV8 _,fun D=>absurd rfl D⟩,AXV _,fun x g=>by cases g⟩;-- z element
   have z:∀ i,i<len->∃ s,w.cells? 0 (ad.add (i*P.cellsOf e)) (P.cellsOf e)=some s/\∃ d:a.den,Dat w (below w) a d s/\wfD a d:=by intro i hi;have v:=L i hi;rw[AWC (by omega),AXR]at v;grind
   obtain⟨f,C⟩:=AAi (α:=List Value) (p:=fun i s=>w.cells? 0 (ad.add (i*P.cellsOf e)) (P.cellsOf e)=some s/\∃ d:a.den,Dat w (below w) a d s/\wfD a d) z;have E:∀ i,i<len->(f i).length=a.size:=by intro i hi;obtain⟨_,G,_⟩:=World.cells?_some (C i hi).1;omega
   obtain⟨xs,v,I,h3⟩:=ABe (R:=fun(d:a.den) cs=>Dat w (below w) a d cs/\wfD a d) (k:=a.size) len f fun i hi=>⟨E i hi,(C i hi).2⟩
   refine⟨xs,⟨some ad,cap,by rw[v],by omega,fun D=>⟨ad,(List.range len).flatMap f,rfl,?_,B7 (fun x _ cs g=>g.1) I,fun j u o => ?_⟩⟩,by omega,fun x g => ?_⟩;-- the block is there
   have M:0<len:=by grind
   have N:=World.cells?_block (C 0 M).1 (by omega);rw[AXt]at N;have e0:ad.add 0=ad:=by simp[Addr.add]
   grind;obtain⟨i,r,hi,hr,rfl,O⟩:=ANc len E j u o;obtain⟨_,_,A⟩:=World.cells?_some (C i hi).1;have:=A r (by omega);rw[O]at this;rw[<- this,q,AOv];grind;grind;grind;rename_i c e o;split at h;rename_i a J;split at h;rename_i q;simp only[AV3]at h;subst h;rw[AV5]at q;have hc1:=AWi q.1;have Q:=AWi q.2;obtain⟨xs,m,rfl,_,G,S,F⟩:=DataW.trod_array o g;rw[Q]at G;obtain⟨ys,v,I,h3⟩:=ABe (R:=fun(d:a.den) cs=>Dat w (below w) a d cs/\wfD a d) (k:=a.size) c (fun i=>(cs.drop (i*a.size)).take a.size) fun i hi=>by
    have hi1:i*a.size+a.size<=c*a.size:=by have:=AWn a.size (show i+1<=c from hi);grind
    grind
   have B:∀ k,k<=c->(List.range k).flatMap (fun i=>(cs.drop (i*a.size)).take a.size)=cs.take (k*a.size):=by
    intro k;induction k with
     |zero=>simp
     |succ k T=>intro hk;rw[AWX,AW5,T (by omega),AXO,AYA,List.take_add];simp
   rw[B c (AV8 _),<- G,AWT]at I;exact⟨ys,⟨v,B7 (fun x _ cs g=>g.1) I⟩,v,fun x g=>by grind⟩;grind;grind;rename_i fs o;split at h;rename_i a J;split at h;rename_i q;simp only[AV3]at h;subst h;have q:=AWi q;obtain⟨xs,m,rfl,_,G,S,F⟩:=DataW.trod_struct o g;obtain⟨d,hd,V⟩:=wh (enc:=enc) (w:=w) (spare:=spare) (held:=held) (cs:=cs) (fun f b N _ ⟨y,hy⟩=>ih f.type b y.1 _ y.2 N hy) fs.toList 0 _ J (by omega) (fun f C=>by
    obtain⟨i,hi⟩:=AXw C;have v:=F i f (by grind);have U:i<xs.length:=by grind
    rw[AWC U]at v;exact⟨(m,xs[i]),v⟩)
   grind;grind;grind;grind
theorem yK{r:Reach}{c:Nat}{t:TypeId}{v:Value}(a:Value.okWide P w r c t v)(e:∀ d,P.underlying t=some d->(match d with|.bool|.int _|.slice _=>true|_=>false)=true){ty:Ty}{n:Nat}(h:Gy P (n+1) t=some ty):v.cells.toList=[v]:=by
 simp only[Value.okWide]at a;have b:∃ d,P.underlying t=some d:=by
  cases b:P.underlying t with
   |none=>simp only[Gy,b]at h;cases h
   |some d=>simp
 obtain⟨d,b⟩:=b;have:=e d b;rw[b]at a;cases d<;>simp only[AWM]at this<;>simp only[Cell.okWide,b]at a<;>cases v<;>first|rfl|(simp_all [Cell.ok])
theorem Yv{r:Reach}{u:Nat}{t:TypeId}{v:Value}{x:List MemPlace}{dd:DataW H}(b:Value.okWide P w r u t v)(hd:DataW.Trod enc P w 0 spare held t v dd x){ty:Ty}{n:Nat}(h:Gy P (n+1) t=some ty):
  ∃ d:ty.den,Ce w (below w) ty d v/\wfD ty d:=by
 obtain⟨l,y⟩:=hd;obtain⟨d,p,z⟩:=AJQ (n+1) t ty l _ _ h y;refine⟨d,?_,z⟩;have one:(∀ d,P.underlying t=some d->(match d with|.bool|.int _|.slice _=>true|_=>false)=true)->ty.isAgg=false->Ce w (below w) ty d v:=by intro A q;unfold Ce;rw[q];rw[yK b A h]at p;exact p
 have m:(∃ cs,v = .agg cs)->ty.isAgg=true->Ce w (below w) ty d v:=by rintro⟨cs,rfl⟩ q;unfold Ce;rw[q];exact⟨cs,rfl,p⟩
 have j:∃ d,P.underlying t=some d:=by
  cases j:P.underlying t with
   |none=>simp only[Gy,j]at h;cases h
   |some d=>simp
 obtain⟨C,j⟩:=j;simp only[Gy,j]at h;split at h;rename_i g;cases g;simp only[AV3]at h;subst h;exact one (fun d hd=>by grind) rfl;rename_i k g;cases g;simp only[AV3]at h;subst h;exact one (fun d hd=>by grind) rfl;rename_i e g;cases g;split at h;split at h;simp only[AV3]at h;subst h;exact one (fun d hd=>by grind) rfl;grind;grind;rename_i c e g;cases g;have s:∃ cs,v = .agg cs:=by simp only[Value.okWide,j]at b;grind
 split at h;split at h;simp only[AV3]at h;subst h;exact m s rfl;grind;grind;rename_i B g;cases g;have s:∃ cs,v = .agg cs:=by simp only[Value.okWide,j]at b;grind
 split at h;rename_i a i;split at h;simp only[AV3]at h;subst h;refine m s ?_;cases o:B.toList with
  |nil=>rw[o]at i;simp only[QI,AV3]at i;subst i;rfl
  |cons f r=>rw[o]at i;simp only[QI]at i;split at i;split at i;simp only[AV3]at i;subst i;rfl;grind;grind
 grind;grind;grind
theorem ew{g:FuncId}{s:Spec}(n:BW P g s){args:List AV}{b:Bool}{e:Eff}(d:s (AV×Eff) args [] [] 0 (fun v e=>some (v,e))=some (.data .bool b,e)){a:List Value}
  (q:BF w (below w) (fun _=>none) [] args a) (f:AI2 w (below w):=by intro p h;simp[mP]at h):Calls P g a.toArray w fun l w'=>l = .returned (.bool b)/\Below w.heap.size w w':=by
 obtain⟨v,z,m,_,_,r⟩:=n _ args [] [] 0 _ _ d;simp only[AV3,AWI]at m;obtain⟨rfl,rfl⟩:=m;have hi:HI w (below w) (fun _=>none) [] []:=⟨fun id o h=>by simp at h,fun i T e t xs ver out h=>by simp at h,fun i T e t xs ver out h=>by simp at h,fun i j b c b' c' _ _ _ h=>(nomatch h),fun i b c _ h=>(nomatch h),fun i T t xs b c h=>by simp at h,fun b h=>h,f,rfl⟩
 refine(r w _ _ a hi q).mono ?_;rintro l w' ⟨u,rfl,A,B,⟨k,_⟩,x⟩;have y:u = .bool b:=Ds x;subst y;exact⟨rfl,k.os,k.tape,k.output,k.size,fun i hi=>k.keep i hi fun j c _ h=>by cases h⟩
end
section
variable {H:Type} {enc:TypeId×Value->H} {P:Program}
theorem dZ{f:Func}{s:ChangeSpec}{c k d l:Bool}{W n:World}{args:Array Value}{v:Value}{ds o:List (DataW H)}{a pa pv:List MemPlace}
  (w:DataW.Whole enc P f.params.toList s.vars c W args.toList ds o a)
  (h:∀ (b:Nat) (m:Nat->Bool) (hd:Bool),DataW.TrodAll enc P n b m hd f.resultTypes.toList (v.resultList f.resultTypes.size) (s.fn H (ds++o)).results [])
  (e:∀ m:Nat->Bool,(∀ p∈a,m p.block=true)->DataW.TrodAll enc P n 0 m true f.params.toList args.toList (s.fn H (ds++o)).args pa)
  (g:∀ m:Nat->Bool,(∀ p∈a,m p.block=true)->DataW.TrodVars enc P n m s.vars (s.fn H (ds++o)).vars pv)
  (A:a=pa++pv) (z:Below W.heap.size W n)
  (x:∀ (j:Nat) (t:TypeId) (r:Value),f.resultTypes[j]? = some t->(v.resultList f.resultTypes.size)[j]? = some r->Value.okWide P n .any 0 t r) :
  s.post enc P f c k d l W args v n:=by
 have y:∀ p∈a,p.block<W.heap.size:=fun p q=>w.lt p q;have i:∀ p∈a,(fun b=>decide (b<W.heap.size)) p.block=true:=fun p q=>by grind
 refine⟨ds,o,a,[],pa,pv,w,h _ _ _,e _ i,g _ i,World.keptBut_mono (fun p q=>⟨q,?_⟩) (z.frame (·∈a)),fun _ => ?_⟩
 grind
 ·obtain⟨_,_,_,_,_,B,C⟩:=w;refine⟨x,_,_,([]++pa)++pv,⟨[]++pa,pv,trodAll_append (e _ (fun _ _=>rfl)) (h _ _ _),g _ (fun _ _=>rfl),rfl,?_,?_⟩,?_⟩;intro b off q;have u:MemPlace.cell b off∈a:=by grind
  rw[z.frozen (y _ u)];exact B b off u;all_goals grind
theorem Py{t:TypeId}(f:laidOutB P=true)(g:P.readableRec t=true)(a:t<P.types.size){W e:World}{v:Value}{d:DataW H}{b:List MemPlace}
  (h:DataW.Trod enc P W 0 (fun _=>true) true t v d b) (i:Below W.heap.size W e) (c:∀ x∈b,x.block<W.heap.size) {sp:Nat->Bool} (j:∀ x∈b,sp x.block=true) :
  DataW.Trod enc P e 0 sp true t v d b:=
 WideElems.Trod_stays f g a h (fun x k=>i.same (c x k)) j
end
end Go.Pev
end
section
section
namespace Go.Pev.Pl
open Tok
theorem Nl{n u v:Int}(h:okT n (.arc u v)):okT n (.arc v u):=⟨h.2.1,h.1,AXx h.2.2⟩
end Go.Pev.Pl
end
section
namespace Go.Pev.Pl
open Tok
theorem AUt(n t:Int):TI n [t]↔In n t:=by
 constructor;rintro⟨L,a,c,d⟩;rcases d.leaf with⟨v,e⟩|⟨x,v,r,f⟩
 subst e;simp only[AWW,AXS,AWc,AYO]at a;rw[a];exact c (.ver v) (by simp);have g:=f.length;have i:=AWy List.length a;grind;intro h;exact⟨[.ver t],rfl,fun x b=>by simp at b;subst b;exact h,T.one t⟩
theorem AUu(n:Int):¬ TI n []:=by rintro⟨L,b,c,a⟩;have:=a.facts.1;simp_all
end Go.Pev.Pl
end
section
namespace Go.Pev.Pl
open Tok
def RG(n:Int)(xs:List Int):Prop:=Rt xs/\xs≠[]/\Nn xs=xs.headD 0/\TI n xs
def okR(n:Int):List Int->Int->List (List Int)->Prop
 |_,_,[]=>True
 |seen,last,l::ls=>RG n l/\last<l.headD 0/\(∀ t∈l,t<n->t∉seen)/\okR n (seen++l.filter (fun t=>decide (t<n))) (l.headD 0) ls
def RF(n:Int)(a:List (List Int)):Prop:=Sz n/\okR n [] (-1) a/\∀ v,0<=v->v<n->v∈a.flatten
noncomputable instance (n:Int) (rings:List (List Int)):Decidable (RF n rings):=Classical.propDecidable _
noncomputable instance (n:Int) (xs:List Int):Decidable (RG n xs):=Classical.propDecidable _
def MI(n:Int)(b:List (Int×Int))(a:List Int):Prop:=∀ t,t<n->(A_ b t).getD (0:Int)=if t∈a then 1 else 0
theorem jt(n:Int)(l:List Int)(S:l.length<1073741824)(A:List (List Int))(B:Int)(C:List (List Int))(D E:Int)(F:List Int)(G H:Int)(f:Bool)(g:List Int)(h i:Bool)(j:List Int)(o:Int)(p:List Int)(q:Int)(r:Bool)(s:Int)(u:List Int)(v w:Bool):
  ∀ (m k cnt:Nat) (b:List (Int×Int)) (a:List Int),k+m=l.length->MI n b a->(l.drop k).Nodup->m<cnt ->
  ((∀ t∈l.drop k,t<n->t∉a)/\∃ d,BC Is cnt (n,A,b,B,C,D,E,F,G,H,f,g,h,i,j,o,p,q,r,s,u,v,w,l,(l.length:Int),(k:Int),()) =
    some (.inr (.inl (n,A,d,B,C,D,E,F,G,H,f,g,h,i,j,o,p,q,r,s,u,v,w,())))/\MI n d (a++(l.drop k).filter (fun t=>decide (t<n)))) \/
  (¬ (∀ t∈l.drop k,t<n->t∉a)/\BC Is cnt (n,A,b,B,C,D,E,F,G,H,f,g,h,i,j,o,p,q,r,s,u,v,w,l,(l.length:Int),(k:Int),())=some (.inl (false,()))):=by
 intro m;induction m with
  |zero=>
   intro k cnt b a O z I P;obtain⟨cnt,rfl⟩:∃ c,cnt=c+1:=⟨cnt-1,by omega⟩
   have e:l.drop k=[]:=AYN (by omega);rw[e];refine .inl ⟨by simp,b,?_,by grind⟩;rw[BC,Is,A3,AV1 (by omega)]
  |succ m T=>
   intro k cnt b a O z I P;obtain⟨cnt,rfl⟩:∃ c,cnt=c+1:=⟨cnt-1,by omega⟩
   have x:k<l.length:=by omega
   have e:l.drop k=l.getD k 0::l.drop (k+1):=by simp_all
   rw[BC,Is,A3,AV2 x];simp only[C3 (0:Int) x];rw[e]at I |-;generalize l.getD k 0=t at *;rw[AWz]at I;rw[A5 (by omega),BD];by_cases J:t<n;rw[AV2 J];have K:=z t J;simp only[K,BD];by_cases Q:t∈a;grind;rw[AV9 Q,AV1 (by omega)];simp only[];have R:w64 ((0:Int)+1)=1:=by rw[BE (by omega)];rfl
   rw[R];have L:MI n (BG b t 1) (a++[t]):=by intro y M;rw[E1];by_cases N:y=t;simp[N];simp only[N,AWN,AWL,AXe,or_false];exact z y M
   grind;rw[AV1 J];simp only[];have L:MI n (BG b t (w64 (((A_ b t).getD (0:Int))+(1:Int)))) a:=by intro y M;rw[E1,AV9 (by omega)];exact z y M
   grind
theorem Yw(n:Int)(a:List (List Int))(D:a.length<1073741824)(J:∀ l∈a,l.length<9223372036854775808/\∀ x∈l, -9223372036854775808<=x/\x<=9223372036854775807):
  ∀ (k:List (List Int)) (i cnt:Nat) (f:List (Int×Int)) (b:Int) (d:List Int),a.drop i=k->i<=a.length->MI n f d->k.length<cnt ->
  (okR n d b k/\∃ g j,BC Gq cnt (n,a,f,b,a,(a.length:Int),(i:Int),())=some (.inr (.inl (n,a,g,())))/\MI n g j/\∀ v,v∈j↔v∈d\/(v<n/\v∈k.flatten)) \/
  (¬ okR n d b k/\BC Gq cnt (n,a,f,b,a,(a.length:Int),(i:Int),())=some (.inl (false,()))):=by
 have u:4294967296<many:=by simp only[many];omega
 intro k;induction k with
  |nil=>
   intro i cnt f b d hd hi w E;obtain⟨cnt,rfl⟩:∃ c,cnt=c+1:=⟨cnt-1,by omega⟩
   have:a.length<=i:=by grind
   refine .inl ⟨trivial,f,d,?_,w,by simp⟩;rw[BC,Gq,A3,AV1 (by omega)]
  |cons l k K=>
   intro i cnt f b d hd hi w E;simp only[AWD]at E;obtain⟨cnt,rfl⟩:∃ c,cnt=c+1:=⟨cnt-1,by omega⟩
   have o:i<a.length:=by grind
   rw[AWv o]at hd;simp only[AWc]at hd;obtain⟨L,z⟩:=hd;have F:a[i]? = some l:=by grind
   have p:l∈a:=AWA F;obtain⟨G,A⟩:=J l p;rw[BC,Gq,A3,AV2 o,okR];simp only[A' F,BB];cases l with
    |nil=>rw[A6,AV2 (by simp)];exact .inr ⟨fun h=>h.1.2.1 rfl,rfl⟩
    |cons x e=>
     rw[A6,AV1 (by grind)];have M:idx (x::e) (0:Int)=some x:=by rw[Ht];rfl
     simp only[M,AYK,BM];by_cases N:x<=b;grind
     ·rw[AV1 N];simp only[QD];by_cases c2:Rt (x::e)
      ·rw[AV2 c2];have G:(x::e).length<1073741824:=by have:=c2.1;omega
       simp only[AV6,rQ (x::e) (by simp) (by omega)];by_cases r:Nn (x::e)=x
       ·rw[AV2 r];simp only[AV6];rw[ANI n (x::e) (by simp) (by omega) A c2.2.2 (fun y Q=>by grind)];by_cases s:TI n (x::e)
        ·rw[AV2 s];simp only[AV6,BR];have B:RG n (x::e):=⟨c2,by simp,r,s⟩
         rcases jt n (x::e) G a x a (a.length:Int) (i:Int) (x::e) x b false (x::e) true false (x::e) (Nn (x::e)) (x::e) x false n (x::e) true false (x::e).length 0 many f d (by omega) w (by rw[List.drop_zero];exact c2.2.2) (by omega)with⟨q1,g,q2,q3⟩|⟨q1,q2⟩
         ·rw[List.drop_zero]at q1 q3;have C:BC Is many (n,a,f,x,a,(a.length:Int),(i:Int),x::e,x,b,false,x::e,true,false,x::e,Nn (x::e),x::e,x,false,n,x::e,true,false,x::e,((x::e).length:Int),(0:Int),())=_:=q2;simp only[C,A5 (show i+1<9223372036854775808 by omega)];rcases K (i+1) cnt g x (d++(x::e).filter (fun t=>decide (t<n))) z (by omega) q3 (by omega)with⟨H,q,m,I,O,P⟩|⟨H,I⟩
          ·refine .inl ⟨⟨B,by omega,q1,H⟩,q,m,I,O,fun v => ?_⟩;rw[P,AWL,AWZ,AYi,AWL];simp only[AV4];constructor;all_goals grind
          grind
         grind
        rw[AV1 s];exact .inr ⟨fun h=>s h.1.2.2.2,rfl⟩
       rw[AV1 r];exact .inr ⟨fun h=>r h.1.2.2.1,rfl⟩
      rw[AV1 c2];exact .inr ⟨fun h=>c2 h.1.1,rfl⟩
theorem Lt(n:Int)(a:List (List Int))(g:a.length<1073741824)(r:∀ l∈a,l.length<9223372036854775808/\∀ x∈l, -9223372036854775808<=x/\x<=9223372036854775807):
  NH ((n,(a,())),())=some (decide (RF n a),()):=by
 have m:4294967296<many:=by simp only[many];omega
 rw[fP,Yx];simp only[Ls];by_cases j:Sz n;rw[AV2 j];simp only[AV6,BR,A6];rcases Yw n a g r a 0 many [] (-1) [] (by simp) (by omega) (fun t _=>by simp[A_]) (by omega)with⟨o,c,b,p,s,A⟩|⟨o,p⟩
 have d:BC Gq many (n,a,[], -1,a,(a.length:Int),(0:Int),())=_:=p;simp only[d];obtain⟨u,w⟩:=j;obtain⟨N,rfl⟩:=AV7 (show 0<=n by omega)
 have e:=pe (step:=Ir) (fun i=>(c,(N:Int),(i:Int),())) N (fun i=>decide ((i:Int)∉b)) (fun _=>.inl (false,())) (.inr (.inl ())) (by omega)
  (fun i hi=>by
   have:=s (i:Int) (by omega)
   rw[Ir,A3,AV2 hi]
   simp only[this,BB]
   by_cases h:(i:Int)∈b
   ·simp only[h,AWf,not_true]
    rw[A5 (by omega)];simp
   grind)
  (by rw[Ir,A3,AV1 (by omega)])
 rw[BR]at e;have B:∀ v,v∈b↔(v<(N:Int)/\v∈a.flatten):=fun v=>by grind
 rcases e with⟨k,y,C,_,q⟩|⟨y,q⟩
 have f:BC Ir many (c,(N:Int),(0:Int),())=_:=q;rw[f,AV1];rintro⟨_,_,h⟩;grind;have f:BC Ir many (c,(N:Int),(0:Int),())=_:=q;rw[f,AV2];refine⟨⟨u,w⟩,o,fun v z D => ?_⟩;obtain⟨k,rfl⟩:=AV7 z;grind;have d:BC Gq many (n,a,[], -1,a,(a.length:Int),(0:Int),())=_:=p;simp only[d];rw[AV1 (fun h=>o h.2.1)];rw[AV1 j,AV1 (fun h=>j h.1)];rfl
end Go.Pev.Pl
end
section
namespace Go.Pev.Pl
open Tok
theorem TP{n:Int}{l:List Int}(h:RG n l):In n (l.headD 0):=by
 obtain⟨c,d,a,b⟩:=h;cases l with
  |nil=>grind
  |cons x l=>exact AC5 b a
theorem AQu{n:Int}(f:1<=n):∀ {c:List (List Int)} {b:List Int} {a:Int},okR n b a c->-1<=a->a<n->(c.length:Int)<=n-1-a:=by
 intro c;induction c with
  |nil=>grind
  |cons l c g=>intro b a ⟨d,h,i,j⟩ k e;have m:=(TP d).2.2;grind
end Go.Pev.Pl
end
section
namespace Go.Pev.Pl
open Tok
def hd(l:List Int):Int:=l.headD 0
def Dis(n:Int)(a b:List Int):Prop:=∀ t∈a,t<n->t∉b
structure FR(n:Int)(rings:List (List Int)):Prop where
 sz:Sz n
 rg:∀ l∈rings,RG n l
 up:rings.Pairwise (fun a b=>hd a<hd b)
 dis:rings.Pairwise (Dis n)
 cov:∀ v,In n v->∃ l∈rings,v∈l
theorem Dis.symm{n:Int}{a b:List Int}(h:Dis n a b):Dis n b a:=fun t c d e=>h t e d c
theorem ACB{n:Int}:∀ {f:List (List Int)} {c:List Int} {d:Int},okR n c d f↔(∀ l∈f,RG n l/\d<hd l/\∀ t∈l,t<n->t∉c)/\f.Pairwise (fun a b=>hd a<hd b)/\f.Pairwise (Dis n):=by
 intro f;induction f with
  |nil=>intro c d;simp[okR]
  |cons l f s=>intro c d;rw[okR,s,AWr,AWr];constructor;rintro⟨j,m,o,p,q,u⟩;refine⟨fun k e => ?_,⟨fun k e=>(p k e).2.1,q⟩,⟨fun k e t r g v => ?_,u⟩⟩;rcases AWO.1 e with rfl|e;exact⟨j,m,o⟩;grind;grind;rintro⟨j,⟨m,o⟩,⟨p,q⟩⟩;obtain⟨w,x,y⟩:=j l (by simp);refine⟨w,x,y,fun k e => ?_,o,q⟩;obtain⟨z,A,B⟩:=j k (by simp[e]);refine⟨z,m k e,fun t r g i => ?_⟩;simp only[AWL,AWZ]at i;rcases i with h|h;grind;exact p k e t h.1 g r
theorem RH{n:Int}{a:List (List Int)}:RF n a↔FR n a:=by constructor;rintro⟨c,d,e⟩;obtain⟨g,i,j⟩:=ACB.1 d;refine⟨c,fun l b=>(g l b).1,i,j,fun v f => ?_⟩;obtain⟨l,b,h⟩:=List.mem_flatten.1 (e v f.2.2.1 f.2.2.2);grind;rintro⟨c,d,e,k,m⟩;refine⟨c,ACB.2 ⟨fun l b=>⟨d l b,?_,by simp⟩,e,k⟩,fun v o p => ?_⟩;have:=(TP (d l b)).2.2.1;show(-1:Int)<l.headD 0;omega;obtain⟨l,b,h⟩:=m v ⟨c.1,c.2,o,p⟩;exact List.mem_flatten.2 ⟨l,b,h⟩
theorem pQ{ys c:List (List Int)}(d:c.Pairwise (fun a b=>hd a<hd b))(g:ys.Perm c)(k:ys.Pairwise (fun a b=>¬ hd b<hd a)):ys=c:=by
 have f:∀ a∈c,∀ b∈c,hd a=hd b->a=b:=by intro a l b m e;refine AX9 fun n => ?_;obtain⟨i,hi,rfl⟩:=AWw l;obtain⟨j,o,rfl⟩:=AWw m;rw[AW0]at d;grind
 refine AXh (le:=fun a b=>¬ hd b<hd a) ?_ k ?_ g;grind;exact d.imp fun h=>by omega
def plc(a:List (List Int))(v:Int):Int:=if a.any (fun l=>decide (v∈l))then((a.findIdx (fun l=>decide (v∈l)):Nat):Int)else -1
theorem Pz(n:Int)(a:List (List Int))(v:Int)(b:a.length<1073741824)(d:∀ l∈a,l.length<9223372036854775808):Tf ((n,(a,())),v,())=some (plc a v,()):=by
 rw[fR,Yy,KM,G']
 have e:=KR (step:=Dd) (fun i=>(v,a,A2 a,(i:Int),())) a (fun l=>decide (v∈l)) (fun i=>.inl (v,(i:Int),())) (.inr (.inl (v,()))) (by omega)
  (fun i l hi c=>by
   have g:=d l (AWA c)
   rw[Dd,A6,A3,AV2 hi]
   simp only[A' c,Hb l v (by omega)]
   rw[A5 (by omega)]
   grind)
  (by rw[Dd,A6,A3,AV1 (by omega)])
 have f:A8 Dd many (v,a,A2 a,(0:Int),())=_:=e;simp only[f,plc];grind
theorem QL{a:List (List Int)}{v:Int}(h:∃ l∈a,v∈l):∃ k l,plc a v=((k:Nat):Int)/\a[k]? = some l/\v∈l/\k<a.length:=by obtain⟨l,c,e⟩:=h;have b:a.any (fun l=>decide (v∈l))=true:=AYT.2 ⟨l,c,by grind⟩;have d:a.findIdx (fun l=>decide (v∈l))<a.length:=AXz.2 ⟨l,c,by grind⟩;refine⟨_,a[a.findIdx (fun l=>decide (v∈l))],by rw[plc,AWB b],by simp,?_,d⟩;grind
theorem FR.uniq{n:Int}{c:List (List Int)}(h:FR n c){i j:Nat}{a b:List Int}{v:Int}(hi:c[i]? = some a)(m:c[j]? = some b)(f:v<n)(k:v∈a)(l:v∈b):i=j:=by obtain⟨d,rfl⟩:=AWH.1 hi;obtain⟨e,rfl⟩:=AWH.1 m;have hd:=AW0.1 h.dis;rcases Nat.lt_trichotomy i j with g|g|g;exact absurd l (hd i j d e g v k f);exact g;exact absurd k (hd j i e d g v l f)
theorem FR.kj{n:Int}{b:List (List Int)}(h:FR n b){k:Nat}{a:List Int}{v:Int}(c:b[k]? = some a)(f:v<n)(d:v∈a):plc b v=(k:Int):=by obtain⟨j,l,e,g,i,_⟩:=QL ⟨a,AWA c,d⟩;rw[e,h.uniq g c f i d]
theorem bu{α:Type}{l:List α}{i:Nat}{a:α}(h:l[i]? = some a):l.Perm (a::l.eraseIdx i):=by
 obtain⟨hi,rfl⟩:=AWH.1 h;rw[List.eraseIdx_eq_take_drop_succ];conv=>lhs;rw[<- AXC i l,AWv hi]
 exact List.perm_middle
theorem Ww{α:Type}{l:List α}{i j:Nat}{a b:α}(c:i<j)(hi:l[i]? = some a)(d:l[j]? = some b):l.Perm (a::b::(l.eraseIdx j).eraseIdx i):=by
 have e:=bu d;have f:(l.eraseIdx j)[i]? = some a:=by grind
 exact e.trans (((bu f).cons b).trans (List.Perm.swap a b _))
theorem AFu{n:Int}{t:Tok}(h:okT n t):0<=Hy n t/\Hy n t<=4160/\Hy n t<n*(n+1):=by
 cases t with
  |ver v=>obtain⟨a,b,c,d⟩:=h;have:n*1<=n*(n+1):=Int.mul_le_mul_of_nonneg_left (by omega) (by omega);simp only[Hy];omega
  |arc u v=>
   obtain⟨a,b,_⟩:=h;obtain⟨f,g,_⟩:=YP a b;have i:=MA (u:=n+1-1) a.1 a.2.1 (by have:=a.1;omega) (by have:=a.2.1;omega);have e:n*(n+1)=n*(n+1-1)+n:=by grind
   have:=a.1;have:=a.2.1;simp only[Hy];omega
theorem ATx{n:Int}{t:Tok}(h:okT n t):Sz n:=by
 cases t with
  |ver v=>exact⟨h.1,h.2.1⟩
  |arc u v=>exact⟨h.1.1,h.1.2.1⟩
theorem Pw:∀ {L:List Tok},L.Nodup->(NC L).Nodup
 |[],_=>by simp[NC]
 |.ver v::L,h=>by rw[AWz]at h;rw[NC,AWz];exact⟨fun a=>h.1 (SB.1 a),Pw h.2⟩
 |.arc _ _::L,h=>by rw[AWz]at h;rw[NC];exact Pw h.2
theorem AS8{n:Int}{xs:List Int}(h:TI n xs):Rt xs:=by
 obtain⟨L,rfl,c,d⟩:=h;have i:=d.nodup;refine⟨?_,fun x f => ?_,?_⟩;obtain⟨v,r,j⟩:=d.tR;have l:Sz n:=ATx (c (.ver v) ((j.mem _).2 (by simp)));have q:=d.len;have s:=HW (a:=NC L) (b:=(List.range n.toNat).map (fun(k:Nat)=>(k:Int))) (Pw i) fun x f=>by have:=c _ (SB.1 f);have u:=this.2.2;rw[AWV];exact⟨x.toNat,by grind,by omega⟩
 have w:=l.2;grind;obtain⟨t,m,rfl⟩:=AWV.1 f;have:=AFu (c t m);omega;rw[List.Nodup,AXW];exact i.imp_of_mem fun o p g e=>g (S1 (c _ o) (c _ p) e)
def AI1(a b:List Int):Prop:=∃ x y,a=x++y/\b=y++x
theorem AI1.perm{a b:List Int}(h:AI1 a b):a.Perm b:=by obtain⟨x,y,rfl,rfl⟩:=h;grind
theorem AO0{n:Int}{a b:List Int}(h:TI n a)(r:AI1 a b):TI n b:=by obtain⟨L,e,f,g⟩:=h;obtain⟨x,y,rfl,rfl⟩:=r;obtain⟨c,d,rfl,i,j⟩:=List.map_eq_append_iff.1 e.symm;refine⟨d++c,by grind,fun t k=>f t ?_,T.rot c d g⟩;grind
theorem Eb{xs:List Int}{t:Int}(h:t∈xs):AI1 xs (C9 xs t):=by obtain⟨a,b,c,_,d⟩:=Zm h;exact⟨a,t::b,c,by rw[d]⟩
theorem AF2{xs ys:List Int}(h:xs.Perm ys)(a:xs≠[]):Nn ys=Nn xs:=by obtain⟨b,c⟩:=G5 a;exact AQz (h.mem_iff.1 b) fun x d=>c x (h.mem_iff.2 d)
theorem wz{xs:List Int}(b:Rt xs)(a:xs≠[]):AI1 xs (plain xs):=by rw[plain,AWB ⟨b,a⟩];exact Eb (G5 a).1
theorem AS7{n:Int}{xs:List Int}(h:TI n xs):xs≠[]:=by rintro rfl;exact AUu n h
theorem uQ{n:Int}{xs:List Int}(h:TI n xs):RG n (plain xs)/\AI1 xs (plain xs):=by have g:=AS8 h;have c:=AS7 h;have d:=wz g c;have f:=AO0 h d;refine⟨⟨AS8 f,AS7 f,?_,f⟩,d⟩;rw[AF2 d.perm c];obtain⟨a,b,_,e⟩:=Zz g c;grind
theorem uO{n:Int}{xs:List Int}(h:TI n xs){t:Tok}(e:okT n t)(d:Hy n t∈xs):∃ a,C9 xs (Hy n t)=(t::a).map (Hy n)/\T (t::a)/\(∀ y∈t::a,okT n y):=by
 have f:=AO0 h (Eb d);obtain⟨a,b,j,k,g⟩:=Zm d;obtain⟨L,c,i,l⟩:=f;rw[g,AWa]at c;cases L with
  |nil=>cases c
  |cons t' L=>simp only[AWW,AWc]at c;have:=S1 e (i t' (by simp)) c.1;grind
end Go.Pev.Pl
end
section
namespace Go.Pev.Pl
open Go.RowKit Tok
theorem bJ(a:Int):ieq a a=true:=by rw[Cj];simp
def Dom(a:List (List Int)):Prop:=a.length<1073741824/\∀ l∈a,l.length<9223372036854775808/\∀ x∈l, -9223372036854775808<=x/\x<=9223372036854775807
theorem FR.dom{n:Int}{a:List (List Int)}(h:FR n a):Dom a:=by have b:=RH.2 h;have e:=AQu h.sz.1 b.2.1 (by omega) (by have:=h.sz.1;omega);have f:=h.sz.2;refine⟨by omega,fun l c => ?_⟩;have:=(h.rg l c).1;exact⟨by have:=this.1;omega,fun x d=>by have:=this.2.1 x d;omega⟩
theorem mJ{l:List Int}(h:l≠[]):hd l∈l:=by
 cases l with
  |nil=>grind
  |cons x l=>simp[hd]
end Go.Pev.Pl
end
section
namespace Go.Pev.Pl
open Tok
def E0(n:Int)(xs:List Int):List Int:=xs.filter fun t => !decide (n<=t)
noncomputable def AOn(n:Int)(a:List (List Int))(ok:Bool):Int:=if RF n a then if ok then 0 else 10 else 1
theorem AAN(n:Int)(a:List (List Int))(xs:List Int)(c:xs.length<9223372036854775808):FU (xs,n,a,())=some (n,a,xs.any (fun x=>decide (x<0)||decide (n<=x)),()):=by
 rw[Jn,GX,KN,HA]
 have e:=KR (step:=De) (fun i=>(n,a,xs,A2 xs,(i:Int),())) xs (fun x=>decide (x<0)||decide (n<=x)) (fun i=>.inl (n,a,(i:Int),())) (.inr (.inl (n,a,()))) c
  (fun i x hi d=>by
   rw[De,A6,A3,AV2 hi]
   simp only[A' d,BD,BM]
   rw[A5 (by omega)]
   grind)
  (by rw[De,A6,A3,AV1 (by omega)])
 have f:A8 De many (n,a,xs,A2 xs,(0:Int),())=_:=e;rw[f];generalize (xs.any fun x=>decide (x<0)||decide (n<=x))=b;cases b<;>simp[BM]
theorem AUw{n v:Int}(a:Sz n):(decide (v<0)||decide (n<=v)) = !decide (In n v):=by
 by_cases h:In n v;obtain⟨_,_,b,c⟩:=h;simp[In,a.1,a.2,b,c];have:v<0\/n<=v:=by refine AX9 fun d=>h ⟨a.1,a.2,by omega,by omega⟩
 grind
theorem Qu(n:Int)(a:List (List Int))(xs:List Int)(b:Dom a)(c:xs.length<9223372036854775808):MY ((n,(a,())),xs,())=some (AOn n a (xs.all fun v=>decide (In n v)),()):=by
 rw[iJ,bg];simp only[Lt n a b.1 b.2,AAN n a xs c,AOn];by_cases h:RF n a;have d:(xs.any fun x=>decide (x<0)||decide (n<=x)) = !(xs.all fun v=>decide (In n v)):=by rw[List.not_all_eq_any_not];congr 1;funext x;exact AUw h.1
 grind;grind
def PR(n:Int)(A:List Int):List Int:=((List.range n.toNat).map fun(k:Nat)=>(k:Int)).filter fun v=>decide (v∈A)
theorem ADZ{n:Int}{A:List Int}(v:Int):v∈PR n A↔0<=v/\v<n/\v∈A:=by rw[PR,AWZ,AWV,AV4];constructor;grind;rintro⟨b,c,a⟩;exact⟨⟨v.toNat,by grind,by omega⟩,a⟩
theorem od(n:Int)(A:List Int):(PR n A).Pairwise (· < ·):=by rw[PR];refine AXv _ ?_;rw[AXW];exact List.pairwise_lt_range.imp fun h=>by omega
theorem AGb{n:Int}{A:List Int}(h:RG n A):(E0 n A).Perm (PR n A):=by
 have a:(E0 n A).Nodup:=h.1.2.2.filter _;have b:(PR n A).Nodup:=(od n A).imp fun h=>by omega
 exact(AX4 a b).2 fun v=>by rw[ADZ,E0,AWZ];simp only[AXF,AWY];constructor;rintro⟨c,d⟩;have:=(h.1.2.1 v c).1;grind;grind
end Go.Pev.Pl
end
section
namespace Go.Pev.Pl.SG
open Go.Sort
structure SP(α β:Type)where
 z:α
 c:α×α×Unit->Option (β×Unit)
 t:β->Bool
 ok:α->Prop
 okz:α
 QV:ok okz
 lt:α->α->Bool
 swo:SWO lt
 Mo:∀ {x y:α},ok x->ok y->∃ r,c (x,y,())=some (r,())/\t r=lt x y
variable {α β:Type} {S:SP α β}
abbrev EL{α β:Type}(S:SP α β):={x:α // S.ok x}
instance:Inhabited (EL S):=⟨⟨S.okz,S.QV⟩⟩
def rep(d:Array (EL S)):List α:=d.toList.map Subtype.val
theorem Bq{d:Array (EL S)}{n:Nat}(h:n<d.size):idx (rep d) (n:Int)=some (d[n]!).val:=by rw[idx_eq,bL,AV9 (by omega)];simp[rep,h]
theorem CN{d:Array (EL S)}{n:Nat}{z:α}(h:n<d.size):A9 (rep d) (A4 (n:Int)) z=(d[n]!).val:=by simp[A9,A4,rep,h]
theorem KU{d:Array (EL S)}{n:Nat}{x:(EL S)}:Bc (rep d) (A4 (n:Int)) x.val=rep (d.setIfInBounds n x):=by simp[Bc,A4,rep,List.map_set]
theorem ACq{d:Array (EL S)}:A2 (rep d)=(d.size:Int):=by simp[A2,rep]
def ltX(x y:(EL S)):Bool:=S.lt x.val y.val
theorem AJo:SWO (ltX (S:=S)):=⟨fun x=>S.swo.irrefl x.val,fun x y z=>S.swo.trans x.val y.val z.val,fun x y z=>S.swo.ntrans x.val y.val z.val⟩
noncomputable def AVR(x y:(EL S)):β:=(S.Mo x.property y.property).choose
theorem Dc(x y:(EL S)):S.c (x.val,y.val,())=some (AVR x y,()):=(S.Mo x.property y.property).choose_spec.1
theorem EU(x y:(EL S)):S.t (AVR x y)=ltX x y:=(S.Mo x.property y.property).choose_spec.2
theorem ARU(a b i:Nat):∀ (j:Nat) (d:Array (EL S)) (n:Nat),j<d.size->d.size<4611686018427387904->j<n ->
  BC (YK S.z S.c S.t) n ((rep d),(a:Int),(b:Int),(i:Int),(j:Int),())=some (.inl ((rep (insInner ltX a j d)),(a:Int),(b:Int),(i:Int),())):=by
 intro j;induction j with
  |zero=>
   intro d n f g h;obtain⟨n,rfl⟩:∃ k,n=k+1:=⟨n-1,by omega⟩
   have l:ilt (a:Int) ((0:Nat):Int)=false:=by rw[A3];simp
   simp only[BC,YK,l,insInner]
  |succ j m=>
   intro d n f g h;obtain⟨n,rfl⟩:∃ k,n=k+1:=⟨n-1,by omega⟩
   have o:w64 (((j+1:Nat):Int)-1)=(j:Int):=by rw[BE (by omega)];omega
   have e:j<d.size:=by omega
   simp only[BC,YK,A3,o,Bq f,Bq e,CN f,CN e,Dc,EU,insInner,gt_iff_lt];by_cases p:a<j+1;cases q:ltX d[j+1]! d[j]!;grind;simp only[p,AWG,q,Bool.and_true,AWf,KU];rw[Bq (by grind)];simp only[Kw];exact m (swp d (j+1) j) n (by rw[size_swp];omega) (by rw[size_swp];omega) (by omega);grind
theorem KY(lt:(EL S)->(EL S)->Bool)(a j:Nat)(d:Array (EL S)):(insInner lt a j d).size=d.size:=by
 induction j generalizing d with
  |zero=>rfl
  |succ j b=>rw[insInner];split;rw[b,size_swp];rfl
theorem AMq(a b:Nat):∀ (k i:Nat) (d:Array (EL S)) (n:Nat),b-i=k->b<=d.size->d.size<4611686018427387904->d.size<many->k<n ->
  BC (YL S.z S.c S.t) n ((rep d),(a:Int),(b:Int),(i:Int),())=some (.inl ((rep (insOuter ltX a b i d)),())):=by
 intro k;induction k with
  |zero=>
   intro i d n g h f j l;obtain⟨n,rfl⟩:∃ k,n=k+1:=⟨n-1,by omega⟩
   have e:¬ i<b:=by omega
   rw[insOuter];simp only[BC,YL,A3,e,AWg,AWN]
  |succ k m=>
   intro i d n g h f j l;obtain⟨n,rfl⟩:∃ k,n=k+1:=⟨n-1,by omega⟩
   have e:i<b:=by omega
   have o:w64 ((i:Int)+1)=((i+1:Nat):Int):=by rw[BE (by omega)];omega
   rw[insOuter];simp only[BC,YL,A3,e,AWG,AWf,BR];rw[ARU a b i i d many (by omega) f (by omega)];simp only[o];exact m (i+1) _ n (by omega) (by rw[KY];omega) (by rw[KY];omega) (by rw[KY];omega) (by omega)
theorem AMp(d:Array (EL S))(a b:Nat)(e:a<=b)(f:b<=d.size)(i:d.size<4294967296):(zH S.z S.c S.t) ((rep d),(a:Int),(b:Int),())=some ((rep (insertionSort ltX d a b)),()):=by
 have g:d.size<many:=by simp only[many];omega
 have h:w64 ((a:Int)+1)=((a+1:Nat):Int):=by rw[BE (by omega)];omega
 rw[ARV,Qj];simp only[h,BR];rw[AMq a b (b-(a+1)) (a+1) d many rfl f (by omega) g (by omega)];rfl
end Go.Pev.Pl.SG
end
end
section
section
namespace Go.Pev.Pl.SG
open Go.Sort
variable {α β:Type} {S:SP α β}
theorem vj(hi first:Nat):∀ (k a:Nat) (d:Array (EL S)) (n:Nat),hi-a=k->a<=hi->first+hi<=d.size->d.size<4294967296->(hi=0\/a<hi)->k<n ->
  BC (Rm S.z S.c S.t) n ((rep d),(hi:Int),(first:Int),(a:Int),())=some (.inl ((rep (siftDown ltX hi first a d)),())) \/
  BC (Rm S.z S.c S.t) n ((rep d),(hi:Int),(first:Int),(a:Int),())=some (.inr (.inl ((rep (siftDown ltX hi first a d)),()))):=by
 intro k;induction k using Nat.strongRecOn with
  |_ k b=>
   intro a d n l m o p q r;obtain⟨n,rfl⟩:∃ k,n=k+1:=⟨n-1,by omega⟩
   rw[siftDown];simp (disch:=omega) only[BC,Rm,ADO,A5,wrap_add,D_,A3];by_cases f:hi<=2*a+1;grind;have s:first+a<d.size:=by omega
   have u:first+(2*a+1)<d.size:=by omega
   simp only[f,AWg,ge_iff_le,AWN,dite_false];simp (disch:=omega) only[Bq,CN,Dc,EU];by_cases g:2*a+1+1<hi;have v:first+(2*a+2)<d.size:=by omega
   have h:2*a+1+1=2*a+2:=by omega
   have i:first+(2*a+1)+1=first+(2*a+2):=by omega
   have j:2*a+2<hi:=by omega
   simp only[h,i,j,AWG];simp (disch:=omega) only[Bq,CN,Dc,EU,KU];cases w:ltX d[first+(2*a+1)]! d[first+(2*a+2)]!;simp only[Bool.and_false,AWM,AWN];cases e:ltX d[first+a]! d[first+(2*a+1)]!;simp;simp only[AV6,AWM,AWN];rw[Bq (by grind)];simp only[Kw];exact b (hi-(2*a+1)) (by omega) (2*a+1) _ n rfl (by omega) (by rw[size_swp];omega) (by rw[size_swp];omega) (by omega) (by omega);simp only[Bool.and_true,AWf];cases e:ltX d[first+a]! d[first+(2*a+2)]!;simp;simp only[AV6,AWM,AWN,dite_true];rw[Bq (by grind)];simp only[Kw];exact b (hi-(2*a+2)) (by omega) (2*a+2) _ n rfl (by omega) (by rw[size_swp];omega) (by rw[size_swp];omega) (by omega) (by omega);simp only[g,AWg,Bool.false_and,AWM,AWN,KU];cases e:ltX d[first+a]! d[first+(2*a+1)]!;simp;simp only[AV6,AWM,AWN];rw[Bq (by grind)];simp only[Kw];exact b (hi-(2*a+1)) (by omega) (2*a+1) _ n rfl (by omega) (by rw[size_swp];omega) (by rw[size_swp];omega) (by omega) (by omega)
theorem fm(d:Array (EL S))(a hi first:Nat)(b:first+hi<=d.size)(e:d.size<4294967296)(f:hi=0/\a=0\/a<hi):(WL S.z S.c S.t) ((rep d),(a:Int),(hi:Int),(first:Int),())=some ((rep (siftDown ltX hi first a d)),()):=by
 have g:d.size<many:=by simp only[many];omega
 rw[AKC,Lz];simp only[BR];rcases vj hi first (hi-a) a d many rfl (by omega) b e (by omega) (by omega)with h|h<;>rw[h]
theorem FG(lt:(EL S)->(EL S)->Bool)(hi first:Nat):∀ (k a:Nat) (d:Array (EL S)),hi-a=k->(siftDown lt hi first a d).size=d.size:=by
 intro k;induction k using Nat.strongRecOn with
  |_ k b=>intro a d c;rw[siftDown];split;rfl;split;split;rfl;split;rw[b (hi-(2*a+2)) (by omega) _ _ rfl,size_swp];rfl;split;rfl;rw[b (hi-(2*a+1)) (by omega) _ _ rfl,size_swp]
theorem sF(hi first:Nat):∀ (k:Nat) (d:Array (EL S)) (n:Nat),(hi=0/\k<=1\/k<=hi)->first+hi<=d.size->d.size<4294967296->k<n ->
  BC (Sl S.z S.c S.t) n ((rep d),(first:Int),(0:Int),(hi:Int),(k:Int)-1,())=some (.inl ((rep (heapBuild ltX hi first k d)),(first:Int),(0:Int),(hi:Int),())):=by
 intro k;induction k with
  |zero=>
   intro d n e a b f;obtain⟨n,rfl⟩:∃ k,n=k+1:=⟨n-1,by omega⟩
   rw[BC,Sl,BM,AV1 (by omega)];rfl
  |succ k g=>
   intro d n e a b f;obtain⟨n,rfl⟩:∃ k,n=k+1:=⟨n-1,by omega⟩
   have h:((k+1:Nat):Int)-1=(k:Int):=by omega
   rw[BC,Sl,h,BM,AV2 (by omega)];simp only[fm d k hi first a b (by omega)];rw[BE (by omega)];exact g _ n (by omega) (by rw[FG _ _ _ _ _ _ rfl];omega) (by rw[FG _ _ _ _ _ _ rfl];omega) (by omega)
theorem NP(lt:(EL S)->(EL S)->Bool)(hi first:Nat):∀ (k:Nat) (d:Array (EL S)),(heapBuild lt hi first k d).size=d.size:=by
 intro k;induction k with
  |zero=>intro d;rfl
  |succ k a=>intro d;rw[heapBuild,a,FG _ _ _ _ _ _ rfl]
theorem AHB(first:Nat):∀ (k:Nat) (d:Array (EL S)) (n:Nat),first+k<=d.size->d.size<4294967296->k<n ->
  BC (Sk S.z S.c S.t) n ((rep d),(first:Int),(0:Int),(k:Int)-1,())=some (.inl ((rep (heapPop ltX first k d)),())):=by
 intro k;induction k with
  |zero=>
   intro d n a b e;obtain⟨n,rfl⟩:∃ k,n=k+1:=⟨n-1,by omega⟩
   rw[BC,Sk,BM,AV1 (by omega)];rfl
  |succ k f=>
   intro d n a b e;obtain⟨n,rfl⟩:∃ k,n=k+1:=⟨n-1,by omega⟩
   have g:((k+1:Nat):Int)-1=(k:Int):=by omega
   have h:first<d.size:=by omega
   have i:first+k<d.size:=by omega
   rw[BC,Sk,g,BM,AV2 (by omega)];simp (disch:=omega) only[wrap_add,Bq,CN,KU];rw[Bq (by grind)];simp only[Kw];have:=fm (swp d first (first+k)) 0 k first (by rw[size_swp];omega) (by rw[size_swp];omega) (by omega)
   simp only[Int.natCast_zero]at this;simp only[this];rw[BE (by omega)];exact f _ n (by rw[FG _ _ _ _ _ _ rfl,size_swp];omega) (by rw[FG _ _ _ _ _ _ rfl,size_swp];omega) (by omega)
theorem AHA(d:Array (EL S))(a b:Nat)(f:a<b)(i:b<=d.size)(g:d.size<4294967296):(bX S.z S.c S.t) ((rep d),(a:Int),(b:Int),())=some ((rep (heapSort ltX d a b)),()):=by
 have j:4294967296<many:=by simp only[many];omega
 rw[ANC,MW];simp (disch:=omega) only[EY,Bz,ASq,BR];have e:(((b-a-1)/2:Nat):Int)=(((b-a-1)/2+1:Nat):Int)-1:=by omega
 rw[e,sF (b-a) a _ d many (by omega) (by omega) g (by omega)];have h:(((b-a-1:Nat)):Int)=((b-a:Nat):Int)-1:=by omega
 simp (disch:=omega) only[Bz,h];rw[AHB a (b-a) _ many (by rw[NP];omega) (by rw[NP];omega) (by omega)];rfl
end Go.Pev.Pl.SG
end
section
namespace Go.Pev.Pl.SG
open Go.Sort
variable {α β:Type} {S:SP α β}
theorem AEt:∀ (k i j:Nat) (d:Array (EL S)) (n:Nat),j-i=k->(j<d.size)->d.size<4294967296->k<n ->
  BC (kT S.z S.c S.t) n ((rep d),(i:Int),(j:Int),())=some (.inl ((rep (reverseLoop i j d)),())):=by
 intro k;induction k using Nat.strongRecOn with
  |_ k b=>
   intro i j d n e a f g;obtain⟨n,rfl⟩:∃ k,n=k+1:=⟨n-1,by omega⟩
   rw[reverseLoop,BC,kT];simp only[A3];by_cases h:i<j;have hi:i<d.size:=by omega
   simp only[h,AWG,AWf,Bq a,Bq hi,CN hi,CN a,KU];rw[Bq (by grind)];simp (disch:=omega) only[Kw,A5,Bz];exact b (j-1-(i+1)) (by omega) (i+1) (j-1) _ n rfl (by rw[size_swp];omega) (by rw[size_swp];omega) (by omega);grind
theorem AKi(d:Array (EL S))(a b:Nat)(e:a<b)(g:b<=d.size)(f:d.size<4294967296):(wU S.z S.c S.t) ((rep d),(a:Int),(b:Int),())=some ((rep (reverseRange d a b)),()):=by
 have h:4294967296<many:=by simp only[many];omega
 rw[AP8,QH];simp (disch:=omega) only[Bz,BR];rw[AEt (b-1-a) a (b-1) d many rfl (by omega) f (by omega)];rfl
theorem E9{d:Array (EL S)}{i j:Nat}(hi:i<d.size)(a:j<d.size):idx (Bc (rep d) (A4 (i:Int)) (A9 (rep d) (A4 (j:Int)) S.z)) (j:Int)=some ((d.setIfInBounds i d[j]!)[j]!).val /\
  Bc (Bc (rep d) (A4 (i:Int)) (A9 (rep d) (A4 (j:Int)) S.z)) (A4 (j:Int)) (A9 (rep d) (A4 (i:Int)) S.z)=(rep (swp d i j)):=by rw[CN hi,CN a,KU,KU];exact⟨Bq (by grind),rfl⟩
theorem kJ(step:List α×Int×Int×Int×Unit->Option ((List α×Int×Int×Int×Unit)⊕(List α×Int×Int×Int×Unit)⊕Unit))(p:(EL S)->Bool)(d:Array (EL S))(a j:Nat)(e:d.size<4294967296)(f:j<d.size)
  (h:∀ i:Nat,i<=d.size->step ((rep d),(a:Int),(i:Int),(j:Int),())=if i<=j/\p d[i]! then some (.inl ((rep d),(a:Int),((i+1:Nat):Int),(j:Int),()))else some (.inr (.inl ((rep d),(a:Int),(i:Int),(j:Int),())))) :
  ∀ (k i n:Nat),j+1-i=k->i<=d.size->k<n->BC step n ((rep d),(a:Int),(i:Int),(j:Int),())=some (.inl ((rep d),(a:Int),((scanUp p d j i:Nat):Int),(j:Int),())):=by
 intro k;induction k using Nat.strongRecOn with
  |_ k c=>
   intro i n g hi l;obtain⟨n,rfl⟩:∃ k,n=k+1:=⟨n-1,by omega⟩
   rw[scanUp,BC,h i hi];by_cases b:i<=j/\p d[i]! = true;rw[AWB b,AWB (by grind)];exact c (j+1-(i+1)) (by omega) (i+1) n rfl (by omega) (by omega);rw[AV9 b,AV9 (by grind)]
theorem Tw(step:List α×Int×Int×Int×Unit->Option ((List α×Int×Int×Int×Unit)⊕(List α×Int×Int×Int×Unit)⊕Unit))(p:(EL S)->Bool)(d:Array (EL S))(a i:Nat)(hi:1<=i)
  (h:∀ j:Nat,j<d.size->step ((rep d),(a:Int),(i:Int),(j:Int),())=if i<=j/\p d[j]! then some (.inl ((rep d),(a:Int),(i:Int),((j-1:Nat):Int),()))else some (.inr (.inl ((rep d),(a:Int),(i:Int),(j:Int),())))) :
  ∀ (j n:Nat),j<d.size->j<n->BC step n ((rep d),(a:Int),(i:Int),(j:Int),())=some (.inl ((rep d),(a:Int),(i:Int),((scanDown p d i j:Nat):Int),())):=by
 intro j;induction j with
  |zero=>
   intro n b c;obtain⟨n,rfl⟩:∃ k,n=k+1:=⟨n-1,by omega⟩
   rw[BC,h 0 b,AV9 (by omega)];rfl
  |succ j e=>
   intro n b c;obtain⟨n,rfl⟩:∃ k,n=k+1:=⟨n-1,by omega⟩
   rw[scanDown,BC,h (j+1) b];grind
section
variable (d:Array (EL S)) (a i j:Nat) (hs:d.size<4294967296) (ha:a<d.size) (hj:j<d.size)
include hs ha hj
theorem rF(hi:i<=d.size):(aC S.z S.c S.t) ((rep d),(a:Int),(i:Int),(j:Int),())=if i<=j/\(fun x=>ltX x d[a]!) d[i]! = true then some (.inl ((rep d),(a:Int),((i+1:Nat):Int),(j:Int),()))else some (.inr (.inl ((rep d),(a:Int),(i:Int),(j:Int),()))):=by
 rw[aC];simp only[D_];by_cases h:i<=j;have b:i<d.size:=by omega
 simp (disch:=omega) only[h,AWG,Bq,CN,Dc,EU,A5,AYg];cases ltX d[i]! d[a]!<;>simp;simp only[h,AWg,AYf,AWN]
theorem rD(hi:i<=d.size):(Z' S.z S.c S.t) ((rep d),(a:Int),(i:Int),(j:Int),())=if i<=j/\(fun x=>ltX x d[a]!) d[i]! = true then some (.inl ((rep d),(a:Int),((i+1:Nat):Int),(j:Int),()))else some (.inr (.inl ((rep d),(a:Int),(i:Int),(j:Int),()))):=by
 rw[Z'];simp only[D_];by_cases h:i<=j;have b:i<d.size:=by omega
 simp (disch:=omega) only[h,AWG,Bq,CN,Dc,EU,A5,AYg];cases ltX d[i]! d[a]!<;>simp;simp only[h,AWg,AYf,AWN]
theorem rE(hi:1<=i):(aB S.z S.c S.t) ((rep d),(a:Int),(i:Int),(j:Int),())=if i<=j/\(fun x => !ltX x d[a]!) d[j]! = true then some (.inl ((rep d),(a:Int),(i:Int),((j-1:Nat):Int),()))else some (.inr (.inl ((rep d),(a:Int),(i:Int),(j:Int),()))):=by rw[aB];simp only[D_];by_cases h:i<=j;simp (disch:=omega) only[h,AWG,Bq,CN,Dc,EU,Bz,AYg];cases ltX d[j]! d[a]!<;>simp;simp only[h,AWg,AYf,AWN]
theorem rC(hi:1<=i):(Z_ S.z S.c S.t) ((rep d),(a:Int),(i:Int),(j:Int),())=if i<=j/\(fun x => !ltX x d[a]!) d[j]! = true then some (.inl ((rep d),(a:Int),(i:Int),((j-1:Nat):Int),()))else some (.inr (.inl ((rep d),(a:Int),(i:Int),(j:Int),()))):=by rw[Z_];simp only[D_];by_cases h:i<=j;simp (disch:=omega) only[h,AWG,Bq,CN,Dc,EU,Bz,AYg];cases ltX d[j]! d[a]!<;>simp;simp only[h,AWg,AYf,AWN]
theorem dk(hi:i<=d.size):(QS S.z S.c S.t) ((rep d),(a:Int),(i:Int),(j:Int),())=if i<=j/\(fun x => !ltX d[a]! x) d[i]! = true then some (.inl ((rep d),(a:Int),((i+1:Nat):Int),(j:Int),()))else some (.inr (.inl ((rep d),(a:Int),(i:Int),(j:Int),()))):=by
 rw[QS];simp only[D_];by_cases h:i<=j;have b:i<d.size:=by omega
 simp (disch:=omega) only[h,AWG,Bq,CN,Dc,EU,A5,AYg];cases ltX d[a]! d[i]!<;>simp;simp only[h,AWg,AYf,AWN]
theorem dj(hi:1<=i):(QR S.z S.c S.t) ((rep d),(a:Int),(i:Int),(j:Int),())=if i<=j/\(fun x=>ltX d[a]! x) d[j]! = true then some (.inl ((rep d),(a:Int),(i:Int),((j-1:Nat):Int),()))else some (.inr (.inl ((rep d),(a:Int),(i:Int),(j:Int),()))):=by rw[QR];simp only[D_];by_cases h:i<=j;simp (disch:=omega) only[h,AWG,Bq,CN,Dc,EU,Bz,AYg];grind;grind
end
theorem NT(p:(EL S)->Bool)(d:Array (EL S))(j i:Nat)(a:j<d.size)(hi:i<=d.size):scanUp p d j i<=d.size:=by
 suffices h:∀ (k i:Nat),j+1-i=k->i<=d.size->scanUp p d j i<=d.size from h _ i rfl hi
 intro k;induction k using Nat.strongRecOn with
  |_ k b=>intro i c hi;rw[scanUp];split;all_goals grind
theorem xl(a:Nat):∀ (k i j:Nat) (d:Array (EL S)) (n:Nat),j+1-i=k->a<d.size->1<=i->i<=d.size->j<d.size->d.size<4294967296->k<n ->
  BC (aA S.z S.c S.t) n ((rep d),(a:Int),(i:Int),(j:Int),())=some (.inl ((rep (partLoop ltX a i j d).2),(a:Int),(((partLoop ltX a i j d).1:Nat):Int),()))/\(partLoop ltX a i j d).1<=j/\(partLoop ltX a i j d).2.size=d.size:=by
 intro k;induction k using Nat.strongRecOn with
  |_ k ih=>
   intro i j d n hk ha hi hi' hj hs hn;have hm:4294967296<many:=by simp only[many];omega
   obtain⟨n,rfl⟩:∃ k,n=k+1:=⟨n-1,by omega⟩
   rw[partLoop_eq,BC,aA];have u1:=scanUp_ge (fun x=>ltX x d[a]!) d j i;have u2:=NT (fun x=>ltX x d[a]!) d j i hj hi';rw[BR,kJ _ (fun x=>ltX x d[a]!) d a j hs hj (fun i h=>rD d a i j hs ha hj h) _ i many rfl hi' (by omega)];generalize scanUp (fun x=>ltX x d[a]!) d j i=i2 at *;have v1:=scanDown_le (fun x => !ltX x d[a]!) d i2 j;simp only[BR];rw[Tw _ (fun x => !ltX x d[a]!) d a i2 (by omega) (fun j h=>rC d a i2 j hs ha h (by omega)) j many hj (by omega)];generalize scanDown (fun x => !ltX x d[a]!) d i2 j=j2 at *;simp only[A3];by_cases h:j2<i2;grind;have hi2:i2<d.size:=by omega
   have hj2:j2<d.size:=by omega
   simp only[h,AWg,gt_iff_lt,AWN,Bq hi2,Bq hj2,(E9 hi2 hj2).1,(E9 hi2 hj2).2];simp (disch:=omega) only[A5,Bz];obtain⟨q1,q2,q3⟩:=ih (j2-1+1-(i2+1)) (by omega) (i2+1) (j2-1) (swp d i2 j2) n rfl (by rw[size_swp];omega) (by omega) (by rw[size_swp];omega) (by rw[size_swp];omega) (by rw[size_swp];omega) (by omega);exact⟨q1,by omega,by rw[q3,size_swp]⟩
theorem AFQ(d:Array (EL S))(a b p:Nat)(ha:a<=p)(hp:p<b)(hb:b<=d.size)(hs:d.size<4294967296):
  (R5 S.z S.c S.t) ((rep d),(a:Int),(b:Int),(p:Int),())=some ((rep (partition ltX d a b p).2.2),(((partition ltX d a b p).1:Nat):Int),(partition ltX d a b p).2.1,()):=by
 have hm:4294967296<many:=by simp only[many];omega
 have ha':a<d.size:=by omega
 have hp':p<d.size:=by omega
 rw[ALy,L6,partition];simp only[Bq ha',Bq hp',(E9 ha' hp').1,(E9 ha' hp').2];have hs':=hs;rw[<- size_swp d a p]at ha' hs' hb;generalize swp d a p=d at *;simp (disch:=omega) only[A5,Bz,BR];have u1:=scanUp_ge (fun x=>ltX x d[a]!) d (b-1) (a+1);have u2:=NT (fun x=>ltX x d[a]!) d (b-1) (a+1) (by omega) (by omega);rw[kJ _ (fun x=>ltX x d[a]!) d a (b-1) hs' (by omega) (fun i h=>rF d a i (b-1) hs' ha' (by omega) h) _ (a+1) many rfl (by omega) (by omega)];generalize scanUp (fun x=>ltX x d[a]!) d (b-1) (a+1)=i2 at *;have v1:=scanDown_le (fun x => !ltX x d[a]!) d i2 (b-1);simp only[];rw[Tw _ (fun x => !ltX x d[a]!) d a i2 (by omega) (fun j h=>rE d a i2 j hs' ha' h (by omega)) (b-1) many (by omega) (by omega)];generalize scanDown (fun x => !ltX x d[a]!) d i2 (b-1)=j2 at *;simp only[A3];have hj2:j2<d.size:=by omega
 by_cases h:j2<i2;simp only[h,AWG,gt_iff_lt,AWf,Bq ha',Bq hj2,(E9 hj2 ha').1,(E9 hj2 ha').2];have hi2:i2<d.size:=by omega
 simp only[h,AWg,gt_iff_lt,AWN,Bq hi2,Bq hj2,(E9 hi2 hj2).1,(E9 hi2 hj2).2];simp (disch:=omega) only[A5,Bz];obtain⟨q1,q2,q3⟩:=xl a (j2-1+1-(i2+1)) (i2+1) (j2-1) (swp d i2 j2) many rfl (by rw[size_swp];omega) (by omega) (by rw[size_swp];omega) (by rw[size_swp];omega) (by rw[size_swp];omega) (by omega);simp only[q1];rw[size_swp]at q3;generalize partLoop ltX a (i2+1) (j2-1) (swp d i2 j2)=r at *;have h1:r.1<r.2.size:=by omega
 have h2:a<r.2.size:=by omega
 simp only[Bq h1,Bq h2,(E9 h1 h2).1,(E9 h1 h2).2]
theorem k9(a:Nat):∀ (k i j:Nat) (d:Array (EL S)) (n:Nat),j+1-i=k->a<d.size->1<=i->i<=d.size->j<d.size->d.size<4294967296->k<n ->
  BC (QT S.z S.c S.t) n ((rep d),(a:Int),(i:Int),(j:Int),())=some (.inl ((rep (partEqLoop ltX a i j d).2),(((partEqLoop ltX a i j d).1:Nat):Int),())):=by
 intro k;induction k using Nat.strongRecOn with
  |_ k ih=>
   intro i j d n hk ha hi hi' hj hs hn;have hm:4294967296<many:=by simp only[many];omega
   obtain⟨n,rfl⟩:∃ k,n=k+1:=⟨n-1,by omega⟩
   rw[partEqLoop_eq,BC,QT];have u1:=scanUp_ge (fun x => !ltX d[a]! x) d j i;have u2:=NT (fun x => !ltX d[a]! x) d j i hj hi';rw[BR,kJ _ (fun x => !ltX d[a]! x) d a j hs hj (fun i h=>dk d a i j hs ha hj h) _ i many rfl hi' (by omega)];generalize scanUp (fun x => !ltX d[a]! x) d j i=i2 at *;have v1:=scanDown_le (fun x=>ltX d[a]! x) d i2 j;simp only[BR];rw[Tw _ (fun x=>ltX d[a]! x) d a i2 (by omega) (fun j h=>dj d a i2 j hs ha h (by omega)) j many hj (by omega)];generalize scanDown (fun x=>ltX d[a]! x) d i2 j=j2 at *;simp only[A3];by_cases h:j2<i2;grind;have hi2:i2<d.size:=by omega
   have hj2:j2<d.size:=by omega
   simp only[h,AWg,gt_iff_lt,AWN,Bq hi2,Bq hj2,(E9 hi2 hj2).1,(E9 hi2 hj2).2];simp (disch:=omega) only[A5,Bz];exact ih (j2-1+1-(i2+1)) (by omega) (i2+1) (j2-1) (swp d i2 j2) n rfl (by rw[size_swp];omega) (by omega) (by rw[size_swp];omega) (by rw[size_swp];omega) (by rw[size_swp];omega) (by omega)
theorem rG(d:Array (EL S))(a b p:Nat)(ha:a<=p)(hp:p<b)(hb:b<=d.size)(hs:d.size<4294967296):
  (L7 S.z S.c S.t) ((rep d),(a:Int),(b:Int),(p:Int),())=some ((rep (partitionEqual ltX d a b p).2),(((partitionEqual ltX d a b p).1:Nat):Int),()):=by
 have hm:4294967296<many:=by simp only[many];omega
 have ha':a<d.size:=by omega
 have hp':p<d.size:=by omega
 rw[xz,G2,partitionEqual];simp only[Bq ha',Bq hp',(E9 ha' hp').1,(E9 ha' hp').2];have hs':=hs;rw[<- size_swp d a p]at ha' hs' hb;generalize swp d a p=d at *;simp (disch:=omega) only[A5,Bz,BR];rw[k9 a _ (a+1) (b-1) d many rfl ha' (by omega) (by omega) (by omega) hs' (by omega)]
end Go.Pev.Pl.SG
end
section
namespace Go.Pev.Pl.SG
open Go.Sort
variable {α β:Type} {S:SP α β}
theorem Rr(d:Array (EL S))(b:Nat):∀ (k i:Nat),b-i=k->i<=b->i<=scanSorted ltX d b i/\scanSorted ltX d b i<=b:=by
 intro k;induction k using Nat.strongRecOn with
  |_ k a=>intro i c hi;rw[scanSorted];split;all_goals grind
theorem df(d:Array (EL S))(a b s:Nat)(f:b<=d.size)(g:d.size<4294967296):∀ (k i n:Nat),b-i=k->1<=i->i<=b->k<n ->
  BC (Ng S.z S.c S.t) n ((rep d),(a:Int),(b:Int),(i:Int),(s:Int),())=some (.inl ((rep d),(a:Int),(b:Int),((scanSorted ltX d b i:Nat):Int),(s:Int),())):=by
 intro k;induction k using Nat.strongRecOn with
  |_ k e=>
   intro i n j l hi m;obtain⟨n,rfl⟩:∃ k,n=k+1:=⟨n-1,by omega⟩
   rw[scanSorted,BC,Ng];simp only[A3];by_cases h:i<b;have o:i<d.size:=by omega
   have p:i-1<d.size:=by omega
   simp (disch:=omega) only[h,AWG,Bz,A5,Bq,CN,Dc,EU,Bool.true_and];cases q:ltX d[i]! d[i-1]!;simp only[AWR,AWf];exact e (b-(i+1)) (by omega) (i+1) n rfl (by omega) (by omega) (by omega);simp;grind
theorem dh(a b i s:Nat):∀ (j:Nat) (d:Array (EL S)) (n:Nat),j<d.size->d.size<4294967296->j<n ->
  BC (KF S.z S.c S.t) n ((rep d),(a:Int),(b:Int),(i:Int),(s:Int),(j:Int),())=some (.inl ((rep (shiftDown ltX j d)),(a:Int),(b:Int),(i:Int),(s:Int),())):=by
 intro j;induction j with
  |zero=>
   intro d n f h l;obtain⟨n,rfl⟩:∃ k,n=k+1:=⟨n-1,by omega⟩
   rw[BC,KF,BM,AV1 (by omega)];rfl
  |succ j m=>
   intro d n f h l;obtain⟨n,rfl⟩:∃ k,n=k+1:=⟨n-1,by omega⟩
   have e:j<d.size:=by omega
   rw[shiftDown,BC,KF,BM,AV2 (by omega)];simp (disch:=omega) only[Bz,Nat.add_sub_cancel,Bq,CN,Dc,EU];cases o:ltX d[j+1]! d[j]!;simp;have g:=E9 f e;simp only[CN f,CN e]at g;simp only[AV6,AWM,AWN,g];exact m _ n (by rw[size_swp];omega) (by rw[size_swp];omega) (by omega)
theorem Wc(a b i s:Nat):∀ (k j:Nat) (d:Array (EL S)) (n:Nat),b-j=k->1<=j->b<=d.size->d.size<4294967296->k<n ->
  BC (KE S.z S.c S.t) n ((rep d),(a:Int),(b:Int),(i:Int),(s:Int),(j:Int),())=some (.inl ((rep (shiftUp ltX b j d)),(a:Int),(b:Int),(i:Int),(s:Int),())):=by
 intro k;induction k using Nat.strongRecOn with
  |_ k l=>
   intro j d n m o p q r;obtain⟨n,rfl⟩:∃ k,n=k+1:=⟨n-1,by omega⟩
   rw[shiftUp,BC,KE];simp only[A3];by_cases h:j<b;have e:j<d.size:=by omega
   have f:j-1<d.size:=by omega
   simp (disch:=omega) only[h,AWG,AWf,Bz,A5,Bq,CN,Dc,EU];cases u:ltX d[j]! d[j-1]!;simp;have g:=E9 e f;simp only[CN e,CN f]at g;simp only[AV6,AWM,AWN,g];exact l (b-(j+1)) (by omega) (j+1) _ n rfl (by omega) (by rw[size_swp];omega) (by rw[size_swp];omega) (by omega);grind
theorem ZL:∀ (j:Nat) (d:Array (EL S)),(shiftDown ltX j d).size=d.size:=by
 intro j;induction j with
  |zero=>intro d;rfl
  |succ j a=>intro d;rw[shiftDown];split;rfl;rw[a,size_swp]
theorem IS(b:Nat):∀ (k j:Nat) (d:Array (EL S)),b-j=k->(shiftUp ltX b j d).size=d.size:=by
 intro k;induction k using Nat.strongRecOn with
  |_ k a=>intro j d c;rw[shiftUp];split;split;rfl;rw[a (b-(j+1)) (by omega) (j+1) _ rfl,size_swp];rfl
theorem dg(a b:Nat)(hab:a<b):∀ (k i s:Nat) (d:Array (EL S)) (n:Nat),s+k=5->a+1<=i->i<=b->b<=d.size->d.size<4294967296->k<n ->
  BC (Ef S.z S.c S.t) n ((rep d),(a:Int),(b:Int),(i:Int),(s:Int),())=some (.inl ((rep (partialIns ltX a b k i d).1),(partialIns ltX a b k i d).2,())) \/
  ((partialIns ltX a b k i d).2=false/\BC (Ef S.z S.c S.t) n ((rep d),(a:Int),(b:Int),(i:Int),(s:Int),())=some (.inr (.inl ((rep (partialIns ltX a b k i d).1),())))):=by
 intro k;induction k with
  |zero=>
   intro i s d n hk h1 hi hb hs hn;obtain⟨n,rfl⟩:∃ k,n=k+1:=⟨n-1,by omega⟩
   rw[BC,Ef,BD,AV1 (by omega)];exact .inr ⟨rfl,rfl⟩
  |succ k ih=>
   intro i s d n hk h1 hi hb hs hn;have hm:4294967296<many:=by simp only[many];omega
   have es:w64 ((s:Int)+1)=((s+1:Nat):Int):=A5 (by omega);obtain⟨n,rfl⟩:∃ k,n=k+1:=⟨n-1,by omega⟩
   rw[BC,Ef,BD,AV2 (by omega),partialIns];simp only[BR,df d a b s hb hs (b-i) i many rfl (by omega) hi (by omega)];have hsc:=Rr d b _ i rfl hi;generalize scanSorted ltX d b i=i2 at *;simp only[O8];by_cases h2:i2=b;grind;simp (disch:=omega) only[h2,AWg,AWN,EY,BD,BM];by_cases h3:b-a<50;grind;have i0:i2<d.size:=by omega
   have i1:i2-1<d.size:=by omega
   rw[AV9 h3,AV1 (by omega)];simp (disch:=omega) only[Bz,A5,Bq i0,Bq i1,(E9 i0 i1).1,(E9 i0 i1).2];have hsz:=size_swp d i2 (i2-1);generalize swp d i2 (i2-1)=d2 at *;by_cases h4:i2-a≥2;rw[AWB h4,AV2 (show(2:Int)<=((i2-a:Nat):Int) by omega)];simp only[dh a b i2 s (i2-1) d2 many (by omega) (by omega) (by omega)];have hsz2:=ZL (i2-1) d2;generalize shiftDown ltX (i2-1) d2=d3 at *;simp (disch:=omega) only[EY,A5];by_cases h5:b-i2≥2;rw[AWB h5,AV2 (show(2:Int)<=((b-i2:Nat):Int) by omega)];simp only[Wc a b i2 s _ (i2+1) d3 many rfl (by omega) (by omega) (by omega) (by omega)];simp only[es];exact ih i2 (s+1) (shiftUp ltX b (i2+1) d3) n (by omega) (by omega) (by omega) (by rw[IS b (b-(i2+1)) (i2+1) _ rfl];omega) (by rw[IS b (b-(i2+1)) (i2+1) _ rfl];omega) (by omega);rw[AV9 h5,AV1 (show ¬ (2:Int)<=((b-i2:Nat):Int) by omega)];simp only[es];exact ih i2 (s+1) d3 n (by omega) (by omega) (by omega) (by omega) (by omega) (by omega);rw[AV9 h4,AV1 (show ¬ (2:Int)<=((i2-a:Nat):Int) by omega)];by_cases h5:b-i2≥2;rw[AWB h5,AV2 (show(2:Int)<=((b-i2:Nat):Int) by omega)];simp only[Wc a b i2 s _ (i2+1) d2 many rfl (by omega) (by omega) (by omega) (by omega)];simp only[es];exact ih i2 (s+1) (shiftUp ltX b (i2+1) d2) n (by omega) (by omega) (by omega) (by rw[IS b (b-(i2+1)) (i2+1) _ rfl];omega) (by rw[IS b (b-(i2+1)) (i2+1) _ rfl];omega) (by omega);omega
theorem k8(d:Array (EL S))(a b:Nat)(e:a<b)(g:b<=d.size)(i:d.size<4294967296):
  (JO S.z S.c S.t) ((rep d),(a:Int),(b:Int),())=some ((rep (partialInsertionSort ltX d a b).1),(partialInsertionSort ltX d a b).2,()):=by
 have k:4294967296<many:=by simp only[many];omega
 rw[qu,FZ,partialInsertionSort];simp (disch:=omega) only[A5,BR];have h:=dg a b e 5 (a+1) 0 d many rfl (AV8 _) (by omega) g i (by omega);rcases h with h|⟨j,h⟩
 have f:BC (Ef S.z S.c S.t) many ((rep d),(a:Int),(b:Int),((a+1:Nat):Int),(0:Int),())=_:=h;rw[f];have f:BC (Ef S.z S.c S.t) many ((rep d),(a:Int),(b:Int),((a+1:Nat):Int),(0:Int),())=_:=h;rw[f,j]
theorem Nj(d:Array (EL S))(a b:Nat)(s:Int)(e:a<d.size)(f:b<d.size):
  ∃ g p q,(IV S.z S.c S.t) ((rep d),(a:Int),(b:Int),s,())=some ((rep d),g,((p:Nat):Int),((q:Nat):Int),())/\(p=a/\q=b\/p=b/\q=a):=by rw[yH,G3];simp only[Bq e,Bq f,CN e,CN f,Dc,EU];cases ltX d[b]! d[a]!;all_goals grind
theorem No(d:Array (EL S))(a b c:Nat)(s:Int)(e:a<d.size)(f:b<d.size)(g:c<d.size):
  ∃ h p,(IX S.z S.c S.t) ((rep d),(a:Int),(b:Int),(c:Int),s,())=some ((rep d),h,((p:Nat):Int),())/\(p=a\/p=b\/p=c):=by rw[yX,G6];obtain⟨i,j,k,l,q⟩:=Nj d a b s e f;simp only[l];obtain⟨m,n,r,o,u⟩:=Nj d k c i (by omega) g;simp only[o];obtain⟨v,w,x,y,A⟩:=Nj d j n m (by omega) (by omega);grind
theorem Np(d:Array (EL S))(a:Nat)(s:Int)(b:1<=a)(e:a+1<d.size)(g:d.size<4294967296):
  ∃ f p,(IY S.z S.c S.t) ((rep d),(a:Int),s,())=some ((rep d),f,((p:Nat):Int),())/\a<=p+1/\p<=a+1:=by rw[ye,G7];simp (disch:=omega) only[Bz,A5];obtain⟨h,i,j,b⟩:=No d (a-1) a (a+1) s (by omega) (by omega) e;grind
theorem xI(d:Array (EL S))(a b:Nat)(i:a+8<=b)(w:b<=d.size)(e:d.size<4294967296):
  ∃ p h,(QM S.z S.c S.t) ((rep d),(a:Int),(b:Int),())=some ((rep d),((p:Nat):Int),h,())/\a<=p/\p<b:=by
 rw[AFA,JL];simp (disch:=omega) only[EY,ABh,ADN,Of,ADM,wrap_add,BM];rw[AV2 (show(8:Int)<=((b-a:Nat):Int) by omega)];simp only[];by_cases h:50<=b-a;rw[AV2 (show(50:Int)<=((b-a:Nat):Int) by omega)];simp only[];obtain⟨j,k,l,x⟩:=Np d (a+(b-a)/4*1) 0 (by omega) (by omega) e;simp only[l];obtain⟨m,n,o,y⟩:=Np d (a+(b-a)/4*2) j (by omega) (by omega) e;simp only[o];obtain⟨q,r,s,A⟩:=Np d (a+(b-a)/4*3) m (by omega) (by omega) e;simp only[s];obtain⟨f,u,g,v⟩:=No d k n r q (by omega) (by omega) (by omega);grind
 ·rw[AV1 (show ¬ (50:Int)<=((b-a:Nat):Int) by omega)];simp only[];obtain⟨f,u,g,v⟩:=No d (a+(b-a)/4*1) (a+(b-a)/4*2) (a+(b-a)/4*3) 0 (by omega) (by omega) (by omega);simp only[g];cases ieq f 0;·cases ieq f 12;all_goals grind
  grind
end Go.Pev.Pl.SG
end
section
namespace Go.Pev.Pl
open Go.Sort
theorem AGl:(List.range 256).all (fun k=>match IC[k]? with
  |some v=>decide (0<=v)&&(decide (v<=8)&&decide (2 ^ v.toNat<=max 1 (2*k)))
  |none=>false)=true:=by decide +kernel
theorem AGm{k:Nat}(h:k<256):∃ v:Nat,idx IC (k:Int)=some (v:Int)/\v<=8/\2 ^ v<=max 1 (2*k):=by
 have:=AWU.1 AGl k (AWS.2 h);rw[idx_eq,bL,AV9 (by omega),AW8];cases e:IC[k]? with
  |none=>grind
  |some v=>rw[e]at this;simp only[AV5,AV4]at this;exact⟨v.toNat,by grind,by omega,this.2.2⟩
theorem Xx(n s:Nat)(h:s<=64):shr? .u64 (n:Int) (s:Int)=some ((n/2 ^ s:Nat):Int):=by rw[ZM,vk,AV9 (by omega),AW8,show min s (IntKind.bits .u64)=s from AXn h,Int.fdiv_eq_ediv_of_nonneg _ (Int.pow_nonneg (by omega))];rfl
theorem u8_in{n:Int}(h:0<=n/\n<=255):IntKind.wrap .u8 n=n:=IntWalk.u8_in n h
theorem u64_in{n:Int}(h:0<=n/\n<=18446744073709551615):IntKind.wrap .u64 n=n:=IntWalk.u64_in n h
theorem AGn(n:Nat)(k:n<4294967296):∃ v:Nat,ACU ((n:Int),())=some ((v:Int),())/\v<=32/\2 ^ v<=max 1 (2*n):=by
 rw[ri,lT,BM,AV1 (by omega)];simp only[BM];have a:∀ (s m:Nat),s<=24->m<256->m*2 ^ s<=n->(s=0\/1<=m)->∃ v:Nat,idx IC (m:Int)=some (v:Int)/\v<=8/\2 ^ (s+v)<=max 1 (2*n):=by
  intro s m l i j d;obtain⟨v,e,c,b⟩:=AGm i;refine⟨v,e,c,?_⟩;rcases d with rfl|d;grind;have f:2 ^ v<=2*m:=by omega
  have o:2 ^ (s+v)<=2*(m*2 ^ s):=by rw[Nat.pow_add,Nat.mul_comm (2 ^ s),<- Nat.mul_assoc];exact AWn _ f
  omega
 by_cases d:65536<=n;rw[AV2 (show(65536:Int)<=(n:Int) by omega)];have g:shr? .u64 (n:Int) 16=some ((n/65536:Nat):Int):=Xx n 16 (by omega);simp only[g];by_cases f:256<=n/65536;rw[AV2 (show(256:Int)<=((n/65536:Nat):Int) by omega)];have h:shr? .u64 ((n/65536:Nat):Int) 8=some ((n/65536/256:Nat):Int):=Xx _ 8 (by omega);obtain⟨v,e,c,b⟩:=a 24 (n/65536/256) (by omega) (by omega) (by omega) (by omega);simp only[h];rw[u8_in (by omega)];simp only[e];refine⟨24+v,?_,by omega,b⟩;rw[BE (n:=0+16) (by omega),BE (n:=(0:Int)+16+8) (by omega),BE (n:=(v:Int)) (by omega),BE (by omega)];congr 2;rw[AV1 (show ¬ (256:Int)<=((n/65536:Nat):Int) by omega)];obtain⟨v,e,c,b⟩:=a 16 (n/65536) (by omega) (by omega) (by omega) (by omega);simp only[];rw[u8_in (by omega)];simp only[e];refine⟨16+v,?_,by omega,b⟩;rw[BE (n:=0+16) (by omega),BE (n:=(v:Int)) (by omega),BE (by omega)];congr 2;rw[AV1 (show ¬ (65536:Int)<=(n:Int) by omega)];by_cases f:256<=n;have h:shr? .u64 (n:Int) 8=some ((n/256:Nat):Int):=Xx n 8 (by omega);obtain⟨v,e,c,b⟩:=a 8 (n/256) (by omega) (by omega) (by omega) (by omega);simp only[];rw[AV2 (show(256:Int)<=(n:Int) by omega)];simp only[h];rw[u8_in (by omega)];simp only[e];refine⟨8+v,?_,by omega,b⟩;rw[BE (n:=0+8) (by omega),BE (n:=(v:Int)) (by omega),BE (by omega)];congr 2;obtain⟨v,e,c,b⟩:=a 0 n (by omega) (by omega) (by omega) (by omega);simp only[];rw[AV1 (show ¬ (256:Int)<=(n:Int) by omega)];simp only[];rw[u8_in (by omega)];simp only[e];refine⟨0+v,?_,by omega,b⟩;rw[BE (n:=(v:Int)) (by omega),BE (by omega)];congr 2
theorem XA(n:Nat)(a:n<4294967296):∃ v:Nat,bitsLen ((n:Int),())=some ((v:Int),())/\v<=32/\2 ^ v<=max 1 (2*n):=by rw[c8,Vq];obtain⟨v,e,h⟩:=AGn n a;grind
theorem rL(n:Nat)(b:1<=n)(c:n<4294967296):∃ m:Nat,YD ((n:Int),())=some ((m:Int),())/\1<=m/\m<=2*n:=by
 rw[aN,UG,u64_in (by omega)];obtain⟨v,e,a,d⟩:=XA n c;simp only[e];have f:shl? .u64 (1:Int) (v:Int)=some ((2 ^ v:Nat):Int):=by
  rw[NQ,dV,AV9 (by omega),AW8,show min v (IntKind.bits .u64)=v from AXn (by show v<=64;omega),Int.one_mul];have:2 ^ v<=2 ^ 32:=AYU (by omega) a;have b:1<=2 ^ v:=Nat.one_le_two_pow;have e:((2:Int) ^ v)=((2 ^ v:Nat):Int):=by simp
  rw[e,u64_in (by omega)]
 grind
theorem oM(r:Int):∃ a y,xorNext (r,())=some (a,y,()):=by rw[Yb,TW,NQ,dV,AV9 (by omega)];simp only[];rw[ZM,vk,AV9 (by omega)];simp only[];rw[NQ,dV,AV9 (by omega)];simp
theorem AL7(y:Int)(m:Nat)(b:1<=m)(c:m<18446744073709551616):∃ o:Nat,IntKind.wrap .u64 ((BitVec.ofInt (IntKind.bits .u64) y &&& BitVec.ofInt (IntKind.bits .u64) (IntKind.wrap .u64 ((m:Int)-1))).toNat)=(o:Int)/\o<m:=by
 rw[u64_in (n:=(m:Int)-1) (by omega),show(m:Int)-1=((m-1:Nat):Int) by omega,BitVec.toNat_and];have a:(BitVec.ofInt (IntKind.bits .u64) ((m-1:Nat):Int)).toNat=m-1:=by rw[AXm,AXr];exact AXI (by show m-1<18446744073709551616;omega)
 rw[a];have d:(BitVec.ofInt (IntKind.bits .u64) y).toNat &&& (m-1)<=m-1:=Nat.and_le_right;exact⟨_,u64_in (by omega),by omega⟩
end Go.Pev.Pl
end
section
namespace Go.Pev.Pl.SG
open Go.Sort
variable {α β:Type} {S:SP α β}
theorem uA(a b:Nat)(m:Nat)(E:a+8<=b)(j:1<=m)(F:m<=2*(b-a)):∀ (k t:Nat) (d:Array (EL S)) (r:Int) (n:Nat),t+k=3->b<=d.size->d.size<4294967296->k<n ->
  ∃ f:Array (EL S),BC (La S.z S.c S.t) n ((rep d),(a:Int),((b-a:Nat):Int),r,(m:Int),((a+(b-a)/4*2-1+t:Nat):Int),())=some (.inl ((rep f),()))/\PermIn a b d f:=by
 intro k;induction k with
  |zero=>
   intro t d r n v s w x;obtain⟨n,rfl⟩:∃ k,n=k+1:=⟨n-1,by omega⟩
   rw[BC,La];simp (disch:=omega) only[ABh,Of,wrap_add,A5,D_];rw[AV1 (by omega)];exact⟨d,rfl,permIn_refl d a b⟩
  |succ k A=>
   intro t d r n v s w x;obtain⟨n,rfl⟩:∃ k,n=k+1:=⟨n-1,by omega⟩
   rw[BC,La];simp (disch:=omega) only[ABh,Of,wrap_add,A5,D_];rw[AV2 (show a+(b-a)/4*2-1+t<=a+(b-a)/4*2+1 by omega)];obtain⟨u,y,e⟩:=oM r;obtain⟨o,B,G⟩:=AL7 y m j (by omega);simp only[e,B];rw[BE (n:=(o:Int)) (by omega)];simp only[D_];have i:a+(b-a)/4*2-1+t<d.size:=by omega
   have fin:∀ q:Nat,a<=q->q<b->∃ f:Array (EL S),BC (La S.z S.c S.t) n ((rep (swp d (a+(b-a)/4*2-1+t) q)),(a:Int),((b-a:Nat):Int),u,(m:Int),((a+(b-a)/4*2-1+t+1:Nat):Int),())=some (.inl ((rep f),()))/\PermIn a b d f:=by intro q l p;obtain⟨f,C,D⟩:=A (t+1) (swp d (a+(b-a)/4*2-1+t) q) u n (by omega) (by rw[size_swp];omega) (by rw[size_swp];omega) (by omega);exact⟨f,C,permIn_trans _ _ _ a b (swp_permIn d a b _ q (by omega) (by omega) l p s) D⟩
   by_cases h:b-a<=o;have g:a+(o-(b-a))<d.size:=by omega
   simp (disch:=omega) only[h,AWG,EY,wrap_add,A5,Bq i,Bq g,(E9 i g).1,(E9 i g).2];exact fin _ (by omega) (by omega);have g:a+o<d.size:=by omega
   simp (disch:=omega) only[h,AWg,EY,wrap_add,A5,Bq i,Bq g,(E9 i g).1,(E9 i g).2];exact fin _ (by omega) (by omega)
theorem AA1(d:Array (EL S))(a b:Nat)(g:a<=b)(i:b<=d.size)(j:d.size<4294967296):
  ∃ f:Array (EL S),(Q_ S.z S.c S.t) ((rep d),(a:Int),(b:Int),())=some ((rep f),())/\PermIn a b d f:=by
 have o:4294967296<many:=by simp only[many];omega
 rw[AIo,Js];simp (disch:=omega) only[EY,BM];by_cases h:8<=b-a;rw[AV2 (show(8:Int)<=((b-a:Nat):Int) by omega)];obtain⟨m,e,k,l⟩:=rL (b-a) (by omega) (by omega);simp only[e];rw[u64_in (n:=((b-a:Nat):Int)) (by omega)];simp (disch:=omega) only[ABh,Of,wrap_add,Bz,BR];obtain⟨f,p,q⟩:=uA a b m (by omega) k l 3 0 d ((b-a:Nat):Int) many rfl i j (by omega);grind;rw[AV1 (show ¬ (8:Int)<=((b-a:Nat):Int) by omega)];exact⟨d,rfl,permIn_refl d a b⟩
end Go.Pev.Pl.SG
end
section
namespace Go.Pev.Pl.SG
open Go.Sort
variable {α β:Type} {S:SP α β}
abbrev AVh(α:Type):=List α×Int×Int×Int×Bool×Bool×Unit
abbrev AC6(α:Type):=AVh α⊕(List α×Unit)⊕Unit
def dI(d:Array (EL S))(a b:Nat):AC6 α->Prop
 |.inl (xs,x,y,l,_,_,_)=>∃ (e:Array (EL S)) (i j:Nat),xs=(rep e)/\x=(i:Int)/\y=(j:Int)/\0<=l/\l<=100/\i<=j/\j<=e.size/\e.size=d.size/\j-i<b-a/\Below ltX i j e /\
   ∀ R,PermIn i j e R->SortedIn ltX i j R->PermIn a b d R/\SortedIn ltX a b R
 |.inr (.inl (xs,_))=>∃ R:Array (EL S),xs=(rep R)/\PermIn a b d R/\SortedIn ltX a b R
 |.inr (.inr _)=>False
def Gf(self:(List α×Int×Int×Int×Unit)->Option ((List α×Unit)))(m:Nat):Prop:=
 ∀ (d:Array (EL S)) (a b:Nat) (l:Int),a<=b->b<=d.size->d.size<4294967296->0<=l->l<=100->Below ltX a b d->2*(b-a)<m ->
  ∃ R:Array (EL S),self ((rep d),(a:Int),(b:Int),l,())=some ((rep R),())/\PermIn a b d R/\SortedIn ltX a b R
section
variable {self:(List α×Int×Int×Int×Unit)->Option ((List α×Unit))} {d:Array (EL S)} {a b:Nat} {l:Int}
theorem qT(f:Gf (S:=S) self (b-a))(G:b<=d.size)(H:d.size<4294967296)(j:0<=l/\l<=100)
  {d3:Array (EL S)} {p:Nat} (q:PermIn a b d d3) (I:Below ltX a b d3) (r:a<=p) (s:p<b) :
  ∃ o,(match(R5 S.z S.c S.t) ((rep d3),(a:Int),(b:Int),(p:Int),())with
  |none=>none
  |some (y20,y21,y22,_)=>match quo? .i64 (w64 ((b:Int)-(a:Int))) (8:Int)with
   |none=>none
   |some u=>match(ilt (w64 (y21-(a:Int))) (w64 ((b:Int)-y21)))with
    |true=>match self (y20,(a:Int),y21,l,())with
     |none=>none
     |some (y24,_)=>some ((.inl (y24,(w64 (y21+(1:Int))),(b:Int),l,(ile u (w64 (y21-(a:Int)))),y22,())):AC6 α)
    |false=>match self (y20,(w64 (y21+(1:Int))),(b:Int),l,())with
     |none=>none
     |some (y25,_)=>some (.inl (y25,(a:Int),y21,l,(ile u (w64 ((b:Int)-y21))),y22,())))=some o/\dI d a b o:=by
 have F:b<=d3.size:=by rw[q.1];exact G
 have J:d3.size<4294967296:=by rw[q.1];exact H
 rw[AFQ d3 a b p r s F J];rcases K:partition ltX d3 a b p with⟨mid,O,w⟩
 obtain⟨M,P,v,x,y,k,i⟩:=round_part AJo (partition_holds _) r s F I K;simp (disch:=omega) only[EY,A5,AVA,A3];have N:b<=w.size:=by omega
 by_cases h:mid-a<b-mid;obtain⟨L,e,m,A⟩:=f w a mid l M (by omega) (by omega) j.1 j.2 x (by omega);simp only[h,AWG,e];obtain⟨n,g⟩:=k _ m A;refine⟨_,rfl,L,mid+1,b,rfl,rfl,rfl,j.1,j.2,by omega,by rw[m.1];exact N,by rw[m.1,v,q.1],by omega,n,fun R B C => ?_⟩;obtain⟨D,E⟩:=g R B C;exact⟨permIn_trans _ _ _ a b q D,E⟩;obtain⟨L,e,m,A⟩:=f w (mid+1) b l (by omega) (by omega) (by omega) j.1 j.2 y (by omega);simp only[h,AWg,e];obtain⟨n,g⟩:=i _ m A;refine⟨_,rfl,L,a,mid,rfl,rfl,rfl,j.1,j.2,by omega,by rw[m.1];omega,by rw[m.1,v,q.1],by omega,n,fun R B C => ?_⟩;obtain⟨D,E⟩:=g R B C;exact⟨permIn_trans _ _ _ a b q D,E⟩
theorem R4(e:Gf (S:=S) self (b-a))(k:b<=d.size)(m:d.size<4294967296)(j:0<=l/\l<=100)
  {d3:Array (EL S)} {p:Nat} (u wp:Bool) (h:PermIn a b d d3) (n:Below ltX a b d3) (f:a<=p) (g:p<b) :
  ∃ o,(T_ S.z S.c S.t) self (rep d3) (a:Int) (b:Int) (p:Int) l u wp=some o/\dI d a b o:=by
 have s:b<=d3.size:=by rw[h.1];exact k
 have v:d3.size<4294967296:=by rw[h.1];exact m
 rw[T_,BD];by_cases w:0<a;rw[AV2 (by omega)];have H:a-1<d3.size:=by omega
 have I:p<d3.size:=by omega
 simp (disch:=omega) only[Bz,Bq,CN,Dc,EU];cases x:ltX d3[a-1]! d3[p]!;simp only[AWR];rw[rG d3 a b p f g s v];rcases y:partitionEqual ltX d3 a b p with⟨mid,A⟩
 obtain⟨B,C,q,r,i⟩:=round_eq AJo (partitionEqual_holds _) w f g s n x y;refine⟨_,rfl,A,mid,b,rfl,rfl,rfl,j.1,j.2,by omega,by omega,by rw[q,h.1],by omega,r,fun R D E => ?_⟩;obtain⟨F,G⟩:=i R D E;exact⟨permIn_trans _ _ _ a b h F,G⟩;simp only[AV6];exact qT e k m j h n f g;rw[AV1 (by omega)];exact qT e k m j h n f g
theorem ABo(e:Gf (S:=S) self (b-a))(j:a<b)(k:b<=d.size)(m:d.size<4294967296)(q:0<=l/\l<=100)
  {d3:Array (EL S)} {p:Nat} (h:Int) (u wp:Bool) (i:PermIn a b d d3) (n:Below ltX a b d3) (f:a<=p) (g:p<b) :
  ∃ o,(k6 S.z S.c S.t) self (rep d3) (a:Int) (b:Int) (p:Int) h l u wp=some o/\dI d a b o:=by
 have r:b<=d3.size:=by rw[i.1];exact k
 have y:d3.size<4294967296:=by rw[i.1];exact m
 unfold k6;cases u;exact R4 e k m q _ _ i n f g;cases wp;exact R4 e k m q _ _ i n f g;simp only[];cases ieq h 1;exact R4 e k m q _ _ i n f g;simp only[];rw[k8 d3 a b j r y];obtain⟨s,v⟩:=partialInsertionSort_holds (lt:=ltX) AJo d3 a b j r n;rcases A:partialInsertionSort ltX d3 a b with⟨w,fin⟩
 rw[A]at s v;have x:PermIn a b d w:=permIn_trans _ _ _ a b i s;cases fin;exact R4 e k m q _ _ x (n.perm r s) f g;exact⟨_,rfl,w,rfl,x,v rfl⟩
theorem ABn(f:Gf (S:=S) self (b-a))(j:a+8<=b)(k:b<=d.size)(m:d.size<4294967296)(r:0<=l/\l<=100)
  {d3:Array (EL S)} (w wp:Bool) (g:PermIn a b d d3) (s:Below ltX a b d3) :
  ∃ o,(k0 S.z S.c S.t) self (rep d3) (a:Int) (b:Int) l w wp=some o/\dI d a b o:=by
 have i:b<=d3.size:=by rw[g.1];exact k
 have u:d3.size<4294967296:=by rw[g.1];exact m
 rw[k0];obtain⟨p,h,e,n,q⟩:=xI d3 a b j i u;simp only[e];cases ieq h 2;exact ABo f (by omega) k m r h _ _ g s n q;simp only[AKi d3 a b (by omega) i u];have v:=reverseRange_holds (α:=(EL S)) d3 a b (by omega) i;simp (disch:=omega) only[Bz,EY];exact ABo f (by omega) k m r 1 _ _ (permIn_trans _ _ _ a b g v) (s.perm i v) (by omega) (by omega)
theorem AFH(f:Gf (S:=S) self (b-a))(g:a<=b)(h:b<=d.size)(j:d.size<4294967296)(n:0<=l/\l<=100)(m p:Bool)(B:Below ltX a b d):
  ∃ o,(KD S.z S.c S.t) self ((rep d),(a:Int),(b:Int),l,m,p,())=some o/\dI d a b o:=by rw[KD];simp (disch:=omega) only[EY,BM,Cj];by_cases q:b-a<=12;rw[AV2 (show((b-a:Nat):Int)<=12 by omega)];simp only[AMp d a b g h j];obtain⟨i,k⟩:=insertionSort_holds (lt:=ltX) AJo d a b g h;exact⟨_,rfl,_,rfl,i,k⟩;rw[AV1 (show ¬ ((b-a:Nat):Int)<=12 by omega)];simp only[];by_cases r:l=0;subst r;simp only[BEq.rfl,AHA d a b (by omega) h j];obtain⟨i,k⟩:=heapSort_holds (lt:=ltX) AJo d a b g h;exact⟨_,rfl,_,rfl,i,k⟩;rw[show(l==0)=false by grind];simp only[];cases m;obtain⟨s,e,i⟩:=AA1 d a b g h j;simp only[AWR,e];rw[BE (by omega)];exact ABn f (by omega) h j (by omega) _ _ i (B.perm h i);simp only[AV6];exact ABn f (by omega) h j n _ _ (permIn_refl d a b) B
end
theorem qU{self:(List α×Int×Int×Int×Unit)->Option ((List α×Unit))}{m:Nat}(g:Gf (S:=S) self m):∀ (k:Nat) (d:Array (EL S)) (a b:Nat) (l:Int) (p q:Bool) (n:Nat),b-a=k->k<=m->a<=b->b<=d.size->d.size<4294967296->0<=l->l<=100->Below ltX a b d->k<n ->
  ∃ R:Array (EL S),BC ((KD S.z S.c S.t) self) n ((rep d),(a:Int),(b:Int),l,p,q,())=some (.inl ((rep R),()))/\PermIn a b d R/\SortedIn ltX a b R:=by
 intro k;induction k using Nat.strongRecOn with
  |_ k w=>
   intro d a b l p q n U V r A C s u B W;obtain⟨n,rfl⟩:∃ k,n=k+1:=⟨n-1,by omega⟩
   have f:Gf (S:=S) self (b-a):=fun d D b' l E F G H I J X=>g d D b' l E F G H I J (by omega);obtain⟨o,e,h⟩:=AFH f r A C ⟨s,u⟩ p q B;rw[BC,e];match o,h with
  |.inl (xs,x,y,l',wb',wp',_),h=>obtain⟨K,i,j,rfl,rfl,rfl,L,M,N,O,Y,Z,P,v⟩:=h;obtain⟨R,e2,Q,T⟩:=w (j-i) (by omega) K i j l' wb' wp' n rfl (by omega) N O (by omega) L M P (by omega);grind
  |.inr (.inl (xs,_)),h=>obtain⟨R,rfl,Q,T⟩:=h;grind
theorem AFI:∀ k:Nat,Gf (S:=S) ((JN S.z S.c S.t) (k+1)) (2 ^ k):=by
 intro k;have f:4294967296<many:=by simp only[many];omega
 induction k with
  |zero=>
   intro d a b l g i j m n o r;have:Gf (S:=S) ((JN S.z S.c S.t) 0) 0:=fun _ _ _ _ _ _ _ _ _ _ h=>by omega
   obtain⟨R,e,p,q⟩:=qU this (b-a) d a b l true true many rfl (by omega) g i j m n o (by omega);refine⟨R,?_,p,q⟩;rw[JN,QN];simp only[BR,e]
  |succ k s=>
   intro d a b l g i j m n o r;have u:2 ^ (k+1)=2*2 ^ k:=by omega
   obtain⟨R,e,p,q⟩:=qU s (b-a) d a b l true true many rfl (by omega) g i j m n o (by omega);refine⟨R,?_,p,q⟩;rw[JN,QN];simp only[BR,e]
theorem FF{α β:Type}(S:SP α β)(xs:List α)(h:xs.length<4294967296)(a:∀ x∈xs,S.ok x):∃ ys,(fh S.z S.c S.t) (xs,())=some (ys,())/\ys.Perm xs/\ys.Pairwise fun x y=>S.lt y x=false:=by
 obtain⟨d,rfl⟩:∃ d:Array (EL S),xs=rep d:=by refine⟨(xs.attach.map fun x=>⟨x.val,a x.val x.property⟩).toArray,?_⟩;simp only[rep,List.map_map];simp
 have m:(rep d).length=d.size:=by simp[rep]
 rw[m]at h;rw[AJx,Lx];rw[ACq,u64_in (by omega)];obtain⟨v,e,s,_⟩:=XA d.size h;simp only[e];obtain⟨R,n,k,o⟩:=AFI 99 d 0 d.size (v:Int) (by omega) (by omega) h (by omega) (by omega) (.inl rfl) (by omega)
 have p:(xW S.z S.c S.t) (rep d,(0:Int),(d.size:Int),(v:Int),())=some (rep R,()):=by rw[AQc];exact n
 refine⟨rep R,by simp only[p],?_,?_⟩;obtain⟨q,_,l⟩:=k;have r:R.extract 0 d.size=R:=by grind
 rw[r,Array.extract_size]at l;exact l.map _;rw[rep,AXW,AW0];intro i j hi u b;have f:i<R.size:=by omega
 have g:j<R.size:=by omega
 have:=o i j (AXV _) b (by rw[<- k.1];omega);rw[getElem!_pos R j g,getElem!_pos R i f]at this;simpa [ltX]using this
end Go.Pev.Pl.SG
end
section
namespace Go.Pev.Pl.SL
open Go.Sort
def ok(l:List Int):Prop:=l≠[]
def okz:List Int:=[0]
theorem QV:ok okz:=by simp[ok,okz]
def lt(x y:List Int):Bool:=ltInt (x.headD 0) (y.headD 0)
theorem swo:SWO lt:=⟨fun x=>swo_ltInt.irrefl _,fun x y z=>swo_ltInt.trans _ _ _,fun x y z=>swo_ltInt.ntrans _ _ _⟩
theorem Mo{x y:List Int}(d:ok x)(e:ok y):∃ c,C1 (x,y,())=some (c,())/\ilt c (0:Int)=lt x y:=by
 cases x with
  |nil=>exact absurd rfl d
  |cons a x=>
   cases y with
    |nil=>exact absurd rfl e
    |cons b y=>
     rw[oS,ja];have f:idx (a::x) (0:Int)=some a:=by rw[idx_eq];rfl
     have g:idx (b::y) (0:Int)=some b:=by rw[idx_eq];rfl
     simp only[f,g,H3,HH,KG,L_];simp only[Cj,BD,lt,AYK,ltInt];by_cases h:a<b;simp[h];by_cases i:b<a;grind;simp[h,i]
noncomputable def S:SG.SP (List Int) Int:=⟨([]:List (Int)),C1,tLt,ok,okz,QV,lt,swo,fun a b=>Mo a b⟩
theorem FF(xs:List (List Int))(h:xs.length<4294967296)(a:∀ x∈xs,ok x):∃ ys,ABX (xs,())=some (ys,())/\ys.Perm xs/\ys.Pairwise fun x y=>lt y x=false:=SG.FF S xs h a
end Go.Pev.Pl.SL
end
end
section
namespace Go.Pev.Pl
abbrev Edge:=Int×Int×Unit
inductive Con(l:List Edge):Int->Int->Prop
 |refl (a:Int):Con l a a
 |edge (e:Edge):e∈l->Con l e.1 e.2.1
 |symm {a b:Int}:Con l a b->Con l b a
 |trans {a b c:Int}:Con l a b->Con l b c->Con l a c
theorem Con.mono{l j:List Edge}(h:∀ e∈l,∃ d∈j,(d.1=e.1/\d.2.1=e.2.1)\/(d.1=e.2.1/\d.2.1=e.1)){a b:Int}(c:Con l a b):Con j a b:=by
 induction c with
  |refl a=>exact .refl a
  |edge e m=>obtain⟨d,k,f|f⟩:=h e m;have:=Con.edge d k;rw[f.1,f.2]at this;exact this;have:=Con.edge d k;rw[f.1,f.2]at this;exact this.symm
  |symm _ n=>exact n.symm
  |trans _ _ g i=>exact g.trans i
theorem Con.snoc{l:List Edge}{e:Edge}{a b:Int}:Con (l++[e]) a b↔Con l a b\/(Con l a e.1/\Con l e.2.1 b)\/(Con l a e.2.1/\Con l e.1 b):=by
 constructor;intro h;induction h with
  |refl a=>exact .inl (.refl a)
  |edge n k=>rcases AWL.1 k with h|h;exact .inl (.edge n h);simp only[AXe]at h;subst h;exact .inr (.inl ⟨.refl _,.refl _⟩)
  |symm _ p=>
   rcases p with h|⟨c,d⟩|⟨c,d⟩
   exact .inl h.symm;exact .inr (.inr ⟨d.symm,c.symm⟩);exact .inr (.inl ⟨d.symm,c.symm⟩)
  |trans _ _ o i=>
   rcases o with h|⟨c,d⟩|⟨c,d⟩
   rcases i with g|⟨j,f⟩|⟨j,f⟩
   exact .inl (h.trans g);exact .inr (.inl ⟨h.trans j,f⟩);exact .inr (.inr ⟨h.trans j,f⟩);rcases i with g|⟨j,f⟩|⟨j,f⟩
   exact .inr (.inl ⟨c,d.trans g⟩);exact .inr (.inl ⟨c,f⟩);exact .inl (c.trans f);rcases i with g|⟨j,f⟩|⟨j,f⟩
   exact .inr (.inr ⟨c,d.trans g⟩);exact .inl (c.trans f);exact .inr (.inr ⟨c,f⟩)
 have m:∀ {x y},Con l x y->Con (l++[e]) x y:=fun h=>h.mono fun n k=>⟨n,by simp[k],.inl ⟨rfl,rfl⟩⟩
 have k:Con (l++[e]) e.1 e.2.1:=.edge e (by simp);rintro (h|⟨c,d⟩|⟨c,d⟩);exact m h;exact(m c).trans (k.trans (m d));exact(m c).trans (k.symm.trans (m d))
theorem Con.nil{a b:Int}(h:Con [] a b):a=b:=by
 induction h with
  |refl a=>rfl
  |edge e f=>cases f
  |symm _ g=>exact g.symm
  |trans _ _ c d=>exact c.trans d
theorem Con.const{l:List Edge}{f:Int->Int}(h:∀ e∈l,f e.1=f e.2.1){a b:Int}(c:Con l a b):f a=f b:=by
 induction c with
  |refl a=>rfl
  |edge e i=>exact h e i
  |symm _ j=>exact j.symm
  |trans _ _ d g=>exact d.trans g
end Go.Pev.Pl
end
