/- A part of the proofs of this seat: G32X1 G32M6 U32a U32b U32c G32P21 G32P22 G32P PevClaim. -/
import Derived.Test.YtoedbccnoegkbaaGreatPe4feee1993
import Derived.Test.YtoedbccnoegkbaaGreatProg
import Derived.ProofKit
import Derived.ChangeArms
import Derived.ReadAgain
import Derived.Deep.Slices
import Derived.OpenShut
set_option linter.unusedVariables false
set_option linter.unusedSimpArgs false
set_option linter.unusedSectionVars false
set_option maxRecDepth 100000
section
namespace Go.Pev
open Go.Proofs
noncomputable section
set_option maxHeartbeats 8000000
attribute [local irreducible] AJ AI BE CL HT DV AE Cj EN imax idx EU ilt ile ieq seq? quo? rem? shl? shr? fits B8 IntKind.wrap AO Ao WQ ASd AX QD AQ many Mi
abbrev Gh:AB:=[(.tmp 0,.di)]
abbrev Gg:AB:=[]
abbrev H3:List RS:=[]
abbrev LL:AB:=[]
def Wv[Lk]:Hints:={ fp:=Li [] }
def TY[Lk](v:Ag (leaves Gh)):Option (Ag (leaves Gg)⊕(List Int×Ag (leaves LL))):=Lk.f (CM 0 Tryz.prog AKG Wv Tryz.f66 Gh Gg H3 92 [.i64] LL v)
theorem AAw(v):TY v=CM 0 Tryz.prog AKG Wv Tryz.f66 Gh Gg H3 92 [.i64] LL v:=AD _
theorem NM:Ax Tryz.prog 0 Wv (BC Tryz.f66) 0:=Bw _ 0 (by kernel_rfl)
theorem AS5:Ep Tryz.prog 66 (AF 0 1 Gh Gg H3 fun x=>CB (TY x)) (FU 0 1 Gh Gg H3 92 [.i64] LL TY):=HH JC.1 JC.2.1 JC.2.2 Tryz.func66 (EI (by kernel_rfl)) (BS Tryz.func66 (by kernel_rfl) (by kernel_rfl)) (Abu rfl) AAw NM
theorem AS4:Ad Tryz.prog 66 (AF 0 1 Gh Gg H3 fun x=>CB (TY x)):=HF JC Tryz.func66 (by kernel_rfl) (by kernel_rfl) rfl AAw NM
def Oy[Lk]:Env:=Env.XA AKG 66 true (AF 0 1 Gh Gg H3 fun x=>CB (TY x)) (FU 0 1 Gh Gg H3 92 [.i64] LL TY)
theorem GS:AH Tryz.prog Oy:=Env.Om JC AS4 AS5 (fun _=>BZ rfl rfl)
abbrev Ge:AB:=[(.tmp 0,.box 7),(.cell 0 0,.di),(.cell 0 1,.dat (.slice (.prod (.int .i64) (.prod (.int .i64) (.prod (.int .i64) (.prod .bool .unit)))))),(.cell 0 2,.di),(.cell 0 3,.di),(.cell 0 4,.di),(.cell 0 5,.di),(.cell 0 6,.dat (.slice (.int .i64))),(.tmp 1,.dat (.prod (.int .i64) (.prod (.slice (.prod (.int .i64) (.prod (.int .i64) .unit))) (.prod (.slice (.prod (.int .i64) (.prod (.int .i64) (.prod (.int .i64) .unit)))) .unit)))),(.tmp 2,.dat (.prod (.int .i64) (.prod (.int .i64) (.prod (.prod (.int .i64) (.prod (.int .i64) (.prod (.slice (.arr 2 (.int .i64))) .unit))) .unit))))]
abbrev Gd:AB:=[(.obj 0,.box 7),(.cell 0 0,.di),(.cell 0 1,.dat (.slice (.prod (.int .i64) (.prod (.int .i64) (.prod (.int .i64) (.prod .bool .unit)))))),(.cell 0 2,.di),(.cell 0 3,.di),(.cell 0 4,.di),(.cell 0 5,.di),(.cell 0 6,.dat (.slice (.int .i64)))]
abbrev Hy:List RS:=[]
abbrev LJ:AB:=[(.obj 0,.box 7)]
def Wo[Lk]:Hints:={ fp:=Li [(1,[[],[0],[0],[0],[0],[2],[4],[],[],[],[],[],[],[15],[],[]]),(7,[[],[],[],[0],[0],[0],[0],[14],[14],[6],[],[],[],[],[0],[0],[0],[1],[0],[0],[0],[1],[]]),(9,[[],[],[0],[0],[0],[0],[14],[14],[6],[],[],[],[],[0],[0],[0],[1],[]]),(12,[[],[],[0],[0],[0],[0],[14],[14],[],[],[],[],[0],[0],[0],[1],[]])] }
def TW[Lk](v:Ag (leaves Ge)):Option (Ag (leaves Gd)⊕(List Int×Ag (leaves LJ))):=Lk.f (CM 1 Tryz.prog Oy Wo Tryz.f42 Ge Gd Hy 92 [.i64] LJ v)
theorem AAq(v):TW v=CM 1 Tryz.prog Oy Wo Tryz.f42 Ge Gd Hy 92 [.i64] LJ v:=AD _
theorem NL:Ax Tryz.prog 1 Wo (BC Tryz.f42) 0:=Bw _ 0 (by kernel_rfl)
theorem ASv:Ep Tryz.prog 42 (AF 1 3 Ge Gd Hy fun x=>CB (TW x)) (FU 1 3 Ge Gd Hy 92 [.i64] LJ TW):=HH GS.1 GS.2.1 GS.2.2 Tryz.func42 (EI (by kernel_rfl)) (BS Tryz.func42 (by kernel_rfl) (by kernel_rfl)) (Abu rfl) AAq NL
theorem ASu:Ad Tryz.prog 42 (AF 1 3 Ge Gd Hy fun x=>CB (TW x)):=HF GS Tryz.func42 (by kernel_rfl) (by kernel_rfl) rfl AAq NL
def Ox[Lk]:Env:=Env.XA Oy 42 false (AF 1 3 Ge Gd Hy fun x=>CB (TW x)) (FU 1 3 Ge Gd Hy 92 [.i64] LJ TW)
theorem IH:AH Tryz.prog Ox:=Env.Om GS ASu ASv (by simp)
abbrev Ij:AB:=[(.tmp 0,.dat (.prod (.prod (.int .i64) (.prod (.slice (.prod (.int .i64) (.prod (.int .i64) (.prod (.int .i64) (.prod .bool .unit))))) .unit)) (.prod (.int .i64) (.prod (.int .i64) .unit)))),(.tmp 1,.dat (.prod (.int .i64) (.prod (.slice (.prod (.int .i64) (.prod (.int .i64) .unit))) (.prod (.slice (.prod (.int .i64) (.prod (.int .i64) (.prod (.int .i64) .unit)))) .unit)))),(.tmp 2,.dat (.prod (.int .i64) (.prod (.int .i64) (.prod (.prod (.int .i64) (.prod (.int .i64) (.prod (.slice (.arr 2 (.int .i64))) .unit))) .unit))))]
abbrev Ii:AB:=[(.tmp 0,.dat (.prod (.prod (.int .i64) (.prod (.slice (.prod (.int .i64) (.prod (.int .i64) (.prod (.int .i64) (.prod .bool .unit))))) .unit)) (.prod (.int .i64) (.prod (.int .i64) .unit)))),(.tmp 1,.dat (.prod (.int .i64) (.prod (.int .i64) (.prod (.slice (.int .i64)) .unit))))]
abbrev LH:List RS:=[.one,.one]
abbrev AAp:AB:=[(.tmp 3,.box 4),(.tmp 6,.box 4),(.tmp 7,.box 3),(.cell 0 0,.di),(.cell 0 1,.dat (.slice (.prod (.int .i64) (.prod (.int .i64) (.prod (.int .i64) (.prod .bool .unit)))))),(.cell 0 2,.di),(.cell 0 3,.di),(.cell 1 0,.di),(.cell 1 1,.nil (.prod (.int .i64) (.prod (.int .i64) (.prod (.int .i64) (.prod .bool .unit))))),(.cell 1 2,.di),(.cell 1 3,.di),(.cell 2 0,.di),(.cell 2 1,.di),(.cell 2 2,.nil (.int .i64)),(.tmp 4,.box 3),(.cell 3 0,.di),(.cell 3 1,.dat (.slice (.prod (.int .i64) (.prod (.int .i64) .unit)))),(.cell 3 2,.dat (.slice (.prod (.int .i64) (.prod (.int .i64) (.prod (.int .i64) .unit))))),(.tmp 5,.box 5),(.cell 4 0,.di),(.cell 4 1,.di),(.cell 4 2,.di),(.cell 4 3,.di),(.cell 4 4,.dat (.slice (.arr 2 (.int .i64))))]
def MZ[Lk]:Hints:={ fp:=Li [(6,[[],[10],[10],[10],[],[10],[10],[10],[3],[5]])] }
def TV:Hints:={ fp:=Li [(3,[[0],[20],[20],[],[3],[5]])] }
def Wm[Lk](v:Ag (leaves Ij)):Option (Ag (leaves Ii)):=Lk.f (MW Tryz.prog Ox Tryz.f28 2 Ij Ii LH {} MZ TV AAp 3 v)
theorem ANS(v):Wm v=MW Tryz.prog Ox Tryz.f28 2 Ij Ii LH {} MZ TV AAp 3 v:=AD _
theorem Wl[DfI]:Ax Tryz.prog 3 MZ (ABj 2 (BC Tryz.f28)) 0:=Bw _ 0 (by kernel_rfl)
theorem AAo:Ad Tryz.prog 28 (AF 0 3 Ij Ii LH Wm):=AAf IH.1 IH.2.1 IH.2.2 Tryz.func28 (EI (by kernel_rfl)) (BS Tryz.func28 (by kernel_rfl) (by kernel_rfl)) (Abu rfl) ANS Wl
def L9[Lk]:Env:=Ox.ext 28 true true (AF 0 3 Ij Ii LH Wm)
theorem FE:AH Tryz.prog L9:=Env.BQ IH AAo (fun _=>Hr rfl rfl) (fun _=>BZ rfl rfl)
abbrev Eu:AB:=[(.tmp 0,.box 2),(.cell 0 0,.dat (.slice (.int .u8))),(.cell 0 1,.di),(.tmp 1,.clo 82 [])]
abbrev Et:AB:=[(.tmp 0,.di),(.obj 0,.box 2),(.cell 0 0,.dat (.slice (.int .u8))),(.cell 0 1,.di)]
abbrev Fx:List RS:=[.one]
abbrev IT:AB:=[(.obj 0,.box 2)]
def O2[Lk]:Hints:={ fp:=Li [(1,[[],[0],[0],[0],[],[0],[0],[0],[],[]]),(3,[[],[0],[0],[0],[],[0],[0],[0],[],[],[],[]])] }
def MO[Lk](v:Ag (leaves Eu)):Option (Ag (leaves Et)⊕(List Int×Ag (leaves IT))):=Lk.f (CM 1 Tryz.prog L9 O2 Tryz.f81 Eu Et Fx 113 [.i64,.i64] IT v)
theorem SZ(v):MO v=CM 1 Tryz.prog L9 O2 Tryz.f81 Eu Et Fx 113 [.i64,.i64] IT v:=AD _
theorem Kt:Ax Tryz.prog 1 O2 (BC Tryz.f81) 0:=Bw _ 0 (by kernel_rfl)
theorem ALA:Ep Tryz.prog 81 (AF 1 2 Eu Et Fx fun x=>CB (MO x)) (FU 1 2 Eu Et Fx 113 [.i64,.i64] IT MO):=HH FE.1 FE.2.1 FE.2.2 Tryz.func81 (EI (by kernel_rfl)) (BS Tryz.func81 (by kernel_rfl) (by kernel_rfl)) (Abu rfl) SZ Kt
theorem AK9:Ad Tryz.prog 81 (AF 1 2 Eu Et Fx fun x=>CB (MO x)):=HF FE Tryz.func81 (by kernel_rfl) (by kernel_rfl) rfl SZ Kt
def L8[Lk]:Env:=Env.NS L9 81 1 82 (AF 1 2 Eu Et Fx fun x=>CB (MO x)) (FU 1 2 Eu Et Fx 113 [.i64,.i64] IT MO)
theorem FC:AH Tryz.prog L8:=Env.ABD FE AK9 ALA (BZ rfl rfl)
abbrev Es:AB:=[(.tmp 0,.box 2),(.cell 0 0,.dat (.slice (.int .u8))),(.cell 0 1,.di),(.tmp 1,.clo 84 [])]
abbrev Er:AB:=[(.tmp 0,.di),(.obj 0,.box 2),(.cell 0 0,.dat (.slice (.int .u8))),(.cell 0 1,.di)]
abbrev Fw:List RS:=[.one]
abbrev IS:AB:=[(.obj 0,.box 2)]
def O1[Lk]:Hints:={ fp:=Li [(1,[[],[0],[0],[0],[],[0],[0],[0],[],[]]),(3,[[],[0],[0],[0],[],[0],[0],[0],[],[],[],[]])] }
def MN[Lk](v:Ag (leaves Es)):Option (Ag (leaves Er)⊕(List Int×Ag (leaves IS))):=Lk.f (CM 1 Tryz.prog L8 O1 Tryz.f81 Es Er Fw 113 [.i64,.i64] IS v)
theorem SY(v):MN v=CM 1 Tryz.prog L8 O1 Tryz.f81 Es Er Fw 113 [.i64,.i64] IS v:=AD _
theorem Ks:Ax Tryz.prog 1 O1 (BC Tryz.f81) 0:=Bw _ 0 (by kernel_rfl)
theorem AK8:Ep Tryz.prog 81 (AF 1 2 Es Er Fw fun x=>CB (MN x)) (FU 1 2 Es Er Fw 113 [.i64,.i64] IS MN):=HH FC.1 FC.2.1 FC.2.2 Tryz.func81 (EI (by kernel_rfl)) (BS Tryz.func81 (by kernel_rfl) (by kernel_rfl)) (Abu rfl) SY Ks
theorem AK7:Ad Tryz.prog 81 (AF 1 2 Es Er Fw fun x=>CB (MN x)):=HF FC Tryz.func81 (by kernel_rfl) (by kernel_rfl) rfl SY Ks
def L7[Lk]:Env:=Env.NS L8 81 1 84 (AF 1 2 Es Er Fw fun x=>CB (MN x)) (FU 1 2 Es Er Fw 113 [.i64,.i64] IS MN)
theorem FA:AH Tryz.prog L7:=Env.ABD FC AK7 AK8 (BZ rfl rfl)
abbrev GZ:AB:=[(.tmp 0,.box 2),(.cell 0 0,.dat (.slice (.int .u8))),(.cell 0 1,.di)]
abbrev GY:AB:=[(.tmp 0,.di),(.obj 0,.box 2),(.cell 0 0,.dat (.slice (.int .u8))),(.cell 0 1,.di)]
abbrev Hd:List RS:=[.one]
abbrev Kr:AB:=[(.obj 0,.box 2)]
def VV[Lk]:Hints:={ fp:=Li [(1,[[],[0],[0],[0],[],[0],[0],[0],[],[],[],[],[],[]])] }
def SV[Lk](v:Ag (leaves GZ)):Option (Ag (leaves GY)⊕(List Int×Ag (leaves Kr))):=Lk.f (CM 1 Tryz.prog L7 VV Tryz.f83 GZ GY Hd 113 [.i64,.i64] Kr v)
theorem Yg(v):SV v=CM 1 Tryz.prog L7 VV Tryz.f83 GZ GY Hd 113 [.i64,.i64] Kr v:=AD _
theorem M1:Ax Tryz.prog 1 VV (BC Tryz.f83) 0:=Bw _ 0 (by kernel_rfl)
theorem APh:Ep Tryz.prog 83 (AF 1 1 GZ GY Hd fun x=>CB (SV x)) (FU 1 1 GZ GY Hd 113 [.i64,.i64] Kr SV):=HH FA.1 FA.2.1 FA.2.2 Tryz.func83 (EI (by kernel_rfl)) (BS Tryz.func83 (by kernel_rfl) (by kernel_rfl)) (Abu rfl) Yg M1
theorem APg:Ad Tryz.prog 83 (AF 1 1 GZ GY Hd fun x=>CB (SV x)):=HF FA Tryz.func83 (by kernel_rfl) (by kernel_rfl) rfl Yg M1
def Js[Lk]:Env:=Env.XA L7 83 true (AF 1 1 GZ GY Hd fun x=>CB (SV x)) (FU 1 1 GZ GY Hd 113 [.i64,.i64] Kr SV)
theorem DH:AH Tryz.prog Js:=Env.Om FA APg APh (fun _=>BZ rfl rfl)
abbrev JR:AB:=[(.tmp 0,.box 2),(.cell 0 0,.dat (.slice (.int .u8))),(.cell 0 1,.di),(.tmp 2,.box 3),(.cell 1 0,.di),(.cell 1 1,.own 63 (.prod (.int .i64) (.prod (.int .i64) .unit))),(.cell 1 2,.own 132 (.prod (.int .i64) (.prod (.int .i64) (.prod (.int .i64) .unit)))),(.tmp 19,.di),(.tmp 20,.di)]
abbrev JQ:AT:=[(.exit 0,[(.tmp 0,.box 2),(.cell 0 0,.dat (.slice (.int .u8))),(.cell 0 1,.di),(.tmp 2,.box 3),(.cell 1 0,.di),(.cell 1 1,.own 63 (.prod (.int .i64) (.prod (.int .i64) .unit))),(.cell 1 2,.own 132 (.prod (.int .i64) (.prod (.int .i64) (.prod (.int .i64) .unit))))])]
abbrev JP:AB:=[(.obj 0,.box 2)]
def Sb[Lk]:Hints:={ fp:=Li [(9,[[2],[2],[],[1000005,1],[],[1000005,1],[],[1000005,1],[],[],[7,32],[2],[3]]),(10,[[2],[2],[],[1000005,1],[],[1000005,1],[],[],[5,24],[2],[3]])] }
theorem Ku:Ax Tryz.prog 1 { fp:=Li [(9,[[2],[2],[],[1000005,1],[],[1000005,1],[],[1000005,1],[],[],[7,32],[2],[3]]),(10,[[2],[2],[],[1000005,1],[],[1000005,1],[],[],[5,24],[2],[3]])],loop:=fun _=>Ht 1 49 JR JQ 113 [.i64,.i64] JP (F9 Tryz.prog Js Sb 1 1 49 (CA Tryz.f55 0) JR JQ 113 [.i64,.i64] JP) } (BC Tryz.f55) 0:=Na (l:=[(0,(CA Tryz.f55 0))]) (by kernel_rfl) ⟨Pn DH.1 DH.2.1 DH.2.2 (fun _=>rfl) (Bw _ _ (by kernel_rfl)),trivial⟩
abbrev Ew:AB:=[(.tmp 0,.box 2),(.cell 0 0,.dat (.slice (.int .u8))),(.cell 0 1,.di)]
abbrev Ev:AB:=[(.tmp 0,.dat (.prod (.int .i64) (.prod (.slice (.prod (.int .i64) (.prod (.int .i64) .unit))) (.prod (.slice (.prod (.int .i64) (.prod (.int .i64) (.prod (.int .i64) .unit)))) .unit)))),(.obj 0,.box 2),(.cell 0 0,.dat (.slice (.int .u8))),(.cell 0 1,.di)]
abbrev Fy:List RS:=[.one]
abbrev IV:AB:=[(.obj 0,.box 2)]
def Yj[Lk]:Hints:={ fp:=Li [(9,[[2],[2],[],[1000005,1],[],[1000005,1],[],[1000005,1],[],[],[7,32],[2],[3]]),(10,[[2],[2],[],[1000005,1],[],[1000005,1],[],[],[5,24],[2],[3]])],loop:=fun _=>Ht 1 49 JR JQ 113 [.i64,.i64] JP (F9 Tryz.prog Js Sb 1 1 49 (CA Tryz.f55 0) JR JQ 113 [.i64,.i64] JP) }
def MP[Lk](v:Ag (leaves Ew)):Option (Ag (leaves Ev)⊕(List Int×Ag (leaves IV))):=Lk.f (CM 1 Tryz.prog Js Yj Tryz.f55 Ew Ev Fy 113 [.i64,.i64] IV v)
theorem Sc(v):MP v=CM 1 Tryz.prog Js Yj Tryz.f55 Ew Ev Fy 113 [.i64,.i64] IV v:=AD _
theorem ALC:Ep Tryz.prog 55 (AF 1 1 Ew Ev Fy fun x=>CB (MP x)) (FU 1 1 Ew Ev Fy 113 [.i64,.i64] IV MP):=HH DH.1 DH.2.1 DH.2.2 Tryz.func55 (EI (by kernel_rfl)) (BS Tryz.func55 (by kernel_rfl) (by kernel_rfl)) (Abu rfl) Sc Ku
theorem ALB:Ad Tryz.prog 55 (AF 1 1 Ew Ev Fy fun x=>CB (MP x)):=HF DH Tryz.func55 (by kernel_rfl) (by kernel_rfl) rfl Sc Ku
def JB[Lk]:Env:=Env.XA Js 55 false (AF 1 1 Ew Ev Fy fun x=>CB (MP x)) (FU 1 1 Ew Ev Fy 113 [.i64,.i64] IV MP)
theorem FD:AH Tryz.prog JB:=Env.Om DH ALB ALC (by simp)
abbrev Hi:AB:=[(.tmp 3,.box 1),(.tmp 4,.box 1),(.cell 0 0,.di),(.cell 1 0,.di),(.tmp 5,.box 2),(.cell 2 0,.dat (.slice (.int .u8))),(.cell 2 1,.di),(.tmp 0,.dat (.slice (.int .u8))),(.tmp 2,.own 36 (.prod (.int .i64) (.prod (.slice (.prod (.int .i64) (.prod (.int .i64) .unit))) (.prod (.slice (.prod (.int .i64) (.prod (.int .i64) (.prod (.int .i64) .unit)))) .unit))))]
abbrev Hh:AT:=[(.exit 0,[(.tmp 3,.box 1),(.tmp 4,.box 1),(.cell 0 0,.di),(.cell 1 0,.di),(.tmp 5,.box 2),(.cell 2 0,.dat (.slice (.int .u8))),(.cell 2 1,.di),(.tmp 0,.dat (.slice (.int .u8))),(.tmp 2,.own 36 (.prod (.int .i64) (.prod (.slice (.prod (.int .i64) (.prod (.int .i64) .unit))) (.prod (.slice (.prod (.int .i64) (.prod (.int .i64) (.prod (.int .i64) .unit)))) .unit))))])]
abbrev Hg:AB:=[(.tmp 3,.box 1),(.tmp 4,.box 1),(.cell 0 0,.di),(.cell 1 0,.di),(.tmp 2,.own 36 (.prod (.int .i64) (.prod (.slice (.prod (.int .i64) (.prod (.int .i64) .unit))) (.prod (.slice (.prod (.int .i64) (.prod (.int .i64) (.prod (.int .i64) .unit)))) .unit))))]
def O6[Lk]:Hints:={}
theorem RQ[DfI]:Ax Tryz.prog 2 { fp:=Li [(5,[[],[],[4],[4],[4],[],[1],[3]])],loop:=fun _=>Ht 2 27 Hi Hh 113 [.i64,.i64] Hg (F9 Tryz.prog JB O6 1 2 27 (CA Tryz.f33 0) Hi Hh 113 [.i64,.i64] Hg) } (ABj 1 (BC Tryz.f33)) 0:=Na (l:=[(0,(CA Tryz.f33 0))]) (by kernel_rfl) ⟨Pn FD.1 FD.2.1 FD.2.2 (fun _=>rfl) (Bw _ _ (by kernel_rfl)),trivial⟩
def Jt[Lk]:Env:=JB.ext 54 false false (BN Tryz.prog JB {} Tryz.f54)
theorem Fm:AH Tryz.prog Jt:=Env.BQ FD (A7 FD Tryz.func54 (by kernel_rfl) (by kernel_rfl) (by kernel_rfl)) (by simp) (by simp)
abbrev G9:AB:=[(.tmp 0,.dat (.slice (.int .u8)))]
abbrev G8:AB:=[(.tmp 0,.dat (.slice (.prod (.int .i64) (.prod (.slice (.prod (.int .i64) (.prod (.int .i64) .unit))) (.prod (.slice (.prod (.int .i64) (.prod (.int .i64) (.prod (.int .i64) .unit)))) .unit))))),(.tmp 1,.di),(.tmp 2,.di)]
abbrev JS:List RS:=[.one,.one,.one]
abbrev Sd:AB:=[(.tmp 3,.box 1),(.tmp 4,.box 1),(.cell 0 0,.di),(.cell 1 0,.di),(.tmp 0,.dat (.slice (.int .u8))),(.tmp 2,.nil (.prod (.int .i64) (.prod (.slice (.prod (.int .i64) (.prod (.int .i64) .unit))) (.prod (.slice (.prod (.int .i64) (.prod (.int .i64) (.prod (.int .i64) .unit)))) .unit))))]
def O5[Lk]:Hints:={ fp:=Li [(5,[[],[],[4],[4],[4],[],[1],[3]])],loop:=fun _=>Ht 2 27 Hi Hh 113 [.i64,.i64] Hg (F9 Tryz.prog JB O6 1 2 27 (CA Tryz.f33 0) Hi Hh 113 [.i64,.i64] Hg) }
def O4:Hints:={ fp:=Li [(2,[[14],[14],[14],[14],[1],[3]])] }
def FY[Lk](v:Ag (leaves G9)):Option (Ag (leaves G8)):=Lk.f (MW Tryz.prog Jt Tryz.f33 1 G9 G8 JS {} O5 O4 Sd 2 v)
theorem AEA(v):FY v=MW Tryz.prog Jt Tryz.f33 1 G9 G8 JS {} O5 O4 Sd 2 v:=AD _
theorem VW:Ad Tryz.prog 33 (AF 0 1 G9 G8 JS FY):=AAf Fm.1 Fm.2.1 Fm.2.2 Tryz.func33 (EI (by kernel_rfl)) (BS Tryz.func33 (by kernel_rfl) (by kernel_rfl)) (Abu rfl) AEA RQ
def T8[Lk]:Env:=Jt.ext 33 true true (AF 0 1 G9 G8 JS FY)
theorem Xn:AH Tryz.prog T8:=Env.BQ Fm VW (fun _=>Hr rfl rfl) (fun _=>BZ rfl rfl)
end
end Go.Pev
end
section
namespace Go.Pev
noncomputable section
abbrev AB3:AB:=[(.tmp 0,.dat V4),(.tmp 1,.dat U2)]
def AB4[Lk]:(Ui×U1×Unit)→Option (Ua):=fun(a0,a1,_)=>
 match ASh (a0.1,())with|none=>none|some (y0,_)=>some ((IntKind.wrap .i64 (y0-a1.2.2.1)),())
def Xc[Lk]:=fun v=>Lk.f (AB4 v)
theorem AOn v:Xc v=AB4 v:=AD _
abbrev AO2:AB:=[(.tmp 1,.box 2),(.cell 0 0,.di),(.cell 0 1,.dat Us),(.tmp 2,.di),(.tmp 9,.dat Us),(.tmp 10,.di),(.tmp 11,.di)]
def AO1[Lk]:Vn→Option (Vn⊕Ua⊕Unit):=fun(a0,a1,a2,a3,a4,a5,_)=>
 match(ilt a5 a4)with
 |true=>match idx a3 a5 with|none=>none|some x0=>match Xc ((a0,(a1,())),(x0.1,(x0.2.1,(x0.2.2.1,(x0.2.2.2.1,())))),())with|none=>none|some (y1,_)=>some (.inl (a0,a1,(IntKind.wrap .i64 (a2+y1)),a3,a4,(IntKind.wrap .i64 (a5+1)),()))
 |false=>some (.inr (.inl (a2,())))
def AB6[Lk]:(Ui×Unit)→Option (Ua):=fun(a0,_)=>
 match Cg ((a0.1,(a0.2.1,())),())with|none=>none|some (y0,_)=>match(!y0)with
 |true=>some (0,())
 |false=>match AQ AO1 many (a0.1,a0.2.1,0,a0.2.1,(AJ a0.2.1),0,())with|none=>none|some r=>match r with
 |.inl (o1,_)=>some (o1,())
 |.inr _=>none
def G6[Lk]:=fun v=>Lk.f (AB6 v)
theorem AO3 v:G6 v=AB6 v:=AD _
abbrev AJ2:AB:=[(.tmp 0,.box 7),(.cell 0 0,.di),(.cell 0 1,.dat Us),(.cell 0 2,.di),(.cell 0 3,.di),(.cell 0 4,.di),(.cell 0 5,.di),(.cell 0 6,.di),(.tmp 1,.dat V8)]
abbrev AJ1:AB:=[(.obj 0,.box 7),(.cell 0 0,.di),(.cell 0 1,.dat Us),(.cell 0 2,.di),(.cell 0 3,.di),(.cell 0 4,.di),(.cell 0 5,.di),(.cell 0 6,.di)]
abbrev AUi:AB:=[(.obj 0,.box 7),(.cell 0 0,.di),(.cell 0 1,.dat Us),(.cell 0 2,.di),(.cell 0 3,.di),(.cell 0 4,.di),(.cell 0 5,.di),(.cell 0 6,.di),(.tmp 0,.ptr' 0 0),(.tmp 10,.dat V8),(.tmp 11,.di),(.tmp 12,.di)]
abbrev AUh:AT:=[(.ret,[(.obj 0,.box 7),(.cell 0 0,.di),(.cell 0 1,.dat Us),(.cell 0 2,.di),(.cell 0 3,.di),(.cell 0 4,.di),(.cell 0 5,.di),(.cell 0 6,.di)]),(.exit 0,[(.obj 0,.box 7),(.cell 0 0,.di),(.cell 0 1,.dat Us),(.cell 0 2,.di),(.cell 0 3,.di),(.cell 0 4,.di),(.cell 0 5,.di),(.cell 0 6,.di)])]
def AUg[Lk]:(Int×List U1×Int×Int×Int×Int×Int×List U4×Int×Int×Unit)→Option ((Int×List U1×Int×Int×Int×Int×Int×List U4×Int×Int×Unit)⊕(Int×List U1×Int×Int×Int×Int×Int×Unit)⊕(Int×List U1×Int×Int×Int×Int×Int×Unit)⊕Unit):=fun(a0,a1,a2,a3,a4,a5,a6,a7,a8,a9,_)=>
 match(ilt a9 a8)with
 |true=>match idx a7 a9 with|none=>none|some x0=>match AJT ((a0,(a1,())),x0.1,x0.2.1,())with|none=>none|some (y1,_)=>match(ilt y1 0)with
  |true=>some (.inr (.inl (a0,a1,a2,a3,a4,a5,a6,())))
  |false=>match idx a1 y1 with|none=>none|some x2=>match Xc ((a0,(a1,())),(x2.1,(x2.2.1,(x2.2.2.1,(x2.2.2.2.1,())))),())with|none=>none|some (y3,_)=>match AWp ((a0,(a1,())),x0.1,x0.2.1,())with|none=>none|some (y4,y5,y6,y7,_)=>some (.inl (y4,y5,a2,(IntKind.wrap .i64 (a3+1)),(IntKind.wrap .i64 (a4+y6.2.2.2.1)),(IntKind.wrap .i64 (a5+y3)),a6,a7,a8,(IntKind.wrap .i64 (a9+1)),()))
 |false=>some (.inr (.inr (.inl (a0,a1,a2,a3,a4,a5,a6,()))))
def AJ3[Lk]:(Int×List U1×Int×Int×Int×Int×Int×List U4×Unit)→Option ((Int×List U1×Int×Int×Int×Int×Int×Unit)):=fun(a0,a1,a2,a3,a4,a5,a6,a7,_)=>
 match AQ AUg many (a0,a1,a2,a3,a4,a5,a6,a7,(AJ a7),0,())with|none=>none|some r=>match r with
 |.inl (o0,o1,o2,o3,o4,o5,o6,_)=>some (o0,o1,o2,o3,o4,o5,o6,())
 |.inr r=>match r with
 |.inl (o7,o8,o9,o10,o11,o12,o13,_)=>some (o7,o8,o9,o10,o11,o12,o13,())
 |.inr _=>none
def AUk[Lk]:=fun v=>Lk.f (AJ3 v)
theorem AUj v:AUk v=AJ3 v:=AD _
abbrev AJ4:AB:=[(.tmp 0,.dat V4),(.tmp 1,.dat (.prod U0 Ub)),(.tmp 2,.di)]
def AJ5[Lk]:(Ui×Vh×(Int×Int×Uv×Unit)×Unit)→Option ((Ui×U9×Int×Unit)):=fun(a0,a1,a2,_)=>
 match Wm (((a0.1,(a0.2.1,())),(0,(0,()))),(a1.1,(a1.2.1,(a1.2.2.1,()))),(a2.1,(a2.2.1,((a2.2.2.1.1,(a2.2.2.1.2.1,(a2.2.2.1.2.2.1,()))),()))),())with|none=>none|some (y0,y1,_)=>match(!(ieq y1.1 0))with
 |true=>some ((a0.1,(a0.2.1,())),(0,(0,(0,(0,(0,()))))),y1.1,())
 |false=>match(ieq a1.1 1)with
 |true=>match G6 ((y0.1.1,(y0.1.2.1,())),())with|none=>none|some (y2,_)=>some ((y0.1.1,(y0.1.2.1,())),(y1.2.1,(0,(0,(0,(y2,()))))),0,())
 |false=>match(ieq a1.1 2)with
 |true=>match Zt ((a0.1,(a0.2.1,())),a1.2.1,())with|none=>none|some (y3,y4,_)=>match AUk (a0.1,a0.2.1,0,0,0,0,0,y3,())with|none=>none|some (y5,y6,y7,y8,y9,y10,y11,_)=>match G6 ((y0.1.1,(y0.1.2.1,())),())with|none=>none|some (y12,_)=>some ((y0.1.1,(y0.1.2.1,())),(y7,(y8,(y9,(y10,(y12,()))))),0,())
 |false=>match G6 ((y0.1.1,(y0.1.2.1,())),())with|none=>none|some (y13,_)=>some ((y0.1.1,(y0.1.2.1,())),(0,(0,(0,(0,(y13,()))))),0,())
def B9[Lk]:=fun v=>Lk.f (AJ5 v)
theorem AUn v:B9 v=AJ5 v:=AD _
abbrev AJ7:AB:=[(.tmp 0,.dat V4),(.tmp 1,.dat (.slice (.int .u8))),(.tmp 2,.dat (.prod U0 (.prod U0 (.prod Uo .unit))))]
abbrev AJ6:AB:=[(.tmp 0,.dat V4),(.tmp 1,.own 25 (.prod U0 Ub)),(.tmp 2,.di)]
abbrev AUq:AB:=[(.tmp 3,.box 2),(.cell 0 0,.di),(.cell 0 1,.dat Us),(.tmp 5,.box 5),(.cell 1 0,.di),(.cell 1 1,.di),(.cell 1 2,.di),(.cell 1 3,.di),(.cell 1 4,.dat (.slice (.arr 2 U0))),(.tmp 6,.box 2),(.cell 2 0,.di),(.cell 2 1,.nil U2),(.tmp 11,.di),(.tmp 12,.own 25 (.prod U0 Ub)),(.tmp 28,.dat (.slice (.prod U0 (.prod V8 (.prod Vf .unit))))),(.tmp 29,.di),(.tmp 30,.di)]
abbrev AUp:AT:=[(.exit 0,[(.tmp 3,.box 2),(.cell 0 0,.di),(.cell 0 1,.dat Us),(.tmp 6,.box 2),(.cell 1 0,.di),(.cell 1 1,.nil U2),(.tmp 11,.di),(.tmp 12,.own 25 (.prod U0 Ub))])]
def DB[Lk]:(Int×List U1×Int×Int×Int×Int×List U6×Int×Int×List U9×List Vh×Int×Int×Unit)→Option ((Int×List U1×Int×Int×Int×Int×List U6×Int×Int×List U9×List Vh×Int×Int×Unit)⊕(Int×List U1×Int×Int×List U9×Unit)⊕Unit):=fun(a0,a1,a2,a3,a4,a5,a6,a7,a8,a9,a10,a11,a12,_)=>
 match(ilt a12 a11)with
 |true=>match idx a10 a12 with|none=>none|some x0=>match B9 ((a0,(a1,())),(x0.1,(x0.2.1,(x0.2.2.1,()))),(a2,(a3,((a4,(a5,(a6,()))),()))),())with|none=>none|some (y1,y2,y3,_)=>match(ieq y3 0)with
  |true=>match(fits ((AJ a9)+(AJ ([(y2.1,(y2.2.1,(y2.2.2.1,(y2.2.2.2.1,(y2.2.2.2.2.1,())))))]:List U9))))with
   |true=>some (.inl (y1.1,y1.2.1,a2,a3,a4,a5,a6,a7,a8,(BE a9 ([(y2.1,(y2.2.1,(y2.2.2.1,(y2.2.2.2.1,(y2.2.2.2.2.1,())))))]:List U9)),a10,a11,(IntKind.wrap .i64 (a12+1)),()))
   |false=>none
  |false=>some (.inl (a0,a1,a2,a3,a4,a5,a6,a7,a8,a9,a10,a11,(IntKind.wrap .i64 (a12+1)),()))
 |false=>some (.inr (.inl (a0,a1,a7,a8,a9,())))
def Xf[Lk]:(Ui×List Int×(Int×Int×Uv×Unit)×Unit)→Option ((Ui×List U9×Int×Unit)):=fun(a0,a1,a2,_)=>
 match Cg ((a0.1,(a0.2.1,())),())with|none=>none|some (y0,_)=>match(!y0)with
 |true=>some ((a0.1,(a0.2.1,())),([]:List U9),1,())
 |false=>match FY (a1,())with|none=>none|some (y1,y2,y3,_)=>match AQ DB many (a0.1,a0.2.1,a2.1,a2.2.1,a2.2.2.1.1,a2.2.2.1.2.1,a2.2.2.1.2.2.1,0,y3,([]:List U9),y1,(AJ y1),0,())with|none=>none|some r=>match r with
 |.inl (o4,o5,o6,o7,o8,_)=>some ((o4,(o5,())),o8,o7,())
 |.inr _=>none
def AB8[Lk]:=fun v=>Lk.f (Xf v)
theorem AB7 v:AB8 v=Xf v:=AD _
abbrev En:AB:=[(.tmp 0,.dat U7),(.tmp 1,.clo 39 [])]
abbrev Pw:AB:=[(.tmp 0,.dat U7),(.tmp 1,.clo 39 []),(.tmp 7,.di),(.tmp 8,.di)]
def C7[Lk]:Ud→Option (Ud⊕Ua⊕(Unit)⊕Unit):=fun(a0,a1,a2,_)=>
 match(ilt a2 a1)with
 |true=>match idx a0 a2 with|none=>none|some x0=>match(ilt x0 0)with
  |true=>some (.inr (.inl (a2,())))
  |false=>match(ilt 1073741824 x0)with
  |true=>some (.inr (.inl (a2,())))
  |false=>some (.inl (a0,a1,(IntKind.wrap .i64 (a2+1)),()))
 |false=>some (.inr (.inr (.inl ())))
def G0[Lk]:Uc→Option (Ua):=fun(a0,_)=>
 match AQ C7 many (a0,(AJ a0),0,())with|none=>none|some r=>match r with
 |.inl (o0,_)=>some (o0,())
 |.inr r=>match r with
 |.inl _=>some ((-1:Int),())
 |.inr _=>none
def Gk[Lk]:=fun v=>Lk.f (G0 v)
theorem Iq v:Gk v=G0 v:=AD _
def GO[Lk]:Uc→Option (Uk):=fun(a0,_)=>
 match Gk (a0,())with|none=>none|some (y0,_)=>some ((ile 0 y0),())
def Fi[Lk]:=fun v=>Lk.f (GO v)
theorem IL v:Fi v=GO v:=AD _
abbrev AUd:AB:=[(.tmp 0,.dat (.prod U0 Ub))]
def AHO[Lk]:(U9×Unit)→Option (Uk):=fun(a0,_)=>
 match Fi (([a0.1,a0.2.1,a0.2.2.1,a0.2.2.2.1,a0.2.2.2.2.1]:List (Int)),())with|none=>none|some (y0,_)=>some (y0,())
def AYg[Lk]:=fun v=>Lk.f (AHO v)
theorem AJ0 v:AYg v=AHO v:=AD _
abbrev H4:AB:=[(.tmp 0,.dat (.slice (.prod U0 Ub))),(.tmp 1,.clo 21 [])]
abbrev AAx:AB:=[(.tmp 0,.dat (.slice (.prod U0 Ub))),(.tmp 1,.clo 21 []),(.tmp 7,.di),(.tmp 8,.di)]
def E3[Lk]:(List U9×Int×Int×Unit)→Option ((List U9×Int×Int×Unit)⊕Ua⊕(Unit)⊕Unit):=fun(a0,a1,a2,_)=>
 match(ilt a2 a1)with
 |true=>match idx a0 a2 with|none=>none|some x0=>match AYg ((x0.1,(x0.2.1,(x0.2.2.1,(x0.2.2.2.1,(x0.2.2.2.2.1,()))))),())with|none=>none|some (y1,_)=>match y1 with
  |true=>some (.inr (.inl (a2,())))
  |false=>some (.inl (a0,a1,(IntKind.wrap .i64 (a2+1)),()))
 |false=>some (.inr (.inr (.inl ())))
def KW[Lk]:(List U9×Unit)→Option (Ua):=fun(a0,_)=>
 match AQ E3 many (a0,(AJ a0),0,())with|none=>none|some r=>match r with
 |.inl (o0,_)=>some (o0,())
 |.inr r=>match r with
 |.inl _=>some ((-1:Int),())
 |.inr _=>none
def LO[Lk]:=fun v=>Lk.f (KW v)
theorem NN v:LO v=KW v:=AD _
def I2[Lk]:(List U9×Unit)→Option (Uk):=fun(a0,_)=>
 match LO (a0,())with|none=>none|some (y0,_)=>some ((ile 0 y0),())
def Jn[Lk]:=fun v=>Lk.f (I2 v)
theorem Lx v:Jn v=I2 v:=AD _
abbrev L5:AB:=[(.tmp 0,.dat (.slice (.prod U0 Ub)))]
abbrev L4:AB:=[(.tmp 0,.dat (.prod U0 Ub)),(.tmp 1,.di)]
abbrev AO0:AB:=[(.tmp 2,.box 5),(.cell 0 0,.di),(.cell 0 1,.di),(.cell 0 2,.di),(.cell 0 3,.di),(.cell 0 4,.di),(.tmp 14,.dat (.slice (.prod U0 Ub))),(.tmp 15,.di),(.tmp 16,.di)]
abbrev AOz:AT:=[(.exit 0,[(.tmp 2,.box 5),(.cell 0 0,.di),(.cell 0 1,.di),(.cell 0 2,.di),(.cell 0 3,.di),(.cell 0 4,.di)])]
def HU[Lk]:(Int×Int×Int×Int×Int×List U9×Int×Int×Unit)→Option ((Int×Int×Int×Int×Int×List U9×Int×Int×Unit)⊕U9⊕Unit):=fun(a0,a1,a2,a3,a4,a5,a6,a7,_)=>
 match(ilt a7 a6)with
 |true=>match idx a5 a7 with|none=>none|some x0=>some (.inl ((IntKind.wrap .i64 (a0+x0.1)),(IntKind.wrap .i64 (a1+x0.2.1)),(IntKind.wrap .i64 (a2+x0.2.2.1)),(IntKind.wrap .i64 (a3+x0.2.2.2.1)),x0.2.2.2.2.1,a5,a6,(IntKind.wrap .i64 (a7+1)),()))
 |false=>some (.inr (.inl (a0,a1,a2,a3,a4,())))
def QY[Lk]:(List U9×Unit)→Option ((U9×Int×Unit)):=fun(a0,_)=>
 match(ilt 1000 (AJ a0))with
 |true=>some ((0,(0,(0,(0,(0,()))))),1,())
 |false=>match Jn (a0,())with|none=>none|some (y0,_)=>match y0 with
 |true=>some ((0,(0,(0,(0,(0,()))))),1,())
 |false=>match AQ HU many (0,0,0,0,0,a0,(AJ a0),0,())with|none=>none|some r=>match r with
 |.inl (o1,o2,o3,o4,o5,_)=>some ((o1,(o2,(o3,(o4,(o5,()))))),0,())
 |.inr _=>none
def FQ[Lk]:=fun v=>Lk.f (QY v)
theorem Tz v:FQ v=QY v:=AD _
def I1[Lk]:Ua→Option (Uk):=fun(a0,_)=>
 match(ile 0 a0)with
 |true=>some ((ile a0 1073741824),())
 |false=>some (false,())
def Dw[Lk]:=fun v=>Lk.f (I1 v)
theorem Lw v:Dw v=I1 v:=AD _
abbrev AEE:AB:=[(.tmp 0,.dat (.slice (.prod U0 Ub))),(.tmp 2,.box 5),(.cell 0 0,.di),(.cell 0 1,.di),(.cell 0 2,.di),(.cell 0 3,.di),(.cell 0 4,.di),(.tmp 4,.box 5),(.cell 1 0,.di),(.cell 1 1,.di),(.cell 1 2,.di),(.cell 1 3,.di),(.cell 1 4,.di),(.tmp 5,.di)]
abbrev AED:AT:=[(.ret,[(.tmp 2,.box 5),(.cell 0 0,.di),(.cell 0 1,.di),(.cell 0 2,.di),(.cell 0 3,.di),(.cell 0 4,.di),(.tmp 3,.di)]),(.exit 0,[(.tmp 2,.box 5),(.cell 0 0,.di),(.cell 0 1,.di),(.cell 0 2,.di),(.cell 0 3,.di),(.cell 0 4,.di),(.tmp 4,.box 5),(.cell 1 0,.di),(.cell 1 1,.di),(.cell 1 2,.di),(.cell 1 3,.di),(.cell 1 4,.di)])]
def ET[Lk]:(List U9×Int×Int×Int×Int×Int×Int×Int×Int×Int×Int×Int×Unit)→Option ((List U9×Int×Int×Int×Int×Int×Int×Int×Int×Int×Int×Int×Unit)⊕(Int×Int×Int×Int×Int×Int×Unit)⊕(Int×Int×Int×Int×Int×Int×Int×Int×Int×Int×Unit)⊕Unit):=fun(a0,a1,a2,a3,a4,a5,a6,a7,a8,a9,a10,a11,_)=>
 match(ilt a11 (AJ a0))with
 |true=>match idx a0 a11 with|none=>none|some x0=>match Dw (x0.1,())with|none=>none|some (y1,_)=>match(!y1)with
  |true=>some (.inr (.inl (0,0,0,0,0,1,())))
  |false=>match Dw (x0.2.1,())with|none=>none|some (y2,_)=>match(!y2)with
  |true=>some (.inr (.inl (0,0,0,0,0,1,())))
  |false=>match Dw (x0.2.2.1,())with|none=>none|some (y3,_)=>match(!y3)with
  |true=>some (.inr (.inl (0,0,0,0,0,1,())))
  |false=>match Dw (x0.2.2.2.1,())with|none=>none|some (y4,_)=>match(!y4)with
  |true=>some (.inr (.inl (0,0,0,0,0,1,())))
  |false=>match Dw (x0.2.2.2.2.1,())with|none=>none|some (y5,_)=>match(!y5)with
  |true=>some (.inr (.inl (0,0,0,0,0,1,())))
  |false=>some (.inl (a0,a1,a2,a3,a4,a5,(IntKind.wrap .i64 (a6+x0.1)),(IntKind.wrap .i64 (a7+x0.2.1)),(IntKind.wrap .i64 (a8+x0.2.2.1)),(IntKind.wrap .i64 (a9+x0.2.2.2.1)),x0.2.2.2.2.1,(IntKind.wrap .i64 (a11+1)),()))
 |false=>some (.inr (.inr (.inl (a1,a2,a3,a4,a5,a6,a7,a8,a9,a10,()))))
def MS[Lk]:(List U9×Unit)→Option ((U9×Int×Unit)):=fun(a0,_)=>
 match(ilt 1000 (AJ a0))with
 |true=>some ((0,(0,(0,(0,(0,()))))),1,())
 |false=>match AQ ET many (a0,0,0,0,0,0,0,0,0,0,0,0,())with|none=>none|some r=>match r with
 |.inl (o0,o1,o2,o3,o4,o5,_)=>some ((o0,(o1,(o2,(o3,(o4,()))))),o5,())
 |.inr r=>match r with
 |.inl (o6,o7,o8,o9,o10,o11,o12,o13,o14,o15,_)=>some ((o11,(o12,(o13,(o14,(o15,()))))),0,())
 |.inr _=>none
def OQ[Lk]:=fun v=>Lk.f (MS v)
theorem PA v:OQ v=MS v:=AD _
abbrev HB:AB:=[(.tmp 0,.dat (.slice (.prod U0 Ub))),(.tmp 1,.dat (.slice (.prod U0 Ub)))]
abbrev ALw:AB:=[(.tmp 0,.dat (.slice (.prod U0 Ub))),(.tmp 1,.dat (.slice (.prod U0 Ub))),(.tmp 5,.di)]
abbrev ALv:AT:=[(.ret,[(.tmp 4,.dat .bool)]),(.exit 0,[])]
def ALu[Lk]:(List U9×List U9×Int×Unit)→Option ((List U9×List U9×Int×Unit)⊕Uk⊕(Unit)⊕Unit):=fun(a0,a1,a2,_)=>
 match(ilt a2 (AJ a0))with
 |true=>match idx a0 a2 with|none=>none|some x0=>match idx a1 a2 with|none=>none|some x1=>match(!(ieq x0.1 x1.1&&(ieq x0.2.1 x1.2.1&&(ieq x0.2.2.1 x1.2.2.1&&(ieq x0.2.2.2.1 x1.2.2.2.1&&(ieq x0.2.2.2.2.1 x1.2.2.2.2.1&&true))))))with
  |true=>some (.inr (.inl (false,())))
  |false=>some (.inl (a0,a1,(IntKind.wrap .i64 (a2+1)),()))
 |false=>some (.inr (.inr (.inl ())))
def ZN[Lk]:(List U9×List U9×Unit)→Option (Uk):=fun(a0,a1,_)=>
 match(!(ieq (AJ a0) (AJ a1)))with
 |true=>some (false,())
 |false=>match AQ ALu many (a0,a1,0,())with|none=>none|some r=>match r with
 |.inl (o0,_)=>some (o0,())
 |.inr r=>match r with
 |.inl _=>some (true,())
 |.inr _=>none
def KI[Lk]:=fun v=>Lk.f (ZN v)
theorem ALx v:KI v=ZN v:=AD _
abbrev OP:AB:=[]
abbrev AII:AB:=[(.tmp 0,.dat (.prod U0 (.prod U0 (.prod Uo .unit))))]
def AIJ[Lk]:(Unit)→Option (((Int×Int×Uv×Unit)×Unit)):=fun _=>
 some ((8,(4,((2,(2,(([]:List U6),()))),()))),())
def Jz[Lk]:=fun v=>Lk.f (AIJ v)
theorem APl v:Jz v=AIJ v:=AD _
def Ms[Lk]:(Unit)→Option (Uk):=fun _=>
 match Jz ()with|none=>none|some (y0,_)=>match B9 ((6,(([]:List U1),())),(1,(([(0,(1,())),(1,(2,())),(2,(0,())),(3,(4,())),(4,(5,())),(5,(3,())),(2,(3,()))]:List U4),(([]:List Ue),()))),y0,())with|none=>none|some (y1,y2,y3,_)=>match Jz ()with|none=>none|some (y4,_)=>match B9 ((y1.1,(y1.2.1,())),(2,(([(3,(2,())),(0,(1,())),(0,(5,()))]:List U4),(([]:List Ue),()))),y4,())with|none=>none|some (y5,y6,y7,_)=>match Jz ()with|none=>none|some (y8,_)=>match AB8 ((6,(([]:List U1),())),([1,0,2,0,0,0,1,0,0,0,2,1,0,1,0,0,0,9,2,0,1,0,0,0,1,8]:List (Int)),y8,())with|none=>none|some (y9,y10,y11,_)=>match FQ (([(y2.1,(y2.2.1,(y2.2.2.1,(y2.2.2.2.1,(y2.2.2.2.2.1,()))))),(y6.1,(y6.2.1,(y6.2.2.1,(y6.2.2.2.1,(y6.2.2.2.2.1,())))))]:List U9),())with|none=>none|some (y12,y13,_)=>match Jz ()with|none=>none|some (y14,_)=>match B9 ((y1.1,(y1.2.1,())),(9,(([]:List U4),(([]:List Ue),()))),y14,())with|none=>none|some (y15,y16,y17,_)=>match(ieq y3 0)with
 |true=>match(ieq y7 0)with
  |true=>match(ieq y11 8)with
   |true=>match(ieq y13 0)with
    |true=>match(ieq y17 1)with
     |true=>match(ieq y2.1 7&&(ieq y2.2.1 0&&(ieq y2.2.2.1 0&&(ieq y2.2.2.2.1 0&&(ieq y2.2.2.2.2.1 21&&true)))))with
      |true=>match(ieq y6.1 0&&(ieq y6.2.1 2&&(ieq y6.2.2.1 2&&(ieq y6.2.2.2.1 6&&(ieq y6.2.2.2.2.1 13&&true)))))with
       |true=>match(ieq (AJ y5.2.1) 5)with
        |true=>match(ieq (AJ y9.2.1) 1)with
         |true=>match KI (y10,([(2,(0,(0,(0,(6,()))))),(0,(1,(0,(3,(3,())))))]:List U9),())with|none=>none|some (y18,_)=>match y18 with
          |true=>match(ieq y12.1 7&&(ieq y12.2.1 2&&(ieq y12.2.2.1 2&&(ieq y12.2.2.2.1 6&&(ieq y12.2.2.2.2.1 13&&true)))))with
           |true=>match G6 ((y1.1,(y1.2.1,())),())with|none=>none|some (y19,_)=>some ((ieq y19 21),())
           |false=>some (false,())
          |false=>some (false,())
         |false=>some (false,())
        |false=>some (false,())
       |false=>some (false,())
      |false=>some (false,())
     |false=>some (false,())
    |false=>some (false,())
   |false=>some (false,())
  |false=>some (false,())
 |false=>some (false,())
def Ow[Lk]:=fun v=>Lk.f (Ms v)
theorem Qb v:Ow v=Ms v:=AD _
def IE[Lk]:(List U9×List U9×Unit)→Option (Uk):=fun(a0,a1,_)=>
 match Ow ()with|none=>none|some (y0,_)=>match(!y0)with
 |true=>some (false,())
 |false=>match(ilt 300 (AJ a0))with
 |true=>some (true,())
 |false=>match(ilt 300 (AJ a1))with
 |true=>some (true,())
 |false=>match FQ (a0,())with|none=>none|some (y1,y2,_)=>match OQ (a0,())with|none=>none|some (y3,y4,_)=>match FQ (a1,())with|none=>none|some (y5,y6,_)=>match(fits ((AJ ([]:List U9))+(AJ a0)))with
 |true=>match(fits ((AJ (BE ([]:List U9) a0))+(AJ a1)))with
  |true=>match FQ ((BE (BE ([]:List U9) a0) a1),())with|none=>none|some (y7,y8,_)=>match(!(ieq y1.1 y3.1&&(ieq y1.2.1 y3.2.1&&(ieq y1.2.2.1 y3.2.2.1&&(ieq y1.2.2.2.1 y3.2.2.2.1&&(ieq y1.2.2.2.2.1 y3.2.2.2.2.1&&true))))))with
   |true=>some (false,())
   |false=>match(!(ieq y2 y4))with
   |true=>some (false,())
   |false=>match(ieq y2 0)with
   |true=>match(!((ieq y8 0)==(ieq y6 0)))with
    |true=>some (false,())
    |false=>match(!(ieq y8 0))with
    |true=>some ((ieq y7.1 0&&(ieq y7.2.1 0&&(ieq y7.2.2.1 0&&(ieq y7.2.2.2.1 0&&(ieq y7.2.2.2.2.1 0&&true))))),())
    |false=>match(ieq (AJ a1) 0)with
    |true=>some ((ieq y7.1 (IntKind.wrap .i64 (y1.1+y5.1))&&(ieq y7.2.1 (IntKind.wrap .i64 (y1.2.1+y5.2.1))&&(ieq y7.2.2.1 (IntKind.wrap .i64 (y1.2.2.1+y5.2.2.1))&&(ieq y7.2.2.2.1 (IntKind.wrap .i64 (y1.2.2.2.1+y5.2.2.2.1))&&(ieq y7.2.2.2.2.1 y1.2.2.2.2.1&&true))))),())
    |false=>some ((ieq y7.1 (IntKind.wrap .i64 (y1.1+y5.1))&&(ieq y7.2.1 (IntKind.wrap .i64 (y1.2.1+y5.2.1))&&(ieq y7.2.2.1 (IntKind.wrap .i64 (y1.2.2.1+y5.2.2.1))&&(ieq y7.2.2.2.1 (IntKind.wrap .i64 (y1.2.2.2.1+y5.2.2.2.1))&&(ieq y7.2.2.2.2.1 y5.2.2.2.2.1&&true))))),())
   |false=>match(!((ieq y8 0)==false))with
   |true=>some (false,())
   |false=>match(!(ieq y8 0))with
   |true=>some ((ieq y7.1 0&&(ieq y7.2.1 0&&(ieq y7.2.2.1 0&&(ieq y7.2.2.2.1 0&&(ieq y7.2.2.2.2.1 0&&true))))),())
   |false=>match(ieq (AJ a1) 0)with
   |true=>some ((ieq y7.1 (IntKind.wrap .i64 (y1.1+y5.1))&&(ieq y7.2.1 (IntKind.wrap .i64 (y1.2.1+y5.2.1))&&(ieq y7.2.2.1 (IntKind.wrap .i64 (y1.2.2.1+y5.2.2.1))&&(ieq y7.2.2.2.1 (IntKind.wrap .i64 (y1.2.2.2.1+y5.2.2.2.1))&&(ieq y7.2.2.2.2.1 y1.2.2.2.2.1&&true))))),())
   |false=>some ((ieq y7.1 (IntKind.wrap .i64 (y1.1+y5.1))&&(ieq y7.2.1 (IntKind.wrap .i64 (y1.2.1+y5.2.1))&&(ieq y7.2.2.1 (IntKind.wrap .i64 (y1.2.2.1+y5.2.2.1))&&(ieq y7.2.2.2.1 (IntKind.wrap .i64 (y1.2.2.2.1+y5.2.2.2.1))&&(ieq y7.2.2.2.2.1 y5.2.2.2.2.1&&true))))),())
  |false=>none
 |false=>none
def Dm[Lk]:=fun v=>Lk.f (IE v)
theorem J9 v:Dm v=IE v:=AD _
end
end Go.Pev
end
section
namespace Go.Pev.Pl
abbrev P5:=Int×Int×Int×Int×Int×Unit
def odN(x:Int):Bool:=decide (x<0∨1073741824<x)
theorem AbL(xs:List Int)(h:xs.length<9223372036854775808):Gk (xs,())=some (if xs.any odN then((xs.findIdx odN:Nat):Int)else -1,()):=by
 rw[Iq,G0]
 have e:=AZL (step:=C7) (fun i=>(xs,AJ xs,(i:Int),())) xs odN (fun i=>.inl ((i:Int),())) (.inr (.inl ())) h
  (fun i x hi hx=>by
   rw[C7,FO]
   simp only[De,AdP hi,C6 hx]
   rw[JM (by omega),GH,GH]
   unfold odN
   by_cases h1:x<0<;>by_cases h2:1073741824<x<;>simp[h1,h2])
  (by rw[C7,FO];simp only[De,Nat.lt_irrefl,Acb])
 have e':AQ C7 many (xs,AJ xs,(0:Int),())=_:=e;simp only[e'];cases xs.any odN<;>rfl
theorem Aar(xs:List Int)(h:xs.length<9223372036854775808):Fi (xs,())=some (xs.any odN,()):=by rw[IL,GO];simp only[AbL xs h];cases xs.any odN;simp[Gy];simp[Gy]
def C1(p:P5):Bool:=odN p.1||(odN p.2.1||(odN p.2.2.1||(odN p.2.2.2.1||odN p.2.2.2.2.1)))
theorem AUc(p:P5):AYg (p,())=some (C1 p,()):=by rw[AJ0,AHO];simp only[Aar [p.1,p.2.1,p.2.2.1,p.2.2.2.1,p.2.2.2.2.1] (by simp)];simp[C1]
theorem AbV(xs:List P5)(h:xs.length<9223372036854775808):LO (xs,())=some (if xs.any C1 then((xs.findIdx C1:Nat):Int)else -1,()):=by
 rw[NN,KW]
 have e:=AZL (step:=E3) (fun i=>(xs,AJ xs,(i:Int),())) xs C1 (fun i=>.inl ((i:Int),())) (.inr (.inl ())) h
  (fun i x hi hx=>by
   rw[E3,FO]
   simp only[De,AdP hi,C6 hx,AUc]
   rw[JM (by omega)]
   show _=if C1 x=true then _ else _
   have q:C1 (x.1,x.2.1,x.2.2.1,x.2.2.2.1,x.2.2.2.2.1,())=C1 x:=rfl
   rw[q]
   cases C1 x<;>rfl)
  (by rw[E3,FO];simp only[De,Nat.lt_irrefl,Acb])
 have e':AQ E3 many (xs,AJ xs,(0:Int),())=_:=e;simp only[e'];cases xs.any C1<;>rfl
theorem AbP(xs:List P5)(h:xs.length<9223372036854775808):Jn (xs,())=some (xs.any C1,()):=by rw[Lx,I2];simp only[AbV xs h];cases xs.any C1;simp[Gy];simp[Gy]
def BK:P5:=(0,0,0,0,0,())
def OH(a x:P5):P5:=(a.1+x.1,a.2.1+x.2.1,a.2.2.1+x.2.2.1,a.2.2.2.1+x.2.2.2.1,x.2.2.2.2.1,())
def B6(xs:List P5)(a:P5):P5:=xs.foldl OH a
def tot(xs:List P5):P5×Int×Unit:=if decide (1000<xs.length)||xs.any C1 then(BK,1,())else(B6 xs BK,0,())
theorem We{x:Int}(h:odN x=false):0≤x∧x≤1073741824:=by unfold odN at h;rw[Acn]at h;omega
theorem AJK{p:P5}(h:C1 p=false):(0≤p.1∧p.1≤1073741824)∧(0≤p.2.1∧p.2.1≤1073741824)∧(0≤p.2.2.1∧p.2.2.1≤1073741824)∧(0≤p.2.2.2.1∧p.2.2.2.1≤1073741824):=by unfold C1 at h;simp only[Ac5]at h;exact⟨We h.1,We h.2.1,We h.2.2.1,We h.2.2.2.1⟩
def B5(k:Nat)(a:P5):Prop:=(0≤a.1∧a.1≤1073741824*(k:Int))∧(0≤a.2.1∧a.2.1≤1073741824*(k:Int))∧(0≤a.2.2.1∧a.2.2.1≤1073741824*(k:Int))∧(0≤a.2.2.2.1∧a.2.2.2.1≤1073741824*(k:Int))
theorem AID{k:Nat}{a x:P5}(h:B5 k a)(hx:C1 x=false):B5 (k+1) (OH a x):=by have g:=AJK hx;unfold B5 at h;unfold B5 OH;dsimp only;omega
theorem O0:B5 0 BK:=by unfold B5 BK;dsimp only;omega
theorem AYz{k:Nat}{a x:P5}(hk:k<1000)(h:B5 k a)(hx:C1 x=false):IntKind.wrap .i64 (a.1+x.1)=a.1+x.1∧IntKind.wrap .i64 (a.2.1+x.2.1)=a.2.1+x.2.1∧IntKind.wrap .i64 (a.2.2.1+x.2.2.1)=a.2.2.1+x.2.2.1∧IntKind.wrap .i64 (a.2.2.2.1+x.2.2.2.1)=a.2.2.2.1+x.2.2.2.1:=by have g:=AJK hx;unfold B5 at h;exact⟨FX (by omega),FX (by omega),FX (by omega),FX (by omega)⟩
theorem Kk(xs:List P5)(h:xs.length<9223372036854775808):FQ (xs,())=some (tot xs):=by
 rw[Tz,QY,tot];have e0:ilt (1000:Int) (AJ xs)=decide (1000<xs.length):=De 1000 xs.length;simp only[e0,AbP xs h];by_cases hl:1000<xs.length;simp[hl,BK];simp only[hl,Acb,Acy];cases ho:xs.any C1;have hx0:∀ x,x∈xs→C1 x=false:=fun x hx=>by have:=List.any_eq_false.1 ho x hx;simpa using this
 have e:=APm (step:=HU) (fun i (a:P5)=>(a.1,a.2.1,a.2.2.1,a.2.2.2.1,a.2.2.2.2.1,xs,AJ xs,(i:Int),())) xs (fun x a=>.inl (OH a x)) (fun a=>.inl (a.1,a.2.1,a.2.2.1,a.2.2.2.1,a.2.2.2.2.1,())) (fun i a=>B5 i a) h
  (fun i x a hi hx hI=>by
   refine⟨fun a' ha => ?_,fun r hr=>by cases hr⟩
   cases ha
   have hox:=hx0 x (Abj hx)
   refine⟨?_,AID hI hox⟩
   obtain⟨w1,w2,w3,w4⟩:=AYz (by omega) hI hox
   rw[HU,FO]
   simp only[De,AdP hi,C6 hx]
   rw[JM (by omega),w1,w2,w3,w4]
   rfl)
  (fun a _=>by rw[HU,FO];simp only[De,Nat.lt_irrefl,Acb]) BK O0
 have e':AQ HU many ((0:Int),(0:Int),(0:Int),(0:Int),(0:Int),xs,AJ xs,(0:Int),())=_:=e;rw[ALE]at e';simp only[e'];rfl;rfl
theorem Rw(x:Int):Dw (x,())=some (!odN x,()):=by rw[Lw,I1];simp only[Gy];unfold odN;by_cases h1:0≤x;by_cases h2:x≤1073741824;simp[h1,h2,show ¬ (x<0∨1073741824<x) by omega];simp[h1,h2,show(x<0∨1073741824<x) by omega];simp[h1,show(x<0∨1073741824<x) by omega]
theorem Aa4{ρ:Type}(r:ρ)(fin:P5→ρ):∀ (xs:List P5) (a:P5),walk (fun x a=>if C1 x then .inr r else .inl (OH a x)) fin xs a=if xs.any C1 then r else fin (B6 xs a):=by
 intro xs;induction xs with
  |nil=>intro a;rfl
  |cons x xs ih=>intro a;rw[walk,List.any_cons];cases hx:C1 x;simp only[Ab3,Acr,Acy];rw[ih];rfl;simp
theorem Yt(xs:List P5)(h:xs.length<9223372036854775808):OQ (xs,())=some (tot xs):=by
 rw[PA,MS,tot];have e0:ilt (1000:Int) (AJ xs)=decide (1000<xs.length):=De 1000 xs.length;simp only[e0];by_cases hl:1000<xs.length;simp[hl,BK];simp only[hl,Acb,Acy]
 have e:=APm (step:=ET) (fun i (a:P5)=>(xs,(0:Int),(0:Int),(0:Int),(0:Int),(0:Int),a.1,a.2.1,a.2.2.1,a.2.2.2.1,a.2.2.2.2.1,(i:Int),())) xs
  (fun x a=>if C1 x then .inr (.inl ((0:Int),(0:Int),(0:Int),(0:Int),(0:Int),(1:Int),()))else .inl (OH a x)) (fun a=>.inr (.inl ((0:Int),(0:Int),(0:Int),(0:Int),(0:Int),a.1,a.2.1,a.2.2.1,a.2.2.2.1,a.2.2.2.2.1,()))) (fun i a=>B5 i a) h
  (fun i x a hi hx hI=>by
   have e1:ET (xs,(0:Int),(0:Int),(0:Int),(0:Int),(0:Int),a.1,a.2.1,a.2.2.1,a.2.2.2.1,a.2.2.2.2.1,(i:Int),())=if C1 x then some (.inr (.inl ((0:Int),(0:Int),(0:Int),(0:Int),(0:Int),(1:Int),())))else
     some (.inl (xs,(0:Int),(0:Int),(0:Int),(0:Int),(0:Int),(IntKind.wrap .i64 (a.1+x.1)),(IntKind.wrap .i64 (a.2.1+x.2.1)),(IntKind.wrap .i64 (a.2.2.1+x.2.2.1)),(IntKind.wrap .i64 (a.2.2.2.1+x.2.2.2.1)),x.2.2.2.2.1,((i+1:Nat):Int),())):=by
    rw[ET,FO]
    simp only[De,AdP hi,C6 hx,Rw,Bool.not_not]
    rw[JM (by omega)]
    unfold C1
    cases odN x.1<;>cases odN x.2.1<;>cases odN x.2.2.1<;>cases odN x.2.2.2.1<;>cases odN x.2.2.2.2.1<;>rfl
   rw[e1]
   cases hox:C1 x
   ·refine⟨fun a' ha => ?_,fun r hr=>by cases hr⟩
    cases ha
    obtain⟨w1,w2,w3,w4⟩:=AYz (by omega) hI hox
    rw[w1,w2,w3,w4]
    exact⟨rfl,AID hI hox⟩
   ·refine⟨fun a' ha=>(by cases ha),fun r hr => ?_⟩
    cases hr
    rfl)
  (fun a _=>by rw[ET,FO];simp only[De,Nat.lt_irrefl,Acb]) BK O0
 have e':AQ ET many (xs,(0:Int),(0:Int),(0:Int),(0:Int),(0:Int),(0:Int),(0:Int),(0:Int),(0:Int),(0:Int),(0:Int),())=_:=e;rw[Aa4]at e';simp only[e'];cases xs.any C1<;>rfl
theorem AQG(xs:List P5):∀ a:P5,(B6 xs a).1=a.1+(B6 xs BK).1∧(B6 xs a).2.1=a.2.1+(B6 xs BK).2.1∧(B6 xs a).2.2.1=a.2.2.1+(B6 xs BK).2.2.1∧(B6 xs a).2.2.2.1=a.2.2.2.1+(B6 xs BK).2.2.2.1:=by
 induction xs with
  |nil=>intro a;simp[B6,BK]
  |cons x xs ih=>intro a;have e:∀ b,B6 (x::xs) b=B6 xs (OH b x):=fun _=>rfl;rw[e,e];obtain⟨p1,p2,p3,p4⟩:=ih (OH a x);obtain⟨q1,q2,q3,q4⟩:=ih (OH BK x);rw[p1,p2,p3,p4,q1,q2,q3,q4];simp only[OH,BK];omega
theorem ALe{xs:List P5}(h:xs≠[]):∀ a b:P5,(B6 xs a).2.2.2.2.1=(B6 xs b).2.2.2.2.1:=by
 induction xs with
  |nil=>exact absurd rfl h
  |cons x xs ih=>
   intro a b;by_cases hx:xs=[]
   subst hx;rfl;exact ih hx (OH a x) (OH b x)
theorem AQH(xs ys:List P5)(a:P5):B6 (xs++ys) a=B6 ys (B6 xs a):=by unfold B6;rw[List.foldl_append]
theorem AQI{xs:List P5}:∀ {k:Nat} {a:P5},B5 k a→(∀ x,x∈xs→C1 x=false)→B5 (k+xs.length) (B6 xs a):=by
 induction xs with
  |nil=>intro k a h _;exact h
  |cons x xs ih=>intro k a h hx;have:=ih (AID h (hx x (by simp))) (fun y hy=>hx y (by simp[hy]));rw[Abz,show k+(xs.length+1)=k+1+xs.length by omega];exact this
end Go.Pev.Pl
end
section
namespace Go.Pev.Pl
theorem AO7:Jz ()=some (((8:Int),((4:Int),(((2:Int),((2:Int),(([]:List (List Int)),()))),()))),()):=by rw[show Jz () = @Jz idI ()from Ab8 (fun i=>@Jz i ()) Cq];kernel_rfl
theorem AVF:B9 (((6:Int),(([]:List (Int×Int×Int×Bool×Unit)),())),((1:Int),(([((0:Int),((1:Int),())),((1:Int),((2:Int),())),((2:Int),((0:Int),())),((3:Int),((4:Int),())),((4:Int),((5:Int),())),((5:Int),((3:Int),())),((2:Int),((3:Int),()))]:List (Int×Int×Unit)),(([]:List (Int×Int×Int×Unit)),()))),((8:Int),((4:Int),(((2:Int),((2:Int),(([]:List (List Int)),()))),()))),())=some (((6:Int),(([(0,(1,(0,(true,())))),(0,(2,(0,(true,())))),(1,(2,(0,(false,())))),(2,(3,(0,(true,())))),(3,(4,(0,(true,())))),(3,(5,(0,(true,())))),(4,(5,(0,(false,()))))]:List (Int×Int×Int×Bool×Unit)),())),((7,(0,(0,(0,(21,())))))),0,()):=by rw[show B9 (((6:Int),(([]:List (Int×Int×Int×Bool×Unit)),())),((1:Int),(([((0:Int),((1:Int),())),((1:Int),((2:Int),())),((2:Int),((0:Int),())),((3:Int),((4:Int),())),((4:Int),((5:Int),())),((5:Int),((3:Int),())),((2:Int),((3:Int),()))]:List (Int×Int×Unit)),(([]:List (Int×Int×Int×Unit)),()))),((8:Int),((4:Int),(((2:Int),((2:Int),(([]:List (List Int)),()))),()))),()) = @B9 idI (((6:Int),(([]:List (Int×Int×Int×Bool×Unit)),())),((1:Int),(([((0:Int),((1:Int),())),((1:Int),((2:Int),())),((2:Int),((0:Int),())),((3:Int),((4:Int),())),((4:Int),((5:Int),())),((5:Int),((3:Int),())),((2:Int),((3:Int),()))]:List (Int×Int×Unit)),(([]:List (Int×Int×Int×Unit)),()))),((8:Int),((4:Int),(((2:Int),((2:Int),(([]:List (List Int)),()))),()))),())from Ab8 (fun i=>@B9 i (((6:Int),(([]:List (Int×Int×Int×Bool×Unit)),())),((1:Int),(([((0:Int),((1:Int),())),((1:Int),((2:Int),())),((2:Int),((0:Int),())),((3:Int),((4:Int),())),((4:Int),((5:Int),())),((5:Int),((3:Int),())),((2:Int),((3:Int),()))]:List (Int×Int×Unit)),(([]:List (Int×Int×Int×Unit)),()))),((8:Int),((4:Int),(((2:Int),((2:Int),(([]:List (List Int)),()))),()))),())) Cq];kernel_rfl
theorem AVE:B9 (((6:Int),(([(0,(1,(0,(true,())))),(0,(2,(0,(true,())))),(1,(2,(0,(false,())))),(2,(3,(0,(true,())))),(3,(4,(0,(true,())))),(3,(5,(0,(true,())))),(4,(5,(0,(false,()))))]:List (Int×Int×Int×Bool×Unit)),())),((2:Int),(([((3:Int),((2:Int),())),((0:Int),((1:Int),())),((0:Int),((5:Int),()))]:List (Int×Int×Unit)),(([]:List (Int×Int×Int×Unit)),()))),((8:Int),((4:Int),(((2:Int),((2:Int),(([]:List (List Int)),()))),()))),())=some (((6:Int),(([(0,(2,(1,(true,())))),(1,(2,(1,(true,())))),(3,(4,(0,(true,())))),(3,(5,(0,(true,())))),(4,(5,(0,(false,()))))]:List (Int×Int×Int×Bool×Unit)),())),((0,(2,(2,(6,(13,())))))),0,()):=by rw[show B9 (((6:Int),(([(0,(1,(0,(true,())))),(0,(2,(0,(true,())))),(1,(2,(0,(false,())))),(2,(3,(0,(true,())))),(3,(4,(0,(true,())))),(3,(5,(0,(true,())))),(4,(5,(0,(false,()))))]:List (Int×Int×Int×Bool×Unit)),())),((2:Int),(([((3:Int),((2:Int),())),((0:Int),((1:Int),())),((0:Int),((5:Int),()))]:List (Int×Int×Unit)),(([]:List (Int×Int×Int×Unit)),()))),((8:Int),((4:Int),(((2:Int),((2:Int),(([]:List (List Int)),()))),()))),()) = @B9 idI (((6:Int),(([(0,(1,(0,(true,())))),(0,(2,(0,(true,())))),(1,(2,(0,(false,())))),(2,(3,(0,(true,())))),(3,(4,(0,(true,())))),(3,(5,(0,(true,())))),(4,(5,(0,(false,()))))]:List (Int×Int×Int×Bool×Unit)),())),((2:Int),(([((3:Int),((2:Int),())),((0:Int),((1:Int),())),((0:Int),((5:Int),()))]:List (Int×Int×Unit)),(([]:List (Int×Int×Int×Unit)),()))),((8:Int),((4:Int),(((2:Int),((2:Int),(([]:List (List Int)),()))),()))),())from Ab8 (fun i=>@B9 i (((6:Int),(([(0,(1,(0,(true,())))),(0,(2,(0,(true,())))),(1,(2,(0,(false,())))),(2,(3,(0,(true,())))),(3,(4,(0,(true,())))),(3,(5,(0,(true,())))),(4,(5,(0,(false,()))))]:List (Int×Int×Int×Bool×Unit)),())),((2:Int),(([((3:Int),((2:Int),())),((0:Int),((1:Int),())),((0:Int),((5:Int),()))]:List (Int×Int×Unit)),(([]:List (Int×Int×Int×Unit)),()))),((8:Int),((4:Int),(((2:Int),((2:Int),(([]:List (List Int)),()))),()))),())) Cq];kernel_rfl
theorem AU4:FY (([(1:Int),(0:Int),(2:Int),(0:Int),(0:Int),(0:Int),(1:Int),(0:Int),(0:Int),(0:Int),(2:Int),(1:Int),(0:Int),(1:Int),(0:Int),(0:Int),(0:Int),(9:Int),(2:Int),(0:Int),(1:Int),(0:Int),(0:Int),(0:Int),(1:Int),(8:Int)]:List (Int)),())=some (([((1:Int),(([((0:Int),((1:Int),())),((0:Int),((2:Int),()))]:List (Int×Int×Unit)),(([]:List (Int×Int×Int×Unit)),()))),((1:Int),(([((0:Int),((9:Int),()))]:List (Int×Int×Unit)),(([]:List (Int×Int×Int×Unit)),()))),((2:Int),(([((0:Int),((1:Int),()))]:List (Int×Int×Unit)),(([]:List (Int×Int×Int×Unit)),())))]:List (Int×(List (Int×Int×Unit))×(List (Int×Int×Int×Unit))×Unit)),(25:Int),(8:Int),()):=by rw[show FY (([(1:Int),(0:Int),(2:Int),(0:Int),(0:Int),(0:Int),(1:Int),(0:Int),(0:Int),(0:Int),(2:Int),(1:Int),(0:Int),(1:Int),(0:Int),(0:Int),(0:Int),(9:Int),(2:Int),(0:Int),(1:Int),(0:Int),(0:Int),(0:Int),(1:Int),(8:Int)]:List (Int)),()) = @FY idI (([(1:Int),(0:Int),(2:Int),(0:Int),(0:Int),(0:Int),(1:Int),(0:Int),(0:Int),(0:Int),(2:Int),(1:Int),(0:Int),(1:Int),(0:Int),(0:Int),(0:Int),(9:Int),(2:Int),(0:Int),(1:Int),(0:Int),(0:Int),(0:Int),(1:Int),(8:Int)]:List (Int)),())from Ab8 (fun i=>@FY i (([(1:Int),(0:Int),(2:Int),(0:Int),(0:Int),(0:Int),(1:Int),(0:Int),(0:Int),(0:Int),(2:Int),(1:Int),(0:Int),(1:Int),(0:Int),(0:Int),(0:Int),(9:Int),(2:Int),(0:Int),(1:Int),(0:Int),(0:Int),(0:Int),(1:Int),(8:Int)]:List (Int)),())) Cq];kernel_rfl
theorem AVC:B9 (((6:Int),(([]:List (Int×Int×Int×Bool×Unit)),())),((1:Int),(([((0:Int),((1:Int),())),((0:Int),((2:Int),()))]:List (Int×Int×Unit)),(([]:List (Int×Int×Int×Unit)),()))),((8:Int),((4:Int),(((2:Int),((2:Int),(([]:List (List Int)),()))),()))),())=some (((6:Int),(([(0,(1,(0,(true,())))),(0,(2,(0,(true,()))))]:List (Int×Int×Int×Bool×Unit)),())),((2,(0,(0,(0,(6,())))))),0,()):=by rw[show B9 (((6:Int),(([]:List (Int×Int×Int×Bool×Unit)),())),((1:Int),(([((0:Int),((1:Int),())),((0:Int),((2:Int),()))]:List (Int×Int×Unit)),(([]:List (Int×Int×Int×Unit)),()))),((8:Int),((4:Int),(((2:Int),((2:Int),(([]:List (List Int)),()))),()))),()) = @B9 idI (((6:Int),(([]:List (Int×Int×Int×Bool×Unit)),())),((1:Int),(([((0:Int),((1:Int),())),((0:Int),((2:Int),()))]:List (Int×Int×Unit)),(([]:List (Int×Int×Int×Unit)),()))),((8:Int),((4:Int),(((2:Int),((2:Int),(([]:List (List Int)),()))),()))),())from Ab8 (fun i=>@B9 i (((6:Int),(([]:List (Int×Int×Int×Bool×Unit)),())),((1:Int),(([((0:Int),((1:Int),())),((0:Int),((2:Int),()))]:List (Int×Int×Unit)),(([]:List (Int×Int×Int×Unit)),()))),((8:Int),((4:Int),(((2:Int),((2:Int),(([]:List (List Int)),()))),()))),())) Cq];kernel_rfl
theorem AVA:B9 (((6:Int),(([(0,(1,(0,(true,())))),(0,(2,(0,(true,()))))]:List (Int×Int×Int×Bool×Unit)),())),((1:Int),(([((0:Int),((9:Int),()))]:List (Int×Int×Unit)),(([]:List (Int×Int×Int×Unit)),()))),((8:Int),((4:Int),(((2:Int),((2:Int),(([]:List (List Int)),()))),()))),())=some (((6:Int),(([(0,(1,(0,(true,())))),(0,(2,(0,(true,()))))]:List (Int×Int×Int×Bool×Unit)),())),((0,(0,(0,(0,(0,())))))),10,()):=by rw[show B9 (((6:Int),(([(0,(1,(0,(true,())))),(0,(2,(0,(true,()))))]:List (Int×Int×Int×Bool×Unit)),())),((1:Int),(([((0:Int),((9:Int),()))]:List (Int×Int×Unit)),(([]:List (Int×Int×Int×Unit)),()))),((8:Int),((4:Int),(((2:Int),((2:Int),(([]:List (List Int)),()))),()))),()) = @B9 idI (((6:Int),(([(0,(1,(0,(true,())))),(0,(2,(0,(true,()))))]:List (Int×Int×Int×Bool×Unit)),())),((1:Int),(([((0:Int),((9:Int),()))]:List (Int×Int×Unit)),(([]:List (Int×Int×Int×Unit)),()))),((8:Int),((4:Int),(((2:Int),((2:Int),(([]:List (List Int)),()))),()))),())from Ab8 (fun i=>@B9 i (((6:Int),(([(0,(1,(0,(true,())))),(0,(2,(0,(true,()))))]:List (Int×Int×Int×Bool×Unit)),())),((1:Int),(([((0:Int),((9:Int),()))]:List (Int×Int×Unit)),(([]:List (Int×Int×Int×Unit)),()))),((8:Int),((4:Int),(((2:Int),((2:Int),(([]:List (List Int)),()))),()))),())) Cq];kernel_rfl
theorem AVB:B9 (((6:Int),(([(0,(1,(0,(true,())))),(0,(2,(0,(true,()))))]:List (Int×Int×Int×Bool×Unit)),())),((2:Int),(([((0:Int),((1:Int),()))]:List (Int×Int×Unit)),(([]:List (Int×Int×Int×Unit)),()))),((8:Int),((4:Int),(((2:Int),((2:Int),(([]:List (List Int)),()))),()))),())=some (((6:Int),(([(0,(2,(0,(true,()))))]:List (Int×Int×Int×Bool×Unit)),())),((0,(1,(0,(3,(3,())))))),0,()):=by rw[show B9 (((6:Int),(([(0,(1,(0,(true,())))),(0,(2,(0,(true,()))))]:List (Int×Int×Int×Bool×Unit)),())),((2:Int),(([((0:Int),((1:Int),()))]:List (Int×Int×Unit)),(([]:List (Int×Int×Int×Unit)),()))),((8:Int),((4:Int),(((2:Int),((2:Int),(([]:List (List Int)),()))),()))),()) = @B9 idI (((6:Int),(([(0,(1,(0,(true,())))),(0,(2,(0,(true,()))))]:List (Int×Int×Int×Bool×Unit)),())),((2:Int),(([((0:Int),((1:Int),()))]:List (Int×Int×Unit)),(([]:List (Int×Int×Int×Unit)),()))),((8:Int),((4:Int),(((2:Int),((2:Int),(([]:List (List Int)),()))),()))),())from Ab8 (fun i=>@B9 i (((6:Int),(([(0,(1,(0,(true,())))),(0,(2,(0,(true,()))))]:List (Int×Int×Int×Bool×Unit)),())),((2:Int),(([((0:Int),((1:Int),()))]:List (Int×Int×Unit)),(([]:List (Int×Int×Int×Unit)),()))),((8:Int),((4:Int),(((2:Int),((2:Int),(([]:List (List Int)),()))),()))),())) Cq];kernel_rfl
theorem AVG:Cg (((6:Int),(([]:List (Int×Int×Int×Bool×Unit)),())),())=some (true,()):=by rw[show Cg (((6:Int),(([]:List (Int×Int×Int×Bool×Unit)),())),()) = @Cg idI (((6:Int),(([]:List (Int×Int×Int×Bool×Unit)),())),())from Ab8 (fun i=>@Cg i (((6:Int),(([]:List (Int×Int×Int×Bool×Unit)),())),())) Cq];kernel_rfl
theorem AU9:DB ((6:Int),([]:List (Int×Int×Int×Bool×Unit)),(8:Int),(4:Int),(2:Int),(2:Int),([]:List (List Int)),(0:Int),(8:Int),([]:List (Int×Int×Int×Int×Int×Unit)),([((1:Int),(([((0:Int),((1:Int),())),((0:Int),((2:Int),()))]:List (Int×Int×Unit)),(([]:List (Int×Int×Int×Unit)),()))),((1:Int),(([((0:Int),((9:Int),()))]:List (Int×Int×Unit)),(([]:List (Int×Int×Int×Unit)),()))),((2:Int),(([((0:Int),((1:Int),()))]:List (Int×Int×Unit)),(([]:List (Int×Int×Int×Unit)),())))]:List (Int×(List (Int×Int×Unit))×(List (Int×Int×Int×Unit))×Unit)),(3:Int),(0:Int),())=some (.inl ((6:Int),([(0,(1,(0,(true,())))),(0,(2,(0,(true,()))))]:List (Int×Int×Int×Bool×Unit)),(8:Int),(4:Int),(2:Int),(2:Int),([]:List (List Int)),(0:Int),(8:Int),([((2:Int),((0:Int),((0:Int),((0:Int),((6:Int),())))))]:List (Int×Int×Int×Int×Int×Unit)),([((1:Int),(([((0:Int),((1:Int),())),((0:Int),((2:Int),()))]:List (Int×Int×Unit)),(([]:List (Int×Int×Int×Unit)),()))),((1:Int),(([((0:Int),((9:Int),()))]:List (Int×Int×Unit)),(([]:List (Int×Int×Int×Unit)),()))),((2:Int),(([((0:Int),((1:Int),()))]:List (Int×Int×Unit)),(([]:List (Int×Int×Int×Unit)),())))]:List (Int×(List (Int×Int×Unit))×(List (Int×Int×Int×Unit))×Unit)),(3:Int),(1:Int),())):=by rw[DB,show ilt (0:Int) 3=true from GH _ _];simp only[show idx ([((1:Int),(([((0:Int),((1:Int),())),((0:Int),((2:Int),()))]:List (Int×Int×Unit)),(([]:List (Int×Int×Int×Unit)),()))),((1:Int),(([((0:Int),((9:Int),()))]:List (Int×Int×Unit)),(([]:List (Int×Int×Int×Unit)),()))),((2:Int),(([((0:Int),((1:Int),()))]:List (Int×Int×Unit)),(([]:List (Int×Int×Int×Unit)),())))]:List (Int×(List (Int×Int×Unit))×(List (Int×Int×Int×Unit))×Unit)) (0:Int)=some ((1:Int),(([((0:Int),((1:Int),())),((0:Int),((2:Int),()))]:List (Int×Int×Unit)),(([]:List (Int×Int×Int×Unit)),())))from idx_eq _ _,AVC,show ieq (0:Int) 0=true from Ea _ _,show fits (AJ ([]:List (Int×Int×Int×Int×Int×Unit))+AJ ([((2:Int),((0:Int),((0:Int),((0:Int),((6:Int),())))))]:List (Int×Int×Int×Int×Int×Unit)))=true from W6 _];rfl
theorem AU8:DB ((6:Int),([(0,(1,(0,(true,())))),(0,(2,(0,(true,()))))]:List (Int×Int×Int×Bool×Unit)),(8:Int),(4:Int),(2:Int),(2:Int),([]:List (List Int)),(0:Int),(8:Int),([((2:Int),((0:Int),((0:Int),((0:Int),((6:Int),())))))]:List (Int×Int×Int×Int×Int×Unit)),([((1:Int),(([((0:Int),((1:Int),())),((0:Int),((2:Int),()))]:List (Int×Int×Unit)),(([]:List (Int×Int×Int×Unit)),()))),((1:Int),(([((0:Int),((9:Int),()))]:List (Int×Int×Unit)),(([]:List (Int×Int×Int×Unit)),()))),((2:Int),(([((0:Int),((1:Int),()))]:List (Int×Int×Unit)),(([]:List (Int×Int×Int×Unit)),())))]:List (Int×(List (Int×Int×Unit))×(List (Int×Int×Int×Unit))×Unit)),(3:Int),(1:Int),())=some (.inl ((6:Int),([(0,(1,(0,(true,())))),(0,(2,(0,(true,()))))]:List (Int×Int×Int×Bool×Unit)),(8:Int),(4:Int),(2:Int),(2:Int),([]:List (List Int)),(0:Int),(8:Int),([((2:Int),((0:Int),((0:Int),((0:Int),((6:Int),())))))]:List (Int×Int×Int×Int×Int×Unit)),([((1:Int),(([((0:Int),((1:Int),())),((0:Int),((2:Int),()))]:List (Int×Int×Unit)),(([]:List (Int×Int×Int×Unit)),()))),((1:Int),(([((0:Int),((9:Int),()))]:List (Int×Int×Unit)),(([]:List (Int×Int×Int×Unit)),()))),((2:Int),(([((0:Int),((1:Int),()))]:List (Int×Int×Unit)),(([]:List (Int×Int×Int×Unit)),())))]:List (Int×(List (Int×Int×Unit))×(List (Int×Int×Int×Unit))×Unit)),(3:Int),(2:Int),())):=by rw[DB,show ilt (1:Int) 3=true from GH _ _];simp only[show idx ([((1:Int),(([((0:Int),((1:Int),())),((0:Int),((2:Int),()))]:List (Int×Int×Unit)),(([]:List (Int×Int×Int×Unit)),()))),((1:Int),(([((0:Int),((9:Int),()))]:List (Int×Int×Unit)),(([]:List (Int×Int×Int×Unit)),()))),((2:Int),(([((0:Int),((1:Int),()))]:List (Int×Int×Unit)),(([]:List (Int×Int×Int×Unit)),())))]:List (Int×(List (Int×Int×Unit))×(List (Int×Int×Int×Unit))×Unit)) (1:Int)=some ((1:Int),(([((0:Int),((9:Int),()))]:List (Int×Int×Unit)),(([]:List (Int×Int×Int×Unit)),())))from idx_eq _ _,AVA,show ieq (10:Int) 0=false from Ea _ _];rfl
theorem AU7:DB ((6:Int),([(0,(1,(0,(true,())))),(0,(2,(0,(true,()))))]:List (Int×Int×Int×Bool×Unit)),(8:Int),(4:Int),(2:Int),(2:Int),([]:List (List Int)),(0:Int),(8:Int),([((2:Int),((0:Int),((0:Int),((0:Int),((6:Int),())))))]:List (Int×Int×Int×Int×Int×Unit)),([((1:Int),(([((0:Int),((1:Int),())),((0:Int),((2:Int),()))]:List (Int×Int×Unit)),(([]:List (Int×Int×Int×Unit)),()))),((1:Int),(([((0:Int),((9:Int),()))]:List (Int×Int×Unit)),(([]:List (Int×Int×Int×Unit)),()))),((2:Int),(([((0:Int),((1:Int),()))]:List (Int×Int×Unit)),(([]:List (Int×Int×Int×Unit)),())))]:List (Int×(List (Int×Int×Unit))×(List (Int×Int×Int×Unit))×Unit)),(3:Int),(2:Int),())=some (.inl ((6:Int),([(0,(2,(0,(true,()))))]:List (Int×Int×Int×Bool×Unit)),(8:Int),(4:Int),(2:Int),(2:Int),([]:List (List Int)),(0:Int),(8:Int),([((2:Int),((0:Int),((0:Int),((0:Int),((6:Int),()))))),((0:Int),((1:Int),((0:Int),((3:Int),((3:Int),())))))]:List (Int×Int×Int×Int×Int×Unit)),([((1:Int),(([((0:Int),((1:Int),())),((0:Int),((2:Int),()))]:List (Int×Int×Unit)),(([]:List (Int×Int×Int×Unit)),()))),((1:Int),(([((0:Int),((9:Int),()))]:List (Int×Int×Unit)),(([]:List (Int×Int×Int×Unit)),()))),((2:Int),(([((0:Int),((1:Int),()))]:List (Int×Int×Unit)),(([]:List (Int×Int×Int×Unit)),())))]:List (Int×(List (Int×Int×Unit))×(List (Int×Int×Int×Unit))×Unit)),(3:Int),(3:Int),())):=by rw[DB,show ilt (2:Int) 3=true from GH _ _];simp only[show idx ([((1:Int),(([((0:Int),((1:Int),())),((0:Int),((2:Int),()))]:List (Int×Int×Unit)),(([]:List (Int×Int×Int×Unit)),()))),((1:Int),(([((0:Int),((9:Int),()))]:List (Int×Int×Unit)),(([]:List (Int×Int×Int×Unit)),()))),((2:Int),(([((0:Int),((1:Int),()))]:List (Int×Int×Unit)),(([]:List (Int×Int×Int×Unit)),())))]:List (Int×(List (Int×Int×Unit))×(List (Int×Int×Int×Unit))×Unit)) (2:Int)=some ((2:Int),(([((0:Int),((1:Int),()))]:List (Int×Int×Unit)),(([]:List (Int×Int×Int×Unit)),())))from idx_eq _ _,AVB,show ieq (0:Int) 0=true from Ea _ _,show fits (AJ ([((2:Int),((0:Int),((0:Int),((0:Int),((6:Int),())))))]:List (Int×Int×Int×Int×Int×Unit))+AJ ([((0:Int),((1:Int),((0:Int),((3:Int),((3:Int),())))))]:List (Int×Int×Int×Int×Int×Unit)))=true from W6 _];rfl
theorem AU6:DB ((6:Int),([(0,(2,(0,(true,()))))]:List (Int×Int×Int×Bool×Unit)),(8:Int),(4:Int),(2:Int),(2:Int),([]:List (List Int)),(0:Int),(8:Int),([((2:Int),((0:Int),((0:Int),((0:Int),((6:Int),()))))),((0:Int),((1:Int),((0:Int),((3:Int),((3:Int),())))))]:List (Int×Int×Int×Int×Int×Unit)),([((1:Int),(([((0:Int),((1:Int),())),((0:Int),((2:Int),()))]:List (Int×Int×Unit)),(([]:List (Int×Int×Int×Unit)),()))),((1:Int),(([((0:Int),((9:Int),()))]:List (Int×Int×Unit)),(([]:List (Int×Int×Int×Unit)),()))),((2:Int),(([((0:Int),((1:Int),()))]:List (Int×Int×Unit)),(([]:List (Int×Int×Int×Unit)),())))]:List (Int×(List (Int×Int×Unit))×(List (Int×Int×Int×Unit))×Unit)),(3:Int),(3:Int),())=some (.inr (.inl (6,[(0,(2,(0,(true,()))))],0,8,[((2:Int),((0:Int),((0:Int),((0:Int),((6:Int),()))))),((0:Int),((1:Int),((0:Int),((3:Int),((3:Int),())))))],()))):=by rw[DB,show ilt (3:Int) 3=false from GH _ _]
theorem Wn{σ ρ:Type}{step:σ→Option (σ⊕ρ)}{v v':σ}(h:step v=some (.inl v'))(n:Nat):E2 step (n+1) v=E2 step n v':=by rw[E2,h]
theorem ASt{σ ρ:Type}{step:σ→Option (σ⊕ρ)}{v:σ}{r:ρ}(h:step v=some (.inr r))(n:Nat):E2 step (n+1) v=some r:=by rw[E2,h]
theorem AVH:AQ DB many ((6:Int),([]:List (Int×Int×Int×Bool×Unit)),(8:Int),(4:Int),(2:Int),(2:Int),([]:List (List Int)),(0:Int),(8:Int),([]:List (Int×Int×Int×Int×Int×Unit)),([((1:Int),(([((0:Int),((1:Int),())),((0:Int),((2:Int),()))]:List (Int×Int×Unit)),(([]:List (Int×Int×Int×Unit)),()))),((1:Int),(([((0:Int),((9:Int),()))]:List (Int×Int×Unit)),(([]:List (Int×Int×Int×Unit)),()))),((2:Int),(([((0:Int),((1:Int),()))]:List (Int×Int×Unit)),(([]:List (Int×Int×Int×Unit)),())))]:List (Int×(List (Int×Int×Unit))×(List (Int×Int×Int×Unit))×Unit)),(3:Int),(0:Int),())=some (.inl (6,[(0,(2,(0,(true,()))))],0,8,[((2:Int),((0:Int),((0:Int),((0:Int),((6:Int),()))))),((0:Int),((1:Int),((0:Int),((3:Int),((3:Int),())))))],())):=by rw[LI,show many=18446744073709551612+1+1+1+1 from rfl,Wn AU9,Wn AU8,Wn AU7,ASt AU6]
theorem AUo{a0:Int×(List (Int×Int×Int×Bool×Unit))×Unit}{a1:List Int}{a2:Int×Int×(Int×Int×(List (List Int))×Unit)×Unit}{l:List (Int×(List (Int×Int×Unit))×(List (Int×Int×Int×Unit))×Unit)}{p e:Int}{r:Int×(List (Int×Int×Int×Bool×Unit))×Int×Int×(List (Int×Int×Int×Int×Int×Unit))×Unit}
  (h1:Cg ((a0.1,(a0.2.1,())),())=some (true,())) (h2:FY (a1,())=some (l,p,e,()))
  (h3:AQ DB many (a0.1,a0.2.1,a2.1,a2.2.1,a2.2.2.1.1,a2.2.2.1.2.1,a2.2.2.1.2.2.1,(0:Int),e,([]:List (Int×Int×Int×Int×Int×Unit)),l,(AJ l),(0:Int),())=some (.inl r)):AB8 (a0,a1,a2,())=some ((r.1,(r.2.1,())),r.2.2.2.2.1,r.2.2.2.1,()):=by rw[AB7,Xf];simp only[h1,AdS,h2,h3]
theorem AVI:AB8 (((6:Int),(([]:List (Int×Int×Int×Bool×Unit)),())),([(1:Int),(0:Int),(2:Int),(0:Int),(0:Int),(0:Int),(1:Int),(0:Int),(0:Int),(0:Int),(2:Int),(1:Int),(0:Int),(1:Int),(0:Int),(0:Int),(0:Int),(9:Int),(2:Int),(0:Int),(1:Int),(0:Int),(0:Int),(0:Int),(1:Int),(8:Int)]:List (Int)),((8:Int),((4:Int),(((2:Int),((2:Int),(([]:List (List Int)),()))),()))),())=some (((6:Int),(([(0,(2,(0,(true,()))))]:List (Int×Int×Int×Bool×Unit)),())),[(2,(0,(0,(0,(6,()))))),(0,(1,(0,(3,(3,())))))],8,()):=AUo (r:=(6,[(0,(2,(0,(true,()))))],0,8,[((2:Int),((0:Int),((0:Int),((0:Int),((6:Int),()))))),((0:Int),((1:Int),((0:Int),((3:Int),((3:Int),())))))],())) AVG AU4 AVH
theorem AVD:B9 (((6:Int),(([(0,(1,(0,(true,())))),(0,(2,(0,(true,())))),(1,(2,(0,(false,())))),(2,(3,(0,(true,())))),(3,(4,(0,(true,())))),(3,(5,(0,(true,())))),(4,(5,(0,(false,()))))]:List (Int×Int×Int×Bool×Unit)),())),((9:Int),(([]:List (Int×Int×Unit)),(([]:List (Int×Int×Int×Unit)),()))),((8:Int),((4:Int),(((2:Int),((2:Int),(([]:List (List Int)),()))),()))),())=some (((6:Int),(([(0,(1,(0,(true,())))),(0,(2,(0,(true,())))),(1,(2,(0,(false,())))),(2,(3,(0,(true,())))),(3,(4,(0,(true,())))),(3,(5,(0,(true,())))),(4,(5,(0,(false,()))))]:List (Int×Int×Int×Bool×Unit)),())),((0,(0,(0,(0,(0,())))))),1,()):=by rw[show B9 (((6:Int),(([(0,(1,(0,(true,())))),(0,(2,(0,(true,())))),(1,(2,(0,(false,())))),(2,(3,(0,(true,())))),(3,(4,(0,(true,())))),(3,(5,(0,(true,())))),(4,(5,(0,(false,()))))]:List (Int×Int×Int×Bool×Unit)),())),((9:Int),(([]:List (Int×Int×Unit)),(([]:List (Int×Int×Int×Unit)),()))),((8:Int),((4:Int),(((2:Int),((2:Int),(([]:List (List Int)),()))),()))),()) = @B9 idI (((6:Int),(([(0,(1,(0,(true,())))),(0,(2,(0,(true,())))),(1,(2,(0,(false,())))),(2,(3,(0,(true,())))),(3,(4,(0,(true,())))),(3,(5,(0,(true,())))),(4,(5,(0,(false,()))))]:List (Int×Int×Int×Bool×Unit)),())),((9:Int),(([]:List (Int×Int×Unit)),(([]:List (Int×Int×Int×Unit)),()))),((8:Int),((4:Int),(((2:Int),((2:Int),(([]:List (List Int)),()))),()))),())from Ab8 (fun i=>@B9 i (((6:Int),(([(0,(1,(0,(true,())))),(0,(2,(0,(true,())))),(1,(2,(0,(false,())))),(2,(3,(0,(true,())))),(3,(4,(0,(true,())))),(3,(5,(0,(true,())))),(4,(5,(0,(false,()))))]:List (Int×Int×Int×Bool×Unit)),())),((9:Int),(([]:List (Int×Int×Unit)),(([]:List (Int×Int×Int×Unit)),()))),((8:Int),((4:Int),(((2:Int),((2:Int),(([]:List (List Int)),()))),()))),())) Cq];kernel_rfl
theorem AU5:G6 (((6:Int),(([(0,(1,(0,(true,())))),(0,(2,(0,(true,())))),(1,(2,(0,(false,())))),(2,(3,(0,(true,())))),(3,(4,(0,(true,())))),(3,(5,(0,(true,())))),(4,(5,(0,(false,()))))]:List (Int×Int×Int×Bool×Unit)),())),())=some (21,()):=by rw[show G6 (((6:Int),(([(0,(1,(0,(true,())))),(0,(2,(0,(true,())))),(1,(2,(0,(false,())))),(2,(3,(0,(true,())))),(3,(4,(0,(true,())))),(3,(5,(0,(true,())))),(4,(5,(0,(false,()))))]:List (Int×Int×Int×Bool×Unit)),())),()) = @G6 idI (((6:Int),(([(0,(1,(0,(true,())))),(0,(2,(0,(true,())))),(1,(2,(0,(false,())))),(2,(3,(0,(true,())))),(3,(4,(0,(true,())))),(3,(5,(0,(true,())))),(4,(5,(0,(false,()))))]:List (Int×Int×Int×Bool×Unit)),())),())from Ab8 (fun i=>@G6 i (((6:Int),(([(0,(1,(0,(true,())))),(0,(2,(0,(true,())))),(1,(2,(0,(false,())))),(2,(3,(0,(true,())))),(3,(4,(0,(true,())))),(3,(5,(0,(true,())))),(4,(5,(0,(false,()))))]:List (Int×Int×Int×Bool×Unit)),())),())) Cq];kernel_rfl
theorem AO8:FQ ([((7:Int),((0:Int),((0:Int),((0:Int),((21:Int),()))))),((0:Int),((2:Int),((2:Int),((6:Int),((13:Int),())))))],())=some (((7,(2,(2,(6,(13,())))))),0,()):=by rw[show FQ ([((7:Int),((0:Int),((0:Int),((0:Int),((21:Int),()))))),((0:Int),((2:Int),((2:Int),((6:Int),((13:Int),())))))],()) = @FQ idI ([((7:Int),((0:Int),((0:Int),((0:Int),((21:Int),()))))),((0:Int),((2:Int),((2:Int),((6:Int),((13:Int),())))))],())from Ab8 (fun i=>@FQ i ([((7:Int),((0:Int),((0:Int),((0:Int),((21:Int),()))))),((0:Int),((2:Int),((2:Int),((6:Int),((13:Int),())))))],())) Cq];kernel_rfl
theorem AHT:KI ([((2:Int),((0:Int),((0:Int),((0:Int),((6:Int),()))))),((0:Int),((1:Int),((0:Int),((3:Int),((3:Int),())))))],[((2:Int),((0:Int),((0:Int),((0:Int),((6:Int),()))))),((0:Int),((1:Int),((0:Int),((3:Int),((3:Int),())))))],())=some (true,()):=by rw[show KI ([((2:Int),((0:Int),((0:Int),((0:Int),((6:Int),()))))),((0:Int),((1:Int),((0:Int),((3:Int),((3:Int),())))))],[((2:Int),((0:Int),((0:Int),((0:Int),((6:Int),()))))),((0:Int),((1:Int),((0:Int),((3:Int),((3:Int),())))))],()) = @KI idI ([((2:Int),((0:Int),((0:Int),((0:Int),((6:Int),()))))),((0:Int),((1:Int),((0:Int),((3:Int),((3:Int),())))))],[((2:Int),((0:Int),((0:Int),((0:Int),((6:Int),()))))),((0:Int),((1:Int),((0:Int),((3:Int),((3:Int),())))))],())from Ab8 (fun i=>@KI i ([((2:Int),((0:Int),((0:Int),((0:Int),((6:Int),()))))),((0:Int),((1:Int),((0:Int),((3:Int),((3:Int),())))))],[((2:Int),((0:Int),((0:Int),((0:Int),((6:Int),()))))),((0:Int),((1:Int),((0:Int),((3:Int),((3:Int),())))))],())) Cq];kernel_rfl
theorem Xh:Ow ()=some (true,()):=by rw[Qb,Ms];simp only[AO7,AVF,AVE,AVI,AVD,AU5,AO8,AHT,Ea,AJ];rfl
end Go.Pev.Pl
end
section
namespace Go.Pev.Pl
theorem OR{xs:List P5}(h:xs.any C1=true):tot xs=(BK,1,()):=by simp[tot,h]
theorem Vp{xs:List P5}(hl:xs.length≤1000)(h:xs.any C1=false):tot xs=(B6 xs BK,0,()):=by unfold tot;rw[h,decide_eq_false (by omega)];rfl
theorem OE(xs ys:List P5){P Q:Prop}(_:P)(_:Q):Dm (xs,ys,())=some (true,()):=by
 rw[J9,IE];simp only[Xh];have e1:ilt (300:Int) (AJ xs)=decide (300<xs.length):=De 300 xs.length;have e2:ilt (300:Int) (AJ ys)=decide (300<ys.length):=De 300 ys.length;simp only[e1,e2];by_cases hx:300<xs.length;simp[hx];by_cases hy:300<ys.length;simp[hx,hy];simp only[hx,hy,Acb];have f1:fits (AJ ([]:List P5)+AJ xs)=true:=ATp (by rw[FO,FO,AcF];omega);have f0:BE ([]:List P5) xs=xs:=rfl;have f2:fits (AJ xs+AJ ys)=true:=ATp (by rw[FO,FO];omega);have f3:BE xs ys=xs++ys:=rfl;have f4:FQ (xs++ys,())=some (tot (xs++ys)):=Kk _ (by rw[Abl];omega);simp only[Kk xs (by omega),Kk ys (by omega),Yt xs (by omega),f1,f0,f2,f3,f4];simp only[AJW,Aby,Bool.and_true,Aca,AdS];cases hox:xs.any C1;cases hoy:ys.any C1;have hoa:(xs++ys).any C1=false:=by rw[List.any_append,hox,hoy];rfl
 have ex:tot xs=(B6 xs BK,0,()):=Vp (by omega) hox;have ey:tot ys=(B6 ys BK,0,()):=Vp (by omega) hoy;have ea:tot (xs++ys)=(B6 ys (B6 xs BK),0,()):=by rw[← AQH];exact Vp (by rw[Abl];omega) hoa
 have bx:B5 xs.length (B6 xs BK):=by have:=AQI (xs:=xs) O0 (fun x hx=>by have:=List.any_eq_false.1 hox x hx;simpa using this);simpa using this
 have bY:B5 ys.length (B6 ys BK):=by have:=AQI (xs:=ys) O0 (fun x hx=>by have:=List.any_eq_false.1 hoy x hx;simpa using this);simpa using this
 unfold B5 at bx bY;obtain⟨p1,p2,p3,p4⟩:=AQG ys (B6 xs BK);have g0:decide (AJ ys=(0:Int))=decide (ys.length=0):=by rw[← AJW];exact AXt ys.length 0
 have w1:IntKind.wrap .i64 ((B6 xs BK).1+(B6 ys BK).1)=(B6 xs BK).1+(B6 ys BK).1:=FX (by omega);have w2:IntKind.wrap .i64 ((B6 xs BK).2.1+(B6 ys BK).2.1)=(B6 xs BK).2.1+(B6 ys BK).2.1:=FX (by omega);have w3:IntKind.wrap .i64 ((B6 xs BK).2.2.1+(B6 ys BK).2.2.1)=(B6 xs BK).2.2.1+(B6 ys BK).2.2.1:=FX (by omega);have w4:IntKind.wrap .i64 ((B6 xs BK).2.2.2.1+(B6 ys BK).2.2.2.1)=(B6 xs BK).2.2.2.1+(B6 ys BK).2.2.2.1:=FX (by omega);simp only[ex,ey,ea,p1,p2,p3,p4,w1,w2,w3,w4,Aby,Bool.true_and];rw[g0];by_cases hn:ys=[]
 subst hn;simp[B6];have:ys.length≠0:=fun h=>hn (List.length_eq_zero_iff.1 h);simp[this,ALe hn (B6 xs BK) BK];have hoa:(xs++ys).any C1=true:=by rw[List.any_append,hox,hoy];rfl
 simp only[Vp (show xs.length≤1000 by omega) hox,OR hoy,OR hoa];simp[BK];have hoa:(xs++ys).any C1=true:=by rw[List.any_append,hox];rfl
 simp only[OR hox,OR hoa];simp[BK]
end Go.Pev.Pl
end
section
namespace Go.Pev
open Go.Proofs
noncomputable section
abbrev AUS:Row:=⟨32,0,0,2,0,none,AB3,[(.ret,AK)],AA,[(1,[[0],[0],[],[2],[2],[],[]])],[]⟩
def ADo[Lk]:Env:=T8.ext 32 true true (AF 0 2 AB3 AK AA Xc)
theorem ADn:AH Tryz.prog ADo:=Row.AG AUS Xn Tryz.func32 AOn
abbrev AUm:Row:=⟨14,0,0,1,0,none,DZ,[(.ret,AK)],AA,[],[(0,AO2,ABt)]⟩
def AD0[Lk]:Env:=ADo.ext 14 true true (AF 0 1 DZ AK AA G6)
theorem ADz:AH Tryz.prog AD0:=Row.AG AUm ADn Tryz.func14 AO3
abbrev AYl:Row:=⟨30,0,1,2,0,none,AJ2,[(.ret,AJ1)],AZ,[(8,[[],[0],[0],[0],[0],[30],[30],[],[0],[0],[0],[1]]),(6,[[],[0],[0],[0],[2],[2],[2],[2],[],[],[],[],[],[],[],[29],[31],[]]),(5,[[],[0],[0],[0],[0],[],[0],[0],[0],[],[0],[0],[0],[0],[],[],[],[],[],[0],[0],[0],[1]]),(3,[[],[0],[0],[0],[2],[2],[2],[2],[],[]])],[(0,AUi,AUh)]⟩
def AKs[Lk]:Env:=AD0.ext 30 false true (AF 1 2 AJ2 AJ1 AZ AUk)
theorem AH8:AH Tryz.prog AKs:=Row.AG AYl ADz Tryz.func30 AUj
abbrev AYm:Row:=⟨11,0,0,3,0,none,L6,[(.ret,AJ4)],BD,[(12,[[18],[18],[],[22],[22],[22],[7],[9],[]]),(3,[[0],[],[20],[20],[7],[9],[]])],[]⟩
def AKt[Lk]:Env:=AKs.ext 11 true true (AF 0 3 L6 AJ4 BD B9)
theorem AH9:AH Tryz.prog AKt:=Row.AG AYm AH8 Tryz.func11 AUn
abbrev AYn:Row:=⟨15,0,0,3,0,none,AJ7,[(.ret,AJ6)],BD,[(10,[[18],[],[20],[],[7,22],[1],[]])],[(0,AUq,AUp)]⟩
def Ya[Lk]:Env:=AKt.ext 15 true true (AF 0 3 AJ7 AJ6 BD AB8)
theorem RN:AH Tryz.prog Ya:=Row.AG AYn AH9 Tryz.func15 AB7
theorem AYf:Tryz.f39.body.isSome=true:=by kernel_rfl
theorem AYe : (Tryz.f39.name == "runtime.NumGoroutine") = false := by kernel_rfl
theorem AYd:loops (BC Tryz.f39)=0:=by kernel_rfl
def RM[Lk]:Env:=Ya.ext 39 false false (BN Tryz.prog Ya {} Tryz.f39)
theorem SQ:AH Tryz.prog RM:=Env.BQ RN (A7 RN Tryz.func39 AYf AYe AYd) (by simp) (by simp)
abbrev Rc:Row:=⟨63,0,0,2,0,some (1,39),En,[(.ret,AK)],AA,[],[(0,Pw,EZ)]⟩
def KD[Lk]:Env:=RM.BA 63 1 39 (AF 0 2 En AK AA Gk)
theorem Mu:AH Tryz.prog KD:=Row.AG Rc SQ Tryz.func63 Iq
abbrev QH:Row:=⟨38,0,0,2,0,some (1,39),En,[(.ret,AN)],AA,[],[]⟩
def JK[Lk]:Env:=KD.BA 38 1 39 (AF 0 2 En AN AA Fi)
theorem MJ:AH Tryz.prog JK:=Row.AG QH Mu Tryz.func38 IL
abbrev Aat:Row:=⟨21,0,0,1,0,none,AUd,[(.ret,AN)],AA,[],[]⟩
def AVu[Lk]:Env:=JK.ext 21 true true (AF 0 1 AUd AN AA AYg)
theorem APd:AH Tryz.prog AVu:=Row.AG Aat MJ Tryz.func21 AJ0
abbrev AGG:Row:=⟨37,0,0,2,0,some (1,21),H4,[(.ret,AK)],AA,[],[(0,AAx,EZ)]⟩
def Q7[Lk]:Env:=AVu.BA 37 1 21 (AF 0 2 H4 AK AA LO)
theorem SH:AH Tryz.prog Q7:=Row.AG AGG APd Tryz.func37 NN
abbrev ABh:Row:=⟨20,0,0,2,0,some (1,21),H4,[(.ret,AN)],AA,[],[]⟩
def Nq[Lk]:Env:=Q7.BA 20 1 21 (AF 0 2 H4 AN AA Jn)
theorem RH:AH Tryz.prog Nq:=Row.AG ABh SH Tryz.func20 Lx
abbrev AUl:Row:=⟨7,0,0,1,0,none,L5,[(.ret,L4)],AM,[],[(0,AO0,AOz)]⟩
def ADy[Lk]:Env:=Nq.ext 7 true true (AF 0 1 L5 L4 AM FQ)
theorem ADx:AH Tryz.prog ADy:=Row.AG AUl RH Tryz.func7 Tz
end
end Go.Pev
end
section
namespace Go.Pev
open Go.Proofs
noncomputable section
abbrev ABa:Row:=⟨22,0,0,1,0,none,AK,[(.ret,AN)],AA,[],[]⟩
def Nn[Lk]:Env:=ADy.ext 22 true true (AF 0 1 AK AN AA Dw)
theorem RE:AH Tryz.prog Nn:=Row.AG ABa ADx Tryz.func22 Lw
abbrev ALW:Row:=⟨8,0,0,1,0,none,L5,[(.ret,L4)],AM,[],[(0,AEE,AED)]⟩
def T9[Lk]:Env:=Nn.ext 8 true true (AF 0 1 L5 L4 AM OQ)
theorem Xo:AH Tryz.prog T9:=Row.AG ALW RE Tryz.func8 PA
abbrev AQu:Row:=⟨19,0,0,2,0,none,HB,[(.ret,AN)],AA,[(6,[[],[],[],[],[],[],[],[],[]])],[(0,ALw,ALv)]⟩
def ACe[Lk]:Env:=T9.ext 19 true true (AF 0 2 HB AN AA KI)
theorem ACd:AH Tryz.prog ACe:=Row.AG AQu Xo Tryz.func19 ALx
abbrev AVy:Row:=⟨18,0,0,0,0,none,OP,[(.ret,AII)],AA,[],[]⟩
def AKH[Lk]:Env:=ACe.ext 18 true true (AF 0 0 OP AII AA Jz)
theorem AHX:AH Tryz.prog AKH:=Row.AG AVy ACd Tryz.func18 APl
abbrev AO9:Row:=⟨6,0,0,0,0,none,OP,[(.ret,AN)],AA,[(6,[[20],[],[],[],[],[],[],[],[],[],[95],[97],[]]),(3,[[20],[],[],[],[],[],[],[24],[],[],[],[],[],[],[43],[45],[]]),(2,[[],[2],[],[0],[],[],[],[],[],[],[21],[23],[]])],[]⟩
def VR[Lk]:Env:=AKH.ext 6 true true (AF 0 0 OP AN AA Ow)
theorem Ye:AH Tryz.prog VR:=Row.AG AO9 AHX Tryz.func6 Qb
abbrev Xe:Row:=⟨3,0,0,2,0,none,HB,[(.ret,AN)],AA,[],[]⟩
def YY[Lk]:Env:=VR.ext 3 true true (AF 0 2 HB AN AA Dm)
theorem OO:AH Tryz.prog YY:=Row.AG Xe Ye Tryz.func3 J9
end
end Go.Pev
end
section

end
section
namespace Go.Pev
open Go.RowKit Go.ChangeShapes Go.WideShapes Go.ChangeAt
def KJ(P:Program)(rd:TypeId→Option Ty):List Field→Nat→Option Ty
 |[],_=>some .unit
 |f::r,off=>match rd f.type,KJ P rd r (off+P.cellsOf f.type)with
  |some a,some b=>match Nat.beq f.offset off&&Nat.beq (P.cellsOf f.type) a.size with
   |true=>some (.prod a b)
   |false=>none
  |_,_=>none
def FI(P:Program):Nat→TypeId→Option Ty
 |0,_=>none
 |n+1,t=>match P.underlying t with
  |some .bool=>some .bool
  |some (.int k)=>some (.int k)
  |some (.slice e)=>match FI P n e with
   |some a=>match Nat.beq (P.cellsOf e) a.size && !(Nat.beq a.size 0)with
    |true=>some (.slice a)
    |false=>none
   |none=>none
  |some (.array c e)=>match FI P n e with
   |some a=>match Nat.beq (P.cellsOf e) a.size&&Nat.beq (P.cellsOf t) (c*a.size)with
    |true=>some (.arr c a)
    |false=>none
   |none=>none
  |some (.struct fs)=>match KJ P (FI P n) fs.toList 0 with
   |some a=>match Nat.beq (P.cellsOf t) a.size with
    |true=>some a
    |false=>none
   |none=>none
  |_=>none
def wfD:(t:Ty)→t.den→Prop
 |.unit,_=>True
 |.bool,_=>True
 |.int k,n=>k.min≤n∧n≤k.max
 |.slice e,xs=>List.length (α:=e.den) xs≤maxLen∧∀ x∈(xs:List e.den),wfD e x
 |.prod a b,d=>wfD a d.1∧wfD b d.2
 |.arr n e,xs=>List.length (α:=e.den) xs=n∧∀ x∈(xs:List e.den),wfD e x
 |.nul _,_=>True
 |.mapi _ _,_=>True
section
variable {H:Type} {enc:TypeId×Value→H} {P:Program} {w:World} {spare:Nat→Bool} {held:Bool}
abbrev below(w:World):Nat→Prop:=fun b=>b<w.heap.size
theorem AZY{k:IntKind}{n:Int}(h:(Lit.int k n).wf=true):k.min≤n∧n≤k.max:=by simpa [Lit.wf]using h
theorem AIk{α:Type}{R:α→List Value→Prop}{k:Nat}:∀ (m:Nat) (f:Nat→List Value),(∀ i,i<m→(f i).length=k∧∃ x,R x (f i))→∃ xs:List α,xs.length=m∧rows R xs ((List.range m).flatMap f)∧∀ x∈xs,∃ i,i<m∧R x (f i):=by
 intro m;induction m with
  |zero=>intro f _;exact⟨[],rfl,rfl,fun x hx=>by cases hx⟩
  |succ m ih=>intro f h;obtain⟨xs,h1,h2,h3⟩:=ih f fun i hi=>h i (by omega);obtain⟨_,x,hx⟩:=h m (by omega);refine⟨xs++[x],by simp[h1],?_,fun y hy => ?_⟩;rw[Ach,AdT];exact F8 h2 (by simp;exact⟨f m,[],by simp,hx,rfl⟩);rcases Abt.1 hy with hy|hy;obtain⟨i,hi,hr⟩:=h3 y hy;exact⟨i,by omega,hr⟩;simp only[Ac2]at hy;subst hy;exact⟨m,by omega,hx⟩
theorem ATo{f:Nat→List Value}{k:Nat}:∀ (m:Nat),(∀ i,i<m→(f i).length=k)→∀ (j:Nat) (u:Value),((List.range m).flatMap f)[j]? = some u→∃ i r,i<m∧r<k∧j=i*k+r∧(f i)[r]? = some u:=by
 intro m;induction m with
  |zero=>intro _ j u h;simp at h
  |succ m ih=>
   intro hl j u h;rw[Ach,AdT]at h;have hlen:∀ m',m'≤m→((List.range m').flatMap f).length=m'*k:=by
    intro m' hm';induction m' with
     |zero=>simp
     |succ m' ih'=>rw[Ach,AdT,Abl,ih' (by omega)];simp[hl m' (by omega),Ab1]
   rcases Abv j (m*k)with hj|hj;rw[Abq (by rw[hlen m (Abd _)];exact hj)]at h;obtain⟨i,r,h1,h2,h3,h4⟩:=ih (fun i hi=>hl i (by omega)) j u h;exact⟨i,r,by omega,h2,h3,h4⟩;rw[Abs (by rw[hlen m (Abd _)];exact hj),hlen m (Abd _)]at h;simp only[Acx,List.flatMap_nil,AcE]at h;have hr:j-m*k<k:=by have:=GF h;rwa [hl m (by omega)]at this
   exact⟨m,j-m*k,by omega,hr,by omega,h⟩
theorem AVJ(a:Addr)(i j:Nat):(a.add i).add j=a.add (i+j):=by
 unfold Addr.add;by_cases hi:i=0;subst hi;simp;by_cases hj:j=0;subst hj;simp;have:¬ (i+j=0):=by omega
 simp[hi,hj,Ada]
theorem AHH{α:Type}[Inhabited α]{n:Nat}{p:Nat→α→Prop}(h:∀ i,i<n→∃ x,p i x):∃ f:Nat→α,∀ i,i<n→p i (f i):=by classical refine⟨fun i=>if hi:i<n then Classical.choose (h i hi)else default,fun i hi => ?_⟩;simp only[dif_pos hi];exact Classical.choose_spec (h i hi)
theorem AEu{rd:TypeId→Option Ty}{cs:List Value}(hrd:∀ (f:Field) (a:Ty),rd f.type=some a→(P.cellsOf f.type=a.size)→(∃ y:Nat×(DataW H×List MemPlace),DataW.trod enc P w 0 spare held y.1 f.type ((cs.drop f.offset).take (P.cellsOf f.type))=some y.2)→∃ d:a.den,Dat w (below w) a d ((cs.drop f.offset).take (P.cellsOf f.type))∧wfD a d):
  ∀ (fs:List Field) (off:Nat) (t:Ty),KJ P rd fs off=some t→off+t.size=cs.length→(∀ f∈fs,∃ y:Nat×(DataW H×List MemPlace),DataW.trod enc P w 0 spare held y.1 f.type ((cs.drop f.offset).take (P.cellsOf f.type))=some y.2) →
   ∃ d:t.den,Dat w (below w) t d (cs.drop off)∧wfD t d:=by
 intro fs;induction fs with
  |nil=>
   intro off t h hl _;simp only[KJ,AbZ]at h;subst h;refine⟨(),?_,trivial⟩;show cs.drop off=[]
   simp[Ty.size]at hl;exact List.drop_eq_nil_of_le (by omega)
  |cons f r ih=>intro off t h hl hf;simp only[KJ]at h;split at h;rename_i a b ha hb;split at h;rename_i hc;simp only[AbZ]at h;subst h;simp only[Aba]at hc;have h1:=Abp hc.1;have h2:=Abp hc.2;obtain⟨d,hd,hw⟩:=hrd f a ha h2 (hf f (by simp));simp only[Ty.size]at hl;obtain⟨e,he,hw'⟩:=ih (off+P.cellsOf f.type) b hb (by omega) fun g hg=>hf g (by simp[hg]);refine⟨(d,e),⟨(cs.drop off).take (P.cellsOf f.type),cs.drop (off+P.cellsOf f.type),?_,?_,he⟩,hw,hw'⟩;rw[← Acu,AdM];rw[h1]at hd;exact hd;cases h;cases h
theorem APy:∀ (n:Nat) (t:TypeId) (ty:Ty) (fuel:Nat) (cs:List Value) (x:DataW H×List MemPlace),FI P n t=some ty→DataW.trod enc P w 0 spare held fuel t cs=some x→∃ d:ty.den,Dat w (below w) ty d cs∧wfD ty d:=by
 intro n;induction n with
  |zero=>intro t ty fuel cs x h;cases h
  |succ n ih=>
   intro t ty fuel cs x h hx;simp only[FI]at h;split at h;rename_i hu;simp only[AbZ]at h;subst h;obtain⟨b,rfl,_⟩:=DataW.trod_bool hu hx;exact⟨b,rfl,trivial⟩;rename_i k hu;simp only[AbZ]at h;subst h;obtain⟨m,rfl,_,hw⟩:=DataW.trod_int hu hx;exact⟨m,rfl,AZY hw⟩;rename_i e hu;split at h;rename_i a ha;split at h;rename_i hc;simp only[AbZ]at h;subst h;rw[Aba]at hc;have hpos:a.size≠0:=fun h0=>by rw[h0]at hc;simp at hc
   have hc:=Abp hc.1;rcases DataW.trod_slice hu hx with⟨rfl,_⟩|⟨ad,len,cap,elems,rest,m,rfl,rfl,_,_,hle,hmax,hlen,hel,_⟩
   exact⟨[],⟨none,0,rfl,Abd _,fun hne=>absurd rfl hne⟩,Nat.zero_le _,fun x hx=>by cases hx⟩;-- each element
   have each:∀ i,i<len→∃ cs',w.cells? 0 (ad.add (i*P.cellsOf e)) (P.cellsOf e)=some cs'∧∃ d:a.den,Dat w (below w) a d cs'∧wfD a d:=by intro i hi;have h1:=hel i hi;rw[Abg (by omega),Option.bind_eq_some_iff]at h1;obtain⟨cs',h2,h3⟩:=h1;exact⟨cs',h2,ih e a m cs' _ ha h3⟩
   obtain⟨f,hf⟩:=AHH (α:=List Value) (p:=fun i cs'=>w.cells? 0 (ad.add (i*P.cellsOf e)) (P.cellsOf e)=some cs'∧∃ d:a.den,Dat w (below w) a d cs'∧wfD a d) each;have hfl:∀ i,i<len→(f i).length=a.size:=by intro i hi;obtain⟨_,hl,_⟩:=World.cells?_some (hf i hi).1;rw[hl,hc]
   obtain⟨xs,h1,h2,h3⟩:=AIk (R:=fun(d:a.den) cs=>Dat w (below w) a d cs∧wfD a d) (k:=a.size) len f fun i hi=>⟨hfl i hi,(hf i hi).2⟩
   refine⟨xs,⟨some ad,cap,by rw[h1],by rw[h1];exact hle,fun hne=>⟨ad,(List.range len).flatMap f,rfl,?_,A2 (fun x _ cs hx=>hx.1) h2,fun j u hu => ?_⟩⟩,by rw[h1];exact AcX hle hmax,fun x hx => ?_⟩;-- the block is there
   have hl0:0<len:=by rcases AcK len with h0|h0;exact absurd (Abh (by rw[h1,h0])) hne;exact h0
   have hb:=World.cells?_block (hf 0 hl0).1 (by omega);rw[AdL]at hb;have e0:ad.add 0=ad:=by simp[Addr.add]
   rw[e0]at hb;exact hb;obtain⟨i,r,hi,hr,rfl,hur⟩:=ATo len hfl j u hu;obtain⟨_,_,hcell⟩:=World.cells?_some (hf i hi).1;have:=hcell r (by rw[hc];exact hr);rw[hur]at this;rw[← this,hc,AVJ];obtain⟨i,_,hr⟩:=h3 x hx;exact hr.2;cases h;cases h;rename_i c e hu;split at h;rename_i a ha;split at h;rename_i hc;simp only[AbZ]at h;subst h;rw[Aba]at hc;have hc1:=Abp hc.1;have hc2:=Abp hc.2;obtain⟨xs,m,rfl,_,hl,hxs,hfs⟩:=DataW.trod_array hu hx;rw[hc2]at hl;obtain⟨ys,h1,h2,h3⟩:=AIk (R:=fun(d:a.den) cs=>Dat w (below w) a d cs∧wfD a d) (k:=a.size) c (fun i=>(cs.drop (i*a.size)).take a.size) fun i hi=>by
    have hi1:i*a.size+a.size≤c*a.size:=by have:=Ab0 a.size (show i+1≤c from hi);rwa [Ab1,Acd]at this
    have h1:=hfs i hi;rw[Abg (by omega),hc1]at h1;exact⟨by rw[Abn,Ab2,hl];omega,ih e a m _ _ ha h1⟩
   have hjoin:∀ k,k≤c→(List.range k).flatMap (fun i=>(cs.drop (i*a.size)).take a.size)=cs.take (k*a.size):=by
    intro k;induction k with
     |zero=>intro _;simp
     |succ k ihk=>intro hk;rw[Ach,AdT,ihk (by omega),Ab1,Acd,List.take_add];simp
   rw[hjoin c (Abd _),← hl,List.take_length]at h2;exact⟨ys,⟨h1,A2 (fun x _ cs hx=>hx.1) h2⟩,h1,fun x hx=>by obtain⟨i,_,hr⟩:=h3 x hx;exact hr.2⟩;cases h;cases h;rename_i fs hu;split at h;rename_i a ha;split at h;rename_i hc;simp only[AbZ]at h;subst h;have hc:=Abp hc;obtain⟨xs,m,rfl,_,hl,hxs,hfs⟩:=DataW.trod_struct hu hx;obtain⟨d,hd,hw⟩:=AEu (enc:=enc) (w:=w) (spare:=spare) (held:=held) (cs:=cs) (fun f b hb _ ⟨y,hy⟩=>ih f.type b y.1 _ y.2 hb hy) fs.toList 0 _ ha (by rw[hl,hc];omega) (fun f hf=>by
    obtain⟨i,hi⟩:=List.getElem?_of_mem hf;have h1:=hfs i f (by simpa using hi);have hlt:i<xs.length:=by rw[hxs];simpa using GF hi
    rw[Abg hlt]at h1;exact⟨(m,xs[i]),h1⟩)
   rw[List.drop_zero]at hd;exact⟨d,hd,hw⟩;cases h;cases h;cases h
theorem AFt{r:Reach}{b0:Nat}{t:TypeId}{v:Value}(hval:Value.okWide P w r b0 t v)(hn:∀ d,P.underlying t=some d→(match d with|.bool|.int _|.slice _=>true|_=>false)=true){ty:Ty}{n:Nat}(h:FI P (n+1) t=some ty):v.cells.toList=[v]:=by
 simp only[Value.okWide]at hval;have hu:∃ d,P.underlying t=some d:=by
  cases hu:P.underlying t with
   |none=>simp only[FI,hu]at h;cases h
   |some d=>exact⟨d,rfl⟩
 obtain⟨d,hu⟩:=hu;have:=hn d hu;rw[hu]at hval;cases d<;>simp only[Ab3]at this<;>simp only[Cell.okWide,hu]at hval<;>cases v<;>first|rfl|(simp_all [Cell.ok])
theorem Yo{r:Reach}{b0:Nat}{t:TypeId}{v:Value}{ps:List MemPlace}{dd:DataW H}(hval:Value.okWide P w r b0 t v)(hd:DataW.Trod enc P w 0 spare held t v dd ps){ty:Ty}{n:Nat}(h:FI P (n+1) t=some ty):
  ∃ d:ty.den,BT w (below w) ty d v∧wfD ty d:=by
 obtain⟨fuel,hf⟩:=hd;obtain⟨d,h1,h2⟩:=APy (n+1) t ty fuel _ _ h hf;refine⟨d,?_,h2⟩;have one:(∀ d,P.underlying t=some d→(match d with|.bool|.int _|.slice _=>true|_=>false)=true)→ty.isAgg=false→BT w (below w) ty d v:=by intro hn hg;unfold BT;rw[hg];rw[AFt hval hn h]at h1;exact h1
 have agg:(∃ cs,v = .agg cs)→ty.isAgg=true→BT w (below w) ty d v:=by rintro⟨cs,rfl⟩ hg;unfold BT;rw[hg];exact⟨cs,rfl,h1⟩
 have hu:∃ d,P.underlying t=some d:=by
  cases hu:P.underlying t with
   |none=>simp only[FI,hu]at h;cases h
   |some d=>exact⟨d,rfl⟩
 obtain⟨td,hu⟩:=hu;simp only[FI,hu]at h;split at h;rename_i hq;cases hq;simp only[AbZ]at h;subst h;exact one (fun d hd=>by rw[hu]at hd;cases hd;rfl) rfl;rename_i k hq;cases hq;simp only[AbZ]at h;subst h;exact one (fun d hd=>by rw[hu]at hd;cases hd;rfl) rfl;rename_i e hq;cases hq;split at h;split at h;simp only[AbZ]at h;subst h;exact one (fun d hd=>by rw[hu]at hd;cases hd;rfl) rfl;cases h;cases h;rename_i c e hq;cases hq;have hv:∃ cs,v = .agg cs:=by simp only[Value.okWide,hu]at hval;obtain⟨cs,rfl,_⟩:=hval;exact⟨cs,rfl⟩
 split at h;split at h;simp only[AbZ]at h;subst h;exact agg hv rfl;cases h;cases h;rename_i fs hq;cases hq;have hv:∃ cs,v = .agg cs:=by simp only[Value.okWide,hu]at hval;obtain⟨cs,rfl,_⟩:=hval;exact⟨cs,rfl⟩
 split at h;rename_i a ha;split at h;simp only[AbZ]at h;subst h;refine agg hv ?_;cases hfs:fs.toList with
  |nil=>rw[hfs]at ha;simp only[KJ,AbZ]at ha;subst ha;rfl
  |cons f r=>rw[hfs]at ha;simp only[KJ]at ha;split at ha;split at ha;simp only[AbZ]at ha;subst ha;rfl;cases ha;cases ha
 cases h;cases h;cases h
theorem R6{g:FuncId}{s:Spec}(hs:Ad P g s){args:List AV}{b:Bool}{e:Eff}(hrun:s (AV×Eff) args [] [] 0 (fun v e=>some (v,e))=some (.data .bool b,e)){vals:List Value}
  (hr:AP w (below w) (fun _=>none) [] args vals) (hglo:AVO w (below w):=by intro p h;simp[AGJ]at h):Calls P g vals.toArray w fun en w'=>en = .returned (.bool b)∧Below w.heap.size w w':=by
 obtain⟨v,e',h1,_,_,h4⟩:=hs _ args [] [] 0 _ _ hrun;simp only[AbZ,Abf]at h1;obtain⟨rfl,rfl⟩:=h1;have hi:HI w (below w) (fun _=>none) [] []:=⟨fun id o h=>by simp at h,fun i T e t xs ver out h=>by simp at h,fun i T e t xs ver out h=>by simp at h,fun i j b c b' c' _ _ _ h=>(nomatch h),fun i b c _ h=>(nomatch h),fun i T t xs b c h=>by simp at h,fun b h=>h,hglo,rfl⟩
 refine(h4 w _ _ vals hi hr).mono ?_;rintro en w' ⟨u,rfl,F',m',⟨hx,_⟩,hu⟩;have hb:u = .bool b:=CU hu;subst hb;exact⟨rfl,hx.os,hx.tape,hx.output,hx.size,fun i hi=>hx.keep i hi fun j c _ h=>by cases h⟩
end
section
variable {H:Type} {enc:TypeId×Value→H} {P:Program}
theorem RV{f:Func}{s:ChangeSpec}{apart fresh handsOn again:Bool}{W W':World}{args:Array Value}{v:Value}{ds gs:List (DataW H)}{before pa pv:List MemPlace}
  (hW:DataW.Whole enc P f.params.toList s.vars apart W args.toList ds gs before)
  (hres:∀ (b:Nat) (sp:Nat→Bool) (hd:Bool),DataW.TrodAll enc P W' b sp hd f.resultTypes.toList (v.resultList f.resultTypes.size) (s.fn H (ds++gs)).results [])
  (hargs:∀ sp:Nat→Bool,(∀ p∈before,sp p.block=true)→DataW.TrodAll enc P W' 0 sp true f.params.toList args.toList (s.fn H (ds++gs)).args pa)
  (hvars:∀ sp:Nat→Bool,(∀ p∈before,sp p.block=true)→DataW.TrodVars enc P W' sp s.vars (s.fn H (ds++gs)).vars pv)
  (hps:before=pa++pv) (hb:Below W.heap.size W W')
  (hok:∀ (j:Nat) (t:TypeId) (r:Value),f.resultTypes[j]? = some t→(v.resultList f.resultTypes.size)[j]? = some r→Value.okWide P W' .any 0 t r) :
  s.post enc P f apart fresh handsOn again W args v W':=by
 have hlt:∀ p∈before,p.block<W.heap.size:=fun p hp=>hW.lt p hp;have hold:∀ p∈before,(fun b=>decide (b<W.heap.size)) p.block=true:=fun p hp=>by simpa using hlt p hp
 refine⟨ds,gs,before,[],pa,pv,hW,hres _ _ _,hargs _ hold,hvars _ hold,World.keptBut_mono (fun p hp=>⟨hp,?_⟩) (hb.frame (·∈before)),fun _ => ?_⟩
 rw[hps,Abt]at hp;exact Or.inr hp;obtain⟨_,_,_,_,_,hz,hn⟩:=hW;refine⟨hok,_,_,([]++pa)++pv,⟨[]++pa,pv,trodAll_append (hargs _ (fun _ _=>rfl)) (hres _ _ _),hvars _ (fun _ _=>rfl),rfl,?_,?_⟩,?_⟩;intro b off hp;have hin:MemPlace.cell b off∈before:=by rw[hps];simpa using hp
 rw[hb.frozen (hlt _ hin)];exact hz b off hin;intro ha;have:=hn ha;rw[hps]at this;simpa using this;intro p hp _;rw[hps];simpa using hp
theorem O8{t:TypeId}(hl:laidOutB P=true)(hr:P.readableRec t=true)(hrow:t<P.types.size){W W':World}{v:Value}{d:DataW H}{ps:List MemPlace}
  (h:DataW.Trod enc P W 0 (fun _=>true) true t v d ps) (hb:Below W.heap.size W W') (hlt:∀ x∈ps,x.block<W.heap.size) {sp:Nat→Bool} (hs:∀ x∈ps,sp x.block=true) :
  DataW.Trod enc P W' 0 sp true t v d ps:=
 WideElems.Trod_stays hl hr hrow h (fun x hx=>hb.same (hlt x hx)) hs
end
end Go.Pev
end
