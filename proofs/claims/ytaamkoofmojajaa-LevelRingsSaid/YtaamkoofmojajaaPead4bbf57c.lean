/- A part of the proofs of this seat: G21M1 G21M2 G21M3 G21M Pln PlnB T18a T18b T18c PlnM RKA T18d PevTake PevClaim. -/
import Derived.Test.YtaamkoofmojajaaP66d73631de
import Derived.IntWalk
import Derived.Sort.AssemblyPlain
import Derived.ProofKit
import Derived.ChangeArms
import Derived.ReadAgain
import Derived.Deep.Slices
import Derived.OpenShut
set_option linter.unusedVariables false
set_option linter.unusedSimpArgs false
set_option linter.unusedSectionVars false
set_option maxRecDepth 100000
section
namespace Go.Pev
noncomputable section
attribute [local irreducible] Pr K2 OJ PD ATh ATi ATj Vu ACo Y1 ACY AJB AT many IntKind.wrap AQ Aj AN Bs DN FL AFE AF C1 ES imax AK Ab
abbrev U0:Ty:=(.int .i64)
abbrev U1:Ty:=(.slice (.prod U0 (.prod U0 (.prod U0 (.prod .bool .unit)))))
abbrev U2:=(List Int)
abbrev U3:=(Int×Int×Int×Bool×Unit)
abbrev U4:Ty:=(.slice U0)
abbrev U5:=(List Int×Int×Int×Int×Unit)
abbrev U6:=(List U2×Int×Int×Int×Unit)
abbrev U7:=(Int×Int×Unit)
abbrev U8:=(Int×Unit)
abbrev U9:=(List Int×Unit)
abbrev Ua:Ty:=(.prod U0 (.prod U0 .unit))
abbrev Ub:=(List U2×Int×Int×Unit)
abbrev Uc:=(List U2×Int×Int×Int×Int×Unit)
abbrev Ud:=(List Int×Int×Int×Int×Int×Unit)
abbrev Ue:=(List Int×Int×Int×Unit)
abbrev Uf:Ty:=(.slice U4)
abbrev Ug:=(List U2×Unit)
abbrev Uh:=(Bool×Unit)
abbrev Ui:Ty:=(.prod U0 (.prod U1 .unit))
abbrev Uj:=(Int×(List U3)×Unit)
abbrev Uk:Ty:=(.prod U0 (.prod Uf .unit))
abbrev Ul:=(Int×(List U2)×Unit)
abbrev Um:=(List Int×Int×Int×Int×Int×Int×Unit)
abbrev Un:=(List U2×Int×Int×Int×Int×Int×Unit)
abbrev Uo:=(Int×List U2×List (Int×Int)×Int×List U2×Int×Int×List Int×Int×Int×Bool×List Int×Bool×Bool×List Int×Int×List Int×Int×Bool×Int×List Int×Bool×Bool×List Int×Int×Int×Unit)
abbrev Up:=(List Int×Int×Int×Int×Bool×Bool×Unit)
abbrev Uq:=(Int×Int)
abbrev Ur:=(List Int×Int×Unit)
abbrev Us:=(List Int×List Int×Unit)
abbrev Ut:=(Int×List U3×Int×List U2×Int×List Int×List Int×Int×List U7×Int×Unit)
abbrev Uu:Ty:=(.prod U0 (.prod U0 (.prod U0 (.prod .bool .unit))))
abbrev Uv:Ty:=(.slice Ua)
abbrev Uw:=(U6⊕U6⊕Unit)
abbrev Ux:=(U5⊕U5⊕Unit)
abbrev Uy:=(List U2×Int×Unit)
abbrev Uz:=(List Int×List U2×Int×List U2×Int×List U2×List U2×Int×Int×Unit)
abbrev V0:=(Int×List U2×Int×Unit)
abbrev V1:=(Int×List U3×Int×List U2×Int×List Int×List Int×Int×Int×Unit)
abbrev V2:=(Int×List U7×List Int×Bool×Unit)
abbrev V3:=(Int×List U3×List U7×Int×Unit)
abbrev Tm:AE:=[(.tmp 0,.dat U4),(.tmp 1,.dat U4)]
abbrev Tl:AE:=[(.tmp 0,.dat .bool)]
abbrev Tk:List RS:=[.one]
abbrev Xc:AE:=[(.tmp 0,.dat U4),(.tmp 1,.dat U4),(.tmp 5,.di)]
abbrev Xb:A4:=[(.ret,[(.tmp 4,.dat .bool)]),(.exit 0,[])]
def OH[Lk]:(List Int×List Int×Int×Unit)→Option ((List Int×List Int×Int×Unit)⊕Uh⊕(Unit)⊕Unit):=fun(a0,a1,a2,_)=>
 match(ilt a2 (AQ a0))with
 |true=>match idx a0 a2 with|none=>none|some x0=>match idx a1 a2 with|none=>none|some x1=>match(!(ieq x0 x1))with
  |true=>some (.inr (.inl (false,())))
  |false=>some (.inl (a0,a1,(IntKind.wrap .i64 (a2+1)),()))
 |false=>some (.inr (.inr (.inl ())))
def To[Lk]:Us→Option (Uh):=fun(a0,a1,_)=>
 match(!(ieq (AQ a0) (AQ a1)))with
 |true=>some (false,())
 |false=>match Aa OH many (a0,a1,0,())with|none=>none|some r=>match r with
 |.inl (o0,_)=>some (o0,())
 |.inr r=>match r with
 |.inl _=>some (true,())
 |.inr _=>none
def OI[Lk]:=fun v=>Lk.f (To v)
theorem AMj v:OI v=To v:=AJ _
abbrev RW:AE:=[(.tmp 0,.di)]
abbrev RV:AE:=[(.tmp 0,.dat .bool)]
abbrev RU:List RS:=[.one]
def LW[Lk]:U8→Option (Uh):=fun(a0,_)=>
 match(ile 1 a0)with
 |true=>some ((ile a0 64),())
 |false=>some (false,())
def Ib[Lk]:=fun v=>Lk.f (LW v)
theorem Wt v:Ib v=LW v:=AJ _
abbrev AOL:AE:=[(.tmp 0,.di),(.tmp 1,.di)]
abbrev AOK:AE:=[(.tmp 0,.dat .bool)]
abbrev AOJ:List RS:=[.one]
def AJj[Lk]:U7→Option (Uh):=fun(a0,a1,_)=>
 match Ib (a0,())with|none=>none|some (y0,_)=>match y0 with
 |true=>match(ile 0 a1)with
  |true=>some ((ilt a1 a0),())
  |false=>some (false,())
 |false=>some (false,())
def tin[Lk]:=fun v=>Lk.f (AJj v)
theorem AOM v:tin v=AJj v:=AJ _
abbrev AF8:AE:=[(.tmp 0,.di),(.tmp 1,.di),(.tmp 2,.di)]
abbrev AF7:AE:=[(.tmp 0,.di)]
abbrev AF6:List RS:=[.one]
def Yj[Lk]:(Int×Int×Int×Unit)→Option (U8):=fun(a0,a1,a2,_)=>
 match(ieq a1 a2)with
 |true=>some ((-1:Int),())
 |false=>match tin (a0,a1,())with|none=>none|some (y0,_)=>match(!y0)with
 |true=>some ((-1:Int),())
 |false=>match tin (a0,a2,())with|none=>none|some (y1,_)=>match(!y1)with
 |true=>some ((-1:Int),())
 |false=>some ((IntKind.wrap .i64 ((IntKind.wrap .i64 (a0*(IntKind.wrap .i64 (a1+1))))+a2)),())
def ALK[Lk]:=fun v=>Lk.f (Yj v)
theorem AJk v:ALK v=Yj v:=AJ _
abbrev RR:AE:=[(.tmp 0,.di),(.tmp 1,.di)]
abbrev RQ:AE:=[(.tmp 0,.di),(.tmp 1,.di),(.tmp 2,.dat .bool),(.tmp 3,.dat .bool)]
abbrev RP:List RS:=[.one,.one,.one,.one]
def LV[Lk]:U7→Option ((Int×Int×Bool×Bool×Unit)):=fun(a0,a1,_)=>
 match Ib (a0,())with|none=>none|some (y0,_)=>match(!y0)with
 |true=>some (0,0,false,false,())
 |false=>match(ilt a1 0)with
 |true=>some (0,0,false,false,())
 |false=>match(ile (IntKind.wrap .i64 (a0*(IntKind.wrap .i64 (a0+1)))) a1)with
 |true=>some (0,0,false,false,())
 |false=>match(ilt a1 a0)with
 |true=>some (a1,0,false,true,())
 |false=>match quo? .i64 a1 a0 with|none=>none|some x1=>match rem? a1 a0 with|none=>none|some x2=>match(ieq (IntKind.wrap .i64 (x1-1)) x2)with
 |true=>some (0,0,false,false,())
 |false=>some ((IntKind.wrap .i64 (x1-1)),x2,true,true,())
def RT[Lk]:=fun v=>Lk.f (LV v)
theorem Ws v:RT v=LV v:=AJ _
abbrev Yd:AE:=[(.tmp 0,.di)]
abbrev Yc:AE:=[(.tmp 0,.di),(.tmp 1,.own 27 U4),(.tmp 2,.di)]
abbrev Yb:List RS:=[.agg 2,.one]
abbrev ACF:AE:=[(.tmp 2,.box 2),(.cell 0 0,.di),(.cell 0 1,.nil U4),(.tmp 4,.box 2),(.cell 1 0,.di),(.cell 1 1,.own 27 U4),(.tmp 12,.di),(.tmp 13,.di)]
abbrev ACE:A4:=[(.exit 0,[(.tmp 2,.box 2),(.cell 0 0,.di),(.cell 0 1,.nil U4),(.tmp 4,.box 2),(.cell 1 0,.di),(.cell 1 1,.own 27 U4)])]
def Fy[Lk]:(Int×Int×List U2×Int×Int×Unit)→Option ((Int×Int×List U2×Int×Int×Unit)⊕(Int×Int×List U2×Unit)⊕Unit):=fun(a0,a1,a2,a3,a4,_)=>
 match(ilt a4 a3)with
 |true=>match(fits ((AQ a2)+(AQ ([([a4]:List (Int))]:List U2))))with
  |true=>some (.inl (a0,a1,(Bs a2 ([([a4]:List (Int))]:List U2)),a3,(IntKind.wrap .i64 (a4+1)),()))
  |false=>none
 |false=>some (.inr (.inl (a0,a1,a2,())))
def Ql[Lk]:U8→Option (V0):=fun(a0,_)=>
 match Ib (a0,())with|none=>none|some (y0,_)=>match(!y0)with
 |true=>some (0,([]:List U2),1,())
 |false=>match Aa Fy many (0,a0,([]:List U2),a0,0,())with|none=>none|some r=>match r with
 |.inl (o1,o2,o3,_)=>some (o2,o3,0,())
 |.inr _=>none
def ACH[Lk]:=fun v=>Lk.f (Ql v)
theorem ACG v:ACH v=Ql v:=AJ _
abbrev Tu:AE:=[(.tmp 0,.dat U4),(.tmp 1,.di)]
abbrev Tt:AE:=[(.tmp 0,.di)]
abbrev Ts:List RS:=[.one]
abbrev Xe:AE:=[(.tmp 0,.dat U4),(.tmp 1,.di),(.tmp 7,.di),(.tmp 8,.di)]
abbrev Xd:A4:=[(.ret,[(.tmp 4,.di)]),(.exit 0,[])]
def ER[Lk]:U5→Option (U5⊕U8⊕(Unit)⊕Unit):=fun(a0,a1,a2,a3,_)=>
 match(ilt a3 a2)with
 |true=>match idx a0 a3 with|none=>none|some x0=>match(ieq a1 x0)with
  |true=>some (.inr (.inl (a3,())))
  |false=>some (.inl (a0,a1,a2,(IntKind.wrap .i64 (a3+1)),()))
 |false=>some (.inr (.inr (.inl ())))
def L7[Lk]:Ur→Option (U8):=fun(a0,a1,_)=>
 match Aa ER many (a0,a1,(AQ a0),0,())with|none=>none|some r=>match r with
 |.inl (o0,_)=>some (o0,())
 |.inr r=>match r with
 |.inl _=>some ((-1:Int),())
 |.inr _=>none
def Kx[Lk]:=fun v=>Lk.f (L7 v)
theorem Xf v:Kx v=L7 v:=AJ _
abbrev JH:AE:=[(.tmp 0,.dat U4),(.tmp 1,.di)]
abbrev JG:AE:=[(.tmp 0,.dat .bool)]
abbrev JF:List RS:=[.one]
def Gx[Lk]:Ur→Option (Uh):=fun(a0,a1,_)=>
 match Kx (a0,a1,())with|none=>none|some (y0,_)=>some ((ile 0 y0),())
def Ef[Lk]:=fun v=>Lk.f (Gx v)
theorem MU v:Ef v=Gx v:=AJ _
abbrev AHn:AE:=[(.tmp 0,.dat U4)]
abbrev AHm:AE:=[(.tmp 0,.di)]
abbrev AHl:List RS:=[.one]
abbrev AKF:AE:=[(.tmp 0,.dat U4),(.tmp 3,.di),(.tmp 4,.di)]
abbrev AKE:A4:=[(.exit 0,[(.tmp 3,.di)])]
def Hv[Lk]:Ue→Option (Ue⊕U8⊕Unit):=fun(a0,a1,a2,_)=>
 match(ilt a2 (AQ a0))with
 |true=>match idx a0 a2 with|none=>none|some x0=>some (.inl (a0,(ES a1 x0),(IntKind.wrap .i64 (a2+1)),()))
 |false=>some (.inr (.inl (a1,())))
def Zu[Lk]:U9→Option (U8):=fun(a0,_)=>
 match(ilt (AQ a0) 1)with
 |true=>none
 |false=>match idx a0 0 with|none=>none|some x0=>match Aa Hv many (a0,x0,1,())with|none=>none|some r=>match r with
 |.inl (o1,_)=>some (o1,())
 |.inr _=>none
def AMB[Lk]:=fun v=>Lk.f (Zu v)
theorem AKG v:AMB v=Zu v:=AJ _
abbrev AAo:AE:=[(.tmp 0,.nil U0),(.tmp 1,.di)]
abbrev AAn:AE:=[(.tmp 0,.own 3 U0)]
abbrev AAm:List RS:=[.one]
def Q5[Lk]:U8→Option (U9):=fun(a0,_)=>
 match(ilt a0 0)with
 |true=>none
 |false=>match(ilt 0 (IntKind.wrap .i64 (a0-(IntKind.wrap .i64 (0-0)))))with
 |true=>match G8 ([]:List Unit) 0 0 with|none=>none|some _u0=>match(T8 (IntKind.wrap .i64 (a0-(IntKind.wrap .i64 (0-0)))))with
  |true=>match G8 (AFE (AF (IntKind.wrap .i64 (a0-(IntKind.wrap .i64 ((0:Int)-(0:Int)))))) (0:Int)) (0:Int) (0:Int)with|none=>none|some x1=>some ((DN (AF (AQ x1)) (AFE (AF (IntKind.wrap .i64 (a0-(IntKind.wrap .i64 ((0:Int)-(0:Int)))))) (0:Int))),())
  |false=>none
 |false=>some (([]:List (Int)),())
def AEu[Lk]:=fun v=>Lk.f (Q5 v)
theorem AEt v:AEu v=Q5 v:=AJ _
abbrev OY:AE:=[(.tmp 0,.dat Uf)]
abbrev OX:AE:=[(.tmp 0,.own 3 U0)]
abbrev OW:List RS:=[.one]
abbrev UR:AE:=[(.tmp 6,.own 3 U0),(.tmp 25,.dat Uf),(.tmp 26,.di),(.tmp 27,.di)]
abbrev UP:A4:=[(.exit 2,[(.tmp 6,.own 3 U0)])]
def Dc[Lk]:(List Int×List U2×Int×Int×Unit)→Option ((List Int×List U2×Int×Int×Unit)⊕U9⊕Unit):=fun(a0,a1,a2,a3,_)=>
 match(ilt a3 a2)with
 |true=>match idx a1 a3 with|none=>none|some x0=>match(fits ((AQ a0)+(AQ x0)))with
  |true=>some (.inl ((Bs a0 x0),a1,a2,(IntKind.wrap .i64 (a3+1)),()))
  |false=>none
 |false=>some (.inr (.inl (a0,())))
abbrev US:AE:=[(.tmp 0,.dat Uf),(.tmp 3,.di),(.tmp 9,.dat Uf),(.tmp 10,.di),(.tmp 11,.di)]
abbrev UQ:A4:=[(.exit 0,[(.tmp 0,.dat Uf),(.tmp 3,.di)])]
def Dd[Lk]:(List U2×Int×List U2×Int×Int×Unit)→Option ((List U2×Int×List U2×Int×Int×Unit)⊕Uy⊕Unit):=fun(a0,a1,a2,a3,a4,_)=>
 match(ilt a4 a3)with
 |true=>match idx a2 a4 with|none=>none|some x0=>match(ilt (IntKind.wrap .i64 (a1+(AQ x0))) 0)with
  |true=>none
  |false=>some (.inl (a0,(IntKind.wrap .i64 (a1+(AQ x0))),a2,a3,(IntKind.wrap .i64 (a4+1)),()))
 |false=>some (.inr (.inl (a0,a1,())))
def Jy[Lk]:Ug→Option (U9):=fun(a0,_)=>
 match Aa Dd many (a0,0,a0,(AQ a0),0,())with|none=>none|some r=>match r with
 |.inl (o0,o1,_)=>match AEu (o1,())with|none=>none|some (y2,_)=>match Aa Dc many (y2,o0,(AQ o0),0,())with|none=>none|some r=>match r with
  |.inl (o3,_)=>some (o3,())
  |.inr _=>none
 |.inr _=>none
def IA[Lk]:=fun v=>Lk.f (Jy v)
theorem UT v:IA v=Jy v:=AJ _
abbrev GJ:AE:=[(.tmp 0,.dat U4),(.tmp 1,.clo 81 [])]
abbrev GH:AE:=[(.tmp 0,.di)]
abbrev GG:List RS:=[.one]
abbrev IU:AE:=[(.tmp 0,.dat U4),(.tmp 1,.clo 81 []),(.tmp 7,.di),(.tmp 8,.di)]
abbrev IT:A4:=[(.ret,[(.tmp 4,.di)]),(.exit 0,[])]
def Bm[Lk]:Ue→Option (Ue⊕U8⊕(Unit)⊕Unit):=fun(a0,a1,a2,_)=>
 match(ilt a2 a1)with
 |true=>match idx a0 a2 with|none=>none|some x0=>match(ilt x0 0)with
  |true=>some (.inr (.inl (a2,())))
  |false=>match(ilt 10000 x0)with
  |true=>some (.inr (.inl (a2,())))
  |false=>some (.inl (a0,a1,(IntKind.wrap .i64 (a2+1)),()))
 |false=>some (.inr (.inr (.inl ())))
def D5[Lk]:U9→Option (U8):=fun(a0,_)=>
 match Aa Bm many (a0,(AQ a0),0,())with|none=>none|some r=>match r with
 |.inl (o0,_)=>some (o0,())
 |.inr r=>match r with
 |.inl _=>some ((-1:Int),())
 |.inr _=>none
def FZ[Lk]:=fun v=>Lk.f (D5 v)
theorem IV v:FZ v=D5 v:=AJ _
abbrev FO:AE:=[(.tmp 0,.dat U4),(.tmp 1,.clo 81 [])]
abbrev FN:AE:=[(.tmp 0,.dat .bool)]
abbrev FM:List RS:=[.one]
def DV[Lk]:U9→Option (Uh):=fun(a0,_)=>
 match FZ (a0,())with|none=>none|some (y0,_)=>some ((ile 0 y0),())
def DO[Lk]:=fun v=>Lk.f (DV v)
theorem HX v:DO v=DV v:=AJ _
abbrev AHZ:AE:=[(.tmp 0,.dat U4)]
abbrev AHY:AE:=[(.tmp 0,.dat .bool)]
abbrev AHX:List RS:=[.one]
abbrev AJ8:AE:=[(.tmp 0,.dat U4),(.tmp 3,.map U0 U0),(.tmp 7,.dat U4),(.tmp 8,.di),(.tmp 9,.di)]
abbrev AJ7:A4:=[(.exit 0,[(.tmp 0,.dat U4),(.tmp 3,.map U0 U0)])]
def Hr[Lk]:(List Int×List Uq×List Int×Int×Int×Unit)→Option ((List Int×List Uq×List Int×Int×Int×Unit)⊕(List Int×List Uq×Unit)⊕Unit):=fun(a0,a1,a2,a3,a4,_)=>
 match(ilt a4 a3)with
 |true=>match idx a2 a4 with|none=>none|some x0=>some (.inl (a0,(Ab a1 x0 (IntKind.wrap .i64 (((AK a1 x0).getD 0)+1))),a2,a3,(IntKind.wrap .i64 (a4+1)),()))
 |false=>some (.inr (.inl (a0,a1,())))
def Zn[Lk]:U9→Option (Uh):=fun(a0,_)=>
 match Aa Hr many (a0,([]:List Uq),a0,(AQ a0),0,())with|none=>none|some r=>match r with
 |.inl (o0,o1,_)=>some ((ieq (AQ o1) (AQ o0)),())
 |.inr _=>none
def once[Lk]:=fun v=>Lk.f (Zn v)
theorem AJ9 v:once v=Zn v:=AJ _
abbrev Ru:AE:=[(.tmp 0,.dat U4)]
abbrev Rs:AE:=[(.tmp 0,.dat .bool)]
abbrev Rr:List RS:=[.one]
def Lb[Lk]:U9→Option (Uh):=fun(a0,_)=>
 match(ilt 1000 (AQ a0))with
 |true=>some (false,())
 |false=>match DO (a0,())with|none=>none|some (y0,_)=>match(!y0)with
 |true=>match once (a0,())with|none=>none|some (y1,_)=>some (y1,())
 |false=>some (false,())
def KZ[Lk]:=fun v=>Lk.f (Lb v)
theorem W8 v:KZ v=Lb v:=AJ _
abbrev RO:AE:=[(.tmp 0,.dat U4),(.tmp 1,.di)]
abbrev RN:AE:=[(.tmp 0,.own 3 U0)]
abbrev RM:List RS:=[.one]
def LU[Lk]:Ur→Option (U9):=fun(a0,a1,_)=>
 match G8 a0 a1 (AQ a0)with|none=>none|some x0=>match G8 a0 0 a1 with|none=>none|some x1=>match IA (([x0,x1]:List U2),())with|none=>none|some (y2,_)=>some (y2,())
def NL[Lk]:=fun v=>Lk.f (LU v)
theorem Wr v:NL v=LU v:=AJ _
abbrev SJ:AE:=[(.tmp 0,.dat U4),(.tmp 1,.dat U4)]
abbrev SH:AE:=[(.tmp 0,.own 3 U0),(.tmp 1,.dat .bool)]
abbrev SF:List RS:=[.one,.one]
abbrev XH:AE:=[(.tmp 0,.dat U4),(.tmp 6,.own 3 U0),(.tmp 12,.dat U4),(.tmp 13,.di),(.tmp 14,.di)]
abbrev XG:A4:=[(.exit 0,[(.tmp 6,.own 3 U0)])]
def Dk[Lk]:(List Int×List Int×List Int×Int×Int×Unit)→Option ((List Int×List Int×List Int×Int×Int×Unit)⊕U9⊕Unit):=fun(a0,a1,a2,a3,a4,_)=>
 match(ilt a4 a3)with
 |true=>match idx a2 a4 with|none=>none|some x0=>match Kx (a0,x0,())with|none=>none|some (y1,_)=>match(fits ((AQ a1)+(AQ ([y1]:List (Int)))))with
  |true=>some (.inl (a0,(Bs a1 ([y1]:List (Int))),a2,a3,(IntKind.wrap .i64 (a4+1)),()))
  |false=>none
 |false=>some (.inr (.inl (a1,())))
def Lg[Lk]:Us→Option ((List Int×Bool×Unit)):=fun(a0,a1,_)=>
 match KZ (a0,())with|none=>none|some (y0,_)=>match(!y0)with
 |true=>some (([]:List (Int)),false,())
 |false=>match Aa Dk many (a0,([]:List (Int)),a1,(AQ a1),0,())with|none=>none|some r=>match r with
 |.inl (o1,_)=>match Ef (o1,(-1:Int),())with|none=>none|some (y2,_)=>some (o1,(!y2),())
 |.inr _=>none
def ZJ[Lk]:=fun v=>Lk.f (Lg v)
theorem XI v:ZJ v=Lg v:=AJ _
abbrev ZA:AE:=[(.tmp 0,.dat U4),(.tmp 1,.di)]
abbrev Y9:AE:=[(.tmp 0,.own 3 U0),(.tmp 1,.dat .bool)]
abbrev Y8:List RS:=[.one,.one]
def Qr[Lk]:Ur→Option ((List Int×Bool×Unit)):=fun(a0,a1,_)=>
 match ZJ (a0,([a1]:List (Int)),())with|none=>none|some (y0,y1,_)=>match(!y1)with
 |true=>some (([]:List (Int)),false,())
 |false=>match idx y0 0 with|none=>none|some x2=>match NL (a0,(AN y0 0 0),())with|none=>none|some (y3,_)=>some (y3,true,())
def XA[Lk]:=fun v=>Lk.f (Qr v)
theorem ACm v:XA v=Qr v:=AJ _
abbrev Rx:AE:=[(.tmp 0,.dat U4)]
abbrev Rw:AE:=[(.tmp 0,.own 3 U0)]
abbrev Rv:List RS:=[.one]
def Lc[Lk]:U9→Option (U9):=fun(a0,_)=>
 match KZ (a0,())with|none=>none|some (y0,_)=>match(!y0)with
 |true=>some (([]:List (Int)),())
 |false=>match(ieq (AQ a0) 0)with
 |true=>some (([]:List (Int)),())
 |false=>match AMB (a0,())with|none=>none|some (y1,_)=>match Kx (a0,y1,())with|none=>none|some (y2,_)=>match NL (a0,y2,())with|none=>none|some (y3,_)=>some (y3,())
def Ry[Lk]:=fun v=>Lk.f (Lc v)
theorem W9 v:Ry v=Lc v:=AJ _
abbrev EW:AE:=[(.tmp 0,.dat Uf),(.cap 1 0,.box 1),(.cell 0 0,.di),(.tmp 1,.clo 67 [(0,0)])]
abbrev EV:AE:=[(.obj 0,.box 1),(.cell 0 0,.di),(.tmp 0,.di)]
abbrev EU:List RS:=[.one]
abbrev Gp:AE:=[(.obj 0,.box 1),(.cell 0 0,.di),(.tmp 0,.dat Uf),(.tmp 1,.clo 67 [(0,0)]),(.tmp 7,.di),(.tmp 8,.di)]
abbrev Gn:A4:=[(.ret,[(.obj 0,.box 1),(.cell 0 0,.di),(.tmp 4,.di)]),(.exit 0,[(.obj 0,.box 1),(.cell 0 0,.di)])]
def BR[Lk]:(Int×List U2×Int×Int×Unit)→Option ((Int×List U2×Int×Int×Unit)⊕U7⊕U8⊕Unit):=fun(a0,a1,a2,a3,_)=>
 match(ilt a3 a2)with
 |true=>match idx a1 a3 with|none=>none|some x0=>match Ef (x0,a0,())with|none=>none|some (y1,_)=>match y1 with
  |true=>some (.inr (.inl (a0,a3,())))
  |false=>some (.inl (a0,a1,a2,(IntKind.wrap .i64 (a3+1)),()))
 |false=>some (.inr (.inr (.inl (a0,()))))
def DB[Lk]:Uy→Option (U7):=fun(a0,a1,_)=>
 match Aa BR many (a1,a0,(AQ a0),0,())with|none=>none|some r=>match r with
 |.inl (o0,o1,_)=>some (o0,o1,())
 |.inr r=>match r with
 |.inl (o2,_)=>some (o2,(-1:Int),())
 |.inr _=>none
def D3[Lk]:=fun v=>Lk.f (DB v)
theorem Gq v:D3 v=DB v:=AJ _
abbrev Rh:AE:=[(.tmp 0,.dat Uk),(.tmp 1,.di)]
abbrev Rg:AE:=[(.tmp 0,.di)]
abbrev Rf:List RS:=[.one]
def LY[Lk]:(Ul×Int×Unit)→Option (U8):=fun(a0,a1,_)=>
 match D3 (a0.2.1,a1,())with|none=>none|some (y0,y1,_)=>some (y1,())
def NO[Lk]:=fun v=>Lk.f (LY v)
theorem W1 v:NO v=LY v:=AJ _
abbrev AIh:AE:=[(.tmp 0,.di),(.tmp 1,.dat U4)]
abbrev AIg:AE:=[(.tmp 0,.dat .bool)]
abbrev AIf:List RS:=[.one]
abbrev AKY:AE:=[(.tmp 0,.di),(.tmp 5,.box 3),(.cell 0 0,.own 3 U0),(.cell 0 1,.map U0 U0),(.cell 0 2,.map U0 U0),(.tmp 30,.dat U4),(.tmp 31,.di),(.tmp 32,.di)]
abbrev AKX:A4:=[(.ret,[(.tmp 4,.dat .bool)]),(.exit 0,[(.tmp 5,.box 3),(.cell 0 0,.own 3 U0),(.cell 0 1,.map U0 U0),(.cell 0 2,.map U0 U0)])]
def Gu[Lk]:(Int×List Int×List Uq×List Uq×List Int×Int×Int×Unit)→Option ((Int×List Int×List Uq×List Uq×List Int×Int×Int×Unit)⊕Uh⊕(List Int×List Uq×List Uq×Unit)⊕Unit):=fun(a0,a1,a2,a3,a4,a5,a6,_)=>
 match(ilt a6 a5)with
 |true=>match idx a4 a6 with|none=>none|some x0=>match RT (a0,x0,())with|none=>none|some (y1,y2,y3,y4,_)=>match(!y4)with
  |true=>some (.inr (.inl (false,())))
  |false=>match y3 with
  |true=>match idx a1 (IntKind.wrap .i64 ((AQ a1)-1))with|none=>none|some x5=>match(!(ieq (AN a1 (AF (IntKind.wrap .i64 ((AQ a1)-1))) 0) y1))with
   |true=>some (.inr (.inl (false,())))
   |false=>match(ilt 0 (IntKind.wrap .i64 ((AQ a1)-1)))with
   |true=>match idx a1 (IntKind.wrap .i64 ((IntKind.wrap .i64 ((AQ a1)-1))-1))with|none=>none|some x6=>match(ieq (AN a1 (AF (IntKind.wrap .i64 ((IntKind.wrap .i64 ((AQ a1)-1))-1))) 0) y2)with
    |true=>match G8 a1 0 (IntKind.wrap .i64 ((AQ a1)-1))with|none=>none|some x7=>match(!y3)with
     |true=>match idx (FL 0 (AF (AQ x7)) a1) (IntKind.wrap .i64 ((((AF (AQ x7)):Nat):Int)-1))with|none=>none|some x8=>match(!(ieq (AN a1 (0+(AF (IntKind.wrap .i64 ((((AF (AQ x7)):Nat):Int)-1)))) 0) y1))with
      |true=>some (.inr (.inl (false,())))
      |false=>match(!y3)with
      |true=>some (.inl (a0,(DN (AF (AQ x7)) a1),a2,(Ab a3 y1 (IntKind.wrap .i64 (((AK a3 y1).getD 0)+1))),a4,a5,(IntKind.wrap .i64 (a6+1)),()))
      |false=>some (.inl (a0,(DN (AF (AQ x7)) a1),a2,a3,a4,a5,(IntKind.wrap .i64 (a6+1)),()))
     |false=>match(!y3)with
     |true=>some (.inl (a0,(DN (AF (AQ x7)) a1),a2,(Ab a3 y1 (IntKind.wrap .i64 (((AK a3 y1).getD 0)+1))),a4,a5,(IntKind.wrap .i64 (a6+1)),()))
     |false=>some (.inl (a0,(DN (AF (AQ x7)) a1),a2,a3,a4,a5,(IntKind.wrap .i64 (a6+1)),()))
    |false=>match(ilt 0 ((AK a2 y2).getD 0))with
    |true=>some (.inr (.inl (false,())))
    |false=>match(fits ((AQ a1)+(AQ ([y2]:List (Int)))))with
    |true=>match(!y3)with
     |true=>match idx (Bs a1 ([y2]:List (Int))) (IntKind.wrap .i64 ((AQ (Bs a1 ([y2]:List (Int))))-1))with|none=>none|some x9=>match(!(ieq (AN (Bs a1 ([y2]:List (Int))) (AF (IntKind.wrap .i64 ((AQ (Bs a1 ([y2]:List (Int))))-1))) 0) y1))with
      |true=>some (.inr (.inl (false,())))
      |false=>match(!y3)with
      |true=>some (.inl (a0,(Bs a1 ([y2]:List (Int))),(Ab a2 y2 (IntKind.wrap .i64 (((AK a2 y2).getD 0)+1))),(Ab a3 y1 (IntKind.wrap .i64 (((AK a3 y1).getD 0)+1))),a4,a5,(IntKind.wrap .i64 (a6+1)),()))
      |false=>some (.inl (a0,(Bs a1 ([y2]:List (Int))),(Ab a2 y2 (IntKind.wrap .i64 (((AK a2 y2).getD 0)+1))),a3,a4,a5,(IntKind.wrap .i64 (a6+1)),()))
     |false=>match(!y3)with
     |true=>some (.inl (a0,(Bs a1 ([y2]:List (Int))),(Ab a2 y2 (IntKind.wrap .i64 (((AK a2 y2).getD 0)+1))),(Ab a3 y1 (IntKind.wrap .i64 (((AK a3 y1).getD 0)+1))),a4,a5,(IntKind.wrap .i64 (a6+1)),()))
     |false=>some (.inl (a0,(Bs a1 ([y2]:List (Int))),(Ab a2 y2 (IntKind.wrap .i64 (((AK a2 y2).getD 0)+1))),a3,a4,a5,(IntKind.wrap .i64 (a6+1)),()))
    |false=>none
   |false=>match(ilt 0 ((AK a2 y2).getD 0))with
   |true=>some (.inr (.inl (false,())))
   |false=>match(fits ((AQ a1)+(AQ ([y2]:List (Int)))))with
   |true=>match(!y3)with
    |true=>match idx (Bs a1 ([y2]:List (Int))) (IntKind.wrap .i64 ((AQ (Bs a1 ([y2]:List (Int))))-1))with|none=>none|some x10=>match(!(ieq (AN (Bs a1 ([y2]:List (Int))) (AF (IntKind.wrap .i64 ((AQ (Bs a1 ([y2]:List (Int))))-1))) 0) y1))with
     |true=>some (.inr (.inl (false,())))
     |false=>match(!y3)with
     |true=>some (.inl (a0,(Bs a1 ([y2]:List (Int))),(Ab a2 y2 (IntKind.wrap .i64 (((AK a2 y2).getD 0)+1))),(Ab a3 y1 (IntKind.wrap .i64 (((AK a3 y1).getD 0)+1))),a4,a5,(IntKind.wrap .i64 (a6+1)),()))
     |false=>some (.inl (a0,(Bs a1 ([y2]:List (Int))),(Ab a2 y2 (IntKind.wrap .i64 (((AK a2 y2).getD 0)+1))),a3,a4,a5,(IntKind.wrap .i64 (a6+1)),()))
    |false=>match(!y3)with
    |true=>some (.inl (a0,(Bs a1 ([y2]:List (Int))),(Ab a2 y2 (IntKind.wrap .i64 (((AK a2 y2).getD 0)+1))),(Ab a3 y1 (IntKind.wrap .i64 (((AK a3 y1).getD 0)+1))),a4,a5,(IntKind.wrap .i64 (a6+1)),()))
    |false=>some (.inl (a0,(Bs a1 ([y2]:List (Int))),(Ab a2 y2 (IntKind.wrap .i64 (((AK a2 y2).getD 0)+1))),a3,a4,a5,(IntKind.wrap .i64 (a6+1)),()))
   |false=>none
  |false=>match(!y3)with
  |true=>match idx a1 (IntKind.wrap .i64 ((AQ a1)-1))with|none=>none|some x11=>match(!(ieq (AN a1 (AF (IntKind.wrap .i64 ((AQ a1)-1))) 0) y1))with
   |true=>some (.inr (.inl (false,())))
   |false=>match(!y3)with
   |true=>some (.inl (a0,a1,a2,(Ab a3 y1 (IntKind.wrap .i64 (((AK a3 y1).getD 0)+1))),a4,a5,(IntKind.wrap .i64 (a6+1)),()))
   |false=>some (.inl (a0,a1,a2,a3,a4,a5,(IntKind.wrap .i64 (a6+1)),()))
  |false=>match(!y3)with
  |true=>some (.inl (a0,a1,a2,(Ab a3 y1 (IntKind.wrap .i64 (((AK a3 y1).getD 0)+1))),a4,a5,(IntKind.wrap .i64 (a6+1)),()))
  |false=>some (.inl (a0,a1,a2,a3,a4,a5,(IntKind.wrap .i64 (a6+1)),()))
 |false=>some (.inr (.inr (.inl (a1,a2,a3,()))))
def AAq[Lk]:(Int×List Int×Unit)→Option (Uh):=fun(a0,a1,_)=>
 match idx a1 0 with|none=>none|some x0=>match tin (a0,x0,())with|none=>none|some (y1,_)=>match(!y1)with
 |true=>some (false,())
 |false=>match idx a1 0 with|none=>none|some x2=>match idx a1 0 with|none=>none|some x3=>match Aa Gu many (a0,([x2]:List (Int)),(Ab ([]:List Uq) x3 1),([]:List Uq),a1,(AQ a1),0,())with|none=>none|some r=>match r with
 |.inl (o4,_)=>some (o4,())
 |.inr r=>match r with
 |.inl (o5,o6,o7,_)=>match(ieq (AQ o5) 1)with
  |true=>some ((ieq (AQ o7) (AQ o6)),())
  |false=>some (false,())
 |.inr _=>none
def AQY[Lk]:=fun v=>Lk.f (AAq v)
theorem AKZ v:AQY v=AAq v:=AJ _
abbrev Rd:AE:=[(.tmp 0,.dat Uk)]
abbrev Rc:AE:=[(.tmp 0,.dat .bool)]
abbrev Rb:List RS:=[.one]
abbrev Wx:AE:=[(.tmp 3,.map U0 U0),(.tmp 78,.di),(.tmp 79,.di)]
abbrev Wu:A4:=[(.ret,[(.tmp 2,.dat .bool)]),(.exit 4,[])]
def Di[Lk]:(List Uq×Int×Int×Unit)→Option ((List Uq×Int×Int×Unit)⊕Uh⊕(Unit)⊕Unit):=fun(a0,a1,a2,_)=>
 match(ilt a2 a1)with
 |true=>match(ieq ((AK a0 a2).getD 0) 0)with
  |true=>some (.inr (.inl (false,())))
  |false=>some (.inl (a0,a1,(IntKind.wrap .i64 (a2+1)),()))
 |false=>some (.inr (.inr (.inl ())))
abbrev Wy:AE:=[(.tmp 1,.box 2),(.cell 0 0,.di),(.cell 0 1,.dat Uf),(.tmp 3,.map U0 U0),(.tmp 4,.di),(.tmp 16,.dat Uf),(.tmp 17,.di),(.tmp 18,.di),(.tmp 26,.dat U4),(.tmp 28,.di),(.tmp 29,.di),(.tmp 30,.dat .bool),(.tmp 33,.dat U4),(.tmp 34,.dat .bool),(.tmp 35,.dat .bool),(.tmp 38,.dat U4),(.tmp 39,.di),(.tmp 40,.dat U4),(.tmp 42,.di),(.tmp 43,.dat .bool),(.tmp 46,.ptr' 0 0),(.tmp 47,.di),(.tmp 48,.dat U4),(.tmp 49,.dat .bool),(.tmp 50,.dat .bool),(.tmp 55,.dat U4),(.tmp 56,.di),(.tmp 57,.di)]
abbrev Wv:A4:=[(.ret,[(.tmp 2,.dat .bool)]),(.exit 2,[(.tmp 1,.box 2),(.cell 0 0,.di),(.cell 0 1,.dat Uf),(.tmp 3,.map U0 U0),(.tmp 4,.di),(.tmp 16,.dat Uf),(.tmp 17,.di),(.tmp 18,.di),(.tmp 26,.dat U4),(.tmp 28,.di),(.tmp 29,.di),(.tmp 30,.dat .bool),(.tmp 33,.dat U4),(.tmp 34,.dat .bool),(.tmp 35,.dat .bool),(.tmp 38,.dat U4),(.tmp 39,.di),(.tmp 40,.dat U4),(.tmp 42,.di),(.tmp 43,.dat .bool),(.tmp 46,.ptr' 0 0),(.tmp 47,.di),(.tmp 48,.dat U4),(.tmp 49,.dat .bool),(.tmp 50,.dat .bool)])]
def C3[Lk]:Uo→Option (Uo⊕Uh⊕(Int×List U2×List Uq×Int×List U2×Int×Int×List Int×Int×Int×Bool×List Int×Bool×Bool×List Int×Int×List Int×Int×Bool×Int×List Int×Bool×Bool×Unit)⊕Unit):=fun(a0,a1,a2,a3,a4,a5,a6,a7,a8,a9,a10,a11,a12,a13,a14,a15,a16,a17,a18,a19,a20,a21,a22,a23,a24,a25,_)=>
 match(ilt a25 a24)with
 |true=>match idx a23 a25 with|none=>none|some x0=>match(ilt x0 a0)with
  |true=>match(ilt 0 ((AK a2 x0).getD 0))with
   |true=>some (.inr (.inl (false,())))
   |false=>some (.inl (a0,a1,(Ab a2 x0 (IntKind.wrap .i64 (((AK a2 x0).getD 0)+1))),a3,a4,a5,a6,a7,a8,a9,a10,a11,a12,a13,a14,a15,a16,a17,a18,a19,a20,a21,a22,a23,a24,(IntKind.wrap .i64 (a25+1)),()))
  |false=>some (.inl (a0,a1,(Ab a2 x0 (IntKind.wrap .i64 (((AK a2 x0).getD 0)+1))),a3,a4,a5,a6,a7,a8,a9,a10,a11,a12,a13,a14,a15,a16,a17,a18,a19,a20,a21,a22,a23,a24,(IntKind.wrap .i64 (a25+1)),()))
 |false=>some (.inr (.inr (.inl (a0,a1,a2,a3,a4,a5,a6,a7,a8,a9,a10,a11,a12,a13,a14,a15,a16,a17,a18,a19,a20,a21,a22,()))))
abbrev Wz:AE:=[(.tmp 1,.box 2),(.cell 0 0,.di),(.cell 0 1,.dat Uf),(.tmp 3,.map U0 U0),(.tmp 4,.di),(.tmp 16,.dat Uf),(.tmp 17,.di),(.tmp 18,.di)]
abbrev Ww:A4:=[(.ret,[(.tmp 2,.dat .bool)]),(.exit 0,[(.tmp 1,.box 2),(.cell 0 0,.di),(.cell 0 1,.dat Uf),(.tmp 3,.map U0 U0)])]
def C4[Lk]:(Int×List U2×List Uq×Int×List U2×Int×Int×Unit)→Option ((Int×List U2×List Uq×Int×List U2×Int×Int×Unit)⊕Uh⊕(Int×List U2×List Uq×Unit)⊕Unit):=fun(a0,a1,a2,a3,a4,a5,a6,_)=>
 match(ilt a6 a5)with
 |true=>match idx a4 a6 with|none=>none|some x0=>match(ieq (AQ x0) 0)with
  |true=>some (.inr (.inl (false,())))
  |false=>match idx x0 0 with|none=>none|some x1=>match(ile x1 a3)with
  |true=>some (.inr (.inl (false,())))
  |false=>match KZ (x0,())with|none=>none|some (y2,_)=>match(!y2)with
  |true=>some (.inr (.inl (false,())))
  |false=>match AMB (x0,())with|none=>none|some (y3,_)=>match idx x0 0 with|none=>none|some x4=>match(!(ieq y3 x4))with
  |true=>some (.inr (.inl (false,())))
  |false=>match AQY (a0,x0,())with|none=>none|some (y5,_)=>match(!y5)with
  |true=>some (.inr (.inl (false,())))
  |false=>match idx x0 0 with|none=>none|some x6=>match Aa C3 many (a0,a1,a2,x6,a4,a5,a6,x0,x1,a3,(ile x1 a3),x0,y2,(!y2),x0,y3,x0,x4,(!(ieq y3 x4)),a0,x0,y5,(!y5),x0,(AQ x0),0,())with|none=>none|some r=>match r with
  |.inl (o7,_)=>some (.inr (.inl (o7,())))
  |.inr r=>match r with
  |.inl (o8,o9,o10,o11,o12,o13,o14,o15,o16,o17,o18,o19,o20,o21,o22,o23,o24,o25,o26,o27,o28,o29,o30,_)=>some (.inl (o8,o9,o10,o11,o12,o13,(IntKind.wrap .i64 (o14+1)),()))
  |.inr _=>none
 |false=>some (.inr (.inr (.inl (a0,a1,a2,()))))
def LX[Lk]:(Ul×Unit)→Option (Uh):=fun(a0,_)=>
 match Ib (a0.1,())with|none=>none|some (y0,_)=>match(!y0)with
 |true=>some (false,())
 |false=>match Aa C4 many (a0.1,a0.2.1,([]:List Uq),(-1:Int),a0.2.1,(AQ a0.2.1),0,())with|none=>none|some r=>match r with
 |.inl (o1,_)=>some (o1,())
 |.inr r=>match r with
 |.inl (o2,o3,o4,_)=>match Aa Di many (o4,o2,0,())with|none=>none|some r=>match r with
  |.inl (o5,_)=>some (o5,())
  |.inr r=>match r with
  |.inl _=>some (true,())
  |.inr _=>none
 |.inr _=>none
def NN[Lk]:=fun v=>Lk.f (LX v)
theorem W0 v:NN v=LX v:=AJ _
abbrev ABT:AE:=[(.tmp 0,.dat Uk),(.tmp 1,.di),(.tmp 2,.di)]
abbrev ABS:AE:=[(.tmp 0,.di)]
abbrev ABR:List RS:=[.one]
def Q9[Lk]:(Ul×Int×Int×Unit)→Option (U8):=fun(a0,a1,a2,_)=>
 match NN ((a0.1,(a0.2.1,())),())with|none=>none|some (y0,_)=>match(!y0)with
 |true=>some (1,())
 |false=>match tin (a0.1,a1,())with|none=>none|some (y1,_)=>match(!y1)with
 |true=>some (10,())
 |false=>match tin (a0.1,a2,())with|none=>none|some (y2,_)=>match(!y2)with
 |true=>some (10,())
 |false=>some (0,())
def asked[Lk]:=fun v=>Lk.f (Q9 v)
theorem AFd v:asked v=Q9 v:=AJ _
abbrev AHh:AE:=[(.tmp 0,.di)]
abbrev AHg:AE:=[(.tmp 0,.dat .bool)]
abbrev AHf:List RS:=[.one]
def No[Lk]:U8→Option (Uh):=fun(a0,_)=>
 some ((!(ieq a0 a0)),())
def AHi[Lk]:=fun v=>Lk.f (No v)
theorem Qx v:AHi v=No v:=AJ _
abbrev LA:AE:=[(.tmp 0,.di),(.tmp 1,.di)]
abbrev K9:AE:=[(.tmp 0,.di)]
abbrev K8:List RS:=[.one]
def GR[Lk]:U7→Option (U8):=fun(a0,a1,_)=>
 match AHi (a0,())with|none=>none|some (y0,_)=>match AHi (a1,())with|none=>none|some (y1,_)=>match y0 with
 |true=>match y1 with
  |true=>some (0,())
  |false=>some ((-1:Int),())
 |false=>match y1 with
 |true=>some (1,())
 |false=>match(ilt a0 a1)with
 |true=>some ((-1:Int),())
 |false=>match(ilt a1 a0)with
 |true=>some (1,())
 |false=>some (0,())
def GS[Lk]:=fun v=>Lk.f (GR v)
theorem JJ v:GS v=GR v:=AJ _
abbrev YH:AE:=[(.tmp 0,.dat U4),(.tmp 1,.dat U4)]
abbrev YG:AE:=[(.tmp 0,.di)]
abbrev YF:List RS:=[.one]
def Qi[Lk]:Us→Option (U8):=fun(a0,a1,_)=>
 match idx a0 0 with|none=>none|some x0=>match idx a1 0 with|none=>none|some x1=>match GS (x0,x1,())with|none=>none|some (y2,_)=>some (y2,())
def A8[Lk]:=fun v=>Lk.f (Qi v)
theorem ABr v:A8 v=Qi v:=AJ _
def FJ:List Int:=[0,1,2,2,3,3,3,3,4,4,4,4,4,4,4,4,5,5,5,5,5,5,5,5,5,5,5,5,5,5,5,5,6,6,6,6,6,6,6,6,6,6,6,6,6,6,6,6,6,6,6,6,6,6,6,6,6,6,6,6,6,6,6,6,7,7,7,7,7,7,7,7,7,7,7,7,7,7,7,7,7,7,7,7,7,7,7,7,7,7,7,7,7,7,7,7,7,7,7,7,7,7,7,7,7,7,7,7,7,7,7,7,7,7,7,7,7,7,7,7,7,7,7,7,7,7,7,7,8,8,8,8,8,8,8,8,8,8,8,8,8,8,8,8,8,8,8,8,8,8,8,8,8,8,8,8,8,8,8,8,8,8,8,8,8,8,8,8,8,8,8,8,8,8,8,8,8,8,8,8,8,8,8,8,8,8,8,8,8,8,8,8,8,8,8,8,8,8,8,8,8,8,8,8,8,8,8,8,8,8,8,8,8,8,8,8,8,8,8,8,8,8,8,8,8,8,8,8,8,8,8,8,8,8,8,8,8,8,8,8,8,8,8,8,8,8,8,8,8,8,8,8,8,8,8,8]
abbrev AAP:AE:=[(.tmp 0,.dat (.int .u64))]
abbrev AAO:AE:=[(.tmp 0,.di)]
abbrev AAN:List RS:=[.one]
def Q2[Lk]:U8→Option (U8):=fun(a0,_)=>
 match(ile 4294967296 a0)with
 |true=>match shr? .u64 a0 32 with|none=>none|some x0=>match(ile 65536 x0)with
  |true=>match shr? .u64 x0 16 with|none=>none|some x1=>match(ile 256 x1)with
   |true=>match shr? .u64 x1 8 with|none=>none|some x2=>match idx FJ (IntKind.wrap .u8 x2)with|none=>none|some x3=>some ((IntKind.wrap .i64 ((IntKind.wrap .i64 ((IntKind.wrap .i64 (32+16))+8))+(IntKind.wrap .i64 x3))),())
   |false=>match idx FJ (IntKind.wrap .u8 x1)with|none=>none|some x4=>some ((IntKind.wrap .i64 ((IntKind.wrap .i64 (32+16))+(IntKind.wrap .i64 x4))),())
  |false=>match(ile 256 x0)with
  |true=>match shr? .u64 x0 8 with|none=>none|some x5=>match idx FJ (IntKind.wrap .u8 x5)with|none=>none|some x6=>some ((IntKind.wrap .i64 ((IntKind.wrap .i64 (32+8))+(IntKind.wrap .i64 x6))),())
  |false=>match idx FJ (IntKind.wrap .u8 x0)with|none=>none|some x7=>some ((IntKind.wrap .i64 (32+(IntKind.wrap .i64 x7))),())
 |false=>match(ile 65536 a0)with
 |true=>match shr? .u64 a0 16 with|none=>none|some x8=>match(ile 256 x8)with
  |true=>match shr? .u64 x8 8 with|none=>none|some x9=>match idx FJ (IntKind.wrap .u8 x9)with|none=>none|some x10=>some ((IntKind.wrap .i64 ((IntKind.wrap .i64 ((IntKind.wrap .i64 (0+16))+8))+(IntKind.wrap .i64 x10))),())
  |false=>match idx FJ (IntKind.wrap .u8 x8)with|none=>none|some x11=>some ((IntKind.wrap .i64 ((IntKind.wrap .i64 (0+16))+(IntKind.wrap .i64 x11))),())
 |false=>match(ile 256 a0)with
 |true=>match shr? .u64 a0 8 with|none=>none|some x12=>match idx FJ (IntKind.wrap .u8 x12)with|none=>none|some x13=>some ((IntKind.wrap .i64 ((IntKind.wrap .i64 (0+8))+(IntKind.wrap .i64 x13))),())
 |false=>match idx FJ (IntKind.wrap .u8 a0)with|none=>none|some x14=>some ((IntKind.wrap .i64 (0+(IntKind.wrap .i64 x14))),())
def AEQ[Lk]:=fun v=>Lk.f (Q2 v)
theorem AEP v:AEQ v=Q2 v:=AJ _
abbrev Oh:AE:=[(.tmp 0,.dat (.int .u64))]
abbrev Og:AE:=[(.tmp 0,.di)]
abbrev Of:List RS:=[.one]
def J1[Lk]:U8→Option (U8):=fun(a0,_)=>
 match AEQ (a0,())with|none=>none|some (y0,_)=>some (y0,())
def bitsLen[Lk]:=fun v=>Lk.f (J1 v)
theorem VM v:bitsLen v=J1 v:=AJ _
abbrev NK:AE:=[(.tmp 0,.box 1),(.cell 0 0,.dat (.int .u64))]
abbrev NJ:AE:=[(.obj 0,.box 1),(.cell 0 0,.dat (.int .u64)),(.tmp 0,.dat (.int .u64))]
abbrev NI:List RS:=[.one]
def JW[Lk]:U8→Option (U7):=fun(a0,_)=>
 match shl? .u64 a0 13 with|none=>none|some x0=>match shr? .u64 (IntKind.wrap .u64 ((BitVec.ofInt (IntKind.bits .u64) a0 ^^^ BitVec.ofInt (IntKind.bits .u64) x0).toNat)) 7 with|none=>none|some x1=>match shl? .u64 (IntKind.wrap .u64 ((BitVec.ofInt (IntKind.bits .u64) (IntKind.wrap .u64 ((BitVec.ofInt (IntKind.bits .u64) a0 ^^^ BitVec.ofInt (IntKind.bits .u64) x0).toNat)) ^^^ BitVec.ofInt (IntKind.bits .u64) x1).toNat)) 17 with|none=>none|some x2=>some ((IntKind.wrap .u64 ((BitVec.ofInt (IntKind.bits .u64) (IntKind.wrap .u64 ((BitVec.ofInt (IntKind.bits .u64) (IntKind.wrap .u64 ((BitVec.ofInt (IntKind.bits .u64) a0 ^^^ BitVec.ofInt (IntKind.bits .u64) x0).toNat)) ^^^ BitVec.ofInt (IntKind.bits .u64) x1).toNat)) ^^^ BitVec.ofInt (IntKind.bits .u64) x2).toNat)),(IntKind.wrap .u64 ((BitVec.ofInt (IntKind.bits .u64) (IntKind.wrap .u64 ((BitVec.ofInt (IntKind.bits .u64) (IntKind.wrap .u64 ((BitVec.ofInt (IntKind.bits .u64) a0 ^^^ BitVec.ofInt (IntKind.bits .u64) x0).toNat)) ^^^ BitVec.ofInt (IntKind.bits .u64) x1).toNat)) ^^^ BitVec.ofInt (IntKind.bits .u64) x2).toNat)),())
def xorNext[Lk]:=fun v=>Lk.f (JW v)
theorem RJ v:xorNext v=JW v:=AJ _
abbrev Nn:AE:=[(.tmp 0,.di)]
abbrev Nm:AE:=[(.tmp 0,.dat (.int .u64))]
abbrev Nl:List RS:=[.one]
def Ji[Lk]:U8→Option (U8):=fun(a0,_)=>
 match bitsLen ((IntKind.wrap .u64 a0),())with|none=>none|some (y0,_)=>match shl? .u64 1 y0 with|none=>none|some x1=>some (x1,())
def Jj[Lk]:=fun v=>Lk.f (Ji v)
theorem S8 v:Jj v=Ji v:=AJ _
def L5[Lk]{α:Type}(z:α)(c:α×α×Unit→Option U8):(List α×Int×Int×Int×Int×Unit)→Option ((List α×Int×Int×Int×Int×Unit)⊕(List α×Int×Int×Int×Unit)⊕Unit):=fun(a0,a1,a2,a3,a4,_)=>
 match(ilt a1 a4)with
 |true=>match idx a0 a4 with|none=>none|some x0=>match idx a0 (IntKind.wrap .i64 (a4-1))with|none=>none|some x1=>match c ((AN a0 (AF a4) z),(AN a0 (AF (IntKind.wrap .i64 (a4-1))) z),())with|none=>none|some (y2,_)=>match(ilt y2 0)with
  |true=>match idx a0 (IntKind.wrap .i64 (a4-1))with|none=>none|some x3=>match idx a0 a4 with|none=>none|some x4=>match idx a0 a4 with|none=>none|some x5=>match idx (Aj a0 (AF a4) (AN a0 (AF (IntKind.wrap .i64 (a4-1))) z)) (IntKind.wrap .i64 (a4-1))with|none=>none|some x6=>some (.inl ((Aj (Aj a0 (AF a4) (AN a0 (AF (IntKind.wrap .i64 (a4-1))) z)) (AF (IntKind.wrap .i64 (a4-1))) (AN a0 (AF a4) z)),a1,a2,a3,(IntKind.wrap .i64 (a4-1)),()))
  |false=>some (.inr (.inl (a0,a1,a2,a3,())))
 |false=>some (.inr (.inl (a0,a1,a2,a3,())))
def L6[Lk]{α:Type}(z:α)(c:α×α×Unit→Option U8):(List α×Int×Int×Int×Unit)→Option ((List α×Int×Int×Int×Unit)⊕(List α×Unit)⊕Unit):=fun(a0,a1,a2,a3,_)=>
 match(ilt a3 a2)with
 |true=>match Aa (L5 z c) many (a0,a1,a2,a3,a3,())with|none=>none|some r=>match r with
  |.inl (o0,o1,o2,o3,_)=>some (.inl (o0,o1,o2,(IntKind.wrap .i64 (o3+1)),()))
  |.inr _=>none
 |false=>some (.inr (.inl (a0,())))
def AAY[Lk]{α:Type}(z:α)(c:α×α×Unit→Option U8):(List α×Int×Int×Unit)→Option ((List α×Unit)):=fun(a0,a1,a2,_)=>
 match Aa (L6 z c) many (a0,a1,a2,(IntKind.wrap .i64 (a1+1)),())with|none=>none|some r=>match r with
 |.inl (o0,_)=>some (o0,())
 |.inr _=>none
def ASX[Lk]{α:Type}(z:α)(c:α×α×Unit→Option U8)(v:(List α×Int×Int×Unit)):Option ((List α×Unit)):=Lk.f ((AAY z c) v)
theorem ASW{α:Type}(z:α)(c:α×α×Unit→Option U8)(v:(List α×Int×Int×Unit)):(ASX z c) v=(AAY z c) v:=AJ _
def Ie[Lk]{α:Type}(z:α)(c:α×α×Unit→Option U8):(List α×Int×Int×Int×Unit)→Option ((List α×Int×Int×Int×Unit)⊕(List α×Unit)⊕(List α×Unit)⊕Unit):=fun(a0,a1,a2,a3,_)=>
 match(ile a1 (IntKind.wrap .i64 ((IntKind.wrap .i64 (2*a3))+1)))with
 |true=>some (.inr (.inl (a0,())))
 |false=>match(ilt (IntKind.wrap .i64 ((IntKind.wrap .i64 ((IntKind.wrap .i64 (2*a3))+1))+1)) a1)with
 |true=>match idx a0 (IntKind.wrap .i64 (a2+(IntKind.wrap .i64 ((IntKind.wrap .i64 (2*a3))+1))))with|none=>none|some x0=>match idx a0 (IntKind.wrap .i64 ((IntKind.wrap .i64 (a2+(IntKind.wrap .i64 ((IntKind.wrap .i64 (2*a3))+1))))+1))with|none=>none|some x1=>match c ((AN a0 (AF (IntKind.wrap .i64 (a2+(IntKind.wrap .i64 ((IntKind.wrap .i64 (2*a3))+1))))) z),(AN a0 (AF (IntKind.wrap .i64 ((IntKind.wrap .i64 (a2+(IntKind.wrap .i64 ((IntKind.wrap .i64 (2*a3))+1))))+1))) z),())with|none=>none|some (y2,_)=>match(ilt y2 0)with
  |true=>match idx a0 (IntKind.wrap .i64 (a2+a3))with|none=>none|some x3=>match idx a0 (IntKind.wrap .i64 (a2+(IntKind.wrap .i64 ((IntKind.wrap .i64 ((IntKind.wrap .i64 (2*a3))+1))+1))))with|none=>none|some x4=>match c ((AN a0 (AF (IntKind.wrap .i64 (a2+a3))) z),(AN a0 (AF (IntKind.wrap .i64 (a2+(IntKind.wrap .i64 ((IntKind.wrap .i64 ((IntKind.wrap .i64 (2*a3))+1))+1))))) z),())with|none=>none|some (y5,_)=>match(!(ilt y5 0))with
   |true=>some (.inr (.inr (.inl (a0,()))))
   |false=>match idx a0 (IntKind.wrap .i64 (a2+(IntKind.wrap .i64 ((IntKind.wrap .i64 ((IntKind.wrap .i64 (2*a3))+1))+1))))with|none=>none|some x6=>match idx a0 (IntKind.wrap .i64 (a2+a3))with|none=>none|some x7=>match idx a0 (IntKind.wrap .i64 (a2+a3))with|none=>none|some x8=>match idx (Aj a0 (AF (IntKind.wrap .i64 (a2+a3))) (AN a0 (AF (IntKind.wrap .i64 (a2+(IntKind.wrap .i64 ((IntKind.wrap .i64 ((IntKind.wrap .i64 (2*a3))+1))+1))))) z)) (IntKind.wrap .i64 (a2+(IntKind.wrap .i64 ((IntKind.wrap .i64 ((IntKind.wrap .i64 (2*a3))+1))+1))))with|none=>none|some x9=>some (.inl ((Aj (Aj a0 (AF (IntKind.wrap .i64 (a2+a3))) (AN a0 (AF (IntKind.wrap .i64 (a2+(IntKind.wrap .i64 ((IntKind.wrap .i64 ((IntKind.wrap .i64 (2*a3))+1))+1))))) z)) (AF (IntKind.wrap .i64 (a2+(IntKind.wrap .i64 ((IntKind.wrap .i64 ((IntKind.wrap .i64 (2*a3))+1))+1))))) (AN a0 (AF (IntKind.wrap .i64 (a2+a3))) z)),a1,a2,(IntKind.wrap .i64 ((IntKind.wrap .i64 ((IntKind.wrap .i64 (2*a3))+1))+1)),()))
  |false=>match idx a0 (IntKind.wrap .i64 (a2+a3))with|none=>none|some x10=>match idx a0 (IntKind.wrap .i64 (a2+(IntKind.wrap .i64 ((IntKind.wrap .i64 (2*a3))+1))))with|none=>none|some x11=>match c ((AN a0 (AF (IntKind.wrap .i64 (a2+a3))) z),(AN a0 (AF (IntKind.wrap .i64 (a2+(IntKind.wrap .i64 ((IntKind.wrap .i64 (2*a3))+1))))) z),())with|none=>none|some (y12,_)=>match(!(ilt y12 0))with
  |true=>some (.inr (.inr (.inl (a0,()))))
  |false=>match idx a0 (IntKind.wrap .i64 (a2+(IntKind.wrap .i64 ((IntKind.wrap .i64 (2*a3))+1))))with|none=>none|some x13=>match idx a0 (IntKind.wrap .i64 (a2+a3))with|none=>none|some x14=>match idx a0 (IntKind.wrap .i64 (a2+a3))with|none=>none|some x15=>match idx (Aj a0 (AF (IntKind.wrap .i64 (a2+a3))) (AN a0 (AF (IntKind.wrap .i64 (a2+(IntKind.wrap .i64 ((IntKind.wrap .i64 (2*a3))+1))))) z)) (IntKind.wrap .i64 (a2+(IntKind.wrap .i64 ((IntKind.wrap .i64 (2*a3))+1))))with|none=>none|some x16=>some (.inl ((Aj (Aj a0 (AF (IntKind.wrap .i64 (a2+a3))) (AN a0 (AF (IntKind.wrap .i64 (a2+(IntKind.wrap .i64 ((IntKind.wrap .i64 (2*a3))+1))))) z)) (AF (IntKind.wrap .i64 (a2+(IntKind.wrap .i64 ((IntKind.wrap .i64 (2*a3))+1))))) (AN a0 (AF (IntKind.wrap .i64 (a2+a3))) z)),a1,a2,(IntKind.wrap .i64 ((IntKind.wrap .i64 (2*a3))+1)),()))
 |false=>match idx a0 (IntKind.wrap .i64 (a2+a3))with|none=>none|some x17=>match idx a0 (IntKind.wrap .i64 (a2+(IntKind.wrap .i64 ((IntKind.wrap .i64 (2*a3))+1))))with|none=>none|some x18=>match c ((AN a0 (AF (IntKind.wrap .i64 (a2+a3))) z),(AN a0 (AF (IntKind.wrap .i64 (a2+(IntKind.wrap .i64 ((IntKind.wrap .i64 (2*a3))+1))))) z),())with|none=>none|some (y19,_)=>match(!(ilt y19 0))with
 |true=>some (.inr (.inr (.inl (a0,()))))
 |false=>match idx a0 (IntKind.wrap .i64 (a2+(IntKind.wrap .i64 ((IntKind.wrap .i64 (2*a3))+1))))with|none=>none|some x20=>match idx a0 (IntKind.wrap .i64 (a2+a3))with|none=>none|some x21=>match idx a0 (IntKind.wrap .i64 (a2+a3))with|none=>none|some x22=>match idx (Aj a0 (AF (IntKind.wrap .i64 (a2+a3))) (AN a0 (AF (IntKind.wrap .i64 (a2+(IntKind.wrap .i64 ((IntKind.wrap .i64 (2*a3))+1))))) z)) (IntKind.wrap .i64 (a2+(IntKind.wrap .i64 ((IntKind.wrap .i64 (2*a3))+1))))with|none=>none|some x23=>some (.inl ((Aj (Aj a0 (AF (IntKind.wrap .i64 (a2+a3))) (AN a0 (AF (IntKind.wrap .i64 (a2+(IntKind.wrap .i64 ((IntKind.wrap .i64 (2*a3))+1))))) z)) (AF (IntKind.wrap .i64 (a2+(IntKind.wrap .i64 ((IntKind.wrap .i64 (2*a3))+1))))) (AN a0 (AF (IntKind.wrap .i64 (a2+a3))) z)),a1,a2,(IntKind.wrap .i64 ((IntKind.wrap .i64 (2*a3))+1)),()))
def Qp[Lk]{α:Type}(z:α)(c:α×α×Unit→Option U8):(List α×Int×Int×Int×Unit)→Option ((List α×Unit)):=fun(a0,a1,a2,a3,_)=>
 match Aa (Ie z c) many (a0,a2,a3,a1,())with|none=>none|some r=>match r with
 |.inl (o0,_)=>some (o0,())
 |.inr r=>match r with
 |.inl (o1,_)=>some (o1,())
 |.inr _=>none
def ACX[Lk]{α:Type}(z:α)(c:α×α×Unit→Option U8)(v:(List α×Int×Int×Int×Unit)):Option ((List α×Unit)):=Lk.f ((Qp z c) v)
theorem AOf{α:Type}(z:α)(c:α×α×Unit→Option U8)(v:(List α×Int×Int×Int×Unit)):(ACX z c) v=(Qp z c) v:=AJ _
def JB[Lk]{α:Type}(z:α)(c:α×α×Unit→Option U8):(List α×Int×Int×Int×Unit)→Option ((List α×Int×Int×Int×Unit)⊕(List α×Unit)⊕Unit):=fun(a0,a1,a2,a3,_)=>
 match(ile 0 a3)with
 |true=>match idx a0 (IntKind.wrap .i64 (a1+a3))with|none=>none|some x0=>match idx a0 a1 with|none=>none|some x1=>match idx a0 a1 with|none=>none|some x2=>match idx (Aj a0 (AF a1) (AN a0 (AF (IntKind.wrap .i64 (a1+a3))) z)) (IntKind.wrap .i64 (a1+a3))with|none=>none|some x3=>match(ACX z c) ((Aj (Aj a0 (AF a1) (AN a0 (AF (IntKind.wrap .i64 (a1+a3))) z)) (AF (IntKind.wrap .i64 (a1+a3))) (AN a0 (AF a1) z)),a2,a3,a1,())with|none=>none|some (y4,_)=>some (.inl (y4,a1,a2,(IntKind.wrap .i64 (a3-1)),()))
 |false=>some (.inr (.inl (a0,())))
def JC[Lk]{α:Type}(z:α)(c:α×α×Unit→Option U8):(List α×Int×Int×Int×Int×Unit)→Option ((List α×Int×Int×Int×Int×Unit)⊕(List α×Int×Int×Int×Unit)⊕Unit):=fun(a0,a1,a2,a3,a4,_)=>
 match(ile 0 a4)with
 |true=>match(ACX z c) (a0,a4,a3,a1,())with|none=>none|some (y0,_)=>some (.inl (y0,a1,a2,a3,(IntKind.wrap .i64 (a4-1)),()))
 |false=>some (.inr (.inl (a0,a1,a2,a3,())))
def Q4[Lk]{α:Type}(z:α)(c:α×α×Unit→Option U8):(List α×Int×Int×Unit)→Option ((List α×Unit)):=fun(a0,a1,a2,_)=>
 match quo? .i64 (IntKind.wrap .i64 ((IntKind.wrap .i64 (a2-a1))-1)) 2 with|none=>none|some x0=>match Aa (JC z c) many (a0,a1,0,(IntKind.wrap .i64 (a2-a1)),x0,())with|none=>none|some r=>match r with
 |.inl (o1,o2,o3,o4,_)=>match Aa (JB z c) many (o1,o2,o3,(IntKind.wrap .i64 (o4-1)),())with|none=>none|some r=>match r with
  |.inl (o5,_)=>some (o5,())
  |.inr _=>none
 |.inr _=>none
def AKV[Lk]{α:Type}(z:α)(c:α×α×Unit→Option U8)(v:(List α×Int×Int×Unit)):Option ((List α×Unit)):=Lk.f ((Q4 z c) v)
theorem AQT{α:Type}(z:α)(c:α×α×Unit→Option U8)(v:(List α×Int×Int×Unit)):(AKV z c) v=(Q4 z c) v:=AJ _
def Fl[Lk]{α:Type}(z:α)(c:α×α×Unit→Option U8):(List α×Int×Int×Int×Int×Int×Unit)→Option ((List α×Int×Int×Int×Int×Int×Unit)⊕(List α×Unit)⊕Unit):=fun(a0,a1,a2,a3,a4,a5,_)=>
 match quo? .i64 a2 4 with|none=>none|some x0=>match(ile a5 (IntKind.wrap .i64 ((IntKind.wrap .i64 (a1+(IntKind.wrap .i64 (x0*2))))+1)))with
 |true=>match xorNext (a3,())with|none=>none|some (y1,y2,_)=>match(ile a2 (IntKind.wrap .i64 (IntKind.wrap .u64 ((BitVec.ofInt (IntKind.bits .u64) y2 &&& BitVec.ofInt (IntKind.bits .u64) (IntKind.wrap .u64 (a4-1))).toNat))))with
  |true=>match idx a0 (IntKind.wrap .i64 (a1+(IntKind.wrap .i64 ((IntKind.wrap .i64 (IntKind.wrap .u64 ((BitVec.ofInt (IntKind.bits .u64) y2 &&& BitVec.ofInt (IntKind.bits .u64) (IntKind.wrap .u64 (a4-1))).toNat)))-a2))))with|none=>none|some x3=>match idx a0 a5 with|none=>none|some x4=>match idx a0 a5 with|none=>none|some x5=>match idx (Aj a0 (AF a5) (AN a0 (AF (IntKind.wrap .i64 (a1+(IntKind.wrap .i64 ((IntKind.wrap .i64 (IntKind.wrap .u64 ((BitVec.ofInt (IntKind.bits .u64) y2 &&& BitVec.ofInt (IntKind.bits .u64) (IntKind.wrap .u64 (a4-1))).toNat)))-a2))))) z)) (IntKind.wrap .i64 (a1+(IntKind.wrap .i64 ((IntKind.wrap .i64 (IntKind.wrap .u64 ((BitVec.ofInt (IntKind.bits .u64) y2 &&& BitVec.ofInt (IntKind.bits .u64) (IntKind.wrap .u64 (a4-1))).toNat)))-a2))))with|none=>none|some x6=>some (.inl ((Aj (Aj a0 (AF a5) (AN a0 (AF (IntKind.wrap .i64 (a1+(IntKind.wrap .i64 ((IntKind.wrap .i64 (IntKind.wrap .u64 ((BitVec.ofInt (IntKind.bits .u64) y2 &&& BitVec.ofInt (IntKind.bits .u64) (IntKind.wrap .u64 (a4-1))).toNat)))-a2))))) z)) (AF (IntKind.wrap .i64 (a1+(IntKind.wrap .i64 ((IntKind.wrap .i64 (IntKind.wrap .u64 ((BitVec.ofInt (IntKind.bits .u64) y2 &&& BitVec.ofInt (IntKind.bits .u64) (IntKind.wrap .u64 (a4-1))).toNat)))-a2))))) (AN a0 (AF a5) z)),a1,a2,y1,a4,(IntKind.wrap .i64 (a5+1)),()))
  |false=>match idx a0 (IntKind.wrap .i64 (a1+(IntKind.wrap .i64 (IntKind.wrap .u64 ((BitVec.ofInt (IntKind.bits .u64) y2 &&& BitVec.ofInt (IntKind.bits .u64) (IntKind.wrap .u64 (a4-1))).toNat)))))with|none=>none|some x7=>match idx a0 a5 with|none=>none|some x8=>match idx a0 a5 with|none=>none|some x9=>match idx (Aj a0 (AF a5) (AN a0 (AF (IntKind.wrap .i64 (a1+(IntKind.wrap .i64 (IntKind.wrap .u64 ((BitVec.ofInt (IntKind.bits .u64) y2 &&& BitVec.ofInt (IntKind.bits .u64) (IntKind.wrap .u64 (a4-1))).toNat)))))) z)) (IntKind.wrap .i64 (a1+(IntKind.wrap .i64 (IntKind.wrap .u64 ((BitVec.ofInt (IntKind.bits .u64) y2 &&& BitVec.ofInt (IntKind.bits .u64) (IntKind.wrap .u64 (a4-1))).toNat)))))with|none=>none|some x10=>some (.inl ((Aj (Aj a0 (AF a5) (AN a0 (AF (IntKind.wrap .i64 (a1+(IntKind.wrap .i64 (IntKind.wrap .u64 ((BitVec.ofInt (IntKind.bits .u64) y2 &&& BitVec.ofInt (IntKind.bits .u64) (IntKind.wrap .u64 (a4-1))).toNat)))))) z)) (AF (IntKind.wrap .i64 (a1+(IntKind.wrap .i64 (IntKind.wrap .u64 ((BitVec.ofInt (IntKind.bits .u64) y2 &&& BitVec.ofInt (IntKind.bits .u64) (IntKind.wrap .u64 (a4-1))).toNat)))))) (AN a0 (AF a5) z)),a1,a2,y1,a4,(IntKind.wrap .i64 (a5+1)),()))
 |false=>some (.inr (.inl (a0,())))
def Mh[Lk]{α:Type}(z:α)(c:α×α×Unit→Option U8):(List α×Int×Int×Unit)→Option ((List α×Unit)):=fun(a0,a1,a2,_)=>
 match(ile 8 (IntKind.wrap .i64 (a2-a1)))with
 |true=>match Jj ((IntKind.wrap .i64 (a2-a1)),())with|none=>none|some (y0,_)=>match quo? .i64 (IntKind.wrap .i64 (a2-a1)) 4 with|none=>none|some x1=>match Aa (Fl z c) many (a0,a1,(IntKind.wrap .i64 (a2-a1)),(IntKind.wrap .u64 (IntKind.wrap .i64 (a2-a1))),y0,(IntKind.wrap .i64 ((IntKind.wrap .i64 (a1+(IntKind.wrap .i64 (x1*2))))-1)),())with|none=>none|some r=>match r with
  |.inl (o2,_)=>some (o2,())
  |.inr _=>none
 |false=>some (a0,())
def ABO[Lk]{α:Type}(z:α)(c:α×α×Unit→Option U8)(v:(List α×Int×Int×Unit)):Option ((List α×Unit)):=Lk.f ((Mh z c) v)
theorem ANh{α:Type}(z:α)(c:α×α×Unit→Option U8)(v:(List α×Int×Int×Unit)):(ABO z c) v=(Mh z c) v:=AJ _
def Jf[Lk]{α:Type}(z:α)(c:α×α×Unit→Option U8):(List α×Int×Int×Int×Unit)→Option ((List α×Int×Int×Int×Unit)):=fun(a0,a1,a2,a3,_)=>
 match idx a0 a2 with|none=>none|some x0=>match idx a0 a1 with|none=>none|some x1=>match c ((AN a0 (AF a2) z),(AN a0 (AF a1) z),())with|none=>none|some (y2,_)=>match(ilt y2 0)with
 |true=>some (a0,(IntKind.wrap .i64 (a3+1)),a2,a1,())
 |false=>some (a0,a3,a1,a2,())
def Jg[Lk]{α:Type}(z:α)(c:α×α×Unit→Option U8)(v:(List α×Int×Int×Int×Unit)):Option ((List α×Int×Int×Int×Unit)):=Lk.f ((Jf z c) v)
theorem AHV{α:Type}(z:α)(c:α×α×Unit→Option U8)(v:(List α×Int×Int×Int×Unit)):(Jg z c) v=(Jf z c) v:=AJ _
def Jl[Lk]{α:Type}(z:α)(c:α×α×Unit→Option U8):(List α×Int×Int×Int×Int×Unit)→Option ((List α×Int×Int×Unit)):=fun(a0,a1,a2,a3,a4,_)=>
 match(Jg z c) (a0,a1,a2,a4,())with|none=>none|some (y0,y1,y2,y3,_)=>match(Jg z c) (y0,y3,a3,y1,())with|none=>none|some (y4,y5,y6,y7,_)=>match(Jg z c) (y4,y2,y6,y5,())with|none=>none|some (y8,y9,y10,y11,_)=>some (y8,y9,y11,())
def Jm[Lk]{α:Type}(z:α)(c:α×α×Unit→Option U8)(v:(List α×Int×Int×Int×Int×Unit)):Option ((List α×Int×Int×Unit)):=Lk.f ((Jl z c) v)
theorem AHr{α:Type}(z:α)(c:α×α×Unit→Option U8)(v:(List α×Int×Int×Int×Int×Unit)):(Jm z c) v=(Jl z c) v:=AJ _
def Jo[Lk]{α:Type}(z:α)(c:α×α×Unit→Option U8):(List α×Int×Int×Unit)→Option ((List α×Int×Int×Unit)):=fun(a0,a1,a2,_)=>
 match(Jm z c) (a0,(IntKind.wrap .i64 (a1-1)),a1,(IntKind.wrap .i64 (a1+1)),a2,())with|none=>none|some (y0,y1,y2,_)=>some (y0,y1,y2,())
def Jp[Lk]{α:Type}(z:α)(c:α×α×Unit→Option U8)(v:(List α×Int×Int×Unit)):Option ((List α×Int×Int×Unit)):=Lk.f ((Jo z c) v)
theorem AHt{α:Type}(z:α)(c:α×α×Unit→Option U8)(v:(List α×Int×Int×Unit)):(Jp z c) v=(Jo z c) v:=AJ _
def Li[Lk]{α:Type}(z:α)(c:α×α×Unit→Option U8):(List α×Int×Int×Unit)→Option ((List α×Int×Int×Unit)):=fun(a0,a1,a2,_)=>
 match quo? .i64 (IntKind.wrap .i64 (a2-a1)) 4 with|none=>none|some x0=>match quo? .i64 (IntKind.wrap .i64 (a2-a1)) 4 with|none=>none|some x1=>match quo? .i64 (IntKind.wrap .i64 (a2-a1)) 4 with|none=>none|some x2=>match(ile 8 (IntKind.wrap .i64 (a2-a1)))with
 |true=>match(ile 50 (IntKind.wrap .i64 (a2-a1)))with
  |true=>match(Jp z c) (a0,(IntKind.wrap .i64 (a1+(IntKind.wrap .i64 (x0*1)))),0,())with|none=>none|some (y3,y4,y5,_)=>match(Jp z c) (y3,(IntKind.wrap .i64 (a1+(IntKind.wrap .i64 (x1*2)))),y4,())with|none=>none|some (y6,y7,y8,_)=>match(Jp z c) (y6,(IntKind.wrap .i64 (a1+(IntKind.wrap .i64 (x2*3)))),y7,())with|none=>none|some (y9,y10,y11,_)=>match(Jm z c) (y9,y5,y8,y11,y10,())with|none=>none|some (y12,y13,y14,_)=>match(ieq y13 0)with
   |true=>some (y12,y14,1,())
   |false=>match(ieq y13 12)with
   |true=>some (y12,y14,2,())
   |false=>some (y12,y14,0,())
  |false=>match(Jm z c) (a0,(IntKind.wrap .i64 (a1+(IntKind.wrap .i64 (x0*1)))),(IntKind.wrap .i64 (a1+(IntKind.wrap .i64 (x1*2)))),(IntKind.wrap .i64 (a1+(IntKind.wrap .i64 (x2*3)))),0,())with|none=>none|some (y15,y16,y17,_)=>match(ieq y16 0)with
  |true=>some (y15,y17,1,())
  |false=>match(ieq y16 12)with
  |true=>some (y15,y17,2,())
  |false=>some (y15,y17,0,())
 |false=>match(ieq 0 0)with
 |true=>some (a0,(IntKind.wrap .i64 (a1+(IntKind.wrap .i64 (x1*2)))),1,())
 |false=>match(ieq 0 12)with
 |true=>some (a0,(IntKind.wrap .i64 (a1+(IntKind.wrap .i64 (x1*2)))),2,())
 |false=>some (a0,(IntKind.wrap .i64 (a1+(IntKind.wrap .i64 (x1*2)))),0,())
def ZK[Lk]{α:Type}(z:α)(c:α×α×Unit→Option U8)(v:(List α×Int×Int×Unit)):Option ((List α×Int×Int×Unit)):=Lk.f ((Li z c) v)
theorem ALl{α:Type}(z:α)(c:α×α×Unit→Option U8)(v:(List α×Int×Int×Unit)):(ZK z c) v=(Li z c) v:=AJ _
def Qs[Lk]{α:Type}(z:α)(c:α×α×Unit→Option U8):(List α×Int×Int×Unit)→Option ((List α×Int×Int×Unit)⊕(List α×Unit)⊕Unit):=fun(a0,a1,a2,_)=>
 match(ilt a1 a2)with
 |true=>match idx a0 a2 with|none=>none|some x0=>match idx a0 a1 with|none=>none|some x1=>match idx a0 a1 with|none=>none|some x2=>match idx (Aj a0 (AF a1) (AN a0 (AF a2) z)) a2 with|none=>none|some x3=>some (.inl ((Aj (Aj a0 (AF a1) (AN a0 (AF a2) z)) (AF a2) (AN a0 (AF a1) z)),(IntKind.wrap .i64 (a1+1)),(IntKind.wrap .i64 (a2-1)),()))
 |false=>some (.inr (.inl (a0,())))
def ZC[Lk]{α:Type}(z:α)(c:α×α×Unit→Option U8):(List α×Int×Int×Unit)→Option ((List α×Unit)):=fun(a0,a1,a2,_)=>
 match Aa (Qs z c) many (a0,a1,(IntKind.wrap .i64 (a2-1)),())with|none=>none|some r=>match r with
 |.inl (o0,_)=>some (o0,())
 |.inr _=>none
def ARm[Lk]{α:Type}(z:α)(c:α×α×Unit→Option U8)(v:(List α×Int×Int×Unit)):Option ((List α×Unit)):=Lk.f ((ZC z c) v)
theorem ARl{α:Type}(z:α)(c:α×α×Unit→Option U8)(v:(List α×Int×Int×Unit)):(ARm z c) v=(ZC z c) v:=AJ _
def E3[Lk]{α:Type}(z:α)(c:α×α×Unit→Option U8):(List α×Int×Int×Int×Int×Int×Unit)→Option ((List α×Int×Int×Int×Int×Int×Unit)⊕(List α×Int×Int×Int×Int×Unit)⊕Unit):=fun(a0,a1,a2,a3,a4,a5,_)=>
 match(ilt a5 a2)with
 |true=>match idx a0 a5 with|none=>none|some x0=>match idx a0 (IntKind.wrap .i64 (a5-1))with|none=>none|some x1=>match c ((AN a0 (AF a5) z),(AN a0 (AF (IntKind.wrap .i64 (a5-1))) z),())with|none=>none|some (y2,_)=>match(!(ilt y2 0))with
  |true=>some (.inr (.inl (a0,a1,a2,a3,a4,())))
  |false=>match idx a0 (IntKind.wrap .i64 (a5-1))with|none=>none|some x3=>match idx a0 a5 with|none=>none|some x4=>match idx a0 a5 with|none=>none|some x5=>match idx (Aj a0 (AF a5) (AN a0 (AF (IntKind.wrap .i64 (a5-1))) z)) (IntKind.wrap .i64 (a5-1))with|none=>none|some x6=>some (.inl ((Aj (Aj a0 (AF a5) (AN a0 (AF (IntKind.wrap .i64 (a5-1))) z)) (AF (IntKind.wrap .i64 (a5-1))) (AN a0 (AF a5) z)),a1,a2,a3,a4,(IntKind.wrap .i64 (a5+1)),()))
 |false=>some (.inr (.inl (a0,a1,a2,a3,a4,())))
def E4[Lk]{α:Type}(z:α)(c:α×α×Unit→Option U8):(List α×Int×Int×Int×Int×Int×Unit)→Option ((List α×Int×Int×Int×Int×Int×Unit)⊕(List α×Int×Int×Int×Int×Unit)⊕Unit):=fun(a0,a1,a2,a3,a4,a5,_)=>
 match(ile 1 a5)with
 |true=>match idx a0 a5 with|none=>none|some x0=>match idx a0 (IntKind.wrap .i64 (a5-1))with|none=>none|some x1=>match c ((AN a0 (AF a5) z),(AN a0 (AF (IntKind.wrap .i64 (a5-1))) z),())with|none=>none|some (y2,_)=>match(!(ilt y2 0))with
  |true=>some (.inr (.inl (a0,a1,a2,a3,a4,())))
  |false=>match idx a0 (IntKind.wrap .i64 (a5-1))with|none=>none|some x3=>match idx a0 a5 with|none=>none|some x4=>match idx a0 a5 with|none=>none|some x5=>match idx (Aj a0 (AF a5) (AN a0 (AF (IntKind.wrap .i64 (a5-1))) z)) (IntKind.wrap .i64 (a5-1))with|none=>none|some x6=>some (.inl ((Aj (Aj a0 (AF a5) (AN a0 (AF (IntKind.wrap .i64 (a5-1))) z)) (AF (IntKind.wrap .i64 (a5-1))) (AN a0 (AF a5) z)),a1,a2,a3,a4,(IntKind.wrap .i64 (a5-1)),()))
 |false=>some (.inr (.inl (a0,a1,a2,a3,a4,())))
def Gj[Lk]{α:Type}(z:α)(c:α×α×Unit→Option U8):(List α×Int×Int×Int×Int×Unit)→Option ((List α×Int×Int×Int×Int×Unit)⊕(List α×Int×Int×Int×Int×Unit)⊕Unit):=fun(a0,a1,a2,a3,a4,_)=>
 match(ilt a3 a2)with
 |true=>match idx a0 a3 with|none=>none|some x0=>match idx a0 (IntKind.wrap .i64 (a3-1))with|none=>none|some x1=>match c ((AN a0 (AF a3) z),(AN a0 (AF (IntKind.wrap .i64 (a3-1))) z),())with|none=>none|some (y2,_)=>match(!(ilt y2 0))with
  |true=>some (.inl (a0,a1,a2,(IntKind.wrap .i64 (a3+1)),a4,()))
  |false=>some (.inr (.inl (a0,a1,a2,a3,a4,())))
 |false=>some (.inr (.inl (a0,a1,a2,a3,a4,())))
def CK[Lk]{α:Type}(z:α)(c:α×α×Unit→Option U8):(List α×Int×Int×Int×Int×Unit)→Option ((List α×Int×Int×Int×Int×Unit)⊕(List α×Bool×Unit)⊕(List α×Unit)⊕Unit):=fun(a0,a1,a2,a3,a4,_)=>
 match(ilt a4 5)with
 |true=>match Aa (Gj z c) many (a0,a1,a2,a3,a4,())with|none=>none|some r=>match r with
  |.inl (o0,o1,o2,o3,o4,_)=>match(ieq o3 o2)with
   |true=>some (.inr (.inl (o0,true,())))
   |false=>match(ilt (IntKind.wrap .i64 (o2-o1)) 50)with
   |true=>some (.inr (.inl (o0,false,())))
   |false=>match idx o0 (IntKind.wrap .i64 (o3-1))with|none=>none|some x5=>match idx o0 o3 with|none=>none|some x6=>match idx o0 o3 with|none=>none|some x7=>match idx (Aj o0 (AF o3) (AN o0 (AF (IntKind.wrap .i64 (o3-1))) z)) (IntKind.wrap .i64 (o3-1))with|none=>none|some x8=>match(ile 2 (IntKind.wrap .i64 (o3-o1)))with
   |true=>match Aa (E4 z c) many ((Aj (Aj o0 (AF o3) (AN o0 (AF (IntKind.wrap .i64 (o3-1))) z)) (AF (IntKind.wrap .i64 (o3-1))) (AN o0 (AF o3) z)),o1,o2,o3,o4,(IntKind.wrap .i64 (o3-1)),())with|none=>none|some r=>match r with
    |.inl (o9,o10,o11,o12,o13,_)=>match(ile 2 (IntKind.wrap .i64 (o11-o12)))with
     |true=>match Aa (E3 z c) many (o9,o10,o11,o12,o13,(IntKind.wrap .i64 (o12+1)),())with|none=>none|some r=>match r with
      |.inl (o14,o15,o16,o17,o18,_)=>some (.inl (o14,o15,o16,o17,(IntKind.wrap .i64 (o18+1)),()))
      |.inr _=>none
     |false=>some (.inl (o9,o10,o11,o12,(IntKind.wrap .i64 (o13+1)),()))
    |.inr _=>none
   |false=>match(ile 2 (IntKind.wrap .i64 (o2-o3)))with
   |true=>match Aa (E3 z c) many ((Aj (Aj o0 (AF o3) (AN o0 (AF (IntKind.wrap .i64 (o3-1))) z)) (AF (IntKind.wrap .i64 (o3-1))) (AN o0 (AF o3) z)),o1,o2,o3,o4,(IntKind.wrap .i64 (o3+1)),())with|none=>none|some r=>match r with
    |.inl (o19,o20,o21,o22,o23,_)=>some (.inl (o19,o20,o21,o22,(IntKind.wrap .i64 (o23+1)),()))
    |.inr _=>none
   |false=>some (.inl ((Aj (Aj o0 (AF o3) (AN o0 (AF (IntKind.wrap .i64 (o3-1))) z)) (AF (IntKind.wrap .i64 (o3-1))) (AN o0 (AF o3) z)),o1,o2,o3,(IntKind.wrap .i64 (o4+1)),()))
  |.inr _=>none
 |false=>some (.inr (.inr (.inl (a0,()))))
def Hm[Lk]{α:Type}(z:α)(c:α×α×Unit→Option U8):(List α×Int×Int×Unit)→Option ((List α×Bool×Unit)):=fun(a0,a1,a2,_)=>
 match Aa (CK z c) many (a0,a1,a2,(IntKind.wrap .i64 (a1+1)),0,())with|none=>none|some r=>match r with
 |.inl (o0,o1,_)=>some (o0,o1,())
 |.inr r=>match r with
 |.inl (o2,_)=>some (o2,false,())
 |.inr _=>none
def Ln[Lk]{α:Type}(z:α)(c:α×α×Unit→Option U8)(v:(List α×Int×Int×Unit)):Option ((List α×Bool×Unit)):=Lk.f ((Hm z c) v)
theorem ADZ{α:Type}(z:α)(c:α×α×Unit→Option U8)(v:(List α×Int×Int×Unit)):(Ln z c) v=(Hm z c) v:=AJ _
def Hn[Lk]{α:Type}(z:α)(c:α×α×Unit→Option U8):(List α×Int×Int×Int×Unit)→Option ((List α×Int×Int×Int×Unit)⊕(List α×Int×Int×Int×Unit)⊕Unit):=fun(a0,a1,a2,a3,_)=>
 match(ile a2 a3)with
 |true=>match idx a0 a1 with|none=>none|some x0=>match idx a0 a3 with|none=>none|some x1=>match c ((AN a0 (AF a1) z),(AN a0 (AF a3) z),())with|none=>none|some (y2,_)=>match(ilt y2 0)with
  |true=>some (.inl (a0,a1,a2,(IntKind.wrap .i64 (a3-1)),()))
  |false=>some (.inr (.inl (a0,a1,a2,a3,())))
 |false=>some (.inr (.inl (a0,a1,a2,a3,())))
def Ho[Lk]{α:Type}(z:α)(c:α×α×Unit→Option U8):(List α×Int×Int×Int×Unit)→Option ((List α×Int×Int×Int×Unit)⊕(List α×Int×Int×Int×Unit)⊕Unit):=fun(a0,a1,a2,a3,_)=>
 match(ile a2 a3)with
 |true=>match idx a0 a1 with|none=>none|some x0=>match idx a0 a2 with|none=>none|some x1=>match c ((AN a0 (AF a1) z),(AN a0 (AF a2) z),())with|none=>none|some (y2,_)=>match(!(ilt y2 0))with
  |true=>some (.inl (a0,a1,(IntKind.wrap .i64 (a2+1)),a3,()))
  |false=>some (.inr (.inl (a0,a1,a2,a3,())))
 |false=>some (.inr (.inl (a0,a1,a2,a3,())))
def Hp[Lk]{α:Type}(z:α)(c:α×α×Unit→Option U8):(List α×Int×Int×Int×Unit)→Option ((List α×Int×Int×Int×Unit)⊕(List α×Int×Unit)⊕Unit):=fun(a0,a1,a2,a3,_)=>
 match Aa (Ho z c) many (a0,a1,a2,a3,())with|none=>none|some r=>match r with
 |.inl (o0,o1,o2,o3,_)=>match Aa (Hn z c) many (o0,o1,o2,o3,())with|none=>none|some r=>match r with
  |.inl (o4,o5,o6,o7,_)=>match(ilt o7 o6)with
   |true=>some (.inr (.inl (o4,o6,())))
   |false=>match idx o4 o7 with|none=>none|some x8=>match idx o4 o6 with|none=>none|some x9=>match idx o4 o6 with|none=>none|some x10=>match idx (Aj o4 (AF o6) (AN o4 (AF o7) z)) o7 with|none=>none|some x11=>some (.inl ((Aj (Aj o4 (AF o6) (AN o4 (AF o7) z)) (AF o7) (AN o4 (AF o6) z)),o5,(IntKind.wrap .i64 (o6+1)),(IntKind.wrap .i64 (o7-1)),()))
  |.inr _=>none
 |.inr _=>none
def Jd[Lk]{α:Type}(z:α)(c:α×α×Unit→Option U8):(List α×Int×Int×Int×Unit)→Option ((List α×Int×Unit)):=fun(a0,a1,a2,a3,_)=>
 match idx a0 a3 with|none=>none|some x0=>match idx a0 a1 with|none=>none|some x1=>match idx a0 a1 with|none=>none|some x2=>match idx (Aj a0 (AF a1) (AN a0 (AF a3) z)) a3 with|none=>none|some x3=>match Aa (Hp z c) many ((Aj (Aj a0 (AF a1) (AN a0 (AF a3) z)) (AF a3) (AN a0 (AF a1) z)),a1,(IntKind.wrap .i64 (a1+1)),(IntKind.wrap .i64 (a2-1)),())with|none=>none|some r=>match r with
 |.inl (o4,o5,_)=>some (o4,o5,())
 |.inr _=>none
def Qv[Lk]{α:Type}(z:α)(c:α×α×Unit→Option U8)(v:(List α×Int×Int×Int×Unit)):Option ((List α×Int×Unit)):=Lk.f ((Jd z c) v)
theorem AHT{α:Type}(z:α)(c:α×α×Unit→Option U8)(v:(List α×Int×Int×Int×Unit)):(Qv z c) v=(Jd z c) v:=AJ _
def Lp[Lk]{α:Type}(z:α)(c:α×α×Unit→Option U8):(List α×Int×Int×Int×Unit)→Option ((List α×Int×Int×Int×Unit)⊕(List α×Int×Int×Int×Unit)⊕Unit):=fun(a0,a1,a2,a3,_)=>
 match(ile a2 a3)with
 |true=>match idx a0 a3 with|none=>none|some x0=>match idx a0 a1 with|none=>none|some x1=>match c ((AN a0 (AF a3) z),(AN a0 (AF a1) z),())with|none=>none|some (y2,_)=>match(!(ilt y2 0))with
  |true=>some (.inl (a0,a1,a2,(IntKind.wrap .i64 (a3-1)),()))
  |false=>some (.inr (.inl (a0,a1,a2,a3,())))
 |false=>some (.inr (.inl (a0,a1,a2,a3,())))
def Lq[Lk]{α:Type}(z:α)(c:α×α×Unit→Option U8):(List α×Int×Int×Int×Unit)→Option ((List α×Int×Int×Int×Unit)⊕(List α×Int×Int×Int×Unit)⊕Unit):=fun(a0,a1,a2,a3,_)=>
 match(ile a2 a3)with
 |true=>match idx a0 a2 with|none=>none|some x0=>match idx a0 a1 with|none=>none|some x1=>match c ((AN a0 (AF a2) z),(AN a0 (AF a1) z),())with|none=>none|some (y2,_)=>match(ilt y2 0)with
  |true=>some (.inl (a0,a1,(IntKind.wrap .i64 (a2+1)),a3,()))
  |false=>some (.inr (.inl (a0,a1,a2,a3,())))
 |false=>some (.inr (.inl (a0,a1,a2,a3,())))
def Lr[Lk]{α:Type}(z:α)(c:α×α×Unit→Option U8):(List α×Int×Int×Int×Unit)→Option ((List α×Int×Int×Int×Unit)⊕(List α×Int×Int×Unit)⊕Unit):=fun(a0,a1,a2,a3,_)=>
 match Aa (Lq z c) many (a0,a1,a2,a3,())with|none=>none|some r=>match r with
 |.inl (o0,o1,o2,o3,_)=>match Aa (Lp z c) many (o0,o1,o2,o3,())with|none=>none|some r=>match r with
  |.inl (o4,o5,o6,o7,_)=>match(ilt o7 o6)with
   |true=>some (.inr (.inl (o4,o5,o7,())))
   |false=>match idx o4 o7 with|none=>none|some x8=>match idx o4 o6 with|none=>none|some x9=>match idx o4 o6 with|none=>none|some x10=>match idx (Aj o4 (AF o6) (AN o4 (AF o7) z)) o7 with|none=>none|some x11=>some (.inl ((Aj (Aj o4 (AF o6) (AN o4 (AF o7) z)) (AF o7) (AN o4 (AF o6) z)),o5,(IntKind.wrap .i64 (o6+1)),(IntKind.wrap .i64 (o7-1)),()))
  |.inr _=>none
 |.inr _=>none
def Ls[Lk]{α:Type}(z:α)(c:α×α×Unit→Option U8):(List α×Int×Int×Int×Unit)→Option ((List α×Int×Int×Int×Unit)⊕(List α×Int×Int×Int×Unit)⊕Unit):=fun(a0,a1,a2,a3,_)=>
 match(ile a2 a3)with
 |true=>match idx a0 a3 with|none=>none|some x0=>match idx a0 a1 with|none=>none|some x1=>match c ((AN a0 (AF a3) z),(AN a0 (AF a1) z),())with|none=>none|some (y2,_)=>match(!(ilt y2 0))with
  |true=>some (.inl (a0,a1,a2,(IntKind.wrap .i64 (a3-1)),()))
  |false=>some (.inr (.inl (a0,a1,a2,a3,())))
 |false=>some (.inr (.inl (a0,a1,a2,a3,())))
def Lt[Lk]{α:Type}(z:α)(c:α×α×Unit→Option U8):(List α×Int×Int×Int×Unit)→Option ((List α×Int×Int×Int×Unit)⊕(List α×Int×Int×Int×Unit)⊕Unit):=fun(a0,a1,a2,a3,_)=>
 match(ile a2 a3)with
 |true=>match idx a0 a2 with|none=>none|some x0=>match idx a0 a1 with|none=>none|some x1=>match c ((AN a0 (AF a2) z),(AN a0 (AF a1) z),())with|none=>none|some (y2,_)=>match(ilt y2 0)with
  |true=>some (.inl (a0,a1,(IntKind.wrap .i64 (a2+1)),a3,()))
  |false=>some (.inr (.inl (a0,a1,a2,a3,())))
 |false=>some (.inr (.inl (a0,a1,a2,a3,())))
def Qu[Lk]{α:Type}(z:α)(c:α×α×Unit→Option U8):(List α×Int×Int×Int×Unit)→Option ((List α×Int×Bool×Unit)):=fun(a0,a1,a2,a3,_)=>
 match idx a0 a3 with|none=>none|some x0=>match idx a0 a1 with|none=>none|some x1=>match idx a0 a1 with|none=>none|some x2=>match idx (Aj a0 (AF a1) (AN a0 (AF a3) z)) a3 with|none=>none|some x3=>match Aa (Lt z c) many ((Aj (Aj a0 (AF a1) (AN a0 (AF a3) z)) (AF a3) (AN a0 (AF a1) z)),a1,(IntKind.wrap .i64 (a1+1)),(IntKind.wrap .i64 (a2-1)),())with|none=>none|some r=>match r with
 |.inl (o4,o5,o6,o7,_)=>match Aa (Ls z c) many (o4,o5,o6,o7,())with|none=>none|some r=>match r with
  |.inl (o8,o9,o10,o11,_)=>match(ilt o11 o10)with
   |true=>match idx o8 o9 with|none=>none|some x12=>match idx o8 o11 with|none=>none|some x13=>match idx o8 o11 with|none=>none|some x14=>match idx (Aj o8 (AF o11) (AN o8 (AF o9) z)) o9 with|none=>none|some x15=>some ((Aj (Aj o8 (AF o11) (AN o8 (AF o9) z)) (AF o9) (AN o8 (AF o11) z)),o11,true,())
   |false=>match idx o8 o11 with|none=>none|some x16=>match idx o8 o10 with|none=>none|some x17=>match idx o8 o10 with|none=>none|some x18=>match idx (Aj o8 (AF o10) (AN o8 (AF o11) z)) o11 with|none=>none|some x19=>match Aa (Lr z c) many ((Aj (Aj o8 (AF o10) (AN o8 (AF o11) z)) (AF o11) (AN o8 (AF o10) z)),o9,(IntKind.wrap .i64 (o10+1)),(IntKind.wrap .i64 (o11-1)),())with|none=>none|some r=>match r with
   |.inl (o20,o21,o22,_)=>match idx o20 o21 with|none=>none|some x23=>match idx o20 o22 with|none=>none|some x24=>match idx o20 o22 with|none=>none|some x25=>match idx (Aj o20 (AF o22) (AN o20 (AF o21) z)) o21 with|none=>none|some x26=>some ((Aj (Aj o20 (AF o22) (AN o20 (AF o21) z)) (AF o21) (AN o20 (AF o22) z)),o22,false,())
   |.inr _=>none
  |.inr _=>none
 |.inr _=>none
def XL[Lk]{α:Type}(z:α)(c:α×α×Unit→Option U8)(v:(List α×Int×Int×Int×Unit)):Option ((List α×Int×Bool×Unit)):=Lk.f ((Qu z c) v)
theorem APZ{α:Type}(z:α)(c:α×α×Unit→Option U8)(v:(List α×Int×Int×Int×Unit)):(XL z c) v=(Qu z c) v:=AJ _
def NX[Lk]{α:Type}(z:α)(c:α×α×Unit→Option U8)(self:(List α×Int×Int×Int×Unit)→Option ((List α×Unit)))(y7:List α)(a1 a2 p l:Int)(a4 a5:Bool):Option ((List α×Int×Int×Int×Bool×Bool×Unit)⊕(List α×Unit)⊕Unit):=
 match(ilt 0 a1)with
 |true=>match idx y7 (IntKind.wrap .i64 (a1-1))with|none=>none|some x9=>match idx y7 p with|none=>none|some x10=>match c ((AN y7 (AF (IntKind.wrap .i64 (a1-1))) z),(AN y7 (AF p) z),())with|none=>none|some (y11,_)=>match(!(ilt y11 0))with
  |true=>match(Qv z c) (y7,a1,a2,p,())with|none=>none|some (y12,y13,_)=>some (.inl (y12,y13,a2,l,a4,a5,()))
  |false=>match(XL z c) (y7,a1,a2,p,())with|none=>none|some (y14,y15,y16,_)=>match quo? .i64 (IntKind.wrap .i64 (a2-a1)) 8 with|none=>none|some x17=>match(ilt (IntKind.wrap .i64 (y15-a1)) (IntKind.wrap .i64 (a2-y15)))with
  |true=>match self (y14,a1,y15,l,())with|none=>none|some (y18,_)=>some (.inl (y18,(IntKind.wrap .i64 (y15+1)),a2,l,(ile x17 (IntKind.wrap .i64 (y15-a1))),y16,()))
  |false=>match self (y14,(IntKind.wrap .i64 (y15+1)),a2,l,())with|none=>none|some (y19,_)=>some (.inl (y19,a1,y15,l,(ile x17 (IntKind.wrap .i64 (a2-y15))),y16,()))
 |false=>match(XL z c) (y7,a1,a2,p,())with|none=>none|some (y20,y21,y22,_)=>match quo? .i64 (IntKind.wrap .i64 (a2-a1)) 8 with|none=>none|some x23=>match(ilt (IntKind.wrap .i64 (y21-a1)) (IntKind.wrap .i64 (a2-y21)))with
 |true=>match self (y20,a1,y21,l,())with|none=>none|some (y24,_)=>some (.inl (y24,(IntKind.wrap .i64 (y21+1)),a2,l,(ile x23 (IntKind.wrap .i64 (y21-a1))),y22,()))
 |false=>match self (y20,(IntKind.wrap .i64 (y21+1)),a2,l,())with|none=>none|some (y25,_)=>some (.inl (y25,a1,y21,l,(ile x23 (IntKind.wrap .i64 (a2-y21))),y22,()))
def ZS[Lk]{α:Type}(z:α)(c:α×α×Unit→Option U8)(self:(List α×Int×Int×Int×Unit)→Option ((List α×Unit)))(y6:List α)(a1 a2 p h l:Int)(a4 a5:Bool):Option ((List α×Int×Int×Int×Bool×Bool×Unit)⊕(List α×Unit)⊕Unit):=
 match a4 with
 |true=>match a5 with
  |true=>match(ieq h 1)with
   |true=>match(Ln z c) (y6,a1,a2,())with|none=>none|some (y7,y8,_)=>match y8 with
    |true=>some (.inr (.inl (y7,())))
    |false=>(NX z c) self y7 a1 a2 p l a4 a5
   |false=>(NX z c) self y6 a1 a2 p l a4 a5
  |false=>(NX z c) self y6 a1 a2 p l a4 a5
 |false=>(NX z c) self y6 a1 a2 p l a4 a5
def ZR[Lk]{α:Type}(z:α)(c:α×α×Unit→Option U8)(self:(List α×Int×Int×Int×Unit)→Option ((List α×Unit)))(y2:List α)(a1 a2 l:Int)(a4 a5:Bool):Option ((List α×Int×Int×Int×Bool×Bool×Unit)⊕(List α×Unit)⊕Unit):=
 match(ZK z c) (y2,a1,a2,())with|none=>none|some (y3,y4,y5,_)=>match(ieq y5 2)with
 |true=>match(ARm z c) (y3,a1,a2,())with|none=>none|some (y6,_)=>(ZS z c) self y6 a1 a2 (IntKind.wrap .i64 ((IntKind.wrap .i64 (a2-1))-(IntKind.wrap .i64 (y4-a1)))) 1 l a4 a5
 |false=>(ZS z c) self y3 a1 a2 y4 y5 l a4 a5
def Lm[Lk]{α:Type}(z:α)(c:α×α×Unit→Option U8)(self:(List α×Int×Int×Int×Unit)→Option ((List α×Unit))):(List α×Int×Int×Int×Bool×Bool×Unit)→Option ((List α×Int×Int×Int×Bool×Bool×Unit)⊕(List α×Unit)⊕Unit):=fun(a0,a1,a2,a3,a4,a5,_)=>
 match(ile (IntKind.wrap .i64 (a2-a1)) 12)with
 |true=>match(ASX z c) (a0,a1,a2,())with|none=>none|some (y0,_)=>some (.inr (.inl (y0,())))
 |false=>match(ieq a3 0)with
 |true=>match(AKV z c) (a0,a1,a2,())with|none=>none|some (y1,_)=>some (.inr (.inl (y1,())))
 |false=>match(!a4)with
 |true=>match(ABO z c) (a0,a1,a2,())with|none=>none|some (y2,_)=>(ZR z c) self y2 a1 a2 (IntKind.wrap .i64 (a3-1)) a4 a5
 |false=>(ZR z c) self a0 a1 a2 a3 a4 a5
def ZT[Lk]{α:Type}(z:α)(c:α×α×Unit→Option U8)(self:(List α×Int×Int×Int×Unit)→Option ((List α×Unit))):(List α×Int×Int×Int×Unit)→Option ((List α×Unit)):=fun(a0,a1,a2,a3,_)=>
 match Aa ((Lm z c) self) many (a0,a1,a2,a3,true,true,())with|none=>none|some r=>match r with
 |.inl (o0,_)=>some (o0,())
 |.inr _=>none
def Iq[Lk]{α:Type}(z:α)(c:α×α×Unit→Option U8):Nat→(List α×Int×Int×Int×Unit)→Option ((List α×Unit))
 |0,_=>none
 |n+1,v=>(ZT z c) ((Iq z c) n) v
def ARx[Lk]{α:Type}(z:α)(c:α×α×Unit→Option U8)(v:(List α×Int×Int×Int×Unit)):Option ((List α×Unit)):=Lk.f ((Iq z c) 100 v)
theorem ARw{α:Type}(z:α)(c:α×α×Unit→Option U8)(v:(List α×Int×Int×Int×Unit)):(ARx z c) v=(Iq z c) 100 v:=AJ _
def Qn[Lk]{α:Type}(z:α)(c:α×α×Unit→Option U8):(List α×Unit)→Option ((List α×Unit)):=fun(a0,_)=>
 match bitsLen ((IntKind.wrap .u64 (AQ a0)),())with|none=>none|some (y0,_)=>match(ARx z c) (a0,0,(AQ a0),y0,())with|none=>none|some (y1,_)=>some (y1,())
def AOY[Lk]{α:Type}(z:α)(c:α×α×Unit→Option U8)(v:(List α×Unit)):Option ((List α×Unit)):=Lk.f ((Qn z c) v)
theorem AOX{α:Type}(z:α)(c:α×α×Unit→Option U8)(v:(List α×Unit)):(AOY z c) v=(Qn z c) v:=AJ _
abbrev AIS:AE:=[(.tmp 0,.own 27 U4),(.tmp 1,.di),(.tmp 2,.di),(.tmp 3,.clo 74 [])]
abbrev AIR:AE:=[(.obj 0,.own 27 U4)]
abbrev AIQ:List RS:=[]
abbrev AKN:AE:=[(.obj 0,.own 27 U4),(.tmp 0,.own' 0),(.tmp 1,.di),(.tmp 2,.di),(.tmp 3,.clo 74 []),(.tmp 8,.di),(.tmp 9,.di)]
abbrev AKL:A4:=[(.exit 2,[(.obj 0,.own 27 U4),(.tmp 0,.own' 0),(.tmp 1,.di),(.tmp 2,.di),(.tmp 3,.clo 74 []),(.tmp 8,.di)])]
def AKJ[Lk]:Uc→Option (Uc⊕U6⊕Unit):=L5 (([]:List (Int)):U2) A8
abbrev AKO:AE:=[(.obj 0,.own 27 U4),(.tmp 0,.own' 0),(.tmp 1,.di),(.tmp 2,.di),(.tmp 3,.clo 74 []),(.tmp 8,.di)]
abbrev AKM:A4:=[(.exit 0,[(.obj 0,.own 27 U4)])]
def AKK[Lk]:U6→Option (U6⊕Ug⊕Unit):=L6 (([]:List (Int)):U2) A8
def AQA[Lk]:Ub→Option (Ug):=AAY (([]:List (Int)):U2) A8
def ATf[Lk](v:Ub):Option (Ug):=ASX (([]:List (Int)):U2) A8 v
theorem ASP v:ATf v=AQA v:=AJ _
abbrev Yu:AE:=[(.tmp 0,.own 27 U4),(.tmp 1,.di),(.tmp 2,.di),(.tmp 3,.di),(.tmp 4,.clo 74 [])]
abbrev Yt:AE:=[(.obj 0,.own 27 U4)]
abbrev Ys:List RS:=[]
abbrev ACS:AE:=[(.obj 0,.own 27 U4),(.tmp 0,.own' 0),(.tmp 2,.di),(.tmp 3,.di),(.tmp 4,.clo 74 []),(.tmp 10,.di)]
abbrev ACR:A4:=[(.exit 0,[(.obj 0,.own 27 U4)]),(.ret,[(.obj 0,.own 27 U4)])]
def ACQ[Lk]:U6→Option (U6⊕Ug⊕Ug⊕Unit):=Ie (([]:List (Int)):U2) A8
def AJp[Lk]:U6→Option (Ug):=Qp (([]:List (Int)):U2) A8
def AOc[Lk](v:U6):Option (Ug):=ACX (([]:List (Int)):U2) A8 v
theorem AOb v:AOc v=AJp v:=AJ _
abbrev AAf:AE:=[(.tmp 0,.own 27 U4),(.tmp 1,.di),(.tmp 2,.di),(.tmp 3,.clo 74 [])]
abbrev AAe:AE:=[(.obj 0,.own 27 U4)]
abbrev AAd:List RS:=[]
abbrev AEg:AE:=[(.obj 0,.own 27 U4),(.tmp 0,.own' 0),(.tmp 3,.clo 74 []),(.tmp 8,.di),(.tmp 9,.di),(.tmp 12,.di)]
abbrev AEe:A4:=[(.exit 2,[(.obj 0,.own 27 U4)])]
def AEb[Lk]:U6→Option (U6⊕Ug⊕Unit):=JB (([]:List (Int)):U2) A8
abbrev AEh:AE:=[(.obj 0,.own 27 U4),(.tmp 0,.own' 0),(.tmp 3,.clo 74 []),(.tmp 8,.di),(.tmp 9,.di),(.tmp 10,.di),(.tmp 11,.di)]
abbrev AEf:A4:=[(.exit 0,[(.obj 0,.own 27 U4),(.tmp 0,.own' 0),(.tmp 3,.clo 74 []),(.tmp 8,.di),(.tmp 9,.di),(.tmp 10,.di)])]
def AEd[Lk]:Uc→Option (Uc⊕U6⊕Unit):=JC (([]:List (Int)):U2) A8
def AKU[Lk]:Ub→Option (Ug):=Q4 (([]:List (Int)):U2) A8
def AQO[Lk](v:Ub):Option (Ug):=AKV (([]:List (Int)):U2) A8 v
theorem AQN v:AQO v=AKU v:=AJ _
abbrev VF:AE:=[(.tmp 0,.own 27 U4),(.tmp 1,.di),(.tmp 2,.di),(.tmp 3,.clo 74 [])]
abbrev VE:AE:=[(.obj 0,.own 27 U4)]
abbrev VD:List RS:=[]
abbrev Xt:AE:=[(.obj 0,.own 27 U4),(.tmp 0,.own' 0),(.tmp 1,.di),(.tmp 8,.di),(.tmp 9,.box 1),(.cell 1 0,.dat (.int .u64)),(.tmp 10,.dat (.int .u64)),(.tmp 11,.di)]
abbrev Xs:A4:=[(.exit 0,[(.obj 0,.own 27 U4)])]
def Xr[Lk]:Un→Option (Un⊕Ug⊕Unit):=Fl (([]:List (Int)):U2) A8
def AFY[Lk]:Ub→Option (Ug):=Mh (([]:List (Int)):U2) A8
def AJK[Lk](v:Ub):Option (Ug):=ABO (([]:List (Int)):U2) A8 v
theorem ANe v:AJK v=AFY v:=AJ _
abbrev Nh:AE:=[(.tmp 0,.own 27 U4),(.tmp 1,.di),(.tmp 2,.di),(.tmp 3,.box 1),(.cell 1 0,.di),(.tmp 4,.clo 74 [])]
abbrev Ng:AE:=[(.obj 0,.own 27 U4),(.obj 1,.box 1),(.cell 1 0,.di),(.tmp 0,.di),(.tmp 1,.di)]
abbrev Nf:List RS:=[.one,.one]
def XP[Lk]:U6→Option (U6):=Jf (([]:List (Int)):U2) A8
def Zl[Lk](v:U6):Option (U6):=Jg (([]:List (Int)):U2) A8 v
theorem AHU v:Zl v=XP v:=AJ _
abbrev Ns:AE:=[(.tmp 0,.own 27 U4),(.tmp 1,.di),(.tmp 2,.di),(.tmp 3,.di),(.tmp 4,.box 1),(.cell 1 0,.di),(.tmp 5,.clo 74 [])]
abbrev Nr:AE:=[(.obj 0,.own 27 U4),(.obj 1,.box 1),(.cell 1 0,.di),(.tmp 0,.di)]
abbrev Nq:List RS:=[.one]
def XQ[Lk]:Uc→Option (Ub):=Jl (([]:List (Int)):U2) A8
def Zw[Lk](v:Uc):Option (Ub):=Jm (([]:List (Int)):U2) A8 v
theorem AHq v:Zw v=XQ v:=AJ _
abbrev Ny:AE:=[(.tmp 0,.own 27 U4),(.tmp 1,.di),(.tmp 2,.box 1),(.cell 1 0,.di),(.tmp 3,.clo 74 [])]
abbrev Nx:AE:=[(.obj 0,.own 27 U4),(.obj 1,.box 1),(.cell 1 0,.di),(.tmp 0,.di)]
abbrev Nw:List RS:=[.one]
def XR[Lk]:Ub→Option (Ub):=Jo (([]:List (Int)):U2) A8
def Zz[Lk](v:Ub):Option (Ub):=Jp (([]:List (Int)):U2) A8 v
theorem AHs v:Zz v=XR v:=AJ _
abbrev SO:AE:=[(.tmp 0,.own 27 U4),(.tmp 1,.di),(.tmp 2,.di),(.tmp 3,.clo 74 [])]
abbrev SN:AE:=[(.obj 0,.own 27 U4),(.tmp 0,.di),(.tmp 1,.di)]
abbrev SM:List RS:=[.one,.one]
def ACt[Lk]:Ub→Option (Ub):=Li (([]:List (Int)):U2) A8
def AGz[Lk](v:Ub):Option (Ub):=ZK (([]:List (Int)):U2) A8 v
theorem ALk v:AGz v=ACt v:=AJ _
abbrev AGc:AE:=[(.tmp 0,.own 27 U4),(.tmp 1,.di),(.tmp 2,.di),(.tmp 3,.clo 74 [])]
abbrev AGb:AE:=[(.obj 0,.own 27 U4)]
abbrev AGa:List RS:=[]
abbrev AJt:AE:=[(.obj 0,.own 27 U4),(.tmp 0,.own' 0),(.tmp 8,.di),(.tmp 9,.di)]
abbrev AJs:A4:=[(.exit 0,[(.obj 0,.own 27 U4)])]
def AJr[Lk]:Ub→Option (Ub⊕Ug⊕Unit):=Qs (([]:List (Int)):U2) A8
def AOp[Lk]:Ub→Option (Ug):=ZC (([]:List (Int)):U2) A8
def ATO[Lk](v:Ub):Option (Ug):=ARm (([]:List (Int)):U2) A8 v
theorem ARi v:ATO v=AOp v:=AJ _
abbrev Kf:AE:=[(.tmp 0,.own 27 U4),(.tmp 1,.di),(.tmp 2,.di),(.tmp 3,.clo 74 [])]
abbrev Ke:AE:=[(.obj 0,.own 27 U4),(.tmp 0,.dat .bool)]
abbrev Kd:List RS:=[.one]
abbrev PR:AE:=[(.obj 0,.own 27 U4),(.tmp 0,.own' 0),(.tmp 1,.di),(.tmp 2,.di),(.tmp 3,.clo 74 []),(.tmp 9,.di),(.tmp 10,.di),(.tmp 12,.di)]
abbrev PM:A4:=[(.exit 6,[(.obj 0,.own 27 U4),(.tmp 0,.own' 0),(.tmp 1,.di),(.tmp 2,.di),(.tmp 3,.clo 74 []),(.tmp 9,.di),(.tmp 10,.di)])]
def PI[Lk]:Un→Option (Un⊕Uc⊕Unit):=E3 (([]:List (Int)):U2) A8
abbrev PS:AE:=[(.obj 0,.own 27 U4),(.tmp 0,.own' 0),(.tmp 1,.di),(.tmp 2,.di),(.tmp 3,.clo 74 []),(.tmp 9,.di),(.tmp 10,.di),(.tmp 11,.di)]
abbrev PN:A4:=[(.exit 4,[(.obj 0,.own 27 U4),(.tmp 0,.own' 0),(.tmp 1,.di),(.tmp 2,.di),(.tmp 3,.clo 74 []),(.tmp 9,.di),(.tmp 10,.di)])]
def PJ[Lk]:Un→Option (Un⊕Uc⊕Unit):=E4 (([]:List (Int)):U2) A8
abbrev PT:AE:=[(.obj 0,.own 27 U4),(.tmp 0,.own' 0),(.tmp 1,.di),(.tmp 2,.di),(.tmp 3,.clo 74 []),(.tmp 9,.di),(.tmp 10,.di)]
abbrev PO:A4:=[(.exit 2,[(.obj 0,.own 27 U4),(.tmp 0,.own' 0),(.tmp 1,.di),(.tmp 2,.di),(.tmp 3,.clo 74 []),(.tmp 9,.di),(.tmp 10,.di)])]
def PK[Lk]:Uc→Option (Uc⊕Uc⊕Unit):=Gj (([]:List (Int)):U2) A8
abbrev PU:AE:=[(.obj 0,.own 27 U4),(.tmp 0,.own' 0),(.tmp 1,.di),(.tmp 2,.di),(.tmp 3,.clo 74 []),(.tmp 9,.di),(.tmp 10,.di)]
abbrev PQ:A4:=[(.ret,[(.obj 0,.own 27 U4),(.tmp 8,.dat .bool)]),(.exit 0,[(.obj 0,.own 27 U4)])]
def PL[Lk]:Uc→Option (Uc⊕(List U2×Bool×Unit)⊕Ug⊕Unit):=CK (([]:List (Int)):U2) A8
def Sf[Lk]:Ub→Option ((List U2×Bool×Unit)):=Hm (([]:List (Int)):U2) A8
def Sg[Lk](v:Ub):Option ((List U2×Bool×Unit)):=Ln (([]:List (Int)):U2) A8 v
theorem ADQ v:Sg v=Sf v:=AJ _
abbrev Na:AE:=[(.tmp 0,.own 27 U4),(.tmp 1,.di),(.tmp 2,.di),(.tmp 3,.di),(.tmp 4,.clo 74 [])]
abbrev NZ:AE:=[(.obj 0,.own 27 U4),(.tmp 0,.di)]
abbrev NY:List RS:=[.one]
abbrev Sr:AE:=[(.obj 0,.own 27 U4),(.tmp 0,.own' 0),(.tmp 1,.di),(.tmp 4,.clo 74 []),(.tmp 11,.di),(.tmp 12,.di)]
abbrev So:A4:=[(.exit 4,[(.obj 0,.own 27 U4),(.tmp 0,.own' 0),(.tmp 1,.di),(.tmp 4,.clo 74 []),(.tmp 11,.di),(.tmp 12,.di)])]
def Sl[Lk]:U6→Option Uw:=Hn (([]:List (Int)):U2) A8
abbrev Ss:AE:=[(.obj 0,.own 27 U4),(.tmp 0,.own' 0),(.tmp 1,.di),(.tmp 4,.clo 74 []),(.tmp 11,.di),(.tmp 12,.di)]
abbrev Sp:A4:=[(.exit 2,[(.obj 0,.own 27 U4),(.tmp 0,.own' 0),(.tmp 1,.di),(.tmp 4,.clo 74 []),(.tmp 11,.di),(.tmp 12,.di)])]
def Sm[Lk]:U6→Option Uw:=Ho (([]:List (Int)):U2) A8
abbrev Su:AE:=[(.obj 0,.own 27 U4),(.tmp 0,.own' 0),(.tmp 1,.di),(.tmp 4,.clo 74 []),(.tmp 11,.di),(.tmp 12,.di)]
abbrev Sq:A4:=[(.exit 0,[(.obj 0,.own 27 U4),(.tmp 11,.di)])]
def Sn[Lk]:U6→Option (U6⊕Uy⊕Unit):=Hp (([]:List (Int)):U2) A8
def XM[Lk]:U6→Option (Uy):=Jd (([]:List (Int)):U2) A8
def Zg[Lk](v:U6):Option (Uy):=Qv (([]:List (Int)):U2) A8 v
theorem AHM v:Zg v=XM v:=AJ _
end
end Go.Pev
end
section
namespace Go.Pev
noncomputable section
attribute [local irreducible] Pr K2 OJ PD ATh ATi ATj Vu ACo Y1 ACY AJB AT many IntKind.wrap AQ Aj AN Bs DN FL AFE AF C1 ES imax AK Ab
abbrev ZX:AE:=[(.tmp 0,.own 27 U4),(.tmp 1,.di),(.tmp 2,.di),(.tmp 3,.di),(.tmp 4,.clo 74 [])]
abbrev ZW:AE:=[(.obj 0,.own 27 U4),(.tmp 0,.di),(.tmp 1,.dat .bool)]
abbrev ZV:List RS:=[.one,.one]
abbrev ADD:AE:=[(.obj 0,.own 27 U4),(.tmp 0,.own' 0),(.tmp 1,.di),(.tmp 4,.clo 74 []),(.tmp 12,.di),(.tmp 13,.di)]
abbrev AC8:A4:=[(.exit 8,[(.obj 0,.own 27 U4),(.tmp 0,.own' 0),(.tmp 1,.di),(.tmp 4,.clo 74 []),(.tmp 12,.di),(.tmp 13,.di)])]
def ACz[Lk]:U6→Option Uw:=Lp (([]:List (Int)):U2) A8
abbrev ADE:AE:=[(.obj 0,.own 27 U4),(.tmp 0,.own' 0),(.tmp 1,.di),(.tmp 4,.clo 74 []),(.tmp 12,.di),(.tmp 13,.di)]
abbrev AC9:A4:=[(.exit 6,[(.obj 0,.own 27 U4),(.tmp 0,.own' 0),(.tmp 1,.di),(.tmp 4,.clo 74 []),(.tmp 12,.di),(.tmp 13,.di)])]
def AC1[Lk]:U6→Option Uw:=Lq (([]:List (Int)):U2) A8
abbrev ADF:AE:=[(.obj 0,.own 27 U4),(.tmp 0,.own' 0),(.tmp 1,.di),(.tmp 4,.clo 74 []),(.tmp 12,.di),(.tmp 13,.di)]
abbrev ADA:A4:=[(.exit 4,[(.obj 0,.own 27 U4),(.tmp 0,.own' 0),(.tmp 1,.di),(.tmp 13,.di)])]
def AC3[Lk]:U6→Option (U6⊕Ub⊕Unit):=Lr (([]:List (Int)):U2) A8
abbrev ADG:AE:=[(.obj 0,.own 27 U4),(.tmp 0,.own' 0),(.tmp 1,.di),(.tmp 4,.clo 74 []),(.tmp 12,.di),(.tmp 13,.di)]
abbrev ADB:A4:=[(.exit 2,[(.obj 0,.own 27 U4),(.tmp 0,.own' 0),(.tmp 1,.di),(.tmp 4,.clo 74 []),(.tmp 12,.di),(.tmp 13,.di)])]
def AC5[Lk]:U6→Option Uw:=Ls (([]:List (Int)):U2) A8
abbrev ADH:AE:=[(.obj 0,.own 27 U4),(.tmp 0,.own' 0),(.tmp 1,.di),(.tmp 4,.clo 74 []),(.tmp 12,.di),(.tmp 13,.di)]
abbrev ADC:A4:=[(.exit 0,[(.obj 0,.own 27 U4),(.tmp 0,.own' 0),(.tmp 1,.di),(.tmp 4,.clo 74 []),(.tmp 12,.di),(.tmp 13,.di)])]
def AC7[Lk]:U6→Option Uw:=Lt (([]:List (Int)):U2) A8
def AJ3[Lk]:U6→Option ((List U2×Int×Bool×Unit)):=Qu (([]:List (Int)):U2) A8
def APO[Lk](v:U6):Option ((List U2×Int×Bool×Unit)):=XL (([]:List (Int)):U2) A8 v
theorem APN v:APO v=AJ3 v:=AJ _
abbrev SW:AE:=[(.tmp 0,.own 27 U4),(.tmp 1,.di),(.tmp 2,.di),(.tmp 3,.di),(.tmp 4,.clo 74 [])]
abbrev SV:AE:=[(.obj 0,.own 27 U4)]
abbrev SU:List RS:=[]
abbrev AJ0:AE:=[(.obj 0,.own 27 U4),(.tmp 0,.own' 0),(.tmp 1,.di),(.tmp 2,.di),(.tmp 3,.di),(.tmp 4,.clo 74 []),(.tmp 10,.dat .bool),(.tmp 11,.dat .bool)]
abbrev AJz:A4:=[(.ret,[(.obj 0,.own 27 U4)])]
def AJy[Lk](self:U6→Option (Ug)):(List U2×Int×Int×Int×Bool×Bool×Unit)→Option ((List U2×Int×Int×Int×Bool×Bool×Unit)⊕Ug⊕Unit):=Lm (([]:List (Int)):U2) A8 self
def ATS[Lk](self:U6→Option (Ug)):U6→Option (Ug):=ZT (([]:List (Int)):U2) A8 self
def SX[Lk]:Nat→U6→Option (Ug):=Iq (([]:List (Int)):U2) A8
def ARs[Lk](v:U6):Option (Ug):=ARx (([]:List (Int)):U2) A8 v
theorem ARr v:ARs v=SX 100 v:=AJ _
abbrev Ym:AE:=[(.tmp 0,.own 27 U4),(.tmp 1,.clo 74 [])]
abbrev Yl:AE:=[(.obj 0,.own 27 U4)]
abbrev Yk:List RS:=[]
def AJn[Lk]:Ug→Option (Ug):=Qn (([]:List (Int)):U2) A8
def ACL[Lk](v:Ug):Option (Ug):=AOY (([]:List (Int)):U2) A8 v
theorem AOV v:ACL v=AJn v:=AJ _
abbrev YL:AE:=[(.tmp 0,.dat Uk),(.tmp 1,.dat U4),(.tmp 2,.dat Uf)]
abbrev YK:AE:=[(.tmp 0,.di),(.tmp 1,.own 27 U4)]
abbrev YJ:List RS:=[.agg 2]
abbrev ABy:AE:=[(.tmp 3,.box 2),(.cell 0 0,.di),(.cell 0 1,.dat Uf),(.tmp 6,.box 2),(.cell 1 0,.di),(.cell 1 1,.nil U4),(.tmp 7,.own 27 U4),(.tmp 29,.dat Uf),(.tmp 30,.di),(.tmp 31,.di)]
abbrev ABw:A4:=[(.exit 2,[(.tmp 3,.box 2),(.cell 0 0,.di),(.cell 0 1,.dat Uf),(.tmp 6,.box 2),(.cell 1 0,.di),(.cell 1 1,.nil U4),(.tmp 7,.own 27 U4)])]
def Fs[Lk]:(Int×List U2×Int×List U2×List U2×Int×Int×Unit)→Option ((Int×List U2×Int×List U2×List U2×Int×Int×Unit)⊕(Int×List U2×Int×List U2×Unit)⊕Unit):=fun(a0,a1,a2,a3,a4,a5,a6,_)=>
 match(ilt a6 a5)with
 |true=>match idx a4 a6 with|none=>none|some x0=>match Ry (x0,())with|none=>none|some (y1,_)=>match(fits ((AQ a3)+(AQ ([y1]:List U2))))with
  |true=>some (.inl (a0,a1,a2,(Bs a3 ([y1]:List U2)),a4,a5,(IntKind.wrap .i64 (a6+1)),()))
  |false=>none
 |false=>some (.inr (.inl (a0,a1,a2,a3,())))
abbrev ABz:AE:=[(.tmp 1,.dat U4),(.tmp 2,.dat Uf),(.tmp 3,.box 2),(.cell 0 0,.di),(.cell 0 1,.dat Uf),(.tmp 6,.box 2),(.cell 1 0,.di),(.cell 1 1,.nil U4),(.tmp 7,.own 27 U4),(.tmp 13,.dat Uf),(.tmp 14,.di),(.tmp 15,.di)]
abbrev ABx:A4:=[(.exit 0,[(.tmp 2,.dat Uf),(.tmp 3,.box 2),(.cell 0 0,.di),(.cell 0 1,.dat Uf),(.tmp 6,.box 2),(.cell 1 0,.di),(.cell 1 1,.nil U4),(.tmp 7,.own 27 U4)])]
def Ft[Lk]:Uz→Option (Uz⊕(List U2×Int×List U2×Int×List U2×Unit)⊕Unit):=fun(a0,a1,a2,a3,a4,a5,a6,a7,a8,_)=>
 match(ilt a8 a7)with
 |true=>match idx a6 a8 with|none=>none|some x0=>match Ef (a0,a8,())with|none=>none|some (y1,_)=>match(!y1)with
  |true=>match(fits ((AQ a5)+(AQ ([x0]:List U2))))with
   |true=>some (.inl (a0,a1,a2,a3,a4,(Bs a5 ([x0]:List U2)),a6,a7,(IntKind.wrap .i64 (a8+1)),()))
   |false=>none
  |false=>some (.inl (a0,a1,a2,a3,a4,a5,a6,a7,(IntKind.wrap .i64 (a8+1)),()))
 |false=>some (.inr (.inl (a1,a2,a3,a4,a5,())))
def Qj[Lk]:(Ul×List Int×List U2×Unit)→Option ((Int×List U2×Unit)):=fun(a0,a1,a2,_)=>
 match Aa Ft many (a1,a2,a0.1,a0.2.1,0,([]:List U2),a0.2.1,(AQ a0.2.1),0,())with|none=>none|some r=>match r with
 |.inl (o0,o1,o2,o3,o4,_)=>match Aa Fs many (o1,o2,o3,o4,o0,(AQ o0),0,())with|none=>none|some r=>match r with
  |.inl (o5,o6,o7,o8,_)=>match ACL (o8,())with|none=>none|some (y9,_)=>some (o5,y9,())
  |.inr _=>none
 |.inr _=>none
def AB1[Lk]:=fun v=>Lk.f (Qj v)
theorem AB0 v:AB1 v=Qj v:=AJ _
abbrev Yh:AE:=[(.tmp 0,.dat Uk),(.tmp 1,.di),(.tmp 2,.di)]
abbrev Yg:AE:=[(.tmp 0,.di),(.tmp 1,.dat Uf),(.tmp 2,.di)]
abbrev Yf:List RS:=[.agg 2,.one]
def La[Lk]:(Ul×Int×Int×Unit)→Option (V0):=fun(a0,a1,a2,_)=>
 match asked ((a0.1,(a0.2.1,())),a1,a2,())with|none=>none|some (y0,_)=>match(!(ieq y0 0))with
 |true=>some (a0.1,a0.2.1,y0,())
 |false=>match NO ((a0.1,(a0.2.1,())),a1,())with|none=>none|some (y1,_)=>match NO ((a0.1,(a0.2.1,())),a2,())with|none=>none|some (y2,_)=>match(ieq y1 y2)with
 |true=>some (a0.1,a0.2.1,5,())
 |false=>match idx a0.2.1 y1 with|none=>none|some x3=>match XA (x3,a1,())with|none=>none|some (y4,y5,_)=>match idx a0.2.1 y2 with|none=>none|some x6=>match XA (x6,a2,())with|none=>none|some (y7,y8,_)=>match G8 y4 0 1 with|none=>none|some x9=>match ALK (a0.1,a1,a2,())with|none=>none|some (y10,_)=>match ALK (a0.1,a2,a1,())with|none=>none|some (y11,_)=>match G8 y4 1 (AQ y4)with|none=>none|some x12=>match IA (([(FL 0 (AF (AQ x9)) y4),([y10]:List (Int)),y7,([y11]:List (Int)),(FL 1 (AF (AQ x12)) y4)]:List U2),())with|none=>none|some (y13,_)=>match AB1 ((a0.1,(a0.2.1,())),([y1,y2]:List (Int)),([y13]:List U2),())with|none=>none|some (y14,y15,_)=>some (y14,y15,0,())
def Rk[Lk]:=fun v=>Lk.f (La v)
theorem Rj v:Rk v=La v:=AJ _
abbrev Ea:AE:=[(.tmp 0,.dat U4),(.cap 1 0,.box 2),(.cell 0 0,.di),(.cell 0 1,.dat Uf),(.tmp 1,.clo 64 [(0,0)])]
abbrev EZ:AE:=[(.obj 0,.box 2),(.cell 0 0,.di),(.cell 0 1,.dat Uf),(.tmp 0,.di)]
abbrev EY:List RS:=[.one]
abbrev Gs:AE:=[(.obj 0,.box 2),(.cell 0 0,.di),(.cell 0 1,.dat Uf),(.tmp 0,.dat U4),(.tmp 1,.clo 64 [(0,0)]),(.tmp 7,.di),(.tmp 8,.di)]
abbrev Gr:A4:=[(.ret,[(.obj 0,.box 2),(.cell 0 0,.di),(.cell 0 1,.dat Uf),(.tmp 4,.di)]),(.exit 0,[(.obj 0,.box 2),(.cell 0 0,.di),(.cell 0 1,.dat Uf)])]
def BS[Lk]:(Int×List U2×List Int×Int×Int×Unit)→Option ((Int×List U2×List Int×Int×Int×Unit)⊕V0⊕(Int×List U2×Unit)⊕Unit):=fun(a0,a1,a2,a3,a4,_)=>
 match(ilt a4 a3)with
 |true=>match idx a2 a4 with|none=>none|some x0=>match(ilt x0 0)with
  |true=>some (.inr (.inl (a0,a1,a4,())))
  |false=>match(ile a0 x0)with
  |true=>some (.inr (.inl (a0,a1,a4,())))
  |false=>some (.inl (a0,a1,a2,a3,(IntKind.wrap .i64 (a4+1)),()))
 |false=>some (.inr (.inr (.inl (a0,a1,()))))
def DC[Lk]:(List Int×Int×List U2×Unit)→Option (V0):=fun(a0,a1,a2,_)=>
 match Aa BS many (a1,a2,a0,(AQ a0),0,())with|none=>none|some r=>match r with
 |.inl (o0,o1,o2,_)=>some (o0,o1,o2,())
 |.inr r=>match r with
 |.inl (o3,o4,_)=>some (o3,o4,(-1:Int),())
 |.inr _=>none
def D4[Lk]:=fun v=>Lk.f (DC v)
theorem Gt v:D4 v=DC v:=AJ _
abbrev D9:AE:=[(.tmp 0,.dat U4),(.cap 1 0,.box 2),(.cell 0 0,.di),(.cell 0 1,.dat Uf),(.tmp 1,.clo 64 [(0,0)])]
abbrev D8:AE:=[(.obj 0,.box 2),(.cell 0 0,.di),(.cell 0 1,.dat Uf),(.tmp 0,.dat .bool)]
abbrev D7:List RS:=[.one]
def Cj[Lk]:(List Int×Int×List U2×Unit)→Option ((Int×List U2×Bool×Unit)):=fun(a0,a1,a2,_)=>
 match D4 (a0,a1,a2,())with|none=>none|some (y0,y1,y2,_)=>some (y0,y1,(ile 0 y2),())
def Cb[Lk]:=fun v=>Lk.f (Cj v)
theorem GP v:Cb v=Cj v:=AJ _
abbrev T4:AE:=[(.tmp 0,.dat Uk),(.tmp 1,.dat U4)]
abbrev T3:AE:=[(.tmp 0,.di)]
abbrev T2:List RS:=[.one]
def MK[Lk]:(Ul×List Int×Unit)→Option (U8):=fun(a0,a1,_)=>
 match NN ((a0.1,(a0.2.1,())),())with|none=>none|some (y0,_)=>match(!y0)with
 |true=>some (1,())
 |false=>match Cb (a1,a0.1,a0.2.1,())with|none=>none|some (y1,y2,y3,_)=>match y3 with
 |true=>some (10,())
 |false=>some (0,())
def OQ[Lk]:=fun v=>Lk.f (MK v)
theorem Xk v:OQ v=MK v:=AJ _
abbrev AIt:AE:=[(.tmp 0,.dat Uv)]
abbrev AIs:AE:=[(.tmp 0,.own 3 U0)]
abbrev AIr:List RS:=[.one]
abbrev AKg:AE:=[(.tmp 3,.own 3 U0),(.tmp 6,.dat Uv),(.tmp 7,.di),(.tmp 8,.di)]
abbrev AKf:A4:=[(.exit 0,[(.tmp 3,.own 3 U0)])]
def H7[Lk]:(List Int×List U7×Int×Int×Unit)→Option ((List Int×List U7×Int×Int×Unit)⊕U9⊕Unit):=fun(a0,a1,a2,a3,_)=>
 match(ilt a3 a2)with
 |true=>match idx a1 a3 with|none=>none|some x0=>match(fits ((AQ a0)+(AQ ([x0.1,x0.2.1]:List (Int)))))with
  |true=>some (.inl ((Bs a0 ([x0.1,x0.2.1]:List (Int))),a1,a2,(IntKind.wrap .i64 (a3+1)),()))
  |false=>none
 |false=>some (.inr (.inl (a0,())))
def AA0[Lk]:(List U7×Unit)→Option (U9):=fun(a0,_)=>
 match Aa H7 many (([]:List (Int)),a0,(AQ a0),0,())with|none=>none|some r=>match r with
 |.inl (o0,_)=>some (o0,())
 |.inr _=>none
def ends[Lk]:=fun v=>Lk.f (AA0 v)
theorem AKh v:ends v=AA0 v:=AJ _
abbrev K5:AE:=[(.tmp 0,.dat Uk),(.tmp 1,.dat Uv),(.tmp 2,.clo 46 [])]
abbrev K4:AE:=[(.tmp 0,.dat Uk),(.tmp 1,.own 4 .bool),(.tmp 2,.di)]
abbrev K3:List RS:=[.one,.one,.one]
abbrev Pw:AE:=[(.tmp 2,.clo 46 []),(.tmp 3,.box 2),(.cell 0 0,.di),(.cell 0 1,.dat Uf),(.tmp 6,.box 2),(.cell 1 0,.di),(.cell 1 1,.nil U4),(.tmp 10,.own 4 .bool),(.tmp 23,.dat Uv),(.tmp 24,.di),(.tmp 25,.di)]
abbrev Pv:A4:=[(.exit 0,[(.tmp 3,.box 2),(.cell 0 0,.di),(.cell 0 1,.dat Uf),(.tmp 6,.box 2),(.cell 1 0,.di),(.cell 1 1,.nil U4),(.tmp 10,.own 4 .bool)])]
def C0[Lk]:(Int×List U2×Int×List Bool×List U7×Int×Int×Unit)→Option ((Int×List U2×Int×List Bool×List U7×Int×Int×Unit)⊕(Int×List U2×Int×List Bool×Unit)⊕Unit):=fun(a0,a1,a2,a3,a4,a5,a6,_)=>
 match(ilt a6 a5)with
 |true=>match idx a4 a6 with|none=>none|some x0=>match Rk ((a0,(a1,())),x0.1,x0.2.1,())with|none=>none|some (y1,y2,y3,_)=>match(fits ((AQ a3)+(AQ ([(ieq y3 0)]:List (Bool)))))with
  |true=>some (.inl (y1,y2,a2,(Bs a3 ([(ieq y3 0)]:List (Bool))),a4,a5,(IntKind.wrap .i64 (a6+1)),()))
  |false=>none
 |false=>some (.inr (.inl (a0,a1,a2,a3,())))
def H9[Lk]:(Ul×List U7×Unit)→Option ((Ul×List Bool×Int×Unit)):=fun(a0,a1,_)=>
 match ends (a1,())with|none=>none|some (y0,_)=>match OQ ((a0.1,(a0.2.1,())),y0,())with|none=>none|some (y1,_)=>match(!(ieq y1 0))with
 |true=>some ((a0.1,(a0.2.1,())),([]:List (Bool)),y1,())
 |false=>match Aa C0 many (a0.1,a0.2.1,0,([]:List (Bool)),a1,(AQ a1),0,())with|none=>none|some r=>match r with
 |.inl (o2,o3,o4,o5,_)=>some ((o2,(o3,())),o5,0,())
 |.inr _=>none
def MR[Lk]:=fun v=>Lk.f (H9 v)
theorem Px v:MR v=H9 v:=AJ _
abbrev T7:AE:=[(.tmp 0,.dat Uk),(.tmp 1,.dat Uv)]
abbrev T6:AE:=[(.tmp 0,.dat Uk),(.tmp 1,.own 4 .bool),(.tmp 2,.di)]
abbrev T5:List RS:=[.one,.one,.one]
def ML[Lk]:(Ul×List U7×Unit)→Option ((Ul×List Bool×Int×Unit)):=fun(a0,a1,_)=>
 match MR ((a0.1,(a0.2.1,())),a1,())with|none=>none|some (y0,y1,y2,_)=>some ((y0.1,(y0.2.1,())),y1,y2,())
def AAs[Lk]:=fun v=>Lk.f (ML v)
theorem Xl v:AAs v=ML v:=AJ _
abbrev AQf:AE:=[(.tmp 0,.di),(.tmp 1,.dat Uv)]
abbrev AQe:AE:=[(.tmp 0,.dat Uk),(.tmp 1,.di)]
abbrev AQd:List RS:=[.one,.one]
def AKd[Lk]:(Int×List U7×Unit)→Option ((Ul×Int×Unit)):=fun(a0,a1,_)=>
 match ACH (a0,())with|none=>none|some (y0,y1,y2,_)=>match(!(ieq y2 0))with
 |true=>some ((0,(([]:List U2),())),y2,())
 |false=>match AAs ((y0,(y1,())),a1,())with|none=>none|some (y3,y4,y5,_)=>match(!(ieq y5 0))with
 |true=>some ((0,(([]:List U2),())),y5,())
 |false=>some ((y3.1,(y3.2.1,())),0,())
def fof[Lk]:=fun v=>Lk.f (AKd v)
theorem AQg v:fof v=AKd v:=AJ _
abbrev APh:AE:=[(.tmp 0,.dat U4)]
abbrev APf:AE:=[(.tmp 0,.di)]
abbrev APd:List RS:=[.one]
abbrev APg:AE:=[(.tmp 3,.di),(.tmp 6,.dat U4),(.tmp 7,.di),(.tmp 8,.di)]
abbrev APe:A4:=[(.ret,[(.tmp 2,.di)]),(.exit 0,[(.tmp 3,.di)])]
def Kj[Lk]:(Int×List Int×Int×Int×Unit)→Option ((Int×List Int×Int×Int×Unit)⊕U8⊕U8⊕Unit):=fun(a0,a1,a2,a3,_)=>
 match(ilt a3 a2)with
 |true=>match idx a1 a3 with|none=>none|some x0=>match(!(ieq x0 a0))with
  |true=>some (.inr (.inl (x0,())))
  |false=>some (.inl (a0,a1,a2,(IntKind.wrap .i64 (a3+1)),()))
 |false=>some (.inr (.inr (.inl (a0,()))))
def AJ5[Lk]:U9→Option (U8):=fun(a0,_)=>
 match Aa Kj many (0,a0,(AQ a0),0,())with|none=>none|some r=>match r with
 |.inl (o0,_)=>some (o0,())
 |.inr r=>match r with
 |.inl (o1,_)=>some (o1,())
 |.inr _=>none
def orI[Lk]:=fun v=>Lk.f (AJ5 v)
theorem APj v:orI v=AJ5 v:=AJ _
abbrev TJ:AE:=[(.tmp 0,.di)]
abbrev TH:AE:=[(.tmp 0,.dat .bool)]
abbrev TG:List RS:=[.one]
def I5[Lk]:U8→Option (Uh):=fun(a0,_)=>
 match(ile 1 a0)with
 |true=>some ((ile a0 64),())
 |false=>some (false,())
def N4[Lk]:=fun v=>Lk.f (I5 v)
theorem N3 v:N4 v=I5 v:=AJ _
abbrev AHy:AE:=[(.tmp 0,.di)]
abbrev AHx:AE:=[(.tmp 0,.di)]
abbrev AHw:List RS:=[.one]
def AHz[Lk]:U8→Option (U8):=fun(a0,_)=>
 match N4 (a0,())with|none=>none|some (y0,_)=>match(!y0)with
 |true=>some (0,())
 |false=>match bitsLen ((IntKind.wrap .u64 (IntKind.wrap .i64 (a0-1))),())with|none=>none|some (y1,_)=>some (y1,())
def QP[Lk]:=fun v=>Lk.f (AHz v)
theorem AR8 v:QP v=AHz v:=AJ _
abbrev Kr:AE:=[(.tmp 0,.dat Uu),(.tmp 1,.dat Uu)]
abbrev Kq:AE:=[(.tmp 0,.di)]
abbrev Kp:List RS:=[.one]
def GD[Lk]:(U3×U3×Unit)→Option (U8):=fun(a0,a1,_)=>
 match GS (a0.1,a1.1,())with|none=>none|some (y0,_)=>match GS (a0.2.1,a1.2.1,())with|none=>none|some (y1,_)=>match orI (([y0,y1]:List (Int)),())with|none=>none|some (y2,_)=>some (y2,())
def Cy[Lk]:=fun v=>Lk.f (GD v)
theorem I6 v:Cy v=GD v:=AJ _
abbrev TE:AE:=[(.tmp 0,.dat Ui),(.tmp 1,.di)]
abbrev TD:AE:=[(.tmp 0,.own 45 Ua)]
abbrev TC:List RS:=[.one]
abbrev XT:AE:=[(.tmp 1,.di),(.tmp 5,.own 45 Ua),(.tmp 9,.dat U1),(.tmp 10,.di),(.tmp 11,.di)]
abbrev XS:A4:=[(.exit 0,[(.tmp 5,.own 45 Ua)])]
def CG[Lk]:(Int×List U7×List U3×Int×Int×Unit)→Option ((Int×List U7×List U3×Int×Int×Unit)⊕(List U7×Unit)⊕Unit):=fun(a0,a1,a2,a3,a4,_)=>
 match(ilt a4 a3)with
 |true=>match idx a2 a4 with|none=>none|some x0=>match x0.2.2.2.1 with
  |true=>match(ile a0 x0.2.2.1)with
   |true=>match(fits ((AQ a1)+(AQ ([(x0.1,(x0.2.1,()))]:List U7))))with
    |true=>some (.inl (a0,(Bs a1 ([(x0.1,(x0.2.1,()))]:List U7)),a2,a3,(IntKind.wrap .i64 (a4+1)),()))
    |false=>none
   |false=>some (.inl (a0,a1,a2,a3,(IntKind.wrap .i64 (a4+1)),()))
  |false=>some (.inl (a0,a1,a2,a3,(IntKind.wrap .i64 (a4+1)),()))
 |false=>some (.inr (.inl (a1,())))
def I3[Lk]:(Uj×Int×Unit)→Option ((List U7×Unit)):=fun(a0,a1,_)=>
 match Aa CG many (a1,([]:List U7),a0.2.1,(AQ a0.2.1),0,())with|none=>none|some r=>match r with
 |.inl (o0,_)=>some (o0,())
 |.inr _=>none
def Ko[Lk]:=fun v=>Lk.f (I3 v)
theorem N2 v:Ko v=I3 v:=AJ _
abbrev TM:AE:=[(.tmp 0,.dat Ui)]
abbrev TL:AE:=[(.tmp 0,.dat .bool)]
abbrev TK:List RS:=[.one]
abbrev XV:AE:=[(.tmp 1,.box 2),(.cell 0 0,.di),(.cell 0 1,.dat U1),(.tmp 3,.di),(.tmp 23,.dat U1),(.tmp 24,.di),(.tmp 25,.di)]
abbrev XU:A4:=[(.ret,[(.tmp 2,.dat .bool)]),(.exit 0,[(.tmp 1,.box 2),(.cell 0 0,.di),(.cell 0 1,.dat U1)])]
def C9[Lk]:(Int×List U3×Int×List U3×Int×Int×Unit)→Option ((Int×List U3×Int×List U3×Int×Int×Unit)⊕Uh⊕(Int×List U3×Unit)⊕Unit):=fun(a0,a1,a2,a3,a4,a5,_)=>
 match(ilt a5 a4)with
 |true=>match idx a3 a5 with|none=>none|some x0=>match(ilt x0.1 0)with
  |true=>some (.inr (.inl (false,())))
  |false=>match(ile x0.2.1 x0.1)with
  |true=>some (.inr (.inl (false,())))
  |false=>match(ile a0 x0.2.1)with
  |true=>some (.inr (.inl (false,())))
  |false=>match(ilt x0.2.2.1 0)with
  |true=>some (.inr (.inl (false,())))
  |false=>match(ilt a2 x0.2.2.1)with
  |true=>some (.inr (.inl (false,())))
  |false=>match(ilt 0 a5)with
  |true=>match idx a1 (IntKind.wrap .i64 (a5-1))with|none=>none|some x1=>match Cy ((x1.1,(x1.2.1,(x1.2.2.1,(x1.2.2.2.1,())))),(x0.1,(x0.2.1,(x0.2.2.1,(x0.2.2.2.1,())))),())with|none=>none|some (y2,_)=>match(ile 0 y2)with
   |true=>some (.inr (.inl (false,())))
   |false=>some (.inl (a0,a1,a2,a3,a4,(IntKind.wrap .i64 (a5+1)),()))
  |false=>some (.inl (a0,a1,a2,a3,a4,(IntKind.wrap .i64 (a5+1)),()))
 |false=>some (.inr (.inr (.inl (a0,a1,()))))
def GA[Lk]:(Uj×Unit)→Option (Uh):=fun(a0,_)=>
 match N4 (a0.1,())with|none=>none|some (y0,_)=>match(!y0)with
 |true=>some (false,())
 |false=>match(ilt 400 (AQ a0.2.1))with
 |true=>some (false,())
 |false=>match QP (a0.1,())with|none=>none|some (y1,_)=>match Aa C9 many (a0.1,a0.2.1,y1,a0.2.1,(AQ a0.2.1),0,())with|none=>none|some r=>match r with
 |.inl (o2,_)=>some (o2,())
 |.inr r=>match r with
 |.inl (o3,o4,_)=>match Ko ((o3,(o4,())),0,())with|none=>none|some (y5,_)=>match fof (o3,y5,())with|none=>none|some (y6,y7,_)=>match(ieq y7 0)with
  |true=>some ((ieq (AQ y6.2.1) (IntKind.wrap .i64 (o3-(AQ y5)))),())
  |false=>some (false,())
 |.inr _=>none
def EM[Lk]:=fun v=>Lk.f (GA v)
theorem HP v:EM v=GA v:=AJ _
abbrev Tc:AE:=[(.tmp 0,.dat Ui)]
abbrev Tb:AE:=[(.tmp 0,.own 45 Ua)]
abbrev Ta:List RS:=[.one]
abbrev XY:AE:=[(.tmp 3,.own 45 Ua),(.tmp 10,.dat U1),(.tmp 11,.di),(.tmp 12,.di)]
abbrev XX:A4:=[(.exit 0,[(.tmp 3,.own 45 Ua)])]
def EO[Lk]:(List U7×List U3×Int×Int×Unit)→Option ((List U7×List U3×Int×Int×Unit)⊕(List U7×Unit)⊕Unit):=fun(a0,a1,a2,a3,_)=>
 match(ilt a3 a2)with
 |true=>match idx a1 a3 with|none=>none|some x0=>match(fits ((AQ a0)+(AQ ([(x0.1,(x0.2.1,()))]:List U7))))with
  |true=>some (.inl ((Bs a0 ([(x0.1,(x0.2.1,()))]:List U7)),a1,a2,(IntKind.wrap .i64 (a3+1)),()))
  |false=>none
 |false=>some (.inr (.inl (a0,())))
def Lz[Lk]:(Uj×Unit)→Option ((List U7×Unit)):=fun(a0,_)=>
 match EM ((a0.1,(a0.2.1,())),())with|none=>none|some (y0,_)=>match(!y0)with
 |true=>some (([]:List U7),())
 |false=>match Aa EO many (([]:List U7),a0.2.1,(AQ a0.2.1),0,())with|none=>none|some r=>match r with
 |.inl (o1,_)=>some (o1,())
 |.inr _=>none
def OC[Lk]:=fun v=>Lk.f (Lz v)
theorem XZ v:OC v=Lz v:=AJ _
abbrev JM:AE:=[(.tmp 0,.di),(.tmp 1,.dat Uv)]
abbrev JL:AE:=[(.tmp 0,.own 3 U0)]
abbrev JK:List RS:=[.one]
abbrev Mc:AE:=[(.tmp 0,.di),(.tmp 1,.dat Uv),(.tmp 5,.own 3 U0),(.tmp 7,.dat .bool),(.tmp 8,.di)]
abbrev MZ:A4:=[(.exit 4,[(.tmp 0,.di),(.tmp 1,.dat Uv),(.tmp 5,.own 3 U0),(.tmp 7,.dat .bool)])]
def CW[Lk]:(Int×List U7×List Int×Bool×Int×Unit)→Option ((Int×List U7×List Int×Bool×Int×Unit)⊕V2⊕Unit):=fun(a0,a1,a2,a3,a4,_)=>
 match(ilt a4 (AQ a1))with
 |true=>match idx a1 a4 with|none=>none|some x0=>match idx a1 a4 with|none=>none|some x1=>match(ilt x0.1 0)with
  |true=>some (.inl (a0,a1,a2,a3,(IntKind.wrap .i64 (a4+1)),()))
  |false=>match(ilt x1.2.1 0)with
  |true=>some (.inl (a0,a1,a2,a3,(IntKind.wrap .i64 (a4+1)),()))
  |false=>match(ile a0 x0.1)with
  |true=>some (.inl (a0,a1,a2,a3,(IntKind.wrap .i64 (a4+1)),()))
  |false=>match(ile a0 x1.2.1)with
  |true=>some (.inl (a0,a1,a2,a3,(IntKind.wrap .i64 (a4+1)),()))
  |false=>match idx a2 x0.1 with|none=>none|some x2=>match idx a2 x1.2.1 with|none=>none|some x3=>match(ieq (AN a2 (AF x0.1) 0) (AN a2 (AF x1.2.1) 0))with
  |true=>some (.inl (a0,a1,a2,a3,(IntKind.wrap .i64 (a4+1)),()))
  |false=>match idx a2 x0.1 with|none=>none|some x4=>match idx a2 x1.2.1 with|none=>none|some x5=>match idx a2 x0.1 with|none=>none|some x6=>match idx (Aj a2 (AF x0.1) (ES (AN a2 (AF x0.1) 0) (AN a2 (AF x1.2.1) 0))) x1.2.1 with|none=>none|some x7=>some (.inl (a0,a1,(Aj (Aj a2 (AF x0.1) (ES (AN a2 (AF x0.1) 0) (AN a2 (AF x1.2.1) 0))) (AF x1.2.1) (ES (AN a2 (AF x0.1) 0) (AN a2 (AF x1.2.1) 0))),true,(IntKind.wrap .i64 (a4+1)),()))
 |false=>some (.inr (.inl (a0,a1,a2,a3,())))
abbrev Md:AE:=[(.tmp 0,.di),(.tmp 1,.dat Uv),(.tmp 5,.own 3 U0),(.tmp 7,.dat .bool)]
abbrev Ma:A4:=[(.exit 2,[(.tmp 5,.own 3 U0)])]
def DD[Lk]:V2→Option (V2⊕U9⊕Unit):=fun(a0,a1,a2,a3,_)=>
 match a3 with
 |true=>match Aa CW many (a0,a1,a2,false,0,())with|none=>none|some r=>match r with
  |.inl (o0,o1,o2,o3,_)=>some (.inl (o0,o1,o2,o3,()))
  |.inr _=>none
 |false=>some (.inr (.inl (a2,())))
abbrev Me:AE:=[(.tmp 0,.di),(.tmp 1,.dat Uv),(.tmp 5,.own 3 U0),(.tmp 6,.di)]
abbrev Mb:A4:=[(.exit 0,[(.tmp 0,.di),(.tmp 1,.dat Uv),(.tmp 5,.own 3 U0)])]
def CX[Lk]:(Int×List U7×List Int×Int×Unit)→Option ((Int×List U7×List Int×Int×Unit)⊕(Int×List U7×List Int×Unit)⊕Unit):=fun(a0,a1,a2,a3,_)=>
 match(ilt a3 a0)with
 |true=>match(fits ((AQ a2)+(AQ ([a3]:List (Int)))))with
  |true=>some (.inl (a0,a1,(Bs a2 ([a3]:List (Int))),(IntKind.wrap .i64 (a3+1)),()))
  |false=>none
 |false=>some (.inr (.inl (a0,a1,a2,())))
def Gy[Lk]:(Int×List U7×Unit)→Option (U9):=fun(a0,a1,_)=>
 match Aa CX many (a0,a1,([]:List (Int)),0,())with|none=>none|some r=>match r with
 |.inl (o0,o1,o2,_)=>match Aa DD many (o0,o1,o2,true,())with|none=>none|some r=>match r with
  |.inl (o3,_)=>some (o3,())
  |.inr _=>none
 |.inr _=>none
def Fk[Lk]:=fun v=>Lk.f (Gy v)
theorem Mf v:Fk v=Gy v:=AJ _
abbrev YX:AE:=[(.tmp 0,.di)]
abbrev YW:AE:=[(.tmp 0,.di)]
abbrev YV:List RS:=[.one]
abbrev ACC:AE:=[(.tmp 3,.di),(.tmp 4,.di)]
abbrev ACB:A4:=[(.exit 0,[(.tmp 3,.di)])]
def Ri[Lk]:U7→Option (U7⊕U8⊕Unit):=fun(a0,a1,_)=>
 match(ilt 0 a1)with
 |true=>match quo? .i64 a1 2 with|none=>none|some x0=>some (.inl ((IntKind.wrap .i64 (a0+1)),x0,()))
 |false=>some (.inr (.inl (a0,())))
def YZ[Lk]:U8→Option (U8):=fun(a0,_)=>
 match(ilt a0 1)with
 |true=>some (0,())
 |false=>match(ilt 64 a0)with
 |true=>some (0,())
 |false=>match Aa Ri many (0,(IntKind.wrap .i64 (a0-1)),())with|none=>none|some r=>match r with
 |.inl (o0,_)=>some (o0,())
 |.inr _=>none
def KD[Lk]:=fun v=>Lk.f (YZ v)
theorem AOE v:KD v=YZ v:=AJ _
abbrev NU:AE:=[(.tmp 0,.dat Ui)]
abbrev NT:AE:=[(.tmp 0,.dat .bool)]
abbrev NS:List RS:=[.one]
abbrev R4:AE:=[(.tmp 1,.box 2),(.cell 0 0,.di),(.cell 0 1,.dat U1),(.tmp 3,.own 45 Ua),(.tmp 6,.own 3 U0),(.tmp 7,.di),(.tmp 8,.di)]
abbrev R2:A4:=[(.exit 2,[(.tmp 1,.box 2),(.cell 0 0,.di),(.cell 0 1,.dat U1),(.tmp 3,.own 45 Ua),(.tmp 7,.di)])]
def Cu[Lk]:(Int×List U3×List U7×List Int×Int×Int×Unit)→Option ((Int×List U3×List U7×List Int×Int×Int×Unit)⊕V3⊕Unit):=fun(a0,a1,a2,a3,a4,a5,_)=>
 match(ilt a5 a0)with
 |true=>match idx a3 a5 with|none=>none|some x0=>match(ieq (AN a3 (AF a5) 0) a5)with
  |true=>some (.inl (a0,a1,a2,a3,(IntKind.wrap .i64 (a4+1)),(IntKind.wrap .i64 (a5+1)),()))
  |false=>some (.inl (a0,a1,a2,a3,a4,(IntKind.wrap .i64 (a5+1)),()))
 |false=>some (.inr (.inl (a0,a1,a2,a4,())))
abbrev R5:AE:=[(.tmp 1,.box 2),(.cell 0 0,.di),(.cell 0 1,.dat U1),(.tmp 3,.own 45 Ua),(.tmp 4,.di)]
abbrev R3:A4:=[(.ret,[(.tmp 2,.dat .bool)]),(.exit 0,[(.tmp 1,.box 2),(.cell 0 0,.di),(.cell 0 1,.dat U1),(.tmp 3,.own 45 Ua)])]
def CO[Lk]:V3→Option (V3⊕Uh⊕(Int×List U3×List U7×Unit)⊕Unit):=fun(a0,a1,a2,a3,_)=>
 match(ilt a3 (AQ a1))with
 |true=>match idx a1 a3 with|none=>none|some x0=>match(ilt x0.1 0)with
  |true=>some (.inr (.inl (false,())))
  |false=>match(ile x0.2.1 x0.1)with
  |true=>some (.inr (.inl (false,())))
  |false=>match(ile a0 x0.2.1)with
  |true=>some (.inr (.inl (false,())))
  |false=>match(ilt x0.2.2.1 0)with
  |true=>some (.inr (.inl (false,())))
  |false=>match KD (a0,())with|none=>none|some (y1,_)=>match(ilt y1 x0.2.2.1)with
  |true=>some (.inr (.inl (false,())))
  |false=>match(ilt 0 a3)with
  |true=>match idx a1 (IntKind.wrap .i64 (a3-1))with|none=>none|some x2=>match(ilt x0.1 x2.1)with
   |true=>some (.inr (.inl (false,())))
   |false=>match idx a1 (IntKind.wrap .i64 (a3-1))with|none=>none|some x3=>match(ieq x3.1 x0.1)with
   |true=>match idx a1 (IntKind.wrap .i64 (a3-1))with|none=>none|some x4=>match(ile x0.2.1 x4.2.1)with
    |true=>some (.inr (.inl (false,())))
    |false=>match x0.2.2.2.1 with
    |true=>match(fits ((AQ a2)+(AQ ([(x0.1,(x0.2.1,()))]:List U7))))with
     |true=>some (.inl (a0,a1,(Bs a2 ([(x0.1,(x0.2.1,()))]:List U7)),(IntKind.wrap .i64 (a3+1)),()))
     |false=>none
    |false=>some (.inl (a0,a1,a2,(IntKind.wrap .i64 (a3+1)),()))
   |false=>match x0.2.2.2.1 with
   |true=>match(fits ((AQ a2)+(AQ ([(x0.1,(x0.2.1,()))]:List U7))))with
    |true=>some (.inl (a0,a1,(Bs a2 ([(x0.1,(x0.2.1,()))]:List U7)),(IntKind.wrap .i64 (a3+1)),()))
    |false=>none
   |false=>some (.inl (a0,a1,a2,(IntKind.wrap .i64 (a3+1)),()))
  |false=>match x0.2.2.2.1 with
  |true=>match(fits ((AQ a2)+(AQ ([(x0.1,(x0.2.1,()))]:List U7))))with
   |true=>some (.inl (a0,a1,(Bs a2 ([(x0.1,(x0.2.1,()))]:List U7)),(IntKind.wrap .i64 (a3+1)),()))
   |false=>none
  |false=>some (.inl (a0,a1,a2,(IntKind.wrap .i64 (a3+1)),()))
 |false=>some (.inr (.inr (.inl (a0,a1,a2,()))))
def Dj[Lk]:(Uj×Unit)→Option (Uh):=fun(a0,_)=>
 match(ilt a0.1 1)with
 |true=>some (false,())
 |false=>match(ilt 64 a0.1)with
 |true=>some (false,())
 |false=>match(ilt 400 (AQ a0.2.1))with
 |true=>some (false,())
 |false=>match Aa CO many (a0.1,a0.2.1,([]:List U7),0,())with|none=>none|some r=>match r with
 |.inl (o0,_)=>some (o0,())
 |.inr r=>match r with
 |.inl (o1,o2,o3,_)=>match Fk (o1,o3,())with|none=>none|some (y4,_)=>match Aa Cu many (o1,o2,o3,y4,0,0,())with|none=>none|some r=>match r with
  |.inl (o5,o6,o7,o8,_)=>some ((ieq o8 (IntKind.wrap .i64 (o5-(AQ o7)))),())
  |.inr _=>none
 |.inr _=>none
def FV[Lk]:=fun v=>Lk.f (Dj v)
theorem EG v:FV v=Dj v:=AJ _
abbrev N9:AE:=[(.tmp 0,.dat Ui),(.tmp 1,.di)]
abbrev N8:AE:=[(.tmp 0,.dat Uk),(.tmp 1,.di)]
abbrev N7:List RS:=[.one,.one]
def Jq[Lk]:(Uj×Int×Unit)→Option ((Ul×Int×Unit)):=fun(a0,a1,_)=>
 match EM ((a0.1,(a0.2.1,())),())with|none=>none|some (y0,_)=>match(!y0)with
 |true=>some ((0,(([]:List U2),())),1,())
 |false=>match Ko ((a0.1,(a0.2.1,())),a1,())with|none=>none|some (y1,_)=>match fof (a0.1,y1,())with|none=>none|some (y2,y3,_)=>some ((y2.1,(y2.2.1,())),y3,())
def Hz[Lk]:=fun v=>Lk.f (Jq v)
theorem TU v:Hz v=Jq v:=AJ _
abbrev AAM:AE:=[(.tmp 0,.di),(.tmp 1,.di)]
abbrev AAL:AE:=[(.tmp 0,.dat .bool)]
abbrev AAK:List RS:=[.one]
def Q1[Lk]:U7→Option (Uh):=fun(a0,a1,_)=>
 match AHi (a0,())with|none=>none|some (y0,_)=>match y0 with
 |true=>match AHi (a1,())with|none=>none|some (y1,_)=>match(!y1)with
  |true=>some (true,())
  |false=>some ((ilt a0 a1),())
 |false=>some ((ilt a0 a1),())
def DM[Lk]:=fun v=>Lk.f (Q1 v)
theorem AEO v:DM v=Q1 v:=AJ _
abbrev AIX:AE:=[(.tmp 0,.own 3 U0),(.tmp 1,.di),(.tmp 2,.di)]
abbrev AIW:AE:=[(.obj 0,.own 3 U0)]
abbrev AIV:List RS:=[]
abbrev AKR:AE:=[(.obj 0,.own 3 U0),(.tmp 0,.own' 0),(.tmp 1,.di),(.tmp 2,.di),(.tmp 6,.di),(.tmp 7,.di)]
abbrev AKP:A4:=[(.exit 2,[(.obj 0,.own 3 U0),(.tmp 0,.own' 0),(.tmp 1,.di),(.tmp 2,.di),(.tmp 6,.di)])]
def Jt[Lk]:Ud→Option (Ud⊕U5⊕Unit):=fun(a0,a1,a2,a3,a4,_)=>
 match(ilt a1 a4)with
 |true=>match idx a0 a4 with|none=>none|some x0=>match idx a0 (IntKind.wrap .i64 (a4-1))with|none=>none|some x1=>match DM ((AN a0 (AF a4) 0),(AN a0 (AF (IntKind.wrap .i64 (a4-1))) 0),())with|none=>none|some (y2,_)=>match y2 with
  |true=>match idx a0 (IntKind.wrap .i64 (a4-1))with|none=>none|some x3=>match idx a0 a4 with|none=>none|some x4=>match idx a0 a4 with|none=>none|some x5=>match idx (Aj a0 (AF a4) (AN a0 (AF (IntKind.wrap .i64 (a4-1))) 0)) (IntKind.wrap .i64 (a4-1))with|none=>none|some x6=>some (.inl ((Aj (Aj a0 (AF a4) (AN a0 (AF (IntKind.wrap .i64 (a4-1))) 0)) (AF (IntKind.wrap .i64 (a4-1))) (AN a0 (AF a4) 0)),a1,a2,a3,(IntKind.wrap .i64 (a4-1)),()))
  |false=>some (.inr (.inl (a0,a1,a2,a3,())))
 |false=>some (.inr (.inl (a0,a1,a2,a3,())))
abbrev AKS:AE:=[(.obj 0,.own 3 U0),(.tmp 0,.own' 0),(.tmp 1,.di),(.tmp 2,.di),(.tmp 6,.di)]
abbrev AKQ:A4:=[(.exit 0,[(.obj 0,.own 3 U0)])]
def Ju[Lk]:U5→Option (U5⊕U9⊕Unit):=fun(a0,a1,a2,a3,_)=>
 match(ilt a3 a2)with
 |true=>match Aa Jt many (a0,a1,a2,a3,a3,())with|none=>none|some r=>match r with
  |.inl (o0,o1,o2,o3,_)=>some (.inl (o0,o1,o2,(IntKind.wrap .i64 (o3+1)),()))
  |.inr _=>none
 |false=>some (.inr (.inl (a0,())))
def AAX[Lk]:Ue→Option (U9):=fun(a0,a1,a2,_)=>
 match Aa Ju many (a0,a1,a2,(IntKind.wrap .i64 (a1+1)),())with|none=>none|some r=>match r with
 |.inl (o0,_)=>some (o0,())
 |.inr _=>none
def AMm[Lk]:=fun v=>Lk.f (AAX v)
theorem AKT v:AMm v=AAX v:=AJ _
abbrev Yy:AE:=[(.tmp 0,.own 3 U0),(.tmp 1,.di),(.tmp 2,.di),(.tmp 3,.di)]
abbrev Yx:AE:=[(.obj 0,.own 3 U0)]
abbrev Yw:List RS:=[]
abbrev ACV:AE:=[(.obj 0,.own 3 U0),(.tmp 0,.own' 0),(.tmp 2,.di),(.tmp 3,.di),(.tmp 8,.di)]
abbrev ACU:A4:=[(.exit 0,[(.obj 0,.own 3 U0)]),(.ret,[(.obj 0,.own 3 U0)])]
def HJ[Lk]:U5→Option (U5⊕U9⊕U9⊕Unit):=fun(a0,a1,a2,a3,_)=>
 match(ile a1 (IntKind.wrap .i64 ((IntKind.wrap .i64 (2*a3))+1)))with
 |true=>some (.inr (.inl (a0,())))
 |false=>match(ilt (IntKind.wrap .i64 ((IntKind.wrap .i64 ((IntKind.wrap .i64 (2*a3))+1))+1)) a1)with
 |true=>match idx a0 (IntKind.wrap .i64 (a2+(IntKind.wrap .i64 ((IntKind.wrap .i64 (2*a3))+1))))with|none=>none|some x0=>match idx a0 (IntKind.wrap .i64 ((IntKind.wrap .i64 (a2+(IntKind.wrap .i64 ((IntKind.wrap .i64 (2*a3))+1))))+1))with|none=>none|some x1=>match DM ((AN a0 (AF (IntKind.wrap .i64 (a2+(IntKind.wrap .i64 ((IntKind.wrap .i64 (2*a3))+1))))) 0),(AN a0 (AF (IntKind.wrap .i64 ((IntKind.wrap .i64 (a2+(IntKind.wrap .i64 ((IntKind.wrap .i64 (2*a3))+1))))+1))) 0),())with|none=>none|some (y2,_)=>match y2 with
  |true=>match idx a0 (IntKind.wrap .i64 (a2+a3))with|none=>none|some x3=>match idx a0 (IntKind.wrap .i64 (a2+(IntKind.wrap .i64 ((IntKind.wrap .i64 ((IntKind.wrap .i64 (2*a3))+1))+1))))with|none=>none|some x4=>match DM ((AN a0 (AF (IntKind.wrap .i64 (a2+a3))) 0),(AN a0 (AF (IntKind.wrap .i64 (a2+(IntKind.wrap .i64 ((IntKind.wrap .i64 ((IntKind.wrap .i64 (2*a3))+1))+1))))) 0),())with|none=>none|some (y5,_)=>match(!y5)with
   |true=>some (.inr (.inr (.inl (a0,()))))
   |false=>match idx a0 (IntKind.wrap .i64 (a2+(IntKind.wrap .i64 ((IntKind.wrap .i64 ((IntKind.wrap .i64 (2*a3))+1))+1))))with|none=>none|some x6=>match idx a0 (IntKind.wrap .i64 (a2+a3))with|none=>none|some x7=>match idx a0 (IntKind.wrap .i64 (a2+a3))with|none=>none|some x8=>match idx (Aj a0 (AF (IntKind.wrap .i64 (a2+a3))) (AN a0 (AF (IntKind.wrap .i64 (a2+(IntKind.wrap .i64 ((IntKind.wrap .i64 ((IntKind.wrap .i64 (2*a3))+1))+1))))) 0)) (IntKind.wrap .i64 (a2+(IntKind.wrap .i64 ((IntKind.wrap .i64 ((IntKind.wrap .i64 (2*a3))+1))+1))))with|none=>none|some x9=>some (.inl ((Aj (Aj a0 (AF (IntKind.wrap .i64 (a2+a3))) (AN a0 (AF (IntKind.wrap .i64 (a2+(IntKind.wrap .i64 ((IntKind.wrap .i64 ((IntKind.wrap .i64 (2*a3))+1))+1))))) 0)) (AF (IntKind.wrap .i64 (a2+(IntKind.wrap .i64 ((IntKind.wrap .i64 ((IntKind.wrap .i64 (2*a3))+1))+1))))) (AN a0 (AF (IntKind.wrap .i64 (a2+a3))) 0)),a1,a2,(IntKind.wrap .i64 ((IntKind.wrap .i64 ((IntKind.wrap .i64 (2*a3))+1))+1)),()))
  |false=>match idx a0 (IntKind.wrap .i64 (a2+a3))with|none=>none|some x10=>match idx a0 (IntKind.wrap .i64 (a2+(IntKind.wrap .i64 ((IntKind.wrap .i64 (2*a3))+1))))with|none=>none|some x11=>match DM ((AN a0 (AF (IntKind.wrap .i64 (a2+a3))) 0),(AN a0 (AF (IntKind.wrap .i64 (a2+(IntKind.wrap .i64 ((IntKind.wrap .i64 (2*a3))+1))))) 0),())with|none=>none|some (y12,_)=>match(!y12)with
  |true=>some (.inr (.inr (.inl (a0,()))))
  |false=>match idx a0 (IntKind.wrap .i64 (a2+(IntKind.wrap .i64 ((IntKind.wrap .i64 (2*a3))+1))))with|none=>none|some x13=>match idx a0 (IntKind.wrap .i64 (a2+a3))with|none=>none|some x14=>match idx a0 (IntKind.wrap .i64 (a2+a3))with|none=>none|some x15=>match idx (Aj a0 (AF (IntKind.wrap .i64 (a2+a3))) (AN a0 (AF (IntKind.wrap .i64 (a2+(IntKind.wrap .i64 ((IntKind.wrap .i64 (2*a3))+1))))) 0)) (IntKind.wrap .i64 (a2+(IntKind.wrap .i64 ((IntKind.wrap .i64 (2*a3))+1))))with|none=>none|some x16=>some (.inl ((Aj (Aj a0 (AF (IntKind.wrap .i64 (a2+a3))) (AN a0 (AF (IntKind.wrap .i64 (a2+(IntKind.wrap .i64 ((IntKind.wrap .i64 (2*a3))+1))))) 0)) (AF (IntKind.wrap .i64 (a2+(IntKind.wrap .i64 ((IntKind.wrap .i64 (2*a3))+1))))) (AN a0 (AF (IntKind.wrap .i64 (a2+a3))) 0)),a1,a2,(IntKind.wrap .i64 ((IntKind.wrap .i64 (2*a3))+1)),()))
 |false=>match idx a0 (IntKind.wrap .i64 (a2+a3))with|none=>none|some x17=>match idx a0 (IntKind.wrap .i64 (a2+(IntKind.wrap .i64 ((IntKind.wrap .i64 (2*a3))+1))))with|none=>none|some x18=>match DM ((AN a0 (AF (IntKind.wrap .i64 (a2+a3))) 0),(AN a0 (AF (IntKind.wrap .i64 (a2+(IntKind.wrap .i64 ((IntKind.wrap .i64 (2*a3))+1))))) 0),())with|none=>none|some (y19,_)=>match(!y19)with
 |true=>some (.inr (.inr (.inl (a0,()))))
 |false=>match idx a0 (IntKind.wrap .i64 (a2+(IntKind.wrap .i64 ((IntKind.wrap .i64 (2*a3))+1))))with|none=>none|some x20=>match idx a0 (IntKind.wrap .i64 (a2+a3))with|none=>none|some x21=>match idx a0 (IntKind.wrap .i64 (a2+a3))with|none=>none|some x22=>match idx (Aj a0 (AF (IntKind.wrap .i64 (a2+a3))) (AN a0 (AF (IntKind.wrap .i64 (a2+(IntKind.wrap .i64 ((IntKind.wrap .i64 (2*a3))+1))))) 0)) (IntKind.wrap .i64 (a2+(IntKind.wrap .i64 ((IntKind.wrap .i64 (2*a3))+1))))with|none=>none|some x23=>some (.inl ((Aj (Aj a0 (AF (IntKind.wrap .i64 (a2+a3))) (AN a0 (AF (IntKind.wrap .i64 (a2+(IntKind.wrap .i64 ((IntKind.wrap .i64 (2*a3))+1))))) 0)) (AF (IntKind.wrap .i64 (a2+(IntKind.wrap .i64 ((IntKind.wrap .i64 (2*a3))+1))))) (AN a0 (AF (IntKind.wrap .i64 (a2+a3))) 0)),a1,a2,(IntKind.wrap .i64 ((IntKind.wrap .i64 (2*a3))+1)),()))
def Qo[Lk]:U5→Option (U9):=fun(a0,a1,a2,a3,_)=>
 match Aa HJ many (a0,a2,a3,a1,())with|none=>none|some r=>match r with
 |.inl (o0,_)=>some (o0,())
 |.inr r=>match r with
 |.inl (o1,_)=>some (o1,())
 |.inr _=>none
def W6[Lk]:=fun v=>Lk.f (Qo v)
theorem ACW v:W6 v=Qo v:=AJ _
abbrev AAi:AE:=[(.tmp 0,.own 3 U0),(.tmp 1,.di),(.tmp 2,.di)]
abbrev AAh:AE:=[(.obj 0,.own 3 U0)]
abbrev AAg:List RS:=[]
abbrev AEm:AE:=[(.obj 0,.own 3 U0),(.tmp 0,.own' 0),(.tmp 6,.di),(.tmp 7,.di),(.tmp 10,.di)]
abbrev AEk:A4:=[(.exit 2,[(.obj 0,.own 3 U0)])]
def HS[Lk]:U5→Option (U5⊕U9⊕Unit):=fun(a0,a1,a2,a3,_)=>
 match(ile 0 a3)with
 |true=>match idx a0 (IntKind.wrap .i64 (a1+a3))with|none=>none|some x0=>match idx a0 a1 with|none=>none|some x1=>match idx a0 a1 with|none=>none|some x2=>match idx (Aj a0 (AF a1) (AN a0 (AF (IntKind.wrap .i64 (a1+a3))) 0)) (IntKind.wrap .i64 (a1+a3))with|none=>none|some x3=>match W6 ((Aj (Aj a0 (AF a1) (AN a0 (AF (IntKind.wrap .i64 (a1+a3))) 0)) (AF (IntKind.wrap .i64 (a1+a3))) (AN a0 (AF a1) 0)),a2,a3,a1,())with|none=>none|some (y4,_)=>some (.inl (y4,a1,a2,(IntKind.wrap .i64 (a3-1)),()))
 |false=>some (.inr (.inl (a0,())))
abbrev AEn:AE:=[(.obj 0,.own 3 U0),(.tmp 0,.own' 0),(.tmp 6,.di),(.tmp 7,.di),(.tmp 8,.di),(.tmp 9,.di)]
abbrev AEl:A4:=[(.exit 0,[(.obj 0,.own 3 U0),(.tmp 0,.own' 0),(.tmp 6,.di),(.tmp 7,.di),(.tmp 8,.di)])]
def HT[Lk]:Ud→Option (Ud⊕U5⊕Unit):=fun(a0,a1,a2,a3,a4,_)=>
 match(ile 0 a4)with
 |true=>match W6 (a0,a4,a3,a1,())with|none=>none|some (y0,_)=>some (.inl (y0,a1,a2,a3,(IntKind.wrap .i64 (a4-1)),()))
 |false=>some (.inr (.inl (a0,a1,a2,a3,())))
def Q3[Lk]:Ue→Option (U9):=fun(a0,a1,a2,_)=>
 match quo? .i64 (IntKind.wrap .i64 ((IntKind.wrap .i64 (a2-a1))-1)) 2 with|none=>none|some x0=>match Aa HT many (a0,a1,0,(IntKind.wrap .i64 (a2-a1)),x0,())with|none=>none|some r=>match r with
 |.inl (o1,o2,o3,o4,_)=>match Aa HS many (o1,o2,o3,(IntKind.wrap .i64 (o4-1)),())with|none=>none|some r=>match r with
  |.inl (o5,_)=>some (o5,())
  |.inr _=>none
 |.inr _=>none
def Xi[Lk]:=fun v=>Lk.f (Q3 v)
theorem AEo v:Xi v=Q3 v:=AJ _
abbrev VJ:AE:=[(.tmp 0,.own 3 U0),(.tmp 1,.di),(.tmp 2,.di)]
abbrev VI:AE:=[(.obj 0,.own 3 U0)]
abbrev VH:List RS:=[]
abbrev Xv:AE:=[(.obj 0,.own 3 U0),(.tmp 0,.own' 0),(.tmp 1,.di),(.tmp 6,.di),(.tmp 7,.box 1),(.cell 1 0,.dat (.int .u64)),(.tmp 8,.dat (.int .u64)),(.tmp 9,.di)]
abbrev Xu:A4:=[(.exit 0,[(.obj 0,.own 3 U0)])]
def Ei[Lk]:Um→Option (Um⊕U9⊕Unit):=fun(a0,a1,a2,a3,a4,a5,_)=>
 match quo? .i64 a2 4 with|none=>none|some x0=>match(ile a5 (IntKind.wrap .i64 ((IntKind.wrap .i64 (a1+(IntKind.wrap .i64 (x0*2))))+1)))with
 |true=>match xorNext (a3,())with|none=>none|some (y1,y2,_)=>match(ile a2 (IntKind.wrap .i64 (IntKind.wrap .u64 ((BitVec.ofInt (IntKind.bits .u64) y2 &&& BitVec.ofInt (IntKind.bits .u64) (IntKind.wrap .u64 (a4-1))).toNat))))with
  |true=>match idx a0 (IntKind.wrap .i64 (a1+(IntKind.wrap .i64 ((IntKind.wrap .i64 (IntKind.wrap .u64 ((BitVec.ofInt (IntKind.bits .u64) y2 &&& BitVec.ofInt (IntKind.bits .u64) (IntKind.wrap .u64 (a4-1))).toNat)))-a2))))with|none=>none|some x3=>match idx a0 a5 with|none=>none|some x4=>match idx a0 a5 with|none=>none|some x5=>match idx (Aj a0 (AF a5) (AN a0 (AF (IntKind.wrap .i64 (a1+(IntKind.wrap .i64 ((IntKind.wrap .i64 (IntKind.wrap .u64 ((BitVec.ofInt (IntKind.bits .u64) y2 &&& BitVec.ofInt (IntKind.bits .u64) (IntKind.wrap .u64 (a4-1))).toNat)))-a2))))) 0)) (IntKind.wrap .i64 (a1+(IntKind.wrap .i64 ((IntKind.wrap .i64 (IntKind.wrap .u64 ((BitVec.ofInt (IntKind.bits .u64) y2 &&& BitVec.ofInt (IntKind.bits .u64) (IntKind.wrap .u64 (a4-1))).toNat)))-a2))))with|none=>none|some x6=>some (.inl ((Aj (Aj a0 (AF a5) (AN a0 (AF (IntKind.wrap .i64 (a1+(IntKind.wrap .i64 ((IntKind.wrap .i64 (IntKind.wrap .u64 ((BitVec.ofInt (IntKind.bits .u64) y2 &&& BitVec.ofInt (IntKind.bits .u64) (IntKind.wrap .u64 (a4-1))).toNat)))-a2))))) 0)) (AF (IntKind.wrap .i64 (a1+(IntKind.wrap .i64 ((IntKind.wrap .i64 (IntKind.wrap .u64 ((BitVec.ofInt (IntKind.bits .u64) y2 &&& BitVec.ofInt (IntKind.bits .u64) (IntKind.wrap .u64 (a4-1))).toNat)))-a2))))) (AN a0 (AF a5) 0)),a1,a2,y1,a4,(IntKind.wrap .i64 (a5+1)),()))
  |false=>match idx a0 (IntKind.wrap .i64 (a1+(IntKind.wrap .i64 (IntKind.wrap .u64 ((BitVec.ofInt (IntKind.bits .u64) y2 &&& BitVec.ofInt (IntKind.bits .u64) (IntKind.wrap .u64 (a4-1))).toNat)))))with|none=>none|some x7=>match idx a0 a5 with|none=>none|some x8=>match idx a0 a5 with|none=>none|some x9=>match idx (Aj a0 (AF a5) (AN a0 (AF (IntKind.wrap .i64 (a1+(IntKind.wrap .i64 (IntKind.wrap .u64 ((BitVec.ofInt (IntKind.bits .u64) y2 &&& BitVec.ofInt (IntKind.bits .u64) (IntKind.wrap .u64 (a4-1))).toNat)))))) 0)) (IntKind.wrap .i64 (a1+(IntKind.wrap .i64 (IntKind.wrap .u64 ((BitVec.ofInt (IntKind.bits .u64) y2 &&& BitVec.ofInt (IntKind.bits .u64) (IntKind.wrap .u64 (a4-1))).toNat)))))with|none=>none|some x10=>some (.inl ((Aj (Aj a0 (AF a5) (AN a0 (AF (IntKind.wrap .i64 (a1+(IntKind.wrap .i64 (IntKind.wrap .u64 ((BitVec.ofInt (IntKind.bits .u64) y2 &&& BitVec.ofInt (IntKind.bits .u64) (IntKind.wrap .u64 (a4-1))).toNat)))))) 0)) (AF (IntKind.wrap .i64 (a1+(IntKind.wrap .i64 (IntKind.wrap .u64 ((BitVec.ofInt (IntKind.bits .u64) y2 &&& BitVec.ofInt (IntKind.bits .u64) (IntKind.wrap .u64 (a4-1))).toNat)))))) (AN a0 (AF a5) 0)),a1,a2,y1,a4,(IntKind.wrap .i64 (a5+1)),()))
 |false=>some (.inr (.inl (a0,())))
def Mg[Lk]:Ue→Option (U9):=fun(a0,a1,a2,_)=>
 match(ile 8 (IntKind.wrap .i64 (a2-a1)))with
 |true=>match Jj ((IntKind.wrap .i64 (a2-a1)),())with|none=>none|some (y0,_)=>match quo? .i64 (IntKind.wrap .i64 (a2-a1)) 4 with|none=>none|some x1=>match Aa Ei many (a0,a1,(IntKind.wrap .i64 (a2-a1)),(IntKind.wrap .u64 (IntKind.wrap .i64 (a2-a1))),y0,(IntKind.wrap .i64 ((IntKind.wrap .i64 (a1+(IntKind.wrap .i64 (x1*2))))-1)),())with|none=>none|some r=>match r with
  |.inl (o2,_)=>some (o2,())
  |.inr _=>none
 |false=>some (a0,())
def Oe[Lk]:=fun v=>Lk.f (Mg v)
theorem Xw v:Oe v=Mg v:=AJ _
abbrev Nk:AE:=[(.tmp 0,.own 3 U0),(.tmp 1,.di),(.tmp 2,.di),(.tmp 3,.box 1),(.cell 1 0,.di)]
abbrev Nj:AE:=[(.obj 0,.own 3 U0),(.obj 1,.box 1),(.cell 1 0,.di),(.tmp 0,.di),(.tmp 1,.di)]
abbrev Ni:List RS:=[.one,.one]
def Je[Lk]:U5→Option (U5):=fun(a0,a1,a2,a3,_)=>
 match idx a0 a2 with|none=>none|some x0=>match idx a0 a1 with|none=>none|some x1=>match DM ((AN a0 (AF a2) 0),(AN a0 (AF a1) 0),())with|none=>none|some (y2,_)=>match y2 with
 |true=>some (a0,(IntKind.wrap .i64 (a3+1)),a2,a1,())
 |false=>some (a0,a3,a1,a2,())
def Hq[Lk]:=fun v=>Lk.f (Je v)
theorem S4 v:Hq v=Je v:=AJ _
abbrev Nv:AE:=[(.tmp 0,.own 3 U0),(.tmp 1,.di),(.tmp 2,.di),(.tmp 3,.di),(.tmp 4,.box 1),(.cell 1 0,.di)]
abbrev Nu:AE:=[(.obj 0,.own 3 U0),(.obj 1,.box 1),(.cell 1 0,.di),(.tmp 0,.di)]
abbrev Nt:List RS:=[.one]
def Jk[Lk]:Ud→Option (Ue):=fun(a0,a1,a2,a3,a4,_)=>
 match Hq (a0,a1,a2,a4,())with|none=>none|some (y0,y1,y2,y3,_)=>match Hq (y0,y3,a3,y1,())with|none=>none|some (y4,y5,y6,y7,_)=>match Hq (y4,y2,y6,y5,())with|none=>none|some (y8,y9,y10,y11,_)=>some (y8,y9,y11,())
def Hw[Lk]:=fun v=>Lk.f (Jk v)
theorem TA v:Hw v=Jk v:=AJ _
abbrev N1:AE:=[(.tmp 0,.own 3 U0),(.tmp 1,.di),(.tmp 2,.box 1),(.cell 1 0,.di)]
abbrev N0:AE:=[(.obj 0,.own 3 U0),(.obj 1,.box 1),(.cell 1 0,.di),(.tmp 0,.di)]
abbrev Nz:List RS:=[.one]
def Jn[Lk]:Ue→Option (Ue):=fun(a0,a1,a2,_)=>
 match Hw (a0,(IntKind.wrap .i64 (a1-1)),a1,(IntKind.wrap .i64 (a1+1)),a2,())with|none=>none|some (y0,y1,y2,_)=>some (y0,y1,y2,())
def Hx[Lk]:=fun v=>Lk.f (Jn v)
theorem TB v:Hx v=Jn v:=AJ _
abbrev SS:AE:=[(.tmp 0,.own 3 U0),(.tmp 1,.di),(.tmp 2,.di)]
abbrev SR:AE:=[(.obj 0,.own 3 U0),(.tmp 0,.di),(.tmp 1,.di)]
abbrev SQ:List RS:=[.one,.one]
def Lh[Lk]:Ue→Option (Ue):=fun(a0,a1,a2,_)=>
 match quo? .i64 (IntKind.wrap .i64 (a2-a1)) 4 with|none=>none|some x0=>match quo? .i64 (IntKind.wrap .i64 (a2-a1)) 4 with|none=>none|some x1=>match quo? .i64 (IntKind.wrap .i64 (a2-a1)) 4 with|none=>none|some x2=>match(ile 8 (IntKind.wrap .i64 (a2-a1)))with
 |true=>match(ile 50 (IntKind.wrap .i64 (a2-a1)))with
  |true=>match Hx (a0,(IntKind.wrap .i64 (a1+(IntKind.wrap .i64 (x0*1)))),0,())with|none=>none|some (y3,y4,y5,_)=>match Hx (y3,(IntKind.wrap .i64 (a1+(IntKind.wrap .i64 (x1*2)))),y4,())with|none=>none|some (y6,y7,y8,_)=>match Hx (y6,(IntKind.wrap .i64 (a1+(IntKind.wrap .i64 (x2*3)))),y7,())with|none=>none|some (y9,y10,y11,_)=>match Hw (y9,y5,y8,y11,y10,())with|none=>none|some (y12,y13,y14,_)=>match(ieq y13 0)with
   |true=>some (y12,y14,1,())
   |false=>match(ieq y13 12)with
   |true=>some (y12,y14,2,())
   |false=>some (y12,y14,0,())
  |false=>match Hw (a0,(IntKind.wrap .i64 (a1+(IntKind.wrap .i64 (x0*1)))),(IntKind.wrap .i64 (a1+(IntKind.wrap .i64 (x1*2)))),(IntKind.wrap .i64 (a1+(IntKind.wrap .i64 (x2*3)))),0,())with|none=>none|some (y15,y16,y17,_)=>match(ieq y16 0)with
  |true=>some (y15,y17,1,())
  |false=>match(ieq y16 12)with
  |true=>some (y15,y17,2,())
  |false=>some (y15,y17,0,())
 |false=>match(ieq 0 0)with
 |true=>some (a0,(IntKind.wrap .i64 (a1+(IntKind.wrap .i64 (x1*2)))),1,())
 |false=>match(ieq 0 12)with
 |true=>some (a0,(IntKind.wrap .i64 (a1+(IntKind.wrap .i64 (x1*2)))),2,())
 |false=>some (a0,(IntKind.wrap .i64 (a1+(IntKind.wrap .i64 (x1*2)))),0,())
def NV[Lk]:=fun v=>Lk.f (Lh v)
theorem XJ v:NV v=Lh v:=AJ _
abbrev AGh:AE:=[(.tmp 0,.own 3 U0),(.tmp 1,.di),(.tmp 2,.di)]
abbrev AGg:AE:=[(.obj 0,.own 3 U0)]
abbrev AGf:List RS:=[]
abbrev AJv:AE:=[(.obj 0,.own 3 U0),(.tmp 0,.own' 0),(.tmp 6,.di),(.tmp 7,.di)]
abbrev AJu:A4:=[(.exit 0,[(.obj 0,.own 3 U0)])]
def Le[Lk]:Ue→Option (Ue⊕U9⊕Unit):=fun(a0,a1,a2,_)=>
 match(ilt a1 a2)with
 |true=>match idx a0 a2 with|none=>none|some x0=>match idx a0 a1 with|none=>none|some x1=>match idx a0 a1 with|none=>none|some x2=>match idx (Aj a0 (AF a1) (AN a0 (AF a2) 0)) a2 with|none=>none|some x3=>some (.inl ((Aj (Aj a0 (AF a1) (AN a0 (AF a2) 0)) (AF a2) (AN a0 (AF a1) 0)),(IntKind.wrap .i64 (a1+1)),(IntKind.wrap .i64 (a2-1)),()))
 |false=>some (.inr (.inl (a0,())))
def ZB[Lk]:Ue→Option (U9):=fun(a0,a1,a2,_)=>
 match Aa Le many (a0,a1,(IntKind.wrap .i64 (a2-1)),())with|none=>none|some r=>match r with
 |.inl (o0,_)=>some (o0,())
 |.inr _=>none
def ALd[Lk]:=fun v=>Lk.f (ZB v)
theorem AJw v:ALd v=ZB v:=AJ _
abbrev Ki:AE:=[(.tmp 0,.own 3 U0),(.tmp 1,.di),(.tmp 2,.di)]
abbrev Kh:AE:=[(.obj 0,.own 3 U0),(.tmp 0,.dat .bool)]
abbrev Kg:List RS:=[.one]
abbrev Pa:AE:=[(.obj 0,.own 3 U0),(.tmp 0,.own' 0),(.tmp 1,.di),(.tmp 2,.di),(.tmp 7,.di),(.tmp 8,.di),(.tmp 10,.di)]
abbrev PW:A4:=[(.exit 6,[(.obj 0,.own 3 U0),(.tmp 0,.own' 0),(.tmp 1,.di),(.tmp 2,.di),(.tmp 7,.di),(.tmp 8,.di)])]
def Dl[Lk]:Um→Option (Um⊕Ud⊕Unit):=fun(a0,a1,a2,a3,a4,a5,_)=>
 match(ilt a5 a2)with
 |true=>match idx a0 a5 with|none=>none|some x0=>match idx a0 (IntKind.wrap .i64 (a5-1))with|none=>none|some x1=>match DM ((AN a0 (AF a5) 0),(AN a0 (AF (IntKind.wrap .i64 (a5-1))) 0),())with|none=>none|some (y2,_)=>match(!y2)with
  |true=>some (.inr (.inl (a0,a1,a2,a3,a4,())))
  |false=>match idx a0 (IntKind.wrap .i64 (a5-1))with|none=>none|some x3=>match idx a0 a5 with|none=>none|some x4=>match idx a0 a5 with|none=>none|some x5=>match idx (Aj a0 (AF a5) (AN a0 (AF (IntKind.wrap .i64 (a5-1))) 0)) (IntKind.wrap .i64 (a5-1))with|none=>none|some x6=>some (.inl ((Aj (Aj a0 (AF a5) (AN a0 (AF (IntKind.wrap .i64 (a5-1))) 0)) (AF (IntKind.wrap .i64 (a5-1))) (AN a0 (AF a5) 0)),a1,a2,a3,a4,(IntKind.wrap .i64 (a5+1)),()))
 |false=>some (.inr (.inl (a0,a1,a2,a3,a4,())))
abbrev Pb:AE:=[(.obj 0,.own 3 U0),(.tmp 0,.own' 0),(.tmp 1,.di),(.tmp 2,.di),(.tmp 7,.di),(.tmp 8,.di),(.tmp 9,.di)]
abbrev PX:A4:=[(.exit 4,[(.obj 0,.own 3 U0),(.tmp 0,.own' 0),(.tmp 1,.di),(.tmp 2,.di),(.tmp 7,.di),(.tmp 8,.di)])]
def Dm[Lk]:Um→Option (Um⊕Ud⊕Unit):=fun(a0,a1,a2,a3,a4,a5,_)=>
 match(ile 1 a5)with
 |true=>match idx a0 a5 with|none=>none|some x0=>match idx a0 (IntKind.wrap .i64 (a5-1))with|none=>none|some x1=>match DM ((AN a0 (AF a5) 0),(AN a0 (AF (IntKind.wrap .i64 (a5-1))) 0),())with|none=>none|some (y2,_)=>match(!y2)with
  |true=>some (.inr (.inl (a0,a1,a2,a3,a4,())))
  |false=>match idx a0 (IntKind.wrap .i64 (a5-1))with|none=>none|some x3=>match idx a0 a5 with|none=>none|some x4=>match idx a0 a5 with|none=>none|some x5=>match idx (Aj a0 (AF a5) (AN a0 (AF (IntKind.wrap .i64 (a5-1))) 0)) (IntKind.wrap .i64 (a5-1))with|none=>none|some x6=>some (.inl ((Aj (Aj a0 (AF a5) (AN a0 (AF (IntKind.wrap .i64 (a5-1))) 0)) (AF (IntKind.wrap .i64 (a5-1))) (AN a0 (AF a5) 0)),a1,a2,a3,a4,(IntKind.wrap .i64 (a5-1)),()))
 |false=>some (.inr (.inl (a0,a1,a2,a3,a4,())))
abbrev Pc:AE:=[(.obj 0,.own 3 U0),(.tmp 0,.own' 0),(.tmp 1,.di),(.tmp 2,.di),(.tmp 7,.di),(.tmp 8,.di)]
abbrev PY:A4:=[(.exit 2,[(.obj 0,.own 3 U0),(.tmp 0,.own' 0),(.tmp 1,.di),(.tmp 2,.di),(.tmp 7,.di),(.tmp 8,.di)])]
def E2[Lk]:Ud→Option (Ud⊕Ud⊕Unit):=fun(a0,a1,a2,a3,a4,_)=>
 match(ilt a3 a2)with
 |true=>match idx a0 a3 with|none=>none|some x0=>match idx a0 (IntKind.wrap .i64 (a3-1))with|none=>none|some x1=>match DM ((AN a0 (AF a3) 0),(AN a0 (AF (IntKind.wrap .i64 (a3-1))) 0),())with|none=>none|some (y2,_)=>match(!y2)with
  |true=>some (.inl (a0,a1,a2,(IntKind.wrap .i64 (a3+1)),a4,()))
  |false=>some (.inr (.inl (a0,a1,a2,a3,a4,())))
 |false=>some (.inr (.inl (a0,a1,a2,a3,a4,())))
abbrev Pd:AE:=[(.obj 0,.own 3 U0),(.tmp 0,.own' 0),(.tmp 1,.di),(.tmp 2,.di),(.tmp 7,.di),(.tmp 8,.di)]
abbrev PZ:A4:=[(.ret,[(.obj 0,.own 3 U0),(.tmp 6,.dat .bool)]),(.exit 0,[(.obj 0,.own 3 U0)])]
def B2[Lk]:Ud→Option (Ud⊕(List Int×Bool×Unit)⊕U9⊕Unit):=fun(a0,a1,a2,a3,a4,_)=>
 match(ilt a4 5)with
 |true=>match Aa E2 many (a0,a1,a2,a3,a4,())with|none=>none|some r=>match r with
  |.inl (o0,o1,o2,o3,o4,_)=>match(ieq o3 o2)with
   |true=>some (.inr (.inl (o0,true,())))
   |false=>match(ilt (IntKind.wrap .i64 (o2-o1)) 50)with
   |true=>some (.inr (.inl (o0,false,())))
   |false=>match idx o0 (IntKind.wrap .i64 (o3-1))with|none=>none|some x5=>match idx o0 o3 with|none=>none|some x6=>match idx o0 o3 with|none=>none|some x7=>match idx (Aj o0 (AF o3) (AN o0 (AF (IntKind.wrap .i64 (o3-1))) 0)) (IntKind.wrap .i64 (o3-1))with|none=>none|some x8=>match(ile 2 (IntKind.wrap .i64 (o3-o1)))with
   |true=>match Aa Dm many ((Aj (Aj o0 (AF o3) (AN o0 (AF (IntKind.wrap .i64 (o3-1))) 0)) (AF (IntKind.wrap .i64 (o3-1))) (AN o0 (AF o3) 0)),o1,o2,o3,o4,(IntKind.wrap .i64 (o3-1)),())with|none=>none|some r=>match r with
    |.inl (o9,o10,o11,o12,o13,_)=>match(ile 2 (IntKind.wrap .i64 (o11-o12)))with
     |true=>match Aa Dl many (o9,o10,o11,o12,o13,(IntKind.wrap .i64 (o12+1)),())with|none=>none|some r=>match r with
      |.inl (o14,o15,o16,o17,o18,_)=>some (.inl (o14,o15,o16,o17,(IntKind.wrap .i64 (o18+1)),()))
      |.inr _=>none
     |false=>some (.inl (o9,o10,o11,o12,(IntKind.wrap .i64 (o13+1)),()))
    |.inr _=>none
   |false=>match(ile 2 (IntKind.wrap .i64 (o2-o3)))with
   |true=>match Aa Dl many ((Aj (Aj o0 (AF o3) (AN o0 (AF (IntKind.wrap .i64 (o3-1))) 0)) (AF (IntKind.wrap .i64 (o3-1))) (AN o0 (AF o3) 0)),o1,o2,o3,o4,(IntKind.wrap .i64 (o3+1)),())with|none=>none|some r=>match r with
    |.inl (o19,o20,o21,o22,o23,_)=>some (.inl (o19,o20,o21,o22,(IntKind.wrap .i64 (o23+1)),()))
    |.inr _=>none
   |false=>some (.inl ((Aj (Aj o0 (AF o3) (AN o0 (AF (IntKind.wrap .i64 (o3-1))) 0)) (AF (IntKind.wrap .i64 (o3-1))) (AN o0 (AF o3) 0)),o1,o2,o3,(IntKind.wrap .i64 (o4+1)),()))
  |.inr _=>none
 |false=>some (.inr (.inr (.inl (a0,()))))
def Hl[Lk]:Ue→Option ((List Int×Bool×Unit)):=fun(a0,a1,a2,_)=>
 match Aa B2 many (a0,a1,a2,(IntKind.wrap .i64 (a1+1)),0,())with|none=>none|some r=>match r with
 |.inl (o0,o1,_)=>some (o0,o1,())
 |.inr r=>match r with
 |.inl (o2,_)=>some (o2,false,())
 |.inr _=>none
def HN[Lk]:=fun v=>Lk.f (Hl v)
theorem Pe v:HN v=Hl v:=AJ _
abbrev Nd:AE:=[(.tmp 0,.own 3 U0),(.tmp 1,.di),(.tmp 2,.di),(.tmp 3,.di)]
abbrev Nc:AE:=[(.obj 0,.own 3 U0),(.tmp 0,.di)]
abbrev Nb:List RS:=[.one]
abbrev Sy:AE:=[(.obj 0,.own 3 U0),(.tmp 0,.own' 0),(.tmp 1,.di),(.tmp 9,.di),(.tmp 10,.di)]
abbrev Sv:A4:=[(.exit 4,[(.obj 0,.own 3 U0),(.tmp 0,.own' 0),(.tmp 1,.di),(.tmp 9,.di),(.tmp 10,.di)])]
def F7[Lk]:U5→Option Ux:=fun(a0,a1,a2,a3,_)=>
 match(ile a2 a3)with
 |true=>match idx a0 a1 with|none=>none|some x0=>match idx a0 a3 with|none=>none|some x1=>match DM ((AN a0 (AF a1) 0),(AN a0 (AF a3) 0),())with|none=>none|some (y2,_)=>match y2 with
  |true=>some (.inl (a0,a1,a2,(IntKind.wrap .i64 (a3-1)),()))
  |false=>some (.inr (.inl (a0,a1,a2,a3,())))
 |false=>some (.inr (.inl (a0,a1,a2,a3,())))
abbrev S0:AE:=[(.obj 0,.own 3 U0),(.tmp 0,.own' 0),(.tmp 1,.di),(.tmp 9,.di),(.tmp 10,.di)]
abbrev Sw:A4:=[(.exit 2,[(.obj 0,.own 3 U0),(.tmp 0,.own' 0),(.tmp 1,.di),(.tmp 9,.di),(.tmp 10,.di)])]
def F8[Lk]:U5→Option Ux:=fun(a0,a1,a2,a3,_)=>
 match(ile a2 a3)with
 |true=>match idx a0 a1 with|none=>none|some x0=>match idx a0 a2 with|none=>none|some x1=>match DM ((AN a0 (AF a1) 0),(AN a0 (AF a2) 0),())with|none=>none|some (y2,_)=>match(!y2)with
  |true=>some (.inl (a0,a1,(IntKind.wrap .i64 (a2+1)),a3,()))
  |false=>some (.inr (.inl (a0,a1,a2,a3,())))
 |false=>some (.inr (.inl (a0,a1,a2,a3,())))
abbrev S1:AE:=[(.obj 0,.own 3 U0),(.tmp 0,.own' 0),(.tmp 1,.di),(.tmp 9,.di),(.tmp 10,.di)]
abbrev Sx:A4:=[(.exit 0,[(.obj 0,.own 3 U0),(.tmp 9,.di)])]
def F9[Lk]:U5→Option (U5⊕Ur⊕Unit):=fun(a0,a1,a2,a3,_)=>
 match Aa F8 many (a0,a1,a2,a3,())with|none=>none|some r=>match r with
 |.inl (o0,o1,o2,o3,_)=>match Aa F7 many (o0,o1,o2,o3,())with|none=>none|some r=>match r with
  |.inl (o4,o5,o6,o7,_)=>match(ilt o7 o6)with
   |true=>some (.inr (.inl (o4,o6,())))
   |false=>match idx o4 o7 with|none=>none|some x8=>match idx o4 o6 with|none=>none|some x9=>match idx o4 o6 with|none=>none|some x10=>match idx (Aj o4 (AF o6) (AN o4 (AF o7) 0)) o7 with|none=>none|some x11=>some (.inl ((Aj (Aj o4 (AF o6) (AN o4 (AF o7) 0)) (AF o7) (AN o4 (AF o6) 0)),o5,(IntKind.wrap .i64 (o6+1)),(IntKind.wrap .i64 (o7-1)),()))
  |.inr _=>none
 |.inr _=>none
def Jb[Lk]:U5→Option (Ur):=fun(a0,a1,a2,a3,_)=>
 match idx a0 a3 with|none=>none|some x0=>match idx a0 a1 with|none=>none|some x1=>match idx a0 a1 with|none=>none|some x2=>match idx (Aj a0 (AF a1) (AN a0 (AF a3) 0)) a3 with|none=>none|some x3=>match Aa F9 many ((Aj (Aj a0 (AF a1) (AN a0 (AF a3) 0)) (AF a3) (AN a0 (AF a1) 0)),a1,(IntKind.wrap .i64 (a1+1)),(IntKind.wrap .i64 (a2-1)),())with|none=>none|some r=>match r with
 |.inl (o4,o5,_)=>some (o4,o5,())
 |.inr _=>none
def Jc[Lk]:=fun v=>Lk.f (Jb v)
theorem S2 v:Jc v=Jb v:=AJ _
abbrev Ze:AE:=[(.tmp 0,.own 3 U0),(.tmp 1,.di),(.tmp 2,.di),(.tmp 3,.di)]
abbrev Zd:AE:=[(.obj 0,.own 3 U0),(.tmp 0,.di),(.tmp 1,.dat .bool)]
abbrev Zc:List RS:=[.one,.one]
abbrev ADo:AE:=[(.obj 0,.own 3 U0),(.tmp 0,.own' 0),(.tmp 1,.di),(.tmp 10,.di),(.tmp 11,.di)]
abbrev ADj:A4:=[(.exit 8,[(.obj 0,.own 3 U0),(.tmp 0,.own' 0),(.tmp 1,.di),(.tmp 10,.di),(.tmp 11,.di)])]
def Ir[Lk]:U5→Option Ux:=fun(a0,a1,a2,a3,_)=>
 match(ile a2 a3)with
 |true=>match idx a0 a3 with|none=>none|some x0=>match idx a0 a1 with|none=>none|some x1=>match DM ((AN a0 (AF a3) 0),(AN a0 (AF a1) 0),())with|none=>none|some (y2,_)=>match(!y2)with
  |true=>some (.inl (a0,a1,a2,(IntKind.wrap .i64 (a3-1)),()))
  |false=>some (.inr (.inl (a0,a1,a2,a3,())))
 |false=>some (.inr (.inl (a0,a1,a2,a3,())))
abbrev ADp:AE:=[(.obj 0,.own 3 U0),(.tmp 0,.own' 0),(.tmp 1,.di),(.tmp 10,.di),(.tmp 11,.di)]
abbrev ADk:A4:=[(.exit 6,[(.obj 0,.own 3 U0),(.tmp 0,.own' 0),(.tmp 1,.di),(.tmp 10,.di),(.tmp 11,.di)])]
def Is[Lk]:U5→Option Ux:=fun(a0,a1,a2,a3,_)=>
 match(ile a2 a3)with
 |true=>match idx a0 a2 with|none=>none|some x0=>match idx a0 a1 with|none=>none|some x1=>match DM ((AN a0 (AF a2) 0),(AN a0 (AF a1) 0),())with|none=>none|some (y2,_)=>match y2 with
  |true=>some (.inl (a0,a1,(IntKind.wrap .i64 (a2+1)),a3,()))
  |false=>some (.inr (.inl (a0,a1,a2,a3,())))
 |false=>some (.inr (.inl (a0,a1,a2,a3,())))
abbrev ADq:AE:=[(.obj 0,.own 3 U0),(.tmp 0,.own' 0),(.tmp 1,.di),(.tmp 10,.di),(.tmp 11,.di)]
abbrev ADl:A4:=[(.exit 4,[(.obj 0,.own 3 U0),(.tmp 0,.own' 0),(.tmp 1,.di),(.tmp 11,.di)])]
def It[Lk]:U5→Option (U5⊕Ue⊕Unit):=fun(a0,a1,a2,a3,_)=>
 match Aa Is many (a0,a1,a2,a3,())with|none=>none|some r=>match r with
 |.inl (o0,o1,o2,o3,_)=>match Aa Ir many (o0,o1,o2,o3,())with|none=>none|some r=>match r with
  |.inl (o4,o5,o6,o7,_)=>match(ilt o7 o6)with
   |true=>some (.inr (.inl (o4,o5,o7,())))
   |false=>match idx o4 o7 with|none=>none|some x8=>match idx o4 o6 with|none=>none|some x9=>match idx o4 o6 with|none=>none|some x10=>match idx (Aj o4 (AF o6) (AN o4 (AF o7) 0)) o7 with|none=>none|some x11=>some (.inl ((Aj (Aj o4 (AF o6) (AN o4 (AF o7) 0)) (AF o7) (AN o4 (AF o6) 0)),o5,(IntKind.wrap .i64 (o6+1)),(IntKind.wrap .i64 (o7-1)),()))
  |.inr _=>none
 |.inr _=>none
abbrev ADr:AE:=[(.obj 0,.own 3 U0),(.tmp 0,.own' 0),(.tmp 1,.di),(.tmp 10,.di),(.tmp 11,.di)]
abbrev ADm:A4:=[(.exit 2,[(.obj 0,.own 3 U0),(.tmp 0,.own' 0),(.tmp 1,.di),(.tmp 10,.di),(.tmp 11,.di)])]
def Iu[Lk]:U5→Option Ux:=fun(a0,a1,a2,a3,_)=>
 match(ile a2 a3)with
 |true=>match idx a0 a3 with|none=>none|some x0=>match idx a0 a1 with|none=>none|some x1=>match DM ((AN a0 (AF a3) 0),(AN a0 (AF a1) 0),())with|none=>none|some (y2,_)=>match(!y2)with
  |true=>some (.inl (a0,a1,a2,(IntKind.wrap .i64 (a3-1)),()))
  |false=>some (.inr (.inl (a0,a1,a2,a3,())))
 |false=>some (.inr (.inl (a0,a1,a2,a3,())))
abbrev ADs:AE:=[(.obj 0,.own 3 U0),(.tmp 0,.own' 0),(.tmp 1,.di),(.tmp 10,.di),(.tmp 11,.di)]
abbrev ADn:A4:=[(.exit 0,[(.obj 0,.own 3 U0),(.tmp 0,.own' 0),(.tmp 1,.di),(.tmp 10,.di),(.tmp 11,.di)])]
def Iv[Lk]:U5→Option Ux:=fun(a0,a1,a2,a3,_)=>
 match(ile a2 a3)with
 |true=>match idx a0 a2 with|none=>none|some x0=>match idx a0 a1 with|none=>none|some x1=>match DM ((AN a0 (AF a2) 0),(AN a0 (AF a1) 0),())with|none=>none|some (y2,_)=>match y2 with
  |true=>some (.inl (a0,a1,(IntKind.wrap .i64 (a2+1)),a3,()))
  |false=>some (.inr (.inl (a0,a1,a2,a3,())))
 |false=>some (.inr (.inl (a0,a1,a2,a3,())))
def Qt[Lk]:U5→Option ((List Int×Int×Bool×Unit)):=fun(a0,a1,a2,a3,_)=>
 match idx a0 a3 with|none=>none|some x0=>match idx a0 a1 with|none=>none|some x1=>match idx a0 a1 with|none=>none|some x2=>match idx (Aj a0 (AF a1) (AN a0 (AF a3) 0)) a3 with|none=>none|some x3=>match Aa Iv many ((Aj (Aj a0 (AF a1) (AN a0 (AF a3) 0)) (AF a3) (AN a0 (AF a1) 0)),a1,(IntKind.wrap .i64 (a1+1)),(IntKind.wrap .i64 (a2-1)),())with|none=>none|some r=>match r with
 |.inl (o4,o5,o6,o7,_)=>match Aa Iu many (o4,o5,o6,o7,())with|none=>none|some r=>match r with
  |.inl (o8,o9,o10,o11,_)=>match(ilt o11 o10)with
   |true=>match idx o8 o9 with|none=>none|some x12=>match idx o8 o11 with|none=>none|some x13=>match idx o8 o11 with|none=>none|some x14=>match idx (Aj o8 (AF o11) (AN o8 (AF o9) 0)) o9 with|none=>none|some x15=>some ((Aj (Aj o8 (AF o11) (AN o8 (AF o9) 0)) (AF o9) (AN o8 (AF o11) 0)),o11,true,())
   |false=>match idx o8 o11 with|none=>none|some x16=>match idx o8 o10 with|none=>none|some x17=>match idx o8 o10 with|none=>none|some x18=>match idx (Aj o8 (AF o10) (AN o8 (AF o11) 0)) o11 with|none=>none|some x19=>match Aa It many ((Aj (Aj o8 (AF o10) (AN o8 (AF o11) 0)) (AF o11) (AN o8 (AF o10) 0)),o9,(IntKind.wrap .i64 (o10+1)),(IntKind.wrap .i64 (o11-1)),())with|none=>none|some r=>match r with
   |.inl (o20,o21,o22,_)=>match idx o20 o21 with|none=>none|some x23=>match idx o20 o22 with|none=>none|some x24=>match idx o20 o22 with|none=>none|some x25=>match idx (Aj o20 (AF o22) (AN o20 (AF o21) 0)) o21 with|none=>none|some x26=>some ((Aj (Aj o20 (AF o22) (AN o20 (AF o21) 0)) (AF o21) (AN o20 (AF o22) 0)),o22,false,())
   |.inr _=>none
  |.inr _=>none
 |.inr _=>none
def Lo[Lk]:=fun v=>Lk.f (Qt v)
theorem ADt v:Lo v=Qt v:=AJ _
abbrev Sa:AE:=[(.tmp 0,.own 3 U0),(.tmp 1,.di),(.tmp 2,.di),(.tmp 3,.di)]
abbrev SZ:AE:=[(.obj 0,.own 3 U0)]
abbrev SY:List RS:=[]
abbrev AJ2:AE:=[(.obj 0,.own 3 U0),(.tmp 0,.own' 0),(.tmp 1,.di),(.tmp 2,.di),(.tmp 3,.di),(.tmp 8,.dat .bool),(.tmp 9,.dat .bool)]
abbrev AJ1:A4:=[(.ret,[(.obj 0,.own 3 U0)])]
def ZO[Lk](self:U5→Option (U9))(y7:List Int)(a1 a2 p l:Int)(a4 a5:Bool):Option (Up⊕U9⊕Unit):=
 match(ilt 0 a1)with
 |true=>match idx y7 (IntKind.wrap .i64 (a1-1))with|none=>none|some x9=>match idx y7 p with|none=>none|some x10=>match DM ((AN y7 (AF (IntKind.wrap .i64 (a1-1))) 0),(AN y7 (AF p) 0),())with|none=>none|some (y11,_)=>match(!y11)with
  |true=>match Jc (y7,a1,a2,p,())with|none=>none|some (y12,y13,_)=>some (.inl (y12,y13,a2,l,a4,a5,()))
  |false=>match Lo (y7,a1,a2,p,())with|none=>none|some (y14,y15,y16,_)=>match quo? .i64 (IntKind.wrap .i64 (a2-a1)) 8 with|none=>none|some x17=>match(ilt (IntKind.wrap .i64 (y15-a1)) (IntKind.wrap .i64 (a2-y15)))with
  |true=>match self (y14,a1,y15,l,())with|none=>none|some (y18,_)=>some (.inl (y18,(IntKind.wrap .i64 (y15+1)),a2,l,(ile x17 (IntKind.wrap .i64 (y15-a1))),y16,()))
  |false=>match self (y14,(IntKind.wrap .i64 (y15+1)),a2,l,())with|none=>none|some (y19,_)=>some (.inl (y19,a1,y15,l,(ile x17 (IntKind.wrap .i64 (a2-y15))),y16,()))
 |false=>match Lo (y7,a1,a2,p,())with|none=>none|some (y20,y21,y22,_)=>match quo? .i64 (IntKind.wrap .i64 (a2-a1)) 8 with|none=>none|some x23=>match(ilt (IntKind.wrap .i64 (y21-a1)) (IntKind.wrap .i64 (a2-y21)))with
 |true=>match self (y20,a1,y21,l,())with|none=>none|some (y24,_)=>some (.inl (y24,(IntKind.wrap .i64 (y21+1)),a2,l,(ile x23 (IntKind.wrap .i64 (y21-a1))),y22,()))
 |false=>match self (y20,(IntKind.wrap .i64 (y21+1)),a2,l,())with|none=>none|some (y25,_)=>some (.inl (y25,a1,y21,l,(ile x23 (IntKind.wrap .i64 (a2-y21))),y22,()))
def APB[Lk](self:U5→Option (U9))(y6:List Int)(a1 a2 p h l:Int)(a4 a5:Bool):Option (Up⊕U9⊕Unit):=
 match a4 with
 |true=>match a5 with
  |true=>match(ieq h 1)with
   |true=>match HN (y6,a1,a2,())with|none=>none|some (y7,y8,_)=>match y8 with
    |true=>some (.inr (.inl (y7,())))
    |false=>ZO self y7 a1 a2 p l a4 a5
   |false=>ZO self y6 a1 a2 p l a4 a5
  |false=>ZO self y6 a1 a2 p l a4 a5
 |false=>ZO self y6 a1 a2 p l a4 a5
def APA[Lk](self:U5→Option (U9))(y2:List Int)(a1 a2 l:Int)(a4 a5:Bool):Option (Up⊕U9⊕Unit):=
 match NV (y2,a1,a2,())with|none=>none|some (y3,y4,y5,_)=>match(ieq y5 2)with
 |true=>match ALd (y3,a1,a2,())with|none=>none|some (y6,_)=>APB self y6 a1 a2 (IntKind.wrap .i64 ((IntKind.wrap .i64 (a2-1))-(IntKind.wrap .i64 (y4-a1)))) 1 l a4 a5
 |false=>APB self y3 a1 a2 y4 y5 l a4 a5
def Ja[Lk](self:U5→Option (U9)):Up→Option (Up⊕U9⊕Unit):=fun(a0,a1,a2,a3,a4,a5,_)=>
 match(ile (IntKind.wrap .i64 (a2-a1)) 12)with
 |true=>match AMm (a0,a1,a2,())with|none=>none|some (y0,_)=>some (.inr (.inl (y0,())))
 |false=>match(ieq a3 0)with
 |true=>match Xi (a0,a1,a2,())with|none=>none|some (y1,_)=>some (.inr (.inl (y1,())))
 |false=>match(!a4)with
 |true=>match Oe (a0,a1,a2,())with|none=>none|some (y2,_)=>APA self y2 a1 a2 (IntKind.wrap .i64 (a3-1)) a4 a5
 |false=>APA self a0 a1 a2 a3 a4 a5
def ZP[Lk](self:U5→Option (U9)):U5→Option (U9):=fun(a0,a1,a2,a3,_)=>
 match Aa (Ja self) many (a0,a1,a2,a3,true,true,())with|none=>none|some r=>match r with
 |.inl (o0,_)=>some (o0,())
 |.inr _=>none
def F6[Lk]:Nat→U5→Option (U9)
 |0,_=>none
 |n+1,v=>ZP (F6 n) v
def APC[Lk]:=fun v=>Lk.f (F6 100 v)
theorem ARv v:APC v=F6 100 v:=AJ _
abbrev Yp:AE:=[(.tmp 0,.own 3 U0)]
abbrev Yo:AE:=[(.obj 0,.own 3 U0)]
abbrev Yn:List RS:=[]
def Yq[Lk]:U9→Option (U9):=fun(a0,_)=>
 match bitsLen ((IntKind.wrap .u64 (AQ a0)),())with|none=>none|some (y0,_)=>match APC (a0,0,(AQ a0),y0,())with|none=>none|some (y1,_)=>some (y1,())
def AJo[Lk]:=fun v=>Lk.f (Yq v)
theorem AOW v:AJo v=Yq v:=AJ _
abbrev UC:AE:=[(.tmp 0,.dat U1),(.tmp 1,.dat U1)]
abbrev UB:AE:=[(.tmp 0,.dat .bool)]
abbrev UA:List RS:=[.one]
abbrev Xn:AE:=[(.tmp 0,.dat U1),(.tmp 1,.dat U1),(.tmp 12,.di),(.tmp 13,.di)]
abbrev Xm:A4:=[(.ret,[(.tmp 4,.dat .bool)]),(.exit 0,[])]
def OS[Lk]:(List U3×List U3×Int×Int×Unit)→Option ((List U3×List U3×Int×Int×Unit)⊕Uh⊕(Unit)⊕Unit):=fun(a0,a1,a2,a3,_)=>
 match(ilt a3 a2)with
 |true=>match idx a0 a3 with|none=>none|some x0=>match idx a1 a3 with|none=>none|some x1=>match(!(ieq x0.1 x1.1&&(ieq x0.2.1 x1.2.1&&(ieq x0.2.2.1 x1.2.2.1&&((x0.2.2.2.1==x1.2.2.2.1)&&true)))))with
  |true=>some (.inr (.inl (false,())))
  |false=>some (.inl (a0,a1,a2,(IntKind.wrap .i64 (a3+1)),()))
 |false=>some (.inr (.inr (.inl ())))
def UE[Lk]:(List U3×List U3×Unit)→Option (Uh):=fun(a0,a1,_)=>
 match(!(ieq (AQ a0) (AQ a1)))with
 |true=>some (false,())
 |false=>match Aa OS many (a0,a1,(AQ a0),0,())with|none=>none|some r=>match r with
 |.inl (o0,_)=>some (o0,())
 |.inr r=>match r with
 |.inl _=>some (true,())
 |.inr _=>none
def AAy[Lk]:=fun v=>Lk.f (UE v)
theorem ANJ v:AAy v=UE v:=AJ _
abbrev Z5:AE:=[(.tmp 0,.dat Ui),(.tmp 1,.dat Ui)]
abbrev Z4:AE:=[(.tmp 0,.dat .bool)]
abbrev Z3:List RS:=[.one]
def Z6[Lk]:(Uj×Uj×Unit)→Option (Uh):=fun(a0,a1,_)=>
 match(ieq a0.1 a1.1)with
 |true=>match AAy (a0.2.1,a1.2.1,())with|none=>none|some (y0,_)=>some (y0,())
 |false=>some (false,())
def AKH[Lk]:=fun v=>Lk.f (Z6 v)
theorem APv v:AKH v=Z6 v:=AJ _
abbrev AJR:AE:=[(.tmp 0,.dat U1),(.tmp 1,.dat Uu),(.tmp 2,.clo 25 [])]
abbrev AJQ:AE:=[(.tmp 0,.di),(.tmp 1,.dat .bool)]
abbrev AJP:List RS:=[.one,.one]
abbrev AKq:AE:=[(.tmp 0,.dat U1),(.tmp 2,.clo 25 []),(.tmp 4,.box 4),(.cell 0 0,.di),(.cell 0 1,.di),(.cell 0 2,.di),(.cell 0 3,.dat .bool),(.tmp 8,.di),(.tmp 9,.di),(.tmp 10,.di)]
abbrev AKp:A4:=[(.exit 0,[(.tmp 0,.dat U1),(.tmp 2,.clo 25 []),(.tmp 4,.box 4),(.cell 0 0,.di),(.cell 0 1,.di),(.cell 0 2,.di),(.cell 0 3,.dat .bool),(.tmp 8,.di),(.tmp 9,.di)])]
def IB[Lk]:(List U3×Int×Int×Int×Bool×Int×Int×Int×Unit)→Option ((List U3×Int×Int×Int×Bool×Int×Int×Int×Unit)⊕(List U3×Int×Int×Int×Bool×Int×Int×Unit)⊕Unit):=fun(a0,a1,a2,a3,a4,a5,a6,a7,_)=>
 match(ilt a6 a7)with
 |true=>match shr? .u64 (IntKind.wrap .u64 (IntKind.wrap .i64 (a6+a7))) 1 with|none=>none|some x0=>match idx a0 (IntKind.wrap .i64 x0)with|none=>none|some x1=>match Cy ((x1.1,(x1.2.1,(x1.2.2.1,(x1.2.2.2.1,())))),(a1,(a2,(a3,(a4,())))),())with|none=>none|some (y2,_)=>match(ilt y2 0)with
  |true=>some (.inl (a0,a1,a2,a3,a4,a5,(IntKind.wrap .i64 ((IntKind.wrap .i64 x0)+1)),a7,()))
  |false=>some (.inl (a0,a1,a2,a3,a4,a5,a6,(IntKind.wrap .i64 x0),()))
 |false=>some (.inr (.inl (a0,a1,a2,a3,a4,a5,a6,())))
def ABQ[Lk]:(List U3×U3×Unit)→Option ((Int×Bool×Unit)):=fun(a0,a1,_)=>
 match Aa IB many (a0,a1.1,a1.2.1,a1.2.2.1,a1.2.2.2.1,(AQ a0),0,(AQ a0),())with|none=>none|some r=>match r with
 |.inl (o0,o1,o2,o3,o4,o5,o6,_)=>match(ilt o6 o5)with
  |true=>match idx o0 o6 with|none=>none|some x7=>match Cy ((x7.1,(x7.2.1,(x7.2.2.1,(x7.2.2.2.1,())))),(o1,(o2,(o3,(o4,())))),())with|none=>none|some (y8,_)=>some (o6,(ieq y8 0),())
  |false=>some (o6,false,())
 |.inr _=>none
def ANl[Lk]:=fun v=>Lk.f (ABQ v)
theorem AKr v:ANl v=ABQ v:=AJ _
abbrev TQ:AE:=[(.tmp 0,.dat Ui),(.tmp 1,.di),(.tmp 2,.di)]
abbrev TP:AE:=[(.tmp 0,.di),(.tmp 1,.dat .bool)]
abbrev TO:List RS:=[.one,.one]
def Lx[Lk]:(Uj×Int×Int×Unit)→Option ((Int×Bool×Unit)):=fun(a0,a1,a2,_)=>
 match ANl (a0.2.1,((ES a1 a2),((imax a1 a2),(0,(false,())))),())with|none=>none|some (y0,y1,_)=>some (y0,y1,())
def Z8[Lk]:=fun v=>Lk.f (Lx v)
theorem XW v:Z8 v=Lx v:=AJ _
abbrev AAI:AE:=[(.tmp 0,.dat Ui),(.tmp 1,.di),(.tmp 2,.di)]
abbrev AAH:AE:=[(.tmp 0,.di)]
abbrev AAG:List RS:=[.one]
def Q0[Lk]:(Uj×Int×Int×Unit)→Option (U8):=fun(a0,a1,a2,_)=>
 match EM ((a0.1,(a0.2.1,())),())with|none=>none|some (y0,_)=>match(!y0)with
 |true=>some ((-1:Int),())
 |false=>match Z8 ((a0.1,(a0.2.1,())),a1,a2,())with|none=>none|some (y1,y2,_)=>match(!y2)with
 |true=>some ((-1:Int),())
 |false=>some (y1,())
def Pk[Lk]:=fun v=>Lk.f (Q0 v)
theorem AEN v:Pk v=Q0 v:=AJ _
abbrev AAC:AE:=[(.tmp 0,.dat Ui),(.tmp 1,.di),(.tmp 2,.di),(.tmp 3,.dat .bool)]
abbrev AAB:AE:=[(.tmp 0,.own 3 U0),(.tmp 1,.di)]
abbrev AAA:List RS:=[.one,.one]
abbrev AEK:AE:=[(.tmp 1,.di),(.tmp 2,.di),(.tmp 3,.dat .bool),(.tmp 10,.own 3 U0),(.tmp 27,.dat U1),(.tmp 28,.di),(.tmp 29,.di)]
abbrev AEJ:A4:=[(.exit 1,[(.tmp 10,.own 3 U0)])]
def TS[Lk]:(Int×Int×Bool×List Int×List U3×Int×Int×Unit)→Option ((Int×Int×Bool×List Int×List U3×Int×Int×Unit)⊕U9⊕Unit):=fun(a0,a1,a2,a3,a4,a5,a6,_)=>
 match(ilt a6 a5)with
 |true=>match idx a4 a6 with|none=>none|some x0=>match(!(ieq x0.2.2.1 a1))with
  |true=>some (.inl (a0,a1,a2,a3,a4,a5,(IntKind.wrap .i64 (a6+1)),()))
  |false=>match(!(x0.2.2.2.1==a2))with
  |true=>some (.inl (a0,a1,a2,a3,a4,a5,(IntKind.wrap .i64 (a6+1)),()))
  |false=>match(ieq a0 x0.1)with
  |true=>match(fits ((AQ a3)+(AQ ([x0.2.1]:List (Int)))))with
   |true=>some (.inl (a0,a1,a2,(Bs a3 ([x0.2.1]:List (Int))),a4,a5,(IntKind.wrap .i64 (a6+1)),()))
   |false=>none
  |false=>match(ieq a0 x0.2.1)with
  |true=>match(fits ((AQ a3)+(AQ ([x0.1]:List (Int)))))with
   |true=>some (.inl (a0,a1,a2,(Bs a3 ([x0.1]:List (Int))),a4,a5,(IntKind.wrap .i64 (a6+1)),()))
   |false=>none
  |false=>some (.inl (a0,a1,a2,a3,a4,a5,(IntKind.wrap .i64 (a6+1)),()))
 |false=>some (.inr (.inl (a3,())))
def AAE[Lk]:(Uj×Int×Int×Bool×Unit)→Option (Ur):=fun(a0,a1,a2,a3,_)=>
 match EM ((a0.1,(a0.2.1,())),())with|none=>none|some (y0,_)=>match(!y0)with
 |true=>some (([]:List (Int)),1,())
 |false=>match(ilt a1 0)with
 |true=>some (([]:List (Int)),10,())
 |false=>match(ile a0.1 a1)with
 |true=>some (([]:List (Int)),10,())
 |false=>match Aa TS many (a1,a2,a3,([]:List (Int)),a0.2.1,(AQ a0.2.1),0,())with|none=>none|some r=>match r with
 |.inl (o1,_)=>match AJo (o1,())with|none=>none|some (y2,_)=>some (y2,0,())
 |.inr _=>none
def AEL[Lk]:=fun v=>Lk.f (AAE v)
theorem AP3 v:AEL v=AAE v:=AJ _
end
end Go.Pev
end
section
namespace Go.Pev
noncomputable section
attribute [local irreducible] Pr K2 OJ PD ATh ATi ATj Vu ACo Y1 ACY AJB AT many IntKind.wrap AQ Aj AN Bs DN FL AFE AF C1 ES imax AK Ab
abbrev OF:AE:=[(.tmp 0,.dat Ui)]
abbrev OE:AE:=[(.tmp 0,.own 3 U0),(.tmp 1,.own 3 U0)]
abbrev OD:List RS:=[.one,.one]
abbrev Tg:AE:=[(.tmp 2,.own 3 U0),(.tmp 3,.own 3 U0),(.tmp 4,.map Ua U0),(.tmp 35,.di),(.tmp 36,.di)]
abbrev Te:A4:=[(.exit 2,[(.tmp 2,.own 3 U0),(.tmp 3,.own 3 U0)])]
def CT[Lk]:(List Int×List Int×List (U7×Int)×Int×Int×Unit)→Option ((List Int×List Int×List (U7×Int)×Int×Int×Unit)⊕Us⊕Unit):=fun(a0,a1,a2,a3,a4,_)=>
 match(ilt a4 a3)with
 |true=>match(fits ((AQ a0)+(AQ ([((AK a2 (a4,(1,()))).getD 0)]:List (Int)))))with
  |true=>match(fits ((AQ a1)+(AQ ([((AK a2 (a4,(0,()))).getD 0)]:List (Int)))))with
   |true=>some (.inl ((Bs a0 ([((AK a2 (a4,(1,()))).getD 0)]:List (Int))),(Bs a1 ([((AK a2 (a4,(0,()))).getD 0)]:List (Int))),a2,a3,(IntKind.wrap .i64 (a4+1)),()))
   |false=>none
  |false=>none
 |false=>some (.inr (.inl (a0,a1,())))
abbrev Th:AE:=[(.tmp 1,.box 2),(.cell 0 0,.di),(.cell 0 1,.dat U1),(.tmp 2,.nil U0),(.tmp 3,.nil U0),(.tmp 4,.map Ua U0),(.tmp 14,.dat U1),(.tmp 15,.di),(.tmp 16,.di)]
abbrev Tf:A4:=[(.exit 0,[(.tmp 1,.box 2),(.cell 0 0,.di),(.cell 0 1,.dat U1),(.tmp 2,.nil U0),(.tmp 3,.nil U0),(.tmp 4,.map Ua U0)])]
def Cx[Lk]:(Int×List U3×List (U7×Int)×List U3×Int×Int×Unit)→Option ((Int×List U3×List (U7×Int)×List U3×Int×Int×Unit)⊕(Int×List U3×List (U7×Int)×Unit)⊕Unit):=fun(a0,a1,a2,a3,a4,a5,_)=>
 match(ilt a5 a4)with
 |true=>match idx a3 a5 with|none=>none|some x0=>match x0.2.2.2.1 with
  |true=>match(ile 0 (Kb a2 (x0.2.2.1,(1,())))&&ilt (Kb a2 (x0.2.2.1,(1,()))) (AQ (Ab a2 (x0.2.2.1,(1,())) ((AK a2 (x0.2.2.1,(1,()))).getD 0))))with
   |true=>some (.inl (a0,a1,(AHj (Ab a2 (x0.2.2.1,(1,())) ((AK a2 (x0.2.2.1,(1,()))).getD 0)) (Kb a2 (x0.2.2.1,(1,()))) (IntKind.wrap .i64 (((AK a2 (x0.2.2.1,(1,()))).getD 0)+1))),a3,a4,(IntKind.wrap .i64 (a5+1)),()))
   |false=>none
  |false=>match(ile 0 (Kb a2 (x0.2.2.1,(0,())))&&ilt (Kb a2 (x0.2.2.1,(0,()))) (AQ (Ab a2 (x0.2.2.1,(0,())) ((AK a2 (x0.2.2.1,(0,()))).getD 0))))with
  |true=>some (.inl (a0,a1,(AHj (Ab a2 (x0.2.2.1,(0,())) ((AK a2 (x0.2.2.1,(0,()))).getD 0)) (Kb a2 (x0.2.2.1,(0,()))) (IntKind.wrap .i64 (((AK a2 (x0.2.2.1,(0,()))).getD 0)+1))),a3,a4,(IntKind.wrap .i64 (a5+1)),()))
  |false=>none
 |false=>some (.inr (.inl (a0,a1,a2,())))
def Jr[Lk]:(Uj×Unit)→Option (Us):=fun(a0,_)=>
 match EM ((a0.1,(a0.2.1,())),())with|none=>none|some (y0,_)=>match(!y0)with
 |true=>some (([]:List (Int)),([]:List (Int)),())
 |false=>match Aa Cx many (a0.1,a0.2.1,([]:List (U7×Int)),a0.2.1,(AQ a0.2.1),0,())with|none=>none|some r=>match r with
 |.inl (o1,o2,o3,_)=>match QP (o1,())with|none=>none|some (y4,_)=>match Aa CT many (([]:List (Int)),([]:List (Int)),o3,(IntKind.wrap .i64 (y4+1)),0,())with|none=>none|some r=>match r with
  |.inl (o5,o6,_)=>some (o5,o6,())
  |.inr _=>none
 |.inr _=>none
def Js[Lk]:=fun v=>Lk.f (Jr v)
theorem Ti v:Js v=Jr v:=AJ _
abbrev Ol:AE:=[]
abbrev Oj:AE:=[(.tmp 0,.dat .bool)]
abbrev Oi:List RS:=[.one]
def Om[Lk]:(Unit)→Option (Uh):=fun _=>
 match Hz ((4,(([(0,(1,(1,(true,())))),(0,(2,(0,(false,())))),(1,(2,(0,(true,()))))]:List U3),())),1,())with|none=>none|some (y0,y1,_)=>match AEL ((4,(([(0,(1,(1,(true,())))),(0,(2,(0,(false,())))),(1,(2,(0,(true,()))))]:List U3),())),2,0,false,())with|none=>none|some (y2,y3,_)=>match Js ((4,(([(0,(1,(1,(true,())))),(0,(2,(0,(false,())))),(1,(2,(0,(true,()))))]:List U3),())),())with|none=>none|some (y4,y5,_)=>match AEL ((4,(([(0,(1,(1,(true,())))),(0,(2,(0,(false,())))),(1,(2,(0,(true,()))))]:List U3),())),4,0,true,())with|none=>none|some (y6,y7,_)=>match Hz ((0,(([]:List U3),())),0,())with|none=>none|some (y8,y9,_)=>match(ieq y1 0)with
 |true=>match(ieq y3 0)with
  |true=>match(ieq y7 10)with
   |true=>match(ieq y9 1)with
    |true=>match(ieq (AQ y0.2.1) 3)with
     |true=>match OI (y2,([0]:List (Int)),())with|none=>none|some (y10,_)=>match y10 with
      |true=>match OI (y4,([1,1,0]:List (Int)),())with|none=>none|some (y11,_)=>match y11 with
       |true=>match OI (y5,([1,0,0]:List (Int)),())with|none=>none|some (y12,_)=>match y12 with
        |true=>match Pk ((4,(([(0,(1,(1,(true,())))),(0,(2,(0,(false,())))),(1,(2,(0,(true,()))))]:List U3),())),2,1,())with|none=>none|some (y13,_)=>match(ieq y13 2)with
         |true=>match Pk ((4,(([(0,(1,(1,(true,())))),(0,(2,(0,(false,())))),(1,(2,(0,(true,()))))]:List U3),())),0,3,())with|none=>none|some (y14,_)=>match(ieq y14 (-1:Int))with
          |true=>match EM ((4,(([(0,(1,(1,(true,())))),(0,(2,(0,(false,())))),(1,(2,(0,(true,()))))]:List U3),())),())with|none=>none|some (y15,_)=>match y15 with
           |true=>match QP (5,())with|none=>none|some (y16,_)=>match(ieq y16 3)with
            |true=>match OC ((4,(([(0,(1,(1,(true,())))),(0,(2,(0,(false,())))),(1,(2,(0,(true,()))))]:List U3),())),())with|none=>none|some (y17,_)=>match(ieq (AQ y17) 3)with
             |true=>match AKH ((4,(([(0,(1,(1,(true,())))),(0,(2,(0,(false,())))),(1,(2,(0,(true,()))))]:List U3),())),(4,(([(0,(1,(1,(true,())))),(0,(2,(0,(false,())))),(1,(2,(0,(true,()))))]:List U3),())),())with|none=>none|some (y18,_)=>some (y18,())
             |false=>some (false,())
            |false=>some (false,())
           |false=>some (false,())
          |false=>some (false,())
         |false=>some (false,())
        |false=>some (false,())
       |false=>some (false,())
      |false=>some (false,())
     |false=>some (false,())
    |false=>some (false,())
   |false=>some (false,())
  |false=>some (false,())
 |false=>some (false,())
def G0[Lk]:=fun v=>Lk.f (Om v)
theorem AJV v:G0 v=Om v:=AJ _
abbrev OP:AE:=[(.tmp 0,.dat Ui)]
abbrev OO:AE:=[(.tmp 0,.dat .bool)]
abbrev ON:List RS:=[.one]
def Jw[Lk]:(Uj×Unit)→Option (Uh):=fun(a0,_)=>
 match(ilt 40 (AQ a0.2.1))with
 |true=>some (true,())
 |false=>some ((ilt 16 a0.1),())
def Jx[Lk]:=fun v=>Lk.f (Jw v)
theorem Tz v:Jx v=Jw v:=AJ _
abbrev H4:AE:=[(.tmp 0,.dat Ui),(.tmp 1,.dat (.int .u8))]
abbrev H3:AE:=[(.tmp 0,.dat .bool)]
abbrev H0:List RS:=[.one]
abbrev KI:AE:=[(.tmp 2,.box 2),(.cell 0 0,.di),(.cell 0 1,.dat U1),(.tmp 6,.box 2),(.cell 1 0,.di),(.cell 1 1,.dat Uf),(.tmp 7,.di),(.tmp 8,.own 3 U0),(.tmp 9,.own 3 U0),(.tmp 10,.di),(.tmp 12,.own 45 Ua),(.tmp 13,.di)]
abbrev KG:A4:=[(.ret,[(.tmp 4,.dat .bool)]),(.exit 2,[(.tmp 2,.box 2),(.cell 0 0,.di),(.cell 0 1,.dat U1),(.tmp 6,.box 2),(.cell 1 0,.di),(.cell 1 1,.dat Uf),(.tmp 7,.di),(.tmp 8,.own 3 U0),(.tmp 9,.own 3 U0),(.tmp 10,.di),(.tmp 12,.own 45 Ua)])]
def Bt[Lk]:Ut→Option (Ut⊕Uh⊕(Int×List U3×Int×List U2×Int×List Int×List Int×Int×List U7×Unit)⊕Unit):=fun(a0,a1,a2,a3,a4,a5,a6,a7,a8,a9,_)=>
 match(ilt a9 (AQ a8))with
 |true=>match idx a8 a9 with|none=>none|some x0=>match idx a8 a9 with|none=>none|some x1=>match Pk ((a0,(a1,())),(AN a8 (AF a9) (0,(0,()))).2.1,(AN a8 (AF a9) (0,(0,()))).1,())with|none=>none|some (y2,_)=>match(!(ieq y2 a9))with
  |true=>some (.inr (.inl (false,())))
  |false=>some (.inl (a0,a1,a2,a3,a4,a5,a6,a7,a8,(IntKind.wrap .i64 (a9+1)),()))
 |false=>some (.inr (.inr (.inl (a0,a1,a2,a3,a4,a5,a6,a7,a8,()))))
abbrev KJ:AE:=[(.tmp 2,.box 2),(.cell 0 0,.di),(.cell 0 1,.dat U1),(.tmp 6,.box 2),(.cell 1 0,.di),(.cell 1 1,.dat Uf),(.tmp 7,.di),(.tmp 8,.own 3 U0),(.tmp 9,.own 3 U0),(.tmp 10,.di),(.tmp 11,.di)]
abbrev KH:A4:=[(.exit 0,[(.tmp 2,.box 2),(.cell 0 0,.di),(.cell 0 1,.dat U1),(.tmp 6,.box 2),(.cell 1 0,.di),(.cell 1 1,.dat Uf),(.tmp 7,.di),(.tmp 8,.own 3 U0),(.tmp 9,.own 3 U0),(.tmp 10,.di)])]
def Bu[Lk]:V1→Option (V1⊕(Int×List U3×Int×List U2×Int×List Int×List Int×Int×Unit)⊕Unit):=fun(a0,a1,a2,a3,a4,a5,a6,a7,a8,_)=>
 match(ilt a8 (AQ a5))with
 |true=>match idx a5 a8 with|none=>none|some x0=>some (.inl (a0,a1,a2,a3,a4,a5,a6,(IntKind.wrap .i64 (a7+(AN a5 (AF a8) 0))),(IntKind.wrap .i64 (a8+1)),()))
 |false=>some (.inr (.inl (a0,a1,a2,a3,a4,a5,a6,a7,())))
def FX[Lk]:(Uj×Int×Unit)→Option (Uh):=fun(a0,a1,_)=>
 match G0 ()with|none=>none|some (y0,_)=>match(!y0)with
 |true=>some (false,())
 |false=>match Jx ((a0.1,(a0.2.1,())),())with|none=>none|some (y1,_)=>match y1 with
 |true=>some (true,())
 |false=>match FV ((a0.1,(a0.2.1,())),())with|none=>none|some (y2,_)=>match(!y2)with
 |true=>some (true,())
 |false=>match rem? (IntKind.wrap .i64 a1) 8 with|none=>none|some x3=>match Hz ((a0.1,(a0.2.1,())),x3,())with|none=>none|some (y4,y5,_)=>match Js ((a0.1,(a0.2.1,())),())with|none=>none|some (y6,y7,_)=>match Aa Bu many (a0.1,a0.2.1,y4.1,y4.2.1,y5,y6,y7,0,x3,())with|none=>none|some r=>match r with
 |.inl (o8,o9,o10,o11,o12,o13,o14,o15,_)=>match OC ((o8,(o9,())),())with|none=>none|some (y16,_)=>match Aa Bt many (o8,o9,o10,o11,o12,o13,o14,o15,y16,0,())with|none=>none|some r=>match r with
  |.inl (o17,_)=>some (o17,())
  |.inr r=>match r with
  |.inl (o18,o19,o20,o21,o22,o23,o24,o25,o26,_)=>match(ieq o22 0)with
   |true=>match(ieq (AQ o21) (IntKind.wrap .i64 (o18-o25)))with
    |true=>match(ieq (AQ o23) (AQ o24))with
     |true=>match QP (o18,())with|none=>none|some (y27,_)=>match(ieq (AQ o23) (IntKind.wrap .i64 (y27+1)))with
      |true=>some ((ieq (AQ o26) (AQ o19)),())
      |false=>some (false,())
     |false=>some (false,())
    |false=>some (false,())
   |false=>some (false,())
  |.inr _=>none
 |.inr _=>none
def EN[Lk]:=fun v=>Lk.f (FX v)
theorem KK v:EN v=FX v:=AJ _
end
end Go.Pev
end
section

end
section
namespace Go.Pev.Pl
theorem Af{n:Int}(h:-9223372036854775808≤n∧n≤9223372036854775807):IntKind.wrap .i64 n=n:=IntWalk.i64_in n h
section
variable {α:Type} [Inhabited α]
theorem AY{d:Array α}{n:Nat}(h:n<d.size):idx d.toList (n:Int)=some d[n]! := by
 rw[idx_eq,OJ,AUZ (by omega)]
 simp[h]
theorem Al{d:Array α}{n:Nat}{z:α}(h:n<d.size):AN d.toList (AF (n:Int)) z=d[n]! := by
 simp[AN,AF,h]
theorem CU{d:Array α}{n:Nat}{x:α}:Aj d.toList (AF (n:Int)) x=(d.setIfInBounds n x).toList:=by
 simp[Aj,AF]
theorem AKi{d:Array α}:AQ d.toList=(d.size:Int):=by simp[AQ]
theorem Ca(d:Array α)(i j:Nat):(d.setIfInBounds i d[j]!).setIfInBounds j d[i]! = Go.Sort.swp d i j:=rfl
theorem size_swp(d:Array α)(i j:Nat):(Go.Sort.swp d i j).size=d.size:=by simp[Go.Sort.swp]
end
theorem AR(a b:Nat):ilt (a:Int) (b:Int)=decide (a<b):=by rw[Aq];simp
theorem Bh(a b:Nat):ile (a:Int) (b:Int)=decide (a≤b):=by rw[Az];simp
theorem AAb(a b:Nat):ieq (a:Int) (b:Int)=decide (a=b):=by
 rw[ET]
 by_cases h:a=b
 ·simp[h]
 ·simp[h];omega
section
theorem wrap_add{a b:Nat}(h:a+b<9223372036854775808):IntKind.wrap .i64 ((a:Int)+(b:Int))=((a+b:Nat):Int):=by rw[Af (by omega)];omega
theorem AL{a:Nat}(h:a+1<9223372036854775808):IntKind.wrap .i64 ((a:Int)+1)=((a+1:Nat):Int):=by rw[Af (by omega)];omega
theorem Wq{a:Nat}(h:2*a<9223372036854775808):IntKind.wrap .i64 ((2:Int)*(a:Int))=((2*a:Nat):Int):=by rw[Af (by omega)];omega
theorem Wp{a:Nat}(h:a<9223372036854775808):IntKind.wrap .i64 ((a:Int)*1)=((a*1:Nat):Int):=by rw[Af (by omega)];omega
theorem Dh{a:Nat}(h:a*2<9223372036854775808):IntKind.wrap .i64 ((a:Int)*2)=((a*2:Nat):Int):=by rw[Af (by omega)];omega
theorem Wo{a:Nat}(h:a*3<9223372036854775808):IntKind.wrap .i64 ((a:Int)*3)=((a*3:Nat):Int):=by rw[Af (by omega)];omega
theorem BQ{a b:Nat}(h:b≤a∧a<9223372036854775808):IntKind.wrap .i64 ((a:Int)-(b:Int))=((a-b:Nat):Int):=by rw[Af (by omega)];omega
theorem Ah{a:Nat}(h:1≤a∧a<9223372036854775808):IntKind.wrap .i64 ((a:Int)-1)=((a-1:Nat):Int):=by rw[Af (by omega)];omega
theorem ATA{a:Nat}(h:a<9223372036854775808):quo? .i64 (a:Int) 2=some ((a/2:Nat):Int):=by
 rw[R9,Vu,AUZ (by omega),AWC (by omega),Af (by omega)];rfl
theorem PG{a:Nat}(h:a<9223372036854775808):quo? .i64 (a:Int) 4=some ((a/4:Nat):Int):=by
 rw[R9,Vu,AUZ (by omega),AWC (by omega),Af (by omega)];rfl
theorem AS9{a:Nat}(h:a<9223372036854775808):quo? .i64 (a:Int) 8=some ((a/8:Nat):Int):=by
 rw[R9,Vu,AUZ (by omega),AWC (by omega),Af (by omega)];rfl
end
end Go.Pev.Pl
end
section
namespace Go.Pev.Pl
section
variable {α:Type}
theorem I8{xs:List α}{n:Nat}(z:α)(h:n<xs.length):idx xs (n:Int)=some (xs.getD n z):=by
 rw[idx_eq,OJ,AUZ (by omega)]
 simp[h]
theorem AAc(xs:List α)(n:Nat):idx xs (n:Int)=xs[n]? := by
 rw[idx_eq,OJ,AUZ (by omega)]
 simp
theorem MA(xs:List α):idx xs (0:Int)=xs.head? := by
 rw[idx_eq,OJ,AUZ (by omega)]
 cases xs<;>rfl
theorem OU(xs:List α)(n:Nat)(z:α):AN xs (AF (n:Int)) z=xs.getD n z:=by simp[AN,AF]
theorem ATp(xs:List α)(n:Nat)(x:α):Aj xs (AF (n:Int)) x=xs.set n x:=by simp[Aj,AF]
theorem AZ(xs:List α):AQ xs=(xs.length:Int):=rfl
theorem AQt(n:Nat):AF (n:Int)=n:=by simp[AF]
theorem AA2(xs ys:List α):Bs xs ys=xs++ys:=rfl
theorem AF9{xs:List α}{l h:Nat}(h1:l≤h)(h2:h≤xs.length):G8 xs (l:Int) (h:Int)=some ((xs.take h).drop l):=by
 rw[Qm,PD,AUf (by omega)]
 simp
end
theorem Db{n:Int}(h:n≤4294967296):fits n=true:=(GM n).2 h
theorem AQI{α β:Type}(xs:List α)(ys:List β):ieq (AQ xs) (AQ ys)=decide (xs.length=ys.length):=by rw[AZ,AZ,AAb]
theorem Bi(a b:Int):ieq a b=decide (a=b):=by
 rw[ET]
 by_cases h:a=b<;>simp[h]
def walk{α β ρ:Type}(f:β→α→α⊕ρ)(fin:α→ρ):List β→α→ρ
 |[],a=>fin a
 |x::xs,a=>match f x a with
  |.inl a=>walk f fin xs a
  |.inr r=>r
theorem AK2{σ ρ α β:Type}{step:σ→Option (σ⊕ρ)}(st:Nat→α→σ)(xs:List β)(f:β→α→α⊕ρ)(fin:α→ρ)(I:Nat→α→Prop)
  (h:∀ i x a,i<xs.length→xs[i]? = some x→I i a→(∀ a',f x a = .inl a'→step (st i a)=some (.inl (st (i+1) a'))∧I (i+1) a')∧(∀ r,f x a = .inr r→step (st i a)=some (.inr r)))
  (hN:∀ a,I xs.length a→step (st xs.length a)=some (.inr (fin a))) :
  ∀ (m i n:Nat) (a:α),xs.length-i=m→i≤xs.length→m<n→I i a→AT step n (st i a)=some (walk f fin (xs.drop i) a):=by
 intro m
 induction m with
 |zero=>
  intro i n a hk hi hn hI
  obtain⟨n,rfl⟩:∃ k,n=k+1:=⟨n-1,by omega⟩
  have e:i=xs.length:=by omega
  subst e
  rw[AT,hN a hI,List.drop_length]
  rfl
 |succ m ih=>
  intro i n a hk hi hn hI
  obtain⟨n,rfl⟩:∃ k,n=k+1:=⟨n-1,by omega⟩
  have hi':i<xs.length:=by omega
  obtain⟨g1,g2⟩:=h i xs[i] a hi' (by simp[hi']) hI
  rw[AVC hi',walk,AT]
  cases hf:f xs[i] a with
  |inl a'=>
   obtain⟨e,hI'⟩:=g1 a' hf
   rw[e]
   exact ih (i+1) n a' (by omega) (by omega) (by omega) hI'
  |inr r=>rw[g2 r hf]
theorem Ey{σ ρ α β:Type}{step:σ→Option (σ⊕ρ)}(st:Nat→α→σ)(xs:List β)(f:β→α→α⊕ρ)(fin:α→ρ)(I:Nat→α→Prop)(hs:xs.length<9223372036854775808)
  (h:∀ i x a,i<xs.length→xs[i]? = some x→I i a→(∀ a',f x a = .inl a'→step (st i a)=some (.inl (st (i+1) a'))∧I (i+1) a')∧(∀ r,f x a = .inr r→step (st i a)=some (.inr r)))
  (hN:∀ a,I xs.length a→step (st xs.length a)=some (.inr (fin a))) (a:α) (h0:I 0 a):Aa step many (st 0 a)=some (walk f fin xs a):=by
 have hm:9223372036854775808<many:=by simp only[many];omega
 rw[Ak,AK2 st xs f fin I h hN xs.length 0 many a (by omega) (by omega) (by omega) h0]
 rfl
theorem AAz{α:Type}{xs ys:List α}(z:α)(hl:xs.length=ys.length)(h:∀ j,j<xs.length→xs.getD j z=ys.getD j z):xs=ys:=by
 apply List.ext_getElem hl
 intro i h1 h2
 have:=h i h1
 simpa [h1,h2]using this
theorem ALS{σ ρ:Type}{step:σ→Option (σ⊕ρ)}(st:Nat→σ)(N:Nat)(P:Nat→Bool)(rt:Nat→ρ)(rf:ρ)
  (h:∀ i,i<N→step (st i)=if P i then some (.inr (rt i))else some (.inl (st (i+1)))) (hN:step (st N)=some (.inr rf)) :
  ∀ (m i n:Nat),N-i=m→i≤N→m<n→(∃ k,i≤k∧k<N∧P k=true∧(∀ j,i≤j→j<k→P j=false)∧AT step n (st i)=some (rt k))∨((∀ j,i≤j→j<N→P j=false)∧AT step n (st i)=some rf):=by
 intro m
 induction m with
 |zero=>
  intro i n hk hi hn
  obtain⟨n,rfl⟩:∃ k,n=k+1:=⟨n-1,by omega⟩
  have e:i=N:=by omega
  subst e
  exact .inr ⟨fun j h1 h2=>by omega,by rw[AT,hN]⟩
 |succ m ih=>
  intro i n hk hi hn
  obtain⟨n,rfl⟩:∃ k,n=k+1:=⟨n-1,by omega⟩
  have hi':i<N:=by omega
  cases hP:P i
  ·have e:AT step (n+1) (st i)=AT step n (st (i+1)):=by rw[AT,h i hi',hP];rfl
   rw[e]
   rcases ih (i+1) n (by omega) (by omega) (by omega)with⟨k,h1,h2,h3,h4,h5⟩|⟨h1,h2⟩
   ·refine .inl ⟨k,by omega,h2,h3,fun j a1 a2 => ?_,h5⟩
    by_cases ej:j=i
    ·subst ej;exact hP
    ·exact h4 j (by omega) a2
   ·refine .inr ⟨fun j a1 a2 => ?_,h2⟩
    by_cases ej:j=i
    ·subst ej;exact hP
    ·exact h1 j (by omega) a2
  ·exact .inl ⟨i,AUV _,hi',hP,fun j a1 a2=>by omega,by rw[AT,h i hi',hP];rfl⟩
theorem AT5{σ ρ:Type}{step:σ→Option (σ⊕ρ)}(st:Nat→σ)(N:Nat)(P:Nat→Bool)(rt:Nat→ρ)(rf:ρ)(hs:N<9223372036854775808)
  (h:∀ i,i<N→step (st i)=if P i then some (.inr (rt i))else some (.inl (st (i+1)))) (hN:step (st N)=some (.inr rf)) :
  (∃ k,k<N∧P k=true∧(∀ j,j<k→P j=false)∧Aa step many (st 0)=some (rt k))∨((∀ j,j<N→P j=false)∧Aa step many (st 0)=some rf):=by
 have hm:9223372036854775808<many:=by simp only[many];omega
 rw[Ak]
 rcases ALS st N P rt rf h hN N 0 many rfl (by omega) (by omega)with⟨k,h1,h2,h3,h4,h5⟩|⟨h1,h2⟩
 ·exact .inl ⟨k,h2,h3,fun j a=>h4 j (by omega) a,h5⟩
 ·exact .inr ⟨fun j a=>h1 j (by omega) a,h2⟩
end Go.Pev.Pl
end
section
namespace Go.Pev.Pl
inductive Tok where
 |ver (v:Int)
 |arc (u v:Int)
 deriving DecidableEq
namespace Tok
def st:Tok→Int
 |.ver v=>v
 |.arc _ v=>v
def step(s:List Int×List Int):Tok→Option (List Int×List Int)
 |.ver v=>match s.1 with
  |w::_=>if w=v then some s else none
  |[]=>none
 |.arc u v=>match s.1 with
  |w::r=>if w=u then match r with
    |p::r'=>if p=v then some (p::r',s.2)else if v∈s.2 then none else some (v::w::r,v::s.2)
    |[]=>if v∈s.2 then none else some (v::w::r,v::s.2)
   else none
  |[]=>none
def run:List Int×List Int→List Tok→Option (List Int×List Int)
 |s,[]=>some s
 |s,t::l=>match step s t with
  |some s=>run s l
  |none=>none
theorem Cs(s:List Int×List Int)(a b:List Tok):run s (a++b)=(run s a).bind fun s=>run s b:=by
 induction a generalizing s with
 |nil=>rfl
 |cons t a ih=>
  simp only[AUo,run]
  cases step s t with
  |none=>rfl
  |some s=>exact ih s
theorem Bk{s s':List Int×List Int}{t:Tok}(h:step s t=some s'):
  (∃ v r,t = .ver v∧s.1=v::r∧s'=s) ∨
  (∃ u v r,t = .arc u v∧s.1=u::v::r∧s'=(v::r,s.2)) ∨
  (∃ u v r,t = .arc u v∧s.1=u::r∧r.head?≠some v∧v∉s.2∧s'=(v::u::r,v::s.2)):=by
 obtain⟨way,c⟩:=s
 cases t with
 |ver v=>
  cases way with
  |nil=>simp[step]at h
  |cons w r=>
   simp only[step]at h
   split at h
   ·rename_i e;cases h;exact .inl ⟨v,r,rfl,by simp[e],rfl⟩
   ·cases h
 |arc u v=>
  cases way with
  |nil=>simp[step]at h
  |cons w r=>
   simp only[step]at h
   split at h
   ·rename_i e
    subst e
    cases r with
    |nil=>
     simp only at h
     split at h
     ·cases h
     ·rename_i hc;cases h;exact .inr (.inr ⟨w,v,[],rfl,rfl,by simp,hc,rfl⟩)
    |cons p r=>
     simp only at h
     split at h
     ·rename_i e;subst e;cases h;exact .inr (.inl ⟨w,p,r,rfl,rfl,rfl⟩)
     ·split at h
      ·cases h
      ·rename_i e hc;cases h;exact .inr (.inr ⟨w,v,p::r,rfl,rfl,by simpa using e,hc,rfl⟩)
   ·cases h
theorem Co(v:Int)(r c:List Int):step (v::r,c) (.ver v)=some (v::r,c):=by simp[step]
theorem Ez(u v:Int)(r c:List Int):step (u::v::r,c) (.arc u v)=some (v::r,c):=by simp[step]
theorem EE(u v:Int)(r c:List Int)(h1:r.head?≠some v)(h2:v∉c):step (u::r,c) (.arc u v)=some (v::u::r,v::c):=by
 cases r with
 |nil=>simp[step,h2]
 |cons p r=>
  have:p≠v:=by simpa using h1
  simp[step,h2,this]
def Inv(s:List Int×List Int):Prop:=s.1.Nodup∧(∀ x∈s.1,x∈s.2)
theorem Rm{s s':List Int×List Int}{t:Tok}(h:step s t=some s')(hi:Inv s):Inv s'∧(∀ x∈s.2,x∈s'.2)∧s'.1.head? = some t.st:=by
 obtain⟨way,c⟩:=s
 obtain⟨h1,h2⟩:=hi
 rcases Bk h with⟨v,r,rfl,hw,rfl⟩|⟨u,v,r,rfl,hw,rfl⟩|⟨u,v,r,rfl,hw,_,hn,rfl⟩
 ·exact⟨⟨h1,h2⟩,fun x hx=>hx,by rw[hw];rfl⟩
 ·simp only at hw h1 h2
  subst hw
  refine⟨⟨?_,?_⟩,fun x hx=>hx,rfl⟩
  ·exact(AUu.1 h1).2
  ·intro x hx;exact h2 x (by simp only at hx;simp[AUT.1 hx])
 ·simp only at hw h1 h2 hn
  subst hw
  refine⟨⟨?_,?_⟩,fun x hx=>by simp[hx],rfl⟩
  ·exact AUu.2 ⟨fun hm=>hn (h2 _ hm),h1⟩
  ·intro x hx
   rcases AUT.1 hx with rfl|hx
   ·simp
   ·exact AUk _ (h2 x hx)
theorem Gh{l:List Tok}:∀ {s s':List Int×List Int},run s l=some s'→Inv s→Inv s'∧(∀ x∈s.2,x∈s'.2)∧∀ t,l.getLast? = some t→s'.1.head? = some t.st:=by
 induction l with
 |nil=>intro s s' h hi;cases h;exact⟨hi,fun x hx=>hx,fun t ht=>by simp at ht⟩
 |cons t l ih=>
  intro s s' h hi
  simp only[run]at h
  split at h
  ·rename_i s1 h1
   obtain⟨q1,q2,q3⟩:=Rm h1 hi
   obtain⟨p1,p2,p3⟩:=ih h q1
   refine⟨p1,fun x hx=>p2 x (q2 x hx),fun t' ht' => ?_⟩
   cases l with
   |nil=>simp at ht';subst ht';simp only[run]at h;cases h;exact q3
   |cons y l=>exact p3 t' (by rw[AWv]at ht';exact ht')
  ·cases h
theorem Fg{Z:Int→Prop}:∀ {l:List Tok} {way way' c d c2 low:List Int},run (way,c) l=some (way',d)→way≠[]→(∀ x,x∈c2↔x∈c∨Z x) →
  (∀ u v,.arc u v∈l→¬ Z v)→(∀ y∈low,Z y)→∃ d2,run (way++low,c2) l=some (way'++low,d2)∧(∀ x,x∈d2↔x∈d∨Z x):=by
 intro l
 induction l with
 |nil=>intro way way' c d c2 low h _ hc _ _;cases h;exact⟨c2,rfl,hc⟩
 |cons t l ih=>
  intro way way' c d c2 low h hne hc hz hl
  simp only[run]at h
  split at h
  ·rename_i s1 h1
   have hz':∀ u v,Tok.arc u v∈l→¬ Z v:=fun u v hm=>hz u v (AUk _ hm)
   rcases Bk h1 with⟨v,r,rfl,hw,rfl⟩|⟨u,v,r,rfl,hw,rfl⟩|⟨u,v,r,rfl,hw,hh,hn,rfl⟩
   ·simp only at hw
    subst hw
    obtain⟨d2,e1,e2⟩:=ih h hne hc hz' hl
    exact⟨d2,by simp only[run,AUo,Co];exact e1,e2⟩
   ·simp only at hw
    subst hw
    obtain⟨d2,e1,e2⟩:=ih h (by simp) hc hz' hl
    exact⟨d2,by simp only[run,AUo,Ez];exact e1,e2⟩
   ·simp only at hw hn
    subst hw
    have hzv:=hz u v (by simp)
    have hn2:v∉c2:=by rw[hc];rintro (h|h);exact hn h;exact hzv h
    have hh2:(r++low).head?≠some v:=by
     cases r with
     |nil=>
      cases low with
      |nil=>simp
      |cons y low=>
       simp only[AVA,List.head?_cons,ne_eq,AUM]
       rintro rfl
       exact hzv (hl _ (by simp))
     |cons p r=>simpa using hh
    obtain⟨d2,e1,e2⟩:=ih (c2:=v::c2) h (by simp) (by intro x;simp only[AUT,hc,or_assoc]) hz' hl
    exact⟨d2,by simp only[run,AUo,EE _ _ _ _ hh2 hn2];exact e1,e2⟩
  ·cases h
theorem Rq{z:Int}:∀ {l:List Tok} {way way' c2 d2 c:List Int},run (way,c2) l=some (way',d2)→z∉way→(∀ x,x∈c2↔x∈c∨x=z)→z∉c →
  .ver z∉l∧∃ d,run (way,c) l=some (way',d)∧(∀ x,x∈d2↔x∈d∨x=z)∧z∉d:=by
 intro l
 induction l with
 |nil=>intro way way' c2 d2 c h _ hc hz;cases h;exact⟨by simp,c,rfl,hc,hz⟩
 |cons t l ih=>
  intro way way' c2 d2 c h hzw hc hz
  simp only[run]at h
  split at h
  ·rename_i s1 h1
   rcases Bk h1 with⟨v,r,rfl,hw,rfl⟩|⟨u,v,r,rfl,hw,rfl⟩|⟨u,v,r,rfl,hw,hh,hn,rfl⟩
   ·simp only at hw
    subst hw
    obtain⟨e0,d,e1,e2,e3⟩:=ih h hzw hc hz
    refine⟨?_,d,by simp only[run,Co];exact e1,e2,e3⟩
    rintro hm
    rcases AUT.1 hm with hm|hm
    ·cases hm;exact hzw (by simp)
    ·exact e0 hm
   ·simp only at hw
    subst hw
    obtain⟨e0,d,e1,e2,e3⟩:=ih h (fun hm=>hzw (AUk _ hm)) hc hz
    refine⟨?_,d,by simp only[run,Ez];exact e1,e2,e3⟩
    rintro hm
    rcases AUT.1 hm with hm|hm
    ·cases hm
    ·exact e0 hm
   ·simp only at hw hn
    subst hw
    have hvz:v≠z:=by rintro rfl;exact hn ((hc v).2 (.inr rfl))
    have hn':v∉c:=fun hm=>hn ((hc v).2 (.inl hm))
    obtain⟨e0,d,e1,e2,e3⟩:=ih (c:=v::c) h (by intro hm;rcases AUT.1 hm with hm|hm;exact hvz hm.symm;exact hzw hm)
     (by intro x;simp only[AUT,hc,or_assoc])
     (by intro hm;rcases AUT.1 hm with hm|hm;exact hvz hm.symm;exact hz hm)
    refine⟨?_,d,by simp only[run,EE _ _ _ _ hh hn'];exact e1,e2,e3⟩
    rintro hm
    rcases AUT.1 hm with hm|hm
    ·cases hm
    ·exact e0 hm
  ·cases h
def Rot(a b:List Tok):Prop:=∃ x y,a=x++y∧b=y++x
theorem Rot.refl(a:List Tok):Rot a a:=⟨[],a,rfl,by simp⟩
theorem Rot.symm{a b:List Tok}(h:Rot a b):Rot b a:=by obtain⟨x,y,h1,h2⟩:=h;exact⟨y,x,h2,h1⟩
theorem Rot.trans{a b c:List Tok}(h:Rot a b)(g:Rot b c):Rot a c:=by
 obtain⟨x,y,rfl,h2⟩:=h
 obtain⟨z,w,h3,rfl⟩:=g
 rw[h2]at h3
 rcases List.append_eq_append_iff.1 h3 with⟨k,h4,h5⟩|⟨k,h4,h5⟩
 ·subst h4 h5
  exact⟨k,w++y,by simp,by simp⟩
 ·subst h4 h5
  exact⟨x++z,k,by simp,by simp⟩
theorem Rot.perm{a b:List Tok}(h:Rot a b):a.Perm b:=by
 obtain⟨x,y,rfl,rfl⟩:=h
 exact AWA
theorem Rot.mem{a b:List Tok}(h:Rot a b)(t:Tok):t∈a↔t∈b:=h.perm.mem_iff
theorem Rot.nodup{a b:List Tok}(h:Rot a b):a.Nodup↔b.Nodup:=h.perm.nodup_iff
theorem Rot.length{a b:List Tok}(h:Rot a b):a.length=b.length:=h.perm.length_eq
inductive T:List Tok→Prop
 |one (v:Int):T [.ver v]
 |add (x:Tok) (l:List Tok) (v:Int):T (x::l)→x.st≠v→.ver v∉x::l→T (x :: .arc x.st v :: .ver v :: .arc v x.st::l)
 |rot (a b:List Tok):T (a++b)→T (b++a)
theorem T.AHc{a b:List Tok}(h:T a)(r:Rot a b):T b:=by obtain⟨x,y,rfl,rfl⟩:=r;exact T.rot x y h
theorem T.facts{l:List Tok}(h:T l):l≠[]∧(∀ t∈l,.ver t.st∈l)∧(∀ u v,.arc u v∈l→.ver u∈l∧.ver v∈l∧.arc v u∈l∧u≠v):=by
 induction h with
 |one v=>exact⟨by simp,by simp[st],by simp⟩
 |add x l v h hne hv ih=>
  obtain⟨_,i2,i3⟩:=ih
  have hsub:∀ t,t∈x::l→t∈x::Tok.arc x.st v :: .ver v :: .arc v x.st::l:=by
   intro t ht
   rcases AUT.1 ht with rfl|ht
   ·simp
   ·simp[ht]
  have hx:=hsub _ (i2 x (by simp))
  have cases3:∀ t,t∈x::Tok.arc x.st v :: .ver v :: .arc v x.st::l→t∈x::l∨t = .arc x.st v∨t = .ver v∨t = .arc v x.st:=by
   intro t ht
   simp only[AUT]at ht ⊢
   rcases ht with h|h|h|h|h<;>simp[h]
  refine⟨by simp,fun t ht => ?_,fun a b hab => ?_⟩
  ·rcases cases3 t ht with h|rfl|rfl|rfl
   ·exact hsub _ (i2 t h)
   ·simp[st]
   ·simp[st]
   ·exact hx
  ·rcases cases3 _ hab with h|h|h|h
   ·obtain⟨p1,p2,p3,p4⟩:=i3 a b h
    exact⟨hsub _ p1,hsub _ p2,hsub _ p3,p4⟩
   ·cases h;exact⟨hx,by simp,by simp,hne⟩
   ·cases h
   ·cases h;exact⟨by simp,hx,by simp,AU1 hne⟩
 |rot a b h ih=>
  obtain⟨i1,i2,i3⟩:=ih
  have hm:∀ t,t∈a++b↔t∈b++a:=fun t=>List.perm_append_comm.mem_iff
  refine⟨by intro e;simp only[List.append_eq_nil_iff]at e;exact i1 (by simp[e.1,e.2]),fun t ht=>(hm _).1 (i2 t ((hm _).2 ht)),fun u v huv => ?_⟩
  obtain⟨p1,p2,p3,p4⟩:=i3 u v ((hm _).2 huv)
  exact⟨(hm _).1 p1,(hm _).1 p2,(hm _).1 p3,p4⟩
theorem T.nodup{l:List Tok}(h:T l):l.Nodup:=by
 induction h with
 |one v=>simp
 |add x l v h hne hv ih=>
  obtain⟨_,_,f3⟩:=h.facts
  have h1:Tok.arc x.st v∉x::l:=fun hm=>hv (f3 _ _ hm).2.1
  have h2:Tok.arc v x.st∉x::l:=fun hm=>hv (f3 _ _ hm).1
  simp only[AUT,not_or]at h1 h2 hv
  have ih':=AUu.1 ih
  simp only[AUu,AUT,not_or]
  refine⟨⟨fun e=>h1.1 e.symm,fun e=>hv.1 e.symm,fun e=>h2.1 e.symm,ih'.1⟩,⟨by simp,?_,h1.2⟩,⟨by simp,hv.2⟩,h2.2,ih'.2⟩
  intro e
  simp only[Tok.arc.injEq]at e
  exact hne e.1
 |rot a b h ih=>exact(List.perm_append_comm.nodup_iff).1 ih
def C(l:List Tok):Prop:=∀ r,Rot l r→∀ t,r.getLast? = some t→∃ c,run ([t.st],[t.st]) r=some ([t.st],c)∧∀ x,x∈c↔.ver x∈l
end Tok
end Go.Pev.Pl
end
section
namespace Go.Pev.Pl.Tok
theorem getLast?_app{a b:List Tok}{t:Tok}(h:b.getLast? = some t):(a++b).getLast? = some t:=by
 rw[AWF,h];rfl
theorem Ar(s:List Int×List Int)(t:Tok)(l:List Tok):run s (t::l)=(step s t).bind fun s=>run s l:=by
 rw[run]
 cases step s t<;>rfl
theorem J5(v:Int):Inv ([v],[v]):=⟨by simp,by simp⟩
theorem T.toC{l:List Tok}(h:T l):C l:=by
 induction h with
 |one v=>
  intro r hr t ht
  have:r=[.ver v]:=List.perm_singleton.1 hr.perm.symm
  subst this
  simp at ht
  subst ht
  exact⟨[v],by simp[run,st,step],by simp⟩
 |rot a b h ih=>
  intro r hr t ht
  obtain⟨c,h1,h2⟩:=ih r (Rot.trans ⟨a,b,rfl,rfl⟩ hr) t ht
  exact⟨c,h1,fun x=>(h2 x).trans (List.perm_append_comm.mem_iff)⟩
 |add x l v h hne hv ih=>
  obtain⟨_,f2,f3⟩:=h.facts
  have hnz:∀ u w,Tok.arc u w∈x::l→¬ (w=v):=fun u w hm e=>hv (e▸(f3 u w hm).2.1)
  have fin:∀ {d2 c:List Int},(∀ y,y∈d2↔y∈c∨y=v)→(∀ y,y∈c↔.ver y∈x::l)→∀ y,y∈d2↔Tok.ver y∈x :: .arc x.st v :: .ver v :: .arc v x.st::l:=by
   intro d2 c e1 e2 y
   rw[e1,e2]
   simp only[AUT,reduceCtorEq,false_or,Tok.ver.injEq]
   constructor
   ·rintro ((h|h)|h)<;>simp[h]
   ·rintro (h|h|h)<;>simp[h]
  have triple:∀ {w' c1:List Int},Inv (x.st::w',c1)→v∉c1→∀ p,run (x.st::w',c1) (.arc x.st v :: .ver v :: .arc v x.st::p)=run (x.st::w',v::c1) p:=by
   intro w' c1 hi hn p
   have hh:w'.head?≠some v:=by
    intro e
    exact hn (hi.2 v (AUk _ (List.mem_of_head? e)))
   rw[Ar,EE _ _ _ _ hh hn,AUy,Ar,Co,AUy,Ar,Ez,AUy]
  have G:∀ q1 p1,l=p1++q1→∀ t,(q1++x :: .arc x.st v :: .ver v :: .arc v x.st::p1).getLast? = some t→∃ c,run ([t.st],[t.st]) (q1++x :: .arc x.st v :: .ver v :: .arc v x.st::p1)=some ([t.st],c)∧∀ y,y∈c↔.ver y∈x :: .arc x.st v :: .ver v :: .arc v x.st::l:=by
   intro q1 p1 hl t ht
   have hrot:Rot (x::l) (q1++x::p1):=⟨x::p1,q1,by simp[hl],rfl⟩
   have ht0:∃ t0,(q1++x::p1).getLast? = some t0∧t0.st=t.st:=by
    cases p1 with
    |nil=>
     refine⟨x,getLast?_app (by simp),?_⟩
     rw[show q1++[x,Tok.arc x.st v,.ver v,.arc v x.st]=(q1++[x,Tok.arc x.st v,.ver v])++[Tok.arc v x.st] by simp,AVq]at ht
     cases ht;rfl
    |cons y p1=>
     refine⟨t,?_,rfl⟩
     rw[show q1++x::Tok.arc x.st v :: .ver v :: .arc v x.st::y::p1=(q1++[x,Tok.arc x.st v,.ver v,.arc v x.st])++y::p1 by simp,AWF]at ht
     rw[show q1++x::y::p1=(q1++[x])++y::p1 by simp,AWF]
     exact ht
   obtain⟨t0,e0,e1⟩:=ht0
   obtain⟨c,h1,h2⟩:=ih _ hrot t0 e0
   rw[e1,show q1++x::p1=(q1++[x])++p1 by simp,Cs,AUx]at h1
   obtain⟨⟨w1,c1⟩,g1,g2⟩:=h1
   obtain⟨i1,i2,i3⟩:=Gh g1 (J5 _)
   obtain⟨j1,j2,j3⟩:=Gh g2 i1
   have i3':=i3 x (by simp)
   simp only at i3'
   cases w1 with
   |nil=>simp at i3'
   |cons w0 w'=>
    simp at i3'
    subst i3'
    have hn:v∉c1:=fun hm=>hv ((h2 v).1 (j2 v hm))
    obtain⟨d2,k1,k2⟩:=Fg (Z:=(· = v)) (c2:=v::c1) (low:=[]) g2 (by simp) (fun y=>by simp[or_comm]) (fun u w hm=>hnz u w (by simp[hl,hm])) (by simp)
    refine⟨d2,?_,fin k2 h2⟩
    rw[show q1++x::Tok.arc x.st v :: .ver v :: .arc v x.st::p1=(q1++[x])++Tok.arc x.st v :: .ver v :: .arc v x.st::p1 by simp,Cs,g1,AUy,triple i1 hn]
    simpa using k1
  intro r hr t ht
  obtain⟨p,q,hpq,rfl⟩:=hr
  have base:∀ t0:Tok,(l++[x]).getLast? = some t0→t0=x:=fun t0 h=>by rw[AVq]at h;exact(AVa h).symm
  obtain⟨c,h1,h2⟩:=ih (l++[x]) ⟨[x],l,rfl,rfl⟩ x (by simp)
  match p with
  |[]=>
   simp only[AVA]at hpq
   subst hpq
   have:=G [] l (by simp) t (by simpa using ht)
   simpa using this
  |[y]=>
   simp only[AUo,AVA,AUl]at hpq
   obtain⟨rfl,rfl⟩:=hpq
   have:t=x:=by
    rw[AVq]at ht
    exact(AVa ht).symm
   subst this
   have hn:v∉[t.st]:=by simp;exact AU1 hne
   obtain⟨d2,k1,k2⟩:=Fg (Z:=(· = v)) (c2:=[v,t.st]) (low:=[]) h1 (by simp) (fun y=>by simp[or_comm]) (fun u w hm=>hnz u w (by simpa [or_comm]using hm)) (by simp)
   refine⟨d2,?_,fin k2 h2⟩
   rw[show(Tok.arc t.st v :: .ver v :: .arc v t.st::l)++[t]=Tok.arc t.st v :: .ver v :: .arc v t.st::(l++[t]) by simp,triple (J5 _) hn]
   simpa using k1
  |[y,z]=>
   simp only[AUo,AVA,AUl]at hpq
   obtain⟨rfl,rfl,rfl⟩:=hpq
   have:t = .arc x.st v:=by
    rw[show(Tok.ver v :: .arc v x.st::l)++[x,.arc x.st v]=(Tok.ver v :: .arc v x.st::l++[x])++[.arc x.st v] by simp,AVq]at ht
    exact(AVa ht).symm
   subst this
   obtain⟨d2,k1,k2⟩:=Fg (Z:=(· = v)) (c2:=[x.st,v]) (low:=[v]) h1 (by simp) (fun y=>by simp) (fun u w hm=>hnz u w (by simpa [or_comm]using hm)) (by simp)
   refine⟨d2,?_,fin k2 h2⟩
   rw[show(Tok.ver v :: .arc v x.st::l)++[x,.arc x.st v]=Tok.ver v :: .arc v x.st::((l++[x])++[.arc x.st v]) by simp]
   rw[Ar]
   show(step ([v],[v]) _).bind _=_
   rw[Co,AUy,Ar,EE _ _ _ _ (by simp) (by simp;exact hne),AUy,Cs]
   rw[show([x.st]++[v]:List Int)=[x.st,v]from rfl]at k1
   rw[k1,AUy,Ar,Ez]
   rfl
  |[y,z,w]=>
   simp only[AUo,AVA,AUl]at hpq
   obtain⟨rfl,rfl,rfl,rfl⟩:=hpq
   have:t = .ver v:=by
    rw[show(Tok.arc v x.st::l)++[x,.arc x.st v,.ver v]=(Tok.arc v x.st::l++[x,.arc x.st v])++[.ver v] by simp,AVq]at ht
    exact(AVa ht).symm
   subst this
   obtain⟨d2,k1,k2⟩:=Fg (Z:=(· = v)) (c2:=[x.st,v]) (low:=[v]) h1 (by simp) (fun y=>by simp) (fun u w hm=>hnz u w (by simpa [or_comm]using hm)) (by simp)
   refine⟨d2,?_,fin k2 h2⟩
   rw[show(Tok.arc v x.st::l)++[x,.arc x.st v,.ver v]=Tok.arc v x.st::((l++[x])++[.arc x.st v,.ver v]) by simp]
   rw[Ar]
   show(step ([v],[v]) _).bind _=_
   rw[EE _ _ _ _ (by simp) (by simp;exact hne),AUy,Cs]
   rw[show([x.st]++[v]:List Int)=[x.st,v]from rfl]at k1
   rw[k1,AUy,Ar,Ez,AUy,Ar,Co]
   rfl
  |y::z::w::w2::p1=>
   simp only[AUo,AUl]at hpq
   obtain⟨rfl,rfl,rfl,rfl,rfl⟩:=hpq
   exact G q p1 rfl t ht
def comp(P:List Tok):List Int→List Tok
 |[]=>[]
 |w::r=>(if .ver w∈P then []else [.ver w])++match r with
  |[]=>[]
  |p::_=>.arc w p::comp P r
theorem LB{P P':List Tok}:∀ {way:List Int},(∀ w∈way,(Tok.ver w∈P↔Tok.ver w∈P'))→comp P way=comp P' way:=by
 intro way
 induction way with
 |nil=>intro _;rfl
 |cons w r ih=>
  intro h
  have h1:=h w (by simp)
  have h2:=ih fun x hx=>h x (AUk _ hx)
  simp only[comp,h1,h2]
theorem AQX:∀ (M P:List Tok) (way c c':List Int) (r:Int) (t0:Tok),run (way,c) M=some ([r],c')→Inv (way,c)→P.getLast? = some t0→way.head? = some t0.st →
  T (P++comp P way)→(∀ x,.ver x∈P++comp P way→x∈c)→(∀ x∈c',Tok.ver x∈P++M)→(P++M).Nodup→T (P++M):=by
 intro M
 induction M with
 |nil=>
  intro P way c c' r t0 h hi hl hh hT hc hc' hn
  cases h
  have:=hc' r (hi.2 r (by simp))
  rw[AVk]at this
  simpa [comp,this]using hT
 |cons t M ih=>
  intro P way c c' r t0 h hi hl hh hT hc hc' hn
  rw[Ar,AUx]at h
  obtain⟨⟨w1,c1⟩,h1,h2⟩:=h
  obtain⟨hi1,hsub,hhd⟩:=Rm h1 hi
  have asso:P++t::M=(P++[t])++M:=by simp
  rw[asso]at hn hc' ⊢
  have hnt:t∉P:=by
   have:=(AWE.1 (AWE.1 hn).1)
   intro hm
   exact this.2.2 t hm t (by simp) rfl
  rcases Bk h1 with⟨v,rr,rfl,hw,e⟩|⟨u,v,rr,rfl,hw,e⟩|⟨u,v,rr,rfl,hw,hh2,hn2,e⟩
  ·cases e
   simp only at hw
   subst hw
   have key:comp P (v::rr) = .ver v::comp (P++[.ver v]) (v::rr):=by
    have e2:comp P rr=comp (P++[.ver v]) rr:=LB fun w hwm=>by
     have:w≠v:=by rintro rfl;exact(AUu.1 hi.1).1 hwm
     simp[this]
    simp only[comp,hnt,e2]
    simp
   rw[key]at hT hc
   exact ih _ _ _ _ _ (.ver v) h2 hi1 (by simp) hhd (by simpa using hT) (fun x hx=>hc x (by simpa using hx)) hc' hn
  ·cases e
   simp only at hw
   subst hw
   have hu:Tok.ver u∈P:=by
    have hun:=(AUu.1 hi.1).1
    obtain⟨g1,_⟩:=Rq (z:=u) (c:=c.filter (·≠u)) h2 hun (fun x=>by
     simp only[AVM,AUP]
     constructor
     ·intro h
      by_cases e:x=u
      ·exact .inr e
      ·exact .inl ⟨h,by simpa using e⟩
     ·rintro (h|rfl)
      ·exact h.1
      ·exact hi.2 x (by simp)) (by simp)
    have hmono:=(Gh h2 hi1).2.1 u (hi.2 u (by simp))
    have:=hc' u hmono
    simp only[AUQ,AUt,reduceCtorEq,or_false]at this
    rcases this with h|h
    ·exact h
    ·exact absurd h g1
   have key:comp P (u::v::rr) = .arc u v::comp (P++[.arc u v]) (v::rr):=by
    have e2:comp P (v::rr)=comp (P++[.arc u v]) (v::rr):=LB fun w hwm=>by simp
    rw[← e2]
    simp only[comp,hu]
    simp
   rw[key]at hT hc
   exact ih _ _ _ _ _ (.arc u v) h2 hi1 (by simp) hhd (by simpa using hT) (fun x hx=>hc x (by simpa using hx)) hc' hn
  ·cases e
   simp only at hw hn2
   subst hw
   have hu:u=t0.st:=by simpa using hh
   subst hu
   have hvc:∀ x,Tok.ver x∈P++comp P (t0.st::rr)→x≠v:=by rintro x hx rfl;exact hn2 (hc x hx)
   have hvP:Tok.ver v∉P++comp P (t0.st::rr):=fun hm=>hvc v hm rfl
   have hvP':Tok.ver v∉P:=fun hm=>hvP (by simp[hm])
   have key:comp (P++[.arc t0.st v]) (v::t0.st::rr) = .ver v :: .arc v t0.st::comp P (t0.st::rr):=by
    have e2:comp (P++[.arc t0.st v]) (t0.st::rr)=comp P (t0.st::rr):=LB fun w hwm=>by simp
    rw[← e2]
    simp only[comp,AUQ,hvP',AUt,reduceCtorEq,or_false,AUa]
    rfl
   have hne:t0.st≠v:=by rintro e;exact hn2 (e▸hi.2 t0.st (by simp))
   refine ih _ _ _ _ _ (.arc t0.st v) h2 hi1 (by simp) hhd ?_ ?_ hc' hn
   ·rw[key]
    obtain⟨P0,rfl⟩:∃ P0,P=P0++[t0]:=List.getLast?_eq_some_iff.1 hl
    have hT1:T (t0::(comp (P0++[t0]) (t0.st::rr)++P0)):=hT.AHc ⟨P0,t0::comp (P0++[t0]) (t0.st::rr),by simp,by simp⟩
    have hT2:=T.add t0 _ v hT1 hne (by
     intro hm
     apply hvP
     simp only[AUQ,AUT,AWM,or_false]at hm ⊢
     rcases hm with h|h|h<;>simp[h])
    exact hT2.AHc ⟨t0 :: .arc t0.st v :: .ver v :: .arc v t0.st::comp (P0++[t0]) (t0.st::rr),P0,by simp,by simp⟩
   ·intro x hx
    rw[key]at hx
    simp only[AUQ,AUT,AWM,or_false,reduceCtorEq,Tok.ver.injEq,false_or]at hx
    rcases hx with h|h|h
    ·exact AUk _ (hc x (by simp[h]))
    ·simp[h]
    ·exact AUk _ (hc x (by simp[h]))
def At(l:List Tok):Prop:=∃ r l' c,l = .ver r::l'∧run ([r],[r]) l=some ([r],c)∧∀ x∈c,Tok.ver x∈l
theorem At.toT{l:List Tok}(h:At l)(hn:l.Nodup):T l:=by
 obtain⟨r,l',c,rfl,h1,h2⟩:=h
 rw[Ar,Co,AUy]at h1
 have:=AQX l' [.ver r] [r] [r] c r (.ver r) h1 (J5 r) (by simp) (by simp[st]) (by simp[comp];exact T.one r) (by simp[comp]) (by simpa using h2) (by simpa using hn)
 simpa using this
theorem T.Ya{r:Int}{l:List Tok}(h:T (.ver r::l)):At (.ver r::l):=by
 obtain⟨t,ht⟩:∃ t,(Tok.ver r::l).getLast? = some t:=⟨_,AWV (by simp)⟩
 obtain⟨c,h1,h2⟩:=h.toC _ (Rot.refl _) t ht
 have h1':=h1
 rw[Ar,AUx]at h1'
 obtain⟨s,g1,_⟩:=h1'
 have e:t.st=r:=by
  simp only[step]at g1
  split at g1
  ·assumption
  ·cases g1
 rw[e]at h1
 exact⟨r,l,c,rfl,h1,fun x hx=>(h2 x).1 hx⟩
end Go.Pev.Pl.Tok
end
section
namespace Go.Pev.Pl.Tok
theorem T.AFJ{l:List Tok}(h:T l):∃ v r,Rot l (.ver v::r):=by
 obtain⟨f1,f2,_⟩:=h.facts
 obtain⟨t,ht⟩:=List.exists_mem_of_ne_nil l f1
 obtain⟨a,b,rfl⟩:=AWr (f2 t ht)
 exact⟨t.st,b++a,a,.ver t.st::b,rfl,rfl⟩
theorem T.less{x:Tok}{v:Int}{l:List Tok}(h:T (x :: .arc x.st v :: .ver v :: .arc v x.st::l)):T (x::l):=by
 have hC:=h.toC
 have hn:=h.nodup
 obtain⟨_,f2,f3⟩:=h.facts
 have hne:x.st≠v:=(f3 x.st v (by simp)).2.2.2
 have hvl:Tok.ver v∉l:=by
  intro hm
  simp only[AUu,AUT,not_or]at hn
  exact hn.2.2.1.2 hm
 have hvx:x≠.ver v:=by rintro rfl;exact hne rfl
 have key:∀ p q,l=p++q→∀ t0,(q++x::p).getLast? = some t0→∃ c,run ([t0.st],[t0.st]) (q++x::p)=some ([t0.st],c)∧∀ y,y∈c↔.ver y∈x::l:=by
  intro p q hl t0 ht0
  have hrot:Rot (x :: .arc x.st v :: .ver v :: .arc v x.st::l) (q++x :: .arc x.st v :: .ver v :: .arc v x.st::p):=⟨x :: .arc x.st v :: .ver v :: .arc v x.st::p,q,by simp[hl],rfl⟩
  have ht:∃ t,(q++x::Tok.arc x.st v :: .ver v :: .arc v x.st::p).getLast? = some t∧t.st=t0.st:=by
   cases p with
   |nil=>
    rw[AVq]at ht0
    cases ht0
    exact⟨.arc v x.st,by rw[show q++[x,Tok.arc x.st v,.ver v,.arc v x.st]=(q++[x,Tok.arc x.st v,.ver v])++[Tok.arc v x.st] by simp,AVq],rfl⟩
   |cons y p=>
    refine⟨t0,?_,rfl⟩
    rw[show q++x::Tok.arc x.st v :: .ver v :: .arc v x.st::y::p=(q++[x,Tok.arc x.st v,.ver v,.arc v x.st])++y::p by simp,AWF]
    rw[show q++x::y::p=(q++[x])++y::p by simp,AWF]at ht0
    exact ht0
  obtain⟨t,e0,e1⟩:=ht
  obtain⟨c,h1,h2⟩:=hC _ hrot t e0
  rw[e1,show q++x::Tok.arc x.st v :: .ver v :: .arc v x.st::p=(q++[x])++Tok.arc x.st v :: .ver v :: .arc v x.st::p by simp,Cs,AUx]at h1
  obtain⟨⟨w1,c1⟩,g1,g2⟩:=h1
  obtain⟨i1,i2,i3⟩:=Gh g1 (J5 _)
  have i3':=i3 x (by simp)
  simp only at i3'
  cases w1 with
  |nil=>simp at i3'
  |cons w0 w'=>
   simp at i3'
   subst i3'
   rw[Ar,AUx]at g2
   obtain⟨s1,k1,k2⟩:=g2
   rcases Bk k1 with⟨v',r,e,_⟩|⟨u',v',r,e,hw,rfl⟩|⟨u',v',r,e,hw,hh,hnc,rfl⟩
   ·cases e
   ·cases e
    simp only[AUl]at hw
    obtain⟨_,rfl⟩:=hw
    exfalso
    rw[Ar,Co,AUy,Ar,AUx]at k2
    obtain⟨s2,m1,_⟩:=k2
    have hnd:=i1.1
    rcases Bk m1 with⟨v',r',e,_⟩|⟨u',v',r',e,hw,rfl⟩|⟨u',v',r',e,hw,hh,hnc,rfl⟩
    ·cases e
    ·cases e
     simp only[AUl]at hw
     obtain⟨_,rfl⟩:=hw
     simp at hnd
    ·cases e
     exact hnc (i1.2 _ (by simp))
   ·cases e
    simp only[AUl,AVt]at hw
    subst hw
    simp only at hnc
    rw[Ar,Co,AUy,Ar,Ez,AUy]at k2
    have hvw:v∉x.st::w':=fun hm=>hnc (i1.2 v hm)
    obtain⟨_,d,m1,m2,m3⟩:=Rq (z:=v) (c:=c1) k2 hvw (fun y=>by simp[or_comm]) hnc
    refine⟨d,?_,fun y => ?_⟩
    ·rw[show q++x::p=(q++[x])++p by simp,Cs,g1,AUy,m1]
    ·have q1:=m2 y
     have q2:=h2 y
     by_cases e:y=v
     ·subst e
      refine⟨fun h=>absurd h m3,fun h => ?_⟩
      rcases AUT.1 h with h|h
      ·exact absurd h.symm hvx
      ·exact absurd h hvl
     ·rw[q2]at q1
      simp only[e,or_false]at q1
      rw[← q1]
      simp[e]
 obtain⟨s,b,a,hsb⟩:∃ s a b,x::l=a ++ .ver s::b:=by
  have:=f2 x (by simp)
  simp only[AUT,reduceCtorEq,false_or,Tok.ver.injEq,hne]at this
  rcases this with h|h
  ·exact⟨x.st,[],l,by rw[← h];rfl⟩
  ·obtain⟨a,b,rfl⟩:=AWr h
   exact⟨x.st,x::a,b,rfl⟩
 have hg:At (.ver s::a++b):=by
  have hr:∃ p q,l=p++q∧q++x::p = .ver s::a++b:=by
   cases b with
   |nil=>
    simp only[AVA,AUl]at hsb
    obtain⟨rfl,rfl⟩:=hsb
    exact⟨l,[],by simp,by simp⟩
   |cons y b=>
    simp only[AUo,AUl]at hsb
    obtain⟨rfl,rfl⟩:=hsb
    exact⟨b,.ver s::a,rfl,by simp⟩
  obtain⟨p,q,hl,e⟩:=hr
  obtain⟨t0,ht0⟩:∃ t0,(q++x::p).getLast? = some t0:=⟨_,AWV (by simp)⟩
  obtain⟨c,h1,h2⟩:=key p q hl t0 ht0
  rw[e]at h1
  have h1':=h1
  rw[AUo,Ar,AUx]at h1'
  obtain⟨s',g1,_⟩:=h1'
  have e':t0.st=s:=by
   simp only[step]at g1
   split at g1
   ·assumption
   ·cases g1
  rw[e']at h1
  refine⟨s,a++b,c,rfl,h1,fun y hy => ?_⟩
  have:=(h2 y).1 hy
  rw[hsb]at this
  simp only[AUQ,AUT]at this ⊢
  rcases this with h|h|h<;>simp[h]
 have hrot2:Rot (.ver s::a++b) (x::l):=⟨.ver s::a,b,rfl,hsb⟩
 have hnx:(x::l).Nodup:=by
  simp only[AUu,AUT,not_or]at hn ⊢
  exact⟨hn.1.2.2.2,hn.2.2.2.2⟩
 exact(hg.toT (hrot2.nodup.2 hnx)).AHc hrot2
theorem T.leaf{l:List Tok}(h:T l):(∃ v,l=[.ver v])∨∃ x v r,Rot l (x :: .arc x.st v :: .ver v :: .arc v x.st::r):=by
 induction h with
 |one v=>exact .inl ⟨v,rfl⟩
 |add x l v h hne hv ih=>exact .inr ⟨x,v,l,Rot.refl _⟩
 |rot a b h ih=>
  rcases ih with⟨v,e⟩|⟨x,v,r,hr⟩
  ·have hr:Rot [.ver v] (b++a):=⟨a,b,e.symm,rfl⟩
   exact .inl ⟨v,List.perm_singleton.1 hr.perm.symm⟩
  ·exact .inr ⟨x,v,r,Rot.trans ⟨b,a,rfl,rfl⟩ hr⟩
def Ia:List Tok→List Int
 |[]=>[]
 |.ver v::l=>v::Ia l
 |.arc _ _::l=>Ia l
theorem Lv{v:Int}:∀ {l:List Tok},v∈Ia l↔.ver v∈l
 |[]=>by simp[Ia]
 |.ver w::l=>by simp[Ia,Lv (l:=l)]
 |.arc _ _::l=>by simp[Ia,Lv (l:=l)]
theorem ABt(a b:List Tok):Ia (a++b)=Ia a++Ia b:=by
 induction a with
 |nil=>rfl
 |cons t a ih=>cases t<;>simp[Ia,ih]
theorem T.len{l:List Tok}(h:T l):l.length+2=3*(Ia l).length:=by
 induction h with
 |one v=>rfl
 |add x l v h hne hv ih=>
  cases x<;>simp[Ia]at ih ⊢<;>omega
 |rot a b h ih=>
  simp only[ABt,AUb]at ih ⊢
  omega
end Go.Pev.Pl.Tok
end
section
namespace Go.Pev.Pl
section
variable {β:Type}
def A3(es:List (Int×β)):List Int:=es.map Prod.fst
theorem OG(es:List (Int×β)):(A3 es).length=es.length:=by simp[A3]
theorem FW(es:List (Int×β))(k:Int)(v:β)(j:Int):AK (Ab es k v) j=if j=k then some v else AK es j:=by
 induction es with
 |nil=>
  simp only[Ab,AK]
  by_cases h:k=j
  ·simp[h]
  ·simp[h,AU1 h]
 |cons e es ih=>
  obtain⟨a,b⟩:=e
  simp only[Ab]
  by_cases h:a=k
  ·subst h
   simp only[AUv,AK]
   by_cases h2:a=j
   ·simp[h2]
   ·simp[h2,AU1 h2]
  ·simp only[h,AUa,AK,ih]
   by_cases h2:a=j
   ·subst h2;simp[h]
   ·simp[h2]
theorem Ks(es:List (Int×β))(k:Int)(v:β):A3 (Ab es k v)=if k∈A3 es then A3 es else A3 es++[k]:=by
 induction es with
 |nil=>rfl
 |cons e es ih=>
  obtain⟨a,b⟩:=e
  simp only[Ab]
  by_cases h:a=k
  ·subst h;simp[A3]
  ·simp only[h,AUa]
   show a::A3 (Ab es k v)=_
   rw[ih]
   have:k∈A3 ((a,b)::es)↔k∈A3 es:=by simp[A3,AU1 h]
   simp only[this]
   split<;>rfl
theorem Pj(es:List (Int×β))(k:Int):AK es k=none↔k∉A3 es:=by
 induction es with
 |nil=>simp[AK,A3]
 |cons e es ih=>
  obtain⟨a,b⟩:=e
  simp only[AK]
  by_cases h:a=k
  ·simp[h,A3]
  ·simp only[h,AUa,ih]
   simp[A3,AU1 h]
theorem D1(es:List (Int×β))(k:Int)(v:β)(j:Int):j∈A3 (Ab es k v)↔j=k∨j∈A3 es:=by
 rw[Ks]
 split
 ·rename_i h
  constructor
  ·exact .inr
  ·rintro (rfl|h2)
   ·exact h
   ·exact h2
 ·simp[or_comm]
theorem HO{es:List (Int×β)}(h:(A3 es).Nodup)(k:Int)(v:β):(A3 (Ab es k v)).Nodup:=by
 rw[Ks]
 split
 ·exact h
 ·rename_i hk
  rw[AWE]
  exact⟨h,by simp,fun a ha b hb=>by rintro rfl;simp at hb;exact hk (hb▸ha)⟩
end
def dd:List Int→List Int→List Int
 |ks,[]=>ks
 |ks,x::xs=>dd (if x∈ks then ks else ks++[x]) xs
theorem ATr:∀ (xs ks:List Int),(dd ks xs).length≤ks.length+xs.length∧((dd ks xs).length=ks.length+xs.length↔xs.Nodup∧∀ x∈xs,x∉ks):=by
 intro xs
 induction xs with
 |nil=>intro ks;simp[dd]
 |cons x xs ih=>
  intro ks
  rw[dd]
  by_cases h:x∈ks
  ·obtain⟨h1,_⟩:=ih ks
   rw[AUf h]
   refine⟨by simp only[AUY];omega,?_,fun hh=>absurd h (hh.2 x (by simp))⟩
   intro e
   simp only[AUY]at e
   omega
  ·obtain⟨h1,h2⟩:=ih (ks++[x])
   rw[AUZ h]
   simp only[AUb,AUY,AU3,AVL]at h1 h2 ⊢
   refine⟨by omega,?_⟩
   rw[show ks.length+(xs.length+1)=ks.length+1+xs.length by omega,h2,AUu]
   constructor
   ·rintro⟨g1,g2⟩
    refine⟨⟨fun hx=>g2 x hx (by simp),g1⟩,fun y hy => ?_⟩
    rcases AUT.1 hy with rfl|hy
    ·exact h
    ·exact fun hk=>g2 y hy (by simp[hk])
   ·rintro⟨⟨g1,g2⟩,g3⟩
    refine⟨g2,fun y hy hk => ?_⟩
    simp only[AUQ,AUt]at hk
    rcases hk with hk|rfl
    ·exact g3 y (by simp[hy]) hk
    ·exact g1 hy
theorem AQu(xs:List Int):(dd [] xs).length=xs.length↔xs.Nodup:=by
 have:=(ATr xs []).2
 simpa using this
theorem By{α β ρ:Type}(g:β→α→α)(fin:α→ρ):∀ (xs:List β) (a:α),walk (fun x a=>.inl (g x a)) fin xs a=fin (xs.foldl (fun a x=>g x a) a):=by
 intro xs
 induction xs with
 |nil=>intro a;rfl
 |cons x xs ih=>intro a;rw[walk,AVN];exact ih _
theorem Ps{σ ρ β:Type}{step:σ→Option (σ⊕ρ)}(st:Nat→σ)(xs:List β)(P:β→Bool)(rt:Nat→ρ)(rf:ρ)(hs:xs.length<9223372036854775808)
  (h:∀ i x,i<xs.length→xs[i]? = some x→step (st i)=if P x then some (.inr (rt i))else some (.inl (st (i+1)))) (hN:step (st xs.length)=some (.inr rf)) :
  Aa step many (st 0)=some (if xs.any P then rt (xs.findIdx P)else rf):=by
 have key:∀ (l:List β) (a:Nat),walk (fun x (a:Nat)=>if P x then .inr (rt a)else .inl (a+1)) (fun _=>rf) l a=if l.any P then rt (a+l.findIdx P)else rf:=by
  intro l
  induction l with
  |nil=>intro a;rfl
  |cons x l ih=>
   intro a
   rw[walk,List.any_cons,AWZ]
   by_cases hx:P x=true
   ·simp[hx]
   ·simp only[hx,AUc,AUa,Bool.false_or,cond_false]
    rw[ih,show a+1+List.findIdx P l=a+(List.findIdx P l+1) by omega]
 have:=Ey (step:=step) (fun i (a:Nat)=>st a) xs (fun x (a:Nat)=>if P x then .inr (rt a)else .inl (a+1)) (fun _=>rf) (fun i a=>a=i) hs
  (fun i x a hi hx ha=>by
   subst ha
   refine⟨fun a' h' => ?_,fun r h' => ?_⟩
   ·rw[h a x hi hx]
    split at h'
    ·cases h'
    ·rename_i hp
     cases h'
     simp[hp]
   ·rw[h a x hi hx]
    split at h'
    ·rename_i hp
     cases h'
     simp[hp]
    ·cases h')
  (fun a ha=>by subst ha;exact hN) 0 rfl
 rw[this,key,AVL]
theorem A0{α:Type}{xs:List α}{n:Nat}{x:α}(h:xs[n]? = some x):idx xs (n:Int)=some x:=by rw[AAc,h]
theorem ANN{α:Type}{xs:List α}{n:Nat}{x z:α}(h:xs[n]? = some x):AN xs (AF (n:Int)) z=x:=by
 rw[OU,AUS,h];rfl
theorem AOU{α:Type}{xs:List α}{h:Nat}(h2:h≤xs.length):G8 xs (0:Int) (h:Int)=some (xs.take h):=by
 have:=AF9 (xs:=xs) (l:=0) (AWT h) h2
 simpa using this
theorem ACJ{α:Type}{xs:List α}{l:Nat}(h1:l≤xs.length):G8 xs (l:Int) (AQ xs)=some (xs.drop l):=by
 have:=AF9 (xs:=xs) h1 (AUV _)
 rw[AWK]at this
 exact this
def pos(xs:List Int)(t:Int):Int:=if t∈xs then((xs.findIdx (fun x=>decide (x=t)):Nat):Int)else -1
theorem ASz(xs:List Int)(t:Int):(xs.any fun x=>decide (x=t))=decide (t∈xs):=by
 induction xs with
 |nil=>rfl
 |cons x xs ih=>simp only[List.any_cons,ih,AUT,Bool.decide_or];congr 1;exact AWd.2 eq_comm
theorem AO0{xs:List Int}{t:Int}(h:t∈xs):∃ k:Nat,pos xs t=(k:Int)∧k<xs.length∧xs[k]? = some t∧xs=xs.take k++t::xs.drop (k+1)∧t∉xs.take k:=by
 have hk:xs.findIdx (fun x=>decide (x=t))<xs.length:=AVw.2 ⟨t,h,by simp⟩
 have hg:xs[xs.findIdx (fun x=>decide (x=t))]'hk=t:=by
  have:=AWh (xs:=xs) (p:=fun x=>decide (x=t)) (w:=hk)
  simpa using this
 refine⟨_,by rw[pos,AUf h],hk,by rw[AUU hk,hg],?_,?_⟩
 ·conv=>lhs;rw[← AVV (xs.findIdx (fun x=>decide (x=t))) xs,AVC hk,hg]
 ·intro hm
  obtain⟨j,hj,e⟩:=List.mem_take_iff_getElem.1 hm
  have:=List.not_of_lt_findIdx (p:=fun x=>decide (x=t)) (xs:=xs) (i:=j) (by omega)
  simp[e]at this
theorem AJx{xs:List Int}{t:Int}(h:t∉xs):pos xs t = -1:=by rw[pos,AUZ h]
end Go.Pev.Pl
end
section
section
namespace Go.Pev.Pl
open Tok
def In(n v:Int):Prop:=1≤n∧n≤64∧0≤v∧v<n
instance (n v:Int):Decidable (In n v):=inferInstanceAs (Decidable (_∧_))
def Sz(n:Int):Prop:=1≤n∧n≤64
instance (n:Int):Decidable (Sz n):=inferInstanceAs (Decidable (_∧_))
theorem Hh(n:Int):Ib (n,())=some (decide (Sz n),()):=by
 rw[Wt,LW]
 simp only[Az]
 by_cases h1:1≤n<;>by_cases h2:n≤64<;>simp[Sz,h1,h2]
theorem Yi(n v:Int):tin (n,v,())=some (decide (In n v),()):=by
 rw[AOM,AJj]
 simp only[Hh,Az,Aq]
 by_cases h1:1≤n<;>by_cases h2:n≤64<;>by_cases h3:0≤v<;>simp[In,Sz,h1,h2,h3]
def AUE(n v:Int):Int:=if In n v then v else -1
def KC(n u v:Int):Int:=if In n u∧In n v∧u≠v then n*(u+1)+v else -1
theorem Hu{n u:Int}(h1:1≤n)(h2:n≤64)(h3:0≤u)(h4:u≤64):0≤n*u∧n*u≤4096:=by
 refine⟨Int.mul_nonneg (by omega) h3,?_⟩
 have:=Int.mul_le_mul h2 h4 h3 (by omega)
 omega
theorem AOQ(n u v:Int):ALK (n,u,v,())=some (KC n u v,()):=by
 rw[AJk,Yj]
 simp only[Yi,KC,Bi]
 by_cases h3:u=v
 ·simp[h3]
 ·by_cases h1:In n u
  ·by_cases h2:In n v
   ·obtain⟨a1,a2,a3,a4⟩:=h1
    obtain⟨b1,b2,b3,b4⟩:=h2
    have hb:=Hu (u:=u+1) a1 a2 (by omega) (by omega)
    rw[Af (n:=u+1) (by omega),Af (n:=n*(u+1)) (by omega),Af (n:=n*(u+1)+v) (by omega)]
    simp[In,a1,a2,a3,a4,b3,b4,h3]
   ·simp[h1,h2,h3]
  ·simp[h1,h3]
def Du(n t:Int):Option Tok:=
 if In n t then some (.ver t)
 else if Sz n∧n≤t∧t<n*(n+1)∧t/n-1≠t % n then some (.arc (t/n-1) (t % n))
 else none
def AF2:Option Tok→Int×Int×Bool×Bool×Unit
 |some (.ver v)=>(v,0,false,true,())
 |some (.arc u v)=>(u,v,true,true,())
 |none=>(0,0,false,false,())
def Ed(n:Int):Tok→Int
 |.ver v=>v
 |.arc u v=>n*(u+1)+v
def okT(n:Int):Tok→Prop
 |.ver v=>In n v
 |.arc u v=>In n u∧In n v∧u≠v
theorem Q7{n u v:Int}(h1:In n u)(h2:In n v):n≤n*(u+1)+v∧n*(u+1)+v<n*(n+1)∧(n*(u+1)+v)/n=u+1∧(n*(u+1)+v) % n=v:=by
 obtain⟨a1,a2,a3,a4⟩:=h1
 obtain⟨b1,b2,b3,b4⟩:=h2
 have e2:n*(u+1)=n*u+n:=by rw[Int.mul_add,Int.mul_one]
 have e3:n*(n+1)=n*n+n:=by rw[Int.mul_add,Int.mul_one]
 have hb:=Hu (u:=u) a1 a2 (by omega) (by omega)
 have hle:n*(u+1)≤n*n:=Int.mul_le_mul_of_nonneg_left (by omega) (by omega)
 have hd:(n*(u+1)+v)/n=u+1:=by
  rw[Int.add_comm,Int.add_mul_ediv_left _ _ (by omega),Int.ediv_eq_zero_of_lt b3 b4];omega
 have hm:(n*(u+1)+v) % n=v:=by
  rw[Int.add_comm,Int.add_mul_emod_self_left,Int.emod_eq_of_lt b3 b4]
 exact⟨by omega,by omega,hd,hm⟩
theorem AKj{n t:Int}(hn:Sz n)(h1:n≤t)(h2:t<n*(n+1)):In n (t/n-1)∧In n (t % n)∧n*(t/n-1+1)+t % n=t:=by
 obtain⟨a1,a2⟩:=hn
 have g1:1≤t/n:=(Int.le_ediv_iff_mul_le (by omega)).2 (by omega)
 have g2:t/n<n+1:=(Int.ediv_lt_iff_lt_mul (by omega)).2 (by rw[Int.mul_comm];exact h2)
 have g3:=Int.emod_nonneg t (show n≠0 by omega)
 have g4:=Int.emod_lt_of_pos t (show 0<n by omega)
 have g5:=Int.mul_ediv_add_emod t n
 refine⟨⟨a1,a2,by omega,by omega⟩,⟨a1,a2,g3,g4⟩,?_⟩
 rw[Int.sub_add_cancel]
 exact g5
theorem ED{n:Int}{t:Tok}(h:okT n t):Du n (Ed n t)=some t:=by
 cases t with
 |ver v=>simp only[okT]at h;simp[Du,Ed,h]
 |arc u v=>
  obtain⟨h1,h2,h3⟩:=h
  obtain⟨g1,g2,g3,g4⟩:=Q7 h1 h2
  have hni:¬ In n (n*(u+1)+v):=fun h=>by have:=h.2.2.2;omega
  have:u+1-1=u:=by omega
  simp only[Du,Ed,hni,AUa,g3,g4,this]
  rw[AUf ⟨⟨h1.1,h1.2.1⟩,g1,g2,h3⟩]
theorem ANM{n x:Int}{t:Tok}(h:Du n x=some t):okT n t∧Ed n t=x:=by
 rw[Du]at h
 split at h
 ·cases h;exact⟨by assumption,rfl⟩
 ·split at h
  ·rename_i hh
   cases h
   obtain⟨d1,d2,d3⟩:=AKj hh.1 hh.2.1 hh.2.2.1
   exact⟨⟨d1,d2,hh.2.2.2⟩,d3⟩
  ·cases h
theorem GX{n u v:Int}(h:okT n (.arc u v)):KC n u v=Ed n (.arc u v):=by
 simp only[okT]at h
 rw[KC,AUf h];rfl
theorem MQ{n:Int}{a b:Tok}(ha:okT n a)(hb:okT n b)(h:Ed n a=Ed n b):a=b:=by
 have:=ED ha
 rw[h,ED hb]at this
 exact(AVa this).symm
theorem AFv(n t:Int)(ht:-9223372036854775808≤t∧t≤9223372036854775807):RT (n,t,())=some (AF2 (Du n t)):=by
 rw[Ws,LV]
 simp only[Hh]
 by_cases hs:Sz n
 ·obtain⟨a1,a2⟩:=hs
  have hb:=Hu (u:=n) a1 a2 (by omega) (by omega)
  have e3:n*(n+1)=n*n+n:=by rw[Int.mul_add,Int.mul_one]
  rw[Af (n:=n+1) (by omega),Af (n:=n*(n+1)) (by omega)]
  simp only[Sz,a1,a2,and_self,AUX,AUh,Aq,Az]
  by_cases h1:t<0
  ·have hni:¬ In n t:=fun h=>by have:=h.2.2.1;omega
   have h2:¬ n≤t:=by omega
   simp only[h1,AUX,Du,hni,AUa,h2,AVv,and_false,AF2]
  ·simp only[h1,AUg]
   by_cases h2:n*(n+1)≤t
   ·have hni:¬ In n t:=fun h=>by have:=h.2.2.2;omega
    have h3:¬ t<n*(n+1):=by omega
    simp only[h2,AUX,Du,hni,AUa,h3,AVv,and_false,AF2]
   ·simp only[h2,AUg]
    by_cases h3:t<n
    ·have hi:In n t:=⟨a1,a2,by omega,h3⟩
     simp only[h3,AUX,Du,hi,AUv,AF2]
    ·have hni:¬ In n t:=fun h=>h3 h.2.2.2
     have hq:t.tdiv n=t/n:=AWC (by omega)
     have hm:t.tmod n=t % n:=Int.tmod_eq_emod_of_nonneg (by omega)
     obtain⟨d1,d2,d3⟩:=AKj (t:=t) ⟨a1,a2⟩ (by omega) (by omega)
     have q1:=d1.2.2.1
     have q2:=d1.2.2.2
     simp only[h3,AUg,R9,Vu,AGj,ACo]
     rw[AUZ (by omega),AUZ (by omega),hq,hm,Af (n:=t/n) (by omega)]
     simp only[]
     rw[Af (n:=t/n-1) (by omega),Bi,Du,AUZ hni]
     by_cases h4:t/n-1=t % n
     ·rw[AUZ (by intro h;exact h.2.2.2 h4),AUO h4];rfl
     ·rw[AUf ⟨⟨a1,a2⟩,by omega,by omega,h4⟩,AUN h4];rfl
 ·have hni:¬ In n t:=fun h=>hs ⟨h.1,h.2.1⟩
  simp only[hs,AUg,AVB,Du,hni,AUa,AVv,AF2]
def Br(n:Nat):List (List Int):=(List.range n).map fun(v:Nat)=>[(v:Int)]
theorem Yr(n:Nat):Br (n+1)=Br n++[[(n:Int)]]:=by simp[Br,AVl]
theorem ACO(n:Nat):(Br n).length=n:=by simp[Br]
theorem AF4(N:Nat)(hN:N≤64)(c:Int):∀ (k i n:Nat),i+k=N→k<n→AT Fy n (c,(N:Int),Br i,(N:Int),(i:Int),())=some (.inl (c,(N:Int),Br N,())):=by
 intro k
 induction k with
 |zero=>
  intro i n hi hn
  obtain⟨n,rfl⟩:∃ k,n=k+1:=⟨n-1,by omega⟩
  have:i=N:=by omega
  subst this
  rw[AT,Fy,AR,AUN (by omega)]
 |succ k ih=>
  intro i n hi hn
  obtain⟨n,rfl⟩:∃ k,n=k+1:=⟨n-1,by omega⟩
  rw[AT,Fy,AR,AUO (by omega)]
  simp only[AZ,ACO,AUY,AU3]
  rw[Db (by omega),AL (by omega)]
  simp only[AA2,← Yr]
  exact ih (i+1) n (by omega) (by omega)
def Qz(n:Int):Int×List (List Int)×Int×Unit:=if Sz n then(n,Br n.toNat,0,())else(0,[],1,())
theorem ALG(n:Int):ACH (n,())=some (Qz n):=by
 have hm:4294967296<many:=by simp only[many];omega
 rw[ACG,Ql,Qz]
 simp only[Hh]
 by_cases h:Sz n
 ·obtain⟨h1,h2⟩:=h
  obtain⟨N,rfl⟩:=AUW (show 0≤n by omega)
  have hS:Sz (N:Int):=⟨by omega,by omega⟩
  have e:=AF4 N (by omega) 0 N 0 many (by omega) (by omega)
  have e':AT Fy many (0,(N:Int),[],(N:Int),(0:Int),())=_:=e
  simp[hS,Ak,e']
 ·simp[h]
end Go.Pev.Pl
end
section
namespace Go.Pev.Pl
theorem Kw(xs:List Int)(t:Int)(hs:xs.length<9223372036854775808):Kx (xs,t,())=some (pos xs t,()):=by
 rw[Xf,L7]
 have e:=Ps (step:=ER) (fun i=>(xs,t,AQ xs,(i:Int),())) xs (fun x=>decide (x=t)) (fun i=>.inl ((i:Int),())) (.inr (.inl ())) hs
  (fun i x hi hx=>by
   rw[ER,AZ,AR,AUO hi]
   simp only[A0 hx,Bi]
   by_cases h:x=t
   ·simp[h]
   ·simp only[h,AU1 h,AUg];rw[AL (by omega)];simp)
  (by rw[ER,AZ,AR,AUN (by omega)])
 have e':Aa ER many (xs,t,AQ xs,(0:Int),())=_:=e
 rw[e',ASz,pos]
 by_cases h:t∈xs<;>simp[h]
theorem HF(xs:List Int)(t:Int)(hs:xs.length<9223372036854775808):Ef (xs,t,())=some (decide (t∈xs),()):=by
 rw[MU,Gx]
 simp only[Kw xs t hs,Az]
 by_cases h:t∈xs
 ·obtain⟨k,e,_⟩:=AO0 h
  rw[e];simp[h]
 ·rw[AJx h];simp[h]
def Rt(xs:List Int):Prop:=xs.length≤1000∧(∀ x∈xs,0≤x∧x≤10000)∧xs.Nodup
instance (xs:List Int):Decidable (Rt xs):=inferInstanceAs (Decidable (_∧_∧_))
theorem AFI(xs:List Int)(hs:xs.length<9223372036854775808):DO (xs,())=some (xs.any (fun x=>decide (x<0)||decide (10000<x)),()):=by
 rw[HX,DV,IV,D5]
 have e:=Ps (step:=Bm) (fun i=>(xs,AQ xs,(i:Int),())) xs (fun x=>decide (x<0)||decide (10000<x)) (fun i=>.inl ((i:Int),())) (.inr (.inl ())) hs
  (fun i x hi hx=>by
   rw[Bm,AZ,AR,AUO hi]
   simp only[A0 hx,Aq]
   rw[AL (by omega)]
   by_cases h:x<0
   ·simp[h]
   ·by_cases h2:10000<x
    ·simp[h,h2]
    ·simp[h,h2])
  (by rw[Bm,AZ,AR,AUN (by omega)])
 have e':Aa Bm many (xs,AQ xs,(0:Int),())=_:=e
 rw[e']
 generalize (xs.any fun x=>decide (x<0)||decide (10000<x))=b
 cases b<;>simp[Az]
theorem APk(xs:List Int)(hs:xs.length<9223372036854775808):once (xs,())=some (decide xs.Nodup,()):=by
 rw[AJ9,Zn]
 have e:=Ey (step:=Hr) (fun i m=>(xs,m,xs,AQ xs,(i:Int),())) xs (fun x m=>.inl (Ab m x (IntKind.wrap .i64 (((AK m x).getD (0:Int))+(1:Int))))) (fun m=>.inl (xs,m,())) (fun _ _=>True) hs
  (fun i x m hi hx _=>by
   refine⟨fun m' h' => ?_,fun r h'=>by cases h'⟩
   cases h'
   rw[Hr,AZ,AR,AUO hi]
   simp only[A0 hx]
   rw[AL (by omega)]
   exact⟨rfl,trivial⟩)
  (fun m _=>by rw[Hr,AZ,AR,AUN (by omega)]) [] trivial
 have e':Aa Hr many (xs,([]:List (Int×Int)),xs,AQ xs,(0:Int),())=_:=e
 rw[e',By]
 have key:∀ (l:List Int) (m:List (Int×Int)),A3 (l.foldl (fun m x=>Ab m x (IntKind.wrap .i64 (((AK m x).getD (0:Int))+(1:Int)))) m)=dd (A3 m) l:=by
  intro l
  induction l with
  |nil=>intro m;rfl
  |cons x l ih=>intro m;rw[AVN,ih,Ks,dd]
 have hk:=key xs []
 generalize xs.foldl (fun m x=>Ab m x (IntKind.wrap .i64 (((AK m x).getD (0:Int))+(1:Int)))) []=m at *
 simp only[AQI]
 have:m.length=(dd [] xs).length:=by rw[← OG,hk];rfl
 rw[this]
 simp only[AQu]
theorem KY(xs:List Int):KZ (xs,())=some (decide (Rt xs),()):=by
 rw[W8,Lb,AZ,Aq]
 by_cases hl:xs.length≤1000
 ·rw[AUN (by omega)]
  simp only[AFI xs (by omega),APk xs (by omega)]
  have hany:(xs.any fun x=>decide (x<0)||decide (10000<x)) = !decide (∀ x∈xs,0≤x∧x≤10000):=by
   rw[AWR]
   simp only[AWL,AVj,AUP,AVr,AVE]
   constructor
   ·rintro⟨x,hx,h⟩ hh
    have:=hh x hx
    omega
   ·intro h
    refine AVG fun hc=>h fun x hx => ?_
    refine AVG fun hn=>hc ⟨x,hx,by omega⟩
  rw[hany]
  by_cases h1:∀ x∈xs,0≤x∧x≤10000
  ·rw[AUO h1]
   by_cases h2:xs.Nodup
   ·rw[AUO h2,AUO (show Rt xs from⟨hl,h1,h2⟩)];rfl
   ·rw[AUN h2,AUN (show ¬ Rt xs from fun h=>h2 h.2.2)];rfl
  ·rw[AUN h1,AUN (show ¬ Rt xs from fun h=>h1 h.2.1)];rfl
 ·rw[AUO (by omega),AUN (show ¬ Rt xs from fun h=>hl h.1)]
def rot(xs:List Int)(k:Nat):List Int:=xs.drop k++xs.take k
theorem AM2(n:Nat)(hn:n<4294967296):AEu ((n:Int),())=some ([],()):=by
 have e0:IntKind.wrap .i64 ((n:Int)-IntKind.wrap .i64 ((0:Int)-0))=(n:Int):=by rw[Af (n:=(0:Int)-0) (by omega),Af (by omega)];omega
 rw[AEt,Q5]
 simp only[e0,Aq]
 rw[AUN (by omega)]
 simp only[]
 by_cases h:0<n
 ·rw[AUO (by omega)]
  have s1:G8 ([]:List Unit) (0:Int) (0:Int)=some []:=by rw[Qm];rfl
  have s2:G8 (AFE (AF (n:Int)) (0:Int)) (0:Int) (0:Int)=some []:=by
   rw[Qm,PD,AUf (by omega)]
   simp
  have s3:T8 (n:Int)=true:=(OR _).2 (by omega)
  simp only[s1,s2,s3]
  rfl
 ·rw[AUN (by omega)]
theorem Gv{α:Type}{xss:List (List α)}{i:Nat}{x:List α}(h:xss[i]? = some x):(xss.take (i+1)).flatten=(xss.take i).flatten++x:=by
 rw[List.take_add_one,h];simp
theorem IW{α:Type}(xss:List (List α))(i:Nat):(xss.take i).flatten.length≤xss.flatten.length:=by
 conv=>rhs;rw[← AVV i xss,List.flatten_append,AUb]
 omega
theorem Py(xss:List (List Int))(hs:xss.length<4294967296)(h:xss.flatten.length<4294967296):IA (xss,())=some (xss.flatten,()):=by
 rw[UT,Jy]
 have e:=Ey (step:=Dd) (fun i (a:Nat)=>(xss,(a:Int),xss,AQ xss,(i:Int),())) xss (fun x a=>.inl (a+x.length)) (fun a=>.inl (xss,(a:Int),())) (fun i a=>a=(xss.take i).flatten.length) (by omega)
  (fun i x a hi hx ha=>by
   refine⟨fun m' h' => ?_,fun r h'=>by cases h'⟩
   cases h'
   have h1:=Gv hx
   have h2:=IW xss (i+1)
   rw[h1,AUb]at h2
   rw[Dd]
   simp only[AZ]
   rw[AR,AUO hi]
   simp only[A0 hx]
   rw[wrap_add (by omega),AL (by omega),Aq,AUN (by omega)]
   exact⟨rfl,by rw[h1,AUb,ha]⟩)
  (fun a _=>by rw[Dd,AZ,AR,AUN (by omega)]) 0 rfl
 have e':Aa Dd many (xss,(0:Int),xss,AQ xss,(0:Int),())=_:=e
 rw[e',By]
 have hsum:∀ (l:List (List Int)) (a:Nat),l.foldl (fun a x=>a+x.length) a=a+l.flatten.length:=by
  intro l
  induction l with
  |nil=>intro a;rfl
  |cons x l ih=>intro a;rw[AVN,ih,AWX,AUb];omega
 rw[hsum,AVL]
 simp only[AM2 _ h]
 have g:=Ey (step:=Dc) (fun i (a:List Int)=>(a,xss,AQ xss,(i:Int),())) xss (fun x a=>.inl (a++x)) (fun a=>.inl (a,())) (fun i a=>a=(xss.take i).flatten) (by omega)
  (fun i x a hi hx ha=>by
   refine⟨fun m' h' => ?_,fun r h'=>by cases h'⟩
   cases h'
   have h1:=Gv hx
   have h2:=IW xss (i+1)
   rw[h1,AUb]at h2
   rw[Dc]
   simp only[AZ]
   rw[AR,AUO hi]
   simp only[A0 hx]
   rw[AL (by omega),Db (by rw[ha];omega)]
   exact⟨rfl,by rw[h1,ha]⟩)
  (fun a _=>by rw[Dc,AZ,AR,AUN (by omega)]) [] rfl
 have g':Aa Dc many ([],xss,AQ xss,(0:Int),())=_:=g
 rw[g',By]
 have hcat:∀ (l:List (List Int)) (a:List Int),l.foldl (fun a x=>a++x) a=a++l.flatten:=by
  intro l
  induction l with
  |nil=>intro a;simp
  |cons x l ih=>intro a;rw[AVN,ih,AWX,AVc]
 rw[hcat]
 rfl
theorem RL(xs:List Int)(k:Nat)(hk:k≤xs.length)(hs:xs.length<2147483648):NL (xs,(k:Int),())=some (rot xs k,()):=by
 rw[Wr,LU]
 simp only[ACJ hk,AOU hk]
 rw[Py _ (by simp) (by simp;omega)]
 simp[rot]
def Bn(xs:List Int)(t:Int):List Int:=rot xs (xs.findIdx (fun x=>decide (x=t)))
def AAr(xs:List Int)(t:Int):List Int×Bool×Unit:=if Rt xs∧t∈xs then(Bn xs t,true,())else([],false,())
theorem R1{xs:List Int}{t:Int}(h:t∈xs):∃ a b,xs=a++t::b∧t∉a∧Bn xs t=t::b++a:=by
 obtain⟨k,e,hk,hg,h1,h2⟩:=AO0 h
 rw[pos,AUf h]at e
 have e':xs.findIdx (fun x=>decide (x=t))=k:=by omega
 refine⟨_,_,h1,h2,?_⟩
 rw[Bn,e',rot]
 congr 1
 rw[AVC hk]
 congr 1
 simpa [hk]using hg
theorem ALY(xs:List Int)(t:Int):XA (xs,t,())=some (AAr xs t):=by
 rw[ACm,Qr,XI,Lg,AAr]
 simp only[KY]
 by_cases hr:Rt xs
 ·have hl:=hr.1
  simp only[hr,AUX,AUh,AVt]
  have e:Aa Dk many (xs,[],[t],AQ [t],(0:Int),())=some (.inl ([pos xs t],())):=by
   have g:=Ey (step:=Dk) (fun i (a:List Int)=>(xs,a,[t],AQ [t],(i:Int),())) [t] (fun x a=>.inl (a++[pos xs x])) (fun a=>.inl (a,())) (fun i a=>a.length=i) (by simp)
    (fun i x a hi hx ha=>by
     refine⟨fun m' h' => ?_,fun r h'=>by cases h'⟩
     cases h'
     rw[Dk,AZ,AR,AUO hi]
     simp only[A0 hx,Kw xs x (by omega)]
     simp only[AUY,AU3]at hi
     rw[AL (by omega),Db (by simp only[AZ,AUY,AU3];omega)]
     exact⟨rfl,by simp[ha]⟩)
    (fun a _=>by rw[Dk,AZ,AR,AUN (by omega)]) [] rfl
   have g':Aa Dk many (xs,[],[t],AQ [t],(0:Int),())=_:=g
   rw[g'];rfl
  rw[e]
  simp only[HF [pos xs t] (-1) (by simp)]
  by_cases h:t∈xs
  ·have hk:xs.findIdx (fun x=>decide (x=t))<xs.length:=AVw.2 ⟨t,h,by simp⟩
   rw[pos,AUf h,AUf h,Bn]
   generalize xs.findIdx (fun x=>decide (x=t))=k at *
   rw[AUN (by simp)]
   have i0:idx [(k:Int)] (0:Int)=some (k:Int):=by rw[MA];rfl
   have d0:AN [(k:Int)] 0 (0:Int)=(k:Int):=rfl
   simp only[AVB,AUh,i0,d0,RL xs k (by omega) (by omega)]
  ·rw[AJx h,AUZ h]
   simp
 ·simp[hr]
def Ge:List Int→Int
 |[]=>0
 |x::xs=>xs.foldl (fun a y=>ES a y) x
theorem AIl:∀ (xs:List Int) (a:Int),(xs.foldl (fun a y=>ES a y) a)≤a∧(∀ x∈xs,xs.foldl (fun a y=>ES a y) a≤x)∧(xs.foldl (fun a y=>ES a y) a=a∨xs.foldl (fun a y=>ES a y) a∈xs):=by
 intro xs
 induction xs with
 |nil=>intro a;simp
 |cons x xs ih=>
  intro a
  rw[AVN]
  obtain⟨h1,h2,h3⟩:=ih (ES a x)
  have hm:ES a x≤a∧ES a x≤x∧(ES a x=a∨ES a x=x):=by
   rw[ES];split<;>omega
  refine⟨by omega,fun y hy => ?_,?_⟩
  ·rcases AUT.1 hy with rfl|hy
   ·omega
   ·exact h2 y hy
  ·rcases h3 with h|h
   ·rcases hm.2.2 with e|e
    ·exact .inl (by rw[h,e])
    ·exact .inr (by rw[h,e];simp)
   ·exact .inr (AUk _ h)
theorem EK{xs:List Int}(h:xs≠[]):Ge xs∈xs∧∀ x∈xs,Ge xs≤x:=by
 cases xs with
 |nil=>exact absurd rfl h
 |cons x xs=>
  obtain⟨h1,h2,h3⟩:=AIl xs x
  refine⟨?_,fun y hy => ?_⟩
  ·rcases h3 with h|h
   ·rw[Ge,h];simp
   ·exact AUk _ h
  ·rcases AUT.1 hy with rfl|hy
   ·exact h1
   ·exact h2 y hy
theorem AR5{xs:List Int}{m:Int}(h1:m∈xs)(h2:∀ x∈xs,m≤x):Ge xs=m:=by
 obtain⟨g1,g2⟩:=EK (List.ne_nil_of_mem h1)
 have:=g2 m h1
 have:=h2 _ g1
 omega
theorem AD8(xs:List Int)(h:xs≠[])(hs:xs.length<9223372036854775808):AMB (xs,())=some (Ge xs,()):=by
 cases xs with
 |nil=>exact absurd rfl h
 |cons x xs=>
  rw[AKG,Zu,AZ,Aq,AUN (by simp only[AUY];omega)]
  have i0:idx (x::xs) (0:Int)=some x:=by rw[MA];rfl
  simp only[i0]
  simp only[AUY]at hs
  have e:=Ey (step:=Hv) (fun i (a:Int)=>(x::xs,a,((i+1:Nat):Int),())) xs (fun y a=>.inl (ES a y)) (fun a=>.inl (a,())) (fun _ _=>True) (by omega)
   (fun i y a hi hy _=>by
    refine⟨fun m' h' => ?_,fun r h'=>by cases h'⟩
    cases h'
    rw[Hv,AZ,AR,AUO (by simp only[AUY];omega)]
    simp only[A0 (xs:=x::xs) (n:=i+1) (by simpa using hy)]
    rw[AL (by omega)]
    exact⟨rfl,trivial⟩)
   (fun a _=>by rw[Hv,AZ,AR,AUN (by simp)]) x trivial
  have e':Aa Hv many (x::xs,x,(1:Int),())=_:=e
  rw[e',By]
  rfl
def plain(xs:List Int):List Int:=if Rt xs∧xs≠[]then Bn xs (Ge xs)else []
theorem AGR(xs:List Int):Ry (xs,())=some (plain xs,()):=by
 rw[W9,Lc,plain]
 simp only[KY]
 by_cases hr:Rt xs
 ·have hl:=hr.1
  simp only[hr,AUX,AUh,AVt]
  by_cases h:xs=[]
  ·subst h;simp[AZ,ET]
  ·have hp:0<xs.length:=List.length_pos_iff.2 h
   rw[AZ,Bi,AUN (by omega)]
   have hm:=(EK h).1
   have hk:xs.findIdx (fun x=>decide (x=Ge xs))<xs.length:=AVw.2 ⟨_,hm,by simp⟩
   simp only[AD8 xs h (by omega),Kw xs _ (show xs.length<9223372036854775808 by omega)]
   rw[pos,AUf hm,AUf (by simpa using h),Bn]
   simp only[RL xs _ (Nat.le_of_lt hk) (by omega)]
 ·simp[hr]
theorem Im{xs:List Int}(hr:Rt xs)(h:xs≠[]):∃ a b,xs=a++Ge xs::b∧plain xs=Ge xs::b++a:=by
 obtain⟨a,b,h1,_,h2⟩:=R1 (EK h).1
 exact⟨a,b,h1,by rw[plain,AUf ⟨hr,h⟩,h2]⟩
end Go.Pev.Pl
end
section
namespace Go.Pev.Pl
open Tok
def TI(n:Int)(xs:List Int):Prop:=∃ L,xs=L.map (Ed n)∧(∀ t∈L,okT n t)∧T L
noncomputable instance (n:Int) (xs:List Int):Decidable (TI n xs):=Classical.propDecidable _
abbrev AJX:=List Int×List (Int×Int)×List (Int×Int)
abbrev ATH:=(Bool×Unit)⊕(List Int×List (Int×Int)×List (Int×Int)×Unit)⊕Unit
def goF(n x:Int)(s:AJX):AJX⊕ATH:=
 match Du n x with
 |none=>.inr (.inl (false,()))
 |some t=>match Tok.step (s.1,A3 s.2.1) t with
  |none=>.inr (.inl (false,()))
  |some s'=>match t with
   |.ver v=>.inl (s'.1,s.2.1,Ab s.2.2 v (IntKind.wrap .i64 (((AK s.2.2 v).getD (0:Int))+(1:Int))))
   |.arc _ v=>.inl (s'.1,if v∈A3 s.2.1 then s.2.1 else Ab s.2.1 v 1,s.2.2)
def one(came:List (Int×Int)):Prop:=∀ k,(0<(AK came k).getD (0:Int))↔k∈A3 came
theorem AL2{came:List (Int×Int)}(h:one came)(v:Int):one (Ab came v 1):=by
 intro k
 rw[FW,D1]
 by_cases e:k=v
 ·simp[e]
 ·simp only[e,AUa,false_or];exact h k
theorem AM7(n:Int)(xs:List Int)(i:Nat)(x:Int)(hx:xs[i]? = some x)(hi:i<xs.length)(hl:xs.length<4294967296)(hxr:-9223372036854775808≤x∧x≤9223372036854775807)
  (w:Int) (r:List Int) (came met:List (Int×Int)) (hr:r.length<4294967295) (hc:one came) (hsub:∀ y∈w::r,y∈A3 came) :
  Gu (n,(w::r).reverse,came,met,xs,AQ xs,(i:Int),())=match goF n x (w::r,came,met)with
   |.inl s=>some (.inl (n,s.1.reverse,s.2.1,s.2.2,xs,AQ xs,((i+1:Nat):Int),()))
   |.inr y=>some (.inr y):=by
 have hd:AQ ((w::r).reverse)=((r.length+1:Nat):Int):=by simp[AZ]
 have e1:IntKind.wrap .i64 (((r.length+1:Nat):Int)-1)=(r.length:Int):=by rw[Ah (by omega)];rfl
 have i1:idx ((w::r).reverse) (r.length:Int)=some w:=by rw[AAc];simp
 have g1:AN ((w::r).reverse) (AF (r.length:Int)) (0:Int)=w:=by rw[OU];simp
 have f1:∀ v:Int,fits (AQ ((w::r).reverse)+AQ [v])=true:=fun v=>Db (by rw[hd,AZ];simp only[AUY,AU3];omega)
 have ap:∀ v:Int,Bs ((w::r).reverse) [v]=(v::w::r).reverse:=fun v=>by simp[AA2]
 rw[Gu,AZ,AR,AUO hi]
 rw[AZ]at hd
 simp only[A0 hx,AFv n x hxr,goF]
 cases ht:Du n x with
 |none=>rfl
 |some t=>
  cases t with
  |ver v=>
   simp only[AF2,AUh,AVB,AZ,hd,e1,i1,g1,Bi,Tok.step]
   rw[AL (by omega)]
   by_cases h:w=v
   ·simp[h]
   ·simp[h]
  |arc u v=>
   simp only[AF2,AUh,AZ,hd,e1,i1,g1,Bi,Tok.step]
   rw[AL (by omega)]
   by_cases h:w=u
   ·subst h
    rw[AUO rfl]
    simp only[AUh]
    cases r with
    |nil=>
     have z:ilt (0:Int) ((([]:List Int).length:Nat):Int)=false:=by rw[Aq];rfl
     simp only[z]
     rw[Aq]
     have hcv:=hc v
     by_cases hv:v∈A3 came
     ·rw[AUO (hcv.2 hv)]
      simp[hv]
     ·rw[AUN (fun h=>hv (hcv.1 h))]
      have f2:=f1 v
      rw[AZ,hd]at f2
      have hz:(AK came v).getD (0:Int)=0:=by rw[(Pj came v).2 hv];rfl
      have w1:IntKind.wrap .i64 ((0:Int)+1)=1:=by rw[Af (by omega)];rfl
      rw[AZ]at f2
      simp only[f2,ap v,hz,w1,hv,AUa,AUv]
    |cons p r=>
     have z:ilt (0:Int) (((p::r).length:Nat):Int)=true:=by rw[Aq,AUO (by simp only[AUY];omega)]
     have e2:IntKind.wrap .i64 ((((p::r).length:Nat):Int)-1)=(r.length:Int):=by
      rw[Ah (by simp only[AUY]at hr ⊢;omega)];rfl
     have i2:idx ((w::p::r).reverse) (r.length:Int)=some p:=by rw[AAc];simp
     have g2:AN ((w::p::r).reverse) (AF (r.length:Int)) (0:Int)=p:=by rw[OU];simp
     simp only[z,e2,i2,g2]
     by_cases hp:p=v
     ·subst hp
      rw[AUO rfl]
      have hmem:p∈A3 came:=hsub p (by simp)
      have s1:G8 ((w::p::r).reverse) (0:Int) (((p::r).length:Nat):Int)=some ((p::r).reverse):=by
       rw[AOU (by simp)]
       rw[List.reverse_cons,List.take_left' (by simp)]
      have t1:DN (AF (((p::r).reverse.length:Nat):Int)) ((w::p::r).reverse)=(p::r).reverse:=by
       rw[DN,AQt,List.reverse_cons (a:=w),List.take_left' rfl]
      simp only[s1,t1,hmem,AUv]
     ·rw[AUN hp]
      simp only[hp,AUa]
      rw[Aq]
      have hcv:=hc v
      by_cases hv:v∈A3 came
      ·rw[AUO (hcv.2 hv)]
       simp[hv]
      ·rw[AUN (fun h=>hv (hcv.1 h))]
       have f2:=f1 v
       rw[AZ,hd]at f2
       have hz:(AK came v).getD (0:Int)=0:=by rw[(Pj came v).2 hv];rfl
       have w1:IntKind.wrap .i64 ((0:Int)+1)=1:=by rw[Af (by omega)];rfl
       rw[AZ]at f2
       simp only[f2,ap v,hz,w1,hv,AUa,AUv]
   ·rw[AUN h]
    simp[h]
end Go.Pev.Pl
end
section
namespace Go.Pev.Pl
open Tok
theorem Eu{a b:List Int}(ha:a.Nodup)(h:∀ x∈a,x∈b):a.length≤b.length:=by
 induction a generalizing b with
 |nil=>simp
 |cons x a ih=>
  obtain⟨b1,b2,rfl⟩:=AWr (h x (by simp))
  rw[AUu]at ha
  have:=ih (b:=b1++b2) ha.2 fun y hy=>by
   have:=h y (AUk _ hy)
   simp only[AUQ,AUT]at this ⊢
   rcases this with h|rfl|h
   ·exact .inl h
   ·exact absurd hy ha.1
   ·exact .inr h
  simp only[AUb,AUY]at this ⊢
  omega
theorem Zr{a b:List Int}(ha:a.Nodup)(h:∀ x∈a,x∈b)(hl:b.length≤a.length):∀ x∈b,x∈a:=by
 intro x hx
 refine AVG fun hn => ?_
 have:=Eu (a:=x::a) (b:=b) (AUu.2 ⟨hn,ha⟩) fun y hy=>by
  rcases AUT.1 hy with rfl|hy
  ·exact hx
  ·exact h y hy
 simp only[AUY]at this
 omega
theorem Rn{way c c2:List Int}(h:∀ x,x∈c↔x∈c2)(t:Tok):
  (Tok.step (way,c) t=none↔Tok.step (way,c2) t=none)∧∀ w1 c1,Tok.step (way,c) t=some (w1,c1)→∃ c1',Tok.step (way,c2) t=some (w1,c1')∧∀ x,x∈c1↔x∈c1':=by
 cases t with
 |ver v=>
  cases way with
  |nil=>simp[Tok.step]
  |cons w r=>
   by_cases e:w=v
   ·simp only[Tok.step,e,AUv]
    exact⟨by simp,fun w1 c1 hh=>by cases hh;exact⟨c2,rfl,h⟩⟩
   ·simp[Tok.step,e]
 |arc u v=>
  cases way with
  |nil=>simp[Tok.step]
  |cons w r=>
   by_cases e:w=u
   ·cases r with
    |nil=>
     by_cases hv:v∈c
     ·simp[Tok.step,e,hv,(h v).1 hv]
     ·have hv2:v∉c2:=fun q=>hv ((h v).2 q)
      simp only[Tok.step,e,AUv,hv,hv2,AUa]
      exact⟨by simp,fun w1 c1 hh=>by cases hh;exact⟨v::c2,rfl,fun x=>by simp[h]⟩⟩
    |cons p r=>
     by_cases e2:p=v
     ·simp only[Tok.step,e,AUv,e2]
      exact⟨by simp,fun w1 c1 hh=>by cases hh;exact⟨c2,rfl,h⟩⟩
     ·by_cases hv:v∈c
      ·simp[Tok.step,e,e2,hv,(h v).1 hv]
      ·have hv2:v∉c2:=fun q=>hv ((h v).2 q)
       simp only[Tok.step,e,AUv,e2,hv,hv2,AUa]
       exact⟨by simp,fun w1 c1 hh=>by cases hh;exact⟨v::c2,rfl,fun x=>by simp[h]⟩⟩
   ·simp[Tok.step,e]
structure GI(s:AJX):Prop where
 ne:s.1≠[]
 one:one s.2.1
 sub:∀ y∈s.1,y∈A3 s.2.1
 nc:(A3 s.2.1).Nodup
 nm:(A3 s.2.2).Nodup
theorem AKa{n x:Int}{s s':AJX}(hi:GI s)(h:goF n x s = .inl s'):
  GI s'∧s'.1.length≤s.1.length+1∧∃ t c1,Du n x=some t∧Tok.step (s.1,A3 s.2.1) t=some (s'.1,c1)∧(∀ x,x∈c1↔x∈A3 s'.2.1)∧(∀ y,y∈A3 s'.2.2↔y∈A3 s.2.2∨Tok.ver y=t):=by
 rw[goF]at h
 cases ht:Du n x with
 |none=>rw[ht]at h;cases h
 |some t=>
  rw[ht]at h
  simp only at h
  cases hs:Tok.step (s.1,A3 s.2.1) t with
  |none=>rw[hs]at h;cases h
  |some q=>
   obtain⟨w1,c1⟩:=q
   rw[hs]at h
   rcases Bk hs with⟨v,r,rfl,hw,e⟩|⟨u,v,r,rfl,hw,e⟩|⟨u,v,r,rfl,hw,hh,hn,e⟩
   ·cases h
    cases e
    refine⟨⟨hi.ne,hi.one,hi.sub,hi.nc,HO hi.nm _ _⟩,by simp,_,_,rfl,hs,fun x=>Iff.rfl,fun y => ?_⟩
    rw[D1]
    simp[or_comm]
   ·cases h
    cases e
    simp only at hw
    have hv:v∈A3 s.2.1:=hi.sub v (by rw[hw];simp)
    simp only[hv,AUv]
    refine⟨⟨by simp,hi.one,fun y hy=>hi.sub y (by rw[hw];exact AUk _ hy),hi.nc,hi.nm⟩,by rw[hw];simp,_,_,rfl,hs,fun x=>Iff.rfl,fun y=>by simp⟩
   ·cases h
    cases e
    simp only at hw hn
    simp only[hn,AUa]
    refine⟨⟨by simp,AL2 hi.one v,fun y hy => ?_,HO hi.nc _ _,hi.nm⟩,by rw[hw];simp,_,_,rfl,hs,fun x => ?_,fun y=>by simp⟩
    ·rw[D1]
     rcases AUT.1 hy with rfl|hy
     ·exact .inl rfl
     ·exact .inr (hi.sub y (by rw[hw];exact hy))
    ·rw[D1,AUT]
def AEx(s:AJX):ATH:=.inr (.inl (s.1.reverse,s.2.1,s.2.2,()))
theorem AM6(n:Int):∀ (xs:List Int) (s:AJX) (c:List Int),GI s→(∀ x,x∈c↔x∈A3 s.2.1) →
  (∃ L s' c',xs=L.map (Ed n)∧(∀ t∈L,okT n t)∧run (s.1,c) L=some (s'.1,c')∧walk (goF n) AEx xs s=AEx s'∧GI s'∧(∀ x,x∈c'↔x∈A3 s'.2.1)∧(∀ x,x∈A3 s'.2.2↔x∈A3 s.2.2∨Tok.ver x∈L)) ∨
  (walk (goF n) AEx xs s = .inl (false,())∧∀ L,xs=L.map (Ed n)→(∀ t∈L,okT n t)→run (s.1,c) L=none):=by
 intro xs
 induction xs with
 |nil=>intro s c hi hc;exact .inl ⟨[],s,c,rfl,by simp,rfl,rfl,hi,hc,by simp⟩
 |cons x xs ih=>
  intro s c hi hc
  rw[walk]
  have bad:∀ {t},Du n x=some t→Tok.step (s.1,A3 s.2.1) t=none→∀ L,x::xs=L.map (Ed n)→(∀ t∈L,okT n t)→run (s.1,c) L=none:=by
   intro t ht hs L hL hok
   cases L with
   |nil=>cases hL
   |cons t' L=>
    simp only[AUs,AUl]at hL
    have h1:=ED (hok t' (by simp))
    rw[← hL.1,ht]at h1
    cases h1
    rw[Ar,((Rn hc t).1).2 hs]
    rfl
  cases hg:goF n x s with
  |inr r=>
   simp only
   have hr:r = .inl (false,())∧∀ L,x::xs=L.map (Ed n)→(∀ t∈L,okT n t)→run (s.1,c) L=none:=by
    rw[goF]at hg
    cases ht:Du n x with
    |none=>
     rw[ht]at hg
     cases hg
     refine⟨rfl,fun L hL hok => ?_⟩
     cases L with
     |nil=>cases hL
     |cons t' L=>
      simp only[AUs,AUl]at hL
      have h1:=ED (hok t' (by simp))
      rw[← hL.1,ht]at h1
      cases h1
    |some t=>
     rw[ht]at hg
     simp only at hg
     cases hs:Tok.step (s.1,A3 s.2.1) t with
     |none=>rw[hs]at hg;cases hg;exact⟨rfl,bad ht hs⟩
     |some q=>
      rw[hs]at hg
      cases t<;>cases hg
   rw[hr.1]
   exact .inr ⟨rfl,hr.2⟩
  |inl s'=>
   simp only
   obtain⟨hi',_,t,c1,ht,hs,hcc,hm⟩:=AKa hi hg
   obtain⟨c1',hs',hcc'⟩:=(Rn (c:=A3 s.2.1) (c2:=c) (fun x=>(hc x).symm) t).2 _ _ hs
   obtain⟨g1,g2⟩:=ANM ht
   rcases ih s' c1' hi' (fun x=>(hcc' x).symm.trans (hcc x))with⟨L,s2,c2,a1,a2,a3,a4,a5,a6,a7⟩|⟨a1,a2⟩
   ·refine .inl ⟨t::L,s2,c2,by simp[g2,a1],?_,by rw[Ar,hs'];exact a3,a4,a5,a6,fun y => ?_⟩
    ·intro y hy
     rcases AUT.1 hy with rfl|hy
     ·exact g1
     ·exact a2 y hy
    ·rw[a7,hm,AUT,or_assoc]
   ·refine .inr ⟨a1,fun L hL hok => ?_⟩
    cases L with
    |nil=>cases hL
    |cons t' L=>
     simp only[AUs,AUl]at hL
     have h1:=ED (hok t' (by simp))
     rw[← hL.1,ht]at h1
     cases h1
     rw[Ar,hs']
     exact a2 L hL.2 fun y hy=>hok y (AUk _ hy)
theorem AGO:∀ {l:List Tok} {s s':List Int×List Int},run s l=some s'→s'.1.getLast? = s.1.getLast? := by
 intro l
 induction l with
 |nil=>intro s s' h;cases h;rfl
 |cons t l ih=>
  intro s s' h
  rw[Ar,AUx]at h
  obtain⟨s1,h1,h2⟩:=h
  rw[ih h2]
  rcases Bk h1 with⟨v,r,rfl,hw,rfl⟩|⟨u,v,r,rfl,hw,rfl⟩|⟨u,v,r,rfl,hw,hh,hn,rfl⟩
  ·rfl
  ·rw[hw,AWv]
  ·rw[hw,AWv]
theorem AOh:∀ {l:List Tok} {s s':List Int×List Int},run s l=some s'→Tok.Inv s→∀ x,Tok.ver x∈l→x∈s'.2:=by
 intro l
 induction l with
 |nil=>intro s s' _ _ x hx;cases hx
 |cons t l ih=>
  intro s s' h hi x hx
  rw[Ar,AUx]at h
  obtain⟨s1,h1,h2⟩:=h
  obtain⟨i1,i2,i3⟩:=Rm h1 hi
  rcases AUT.1 hx with rfl|hx
  ·have:=(Gh h2 i1).2.1
   refine this x (i1.2 x ?_)
   simp only[st]at i3
   exact List.mem_of_head? i3
  ·exact ih h2 i1 x hx
theorem AMK{n:Int}{L:List Tok}(h:(L.map (Ed n)).Nodup):L.Nodup:=by
 rw[List.Nodup,AV9]at h
 exact h.imp fun h e=>h (by rw[e])
theorem AKt{n x:Int}{xs:List Int}(h:TI n (x::xs))(hm:Ge (x::xs)=x):In n x:=by
 obtain⟨L,h1,h2,h3⟩:=h
 obtain⟨v,r,hr⟩:=h3.AFJ
 have hv:Tok.ver v∈L:=(hr.mem _).2 (by simp)
 have hvx:v∈x::xs:=by rw[h1];exact AUm.2 ⟨_,hv,rfl⟩
 have h4:=(EK (xs:=x::xs) (by simp)).2 v hvx
 rw[hm]at h4
 have h5:=(h2 _ hv).2.2.2
 cases L with
 |nil=>cases h1
 |cons t L=>
  simp only[AUs,AUl]at h1
  have h6:=h2 t (by simp)
  cases t with
  |ver w=>rw[h1.1];exact h6
  |arc p q=>
   have:=(Q7 h6.1 h6.2.1).1
   have e:x=n*(p+1)+q:=h1.1
   omega
theorem AQV(n:Int)(xs:List Int)(h0:xs≠[])(hs:xs.length<2147483648)(hr:∀ x∈xs, -9223372036854775808≤x∧x≤9223372036854775807)(hn:xs.Nodup)(hm:∀ x,xs.head? = some x→Ge xs=x):
  AQY (n,xs,())=some (decide (TI n xs),()):=by
 cases xs with
 |nil=>exact absurd rfl h0
 |cons x0 tl=>
  rw[AKZ,AAq]
  have i0:idx (x0::tl) (0:Int)=some x0:=by rw[MA];rfl
  simp only[i0,Yi]
  by_cases hin:In n x0
  ·rw[AUO hin]
   simp only[AUh]
   have hS:GI ([x0],Ab [] x0 1,[]):=by
    refine⟨by simp,fun k => ?_,fun y hy => ?_,?_,by simp[A3]⟩
    ·have:AK (Ab ([]:List (Int×Int)) x0 1) k=if k=x0 then some 1 else none:=by rw[FW];rfl
     rw[this]
     by_cases e:k=x0<;>simp[e,Ab,A3]
    ·simp at hy;subst hy;simp[Ab,A3]
    ·simp[Ab,A3]
   have e:=Ey (step:=Gu) (fun i (s:AJX)=>(n,s.1.reverse,s.2.1,s.2.2,x0::tl,AQ (x0::tl),(i:Int),())) (x0::tl) (goF n) AEx (fun i s=>GI s∧s.1.length≤i+1) (by omega)
    (fun i x s hi hx ⟨hI,hlen⟩=>by
     obtain⟨way,came,met⟩:=s
     cases way with
     |nil=>exact absurd rfl hI.ne
     |cons w r=>
      have hst:=AM7 n (x0::tl) i x hx hi (by omega) (hr x (AUe hx)) w r came met (by simp only[AUY]at hlen hi hs;omega) hI.one hI.sub
      refine⟨fun s' h' => ?_,fun y h' => ?_⟩
      ·rw[h']at hst
       obtain⟨g1,g2,_⟩:=AKa hI h'
       refine⟨hst,g1,?_⟩
       simp only at g2 hlen
       omega
      ·rw[h']at hst
       exact hst)
    (fun s _=>by rw[Gu,AZ,AR,AUN (by omega)];rfl) ([x0],Ab [] x0 1,[]) ⟨hS,by simp⟩
   have e':Aa Gu many (n,[x0],Ab [] x0 1,[],x0::tl,AQ (x0::tl),(0:Int),())=_:=e
   rw[e']
   have hk0:A3 (Ab ([]:List (Int×Int)) x0 1)=[x0]:=rfl
   rcases AM6 n (x0::tl) ([x0],Ab [] x0 1,[]) [x0] hS (fun x=>by rw[hk0])with⟨L,s',c',a1,a2,a3,a4,a5,a6,a7⟩|⟨a1,a2⟩
   ·rw[a4]
    obtain⟨t,L',rfl⟩:∃ t L',L=t::L':=by cases L with
     |nil=>cases a1
     |cons t L'=>exact⟨t,L',rfl⟩
    have ht:t = .ver x0:=by
     have h1:=ED (a2 t (by simp))
     simp only[AUs,AUl]at a1
     rw[← a1.1,Du,AUf hin]at h1
     exact(AVa h1).symm
    subst ht
    have hLn:(Tok.ver x0::L').Nodup:=AMK (n:=n) (by rw[← a1];exact hn)
    have hbot:=AGO a3
    have hvs:=AOh a3 (J5 x0)
    have hk:(A3 s'.2.2).length≤(A3 s'.2.1).length:=Eu a5.nm fun x hx=>by
     have:=(a7 x).1 hx
     simp only[A3,AWJ,AWM,false_or]at this
     exact(a6 x).1 (hvs x this)
    have hiff:(s'.1.length=1∧(A3 s'.2.2).length=(A3 s'.2.1).length)↔TI n (x0::tl):=by
     constructor
     ·rintro⟨l1,l2⟩
      obtain⟨w,hw⟩:=List.length_eq_one_iff.1 l1
      rw[hw]at hbot a3
      simp at hbot
      subst hbot
      refine⟨_,a1,a2,Tok.At.toT ⟨w,L',c',rfl,a3,fun x hx => ?_⟩ hLn⟩
      have h1:=Zr a5.nm (fun x hx=>by
       have:=(a7 x).1 hx
       simp only[A3,AWJ,AWM,false_or]at this
       exact(a6 x).1 (hvs x this)) (by omega) x ((a6 x).1 hx)
      have:=(a7 x).1 h1
      simpa [A3]using this
     ·rintro⟨K,k1,k2,k3⟩
      have hKL:K=Tok.ver x0::L':=by
       have:∀ (A B:List Tok),A.map (Ed n)=B.map (Ed n)→(∀ t∈A,okT n t)→(∀ t∈B,okT n t)→A=B:=by
        intro A
        induction A with
        |nil=>intro B h _ _;cases B with
         |nil=>rfl
         |cons b B=>cases h
        |cons a A ih=>
         intro B h hA hB
         cases B with
         |nil=>cases h
         |cons b B=>
          simp only[AUs,AUl]at h
          rw[MQ (hA a (by simp)) (hB b (by simp)) h.1,ih B h.2 (fun t ht=>hA t (by simp[ht])) fun t ht=>hB t (by simp[ht])]
       exact this _ _ (by rw[← k1,a1]) k2 a2
      subst hKL
      obtain⟨r,l',c,q1,q2,q3⟩:=k3.Ya
      cases q1
      rw[a3]at q2
      cases hs':s'.1 with
      |nil=>rw[hs']at q2;cases q2
      |cons w r'=>
       rw[hs']at q2
       cases q2
       refine⟨rfl,?_⟩
       have:=Eu a5.nc (b:=A3 s'.2.2) fun x hx=>(a7 x).2 (.inr (q3 x ((a6 x).2 hx)))
       omega
    simp only[AEx,Bi,AZ,List.length_reverse]
    rw[OG,OG]at hiff
    by_cases l1:s'.1.length=1
    ·rw[AUO (show(s'.1.length:Int)=1 by omega)]
     simp only[l1,AVt]at hiff
     by_cases l2:s'.2.2.length=s'.2.1.length
     ·rw[AUO (show(s'.2.2.length:Int)=(s'.2.1.length:Int) by omega),AUO (hiff.1 l2)]
     ·rw[AUN (show ¬ (s'.2.2.length:Int)=(s'.2.1.length:Int) by omega),AUN (fun h=>l2 (hiff.2 h))]
    ·rw[AUN (show ¬ (s'.1.length:Int)=1 by omega),AUN (fun h=>l1 (hiff.2 h).1)]
   ·rw[a1]
    have:¬ TI n (x0::tl):=by
     rintro⟨K,k1,k2,k3⟩
     obtain⟨r,l',c,q1,q2,q3⟩:Tok.At K:=by
      obtain⟨t,L',rfl⟩:∃ t L',K=t::L':=by cases K with
       |nil=>cases k1
       |cons t L'=>exact⟨t,L',rfl⟩
      have h1:=ED (k2 t (by simp))
      simp only[AUs,AUl]at k1
      rw[← k1.1,Du,AUf hin]at h1
      cases h1
      exact k3.Ya
     have hr0:r=x0:=by
      subst q1
      simp only[AUs,AUl]at k1
      exact k1.1.symm
     subst hr0
     have:=a2 K k1 k2
     simp only at this
     rw[q2]at this
     cases this
    simp[this]
  ·rw[AUN hin]
   have:¬ TI n (x0::tl):=fun h=>hin (AKt h (hm x0 rfl))
   simp[this]
end Go.Pev.Pl
end
end
section
namespace Go.Pev.Pl.Tok
theorem ASi{v:Int}{p:List Tok}{c:List Int}(h:run ([v],[v]) p=some ([v],c))(hc:∀ x∈c,Tok.ver x∈p)(hn:p.Nodup):T p:=by
 cases p with
 |nil=>
  cases h
  have:=hc v (by simp)
  cases this
 |cons t p=>
  have h':=h
  rw[Ar,AUx]at h'
  obtain⟨s1,h1,h2⟩:=h'
  rcases Bk h1 with⟨y,r,rfl,hw,rfl⟩|⟨a,b,r,rfl,hw,rfl⟩|⟨a,b,r,rfl,hw,hh,hnc,rfl⟩
  ·simp only[AUl]at hw
   obtain⟨rfl,rfl⟩:=hw
   exact At.toT ⟨_,p,c,rfl,h,hc⟩ hn
  ·simp at hw
  ·simp only[AUl]at hw
   obtain⟨rfl,rfl⟩:=hw
   simp only at hnc
   have hne:v≠b:=by rintro rfl;exact hnc (by simp)
   have hT:T ([Tok.arc v b]++comp [Tok.arc v b] [b,v]):=by
    have:comp [Tok.arc v b] [b,v]=[.ver b,.arc b v,.ver v]:=by simp[comp]
    rw[this]
    have h3:=T.add (.ver v) [] b (T.one v) hne (by simp;exact AU1 hne)
    exact T.rot [.ver v] [.arc v b,.ver b,.arc b v] h3
   have:=AQX p [.arc v b] [b,v] [b,v] c v (.arc v b) h2 ⟨by simp;exact AU1 hne,by simp⟩ (by simp) rfl hT (by
    intro x hx
    have e:comp [Tok.arc v b] [b,v]=[.ver b,.arc b v,.ver v]:=by simp[comp]
    rw[e]at hx
    simp at hx
    simp[hx]) hc hn
   exact this
theorem T.join{u v:Int}{a b:List Tok}(hA:T (.ver u::a))(hB:T (.ver v::b))(hd:∀ x,Tok.ver x∈Tok.ver u::a→Tok.ver x∉Tok.ver v::b):
  T (.ver u :: .arc u v::(.ver v::b ++ .arc v u::a)):=by
 obtain⟨_,fA2,fA3⟩:=hA.facts
 obtain⟨_,fB2,fB3⟩:=hB.facts
 have nA:=hA.nodup
 have nB:=hB.nodup
 obtain⟨_,_,c1,e1,h1,m1⟩:=hA.Ya
 cases e1
 obtain⟨_,_,c2,e2,h2,m2⟩:=hB.Ya
 cases e2
 have huv:u≠v:=by rintro rfl;exact hd u (by simp) (by simp)
 have nAB:∀ t,t∈Tok.ver u::a→t∉Tok.ver v::b:=fun t ht hb=>hd _ (fA2 t ht) (fB2 t hb)
 have n1:Tok.arc u v∉Tok.ver u::a:=fun h=>hd v (fA3 _ _ h).2.1 (by simp)
 have n2:Tok.arc u v∉Tok.ver v::b:=fun h=>hd u (by simp) (fB3 _ _ h).1
 have n3:Tok.arc v u∉Tok.ver u::a:=fun h=>hd v (fA3 _ _ h).1 (by simp)
 have n4:Tok.arc v u∉Tok.ver v::b:=fun h=>hd u (by simp) (fB3 _ _ h).2.1
 have hnd:(Tok.ver u :: .arc u v::(.ver v::b ++ .arc v u::a)).Nodup:=by
  rw[AUu]at nA
  have q1:Tok.ver u∉Tok.ver v::b:=nAB _ (by simp)
  rw[AUu,AUu,AWE,AUu (a:=Tok.arc v u)]
  refine⟨?_,?_,nB,⟨fun h=>n3 (AUk _ h),nA.2⟩,fun x hx y hy => ?_⟩
  ·intro h
   rcases AUT.1 h with h|h
   ·cases h
   ·rcases AUQ.1 h with h|h
    ·exact q1 h
    ·rcases AUT.1 h with h|h
     ·cases h
     ·exact nA.1 h
  ·intro h
   rcases AUQ.1 h with h|h
   ·exact n2 h
   ·rcases AUT.1 h with h|h
    ·cases h;exact huv rfl
    ·exact n1 (AUk _ h)
  ·rintro rfl
   rcases AUT.1 hy with h|h
   ·subst h;exact n4 hx
   ·exact nAB x (AUk _ h) hx
 rw[Ar,Co,AUy]at h1
 obtain⟨d2,k1,k2⟩:=Fg (Z:=(· = u)) (c2:=[v,u]) (low:=[u]) h2 (by simp) (fun y=>by simp) (fun p w hm=>by rintro rfl;exact hd w (by simp) (fB3 _ _ hm).2.1) (by simp)
 obtain⟨d3,g1,g2⟩:=Fg (Z:=(·∈c2)) (c2:=d2) (low:=[]) h1 (by simp) (fun y=>by rw[k2];simp[or_comm]) (fun p w hm hz=>hd w (fA3 _ _ (AUk _ hm)).2.1 (m2 w hz)) (by simp)
 refine At.toT ⟨u,_,d3,rfl,?_,fun x hx => ?_⟩ hnd
 ·rw[Ar,Co,AUy,Ar,EE _ _ _ _ (by simp) (by simp;exact AU1 huv),AUy,Cs]
  rw[show([v]++[u]:List Int)=[v,u]from rfl]at k1
  rw[k1,AUy,Ar,Ez,AUy]
  simpa using g1
 ·rcases(g2 x).1 hx with h|h
  ·have:=m1 x h
   simp only[AUT,AUQ]at this ⊢
   rcases this with h|h<;>simp[h]
  ·have:=m2 x h
   simp only[AUT,AUQ]at this ⊢
   rcases this with h|h<;>simp[h]
theorem ATM{u v:Int}(huv:u≠v):∀ {l:List Tok} {x w1 c c1 c0:List Int},run (x++[v,u],c) l=some (w1,c1)→Tok.arc v u∉l→(∀ y,y∈c↔y∈c0∨y=u)→u∉c0 →
  ∃ x' d,w1=x'++[v,u]∧run (x++[v],c0) l=some (x'++[v],d)∧(∀ y,y∈c1↔y∈d∨y=u)∧u∉d:=by
 intro l
 induction l with
 |nil=>intro x w1 c c1 c0 h _ hc hu;cases h;exact⟨x,c0,rfl,rfl,hc,hu⟩
 |cons t l ih=>
  intro x w1 c c1 c0 h hna hc hu
  rw[Ar,AUx]at h
  obtain⟨s1,h1,h2⟩:=h
  have hna':Tok.arc v u∉l:=fun h=>hna (AUk _ h)
  rcases Bk h1 with⟨y,r,rfl,hw,rfl⟩|⟨a,b,r,rfl,hw,rfl⟩|⟨a,b,r,rfl,hw,hh,hnc,rfl⟩
  ·obtain⟨x',d,g1,g2,g3⟩:=ih h2 hna' hc hu
   refine⟨x',d,g1,?_,g3⟩
   simp only at hw
   have:∃ r',x++[v]=y::r':=by
    cases x with
    |nil=>simp at hw;exact⟨[],by simp[hw.1]⟩
    |cons z x=>simp at hw;exact⟨x++[v],by simp[hw.1]⟩
   obtain⟨r',e⟩:=this
   rw[Ar,e,Co,AUy,← e]
   exact g2
  ·simp only at hw
   cases x with
   |nil=>
    simp only[AVA,AUl]at hw
    obtain⟨rfl,rfl,_⟩:=hw
    exact absurd (by simp) hna
   |cons z x=>
    simp only[AUo,AUl]at hw
    obtain⟨rfl,hw⟩:=hw
    simp only[← hw]at h2
    obtain⟨x',d,g1,g2,g3⟩:=ih h2 hna' hc hu
    refine⟨x',d,g1,?_,g3⟩
    have:∃ r',x++[v]=b::r':=by
     cases x with
     |nil=>simp at hw;exact⟨[],by simp[hw.1]⟩
     |cons y x=>simp at hw;exact⟨x++[v],by simp[hw.1]⟩
    obtain⟨r',e⟩:=this
    rw[Ar,AUo,e,Ez,AUy,← e]
    exact g2
  ·simp only at hw hnc
   have hub:u≠b:=by rintro rfl;exact hnc ((hc u).2 (.inr rfl))
   have hbc:b∉c0:=fun h=>hnc ((hc b).2 (.inl h))
   have h2':run ((b::x)++[v,u],b::c) l=some (w1,c1):=by
    rw[← hw]at h2
    exact h2
   obtain⟨x',d,g1,g2,g3⟩:=ih (c0:=b::c0) h2' hna' (fun y=>by simp only[AUT,hc,or_assoc]) (by
    intro hm
    rcases AUT.1 hm with h|h
    ·exact hub h
    ·exact hu h)
   refine⟨x',d,g1,?_,g3⟩
   have:∃ r',x++[v]=a::r'∧r'.head?≠some b:=by
    cases x with
    |nil=>
     simp at hw
     exact⟨[],by simp[hw.1],by simp⟩
    |cons z x=>
     simp only[AUo,AUl]at hw
     refine⟨x++[v],by simp[hw.1],?_⟩
     rw[← hw.2]at hh
     cases x with
     |nil=>simpa using hh
     |cons y x=>simpa using hh
   obtain⟨r',e,e2⟩:=this
   rw[Ar,e,EE _ _ _ _ e2 hbc,AUy,← e]
   exact g2
theorem T.split{u v:Int}{p q:List Tok}(h:T (.arc u v::(p ++ .arc v u::q))):T p∧Tok.ver v∈p:=by
 have hn:=h.nodup
 obtain⟨_,f2,f3⟩:=h.facts
 have huv:u≠v:=(f3 u v (by simp)).2.2.2
 obtain⟨t,ht⟩:∃ t,(Tok.arc u v::(p ++ .arc v u::q)).getLast? = some t:=⟨_,AWV (by simp)⟩
 obtain⟨c,h1,h2⟩:=h.toC _ (Rot.refl _) t ht
 rw[Ar,AUx]at h1
 obtain⟨s1,k1,k2⟩:=h1
 rcases Bk k1 with⟨y,r,e,hw,_⟩|⟨a,b,r,e,hw,_⟩|⟨a,b,r,e,hw,hh,hnc,rfl⟩
 ·cases e
 ·cases e;simp at hw
 ·cases e
  simp only[AUl]at hw
  obtain⟨htu,rfl⟩:=hw
  rw[htu]at k2
  simp only at k2
  rw[Cs,AUx]at k2
  obtain⟨⟨w1,c1⟩,g1,g2⟩:=k2
  have hi:Inv ([v,u],[v,u]):=⟨by simp;exact AU1 huv,by simp⟩
  obtain⟨i1,i2,_⟩:=Gh g1 hi
  rw[AUu,AWE,AUu (a:=Tok.arc v u)]at hn
  have hnp:Tok.arc v u∉p:=fun hm=>hn.2.2.2 _ hm _ (by simp) rfl
  obtain⟨x',d,e1,e2,e3,e4⟩:=ATM (x:=[]) (c0:=[v]) huv g1 hnp (fun y=>by simp) (by simp;exact huv)
  rw[Ar,AUx]at g2
  obtain⟨s2,j1,j2⟩:=g2
  have hx':x'=[]∧s2=([u],c1):=by
   rcases Bk j1 with⟨y,r,e,hw,_⟩|⟨a,b,r,e,hw,hs⟩|⟨a,b,r,e,hw,hh,hnc,_⟩
   ·cases e
   ·cases e
    simp only at hw
    rw[e1]at hw
    cases x' with
    |nil=>
     simp only[AVA,AUl,AVt]at hw
     rw[hs,← hw]
     exact⟨rfl,rfl⟩
    |cons z x'=>
     exfalso
     have hnd:=i1.1
     simp only at hnd
     rw[e1,hw]at hnd
     simp only[AUo,AUl]at hw
     have:v∈u::r:=by rw[← hw.2];simp
     rw[AUu]at hnd
     exact hnd.1 this
   ·cases e
    exact absurd (i2 u (by simp)) hnc
  obtain⟨rfl,rfl⟩:=hx'
  have hmet:∀ x∈d,Tok.ver x∈p:=by
   intro x hx
   have hxu:x≠u:=by rintro rfl;exact e4 hx
   have hx1:x∈c1:=(e3 x).2 (.inl hx)
   have hi2:Inv ([u],c1):=⟨by simp,fun y hy=>by simp at hy;subst hy;exact i2 y (by simp)⟩
   have hx2:=(Gh j2 hi2).2.1 x hx1
   have hx3:=(h2 x).1 hx2
   obtain⟨g,_⟩:=Rq (z:=x) (c:=c1.filter (·≠x)) j2 (by simp;exact hxu) (fun y=>by
    simp only[AVM,AUP]
    constructor
    ·intro hh
     by_cases e:y=x
     ·exact .inr e
     ·exact .inl ⟨hh,by simpa using e⟩
    ·rintro (hh|rfl)
     ·exact hh.1
     ·exact hx1) (by simp)
   simp only[AUT,reduceCtorEq,AUQ,false_or]at hx3
   rcases hx3 with hh|hh
   ·exact hh
   ·exact absurd hh g
  have e2':run ([v],[v]) p=some ([v],d):=e2
  have hvd:v∈d:=(Gh e2' (J5 v)).2.1 v (by simp)
  exact⟨ASi e2' hmet hn.2.1,hmet v hvd⟩
end Go.Pev.Pl.Tok
end
section
namespace Go.Pev
open Go.RowKit
section
variable {P:Program} {g:FuncId}
theorem Ph{na:Nat}{its outs:AE}{rs:List RS}{f:CJ (leaves its)→Option (CJ (leaves outs))}(hf:∀ x,f x=none):AP P g (AG na its outs rs f):=by
 intro R args H fz slot k r hk
 unfold AG at hk
 split at hk
 ·cases hk
 ·split at hk
  ·cases hk
  ·rw[hf]at hk;cases hk
end
section
variable {S:List Nat} {H H':List Ob}
def AKD:AE→Bool
 |[]=>true
 |(.obj _,_)::_=>false
 |_::r=>AKD r
def ATQ(S:List Nat)(v:AV):Prop:=∀ id∈Av v,id∈S
def AJI(S:List Nat)(bs:List Bnd):Prop:=∀ b∈bs,∀ id,b.id? = some id→id∈S
theorem AJI.get{bs:List Bnd}(h:AJI S bs){j:Nat}{b:Bnd}{id:Nat}(hj:bs[j]? = some b)(hi:b.id? = some id):id∈S:=h b (AUe hj) id hi
theorem AJI.snoc{bs:List Bnd}(h:AJI S bs){b:Bnd}(hb:∀ id,b.id? = some id→id∈S):AJI S (bs++[b]):=by
 intro x hx id hi
 rcases AUQ.1 hx with hx|hx
 ·exact h x hx id hi
 ·simp only[AUt]at hx;subst hx;exact hb id hi
theorem ASB{tm:List AV}{bs:List Bnd}{l:Loc}(hS:∀ id∈A9 tm,id∈S)(hc:ABo S H)(hH:∀ id∈S,H[id]? = H'[id]?)(hb:AJI S bs)(hl:∀ j,l≠.obj j):
  look tm H bs l=look tm H' bs l∧∀ v,look tm H bs l=some v→ATQ S v:=by
 cases l with
 |tmp t=>
  refine⟨rfl,fun v hv id hid=>hS id ?_⟩
  exact B1 (AUe hv) hid
 |cell j c=>
  simp only[look]
  cases hj:bs[j]? with
  |none=>exact⟨rfl,fun v hv=>by cases hv⟩
  |some b=>
   cases b with
   |none=>exact⟨rfl,fun v hv=>by cases hv⟩
   |cut id=>exact⟨rfl,fun v hv=>by cases hv⟩
   |whole id=>
    have hid:=hb.get hj (id:=id) rfl
    simp only
    rw[hH id hid]
    refine⟨rfl,fun v hv => ?_⟩
    cases ho:H'[id]? with
    |none=>rw[ho]at hv;cases hv
    |some o=>
     rw[ho]at hv
     cases o<;>simp only at hv<;>first|(cases hv;done)|skip
     rename_i cs
     intro i hi
     exact hc id hid cs (by rw[hH id hid,ho]) i (B1 (AUe hv) hi)
 |cap t i=>
  refine⟨rfl,fun v hv => ?_⟩
  simp only[look]at hv
  cases ht:tm[t]? with
  |none=>rw[ht]at hv;cases hv
  |some a=>
   rw[ht]at hv
   cases a<;>simp only at hv<;>first|(cases hv;done)|skip
   ·rename_i f cs
    intro id hid
    refine hS id (B1 (AUe ht) ?_)
    simp only[Av]
    exact B1 (AUe hv) hid
   ·rename_i f cs
    intro id hid
    refine hS id (B1 (AUe ht) ?_)
    simp only[Av]
    exact B1 (AUe hv) hid
 |obj j=>exact absurd rfl (hl j)
theorem Y4{f:List Nat}{fz fz':List Bool}(hl:fz.length=fz'.length){id:Nat}(h:fz.getD id false=fz'.getD id false):(Ag f fz).getD id false=(Ag f fz').getD id false:=by
 rw[Ax,Ax,h,hl]
theorem ATq{tm:List AV}(hS:∀ id∈A9 tm,id∈S)(hc:ABo S H)(hH:∀ id∈S,H[id]? = H'[id]?):∀ (its:AE) (fz fz':List Bool) (bs:List Bnd),AKD its=true→AJI S bs→fz.length=fz'.length→(∀ id∈S,fz.getD id false=fz'.getD id false) →
  dec tm H its fz bs=dec tm H' its fz' bs:=by
 intro its
 induction its with
 |nil=>intro fz fz' bs _ _ _ _;rfl
 |cons p r ih=>
  intro fz fz' bs hn hb hlen hz
  obtain⟨l,c⟩:=p
  have hno:(∀ j,l≠.obj j)∧AKD r=true:=by
   cases l with
   |obj j=>cases hn
   |tmp t=>exact⟨fun j h=>(by cases h),hn⟩
   |cell a b=>exact⟨fun j h=>(by cases h),hn⟩
   |cap a b=>exact⟨fun j h=>(by cases h),hn⟩
  obtain⟨e1,e2⟩:=ASB hS hc hH hb hno.1
  have ihr:=fun bs hb=>ih fz fz' bs hno.2 hb hlen hz
  have unf:∀ id∈S,Au fz id=Au fz' id:=fun id hid=>by unfold Au;rw[hz id hid]
  cases c with
  |dat t=>
   simp only[dec,← e1]
   cases hv:look tm H bs l with
   |none=>rfl
   |some v=>
    simp only
    rw[BY t v fun id hid=>hH id (e2 v hv id hid)]
    cases Ej H' t v with
    |none=>rfl
    |some q=>
     obtain⟨x,f⟩:=q
     simp only
     rw[ih (Ag f fz) (Ag f fz') bs hno.2 hb (by rw[CL,CL,hlen]) (fun id hid=>Y4 hlen (hz id hid))]
  |own T e=>
   simp only[dec,← e1]
   cases hv:look tm H bs l with
   |none=>rfl
   |some v=>
    cases v with
    |nils e'=>simp only;rw[ihr _ (hb.snoc fun id h=>by cases h)]
    |own id=>
     have hid:id∈S:=e2 _ hv id (by simp[Av])
     simp only
     rw[← hH id hid,unf id hid,ihr _ (hb.snoc fun id' h=>by simp only[Bnd.id?,AUM]at h;subst h;exact hid)]
    |win id off n=>
     have hid:id∈S:=e2 _ hv id (by simp[Av])
     cases off with
     |succ off=>rfl
     |zero=>
      simp only
      rw[← hH id hid,unf id hid,ihr _ (hb.snoc fun id' h=>by simp only[Bnd.id?,AUM]at h;subst h;exact hid)]
    |_=>rfl
  |box n=>
   simp only[dec,← e1]
   cases hv:look tm H bs l with
   |none=>rfl
   |some v=>
    cases v with
    |ptr id off=>
     have hid:id∈S:=e2 _ hv id (by simp[Av])
     cases off with
     |succ off=>rfl
     |zero=>
      simp only
      rw[← hH id hid,ihr _ (hb.snoc fun id' h=>by simp only[Bnd.id?,AUM]at h;subst h;exact hid)]
    |_=>rfl
  |map k v=>
   simp only[dec,← e1]
   cases hv:look tm H bs l with
   |none=>rfl
   |some u=>
    cases u with
    |mp id=>
     have hid:id∈S:=e2 _ hv id (by simp[Av])
     simp only
     rw[← hH id hid,ihr _ (hb.snoc fun id' h=>by simp only[Bnd.id?,AUM]at h;subst h;exact hid)]
    |_=>rfl
  |own' j=>simp only[dec,← e1,ihr bs hb]
  |ptr' j off=>simp only[dec,← e1,ihr bs hb]
  |map' j=>simp only[dec,← e1,ihr bs hb]
  |sub' j=>simp only[dec,← e1,ihr bs hb]
  |win' j=>
   simp only[dec,← e1]
   rw[ihr bs hb]
   cases hv:look tm H bs l with
   |none=>rfl
   |some v=>
    cases v with
    |own id=>
     have hid:id∈S:=e2 _ hv id (by simp[Av])
     cases bs[j]? with
     |none=>rfl
     |some b=>
      cases b with
      |whole id'=>
       refine Eq.trans (b:=match decide (id=id'),H[id]? with
        |true,some (.arr _ _ ys)=>(match dec tm H' r fz' bs with
         |some (xs,bs',g)=>some ((AQ ys,xs),bs',g)
         |none=>none)
        |_,_=>none) rfl ?_
       rw[hH id hid]
       rfl
      |_=>rfl
    |win id off n=>
     cases off with
     |succ off=>cases bs[j]?<;>rfl
     |zero=>
      cases bs[j]? with
      |none=>rfl
      |some b=>cases b<;>rfl
    |_=>cases bs[j]?<;>rfl
  |clo f ps=>simp only[dec,← e1,ihr bs hb]
  |bnd f j=>simp only[dec,← e1,ihr bs hb]
  |prs T j=>
   simp only[dec,← e1]
   cases hv:look tm H bs l with
   |none=>rfl
   |some v=>
    cases v with
    |nils e'=>simp only;rw[ihr _ (hb.snoc fun id h=>by cases h)]
    |own id=>
     have hid:id∈S:=e2 _ hv id (by simp[Av])
     simp only
     rw[← hH id hid,ihr _ (hb.snoc fun id' h=>by simp only[Bnd.id?,AUM]at h;subst h;exact hid)]
    |_=>rfl
  |nil e=>simp only[dec,← e1,ihr bs hb]
theorem AEZ{fz fz':List Bool}:∀ (n:Nat) (bs:List Bnd) (slot:Nat),(∀ s,slot≤s→s<slot+n→Ay H fz s=Ay H' fz' s)→EC H fz (Bv n bs slot) bs=EC H' fz' (Bv n bs slot) bs:=by
 intro n
 induction n with
 |zero=>intro bs slot _;cases bs<;>rfl
 |succ n ih=>
  intro bs slot h
  cases bs with
  |nil=>
   simp only[Bv,EC,List.tail_nil]
   rw[h slot (AUV _) (by omega),ih [] (slot+1) fun s h1 h2=>h s (by omega) (by omega)]
  |cons b bs=>
   cases b with
   |whole id=>
    simp only[Bv,EC,AV1]
    rw[ih bs slot fun s h1 h2=>h s h1 (by omega)]
   |none=>
    simp only[Bv,EC,AV1]
    rw[h slot (AUV _) (by omega),ih bs (slot+1) fun s h1 h2=>h s (by omega) (by omega)]
   |cut id=>
    simp only[Bv,EC,AV1]
    rw[h slot (AUV _) (by omega),ih bs (slot+1) fun s h1 h2=>h s (by omega) (by omega)]
theorem AH{na:Nat}{its outs:AE}{rs:List RS}{f:CJ (leaves its)→Option (CJ (leaves outs))}(hno:AKD its=true)(hn:Nat.ble (CR outs) 4=true):RA (AG na its outs rs f):=by
 intro R args H H' fz fz' slot k S hS hc ha
 have hn4:=Nat.le_of_ble_eq_true hn
 have hd:dec args H its fz []=dec args H' its fz' []:=ATq hS hc ha.heap its fz fz' [] hno (fun b hb=>by cases hb) ha.len ha.wrF
 unfold AG
 rw[hd]
 split
 ·rfl
 ·rename_i x bs fr _
  split
  ·rfl
  ·split
   ·rfl
   ·have hf:∀ (g:List Nat) s,slot≤s→s<slot+CR outs→Ay H (Ag g fz) s=Ay H' (Ag g fz') s:=fun g s h1 h2=>FY ha h1 (by omega) g
    unfold LC
    rw[AEZ (fz:=fz) (fz':=fz') (CR outs) bs slot (hf []),AEZ (fz:=Ag fr fz) (fz':=Ag fr fz') (CR outs) bs slot (hf fr)]
end
def AUA(i:Nat)(args:List AV):Option FuncId:=
 match args[i]? with
 |some (.clo f _)=>some f
 |some (.bnd f _)=>some f
 |_=>none
def Env.FK(E:Env)(g:FuncId)(i:Nat)(c:FuncId)(s:Spec):Env where
 spec x:=match Nat.beq x g with
  |true=>fun R args H fz slot k=>match AUA i args with
   |some c'=>match Nat.beq c' c with
    |true=>s R args H fz slot k
    |false=>E.spec x R args H fz slot k
   |.none=>Option.none
  |false=>E.spec x
 loc x:=match Nat.beq x g with
  |true=>false
  |false=>E.loc x
 loc2 x:=match Nat.beq x g with
  |true=>E.loc2 g
  |false=>E.loc2 x
theorem Env.Ba{P:Program}{E:Env}{g:FuncId}{i:Nat}{c:FuncId}{s:Spec}(h:Ae P E)(hs:AP P g s)(hl2:RA s):Ae P (E.FK g i c s):=by
 refine⟨?_,?_,?_⟩
 ·intro x
  simp only[Env.FK]
  cases hx:Nat.beq x g with
  |false=>exact h.1 x
  |true=>
   have:=AVW hx
   subst this
   intro R args H fz slot k r hk
   simp only at hk
   split at hk
   ·rename_i c' hc'
    split at hk
    ·rename_i hb
     obtain⟨v,e,h1,h2,h3,h4⟩:=hs R args H fz slot k r hk
     exact⟨v,e,h1,fun R' k'=>by simp only[hc',hb];exact h2 R' k',h3,h4⟩
    ·rename_i hb
     obtain⟨v,e,h1,h2,h3,h4⟩:=h.1 x R args H fz slot k r hk
     exact⟨v,e,h1,fun R' k'=>by simp only[hc',hb];exact h2 R' k',h3,h4⟩
   ·cases hk
 ·intro x hx
  simp only[Env.FK]at hx ⊢
  cases hb:Nat.beq x g with
  |true=>rw[hb]at hx;cases hx
  |false=>rw[hb]at hx;exact h.2.1 x hx
 ·intro x hx
  simp only[Env.FK]at hx ⊢
  cases hb:Nat.beq x g with
  |true=>
   rw[hb]at hx
   have:=AVW hb
   subst this
   have h2:=h.2.2 x hx
   intro R args H H' fz fz' slot k S a1 a2 a3
   simp only
   split
   ·split
    ·exact hl2 R args H H' fz fz' slot k S a1 a2 a3
    ·exact h2 R args H H' fz fz' slot k S a1 a2 a3
   ·rfl
  |false=>rw[hb]at hx;exact h.2.2 x hx
end Go.Pev
end
section
namespace Go.Pev
open Go.RowKit Go.ChangeShapes Go.WideShapes Go.ChangeAt
def Ka(P:Program)(rd:TypeId→Option Ty):List Field→Nat→Option Ty
 |[],_=>some .unit
 |f::r,off=>match rd f.type,Ka P rd r (off+P.cellsOf f.type)with
  |some a,some b=>match Nat.beq f.offset off&&Nat.beq (P.cellsOf f.type) a.size with
   |true=>some (.prod a b)
   |false=>none
  |_,_=>none
def FI(P:Program):Nat→TypeId→Option Ty
 |0,_=>none
 |n+1,t=>match P.underlying t with
  |some .bool=>some .bool
  |some (.int k)=>some (.int k)
  |some (.slice e)=>match FI P n e with
   |some a=>match Nat.beq (P.cellsOf e) a.size && !(Nat.beq a.size 0)with
    |true=>some (.slice a)
    |false=>none
   |none=>none
  |some (.array c e)=>match FI P n e with
   |some a=>match Nat.beq (P.cellsOf e) a.size&&Nat.beq (P.cellsOf t) (c*a.size)with
    |true=>some (.arr c a)
    |false=>none
   |none=>none
  |some (.struct fs)=>match Ka P (FI P n) fs.toList 0 with
   |some a=>match Nat.beq (P.cellsOf t) a.size with
    |true=>some a
    |false=>none
   |none=>none
  |_=>none
def wfD:(t:Ty)→t.den→Prop
 |.unit,_=>True
 |.bool,_=>True
 |.int k,n=>k.min≤n∧n≤k.max
 |.slice e,xs=>List.length (α:=e.den) xs≤maxLen∧∀ x∈(xs:List e.den),wfD e x
 |.prod a b,d=>wfD a d.1∧wfD b d.2
 |.arr n e,xs=>List.length (α:=e.den) xs=n∧∀ x∈(xs:List e.den),wfD e x
section
variable {H:Type} {enc:TypeId×Value→H} {P:Program} {w:World} {spare:Nat→Bool} {held:Bool}
abbrev below(w:World):Nat→Prop:=fun b=>b<w.heap.size
theorem ATI{k:IntKind}{n:Int}(h:(Lit.int k n).wf=true):k.min≤n∧n≤k.max:=by
 simpa [Lit.wf]using h
theorem AJq{α:Type}{R:α→List Value→Prop}{k:Nat}:∀ (m:Nat) (f:Nat→List Value),(∀ i,i<m→(f i).length=k∧∃ x,R x (f i))→∃ xs:List α,xs.length=m∧rows R xs ((List.range m).flatMap f)∧∀ x∈xs,∃ i,i<m∧R x (f i):=by
 intro m
 induction m with
 |zero=>intro f _;exact⟨[],rfl,rfl,fun x hx=>by cases hx⟩
 |succ m ih=>
  intro f h
  obtain⟨xs,h1,h2,h3⟩:=ih f fun i hi=>h i (by omega)
  obtain⟨_,x,hx⟩:=h m (by omega)
  refine⟨xs++[x],by simp[h1],?_,fun y hy => ?_⟩
  ·rw[AVl,AWm]
   exact Ik h2 (by simp;exact⟨f m,[],by simp,hx,rfl⟩)
  ·rcases AUQ.1 hy with hy|hy
   ·obtain⟨i,hi,hr⟩:=h3 y hy;exact⟨i,by omega,hr⟩
   ·simp only[AUt]at hy;subst hy;exact⟨m,by omega,hx⟩
theorem AQj{f:Nat→List Value}{k:Nat}:∀ (m:Nat),(∀ i,i<m→(f i).length=k)→∀ (j:Nat) (u:Value),((List.range m).flatMap f)[j]? = some u→∃ i r,i<m∧r<k∧j=i*k+r∧(f i)[r]? = some u:=by
 intro m
 induction m with
 |zero=>intro _ j u h;simp at h
 |succ m ih=>
  intro hl j u h
  rw[AVl,AWm]at h
  have hlen:∀ m',m'≤m→((List.range m').flatMap f).length=m'*k:=by
   intro m' hm'
   induction m' with
   |zero=>simp
   |succ m' ih'=>
    rw[AVl,AWm,AUb,ih' (by omega)]
    simp[hl m' (by omega),AVJ]
  rcases AVF j (m*k)with hj|hj
  ·rw[AUw (by rw[hlen m (AUV _)];exact hj)]at h
   obtain⟨i,r,h1,h2,h3,h4⟩:=ih (fun i hi=>hl i (by omega)) j u h
   exact⟨i,r,by omega,h2,h3,h4⟩
  ·rw[AU2 (by rw[hlen m (AUV _)];exact hj),hlen m (AUV _)]at h
   simp only[AVd,List.flatMap_nil,AVk]at h
   have hr:j-m*k<k:=by
    have:=Da h
    rwa [hl m (by omega)]at this
   exact⟨m,j-m*k,by omega,hr,by omega,h⟩
theorem AQ9(a:Addr)(i j:Nat):(a.add i).add j=a.add (i+j):=by
 unfold Addr.add
 by_cases hi:i=0
 ·subst hi;simp
 ·by_cases hj:j=0
  ·subst hj;simp
  ·have:¬ (i+j=0):=by omega
   simp[hi,hj,AWQ]
theorem AJH{α:Type}[Inhabited α]{n:Nat}{p:Nat→α→Prop}(h:∀ i,i<n→∃ x,p i x):∃ f:Nat→α,∀ i,i<n→p i (f i):=by
 classical
 refine⟨fun i=>if hi:i<n then Classical.choose (h i hi)else default,fun i hi => ?_⟩
 simp only[dif_pos hi]
 exact Classical.choose_spec (h i hi)
theorem AGn{rd:TypeId→Option Ty}{cs:List Value}(hrd:∀ (f:Field) (a:Ty),rd f.type=some a→(P.cellsOf f.type=a.size)→(∃ y:Nat×(DataW H×List MemPlace),DataW.trod enc P w 0 spare held y.1 f.type ((cs.drop f.offset).take (P.cellsOf f.type))=some y.2)→∃ d:a.den,Dat w (below w) a d ((cs.drop f.offset).take (P.cellsOf f.type))∧wfD a d):
  ∀ (fs:List Field) (off:Nat) (t:Ty),Ka P rd fs off=some t→off+t.size=cs.length→(∀ f∈fs,∃ y:Nat×(DataW H×List MemPlace),DataW.trod enc P w 0 spare held y.1 f.type ((cs.drop f.offset).take (P.cellsOf f.type))=some y.2) →
   ∃ d:t.den,Dat w (below w) t d (cs.drop off)∧wfD t d:=by
 intro fs
 induction fs with
 |nil=>
  intro off t h hl _
  simp only[Ka,AUM]at h
  subst h
  refine⟨(),?_,trivial⟩
  show cs.drop off=[]
  simp[Ty.size]at hl
  exact List.drop_eq_nil_of_le (by omega)
 |cons f r ih=>
  intro off t h hl hf
  simp only[Ka]at h
  split at h
  ·rename_i a b ha hb
   split at h
   ·rename_i hc
    simp only[AUM]at h
    subst h
    simp only[AUR]at hc
    have h1:=AVW hc.1
    have h2:=AVW hc.2
    obtain⟨d,hd,hw⟩:=hrd f a ha h2 (hf f (by simp))
    simp only[Ty.size]at hl
    obtain⟨e,he,hw'⟩:=ih (off+P.cellsOf f.type) b hb (by omega) fun g hg=>hf g (by simp[hg])
    refine⟨(d,e),⟨(cs.drop off).take (P.cellsOf f.type),cs.drop (off+P.cellsOf f.type),?_,?_,he⟩,hw,hw'⟩
    ·rw[← AV0,AVV]
    ·rw[h1]at hd;exact hd
   ·cases h
  ·cases h
theorem AN5:∀ (n:Nat) (t:TypeId) (ty:Ty) (fuel:Nat) (cs:List Value) (x:DataW H×List MemPlace),FI P n t=some ty→DataW.trod enc P w 0 spare held fuel t cs=some x→∃ d:ty.den,Dat w (below w) ty d cs∧wfD ty d:=by
 intro n
 induction n with
 |zero=>intro t ty fuel cs x h;cases h
 |succ n ih=>
  intro t ty fuel cs x h hx
  simp only[FI]at h
  split at h
  ·rename_i hu
   simp only[AUM]at h;subst h
   obtain⟨b,rfl,_⟩:=DataW.trod_bool hu hx
   exact⟨b,rfl,trivial⟩
  ·rename_i k hu
   simp only[AUM]at h;subst h
   obtain⟨m,rfl,_,hw⟩:=DataW.trod_int hu hx
   exact⟨m,rfl,ATI hw⟩
  ·rename_i e hu
   split at h
   ·rename_i a ha
    split at h
    ·rename_i hc
     simp only[AUM]at h;subst h
     rw[AUR]at hc
     have hpos:a.size≠0:=fun h0=>by rw[h0]at hc;simp at hc
     have hc:=AVW hc.1
     rcases DataW.trod_slice hu hx with⟨rfl,_⟩|⟨ad,len,cap,elems,rest,m,rfl,rfl,_,_,hle,hmax,hlen,hel,_⟩
     ·exact⟨[],⟨none,0,rfl,AUV _,fun hne=>absurd rfl hne⟩,AWT _,fun x hx=>by cases hx⟩
     ·-- each element
      have each:∀ i,i<len→∃ cs',w.cells? 0 (ad.add (i*P.cellsOf e)) (P.cellsOf e)=some cs'∧∃ d:a.den,Dat w (below w) a d cs'∧wfD a d:=by
       intro i hi
       have h1:=hel i hi
       rw[AUU (by omega),AUx]at h1
       obtain⟨cs',h2,h3⟩:=h1
       exact⟨cs',h2,ih e a m cs' _ ha h3⟩
      obtain⟨f,hf⟩:=AJH (α:=List Value) (p:=fun i cs'=>w.cells? 0 (ad.add (i*P.cellsOf e)) (P.cellsOf e)=some cs'∧∃ d:a.den,Dat w (below w) a d cs'∧wfD a d) each
      have hfl:∀ i,i<len→(f i).length=a.size:=by
       intro i hi
       obtain⟨_,hl,_⟩:=World.cells?_some (hf i hi).1
       rw[hl,hc]
      obtain⟨xs,h1,h2,h3⟩:=AJq (R:=fun(d:a.den) cs=>Dat w (below w) a d cs∧wfD a d) (k:=a.size) len f fun i hi=>⟨hfl i hi,(hf i hi).2⟩
      refine⟨xs,⟨some ad,cap,by rw[h1],by rw[h1];exact hle,fun hne=>⟨ad,(List.range len).flatMap f,rfl,?_,BJ (fun x _ cs hx=>hx.1) h2,fun j u hu => ?_⟩⟩,by rw[h1];exact AVT hle hmax,fun x hx => ?_⟩
      ·-- the block is there
       have hl0:0<len:=by
        rcases AVZ len with h0|h0
        ·exact absurd (AUr (by rw[h1,h0])) hne
        ·exact h0
       have hb:=World.cells?_block (hf 0 hl0).1 (by omega)
       rw[AWq]at hb
       have e0:ad.add 0=ad:=by simp[Addr.add]
       rw[e0]at hb
       exact hb
      ·obtain⟨i,r,hi,hr,rfl,hur⟩:=AQj len hfl j u hu
       obtain⟨_,_,hcell⟩:=World.cells?_some (hf i hi).1
       have:=hcell r (by rw[hc];exact hr)
       rw[hur]at this
       rw[← this,hc,AQ9]
      ·obtain⟨i,_,hr⟩:=h3 x hx
       exact hr.2
    ·cases h
   ·cases h
  ·rename_i c e hu
   split at h
   ·rename_i a ha
    split at h
    ·rename_i hc
     simp only[AUM]at h;subst h
     rw[AUR]at hc
     have hc1:=AVW hc.1
     have hc2:=AVW hc.2
     obtain⟨xs,m,rfl,_,hl,hxs,hfs⟩:=DataW.trod_array hu hx
     rw[hc2]at hl
     obtain⟨ys,h1,h2,h3⟩:=AJq (R:=fun(d:a.den) cs=>Dat w (below w) a d cs∧wfD a d) (k:=a.size) c (fun i=>(cs.drop (i*a.size)).take a.size) fun i hi=>by
      have hi1:i*a.size+a.size≤c*a.size:=by
       have:=AU8 a.size (show i+1≤c from hi)
       rwa [AVJ,AVo]at this
      have h1:=hfs i hi
      rw[AUU (by omega),hc1]at h1
      exact⟨by rw[AUq,AVD,hl];omega,ih e a m _ _ ha h1⟩
     have hjoin:∀ k,k≤c→(List.range k).flatMap (fun i=>(cs.drop (i*a.size)).take a.size)=cs.take (k*a.size):=by
      intro k
      induction k with
      |zero=>intro _;simp
      |succ k ihk=>
       intro hk
       rw[AVl,AWm,ihk (by omega),AVJ,AVo,List.take_add]
       simp
     rw[hjoin c (AUV _),← hl,AWK]at h2
     exact⟨ys,⟨h1,BJ (fun x _ cs hx=>hx.1) h2⟩,h1,fun x hx=>by obtain⟨i,_,hr⟩:=h3 x hx;exact hr.2⟩
    ·cases h
   ·cases h
  ·rename_i fs hu
   split at h
   ·rename_i a ha
    split at h
    ·rename_i hc
     simp only[AUM]at h;subst h
     have hc:=AVW hc
     obtain⟨xs,m,rfl,_,hl,hxs,hfs⟩:=DataW.trod_struct hu hx
     obtain⟨d,hd,hw⟩:=AGn (enc:=enc) (w:=w) (spare:=spare) (held:=held) (cs:=cs) (fun f b hb _ ⟨y,hy⟩=>ih f.type b y.1 _ y.2 hb hy) fs.toList 0 _ ha (by rw[hl,hc];omega) (fun f hf=>by
      obtain⟨i,hi⟩:=List.getElem?_of_mem hf
      have h1:=hfs i f (by simpa using hi)
      have hlt:i<xs.length:=by rw[hxs];simpa using Da hi
      rw[AUU hlt]at h1
      exact⟨(m,xs[i]),h1⟩)
     rw[AWs]at hd
     exact⟨d,hd,hw⟩
    ·cases h
   ·cases h
  ·cases h
theorem AHb{r:Reach}{b0:Nat}{t:TypeId}{v:Value}(hval:Value.okWide P w r b0 t v)(hn:∀ d,P.underlying t=some d→(match d with|.bool|.int _|.slice _=>true|_=>false)=true){ty:Ty}{n:Nat}(h:FI P (n+1) t=some ty):v.cells.toList=[v]:=by
 simp only[Value.okWide]at hval
 have hu:∃ d,P.underlying t=some d:=by
  cases hu:P.underlying t with
  |none=>simp only[FI,hu]at h;cases h
  |some d=>exact⟨d,rfl⟩
 obtain⟨d,hu⟩:=hu
 have:=hn d hu
 rw[hu]at hval
 cases d<;>simp only[AUc]at this<;>simp only[Cell.okWide,hu]at hval<;>cases v<;>first|rfl|(simp_all [Cell.ok])
theorem AB5{r:Reach}{b0:Nat}{t:TypeId}{v:Value}{ps:List MemPlace}{dd:DataW H}(hval:Value.okWide P w r b0 t v)(hd:DataW.Trod enc P w 0 spare held t v dd ps){ty:Ty}{n:Nat}(h:FI P (n+1) t=some ty):
  ∃ d:ty.den,BW w (below w) ty d v∧wfD ty d:=by
 obtain⟨fuel,hf⟩:=hd
 obtain⟨d,h1,h2⟩:=AN5 (n+1) t ty fuel _ _ h hf
 refine⟨d,?_,h2⟩
 have one:(∀ d,P.underlying t=some d→(match d with|.bool|.int _|.slice _=>true|_=>false)=true)→ty.isAgg=false→BW w (below w) ty d v:=by
  intro hn hg
  unfold BW
  rw[hg]
  rw[AHb hval hn h]at h1
  exact h1
 have agg:(∃ cs,v = .agg cs)→ty.isAgg=true→BW w (below w) ty d v:=by
  rintro⟨cs,rfl⟩ hg
  unfold BW
  rw[hg]
  exact⟨cs,rfl,h1⟩
 have hu:∃ d,P.underlying t=some d:=by
  cases hu:P.underlying t with
  |none=>simp only[FI,hu]at h;cases h
  |some d=>exact⟨d,rfl⟩
 obtain⟨td,hu⟩:=hu
 simp only[FI,hu]at h
 split at h
 ·rename_i hq;cases hq;simp only[AUM]at h;subst h
  exact one (fun d hd=>by rw[hu]at hd;cases hd;rfl) rfl
 ·rename_i k hq;cases hq;simp only[AUM]at h;subst h
  exact one (fun d hd=>by rw[hu]at hd;cases hd;rfl) rfl
 ·rename_i e hq;cases hq
  split at h
  ·split at h
   ·simp only[AUM]at h;subst h
    exact one (fun d hd=>by rw[hu]at hd;cases hd;rfl) rfl
   ·cases h
  ·cases h
 ·rename_i c e hq;cases hq
  have hv:∃ cs,v = .agg cs:=by
   simp only[Value.okWide,hu]at hval
   obtain⟨cs,rfl,_⟩:=hval
   exact⟨cs,rfl⟩
  split at h
  ·split at h
   ·simp only[AUM]at h;subst h
    exact agg hv rfl
   ·cases h
  ·cases h
 ·rename_i fs hq;cases hq
  have hv:∃ cs,v = .agg cs:=by
   simp only[Value.okWide,hu]at hval
   obtain⟨cs,rfl,_⟩:=hval
   exact⟨cs,rfl⟩
  split at h
  ·rename_i a ha
   split at h
   ·simp only[AUM]at h;subst h
    refine agg hv ?_
    cases hfs:fs.toList with
    |nil=>rw[hfs]at ha;simp only[Ka,AUM]at ha;subst ha;rfl
    |cons f r=>
     rw[hfs]at ha
     simp only[Ka]at ha
     split at ha
     ·split at ha
      ·simp only[AUM]at ha;subst ha;rfl
      ·cases ha
     ·cases ha
   ·cases h
  ·cases h
 ·cases h
theorem Wm{g:FuncId}{s:Spec}(hs:AP P g s){args:List AV}{b:Bool}{e:Eff}(hrun:s (AV×Eff) args [] [] 0 (fun v e=>some (v,e))=some (.data .bool b,e)){vals:List Value}
  (hr:AW w (below w) (fun _=>none) [] args vals):Calls P g vals.toArray w fun en w'=>en = .returned (.bool b)∧Below w.heap.size w w':=by
 obtain⟨v,e',h1,_,_,h4⟩:=hs _ args [] [] 0 _ _ hrun
 simp only[AUM,AUp]at h1
 obtain⟨rfl,rfl⟩:=h1
 have hi:HI w (below w) (fun _=>none) [] []:=⟨fun id o h=>by simp at h,fun i j b c b' c' h=>by simp[owned]at h,fun i b c h=>by simp[owned]at h,fun i T t xs b c h=>by simp at h,fun b h=>h,rfl⟩
 refine(h4 w _ _ vals hi hr).mono ?_
 rintro en w' ⟨u,rfl,F',m',⟨hx,_⟩,hu⟩
 have hb:u = .bool b:=CF hu
 subst hb
 exact⟨rfl,hx.os,hx.tape,hx.output,hx.size,fun i hi=>hx.keep i hi fun j c ho _=>by simp[owned]at ho⟩
end
section
variable {H:Type} {enc:TypeId×Value→H} {P:Program}
theorem Vv{f:Func}{s:ChangeSpec}{apart fresh handsOn again:Bool}{W W':World}{args:Array Value}{v:Value}{ds gs:List (DataW H)}{before pa pv:List MemPlace}
  (hW:DataW.Whole enc P f.params.toList s.vars apart W args.toList ds gs before)
  (hres:∀ (b:Nat) (sp:Nat→Bool) (hd:Bool),DataW.TrodAll enc P W' b sp hd f.resultTypes.toList (v.resultList f.resultTypes.size) (s.fn H (ds++gs)).results [])
  (hargs:∀ sp:Nat→Bool,(∀ p∈before,sp p.block=true)→DataW.TrodAll enc P W' 0 sp true f.params.toList args.toList (s.fn H (ds++gs)).args pa)
  (hvars:∀ sp:Nat→Bool,(∀ p∈before,sp p.block=true)→DataW.TrodVars enc P W' sp s.vars (s.fn H (ds++gs)).vars pv)
  (hps:before=pa++pv) (hb:Below W.heap.size W W')
  (hok:∀ (j:Nat) (t:TypeId) (r:Value),f.resultTypes[j]? = some t→(v.resultList f.resultTypes.size)[j]? = some r→Value.okWide P W' .any 0 t r) :
  s.post enc P f apart fresh handsOn again W args v W':=by
 have hlt:∀ p∈before,p.block<W.heap.size:=fun p hp=>hW.lt p hp
 have hold:∀ p∈before,(fun b=>decide (b<W.heap.size)) p.block=true:=fun p hp=>by simpa using hlt p hp
 refine⟨ds,gs,before,[],pa,pv,hW,hres _ _ _,hargs _ hold,hvars _ hold,World.keptBut_mono (fun p hp=>⟨hp,?_⟩) (hb.frame (·∈before)),fun _ => ?_⟩
 ·rw[hps,AUQ]at hp
  exact Or.inr hp
 ·obtain⟨_,_,_,_,_,hz,hn⟩:=hW
  refine⟨hok,_,_,([]++pa)++pv,⟨[]++pa,pv,trodAll_append (hargs _ (fun _ _=>rfl)) (hres _ _ _),hvars _ (fun _ _=>rfl),rfl,?_,?_⟩,?_⟩
  ·intro b off hp
   have hin:MemPlace.cell b off∈before:=by rw[hps];simpa using hp
   rw[hb.frozen (hlt _ hin)]
   exact hz b off hin
  ·intro ha
   have:=hn ha
   rw[hps]at this
   simpa using this
  ·intro p hp _
   rw[hps]
   simpa using hp
theorem RY{t:TypeId}(hl:laidOutB P=true)(hr:P.readableRec t=true)(hrow:t<P.types.size){W W':World}{v:Value}{d:DataW H}{ps:List MemPlace}
  (h:DataW.Trod enc P W 0 (fun _=>true) true t v d ps) (hb:Below W.heap.size W W') (hlt:∀ x∈ps,x.block<W.heap.size) {sp:Nat→Bool} (hs:∀ x∈ps,sp x.block=true) :
  DataW.Trod enc P W' 0 sp true t v d ps:=
 WideElems.Trod_stays hl hr hrow h (fun x hx=>hb.same (hlt x hx)) hs
end
end Go.Pev
end
