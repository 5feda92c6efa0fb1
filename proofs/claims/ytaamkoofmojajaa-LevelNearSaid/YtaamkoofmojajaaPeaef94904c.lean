/- A part of the proofs of this seat: G21M1 G21M2 G21M3 G21M Pln PlnB T18a T18b T18c PlnM RKA T18d PevTake PevClaim. -/
import Derived.Test.YtaamkoofmojajaaPfa0a093a82
import Derived.IntWalk
import Derived.Sort.AssemblyPlain
import Derived.ProofKit
import Derived.ChangeArms
import Derived.ReadAgain
import Derived.Deep.Slices
import Derived.OpenShut
set_option linter.unusedVariables false
set_option linter.unusedSimpArgs false
set_option linter.unusedSectionVars false
set_option maxRecDepth 100000
section
namespace Go.Pev
noncomputable section
attribute [local irreducible] P1 K0 OS PN AT8 AT9 AUA WC AG9 ZC ACt AJb AT many IntKind.wrap AQ Aj AN Bt DR FQ AFc AF C4 EW imax AL Ab
abbrev U0:Ty:=(.int .i64)
abbrev U1:Ty:=(.slice (.prod U0 (.prod U0 (.prod U0 (.prod .bool .unit)))))
abbrev U2:=(Int×Int×Int×Bool×Unit)
abbrev U3:=(List Int)
abbrev U4:=(List Int×Int×Int×Int×Unit)
abbrev U5:Ty:=(.slice U0)
abbrev U6:=(List U3×Int×Int×Int×Unit)
abbrev U7:=(Int×Unit)
abbrev U8:=(Int×Int×Unit)
abbrev U9:=(List Int×Unit)
abbrev Ua:=(List U3×Int×Int×Unit)
abbrev Ub:Ty:=(.prod U0 (.prod U0 .unit))
abbrev Uc:=(List U3×Int×Int×Int×Int×Unit)
abbrev Ud:=(List Int×Int×Int×Int×Int×Unit)
abbrev Ue:=(List Int×Int×Int×Unit)
abbrev Uf:=(List U3×Unit)
abbrev Ug:Ty:=(.slice U5)
abbrev Uh:=(Bool×Unit)
abbrev Ui:Ty:=(.prod U0 (.prod U1 .unit))
abbrev Uj:=(Int×(List U2)×Unit)
abbrev Uk:Ty:=(.prod U0 (.prod Ug .unit))
abbrev Ul:=(Int×(List U3)×Unit)
abbrev Um:=(List Int×Int×Int×Int×Int×Int×Unit)
abbrev Un:=(List U3×Int×Int×Int×Int×Int×Unit)
abbrev Uo:=(Int×List U3×List (Int×Int)×Int×List U3×Int×Int×List Int×Int×Int×Bool×List Int×Bool×Bool×List Int×Int×List Int×Int×Bool×Int×List Int×Bool×Bool×List Int×Int×Int×Unit)
abbrev Up:=(List Int×Int×Int×Int×Bool×Bool×Unit)
abbrev Uq:=(Int×Int)
abbrev Ur:=(Int×List U2×Int×List Int×List Int×Int×Int×Int×Unit)
abbrev Us:=(List Int×Int×Unit)
abbrev Ut:=(Int×List U2×Int×List Int×List Int×Int×Int×Unit)
abbrev Uu:=(List Int×List Int×Unit)
abbrev Uv:=(Int×List U2×Int×List Int×List Int×Int×Int×Int×Int×List Int×Int×Unit)
abbrev Uw:Ty:=(.prod U0 (.prod U0 (.prod U0 (.prod .bool .unit))))
abbrev Ux:Ty:=(.slice Ub)
abbrev Uy:=(U6⊕U6⊕Unit)
abbrev Uz:=(U4⊕U4⊕Unit)
abbrev V0:=(List U3×Int×Unit)
abbrev V1:=(List Int×List U3×Int×List U3×Int×List U3×List U3×Int×Int×Unit)
abbrev V2:=(Int×List U3×Int×Unit)
abbrev V3:=(Int×List U8×List Int×Bool×Unit)
abbrev V4:=(Int×List U2×Int×List Int×List Int×Int×Int×Int×Int×Unit)
abbrev V5:=(Int×List U2×List U8×Int×Unit)
abbrev Tz:AE:=[(.tmp 0,.dat U5),(.tmp 1,.dat U5)]
abbrev Tx:AE:=[(.tmp 0,.dat .bool)]
abbrev Tw:List RS:=[.one]
abbrev Xp:AE:=[(.tmp 0,.dat U5),(.tmp 1,.dat U5),(.tmp 5,.di)]
abbrev Xo:A2:=[(.ret,[(.tmp 4,.dat .bool)]),(.exit 0,[])]
def OQ[Lk]:(List Int×List Int×Int×Unit)→Option ((List Int×List Int×Int×Unit)⊕Uh⊕(Unit)⊕Unit):=fun(a0,a1,a2,_)=>
 match(ilt a2 (AQ a0))with
 |true=>match idx a0 a2 with|none=>none|some x0=>match idx a1 a2 with|none=>none|some x1=>match(!(ieq x0 x1))with
  |true=>some (.inr (.inl (false,())))
  |false=>some (.inl (a0,a1,(IntKind.wrap .i64 (a2+1)),()))
 |false=>some (.inr (.inr (.inl ())))
def T2[Lk]:Uu→Option (Uh):=fun(a0,a1,_)=>
 match(!(ieq (AQ a0) (AQ a1)))with
 |true=>some (false,())
 |false=>match AZ OQ many (a0,a1,0,())with|none=>none|some r=>match r with
 |.inl (o0,_)=>some (o0,())
 |.inr r=>match r with
 |.inl _=>some (true,())
 |.inr _=>none
def OR[Lk]:=fun v=>Lk.f (T2 v)
theorem ANF v:OR v=T2 v:=AJ _
abbrev Rj:AE:=[(.tmp 0,.di)]
abbrev Ri:AE:=[(.tmp 0,.dat .bool)]
abbrev Rh:List RS:=[.one]
def LU[Lk]:U7→Option (Uh):=fun(a0,_)=>
 match(ile 1 a0)with
 |true=>some ((ile a0 64),())
 |false=>some (false,())
def Ie[Lk]:=fun v=>Lk.f (LU v)
theorem W6 v:Ie v=LU v:=AJ _
abbrev AOo:AE:=[(.tmp 0,.di),(.tmp 1,.di)]
abbrev AOn:AE:=[(.tmp 0,.dat .bool)]
abbrev AOm:List RS:=[.one]
def AKB[Lk]:U8→Option (Uh):=fun(a0,a1,_)=>
 match Ie (a0,())with|none=>none|some (y0,_)=>match y0 with
 |true=>match(ile 0 a1)with
  |true=>some ((ilt a1 a0),())
  |false=>some (false,())
 |false=>some (false,())
def tin[Lk]:=fun v=>Lk.f (AKB v)
theorem AOp v:tin v=AKB v:=AJ _
abbrev AGX:AE:=[(.tmp 0,.di),(.tmp 1,.di),(.tmp 2,.di)]
abbrev AGW:AE:=[(.tmp 0,.di)]
abbrev AGV:List RS:=[.one]
def Yv[Lk]:(Int×Int×Int×Unit)→Option (U7):=fun(a0,a1,a2,_)=>
 match(ieq a1 a2)with
 |true=>some ((-1:Int),())
 |false=>match tin (a0,a1,())with|none=>none|some (y0,_)=>match(!y0)with
 |true=>some ((-1:Int),())
 |false=>match tin (a0,a2,())with|none=>none|some (y1,_)=>match(!y1)with
 |true=>some ((-1:Int),())
 |false=>some ((IntKind.wrap .i64 ((IntKind.wrap .i64 (a0*(IntKind.wrap .i64 (a1+1))))+a2)),())
def ALj[Lk]:=fun v=>Lk.f (Yv v)
theorem AKC v:ALj v=Yv v:=AJ _
abbrev Rf:AE:=[(.tmp 0,.di),(.tmp 1,.di)]
abbrev Re:AE:=[(.tmp 0,.di),(.tmp 1,.di),(.tmp 2,.dat .bool),(.tmp 3,.dat .bool)]
abbrev Rd:List RS:=[.one,.one,.one,.one]
def LS[Lk]:U8→Option ((Int×Int×Bool×Bool×Unit)):=fun(a0,a1,_)=>
 match Ie (a0,())with|none=>none|some (y0,_)=>match(!y0)with
 |true=>some (0,0,false,false,())
 |false=>match(ilt a1 0)with
 |true=>some (0,0,false,false,())
 |false=>match(ile (IntKind.wrap .i64 (a0*(IntKind.wrap .i64 (a0+1)))) a1)with
 |true=>some (0,0,false,false,())
 |false=>match(ilt a1 a0)with
 |true=>some (a1,0,false,true,())
 |false=>match quo? .i64 a1 a0 with|none=>none|some x1=>match rem? a1 a0 with|none=>none|some x2=>match(ieq (IntKind.wrap .i64 (x1-1)) x2)with
 |true=>some (0,0,false,false,())
 |false=>some ((IntKind.wrap .i64 (x1-1)),x2,true,true,())
def Rg[Lk]:=fun v=>Lk.f (LS v)
theorem W5 v:Rg v=LS v:=AJ _
abbrev Yp:AE:=[(.tmp 0,.di)]
abbrev Yo:AE:=[(.tmp 0,.di),(.tmp 1,.own 27 U5),(.tmp 2,.di)]
abbrev Yn:List RS:=[.agg 2,.one]
abbrev ACZ:AE:=[(.tmp 2,.box 2),(.cell 0 0,.di),(.cell 0 1,.nil U5),(.tmp 4,.box 2),(.cell 1 0,.di),(.cell 1 1,.own 27 U5),(.tmp 12,.di),(.tmp 13,.di)]
abbrev ACY:A2:=[(.exit 0,[(.tmp 2,.box 2),(.cell 0 0,.di),(.cell 0 1,.nil U5),(.tmp 4,.box 2),(.cell 1 0,.di),(.cell 1 1,.own 27 U5)])]
def F8[Lk]:(Int×Int×List U3×Int×Int×Unit)→Option ((Int×Int×List U3×Int×Int×Unit)⊕(Int×Int×List U3×Unit)⊕Unit):=fun(a0,a1,a2,a3,a4,_)=>
 match(ilt a4 a3)with
 |true=>match(fits ((AQ a2)+(AQ ([([a4]:List (Int))]:List U3))))with
  |true=>some (.inl (a0,a1,(Bt a2 ([([a4]:List (Int))]:List U3)),a3,(IntKind.wrap .i64 (a4+1)),()))
  |false=>none
 |false=>some (.inr (.inl (a0,a1,a2,())))
def Qv[Lk]:U7→Option (V2):=fun(a0,_)=>
 match Ie (a0,())with|none=>none|some (y0,_)=>match(!y0)with
 |true=>some (0,([]:List U3),1,())
 |false=>match AZ F8 many (0,a0,([]:List U3),a0,0,())with|none=>none|some r=>match r with
 |.inl (o1,o2,o3,_)=>some (o2,o3,0,())
 |.inr _=>none
def ACb[Lk]:=fun v=>Lk.f (Qv v)
theorem ACa v:ACb v=Qv v:=AJ _
abbrev T8:AE:=[(.tmp 0,.dat U5),(.tmp 1,.di)]
abbrev T7:AE:=[(.tmp 0,.di)]
abbrev T6:List RS:=[.one]
abbrev Xr:AE:=[(.tmp 0,.dat U5),(.tmp 1,.di),(.tmp 7,.di),(.tmp 8,.di)]
abbrev Xq:A2:=[(.ret,[(.tmp 4,.di)]),(.exit 0,[])]
def EV[Lk]:U4→Option (U4⊕U7⊕(Unit)⊕Unit):=fun(a0,a1,a2,a3,_)=>
 match(ilt a3 a2)with
 |true=>match idx a0 a3 with|none=>none|some x0=>match(ieq a1 x0)with
  |true=>some (.inr (.inl (a3,())))
  |false=>some (.inl (a0,a1,a2,(IntKind.wrap .i64 (a3+1)),()))
 |false=>some (.inr (.inr (.inl ())))
def ME[Lk]:Us→Option (U7):=fun(a0,a1,_)=>
 match AZ EV many (a0,a1,(AQ a0),0,())with|none=>none|some r=>match r with
 |.inl (o0,_)=>some (o0,())
 |.inr r=>match r with
 |.inl _=>some ((-1:Int),())
 |.inr _=>none
def Kv[Lk]:=fun v=>Lk.f (ME v)
theorem Xs v:Kv v=ME v:=AJ _
abbrev JM:AE:=[(.tmp 0,.dat U5),(.tmp 1,.di)]
abbrev JL:AE:=[(.tmp 0,.dat .bool)]
abbrev JK:List RS:=[.one]
def G2[Lk]:Us→Option (Uh):=fun(a0,a1,_)=>
 match Kv (a0,a1,())with|none=>none|some (y0,_)=>some ((ile 0 y0),())
def Ej[Lk]:=fun v=>Lk.f (G2 v)
theorem Mb v:Ej v=G2 v:=AJ _
abbrev AID:AE:=[(.tmp 0,.dat U5)]
abbrev AIC:AE:=[(.tmp 0,.di)]
abbrev AIB:List RS:=[.one]
abbrev AKh:AE:=[(.tmp 0,.dat U5),(.tmp 3,.di),(.tmp 4,.di)]
abbrev AKg:A2:=[(.exit 0,[(.tmp 3,.di)])]
def H0[Lk]:Ue→Option (Ue⊕U7⊕Unit):=fun(a0,a1,a2,_)=>
 match(ilt a2 (AQ a0))with
 |true=>match idx a0 a2 with|none=>none|some x0=>some (.inl (a0,(EW a1 x0),(IntKind.wrap .i64 (a2+1)),()))
 |false=>some (.inr (.inl (a1,())))
def Z5[Lk]:U9→Option (U7):=fun(a0,_)=>
 match(ilt (AQ a0) 1)with
 |true=>none
 |false=>match idx a0 0 with|none=>none|some x0=>match AZ H0 many (a0,x0,1,())with|none=>none|some r=>match r with
 |.inl (o1,_)=>some (o1,())
 |.inr _=>none
def AMf[Lk]:=fun v=>Lk.f (Z5 v)
theorem AKi v:AMf v=Z5 v:=AJ _
abbrev AA6:AE:=[(.tmp 0,.nil U0),(.tmp 1,.di)]
abbrev AA5:AE:=[(.tmp 0,.own 3 U0)]
abbrev AA4:List RS:=[.one]
def RK[Lk]:U7→Option (U9):=fun(a0,_)=>
 match(ilt a0 0)with
 |true=>none
 |false=>match(ilt 0 (IntKind.wrap .i64 (a0-(IntKind.wrap .i64 (0-0)))))with
 |true=>match HC ([]:List Unit) 0 0 with|none=>none|some _u0=>match(UL (IntKind.wrap .i64 (a0-(IntKind.wrap .i64 (0-0)))))with
  |true=>match HC (AFc (AF (IntKind.wrap .i64 (a0-(IntKind.wrap .i64 ((0:Int)-(0:Int)))))) (0:Int)) (0:Int) (0:Int)with|none=>none|some x1=>some ((DR (AF (AQ x1)) (AFc (AF (IntKind.wrap .i64 (a0-(IntKind.wrap .i64 ((0:Int)-(0:Int)))))) (0:Int))),())
  |false=>none
 |false=>some (([]:List (Int)),())
def AFI[Lk]:=fun v=>Lk.f (RK v)
theorem AFH v:AFI v=RK v:=AJ _
abbrev Oj:AE:=[(.tmp 0,.dat Ug)]
abbrev Oi:AE:=[(.tmp 0,.own 3 U0)]
abbrev Oh:List RS:=[.one]
abbrev VE:AE:=[(.tmp 6,.own 3 U0),(.tmp 25,.dat Ug),(.tmp 26,.di),(.tmp 27,.di)]
abbrev VC:A2:=[(.exit 2,[(.tmp 6,.own 3 U0)])]
def Df[Lk]:(List Int×List U3×Int×Int×Unit)→Option ((List Int×List U3×Int×Int×Unit)⊕U9⊕Unit):=fun(a0,a1,a2,a3,_)=>
 match(ilt a3 a2)with
 |true=>match idx a1 a3 with|none=>none|some x0=>match(fits ((AQ a0)+(AQ x0)))with
  |true=>some (.inl ((Bt a0 x0),a1,a2,(IntKind.wrap .i64 (a3+1)),()))
  |false=>none
 |false=>some (.inr (.inl (a0,())))
abbrev VF:AE:=[(.tmp 0,.dat Ug),(.tmp 3,.di),(.tmp 9,.dat Ug),(.tmp 10,.di),(.tmp 11,.di)]
abbrev VD:A2:=[(.exit 0,[(.tmp 0,.dat Ug),(.tmp 3,.di)])]
def Dg[Lk]:(List U3×Int×List U3×Int×Int×Unit)→Option ((List U3×Int×List U3×Int×Int×Unit)⊕V0⊕Unit):=fun(a0,a1,a2,a3,a4,_)=>
 match(ilt a4 a3)with
 |true=>match idx a2 a4 with|none=>none|some x0=>match(ilt (IntKind.wrap .i64 (a1+(AQ x0))) 0)with
  |true=>none
  |false=>some (.inl (a0,(IntKind.wrap .i64 (a1+(AQ x0))),a2,a3,(IntKind.wrap .i64 (a4+1)),()))
 |false=>some (.inr (.inl (a0,a1,())))
def J3[Lk]:Uf→Option (U9):=fun(a0,_)=>
 match AZ Dg many (a0,0,a0,(AQ a0),0,())with|none=>none|some r=>match r with
 |.inl (o0,o1,_)=>match AFI (o1,())with|none=>none|some (y2,_)=>match AZ Df many (y2,o0,(AQ o0),0,())with|none=>none|some r=>match r with
  |.inl (o3,_)=>some (o3,())
  |.inr _=>none
 |.inr _=>none
def IB[Lk]:=fun v=>Lk.f (J3 v)
theorem VG v:IB v=J3 v:=AJ _
abbrev GO:AE:=[(.tmp 0,.dat U5),(.tmp 1,.clo 81 [])]
abbrev GN:AE:=[(.tmp 0,.di)]
abbrev GM:List RS:=[.one]
abbrev IW:AE:=[(.tmp 0,.dat U5),(.tmp 1,.clo 81 []),(.tmp 7,.di),(.tmp 8,.di)]
abbrev IV:A2:=[(.ret,[(.tmp 4,.di)]),(.exit 0,[])]
def Bn[Lk]:Ue→Option (Ue⊕U7⊕(Unit)⊕Unit):=fun(a0,a1,a2,_)=>
 match(ilt a2 a1)with
 |true=>match idx a0 a2 with|none=>none|some x0=>match(ilt x0 0)with
  |true=>some (.inr (.inl (a2,())))
  |false=>match(ilt 10000 x0)with
  |true=>some (.inr (.inl (a2,())))
  |false=>some (.inl (a0,a1,(IntKind.wrap .i64 (a2+1)),()))
 |false=>some (.inr (.inr (.inl ())))
def D8[Lk]:U9→Option (U7):=fun(a0,_)=>
 match AZ Bn many (a0,(AQ a0),0,())with|none=>none|some r=>match r with
 |.inl (o0,_)=>some (o0,())
 |.inr r=>match r with
 |.inl _=>some ((-1:Int),())
 |.inr _=>none
def Fe[Lk]:=fun v=>Lk.f (D8 v)
theorem IX v:Fe v=D8 v:=AJ _
abbrev FV:AE:=[(.tmp 0,.dat U5),(.tmp 1,.clo 81 [])]
abbrev FU:AE:=[(.tmp 0,.dat .bool)]
abbrev FT:List RS:=[.one]
def DY[Lk]:U9→Option (Uh):=fun(a0,_)=>
 match Fe (a0,())with|none=>none|some (y0,_)=>some ((ile 0 y0),())
def DS[Lk]:=fun v=>Lk.f (DY v)
theorem Hc v:DS v=DY v:=AJ _
abbrev AHz:AE:=[(.tmp 0,.dat U5)]
abbrev AHy:AE:=[(.tmp 0,.dat .bool)]
abbrev AHx:List RS:=[.one]
abbrev AKa:AE:=[(.tmp 0,.dat U5),(.tmp 3,.map U0 U0),(.tmp 7,.dat U5),(.tmp 8,.di),(.tmp 9,.di)]
abbrev AKZ:A2:=[(.exit 0,[(.tmp 0,.dat U5),(.tmp 3,.map U0 U0)])]
def Hw[Lk]:(List Int×List Uq×List Int×Int×Int×Unit)→Option ((List Int×List Uq×List Int×Int×Int×Unit)⊕(List Int×List Uq×Unit)⊕Unit):=fun(a0,a1,a2,a3,a4,_)=>
 match(ilt a4 a3)with
 |true=>match idx a2 a4 with|none=>none|some x0=>some (.inl (a0,(Ab a1 x0 (IntKind.wrap .i64 (((AL a1 x0).getD 0)+1))),a2,a3,(IntKind.wrap .i64 (a4+1)),()))
 |false=>some (.inr (.inl (a0,a1,())))
def Zy[Lk]:U9→Option (Uh):=fun(a0,_)=>
 match AZ Hw many (a0,([]:List Uq),a0,(AQ a0),0,())with|none=>none|some r=>match r with
 |.inl (o0,o1,_)=>some ((ieq (AQ o1) (AQ o0)),())
 |.inr _=>none
def once[Lk]:=fun v=>Lk.f (Zy v)
theorem AKb v:once v=Zy v:=AJ _
abbrev R6:AE:=[(.tmp 0,.dat U5)]
abbrev R5:AE:=[(.tmp 0,.dat .bool)]
abbrev R4:List RS:=[.one]
def LY[Lk]:U9→Option (Uh):=fun(a0,_)=>
 match(ilt 1000 (AQ a0))with
 |true=>some (false,())
 |false=>match DS (a0,())with|none=>none|some (y0,_)=>match(!y0)with
 |true=>match once (a0,())with|none=>none|some (y1,_)=>some (y1,())
 |false=>some (false,())
def KX[Lk]:=fun v=>Lk.f (LY v)
theorem XL v:KX v=LY v:=AJ _
abbrev Rc:AE:=[(.tmp 0,.dat U5),(.tmp 1,.di)]
abbrev Rb:AE:=[(.tmp 0,.own 3 U0)]
abbrev Ra:List RS:=[.one]
def LR[Lk]:Us→Option (U9):=fun(a0,a1,_)=>
 match HC a0 a1 (AQ a0)with|none=>none|some x0=>match HC a0 0 a1 with|none=>none|some x1=>match IB (([x0,x1]:List U3),())with|none=>none|some (y2,_)=>some (y2,())
def NT[Lk]:=fun v=>Lk.f (LR v)
theorem W4 v:NT v=LR v:=AJ _
abbrev SY:AE:=[(.tmp 0,.dat U5),(.tmp 1,.dat U5)]
abbrev SX:AE:=[(.tmp 0,.own 3 U0),(.tmp 1,.dat .bool)]
abbrev SW:List RS:=[.one,.one]
abbrev XU:AE:=[(.tmp 0,.dat U5),(.tmp 6,.own 3 U0),(.tmp 12,.dat U5),(.tmp 13,.di),(.tmp 14,.di)]
abbrev XT:A2:=[(.exit 0,[(.tmp 6,.own 3 U0)])]
def Dn[Lk]:(List Int×List Int×List Int×Int×Int×Unit)→Option ((List Int×List Int×List Int×Int×Int×Unit)⊕U9⊕Unit):=fun(a0,a1,a2,a3,a4,_)=>
 match(ilt a4 a3)with
 |true=>match idx a2 a4 with|none=>none|some x0=>match Kv (a0,x0,())with|none=>none|some (y1,_)=>match(fits ((AQ a1)+(AQ ([y1]:List (Int)))))with
  |true=>some (.inl (a0,(Bt a1 ([y1]:List (Int))),a2,a3,(IntKind.wrap .i64 (a4+1)),()))
  |false=>none
 |false=>some (.inr (.inl (a1,())))
def Ld[Lk]:Uu→Option ((List Int×Bool×Unit)):=fun(a0,a1,_)=>
 match KX (a0,())with|none=>none|some (y0,_)=>match(!y0)with
 |true=>some (([]:List (Int)),false,())
 |false=>match AZ Dn many (a0,([]:List (Int)),a1,(AQ a1),0,())with|none=>none|some r=>match r with
 |.inl (o1,_)=>match Ej (o1,(-1:Int),())with|none=>none|some (y2,_)=>some (o1,(!y2),())
 |.inr _=>none
def ZU[Lk]:=fun v=>Lk.f (Ld v)
theorem XV v:ZU v=Ld v:=AJ _
abbrev ZL:AE:=[(.tmp 0,.dat U5),(.tmp 1,.di)]
abbrev ZK:AE:=[(.tmp 0,.own 3 U0),(.tmp 1,.dat .bool)]
abbrev ZJ:List RS:=[.one,.one]
def Q3[Lk]:Us→Option ((List Int×Bool×Unit)):=fun(a0,a1,_)=>
 match ZU (a0,([a1]:List (Int)),())with|none=>none|some (y0,y1,_)=>match(!y1)with
 |true=>some (([]:List (Int)),false,())
 |false=>match idx y0 0 with|none=>none|some x2=>match NT (a0,(AN y0 0 0),())with|none=>none|some (y3,_)=>some (y3,true,())
def XN[Lk]:=fun v=>Lk.f (Q3 v)
theorem AC8 v:XN v=Q3 v:=AJ _
abbrev R9:AE:=[(.tmp 0,.dat U5)]
abbrev R8:AE:=[(.tmp 0,.own 3 U0)]
abbrev R7:List RS:=[.one]
def LZ[Lk]:U9→Option (U9):=fun(a0,_)=>
 match KX (a0,())with|none=>none|some (y0,_)=>match(!y0)with
 |true=>some (([]:List (Int)),())
 |false=>match(ieq (AQ a0) 0)with
 |true=>some (([]:List (Int)),())
 |false=>match AMf (a0,())with|none=>none|some (y1,_)=>match Kv (a0,y1,())with|none=>none|some (y2,_)=>match NT (a0,y2,())with|none=>none|some (y3,_)=>some (y3,())
def SA[Lk]:=fun v=>Lk.f (LZ v)
theorem XM v:SA v=LZ v:=AJ _
abbrev Ea:AE:=[(.tmp 0,.dat Ug),(.cap 1 0,.box 1),(.cell 0 0,.di),(.tmp 1,.clo 67 [(0,0)])]
abbrev EZ:AE:=[(.obj 0,.box 1),(.cell 0 0,.di),(.tmp 0,.di)]
abbrev EY:List RS:=[.one]
abbrev Gu:AE:=[(.obj 0,.box 1),(.cell 0 0,.di),(.tmp 0,.dat Ug),(.tmp 1,.clo 67 [(0,0)]),(.tmp 7,.di),(.tmp 8,.di)]
abbrev Gt:A2:=[(.ret,[(.obj 0,.box 1),(.cell 0 0,.di),(.tmp 4,.di)]),(.exit 0,[(.obj 0,.box 1),(.cell 0 0,.di)])]
def BT[Lk]:(Int×List U3×Int×Int×Unit)→Option ((Int×List U3×Int×Int×Unit)⊕U8⊕U7⊕Unit):=fun(a0,a1,a2,a3,_)=>
 match(ilt a3 a2)with
 |true=>match idx a1 a3 with|none=>none|some x0=>match Ej (x0,a0,())with|none=>none|some (y1,_)=>match y1 with
  |true=>some (.inr (.inl (a0,a3,())))
  |false=>some (.inl (a0,a1,a2,(IntKind.wrap .i64 (a3+1)),()))
 |false=>some (.inr (.inr (.inl (a0,()))))
def DE[Lk]:V0→Option (U8):=fun(a0,a1,_)=>
 match AZ BT many (a1,a0,(AQ a0),0,())with|none=>none|some r=>match r with
 |.inl (o0,o1,_)=>some (o0,o1,())
 |.inr r=>match r with
 |.inl (o2,_)=>some (o2,(-1:Int),())
 |.inr _=>none
def D6[Lk]:=fun v=>Lk.f (DE v)
theorem Gv v:D6 v=DE v:=AJ _
abbrev Ru:AE:=[(.tmp 0,.dat Uk),(.tmp 1,.di)]
abbrev Rs:AE:=[(.tmp 0,.di)]
abbrev Rr:List RS:=[.one]
def LW[Lk]:(Ul×Int×Unit)→Option (U7):=fun(a0,a1,_)=>
 match D6 (a0.2.1,a1,())with|none=>none|some (y0,y1,_)=>some (y1,())
def NW[Lk]:=fun v=>Lk.f (LW v)
theorem XE v:NW v=LW v:=AJ _
abbrev AI7:AE:=[(.tmp 0,.di),(.tmp 1,.dat U5)]
abbrev AI6:AE:=[(.tmp 0,.dat .bool)]
abbrev AI5:List RS:=[.one]
abbrev AK0:AE:=[(.tmp 0,.di),(.tmp 5,.box 3),(.cell 0 0,.own 3 U0),(.cell 0 1,.map U0 U0),(.cell 0 2,.map U0 U0),(.tmp 30,.dat U5),(.tmp 31,.di),(.tmp 32,.di)]
abbrev AKz:A2:=[(.ret,[(.tmp 4,.dat .bool)]),(.exit 0,[(.tmp 5,.box 3),(.cell 0 0,.own 3 U0),(.cell 0 1,.map U0 U0),(.cell 0 2,.map U0 U0)])]
def Gz[Lk]:(Int×List Int×List Uq×List Uq×List Int×Int×Int×Unit)→Option ((Int×List Int×List Uq×List Uq×List Int×Int×Int×Unit)⊕Uh⊕(List Int×List Uq×List Uq×Unit)⊕Unit):=fun(a0,a1,a2,a3,a4,a5,a6,_)=>
 match(ilt a6 a5)with
 |true=>match idx a4 a6 with|none=>none|some x0=>match Rg (a0,x0,())with|none=>none|some (y1,y2,y3,y4,_)=>match(!y4)with
  |true=>some (.inr (.inl (false,())))
  |false=>match y3 with
  |true=>match idx a1 (IntKind.wrap .i64 ((AQ a1)-1))with|none=>none|some x5=>match(!(ieq (AN a1 (AF (IntKind.wrap .i64 ((AQ a1)-1))) 0) y1))with
   |true=>some (.inr (.inl (false,())))
   |false=>match(ilt 0 (IntKind.wrap .i64 ((AQ a1)-1)))with
   |true=>match idx a1 (IntKind.wrap .i64 ((IntKind.wrap .i64 ((AQ a1)-1))-1))with|none=>none|some x6=>match(ieq (AN a1 (AF (IntKind.wrap .i64 ((IntKind.wrap .i64 ((AQ a1)-1))-1))) 0) y2)with
    |true=>match HC a1 0 (IntKind.wrap .i64 ((AQ a1)-1))with|none=>none|some x7=>match(!y3)with
     |true=>match idx (FQ 0 (AF (AQ x7)) a1) (IntKind.wrap .i64 ((((AF (AQ x7)):Nat):Int)-1))with|none=>none|some x8=>match(!(ieq (AN a1 (0+(AF (IntKind.wrap .i64 ((((AF (AQ x7)):Nat):Int)-1)))) 0) y1))with
      |true=>some (.inr (.inl (false,())))
      |false=>match(!y3)with
      |true=>some (.inl (a0,(DR (AF (AQ x7)) a1),a2,(Ab a3 y1 (IntKind.wrap .i64 (((AL a3 y1).getD 0)+1))),a4,a5,(IntKind.wrap .i64 (a6+1)),()))
      |false=>some (.inl (a0,(DR (AF (AQ x7)) a1),a2,a3,a4,a5,(IntKind.wrap .i64 (a6+1)),()))
     |false=>match(!y3)with
     |true=>some (.inl (a0,(DR (AF (AQ x7)) a1),a2,(Ab a3 y1 (IntKind.wrap .i64 (((AL a3 y1).getD 0)+1))),a4,a5,(IntKind.wrap .i64 (a6+1)),()))
     |false=>some (.inl (a0,(DR (AF (AQ x7)) a1),a2,a3,a4,a5,(IntKind.wrap .i64 (a6+1)),()))
    |false=>match(ilt 0 ((AL a2 y2).getD 0))with
    |true=>some (.inr (.inl (false,())))
    |false=>match(fits ((AQ a1)+(AQ ([y2]:List (Int)))))with
    |true=>match(!y3)with
     |true=>match idx (Bt a1 ([y2]:List (Int))) (IntKind.wrap .i64 ((AQ (Bt a1 ([y2]:List (Int))))-1))with|none=>none|some x9=>match(!(ieq (AN (Bt a1 ([y2]:List (Int))) (AF (IntKind.wrap .i64 ((AQ (Bt a1 ([y2]:List (Int))))-1))) 0) y1))with
      |true=>some (.inr (.inl (false,())))
      |false=>match(!y3)with
      |true=>some (.inl (a0,(Bt a1 ([y2]:List (Int))),(Ab a2 y2 (IntKind.wrap .i64 (((AL a2 y2).getD 0)+1))),(Ab a3 y1 (IntKind.wrap .i64 (((AL a3 y1).getD 0)+1))),a4,a5,(IntKind.wrap .i64 (a6+1)),()))
      |false=>some (.inl (a0,(Bt a1 ([y2]:List (Int))),(Ab a2 y2 (IntKind.wrap .i64 (((AL a2 y2).getD 0)+1))),a3,a4,a5,(IntKind.wrap .i64 (a6+1)),()))
     |false=>match(!y3)with
     |true=>some (.inl (a0,(Bt a1 ([y2]:List (Int))),(Ab a2 y2 (IntKind.wrap .i64 (((AL a2 y2).getD 0)+1))),(Ab a3 y1 (IntKind.wrap .i64 (((AL a3 y1).getD 0)+1))),a4,a5,(IntKind.wrap .i64 (a6+1)),()))
     |false=>some (.inl (a0,(Bt a1 ([y2]:List (Int))),(Ab a2 y2 (IntKind.wrap .i64 (((AL a2 y2).getD 0)+1))),a3,a4,a5,(IntKind.wrap .i64 (a6+1)),()))
    |false=>none
   |false=>match(ilt 0 ((AL a2 y2).getD 0))with
   |true=>some (.inr (.inl (false,())))
   |false=>match(fits ((AQ a1)+(AQ ([y2]:List (Int)))))with
   |true=>match(!y3)with
    |true=>match idx (Bt a1 ([y2]:List (Int))) (IntKind.wrap .i64 ((AQ (Bt a1 ([y2]:List (Int))))-1))with|none=>none|some x10=>match(!(ieq (AN (Bt a1 ([y2]:List (Int))) (AF (IntKind.wrap .i64 ((AQ (Bt a1 ([y2]:List (Int))))-1))) 0) y1))with
     |true=>some (.inr (.inl (false,())))
     |false=>match(!y3)with
     |true=>some (.inl (a0,(Bt a1 ([y2]:List (Int))),(Ab a2 y2 (IntKind.wrap .i64 (((AL a2 y2).getD 0)+1))),(Ab a3 y1 (IntKind.wrap .i64 (((AL a3 y1).getD 0)+1))),a4,a5,(IntKind.wrap .i64 (a6+1)),()))
     |false=>some (.inl (a0,(Bt a1 ([y2]:List (Int))),(Ab a2 y2 (IntKind.wrap .i64 (((AL a2 y2).getD 0)+1))),a3,a4,a5,(IntKind.wrap .i64 (a6+1)),()))
    |false=>match(!y3)with
    |true=>some (.inl (a0,(Bt a1 ([y2]:List (Int))),(Ab a2 y2 (IntKind.wrap .i64 (((AL a2 y2).getD 0)+1))),(Ab a3 y1 (IntKind.wrap .i64 (((AL a3 y1).getD 0)+1))),a4,a5,(IntKind.wrap .i64 (a6+1)),()))
    |false=>some (.inl (a0,(Bt a1 ([y2]:List (Int))),(Ab a2 y2 (IntKind.wrap .i64 (((AL a2 y2).getD 0)+1))),a3,a4,a5,(IntKind.wrap .i64 (a6+1)),()))
   |false=>none
  |false=>match(!y3)with
  |true=>match idx a1 (IntKind.wrap .i64 ((AQ a1)-1))with|none=>none|some x11=>match(!(ieq (AN a1 (AF (IntKind.wrap .i64 ((AQ a1)-1))) 0) y1))with
   |true=>some (.inr (.inl (false,())))
   |false=>match(!y3)with
   |true=>some (.inl (a0,a1,a2,(Ab a3 y1 (IntKind.wrap .i64 (((AL a3 y1).getD 0)+1))),a4,a5,(IntKind.wrap .i64 (a6+1)),()))
   |false=>some (.inl (a0,a1,a2,a3,a4,a5,(IntKind.wrap .i64 (a6+1)),()))
  |false=>match(!y3)with
  |true=>some (.inl (a0,a1,a2,(Ab a3 y1 (IntKind.wrap .i64 (((AL a3 y1).getD 0)+1))),a4,a5,(IntKind.wrap .i64 (a6+1)),()))
  |false=>some (.inl (a0,a1,a2,a3,a4,a5,(IntKind.wrap .i64 (a6+1)),()))
 |false=>some (.inr (.inr (.inl (a1,a2,a3,()))))
def AA8[Lk]:(Int×List Int×Unit)→Option (Uh):=fun(a0,a1,_)=>
 match idx a1 0 with|none=>none|some x0=>match tin (a0,x0,())with|none=>none|some (y1,_)=>match(!y1)with
 |true=>some (false,())
 |false=>match idx a1 0 with|none=>none|some x2=>match idx a1 0 with|none=>none|some x3=>match AZ Gz many (a0,([x2]:List (Int)),(Ab ([]:List Uq) x3 1),([]:List Uq),a1,(AQ a1),0,())with|none=>none|some r=>match r with
 |.inl (o4,_)=>some (o4,())
 |.inr r=>match r with
 |.inl (o5,o6,o7,_)=>match(ieq (AQ o5) 1)with
  |true=>some ((ieq (AQ o7) (AQ o6)),())
  |false=>some (false,())
 |.inr _=>none
def AQx[Lk]:=fun v=>Lk.f (AA8 v)
theorem AK1 v:AQx v=AA8 v:=AJ _
abbrev Rp:AE:=[(.tmp 0,.dat Uk)]
abbrev Ro:AE:=[(.tmp 0,.dat .bool)]
abbrev Rn:List RS:=[.one]
abbrev XA:AE:=[(.tmp 3,.map U0 U0),(.tmp 78,.di),(.tmp 79,.di)]
abbrev W7:A2:=[(.ret,[(.tmp 2,.dat .bool)]),(.exit 4,[])]
def Dl[Lk]:(List Uq×Int×Int×Unit)→Option ((List Uq×Int×Int×Unit)⊕Uh⊕(Unit)⊕Unit):=fun(a0,a1,a2,_)=>
 match(ilt a2 a1)with
 |true=>match(ieq ((AL a0 a2).getD 0) 0)with
  |true=>some (.inr (.inl (false,())))
  |false=>some (.inl (a0,a1,(IntKind.wrap .i64 (a2+1)),()))
 |false=>some (.inr (.inr (.inl ())))
abbrev XB:AE:=[(.tmp 1,.box 2),(.cell 0 0,.di),(.cell 0 1,.dat Ug),(.tmp 3,.map U0 U0),(.tmp 4,.di),(.tmp 16,.dat Ug),(.tmp 17,.di),(.tmp 18,.di),(.tmp 26,.dat U5),(.tmp 28,.di),(.tmp 29,.di),(.tmp 30,.dat .bool),(.tmp 33,.dat U5),(.tmp 34,.dat .bool),(.tmp 35,.dat .bool),(.tmp 38,.dat U5),(.tmp 39,.di),(.tmp 40,.dat U5),(.tmp 42,.di),(.tmp 43,.dat .bool),(.tmp 46,.ptr' 0 0),(.tmp 47,.di),(.tmp 48,.dat U5),(.tmp 49,.dat .bool),(.tmp 50,.dat .bool),(.tmp 55,.dat U5),(.tmp 56,.di),(.tmp 57,.di)]
abbrev W8:A2:=[(.ret,[(.tmp 2,.dat .bool)]),(.exit 2,[(.tmp 1,.box 2),(.cell 0 0,.di),(.cell 0 1,.dat Ug),(.tmp 3,.map U0 U0),(.tmp 4,.di),(.tmp 16,.dat Ug),(.tmp 17,.di),(.tmp 18,.di),(.tmp 26,.dat U5),(.tmp 28,.di),(.tmp 29,.di),(.tmp 30,.dat .bool),(.tmp 33,.dat U5),(.tmp 34,.dat .bool),(.tmp 35,.dat .bool),(.tmp 38,.dat U5),(.tmp 39,.di),(.tmp 40,.dat U5),(.tmp 42,.di),(.tmp 43,.dat .bool),(.tmp 46,.ptr' 0 0),(.tmp 47,.di),(.tmp 48,.dat U5),(.tmp 49,.dat .bool),(.tmp 50,.dat .bool)])]
def C6[Lk]:Uo→Option (Uo⊕Uh⊕(Int×List U3×List Uq×Int×List U3×Int×Int×List Int×Int×Int×Bool×List Int×Bool×Bool×List Int×Int×List Int×Int×Bool×Int×List Int×Bool×Bool×Unit)⊕Unit):=fun(a0,a1,a2,a3,a4,a5,a6,a7,a8,a9,a10,a11,a12,a13,a14,a15,a16,a17,a18,a19,a20,a21,a22,a23,a24,a25,_)=>
 match(ilt a25 a24)with
 |true=>match idx a23 a25 with|none=>none|some x0=>match(ilt x0 a0)with
  |true=>match(ilt 0 ((AL a2 x0).getD 0))with
   |true=>some (.inr (.inl (false,())))
   |false=>some (.inl (a0,a1,(Ab a2 x0 (IntKind.wrap .i64 (((AL a2 x0).getD 0)+1))),a3,a4,a5,a6,a7,a8,a9,a10,a11,a12,a13,a14,a15,a16,a17,a18,a19,a20,a21,a22,a23,a24,(IntKind.wrap .i64 (a25+1)),()))
  |false=>some (.inl (a0,a1,(Ab a2 x0 (IntKind.wrap .i64 (((AL a2 x0).getD 0)+1))),a3,a4,a5,a6,a7,a8,a9,a10,a11,a12,a13,a14,a15,a16,a17,a18,a19,a20,a21,a22,a23,a24,(IntKind.wrap .i64 (a25+1)),()))
 |false=>some (.inr (.inr (.inl (a0,a1,a2,a3,a4,a5,a6,a7,a8,a9,a10,a11,a12,a13,a14,a15,a16,a17,a18,a19,a20,a21,a22,()))))
abbrev XC:AE:=[(.tmp 1,.box 2),(.cell 0 0,.di),(.cell 0 1,.dat Ug),(.tmp 3,.map U0 U0),(.tmp 4,.di),(.tmp 16,.dat Ug),(.tmp 17,.di),(.tmp 18,.di)]
abbrev W9:A2:=[(.ret,[(.tmp 2,.dat .bool)]),(.exit 0,[(.tmp 1,.box 2),(.cell 0 0,.di),(.cell 0 1,.dat Ug),(.tmp 3,.map U0 U0)])]
def C7[Lk]:(Int×List U3×List Uq×Int×List U3×Int×Int×Unit)→Option ((Int×List U3×List Uq×Int×List U3×Int×Int×Unit)⊕Uh⊕(Int×List U3×List Uq×Unit)⊕Unit):=fun(a0,a1,a2,a3,a4,a5,a6,_)=>
 match(ilt a6 a5)with
 |true=>match idx a4 a6 with|none=>none|some x0=>match(ieq (AQ x0) 0)with
  |true=>some (.inr (.inl (false,())))
  |false=>match idx x0 0 with|none=>none|some x1=>match(ile x1 a3)with
  |true=>some (.inr (.inl (false,())))
  |false=>match KX (x0,())with|none=>none|some (y2,_)=>match(!y2)with
  |true=>some (.inr (.inl (false,())))
  |false=>match AMf (x0,())with|none=>none|some (y3,_)=>match idx x0 0 with|none=>none|some x4=>match(!(ieq y3 x4))with
  |true=>some (.inr (.inl (false,())))
  |false=>match AQx (a0,x0,())with|none=>none|some (y5,_)=>match(!y5)with
  |true=>some (.inr (.inl (false,())))
  |false=>match idx x0 0 with|none=>none|some x6=>match AZ C6 many (a0,a1,a2,x6,a4,a5,a6,x0,x1,a3,(ile x1 a3),x0,y2,(!y2),x0,y3,x0,x4,(!(ieq y3 x4)),a0,x0,y5,(!y5),x0,(AQ x0),0,())with|none=>none|some r=>match r with
  |.inl (o7,_)=>some (.inr (.inl (o7,())))
  |.inr r=>match r with
  |.inl (o8,o9,o10,o11,o12,o13,o14,o15,o16,o17,o18,o19,o20,o21,o22,o23,o24,o25,o26,o27,o28,o29,o30,_)=>some (.inl (o8,o9,o10,o11,o12,o13,(IntKind.wrap .i64 (o14+1)),()))
  |.inr _=>none
 |false=>some (.inr (.inr (.inl (a0,a1,a2,()))))
def LV[Lk]:(Ul×Unit)→Option (Uh):=fun(a0,_)=>
 match Ie (a0.1,())with|none=>none|some (y0,_)=>match(!y0)with
 |true=>some (false,())
 |false=>match AZ C7 many (a0.1,a0.2.1,([]:List Uq),(-1:Int),a0.2.1,(AQ a0.2.1),0,())with|none=>none|some r=>match r with
 |.inl (o1,_)=>some (o1,())
 |.inr r=>match r with
 |.inl (o2,o3,o4,_)=>match AZ Dl many (o4,o2,0,())with|none=>none|some r=>match r with
  |.inl (o5,_)=>some (o5,())
  |.inr r=>match r with
  |.inl _=>some (true,())
  |.inr _=>none
 |.inr _=>none
def NV[Lk]:=fun v=>Lk.f (LV v)
theorem XD v:NV v=LV v:=AJ _
abbrev ABn:AE:=[(.tmp 0,.dat Uk),(.tmp 1,.di),(.tmp 2,.di)]
abbrev ABm:AE:=[(.tmp 0,.di)]
abbrev ABl:List RS:=[.one]
def RO[Lk]:(Ul×Int×Int×Unit)→Option (U7):=fun(a0,a1,a2,_)=>
 match NV ((a0.1,(a0.2.1,())),())with|none=>none|some (y0,_)=>match(!y0)with
 |true=>some (1,())
 |false=>match tin (a0.1,a1,())with|none=>none|some (y1,_)=>match(!y1)with
 |true=>some (10,())
 |false=>match tin (a0.1,a2,())with|none=>none|some (y2,_)=>match(!y2)with
 |true=>some (10,())
 |false=>some (0,())
def asked[Lk]:=fun v=>Lk.f (RO v)
theorem AF1 v:asked v=RO v:=AJ _
abbrev AH7:AE:=[(.tmp 0,.di)]
abbrev AH6:AE:=[(.tmp 0,.dat .bool)]
abbrev AH5:List RS:=[.one]
def Ny[Lk]:U7→Option (Uh):=fun(a0,_)=>
 some ((!(ieq a0 a0)),())
def AH8[Lk]:=fun v=>Lk.f (Ny v)
theorem Q9 v:AH8 v=Ny v:=AJ _
abbrev K8:AE:=[(.tmp 0,.di),(.tmp 1,.di)]
abbrev K7:AE:=[(.tmp 0,.di)]
abbrev K6:List RS:=[.one]
def GX[Lk]:U8→Option (U7):=fun(a0,a1,_)=>
 match AH8 (a0,())with|none=>none|some (y0,_)=>match AH8 (a1,())with|none=>none|some (y1,_)=>match y0 with
 |true=>match y1 with
  |true=>some (0,())
  |false=>some ((-1:Int),())
 |false=>match y1 with
 |true=>some (1,())
 |false=>match(ilt a0 a1)with
 |true=>some ((-1:Int),())
 |false=>match(ilt a1 a0)with
 |true=>some (1,())
 |false=>some (0,())
def GY[Lk]:=fun v=>Lk.f (GX v)
theorem JO v:GY v=GX v:=AJ _
abbrev YV:AE:=[(.tmp 0,.dat U5),(.tmp 1,.dat U5)]
abbrev YU:AE:=[(.tmp 0,.di)]
abbrev YT:List RS:=[.one]
def Qr[Lk]:Uu→Option (U7):=fun(a0,a1,_)=>
 match idx a0 0 with|none=>none|some x0=>match idx a1 0 with|none=>none|some x1=>match GY (x0,x1,())with|none=>none|some (y2,_)=>some (y2,())
def A8[Lk]:=fun v=>Lk.f (Qr v)
theorem ACB v:A8 v=Qr v:=AJ _
def FO:List Int:=[0,1,2,2,3,3,3,3,4,4,4,4,4,4,4,4,5,5,5,5,5,5,5,5,5,5,5,5,5,5,5,5,6,6,6,6,6,6,6,6,6,6,6,6,6,6,6,6,6,6,6,6,6,6,6,6,6,6,6,6,6,6,6,6,7,7,7,7,7,7,7,7,7,7,7,7,7,7,7,7,7,7,7,7,7,7,7,7,7,7,7,7,7,7,7,7,7,7,7,7,7,7,7,7,7,7,7,7,7,7,7,7,7,7,7,7,7,7,7,7,7,7,7,7,7,7,7,7,8,8,8,8,8,8,8,8,8,8,8,8,8,8,8,8,8,8,8,8,8,8,8,8,8,8,8,8,8,8,8,8,8,8,8,8,8,8,8,8,8,8,8,8,8,8,8,8,8,8,8,8,8,8,8,8,8,8,8,8,8,8,8,8,8,8,8,8,8,8,8,8,8,8,8,8,8,8,8,8,8,8,8,8,8,8,8,8,8,8,8,8,8,8,8,8,8,8,8,8,8,8,8,8,8,8,8,8,8,8,8,8,8,8,8,8,8,8,8,8,8,8,8,8,8,8,8,8]
abbrev AAg:AE:=[(.tmp 0,.dat (.int .u64))]
abbrev AAf:AE:=[(.tmp 0,.di)]
abbrev AAe:List RS:=[.one]
def RH[Lk]:U7→Option (U7):=fun(a0,_)=>
 match(ile 4294967296 a0)with
 |true=>match shr? .u64 a0 32 with|none=>none|some x0=>match(ile 65536 x0)with
  |true=>match shr? .u64 x0 16 with|none=>none|some x1=>match(ile 256 x1)with
   |true=>match shr? .u64 x1 8 with|none=>none|some x2=>match idx FO (IntKind.wrap .u8 x2)with|none=>none|some x3=>some ((IntKind.wrap .i64 ((IntKind.wrap .i64 ((IntKind.wrap .i64 (32+16))+8))+(IntKind.wrap .i64 x3))),())
   |false=>match idx FO (IntKind.wrap .u8 x1)with|none=>none|some x4=>some ((IntKind.wrap .i64 ((IntKind.wrap .i64 (32+16))+(IntKind.wrap .i64 x4))),())
  |false=>match(ile 256 x0)with
  |true=>match shr? .u64 x0 8 with|none=>none|some x5=>match idx FO (IntKind.wrap .u8 x5)with|none=>none|some x6=>some ((IntKind.wrap .i64 ((IntKind.wrap .i64 (32+8))+(IntKind.wrap .i64 x6))),())
  |false=>match idx FO (IntKind.wrap .u8 x0)with|none=>none|some x7=>some ((IntKind.wrap .i64 (32+(IntKind.wrap .i64 x7))),())
 |false=>match(ile 65536 a0)with
 |true=>match shr? .u64 a0 16 with|none=>none|some x8=>match(ile 256 x8)with
  |true=>match shr? .u64 x8 8 with|none=>none|some x9=>match idx FO (IntKind.wrap .u8 x9)with|none=>none|some x10=>some ((IntKind.wrap .i64 ((IntKind.wrap .i64 ((IntKind.wrap .i64 (0+16))+8))+(IntKind.wrap .i64 x10))),())
  |false=>match idx FO (IntKind.wrap .u8 x8)with|none=>none|some x11=>some ((IntKind.wrap .i64 ((IntKind.wrap .i64 (0+16))+(IntKind.wrap .i64 x11))),())
 |false=>match(ile 256 a0)with
 |true=>match shr? .u64 a0 8 with|none=>none|some x12=>match idx FO (IntKind.wrap .u8 x12)with|none=>none|some x13=>some ((IntKind.wrap .i64 ((IntKind.wrap .i64 (0+8))+(IntKind.wrap .i64 x13))),())
 |false=>match idx FO (IntKind.wrap .u8 a0)with|none=>none|some x14=>some ((IntKind.wrap .i64 (0+(IntKind.wrap .i64 x14))),())
def AEm[Lk]:=fun v=>Lk.f (RH v)
theorem AEl v:AEm v=RH v:=AJ _
abbrev Ov:AE:=[(.tmp 0,.dat (.int .u64))]
abbrev Ou:AE:=[(.tmp 0,.di)]
abbrev Ot:List RS:=[.one]
def J6[Lk]:U7→Option (U7):=fun(a0,_)=>
 match AEm (a0,())with|none=>none|some (y0,_)=>some (y0,())
def bitsLen[Lk]:=fun v=>Lk.f (J6 v)
theorem VY v:bitsLen v=J6 v:=AJ _
abbrev NR:AE:=[(.tmp 0,.box 1),(.cell 0 0,.dat (.int .u64))]
abbrev NQ:AE:=[(.obj 0,.box 1),(.cell 0 0,.dat (.int .u64)),(.tmp 0,.dat (.int .u64))]
abbrev NP:List RS:=[.one]
def Jc[Lk]:U7→Option (U8):=fun(a0,_)=>
 match shl? .u64 a0 13 with|none=>none|some x0=>match shr? .u64 (IntKind.wrap .u64 ((BitVec.ofInt (IntKind.bits .u64) a0 ^^^ BitVec.ofInt (IntKind.bits .u64) x0).toNat)) 7 with|none=>none|some x1=>match shl? .u64 (IntKind.wrap .u64 ((BitVec.ofInt (IntKind.bits .u64) (IntKind.wrap .u64 ((BitVec.ofInt (IntKind.bits .u64) a0 ^^^ BitVec.ofInt (IntKind.bits .u64) x0).toNat)) ^^^ BitVec.ofInt (IntKind.bits .u64) x1).toNat)) 17 with|none=>none|some x2=>some ((IntKind.wrap .u64 ((BitVec.ofInt (IntKind.bits .u64) (IntKind.wrap .u64 ((BitVec.ofInt (IntKind.bits .u64) (IntKind.wrap .u64 ((BitVec.ofInt (IntKind.bits .u64) a0 ^^^ BitVec.ofInt (IntKind.bits .u64) x0).toNat)) ^^^ BitVec.ofInt (IntKind.bits .u64) x1).toNat)) ^^^ BitVec.ofInt (IntKind.bits .u64) x2).toNat)),(IntKind.wrap .u64 ((BitVec.ofInt (IntKind.bits .u64) (IntKind.wrap .u64 ((BitVec.ofInt (IntKind.bits .u64) (IntKind.wrap .u64 ((BitVec.ofInt (IntKind.bits .u64) a0 ^^^ BitVec.ofInt (IntKind.bits .u64) x0).toNat)) ^^^ BitVec.ofInt (IntKind.bits .u64) x1).toNat)) ^^^ BitVec.ofInt (IntKind.bits .u64) x2).toNat)),())
def xorNext[Lk]:=fun v=>Lk.f (Jc v)
theorem RX v:xorNext v=Jc v:=AJ _
abbrev Nx:AE:=[(.tmp 0,.di)]
abbrev Nw:AE:=[(.tmp 0,.dat (.int .u64))]
abbrev Nv:List RS:=[.one]
def Jn[Lk]:U7→Option (U7):=fun(a0,_)=>
 match bitsLen ((IntKind.wrap .u64 a0),())with|none=>none|some (y0,_)=>match shl? .u64 1 y0 with|none=>none|some x1=>some (x1,())
def Jo[Lk]:=fun v=>Lk.f (Jn v)
theorem TL v:Jo v=Jn v:=AJ _
def MC[Lk]{α:Type}(z:α)(c:α×α×Unit→Option U7):(List α×Int×Int×Int×Int×Unit)→Option ((List α×Int×Int×Int×Int×Unit)⊕(List α×Int×Int×Int×Unit)⊕Unit):=fun(a0,a1,a2,a3,a4,_)=>
 match(ilt a1 a4)with
 |true=>match idx a0 a4 with|none=>none|some x0=>match idx a0 (IntKind.wrap .i64 (a4-1))with|none=>none|some x1=>match c ((AN a0 (AF a4) z),(AN a0 (AF (IntKind.wrap .i64 (a4-1))) z),())with|none=>none|some (y2,_)=>match(ilt y2 0)with
  |true=>match idx a0 (IntKind.wrap .i64 (a4-1))with|none=>none|some x3=>match idx a0 a4 with|none=>none|some x4=>match idx a0 a4 with|none=>none|some x5=>match idx (Aj a0 (AF a4) (AN a0 (AF (IntKind.wrap .i64 (a4-1))) z)) (IntKind.wrap .i64 (a4-1))with|none=>none|some x6=>some (.inl ((Aj (Aj a0 (AF a4) (AN a0 (AF (IntKind.wrap .i64 (a4-1))) z)) (AF (IntKind.wrap .i64 (a4-1))) (AN a0 (AF a4) z)),a1,a2,a3,(IntKind.wrap .i64 (a4-1)),()))
  |false=>some (.inr (.inl (a0,a1,a2,a3,())))
 |false=>some (.inr (.inl (a0,a1,a2,a3,())))
def MD[Lk]{α:Type}(z:α)(c:α×α×Unit→Option U7):(List α×Int×Int×Int×Unit)→Option ((List α×Int×Int×Int×Unit)⊕(List α×Unit)⊕Unit):=fun(a0,a1,a2,a3,_)=>
 match(ilt a3 a2)with
 |true=>match AZ (MC z c) many (a0,a1,a2,a3,a3,())with|none=>none|some r=>match r with
  |.inl (o0,o1,o2,o3,_)=>some (.inl (o0,o1,o2,(IntKind.wrap .i64 (o3+1)),()))
  |.inr _=>none
 |false=>some (.inr (.inl (a0,())))
def AAq[Lk]{α:Type}(z:α)(c:α×α×Unit→Option U7):(List α×Int×Int×Unit)→Option ((List α×Unit)):=fun(a0,a1,a2,_)=>
 match AZ (MD z c) many (a0,a1,a2,(IntKind.wrap .i64 (a1+1)),())with|none=>none|some r=>match r with
 |.inl (o0,_)=>some (o0,())
 |.inr _=>none
def ASw[Lk]{α:Type}(z:α)(c:α×α×Unit→Option U7)(v:(List α×Int×Int×Unit)):Option ((List α×Unit)):=Lk.f ((AAq z c) v)
theorem ASv{α:Type}(z:α)(c:α×α×Unit→Option U7)(v:(List α×Int×Int×Unit)):(ASw z c) v=(AAq z c) v:=AJ _
def Ii[Lk]{α:Type}(z:α)(c:α×α×Unit→Option U7):(List α×Int×Int×Int×Unit)→Option ((List α×Int×Int×Int×Unit)⊕(List α×Unit)⊕(List α×Unit)⊕Unit):=fun(a0,a1,a2,a3,_)=>
 match(ile a1 (IntKind.wrap .i64 ((IntKind.wrap .i64 (2*a3))+1)))with
 |true=>some (.inr (.inl (a0,())))
 |false=>match(ilt (IntKind.wrap .i64 ((IntKind.wrap .i64 ((IntKind.wrap .i64 (2*a3))+1))+1)) a1)with
 |true=>match idx a0 (IntKind.wrap .i64 (a2+(IntKind.wrap .i64 ((IntKind.wrap .i64 (2*a3))+1))))with|none=>none|some x0=>match idx a0 (IntKind.wrap .i64 ((IntKind.wrap .i64 (a2+(IntKind.wrap .i64 ((IntKind.wrap .i64 (2*a3))+1))))+1))with|none=>none|some x1=>match c ((AN a0 (AF (IntKind.wrap .i64 (a2+(IntKind.wrap .i64 ((IntKind.wrap .i64 (2*a3))+1))))) z),(AN a0 (AF (IntKind.wrap .i64 ((IntKind.wrap .i64 (a2+(IntKind.wrap .i64 ((IntKind.wrap .i64 (2*a3))+1))))+1))) z),())with|none=>none|some (y2,_)=>match(ilt y2 0)with
  |true=>match idx a0 (IntKind.wrap .i64 (a2+a3))with|none=>none|some x3=>match idx a0 (IntKind.wrap .i64 (a2+(IntKind.wrap .i64 ((IntKind.wrap .i64 ((IntKind.wrap .i64 (2*a3))+1))+1))))with|none=>none|some x4=>match c ((AN a0 (AF (IntKind.wrap .i64 (a2+a3))) z),(AN a0 (AF (IntKind.wrap .i64 (a2+(IntKind.wrap .i64 ((IntKind.wrap .i64 ((IntKind.wrap .i64 (2*a3))+1))+1))))) z),())with|none=>none|some (y5,_)=>match(!(ilt y5 0))with
   |true=>some (.inr (.inr (.inl (a0,()))))
   |false=>match idx a0 (IntKind.wrap .i64 (a2+(IntKind.wrap .i64 ((IntKind.wrap .i64 ((IntKind.wrap .i64 (2*a3))+1))+1))))with|none=>none|some x6=>match idx a0 (IntKind.wrap .i64 (a2+a3))with|none=>none|some x7=>match idx a0 (IntKind.wrap .i64 (a2+a3))with|none=>none|some x8=>match idx (Aj a0 (AF (IntKind.wrap .i64 (a2+a3))) (AN a0 (AF (IntKind.wrap .i64 (a2+(IntKind.wrap .i64 ((IntKind.wrap .i64 ((IntKind.wrap .i64 (2*a3))+1))+1))))) z)) (IntKind.wrap .i64 (a2+(IntKind.wrap .i64 ((IntKind.wrap .i64 ((IntKind.wrap .i64 (2*a3))+1))+1))))with|none=>none|some x9=>some (.inl ((Aj (Aj a0 (AF (IntKind.wrap .i64 (a2+a3))) (AN a0 (AF (IntKind.wrap .i64 (a2+(IntKind.wrap .i64 ((IntKind.wrap .i64 ((IntKind.wrap .i64 (2*a3))+1))+1))))) z)) (AF (IntKind.wrap .i64 (a2+(IntKind.wrap .i64 ((IntKind.wrap .i64 ((IntKind.wrap .i64 (2*a3))+1))+1))))) (AN a0 (AF (IntKind.wrap .i64 (a2+a3))) z)),a1,a2,(IntKind.wrap .i64 ((IntKind.wrap .i64 ((IntKind.wrap .i64 (2*a3))+1))+1)),()))
  |false=>match idx a0 (IntKind.wrap .i64 (a2+a3))with|none=>none|some x10=>match idx a0 (IntKind.wrap .i64 (a2+(IntKind.wrap .i64 ((IntKind.wrap .i64 (2*a3))+1))))with|none=>none|some x11=>match c ((AN a0 (AF (IntKind.wrap .i64 (a2+a3))) z),(AN a0 (AF (IntKind.wrap .i64 (a2+(IntKind.wrap .i64 ((IntKind.wrap .i64 (2*a3))+1))))) z),())with|none=>none|some (y12,_)=>match(!(ilt y12 0))with
  |true=>some (.inr (.inr (.inl (a0,()))))
  |false=>match idx a0 (IntKind.wrap .i64 (a2+(IntKind.wrap .i64 ((IntKind.wrap .i64 (2*a3))+1))))with|none=>none|some x13=>match idx a0 (IntKind.wrap .i64 (a2+a3))with|none=>none|some x14=>match idx a0 (IntKind.wrap .i64 (a2+a3))with|none=>none|some x15=>match idx (Aj a0 (AF (IntKind.wrap .i64 (a2+a3))) (AN a0 (AF (IntKind.wrap .i64 (a2+(IntKind.wrap .i64 ((IntKind.wrap .i64 (2*a3))+1))))) z)) (IntKind.wrap .i64 (a2+(IntKind.wrap .i64 ((IntKind.wrap .i64 (2*a3))+1))))with|none=>none|some x16=>some (.inl ((Aj (Aj a0 (AF (IntKind.wrap .i64 (a2+a3))) (AN a0 (AF (IntKind.wrap .i64 (a2+(IntKind.wrap .i64 ((IntKind.wrap .i64 (2*a3))+1))))) z)) (AF (IntKind.wrap .i64 (a2+(IntKind.wrap .i64 ((IntKind.wrap .i64 (2*a3))+1))))) (AN a0 (AF (IntKind.wrap .i64 (a2+a3))) z)),a1,a2,(IntKind.wrap .i64 ((IntKind.wrap .i64 (2*a3))+1)),()))
 |false=>match idx a0 (IntKind.wrap .i64 (a2+a3))with|none=>none|some x17=>match idx a0 (IntKind.wrap .i64 (a2+(IntKind.wrap .i64 ((IntKind.wrap .i64 (2*a3))+1))))with|none=>none|some x18=>match c ((AN a0 (AF (IntKind.wrap .i64 (a2+a3))) z),(AN a0 (AF (IntKind.wrap .i64 (a2+(IntKind.wrap .i64 ((IntKind.wrap .i64 (2*a3))+1))))) z),())with|none=>none|some (y19,_)=>match(!(ilt y19 0))with
 |true=>some (.inr (.inr (.inl (a0,()))))
 |false=>match idx a0 (IntKind.wrap .i64 (a2+(IntKind.wrap .i64 ((IntKind.wrap .i64 (2*a3))+1))))with|none=>none|some x20=>match idx a0 (IntKind.wrap .i64 (a2+a3))with|none=>none|some x21=>match idx a0 (IntKind.wrap .i64 (a2+a3))with|none=>none|some x22=>match idx (Aj a0 (AF (IntKind.wrap .i64 (a2+a3))) (AN a0 (AF (IntKind.wrap .i64 (a2+(IntKind.wrap .i64 ((IntKind.wrap .i64 (2*a3))+1))))) z)) (IntKind.wrap .i64 (a2+(IntKind.wrap .i64 ((IntKind.wrap .i64 (2*a3))+1))))with|none=>none|some x23=>some (.inl ((Aj (Aj a0 (AF (IntKind.wrap .i64 (a2+a3))) (AN a0 (AF (IntKind.wrap .i64 (a2+(IntKind.wrap .i64 ((IntKind.wrap .i64 (2*a3))+1))))) z)) (AF (IntKind.wrap .i64 (a2+(IntKind.wrap .i64 ((IntKind.wrap .i64 (2*a3))+1))))) (AN a0 (AF (IntKind.wrap .i64 (a2+a3))) z)),a1,a2,(IntKind.wrap .i64 ((IntKind.wrap .i64 (2*a3))+1)),()))
def Q1[Lk]{α:Type}(z:α)(c:α×α×Unit→Option U7):(List α×Int×Int×Int×Unit)→Option ((List α×Unit)):=fun(a0,a1,a2,a3,_)=>
 match AZ (Ii z c) many (a0,a2,a3,a1,())with|none=>none|some r=>match r with
 |.inl (o0,_)=>some (o0,())
 |.inr r=>match r with
 |.inl (o1,_)=>some (o1,())
 |.inr _=>none
def ACs[Lk]{α:Type}(z:α)(c:α×α×Unit→Option U7)(v:(List α×Int×Int×Int×Unit)):Option ((List α×Unit)):=Lk.f ((Q1 z c) v)
theorem AO6{α:Type}(z:α)(c:α×α×Unit→Option U7)(v:(List α×Int×Int×Int×Unit)):(ACs z c) v=(Q1 z c) v:=AJ _
def JG[Lk]{α:Type}(z:α)(c:α×α×Unit→Option U7):(List α×Int×Int×Int×Unit)→Option ((List α×Int×Int×Int×Unit)⊕(List α×Unit)⊕Unit):=fun(a0,a1,a2,a3,_)=>
 match(ile 0 a3)with
 |true=>match idx a0 (IntKind.wrap .i64 (a1+a3))with|none=>none|some x0=>match idx a0 a1 with|none=>none|some x1=>match idx a0 a1 with|none=>none|some x2=>match idx (Aj a0 (AF a1) (AN a0 (AF (IntKind.wrap .i64 (a1+a3))) z)) (IntKind.wrap .i64 (a1+a3))with|none=>none|some x3=>match(ACs z c) ((Aj (Aj a0 (AF a1) (AN a0 (AF (IntKind.wrap .i64 (a1+a3))) z)) (AF (IntKind.wrap .i64 (a1+a3))) (AN a0 (AF a1) z)),a2,a3,a1,())with|none=>none|some (y4,_)=>some (.inl (y4,a1,a2,(IntKind.wrap .i64 (a3-1)),()))
 |false=>some (.inr (.inl (a0,())))
def JH[Lk]{α:Type}(z:α)(c:α×α×Unit→Option U7):(List α×Int×Int×Int×Int×Unit)→Option ((List α×Int×Int×Int×Int×Unit)⊕(List α×Int×Int×Int×Unit)⊕Unit):=fun(a0,a1,a2,a3,a4,_)=>
 match(ile 0 a4)with
 |true=>match(ACs z c) (a0,a4,a3,a1,())with|none=>none|some (y0,_)=>some (.inl (y0,a1,a2,a3,(IntKind.wrap .i64 (a4-1)),()))
 |false=>some (.inr (.inl (a0,a1,a2,a3,())))
def RJ[Lk]{α:Type}(z:α)(c:α×α×Unit→Option U7):(List α×Int×Int×Unit)→Option ((List α×Unit)):=fun(a0,a1,a2,_)=>
 match quo? .i64 (IntKind.wrap .i64 ((IntKind.wrap .i64 (a2-a1))-1)) 2 with|none=>none|some x0=>match AZ (JH z c) many (a0,a1,0,(IntKind.wrap .i64 (a2-a1)),x0,())with|none=>none|some r=>match r with
 |.inl (o1,o2,o3,o4,_)=>match AZ (JG z c) many (o1,o2,o3,(IntKind.wrap .i64 (o4-1)),())with|none=>none|some r=>match r with
  |.inl (o5,_)=>some (o5,())
  |.inr _=>none
 |.inr _=>none
def AKx[Lk]{α:Type}(z:α)(c:α×α×Unit→Option U7)(v:(List α×Int×Int×Unit)):Option ((List α×Unit)):=Lk.f ((RJ z c) v)
theorem AQs{α:Type}(z:α)(c:α×α×Unit→Option U7)(v:(List α×Int×Int×Unit)):(AKx z c) v=(RJ z c) v:=AJ _
def Ft[Lk]{α:Type}(z:α)(c:α×α×Unit→Option U7):(List α×Int×Int×Int×Int×Int×Unit)→Option ((List α×Int×Int×Int×Int×Int×Unit)⊕(List α×Unit)⊕Unit):=fun(a0,a1,a2,a3,a4,a5,_)=>
 match quo? .i64 a2 4 with|none=>none|some x0=>match(ile a5 (IntKind.wrap .i64 ((IntKind.wrap .i64 (a1+(IntKind.wrap .i64 (x0*2))))+1)))with
 |true=>match xorNext (a3,())with|none=>none|some (y1,y2,_)=>match(ile a2 (IntKind.wrap .i64 (IntKind.wrap .u64 ((BitVec.ofInt (IntKind.bits .u64) y2 &&& BitVec.ofInt (IntKind.bits .u64) (IntKind.wrap .u64 (a4-1))).toNat))))with
  |true=>match idx a0 (IntKind.wrap .i64 (a1+(IntKind.wrap .i64 ((IntKind.wrap .i64 (IntKind.wrap .u64 ((BitVec.ofInt (IntKind.bits .u64) y2 &&& BitVec.ofInt (IntKind.bits .u64) (IntKind.wrap .u64 (a4-1))).toNat)))-a2))))with|none=>none|some x3=>match idx a0 a5 with|none=>none|some x4=>match idx a0 a5 with|none=>none|some x5=>match idx (Aj a0 (AF a5) (AN a0 (AF (IntKind.wrap .i64 (a1+(IntKind.wrap .i64 ((IntKind.wrap .i64 (IntKind.wrap .u64 ((BitVec.ofInt (IntKind.bits .u64) y2 &&& BitVec.ofInt (IntKind.bits .u64) (IntKind.wrap .u64 (a4-1))).toNat)))-a2))))) z)) (IntKind.wrap .i64 (a1+(IntKind.wrap .i64 ((IntKind.wrap .i64 (IntKind.wrap .u64 ((BitVec.ofInt (IntKind.bits .u64) y2 &&& BitVec.ofInt (IntKind.bits .u64) (IntKind.wrap .u64 (a4-1))).toNat)))-a2))))with|none=>none|some x6=>some (.inl ((Aj (Aj a0 (AF a5) (AN a0 (AF (IntKind.wrap .i64 (a1+(IntKind.wrap .i64 ((IntKind.wrap .i64 (IntKind.wrap .u64 ((BitVec.ofInt (IntKind.bits .u64) y2 &&& BitVec.ofInt (IntKind.bits .u64) (IntKind.wrap .u64 (a4-1))).toNat)))-a2))))) z)) (AF (IntKind.wrap .i64 (a1+(IntKind.wrap .i64 ((IntKind.wrap .i64 (IntKind.wrap .u64 ((BitVec.ofInt (IntKind.bits .u64) y2 &&& BitVec.ofInt (IntKind.bits .u64) (IntKind.wrap .u64 (a4-1))).toNat)))-a2))))) (AN a0 (AF a5) z)),a1,a2,y1,a4,(IntKind.wrap .i64 (a5+1)),()))
  |false=>match idx a0 (IntKind.wrap .i64 (a1+(IntKind.wrap .i64 (IntKind.wrap .u64 ((BitVec.ofInt (IntKind.bits .u64) y2 &&& BitVec.ofInt (IntKind.bits .u64) (IntKind.wrap .u64 (a4-1))).toNat)))))with|none=>none|some x7=>match idx a0 a5 with|none=>none|some x8=>match idx a0 a5 with|none=>none|some x9=>match idx (Aj a0 (AF a5) (AN a0 (AF (IntKind.wrap .i64 (a1+(IntKind.wrap .i64 (IntKind.wrap .u64 ((BitVec.ofInt (IntKind.bits .u64) y2 &&& BitVec.ofInt (IntKind.bits .u64) (IntKind.wrap .u64 (a4-1))).toNat)))))) z)) (IntKind.wrap .i64 (a1+(IntKind.wrap .i64 (IntKind.wrap .u64 ((BitVec.ofInt (IntKind.bits .u64) y2 &&& BitVec.ofInt (IntKind.bits .u64) (IntKind.wrap .u64 (a4-1))).toNat)))))with|none=>none|some x10=>some (.inl ((Aj (Aj a0 (AF a5) (AN a0 (AF (IntKind.wrap .i64 (a1+(IntKind.wrap .i64 (IntKind.wrap .u64 ((BitVec.ofInt (IntKind.bits .u64) y2 &&& BitVec.ofInt (IntKind.bits .u64) (IntKind.wrap .u64 (a4-1))).toNat)))))) z)) (AF (IntKind.wrap .i64 (a1+(IntKind.wrap .i64 (IntKind.wrap .u64 ((BitVec.ofInt (IntKind.bits .u64) y2 &&& BitVec.ofInt (IntKind.bits .u64) (IntKind.wrap .u64 (a4-1))).toNat)))))) (AN a0 (AF a5) z)),a1,a2,y1,a4,(IntKind.wrap .i64 (a5+1)),()))
 |false=>some (.inr (.inl (a0,())))
def Mo[Lk]{α:Type}(z:α)(c:α×α×Unit→Option U7):(List α×Int×Int×Unit)→Option ((List α×Unit)):=fun(a0,a1,a2,_)=>
 match(ile 8 (IntKind.wrap .i64 (a2-a1)))with
 |true=>match Jo ((IntKind.wrap .i64 (a2-a1)),())with|none=>none|some (y0,_)=>match quo? .i64 (IntKind.wrap .i64 (a2-a1)) 4 with|none=>none|some x1=>match AZ (Ft z c) many (a0,a1,(IntKind.wrap .i64 (a2-a1)),(IntKind.wrap .u64 (IntKind.wrap .i64 (a2-a1))),y0,(IntKind.wrap .i64 ((IntKind.wrap .i64 (a1+(IntKind.wrap .i64 (x1*2))))-1)),())with|none=>none|some r=>match r with
  |.inl (o2,_)=>some (o2,())
  |.inr _=>none
 |false=>some (a0,())
def ABi[Lk]{α:Type}(z:α)(c:α×α×Unit→Option U7)(v:(List α×Int×Int×Unit)):Option ((List α×Unit)):=Lk.f ((Mo z c) v)
theorem AOB{α:Type}(z:α)(c:α×α×Unit→Option U7)(v:(List α×Int×Int×Unit)):(ABi z c) v=(Mo z c) v:=AJ _
def Jl[Lk]{α:Type}(z:α)(c:α×α×Unit→Option U7):(List α×Int×Int×Int×Unit)→Option ((List α×Int×Int×Int×Unit)):=fun(a0,a1,a2,a3,_)=>
 match idx a0 a2 with|none=>none|some x0=>match idx a0 a1 with|none=>none|some x1=>match c ((AN a0 (AF a2) z),(AN a0 (AF a1) z),())with|none=>none|some (y2,_)=>match(ilt y2 0)with
 |true=>some (a0,(IntKind.wrap .i64 (a3+1)),a2,a1,())
 |false=>some (a0,a3,a1,a2,())
def Jm[Lk]{α:Type}(z:α)(c:α×α×Unit→Option U7)(v:(List α×Int×Int×Int×Unit)):Option ((List α×Int×Int×Int×Unit)):=Lk.f ((Jl z c) v)
theorem AHv{α:Type}(z:α)(c:α×α×Unit→Option U7)(v:(List α×Int×Int×Int×Unit)):(Jm z c) v=(Jl z c) v:=AJ _
def Jq[Lk]{α:Type}(z:α)(c:α×α×Unit→Option U7):(List α×Int×Int×Int×Int×Unit)→Option ((List α×Int×Int×Unit)):=fun(a0,a1,a2,a3,a4,_)=>
 match(Jm z c) (a0,a1,a2,a4,())with|none=>none|some (y0,y1,y2,y3,_)=>match(Jm z c) (y0,y3,a3,y1,())with|none=>none|some (y4,y5,y6,y7,_)=>match(Jm z c) (y4,y2,y6,y5,())with|none=>none|some (y8,y9,y10,y11,_)=>some (y8,y9,y11,())
def Jr[Lk]{α:Type}(z:α)(c:α×α×Unit→Option U7)(v:(List α×Int×Int×Int×Int×Unit)):Option ((List α×Int×Int×Unit)):=Lk.f ((Jq z c) v)
theorem AII{α:Type}(z:α)(c:α×α×Unit→Option U7)(v:(List α×Int×Int×Int×Int×Unit)):(Jr z c) v=(Jq z c) v:=AJ _
def Jt[Lk]{α:Type}(z:α)(c:α×α×Unit→Option U7):(List α×Int×Int×Unit)→Option ((List α×Int×Int×Unit)):=fun(a0,a1,a2,_)=>
 match(Jr z c) (a0,(IntKind.wrap .i64 (a1-1)),a1,(IntKind.wrap .i64 (a1+1)),a2,())with|none=>none|some (y0,y1,y2,_)=>some (y0,y1,y2,())
def Ju[Lk]{α:Type}(z:α)(c:α×α×Unit→Option U7)(v:(List α×Int×Int×Unit)):Option ((List α×Int×Int×Unit)):=Lk.f ((Jt z c) v)
theorem AIK{α:Type}(z:α)(c:α×α×Unit→Option U7)(v:(List α×Int×Int×Unit)):(Ju z c) v=(Jt z c) v:=AJ _
def Lf[Lk]{α:Type}(z:α)(c:α×α×Unit→Option U7):(List α×Int×Int×Unit)→Option ((List α×Int×Int×Unit)):=fun(a0,a1,a2,_)=>
 match quo? .i64 (IntKind.wrap .i64 (a2-a1)) 4 with|none=>none|some x0=>match quo? .i64 (IntKind.wrap .i64 (a2-a1)) 4 with|none=>none|some x1=>match quo? .i64 (IntKind.wrap .i64 (a2-a1)) 4 with|none=>none|some x2=>match(ile 8 (IntKind.wrap .i64 (a2-a1)))with
 |true=>match(ile 50 (IntKind.wrap .i64 (a2-a1)))with
  |true=>match(Ju z c) (a0,(IntKind.wrap .i64 (a1+(IntKind.wrap .i64 (x0*1)))),0,())with|none=>none|some (y3,y4,y5,_)=>match(Ju z c) (y3,(IntKind.wrap .i64 (a1+(IntKind.wrap .i64 (x1*2)))),y4,())with|none=>none|some (y6,y7,y8,_)=>match(Ju z c) (y6,(IntKind.wrap .i64 (a1+(IntKind.wrap .i64 (x2*3)))),y7,())with|none=>none|some (y9,y10,y11,_)=>match(Jr z c) (y9,y5,y8,y11,y10,())with|none=>none|some (y12,y13,y14,_)=>match(ieq y13 0)with
   |true=>some (y12,y14,1,())
   |false=>match(ieq y13 12)with
   |true=>some (y12,y14,2,())
   |false=>some (y12,y14,0,())
  |false=>match(Jr z c) (a0,(IntKind.wrap .i64 (a1+(IntKind.wrap .i64 (x0*1)))),(IntKind.wrap .i64 (a1+(IntKind.wrap .i64 (x1*2)))),(IntKind.wrap .i64 (a1+(IntKind.wrap .i64 (x2*3)))),0,())with|none=>none|some (y15,y16,y17,_)=>match(ieq y16 0)with
  |true=>some (y15,y17,1,())
  |false=>match(ieq y16 12)with
  |true=>some (y15,y17,2,())
  |false=>some (y15,y17,0,())
 |false=>match(ieq 0 0)with
 |true=>some (a0,(IntKind.wrap .i64 (a1+(IntKind.wrap .i64 (x1*2)))),1,())
 |false=>match(ieq 0 12)with
 |true=>some (a0,(IntKind.wrap .i64 (a1+(IntKind.wrap .i64 (x1*2)))),2,())
 |false=>some (a0,(IntKind.wrap .i64 (a1+(IntKind.wrap .i64 (x1*2)))),0,())
def ZV[Lk]{α:Type}(z:α)(c:α×α×Unit→Option U7)(v:(List α×Int×Int×Unit)):Option ((List α×Int×Int×Unit)):=Lk.f ((Lf z c) v)
theorem AMC{α:Type}(z:α)(c:α×α×Unit→Option U7)(v:(List α×Int×Int×Unit)):(ZV z c) v=(Lf z c) v:=AJ _
def Q4[Lk]{α:Type}(z:α)(c:α×α×Unit→Option U7):(List α×Int×Int×Unit)→Option ((List α×Int×Int×Unit)⊕(List α×Unit)⊕Unit):=fun(a0,a1,a2,_)=>
 match(ilt a1 a2)with
 |true=>match idx a0 a2 with|none=>none|some x0=>match idx a0 a1 with|none=>none|some x1=>match idx a0 a1 with|none=>none|some x2=>match idx (Aj a0 (AF a1) (AN a0 (AF a2) z)) a2 with|none=>none|some x3=>some (.inl ((Aj (Aj a0 (AF a1) (AN a0 (AF a2) z)) (AF a2) (AN a0 (AF a1) z)),(IntKind.wrap .i64 (a1+1)),(IntKind.wrap .i64 (a2-1)),()))
 |false=>some (.inr (.inl (a0,())))
def ZN[Lk]{α:Type}(z:α)(c:α×α×Unit→Option U7):(List α×Int×Int×Unit)→Option ((List α×Unit)):=fun(a0,a1,a2,_)=>
 match AZ (Q4 z c) many (a0,a1,(IntKind.wrap .i64 (a2-1)),())with|none=>none|some r=>match r with
 |.inl (o0,_)=>some (o0,())
 |.inr _=>none
def AR8[Lk]{α:Type}(z:α)(c:α×α×Unit→Option U7)(v:(List α×Int×Int×Unit)):Option ((List α×Unit)):=Lk.f ((ZN z c) v)
theorem AR7{α:Type}(z:α)(c:α×α×Unit→Option U7)(v:(List α×Int×Int×Unit)):(AR8 z c) v=(ZN z c) v:=AJ _
def E7[Lk]{α:Type}(z:α)(c:α×α×Unit→Option U7):(List α×Int×Int×Int×Int×Int×Unit)→Option ((List α×Int×Int×Int×Int×Int×Unit)⊕(List α×Int×Int×Int×Int×Unit)⊕Unit):=fun(a0,a1,a2,a3,a4,a5,_)=>
 match(ilt a5 a2)with
 |true=>match idx a0 a5 with|none=>none|some x0=>match idx a0 (IntKind.wrap .i64 (a5-1))with|none=>none|some x1=>match c ((AN a0 (AF a5) z),(AN a0 (AF (IntKind.wrap .i64 (a5-1))) z),())with|none=>none|some (y2,_)=>match(!(ilt y2 0))with
  |true=>some (.inr (.inl (a0,a1,a2,a3,a4,())))
  |false=>match idx a0 (IntKind.wrap .i64 (a5-1))with|none=>none|some x3=>match idx a0 a5 with|none=>none|some x4=>match idx a0 a5 with|none=>none|some x5=>match idx (Aj a0 (AF a5) (AN a0 (AF (IntKind.wrap .i64 (a5-1))) z)) (IntKind.wrap .i64 (a5-1))with|none=>none|some x6=>some (.inl ((Aj (Aj a0 (AF a5) (AN a0 (AF (IntKind.wrap .i64 (a5-1))) z)) (AF (IntKind.wrap .i64 (a5-1))) (AN a0 (AF a5) z)),a1,a2,a3,a4,(IntKind.wrap .i64 (a5+1)),()))
 |false=>some (.inr (.inl (a0,a1,a2,a3,a4,())))
def E8[Lk]{α:Type}(z:α)(c:α×α×Unit→Option U7):(List α×Int×Int×Int×Int×Int×Unit)→Option ((List α×Int×Int×Int×Int×Int×Unit)⊕(List α×Int×Int×Int×Int×Unit)⊕Unit):=fun(a0,a1,a2,a3,a4,a5,_)=>
 match(ile 1 a5)with
 |true=>match idx a0 a5 with|none=>none|some x0=>match idx a0 (IntKind.wrap .i64 (a5-1))with|none=>none|some x1=>match c ((AN a0 (AF a5) z),(AN a0 (AF (IntKind.wrap .i64 (a5-1))) z),())with|none=>none|some (y2,_)=>match(!(ilt y2 0))with
  |true=>some (.inr (.inl (a0,a1,a2,a3,a4,())))
  |false=>match idx a0 (IntKind.wrap .i64 (a5-1))with|none=>none|some x3=>match idx a0 a5 with|none=>none|some x4=>match idx a0 a5 with|none=>none|some x5=>match idx (Aj a0 (AF a5) (AN a0 (AF (IntKind.wrap .i64 (a5-1))) z)) (IntKind.wrap .i64 (a5-1))with|none=>none|some x6=>some (.inl ((Aj (Aj a0 (AF a5) (AN a0 (AF (IntKind.wrap .i64 (a5-1))) z)) (AF (IntKind.wrap .i64 (a5-1))) (AN a0 (AF a5) z)),a1,a2,a3,a4,(IntKind.wrap .i64 (a5-1)),()))
 |false=>some (.inr (.inl (a0,a1,a2,a3,a4,())))
def Gn[Lk]{α:Type}(z:α)(c:α×α×Unit→Option U7):(List α×Int×Int×Int×Int×Unit)→Option ((List α×Int×Int×Int×Int×Unit)⊕(List α×Int×Int×Int×Int×Unit)⊕Unit):=fun(a0,a1,a2,a3,a4,_)=>
 match(ilt a3 a2)with
 |true=>match idx a0 a3 with|none=>none|some x0=>match idx a0 (IntKind.wrap .i64 (a3-1))with|none=>none|some x1=>match c ((AN a0 (AF a3) z),(AN a0 (AF (IntKind.wrap .i64 (a3-1))) z),())with|none=>none|some (y2,_)=>match(!(ilt y2 0))with
  |true=>some (.inl (a0,a1,a2,(IntKind.wrap .i64 (a3+1)),a4,()))
  |false=>some (.inr (.inl (a0,a1,a2,a3,a4,())))
 |false=>some (.inr (.inl (a0,a1,a2,a3,a4,())))
def CP[Lk]{α:Type}(z:α)(c:α×α×Unit→Option U7):(List α×Int×Int×Int×Int×Unit)→Option ((List α×Int×Int×Int×Int×Unit)⊕(List α×Bool×Unit)⊕(List α×Unit)⊕Unit):=fun(a0,a1,a2,a3,a4,_)=>
 match(ilt a4 5)with
 |true=>match AZ (Gn z c) many (a0,a1,a2,a3,a4,())with|none=>none|some r=>match r with
  |.inl (o0,o1,o2,o3,o4,_)=>match(ieq o3 o2)with
   |true=>some (.inr (.inl (o0,true,())))
   |false=>match(ilt (IntKind.wrap .i64 (o2-o1)) 50)with
   |true=>some (.inr (.inl (o0,false,())))
   |false=>match idx o0 (IntKind.wrap .i64 (o3-1))with|none=>none|some x5=>match idx o0 o3 with|none=>none|some x6=>match idx o0 o3 with|none=>none|some x7=>match idx (Aj o0 (AF o3) (AN o0 (AF (IntKind.wrap .i64 (o3-1))) z)) (IntKind.wrap .i64 (o3-1))with|none=>none|some x8=>match(ile 2 (IntKind.wrap .i64 (o3-o1)))with
   |true=>match AZ (E8 z c) many ((Aj (Aj o0 (AF o3) (AN o0 (AF (IntKind.wrap .i64 (o3-1))) z)) (AF (IntKind.wrap .i64 (o3-1))) (AN o0 (AF o3) z)),o1,o2,o3,o4,(IntKind.wrap .i64 (o3-1)),())with|none=>none|some r=>match r with
    |.inl (o9,o10,o11,o12,o13,_)=>match(ile 2 (IntKind.wrap .i64 (o11-o12)))with
     |true=>match AZ (E7 z c) many (o9,o10,o11,o12,o13,(IntKind.wrap .i64 (o12+1)),())with|none=>none|some r=>match r with
      |.inl (o14,o15,o16,o17,o18,_)=>some (.inl (o14,o15,o16,o17,(IntKind.wrap .i64 (o18+1)),()))
      |.inr _=>none
     |false=>some (.inl (o9,o10,o11,o12,(IntKind.wrap .i64 (o13+1)),()))
    |.inr _=>none
   |false=>match(ile 2 (IntKind.wrap .i64 (o2-o3)))with
   |true=>match AZ (E7 z c) many ((Aj (Aj o0 (AF o3) (AN o0 (AF (IntKind.wrap .i64 (o3-1))) z)) (AF (IntKind.wrap .i64 (o3-1))) (AN o0 (AF o3) z)),o1,o2,o3,o4,(IntKind.wrap .i64 (o3+1)),())with|none=>none|some r=>match r with
    |.inl (o19,o20,o21,o22,o23,_)=>some (.inl (o19,o20,o21,o22,(IntKind.wrap .i64 (o23+1)),()))
    |.inr _=>none
   |false=>some (.inl ((Aj (Aj o0 (AF o3) (AN o0 (AF (IntKind.wrap .i64 (o3-1))) z)) (AF (IntKind.wrap .i64 (o3-1))) (AN o0 (AF o3) z)),o1,o2,o3,(IntKind.wrap .i64 (o4+1)),()))
  |.inr _=>none
 |false=>some (.inr (.inr (.inl (a0,()))))
def Hr[Lk]{α:Type}(z:α)(c:α×α×Unit→Option U7):(List α×Int×Int×Unit)→Option ((List α×Bool×Unit)):=fun(a0,a1,a2,_)=>
 match AZ (CP z c) many (a0,a1,a2,(IntKind.wrap .i64 (a1+1)),0,())with|none=>none|some r=>match r with
 |.inl (o0,o1,_)=>some (o0,o1,())
 |.inr r=>match r with
 |.inl (o2,_)=>some (o2,false,())
 |.inr _=>none
def Lj[Lk]{α:Type}(z:α)(c:α×α×Unit→Option U7)(v:(List α×Int×Int×Unit)):Option ((List α×Bool×Unit)):=Lk.f ((Hr z c) v)
theorem ADu{α:Type}(z:α)(c:α×α×Unit→Option U7)(v:(List α×Int×Int×Unit)):(Lj z c) v=(Hr z c) v:=AJ _
def Hs[Lk]{α:Type}(z:α)(c:α×α×Unit→Option U7):(List α×Int×Int×Int×Unit)→Option ((List α×Int×Int×Int×Unit)⊕(List α×Int×Int×Int×Unit)⊕Unit):=fun(a0,a1,a2,a3,_)=>
 match(ile a2 a3)with
 |true=>match idx a0 a1 with|none=>none|some x0=>match idx a0 a3 with|none=>none|some x1=>match c ((AN a0 (AF a1) z),(AN a0 (AF a3) z),())with|none=>none|some (y2,_)=>match(ilt y2 0)with
  |true=>some (.inl (a0,a1,a2,(IntKind.wrap .i64 (a3-1)),()))
  |false=>some (.inr (.inl (a0,a1,a2,a3,())))
 |false=>some (.inr (.inl (a0,a1,a2,a3,())))
def Ht[Lk]{α:Type}(z:α)(c:α×α×Unit→Option U7):(List α×Int×Int×Int×Unit)→Option ((List α×Int×Int×Int×Unit)⊕(List α×Int×Int×Int×Unit)⊕Unit):=fun(a0,a1,a2,a3,_)=>
 match(ile a2 a3)with
 |true=>match idx a0 a1 with|none=>none|some x0=>match idx a0 a2 with|none=>none|some x1=>match c ((AN a0 (AF a1) z),(AN a0 (AF a2) z),())with|none=>none|some (y2,_)=>match(!(ilt y2 0))with
  |true=>some (.inl (a0,a1,(IntKind.wrap .i64 (a2+1)),a3,()))
  |false=>some (.inr (.inl (a0,a1,a2,a3,())))
 |false=>some (.inr (.inl (a0,a1,a2,a3,())))
def Hu[Lk]{α:Type}(z:α)(c:α×α×Unit→Option U7):(List α×Int×Int×Int×Unit)→Option ((List α×Int×Int×Int×Unit)⊕(List α×Int×Unit)⊕Unit):=fun(a0,a1,a2,a3,_)=>
 match AZ (Ht z c) many (a0,a1,a2,a3,())with|none=>none|some r=>match r with
 |.inl (o0,o1,o2,o3,_)=>match AZ (Hs z c) many (o0,o1,o2,o3,())with|none=>none|some r=>match r with
  |.inl (o4,o5,o6,o7,_)=>match(ilt o7 o6)with
   |true=>some (.inr (.inl (o4,o6,())))
   |false=>match idx o4 o7 with|none=>none|some x8=>match idx o4 o6 with|none=>none|some x9=>match idx o4 o6 with|none=>none|some x10=>match idx (Aj o4 (AF o6) (AN o4 (AF o7) z)) o7 with|none=>none|some x11=>some (.inl ((Aj (Aj o4 (AF o6) (AN o4 (AF o7) z)) (AF o7) (AN o4 (AF o6) z)),o5,(IntKind.wrap .i64 (o6+1)),(IntKind.wrap .i64 (o7-1)),()))
  |.inr _=>none
 |.inr _=>none
def Jj[Lk]{α:Type}(z:α)(c:α×α×Unit→Option U7):(List α×Int×Int×Int×Unit)→Option ((List α×Int×Unit)):=fun(a0,a1,a2,a3,_)=>
 match idx a0 a3 with|none=>none|some x0=>match idx a0 a1 with|none=>none|some x1=>match idx a0 a1 with|none=>none|some x2=>match idx (Aj a0 (AF a1) (AN a0 (AF a3) z)) a3 with|none=>none|some x3=>match AZ (Hu z c) many ((Aj (Aj a0 (AF a1) (AN a0 (AF a3) z)) (AF a3) (AN a0 (AF a1) z)),a1,(IntKind.wrap .i64 (a1+1)),(IntKind.wrap .i64 (a2-1)),())with|none=>none|some r=>match r with
 |.inl (o4,o5,_)=>some (o4,o5,())
 |.inr _=>none
def Q7[Lk]{α:Type}(z:α)(c:α×α×Unit→Option U7)(v:(List α×Int×Int×Int×Unit)):Option ((List α×Int×Unit)):=Lk.f ((Jj z c) v)
theorem AHs{α:Type}(z:α)(c:α×α×Unit→Option U7)(v:(List α×Int×Int×Int×Unit)):(Q7 z c) v=(Jj z c) v:=AJ _
def Lm[Lk]{α:Type}(z:α)(c:α×α×Unit→Option U7):(List α×Int×Int×Int×Unit)→Option ((List α×Int×Int×Int×Unit)⊕(List α×Int×Int×Int×Unit)⊕Unit):=fun(a0,a1,a2,a3,_)=>
 match(ile a2 a3)with
 |true=>match idx a0 a3 with|none=>none|some x0=>match idx a0 a1 with|none=>none|some x1=>match c ((AN a0 (AF a3) z),(AN a0 (AF a1) z),())with|none=>none|some (y2,_)=>match(!(ilt y2 0))with
  |true=>some (.inl (a0,a1,a2,(IntKind.wrap .i64 (a3-1)),()))
  |false=>some (.inr (.inl (a0,a1,a2,a3,())))
 |false=>some (.inr (.inl (a0,a1,a2,a3,())))
def Ln[Lk]{α:Type}(z:α)(c:α×α×Unit→Option U7):(List α×Int×Int×Int×Unit)→Option ((List α×Int×Int×Int×Unit)⊕(List α×Int×Int×Int×Unit)⊕Unit):=fun(a0,a1,a2,a3,_)=>
 match(ile a2 a3)with
 |true=>match idx a0 a2 with|none=>none|some x0=>match idx a0 a1 with|none=>none|some x1=>match c ((AN a0 (AF a2) z),(AN a0 (AF a1) z),())with|none=>none|some (y2,_)=>match(ilt y2 0)with
  |true=>some (.inl (a0,a1,(IntKind.wrap .i64 (a2+1)),a3,()))
  |false=>some (.inr (.inl (a0,a1,a2,a3,())))
 |false=>some (.inr (.inl (a0,a1,a2,a3,())))
def Lo[Lk]{α:Type}(z:α)(c:α×α×Unit→Option U7):(List α×Int×Int×Int×Unit)→Option ((List α×Int×Int×Int×Unit)⊕(List α×Int×Int×Unit)⊕Unit):=fun(a0,a1,a2,a3,_)=>
 match AZ (Ln z c) many (a0,a1,a2,a3,())with|none=>none|some r=>match r with
 |.inl (o0,o1,o2,o3,_)=>match AZ (Lm z c) many (o0,o1,o2,o3,())with|none=>none|some r=>match r with
  |.inl (o4,o5,o6,o7,_)=>match(ilt o7 o6)with
   |true=>some (.inr (.inl (o4,o5,o7,())))
   |false=>match idx o4 o7 with|none=>none|some x8=>match idx o4 o6 with|none=>none|some x9=>match idx o4 o6 with|none=>none|some x10=>match idx (Aj o4 (AF o6) (AN o4 (AF o7) z)) o7 with|none=>none|some x11=>some (.inl ((Aj (Aj o4 (AF o6) (AN o4 (AF o7) z)) (AF o7) (AN o4 (AF o6) z)),o5,(IntKind.wrap .i64 (o6+1)),(IntKind.wrap .i64 (o7-1)),()))
  |.inr _=>none
 |.inr _=>none
def Lp[Lk]{α:Type}(z:α)(c:α×α×Unit→Option U7):(List α×Int×Int×Int×Unit)→Option ((List α×Int×Int×Int×Unit)⊕(List α×Int×Int×Int×Unit)⊕Unit):=fun(a0,a1,a2,a3,_)=>
 match(ile a2 a3)with
 |true=>match idx a0 a3 with|none=>none|some x0=>match idx a0 a1 with|none=>none|some x1=>match c ((AN a0 (AF a3) z),(AN a0 (AF a1) z),())with|none=>none|some (y2,_)=>match(!(ilt y2 0))with
  |true=>some (.inl (a0,a1,a2,(IntKind.wrap .i64 (a3-1)),()))
  |false=>some (.inr (.inl (a0,a1,a2,a3,())))
 |false=>some (.inr (.inl (a0,a1,a2,a3,())))
def Lq[Lk]{α:Type}(z:α)(c:α×α×Unit→Option U7):(List α×Int×Int×Int×Unit)→Option ((List α×Int×Int×Int×Unit)⊕(List α×Int×Int×Int×Unit)⊕Unit):=fun(a0,a1,a2,a3,_)=>
 match(ile a2 a3)with
 |true=>match idx a0 a2 with|none=>none|some x0=>match idx a0 a1 with|none=>none|some x1=>match c ((AN a0 (AF a2) z),(AN a0 (AF a1) z),())with|none=>none|some (y2,_)=>match(ilt y2 0)with
  |true=>some (.inl (a0,a1,(IntKind.wrap .i64 (a2+1)),a3,()))
  |false=>some (.inr (.inl (a0,a1,a2,a3,())))
 |false=>some (.inr (.inl (a0,a1,a2,a3,())))
def Q6[Lk]{α:Type}(z:α)(c:α×α×Unit→Option U7):(List α×Int×Int×Int×Unit)→Option ((List α×Int×Bool×Unit)):=fun(a0,a1,a2,a3,_)=>
 match idx a0 a3 with|none=>none|some x0=>match idx a0 a1 with|none=>none|some x1=>match idx a0 a1 with|none=>none|some x2=>match idx (Aj a0 (AF a1) (AN a0 (AF a3) z)) a3 with|none=>none|some x3=>match AZ (Lq z c) many ((Aj (Aj a0 (AF a1) (AN a0 (AF a3) z)) (AF a3) (AN a0 (AF a1) z)),a1,(IntKind.wrap .i64 (a1+1)),(IntKind.wrap .i64 (a2-1)),())with|none=>none|some r=>match r with
 |.inl (o4,o5,o6,o7,_)=>match AZ (Lp z c) many (o4,o5,o6,o7,())with|none=>none|some r=>match r with
  |.inl (o8,o9,o10,o11,_)=>match(ilt o11 o10)with
   |true=>match idx o8 o9 with|none=>none|some x12=>match idx o8 o11 with|none=>none|some x13=>match idx o8 o11 with|none=>none|some x14=>match idx (Aj o8 (AF o11) (AN o8 (AF o9) z)) o9 with|none=>none|some x15=>some ((Aj (Aj o8 (AF o11) (AN o8 (AF o9) z)) (AF o9) (AN o8 (AF o11) z)),o11,true,())
   |false=>match idx o8 o11 with|none=>none|some x16=>match idx o8 o10 with|none=>none|some x17=>match idx o8 o10 with|none=>none|some x18=>match idx (Aj o8 (AF o10) (AN o8 (AF o11) z)) o11 with|none=>none|some x19=>match AZ (Lo z c) many ((Aj (Aj o8 (AF o10) (AN o8 (AF o11) z)) (AF o11) (AN o8 (AF o10) z)),o9,(IntKind.wrap .i64 (o10+1)),(IntKind.wrap .i64 (o11-1)),())with|none=>none|some r=>match r with
   |.inl (o20,o21,o22,_)=>match idx o20 o21 with|none=>none|some x23=>match idx o20 o22 with|none=>none|some x24=>match idx o20 o22 with|none=>none|some x25=>match idx (Aj o20 (AF o22) (AN o20 (AF o21) z)) o21 with|none=>none|some x26=>some ((Aj (Aj o20 (AF o22) (AN o20 (AF o21) z)) (AF o21) (AN o20 (AF o22) z)),o22,false,())
   |.inr _=>none
  |.inr _=>none
 |.inr _=>none
def XX[Lk]{α:Type}(z:α)(c:α×α×Unit→Option U7)(v:(List α×Int×Int×Int×Unit)):Option ((List α×Int×Bool×Unit)):=Lk.f ((Q6 z c) v)
theorem APy{α:Type}(z:α)(c:α×α×Unit→Option U7)(v:(List α×Int×Int×Int×Unit)):(XX z c) v=(Q6 z c) v:=AJ _
def Ni[Lk]{α:Type}(z:α)(c:α×α×Unit→Option U7)(self:(List α×Int×Int×Int×Unit)→Option ((List α×Unit)))(y7:List α)(a1 a2 p l:Int)(a4 a5:Bool):Option ((List α×Int×Int×Int×Bool×Bool×Unit)⊕(List α×Unit)⊕Unit):=
 match(ilt 0 a1)with
 |true=>match idx y7 (IntKind.wrap .i64 (a1-1))with|none=>none|some x9=>match idx y7 p with|none=>none|some x10=>match c ((AN y7 (AF (IntKind.wrap .i64 (a1-1))) z),(AN y7 (AF p) z),())with|none=>none|some (y11,_)=>match(!(ilt y11 0))with
  |true=>match(Q7 z c) (y7,a1,a2,p,())with|none=>none|some (y12,y13,_)=>some (.inl (y12,y13,a2,l,a4,a5,()))
  |false=>match(XX z c) (y7,a1,a2,p,())with|none=>none|some (y14,y15,y16,_)=>match quo? .i64 (IntKind.wrap .i64 (a2-a1)) 8 with|none=>none|some x17=>match(ilt (IntKind.wrap .i64 (y15-a1)) (IntKind.wrap .i64 (a2-y15)))with
  |true=>match self (y14,a1,y15,l,())with|none=>none|some (y18,_)=>some (.inl (y18,(IntKind.wrap .i64 (y15+1)),a2,l,(ile x17 (IntKind.wrap .i64 (y15-a1))),y16,()))
  |false=>match self (y14,(IntKind.wrap .i64 (y15+1)),a2,l,())with|none=>none|some (y19,_)=>some (.inl (y19,a1,y15,l,(ile x17 (IntKind.wrap .i64 (a2-y15))),y16,()))
 |false=>match(XX z c) (y7,a1,a2,p,())with|none=>none|some (y20,y21,y22,_)=>match quo? .i64 (IntKind.wrap .i64 (a2-a1)) 8 with|none=>none|some x23=>match(ilt (IntKind.wrap .i64 (y21-a1)) (IntKind.wrap .i64 (a2-y21)))with
 |true=>match self (y20,a1,y21,l,())with|none=>none|some (y24,_)=>some (.inl (y24,(IntKind.wrap .i64 (y21+1)),a2,l,(ile x23 (IntKind.wrap .i64 (y21-a1))),y22,()))
 |false=>match self (y20,(IntKind.wrap .i64 (y21+1)),a2,l,())with|none=>none|some (y25,_)=>some (.inl (y25,a1,y21,l,(ile x23 (IntKind.wrap .i64 (a2-y21))),y22,()))
def Zd[Lk]{α:Type}(z:α)(c:α×α×Unit→Option U7)(self:(List α×Int×Int×Int×Unit)→Option ((List α×Unit)))(y6:List α)(a1 a2 p h l:Int)(a4 a5:Bool):Option ((List α×Int×Int×Int×Bool×Bool×Unit)⊕(List α×Unit)⊕Unit):=
 match a4 with
 |true=>match a5 with
  |true=>match(ieq h 1)with
   |true=>match(Lj z c) (y6,a1,a2,())with|none=>none|some (y7,y8,_)=>match y8 with
    |true=>some (.inr (.inl (y7,())))
    |false=>(Ni z c) self y7 a1 a2 p l a4 a5
   |false=>(Ni z c) self y6 a1 a2 p l a4 a5
  |false=>(Ni z c) self y6 a1 a2 p l a4 a5
 |false=>(Ni z c) self y6 a1 a2 p l a4 a5
def Zc[Lk]{α:Type}(z:α)(c:α×α×Unit→Option U7)(self:(List α×Int×Int×Int×Unit)→Option ((List α×Unit)))(y2:List α)(a1 a2 l:Int)(a4 a5:Bool):Option ((List α×Int×Int×Int×Bool×Bool×Unit)⊕(List α×Unit)⊕Unit):=
 match(ZV z c) (y2,a1,a2,())with|none=>none|some (y3,y4,y5,_)=>match(ieq y5 2)with
 |true=>match(AR8 z c) (y3,a1,a2,())with|none=>none|some (y6,_)=>(Zd z c) self y6 a1 a2 (IntKind.wrap .i64 ((IntKind.wrap .i64 (a2-1))-(IntKind.wrap .i64 (y4-a1)))) 1 l a4 a5
 |false=>(Zd z c) self y3 a1 a2 y4 y5 l a4 a5
def Li[Lk]{α:Type}(z:α)(c:α×α×Unit→Option U7)(self:(List α×Int×Int×Int×Unit)→Option ((List α×Unit))):(List α×Int×Int×Int×Bool×Bool×Unit)→Option ((List α×Int×Int×Int×Bool×Bool×Unit)⊕(List α×Unit)⊕Unit):=fun(a0,a1,a2,a3,a4,a5,_)=>
 match(ile (IntKind.wrap .i64 (a2-a1)) 12)with
 |true=>match(ASw z c) (a0,a1,a2,())with|none=>none|some (y0,_)=>some (.inr (.inl (y0,())))
 |false=>match(ieq a3 0)with
 |true=>match(AKx z c) (a0,a1,a2,())with|none=>none|some (y1,_)=>some (.inr (.inl (y1,())))
 |false=>match(!a4)with
 |true=>match(ABi z c) (a0,a1,a2,())with|none=>none|some (y2,_)=>(Zc z c) self y2 a1 a2 (IntKind.wrap .i64 (a3-1)) a4 a5
 |false=>(Zc z c) self a0 a1 a2 a3 a4 a5
def Ze[Lk]{α:Type}(z:α)(c:α×α×Unit→Option U7)(self:(List α×Int×Int×Int×Unit)→Option ((List α×Unit))):(List α×Int×Int×Int×Unit)→Option ((List α×Unit)):=fun(a0,a1,a2,a3,_)=>
 match AZ ((Li z c) self) many (a0,a1,a2,a3,true,true,())with|none=>none|some r=>match r with
 |.inl (o0,_)=>some (o0,())
 |.inr _=>none
def It[Lk]{α:Type}(z:α)(c:α×α×Unit→Option U7):Nat→(List α×Int×Int×Int×Unit)→Option ((List α×Unit))
 |0,_=>none
 |n+1,v=>(Ze z c) ((It z c) n) v
def ASI[Lk]{α:Type}(z:α)(c:α×α×Unit→Option U7)(v:(List α×Int×Int×Int×Unit)):Option ((List α×Unit)):=Lk.f ((It z c) 100 v)
theorem ASH{α:Type}(z:α)(c:α×α×Unit→Option U7)(v:(List α×Int×Int×Int×Unit)):(ASI z c) v=(It z c) 100 v:=AJ _
def Qz[Lk]{α:Type}(z:α)(c:α×α×Unit→Option U7):(List α×Unit)→Option ((List α×Unit)):=fun(a0,_)=>
 match bitsLen ((IntKind.wrap .u64 (AQ a0)),())with|none=>none|some (y0,_)=>match(ASI z c) (a0,0,(AQ a0),y0,())with|none=>none|some (y1,_)=>some (y1,())
def AOz[Lk]{α:Type}(z:α)(c:α×α×Unit→Option U7)(v:(List α×Unit)):Option ((List α×Unit)):=Lk.f ((Qz z c) v)
theorem AOy{α:Type}(z:α)(c:α×α×Unit→Option U7)(v:(List α×Unit)):(AOz z c) v=(Qz z c) v:=AJ _
abbrev AIs:AE:=[(.tmp 0,.own 27 U5),(.tmp 1,.di),(.tmp 2,.di),(.tmp 3,.clo 74 [])]
abbrev AIr:AE:=[(.obj 0,.own 27 U5)]
abbrev AIq:List RS:=[]
abbrev AKp:AE:=[(.obj 0,.own 27 U5),(.tmp 0,.own' 0),(.tmp 1,.di),(.tmp 2,.di),(.tmp 3,.clo 74 []),(.tmp 8,.di),(.tmp 9,.di)]
abbrev AKn:A2:=[(.exit 2,[(.obj 0,.own 27 U5),(.tmp 0,.own' 0),(.tmp 1,.di),(.tmp 2,.di),(.tmp 3,.clo 74 []),(.tmp 8,.di)])]
def AKl[Lk]:Uc→Option (Uc⊕U6⊕Unit):=MC (([]:List (Int)):U3) A8
abbrev AKq:AE:=[(.obj 0,.own 27 U5),(.tmp 0,.own' 0),(.tmp 1,.di),(.tmp 2,.di),(.tmp 3,.clo 74 []),(.tmp 8,.di)]
abbrev AKo:A2:=[(.exit 0,[(.obj 0,.own 27 U5)])]
def AKm[Lk]:U6→Option (U6⊕Uf⊕Unit):=MD (([]:List (Int)):U3) A8
def AQa[Lk]:Ua→Option (Uf):=AAq (([]:List (Int)):U3) A8
def AT5[Lk](v:Ua):Option (Uf):=ASw (([]:List (Int)):U3) A8 v
theorem ASo v:AT5 v=AQa v:=AJ _
abbrev Y5:AE:=[(.tmp 0,.own 27 U5),(.tmp 1,.di),(.tmp 2,.di),(.tmp 3,.di),(.tmp 4,.clo 74 [])]
abbrev Y4:AE:=[(.obj 0,.own 27 U5)]
abbrev Y3:List RS:=[]
abbrev ACn:AE:=[(.obj 0,.own 27 U5),(.tmp 0,.own' 0),(.tmp 2,.di),(.tmp 3,.di),(.tmp 4,.clo 74 []),(.tmp 10,.di)]
abbrev ACm:A2:=[(.exit 0,[(.obj 0,.own 27 U5)]),(.ret,[(.obj 0,.own 27 U5)])]
def ACl[Lk]:U6→Option (U6⊕Uf⊕Uf⊕Unit):=Ii (([]:List (Int)):U3) A8
def AKG[Lk]:U6→Option (Uf):=Q1 (([]:List (Int)):U3) A8
def AO3[Lk](v:U6):Option (Uf):=ACs (([]:List (Int)):U3) A8 v
theorem AO2 v:AO3 v=AKG v:=AJ _
abbrev AAx:AE:=[(.tmp 0,.own 27 U5),(.tmp 1,.di),(.tmp 2,.di),(.tmp 3,.clo 74 [])]
abbrev AAw:AE:=[(.obj 0,.own 27 U5)]
abbrev AAv:List RS:=[]
abbrev AE4:AE:=[(.obj 0,.own 27 U5),(.tmp 0,.own' 0),(.tmp 3,.clo 74 []),(.tmp 8,.di),(.tmp 9,.di),(.tmp 12,.di)]
abbrev AE2:A2:=[(.exit 2,[(.obj 0,.own 27 U5)])]
def AEz[Lk]:U6→Option (U6⊕Uf⊕Unit):=JG (([]:List (Int)):U3) A8
abbrev AE5:AE:=[(.obj 0,.own 27 U5),(.tmp 0,.own' 0),(.tmp 3,.clo 74 []),(.tmp 8,.di),(.tmp 9,.di),(.tmp 10,.di),(.tmp 11,.di)]
abbrev AE3:A2:=[(.exit 0,[(.obj 0,.own 27 U5),(.tmp 0,.own' 0),(.tmp 3,.clo 74 []),(.tmp 8,.di),(.tmp 9,.di),(.tmp 10,.di)])]
def AE1[Lk]:Uc→Option (Uc⊕U6⊕Unit):=JH (([]:List (Int)):U3) A8
def AKw[Lk]:Ua→Option (Uf):=RJ (([]:List (Int)):U3) A8
def AQn[Lk](v:Ua):Option (Uf):=AKx (([]:List (Int)):U3) A8 v
theorem AQm v:AQn v=AKw v:=AJ _
abbrev VR:AE:=[(.tmp 0,.own 27 U5),(.tmp 1,.di),(.tmp 2,.di),(.tmp 3,.clo 74 [])]
abbrev VQ:AE:=[(.obj 0,.own 27 U5)]
abbrev VP:List RS:=[]
abbrev X7:AE:=[(.obj 0,.own 27 U5),(.tmp 0,.own' 0),(.tmp 1,.di),(.tmp 8,.di),(.tmp 9,.box 1),(.cell 1 0,.dat (.int .u64)),(.tmp 10,.dat (.int .u64)),(.tmp 11,.di)]
abbrev X6:A2:=[(.exit 0,[(.obj 0,.own 27 U5)])]
def X5[Lk]:Un→Option (Un⊕Uf⊕Unit):=Ft (([]:List (Int)):U3) A8
def AFw[Lk]:Ua→Option (Uf):=Mo (([]:List (Int)):U3) A8
def AJk[Lk](v:Ua):Option (Uf):=ABi (([]:List (Int)):U3) A8 v
theorem AN8 v:AJk v=AFw v:=AJ _
abbrev Nr:AE:=[(.tmp 0,.own 27 U5),(.tmp 1,.di),(.tmp 2,.di),(.tmp 3,.box 1),(.cell 1 0,.di),(.tmp 4,.clo 74 [])]
abbrev Nq:AE:=[(.obj 0,.own 27 U5),(.obj 1,.box 1),(.cell 1 0,.di),(.tmp 0,.di),(.tmp 1,.di)]
abbrev Np:List RS:=[.one,.one]
def Xb[Lk]:U6→Option (U6):=Jl (([]:List (Int)):U3) A8
def Zw[Lk](v:U6):Option (U6):=Jm (([]:List (Int)):U3) A8 v
theorem AHu v:Zw v=Xb v:=AJ _
abbrev N2:AE:=[(.tmp 0,.own 27 U5),(.tmp 1,.di),(.tmp 2,.di),(.tmp 3,.di),(.tmp 4,.box 1),(.cell 1 0,.di),(.tmp 5,.clo 74 [])]
abbrev N1:AE:=[(.obj 0,.own 27 U5),(.obj 1,.box 1),(.cell 1 0,.di),(.tmp 0,.di)]
abbrev N0:List RS:=[.one]
def Xe[Lk]:Uc→Option (Ua):=Jq (([]:List (Int)):U3) A8
def Z7[Lk](v:Uc):Option (Ua):=Jr (([]:List (Int)):U3) A8 v
theorem AIH v:Z7 v=Xe v:=AJ _
abbrev N8:AE:=[(.tmp 0,.own 27 U5),(.tmp 1,.di),(.tmp 2,.box 1),(.cell 1 0,.di),(.tmp 3,.clo 74 [])]
abbrev N7:AE:=[(.obj 0,.own 27 U5),(.obj 1,.box 1),(.cell 1 0,.di),(.tmp 0,.di)]
abbrev N6:List RS:=[.one]
def Xf[Lk]:Ua→Option (Ua):=Jt (([]:List (Int)):U3) A8
def AAA[Lk](v:Ua):Option (Ua):=Ju (([]:List (Int)):U3) A8 v
theorem AIJ v:AAA v=Xf v:=AJ _
abbrev Sc:AE:=[(.tmp 0,.own 27 U5),(.tmp 1,.di),(.tmp 2,.di),(.tmp 3,.clo 74 [])]
abbrev Sb:AE:=[(.obj 0,.own 27 U5),(.tmp 0,.di),(.tmp 1,.di)]
abbrev Sa:List RS:=[.one,.one]
def ADE[Lk]:Ua→Option (Ua):=Lf (([]:List (Int)):U3) A8
def AHO[Lk](v:Ua):Option (Ua):=ZV (([]:List (Int)):U3) A8 v
theorem AMB v:AHO v=ADE v:=AJ _
abbrev AG2:AE:=[(.tmp 0,.own 27 U5),(.tmp 1,.di),(.tmp 2,.di),(.tmp 3,.clo 74 [])]
abbrev AG1:AE:=[(.obj 0,.own 27 U5)]
abbrev AG0:List RS:=[]
abbrev AKK:AE:=[(.obj 0,.own 27 U5),(.tmp 0,.own' 0),(.tmp 8,.di),(.tmp 9,.di)]
abbrev AKJ:A2:=[(.exit 0,[(.obj 0,.own 27 U5)])]
def AKI[Lk]:Ua→Option (Ua⊕Uf⊕Unit):=Q4 (([]:List (Int)):U3) A8
def APE[Lk]:Ua→Option (Uf):=ZN (([]:List (Int)):U3) A8
def ATo[Lk](v:Ua):Option (Uf):=AR8 (([]:List (Int)):U3) A8 v
theorem AR4 v:ATo v=APE v:=AJ _
abbrev Kd:AE:=[(.tmp 0,.own 27 U5),(.tmp 1,.di),(.tmp 2,.di),(.tmp 3,.clo 74 [])]
abbrev Kc:AE:=[(.obj 0,.own 27 U5),(.tmp 0,.dat .bool)]
abbrev Kb:List RS:=[.one]
abbrev Pa:AE:=[(.obj 0,.own 27 U5),(.tmp 0,.own' 0),(.tmp 1,.di),(.tmp 2,.di),(.tmp 3,.clo 74 []),(.tmp 9,.di),(.tmp 10,.di),(.tmp 12,.di)]
abbrev PW:A2:=[(.exit 6,[(.obj 0,.own 27 U5),(.tmp 0,.own' 0),(.tmp 1,.di),(.tmp 2,.di),(.tmp 3,.clo 74 []),(.tmp 9,.di),(.tmp 10,.di)])]
def PS[Lk]:Un→Option (Un⊕Uc⊕Unit):=E7 (([]:List (Int)):U3) A8
abbrev Pb:AE:=[(.obj 0,.own 27 U5),(.tmp 0,.own' 0),(.tmp 1,.di),(.tmp 2,.di),(.tmp 3,.clo 74 []),(.tmp 9,.di),(.tmp 10,.di),(.tmp 11,.di)]
abbrev PX:A2:=[(.exit 4,[(.obj 0,.own 27 U5),(.tmp 0,.own' 0),(.tmp 1,.di),(.tmp 2,.di),(.tmp 3,.clo 74 []),(.tmp 9,.di),(.tmp 10,.di)])]
def PT[Lk]:Un→Option (Un⊕Uc⊕Unit):=E8 (([]:List (Int)):U3) A8
abbrev Pc:AE:=[(.obj 0,.own 27 U5),(.tmp 0,.own' 0),(.tmp 1,.di),(.tmp 2,.di),(.tmp 3,.clo 74 []),(.tmp 9,.di),(.tmp 10,.di)]
abbrev PY:A2:=[(.exit 2,[(.obj 0,.own 27 U5),(.tmp 0,.own' 0),(.tmp 1,.di),(.tmp 2,.di),(.tmp 3,.clo 74 []),(.tmp 9,.di),(.tmp 10,.di)])]
def PU[Lk]:Uc→Option (Uc⊕Uc⊕Unit):=Gn (([]:List (Int)):U3) A8
abbrev Pd:AE:=[(.obj 0,.own 27 U5),(.tmp 0,.own' 0),(.tmp 1,.di),(.tmp 2,.di),(.tmp 3,.clo 74 []),(.tmp 9,.di),(.tmp 10,.di)]
abbrev PZ:A2:=[(.ret,[(.obj 0,.own 27 U5),(.tmp 8,.dat .bool)]),(.exit 0,[(.obj 0,.own 27 U5)])]
def PV[Lk]:Uc→Option (Uc⊕(List U3×Bool×Unit)⊕Uf⊕Unit):=CP (([]:List (Int)):U3) A8
def Sr[Lk]:Ua→Option ((List U3×Bool×Unit)):=Hr (([]:List (Int)):U3) A8
def Ss[Lk](v:Ua):Option ((List U3×Bool×Unit)):=Lj (([]:List (Int)):U3) A8 v
theorem ADl v:Ss v=Sr v:=AJ _
abbrev Nl:AE:=[(.tmp 0,.own 27 U5),(.tmp 1,.di),(.tmp 2,.di),(.tmp 3,.di),(.tmp 4,.clo 74 [])]
abbrev Nk:AE:=[(.obj 0,.own 27 U5),(.tmp 0,.di)]
abbrev Nj:List RS:=[.one]
abbrev S5:AE:=[(.obj 0,.own 27 U5),(.tmp 0,.own' 0),(.tmp 1,.di),(.tmp 4,.clo 74 []),(.tmp 11,.di),(.tmp 12,.di)]
abbrev S2:A2:=[(.exit 4,[(.obj 0,.own 27 U5),(.tmp 0,.own' 0),(.tmp 1,.di),(.tmp 4,.clo 74 []),(.tmp 11,.di),(.tmp 12,.di)])]
def Sy[Lk]:U6→Option Uy:=Hs (([]:List (Int)):U3) A8
abbrev S6:AE:=[(.obj 0,.own 27 U5),(.tmp 0,.own' 0),(.tmp 1,.di),(.tmp 4,.clo 74 []),(.tmp 11,.di),(.tmp 12,.di)]
abbrev S3:A2:=[(.exit 2,[(.obj 0,.own 27 U5),(.tmp 0,.own' 0),(.tmp 1,.di),(.tmp 4,.clo 74 []),(.tmp 11,.di),(.tmp 12,.di)])]
def S0[Lk]:U6→Option Uy:=Ht (([]:List (Int)):U3) A8
abbrev S7:AE:=[(.obj 0,.own 27 U5),(.tmp 0,.own' 0),(.tmp 1,.di),(.tmp 4,.clo 74 []),(.tmp 11,.di),(.tmp 12,.di)]
abbrev S4:A2:=[(.exit 0,[(.obj 0,.own 27 U5),(.tmp 11,.di)])]
def S1[Lk]:U6→Option (U6⊕V0⊕Unit):=Hu (([]:List (Int)):U3) A8
def XY[Lk]:U6→Option (V0):=Jj (([]:List (Int)):U3) A8
def Zr[Lk](v:U6):Option (V0):=Q7 (([]:List (Int)):U3) A8 v
theorem AHl v:Zr v=XY v:=AJ _
end
end Go.Pev
end
section
namespace Go.Pev
noncomputable section
attribute [local irreducible] P1 K0 OS PN AT8 AT9 AUA WC AG9 ZC ACt AJb AT many IntKind.wrap AQ Aj AN Bt DR FQ AFc AF C4 EW imax AL Ab
abbrev Zi:AE:=[(.tmp 0,.own 27 U5),(.tmp 1,.di),(.tmp 2,.di),(.tmp 3,.di),(.tmp 4,.clo 74 [])]
abbrev Zh:AE:=[(.obj 0,.own 27 U5),(.tmp 0,.di),(.tmp 1,.dat .bool)]
abbrev Zg:List RS:=[.one,.one]
abbrev ADY:AE:=[(.obj 0,.own 27 U5),(.tmp 0,.own' 0),(.tmp 1,.di),(.tmp 4,.clo 74 []),(.tmp 12,.di),(.tmp 13,.di)]
abbrev ADT:A2:=[(.exit 8,[(.obj 0,.own 27 U5),(.tmp 0,.own' 0),(.tmp 1,.di),(.tmp 4,.clo 74 []),(.tmp 12,.di),(.tmp 13,.di)])]
def ADK[Lk]:U6→Option Uy:=Lm (([]:List (Int)):U3) A8
abbrev ADZ:AE:=[(.obj 0,.own 27 U5),(.tmp 0,.own' 0),(.tmp 1,.di),(.tmp 4,.clo 74 []),(.tmp 12,.di),(.tmp 13,.di)]
abbrev ADU:A2:=[(.exit 6,[(.obj 0,.own 27 U5),(.tmp 0,.own' 0),(.tmp 1,.di),(.tmp 4,.clo 74 []),(.tmp 12,.di),(.tmp 13,.di)])]
def ADM[Lk]:U6→Option Uy:=Ln (([]:List (Int)):U3) A8
abbrev ADa:AE:=[(.obj 0,.own 27 U5),(.tmp 0,.own' 0),(.tmp 1,.di),(.tmp 4,.clo 74 []),(.tmp 12,.di),(.tmp 13,.di)]
abbrev ADV:A2:=[(.exit 4,[(.obj 0,.own 27 U5),(.tmp 0,.own' 0),(.tmp 1,.di),(.tmp 13,.di)])]
def ADO[Lk]:U6→Option (U6⊕Ua⊕Unit):=Lo (([]:List (Int)):U3) A8
abbrev ADb:AE:=[(.obj 0,.own 27 U5),(.tmp 0,.own' 0),(.tmp 1,.di),(.tmp 4,.clo 74 []),(.tmp 12,.di),(.tmp 13,.di)]
abbrev ADW:A2:=[(.exit 2,[(.obj 0,.own 27 U5),(.tmp 0,.own' 0),(.tmp 1,.di),(.tmp 4,.clo 74 []),(.tmp 12,.di),(.tmp 13,.di)])]
def ADQ[Lk]:U6→Option Uy:=Lp (([]:List (Int)):U3) A8
abbrev ADc:AE:=[(.obj 0,.own 27 U5),(.tmp 0,.own' 0),(.tmp 1,.di),(.tmp 4,.clo 74 []),(.tmp 12,.di),(.tmp 13,.di)]
abbrev ADX:A2:=[(.exit 0,[(.obj 0,.own 27 U5),(.tmp 0,.own' 0),(.tmp 1,.di),(.tmp 4,.clo 74 []),(.tmp 12,.di),(.tmp 13,.di)])]
def ADS[Lk]:U6→Option Uy:=Lq (([]:List (Int)):U3) A8
def AKV[Lk]:U6→Option ((List U3×Int×Bool×Unit)):=Q6 (([]:List (Int)):U3) A8
def APn[Lk](v:U6):Option ((List U3×Int×Bool×Unit)):=XX (([]:List (Int)):U3) A8 v
theorem APm v:APn v=AKV v:=AJ _
abbrev Si:AE:=[(.tmp 0,.own 27 U5),(.tmp 1,.di),(.tmp 2,.di),(.tmp 3,.di),(.tmp 4,.clo 74 [])]
abbrev Sh:AE:=[(.obj 0,.own 27 U5)]
abbrev Sg:List RS:=[]
abbrev AKR:AE:=[(.obj 0,.own 27 U5),(.tmp 0,.own' 0),(.tmp 1,.di),(.tmp 2,.di),(.tmp 3,.di),(.tmp 4,.clo 74 []),(.tmp 10,.dat .bool),(.tmp 11,.dat .bool)]
abbrev AKQ:A2:=[(.ret,[(.obj 0,.own 27 U5)])]
def AKP[Lk](self:U6→Option (Uf)):(List U3×Int×Int×Int×Bool×Bool×Unit)→Option ((List U3×Int×Int×Int×Bool×Bool×Unit)⊕Uf⊕Unit):=Li (([]:List (Int)):U3) A8 self
def ATs[Lk](self:U6→Option (Uf)):U6→Option (Uf):=Ze (([]:List (Int)):U3) A8 self
def Sj[Lk]:Nat→U6→Option (Uf):=It (([]:List (Int)):U3) A8
def ASE[Lk](v:U6):Option (Uf):=ASI (([]:List (Int)):U3) A8 v
theorem ASD v:ASE v=Sj 100 v:=AJ _
abbrev Yy:AE:=[(.tmp 0,.own 27 U5),(.tmp 1,.clo 74 [])]
abbrev Yx:AE:=[(.obj 0,.own 27 U5)]
abbrev Yw:List RS:=[]
def AKF[Lk]:Uf→Option (Uf):=Qz (([]:List (Int)):U3) A8
def ACf[Lk](v:Uf):Option (Uf):=AOz (([]:List (Int)):U3) A8 v
theorem AOx v:ACf v=AKF v:=AJ _
abbrev YZ:AE:=[(.tmp 0,.dat Uk),(.tmp 1,.dat U5),(.tmp 2,.dat Ug)]
abbrev YY:AE:=[(.tmp 0,.di),(.tmp 1,.own 27 U5)]
abbrev YX:List RS:=[.agg 2]
abbrev ACI:AE:=[(.tmp 3,.box 2),(.cell 0 0,.di),(.cell 0 1,.dat Ug),(.tmp 6,.box 2),(.cell 1 0,.di),(.cell 1 1,.nil U5),(.tmp 7,.own 27 U5),(.tmp 29,.dat Ug),(.tmp 30,.di),(.tmp 31,.di)]
abbrev ACG:A2:=[(.exit 2,[(.tmp 3,.box 2),(.cell 0 0,.di),(.cell 0 1,.dat Ug),(.tmp 6,.box 2),(.cell 1 0,.di),(.cell 1 1,.nil U5),(.tmp 7,.own 27 U5)])]
def Fy[Lk]:(Int×List U3×Int×List U3×List U3×Int×Int×Unit)→Option ((Int×List U3×Int×List U3×List U3×Int×Int×Unit)⊕(Int×List U3×Int×List U3×Unit)⊕Unit):=fun(a0,a1,a2,a3,a4,a5,a6,_)=>
 match(ilt a6 a5)with
 |true=>match idx a4 a6 with|none=>none|some x0=>match SA (x0,())with|none=>none|some (y1,_)=>match(fits ((AQ a3)+(AQ ([y1]:List U3))))with
  |true=>some (.inl (a0,a1,a2,(Bt a3 ([y1]:List U3)),a4,a5,(IntKind.wrap .i64 (a6+1)),()))
  |false=>none
 |false=>some (.inr (.inl (a0,a1,a2,a3,())))
abbrev ACJ:AE:=[(.tmp 1,.dat U5),(.tmp 2,.dat Ug),(.tmp 3,.box 2),(.cell 0 0,.di),(.cell 0 1,.dat Ug),(.tmp 6,.box 2),(.cell 1 0,.di),(.cell 1 1,.nil U5),(.tmp 7,.own 27 U5),(.tmp 13,.dat Ug),(.tmp 14,.di),(.tmp 15,.di)]
abbrev ACH:A2:=[(.exit 0,[(.tmp 2,.dat Ug),(.tmp 3,.box 2),(.cell 0 0,.di),(.cell 0 1,.dat Ug),(.tmp 6,.box 2),(.cell 1 0,.di),(.cell 1 1,.nil U5),(.tmp 7,.own 27 U5)])]
def Fz[Lk]:V1→Option (V1⊕(List U3×Int×List U3×Int×List U3×Unit)⊕Unit):=fun(a0,a1,a2,a3,a4,a5,a6,a7,a8,_)=>
 match(ilt a8 a7)with
 |true=>match idx a6 a8 with|none=>none|some x0=>match Ej (a0,a8,())with|none=>none|some (y1,_)=>match(!y1)with
  |true=>match(fits ((AQ a5)+(AQ ([x0]:List U3))))with
   |true=>some (.inl (a0,a1,a2,a3,a4,(Bt a5 ([x0]:List U3)),a6,a7,(IntKind.wrap .i64 (a8+1)),()))
   |false=>none
  |false=>some (.inl (a0,a1,a2,a3,a4,a5,a6,a7,(IntKind.wrap .i64 (a8+1)),()))
 |false=>some (.inr (.inl (a1,a2,a3,a4,a5,())))
def Qs[Lk]:(Ul×List Int×List U3×Unit)→Option ((Int×List U3×Unit)):=fun(a0,a1,a2,_)=>
 match AZ Fz many (a1,a2,a0.1,a0.2.1,0,([]:List U3),a0.2.1,(AQ a0.2.1),0,())with|none=>none|some r=>match r with
 |.inl (o0,o1,o2,o3,o4,_)=>match AZ Fy many (o1,o2,o3,o4,o0,(AQ o0),0,())with|none=>none|some r=>match r with
  |.inl (o5,o6,o7,o8,_)=>match ACf (o8,())with|none=>none|some (y9,_)=>some (o5,y9,())
  |.inr _=>none
 |.inr _=>none
def ACL[Lk]:=fun v=>Lk.f (Qs v)
theorem ACK v:ACL v=Qs v:=AJ _
abbrev Yt:AE:=[(.tmp 0,.dat Uk),(.tmp 1,.di),(.tmp 2,.di)]
abbrev Ys:AE:=[(.tmp 0,.di),(.tmp 1,.dat Ug),(.tmp 2,.di)]
abbrev Yr:List RS:=[.agg 2,.one]
def LX[Lk]:(Ul×Int×Int×Unit)→Option (V2):=fun(a0,a1,a2,_)=>
 match asked ((a0.1,(a0.2.1,())),a1,a2,())with|none=>none|some (y0,_)=>match(!(ieq y0 0))with
 |true=>some (a0.1,a0.2.1,y0,())
 |false=>match NW ((a0.1,(a0.2.1,())),a1,())with|none=>none|some (y1,_)=>match NW ((a0.1,(a0.2.1,())),a2,())with|none=>none|some (y2,_)=>match(ieq y1 y2)with
 |true=>some (a0.1,a0.2.1,5,())
 |false=>match idx a0.2.1 y1 with|none=>none|some x3=>match XN (x3,a1,())with|none=>none|some (y4,y5,_)=>match idx a0.2.1 y2 with|none=>none|some x6=>match XN (x6,a2,())with|none=>none|some (y7,y8,_)=>match HC y4 0 1 with|none=>none|some x9=>match ALj (a0.1,a1,a2,())with|none=>none|some (y10,_)=>match ALj (a0.1,a2,a1,())with|none=>none|some (y11,_)=>match HC y4 1 (AQ y4)with|none=>none|some x12=>match IB (([(FQ 0 (AF (AQ x9)) y4),([y10]:List (Int)),y7,([y11]:List (Int)),(FQ 1 (AF (AQ x12)) y4)]:List U3),())with|none=>none|some (y13,_)=>match ACL ((a0.1,(a0.2.1,())),([y1,y2]:List (Int)),([y13]:List U3),())with|none=>none|some (y14,y15,_)=>some (y14,y15,0,())
def Rx[Lk]:=fun v=>Lk.f (LX v)
theorem Rw v:Rx v=LX v:=AJ _
abbrev Ee:AE:=[(.tmp 0,.dat U5),(.cap 1 0,.box 2),(.cell 0 0,.di),(.cell 0 1,.dat Ug),(.tmp 1,.clo 64 [(0,0)])]
abbrev Ed:AE:=[(.obj 0,.box 2),(.cell 0 0,.di),(.cell 0 1,.dat Ug),(.tmp 0,.di)]
abbrev Ec:List RS:=[.one]
abbrev Gx:AE:=[(.obj 0,.box 2),(.cell 0 0,.di),(.cell 0 1,.dat Ug),(.tmp 0,.dat U5),(.tmp 1,.clo 64 [(0,0)]),(.tmp 7,.di),(.tmp 8,.di)]
abbrev Gw:A2:=[(.ret,[(.obj 0,.box 2),(.cell 0 0,.di),(.cell 0 1,.dat Ug),(.tmp 4,.di)]),(.exit 0,[(.obj 0,.box 2),(.cell 0 0,.di),(.cell 0 1,.dat Ug)])]
def BU[Lk]:(Int×List U3×List Int×Int×Int×Unit)→Option ((Int×List U3×List Int×Int×Int×Unit)⊕V2⊕(Int×List U3×Unit)⊕Unit):=fun(a0,a1,a2,a3,a4,_)=>
 match(ilt a4 a3)with
 |true=>match idx a2 a4 with|none=>none|some x0=>match(ilt x0 0)with
  |true=>some (.inr (.inl (a0,a1,a4,())))
  |false=>match(ile a0 x0)with
  |true=>some (.inr (.inl (a0,a1,a4,())))
  |false=>some (.inl (a0,a1,a2,a3,(IntKind.wrap .i64 (a4+1)),()))
 |false=>some (.inr (.inr (.inl (a0,a1,()))))
def DF[Lk]:(List Int×Int×List U3×Unit)→Option (V2):=fun(a0,a1,a2,_)=>
 match AZ BU many (a1,a2,a0,(AQ a0),0,())with|none=>none|some r=>match r with
 |.inl (o0,o1,o2,_)=>some (o0,o1,o2,())
 |.inr r=>match r with
 |.inl (o3,o4,_)=>some (o3,o4,(-1:Int),())
 |.inr _=>none
def D7[Lk]:=fun v=>Lk.f (DF v)
theorem Gy v:D7 v=DF v:=AJ _
abbrev EC:AE:=[(.tmp 0,.dat U5),(.cap 1 0,.box 2),(.cell 0 0,.di),(.cell 0 1,.dat Ug),(.tmp 1,.clo 64 [(0,0)])]
abbrev EB:AE:=[(.obj 0,.box 2),(.cell 0 0,.di),(.cell 0 1,.dat Ug),(.tmp 0,.dat .bool)]
abbrev EA:List RS:=[.one]
def Cn[Lk]:(List Int×Int×List U3×Unit)→Option ((Int×List U3×Bool×Unit)):=fun(a0,a1,a2,_)=>
 match D7 (a0,a1,a2,())with|none=>none|some (y0,y1,y2,_)=>some (y0,y1,(ile 0 y2),())
def Cf[Lk]:=fun v=>Lk.f (Cn v)
theorem GV v:Cf v=Cn v:=AJ _
abbrev UH:AE:=[(.tmp 0,.dat Uk),(.tmp 1,.dat U5)]
abbrev UG:AE:=[(.tmp 0,.di)]
abbrev UE:List RS:=[.one]
def MR[Lk]:(Ul×List Int×Unit)→Option (U7):=fun(a0,a1,_)=>
 match NV ((a0.1,(a0.2.1,())),())with|none=>none|some (y0,_)=>match(!y0)with
 |true=>some (1,())
 |false=>match Cf (a1,a0.1,a0.2.1,())with|none=>none|some (y1,y2,y3,_)=>match y3 with
 |true=>some (10,())
 |false=>some (0,())
def OZ[Lk]:=fun v=>Lk.f (MR v)
theorem Xx v:OZ v=MR v:=AJ _
abbrev AJJ:AE:=[(.tmp 0,.dat Ux)]
abbrev AJI:AE:=[(.tmp 0,.own 3 U0)]
abbrev AJH:List RS:=[.one]
abbrev AK8:AE:=[(.tmp 3,.own 3 U0),(.tmp 6,.dat Ux),(.tmp 7,.di),(.tmp 8,.di)]
abbrev AK7:A2:=[(.exit 0,[(.tmp 3,.own 3 U0)])]
def H8[Lk]:(List Int×List U8×Int×Int×Unit)→Option ((List Int×List U8×Int×Int×Unit)⊕U9⊕Unit):=fun(a0,a1,a2,a3,_)=>
 match(ilt a3 a2)with
 |true=>match idx a1 a3 with|none=>none|some x0=>match(fits ((AQ a0)+(AQ ([x0.1,x0.2.1]:List (Int)))))with
  |true=>some (.inl ((Bt a0 ([x0.1,x0.2.1]:List (Int))),a1,a2,(IntKind.wrap .i64 (a3+1)),()))
  |false=>none
 |false=>some (.inr (.inl (a0,())))
def ABI[Lk]:(List U8×Unit)→Option (U9):=fun(a0,_)=>
 match AZ H8 many (([]:List (Int)),a0,(AQ a0),0,())with|none=>none|some r=>match r with
 |.inl (o0,_)=>some (o0,())
 |.inr _=>none
def ends[Lk]:=fun v=>Lk.f (ABI v)
theorem AK9 v:ends v=ABI v:=AJ _
abbrev K3:AE:=[(.tmp 0,.dat Uk),(.tmp 1,.dat Ux),(.tmp 2,.clo 46 [])]
abbrev K2:AE:=[(.tmp 0,.dat Uk),(.tmp 1,.own 4 .bool),(.tmp 2,.di)]
abbrev K1:List RS:=[.one,.one,.one]
abbrev P8:AE:=[(.tmp 2,.clo 46 []),(.tmp 3,.box 2),(.cell 0 0,.di),(.cell 0 1,.dat Ug),(.tmp 6,.box 2),(.cell 1 0,.di),(.cell 1 1,.nil U5),(.tmp 10,.own 4 .bool),(.tmp 23,.dat Ux),(.tmp 24,.di),(.tmp 25,.di)]
abbrev P7:A2:=[(.exit 0,[(.tmp 3,.box 2),(.cell 0 0,.di),(.cell 0 1,.dat Ug),(.tmp 6,.box 2),(.cell 1 0,.di),(.cell 1 1,.nil U5),(.tmp 10,.own 4 .bool)])]
def C3[Lk]:(Int×List U3×Int×List Bool×List U8×Int×Int×Unit)→Option ((Int×List U3×Int×List Bool×List U8×Int×Int×Unit)⊕(Int×List U3×Int×List Bool×Unit)⊕Unit):=fun(a0,a1,a2,a3,a4,a5,a6,_)=>
 match(ilt a6 a5)with
 |true=>match idx a4 a6 with|none=>none|some x0=>match Rx ((a0,(a1,())),x0.1,x0.2.1,())with|none=>none|some (y1,y2,y3,_)=>match(fits ((AQ a3)+(AQ ([(ieq y3 0)]:List (Bool)))))with
  |true=>some (.inl (y1,y2,a2,(Bt a3 ([(ieq y3 0)]:List (Bool))),a4,a5,(IntKind.wrap .i64 (a6+1)),()))
  |false=>none
 |false=>some (.inr (.inl (a0,a1,a2,a3,())))
def IA[Lk]:(Ul×List U8×Unit)→Option ((Ul×List Bool×Int×Unit)):=fun(a0,a1,_)=>
 match ends (a1,())with|none=>none|some (y0,_)=>match OZ ((a0.1,(a0.2.1,())),y0,())with|none=>none|some (y1,_)=>match(!(ieq y1 0))with
 |true=>some ((a0.1,(a0.2.1,())),([]:List (Bool)),y1,())
 |false=>match AZ C3 many (a0.1,a0.2.1,0,([]:List (Bool)),a1,(AQ a1),0,())with|none=>none|some r=>match r with
 |.inl (o2,o3,o4,o5,_)=>some ((o2,(o3,())),o5,0,())
 |.inr _=>none
def MY[Lk]:=fun v=>Lk.f (IA v)
theorem P9 v:MY v=IA v:=AJ _
abbrev UK:AE:=[(.tmp 0,.dat Uk),(.tmp 1,.dat Ux)]
abbrev UJ:AE:=[(.tmp 0,.dat Uk),(.tmp 1,.own 4 .bool),(.tmp 2,.di)]
abbrev UI:List RS:=[.one,.one,.one]
def MS[Lk]:(Ul×List U8×Unit)→Option ((Ul×List Bool×Int×Unit)):=fun(a0,a1,_)=>
 match MY ((a0.1,(a0.2.1,())),a1,())with|none=>none|some (y0,y1,y2,_)=>some ((y0.1,(y0.2.1,())),y1,y2,())
def ABA[Lk]:=fun v=>Lk.f (MS v)
theorem Xy v:ABA v=MS v:=AJ _
abbrev AQ4:AE:=[(.tmp 0,.di),(.tmp 1,.dat Ux)]
abbrev AQ3:AE:=[(.tmp 0,.dat Uk),(.tmp 1,.di)]
abbrev AQ2:List RS:=[.one,.one]
def AK5[Lk]:(Int×List U8×Unit)→Option ((Ul×Int×Unit)):=fun(a0,a1,_)=>
 match ACb (a0,())with|none=>none|some (y0,y1,y2,_)=>match(!(ieq y2 0))with
 |true=>some ((0,(([]:List U3),())),y2,())
 |false=>match ABA ((y0,(y1,())),a1,())with|none=>none|some (y3,y4,y5,_)=>match(!(ieq y5 0))with
 |true=>some ((0,(([]:List U3),())),y5,())
 |false=>some ((y3.1,(y3.2.1,())),0,())
def fof[Lk]:=fun v=>Lk.f (AK5 v)
theorem AQ5 v:fof v=AK5 v:=AJ _
abbrev AP7:AE:=[(.tmp 0,.dat U5)]
abbrev AP5:AE:=[(.tmp 0,.di)]
abbrev AP3:List RS:=[.one]
abbrev AP6:AE:=[(.tmp 3,.di),(.tmp 6,.dat U5),(.tmp 7,.di),(.tmp 8,.di)]
abbrev AP4:A2:=[(.ret,[(.tmp 2,.di)]),(.exit 0,[(.tmp 3,.di)])]
def Kh[Lk]:(Int×List Int×Int×Int×Unit)→Option ((Int×List Int×Int×Int×Unit)⊕U7⊕U7⊕Unit):=fun(a0,a1,a2,a3,_)=>
 match(ilt a3 a2)with
 |true=>match idx a1 a3 with|none=>none|some x0=>match(!(ieq x0 a0))with
  |true=>some (.inr (.inl (x0,())))
  |false=>some (.inl (a0,a1,a2,(IntKind.wrap .i64 (a3+1)),()))
 |false=>some (.inr (.inr (.inl (a0,()))))
def AKX[Lk]:U9→Option (U7):=fun(a0,_)=>
 match AZ Kh many (0,a0,(AQ a0),0,())with|none=>none|some r=>match r with
 |.inl (o0,_)=>some (o0,())
 |.inr r=>match r with
 |.inl (o1,_)=>some (o1,())
 |.inr _=>none
def orI[Lk]:=fun v=>Lk.f (AKX v)
theorem AP9 v:orI v=AKX v:=AJ _
abbrev TX:AE:=[(.tmp 0,.di)]
abbrev TW:AE:=[(.tmp 0,.dat .bool)]
abbrev TV:List RS:=[.one]
def I8[Lk]:U7→Option (Uh):=fun(a0,_)=>
 match(ile 1 a0)with
 |true=>some ((ile a0 64),())
 |false=>some (false,())
def OE[Lk]:=fun v=>Lk.f (I8 v)
theorem OD v:OE v=I8 v:=AJ _
abbrev AIP:AE:=[(.tmp 0,.di)]
abbrev AIO:AE:=[(.tmp 0,.di)]
abbrev AIN:List RS:=[.one]
def AIQ[Lk]:U7→Option (U7):=fun(a0,_)=>
 match OE (a0,())with|none=>none|some (y0,_)=>match(!y0)with
 |true=>some (0,())
 |false=>match bitsLen ((IntKind.wrap .u64 (IntKind.wrap .i64 (a0-1))),())with|none=>none|some (y1,_)=>some (y1,())
def TU[Lk]:=fun v=>Lk.f (AIQ v)
theorem ASX v:TU v=AIQ v:=AJ _
abbrev Kp:AE:=[(.tmp 0,.dat Uw),(.tmp 1,.dat Uw)]
abbrev Ko:AE:=[(.tmp 0,.di)]
abbrev Km:List RS:=[.one]
def GK[Lk]:(U2×U2×Unit)→Option (U7):=fun(a0,a1,_)=>
 match GY (a0.1,a1.1,())with|none=>none|some (y0,_)=>match GY (a0.2.1,a1.2.1,())with|none=>none|some (y1,_)=>match orI (([y0,y1]:List (Int)),())with|none=>none|some (y2,_)=>some (y2,())
def C1[Lk]:=fun v=>Lk.f (GK v)
theorem JC v:C1 v=GK v:=AJ _
abbrev TR:AE:=[(.tmp 0,.dat Ui),(.tmp 1,.di)]
abbrev TQ:AE:=[(.tmp 0,.own 45 Ub)]
abbrev TP:List RS:=[.one]
abbrev Xh:AE:=[(.tmp 1,.di),(.tmp 5,.own 45 Ub),(.tmp 9,.dat U1),(.tmp 10,.di),(.tmp 11,.di)]
abbrev Xg:A2:=[(.exit 0,[(.tmp 5,.own 45 Ub)])]
def CK[Lk]:(Int×List U8×List U2×Int×Int×Unit)→Option ((Int×List U8×List U2×Int×Int×Unit)⊕(List U8×Unit)⊕Unit):=fun(a0,a1,a2,a3,a4,_)=>
 match(ilt a4 a3)with
 |true=>match idx a2 a4 with|none=>none|some x0=>match x0.2.2.2.1 with
  |true=>match(ile a0 x0.2.2.1)with
   |true=>match(fits ((AQ a1)+(AQ ([(x0.1,(x0.2.1,()))]:List U8))))with
    |true=>some (.inl (a0,(Bt a1 ([(x0.1,(x0.2.1,()))]:List U8)),a2,a3,(IntKind.wrap .i64 (a4+1)),()))
    |false=>none
   |false=>some (.inl (a0,a1,a2,a3,(IntKind.wrap .i64 (a4+1)),()))
  |false=>some (.inl (a0,a1,a2,a3,(IntKind.wrap .i64 (a4+1)),()))
 |false=>some (.inr (.inl (a1,())))
def I6[Lk]:(Uj×Int×Unit)→Option ((List U8×Unit)):=fun(a0,a1,_)=>
 match AZ CK many (a1,([]:List U8),a0.2.1,(AQ a0.2.1),0,())with|none=>none|some r=>match r with
 |.inl (o0,_)=>some (o0,())
 |.inr _=>none
def Kl[Lk]:=fun v=>Lk.f (I6 v)
theorem OC v:Kl v=I6 v:=AJ _
abbrev Ta:AE:=[(.tmp 0,.dat Ui)]
abbrev TZ:AE:=[(.tmp 0,.dat .bool)]
abbrev TY:List RS:=[.one]
abbrev Xj:AE:=[(.tmp 1,.box 2),(.cell 0 0,.di),(.cell 0 1,.dat U1),(.tmp 3,.di),(.tmp 23,.dat U1),(.tmp 24,.di),(.tmp 25,.di)]
abbrev Xi:A2:=[(.ret,[(.tmp 2,.dat .bool)]),(.exit 0,[(.tmp 1,.box 2),(.cell 0 0,.di),(.cell 0 1,.dat U1)])]
def DC[Lk]:(Int×List U2×Int×List U2×Int×Int×Unit)→Option ((Int×List U2×Int×List U2×Int×Int×Unit)⊕Uh⊕(Int×List U2×Unit)⊕Unit):=fun(a0,a1,a2,a3,a4,a5,_)=>
 match(ilt a5 a4)with
 |true=>match idx a3 a5 with|none=>none|some x0=>match(ilt x0.1 0)with
  |true=>some (.inr (.inl (false,())))
  |false=>match(ile x0.2.1 x0.1)with
  |true=>some (.inr (.inl (false,())))
  |false=>match(ile a0 x0.2.1)with
  |true=>some (.inr (.inl (false,())))
  |false=>match(ilt x0.2.2.1 0)with
  |true=>some (.inr (.inl (false,())))
  |false=>match(ilt a2 x0.2.2.1)with
  |true=>some (.inr (.inl (false,())))
  |false=>match(ilt 0 a5)with
  |true=>match idx a1 (IntKind.wrap .i64 (a5-1))with|none=>none|some x1=>match C1 ((x1.1,(x1.2.1,(x1.2.2.1,(x1.2.2.2.1,())))),(x0.1,(x0.2.1,(x0.2.2.1,(x0.2.2.2.1,())))),())with|none=>none|some (y2,_)=>match(ile 0 y2)with
   |true=>some (.inr (.inl (false,())))
   |false=>some (.inl (a0,a1,a2,a3,a4,(IntKind.wrap .i64 (a5+1)),()))
  |false=>some (.inl (a0,a1,a2,a3,a4,(IntKind.wrap .i64 (a5+1)),()))
 |false=>some (.inr (.inr (.inl (a0,a1,()))))
def GH[Lk]:(Uj×Unit)→Option (Uh):=fun(a0,_)=>
 match OE (a0.1,())with|none=>none|some (y0,_)=>match(!y0)with
 |true=>some (false,())
 |false=>match(ilt 400 (AQ a0.2.1))with
 |true=>some (false,())
 |false=>match TU (a0.1,())with|none=>none|some (y1,_)=>match AZ DC many (a0.1,a0.2.1,y1,a0.2.1,(AQ a0.2.1),0,())with|none=>none|some r=>match r with
 |.inl (o2,_)=>some (o2,())
 |.inr r=>match r with
 |.inl (o3,o4,_)=>match Kl ((o3,(o4,())),0,())with|none=>none|some (y5,_)=>match fof (o3,y5,())with|none=>none|some (y6,y7,_)=>match(ieq y7 0)with
  |true=>some ((ieq (AQ y6.2.1) (IntKind.wrap .i64 (o3-(AQ y5)))),())
  |false=>some (false,())
 |.inr _=>none
def FN[Lk]:=fun v=>Lk.f (GH v)
theorem HT v:FN v=GH v:=AJ _
abbrev Tn:AE:=[(.tmp 0,.dat Ui)]
abbrev Tm:AE:=[(.tmp 0,.own 45 Ub)]
abbrev Tl:List RS:=[.one]
abbrev Xm:AE:=[(.tmp 3,.own 45 Ub),(.tmp 10,.dat U1),(.tmp 11,.di),(.tmp 12,.di)]
abbrev Xl:A2:=[(.exit 0,[(.tmp 3,.own 45 Ub)])]
def OL[Lk]:(List U8×List U2×Int×Int×Unit)→Option ((List U8×List U2×Int×Int×Unit)⊕(List U8×Unit)⊕Unit):=fun(a0,a1,a2,a3,_)=>
 match(ilt a3 a2)with
 |true=>match idx a1 a3 with|none=>none|some x0=>match(fits ((AQ a0)+(AQ ([(x0.1,(x0.2.1,()))]:List U8))))with
  |true=>some (.inl ((Bt a0 ([(x0.1,(x0.2.1,()))]:List U8)),a1,a2,(IntKind.wrap .i64 (a3+1)),()))
  |false=>none
 |false=>some (.inr (.inl (a0,())))
def Tp[Lk]:(Uj×Unit)→Option ((List U8×Unit)):=fun(a0,_)=>
 match FN ((a0.1,(a0.2.1,())),())with|none=>none|some (y0,_)=>match(!y0)with
 |true=>some (([]:List U8),())
 |false=>match AZ OL many (([]:List U8),a0.2.1,(AQ a0.2.1),0,())with|none=>none|some r=>match r with
 |.inl (o1,_)=>some (o1,())
 |.inr _=>none
def AAi[Lk]:=fun v=>Lk.f (Tp v)
theorem ANB v:AAi v=Tp v:=AJ _
abbrev JR:AE:=[(.tmp 0,.di),(.tmp 1,.dat Ux)]
abbrev JQ:AE:=[(.tmp 0,.own 3 U0)]
abbrev JP:List RS:=[.one]
abbrev Mj:AE:=[(.tmp 0,.di),(.tmp 1,.dat Ux),(.tmp 5,.own 3 U0),(.tmp 7,.dat .bool),(.tmp 8,.di)]
abbrev Mg:A2:=[(.exit 4,[(.tmp 0,.di),(.tmp 1,.dat Ux),(.tmp 5,.own 3 U0),(.tmp 7,.dat .bool)])]
def Ca[Lk]:(Int×List U8×List Int×Bool×Int×Unit)→Option ((Int×List U8×List Int×Bool×Int×Unit)⊕V3⊕Unit):=fun(a0,a1,a2,a3,a4,_)=>
 match(ilt a4 (AQ a1))with
 |true=>match idx a1 a4 with|none=>none|some x0=>match idx a1 a4 with|none=>none|some x1=>match(ilt x0.1 0)with
  |true=>some (.inl (a0,a1,a2,a3,(IntKind.wrap .i64 (a4+1)),()))
  |false=>match(ilt x1.2.1 0)with
  |true=>some (.inl (a0,a1,a2,a3,(IntKind.wrap .i64 (a4+1)),()))
  |false=>match(ile a0 x0.1)with
  |true=>some (.inl (a0,a1,a2,a3,(IntKind.wrap .i64 (a4+1)),()))
  |false=>match(ile a0 x1.2.1)with
  |true=>some (.inl (a0,a1,a2,a3,(IntKind.wrap .i64 (a4+1)),()))
  |false=>match idx a2 x0.1 with|none=>none|some x2=>match idx a2 x1.2.1 with|none=>none|some x3=>match(ieq (AN a2 (AF x0.1) 0) (AN a2 (AF x1.2.1) 0))with
  |true=>some (.inl (a0,a1,a2,a3,(IntKind.wrap .i64 (a4+1)),()))
  |false=>match idx a2 x0.1 with|none=>none|some x4=>match idx a2 x1.2.1 with|none=>none|some x5=>match idx a2 x0.1 with|none=>none|some x6=>match idx (Aj a2 (AF x0.1) (EW (AN a2 (AF x0.1) 0) (AN a2 (AF x1.2.1) 0))) x1.2.1 with|none=>none|some x7=>some (.inl (a0,a1,(Aj (Aj a2 (AF x0.1) (EW (AN a2 (AF x0.1) 0) (AN a2 (AF x1.2.1) 0))) (AF x1.2.1) (EW (AN a2 (AF x0.1) 0) (AN a2 (AF x1.2.1) 0))),true,(IntKind.wrap .i64 (a4+1)),()))
 |false=>some (.inr (.inl (a0,a1,a2,a3,())))
abbrev Mk:AE:=[(.tmp 0,.di),(.tmp 1,.dat Ux),(.tmp 5,.own 3 U0),(.tmp 7,.dat .bool)]
abbrev Mh:A2:=[(.exit 2,[(.tmp 5,.own 3 U0)])]
def DG[Lk]:V3→Option (V3⊕U9⊕Unit):=fun(a0,a1,a2,a3,_)=>
 match a3 with
 |true=>match AZ Ca many (a0,a1,a2,false,0,())with|none=>none|some r=>match r with
  |.inl (o0,o1,o2,o3,_)=>some (.inl (o0,o1,o2,o3,()))
  |.inr _=>none
 |false=>some (.inr (.inl (a2,())))
abbrev Ml:AE:=[(.tmp 0,.di),(.tmp 1,.dat Ux),(.tmp 5,.own 3 U0),(.tmp 6,.di)]
abbrev Mi:A2:=[(.exit 0,[(.tmp 0,.di),(.tmp 1,.dat Ux),(.tmp 5,.own 3 U0)])]
def Cb[Lk]:(Int×List U8×List Int×Int×Unit)→Option ((Int×List U8×List Int×Int×Unit)⊕(Int×List U8×List Int×Unit)⊕Unit):=fun(a0,a1,a2,a3,_)=>
 match(ilt a3 a0)with
 |true=>match(fits ((AQ a2)+(AQ ([a3]:List (Int)))))with
  |true=>some (.inl (a0,a1,(Bt a2 ([a3]:List (Int))),(IntKind.wrap .i64 (a3+1)),()))
  |false=>none
 |false=>some (.inr (.inl (a0,a1,a2,())))
def G3[Lk]:(Int×List U8×Unit)→Option (U9):=fun(a0,a1,_)=>
 match AZ Cb many (a0,a1,([]:List (Int)),0,())with|none=>none|some r=>match r with
 |.inl (o0,o1,o2,_)=>match AZ DG many (o0,o1,o2,true,())with|none=>none|some r=>match r with
  |.inl (o3,_)=>some (o3,())
  |.inr _=>none
 |.inr _=>none
def Fs[Lk]:=fun v=>Lk.f (G3 v)
theorem Mm v:Fs v=G3 v:=AJ _
abbrev Yj:AE:=[(.tmp 0,.di)]
abbrev Yi:AE:=[(.tmp 0,.di)]
abbrev Yh:List RS:=[.one]
abbrev ACW:AE:=[(.tmp 3,.di),(.tmp 4,.di)]
abbrev ACV:A2:=[(.exit 0,[(.tmp 3,.di)])]
def Rv[Lk]:U8→Option (U8⊕U7⊕Unit):=fun(a0,a1,_)=>
 match(ilt 0 a1)with
 |true=>match quo? .i64 a1 2 with|none=>none|some x0=>some (.inl ((IntKind.wrap .i64 (a0+1)),x0,()))
 |false=>some (.inr (.inl (a0,())))
def Yl[Lk]:U7→Option (U7):=fun(a0,_)=>
 match(ilt a0 1)with
 |true=>some (0,())
 |false=>match(ilt 64 a0)with
 |true=>some (0,())
 |false=>match AZ Rv many (0,(IntKind.wrap .i64 (a0-1)),())with|none=>none|some r=>match r with
 |.inl (o0,_)=>some (o0,())
 |.inr _=>none
def Ih[Lk]:=fun v=>Lk.f (Yl v)
theorem AOh v:Ih v=Yl v:=AJ _
abbrev Nd:AE:=[(.tmp 0,.dat Ui)]
abbrev Nc:AE:=[(.tmp 0,.dat .bool)]
abbrev Nb:List RS:=[.one]
abbrev SJ:AE:=[(.tmp 1,.box 2),(.cell 0 0,.di),(.cell 0 1,.dat U1),(.tmp 3,.own 45 Ub),(.tmp 6,.own 3 U0),(.tmp 7,.di),(.tmp 8,.di)]
abbrev SF:A2:=[(.exit 2,[(.tmp 1,.box 2),(.cell 0 0,.di),(.cell 0 1,.dat U1),(.tmp 3,.own 45 Ub),(.tmp 7,.di)])]
def Cx[Lk]:(Int×List U2×List U8×List Int×Int×Int×Unit)→Option ((Int×List U2×List U8×List Int×Int×Int×Unit)⊕V5⊕Unit):=fun(a0,a1,a2,a3,a4,a5,_)=>
 match(ilt a5 a0)with
 |true=>match idx a3 a5 with|none=>none|some x0=>match(ieq (AN a3 (AF a5) 0) a5)with
  |true=>some (.inl (a0,a1,a2,a3,(IntKind.wrap .i64 (a4+1)),(IntKind.wrap .i64 (a5+1)),()))
  |false=>some (.inl (a0,a1,a2,a3,a4,(IntKind.wrap .i64 (a5+1)),()))
 |false=>some (.inr (.inl (a0,a1,a2,a4,())))
abbrev SK:AE:=[(.tmp 1,.box 2),(.cell 0 0,.di),(.cell 0 1,.dat U1),(.tmp 3,.own 45 Ub),(.tmp 4,.di)]
abbrev SH:A2:=[(.ret,[(.tmp 2,.dat .bool)]),(.exit 0,[(.tmp 1,.box 2),(.cell 0 0,.di),(.cell 0 1,.dat U1),(.tmp 3,.own 45 Ub)])]
def CS[Lk]:V5→Option (V5⊕Uh⊕(Int×List U2×List U8×Unit)⊕Unit):=fun(a0,a1,a2,a3,_)=>
 match(ilt a3 (AQ a1))with
 |true=>match idx a1 a3 with|none=>none|some x0=>match(ilt x0.1 0)with
  |true=>some (.inr (.inl (false,())))
  |false=>match(ile x0.2.1 x0.1)with
  |true=>some (.inr (.inl (false,())))
  |false=>match(ile a0 x0.2.1)with
  |true=>some (.inr (.inl (false,())))
  |false=>match(ilt x0.2.2.1 0)with
  |true=>some (.inr (.inl (false,())))
  |false=>match Ih (a0,())with|none=>none|some (y1,_)=>match(ilt y1 x0.2.2.1)with
  |true=>some (.inr (.inl (false,())))
  |false=>match(ilt 0 a3)with
  |true=>match idx a1 (IntKind.wrap .i64 (a3-1))with|none=>none|some x2=>match(ilt x0.1 x2.1)with
   |true=>some (.inr (.inl (false,())))
   |false=>match idx a1 (IntKind.wrap .i64 (a3-1))with|none=>none|some x3=>match(ieq x3.1 x0.1)with
   |true=>match idx a1 (IntKind.wrap .i64 (a3-1))with|none=>none|some x4=>match(ile x0.2.1 x4.2.1)with
    |true=>some (.inr (.inl (false,())))
    |false=>match x0.2.2.2.1 with
    |true=>match(fits ((AQ a2)+(AQ ([(x0.1,(x0.2.1,()))]:List U8))))with
     |true=>some (.inl (a0,a1,(Bt a2 ([(x0.1,(x0.2.1,()))]:List U8)),(IntKind.wrap .i64 (a3+1)),()))
     |false=>none
    |false=>some (.inl (a0,a1,a2,(IntKind.wrap .i64 (a3+1)),()))
   |false=>match x0.2.2.2.1 with
   |true=>match(fits ((AQ a2)+(AQ ([(x0.1,(x0.2.1,()))]:List U8))))with
    |true=>some (.inl (a0,a1,(Bt a2 ([(x0.1,(x0.2.1,()))]:List U8)),(IntKind.wrap .i64 (a3+1)),()))
    |false=>none
   |false=>some (.inl (a0,a1,a2,(IntKind.wrap .i64 (a3+1)),()))
  |false=>match x0.2.2.2.1 with
  |true=>match(fits ((AQ a2)+(AQ ([(x0.1,(x0.2.1,()))]:List U8))))with
   |true=>some (.inl (a0,a1,(Bt a2 ([(x0.1,(x0.2.1,()))]:List U8)),(IntKind.wrap .i64 (a3+1)),()))
   |false=>none
  |false=>some (.inl (a0,a1,a2,(IntKind.wrap .i64 (a3+1)),()))
 |false=>some (.inr (.inr (.inl (a0,a1,a2,()))))
def Dm[Lk]:(Uj×Unit)→Option (Uh):=fun(a0,_)=>
 match(ilt a0.1 1)with
 |true=>some (false,())
 |false=>match(ilt 64 a0.1)with
 |true=>some (false,())
 |false=>match(ilt 400 (AQ a0.2.1))with
 |true=>some (false,())
 |false=>match AZ CS many (a0.1,a0.2.1,([]:List U8),0,())with|none=>none|some r=>match r with
 |.inl (o0,_)=>some (o0,())
 |.inr r=>match r with
 |.inl (o1,o2,o3,_)=>match Fs (o1,o3,())with|none=>none|some (y4,_)=>match AZ Cx many (o1,o2,o3,y4,0,0,())with|none=>none|some r=>match r with
  |.inl (o5,o6,o7,o8,_)=>some ((ieq o8 (IntKind.wrap .i64 (o5-(AQ o7)))),())
  |.inr _=>none
 |.inr _=>none
def Fa[Lk]:=fun v=>Lk.f (Dm v)
theorem EO v:Fa v=Dm v:=AJ _
abbrev OJ:AE:=[(.tmp 0,.dat Ui),(.tmp 1,.di)]
abbrev OI:AE:=[(.tmp 0,.dat Uk),(.tmp 1,.di)]
abbrev OH:List RS:=[.one,.one]
def Jv[Lk]:(Uj×Int×Unit)→Option ((Ul×Int×Unit)):=fun(a0,a1,_)=>
 match FN ((a0.1,(a0.2.1,())),())with|none=>none|some (y0,_)=>match(!y0)with
 |true=>some ((0,(([]:List U3),())),1,())
 |false=>match Kl ((a0.1,(a0.2.1,())),a1,())with|none=>none|some (y1,_)=>match fof (a0.1,y1,())with|none=>none|some (y2,y3,_)=>some ((y2.1,(y2.2.1,())),y3,())
def Jw[Lk]:=fun v=>Lk.f (Jv v)
theorem Th v:Jw v=Jv v:=AJ _
abbrev AAd:AE:=[(.tmp 0,.di),(.tmp 1,.di)]
abbrev AAc:AE:=[(.tmp 0,.dat .bool)]
abbrev AAb:List RS:=[.one]
def RE[Lk]:U8→Option (Uh):=fun(a0,a1,_)=>
 match AH8 (a0,())with|none=>none|some (y0,_)=>match y0 with
 |true=>match AH8 (a1,())with|none=>none|some (y1,_)=>match(!y1)with
  |true=>some (true,())
  |false=>some ((ilt a0 a1),())
 |false=>some ((ilt a0 a1),())
def DQ[Lk]:=fun v=>Lk.f (RE v)
theorem AEk v:DQ v=RE v:=AJ _
abbrev AIx:AE:=[(.tmp 0,.own 3 U0),(.tmp 1,.di),(.tmp 2,.di)]
abbrev AIw:AE:=[(.obj 0,.own 3 U0)]
abbrev AIv:List RS:=[]
abbrev AKt:AE:=[(.obj 0,.own 3 U0),(.tmp 0,.own' 0),(.tmp 1,.di),(.tmp 2,.di),(.tmp 6,.di),(.tmp 7,.di)]
abbrev AKr:A2:=[(.exit 2,[(.obj 0,.own 3 U0),(.tmp 0,.own' 0),(.tmp 1,.di),(.tmp 2,.di),(.tmp 6,.di)])]
def Jz[Lk]:Ud→Option (Ud⊕U4⊕Unit):=fun(a0,a1,a2,a3,a4,_)=>
 match(ilt a1 a4)with
 |true=>match idx a0 a4 with|none=>none|some x0=>match idx a0 (IntKind.wrap .i64 (a4-1))with|none=>none|some x1=>match DQ ((AN a0 (AF a4) 0),(AN a0 (AF (IntKind.wrap .i64 (a4-1))) 0),())with|none=>none|some (y2,_)=>match y2 with
  |true=>match idx a0 (IntKind.wrap .i64 (a4-1))with|none=>none|some x3=>match idx a0 a4 with|none=>none|some x4=>match idx a0 a4 with|none=>none|some x5=>match idx (Aj a0 (AF a4) (AN a0 (AF (IntKind.wrap .i64 (a4-1))) 0)) (IntKind.wrap .i64 (a4-1))with|none=>none|some x6=>some (.inl ((Aj (Aj a0 (AF a4) (AN a0 (AF (IntKind.wrap .i64 (a4-1))) 0)) (AF (IntKind.wrap .i64 (a4-1))) (AN a0 (AF a4) 0)),a1,a2,a3,(IntKind.wrap .i64 (a4-1)),()))
  |false=>some (.inr (.inl (a0,a1,a2,a3,())))
 |false=>some (.inr (.inl (a0,a1,a2,a3,())))
abbrev AKu:AE:=[(.obj 0,.own 3 U0),(.tmp 0,.own' 0),(.tmp 1,.di),(.tmp 2,.di),(.tmp 6,.di)]
abbrev AKs:A2:=[(.exit 0,[(.obj 0,.own 3 U0)])]
def J0[Lk]:U4→Option (U4⊕U9⊕Unit):=fun(a0,a1,a2,a3,_)=>
 match(ilt a3 a2)with
 |true=>match AZ Jz many (a0,a1,a2,a3,a3,())with|none=>none|some r=>match r with
  |.inl (o0,o1,o2,o3,_)=>some (.inl (o0,o1,o2,(IntKind.wrap .i64 (o3+1)),()))
  |.inr _=>none
 |false=>some (.inr (.inl (a0,())))
def AAp[Lk]:Ue→Option (U9):=fun(a0,a1,a2,_)=>
 match AZ J0 many (a0,a1,a2,(IntKind.wrap .i64 (a1+1)),())with|none=>none|some r=>match r with
 |.inl (o0,_)=>some (o0,())
 |.inr _=>none
def ANI[Lk]:=fun v=>Lk.f (AAp v)
theorem AKv v:ANI v=AAp v:=AJ _
abbrev Y9:AE:=[(.tmp 0,.own 3 U0),(.tmp 1,.di),(.tmp 2,.di),(.tmp 3,.di)]
abbrev Y8:AE:=[(.obj 0,.own 3 U0)]
abbrev Y7:List RS:=[]
abbrev ACq:AE:=[(.obj 0,.own 3 U0),(.tmp 0,.own' 0),(.tmp 2,.di),(.tmp 3,.di),(.tmp 8,.di)]
abbrev ACp:A2:=[(.exit 0,[(.obj 0,.own 3 U0)]),(.ret,[(.obj 0,.own 3 U0)])]
def HN[Lk]:U4→Option (U4⊕U9⊕U9⊕Unit):=fun(a0,a1,a2,a3,_)=>
 match(ile a1 (IntKind.wrap .i64 ((IntKind.wrap .i64 (2*a3))+1)))with
 |true=>some (.inr (.inl (a0,())))
 |false=>match(ilt (IntKind.wrap .i64 ((IntKind.wrap .i64 ((IntKind.wrap .i64 (2*a3))+1))+1)) a1)with
 |true=>match idx a0 (IntKind.wrap .i64 (a2+(IntKind.wrap .i64 ((IntKind.wrap .i64 (2*a3))+1))))with|none=>none|some x0=>match idx a0 (IntKind.wrap .i64 ((IntKind.wrap .i64 (a2+(IntKind.wrap .i64 ((IntKind.wrap .i64 (2*a3))+1))))+1))with|none=>none|some x1=>match DQ ((AN a0 (AF (IntKind.wrap .i64 (a2+(IntKind.wrap .i64 ((IntKind.wrap .i64 (2*a3))+1))))) 0),(AN a0 (AF (IntKind.wrap .i64 ((IntKind.wrap .i64 (a2+(IntKind.wrap .i64 ((IntKind.wrap .i64 (2*a3))+1))))+1))) 0),())with|none=>none|some (y2,_)=>match y2 with
  |true=>match idx a0 (IntKind.wrap .i64 (a2+a3))with|none=>none|some x3=>match idx a0 (IntKind.wrap .i64 (a2+(IntKind.wrap .i64 ((IntKind.wrap .i64 ((IntKind.wrap .i64 (2*a3))+1))+1))))with|none=>none|some x4=>match DQ ((AN a0 (AF (IntKind.wrap .i64 (a2+a3))) 0),(AN a0 (AF (IntKind.wrap .i64 (a2+(IntKind.wrap .i64 ((IntKind.wrap .i64 ((IntKind.wrap .i64 (2*a3))+1))+1))))) 0),())with|none=>none|some (y5,_)=>match(!y5)with
   |true=>some (.inr (.inr (.inl (a0,()))))
   |false=>match idx a0 (IntKind.wrap .i64 (a2+(IntKind.wrap .i64 ((IntKind.wrap .i64 ((IntKind.wrap .i64 (2*a3))+1))+1))))with|none=>none|some x6=>match idx a0 (IntKind.wrap .i64 (a2+a3))with|none=>none|some x7=>match idx a0 (IntKind.wrap .i64 (a2+a3))with|none=>none|some x8=>match idx (Aj a0 (AF (IntKind.wrap .i64 (a2+a3))) (AN a0 (AF (IntKind.wrap .i64 (a2+(IntKind.wrap .i64 ((IntKind.wrap .i64 ((IntKind.wrap .i64 (2*a3))+1))+1))))) 0)) (IntKind.wrap .i64 (a2+(IntKind.wrap .i64 ((IntKind.wrap .i64 ((IntKind.wrap .i64 (2*a3))+1))+1))))with|none=>none|some x9=>some (.inl ((Aj (Aj a0 (AF (IntKind.wrap .i64 (a2+a3))) (AN a0 (AF (IntKind.wrap .i64 (a2+(IntKind.wrap .i64 ((IntKind.wrap .i64 ((IntKind.wrap .i64 (2*a3))+1))+1))))) 0)) (AF (IntKind.wrap .i64 (a2+(IntKind.wrap .i64 ((IntKind.wrap .i64 ((IntKind.wrap .i64 (2*a3))+1))+1))))) (AN a0 (AF (IntKind.wrap .i64 (a2+a3))) 0)),a1,a2,(IntKind.wrap .i64 ((IntKind.wrap .i64 ((IntKind.wrap .i64 (2*a3))+1))+1)),()))
  |false=>match idx a0 (IntKind.wrap .i64 (a2+a3))with|none=>none|some x10=>match idx a0 (IntKind.wrap .i64 (a2+(IntKind.wrap .i64 ((IntKind.wrap .i64 (2*a3))+1))))with|none=>none|some x11=>match DQ ((AN a0 (AF (IntKind.wrap .i64 (a2+a3))) 0),(AN a0 (AF (IntKind.wrap .i64 (a2+(IntKind.wrap .i64 ((IntKind.wrap .i64 (2*a3))+1))))) 0),())with|none=>none|some (y12,_)=>match(!y12)with
  |true=>some (.inr (.inr (.inl (a0,()))))
  |false=>match idx a0 (IntKind.wrap .i64 (a2+(IntKind.wrap .i64 ((IntKind.wrap .i64 (2*a3))+1))))with|none=>none|some x13=>match idx a0 (IntKind.wrap .i64 (a2+a3))with|none=>none|some x14=>match idx a0 (IntKind.wrap .i64 (a2+a3))with|none=>none|some x15=>match idx (Aj a0 (AF (IntKind.wrap .i64 (a2+a3))) (AN a0 (AF (IntKind.wrap .i64 (a2+(IntKind.wrap .i64 ((IntKind.wrap .i64 (2*a3))+1))))) 0)) (IntKind.wrap .i64 (a2+(IntKind.wrap .i64 ((IntKind.wrap .i64 (2*a3))+1))))with|none=>none|some x16=>some (.inl ((Aj (Aj a0 (AF (IntKind.wrap .i64 (a2+a3))) (AN a0 (AF (IntKind.wrap .i64 (a2+(IntKind.wrap .i64 ((IntKind.wrap .i64 (2*a3))+1))))) 0)) (AF (IntKind.wrap .i64 (a2+(IntKind.wrap .i64 ((IntKind.wrap .i64 (2*a3))+1))))) (AN a0 (AF (IntKind.wrap .i64 (a2+a3))) 0)),a1,a2,(IntKind.wrap .i64 ((IntKind.wrap .i64 (2*a3))+1)),()))
 |false=>match idx a0 (IntKind.wrap .i64 (a2+a3))with|none=>none|some x17=>match idx a0 (IntKind.wrap .i64 (a2+(IntKind.wrap .i64 ((IntKind.wrap .i64 (2*a3))+1))))with|none=>none|some x18=>match DQ ((AN a0 (AF (IntKind.wrap .i64 (a2+a3))) 0),(AN a0 (AF (IntKind.wrap .i64 (a2+(IntKind.wrap .i64 ((IntKind.wrap .i64 (2*a3))+1))))) 0),())with|none=>none|some (y19,_)=>match(!y19)with
 |true=>some (.inr (.inr (.inl (a0,()))))
 |false=>match idx a0 (IntKind.wrap .i64 (a2+(IntKind.wrap .i64 ((IntKind.wrap .i64 (2*a3))+1))))with|none=>none|some x20=>match idx a0 (IntKind.wrap .i64 (a2+a3))with|none=>none|some x21=>match idx a0 (IntKind.wrap .i64 (a2+a3))with|none=>none|some x22=>match idx (Aj a0 (AF (IntKind.wrap .i64 (a2+a3))) (AN a0 (AF (IntKind.wrap .i64 (a2+(IntKind.wrap .i64 ((IntKind.wrap .i64 (2*a3))+1))))) 0)) (IntKind.wrap .i64 (a2+(IntKind.wrap .i64 ((IntKind.wrap .i64 (2*a3))+1))))with|none=>none|some x23=>some (.inl ((Aj (Aj a0 (AF (IntKind.wrap .i64 (a2+a3))) (AN a0 (AF (IntKind.wrap .i64 (a2+(IntKind.wrap .i64 ((IntKind.wrap .i64 (2*a3))+1))))) 0)) (AF (IntKind.wrap .i64 (a2+(IntKind.wrap .i64 ((IntKind.wrap .i64 (2*a3))+1))))) (AN a0 (AF (IntKind.wrap .i64 (a2+a3))) 0)),a1,a2,(IntKind.wrap .i64 ((IntKind.wrap .i64 (2*a3))+1)),()))
def Q0[Lk]:U4→Option (U9):=fun(a0,a1,a2,a3,_)=>
 match AZ HN many (a0,a2,a3,a1,())with|none=>none|some r=>match r with
 |.inl (o0,_)=>some (o0,())
 |.inr r=>match r with
 |.inl (o1,_)=>some (o1,())
 |.inr _=>none
def XJ[Lk]:=fun v=>Lk.f (Q0 v)
theorem ACr v:XJ v=Q0 v:=AJ _
abbrev AA0:AE:=[(.tmp 0,.own 3 U0),(.tmp 1,.di),(.tmp 2,.di)]
abbrev AAz:AE:=[(.obj 0,.own 3 U0)]
abbrev AAy:List RS:=[]
abbrev AFA:AE:=[(.obj 0,.own 3 U0),(.tmp 0,.own' 0),(.tmp 6,.di),(.tmp 7,.di),(.tmp 10,.di)]
abbrev AE8:A2:=[(.exit 2,[(.obj 0,.own 3 U0)])]
def HX[Lk]:U4→Option (U4⊕U9⊕Unit):=fun(a0,a1,a2,a3,_)=>
 match(ile 0 a3)with
 |true=>match idx a0 (IntKind.wrap .i64 (a1+a3))with|none=>none|some x0=>match idx a0 a1 with|none=>none|some x1=>match idx a0 a1 with|none=>none|some x2=>match idx (Aj a0 (AF a1) (AN a0 (AF (IntKind.wrap .i64 (a1+a3))) 0)) (IntKind.wrap .i64 (a1+a3))with|none=>none|some x3=>match XJ ((Aj (Aj a0 (AF a1) (AN a0 (AF (IntKind.wrap .i64 (a1+a3))) 0)) (AF (IntKind.wrap .i64 (a1+a3))) (AN a0 (AF a1) 0)),a2,a3,a1,())with|none=>none|some (y4,_)=>some (.inl (y4,a1,a2,(IntKind.wrap .i64 (a3-1)),()))
 |false=>some (.inr (.inl (a0,())))
abbrev AFB:AE:=[(.obj 0,.own 3 U0),(.tmp 0,.own' 0),(.tmp 6,.di),(.tmp 7,.di),(.tmp 8,.di),(.tmp 9,.di)]
abbrev AE9:A2:=[(.exit 0,[(.obj 0,.own 3 U0),(.tmp 0,.own' 0),(.tmp 6,.di),(.tmp 7,.di),(.tmp 8,.di)])]
def HY[Lk]:Ud→Option (Ud⊕U4⊕Unit):=fun(a0,a1,a2,a3,a4,_)=>
 match(ile 0 a4)with
 |true=>match XJ (a0,a4,a3,a1,())with|none=>none|some (y0,_)=>some (.inl (y0,a1,a2,a3,(IntKind.wrap .i64 (a4-1)),()))
 |false=>some (.inr (.inl (a0,a1,a2,a3,())))
def RI[Lk]:Ue→Option (U9):=fun(a0,a1,a2,_)=>
 match quo? .i64 (IntKind.wrap .i64 ((IntKind.wrap .i64 (a2-a1))-1)) 2 with|none=>none|some x0=>match AZ HY many (a0,a1,0,(IntKind.wrap .i64 (a2-a1)),x0,())with|none=>none|some r=>match r with
 |.inl (o1,o2,o3,o4,_)=>match AZ HX many (o1,o2,o3,(IntKind.wrap .i64 (o4-1)),())with|none=>none|some r=>match r with
  |.inl (o5,_)=>some (o5,())
  |.inr _=>none
 |.inr _=>none
def Xv[Lk]:=fun v=>Lk.f (RI v)
theorem AFC v:Xv v=RI v:=AJ _
abbrev VV:AE:=[(.tmp 0,.own 3 U0),(.tmp 1,.di),(.tmp 2,.di)]
abbrev VU:AE:=[(.obj 0,.own 3 U0)]
abbrev VT:List RS:=[]
abbrev X9:AE:=[(.obj 0,.own 3 U0),(.tmp 0,.own' 0),(.tmp 1,.di),(.tmp 6,.di),(.tmp 7,.box 1),(.cell 1 0,.dat (.int .u64)),(.tmp 8,.dat (.int .u64)),(.tmp 9,.di)]
abbrev X8:A2:=[(.exit 0,[(.obj 0,.own 3 U0)])]
def Em[Lk]:Um→Option (Um⊕U9⊕Unit):=fun(a0,a1,a2,a3,a4,a5,_)=>
 match quo? .i64 a2 4 with|none=>none|some x0=>match(ile a5 (IntKind.wrap .i64 ((IntKind.wrap .i64 (a1+(IntKind.wrap .i64 (x0*2))))+1)))with
 |true=>match xorNext (a3,())with|none=>none|some (y1,y2,_)=>match(ile a2 (IntKind.wrap .i64 (IntKind.wrap .u64 ((BitVec.ofInt (IntKind.bits .u64) y2 &&& BitVec.ofInt (IntKind.bits .u64) (IntKind.wrap .u64 (a4-1))).toNat))))with
  |true=>match idx a0 (IntKind.wrap .i64 (a1+(IntKind.wrap .i64 ((IntKind.wrap .i64 (IntKind.wrap .u64 ((BitVec.ofInt (IntKind.bits .u64) y2 &&& BitVec.ofInt (IntKind.bits .u64) (IntKind.wrap .u64 (a4-1))).toNat)))-a2))))with|none=>none|some x3=>match idx a0 a5 with|none=>none|some x4=>match idx a0 a5 with|none=>none|some x5=>match idx (Aj a0 (AF a5) (AN a0 (AF (IntKind.wrap .i64 (a1+(IntKind.wrap .i64 ((IntKind.wrap .i64 (IntKind.wrap .u64 ((BitVec.ofInt (IntKind.bits .u64) y2 &&& BitVec.ofInt (IntKind.bits .u64) (IntKind.wrap .u64 (a4-1))).toNat)))-a2))))) 0)) (IntKind.wrap .i64 (a1+(IntKind.wrap .i64 ((IntKind.wrap .i64 (IntKind.wrap .u64 ((BitVec.ofInt (IntKind.bits .u64) y2 &&& BitVec.ofInt (IntKind.bits .u64) (IntKind.wrap .u64 (a4-1))).toNat)))-a2))))with|none=>none|some x6=>some (.inl ((Aj (Aj a0 (AF a5) (AN a0 (AF (IntKind.wrap .i64 (a1+(IntKind.wrap .i64 ((IntKind.wrap .i64 (IntKind.wrap .u64 ((BitVec.ofInt (IntKind.bits .u64) y2 &&& BitVec.ofInt (IntKind.bits .u64) (IntKind.wrap .u64 (a4-1))).toNat)))-a2))))) 0)) (AF (IntKind.wrap .i64 (a1+(IntKind.wrap .i64 ((IntKind.wrap .i64 (IntKind.wrap .u64 ((BitVec.ofInt (IntKind.bits .u64) y2 &&& BitVec.ofInt (IntKind.bits .u64) (IntKind.wrap .u64 (a4-1))).toNat)))-a2))))) (AN a0 (AF a5) 0)),a1,a2,y1,a4,(IntKind.wrap .i64 (a5+1)),()))
  |false=>match idx a0 (IntKind.wrap .i64 (a1+(IntKind.wrap .i64 (IntKind.wrap .u64 ((BitVec.ofInt (IntKind.bits .u64) y2 &&& BitVec.ofInt (IntKind.bits .u64) (IntKind.wrap .u64 (a4-1))).toNat)))))with|none=>none|some x7=>match idx a0 a5 with|none=>none|some x8=>match idx a0 a5 with|none=>none|some x9=>match idx (Aj a0 (AF a5) (AN a0 (AF (IntKind.wrap .i64 (a1+(IntKind.wrap .i64 (IntKind.wrap .u64 ((BitVec.ofInt (IntKind.bits .u64) y2 &&& BitVec.ofInt (IntKind.bits .u64) (IntKind.wrap .u64 (a4-1))).toNat)))))) 0)) (IntKind.wrap .i64 (a1+(IntKind.wrap .i64 (IntKind.wrap .u64 ((BitVec.ofInt (IntKind.bits .u64) y2 &&& BitVec.ofInt (IntKind.bits .u64) (IntKind.wrap .u64 (a4-1))).toNat)))))with|none=>none|some x10=>some (.inl ((Aj (Aj a0 (AF a5) (AN a0 (AF (IntKind.wrap .i64 (a1+(IntKind.wrap .i64 (IntKind.wrap .u64 ((BitVec.ofInt (IntKind.bits .u64) y2 &&& BitVec.ofInt (IntKind.bits .u64) (IntKind.wrap .u64 (a4-1))).toNat)))))) 0)) (AF (IntKind.wrap .i64 (a1+(IntKind.wrap .i64 (IntKind.wrap .u64 ((BitVec.ofInt (IntKind.bits .u64) y2 &&& BitVec.ofInt (IntKind.bits .u64) (IntKind.wrap .u64 (a4-1))).toNat)))))) (AN a0 (AF a5) 0)),a1,a2,y1,a4,(IntKind.wrap .i64 (a5+1)),()))
 |false=>some (.inr (.inl (a0,())))
def Mn[Lk]:Ue→Option (U9):=fun(a0,a1,a2,_)=>
 match(ile 8 (IntKind.wrap .i64 (a2-a1)))with
 |true=>match Jo ((IntKind.wrap .i64 (a2-a1)),())with|none=>none|some (y0,_)=>match quo? .i64 (IntKind.wrap .i64 (a2-a1)) 4 with|none=>none|some x1=>match AZ Em many (a0,a1,(IntKind.wrap .i64 (a2-a1)),(IntKind.wrap .u64 (IntKind.wrap .i64 (a2-a1))),y0,(IntKind.wrap .i64 ((IntKind.wrap .i64 (a1+(IntKind.wrap .i64 (x1*2))))-1)),())with|none=>none|some r=>match r with
  |.inl (o2,_)=>some (o2,())
  |.inr _=>none
 |false=>some (a0,())
def Oq[Lk]:=fun v=>Lk.f (Mn v)
theorem YA v:Oq v=Mn v:=AJ _
abbrev Nu:AE:=[(.tmp 0,.own 3 U0),(.tmp 1,.di),(.tmp 2,.di),(.tmp 3,.box 1),(.cell 1 0,.di)]
abbrev Nt:AE:=[(.obj 0,.own 3 U0),(.obj 1,.box 1),(.cell 1 0,.di),(.tmp 0,.di),(.tmp 1,.di)]
abbrev Ns:List RS:=[.one,.one]
def Jk[Lk]:U4→Option (U4):=fun(a0,a1,a2,a3,_)=>
 match idx a0 a2 with|none=>none|some x0=>match idx a0 a1 with|none=>none|some x1=>match DQ ((AN a0 (AF a2) 0),(AN a0 (AF a1) 0),())with|none=>none|some (y2,_)=>match y2 with
 |true=>some (a0,(IntKind.wrap .i64 (a3+1)),a2,a1,())
 |false=>some (a0,a3,a1,a2,())
def Hv[Lk]:=fun v=>Lk.f (Jk v)
theorem TG v:Hv v=Jk v:=AJ _
abbrev N5:AE:=[(.tmp 0,.own 3 U0),(.tmp 1,.di),(.tmp 2,.di),(.tmp 3,.di),(.tmp 4,.box 1),(.cell 1 0,.di)]
abbrev N4:AE:=[(.obj 0,.own 3 U0),(.obj 1,.box 1),(.cell 1 0,.di),(.tmp 0,.di)]
abbrev N3:List RS:=[.one]
def Jp[Lk]:Ud→Option (Ue):=fun(a0,a1,a2,a3,a4,_)=>
 match Hv (a0,a1,a2,a4,())with|none=>none|some (y0,y1,y2,y3,_)=>match Hv (y0,y3,a3,y1,())with|none=>none|some (y4,y5,y6,y7,_)=>match Hv (y4,y2,y6,y5,())with|none=>none|some (y8,y9,y10,y11,_)=>some (y8,y9,y11,())
def H3[Lk]:=fun v=>Lk.f (Jp v)
theorem TN v:H3 v=Jp v:=AJ _
abbrev OB:AE:=[(.tmp 0,.own 3 U0),(.tmp 1,.di),(.tmp 2,.box 1),(.cell 1 0,.di)]
abbrev OA:AE:=[(.obj 0,.own 3 U0),(.obj 1,.box 1),(.cell 1 0,.di),(.tmp 0,.di)]
abbrev N9:List RS:=[.one]
def Js[Lk]:Ue→Option (Ue):=fun(a0,a1,a2,_)=>
 match H3 (a0,(IntKind.wrap .i64 (a1-1)),a1,(IntKind.wrap .i64 (a1+1)),a2,())with|none=>none|some (y0,y1,y2,_)=>some (y0,y1,y2,())
def H4[Lk]:=fun v=>Lk.f (Js v)
theorem TO v:H4 v=Js v:=AJ _
abbrev Sf:AE:=[(.tmp 0,.own 3 U0),(.tmp 1,.di),(.tmp 2,.di)]
abbrev Se:AE:=[(.obj 0,.own 3 U0),(.tmp 0,.di),(.tmp 1,.di)]
abbrev Sd:List RS:=[.one,.one]
def Le[Lk]:Ue→Option (Ue):=fun(a0,a1,a2,_)=>
 match quo? .i64 (IntKind.wrap .i64 (a2-a1)) 4 with|none=>none|some x0=>match quo? .i64 (IntKind.wrap .i64 (a2-a1)) 4 with|none=>none|some x1=>match quo? .i64 (IntKind.wrap .i64 (a2-a1)) 4 with|none=>none|some x2=>match(ile 8 (IntKind.wrap .i64 (a2-a1)))with
 |true=>match(ile 50 (IntKind.wrap .i64 (a2-a1)))with
  |true=>match H4 (a0,(IntKind.wrap .i64 (a1+(IntKind.wrap .i64 (x0*1)))),0,())with|none=>none|some (y3,y4,y5,_)=>match H4 (y3,(IntKind.wrap .i64 (a1+(IntKind.wrap .i64 (x1*2)))),y4,())with|none=>none|some (y6,y7,y8,_)=>match H4 (y6,(IntKind.wrap .i64 (a1+(IntKind.wrap .i64 (x2*3)))),y7,())with|none=>none|some (y9,y10,y11,_)=>match H3 (y9,y5,y8,y11,y10,())with|none=>none|some (y12,y13,y14,_)=>match(ieq y13 0)with
   |true=>some (y12,y14,1,())
   |false=>match(ieq y13 12)with
   |true=>some (y12,y14,2,())
   |false=>some (y12,y14,0,())
  |false=>match H3 (a0,(IntKind.wrap .i64 (a1+(IntKind.wrap .i64 (x0*1)))),(IntKind.wrap .i64 (a1+(IntKind.wrap .i64 (x1*2)))),(IntKind.wrap .i64 (a1+(IntKind.wrap .i64 (x2*3)))),0,())with|none=>none|some (y15,y16,y17,_)=>match(ieq y16 0)with
  |true=>some (y15,y17,1,())
  |false=>match(ieq y16 12)with
  |true=>some (y15,y17,2,())
  |false=>some (y15,y17,0,())
 |false=>match(ieq 0 0)with
 |true=>some (a0,(IntKind.wrap .i64 (a1+(IntKind.wrap .i64 (x1*2)))),1,())
 |false=>match(ieq 0 12)with
 |true=>some (a0,(IntKind.wrap .i64 (a1+(IntKind.wrap .i64 (x1*2)))),2,())
 |false=>some (a0,(IntKind.wrap .i64 (a1+(IntKind.wrap .i64 (x1*2)))),0,())
def Nf[Lk]:=fun v=>Lk.f (Le v)
theorem XW v:Nf v=Le v:=AJ _
abbrev AG7:AE:=[(.tmp 0,.own 3 U0),(.tmp 1,.di),(.tmp 2,.di)]
abbrev AG6:AE:=[(.obj 0,.own 3 U0)]
abbrev AG5:List RS:=[]
abbrev AKM:AE:=[(.obj 0,.own 3 U0),(.tmp 0,.own' 0),(.tmp 6,.di),(.tmp 7,.di)]
abbrev AKL:A2:=[(.exit 0,[(.obj 0,.own 3 U0)])]
def Lb[Lk]:Ue→Option (Ue⊕U9⊕Unit):=fun(a0,a1,a2,_)=>
 match(ilt a1 a2)with
 |true=>match idx a0 a2 with|none=>none|some x0=>match idx a0 a1 with|none=>none|some x1=>match idx a0 a1 with|none=>none|some x2=>match idx (Aj a0 (AF a1) (AN a0 (AF a2) 0)) a2 with|none=>none|some x3=>some (.inl ((Aj (Aj a0 (AF a1) (AN a0 (AF a2) 0)) (AF a2) (AN a0 (AF a1) 0)),(IntKind.wrap .i64 (a1+1)),(IntKind.wrap .i64 (a2-1)),()))
 |false=>some (.inr (.inl (a0,())))
def ZM[Lk]:Ue→Option (U9):=fun(a0,a1,a2,_)=>
 match AZ Lb many (a0,a1,(IntKind.wrap .i64 (a2-1)),())with|none=>none|some r=>match r with
 |.inl (o0,_)=>some (o0,())
 |.inr _=>none
def AL4[Lk]:=fun v=>Lk.f (ZM v)
theorem AKN v:AL4 v=ZM v:=AJ _
abbrev Kg:AE:=[(.tmp 0,.own 3 U0),(.tmp 1,.di),(.tmp 2,.di)]
abbrev Kf:AE:=[(.obj 0,.own 3 U0),(.tmp 0,.dat .bool)]
abbrev Ke:List RS:=[.one]
abbrev Pk:AE:=[(.obj 0,.own 3 U0),(.tmp 0,.own' 0),(.tmp 1,.di),(.tmp 2,.di),(.tmp 7,.di),(.tmp 8,.di),(.tmp 10,.di)]
abbrev Pf:A2:=[(.exit 6,[(.obj 0,.own 3 U0),(.tmp 0,.own' 0),(.tmp 1,.di),(.tmp 2,.di),(.tmp 7,.di),(.tmp 8,.di)])]
def Dp[Lk]:Um→Option (Um⊕Ud⊕Unit):=fun(a0,a1,a2,a3,a4,a5,_)=>
 match(ilt a5 a2)with
 |true=>match idx a0 a5 with|none=>none|some x0=>match idx a0 (IntKind.wrap .i64 (a5-1))with|none=>none|some x1=>match DQ ((AN a0 (AF a5) 0),(AN a0 (AF (IntKind.wrap .i64 (a5-1))) 0),())with|none=>none|some (y2,_)=>match(!y2)with
  |true=>some (.inr (.inl (a0,a1,a2,a3,a4,())))
  |false=>match idx a0 (IntKind.wrap .i64 (a5-1))with|none=>none|some x3=>match idx a0 a5 with|none=>none|some x4=>match idx a0 a5 with|none=>none|some x5=>match idx (Aj a0 (AF a5) (AN a0 (AF (IntKind.wrap .i64 (a5-1))) 0)) (IntKind.wrap .i64 (a5-1))with|none=>none|some x6=>some (.inl ((Aj (Aj a0 (AF a5) (AN a0 (AF (IntKind.wrap .i64 (a5-1))) 0)) (AF (IntKind.wrap .i64 (a5-1))) (AN a0 (AF a5) 0)),a1,a2,a3,a4,(IntKind.wrap .i64 (a5+1)),()))
 |false=>some (.inr (.inl (a0,a1,a2,a3,a4,())))
abbrev Pm:AE:=[(.obj 0,.own 3 U0),(.tmp 0,.own' 0),(.tmp 1,.di),(.tmp 2,.di),(.tmp 7,.di),(.tmp 8,.di),(.tmp 9,.di)]
abbrev Pg:A2:=[(.exit 4,[(.obj 0,.own 3 U0),(.tmp 0,.own' 0),(.tmp 1,.di),(.tmp 2,.di),(.tmp 7,.di),(.tmp 8,.di)])]
def Dq[Lk]:Um→Option (Um⊕Ud⊕Unit):=fun(a0,a1,a2,a3,a4,a5,_)=>
 match(ile 1 a5)with
 |true=>match idx a0 a5 with|none=>none|some x0=>match idx a0 (IntKind.wrap .i64 (a5-1))with|none=>none|some x1=>match DQ ((AN a0 (AF a5) 0),(AN a0 (AF (IntKind.wrap .i64 (a5-1))) 0),())with|none=>none|some (y2,_)=>match(!y2)with
  |true=>some (.inr (.inl (a0,a1,a2,a3,a4,())))
  |false=>match idx a0 (IntKind.wrap .i64 (a5-1))with|none=>none|some x3=>match idx a0 a5 with|none=>none|some x4=>match idx a0 a5 with|none=>none|some x5=>match idx (Aj a0 (AF a5) (AN a0 (AF (IntKind.wrap .i64 (a5-1))) 0)) (IntKind.wrap .i64 (a5-1))with|none=>none|some x6=>some (.inl ((Aj (Aj a0 (AF a5) (AN a0 (AF (IntKind.wrap .i64 (a5-1))) 0)) (AF (IntKind.wrap .i64 (a5-1))) (AN a0 (AF a5) 0)),a1,a2,a3,a4,(IntKind.wrap .i64 (a5-1)),()))
 |false=>some (.inr (.inl (a0,a1,a2,a3,a4,())))
abbrev Pn:AE:=[(.obj 0,.own 3 U0),(.tmp 0,.own' 0),(.tmp 1,.di),(.tmp 2,.di),(.tmp 7,.di),(.tmp 8,.di)]
abbrev Ph:A2:=[(.exit 2,[(.obj 0,.own 3 U0),(.tmp 0,.own' 0),(.tmp 1,.di),(.tmp 2,.di),(.tmp 7,.di),(.tmp 8,.di)])]
def E6[Lk]:Ud→Option (Ud⊕Ud⊕Unit):=fun(a0,a1,a2,a3,a4,_)=>
 match(ilt a3 a2)with
 |true=>match idx a0 a3 with|none=>none|some x0=>match idx a0 (IntKind.wrap .i64 (a3-1))with|none=>none|some x1=>match DQ ((AN a0 (AF a3) 0),(AN a0 (AF (IntKind.wrap .i64 (a3-1))) 0),())with|none=>none|some (y2,_)=>match(!y2)with
  |true=>some (.inl (a0,a1,a2,(IntKind.wrap .i64 (a3+1)),a4,()))
  |false=>some (.inr (.inl (a0,a1,a2,a3,a4,())))
 |false=>some (.inr (.inl (a0,a1,a2,a3,a4,())))
abbrev Po:AE:=[(.obj 0,.own 3 U0),(.tmp 0,.own' 0),(.tmp 1,.di),(.tmp 2,.di),(.tmp 7,.di),(.tmp 8,.di)]
abbrev Pj:A2:=[(.ret,[(.obj 0,.own 3 U0),(.tmp 6,.dat .bool)]),(.exit 0,[(.obj 0,.own 3 U0)])]
def B1[Lk]:Ud→Option (Ud⊕(List Int×Bool×Unit)⊕U9⊕Unit):=fun(a0,a1,a2,a3,a4,_)=>
 match(ilt a4 5)with
 |true=>match AZ E6 many (a0,a1,a2,a3,a4,())with|none=>none|some r=>match r with
  |.inl (o0,o1,o2,o3,o4,_)=>match(ieq o3 o2)with
   |true=>some (.inr (.inl (o0,true,())))
   |false=>match(ilt (IntKind.wrap .i64 (o2-o1)) 50)with
   |true=>some (.inr (.inl (o0,false,())))
   |false=>match idx o0 (IntKind.wrap .i64 (o3-1))with|none=>none|some x5=>match idx o0 o3 with|none=>none|some x6=>match idx o0 o3 with|none=>none|some x7=>match idx (Aj o0 (AF o3) (AN o0 (AF (IntKind.wrap .i64 (o3-1))) 0)) (IntKind.wrap .i64 (o3-1))with|none=>none|some x8=>match(ile 2 (IntKind.wrap .i64 (o3-o1)))with
   |true=>match AZ Dq many ((Aj (Aj o0 (AF o3) (AN o0 (AF (IntKind.wrap .i64 (o3-1))) 0)) (AF (IntKind.wrap .i64 (o3-1))) (AN o0 (AF o3) 0)),o1,o2,o3,o4,(IntKind.wrap .i64 (o3-1)),())with|none=>none|some r=>match r with
    |.inl (o9,o10,o11,o12,o13,_)=>match(ile 2 (IntKind.wrap .i64 (o11-o12)))with
     |true=>match AZ Dp many (o9,o10,o11,o12,o13,(IntKind.wrap .i64 (o12+1)),())with|none=>none|some r=>match r with
      |.inl (o14,o15,o16,o17,o18,_)=>some (.inl (o14,o15,o16,o17,(IntKind.wrap .i64 (o18+1)),()))
      |.inr _=>none
     |false=>some (.inl (o9,o10,o11,o12,(IntKind.wrap .i64 (o13+1)),()))
    |.inr _=>none
   |false=>match(ile 2 (IntKind.wrap .i64 (o2-o3)))with
   |true=>match AZ Dp many ((Aj (Aj o0 (AF o3) (AN o0 (AF (IntKind.wrap .i64 (o3-1))) 0)) (AF (IntKind.wrap .i64 (o3-1))) (AN o0 (AF o3) 0)),o1,o2,o3,o4,(IntKind.wrap .i64 (o3+1)),())with|none=>none|some r=>match r with
    |.inl (o19,o20,o21,o22,o23,_)=>some (.inl (o19,o20,o21,o22,(IntKind.wrap .i64 (o23+1)),()))
    |.inr _=>none
   |false=>some (.inl ((Aj (Aj o0 (AF o3) (AN o0 (AF (IntKind.wrap .i64 (o3-1))) 0)) (AF (IntKind.wrap .i64 (o3-1))) (AN o0 (AF o3) 0)),o1,o2,o3,(IntKind.wrap .i64 (o4+1)),()))
  |.inr _=>none
 |false=>some (.inr (.inr (.inl (a0,()))))
def Hq[Lk]:Ue→Option ((List Int×Bool×Unit)):=fun(a0,a1,a2,_)=>
 match AZ B1 many (a0,a1,a2,(IntKind.wrap .i64 (a1+1)),0,())with|none=>none|some r=>match r with
 |.inl (o0,o1,_)=>some (o0,o1,())
 |.inr r=>match r with
 |.inl (o2,_)=>some (o2,false,())
 |.inr _=>none
def HR[Lk]:=fun v=>Lk.f (Hq v)
theorem Pp v:HR v=Hq v:=AJ _
abbrev No:AE:=[(.tmp 0,.own 3 U0),(.tmp 1,.di),(.tmp 2,.di),(.tmp 3,.di)]
abbrev Nn:AE:=[(.obj 0,.own 3 U0),(.tmp 0,.di)]
abbrev Nm:List RS:=[.one]
abbrev TB:AE:=[(.obj 0,.own 3 U0),(.tmp 0,.own' 0),(.tmp 1,.di),(.tmp 9,.di),(.tmp 10,.di)]
abbrev S8:A2:=[(.exit 4,[(.obj 0,.own 3 U0),(.tmp 0,.own' 0),(.tmp 1,.di),(.tmp 9,.di),(.tmp 10,.di)])]
def GD[Lk]:U4→Option Uz:=fun(a0,a1,a2,a3,_)=>
 match(ile a2 a3)with
 |true=>match idx a0 a1 with|none=>none|some x0=>match idx a0 a3 with|none=>none|some x1=>match DQ ((AN a0 (AF a1) 0),(AN a0 (AF a3) 0),())with|none=>none|some (y2,_)=>match y2 with
  |true=>some (.inl (a0,a1,a2,(IntKind.wrap .i64 (a3-1)),()))
  |false=>some (.inr (.inl (a0,a1,a2,a3,())))
 |false=>some (.inr (.inl (a0,a1,a2,a3,())))
abbrev TC:AE:=[(.obj 0,.own 3 U0),(.tmp 0,.own' 0),(.tmp 1,.di),(.tmp 9,.di),(.tmp 10,.di)]
abbrev S9:A2:=[(.exit 2,[(.obj 0,.own 3 U0),(.tmp 0,.own' 0),(.tmp 1,.di),(.tmp 9,.di),(.tmp 10,.di)])]
def GF[Lk]:U4→Option Uz:=fun(a0,a1,a2,a3,_)=>
 match(ile a2 a3)with
 |true=>match idx a0 a1 with|none=>none|some x0=>match idx a0 a2 with|none=>none|some x1=>match DQ ((AN a0 (AF a1) 0),(AN a0 (AF a2) 0),())with|none=>none|some (y2,_)=>match(!y2)with
  |true=>some (.inl (a0,a1,(IntKind.wrap .i64 (a2+1)),a3,()))
  |false=>some (.inr (.inl (a0,a1,a2,a3,())))
 |false=>some (.inr (.inl (a0,a1,a2,a3,())))
abbrev TD:AE:=[(.obj 0,.own 3 U0),(.tmp 0,.own' 0),(.tmp 1,.di),(.tmp 9,.di),(.tmp 10,.di)]
abbrev TA:A2:=[(.exit 0,[(.obj 0,.own 3 U0),(.tmp 9,.di)])]
def GG[Lk]:U4→Option (U4⊕Us⊕Unit):=fun(a0,a1,a2,a3,_)=>
 match AZ GF many (a0,a1,a2,a3,())with|none=>none|some r=>match r with
 |.inl (o0,o1,o2,o3,_)=>match AZ GD many (o0,o1,o2,o3,())with|none=>none|some r=>match r with
  |.inl (o4,o5,o6,o7,_)=>match(ilt o7 o6)with
   |true=>some (.inr (.inl (o4,o6,())))
   |false=>match idx o4 o7 with|none=>none|some x8=>match idx o4 o6 with|none=>none|some x9=>match idx o4 o6 with|none=>none|some x10=>match idx (Aj o4 (AF o6) (AN o4 (AF o7) 0)) o7 with|none=>none|some x11=>some (.inl ((Aj (Aj o4 (AF o6) (AN o4 (AF o7) 0)) (AF o7) (AN o4 (AF o6) 0)),o5,(IntKind.wrap .i64 (o6+1)),(IntKind.wrap .i64 (o7-1)),()))
  |.inr _=>none
 |.inr _=>none
def Jh[Lk]:U4→Option (Us):=fun(a0,a1,a2,a3,_)=>
 match idx a0 a3 with|none=>none|some x0=>match idx a0 a1 with|none=>none|some x1=>match idx a0 a1 with|none=>none|some x2=>match idx (Aj a0 (AF a1) (AN a0 (AF a3) 0)) a3 with|none=>none|some x3=>match AZ GG many ((Aj (Aj a0 (AF a1) (AN a0 (AF a3) 0)) (AF a3) (AN a0 (AF a1) 0)),a1,(IntKind.wrap .i64 (a1+1)),(IntKind.wrap .i64 (a2-1)),())with|none=>none|some r=>match r with
 |.inl (o4,o5,_)=>some (o4,o5,())
 |.inr _=>none
def Ji[Lk]:=fun v=>Lk.f (Jh v)
theorem TE v:Ji v=Jh v:=AJ _
abbrev Zp:AE:=[(.tmp 0,.own 3 U0),(.tmp 1,.di),(.tmp 2,.di),(.tmp 3,.di)]
abbrev Zo:AE:=[(.obj 0,.own 3 U0),(.tmp 0,.di),(.tmp 1,.dat .bool)]
abbrev Zn:List RS:=[.one,.one]
abbrev AD9:AE:=[(.obj 0,.own 3 U0),(.tmp 0,.own' 0),(.tmp 1,.di),(.tmp 10,.di),(.tmp 11,.di)]
abbrev AD4:A2:=[(.exit 8,[(.obj 0,.own 3 U0),(.tmp 0,.own' 0),(.tmp 1,.di),(.tmp 10,.di),(.tmp 11,.di)])]
def Iu[Lk]:U4→Option Uz:=fun(a0,a1,a2,a3,_)=>
 match(ile a2 a3)with
 |true=>match idx a0 a3 with|none=>none|some x0=>match idx a0 a1 with|none=>none|some x1=>match DQ ((AN a0 (AF a3) 0),(AN a0 (AF a1) 0),())with|none=>none|some (y2,_)=>match(!y2)with
  |true=>some (.inl (a0,a1,a2,(IntKind.wrap .i64 (a3-1)),()))
  |false=>some (.inr (.inl (a0,a1,a2,a3,())))
 |false=>some (.inr (.inl (a0,a1,a2,a3,())))
abbrev AEA:AE:=[(.obj 0,.own 3 U0),(.tmp 0,.own' 0),(.tmp 1,.di),(.tmp 10,.di),(.tmp 11,.di)]
abbrev AD5:A2:=[(.exit 6,[(.obj 0,.own 3 U0),(.tmp 0,.own' 0),(.tmp 1,.di),(.tmp 10,.di),(.tmp 11,.di)])]
def Iv[Lk]:U4→Option Uz:=fun(a0,a1,a2,a3,_)=>
 match(ile a2 a3)with
 |true=>match idx a0 a2 with|none=>none|some x0=>match idx a0 a1 with|none=>none|some x1=>match DQ ((AN a0 (AF a2) 0),(AN a0 (AF a1) 0),())with|none=>none|some (y2,_)=>match y2 with
  |true=>some (.inl (a0,a1,(IntKind.wrap .i64 (a2+1)),a3,()))
  |false=>some (.inr (.inl (a0,a1,a2,a3,())))
 |false=>some (.inr (.inl (a0,a1,a2,a3,())))
abbrev AEB:AE:=[(.obj 0,.own 3 U0),(.tmp 0,.own' 0),(.tmp 1,.di),(.tmp 10,.di),(.tmp 11,.di)]
abbrev AD6:A2:=[(.exit 4,[(.obj 0,.own 3 U0),(.tmp 0,.own' 0),(.tmp 1,.di),(.tmp 11,.di)])]
def Iw[Lk]:U4→Option (U4⊕Ue⊕Unit):=fun(a0,a1,a2,a3,_)=>
 match AZ Iv many (a0,a1,a2,a3,())with|none=>none|some r=>match r with
 |.inl (o0,o1,o2,o3,_)=>match AZ Iu many (o0,o1,o2,o3,())with|none=>none|some r=>match r with
  |.inl (o4,o5,o6,o7,_)=>match(ilt o7 o6)with
   |true=>some (.inr (.inl (o4,o5,o7,())))
   |false=>match idx o4 o7 with|none=>none|some x8=>match idx o4 o6 with|none=>none|some x9=>match idx o4 o6 with|none=>none|some x10=>match idx (Aj o4 (AF o6) (AN o4 (AF o7) 0)) o7 with|none=>none|some x11=>some (.inl ((Aj (Aj o4 (AF o6) (AN o4 (AF o7) 0)) (AF o7) (AN o4 (AF o6) 0)),o5,(IntKind.wrap .i64 (o6+1)),(IntKind.wrap .i64 (o7-1)),()))
  |.inr _=>none
 |.inr _=>none
abbrev AEC:AE:=[(.obj 0,.own 3 U0),(.tmp 0,.own' 0),(.tmp 1,.di),(.tmp 10,.di),(.tmp 11,.di)]
abbrev AD7:A2:=[(.exit 2,[(.obj 0,.own 3 U0),(.tmp 0,.own' 0),(.tmp 1,.di),(.tmp 10,.di),(.tmp 11,.di)])]
def Ix[Lk]:U4→Option Uz:=fun(a0,a1,a2,a3,_)=>
 match(ile a2 a3)with
 |true=>match idx a0 a3 with|none=>none|some x0=>match idx a0 a1 with|none=>none|some x1=>match DQ ((AN a0 (AF a3) 0),(AN a0 (AF a1) 0),())with|none=>none|some (y2,_)=>match(!y2)with
  |true=>some (.inl (a0,a1,a2,(IntKind.wrap .i64 (a3-1)),()))
  |false=>some (.inr (.inl (a0,a1,a2,a3,())))
 |false=>some (.inr (.inl (a0,a1,a2,a3,())))
abbrev AED:AE:=[(.obj 0,.own 3 U0),(.tmp 0,.own' 0),(.tmp 1,.di),(.tmp 10,.di),(.tmp 11,.di)]
abbrev AD8:A2:=[(.exit 0,[(.obj 0,.own 3 U0),(.tmp 0,.own' 0),(.tmp 1,.di),(.tmp 10,.di),(.tmp 11,.di)])]
def Iy[Lk]:U4→Option Uz:=fun(a0,a1,a2,a3,_)=>
 match(ile a2 a3)with
 |true=>match idx a0 a2 with|none=>none|some x0=>match idx a0 a1 with|none=>none|some x1=>match DQ ((AN a0 (AF a2) 0),(AN a0 (AF a1) 0),())with|none=>none|some (y2,_)=>match y2 with
  |true=>some (.inl (a0,a1,(IntKind.wrap .i64 (a2+1)),a3,()))
  |false=>some (.inr (.inl (a0,a1,a2,a3,())))
 |false=>some (.inr (.inl (a0,a1,a2,a3,())))
def Q5[Lk]:U4→Option ((List Int×Int×Bool×Unit)):=fun(a0,a1,a2,a3,_)=>
 match idx a0 a3 with|none=>none|some x0=>match idx a0 a1 with|none=>none|some x1=>match idx a0 a1 with|none=>none|some x2=>match idx (Aj a0 (AF a1) (AN a0 (AF a3) 0)) a3 with|none=>none|some x3=>match AZ Iy many ((Aj (Aj a0 (AF a1) (AN a0 (AF a3) 0)) (AF a3) (AN a0 (AF a1) 0)),a1,(IntKind.wrap .i64 (a1+1)),(IntKind.wrap .i64 (a2-1)),())with|none=>none|some r=>match r with
 |.inl (o4,o5,o6,o7,_)=>match AZ Ix many (o4,o5,o6,o7,())with|none=>none|some r=>match r with
  |.inl (o8,o9,o10,o11,_)=>match(ilt o11 o10)with
   |true=>match idx o8 o9 with|none=>none|some x12=>match idx o8 o11 with|none=>none|some x13=>match idx o8 o11 with|none=>none|some x14=>match idx (Aj o8 (AF o11) (AN o8 (AF o9) 0)) o9 with|none=>none|some x15=>some ((Aj (Aj o8 (AF o11) (AN o8 (AF o9) 0)) (AF o9) (AN o8 (AF o11) 0)),o11,true,())
   |false=>match idx o8 o11 with|none=>none|some x16=>match idx o8 o10 with|none=>none|some x17=>match idx o8 o10 with|none=>none|some x18=>match idx (Aj o8 (AF o10) (AN o8 (AF o11) 0)) o11 with|none=>none|some x19=>match AZ Iw many ((Aj (Aj o8 (AF o10) (AN o8 (AF o11) 0)) (AF o11) (AN o8 (AF o10) 0)),o9,(IntKind.wrap .i64 (o10+1)),(IntKind.wrap .i64 (o11-1)),())with|none=>none|some r=>match r with
   |.inl (o20,o21,o22,_)=>match idx o20 o21 with|none=>none|some x23=>match idx o20 o22 with|none=>none|some x24=>match idx o20 o22 with|none=>none|some x25=>match idx (Aj o20 (AF o22) (AN o20 (AF o21) 0)) o21 with|none=>none|some x26=>some ((Aj (Aj o20 (AF o22) (AN o20 (AF o21) 0)) (AF o21) (AN o20 (AF o22) 0)),o22,false,())
   |.inr _=>none
  |.inr _=>none
 |.inr _=>none
def Ll[Lk]:=fun v=>Lk.f (Q5 v)
theorem AEE v:Ll v=Q5 v:=AJ _
abbrev Sm:AE:=[(.tmp 0,.own 3 U0),(.tmp 1,.di),(.tmp 2,.di),(.tmp 3,.di)]
abbrev Sl:AE:=[(.obj 0,.own 3 U0)]
abbrev Sk:List RS:=[]
abbrev AKT:AE:=[(.obj 0,.own 3 U0),(.tmp 0,.own' 0),(.tmp 1,.di),(.tmp 2,.di),(.tmp 3,.di),(.tmp 8,.dat .bool),(.tmp 9,.dat .bool)]
abbrev AKS:A2:=[(.ret,[(.obj 0,.own 3 U0)])]
def ZZ[Lk](self:U4→Option (U9))(y7:List Int)(a1 a2 p l:Int)(a4 a5:Bool):Option (Up⊕U9⊕Unit):=
 match(ilt 0 a1)with
 |true=>match idx y7 (IntKind.wrap .i64 (a1-1))with|none=>none|some x9=>match idx y7 p with|none=>none|some x10=>match DQ ((AN y7 (AF (IntKind.wrap .i64 (a1-1))) 0),(AN y7 (AF p) 0),())with|none=>none|some (y11,_)=>match(!y11)with
  |true=>match Ji (y7,a1,a2,p,())with|none=>none|some (y12,y13,_)=>some (.inl (y12,y13,a2,l,a4,a5,()))
  |false=>match Ll (y7,a1,a2,p,())with|none=>none|some (y14,y15,y16,_)=>match quo? .i64 (IntKind.wrap .i64 (a2-a1)) 8 with|none=>none|some x17=>match(ilt (IntKind.wrap .i64 (y15-a1)) (IntKind.wrap .i64 (a2-y15)))with
  |true=>match self (y14,a1,y15,l,())with|none=>none|some (y18,_)=>some (.inl (y18,(IntKind.wrap .i64 (y15+1)),a2,l,(ile x17 (IntKind.wrap .i64 (y15-a1))),y16,()))
  |false=>match self (y14,(IntKind.wrap .i64 (y15+1)),a2,l,())with|none=>none|some (y19,_)=>some (.inl (y19,a1,y15,l,(ile x17 (IntKind.wrap .i64 (a2-y15))),y16,()))
 |false=>match Ll (y7,a1,a2,p,())with|none=>none|some (y20,y21,y22,_)=>match quo? .i64 (IntKind.wrap .i64 (a2-a1)) 8 with|none=>none|some x23=>match(ilt (IntKind.wrap .i64 (y21-a1)) (IntKind.wrap .i64 (a2-y21)))with
 |true=>match self (y20,a1,y21,l,())with|none=>none|some (y24,_)=>some (.inl (y24,(IntKind.wrap .i64 (y21+1)),a2,l,(ile x23 (IntKind.wrap .i64 (y21-a1))),y22,()))
 |false=>match self (y20,(IntKind.wrap .i64 (y21+1)),a2,l,())with|none=>none|some (y25,_)=>some (.inl (y25,a1,y21,l,(ile x23 (IntKind.wrap .i64 (a2-y21))),y22,()))
def APb[Lk](self:U4→Option (U9))(y6:List Int)(a1 a2 p h l:Int)(a4 a5:Bool):Option (Up⊕U9⊕Unit):=
 match a4 with
 |true=>match a5 with
  |true=>match(ieq h 1)with
   |true=>match HR (y6,a1,a2,())with|none=>none|some (y7,y8,_)=>match y8 with
    |true=>some (.inr (.inl (y7,())))
    |false=>ZZ self y7 a1 a2 p l a4 a5
   |false=>ZZ self y6 a1 a2 p l a4 a5
  |false=>ZZ self y6 a1 a2 p l a4 a5
 |false=>ZZ self y6 a1 a2 p l a4 a5
def APa[Lk](self:U4→Option (U9))(y2:List Int)(a1 a2 l:Int)(a4 a5:Bool):Option (Up⊕U9⊕Unit):=
 match Nf (y2,a1,a2,())with|none=>none|some (y3,y4,y5,_)=>match(ieq y5 2)with
 |true=>match AL4 (y3,a1,a2,())with|none=>none|some (y6,_)=>APb self y6 a1 a2 (IntKind.wrap .i64 ((IntKind.wrap .i64 (a2-1))-(IntKind.wrap .i64 (y4-a1)))) 1 l a4 a5
 |false=>APb self y3 a1 a2 y4 y5 l a4 a5
def Jg[Lk](self:U4→Option (U9)):Up→Option (Up⊕U9⊕Unit):=fun(a0,a1,a2,a3,a4,a5,_)=>
 match(ile (IntKind.wrap .i64 (a2-a1)) 12)with
 |true=>match ANI (a0,a1,a2,())with|none=>none|some (y0,_)=>some (.inr (.inl (y0,())))
 |false=>match(ieq a3 0)with
 |true=>match Xv (a0,a1,a2,())with|none=>none|some (y1,_)=>some (.inr (.inl (y1,())))
 |false=>match(!a4)with
 |true=>match Oq (a0,a1,a2,())with|none=>none|some (y2,_)=>APa self y2 a1 a2 (IntKind.wrap .i64 (a3-1)) a4 a5
 |false=>APa self a0 a1 a2 a3 a4 a5
def Za[Lk](self:U4→Option (U9)):U4→Option (U9):=fun(a0,a1,a2,a3,_)=>
 match AZ (Jg self) many (a0,a1,a2,a3,true,true,())with|none=>none|some r=>match r with
 |.inl (o0,_)=>some (o0,())
 |.inr _=>none
def GC[Lk]:Nat→U4→Option (U9)
 |0,_=>none
 |n+1,v=>Za (GC n) v
def AMH[Lk]:=fun v=>Lk.f (GC 100 v)
theorem AKU v:AMH v=GC 100 v:=AJ _
abbrev Y1:AE:=[(.tmp 0,.own 3 U0)]
abbrev Y0:AE:=[(.obj 0,.own 3 U0)]
abbrev Yz:List RS:=[]
def Qy[Lk]:U9→Option (U9):=fun(a0,_)=>
 match bitsLen ((IntKind.wrap .u64 (AQ a0)),())with|none=>none|some (y0,_)=>match AMH (a0,0,(AQ a0),y0,())with|none=>none|some (y1,_)=>some (y1,())
def ACh[Lk]:=fun v=>Lk.f (Qy v)
theorem ACg v:ACh v=Qy v:=AJ _
abbrev UP:AE:=[(.tmp 0,.dat U1),(.tmp 1,.dat U1)]
abbrev UO:AE:=[(.tmp 0,.dat .bool)]
abbrev UN:List RS:=[.one]
abbrev X0:AE:=[(.tmp 0,.dat U1),(.tmp 1,.dat U1),(.tmp 12,.di),(.tmp 13,.di)]
abbrev Xz:A2:=[(.ret,[(.tmp 4,.dat .bool)]),(.exit 0,[])]
def Oc[Lk]:(List U2×List U2×Int×Int×Unit)→Option ((List U2×List U2×Int×Int×Unit)⊕Uh⊕(Unit)⊕Unit):=fun(a0,a1,a2,a3,_)=>
 match(ilt a3 a2)with
 |true=>match idx a0 a3 with|none=>none|some x0=>match idx a1 a3 with|none=>none|some x1=>match(!(ieq x0.1 x1.1&&(ieq x0.2.1 x1.2.1&&(ieq x0.2.2.1 x1.2.2.1&&((x0.2.2.2.1==x1.2.2.2.1)&&true)))))with
  |true=>some (.inr (.inl (false,())))
  |false=>some (.inl (a0,a1,a2,(IntKind.wrap .i64 (a3+1)),()))
 |false=>some (.inr (.inr (.inl ())))
def UR[Lk]:(List U2×List U2×Unit)→Option (Uh):=fun(a0,a1,_)=>
 match(!(ieq (AQ a0) (AQ a1)))with
 |true=>some (false,())
 |false=>match AZ Oc many (a0,a1,(AQ a0),0,())with|none=>none|some r=>match r with
 |.inl (o0,_)=>some (o0,())
 |.inr r=>match r with
 |.inl _=>some (true,())
 |.inr _=>none
def ABG[Lk]:=fun v=>Lk.f (UR v)
theorem ANn v:ABG v=UR v:=AJ _
abbrev AAG:AE:=[(.tmp 0,.dat Ui),(.tmp 1,.dat Ui)]
abbrev AAF:AE:=[(.tmp 0,.dat .bool)]
abbrev AAE:List RS:=[.one]
def AAH[Lk]:(Uj×Uj×Unit)→Option (Uh):=fun(a0,a1,_)=>
 match(ieq a0.1 a1.1)with
 |true=>match ABG (a0.2.1,a1.2.1,())with|none=>none|some (y0,_)=>some (y0,())
 |false=>some (false,())
def AKj[Lk]:=fun v=>Lk.f (AAH v)
theorem AQN v:AKj v=AAH v:=AJ _
abbrev AJr:AE:=[(.tmp 0,.dat U1),(.tmp 1,.dat Uw),(.tmp 2,.clo 25 [])]
abbrev AJq:AE:=[(.tmp 0,.di),(.tmp 1,.dat .bool)]
abbrev AJp:List RS:=[.one,.one]
abbrev ALG:AE:=[(.tmp 0,.dat U1),(.tmp 2,.clo 25 []),(.tmp 4,.box 4),(.cell 0 0,.di),(.cell 0 1,.di),(.cell 0 2,.di),(.cell 0 3,.dat .bool),(.tmp 8,.di),(.tmp 9,.di),(.tmp 10,.di)]
abbrev ALF:A2:=[(.exit 0,[(.tmp 0,.dat U1),(.tmp 2,.clo 25 []),(.tmp 4,.box 4),(.cell 0 0,.di),(.cell 0 1,.di),(.cell 0 2,.di),(.cell 0 3,.dat .bool),(.tmp 8,.di),(.tmp 9,.di)])]
def IC[Lk]:(List U2×Int×Int×Int×Bool×Int×Int×Int×Unit)→Option ((List U2×Int×Int×Int×Bool×Int×Int×Int×Unit)⊕(List U2×Int×Int×Int×Bool×Int×Int×Unit)⊕Unit):=fun(a0,a1,a2,a3,a4,a5,a6,a7,_)=>
 match(ilt a6 a7)with
 |true=>match shr? .u64 (IntKind.wrap .u64 (IntKind.wrap .i64 (a6+a7))) 1 with|none=>none|some x0=>match idx a0 (IntKind.wrap .i64 x0)with|none=>none|some x1=>match C1 ((x1.1,(x1.2.1,(x1.2.2.1,(x1.2.2.2.1,())))),(a1,(a2,(a3,(a4,())))),())with|none=>none|some (y2,_)=>match(ilt y2 0)with
  |true=>some (.inl (a0,a1,a2,a3,a4,a5,(IntKind.wrap .i64 ((IntKind.wrap .i64 x0)+1)),a7,()))
  |false=>some (.inl (a0,a1,a2,a3,a4,a5,a6,(IntKind.wrap .i64 x0),()))
 |false=>some (.inr (.inl (a0,a1,a2,a3,a4,a5,a6,())))
def ABk[Lk]:(List U2×U2×Unit)→Option ((Int×Bool×Unit)):=fun(a0,a1,_)=>
 match AZ IC many (a0,a1.1,a1.2.1,a1.2.2.1,a1.2.2.2.1,(AQ a0),0,(AQ a0),())with|none=>none|some r=>match r with
 |.inl (o0,o1,o2,o3,o4,o5,o6,_)=>match(ilt o6 o5)with
  |true=>match idx o0 o6 with|none=>none|some x7=>match C1 ((x7.1,(x7.2.1,(x7.2.2.1,(x7.2.2.2.1,())))),(o1,(o2,(o3,(o4,())))),())with|none=>none|some (y8,_)=>some (o6,(ieq y8 0),())
  |false=>some (o6,false,())
 |.inr _=>none
def AOF[Lk]:=fun v=>Lk.f (ABk v)
theorem ALH v:AOF v=ABk v:=AJ _
abbrev Te:AE:=[(.tmp 0,.dat Ui),(.tmp 1,.di),(.tmp 2,.di)]
abbrev Td:AE:=[(.tmp 0,.di),(.tmp 1,.dat .bool)]
abbrev Tc:List RS:=[.one,.one]
def Lw[Lk]:(Uj×Int×Int×Unit)→Option ((Int×Bool×Unit)):=fun(a0,a1,a2,_)=>
 match AOF (a0.2.1,((EW a1 a2),((imax a1 a2),(0,(false,())))),())with|none=>none|some (y0,y1,_)=>some (y0,y1,())
def AAJ[Lk]:=fun v=>Lk.f (Lw v)
theorem Xk v:AAJ v=Lw v:=AJ _
abbrev AAS:AE:=[(.tmp 0,.dat Ui),(.tmp 1,.di),(.tmp 2,.di)]
abbrev AAR:AE:=[(.tmp 0,.di)]
abbrev AAQ:List RS:=[.one]
def RD[Lk]:(Uj×Int×Int×Unit)→Option (U7):=fun(a0,a1,a2,_)=>
 match FN ((a0.1,(a0.2.1,())),())with|none=>none|some (y0,_)=>match(!y0)with
 |true=>some ((-1:Int),())
 |false=>match AAJ ((a0.1,(a0.2.1,())),a1,a2,())with|none=>none|some (y1,y2,_)=>match(!y2)with
 |true=>some ((-1:Int),())
 |false=>some (y1,())
def Ti[Lk]:=fun v=>Lk.f (RD v)
theorem AEi v:Ti v=RD v:=AJ _
abbrev AAN:AE:=[(.tmp 0,.dat Ui),(.tmp 1,.di),(.tmp 2,.di),(.tmp 3,.dat .bool)]
abbrev AAM:AE:=[(.tmp 0,.own 3 U0),(.tmp 1,.di)]
abbrev AAL:List RS:=[.one,.one]
abbrev AEf:AE:=[(.tmp 1,.di),(.tmp 2,.di),(.tmp 3,.dat .bool),(.tmp 10,.own 3 U0),(.tmp 27,.dat U1),(.tmp 28,.di),(.tmp 29,.di)]
abbrev AEe:A2:=[(.exit 1,[(.tmp 10,.own 3 U0)])]
def FD[Lk]:(Int×Int×Bool×List Int×List U2×Int×Int×Unit)→Option ((Int×Int×Bool×List Int×List U2×Int×Int×Unit)⊕U9⊕Unit):=fun(a0,a1,a2,a3,a4,a5,a6,_)=>
 match(ilt a6 a5)with
 |true=>match idx a4 a6 with|none=>none|some x0=>match(!(ieq x0.2.2.1 a1))with
  |true=>some (.inl (a0,a1,a2,a3,a4,a5,(IntKind.wrap .i64 (a6+1)),()))
  |false=>match(!(x0.2.2.2.1==a2))with
  |true=>some (.inl (a0,a1,a2,a3,a4,a5,(IntKind.wrap .i64 (a6+1)),()))
  |false=>match(ieq a0 x0.1)with
  |true=>match(fits ((AQ a3)+(AQ ([x0.2.1]:List (Int)))))with
   |true=>some (.inl (a0,a1,a2,(Bt a3 ([x0.2.1]:List (Int))),a4,a5,(IntKind.wrap .i64 (a6+1)),()))
   |false=>none
  |false=>match(ieq a0 x0.2.1)with
  |true=>match(fits ((AQ a3)+(AQ ([x0.1]:List (Int)))))with
   |true=>some (.inl (a0,a1,a2,(Bt a3 ([x0.1]:List (Int))),a4,a5,(IntKind.wrap .i64 (a6+1)),()))
   |false=>none
  |false=>some (.inl (a0,a1,a2,a3,a4,a5,(IntKind.wrap .i64 (a6+1)),()))
 |false=>some (.inr (.inl (a3,())))
def RC[Lk]:(Uj×Int×Int×Bool×Unit)→Option (Us):=fun(a0,a1,a2,a3,_)=>
 match FN ((a0.1,(a0.2.1,())),())with|none=>none|some (y0,_)=>match(!y0)with
 |true=>some (([]:List (Int)),1,())
 |false=>match(ilt a1 0)with
 |true=>some (([]:List (Int)),10,())
 |false=>match(ile a0.1 a1)with
 |true=>some (([]:List (Int)),10,())
 |false=>match AZ FD many (a1,a2,a3,([]:List (Int)),a0.2.1,(AQ a0.2.1),0,())with|none=>none|some r=>match r with
 |.inl (o1,_)=>match ACh (o1,())with|none=>none|some (y2,_)=>some (y2,0,())
 |.inr _=>none
def Pu[Lk]:=fun v=>Lk.f (RC v)
theorem AEg v:Pu v=RC v:=AJ _
end
end Go.Pev
end
section
namespace Go.Pev
noncomputable section
attribute [local irreducible] P1 K0 OS PN AT8 AT9 AUA WC AG9 ZC ACt AJb AT many IntKind.wrap AQ Aj AN Bt DR FQ AFc AF C4 EW imax AL Ab
abbrev OO:AE:=[(.tmp 0,.dat Ui)]
abbrev ON:AE:=[(.tmp 0,.own 3 U0),(.tmp 1,.own 3 U0)]
abbrev OM:List RS:=[.one,.one]
abbrev Ts:AE:=[(.tmp 2,.own 3 U0),(.tmp 3,.own 3 U0),(.tmp 4,.map Ub U0),(.tmp 35,.di),(.tmp 36,.di)]
abbrev Tq:A2:=[(.exit 2,[(.tmp 2,.own 3 U0),(.tmp 3,.own 3 U0)])]
def CX[Lk]:(List Int×List Int×List (U8×Int)×Int×Int×Unit)→Option ((List Int×List Int×List (U8×Int)×Int×Int×Unit)⊕Uu⊕Unit):=fun(a0,a1,a2,a3,a4,_)=>
 match(ilt a4 a3)with
 |true=>match(fits ((AQ a0)+(AQ ([((AL a2 (a4,(1,()))).getD 0)]:List (Int)))))with
  |true=>match(fits ((AQ a1)+(AQ ([((AL a2 (a4,(0,()))).getD 0)]:List (Int)))))with
   |true=>some (.inl ((Bt a0 ([((AL a2 (a4,(1,()))).getD 0)]:List (Int))),(Bt a1 ([((AL a2 (a4,(0,()))).getD 0)]:List (Int))),a2,a3,(IntKind.wrap .i64 (a4+1)),()))
   |false=>none
  |false=>none
 |false=>some (.inr (.inl (a0,a1,())))
abbrev Tt:AE:=[(.tmp 1,.box 2),(.cell 0 0,.di),(.cell 0 1,.dat U1),(.tmp 2,.nil U0),(.tmp 3,.nil U0),(.tmp 4,.map Ub U0),(.tmp 14,.dat U1),(.tmp 15,.di),(.tmp 16,.di)]
abbrev Tr:A2:=[(.exit 0,[(.tmp 1,.box 2),(.cell 0 0,.di),(.cell 0 1,.dat U1),(.tmp 2,.nil U0),(.tmp 3,.nil U0),(.tmp 4,.map Ub U0)])]
def C0[Lk]:(Int×List U2×List (U8×Int)×List U2×Int×Int×Unit)→Option ((Int×List U2×List (U8×Int)×List U2×Int×Int×Unit)⊕(Int×List U2×List (U8×Int)×Unit)⊕Unit):=fun(a0,a1,a2,a3,a4,a5,_)=>
 match(ilt a5 a4)with
 |true=>match idx a3 a5 with|none=>none|some x0=>match x0.2.2.2.1 with
  |true=>match(ile 0 (KZ a2 (x0.2.2.1,(1,())))&&ilt (KZ a2 (x0.2.2.1,(1,()))) (AQ (Ab a2 (x0.2.2.1,(1,())) ((AL a2 (x0.2.2.1,(1,()))).getD 0))))with
   |true=>some (.inl (a0,a1,(AH9 (Ab a2 (x0.2.2.1,(1,())) ((AL a2 (x0.2.2.1,(1,()))).getD 0)) (KZ a2 (x0.2.2.1,(1,()))) (IntKind.wrap .i64 (((AL a2 (x0.2.2.1,(1,()))).getD 0)+1))),a3,a4,(IntKind.wrap .i64 (a5+1)),()))
   |false=>none
  |false=>match(ile 0 (KZ a2 (x0.2.2.1,(0,())))&&ilt (KZ a2 (x0.2.2.1,(0,()))) (AQ (Ab a2 (x0.2.2.1,(0,())) ((AL a2 (x0.2.2.1,(0,()))).getD 0))))with
  |true=>some (.inl (a0,a1,(AH9 (Ab a2 (x0.2.2.1,(0,())) ((AL a2 (x0.2.2.1,(0,()))).getD 0)) (KZ a2 (x0.2.2.1,(0,()))) (IntKind.wrap .i64 (((AL a2 (x0.2.2.1,(0,()))).getD 0)+1))),a3,a4,(IntKind.wrap .i64 (a5+1)),()))
  |false=>none
 |false=>some (.inr (.inl (a0,a1,a2,())))
def Jx[Lk]:(Uj×Unit)→Option (Uu):=fun(a0,_)=>
 match FN ((a0.1,(a0.2.1,())),())with|none=>none|some (y0,_)=>match(!y0)with
 |true=>some (([]:List (Int)),([]:List (Int)),())
 |false=>match AZ C0 many (a0.1,a0.2.1,([]:List (U8×Int)),a0.2.1,(AQ a0.2.1),0,())with|none=>none|some r=>match r with
 |.inl (o1,o2,o3,_)=>match TU (o1,())with|none=>none|some (y4,_)=>match AZ CX many (([]:List (Int)),([]:List (Int)),o3,(IntKind.wrap .i64 (y4+1)),0,())with|none=>none|some r=>match r with
  |.inl (o5,o6,_)=>some (o5,o6,())
  |.inr _=>none
 |.inr _=>none
def Jy[Lk]:=fun v=>Lk.f (Jx v)
theorem Tu v:Jy v=Jx v:=AJ _
abbrev Oy:AE:=[]
abbrev Ox:AE:=[(.tmp 0,.dat .bool)]
abbrev Ow:List RS:=[.one]
def Oz[Lk]:(Unit)→Option (Uh):=fun _=>
 match Jw ((4,(([(0,(1,(1,(true,())))),(0,(2,(0,(false,())))),(1,(2,(0,(true,()))))]:List U2),())),1,())with|none=>none|some (y0,y1,_)=>match Pu ((4,(([(0,(1,(1,(true,())))),(0,(2,(0,(false,())))),(1,(2,(0,(true,()))))]:List U2),())),2,0,false,())with|none=>none|some (y2,y3,_)=>match Jy ((4,(([(0,(1,(1,(true,())))),(0,(2,(0,(false,())))),(1,(2,(0,(true,()))))]:List U2),())),())with|none=>none|some (y4,y5,_)=>match Pu ((4,(([(0,(1,(1,(true,())))),(0,(2,(0,(false,())))),(1,(2,(0,(true,()))))]:List U2),())),4,0,true,())with|none=>none|some (y6,y7,_)=>match Jw ((0,(([]:List U2),())),0,())with|none=>none|some (y8,y9,_)=>match(ieq y1 0)with
 |true=>match(ieq y3 0)with
  |true=>match(ieq y7 10)with
   |true=>match(ieq y9 1)with
    |true=>match(ieq (AQ y0.2.1) 3)with
     |true=>match OR (y2,([0]:List (Int)),())with|none=>none|some (y10,_)=>match y10 with
      |true=>match OR (y4,([1,1,0]:List (Int)),())with|none=>none|some (y11,_)=>match y11 with
       |true=>match OR (y5,([1,0,0]:List (Int)),())with|none=>none|some (y12,_)=>match y12 with
        |true=>match Ti ((4,(([(0,(1,(1,(true,())))),(0,(2,(0,(false,())))),(1,(2,(0,(true,()))))]:List U2),())),2,1,())with|none=>none|some (y13,_)=>match(ieq y13 2)with
         |true=>match Ti ((4,(([(0,(1,(1,(true,())))),(0,(2,(0,(false,())))),(1,(2,(0,(true,()))))]:List U2),())),0,3,())with|none=>none|some (y14,_)=>match(ieq y14 (-1:Int))with
          |true=>match FN ((4,(([(0,(1,(1,(true,())))),(0,(2,(0,(false,())))),(1,(2,(0,(true,()))))]:List U2),())),())with|none=>none|some (y15,_)=>match y15 with
           |true=>match TU (5,())with|none=>none|some (y16,_)=>match(ieq y16 3)with
            |true=>match AAi ((4,(([(0,(1,(1,(true,())))),(0,(2,(0,(false,())))),(1,(2,(0,(true,()))))]:List U2),())),())with|none=>none|some (y17,_)=>match(ieq (AQ y17) 3)with
             |true=>match AKj ((4,(([(0,(1,(1,(true,())))),(0,(2,(0,(false,())))),(1,(2,(0,(true,()))))]:List U2),())),(4,(([(0,(1,(1,(true,())))),(0,(2,(0,(false,())))),(1,(2,(0,(true,()))))]:List U2),())),())with|none=>none|some (y18,_)=>some (y18,())
             |false=>some (false,())
            |false=>some (false,())
           |false=>some (false,())
          |false=>some (false,())
         |false=>some (false,())
        |false=>some (false,())
       |false=>some (false,())
      |false=>some (false,())
     |false=>some (false,())
    |false=>some (false,())
   |false=>some (false,())
  |false=>some (false,())
 |false=>some (false,())
def G5[Lk]:=fun v=>Lk.f (Oz v)
theorem AJv v:G5 v=Oz v:=AJ _
abbrev OY:AE:=[(.tmp 0,.dat Ui)]
abbrev OX:AE:=[(.tmp 0,.dat .bool)]
abbrev OW:List RS:=[.one]
def J1[Lk]:(Uj×Unit)→Option (Uh):=fun(a0,_)=>
 match(ilt 40 (AQ a0.2.1))with
 |true=>some (true,())
 |false=>some ((ilt 16 a0.1),())
def J2[Lk]:=fun v=>Lk.f (J1 v)
theorem UC v:J2 v=J1 v:=AJ _
abbrev JB:AE:=[(.tmp 0,.dat Ui)]
abbrev JA:AE:=[(.tmp 0,.dat .bool)]
abbrev I9:List RS:=[.one]
abbrev L4:AE:=[(.tmp 1,.box 2),(.cell 0 0,.di),(.cell 0 1,.dat U1),(.tmp 3,.di),(.tmp 4,.own 3 U0),(.tmp 5,.own 3 U0),(.tmp 6,.di),(.tmp 7,.di),(.tmp 8,.di),(.tmp 9,.di),(.tmp 10,.own 3 U0),(.tmp 12,.di)]
abbrev Lx:A2:=[(.ret,[(.tmp 2,.dat .bool)]),(.exit 6,[(.tmp 1,.box 2),(.cell 0 0,.di),(.cell 0 1,.dat U1),(.tmp 3,.di),(.tmp 4,.own 3 U0),(.tmp 5,.own 3 U0),(.tmp 6,.di),(.tmp 7,.di),(.tmp 8,.di),(.tmp 9,.di),(.tmp 10,.own 3 U0)])]
def B4[Lk]:Uv→Option (Uv⊕Uh⊕(Int×List U2×Int×List Int×List Int×Int×Int×Int×Int×List Int×Unit)⊕Unit):=fun(a0,a1,a2,a3,a4,a5,a6,a7,a8,a9,a10,_)=>
 match(ilt a10 (AQ a9))with
 |true=>match idx a9 a10 with|none=>none|some x0=>match Ti ((a0,(a1,())),a7,(AN a9 (AF a10) 0),())with|none=>none|some (y1,_)=>match(ilt y1 0)with
  |true=>some (.inr (.inl (false,())))
  |false=>match(ile (AQ a1) y1)with
  |true=>some (.inr (.inl (false,())))
  |false=>match idx a1 y1 with|none=>none|some x2=>match(!(ieq x2.2.2.1 a6))with
  |true=>some (.inr (.inl (false,())))
  |false=>match idx a1 y1 with|none=>none|some x3=>match(!(x3.2.2.2.1==(ieq a8 0)))with
  |true=>some (.inr (.inl (false,())))
  |false=>match(ilt 0 a10)with
  |true=>match idx a9 (IntKind.wrap .i64 (a10-1))with|none=>none|some x4=>match idx a9 a10 with|none=>none|some x5=>match(ile (AN a9 (AF a10) 0) (AN a9 (AF (IntKind.wrap .i64 (a10-1))) 0))with
   |true=>some (.inr (.inl (false,())))
   |false=>some (.inl (a0,a1,a2,a3,a4,a5,a6,a7,a8,a9,(IntKind.wrap .i64 (a10+1)),()))
  |false=>some (.inl (a0,a1,a2,a3,a4,a5,a6,a7,a8,a9,(IntKind.wrap .i64 (a10+1)),()))
 |false=>some (.inr (.inr (.inl (a0,a1,a2,a3,a4,a5,a6,a7,a8,a9,()))))
abbrev L5:AE:=[(.tmp 1,.box 2),(.cell 0 0,.di),(.cell 0 1,.dat U1),(.tmp 3,.di),(.tmp 4,.own 3 U0),(.tmp 5,.own 3 U0),(.tmp 6,.di),(.tmp 7,.di),(.tmp 8,.di),(.tmp 9,.di)]
abbrev Ly:A2:=[(.ret,[(.tmp 2,.dat .bool)]),(.exit 4,[(.tmp 1,.box 2),(.cell 0 0,.di),(.cell 0 1,.dat U1),(.tmp 3,.di),(.tmp 4,.own 3 U0),(.tmp 5,.own 3 U0),(.tmp 6,.di),(.tmp 7,.di),(.tmp 8,.di)])]
def Bc[Lk]:V4→Option (V4⊕Uh⊕Ur⊕Unit):=fun(a0,a1,a2,a3,a4,a5,a6,a7,a8,_)=>
 match(ilt a8 2)with
 |true=>match Pu ((a0,(a1,())),a7,a6,(ieq a8 0),())with|none=>none|some (y0,y1,_)=>match(!(ieq y1 0))with
  |true=>some (.inr (.inl (false,())))
  |false=>match AZ B4 many (a0,a1,a2,a3,a4,a5,a6,a7,a8,y0,0,())with|none=>none|some r=>match r with
  |.inl (o2,_)=>some (.inr (.inl (o2,())))
  |.inr r=>match r with
  |.inl (o3,o4,o5,o6,o7,o8,o9,o10,o11,o12,_)=>some (.inl (o3,o4,(IntKind.wrap .i64 (o5+(AQ o12))),o6,o7,o8,o9,o10,(IntKind.wrap .i64 (o11+1)),()))
  |.inr _=>none
 |false=>some (.inr (.inr (.inl (a0,a1,a2,a3,a4,a5,a6,a7,()))))
abbrev L6:AE:=[(.tmp 1,.box 2),(.cell 0 0,.di),(.cell 0 1,.dat U1),(.tmp 3,.di),(.tmp 4,.own 3 U0),(.tmp 5,.own 3 U0),(.tmp 6,.di),(.tmp 7,.di),(.tmp 8,.di)]
abbrev Lz:A2:=[(.ret,[(.tmp 2,.dat .bool)]),(.exit 2,[(.tmp 1,.box 2),(.cell 0 0,.di),(.cell 0 1,.dat U1),(.tmp 3,.di),(.tmp 4,.own 3 U0),(.tmp 5,.own 3 U0),(.tmp 6,.di),(.tmp 7,.di)])]
def B5[Lk]:Ur→Option (Ur⊕Uh⊕Ut⊕Unit):=fun(a0,a1,a2,a3,a4,a5,a6,a7,_)=>
 match(ilt a7 a0)with
 |true=>match AZ Bc many (a0,a1,a2,a3,a4,a5,a6,a7,0,())with|none=>none|some r=>match r with
  |.inl (o0,_)=>some (.inr (.inl (o0,())))
  |.inr r=>match r with
  |.inl (o1,o2,o3,o4,o5,o6,o7,o8,_)=>some (.inl (o1,o2,o3,o4,o5,o6,o7,(IntKind.wrap .i64 (o8+1)),()))
  |.inr _=>none
 |false=>some (.inr (.inr (.inl (a0,a1,a2,a3,a4,a5,a6,()))))
abbrev L7:AE:=[(.tmp 1,.box 2),(.cell 0 0,.di),(.cell 0 1,.dat U1),(.tmp 3,.di),(.tmp 4,.own 3 U0),(.tmp 5,.own 3 U0),(.tmp 6,.di),(.tmp 7,.di)]
abbrev L0:A2:=[(.ret,[(.tmp 2,.dat .bool)]),(.exit 0,[(.tmp 1,.box 2),(.cell 0 0,.di),(.cell 0 1,.dat U1),(.tmp 3,.di),(.tmp 6,.di)])]
def B6[Lk]:Ut→Option (Ut⊕Uh⊕(Int×List U2×Int×Int×Unit)⊕Unit):=fun(a0,a1,a2,a3,a4,a5,a6,_)=>
 match Ih (a0,())with|none=>none|some (y0,_)=>match(ile a6 y0)with
 |true=>match AZ B5 many (a0,a1,a2,a3,a4,a5,a6,0,())with|none=>none|some r=>match r with
  |.inl (o1,_)=>some (.inr (.inl (o1,())))
  |.inr r=>match r with
  |.inl (o2,o3,o4,o5,o6,o7,o8,_)=>match(ile (AQ o5) o8)with
   |true=>some (.inr (.inl (false,())))
   |false=>match(ile (AQ o6) o8)with
   |true=>some (.inr (.inl (false,())))
   |false=>match idx o5 o8 with|none=>none|some x9=>match idx o6 o8 with|none=>none|some x10=>some (.inl (o2,o3,o4,o5,o6,(IntKind.wrap .i64 ((IntKind.wrap .i64 (o7+(AN o5 (AF o8) 0)))+(AN o6 (AF o8) 0))),(IntKind.wrap .i64 (o8+1)),()))
  |.inr _=>none
 |false=>some (.inr (.inr (.inl (a0,a1,a2,a5,()))))
def Gr[Lk]:(Uj×Unit)→Option (Uh):=fun(a0,_)=>
 match G5 ()with|none=>none|some (y0,_)=>match(!y0)with
 |true=>some (false,())
 |false=>match J2 ((a0.1,(a0.2.1,())),())with|none=>none|some (y1,_)=>match y1 with
 |true=>some (true,())
 |false=>match Fa ((a0.1,(a0.2.1,())),())with|none=>none|some (y2,_)=>match(!y2)with
 |true=>some (true,())
 |false=>match Jy ((a0.1,(a0.2.1,())),())with|none=>none|some (y3,y4,_)=>match AZ B6 many (a0.1,a0.2.1,0,y3,y4,0,0,())with|none=>none|some r=>match r with
 |.inl (o5,_)=>some (o5,())
 |.inr r=>match r with
 |.inl (o6,o7,o8,o9,_)=>match(ieq o8 (IntKind.wrap .i64 (2*(AQ o7))))with
  |true=>some ((ieq o9 (AQ o7)),())
  |false=>some (false,())
 |.inr _=>none
def Fp[Lk]:=fun v=>Lk.f (Gr v)
theorem L8 v:Fp v=Gr v:=AJ _
end
end Go.Pev
end
section

end
section
namespace Go.Pev.Pl
theorem Ah{n:Int}(h:-9223372036854775808≤n∧n≤9223372036854775807):IntKind.wrap .i64 n=n:=IntWalk.i64_in n h
section
variable {α:Type} [Inhabited α]
theorem Aa{d:Array α}{n:Nat}(h:n<d.size):idx d.toList (n:Int)=some d[n]! := by
 rw[idx_eq,OS,AUy (by omega)]
 simp[h]
theorem Al{d:Array α}{n:Nat}{z:α}(h:n<d.size):AN d.toList (AF (n:Int)) z=d[n]! := by
 simp[AN,AF,h]
theorem CY{d:Array α}{n:Nat}{x:α}:Aj d.toList (AF (n:Int)) x=(d.setIfInBounds n x).toList:=by
 simp[Aj,AF]
theorem ABK{d:Array α}:AQ d.toList=(d.size:Int):=by simp[AQ]
theorem Ce(d:Array α)(i j:Nat):(d.setIfInBounds i d[j]!).setIfInBounds j d[i]! = Go.Sort.swp d i j:=rfl
theorem size_swp(d:Array α)(i j:Nat):(Go.Sort.swp d i j).size=d.size:=by simp[Go.Sort.swp]
end
theorem AR(a b:Nat):ilt (a:Int) (b:Int)=decide (a<b):=by rw[An];simp
theorem BR(a b:Nat):ile (a:Int) (b:Int)=decide (a≤b):=by rw[Aw];simp
theorem AAt(a b:Nat):ieq (a:Int) (b:Int)=decide (a=b):=by
 rw[EX]
 by_cases h:a=b
 ·simp[h]
 ·simp[h];omega
section
theorem wrap_add{a b:Nat}(h:a+b<9223372036854775808):IntKind.wrap .i64 ((a:Int)+(b:Int))=((a+b:Nat):Int):=by rw[Ah (by omega)];omega
theorem AK{a:Nat}(h:a+1<9223372036854775808):IntKind.wrap .i64 ((a:Int)+1)=((a+1:Nat):Int):=by rw[Ah (by omega)];omega
theorem NS{a:Nat}(h:2*a<9223372036854775808):IntKind.wrap .i64 ((2:Int)*(a:Int))=((2*a:Nat):Int):=by rw[Ah (by omega)];omega
theorem W3{a:Nat}(h:a<9223372036854775808):IntKind.wrap .i64 ((a:Int)*1)=((a*1:Nat):Int):=by rw[Ah (by omega)];omega
theorem Dk{a:Nat}(h:a*2<9223372036854775808):IntKind.wrap .i64 ((a:Int)*2)=((a*2:Nat):Int):=by rw[Ah (by omega)];omega
theorem W2{a:Nat}(h:a*3<9223372036854775808):IntKind.wrap .i64 ((a:Int)*3)=((a*3:Nat):Int):=by rw[Ah (by omega)];omega
theorem BQ{a b:Nat}(h:b≤a∧a<9223372036854775808):IntKind.wrap .i64 ((a:Int)-(b:Int))=((a-b:Nat):Int):=by rw[Ah (by omega)];omega
theorem Af{a:Nat}(h:1≤a∧a<9223372036854775808):IntKind.wrap .i64 ((a:Int)-1)=((a-1:Nat):Int):=by rw[Ah (by omega)];omega
theorem ATa{a:Nat}(h:a<9223372036854775808):quo? .i64 (a:Int) 2=some ((a/2:Nat):Int):=by
 rw[SQ,WC,AUy (by omega),AWj (by omega),Ah (by omega)];rfl
theorem PQ{a:Nat}(h:a<9223372036854775808):quo? .i64 (a:Int) 4=some ((a/4:Nat):Int):=by
 rw[SQ,WC,AUy (by omega),AWj (by omega),Ah (by omega)];rfl
theorem ATZ{a:Nat}(h:a<9223372036854775808):quo? .i64 (a:Int) 8=some ((a/8:Nat):Int):=by
 rw[SQ,WC,AUy (by omega),AWj (by omega),Ah (by omega)];rfl
end
end Go.Pev.Pl
end
section
namespace Go.Pev.Pl
section
variable {α:Type}
theorem IU{xs:List α}{n:Nat}(z:α)(h:n<xs.length):idx xs (n:Int)=some (xs.getD n z):=by
 rw[idx_eq,OS,AUy (by omega)]
 simp[h]
theorem AAu(xs:List α)(n:Nat):idx xs (n:Int)=xs[n]? := by
 rw[idx_eq,OS,AUy (by omega)]
 simp
theorem MH(xs:List α):idx xs (0:Int)=xs.head? := by
 rw[idx_eq,OS,AUy (by omega)]
 cases xs<;>rfl
theorem Oe(xs:List α)(n:Nat)(z:α):AN xs (AF (n:Int)) z=xs.getD n z:=by simp[AN,AF]
theorem AUF(xs:List α)(n:Nat)(x:α):Aj xs (AF (n:Int)) x=xs.set n x:=by simp[Aj,AF]
theorem AY(xs:List α):AQ xs=(xs.length:Int):=rfl
theorem ARH(n:Nat):AF (n:Int)=n:=by simp[AF]
theorem Og(xs ys:List α):Bt xs ys=xs++ys:=rfl
theorem AGZ{xs:List α}{l h:Nat}(h1:l≤h)(h2:h≤xs.length):HC xs (l:Int) (h:Int)=some ((xs.take h).drop l):=by
 rw[Qx,PN,AU4 (by omega)]
 simp
end
theorem DO{n:Int}(h:n≤4294967296):fits n=true:=(GR n).2 h
theorem AQh{α β:Type}(xs:List α)(ys:List β):ieq (AQ xs) (AQ ys)=decide (xs.length=ys.length):=by rw[AY,AY,AAt]
theorem BS(a b:Int):ieq a b=decide (a=b):=by
 rw[EX]
 by_cases h:a=b<;>simp[h]
def walk{α β ρ:Type}(f:β→α→α⊕ρ)(fin:α→ρ):List β→α→ρ
 |[],a=>fin a
 |x::xs,a=>match f x a with
  |.inl a=>walk f fin xs a
  |.inr r=>r
theorem ALS{σ ρ α β:Type}{step:σ→Option (σ⊕ρ)}(st:Nat→α→σ)(xs:List β)(f:β→α→α⊕ρ)(fin:α→ρ)(I:Nat→α→Prop)
  (h:∀ i x a,i<xs.length→xs[i]? = some x→I i a→(∀ a',f x a = .inl a'→step (st i a)=some (.inl (st (i+1) a'))∧I (i+1) a')∧(∀ r,f x a = .inr r→step (st i a)=some (.inr r)))
  (hN:∀ a,I xs.length a→step (st xs.length a)=some (.inr (fin a))) :
  ∀ (m i n:Nat) (a:α),xs.length-i=m→i≤xs.length→m<n→I i a→AT step n (st i a)=some (walk f fin (xs.drop i) a):=by
 intro m
 induction m with
 |zero=>
  intro i n a hk hi hn hI
  obtain⟨n,rfl⟩:∃ k,n=k+1:=⟨n-1,by omega⟩
  have e:i=xs.length:=by omega
  subst e
  rw[AT,hN a hI,List.drop_length]
  rfl
 |succ m ih=>
  intro i n a hk hi hn hI
  obtain⟨n,rfl⟩:∃ k,n=k+1:=⟨n-1,by omega⟩
  have hi':i<xs.length:=by omega
  obtain⟨g1,g2⟩:=h i xs[i] a hi' (by simp[hi']) hI
  rw[AVh hi',walk,AT]
  cases hf:f xs[i] a with
  |inl a'=>
   obtain⟨e,hI'⟩:=g1 a' hf
   rw[e]
   exact ih (i+1) n a' (by omega) (by omega) (by omega) hI'
  |inr r=>rw[g2 r hf]
theorem EH{σ ρ α β:Type}{step:σ→Option (σ⊕ρ)}(st:Nat→α→σ)(xs:List β)(f:β→α→α⊕ρ)(fin:α→ρ)(I:Nat→α→Prop)(hs:xs.length<9223372036854775808)
  (h:∀ i x a,i<xs.length→xs[i]? = some x→I i a→(∀ a',f x a = .inl a'→step (st i a)=some (.inl (st (i+1) a'))∧I (i+1) a')∧(∀ r,f x a = .inr r→step (st i a)=some (.inr r)))
  (hN:∀ a,I xs.length a→step (st xs.length a)=some (.inr (fin a))) (a:α) (h0:I 0 a):AZ step many (st 0 a)=some (walk f fin xs a):=by
 have hm:9223372036854775808<many:=by simp only[many];omega
 rw[Ak,ALS st xs f fin I h hN xs.length 0 many a (by omega) (by omega) (by omega) h0]
 rfl
theorem ABH{α:Type}{xs ys:List α}(z:α)(hl:xs.length=ys.length)(h:∀ j,j<xs.length→xs.getD j z=ys.getD j z):xs=ys:=by
 apply List.ext_getElem hl
 intro i h1 h2
 have:=h i h1
 simpa [h1,h2]using this
theorem ALt{σ ρ:Type}{step:σ→Option (σ⊕ρ)}(st:Nat→σ)(N:Nat)(P:Nat→Bool)(rt:Nat→ρ)(rf:ρ)
  (h:∀ i,i<N→step (st i)=if P i then some (.inr (rt i))else some (.inl (st (i+1)))) (hN:step (st N)=some (.inr rf)) :
  ∀ (m i n:Nat),N-i=m→i≤N→m<n→(∃ k,i≤k∧k<N∧P k=true∧(∀ j,i≤j→j<k→P j=false)∧AT step n (st i)=some (rt k))∨((∀ j,i≤j→j<N→P j=false)∧AT step n (st i)=some rf):=by
 intro m
 induction m with
 |zero=>
  intro i n hk hi hn
  obtain⟨n,rfl⟩:∃ k,n=k+1:=⟨n-1,by omega⟩
  have e:i=N:=by omega
  subst e
  exact .inr ⟨fun j h1 h2=>by omega,by rw[AT,hN]⟩
 |succ m ih=>
  intro i n hk hi hn
  obtain⟨n,rfl⟩:∃ k,n=k+1:=⟨n-1,by omega⟩
  have hi':i<N:=by omega
  cases hP:P i
  ·have e:AT step (n+1) (st i)=AT step n (st (i+1)):=by rw[AT,h i hi',hP];rfl
   rw[e]
   rcases ih (i+1) n (by omega) (by omega) (by omega)with⟨k,h1,h2,h3,h4,h5⟩|⟨h1,h2⟩
   ·refine .inl ⟨k,by omega,h2,h3,fun j a1 a2 => ?_,h5⟩
    by_cases ej:j=i
    ·subst ej;exact hP
    ·exact h4 j (by omega) a2
   ·refine .inr ⟨fun j a1 a2 => ?_,h2⟩
    by_cases ej:j=i
    ·subst ej;exact hP
    ·exact h1 j (by omega) a2
  ·exact .inl ⟨i,AU1 _,hi',hP,fun j a1 a2=>by omega,by rw[AT,h i hi',hP];rfl⟩
theorem AUW{σ ρ:Type}{step:σ→Option (σ⊕ρ)}(st:Nat→σ)(N:Nat)(P:Nat→Bool)(rt:Nat→ρ)(rf:ρ)(hs:N<9223372036854775808)
  (h:∀ i,i<N→step (st i)=if P i then some (.inr (rt i))else some (.inl (st (i+1)))) (hN:step (st N)=some (.inr rf)) :
  (∃ k,k<N∧P k=true∧(∀ j,j<k→P j=false)∧AZ step many (st 0)=some (rt k))∨((∀ j,j<N→P j=false)∧AZ step many (st 0)=some rf):=by
 have hm:9223372036854775808<many:=by simp only[many];omega
 rw[Ak]
 rcases ALt st N P rt rf h hN N 0 many rfl (by omega) (by omega)with⟨k,h1,h2,h3,h4,h5⟩|⟨h1,h2⟩
 ·exact .inl ⟨k,h2,h3,fun j a=>h4 j (by omega) a,h5⟩
 ·exact .inr ⟨fun j a=>h1 j (by omega) a,h2⟩
end Go.Pev.Pl
end
section
namespace Go.Pev.Pl
inductive Tok where
 |ver (v:Int)
 |arc (u v:Int)
 deriving DecidableEq
namespace Tok
def st:Tok→Int
 |.ver v=>v
 |.arc _ v=>v
def step(s:List Int×List Int):Tok→Option (List Int×List Int)
 |.ver v=>match s.1 with
  |w::_=>if w=v then some s else none
  |[]=>none
 |.arc u v=>match s.1 with
  |w::r=>if w=u then match r with
    |p::r'=>if p=v then some (p::r',s.2)else if v∈s.2 then none else some (v::w::r,v::s.2)
    |[]=>if v∈s.2 then none else some (v::w::r,v::s.2)
   else none
  |[]=>none
def run:List Int×List Int→List Tok→Option (List Int×List Int)
 |s,[]=>some s
 |s,t::l=>match step s t with
  |some s=>run s l
  |none=>none
theorem Cv(s:List Int×List Int)(a b:List Tok):run s (a++b)=(run s a).bind fun s=>run s b:=by
 induction a generalizing s with
 |nil=>rfl
 |cons t a ih=>
  simp only[AVG,run]
  cases step s t with
  |none=>rfl
  |some s=>exact ih s
theorem Bl{s s':List Int×List Int}{t:Tok}(h:step s t=some s'):
  (∃ v r,t = .ver v∧s.1=v::r∧s'=s) ∨
  (∃ u v r,t = .arc u v∧s.1=u::v::r∧s'=(v::r,s.2)) ∨
  (∃ u v r,t = .arc u v∧s.1=u::r∧r.head?≠some v∧v∉s.2∧s'=(v::u::r,v::s.2)):=by
 obtain⟨way,c⟩:=s
 cases t with
 |ver v=>
  cases way with
  |nil=>simp[step]at h
  |cons w r=>
   simp only[step]at h
   split at h
   ·rename_i e;cases h;exact .inl ⟨v,r,rfl,by simp[e],rfl⟩
   ·cases h
 |arc u v=>
  cases way with
  |nil=>simp[step]at h
  |cons w r=>
   simp only[step]at h
   split at h
   ·rename_i e
    subst e
    cases r with
    |nil=>
     simp only at h
     split at h
     ·cases h
     ·rename_i hc;cases h;exact .inr (.inr ⟨w,v,[],rfl,rfl,by simp,hc,rfl⟩)
    |cons p r=>
     simp only at h
     split at h
     ·rename_i e;subst e;cases h;exact .inr (.inl ⟨w,p,r,rfl,rfl,rfl⟩)
     ·split at h
      ·cases h
      ·rename_i e hc;cases h;exact .inr (.inr ⟨w,v,p::r,rfl,rfl,by simpa using e,hc,rfl⟩)
   ·cases h
theorem Cr(v:Int)(r c:List Int):step (v::r,c) (.ver v)=some (v::r,c):=by simp[step]
theorem E3(u v:Int)(r c:List Int):step (u::v::r,c) (.arc u v)=some (v::r,c):=by simp[step]
theorem EM(u v:Int)(r c:List Int)(h1:r.head?≠some v)(h2:v∉c):step (u::r,c) (.arc u v)=some (v::u::r,v::c):=by
 cases r with
 |nil=>simp[step,h2]
 |cons p r=>
  have:p≠v:=by simpa using h1
  simp[step,h2,this]
def Inv(s:List Int×List Int):Prop:=s.1.Nodup∧(∀ x∈s.1,x∈s.2)
theorem Rz{s s':List Int×List Int}{t:Tok}(h:step s t=some s')(hi:Inv s):Inv s'∧(∀ x∈s.2,x∈s'.2)∧s'.1.head? = some t.st:=by
 obtain⟨way,c⟩:=s
 obtain⟨h1,h2⟩:=hi
 rcases Bl h with⟨v,r,rfl,hw,rfl⟩|⟨u,v,r,rfl,hw,rfl⟩|⟨u,v,r,rfl,hw,_,hn,rfl⟩
 ·exact⟨⟨h1,h2⟩,fun x hx=>hx,by rw[hw];rfl⟩
 ·simp only at hw h1 h2
  subst hw
  refine⟨⟨?_,?_⟩,fun x hx=>hx,rfl⟩
  ·exact(AVN.1 h1).2
  ·intro x hx;exact h2 x (by simp only at hx;simp[AUw.1 hx])
 ·simp only at hw h1 h2 hn
  subst hw
  refine⟨⟨?_,?_⟩,fun x hx=>by simp[hx],rfl⟩
  ·exact AVN.2 ⟨fun hm=>hn (h2 _ hm),h1⟩
  ·intro x hx
   rcases AUw.1 hx with rfl|hx
   ·simp
   ·exact AVE _ (h2 x hx)
theorem Gl{l:List Tok}:∀ {s s':List Int×List Int},run s l=some s'→Inv s→Inv s'∧(∀ x∈s.2,x∈s'.2)∧∀ t,l.getLast? = some t→s'.1.head? = some t.st:=by
 induction l with
 |nil=>intro s s' h hi;cases h;exact⟨hi,fun x hx=>hx,fun t ht=>by simp at ht⟩
 |cons t l ih=>
  intro s s' h hi
  simp only[run]at h
  split at h
  ·rename_i s1 h1
   obtain⟨q1,q2,q3⟩:=Rz h1 hi
   obtain⟨p1,p2,p3⟩:=ih h q1
   refine⟨p1,fun x hx=>p2 x (q2 x hx),fun t' ht' => ?_⟩
   cases l with
   |nil=>simp at ht';subst ht';simp only[run]at h;cases h;exact q3
   |cons y l=>exact p3 t' (by rw[AXO]at ht';exact ht')
  ·cases h
theorem Fl{Z:Int→Prop}:∀ {l:List Tok} {way way' c d c2 low:List Int},run (way,c) l=some (way',d)→way≠[]→(∀ x,x∈c2↔x∈c∨Z x) →
  (∀ u v,.arc u v∈l→¬ Z v)→(∀ y∈low,Z y)→∃ d2,run (way++low,c2) l=some (way'++low,d2)∧(∀ x,x∈d2↔x∈d∨Z x):=by
 intro l
 induction l with
 |nil=>intro way way' c d c2 low h _ hc _ _;cases h;exact⟨c2,rfl,hc⟩
 |cons t l ih=>
  intro way way' c d c2 low h hne hc hz hl
  simp only[run]at h
  split at h
  ·rename_i s1 h1
   have hz':∀ u v,Tok.arc u v∈l→¬ Z v:=fun u v hm=>hz u v (AVE _ hm)
   rcases Bl h1 with⟨v,r,rfl,hw,rfl⟩|⟨u,v,r,rfl,hw,rfl⟩|⟨u,v,r,rfl,hw,hh,hn,rfl⟩
   ·simp only at hw
    subst hw
    obtain⟨d2,e1,e2⟩:=ih h hne hc hz' hl
    exact⟨d2,by simp only[run,AVG,Cr];exact e1,e2⟩
   ·simp only at hw
    subst hw
    obtain⟨d2,e1,e2⟩:=ih h (by simp) hc hz' hl
    exact⟨d2,by simp only[run,AVG,E3];exact e1,e2⟩
   ·simp only at hw hn
    subst hw
    have hzv:=hz u v (by simp)
    have hn2:v∉c2:=by rw[hc];rintro (h|h);exact hn h;exact hzv h
    have hh2:(r++low).head?≠some v:=by
     cases r with
     |nil=>
      cases low with
      |nil=>simp
      |cons y low=>
       simp only[AVc,List.head?_cons,ne_eq,AUq]
       rintro rfl
       exact hzv (hl _ (by simp))
     |cons p r=>simpa using hh
    obtain⟨d2,e1,e2⟩:=ih (c2:=v::c2) h (by simp) (by intro x;simp only[AUw,hc,or_assoc]) hz' hl
    exact⟨d2,by simp only[run,AVG,EM _ _ _ _ hh2 hn2];exact e1,e2⟩
  ·cases h
theorem R3{z:Int}:∀ {l:List Tok} {way way' c2 d2 c:List Int},run (way,c2) l=some (way',d2)→z∉way→(∀ x,x∈c2↔x∈c∨x=z)→z∉c →
  .ver z∉l∧∃ d,run (way,c) l=some (way',d)∧(∀ x,x∈d2↔x∈d∨x=z)∧z∉d:=by
 intro l
 induction l with
 |nil=>intro way way' c2 d2 c h _ hc hz;cases h;exact⟨by simp,c,rfl,hc,hz⟩
 |cons t l ih=>
  intro way way' c2 d2 c h hzw hc hz
  simp only[run]at h
  split at h
  ·rename_i s1 h1
   rcases Bl h1 with⟨v,r,rfl,hw,rfl⟩|⟨u,v,r,rfl,hw,rfl⟩|⟨u,v,r,rfl,hw,hh,hn,rfl⟩
   ·simp only at hw
    subst hw
    obtain⟨e0,d,e1,e2,e3⟩:=ih h hzw hc hz
    refine⟨?_,d,by simp only[run,Cr];exact e1,e2,e3⟩
    rintro hm
    rcases AUw.1 hm with hm|hm
    ·cases hm;exact hzw (by simp)
    ·exact e0 hm
   ·simp only at hw
    subst hw
    obtain⟨e0,d,e1,e2,e3⟩:=ih h (fun hm=>hzw (AVE _ hm)) hc hz
    refine⟨?_,d,by simp only[run,E3];exact e1,e2,e3⟩
    rintro hm
    rcases AUw.1 hm with hm|hm
    ·cases hm
    ·exact e0 hm
   ·simp only at hw hn
    subst hw
    have hvz:v≠z:=by rintro rfl;exact hn ((hc v).2 (.inr rfl))
    have hn':v∉c:=fun hm=>hn ((hc v).2 (.inl hm))
    obtain⟨e0,d,e1,e2,e3⟩:=ih (c:=v::c) h (by intro hm;rcases AUw.1 hm with hm|hm;exact hvz hm.symm;exact hzw hm)
     (by intro x;simp only[AUw,hc,or_assoc])
     (by intro hm;rcases AUw.1 hm with hm|hm;exact hvz hm.symm;exact hz hm)
    refine⟨?_,d,by simp only[run,EM _ _ _ _ hh hn'];exact e1,e2,e3⟩
    rintro hm
    rcases AUw.1 hm with hm|hm
    ·cases hm
    ·exact e0 hm
  ·cases h
def Rot(a b:List Tok):Prop:=∃ x y,a=x++y∧b=y++x
theorem Rot.refl(a:List Tok):Rot a a:=⟨[],a,rfl,by simp⟩
theorem Rot.symm{a b:List Tok}(h:Rot a b):Rot b a:=by obtain⟨x,y,h1,h2⟩:=h;exact⟨y,x,h2,h1⟩
theorem Rot.trans{a b c:List Tok}(h:Rot a b)(g:Rot b c):Rot a c:=by
 obtain⟨x,y,rfl,h2⟩:=h
 obtain⟨z,w,h3,rfl⟩:=g
 rw[h2]at h3
 rcases List.append_eq_append_iff.1 h3 with⟨k,h4,h5⟩|⟨k,h4,h5⟩
 ·subst h4 h5
  exact⟨k,w++y,by simp,by simp⟩
 ·subst h4 h5
  exact⟨x++z,k,by simp,by simp⟩
theorem Rot.perm{a b:List Tok}(h:Rot a b):a.Perm b:=by
 obtain⟨x,y,rfl,rfl⟩:=h
 exact AWh
theorem Rot.mem{a b:List Tok}(h:Rot a b)(t:Tok):t∈a↔t∈b:=h.perm.mem_iff
theorem Rot.nodup{a b:List Tok}(h:Rot a b):a.Nodup↔b.Nodup:=h.perm.nodup_iff
theorem Rot.length{a b:List Tok}(h:Rot a b):a.length=b.length:=h.perm.length_eq
inductive T:List Tok→Prop
 |one (v:Int):T [.ver v]
 |add (x:Tok) (l:List Tok) (v:Int):T (x::l)→x.st≠v→.ver v∉x::l→T (x :: .arc x.st v :: .ver v :: .arc v x.st::l)
 |rot (a b:List Tok):T (a++b)→T (b++a)
theorem T.AH2{a b:List Tok}(h:T a)(r:Rot a b):T b:=by obtain⟨x,y,rfl,rfl⟩:=r;exact T.rot x y h
theorem T.facts{l:List Tok}(h:T l):l≠[]∧(∀ t∈l,.ver t.st∈l)∧(∀ u v,.arc u v∈l→.ver u∈l∧.ver v∈l∧.arc v u∈l∧u≠v):=by
 induction h with
 |one v=>exact⟨by simp,by simp[st],by simp⟩
 |add x l v h hne hv ih=>
  obtain⟨_,i2,i3⟩:=ih
  have hsub:∀ t,t∈x::l→t∈x::Tok.arc x.st v :: .ver v :: .arc v x.st::l:=by
   intro t ht
   rcases AUw.1 ht with rfl|ht
   ·simp
   ·simp[ht]
  have hx:=hsub _ (i2 x (by simp))
  have cases3:∀ t,t∈x::Tok.arc x.st v :: .ver v :: .arc v x.st::l→t∈x::l∨t = .arc x.st v∨t = .ver v∨t = .arc v x.st:=by
   intro t ht
   simp only[AUw]at ht ⊢
   rcases ht with h|h|h|h|h<;>simp[h]
  refine⟨by simp,fun t ht => ?_,fun a b hab => ?_⟩
  ·rcases cases3 t ht with h|rfl|rfl|rfl
   ·exact hsub _ (i2 t h)
   ·simp[st]
   ·simp[st]
   ·exact hx
  ·rcases cases3 _ hab with h|h|h|h
   ·obtain⟨p1,p2,p3,p4⟩:=i3 a b h
    exact⟨hsub _ p1,hsub _ p2,hsub _ p3,p4⟩
   ·cases h;exact⟨hx,by simp,by simp,hne⟩
   ·cases h
   ·cases h;exact⟨by simp,hx,by simp,AVW hne⟩
 |rot a b h ih=>
  obtain⟨i1,i2,i3⟩:=ih
  have hm:∀ t,t∈a++b↔t∈b++a:=fun t=>List.perm_append_comm.mem_iff
  refine⟨by intro e;simp only[List.append_eq_nil_iff]at e;exact i1 (by simp[e.1,e.2]),fun t ht=>(hm _).1 (i2 t ((hm _).2 ht)),fun u v huv => ?_⟩
  obtain⟨p1,p2,p3,p4⟩:=i3 u v ((hm _).2 huv)
  exact⟨(hm _).1 p1,(hm _).1 p2,(hm _).1 p3,p4⟩
theorem T.nodup{l:List Tok}(h:T l):l.Nodup:=by
 induction h with
 |one v=>simp
 |add x l v h hne hv ih=>
  obtain⟨_,_,f3⟩:=h.facts
  have h1:Tok.arc x.st v∉x::l:=fun hm=>hv (f3 _ _ hm).2.1
  have h2:Tok.arc v x.st∉x::l:=fun hm=>hv (f3 _ _ hm).1
  simp only[AUw,not_or]at h1 h2 hv
  have ih':=AVN.1 ih
  simp only[AVN,AUw,not_or]
  refine⟨⟨fun e=>h1.1 e.symm,fun e=>hv.1 e.symm,fun e=>h2.1 e.symm,ih'.1⟩,⟨by simp,?_,h1.2⟩,⟨by simp,hv.2⟩,h2.2,ih'.2⟩
  intro e
  simp only[Tok.arc.injEq]at e
  exact hne e.1
 |rot a b h ih=>exact(List.perm_append_comm.nodup_iff).1 ih
def C(l:List Tok):Prop:=∀ r,Rot l r→∀ t,r.getLast? = some t→∃ c,run ([t.st],[t.st]) r=some ([t.st],c)∧∀ x,x∈c↔.ver x∈l
end Tok
end Go.Pev.Pl
end
section
namespace Go.Pev.Pl.Tok
theorem getLast?_app{a b:List Tok}{t:Tok}(h:b.getLast? = some t):(a++b).getLast? = some t:=by
 rw[AWo,h];rfl
theorem Ar(s:List Int×List Int)(t:Tok)(l:List Tok):run s (t::l)=(step s t).bind fun s=>run s l:=by
 rw[run]
 cases step s t<;>rfl
theorem KA(v:Int):Inv ([v],[v]):=⟨by simp,by simp⟩
theorem T.toC{l:List Tok}(h:T l):C l:=by
 induction h with
 |one v=>
  intro r hr t ht
  have:r=[.ver v]:=List.perm_singleton.1 hr.perm.symm
  subst this
  simp at ht
  subst ht
  exact⟨[v],by simp[run,st,step],by simp⟩
 |rot a b h ih=>
  intro r hr t ht
  obtain⟨c,h1,h2⟩:=ih r (Rot.trans ⟨a,b,rfl,rfl⟩ hr) t ht
  exact⟨c,h1,fun x=>(h2 x).trans (List.perm_append_comm.mem_iff)⟩
 |add x l v h hne hv ih=>
  obtain⟨_,f2,f3⟩:=h.facts
  have hnz:∀ u w,Tok.arc u w∈x::l→¬ (w=v):=fun u w hm e=>hv (e▸(f3 u w hm).2.1)
  have fin:∀ {d2 c:List Int},(∀ y,y∈d2↔y∈c∨y=v)→(∀ y,y∈c↔.ver y∈x::l)→∀ y,y∈d2↔Tok.ver y∈x :: .arc x.st v :: .ver v :: .arc v x.st::l:=by
   intro d2 c e1 e2 y
   rw[e1,e2]
   simp only[AUw,reduceCtorEq,false_or,Tok.ver.injEq]
   constructor
   ·rintro ((h|h)|h)<;>simp[h]
   ·rintro (h|h|h)<;>simp[h]
  have triple:∀ {w' c1:List Int},Inv (x.st::w',c1)→v∉c1→∀ p,run (x.st::w',c1) (.arc x.st v :: .ver v :: .arc v x.st::p)=run (x.st::w',v::c1) p:=by
   intro w' c1 hi hn p
   have hh:w'.head?≠some v:=by
    intro e
    exact hn (hi.2 v (AVE _ (List.mem_of_head? e)))
   rw[Ar,EM _ _ _ _ hh hn,AVR,Ar,Cr,AVR,Ar,E3,AVR]
  have G:∀ q1 p1,l=p1++q1→∀ t,(q1++x :: .arc x.st v :: .ver v :: .arc v x.st::p1).getLast? = some t→∃ c,run ([t.st],[t.st]) (q1++x :: .arc x.st v :: .ver v :: .arc v x.st::p1)=some ([t.st],c)∧∀ y,y∈c↔.ver y∈x :: .arc x.st v :: .ver v :: .arc v x.st::l:=by
   intro q1 p1 hl t ht
   have hrot:Rot (x::l) (q1++x::p1):=⟨x::p1,q1,by simp[hl],rfl⟩
   have ht0:∃ t0,(q1++x::p1).getLast? = some t0∧t0.st=t.st:=by
    cases p1 with
    |nil=>
     refine⟨x,getLast?_app (by simp),?_⟩
     rw[show q1++[x,Tok.arc x.st v,.ver v,.arc v x.st]=(q1++[x,Tok.arc x.st v,.ver v])++[Tok.arc v x.st] by simp,AWN]at ht
     cases ht;rfl
    |cons y p1=>
     refine⟨t,?_,rfl⟩
     rw[show q1++x::Tok.arc x.st v :: .ver v :: .arc v x.st::y::p1=(q1++[x,Tok.arc x.st v,.ver v,.arc v x.st])++y::p1 by simp,AWo]at ht
     rw[show q1++x::y::p1=(q1++[x])++y::p1 by simp,AWo]
     exact ht
   obtain⟨t0,e0,e1⟩:=ht0
   obtain⟨c,h1,h2⟩:=ih _ hrot t0 e0
   rw[e1,show q1++x::p1=(q1++[x])++p1 by simp,Cv,AVQ]at h1
   obtain⟨⟨w1,c1⟩,g1,g2⟩:=h1
   obtain⟨i1,i2,i3⟩:=Gl g1 (KA _)
   obtain⟨j1,j2,j3⟩:=Gl g2 i1
   have i3':=i3 x (by simp)
   simp only at i3'
   cases w1 with
   |nil=>simp at i3'
   |cons w0 w'=>
    simp at i3'
    subst i3'
    have hn:v∉c1:=fun hm=>hv ((h2 v).1 (j2 v hm))
    obtain⟨d2,k1,k2⟩:=Fl (Z:=(· = v)) (c2:=v::c1) (low:=[]) g2 (by simp) (fun y=>by simp[or_comm]) (fun u w hm=>hnz u w (by simp[hl,hm])) (by simp)
    refine⟨d2,?_,fin k2 h2⟩
    rw[show q1++x::Tok.arc x.st v :: .ver v :: .arc v x.st::p1=(q1++[x])++Tok.arc x.st v :: .ver v :: .arc v x.st::p1 by simp,Cv,g1,AVR,triple i1 hn]
    simpa using k1
  intro r hr t ht
  obtain⟨p,q,hpq,rfl⟩:=hr
  have base:∀ t0:Tok,(l++[x]).getLast? = some t0→t0=x:=fun t0 h=>by rw[AWN]at h;exact(AV2 h).symm
  obtain⟨c,h1,h2⟩:=ih (l++[x]) ⟨[x],l,rfl,rfl⟩ x (by simp)
  match p with
  |[]=>
   simp only[AVc]at hpq
   subst hpq
   have:=G [] l (by simp) t (by simpa using ht)
   simpa using this
  |[y]=>
   simp only[AVG,AVc,AVF]at hpq
   obtain⟨rfl,rfl⟩:=hpq
   have:t=x:=by
    rw[AWN]at ht
    exact(AV2 ht).symm
   subst this
   have hn:v∉[t.st]:=by simp;exact AVW hne
   obtain⟨d2,k1,k2⟩:=Fl (Z:=(· = v)) (c2:=[v,t.st]) (low:=[]) h1 (by simp) (fun y=>by simp[or_comm]) (fun u w hm=>hnz u w (by simpa [or_comm]using hm)) (by simp)
   refine⟨d2,?_,fin k2 h2⟩
   rw[show(Tok.arc t.st v :: .ver v :: .arc v t.st::l)++[t]=Tok.arc t.st v :: .ver v :: .arc v t.st::(l++[t]) by simp,triple (KA _) hn]
   simpa using k1
  |[y,z]=>
   simp only[AVG,AVc,AVF]at hpq
   obtain⟨rfl,rfl,rfl⟩:=hpq
   have:t = .arc x.st v:=by
    rw[show(Tok.ver v :: .arc v x.st::l)++[x,.arc x.st v]=(Tok.ver v :: .arc v x.st::l++[x])++[.arc x.st v] by simp,AWN]at ht
    exact(AV2 ht).symm
   subst this
   obtain⟨d2,k1,k2⟩:=Fl (Z:=(· = v)) (c2:=[x.st,v]) (low:=[v]) h1 (by simp) (fun y=>by simp) (fun u w hm=>hnz u w (by simpa [or_comm]using hm)) (by simp)
   refine⟨d2,?_,fin k2 h2⟩
   rw[show(Tok.ver v :: .arc v x.st::l)++[x,.arc x.st v]=Tok.ver v :: .arc v x.st::((l++[x])++[.arc x.st v]) by simp]
   rw[Ar]
   show(step ([v],[v]) _).bind _=_
   rw[Cr,AVR,Ar,EM _ _ _ _ (by simp) (by simp;exact hne),AVR,Cv]
   rw[show([x.st]++[v]:List Int)=[x.st,v]from rfl]at k1
   rw[k1,AVR,Ar,E3]
   rfl
  |[y,z,w]=>
   simp only[AVG,AVc,AVF]at hpq
   obtain⟨rfl,rfl,rfl,rfl⟩:=hpq
   have:t = .ver v:=by
    rw[show(Tok.arc v x.st::l)++[x,.arc x.st v,.ver v]=(Tok.arc v x.st::l++[x,.arc x.st v])++[.ver v] by simp,AWN]at ht
    exact(AV2 ht).symm
   subst this
   obtain⟨d2,k1,k2⟩:=Fl (Z:=(· = v)) (c2:=[x.st,v]) (low:=[v]) h1 (by simp) (fun y=>by simp) (fun u w hm=>hnz u w (by simpa [or_comm]using hm)) (by simp)
   refine⟨d2,?_,fin k2 h2⟩
   rw[show(Tok.arc v x.st::l)++[x,.arc x.st v,.ver v]=Tok.arc v x.st::((l++[x])++[.arc x.st v,.ver v]) by simp]
   rw[Ar]
   show(step ([v],[v]) _).bind _=_
   rw[EM _ _ _ _ (by simp) (by simp;exact hne),AVR,Cv]
   rw[show([x.st]++[v]:List Int)=[x.st,v]from rfl]at k1
   rw[k1,AVR,Ar,E3,AVR,Ar,Cr]
   rfl
  |y::z::w::w2::p1=>
   simp only[AVG,AVF]at hpq
   obtain⟨rfl,rfl,rfl,rfl,rfl⟩:=hpq
   exact G q p1 rfl t ht
def comp(P:List Tok):List Int→List Tok
 |[]=>[]
 |w::r=>(if .ver w∈P then []else [.ver w])++match r with
  |[]=>[]
  |p::_=>.arc w p::comp P r
theorem K9{P P':List Tok}:∀ {way:List Int},(∀ w∈way,(Tok.ver w∈P↔Tok.ver w∈P'))→comp P way=comp P' way:=by
 intro way
 induction way with
 |nil=>intro _;rfl
 |cons w r ih=>
  intro h
  have h1:=h w (by simp)
  have h2:=ih fun x hx=>h x (AVE _ hx)
  simp only[comp,h1,h2]
theorem AQw:∀ (M P:List Tok) (way c c':List Int) (r:Int) (t0:Tok),run (way,c) M=some ([r],c')→Inv (way,c)→P.getLast? = some t0→way.head? = some t0.st →
  T (P++comp P way)→(∀ x,.ver x∈P++comp P way→x∈c)→(∀ x∈c',Tok.ver x∈P++M)→(P++M).Nodup→T (P++M):=by
 intro M
 induction M with
 |nil=>
  intro P way c c' r t0 h hi hl hh hT hc hc' hn
  cases h
  have:=hc' r (hi.2 r (by simp))
  rw[AWG]at this
  simpa [comp,this]using hT
 |cons t M ih=>
  intro P way c c' r t0 h hi hl hh hT hc hc' hn
  rw[Ar,AVQ]at h
  obtain⟨⟨w1,c1⟩,h1,h2⟩:=h
  obtain⟨hi1,hsub,hhd⟩:=Rz h1 hi
  have asso:P++t::M=(P++[t])++M:=by simp
  rw[asso]at hn hc' ⊢
  have hnt:t∉P:=by
   have:=(AWn.1 (AWn.1 hn).1)
   intro hm
   exact this.2.2 t hm t (by simp) rfl
  rcases Bl h1 with⟨v,rr,rfl,hw,e⟩|⟨u,v,rr,rfl,hw,e⟩|⟨u,v,rr,rfl,hw,hh2,hn2,e⟩
  ·cases e
   simp only at hw
   subst hw
   have key:comp P (v::rr) = .ver v::comp (P++[.ver v]) (v::rr):=by
    have e2:comp P rr=comp (P++[.ver v]) rr:=K9 fun w hwm=>by
     have:w≠v:=by rintro rfl;exact(AVN.1 hi.1).1 hwm
     simp[this]
    simp only[comp,hnt,e2]
    simp
   rw[key]at hT hc
   exact ih _ _ _ _ _ (.ver v) h2 hi1 (by simp) hhd (by simpa using hT) (fun x hx=>hc x (by simpa using hx)) hc' hn
  ·cases e
   simp only at hw
   subst hw
   have hu:Tok.ver u∈P:=by
    have hun:=(AVN.1 hi.1).1
    obtain⟨g1,_⟩:=R3 (z:=u) (c:=c.filter (·≠u)) h2 hun (fun x=>by
     simp only[AVf,AUs]
     constructor
     ·intro h
      by_cases e:x=u
      ·exact .inr e
      ·exact .inl ⟨h,by simpa using e⟩
     ·rintro (h|rfl)
      ·exact h.1
      ·exact hi.2 x (by simp)) (by simp)
    have hmono:=(Gl h2 hi1).2.1 u (hi.2 u (by simp))
    have:=hc' u hmono
    simp only[AUt,AVL,reduceCtorEq,or_false]at this
    rcases this with h|h
    ·exact h
    ·exact absurd h g1
   have key:comp P (u::v::rr) = .arc u v::comp (P++[.arc u v]) (v::rr):=by
    have e2:comp P (v::rr)=comp (P++[.arc u v]) (v::rr):=K9 fun w hwm=>by simp
    rw[← e2]
    simp only[comp,hu]
    simp
   rw[key]at hT hc
   exact ih _ _ _ _ _ (.arc u v) h2 hi1 (by simp) hhd (by simpa using hT) (fun x hx=>hc x (by simpa using hx)) hc' hn
  ·cases e
   simp only at hw hn2
   subst hw
   have hu:u=t0.st:=by simpa using hh
   subst hu
   have hvc:∀ x,Tok.ver x∈P++comp P (t0.st::rr)→x≠v:=by rintro x hx rfl;exact hn2 (hc x hx)
   have hvP:Tok.ver v∉P++comp P (t0.st::rr):=fun hm=>hvc v hm rfl
   have hvP':Tok.ver v∉P:=fun hm=>hvP (by simp[hm])
   have key:comp (P++[.arc t0.st v]) (v::t0.st::rr) = .ver v :: .arc v t0.st::comp P (t0.st::rr):=by
    have e2:comp (P++[.arc t0.st v]) (t0.st::rr)=comp P (t0.st::rr):=K9 fun w hwm=>by simp
    rw[← e2]
    simp only[comp,AUt,hvP',AVL,reduceCtorEq,or_false,AU3]
    rfl
   have hne:t0.st≠v:=by rintro e;exact hn2 (e▸hi.2 t0.st (by simp))
   refine ih _ _ _ _ _ (.arc t0.st v) h2 hi1 (by simp) hhd ?_ ?_ hc' hn
   ·rw[key]
    obtain⟨P0,rfl⟩:∃ P0,P=P0++[t0]:=List.getLast?_eq_some_iff.1 hl
    have hT1:T (t0::(comp (P0++[t0]) (t0.st::rr)++P0)):=hT.AH2 ⟨P0,t0::comp (P0++[t0]) (t0.st::rr),by simp,by simp⟩
    have hT2:=T.add t0 _ v hT1 hne (by
     intro hm
     apply hvP
     simp only[AUt,AUw,AWt,or_false]at hm ⊢
     rcases hm with h|h|h<;>simp[h])
    exact hT2.AH2 ⟨t0 :: .arc t0.st v :: .ver v :: .arc v t0.st::comp (P0++[t0]) (t0.st::rr),P0,by simp,by simp⟩
   ·intro x hx
    rw[key]at hx
    simp only[AUt,AUw,AWt,or_false,reduceCtorEq,Tok.ver.injEq,false_or]at hx
    rcases hx with h|h|h
    ·exact AVE _ (hc x (by simp[h]))
    ·simp[h]
    ·exact AVE _ (hc x (by simp[h]))
def At(l:List Tok):Prop:=∃ r l' c,l = .ver r::l'∧run ([r],[r]) l=some ([r],c)∧∀ x∈c,Tok.ver x∈l
theorem At.toT{l:List Tok}(h:At l)(hn:l.Nodup):T l:=by
 obtain⟨r,l',c,rfl,h1,h2⟩:=h
 rw[Ar,Cr,AVR]at h1
 have:=AQw l' [.ver r] [r] [r] c r (.ver r) h1 (KA r) (by simp) (by simp[st]) (by simp[comp];exact T.one r) (by simp[comp]) (by simpa using h2) (by simpa using hn)
 simpa using this
theorem T.Ym{r:Int}{l:List Tok}(h:T (.ver r::l)):At (.ver r::l):=by
 obtain⟨t,ht⟩:∃ t,(Tok.ver r::l).getLast? = some t:=⟨_,AW0 (by simp)⟩
 obtain⟨c,h1,h2⟩:=h.toC _ (Rot.refl _) t ht
 have h1':=h1
 rw[Ar,AVQ]at h1'
 obtain⟨s,g1,_⟩:=h1'
 have e:t.st=r:=by
  simp only[step]at g1
  split at g1
  ·assumption
  ·cases g1
 rw[e]at h1
 exact⟨r,l,c,rfl,h1,fun x hx=>(h2 x).1 hx⟩
end Go.Pev.Pl.Tok
end
section
namespace Go.Pev.Pl.Tok
theorem T.AFh{l:List Tok}(h:T l):∃ v r,Rot l (.ver v::r):=by
 obtain⟨f1,f2,_⟩:=h.facts
 obtain⟨t,ht⟩:=List.exists_mem_of_ne_nil l f1
 obtain⟨a,b,rfl⟩:=AXK (f2 t ht)
 exact⟨t.st,b++a,a,.ver t.st::b,rfl,rfl⟩
theorem T.less{x:Tok}{v:Int}{l:List Tok}(h:T (x :: .arc x.st v :: .ver v :: .arc v x.st::l)):T (x::l):=by
 have hC:=h.toC
 have hn:=h.nodup
 obtain⟨_,f2,f3⟩:=h.facts
 have hne:x.st≠v:=(f3 x.st v (by simp)).2.2.2
 have hvl:Tok.ver v∉l:=by
  intro hm
  simp only[AVN,AUw,not_or]at hn
  exact hn.2.2.1.2 hm
 have hvx:x≠.ver v:=by rintro rfl;exact hne rfl
 have key:∀ p q,l=p++q→∀ t0,(q++x::p).getLast? = some t0→∃ c,run ([t0.st],[t0.st]) (q++x::p)=some ([t0.st],c)∧∀ y,y∈c↔.ver y∈x::l:=by
  intro p q hl t0 ht0
  have hrot:Rot (x :: .arc x.st v :: .ver v :: .arc v x.st::l) (q++x :: .arc x.st v :: .ver v :: .arc v x.st::p):=⟨x :: .arc x.st v :: .ver v :: .arc v x.st::p,q,by simp[hl],rfl⟩
  have ht:∃ t,(q++x::Tok.arc x.st v :: .ver v :: .arc v x.st::p).getLast? = some t∧t.st=t0.st:=by
   cases p with
   |nil=>
    rw[AWN]at ht0
    cases ht0
    exact⟨.arc v x.st,by rw[show q++[x,Tok.arc x.st v,.ver v,.arc v x.st]=(q++[x,Tok.arc x.st v,.ver v])++[Tok.arc v x.st] by simp,AWN],rfl⟩
   |cons y p=>
    refine⟨t0,?_,rfl⟩
    rw[show q++x::Tok.arc x.st v :: .ver v :: .arc v x.st::y::p=(q++[x,Tok.arc x.st v,.ver v,.arc v x.st])++y::p by simp,AWo]
    rw[show q++x::y::p=(q++[x])++y::p by simp,AWo]at ht0
    exact ht0
  obtain⟨t,e0,e1⟩:=ht
  obtain⟨c,h1,h2⟩:=hC _ hrot t e0
  rw[e1,show q++x::Tok.arc x.st v :: .ver v :: .arc v x.st::p=(q++[x])++Tok.arc x.st v :: .ver v :: .arc v x.st::p by simp,Cv,AVQ]at h1
  obtain⟨⟨w1,c1⟩,g1,g2⟩:=h1
  obtain⟨i1,i2,i3⟩:=Gl g1 (KA _)
  have i3':=i3 x (by simp)
  simp only at i3'
  cases w1 with
  |nil=>simp at i3'
  |cons w0 w'=>
   simp at i3'
   subst i3'
   rw[Ar,AVQ]at g2
   obtain⟨s1,k1,k2⟩:=g2
   rcases Bl k1 with⟨v',r,e,_⟩|⟨u',v',r,e,hw,rfl⟩|⟨u',v',r,e,hw,hh,hnc,rfl⟩
   ·cases e
   ·cases e
    simp only[AVF]at hw
    obtain⟨_,rfl⟩:=hw
    exfalso
    rw[Ar,Cr,AVR,Ar,AVQ]at k2
    obtain⟨s2,m1,_⟩:=k2
    have hnd:=i1.1
    rcases Bl m1 with⟨v',r',e,_⟩|⟨u',v',r',e,hw,rfl⟩|⟨u',v',r',e,hw,hh,hnc,rfl⟩
    ·cases e
    ·cases e
     simp only[AVF]at hw
     obtain⟨_,rfl⟩:=hw
     simp at hnd
    ·cases e
     exact hnc (i1.2 _ (by simp))
   ·cases e
    simp only[AVF,AWQ]at hw
    subst hw
    simp only at hnc
    rw[Ar,Cr,AVR,Ar,E3,AVR]at k2
    have hvw:v∉x.st::w':=fun hm=>hnc (i1.2 v hm)
    obtain⟨_,d,m1,m2,m3⟩:=R3 (z:=v) (c:=c1) k2 hvw (fun y=>by simp[or_comm]) hnc
    refine⟨d,?_,fun y => ?_⟩
    ·rw[show q++x::p=(q++[x])++p by simp,Cv,g1,AVR,m1]
    ·have q1:=m2 y
     have q2:=h2 y
     by_cases e:y=v
     ·subst e
      refine⟨fun h=>absurd h m3,fun h => ?_⟩
      rcases AUw.1 h with h|h
      ·exact absurd h.symm hvx
      ·exact absurd h hvl
     ·rw[q2]at q1
      simp only[e,or_false]at q1
      rw[← q1]
      simp[e]
 obtain⟨s,b,a,hsb⟩:∃ s a b,x::l=a ++ .ver s::b:=by
  have:=f2 x (by simp)
  simp only[AUw,reduceCtorEq,false_or,Tok.ver.injEq,hne]at this
  rcases this with h|h
  ·exact⟨x.st,[],l,by rw[← h];rfl⟩
  ·obtain⟨a,b,rfl⟩:=AXK h
   exact⟨x.st,x::a,b,rfl⟩
 have hg:At (.ver s::a++b):=by
  have hr:∃ p q,l=p++q∧q++x::p = .ver s::a++b:=by
   cases b with
   |nil=>
    simp only[AVc,AVF]at hsb
    obtain⟨rfl,rfl⟩:=hsb
    exact⟨l,[],by simp,by simp⟩
   |cons y b=>
    simp only[AVG,AVF]at hsb
    obtain⟨rfl,rfl⟩:=hsb
    exact⟨b,.ver s::a,rfl,by simp⟩
  obtain⟨p,q,hl,e⟩:=hr
  obtain⟨t0,ht0⟩:∃ t0,(q++x::p).getLast? = some t0:=⟨_,AW0 (by simp)⟩
  obtain⟨c,h1,h2⟩:=key p q hl t0 ht0
  rw[e]at h1
  have h1':=h1
  rw[AVG,Ar,AVQ]at h1'
  obtain⟨s',g1,_⟩:=h1'
  have e':t0.st=s:=by
   simp only[step]at g1
   split at g1
   ·assumption
   ·cases g1
  rw[e']at h1
  refine⟨s,a++b,c,rfl,h1,fun y hy => ?_⟩
  have:=(h2 y).1 hy
  rw[hsb]at this
  simp only[AUt,AUw]at this ⊢
  rcases this with h|h|h<;>simp[h]
 have hrot2:Rot (.ver s::a++b) (x::l):=⟨.ver s::a,b,rfl,hsb⟩
 have hnx:(x::l).Nodup:=by
  simp only[AVN,AUw,not_or]at hn ⊢
  exact⟨hn.1.2.2.2,hn.2.2.2.2⟩
 exact(hg.toT (hrot2.nodup.2 hnx)).AH2 hrot2
theorem T.leaf{l:List Tok}(h:T l):(∃ v,l=[.ver v])∨∃ x v r,Rot l (x :: .arc x.st v :: .ver v :: .arc v x.st::r):=by
 induction h with
 |one v=>exact .inl ⟨v,rfl⟩
 |add x l v h hne hv ih=>exact .inr ⟨x,v,l,Rot.refl _⟩
 |rot a b h ih=>
  rcases ih with⟨v,e⟩|⟨x,v,r,hr⟩
  ·have hr:Rot [.ver v] (b++a):=⟨a,b,e.symm,rfl⟩
   exact .inl ⟨v,List.perm_singleton.1 hr.perm.symm⟩
  ·exact .inr ⟨x,v,r,Rot.trans ⟨b,a,rfl,rfl⟩ hr⟩
def Ic:List Tok→List Int
 |[]=>[]
 |.ver v::l=>v::Ic l
 |.arc _ _::l=>Ic l
theorem Lv{v:Int}:∀ {l:List Tok},v∈Ic l↔.ver v∈l
 |[]=>by simp[Ic]
 |.ver w::l=>by simp[Ic,Lv (l:=l)]
 |.arc _ _::l=>by simp[Ic,Lv (l:=l)]
theorem ACD(a b:List Tok):Ic (a++b)=Ic a++Ic b:=by
 induction a with
 |nil=>rfl
 |cons t a ih=>cases t<;>simp[Ic,ih]
theorem T.len{l:List Tok}(h:T l):l.length+2=3*(Ic l).length:=by
 induction h with
 |one v=>rfl
 |add x l v h hne hv ih=>
  cases x<;>simp[Ic]at ih ⊢<;>omega
 |rot a b h ih=>
  simp only[ACD,AU6]at ih ⊢
  omega
end Go.Pev.Pl.Tok
end
section
namespace Go.Pev.Pl
section
variable {β:Type}
def A4(es:List (Int×β)):List Int:=es.map Prod.fst
theorem OP(es:List (Int×β)):(A4 es).length=es.length:=by simp[A4]
theorem Fb(es:List (Int×β))(k:Int)(v:β)(j:Int):AL (Ab es k v) j=if j=k then some v else AL es j:=by
 induction es with
 |nil=>
  simp only[Ab,AL]
  by_cases h:k=j
  ·simp[h]
  ·simp[h,AVW h]
 |cons e es ih=>
  obtain⟨a,b⟩:=e
  simp only[Ab]
  by_cases h:a=k
  ·subst h
   simp only[AVM,AL]
   by_cases h2:a=j
   ·simp[h2]
   ·simp[h2,AVW h2]
  ·simp only[h,AU3,AL,ih]
   by_cases h2:a=j
   ·subst h2;simp[h]
   ·simp[h2]
theorem Kq(es:List (Int×β))(k:Int)(v:β):A4 (Ab es k v)=if k∈A4 es then A4 es else A4 es++[k]:=by
 induction es with
 |nil=>rfl
 |cons e es ih=>
  obtain⟨a,b⟩:=e
  simp only[Ab]
  by_cases h:a=k
  ·subst h;simp[A4]
  ·simp only[h,AU3]
   show a::A4 (Ab es k v)=_
   rw[ih]
   have:k∈A4 ((a,b)::es)↔k∈A4 es:=by simp[A4,AVW h]
   simp only[this]
   split<;>rfl
theorem Pt(es:List (Int×β))(k:Int):AL es k=none↔k∉A4 es:=by
 induction es with
 |nil=>simp[AL,A4]
 |cons e es ih=>
  obtain⟨a,b⟩:=e
  simp only[AL]
  by_cases h:a=k
  ·simp[h,A4]
  ·simp only[h,AU3,ih]
   simp[A4,AVW h]
theorem D4(es:List (Int×β))(k:Int)(v:β)(j:Int):j∈A4 (Ab es k v)↔j=k∨j∈A4 es:=by
 rw[Kq]
 split
 ·rename_i h
  constructor
  ·exact .inr
  ·rintro (rfl|h2)
   ·exact h
   ·exact h2
 ·simp[or_comm]
theorem HS{es:List (Int×β)}(h:(A4 es).Nodup)(k:Int)(v:β):(A4 (Ab es k v)).Nodup:=by
 rw[Kq]
 split
 ·exact h
 ·rename_i hk
  rw[AWn]
  exact⟨h,by simp,fun a ha b hb=>by rintro rfl;simp at hb;exact hk (hb▸ha)⟩
end
def dd:List Int→List Int→List Int
 |ks,[]=>ks
 |ks,x::xs=>dd (if x∈ks then ks else ks++[x]) xs
theorem AUH:∀ (xs ks:List Int),(dd ks xs).length≤ks.length+xs.length∧((dd ks xs).length=ks.length+xs.length↔xs.Nodup∧∀ x∈xs,x∉ks):=by
 intro xs
 induction xs with
 |nil=>intro ks;simp[dd]
 |cons x xs ih=>
  intro ks
  rw[dd]
  by_cases h:x∈ks
  ·obtain⟨h1,_⟩:=ih ks
   rw[AU4 h]
   refine⟨by simp only[AU0];omega,?_,fun hh=>absurd h (hh.2 x (by simp))⟩
   intro e
   simp only[AU0]at e
   omega
  ·obtain⟨h1,h2⟩:=ih (ks++[x])
   rw[AUy h]
   simp only[AU6,AU0,AVU,AVs]at h1 h2 ⊢
   refine⟨by omega,?_⟩
   rw[show ks.length+(xs.length+1)=ks.length+1+xs.length by omega,h2,AVN]
   constructor
   ·rintro⟨g1,g2⟩
    refine⟨⟨fun hx=>g2 x hx (by simp),g1⟩,fun y hy => ?_⟩
    rcases AUw.1 hy with rfl|hy
    ·exact h
    ·exact fun hk=>g2 y hy (by simp[hk])
   ·rintro⟨⟨g1,g2⟩,g3⟩
    refine⟨g2,fun y hy hk => ?_⟩
    simp only[AUt,AVL]at hk
    rcases hk with hk|rfl
    ·exact g3 y (by simp[hy]) hk
    ·exact g1 hy
theorem ARI(xs:List Int):(dd [] xs).length=xs.length↔xs.Nodup:=by
 have:=(AUH xs []).2
 simpa using this
theorem Bu{α β ρ:Type}(g:β→α→α)(fin:α→ρ):∀ (xs:List β) (a:α),walk (fun x a=>.inl (g x a)) fin xs a=fin (xs.foldl (fun a x=>g x a) a):=by
 intro xs
 induction xs with
 |nil=>intro a;rfl
 |cons x xs ih=>intro a;rw[walk,AVo];exact ih _
theorem P2{σ ρ β:Type}{step:σ→Option (σ⊕ρ)}(st:Nat→σ)(xs:List β)(P:β→Bool)(rt:Nat→ρ)(rf:ρ)(hs:xs.length<9223372036854775808)
  (h:∀ i x,i<xs.length→xs[i]? = some x→step (st i)=if P x then some (.inr (rt i))else some (.inl (st (i+1)))) (hN:step (st xs.length)=some (.inr rf)) :
  AZ step many (st 0)=some (if xs.any P then rt (xs.findIdx P)else rf):=by
 have key:∀ (l:List β) (a:Nat),walk (fun x (a:Nat)=>if P x then .inr (rt a)else .inl (a+1)) (fun _=>rf) l a=if l.any P then rt (a+l.findIdx P)else rf:=by
  intro l
  induction l with
  |nil=>intro a;rfl
  |cons x l ih=>
   intro a
   rw[walk,List.any_cons,AW4]
   by_cases hx:P x=true
   ·simp[hx]
   ·simp only[hx,AU5,AU3,Bool.false_or,cond_false]
    rw[ih,show a+1+List.findIdx P l=a+(List.findIdx P l+1) by omega]
 have:=EH (step:=step) (fun i (a:Nat)=>st a) xs (fun x (a:Nat)=>if P x then .inr (rt a)else .inl (a+1)) (fun _=>rf) (fun i a=>a=i) hs
  (fun i x a hi hx ha=>by
   subst ha
   refine⟨fun a' h' => ?_,fun r h' => ?_⟩
   ·rw[h a x hi hx]
    split at h'
    ·cases h'
    ·rename_i hp
     cases h'
     simp[hp]
   ·rw[h a x hi hx]
    split at h'
    ·rename_i hp
     cases h'
     simp[hp]
    ·cases h')
  (fun a ha=>by subst ha;exact hN) 0 rfl
 rw[this,key,AVs]
theorem Az{α:Type}{xs:List α}{n:Nat}{x:α}(h:xs[n]? = some x):idx xs (n:Int)=some x:=by rw[AAu,h]
theorem X2{α:Type}{xs:List α}{n:Nat}{x z:α}(h:xs[n]? = some x):AN xs (AF (n:Int)) z=x:=by
 rw[Oe,AUv,h];rfl
theorem AOw{α:Type}{xs:List α}{h:Nat}(h2:h≤xs.length):HC xs (0:Int) (h:Int)=some (xs.take h):=by
 have:=AGZ (xs:=xs) (l:=0) (AWx h) h2
 simpa using this
theorem ACd{α:Type}{xs:List α}{l:Nat}(h1:l≤xs.length):HC xs (l:Int) (AQ xs)=some (xs.drop l):=by
 have:=AGZ (xs:=xs) h1 (AU1 _)
 rw[AWs]at this
 exact this
def pos(xs:List Int)(t:Int):Int:=if t∈xs then((xs.findIdx (fun x=>decide (x=t)):Nat):Int)else -1
theorem ATP(xs:List Int)(t:Int):(xs.any fun x=>decide (x=t))=decide (t∈xs):=by
 induction xs with
 |nil=>rfl
 |cons x xs ih=>simp only[List.any_cons,ih,AUw,Bool.decide_or];congr 1;exact AW8.2 eq_comm
theorem APQ{xs:List Int}{t:Int}(h:t∈xs):∃ k:Nat,pos xs t=(k:Int)∧k<xs.length∧xs[k]? = some t∧xs=xs.take k++t::xs.drop (k+1)∧t∉xs.take k:=by
 have hk:xs.findIdx (fun x=>decide (x=t))<xs.length:=AWf.2 ⟨t,h,by simp⟩
 have hg:xs[xs.findIdx (fun x=>decide (x=t))]'hk=t:=by
  have:=AXC (xs:=xs) (p:=fun x=>decide (x=t)) (w:=hk)
  simpa using this
 refine⟨_,by rw[pos,AU4 h],hk,by rw[AUx hk,hg],?_,?_⟩
 ·conv=>lhs;rw[← AVx (xs.findIdx (fun x=>decide (x=t))) xs,AVh hk,hg]
 ·intro hm
  obtain⟨j,hj,e⟩:=List.mem_take_iff_getElem.1 hm
  have:=List.not_of_lt_findIdx (p:=fun x=>decide (x=t)) (xs:=xs) (i:=j) (by omega)
  simp[e]at this
theorem AKO{xs:List Int}{t:Int}(h:t∉xs):pos xs t = -1:=by rw[pos,AUy h]
end Go.Pev.Pl
end
section
section
namespace Go.Pev.Pl
open Tok
def In(n v:Int):Prop:=1≤n∧n≤64∧0≤v∧v<n
instance (n v:Int):Decidable (In n v):=inferInstanceAs (Decidable (_∧_))
def Sz(n:Int):Prop:=1≤n∧n≤64
instance (n:Int):Decidable (Sz n):=inferInstanceAs (Decidable (_∧_))
theorem Hm(n:Int):Ie (n,())=some (decide (Sz n),()):=by
 rw[W6,LU]
 simp only[Aw]
 by_cases h1:1≤n<;>by_cases h2:n≤64<;>simp[Sz,h1,h2]
theorem Yu(n v:Int):tin (n,v,())=some (decide (In n v),()):=by
 rw[AOp,AKB]
 simp only[Hm,Aw,An]
 by_cases h1:1≤n<;>by_cases h2:n≤64<;>by_cases h3:0≤v<;>simp[In,Sz,h1,h2,h3]
def AUg(n v:Int):Int:=if In n v then v else -1
def KG(n u v:Int):Int:=if In n u∧In n v∧u≠v then n*(u+1)+v else -1
theorem Hz{n u:Int}(h1:1≤n)(h2:n≤64)(h3:0≤u)(h4:u≤64):0≤n*u∧n*u≤4096:=by
 refine⟨Int.mul_nonneg (by omega) h3,?_⟩
 have:=Int.mul_le_mul h2 h4 h3 (by omega)
 omega
theorem AOt(n u v:Int):ALj (n,u,v,())=some (KG n u v,()):=by
 rw[AKC,Yv]
 simp only[Yu,KG,BS]
 by_cases h3:u=v
 ·simp[h3]
 ·by_cases h1:In n u
  ·by_cases h2:In n v
   ·obtain⟨a1,a2,a3,a4⟩:=h1
    obtain⟨b1,b2,b3,b4⟩:=h2
    have hb:=Hz (u:=u+1) a1 a2 (by omega) (by omega)
    rw[Ah (n:=u+1) (by omega),Ah (n:=n*(u+1)) (by omega),Ah (n:=n*(u+1)+v) (by omega)]
    simp[In,a1,a2,a3,a4,b3,b4,h3]
   ·simp[h1,h2,h3]
  ·simp[h1,h3]
def Dx(n t:Int):Option Tok:=
 if In n t then some (.ver t)
 else if Sz n∧n≤t∧t<n*(n+1)∧t/n-1≠t % n then some (.arc (t/n-1) (t % n))
 else none
def AGR:Option Tok→Int×Int×Bool×Bool×Unit
 |some (.ver v)=>(v,0,false,true,())
 |some (.arc u v)=>(u,v,true,true,())
 |none=>(0,0,false,false,())
def Eh(n:Int):Tok→Int
 |.ver v=>v
 |.arc u v=>n*(u+1)+v
def okT(n:Int):Tok→Prop
 |.ver v=>In n v
 |.arc u v=>In n u∧In n v∧u≠v
theorem RM{n u v:Int}(h1:In n u)(h2:In n v):n≤n*(u+1)+v∧n*(u+1)+v<n*(n+1)∧(n*(u+1)+v)/n=u+1∧(n*(u+1)+v) % n=v:=by
 obtain⟨a1,a2,a3,a4⟩:=h1
 obtain⟨b1,b2,b3,b4⟩:=h2
 have e2:n*(u+1)=n*u+n:=by rw[Int.mul_add,Int.mul_one]
 have e3:n*(n+1)=n*n+n:=by rw[Int.mul_add,Int.mul_one]
 have hb:=Hz (u:=u) a1 a2 (by omega) (by omega)
 have hle:n*(u+1)≤n*n:=Int.mul_le_mul_of_nonneg_left (by omega) (by omega)
 have hd:(n*(u+1)+v)/n=u+1:=by
  rw[Int.add_comm,Int.add_mul_ediv_left _ _ (by omega),Int.ediv_eq_zero_of_lt b3 b4];omega
 have hm:(n*(u+1)+v) % n=v:=by
  rw[Int.add_comm,Int.add_mul_emod_self_left,Int.emod_eq_of_lt b3 b4]
 exact⟨by omega,by omega,hd,hm⟩
theorem ALA{n t:Int}(hn:Sz n)(h1:n≤t)(h2:t<n*(n+1)):In n (t/n-1)∧In n (t % n)∧n*(t/n-1+1)+t % n=t:=by
 obtain⟨a1,a2⟩:=hn
 have g1:1≤t/n:=(Int.le_ediv_iff_mul_le (by omega)).2 (by omega)
 have g2:t/n<n+1:=(Int.ediv_lt_iff_lt_mul (by omega)).2 (by rw[Int.mul_comm];exact h2)
 have g3:=Int.emod_nonneg t (show n≠0 by omega)
 have g4:=Int.emod_lt_of_pos t (show 0<n by omega)
 have g5:=Int.mul_ediv_add_emod t n
 refine⟨⟨a1,a2,by omega,by omega⟩,⟨a1,a2,g3,g4⟩,?_⟩
 rw[Int.sub_add_cancel]
 exact g5
theorem EK{n:Int}{t:Tok}(h:okT n t):Dx n (Eh n t)=some t:=by
 cases t with
 |ver v=>simp only[okT]at h;simp[Dx,Eh,h]
 |arc u v=>
  obtain⟨h1,h2,h3⟩:=h
  obtain⟨g1,g2,g3,g4⟩:=RM h1 h2
  have hni:¬ In n (n*(u+1)+v):=fun h=>by have:=h.2.2.2;omega
  have:u+1-1=u:=by omega
  simp only[Dx,Eh,hni,AU3,g3,g4,this]
  rw[AU4 ⟨⟨h1.1,h1.2.1⟩,g1,g2,h3⟩]
theorem ANq{n x:Int}{t:Tok}(h:Dx n x=some t):okT n t∧Eh n t=x:=by
 rw[Dx]at h
 split at h
 ·cases h;exact⟨by assumption,rfl⟩
 ·split at h
  ·rename_i hh
   cases h
   obtain⟨d1,d2,d3⟩:=ALA hh.1 hh.2.1 hh.2.2.1
   exact⟨⟨d1,d2,hh.2.2.2⟩,d3⟩
  ·cases h
theorem Gc{n u v:Int}(h:okT n (.arc u v)):KG n u v=Eh n (.arc u v):=by
 simp only[okT]at h
 rw[KG,AU4 h];rfl
theorem MX{n:Int}{a b:Tok}(ha:okT n a)(hb:okT n b)(h:Eh n a=Eh n b):a=b:=by
 have:=EK ha
 rw[h,EK hb]at this
 exact(AV2 this).symm
theorem AGJ(n t:Int)(ht:-9223372036854775808≤t∧t≤9223372036854775807):Rg (n,t,())=some (AGR (Dx n t)):=by
 rw[W5,LS]
 simp only[Hm]
 by_cases hs:Sz n
 ·obtain⟨a1,a2⟩:=hs
  have hb:=Hz (u:=n) a1 a2 (by omega) (by omega)
  have e3:n*(n+1)=n*n+n:=by rw[Int.mul_add,Int.mul_one]
  rw[Ah (n:=n+1) (by omega),Ah (n:=n*(n+1)) (by omega)]
  simp only[Sz,a1,a2,and_self,AU2,AU7,An,Aw]
  by_cases h1:t<0
  ·have hni:¬ In n t:=fun h=>by have:=h.2.2.1;omega
   have h2:¬ n≤t:=by omega
   simp only[h1,AU2,Dx,hni,AU3,h2,AWT,and_false,AGR]
  ·simp only[h1,AVA]
   by_cases h2:n*(n+1)≤t
   ·have hni:¬ In n t:=fun h=>by have:=h.2.2.2;omega
    have h3:¬ t<n*(n+1):=by omega
    simp only[h2,AU2,Dx,hni,AU3,h3,AWT,and_false,AGR]
   ·simp only[h2,AVA]
    by_cases h3:t<n
    ·have hi:In n t:=⟨a1,a2,by omega,h3⟩
     simp only[h3,AU2,Dx,hi,AVM,AGR]
    ·have hni:¬ In n t:=fun h=>h3 h.2.2.2
     have hq:t.tdiv n=t/n:=AWj (by omega)
     have hm:t.tmod n=t % n:=Int.tmod_eq_emod_of_nonneg (by omega)
     obtain⟨d1,d2,d3⟩:=ALA (t:=t) ⟨a1,a2⟩ (by omega) (by omega)
     have q1:=d1.2.2.1
     have q2:=d1.2.2.2
     simp only[h3,AVA,SQ,WC,APK,AG9]
     rw[AUy (by omega),AUy (by omega),hq,hm,Ah (n:=t/n) (by omega)]
     simp only[]
     rw[Ah (n:=t/n-1) (by omega),BS,Dx,AUy hni]
     by_cases h4:t/n-1=t % n
     ·rw[AUy (by intro h;exact h.2.2.2 h4),AUr h4];rfl
     ·rw[AU4 ⟨⟨a1,a2⟩,by omega,by omega,h4⟩,AUp h4];rfl
 ·have hni:¬ In n t:=fun h=>hs ⟨h.1,h.2.1⟩
  simp only[hs,AVA,AVg,Dx,hni,AU3,AWT,AGR]
def Bs(n:Nat):List (List Int):=(List.range n).map fun(v:Nat)=>[(v:Int)]
theorem Y2(n:Nat):Bs (n+1)=Bs n++[[(n:Int)]]:=by simp[Bs,AV9]
theorem ACj(n:Nat):(Bs n).length=n:=by simp[Bs]
theorem AGT(N:Nat)(hN:N≤64)(c:Int):∀ (k i n:Nat),i+k=N→k<n→AT F8 n (c,(N:Int),Bs i,(N:Int),(i:Int),())=some (.inl (c,(N:Int),Bs N,())):=by
 intro k
 induction k with
 |zero=>
  intro i n hi hn
  obtain⟨n,rfl⟩:∃ k,n=k+1:=⟨n-1,by omega⟩
  have:i=N:=by omega
  subst this
  rw[AT,F8,AR,AUp (by omega)]
 |succ k ih=>
  intro i n hi hn
  obtain⟨n,rfl⟩:∃ k,n=k+1:=⟨n-1,by omega⟩
  rw[AT,F8,AR,AUr (by omega)]
  simp only[AY,ACj,AU0,AVU]
  rw[DO (by omega),AK (by omega)]
  simp only[Og,← Y2]
  exact ih (i+1) n (by omega) (by omega)
def RB(n:Int):Int×List (List Int)×Int×Unit:=if Sz n then(n,Bs n.toNat,0,())else(0,[],1,())
theorem ALf(n:Int):ACb (n,())=some (RB n):=by
 have hm:4294967296<many:=by simp only[many];omega
 rw[ACa,Qv,RB]
 simp only[Hm]
 by_cases h:Sz n
 ·obtain⟨h1,h2⟩:=h
  obtain⟨N,rfl⟩:=AUz (show 0≤n by omega)
  have hS:Sz (N:Int):=⟨by omega,by omega⟩
  have e:=AGT N (by omega) 0 N 0 many (by omega) (by omega)
  have e':AT F8 many (0,(N:Int),[],(N:Int),(0:Int),())=_:=e
  simp[hS,Ak,e']
 ·simp[h]
end Go.Pev.Pl
end
section
namespace Go.Pev.Pl
theorem Ku(xs:List Int)(t:Int)(hs:xs.length<9223372036854775808):Kv (xs,t,())=some (pos xs t,()):=by
 rw[Xs,ME]
 have e:=P2 (step:=EV) (fun i=>(xs,t,AQ xs,(i:Int),())) xs (fun x=>decide (x=t)) (fun i=>.inl ((i:Int),())) (.inr (.inl ())) hs
  (fun i x hi hx=>by
   rw[EV,AY,AR,AUr hi]
   simp only[Az hx,BS]
   by_cases h:x=t
   ·simp[h]
   ·simp only[h,AVW h,AVA];rw[AK (by omega)];simp)
  (by rw[EV,AY,AR,AUp (by omega)])
 have e':AZ EV many (xs,t,AQ xs,(0:Int),())=_:=e
 rw[e',ATP,pos]
 by_cases h:t∈xs<;>simp[h]
theorem HK(xs:List Int)(t:Int)(hs:xs.length<9223372036854775808):Ej (xs,t,())=some (decide (t∈xs),()):=by
 rw[Mb,G2]
 simp only[Ku xs t hs,Aw]
 by_cases h:t∈xs
 ·obtain⟨k,e,_⟩:=APQ h
  rw[e];simp[h]
 ·rw[AKO h];simp[h]
def Rt(xs:List Int):Prop:=xs.length≤1000∧(∀ x∈xs,0≤x∧x≤10000)∧xs.Nodup
instance (xs:List Int):Decidable (Rt xs):=inferInstanceAs (Decidable (_∧_∧_))
theorem AFg(xs:List Int)(hs:xs.length<9223372036854775808):DS (xs,())=some (xs.any (fun x=>decide (x<0)||decide (10000<x)),()):=by
 rw[Hc,DY,IX,D8]
 have e:=P2 (step:=Bn) (fun i=>(xs,AQ xs,(i:Int),())) xs (fun x=>decide (x<0)||decide (10000<x)) (fun i=>.inl ((i:Int),())) (.inr (.inl ())) hs
  (fun i x hi hx=>by
   rw[Bn,AY,AR,AUr hi]
   simp only[Az hx,An]
   rw[AK (by omega)]
   by_cases h:x<0
   ·simp[h]
   ·by_cases h2:10000<x
    ·simp[h,h2]
    ·simp[h,h2])
  (by rw[Bn,AY,AR,AUp (by omega)])
 have e':AZ Bn many (xs,AQ xs,(0:Int),())=_:=e
 rw[e']
 generalize (xs.any fun x=>decide (x<0)||decide (10000<x))=b
 cases b<;>simp[Aw]
theorem AQA(xs:List Int)(hs:xs.length<9223372036854775808):once (xs,())=some (decide xs.Nodup,()):=by
 rw[AKb,Zy]
 have e:=EH (step:=Hw) (fun i m=>(xs,m,xs,AQ xs,(i:Int),())) xs (fun x m=>.inl (Ab m x (IntKind.wrap .i64 (((AL m x).getD (0:Int))+(1:Int))))) (fun m=>.inl (xs,m,())) (fun _ _=>True) hs
  (fun i x m hi hx _=>by
   refine⟨fun m' h' => ?_,fun r h'=>by cases h'⟩
   cases h'
   rw[Hw,AY,AR,AUr hi]
   simp only[Az hx]
   rw[AK (by omega)]
   exact⟨rfl,trivial⟩)
  (fun m _=>by rw[Hw,AY,AR,AUp (by omega)]) [] trivial
 have e':AZ Hw many (xs,([]:List (Int×Int)),xs,AQ xs,(0:Int),())=_:=e
 rw[e',Bu]
 have key:∀ (l:List Int) (m:List (Int×Int)),A4 (l.foldl (fun m x=>Ab m x (IntKind.wrap .i64 (((AL m x).getD (0:Int))+(1:Int)))) m)=dd (A4 m) l:=by
  intro l
  induction l with
  |nil=>intro m;rfl
  |cons x l ih=>intro m;rw[AVo,ih,Kq,dd]
 have hk:=key xs []
 generalize xs.foldl (fun m x=>Ab m x (IntKind.wrap .i64 (((AL m x).getD (0:Int))+(1:Int)))) []=m at *
 simp only[AQh]
 have:m.length=(dd [] xs).length:=by rw[← OP,hk];rfl
 rw[this]
 simp only[ARI]
theorem KW(xs:List Int):KX (xs,())=some (decide (Rt xs),()):=by
 rw[XL,LY,AY,An]
 by_cases hl:xs.length≤1000
 ·rw[AUp (by omega)]
  simp only[AFg xs (by omega),AQA xs (by omega)]
  have hany:(xs.any fun x=>decide (x<0)||decide (10000<x)) = !decide (∀ x∈xs,0≤x∧x≤10000):=by
   rw[AWg]
   simp only[AWC,AV8,AUs,AWO,AVk]
   constructor
   ·rintro⟨x,hx,h⟩ hh
    have:=hh x hx
    omega
   ·intro h
    refine AVn fun hc=>h fun x hx => ?_
    refine AVn fun hn=>hc ⟨x,hx,by omega⟩
  rw[hany]
  by_cases h1:∀ x∈xs,0≤x∧x≤10000
  ·rw[AUr h1]
   by_cases h2:xs.Nodup
   ·rw[AUr h2,AUr (show Rt xs from⟨hl,h1,h2⟩)];rfl
   ·rw[AUp h2,AUp (show ¬ Rt xs from fun h=>h2 h.2.2)];rfl
  ·rw[AUp h1,AUp (show ¬ Rt xs from fun h=>h1 h.2.1)];rfl
 ·rw[AUr (by omega),AUp (show ¬ Rt xs from fun h=>hl h.1)]
def rot(xs:List Int)(k:Nat):List Int:=xs.drop k++xs.take k
theorem ANY(n:Nat)(hn:n<4294967296):AFI ((n:Int),())=some ([],()):=by
 have e0:IntKind.wrap .i64 ((n:Int)-IntKind.wrap .i64 ((0:Int)-0))=(n:Int):=by rw[Ah (n:=(0:Int)-0) (by omega),Ah (by omega)];omega
 rw[AFH,RK]
 simp only[e0,An]
 rw[AUp (by omega)]
 simp only[]
 by_cases h:0<n
 ·rw[AUr (by omega)]
  have s1:HC ([]:List Unit) (0:Int) (0:Int)=some []:=by rw[Qx];rfl
  have s2:HC (AFc (AF (n:Int)) (0:Int)) (0:Int) (0:Int)=some []:=by
   rw[Qx,PN,AU4 (by omega)]
   simp
  have s3:UL (n:Int)=true:=(Oa _).2 (by omega)
  simp only[s1,s2,s3]
  rfl
 ·rw[AUp (by omega)]
theorem G0{α:Type}{xss:List (List α)}{i:Nat}{x:List α}(h:xss[i]? = some x):(xss.take (i+1)).flatten=(xss.take i).flatten++x:=by
 rw[List.take_add_one,h];simp
theorem IY{α:Type}(xss:List (List α))(i:Nat):(xss.take i).flatten.length≤xss.flatten.length:=by
 conv=>rhs;rw[← AVx i xss,List.flatten_append,AU6]
 omega
theorem QA(xss:List (List Int))(hs:xss.length<4294967296)(h:xss.flatten.length<4294967296):IB (xss,())=some (xss.flatten,()):=by
 rw[VG,J3]
 have e:=EH (step:=Dg) (fun i (a:Nat)=>(xss,(a:Int),xss,AQ xss,(i:Int),())) xss (fun x a=>.inl (a+x.length)) (fun a=>.inl (xss,(a:Int),())) (fun i a=>a=(xss.take i).flatten.length) (by omega)
  (fun i x a hi hx ha=>by
   refine⟨fun m' h' => ?_,fun r h'=>by cases h'⟩
   cases h'
   have h1:=G0 hx
   have h2:=IY xss (i+1)
   rw[h1,AU6]at h2
   rw[Dg]
   simp only[AY]
   rw[AR,AUr hi]
   simp only[Az hx]
   rw[wrap_add (by omega),AK (by omega),An,AUp (by omega)]
   exact⟨rfl,by rw[h1,AU6,ha]⟩)
  (fun a _=>by rw[Dg,AY,AR,AUp (by omega)]) 0 rfl
 have e':AZ Dg many (xss,(0:Int),xss,AQ xss,(0:Int),())=_:=e
 rw[e',Bu]
 have hsum:∀ (l:List (List Int)) (a:Nat),l.foldl (fun a x=>a+x.length) a=a+l.flatten.length:=by
  intro l
  induction l with
  |nil=>intro a;rfl
  |cons x l ih=>intro a;rw[AVo,ih,AW2,AU6];omega
 rw[hsum,AVs]
 simp only[ANY _ h]
 have g:=EH (step:=Df) (fun i (a:List Int)=>(a,xss,AQ xss,(i:Int),())) xss (fun x a=>.inl (a++x)) (fun a=>.inl (a,())) (fun i a=>a=(xss.take i).flatten) (by omega)
  (fun i x a hi hx ha=>by
   refine⟨fun m' h' => ?_,fun r h'=>by cases h'⟩
   cases h'
   have h1:=G0 hx
   have h2:=IY xss (i+1)
   rw[h1,AU6]at h2
   rw[Df]
   simp only[AY]
   rw[AR,AUr hi]
   simp only[Az hx]
   rw[AK (by omega),DO (by rw[ha];omega)]
   exact⟨rfl,by rw[h1,ha]⟩)
  (fun a _=>by rw[Df,AY,AR,AUp (by omega)]) [] rfl
 have g':AZ Df many ([],xss,AQ xss,(0:Int),())=_:=g
 rw[g',Bu]
 have hcat:∀ (l:List (List Int)) (a:List Int),l.foldl (fun a x=>a++x) a=a++l.flatten:=by
  intro l
  induction l with
  |nil=>intro a;simp
  |cons x l ih=>intro a;rw[AVo,ih,AW2,AV4]
 rw[hcat]
 rfl
theorem RZ(xs:List Int)(k:Nat)(hk:k≤xs.length)(hs:xs.length<2147483648):NT (xs,(k:Int),())=some (rot xs k,()):=by
 rw[W4,LR]
 simp only[ACd hk,AOw hk]
 rw[QA _ (by simp) (by simp;omega)]
 simp[rot]
def Bo(xs:List Int)(t:Int):List Int:=rot xs (xs.findIdx (fun x=>decide (x=t)))
def AA9(xs:List Int)(t:Int):List Int×Bool×Unit:=if Rt xs∧t∈xs then(Bo xs t,true,())else([],false,())
theorem SD{xs:List Int}{t:Int}(h:t∈xs):∃ a b,xs=a++t::b∧t∉a∧Bo xs t=t::b++a:=by
 obtain⟨k,e,hk,hg,h1,h2⟩:=APQ h
 rw[pos,AU4 h]at e
 have e':xs.findIdx (fun x=>decide (x=t))=k:=by omega
 refine⟨_,_,h1,h2,?_⟩
 rw[Bo,e',rot]
 congr 1
 rw[AVh hk]
 congr 1
 simpa [hk]using hg
theorem ALz(xs:List Int)(t:Int):XN (xs,t,())=some (AA9 xs t):=by
 rw[AC8,Q3,XV,Ld,AA9]
 simp only[KW]
 by_cases hr:Rt xs
 ·have hl:=hr.1
  simp only[hr,AU2,AU7,AWQ]
  have e:AZ Dn many (xs,[],[t],AQ [t],(0:Int),())=some (.inl ([pos xs t],())):=by
   have g:=EH (step:=Dn) (fun i (a:List Int)=>(xs,a,[t],AQ [t],(i:Int),())) [t] (fun x a=>.inl (a++[pos xs x])) (fun a=>.inl (a,())) (fun i a=>a.length=i) (by simp)
    (fun i x a hi hx ha=>by
     refine⟨fun m' h' => ?_,fun r h'=>by cases h'⟩
     cases h'
     rw[Dn,AY,AR,AUr hi]
     simp only[Az hx,Ku xs x (by omega)]
     simp only[AU0,AVU]at hi
     rw[AK (by omega),DO (by simp only[AY,AU0,AVU];omega)]
     exact⟨rfl,by simp[ha]⟩)
    (fun a _=>by rw[Dn,AY,AR,AUp (by omega)]) [] rfl
   have g':AZ Dn many (xs,[],[t],AQ [t],(0:Int),())=_:=g
   rw[g'];rfl
  rw[e]
  simp only[HK [pos xs t] (-1) (by simp)]
  by_cases h:t∈xs
  ·have hk:xs.findIdx (fun x=>decide (x=t))<xs.length:=AWf.2 ⟨t,h,by simp⟩
   rw[pos,AU4 h,AU4 h,Bo]
   generalize xs.findIdx (fun x=>decide (x=t))=k at *
   rw[AUp (by simp)]
   have i0:idx [(k:Int)] (0:Int)=some (k:Int):=by rw[MH];rfl
   have d0:AN [(k:Int)] 0 (0:Int)=(k:Int):=rfl
   simp only[AVg,AU7,i0,d0,RZ xs k (by omega) (by omega)]
  ·rw[AKO h,AUy h]
   simp
 ·simp[hr]
def Gj:List Int→Int
 |[]=>0
 |x::xs=>xs.foldl (fun a y=>EW a y) x
theorem AJB:∀ (xs:List Int) (a:Int),(xs.foldl (fun a y=>EW a y) a)≤a∧(∀ x∈xs,xs.foldl (fun a y=>EW a y) a≤x)∧(xs.foldl (fun a y=>EW a y) a=a∨xs.foldl (fun a y=>EW a y) a∈xs):=by
 intro xs
 induction xs with
 |nil=>intro a;simp
 |cons x xs ih=>
  intro a
  rw[AVo]
  obtain⟨h1,h2,h3⟩:=ih (EW a x)
  have hm:EW a x≤a∧EW a x≤x∧(EW a x=a∨EW a x=x):=by
   rw[EW];split<;>omega
  refine⟨by omega,fun y hy => ?_,?_⟩
  ·rcases AUw.1 hy with rfl|hy
   ·omega
   ·exact h2 y hy
  ·rcases h3 with h|h
   ·rcases hm.2.2 with e|e
    ·exact .inl (by rw[h,e])
    ·exact .inr (by rw[h,e];simp)
   ·exact .inr (AVE _ h)
theorem ET{xs:List Int}(h:xs≠[]):Gj xs∈xs∧∀ x∈xs,Gj xs≤x:=by
 cases xs with
 |nil=>exact absurd rfl h
 |cons x xs=>
  obtain⟨h1,h2,h3⟩:=AJB xs x
  refine⟨?_,fun y hy => ?_⟩
  ·rcases h3 with h|h
   ·rw[Gj,h];simp
   ·exact AVE _ h
  ·rcases AUw.1 hy with rfl|hy
   ·exact h1
   ·exact h2 y hy
theorem ASU{xs:List Int}{m:Int}(h1:m∈xs)(h2:∀ x∈xs,m≤x):Gj xs=m:=by
 obtain⟨g1,g2⟩:=ET (List.ne_nil_of_mem h1)
 have:=g2 m h1
 have:=h2 _ g1
 omega
theorem AET(xs:List Int)(h:xs≠[])(hs:xs.length<9223372036854775808):AMf (xs,())=some (Gj xs,()):=by
 cases xs with
 |nil=>exact absurd rfl h
 |cons x xs=>
  rw[AKi,Z5,AY,An,AUp (by simp only[AU0];omega)]
  have i0:idx (x::xs) (0:Int)=some x:=by rw[MH];rfl
  simp only[i0]
  simp only[AU0]at hs
  have e:=EH (step:=H0) (fun i (a:Int)=>(x::xs,a,((i+1:Nat):Int),())) xs (fun y a=>.inl (EW a y)) (fun a=>.inl (a,())) (fun _ _=>True) (by omega)
   (fun i y a hi hy _=>by
    refine⟨fun m' h' => ?_,fun r h'=>by cases h'⟩
    cases h'
    rw[H0,AY,AR,AUr (by simp only[AU0];omega)]
    simp only[Az (xs:=x::xs) (n:=i+1) (by simpa using hy)]
    rw[AK (by omega)]
    exact⟨rfl,trivial⟩)
   (fun a _=>by rw[H0,AY,AR,AUp (by simp)]) x trivial
  have e':AZ H0 many (x::xs,x,(1:Int),())=_:=e
  rw[e',Bu]
  rfl
def plain(xs:List Int):List Int:=if Rt xs∧xs≠[]then Bo xs (Gj xs)else []
theorem AGr(xs:List Int):SA (xs,())=some (plain xs,()):=by
 rw[XM,LZ,plain]
 simp only[KW]
 by_cases hr:Rt xs
 ·have hl:=hr.1
  simp only[hr,AU2,AU7,AWQ]
  by_cases h:xs=[]
  ·subst h;simp[AY,EX]
  ·have hp:0<xs.length:=List.length_pos_iff.2 h
   rw[AY,BS,AUp (by omega)]
   have hm:=(ET h).1
   have hk:xs.findIdx (fun x=>decide (x=Gj xs))<xs.length:=AWf.2 ⟨_,hm,by simp⟩
   simp only[AET xs h (by omega),Ku xs _ (show xs.length<9223372036854775808 by omega)]
   rw[pos,AU4 hm,AU4 (by simpa using h),Bo]
   simp only[RZ xs _ (Nat.le_of_lt hk) (by omega)]
 ·simp[hr]
theorem Iq{xs:List Int}(hr:Rt xs)(h:xs≠[]):∃ a b,xs=a++Gj xs::b∧plain xs=Gj xs::b++a:=by
 obtain⟨a,b,h1,_,h2⟩:=SD (ET h).1
 exact⟨a,b,h1,by rw[plain,AU4 ⟨hr,h⟩,h2]⟩
end Go.Pev.Pl
end
section
namespace Go.Pev.Pl
open Tok
def TI(n:Int)(xs:List Int):Prop:=∃ L,xs=L.map (Eh n)∧(∀ t∈L,okT n t)∧T L
noncomputable instance (n:Int) (xs:List Int):Decidable (TI n xs):=Classical.propDecidable _
abbrev AJx:=List Int×List (Int×Int)×List (Int×Int)
abbrev ATh:=(Bool×Unit)⊕(List Int×List (Int×Int)×List (Int×Int)×Unit)⊕Unit
def goF(n x:Int)(s:AJx):AJx⊕ATh:=
 match Dx n x with
 |none=>.inr (.inl (false,()))
 |some t=>match Tok.step (s.1,A4 s.2.1) t with
  |none=>.inr (.inl (false,()))
  |some s'=>match t with
   |.ver v=>.inl (s'.1,s.2.1,Ab s.2.2 v (IntKind.wrap .i64 (((AL s.2.2 v).getD (0:Int))+(1:Int))))
   |.arc _ v=>.inl (s'.1,if v∈A4 s.2.1 then s.2.1 else Ab s.2.1 v 1,s.2.2)
def one(came:List (Int×Int)):Prop:=∀ k,(0<(AL came k).getD (0:Int))↔k∈A4 came
theorem AMV{came:List (Int×Int)}(h:one came)(v:Int):one (Ab came v 1):=by
 intro k
 rw[Fb,D4]
 by_cases e:k=v
 ·simp[e]
 ·simp only[e,AU3,false_or];exact h k
theorem ANd(n:Int)(xs:List Int)(i:Nat)(x:Int)(hx:xs[i]? = some x)(hi:i<xs.length)(hl:xs.length<4294967296)(hxr:-9223372036854775808≤x∧x≤9223372036854775807)
  (w:Int) (r:List Int) (came met:List (Int×Int)) (hr:r.length<4294967295) (hc:one came) (hsub:∀ y∈w::r,y∈A4 came) :
  Gz (n,(w::r).reverse,came,met,xs,AQ xs,(i:Int),())=match goF n x (w::r,came,met)with
   |.inl s=>some (.inl (n,s.1.reverse,s.2.1,s.2.2,xs,AQ xs,((i+1:Nat):Int),()))
   |.inr y=>some (.inr y):=by
 have hd:AQ ((w::r).reverse)=((r.length+1:Nat):Int):=by simp[AY]
 have e1:IntKind.wrap .i64 (((r.length+1:Nat):Int)-1)=(r.length:Int):=by rw[Af (by omega)];rfl
 have i1:idx ((w::r).reverse) (r.length:Int)=some w:=by rw[AAu];simp
 have g1:AN ((w::r).reverse) (AF (r.length:Int)) (0:Int)=w:=by rw[Oe];simp
 have f1:∀ v:Int,fits (AQ ((w::r).reverse)+AQ [v])=true:=fun v=>DO (by rw[hd,AY];simp only[AU0,AVU];omega)
 have ap:∀ v:Int,Bt ((w::r).reverse) [v]=(v::w::r).reverse:=fun v=>by simp[Og]
 rw[Gz,AY,AR,AUr hi]
 rw[AY]at hd
 simp only[Az hx,AGJ n x hxr,goF]
 cases ht:Dx n x with
 |none=>rfl
 |some t=>
  cases t with
  |ver v=>
   simp only[AGR,AU7,AVg,AY,hd,e1,i1,g1,BS,Tok.step]
   rw[AK (by omega)]
   by_cases h:w=v
   ·simp[h]
   ·simp[h]
  |arc u v=>
   simp only[AGR,AU7,AY,hd,e1,i1,g1,BS,Tok.step]
   rw[AK (by omega)]
   by_cases h:w=u
   ·subst h
    rw[AUr rfl]
    simp only[AU7]
    cases r with
    |nil=>
     have z:ilt (0:Int) ((([]:List Int).length:Nat):Int)=false:=by rw[An];rfl
     simp only[z]
     rw[An]
     have hcv:=hc v
     by_cases hv:v∈A4 came
     ·rw[AUr (hcv.2 hv)]
      simp[hv]
     ·rw[AUp (fun h=>hv (hcv.1 h))]
      have f2:=f1 v
      rw[AY,hd]at f2
      have hz:(AL came v).getD (0:Int)=0:=by rw[(Pt came v).2 hv];rfl
      have w1:IntKind.wrap .i64 ((0:Int)+1)=1:=by rw[Ah (by omega)];rfl
      rw[AY]at f2
      simp only[f2,ap v,hz,w1,hv,AU3,AVM]
    |cons p r=>
     have z:ilt (0:Int) (((p::r).length:Nat):Int)=true:=by rw[An,AUr (by simp only[AU0];omega)]
     have e2:IntKind.wrap .i64 ((((p::r).length:Nat):Int)-1)=(r.length:Int):=by
      rw[Af (by simp only[AU0]at hr ⊢;omega)];rfl
     have i2:idx ((w::p::r).reverse) (r.length:Int)=some p:=by rw[AAu];simp
     have g2:AN ((w::p::r).reverse) (AF (r.length:Int)) (0:Int)=p:=by rw[Oe];simp
     simp only[z,e2,i2,g2]
     by_cases hp:p=v
     ·subst hp
      rw[AUr rfl]
      have hmem:p∈A4 came:=hsub p (by simp)
      have s1:HC ((w::p::r).reverse) (0:Int) (((p::r).length:Nat):Int)=some ((p::r).reverse):=by
       rw[AOw (by simp)]
       rw[List.reverse_cons,List.take_left' (by simp)]
      have t1:DR (AF (((p::r).reverse.length:Nat):Int)) ((w::p::r).reverse)=(p::r).reverse:=by
       rw[DR,ARH,List.reverse_cons (a:=w),List.take_left' rfl]
      simp only[s1,t1,hmem,AVM]
     ·rw[AUp hp]
      simp only[hp,AU3]
      rw[An]
      have hcv:=hc v
      by_cases hv:v∈A4 came
      ·rw[AUr (hcv.2 hv)]
       simp[hv]
      ·rw[AUp (fun h=>hv (hcv.1 h))]
       have f2:=f1 v
       rw[AY,hd]at f2
       have hz:(AL came v).getD (0:Int)=0:=by rw[(Pt came v).2 hv];rfl
       have w1:IntKind.wrap .i64 ((0:Int)+1)=1:=by rw[Ah (by omega)];rfl
       rw[AY]at f2
       simp only[f2,ap v,hz,w1,hv,AU3,AVM]
   ·rw[AUp h]
    simp[h]
end Go.Pev.Pl
end
section
namespace Go.Pev.Pl
open Tok
theorem Ey{a b:List Int}(ha:a.Nodup)(h:∀ x∈a,x∈b):a.length≤b.length:=by
 induction a generalizing b with
 |nil=>simp
 |cons x a ih=>
  obtain⟨b1,b2,rfl⟩:=AXK (h x (by simp))
  rw[AVN]at ha
  have:=ih (b:=b1++b2) ha.2 fun y hy=>by
   have:=h y (AVE _ hy)
   simp only[AUt,AUw]at this ⊢
   rcases this with h|rfl|h
   ·exact .inl h
   ·exact absurd hy ha.1
   ·exact .inr h
  simp only[AU6,AU0]at this ⊢
  omega
theorem Z2{a b:List Int}(ha:a.Nodup)(h:∀ x∈a,x∈b)(hl:b.length≤a.length):∀ x∈b,x∈a:=by
 intro x hx
 refine AVn fun hn => ?_
 have:=Ey (a:=x::a) (b:=b) (AVN.2 ⟨hn,ha⟩) fun y hy=>by
  rcases AUw.1 hy with rfl|hy
  ·exact hx
  ·exact h y hy
 simp only[AU0]at this
 omega
theorem R0{way c c2:List Int}(h:∀ x,x∈c↔x∈c2)(t:Tok):
  (Tok.step (way,c) t=none↔Tok.step (way,c2) t=none)∧∀ w1 c1,Tok.step (way,c) t=some (w1,c1)→∃ c1',Tok.step (way,c2) t=some (w1,c1')∧∀ x,x∈c1↔x∈c1':=by
 cases t with
 |ver v=>
  cases way with
  |nil=>simp[Tok.step]
  |cons w r=>
   by_cases e:w=v
   ·simp only[Tok.step,e,AVM]
    exact⟨by simp,fun w1 c1 hh=>by cases hh;exact⟨c2,rfl,h⟩⟩
   ·simp[Tok.step,e]
 |arc u v=>
  cases way with
  |nil=>simp[Tok.step]
  |cons w r=>
   by_cases e:w=u
   ·cases r with
    |nil=>
     by_cases hv:v∈c
     ·simp[Tok.step,e,hv,(h v).1 hv]
     ·have hv2:v∉c2:=fun q=>hv ((h v).2 q)
      simp only[Tok.step,e,AVM,hv,hv2,AU3]
      exact⟨by simp,fun w1 c1 hh=>by cases hh;exact⟨v::c2,rfl,fun x=>by simp[h]⟩⟩
    |cons p r=>
     by_cases e2:p=v
     ·simp only[Tok.step,e,AVM,e2]
      exact⟨by simp,fun w1 c1 hh=>by cases hh;exact⟨c2,rfl,h⟩⟩
     ·by_cases hv:v∈c
      ·simp[Tok.step,e,e2,hv,(h v).1 hv]
      ·have hv2:v∉c2:=fun q=>hv ((h v).2 q)
       simp only[Tok.step,e,AVM,e2,hv,hv2,AU3]
       exact⟨by simp,fun w1 c1 hh=>by cases hh;exact⟨v::c2,rfl,fun x=>by simp[h]⟩⟩
   ·simp[Tok.step,e]
structure GI(s:AJx):Prop where
 ne:s.1≠[]
 one:one s.2.1
 sub:∀ y∈s.1,y∈A4 s.2.1
 nc:(A4 s.2.1).Nodup
 nm:(A4 s.2.2).Nodup
theorem AK2{n x:Int}{s s':AJx}(hi:GI s)(h:goF n x s = .inl s'):
  GI s'∧s'.1.length≤s.1.length+1∧∃ t c1,Dx n x=some t∧Tok.step (s.1,A4 s.2.1) t=some (s'.1,c1)∧(∀ x,x∈c1↔x∈A4 s'.2.1)∧(∀ y,y∈A4 s'.2.2↔y∈A4 s.2.2∨Tok.ver y=t):=by
 rw[goF]at h
 cases ht:Dx n x with
 |none=>rw[ht]at h;cases h
 |some t=>
  rw[ht]at h
  simp only at h
  cases hs:Tok.step (s.1,A4 s.2.1) t with
  |none=>rw[hs]at h;cases h
  |some q=>
   obtain⟨w1,c1⟩:=q
   rw[hs]at h
   rcases Bl hs with⟨v,r,rfl,hw,e⟩|⟨u,v,r,rfl,hw,e⟩|⟨u,v,r,rfl,hw,hh,hn,e⟩
   ·cases h
    cases e
    refine⟨⟨hi.ne,hi.one,hi.sub,hi.nc,HS hi.nm _ _⟩,by simp,_,_,rfl,hs,fun x=>Iff.rfl,fun y => ?_⟩
    rw[D4]
    simp[or_comm]
   ·cases h
    cases e
    simp only at hw
    have hv:v∈A4 s.2.1:=hi.sub v (by rw[hw];simp)
    simp only[hv,AVM]
    refine⟨⟨by simp,hi.one,fun y hy=>hi.sub y (by rw[hw];exact AVE _ hy),hi.nc,hi.nm⟩,by rw[hw];simp,_,_,rfl,hs,fun x=>Iff.rfl,fun y=>by simp⟩
   ·cases h
    cases e
    simp only at hw hn
    simp only[hn,AU3]
    refine⟨⟨by simp,AMV hi.one v,fun y hy => ?_,HS hi.nc _ _,hi.nm⟩,by rw[hw];simp,_,_,rfl,hs,fun x => ?_,fun y=>by simp⟩
    ·rw[D4]
     rcases AUw.1 hy with rfl|hy
     ·exact .inl rfl
     ·exact .inr (hi.sub y (by rw[hw];exact hy))
    ·rw[D4,AUw]
def AFL(s:AJx):ATh:=.inr (.inl (s.1.reverse,s.2.1,s.2.2,()))
theorem ANc(n:Int):∀ (xs:List Int) (s:AJx) (c:List Int),GI s→(∀ x,x∈c↔x∈A4 s.2.1) →
  (∃ L s' c',xs=L.map (Eh n)∧(∀ t∈L,okT n t)∧run (s.1,c) L=some (s'.1,c')∧walk (goF n) AFL xs s=AFL s'∧GI s'∧(∀ x,x∈c'↔x∈A4 s'.2.1)∧(∀ x,x∈A4 s'.2.2↔x∈A4 s.2.2∨Tok.ver x∈L)) ∨
  (walk (goF n) AFL xs s = .inl (false,())∧∀ L,xs=L.map (Eh n)→(∀ t∈L,okT n t)→run (s.1,c) L=none):=by
 intro xs
 induction xs with
 |nil=>intro s c hi hc;exact .inl ⟨[],s,c,rfl,by simp,rfl,rfl,hi,hc,by simp⟩
 |cons x xs ih=>
  intro s c hi hc
  rw[walk]
  have bad:∀ {t},Dx n x=some t→Tok.step (s.1,A4 s.2.1) t=none→∀ L,x::xs=L.map (Eh n)→(∀ t∈L,okT n t)→run (s.1,c) L=none:=by
   intro t ht hs L hL hok
   cases L with
   |nil=>cases hL
   |cons t' L=>
    simp only[AVI,AVF]at hL
    have h1:=EK (hok t' (by simp))
    rw[← hL.1,ht]at h1
    cases h1
    rw[Ar,((R0 hc t).1).2 hs]
    rfl
  cases hg:goF n x s with
  |inr r=>
   simp only
   have hr:r = .inl (false,())∧∀ L,x::xs=L.map (Eh n)→(∀ t∈L,okT n t)→run (s.1,c) L=none:=by
    rw[goF]at hg
    cases ht:Dx n x with
    |none=>
     rw[ht]at hg
     cases hg
     refine⟨rfl,fun L hL hok => ?_⟩
     cases L with
     |nil=>cases hL
     |cons t' L=>
      simp only[AVI,AVF]at hL
      have h1:=EK (hok t' (by simp))
      rw[← hL.1,ht]at h1
      cases h1
    |some t=>
     rw[ht]at hg
     simp only at hg
     cases hs:Tok.step (s.1,A4 s.2.1) t with
     |none=>rw[hs]at hg;cases hg;exact⟨rfl,bad ht hs⟩
     |some q=>
      rw[hs]at hg
      cases t<;>cases hg
   rw[hr.1]
   exact .inr ⟨rfl,hr.2⟩
  |inl s'=>
   simp only
   obtain⟨hi',_,t,c1,ht,hs,hcc,hm⟩:=AK2 hi hg
   obtain⟨c1',hs',hcc'⟩:=(R0 (c:=A4 s.2.1) (c2:=c) (fun x=>(hc x).symm) t).2 _ _ hs
   obtain⟨g1,g2⟩:=ANq ht
   rcases ih s' c1' hi' (fun x=>(hcc' x).symm.trans (hcc x))with⟨L,s2,c2,a1,a2,a3,a4,a5,a6,a7⟩|⟨a1,a2⟩
   ·refine .inl ⟨t::L,s2,c2,by simp[g2,a1],?_,by rw[Ar,hs'];exact a3,a4,a5,a6,fun y => ?_⟩
    ·intro y hy
     rcases AUw.1 hy with rfl|hy
     ·exact g1
     ·exact a2 y hy
    ·rw[a7,hm,AUw,or_assoc]
   ·refine .inr ⟨a1,fun L hL hok => ?_⟩
    cases L with
    |nil=>cases hL
    |cons t' L=>
     simp only[AVI,AVF]at hL
     have h1:=EK (hok t' (by simp))
     rw[← hL.1,ht]at h1
     cases h1
     rw[Ar,hs']
     exact a2 L hL.2 fun y hy=>hok y (AVE _ hy)
theorem AGo:∀ {l:List Tok} {s s':List Int×List Int},run s l=some s'→s'.1.getLast? = s.1.getLast? := by
 intro l
 induction l with
 |nil=>intro s s' h;cases h;rfl
 |cons t l ih=>
  intro s s' h
  rw[Ar,AVQ]at h
  obtain⟨s1,h1,h2⟩:=h
  rw[ih h2]
  rcases Bl h1 with⟨v,r,rfl,hw,rfl⟩|⟨u,v,r,rfl,hw,rfl⟩|⟨u,v,r,rfl,hw,hh,hn,rfl⟩
  ·rfl
  ·rw[hw,AXO]
  ·rw[hw,AXO]
theorem AO8:∀ {l:List Tok} {s s':List Int×List Int},run s l=some s'→Tok.Inv s→∀ x,Tok.ver x∈l→x∈s'.2:=by
 intro l
 induction l with
 |nil=>intro s s' _ _ x hx;cases hx
 |cons t l ih=>
  intro s s' h hi x hx
  rw[Ar,AVQ]at h
  obtain⟨s1,h1,h2⟩:=h
  obtain⟨i1,i2,i3⟩:=Rz h1 hi
  rcases AUw.1 hx with rfl|hx
  ·have:=(Gl h2 i1).2.1
   refine this x (i1.2 x ?_)
   simp only[st]at i3
   exact List.mem_of_head? i3
  ·exact ih h2 i1 x hx
theorem AMo{n:Int}{L:List Tok}(h:(L.map (Eh n)).Nodup):L.Nodup:=by
 rw[List.Nodup,AV6]at h
 exact h.imp fun h e=>h (by rw[e])
theorem ALJ{n x:Int}{xs:List Int}(h:TI n (x::xs))(hm:Gj (x::xs)=x):In n x:=by
 obtain⟨L,h1,h2,h3⟩:=h
 obtain⟨v,r,hr⟩:=h3.AFh
 have hv:Tok.ver v∈L:=(hr.mem _).2 (by simp)
 have hvx:v∈x::xs:=by rw[h1];exact AVD.2 ⟨_,hv,rfl⟩
 have h4:=(ET (xs:=x::xs) (by simp)).2 v hvx
 rw[hm]at h4
 have h5:=(h2 _ hv).2.2.2
 cases L with
 |nil=>cases h1
 |cons t L=>
  simp only[AVI,AVF]at h1
  have h6:=h2 t (by simp)
  cases t with
  |ver w=>rw[h1.1];exact h6
  |arc p q=>
   have:=(RM h6.1 h6.2.1).1
   have e:x=n*(p+1)+q:=h1.1
   omega
theorem AQu(n:Int)(xs:List Int)(h0:xs≠[])(hs:xs.length<2147483648)(hr:∀ x∈xs, -9223372036854775808≤x∧x≤9223372036854775807)(hn:xs.Nodup)(hm:∀ x,xs.head? = some x→Gj xs=x):
  AQx (n,xs,())=some (decide (TI n xs),()):=by
 cases xs with
 |nil=>exact absurd rfl h0
 |cons x0 tl=>
  rw[AK1,AA8]
  have i0:idx (x0::tl) (0:Int)=some x0:=by rw[MH];rfl
  simp only[i0,Yu]
  by_cases hin:In n x0
  ·rw[AUr hin]
   simp only[AU7]
   have hS:GI ([x0],Ab [] x0 1,[]):=by
    refine⟨by simp,fun k => ?_,fun y hy => ?_,?_,by simp[A4]⟩
    ·have:AL (Ab ([]:List (Int×Int)) x0 1) k=if k=x0 then some 1 else none:=by rw[Fb];rfl
     rw[this]
     by_cases e:k=x0<;>simp[e,Ab,A4]
    ·simp at hy;subst hy;simp[Ab,A4]
    ·simp[Ab,A4]
   have e:=EH (step:=Gz) (fun i (s:AJx)=>(n,s.1.reverse,s.2.1,s.2.2,x0::tl,AQ (x0::tl),(i:Int),())) (x0::tl) (goF n) AFL (fun i s=>GI s∧s.1.length≤i+1) (by omega)
    (fun i x s hi hx ⟨hI,hlen⟩=>by
     obtain⟨way,came,met⟩:=s
     cases way with
     |nil=>exact absurd rfl hI.ne
     |cons w r=>
      have hst:=ANd n (x0::tl) i x hx hi (by omega) (hr x (AU9 hx)) w r came met (by simp only[AU0]at hlen hi hs;omega) hI.one hI.sub
      refine⟨fun s' h' => ?_,fun y h' => ?_⟩
      ·rw[h']at hst
       obtain⟨g1,g2,_⟩:=AK2 hI h'
       refine⟨hst,g1,?_⟩
       simp only at g2 hlen
       omega
      ·rw[h']at hst
       exact hst)
    (fun s _=>by rw[Gz,AY,AR,AUp (by omega)];rfl) ([x0],Ab [] x0 1,[]) ⟨hS,by simp⟩
   have e':AZ Gz many (n,[x0],Ab [] x0 1,[],x0::tl,AQ (x0::tl),(0:Int),())=_:=e
   rw[e']
   have hk0:A4 (Ab ([]:List (Int×Int)) x0 1)=[x0]:=rfl
   rcases ANc n (x0::tl) ([x0],Ab [] x0 1,[]) [x0] hS (fun x=>by rw[hk0])with⟨L,s',c',a1,a2,a3,a4,a5,a6,a7⟩|⟨a1,a2⟩
   ·rw[a4]
    obtain⟨t,L',rfl⟩:∃ t L',L=t::L':=by cases L with
     |nil=>cases a1
     |cons t L'=>exact⟨t,L',rfl⟩
    have ht:t = .ver x0:=by
     have h1:=EK (a2 t (by simp))
     simp only[AVI,AVF]at a1
     rw[← a1.1,Dx,AU4 hin]at h1
     exact(AV2 h1).symm
    subst ht
    have hLn:(Tok.ver x0::L').Nodup:=AMo (n:=n) (by rw[← a1];exact hn)
    have hbot:=AGo a3
    have hvs:=AO8 a3 (KA x0)
    have hk:(A4 s'.2.2).length≤(A4 s'.2.1).length:=Ey a5.nm fun x hx=>by
     have:=(a7 x).1 hx
     simp only[A4,AWr,AWt,false_or]at this
     exact(a6 x).1 (hvs x this)
    have hiff:(s'.1.length=1∧(A4 s'.2.2).length=(A4 s'.2.1).length)↔TI n (x0::tl):=by
     constructor
     ·rintro⟨l1,l2⟩
      obtain⟨w,hw⟩:=List.length_eq_one_iff.1 l1
      rw[hw]at hbot a3
      simp at hbot
      subst hbot
      refine⟨_,a1,a2,Tok.At.toT ⟨w,L',c',rfl,a3,fun x hx => ?_⟩ hLn⟩
      have h1:=Z2 a5.nm (fun x hx=>by
       have:=(a7 x).1 hx
       simp only[A4,AWr,AWt,false_or]at this
       exact(a6 x).1 (hvs x this)) (by omega) x ((a6 x).1 hx)
      have:=(a7 x).1 h1
      simpa [A4]using this
     ·rintro⟨K,k1,k2,k3⟩
      have hKL:K=Tok.ver x0::L':=by
       have:∀ (A B:List Tok),A.map (Eh n)=B.map (Eh n)→(∀ t∈A,okT n t)→(∀ t∈B,okT n t)→A=B:=by
        intro A
        induction A with
        |nil=>intro B h _ _;cases B with
         |nil=>rfl
         |cons b B=>cases h
        |cons a A ih=>
         intro B h hA hB
         cases B with
         |nil=>cases h
         |cons b B=>
          simp only[AVI,AVF]at h
          rw[MX (hA a (by simp)) (hB b (by simp)) h.1,ih B h.2 (fun t ht=>hA t (by simp[ht])) fun t ht=>hB t (by simp[ht])]
       exact this _ _ (by rw[← k1,a1]) k2 a2
      subst hKL
      obtain⟨r,l',c,q1,q2,q3⟩:=k3.Ym
      cases q1
      rw[a3]at q2
      cases hs':s'.1 with
      |nil=>rw[hs']at q2;cases q2
      |cons w r'=>
       rw[hs']at q2
       cases q2
       refine⟨rfl,?_⟩
       have:=Ey a5.nc (b:=A4 s'.2.2) fun x hx=>(a7 x).2 (.inr (q3 x ((a6 x).2 hx)))
       omega
    simp only[AFL,BS,AY,List.length_reverse]
    rw[OP,OP]at hiff
    by_cases l1:s'.1.length=1
    ·rw[AUr (show(s'.1.length:Int)=1 by omega)]
     simp only[l1,AWQ]at hiff
     by_cases l2:s'.2.2.length=s'.2.1.length
     ·rw[AUr (show(s'.2.2.length:Int)=(s'.2.1.length:Int) by omega),AUr (hiff.1 l2)]
     ·rw[AUp (show ¬ (s'.2.2.length:Int)=(s'.2.1.length:Int) by omega),AUp (fun h=>l2 (hiff.2 h))]
    ·rw[AUp (show ¬ (s'.1.length:Int)=1 by omega),AUp (fun h=>l1 (hiff.2 h).1)]
   ·rw[a1]
    have:¬ TI n (x0::tl):=by
     rintro⟨K,k1,k2,k3⟩
     obtain⟨r,l',c,q1,q2,q3⟩:Tok.At K:=by
      obtain⟨t,L',rfl⟩:∃ t L',K=t::L':=by cases K with
       |nil=>cases k1
       |cons t L'=>exact⟨t,L',rfl⟩
      have h1:=EK (k2 t (by simp))
      simp only[AVI,AVF]at k1
      rw[← k1.1,Dx,AU4 hin]at h1
      cases h1
      exact k3.Ym
     have hr0:r=x0:=by
      subst q1
      simp only[AVI,AVF]at k1
      exact k1.1.symm
     subst hr0
     have:=a2 K k1 k2
     simp only at this
     rw[q2]at this
     cases this
    simp[this]
  ·rw[AUp hin]
   have:¬ TI n (x0::tl):=fun h=>hin (ALJ h (hm x0 rfl))
   simp[this]
end Go.Pev.Pl
end
end
section
namespace Go.Pev.Pl.Tok
theorem AS7{v:Int}{p:List Tok}{c:List Int}(h:run ([v],[v]) p=some ([v],c))(hc:∀ x∈c,Tok.ver x∈p)(hn:p.Nodup):T p:=by
 cases p with
 |nil=>
  cases h
  have:=hc v (by simp)
  cases this
 |cons t p=>
  have h':=h
  rw[Ar,AVQ]at h'
  obtain⟨s1,h1,h2⟩:=h'
  rcases Bl h1 with⟨y,r,rfl,hw,rfl⟩|⟨a,b,r,rfl,hw,rfl⟩|⟨a,b,r,rfl,hw,hh,hnc,rfl⟩
  ·simp only[AVF]at hw
   obtain⟨rfl,rfl⟩:=hw
   exact At.toT ⟨_,p,c,rfl,h,hc⟩ hn
  ·simp at hw
  ·simp only[AVF]at hw
   obtain⟨rfl,rfl⟩:=hw
   simp only at hnc
   have hne:v≠b:=by rintro rfl;exact hnc (by simp)
   have hT:T ([Tok.arc v b]++comp [Tok.arc v b] [b,v]):=by
    have:comp [Tok.arc v b] [b,v]=[.ver b,.arc b v,.ver v]:=by simp[comp]
    rw[this]
    have h3:=T.add (.ver v) [] b (T.one v) hne (by simp;exact AVW hne)
    exact T.rot [.ver v] [.arc v b,.ver b,.arc b v] h3
   have:=AQw p [.arc v b] [b,v] [b,v] c v (.arc v b) h2 ⟨by simp;exact AVW hne,by simp⟩ (by simp) rfl hT (by
    intro x hx
    have e:comp [Tok.arc v b] [b,v]=[.ver b,.arc b v,.ver v]:=by simp[comp]
    rw[e]at hx
    simp at hx
    simp[hx]) hc hn
   exact this
theorem T.join{u v:Int}{a b:List Tok}(hA:T (.ver u::a))(hB:T (.ver v::b))(hd:∀ x,Tok.ver x∈Tok.ver u::a→Tok.ver x∉Tok.ver v::b):
  T (.ver u :: .arc u v::(.ver v::b ++ .arc v u::a)):=by
 obtain⟨_,fA2,fA3⟩:=hA.facts
 obtain⟨_,fB2,fB3⟩:=hB.facts
 have nA:=hA.nodup
 have nB:=hB.nodup
 obtain⟨_,_,c1,e1,h1,m1⟩:=hA.Ym
 cases e1
 obtain⟨_,_,c2,e2,h2,m2⟩:=hB.Ym
 cases e2
 have huv:u≠v:=by rintro rfl;exact hd u (by simp) (by simp)
 have nAB:∀ t,t∈Tok.ver u::a→t∉Tok.ver v::b:=fun t ht hb=>hd _ (fA2 t ht) (fB2 t hb)
 have n1:Tok.arc u v∉Tok.ver u::a:=fun h=>hd v (fA3 _ _ h).2.1 (by simp)
 have n2:Tok.arc u v∉Tok.ver v::b:=fun h=>hd u (by simp) (fB3 _ _ h).1
 have n3:Tok.arc v u∉Tok.ver u::a:=fun h=>hd v (fA3 _ _ h).1 (by simp)
 have n4:Tok.arc v u∉Tok.ver v::b:=fun h=>hd u (by simp) (fB3 _ _ h).2.1
 have hnd:(Tok.ver u :: .arc u v::(.ver v::b ++ .arc v u::a)).Nodup:=by
  rw[AVN]at nA
  have q1:Tok.ver u∉Tok.ver v::b:=nAB _ (by simp)
  rw[AVN,AVN,AWn,AVN (a:=Tok.arc v u)]
  refine⟨?_,?_,nB,⟨fun h=>n3 (AVE _ h),nA.2⟩,fun x hx y hy => ?_⟩
  ·intro h
   rcases AUw.1 h with h|h
   ·cases h
   ·rcases AUt.1 h with h|h
    ·exact q1 h
    ·rcases AUw.1 h with h|h
     ·cases h
     ·exact nA.1 h
  ·intro h
   rcases AUt.1 h with h|h
   ·exact n2 h
   ·rcases AUw.1 h with h|h
    ·cases h;exact huv rfl
    ·exact n1 (AVE _ h)
  ·rintro rfl
   rcases AUw.1 hy with h|h
   ·subst h;exact n4 hx
   ·exact nAB x (AVE _ h) hx
 rw[Ar,Cr,AVR]at h1
 obtain⟨d2,k1,k2⟩:=Fl (Z:=(· = u)) (c2:=[v,u]) (low:=[u]) h2 (by simp) (fun y=>by simp) (fun p w hm=>by rintro rfl;exact hd w (by simp) (fB3 _ _ hm).2.1) (by simp)
 obtain⟨d3,g1,g2⟩:=Fl (Z:=(·∈c2)) (c2:=d2) (low:=[]) h1 (by simp) (fun y=>by rw[k2];simp[or_comm]) (fun p w hm hz=>hd w (fA3 _ _ (AVE _ hm)).2.1 (m2 w hz)) (by simp)
 refine At.toT ⟨u,_,d3,rfl,?_,fun x hx => ?_⟩ hnd
 ·rw[Ar,Cr,AVR,Ar,EM _ _ _ _ (by simp) (by simp;exact AVW huv),AVR,Cv]
  rw[show([v]++[u]:List Int)=[v,u]from rfl]at k1
  rw[k1,AVR,Ar,E3,AVR]
  simpa using g1
 ·rcases(g2 x).1 hx with h|h
  ·have:=m1 x h
   simp only[AUw,AUt]at this ⊢
   rcases this with h|h<;>simp[h]
  ·have:=m2 x h
   simp only[AUw,AUt]at this ⊢
   rcases this with h|h<;>simp[h]
theorem ATm{u v:Int}(huv:u≠v):∀ {l:List Tok} {x w1 c c1 c0:List Int},run (x++[v,u],c) l=some (w1,c1)→Tok.arc v u∉l→(∀ y,y∈c↔y∈c0∨y=u)→u∉c0 →
  ∃ x' d,w1=x'++[v,u]∧run (x++[v],c0) l=some (x'++[v],d)∧(∀ y,y∈c1↔y∈d∨y=u)∧u∉d:=by
 intro l
 induction l with
 |nil=>intro x w1 c c1 c0 h _ hc hu;cases h;exact⟨x,c0,rfl,rfl,hc,hu⟩
 |cons t l ih=>
  intro x w1 c c1 c0 h hna hc hu
  rw[Ar,AVQ]at h
  obtain⟨s1,h1,h2⟩:=h
  have hna':Tok.arc v u∉l:=fun h=>hna (AVE _ h)
  rcases Bl h1 with⟨y,r,rfl,hw,rfl⟩|⟨a,b,r,rfl,hw,rfl⟩|⟨a,b,r,rfl,hw,hh,hnc,rfl⟩
  ·obtain⟨x',d,g1,g2,g3⟩:=ih h2 hna' hc hu
   refine⟨x',d,g1,?_,g3⟩
   simp only at hw
   have:∃ r',x++[v]=y::r':=by
    cases x with
    |nil=>simp at hw;exact⟨[],by simp[hw.1]⟩
    |cons z x=>simp at hw;exact⟨x++[v],by simp[hw.1]⟩
   obtain⟨r',e⟩:=this
   rw[Ar,e,Cr,AVR,← e]
   exact g2
  ·simp only at hw
   cases x with
   |nil=>
    simp only[AVc,AVF]at hw
    obtain⟨rfl,rfl,_⟩:=hw
    exact absurd (by simp) hna
   |cons z x=>
    simp only[AVG,AVF]at hw
    obtain⟨rfl,hw⟩:=hw
    simp only[← hw]at h2
    obtain⟨x',d,g1,g2,g3⟩:=ih h2 hna' hc hu
    refine⟨x',d,g1,?_,g3⟩
    have:∃ r',x++[v]=b::r':=by
     cases x with
     |nil=>simp at hw;exact⟨[],by simp[hw.1]⟩
     |cons y x=>simp at hw;exact⟨x++[v],by simp[hw.1]⟩
    obtain⟨r',e⟩:=this
    rw[Ar,AVG,e,E3,AVR,← e]
    exact g2
  ·simp only at hw hnc
   have hub:u≠b:=by rintro rfl;exact hnc ((hc u).2 (.inr rfl))
   have hbc:b∉c0:=fun h=>hnc ((hc b).2 (.inl h))
   have h2':run ((b::x)++[v,u],b::c) l=some (w1,c1):=by
    rw[← hw]at h2
    exact h2
   obtain⟨x',d,g1,g2,g3⟩:=ih (c0:=b::c0) h2' hna' (fun y=>by simp only[AUw,hc,or_assoc]) (by
    intro hm
    rcases AUw.1 hm with h|h
    ·exact hub h
    ·exact hu h)
   refine⟨x',d,g1,?_,g3⟩
   have:∃ r',x++[v]=a::r'∧r'.head?≠some b:=by
    cases x with
    |nil=>
     simp at hw
     exact⟨[],by simp[hw.1],by simp⟩
    |cons z x=>
     simp only[AVG,AVF]at hw
     refine⟨x++[v],by simp[hw.1],?_⟩
     rw[← hw.2]at hh
     cases x with
     |nil=>simpa using hh
     |cons y x=>simpa using hh
   obtain⟨r',e,e2⟩:=this
   rw[Ar,e,EM _ _ _ _ e2 hbc,AVR,← e]
   exact g2
theorem T.split{u v:Int}{p q:List Tok}(h:T (.arc u v::(p ++ .arc v u::q))):T p∧Tok.ver v∈p:=by
 have hn:=h.nodup
 obtain⟨_,f2,f3⟩:=h.facts
 have huv:u≠v:=(f3 u v (by simp)).2.2.2
 obtain⟨t,ht⟩:∃ t,(Tok.arc u v::(p ++ .arc v u::q)).getLast? = some t:=⟨_,AW0 (by simp)⟩
 obtain⟨c,h1,h2⟩:=h.toC _ (Rot.refl _) t ht
 rw[Ar,AVQ]at h1
 obtain⟨s1,k1,k2⟩:=h1
 rcases Bl k1 with⟨y,r,e,hw,_⟩|⟨a,b,r,e,hw,_⟩|⟨a,b,r,e,hw,hh,hnc,rfl⟩
 ·cases e
 ·cases e;simp at hw
 ·cases e
  simp only[AVF]at hw
  obtain⟨htu,rfl⟩:=hw
  rw[htu]at k2
  simp only at k2
  rw[Cv,AVQ]at k2
  obtain⟨⟨w1,c1⟩,g1,g2⟩:=k2
  have hi:Inv ([v,u],[v,u]):=⟨by simp;exact AVW huv,by simp⟩
  obtain⟨i1,i2,_⟩:=Gl g1 hi
  rw[AVN,AWn,AVN (a:=Tok.arc v u)]at hn
  have hnp:Tok.arc v u∉p:=fun hm=>hn.2.2.2 _ hm _ (by simp) rfl
  obtain⟨x',d,e1,e2,e3,e4⟩:=ATm (x:=[]) (c0:=[v]) huv g1 hnp (fun y=>by simp) (by simp;exact huv)
  rw[Ar,AVQ]at g2
  obtain⟨s2,j1,j2⟩:=g2
  have hx':x'=[]∧s2=([u],c1):=by
   rcases Bl j1 with⟨y,r,e,hw,_⟩|⟨a,b,r,e,hw,hs⟩|⟨a,b,r,e,hw,hh,hnc,_⟩
   ·cases e
   ·cases e
    simp only at hw
    rw[e1]at hw
    cases x' with
    |nil=>
     simp only[AVc,AVF,AWQ]at hw
     rw[hs,← hw]
     exact⟨rfl,rfl⟩
    |cons z x'=>
     exfalso
     have hnd:=i1.1
     simp only at hnd
     rw[e1,hw]at hnd
     simp only[AVG,AVF]at hw
     have:v∈u::r:=by rw[← hw.2];simp
     rw[AVN]at hnd
     exact hnd.1 this
   ·cases e
    exact absurd (i2 u (by simp)) hnc
  obtain⟨rfl,rfl⟩:=hx'
  have hmet:∀ x∈d,Tok.ver x∈p:=by
   intro x hx
   have hxu:x≠u:=by rintro rfl;exact e4 hx
   have hx1:x∈c1:=(e3 x).2 (.inl hx)
   have hi2:Inv ([u],c1):=⟨by simp,fun y hy=>by simp at hy;subst hy;exact i2 y (by simp)⟩
   have hx2:=(Gl j2 hi2).2.1 x hx1
   have hx3:=(h2 x).1 hx2
   obtain⟨g,_⟩:=R3 (z:=x) (c:=c1.filter (·≠x)) j2 (by simp;exact hxu) (fun y=>by
    simp only[AVf,AUs]
    constructor
    ·intro hh
     by_cases e:y=x
     ·exact .inr e
     ·exact .inl ⟨hh,by simpa using e⟩
    ·rintro (hh|rfl)
     ·exact hh.1
     ·exact hx1) (by simp)
   simp only[AUw,reduceCtorEq,AUt,false_or]at hx3
   rcases hx3 with hh|hh
   ·exact hh
   ·exact absurd hh g
  have e2':run ([v],[v]) p=some ([v],d):=e2
  have hvd:v∈d:=(Gl e2' (KA v)).2.1 v (by simp)
  exact⟨AS7 e2' hmet hn.2.1,hmet v hvd⟩
end Go.Pev.Pl.Tok
end
section
namespace Go.Pev
open Go.RowKit
section
variable {P:Program} {g:FuncId}
theorem Ps{na:Nat}{its outs:AE}{rs:List RS}{f:CO (leaves its)→Option (CO (leaves outs))}(hf:∀ x,f x=none):AP P g (AG na its outs rs f):=by
 intro R args H fz slot k r hk
 unfold AG at hk
 split at hk
 ·cases hk
 ·split at hk
  ·cases hk
  ·rw[hf]at hk;cases hk
end
section
variable {S:List Nat} {H H':List Ob}
def AKf:AE→Bool
 |[]=>true
 |(.obj _,_)::_=>false
 |_::r=>AKf r
def ATq(S:List Nat)(v:AV):Prop:=∀ id∈Av v,id∈S
def AJi(S:List Nat)(bs:List Bnd):Prop:=∀ b∈bs,∀ id,b.id? = some id→id∈S
theorem AJi.get{bs:List Bnd}(h:AJi S bs){j:Nat}{b:Bnd}{id:Nat}(hj:bs[j]? = some b)(hi:b.id? = some id):id∈S:=h b (AU9 hj) id hi
theorem AJi.snoc{bs:List Bnd}(h:AJi S bs){b:Bnd}(hb:∀ id,b.id? = some id→id∈S):AJi S (bs++[b]):=by
 intro x hx id hi
 rcases AUt.1 hx with hx|hx
 ·exact h x hx id hi
 ·simp only[AVL]at hx;subst hx;exact hb id hi
theorem ASa{tm:List AV}{bs:List Bnd}{l:Loc}(hS:∀ id∈A9 tm,id∈S)(hc:AB8 S H)(hH:∀ id∈S,H[id]? = H'[id]?)(hb:AJi S bs)(hl:∀ j,l≠.obj j):
  look tm H bs l=look tm H' bs l∧∀ v,look tm H bs l=some v→ATq S v:=by
 cases l with
 |tmp t=>
  refine⟨rfl,fun v hv id hid=>hS id ?_⟩
  exact B0 (AU9 hv) hid
 |cell j c=>
  simp only[look]
  cases hj:bs[j]? with
  |none=>exact⟨rfl,fun v hv=>by cases hv⟩
  |some b=>
   cases b with
   |none=>exact⟨rfl,fun v hv=>by cases hv⟩
   |cut id=>exact⟨rfl,fun v hv=>by cases hv⟩
   |whole id=>
    have hid:=hb.get hj (id:=id) rfl
    simp only
    rw[hH id hid]
    refine⟨rfl,fun v hv => ?_⟩
    cases ho:H'[id]? with
    |none=>rw[ho]at hv;cases hv
    |some o=>
     rw[ho]at hv
     cases o<;>simp only at hv<;>first|(cases hv;done)|skip
     rename_i cs
     intro i hi
     exact hc id hid cs (by rw[hH id hid,ho]) i (B0 (AU9 hv) hi)
 |cap t i=>
  refine⟨rfl,fun v hv => ?_⟩
  simp only[look]at hv
  cases ht:tm[t]? with
  |none=>rw[ht]at hv;cases hv
  |some a=>
   rw[ht]at hv
   cases a<;>simp only at hv<;>first|(cases hv;done)|skip
   ·rename_i f cs
    intro id hid
    refine hS id (B0 (AU9 ht) ?_)
    simp only[Av]
    exact B0 (AU9 hv) hid
   ·rename_i f cs
    intro id hid
    refine hS id (B0 (AU9 ht) ?_)
    simp only[Av]
    exact B0 (AU9 hv) hid
 |obj j=>exact absurd rfl (hl j)
theorem ZF{f:List Nat}{fz fz':List Bool}(hl:fz.length=fz'.length){id:Nat}(h:fz.getD id false=fz'.getD id false):(Ag f fz).getD id false=(Ag f fz').getD id false:=by
 rw[Ay,Ay,h,hl]
theorem AUG{tm:List AV}(hS:∀ id∈A9 tm,id∈S)(hc:AB8 S H)(hH:∀ id∈S,H[id]? = H'[id]?):∀ (its:AE) (fz fz':List Bool) (bs:List Bnd),AKf its=true→AJi S bs→fz.length=fz'.length→(∀ id∈S,fz.getD id false=fz'.getD id false) →
  dec tm H its fz bs=dec tm H' its fz' bs:=by
 intro its
 induction its with
 |nil=>intro fz fz' bs _ _ _ _;rfl
 |cons p r ih=>
  intro fz fz' bs hn hb hlen hz
  obtain⟨l,c⟩:=p
  have hno:(∀ j,l≠.obj j)∧AKf r=true:=by
   cases l with
   |obj j=>cases hn
   |tmp t=>exact⟨fun j h=>(by cases h),hn⟩
   |cell a b=>exact⟨fun j h=>(by cases h),hn⟩
   |cap a b=>exact⟨fun j h=>(by cases h),hn⟩
  obtain⟨e1,e2⟩:=ASa hS hc hH hb hno.1
  have ihr:=fun bs hb=>ih fz fz' bs hno.2 hb hlen hz
  have unf:∀ id∈S,Au fz id=Au fz' id:=fun id hid=>by unfold Au;rw[hz id hid]
  cases c with
  |dat t=>
   simp only[dec,← e1]
   cases hv:look tm H bs l with
   |none=>rfl
   |some v=>
    simp only
    rw[Ba t v fun id hid=>hH id (e2 v hv id hid)]
    cases En H' t v with
    |none=>rfl
    |some q=>
     obtain⟨x,f⟩:=q
     simp only
     rw[ih (Ag f fz) (Ag f fz') bs hno.2 hb (by rw[CQ,CQ,hlen]) (fun id hid=>ZF hlen (hz id hid))]
  |own T e=>
   simp only[dec,← e1]
   cases hv:look tm H bs l with
   |none=>rfl
   |some v=>
    cases v with
    |nils e'=>simp only;rw[ihr _ (hb.snoc fun id h=>by cases h)]
    |own id=>
     have hid:id∈S:=e2 _ hv id (by simp[Av])
     simp only
     rw[← hH id hid,unf id hid,ihr _ (hb.snoc fun id' h=>by simp only[Bnd.id?,AUq]at h;subst h;exact hid)]
    |win id off n=>
     have hid:id∈S:=e2 _ hv id (by simp[Av])
     cases off with
     |succ off=>rfl
     |zero=>
      simp only
      rw[← hH id hid,unf id hid,ihr _ (hb.snoc fun id' h=>by simp only[Bnd.id?,AUq]at h;subst h;exact hid)]
    |_=>rfl
  |box n=>
   simp only[dec,← e1]
   cases hv:look tm H bs l with
   |none=>rfl
   |some v=>
    cases v with
    |ptr id off=>
     have hid:id∈S:=e2 _ hv id (by simp[Av])
     cases off with
     |succ off=>rfl
     |zero=>
      simp only
      rw[← hH id hid,ihr _ (hb.snoc fun id' h=>by simp only[Bnd.id?,AUq]at h;subst h;exact hid)]
    |_=>rfl
  |map k v=>
   simp only[dec,← e1]
   cases hv:look tm H bs l with
   |none=>rfl
   |some u=>
    cases u with
    |mp id=>
     have hid:id∈S:=e2 _ hv id (by simp[Av])
     simp only
     rw[← hH id hid,ihr _ (hb.snoc fun id' h=>by simp only[Bnd.id?,AUq]at h;subst h;exact hid)]
    |_=>rfl
  |own' j=>simp only[dec,← e1,ihr bs hb]
  |ptr' j off=>simp only[dec,← e1,ihr bs hb]
  |map' j=>simp only[dec,← e1,ihr bs hb]
  |sub' j=>simp only[dec,← e1,ihr bs hb]
  |win' j=>
   simp only[dec,← e1]
   rw[ihr bs hb]
   cases hv:look tm H bs l with
   |none=>rfl
   |some v=>
    cases v with
    |own id=>
     have hid:id∈S:=e2 _ hv id (by simp[Av])
     cases bs[j]? with
     |none=>rfl
     |some b=>
      cases b with
      |whole id'=>
       refine Eq.trans (b:=match decide (id=id'),H[id]? with
        |true,some (.arr _ _ ys)=>(match dec tm H' r fz' bs with
         |some (xs,bs',g)=>some ((AQ ys,xs),bs',g)
         |none=>none)
        |_,_=>none) rfl ?_
       rw[hH id hid]
       rfl
      |_=>rfl
    |win id off n=>
     cases off with
     |succ off=>cases bs[j]?<;>rfl
     |zero=>
      cases bs[j]? with
      |none=>rfl
      |some b=>cases b<;>rfl
    |_=>cases bs[j]?<;>rfl
  |clo f ps=>simp only[dec,← e1,ihr bs hb]
  |bnd f j=>simp only[dec,← e1,ihr bs hb]
  |prs T j=>
   simp only[dec,← e1]
   cases hv:look tm H bs l with
   |none=>rfl
   |some v=>
    cases v with
    |nils e'=>simp only;rw[ihr _ (hb.snoc fun id h=>by cases h)]
    |own id=>
     have hid:id∈S:=e2 _ hv id (by simp[Av])
     simp only
     rw[← hH id hid,ihr _ (hb.snoc fun id' h=>by simp only[Bnd.id?,AUq]at h;subst h;exact hid)]
    |_=>rfl
  |nil e=>simp only[dec,← e1,ihr bs hb]
theorem AEx{fz fz':List Bool}:∀ (n:Nat) (bs:List Bnd) (slot:Nat),(∀ s,slot≤s→s<slot+n→A0 H fz s=A0 H' fz' s)→EI H fz (Bv n bs slot) bs=EI H' fz' (Bv n bs slot) bs:=by
 intro n
 induction n with
 |zero=>intro bs slot _;cases bs<;>rfl
 |succ n ih=>
  intro bs slot h
  cases bs with
  |nil=>
   simp only[Bv,EI,List.tail_nil]
   rw[h slot (AU1 _) (by omega),ih [] (slot+1) fun s h1 h2=>h s (by omega) (by omega)]
  |cons b bs=>
   cases b with
   |whole id=>
    simp only[Bv,EI,AWY]
    rw[ih bs slot fun s h1 h2=>h s h1 (by omega)]
   |none=>
    simp only[Bv,EI,AWY]
    rw[h slot (AU1 _) (by omega),ih bs (slot+1) fun s h1 h2=>h s (by omega) (by omega)]
   |cut id=>
    simp only[Bv,EI,AWY]
    rw[h slot (AU1 _) (by omega),ih bs (slot+1) fun s h1 h2=>h s (by omega) (by omega)]
theorem AH{na:Nat}{its outs:AE}{rs:List RS}{f:CO (leaves its)→Option (CO (leaves outs))}(hno:AKf its=true)(hn:Nat.ble (CV outs) 4=true):RP (AG na its outs rs f):=by
 intro R args H H' fz fz' slot k S hS hc ha
 have hn4:=Nat.le_of_ble_eq_true hn
 have hd:dec args H its fz []=dec args H' its fz' []:=AUG hS hc ha.heap its fz fz' [] hno (fun b hb=>by cases hb) ha.len ha.wrF
 unfold AG
 rw[hd]
 split
 ·rfl
 ·rename_i x bs fr _
  split
  ·rfl
  ·split
   ·rfl
   ·have hf:∀ (g:List Nat) s,slot≤s→s<slot+CV outs→A0 H (Ag g fz) s=A0 H' (Ag g fz') s:=fun g s h1 h2=>Fc ha h1 (by omega) g
    unfold LA
    rw[AEx (fz:=fz) (fz':=fz') (CV outs) bs slot (hf []),AEx (fz:=Ag fr fz) (fz':=Ag fr fz') (CV outs) bs slot (hf fr)]
end
def AUc(i:Nat)(args:List AV):Option FuncId:=
 match args[i]? with
 |some (.clo f _)=>some f
 |some (.bnd f _)=>some f
 |_=>none
def Env.FP(E:Env)(g:FuncId)(i:Nat)(c:FuncId)(s:Spec):Env where
 spec x:=match Nat.beq x g with
  |true=>fun R args H fz slot k=>match AUc i args with
   |some c'=>match Nat.beq c' c with
    |true=>s R args H fz slot k
    |false=>E.spec x R args H fz slot k
   |.none=>Option.none
  |false=>E.spec x
 loc x:=match Nat.beq x g with
  |true=>false
  |false=>E.loc x
 loc2 x:=match Nat.beq x g with
  |true=>E.loc2 g
  |false=>E.loc2 x
theorem Env.Bd{P:Program}{E:Env}{g:FuncId}{i:Nat}{c:FuncId}{s:Spec}(h:Ae P E)(hs:AP P g s)(hl2:RP s):Ae P (E.FP g i c s):=by
 refine⟨?_,?_,?_⟩
 ·intro x
  simp only[Env.FP]
  cases hx:Nat.beq x g with
  |false=>exact h.1 x
  |true=>
   have:=AVy hx
   subst this
   intro R args H fz slot k r hk
   simp only at hk
   split at hk
   ·rename_i c' hc'
    split at hk
    ·rename_i hb
     obtain⟨v,e,h1,h2,h3,h4⟩:=hs R args H fz slot k r hk
     exact⟨v,e,h1,fun R' k'=>by simp only[hc',hb];exact h2 R' k',h3,h4⟩
    ·rename_i hb
     obtain⟨v,e,h1,h2,h3,h4⟩:=h.1 x R args H fz slot k r hk
     exact⟨v,e,h1,fun R' k'=>by simp only[hc',hb];exact h2 R' k',h3,h4⟩
   ·cases hk
 ·intro x hx
  simp only[Env.FP]at hx ⊢
  cases hb:Nat.beq x g with
  |true=>rw[hb]at hx;cases hx
  |false=>rw[hb]at hx;exact h.2.1 x hx
 ·intro x hx
  simp only[Env.FP]at hx ⊢
  cases hb:Nat.beq x g with
  |true=>
   rw[hb]at hx
   have:=AVy hb
   subst this
   have h2:=h.2.2 x hx
   intro R args H H' fz fz' slot k S a1 a2 a3
   simp only
   split
   ·split
    ·exact hl2 R args H H' fz fz' slot k S a1 a2 a3
    ·exact h2 R args H H' fz fz' slot k S a1 a2 a3
   ·rfl
  |false=>rw[hb]at hx;exact h.2.2 x hx
end Go.Pev
end
section
namespace Go.Pev
open Go.RowKit Go.ChangeShapes Go.WideShapes Go.ChangeAt
def KY(P:Program)(rd:TypeId→Option Ty):List Field→Nat→Option Ty
 |[],_=>some .unit
 |f::r,off=>match rd f.type,KY P rd r (off+P.cellsOf f.type)with
  |some a,some b=>match Nat.beq f.offset off&&Nat.beq (P.cellsOf f.type) a.size with
   |true=>some (.prod a b)
   |false=>none
  |_,_=>none
def GB(P:Program):Nat→TypeId→Option Ty
 |0,_=>none
 |n+1,t=>match P.underlying t with
  |some .bool=>some .bool
  |some (.int k)=>some (.int k)
  |some (.slice e)=>match GB P n e with
   |some a=>match Nat.beq (P.cellsOf e) a.size && !(Nat.beq a.size 0)with
    |true=>some (.slice a)
    |false=>none
   |none=>none
  |some (.array c e)=>match GB P n e with
   |some a=>match Nat.beq (P.cellsOf e) a.size&&Nat.beq (P.cellsOf t) (c*a.size)with
    |true=>some (.arr c a)
    |false=>none
   |none=>none
  |some (.struct fs)=>match KY P (GB P n) fs.toList 0 with
   |some a=>match Nat.beq (P.cellsOf t) a.size with
    |true=>some a
    |false=>none
   |none=>none
  |_=>none
def wfD:(t:Ty)→t.den→Prop
 |.unit,_=>True
 |.bool,_=>True
 |.int k,n=>k.min≤n∧n≤k.max
 |.slice e,xs=>List.length (α:=e.den) xs≤maxLen∧∀ x∈(xs:List e.den),wfD e x
 |.prod a b,d=>wfD a d.1∧wfD b d.2
 |.arr n e,xs=>List.length (α:=e.den) xs=n∧∀ x∈(xs:List e.den),wfD e x
section
variable {H:Type} {enc:TypeId×Value→H} {P:Program} {w:World} {spare:Nat→Bool} {held:Bool}
abbrev below(w:World):Nat→Prop:=fun b=>b<w.heap.size
theorem ATi{k:IntKind}{n:Int}(h:(Lit.int k n).wf=true):k.min≤n∧n≤k.max:=by
 simpa [Lit.wf]using h
theorem AKH{α:Type}{R:α→List Value→Prop}{k:Nat}:∀ (m:Nat) (f:Nat→List Value),(∀ i,i<m→(f i).length=k∧∃ x,R x (f i))→∃ xs:List α,xs.length=m∧rows R xs ((List.range m).flatMap f)∧∀ x∈xs,∃ i,i<m∧R x (f i):=by
 intro m
 induction m with
 |zero=>intro f _;exact⟨[],rfl,rfl,fun x hx=>by cases hx⟩
 |succ m ih=>
  intro f h
  obtain⟨xs,h1,h2,h3⟩:=ih f fun i hi=>h i (by omega)
  obtain⟨_,x,hx⟩:=h m (by omega)
  refine⟨xs++[x],by simp[h1],?_,fun y hy => ?_⟩
  ·rw[AV9,AXF]
   exact Io h2 (by simp;exact⟨f m,[],by simp,hx,rfl⟩)
  ·rcases AUt.1 hy with hy|hy
   ·obtain⟨i,hi,hr⟩:=h3 y hy;exact⟨i,by omega,hr⟩
   ·simp only[AVL]at hy;subst hy;exact⟨m,by omega,hx⟩
theorem AQ8{f:Nat→List Value}{k:Nat}:∀ (m:Nat),(∀ i,i<m→(f i).length=k)→∀ (j:Nat) (u:Value),((List.range m).flatMap f)[j]? = some u→∃ i r,i<m∧r<k∧j=i*k+r∧(f i)[r]? = some u:=by
 intro m
 induction m with
 |zero=>intro _ j u h;simp at h
 |succ m ih=>
  intro hl j u h
  rw[AV9,AXF]at h
  have hlen:∀ m',m'≤m→((List.range m').flatMap f).length=m'*k:=by
   intro m' hm'
   induction m' with
   |zero=>simp
   |succ m' ih'=>
    rw[AV9,AXF,AU6,ih' (by omega)]
    simp[hl m' (by omega),AVj]
  rcases AVl j (m*k)with hj|hj
  ·rw[AVP (by rw[hlen m (AU1 _)];exact hj)]at h
   obtain⟨i,r,h1,h2,h3,h4⟩:=ih (fun i hi=>hl i (by omega)) j u h
   exact⟨i,r,by omega,h2,h3,h4⟩
  ·rw[AVY (by rw[hlen m (AU1 _)];exact hj),hlen m (AU1 _)]at h
   simp only[AV5,List.flatMap_nil,AWG]at h
   have hr:j-m*k<k:=by
    have:=De h
    rwa [hl m (by omega)]at this
   exact⟨m,j-m*k,by omega,hr,by omega,h⟩
theorem ARW(a:Addr)(i j:Nat):(a.add i).add j=a.add (i+j):=by
 unfold Addr.add
 by_cases hi:i=0
 ·subst hi;simp
 ·by_cases hj:j=0
  ·subst hj;simp
  ·have:¬ (i+j=0):=by omega
   simp[hi,hj,AWU]
theorem AJh{α:Type}[Inhabited α]{n:Nat}{p:Nat→α→Prop}(h:∀ i,i<n→∃ x,p i x):∃ f:Nat→α,∀ i,i<n→p i (f i):=by
 classical
 refine⟨fun i=>if hi:i<n then Classical.choose (h i hi)else default,fun i hi => ?_⟩
 simp only[dif_pos hi]
 exact Classical.choose_spec (h i hi)
theorem AHD{rd:TypeId→Option Ty}{cs:List Value}(hrd:∀ (f:Field) (a:Ty),rd f.type=some a→(P.cellsOf f.type=a.size)→(∃ y:Nat×(DataW H×List MemPlace),DataW.trod enc P w 0 spare held y.1 f.type ((cs.drop f.offset).take (P.cellsOf f.type))=some y.2)→∃ d:a.den,Dat w (below w) a d ((cs.drop f.offset).take (P.cellsOf f.type))∧wfD a d):
  ∀ (fs:List Field) (off:Nat) (t:Ty),KY P rd fs off=some t→off+t.size=cs.length→(∀ f∈fs,∃ y:Nat×(DataW H×List MemPlace),DataW.trod enc P w 0 spare held y.1 f.type ((cs.drop f.offset).take (P.cellsOf f.type))=some y.2) →
   ∃ d:t.den,Dat w (below w) t d (cs.drop off)∧wfD t d:=by
 intro fs
 induction fs with
 |nil=>
  intro off t h hl _
  simp only[KY,AUq]at h
  subst h
  refine⟨(),?_,trivial⟩
  show cs.drop off=[]
  simp[Ty.size]at hl
  exact List.drop_eq_nil_of_le (by omega)
 |cons f r ih=>
  intro off t h hl hf
  simp only[KY]at h
  split at h
  ·rename_i a b ha hb
   split at h
   ·rename_i hc
    simp only[AUq]at h
    subst h
    simp only[AUu]at hc
    have h1:=AVy hc.1
    have h2:=AVy hc.2
    obtain⟨d,hd,hw⟩:=hrd f a ha h2 (hf f (by simp))
    simp only[Ty.size]at hl
    obtain⟨e,he,hw'⟩:=ih (off+P.cellsOf f.type) b hb (by omega) fun g hg=>hf g (by simp[hg])
    refine⟨(d,e),⟨(cs.drop off).take (P.cellsOf f.type),cs.drop (off+P.cellsOf f.type),?_,?_,he⟩,hw,hw'⟩
    ·rw[← AWX,AVx]
    ·rw[h1]at hd;exact hd
   ·cases h
  ·cases h
theorem AOZ:∀ (n:Nat) (t:TypeId) (ty:Ty) (fuel:Nat) (cs:List Value) (x:DataW H×List MemPlace),GB P n t=some ty→DataW.trod enc P w 0 spare held fuel t cs=some x→∃ d:ty.den,Dat w (below w) ty d cs∧wfD ty d:=by
 intro n
 induction n with
 |zero=>intro t ty fuel cs x h;cases h
 |succ n ih=>
  intro t ty fuel cs x h hx
  simp only[GB]at h
  split at h
  ·rename_i hu
   simp only[AUq]at h;subst h
   obtain⟨b,rfl,_⟩:=DataW.trod_bool hu hx
   exact⟨b,rfl,trivial⟩
  ·rename_i k hu
   simp only[AUq]at h;subst h
   obtain⟨m,rfl,_,hw⟩:=DataW.trod_int hu hx
   exact⟨m,rfl,ATi hw⟩
  ·rename_i e hu
   split at h
   ·rename_i a ha
    split at h
    ·rename_i hc
     simp only[AUq]at h;subst h
     rw[AUu]at hc
     have hpos:a.size≠0:=fun h0=>by rw[h0]at hc;simp at hc
     have hc:=AVy hc.1
     rcases DataW.trod_slice hu hx with⟨rfl,_⟩|⟨ad,len,cap,elems,rest,m,rfl,rfl,_,_,hle,hmax,hlen,hel,_⟩
     ·exact⟨[],⟨none,0,rfl,AU1 _,fun hne=>absurd rfl hne⟩,AWx _,fun x hx=>by cases hx⟩
     ·-- each element
      have each:∀ i,i<len→∃ cs',w.cells? 0 (ad.add (i*P.cellsOf e)) (P.cellsOf e)=some cs'∧∃ d:a.den,Dat w (below w) a d cs'∧wfD a d:=by
       intro i hi
       have h1:=hel i hi
       rw[AUx (by omega),AVQ]at h1
       obtain⟨cs',h2,h3⟩:=h1
       exact⟨cs',h2,ih e a m cs' _ ha h3⟩
      obtain⟨f,hf⟩:=AJh (α:=List Value) (p:=fun i cs'=>w.cells? 0 (ad.add (i*P.cellsOf e)) (P.cellsOf e)=some cs'∧∃ d:a.den,Dat w (below w) a d cs'∧wfD a d) each
      have hfl:∀ i,i<len→(f i).length=a.size:=by
       intro i hi
       obtain⟨_,hl,_⟩:=World.cells?_some (hf i hi).1
       rw[hl,hc]
      obtain⟨xs,h1,h2,h3⟩:=AKH (R:=fun(d:a.den) cs=>Dat w (below w) a d cs∧wfD a d) (k:=a.size) len f fun i hi=>⟨hfl i hi,(hf i hi).2⟩
      refine⟨xs,⟨some ad,cap,by rw[h1],by rw[h1];exact hle,fun hne=>⟨ad,(List.range len).flatMap f,rfl,?_,BJ (fun x _ cs hx=>hx.1) h2,fun j u hu => ?_⟩⟩,by rw[h1];exact AVu hle hmax,fun x hx => ?_⟩
      ·-- the block is there
       have hl0:0<len:=by
        rcases AV1 len with h0|h0
        ·exact absurd (AVK (by rw[h1,h0])) hne
        ·exact h0
       have hb:=World.cells?_block (hf 0 hl0).1 (by omega)
       rw[AXJ]at hb
       have e0:ad.add 0=ad:=by simp[Addr.add]
       rw[e0]at hb
       exact hb
      ·obtain⟨i,r,hi,hr,rfl,hur⟩:=AQ8 len hfl j u hu
       obtain⟨_,_,hcell⟩:=World.cells?_some (hf i hi).1
       have:=hcell r (by rw[hc];exact hr)
       rw[hur]at this
       rw[← this,hc,ARW]
      ·obtain⟨i,_,hr⟩:=h3 x hx
       exact hr.2
    ·cases h
   ·cases h
  ·rename_i c e hu
   split at h
   ·rename_i a ha
    split at h
    ·rename_i hc
     simp only[AUq]at h;subst h
     rw[AUu]at hc
     have hc1:=AVy hc.1
     have hc2:=AVy hc.2
     obtain⟨xs,m,rfl,_,hl,hxs,hfs⟩:=DataW.trod_array hu hx
     rw[hc2]at hl
     obtain⟨ys,h1,h2,h3⟩:=AKH (R:=fun(d:a.den) cs=>Dat w (below w) a d cs∧wfD a d) (k:=a.size) c (fun i=>(cs.drop (i*a.size)).take a.size) fun i hi=>by
      have hi1:i*a.size+a.size≤c*a.size:=by
       have:=AVZ a.size (show i+1≤c from hi)
       rwa [AVj,AWK]at this
      have h1:=hfs i hi
      rw[AUx (by omega),hc1]at h1
      exact⟨by rw[AVJ,AVi,hl];omega,ih e a m _ _ ha h1⟩
     have hjoin:∀ k,k≤c→(List.range k).flatMap (fun i=>(cs.drop (i*a.size)).take a.size)=cs.take (k*a.size):=by
      intro k
      induction k with
      |zero=>intro _;simp
      |succ k ihk=>
       intro hk
       rw[AV9,AXF,ihk (by omega),AVj,AWK,List.take_add]
       simp
     rw[hjoin c (AU1 _),← hl,AWs]at h2
     exact⟨ys,⟨h1,BJ (fun x _ cs hx=>hx.1) h2⟩,h1,fun x hx=>by obtain⟨i,_,hr⟩:=h3 x hx;exact hr.2⟩
    ·cases h
   ·cases h
  ·rename_i fs hu
   split at h
   ·rename_i a ha
    split at h
    ·rename_i hc
     simp only[AUq]at h;subst h
     have hc:=AVy hc
     obtain⟨xs,m,rfl,_,hl,hxs,hfs⟩:=DataW.trod_struct hu hx
     obtain⟨d,hd,hw⟩:=AHD (enc:=enc) (w:=w) (spare:=spare) (held:=held) (cs:=cs) (fun f b hb _ ⟨y,hy⟩=>ih f.type b y.1 _ y.2 hb hy) fs.toList 0 _ ha (by rw[hl,hc];omega) (fun f hf=>by
      obtain⟨i,hi⟩:=List.getElem?_of_mem hf
      have h1:=hfs i f (by simpa using hi)
      have hlt:i<xs.length:=by rw[hxs];simpa using De hi
      rw[AUx hlt]at h1
      exact⟨(m,xs[i]),h1⟩)
     rw[AXL]at hd
     exact⟨d,hd,hw⟩
    ·cases h
   ·cases h
  ·cases h
theorem AH1{r:Reach}{b0:Nat}{t:TypeId}{v:Value}(hval:Value.okWide P w r b0 t v)(hn:∀ d,P.underlying t=some d→(match d with|.bool|.int _|.slice _=>true|_=>false)=true){ty:Ty}{n:Nat}(h:GB P (n+1) t=some ty):v.cells.toList=[v]:=by
 simp only[Value.okWide]at hval
 have hu:∃ d,P.underlying t=some d:=by
  cases hu:P.underlying t with
  |none=>simp only[GB,hu]at h;cases h
  |some d=>exact⟨d,rfl⟩
 obtain⟨d,hu⟩:=hu
 have:=hn d hu
 rw[hu]at hval
 cases d<;>simp only[AU5]at this<;>simp only[Cell.okWide,hu]at hval<;>cases v<;>first|rfl|(simp_all [Cell.ok])
theorem AOY{r:Reach}{b0:Nat}{t:TypeId}{v:Value}{ps:List MemPlace}{dd:DataW H}(hval:Value.okWide P w r b0 t v)(hd:DataW.Trod enc P w 0 spare held t v dd ps){ty:Ty}{n:Nat}(h:GB P (n+1) t=some ty):
  ∃ d:ty.den,BY w (below w) ty d v∧wfD ty d:=by
 obtain⟨fuel,hf⟩:=hd
 obtain⟨d,h1,h2⟩:=AOZ (n+1) t ty fuel _ _ h hf
 refine⟨d,?_,h2⟩
 have one:(∀ d,P.underlying t=some d→(match d with|.bool|.int _|.slice _=>true|_=>false)=true)→ty.isAgg=false→BY w (below w) ty d v:=by
  intro hn hg
  unfold BY
  rw[hg]
  rw[AH1 hval hn h]at h1
  exact h1
 have agg:(∃ cs,v = .agg cs)→ty.isAgg=true→BY w (below w) ty d v:=by
  rintro⟨cs,rfl⟩ hg
  unfold BY
  rw[hg]
  exact⟨cs,rfl,h1⟩
 have hu:∃ d,P.underlying t=some d:=by
  cases hu:P.underlying t with
  |none=>simp only[GB,hu]at h;cases h
  |some d=>exact⟨d,rfl⟩
 obtain⟨td,hu⟩:=hu
 simp only[GB,hu]at h
 split at h
 ·rename_i hq;cases hq;simp only[AUq]at h;subst h
  exact one (fun d hd=>by rw[hu]at hd;cases hd;rfl) rfl
 ·rename_i k hq;cases hq;simp only[AUq]at h;subst h
  exact one (fun d hd=>by rw[hu]at hd;cases hd;rfl) rfl
 ·rename_i e hq;cases hq
  split at h
  ·split at h
   ·simp only[AUq]at h;subst h
    exact one (fun d hd=>by rw[hu]at hd;cases hd;rfl) rfl
   ·cases h
  ·cases h
 ·rename_i c e hq;cases hq
  have hv:∃ cs,v = .agg cs:=by
   simp only[Value.okWide,hu]at hval
   obtain⟨cs,rfl,_⟩:=hval
   exact⟨cs,rfl⟩
  split at h
  ·split at h
   ·simp only[AUq]at h;subst h
    exact agg hv rfl
   ·cases h
  ·cases h
 ·rename_i fs hq;cases hq
  have hv:∃ cs,v = .agg cs:=by
   simp only[Value.okWide,hu]at hval
   obtain⟨cs,rfl,_⟩:=hval
   exact⟨cs,rfl⟩
  split at h
  ·rename_i a ha
   split at h
   ·simp only[AUq]at h;subst h
    refine agg hv ?_
    cases hfs:fs.toList with
    |nil=>rw[hfs]at ha;simp only[KY,AUq]at ha;subst ha;rfl
    |cons f r=>
     rw[hfs]at ha
     simp only[KY]at ha
     split at ha
     ·split at ha
      ·simp only[AUq]at ha;subst ha;rfl
      ·cases ha
     ·cases ha
   ·cases h
  ·cases h
 ·cases h
theorem W0{g:FuncId}{s:Spec}(hs:AP P g s){args:List AV}{b:Bool}{e:Eff}(hrun:s (AV×Eff) args [] [] 0 (fun v e=>some (v,e))=some (.data .bool b,e)){vals:List Value}
  (hr:AX w (below w) (fun _=>none) [] args vals):Calls P g vals.toArray w fun en w'=>en = .returned (.bool b)∧Below w.heap.size w w':=by
 obtain⟨v,e',h1,_,_,h4⟩:=hs _ args [] [] 0 _ _ hrun
 simp only[AUq,AVH]at h1
 obtain⟨rfl,rfl⟩:=h1
 have hi:HI w (below w) (fun _=>none) [] []:=⟨fun id o h=>by simp at h,fun i j b c b' c' h=>by simp[owned]at h,fun i b c h=>by simp[owned]at h,fun i T t xs b c h=>by simp at h,fun b h=>h,rfl⟩
 refine(h4 w _ _ vals hi hr).mono ?_
 rintro en w' ⟨u,rfl,F',m',⟨hx,_⟩,hu⟩
 have hb:u = .bool b:=CJ hu
 subst hb
 exact⟨rfl,hx.os,hx.tape,hx.output,hx.size,fun i hi=>hx.keep i hi fun j c ho _=>by simp[owned]at ho⟩
end
section
variable {H:Type} {enc:TypeId×Value→H} {P:Program}
theorem WD{f:Func}{s:ChangeSpec}{apart fresh handsOn again:Bool}{W W':World}{args:Array Value}{v:Value}{ds gs:List (DataW H)}{before pa pv:List MemPlace}
  (hW:DataW.Whole enc P f.params.toList s.vars apart W args.toList ds gs before)
  (hres:∀ (b:Nat) (sp:Nat→Bool) (hd:Bool),DataW.TrodAll enc P W' b sp hd f.resultTypes.toList (v.resultList f.resultTypes.size) (s.fn H (ds++gs)).results [])
  (hargs:∀ sp:Nat→Bool,(∀ p∈before,sp p.block=true)→DataW.TrodAll enc P W' 0 sp true f.params.toList args.toList (s.fn H (ds++gs)).args pa)
  (hvars:∀ sp:Nat→Bool,(∀ p∈before,sp p.block=true)→DataW.TrodVars enc P W' sp s.vars (s.fn H (ds++gs)).vars pv)
  (hps:before=pa++pv) (hb:Below W.heap.size W W')
  (hok:∀ (j:Nat) (t:TypeId) (r:Value),f.resultTypes[j]? = some t→(v.resultList f.resultTypes.size)[j]? = some r→Value.okWide P W' .any 0 t r) :
  s.post enc P f apart fresh handsOn again W args v W':=by
 have hlt:∀ p∈before,p.block<W.heap.size:=fun p hp=>hW.lt p hp
 have hold:∀ p∈before,(fun b=>decide (b<W.heap.size)) p.block=true:=fun p hp=>by simpa using hlt p hp
 refine⟨ds,gs,before,[],pa,pv,hW,hres _ _ _,hargs _ hold,hvars _ hold,World.keptBut_mono (fun p hp=>⟨hp,?_⟩) (hb.frame (·∈before)),fun _ => ?_⟩
 ·rw[hps,AUt]at hp
  exact Or.inr hp
 ·obtain⟨_,_,_,_,_,hz,hn⟩:=hW
  refine⟨hok,_,_,([]++pa)++pv,⟨[]++pa,pv,trodAll_append (hargs _ (fun _ _=>rfl)) (hres _ _ _),hvars _ (fun _ _=>rfl),rfl,?_,?_⟩,?_⟩
  ·intro b off hp
   have hin:MemPlace.cell b off∈before:=by rw[hps];simpa using hp
   rw[hb.frozen (hlt _ hin)]
   exact hz b off hin
  ·intro ha
   have:=hn ha
   rw[hps]at this
   simpa using this
  ·intro p hp _
   rw[hps]
   simpa using hp
theorem AGN{t:TypeId}(hl:laidOutB P=true)(hr:P.readableRec t=true)(hrow:t<P.types.size){W W':World}{v:Value}{d:DataW H}{ps:List MemPlace}
  (h:DataW.Trod enc P W 0 (fun _=>true) true t v d ps) (hb:Below W.heap.size W W') (hlt:∀ x∈ps,x.block<W.heap.size) {sp:Nat→Bool} (hs:∀ x∈ps,sp x.block=true) :
  DataW.Trod enc P W' 0 sp true t v d ps:=
 WideElems.Trod_stays hl hr hrow h (fun x hx=>hb.same (hlt x hx)) hs
end
end Go.Pev
end
