/- A part of the proofs of this seat: G24M1 G24M2 G24M3 G24M4 G24M5 G24M6 G24M Pln PlnB T18a T18b T18c PlnM. -/
import Derived.Test.YtaamkoofmojajaaGreatPa7d04ee2b7
import Derived.IntWalk
import Derived.Sort.AssemblyPlain
set_option linter.unusedVariables false
set_option linter.unusedSimpArgs false
set_option linter.unusedSectionVars false
set_option maxRecDepth 100000
section
namespace Go.Pev
noncomputable section
attribute [local irreducible] NA Jh O5 Lq AcC AcD AcE RM T5 Yc AAe Jj AQ many IntKind.wrap AO An AP A1 Bo Dp KE AF BY B1 imax AX Ah
abbrev U0:Ty:=(.int .i64)
abbrev U1:=(Int×Int×Int×Bool×Unit)
abbrev U2:Ty:=(.prod U0 (.prod U0 (.prod U0 (.prod .bool .unit))))
abbrev U3:=(Int×Int×Unit)
abbrev U4:=(List Int)
abbrev U5:Ty:=(.prod U0 (.prod U0 .unit))
abbrev U6:Ty:=(.slice U0)
abbrev U7:=(List Int×Int×Int×Int×Unit)
abbrev U8:=(List U4×Int×Int×Int×Unit)
abbrev U9:=(Int×Unit)
abbrev Ua:Ty:=(.prod U0 (.prod (.slice U2) .unit))
abbrev Ub:Ty:=(.prod U0 (.prod (.slice U6) .unit))
abbrev Uc:=(List Int×Unit)
abbrev Ud:=(Int×(List U1)×Unit)
abbrev Ue:=(List Int×Int×Int×Unit)
abbrev Uf:=(List U4×Int×Int×Unit)
abbrev Ug:=(Bool×Bool×U3×Int×Unit)
abbrev Uh:=(Bool×Unit)
abbrev Ui:=(Int×(List U4)×Unit)
abbrev Uj:=(Int×Bool×Bool×Int×Int×Int×Int×Int×Int×Bool×Int×List U1×Bool×Bool×Int×Int×Int×Int×Int×List Int×Int×Bool×Unit)
abbrev Uk:Ty:=(.slice U6)
abbrev Ul:=(List U4×Int×Int×Int×Int×Unit)
abbrev Um:=(List Int×Int×Int×Int×Int×Unit)
abbrev Un:=(Int×Bool×Bool×Int×Int×Int×Int×Int×Int×Bool×Int×List U1×Bool×Bool×Int×Int×Int×Int×Int×Unit)
abbrev Uo:=(List U4×Unit)
abbrev Up:Ty:=(.slice U2)
abbrev Uq:Ty:=(.slice U5)
abbrev Ur:=(Int×List U1×Bool×Bool×Int×Int×Int×Int×Int×List (Int×Int)×List Int×Int×Int×Unit)
abbrev Us:=(List Int×Int×Unit)
abbrev Ut:=(List Int×Int×Int×Int×Int×Int×Unit)
abbrev Uu:=(Int×Int)
abbrev Uv:=(List U4×Int×Int×Int×Int×Int×Unit)
abbrev Uw:=(Int×List U4×List Bool×Int×Int×Int×List Int×Int×List Int×Int×Bool×Int×List Int×Bool×Bool×List Int×List Int×List U4×List Int×List U4×Bool×Bool×List Int×Int×Int×Bool×Unit)
abbrev Ux:=(Int×List U4×List Uu×Int×List U4×Int×Int×List Int×Int×Int×Bool×List Int×Bool×Bool×List Int×Int×List Int×Int×Bool×Int×List Int×Bool×Bool×List Int×Int×Int×Unit)
abbrev Uy:=(Int×List Int×Int×List Int×Int×Bool×Bool×Bool×Bool×Int×Int×Bool×Int×Int×Int×Int×Int×Bool×Int×Int×Int×Int×Int×Int×Int×Int×Int×Bool×Unit)
abbrev Uz:=(List Int×Int×Int×Int×Bool×Bool×Unit)
abbrev V0:Ty:=(.prod .bool (.prod .bool (.prod U5 (.prod U0 .unit))))
abbrev V1:=(List U3×Unit)
abbrev V2:=(Int×List U4×Int×Unit)
abbrev V3:=(Int×List U1×List U3×Int×Unit)
abbrev V4:=(Ud×List U3×Unit)
abbrev V5:=(List U3×List (U3×Int)×Int×Int×Unit)
abbrev V6:=(Ud×Int×Int×Unit)
abbrev V7:=(Int×List U1×Int×Int×Unit)
abbrev V8:=(List Int×Int×List U4×Int×Int×Unit)
abbrev V9:=(List Int×Int×List U4×Unit)
abbrev Va:=(List U3×List U3×List U3×Int×Unit)
abbrev Vb:=(Int×List U1×Bool×Bool×Int×Int×Int×Int×Unit)
abbrev Vc:=(List U3×List (U3×Int)×Int×Unit)
abbrev Vd:=(List Int×Int×List U4×Int×Unit)
abbrev Ve:=(List U3×Int×List U1×Int×Unit)
abbrev Vf:=(Ui×Int×Unit)
abbrev Vg:=(List U4×Int×Unit)
abbrev Vh:=(Int×List U1×Bool×Bool×Int×Int×Int×Int×List Uu×List Int×Int×Int×Unit)
abbrev Vi:=(List U1×Int×Int×Int×Bool×Int×Unit)
abbrev Vj:=(List Int×Bool×Unit)
abbrev Vk:=(Int×List Int×Unit)
abbrev Vl:=(U8⊕U8⊕Unit)
abbrev Vm:=(U7⊕U7⊕Unit)
abbrev Vn:=(List Int×List U4×Int×List U4×Int×List U4×List U4×Int×Int×Unit)
abbrev ADN:AE:=[(.tmp 0,.dat U6),(.tmp 1,.dat U6)]
abbrev ADM:AE:=[(.tmp 0,.dat .bool)]
abbrev ADL:List RS:=[.one]
abbrev AHt:AE:=[(.tmp 0,.dat U6),(.tmp 1,.dat U6),(.tmp 5,.di)]
abbrev AHs:As:=[(.ret,[(.tmp 4,.dat .bool)]),(.exit 0,[])]
def E9[Lk]:(List Int×List Int×Int×Unit)→Option ((List Int×List Int×Int×Unit)⊕Uh⊕(Unit)⊕Unit):=fun(a0,a1,a2,_)=>
 match(ilt a2 (AO a0))with
 |true=>match idx a0 a2 with|none=>none|some x0=>match idx a1 a2 with|none=>none|some x1=>match(!(ieq x0 x1))with
  |true=>some (.inr (.inl (false,())))
  |false=>some (.inl (a0,a1,(IntKind.wrap .i64 (a2+1)),()))
 |false=>some (.inr (.inr (.inl ())))
def Ru[Lk]:(List Int×List Int×Unit)→Option (Uh):=fun(a0,a1,_)=>
 match(!(ieq (AO a0) (AO a1)))with
 |true=>some (false,())
 |false=>match AS E9 many (a0,a1,0,())with|none=>none|some r=>match r with
 |.inl (o0,_)=>some (o0,())
 |.inr r=>match r with
 |.inl _=>some (true,())
 |.inr _=>none
def WD[Lk]:=fun v=>Lk.f (Ru v)
theorem AHu v:WD v=Ru v:=AN _
abbrev Z3:AE:=[(.tmp 0,.di)]
abbrev Z2:AE:=[(.tmp 0,.dat .bool)]
abbrev Z1:List RS:=[.one]
def Q5[Lk]:U9→Option (Uh):=fun(a0,_)=>
 match(ile 1 a0)with
 |true=>some ((ile a0 64),())
 |false=>some (false,())
def MD[Lk]:=fun v=>Lk.f (Q5 v)
theorem AGq v:MD v=Q5 v:=AN _
abbrev Ad2:AE:=[(.tmp 0,.di),(.tmp 1,.di)]
abbrev Ad1:AE:=[(.tmp 0,.dat .bool)]
abbrev Ad0:List RS:=[.one]
def AYD[Lk]:U3→Option (Uh):=fun(a0,a1,_)=>
 match MD (a0,())with|none=>none|some (y0,_)=>match y0 with
 |true=>match(ile 0 a1)with
  |true=>some ((ilt a1 a0),())
  |false=>some (false,())
 |false=>some (false,())
def tin[Lk]:=fun v=>Lk.f (AYD v)
theorem Ad3 v:tin v=AYD v:=AN _
abbrev ATB:AE:=[(.tmp 0,.di),(.tmp 1,.di),(.tmp 2,.di)]
abbrev ATA:AE:=[(.tmp 0,.di)]
abbrev AS9:List RS:=[.one]
def AJM[Lk]:(Int×Int×Int×Unit)→Option (U9):=fun(a0,a1,a2,_)=>
 match(ieq a1 a2)with
 |true=>some ((-1:Int),())
 |false=>match tin (a0,a1,())with|none=>none|some (y0,_)=>match(!y0)with
 |true=>some ((-1:Int),())
 |false=>match tin (a0,a2,())with|none=>none|some (y1,_)=>match(!y1)with
 |true=>some ((-1:Int),())
 |false=>some ((IntKind.wrap .i64 ((IntKind.wrap .i64 (a0*(IntKind.wrap .i64 (a1+1))))+a2)),())
def AZ3[Lk]:=fun v=>Lk.f (AJM v)
theorem AYE v:AZ3 v=AJM v:=AN _
abbrev Zz:AE:=[(.tmp 0,.di),(.tmp 1,.di)]
abbrev Zy:AE:=[(.tmp 0,.di),(.tmp 1,.di),(.tmp 2,.dat .bool),(.tmp 3,.dat .bool)]
abbrev Zx:List RS:=[.one,.one,.one,.one]
def Q4[Lk]:U3→Option ((Int×Int×Bool×Bool×Unit)):=fun(a0,a1,_)=>
 match MD (a0,())with|none=>none|some (y0,_)=>match(!y0)with
 |true=>some (0,0,false,false,())
 |false=>match(ilt a1 0)with
 |true=>some (0,0,false,false,())
 |false=>match(ile (IntKind.wrap .i64 (a0*(IntKind.wrap .i64 (a0+1)))) a1)with
 |true=>some (0,0,false,false,())
 |false=>match(ilt a1 a0)with
 |true=>some (a1,0,false,true,())
 |false=>match quo? .i64 a1 a0 with|none=>none|some x1=>match rem? a1 a0 with|none=>none|some x2=>match(ieq (IntKind.wrap .i64 (x1-1)) x2)with
 |true=>some (0,0,false,false,())
 |false=>some ((IntKind.wrap .i64 (x1-1)),x2,true,true,())
def Z0[Lk]:=fun v=>Lk.f (Q4 v)
theorem AGp v:Z0 v=Q4 v:=AN _
abbrev AJG:AE:=[(.tmp 0,.di)]
abbrev AJF:AE:=[(.tmp 0,.di),(.tmp 1,.own 55 U6),(.tmp 2,.di)]
abbrev AJE:List RS:=[.agg 2,.one]
abbrev AOA:AE:=[(.tmp 2,.box 2),(.cell 0 0,.di),(.cell 0 1,.nil U6),(.tmp 4,.box 2),(.cell 1 0,.di),(.cell 1 1,.own 55 U6),(.tmp 12,.di),(.tmp 13,.di)]
abbrev AN9:As:=[(.exit 0,[(.tmp 2,.box 2),(.cell 0 0,.di),(.cell 0 1,.nil U6),(.tmp 4,.box 2),(.cell 1 0,.di),(.cell 1 1,.own 55 U6)])]
def H5[Lk]:(Int×Int×List U4×Int×Int×Unit)→Option ((Int×Int×List U4×Int×Int×Unit)⊕(Int×Int×List U4×Unit)⊕Unit):=fun(a0,a1,a2,a3,a4,_)=>
 match(ilt a4 a3)with
 |true=>match(fits ((AO a2)+(AO ([([a4]:List (Int))]:List U4))))with
  |true=>some (.inl (a0,a1,(A1 a2 ([([a4]:List (Int))]:List U4)),a3,(IntKind.wrap .i64 (a4+1)),()))
  |false=>none
 |false=>some (.inr (.inl (a0,a1,a2,())))
def Y9[Lk]:U9→Option (V2):=fun(a0,_)=>
 match MD (a0,())with|none=>none|some (y0,_)=>match(!y0)with
 |true=>some (0,([]:List U4),1,())
 |false=>match AS H5 many (0,a0,([]:List U4),a0,0,())with|none=>none|some r=>match r with
 |.inl (o1,o2,o3,_)=>some (o2,o3,0,())
 |.inr _=>none
def AOC[Lk]:=fun v=>Lk.f (Y9 v)
theorem AOB v:AOC v=Y9 v:=AN _
abbrev ADU:AE:=[(.tmp 0,.dat U6),(.tmp 1,.di)]
abbrev ADT:AE:=[(.tmp 0,.di)]
abbrev ADS:List RS:=[.one]
abbrev AHw:AE:=[(.tmp 0,.dat U6),(.tmp 1,.di),(.tmp 7,.di),(.tmp 8,.di)]
abbrev AHv:As:=[(.ret,[(.tmp 4,.di)]),(.exit 0,[])]
def GG[Lk]:U7→Option (U7⊕U9⊕(Unit)⊕Unit):=fun(a0,a1,a2,a3,_)=>
 match(ilt a3 a2)with
 |true=>match idx a0 a3 with|none=>none|some x0=>match(ieq a1 x0)with
  |true=>some (.inr (.inl (a3,())))
  |false=>some (.inl (a0,a1,a2,(IntKind.wrap .i64 (a3+1)),()))
 |false=>some (.inr (.inr (.inl ())))
def Ry[Lk]:Us→Option (U9):=fun(a0,a1,_)=>
 match AS GG many (a0,a1,(AO a0),0,())with|none=>none|some r=>match r with
 |.inl (o0,_)=>some (o0,())
 |.inr r=>match r with
 |.inl _=>some ((-1:Int),())
 |.inr _=>none
def QD[Lk]:=fun v=>Lk.f (Ry v)
theorem AHx v:QD v=Ry v:=AN _
abbrev NJ:AE:=[(.tmp 0,.dat U6),(.tmp 1,.di)]
abbrev NI:AE:=[(.tmp 0,.dat .bool)]
abbrev NH:List RS:=[.one]
def JO[Lk]:Us→Option (Uh):=fun(a0,a1,_)=>
 match QD (a0,a1,())with|none=>none|some (y0,_)=>some ((ile 0 y0),())
def FA[Lk]:=fun v=>Lk.f (JO v)
theorem SW v:FA v=JO v:=AN _
abbrev AVe:AE:=[(.tmp 0,.dat U6)]
abbrev AVd:AE:=[(.tmp 0,.di)]
abbrev AVc:List RS:=[.one]
abbrev AYn:AE:=[(.tmp 0,.dat U6),(.tmp 3,.di),(.tmp 4,.di)]
abbrev AYm:As:=[(.exit 0,[(.tmp 3,.di)])]
def Kt[Lk]:Ue→Option (Ue⊕U9⊕Unit):=fun(a0,a1,a2,_)=>
 match(ilt a2 (AO a0))with
 |true=>match idx a0 a2 with|none=>none|some x0=>some (.inl (a0,(B1 a1 x0),(IntKind.wrap .i64 (a2+1)),()))
 |false=>some (.inr (.inl (a1,())))
def ALB[Lk]:Uc→Option (U9):=fun(a0,_)=>
 match(ilt (AO a0) 1)with
 |true=>none
 |false=>match idx a0 0 with|none=>none|some x0=>match AS Kt many (a0,x0,1,())with|none=>none|some r=>match r with
 |.inl (o1,_)=>some (o1,())
 |.inr _=>none
def AbT[Lk]:=fun v=>Lk.f (ALB v)
theorem AYo v:AbT v=ALB v:=AN _
abbrev AL8:AE:=[(.tmp 0,.nil U0),(.tmp 1,.di)]
abbrev AL7:AE:=[(.tmp 0,.own 3 U0)]
abbrev AL6:List RS:=[.one]
def Zb[Lk]:U9→Option (Uc):=fun(a0,_)=>
 match(ilt a0 0)with
 |true=>none
 |false=>match(ilt 0 (IntKind.wrap .i64 (a0-(IntKind.wrap .i64 (0-0)))))with
 |true=>match Bv ([]:List Unit) 0 0 with|none=>none|some _u0=>match(Lx (IntKind.wrap .i64 (a0-(IntKind.wrap .i64 (0-0)))))with
  |true=>match Bv (KE (AF (IntKind.wrap .i64 (a0-(IntKind.wrap .i64 ((0:Int)-(0:Int)))))) (0:Int)) (0:Int) (0:Int)with|none=>none|some x1=>some ((Bo (AF (AO x1)) (KE (AF (IntKind.wrap .i64 (a0-(IntKind.wrap .i64 ((0:Int)-(0:Int)))))) (0:Int))),())
  |false=>none
 |false=>some (([]:List (Int)),())
def ARa[Lk]:=fun v=>Lk.f (Zb v)
theorem ARZ v:ARa v=Zb v:=AN _
abbrev Wg:AE:=[(.tmp 0,.dat Uk)]
abbrev Wf:AE:=[(.tmp 0,.own 3 U0)]
abbrev We:List RS:=[.one]
abbrev AEH:AE:=[(.tmp 6,.own 3 U0),(.tmp 25,.dat Uk),(.tmp 26,.di),(.tmp 27,.di)]
abbrev AEF:As:=[(.exit 2,[(.tmp 6,.own 3 U0)])]
def Ep[Lk]:(List Int×List U4×Int×Int×Unit)→Option ((List Int×List U4×Int×Int×Unit)⊕Uc⊕Unit):=fun(a0,a1,a2,a3,_)=>
 match(ilt a3 a2)with
 |true=>match idx a1 a3 with|none=>none|some x0=>match(fits ((AO a0)+(AO x0)))with
  |true=>some (.inl ((A1 a0 x0),a1,a2,(IntKind.wrap .i64 (a3+1)),()))
  |false=>none
 |false=>some (.inr (.inl (a0,())))
abbrev AEI:AE:=[(.tmp 0,.dat Uk),(.tmp 3,.di),(.tmp 9,.dat Uk),(.tmp 10,.di),(.tmp 11,.di)]
abbrev AEG:As:=[(.exit 0,[(.tmp 0,.dat Uk),(.tmp 3,.di)])]
def Er[Lk]:(List U4×Int×List U4×Int×Int×Unit)→Option ((List U4×Int×List U4×Int×Int×Unit)⊕Vg⊕Unit):=fun(a0,a1,a2,a3,a4,_)=>
 match(ilt a4 a3)with
 |true=>match idx a2 a4 with|none=>none|some x0=>match(ilt (IntKind.wrap .i64 (a1+(AO x0))) 0)with
  |true=>none
  |false=>some (.inl (a0,(IntKind.wrap .i64 (a1+(AO x0))),a2,a3,(IntKind.wrap .i64 (a4+1)),()))
 |false=>some (.inr (.inl (a0,a1,())))
def Oa[Lk]:Uo→Option (Uc):=fun(a0,_)=>
 match AS Er many (a0,0,a0,(AO a0),0,())with|none=>none|some r=>match r with
 |.inl (o0,o1,_)=>match ARa (o1,())with|none=>none|some (y2,_)=>match AS Ep many (y2,o0,(AO o0),0,())with|none=>none|some r=>match r with
  |.inl (o3,_)=>some (o3,())
  |.inr _=>none
 |.inr _=>none
def JP[Lk]:=fun v=>Lk.f (Oa v)
theorem AEJ v:JP v=Oa v:=AN _
abbrev IT:AE:=[(.tmp 0,.dat U6),(.tmp 1,.clo 195 [])]
abbrev IS:AE:=[(.tmp 0,.di)]
abbrev IQ:List RS:=[.one]
abbrev Ls:AE:=[(.tmp 0,.dat U6),(.tmp 1,.clo 195 []),(.tmp 7,.di),(.tmp 8,.di)]
abbrev Lr:As:=[(.ret,[(.tmp 4,.di)]),(.exit 0,[])]
def CB[Lk]:Ue→Option (Ue⊕U9⊕(Unit)⊕Unit):=fun(a0,a1,a2,_)=>
 match(ilt a2 a1)with
 |true=>match idx a0 a2 with|none=>none|some x0=>match(ilt x0 0)with
  |true=>some (.inr (.inl (a2,())))
  |false=>match(ilt 10000 x0)with
  |true=>some (.inr (.inl (a2,())))
  |false=>some (.inl (a0,a1,(IntKind.wrap .i64 (a2+1)),()))
 |false=>some (.inr (.inr (.inl ())))
def FX[Lk]:Uc→Option (U9):=fun(a0,_)=>
 match AS CB many (a0,(AO a0),0,())with|none=>none|some r=>match r with
 |.inl (o0,_)=>some (o0,())
 |.inr r=>match r with
 |.inl _=>some ((-1:Int),())
 |.inr _=>none
def HU[Lk]:=fun v=>Lk.f (FX v)
theorem Lt v:HU v=FX v:=AN _
abbrev HH:AE:=[(.tmp 0,.dat U6),(.tmp 1,.clo 195 [])]
abbrev HG:AE:=[(.tmp 0,.dat .bool)]
abbrev HF:List RS:=[.one]
def EX[Lk]:Uc→Option (Uh):=fun(a0,_)=>
 match HU (a0,())with|none=>none|some (y0,_)=>some ((ile 0 y0),())
def EO[Lk]:=fun v=>Lk.f (EX v)
theorem KG v:EO v=EX v:=AN _
abbrev AVM:AE:=[(.tmp 0,.dat U6)]
abbrev AVL:AE:=[(.tmp 0,.dat .bool)]
abbrev AVK:List RS:=[.one]
abbrev AYf:AE:=[(.tmp 0,.dat U6),(.tmp 3,.map U0 U0),(.tmp 7,.dat U6),(.tmp 8,.di),(.tmp 9,.di)]
abbrev AYe:As:=[(.exit 0,[(.tmp 0,.dat U6),(.tmp 3,.map U0 U0)])]
def Ko[Lk]:(List Int×List Uu×List Int×Int×Int×Unit)→Option ((List Int×List Uu×List Int×Int×Int×Unit)⊕(List Int×List Uu×Unit)⊕Unit):=fun(a0,a1,a2,a3,a4,_)=>
 match(ilt a4 a3)with
 |true=>match idx a2 a4 with|none=>none|some x0=>some (.inl (a0,(Ah a1 x0 (IntKind.wrap .i64 (((AX a1 x0).getD 0)+1))),a2,a3,(IntKind.wrap .i64 (a4+1)),()))
 |false=>some (.inr (.inl (a0,a1,())))
def AKz[Lk]:Uc→Option (Uh):=fun(a0,_)=>
 match AS Ko many (a0,([]:List Uu),a0,(AO a0),0,())with|none=>none|some r=>match r with
 |.inl (o0,o1,_)=>some ((ieq (AO o1) (AO o0)),())
 |.inr _=>none
def once[Lk]:=fun v=>Lk.f (AKz v)
theorem AYg v:once v=AKz v:=AN _
abbrev AAt:AE:=[(.tmp 0,.dat U6)]
abbrev AAs:AE:=[(.tmp 0,.dat .bool)]
abbrev AAr:List RS:=[.one]
def RH[Lk]:Uc→Option (Uh):=fun(a0,_)=>
 match(ilt 1000 (AO a0))with
 |true=>some (false,())
 |false=>match EO (a0,())with|none=>none|some (y0,_)=>match(!y0)with
 |true=>match once (a0,())with|none=>none|some (y1,_)=>some (y1,())
 |false=>some (false,())
def Pk[Lk]:=fun v=>Lk.f (RH v)
theorem AHJ v:Pk v=RH v:=AN _
abbrev Zw:AE:=[(.tmp 0,.dat U6),(.tmp 1,.di)]
abbrev Zv:AE:=[(.tmp 0,.own 3 U0)]
abbrev Zu:List RS:=[.one]
def Q3[Lk]:Us→Option (Uc):=fun(a0,a1,_)=>
 match Bv a0 a1 (AO a0)with|none=>none|some x0=>match Bv a0 0 a1 with|none=>none|some x1=>match JP (([x0,x1]:List U4),())with|none=>none|some (y2,_)=>some (y2,())
def TW[Lk]:=fun v=>Lk.f (Q3 v)
theorem AGo v:TW v=Q3 v:=AN _
abbrev ABd:AE:=[(.tmp 0,.dat U6),(.tmp 1,.dat U6)]
abbrev ABc:AE:=[(.tmp 0,.own 3 U0),(.tmp 1,.dat .bool)]
abbrev ABb:List RS:=[.one,.one]
abbrev AHT:AE:=[(.tmp 0,.dat U6),(.tmp 6,.own 3 U0),(.tmp 12,.dat U6),(.tmp 13,.di),(.tmp 14,.di)]
abbrev AHS:As:=[(.exit 0,[(.tmp 6,.own 3 U0)])]
def E4[Lk]:(List Int×List Int×List Int×Int×Int×Unit)→Option ((List Int×List Int×List Int×Int×Int×Unit)⊕Uc⊕Unit):=fun(a0,a1,a2,a3,a4,_)=>
 match(ilt a4 a3)with
 |true=>match idx a2 a4 with|none=>none|some x0=>match QD (a0,x0,())with|none=>none|some (y1,_)=>match(fits ((AO a1)+(AO ([y1]:List (Int)))))with
  |true=>some (.inl (a0,(A1 a1 ([y1]:List (Int))),a2,a3,(IntKind.wrap .i64 (a4+1)),()))
  |false=>none
 |false=>some (.inr (.inl (a1,())))
def RR[Lk]:(List Int×List Int×Unit)→Option (Vj):=fun(a0,a1,_)=>
 match Pk (a0,())with|none=>none|some (y0,_)=>match(!y0)with
 |true=>some (([]:List (Int)),false,())
 |false=>match AS E4 many (a0,([]:List (Int)),a1,(AO a1),0,())with|none=>none|some r=>match r with
 |.inl (o1,_)=>match FA (o1,(-1:Int),())with|none=>none|some (y2,_)=>some (o1,(!y2),())
 |.inr _=>none
def AKI[Lk]:=fun v=>Lk.f (RR v)
theorem AHU v:AKI v=RR v:=AN _
abbrev AJt:AE:=[(.tmp 0,.dat U6),(.tmp 1,.di)]
abbrev AJs:AE:=[(.tmp 0,.own 3 U0),(.tmp 1,.dat .bool)]
abbrev AJr:List RS:=[.one,.one]
def ZG[Lk]:Us→Option (Vj):=fun(a0,a1,_)=>
 match AKI (a0,([a1]:List (Int)),())with|none=>none|some (y0,y1,_)=>match(!y1)with
 |true=>some (([]:List (Int)),false,())
 |false=>match idx y0 0 with|none=>none|some x2=>match TW (a0,(AP y0 0 0),())with|none=>none|some (y3,_)=>some (y3,true,())
def AHM[Lk]:=fun v=>Lk.f (ZG v)
theorem AOq v:AHM v=ZG v:=AN _
abbrev AAw:AE:=[(.tmp 0,.dat U6)]
abbrev AAv:AE:=[(.tmp 0,.own 3 U0)]
abbrev AAu:List RS:=[.one]
def RI[Lk]:Uc→Option (Uc):=fun(a0,_)=>
 match Pk (a0,())with|none=>none|some (y0,_)=>match(!y0)with
 |true=>some (([]:List (Int)),())
 |false=>match(ieq (AO a0) 0)with
 |true=>some (([]:List (Int)),())
 |false=>match AbT (a0,())with|none=>none|some (y1,_)=>match QD (a0,y1,())with|none=>none|some (y2,_)=>match TW (a0,y2,())with|none=>none|some (y3,_)=>some (y3,())
def AAx[Lk]:=fun v=>Lk.f (RI v)
theorem AHK v:AAx v=RI v:=AN _
abbrev GK:AE:=[(.tmp 0,.dat Uk),(.cap 1 0,.box 1),(.cell 0 0,.di),(.tmp 1,.clo 180 [(0,0)])]
abbrev GJ:AE:=[(.obj 0,.box 1),(.cell 0 0,.di),(.tmp 0,.di)]
abbrev GH:List RS:=[.one]
abbrev JF:AE:=[(.obj 0,.box 1),(.cell 0 0,.di),(.tmp 0,.dat Uk),(.tmp 1,.clo 180 [(0,0)]),(.tmp 7,.di),(.tmp 8,.di)]
abbrev JE:As:=[(.ret,[(.obj 0,.box 1),(.cell 0 0,.di),(.tmp 4,.di)]),(.exit 0,[(.obj 0,.box 1),(.cell 0 0,.di)])]
def Bj[Lk]:(Int×List U4×Int×Int×Unit)→Option ((Int×List U4×Int×Int×Unit)⊕U3⊕U9⊕Unit):=fun(a0,a1,a2,a3,_)=>
 match(ilt a3 a2)with
 |true=>match idx a1 a3 with|none=>none|some x0=>match FA (x0,a0,())with|none=>none|some (y1,_)=>match y1 with
  |true=>some (.inr (.inl (a0,a3,())))
  |false=>some (.inl (a0,a1,a2,(IntKind.wrap .i64 (a3+1)),()))
 |false=>some (.inr (.inr (.inl (a0,()))))
def D3[Lk]:Vg→Option (U3):=fun(a0,a1,_)=>
 match AS Bj many (a1,a0,(AO a0),0,())with|none=>none|some r=>match r with
 |.inl (o0,o1,_)=>some (o0,o1,())
 |.inr r=>match r with
 |.inl (o2,_)=>some (o2,(-1:Int),())
 |.inr _=>none
def FV[Lk]:=fun v=>Lk.f (D3 v)
theorem JG v:FV v=D3 v:=AN _
abbrev AAK:AE:=[(.tmp 0,.dat Ub),(.tmp 1,.di)]
abbrev AAJ:AE:=[(.tmp 0,.di)]
abbrev AAI:List RS:=[.one]
def RA[Lk]:Vf→Option (U9):=fun(a0,a1,_)=>
 match FV (a0.2.1,a1,())with|none=>none|some (y0,y1,_)=>some (y1,())
def Pb[Lk]:=fun v=>Lk.f (RA v)
theorem AG5 v:Pb v=RA v:=AN _
abbrev AWl:AE:=[(.tmp 0,.di),(.tmp 1,.dat U6)]
abbrev AWk:AE:=[(.tmp 0,.dat .bool)]
abbrev AWj:List RS:=[.one]
abbrev AZA:AE:=[(.tmp 0,.di),(.tmp 5,.box 3),(.cell 0 0,.own 3 U0),(.cell 0 1,.map U0 U0),(.cell 0 2,.map U0 U0),(.tmp 30,.dat U6),(.tmp 31,.di),(.tmp 32,.di)]
abbrev AY9:As:=[(.ret,[(.tmp 4,.dat .bool)]),(.exit 0,[(.tmp 5,.box 3),(.cell 0 0,.own 3 U0),(.cell 0 1,.map U0 U0),(.cell 0 2,.map U0 U0)])]
def JK[Lk]:(Int×List Int×List Uu×List Uu×List Int×Int×Int×Unit)→Option ((Int×List Int×List Uu×List Uu×List Int×Int×Int×Unit)⊕Uh⊕(List Int×List Uu×List Uu×Unit)⊕Unit):=fun(a0,a1,a2,a3,a4,a5,a6,_)=>
 match(ilt a6 a5)with
 |true=>match idx a4 a6 with|none=>none|some x0=>match Z0 (a0,x0,())with|none=>none|some (y1,y2,y3,y4,_)=>match(!y4)with
  |true=>some (.inr (.inl (false,())))
  |false=>match y3 with
  |true=>match idx a1 (IntKind.wrap .i64 ((AO a1)-1))with|none=>none|some x5=>match(!(ieq (AP a1 (AF (IntKind.wrap .i64 ((AO a1)-1))) 0) y1))with
   |true=>some (.inr (.inl (false,())))
   |false=>match(ilt 0 (IntKind.wrap .i64 ((AO a1)-1)))with
   |true=>match idx a1 (IntKind.wrap .i64 ((IntKind.wrap .i64 ((AO a1)-1))-1))with|none=>none|some x6=>match(ieq (AP a1 (AF (IntKind.wrap .i64 ((IntKind.wrap .i64 ((AO a1)-1))-1))) 0) y2)with
    |true=>match Bv a1 0 (IntKind.wrap .i64 ((AO a1)-1))with|none=>none|some x7=>match(!y3)with
     |true=>match idx (Dp 0 (AF (AO x7)) a1) (IntKind.wrap .i64 ((((AF (AO x7)):Nat):Int)-1))with|none=>none|some x8=>match(!(ieq (AP a1 (0+(AF (IntKind.wrap .i64 ((((AF (AO x7)):Nat):Int)-1)))) 0) y1))with
      |true=>some (.inr (.inl (false,())))
      |false=>match(!y3)with
      |true=>some (.inl (a0,(Bo (AF (AO x7)) a1),a2,(Ah a3 y1 (IntKind.wrap .i64 (((AX a3 y1).getD 0)+1))),a4,a5,(IntKind.wrap .i64 (a6+1)),()))
      |false=>some (.inl (a0,(Bo (AF (AO x7)) a1),a2,a3,a4,a5,(IntKind.wrap .i64 (a6+1)),()))
     |false=>match(!y3)with
     |true=>some (.inl (a0,(Bo (AF (AO x7)) a1),a2,(Ah a3 y1 (IntKind.wrap .i64 (((AX a3 y1).getD 0)+1))),a4,a5,(IntKind.wrap .i64 (a6+1)),()))
     |false=>some (.inl (a0,(Bo (AF (AO x7)) a1),a2,a3,a4,a5,(IntKind.wrap .i64 (a6+1)),()))
    |false=>match(ilt 0 ((AX a2 y2).getD 0))with
    |true=>some (.inr (.inl (false,())))
    |false=>match(fits ((AO a1)+(AO ([y2]:List (Int)))))with
    |true=>match(!y3)with
     |true=>match idx (A1 a1 ([y2]:List (Int))) (IntKind.wrap .i64 ((AO (A1 a1 ([y2]:List (Int))))-1))with|none=>none|some x9=>match(!(ieq (AP (A1 a1 ([y2]:List (Int))) (AF (IntKind.wrap .i64 ((AO (A1 a1 ([y2]:List (Int))))-1))) 0) y1))with
      |true=>some (.inr (.inl (false,())))
      |false=>match(!y3)with
      |true=>some (.inl (a0,(A1 a1 ([y2]:List (Int))),(Ah a2 y2 (IntKind.wrap .i64 (((AX a2 y2).getD 0)+1))),(Ah a3 y1 (IntKind.wrap .i64 (((AX a3 y1).getD 0)+1))),a4,a5,(IntKind.wrap .i64 (a6+1)),()))
      |false=>some (.inl (a0,(A1 a1 ([y2]:List (Int))),(Ah a2 y2 (IntKind.wrap .i64 (((AX a2 y2).getD 0)+1))),a3,a4,a5,(IntKind.wrap .i64 (a6+1)),()))
     |false=>match(!y3)with
     |true=>some (.inl (a0,(A1 a1 ([y2]:List (Int))),(Ah a2 y2 (IntKind.wrap .i64 (((AX a2 y2).getD 0)+1))),(Ah a3 y1 (IntKind.wrap .i64 (((AX a3 y1).getD 0)+1))),a4,a5,(IntKind.wrap .i64 (a6+1)),()))
     |false=>some (.inl (a0,(A1 a1 ([y2]:List (Int))),(Ah a2 y2 (IntKind.wrap .i64 (((AX a2 y2).getD 0)+1))),a3,a4,a5,(IntKind.wrap .i64 (a6+1)),()))
    |false=>none
   |false=>match(ilt 0 ((AX a2 y2).getD 0))with
   |true=>some (.inr (.inl (false,())))
   |false=>match(fits ((AO a1)+(AO ([y2]:List (Int)))))with
   |true=>match(!y3)with
    |true=>match idx (A1 a1 ([y2]:List (Int))) (IntKind.wrap .i64 ((AO (A1 a1 ([y2]:List (Int))))-1))with|none=>none|some x10=>match(!(ieq (AP (A1 a1 ([y2]:List (Int))) (AF (IntKind.wrap .i64 ((AO (A1 a1 ([y2]:List (Int))))-1))) 0) y1))with
     |true=>some (.inr (.inl (false,())))
     |false=>match(!y3)with
     |true=>some (.inl (a0,(A1 a1 ([y2]:List (Int))),(Ah a2 y2 (IntKind.wrap .i64 (((AX a2 y2).getD 0)+1))),(Ah a3 y1 (IntKind.wrap .i64 (((AX a3 y1).getD 0)+1))),a4,a5,(IntKind.wrap .i64 (a6+1)),()))
     |false=>some (.inl (a0,(A1 a1 ([y2]:List (Int))),(Ah a2 y2 (IntKind.wrap .i64 (((AX a2 y2).getD 0)+1))),a3,a4,a5,(IntKind.wrap .i64 (a6+1)),()))
    |false=>match(!y3)with
    |true=>some (.inl (a0,(A1 a1 ([y2]:List (Int))),(Ah a2 y2 (IntKind.wrap .i64 (((AX a2 y2).getD 0)+1))),(Ah a3 y1 (IntKind.wrap .i64 (((AX a3 y1).getD 0)+1))),a4,a5,(IntKind.wrap .i64 (a6+1)),()))
    |false=>some (.inl (a0,(A1 a1 ([y2]:List (Int))),(Ah a2 y2 (IntKind.wrap .i64 (((AX a2 y2).getD 0)+1))),a3,a4,a5,(IntKind.wrap .i64 (a6+1)),()))
   |false=>none
  |false=>match(!y3)with
  |true=>match idx a1 (IntKind.wrap .i64 ((AO a1)-1))with|none=>none|some x11=>match(!(ieq (AP a1 (AF (IntKind.wrap .i64 ((AO a1)-1))) 0) y1))with
   |true=>some (.inr (.inl (false,())))
   |false=>match(!y3)with
   |true=>some (.inl (a0,a1,a2,(Ah a3 y1 (IntKind.wrap .i64 (((AX a3 y1).getD 0)+1))),a4,a5,(IntKind.wrap .i64 (a6+1)),()))
   |false=>some (.inl (a0,a1,a2,a3,a4,a5,(IntKind.wrap .i64 (a6+1)),()))
  |false=>match(!y3)with
  |true=>some (.inl (a0,a1,a2,(Ah a3 y1 (IntKind.wrap .i64 (((AX a3 y1).getD 0)+1))),a4,a5,(IntKind.wrap .i64 (a6+1)),()))
  |false=>some (.inl (a0,a1,a2,a3,a4,a5,(IntKind.wrap .i64 (a6+1)),()))
 |false=>some (.inr (.inr (.inl (a1,a2,a3,()))))
def AMB[Lk]:Vk→Option (Uh):=fun(a0,a1,_)=>
 match idx a1 0 with|none=>none|some x0=>match tin (a0,x0,())with|none=>none|some (y1,_)=>match(!y1)with
 |true=>some (false,())
 |false=>match idx a1 0 with|none=>none|some x2=>match idx a1 0 with|none=>none|some x3=>match AS JK many (a0,([x2]:List (Int)),(Ah ([]:List Uu) x3 1),([]:List Uu),a1,(AO a1),0,())with|none=>none|some r=>match r with
 |.inl (o4,_)=>some (o4,())
 |.inr r=>match r with
 |.inl (o5,o6,o7,_)=>match(ieq (AO o5) 1)with
  |true=>some ((ieq (AO o7) (AO o6)),())
  |false=>some (false,())
 |.inr _=>none
def Agq[Lk]:=fun v=>Lk.f (AMB v)
theorem AZB v:Agq v=AMB v:=AN _
abbrev AAB:AE:=[(.tmp 0,.dat Ub)]
abbrev AAA:AE:=[(.tmp 0,.dat .bool)]
abbrev Z9:List RS:=[.one]
abbrev AGu:AE:=[(.tmp 3,.map U0 U0),(.tmp 78,.di),(.tmp 79,.di)]
abbrev AGr:As:=[(.ret,[(.tmp 2,.dat .bool)]),(.exit 4,[])]
def Ey[Lk]:(List Uu×Int×Int×Unit)→Option ((List Uu×Int×Int×Unit)⊕Uh⊕(Unit)⊕Unit):=fun(a0,a1,a2,_)=>
 match(ilt a2 a1)with
 |true=>match(ieq ((AX a0 a2).getD 0) 0)with
  |true=>some (.inr (.inl (false,())))
  |false=>some (.inl (a0,a1,(IntKind.wrap .i64 (a2+1)),()))
 |false=>some (.inr (.inr (.inl ())))
abbrev AGv:AE:=[(.tmp 1,.box 2),(.cell 0 0,.di),(.cell 0 1,.dat Uk),(.tmp 3,.map U0 U0),(.tmp 4,.di),(.tmp 16,.dat Uk),(.tmp 17,.di),(.tmp 18,.di),(.tmp 26,.dat U6),(.tmp 28,.di),(.tmp 29,.di),(.tmp 30,.dat .bool),(.tmp 33,.dat U6),(.tmp 34,.dat .bool),(.tmp 35,.dat .bool),(.tmp 38,.dat U6),(.tmp 39,.di),(.tmp 40,.dat U6),(.tmp 42,.di),(.tmp 43,.dat .bool),(.tmp 46,.ptr' 0 0),(.tmp 47,.di),(.tmp 48,.dat U6),(.tmp 49,.dat .bool),(.tmp 50,.dat .bool),(.tmp 55,.dat U6),(.tmp 56,.di),(.tmp 57,.di)]
abbrev AGs:As:=[(.ret,[(.tmp 2,.dat .bool)]),(.exit 2,[(.tmp 1,.box 2),(.cell 0 0,.di),(.cell 0 1,.dat Uk),(.tmp 3,.map U0 U0),(.tmp 4,.di),(.tmp 16,.dat Uk),(.tmp 17,.di),(.tmp 18,.di),(.tmp 26,.dat U6),(.tmp 28,.di),(.tmp 29,.di),(.tmp 30,.dat .bool),(.tmp 33,.dat U6),(.tmp 34,.dat .bool),(.tmp 35,.dat .bool),(.tmp 38,.dat U6),(.tmp 39,.di),(.tmp 40,.dat U6),(.tmp 42,.di),(.tmp 43,.dat .bool),(.tmp 46,.ptr' 0 0),(.tmp 47,.di),(.tmp 48,.dat U6),(.tmp 49,.dat .bool),(.tmp 50,.dat .bool)])]
def Ds[Lk]:Ux→Option (Ux⊕Uh⊕(Int×List U4×List Uu×Int×List U4×Int×Int×List Int×Int×Int×Bool×List Int×Bool×Bool×List Int×Int×List Int×Int×Bool×Int×List Int×Bool×Bool×Unit)⊕Unit):=fun(a0,a1,a2,a3,a4,a5,a6,a7,a8,a9,a10,a11,a12,a13,a14,a15,a16,a17,a18,a19,a20,a21,a22,a23,a24,a25,_)=>
 match(ilt a25 a24)with
 |true=>match idx a23 a25 with|none=>none|some x0=>match(ilt x0 a0)with
  |true=>match(ilt 0 ((AX a2 x0).getD 0))with
   |true=>some (.inr (.inl (false,())))
   |false=>some (.inl (a0,a1,(Ah a2 x0 (IntKind.wrap .i64 (((AX a2 x0).getD 0)+1))),a3,a4,a5,a6,a7,a8,a9,a10,a11,a12,a13,a14,a15,a16,a17,a18,a19,a20,a21,a22,a23,a24,(IntKind.wrap .i64 (a25+1)),()))
  |false=>some (.inl (a0,a1,(Ah a2 x0 (IntKind.wrap .i64 (((AX a2 x0).getD 0)+1))),a3,a4,a5,a6,a7,a8,a9,a10,a11,a12,a13,a14,a15,a16,a17,a18,a19,a20,a21,a22,a23,a24,(IntKind.wrap .i64 (a25+1)),()))
 |false=>some (.inr (.inr (.inl (a0,a1,a2,a3,a4,a5,a6,a7,a8,a9,a10,a11,a12,a13,a14,a15,a16,a17,a18,a19,a20,a21,a22,()))))
abbrev AGw:AE:=[(.tmp 1,.box 2),(.cell 0 0,.di),(.cell 0 1,.dat Uk),(.tmp 3,.map U0 U0),(.tmp 4,.di),(.tmp 16,.dat Uk),(.tmp 17,.di),(.tmp 18,.di)]
abbrev AGt:As:=[(.ret,[(.tmp 2,.dat .bool)]),(.exit 0,[(.tmp 1,.box 2),(.cell 0 0,.di),(.cell 0 1,.dat Uk),(.tmp 3,.map U0 U0)])]
def Dt[Lk]:(Int×List U4×List Uu×Int×List U4×Int×Int×Unit)→Option ((Int×List U4×List Uu×Int×List U4×Int×Int×Unit)⊕Uh⊕(Int×List U4×List Uu×Unit)⊕Unit):=fun(a0,a1,a2,a3,a4,a5,a6,_)=>
 match(ilt a6 a5)with
 |true=>match idx a4 a6 with|none=>none|some x0=>match(ieq (AO x0) 0)with
  |true=>some (.inr (.inl (false,())))
  |false=>match idx x0 0 with|none=>none|some x1=>match(ile x1 a3)with
  |true=>some (.inr (.inl (false,())))
  |false=>match Pk (x0,())with|none=>none|some (y2,_)=>match(!y2)with
  |true=>some (.inr (.inl (false,())))
  |false=>match AbT (x0,())with|none=>none|some (y3,_)=>match idx x0 0 with|none=>none|some x4=>match(!(ieq y3 x4))with
  |true=>some (.inr (.inl (false,())))
  |false=>match Agq (a0,x0,())with|none=>none|some (y5,_)=>match(!y5)with
  |true=>some (.inr (.inl (false,())))
  |false=>match idx x0 0 with|none=>none|some x6=>match AS Ds many (a0,a1,a2,x6,a4,a5,a6,x0,x1,a3,(ile x1 a3),x0,y2,(!y2),x0,y3,x0,x4,(!(ieq y3 x4)),a0,x0,y5,(!y5),x0,(AO x0),0,())with|none=>none|some r=>match r with
  |.inl (o7,_)=>some (.inr (.inl (o7,())))
  |.inr r=>match r with
  |.inl (o8,o9,o10,o11,o12,o13,o14,o15,o16,o17,o18,o19,o20,o21,o22,o23,o24,o25,o26,o27,o28,o29,o30,_)=>some (.inl (o8,o9,o10,o11,o12,o13,(IntKind.wrap .i64 (o14+1)),()))
  |.inr _=>none
 |false=>some (.inr (.inr (.inl (a0,a1,a2,()))))
def Q8[Lk]:(Ui×Unit)→Option (Uh):=fun(a0,_)=>
 match MD (a0.1,())with|none=>none|some (y0,_)=>match(!y0)with
 |true=>some (false,())
 |false=>match AS Dt many (a0.1,a0.2.1,([]:List Uu),(-1:Int),a0.2.1,(AO a0.2.1),0,())with|none=>none|some r=>match r with
 |.inl (o1,_)=>some (o1,())
 |.inr r=>match r with
 |.inl (o2,o3,o4,_)=>match AS Ey many (o4,o2,0,())with|none=>none|some r=>match r with
  |.inl (o5,_)=>some (o5,())
  |.inr r=>match r with
  |.inl _=>some (true,())
  |.inr _=>none
 |.inr _=>none
def PZ[Lk]:=fun v=>Lk.f (Q8 v)
theorem AGx v:PZ v=Q8 v:=AN _
abbrev AM2:AE:=[(.tmp 0,.dat Ub),(.tmp 1,.di),(.tmp 2,.di)]
abbrev AM1:AE:=[(.tmp 0,.di)]
abbrev AM0:List RS:=[.one]
def Zf[Lk]:(Ui×Int×Int×Unit)→Option (U9):=fun(a0,a1,a2,_)=>
 match PZ ((a0.1,(a0.2.1,())),())with|none=>none|some (y0,_)=>match(!y0)with
 |true=>some (1,())
 |false=>match tin (a0.1,a1,())with|none=>none|some (y1,_)=>match(!y1)with
 |true=>some (10,())
 |false=>match tin (a0.1,a2,())with|none=>none|some (y2,_)=>match(!y2)with
 |true=>some (10,())
 |false=>some (0,())
def asked[Lk]:=fun v=>Lk.f (Zf v)
theorem ASQ v:asked v=Zf v:=AN _
abbrev AVY:AE:=[(.tmp 0,.di)]
abbrev AVX:AE:=[(.tmp 0,.dat .bool)]
abbrev AVW:List RS:=[.one]
def VK[Lk]:U9→Option (Uh):=fun(a0,_)=>
 some ((!(ieq a0 a0)),())
def AVZ[Lk]:=fun v=>Lk.f (VK v)
theorem ZS v:AVZ v=VK v:=AN _
abbrev Qd:AE:=[(.tmp 0,.di),(.tmp 1,.di)]
abbrev Qc:AE:=[(.tmp 0,.di)]
abbrev Qb:List RS:=[.one]
def Ir[Lk]:U3→Option (U9):=fun(a0,a1,_)=>
 match AVZ (a0,())with|none=>none|some (y0,_)=>match AVZ (a1,())with|none=>none|some (y1,_)=>match y0 with
 |true=>match y1 with
  |true=>some (0,())
  |false=>some ((-1:Int),())
 |false=>match y1 with
 |true=>some (1,())
 |false=>match(ilt a0 a1)with
 |true=>some ((-1:Int),())
 |false=>match(ilt a1 a0)with
 |true=>some (1,())
 |false=>some (0,())
def Fj[Lk]:=fun v=>Lk.f (Ir v)
theorem NM v:Fj v=Ir v:=AN _
abbrev AIp:AE:=[(.tmp 0,.dat U6),(.tmp 1,.dat U6)]
abbrev AIo:AE:=[(.tmp 0,.di)]
abbrev AIn:List RS:=[.one]
def Y7[Lk]:(List Int×List Int×Unit)→Option (U9):=fun(a0,a1,_)=>
 match idx a0 0 with|none=>none|some x0=>match idx a1 0 with|none=>none|some x1=>match Fj (x0,x1,())with|none=>none|some (y2,_)=>some (y2,())
def BI[Lk]:=fun v=>Lk.f (Y7 v)
theorem ANg v:BI v=Y7 v:=AN _
def HE:List Int:=[0,1,2,2,3,3,3,3,4,4,4,4,4,4,4,4,5,5,5,5,5,5,5,5,5,5,5,5,5,5,5,5,6,6,6,6,6,6,6,6,6,6,6,6,6,6,6,6,6,6,6,6,6,6,6,6,6,6,6,6,6,6,6,6,7,7,7,7,7,7,7,7,7,7,7,7,7,7,7,7,7,7,7,7,7,7,7,7,7,7,7,7,7,7,7,7,7,7,7,7,7,7,7,7,7,7,7,7,7,7,7,7,7,7,7,7,7,7,7,7,7,7,7,7,7,7,7,7,8,8,8,8,8,8,8,8,8,8,8,8,8,8,8,8,8,8,8,8,8,8,8,8,8,8,8,8,8,8,8,8,8,8,8,8,8,8,8,8,8,8,8,8,8,8,8,8,8,8,8,8,8,8,8,8,8,8,8,8,8,8,8,8,8,8,8,8,8,8,8,8,8,8,8,8,8,8,8,8,8,8,8,8,8,8,8,8,8,8,8,8,8,8,8,8,8,8,8,8,8,8,8,8,8,8,8,8,8,8,8,8,8,8,8,8,8,8,8,8,8,8,8,8,8,8,8,8]
abbrev ALb:AE:=[(.tmp 0,.dat (.int .u64))]
abbrev ALa:AE:=[(.tmp 0,.di)]
abbrev ALZ:List RS:=[.one]
def ZW[Lk]:U9→Option (U9):=fun(a0,_)=>
 match(ile 4294967296 a0)with
 |true=>match shr? .u64 a0 32 with|none=>none|some x0=>match(ile 65536 x0)with
  |true=>match shr? .u64 x0 16 with|none=>none|some x1=>match(ile 256 x1)with
   |true=>match shr? .u64 x1 8 with|none=>none|some x2=>match idx HE (IntKind.wrap .u8 x2)with|none=>none|some x3=>some ((IntKind.wrap .i64 ((IntKind.wrap .i64 ((IntKind.wrap .i64 (32+16))+8))+(IntKind.wrap .i64 x3))),())
   |false=>match idx HE (IntKind.wrap .u8 x1)with|none=>none|some x4=>some ((IntKind.wrap .i64 ((IntKind.wrap .i64 (32+16))+(IntKind.wrap .i64 x4))),())
  |false=>match(ile 256 x0)with
  |true=>match shr? .u64 x0 8 with|none=>none|some x5=>match idx HE (IntKind.wrap .u8 x5)with|none=>none|some x6=>some ((IntKind.wrap .i64 ((IntKind.wrap .i64 (32+8))+(IntKind.wrap .i64 x6))),())
  |false=>match idx HE (IntKind.wrap .u8 x0)with|none=>none|some x7=>some ((IntKind.wrap .i64 (32+(IntKind.wrap .i64 x7))),())
 |false=>match(ile 65536 a0)with
 |true=>match shr? .u64 a0 16 with|none=>none|some x8=>match(ile 256 x8)with
  |true=>match shr? .u64 x8 8 with|none=>none|some x9=>match idx HE (IntKind.wrap .u8 x9)with|none=>none|some x10=>some ((IntKind.wrap .i64 ((IntKind.wrap .i64 ((IntKind.wrap .i64 (0+16))+8))+(IntKind.wrap .i64 x10))),())
  |false=>match idx HE (IntKind.wrap .u8 x8)with|none=>none|some x11=>some ((IntKind.wrap .i64 ((IntKind.wrap .i64 (0+16))+(IntKind.wrap .i64 x11))),())
 |false=>match(ile 256 a0)with
 |true=>match shr? .u64 a0 8 with|none=>none|some x12=>match idx HE (IntKind.wrap .u8 x12)with|none=>none|some x13=>some ((IntKind.wrap .i64 ((IntKind.wrap .i64 (0+8))+(IntKind.wrap .i64 x13))),())
 |false=>match idx HE (IntKind.wrap .u8 a0)with|none=>none|some x14=>some ((IntKind.wrap .i64 (0+(IntKind.wrap .i64 x14))),())
def AQ4[Lk]:=fun v=>Lk.f (ZW v)
theorem AQ3 v:AQ4 v=ZW v:=AN _
abbrev Wo:AE:=[(.tmp 0,.dat (.int .u64))]
abbrev Wn:AE:=[(.tmp 0,.di)]
abbrev Wm:List RS:=[.one]
def Oe[Lk]:U9→Option (U9):=fun(a0,_)=>
 match AQ4 (a0,())with|none=>none|some (y0,_)=>some (y0,())
def bitsLen[Lk]:=fun v=>Lk.f (Oe v)
theorem AEc v:bitsLen v=Oe v:=AN _
abbrev TV:AE:=[(.tmp 0,.box 1),(.cell 0 0,.dat (.int .u64))]
abbrev TU:AE:=[(.obj 0,.box 1),(.cell 0 0,.dat (.int .u64)),(.tmp 0,.dat (.int .u64))]
abbrev TT:List RS:=[.one]
def Nn[Lk]:U9→Option (U3):=fun(a0,_)=>
 match shl? .u64 a0 13 with|none=>none|some x0=>match shr? .u64 (IntKind.wrap .u64 ((BitVec.ofInt (IntKind.bits .u64) a0 ^^^ BitVec.ofInt (IntKind.bits .u64) x0).toNat)) 7 with|none=>none|some x1=>match shl? .u64 (IntKind.wrap .u64 ((BitVec.ofInt (IntKind.bits .u64) (IntKind.wrap .u64 ((BitVec.ofInt (IntKind.bits .u64) a0 ^^^ BitVec.ofInt (IntKind.bits .u64) x0).toNat)) ^^^ BitVec.ofInt (IntKind.bits .u64) x1).toNat)) 17 with|none=>none|some x2=>some ((IntKind.wrap .u64 ((BitVec.ofInt (IntKind.bits .u64) (IntKind.wrap .u64 ((BitVec.ofInt (IntKind.bits .u64) (IntKind.wrap .u64 ((BitVec.ofInt (IntKind.bits .u64) a0 ^^^ BitVec.ofInt (IntKind.bits .u64) x0).toNat)) ^^^ BitVec.ofInt (IntKind.bits .u64) x1).toNat)) ^^^ BitVec.ofInt (IntKind.bits .u64) x2).toNat)),(IntKind.wrap .u64 ((BitVec.ofInt (IntKind.bits .u64) (IntKind.wrap .u64 ((BitVec.ofInt (IntKind.bits .u64) (IntKind.wrap .u64 ((BitVec.ofInt (IntKind.bits .u64) a0 ^^^ BitVec.ofInt (IntKind.bits .u64) x0).toNat)) ^^^ BitVec.ofInt (IntKind.bits .u64) x1).toNat)) ^^^ BitVec.ofInt (IntKind.bits .u64) x2).toNat)),())
def xorNext[Lk]:=fun v=>Lk.f (Nn v)
theorem Zq v:xorNext v=Nn v:=AN _
abbrev VJ:AE:=[(.tmp 0,.di)]
abbrev VI:AE:=[(.tmp 0,.dat (.int .u64))]
abbrev VH:List RS:=[.one]
def OH[Lk]:U9→Option (U9):=fun(a0,_)=>
 match bitsLen ((IntKind.wrap .u64 a0),())with|none=>none|some (y0,_)=>match shl? .u64 1 y0 with|none=>none|some x1=>some (x1,())
def OI[Lk]:=fun v=>Lk.f (OH v)
theorem ACf v:OI v=OH v:=AN _
def Rw[Lk]{α:Type}(z:α)(c:α×α×Unit→Option U9):(List α×Int×Int×Int×Int×Unit)→Option ((List α×Int×Int×Int×Int×Unit)⊕(List α×Int×Int×Int×Unit)⊕Unit):=fun(a0,a1,a2,a3,a4,_)=>
 match(ilt a1 a4)with
 |true=>match idx a0 a4 with|none=>none|some x0=>match idx a0 (IntKind.wrap .i64 (a4-1))with|none=>none|some x1=>match c ((AP a0 (AF a4) z),(AP a0 (AF (IntKind.wrap .i64 (a4-1))) z),())with|none=>none|some (y2,_)=>match(ilt y2 0)with
  |true=>match idx a0 (IntKind.wrap .i64 (a4-1))with|none=>none|some x3=>match idx a0 a4 with|none=>none|some x4=>match idx a0 a4 with|none=>none|some x5=>match idx (An a0 (AF a4) (AP a0 (AF (IntKind.wrap .i64 (a4-1))) z)) (IntKind.wrap .i64 (a4-1))with|none=>none|some x6=>some (.inl ((An (An a0 (AF a4) (AP a0 (AF (IntKind.wrap .i64 (a4-1))) z)) (AF (IntKind.wrap .i64 (a4-1))) (AP a0 (AF a4) z)),a1,a2,a3,(IntKind.wrap .i64 (a4-1)),()))
  |false=>some (.inr (.inl (a0,a1,a2,a3,())))
 |false=>some (.inr (.inl (a0,a1,a2,a3,())))
def Rx[Lk]{α:Type}(z:α)(c:α×α×Unit→Option U9):(List α×Int×Int×Int×Unit)→Option ((List α×Int×Int×Int×Unit)⊕(List α×Unit)⊕Unit):=fun(a0,a1,a2,a3,_)=>
 match(ilt a3 a2)with
 |true=>match AS (Rw z c) many (a0,a1,a2,a3,a3,())with|none=>none|some r=>match r with
  |.inl (o0,o1,o2,o3,_)=>some (.inl (o0,o1,o2,(IntKind.wrap .i64 (o3+1)),()))
  |.inr _=>none
 |false=>some (.inr (.inl (a0,())))
def ALj[Lk]{α:Type}(z:α)(c:α×α×Unit→Option U9):(List α×Int×Int×Unit)→Option ((List α×Unit)):=fun(a0,a1,a2,_)=>
 match AS (Rx z c) many (a0,a1,a2,(IntKind.wrap .i64 (a1+1)),())with|none=>none|some r=>match r with
 |.inl (o0,_)=>some (o0,())
 |.inr _=>none
def AjA[Lk]{α:Type}(z:α)(c:α×α×Unit→Option U9)(v:(List α×Int×Int×Unit)):Option ((List α×Unit)):=Lk.f ((ALj z c) v)
theorem Ai9{α:Type}(z:α)(c:α×α×Unit→Option U9)(v:(List α×Int×Int×Unit)):(AjA z c) v=(ALj z c) v:=AN _
def ML[Lk]{α:Type}(z:α)(c:α×α×Unit→Option U9):(List α×Int×Int×Int×Unit)→Option ((List α×Int×Int×Int×Unit)⊕(List α×Unit)⊕(List α×Unit)⊕Unit):=fun(a0,a1,a2,a3,_)=>
 match(ile a1 (IntKind.wrap .i64 ((IntKind.wrap .i64 (2*a3))+1)))with
 |true=>some (.inr (.inl (a0,())))
 |false=>match(ilt (IntKind.wrap .i64 ((IntKind.wrap .i64 ((IntKind.wrap .i64 (2*a3))+1))+1)) a1)with
 |true=>match idx a0 (IntKind.wrap .i64 (a2+(IntKind.wrap .i64 ((IntKind.wrap .i64 (2*a3))+1))))with|none=>none|some x0=>match idx a0 (IntKind.wrap .i64 ((IntKind.wrap .i64 (a2+(IntKind.wrap .i64 ((IntKind.wrap .i64 (2*a3))+1))))+1))with|none=>none|some x1=>match c ((AP a0 (AF (IntKind.wrap .i64 (a2+(IntKind.wrap .i64 ((IntKind.wrap .i64 (2*a3))+1))))) z),(AP a0 (AF (IntKind.wrap .i64 ((IntKind.wrap .i64 (a2+(IntKind.wrap .i64 ((IntKind.wrap .i64 (2*a3))+1))))+1))) z),())with|none=>none|some (y2,_)=>match(ilt y2 0)with
  |true=>match idx a0 (IntKind.wrap .i64 (a2+a3))with|none=>none|some x3=>match idx a0 (IntKind.wrap .i64 (a2+(IntKind.wrap .i64 ((IntKind.wrap .i64 ((IntKind.wrap .i64 (2*a3))+1))+1))))with|none=>none|some x4=>match c ((AP a0 (AF (IntKind.wrap .i64 (a2+a3))) z),(AP a0 (AF (IntKind.wrap .i64 (a2+(IntKind.wrap .i64 ((IntKind.wrap .i64 ((IntKind.wrap .i64 (2*a3))+1))+1))))) z),())with|none=>none|some (y5,_)=>match(!(ilt y5 0))with
   |true=>some (.inr (.inr (.inl (a0,()))))
   |false=>match idx a0 (IntKind.wrap .i64 (a2+(IntKind.wrap .i64 ((IntKind.wrap .i64 ((IntKind.wrap .i64 (2*a3))+1))+1))))with|none=>none|some x6=>match idx a0 (IntKind.wrap .i64 (a2+a3))with|none=>none|some x7=>match idx a0 (IntKind.wrap .i64 (a2+a3))with|none=>none|some x8=>match idx (An a0 (AF (IntKind.wrap .i64 (a2+a3))) (AP a0 (AF (IntKind.wrap .i64 (a2+(IntKind.wrap .i64 ((IntKind.wrap .i64 ((IntKind.wrap .i64 (2*a3))+1))+1))))) z)) (IntKind.wrap .i64 (a2+(IntKind.wrap .i64 ((IntKind.wrap .i64 ((IntKind.wrap .i64 (2*a3))+1))+1))))with|none=>none|some x9=>some (.inl ((An (An a0 (AF (IntKind.wrap .i64 (a2+a3))) (AP a0 (AF (IntKind.wrap .i64 (a2+(IntKind.wrap .i64 ((IntKind.wrap .i64 ((IntKind.wrap .i64 (2*a3))+1))+1))))) z)) (AF (IntKind.wrap .i64 (a2+(IntKind.wrap .i64 ((IntKind.wrap .i64 ((IntKind.wrap .i64 (2*a3))+1))+1))))) (AP a0 (AF (IntKind.wrap .i64 (a2+a3))) z)),a1,a2,(IntKind.wrap .i64 ((IntKind.wrap .i64 ((IntKind.wrap .i64 (2*a3))+1))+1)),()))
  |false=>match idx a0 (IntKind.wrap .i64 (a2+a3))with|none=>none|some x10=>match idx a0 (IntKind.wrap .i64 (a2+(IntKind.wrap .i64 ((IntKind.wrap .i64 (2*a3))+1))))with|none=>none|some x11=>match c ((AP a0 (AF (IntKind.wrap .i64 (a2+a3))) z),(AP a0 (AF (IntKind.wrap .i64 (a2+(IntKind.wrap .i64 ((IntKind.wrap .i64 (2*a3))+1))))) z),())with|none=>none|some (y12,_)=>match(!(ilt y12 0))with
  |true=>some (.inr (.inr (.inl (a0,()))))
  |false=>match idx a0 (IntKind.wrap .i64 (a2+(IntKind.wrap .i64 ((IntKind.wrap .i64 (2*a3))+1))))with|none=>none|some x13=>match idx a0 (IntKind.wrap .i64 (a2+a3))with|none=>none|some x14=>match idx a0 (IntKind.wrap .i64 (a2+a3))with|none=>none|some x15=>match idx (An a0 (AF (IntKind.wrap .i64 (a2+a3))) (AP a0 (AF (IntKind.wrap .i64 (a2+(IntKind.wrap .i64 ((IntKind.wrap .i64 (2*a3))+1))))) z)) (IntKind.wrap .i64 (a2+(IntKind.wrap .i64 ((IntKind.wrap .i64 (2*a3))+1))))with|none=>none|some x16=>some (.inl ((An (An a0 (AF (IntKind.wrap .i64 (a2+a3))) (AP a0 (AF (IntKind.wrap .i64 (a2+(IntKind.wrap .i64 ((IntKind.wrap .i64 (2*a3))+1))))) z)) (AF (IntKind.wrap .i64 (a2+(IntKind.wrap .i64 ((IntKind.wrap .i64 (2*a3))+1))))) (AP a0 (AF (IntKind.wrap .i64 (a2+a3))) z)),a1,a2,(IntKind.wrap .i64 ((IntKind.wrap .i64 (2*a3))+1)),()))
 |false=>match idx a0 (IntKind.wrap .i64 (a2+a3))with|none=>none|some x17=>match idx a0 (IntKind.wrap .i64 (a2+(IntKind.wrap .i64 ((IntKind.wrap .i64 (2*a3))+1))))with|none=>none|some x18=>match c ((AP a0 (AF (IntKind.wrap .i64 (a2+a3))) z),(AP a0 (AF (IntKind.wrap .i64 (a2+(IntKind.wrap .i64 ((IntKind.wrap .i64 (2*a3))+1))))) z),())with|none=>none|some (y19,_)=>match(!(ilt y19 0))with
 |true=>some (.inr (.inr (.inl (a0,()))))
 |false=>match idx a0 (IntKind.wrap .i64 (a2+(IntKind.wrap .i64 ((IntKind.wrap .i64 (2*a3))+1))))with|none=>none|some x20=>match idx a0 (IntKind.wrap .i64 (a2+a3))with|none=>none|some x21=>match idx a0 (IntKind.wrap .i64 (a2+a3))with|none=>none|some x22=>match idx (An a0 (AF (IntKind.wrap .i64 (a2+a3))) (AP a0 (AF (IntKind.wrap .i64 (a2+(IntKind.wrap .i64 ((IntKind.wrap .i64 (2*a3))+1))))) z)) (IntKind.wrap .i64 (a2+(IntKind.wrap .i64 ((IntKind.wrap .i64 (2*a3))+1))))with|none=>none|some x23=>some (.inl ((An (An a0 (AF (IntKind.wrap .i64 (a2+a3))) (AP a0 (AF (IntKind.wrap .i64 (a2+(IntKind.wrap .i64 ((IntKind.wrap .i64 (2*a3))+1))))) z)) (AF (IntKind.wrap .i64 (a2+(IntKind.wrap .i64 ((IntKind.wrap .i64 (2*a3))+1))))) (AP a0 (AF (IntKind.wrap .i64 (a2+a3))) z)),a1,a2,(IntKind.wrap .i64 ((IntKind.wrap .i64 (2*a3))+1)),()))
def ZE[Lk]{α:Type}(z:α)(c:α×α×Unit→Option U9):(List α×Int×Int×Int×Unit)→Option ((List α×Unit)):=fun(a0,a1,a2,a3,_)=>
 match AS (ML z c) many (a0,a2,a3,a1,())with|none=>none|some r=>match r with
 |.inl (o0,_)=>some (o0,())
 |.inr r=>match r with
 |.inl (o1,_)=>some (o1,())
 |.inr _=>none
def AOW[Lk]{α:Type}(z:α)(c:α×α×Unit→Option U9)(v:(List α×Int×Int×Int×Unit)):Option ((List α×Unit)):=Lk.f ((ZE z c) v)
theorem AeK{α:Type}(z:α)(c:α×α×Unit→Option U9)(v:(List α×Int×Int×Int×Unit)):(AOW z c) v=(ZE z c) v:=AN _
def M0[Lk]{α:Type}(z:α)(c:α×α×Unit→Option U9):(List α×Int×Int×Int×Unit)→Option ((List α×Int×Int×Int×Unit)⊕(List α×Unit)⊕Unit):=fun(a0,a1,a2,a3,_)=>
 match(ile 0 a3)with
 |true=>match idx a0 (IntKind.wrap .i64 (a1+a3))with|none=>none|some x0=>match idx a0 a1 with|none=>none|some x1=>match idx a0 a1 with|none=>none|some x2=>match idx (An a0 (AF a1) (AP a0 (AF (IntKind.wrap .i64 (a1+a3))) z)) (IntKind.wrap .i64 (a1+a3))with|none=>none|some x3=>match(AOW z c) ((An (An a0 (AF a1) (AP a0 (AF (IntKind.wrap .i64 (a1+a3))) z)) (AF (IntKind.wrap .i64 (a1+a3))) (AP a0 (AF a1) z)),a2,a3,a1,())with|none=>none|some (y4,_)=>some (.inl (y4,a1,a2,(IntKind.wrap .i64 (a3-1)),()))
 |false=>some (.inr (.inl (a0,())))
def M3[Lk]{α:Type}(z:α)(c:α×α×Unit→Option U9):(List α×Int×Int×Int×Int×Unit)→Option ((List α×Int×Int×Int×Int×Unit)⊕(List α×Int×Int×Int×Unit)⊕Unit):=fun(a0,a1,a2,a3,a4,_)=>
 match(ile 0 a4)with
 |true=>match(AOW z c) (a0,a4,a3,a1,())with|none=>none|some (y0,_)=>some (.inl (y0,a1,a2,a3,(IntKind.wrap .i64 (a4-1)),()))
 |false=>some (.inr (.inl (a0,a1,a2,a3,())))
def ZY[Lk]{α:Type}(z:α)(c:α×α×Unit→Option U9):(List α×Int×Int×Unit)→Option ((List α×Unit)):=fun(a0,a1,a2,_)=>
 match quo? .i64 (IntKind.wrap .i64 ((IntKind.wrap .i64 (a2-a1))-1)) 2 with|none=>none|some x0=>match AS (M3 z c) many (a0,a1,0,(IntKind.wrap .i64 (a2-a1)),x0,())with|none=>none|some r=>match r with
 |.inl (o1,o2,o3,o4,_)=>match AS (M0 z c) many (o1,o2,o3,(IntKind.wrap .i64 (o4-1)),())with|none=>none|some r=>match r with
  |.inl (o5,_)=>some (o5,())
  |.inr _=>none
 |.inr _=>none
def AY7[Lk]{α:Type}(z:α)(c:α×α×Unit→Option U9)(v:(List α×Int×Int×Unit)):Option ((List α×Unit)):=Lk.f ((ZY z c) v)
theorem Agh{α:Type}(z:α)(c:α×α×Unit→Option U9)(v:(List α×Int×Int×Unit)):(AY7 z c) v=(ZY z c) v:=AN _
def Hq[Lk]{α:Type}(z:α)(c:α×α×Unit→Option U9):(List α×Int×Int×Int×Int×Int×Unit)→Option ((List α×Int×Int×Int×Int×Int×Unit)⊕(List α×Unit)⊕Unit):=fun(a0,a1,a2,a3,a4,a5,_)=>
 match quo? .i64 a2 4 with|none=>none|some x0=>match(ile a5 (IntKind.wrap .i64 ((IntKind.wrap .i64 (a1+(IntKind.wrap .i64 (x0*2))))+1)))with
 |true=>match xorNext (a3,())with|none=>none|some (y1,y2,_)=>match(ile a2 (IntKind.wrap .i64 (IntKind.wrap .u64 ((BitVec.ofInt (IntKind.bits .u64) y2 &&& BitVec.ofInt (IntKind.bits .u64) (IntKind.wrap .u64 (a4-1))).toNat))))with
  |true=>match idx a0 (IntKind.wrap .i64 (a1+(IntKind.wrap .i64 ((IntKind.wrap .i64 (IntKind.wrap .u64 ((BitVec.ofInt (IntKind.bits .u64) y2 &&& BitVec.ofInt (IntKind.bits .u64) (IntKind.wrap .u64 (a4-1))).toNat)))-a2))))with|none=>none|some x3=>match idx a0 a5 with|none=>none|some x4=>match idx a0 a5 with|none=>none|some x5=>match idx (An a0 (AF a5) (AP a0 (AF (IntKind.wrap .i64 (a1+(IntKind.wrap .i64 ((IntKind.wrap .i64 (IntKind.wrap .u64 ((BitVec.ofInt (IntKind.bits .u64) y2 &&& BitVec.ofInt (IntKind.bits .u64) (IntKind.wrap .u64 (a4-1))).toNat)))-a2))))) z)) (IntKind.wrap .i64 (a1+(IntKind.wrap .i64 ((IntKind.wrap .i64 (IntKind.wrap .u64 ((BitVec.ofInt (IntKind.bits .u64) y2 &&& BitVec.ofInt (IntKind.bits .u64) (IntKind.wrap .u64 (a4-1))).toNat)))-a2))))with|none=>none|some x6=>some (.inl ((An (An a0 (AF a5) (AP a0 (AF (IntKind.wrap .i64 (a1+(IntKind.wrap .i64 ((IntKind.wrap .i64 (IntKind.wrap .u64 ((BitVec.ofInt (IntKind.bits .u64) y2 &&& BitVec.ofInt (IntKind.bits .u64) (IntKind.wrap .u64 (a4-1))).toNat)))-a2))))) z)) (AF (IntKind.wrap .i64 (a1+(IntKind.wrap .i64 ((IntKind.wrap .i64 (IntKind.wrap .u64 ((BitVec.ofInt (IntKind.bits .u64) y2 &&& BitVec.ofInt (IntKind.bits .u64) (IntKind.wrap .u64 (a4-1))).toNat)))-a2))))) (AP a0 (AF a5) z)),a1,a2,y1,a4,(IntKind.wrap .i64 (a5+1)),()))
  |false=>match idx a0 (IntKind.wrap .i64 (a1+(IntKind.wrap .i64 (IntKind.wrap .u64 ((BitVec.ofInt (IntKind.bits .u64) y2 &&& BitVec.ofInt (IntKind.bits .u64) (IntKind.wrap .u64 (a4-1))).toNat)))))with|none=>none|some x7=>match idx a0 a5 with|none=>none|some x8=>match idx a0 a5 with|none=>none|some x9=>match idx (An a0 (AF a5) (AP a0 (AF (IntKind.wrap .i64 (a1+(IntKind.wrap .i64 (IntKind.wrap .u64 ((BitVec.ofInt (IntKind.bits .u64) y2 &&& BitVec.ofInt (IntKind.bits .u64) (IntKind.wrap .u64 (a4-1))).toNat)))))) z)) (IntKind.wrap .i64 (a1+(IntKind.wrap .i64 (IntKind.wrap .u64 ((BitVec.ofInt (IntKind.bits .u64) y2 &&& BitVec.ofInt (IntKind.bits .u64) (IntKind.wrap .u64 (a4-1))).toNat)))))with|none=>none|some x10=>some (.inl ((An (An a0 (AF a5) (AP a0 (AF (IntKind.wrap .i64 (a1+(IntKind.wrap .i64 (IntKind.wrap .u64 ((BitVec.ofInt (IntKind.bits .u64) y2 &&& BitVec.ofInt (IntKind.bits .u64) (IntKind.wrap .u64 (a4-1))).toNat)))))) z)) (AF (IntKind.wrap .i64 (a1+(IntKind.wrap .i64 (IntKind.wrap .u64 ((BitVec.ofInt (IntKind.bits .u64) y2 &&& BitVec.ofInt (IntKind.bits .u64) (IntKind.wrap .u64 (a4-1))).toNat)))))) (AP a0 (AF a5) z)),a1,a2,y1,a4,(IntKind.wrap .i64 (a5+1)),()))
 |false=>some (.inr (.inl (a0,())))
def Si[Lk]{α:Type}(z:α)(c:α×α×Unit→Option U9):(List α×Int×Int×Unit)→Option ((List α×Unit)):=fun(a0,a1,a2,_)=>
 match(ile 8 (IntKind.wrap .i64 (a2-a1)))with
 |true=>match OI ((IntKind.wrap .i64 (a2-a1)),())with|none=>none|some (y0,_)=>match quo? .i64 (IntKind.wrap .i64 (a2-a1)) 4 with|none=>none|some x1=>match AS (Hq z c) many (a0,a1,(IntKind.wrap .i64 (a2-a1)),(IntKind.wrap .u64 (IntKind.wrap .i64 (a2-a1))),y0,(IntKind.wrap .i64 ((IntKind.wrap .i64 (a1+(IntKind.wrap .i64 (x1*2))))-1)),())with|none=>none|some r=>match r with
  |.inl (o2,_)=>some (o2,())
  |.inr _=>none
 |false=>some (a0,())
def AMw[Lk]{α:Type}(z:α)(c:α×α×Unit→Option U9)(v:(List α×Int×Int×Unit)):Option ((List α×Unit)):=Lk.f ((Si z c) v)
theorem AdE{α:Type}(z:α)(c:α×α×Unit→Option U9)(v:(List α×Int×Int×Unit)):(AMw z c) v=(Si z c) v:=AN _
def OE[Lk]{α:Type}(z:α)(c:α×α×Unit→Option U9):(List α×Int×Int×Int×Unit)→Option ((List α×Int×Int×Int×Unit)):=fun(a0,a1,a2,a3,_)=>
 match idx a0 a2 with|none=>none|some x0=>match idx a0 a1 with|none=>none|some x1=>match c ((AP a0 (AF a2) z),(AP a0 (AF a1) z),())with|none=>none|some (y2,_)=>match(ilt y2 0)with
 |true=>some (a0,(IntKind.wrap .i64 (a3+1)),a2,a1,())
 |false=>some (a0,a3,a1,a2,())
def OF[Lk]{α:Type}(z:α)(c:α×α×Unit→Option U9)(v:(List α×Int×Int×Int×Unit)):Option ((List α×Int×Int×Int×Unit)):=Lk.f ((OE z c) v)
theorem AVI{α:Type}(z:α)(c:α×α×Unit→Option U9)(v:(List α×Int×Int×Int×Unit)):(OF z c) v=(OE z c) v:=AN _
def OL[Lk]{α:Type}(z:α)(c:α×α×Unit→Option U9):(List α×Int×Int×Int×Int×Unit)→Option ((List α×Int×Int×Unit)):=fun(a0,a1,a2,a3,a4,_)=>
 match(OF z c) (a0,a1,a2,a4,())with|none=>none|some (y0,y1,y2,y3,_)=>match(OF z c) (y0,y3,a3,y1,())with|none=>none|some (y4,y5,y6,y7,_)=>match(OF z c) (y4,y2,y6,y5,())with|none=>none|some (y8,y9,y10,y11,_)=>some (y8,y9,y11,())
def OM[Lk]{α:Type}(z:α)(c:α×α×Unit→Option U9)(v:(List α×Int×Int×Int×Int×Unit)):Option ((List α×Int×Int×Unit)):=Lk.f ((OL z c) v)
theorem AVk{α:Type}(z:α)(c:α×α×Unit→Option U9)(v:(List α×Int×Int×Int×Int×Unit)):(OM z c) v=(OL z c) v:=AN _
def OO[Lk]{α:Type}(z:α)(c:α×α×Unit→Option U9):(List α×Int×Int×Unit)→Option ((List α×Int×Int×Unit)):=fun(a0,a1,a2,_)=>
 match(OM z c) (a0,(IntKind.wrap .i64 (a1-1)),a1,(IntKind.wrap .i64 (a1+1)),a2,())with|none=>none|some (y0,y1,y2,_)=>some (y0,y1,y2,())
def OP[Lk]{α:Type}(z:α)(c:α×α×Unit→Option U9)(v:(List α×Int×Int×Unit)):Option ((List α×Int×Int×Unit)):=Lk.f ((OO z c) v)
theorem AVm{α:Type}(z:α)(c:α×α×Unit→Option U9)(v:(List α×Int×Int×Unit)):(OP z c) v=(OO z c) v:=AN _
def RU[Lk]{α:Type}(z:α)(c:α×α×Unit→Option U9):(List α×Int×Int×Unit)→Option ((List α×Int×Int×Unit)):=fun(a0,a1,a2,_)=>
 match quo? .i64 (IntKind.wrap .i64 (a2-a1)) 4 with|none=>none|some x0=>match quo? .i64 (IntKind.wrap .i64 (a2-a1)) 4 with|none=>none|some x1=>match quo? .i64 (IntKind.wrap .i64 (a2-a1)) 4 with|none=>none|some x2=>match(ile 8 (IntKind.wrap .i64 (a2-a1)))with
 |true=>match(ile 50 (IntKind.wrap .i64 (a2-a1)))with
  |true=>match(OP z c) (a0,(IntKind.wrap .i64 (a1+(IntKind.wrap .i64 (x0*1)))),0,())with|none=>none|some (y3,y4,y5,_)=>match(OP z c) (y3,(IntKind.wrap .i64 (a1+(IntKind.wrap .i64 (x1*2)))),y4,())with|none=>none|some (y6,y7,y8,_)=>match(OP z c) (y6,(IntKind.wrap .i64 (a1+(IntKind.wrap .i64 (x2*3)))),y7,())with|none=>none|some (y9,y10,y11,_)=>match(OM z c) (y9,y5,y8,y11,y10,())with|none=>none|some (y12,y13,y14,_)=>match(ieq y13 0)with
   |true=>some (y12,y14,1,())
   |false=>match(ieq y13 12)with
   |true=>some (y12,y14,2,())
   |false=>some (y12,y14,0,())
  |false=>match(OM z c) (a0,(IntKind.wrap .i64 (a1+(IntKind.wrap .i64 (x0*1)))),(IntKind.wrap .i64 (a1+(IntKind.wrap .i64 (x1*2)))),(IntKind.wrap .i64 (a1+(IntKind.wrap .i64 (x2*3)))),0,())with|none=>none|some (y15,y16,y17,_)=>match(ieq y16 0)with
  |true=>some (y15,y17,1,())
  |false=>match(ieq y16 12)with
  |true=>some (y15,y17,2,())
  |false=>some (y15,y17,0,())
 |false=>match(ieq 0 0)with
 |true=>some (a0,(IntKind.wrap .i64 (a1+(IntKind.wrap .i64 (x1*2)))),1,())
 |false=>match(ieq 0 12)with
 |true=>some (a0,(IntKind.wrap .i64 (a1+(IntKind.wrap .i64 (x1*2)))),2,())
 |false=>some (a0,(IntKind.wrap .i64 (a1+(IntKind.wrap .i64 (x1*2)))),0,())
def AKL[Lk]{α:Type}(z:α)(c:α×α×Unit→Option U9)(v:(List α×Int×Int×Unit)):Option ((List α×Int×Int×Unit)):=Lk.f ((RU z c) v)
theorem Aan{α:Type}(z:α)(c:α×α×Unit→Option U9)(v:(List α×Int×Int×Unit)):(AKL z c) v=(RU z c) v:=AN _
def ZH[Lk]{α:Type}(z:α)(c:α×α×Unit→Option U9):(List α×Int×Int×Unit)→Option ((List α×Int×Int×Unit)⊕(List α×Unit)⊕Unit):=fun(a0,a1,a2,_)=>
 match(ilt a1 a2)with
 |true=>match idx a0 a2 with|none=>none|some x0=>match idx a0 a1 with|none=>none|some x1=>match idx a0 a1 with|none=>none|some x2=>match idx (An a0 (AF a1) (AP a0 (AF a2) z)) a2 with|none=>none|some x3=>some (.inl ((An (An a0 (AF a1) (AP a0 (AF a2) z)) (AF a2) (AP a0 (AF a1) z)),(IntKind.wrap .i64 (a1+1)),(IntKind.wrap .i64 (a2-1)),()))
 |false=>some (.inr (.inl (a0,())))
def AJv[Lk]{α:Type}(z:α)(c:α×α×Unit→Option U9):(List α×Int×Int×Unit)→Option ((List α×Unit)):=fun(a0,a1,a2,_)=>
 match AS (ZH z c) many (a0,a1,(IntKind.wrap .i64 (a2-1)),())with|none=>none|some r=>match r with
 |.inl (o0,_)=>some (o0,())
 |.inr _=>none
def AiJ[Lk]{α:Type}(z:α)(c:α×α×Unit→Option U9)(v:(List α×Int×Int×Unit)):Option ((List α×Unit)):=Lk.f ((AJv z c) v)
theorem AiI{α:Type}(z:α)(c:α×α×Unit→Option U9)(v:(List α×Int×Int×Unit)):(AiJ z c) v=(AJv z c) v:=AN _
def Gw[Lk]{α:Type}(z:α)(c:α×α×Unit→Option U9):(List α×Int×Int×Int×Int×Int×Unit)→Option ((List α×Int×Int×Int×Int×Int×Unit)⊕(List α×Int×Int×Int×Int×Unit)⊕Unit):=fun(a0,a1,a2,a3,a4,a5,_)=>
 match(ilt a5 a2)with
 |true=>match idx a0 a5 with|none=>none|some x0=>match idx a0 (IntKind.wrap .i64 (a5-1))with|none=>none|some x1=>match c ((AP a0 (AF a5) z),(AP a0 (AF (IntKind.wrap .i64 (a5-1))) z),())with|none=>none|some (y2,_)=>match(!(ilt y2 0))with
  |true=>some (.inr (.inl (a0,a1,a2,a3,a4,())))
  |false=>match idx a0 (IntKind.wrap .i64 (a5-1))with|none=>none|some x3=>match idx a0 a5 with|none=>none|some x4=>match idx a0 a5 with|none=>none|some x5=>match idx (An a0 (AF a5) (AP a0 (AF (IntKind.wrap .i64 (a5-1))) z)) (IntKind.wrap .i64 (a5-1))with|none=>none|some x6=>some (.inl ((An (An a0 (AF a5) (AP a0 (AF (IntKind.wrap .i64 (a5-1))) z)) (AF (IntKind.wrap .i64 (a5-1))) (AP a0 (AF a5) z)),a1,a2,a3,a4,(IntKind.wrap .i64 (a5+1)),()))
 |false=>some (.inr (.inl (a0,a1,a2,a3,a4,())))
def Gx[Lk]{α:Type}(z:α)(c:α×α×Unit→Option U9):(List α×Int×Int×Int×Int×Int×Unit)→Option ((List α×Int×Int×Int×Int×Int×Unit)⊕(List α×Int×Int×Int×Int×Unit)⊕Unit):=fun(a0,a1,a2,a3,a4,a5,_)=>
 match(ile 1 a5)with
 |true=>match idx a0 a5 with|none=>none|some x0=>match idx a0 (IntKind.wrap .i64 (a5-1))with|none=>none|some x1=>match c ((AP a0 (AF a5) z),(AP a0 (AF (IntKind.wrap .i64 (a5-1))) z),())with|none=>none|some (y2,_)=>match(!(ilt y2 0))with
  |true=>some (.inr (.inl (a0,a1,a2,a3,a4,())))
  |false=>match idx a0 (IntKind.wrap .i64 (a5-1))with|none=>none|some x3=>match idx a0 a5 with|none=>none|some x4=>match idx a0 a5 with|none=>none|some x5=>match idx (An a0 (AF a5) (AP a0 (AF (IntKind.wrap .i64 (a5-1))) z)) (IntKind.wrap .i64 (a5-1))with|none=>none|some x6=>some (.inl ((An (An a0 (AF a5) (AP a0 (AF (IntKind.wrap .i64 (a5-1))) z)) (AF (IntKind.wrap .i64 (a5-1))) (AP a0 (AF a5) z)),a1,a2,a3,a4,(IntKind.wrap .i64 (a5-1)),()))
 |false=>some (.inr (.inl (a0,a1,a2,a3,a4,())))
def I8[Lk]{α:Type}(z:α)(c:α×α×Unit→Option U9):(List α×Int×Int×Int×Int×Unit)→Option ((List α×Int×Int×Int×Int×Unit)⊕(List α×Int×Int×Int×Int×Unit)⊕Unit):=fun(a0,a1,a2,a3,a4,_)=>
 match(ilt a3 a2)with
 |true=>match idx a0 a3 with|none=>none|some x0=>match idx a0 (IntKind.wrap .i64 (a3-1))with|none=>none|some x1=>match c ((AP a0 (AF a3) z),(AP a0 (AF (IntKind.wrap .i64 (a3-1))) z),())with|none=>none|some (y2,_)=>match(!(ilt y2 0))with
  |true=>some (.inl (a0,a1,a2,(IntKind.wrap .i64 (a3+1)),a4,()))
  |false=>some (.inr (.inl (a0,a1,a2,a3,a4,())))
 |false=>some (.inr (.inl (a0,a1,a2,a3,a4,())))
def Cx[Lk]{α:Type}(z:α)(c:α×α×Unit→Option U9):(List α×Int×Int×Int×Int×Unit)→Option ((List α×Int×Int×Int×Int×Unit)⊕(List α×Bool×Unit)⊕(List α×Unit)⊕Unit):=fun(a0,a1,a2,a3,a4,_)=>
 match(ilt a4 5)with
 |true=>match AS (I8 z c) many (a0,a1,a2,a3,a4,())with|none=>none|some r=>match r with
  |.inl (o0,o1,o2,o3,o4,_)=>match(ieq o3 o2)with
   |true=>some (.inr (.inl (o0,true,())))
   |false=>match(ilt (IntKind.wrap .i64 (o2-o1)) 50)with
   |true=>some (.inr (.inl (o0,false,())))
   |false=>match idx o0 (IntKind.wrap .i64 (o3-1))with|none=>none|some x5=>match idx o0 o3 with|none=>none|some x6=>match idx o0 o3 with|none=>none|some x7=>match idx (An o0 (AF o3) (AP o0 (AF (IntKind.wrap .i64 (o3-1))) z)) (IntKind.wrap .i64 (o3-1))with|none=>none|some x8=>match(ile 2 (IntKind.wrap .i64 (o3-o1)))with
   |true=>match AS (Gx z c) many ((An (An o0 (AF o3) (AP o0 (AF (IntKind.wrap .i64 (o3-1))) z)) (AF (IntKind.wrap .i64 (o3-1))) (AP o0 (AF o3) z)),o1,o2,o3,o4,(IntKind.wrap .i64 (o3-1)),())with|none=>none|some r=>match r with
    |.inl (o9,o10,o11,o12,o13,_)=>match(ile 2 (IntKind.wrap .i64 (o11-o12)))with
     |true=>match AS (Gw z c) many (o9,o10,o11,o12,o13,(IntKind.wrap .i64 (o12+1)),())with|none=>none|some r=>match r with
      |.inl (o14,o15,o16,o17,o18,_)=>some (.inl (o14,o15,o16,o17,(IntKind.wrap .i64 (o18+1)),()))
      |.inr _=>none
     |false=>some (.inl (o9,o10,o11,o12,(IntKind.wrap .i64 (o13+1)),()))
    |.inr _=>none
   |false=>match(ile 2 (IntKind.wrap .i64 (o2-o3)))with
   |true=>match AS (Gw z c) many ((An (An o0 (AF o3) (AP o0 (AF (IntKind.wrap .i64 (o3-1))) z)) (AF (IntKind.wrap .i64 (o3-1))) (AP o0 (AF o3) z)),o1,o2,o3,o4,(IntKind.wrap .i64 (o3+1)),())with|none=>none|some r=>match r with
    |.inl (o19,o20,o21,o22,o23,_)=>some (.inl (o19,o20,o21,o22,(IntKind.wrap .i64 (o23+1)),()))
    |.inr _=>none
   |false=>some (.inl ((An (An o0 (AF o3) (AP o0 (AF (IntKind.wrap .i64 (o3-1))) z)) (AF (IntKind.wrap .i64 (o3-1))) (AP o0 (AF o3) z)),o1,o2,o3,(IntKind.wrap .i64 (o4+1)),()))
  |.inr _=>none
 |false=>some (.inr (.inr (.inl (a0,()))))
def Ki[Lk]{α:Type}(z:α)(c:α×α×Unit→Option U9):(List α×Int×Int×Unit)→Option ((List α×Bool×Unit)):=fun(a0,a1,a2,_)=>
 match AS (Cx z c) many (a0,a1,a2,(IntKind.wrap .i64 (a1+1)),0,())with|none=>none|some r=>match r with
 |.inl (o0,o1,_)=>some (o0,o1,())
 |.inr r=>match r with
 |.inl (o2,_)=>some (o2,false,())
 |.inr _=>none
def RZ[Lk]{α:Type}(z:α)(c:α×α×Unit→Option U9)(v:(List α×Int×Int×Unit)):Option ((List α×Bool×Unit)):=Lk.f ((Ki z c) v)
theorem APz{α:Type}(z:α)(c:α×α×Unit→Option U9)(v:(List α×Int×Int×Unit)):(RZ z c) v=(Ki z c) v:=AN _
def Kj[Lk]{α:Type}(z:α)(c:α×α×Unit→Option U9):(List α×Int×Int×Int×Unit)→Option ((List α×Int×Int×Int×Unit)⊕(List α×Int×Int×Int×Unit)⊕Unit):=fun(a0,a1,a2,a3,_)=>
 match(ile a2 a3)with
 |true=>match idx a0 a1 with|none=>none|some x0=>match idx a0 a3 with|none=>none|some x1=>match c ((AP a0 (AF a1) z),(AP a0 (AF a3) z),())with|none=>none|some (y2,_)=>match(ilt y2 0)with
  |true=>some (.inl (a0,a1,a2,(IntKind.wrap .i64 (a3-1)),()))
  |false=>some (.inr (.inl (a0,a1,a2,a3,())))
 |false=>some (.inr (.inl (a0,a1,a2,a3,())))
def Kk[Lk]{α:Type}(z:α)(c:α×α×Unit→Option U9):(List α×Int×Int×Int×Unit)→Option ((List α×Int×Int×Int×Unit)⊕(List α×Int×Int×Int×Unit)⊕Unit):=fun(a0,a1,a2,a3,_)=>
 match(ile a2 a3)with
 |true=>match idx a0 a1 with|none=>none|some x0=>match idx a0 a2 with|none=>none|some x1=>match c ((AP a0 (AF a1) z),(AP a0 (AF a2) z),())with|none=>none|some (y2,_)=>match(!(ilt y2 0))with
  |true=>some (.inl (a0,a1,(IntKind.wrap .i64 (a2+1)),a3,()))
  |false=>some (.inr (.inl (a0,a1,a2,a3,())))
 |false=>some (.inr (.inl (a0,a1,a2,a3,())))
def Kl[Lk]{α:Type}(z:α)(c:α×α×Unit→Option U9):(List α×Int×Int×Int×Unit)→Option ((List α×Int×Int×Int×Unit)⊕(List α×Int×Unit)⊕Unit):=fun(a0,a1,a2,a3,_)=>
 match AS (Kk z c) many (a0,a1,a2,a3,())with|none=>none|some r=>match r with
 |.inl (o0,o1,o2,o3,_)=>match AS (Kj z c) many (o0,o1,o2,o3,())with|none=>none|some r=>match r with
  |.inl (o4,o5,o6,o7,_)=>match(ilt o7 o6)with
   |true=>some (.inr (.inl (o4,o6,())))
   |false=>match idx o4 o7 with|none=>none|some x8=>match idx o4 o6 with|none=>none|some x9=>match idx o4 o6 with|none=>none|some x10=>match idx (An o4 (AF o6) (AP o4 (AF o7) z)) o7 with|none=>none|some x11=>some (.inl ((An (An o4 (AF o6) (AP o4 (AF o7) z)) (AF o7) (AP o4 (AF o6) z)),o5,(IntKind.wrap .i64 (o6+1)),(IntKind.wrap .i64 (o7-1)),()))
  |.inr _=>none
 |.inr _=>none
def OC[Lk]{α:Type}(z:α)(c:α×α×Unit→Option U9):(List α×Int×Int×Int×Unit)→Option ((List α×Int×Unit)):=fun(a0,a1,a2,a3,_)=>
 match idx a0 a3 with|none=>none|some x0=>match idx a0 a1 with|none=>none|some x1=>match idx a0 a1 with|none=>none|some x2=>match idx (An a0 (AF a1) (AP a0 (AF a3) z)) a3 with|none=>none|some x3=>match AS (Kl z c) many ((An (An a0 (AF a1) (AP a0 (AF a3) z)) (AF a3) (AP a0 (AF a1) z)),a1,(IntKind.wrap .i64 (a1+1)),(IntKind.wrap .i64 (a2-1)),())with|none=>none|some r=>match r with
 |.inl (o4,o5,_)=>some (o4,o5,())
 |.inr _=>none
def ZO[Lk]{α:Type}(z:α)(c:α×α×Unit→Option U9)(v:(List α×Int×Int×Int×Unit)):Option ((List α×Int×Unit)):=Lk.f ((OC z c) v)
theorem AVG{α:Type}(z:α)(c:α×α×Unit→Option U9)(v:(List α×Int×Int×Int×Unit)):(ZO z c) v=(OC z c) v:=AN _
def Rb[Lk]{α:Type}(z:α)(c:α×α×Unit→Option U9):(List α×Int×Int×Int×Unit)→Option ((List α×Int×Int×Int×Unit)⊕(List α×Int×Int×Int×Unit)⊕Unit):=fun(a0,a1,a2,a3,_)=>
 match(ile a2 a3)with
 |true=>match idx a0 a3 with|none=>none|some x0=>match idx a0 a1 with|none=>none|some x1=>match c ((AP a0 (AF a3) z),(AP a0 (AF a1) z),())with|none=>none|some (y2,_)=>match(!(ilt y2 0))with
  |true=>some (.inl (a0,a1,a2,(IntKind.wrap .i64 (a3-1)),()))
  |false=>some (.inr (.inl (a0,a1,a2,a3,())))
 |false=>some (.inr (.inl (a0,a1,a2,a3,())))
def Rc[Lk]{α:Type}(z:α)(c:α×α×Unit→Option U9):(List α×Int×Int×Int×Unit)→Option ((List α×Int×Int×Int×Unit)⊕(List α×Int×Int×Int×Unit)⊕Unit):=fun(a0,a1,a2,a3,_)=>
 match(ile a2 a3)with
 |true=>match idx a0 a2 with|none=>none|some x0=>match idx a0 a1 with|none=>none|some x1=>match c ((AP a0 (AF a2) z),(AP a0 (AF a1) z),())with|none=>none|some (y2,_)=>match(ilt y2 0)with
  |true=>some (.inl (a0,a1,(IntKind.wrap .i64 (a2+1)),a3,()))
  |false=>some (.inr (.inl (a0,a1,a2,a3,())))
 |false=>some (.inr (.inl (a0,a1,a2,a3,())))
def Rd[Lk]{α:Type}(z:α)(c:α×α×Unit→Option U9):(List α×Int×Int×Int×Unit)→Option ((List α×Int×Int×Int×Unit)⊕(List α×Int×Int×Unit)⊕Unit):=fun(a0,a1,a2,a3,_)=>
 match AS (Rc z c) many (a0,a1,a2,a3,())with|none=>none|some r=>match r with
 |.inl (o0,o1,o2,o3,_)=>match AS (Rb z c) many (o0,o1,o2,o3,())with|none=>none|some r=>match r with
  |.inl (o4,o5,o6,o7,_)=>match(ilt o7 o6)with
   |true=>some (.inr (.inl (o4,o5,o7,())))
   |false=>match idx o4 o7 with|none=>none|some x8=>match idx o4 o6 with|none=>none|some x9=>match idx o4 o6 with|none=>none|some x10=>match idx (An o4 (AF o6) (AP o4 (AF o7) z)) o7 with|none=>none|some x11=>some (.inl ((An (An o4 (AF o6) (AP o4 (AF o7) z)) (AF o7) (AP o4 (AF o6) z)),o5,(IntKind.wrap .i64 (o6+1)),(IntKind.wrap .i64 (o7-1)),()))
  |.inr _=>none
 |.inr _=>none
def Re[Lk]{α:Type}(z:α)(c:α×α×Unit→Option U9):(List α×Int×Int×Int×Unit)→Option ((List α×Int×Int×Int×Unit)⊕(List α×Int×Int×Int×Unit)⊕Unit):=fun(a0,a1,a2,a3,_)=>
 match(ile a2 a3)with
 |true=>match idx a0 a3 with|none=>none|some x0=>match idx a0 a1 with|none=>none|some x1=>match c ((AP a0 (AF a3) z),(AP a0 (AF a1) z),())with|none=>none|some (y2,_)=>match(!(ilt y2 0))with
  |true=>some (.inl (a0,a1,a2,(IntKind.wrap .i64 (a3-1)),()))
  |false=>some (.inr (.inl (a0,a1,a2,a3,())))
 |false=>some (.inr (.inl (a0,a1,a2,a3,())))
def Rf[Lk]{α:Type}(z:α)(c:α×α×Unit→Option U9):(List α×Int×Int×Int×Unit)→Option ((List α×Int×Int×Int×Unit)⊕(List α×Int×Int×Int×Unit)⊕Unit):=fun(a0,a1,a2,a3,_)=>
 match(ile a2 a3)with
 |true=>match idx a0 a2 with|none=>none|some x0=>match idx a0 a1 with|none=>none|some x1=>match c ((AP a0 (AF a2) z),(AP a0 (AF a1) z),())with|none=>none|some (y2,_)=>match(ilt y2 0)with
  |true=>some (.inl (a0,a1,(IntKind.wrap .i64 (a2+1)),a3,()))
  |false=>some (.inr (.inl (a0,a1,a2,a3,())))
 |false=>some (.inr (.inl (a0,a1,a2,a3,())))
def ZN[Lk]{α:Type}(z:α)(c:α×α×Unit→Option U9):(List α×Int×Int×Int×Unit)→Option ((List α×Int×Bool×Unit)):=fun(a0,a1,a2,a3,_)=>
 match idx a0 a3 with|none=>none|some x0=>match idx a0 a1 with|none=>none|some x1=>match idx a0 a1 with|none=>none|some x2=>match idx (An a0 (AF a1) (AP a0 (AF a3) z)) a3 with|none=>none|some x3=>match AS (Rf z c) many ((An (An a0 (AF a1) (AP a0 (AF a3) z)) (AF a3) (AP a0 (AF a1) z)),a1,(IntKind.wrap .i64 (a1+1)),(IntKind.wrap .i64 (a2-1)),())with|none=>none|some r=>match r with
 |.inl (o4,o5,o6,o7,_)=>match AS (Re z c) many (o4,o5,o6,o7,())with|none=>none|some r=>match r with
  |.inl (o8,o9,o10,o11,_)=>match(ilt o11 o10)with
   |true=>match idx o8 o9 with|none=>none|some x12=>match idx o8 o11 with|none=>none|some x13=>match idx o8 o11 with|none=>none|some x14=>match idx (An o8 (AF o11) (AP o8 (AF o9) z)) o9 with|none=>none|some x15=>some ((An (An o8 (AF o11) (AP o8 (AF o9) z)) (AF o9) (AP o8 (AF o11) z)),o11,true,())
   |false=>match idx o8 o11 with|none=>none|some x16=>match idx o8 o10 with|none=>none|some x17=>match idx o8 o10 with|none=>none|some x18=>match idx (An o8 (AF o10) (AP o8 (AF o11) z)) o11 with|none=>none|some x19=>match AS (Rd z c) many ((An (An o8 (AF o10) (AP o8 (AF o11) z)) (AF o11) (AP o8 (AF o10) z)),o9,(IntKind.wrap .i64 (o10+1)),(IntKind.wrap .i64 (o11-1)),())with|none=>none|some r=>match r with
   |.inl (o20,o21,o22,_)=>match idx o20 o21 with|none=>none|some x23=>match idx o20 o22 with|none=>none|some x24=>match idx o20 o22 with|none=>none|some x25=>match idx (An o20 (AF o22) (AP o20 (AF o21) z)) o21 with|none=>none|some x26=>some ((An (An o20 (AF o22) (AP o20 (AF o21) z)) (AF o21) (AP o20 (AF o22) z)),o22,false,())
   |.inr _=>none
  |.inr _=>none
 |.inr _=>none
def AHW[Lk]{α:Type}(z:α)(c:α×α×Unit→Option U9)(v:(List α×Int×Int×Int×Unit)):Option ((List α×Int×Bool×Unit)):=Lk.f ((ZN z c) v)
theorem Aff{α:Type}(z:α)(c:α×α×Unit→Option U9)(v:(List α×Int×Int×Int×Unit)):(AHW z c) v=(ZN z c) v:=AN _
def UT[Lk]{α:Type}(z:α)(c:α×α×Unit→Option U9)(self:(List α×Int×Int×Int×Unit)→Option ((List α×Unit)))(y7:List α)(a1 a2 p l:Int)(a4 a5:Bool):Option ((List α×Int×Int×Int×Bool×Bool×Unit)⊕(List α×Unit)⊕Unit):=
 match(ilt 0 a1)with
 |true=>match idx y7 (IntKind.wrap .i64 (a1-1))with|none=>none|some x9=>match idx y7 p with|none=>none|some x10=>match c ((AP y7 (AF (IntKind.wrap .i64 (a1-1))) z),(AP y7 (AF p) z),())with|none=>none|some (y11,_)=>match(!(ilt y11 0))with
  |true=>match(ZO z c) (y7,a1,a2,p,())with|none=>none|some (y12,y13,_)=>some (.inl (y12,y13,a2,l,a4,a5,()))
  |false=>match(AHW z c) (y7,a1,a2,p,())with|none=>none|some (y14,y15,y16,_)=>match quo? .i64 (IntKind.wrap .i64 (a2-a1)) 8 with|none=>none|some x17=>match(ilt (IntKind.wrap .i64 (y15-a1)) (IntKind.wrap .i64 (a2-y15)))with
  |true=>match self (y14,a1,y15,l,())with|none=>none|some (y18,_)=>some (.inl (y18,(IntKind.wrap .i64 (y15+1)),a2,l,(ile x17 (IntKind.wrap .i64 (y15-a1))),y16,()))
  |false=>match self (y14,(IntKind.wrap .i64 (y15+1)),a2,l,())with|none=>none|some (y19,_)=>some (.inl (y19,a1,y15,l,(ile x17 (IntKind.wrap .i64 (a2-y15))),y16,()))
 |false=>match(AHW z c) (y7,a1,a2,p,())with|none=>none|some (y20,y21,y22,_)=>match quo? .i64 (IntKind.wrap .i64 (a2-a1)) 8 with|none=>none|some x23=>match(ilt (IntKind.wrap .i64 (y21-a1)) (IntKind.wrap .i64 (a2-y21)))with
 |true=>match self (y20,a1,y21,l,())with|none=>none|some (y24,_)=>some (.inl (y24,(IntKind.wrap .i64 (y21+1)),a2,l,(ile x23 (IntKind.wrap .i64 (y21-a1))),y22,()))
 |false=>match self (y20,(IntKind.wrap .i64 (y21+1)),a2,l,())with|none=>none|some (y25,_)=>some (.inl (y25,a1,y21,l,(ile x23 (IntKind.wrap .i64 (a2-y21))),y22,()))
def AKb[Lk]{α:Type}(z:α)(c:α×α×Unit→Option U9)(self:(List α×Int×Int×Int×Unit)→Option ((List α×Unit)))(y6:List α)(a1 a2 p h l:Int)(a4 a5:Bool):Option ((List α×Int×Int×Int×Bool×Bool×Unit)⊕(List α×Unit)⊕Unit):=
 match a4 with
 |true=>match a5 with
  |true=>match(ieq h 1)with
   |true=>match(RZ z c) (y6,a1,a2,())with|none=>none|some (y7,y8,_)=>match y8 with
    |true=>some (.inr (.inl (y7,())))
    |false=>(UT z c) self y7 a1 a2 p l a4 a5
   |false=>(UT z c) self y6 a1 a2 p l a4 a5
  |false=>(UT z c) self y6 a1 a2 p l a4 a5
 |false=>(UT z c) self y6 a1 a2 p l a4 a5
def AKa[Lk]{α:Type}(z:α)(c:α×α×Unit→Option U9)(self:(List α×Int×Int×Int×Unit)→Option ((List α×Unit)))(y2:List α)(a1 a2 l:Int)(a4 a5:Bool):Option ((List α×Int×Int×Int×Bool×Bool×Unit)⊕(List α×Unit)⊕Unit):=
 match(AKL z c) (y2,a1,a2,())with|none=>none|some (y3,y4,y5,_)=>match(ieq y5 2)with
 |true=>match(AiJ z c) (y3,a1,a2,())with|none=>none|some (y6,_)=>(AKb z c) self y6 a1 a2 (IntKind.wrap .i64 ((IntKind.wrap .i64 (a2-1))-(IntKind.wrap .i64 (y4-a1)))) 1 l a4 a5
 |false=>(AKb z c) self y3 a1 a2 y4 y5 l a4 a5
def RY[Lk]{α:Type}(z:α)(c:α×α×Unit→Option U9)(self:(List α×Int×Int×Int×Unit)→Option ((List α×Unit))):(List α×Int×Int×Int×Bool×Bool×Unit)→Option ((List α×Int×Int×Int×Bool×Bool×Unit)⊕(List α×Unit)⊕Unit):=fun(a0,a1,a2,a3,a4,a5,_)=>
 match(ile (IntKind.wrap .i64 (a2-a1)) 12)with
 |true=>match(AjA z c) (a0,a1,a2,())with|none=>none|some (y0,_)=>some (.inr (.inl (y0,())))
 |false=>match(ieq a3 0)with
 |true=>match(AY7 z c) (a0,a1,a2,())with|none=>none|some (y1,_)=>some (.inr (.inl (y1,())))
 |false=>match(!a4)with
 |true=>match(AMw z c) (a0,a1,a2,())with|none=>none|some (y2,_)=>(AKa z c) self y2 a1 a2 (IntKind.wrap .i64 (a3-1)) a4 a5
 |false=>(AKa z c) self a0 a1 a2 a3 a4 a5
def AKc[Lk]{α:Type}(z:α)(c:α×α×Unit→Option U9)(self:(List α×Int×Int×Int×Unit)→Option ((List α×Unit))):(List α×Int×Int×Int×Unit)→Option ((List α×Unit)):=fun(a0,a1,a2,a3,_)=>
 match AS ((RY z c) self) many (a0,a1,a2,a3,true,true,())with|none=>none|some r=>match r with
 |.inl (o0,_)=>some (o0,())
 |.inr _=>none
def MX[Lk]{α:Type}(z:α)(c:α×α×Unit→Option U9):Nat→(List α×Int×Int×Int×Unit)→Option ((List α×Unit))
 |0,_=>none
 |n+1,v=>(AKc z c) ((MX z c) n) v
def Aia[Lk]{α:Type}(z:α)(c:α×α×Unit→Option U9)(v:(List α×Int×Int×Int×Unit)):Option ((List α×Unit)):=Lk.f ((MX z c) 100 v)
theorem AiZ{α:Type}(z:α)(c:α×α×Unit→Option U9)(v:(List α×Int×Int×Int×Unit)):(Aia z c) v=(MX z c) 100 v:=AN _
def ZC[Lk]{α:Type}(z:α)(c:α×α×Unit→Option U9):(List α×Unit)→Option ((List α×Unit)):=fun(a0,_)=>
 match bitsLen ((IntKind.wrap .u64 (AO a0)),())with|none=>none|some (y0,_)=>match(Aia z c) (a0,0,(AO a0),y0,())with|none=>none|some (y1,_)=>some (y1,())
def AeD[Lk]{α:Type}(z:α)(c:α×α×Unit→Option U9)(v:(List α×Unit)):Option ((List α×Unit)):=Lk.f ((ZC z c) v)
theorem AeC{α:Type}(z:α)(c:α×α×Unit→Option U9)(v:(List α×Unit)):(AeD z c) v=(ZC z c) v:=AN _
abbrev AWL:AE:=[(.tmp 0,.own 55 U6),(.tmp 1,.di),(.tmp 2,.di),(.tmp 3,.clo 204 [])]
abbrev AWK:AE:=[(.obj 0,.own 55 U6)]
abbrev AWJ:List RS:=[]
abbrev AYw:AE:=[(.obj 0,.own 55 U6),(.tmp 0,.own' 0),(.tmp 1,.di),(.tmp 2,.di),(.tmp 3,.clo 204 []),(.tmp 8,.di),(.tmp 9,.di)]
abbrev AYu:As:=[(.exit 2,[(.obj 0,.own 55 U6),(.tmp 0,.own' 0),(.tmp 1,.di),(.tmp 2,.di),(.tmp 3,.clo 204 []),(.tmp 8,.di)])]
def AYs[Lk]:Ul→Option (Ul⊕U8⊕Unit):=Rw (([]:List (Int)):U4) BI
abbrev AYx:AE:=[(.obj 0,.own 55 U6),(.tmp 0,.own' 0),(.tmp 1,.di),(.tmp 2,.di),(.tmp 3,.clo 204 []),(.tmp 8,.di)]
abbrev AYv:As:=[(.exit 0,[(.obj 0,.own 55 U6)])]
def AYt[Lk]:U8→Option (U8⊕Uo⊕Unit):=Rx (([]:List (Int)):U4) BI
def AgK[Lk]:Uf→Option (Uo):=ALj (([]:List (Int)):U4) BI
def Akb[Lk](v:Uf):Option (Uo):=AjA (([]:List (Int)):U4) BI v
theorem Ai2 v:Akb v=AgK v:=AN _
abbrev AJY:AE:=[(.tmp 0,.own 55 U6),(.tmp 1,.di),(.tmp 2,.di),(.tmp 3,.di),(.tmp 4,.clo 204 [])]
abbrev AJX:AE:=[(.obj 0,.own 55 U6)]
abbrev AJW:List RS:=[]
abbrev AOR:AE:=[(.obj 0,.own 55 U6),(.tmp 0,.own' 0),(.tmp 2,.di),(.tmp 3,.di),(.tmp 4,.clo 204 []),(.tmp 10,.di)]
abbrev AOQ:As:=[(.exit 0,[(.obj 0,.own 55 U6)]),(.ret,[(.obj 0,.own 55 U6)])]
def AOP[Lk]:U8→Option (U8⊕Uo⊕Uo⊕Unit):=ML (([]:List (Int)):U4) BI
def AYJ[Lk]:U8→Option (Uo):=ZE (([]:List (Int)):U4) BI
def AeH[Lk](v:U8):Option (Uo):=AOW (([]:List (Int)):U4) BI v
theorem AeG v:AeH v=AYJ v:=AN _
abbrev ALs:AE:=[(.tmp 0,.own 55 U6),(.tmp 1,.di),(.tmp 2,.di),(.tmp 3,.clo 204 [])]
abbrev ALr:AE:=[(.obj 0,.own 55 U6)]
abbrev ALq:List RS:=[]
abbrev ARG:AE:=[(.obj 0,.own 55 U6),(.tmp 0,.own' 0),(.tmp 3,.clo 204 []),(.tmp 8,.di),(.tmp 9,.di),(.tmp 12,.di)]
abbrev ARE:As:=[(.exit 2,[(.obj 0,.own 55 U6)])]
def ARB[Lk]:U8→Option (U8⊕Uo⊕Unit):=M0 (([]:List (Int)):U4) BI
abbrev ARH:AE:=[(.obj 0,.own 55 U6),(.tmp 0,.own' 0),(.tmp 3,.clo 204 []),(.tmp 8,.di),(.tmp 9,.di),(.tmp 10,.di),(.tmp 11,.di)]
abbrev ARF:As:=[(.exit 0,[(.obj 0,.own 55 U6),(.tmp 0,.own' 0),(.tmp 3,.clo 204 []),(.tmp 8,.di),(.tmp 9,.di),(.tmp 10,.di)])]
def ARD[Lk]:Ul→Option (Ul⊕U8⊕Unit):=M3 (([]:List (Int)):U4) BI
def AY6[Lk]:Uf→Option (Uo):=ZY (([]:List (Int)):U4) BI
def Agc[Lk](v:Uf):Option (Uo):=AY7 (([]:List (Int)):U4) BI v
theorem Agb v:Agc v=AY6 v:=AN _
abbrev AEV:AE:=[(.tmp 0,.own 55 U6),(.tmp 1,.di),(.tmp 2,.di),(.tmp 3,.clo 204 [])]
abbrev AEU:AE:=[(.obj 0,.own 55 U6)]
abbrev AET:List RS:=[]
abbrev AIN:AE:=[(.obj 0,.own 55 U6),(.tmp 0,.own' 0),(.tmp 1,.di),(.tmp 8,.di),(.tmp 9,.box 1),(.cell 1 0,.dat (.int .u64)),(.tmp 10,.dat (.int .u64)),(.tmp 11,.di)]
abbrev AIM:As:=[(.exit 0,[(.obj 0,.own 55 U6)])]
def AIL[Lk]:Uv→Option (Uv⊕Uo⊕Unit):=Hq (([]:List (Int)):U4) BI
def ASL[Lk]:Uf→Option (Uo):=Si (([]:List (Int)):U4) BI
def AXd[Lk](v:Uf):Option (Uo):=AMw (([]:List (Int)):U4) BI v
theorem AdB v:AXd v=ASL v:=AN _
abbrev VD:AE:=[(.tmp 0,.own 55 U6),(.tmp 1,.di),(.tmp 2,.di),(.tmp 3,.box 1),(.cell 1 0,.di),(.tmp 4,.clo 204 [])]
abbrev VC:AE:=[(.obj 0,.own 55 U6),(.obj 1,.box 1),(.cell 1 0,.di),(.tmp 0,.di),(.tmp 1,.di)]
abbrev VB:List RS:=[.one,.one]
def AHa[Lk]:U8→Option (U8):=OE (([]:List (Int)):U4) BI
def AKu[Lk](v:U8):Option (U8):=OF (([]:List (Int)):U4) BI v
theorem AVH v:AKu v=AHa v:=AN _
abbrev VO:AE:=[(.tmp 0,.own 55 U6),(.tmp 1,.di),(.tmp 2,.di),(.tmp 3,.di),(.tmp 4,.box 1),(.cell 1 0,.di),(.tmp 5,.clo 204 [])]
abbrev VN:AE:=[(.obj 0,.own 55 U6),(.obj 1,.box 1),(.cell 1 0,.di),(.tmp 0,.di)]
abbrev VM:List RS:=[.one]
def AHd[Lk]:Ul→Option (Uf):=OL (([]:List (Int)):U4) BI
def ALF[Lk](v:Ul):Option (Uf):=OM (([]:List (Int)):U4) BI v
theorem AVj v:ALF v=AHd v:=AN _
abbrev VU:AE:=[(.tmp 0,.own 55 U6),(.tmp 1,.di),(.tmp 2,.box 1),(.cell 1 0,.di),(.tmp 3,.clo 204 [])]
abbrev VT:AE:=[(.obj 0,.own 55 U6),(.obj 1,.box 1),(.cell 1 0,.di),(.tmp 0,.di)]
abbrev VS:List RS:=[.one]
def AHe[Lk]:Uf→Option (Uf):=OO (([]:List (Int)):U4) BI
def ALI[Lk](v:Uf):Option (Uf):=OP (([]:List (Int)):U4) BI v
theorem AVl v:ALI v=AHe v:=AN _
abbrev ABn:AE:=[(.tmp 0,.own 55 U6),(.tmp 1,.di),(.tmp 2,.di),(.tmp 3,.clo 204 [])]
abbrev ABm:AE:=[(.obj 0,.own 55 U6),(.tmp 0,.di),(.tmp 1,.di)]
abbrev ABl:List RS:=[.one,.one]
def APB[Lk]:Uf→Option (Uf):=RU (([]:List (Int)):U4) BI
def AUd[Lk](v:Uf):Option (Uf):=AKL (([]:List (Int)):U4) BI v
theorem Aam v:AUd v=APB v:=AN _
abbrev ATy:AE:=[(.tmp 0,.own 55 U6),(.tmp 1,.di),(.tmp 2,.di),(.tmp 3,.clo 204 [])]
abbrev ATx:AE:=[(.obj 0,.own 55 U6)]
abbrev ATw:List RS:=[]
abbrev AYN:AE:=[(.obj 0,.own 55 U6),(.tmp 0,.own' 0),(.tmp 8,.di),(.tmp 9,.di)]
abbrev AYM:As:=[(.exit 0,[(.obj 0,.own 55 U6)])]
def AYL[Lk]:Uf→Option (Uf⊕Uo⊕Unit):=ZH (([]:List (Int)):U4) BI
def AeU[Lk]:Uf→Option (Uo):=AJv (([]:List (Int)):U4) BI
def Aj6[Lk](v:Uf):Option (Uo):=AiJ (([]:List (Int)):U4) BI v
theorem AiF v:Aj6 v=AeU v:=AN _
abbrev Pr:AE:=[(.tmp 0,.own 55 U6),(.tmp 1,.di),(.tmp 2,.di),(.tmp 3,.clo 204 [])]
abbrev Pq:AE:=[(.obj 0,.own 55 U6),(.tmp 0,.dat .bool)]
abbrev Pp:List RS:=[.one]
abbrev Xk:AE:=[(.obj 0,.own 55 U6),(.tmp 0,.own' 0),(.tmp 1,.di),(.tmp 2,.di),(.tmp 3,.clo 204 []),(.tmp 9,.di),(.tmp 10,.di),(.tmp 12,.di)]
abbrev Xg:As:=[(.exit 6,[(.obj 0,.own 55 U6),(.tmp 0,.own' 0),(.tmp 1,.di),(.tmp 2,.di),(.tmp 3,.clo 204 []),(.tmp 9,.di),(.tmp 10,.di)])]
def Xc[Lk]:Uv→Option (Uv⊕Ul⊕Unit):=Gw (([]:List (Int)):U4) BI
abbrev Xl:AE:=[(.obj 0,.own 55 U6),(.tmp 0,.own' 0),(.tmp 1,.di),(.tmp 2,.di),(.tmp 3,.clo 204 []),(.tmp 9,.di),(.tmp 10,.di),(.tmp 11,.di)]
abbrev Xh:As:=[(.exit 4,[(.obj 0,.own 55 U6),(.tmp 0,.own' 0),(.tmp 1,.di),(.tmp 2,.di),(.tmp 3,.clo 204 []),(.tmp 9,.di),(.tmp 10,.di)])]
def Xd[Lk]:Uv→Option (Uv⊕Ul⊕Unit):=Gx (([]:List (Int)):U4) BI
abbrev Xm:AE:=[(.obj 0,.own 55 U6),(.tmp 0,.own' 0),(.tmp 1,.di),(.tmp 2,.di),(.tmp 3,.clo 204 []),(.tmp 9,.di),(.tmp 10,.di)]
abbrev Xi:As:=[(.exit 2,[(.obj 0,.own 55 U6),(.tmp 0,.own' 0),(.tmp 1,.di),(.tmp 2,.di),(.tmp 3,.clo 204 []),(.tmp 9,.di),(.tmp 10,.di)])]
def Xe[Lk]:Ul→Option (Ul⊕Ul⊕Unit):=I8 (([]:List (Int)):U4) BI
abbrev Xn:AE:=[(.obj 0,.own 55 U6),(.tmp 0,.own' 0),(.tmp 1,.di),(.tmp 2,.di),(.tmp 3,.clo 204 []),(.tmp 9,.di),(.tmp 10,.di)]
abbrev Xj:As:=[(.ret,[(.obj 0,.own 55 U6),(.tmp 8,.dat .bool)]),(.exit 0,[(.obj 0,.own 55 U6)])]
def Xf[Lk]:Ul→Option (Ul⊕(List U4×Bool×Unit)⊕Uo⊕Unit):=Cx (([]:List (Int)):U4) BI
def ACB[Lk]:Uf→Option ((List U4×Bool×Unit)):=Ki (([]:List (Int)):U4) BI
def ACC[Lk](v:Uf):Option ((List U4×Bool×Unit)):=RZ (([]:List (Int)):U4) BI v
theorem APq v:ACC v=ACB v:=AN _
abbrev UX:AE:=[(.tmp 0,.own 55 U6),(.tmp 1,.di),(.tmp 2,.di),(.tmp 3,.di),(.tmp 4,.clo 204 [])]
abbrev UW:AE:=[(.obj 0,.own 55 U6),(.tmp 0,.di)]
abbrev UU:List RS:=[.one]
abbrev ACO:AE:=[(.obj 0,.own 55 U6),(.tmp 0,.own' 0),(.tmp 1,.di),(.tmp 4,.clo 204 []),(.tmp 11,.di),(.tmp 12,.di)]
abbrev ACK:As:=[(.exit 4,[(.obj 0,.own 55 U6),(.tmp 0,.own' 0),(.tmp 1,.di),(.tmp 4,.clo 204 []),(.tmp 11,.di),(.tmp 12,.di)])]
def ACH[Lk]:U8→Option Vl:=Kj (([]:List (Int)):U4) BI
abbrev ACP:AE:=[(.obj 0,.own 55 U6),(.tmp 0,.own' 0),(.tmp 1,.di),(.tmp 4,.clo 204 []),(.tmp 11,.di),(.tmp 12,.di)]
abbrev ACL:As:=[(.exit 2,[(.obj 0,.own 55 U6),(.tmp 0,.own' 0),(.tmp 1,.di),(.tmp 4,.clo 204 []),(.tmp 11,.di),(.tmp 12,.di)])]
def ACI[Lk]:U8→Option Vl:=Kk (([]:List (Int)):U4) BI
abbrev ACQ:AE:=[(.obj 0,.own 55 U6),(.tmp 0,.own' 0),(.tmp 1,.di),(.tmp 4,.clo 204 []),(.tmp 11,.di),(.tmp 12,.di)]
abbrev ACN:As:=[(.exit 0,[(.obj 0,.own 55 U6),(.tmp 11,.di)])]
def ACJ[Lk]:U8→Option (U8⊕Vg⊕Unit):=Kl (([]:List (Int)):U4) BI
def AHX[Lk]:U8→Option (Vg):=OC (([]:List (Int)):U4) BI
def AKp[Lk](v:U8):Option (Vg):=ZO (([]:List (Int)):U4) BI v
theorem AU9 v:AKp v=AHX v:=AN _
end
end Go.Pev
end
section
namespace Go.Pev
noncomputable section
attribute [local irreducible] NA Jh O5 Lq AcC AcD AcE RM T5 Yc AAe Jj AQ many IntKind.wrap AO An AP A1 Bo Dp KE AF BY B1 imax AX Ah
abbrev AKg:AE:=[(.tmp 0,.own 55 U6),(.tmp 1,.di),(.tmp 2,.di),(.tmp 3,.di),(.tmp 4,.clo 204 [])]
abbrev AKf:AE:=[(.obj 0,.own 55 U6),(.tmp 0,.di),(.tmp 1,.dat .bool)]
abbrev AKe:List RS:=[.one,.one]
abbrev APd:AE:=[(.obj 0,.own 55 U6),(.tmp 0,.own' 0),(.tmp 1,.di),(.tmp 4,.clo 204 []),(.tmp 12,.di),(.tmp 13,.di)]
abbrev APY:As:=[(.exit 8,[(.obj 0,.own 55 U6),(.tmp 0,.own' 0),(.tmp 1,.di),(.tmp 4,.clo 204 []),(.tmp 12,.di),(.tmp 13,.di)])]
def APP[Lk]:U8→Option Vl:=Rb (([]:List (Int)):U4) BI
abbrev APe:AE:=[(.obj 0,.own 55 U6),(.tmp 0,.own' 0),(.tmp 1,.di),(.tmp 4,.clo 204 []),(.tmp 12,.di),(.tmp 13,.di)]
abbrev APZ:As:=[(.exit 6,[(.obj 0,.own 55 U6),(.tmp 0,.own' 0),(.tmp 1,.di),(.tmp 4,.clo 204 []),(.tmp 12,.di),(.tmp 13,.di)])]
def APR[Lk]:U8→Option Vl:=Rc (([]:List (Int)):U4) BI
abbrev APf:AE:=[(.obj 0,.own 55 U6),(.tmp 0,.own' 0),(.tmp 1,.di),(.tmp 4,.clo 204 []),(.tmp 12,.di),(.tmp 13,.di)]
abbrev APa:As:=[(.exit 4,[(.obj 0,.own 55 U6),(.tmp 0,.own' 0),(.tmp 1,.di),(.tmp 13,.di)])]
def APT[Lk]:U8→Option (U8⊕Uf⊕Unit):=Rd (([]:List (Int)):U4) BI
abbrev APg:AE:=[(.obj 0,.own 55 U6),(.tmp 0,.own' 0),(.tmp 1,.di),(.tmp 4,.clo 204 []),(.tmp 12,.di),(.tmp 13,.di)]
abbrev APb:As:=[(.exit 2,[(.obj 0,.own 55 U6),(.tmp 0,.own' 0),(.tmp 1,.di),(.tmp 4,.clo 204 []),(.tmp 12,.di),(.tmp 13,.di)])]
def APV[Lk]:U8→Option Vl:=Re (([]:List (Int)):U4) BI
abbrev APh:AE:=[(.obj 0,.own 55 U6),(.tmp 0,.own' 0),(.tmp 1,.di),(.tmp 4,.clo 204 []),(.tmp 12,.di),(.tmp 13,.di)]
abbrev APc:As:=[(.exit 0,[(.obj 0,.own 55 U6),(.tmp 0,.own' 0),(.tmp 1,.di),(.tmp 4,.clo 204 []),(.tmp 12,.di),(.tmp 13,.di)])]
def APX[Lk]:U8→Option Vl:=Rf (([]:List (Int)):U4) BI
def AYb[Lk]:U8→Option ((List U4×Int×Bool×Unit)):=ZN (([]:List (Int)):U4) BI
def AfU[Lk](v:U8):Option ((List U4×Int×Bool×Unit)):=AHW (([]:List (Int)):U4) BI v
theorem AfT v:AfU v=AYb v:=AN _
abbrev AB1:AE:=[(.tmp 0,.own 55 U6),(.tmp 1,.di),(.tmp 2,.di),(.tmp 3,.di),(.tmp 4,.clo 204 [])]
abbrev AB0:AE:=[(.obj 0,.own 55 U6)]
abbrev ABz:List RS:=[]
abbrev AYW:AE:=[(.obj 0,.own 55 U6),(.tmp 0,.own' 0),(.tmp 1,.di),(.tmp 2,.di),(.tmp 3,.di),(.tmp 4,.clo 204 []),(.tmp 10,.dat .bool),(.tmp 11,.dat .bool)]
abbrev AYV:As:=[(.ret,[(.obj 0,.own 55 U6)])]
def AYU[Lk](self:U8→Option (Uo)):(List U4×Int×Int×Int×Bool×Bool×Unit)→Option ((List U4×Int×Int×Int×Bool×Bool×Unit)⊕Uo⊕Unit):=RY (([]:List (Int)):U4) BI self
def AkC[Lk](self:U8→Option (Uo)):U8→Option (Uo):=AKc (([]:List (Int)):U4) BI self
def AB2[Lk]:Nat→U8→Option (Uo):=MX (([]:List (Int)):U4) BI
def AiW[Lk](v:U8):Option (Uo):=Aia (([]:List (Int)):U4) BI v
theorem AiV v:AiW v=AB2 100 v:=AN _
abbrev AJS:AE:=[(.tmp 0,.own 55 U6),(.tmp 1,.clo 204 [])]
abbrev AJR:AE:=[(.obj 0,.own 55 U6)]
abbrev AJQ:List RS:=[]
def AYI[Lk]:Uo→Option (Uo):=ZC (([]:List (Int)):U4) BI
def AOK[Lk](v:Uo):Option (Uo):=AeD (([]:List (Int)):U4) BI v
theorem AeB v:AOK v=AYI v:=AN _
abbrev AIt:AE:=[(.tmp 0,.dat Ub),(.tmp 1,.dat U6),(.tmp 2,.dat Uk)]
abbrev AIs:AE:=[(.tmp 0,.di),(.tmp 1,.own 55 U6)]
abbrev AIr:List RS:=[.agg 2]
abbrev ANp:AE:=[(.tmp 3,.box 2),(.cell 0 0,.di),(.cell 0 1,.dat Uk),(.tmp 6,.box 2),(.cell 1 0,.di),(.cell 1 1,.nil U6),(.tmp 7,.own 55 U6),(.tmp 29,.dat Uk),(.tmp 30,.di),(.tmp 31,.di)]
abbrev ANn:As:=[(.exit 2,[(.tmp 3,.box 2),(.cell 0 0,.di),(.cell 0 1,.dat Uk),(.tmp 6,.box 2),(.cell 1 0,.di),(.cell 1 1,.nil U6),(.tmp 7,.own 55 U6)])]
def Hv[Lk]:(Int×List U4×Int×List U4×List U4×Int×Int×Unit)→Option ((Int×List U4×Int×List U4×List U4×Int×Int×Unit)⊕(Int×List U4×Int×List U4×Unit)⊕Unit):=fun(a0,a1,a2,a3,a4,a5,a6,_)=>
 match(ilt a6 a5)with
 |true=>match idx a4 a6 with|none=>none|some x0=>match AAx (x0,())with|none=>none|some (y1,_)=>match(fits ((AO a3)+(AO ([y1]:List U4))))with
  |true=>some (.inl (a0,a1,a2,(A1 a3 ([y1]:List U4)),a4,a5,(IntKind.wrap .i64 (a6+1)),()))
  |false=>none
 |false=>some (.inr (.inl (a0,a1,a2,a3,())))
abbrev ANq:AE:=[(.tmp 1,.dat U6),(.tmp 2,.dat Uk),(.tmp 3,.box 2),(.cell 0 0,.di),(.cell 0 1,.dat Uk),(.tmp 6,.box 2),(.cell 1 0,.di),(.cell 1 1,.nil U6),(.tmp 7,.own 55 U6),(.tmp 13,.dat Uk),(.tmp 14,.di),(.tmp 15,.di)]
abbrev ANo:As:=[(.exit 0,[(.tmp 2,.dat Uk),(.tmp 3,.box 2),(.cell 0 0,.di),(.cell 0 1,.dat Uk),(.tmp 6,.box 2),(.cell 1 0,.di),(.cell 1 1,.nil U6),(.tmp 7,.own 55 U6)])]
def Hw[Lk]:Vn→Option (Vn⊕(List U4×Int×List U4×Int×List U4×Unit)⊕Unit):=fun(a0,a1,a2,a3,a4,a5,a6,a7,a8,_)=>
 match(ilt a8 a7)with
 |true=>match idx a6 a8 with|none=>none|some x0=>match FA (a0,a8,())with|none=>none|some (y1,_)=>match(!y1)with
  |true=>match(fits ((AO a5)+(AO ([x0]:List U4))))with
   |true=>some (.inl (a0,a1,a2,a3,a4,(A1 a5 ([x0]:List U4)),a6,a7,(IntKind.wrap .i64 (a8+1)),()))
   |false=>none
  |false=>some (.inl (a0,a1,a2,a3,a4,a5,a6,a7,(IntKind.wrap .i64 (a8+1)),()))
 |false=>some (.inr (.inl (a1,a2,a3,a4,a5,())))
def Y8[Lk]:(Ui×List Int×List U4×Unit)→Option ((Int×List U4×Unit)):=fun(a0,a1,a2,_)=>
 match AS Hw many (a1,a2,a0.1,a0.2.1,0,([]:List U4),a0.2.1,(AO a0.2.1),0,())with|none=>none|some r=>match r with
 |.inl (o0,o1,o2,o3,o4,_)=>match AS Hv many (o1,o2,o3,o4,o0,(AO o0),0,())with|none=>none|some r=>match r with
  |.inl (o5,o6,o7,o8,_)=>match AOK (o8,())with|none=>none|some (y9,_)=>some (o5,y9,())
  |.inr _=>none
 |.inr _=>none
def ANs[Lk]:=fun v=>Lk.f (Y8 v)
theorem ANr v:ANs v=Y8 v:=AN _
abbrev AJK:AE:=[(.tmp 0,.dat Ub),(.tmp 1,.di),(.tmp 2,.di)]
abbrev AJJ:AE:=[(.tmp 0,.di),(.tmp 1,.dat Uk),(.tmp 2,.di)]
abbrev AJI:List RS:=[.agg 2,.one]
def HR[Lk]:(Ui×Int×Int×Unit)→Option (V2):=fun(a0,a1,a2,_)=>
 match asked ((a0.1,(a0.2.1,())),a1,a2,())with|none=>none|some (y0,_)=>match(!(ieq y0 0))with
 |true=>some (a0.1,a0.2.1,y0,())
 |false=>match Pb ((a0.1,(a0.2.1,())),a1,())with|none=>none|some (y1,_)=>match Pb ((a0.1,(a0.2.1,())),a2,())with|none=>none|some (y2,_)=>match(ieq y1 y2)with
 |true=>some (a0.1,a0.2.1,5,())
 |false=>match idx a0.2.1 y1 with|none=>none|some x3=>match AHM (x3,a1,())with|none=>none|some (y4,y5,_)=>match idx a0.2.1 y2 with|none=>none|some x6=>match AHM (x6,a2,())with|none=>none|some (y7,y8,_)=>match Bv y4 0 1 with|none=>none|some x9=>match AZ3 (a0.1,a1,a2,())with|none=>none|some (y10,_)=>match AZ3 (a0.1,a2,a1,())with|none=>none|some (y11,_)=>match Bv y4 1 (AO y4)with|none=>none|some x12=>match JP (([(Dp 0 (AF (AO x9)) y4),([y10]:List (Int)),y7,([y11]:List (Int)),(Dp 1 (AF (AO x12)) y4)]:List U4),())with|none=>none|some (y13,_)=>match ANs ((a0.1,(a0.2.1,())),([y1,y2]:List (Int)),([y13]:List U4),())with|none=>none|some (y14,y15,_)=>some (y14,y15,0,())
def Lo[Lk]:=fun v=>Lk.f (HR v)
theorem H6 v:Lo v=HR v:=AN _
abbrev GO:AE:=[(.tmp 0,.dat U6),(.cap 1 0,.box 2),(.cell 0 0,.di),(.cell 0 1,.dat Uk),(.tmp 1,.clo 155 [(0,0)])]
abbrev GN:AE:=[(.obj 0,.box 2),(.cell 0 0,.di),(.cell 0 1,.dat Uk),(.tmp 0,.di)]
abbrev GM:List RS:=[.one]
abbrev JI:AE:=[(.obj 0,.box 2),(.cell 0 0,.di),(.cell 0 1,.dat Uk),(.tmp 0,.dat U6),(.tmp 1,.clo 155 [(0,0)]),(.tmp 7,.di),(.tmp 8,.di)]
abbrev JH:As:=[(.ret,[(.obj 0,.box 2),(.cell 0 0,.di),(.cell 0 1,.dat Uk),(.tmp 4,.di)]),(.exit 0,[(.obj 0,.box 2),(.cell 0 0,.di),(.cell 0 1,.dat Uk)])]
def Bk[Lk]:(Int×List U4×List Int×Int×Int×Unit)→Option ((Int×List U4×List Int×Int×Int×Unit)⊕V2⊕(Int×List U4×Unit)⊕Unit):=fun(a0,a1,a2,a3,a4,_)=>
 match(ilt a4 a3)with
 |true=>match idx a2 a4 with|none=>none|some x0=>match(ilt x0 0)with
  |true=>some (.inr (.inl (a0,a1,a4,())))
  |false=>match(ile a0 x0)with
  |true=>some (.inr (.inl (a0,a1,a4,())))
  |false=>some (.inl (a0,a1,a2,a3,(IntKind.wrap .i64 (a4+1)),()))
 |false=>some (.inr (.inr (.inl (a0,a1,()))))
def D4[Lk]:V9→Option (V2):=fun(a0,a1,a2,_)=>
 match AS Bk many (a1,a2,a0,(AO a0),0,())with|none=>none|some r=>match r with
 |.inl (o0,o1,o2,_)=>some (o0,o1,o2,())
 |.inr r=>match r with
 |.inl (o3,o4,_)=>some (o3,o4,(-1:Int),())
 |.inr _=>none
def FW[Lk]:=fun v=>Lk.f (D4 v)
theorem JJ v:FW v=D4 v:=AN _
abbrev Fi:AE:=[(.tmp 0,.dat U6),(.cap 1 0,.box 2),(.cell 0 0,.di),(.cell 0 1,.dat Uk),(.tmp 1,.clo 155 [(0,0)])]
abbrev Fh:AE:=[(.obj 0,.box 2),(.cell 0 0,.di),(.cell 0 1,.dat Uk),(.tmp 0,.dat .bool)]
abbrev Fg:List RS:=[.one]
def DS[Lk]:V9→Option ((Int×List U4×Bool×Unit)):=fun(a0,a1,a2,_)=>
 match FW (a0,a1,a2,())with|none=>none|some (y0,y1,y2,_)=>some (y0,y1,(ile 0 y2),())
def DG[Lk]:=fun v=>Lk.f (DS v)
theorem Ip v:DG v=DS v:=AN _
abbrev ADh:AE:=[(.tmp 0,.dat Ub),(.tmp 1,.dat U6)]
abbrev ADg:AE:=[(.tmp 0,.di)]
abbrev ADf:List RS:=[.one]
def SH[Lk]:(Ui×List Int×Unit)→Option (U9):=fun(a0,a1,_)=>
 match PZ ((a0.1,(a0.2.1,())),())with|none=>none|some (y0,_)=>match(!y0)with
 |true=>some (1,())
 |false=>match DG (a1,a0.1,a0.2.1,())with|none=>none|some (y1,y2,y3,_)=>match y3 with
 |true=>some (10,())
 |false=>some (0,())
def K9[Lk]:=fun v=>Lk.f (SH v)
theorem AH9 v:K9 v=SH v:=AN _
abbrev AW4:AE:=[(.tmp 0,.dat Uq)]
abbrev AW3:AE:=[(.tmp 0,.own 3 U0)]
abbrev AW2:List RS:=[.one]
abbrev AZF:AE:=[(.tmp 3,.own 3 U0),(.tmp 6,.dat Uq),(.tmp 7,.di),(.tmp 8,.di)]
abbrev AZE:As:=[(.exit 0,[(.tmp 3,.own 3 U0)])]
def LC[Lk]:(List Int×List U3×Int×Int×Unit)→Option ((List Int×List U3×Int×Int×Unit)⊕Uc⊕Unit):=fun(a0,a1,a2,a3,_)=>
 match(ilt a3 a2)with
 |true=>match idx a1 a3 with|none=>none|some x0=>match(fits ((AO a0)+(AO ([x0.1,x0.2.1]:List (Int)))))with
  |true=>some (.inl ((A1 a0 ([x0.1,x0.2.1]:List (Int))),a1,a2,(IntKind.wrap .i64 (a3+1)),()))
  |false=>none
 |false=>some (.inr (.inl (a0,())))
def AMP[Lk]:V1→Option (Uc):=fun(a0,_)=>
 match AS LC many (([]:List (Int)),a0,(AO a0),0,())with|none=>none|some r=>match r with
 |.inl (o0,_)=>some (o0,())
 |.inr _=>none
def ends[Lk]:=fun v=>Lk.f (AMP v)
theorem AZG v:ends v=AMP v:=AN _
abbrev QX:AE:=[(.tmp 0,.dat Ub),(.tmp 1,.dat Uq),(.tmp 2,.clo 161 [])]
abbrev QW:AE:=[(.tmp 0,.dat Ub),(.tmp 1,.own 4 .bool),(.tmp 2,.di)]
abbrev QV:List RS:=[.one,.one,.one]
abbrev YD:AE:=[(.tmp 2,.clo 161 []),(.tmp 3,.box 2),(.cell 0 0,.di),(.cell 0 1,.dat Uk),(.tmp 6,.box 2),(.cell 1 0,.di),(.cell 1 1,.nil U6),(.tmp 10,.own 4 .bool),(.tmp 23,.dat Uq),(.tmp 24,.di),(.tmp 25,.di)]
abbrev YC:As:=[(.exit 0,[(.tmp 3,.box 2),(.cell 0 0,.di),(.cell 0 1,.dat Uk),(.tmp 6,.box 2),(.cell 1 0,.di),(.cell 1 1,.nil U6),(.tmp 10,.own 4 .bool)])]
def B4[Lk]:(Int×List U4×Int×List Bool×List U3×Int×Int×Unit)→Option ((Int×List U4×Int×List Bool×List U3×Int×Int×Unit)⊕(Int×List U4×Int×List Bool×Unit)⊕Unit):=fun(a0,a1,a2,a3,a4,a5,a6,_)=>
 match(ilt a6 a5)with
 |true=>match idx a4 a6 with|none=>none|some x0=>match Lo ((a0,(a1,())),x0.1,x0.2.1,())with|none=>none|some (y1,y2,y3,_)=>match(fits ((AO a3)+(AO ([(ieq y3 0)]:List (Bool)))))with
  |true=>some (.inl (y1,y2,a2,(A1 a3 ([(ieq y3 0)]:List (Bool))),a4,a5,(IntKind.wrap .i64 (a6+1)),()))
  |false=>none
 |false=>some (.inr (.inl (a0,a1,a2,a3,())))
def Ih[Lk]:(Ui×List U3×Unit)→Option ((Ui×List Bool×Int×Unit)):=fun(a0,a1,_)=>
 match ends (a1,())with|none=>none|some (y0,_)=>match K9 ((a0.1,(a0.2.1,())),y0,())with|none=>none|some (y1,_)=>match(!(ieq y1 0))with
 |true=>some ((a0.1,(a0.2.1,())),([]:List (Bool)),y1,())
 |false=>match AS B4 many (a0.1,a0.2.1,0,([]:List (Bool)),a1,(AO a1),0,())with|none=>none|some r=>match r with
 |.inl (o2,o3,o4,o5,_)=>some ((o2,(o3,())),o5,0,())
 |.inr _=>none
def SR[Lk]:=fun v=>Lk.f (Ih v)
theorem NG v:SR v=Ih v:=AN _
abbrev ADn:AE:=[(.tmp 0,.dat Ub),(.tmp 1,.dat Uq)]
abbrev ADm:AE:=[(.tmp 0,.dat Ub),(.tmp 1,.own 4 .bool),(.tmp 2,.di)]
abbrev ADl:List RS:=[.one,.one,.one]
def M9[Lk]:(Ui×List U3×Unit)→Option ((Ui×List Bool×Int×Unit)):=fun(a0,a1,_)=>
 match SR ((a0.1,(a0.2.1,())),a1,())with|none=>none|some (y0,y1,y2,_)=>some ((y0.1,(y0.2.1,())),y1,y2,())
def AMJ[Lk]:=fun v=>Lk.f (M9 v)
theorem WO v:AMJ v=M9 v:=AN _
abbrev Ag0:AE:=[(.tmp 0,.di),(.tmp 1,.dat Uq)]
abbrev Agz:AE:=[(.tmp 0,.dat Ub),(.tmp 1,.di)]
abbrev Agy:List RS:=[.one,.one]
def ARh[Lk]:(Int×List U3×Unit)→Option (Vf):=fun(a0,a1,_)=>
 match AOC (a0,())with|none=>none|some (y0,y1,y2,_)=>match(!(ieq y2 0))with
 |true=>some ((0,(([]:List U4),())),y2,())
 |false=>match AMJ ((y0,(y1,())),a1,())with|none=>none|some (y3,y4,y5,_)=>match(!(ieq y5 0))with
 |true=>some ((0,(([]:List U4),())),y5,())
 |false=>some ((y3.1,(y3.2.1,())),0,())
def fof[Lk]:=fun v=>Lk.f (ARh v)
theorem AWs v:fof v=ARh v:=AN _
abbrev Afn:AE:=[(.tmp 0,.dat U6)]
abbrev Afl:AE:=[(.tmp 0,.di)]
abbrev Afj:List RS:=[.one]
abbrev Afm:AE:=[(.tmp 3,.di),(.tmp 6,.dat U6),(.tmp 7,.di),(.tmp 8,.di)]
abbrev Afk:As:=[(.ret,[(.tmp 2,.di)]),(.exit 0,[(.tmp 3,.di)])]
def Pv[Lk]:(Int×List Int×Int×Int×Unit)→Option ((Int×List Int×Int×Int×Unit)⊕U9⊕U9⊕Unit):=fun(a0,a1,a2,a3,_)=>
 match(ilt a3 a2)with
 |true=>match idx a1 a3 with|none=>none|some x0=>match(!(ieq x0 a0))with
  |true=>some (.inr (.inl (x0,())))
  |false=>some (.inl (a0,a1,a2,(IntKind.wrap .i64 (a3+1)),()))
 |false=>some (.inr (.inr (.inl (a0,()))))
def AYc[Lk]:Uc→Option (U9):=fun(a0,_)=>
 match AS Pv many (0,a0,(AO a0),0,())with|none=>none|some r=>match r with
 |.inl (o0,_)=>some (o0,())
 |.inr r=>match r with
 |.inl (o1,_)=>some (o1,())
 |.inr _=>none
def orI[Lk]:=fun v=>Lk.f (AYc v)
theorem Afp v:orI v=AYc v:=AN _
abbrev ACw:AE:=[(.tmp 0,.di)]
abbrev ACv:AE:=[(.tmp 0,.dat .bool)]
abbrev ACu:List RS:=[.one]
def Mt[Lk]:U9→Option (Uh):=fun(a0,_)=>
 match(ile 1 a0)with
 |true=>some ((ile a0 64),())
 |false=>some (false,())
def Vo[Lk]:=fun v=>Lk.f (Mt v)
theorem VZ v:Vo v=Mt v:=AN _
abbrev AVs:AE:=[(.tmp 0,.di)]
abbrev AVr:AE:=[(.tmp 0,.di)]
abbrev AVq:List RS:=[.one]
def AVt[Lk]:U9→Option (U9):=fun(a0,_)=>
 match Vo (a0,())with|none=>none|some (y0,_)=>match(!y0)with
 |true=>some (0,())
 |false=>match bitsLen ((IntKind.wrap .u64 (IntKind.wrap .i64 (a0-1))),())with|none=>none|some (y1,_)=>some (y1,())
def AGC[Lk]:=fun v=>Lk.f (AVt v)
theorem Aip v:AGC v=AVt v:=AN _
abbrev P8:AE:=[(.tmp 0,.dat U2),(.tmp 1,.dat U2)]
abbrev P7:AE:=[(.tmp 0,.di)]
abbrev P6:List RS:=[.one]
def IN[Lk]:(U1×U1×Unit)→Option (U9):=fun(a0,a1,_)=>
 match Fj (a0.1,a1.1,())with|none=>none|some (y0,_)=>match Fj (a0.2.1,a1.2.1,())with|none=>none|some (y1,_)=>match orI (([y0,y1]:List (Int)),())with|none=>none|some (y2,_)=>some (y2,())
def Dj[Lk]:=fun v=>Lk.f (IN v)
theorem Mv v:Dj v=IN v:=AN _
abbrev ACr:AE:=[(.tmp 0,.dat Ua),(.tmp 1,.di)]
abbrev ACq:AE:=[(.tmp 0,.own 42 U5)]
abbrev ACp:List RS:=[.one]
abbrev AHj:AE:=[(.tmp 1,.di),(.tmp 5,.own 42 U5),(.tmp 9,.dat Up),(.tmp 10,.di),(.tmp 11,.di)]
abbrev AHi:As:=[(.exit 0,[(.tmp 5,.own 42 U5)])]
def Ct[Lk]:(Int×List U3×List U1×Int×Int×Unit)→Option ((Int×List U3×List U1×Int×Int×Unit)⊕V1⊕Unit):=fun(a0,a1,a2,a3,a4,_)=>
 match(ilt a4 a3)with
 |true=>match idx a2 a4 with|none=>none|some x0=>match x0.2.2.2.1 with
  |true=>match(ile a0 x0.2.2.1)with
   |true=>match(fits ((AO a1)+(AO ([(x0.1,(x0.2.1,()))]:List U3))))with
    |true=>some (.inl (a0,(A1 a1 ([(x0.1,(x0.2.1,()))]:List U3)),a2,a3,(IntKind.wrap .i64 (a4+1)),()))
    |false=>none
   |false=>some (.inl (a0,a1,a2,a3,(IntKind.wrap .i64 (a4+1)),()))
  |false=>some (.inl (a0,a1,a2,a3,(IntKind.wrap .i64 (a4+1)),()))
 |false=>some (.inr (.inl (a1,())))
def Mr[Lk]:(Ud×Int×Unit)→Option (V1):=fun(a0,a1,_)=>
 match AS Ct many (a1,([]:List U3),a0.2.1,(AO a0.2.1),0,())with|none=>none|some r=>match r with
 |.inl (o0,_)=>some (o0,())
 |.inr _=>none
def P2[Lk]:=fun v=>Lk.f (Mr v)
theorem VY v:P2 v=Mr v:=AN _
abbrev ACz:AE:=[(.tmp 0,.dat Ua)]
abbrev ACy:AE:=[(.tmp 0,.dat .bool)]
abbrev ACx:List RS:=[.one]
abbrev AHl:AE:=[(.tmp 1,.box 2),(.cell 0 0,.di),(.cell 0 1,.dat Up),(.tmp 3,.di),(.tmp 23,.dat Up),(.tmp 24,.di),(.tmp 25,.di)]
abbrev AHk:As:=[(.ret,[(.tmp 2,.dat .bool)]),(.exit 0,[(.tmp 1,.box 2),(.cell 0 0,.di),(.cell 0 1,.dat Up)])]
def Dz[Lk]:(Int×List U1×Int×List U1×Int×Int×Unit)→Option ((Int×List U1×Int×List U1×Int×Int×Unit)⊕Uh⊕(Int×List U1×Unit)⊕Unit):=fun(a0,a1,a2,a3,a4,a5,_)=>
 match(ilt a5 a4)with
 |true=>match idx a3 a5 with|none=>none|some x0=>match(ilt x0.1 0)with
  |true=>some (.inr (.inl (false,())))
  |false=>match(ile x0.2.1 x0.1)with
  |true=>some (.inr (.inl (false,())))
  |false=>match(ile a0 x0.2.1)with
  |true=>some (.inr (.inl (false,())))
  |false=>match(ilt x0.2.2.1 0)with
  |true=>some (.inr (.inl (false,())))
  |false=>match(ilt a2 x0.2.2.1)with
  |true=>some (.inr (.inl (false,())))
  |false=>match(ilt 0 a5)with
  |true=>match idx a1 (IntKind.wrap .i64 (a5-1))with|none=>none|some x1=>match Dj ((x1.1,(x1.2.1,(x1.2.2.1,(x1.2.2.2.1,())))),(x0.1,(x0.2.1,(x0.2.2.1,(x0.2.2.2.1,())))),())with|none=>none|some (y2,_)=>match(ile 0 y2)with
   |true=>some (.inr (.inl (false,())))
   |false=>some (.inl (a0,a1,a2,a3,a4,(IntKind.wrap .i64 (a5+1)),()))
  |false=>some (.inl (a0,a1,a2,a3,a4,(IntKind.wrap .i64 (a5+1)),()))
 |false=>some (.inr (.inr (.inl (a0,a1,()))))
def IK[Lk]:(Ud×Unit)→Option (Uh):=fun(a0,_)=>
 match Vo (a0.1,())with|none=>none|some (y0,_)=>match(!y0)with
 |true=>some (false,())
 |false=>match(ilt 400 (AO a0.2.1))with
 |true=>some (false,())
 |false=>match AGC (a0.1,())with|none=>none|some (y1,_)=>match AS Dz many (a0.1,a0.2.1,y1,a0.2.1,(AO a0.2.1),0,())with|none=>none|some r=>match r with
 |.inl (o2,_)=>some (o2,())
 |.inr r=>match r with
 |.inl (o3,o4,_)=>match P2 ((o3,(o4,())),0,())with|none=>none|some (y5,_)=>match fof (o3,y5,())with|none=>none|some (y6,y7,_)=>match(ieq y7 0)with
  |true=>some ((ieq (AO y6.2.1) (IntKind.wrap .i64 (o3-(AO y5)))),())
  |false=>some (false,())
 |.inr _=>none
def GC[Lk]:=fun v=>Lk.f (IK v)
theorem J1 v:GC v=IK v:=AN _
abbrev ADH:AE:=[(.tmp 0,.dat Ua)]
abbrev ADG:AE:=[(.tmp 0,.own 42 U5)]
abbrev ADF:List RS:=[.one]
abbrev AHp:AE:=[(.tmp 3,.own 42 U5),(.tmp 10,.dat Up),(.tmp 11,.di),(.tmp 12,.di)]
abbrev AHo:As:=[(.exit 0,[(.tmp 3,.own 42 U5)])]
def GD[Lk]:(List U3×List U1×Int×Int×Unit)→Option ((List U3×List U1×Int×Int×Unit)⊕V1⊕Unit):=fun(a0,a1,a2,a3,_)=>
 match(ilt a3 a2)with
 |true=>match idx a1 a3 with|none=>none|some x0=>match(fits ((AO a0)+(AO ([(x0.1,(x0.2.1,()))]:List U3))))with
  |true=>some (.inl ((A1 a0 ([(x0.1,(x0.2.1,()))]:List U3)),a1,a2,(IntKind.wrap .i64 (a3+1)),()))
  |false=>none
 |false=>some (.inr (.inl (a0,())))
def Rq[Lk]:(Ud×Unit)→Option (V1):=fun(a0,_)=>
 match GC ((a0.1,(a0.2.1,())),())with|none=>none|some (y0,_)=>match(!y0)with
 |true=>some (([]:List U3),())
 |false=>match AS GD many (([]:List U3),a0.2.1,(AO a0.2.1),0,())with|none=>none|some r=>match r with
 |.inl (o1,_)=>some (o1,())
 |.inr _=>none
def ADJ[Lk]:=fun v=>Lk.f (Rq v)
theorem AHq v:ADJ v=Rq v:=AN _
abbrev NP:AE:=[(.tmp 0,.di),(.tmp 1,.dat Uq)]
abbrev NO:AE:=[(.tmp 0,.own 3 U0)]
abbrev NN:List RS:=[.one]
abbrev Sd:AE:=[(.tmp 0,.di),(.tmp 1,.dat Uq),(.tmp 5,.own 3 U0),(.tmp 7,.dat .bool),(.tmp 8,.di)]
abbrev Sa:As:=[(.exit 4,[(.tmp 0,.di),(.tmp 1,.dat Uq),(.tmp 5,.own 3 U0),(.tmp 7,.dat .bool)])]
def DA[Lk]:(Int×List U3×List Int×Bool×Int×Unit)→Option ((Int×List U3×List Int×Bool×Int×Unit)⊕(Int×List U3×List Int×Bool×Unit)⊕Unit):=fun(a0,a1,a2,a3,a4,_)=>
 match(ilt a4 (AO a1))with
 |true=>match idx a1 a4 with|none=>none|some x0=>match idx a1 a4 with|none=>none|some x1=>match(ilt x0.1 0)with
  |true=>some (.inl (a0,a1,a2,a3,(IntKind.wrap .i64 (a4+1)),()))
  |false=>match(ilt x1.2.1 0)with
  |true=>some (.inl (a0,a1,a2,a3,(IntKind.wrap .i64 (a4+1)),()))
  |false=>match(ile a0 x0.1)with
  |true=>some (.inl (a0,a1,a2,a3,(IntKind.wrap .i64 (a4+1)),()))
  |false=>match(ile a0 x1.2.1)with
  |true=>some (.inl (a0,a1,a2,a3,(IntKind.wrap .i64 (a4+1)),()))
  |false=>match idx a2 x0.1 with|none=>none|some x2=>match idx a2 x1.2.1 with|none=>none|some x3=>match(ieq (AP a2 (AF x0.1) 0) (AP a2 (AF x1.2.1) 0))with
  |true=>some (.inl (a0,a1,a2,a3,(IntKind.wrap .i64 (a4+1)),()))
  |false=>match idx a2 x0.1 with|none=>none|some x4=>match idx a2 x1.2.1 with|none=>none|some x5=>match idx a2 x0.1 with|none=>none|some x6=>match idx (An a2 (AF x0.1) (B1 (AP a2 (AF x0.1) 0) (AP a2 (AF x1.2.1) 0))) x1.2.1 with|none=>none|some x7=>some (.inl (a0,a1,(An (An a2 (AF x0.1) (B1 (AP a2 (AF x0.1) 0) (AP a2 (AF x1.2.1) 0))) (AF x1.2.1) (B1 (AP a2 (AF x0.1) 0) (AP a2 (AF x1.2.1) 0))),true,(IntKind.wrap .i64 (a4+1)),()))
 |false=>some (.inr (.inl (a0,a1,a2,a3,())))
abbrev Se:AE:=[(.tmp 0,.di),(.tmp 1,.dat Uq),(.tmp 5,.own 3 U0),(.tmp 7,.dat .bool)]
abbrev Sb:As:=[(.exit 2,[(.tmp 5,.own 3 U0)])]
def D5[Lk]:(Int×List U3×List Int×Bool×Unit)→Option ((Int×List U3×List Int×Bool×Unit)⊕Uc⊕Unit):=fun(a0,a1,a2,a3,_)=>
 match a3 with
 |true=>match AS DA many (a0,a1,a2,false,0,())with|none=>none|some r=>match r with
  |.inl (o0,o1,o2,o3,_)=>some (.inl (o0,o1,o2,o3,()))
  |.inr _=>none
 |false=>some (.inr (.inl (a2,())))
abbrev Sf:AE:=[(.tmp 0,.di),(.tmp 1,.dat Uq),(.tmp 5,.own 3 U0),(.tmp 6,.di)]
abbrev Sc:As:=[(.exit 0,[(.tmp 0,.di),(.tmp 1,.dat Uq),(.tmp 5,.own 3 U0)])]
def DB[Lk]:(Int×List U3×List Int×Int×Unit)→Option ((Int×List U3×List Int×Int×Unit)⊕(Int×List U3×List Int×Unit)⊕Unit):=fun(a0,a1,a2,a3,_)=>
 match(ilt a3 a0)with
 |true=>match(fits ((AO a2)+(AO ([a3]:List (Int)))))with
  |true=>some (.inl (a0,a1,(A1 a2 ([a3]:List (Int))),(IntKind.wrap .i64 (a3+1)),()))
  |false=>none
 |false=>some (.inr (.inl (a0,a1,a2,())))
def JQ[Lk]:(Int×List U3×Unit)→Option (Uc):=fun(a0,a1,_)=>
 match AS DB many (a0,a1,([]:List (Int)),0,())with|none=>none|some r=>match r with
 |.inl (o0,o1,o2,_)=>match AS D5 many (o0,o1,o2,true,())with|none=>none|some r=>match r with
  |.inl (o3,_)=>some (o3,())
  |.inr _=>none
 |.inr _=>none
def DO[Lk]:=fun v=>Lk.f (JQ v)
theorem Sg v:DO v=JQ v:=AN _
abbrev AI9:AE:=[(.tmp 0,.di)]
abbrev AI8:AE:=[(.tmp 0,.di)]
abbrev AI7:List RS:=[.one]
abbrev AN6:AE:=[(.tmp 3,.di),(.tmp 4,.di)]
abbrev AN5:As:=[(.exit 0,[(.tmp 3,.di)])]
def AAL[Lk]:U3→Option (U3⊕U9⊕Unit):=fun(a0,a1,_)=>
 match(ilt 0 a1)with
 |true=>match quo? .i64 a1 2 with|none=>none|some x0=>some (.inl ((IntKind.wrap .i64 (a0+1)),x0,()))
 |false=>some (.inr (.inl (a0,())))
def AJB[Lk]:U9→Option (U9):=fun(a0,_)=>
 match(ilt a0 1)with
 |true=>some (0,())
 |false=>match(ilt 64 a0)with
 |true=>some (0,())
 |false=>match AS AAL many (0,(IntKind.wrap .i64 (a0-1)),())with|none=>none|some r=>match r with
 |.inl (o0,_)=>some (o0,())
 |.inr _=>none
def Ln[Lk]:=fun v=>Lk.f (AJB v)
theorem Adq v:Ln v=AJB v:=AN _
abbrev Tv:AE:=[(.tmp 0,.dat Ua)]
abbrev Tu:AE:=[(.tmp 0,.dat .bool)]
abbrev Tt:List RS:=[.one]
abbrev AA3:AE:=[(.tmp 1,.box 2),(.cell 0 0,.di),(.cell 0 1,.dat Up),(.tmp 3,.own 42 U5),(.tmp 6,.own 3 U0),(.tmp 7,.di),(.tmp 8,.di)]
abbrev AA1:As:=[(.exit 2,[(.tmp 1,.box 2),(.cell 0 0,.di),(.cell 0 1,.dat Up),(.tmp 3,.own 42 U5),(.tmp 7,.di)])]
def Dd[Lk]:(Int×List U1×List U3×List Int×Int×Int×Unit)→Option ((Int×List U1×List U3×List Int×Int×Int×Unit)⊕V3⊕Unit):=fun(a0,a1,a2,a3,a4,a5,_)=>
 match(ilt a5 a0)with
 |true=>match idx a3 a5 with|none=>none|some x0=>match(ieq (AP a3 (AF a5) 0) a5)with
  |true=>some (.inl (a0,a1,a2,a3,(IntKind.wrap .i64 (a4+1)),(IntKind.wrap .i64 (a5+1)),()))
  |false=>some (.inl (a0,a1,a2,a3,a4,(IntKind.wrap .i64 (a5+1)),()))
 |false=>some (.inr (.inl (a0,a1,a2,a4,())))
abbrev AA4:AE:=[(.tmp 1,.box 2),(.cell 0 0,.di),(.cell 0 1,.dat Up),(.tmp 3,.own 42 U5),(.tmp 4,.di)]
abbrev AA2:As:=[(.ret,[(.tmp 2,.dat .bool)]),(.exit 0,[(.tmp 1,.box 2),(.cell 0 0,.di),(.cell 0 1,.dat Up),(.tmp 3,.own 42 U5)])]
def C2[Lk]:V3→Option (V3⊕Uh⊕(Int×List U1×List U3×Unit)⊕Unit):=fun(a0,a1,a2,a3,_)=>
 match(ilt a3 (AO a1))with
 |true=>match idx a1 a3 with|none=>none|some x0=>match(ilt x0.1 0)with
  |true=>some (.inr (.inl (false,())))
  |false=>match(ile x0.2.1 x0.1)with
  |true=>some (.inr (.inl (false,())))
  |false=>match(ile a0 x0.2.1)with
  |true=>some (.inr (.inl (false,())))
  |false=>match(ilt x0.2.2.1 0)with
  |true=>some (.inr (.inl (false,())))
  |false=>match Ln (a0,())with|none=>none|some (y1,_)=>match(ilt y1 x0.2.2.1)with
  |true=>some (.inr (.inl (false,())))
  |false=>match(ilt 0 a3)with
  |true=>match idx a1 (IntKind.wrap .i64 (a3-1))with|none=>none|some x2=>match(ilt x0.1 x2.1)with
   |true=>some (.inr (.inl (false,())))
   |false=>match idx a1 (IntKind.wrap .i64 (a3-1))with|none=>none|some x3=>match(ieq x3.1 x0.1)with
   |true=>match idx a1 (IntKind.wrap .i64 (a3-1))with|none=>none|some x4=>match(ile x0.2.1 x4.2.1)with
    |true=>some (.inr (.inl (false,())))
    |false=>match x0.2.2.2.1 with
    |true=>match(fits ((AO a2)+(AO ([(x0.1,(x0.2.1,()))]:List U3))))with
     |true=>some (.inl (a0,a1,(A1 a2 ([(x0.1,(x0.2.1,()))]:List U3)),(IntKind.wrap .i64 (a3+1)),()))
     |false=>none
    |false=>some (.inl (a0,a1,a2,(IntKind.wrap .i64 (a3+1)),()))
   |false=>match x0.2.2.2.1 with
   |true=>match(fits ((AO a2)+(AO ([(x0.1,(x0.2.1,()))]:List U3))))with
    |true=>some (.inl (a0,a1,(A1 a2 ([(x0.1,(x0.2.1,()))]:List U3)),(IntKind.wrap .i64 (a3+1)),()))
    |false=>none
   |false=>some (.inl (a0,a1,a2,(IntKind.wrap .i64 (a3+1)),()))
  |false=>match x0.2.2.2.1 with
  |true=>match(fits ((AO a2)+(AO ([(x0.1,(x0.2.1,()))]:List U3))))with
   |true=>some (.inl (a0,a1,(A1 a2 ([(x0.1,(x0.2.1,()))]:List U3)),(IntKind.wrap .i64 (a3+1)),()))
   |false=>none
  |false=>some (.inl (a0,a1,a2,(IntKind.wrap .i64 (a3+1)),()))
 |false=>some (.inr (.inr (.inl (a0,a1,a2,()))))
def E1[Lk]:(Ud×Unit)→Option (Uh):=fun(a0,_)=>
 match(ilt a0.1 1)with
 |true=>some (false,())
 |false=>match(ilt 64 a0.1)with
 |true=>some (false,())
 |false=>match(ilt 400 (AO a0.2.1))with
 |true=>some (false,())
 |false=>match AS C2 many (a0.1,a0.2.1,([]:List U3),0,())with|none=>none|some r=>match r with
 |.inl (o0,_)=>some (o0,())
 |.inr r=>match r with
 |.inl (o1,o2,o3,_)=>match DO (o1,o3,())with|none=>none|some (y4,_)=>match AS Dd many (o1,o2,o3,y4,0,0,())with|none=>none|some r=>match r with
  |.inl (o5,o6,o7,o8,_)=>some ((ieq o8 (IntKind.wrap .i64 (o5-(AO o7)))),())
  |.inr _=>none
 |.inr _=>none
def B5[Lk]:=fun v=>Lk.f (E1 v)
theorem Fy v:B5 v=E1 v:=AN _
abbrev WV:AE:=[(.tmp 0,.dat Ua)]
abbrev WU:AE:=[(.tmp 0,.own 42 U5)]
abbrev WT:List RS:=[.one]
abbrev ADy:AE:=[(.tmp 1,.box 2),(.cell 0 0,.di),(.cell 0 1,.dat Up),(.tmp 3,.own 42 U5),(.tmp 4,.di)]
abbrev ADx:As:=[(.exit 0,[(.tmp 3,.own 42 U5)])]
def Em[Lk]:V3→Option (V3⊕V1⊕Unit):=fun(a0,a1,a2,a3,_)=>
 match(ilt a3 (AO a1))with
 |true=>match idx a1 a3 with|none=>none|some x0=>match idx a1 a3 with|none=>none|some x1=>match(fits ((AO a2)+(AO ([(x0.1,(x1.2.1,()))]:List U3))))with
  |true=>some (.inl (a0,a1,(A1 a2 ([(x0.1,(x1.2.1,()))]:List U3)),(IntKind.wrap .i64 (a3+1)),()))
  |false=>none
 |false=>some (.inr (.inl (a2,())))
def OW[Lk]:(Ud×Unit)→Option (V1):=fun(a0,_)=>
 match B5 ((a0.1,(a0.2.1,())),())with|none=>none|some (y0,_)=>match(!y0)with
 |true=>some (([]:List U3),())
 |false=>match AS Em many (a0.1,a0.2.1,([]:List U3),0,())with|none=>none|some r=>match r with
 |.inl (o1,_)=>some (o1,())
 |.inr _=>none
def LF[Lk]:=fun v=>Lk.f (OW v)
theorem ADz v:LF v=OW v:=AN _
abbrev AWX:AE:=[(.tmp 0,.di),(.tmp 1,.di)]
abbrev AWW:AE:=[(.tmp 0,.dat .bool)]
abbrev AWV:List RS:=[.one]
def ALm[Lk]:U3→Option (Uh):=fun(a0,a1,_)=>
 match(ile 1 a0)with
 |true=>match(ile a0 64)with
  |true=>match(ile 0 a1)with
   |true=>some ((ilt a1 a0),())
   |false=>some (false,())
  |false=>some (false,())
 |false=>some (false,())
def AGK[Lk]:=fun v=>Lk.f (ALm v)
theorem AY4 v:AGK v=ALm v:=AN _
abbrev Te:AE:=[(.tmp 0,.di),(.tmp 1,.di)]
abbrev Td:AE:=[(.tmp 0,.di),(.tmp 1,.di),(.tmp 2,.dat .bool),(.tmp 3,.dat .bool)]
abbrev Tc:List RS:=[.one,.one,.one,.one]
def Nq[Lk]:U3→Option ((Int×Int×Bool×Bool×Unit)):=fun(a0,a1,_)=>
 match AGK (a0,a1,())with|none=>none|some (y0,_)=>match y0 with
 |true=>some (a1,0,false,true,())
 |false=>match(ilt a0 1)with
 |true=>some (0,0,false,false,())
 |false=>match(ilt 64 a0)with
 |true=>some (0,0,false,false,())
 |false=>match(ilt a1 a0)with
 |true=>some (0,0,false,false,())
 |false=>match(ile (IntKind.wrap .i64 (a0+(IntKind.wrap .i64 (a0*a0)))) a1)with
 |true=>some (0,0,false,false,())
 |false=>match quo? .i64 (IntKind.wrap .i64 (a1-a0)) a0 with|none=>none|some x1=>match rem? (IntKind.wrap .i64 (a1-a0)) a0 with|none=>none|some x2=>match(ieq x1 x2)with
 |true=>some (0,0,false,false,())
 |false=>some (x1,x2,true,true,())
def Nr[Lk]:=fun v=>Lk.f (Nq v)
theorem AAM v:Nr v=Nq v:=AN _
abbrev AM7:AE:=[(.tmp 0,.di),(.tmp 1,.di),(.tmp 2,.di)]
abbrev AM6:AE:=[(.tmp 0,.di)]
abbrev AM5:List RS:=[.one]
def Zg[Lk]:(Int×Int×Int×Unit)→Option (U9):=fun(a0,a1,a2,_)=>
 match AGK (a0,a1,())with|none=>none|some (y0,_)=>match(!y0)with
 |true=>some ((-1:Int),())
 |false=>match AGK (a0,a2,())with|none=>none|some (y1,_)=>match(!y1)with
 |true=>some ((-1:Int),())
 |false=>match(ieq a1 a2)with
 |true=>some ((-1:Int),())
 |false=>some ((IntKind.wrap .i64 ((IntKind.wrap .i64 (a0+(IntKind.wrap .i64 (a1*a0))))+a2)),())
def AEg[Lk]:=fun v=>Lk.f (Zg v)
theorem AST v:AEg v=Zg v:=AN _
abbrev ACn:AE:=[(.tmp 0,.di)]
abbrev ACm:AE:=[(.tmp 0,.di),(.tmp 1,.own 55 U6),(.tmp 2,.di)]
abbrev ACl:List RS:=[.agg 2,.one]
abbrev AHg:AE:=[(.tmp 0,.di),(.tmp 2,.box 2),(.cell 0 0,.di),(.cell 0 1,.nil U6),(.tmp 4,.box 2),(.cell 1 0,.di),(.cell 1 1,.own 55 U6),(.tmp 5,.di)]
abbrev AHf:As:=[(.exit 0,[(.tmp 2,.box 2),(.cell 0 0,.di),(.cell 0 1,.nil U6),(.tmp 4,.box 2),(.cell 1 0,.di),(.cell 1 1,.own 55 U6)])]
def GB[Lk]:(Int×Int×Int×List U4×Int×Unit)→Option ((Int×Int×Int×List U4×Int×Unit)⊕(Int×Int×List U4×Unit)⊕Unit):=fun(a0,a1,a2,a3,a4,_)=>
 match(ilt a4 a0)with
 |true=>match(fits ((AO a3)+(AO ([([a4]:List (Int))]:List U4))))with
  |true=>some (.inl (a0,a1,a2,(A1 a3 ([([a4]:List (Int))]:List U4)),(IntKind.wrap .i64 (a4+1)),()))
  |false=>none
 |false=>some (.inr (.inl (a1,a2,a3,())))
def Rn[Lk]:U9→Option (V2):=fun(a0,_)=>
 match(ilt a0 1)with
 |true=>some (0,([]:List U4),1,())
 |false=>match(ilt 64 a0)with
 |true=>some (0,([]:List U4),1,())
 |false=>match AS GB many (a0,0,a0,([]:List U4),0,())with|none=>none|some r=>match r with
 |.inl (o0,o1,o2,_)=>some (o1,o2,0,())
 |.inr _=>none
def P1[Lk]:=fun v=>Lk.f (Rn v)
theorem AHh v:P1 v=Rn v:=AN _
abbrev Pf:AE:=[(.tmp 0,.di),(.tmp 1,.di),(.tmp 2,.di)]
abbrev Pe:AE:=[(.tmp 0,.dat .bool)]
abbrev Pd:List RS:=[.one]
def KX[Lk]:(Int×Int×Int×Unit)→Option (Uh):=fun(a0,a1,a2,_)=>
 match Nr (a0,a1,())with|none=>none|some (y0,y1,y2,y3,_)=>match y3 with
 |true=>match(!y2)with
  |true=>match(ieq y0 a2)with
   |true=>some (true,())
   |false=>match y2 with
   |true=>some ((ieq y1 a2),())
   |false=>some (false,())
  |false=>match y2 with
  |true=>some ((ieq y1 a2),())
  |false=>some (false,())
 |false=>some (false,())
def MK[Lk]:=fun v=>Lk.f (KX v)
theorem XQ v:MK v=KX v:=AN _
abbrev AAG:AE:=[(.tmp 0,.di),(.tmp 1,.dat U6)]
abbrev AAF:AE:=[(.tmp 0,.dat .bool)]
abbrev AAE:List RS:=[.one]
abbrev AG1:AE:=[(.tmp 0,.di),(.tmp 1,.own 3 U0),(.tmp 6,.di),(.tmp 14,.own 3 U0),(.tmp 15,.di),(.tmp 27,.dat .bool),(.tmp 28,.dat .bool),(.tmp 64,.dat .bool),(.tmp 67,.dat .bool),(.tmp 70,.di),(.tmp 71,.di),(.tmp 72,.dat .bool),(.tmp 75,.di),(.tmp 76,.di),(.tmp 77,.di),(.tmp 78,.di),(.tmp 79,.di),(.tmp 80,.dat .bool),(.tmp 83,.di),(.tmp 84,.own' 0),(.tmp 85,.di),(.tmp 86,.own' 0),(.tmp 87,.di),(.tmp 88,.di),(.tmp 89,.di),(.tmp 90,.own' 0),(.tmp 91,.di),(.tmp 92,.di),(.tmp 94,.di),(.tmp 95,.di),(.tmp 96,.dat .bool)]
abbrev AGy:As:=[(.exit 4,[(.tmp 0,.di),(.tmp 6,.di),(.tmp 14,.own 3 U0),(.tmp 27,.dat .bool),(.tmp 28,.dat .bool),(.tmp 64,.dat .bool),(.tmp 67,.dat .bool),(.tmp 70,.di),(.tmp 71,.di),(.tmp 72,.dat .bool),(.tmp 75,.di),(.tmp 76,.di),(.tmp 77,.di),(.tmp 78,.di),(.tmp 79,.di),(.tmp 80,.dat .bool),(.tmp 83,.di),(.tmp 84,.own 3 U0),(.tmp 85,.di),(.tmp 86,.own' 1),(.tmp 87,.di),(.tmp 88,.di),(.tmp 89,.di),(.tmp 90,.own' 1),(.tmp 91,.di),(.tmp 92,.di),(.tmp 94,.di),(.tmp 95,.di),(.tmp 96,.dat .bool)])]
def Fw[Lk]:Uy→Option (Uy⊕(Int×Int×List Int×Bool×Bool×Bool×Bool×Int×Int×Bool×Int×Int×Int×Int×Int×Bool×Int×List Int×Int×Int×Int×Int×Int×Int×Int×Int×Bool×Unit)⊕Unit):=fun(a0,a1,a2,a3,a4,a5,a6,a7,a8,a9,a10,a11,a12,a13,a14,a15,a16,a17,a18,a19,a20,a21,a22,a23,a24,a25,a26,a27,_)=>
 match(ilt a4 (AO a1))with
 |true=>match rem? (IntKind.wrap .i64 (a2+a4)) (AO a1)with|none=>none|some x0=>match idx a1 x0 with|none=>none|some x1=>match(fits ((AO a3)+(AO ([(AP a1 (AF x0) 0)]:List (Int)))))with
  |true=>some (.inl (a0,a1,a2,(A1 a3 ([(AP a1 (AF x0) 0)]:List (Int))),(IntKind.wrap .i64 (a4+1)),a5,a6,a7,a8,a9,a10,a11,a12,a13,a14,a15,a16,a17,a18,a19,a20,a21,a22,a23,a24,a25,a26,a27,()))
  |false=>none
 |false=>some (.inr (.inl (a0,a2,a3,a5,a6,a7,a8,a9,a10,a11,a12,a13,a14,a15,a16,a17,a18,a1,a19,a20,a21,a22,a23,a24,a25,a26,a27,())))
abbrev AG2:AE:=[(.tmp 0,.di),(.tmp 1,.own 3 U0),(.tmp 5,.dat .bool),(.tmp 6,.di)]
abbrev AGz:As:=[(.exit 2,[(.tmp 0,.di),(.tmp 1,.own 3 U0),(.tmp 5,.dat .bool)])]
def Cq[Lk]:(Int×List Int×Bool×Int×Unit)→Option ((Int×List Int×Bool×Int×Unit)⊕(Int×List Int×Bool×Unit)⊕Unit):=fun(a0,a1,a2,a3,_)=>
 match(ilt a3 (AO a1))with
 |true=>match(!a2)with
  |true=>match idx a1 a3 with|none=>none|some x0=>match rem? (IntKind.wrap .i64 (a3+1)) (AO a1)with|none=>none|some x1=>match idx a1 x1 with|none=>none|some x2=>match rem? (IntKind.wrap .i64 (a3+2)) (AO a1)with|none=>none|some x3=>match idx a1 x3 with|none=>none|some x4=>match Nr (a0,(AP a1 (AF a3) 0),())with|none=>none|some (y5,y6,y7,y8,_)=>match(ile 4 (AO a1))with
   |true=>match y8 with
    |true=>match y7 with
     |true=>match(ieq (AP a1 (AF x1) 0) y6)with
      |true=>match AEg (a0,y6,y5,())with|none=>none|some (y9,_)=>match(ieq (AP a1 (AF x3) 0) y9)with
       |true=>match rem? (IntKind.wrap .i64 ((IntKind.wrap .i64 (a3+(AO a1)))-1)) (AO a1)with|none=>none|some x10=>match idx a1 x10 with|none=>none|some x11=>match MK (a0,(AP a1 (AF x10) 0),y5,())with|none=>none|some (y12,_)=>match y12 with
        |true=>match AS Fw many (a0,a1,a3,([]:List (Int)),3,a2,(!a2),y8,y7,(AP a1 (AF x1) 0),y6,(ieq (AP a1 (AF x1) 0) y6),(AP a1 (AF x3) 0),a0,y6,y5,y9,(ieq (AP a1 (AF x3) 0) y9),a0,a3,(AO a1),(IntKind.wrap .i64 (a3+(AO a1))),(IntKind.wrap .i64 ((IntKind.wrap .i64 (a3+(AO a1)))-1)),(AO a1),x10,(AP a1 (AF x10) 0),y5,y12,())with|none=>none|some r=>match r with
         |.inl (o13,o14,o15,o16,o17,o18,o19,o20,o21,o22,o23,o24,o25,o26,o27,o28,o29,o30,o31,o32,o33,o34,o35,o36,o37,o38,o39,_)=>some (.inl (o13,o15,true,(IntKind.wrap .i64 (o14+1)),()))
         |.inr _=>none
        |false=>some (.inl (a0,a1,a2,(IntKind.wrap .i64 (a3+1)),()))
       |false=>some (.inl (a0,a1,a2,(IntKind.wrap .i64 (a3+1)),()))
      |false=>some (.inl (a0,a1,a2,(IntKind.wrap .i64 (a3+1)),()))
     |false=>some (.inl (a0,a1,a2,(IntKind.wrap .i64 (a3+1)),()))
    |false=>some (.inl (a0,a1,a2,(IntKind.wrap .i64 (a3+1)),()))
   |false=>some (.inl (a0,a1,a2,(IntKind.wrap .i64 (a3+1)),()))
  |false=>some (.inr (.inl (a0,a1,a2,())))
 |false=>some (.inr (.inl (a0,a1,a2,())))
abbrev AG3:AE:=[(.tmp 0,.di),(.tmp 1,.own 3 U0)]
abbrev AG0:As:=[(.ret,[(.tmp 4,.dat .bool)]),(.exit 0,[(.tmp 0,.di),(.tmp 1,.own 3 U0)])]
def Hk[Lk]:Vk→Option (Vk⊕Uh⊕Vk⊕Unit):=fun(a0,a1,_)=>
 match(ilt 1 (AO a1))with
 |true=>match AS Cq many (a0,a1,false,0,())with|none=>none|some r=>match r with
  |.inl (o0,o1,o2,_)=>match(!o2)with
   |true=>some (.inr (.inl (false,())))
   |false=>some (.inl (o0,o1,()))
  |.inr _=>none
 |false=>some (.inr (.inr (.inl (a0,a1,()))))
def Q9[Lk]:Vk→Option (Uh):=fun(a0,a1,_)=>
 match(fits ((AO ([]:List (Int)))+(AO a1)))with
 |true=>match AS Hk many (a0,(A1 ([]:List (Int)) a1),())with|none=>none|some r=>match r with
  |.inl (o0,_)=>some (o0,())
  |.inr r=>match r with
  |.inl (o1,o2,_)=>match(ieq (AO o2) 1)with
   |true=>match idx o2 0 with|none=>none|some x3=>match AGK (o1,(AP o2 0 0),())with|none=>none|some (y4,_)=>some (y4,())
   |false=>some (false,())
  |.inr _=>none
 |false=>none
def AAH[Lk]:=fun v=>Lk.f (Q9 v)
theorem AG4 v:AAH v=Q9 v:=AN _
abbrev UN:AE:=[(.tmp 0,.dat U6),(.tmp 1,.di)]
abbrev UM:AE:=[(.tmp 0,.di)]
abbrev UL:List RS:=[.one]
abbrev ABj:AE:=[(.tmp 0,.dat U6),(.tmp 1,.di),(.tmp 5,.di)]
abbrev ABi:As:=[(.ret,[(.tmp 4,.di)]),(.exit 0,[])]
def Ei[Lk]:Ue→Option (Ue⊕U9⊕(Unit)⊕Unit):=fun(a0,a1,a2,_)=>
 match(ilt a2 (AO a0))with
 |true=>match idx a0 a2 with|none=>none|some x0=>match(ieq x0 a1)with
  |true=>some (.inr (.inl (a2,())))
  |false=>some (.inl (a0,a1,(IntKind.wrap .i64 (a2+1)),()))
 |false=>some (.inr (.inr (.inl ())))
def N6[Lk]:Us→Option (U9):=fun(a0,a1,_)=>
 match AS Ei many (a0,a1,0,())with|none=>none|some r=>match r with
 |.inl (o0,_)=>some (o0,())
 |.inr r=>match r with
 |.inl _=>some ((-1:Int),())
 |.inr _=>none
def I6[Lk]:=fun v=>Lk.f (N6 v)
theorem ABk v:I6 v=N6 v:=AN _
abbrev T3:AE:=[(.tmp 0,.dat U6)]
abbrev T2:AE:=[(.tmp 0,.dat .bool)]
abbrev T1:List RS:=[.one]
abbrev ABB:AE:=[(.tmp 0,.dat U6),(.tmp 3,.di)]
abbrev ABA:As:=[(.ret,[(.tmp 2,.dat .bool)]),(.exit 0,[])]
def De[Lk]:Us→Option (Us⊕Uh⊕(Unit)⊕Unit):=fun(a0,a1,_)=>
 match(ilt a1 (AO a0))with
 |true=>match idx a0 a1 with|none=>none|some x0=>match(ilt x0 0)with
  |true=>some (.inr (.inl (false,())))
  |false=>match idx a0 a1 with|none=>none|some x1=>match(ilt 10000 x1)with
  |true=>some (.inr (.inl (false,())))
  |false=>match Bv a0 0 a1 with|none=>none|some x2=>match idx a0 a1 with|none=>none|some x3=>match I6 (x2,x3,())with|none=>none|some (y4,_)=>match(ile 0 y4)with
  |true=>some (.inr (.inl (false,())))
  |false=>some (.inl (a0,(IntKind.wrap .i64 (a1+1)),()))
 |false=>some (.inr (.inr (.inl ())))
def Nz[Lk]:Uc→Option (Uh):=fun(a0,_)=>
 match(ilt 1000 (AO a0))with
 |true=>some (false,())
 |false=>match AS De many (a0,0,())with|none=>none|some r=>match r with
 |.inl (o0,_)=>some (o0,())
 |.inr r=>match r with
 |.inl _=>some (true,())
 |.inr _=>none
def KZ[Lk]:=fun v=>Lk.f (Nz v)
theorem ABC v:KZ v=Nz v:=AN _
abbrev ADk:AE:=[(.tmp 0,.dat U6),(.tmp 1,.di)]
abbrev ADj:AE:=[(.tmp 0,.own 3 U0),(.tmp 1,.dat .bool)]
abbrev ADi:List RS:=[.one,.one]
def SJ[Lk]:Us→Option (Vj):=fun(a0,a1,_)=>
 match I6 (a0,a1,())with|none=>none|some (y0,_)=>match KZ (a0,())with|none=>none|some (y1,_)=>match(!y1)with
 |true=>some (([]:List (Int)),false,())
 |false=>match(ilt y0 0)with
 |true=>some (([]:List (Int)),false,())
 |false=>match Bv a0 y0 (AO a0)with|none=>none|some x2=>match(fits ((AO ([]:List (Int)))+(AO x2)))with
 |true=>match Bv a0 0 y0 with|none=>none|some x3=>match(fits ((AO (A1 ([]:List (Int)) x2))+(AO x3)))with
  |true=>some ((A1 (A1 ([]:List (Int)) x2) x3),true,())
  |false=>none
 |false=>none
def QN[Lk]:=fun v=>Lk.f (SJ v)
theorem AIA v:QN v=SJ v:=AN _
abbrev UE:AE:=[(.tmp 0,.dat U6)]
abbrev UD:AE:=[(.tmp 0,.own 3 U0)]
abbrev UC:List RS:=[.one]
abbrev ABZ:AE:=[(.tmp 0,.dat U6),(.tmp 3,.di),(.tmp 4,.di)]
abbrev ABY:As:=[(.exit 0,[(.tmp 0,.dat U6),(.tmp 3,.di)])]
def Eg[Lk]:Ue→Option (Ue⊕Us⊕Unit):=fun(a0,a1,a2,_)=>
 match(ilt a2 (AO a0))with
 |true=>match idx a0 a2 with|none=>none|some x0=>some (.inl (a0,(B1 a1 x0),(IntKind.wrap .i64 (a2+1)),()))
 |false=>some (.inr (.inl (a0,a1,())))
def N3[Lk]:Uc→Option (Uc):=fun(a0,_)=>
 match KZ (a0,())with|none=>none|some (y0,_)=>match(!y0)with
 |true=>some (([]:List (Int)),())
 |false=>match(ieq (AO a0) 0)with
 |true=>some (([]:List (Int)),())
 |false=>match idx a0 0 with|none=>none|some x1=>match AS Eg many (a0,x1,0,())with|none=>none|some r=>match r with
 |.inl (o2,o3,_)=>match QN (o2,o3,())with|none=>none|some (y4,y5,_)=>some (y4,())
 |.inr _=>none
def N4[Lk]:=fun v=>Lk.f (N3 v)
theorem ABa v:N4 v=N3 v:=AN _
abbrev Vs:AE:=[(.tmp 0,.dat Uk),(.tmp 1,.dat Uk)]
abbrev Vr:AE:=[(.tmp 0,.dat .bool)]
abbrev Vq:List RS:=[.one]
abbrev AC7:AE:=[(.tmp 0,.dat Uk),(.tmp 1,.dat Uk),(.tmp 5,.di)]
abbrev AC6:As:=[(.ret,[(.tmp 4,.dat .bool)]),(.exit 0,[])]
def Di[Lk]:(List U4×List U4×Int×Unit)→Option ((List U4×List U4×Int×Unit)⊕Uh⊕(Unit)⊕Unit):=fun(a0,a1,a2,_)=>
 match(ilt a2 (AO a0))with
 |true=>match idx a0 a2 with|none=>none|some x0=>match idx a1 a2 with|none=>none|some x1=>match WD (x0,x1,())with|none=>none|some (y2,_)=>match(!y2)with
  |true=>some (.inr (.inl (false,())))
  |false=>some (.inl (a0,a1,(IntKind.wrap .i64 (a2+1)),()))
 |false=>some (.inr (.inr (.inl ())))
def OQ[Lk]:(List U4×List U4×Unit)→Option (Uh):=fun(a0,a1,_)=>
 match(!(ieq (AO a0) (AO a1)))with
 |true=>some (false,())
 |false=>match AS Di many (a0,a1,0,())with|none=>none|some r=>match r with
 |.inl (o0,_)=>some (o0,())
 |.inr r=>match r with
 |.inl _=>some (true,())
 |.inr _=>none
def Rp[Lk]:=fun v=>Lk.f (OQ v)
theorem AC8 v:Rp v=OQ v:=AN _
abbrev Tz:AE:=[(.tmp 0,.dat Ub)]
abbrev Tx:AE:=[(.tmp 0,.dat .bool)]
abbrev Tw:List RS:=[.one]
abbrev AA7:AE:=[(.tmp 1,.box 2),(.cell 0 0,.di),(.cell 0 1,.dat Uk),(.tmp 3,.own 4 .bool),(.tmp 4,.di),(.tmp 5,.di),(.tmp 6,.di),(.tmp 7,.dat U6),(.tmp 8,.di),(.tmp 44,.dat U6),(.tmp 45,.di),(.tmp 46,.dat .bool),(.tmp 49,.ptr' 0 0),(.tmp 50,.di),(.tmp 51,.dat U6),(.tmp 52,.dat .bool),(.tmp 53,.dat .bool),(.tmp 56,.dat U6),(.tmp 57,.dat U6),(.tmp 58,.own 55 U6),(.tmp 59,.dat U6),(.tmp 60,.own 55 U6),(.tmp 61,.dat .bool),(.tmp 62,.dat .bool),(.tmp 65,.dat U6),(.tmp 67,.di),(.tmp 68,.di),(.tmp 69,.dat .bool)]
abbrev AA5:As:=[(.ret,[(.tmp 2,.dat .bool)]),(.exit 2,[(.tmp 1,.box 2),(.cell 0 0,.di),(.cell 0 1,.dat Uk),(.tmp 3,.own 4 .bool),(.tmp 4,.di),(.tmp 5,.di),(.tmp 6,.di),(.tmp 44,.dat U6),(.tmp 45,.di),(.tmp 46,.dat .bool),(.tmp 49,.ptr' 0 0),(.tmp 50,.di),(.tmp 51,.dat U6),(.tmp 52,.dat .bool),(.tmp 53,.dat .bool),(.tmp 56,.dat U6),(.tmp 57,.dat U6),(.tmp 58,.own 55 U6),(.tmp 59,.dat U6),(.tmp 60,.own 55 U6),(.tmp 61,.dat .bool),(.tmp 62,.dat .bool),(.tmp 65,.dat U6),(.tmp 67,.di),(.tmp 68,.di),(.tmp 69,.dat .bool)])]
def C3[Lk]:Uw→Option (Uw⊕Uh⊕(Int×List U4×List Bool×Int×Int×Int×List Int×Int×Bool×Int×List Int×Bool×Bool×List Int×List Int×List U4×List Int×List U4×Bool×Bool×List Int×Int×Int×Bool×Unit)⊕Unit):=fun(a0,a1,a2,a3,a4,a5,a6,a7,a8,a9,a10,a11,a12,a13,a14,a15,a16,a17,a18,a19,a20,a21,a22,a23,a24,a25,_)=>
 match(ilt a7 (AO a6))with
 |true=>match idx a6 a7 with|none=>none|some x0=>match(ilt x0 a0)with
  |true=>match idx a6 a7 with|none=>none|some x1=>match idx a2 x1 with|none=>none|some x2=>match(AP a2 (AF x1) false)with
   |true=>some (.inr (.inl (false,())))
   |false=>match idx a6 a7 with|none=>none|some x3=>match idx a2 x3 with|none=>none|some x4=>some (.inl (a0,a1,(An a2 (AF x3) true),a3,(IntKind.wrap .i64 (a4+1)),a5,a6,(IntKind.wrap .i64 (a7+1)),a8,a9,a10,a11,a12,a13,a14,a15,a16,a17,a18,a19,a20,a21,a22,a23,a24,a25,()))
  |false=>some (.inl (a0,a1,a2,a3,a4,a5,a6,(IntKind.wrap .i64 (a7+1)),a8,a9,a10,a11,a12,a13,a14,a15,a16,a17,a18,a19,a20,a21,a22,a23,a24,a25,()))
 |false=>some (.inr (.inr (.inl (a0,a1,a2,a3,a4,a5,a8,a9,a10,a11,a12,a13,a14,a15,a16,a17,a18,a19,a20,a21,a22,a23,a24,a25,()))))
abbrev AA8:AE:=[(.tmp 1,.box 2),(.cell 0 0,.di),(.cell 0 1,.dat Uk),(.tmp 3,.own 4 .bool),(.tmp 4,.di),(.tmp 5,.di),(.tmp 6,.di)]
abbrev AA6:As:=[(.ret,[(.tmp 2,.dat .bool)]),(.exit 0,[(.tmp 1,.box 2),(.cell 0 0,.di),(.cell 0 1,.dat Uk),(.tmp 5,.di)])]
def C4[Lk]:(Int×List U4×List Bool×Int×Int×Int×Unit)→Option ((Int×List U4×List Bool×Int×Int×Int×Unit)⊕Uh⊕V2⊕Unit):=fun(a0,a1,a2,a3,a4,a5,_)=>
 match(ilt a5 (AO a1))with
 |true=>match idx a1 a5 with|none=>none|some x0=>match KZ (x0,())with|none=>none|some (y1,_)=>match(!y1)with
  |true=>some (.inr (.inl (false,())))
  |false=>match(ieq (AO x0) 0)with
  |true=>some (.inr (.inl (false,())))
  |false=>match AAH (a0,x0,())with|none=>none|some (y2,_)=>match(!y2)with
  |true=>some (.inr (.inl (false,())))
  |false=>match N4 (x0,())with|none=>none|some (y3,_)=>match Rp (([y3]:List U4),([x0]:List U4),())with|none=>none|some (y4,_)=>match(!y4)with
  |true=>some (.inr (.inl (false,())))
  |false=>match idx x0 0 with|none=>none|some x5=>match(ile x5 a3)with
  |true=>some (.inr (.inl (false,())))
  |false=>match idx x0 0 with|none=>none|some x6=>match AS C3 many (a0,a1,a2,x6,a4,a5,x0,0,x0,(AO x0),(ieq (AO x0) 0),a0,x0,y2,(!y2),x0,y3,([y3]:List U4),x0,([x0]:List U4),y4,(!y4),x0,x5,a3,(ile x5 a3),())with|none=>none|some r=>match r with
  |.inl (o7,_)=>some (.inr (.inl (o7,())))
  |.inr r=>match r with
  |.inl (o8,o9,o10,o11,o12,o13,o14,o15,o16,o17,o18,o19,o20,o21,o22,o23,o24,o25,o26,o27,o28,o29,o30,o31,_)=>some (.inl (o8,o9,o10,o11,o12,(IntKind.wrap .i64 (o13+1)),()))
  |.inr _=>none
 |false=>some (.inr (.inr (.inl (a0,a1,a4,()))))
def Nx[Lk]:(Ui×Unit)→Option (Uh):=fun(a0,_)=>
 match(ilt a0.1 1)with
 |true=>some (false,())
 |false=>match(ilt 64 a0.1)with
 |true=>some (false,())
 |false=>match(ilt a0.1 (AO a0.2.1))with
 |true=>some (false,())
 |false=>match(Lx a0.1&&Lx a0.1&&ile a0.1 a0.1&&true)with
 |true=>match AS C4 many (a0.1,a0.2.1,(KE (AF a0.1) false),(-1:Int),(0:Int),(0:Int),())with|none=>none|some r=>match r with
  |.inl (o0,_)=>some (o0,())
  |.inr r=>match r with
  |.inl (o1,o2,o3,_)=>some ((ieq o3 o1),())
  |.inr _=>none
 |false=>none
def Ny[Lk]:=fun v=>Lk.f (Nx v)
theorem AA9 v:Ny v=Nx v:=AN _
abbrev UJ:AE:=[(.tmp 0,.dat Ub),(.tmp 1,.di)]
abbrev UI:AE:=[(.tmp 0,.di)]
abbrev UH:List RS:=[.one]
abbrev ABg:AE:=[(.tmp 1,.di),(.tmp 2,.box 2),(.cell 0 0,.di),(.cell 0 1,.dat Uk),(.tmp 5,.di)]
abbrev ABf:As:=[(.ret,[(.tmp 4,.di)]),(.exit 0,[])]
def Eh[Lk]:(Int×Int×List U4×Int×Unit)→Option ((Int×Int×List U4×Int×Unit)⊕U9⊕(Unit)⊕Unit):=fun(a0,a1,a2,a3,_)=>
 match(ilt a3 (AO a2))with
 |true=>match idx a2 a3 with|none=>none|some x0=>match I6 (x0,a0,())with|none=>none|some (y1,_)=>match(ile 0 y1)with
  |true=>some (.inr (.inl (a3,())))
  |false=>some (.inl (a0,a1,a2,(IntKind.wrap .i64 (a3+1)),()))
 |false=>some (.inr (.inr (.inl ())))
def N5[Lk]:Vf→Option (U9):=fun(a0,a1,_)=>
 match AS Eh many (a1,a0.1,a0.2.1,0,())with|none=>none|some r=>match r with
 |.inl (o0,_)=>some (o0,())
 |.inr r=>match r with
 |.inl _=>some ((-1:Int),())
 |.inr _=>none
def I5[Lk]:=fun v=>Lk.f (N5 v)
theorem ABh v:I5 v=N5 v:=AN _
abbrev AJ7:AE:=[(.tmp 0,.dat Uk),(.tmp 1,.dat U6)]
abbrev AJ6:AE:=[(.tmp 0,.own 55 U6)]
abbrev AJ5:List RS:=[.one]
abbrev AOz:AE:=[(.tmp 0,.dat Uk),(.tmp 1,.own 3 U0),(.tmp 5,.di)]
abbrev AOy:As:=[(.exit 0,[(.tmp 0,.dat Uk),(.tmp 1,.own 3 U0),(.tmp 5,.di)])]
def IB[Lk]:(List U4×List Int×Int×Unit)→Option ((List U4×List Int×Int×Unit)⊕(List U4×List Int×Int×Unit)⊕Unit):=fun(a0,a1,a2,_)=>
 match(ilt a2 (AO a0))with
 |true=>match idx a0 a2 with|none=>none|some x0=>match idx x0 0 with|none=>none|some x1=>match idx a1 0 with|none=>none|some x2=>match(ilt x1 (AP a1 0 0))with
  |true=>some (.inl (a0,a1,(IntKind.wrap .i64 (a2+1)),()))
  |false=>some (.inr (.inl (a0,a1,a2,())))
 |false=>some (.inr (.inl (a0,a1,a2,())))
def ZK[Lk]:(List U4×List Int×Unit)→Option (Uo):=fun(a0,a1,_)=>
 match N4 (a1,())with|none=>none|some (y0,_)=>match AS IB many (a0,y0,0,())with|none=>none|some r=>match r with
 |.inl (o1,o2,o3,_)=>match Bv o1 0 o3 with|none=>none|some x4=>match(fits ((AO ([]:List U4))+(AO x4)))with
  |true=>match(fits ((AO (A1 ([]:List U4) x4))+(AO ([o2]:List U4))))with
   |true=>match Bv o1 o3 (AO o1)with|none=>none|some x5=>match(fits ((AO (A1 (A1 ([]:List U4) x4) ([o2]:List U4)))+(AO x5)))with
    |true=>some ((A1 (A1 (A1 ([]:List U4) x4) ([o2]:List U4)) x5),())
    |false=>none
   |false=>none
  |false=>none
 |.inr _=>none
def AHP[Lk]:=fun v=>Lk.f (ZK v)
theorem AO0 v:AHP v=ZK v:=AN _
abbrev L9:AE:=[(.tmp 0,.dat Uk),(.tmp 1,.di)]
abbrev L8:AE:=[(.tmp 0,.own 55 U6)]
abbrev L7:List RS:=[.one]
def I3[Lk]:Vg→Option (Uo):=fun(a0,a1,_)=>
 match Bv a0 0 a1 with|none=>none|some x0=>match(fits ((AO ([]:List U4))+(AO x0)))with
 |true=>match Bv a0 (IntKind.wrap .i64 (a1+1)) (AO a0)with|none=>none|some x1=>match(fits ((AO (A1 ([]:List U4) x0))+(AO x1)))with
  |true=>some ((A1 (A1 ([]:List U4) x0) x1),())
  |false=>none
 |false=>none
def Ex[Lk]:=fun v=>Lk.f (I3 v)
theorem Qz v:Ex v=I3 v:=AN _
abbrev ADD:AE:=[(.tmp 0,.dat Ub),(.tmp 1,.di),(.tmp 2,.di)]
abbrev ADC:AE:=[(.tmp 0,.di),(.tmp 1,.dat Uk),(.tmp 2,.di)]
abbrev ADB:List RS:=[.agg 2,.one]
def IM[Lk]:(Ui×Int×Int×Unit)→Option (V2):=fun(a0,a1,a2,_)=>
 match Ny ((a0.1,(a0.2.1,())),())with|none=>none|some (y0,_)=>match(!y0)with
 |true=>some (a0.1,a0.2.1,1,())
 |false=>match AGK (a0.1,a1,())with|none=>none|some (y1,_)=>match(!y1)with
 |true=>some (a0.1,a0.2.1,10,())
 |false=>match AGK (a0.1,a2,())with|none=>none|some (y2,_)=>match(!y2)with
 |true=>some (a0.1,a0.2.1,10,())
 |false=>match I5 ((a0.1,(a0.2.1,())),a1,())with|none=>none|some (y3,_)=>match I5 ((a0.1,(a0.2.1,())),a2,())with|none=>none|some (y4,_)=>match(ieq y3 y4)with
 |true=>some (a0.1,a0.2.1,5,())
 |false=>match I5 ((a0.1,(a0.2.1,())),a1,())with|none=>none|some (y5,_)=>match I5 ((a0.1,(a0.2.1,())),a2,())with|none=>none|some (y6,_)=>match idx a0.2.1 y5 with|none=>none|some x7=>match QN (x7,a1,())with|none=>none|some (y8,y9,_)=>match idx a0.2.1 y6 with|none=>none|some x10=>match QN (x10,a2,())with|none=>none|some (y11,y12,_)=>match AEg (a0.1,a1,a2,())with|none=>none|some (y13,_)=>match(fits ((AO ([a1,y13]:List (Int)))+(AO y11)))with
 |true=>match AEg (a0.1,a2,a1,())with|none=>none|some (y14,_)=>match(fits ((AO (A1 ([a1,y13]:List (Int)) y11))+(AO ([y14]:List (Int)))))with
  |true=>match Bv y8 1 (AO y8)with|none=>none|some x15=>match(fits ((AO (A1 (A1 ([a1,y13]:List (Int)) y11) ([y14]:List (Int))))+(AO (Dp 1 (AF (AO x15)) y8))))with
   |true=>match Ex (a0.2.1,(imax y5 y6),())with|none=>none|some (y16,_)=>match Ex (y16,(B1 y5 y6),())with|none=>none|some (y17,_)=>match AHP (y17,(A1 (A1 (A1 ([a1,y13]:List (Int)) y11) ([y14]:List (Int))) (Dp 1 (AF (AO x15)) y8)),())with|none=>none|some (y18,_)=>some (a0.1,y18,0,())
   |false=>none
  |false=>none
 |false=>none
def Mu[Lk]:=fun v=>Lk.f (IM v)
theorem J2 v:Mu v=IM v:=AN _
abbrev AAn:AE:=[(.tmp 0,.dat Uq),(.tmp 1,.dat Uq)]
abbrev AAm:AE:=[(.tmp 0,.dat .bool)]
abbrev AAl:List RS:=[.one]
abbrev AHI:AE:=[(.tmp 0,.dat Uq),(.tmp 1,.dat Uq),(.tmp 5,.di)]
abbrev AHH:As:=[(.ret,[(.tmp 4,.dat .bool)]),(.exit 0,[])]
def Ts[Lk]:(List U3×List U3×Int×Unit)→Option ((List U3×List U3×Int×Unit)⊕Uh⊕(Unit)⊕Unit):=fun(a0,a1,a2,_)=>
 match(ilt a2 (AO a0))with
 |true=>match idx a0 a2 with|none=>none|some x0=>match idx a1 a2 with|none=>none|some x1=>match(!(ieq x0.1 x1.1&&(ieq x0.2.1 x1.2.1&&true)))with
  |true=>some (.inr (.inl (false,())))
  |false=>some (.inl (a0,a1,(IntKind.wrap .i64 (a2+1)),()))
 |false=>some (.inr (.inr (.inl ())))
def AAp[Lk]:(List U3×List U3×Unit)→Option (Uh):=fun(a0,a1,_)=>
 match(!(ieq (AO a0) (AO a1)))with
 |true=>some (false,())
 |false=>match AS Ts many (a0,a1,0,())with|none=>none|some r=>match r with
 |.inl (o0,_)=>some (o0,())
 |.inr r=>match r with
 |.inl _=>some (true,())
 |.inr _=>none
def AJn[Lk]:=fun v=>Lk.f (AAp v)
theorem AaJ v:AJn v=AAp v:=AN _
abbrev Adu:AE:=[(.tmp 0,.dat Ub),(.tmp 1,.di)]
abbrev Adt:AE:=[(.tmp 0,.di)]
abbrev Ads:List RS:=[.one]
def AYB[Lk]:Vf→Option (U9):=fun(a0,a1,_)=>
 match tin (a0.1,a1,())with|none=>none|some (y0,_)=>match(!y0)with
 |true=>some ((-1:Int),())
 |false=>match PZ ((a0.1,(a0.2.1,())),())with|none=>none|some (y1,_)=>match(!y1)with
 |true=>some ((-1:Int),())
 |false=>match Pb ((a0.1,(a0.2.1,())),a1,())with|none=>none|some (y2,_)=>some (y2,())
def tof[Lk]:=fun v=>Lk.f (AYB v)
theorem Adv v:tof v=AYB v:=AN _
abbrev Th:AE:=[(.tmp 0,.dat Ub),(.tmp 1,.dat Uq)]
abbrev Tg:AE:=[(.tmp 0,.di)]
abbrev Tf:List RS:=[.one]
abbrev AAO:AE:=[(.tmp 1,.dat Uq),(.tmp 2,.box 2),(.cell 0 0,.di),(.cell 0 1,.dat Uk),(.tmp 5,.di)]
abbrev AAN:As:=[(.ret,[(.tmp 4,.di)]),(.exit 0,[])]
def Ea[Lk]:(List U3×Int×List U4×Int×Unit)→Option ((List U3×Int×List U4×Int×Unit)⊕U9⊕(Unit)⊕Unit):=fun(a0,a1,a2,a3,_)=>
 match(ilt a3 (AO a0))with
 |true=>match idx a0 a3 with|none=>none|some x0=>match(ilt x0.1 0)with
  |true=>some (.inr (.inl (10,())))
  |false=>match idx a0 a3 with|none=>none|some x1=>match(ile a1 x1.1)with
  |true=>some (.inr (.inl (10,())))
  |false=>match idx a0 a3 with|none=>none|some x2=>match(ilt x2.2.1 0)with
  |true=>some (.inr (.inl (10,())))
  |false=>match idx a0 a3 with|none=>none|some x3=>match(ile a1 x3.2.1)with
  |true=>some (.inr (.inl (10,())))
  |false=>some (.inl (a0,a1,a2,(IntKind.wrap .i64 (a3+1)),()))
 |false=>some (.inr (.inr (.inl ())))
def Ns[Lk]:(Ui×List U3×Unit)→Option (U9):=fun(a0,a1,_)=>
 match Ny ((a0.1,(a0.2.1,())),())with|none=>none|some (y0,_)=>match(!y0)with
 |true=>some (1,())
 |false=>match AS Ea many (a1,a0.1,a0.2.1,0,())with|none=>none|some r=>match r with
 |.inl (o1,_)=>some (o1,())
 |.inr r=>match r with
 |.inl _=>some (0,())
 |.inr _=>none
def RB[Lk]:=fun v=>Lk.f (Ns v)
theorem AAP v:RB v=Ns v:=AN _
abbrev Vw:AE:=[(.tmp 0,.dat Ub),(.tmp 1,.dat Uq)]
abbrev Vv:AE:=[(.tmp 0,.dat Ub),(.tmp 1,.own 4 .bool),(.tmp 2,.di)]
abbrev Vu:List RS:=[.one,.one,.one]
abbrev ADA:AE:=[(.tmp 1,.dat Uq),(.tmp 2,.box 2),(.cell 0 0,.di),(.cell 0 1,.dat Uk),(.tmp 4,.box 2),(.cell 1 0,.di),(.cell 1 1,.nil U6),(.tmp 8,.own 4 .bool),(.tmp 9,.di)]
abbrev AC9:As:=[(.exit 0,[(.tmp 2,.box 2),(.cell 0 0,.di),(.cell 0 1,.dat Uk),(.tmp 4,.box 2),(.cell 1 0,.di),(.cell 1 1,.nil U6),(.tmp 8,.own 4 .bool)])]
def Bg[Lk]:(List U3×Int×List U4×Int×List Bool×Int×Unit)→Option ((List U3×Int×List U4×Int×List Bool×Int×Unit)⊕(Int×List U4×Int×List Bool×Unit)⊕Unit):=fun(a0,a1,a2,a3,a4,a5,_)=>
 match(ilt a5 (AO a0))with
 |true=>match idx a0 a5 with|none=>none|some x0=>match idx a0 a5 with|none=>none|some x1=>match Mu ((a1,(a2,())),x0.1,x1.2.1,())with|none=>none|some (y2,y3,y4,_)=>match(fits ((AO a4)+(AO ([(ieq y4 0)]:List (Bool)))))with
  |true=>some (.inl (a0,y2,y3,a3,(A1 a4 ([(ieq y4 0)]:List (Bool))),(IntKind.wrap .i64 (a5+1)),()))
  |false=>none
 |false=>some (.inr (.inl (a1,a2,a3,a4,())))
def Hn[Lk]:(Ui×List U3×Unit)→Option ((Ui×List Bool×Int×Unit)):=fun(a0,a1,_)=>
 match RB ((a0.1,(a0.2.1,())),a1,())with|none=>none|some (y0,_)=>match(!(ieq y0 0))with
 |true=>some ((a0.1,(a0.2.1,())),([]:List (Bool)),y0,())
 |false=>match AS Bg many (a1,a0.1,a0.2.1,0,([]:List (Bool)),0,())with|none=>none|some r=>match r with
 |.inl (o1,o2,o3,o4,_)=>some ((o1,(o2,())),o4,0,())
 |.inr _=>none
def JC[Lk]:=fun v=>Lk.f (Hn v)
theorem Kx v:JC v=Hn v:=AN _
abbrev AVT:AE:=[(.tmp 0,.di),(.tmp 1,.dat Uq)]
abbrev AVS:AE:=[(.tmp 0,.dat Ub),(.tmp 1,.di)]
abbrev AVR:List RS:=[.one,.one]
def ACd[Lk]:(Int×List U3×Unit)→Option (Vf):=fun(a0,a1,_)=>
 match P1 (a0,())with|none=>none|some (y0,y1,y2,_)=>match(!(ieq y2 0))with
 |true=>some ((0,(([]:List U4),())),y2,())
 |false=>match JC ((y0,(y1,())),a1,())with|none=>none|some (y3,y4,y5,_)=>match(!(ieq y5 0))with
 |true=>some ((0,(([]:List U4),())),y5,())
 |false=>some ((y3.1,(y3.2.1,())),0,())
def AbJ[Lk]:=fun v=>Lk.f (ACd v)
theorem AK2 v:AbJ v=ACd v:=AN _
abbrev Qi:AE:=[(.tmp 0,.dat Ub),(.tmp 1,.dat Uq)]
abbrev Qh:AE:=[(.tmp 0,.own 4 .bool),(.tmp 1,.di)]
abbrev Qg:List RS:=[.one,.one]
def LM[Lk]:(Ui×List U3×Unit)→Option ((List Bool×Int×Unit)):=fun(a0,a1,_)=>
 match JC ((a0.1,(a0.2.1,())),a1,())with|none=>none|some (y0,y1,y2,_)=>some (y1,y2,())
def NQ[Lk]:=fun v=>Lk.f (LM v)
theorem YE v:NQ v=LM v:=AN _
def KC[Lk]:(Int×Int×Int×List U1×Int×Unit)→Option ((Int×Int×Int×List U1×Int×Unit)⊕U9⊕(Unit)⊕Unit):=fun(a0,a1,a2,a3,a4,_)=>
 match(ilt a4 (AO a3))with
 |true=>match idx a3 a4 with|none=>none|some x0=>match(ieq x0.1 (B1 a0 a1))with
  |true=>match idx a3 a4 with|none=>none|some x1=>match(ieq x1.2.1 (imax a0 a1))with
   |true=>some (.inr (.inl (a4,())))
   |false=>some (.inl (a0,a1,a2,a3,(IntKind.wrap .i64 (a4+1)),()))
  |false=>some (.inl (a0,a1,a2,a3,(IntKind.wrap .i64 (a4+1)),()))
 |false=>some (.inr (.inr (.inl ())))
def ADs[Lk]:V6→Option (U9):=fun(a0,a1,a2,_)=>
 match B5 ((a0.1,(a0.2.1,())),())with|none=>none|some (y0,_)=>match(!y0)with
 |true=>some ((-1:Int),())
 |false=>match AS KC many (a1,a2,a0.1,a0.2.1,0,())with|none=>none|some r=>match r with
 |.inl (o1,_)=>some (o1,())
 |.inr r=>match r with
 |.inl _=>some ((-1:Int),())
 |.inr _=>none
def AWz[Lk]:=fun v=>Lk.f (ADs v)
theorem Acn v:AWz v=ADs v:=AN _
abbrev Ta:AE:=[(.tmp 0,.dat Ua),(.tmp 1,.di)]
abbrev TZ:AE:=[(.tmp 0,.own 42 U5)]
abbrev TY:List RS:=[.one]
abbrev AAD:AE:=[(.tmp 1,.di),(.tmp 2,.box 2),(.cell 0 0,.di),(.cell 0 1,.dat Up),(.tmp 5,.own 42 U5),(.tmp 6,.di)]
abbrev AAC:As:=[(.exit 0,[(.tmp 5,.own 42 U5)])]
def CM[Lk]:(Int×Int×List U1×List U3×Int×Unit)→Option ((Int×Int×List U1×List U3×Int×Unit)⊕V1⊕Unit):=fun(a0,a1,a2,a3,a4,_)=>
 match(ilt a4 (AO a2))with
 |true=>match idx a2 a4 with|none=>none|some x0=>match x0.2.2.2.1 with
  |true=>match idx a2 a4 with|none=>none|some x1=>match(ile a0 x1.2.2.1)with
   |true=>match idx a2 a4 with|none=>none|some x2=>match idx a2 a4 with|none=>none|some x3=>match(fits ((AO a3)+(AO ([(x2.1,(x3.2.1,()))]:List U3))))with
    |true=>some (.inl (a0,a1,a2,(A1 a3 ([(x2.1,(x3.2.1,()))]:List U3)),(IntKind.wrap .i64 (a4+1)),()))
    |false=>none
   |false=>some (.inl (a0,a1,a2,a3,(IntKind.wrap .i64 (a4+1)),()))
  |false=>some (.inl (a0,a1,a2,a3,(IntKind.wrap .i64 (a4+1)),()))
 |false=>some (.inr (.inl (a3,())))
def Jo[Lk]:(Ud×Int×Unit)→Option (V1):=fun(a0,a1,_)=>
 match AS CM many (a1,a0.1,a0.2.1,([]:List U3),0,())with|none=>none|some r=>match r with
 |.inl (o0,_)=>some (o0,())
 |.inr _=>none
def HQ[Lk]:=fun v=>Lk.f (Jo v)
theorem Pa v:HQ v=Jo v:=AN _
abbrev QQ:AE:=[(.tmp 0,.dat Ua),(.tmp 1,.di)]
abbrev QP:AE:=[(.tmp 0,.dat Ub),(.tmp 1,.di)]
abbrev QO:List RS:=[.one,.one]
def Ia[Lk]:(Ud×Int×Unit)→Option (Vf):=fun(a0,a1,_)=>
 match B5 ((a0.1,(a0.2.1,())),())with|none=>none|some (y0,_)=>match(!y0)with
 |true=>some ((0,(([]:List U4),())),1,())
 |false=>match HQ ((a0.1,(a0.2.1,())),a1,())with|none=>none|some (y1,_)=>match AbJ (a0.1,y1,())with|none=>none|some (y2,y3,_)=>some ((y2.1,(y2.2.1,())),y3,())
def J9[Lk]:=fun v=>Lk.f (Ia v)
theorem M8 v:J9 v=Ia v:=AN _
abbrev AAj:AE:=[(.tmp 0,.dat Ua),(.tmp 1,.dat Ua)]
abbrev AAi:AE:=[(.tmp 0,.dat .bool)]
abbrev AAh:List RS:=[.one]
abbrev AHF:AE:=[(.tmp 2,.box 2),(.cell 0 0,.di),(.cell 0 1,.dat Up),(.tmp 3,.box 2),(.cell 1 0,.di),(.cell 1 1,.dat Up),(.tmp 5,.di)]
abbrev AHE:As:=[(.ret,[(.tmp 4,.dat .bool)]),(.exit 0,[])]
def Ez[Lk]:(Int×List U1×Int×List U1×Int×Unit)→Option ((Int×List U1×Int×List U1×Int×Unit)⊕Uh⊕(Unit)⊕Unit):=fun(a0,a1,a2,a3,a4,_)=>
 match(ilt a4 (AO a1))with
 |true=>match idx a1 a4 with|none=>none|some x0=>match idx a3 a4 with|none=>none|some x1=>match(!(ieq x0.1 x1.1&&(ieq x0.2.1 x1.2.1&&(ieq x0.2.2.1 x1.2.2.1&&((x0.2.2.2.1==x1.2.2.2.1)&&true)))))with
  |true=>some (.inr (.inl (false,())))
  |false=>some (.inl (a0,a1,a2,a3,(IntKind.wrap .i64 (a4+1)),()))
 |false=>some (.inr (.inr (.inl ())))
def RE[Lk]:(Ud×Ud×Unit)→Option (Uh):=fun(a0,a1,_)=>
 match(!(ieq a0.1 a1.1))with
 |true=>some (false,())
 |false=>match(!(ieq (AO a0.2.1) (AO a1.2.1)))with
 |true=>some (false,())
 |false=>match AS Ez many (a0.1,a0.2.1,a1.1,a1.2.1,0,())with|none=>none|some r=>match r with
 |.inl (o0,_)=>some (o0,())
 |.inr r=>match r with
 |.inl _=>some (true,())
 |.inr _=>none
def Tr[Lk]:=fun v=>Lk.f (RE v)
theorem AHG v:Tr v=RE v:=AN _
abbrev AL0:AE:=[(.tmp 0,.dat Uq),(.tmp 1,.dat U5)]
abbrev ALz:AE:=[(.tmp 0,.dat .bool)]
abbrev ALy:List RS:=[.one]
abbrev ARU:AE:=[(.tmp 0,.dat Uq),(.tmp 3,.box 2),(.cell 0 0,.di),(.cell 0 1,.di),(.tmp 5,.di)]
abbrev ART:As:=[(.ret,[(.tmp 4,.dat .bool)]),(.exit 0,[])]
def IZ[Lk]:(List U3×Int×Int×Int×Unit)→Option ((List U3×Int×Int×Int×Unit)⊕Uh⊕(Unit)⊕Unit):=fun(a0,a1,a2,a3,_)=>
 match(ilt a3 (AO a0))with
 |true=>match idx a0 a3 with|none=>none|some x0=>match(ieq x0.1 a1&&(ieq x0.2.1 a2&&true))with
  |true=>some (.inr (.inl (true,())))
  |false=>some (.inl (a0,a1,a2,(IntKind.wrap .i64 (a3+1)),()))
 |false=>some (.inr (.inr (.inl ())))
def ZZ[Lk]:(List U3×U3×Unit)→Option (Uh):=fun(a0,a1,_)=>
 match AS IZ many (a0,a1.1,a1.2.1,0,())with|none=>none|some r=>match r with
 |.inl (o0,_)=>some (o0,())
 |.inr r=>match r with
 |.inl _=>some (false,())
 |.inr _=>none
def X6[Lk]:=fun v=>Lk.f (ZZ v)
theorem ARV v:X6 v=ZZ v:=AN _
end
end Go.Pev
end
section
namespace Go.Pev
noncomputable section
attribute [local irreducible] NA Jh O5 Lq AcC AcD AcE RM T5 Yc AAe Jj AQ many IntKind.wrap AO An AP A1 Bo Dp KE AF BY B1 imax AX Ah
abbrev Wr:AE:=[(.tmp 0,.dat Ua),(.tmp 1,.dat Uq)]
abbrev Wq:AE:=[(.tmp 0,.di)]
abbrev Wp:List RS:=[.one]
abbrev AEe:AE:=[(.tmp 1,.dat Uq),(.tmp 2,.box 2),(.cell 0 0,.di),(.cell 0 1,.dat Up),(.tmp 5,.di)]
abbrev AEd:As:=[(.ret,[(.tmp 4,.di)]),(.exit 0,[])]
def Et[Lk]:Ve→Option (Ve⊕U9⊕(Unit)⊕Unit):=fun(a0,a1,a2,a3,_)=>
 match(ilt a3 (AO a0))with
 |true=>match idx a0 a3 with|none=>none|some x0=>match(ilt x0.1 0)with
  |true=>some (.inr (.inl (10,())))
  |false=>match idx a0 a3 with|none=>none|some x1=>match(ile a1 x1.1)with
  |true=>some (.inr (.inl (10,())))
  |false=>match idx a0 a3 with|none=>none|some x2=>match(ilt x2.2.1 0)with
  |true=>some (.inr (.inl (10,())))
  |false=>match idx a0 a3 with|none=>none|some x3=>match(ile a1 x3.2.1)with
  |true=>some (.inr (.inl (10,())))
  |false=>some (.inl (a0,a1,a2,(IntKind.wrap .i64 (a3+1)),()))
 |false=>some (.inr (.inr (.inl ())))
def Of[Lk]:V4→Option (U9):=fun(a0,a1,_)=>
 match B5 ((a0.1,(a0.2.1,())),())with|none=>none|some (y0,_)=>match(!y0)with
 |true=>some (1,())
 |false=>match AS Et many (a1,a0.1,a0.2.1,0,())with|none=>none|some r=>match r with
 |.inl (o1,_)=>some (o1,())
 |.inr r=>match r with
 |.inl _=>some (0,())
 |.inr _=>none
def Sk[Lk]:=fun v=>Lk.f (Of v)
theorem AEf v:Sk v=Of v:=AN _
abbrev UB:AE:=[(.tmp 0,.di),(.tmp 1,.dat Uq)]
abbrev UA:AE:=[(.tmp 0,.own 42 U5)]
abbrev T9:List RS:=[.one]
abbrev ABV:AE:=[(.tmp 0,.di),(.tmp 1,.dat Uq),(.tmp 5,.own 42 U5),(.tmp 6,.di),(.tmp 7,.di)]
abbrev ABT:As:=[(.exit 2,[(.tmp 0,.di),(.tmp 1,.dat Uq),(.tmp 5,.own 42 U5),(.tmp 6,.di)])]
def Df[Lk]:(Int×List U3×List U3×Int×Int×Unit)→Option ((Int×List U3×List U3×Int×Int×Unit)⊕(Int×List U3×List U3×Int×Unit)⊕Unit):=fun(a0,a1,a2,a3,a4,_)=>
 match(ilt a4 a0)with
 |true=>match X6 (a1,(a3,(a4,())),())with|none=>none|some (y0,_)=>match y0 with
  |true=>match(fits ((AO a2)+(AO ([(a3,(a4,()))]:List U3))))with
   |true=>some (.inl (a0,a1,(A1 a2 ([(a3,(a4,()))]:List U3)),a3,(IntKind.wrap .i64 (a4+1)),()))
   |false=>none
  |false=>match X6 (a1,(a4,(a3,())),())with|none=>none|some (y1,_)=>match y1 with
  |true=>match(fits ((AO a2)+(AO ([(a3,(a4,()))]:List U3))))with
   |true=>some (.inl (a0,a1,(A1 a2 ([(a3,(a4,()))]:List U3)),a3,(IntKind.wrap .i64 (a4+1)),()))
   |false=>none
  |false=>some (.inl (a0,a1,a2,a3,(IntKind.wrap .i64 (a4+1)),()))
 |false=>some (.inr (.inl (a0,a1,a2,a3,())))
abbrev ABW:AE:=[(.tmp 0,.di),(.tmp 1,.dat Uq),(.tmp 5,.own 42 U5),(.tmp 6,.di)]
abbrev ABU:As:=[(.exit 0,[(.tmp 5,.own 42 U5)])]
def Ef[Lk]:(Int×List U3×List U3×Int×Unit)→Option ((Int×List U3×List U3×Int×Unit)⊕V1⊕Unit):=fun(a0,a1,a2,a3,_)=>
 match(ilt a3 a0)with
 |true=>match AS Df many (a0,a1,a2,a3,(IntKind.wrap .i64 (a3+1)),())with|none=>none|some r=>match r with
  |.inl (o0,o1,o2,o3,_)=>some (.inl (o0,o1,o2,(IntKind.wrap .i64 (o3+1)),()))
  |.inr _=>none
 |false=>some (.inr (.inl (a2,())))
def N1[Lk]:(Int×List U3×Unit)→Option (V1):=fun(a0,a1,_)=>
 match AS Ef many (a0,a1,([]:List U3),0,())with|none=>none|some r=>match r with
 |.inl (o0,_)=>some (o0,())
 |.inr _=>none
def N2[Lk]:=fun v=>Lk.f (N1 v)
theorem ABX v:N2 v=N1 v:=AN _
abbrev AK8:AE:=[(.tmp 0,.dat Ua),(.tmp 1,.dat Uq)]
abbrev AK7:AE:=[(.tmp 0,.own 42 U5),(.tmp 1,.di)]
abbrev AK6:List RS:=[.one,.one]
abbrev AQc:AE:=[(.tmp 7,.own 42 U5),(.tmp 8,.own 42 U5),(.tmp 9,.own 42 U5),(.tmp 10,.di)]
abbrev AQb:As:=[(.exit 0,[(.tmp 9,.own 42 U5)])]
def II[Lk]:Va→Option (Va⊕V1⊕Unit):=fun(a0,a1,a2,a3,_)=>
 match(ilt a3 (AO a1))with
 |true=>match idx a1 a3 with|none=>none|some x0=>match X6 (a0,((AP a1 (AF a3) (0,(0,()))).1,((AP a1 (AF a3) (0,(0,()))).2.1,())),())with|none=>none|some (y1,_)=>match(!y1)with
  |true=>match idx a1 a3 with|none=>none|some x2=>match(fits ((AO a2)+(AO ([((AP a1 (AF a3) (0,(0,()))).1,((AP a1 (AF a3) (0,(0,()))).2.1,()))]:List U3))))with
   |true=>some (.inl (a0,a1,(A1 a2 ([((AP a1 (AF a3) (0,(0,()))).1,((AP a1 (AF a3) (0,(0,()))).2.1,()))]:List U3)),(IntKind.wrap .i64 (a3+1)),()))
   |false=>none
  |false=>some (.inl (a0,a1,a2,(IntKind.wrap .i64 (a3+1)),()))
 |false=>some (.inr (.inl (a2,())))
def ZR[Lk]:V4→Option ((List U3×Int×Unit)):=fun(a0,a1,_)=>
 match Sk ((a0.1,(a0.2.1,())),a1,())with|none=>none|some (y0,_)=>match(!(ieq y0 0))with
 |true=>some (([]:List U3),y0,())
 |false=>match LF ((a0.1,(a0.2.1,())),())with|none=>none|some (y1,_)=>match N2 (a0.1,a1,())with|none=>none|some (y2,_)=>match AS II many (y1,y2,([]:List U3),0,())with|none=>none|some r=>match r with
 |.inl (o3,_)=>some (o3,0,())
 |.inr _=>none
def AHc[Lk]:=fun v=>Lk.f (ZR v)
theorem AQd v:AHc v=ZR v:=AN _
abbrev ADq:AE:=[(.tmp 0,.dat Ua),(.tmp 1,.dat Uq)]
abbrev ADp:AE:=[(.tmp 0,.dat .bool)]
abbrev ADo:List RS:=[.one]
def SK[Lk]:V4→Option (Uh):=fun(a0,a1,_)=>
 match AHc ((a0.1,(a0.2.1,())),a1,())with|none=>none|some (y0,y1,_)=>match(ieq y1 0)with
 |true=>some ((ile (IntKind.wrap .i64 ((AO y0)+(AO a0.2.1))) 400),())
 |false=>some (false,())
def ADr[Lk]:=fun v=>Lk.f (SK v)
theorem AIC v:ADr v=SK v:=AN _
abbrev AJ3:AE:=[(.tmp 0,.dat Up),(.tmp 1,.dat U2)]
abbrev AJ2:AE:=[(.tmp 0,.own 44 U2)]
abbrev AJ1:List RS:=[.one]
abbrev AOu:AE:=[(.tmp 0,.dat Up),(.tmp 3,.box 4),(.cell 0 0,.di),(.cell 0 1,.di),(.cell 0 2,.di),(.cell 0 3,.dat .bool),(.tmp 5,.di)]
abbrev AOt:As:=[(.exit 0,[(.tmp 0,.dat Up),(.tmp 3,.box 4),(.cell 0 0,.di),(.cell 0 1,.di),(.cell 0 2,.di),(.cell 0 3,.dat .bool),(.tmp 5,.di)])]
def IA[Lk]:Vi→Option (Vi⊕Vi⊕Unit):=fun(a0,a1,a2,a3,a4,a5,_)=>
 match(ilt a5 (AO a0))with
 |true=>match idx a0 a5 with|none=>none|some x0=>match(ilt x0.1 a1)with
  |true=>some (.inl (a0,a1,a2,a3,a4,(IntKind.wrap .i64 (a5+1)),()))
  |false=>match idx a0 a5 with|none=>none|some x1=>match(ieq x1.1 a1)with
  |true=>match idx a0 a5 with|none=>none|some x2=>match(ilt x2.2.1 a2)with
   |true=>some (.inl (a0,a1,a2,a3,a4,(IntKind.wrap .i64 (a5+1)),()))
   |false=>some (.inr (.inl (a0,a1,a2,a3,a4,a5,())))
  |false=>some (.inr (.inl (a0,a1,a2,a3,a4,a5,())))
 |false=>some (.inr (.inl (a0,a1,a2,a3,a4,a5,())))
def ZJ[Lk]:(List U1×U1×Unit)→Option ((List U1×Unit)):=fun(a0,a1,_)=>
 match AS IA many (a0,a1.1,a1.2.1,a1.2.2.1,a1.2.2.2.1,0,())with|none=>none|some r=>match r with
 |.inl (o0,o1,o2,o3,o4,o5,_)=>match Bv o0 0 o5 with|none=>none|some x6=>match(fits ((AO ([]:List U1))+(AO x6)))with
  |true=>match(fits ((AO (A1 ([]:List U1) x6))+(AO ([(o1,(o2,(o3,(o4,()))))]:List U1))))with
   |true=>match Bv o0 o5 (AO o0)with|none=>none|some x7=>match(fits ((AO (A1 (A1 ([]:List U1) x6) ([(o1,(o2,(o3,(o4,()))))]:List U1)))+(AO x7)))with
    |true=>some ((A1 (A1 (A1 ([]:List U1) x6) ([(o1,(o2,(o3,(o4,()))))]:List U1)) x7),())
    |false=>none
   |false=>none
  |false=>none
 |.inr _=>none
def AOw[Lk]:=fun v=>Lk.f (ZJ v)
theorem AOv v:AOw v=ZJ v:=AN _
abbrev AND:AE:=[(.tmp 0,.dat Ua),(.tmp 1,.dat Uq)]
abbrev ANC:AE:=[(.tmp 0,.di),(.tmp 1,.dat Up),(.tmp 2,.di),(.tmp 3,.di)]
abbrev ANB:List RS:=[.agg 2,.one,.one]
abbrev ASb:AE:=[(.tmp 4,.box 2),(.cell 0 0,.di),(.cell 0 1,.nil U2),(.tmp 7,.own 42 U5),(.tmp 11,.own 4 .bool),(.tmp 13,.box 2),(.cell 3 0,.di),(.cell 3 1,.own 44 U2),(.tmp 14,.di)]
abbrev ASa:As:=[(.exit 0,[(.tmp 4,.box 2),(.cell 0 0,.di),(.cell 0 1,.nil U2),(.tmp 7,.own 42 U5),(.tmp 13,.box 2),(.cell 2 0,.di),(.cell 2 1,.own 44 U2)])]
def G4[Lk]:(Int×List U3×List Bool×Int×List U1×Int×Unit)→Option ((Int×List U3×List Bool×Int×List U1×Int×Unit)⊕(Int×List U3×Int×List U1×Unit)⊕Unit):=fun(a0,a1,a2,a3,a4,a5,_)=>
 match(ilt a5 (AO a1))with
 |true=>match idx a1 a5 with|none=>none|some x0=>match idx a1 a5 with|none=>none|some x1=>match idx a2 a5 with|none=>none|some x2=>match AOw (a4,((AP a1 (AF a5) (0,(0,()))).1,((AP a1 (AF a5) (0,(0,()))).2.1,(0,((AP a2 (AF a5) false),())))),())with|none=>none|some (y3,_)=>some (.inl (a0,a1,a2,a3,y3,(IntKind.wrap .i64 (a5+1)),()))
 |false=>some (.inr (.inl (a0,a1,a3,a4,())))
def Zh[Lk]:V4→Option (V7):=fun(a0,a1,_)=>
 match AHc ((a0.1,(a0.2.1,())),a1,())with|none=>none|some (y0,y1,_)=>match(!(ieq y1 0))with
 |true=>some (a0.1,a0.2.1,0,y1,())
 |false=>match ADr ((a0.1,(a0.2.1,())),a1,())with|none=>none|some (y2,_)=>match(!y2)with
 |true=>some (a0.1,a0.2.1,0,2,())
 |false=>match J9 ((a0.1,(a0.2.1,())),0,())with|none=>none|some (y3,y4,_)=>match NQ ((y3.1,(y3.2.1,())),y0,())with|none=>none|some (y5,y6,_)=>match(fits ((AO ([]:List U1))+(AO a0.2.1)))with
 |true=>match AS G4 many (0,y0,y5,a0.1,(A1 ([]:List U1) a0.2.1),0,())with|none=>none|some r=>match r with
  |.inl (o7,o8,o9,o10,_)=>some (o9,o10,(AO o8),0,())
  |.inr _=>none
 |false=>none
def AIW[Lk]:=fun v=>Lk.f (Zh v)
theorem ASd v:AIW v=Zh v:=AN _
abbrev WB:AE:=[(.tmp 0,.dat Ua),(.tmp 1,.di)]
abbrev WA:AE:=[(.tmp 0,.dat Ub),(.tmp 1,.di)]
abbrev Vz:List RS:=[.one,.one]
def J3[Lk]:(Ud×Int×Unit)→Option (Vf):=fun(a0,a1,_)=>
 match GC ((a0.1,(a0.2.1,())),())with|none=>none|some (y0,_)=>match(!y0)with
 |true=>some ((0,(([]:List U4),())),1,())
 |false=>match P2 ((a0.1,(a0.2.1,())),a1,())with|none=>none|some (y1,_)=>match fof (a0.1,y1,())with|none=>none|some (y2,y3,_)=>some ((y2.1,(y2.2.1,())),y3,())
def OS[Lk]:=fun v=>Lk.f (J3 v)
theorem P5 v:OS v=J3 v:=AN _
abbrev ALY:AE:=[(.tmp 0,.di),(.tmp 1,.di)]
abbrev ALX:AE:=[(.tmp 0,.dat .bool)]
abbrev ALW:List RS:=[.one]
def ZV[Lk]:U3→Option (Uh):=fun(a0,a1,_)=>
 match AVZ (a0,())with|none=>none|some (y0,_)=>match y0 with
 |true=>match AVZ (a1,())with|none=>none|some (y1,_)=>match(!y1)with
  |true=>some (true,())
  |false=>some ((ilt a0 a1),())
 |false=>some ((ilt a0 a1),())
def EK[Lk]:=fun v=>Lk.f (ZV v)
theorem AQ2 v:EK v=ZV v:=AN _
abbrev AWQ:AE:=[(.tmp 0,.own 3 U0),(.tmp 1,.di),(.tmp 2,.di)]
abbrev AWP:AE:=[(.obj 0,.own 3 U0)]
abbrev AWO:List RS:=[]
abbrev AY0:AE:=[(.obj 0,.own 3 U0),(.tmp 0,.own' 0),(.tmp 1,.di),(.tmp 2,.di),(.tmp 6,.di),(.tmp 7,.di)]
abbrev AYy:As:=[(.exit 2,[(.obj 0,.own 3 U0),(.tmp 0,.own' 0),(.tmp 1,.di),(.tmp 2,.di),(.tmp 6,.di)])]
def OT[Lk]:Um→Option (Um⊕U7⊕Unit):=fun(a0,a1,a2,a3,a4,_)=>
 match(ilt a1 a4)with
 |true=>match idx a0 a4 with|none=>none|some x0=>match idx a0 (IntKind.wrap .i64 (a4-1))with|none=>none|some x1=>match EK ((AP a0 (AF a4) 0),(AP a0 (AF (IntKind.wrap .i64 (a4-1))) 0),())with|none=>none|some (y2,_)=>match y2 with
  |true=>match idx a0 (IntKind.wrap .i64 (a4-1))with|none=>none|some x3=>match idx a0 a4 with|none=>none|some x4=>match idx a0 a4 with|none=>none|some x5=>match idx (An a0 (AF a4) (AP a0 (AF (IntKind.wrap .i64 (a4-1))) 0)) (IntKind.wrap .i64 (a4-1))with|none=>none|some x6=>some (.inl ((An (An a0 (AF a4) (AP a0 (AF (IntKind.wrap .i64 (a4-1))) 0)) (AF (IntKind.wrap .i64 (a4-1))) (AP a0 (AF a4) 0)),a1,a2,a3,(IntKind.wrap .i64 (a4-1)),()))
  |false=>some (.inr (.inl (a0,a1,a2,a3,())))
 |false=>some (.inr (.inl (a0,a1,a2,a3,())))
abbrev AY1:AE:=[(.obj 0,.own 3 U0),(.tmp 0,.own' 0),(.tmp 1,.di),(.tmp 2,.di),(.tmp 6,.di)]
abbrev AYz:As:=[(.exit 0,[(.obj 0,.own 3 U0)])]
def OU[Lk]:U7→Option (U7⊕Uc⊕Unit):=fun(a0,a1,a2,a3,_)=>
 match(ilt a3 a2)with
 |true=>match AS OT many (a0,a1,a2,a3,a3,())with|none=>none|some r=>match r with
  |.inl (o0,o1,o2,o3,_)=>some (.inl (o0,o1,o2,(IntKind.wrap .i64 (o3+1)),()))
  |.inr _=>none
 |false=>some (.inr (.inl (a0,())))
def ALi[Lk]:Ue→Option (Uc):=fun(a0,a1,a2,_)=>
 match AS OU many (a0,a1,a2,(IntKind.wrap .i64 (a1+1)),())with|none=>none|some r=>match r with
 |.inl (o0,_)=>some (o0,())
 |.inr _=>none
def Ab5[Lk]:=fun v=>Lk.f (ALi v)
theorem AY2 v:Ab5 v=ALi v:=AN _
abbrev AJc:AE:=[(.tmp 0,.own 3 U0),(.tmp 1,.di),(.tmp 2,.di),(.tmp 3,.di)]
abbrev AJb:AE:=[(.obj 0,.own 3 U0)]
abbrev AJa:List RS:=[]
abbrev AOU:AE:=[(.obj 0,.own 3 U0),(.tmp 0,.own' 0),(.tmp 2,.di),(.tmp 3,.di),(.tmp 8,.di)]
abbrev AOT:As:=[(.exit 0,[(.obj 0,.own 3 U0)]),(.ret,[(.obj 0,.own 3 U0)])]
def Jq[Lk]:U7→Option (U7⊕Uc⊕Uc⊕Unit):=fun(a0,a1,a2,a3,_)=>
 match(ile a1 (IntKind.wrap .i64 ((IntKind.wrap .i64 (2*a3))+1)))with
 |true=>some (.inr (.inl (a0,())))
 |false=>match(ilt (IntKind.wrap .i64 ((IntKind.wrap .i64 ((IntKind.wrap .i64 (2*a3))+1))+1)) a1)with
 |true=>match idx a0 (IntKind.wrap .i64 (a2+(IntKind.wrap .i64 ((IntKind.wrap .i64 (2*a3))+1))))with|none=>none|some x0=>match idx a0 (IntKind.wrap .i64 ((IntKind.wrap .i64 (a2+(IntKind.wrap .i64 ((IntKind.wrap .i64 (2*a3))+1))))+1))with|none=>none|some x1=>match EK ((AP a0 (AF (IntKind.wrap .i64 (a2+(IntKind.wrap .i64 ((IntKind.wrap .i64 (2*a3))+1))))) 0),(AP a0 (AF (IntKind.wrap .i64 ((IntKind.wrap .i64 (a2+(IntKind.wrap .i64 ((IntKind.wrap .i64 (2*a3))+1))))+1))) 0),())with|none=>none|some (y2,_)=>match y2 with
  |true=>match idx a0 (IntKind.wrap .i64 (a2+a3))with|none=>none|some x3=>match idx a0 (IntKind.wrap .i64 (a2+(IntKind.wrap .i64 ((IntKind.wrap .i64 ((IntKind.wrap .i64 (2*a3))+1))+1))))with|none=>none|some x4=>match EK ((AP a0 (AF (IntKind.wrap .i64 (a2+a3))) 0),(AP a0 (AF (IntKind.wrap .i64 (a2+(IntKind.wrap .i64 ((IntKind.wrap .i64 ((IntKind.wrap .i64 (2*a3))+1))+1))))) 0),())with|none=>none|some (y5,_)=>match(!y5)with
   |true=>some (.inr (.inr (.inl (a0,()))))
   |false=>match idx a0 (IntKind.wrap .i64 (a2+(IntKind.wrap .i64 ((IntKind.wrap .i64 ((IntKind.wrap .i64 (2*a3))+1))+1))))with|none=>none|some x6=>match idx a0 (IntKind.wrap .i64 (a2+a3))with|none=>none|some x7=>match idx a0 (IntKind.wrap .i64 (a2+a3))with|none=>none|some x8=>match idx (An a0 (AF (IntKind.wrap .i64 (a2+a3))) (AP a0 (AF (IntKind.wrap .i64 (a2+(IntKind.wrap .i64 ((IntKind.wrap .i64 ((IntKind.wrap .i64 (2*a3))+1))+1))))) 0)) (IntKind.wrap .i64 (a2+(IntKind.wrap .i64 ((IntKind.wrap .i64 ((IntKind.wrap .i64 (2*a3))+1))+1))))with|none=>none|some x9=>some (.inl ((An (An a0 (AF (IntKind.wrap .i64 (a2+a3))) (AP a0 (AF (IntKind.wrap .i64 (a2+(IntKind.wrap .i64 ((IntKind.wrap .i64 ((IntKind.wrap .i64 (2*a3))+1))+1))))) 0)) (AF (IntKind.wrap .i64 (a2+(IntKind.wrap .i64 ((IntKind.wrap .i64 ((IntKind.wrap .i64 (2*a3))+1))+1))))) (AP a0 (AF (IntKind.wrap .i64 (a2+a3))) 0)),a1,a2,(IntKind.wrap .i64 ((IntKind.wrap .i64 ((IntKind.wrap .i64 (2*a3))+1))+1)),()))
  |false=>match idx a0 (IntKind.wrap .i64 (a2+a3))with|none=>none|some x10=>match idx a0 (IntKind.wrap .i64 (a2+(IntKind.wrap .i64 ((IntKind.wrap .i64 (2*a3))+1))))with|none=>none|some x11=>match EK ((AP a0 (AF (IntKind.wrap .i64 (a2+a3))) 0),(AP a0 (AF (IntKind.wrap .i64 (a2+(IntKind.wrap .i64 ((IntKind.wrap .i64 (2*a3))+1))))) 0),())with|none=>none|some (y12,_)=>match(!y12)with
  |true=>some (.inr (.inr (.inl (a0,()))))
  |false=>match idx a0 (IntKind.wrap .i64 (a2+(IntKind.wrap .i64 ((IntKind.wrap .i64 (2*a3))+1))))with|none=>none|some x13=>match idx a0 (IntKind.wrap .i64 (a2+a3))with|none=>none|some x14=>match idx a0 (IntKind.wrap .i64 (a2+a3))with|none=>none|some x15=>match idx (An a0 (AF (IntKind.wrap .i64 (a2+a3))) (AP a0 (AF (IntKind.wrap .i64 (a2+(IntKind.wrap .i64 ((IntKind.wrap .i64 (2*a3))+1))))) 0)) (IntKind.wrap .i64 (a2+(IntKind.wrap .i64 ((IntKind.wrap .i64 (2*a3))+1))))with|none=>none|some x16=>some (.inl ((An (An a0 (AF (IntKind.wrap .i64 (a2+a3))) (AP a0 (AF (IntKind.wrap .i64 (a2+(IntKind.wrap .i64 ((IntKind.wrap .i64 (2*a3))+1))))) 0)) (AF (IntKind.wrap .i64 (a2+(IntKind.wrap .i64 ((IntKind.wrap .i64 (2*a3))+1))))) (AP a0 (AF (IntKind.wrap .i64 (a2+a3))) 0)),a1,a2,(IntKind.wrap .i64 ((IntKind.wrap .i64 (2*a3))+1)),()))
 |false=>match idx a0 (IntKind.wrap .i64 (a2+a3))with|none=>none|some x17=>match idx a0 (IntKind.wrap .i64 (a2+(IntKind.wrap .i64 ((IntKind.wrap .i64 (2*a3))+1))))with|none=>none|some x18=>match EK ((AP a0 (AF (IntKind.wrap .i64 (a2+a3))) 0),(AP a0 (AF (IntKind.wrap .i64 (a2+(IntKind.wrap .i64 ((IntKind.wrap .i64 (2*a3))+1))))) 0),())with|none=>none|some (y19,_)=>match(!y19)with
 |true=>some (.inr (.inr (.inl (a0,()))))
 |false=>match idx a0 (IntKind.wrap .i64 (a2+(IntKind.wrap .i64 ((IntKind.wrap .i64 (2*a3))+1))))with|none=>none|some x20=>match idx a0 (IntKind.wrap .i64 (a2+a3))with|none=>none|some x21=>match idx a0 (IntKind.wrap .i64 (a2+a3))with|none=>none|some x22=>match idx (An a0 (AF (IntKind.wrap .i64 (a2+a3))) (AP a0 (AF (IntKind.wrap .i64 (a2+(IntKind.wrap .i64 ((IntKind.wrap .i64 (2*a3))+1))))) 0)) (IntKind.wrap .i64 (a2+(IntKind.wrap .i64 ((IntKind.wrap .i64 (2*a3))+1))))with|none=>none|some x23=>some (.inl ((An (An a0 (AF (IntKind.wrap .i64 (a2+a3))) (AP a0 (AF (IntKind.wrap .i64 (a2+(IntKind.wrap .i64 ((IntKind.wrap .i64 (2*a3))+1))))) 0)) (AF (IntKind.wrap .i64 (a2+(IntKind.wrap .i64 ((IntKind.wrap .i64 (2*a3))+1))))) (AP a0 (AF (IntKind.wrap .i64 (a2+a3))) 0)),a1,a2,(IntKind.wrap .i64 ((IntKind.wrap .i64 (2*a3))+1)),()))
def ZD[Lk]:U7→Option (Uc):=fun(a0,a1,a2,a3,_)=>
 match AS Jq many (a0,a2,a3,a1,())with|none=>none|some r=>match r with
 |.inl (o0,_)=>some (o0,())
 |.inr r=>match r with
 |.inl (o1,_)=>some (o1,())
 |.inr _=>none
def AHB[Lk]:=fun v=>Lk.f (ZD v)
theorem AOV v:AHB v=ZD v:=AN _
abbrev ALv:AE:=[(.tmp 0,.own 3 U0),(.tmp 1,.di),(.tmp 2,.di)]
abbrev ALu:AE:=[(.obj 0,.own 3 U0)]
abbrev ALt:List RS:=[]
abbrev ARM:AE:=[(.obj 0,.own 3 U0),(.tmp 0,.own' 0),(.tmp 6,.di),(.tmp 7,.di),(.tmp 10,.di)]
abbrev ARK:As:=[(.exit 2,[(.obj 0,.own 3 U0)])]
def J6[Lk]:U7→Option (U7⊕Uc⊕Unit):=fun(a0,a1,a2,a3,_)=>
 match(ile 0 a3)with
 |true=>match idx a0 (IntKind.wrap .i64 (a1+a3))with|none=>none|some x0=>match idx a0 a1 with|none=>none|some x1=>match idx a0 a1 with|none=>none|some x2=>match idx (An a0 (AF a1) (AP a0 (AF (IntKind.wrap .i64 (a1+a3))) 0)) (IntKind.wrap .i64 (a1+a3))with|none=>none|some x3=>match AHB ((An (An a0 (AF a1) (AP a0 (AF (IntKind.wrap .i64 (a1+a3))) 0)) (AF (IntKind.wrap .i64 (a1+a3))) (AP a0 (AF a1) 0)),a2,a3,a1,())with|none=>none|some (y4,_)=>some (.inl (y4,a1,a2,(IntKind.wrap .i64 (a3-1)),()))
 |false=>some (.inr (.inl (a0,())))
abbrev ARN:AE:=[(.obj 0,.own 3 U0),(.tmp 0,.own' 0),(.tmp 6,.di),(.tmp 7,.di),(.tmp 8,.di),(.tmp 9,.di)]
abbrev ARL:As:=[(.exit 0,[(.obj 0,.own 3 U0),(.tmp 0,.own' 0),(.tmp 6,.di),(.tmp 7,.di),(.tmp 8,.di)])]
def J7[Lk]:Um→Option (Um⊕U7⊕Unit):=fun(a0,a1,a2,a3,a4,_)=>
 match(ile 0 a4)with
 |true=>match AHB (a0,a4,a3,a1,())with|none=>none|some (y0,_)=>some (.inl (y0,a1,a2,a3,(IntKind.wrap .i64 (a4-1)),()))
 |false=>some (.inr (.inl (a0,a1,a2,a3,())))
def ZX[Lk]:Ue→Option (Uc):=fun(a0,a1,a2,_)=>
 match quo? .i64 (IntKind.wrap .i64 ((IntKind.wrap .i64 (a2-a1))-1)) 2 with|none=>none|some x0=>match AS J7 many (a0,a1,0,(IntKind.wrap .i64 (a2-a1)),x0,())with|none=>none|some r=>match r with
 |.inl (o1,o2,o3,o4,_)=>match AS J6 many (o1,o2,o3,(IntKind.wrap .i64 (o4-1)),())with|none=>none|some r=>match r with
  |.inl (o5,_)=>some (o5,())
  |.inr _=>none
 |.inr _=>none
def AH0[Lk]:=fun v=>Lk.f (ZX v)
theorem ARO v:AH0 v=ZX v:=AN _
abbrev AEZ:AE:=[(.tmp 0,.own 3 U0),(.tmp 1,.di),(.tmp 2,.di)]
abbrev AEY:AE:=[(.obj 0,.own 3 U0)]
abbrev AEX:List RS:=[]
abbrev AIP:AE:=[(.obj 0,.own 3 U0),(.tmp 0,.own' 0),(.tmp 1,.di),(.tmp 6,.di),(.tmp 7,.box 1),(.cell 1 0,.dat (.int .u64)),(.tmp 8,.dat (.int .u64)),(.tmp 9,.di)]
abbrev AIO:As:=[(.exit 0,[(.obj 0,.own 3 U0)])]
def GX[Lk]:Ut→Option (Ut⊕Uc⊕Unit):=fun(a0,a1,a2,a3,a4,a5,_)=>
 match quo? .i64 a2 4 with|none=>none|some x0=>match(ile a5 (IntKind.wrap .i64 ((IntKind.wrap .i64 (a1+(IntKind.wrap .i64 (x0*2))))+1)))with
 |true=>match xorNext (a3,())with|none=>none|some (y1,y2,_)=>match(ile a2 (IntKind.wrap .i64 (IntKind.wrap .u64 ((BitVec.ofInt (IntKind.bits .u64) y2 &&& BitVec.ofInt (IntKind.bits .u64) (IntKind.wrap .u64 (a4-1))).toNat))))with
  |true=>match idx a0 (IntKind.wrap .i64 (a1+(IntKind.wrap .i64 ((IntKind.wrap .i64 (IntKind.wrap .u64 ((BitVec.ofInt (IntKind.bits .u64) y2 &&& BitVec.ofInt (IntKind.bits .u64) (IntKind.wrap .u64 (a4-1))).toNat)))-a2))))with|none=>none|some x3=>match idx a0 a5 with|none=>none|some x4=>match idx a0 a5 with|none=>none|some x5=>match idx (An a0 (AF a5) (AP a0 (AF (IntKind.wrap .i64 (a1+(IntKind.wrap .i64 ((IntKind.wrap .i64 (IntKind.wrap .u64 ((BitVec.ofInt (IntKind.bits .u64) y2 &&& BitVec.ofInt (IntKind.bits .u64) (IntKind.wrap .u64 (a4-1))).toNat)))-a2))))) 0)) (IntKind.wrap .i64 (a1+(IntKind.wrap .i64 ((IntKind.wrap .i64 (IntKind.wrap .u64 ((BitVec.ofInt (IntKind.bits .u64) y2 &&& BitVec.ofInt (IntKind.bits .u64) (IntKind.wrap .u64 (a4-1))).toNat)))-a2))))with|none=>none|some x6=>some (.inl ((An (An a0 (AF a5) (AP a0 (AF (IntKind.wrap .i64 (a1+(IntKind.wrap .i64 ((IntKind.wrap .i64 (IntKind.wrap .u64 ((BitVec.ofInt (IntKind.bits .u64) y2 &&& BitVec.ofInt (IntKind.bits .u64) (IntKind.wrap .u64 (a4-1))).toNat)))-a2))))) 0)) (AF (IntKind.wrap .i64 (a1+(IntKind.wrap .i64 ((IntKind.wrap .i64 (IntKind.wrap .u64 ((BitVec.ofInt (IntKind.bits .u64) y2 &&& BitVec.ofInt (IntKind.bits .u64) (IntKind.wrap .u64 (a4-1))).toNat)))-a2))))) (AP a0 (AF a5) 0)),a1,a2,y1,a4,(IntKind.wrap .i64 (a5+1)),()))
  |false=>match idx a0 (IntKind.wrap .i64 (a1+(IntKind.wrap .i64 (IntKind.wrap .u64 ((BitVec.ofInt (IntKind.bits .u64) y2 &&& BitVec.ofInt (IntKind.bits .u64) (IntKind.wrap .u64 (a4-1))).toNat)))))with|none=>none|some x7=>match idx a0 a5 with|none=>none|some x8=>match idx a0 a5 with|none=>none|some x9=>match idx (An a0 (AF a5) (AP a0 (AF (IntKind.wrap .i64 (a1+(IntKind.wrap .i64 (IntKind.wrap .u64 ((BitVec.ofInt (IntKind.bits .u64) y2 &&& BitVec.ofInt (IntKind.bits .u64) (IntKind.wrap .u64 (a4-1))).toNat)))))) 0)) (IntKind.wrap .i64 (a1+(IntKind.wrap .i64 (IntKind.wrap .u64 ((BitVec.ofInt (IntKind.bits .u64) y2 &&& BitVec.ofInt (IntKind.bits .u64) (IntKind.wrap .u64 (a4-1))).toNat)))))with|none=>none|some x10=>some (.inl ((An (An a0 (AF a5) (AP a0 (AF (IntKind.wrap .i64 (a1+(IntKind.wrap .i64 (IntKind.wrap .u64 ((BitVec.ofInt (IntKind.bits .u64) y2 &&& BitVec.ofInt (IntKind.bits .u64) (IntKind.wrap .u64 (a4-1))).toNat)))))) 0)) (AF (IntKind.wrap .i64 (a1+(IntKind.wrap .i64 (IntKind.wrap .u64 ((BitVec.ofInt (IntKind.bits .u64) y2 &&& BitVec.ofInt (IntKind.bits .u64) (IntKind.wrap .u64 (a4-1))).toNat)))))) (AP a0 (AF a5) 0)),a1,a2,y1,a4,(IntKind.wrap .i64 (a5+1)),()))
 |false=>some (.inr (.inl (a0,())))
def Sh[Lk]:Ue→Option (Uc):=fun(a0,a1,a2,_)=>
 match(ile 8 (IntKind.wrap .i64 (a2-a1)))with
 |true=>match OI ((IntKind.wrap .i64 (a2-a1)),())with|none=>none|some (y0,_)=>match quo? .i64 (IntKind.wrap .i64 (a2-a1)) 4 with|none=>none|some x1=>match AS GX many (a0,a1,(IntKind.wrap .i64 (a2-a1)),(IntKind.wrap .u64 (IntKind.wrap .i64 (a2-a1))),y0,(IntKind.wrap .i64 ((IntKind.wrap .i64 (a1+(IntKind.wrap .i64 (x1*2))))-1)),())with|none=>none|some r=>match r with
  |.inl (o2,_)=>some (o2,())
  |.inr _=>none
 |false=>some (a0,())
def Wl[Lk]:=fun v=>Lk.f (Sh v)
theorem AIQ v:Wl v=Sh v:=AN _
abbrev VG:AE:=[(.tmp 0,.own 3 U0),(.tmp 1,.di),(.tmp 2,.di),(.tmp 3,.box 1),(.cell 1 0,.di)]
abbrev VF:AE:=[(.obj 0,.own 3 U0),(.obj 1,.box 1),(.cell 1 0,.di),(.tmp 0,.di),(.tmp 1,.di)]
abbrev VE:List RS:=[.one,.one]
def OD[Lk]:U7→Option (U7):=fun(a0,a1,a2,a3,_)=>
 match idx a0 a2 with|none=>none|some x0=>match idx a0 a1 with|none=>none|some x1=>match EK ((AP a0 (AF a2) 0),(AP a0 (AF a1) 0),())with|none=>none|some (y2,_)=>match y2 with
 |true=>some (a0,(IntKind.wrap .i64 (a3+1)),a2,a1,())
 |false=>some (a0,a3,a1,a2,())
def Km[Lk]:=fun v=>Lk.f (OD v)
theorem ACZ v:Km v=OD v:=AN _
abbrev VR:AE:=[(.tmp 0,.own 3 U0),(.tmp 1,.di),(.tmp 2,.di),(.tmp 3,.di),(.tmp 4,.box 1),(.cell 1 0,.di)]
abbrev VQ:AE:=[(.obj 0,.own 3 U0),(.obj 1,.box 1),(.cell 1 0,.di),(.tmp 0,.di)]
abbrev VP:List RS:=[.one]
def OK[Lk]:Um→Option (Ue):=fun(a0,a1,a2,a3,a4,_)=>
 match Km (a0,a1,a2,a4,())with|none=>none|some (y0,y1,y2,y3,_)=>match Km (y0,y3,a3,y1,())with|none=>none|some (y4,y5,y6,y7,_)=>match Km (y4,y2,y6,y5,())with|none=>none|some (y8,y9,y10,y11,_)=>some (y8,y9,y11,())
def Ku[Lk]:=fun v=>Lk.f (OK v)
theorem ACi v:Ku v=OK v:=AN _
abbrev VX:AE:=[(.tmp 0,.own 3 U0),(.tmp 1,.di),(.tmp 2,.box 1),(.cell 1 0,.di)]
abbrev VW:AE:=[(.obj 0,.own 3 U0),(.obj 1,.box 1),(.cell 1 0,.di),(.tmp 0,.di)]
abbrev VV:List RS:=[.one]
def ON[Lk]:Ue→Option (Ue):=fun(a0,a1,a2,_)=>
 match Ku (a0,(IntKind.wrap .i64 (a1-1)),a1,(IntKind.wrap .i64 (a1+1)),a2,())with|none=>none|some (y0,y1,y2,_)=>some (y0,y1,y2,())
def Kv[Lk]:=fun v=>Lk.f (ON v)
theorem ACj v:Kv v=ON v:=AN _
abbrev ABq:AE:=[(.tmp 0,.own 3 U0),(.tmp 1,.di),(.tmp 2,.di)]
abbrev ABp:AE:=[(.obj 0,.own 3 U0),(.tmp 0,.di),(.tmp 1,.di)]
abbrev ABo:List RS:=[.one,.one]
def RT[Lk]:Ue→Option (Ue):=fun(a0,a1,a2,_)=>
 match quo? .i64 (IntKind.wrap .i64 (a2-a1)) 4 with|none=>none|some x0=>match quo? .i64 (IntKind.wrap .i64 (a2-a1)) 4 with|none=>none|some x1=>match quo? .i64 (IntKind.wrap .i64 (a2-a1)) 4 with|none=>none|some x2=>match(ile 8 (IntKind.wrap .i64 (a2-a1)))with
 |true=>match(ile 50 (IntKind.wrap .i64 (a2-a1)))with
  |true=>match Kv (a0,(IntKind.wrap .i64 (a1+(IntKind.wrap .i64 (x0*1)))),0,())with|none=>none|some (y3,y4,y5,_)=>match Kv (y3,(IntKind.wrap .i64 (a1+(IntKind.wrap .i64 (x1*2)))),y4,())with|none=>none|some (y6,y7,y8,_)=>match Kv (y6,(IntKind.wrap .i64 (a1+(IntKind.wrap .i64 (x2*3)))),y7,())with|none=>none|some (y9,y10,y11,_)=>match Ku (y9,y5,y8,y11,y10,())with|none=>none|some (y12,y13,y14,_)=>match(ieq y13 0)with
   |true=>some (y12,y14,1,())
   |false=>match(ieq y13 12)with
   |true=>some (y12,y14,2,())
   |false=>some (y12,y14,0,())
  |false=>match Ku (a0,(IntKind.wrap .i64 (a1+(IntKind.wrap .i64 (x0*1)))),(IntKind.wrap .i64 (a1+(IntKind.wrap .i64 (x1*2)))),(IntKind.wrap .i64 (a1+(IntKind.wrap .i64 (x2*3)))),0,())with|none=>none|some (y15,y16,y17,_)=>match(ieq y16 0)with
  |true=>some (y15,y17,1,())
  |false=>match(ieq y16 12)with
  |true=>some (y15,y17,2,())
  |false=>some (y15,y17,0,())
 |false=>match(ieq 0 0)with
 |true=>some (a0,(IntKind.wrap .i64 (a1+(IntKind.wrap .i64 (x1*2)))),1,())
 |false=>match(ieq 0 12)with
 |true=>some (a0,(IntKind.wrap .i64 (a1+(IntKind.wrap .i64 (x1*2)))),2,())
 |false=>some (a0,(IntKind.wrap .i64 (a1+(IntKind.wrap .i64 (x1*2)))),0,())
def UP[Lk]:=fun v=>Lk.f (RT v)
theorem AHV v:UP v=RT v:=AN _
abbrev AT3:AE:=[(.tmp 0,.own 3 U0),(.tmp 1,.di),(.tmp 2,.di)]
abbrev AT2:AE:=[(.obj 0,.own 3 U0)]
abbrev AT1:List RS:=[]
abbrev AYP:AE:=[(.obj 0,.own 3 U0),(.tmp 0,.own' 0),(.tmp 6,.di),(.tmp 7,.di)]
abbrev AYO:As:=[(.exit 0,[(.obj 0,.own 3 U0)])]
def RK[Lk]:Ue→Option (Ue⊕Uc⊕Unit):=fun(a0,a1,a2,_)=>
 match(ilt a1 a2)with
 |true=>match idx a0 a2 with|none=>none|some x0=>match idx a0 a1 with|none=>none|some x1=>match idx a0 a1 with|none=>none|some x2=>match idx (An a0 (AF a1) (AP a0 (AF a2) 0)) a2 with|none=>none|some x3=>some (.inl ((An (An a0 (AF a1) (AP a0 (AF a2) 0)) (AF a2) (AP a0 (AF a1) 0)),(IntKind.wrap .i64 (a1+1)),(IntKind.wrap .i64 (a2-1)),()))
 |false=>some (.inr (.inl (a0,())))
def AJu[Lk]:Ue→Option (Uc):=fun(a0,a1,a2,_)=>
 match AS RK many (a0,a1,(IntKind.wrap .i64 (a2-1)),())with|none=>none|some r=>match r with
 |.inl (o0,_)=>some (o0,())
 |.inr _=>none
def AaU[Lk]:=fun v=>Lk.f (AJu v)
theorem AYQ v:AaU v=AJu v:=AN _
abbrev Pu:AE:=[(.tmp 0,.own 3 U0),(.tmp 1,.di),(.tmp 2,.di)]
abbrev Pt:AE:=[(.obj 0,.own 3 U0),(.tmp 0,.dat .bool)]
abbrev Ps:List RS:=[.one]
abbrev Xt:AE:=[(.obj 0,.own 3 U0),(.tmp 0,.own' 0),(.tmp 1,.di),(.tmp 2,.di),(.tmp 7,.di),(.tmp 8,.di),(.tmp 10,.di)]
abbrev Xp:As:=[(.exit 6,[(.obj 0,.own 3 U0),(.tmp 0,.own' 0),(.tmp 1,.di),(.tmp 2,.di),(.tmp 7,.di),(.tmp 8,.di)])]
def E5[Lk]:Ut→Option (Ut⊕Um⊕Unit):=fun(a0,a1,a2,a3,a4,a5,_)=>
 match(ilt a5 a2)with
 |true=>match idx a0 a5 with|none=>none|some x0=>match idx a0 (IntKind.wrap .i64 (a5-1))with|none=>none|some x1=>match EK ((AP a0 (AF a5) 0),(AP a0 (AF (IntKind.wrap .i64 (a5-1))) 0),())with|none=>none|some (y2,_)=>match(!y2)with
  |true=>some (.inr (.inl (a0,a1,a2,a3,a4,())))
  |false=>match idx a0 (IntKind.wrap .i64 (a5-1))with|none=>none|some x3=>match idx a0 a5 with|none=>none|some x4=>match idx a0 a5 with|none=>none|some x5=>match idx (An a0 (AF a5) (AP a0 (AF (IntKind.wrap .i64 (a5-1))) 0)) (IntKind.wrap .i64 (a5-1))with|none=>none|some x6=>some (.inl ((An (An a0 (AF a5) (AP a0 (AF (IntKind.wrap .i64 (a5-1))) 0)) (AF (IntKind.wrap .i64 (a5-1))) (AP a0 (AF a5) 0)),a1,a2,a3,a4,(IntKind.wrap .i64 (a5+1)),()))
 |false=>some (.inr (.inl (a0,a1,a2,a3,a4,())))
abbrev Xu:AE:=[(.obj 0,.own 3 U0),(.tmp 0,.own' 0),(.tmp 1,.di),(.tmp 2,.di),(.tmp 7,.di),(.tmp 8,.di),(.tmp 9,.di)]
abbrev Xq:As:=[(.exit 4,[(.obj 0,.own 3 U0),(.tmp 0,.own' 0),(.tmp 1,.di),(.tmp 2,.di),(.tmp 7,.di),(.tmp 8,.di)])]
def E6[Lk]:Ut→Option (Ut⊕Um⊕Unit):=fun(a0,a1,a2,a3,a4,a5,_)=>
 match(ile 1 a5)with
 |true=>match idx a0 a5 with|none=>none|some x0=>match idx a0 (IntKind.wrap .i64 (a5-1))with|none=>none|some x1=>match EK ((AP a0 (AF a5) 0),(AP a0 (AF (IntKind.wrap .i64 (a5-1))) 0),())with|none=>none|some (y2,_)=>match(!y2)with
  |true=>some (.inr (.inl (a0,a1,a2,a3,a4,())))
  |false=>match idx a0 (IntKind.wrap .i64 (a5-1))with|none=>none|some x3=>match idx a0 a5 with|none=>none|some x4=>match idx a0 a5 with|none=>none|some x5=>match idx (An a0 (AF a5) (AP a0 (AF (IntKind.wrap .i64 (a5-1))) 0)) (IntKind.wrap .i64 (a5-1))with|none=>none|some x6=>some (.inl ((An (An a0 (AF a5) (AP a0 (AF (IntKind.wrap .i64 (a5-1))) 0)) (AF (IntKind.wrap .i64 (a5-1))) (AP a0 (AF a5) 0)),a1,a2,a3,a4,(IntKind.wrap .i64 (a5-1)),()))
 |false=>some (.inr (.inl (a0,a1,a2,a3,a4,())))
abbrev Xv:AE:=[(.obj 0,.own 3 U0),(.tmp 0,.own' 0),(.tmp 1,.di),(.tmp 2,.di),(.tmp 7,.di),(.tmp 8,.di)]
abbrev Xr:As:=[(.exit 2,[(.obj 0,.own 3 U0),(.tmp 0,.own' 0),(.tmp 1,.di),(.tmp 2,.di),(.tmp 7,.di),(.tmp 8,.di)])]
def Gv[Lk]:Um→Option (Um⊕Um⊕Unit):=fun(a0,a1,a2,a3,a4,_)=>
 match(ilt a3 a2)with
 |true=>match idx a0 a3 with|none=>none|some x0=>match idx a0 (IntKind.wrap .i64 (a3-1))with|none=>none|some x1=>match EK ((AP a0 (AF a3) 0),(AP a0 (AF (IntKind.wrap .i64 (a3-1))) 0),())with|none=>none|some (y2,_)=>match(!y2)with
  |true=>some (.inl (a0,a1,a2,(IntKind.wrap .i64 (a3+1)),a4,()))
  |false=>some (.inr (.inl (a0,a1,a2,a3,a4,())))
 |false=>some (.inr (.inl (a0,a1,a2,a3,a4,())))
abbrev Xw:AE:=[(.obj 0,.own 3 U0),(.tmp 0,.own' 0),(.tmp 1,.di),(.tmp 2,.di),(.tmp 7,.di),(.tmp 8,.di)]
abbrev Xs:As:=[(.ret,[(.obj 0,.own 3 U0),(.tmp 6,.dat .bool)]),(.exit 0,[(.obj 0,.own 3 U0)])]
def CZ[Lk]:Um→Option (Um⊕Vj⊕Uc⊕Unit):=fun(a0,a1,a2,a3,a4,_)=>
 match(ilt a4 5)with
 |true=>match AS Gv many (a0,a1,a2,a3,a4,())with|none=>none|some r=>match r with
  |.inl (o0,o1,o2,o3,o4,_)=>match(ieq o3 o2)with
   |true=>some (.inr (.inl (o0,true,())))
   |false=>match(ilt (IntKind.wrap .i64 (o2-o1)) 50)with
   |true=>some (.inr (.inl (o0,false,())))
   |false=>match idx o0 (IntKind.wrap .i64 (o3-1))with|none=>none|some x5=>match idx o0 o3 with|none=>none|some x6=>match idx o0 o3 with|none=>none|some x7=>match idx (An o0 (AF o3) (AP o0 (AF (IntKind.wrap .i64 (o3-1))) 0)) (IntKind.wrap .i64 (o3-1))with|none=>none|some x8=>match(ile 2 (IntKind.wrap .i64 (o3-o1)))with
   |true=>match AS E6 many ((An (An o0 (AF o3) (AP o0 (AF (IntKind.wrap .i64 (o3-1))) 0)) (AF (IntKind.wrap .i64 (o3-1))) (AP o0 (AF o3) 0)),o1,o2,o3,o4,(IntKind.wrap .i64 (o3-1)),())with|none=>none|some r=>match r with
    |.inl (o9,o10,o11,o12,o13,_)=>match(ile 2 (IntKind.wrap .i64 (o11-o12)))with
     |true=>match AS E5 many (o9,o10,o11,o12,o13,(IntKind.wrap .i64 (o12+1)),())with|none=>none|some r=>match r with
      |.inl (o14,o15,o16,o17,o18,_)=>some (.inl (o14,o15,o16,o17,(IntKind.wrap .i64 (o18+1)),()))
      |.inr _=>none
     |false=>some (.inl (o9,o10,o11,o12,(IntKind.wrap .i64 (o13+1)),()))
    |.inr _=>none
   |false=>match(ile 2 (IntKind.wrap .i64 (o2-o3)))with
   |true=>match AS E5 many ((An (An o0 (AF o3) (AP o0 (AF (IntKind.wrap .i64 (o3-1))) 0)) (AF (IntKind.wrap .i64 (o3-1))) (AP o0 (AF o3) 0)),o1,o2,o3,o4,(IntKind.wrap .i64 (o3+1)),())with|none=>none|some r=>match r with
    |.inl (o19,o20,o21,o22,o23,_)=>some (.inl (o19,o20,o21,o22,(IntKind.wrap .i64 (o23+1)),()))
    |.inr _=>none
   |false=>some (.inl ((An (An o0 (AF o3) (AP o0 (AF (IntKind.wrap .i64 (o3-1))) 0)) (AF (IntKind.wrap .i64 (o3-1))) (AP o0 (AF o3) 0)),o1,o2,o3,(IntKind.wrap .i64 (o4+1)),()))
  |.inr _=>none
 |false=>some (.inr (.inr (.inl (a0,()))))
def Kh[Lk]:Ue→Option (Vj):=fun(a0,a1,a2,_)=>
 match AS CZ many (a0,a1,a2,(IntKind.wrap .i64 (a1+1)),0,())with|none=>none|some r=>match r with
 |.inl (o0,o1,_)=>some (o0,o1,())
 |.inr r=>match r with
 |.inl (o2,_)=>some (o2,false,())
 |.inr _=>none
def Jx[Lk]:=fun v=>Lk.f (Kh v)
theorem Xx v:Jx v=Kh v:=AN _
abbrev VA:AE:=[(.tmp 0,.own 3 U0),(.tmp 1,.di),(.tmp 2,.di),(.tmp 3,.di)]
abbrev UZ:AE:=[(.obj 0,.own 3 U0),(.tmp 0,.di)]
abbrev UY:List RS:=[.one]
abbrev ACU:AE:=[(.obj 0,.own 3 U0),(.tmp 0,.own' 0),(.tmp 1,.di),(.tmp 9,.di),(.tmp 10,.di)]
abbrev ACR:As:=[(.exit 4,[(.obj 0,.own 3 U0),(.tmp 0,.own' 0),(.tmp 1,.di),(.tmp 9,.di),(.tmp 10,.di)])]
def IE[Lk]:U7→Option Vm:=fun(a0,a1,a2,a3,_)=>
 match(ile a2 a3)with
 |true=>match idx a0 a1 with|none=>none|some x0=>match idx a0 a3 with|none=>none|some x1=>match EK ((AP a0 (AF a1) 0),(AP a0 (AF a3) 0),())with|none=>none|some (y2,_)=>match y2 with
  |true=>some (.inl (a0,a1,a2,(IntKind.wrap .i64 (a3-1)),()))
  |false=>some (.inr (.inl (a0,a1,a2,a3,())))
 |false=>some (.inr (.inl (a0,a1,a2,a3,())))
abbrev ACV:AE:=[(.obj 0,.own 3 U0),(.tmp 0,.own' 0),(.tmp 1,.di),(.tmp 9,.di),(.tmp 10,.di)]
abbrev ACS:As:=[(.exit 2,[(.obj 0,.own 3 U0),(.tmp 0,.own' 0),(.tmp 1,.di),(.tmp 9,.di),(.tmp 10,.di)])]
def IF[Lk]:U7→Option Vm:=fun(a0,a1,a2,a3,_)=>
 match(ile a2 a3)with
 |true=>match idx a0 a1 with|none=>none|some x0=>match idx a0 a2 with|none=>none|some x1=>match EK ((AP a0 (AF a1) 0),(AP a0 (AF a2) 0),())with|none=>none|some (y2,_)=>match(!y2)with
  |true=>some (.inl (a0,a1,(IntKind.wrap .i64 (a2+1)),a3,()))
  |false=>some (.inr (.inl (a0,a1,a2,a3,())))
 |false=>some (.inr (.inl (a0,a1,a2,a3,())))
abbrev ACW:AE:=[(.obj 0,.own 3 U0),(.tmp 0,.own' 0),(.tmp 1,.di),(.tmp 9,.di),(.tmp 10,.di)]
abbrev ACT:As:=[(.exit 0,[(.obj 0,.own 3 U0),(.tmp 9,.di)])]
def IG[Lk]:U7→Option (U7⊕Us⊕Unit):=fun(a0,a1,a2,a3,_)=>
 match AS IF many (a0,a1,a2,a3,())with|none=>none|some r=>match r with
 |.inl (o0,o1,o2,o3,_)=>match AS IE many (o0,o1,o2,o3,())with|none=>none|some r=>match r with
  |.inl (o4,o5,o6,o7,_)=>match(ilt o7 o6)with
   |true=>some (.inr (.inl (o4,o6,())))
   |false=>match idx o4 o7 with|none=>none|some x8=>match idx o4 o6 with|none=>none|some x9=>match idx o4 o6 with|none=>none|some x10=>match idx (An o4 (AF o6) (AP o4 (AF o7) 0)) o7 with|none=>none|some x11=>some (.inl ((An (An o4 (AF o6) (AP o4 (AF o7) 0)) (AF o7) (AP o4 (AF o6) 0)),o5,(IntKind.wrap .i64 (o6+1)),(IntKind.wrap .i64 (o7-1)),()))
  |.inr _=>none
 |.inr _=>none
def OA[Lk]:U7→Option (Us):=fun(a0,a1,a2,a3,_)=>
 match idx a0 a3 with|none=>none|some x0=>match idx a0 a1 with|none=>none|some x1=>match idx a0 a1 with|none=>none|some x2=>match idx (An a0 (AF a1) (AP a0 (AF a3) 0)) a3 with|none=>none|some x3=>match AS IG many ((An (An a0 (AF a1) (AP a0 (AF a3) 0)) (AF a3) (AP a0 (AF a1) 0)),a1,(IntKind.wrap .i64 (a1+1)),(IntKind.wrap .i64 (a2-1)),())with|none=>none|some r=>match r with
 |.inl (o4,o5,_)=>some (o4,o5,())
 |.inr _=>none
def OB[Lk]:=fun v=>Lk.f (OA v)
theorem ACX v:OB v=OA v:=AN _
abbrev AKn:AE:=[(.tmp 0,.own 3 U0),(.tmp 1,.di),(.tmp 2,.di),(.tmp 3,.di)]
abbrev AKm:AE:=[(.obj 0,.own 3 U0),(.tmp 0,.di),(.tmp 1,.dat .bool)]
abbrev AKl:List RS:=[.one,.one]
abbrev AQE:AE:=[(.obj 0,.own 3 U0),(.tmp 0,.own' 0),(.tmp 1,.di),(.tmp 10,.di),(.tmp 11,.di)]
abbrev AP9:As:=[(.exit 8,[(.obj 0,.own 3 U0),(.tmp 0,.own' 0),(.tmp 1,.di),(.tmp 10,.di),(.tmp 11,.di)])]
def Mb[Lk]:U7→Option Vm:=fun(a0,a1,a2,a3,_)=>
 match(ile a2 a3)with
 |true=>match idx a0 a3 with|none=>none|some x0=>match idx a0 a1 with|none=>none|some x1=>match EK ((AP a0 (AF a3) 0),(AP a0 (AF a1) 0),())with|none=>none|some (y2,_)=>match(!y2)with
  |true=>some (.inl (a0,a1,a2,(IntKind.wrap .i64 (a3-1)),()))
  |false=>some (.inr (.inl (a0,a1,a2,a3,())))
 |false=>some (.inr (.inl (a0,a1,a2,a3,())))
abbrev AQF:AE:=[(.obj 0,.own 3 U0),(.tmp 0,.own' 0),(.tmp 1,.di),(.tmp 10,.di),(.tmp 11,.di)]
abbrev AQA:As:=[(.exit 6,[(.obj 0,.own 3 U0),(.tmp 0,.own' 0),(.tmp 1,.di),(.tmp 10,.di),(.tmp 11,.di)])]
def Mc[Lk]:U7→Option Vm:=fun(a0,a1,a2,a3,_)=>
 match(ile a2 a3)with
 |true=>match idx a0 a2 with|none=>none|some x0=>match idx a0 a1 with|none=>none|some x1=>match EK ((AP a0 (AF a2) 0),(AP a0 (AF a1) 0),())with|none=>none|some (y2,_)=>match y2 with
  |true=>some (.inl (a0,a1,(IntKind.wrap .i64 (a2+1)),a3,()))
  |false=>some (.inr (.inl (a0,a1,a2,a3,())))
 |false=>some (.inr (.inl (a0,a1,a2,a3,())))
abbrev AQG:AE:=[(.obj 0,.own 3 U0),(.tmp 0,.own' 0),(.tmp 1,.di),(.tmp 10,.di),(.tmp 11,.di)]
abbrev AQB:As:=[(.exit 4,[(.obj 0,.own 3 U0),(.tmp 0,.own' 0),(.tmp 1,.di),(.tmp 11,.di)])]
def Md[Lk]:U7→Option (U7⊕Ue⊕Unit):=fun(a0,a1,a2,a3,_)=>
 match AS Mc many (a0,a1,a2,a3,())with|none=>none|some r=>match r with
 |.inl (o0,o1,o2,o3,_)=>match AS Mb many (o0,o1,o2,o3,())with|none=>none|some r=>match r with
  |.inl (o4,o5,o6,o7,_)=>match(ilt o7 o6)with
   |true=>some (.inr (.inl (o4,o5,o7,())))
   |false=>match idx o4 o7 with|none=>none|some x8=>match idx o4 o6 with|none=>none|some x9=>match idx o4 o6 with|none=>none|some x10=>match idx (An o4 (AF o6) (AP o4 (AF o7) 0)) o7 with|none=>none|some x11=>some (.inl ((An (An o4 (AF o6) (AP o4 (AF o7) 0)) (AF o7) (AP o4 (AF o6) 0)),o5,(IntKind.wrap .i64 (o6+1)),(IntKind.wrap .i64 (o7-1)),()))
  |.inr _=>none
 |.inr _=>none
abbrev AQH:AE:=[(.obj 0,.own 3 U0),(.tmp 0,.own' 0),(.tmp 1,.di),(.tmp 10,.di),(.tmp 11,.di)]
abbrev AQC:As:=[(.exit 2,[(.obj 0,.own 3 U0),(.tmp 0,.own' 0),(.tmp 1,.di),(.tmp 10,.di),(.tmp 11,.di)])]
def Me[Lk]:U7→Option Vm:=fun(a0,a1,a2,a3,_)=>
 match(ile a2 a3)with
 |true=>match idx a0 a3 with|none=>none|some x0=>match idx a0 a1 with|none=>none|some x1=>match EK ((AP a0 (AF a3) 0),(AP a0 (AF a1) 0),())with|none=>none|some (y2,_)=>match(!y2)with
  |true=>some (.inl (a0,a1,a2,(IntKind.wrap .i64 (a3-1)),()))
  |false=>some (.inr (.inl (a0,a1,a2,a3,())))
 |false=>some (.inr (.inl (a0,a1,a2,a3,())))
abbrev AQI:AE:=[(.obj 0,.own 3 U0),(.tmp 0,.own' 0),(.tmp 1,.di),(.tmp 10,.di),(.tmp 11,.di)]
abbrev AQD:As:=[(.exit 0,[(.obj 0,.own 3 U0),(.tmp 0,.own' 0),(.tmp 1,.di),(.tmp 10,.di),(.tmp 11,.di)])]
def Mf[Lk]:U7→Option Vm:=fun(a0,a1,a2,a3,_)=>
 match(ile a2 a3)with
 |true=>match idx a0 a2 with|none=>none|some x0=>match idx a0 a1 with|none=>none|some x1=>match EK ((AP a0 (AF a2) 0),(AP a0 (AF a1) 0),())with|none=>none|some (y2,_)=>match y2 with
  |true=>some (.inl (a0,a1,(IntKind.wrap .i64 (a2+1)),a3,()))
  |false=>some (.inr (.inl (a0,a1,a2,a3,())))
 |false=>some (.inr (.inl (a0,a1,a2,a3,())))
def ZM[Lk]:U7→Option ((List Int×Int×Bool×Unit)):=fun(a0,a1,a2,a3,_)=>
 match idx a0 a3 with|none=>none|some x0=>match idx a0 a1 with|none=>none|some x1=>match idx a0 a1 with|none=>none|some x2=>match idx (An a0 (AF a1) (AP a0 (AF a3) 0)) a3 with|none=>none|some x3=>match AS Mf many ((An (An a0 (AF a1) (AP a0 (AF a3) 0)) (AF a3) (AP a0 (AF a1) 0)),a1,(IntKind.wrap .i64 (a1+1)),(IntKind.wrap .i64 (a2-1)),())with|none=>none|some r=>match r with
 |.inl (o4,o5,o6,o7,_)=>match AS Me many (o4,o5,o6,o7,())with|none=>none|some r=>match r with
  |.inl (o8,o9,o10,o11,_)=>match(ilt o11 o10)with
   |true=>match idx o8 o9 with|none=>none|some x12=>match idx o8 o11 with|none=>none|some x13=>match idx o8 o11 with|none=>none|some x14=>match idx (An o8 (AF o11) (AP o8 (AF o9) 0)) o9 with|none=>none|some x15=>some ((An (An o8 (AF o11) (AP o8 (AF o9) 0)) (AF o9) (AP o8 (AF o11) 0)),o11,true,())
   |false=>match idx o8 o11 with|none=>none|some x16=>match idx o8 o10 with|none=>none|some x17=>match idx o8 o10 with|none=>none|some x18=>match idx (An o8 (AF o10) (AP o8 (AF o11) 0)) o11 with|none=>none|some x19=>match AS Md many ((An (An o8 (AF o10) (AP o8 (AF o11) 0)) (AF o11) (AP o8 (AF o10) 0)),o9,(IntKind.wrap .i64 (o10+1)),(IntKind.wrap .i64 (o11-1)),())with|none=>none|some r=>match r with
   |.inl (o20,o21,o22,_)=>match idx o20 o21 with|none=>none|some x23=>match idx o20 o22 with|none=>none|some x24=>match idx o20 o22 with|none=>none|some x25=>match idx (An o20 (AF o22) (AP o20 (AF o21) 0)) o21 with|none=>none|some x26=>some ((An (An o20 (AF o22) (AP o20 (AF o21) 0)) (AF o21) (AP o20 (AF o22) 0)),o22,false,())
   |.inr _=>none
  |.inr _=>none
 |.inr _=>none
def Ra[Lk]:=fun v=>Lk.f (ZM v)
theorem AQJ v:Ra v=ZM v:=AN _
abbrev AB5:AE:=[(.tmp 0,.own 3 U0),(.tmp 1,.di),(.tmp 2,.di),(.tmp 3,.di)]
abbrev AB4:AE:=[(.obj 0,.own 3 U0)]
abbrev AB3:List RS:=[]
abbrev AYY:AE:=[(.obj 0,.own 3 U0),(.tmp 0,.own' 0),(.tmp 1,.di),(.tmp 2,.di),(.tmp 3,.di),(.tmp 8,.dat .bool),(.tmp 9,.dat .bool)]
abbrev AYX:As:=[(.ret,[(.obj 0,.own 3 U0)])]
def AKX[Lk](self:U7→Option (Uc))(y7:List Int)(a1 a2 p l:Int)(a4 a5:Bool):Option (Uz⊕Uc⊕Unit):=
 match(ilt 0 a1)with
 |true=>match idx y7 (IntKind.wrap .i64 (a1-1))with|none=>none|some x9=>match idx y7 p with|none=>none|some x10=>match EK ((AP y7 (AF (IntKind.wrap .i64 (a1-1))) 0),(AP y7 (AF p) 0),())with|none=>none|some (y11,_)=>match(!y11)with
  |true=>match OB (y7,a1,a2,p,())with|none=>none|some (y12,y13,_)=>some (.inl (y12,y13,a2,l,a4,a5,()))
  |false=>match Ra (y7,a1,a2,p,())with|none=>none|some (y14,y15,y16,_)=>match quo? .i64 (IntKind.wrap .i64 (a2-a1)) 8 with|none=>none|some x17=>match(ilt (IntKind.wrap .i64 (y15-a1)) (IntKind.wrap .i64 (a2-y15)))with
  |true=>match self (y14,a1,y15,l,())with|none=>none|some (y18,_)=>some (.inl (y18,(IntKind.wrap .i64 (y15+1)),a2,l,(ile x17 (IntKind.wrap .i64 (y15-a1))),y16,()))
  |false=>match self (y14,(IntKind.wrap .i64 (y15+1)),a2,l,())with|none=>none|some (y19,_)=>some (.inl (y19,a1,y15,l,(ile x17 (IntKind.wrap .i64 (a2-y15))),y16,()))
 |false=>match Ra (y7,a1,a2,p,())with|none=>none|some (y20,y21,y22,_)=>match quo? .i64 (IntKind.wrap .i64 (a2-a1)) 8 with|none=>none|some x23=>match(ilt (IntKind.wrap .i64 (y21-a1)) (IntKind.wrap .i64 (a2-y21)))with
 |true=>match self (y20,a1,y21,l,())with|none=>none|some (y24,_)=>some (.inl (y24,(IntKind.wrap .i64 (y21+1)),a2,l,(ile x23 (IntKind.wrap .i64 (y21-a1))),y22,()))
 |false=>match self (y20,(IntKind.wrap .i64 (y21+1)),a2,l,())with|none=>none|some (y25,_)=>some (.inl (y25,a1,y21,l,(ile x23 (IntKind.wrap .i64 (a2-y21))),y22,()))
def Ae6[Lk](self:U7→Option (Uc))(y6:List Int)(a1 a2 p h l:Int)(a4 a5:Bool):Option (Uz⊕Uc⊕Unit):=
 match a4 with
 |true=>match a5 with
  |true=>match(ieq h 1)with
   |true=>match Jx (y6,a1,a2,())with|none=>none|some (y7,y8,_)=>match y8 with
    |true=>some (.inr (.inl (y7,())))
    |false=>AKX self y7 a1 a2 p l a4 a5
   |false=>AKX self y6 a1 a2 p l a4 a5
  |false=>AKX self y6 a1 a2 p l a4 a5
 |false=>AKX self y6 a1 a2 p l a4 a5
def Ae5[Lk](self:U7→Option (Uc))(y2:List Int)(a1 a2 l:Int)(a4 a5:Bool):Option (Uz⊕Uc⊕Unit):=
 match UP (y2,a1,a2,())with|none=>none|some (y3,y4,y5,_)=>match(ieq y5 2)with
 |true=>match AaU (y3,a1,a2,())with|none=>none|some (y6,_)=>Ae6 self y6 a1 a2 (IntKind.wrap .i64 ((IntKind.wrap .i64 (a2-1))-(IntKind.wrap .i64 (y4-a1)))) 1 l a4 a5
 |false=>Ae6 self y3 a1 a2 y4 y5 l a4 a5
def N8[Lk](self:U7→Option (Uc)):Uz→Option (Uz⊕Uc⊕Unit):=fun(a0,a1,a2,a3,a4,a5,_)=>
 match(ile (IntKind.wrap .i64 (a2-a1)) 12)with
 |true=>match Ab5 (a0,a1,a2,())with|none=>none|some (y0,_)=>some (.inr (.inl (y0,())))
 |false=>match(ieq a3 0)with
 |true=>match AH0 (a0,a1,a2,())with|none=>none|some (y1,_)=>some (.inr (.inl (y1,())))
 |false=>match(!a4)with
 |true=>match Wl (a0,a1,a2,())with|none=>none|some (y2,_)=>Ae5 self y2 a1 a2 (IntKind.wrap .i64 (a3-1)) a4 a5
 |false=>Ae5 self a0 a1 a2 a3 a4 a5
def AKY[Lk](self:U7→Option (Uc)):U7→Option (Uc):=fun(a0,a1,a2,a3,_)=>
 match AS (N8 self) many (a0,a1,a2,a3,true,true,())with|none=>none|some r=>match r with
 |.inl (o0,_)=>some (o0,())
 |.inr _=>none
def ID[Lk]:Nat→U7→Option (Uc)
 |0,_=>none
 |n+1,v=>AKY (ID n) v
def Aav[Lk]:=fun v=>Lk.f (ID 100 v)
theorem AYZ v:Aav v=ID 100 v:=AN _
abbrev AJV:AE:=[(.tmp 0,.own 3 U0)]
abbrev AJU:AE:=[(.obj 0,.own 3 U0)]
abbrev AJT:List RS:=[]
def ZB[Lk]:Uc→Option (Uc):=fun(a0,_)=>
 match bitsLen ((IntKind.wrap .u64 (AO a0)),())with|none=>none|some (y0,_)=>match Aav (a0,0,(AO a0),y0,())with|none=>none|some (y1,_)=>some (y1,())
def AOM[Lk]:=fun v=>Lk.f (ZB v)
theorem AOL v:AOM v=ZB v:=AN _
end
end Go.Pev
end
section
namespace Go.Pev
noncomputable section
attribute [local irreducible] NA Jh O5 Lq AcC AcD AcE RM T5 Yc AAe Jj AQ many IntKind.wrap AO An AP A1 Bo Dp KE AF BY B1 imax AX Ah
abbrev AWU:AE:=[(.tmp 0,.dat Ua),(.tmp 1,.di)]
abbrev AWT:AE:=[(.tmp 0,.dat .bool)]
abbrev AWS:List RS:=[.one]
def ALl[Lk]:(Ud×Int×Unit)→Option (Uh):=fun(a0,a1,_)=>
 match(ile 0 a1)with
 |true=>some ((ilt a1 a0.1),())
 |false=>some (false,())
def AGJ[Lk]:=fun v=>Lk.f (ALl v)
theorem AY3 v:AGJ v=ALl v:=AN _
abbrev ADc:AE:=[(.tmp 0,.dat Ua),(.tmp 1,.dat Uq)]
abbrev ADb:AE:=[(.tmp 0,.own 42 U5),(.tmp 1,.di)]
abbrev ADa:List RS:=[.one,.one]
abbrev AH6:AE:=[(.tmp 7,.own 42 U5),(.tmp 8,.own 42 U5),(.tmp 9,.own 42 U5),(.tmp 10,.di)]
abbrev AH4:As:=[(.exit 2,[(.tmp 9,.own 42 U5)])]
def GQ[Lk]:Va→Option (Va⊕V1⊕Unit):=fun(a0,a1,a2,a3,_)=>
 match(ilt a3 (AO a1))with
 |true=>match idx a1 a3 with|none=>none|some x0=>match X6 (a0,((AP a1 (AF a3) (0,(0,()))).1,((AP a1 (AF a3) (0,(0,()))).2.1,())),())with|none=>none|some (y1,_)=>match y1 with
  |true=>match idx a1 a3 with|none=>none|some x2=>match(fits ((AO a2)+(AO ([((AP a1 (AF a3) (0,(0,()))).1,((AP a1 (AF a3) (0,(0,()))).2.1,()))]:List U3))))with
   |true=>some (.inl (a0,a1,(A1 a2 ([((AP a1 (AF a3) (0,(0,()))).1,((AP a1 (AF a3) (0,(0,()))).2.1,()))]:List U3)),(IntKind.wrap .i64 (a3+1)),()))
   |false=>none
  |false=>some (.inl (a0,a1,a2,(IntKind.wrap .i64 (a3+1)),()))
 |false=>some (.inr (.inl (a2,())))
abbrev AH7:AE:=[(.tmp 1,.dat Uq),(.tmp 2,.box 2),(.cell 0 0,.di),(.cell 0 1,.dat Up),(.tmp 6,.di)]
abbrev AH5:As:=[(.ret,[(.tmp 4,.nil U5),(.tmp 5,.di)]),(.exit 0,[(.tmp 1,.dat Uq),(.tmp 2,.box 2),(.cell 0 0,.di),(.cell 0 1,.dat Up)])]
def GR[Lk]:Ve→Option (Ve⊕U9⊕(List U3×Int×List U1×Unit)⊕Unit):=fun(a0,a1,a2,a3,_)=>
 match(ilt a3 (AO a0))with
 |true=>match idx a0 a3 with|none=>none|some x0=>match AGJ ((a1,(a2,())),x0.1,())with|none=>none|some (y1,_)=>match(!y1)with
  |true=>some (.inr (.inl (10,())))
  |false=>match idx a0 a3 with|none=>none|some x2=>match AGJ ((a1,(a2,())),x2.2.1,())with|none=>none|some (y3,_)=>match(!y3)with
  |true=>some (.inr (.inl (10,())))
  |false=>some (.inl (a0,a1,a2,(IntKind.wrap .i64 (a3+1)),()))
 |false=>some (.inr (.inr (.inl (a0,a1,a2,()))))
def M7[Lk]:V4→Option ((List U3×Int×Unit)):=fun(a0,a1,_)=>
 match B5 ((a0.1,(a0.2.1,())),())with|none=>none|some (y0,_)=>match(!y0)with
 |true=>some (([]:List U3),1,())
 |false=>match AS GR many (a1,a0.1,a0.2.1,0,())with|none=>none|some r=>match r with
 |.inl (o1,_)=>some (([]:List U3),o1,())
 |.inr r=>match r with
 |.inl (o2,o3,o4,_)=>match LF ((o3,(o4,())),())with|none=>none|some (y5,_)=>match N2 (o3,o2,())with|none=>none|some (y6,_)=>match AS GQ many (y5,y6,([]:List U3),0,())with|none=>none|some r=>match r with
  |.inl (o7,_)=>some (o7,0,())
  |.inr _=>none
 |.inr _=>none
def QK[Lk]:=fun v=>Lk.f (M7 v)
theorem WN v:QK v=M7 v:=AN _
abbrev Mk:AE:=[(.tmp 0,.dat Ua),(.tmp 1,.di),(.tmp 2,.di)]
abbrev Mj:AE:=[(.tmp 0,.own 3 U0)]
abbrev Mi:List RS:=[.one]
abbrev Rk:AE:=[(.tmp 1,.di),(.tmp 3,.box 2),(.cell 0 0,.di),(.cell 0 1,.dat Up),(.tmp 7,.own 3 U0),(.tmp 8,.own 3 U0),(.tmp 9,.di)]
abbrev Rj:As:=[(.exit 0,[(.tmp 8,.own 3 U0)])]
def C7[Lk]:(Int×Int×List U1×List Int×List Int×Int×Unit)→Option ((Int×Int×List U1×List Int×List Int×Int×Unit)⊕Uc⊕Unit):=fun(a0,a1,a2,a3,a4,a5,_)=>
 match(ilt a5 a1)with
 |true=>match idx a3 a5 with|none=>none|some x0=>match idx a3 a0 with|none=>none|some x1=>match(ieq (AP a3 (AF a5) 0) (AP a3 (AF a0) 0))with
  |true=>match(fits ((AO a4)+(AO ([a5]:List (Int)))))with
   |true=>some (.inl (a0,a1,a2,a3,(A1 a4 ([a5]:List (Int))),(IntKind.wrap .i64 (a5+1)),()))
   |false=>none
  |false=>some (.inl (a0,a1,a2,a3,a4,(IntKind.wrap .i64 (a5+1)),()))
 |false=>some (.inr (.inl (a4,())))
def JA[Lk]:V6→Option (Uc):=fun(a0,a1,a2,_)=>
 match HQ ((a0.1,(a0.2.1,())),a2,())with|none=>none|some (y0,_)=>match DO (a0.1,y0,())with|none=>none|some (y1,_)=>match AS C7 many (a1,a0.1,a0.2.1,y1,([]:List (Int)),0,())with|none=>none|some r=>match r with
 |.inl (o2,_)=>some (o2,())
 |.inr _=>none
def GA[Lk]:=fun v=>Lk.f (JA v)
theorem Rl v:GA v=JA v:=AN _
def M4[Lk]:Ue→Option (Ue⊕Uh⊕(Unit)⊕Unit):=fun(a0,a1,a2,_)=>
 match(ilt a2 (AO a0))with
 |true=>match idx a0 a2 with|none=>none|some x0=>match(ieq x0 a1)with
  |true=>some (.inr (.inl (true,())))
  |false=>some (.inl (a0,a1,(IntKind.wrap .i64 (a2+1)),()))
 |false=>some (.inr (.inr (.inl ())))
def ALx[Lk]:Us→Option (Uh):=fun(a0,a1,_)=>
 match AS M4 many (a0,a1,0,())with|none=>none|some r=>match r with
 |.inl (o0,_)=>some (o0,())
 |.inr r=>match r with
 |.inl _=>some (false,())
 |.inr _=>none
def M5[Lk]:=fun v=>Lk.f (ALx v)
theorem Agi v:M5 v=ALx v:=AN _
def MM[Lk]:(Ud×Int×Int×Int×Unit)→Option (Us):=fun(a0,a1,a2,a3,_)=>
 match B5 ((a0.1,(a0.2.1,())),())with|none=>none|some (y0,_)=>match(!y0)with
 |true=>some (([]:List (Int)),1,())
 |false=>match AGJ ((a0.1,(a0.2.1,())),a1,())with|none=>none|some (y1,_)=>match(!y1)with
 |true=>some (([]:List (Int)),10,())
 |false=>match AGJ ((a0.1,(a0.2.1,())),a2,())with|none=>none|some (y2,_)=>match(!y2)with
 |true=>some (([]:List (Int)),10,())
 |false=>match GA ((a0.1,(a0.2.1,())),a1,a3,())with|none=>none|some (y3,_)=>match GA ((a0.1,(a0.2.1,())),a2,a3,())with|none=>none|some (y4,_)=>match M5 (y3,a2,())with|none=>none|some (y5,_)=>match y5 with
 |true=>some (([]:List (Int)),5,())
 |false=>match(ilt (AO y3) (AO y4))with
 |true=>some (y3,0,())
 |false=>match(ieq (AO y3) (AO y4))with
 |true=>match idx y3 0 with|none=>none|some x6=>match idx y4 0 with|none=>none|some x7=>match(ilt (AP y3 0 0) (AP y4 0 0))with
  |true=>some (y3,0,())
  |false=>some (y4,0,())
 |false=>some (y4,0,())
def AJf[Lk]:=fun v=>Lk.f (MM v)
theorem To v:AJf v=MM v:=AN _
def Jy[Lk]:Uj→Option (Uj⊕Vb⊕(Int×Bool×Bool×Int×Int×Int×Int×Int×Int×Bool×Int×List U1×Bool×Bool×Int×Int×Int×Int×Int×Bool×Unit)⊕Unit):=fun(a0,a1,a2,a3,a4,a5,a6,a7,a8,a9,a10,a11,a12,a13,a14,a15,a16,a17,a18,a19,a20,a21,_)=>
 match(ilt a20 (AO a11))with
 |true=>match idx a11 a20 with|none=>none|some x0=>match(AP a11 (AF a20) (0,(0,(0,(false,()))))).2.2.2.1 with
  |true=>some (.inl (a0,a1,a2,a3,a4,a5,a6,a7,a8,a9,a10,a11,a12,a13,a14,a15,a16,a17,a18,a19,(IntKind.wrap .i64 (a20+1)),a21,()))
  |false=>match(!(ieq (AP a11 (AF a20) (0,(0,(0,(false,()))))).2.2.1 a18))with
  |true=>some (.inl (a0,a1,a2,a3,a4,a5,a6,a7,a8,a9,a10,a11,a12,a13,a14,a15,a16,a17,a18,a19,(IntKind.wrap .i64 (a20+1)),a21,()))
  |false=>match M5 (a19,(AP a11 (AF a20) (0,(0,(0,(false,()))))).1,())with|none=>none|some (y1,_)=>match y1 with
  |true=>match M5 (a19,(AP a11 (AF a20) (0,(0,(0,(false,()))))).2.1,())with|none=>none|some (y2,_)=>match y2 with
   |true=>match idx a11 a20 with|none=>none|some x3=>some (.inl (a0,a1,a2,a3,a4,a5,a6,a7,a8,a9,a10,(An a11 (AF a20) ((AP a11 (AF a20) (0,(0,(0,(false,()))))).1,((AP a11 (AF a20) (0,(0,(0,(false,()))))).2.1,((B1 a17 (IntKind.wrap .i64 (a18+1))),((AP a11 (AF a20) (0,(0,(0,(false,()))))).2.2.2.1,()))))),a12,a13,a14,a15,(IntKind.wrap .i64 (a16+1)),a17,a18,a19,(IntKind.wrap .i64 (a20+1)),a21,()))
   |false=>match M5 (a19,(AP a11 (AF a20) (0,(0,(0,(false,()))))).1,())with|none=>none|some (y4,_)=>match y4 with
   |true=>match idx a11 a20 with|none=>none|some x5=>some (.inr (.inl (a10,(An a11 (AF a20) ((AP a11 (AF a20) (0,(0,(0,(false,()))))).1,((AP a11 (AF a20) (0,(0,(0,(false,()))))).2.1,((AP a11 (AF a20) (0,(0,(0,(false,()))))).2.2.1,(true,()))))),a12,true,(AP a11 (AF a20) (0,(0,(0,(false,()))))).1,(AP a11 (AF a20) (0,(0,(0,(false,()))))).2.1,a16,0,())))
   |false=>match M5 (a19,(AP a11 (AF a20) (0,(0,(0,(false,()))))).2.1,())with|none=>none|some (y6,_)=>match y6 with
   |true=>match idx a11 a20 with|none=>none|some x7=>some (.inr (.inl (a10,(An a11 (AF a20) ((AP a11 (AF a20) (0,(0,(0,(false,()))))).1,((AP a11 (AF a20) (0,(0,(0,(false,()))))).2.1,((AP a11 (AF a20) (0,(0,(0,(false,()))))).2.2.1,(true,()))))),a12,true,(AP a11 (AF a20) (0,(0,(0,(false,()))))).1,(AP a11 (AF a20) (0,(0,(0,(false,()))))).2.1,a16,0,())))
   |false=>some (.inl (a0,a1,a2,a3,a4,a5,a6,a7,a8,a9,a10,a11,a12,a13,a14,a15,a16,a17,a18,a19,(IntKind.wrap .i64 (a20+1)),a21,()))
  |false=>match M5 (a19,(AP a11 (AF a20) (0,(0,(0,(false,()))))).1,())with|none=>none|some (y8,_)=>match y8 with
  |true=>match idx a11 a20 with|none=>none|some x9=>some (.inr (.inl (a10,(An a11 (AF a20) ((AP a11 (AF a20) (0,(0,(0,(false,()))))).1,((AP a11 (AF a20) (0,(0,(0,(false,()))))).2.1,((AP a11 (AF a20) (0,(0,(0,(false,()))))).2.2.1,(true,()))))),a12,true,(AP a11 (AF a20) (0,(0,(0,(false,()))))).1,(AP a11 (AF a20) (0,(0,(0,(false,()))))).2.1,a16,0,())))
  |false=>match M5 (a19,(AP a11 (AF a20) (0,(0,(0,(false,()))))).2.1,())with|none=>none|some (y10,_)=>match y10 with
  |true=>match idx a11 a20 with|none=>none|some x11=>some (.inr (.inl (a10,(An a11 (AF a20) ((AP a11 (AF a20) (0,(0,(0,(false,()))))).1,((AP a11 (AF a20) (0,(0,(0,(false,()))))).2.1,((AP a11 (AF a20) (0,(0,(0,(false,()))))).2.2.1,(true,()))))),a12,true,(AP a11 (AF a20) (0,(0,(0,(false,()))))).1,(AP a11 (AF a20) (0,(0,(0,(false,()))))).2.1,a16,0,())))
  |false=>some (.inl (a0,a1,a2,a3,a4,a5,a6,a7,a8,a9,a10,a11,a12,a13,a14,a15,a16,a17,a18,a19,(IntKind.wrap .i64 (a20+1)),a21,()))
 |false=>some (.inr (.inr (.inl (a0,a1,a2,a3,a4,a5,a6,a7,a8,a9,a10,a11,a12,a13,a14,a15,a16,a17,a18,a21,()))))
def Jz[Lk]:Uj→Option (Uj⊕(Int×Bool×Bool×Int×Int×Int×Int×Int×Int×Bool×Int×List U1×Bool×Bool×Int×Int×Int×Int×Int×List Int×Bool×Unit)⊕Unit):=fun(a0,a1,a2,a3,a4,a5,a6,a7,a8,a9,a10,a11,a12,a13,a14,a15,a16,a17,a18,a19,a20,a21,_)=>
 match(ilt a20 (AO a11))with
 |true=>match idx a11 a20 with|none=>none|some x0=>match(AP a11 (AF a20) (0,(0,(0,(false,()))))).2.2.2.1 with
  |true=>match(ieq (AP a11 (AF a20) (0,(0,(0,(false,()))))).2.2.1 a18)with
   |true=>match M5 (a19,(AP a11 (AF a20) (0,(0,(0,(false,()))))).1,())with|none=>none|some (y1,_)=>match y1 with
    |true=>match M5 (a19,(AP a11 (AF a20) (0,(0,(0,(false,()))))).2.1,())with|none=>none|some (y2,_)=>match y2 with
     |true=>match idx a11 a20 with|none=>none|some x3=>some (.inl (a0,a1,a2,a3,a4,a5,a6,a7,a8,a9,a10,(An a11 (AF a20) ((AP a11 (AF a20) (0,(0,(0,(false,()))))).1,((AP a11 (AF a20) (0,(0,(0,(false,()))))).2.1,((B1 a17 (IntKind.wrap .i64 (a18+1))),((AP a11 (AF a20) (0,(0,(0,(false,()))))).2.2.2.1,()))))),a12,a13,a14,a15,(IntKind.wrap .i64 (a16+1)),a17,a18,a19,(IntKind.wrap .i64 (a20+1)),a21,()))
     |false=>some (.inl (a0,a1,a2,a3,a4,a5,a6,a7,a8,a9,a10,a11,a12,a13,a14,a15,a16,a17,a18,a19,(IntKind.wrap .i64 (a20+1)),a21,()))
    |false=>some (.inl (a0,a1,a2,a3,a4,a5,a6,a7,a8,a9,a10,a11,a12,a13,a14,a15,a16,a17,a18,a19,(IntKind.wrap .i64 (a20+1)),a21,()))
   |false=>some (.inl (a0,a1,a2,a3,a4,a5,a6,a7,a8,a9,a10,a11,a12,a13,a14,a15,a16,a17,a18,a19,(IntKind.wrap .i64 (a20+1)),a21,()))
  |false=>some (.inl (a0,a1,a2,a3,a4,a5,a6,a7,a8,a9,a10,a11,a12,a13,a14,a15,a16,a17,a18,a19,(IntKind.wrap .i64 (a20+1)),a21,()))
 |false=>some (.inr (.inl (a0,a1,a2,a3,a4,a5,a6,a7,a8,a9,a10,a11,a12,a13,a14,a15,a16,a17,a18,a19,a21,())))
def IH[Lk]:Un→Option (Un⊕Vb⊕(Int×Bool×Bool×Int×Int×Int×Int×List U1×Bool×Bool×Int×Int×Int×Unit)⊕Unit):=fun(a0,a1,a2,a3,a4,a5,a6,a7,a8,a9,a10,a11,a12,a13,a14,a15,a16,a17,a18,_)=>
 match(ile 0 a18)with
 |true=>match a9 with
  |true=>match AJf ((a10,(a11,())),a6,a7,a18,())with|none=>none|some (y0,y1,_)=>match AS Jz many (a0,a1,a2,a3,a4,a5,a6,a7,a8,a9,a10,a11,a12,a13,a14,a15,a16,a17,a18,y0,0,a9,())with|none=>none|some r=>match r with
   |.inl (o2,o3,o4,o5,o6,o7,o8,o9,o10,o11,o12,o13,o14,o15,o16,o17,o18,o19,o20,o21,o22,_)=>match AS Jy many (o2,o3,o4,o5,o6,o7,o8,o9,o10,o11,o12,o13,o14,o15,o16,o17,o18,o19,o20,o21,0,o22,())with|none=>none|some r=>match r with
    |.inl (o23,o24,o25,o26,o27,o28,o29,o30,_)=>some (.inr (.inl (o23,o24,o25,o26,o27,o28,o29,o30,())))
    |.inr r=>match r with
    |.inl (o31,o32,o33,o34,o35,o36,o37,o38,o39,o40,o41,o42,o43,o44,o45,o46,o47,o48,o49,o50,_)=>some (.inl (o31,o32,o33,o34,o35,o36,o37,o38,o39,o40,o41,o42,o43,o44,o45,o46,o47,o48,(IntKind.wrap .i64 (o49-1)),()))
    |.inr _=>none
   |.inr _=>none
  |false=>some (.inr (.inr (.inl (a0,a1,a2,a3,a4,a5,a10,a11,a12,a13,a14,a15,a16,()))))
 |false=>some (.inr (.inr (.inl (a0,a1,a2,a3,a4,a5,a10,a11,a12,a13,a14,a15,a16,()))))
def ZP[Lk]:V6→Option ((Int×List U1×Ug×Int×Unit)):=fun(a0,a1,a2,_)=>
 match B5 ((a0.1,(a0.2.1,())),())with|none=>none|some (y0,_)=>match(!y0)with
 |true=>some (a0.1,a0.2.1,(false,(false,((0,(0,())),(0,())))),1,())
 |false=>match AGJ ((a0.1,(a0.2.1,())),a1,())with|none=>none|some (y1,_)=>match(!y1)with
 |true=>some (a0.1,a0.2.1,(false,(false,((0,(0,())),(0,())))),10,())
 |false=>match AGJ ((a0.1,(a0.2.1,())),a2,())with|none=>none|some (y2,_)=>match(!y2)with
 |true=>some (a0.1,a0.2.1,(false,(false,((0,(0,())),(0,())))),10,())
 |false=>match AWz ((a0.1,(a0.2.1,())),a1,a2,())with|none=>none|some (y3,_)=>match(ilt y3 0)with
 |true=>some (a0.1,a0.2.1,(false,(false,((0,(0,())),(0,())))),6,())
 |false=>match idx a0.2.1 y3 with|none=>none|some x4=>match Bv a0.2.1 0 y3 with|none=>none|some x5=>match(fits ((AO ([]:List U1))+(AO x5)))with
 |true=>match Bv a0.2.1 (IntKind.wrap .i64 (y3+1)) (AO a0.2.1)with|none=>none|some x6=>match(fits ((AO (A1 ([]:List U1) x5))+(AO x6)))with
  |true=>match Ln (a0.1,())with|none=>none|some (y7,_)=>match AS IH many (0,false,false,0,0,0,x4.1,x4.2.1,x4.2.2.1,x4.2.2.2.1,a0.1,(A1 (A1 ([]:List U1) x5) x6),x4.2.2.2.1,false,0,0,0,y7,x4.2.2.1,())with|none=>none|some r=>match r with
   |.inl (o8,o9,o10,o11,o12,o13,o14,o15,_)=>some (o8,o9,(o10,(o11,((o12,(o13,())),(o14,())))),o15,())
   |.inr r=>match r with
   |.inl (o16,o17,o18,o19,o20,o21,o22,o23,o24,o25,o26,o27,o28,_)=>some (o22,o23,(o24,(o25,((o26,(o27,())),(o28,())))),0,())
   |.inr _=>none
  |false=>none
 |false=>none
def AHb[Lk]:=fun v=>Lk.f (ZP v)
theorem AQW v:AHb v=ZP v:=AN _
def CT[Lk]:(Int×List U1×Int×List U3×List Ug×Int×List U1×Int×Unit)→Option ((Int×List U1×Int×List U3×List Ug×Int×List U1×Int×Unit)⊕(Int×List U1×Int×Unit)⊕(Int×List Ug×Int×List U1×Unit)⊕Unit):=fun(a0,a1,a2,a3,a4,a5,a6,a7,_)=>
 match(ilt a7 (AO a3))with
 |true=>match idx a3 a7 with|none=>none|some x0=>match idx a3 a7 with|none=>none|some x1=>match AHb ((a5,(a6,())),(AP a3 (AF a7) (0,(0,()))).1,(AP a3 (AF a7) (0,(0,()))).2.1,())with|none=>none|some (y2,y3,y4,y5,_)=>match(!(ieq y5 0))with
  |true=>some (.inr (.inl (a0,a1,y5,())))
  |false=>match(fits ((AO a4)+(AO ([(y4.1,(y4.2.1,((y4.2.2.1.1,(y4.2.2.1.2.1,())),(y4.2.2.2.1,()))))]:List Ug))))with
  |true=>some (.inl (a0,a1,a2,a3,(A1 a4 ([(y4.1,(y4.2.1,((y4.2.2.1.1,(y4.2.2.1.2.1,())),(y4.2.2.2.1,()))))]:List Ug)),y2,y3,(IntKind.wrap .i64 (a7+1)),()))
  |false=>none
 |false=>some (.inr (.inr (.inl (a2,a4,a5,a6,()))))
def SS[Lk]:V4→Option ((Ud×List Ug×Int×Unit)):=fun(a0,a1,_)=>
 match QK ((a0.1,(a0.2.1,())),a1,())with|none=>none|some (y0,y1,_)=>match(!(ieq y1 0))with
 |true=>some ((a0.1,(a0.2.1,())),([]:List Ug),y1,())
 |false=>match AS CT many (a0.1,a0.2.1,0,y0,([]:List Ug),a0.1,a0.2.1,0,())with|none=>none|some r=>match r with
 |.inl (o2,o3,o4,_)=>some ((o2,(o3,())),([]:List Ug),o4,())
 |.inr r=>match r with
 |.inl (o5,o6,o7,o8,_)=>some ((o7,(o8,())),o6,0,())
 |.inr _=>none
def AD2[Lk]:=fun v=>Lk.f (SS v)
theorem AII v:AD2 v=SS v:=AN _
abbrev Tn:AE:=[(.tmp 0,.dat Ua)]
abbrev Tm:AE:=[(.tmp 0,.dat .bool)]
abbrev Tl:List RS:=[.one]
abbrev AAX:AE:=[(.tmp 1,.box 2),(.cell 0 0,.di),(.cell 0 1,.dat Up),(.tmp 6,.di),(.tmp 7,.di),(.tmp 11,.di)]
abbrev AAT:As:=[(.ret,[(.tmp 2,.dat .bool)]),(.exit 6,[(.tmp 1,.box 2),(.cell 0 0,.di),(.cell 0 1,.dat Up),(.tmp 6,.di),(.tmp 7,.di)])]
def DX[Lk]:(Int×List U1×Int×Int×Int×Unit)→Option ((Int×List U1×Int×Int×Int×Unit)⊕Uh⊕V7⊕Unit):=fun(a0,a1,a2,a3,a4,_)=>
 match(ilt a4 a0)with
 |true=>match GA ((a0,(a1,())),a4,a3,())with|none=>none|some (y0,_)=>match(ilt (imax 1 a2) (AO y0))with
  |true=>some (.inr (.inl (false,())))
  |false=>some (.inl (a0,a1,a2,a3,(IntKind.wrap .i64 (a4+1)),()))
 |false=>some (.inr (.inr (.inl (a0,a1,a2,a3,()))))
abbrev AAY:AE:=[(.tmp 1,.box 2),(.cell 0 0,.di),(.cell 0 1,.dat Up),(.tmp 6,.di),(.tmp 7,.di),(.tmp 8,.own 3 U0),(.tmp 9,.di)]
abbrev AAU:As:=[(.ret,[(.tmp 2,.dat .bool)]),(.exit 4,[(.tmp 1,.box 2),(.cell 0 0,.di),(.cell 0 1,.dat Up),(.tmp 6,.di),(.tmp 7,.di)])]
def DY[Lk]:(Int×List U1×Int×Int×List Int×Int×Unit)→Option ((Int×List U1×Int×Int×List Int×Int×Unit)⊕Uh⊕V7⊕Unit):=fun(a0,a1,a2,a3,a4,a5,_)=>
 match(ilt a5 (AO a1))with
 |true=>match idx a1 a5 with|none=>none|some x0=>match(!x0.2.2.2.1)with
  |true=>match(ieq x0.2.2.1 a3)with
   |true=>match idx a4 x0.1 with|none=>none|some x1=>match idx a4 x0.2.1 with|none=>none|some x2=>match(!(ieq (AP a4 (AF x0.1) 0) (AP a4 (AF x0.2.1) 0)))with
    |true=>some (.inr (.inl (false,())))
    |false=>some (.inl (a0,a1,a2,a3,a4,(IntKind.wrap .i64 (a5+1)),()))
   |false=>some (.inl (a0,a1,a2,a3,a4,(IntKind.wrap .i64 (a5+1)),()))
  |false=>some (.inl (a0,a1,a2,a3,a4,(IntKind.wrap .i64 (a5+1)),()))
 |false=>some (.inr (.inr (.inl (a0,a1,a2,a3,()))))
abbrev AAZ:AE:=[(.tmp 1,.box 2),(.cell 0 0,.di),(.cell 0 1,.dat Up),(.tmp 6,.di),(.tmp 7,.di)]
abbrev AAV:As:=[(.ret,[(.tmp 2,.dat .bool)]),(.exit 2,[])]
def Eb[Lk]:V7→Option (V7⊕Uh⊕(Unit)⊕Unit):=fun(a0,a1,a2,a3,_)=>
 match Ln (a0,())with|none=>none|some (y0,_)=>match(ile a3 y0)with
 |true=>match HQ ((a0,(a1,())),a3,())with|none=>none|some (y1,_)=>match DO (a0,y1,())with|none=>none|some (y2,_)=>match AS DY many (a0,a1,a2,a3,y2,0,())with|none=>none|some r=>match r with
  |.inl (o3,_)=>some (.inr (.inl (o3,())))
  |.inr r=>match r with
  |.inl (o4,o5,o6,o7,_)=>match AS DX many (o4,o5,o6,o7,0,())with|none=>none|some r=>match r with
   |.inl (o8,_)=>some (.inr (.inl (o8,())))
   |.inr r=>match r with
   |.inl (o9,o10,o11,o12,_)=>match quo? .i64 o11 2 with|none=>none|some x13=>some (.inl (o9,o10,x13,(IntKind.wrap .i64 (o12+1)),()))
   |.inr _=>none
  |.inr _=>none
 |false=>some (.inr (.inr (.inl ())))
abbrev AAa:AE:=[(.tmp 1,.box 2),(.cell 0 0,.di),(.cell 0 1,.dat Up),(.tmp 3,.own 3 U0),(.tmp 4,.own 3 U0),(.tmp 5,.di)]
abbrev AAW:As:=[(.ret,[(.tmp 2,.dat .bool)]),(.exit 0,[(.tmp 1,.box 2),(.cell 0 0,.di),(.cell 0 1,.dat Up)])]
def Ec[Lk]:(Int×List U1×List Int×List Int×Int×Unit)→Option ((Int×List U1×List Int×List Int×Int×Unit)⊕Uh⊕(Int×List U1×Unit)⊕Unit):=fun(a0,a1,a2,a3,a4,_)=>
 match(ilt a4 a0)with
 |true=>match idx a2 a4 with|none=>none|some x0=>match idx a3 a4 with|none=>none|some x1=>match(!(ieq (AP a2 (AF a4) 0) (AP a3 (AF a4) 0)))with
  |true=>some (.inr (.inl (false,())))
  |false=>some (.inl (a0,a1,a2,a3,(IntKind.wrap .i64 (a4+1)),()))
 |false=>some (.inr (.inr (.inl (a0,a1,()))))
def Nv[Lk]:(Ud×Unit)→Option (Uh):=fun(a0,_)=>
 match B5 ((a0.1,(a0.2.1,())),())with|none=>none|some (y0,_)=>match(!y0)with
 |true=>some (false,())
 |false=>match LF ((a0.1,(a0.2.1,())),())with|none=>none|some (y1,_)=>match DO (a0.1,y1,())with|none=>none|some (y2,_)=>match HQ ((a0.1,(a0.2.1,())),0,())with|none=>none|some (y3,_)=>match DO (a0.1,y3,())with|none=>none|some (y4,_)=>match AS Ec many (a0.1,a0.2.1,y2,y4,0,())with|none=>none|some r=>match r with
 |.inl (o5,_)=>some (o5,())
 |.inr r=>match r with
 |.inl (o6,o7,_)=>match AS Eb many (o6,o7,o6,0,())with|none=>none|some r=>match r with
  |.inl (o8,_)=>some (o8,())
  |.inr r=>match r with
  |.inl _=>some (true,())
  |.inr _=>none
 |.inr _=>none
def RC[Lk]:=fun v=>Lk.f (Nv v)
theorem AAb v:RC v=Nv v:=AN _
end
end Go.Pev
end
section
namespace Go.Pev
noncomputable section
attribute [local irreducible] NA Jh O5 Lq AcC AcD AcE RM T5 Yc AAe Jj AQ many IntKind.wrap AO An AP A1 Bo Dp KE AF BY B1 imax AX Ah
abbrev AXl:AE:=[(.tmp 0,.dat Up),(.tmp 1,.dat U2),(.tmp 2,.clo 98 [])]
abbrev AXk:AE:=[(.tmp 0,.di),(.tmp 1,.dat .bool)]
abbrev AXj:List RS:=[.one,.one]
abbrev AZM:AE:=[(.tmp 0,.dat Up),(.tmp 2,.clo 98 []),(.tmp 4,.box 4),(.cell 0 0,.di),(.cell 0 1,.di),(.cell 0 2,.di),(.cell 0 3,.dat .bool),(.tmp 8,.di),(.tmp 9,.di),(.tmp 10,.di)]
abbrev AZL:As:=[(.exit 0,[(.tmp 0,.dat Up),(.tmp 2,.clo 98 []),(.tmp 4,.box 4),(.cell 0 0,.di),(.cell 0 1,.di),(.cell 0 2,.di),(.cell 0 3,.dat .bool),(.tmp 8,.di),(.tmp 9,.di)])]
def LN[Lk]:(List U1×Int×Int×Int×Bool×Int×Int×Int×Unit)→Option ((List U1×Int×Int×Int×Bool×Int×Int×Int×Unit)⊕(List U1×Int×Int×Int×Bool×Int×Int×Unit)⊕Unit):=fun(a0,a1,a2,a3,a4,a5,a6,a7,_)=>
 match(ilt a6 a7)with
 |true=>match shr? .u64 (IntKind.wrap .u64 (IntKind.wrap .i64 (a6+a7))) 1 with|none=>none|some x0=>match idx a0 (IntKind.wrap .i64 x0)with|none=>none|some x1=>match Dj ((x1.1,(x1.2.1,(x1.2.2.1,(x1.2.2.2.1,())))),(a1,(a2,(a3,(a4,())))),())with|none=>none|some (y2,_)=>match(ilt y2 0)with
  |true=>some (.inl (a0,a1,a2,a3,a4,a5,(IntKind.wrap .i64 ((IntKind.wrap .i64 x0)+1)),a7,()))
  |false=>some (.inl (a0,a1,a2,a3,a4,a5,a6,(IntKind.wrap .i64 x0),()))
 |false=>some (.inr (.inl (a0,a1,a2,a3,a4,a5,a6,())))
def AMy[Lk]:(List U1×U1×Unit)→Option ((Int×Bool×Unit)):=fun(a0,a1,_)=>
 match AS LN many (a0,a1.1,a1.2.1,a1.2.2.1,a1.2.2.2.1,(AO a0),0,(AO a0),())with|none=>none|some r=>match r with
 |.inl (o0,o1,o2,o3,o4,o5,o6,_)=>match(ilt o6 o5)with
  |true=>match idx o0 o6 with|none=>none|some x7=>match Dj ((x7.1,(x7.2.1,(x7.2.2.1,(x7.2.2.2.1,())))),(o1,(o2,(o3,(o4,())))),())with|none=>none|some (y8,_)=>some (o6,(ieq y8 0),())
  |false=>some (o6,false,())
 |.inr _=>none
def AdI[Lk]:=fun v=>Lk.f (AMy v)
theorem AZN v:AdI v=AMy v:=AN _
abbrev AC3:AE:=[(.tmp 0,.dat Ua),(.tmp 1,.di),(.tmp 2,.di)]
abbrev AC2:AE:=[(.tmp 0,.di),(.tmp 1,.dat .bool)]
abbrev AC1:List RS:=[.one,.one]
def Ro[Lk]:V6→Option ((Int×Bool×Unit)):=fun(a0,a1,a2,_)=>
 match AdI (a0.2.1,((B1 a1 a2),((imax a1 a2),(0,(false,())))),())with|none=>none|some (y0,y1,_)=>some (y0,y1,())
def ALO[Lk]:=fun v=>Lk.f (Ro v)
theorem AHm v:ALO v=Ro v:=AN _
abbrev ALV:AE:=[(.tmp 0,.dat Ua),(.tmp 1,.di),(.tmp 2,.di)]
abbrev ALU:AE:=[(.tmp 0,.di)]
abbrev ALT:List RS:=[.one]
def ZU[Lk]:V6→Option (U9):=fun(a0,a1,a2,_)=>
 match GC ((a0.1,(a0.2.1,())),())with|none=>none|some (y0,_)=>match(!y0)with
 |true=>some ((-1:Int),())
 |false=>match ALO ((a0.1,(a0.2.1,())),a1,a2,())with|none=>none|some (y1,y2,_)=>match(!y2)with
 |true=>some ((-1:Int),())
 |false=>some (y1,())
def AQ1[Lk]:=fun v=>Lk.f (ZU v)
theorem AQ0 v:AQ1 v=ZU v:=AN _
abbrev IX:AE:=[(.tmp 0,.own 3 U0),(.cap 1 0,.box 2),(.cell 1 0,.di),(.cell 1 1,.dat Uk),(.tmp 1,.clo 145 [(1,0)])]
abbrev IW:AE:=[(.obj 0,.own 3 U0),(.obj 1,.box 2),(.cell 1 0,.di),(.cell 1 1,.dat Uk),(.tmp 0,.di)]
abbrev IV:List RS:=[.one]
abbrev Lv:AE:=[(.obj 0,.own 3 U0),(.obj 1,.box 2),(.cell 1 0,.di),(.cell 1 1,.dat Uk),(.tmp 0,.own' 0),(.tmp 1,.clo 145 [(1,0)]),(.tmp 7,.di),(.tmp 8,.di)]
abbrev Lu:As:=[(.ret,[(.obj 0,.own 3 U0),(.obj 1,.box 2),(.cell 1 0,.di),(.cell 1 1,.dat Uk),(.tmp 4,.di)]),(.exit 0,[(.obj 0,.own 3 U0),(.obj 1,.box 2),(.cell 1 0,.di),(.cell 1 1,.dat Uk)])]
def Bn[Lk]:V8→Option (V8⊕Vd⊕V9⊕Unit):=fun(a0,a1,a2,a3,a4,_)=>
 match(ilt a4 a3)with
 |true=>match idx a0 a4 with|none=>none|some x0=>match(ile a1 (AP a0 (AF a4) 0))with
  |true=>some (.inr (.inl (a0,a1,a2,a4,())))
  |false=>some (.inl (a0,a1,a2,a3,(IntKind.wrap .i64 (a4+1)),()))
 |false=>some (.inr (.inr (.inl (a0,a1,a2,()))))
def FY[Lk]:V9→Option (Vd):=fun(a0,a1,a2,_)=>
 match AS Bn many (a0,a1,a2,(AO a0),0,())with|none=>none|some r=>match r with
 |.inl (o0,o1,o2,o3,_)=>some (o0,o1,o2,o3,())
 |.inr r=>match r with
 |.inl (o4,o5,o6,_)=>some (o4,o5,o6,(-1:Int),())
 |.inr _=>none
def HV[Lk]:=fun v=>Lk.f (FY v)
theorem Lw v:HV v=FY v:=AN _
abbrev Il:AE:=[(.tmp 0,.own 3 U0),(.cap 1 0,.box 2),(.cell 1 0,.di),(.cell 1 1,.dat Uk),(.tmp 1,.clo 145 [(1,0)])]
abbrev Ik:AE:=[(.obj 0,.own 3 U0),(.obj 1,.box 2),(.cell 1 0,.di),(.cell 1 1,.dat Uk),(.tmp 0,.win' 0)]
abbrev Ij:List RS:=[.one]
abbrev Lz:AE:=[(.obj 0,.own 3 U0),(.obj 1,.box 2),(.cell 1 0,.di),(.cell 1 1,.dat Uk),(.tmp 0,.own' 0),(.tmp 1,.clo 145 [(1,0)]),(.tmp 5,.di),(.tmp 6,.di)]
abbrev Ly:As:=[(.exit 0,[(.obj 0,.own 3 U0),(.obj 1,.box 2),(.cell 1 0,.di),(.cell 1 1,.dat Uk),(.tmp 0,.own' 0),(.tmp 5,.di)])]
def CV[Lk]:V8→Option (V8⊕Vd⊕Unit):=fun(a0,a1,a2,a3,a4,_)=>
 match(ilt a4 (AO a0))with
 |true=>match idx a0 a4 with|none=>none|some x0=>match(!(ile a1 (AP a0 (AF a4) 0)))with
  |true=>match idx a0 a3 with|none=>none|some x1=>some (.inl ((An a0 (AF a3) (AP a0 (AF a4) 0)),a1,a2,(IntKind.wrap .i64 (a3+1)),(IntKind.wrap .i64 (a4+1)),()))
  |false=>some (.inl (a0,a1,a2,a3,(IntKind.wrap .i64 (a4+1)),()))
 |false=>some (.inr (.inl (a0,a1,a2,a3,())))
def Fe[Lk]:V9→Option (Vd):=fun(a0,a1,a2,_)=>
 match HV (a0,a1,a2,())with|none=>none|some (y0,y1,y2,y3,_)=>match(ieq y3 (-1:Int))with
 |true=>some (y0,y1,y2,(AO y0),())
 |false=>match AS CV many (y0,y1,y2,y3,(IntKind.wrap .i64 (y3+1)),())with|none=>none|some r=>match r with
 |.inl (o4,o5,o6,o7,_)=>match Bv o4 o7 (AO o4)with|none=>none|some x8=>match Bv (BY (AF o7) (AF (AO x8)) 0 o4) 0 o7 with|none=>none|some x9=>some ((BY (AF o7) (AF (AO x8)) 0 o4),o5,o6,(((AF (AO x9)):Nat):Int),())
 |.inr _=>none
def Ff[Lk]:=fun v=>Lk.f (Fe v)
theorem L0 v:Ff v=Fe v:=AN _
abbrev QT:AE:=[(.tmp 0,.dat Ub),(.tmp 1,.di)]
abbrev QS:AE:=[(.tmp 0,.own 3 U0),(.tmp 1,.di)]
abbrev QR:List RS:=[.one,.one]
def LA[Lk]:Vf→Option (Us):=fun(a0,a1,_)=>
 match K9 ((a0.1,(a0.2.1,())),([a1]:List (Int)),())with|none=>none|some (y0,_)=>match(!(ieq y0 0))with
 |true=>some (([]:List (Int)),y0,())
 |false=>match tof ((a0.1,(a0.2.1,())),a1,())with|none=>none|some (y1,_)=>match idx a0.2.1 y1 with|none=>none|some x2=>match AMd x2 with|none=>none|some x3=>match Ff (x3,a0.1,a0.2.1,())with|none=>none|some (y4,y5,y6,y7,_)=>match AOM ((Bo (AF y7) y4),())with|none=>none|some (y8,_)=>some (y8,0,())
def Ib[Lk]:=fun v=>Lk.f (LA v)
theorem X9 v:Ib v=LA v:=AN _
abbrev AL5:AE:=[(.tmp 0,.nil U2),(.tmp 1,.di)]
abbrev AL4:AE:=[(.tmp 0,.own 44 U2)]
abbrev AL3:List RS:=[.one]
def Za[Lk]:U9→Option ((List U1×Unit)):=fun(a0,_)=>
 match(ilt a0 0)with
 |true=>none
 |false=>match(ilt 0 (IntKind.wrap .i64 (a0-(IntKind.wrap .i64 (0-0)))))with
 |true=>match Bv ([]:List Unit) 0 0 with|none=>none|some _u0=>match(Lx (IntKind.wrap .i64 (a0-(IntKind.wrap .i64 (0-0)))))with
  |true=>match Bv (KE (AF (IntKind.wrap .i64 (a0-(IntKind.wrap .i64 ((0:Int)-(0:Int)))))) ((0:Int),((0:Int),((0:Int),(false,()))))) (0:Int) (0:Int)with|none=>none|some x1=>some ((Bo (AF (AO x1)) (KE (AF (IntKind.wrap .i64 (a0-(IntKind.wrap .i64 ((0:Int)-(0:Int)))))) ((0:Int),((0:Int),((0:Int),(false,())))))),())
  |false=>none
 |false=>some (([]:List U1),())
def ARY[Lk]:=fun v=>Lk.f (Za v)
theorem ARX v:ARY v=Za v:=AN _
abbrev Wd:AE:=[(.tmp 0,.dat (.slice Up))]
abbrev Wc:AE:=[(.tmp 0,.own 44 U2)]
abbrev Wb:List RS:=[.one]
abbrev AEC:AE:=[(.tmp 6,.own 44 U2),(.tmp 25,.dat (.slice Up)),(.tmp 26,.di),(.tmp 27,.di)]
abbrev AEA:As:=[(.exit 2,[(.tmp 6,.own 44 U2)])]
def En[Lk]:(List U1×List (List U1)×Int×Int×Unit)→Option ((List U1×List (List U1)×Int×Int×Unit)⊕(List U1×Unit)⊕Unit):=fun(a0,a1,a2,a3,_)=>
 match(ilt a3 a2)with
 |true=>match idx a1 a3 with|none=>none|some x0=>match(fits ((AO a0)+(AO x0)))with
  |true=>some (.inl ((A1 a0 x0),a1,a2,(IntKind.wrap .i64 (a3+1)),()))
  |false=>none
 |false=>some (.inr (.inl (a0,())))
abbrev AED:AE:=[(.tmp 0,.dat (.slice Up)),(.tmp 3,.di),(.tmp 9,.dat (.slice Up)),(.tmp 10,.di),(.tmp 11,.di)]
abbrev AEB:As:=[(.exit 0,[(.tmp 0,.dat (.slice Up)),(.tmp 3,.di)])]
def Eo[Lk]:(List (List U1)×Int×List (List U1)×Int×Int×Unit)→Option ((List (List U1)×Int×List (List U1)×Int×Int×Unit)⊕(List (List U1)×Int×Unit)⊕Unit):=fun(a0,a1,a2,a3,a4,_)=>
 match(ilt a4 a3)with
 |true=>match idx a2 a4 with|none=>none|some x0=>match(ilt (IntKind.wrap .i64 (a1+(AO x0))) 0)with
  |true=>none
  |false=>some (.inl (a0,(IntKind.wrap .i64 (a1+(AO x0))),a2,a3,(IntKind.wrap .i64 (a4+1)),()))
 |false=>some (.inr (.inl (a0,a1,())))
def OY[Lk]:(List (List U1)×Unit)→Option ((List U1×Unit)):=fun(a0,_)=>
 match AS Eo many (a0,0,a0,(AO a0),0,())with|none=>none|some r=>match r with
 |.inl (o0,o1,_)=>match ARY (o1,())with|none=>none|some (y2,_)=>match AS En many (y2,o0,(AO o0),0,())with|none=>none|some r=>match r with
  |.inl (o3,_)=>some (o3,())
  |.inr _=>none
 |.inr _=>none
def OZ[Lk]:=fun v=>Lk.f (OY v)
theorem AEE v:OZ v=OY v:=AN _
abbrev K5:AE:=[(.tmp 0,.own 42 U5),(.cap 1 0,.box 1),(.cell 1 0,.map U5 U0),(.tmp 1,.clo 116 [(1,0)])]
abbrev K4:AE:=[(.obj 0,.own 42 U5),(.obj 1,.box 1),(.cell 1 0,.map U5 U0),(.obj 2,.map' 2),(.tmp 0,.di)]
abbrev K0:List RS:=[.one]
abbrev PH:AE:=[(.obj 0,.own 42 U5),(.obj 1,.box 1),(.cell 1 0,.map U5 U0),(.obj 2,.map' 2),(.tmp 0,.own' 0),(.tmp 1,.clo 116 [(1,0)]),(.tmp 7,.di),(.tmp 8,.di)]
abbrev PG:As:=[(.ret,[(.obj 0,.own 42 U5),(.obj 1,.box 1),(.cell 1 0,.map U5 U0),(.obj 2,.map' 2),(.tmp 4,.di)]),(.exit 0,[(.obj 0,.own 42 U5),(.obj 1,.box 1),(.cell 1 0,.map U5 U0),(.obj 2,.map' 2)])]
def CK[Lk]:V5→Option (V5⊕Vc⊕(List U3×List (U3×Int)×Unit)⊕Unit):=fun(a0,a1,a2,a3,_)=>
 match(ilt a3 a2)with
 |true=>match idx a0 a3 with|none=>none|some x0=>match(ieq ((AX a1 ((AP a0 (AF a3) (0,(0,()))).1,((AP a0 (AF a3) (0,(0,()))).2.1,()))).getD 0) 0)with
  |true=>some (.inr (.inl (a0,a1,a3,())))
  |false=>some (.inl (a0,a1,a2,(IntKind.wrap .i64 (a3+1)),()))
 |false=>some (.inr (.inr (.inl (a0,a1,()))))
def HW[Lk]:(List U3×List (U3×Int)×Unit)→Option (Vc):=fun(a0,a1,_)=>
 match AS CK many (a0,a1,(AO a0),0,())with|none=>none|some r=>match r with
 |.inl (o0,o1,o2,_)=>some (o0,o1,o2,())
 |.inr r=>match r with
 |.inl (o3,o4,_)=>some (o3,o4,(-1:Int),())
 |.inr _=>none
def K7[Lk]:=fun v=>Lk.f (HW v)
theorem PI v:K7 v=HW v:=AN _
abbrev LJ:AE:=[(.tmp 0,.own 42 U5),(.cap 1 0,.box 1),(.cell 1 0,.map U5 U0),(.tmp 1,.clo 116 [(1,0)])]
abbrev LI:AE:=[(.obj 0,.own 42 U5),(.obj 1,.box 1),(.cell 1 0,.map U5 U0),(.obj 2,.map' 2),(.tmp 0,.win' 0)]
abbrev LH:List RS:=[.one]
abbrev PM:AE:=[(.obj 0,.own 42 U5),(.obj 1,.box 1),(.cell 1 0,.map U5 U0),(.obj 2,.map' 2),(.tmp 0,.own' 0),(.tmp 1,.clo 116 [(1,0)]),(.tmp 5,.di),(.tmp 6,.di)]
abbrev PL:As:=[(.exit 0,[(.obj 0,.own 42 U5),(.obj 1,.box 1),(.cell 1 0,.map U5 U0),(.obj 2,.map' 2),(.tmp 0,.own' 0),(.tmp 5,.di)])]
def DN[Lk]:V5→Option (V5⊕Vc⊕Unit):=fun(a0,a1,a2,a3,_)=>
 match(ilt a3 (AO a0))with
 |true=>match idx a0 a3 with|none=>none|some x0=>match(!(ieq ((AX a1 ((AP a0 (AF a3) (0,(0,()))).1,((AP a0 (AF a3) (0,(0,()))).2.1,()))).getD 0) 0))with
  |true=>match idx a0 a2 with|none=>none|some x1=>some (.inl ((An a0 (AF a2) ((AP a0 (AF a3) (0,(0,()))).1,((AP a0 (AF a3) (0,(0,()))).2.1,()))),a1,(IntKind.wrap .i64 (a2+1)),(IntKind.wrap .i64 (a3+1)),()))
  |false=>some (.inl (a0,a1,a2,(IntKind.wrap .i64 (a3+1)),()))
 |false=>some (.inr (.inl (a0,a1,a2,())))
def HZ[Lk]:(List U3×List (U3×Int)×Unit)→Option (Vc):=fun(a0,a1,_)=>
 match K7 (a0,a1,())with|none=>none|some (y0,y1,y2,_)=>match(ieq y2 (-1:Int))with
 |true=>some (y0,y1,(AO y0),())
 |false=>match AS DN many (y0,y1,y2,(IntKind.wrap .i64 (y2+1)),())with|none=>none|some r=>match r with
 |.inl (o3,o4,o5,_)=>match Bv o3 o5 (AO o3)with|none=>none|some x6=>match Bv (BY (AF o5) (AF (AO x6)) (0,(0,())) o3) 0 o5 with|none=>none|some x7=>some ((BY (AF o5) (AF (AO x6)) (0,(0,())) o3),o4,(((AF (AO x7)):Nat):Int),())
 |.inr _=>none
def Io[Lk]:=fun v=>Lk.f (HZ v)
theorem PN v:Io v=HZ v:=AN _
abbrev AKO:AE:=[(.tmp 0,.dat Ua),(.tmp 1,.dat Uq)]
abbrev AKN:AE:=[(.tmp 0,.own 42 U5),(.tmp 1,.di)]
abbrev AKM:List RS:=[.one,.one]
abbrev APG:AE:=[(.tmp 2,.box 2),(.cell 0 0,.di),(.cell 0 1,.dat Up),(.tmp 6,.box 1),(.cell 1 0,.map U5 U0),(.tmp 13,.dat Uq),(.tmp 14,.di),(.tmp 15,.di)]
abbrev APF:As:=[(.ret,[(.tmp 4,.nil U5),(.tmp 5,.di)]),(.exit 0,[(.tmp 2,.box 2),(.cell 0 0,.di),(.cell 0 1,.dat Up),(.tmp 6,.box 1),(.cell 1 0,.map U5 U0)])]
def EH[Lk]:(Int×List U1×List (U3×Int)×List U3×Int×Int×Unit)→Option ((Int×List U1×List (U3×Int)×List U3×Int×Int×Unit)⊕U9⊕(Int×List U1×List (U3×Int)×Unit)⊕Unit):=fun(a0,a1,a2,a3,a4,a5,_)=>
 match(ilt a5 a4)with
 |true=>match idx a3 a5 with|none=>none|some x0=>match(ilt (B1 x0.1 x0.2.1) 0)with
  |true=>some (.inr (.inl (10,())))
  |false=>match(ile a0 (imax x0.1 x0.2.1))with
  |true=>some (.inr (.inl (10,())))
  |false=>match(ile 0 (Yi a2 ((B1 x0.1 x0.2.1),((imax x0.1 x0.2.1),())))&&ilt (Yi a2 ((B1 x0.1 x0.2.1),((imax x0.1 x0.2.1),()))) (AO (Ah a2 ((B1 x0.1 x0.2.1),((imax x0.1 x0.2.1),())) ((AX a2 ((B1 x0.1 x0.2.1),((imax x0.1 x0.2.1),()))).getD 0))))with
  |true=>some (.inl (a0,a1,(AbP (Ah a2 ((B1 x0.1 x0.2.1),((imax x0.1 x0.2.1),())) ((AX a2 ((B1 x0.1 x0.2.1),((imax x0.1 x0.2.1),()))).getD 0)) (Yi a2 ((B1 x0.1 x0.2.1),((imax x0.1 x0.2.1),()))) (IntKind.wrap .i64 (((AX a2 ((B1 x0.1 x0.2.1),((imax x0.1 x0.2.1),()))).getD 0)+1))),a3,a4,(IntKind.wrap .i64 (a5+1)),()))
  |false=>none
 |false=>some (.inr (.inr (.inl (a0,a1,a2,()))))
def RV[Lk]:V4→Option ((List U3×Int×Unit)):=fun(a0,a1,_)=>
 match GC ((a0.1,(a0.2.1,())),())with|none=>none|some (y0,_)=>match(!y0)with
 |true=>some (([]:List U3),1,())
 |false=>match AS EH many (a0.1,a0.2.1,([]:List (U3×Int)),a1,(AO a1),0,())with|none=>none|some r=>match r with
 |.inl (o1,_)=>some (([]:List U3),o1,())
 |.inr r=>match r with
 |.inl (o2,o3,o4,_)=>match ADJ ((o2,(o3,())),())with|none=>none|some (y5,_)=>match Io (y5,o4,())with|none=>none|some (y6,y7,y8,_)=>some ((Bo (AF y8) y6),0,())
 |.inr _=>none
def ABs[Lk]:=fun v=>Lk.f (RV v)
theorem ABr v:ABs v=RV v:=AN _
abbrev ABw:AE:=[(.tmp 0,.dat Ua),(.tmp 1,.di),(.tmp 2,.di)]
abbrev ABv:AE:=[(.tmp 0,.di),(.tmp 1,.di)]
abbrev ABu:List RS:=[.one,.one]
def MU[Lk]:V6→Option (U3):=fun(a0,a1,a2,_)=>
 match GC ((a0.1,(a0.2.1,())),())with|none=>none|some (y0,_)=>match(!y0)with
 |true=>some (0,1,())
 |false=>match(ilt (B1 a1 a2) 0)with
 |true=>some (0,10,())
 |false=>match(ile a0.1 (imax a1 a2))with
 |true=>some (0,10,())
 |false=>match AQ1 ((a0.1,(a0.2.1,())),a1,a2,())with|none=>none|some (y1,_)=>match(ilt y1 0)with
 |true=>some (0,6,())
 |false=>some (y1,0,())
def Pn[Lk]:=fun v=>Lk.f (MU v)
theorem UQ v:Pn v=MU v:=AN _
abbrev AKB:AE:=[(.tmp 0,.dat Ua),(.tmp 1,.di),(.tmp 2,.di),(.tmp 3,.di)]
abbrev AKA:AE:=[(.tmp 0,.own 3 U0),(.tmp 1,.di)]
abbrev AJ9:List RS:=[.one,.one]
def RN[Lk]:(Ud×Int×Int×Int×Unit)→Option (Us):=fun(a0,a1,a2,a3,_)=>
 match Pn ((a0.1,(a0.2.1,())),a1,a2,())with|none=>none|some (y0,y1,_)=>match(ieq y1 1)with
 |true=>some (([]:List (Int)),y1,())
 |false=>match(ieq y1 10)with
 |true=>some (([]:List (Int)),y1,())
 |false=>match OS ((a0.1,(a0.2.1,())),a3,())with|none=>none|some (y2,y3,_)=>match Ib ((y2.1,(y2.2.1,())),a1,())with|none=>none|some (y4,y5,_)=>match Ib ((y2.1,(y2.2.1,())),a2,())with|none=>none|some (y6,y7,_)=>match FA (y4,a2,())with|none=>none|some (y8,_)=>match y8 with
 |true=>some (([]:List (Int)),5,())
 |false=>match Fj ((AO y4),(AO y6),())with|none=>none|some (y9,_)=>match idx y4 0 with|none=>none|some x10=>match idx y6 0 with|none=>none|some x11=>match Fj ((AP y4 0 0),(AP y6 0 0),())with|none=>none|some (y12,_)=>match orI (([y9,y12]:List (Int)),())with|none=>none|some (y13,_)=>match(ilt y13 0)with
 |true=>some (y4,0,())
 |false=>some (y6,0,())
def XV[Lk]:=fun v=>Lk.f (RN v)
theorem ABJ v:XV v=RN v:=AN _
abbrev AfG:AE:=[(.tmp 0,.box 8),(.cell 0 0,.di),(.cell 0 1,.own 44 U2),(.cell 0 2,.dat .bool),(.cell 0 3,.dat .bool),(.cell 0 4,.di),(.cell 0 5,.di),(.cell 0 6,.di),(.cell 0 7,.di),(.tmp 1,.di),(.tmp 2,.di),(.tmp 3,.di)]
abbrev AfC:AE:=[(.obj 0,.box 8),(.cell 0 0,.di),(.cell 0 1,.own 44 U2),(.cell 0 2,.dat .bool),(.cell 0 3,.dat .bool),(.cell 0 4,.di),(.cell 0 5,.di),(.cell 0 6,.di),(.cell 0 7,.di),(.obj 1,.own' 1),(.tmp 0,.dat .bool)]
abbrev Ae8:List RS:=[.one]
abbrev AfD:AE:=[(.obj 0,.box 8),(.cell 0 0,.di),(.cell 0 1,.own 44 U2),(.cell 0 2,.dat .bool),(.cell 0 3,.dat .bool),(.cell 0 4,.di),(.cell 0 5,.di),(.cell 0 6,.di),(.cell 0 7,.di),(.obj 1,.own' 1),(.tmp 0,.ptr' 0 0),(.cap 14 0,.box 1),(.cell 2 0,.map U0 U0),(.tmp 14,.clo 141 [(2,0)]),(.tmp 86,.prs 157 1),(.tmp 87,.di),(.tmp 88,.di)]
abbrev Ae9:As:=[(.exit 5,[(.obj 0,.box 8),(.cell 0 0,.di),(.cell 0 1,.own 44 U2),(.cell 0 2,.dat .bool),(.cell 0 3,.dat .bool),(.cell 0 4,.di),(.cell 0 5,.di),(.cell 0 6,.di),(.cell 0 7,.di),(.obj 1,.own' 1)]),(.ret,[(.obj 0,.box 8),(.cell 0 0,.di),(.cell 0 1,.own 44 U2),(.cell 0 2,.dat .bool),(.cell 0 3,.dat .bool),(.cell 0 4,.di),(.cell 0 5,.di),(.cell 0 6,.di),(.cell 0 7,.di),(.obj 1,.own' 1),(.tmp 8,.dat .bool)])]
def MY[Lk]:Vh→Option (Vh⊕Vb⊕(Int×List U1×Bool×Bool×Int×Int×Int×Int×Bool×Unit)⊕Unit):=fun(a0,a1,a2,a3,a4,a5,a6,a7,a8,a9,a10,a11,_)=>
 match(ilt a11 a10)with
 |true=>match idx a9 a11 with|none=>none|some x0=>match(ieq (IntKind.wrap .i64 (((AX a8 (AP a1 (AF (AP a9 (AF a11) 0)) (0,(0,(0,(false,()))))).1).getD 0)+((AX a8 (AP a1 (AF (AP a9 (AF a11) 0)) (0,(0,(0,(false,()))))).2.1).getD 0))) 0)with
  |true=>some (.inl (a0,a1,a2,a3,a4,a5,a6,a7,a8,a9,a10,(IntKind.wrap .i64 (a11+1)),()))
  |false=>match(ieq (IntKind.wrap .i64 (((AX a8 (AP a1 (AF (AP a9 (AF a11) 0)) (0,(0,(0,(false,()))))).1).getD 0)+((AX a8 (AP a1 (AF (AP a9 (AF a11) 0)) (0,(0,(0,(false,()))))).2.1).getD 0))) 2)with
  |true=>some (.inl (a0,(An a1 (AF (AP a9 (AF a11) 0)) ((AP a1 (AF (AP a9 (AF a11) 0)) (0,(0,(0,(false,()))))).1,((AP a1 (AF (AP a9 (AF a11) 0)) (0,(0,(0,(false,()))))).2.1,((B1 a7 (IntKind.wrap .i64 ((AP a1 (AF (AP a9 (AF a11) 0)) (0,(0,(0,(false,()))))).2.2.1+1))),((AP a1 (AF (AP a9 (AF a11) 0)) (0,(0,(0,(false,()))))).2.2.2.1,()))))),a2,a3,a4,a5,(IntKind.wrap .i64 (a6+1)),a7,a8,a9,a10,(IntKind.wrap .i64 (a11+1)),()))
  |false=>match(ieq (IntKind.wrap .i64 (((AX a8 (AP a1 (AF (AP a9 (AF a11) 0)) (0,(0,(0,(false,()))))).1).getD 0)+((AX a8 (AP a1 (AF (AP a9 (AF a11) 0)) (0,(0,(0,(false,()))))).2.1).getD 0))) 1)with
  |true=>some (.inr (.inr (.inl (a0,(An a1 (AF (AP a9 (AF a11) 0)) ((AP a1 (AF (AP a9 (AF a11) 0)) (0,(0,(0,(false,()))))).1,((AP a1 (AF (AP a9 (AF a11) 0)) (0,(0,(0,(false,()))))).2.1,((AP a1 (AF (AP a9 (AF a11) 0)) (0,(0,(0,(false,()))))).2.2.1,(true,()))))),a2,true,(AP (An a1 (AF (AP a9 (AF a11) 0)) ((AP a1 (AF (AP a9 (AF a11) 0)) (0,(0,(0,(false,()))))).1,((AP a1 (AF (AP a9 (AF a11) 0)) (0,(0,(0,(false,()))))).2.1,((AP a1 (AF (AP a9 (AF a11) 0)) (0,(0,(0,(false,()))))).2.2.1,(true,()))))) (AF (AP a9 (AF a11) 0)) (0,(0,(0,(false,()))))).1,(AP (An a1 (AF (AP a9 (AF a11) 0)) ((AP a1 (AF (AP a9 (AF a11) 0)) (0,(0,(0,(false,()))))).1,((AP a1 (AF (AP a9 (AF a11) 0)) (0,(0,(0,(false,()))))).2.1,((AP a1 (AF (AP a9 (AF a11) 0)) (0,(0,(0,(false,()))))).2.2.1,(true,()))))) (AF (AP a9 (AF a11) 0)) (0,(0,(0,(false,()))))).2.1,a6,a7,true,()))))
  |false=>some (.inl (a0,a1,a2,a3,a4,a5,a6,a7,a8,a9,a10,(IntKind.wrap .i64 (a11+1)),()))
 |false=>some (.inr (.inl (a0,a1,a2,a3,a4,a5,a6,a7,())))
abbrev AfE:AE:=[(.obj 0,.box 8),(.cell 0 0,.di),(.cell 0 1,.own 44 U2),(.cell 0 2,.dat .bool),(.cell 0 3,.dat .bool),(.cell 0 4,.di),(.cell 0 5,.di),(.cell 0 6,.di),(.cell 0 7,.di),(.obj 1,.own' 1),(.tmp 0,.ptr' 0 0),(.tmp 3,.di),(.cap 14 0,.box 1),(.cell 2 0,.map U0 U0),(.tmp 14,.clo 141 [(2,0)]),(.tmp 15,.prs 157 1),(.tmp 47,.di),(.tmp 48,.di)]
abbrev AfA:As:=[(.exit 2,[(.obj 0,.box 8),(.cell 0 0,.di),(.cell 0 1,.own 44 U2),(.cell 0 2,.dat .bool),(.cell 0 3,.dat .bool),(.cell 0 4,.di),(.cell 0 5,.di),(.cell 0 6,.di),(.cell 0 7,.di),(.obj 1,.own' 1),(.tmp 0,.ptr' 0 0),(.cap 14 0,.box 1),(.cell 2 0,.map U0 U0),(.tmp 14,.clo 141 [(2,0)]),(.tmp 15,.prs 157 1)])]
def MZ[Lk]:Ur→Option (Ur⊕(Int×List U1×Bool×Bool×Int×Int×Int×Int×List Uu×List Int×Unit)⊕Unit):=fun(a0,a1,a2,a3,a4,a5,a6,a7,a8,a9,a10,a11,a12,_)=>
 match(ilt a12 a11)with
 |true=>match idx a1 a12 with|none=>none|some x0=>match(!(ieq (AP a1 (AF a12) (0,(0,(0,(false,()))))).2.2.1 a8))with
  |true=>some (.inl (a0,a1,a2,a3,a4,a5,a6,a7,a8,a9,a10,a11,(IntKind.wrap .i64 (a12+1)),()))
  |false=>match(!(AP a1 (AF a12) (0,(0,(0,(false,()))))).2.2.2.1)with
  |true=>match(fits ((AO a10)+(AO ([(Int.ofNat (AF a12))]:List (Int)))))with
   |true=>some (.inl (a0,a1,a2,a3,a4,a5,a6,a7,a8,a9,(A1 a10 ([(Int.ofNat (AF a12))]:List (Int))),a11,(IntKind.wrap .i64 (a12+1)),()))
   |false=>none
  |false=>match(ieq (IntKind.wrap .i64 (((AX a9 (AP a1 (AF a12) (0,(0,(0,(false,()))))).1).getD 0)+((AX a9 (AP a1 (AF a12) (0,(0,(0,(false,()))))).2.1).getD 0))) 2)with
  |true=>some (.inl (a0,(An a1 (AF a12) ((AP a1 (AF a12) (0,(0,(0,(false,()))))).1,((AP a1 (AF a12) (0,(0,(0,(false,()))))).2.1,((B1 a7 (IntKind.wrap .i64 ((AP a1 (AF a12) (0,(0,(0,(false,()))))).2.2.1+1))),((AP a1 (AF a12) (0,(0,(0,(false,()))))).2.2.2.1,()))))),a2,a3,a4,a5,(IntKind.wrap .i64 (a6+1)),a7,a8,a9,a10,a11,(IntKind.wrap .i64 (a12+1)),()))
  |false=>some (.inl (a0,a1,a2,a3,a4,a5,a6,a7,a8,a9,a10,a11,(IntKind.wrap .i64 (a12+1)),()))
 |false=>some (.inr (.inl (a0,a1,a2,a3,a4,a5,a6,a7,a9,a10,())))
abbrev AfF:AE:=[(.obj 0,.box 8),(.cell 0 0,.di),(.cell 0 1,.own 44 U2),(.cell 0 2,.dat .bool),(.cell 0 3,.dat .bool),(.cell 0 4,.di),(.cell 0 5,.di),(.cell 0 6,.di),(.cell 0 7,.di),(.obj 1,.own' 1),(.tmp 0,.ptr' 0 0),(.tmp 3,.di),(.tmp 11,.box 1),(.cell 2 0,.map U0 U0),(.tmp 32,.own 3 U0),(.tmp 33,.di),(.tmp 34,.di)]
abbrev AfB:As:=[(.exit 0,[(.obj 0,.box 8),(.cell 0 0,.di),(.cell 0 1,.own 44 U2),(.cell 0 2,.dat .bool),(.cell 0 3,.dat .bool),(.cell 0 4,.di),(.cell 0 5,.di),(.cell 0 6,.di),(.cell 0 7,.di),(.obj 1,.own' 1),(.tmp 0,.ptr' 0 0),(.tmp 3,.di),(.tmp 11,.box 1),(.cell 2 0,.map U0 U0)])]
def Ma[Lk]:Ur→Option (Ur⊕(Int×List U1×Bool×Bool×Int×Int×Int×Int×Int×List Uu×Unit)⊕Unit):=fun(a0,a1,a2,a3,a4,a5,a6,a7,a8,a9,a10,a11,a12,_)=>
 match(ilt a12 a11)with
 |true=>match idx a10 a12 with|none=>none|some x0=>some (.inl (a0,a1,a2,a3,a4,a5,a6,a7,a8,(Ah a9 (AP a10 (AF a12) 0) 1),a10,a11,(IntKind.wrap .i64 (a12+1)),()))
 |false=>some (.inr (.inl (a0,a1,a2,a3,a4,a5,a6,a7,a8,a9,())))
def AYa[Lk]:(Int×List U1×Bool×Bool×Int×Int×Int×Int×Int×Int×Int×Unit)→Option ((Int×List U1×Bool×Bool×Int×Int×Int×Int×Bool×Unit)):=fun(a0,a1,a2,a3,a4,a5,a6,a7,a8,a9,a10,_)=>
 match XV ((a0,(a1,())),a8,a9,a10,())with|none=>none|some (y0,y1,_)=>match AS Ma many (a0,a1,a2,a3,a4,a5,a6,a7,a10,([]:List Uu),y0,(AO y0),0,())with|none=>none|some r=>match r with
 |.inl (o2,o3,o4,o5,o6,o7,o8,o9,o10,o11,_)=>match AS MZ many (o2,o3,o4,o5,o6,o7,o8,o9,o10,o11,([]:List (Int)),(AO o3),0,())with|none=>none|some r=>match r with
  |.inl (o12,o13,o14,o15,o16,o17,o18,o19,o20,o21,_)=>match AS MY many (o12,o13,o14,o15,o16,o17,o18,o19,o20,o21,(AO o21),0,())with|none=>none|some r=>match r with
   |.inl (o22,o23,o24,o25,o26,o27,o28,o29,_)=>some (o22,o23,o24,o25,o26,o27,o28,o29,false,())
   |.inr r=>match r with
   |.inl (o30,o31,o32,o33,o34,o35,o36,o37,o38,_)=>some (o30,o31,o32,o33,o34,o35,o36,o37,o38,())
   |.inr _=>none
  |.inr _=>none
 |.inr _=>none
def pat[Lk]:=fun v=>Lk.f (AYa v)
theorem AfH v:pat v=AYa v:=AN _
abbrev AUM:AE:=[(.tmp 0,.dat Ua),(.tmp 1,.di),(.tmp 2,.di)]
abbrev AUL:AE:=[(.tmp 0,.di),(.tmp 1,.dat Up),(.tmp 2,.dat V0),(.tmp 3,.di)]
abbrev AUK:List RS:=[.agg 2,.one,.one]
abbrev AYT:AE:=[(.tmp 6,.box 2),(.cell 0 0,.di),(.cell 0 1,.nil U2),(.tmp 7,.box 5),(.cell 1 0,.dat .bool),(.cell 1 1,.dat .bool),(.cell 1 2,.di),(.cell 1 3,.di),(.cell 1 4,.di),(.tmp 11,.box 4),(.cell 2 0,.di),(.cell 2 1,.di),(.cell 2 2,.di),(.cell 2 3,.dat .bool),(.tmp 12,.box 8),(.cell 3 0,.di),(.cell 3 1,.own 44 U2),(.cell 3 2,.dat .bool),(.cell 3 3,.dat .bool),(.cell 3 4,.di),(.cell 3 5,.di),(.cell 3 6,.di),(.cell 3 7,.di),(.tmp 13,.di)]
abbrev AYS:As:=[(.exit 0,[(.tmp 6,.box 2),(.cell 0 0,.di),(.cell 0 1,.nil U2),(.tmp 7,.box 5),(.cell 1 0,.dat .bool),(.cell 1 1,.dat .bool),(.cell 1 2,.di),(.cell 1 3,.di),(.cell 1 4,.di),(.tmp 12,.box 8),(.cell 2 0,.di),(.cell 2 1,.own 44 U2),(.cell 2 2,.dat .bool),(.cell 2 3,.dat .bool),(.cell 2 4,.di),(.cell 2 5,.di),(.cell 2 6,.di),(.cell 2 7,.di)])]
def EV[Lk]:Un→Option (Un⊕(Int×Bool×Bool×Int×Int×Int×Int×List U1×Bool×Bool×Int×Int×Int×Int×Unit)⊕Unit):=fun(a0,a1,a2,a3,a4,a5,a6,a7,a8,a9,a10,a11,a12,a13,a14,a15,a16,a17,a18,_)=>
 match a9 with
 |true=>match(ile 0 a18)with
  |true=>match pat (a10,a11,a12,a13,a14,a15,a16,a17,a6,a7,a18,())with|none=>none|some (y0,y1,y2,y3,y4,y5,y6,y7,y8,_)=>match(!y8)with
   |true=>some (.inl (a0,a1,a2,a3,a4,a5,a6,a7,a8,a9,y0,y1,y2,y3,y4,y5,y6,y7,(IntKind.wrap .i64 (a18-1)),()))
   |false=>some (.inr (.inl (a0,a1,a2,a3,a4,a5,y0,y1,y2,y3,y4,y5,y6,y7,())))
  |false=>some (.inr (.inl (a0,a1,a2,a3,a4,a5,a10,a11,a12,a13,a14,a15,a16,a17,())))
 |false=>some (.inr (.inl (a0,a1,a2,a3,a4,a5,a10,a11,a12,a13,a14,a15,a16,a17,())))
def ABQ[Lk]:V6→Option ((Int×List U1×Ug×Int×Unit)):=fun(a0,a1,a2,_)=>
 match Pn ((a0.1,(a0.2.1,())),a1,a2,())with|none=>none|some (y0,y1,_)=>match(!(ieq y1 0))with
 |true=>some (a0.1,a0.2.1,(false,(false,((0,(0,())),(0,())))),y1,())
 |false=>match idx a0.2.1 y0 with|none=>none|some x2=>match Bv a0.2.1 0 y0 with|none=>none|some x3=>match Bv a0.2.1 (IntKind.wrap .i64 (y0+1)) (AO a0.2.1)with|none=>none|some x4=>match OZ (([x3,x4]:List (List U1)),())with|none=>none|some (y5,_)=>match AGC (a0.1,())with|none=>none|some (y6,_)=>match AS EV many (0,false,false,0,0,0,x2.1,x2.2.1,x2.2.2.1,x2.2.2.2.1,a0.1,y5,x2.2.2.2.1,false,0,0,0,y6,x2.2.2.1,())with|none=>none|some r=>match r with
 |.inl (o7,o8,o9,o10,o11,o12,o13,o14,o15,o16,o17,o18,o19,o20,_)=>some (o13,o14,(o15,(o16,((o17,(o18,())),(o19,())))),0,())
 |.inr _=>none
def AFi[Lk]:=fun v=>Lk.f (ABQ v)
theorem AKE v:AFi v=ABQ v:=AN _
abbrev AKT:AE:=[(.tmp 0,.dat Ua),(.tmp 1,.dat Uq)]
abbrev AKS:AE:=[(.tmp 0,.dat Ua),(.tmp 1,.own 71 V0),(.tmp 2,.di)]
abbrev AKR:List RS:=[.one,.one,.one]
abbrev APL:AE:=[(.tmp 2,.box 2),(.cell 0 0,.di),(.cell 0 1,.dat Up),(.tmp 4,.box 2),(.cell 1 0,.di),(.cell 1 1,.nil U2),(.tmp 9,.own 71 V0),(.tmp 10,.box 2),(.cell 3 0,.di),(.cell 3 1,.dat Up),(.tmp 27,.own 42 U5),(.tmp 28,.di),(.tmp 29,.di)]
abbrev APK:As:=[(.ret,[(.tmp 4,.box 2),(.cell 0 0,.di),(.cell 0 1,.dat Up),(.tmp 5,.nil V0),(.tmp 6,.di)]),(.exit 0,[(.tmp 4,.box 2),(.cell 0 0,.di),(.cell 0 1,.nil U2),(.tmp 9,.own 71 V0),(.tmp 10,.box 2),(.cell 2 0,.di),(.cell 2 1,.dat Up)])]
def EI[Lk]:(Int×List U1×Int×List Ug×Int×List U1×List U3×Int×Int×Unit)→Option ((Int×List U1×Int×List Ug×Int×List U1×List U3×Int×Int×Unit)⊕(Int×List U1×Int×Unit)⊕(Int×List Ug×Int×List U1×Unit)⊕Unit):=fun(a0,a1,a2,a3,a4,a5,a6,a7,a8,_)=>
 match(ilt a8 a7)with
 |true=>match idx a6 a8 with|none=>none|some x0=>match AFi ((a4,(a5,())),(AP a6 (AF a8) (0,(0,()))).1,(AP a6 (AF a8) (0,(0,()))).2.1,())with|none=>none|some (y1,y2,y3,y4,_)=>match(!(ieq y4 0))with
  |true=>some (.inr (.inl (a0,a1,y4,())))
  |false=>match(fits ((AO a3)+(AO ([(y3.1,(y3.2.1,((y3.2.2.1.1,(y3.2.2.1.2.1,())),(y3.2.2.2.1,()))))]:List Ug))))with
  |true=>some (.inl (a0,a1,a2,(A1 a3 ([(y3.1,(y3.2.1,((y3.2.2.1.1,(y3.2.2.1.2.1,())),(y3.2.2.2.1,()))))]:List Ug)),y1,y2,a6,a7,(IntKind.wrap .i64 (a8+1)),()))
  |false=>none
 |false=>some (.inr (.inr (.inl (a2,a3,a4,a5,()))))
def ZL[Lk]:V4→Option ((Ud×List Ug×Int×Unit)):=fun(a0,a1,_)=>
 match ABs ((a0.1,(a0.2.1,())),a1,())with|none=>none|some (y0,y1,_)=>match(!(ieq y1 0))with
 |true=>some ((a0.1,(a0.2.1,())),([]:List Ug),y1,())
 |false=>match AS EI many (a0.1,a0.2.1,0,([]:List Ug),a0.1,a0.2.1,y0,(AO y0),0,())with|none=>none|some r=>match r with
 |.inl (o2,o3,o4,_)=>some ((o2,(o3,())),([]:List Ug),o4,())
 |.inr r=>match r with
 |.inl (o5,o6,o7,o8,_)=>some ((o7,(o8,())),o6,0,())
 |.inr _=>none
def ABy[Lk]:=fun v=>Lk.f (ZL v)
theorem APM v:ABy v=ZL v:=AN _
abbrev Ww:AE:=[]
abbrev Wv:AE:=[(.tmp 0,.dat .bool)]
abbrev Wu:List RS:=[.one]
def Wx[Lk]:(Unit)→Option (Uh):=fun _=>
 match AFi ((4,(([(0,(1,(0,(true,())))),(0,(2,(0,(true,())))),(1,(2,(0,(false,())))),(2,(3,(0,(true,()))))]:List U1),())),1,0,())with|none=>none|some (y0,y1,y2,y3,_)=>match ABy ((4,(([(0,(1,(0,(true,())))),(0,(2,(0,(true,())))),(1,(2,(0,(false,())))),(2,(3,(0,(true,()))))]:List U1),())),([(3,(2,())),(0,(1,())),(1,(3,())),(1,(0,()))]:List U3),())with|none=>none|some (y4,y5,y6,_)=>match XV ((y0,(y1,())),0,3,1,())with|none=>none|some (y7,y8,_)=>match ABs ((4,(([(0,(1,(0,(true,())))),(0,(2,(0,(true,())))),(1,(2,(0,(false,())))),(2,(3,(0,(true,()))))]:List U1),())),([(2,(1,())),(3,(0,()))]:List U3),())with|none=>none|some (y9,y10,_)=>match AFi ((4,(([(0,(1,(0,(true,())))),(0,(2,(0,(true,())))),(1,(2,(0,(false,())))),(2,(3,(0,(true,()))))]:List U1),())),0,3,())with|none=>none|some (y11,y12,y13,y14,_)=>match XV ((4,(([(0,(1,(0,(true,())))),(0,(2,(0,(true,())))),(1,(2,(0,(false,())))),(2,(3,(0,(true,()))))]:List U1),())),0,3,0,())with|none=>none|some (y15,y16,_)=>match(ieq y3 0)with
 |true=>match(ieq y6 0)with
  |true=>match(ieq y8 0)with
   |true=>match(ieq y10 0)with
    |true=>match(ieq y14 6)with
     |true=>match(ieq y16 5)with
      |true=>match((y2.1==true)&&((y2.2.1==true)&&(ieq y2.2.2.1.1 1&&(ieq y2.2.2.1.2.1 2&&(ieq y2.2.2.2.1 0&&true)))))with
       |true=>match Tr ((y0,(y1,())),(4,(([(0,(2,(0,(true,())))),(1,(2,(0,(true,())))),(2,(3,(0,(true,()))))]:List U1),())),())with|none=>none|some (y17,_)=>match y17 with
        |true=>match(ieq (AO y5) 2)with
         |true=>match idx y5 1 with|none=>none|some x18=>match(((AP y5 1 (false,(false,((0,(0,())),(0,()))))).1==true)&&(((AP y5 1 (false,(false,((0,(0,())),(0,()))))).2.1==false)&&(ieq (AP y5 1 (false,(false,((0,(0,())),(0,()))))).2.2.1.1 0&&(ieq (AP y5 1 (false,(false,((0,(0,())),(0,()))))).2.2.1.2.1 0&&(ieq (AP y5 1 (false,(false,((0,(0,())),(0,()))))).2.2.2.1 0&&true)))))with
          |true=>match(ieq (AO y4.2.1) 2)with
           |true=>match WD (y7,([0]:List (Int)),())with|none=>none|some (y19,_)=>match y19 with
            |true=>match AJn (y9,([(1,(2,()))]:List U3),())with|none=>none|some (y20,_)=>some (y20,())
            |false=>some (false,())
           |false=>some (false,())
          |false=>some (false,())
         |false=>some (false,())
        |false=>some (false,())
       |false=>some (false,())
      |false=>some (false,())
     |false=>some (false,())
    |false=>some (false,())
   |false=>some (false,())
  |false=>some (false,())
 |false=>some (false,())
def JS[Lk]:=fun v=>Lk.f (Wx v)
theorem AXs v:JS v=Wx v:=AN _
abbrev Ke:AE:=[(.tmp 0,.dat (.int .u8)),(.tmp 1,.dat Uq),(.tmp 2,.dat Uq)]
abbrev Kd:AE:=[(.tmp 0,.dat .bool)]
abbrev Kc:List RS:=[.one]
abbrev PD:AE:=[(.tmp 1,.dat Uq),(.tmp 2,.dat Uq),(.tmp 7,.box 2),(.cell 0 0,.di),(.cell 0 1,.dat Up),(.tmp 8,.di)]
abbrev PC:As:=[(.ret,[(.tmp 6,.dat .bool)]),(.exit 0,[])]
def BB[Lk]:(List U3×List U3×Int×List U1×Int×Unit)→Option ((List U3×List U3×Int×List U1×Int×Unit)⊕Uh⊕(Unit)⊕Unit):=fun(a0,a1,a2,a3,a4,_)=>
 match(ilt a4 2)with
 |true=>match AIW ((a2,(a3,())),a0,())with|none=>none|some (y0,y1,y2,y3,_)=>match(!(ieq y3 0))with
  |true=>some (.inr (.inl ((ieq y3 10),())))
  |false=>match ABy ((y0,(y1,())),a1,())with|none=>none|some (y4,y5,y6,_)=>match(!(ieq y6 0))with
  |true=>match(ieq y6 10)with
   |true=>match Tr ((y4.1,(y4.2.1,())),(y0,(y1,())),())with|none=>none|some (y7,_)=>some (.inr (.inl (y7,())))
   |false=>some (.inr (.inl (false,())))
  |false=>match QK ((y0,(y1,())),a1,())with|none=>none|some (y8,y9,_)=>match(!(ieq (AO y5) (AO y8)))with
  |true=>some (.inr (.inl (false,())))
  |false=>match(!(ieq (AO y4.2.1) (IntKind.wrap .i64 ((AO y1)-(AO y8)))))with
  |true=>some (.inr (.inl (false,())))
  |false=>match RC ((y4.1,(y4.2.1,())),())with|none=>none|some (y10,_)=>match(!y10)with
  |true=>some (.inr (.inl (false,())))
  |false=>some (.inl (a0,a1,y4.1,y4.2.1,(IntKind.wrap .i64 (a4+1)),()))
 |false=>some (.inr (.inr (.inl ())))
def HS[Lk]:(Int×List U3×List U3×Unit)→Option (Uh):=fun(a0,a1,a2,_)=>
 match JS ()with|none=>none|some (y0,_)=>match(!y0)with
 |true=>some (false,())
 |false=>match(ilt 20 (AO a1))with
 |true=>some (true,())
 |false=>match(ilt 12 (AO a2))with
 |true=>some (true,())
 |false=>match rem? (IntKind.wrap .i64 a0) 10 with|none=>none|some x1=>match AS BB many (a1,a2,(IntKind.wrap .i64 (1+x1)),([]:List U1),0,())with|none=>none|some r=>match r with
 |.inl (o2,_)=>some (o2,())
 |.inr r=>match r with
 |.inl _=>some (true,())
 |.inr _=>none
def F6[Lk]:=fun v=>Lk.f (HS v)
theorem PE v:F6 v=HS v:=AN _
end
end Go.Pev
end
section
namespace Go.Pev
noncomputable section
attribute [local irreducible] NA Jh O5 Lq AcC AcD AcE RM T5 Yc AAe Jj AQ many IntKind.wrap AO An AP A1 Bo Dp KE AF BY B1 imax AX Ah
end
end Go.Pev
end
section

end
section
namespace Go.Pev.Pl
theorem Aj{n:Int}(h:-9223372036854775808≤n∧n≤9223372036854775807):IntKind.wrap .i64 n=n:=IntWalk.i64_in n h
section
variable {α:Type} [Inhabited α]
theorem Ai{d:Array α}{n:Nat}(h:n<d.size):idx d.toList (n:Int)=some d[n]! := by
 rw[idx_eq,O5,AlQ (by omega)]
 simp[h]
theorem Ar{d:Array α}{n:Nat}{z:α}(h:n<d.size):AP d.toList (AF (n:Int)) z=d[n]! := by
 simp[AP,AF,h]
theorem C9{d:Array α}{n:Nat}{x:α}:An d.toList (AF (n:Int)) x=(d.setIfInBounds n x).toList:=by
 simp[An,AF]
theorem AMS{d:Array α}:AO d.toList=(d.size:Int):=by simp[AO]
theorem DE(d:Array α)(i j:Nat):(d.setIfInBounds i d[j]!).setIfInBounds j d[i]! = Go.Sort.swp d i j:=rfl
theorem size_swp(d:Array α)(i j:Nat):(Go.Sort.swp d i j).size=d.size:=by simp[Go.Sort.swp]
end
theorem AK(a b:Nat):ilt (a:Int) (b:Int)=decide (a<b):=by rw[Al];simp
theorem Bq(a b:Nat):ile (a:Int) (b:Int)=decide (a≤b):=by rw[Ap];simp
theorem R3(a b:Nat):ieq (a:Int) (b:Int)=decide (a=b):=by
 rw[ED]
 by_cases h:a=b
 ·simp[h]
 ·simp[h];omega
section
theorem wrap_add{a b:Nat}(h:a+b<9223372036854775808):IntKind.wrap .i64 ((a:Int)+(b:Int))=((a+b:Nat):Int):=by rw[Aj (by omega)];omega
theorem AH{a:Nat}(h:a+1<9223372036854775808):IntKind.wrap .i64 ((a:Int)+1)=((a+1:Nat):Int):=by rw[Aj (by omega)];omega
theorem AGm{a:Nat}(h:2*a<9223372036854775808):IntKind.wrap .i64 ((2:Int)*(a:Int))=((2*a:Nat):Int):=by rw[Aj (by omega)];omega
theorem AGl{a:Nat}(h:a<9223372036854775808):IntKind.wrap .i64 ((a:Int)*1)=((a*1:Nat):Int):=by rw[Aj (by omega)];omega
theorem Ew{a:Nat}(h:a*2<9223372036854775808):IntKind.wrap .i64 ((a:Int)*2)=((a*2:Nat):Int):=by rw[Aj (by omega)];omega
theorem AGk{a:Nat}(h:a*3<9223372036854775808):IntKind.wrap .i64 ((a:Int)*3)=((a*3:Nat):Int):=by rw[Aj (by omega)];omega
theorem Bh{a b:Nat}(h:b≤a∧a<9223372036854775808):IntKind.wrap .i64 ((a:Int)-(b:Int))=((a-b:Nat):Int):=by rw[Aj (by omega)];omega
theorem Ao{a:Nat}(h:1≤a∧a<9223372036854775808):IntKind.wrap .i64 ((a:Int)-1)=((a-1:Nat):Int):=by rw[Aj (by omega)];omega
theorem Aed{a:Nat}(h:a<9223372036854775808):quo? .i64 (a:Int) 2=some ((a/2:Nat):Int):=by
 rw[T6,RM,AlQ (by omega),AnH (by omega),Aj (by omega)];rfl
theorem XU{a:Nat}(h:a<9223372036854775808):quo? .i64 (a:Int) 4=some ((a/4:Nat):Int):=by
 rw[T6,RM,AlQ (by omega),AnH (by omega),Aj (by omega)];rfl
theorem Ajr{a:Nat}(h:a<9223372036854775808):quo? .i64 (a:Int) 8=some ((a/8:Nat):Int):=by
 rw[T6,RM,AlQ (by omega),AnH (by omega),Aj (by omega)];rfl
end
end Go.Pev.Pl
end
section
namespace Go.Pev.Pl
section
variable {α:Type}
theorem CJ{xs:List α}{n:Nat}(z:α)(h:n<xs.length):idx xs (n:Int)=some (xs.getD n z):=by
 rw[idx_eq,O5,AlQ (by omega)]
 simp[h]
theorem ALo(xs:List α)(n:Nat):idx xs (n:Int)=xs[n]? := by
 rw[idx_eq,O5,AlQ (by omega)]
 simp
theorem FU(xs:List α):idx xs (0:Int)=xs.head? := by
 rw[idx_eq,O5,AlQ (by omega)]
 cases xs<;>rfl
theorem EF(xs:List α)(n:Nat)(z:α):AP xs (AF (n:Int)) z=xs.getD n z:=by simp[AP,AF]
theorem AD1(xs:List α)(n:Nat)(x:α):An xs (AF (n:Int)) x=xs.set n x:=by simp[An,AF]
theorem AM(xs:List α):AO xs=(xs.length:Int):=rfl
theorem Ii(n:Nat):AF (n:Int)=n:=by simp[AF]
theorem CO(xs ys:List α):A1 xs ys=xs++ys:=rfl
theorem Tj{xs:List α}{l h:Nat}(h1:l≤h)(h2:h≤xs.length):Bv xs (l:Int) (h:Int)=some ((xs.take h).drop l):=by
 rw[Nu,Lq,AlU (by omega)]
 simp
end
theorem A6{n:Int}(h:n≤4294967296):fits n=true:=(Ic n).2 h
theorem AXS{α:Type}{xs:List α}(h:xs.length≤4294967296):AMd xs=some xs:=by
 rw[AIK,Jj,(WQ _).2 (by rw[AM];omega)]
theorem R4{α β:Type}(xs:List α)(ys:List β):ieq (AO xs) (AO ys)=decide (xs.length=ys.length):=by rw[AM,AM,R3]
theorem Ak(a b:Int):ieq a b=decide (a=b):=by
 rw[ED]
 by_cases h:a=b<;>simp[h]
def walk{α β ρ:Type}(f:β→α→α⊕ρ)(fin:α→ρ):List β→α→ρ
 |[],a=>fin a
 |x::xs,a=>match f x a with
  |.inl a=>walk f fin xs a
  |.inr r=>r
theorem AZc{σ ρ α β:Type}{step:σ→Option (σ⊕ρ)}(st:Nat→α→σ)(xs:List β)(f:β→α→α⊕ρ)(fin:α→ρ)(I:Nat→α→Prop)
  (h:∀ i x a,i<xs.length→xs[i]? = some x→I i a→(∀ a',f x a = .inl a'→step (st i a)=some (.inl (st (i+1) a'))∧I (i+1) a')∧(∀ r,f x a = .inr r→step (st i a)=some (.inr r)))
  (hN:∀ a,I xs.length a→step (st xs.length a)=some (.inr (fin a))) :
  ∀ (m i n:Nat) (a:α),xs.length-i=m→i≤xs.length→m<n→I i a→AQ step n (st i a)=some (walk f fin (xs.drop i) a):=by
 intro m
 induction m with
 |zero=>
  intro i n a hk hi hn hI
  obtain⟨n,rfl⟩:∃ k,n=k+1:=⟨n-1,by omega⟩
  have e:i=xs.length:=by omega
  subst e
  rw[AQ,hN a hI,List.drop_length]
  rfl
 |succ m ih=>
  intro i n a hk hi hn hI
  obtain⟨n,rfl⟩:∃ k,n=k+1:=⟨n-1,by omega⟩
  have hi':i<xs.length:=by omega
  obtain⟨g1,g2⟩:=h i xs[i] a hi' (by simp[hi']) hI
  rw[Al2 hi',walk,AQ]
  cases hf:f xs[i] a with
  |inl a'=>
   obtain⟨e,hI'⟩:=g1 a' hf
   rw[e]
   exact ih (i+1) n a' (by omega) (by omega) (by omega) hI'
  |inr r=>rw[g2 r hf]
theorem CX{σ ρ α β:Type}{step:σ→Option (σ⊕ρ)}(st:Nat→α→σ)(xs:List β)(f:β→α→α⊕ρ)(fin:α→ρ)(I:Nat→α→Prop)(hs:xs.length<9223372036854775808)
  (h:∀ i x a,i<xs.length→xs[i]? = some x→I i a→(∀ a',f x a = .inl a'→step (st i a)=some (.inl (st (i+1) a'))∧I (i+1) a')∧(∀ r,f x a = .inr r→step (st i a)=some (.inr r)))
  (hN:∀ a,I xs.length a→step (st xs.length a)=some (.inr (fin a))) (a:α) (h0:I 0 a):AS step many (st 0 a)=some (walk f fin xs a):=by
 have hm:9223372036854775808<many:=by simp only[many];omega
 rw[Ae,AZc st xs f fin I h hN xs.length 0 many a (by omega) (by omega) (by omega) h0]
 rfl
theorem Fc{α:Type}{xs ys:List α}(z:α)(hl:xs.length=ys.length)(h:∀ j,j<xs.length→xs.getD j z=ys.getD j z):xs=ys:=by
 apply AoN hl
 intro i h1 h2
 have:=h i h1
 simpa [h1,h2]using this
theorem X0{α:Type}{xs ys:List α}(z:α){j:Nat}(h:xs.getD j z≠ys.getD j z):xs≠ys:=fun e=>h (by rw[e])
theorem AaE{σ ρ:Type}{step:σ→Option (σ⊕ρ)}(st:Nat→σ)(N:Nat)(P:Nat→Bool)(rt:Nat→ρ)(rf:ρ)
  (h:∀ i,i<N→step (st i)=if P i then some (.inr (rt i))else some (.inl (st (i+1)))) (hN:step (st N)=some (.inr rf)) :
  ∀ (m i n:Nat),N-i=m→i≤N→m<n→(∃ k,i≤k∧k<N∧P k=true∧(∀ j,i≤j→j<k→P j=false)∧AQ step n (st i)=some (rt k))∨((∀ j,i≤j→j<N→P j=false)∧AQ step n (st i)=some rf):=by
 intro m
 induction m with
 |zero=>
  intro i n hk hi hn
  obtain⟨n,rfl⟩:∃ k,n=k+1:=⟨n-1,by omega⟩
  have e:i=N:=by omega
  subst e
  exact .inr ⟨fun j h1 h2=>by omega,by rw[AQ,hN]⟩
 |succ m ih=>
  intro i n hk hi hn
  obtain⟨n,rfl⟩:∃ k,n=k+1:=⟨n-1,by omega⟩
  have hi':i<N:=by omega
  cases hP:P i
  ·have e:AQ step (n+1) (st i)=AQ step n (st (i+1)):=by rw[AQ,h i hi',hP];rfl
   rw[e]
   rcases ih (i+1) n (by omega) (by omega) (by omega)with⟨k,h1,h2,h3,h4,h5⟩|⟨h1,h2⟩
   ·refine .inl ⟨k,by omega,h2,h3,fun j a1 a2 => ?_,h5⟩
    by_cases ej:j=i
    ·subst ej;exact hP
    ·exact h4 j (by omega) a2
   ·refine .inr ⟨fun j a1 a2 => ?_,h2⟩
    by_cases ej:j=i
    ·subst ej;exact hP
    ·exact h1 j (by omega) a2
  ·exact .inl ⟨i,AlS _,hi',hP,fun j a1 a2=>by omega,by rw[AQ,h i hi',hP];rfl⟩
theorem AAf{σ ρ:Type}{step:σ→Option (σ⊕ρ)}(st:Nat→σ)(N:Nat)(P:Nat→Bool)(rt:Nat→ρ)(rf:ρ)(hs:N<9223372036854775808)
  (h:∀ i,i<N→step (st i)=if P i then some (.inr (rt i))else some (.inl (st (i+1)))) (hN:step (st N)=some (.inr rf)) :
  (∃ k,k<N∧P k=true∧(∀ j,j<k→P j=false)∧AS step many (st 0)=some (rt k))∨((∀ j,j<N→P j=false)∧AS step many (st 0)=some rf):=by
 have hm:9223372036854775808<many:=by simp only[many];omega
 rw[Ae]
 rcases AaE st N P rt rf h hN N 0 many rfl (by omega) (by omega)with⟨k,h1,h2,h3,h4,h5⟩|⟨h1,h2⟩
 ·exact .inl ⟨k,h2,h3,fun j a=>h4 j (by omega) a,h5⟩
 ·exact .inr ⟨fun j a=>h1 j (by omega) a,h2⟩
end Go.Pev.Pl
end
section
namespace Go.Pev.Pl
inductive Tok where
 |ver (v:Int)
 |arc (u v:Int)
 deriving DecidableEq
namespace Tok
def st:Tok→Int
 |.ver v=>v
 |.arc _ v=>v
def step(s:List Int×List Int):Tok→Option (List Int×List Int)
 |.ver v=>match s.1 with
  |w::_=>if w=v then some s else none
  |[]=>none
 |.arc u v=>match s.1 with
  |w::r=>if w=u then match r with
    |p::r'=>if p=v then some (p::r',s.2)else if v∈s.2 then none else some (v::w::r,v::s.2)
    |[]=>if v∈s.2 then none else some (v::w::r,v::s.2)
   else none
  |[]=>none
def run:List Int×List Int→List Tok→Option (List Int×List Int)
 |s,[]=>some s
 |s,t::l=>match step s t with
  |some s=>run s l
  |none=>none
theorem Dc(s:List Int×List Int)(a b:List Tok):run s (a++b)=(run s a).bind fun s=>run s b:=by
 induction a generalizing s with
 |nil=>rfl
 |cons t a ih=>
  simp only[All,run]
  cases step s t with
  |none=>rfl
  |some s=>exact ih s
theorem B8{s s':List Int×List Int}{t:Tok}(h:step s t=some s'):
  (∃ v r,t = .ver v∧s.1=v::r∧s'=s) ∨
  (∃ u v r,t = .arc u v∧s.1=u::v::r∧s'=(v::r,s.2)) ∨
  (∃ u v r,t = .arc u v∧s.1=u::r∧r.head?≠some v∧v∉s.2∧s'=(v::u::r,v::s.2)):=by
 obtain⟨way,c⟩:=s
 cases t with
 |ver v=>
  cases way with
  |nil=>simp[step]at h
  |cons w r=>
   simp only[step]at h
   split at h
   ·rename_i e;cases h;exact .inl ⟨v,r,rfl,by simp[e],rfl⟩
   ·cases h
 |arc u v=>
  cases way with
  |nil=>simp[step]at h
  |cons w r=>
   simp only[step]at h
   split at h
   ·rename_i e
    subst e
    cases r with
    |nil=>
     simp only at h
     split at h
     ·cases h
     ·rename_i hc;cases h;exact .inr (.inr ⟨w,v,[],rfl,rfl,by simp,hc,rfl⟩)
    |cons p r=>
     simp only at h
     split at h
     ·rename_i e;subst e;cases h;exact .inr (.inl ⟨w,p,r,rfl,rfl,rfl⟩)
     ·split at h
      ·cases h
      ·rename_i e hc;cases h;exact .inr (.inr ⟨w,v,p::r,rfl,rfl,by simpa using e,hc,rfl⟩)
   ·cases h
theorem DW(v:Int)(r c:List Int):step (v::r,c) (.ver v)=some (v::r,c):=by simp[step]
theorem Gr(u v:Int)(r c:List Int):step (u::v::r,c) (.arc u v)=some (v::r,c):=by simp[step]
theorem Fx(u v:Int)(r c:List Int)(h1:r.head?≠some v)(h2:v∉c):step (u::r,c) (.arc u v)=some (v::u::r,v::c):=by
 cases r with
 |nil=>simp[step,h2]
 |cons p r=>
  have:p≠v:=by simpa using h1
  simp[step,h2,this]
def Inv(s:List Int×List Int):Prop:=s.1.Nodup∧(∀ x∈s.1,x∈s.2)
theorem AAR{s s':List Int×List Int}{t:Tok}(h:step s t=some s')(hi:Inv s):Inv s'∧(∀ x∈s.2,x∈s'.2)∧s'.1.head? = some t.st:=by
 obtain⟨way,c⟩:=s
 obtain⟨h1,h2⟩:=hi
 rcases B8 h with⟨v,r,rfl,hw,rfl⟩|⟨u,v,r,rfl,hw,rfl⟩|⟨u,v,r,rfl,hw,_,hn,rfl⟩
 ·exact⟨⟨h1,h2⟩,fun x hx=>hx,by rw[hw];rfl⟩
 ·simp only at hw h1 h2
  subst hw
  refine⟨⟨?_,?_⟩,fun x hx=>hx,rfl⟩
  ·exact(Alq.1 h1).2
  ·intro x hx;exact h2 x (by simp only at hx;simp[AlO.1 hx])
 ·simp only at hw h1 h2 hn
  subst hw
  refine⟨⟨?_,?_⟩,fun x hx=>by simp[hx],rfl⟩
  ·exact Alq.2 ⟨fun hm=>hn (h2 _ hm),h1⟩
  ·intro x hx
   rcases AlO.1 hx with rfl|hx
   ·simp
   ·exact Alg _ (h2 x hx)
theorem I4{l:List Tok}:∀ {s s':List Int×List Int},run s l=some s'→Inv s→Inv s'∧(∀ x∈s.2,x∈s'.2)∧∀ t,l.getLast? = some t→s'.1.head? = some t.st:=by
 induction l with
 |nil=>intro s s' h hi;cases h;exact⟨hi,fun x hx=>hx,fun t ht=>by simp at ht⟩
 |cons t l ih=>
  intro s s' h hi
  simp only[run]at h
  split at h
  ·rename_i s1 h1
   obtain⟨q1,q2,q3⟩:=AAR h1 hi
   obtain⟨p1,p2,p3⟩:=ih h q1
   refine⟨p1,fun x hx=>p2 x (q2 x hx),fun t' ht' => ?_⟩
   cases l with
   |nil=>simp at ht';subst ht';simp only[run]at h;cases h;exact q3
   |cons y l=>exact p3 t' (by rw[AoD]at ht';exact ht')
  ·cases h
theorem Hl{Z:Int→Prop}:∀ {l:List Tok} {way way' c d c2 low:List Int},run (way,c) l=some (way',d)→way≠[]→(∀ x,x∈c2↔x∈c∨Z x) →
  (∀ u v,.arc u v∈l→¬ Z v)→(∀ y∈low,Z y)→∃ d2,run (way++low,c2) l=some (way'++low,d2)∧(∀ x,x∈d2↔x∈d∨Z x):=by
 intro l
 induction l with
 |nil=>intro way way' c d c2 low h _ hc _ _;cases h;exact⟨c2,rfl,hc⟩
 |cons t l ih=>
  intro way way' c d c2 low h hne hc hz hl
  simp only[run]at h
  split at h
  ·rename_i s1 h1
   have hz':∀ u v,Tok.arc u v∈l→¬ Z v:=fun u v hm=>hz u v (Alg _ hm)
   rcases B8 h1 with⟨v,r,rfl,hw,rfl⟩|⟨u,v,r,rfl,hw,rfl⟩|⟨u,v,r,rfl,hw,hh,hn,rfl⟩
   ·simp only at hw
    subst hw
    obtain⟨d2,e1,e2⟩:=ih h hne hc hz' hl
    exact⟨d2,by simp only[run,All,DW];exact e1,e2⟩
   ·simp only at hw
    subst hw
    obtain⟨d2,e1,e2⟩:=ih h (by simp) hc hz' hl
    exact⟨d2,by simp only[run,All,Gr];exact e1,e2⟩
   ·simp only at hw hn
    subst hw
    have hzv:=hz u v (by simp)
    have hn2:v∉c2:=by rw[hc];rintro (h|h);exact hn h;exact hzv h
    have hh2:(r++low).head?≠some v:=by
     cases r with
     |nil=>
      cases low with
      |nil=>simp
      |cons y low=>
       simp only[Alp,List.head?_cons,ne_eq,AlG]
       rintro rfl
       exact hzv (hl _ (by simp))
     |cons p r=>simpa using hh
    obtain⟨d2,e1,e2⟩:=ih (c2:=v::c2) h (by simp) (by intro x;simp only[AlO,hc,or_assoc]) hz' hl
    exact⟨d2,by simp only[run,All,Fx _ _ _ _ hh2 hn2];exact e1,e2⟩
  ·cases h
theorem AAq{z:Int}:∀ {l:List Tok} {way way' c2 d2 c:List Int},run (way,c2) l=some (way',d2)→z∉way→(∀ x,x∈c2↔x∈c∨x=z)→z∉c →
  .ver z∉l∧∃ d,run (way,c) l=some (way',d)∧(∀ x,x∈d2↔x∈d∨x=z)∧z∉d:=by
 intro l
 induction l with
 |nil=>intro way way' c2 d2 c h _ hc hz;cases h;exact⟨by simp,c,rfl,hc,hz⟩
 |cons t l ih=>
  intro way way' c2 d2 c h hzw hc hz
  simp only[run]at h
  split at h
  ·rename_i s1 h1
   rcases B8 h1 with⟨v,r,rfl,hw,rfl⟩|⟨u,v,r,rfl,hw,rfl⟩|⟨u,v,r,rfl,hw,hh,hn,rfl⟩
   ·simp only at hw
    subst hw
    obtain⟨e0,d,e1,e2,e3⟩:=ih h hzw hc hz
    refine⟨?_,d,by simp only[run,DW];exact e1,e2,e3⟩
    rintro hm
    rcases AlO.1 hm with hm|hm
    ·cases hm;exact hzw (by simp)
    ·exact e0 hm
   ·simp only at hw
    subst hw
    obtain⟨e0,d,e1,e2,e3⟩:=ih h (fun hm=>hzw (Alg _ hm)) hc hz
    refine⟨?_,d,by simp only[run,Gr];exact e1,e2,e3⟩
    rintro hm
    rcases AlO.1 hm with hm|hm
    ·cases hm
    ·exact e0 hm
   ·simp only at hw hn
    subst hw
    have hvz:v≠z:=by rintro rfl;exact hn ((hc v).2 (.inr rfl))
    have hn':v∉c:=fun hm=>hn ((hc v).2 (.inl hm))
    obtain⟨e0,d,e1,e2,e3⟩:=ih (c:=v::c) h (by intro hm;rcases AlO.1 hm with hm|hm;exact hvz hm.symm;exact hzw hm)
     (by intro x;simp only[AlO,hc,or_assoc])
     (by intro hm;rcases AlO.1 hm with hm|hm;exact hvz hm.symm;exact hz hm)
    refine⟨?_,d,by simp only[run,Fx _ _ _ _ hh hn'];exact e1,e2,e3⟩
    rintro hm
    rcases AlO.1 hm with hm|hm
    ·cases hm
    ·exact e0 hm
  ·cases h
def Rot(a b:List Tok):Prop:=∃ x y,a=x++y∧b=y++x
theorem Rot.refl(a:List Tok):Rot a a:=⟨[],a,rfl,by simp⟩
theorem Rot.symm{a b:List Tok}(h:Rot a b):Rot b a:=by obtain⟨x,y,h1,h2⟩:=h;exact⟨y,x,h2,h1⟩
theorem Rot.trans{a b c:List Tok}(h:Rot a b)(g:Rot b c):Rot a c:=by
 obtain⟨x,y,rfl,h2⟩:=h
 obtain⟨z,w,h3,rfl⟩:=g
 rw[h2]at h3
 rcases List.append_eq_append_iff.1 h3 with⟨k,h4,h5⟩|⟨k,h4,h5⟩
 ·subst h4 h5
  exact⟨k,w++y,by simp,by simp⟩
 ·subst h4 h5
  exact⟨x++z,k,by simp,by simp⟩
theorem Rot.perm{a b:List Tok}(h:Rot a b):a.Perm b:=by
 obtain⟨x,y,rfl,rfl⟩:=h
 exact Amt
theorem Rot.mem{a b:List Tok}(h:Rot a b)(t:Tok):t∈a↔t∈b:=h.perm.mem_iff
theorem Rot.nodup{a b:List Tok}(h:Rot a b):a.Nodup↔b.Nodup:=h.perm.nodup_iff
theorem Rot.length{a b:List Tok}(h:Rot a b):a.length=b.length:=h.perm.length_eq
inductive T:List Tok→Prop
 |one (v:Int):T [.ver v]
 |add (x:Tok) (l:List Tok) (v:Int):T (x::l)→x.st≠v→.ver v∉x::l→T (x :: .arc x.st v :: .ver v :: .arc v x.st::l)
 |rot (a b:List Tok):T (a++b)→T (b++a)
theorem T.AVQ{a b:List Tok}(h:T a)(r:Rot a b):T b:=by obtain⟨x,y,rfl,rfl⟩:=r;exact T.rot x y h
theorem T.facts{l:List Tok}(h:T l):l≠[]∧(∀ t∈l,.ver t.st∈l)∧(∀ u v,.arc u v∈l→.ver u∈l∧.ver v∈l∧.arc v u∈l∧u≠v):=by
 induction h with
 |one v=>exact⟨by simp,by simp[st],by simp⟩
 |add x l v h hne hv ih=>
  obtain⟨_,i2,i3⟩:=ih
  have hsub:∀ t,t∈x::l→t∈x::Tok.arc x.st v :: .ver v :: .arc v x.st::l:=by
   intro t ht
   rcases AlO.1 ht with rfl|ht
   ·simp
   ·simp[ht]
  have hx:=hsub _ (i2 x (by simp))
  have cases3:∀ t,t∈x::Tok.arc x.st v :: .ver v :: .arc v x.st::l→t∈x::l∨t = .arc x.st v∨t = .ver v∨t = .arc v x.st:=by
   intro t ht
   simp only[AlO]at ht ⊢
   rcases ht with h|h|h|h|h<;>simp[h]
  refine⟨by simp,fun t ht => ?_,fun a b hab => ?_⟩
  ·rcases cases3 t ht with h|rfl|rfl|rfl
   ·exact hsub _ (i2 t h)
   ·simp[st]
   ·simp[st]
   ·exact hx
  ·rcases cases3 _ hab with h|h|h|h
   ·obtain⟨p1,p2,p3,p4⟩:=i3 a b h
    exact⟨hsub _ p1,hsub _ p2,hsub _ p3,p4⟩
   ·cases h;exact⟨hx,by simp,by simp,hne⟩
   ·cases h
   ·cases h;exact⟨by simp,hx,by simp,AmD hne⟩
 |rot a b h ih=>
  obtain⟨i1,i2,i3⟩:=ih
  have hm:∀ t,t∈a++b↔t∈b++a:=fun t=>List.perm_append_comm.mem_iff
  refine⟨by intro e;simp only[List.append_eq_nil_iff]at e;exact i1 (by simp[e.1,e.2]),fun t ht=>(hm _).1 (i2 t ((hm _).2 ht)),fun u v huv => ?_⟩
  obtain⟨p1,p2,p3,p4⟩:=i3 u v ((hm _).2 huv)
  exact⟨(hm _).1 p1,(hm _).1 p2,(hm _).1 p3,p4⟩
theorem T.nodup{l:List Tok}(h:T l):l.Nodup:=by
 induction h with
 |one v=>simp
 |add x l v h hne hv ih=>
  obtain⟨_,_,f3⟩:=h.facts
  have h1:Tok.arc x.st v∉x::l:=fun hm=>hv (f3 _ _ hm).2.1
  have h2:Tok.arc v x.st∉x::l:=fun hm=>hv (f3 _ _ hm).1
  simp only[AlO,not_or]at h1 h2 hv
  have ih':=Alq.1 ih
  simp only[Alq,AlO,not_or]
  refine⟨⟨fun e=>h1.1 e.symm,fun e=>hv.1 e.symm,fun e=>h2.1 e.symm,ih'.1⟩,⟨by simp,?_,h1.2⟩,⟨by simp,hv.2⟩,h2.2,ih'.2⟩
  intro e
  simp only[Tok.arc.injEq]at e
  exact hne e.1
 |rot a b h ih=>exact(List.perm_append_comm.nodup_iff).1 ih
def C(l:List Tok):Prop:=∀ r,Rot l r→∀ t,r.getLast? = some t→∃ c,run ([t.st],[t.st]) r=some ([t.st],c)∧∀ x,x∈c↔.ver x∈l
end Tok
end Go.Pev.Pl
end
section
namespace Go.Pev.Pl.Tok
theorem getLast?_app{a b:List Tok}{t:Tok}(h:b.getLast? = some t):(a++b).getLast? = some t:=by
 rw[AnZ,h];rfl
theorem A2(s:List Int×List Int)(t:Tok)(l:List Tok):run s (t::l)=(step s t).bind fun s=>run s l:=by
 rw[run]
 cases step s t<;>rfl
theorem On(v:Int):Inv ([v],[v]):=⟨by simp,by simp⟩
theorem T.toC{l:List Tok}(h:T l):C l:=by
 induction h with
 |one v=>
  intro r hr t ht
  have:r=[.ver v]:=List.perm_singleton.1 hr.perm.symm
  subst this
  simp at ht
  subst ht
  exact⟨[v],by simp[run,st,step],by simp⟩
 |rot a b h ih=>
  intro r hr t ht
  obtain⟨c,h1,h2⟩:=ih r (Rot.trans ⟨a,b,rfl,rfl⟩ hr) t ht
  exact⟨c,h1,fun x=>(h2 x).trans (List.perm_append_comm.mem_iff)⟩
 |add x l v h hne hv ih=>
  obtain⟨_,f2,f3⟩:=h.facts
  have hnz:∀ u w,Tok.arc u w∈x::l→¬ (w=v):=fun u w hm e=>hv (e▸(f3 u w hm).2.1)
  have fin:∀ {d2 c:List Int},(∀ y,y∈d2↔y∈c∨y=v)→(∀ y,y∈c↔.ver y∈x::l)→∀ y,y∈d2↔Tok.ver y∈x :: .arc x.st v :: .ver v :: .arc v x.st::l:=by
   intro d2 c e1 e2 y
   rw[e1,e2]
   simp only[AlO,reduceCtorEq,false_or,Tok.ver.injEq]
   constructor
   ·rintro ((h|h)|h)<;>simp[h]
   ·rintro (h|h|h)<;>simp[h]
  have triple:∀ {w' c1:List Int},Inv (x.st::w',c1)→v∉c1→∀ p,run (x.st::w',c1) (.arc x.st v :: .ver v :: .arc v x.st::p)=run (x.st::w',v::c1) p:=by
   intro w' c1 hi hn p
   have hh:w'.head?≠some v:=by
    intro e
    exact hn (hi.2 v (Alg _ (List.mem_of_head? e)))
   rw[A2,Fx _ _ _ _ hh hn,Al4,A2,DW,Al4,A2,Gr,Al4]
  have G:∀ q1 p1,l=p1++q1→∀ t,(q1++x :: .arc x.st v :: .ver v :: .arc v x.st::p1).getLast? = some t→∃ c,run ([t.st],[t.st]) (q1++x :: .arc x.st v :: .ver v :: .arc v x.st::p1)=some ([t.st],c)∧∀ y,y∈c↔.ver y∈x :: .arc x.st v :: .ver v :: .arc v x.st::l:=by
   intro q1 p1 hl t ht
   have hrot:Rot (x::l) (q1++x::p1):=⟨x::p1,q1,by simp[hl],rfl⟩
   have ht0:∃ t0,(q1++x::p1).getLast? = some t0∧t0.st=t.st:=by
    cases p1 with
    |nil=>
     refine⟨x,getLast?_app (by simp),?_⟩
     rw[show q1++[x,Tok.arc x.st v,.ver v,.arc v x.st]=(q1++[x,Tok.arc x.st v,.ver v])++[Tok.arc v x.st] by simp,AnD]at ht
     cases ht;rfl
    |cons y p1=>
     refine⟨t,?_,rfl⟩
     rw[show q1++x::Tok.arc x.st v :: .ver v :: .arc v x.st::y::p1=(q1++[x,Tok.arc x.st v,.ver v,.arc v x.st])++y::p1 by simp,AnZ]at ht
     rw[show q1++x::y::p1=(q1++[x])++y::p1 by simp,AnZ]
     exact ht
   obtain⟨t0,e0,e1⟩:=ht0
   obtain⟨c,h1,h2⟩:=ih _ hrot t0 e0
   rw[e1,show q1++x::p1=(q1++[x])++p1 by simp,Dc,Al3]at h1
   obtain⟨⟨w1,c1⟩,g1,g2⟩:=h1
   obtain⟨i1,i2,i3⟩:=I4 g1 (On _)
   obtain⟨j1,j2,j3⟩:=I4 g2 i1
   have i3':=i3 x (by simp)
   simp only at i3'
   cases w1 with
   |nil=>simp at i3'
   |cons w0 w'=>
    simp at i3'
    subst i3'
    have hn:v∉c1:=fun hm=>hv ((h2 v).1 (j2 v hm))
    obtain⟨d2,k1,k2⟩:=Hl (Z:=(· = v)) (c2:=v::c1) (low:=[]) g2 (by simp) (fun y=>by simp[or_comm]) (fun u w hm=>hnz u w (by simp[hl,hm])) (by simp)
    refine⟨d2,?_,fin k2 h2⟩
    rw[show q1++x::Tok.arc x.st v :: .ver v :: .arc v x.st::p1=(q1++[x])++Tok.arc x.st v :: .ver v :: .arc v x.st::p1 by simp,Dc,g1,Al4,triple i1 hn]
    simpa using k1
  intro r hr t ht
  obtain⟨p,q,hpq,rfl⟩:=hr
  have base:∀ t0:Tok,(l++[x]).getLast? = some t0→t0=x:=fun t0 h=>by rw[AnD]at h;exact(Amp h).symm
  obtain⟨c,h1,h2⟩:=ih (l++[x]) ⟨[x],l,rfl,rfl⟩ x (by simp)
  match p with
  |[]=>
   simp only[Alp]at hpq
   subst hpq
   have:=G [] l (by simp) t (by simpa using ht)
   simpa using this
  |[y]=>
   simp only[All,Alp,Alj]at hpq
   obtain⟨rfl,rfl⟩:=hpq
   have:t=x:=by
    rw[AnD]at ht
    exact(Amp ht).symm
   subst this
   have hn:v∉[t.st]:=by simp;exact AmD hne
   obtain⟨d2,k1,k2⟩:=Hl (Z:=(· = v)) (c2:=[v,t.st]) (low:=[]) h1 (by simp) (fun y=>by simp[or_comm]) (fun u w hm=>hnz u w (by simpa [or_comm]using hm)) (by simp)
   refine⟨d2,?_,fin k2 h2⟩
   rw[show(Tok.arc t.st v :: .ver v :: .arc v t.st::l)++[t]=Tok.arc t.st v :: .ver v :: .arc v t.st::(l++[t]) by simp,triple (On _) hn]
   simpa using k1
  |[y,z]=>
   simp only[All,Alp,Alj]at hpq
   obtain⟨rfl,rfl,rfl⟩:=hpq
   have:t = .arc x.st v:=by
    rw[show(Tok.ver v :: .arc v x.st::l)++[x,.arc x.st v]=(Tok.ver v :: .arc v x.st::l++[x])++[.arc x.st v] by simp,AnD]at ht
    exact(Amp ht).symm
   subst this
   obtain⟨d2,k1,k2⟩:=Hl (Z:=(· = v)) (c2:=[x.st,v]) (low:=[v]) h1 (by simp) (fun y=>by simp) (fun u w hm=>hnz u w (by simpa [or_comm]using hm)) (by simp)
   refine⟨d2,?_,fin k2 h2⟩
   rw[show(Tok.ver v :: .arc v x.st::l)++[x,.arc x.st v]=Tok.ver v :: .arc v x.st::((l++[x])++[.arc x.st v]) by simp]
   rw[A2]
   show(step ([v],[v]) _).bind _=_
   rw[DW,Al4,A2,Fx _ _ _ _ (by simp) (by simp;exact hne),Al4,Dc]
   rw[show([x.st]++[v]:List Int)=[x.st,v]from rfl]at k1
   rw[k1,Al4,A2,Gr]
   rfl
  |[y,z,w]=>
   simp only[All,Alp,Alj]at hpq
   obtain⟨rfl,rfl,rfl,rfl⟩:=hpq
   have:t = .ver v:=by
    rw[show(Tok.arc v x.st::l)++[x,.arc x.st v,.ver v]=(Tok.arc v x.st::l++[x,.arc x.st v])++[.ver v] by simp,AnD]at ht
    exact(Amp ht).symm
   subst this
   obtain⟨d2,k1,k2⟩:=Hl (Z:=(· = v)) (c2:=[x.st,v]) (low:=[v]) h1 (by simp) (fun y=>by simp) (fun u w hm=>hnz u w (by simpa [or_comm]using hm)) (by simp)
   refine⟨d2,?_,fin k2 h2⟩
   rw[show(Tok.arc v x.st::l)++[x,.arc x.st v,.ver v]=Tok.arc v x.st::((l++[x])++[.arc x.st v,.ver v]) by simp]
   rw[A2]
   show(step ([v],[v]) _).bind _=_
   rw[Fx _ _ _ _ (by simp) (by simp;exact hne),Al4,Dc]
   rw[show([x.st]++[v]:List Int)=[x.st,v]from rfl]at k1
   rw[k1,Al4,A2,Gr,Al4,A2,DW]
   rfl
  |y::z::w::w2::p1=>
   simp only[All,Alj]at hpq
   obtain⟨rfl,rfl,rfl,rfl,rfl⟩:=hpq
   exact G q p1 rfl t ht
def comp(P:List Tok):List Int→List Tok
 |[]=>[]
 |w::r=>(if .ver w∈P then []else [.ver w])++match r with
  |[]=>[]
  |p::_=>.arc w p::comp P r
theorem Qe{P P':List Tok}:∀ {way:List Int},(∀ w∈way,(Tok.ver w∈P↔Tok.ver w∈P'))→comp P way=comp P' way:=by
 intro way
 induction way with
 |nil=>intro _;rfl
 |cons w r ih=>
  intro h
  have h1:=h w (by simp)
  have h2:=ih fun x hx=>h x (Alg _ hx)
  simp only[comp,h1,h2]
theorem Agp:∀ (M P:List Tok) (way c c':List Int) (r:Int) (t0:Tok),run (way,c) M=some ([r],c')→Inv (way,c)→P.getLast? = some t0→way.head? = some t0.st →
  T (P++comp P way)→(∀ x,.ver x∈P++comp P way→x∈c)→(∀ x∈c',Tok.ver x∈P++M)→(P++M).Nodup→T (P++M):=by
 intro M
 induction M with
 |nil=>
  intro P way c c' r t0 h hi hl hh hT hc hc' hn
  cases h
  have:=hc' r (hi.2 r (by simp))
  rw[AmY]at this
  simpa [comp,this]using hT
 |cons t M ih=>
  intro P way c c' r t0 h hi hl hh hT hc hc' hn
  rw[A2,Al3]at h
  obtain⟨⟨w1,c1⟩,h1,h2⟩:=h
  obtain⟨hi1,hsub,hhd⟩:=AAR h1 hi
  have asso:P++t::M=(P++[t])++M:=by simp
  rw[asso]at hn hc' ⊢
  have hnt:t∉P:=by
   have:=(AnR.1 (AnR.1 hn).1)
   intro hm
   exact this.2.2 t hm t (by simp) rfl
  rcases B8 h1 with⟨v,rr,rfl,hw,e⟩|⟨u,v,rr,rfl,hw,e⟩|⟨u,v,rr,rfl,hw,hh2,hn2,e⟩
  ·cases e
   simp only at hw
   subst hw
   have key:comp P (v::rr) = .ver v::comp (P++[.ver v]) (v::rr):=by
    have e2:comp P rr=comp (P++[.ver v]) rr:=Qe fun w hwm=>by
     have:w≠v:=by rintro rfl;exact(Alq.1 hi.1).1 hwm
     simp[this]
    simp only[comp,hnt,e2]
    simp
   rw[key]at hT hc
   exact ih _ _ _ _ _ (.ver v) h2 hi1 (by simp) hhd (by simpa using hT) (fun x hx=>hc x (by simpa using hx)) hc' hn
  ·cases e
   simp only at hw
   subst hw
   have hu:Tok.ver u∈P:=by
    have hun:=(Alq.1 hi.1).1
    obtain⟨g1,_⟩:=AAq (z:=u) (c:=c.filter (·≠u)) h2 hun (fun x=>by
     simp only[Alz,AlI]
     constructor
     ·intro h
      by_cases e:x=u
      ·exact .inr e
      ·exact .inl ⟨h,by simpa using e⟩
     ·rintro (h|rfl)
      ·exact h.1
      ·exact hi.2 x (by simp)) (by simp)
    have hmono:=(I4 h2 hi1).2.1 u (hi.2 u (by simp))
    have:=hc' u hmono
    simp only[AlJ,Alh,reduceCtorEq,Anv]at this
    rcases this with h|h
    ·exact h
    ·exact absurd h g1
   have key:comp P (u::v::rr) = .arc u v::comp (P++[.arc u v]) (v::rr):=by
    have e2:comp P (v::rr)=comp (P++[.arc u v]) (v::rr):=Qe fun w hwm=>by simp
    rw[← e2]
    simp only[comp,hu]
    simp
   rw[key]at hT hc
   exact ih _ _ _ _ _ (.arc u v) h2 hi1 (by simp) hhd (by simpa using hT) (fun x hx=>hc x (by simpa using hx)) hc' hn
  ·cases e
   simp only at hw hn2
   subst hw
   have hu:u=t0.st:=by simpa using hh
   subst hu
   have hvc:∀ x,Tok.ver x∈P++comp P (t0.st::rr)→x≠v:=by rintro x hx rfl;exact hn2 (hc x hx)
   have hvP:Tok.ver v∉P++comp P (t0.st::rr):=fun hm=>hvc v hm rfl
   have hvP':Tok.ver v∉P:=fun hm=>hvP (by simp[hm])
   have key:comp (P++[.arc t0.st v]) (v::t0.st::rr) = .ver v :: .arc v t0.st::comp P (t0.st::rr):=by
    have e2:comp (P++[.arc t0.st v]) (t0.st::rr)=comp P (t0.st::rr):=Qe fun w hwm=>by simp
    rw[← e2]
    simp only[comp,AlJ,hvP',Alh,reduceCtorEq,Anv,AlW]
    rfl
   have hne:t0.st≠v:=by rintro e;exact hn2 (e▸hi.2 t0.st (by simp))
   refine ih _ _ _ _ _ (.arc t0.st v) h2 hi1 (by simp) hhd ?_ ?_ hc' hn
   ·rw[key]
    obtain⟨P0,rfl⟩:∃ P0,P=P0++[t0]:=List.getLast?_eq_some_iff.1 hl
    have hT1:T (t0::(comp (P0++[t0]) (t0.st::rr)++P0)):=hT.AVQ ⟨P0,t0::comp (P0++[t0]) (t0.st::rr),by simp,by simp⟩
    have hT2:=T.add t0 _ v hT1 hne (by
     intro hm
     apply hvP
     simp only[AlJ,AlO,AnJ,Anv]at hm ⊢
     rcases hm with h|h|h<;>simp[h])
    exact hT2.AVQ ⟨t0 :: .arc t0.st v :: .ver v :: .arc v t0.st::comp (P0++[t0]) (t0.st::rr),P0,by simp,by simp⟩
   ·intro x hx
    rw[key]at hx
    simp only[AlJ,AlO,AnJ,Anv,reduceCtorEq,Tok.ver.injEq,false_or]at hx
    rcases hx with h|h|h
    ·exact Alg _ (hc x (by simp[h]))
    ·simp[h]
    ·exact Alg _ (hc x (by simp[h]))
def A0(l:List Tok):Prop:=∃ r l' c,l = .ver r::l'∧run ([r],[r]) l=some ([r],c)∧∀ x∈c,Tok.ver x∈l
theorem A0.toT{l:List Tok}(h:A0 l)(hn:l.Nodup):T l:=by
 obtain⟨r,l',c,rfl,h1,h2⟩:=h
 rw[A2,DW,Al4]at h1
 have:=Agp l' [.ver r] [r] [r] c r (.ver r) h1 (On r) (by simp) (by simp[st]) (by simp[comp];exact T.one r) (by simp[comp]) (by simpa using h2) (by simpa using hn)
 simpa using this
theorem T.AJD{r:Int}{l:List Tok}(h:T (.ver r::l)):A0 (.ver r::l):=by
 obtain⟨t,ht⟩:∃ t,(Tok.ver r::l).getLast? = some t:=⟨_,Ann (by simp)⟩
 obtain⟨c,h1,h2⟩:=h.toC _ (Rot.refl _) t ht
 have h1':=h1
 rw[A2,Al3]at h1'
 obtain⟨s,g1,_⟩:=h1'
 have e:t.st=r:=by
  simp only[step]at g1
  split at g1
  ·assumption
  ·cases g1
 rw[e]at h1
 exact⟨r,l,c,rfl,h1,fun x hx=>(h2 x).1 hx⟩
end Go.Pev.Pl.Tok
end
section
namespace Go.Pev.Pl.Tok
theorem T.AR3{l:List Tok}(h:T l):∃ v r,Rot l (.ver v::r):=by
 obtain⟨f1,f2,_⟩:=h.facts
 obtain⟨t,ht⟩:=List.exists_mem_of_ne_nil l f1
 obtain⟨a,b,rfl⟩:=An7 (f2 t ht)
 exact⟨t.st,b++a,a,.ver t.st::b,rfl,rfl⟩
theorem T.less{x:Tok}{v:Int}{l:List Tok}(h:T (x :: .arc x.st v :: .ver v :: .arc v x.st::l)):T (x::l):=by
 have hC:=h.toC
 have hn:=h.nodup
 obtain⟨_,f2,f3⟩:=h.facts
 have hne:x.st≠v:=(f3 x.st v (by simp)).2.2.2
 have hvl:Tok.ver v∉l:=by
  intro hm
  simp only[Alq,AlO,not_or]at hn
  exact hn.2.2.1.2 hm
 have hvx:x≠.ver v:=by rintro rfl;exact hne rfl
 have key:∀ p q,l=p++q→∀ t0,(q++x::p).getLast? = some t0→∃ c,run ([t0.st],[t0.st]) (q++x::p)=some ([t0.st],c)∧∀ y,y∈c↔.ver y∈x::l:=by
  intro p q hl t0 ht0
  have hrot:Rot (x :: .arc x.st v :: .ver v :: .arc v x.st::l) (q++x :: .arc x.st v :: .ver v :: .arc v x.st::p):=⟨x :: .arc x.st v :: .ver v :: .arc v x.st::p,q,by simp[hl],rfl⟩
  have ht:∃ t,(q++x::Tok.arc x.st v :: .ver v :: .arc v x.st::p).getLast? = some t∧t.st=t0.st:=by
   cases p with
   |nil=>
    rw[AnD]at ht0
    cases ht0
    exact⟨.arc v x.st,by rw[show q++[x,Tok.arc x.st v,.ver v,.arc v x.st]=(q++[x,Tok.arc x.st v,.ver v])++[Tok.arc v x.st] by simp,AnD],rfl⟩
   |cons y p=>
    refine⟨t0,?_,rfl⟩
    rw[show q++x::Tok.arc x.st v :: .ver v :: .arc v x.st::y::p=(q++[x,Tok.arc x.st v,.ver v,.arc v x.st])++y::p by simp,AnZ]
    rw[show q++x::y::p=(q++[x])++y::p by simp,AnZ]at ht0
    exact ht0
  obtain⟨t,e0,e1⟩:=ht
  obtain⟨c,h1,h2⟩:=hC _ hrot t e0
  rw[e1,show q++x::Tok.arc x.st v :: .ver v :: .arc v x.st::p=(q++[x])++Tok.arc x.st v :: .ver v :: .arc v x.st::p by simp,Dc,Al3]at h1
  obtain⟨⟨w1,c1⟩,g1,g2⟩:=h1
  obtain⟨i1,i2,i3⟩:=I4 g1 (On _)
  have i3':=i3 x (by simp)
  simp only at i3'
  cases w1 with
  |nil=>simp at i3'
  |cons w0 w'=>
   simp at i3'
   subst i3'
   rw[A2,Al3]at g2
   obtain⟨s1,k1,k2⟩:=g2
   rcases B8 k1 with⟨v',r,e,_⟩|⟨u',v',r,e,hw,rfl⟩|⟨u',v',r,e,hw,hh,hnc,rfl⟩
   ·cases e
   ·cases e
    simp only[Alj]at hw
    obtain⟨_,rfl⟩:=hw
    exfalso
    rw[A2,DW,Al4,A2,Al3]at k2
    obtain⟨s2,m1,_⟩:=k2
    have hnd:=i1.1
    rcases B8 m1 with⟨v',r',e,_⟩|⟨u',v',r',e,hw,rfl⟩|⟨u',v',r',e,hw,hh,hnc,rfl⟩
    ·cases e
    ·cases e
     simp only[Alj]at hw
     obtain⟨_,rfl⟩:=hw
     simp at hnd
    ·cases e
     exact hnc (i1.2 _ (by simp))
   ·cases e
    simp only[Alj,Am5]at hw
    subst hw
    simp only at hnc
    rw[A2,DW,Al4,A2,Gr,Al4]at k2
    have hvw:v∉x.st::w':=fun hm=>hnc (i1.2 v hm)
    obtain⟨_,d,m1,m2,m3⟩:=AAq (z:=v) (c:=c1) k2 hvw (fun y=>by simp[or_comm]) hnc
    refine⟨d,?_,fun y => ?_⟩
    ·rw[show q++x::p=(q++[x])++p by simp,Dc,g1,Al4,m1]
    ·have q1:=m2 y
     have q2:=h2 y
     by_cases e:y=v
     ·subst e
      refine⟨fun h=>absurd h m3,fun h => ?_⟩
      rcases AlO.1 h with h|h
      ·exact absurd h.symm hvx
      ·exact absurd h hvl
     ·rw[q2]at q1
      simp only[e,Anv]at q1
      rw[← q1]
      simp[e]
 obtain⟨s,b,a,hsb⟩:∃ s a b,x::l=a ++ .ver s::b:=by
  have:=f2 x (by simp)
  simp only[AlO,reduceCtorEq,false_or,Tok.ver.injEq,hne]at this
  rcases this with h|h
  ·exact⟨x.st,[],l,by rw[← h];rfl⟩
  ·obtain⟨a,b,rfl⟩:=An7 h
   exact⟨x.st,x::a,b,rfl⟩
 have hg:A0 (.ver s::a++b):=by
  have hr:∃ p q,l=p++q∧q++x::p = .ver s::a++b:=by
   cases b with
   |nil=>
    simp only[Alp,Alj]at hsb
    obtain⟨rfl,rfl⟩:=hsb
    exact⟨l,[],by simp,by simp⟩
   |cons y b=>
    simp only[All,Alj]at hsb
    obtain⟨rfl,rfl⟩:=hsb
    exact⟨b,.ver s::a,rfl,by simp⟩
  obtain⟨p,q,hl,e⟩:=hr
  obtain⟨t0,ht0⟩:∃ t0,(q++x::p).getLast? = some t0:=⟨_,Ann (by simp)⟩
  obtain⟨c,h1,h2⟩:=key p q hl t0 ht0
  rw[e]at h1
  have h1':=h1
  rw[All,A2,Al3]at h1'
  obtain⟨s',g1,_⟩:=h1'
  have e':t0.st=s:=by
   simp only[step]at g1
   split at g1
   ·assumption
   ·cases g1
  rw[e']at h1
  refine⟨s,a++b,c,rfl,h1,fun y hy => ?_⟩
  have:=(h2 y).1 hy
  rw[hsb]at this
  simp only[AlJ,AlO]at this ⊢
  rcases this with h|h|h<;>simp[h]
 have hrot2:Rot (.ver s::a++b) (x::l):=⟨.ver s::a,b,rfl,hsb⟩
 have hnx:(x::l).Nodup:=by
  simp only[Alq,AlO,not_or]at hn ⊢
  exact⟨hn.1.2.2.2,hn.2.2.2.2⟩
 exact(hg.toT (hrot2.nodup.2 hnx)).AVQ hrot2
theorem T.leaf{l:List Tok}(h:T l):(∃ v,l=[.ver v])∨∃ x v r,Rot l (x :: .arc x.st v :: .ver v :: .arc v x.st::r):=by
 induction h with
 |one v=>exact .inl ⟨v,rfl⟩
 |add x l v h hne hv ih=>exact .inr ⟨x,v,l,Rot.refl _⟩
 |rot a b h ih=>
  rcases ih with⟨v,e⟩|⟨x,v,r,hr⟩
  ·have hr:Rot [.ver v] (b++a):=⟨a,b,e.symm,rfl⟩
   exact .inl ⟨v,List.perm_singleton.1 hr.perm.symm⟩
  ·exact .inr ⟨x,v,r,Rot.trans ⟨b,a,rfl,rfl⟩ hr⟩
def MC:List Tok→List Int
 |[]=>[]
 |.ver v::l=>v::MC l
 |.arc _ _::l=>MC l
theorem Rm{v:Int}:∀ {l:List Tok},v∈MC l↔.ver v∈l
 |[]=>by simp[MC]
 |.ver w::l=>by simp[MC,Rm (l:=l)]
 |.arc _ _::l=>by simp[MC,Rm (l:=l)]
theorem ANk(a b:List Tok):MC (a++b)=MC a++MC b:=by
 induction a with
 |nil=>rfl
 |cons t a ih=>cases t<;>simp[MC,ih]
theorem T.len{l:List Tok}(h:T l):l.length+2=3*(MC l).length:=by
 induction h with
 |one v=>rfl
 |add x l v h hne hv ih=>
  cases x<;>simp[MC]at ih ⊢<;>omega
 |rot a b h ih=>
  simp only[ANk,AlN]at ih ⊢
  omega
end Go.Pev.Pl.Tok
end
section
namespace Go.Pev.Pl
section
variable {β:Type}
def BE(es:List (Int×β)):List Int:=es.map Prod.fst
theorem WC(es:List (Int×β)):(BE es).length=es.length:=by simp[BE]
theorem HT(es:List (Int×β))(k:Int)(v:β)(j:Int):AX (Ah es k v) j=if j=k then some v else AX es j:=by
 induction es with
 |nil=>
  simp only[Ah,AX]
  by_cases h:k=j
  ·simp[h]
  ·simp[h,AmD h]
 |cons e es ih=>
  obtain⟨a,b⟩:=e
  simp only[Ah]
  by_cases h:a=k
  ·subst h
   simp only[Alm,AX]
   by_cases h2:a=j
   ·simp[h2]
   ·simp[h2,AmD h2]
  ·simp only[h,AlW,AX,ih]
   by_cases h2:a=j
   ·subst h2;simp[h]
   ·simp[h2]
theorem P9(es:List (Int×β))(k:Int)(v:β):BE (Ah es k v)=if k∈BE es then BE es else BE es++[k]:=by
 induction es with
 |nil=>rfl
 |cons e es ih=>
  obtain⟨a,b⟩:=e
  simp only[Ah]
  by_cases h:a=k
  ·subst h;simp[BE]
  ·simp only[h,AlW]
   show a::BE (Ah es k v)=_
   rw[ih]
   have:k∈BE ((a,b)::es)↔k∈BE es:=by simp[BE,AmD h]
   simp only[this]
   split<;>rfl
theorem X2(es:List (Int×β))(k:Int):AX es k=none↔k∉BE es:=by
 induction es with
 |nil=>simp[AX,BE]
 |cons e es ih=>
  obtain⟨a,b⟩:=e
  simp only[AX]
  by_cases h:a=k
  ·simp[h,BE]
  ·simp only[h,AlW,ih]
   simp[BE,AmD h]
theorem FT(es:List (Int×β))(k:Int)(v:β)(j:Int):j∈BE (Ah es k v)↔j=k∨j∈BE es:=by
 rw[P9]
 split
 ·rename_i h
  constructor
  ·exact .inr
  ·rintro (rfl|h2)
   ·exact h
   ·exact h2
 ·simp[or_comm]
theorem J0{es:List (Int×β)}(h:(BE es).Nodup)(k:Int)(v:β):(BE (Ah es k v)).Nodup:=by
 rw[P9]
 split
 ·exact h
 ·rename_i hk
  rw[AnR]
  exact⟨h,by simp,fun a ha b hb=>by rintro rfl;simp at hb;exact hk (hb▸ha)⟩
end
def dd:List Int→List Int→List Int
 |ks,[]=>ks
 |ks,x::xs=>dd (if x∈ks then ks else ks++[x]) xs
theorem Akm:∀ (xs ks:List Int),(dd ks xs).length≤ks.length+xs.length∧((dd ks xs).length=ks.length+xs.length↔xs.Nodup∧∀ x∈xs,x∉ks):=by
 intro xs
 induction xs with
 |nil=>intro ks;simp[dd]
 |cons x xs ih=>
  intro ks
  rw[dd]
  by_cases h:x∈ks
  ·obtain⟨h1,_⟩:=ih ks
   rw[AlU h]
   refine⟨by simp only[AlP];omega,?_,fun hh=>absurd h (hh.2 x (by simp))⟩
   intro e
   simp only[AlP]at e
   omega
  ·obtain⟨h1,h2⟩:=ih (ks++[x])
   rw[AlQ h]
   simp only[AlN,AlP,Ala,AmS]at h1 h2 ⊢
   refine⟨by omega,?_⟩
   rw[show ks.length+(xs.length+1)=ks.length+1+xs.length by omega,h2,Alq]
   constructor
   ·rintro⟨g1,g2⟩
    refine⟨⟨fun hx=>g2 x hx (by simp),g1⟩,fun y hy => ?_⟩
    rcases AlO.1 hy with rfl|hy
    ·exact h
    ·exact fun hk=>g2 y hy (by simp[hk])
   ·rintro⟨⟨g1,g2⟩,g3⟩
    refine⟨g2,fun y hy hk => ?_⟩
    simp only[AlJ,Alh]at hk
    rcases hk with hk|rfl
    ·exact g3 y (by simp[hy]) hk
    ·exact g1 hy
theorem AhI(xs:List Int):(dd [] xs).length=xs.length↔xs.Nodup:=by
 have:=(Akm xs []).2
 simpa using this
theorem BC{α β ρ:Type}(g:β→α→α)(fin:α→ρ):∀ (xs:List β) (a:α),walk (fun x a=>.inl (g x a)) fin xs a=fin (xs.foldl (fun a x=>g x a) a):=by
 intro xs
 induction xs with
 |nil=>intro a;rfl
 |cons x xs ih=>intro a;rw[walk,AmF];exact ih _
theorem FZ{σ ρ β:Type}{step:σ→Option (σ⊕ρ)}(st:Nat→σ)(xs:List β)(P:β→Bool)(rt:Nat→ρ)(rf:ρ)(hs:xs.length<9223372036854775808)
  (h:∀ i x,i<xs.length→xs[i]? = some x→step (st i)=if P x then some (.inr (rt i))else some (.inl (st (i+1)))) (hN:step (st xs.length)=some (.inr rf)) :
  AS step many (st 0)=some (if xs.any P then rt (xs.findIdx P)else rf):=by
 have key:∀ (l:List β) (a:Nat),walk (fun x (a:Nat)=>if P x then .inr (rt a)else .inl (a+1)) (fun _=>rf) l a=if l.any P then rt (a+l.findIdx P)else rf:=by
  intro l
  induction l with
  |nil=>intro a;rfl
  |cons x l ih=>
   intro a
   rw[walk,List.any_cons,Ano]
   by_cases hx:P x=true
   ·simp[hx]
   ·simp only[hx,AlV,AlW,Bool.false_or,cond_false]
    rw[ih,show a+1+List.findIdx P l=a+(List.findIdx P l+1) by omega]
 have:=CX (step:=step) (fun i (a:Nat)=>st a) xs (fun x (a:Nat)=>if P x then .inr (rt a)else .inl (a+1)) (fun _=>rf) (fun i a=>a=i) hs
  (fun i x a hi hx ha=>by
   subst ha
   refine⟨fun a' h' => ?_,fun r h' => ?_⟩
   ·rw[h a x hi hx]
    split at h'
    ·cases h'
    ·rename_i hp
     cases h'
     simp[hp]
   ·rw[h a x hi hx]
    split at h'
    ·rename_i hp
     cases h'
     simp[hp]
    ·cases h')
  (fun a ha=>by subst ha;exact hN) 0 rfl
 rw[this,key,AmS]
theorem Af{α:Type}{xs:List α}{n:Nat}{x:α}(h:xs[n]? = some x):idx xs (n:Int)=some x:=by rw[ALo,h]
theorem CU{α:Type}{xs:List α}{n:Nat}{x z:α}(h:xs[n]? = some x):AP xs (AF (n:Int)) z=x:=by
 rw[EF,AlH,h];rfl
theorem Jb{α:Type}{xs:List α}{h:Nat}(h2:h≤xs.length):Bv xs (0:Int) (h:Int)=some (xs.take h):=by
 have:=Tj (xs:=xs) (l:=0) (Anl h) h2
 simpa using this
theorem DV{α:Type}{xs:List α}{l:Nat}(h1:l≤xs.length):Bv xs (l:Int) (AO xs)=some (xs.drop l):=by
 have:=Tj (xs:=xs) h1 (AlS _)
 rw[AmU]at this
 exact this
def pos(xs:List Int)(t:Int):Int:=if t∈xs then((xs.findIdx (fun x=>decide (x=t)):Nat):Int)else -1
theorem AM8(xs:List Int)(t:Int):(xs.any fun x=>decide (x=t))=decide (t∈xs):=by
 induction xs with
 |nil=>rfl
 |cons x xs ih=>simp only[List.any_cons,ih,AlO,Bool.decide_or];congr 1;exact Amd.2 eq_comm
theorem AKD{xs:List Int}{t:Int}(h:t∈xs):∃ k:Nat,pos xs t=(k:Int)∧k<xs.length∧xs[k]? = some t∧xs=xs.take k++t::xs.drop (k+1)∧t∉xs.take k:=by
 have hk:xs.findIdx (fun x=>decide (x=t))<xs.length:=Ami.2 ⟨t,h,by simp⟩
 have hg:xs[xs.findIdx (fun x=>decide (x=t))]'hk=t:=by
  have:=Anw (xs:=xs) (p:=fun x=>decide (x=t)) (w:=hk)
  simpa using this
 refine⟨_,by rw[pos,AlU h],hk,by rw[AlK hk,hg],?_,?_⟩
 ·conv=>lhs;rw[← Al9 (xs.findIdx (fun x=>decide (x=t))) xs,Al2 hk,hg]
 ·intro hm
  obtain⟨j,hj,e⟩:=Am7.1 hm
  have:=List.not_of_lt_findIdx (p:=fun x=>decide (x=t)) (xs:=xs) (i:=j) (by omega)
  simp[e]at this
theorem RQ{xs:List Int}{t:Int}(h:t∉xs):pos xs t = -1:=by rw[pos,AlQ h]
end Go.Pev.Pl
end
