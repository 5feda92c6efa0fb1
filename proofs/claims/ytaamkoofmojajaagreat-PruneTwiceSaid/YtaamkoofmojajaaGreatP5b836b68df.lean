/- A part of the proofs of this seat: G24M1 G24M2 G24M3 G24M4 G24M5 G24M6 G24M Pln PlnB T18a T18b T18c PlnM. -/
import Derived.Test.YtaamkoofmojajaaGreatP552101b9d7
import Derived.IntWalk
import Derived.Sort.AssemblyPlain
set_option linter.unusedVariables false
set_option linter.unusedSimpArgs false
set_option linter.unusedSectionVars false
set_option maxRecDepth 100000
section
namespace Go.Pev
noncomputable section
attribute [local irreducible] MU JM N0 LJ AWb AWc AWd P2 Wi We YU JO AP many IntKind.wrap AM An AL A5 Bl Df Jt AE BV Bx imax AS Ag
abbrev U0:Ty:=(.int .i64)
abbrev U1:=(Int×Int×Int×Bool×Unit)
abbrev U2:Ty:=(.prod U0 (.prod U0 (.prod U0 (.prod .bool .unit))))
abbrev U3:=(Int×Int×Unit)
abbrev U4:=(List Int)
abbrev U5:Ty:=(.prod U0 (.prod U0 .unit))
abbrev U6:Ty:=(.slice U0)
abbrev U7:=(List Int×Int×Int×Int×Unit)
abbrev U8:=(List U4×Int×Int×Int×Unit)
abbrev U9:=(Int×Unit)
abbrev Ua:=(Bool×Bool×U3×Int×Unit)
abbrev Ub:=(List Int×Unit)
abbrev Uc:Ty:=(.prod U0 (.prod (.slice U2) .unit))
abbrev Ud:=(Int×(List U1)×Unit)
abbrev Ue:=(List Int×Int×Int×Unit)
abbrev Uf:=(List U4×Int×Int×Unit)
abbrev Ug:=(Bool×Unit)
abbrev Uh:=(Int×Bool×Bool×Int×Int×Int×Int×Int×Int×Bool×Int×List U1×Bool×Bool×Int×Int×Int×Int×Int×List Int×Int×Bool×Unit)
abbrev Ui:=(List U4×Int×Int×Int×Int×Unit)
abbrev Uj:=(Int×(List U4)×Unit)
abbrev Uk:Ty:=(.slice U6)
abbrev Ul:=(List Int×Int×Int×Int×Int×Unit)
abbrev Um:=(Int×Bool×Bool×Int×Int×Int×Int×Int×Int×Bool×Int×List U1×Bool×Bool×Int×Int×Int×Int×Int×Unit)
abbrev Un:=(List U4×Unit)
abbrev Uo:Ty:=(.prod .bool (.prod .bool (.prod U5 (.prod U0 .unit))))
abbrev Up:=(Int×List U1×Bool×Bool×Int×Int×Int×Int×Int×List (Int×Int)×List Int×Int×Int×Unit)
abbrev Uq:Ty:=(.slice U2)
abbrev Ur:=(List Int×Int×Unit)
abbrev Us:Ty:=(.prod U0 (.prod Uk .unit))
abbrev Ut:=(List Int×Int×Int×Int×Int×Int×Unit)
abbrev Uu:=(Int×Int)
abbrev Uv:=(List U4×Int×Int×Int×Int×Int×Unit)
abbrev Uw:=(Int×List U4×List Bool×Int×Int×Int×List Int×Int×List Int×Int×Bool×Int×List Int×Bool×Bool×List Int×List Int×List U4×List Int×List U4×Bool×Bool×List Int×Int×Int×Bool×Unit)
abbrev Ux:=(Int×List U4×List Uu×Int×List U4×Int×Int×List Int×Int×Int×Bool×List Int×Bool×Bool×List Int×Int×List Int×Int×Bool×Int×List Int×Bool×Bool×List Int×Int×Int×Unit)
abbrev Uy:Ty:=(.slice U5)
abbrev Uz:=(Int×List Int×Int×List Int×Int×Bool×Bool×Bool×Bool×Int×Int×Bool×Int×Int×Int×Int×Int×Bool×Int×Int×Int×Int×Int×Int×Int×Int×Int×Bool×Unit)
abbrev V0:=(List Int×Int×Int×Int×Bool×Bool×Unit)
abbrev V1:=(Int×List U4×Int×Unit)
abbrev V2:=(List U3×Unit)
abbrev V3:=(Int×List U1×List U3×Int×Unit)
abbrev V4:=(List U3×List (U3×Int)×Int×Int×Unit)
abbrev V5:=(Ud×Int×Int×Unit)
abbrev V6:=(List Int×Int×List U4×Int×Int×Unit)
abbrev V7:=(List Int×Int×List U4×Unit)
abbrev V8:=(Int×List U1×Bool×Bool×Int×Int×Int×Int×Unit)
abbrev V9:=(Int×List U1×List Ua×Int×List U1×List Ua×Int×List U3×Int×List U3×List U3×List U3×Int×Unit)
abbrev Va:=(List U3×List (U3×Int)×Int×Unit)
abbrev Vb:=(List Int×Int×List U4×Int×Unit)
abbrev Vc:=(Uj×Int×Unit)
abbrev Vd:=(List U4×Int×Unit)
abbrev Ve:=(Int×List U1×Int×Int×Unit)
abbrev Vf:=(Ud×List U3×Unit)
abbrev Vg:=(Int×List U1×Bool×Bool×Int×Int×Int×Int×List Uu×List Int×Int×Int×Unit)
abbrev Vh:=(List Int×Bool×Unit)
abbrev Vi:=(Int×List Int×Unit)
abbrev Vj:=(U8⊕U8⊕Unit)
abbrev Vk:=(U7⊕U7⊕Unit)
abbrev Vl:=(List Int×List U4×Int×List U4×Int×List U4×List U4×Int×Int×Unit)
abbrev Vm:=(Int×List U3×List Int×Bool×Unit)
abbrev Vn:=(Int×List U1×Int×List Ua×Int×List U1×List U3×Int×Int×Unit)
abbrev AAf:AF:=[(.tmp 0,.dat U6),(.tmp 1,.dat U6)]
abbrev AAe:AF:=[(.tmp 0,.dat .bool)]
abbrev AAd:List RS:=[.one]
abbrev AEX:AF:=[(.tmp 0,.dat U6),(.tmp 1,.dat U6),(.tmp 5,.di)]
abbrev AEW:A0:=[(.ret,[(.tmp 4,.dat .bool)]),(.exit 0,[])]
def Ey[Lk]:(List Int×List Int×Int×Unit)→Option ((List Int×List Int×Int×Unit)⊕Ug⊕(Unit)⊕Unit):=fun(a0,a1,a2,_)=>
 match(ilt a2 (AM a0))with
 |true=>match idx a0 a2 with|none=>none|some x0=>match idx a1 a2 with|none=>none|some x1=>match(!(ieq x0 x1))with
  |true=>some (.inr (.inl (false,())))
  |false=>some (.inl (a0,a1,(IntKind.wrap .i64 (a2+1)),()))
 |false=>some (.inr (.inr (.inl ())))
def QY[Lk]:(List Int×List Int×Unit)→Option (Ug):=fun(a0,a1,_)=>
 match(!(ieq (AM a0) (AM a1)))with
 |true=>some (false,())
 |false=>match AR Ey many (a0,a1,0,())with|none=>none|some r=>match r with
 |.inl (o0,_)=>some (o0,())
 |.inr r=>match r with
 |.inl _=>some (true,())
 |.inr _=>none
def TH[Lk]:=fun v=>Lk.f (QY v)
theorem AEY v:TH v=QY v:=AJ _
abbrev X1:AF:=[(.tmp 0,.di)]
abbrev X0:AF:=[(.tmp 0,.dat .bool)]
abbrev Xz:List RS:=[.one]
def Po[Lk]:U9→Option (Ug):=fun(a0,_)=>
 match(ile 1 a0)with
 |true=>some ((ile a0 64),())
 |false=>some (false,())
def Lc[Lk]:=fun v=>Lk.f (Po v)
theorem ADc v:Lc v=Po v:=AJ _
abbrev AYI:AF:=[(.tmp 0,.di),(.tmp 1,.di)]
abbrev AYH:AF:=[(.tmp 0,.dat .bool)]
abbrev AYG:List RS:=[.one]
def AS1[Lk]:U3→Option (Ug):=fun(a0,a1,_)=>
 match Lc (a0,())with|none=>none|some (y0,_)=>match y0 with
 |true=>match(ile 0 a1)with
  |true=>some ((ilt a1 a0),())
  |false=>some (false,())
 |false=>some (false,())
def tin[Lk]:=fun v=>Lk.f (AS1 v)
theorem AYJ v:tin v=AS1 v:=AJ _
abbrev AOW:AF:=[(.tmp 0,.di),(.tmp 1,.di),(.tmp 2,.di)]
abbrev AOV:AF:=[(.tmp 0,.di)]
abbrev AOU:List RS:=[.one]
def AFk[Lk]:(Int×Int×Int×Unit)→Option (U9):=fun(a0,a1,a2,_)=>
 match(ieq a1 a2)with
 |true=>some ((-1:Int),())
 |false=>match tin (a0,a1,())with|none=>none|some (y0,_)=>match(!y0)with
 |true=>some ((-1:Int),())
 |false=>match tin (a0,a2,())with|none=>none|some (y1,_)=>match(!y1)with
 |true=>some ((-1:Int),())
 |false=>some ((IntKind.wrap .i64 ((IntKind.wrap .i64 (a0*(IntKind.wrap .i64 (a1+1))))+a2)),())
def AUl[Lk]:=fun v=>Lk.f (AFk v)
theorem AS2 v:AUl v=AFk v:=AJ _
abbrev Xx:AF:=[(.tmp 0,.di),(.tmp 1,.di)]
abbrev Xw:AF:=[(.tmp 0,.di),(.tmp 1,.di),(.tmp 2,.dat .bool),(.tmp 3,.dat .bool)]
abbrev Xv:List RS:=[.one,.one,.one,.one]
def Pn[Lk]:U3→Option ((Int×Int×Bool×Bool×Unit)):=fun(a0,a1,_)=>
 match Lc (a0,())with|none=>none|some (y0,_)=>match(!y0)with
 |true=>some (0,0,false,false,())
 |false=>match(ilt a1 0)with
 |true=>some (0,0,false,false,())
 |false=>match(ile (IntKind.wrap .i64 (a0*(IntKind.wrap .i64 (a0+1)))) a1)with
 |true=>some (0,0,false,false,())
 |false=>match(ilt a1 a0)with
 |true=>some (a1,0,false,true,())
 |false=>match quo? .i64 a1 a0 with|none=>none|some x1=>match rem? a1 a0 with|none=>none|some x2=>match(ieq (IntKind.wrap .i64 (x1-1)) x2)with
 |true=>some (0,0,false,false,())
 |false=>some ((IntKind.wrap .i64 (x1-1)),x2,true,true,())
def Xy[Lk]:=fun v=>Lk.f (Pn v)
theorem ADb v:Xy v=Pn v:=AJ _
abbrev AFe:AF:=[(.tmp 0,.di)]
abbrev AFd:AF:=[(.tmp 0,.di),(.tmp 1,.own 55 U6),(.tmp 2,.di)]
abbrev AFc:List RS:=[.agg 2,.one]
abbrev AJv:AF:=[(.tmp 2,.box 2),(.cell 0 0,.di),(.cell 0 1,.nil U6),(.tmp 4,.box 2),(.cell 1 0,.di),(.cell 1 1,.own 55 U6),(.tmp 12,.di),(.tmp 13,.di)]
abbrev AJu:A0:=[(.exit 0,[(.tmp 2,.box 2),(.cell 0 0,.di),(.cell 0 1,.nil U6),(.tmp 4,.box 2),(.cell 1 0,.di),(.cell 1 1,.own 55 U6)])]
def Hj[Lk]:(Int×Int×List U4×Int×Int×Unit)→Option ((Int×Int×List U4×Int×Int×Unit)⊕(Int×Int×List U4×Unit)⊕Unit):=fun(a0,a1,a2,a3,a4,_)=>
 match(ilt a4 a3)with
 |true=>match(fits ((AM a2)+(AM ([([a4]:List (Int))]:List U4))))with
  |true=>some (.inl (a0,a1,(A5 a2 ([([a4]:List (Int))]:List U4)),a3,(IntKind.wrap .i64 (a4+1)),()))
  |false=>none
 |false=>some (.inr (.inl (a0,a1,a2,())))
def XE[Lk]:U9→Option (V1):=fun(a0,_)=>
 match Lc (a0,())with|none=>none|some (y0,_)=>match(!y0)with
 |true=>some (0,([]:List U4),1,())
 |false=>match AR Hj many (0,a0,([]:List U4),a0,0,())with|none=>none|some r=>match r with
 |.inl (o1,o2,o3,_)=>some (o2,o3,0,())
 |.inr _=>none
def AJx[Lk]:=fun v=>Lk.f (XE v)
theorem AJw v:AJx v=XE v:=AJ _
abbrev AAm:AF:=[(.tmp 0,.dat U6),(.tmp 1,.di)]
abbrev AAl:AF:=[(.tmp 0,.di)]
abbrev AAk:List RS:=[.one]
abbrev AEa:AF:=[(.tmp 0,.dat U6),(.tmp 1,.di),(.tmp 7,.di),(.tmp 8,.di)]
abbrev AEZ:A0:=[(.ret,[(.tmp 4,.di)]),(.exit 0,[])]
def Fz[Lk]:U7→Option (U7⊕U9⊕(Unit)⊕Unit):=fun(a0,a1,a2,a3,_)=>
 match(ilt a3 a2)with
 |true=>match idx a0 a3 with|none=>none|some x0=>match(ieq a1 x0)with
  |true=>some (.inr (.inl (a3,())))
  |false=>some (.inl (a0,a1,a2,(IntKind.wrap .i64 (a3+1)),()))
 |false=>some (.inr (.inr (.inl ())))
def Qc[Lk]:Ur→Option (U9):=fun(a0,a1,_)=>
 match AR Fz many (a0,a1,(AM a0),0,())with|none=>none|some r=>match r with
 |.inl (o0,_)=>some (o0,())
 |.inr r=>match r with
 |.inl _=>some ((-1:Int),())
 |.inr _=>none
def O5[Lk]:=fun v=>Lk.f (Qc v)
theorem AEb v:O5 v=Qc v:=AJ _
abbrev Mc:AF:=[(.tmp 0,.dat U6),(.tmp 1,.di)]
abbrev Mb:AF:=[(.tmp 0,.dat .bool)]
abbrev Ma:List RS:=[.one]
def I4[Lk]:Ur→Option (Ug):=fun(a0,a1,_)=>
 match O5 (a0,a1,())with|none=>none|some (y0,_)=>some ((ile 0 y0),())
def Ez[Lk]:=fun v=>Lk.f (I4 v)
theorem Q2 v:Ez v=I4 v:=AJ _
abbrev AQk:AF:=[(.tmp 0,.dat U6)]
abbrev AQj:AF:=[(.tmp 0,.di)]
abbrev AQi:List RS:=[.one]
abbrev ATc:AF:=[(.tmp 0,.dat U6),(.tmp 3,.di),(.tmp 4,.di)]
abbrev ATb:A0:=[(.exit 0,[(.tmp 3,.di)])]
def KV[Lk]:Ue→Option (Ue⊕U9⊕Unit):=fun(a0,a1,a2,_)=>
 match(ilt a2 (AM a0))with
 |true=>match idx a0 a2 with|none=>none|some x0=>some (.inl (a0,(Bx a1 x0),(IntKind.wrap .i64 (a2+1)),()))
 |false=>some (.inr (.inl (a1,())))
def AHG[Lk]:Ub→Option (U9):=fun(a0,_)=>
 match(ilt (AM a0) 1)with
 |true=>none
 |false=>match idx a0 0 with|none=>none|some x0=>match AR KV many (a0,x0,1,())with|none=>none|some r=>match r with
 |.inl (o1,_)=>some (o1,())
 |.inr _=>none
def AVx[Lk]:=fun v=>Lk.f (AHG v)
theorem ATd v:AVx v=AHG v:=AJ _
abbrev AIB:AF:=[(.tmp 0,.nil U0),(.tmp 1,.di)]
abbrev AIA:AF:=[(.tmp 0,.own 3 U0)]
abbrev AH9:List RS:=[.one]
def Xf[Lk]:U9→Option (Ub):=fun(a0,_)=>
 match(ilt a0 0)with
 |true=>none
 |false=>match(ilt 0 (IntKind.wrap .i64 (a0-(IntKind.wrap .i64 (0-0)))))with
 |true=>match B4 ([]:List Unit) 0 0 with|none=>none|some _u0=>match(LQ (IntKind.wrap .i64 (a0-(IntKind.wrap .i64 (0-0)))))with
  |true=>match B4 (Jt (AE (IntKind.wrap .i64 (a0-(IntKind.wrap .i64 ((0:Int)-(0:Int)))))) (0:Int)) (0:Int) (0:Int)with|none=>none|some x1=>some ((Bl (AE (AM x1)) (Jt (AE (IntKind.wrap .i64 (a0-(IntKind.wrap .i64 ((0:Int)-(0:Int)))))) (0:Int))),())
  |false=>none
 |false=>some (([]:List (Int)),())
def AM3[Lk]:=fun v=>Lk.f (Xf v)
theorem AM2 v:AM3 v=Xf v:=AJ _
abbrev Tm:AF:=[(.tmp 0,.dat Uk)]
abbrev Tl:AF:=[(.tmp 0,.own 3 U0)]
abbrev Tk:List RS:=[.one]
abbrev ABS:AF:=[(.tmp 6,.own 3 U0),(.tmp 25,.dat Uk),(.tmp 26,.di),(.tmp 27,.di)]
abbrev ABQ:A0:=[(.exit 2,[(.tmp 6,.own 3 U0)])]
def Eh[Lk]:(List Int×List U4×Int×Int×Unit)→Option ((List Int×List U4×Int×Int×Unit)⊕Ub⊕Unit):=fun(a0,a1,a2,a3,_)=>
 match(ilt a3 a2)with
 |true=>match idx a1 a3 with|none=>none|some x0=>match(fits ((AM a0)+(AM x0)))with
  |true=>some (.inl ((A5 a0 x0),a1,a2,(IntKind.wrap .i64 (a3+1)),()))
  |false=>none
 |false=>some (.inr (.inl (a0,())))
abbrev ABT:AF:=[(.tmp 0,.dat Uk),(.tmp 3,.di),(.tmp 9,.dat Uk),(.tmp 10,.di),(.tmp 11,.di)]
abbrev ABR:A0:=[(.exit 0,[(.tmp 0,.dat Uk),(.tmp 3,.di)])]
def Ei[Lk]:(List U4×Int×List U4×Int×Int×Unit)→Option ((List U4×Int×List U4×Int×Int×Unit)⊕Vd⊕Unit):=fun(a0,a1,a2,a3,a4,_)=>
 match(ilt a4 a3)with
 |true=>match idx a2 a4 with|none=>none|some x0=>match(ilt (IntKind.wrap .i64 (a1+(AM x0))) 0)with
  |true=>none
  |false=>some (.inl (a0,(IntKind.wrap .i64 (a1+(AM x0))),a2,a3,(IntKind.wrap .i64 (a4+1)),()))
 |false=>some (.inr (.inl (a0,a1,())))
def Nj[Lk]:Un→Option (Ub):=fun(a0,_)=>
 match AR Ei many (a0,0,a0,(AM a0),0,())with|none=>none|some r=>match r with
 |.inl (o0,o1,_)=>match AM3 (o1,())with|none=>none|some (y2,_)=>match AR Eh many (y2,o0,(AM o0),0,())with|none=>none|some r=>match r with
  |.inl (o3,_)=>some (o3,())
  |.inr _=>none
 |.inr _=>none
def I5[Lk]:=fun v=>Lk.f (Nj v)
theorem ABU v:I5 v=Nj v:=AJ _
abbrev H9:AF:=[(.tmp 0,.dat U6),(.tmp 1,.clo 195 [])]
abbrev H8:AF:=[(.tmp 0,.di)]
abbrev H7:List RS:=[.one]
abbrev LL:AF:=[(.tmp 0,.dat U6),(.tmp 1,.clo 195 []),(.tmp 7,.di),(.tmp 8,.di)]
abbrev LK:A0:=[(.ret,[(.tmp 4,.di)]),(.exit 0,[])]
def B7[Lk]:Ue→Option (Ue⊕U9⊕(Unit)⊕Unit):=fun(a0,a1,a2,_)=>
 match(ilt a2 a1)with
 |true=>match idx a0 a2 with|none=>none|some x0=>match(ilt x0 0)with
  |true=>some (.inr (.inl (a2,())))
  |false=>match(ilt 10000 x0)with
  |true=>some (.inr (.inl (a2,())))
  |false=>some (.inl (a0,a1,(IntKind.wrap .i64 (a2+1)),()))
 |false=>some (.inr (.inr (.inl ())))
def FJ[Lk]:Ub→Option (U9):=fun(a0,_)=>
 match AR B7 many (a0,(AM a0),0,())with|none=>none|some r=>match r with
 |.inl (o0,_)=>some (o0,())
 |.inr r=>match r with
 |.inl _=>some ((-1:Int),())
 |.inr _=>none
def HD[Lk]:=fun v=>Lk.f (FJ v)
theorem LM v:HD v=FJ v:=AJ _
abbrev G1:AF:=[(.tmp 0,.dat U6),(.tmp 1,.clo 195 [])]
abbrev G0:AF:=[(.tmp 0,.dat .bool)]
abbrev Gz:List RS:=[.one]
def EP[Lk]:Ub→Option (Ug):=fun(a0,_)=>
 match HD (a0,())with|none=>none|some (y0,_)=>some ((ile 0 y0),())
def EF[Lk]:=fun v=>Lk.f (EP v)
theorem Jv v:EF v=EP v:=AJ _
abbrev AQU:AF:=[(.tmp 0,.dat U6)]
abbrev AQT:AF:=[(.tmp 0,.dat .bool)]
abbrev AQS:List RS:=[.one]
abbrev ATU:AF:=[(.tmp 0,.dat U6),(.tmp 3,.map U0 U0),(.tmp 7,.dat U6),(.tmp 8,.di),(.tmp 9,.di)]
abbrev ATT:A0:=[(.exit 0,[(.tmp 0,.dat U6),(.tmp 3,.map U0 U0)])]
def KQ[Lk]:(List Int×List Uu×List Int×Int×Int×Unit)→Option ((List Int×List Uu×List Int×Int×Int×Unit)⊕(List Int×List Uu×Unit)⊕Unit):=fun(a0,a1,a2,a3,a4,_)=>
 match(ilt a4 a3)with
 |true=>match idx a2 a4 with|none=>none|some x0=>some (.inl (a0,(Ag a1 x0 (IntKind.wrap .i64 (((AS a1 x0).getD 0)+1))),a2,a3,(IntKind.wrap .i64 (a4+1)),()))
 |false=>some (.inr (.inl (a0,a1,())))
def AHA[Lk]:Ub→Option (Ug):=fun(a0,_)=>
 match AR KQ many (a0,([]:List Uu),a0,(AM a0),0,())with|none=>none|some r=>match r with
 |.inl (o0,o1,_)=>some ((ieq (AM o1) (AM o0)),())
 |.inr _=>none
def once[Lk]:=fun v=>Lk.f (AHA v)
theorem ATV v:once v=AHA v:=AJ _
abbrev Yj:AF:=[(.tmp 0,.dat U6)]
abbrev Yi:AF:=[(.tmp 0,.dat .bool)]
abbrev Yh:List RS:=[.one]
def Pv[Lk]:Ub→Option (Ug):=fun(a0,_)=>
 match(ilt 1000 (AM a0))with
 |true=>some (false,())
 |false=>match EF (a0,())with|none=>none|some (y0,_)=>match(!y0)with
 |true=>match once (a0,())with|none=>none|some (y1,_)=>some (y1,())
 |false=>some (false,())
def Oc[Lk]:=fun v=>Lk.f (Pv v)
theorem AD0 v:Oc v=Pv v:=AJ _
abbrev Xu:AF:=[(.tmp 0,.dat U6),(.tmp 1,.di)]
abbrev Xt:AF:=[(.tmp 0,.own 3 U0)]
abbrev Xs:List RS:=[.one]
def Pm[Lk]:Ur→Option (Ub):=fun(a0,a1,_)=>
 match B4 a0 a1 (AM a0)with|none=>none|some x0=>match B4 a0 0 a1 with|none=>none|some x1=>match I5 (([x0,x1]:List U4),())with|none=>none|some (y2,_)=>some (y2,())
def Rw[Lk]:=fun v=>Lk.f (Pm v)
theorem ADa v:Rw v=Pm v:=AJ _
abbrev ZH:AF:=[(.tmp 0,.dat U6),(.tmp 1,.dat U6)]
abbrev ZG:AF:=[(.tmp 0,.own 3 U0),(.tmp 1,.dat .bool)]
abbrev ZF:List RS:=[.one,.one]
abbrev AEA:AF:=[(.tmp 0,.dat U6),(.tmp 6,.own 3 U0),(.tmp 12,.dat U6),(.tmp 13,.di),(.tmp 14,.di)]
abbrev AD9:A0:=[(.exit 0,[(.tmp 6,.own 3 U0)])]
def Et[Lk]:(List Int×List Int×List Int×Int×Int×Unit)→Option ((List Int×List Int×List Int×Int×Int×Unit)⊕Ub⊕Unit):=fun(a0,a1,a2,a3,a4,_)=>
 match(ilt a4 a3)with
 |true=>match idx a2 a4 with|none=>none|some x0=>match O5 (a0,x0,())with|none=>none|some (y1,_)=>match(fits ((AM a1)+(AM ([y1]:List (Int)))))with
  |true=>some (.inl (a0,(A5 a1 ([y1]:List (Int))),a2,a3,(IntKind.wrap .i64 (a4+1)),()))
  |false=>none
 |false=>some (.inr (.inl (a1,())))
def P9[Lk]:(List Int×List Int×Unit)→Option (Vh):=fun(a0,a1,_)=>
 match Oc (a0,())with|none=>none|some (y0,_)=>match(!y0)with
 |true=>some (([]:List (Int)),false,())
 |false=>match AR Et many (a0,([]:List (Int)),a1,(AM a1),0,())with|none=>none|some r=>match r with
 |.inl (o1,_)=>match Ez (o1,(-1:Int),())with|none=>none|some (y2,_)=>some (o1,(!y2),())
 |.inr _=>none
def AGV[Lk]:=fun v=>Lk.f (P9 v)
theorem AEB v:AGV v=P9 v:=AJ _
abbrev AGD:AF:=[(.tmp 0,.dat U6),(.tmp 1,.di)]
abbrev AGC:AF:=[(.tmp 0,.own 3 U0),(.tmp 1,.dat .bool)]
abbrev AGB:List RS:=[.one,.one]
def XM[Lk]:Ur→Option (Vh):=fun(a0,a1,_)=>
 match AGV (a0,([a1]:List (Int)),())with|none=>none|some (y0,y1,_)=>match(!y1)with
 |true=>some (([]:List (Int)),false,())
 |false=>match idx y0 0 with|none=>none|some x2=>match Rw (a0,(AL y0 0 0),())with|none=>none|some (y3,_)=>some (y3,true,())
def AD3[Lk]:=fun v=>Lk.f (XM v)
theorem AKb v:AD3 v=XM v:=AJ _
abbrev Ym:AF:=[(.tmp 0,.dat U6)]
abbrev Yl:AF:=[(.tmp 0,.own 3 U0)]
abbrev Yk:List RS:=[.one]
def Pw[Lk]:Ub→Option (Ub):=fun(a0,_)=>
 match Oc (a0,())with|none=>none|some (y0,_)=>match(!y0)with
 |true=>some (([]:List (Int)),())
 |false=>match(ieq (AM a0) 0)with
 |true=>some (([]:List (Int)),())
 |false=>match AVx (a0,())with|none=>none|some (y1,_)=>match O5 (a0,y1,())with|none=>none|some (y2,_)=>match Rw (a0,y2,())with|none=>none|some (y3,_)=>some (y3,())
def Yn[Lk]:=fun v=>Lk.f (Pw v)
theorem AD1 v:Yn v=Pw v:=AJ _
abbrev F6:AF:=[(.tmp 0,.dat Uk),(.cap 1 0,.box 1),(.cell 0 0,.di),(.tmp 1,.clo 180 [(0,0)])]
abbrev F5:AF:=[(.obj 0,.box 1),(.cell 0 0,.di),(.tmp 0,.di)]
abbrev F4:List RS:=[.one]
abbrev It:AF:=[(.obj 0,.box 1),(.cell 0 0,.di),(.tmp 0,.dat Uk),(.tmp 1,.clo 180 [(0,0)]),(.tmp 7,.di),(.tmp 8,.di)]
abbrev Is:A0:=[(.ret,[(.obj 0,.box 1),(.cell 0 0,.di),(.tmp 4,.di)]),(.exit 0,[(.obj 0,.box 1),(.cell 0 0,.di)])]
def Bg[Lk]:(Int×List U4×Int×Int×Unit)→Option ((Int×List U4×Int×Int×Unit)⊕U3⊕U9⊕Unit):=fun(a0,a1,a2,a3,_)=>
 match(ilt a3 a2)with
 |true=>match idx a1 a3 with|none=>none|some x0=>match Ez (x0,a0,())with|none=>none|some (y1,_)=>match y1 with
  |true=>some (.inr (.inl (a0,a3,())))
  |false=>some (.inl (a0,a1,a2,(IntKind.wrap .i64 (a3+1)),()))
 |false=>some (.inr (.inr (.inl (a0,()))))
def Dw[Lk]:Vd→Option (U3):=fun(a0,a1,_)=>
 match AR Bg many (a1,a0,(AM a0),0,())with|none=>none|some r=>match r with
 |.inl (o0,o1,_)=>some (o0,o1,())
 |.inr r=>match r with
 |.inl (o2,_)=>some (o2,(-1:Int),())
 |.inr _=>none
def FH[Lk]:=fun v=>Lk.f (Dw v)
theorem Iu v:FH v=Dw v:=AJ _
abbrev YE:AF:=[(.tmp 0,.dat Us),(.tmp 1,.di)]
abbrev YD:AF:=[(.tmp 0,.di)]
abbrev YC:List RS:=[.one]
def Pr[Lk]:Vc→Option (U9):=fun(a0,a1,_)=>
 match FH (a0.2.1,a1,())with|none=>none|some (y0,y1,_)=>some (y1,())
def OT[Lk]:=fun v=>Lk.f (Pr v)
theorem ADk v:OT v=Pr v:=AJ _
abbrev ARj:AF:=[(.tmp 0,.di),(.tmp 1,.dat U6)]
abbrev ARi:AF:=[(.tmp 0,.dat .bool)]
abbrev ARh:List RS:=[.one]
abbrev ATx:AF:=[(.tmp 0,.di),(.tmp 5,.box 3),(.cell 0 0,.own 3 U0),(.cell 0 1,.map U0 U0),(.cell 0 2,.map U0 U0),(.tmp 30,.dat U6),(.tmp 31,.di),(.tmp 32,.di)]
abbrev ATw:A0:=[(.ret,[(.tmp 4,.dat .bool)]),(.exit 0,[(.tmp 5,.box 3),(.cell 0 0,.own 3 U0),(.cell 0 1,.map U0 U0),(.cell 0 2,.map U0 U0)])]
def Iy[Lk]:(Int×List Int×List Uu×List Uu×List Int×Int×Int×Unit)→Option ((Int×List Int×List Uu×List Uu×List Int×Int×Int×Unit)⊕Ug⊕(List Int×List Uu×List Uu×Unit)⊕Unit):=fun(a0,a1,a2,a3,a4,a5,a6,_)=>
 match(ilt a6 a5)with
 |true=>match idx a4 a6 with|none=>none|some x0=>match Xy (a0,x0,())with|none=>none|some (y1,y2,y3,y4,_)=>match(!y4)with
  |true=>some (.inr (.inl (false,())))
  |false=>match y3 with
  |true=>match idx a1 (IntKind.wrap .i64 ((AM a1)-1))with|none=>none|some x5=>match(!(ieq (AL a1 (AE (IntKind.wrap .i64 ((AM a1)-1))) 0) y1))with
   |true=>some (.inr (.inl (false,())))
   |false=>match(ilt 0 (IntKind.wrap .i64 ((AM a1)-1)))with
   |true=>match idx a1 (IntKind.wrap .i64 ((IntKind.wrap .i64 ((AM a1)-1))-1))with|none=>none|some x6=>match(ieq (AL a1 (AE (IntKind.wrap .i64 ((IntKind.wrap .i64 ((AM a1)-1))-1))) 0) y2)with
    |true=>match B4 a1 0 (IntKind.wrap .i64 ((AM a1)-1))with|none=>none|some x7=>match(!y3)with
     |true=>match idx (Df 0 (AE (AM x7)) a1) (IntKind.wrap .i64 ((((AE (AM x7)):Nat):Int)-1))with|none=>none|some x8=>match(!(ieq (AL a1 (0+(AE (IntKind.wrap .i64 ((((AE (AM x7)):Nat):Int)-1)))) 0) y1))with
      |true=>some (.inr (.inl (false,())))
      |false=>match(!y3)with
      |true=>some (.inl (a0,(Bl (AE (AM x7)) a1),a2,(Ag a3 y1 (IntKind.wrap .i64 (((AS a3 y1).getD 0)+1))),a4,a5,(IntKind.wrap .i64 (a6+1)),()))
      |false=>some (.inl (a0,(Bl (AE (AM x7)) a1),a2,a3,a4,a5,(IntKind.wrap .i64 (a6+1)),()))
     |false=>match(!y3)with
     |true=>some (.inl (a0,(Bl (AE (AM x7)) a1),a2,(Ag a3 y1 (IntKind.wrap .i64 (((AS a3 y1).getD 0)+1))),a4,a5,(IntKind.wrap .i64 (a6+1)),()))
     |false=>some (.inl (a0,(Bl (AE (AM x7)) a1),a2,a3,a4,a5,(IntKind.wrap .i64 (a6+1)),()))
    |false=>match(ilt 0 ((AS a2 y2).getD 0))with
    |true=>some (.inr (.inl (false,())))
    |false=>match(fits ((AM a1)+(AM ([y2]:List (Int)))))with
    |true=>match(!y3)with
     |true=>match idx (A5 a1 ([y2]:List (Int))) (IntKind.wrap .i64 ((AM (A5 a1 ([y2]:List (Int))))-1))with|none=>none|some x9=>match(!(ieq (AL (A5 a1 ([y2]:List (Int))) (AE (IntKind.wrap .i64 ((AM (A5 a1 ([y2]:List (Int))))-1))) 0) y1))with
      |true=>some (.inr (.inl (false,())))
      |false=>match(!y3)with
      |true=>some (.inl (a0,(A5 a1 ([y2]:List (Int))),(Ag a2 y2 (IntKind.wrap .i64 (((AS a2 y2).getD 0)+1))),(Ag a3 y1 (IntKind.wrap .i64 (((AS a3 y1).getD 0)+1))),a4,a5,(IntKind.wrap .i64 (a6+1)),()))
      |false=>some (.inl (a0,(A5 a1 ([y2]:List (Int))),(Ag a2 y2 (IntKind.wrap .i64 (((AS a2 y2).getD 0)+1))),a3,a4,a5,(IntKind.wrap .i64 (a6+1)),()))
     |false=>match(!y3)with
     |true=>some (.inl (a0,(A5 a1 ([y2]:List (Int))),(Ag a2 y2 (IntKind.wrap .i64 (((AS a2 y2).getD 0)+1))),(Ag a3 y1 (IntKind.wrap .i64 (((AS a3 y1).getD 0)+1))),a4,a5,(IntKind.wrap .i64 (a6+1)),()))
     |false=>some (.inl (a0,(A5 a1 ([y2]:List (Int))),(Ag a2 y2 (IntKind.wrap .i64 (((AS a2 y2).getD 0)+1))),a3,a4,a5,(IntKind.wrap .i64 (a6+1)),()))
    |false=>none
   |false=>match(ilt 0 ((AS a2 y2).getD 0))with
   |true=>some (.inr (.inl (false,())))
   |false=>match(fits ((AM a1)+(AM ([y2]:List (Int)))))with
   |true=>match(!y3)with
    |true=>match idx (A5 a1 ([y2]:List (Int))) (IntKind.wrap .i64 ((AM (A5 a1 ([y2]:List (Int))))-1))with|none=>none|some x10=>match(!(ieq (AL (A5 a1 ([y2]:List (Int))) (AE (IntKind.wrap .i64 ((AM (A5 a1 ([y2]:List (Int))))-1))) 0) y1))with
     |true=>some (.inr (.inl (false,())))
     |false=>match(!y3)with
     |true=>some (.inl (a0,(A5 a1 ([y2]:List (Int))),(Ag a2 y2 (IntKind.wrap .i64 (((AS a2 y2).getD 0)+1))),(Ag a3 y1 (IntKind.wrap .i64 (((AS a3 y1).getD 0)+1))),a4,a5,(IntKind.wrap .i64 (a6+1)),()))
     |false=>some (.inl (a0,(A5 a1 ([y2]:List (Int))),(Ag a2 y2 (IntKind.wrap .i64 (((AS a2 y2).getD 0)+1))),a3,a4,a5,(IntKind.wrap .i64 (a6+1)),()))
    |false=>match(!y3)with
    |true=>some (.inl (a0,(A5 a1 ([y2]:List (Int))),(Ag a2 y2 (IntKind.wrap .i64 (((AS a2 y2).getD 0)+1))),(Ag a3 y1 (IntKind.wrap .i64 (((AS a3 y1).getD 0)+1))),a4,a5,(IntKind.wrap .i64 (a6+1)),()))
    |false=>some (.inl (a0,(A5 a1 ([y2]:List (Int))),(Ag a2 y2 (IntKind.wrap .i64 (((AS a2 y2).getD 0)+1))),a3,a4,a5,(IntKind.wrap .i64 (a6+1)),()))
   |false=>none
  |false=>match(!y3)with
  |true=>match idx a1 (IntKind.wrap .i64 ((AM a1)-1))with|none=>none|some x11=>match(!(ieq (AL a1 (AE (IntKind.wrap .i64 ((AM a1)-1))) 0) y1))with
   |true=>some (.inr (.inl (false,())))
   |false=>match(!y3)with
   |true=>some (.inl (a0,a1,a2,(Ag a3 y1 (IntKind.wrap .i64 (((AS a3 y1).getD 0)+1))),a4,a5,(IntKind.wrap .i64 (a6+1)),()))
   |false=>some (.inl (a0,a1,a2,a3,a4,a5,(IntKind.wrap .i64 (a6+1)),()))
  |false=>match(!y3)with
  |true=>some (.inl (a0,a1,a2,(Ag a3 y1 (IntKind.wrap .i64 (((AS a3 y1).getD 0)+1))),a4,a5,(IntKind.wrap .i64 (a6+1)),()))
  |false=>some (.inl (a0,a1,a2,a3,a4,a5,(IntKind.wrap .i64 (a6+1)),()))
 |false=>some (.inr (.inr (.inl (a1,a2,a3,()))))
def AID[Lk]:Vi→Option (Ug):=fun(a0,a1,_)=>
 match idx a1 0 with|none=>none|some x0=>match tin (a0,x0,())with|none=>none|some (y1,_)=>match(!y1)with
 |true=>some (false,())
 |false=>match idx a1 0 with|none=>none|some x2=>match idx a1 0 with|none=>none|some x3=>match AR Iy many (a0,([x2]:List (Int)),(Ag ([]:List Uu) x3 1),([]:List Uu),a1,(AM a1),0,())with|none=>none|some r=>match r with
 |.inl (o4,_)=>some (o4,())
 |.inr r=>match r with
 |.inl (o5,o6,o7,_)=>match(ieq (AM o5) 1)with
  |true=>some ((ieq (AM o7) (AM o6)),())
  |false=>some (false,())
 |.inr _=>none
def Aas[Lk]:=fun v=>Lk.f (AID v)
theorem ATy v:Aas v=AID v:=AJ _
abbrev X7:AF:=[(.tmp 0,.dat Us)]
abbrev X6:AF:=[(.tmp 0,.dat .bool)]
abbrev X5:List RS:=[.one]
abbrev ADg:AF:=[(.tmp 3,.map U0 U0),(.tmp 78,.di),(.tmp 79,.di)]
abbrev ADd:A0:=[(.ret,[(.tmp 2,.dat .bool)]),(.exit 4,[])]
def En[Lk]:(List Uu×Int×Int×Unit)→Option ((List Uu×Int×Int×Unit)⊕Ug⊕(Unit)⊕Unit):=fun(a0,a1,a2,_)=>
 match(ilt a2 a1)with
 |true=>match(ieq ((AS a0 a2).getD 0) 0)with
  |true=>some (.inr (.inl (false,())))
  |false=>some (.inl (a0,a1,(IntKind.wrap .i64 (a2+1)),()))
 |false=>some (.inr (.inr (.inl ())))
abbrev ADh:AF:=[(.tmp 1,.box 2),(.cell 0 0,.di),(.cell 0 1,.dat Uk),(.tmp 3,.map U0 U0),(.tmp 4,.di),(.tmp 16,.dat Uk),(.tmp 17,.di),(.tmp 18,.di),(.tmp 26,.dat U6),(.tmp 28,.di),(.tmp 29,.di),(.tmp 30,.dat .bool),(.tmp 33,.dat U6),(.tmp 34,.dat .bool),(.tmp 35,.dat .bool),(.tmp 38,.dat U6),(.tmp 39,.di),(.tmp 40,.dat U6),(.tmp 42,.di),(.tmp 43,.dat .bool),(.tmp 46,.ptr' 0 0),(.tmp 47,.di),(.tmp 48,.dat U6),(.tmp 49,.dat .bool),(.tmp 50,.dat .bool),(.tmp 55,.dat U6),(.tmp 56,.di),(.tmp 57,.di)]
abbrev ADe:A0:=[(.ret,[(.tmp 2,.dat .bool)]),(.exit 2,[(.tmp 1,.box 2),(.cell 0 0,.di),(.cell 0 1,.dat Uk),(.tmp 3,.map U0 U0),(.tmp 4,.di),(.tmp 16,.dat Uk),(.tmp 17,.di),(.tmp 18,.di),(.tmp 26,.dat U6),(.tmp 28,.di),(.tmp 29,.di),(.tmp 30,.dat .bool),(.tmp 33,.dat U6),(.tmp 34,.dat .bool),(.tmp 35,.dat .bool),(.tmp 38,.dat U6),(.tmp 39,.di),(.tmp 40,.dat U6),(.tmp 42,.di),(.tmp 43,.dat .bool),(.tmp 46,.ptr' 0 0),(.tmp 47,.di),(.tmp 48,.dat U6),(.tmp 49,.dat .bool),(.tmp 50,.dat .bool)])]
def Di[Lk]:Ux→Option (Ux⊕Ug⊕(Int×List U4×List Uu×Int×List U4×Int×Int×List Int×Int×Int×Bool×List Int×Bool×Bool×List Int×Int×List Int×Int×Bool×Int×List Int×Bool×Bool×Unit)⊕Unit):=fun(a0,a1,a2,a3,a4,a5,a6,a7,a8,a9,a10,a11,a12,a13,a14,a15,a16,a17,a18,a19,a20,a21,a22,a23,a24,a25,_)=>
 match(ilt a25 a24)with
 |true=>match idx a23 a25 with|none=>none|some x0=>match(ilt x0 a0)with
  |true=>match(ilt 0 ((AS a2 x0).getD 0))with
   |true=>some (.inr (.inl (false,())))
   |false=>some (.inl (a0,a1,(Ag a2 x0 (IntKind.wrap .i64 (((AS a2 x0).getD 0)+1))),a3,a4,a5,a6,a7,a8,a9,a10,a11,a12,a13,a14,a15,a16,a17,a18,a19,a20,a21,a22,a23,a24,(IntKind.wrap .i64 (a25+1)),()))
  |false=>some (.inl (a0,a1,(Ag a2 x0 (IntKind.wrap .i64 (((AS a2 x0).getD 0)+1))),a3,a4,a5,a6,a7,a8,a9,a10,a11,a12,a13,a14,a15,a16,a17,a18,a19,a20,a21,a22,a23,a24,(IntKind.wrap .i64 (a25+1)),()))
 |false=>some (.inr (.inr (.inl (a0,a1,a2,a3,a4,a5,a6,a7,a8,a9,a10,a11,a12,a13,a14,a15,a16,a17,a18,a19,a20,a21,a22,()))))
abbrev ADi:AF:=[(.tmp 1,.box 2),(.cell 0 0,.di),(.cell 0 1,.dat Uk),(.tmp 3,.map U0 U0),(.tmp 4,.di),(.tmp 16,.dat Uk),(.tmp 17,.di),(.tmp 18,.di)]
abbrev ADf:A0:=[(.ret,[(.tmp 2,.dat .bool)]),(.exit 0,[(.tmp 1,.box 2),(.cell 0 0,.di),(.cell 0 1,.dat Uk),(.tmp 3,.map U0 U0)])]
def Dj[Lk]:(Int×List U4×List Uu×Int×List U4×Int×Int×Unit)→Option ((Int×List U4×List Uu×Int×List U4×Int×Int×Unit)⊕Ug⊕(Int×List U4×List Uu×Unit)⊕Unit):=fun(a0,a1,a2,a3,a4,a5,a6,_)=>
 match(ilt a6 a5)with
 |true=>match idx a4 a6 with|none=>none|some x0=>match(ieq (AM x0) 0)with
  |true=>some (.inr (.inl (false,())))
  |false=>match idx x0 0 with|none=>none|some x1=>match(ile x1 a3)with
  |true=>some (.inr (.inl (false,())))
  |false=>match Oc (x0,())with|none=>none|some (y2,_)=>match(!y2)with
  |true=>some (.inr (.inl (false,())))
  |false=>match AVx (x0,())with|none=>none|some (y3,_)=>match idx x0 0 with|none=>none|some x4=>match(!(ieq y3 x4))with
  |true=>some (.inr (.inl (false,())))
  |false=>match Aas (a0,x0,())with|none=>none|some (y5,_)=>match(!y5)with
  |true=>some (.inr (.inl (false,())))
  |false=>match idx x0 0 with|none=>none|some x6=>match AR Di many (a0,a1,a2,x6,a4,a5,a6,x0,x1,a3,(ile x1 a3),x0,y2,(!y2),x0,y3,x0,x4,(!(ieq y3 x4)),a0,x0,y5,(!y5),x0,(AM x0),0,())with|none=>none|some r=>match r with
  |.inl (o7,_)=>some (.inr (.inl (o7,())))
  |.inr r=>match r with
  |.inl (o8,o9,o10,o11,o12,o13,o14,o15,o16,o17,o18,o19,o20,o21,o22,o23,o24,o25,o26,o27,o28,o29,o30,_)=>some (.inl (o8,o9,o10,o11,o12,o13,(IntKind.wrap .i64 (o14+1)),()))
  |.inr _=>none
 |false=>some (.inr (.inr (.inl (a0,a1,a2,()))))
def Pq[Lk]:(Uj×Unit)→Option (Ug):=fun(a0,_)=>
 match Lc (a0.1,())with|none=>none|some (y0,_)=>match(!y0)with
 |true=>some (false,())
 |false=>match AR Dj many (a0.1,a0.2.1,([]:List Uu),(-1:Int),a0.2.1,(AM a0.2.1),0,())with|none=>none|some r=>match r with
 |.inl (o1,_)=>some (o1,())
 |.inr r=>match r with
 |.inl (o2,o3,o4,_)=>match AR En many (o4,o2,0,())with|none=>none|some r=>match r with
  |.inl (o5,_)=>some (o5,())
  |.inr r=>match r with
  |.inl _=>some (true,())
  |.inr _=>none
 |.inr _=>none
def OS[Lk]:=fun v=>Lk.f (Pq v)
theorem ADj v:OS v=Pq v:=AJ _
abbrev AIz:AF:=[(.tmp 0,.dat Us),(.tmp 1,.di),(.tmp 2,.di)]
abbrev AIy:AF:=[(.tmp 0,.di)]
abbrev AIx:List RS:=[.one]
def Xj[Lk]:(Uj×Int×Int×Unit)→Option (U9):=fun(a0,a1,a2,_)=>
 match OS ((a0.1,(a0.2.1,())),())with|none=>none|some (y0,_)=>match(!y0)with
 |true=>some (1,())
 |false=>match tin (a0.1,a1,())with|none=>none|some (y1,_)=>match(!y1)with
 |true=>some (10,())
 |false=>match tin (a0.1,a2,())with|none=>none|some (y2,_)=>match(!y2)with
 |true=>some (10,())
 |false=>some (0,())
def asked[Lk]:=fun v=>Lk.f (Xj v)
theorem ANt v:asked v=Xj v:=AJ _
abbrev AQe:AF:=[(.tmp 0,.di)]
abbrev AQd:AF:=[(.tmp 0,.dat .bool)]
abbrev AQc:List RS:=[.one]
def Sq[Lk]:U9→Option (Ug):=fun(a0,_)=>
 some ((!(ieq a0 a0)),())
def AQf[Lk]:=fun v=>Lk.f (Sq v)
theorem XW v:AQf v=Sq v:=AJ _
abbrev PS:AF:=[(.tmp 0,.di),(.tmp 1,.di)]
abbrev PR:AF:=[(.tmp 0,.di)]
abbrev PQ:List RS:=[.one]
def IV[Lk]:U3→Option (U9):=fun(a0,a1,_)=>
 match AQf (a0,())with|none=>none|some (y0,_)=>match AQf (a1,())with|none=>none|some (y1,_)=>match y0 with
 |true=>match y1 with
  |true=>some (0,())
  |false=>some ((-1:Int),())
 |false=>match y1 with
 |true=>some (1,())
 |false=>match(ilt a0 a1)with
 |true=>some ((-1:Int),())
 |false=>match(ilt a1 a0)with
 |true=>some (1,())
 |false=>some (0,())
def FV[Lk]:=fun v=>Lk.f (IV v)
theorem Mf v:FV v=IV v:=AJ _
abbrev AFG:AF:=[(.tmp 0,.dat U6),(.tmp 1,.dat U6)]
abbrev AFF:AF:=[(.tmp 0,.di)]
abbrev AFE:List RS:=[.one]
def XB[Lk]:(List Int×List Int×Unit)→Option (U9):=fun(a0,a1,_)=>
 match idx a0 0 with|none=>none|some x0=>match idx a1 0 with|none=>none|some x1=>match FV (x0,x1,())with|none=>none|some (y2,_)=>some (y2,())
def BF[Lk]:=fun v=>Lk.f (XB v)
theorem AJS v:BF v=XB v:=AJ _
def Gy:List Int:=[0,1,2,2,3,3,3,3,4,4,4,4,4,4,4,4,5,5,5,5,5,5,5,5,5,5,5,5,5,5,5,5,6,6,6,6,6,6,6,6,6,6,6,6,6,6,6,6,6,6,6,6,6,6,6,6,6,6,6,6,6,6,6,6,7,7,7,7,7,7,7,7,7,7,7,7,7,7,7,7,7,7,7,7,7,7,7,7,7,7,7,7,7,7,7,7,7,7,7,7,7,7,7,7,7,7,7,7,7,7,7,7,7,7,7,7,7,7,7,7,7,7,7,7,7,7,7,7,8,8,8,8,8,8,8,8,8,8,8,8,8,8,8,8,8,8,8,8,8,8,8,8,8,8,8,8,8,8,8,8,8,8,8,8,8,8,8,8,8,8,8,8,8,8,8,8,8,8,8,8,8,8,8,8,8,8,8,8,8,8,8,8,8,8,8,8,8,8,8,8,8,8,8,8,8,8,8,8,8,8,8,8,8,8,8,8,8,8,8,8,8,8,8,8,8,8,8,8,8,8,8,8,8,8,8,8,8,8,8,8,8,8,8,8,8,8,8,8,8,8,8,8,8,8,8,8]
abbrev AHg:AF:=[(.tmp 0,.dat (.int .u64))]
abbrev AHf:AF:=[(.tmp 0,.di)]
abbrev AHe:List RS:=[.one]
def Xa[Lk]:U9→Option (U9):=fun(a0,_)=>
 match(ile 4294967296 a0)with
 |true=>match shr? .u64 a0 32 with|none=>none|some x0=>match(ile 65536 x0)with
  |true=>match shr? .u64 x0 16 with|none=>none|some x1=>match(ile 256 x1)with
   |true=>match shr? .u64 x1 8 with|none=>none|some x2=>match idx Gy (IntKind.wrap .u8 x2)with|none=>none|some x3=>some ((IntKind.wrap .i64 ((IntKind.wrap .i64 ((IntKind.wrap .i64 (32+16))+8))+(IntKind.wrap .i64 x3))),())
   |false=>match idx Gy (IntKind.wrap .u8 x1)with|none=>none|some x4=>some ((IntKind.wrap .i64 ((IntKind.wrap .i64 (32+16))+(IntKind.wrap .i64 x4))),())
  |false=>match(ile 256 x0)with
  |true=>match shr? .u64 x0 8 with|none=>none|some x5=>match idx Gy (IntKind.wrap .u8 x5)with|none=>none|some x6=>some ((IntKind.wrap .i64 ((IntKind.wrap .i64 (32+8))+(IntKind.wrap .i64 x6))),())
  |false=>match idx Gy (IntKind.wrap .u8 x0)with|none=>none|some x7=>some ((IntKind.wrap .i64 (32+(IntKind.wrap .i64 x7))),())
 |false=>match(ile 65536 a0)with
 |true=>match shr? .u64 a0 16 with|none=>none|some x8=>match(ile 256 x8)with
  |true=>match shr? .u64 x8 8 with|none=>none|some x9=>match idx Gy (IntKind.wrap .u8 x9)with|none=>none|some x10=>some ((IntKind.wrap .i64 ((IntKind.wrap .i64 ((IntKind.wrap .i64 (0+16))+8))+(IntKind.wrap .i64 x10))),())
  |false=>match idx Gy (IntKind.wrap .u8 x8)with|none=>none|some x11=>some ((IntKind.wrap .i64 ((IntKind.wrap .i64 (0+16))+(IntKind.wrap .i64 x11))),())
 |false=>match(ile 256 a0)with
 |true=>match shr? .u64 a0 8 with|none=>none|some x12=>match idx Gy (IntKind.wrap .u8 x12)with|none=>none|some x13=>some ((IntKind.wrap .i64 ((IntKind.wrap .i64 (0+8))+(IntKind.wrap .i64 x13))),())
 |false=>match idx Gy (IntKind.wrap .u8 a0)with|none=>none|some x14=>some ((IntKind.wrap .i64 (0+(IntKind.wrap .i64 x14))),())
def AMV[Lk]:=fun v=>Lk.f (Xa v)
theorem AMU v:AMV v=Xa v:=AJ _
abbrev Tt:AF:=[(.tmp 0,.dat (.int .u64))]
abbrev Ts:AF:=[(.tmp 0,.di)]
abbrev Tr:List RS:=[.one]
def Nm[Lk]:U9→Option (U9):=fun(a0,_)=>
 match AMV (a0,())with|none=>none|some (y0,_)=>some (y0,())
def bitsLen[Lk]:=fun v=>Lk.f (Nm v)
theorem ABm v:bitsLen v=Nm v:=AJ _
abbrev Rv:AF:=[(.tmp 0,.box 1),(.cell 0 0,.dat (.int .u64))]
abbrev Ru:AF:=[(.obj 0,.box 1),(.cell 0 0,.dat (.int .u64)),(.tmp 0,.dat (.int .u64))]
abbrev Rs:List RS:=[.one]
def My[Lk]:U9→Option (U3):=fun(a0,_)=>
 match shl? .u64 a0 13 with|none=>none|some x0=>match shr? .u64 (IntKind.wrap .u64 ((BitVec.ofInt (IntKind.bits .u64) a0 ^^^ BitVec.ofInt (IntKind.bits .u64) x0).toNat)) 7 with|none=>none|some x1=>match shl? .u64 (IntKind.wrap .u64 ((BitVec.ofInt (IntKind.bits .u64) (IntKind.wrap .u64 ((BitVec.ofInt (IntKind.bits .u64) a0 ^^^ BitVec.ofInt (IntKind.bits .u64) x0).toNat)) ^^^ BitVec.ofInt (IntKind.bits .u64) x1).toNat)) 17 with|none=>none|some x2=>some ((IntKind.wrap .u64 ((BitVec.ofInt (IntKind.bits .u64) (IntKind.wrap .u64 ((BitVec.ofInt (IntKind.bits .u64) (IntKind.wrap .u64 ((BitVec.ofInt (IntKind.bits .u64) a0 ^^^ BitVec.ofInt (IntKind.bits .u64) x0).toNat)) ^^^ BitVec.ofInt (IntKind.bits .u64) x1).toNat)) ^^^ BitVec.ofInt (IntKind.bits .u64) x2).toNat)),(IntKind.wrap .u64 ((BitVec.ofInt (IntKind.bits .u64) (IntKind.wrap .u64 ((BitVec.ofInt (IntKind.bits .u64) (IntKind.wrap .u64 ((BitVec.ofInt (IntKind.bits .u64) a0 ^^^ BitVec.ofInt (IntKind.bits .u64) x0).toNat)) ^^^ BitVec.ofInt (IntKind.bits .u64) x1).toNat)) ^^^ BitVec.ofInt (IntKind.bits .u64) x2).toNat)),())
def xorNext[Lk]:=fun v=>Lk.f (My v)
theorem Xp v:xorNext v=My v:=AJ _
abbrev Sp:AF:=[(.tmp 0,.di)]
abbrev So:AF:=[(.tmp 0,.dat (.int .u64))]
abbrev Sn:List RS:=[.one]
def NN[Lk]:U9→Option (U9):=fun(a0,_)=>
 match bitsLen ((IntKind.wrap .u64 a0),())with|none=>none|some (y0,_)=>match shl? .u64 1 y0 with|none=>none|some x1=>some (x1,())
def NO[Lk]:=fun v=>Lk.f (NN v)
theorem Z9 v:NO v=NN v:=AJ _
def Qa[Lk]{α:Type}(z:α)(c:α×α×Unit→Option U9):(List α×Int×Int×Int×Int×Unit)→Option ((List α×Int×Int×Int×Int×Unit)⊕(List α×Int×Int×Int×Unit)⊕Unit):=fun(a0,a1,a2,a3,a4,_)=>
 match(ilt a1 a4)with
 |true=>match idx a0 a4 with|none=>none|some x0=>match idx a0 (IntKind.wrap .i64 (a4-1))with|none=>none|some x1=>match c ((AL a0 (AE a4) z),(AL a0 (AE (IntKind.wrap .i64 (a4-1))) z),())with|none=>none|some (y2,_)=>match(ilt y2 0)with
  |true=>match idx a0 (IntKind.wrap .i64 (a4-1))with|none=>none|some x3=>match idx a0 a4 with|none=>none|some x4=>match idx a0 a4 with|none=>none|some x5=>match idx (An a0 (AE a4) (AL a0 (AE (IntKind.wrap .i64 (a4-1))) z)) (IntKind.wrap .i64 (a4-1))with|none=>none|some x6=>some (.inl ((An (An a0 (AE a4) (AL a0 (AE (IntKind.wrap .i64 (a4-1))) z)) (AE (IntKind.wrap .i64 (a4-1))) (AL a0 (AE a4) z)),a1,a2,a3,(IntKind.wrap .i64 (a4-1)),()))
  |false=>some (.inr (.inl (a0,a1,a2,a3,())))
 |false=>some (.inr (.inl (a0,a1,a2,a3,())))
def Qb[Lk]{α:Type}(z:α)(c:α×α×Unit→Option U9):(List α×Int×Int×Int×Unit)→Option ((List α×Int×Int×Int×Unit)⊕(List α×Unit)⊕Unit):=fun(a0,a1,a2,a3,_)=>
 match(ilt a3 a2)with
 |true=>match AR (Qa z c) many (a0,a1,a2,a3,a3,())with|none=>none|some r=>match r with
  |.inl (o0,o1,o2,o3,_)=>some (.inl (o0,o1,o2,(IntKind.wrap .i64 (o3+1)),()))
  |.inr _=>none
 |false=>some (.inr (.inl (a0,())))
def AHo[Lk]{α:Type}(z:α)(c:α×α×Unit→Option U9):(List α×Int×Int×Unit)→Option ((List α×Unit)):=fun(a0,a1,a2,_)=>
 match AR (Qb z c) many (a0,a1,a2,(IntKind.wrap .i64 (a1+1)),())with|none=>none|some r=>match r with
 |.inl (o0,_)=>some (o0,())
 |.inr _=>none
def Ac4[Lk]{α:Type}(z:α)(c:α×α×Unit→Option U9)(v:(List α×Int×Int×Unit)):Option ((List α×Unit)):=Lk.f ((AHo z c) v)
theorem Ac3{α:Type}(z:α)(c:α×α×Unit→Option U9)(v:(List α×Int×Int×Unit)):(Ac4 z c) v=(AHo z c) v:=AJ _
def Lg[Lk]{α:Type}(z:α)(c:α×α×Unit→Option U9):(List α×Int×Int×Int×Unit)→Option ((List α×Int×Int×Int×Unit)⊕(List α×Unit)⊕(List α×Unit)⊕Unit):=fun(a0,a1,a2,a3,_)=>
 match(ile a1 (IntKind.wrap .i64 ((IntKind.wrap .i64 (2*a3))+1)))with
 |true=>some (.inr (.inl (a0,())))
 |false=>match(ilt (IntKind.wrap .i64 ((IntKind.wrap .i64 ((IntKind.wrap .i64 (2*a3))+1))+1)) a1)with
 |true=>match idx a0 (IntKind.wrap .i64 (a2+(IntKind.wrap .i64 ((IntKind.wrap .i64 (2*a3))+1))))with|none=>none|some x0=>match idx a0 (IntKind.wrap .i64 ((IntKind.wrap .i64 (a2+(IntKind.wrap .i64 ((IntKind.wrap .i64 (2*a3))+1))))+1))with|none=>none|some x1=>match c ((AL a0 (AE (IntKind.wrap .i64 (a2+(IntKind.wrap .i64 ((IntKind.wrap .i64 (2*a3))+1))))) z),(AL a0 (AE (IntKind.wrap .i64 ((IntKind.wrap .i64 (a2+(IntKind.wrap .i64 ((IntKind.wrap .i64 (2*a3))+1))))+1))) z),())with|none=>none|some (y2,_)=>match(ilt y2 0)with
  |true=>match idx a0 (IntKind.wrap .i64 (a2+a3))with|none=>none|some x3=>match idx a0 (IntKind.wrap .i64 (a2+(IntKind.wrap .i64 ((IntKind.wrap .i64 ((IntKind.wrap .i64 (2*a3))+1))+1))))with|none=>none|some x4=>match c ((AL a0 (AE (IntKind.wrap .i64 (a2+a3))) z),(AL a0 (AE (IntKind.wrap .i64 (a2+(IntKind.wrap .i64 ((IntKind.wrap .i64 ((IntKind.wrap .i64 (2*a3))+1))+1))))) z),())with|none=>none|some (y5,_)=>match(!(ilt y5 0))with
   |true=>some (.inr (.inr (.inl (a0,()))))
   |false=>match idx a0 (IntKind.wrap .i64 (a2+(IntKind.wrap .i64 ((IntKind.wrap .i64 ((IntKind.wrap .i64 (2*a3))+1))+1))))with|none=>none|some x6=>match idx a0 (IntKind.wrap .i64 (a2+a3))with|none=>none|some x7=>match idx a0 (IntKind.wrap .i64 (a2+a3))with|none=>none|some x8=>match idx (An a0 (AE (IntKind.wrap .i64 (a2+a3))) (AL a0 (AE (IntKind.wrap .i64 (a2+(IntKind.wrap .i64 ((IntKind.wrap .i64 ((IntKind.wrap .i64 (2*a3))+1))+1))))) z)) (IntKind.wrap .i64 (a2+(IntKind.wrap .i64 ((IntKind.wrap .i64 ((IntKind.wrap .i64 (2*a3))+1))+1))))with|none=>none|some x9=>some (.inl ((An (An a0 (AE (IntKind.wrap .i64 (a2+a3))) (AL a0 (AE (IntKind.wrap .i64 (a2+(IntKind.wrap .i64 ((IntKind.wrap .i64 ((IntKind.wrap .i64 (2*a3))+1))+1))))) z)) (AE (IntKind.wrap .i64 (a2+(IntKind.wrap .i64 ((IntKind.wrap .i64 ((IntKind.wrap .i64 (2*a3))+1))+1))))) (AL a0 (AE (IntKind.wrap .i64 (a2+a3))) z)),a1,a2,(IntKind.wrap .i64 ((IntKind.wrap .i64 ((IntKind.wrap .i64 (2*a3))+1))+1)),()))
  |false=>match idx a0 (IntKind.wrap .i64 (a2+a3))with|none=>none|some x10=>match idx a0 (IntKind.wrap .i64 (a2+(IntKind.wrap .i64 ((IntKind.wrap .i64 (2*a3))+1))))with|none=>none|some x11=>match c ((AL a0 (AE (IntKind.wrap .i64 (a2+a3))) z),(AL a0 (AE (IntKind.wrap .i64 (a2+(IntKind.wrap .i64 ((IntKind.wrap .i64 (2*a3))+1))))) z),())with|none=>none|some (y12,_)=>match(!(ilt y12 0))with
  |true=>some (.inr (.inr (.inl (a0,()))))
  |false=>match idx a0 (IntKind.wrap .i64 (a2+(IntKind.wrap .i64 ((IntKind.wrap .i64 (2*a3))+1))))with|none=>none|some x13=>match idx a0 (IntKind.wrap .i64 (a2+a3))with|none=>none|some x14=>match idx a0 (IntKind.wrap .i64 (a2+a3))with|none=>none|some x15=>match idx (An a0 (AE (IntKind.wrap .i64 (a2+a3))) (AL a0 (AE (IntKind.wrap .i64 (a2+(IntKind.wrap .i64 ((IntKind.wrap .i64 (2*a3))+1))))) z)) (IntKind.wrap .i64 (a2+(IntKind.wrap .i64 ((IntKind.wrap .i64 (2*a3))+1))))with|none=>none|some x16=>some (.inl ((An (An a0 (AE (IntKind.wrap .i64 (a2+a3))) (AL a0 (AE (IntKind.wrap .i64 (a2+(IntKind.wrap .i64 ((IntKind.wrap .i64 (2*a3))+1))))) z)) (AE (IntKind.wrap .i64 (a2+(IntKind.wrap .i64 ((IntKind.wrap .i64 (2*a3))+1))))) (AL a0 (AE (IntKind.wrap .i64 (a2+a3))) z)),a1,a2,(IntKind.wrap .i64 ((IntKind.wrap .i64 (2*a3))+1)),()))
 |false=>match idx a0 (IntKind.wrap .i64 (a2+a3))with|none=>none|some x17=>match idx a0 (IntKind.wrap .i64 (a2+(IntKind.wrap .i64 ((IntKind.wrap .i64 (2*a3))+1))))with|none=>none|some x18=>match c ((AL a0 (AE (IntKind.wrap .i64 (a2+a3))) z),(AL a0 (AE (IntKind.wrap .i64 (a2+(IntKind.wrap .i64 ((IntKind.wrap .i64 (2*a3))+1))))) z),())with|none=>none|some (y19,_)=>match(!(ilt y19 0))with
 |true=>some (.inr (.inr (.inl (a0,()))))
 |false=>match idx a0 (IntKind.wrap .i64 (a2+(IntKind.wrap .i64 ((IntKind.wrap .i64 (2*a3))+1))))with|none=>none|some x20=>match idx a0 (IntKind.wrap .i64 (a2+a3))with|none=>none|some x21=>match idx a0 (IntKind.wrap .i64 (a2+a3))with|none=>none|some x22=>match idx (An a0 (AE (IntKind.wrap .i64 (a2+a3))) (AL a0 (AE (IntKind.wrap .i64 (a2+(IntKind.wrap .i64 ((IntKind.wrap .i64 (2*a3))+1))))) z)) (IntKind.wrap .i64 (a2+(IntKind.wrap .i64 ((IntKind.wrap .i64 (2*a3))+1))))with|none=>none|some x23=>some (.inl ((An (An a0 (AE (IntKind.wrap .i64 (a2+a3))) (AL a0 (AE (IntKind.wrap .i64 (a2+(IntKind.wrap .i64 ((IntKind.wrap .i64 (2*a3))+1))))) z)) (AE (IntKind.wrap .i64 (a2+(IntKind.wrap .i64 ((IntKind.wrap .i64 (2*a3))+1))))) (AL a0 (AE (IntKind.wrap .i64 (a2+a3))) z)),a1,a2,(IntKind.wrap .i64 ((IntKind.wrap .i64 (2*a3))+1)),()))
def XJ[Lk]{α:Type}(z:α)(c:α×α×Unit→Option U9):(List α×Int×Int×Int×Unit)→Option ((List α×Unit)):=fun(a0,a1,a2,a3,_)=>
 match AR (Lg z c) many (a0,a2,a3,a1,())with|none=>none|some r=>match r with
 |.inl (o0,_)=>some (o0,())
 |.inr r=>match r with
 |.inl (o1,_)=>some (o1,())
 |.inr _=>none
def AKH[Lk]{α:Type}(z:α)(c:α×α×Unit→Option U9)(v:(List α×Int×Int×Int×Unit)):Option ((List α×Unit)):=Lk.f ((XJ z c) v)
theorem AYa{α:Type}(z:α)(c:α×α×Unit→Option U9)(v:(List α×Int×Int×Int×Unit)):(AKH z c) v=(XJ z c) v:=AJ _
def MP[Lk]{α:Type}(z:α)(c:α×α×Unit→Option U9):(List α×Int×Int×Int×Unit)→Option ((List α×Int×Int×Int×Unit)⊕(List α×Unit)⊕Unit):=fun(a0,a1,a2,a3,_)=>
 match(ile 0 a3)with
 |true=>match idx a0 (IntKind.wrap .i64 (a1+a3))with|none=>none|some x0=>match idx a0 a1 with|none=>none|some x1=>match idx a0 a1 with|none=>none|some x2=>match idx (An a0 (AE a1) (AL a0 (AE (IntKind.wrap .i64 (a1+a3))) z)) (IntKind.wrap .i64 (a1+a3))with|none=>none|some x3=>match(AKH z c) ((An (An a0 (AE a1) (AL a0 (AE (IntKind.wrap .i64 (a1+a3))) z)) (AE (IntKind.wrap .i64 (a1+a3))) (AL a0 (AE a1) z)),a2,a3,a1,())with|none=>none|some (y4,_)=>some (.inl (y4,a1,a2,(IntKind.wrap .i64 (a3-1)),()))
 |false=>some (.inr (.inl (a0,())))
def MQ[Lk]{α:Type}(z:α)(c:α×α×Unit→Option U9):(List α×Int×Int×Int×Int×Unit)→Option ((List α×Int×Int×Int×Int×Unit)⊕(List α×Int×Int×Int×Unit)⊕Unit):=fun(a0,a1,a2,a3,a4,_)=>
 match(ile 0 a4)with
 |true=>match(AKH z c) (a0,a4,a3,a1,())with|none=>none|some (y0,_)=>some (.inl (y0,a1,a2,a3,(IntKind.wrap .i64 (a4-1)),()))
 |false=>some (.inr (.inl (a0,a1,a2,a3,())))
def Xc[Lk]{α:Type}(z:α)(c:α×α×Unit→Option U9):(List α×Int×Int×Unit)→Option ((List α×Unit)):=fun(a0,a1,a2,_)=>
 match quo? .i64 (IntKind.wrap .i64 ((IntKind.wrap .i64 (a2-a1))-1)) 2 with|none=>none|some x0=>match AR (MQ z c) many (a0,a1,0,(IntKind.wrap .i64 (a2-a1)),x0,())with|none=>none|some r=>match r with
 |.inl (o1,o2,o3,o4,_)=>match AR (MP z c) many (o1,o2,o3,(IntKind.wrap .i64 (o4-1)),())with|none=>none|some r=>match r with
  |.inl (o5,_)=>some (o5,())
  |.inr _=>none
 |.inr _=>none
def ATu[Lk]{α:Type}(z:α)(c:α×α×Unit→Option U9)(v:(List α×Int×Int×Unit)):Option ((List α×Unit)):=Lk.f ((Xc z c) v)
theorem Aak{α:Type}(z:α)(c:α×α×Unit→Option U9)(v:(List α×Int×Int×Unit)):(ATu z c) v=(Xc z c) v:=AJ _
def HX[Lk]{α:Type}(z:α)(c:α×α×Unit→Option U9):(List α×Int×Int×Int×Int×Int×Unit)→Option ((List α×Int×Int×Int×Int×Int×Unit)⊕(List α×Unit)⊕Unit):=fun(a0,a1,a2,a3,a4,a5,_)=>
 match quo? .i64 a2 4 with|none=>none|some x0=>match(ile a5 (IntKind.wrap .i64 ((IntKind.wrap .i64 (a1+(IntKind.wrap .i64 (x0*2))))+1)))with
 |true=>match xorNext (a3,())with|none=>none|some (y1,y2,_)=>match(ile a2 (IntKind.wrap .i64 (IntKind.wrap .u64 ((BitVec.ofInt (IntKind.bits .u64) y2 &&& BitVec.ofInt (IntKind.bits .u64) (IntKind.wrap .u64 (a4-1))).toNat))))with
  |true=>match idx a0 (IntKind.wrap .i64 (a1+(IntKind.wrap .i64 ((IntKind.wrap .i64 (IntKind.wrap .u64 ((BitVec.ofInt (IntKind.bits .u64) y2 &&& BitVec.ofInt (IntKind.bits .u64) (IntKind.wrap .u64 (a4-1))).toNat)))-a2))))with|none=>none|some x3=>match idx a0 a5 with|none=>none|some x4=>match idx a0 a5 with|none=>none|some x5=>match idx (An a0 (AE a5) (AL a0 (AE (IntKind.wrap .i64 (a1+(IntKind.wrap .i64 ((IntKind.wrap .i64 (IntKind.wrap .u64 ((BitVec.ofInt (IntKind.bits .u64) y2 &&& BitVec.ofInt (IntKind.bits .u64) (IntKind.wrap .u64 (a4-1))).toNat)))-a2))))) z)) (IntKind.wrap .i64 (a1+(IntKind.wrap .i64 ((IntKind.wrap .i64 (IntKind.wrap .u64 ((BitVec.ofInt (IntKind.bits .u64) y2 &&& BitVec.ofInt (IntKind.bits .u64) (IntKind.wrap .u64 (a4-1))).toNat)))-a2))))with|none=>none|some x6=>some (.inl ((An (An a0 (AE a5) (AL a0 (AE (IntKind.wrap .i64 (a1+(IntKind.wrap .i64 ((IntKind.wrap .i64 (IntKind.wrap .u64 ((BitVec.ofInt (IntKind.bits .u64) y2 &&& BitVec.ofInt (IntKind.bits .u64) (IntKind.wrap .u64 (a4-1))).toNat)))-a2))))) z)) (AE (IntKind.wrap .i64 (a1+(IntKind.wrap .i64 ((IntKind.wrap .i64 (IntKind.wrap .u64 ((BitVec.ofInt (IntKind.bits .u64) y2 &&& BitVec.ofInt (IntKind.bits .u64) (IntKind.wrap .u64 (a4-1))).toNat)))-a2))))) (AL a0 (AE a5) z)),a1,a2,y1,a4,(IntKind.wrap .i64 (a5+1)),()))
  |false=>match idx a0 (IntKind.wrap .i64 (a1+(IntKind.wrap .i64 (IntKind.wrap .u64 ((BitVec.ofInt (IntKind.bits .u64) y2 &&& BitVec.ofInt (IntKind.bits .u64) (IntKind.wrap .u64 (a4-1))).toNat)))))with|none=>none|some x7=>match idx a0 a5 with|none=>none|some x8=>match idx a0 a5 with|none=>none|some x9=>match idx (An a0 (AE a5) (AL a0 (AE (IntKind.wrap .i64 (a1+(IntKind.wrap .i64 (IntKind.wrap .u64 ((BitVec.ofInt (IntKind.bits .u64) y2 &&& BitVec.ofInt (IntKind.bits .u64) (IntKind.wrap .u64 (a4-1))).toNat)))))) z)) (IntKind.wrap .i64 (a1+(IntKind.wrap .i64 (IntKind.wrap .u64 ((BitVec.ofInt (IntKind.bits .u64) y2 &&& BitVec.ofInt (IntKind.bits .u64) (IntKind.wrap .u64 (a4-1))).toNat)))))with|none=>none|some x10=>some (.inl ((An (An a0 (AE a5) (AL a0 (AE (IntKind.wrap .i64 (a1+(IntKind.wrap .i64 (IntKind.wrap .u64 ((BitVec.ofInt (IntKind.bits .u64) y2 &&& BitVec.ofInt (IntKind.bits .u64) (IntKind.wrap .u64 (a4-1))).toNat)))))) z)) (AE (IntKind.wrap .i64 (a1+(IntKind.wrap .i64 (IntKind.wrap .u64 ((BitVec.ofInt (IntKind.bits .u64) y2 &&& BitVec.ofInt (IntKind.bits .u64) (IntKind.wrap .u64 (a4-1))).toNat)))))) (AL a0 (AE a5) z)),a1,a2,y1,a4,(IntKind.wrap .i64 (a5+1)),()))
 |false=>some (.inr (.inl (a0,())))
def RE[Lk]{α:Type}(z:α)(c:α×α×Unit→Option U9):(List α×Int×Int×Unit)→Option ((List α×Unit)):=fun(a0,a1,a2,_)=>
 match(ile 8 (IntKind.wrap .i64 (a2-a1)))with
 |true=>match NO ((IntKind.wrap .i64 (a2-a1)),())with|none=>none|some (y0,_)=>match quo? .i64 (IntKind.wrap .i64 (a2-a1)) 4 with|none=>none|some x1=>match AR (HX z c) many (a0,a1,(IntKind.wrap .i64 (a2-a1)),(IntKind.wrap .u64 (IntKind.wrap .i64 (a2-a1))),y0,(IntKind.wrap .i64 ((IntKind.wrap .i64 (a1+(IntKind.wrap .i64 (x1*2))))-1)),())with|none=>none|some r=>match r with
  |.inl (o2,_)=>some (o2,())
  |.inr _=>none
 |false=>some (a0,())
def AIt[Lk]{α:Type}(z:α)(c:α×α×Unit→Option U9)(v:(List α×Int×Int×Unit)):Option ((List α×Unit)):=Lk.f ((RE z c) v)
theorem AXb{α:Type}(z:α)(c:α×α×Unit→Option U9)(v:(List α×Int×Int×Unit)):(AIt z c) v=(RE z c) v:=AJ _
def NK[Lk]{α:Type}(z:α)(c:α×α×Unit→Option U9):(List α×Int×Int×Int×Unit)→Option ((List α×Int×Int×Int×Unit)):=fun(a0,a1,a2,a3,_)=>
 match idx a0 a2 with|none=>none|some x0=>match idx a0 a1 with|none=>none|some x1=>match c ((AL a0 (AE a2) z),(AL a0 (AE a1) z),())with|none=>none|some (y2,_)=>match(ilt y2 0)with
 |true=>some (a0,(IntKind.wrap .i64 (a3+1)),a2,a1,())
 |false=>some (a0,a3,a1,a2,())
def NL[Lk]{α:Type}(z:α)(c:α×α×Unit→Option U9)(v:(List α×Int×Int×Int×Unit)):Option ((List α×Int×Int×Int×Unit)):=Lk.f ((NK z c) v)
theorem AQQ{α:Type}(z:α)(c:α×α×Unit→Option U9)(v:(List α×Int×Int×Int×Unit)):(NL z c) v=(NK z c) v:=AJ _
def NR[Lk]{α:Type}(z:α)(c:α×α×Unit→Option U9):(List α×Int×Int×Int×Int×Unit)→Option ((List α×Int×Int×Unit)):=fun(a0,a1,a2,a3,a4,_)=>
 match(NL z c) (a0,a1,a2,a4,())with|none=>none|some (y0,y1,y2,y3,_)=>match(NL z c) (y0,y3,a3,y1,())with|none=>none|some (y4,y5,y6,y7,_)=>match(NL z c) (y4,y2,y6,y5,())with|none=>none|some (y8,y9,y10,y11,_)=>some (y8,y9,y11,())
def NS[Lk]{α:Type}(z:α)(c:α×α×Unit→Option U9)(v:(List α×Int×Int×Int×Int×Unit)):Option ((List α×Int×Int×Unit)):=Lk.f ((NR z c) v)
theorem AQq{α:Type}(z:α)(c:α×α×Unit→Option U9)(v:(List α×Int×Int×Int×Int×Unit)):(NS z c) v=(NR z c) v:=AJ _
def NU[Lk]{α:Type}(z:α)(c:α×α×Unit→Option U9):(List α×Int×Int×Unit)→Option ((List α×Int×Int×Unit)):=fun(a0,a1,a2,_)=>
 match(NS z c) (a0,(IntKind.wrap .i64 (a1-1)),a1,(IntKind.wrap .i64 (a1+1)),a2,())with|none=>none|some (y0,y1,y2,_)=>some (y0,y1,y2,())
def NV[Lk]{α:Type}(z:α)(c:α×α×Unit→Option U9)(v:(List α×Int×Int×Unit)):Option ((List α×Int×Int×Unit)):=Lk.f ((NU z c) v)
theorem AQs{α:Type}(z:α)(c:α×α×Unit→Option U9)(v:(List α×Int×Int×Unit)):(NV z c) v=(NU z c) v:=AJ _
def QB[Lk]{α:Type}(z:α)(c:α×α×Unit→Option U9):(List α×Int×Int×Unit)→Option ((List α×Int×Int×Unit)):=fun(a0,a1,a2,_)=>
 match quo? .i64 (IntKind.wrap .i64 (a2-a1)) 4 with|none=>none|some x0=>match quo? .i64 (IntKind.wrap .i64 (a2-a1)) 4 with|none=>none|some x1=>match quo? .i64 (IntKind.wrap .i64 (a2-a1)) 4 with|none=>none|some x2=>match(ile 8 (IntKind.wrap .i64 (a2-a1)))with
 |true=>match(ile 50 (IntKind.wrap .i64 (a2-a1)))with
  |true=>match(NV z c) (a0,(IntKind.wrap .i64 (a1+(IntKind.wrap .i64 (x0*1)))),0,())with|none=>none|some (y3,y4,y5,_)=>match(NV z c) (y3,(IntKind.wrap .i64 (a1+(IntKind.wrap .i64 (x1*2)))),y4,())with|none=>none|some (y6,y7,y8,_)=>match(NV z c) (y6,(IntKind.wrap .i64 (a1+(IntKind.wrap .i64 (x2*3)))),y7,())with|none=>none|some (y9,y10,y11,_)=>match(NS z c) (y9,y5,y8,y11,y10,())with|none=>none|some (y12,y13,y14,_)=>match(ieq y13 0)with
   |true=>some (y12,y14,1,())
   |false=>match(ieq y13 12)with
   |true=>some (y12,y14,2,())
   |false=>some (y12,y14,0,())
  |false=>match(NS z c) (a0,(IntKind.wrap .i64 (a1+(IntKind.wrap .i64 (x0*1)))),(IntKind.wrap .i64 (a1+(IntKind.wrap .i64 (x1*2)))),(IntKind.wrap .i64 (a1+(IntKind.wrap .i64 (x2*3)))),0,())with|none=>none|some (y15,y16,y17,_)=>match(ieq y16 0)with
  |true=>some (y15,y17,1,())
  |false=>match(ieq y16 12)with
  |true=>some (y15,y17,2,())
  |false=>some (y15,y17,0,())
 |false=>match(ieq 0 0)with
 |true=>some (a0,(IntKind.wrap .i64 (a1+(IntKind.wrap .i64 (x1*2)))),1,())
 |false=>match(ieq 0 12)with
 |true=>some (a0,(IntKind.wrap .i64 (a1+(IntKind.wrap .i64 (x1*2)))),2,())
 |false=>some (a0,(IntKind.wrap .i64 (a1+(IntKind.wrap .i64 (x1*2)))),0,())
def AGW[Lk]{α:Type}(z:α)(c:α×α×Unit→Option U9)(v:(List α×Int×Int×Unit)):Option ((List α×Int×Int×Unit)):=Lk.f ((QB z c) v)
theorem AVM{α:Type}(z:α)(c:α×α×Unit→Option U9)(v:(List α×Int×Int×Unit)):(AGW z c) v=(QB z c) v:=AJ _
def XN[Lk]{α:Type}(z:α)(c:α×α×Unit→Option U9):(List α×Int×Int×Unit)→Option ((List α×Int×Int×Unit)⊕(List α×Unit)⊕Unit):=fun(a0,a1,a2,_)=>
 match(ilt a1 a2)with
 |true=>match idx a0 a2 with|none=>none|some x0=>match idx a0 a1 with|none=>none|some x1=>match idx a0 a1 with|none=>none|some x2=>match idx (An a0 (AE a1) (AL a0 (AE a2) z)) a2 with|none=>none|some x3=>some (.inl ((An (An a0 (AE a1) (AL a0 (AE a2) z)) (AE a2) (AL a0 (AE a1) z)),(IntKind.wrap .i64 (a1+1)),(IntKind.wrap .i64 (a2-1)),()))
 |false=>some (.inr (.inl (a0,())))
def AGF[Lk]{α:Type}(z:α)(c:α×α×Unit→Option U9):(List α×Int×Int×Unit)→Option ((List α×Unit)):=fun(a0,a1,a2,_)=>
 match AR (XN z c) many (a0,a1,(IntKind.wrap .i64 (a2-1)),())with|none=>none|some r=>match r with
 |.inl (o0,_)=>some (o0,())
 |.inr _=>none
def AcD[Lk]{α:Type}(z:α)(c:α×α×Unit→Option U9)(v:(List α×Int×Int×Unit)):Option ((List α×Unit)):=Lk.f ((AGF z c) v)
theorem AcC{α:Type}(z:α)(c:α×α×Unit→Option U9)(v:(List α×Int×Int×Unit)):(AcD z c) v=(AGF z c) v:=AJ _
def Gf[Lk]{α:Type}(z:α)(c:α×α×Unit→Option U9):(List α×Int×Int×Int×Int×Int×Unit)→Option ((List α×Int×Int×Int×Int×Int×Unit)⊕(List α×Int×Int×Int×Int×Unit)⊕Unit):=fun(a0,a1,a2,a3,a4,a5,_)=>
 match(ilt a5 a2)with
 |true=>match idx a0 a5 with|none=>none|some x0=>match idx a0 (IntKind.wrap .i64 (a5-1))with|none=>none|some x1=>match c ((AL a0 (AE a5) z),(AL a0 (AE (IntKind.wrap .i64 (a5-1))) z),())with|none=>none|some (y2,_)=>match(!(ilt y2 0))with
  |true=>some (.inr (.inl (a0,a1,a2,a3,a4,())))
  |false=>match idx a0 (IntKind.wrap .i64 (a5-1))with|none=>none|some x3=>match idx a0 a5 with|none=>none|some x4=>match idx a0 a5 with|none=>none|some x5=>match idx (An a0 (AE a5) (AL a0 (AE (IntKind.wrap .i64 (a5-1))) z)) (IntKind.wrap .i64 (a5-1))with|none=>none|some x6=>some (.inl ((An (An a0 (AE a5) (AL a0 (AE (IntKind.wrap .i64 (a5-1))) z)) (AE (IntKind.wrap .i64 (a5-1))) (AL a0 (AE a5) z)),a1,a2,a3,a4,(IntKind.wrap .i64 (a5+1)),()))
 |false=>some (.inr (.inl (a0,a1,a2,a3,a4,())))
def Gg[Lk]{α:Type}(z:α)(c:α×α×Unit→Option U9):(List α×Int×Int×Int×Int×Int×Unit)→Option ((List α×Int×Int×Int×Int×Int×Unit)⊕(List α×Int×Int×Int×Int×Unit)⊕Unit):=fun(a0,a1,a2,a3,a4,a5,_)=>
 match(ile 1 a5)with
 |true=>match idx a0 a5 with|none=>none|some x0=>match idx a0 (IntKind.wrap .i64 (a5-1))with|none=>none|some x1=>match c ((AL a0 (AE a5) z),(AL a0 (AE (IntKind.wrap .i64 (a5-1))) z),())with|none=>none|some (y2,_)=>match(!(ilt y2 0))with
  |true=>some (.inr (.inl (a0,a1,a2,a3,a4,())))
  |false=>match idx a0 (IntKind.wrap .i64 (a5-1))with|none=>none|some x3=>match idx a0 a5 with|none=>none|some x4=>match idx a0 a5 with|none=>none|some x5=>match idx (An a0 (AE a5) (AL a0 (AE (IntKind.wrap .i64 (a5-1))) z)) (IntKind.wrap .i64 (a5-1))with|none=>none|some x6=>some (.inl ((An (An a0 (AE a5) (AL a0 (AE (IntKind.wrap .i64 (a5-1))) z)) (AE (IntKind.wrap .i64 (a5-1))) (AL a0 (AE a5) z)),a1,a2,a3,a4,(IntKind.wrap .i64 (a5-1)),()))
 |false=>some (.inr (.inl (a0,a1,a2,a3,a4,())))
def Im[Lk]{α:Type}(z:α)(c:α×α×Unit→Option U9):(List α×Int×Int×Int×Int×Unit)→Option ((List α×Int×Int×Int×Int×Unit)⊕(List α×Int×Int×Int×Int×Unit)⊕Unit):=fun(a0,a1,a2,a3,a4,_)=>
 match(ilt a3 a2)with
 |true=>match idx a0 a3 with|none=>none|some x0=>match idx a0 (IntKind.wrap .i64 (a3-1))with|none=>none|some x1=>match c ((AL a0 (AE a3) z),(AL a0 (AE (IntKind.wrap .i64 (a3-1))) z),())with|none=>none|some (y2,_)=>match(!(ilt y2 0))with
  |true=>some (.inl (a0,a1,a2,(IntKind.wrap .i64 (a3+1)),a4,()))
  |false=>some (.inr (.inl (a0,a1,a2,a3,a4,())))
 |false=>some (.inr (.inl (a0,a1,a2,a3,a4,())))
def Cr[Lk]{α:Type}(z:α)(c:α×α×Unit→Option U9):(List α×Int×Int×Int×Int×Unit)→Option ((List α×Int×Int×Int×Int×Unit)⊕(List α×Bool×Unit)⊕(List α×Unit)⊕Unit):=fun(a0,a1,a2,a3,a4,_)=>
 match(ilt a4 5)with
 |true=>match AR (Im z c) many (a0,a1,a2,a3,a4,())with|none=>none|some r=>match r with
  |.inl (o0,o1,o2,o3,o4,_)=>match(ieq o3 o2)with
   |true=>some (.inr (.inl (o0,true,())))
   |false=>match(ilt (IntKind.wrap .i64 (o2-o1)) 50)with
   |true=>some (.inr (.inl (o0,false,())))
   |false=>match idx o0 (IntKind.wrap .i64 (o3-1))with|none=>none|some x5=>match idx o0 o3 with|none=>none|some x6=>match idx o0 o3 with|none=>none|some x7=>match idx (An o0 (AE o3) (AL o0 (AE (IntKind.wrap .i64 (o3-1))) z)) (IntKind.wrap .i64 (o3-1))with|none=>none|some x8=>match(ile 2 (IntKind.wrap .i64 (o3-o1)))with
   |true=>match AR (Gg z c) many ((An (An o0 (AE o3) (AL o0 (AE (IntKind.wrap .i64 (o3-1))) z)) (AE (IntKind.wrap .i64 (o3-1))) (AL o0 (AE o3) z)),o1,o2,o3,o4,(IntKind.wrap .i64 (o3-1)),())with|none=>none|some r=>match r with
    |.inl (o9,o10,o11,o12,o13,_)=>match(ile 2 (IntKind.wrap .i64 (o11-o12)))with
     |true=>match AR (Gf z c) many (o9,o10,o11,o12,o13,(IntKind.wrap .i64 (o12+1)),())with|none=>none|some r=>match r with
      |.inl (o14,o15,o16,o17,o18,_)=>some (.inl (o14,o15,o16,o17,(IntKind.wrap .i64 (o18+1)),()))
      |.inr _=>none
     |false=>some (.inl (o9,o10,o11,o12,(IntKind.wrap .i64 (o13+1)),()))
    |.inr _=>none
   |false=>match(ile 2 (IntKind.wrap .i64 (o2-o3)))with
   |true=>match AR (Gf z c) many ((An (An o0 (AE o3) (AL o0 (AE (IntKind.wrap .i64 (o3-1))) z)) (AE (IntKind.wrap .i64 (o3-1))) (AL o0 (AE o3) z)),o1,o2,o3,o4,(IntKind.wrap .i64 (o3+1)),())with|none=>none|some r=>match r with
    |.inl (o19,o20,o21,o22,o23,_)=>some (.inl (o19,o20,o21,o22,(IntKind.wrap .i64 (o23+1)),()))
    |.inr _=>none
   |false=>some (.inl ((An (An o0 (AE o3) (AL o0 (AE (IntKind.wrap .i64 (o3-1))) z)) (AE (IntKind.wrap .i64 (o3-1))) (AL o0 (AE o3) z)),o1,o2,o3,(IntKind.wrap .i64 (o4+1)),()))
  |.inr _=>none
 |false=>some (.inr (.inr (.inl (a0,()))))
def KL[Lk]{α:Type}(z:α)(c:α×α×Unit→Option U9):(List α×Int×Int×Unit)→Option ((List α×Bool×Unit)):=fun(a0,a1,a2,_)=>
 match AR (Cr z c) many (a0,a1,a2,(IntKind.wrap .i64 (a1+1)),0,())with|none=>none|some r=>match r with
 |.inl (o0,o1,_)=>some (o0,o1,())
 |.inr r=>match r with
 |.inl (o2,_)=>some (o2,false,())
 |.inr _=>none
def QG[Lk]{α:Type}(z:α)(c:α×α×Unit→Option U9)(v:(List α×Int×Int×Unit)):Option ((List α×Bool×Unit)):=Lk.f ((KL z c) v)
theorem ALZ{α:Type}(z:α)(c:α×α×Unit→Option U9)(v:(List α×Int×Int×Unit)):(QG z c) v=(KL z c) v:=AJ _
def KM[Lk]{α:Type}(z:α)(c:α×α×Unit→Option U9):(List α×Int×Int×Int×Unit)→Option ((List α×Int×Int×Int×Unit)⊕(List α×Int×Int×Int×Unit)⊕Unit):=fun(a0,a1,a2,a3,_)=>
 match(ile a2 a3)with
 |true=>match idx a0 a1 with|none=>none|some x0=>match idx a0 a3 with|none=>none|some x1=>match c ((AL a0 (AE a1) z),(AL a0 (AE a3) z),())with|none=>none|some (y2,_)=>match(ilt y2 0)with
  |true=>some (.inl (a0,a1,a2,(IntKind.wrap .i64 (a3-1)),()))
  |false=>some (.inr (.inl (a0,a1,a2,a3,())))
 |false=>some (.inr (.inl (a0,a1,a2,a3,())))
def KN[Lk]{α:Type}(z:α)(c:α×α×Unit→Option U9):(List α×Int×Int×Int×Unit)→Option ((List α×Int×Int×Int×Unit)⊕(List α×Int×Int×Int×Unit)⊕Unit):=fun(a0,a1,a2,a3,_)=>
 match(ile a2 a3)with
 |true=>match idx a0 a1 with|none=>none|some x0=>match idx a0 a2 with|none=>none|some x1=>match c ((AL a0 (AE a1) z),(AL a0 (AE a2) z),())with|none=>none|some (y2,_)=>match(!(ilt y2 0))with
  |true=>some (.inl (a0,a1,(IntKind.wrap .i64 (a2+1)),a3,()))
  |false=>some (.inr (.inl (a0,a1,a2,a3,())))
 |false=>some (.inr (.inl (a0,a1,a2,a3,())))
def KO[Lk]{α:Type}(z:α)(c:α×α×Unit→Option U9):(List α×Int×Int×Int×Unit)→Option ((List α×Int×Int×Int×Unit)⊕(List α×Int×Unit)⊕Unit):=fun(a0,a1,a2,a3,_)=>
 match AR (KN z c) many (a0,a1,a2,a3,())with|none=>none|some r=>match r with
 |.inl (o0,o1,o2,o3,_)=>match AR (KM z c) many (o0,o1,o2,o3,())with|none=>none|some r=>match r with
  |.inl (o4,o5,o6,o7,_)=>match(ilt o7 o6)with
   |true=>some (.inr (.inl (o4,o6,())))
   |false=>match idx o4 o7 with|none=>none|some x8=>match idx o4 o6 with|none=>none|some x9=>match idx o4 o6 with|none=>none|some x10=>match idx (An o4 (AE o6) (AL o4 (AE o7) z)) o7 with|none=>none|some x11=>some (.inl ((An (An o4 (AE o6) (AL o4 (AE o7) z)) (AE o7) (AL o4 (AE o6) z)),o5,(IntKind.wrap .i64 (o6+1)),(IntKind.wrap .i64 (o7-1)),()))
  |.inr _=>none
 |.inr _=>none
def NI[Lk]{α:Type}(z:α)(c:α×α×Unit→Option U9):(List α×Int×Int×Int×Unit)→Option ((List α×Int×Unit)):=fun(a0,a1,a2,a3,_)=>
 match idx a0 a3 with|none=>none|some x0=>match idx a0 a1 with|none=>none|some x1=>match idx a0 a1 with|none=>none|some x2=>match idx (An a0 (AE a1) (AL a0 (AE a3) z)) a3 with|none=>none|some x3=>match AR (KO z c) many ((An (An a0 (AE a1) (AL a0 (AE a3) z)) (AE a3) (AL a0 (AE a1) z)),a1,(IntKind.wrap .i64 (a1+1)),(IntKind.wrap .i64 (a2-1)),())with|none=>none|some r=>match r with
 |.inl (o4,o5,_)=>some (o4,o5,())
 |.inr _=>none
def XT[Lk]{α:Type}(z:α)(c:α×α×Unit→Option U9)(v:(List α×Int×Int×Int×Unit)):Option ((List α×Int×Unit)):=Lk.f ((NI z c) v)
theorem AQO{α:Type}(z:α)(c:α×α×Unit→Option U9)(v:(List α×Int×Int×Int×Unit)):(XT z c) v=(NI z c) v:=AJ _
def QI[Lk]{α:Type}(z:α)(c:α×α×Unit→Option U9):(List α×Int×Int×Int×Unit)→Option ((List α×Int×Int×Int×Unit)⊕(List α×Int×Int×Int×Unit)⊕Unit):=fun(a0,a1,a2,a3,_)=>
 match(ile a2 a3)with
 |true=>match idx a0 a3 with|none=>none|some x0=>match idx a0 a1 with|none=>none|some x1=>match c ((AL a0 (AE a3) z),(AL a0 (AE a1) z),())with|none=>none|some (y2,_)=>match(!(ilt y2 0))with
  |true=>some (.inl (a0,a1,a2,(IntKind.wrap .i64 (a3-1)),()))
  |false=>some (.inr (.inl (a0,a1,a2,a3,())))
 |false=>some (.inr (.inl (a0,a1,a2,a3,())))
def QJ[Lk]{α:Type}(z:α)(c:α×α×Unit→Option U9):(List α×Int×Int×Int×Unit)→Option ((List α×Int×Int×Int×Unit)⊕(List α×Int×Int×Int×Unit)⊕Unit):=fun(a0,a1,a2,a3,_)=>
 match(ile a2 a3)with
 |true=>match idx a0 a2 with|none=>none|some x0=>match idx a0 a1 with|none=>none|some x1=>match c ((AL a0 (AE a2) z),(AL a0 (AE a1) z),())with|none=>none|some (y2,_)=>match(ilt y2 0)with
  |true=>some (.inl (a0,a1,(IntKind.wrap .i64 (a2+1)),a3,()))
  |false=>some (.inr (.inl (a0,a1,a2,a3,())))
 |false=>some (.inr (.inl (a0,a1,a2,a3,())))
def QK[Lk]{α:Type}(z:α)(c:α×α×Unit→Option U9):(List α×Int×Int×Int×Unit)→Option ((List α×Int×Int×Int×Unit)⊕(List α×Int×Int×Unit)⊕Unit):=fun(a0,a1,a2,a3,_)=>
 match AR (QJ z c) many (a0,a1,a2,a3,())with|none=>none|some r=>match r with
 |.inl (o0,o1,o2,o3,_)=>match AR (QI z c) many (o0,o1,o2,o3,())with|none=>none|some r=>match r with
  |.inl (o4,o5,o6,o7,_)=>match(ilt o7 o6)with
   |true=>some (.inr (.inl (o4,o5,o7,())))
   |false=>match idx o4 o7 with|none=>none|some x8=>match idx o4 o6 with|none=>none|some x9=>match idx o4 o6 with|none=>none|some x10=>match idx (An o4 (AE o6) (AL o4 (AE o7) z)) o7 with|none=>none|some x11=>some (.inl ((An (An o4 (AE o6) (AL o4 (AE o7) z)) (AE o7) (AL o4 (AE o6) z)),o5,(IntKind.wrap .i64 (o6+1)),(IntKind.wrap .i64 (o7-1)),()))
  |.inr _=>none
 |.inr _=>none
def QL[Lk]{α:Type}(z:α)(c:α×α×Unit→Option U9):(List α×Int×Int×Int×Unit)→Option ((List α×Int×Int×Int×Unit)⊕(List α×Int×Int×Int×Unit)⊕Unit):=fun(a0,a1,a2,a3,_)=>
 match(ile a2 a3)with
 |true=>match idx a0 a3 with|none=>none|some x0=>match idx a0 a1 with|none=>none|some x1=>match c ((AL a0 (AE a3) z),(AL a0 (AE a1) z),())with|none=>none|some (y2,_)=>match(!(ilt y2 0))with
  |true=>some (.inl (a0,a1,a2,(IntKind.wrap .i64 (a3-1)),()))
  |false=>some (.inr (.inl (a0,a1,a2,a3,())))
 |false=>some (.inr (.inl (a0,a1,a2,a3,())))
def QM[Lk]{α:Type}(z:α)(c:α×α×Unit→Option U9):(List α×Int×Int×Int×Unit)→Option ((List α×Int×Int×Int×Unit)⊕(List α×Int×Int×Int×Unit)⊕Unit):=fun(a0,a1,a2,a3,_)=>
 match(ile a2 a3)with
 |true=>match idx a0 a2 with|none=>none|some x0=>match idx a0 a1 with|none=>none|some x1=>match c ((AL a0 (AE a2) z),(AL a0 (AE a1) z),())with|none=>none|some (y2,_)=>match(ilt y2 0)with
  |true=>some (.inl (a0,a1,(IntKind.wrap .i64 (a2+1)),a3,()))
  |false=>some (.inr (.inl (a0,a1,a2,a3,())))
 |false=>some (.inr (.inl (a0,a1,a2,a3,())))
def XS[Lk]{α:Type}(z:α)(c:α×α×Unit→Option U9):(List α×Int×Int×Int×Unit)→Option ((List α×Int×Bool×Unit)):=fun(a0,a1,a2,a3,_)=>
 match idx a0 a3 with|none=>none|some x0=>match idx a0 a1 with|none=>none|some x1=>match idx a0 a1 with|none=>none|some x2=>match idx (An a0 (AE a1) (AL a0 (AE a3) z)) a3 with|none=>none|some x3=>match AR (QM z c) many ((An (An a0 (AE a1) (AL a0 (AE a3) z)) (AE a3) (AL a0 (AE a1) z)),a1,(IntKind.wrap .i64 (a1+1)),(IntKind.wrap .i64 (a2-1)),())with|none=>none|some r=>match r with
 |.inl (o4,o5,o6,o7,_)=>match AR (QL z c) many (o4,o5,o6,o7,())with|none=>none|some r=>match r with
  |.inl (o8,o9,o10,o11,_)=>match(ilt o11 o10)with
   |true=>match idx o8 o9 with|none=>none|some x12=>match idx o8 o11 with|none=>none|some x13=>match idx o8 o11 with|none=>none|some x14=>match idx (An o8 (AE o11) (AL o8 (AE o9) z)) o9 with|none=>none|some x15=>some ((An (An o8 (AE o11) (AL o8 (AE o9) z)) (AE o9) (AL o8 (AE o11) z)),o11,true,())
   |false=>match idx o8 o11 with|none=>none|some x16=>match idx o8 o10 with|none=>none|some x17=>match idx o8 o10 with|none=>none|some x18=>match idx (An o8 (AE o10) (AL o8 (AE o11) z)) o11 with|none=>none|some x19=>match AR (QK z c) many ((An (An o8 (AE o10) (AL o8 (AE o11) z)) (AE o11) (AL o8 (AE o10) z)),o9,(IntKind.wrap .i64 (o10+1)),(IntKind.wrap .i64 (o11-1)),())with|none=>none|some r=>match r with
   |.inl (o20,o21,o22,_)=>match idx o20 o21 with|none=>none|some x23=>match idx o20 o22 with|none=>none|some x24=>match idx o20 o22 with|none=>none|some x25=>match idx (An o20 (AE o22) (AL o20 (AE o21) z)) o21 with|none=>none|some x26=>some ((An (An o20 (AE o22) (AL o20 (AE o21) z)) (AE o21) (AL o20 (AE o22) z)),o22,false,())
   |.inr _=>none
  |.inr _=>none
 |.inr _=>none
def AEE[Lk]{α:Type}(z:α)(c:α×α×Unit→Option U9)(v:(List α×Int×Int×Int×Unit)):Option ((List α×Int×Bool×Unit)):=Lk.f ((XS z c) v)
theorem AZr{α:Type}(z:α)(c:α×α×Unit→Option U9)(v:(List α×Int×Int×Int×Unit)):(AEE z c) v=(XS z c) v:=AJ _
def Sa[Lk]{α:Type}(z:α)(c:α×α×Unit→Option U9)(self:(List α×Int×Int×Int×Unit)→Option ((List α×Unit)))(y7:List α)(a1 a2 p l:Int)(a4 a5:Bool):Option ((List α×Int×Int×Int×Bool×Bool×Unit)⊕(List α×Unit)⊕Unit):=
 match(ilt 0 a1)with
 |true=>match idx y7 (IntKind.wrap .i64 (a1-1))with|none=>none|some x9=>match idx y7 p with|none=>none|some x10=>match c ((AL y7 (AE (IntKind.wrap .i64 (a1-1))) z),(AL y7 (AE p) z),())with|none=>none|some (y11,_)=>match(!(ilt y11 0))with
  |true=>match(XT z c) (y7,a1,a2,p,())with|none=>none|some (y12,y13,_)=>some (.inl (y12,y13,a2,l,a4,a5,()))
  |false=>match(AEE z c) (y7,a1,a2,p,())with|none=>none|some (y14,y15,y16,_)=>match quo? .i64 (IntKind.wrap .i64 (a2-a1)) 8 with|none=>none|some x17=>match(ilt (IntKind.wrap .i64 (y15-a1)) (IntKind.wrap .i64 (a2-y15)))with
  |true=>match self (y14,a1,y15,l,())with|none=>none|some (y18,_)=>some (.inl (y18,(IntKind.wrap .i64 (y15+1)),a2,l,(ile x17 (IntKind.wrap .i64 (y15-a1))),y16,()))
  |false=>match self (y14,(IntKind.wrap .i64 (y15+1)),a2,l,())with|none=>none|some (y19,_)=>some (.inl (y19,a1,y15,l,(ile x17 (IntKind.wrap .i64 (a2-y15))),y16,()))
 |false=>match(AEE z c) (y7,a1,a2,p,())with|none=>none|some (y20,y21,y22,_)=>match quo? .i64 (IntKind.wrap .i64 (a2-a1)) 8 with|none=>none|some x23=>match(ilt (IntKind.wrap .i64 (y21-a1)) (IntKind.wrap .i64 (a2-y21)))with
 |true=>match self (y20,a1,y21,l,())with|none=>none|some (y24,_)=>some (.inl (y24,(IntKind.wrap .i64 (y21+1)),a2,l,(ile x23 (IntKind.wrap .i64 (y21-a1))),y22,()))
 |false=>match self (y20,(IntKind.wrap .i64 (y21+1)),a2,l,())with|none=>none|some (y25,_)=>some (.inl (y25,a1,y21,l,(ile x23 (IntKind.wrap .i64 (a2-y21))),y22,()))
def AGm[Lk]{α:Type}(z:α)(c:α×α×Unit→Option U9)(self:(List α×Int×Int×Int×Unit)→Option ((List α×Unit)))(y6:List α)(a1 a2 p h l:Int)(a4 a5:Bool):Option ((List α×Int×Int×Int×Bool×Bool×Unit)⊕(List α×Unit)⊕Unit):=
 match a4 with
 |true=>match a5 with
  |true=>match(ieq h 1)with
   |true=>match(QG z c) (y6,a1,a2,())with|none=>none|some (y7,y8,_)=>match y8 with
    |true=>some (.inr (.inl (y7,())))
    |false=>(Sa z c) self y7 a1 a2 p l a4 a5
   |false=>(Sa z c) self y6 a1 a2 p l a4 a5
  |false=>(Sa z c) self y6 a1 a2 p l a4 a5
 |false=>(Sa z c) self y6 a1 a2 p l a4 a5
def AGl[Lk]{α:Type}(z:α)(c:α×α×Unit→Option U9)(self:(List α×Int×Int×Int×Unit)→Option ((List α×Unit)))(y2:List α)(a1 a2 l:Int)(a4 a5:Bool):Option ((List α×Int×Int×Int×Bool×Bool×Unit)⊕(List α×Unit)⊕Unit):=
 match(AGW z c) (y2,a1,a2,())with|none=>none|some (y3,y4,y5,_)=>match(ieq y5 2)with
 |true=>match(AcD z c) (y3,a1,a2,())with|none=>none|some (y6,_)=>(AGm z c) self y6 a1 a2 (IntKind.wrap .i64 ((IntKind.wrap .i64 (a2-1))-(IntKind.wrap .i64 (y4-a1)))) 1 l a4 a5
 |false=>(AGm z c) self y3 a1 a2 y4 y5 l a4 a5
def QF[Lk]{α:Type}(z:α)(c:α×α×Unit→Option U9)(self:(List α×Int×Int×Int×Unit)→Option ((List α×Unit))):(List α×Int×Int×Int×Bool×Bool×Unit)→Option ((List α×Int×Int×Int×Bool×Bool×Unit)⊕(List α×Unit)⊕Unit):=fun(a0,a1,a2,a3,a4,a5,_)=>
 match(ile (IntKind.wrap .i64 (a2-a1)) 12)with
 |true=>match(Ac4 z c) (a0,a1,a2,())with|none=>none|some (y0,_)=>some (.inr (.inl (y0,())))
 |false=>match(ieq a3 0)with
 |true=>match(ATu z c) (a0,a1,a2,())with|none=>none|some (y1,_)=>some (.inr (.inl (y1,())))
 |false=>match(!a4)with
 |true=>match(AIt z c) (a0,a1,a2,())with|none=>none|some (y2,_)=>(AGl z c) self y2 a1 a2 (IntKind.wrap .i64 (a3-1)) a4 a5
 |false=>(AGl z c) self a0 a1 a2 a3 a4 a5
def AGn[Lk]{α:Type}(z:α)(c:α×α×Unit→Option U9)(self:(List α×Int×Int×Int×Unit)→Option ((List α×Unit))):(List α×Int×Int×Int×Unit)→Option ((List α×Unit)):=fun(a0,a1,a2,a3,_)=>
 match AR ((QF z c) self) many (a0,a1,a2,a3,true,true,())with|none=>none|some r=>match r with
 |.inl (o0,_)=>some (o0,())
 |.inr _=>none
def Lu[Lk]{α:Type}(z:α)(c:α×α×Unit→Option U9):Nat→(List α×Int×Int×Int×Unit)→Option ((List α×Unit))
 |0,_=>none
 |n+1,v=>(AGn z c) ((Lu z c) n) v
def AcS[Lk]{α:Type}(z:α)(c:α×α×Unit→Option U9)(v:(List α×Int×Int×Int×Unit)):Option ((List α×Unit)):=Lk.f ((Lu z c) 100 v)
theorem AcR{α:Type}(z:α)(c:α×α×Unit→Option U9)(v:(List α×Int×Int×Int×Unit)):(AcS z c) v=(Lu z c) 100 v:=AJ _
def XH[Lk]{α:Type}(z:α)(c:α×α×Unit→Option U9):(List α×Unit)→Option ((List α×Unit)):=fun(a0,_)=>
 match bitsLen ((IntKind.wrap .u64 (AM a0)),())with|none=>none|some (y0,_)=>match(AcS z c) (a0,0,(AM a0),y0,())with|none=>none|some (y1,_)=>some (y1,())
def AYT[Lk]{α:Type}(z:α)(c:α×α×Unit→Option U9)(v:(List α×Unit)):Option ((List α×Unit)):=Lk.f ((XH z c) v)
theorem AYS{α:Type}(z:α)(c:α×α×Unit→Option U9)(v:(List α×Unit)):(AYT z c) v=(XH z c) v:=AJ _
abbrev ARO:AF:=[(.tmp 0,.own 55 U6),(.tmp 1,.di),(.tmp 2,.di),(.tmp 3,.clo 204 [])]
abbrev ARN:AF:=[(.obj 0,.own 55 U6)]
abbrev ARM:List RS:=[]
abbrev ATl:AF:=[(.obj 0,.own 55 U6),(.tmp 0,.own' 0),(.tmp 1,.di),(.tmp 2,.di),(.tmp 3,.clo 204 []),(.tmp 8,.di),(.tmp 9,.di)]
abbrev ATj:A0:=[(.exit 2,[(.obj 0,.own 55 U6),(.tmp 0,.own' 0),(.tmp 1,.di),(.tmp 2,.di),(.tmp 3,.clo 204 []),(.tmp 8,.di)])]
def ATh[Lk]:Ui→Option (Ui⊕U8⊕Unit):=Qa (([]:List (Int)):U4) BF
abbrev ATm:AF:=[(.obj 0,.own 55 U6),(.tmp 0,.own' 0),(.tmp 1,.di),(.tmp 2,.di),(.tmp 3,.clo 204 []),(.tmp 8,.di)]
abbrev ATk:A0:=[(.exit 0,[(.obj 0,.own 55 U6)])]
def ATi[Lk]:U8→Option (U8⊕Un⊕Unit):=Qb (([]:List (Int)):U4) BF
def AaP[Lk]:Uf→Option (Un):=AHo (([]:List (Int)):U4) BF
def AeS[Lk](v:Uf):Option (Un):=Ac4 (([]:List (Int)):U4) BF v
theorem Acw v:AeS v=AaP v:=AJ _
abbrev AFv:AF:=[(.tmp 0,.own 55 U6),(.tmp 1,.di),(.tmp 2,.di),(.tmp 3,.di),(.tmp 4,.clo 204 [])]
abbrev AFu:AF:=[(.obj 0,.own 55 U6)]
abbrev AFt:List RS:=[]
abbrev AKC:AF:=[(.obj 0,.own 55 U6),(.tmp 0,.own' 0),(.tmp 2,.di),(.tmp 3,.di),(.tmp 4,.clo 204 []),(.tmp 10,.di)]
abbrev AKB:A0:=[(.exit 0,[(.obj 0,.own 55 U6)]),(.ret,[(.obj 0,.own 55 U6)])]
def AKA[Lk]:U8→Option (U8⊕Un⊕Un⊕Unit):=Lg (([]:List (Int)):U4) BF
def AS7[Lk]:U8→Option (Un):=XJ (([]:List (Int)):U4) BF
def AYX[Lk](v:U8):Option (Un):=AKH (([]:List (Int)):U4) BF v
theorem AYW v:AYX v=AS7 v:=AJ _
abbrev AHv:AF:=[(.tmp 0,.own 55 U6),(.tmp 1,.di),(.tmp 2,.di),(.tmp 3,.clo 204 [])]
abbrev AHu:AF:=[(.obj 0,.own 55 U6)]
abbrev AHt:List RS:=[]
abbrev AMj:AF:=[(.obj 0,.own 55 U6),(.tmp 0,.own' 0),(.tmp 3,.clo 204 []),(.tmp 8,.di),(.tmp 9,.di),(.tmp 12,.di)]
abbrev AMh:A0:=[(.exit 2,[(.obj 0,.own 55 U6)])]
def AMe[Lk]:U8→Option (U8⊕Un⊕Unit):=MP (([]:List (Int)):U4) BF
abbrev AMk:AF:=[(.obj 0,.own 55 U6),(.tmp 0,.own' 0),(.tmp 3,.clo 204 []),(.tmp 8,.di),(.tmp 9,.di),(.tmp 10,.di),(.tmp 11,.di)]
abbrev AMi:A0:=[(.exit 0,[(.obj 0,.own 55 U6),(.tmp 0,.own' 0),(.tmp 3,.clo 204 []),(.tmp 8,.di),(.tmp 9,.di),(.tmp 10,.di)])]
def AMg[Lk]:Ui→Option (Ui⊕U8⊕Unit):=MQ (([]:List (Int)):U4) BF
def ATt[Lk]:Uf→Option (Un):=Xc (([]:List (Int)):U4) BF
def Aaf[Lk](v:Uf):Option (Un):=ATu (([]:List (Int)):U4) BF v
theorem Aae v:Aaf v=ATt v:=AJ _
abbrev ABf:AF:=[(.tmp 0,.own 55 U6),(.tmp 1,.di),(.tmp 2,.di),(.tmp 3,.clo 204 [])]
abbrev ABe:AF:=[(.obj 0,.own 55 U6)]
abbrev ABd:List RS:=[]
abbrev AEr:AF:=[(.obj 0,.own 55 U6),(.tmp 0,.own' 0),(.tmp 1,.di),(.tmp 8,.di),(.tmp 9,.box 1),(.cell 1 0,.dat (.int .u64)),(.tmp 10,.dat (.int .u64)),(.tmp 11,.di)]
abbrev AEq:A0:=[(.exit 0,[(.obj 0,.own 55 U6)])]
def AEp[Lk]:Uv→Option (Uv⊕Un⊕Unit):=HX (([]:List (Int)):U4) BF
def ANo[Lk]:Uf→Option (Un):=RE (([]:List (Int)):U4) BF
def ASX[Lk](v:Uf):Option (Un):=AIt (([]:List (Int)):U4) BF v
theorem AXY v:ASX v=ANo v:=AJ _
abbrev Sj:AF:=[(.tmp 0,.own 55 U6),(.tmp 1,.di),(.tmp 2,.di),(.tmp 3,.box 1),(.cell 1 0,.di),(.tmp 4,.clo 204 [])]
abbrev Si:AF:=[(.obj 0,.own 55 U6),(.obj 1,.box 1),(.cell 1 0,.di),(.tmp 0,.di),(.tmp 1,.di)]
abbrev Sh:List RS:=[.one,.one]
def AEI[Lk]:U8→Option (U8):=NK (([]:List (Int)):U4) BF
def AG5[Lk](v:U8):Option (U8):=NL (([]:List (Int)):U4) BF v
theorem AQP v:AG5 v=AEI v:=AJ _
abbrev Sv:AF:=[(.tmp 0,.own 55 U6),(.tmp 1,.di),(.tmp 2,.di),(.tmp 3,.di),(.tmp 4,.box 1),(.cell 1 0,.di),(.tmp 5,.clo 204 [])]
abbrev Su:AF:=[(.obj 0,.own 55 U6),(.obj 1,.box 1),(.cell 1 0,.di),(.tmp 0,.di)]
abbrev Ss:List RS:=[.one]
def AEK[Lk]:Ui→Option (Uf):=NR (([]:List (Int)):U4) BF
def AHK[Lk](v:Ui):Option (Uf):=NS (([]:List (Int)):U4) BF v
theorem AQp v:AHK v=AEK v:=AJ _
abbrev S2:AF:=[(.tmp 0,.own 55 U6),(.tmp 1,.di),(.tmp 2,.box 1),(.cell 1 0,.di),(.tmp 3,.clo 204 [])]
abbrev S1:AF:=[(.obj 0,.own 55 U6),(.obj 1,.box 1),(.cell 1 0,.di),(.tmp 0,.di)]
abbrev S0:List RS:=[.one]
def AEL[Lk]:Uf→Option (Uf):=NU (([]:List (Int)):U4) BF
def AHN[Lk](v:Uf):Option (Uf):=NV (([]:List (Int)):U4) BF v
theorem AQr v:AHN v=AEL v:=AJ _
abbrev ZL:AF:=[(.tmp 0,.own 55 U6),(.tmp 1,.di),(.tmp 2,.di),(.tmp 3,.clo 204 [])]
abbrev ZK:AF:=[(.obj 0,.own 55 U6),(.tmp 0,.di),(.tmp 1,.di)]
abbrev ZJ:List RS:=[.one,.one]
def AKk[Lk]:Uf→Option (Uf):=QB (([]:List (Int)):U4) BF
def APl[Lk](v:Uf):Option (Uf):=AGW (([]:List (Int)):U4) BF v
theorem AVL v:APl v=AKk v:=AJ _
abbrev APB:AF:=[(.tmp 0,.own 55 U6),(.tmp 1,.di),(.tmp 2,.di),(.tmp 3,.clo 204 [])]
abbrev APA:AF:=[(.obj 0,.own 55 U6)]
abbrev AO9:List RS:=[]
abbrev ATB:AF:=[(.obj 0,.own 55 U6),(.tmp 0,.own' 0),(.tmp 8,.di),(.tmp 9,.di)]
abbrev ATA:A0:=[(.exit 0,[(.obj 0,.own 55 U6)])]
def AS9[Lk]:Uf→Option (Uf⊕Un⊕Unit):=XN (([]:List (Int)):U4) BF
def AYl[Lk]:Uf→Option (Un):=AGF (([]:List (Int)):U4) BF
def Ady[Lk](v:Uf):Option (Un):=AcD (([]:List (Int)):U4) BF v
theorem Ab9 v:Ady v=AYl v:=AJ _
abbrev Oj:AF:=[(.tmp 0,.own 55 U6),(.tmp 1,.di),(.tmp 2,.di),(.tmp 3,.clo 204 [])]
abbrev Oi:AF:=[(.obj 0,.own 55 U6),(.tmp 0,.dat .bool)]
abbrev Oh:List RS:=[.one]
abbrev VM:AF:=[(.obj 0,.own 55 U6),(.tmp 0,.own' 0),(.tmp 1,.di),(.tmp 2,.di),(.tmp 3,.clo 204 []),(.tmp 9,.di),(.tmp 10,.di),(.tmp 12,.di)]
abbrev VI:A0:=[(.exit 6,[(.obj 0,.own 55 U6),(.tmp 0,.own' 0),(.tmp 1,.di),(.tmp 2,.di),(.tmp 3,.clo 204 []),(.tmp 9,.di),(.tmp 10,.di)])]
def VE[Lk]:Uv→Option (Uv⊕Ui⊕Unit):=Gf (([]:List (Int)):U4) BF
abbrev VN:AF:=[(.obj 0,.own 55 U6),(.tmp 0,.own' 0),(.tmp 1,.di),(.tmp 2,.di),(.tmp 3,.clo 204 []),(.tmp 9,.di),(.tmp 10,.di),(.tmp 11,.di)]
abbrev VJ:A0:=[(.exit 4,[(.obj 0,.own 55 U6),(.tmp 0,.own' 0),(.tmp 1,.di),(.tmp 2,.di),(.tmp 3,.clo 204 []),(.tmp 9,.di),(.tmp 10,.di)])]
def VF[Lk]:Uv→Option (Uv⊕Ui⊕Unit):=Gg (([]:List (Int)):U4) BF
abbrev VO:AF:=[(.obj 0,.own 55 U6),(.tmp 0,.own' 0),(.tmp 1,.di),(.tmp 2,.di),(.tmp 3,.clo 204 []),(.tmp 9,.di),(.tmp 10,.di)]
abbrev VK:A0:=[(.exit 2,[(.obj 0,.own 55 U6),(.tmp 0,.own' 0),(.tmp 1,.di),(.tmp 2,.di),(.tmp 3,.clo 204 []),(.tmp 9,.di),(.tmp 10,.di)])]
def VG[Lk]:Ui→Option (Ui⊕Ui⊕Unit):=Im (([]:List (Int)):U4) BF
abbrev VP:AF:=[(.obj 0,.own 55 U6),(.tmp 0,.own' 0),(.tmp 1,.di),(.tmp 2,.di),(.tmp 3,.clo 204 []),(.tmp 9,.di),(.tmp 10,.di)]
abbrev VL:A0:=[(.ret,[(.obj 0,.own 55 U6),(.tmp 8,.dat .bool)]),(.exit 0,[(.obj 0,.own 55 U6)])]
def VH[Lk]:Ui→Option (Ui⊕(List U4×Bool×Unit)⊕Un⊕Unit):=Cr (([]:List (Int)):U4) BF
def Zh[Lk]:Uf→Option ((List U4×Bool×Unit)):=KL (([]:List (Int)):U4) BF
def Zi[Lk](v:Uf):Option ((List U4×Bool×Unit)):=QG (([]:List (Int)):U4) BF v
theorem ALQ v:Zi v=Zh v:=AJ _
abbrev Sd:AF:=[(.tmp 0,.own 55 U6),(.tmp 1,.di),(.tmp 2,.di),(.tmp 3,.di),(.tmp 4,.clo 204 [])]
abbrev Sc:AF:=[(.obj 0,.own 55 U6),(.tmp 0,.di)]
abbrev Sb:List RS:=[.one]
abbrev Zt:AF:=[(.obj 0,.own 55 U6),(.tmp 0,.own' 0),(.tmp 1,.di),(.tmp 4,.clo 204 []),(.tmp 11,.di),(.tmp 12,.di)]
abbrev Zq:A0:=[(.exit 4,[(.obj 0,.own 55 U6),(.tmp 0,.own' 0),(.tmp 1,.di),(.tmp 4,.clo 204 []),(.tmp 11,.di),(.tmp 12,.di)])]
def Zn[Lk]:U8→Option Vj:=KM (([]:List (Int)):U4) BF
abbrev Zu:AF:=[(.obj 0,.own 55 U6),(.tmp 0,.own' 0),(.tmp 1,.di),(.tmp 4,.clo 204 []),(.tmp 11,.di),(.tmp 12,.di)]
abbrev Zr:A0:=[(.exit 2,[(.obj 0,.own 55 U6),(.tmp 0,.own' 0),(.tmp 1,.di),(.tmp 4,.clo 204 []),(.tmp 11,.di),(.tmp 12,.di)])]
def Zo[Lk]:U8→Option Vj:=KN (([]:List (Int)):U4) BF
abbrev Zv:AF:=[(.obj 0,.own 55 U6),(.tmp 0,.own' 0),(.tmp 1,.di),(.tmp 4,.clo 204 []),(.tmp 11,.di),(.tmp 12,.di)]
abbrev Zs:A0:=[(.exit 0,[(.obj 0,.own 55 U6),(.tmp 11,.di)])]
def Zp[Lk]:U8→Option (U8⊕Vd⊕Unit):=KO (([]:List (Int)):U4) BF
def AEF[Lk]:U8→Option (Vd):=NI (([]:List (Int)):U4) BF
def AG0[Lk](v:U8):Option (Vd):=XT (([]:List (Int)):U4) BF v
theorem AQH v:AG0 v=AEF v:=AJ _
end
end Go.Pev
end
section
namespace Go.Pev
noncomputable section
attribute [local irreducible] MU JM N0 LJ AWb AWc AWd P2 Wi We YU JO AP many IntKind.wrap AM An AL A5 Bl Df Jt AE BV Bx imax AS Ag
abbrev AGr:AF:=[(.tmp 0,.own 55 U6),(.tmp 1,.di),(.tmp 2,.di),(.tmp 3,.di),(.tmp 4,.clo 204 [])]
abbrev AGq:AF:=[(.obj 0,.own 55 U6),(.tmp 0,.di),(.tmp 1,.dat .bool)]
abbrev AGp:List RS:=[.one,.one]
abbrev ALD:AF:=[(.obj 0,.own 55 U6),(.tmp 0,.own' 0),(.tmp 1,.di),(.tmp 4,.clo 204 []),(.tmp 12,.di),(.tmp 13,.di)]
abbrev AK8:A0:=[(.exit 8,[(.obj 0,.own 55 U6),(.tmp 0,.own' 0),(.tmp 1,.di),(.tmp 4,.clo 204 []),(.tmp 12,.di),(.tmp 13,.di)])]
def AKz[Lk]:U8→Option Vj:=QI (([]:List (Int)):U4) BF
abbrev ALE:AF:=[(.obj 0,.own 55 U6),(.tmp 0,.own' 0),(.tmp 1,.di),(.tmp 4,.clo 204 []),(.tmp 12,.di),(.tmp 13,.di)]
abbrev AK9:A0:=[(.exit 6,[(.obj 0,.own 55 U6),(.tmp 0,.own' 0),(.tmp 1,.di),(.tmp 4,.clo 204 []),(.tmp 12,.di),(.tmp 13,.di)])]
def AK1[Lk]:U8→Option Vj:=QJ (([]:List (Int)):U4) BF
abbrev ALF:AF:=[(.obj 0,.own 55 U6),(.tmp 0,.own' 0),(.tmp 1,.di),(.tmp 4,.clo 204 []),(.tmp 12,.di),(.tmp 13,.di)]
abbrev ALA:A0:=[(.exit 4,[(.obj 0,.own 55 U6),(.tmp 0,.own' 0),(.tmp 1,.di),(.tmp 13,.di)])]
def AK3[Lk]:U8→Option (U8⊕Uf⊕Unit):=QK (([]:List (Int)):U4) BF
abbrev ALG:AF:=[(.obj 0,.own 55 U6),(.tmp 0,.own' 0),(.tmp 1,.di),(.tmp 4,.clo 204 []),(.tmp 12,.di),(.tmp 13,.di)]
abbrev ALB:A0:=[(.exit 2,[(.obj 0,.own 55 U6),(.tmp 0,.own' 0),(.tmp 1,.di),(.tmp 4,.clo 204 []),(.tmp 12,.di),(.tmp 13,.di)])]
def AK5[Lk]:U8→Option Vj:=QL (([]:List (Int)):U4) BF
abbrev ALH:AF:=[(.obj 0,.own 55 U6),(.tmp 0,.own' 0),(.tmp 1,.di),(.tmp 4,.clo 204 []),(.tmp 12,.di),(.tmp 13,.di)]
abbrev ALC:A0:=[(.exit 0,[(.obj 0,.own 55 U6),(.tmp 0,.own' 0),(.tmp 1,.di),(.tmp 4,.clo 204 []),(.tmp 12,.di),(.tmp 13,.di)])]
def AK7[Lk]:U8→Option Vj:=QM (([]:List (Int)):U4) BF
def ATQ[Lk]:U8→Option ((List U4×Int×Bool×Unit)):=XS (([]:List (Int)):U4) BF
def AZg[Lk](v:U8):Option ((List U4×Int×Bool×Unit)):=AEE (([]:List (Int)):U4) BF v
theorem AZf v:AZg v=ATQ v:=AJ _
abbrev ZX:AF:=[(.tmp 0,.own 55 U6),(.tmp 1,.di),(.tmp 2,.di),(.tmp 3,.di),(.tmp 4,.clo 204 [])]
abbrev ZW:AF:=[(.obj 0,.own 55 U6)]
abbrev ZV:List RS:=[]
abbrev ATL:AF:=[(.obj 0,.own 55 U6),(.tmp 0,.own' 0),(.tmp 1,.di),(.tmp 2,.di),(.tmp 3,.di),(.tmp 4,.clo 204 []),(.tmp 10,.dat .bool),(.tmp 11,.dat .bool)]
abbrev ATK:A0:=[(.ret,[(.obj 0,.own 55 U6)])]
def ATJ[Lk](self:U8→Option (Un)):(List U4×Int×Int×Int×Bool×Bool×Unit)→Option ((List U4×Int×Int×Int×Bool×Bool×Unit)⊕Un⊕Unit):=QF (([]:List (Int)):U4) BF self
def Ad4[Lk](self:U8→Option (Un)):U8→Option (Un):=AGn (([]:List (Int)):U4) BF self
def ZY[Lk]:Nat→U8→Option (Un):=Lu (([]:List (Int)):U4) BF
def AcO[Lk](v:U8):Option (Un):=AcS (([]:List (Int)):U4) BF v
theorem AcN v:AcO v=ZY 100 v:=AJ _
abbrev AFp:AF:=[(.tmp 0,.own 55 U6),(.tmp 1,.clo 204 [])]
abbrev AFo:AF:=[(.obj 0,.own 55 U6)]
abbrev AFn:List RS:=[]
def AS6[Lk]:Un→Option (Un):=XH (([]:List (Int)):U4) BF
def AJ5[Lk](v:Un):Option (Un):=AYT (([]:List (Int)):U4) BF v
theorem AYR v:AJ5 v=AS6 v:=AJ _
abbrev AFK:AF:=[(.tmp 0,.dat Us),(.tmp 1,.dat U6),(.tmp 2,.dat Uk)]
abbrev AFJ:AF:=[(.tmp 0,.di),(.tmp 1,.own 55 U6)]
abbrev AFI:List RS:=[.agg 2]
abbrev AJb:AF:=[(.tmp 3,.box 2),(.cell 0 0,.di),(.cell 0 1,.dat Uk),(.tmp 6,.box 2),(.cell 1 0,.di),(.cell 1 1,.nil U6),(.tmp 7,.own 55 U6),(.tmp 29,.dat Uk),(.tmp 30,.di),(.tmp 31,.di)]
abbrev AJZ:A0:=[(.exit 2,[(.tmp 3,.box 2),(.cell 0 0,.di),(.cell 0 1,.dat Uk),(.tmp 6,.box 2),(.cell 1 0,.di),(.cell 1 1,.nil U6),(.tmp 7,.own 55 U6)])]
def Hc[Lk]:(Int×List U4×Int×List U4×List U4×Int×Int×Unit)→Option ((Int×List U4×Int×List U4×List U4×Int×Int×Unit)⊕(Int×List U4×Int×List U4×Unit)⊕Unit):=fun(a0,a1,a2,a3,a4,a5,a6,_)=>
 match(ilt a6 a5)with
 |true=>match idx a4 a6 with|none=>none|some x0=>match Yn (x0,())with|none=>none|some (y1,_)=>match(fits ((AM a3)+(AM ([y1]:List U4))))with
  |true=>some (.inl (a0,a1,a2,(A5 a3 ([y1]:List U4)),a4,a5,(IntKind.wrap .i64 (a6+1)),()))
  |false=>none
 |false=>some (.inr (.inl (a0,a1,a2,a3,())))
abbrev AJc:AF:=[(.tmp 1,.dat U6),(.tmp 2,.dat Uk),(.tmp 3,.box 2),(.cell 0 0,.di),(.cell 0 1,.dat Uk),(.tmp 6,.box 2),(.cell 1 0,.di),(.cell 1 1,.nil U6),(.tmp 7,.own 55 U6),(.tmp 13,.dat Uk),(.tmp 14,.di),(.tmp 15,.di)]
abbrev AJa:A0:=[(.exit 0,[(.tmp 2,.dat Uk),(.tmp 3,.box 2),(.cell 0 0,.di),(.cell 0 1,.dat Uk),(.tmp 6,.box 2),(.cell 1 0,.di),(.cell 1 1,.nil U6),(.tmp 7,.own 55 U6)])]
def Hd[Lk]:Vl→Option (Vl⊕(List U4×Int×List U4×Int×List U4×Unit)⊕Unit):=fun(a0,a1,a2,a3,a4,a5,a6,a7,a8,_)=>
 match(ilt a8 a7)with
 |true=>match idx a6 a8 with|none=>none|some x0=>match Ez (a0,a8,())with|none=>none|some (y1,_)=>match(!y1)with
  |true=>match(fits ((AM a5)+(AM ([x0]:List U4))))with
   |true=>some (.inl (a0,a1,a2,a3,a4,(A5 a5 ([x0]:List U4)),a6,a7,(IntKind.wrap .i64 (a8+1)),()))
   |false=>none
  |false=>some (.inl (a0,a1,a2,a3,a4,a5,a6,a7,(IntKind.wrap .i64 (a8+1)),()))
 |false=>some (.inr (.inl (a1,a2,a3,a4,a5,())))
def XC[Lk]:(Uj×List Int×List U4×Unit)→Option ((Int×List U4×Unit)):=fun(a0,a1,a2,_)=>
 match AR Hd many (a1,a2,a0.1,a0.2.1,0,([]:List U4),a0.2.1,(AM a0.2.1),0,())with|none=>none|some r=>match r with
 |.inl (o0,o1,o2,o3,o4,_)=>match AR Hc many (o1,o2,o3,o4,o0,(AM o0),0,())with|none=>none|some r=>match r with
  |.inl (o5,o6,o7,o8,_)=>match AJ5 (o8,())with|none=>none|some (y9,_)=>some (o5,y9,())
  |.inr _=>none
 |.inr _=>none
def AJe[Lk]:=fun v=>Lk.f (XC v)
theorem AJd v:AJe v=XC v:=AJ _
abbrev AFi:AF:=[(.tmp 0,.dat Us),(.tmp 1,.di),(.tmp 2,.di)]
abbrev AFh:AF:=[(.tmp 0,.di),(.tmp 1,.dat Uk),(.tmp 2,.di)]
abbrev AFg:List RS:=[.agg 2,.one]
def G9[Lk]:(Uj×Int×Int×Unit)→Option (V1):=fun(a0,a1,a2,_)=>
 match asked ((a0.1,(a0.2.1,())),a1,a2,())with|none=>none|some (y0,_)=>match(!(ieq y0 0))with
 |true=>some (a0.1,a0.2.1,y0,())
 |false=>match OT ((a0.1,(a0.2.1,())),a1,())with|none=>none|some (y1,_)=>match OT ((a0.1,(a0.2.1,())),a2,())with|none=>none|some (y2,_)=>match(ieq y1 y2)with
 |true=>some (a0.1,a0.2.1,5,())
 |false=>match idx a0.2.1 y1 with|none=>none|some x3=>match AD3 (x3,a1,())with|none=>none|some (y4,y5,_)=>match idx a0.2.1 y2 with|none=>none|some x6=>match AD3 (x6,a2,())with|none=>none|some (y7,y8,_)=>match B4 y4 0 1 with|none=>none|some x9=>match AUl (a0.1,a1,a2,())with|none=>none|some (y10,_)=>match AUl (a0.1,a2,a1,())with|none=>none|some (y11,_)=>match B4 y4 1 (AM y4)with|none=>none|some x12=>match I5 (([(Df 0 (AE (AM x9)) y4),([y10]:List (Int)),y7,([y11]:List (Int)),(Df 1 (AE (AM x12)) y4)]:List U4),())with|none=>none|some (y13,_)=>match AJe ((a0.1,(a0.2.1,())),([y1,y2]:List (Int)),([y13]:List U4),())with|none=>none|some (y14,y15,_)=>some (y14,y15,0,())
def Le[Lk]:=fun v=>Lk.f (G9 v)
theorem Hk v:Le v=G9 v:=AJ _
abbrev GA:AF:=[(.tmp 0,.dat U6),(.cap 1 0,.box 2),(.cell 0 0,.di),(.cell 0 1,.dat Uk),(.tmp 1,.clo 155 [(0,0)])]
abbrev F9:AF:=[(.obj 0,.box 2),(.cell 0 0,.di),(.cell 0 1,.dat Uk),(.tmp 0,.di)]
abbrev F8:List RS:=[.one]
abbrev Iw:AF:=[(.obj 0,.box 2),(.cell 0 0,.di),(.cell 0 1,.dat Uk),(.tmp 0,.dat U6),(.tmp 1,.clo 155 [(0,0)]),(.tmp 7,.di),(.tmp 8,.di)]
abbrev Iv:A0:=[(.ret,[(.obj 0,.box 2),(.cell 0 0,.di),(.cell 0 1,.dat Uk),(.tmp 4,.di)]),(.exit 0,[(.obj 0,.box 2),(.cell 0 0,.di),(.cell 0 1,.dat Uk)])]
def Bh[Lk]:(Int×List U4×List Int×Int×Int×Unit)→Option ((Int×List U4×List Int×Int×Int×Unit)⊕V1⊕(Int×List U4×Unit)⊕Unit):=fun(a0,a1,a2,a3,a4,_)=>
 match(ilt a4 a3)with
 |true=>match idx a2 a4 with|none=>none|some x0=>match(ilt x0 0)with
  |true=>some (.inr (.inl (a0,a1,a4,())))
  |false=>match(ile a0 x0)with
  |true=>some (.inr (.inl (a0,a1,a4,())))
  |false=>some (.inl (a0,a1,a2,a3,(IntKind.wrap .i64 (a4+1)),()))
 |false=>some (.inr (.inr (.inl (a0,a1,()))))
def Dx[Lk]:V7→Option (V1):=fun(a0,a1,a2,_)=>
 match AR Bh many (a1,a2,a0,(AM a0),0,())with|none=>none|some r=>match r with
 |.inl (o0,o1,o2,_)=>some (o0,o1,o2,())
 |.inr r=>match r with
 |.inl (o3,o4,_)=>some (o3,o4,(-1:Int),())
 |.inr _=>none
def FI[Lk]:=fun v=>Lk.f (Dx v)
theorem Ix v:FI v=Dx v:=AJ _
abbrev FU:AF:=[(.tmp 0,.dat U6),(.cap 1 0,.box 2),(.cell 0 0,.di),(.cell 0 1,.dat Uk),(.tmp 1,.clo 155 [(0,0)])]
abbrev FT:AF:=[(.obj 0,.box 2),(.cell 0 0,.di),(.cell 0 1,.dat Uk),(.tmp 0,.dat .bool)]
abbrev FQ:List RS:=[.one]
def DM[Lk]:V7→Option ((Int×List U4×Bool×Unit)):=fun(a0,a1,a2,_)=>
 match FI (a0,a1,a2,())with|none=>none|some (y0,y1,y2,_)=>some (y0,y1,(ile 0 y2),())
def C9[Lk]:=fun v=>Lk.f (DM v)
theorem IT v:C9 v=DM v:=AJ _
abbrev AAy:AF:=[(.tmp 0,.dat Us),(.tmp 1,.dat U6)]
abbrev AAx:AF:=[(.tmp 0,.di)]
abbrev AAw:List RS:=[.one]
def Qu[Lk]:(Uj×List Int×Unit)→Option (U9):=fun(a0,a1,_)=>
 match OS ((a0.1,(a0.2.1,())),())with|none=>none|some (y0,_)=>match(!y0)with
 |true=>some (1,())
 |false=>match C9 (a1,a0.1,a0.2.1,())with|none=>none|some (y1,y2,y3,_)=>match y3 with
 |true=>some (10,())
 |false=>some (0,())
def Kh[Lk]:=fun v=>Lk.f (Qu v)
theorem AEi v:Kh v=Qu v:=AJ _
abbrev ARy:AF:=[(.tmp 0,.dat Uy)]
abbrev ARx:AF:=[(.tmp 0,.own 3 U0)]
abbrev ARw:List RS:=[.one]
abbrev AT2:AF:=[(.tmp 3,.own 3 U0),(.tmp 6,.dat Uy),(.tmp 7,.di),(.tmp 8,.di)]
abbrev AT1:A0:=[(.exit 0,[(.tmp 3,.own 3 U0)])]
def Kk[Lk]:(List Int×List U3×Int×Int×Unit)→Option ((List Int×List U3×Int×Int×Unit)⊕Ub⊕Unit):=fun(a0,a1,a2,a3,_)=>
 match(ilt a3 a2)with
 |true=>match idx a1 a3 with|none=>none|some x0=>match(fits ((AM a0)+(AM ([x0.1,x0.2.1]:List (Int)))))with
  |true=>some (.inl ((A5 a0 ([x0.1,x0.2.1]:List (Int))),a1,a2,(IntKind.wrap .i64 (a3+1)),()))
  |false=>none
 |false=>some (.inr (.inl (a0,())))
def AIP[Lk]:V2→Option (Ub):=fun(a0,_)=>
 match AR Kk many (([]:List (Int)),a0,(AM a0),0,())with|none=>none|some r=>match r with
 |.inl (o0,_)=>some (o0,())
 |.inr _=>none
def ends[Lk]:=fun v=>Lk.f (AIP v)
theorem AT3 v:ends v=AIP v:=AJ _
abbrev PL:AF:=[(.tmp 0,.dat Us),(.tmp 1,.dat Uy),(.tmp 2,.clo 161 [])]
abbrev PK:AF:=[(.tmp 0,.dat Us),(.tmp 1,.own 4 .bool),(.tmp 2,.di)]
abbrev PJ:List RS:=[.one,.one,.one]
abbrev WD:AF:=[(.tmp 2,.clo 161 []),(.tmp 3,.box 2),(.cell 0 0,.di),(.cell 0 1,.dat Uk),(.tmp 6,.box 2),(.cell 1 0,.di),(.cell 1 1,.nil U6),(.tmp 10,.own 4 .bool),(.tmp 23,.dat Uy),(.tmp 24,.di),(.tmp 25,.di)]
abbrev WC:A0:=[(.exit 0,[(.tmp 3,.box 2),(.cell 0 0,.di),(.cell 0 1,.dat Uk),(.tmp 6,.box 2),(.cell 1 0,.di),(.cell 1 1,.nil U6),(.tmp 10,.own 4 .bool)])]
def Bz[Lk]:(Int×List U4×Int×List Bool×List U3×Int×Int×Unit)→Option ((Int×List U4×Int×List Bool×List U3×Int×Int×Unit)⊕(Int×List U4×Int×List Bool×Unit)⊕Unit):=fun(a0,a1,a2,a3,a4,a5,a6,_)=>
 match(ilt a6 a5)with
 |true=>match idx a4 a6 with|none=>none|some x0=>match Le ((a0,(a1,())),x0.1,x0.2.1,())with|none=>none|some (y1,y2,y3,_)=>match(fits ((AM a3)+(AM ([(ieq y3 0)]:List (Bool)))))with
  |true=>some (.inl (y1,y2,a2,(A5 a3 ([(ieq y3 0)]:List (Bool))),a4,a5,(IntKind.wrap .i64 (a6+1)),()))
  |false=>none
 |false=>some (.inr (.inl (a0,a1,a2,a3,())))
def IK[Lk]:(Uj×List U3×Unit)→Option ((Uj×List Bool×Int×Unit)):=fun(a0,a1,_)=>
 match ends (a1,())with|none=>none|some (y0,_)=>match Kh ((a0.1,(a0.2.1,())),y0,())with|none=>none|some (y1,_)=>match(!(ieq y1 0))with
 |true=>some ((a0.1,(a0.2.1,())),([]:List (Bool)),y1,())
 |false=>match AR Bz many (a0.1,a0.2.1,0,([]:List (Bool)),a1,(AM a1),0,())with|none=>none|some r=>match r with
 |.inl (o2,o3,o4,o5,_)=>some ((o2,(o3,())),o5,0,())
 |.inr _=>none
def Qz[Lk]:=fun v=>Lk.f (IK v)
theorem MY v:Qz v=IK v:=AJ _
abbrev AA3:AF:=[(.tmp 0,.dat Us),(.tmp 1,.dat Uy)]
abbrev AA2:AF:=[(.tmp 0,.dat Us),(.tmp 1,.own 4 .bool),(.tmp 2,.di)]
abbrev AA1:List RS:=[.one,.one,.one]
def MT[Lk]:(Uj×List U3×Unit)→Option ((Uj×List Bool×Int×Unit)):=fun(a0,a1,_)=>
 match Qz ((a0.1,(a0.2.1,())),a1,())with|none=>none|some (y0,y1,y2,_)=>some ((y0.1,(y0.2.1,())),y1,y2,())
def AIJ[Lk]:=fun v=>Lk.f (MT v)
theorem TT v:AIJ v=MT v:=AJ _
abbrev Aaz:AF:=[(.tmp 0,.di),(.tmp 1,.dat Uy)]
abbrev Aay:AF:=[(.tmp 0,.dat Us),(.tmp 1,.di)]
abbrev Aax:List RS:=[.one,.one]
def ANC[Lk]:(Int×List U3×Unit)→Option (Vc):=fun(a0,a1,_)=>
 match AJx (a0,())with|none=>none|some (y0,y1,y2,_)=>match(!(ieq y2 0))with
 |true=>some ((0,(([]:List U4),())),y2,())
 |false=>match AIJ ((y0,(y1,())),a1,())with|none=>none|some (y3,y4,y5,_)=>match(!(ieq y5 0))with
 |true=>some ((0,(([]:List U4),())),y5,())
 |false=>some ((y3.1,(y3.2.1,())),0,())
def fof[Lk]:=fun v=>Lk.f (ANC v)
theorem ARn v:fof v=ANC v:=AJ _
abbrev AZz:AF:=[(.tmp 0,.dat U6)]
abbrev AZx:AF:=[(.tmp 0,.di)]
abbrev AZv:List RS:=[.one]
abbrev AZy:AF:=[(.tmp 3,.di),(.tmp 6,.dat U6),(.tmp 7,.di),(.tmp 8,.di)]
abbrev AZw:A0:=[(.ret,[(.tmp 2,.di)]),(.exit 0,[(.tmp 3,.di)])]
def Oo[Lk]:(Int×List Int×Int×Int×Unit)→Option ((Int×List Int×Int×Int×Unit)⊕U9⊕U9⊕Unit):=fun(a0,a1,a2,a3,_)=>
 match(ilt a3 a2)with
 |true=>match idx a1 a3 with|none=>none|some x0=>match(!(ieq x0 a0))with
  |true=>some (.inr (.inl (x0,())))
  |false=>some (.inl (a0,a1,a2,(IntKind.wrap .i64 (a3+1)),()))
 |false=>some (.inr (.inr (.inl (a0,()))))
def ATR[Lk]:Ub→Option (U9):=fun(a0,_)=>
 match AR Oo many (0,a0,(AM a0),0,())with|none=>none|some r=>match r with
 |.inl (o0,_)=>some (o0,())
 |.inr r=>match r with
 |.inl (o1,_)=>some (o1,())
 |.inr _=>none
def orI[Lk]:=fun v=>Lk.f (ATR v)
theorem AZ1 v:orI v=ATR v:=AJ _
abbrev AAM:AF:=[(.tmp 0,.di)]
abbrev AAL:AF:=[(.tmp 0,.dat .bool)]
abbrev AAK:List RS:=[.one]
def MJ[Lk]:U9→Option (Ug):=fun(a0,_)=>
 match(ile 1 a0)with
 |true=>some ((ile a0 64),())
 |false=>some (false,())
def S8[Lk]:=fun v=>Lk.f (MJ v)
theorem S7 v:S8 v=MJ v:=AJ _
abbrev AQy:AF:=[(.tmp 0,.di)]
abbrev AQx:AF:=[(.tmp 0,.di)]
abbrev AQw:List RS:=[.one]
def AQz[Lk]:U9→Option (U9):=fun(a0,_)=>
 match S8 (a0,())with|none=>none|some (y0,_)=>match(!y0)with
 |true=>some (0,())
 |false=>match bitsLen ((IntKind.wrap .u64 (IntKind.wrap .i64 (a0-1))),())with|none=>none|some (y1,_)=>some (y1,())
def AC6[Lk]:=fun v=>Lk.f (AQz v)
theorem Aci v:AC6 v=AQz v:=AJ _
abbrev O0:AF:=[(.tmp 0,.dat U2),(.tmp 1,.dat U2)]
abbrev Oz:AF:=[(.tmp 0,.di)]
abbrev Oy:List RS:=[.one]
def H5[Lk]:(U1×U1×Unit)→Option (U9):=fun(a0,a1,_)=>
 match FV (a0.1,a1.1,())with|none=>none|some (y0,_)=>match FV (a0.2.1,a1.2.1,())with|none=>none|some (y1,_)=>match orI (([y0,y1]:List (Int)),())with|none=>none|some (y2,_)=>some (y2,())
def Da[Lk]:=fun v=>Lk.f (H5 v)
theorem MK v:Da v=H5 v:=AJ _
abbrev AAH:AF:=[(.tmp 0,.dat Uc),(.tmp 1,.di)]
abbrev AAG:AF:=[(.tmp 0,.own 42 U5)]
abbrev AAF:List RS:=[.one]
abbrev AEN:AF:=[(.tmp 1,.di),(.tmp 5,.own 42 U5),(.tmp 9,.dat Uq),(.tmp 10,.di),(.tmp 11,.di)]
abbrev AEM:A0:=[(.exit 0,[(.tmp 5,.own 42 U5)])]
def Cm[Lk]:(Int×List U3×List U1×Int×Int×Unit)→Option ((Int×List U3×List U1×Int×Int×Unit)⊕V2⊕Unit):=fun(a0,a1,a2,a3,a4,_)=>
 match(ilt a4 a3)with
 |true=>match idx a2 a4 with|none=>none|some x0=>match x0.2.2.2.1 with
  |true=>match(ile a0 x0.2.2.1)with
   |true=>match(fits ((AM a1)+(AM ([(x0.1,(x0.2.1,()))]:List U3))))with
    |true=>some (.inl (a0,(A5 a1 ([(x0.1,(x0.2.1,()))]:List U3)),a2,a3,(IntKind.wrap .i64 (a4+1)),()))
    |false=>none
   |false=>some (.inl (a0,a1,a2,a3,(IntKind.wrap .i64 (a4+1)),()))
  |false=>some (.inl (a0,a1,a2,a3,(IntKind.wrap .i64 (a4+1)),()))
 |false=>some (.inr (.inl (a1,())))
def MG[Lk]:(Ud×Int×Unit)→Option (V2):=fun(a0,a1,_)=>
 match AR Cm many (a1,([]:List U3),a0.2.1,(AM a0.2.1),0,())with|none=>none|some r=>match r with
 |.inl (o0,_)=>some (o0,())
 |.inr _=>none
def Ow[Lk]:=fun v=>Lk.f (MG v)
theorem S6 v:Ow v=MG v:=AJ _
abbrev AAP:AF:=[(.tmp 0,.dat Uc)]
abbrev AAO:AF:=[(.tmp 0,.dat .bool)]
abbrev AAN:List RS:=[.one]
abbrev AEP:AF:=[(.tmp 1,.box 2),(.cell 0 0,.di),(.cell 0 1,.dat Uq),(.tmp 3,.di),(.tmp 23,.dat Uq),(.tmp 24,.di),(.tmp 25,.di)]
abbrev AEO:A0:=[(.ret,[(.tmp 2,.dat .bool)]),(.exit 0,[(.tmp 1,.box 2),(.cell 0 0,.di),(.cell 0 1,.dat Uq)])]
def Ds[Lk]:(Int×List U1×Int×List U1×Int×Int×Unit)→Option ((Int×List U1×Int×List U1×Int×Int×Unit)⊕Ug⊕(Int×List U1×Unit)⊕Unit):=fun(a0,a1,a2,a3,a4,a5,_)=>
 match(ilt a5 a4)with
 |true=>match idx a3 a5 with|none=>none|some x0=>match(ilt x0.1 0)with
  |true=>some (.inr (.inl (false,())))
  |false=>match(ile x0.2.1 x0.1)with
  |true=>some (.inr (.inl (false,())))
  |false=>match(ile a0 x0.2.1)with
  |true=>some (.inr (.inl (false,())))
  |false=>match(ilt x0.2.2.1 0)with
  |true=>some (.inr (.inl (false,())))
  |false=>match(ilt a2 x0.2.2.1)with
  |true=>some (.inr (.inl (false,())))
  |false=>match(ilt 0 a5)with
  |true=>match idx a1 (IntKind.wrap .i64 (a5-1))with|none=>none|some x1=>match Da ((x1.1,(x1.2.1,(x1.2.2.1,(x1.2.2.2.1,())))),(x0.1,(x0.2.1,(x0.2.2.1,(x0.2.2.2.1,())))),())with|none=>none|some (y2,_)=>match(ile 0 y2)with
   |true=>some (.inr (.inl (false,())))
   |false=>some (.inl (a0,a1,a2,a3,a4,(IntKind.wrap .i64 (a5+1)),()))
  |false=>some (.inl (a0,a1,a2,a3,a4,(IntKind.wrap .i64 (a5+1)),()))
 |false=>some (.inr (.inr (.inl (a0,a1,()))))
def H0[Lk]:(Ud×Unit)→Option (Ug):=fun(a0,_)=>
 match S8 (a0.1,())with|none=>none|some (y0,_)=>match(!y0)with
 |true=>some (false,())
 |false=>match(ilt 400 (AM a0.2.1))with
 |true=>some (false,())
 |false=>match AC6 (a0.1,())with|none=>none|some (y1,_)=>match AR Ds many (a0.1,a0.2.1,y1,a0.2.1,(AM a0.2.1),0,())with|none=>none|some r=>match r with
 |.inl (o2,_)=>some (o2,())
 |.inr r=>match r with
 |.inl (o3,o4,_)=>match Ow ((o3,(o4,())),0,())with|none=>none|some (y5,_)=>match fof (o3,y5,())with|none=>none|some (y6,y7,_)=>match(ieq y7 0)with
  |true=>some ((ieq (AM y6.2.1) (IntKind.wrap .i64 (o3-(AM y5)))),())
  |false=>some (false,())
 |.inr _=>none
def Fv[Lk]:=fun v=>Lk.f (H0 v)
theorem Jf v:Fv v=H0 v:=AJ _
abbrev AAZ:AF:=[(.tmp 0,.dat Uc)]
abbrev AAY:AF:=[(.tmp 0,.own 42 U5)]
abbrev AAX:List RS:=[.one]
abbrev AET:AF:=[(.tmp 3,.own 42 U5),(.tmp 10,.dat Uq),(.tmp 11,.di),(.tmp 12,.di)]
abbrev AES:A0:=[(.exit 0,[(.tmp 3,.own 42 U5)])]
def Fx[Lk]:(List U3×List U1×Int×Int×Unit)→Option ((List U3×List U1×Int×Int×Unit)⊕V2⊕Unit):=fun(a0,a1,a2,a3,_)=>
 match(ilt a3 a2)with
 |true=>match idx a1 a3 with|none=>none|some x0=>match(fits ((AM a0)+(AM ([(x0.1,(x0.2.1,()))]:List U3))))with
  |true=>some (.inl ((A5 a0 ([(x0.1,(x0.2.1,()))]:List U3)),a1,a2,(IntKind.wrap .i64 (a3+1)),()))
  |false=>none
 |false=>some (.inr (.inl (a0,())))
def QV[Lk]:(Ud×Unit)→Option (V2):=fun(a0,_)=>
 match Fv ((a0.1,(a0.2.1,())),())with|none=>none|some (y0,_)=>match(!y0)with
 |true=>some (([]:List U3),())
 |false=>match AR Fx many (([]:List U3),a0.2.1,(AM a0.2.1),0,())with|none=>none|some r=>match r with
 |.inl (o1,_)=>some (o1,())
 |.inr _=>none
def AAb[Lk]:=fun v=>Lk.f (QV v)
theorem AEU v:AAb v=QV v:=AJ _
abbrev Mi:AF:=[(.tmp 0,.di),(.tmp 1,.dat Uy)]
abbrev Mh:AF:=[(.tmp 0,.own 3 U0)]
abbrev Mg:List RS:=[.one]
abbrev Q9:AF:=[(.tmp 0,.di),(.tmp 1,.dat Uy),(.tmp 5,.own 3 U0),(.tmp 7,.dat .bool),(.tmp 8,.di)]
abbrev Q6:A0:=[(.exit 4,[(.tmp 0,.di),(.tmp 1,.dat Uy),(.tmp 5,.own 3 U0),(.tmp 7,.dat .bool)])]
def C2[Lk]:(Int×List U3×List Int×Bool×Int×Unit)→Option ((Int×List U3×List Int×Bool×Int×Unit)⊕Vm⊕Unit):=fun(a0,a1,a2,a3,a4,_)=>
 match(ilt a4 (AM a1))with
 |true=>match idx a1 a4 with|none=>none|some x0=>match idx a1 a4 with|none=>none|some x1=>match(ilt x0.1 0)with
  |true=>some (.inl (a0,a1,a2,a3,(IntKind.wrap .i64 (a4+1)),()))
  |false=>match(ilt x1.2.1 0)with
  |true=>some (.inl (a0,a1,a2,a3,(IntKind.wrap .i64 (a4+1)),()))
  |false=>match(ile a0 x0.1)with
  |true=>some (.inl (a0,a1,a2,a3,(IntKind.wrap .i64 (a4+1)),()))
  |false=>match(ile a0 x1.2.1)with
  |true=>some (.inl (a0,a1,a2,a3,(IntKind.wrap .i64 (a4+1)),()))
  |false=>match idx a2 x0.1 with|none=>none|some x2=>match idx a2 x1.2.1 with|none=>none|some x3=>match(ieq (AL a2 (AE x0.1) 0) (AL a2 (AE x1.2.1) 0))with
  |true=>some (.inl (a0,a1,a2,a3,(IntKind.wrap .i64 (a4+1)),()))
  |false=>match idx a2 x0.1 with|none=>none|some x4=>match idx a2 x1.2.1 with|none=>none|some x5=>match idx a2 x0.1 with|none=>none|some x6=>match idx (An a2 (AE x0.1) (Bx (AL a2 (AE x0.1) 0) (AL a2 (AE x1.2.1) 0))) x1.2.1 with|none=>none|some x7=>some (.inl (a0,a1,(An (An a2 (AE x0.1) (Bx (AL a2 (AE x0.1) 0) (AL a2 (AE x1.2.1) 0))) (AE x1.2.1) (Bx (AL a2 (AE x0.1) 0) (AL a2 (AE x1.2.1) 0))),true,(IntKind.wrap .i64 (a4+1)),()))
 |false=>some (.inr (.inl (a0,a1,a2,a3,())))
abbrev RA:AF:=[(.tmp 0,.di),(.tmp 1,.dat Uy),(.tmp 5,.own 3 U0),(.tmp 7,.dat .bool)]
abbrev Q7:A0:=[(.exit 2,[(.tmp 5,.own 3 U0)])]
def Dy[Lk]:Vm→Option (Vm⊕Ub⊕Unit):=fun(a0,a1,a2,a3,_)=>
 match a3 with
 |true=>match AR C2 many (a0,a1,a2,false,0,())with|none=>none|some r=>match r with
  |.inl (o0,o1,o2,o3,_)=>some (.inl (o0,o1,o2,o3,()))
  |.inr _=>none
 |false=>some (.inr (.inl (a2,())))
abbrev RB:AF:=[(.tmp 0,.di),(.tmp 1,.dat Uy),(.tmp 5,.own 3 U0),(.tmp 6,.di)]
abbrev Q8:A0:=[(.exit 0,[(.tmp 0,.di),(.tmp 1,.dat Uy),(.tmp 5,.own 3 U0)])]
def C3[Lk]:(Int×List U3×List Int×Int×Unit)→Option ((Int×List U3×List Int×Int×Unit)⊕(Int×List U3×List Int×Unit)⊕Unit):=fun(a0,a1,a2,a3,_)=>
 match(ilt a3 a0)with
 |true=>match(fits ((AM a2)+(AM ([a3]:List (Int)))))with
  |true=>some (.inl (a0,a1,(A5 a2 ([a3]:List (Int))),(IntKind.wrap .i64 (a3+1)),()))
  |false=>none
 |false=>some (.inr (.inl (a0,a1,a2,())))
def I6[Lk]:(Int×List U3×Unit)→Option (Ub):=fun(a0,a1,_)=>
 match AR C3 many (a0,a1,([]:List (Int)),0,())with|none=>none|some r=>match r with
 |.inl (o0,o1,o2,_)=>match AR Dy many (o0,o1,o2,true,())with|none=>none|some r=>match r with
  |.inl (o3,_)=>some (o3,())
  |.inr _=>none
 |.inr _=>none
def DH[Lk]:=fun v=>Lk.f (I6 v)
theorem RC v:DH v=I6 v:=AJ _
abbrev AFY:AF:=[(.tmp 0,.di)]
abbrev AFX:AF:=[(.tmp 0,.di)]
abbrev AFW:List RS:=[.one]
abbrev AJs:AF:=[(.tmp 3,.di),(.tmp 4,.di)]
abbrev AJr:A0:=[(.exit 0,[(.tmp 3,.di)])]
def YF[Lk]:U3→Option (U3⊕U9⊕Unit):=fun(a0,a1,_)=>
 match(ilt 0 a1)with
 |true=>match quo? .i64 a1 2 with|none=>none|some x0=>some (.inl ((IntKind.wrap .i64 (a0+1)),x0,()))
 |false=>some (.inr (.inl (a0,())))
def AFa[Lk]:U9→Option (U9):=fun(a0,_)=>
 match(ilt a0 1)with
 |true=>some (0,())
 |false=>match(ilt 64 a0)with
 |true=>some (0,())
 |false=>match AR YF many (0,(IntKind.wrap .i64 (a0-1)),())with|none=>none|some r=>match r with
 |.inl (o0,_)=>some (o0,())
 |.inr _=>none
def LH[Lk]:=fun v=>Lk.f (AFa v)
theorem AX6 v:LH v=AFa v:=AJ _
abbrev SH:AF:=[(.tmp 0,.dat Uc)]
abbrev SF:AF:=[(.tmp 0,.dat .bool)]
abbrev SD:List RS:=[.one]
abbrev Yt:AF:=[(.tmp 1,.box 2),(.cell 0 0,.di),(.cell 0 1,.dat Uq),(.tmp 3,.own 42 U5),(.tmp 6,.own 3 U0),(.tmp 7,.di),(.tmp 8,.di)]
abbrev Yr:A0:=[(.exit 2,[(.tmp 1,.box 2),(.cell 0 0,.di),(.cell 0 1,.dat Uq),(.tmp 3,.own 42 U5),(.tmp 7,.di)])]
def DW[Lk]:(Int×List U1×List U3×List Int×Int×Int×Unit)→Option ((Int×List U1×List U3×List Int×Int×Int×Unit)⊕V3⊕Unit):=fun(a0,a1,a2,a3,a4,a5,_)=>
 match(ilt a5 a0)with
 |true=>match idx a3 a5 with|none=>none|some x0=>match(ieq (AL a3 (AE a5) 0) a5)with
  |true=>some (.inl (a0,a1,a2,a3,(IntKind.wrap .i64 (a4+1)),(IntKind.wrap .i64 (a5+1)),()))
  |false=>some (.inl (a0,a1,a2,a3,a4,(IntKind.wrap .i64 (a5+1)),()))
 |false=>some (.inr (.inl (a0,a1,a2,a4,())))
abbrev Yu:AF:=[(.tmp 1,.box 2),(.cell 0 0,.di),(.cell 0 1,.dat Uq),(.tmp 3,.own 42 U5),(.tmp 4,.di)]
abbrev Ys:A0:=[(.ret,[(.tmp 2,.dat .bool)]),(.exit 0,[(.tmp 1,.box 2),(.cell 0 0,.di),(.cell 0 1,.dat Uq),(.tmp 3,.own 42 U5)])]
def Cw[Lk]:V3→Option (V3⊕Ug⊕(Int×List U1×List U3×Unit)⊕Unit):=fun(a0,a1,a2,a3,_)=>
 match(ilt a3 (AM a1))with
 |true=>match idx a1 a3 with|none=>none|some x0=>match(ilt x0.1 0)with
  |true=>some (.inr (.inl (false,())))
  |false=>match(ile x0.2.1 x0.1)with
  |true=>some (.inr (.inl (false,())))
  |false=>match(ile a0 x0.2.1)with
  |true=>some (.inr (.inl (false,())))
  |false=>match(ilt x0.2.2.1 0)with
  |true=>some (.inr (.inl (false,())))
  |false=>match LH (a0,())with|none=>none|some (y1,_)=>match(ilt y1 x0.2.2.1)with
  |true=>some (.inr (.inl (false,())))
  |false=>match(ilt 0 a3)with
  |true=>match idx a1 (IntKind.wrap .i64 (a3-1))with|none=>none|some x2=>match(ilt x0.1 x2.1)with
   |true=>some (.inr (.inl (false,())))
   |false=>match idx a1 (IntKind.wrap .i64 (a3-1))with|none=>none|some x3=>match(ieq x3.1 x0.1)with
   |true=>match idx a1 (IntKind.wrap .i64 (a3-1))with|none=>none|some x4=>match(ile x0.2.1 x4.2.1)with
    |true=>some (.inr (.inl (false,())))
    |false=>match x0.2.2.2.1 with
    |true=>match(fits ((AM a2)+(AM ([(x0.1,(x0.2.1,()))]:List U3))))with
     |true=>some (.inl (a0,a1,(A5 a2 ([(x0.1,(x0.2.1,()))]:List U3)),(IntKind.wrap .i64 (a3+1)),()))
     |false=>none
    |false=>some (.inl (a0,a1,a2,(IntKind.wrap .i64 (a3+1)),()))
   |false=>match x0.2.2.2.1 with
   |true=>match(fits ((AM a2)+(AM ([(x0.1,(x0.2.1,()))]:List U3))))with
    |true=>some (.inl (a0,a1,(A5 a2 ([(x0.1,(x0.2.1,()))]:List U3)),(IntKind.wrap .i64 (a3+1)),()))
    |false=>none
   |false=>some (.inl (a0,a1,a2,(IntKind.wrap .i64 (a3+1)),()))
  |false=>match x0.2.2.2.1 with
  |true=>match(fits ((AM a2)+(AM ([(x0.1,(x0.2.1,()))]:List U3))))with
   |true=>some (.inl (a0,a1,(A5 a2 ([(x0.1,(x0.2.1,()))]:List U3)),(IntKind.wrap .i64 (a3+1)),()))
   |false=>none
  |false=>some (.inl (a0,a1,a2,(IntKind.wrap .i64 (a3+1)),()))
 |false=>some (.inr (.inr (.inl (a0,a1,a2,()))))
def Er[Lk]:(Ud×Unit)→Option (Ug):=fun(a0,_)=>
 match(ilt a0.1 1)with
 |true=>some (false,())
 |false=>match(ilt 64 a0.1)with
 |true=>some (false,())
 |false=>match(ilt 400 (AM a0.2.1))with
 |true=>some (false,())
 |false=>match AR Cw many (a0.1,a0.2.1,([]:List U3),0,())with|none=>none|some r=>match r with
 |.inl (o0,_)=>some (o0,())
 |.inr r=>match r with
 |.inl (o1,o2,o3,_)=>match DH (o1,o3,())with|none=>none|some (y4,_)=>match AR DW many (o1,o2,o3,y4,0,0,())with|none=>none|some r=>match r with
  |.inl (o5,o6,o7,o8,_)=>some ((ieq o8 (IntKind.wrap .i64 (o5-(AM o7)))),())
  |.inr _=>none
 |.inr _=>none
def Ch[Lk]:=fun v=>Lk.f (Er v)
theorem Fj v:Ch v=Er v:=AJ _
abbrev TZ:AF:=[(.tmp 0,.dat Uc)]
abbrev TY:AF:=[(.tmp 0,.own 42 U5)]
abbrev TX:List RS:=[.one]
abbrev ABA:AF:=[(.tmp 1,.box 2),(.cell 0 0,.di),(.cell 0 1,.dat Uq),(.tmp 3,.own 42 U5),(.tmp 4,.di)]
abbrev AA9:A0:=[(.exit 0,[(.tmp 3,.own 42 U5)])]
def Ed[Lk]:V3→Option (V3⊕V2⊕Unit):=fun(a0,a1,a2,a3,_)=>
 match(ilt a3 (AM a1))with
 |true=>match idx a1 a3 with|none=>none|some x0=>match idx a1 a3 with|none=>none|some x1=>match(fits ((AM a2)+(AM ([(x0.1,(x1.2.1,()))]:List U3))))with
  |true=>some (.inl (a0,a1,(A5 a2 ([(x0.1,(x1.2.1,()))]:List U3)),(IntKind.wrap .i64 (a3+1)),()))
  |false=>none
 |false=>some (.inr (.inl (a2,())))
def Nf[Lk]:(Ud×Unit)→Option (V2):=fun(a0,_)=>
 match Ch ((a0.1,(a0.2.1,())),())with|none=>none|some (y0,_)=>match(!y0)with
 |true=>some (([]:List U3),())
 |false=>match AR Ed many (a0.1,a0.2.1,([]:List U3),0,())with|none=>none|some r=>match r with
 |.inl (o1,_)=>some (o1,())
 |.inr _=>none
def I3[Lk]:=fun v=>Lk.f (Nf v)
theorem ABB v:I3 v=Nf v:=AJ _
def ARW[Lk]:U3→Option (Ug):=fun(a0,a1,_)=>
 match(ile 1 a0)with
 |true=>match(ile a0 64)with
  |true=>match(ile 0 a1)with
   |true=>some ((ilt a1 a0),())
   |false=>some (false,())
  |false=>some (false,())
 |false=>some (false,())
def AMc[Lk]:=fun v=>Lk.f (ARW v)
theorem Ac6 v:AMc v=ARW v:=AJ _
def R2[Lk]:U3→Option ((Int×Int×Bool×Bool×Unit)):=fun(a0,a1,_)=>
 match AMc (a0,a1,())with|none=>none|some (y0,_)=>match y0 with
 |true=>some (a1,0,false,true,())
 |false=>match(ilt a0 1)with
 |true=>some (0,0,false,false,())
 |false=>match(ilt 64 a0)with
 |true=>some (0,0,false,false,())
 |false=>match(ilt a1 a0)with
 |true=>some (0,0,false,false,())
 |false=>match(ile (IntKind.wrap .i64 (a0+(IntKind.wrap .i64 (a0*a0)))) a1)with
 |true=>some (0,0,false,false,())
 |false=>match quo? .i64 (IntKind.wrap .i64 (a1-a0)) a0 with|none=>none|some x1=>match rem? (IntKind.wrap .i64 (a1-a0)) a0 with|none=>none|some x2=>match(ieq x1 x2)with
 |true=>some (0,0,false,false,())
 |false=>some (x1,x2,true,true,())
def XD[Lk]:=fun v=>Lk.f (R2 v)
theorem AOP v:XD v=R2 v:=AJ _
def AI2[Lk]:(Int×Int×Int×Unit)→Option (U9):=fun(a0,a1,a2,_)=>
 match AMc (a0,a1,())with|none=>none|some (y0,_)=>match(!y0)with
 |true=>some ((-1:Int),())
 |false=>match AMc (a0,a2,())with|none=>none|some (y1,_)=>match(!y1)with
 |true=>some ((-1:Int),())
 |false=>match(ieq a1 a2)with
 |true=>some ((-1:Int),())
 |false=>some ((IntKind.wrap .i64 ((IntKind.wrap .i64 (a0+(IntKind.wrap .i64 (a1*a0))))+a2)),())
def ANu[Lk]:=fun v=>Lk.f (AI2 v)
theorem AbW v:ANu v=AI2 v:=AJ _
def Je[Lk]:(Int×Int×Int×List U4×Int×Unit)→Option ((Int×Int×Int×List U4×Int×Unit)⊕(Int×Int×List U4×Unit)⊕Unit):=fun(a0,a1,a2,a3,a4,_)=>
 match(ilt a4 a0)with
 |true=>match(fits ((AM a3)+(AM ([([a4]:List (Int))]:List U4))))with
  |true=>some (.inl (a0,a1,a2,(A5 a3 ([([a4]:List (Int))]:List U4)),(IntKind.wrap .i64 (a4+1)),()))
  |false=>none
 |false=>some (.inr (.inl (a1,a2,a3,())))
def AAE[Lk]:U9→Option (V1):=fun(a0,_)=>
 match(ilt a0 1)with
 |true=>some (0,([]:List U4),1,())
 |false=>match(ilt 64 a0)with
 |true=>some (0,([]:List U4),1,())
 |false=>match AR Je many (a0,0,a0,([]:List U4),0,())with|none=>none|some r=>match r with
 |.inl (o0,o1,o2,_)=>some (o1,o2,0,())
 |.inr _=>none
def AHQ[Lk]:=fun v=>Lk.f (AAE v)
theorem AV7 v:AHQ v=AAE v:=AJ _
def OV[Lk]:(Int×Int×Int×Unit)→Option (Ug):=fun(a0,a1,a2,_)=>
 match XD (a0,a1,())with|none=>none|some (y0,y1,y2,y3,_)=>match y3 with
 |true=>match(!y2)with
  |true=>match(ieq y0 a2)with
   |true=>some (true,())
   |false=>match y2 with
   |true=>some ((ieq y1 a2),())
   |false=>some (false,())
  |false=>match y2 with
  |true=>some ((ieq y1 a2),())
  |false=>some (false,())
 |false=>some (false,())
def YJ[Lk]:=fun v=>Lk.f (OV v)
theorem AJ0 v:YJ v=OV v:=AJ _
def JR[Lk]:Uz→Option (Uz⊕(Int×Int×List Int×Bool×Bool×Bool×Bool×Int×Int×Bool×Int×Int×Int×Int×Int×Bool×Int×List Int×Int×Int×Int×Int×Int×Int×Int×Int×Bool×Unit)⊕Unit):=fun(a0,a1,a2,a3,a4,a5,a6,a7,a8,a9,a10,a11,a12,a13,a14,a15,a16,a17,a18,a19,a20,a21,a22,a23,a24,a25,a26,a27,_)=>
 match(ilt a4 (AM a1))with
 |true=>match rem? (IntKind.wrap .i64 (a2+a4)) (AM a1)with|none=>none|some x0=>match idx a1 x0 with|none=>none|some x1=>match(fits ((AM a3)+(AM ([(AL a1 (AE x0) 0)]:List (Int)))))with
  |true=>some (.inl (a0,a1,a2,(A5 a3 ([(AL a1 (AE x0) 0)]:List (Int))),(IntKind.wrap .i64 (a4+1)),a5,a6,a7,a8,a9,a10,a11,a12,a13,a14,a15,a16,a17,a18,a19,a20,a21,a22,a23,a24,a25,a26,a27,()))
  |false=>none
 |false=>some (.inr (.inl (a0,a2,a3,a5,a6,a7,a8,a9,a10,a11,a12,a13,a14,a15,a16,a17,a18,a1,a19,a20,a21,a22,a23,a24,a25,a26,a27,())))
def Dk[Lk]:(Int×List Int×Bool×Int×Unit)→Option ((Int×List Int×Bool×Int×Unit)⊕(Int×List Int×Bool×Unit)⊕Unit):=fun(a0,a1,a2,a3,_)=>
 match(ilt a3 (AM a1))with
 |true=>match(!a2)with
  |true=>match idx a1 a3 with|none=>none|some x0=>match rem? (IntKind.wrap .i64 (a3+1)) (AM a1)with|none=>none|some x1=>match idx a1 x1 with|none=>none|some x2=>match rem? (IntKind.wrap .i64 (a3+2)) (AM a1)with|none=>none|some x3=>match idx a1 x3 with|none=>none|some x4=>match XD (a0,(AL a1 (AE a3) 0),())with|none=>none|some (y5,y6,y7,y8,_)=>match(ile 4 (AM a1))with
   |true=>match y8 with
    |true=>match y7 with
     |true=>match(ieq (AL a1 (AE x1) 0) y6)with
      |true=>match ANu (a0,y6,y5,())with|none=>none|some (y9,_)=>match(ieq (AL a1 (AE x3) 0) y9)with
       |true=>match rem? (IntKind.wrap .i64 ((IntKind.wrap .i64 (a3+(AM a1)))-1)) (AM a1)with|none=>none|some x10=>match idx a1 x10 with|none=>none|some x11=>match YJ (a0,(AL a1 (AE x10) 0),y5,())with|none=>none|some (y12,_)=>match y12 with
        |true=>match AR JR many (a0,a1,a3,([]:List (Int)),3,a2,(!a2),y8,y7,(AL a1 (AE x1) 0),y6,(ieq (AL a1 (AE x1) 0) y6),(AL a1 (AE x3) 0),a0,y6,y5,y9,(ieq (AL a1 (AE x3) 0) y9),a0,a3,(AM a1),(IntKind.wrap .i64 (a3+(AM a1))),(IntKind.wrap .i64 ((IntKind.wrap .i64 (a3+(AM a1)))-1)),(AM a1),x10,(AL a1 (AE x10) 0),y5,y12,())with|none=>none|some r=>match r with
         |.inl (o13,o14,o15,o16,o17,o18,o19,o20,o21,o22,o23,o24,o25,o26,o27,o28,o29,o30,o31,o32,o33,o34,o35,o36,o37,o38,o39,_)=>some (.inl (o13,o15,true,(IntKind.wrap .i64 (o14+1)),()))
         |.inr _=>none
        |false=>some (.inl (a0,a1,a2,(IntKind.wrap .i64 (a3+1)),()))
       |false=>some (.inl (a0,a1,a2,(IntKind.wrap .i64 (a3+1)),()))
      |false=>some (.inl (a0,a1,a2,(IntKind.wrap .i64 (a3+1)),()))
     |false=>some (.inl (a0,a1,a2,(IntKind.wrap .i64 (a3+1)),()))
    |false=>some (.inl (a0,a1,a2,(IntKind.wrap .i64 (a3+1)),()))
   |false=>some (.inl (a0,a1,a2,(IntKind.wrap .i64 (a3+1)),()))
  |false=>some (.inr (.inl (a0,a1,a2,())))
 |false=>some (.inr (.inl (a0,a1,a2,())))
def M3[Lk]:Vi→Option (Vi⊕Ug⊕Vi⊕Unit):=fun(a0,a1,_)=>
 match(ilt 1 (AM a1))with
 |true=>match AR Dk many (a0,a1,false,0,())with|none=>none|some r=>match r with
  |.inl (o0,o1,o2,_)=>match(!o2)with
   |true=>some (.inr (.inl (false,())))
   |false=>some (.inl (o0,o1,()))
  |.inr _=>none
 |false=>some (.inr (.inr (.inl (a0,a1,()))))
def YB[Lk]:Vi→Option (Ug):=fun(a0,a1,_)=>
 match(fits ((AM ([]:List (Int)))+(AM a1)))with
 |true=>match AR M3 many (a0,(A5 ([]:List (Int)) a1),())with|none=>none|some r=>match r with
  |.inl (o0,_)=>some (o0,())
  |.inr r=>match r with
  |.inl (o1,o2,_)=>match(ieq (AM o2) 1)with
   |true=>match idx o2 0 with|none=>none|some x3=>match AMc (o1,(AL o2 0 0),())with|none=>none|some (y4,_)=>some (y4,())
   |false=>some (false,())
  |.inr _=>none
 |false=>none
def AOM[Lk]:=fun v=>Lk.f (YB v)
theorem AUc v:AOM v=YB v:=AJ _
def Ht[Lk]:Ue→Option (Ue⊕U9⊕(Unit)⊕Unit):=fun(a0,a1,a2,_)=>
 match(ilt a2 (AM a0))with
 |true=>match idx a0 a2 with|none=>none|some x0=>match(ieq x0 a1)with
  |true=>some (.inr (.inl (a2,())))
  |false=>some (.inl (a0,a1,(IntKind.wrap .i64 (a2+1)),()))
 |false=>some (.inr (.inr (.inl ())))
def SV[Lk]:Ur→Option (U9):=fun(a0,a1,_)=>
 match AR Ht many (a0,a1,0,())with|none=>none|some r=>match r with
 |.inl (o0,_)=>some (o0,())
 |.inr r=>match r with
 |.inl _=>some ((-1:Int),())
 |.inr _=>none
def NB[Lk]:=fun v=>Lk.f (SV v)
theorem APj v:NB v=SV v:=AJ _
def Fk[Lk]:Ur→Option (Ur⊕Ug⊕(Unit)⊕Unit):=fun(a0,a1,_)=>
 match(ilt a1 (AM a0))with
 |true=>match idx a0 a1 with|none=>none|some x0=>match(ilt x0 0)with
  |true=>some (.inr (.inl (false,())))
  |false=>match idx a0 a1 with|none=>none|some x1=>match(ilt 10000 x1)with
  |true=>some (.inr (.inl (false,())))
  |false=>match B4 a0 0 a1 with|none=>none|some x2=>match idx a0 a1 with|none=>none|some x3=>match NB (x2,x3,())with|none=>none|some (y4,_)=>match(ile 0 y4)with
  |true=>some (.inr (.inl (false,())))
  |false=>some (.inl (a0,(IntKind.wrap .i64 (a1+1)),()))
 |false=>some (.inr (.inr (.inl ())))
def SK[Lk]:Ub→Option (Ug):=fun(a0,_)=>
 match(ilt 1000 (AM a0))with
 |true=>some (false,())
 |false=>match AR Fk many (a0,0,())with|none=>none|some r=>match r with
 |.inl (o0,_)=>some (o0,())
 |.inr r=>match r with
 |.inl _=>some (true,())
 |.inr _=>none
def Py[Lk]:=fun v=>Lk.f (SK v)
theorem AO6 v:Py v=SK v:=AJ _
def AAz[Lk]:Ur→Option (Vh):=fun(a0,a1,_)=>
 match NB (a0,a1,())with|none=>none|some (y0,_)=>match Py (a0,())with|none=>none|some (y1,_)=>match(!y1)with
 |true=>some (([]:List (Int)),false,())
 |false=>match(ilt y0 0)with
 |true=>some (([]:List (Int)),false,())
 |false=>match B4 a0 y0 (AM a0)with|none=>none|some x2=>match(fits ((AM ([]:List (Int)))+(AM x2)))with
 |true=>match B4 a0 0 y0 with|none=>none|some x3=>match(fits ((AM (A5 ([]:List (Int)) x2))+(AM x3)))with
  |true=>some ((A5 (A5 ([]:List (Int)) x2) x3),true,())
  |false=>none
 |false=>none
def AA0[Lk]:=fun v=>Lk.f (AAz v)
theorem AW6 v:AA0 v=AAz v:=AJ _
def Hr[Lk]:Ue→Option (Ue⊕Ur⊕Unit):=fun(a0,a1,a2,_)=>
 match(ilt a2 (AM a0))with
 |true=>match idx a0 a2 with|none=>none|some x0=>some (.inl (a0,(Bx a1 x0),(IntKind.wrap .i64 (a2+1)),()))
 |false=>some (.inr (.inl (a0,a1,())))
def SS[Lk]:Ub→Option (Ub):=fun(a0,_)=>
 match Py (a0,())with|none=>none|some (y0,_)=>match(!y0)with
 |true=>some (([]:List (Int)),())
 |false=>match(ieq (AM a0) 0)with
 |true=>some (([]:List (Int)),())
 |false=>match idx a0 0 with|none=>none|some x1=>match AR Hr many (a0,x1,0,())with|none=>none|some r=>match r with
 |.inl (o2,o3,_)=>match AA0 (o2,o3,())with|none=>none|some (y4,y5,_)=>some (y4,())
 |.inr _=>none
def XP[Lk]:=fun v=>Lk.f (SS v)
theorem APe v:XP v=SS v:=AJ _
def Fw[Lk]:(List U4×List U4×Int×Unit)→Option ((List U4×List U4×Int×Unit)⊕Ug⊕(Unit)⊕Unit):=fun(a0,a1,a2,_)=>
 match(ilt a2 (AM a0))with
 |true=>match idx a0 a2 with|none=>none|some x0=>match idx a1 a2 with|none=>none|some x1=>match TH (x0,x1,())with|none=>none|some (y2,_)=>match(!y2)with
  |true=>some (.inr (.inl (false,())))
  |false=>some (.inl (a0,a1,(IntKind.wrap .i64 (a2+1)),()))
 |false=>some (.inr (.inr (.inl ())))
def TA[Lk]:(List U4×List U4×Unit)→Option (Ug):=fun(a0,a1,_)=>
 match(!(ieq (AM a0) (AM a1)))with
 |true=>some (false,())
 |false=>match AR Fw many (a0,a1,0,())with|none=>none|some r=>match r with
 |.inl (o0,_)=>some (o0,())
 |.inr r=>match r with
 |.inl _=>some (true,())
 |.inr _=>none
def AHV[Lk]:=fun v=>Lk.f (TA v)
theorem AQ3 v:AHV v=TA v:=AJ _
def EX[Lk]:Uw→Option (Uw⊕Ug⊕(Int×List U4×List Bool×Int×Int×Int×List Int×Int×Bool×Int×List Int×Bool×Bool×List Int×List Int×List U4×List Int×List U4×Bool×Bool×List Int×Int×Int×Bool×Unit)⊕Unit):=fun(a0,a1,a2,a3,a4,a5,a6,a7,a8,a9,a10,a11,a12,a13,a14,a15,a16,a17,a18,a19,a20,a21,a22,a23,a24,a25,_)=>
 match(ilt a7 (AM a6))with
 |true=>match idx a6 a7 with|none=>none|some x0=>match(ilt x0 a0)with
  |true=>match idx a6 a7 with|none=>none|some x1=>match idx a2 x1 with|none=>none|some x2=>match(AL a2 (AE x1) false)with
   |true=>some (.inr (.inl (false,())))
   |false=>match idx a6 a7 with|none=>none|some x3=>match idx a2 x3 with|none=>none|some x4=>some (.inl (a0,a1,(An a2 (AE x3) true),a3,(IntKind.wrap .i64 (a4+1)),a5,a6,(IntKind.wrap .i64 (a7+1)),a8,a9,a10,a11,a12,a13,a14,a15,a16,a17,a18,a19,a20,a21,a22,a23,a24,a25,()))
  |false=>some (.inl (a0,a1,a2,a3,a4,a5,a6,(IntKind.wrap .i64 (a7+1)),a8,a9,a10,a11,a12,a13,a14,a15,a16,a17,a18,a19,a20,a21,a22,a23,a24,a25,()))
 |false=>some (.inr (.inr (.inl (a0,a1,a2,a3,a4,a5,a8,a9,a10,a11,a12,a13,a14,a15,a16,a17,a18,a19,a20,a21,a22,a23,a24,a25,()))))
def EY[Lk]:(Int×List U4×List Bool×Int×Int×Int×Unit)→Option ((Int×List U4×List Bool×Int×Int×Int×Unit)⊕Ug⊕V1⊕Unit):=fun(a0,a1,a2,a3,a4,a5,_)=>
 match(ilt a5 (AM a1))with
 |true=>match idx a1 a5 with|none=>none|some x0=>match Py (x0,())with|none=>none|some (y1,_)=>match(!y1)with
  |true=>some (.inr (.inl (false,())))
  |false=>match(ieq (AM x0) 0)with
  |true=>some (.inr (.inl (false,())))
  |false=>match AOM (a0,x0,())with|none=>none|some (y2,_)=>match(!y2)with
  |true=>some (.inr (.inl (false,())))
  |false=>match XP (x0,())with|none=>none|some (y3,_)=>match AHV (([y3]:List U4),([x0]:List U4),())with|none=>none|some (y4,_)=>match(!y4)with
  |true=>some (.inr (.inl (false,())))
  |false=>match idx x0 0 with|none=>none|some x5=>match(ile x5 a3)with
  |true=>some (.inr (.inl (false,())))
  |false=>match idx x0 0 with|none=>none|some x6=>match AR EX many (a0,a1,a2,x6,a4,a5,x0,0,x0,(AM x0),(ieq (AM x0) 0),a0,x0,y2,(!y2),x0,y3,([y3]:List U4),x0,([x0]:List U4),y4,(!y4),x0,x5,a3,(ile x5 a3),())with|none=>none|some r=>match r with
  |.inl (o7,_)=>some (.inr (.inl (o7,())))
  |.inr r=>match r with
  |.inl (o8,o9,o10,o11,o12,o13,o14,o15,o16,o17,o18,o19,o20,o21,o22,o23,o24,o25,o26,o27,o28,o29,o30,o31,_)=>some (.inl (o8,o9,o10,o11,o12,(IntKind.wrap .i64 (o13+1)),()))
  |.inr _=>none
 |false=>some (.inr (.inr (.inl (a0,a1,a4,()))))
def SJ[Lk]:(Uj×Unit)→Option (Ug):=fun(a0,_)=>
 match(ilt a0.1 1)with
 |true=>some (false,())
 |false=>match(ilt 64 a0.1)with
 |true=>some (false,())
 |false=>match(ilt a0.1 (AM a0.2.1))with
 |true=>some (false,())
 |false=>match(LQ a0.1&&LQ a0.1&&ile a0.1 a0.1&&true)with
 |true=>match AR EY many (a0.1,a0.2.1,(Jt (AE a0.1) false),(-1:Int),(0:Int),(0:Int),())with|none=>none|some r=>match r with
  |.inl (o0,_)=>some (o0,())
  |.inr r=>match r with
  |.inl (o1,o2,o3,_)=>some ((ieq o3 o1),())
  |.inr _=>none
 |false=>none
def XL[Lk]:=fun v=>Lk.f (SJ v)
theorem AO5 v:XL v=SJ v:=AJ _
def Hs[Lk]:(Int×Int×List U4×Int×Unit)→Option ((Int×Int×List U4×Int×Unit)⊕U9⊕(Unit)⊕Unit):=fun(a0,a1,a2,a3,_)=>
 match(ilt a3 (AM a2))with
 |true=>match idx a2 a3 with|none=>none|some x0=>match NB (x0,a0,())with|none=>none|some (y1,_)=>match(ile 0 y1)with
  |true=>some (.inr (.inl (a3,())))
  |false=>some (.inl (a0,a1,a2,(IntKind.wrap .i64 (a3+1)),()))
 |false=>some (.inr (.inr (.inl ())))
def SU[Lk]:Vc→Option (U9):=fun(a0,a1,_)=>
 match AR Hs many (a1,a0.1,a0.2.1,0,())with|none=>none|some r=>match r with
 |.inl (o0,_)=>some (o0,())
 |.inr r=>match r with
 |.inl _=>some ((-1:Int),())
 |.inr _=>none
def NA[Lk]:=fun v=>Lk.f (SU v)
theorem APi v:NA v=SU v:=AJ _
def Lo[Lk]:(List U4×List Int×Int×Unit)→Option ((List U4×List Int×Int×Unit)⊕(List U4×List Int×Int×Unit)⊕Unit):=fun(a0,a1,a2,_)=>
 match(ilt a2 (AM a0))with
 |true=>match idx a0 a2 with|none=>none|some x0=>match idx x0 0 with|none=>none|some x1=>match idx a1 0 with|none=>none|some x2=>match(ilt x1 (AL a1 0 0))with
  |true=>some (.inl (a0,a1,(IntKind.wrap .i64 (a2+1)),()))
  |false=>some (.inr (.inl (a0,a1,a2,())))
 |false=>some (.inr (.inl (a0,a1,a2,())))
def AGM[Lk]:(List U4×List Int×Unit)→Option (Un):=fun(a0,a1,_)=>
 match XP (a1,())with|none=>none|some (y0,_)=>match AR Lo many (a0,y0,0,())with|none=>none|some r=>match r with
 |.inl (o1,o2,o3,_)=>match B4 o1 0 o3 with|none=>none|some x4=>match(fits ((AM ([]:List U4))+(AM x4)))with
  |true=>match(fits ((AM (A5 ([]:List U4) x4))+(AM ([o2]:List U4))))with
   |true=>match B4 o1 o3 (AM o1)with|none=>none|some x5=>match(fits ((AM (A5 (A5 ([]:List U4) x4) ([o2]:List U4)))+(AM x5)))with
    |true=>some ((A5 (A5 (A5 ([]:List U4) x4) ([o2]:List U4)) x5),())
    |false=>none
   |false=>none
  |false=>none
 |.inr _=>none
def ATG[Lk]:=fun v=>Lk.f (AGM v)
theorem AYv v:ATG v=AGM v:=AJ _
def LZ[Lk]:Vd→Option (Un):=fun(a0,a1,_)=>
 match B4 a0 0 a1 with|none=>none|some x0=>match(fits ((AM ([]:List U4))+(AM x0)))with
 |true=>match B4 a0 (IntKind.wrap .i64 (a1+1)) (AM a0)with|none=>none|some x1=>match(fits ((AM (A5 ([]:List U4) x0))+(AM x1)))with
  |true=>some ((A5 (A5 ([]:List U4) x0) x1),())
  |false=>none
 |false=>none
def HS[Lk]:=fun v=>Lk.f (LZ v)
theorem AFD v:HS v=LZ v:=AJ _
def Jg[Lk]:(Uj×Int×Int×Unit)→Option (V1):=fun(a0,a1,a2,_)=>
 match XL ((a0.1,(a0.2.1,())),())with|none=>none|some (y0,_)=>match(!y0)with
 |true=>some (a0.1,a0.2.1,1,())
 |false=>match AMc (a0.1,a1,())with|none=>none|some (y1,_)=>match(!y1)with
 |true=>some (a0.1,a0.2.1,10,())
 |false=>match AMc (a0.1,a2,())with|none=>none|some (y2,_)=>match(!y2)with
 |true=>some (a0.1,a0.2.1,10,())
 |false=>match NA ((a0.1,(a0.2.1,())),a1,())with|none=>none|some (y3,_)=>match NA ((a0.1,(a0.2.1,())),a2,())with|none=>none|some (y4,_)=>match(ieq y3 y4)with
 |true=>some (a0.1,a0.2.1,5,())
 |false=>match NA ((a0.1,(a0.2.1,())),a1,())with|none=>none|some (y5,_)=>match NA ((a0.1,(a0.2.1,())),a2,())with|none=>none|some (y6,_)=>match idx a0.2.1 y5 with|none=>none|some x7=>match AA0 (x7,a1,())with|none=>none|some (y8,y9,_)=>match idx a0.2.1 y6 with|none=>none|some x10=>match AA0 (x10,a2,())with|none=>none|some (y11,y12,_)=>match ANu (a0.1,a1,a2,())with|none=>none|some (y13,_)=>match(fits ((AM ([a1,y13]:List (Int)))+(AM y11)))with
 |true=>match ANu (a0.1,a2,a1,())with|none=>none|some (y14,_)=>match(fits ((AM (A5 ([a1,y13]:List (Int)) y11))+(AM ([y14]:List (Int)))))with
  |true=>match B4 y8 1 (AM y8)with|none=>none|some x15=>match(fits ((AM (A5 (A5 ([a1,y13]:List (Int)) y11) ([y14]:List (Int))))+(AM (Df 1 (AE (AM x15)) y8))))with
   |true=>match HS (a0.2.1,(imax y5 y6),())with|none=>none|some (y16,_)=>match HS (y16,(Bx y5 y6),())with|none=>none|some (y17,_)=>match ATG (y17,(A5 (A5 (A5 ([a1,y13]:List (Int)) y11) ([y14]:List (Int))) (Df 1 (AE (AM x15)) y8)),())with|none=>none|some (y18,_)=>some (a0.1,y18,0,())
   |false=>none
  |false=>none
 |false=>none
def TC[Lk]:=fun v=>Lk.f (Jg v)
theorem NX v:TC v=Jg v:=AJ _
abbrev Ye:AF:=[(.tmp 0,.dat Uy),(.tmp 1,.dat Uy)]
abbrev Yd:AF:=[(.tmp 0,.dat .bool)]
abbrev Yc:List RS:=[.one]
abbrev ADy:AF:=[(.tmp 0,.dat Uy),(.tmp 1,.dat Uy),(.tmp 5,.di)]
abbrev ADx:A0:=[(.ret,[(.tmp 4,.dat .bool)]),(.exit 0,[])]
def Fi[Lk]:(List U3×List U3×Int×Unit)→Option ((List U3×List U3×Int×Unit)⊕Ug⊕(Unit)⊕Unit):=fun(a0,a1,a2,_)=>
 match(ilt a2 (AM a0))with
 |true=>match idx a0 a2 with|none=>none|some x0=>match idx a1 a2 with|none=>none|some x1=>match(!(ieq x0.1 x1.1&&(ieq x0.2.1 x1.2.1&&true)))with
  |true=>some (.inr (.inl (false,())))
  |false=>some (.inl (a0,a1,(IntKind.wrap .i64 (a2+1)),()))
 |false=>some (.inr (.inr (.inl ())))
def Pu[Lk]:(List U3×List U3×Unit)→Option (Ug):=fun(a0,a1,_)=>
 match(!(ieq (AM a0) (AM a1)))with
 |true=>some (false,())
 |false=>match AR Fi many (a0,a1,0,())with|none=>none|some r=>match r with
 |.inl (o0,_)=>some (o0,())
 |.inr r=>match r with
 |.inl _=>some (true,())
 |.inr _=>none
def SC[Lk]:=fun v=>Lk.f (Pu v)
theorem ADz v:SC v=Pu v:=AJ _
abbrev AYA:AF:=[(.tmp 0,.dat Us),(.tmp 1,.di)]
abbrev AX9:AF:=[(.tmp 0,.di)]
abbrev AX8:List RS:=[.one]
def ASz[Lk]:Vc→Option (U9):=fun(a0,a1,_)=>
 match tin (a0.1,a1,())with|none=>none|some (y0,_)=>match(!y0)with
 |true=>some ((-1:Int),())
 |false=>match OS ((a0.1,(a0.2.1,())),())with|none=>none|some (y1,_)=>match(!y1)with
 |true=>some ((-1:Int),())
 |false=>match OT ((a0.1,(a0.2.1,())),a1,())with|none=>none|some (y2,_)=>some (y2,())
def tof[Lk]:=fun v=>Lk.f (ASz v)
theorem AYB v:tof v=ASz v:=AJ _
def Hl[Lk]:(List U3×Int×List U4×Int×Unit)→Option ((List U3×Int×List U4×Int×Unit)⊕U9⊕(Unit)⊕Unit):=fun(a0,a1,a2,a3,_)=>
 match(ilt a3 (AM a0))with
 |true=>match idx a0 a3 with|none=>none|some x0=>match(ilt x0.1 0)with
  |true=>some (.inr (.inl (10,())))
  |false=>match idx a0 a3 with|none=>none|some x1=>match(ile a1 x1.1)with
  |true=>some (.inr (.inl (10,())))
  |false=>match idx a0 a3 with|none=>none|some x2=>match(ilt x2.2.1 0)with
  |true=>some (.inr (.inl (10,())))
  |false=>match idx a0 a3 with|none=>none|some x3=>match(ile a1 x3.2.1)with
  |true=>some (.inr (.inl (10,())))
  |false=>some (.inl (a0,a1,a2,(IntKind.wrap .i64 (a3+1)),()))
 |false=>some (.inr (.inr (.inl ())))
def R3[Lk]:(Uj×List U3×Unit)→Option (U9):=fun(a0,a1,_)=>
 match XL ((a0.1,(a0.2.1,())),())with|none=>none|some (y0,_)=>match(!y0)with
 |true=>some (1,())
 |false=>match AR Hl many (a1,a0.1,a0.2.1,0,())with|none=>none|some r=>match r with
 |.inl (o1,_)=>some (o1,())
 |.inr r=>match r with
 |.inl _=>some (0,())
 |.inr _=>none
def AFj[Lk]:=fun v=>Lk.f (R3 v)
theorem AOT v:AFj v=R3 v:=AJ _
def H4[Lk]:(List U3×Int×List U4×Int×List Bool×Int×Unit)→Option ((List U3×Int×List U4×Int×List Bool×Int×Unit)⊕(Int×List U4×Int×List Bool×Unit)⊕Unit):=fun(a0,a1,a2,a3,a4,a5,_)=>
 match(ilt a5 (AM a0))with
 |true=>match idx a0 a5 with|none=>none|some x0=>match idx a0 a5 with|none=>none|some x1=>match TC ((a1,(a2,())),x0.1,x1.2.1,())with|none=>none|some (y2,y3,y4,_)=>match(fits ((AM a4)+(AM ([(ieq y4 0)]:List (Bool)))))with
  |true=>some (.inl (a0,y2,y3,a3,(A5 a4 ([(ieq y4 0)]:List (Bool))),(IntKind.wrap .i64 (a5+1)),()))
  |false=>none
 |false=>some (.inr (.inl (a1,a2,a3,a4,())))
def TB[Lk]:(Uj×List U3×Unit)→Option ((Uj×List Bool×Int×Unit)):=fun(a0,a1,_)=>
 match AFj ((a0.1,(a0.2.1,())),a1,())with|none=>none|some (y0,_)=>match(!(ieq y0 0))with
 |true=>some ((a0.1,(a0.2.1,())),([]:List (Bool)),y0,())
 |false=>match AR H4 many (a1,a0.1,a0.2.1,0,([]:List (Bool)),0,())with|none=>none|some r=>match r with
 |.inl (o1,o2,o3,o4,_)=>some ((o1,(o2,())),o4,0,())
 |.inr _=>none
def AHW[Lk]:=fun v=>Lk.f (TB v)
theorem AQ5 v:AHW v=TB v:=AJ _
def AQZ[Lk]:(Int×List U3×Unit)→Option (Vc):=fun(a0,a1,_)=>
 match AHQ (a0,())with|none=>none|some (y0,y1,y2,_)=>match(!(ieq y2 0))with
 |true=>some ((0,(([]:List U4),())),y2,())
 |false=>match AHW ((y0,(y1,())),a1,())with|none=>none|some (y3,y4,y5,_)=>match(!(ieq y5 0))with
 |true=>some ((0,(([]:List U4),())),y5,())
 |false=>some ((y3.1,(y3.2.1,())),0,())
def AeK[Lk]:=fun v=>Lk.f (AQZ v)
theorem Ace v:AeK v=AQZ v:=AJ _
def Jr[Lk]:(Int×Int×Int×List U1×Int×Unit)→Option ((Int×Int×Int×List U1×Int×Unit)⊕U9⊕(Unit)⊕Unit):=fun(a0,a1,a2,a3,a4,_)=>
 match(ilt a4 (AM a3))with
 |true=>match idx a3 a4 with|none=>none|some x0=>match(ieq x0.1 (Bx a0 a1))with
  |true=>match idx a3 a4 with|none=>none|some x1=>match(ieq x1.2.1 (imax a0 a1))with
   |true=>some (.inr (.inl (a4,())))
   |false=>some (.inl (a0,a1,a2,a3,(IntKind.wrap .i64 (a4+1)),()))
  |false=>some (.inl (a0,a1,a2,a3,(IntKind.wrap .i64 (a4+1)),()))
 |false=>some (.inr (.inr (.inl ())))
def AA4[Lk]:V5→Option (U9):=fun(a0,a1,a2,_)=>
 match Ch ((a0.1,(a0.2.1,())),())with|none=>none|some (y0,_)=>match(!y0)with
 |true=>some ((-1:Int),())
 |false=>match AR Jr many (a1,a2,a0.1,a0.2.1,0,())with|none=>none|some r=>match r with
 |.inl (o1,_)=>some (o1,())
 |.inr r=>match r with
 |.inl _=>some ((-1:Int),())
 |.inr _=>none
def ARt[Lk]:=fun v=>Lk.f (AA4 v)
theorem AXB v:ARt v=AA4 v:=AJ _
abbrev R0:AF:=[(.tmp 0,.dat Uc),(.tmp 1,.di)]
abbrev Rz:AF:=[(.tmp 0,.own 42 U5)]
abbrev Ry:List RS:=[.one]
abbrev X9:AF:=[(.tmp 1,.di),(.tmp 2,.box 2),(.cell 0 0,.di),(.cell 0 1,.dat Uq),(.tmp 5,.own 42 U5),(.tmp 6,.di)]
abbrev X8:A0:=[(.exit 0,[(.tmp 5,.own 42 U5)])]
def ET[Lk]:(Int×Int×List U1×List U3×Int×Unit)→Option ((Int×Int×List U1×List U3×Int×Unit)⊕V2⊕Unit):=fun(a0,a1,a2,a3,a4,_)=>
 match(ilt a4 (AM a2))with
 |true=>match idx a2 a4 with|none=>none|some x0=>match x0.2.2.2.1 with
  |true=>match idx a2 a4 with|none=>none|some x1=>match(ile a0 x1.2.2.1)with
   |true=>match idx a2 a4 with|none=>none|some x2=>match idx a2 a4 with|none=>none|some x3=>match(fits ((AM a3)+(AM ([(x2.1,(x3.2.1,()))]:List U3))))with
    |true=>some (.inl (a0,a1,a2,(A5 a3 ([(x2.1,(x3.2.1,()))]:List U3)),(IntKind.wrap .i64 (a4+1)),()))
    |false=>none
   |false=>some (.inl (a0,a1,a2,a3,(IntKind.wrap .i64 (a4+1)),()))
  |false=>some (.inl (a0,a1,a2,a3,(IntKind.wrap .i64 (a4+1)),()))
 |false=>some (.inr (.inl (a3,())))
def M0[Lk]:(Ud×Int×Unit)→Option (V2):=fun(a0,a1,_)=>
 match AR ET many (a1,a0.1,a0.2.1,([]:List U3),0,())with|none=>none|some r=>match r with
 |.inl (o0,_)=>some (o0,())
 |.inr _=>none
def Ii[Lk]:=fun v=>Lk.f (M0 v)
theorem YA v:Ii v=M0 v:=AJ _
def PE[Lk]:(Ud×Int×Unit)→Option (Vc):=fun(a0,a1,_)=>
 match Ch ((a0.1,(a0.2.1,())),())with|none=>none|some (y0,_)=>match(!y0)with
 |true=>some ((0,(([]:List U4),())),1,())
 |false=>match Ii ((a0.1,(a0.2.1,())),a1,())with|none=>none|some (y1,_)=>match AeK (a0.1,y1,())with|none=>none|some (y2,y3,_)=>some ((y2.1,(y2.2.1,())),y3,())
def ANB[Lk]:=fun v=>Lk.f (PE v)
theorem ANA v:ANB v=PE v:=AJ _
abbrev Ya:AF:=[(.tmp 0,.dat Uc),(.tmp 1,.dat Uc)]
abbrev YZ:AF:=[(.tmp 0,.dat .bool)]
abbrev YY:List RS:=[.one]
abbrev ADv:AF:=[(.tmp 2,.box 2),(.cell 0 0,.di),(.cell 0 1,.dat Uq),(.tmp 3,.box 2),(.cell 1 0,.di),(.cell 1 1,.dat Uq),(.tmp 5,.di)]
abbrev ADu:A0:=[(.ret,[(.tmp 4,.dat .bool)]),(.exit 0,[])]
def Eo[Lk]:(Int×List U1×Int×List U1×Int×Unit)→Option ((Int×List U1×Int×List U1×Int×Unit)⊕Ug⊕(Unit)⊕Unit):=fun(a0,a1,a2,a3,a4,_)=>
 match(ilt a4 (AM a1))with
 |true=>match idx a1 a4 with|none=>none|some x0=>match idx a3 a4 with|none=>none|some x1=>match(!(ieq x0.1 x1.1&&(ieq x0.2.1 x1.2.1&&(ieq x0.2.2.1 x1.2.2.1&&((x0.2.2.2.1==x1.2.2.2.1)&&true)))))with
  |true=>some (.inr (.inl (false,())))
  |false=>some (.inl (a0,a1,a2,a3,(IntKind.wrap .i64 (a4+1)),()))
 |false=>some (.inr (.inr (.inl ())))
def Pt[Lk]:(Ud×Ud×Unit)→Option (Ug):=fun(a0,a1,_)=>
 match(!(ieq a0.1 a1.1))with
 |true=>some (false,())
 |false=>match(!(ieq (AM a0.2.1) (AM a1.2.1)))with
 |true=>some (false,())
 |false=>match AR Eo many (a0.1,a0.2.1,a1.1,a1.2.1,0,())with|none=>none|some r=>match r with
 |.inl (o0,_)=>some (o0,())
 |.inr r=>match r with
 |.inl _=>some (true,())
 |.inr _=>none
def OZ[Lk]:=fun v=>Lk.f (Pt v)
theorem ADw v:OZ v=Pt v:=AJ _
abbrev AH3:AF:=[(.tmp 0,.dat Uy),(.tmp 1,.dat U5)]
abbrev AH2:AF:=[(.tmp 0,.dat .bool)]
abbrev AH1:List RS:=[.one]
abbrev AMx:AF:=[(.tmp 0,.dat Uy),(.tmp 3,.box 2),(.cell 0 0,.di),(.cell 0 1,.di),(.tmp 5,.di)]
abbrev AMw:A0:=[(.ret,[(.tmp 4,.dat .bool)]),(.exit 0,[])]
def IF[Lk]:(List U3×Int×Int×Int×Unit)→Option ((List U3×Int×Int×Int×Unit)⊕Ug⊕(Unit)⊕Unit):=fun(a0,a1,a2,a3,_)=>
 match(ilt a3 (AM a0))with
 |true=>match idx a0 a3 with|none=>none|some x0=>match(ieq x0.1 a1&&(ieq x0.2.1 a2&&true))with
  |true=>some (.inr (.inl (true,())))
  |false=>some (.inl (a0,a1,a2,(IntKind.wrap .i64 (a3+1)),()))
 |false=>some (.inr (.inr (.inl ())))
def Xd[Lk]:(List U3×U3×Unit)→Option (Ug):=fun(a0,a1,_)=>
 match AR IF many (a0,a1.1,a1.2.1,0,())with|none=>none|some r=>match r with
 |.inl (o0,_)=>some (o0,())
 |.inr r=>match r with
 |.inl _=>some (false,())
 |.inr _=>none
def Vw[Lk]:=fun v=>Lk.f (Xd v)
theorem AMy v:Vw v=Xd v:=AJ _
end
end Go.Pev
end
section
namespace Go.Pev
noncomputable section
attribute [local irreducible] MU JM N0 LJ AWb AWc AWd P2 Wi We YU JO AP many IntKind.wrap AM An AL A5 Bl Df Jt AE BV Bx imax AS Ag
abbrev SR:AF:=[(.tmp 0,.di),(.tmp 1,.dat Uy)]
abbrev SQ:AF:=[(.tmp 0,.own 42 U5)]
abbrev SO:List RS:=[.one]
abbrev ZC:AF:=[(.tmp 0,.di),(.tmp 1,.dat Uy),(.tmp 5,.own 42 U5),(.tmp 6,.di),(.tmp 7,.di)]
abbrev ZA:A0:=[(.exit 2,[(.tmp 0,.di),(.tmp 1,.dat Uy),(.tmp 5,.own 42 U5),(.tmp 6,.di)])]
def DX[Lk]:(Int×List U3×List U3×Int×Int×Unit)→Option ((Int×List U3×List U3×Int×Int×Unit)⊕(Int×List U3×List U3×Int×Unit)⊕Unit):=fun(a0,a1,a2,a3,a4,_)=>
 match(ilt a4 a0)with
 |true=>match Vw (a1,(a3,(a4,())),())with|none=>none|some (y0,_)=>match y0 with
  |true=>match(fits ((AM a2)+(AM ([(a3,(a4,()))]:List U3))))with
   |true=>some (.inl (a0,a1,(A5 a2 ([(a3,(a4,()))]:List U3)),a3,(IntKind.wrap .i64 (a4+1)),()))
   |false=>none
  |false=>match Vw (a1,(a4,(a3,())),())with|none=>none|some (y1,_)=>match y1 with
  |true=>match(fits ((AM a2)+(AM ([(a3,(a4,()))]:List U3))))with
   |true=>some (.inl (a0,a1,(A5 a2 ([(a3,(a4,()))]:List U3)),a3,(IntKind.wrap .i64 (a4+1)),()))
   |false=>none
  |false=>some (.inl (a0,a1,a2,a3,(IntKind.wrap .i64 (a4+1)),()))
 |false=>some (.inr (.inl (a0,a1,a2,a3,())))
abbrev ZD:AF:=[(.tmp 0,.di),(.tmp 1,.dat Uy),(.tmp 5,.own 42 U5),(.tmp 6,.di)]
abbrev ZB:A0:=[(.exit 0,[(.tmp 5,.own 42 U5)])]
def EZ[Lk]:(Int×List U3×List U3×Int×Unit)→Option ((Int×List U3×List U3×Int×Unit)⊕V2⊕Unit):=fun(a0,a1,a2,a3,_)=>
 match(ilt a3 a0)with
 |true=>match AR DX many (a0,a1,a2,a3,(IntKind.wrap .i64 (a3+1)),())with|none=>none|some r=>match r with
  |.inl (o0,o1,o2,o3,_)=>some (.inl (o0,o1,o2,(IntKind.wrap .i64 (o3+1)),()))
  |.inr _=>none
 |false=>some (.inr (.inl (a2,())))
def M8[Lk]:(Int×List U3×Unit)→Option (V2):=fun(a0,a1,_)=>
 match AR EZ many (a0,a1,([]:List U3),0,())with|none=>none|some r=>match r with
 |.inl (o0,_)=>some (o0,())
 |.inr _=>none
def M9[Lk]:=fun v=>Lk.f (M8 v)
theorem ZE v:M9 v=M8 v:=AJ _
abbrev TF:AF:=[(.tmp 0,.dat Uc),(.tmp 1,.di)]
abbrev TE:AF:=[(.tmp 0,.dat Us),(.tmp 1,.di)]
abbrev TD:List RS:=[.one,.one]
def Jh[Lk]:(Ud×Int×Unit)→Option (Vc):=fun(a0,a1,_)=>
 match Fv ((a0.1,(a0.2.1,())),())with|none=>none|some (y0,_)=>match(!y0)with
 |true=>some ((0,(([]:List U4),())),1,())
 |false=>match Ow ((a0.1,(a0.2.1,())),a1,())with|none=>none|some (y1,_)=>match fof (a0.1,y1,())with|none=>none|some (y2,y3,_)=>some ((y2.1,(y2.2.1,())),y3,())
def NY[Lk]:=fun v=>Lk.f (Jh v)
theorem Ox v:NY v=Jh v:=AJ _
abbrev AHd:AF:=[(.tmp 0,.di),(.tmp 1,.di)]
abbrev AHc:AF:=[(.tmp 0,.dat .bool)]
abbrev AHb:List RS:=[.one]
def XZ[Lk]:U3→Option (Ug):=fun(a0,a1,_)=>
 match AQf (a0,())with|none=>none|some (y0,_)=>match y0 with
 |true=>match AQf (a1,())with|none=>none|some (y1,_)=>match(!y1)with
  |true=>some (true,())
  |false=>some ((ilt a0 a1),())
 |false=>some ((ilt a0 a1),())
def ED[Lk]:=fun v=>Lk.f (XZ v)
theorem AMT v:ED v=XZ v:=AJ _
abbrev ART:AF:=[(.tmp 0,.own 3 U0),(.tmp 1,.di),(.tmp 2,.di)]
abbrev ARS:AF:=[(.obj 0,.own 3 U0)]
abbrev ARR:List RS:=[]
abbrev ATp:AF:=[(.obj 0,.own 3 U0),(.tmp 0,.own' 0),(.tmp 1,.di),(.tmp 2,.di),(.tmp 6,.di),(.tmp 7,.di)]
abbrev ATn:A0:=[(.exit 2,[(.obj 0,.own 3 U0),(.tmp 0,.own' 0),(.tmp 1,.di),(.tmp 2,.di),(.tmp 6,.di)])]
def NZ[Lk]:Ul→Option (Ul⊕U7⊕Unit):=fun(a0,a1,a2,a3,a4,_)=>
 match(ilt a1 a4)with
 |true=>match idx a0 a4 with|none=>none|some x0=>match idx a0 (IntKind.wrap .i64 (a4-1))with|none=>none|some x1=>match ED ((AL a0 (AE a4) 0),(AL a0 (AE (IntKind.wrap .i64 (a4-1))) 0),())with|none=>none|some (y2,_)=>match y2 with
  |true=>match idx a0 (IntKind.wrap .i64 (a4-1))with|none=>none|some x3=>match idx a0 a4 with|none=>none|some x4=>match idx a0 a4 with|none=>none|some x5=>match idx (An a0 (AE a4) (AL a0 (AE (IntKind.wrap .i64 (a4-1))) 0)) (IntKind.wrap .i64 (a4-1))with|none=>none|some x6=>some (.inl ((An (An a0 (AE a4) (AL a0 (AE (IntKind.wrap .i64 (a4-1))) 0)) (AE (IntKind.wrap .i64 (a4-1))) (AL a0 (AE a4) 0)),a1,a2,a3,(IntKind.wrap .i64 (a4-1)),()))
  |false=>some (.inr (.inl (a0,a1,a2,a3,())))
 |false=>some (.inr (.inl (a0,a1,a2,a3,())))
abbrev ATq:AF:=[(.obj 0,.own 3 U0),(.tmp 0,.own' 0),(.tmp 1,.di),(.tmp 2,.di),(.tmp 6,.di)]
abbrev ATo:A0:=[(.exit 0,[(.obj 0,.own 3 U0)])]
def Na[Lk]:U7→Option (U7⊕Ub⊕Unit):=fun(a0,a1,a2,a3,_)=>
 match(ilt a3 a2)with
 |true=>match AR NZ many (a0,a1,a2,a3,a3,())with|none=>none|some r=>match r with
  |.inl (o0,o1,o2,o3,_)=>some (.inl (o0,o1,o2,(IntKind.wrap .i64 (o3+1)),()))
  |.inr _=>none
 |false=>some (.inr (.inl (a0,())))
def AHn[Lk]:Ue→Option (Ub):=fun(a0,a1,a2,_)=>
 match AR Na many (a0,a1,a2,(IntKind.wrap .i64 (a1+1)),())with|none=>none|some r=>match r with
 |.inl (o0,_)=>some (o0,())
 |.inr _=>none
def AWW[Lk]:=fun v=>Lk.f (AHn v)
theorem ATr v:AWW v=AHn v:=AJ _
abbrev AFz:AF:=[(.tmp 0,.own 3 U0),(.tmp 1,.di),(.tmp 2,.di),(.tmp 3,.di)]
abbrev AFy:AF:=[(.obj 0,.own 3 U0)]
abbrev AFx:List RS:=[]
abbrev AKF:AF:=[(.obj 0,.own 3 U0),(.tmp 0,.own' 0),(.tmp 2,.di),(.tmp 3,.di),(.tmp 8,.di)]
abbrev AKE:A0:=[(.exit 0,[(.obj 0,.own 3 U0)]),(.ret,[(.obj 0,.own 3 U0)])]
def JU[Lk]:U7→Option (U7⊕Ub⊕Ub⊕Unit):=fun(a0,a1,a2,a3,_)=>
 match(ile a1 (IntKind.wrap .i64 ((IntKind.wrap .i64 (2*a3))+1)))with
 |true=>some (.inr (.inl (a0,())))
 |false=>match(ilt (IntKind.wrap .i64 ((IntKind.wrap .i64 ((IntKind.wrap .i64 (2*a3))+1))+1)) a1)with
 |true=>match idx a0 (IntKind.wrap .i64 (a2+(IntKind.wrap .i64 ((IntKind.wrap .i64 (2*a3))+1))))with|none=>none|some x0=>match idx a0 (IntKind.wrap .i64 ((IntKind.wrap .i64 (a2+(IntKind.wrap .i64 ((IntKind.wrap .i64 (2*a3))+1))))+1))with|none=>none|some x1=>match ED ((AL a0 (AE (IntKind.wrap .i64 (a2+(IntKind.wrap .i64 ((IntKind.wrap .i64 (2*a3))+1))))) 0),(AL a0 (AE (IntKind.wrap .i64 ((IntKind.wrap .i64 (a2+(IntKind.wrap .i64 ((IntKind.wrap .i64 (2*a3))+1))))+1))) 0),())with|none=>none|some (y2,_)=>match y2 with
  |true=>match idx a0 (IntKind.wrap .i64 (a2+a3))with|none=>none|some x3=>match idx a0 (IntKind.wrap .i64 (a2+(IntKind.wrap .i64 ((IntKind.wrap .i64 ((IntKind.wrap .i64 (2*a3))+1))+1))))with|none=>none|some x4=>match ED ((AL a0 (AE (IntKind.wrap .i64 (a2+a3))) 0),(AL a0 (AE (IntKind.wrap .i64 (a2+(IntKind.wrap .i64 ((IntKind.wrap .i64 ((IntKind.wrap .i64 (2*a3))+1))+1))))) 0),())with|none=>none|some (y5,_)=>match(!y5)with
   |true=>some (.inr (.inr (.inl (a0,()))))
   |false=>match idx a0 (IntKind.wrap .i64 (a2+(IntKind.wrap .i64 ((IntKind.wrap .i64 ((IntKind.wrap .i64 (2*a3))+1))+1))))with|none=>none|some x6=>match idx a0 (IntKind.wrap .i64 (a2+a3))with|none=>none|some x7=>match idx a0 (IntKind.wrap .i64 (a2+a3))with|none=>none|some x8=>match idx (An a0 (AE (IntKind.wrap .i64 (a2+a3))) (AL a0 (AE (IntKind.wrap .i64 (a2+(IntKind.wrap .i64 ((IntKind.wrap .i64 ((IntKind.wrap .i64 (2*a3))+1))+1))))) 0)) (IntKind.wrap .i64 (a2+(IntKind.wrap .i64 ((IntKind.wrap .i64 ((IntKind.wrap .i64 (2*a3))+1))+1))))with|none=>none|some x9=>some (.inl ((An (An a0 (AE (IntKind.wrap .i64 (a2+a3))) (AL a0 (AE (IntKind.wrap .i64 (a2+(IntKind.wrap .i64 ((IntKind.wrap .i64 ((IntKind.wrap .i64 (2*a3))+1))+1))))) 0)) (AE (IntKind.wrap .i64 (a2+(IntKind.wrap .i64 ((IntKind.wrap .i64 ((IntKind.wrap .i64 (2*a3))+1))+1))))) (AL a0 (AE (IntKind.wrap .i64 (a2+a3))) 0)),a1,a2,(IntKind.wrap .i64 ((IntKind.wrap .i64 ((IntKind.wrap .i64 (2*a3))+1))+1)),()))
  |false=>match idx a0 (IntKind.wrap .i64 (a2+a3))with|none=>none|some x10=>match idx a0 (IntKind.wrap .i64 (a2+(IntKind.wrap .i64 ((IntKind.wrap .i64 (2*a3))+1))))with|none=>none|some x11=>match ED ((AL a0 (AE (IntKind.wrap .i64 (a2+a3))) 0),(AL a0 (AE (IntKind.wrap .i64 (a2+(IntKind.wrap .i64 ((IntKind.wrap .i64 (2*a3))+1))))) 0),())with|none=>none|some (y12,_)=>match(!y12)with
  |true=>some (.inr (.inr (.inl (a0,()))))
  |false=>match idx a0 (IntKind.wrap .i64 (a2+(IntKind.wrap .i64 ((IntKind.wrap .i64 (2*a3))+1))))with|none=>none|some x13=>match idx a0 (IntKind.wrap .i64 (a2+a3))with|none=>none|some x14=>match idx a0 (IntKind.wrap .i64 (a2+a3))with|none=>none|some x15=>match idx (An a0 (AE (IntKind.wrap .i64 (a2+a3))) (AL a0 (AE (IntKind.wrap .i64 (a2+(IntKind.wrap .i64 ((IntKind.wrap .i64 (2*a3))+1))))) 0)) (IntKind.wrap .i64 (a2+(IntKind.wrap .i64 ((IntKind.wrap .i64 (2*a3))+1))))with|none=>none|some x16=>some (.inl ((An (An a0 (AE (IntKind.wrap .i64 (a2+a3))) (AL a0 (AE (IntKind.wrap .i64 (a2+(IntKind.wrap .i64 ((IntKind.wrap .i64 (2*a3))+1))))) 0)) (AE (IntKind.wrap .i64 (a2+(IntKind.wrap .i64 ((IntKind.wrap .i64 (2*a3))+1))))) (AL a0 (AE (IntKind.wrap .i64 (a2+a3))) 0)),a1,a2,(IntKind.wrap .i64 ((IntKind.wrap .i64 (2*a3))+1)),()))
 |false=>match idx a0 (IntKind.wrap .i64 (a2+a3))with|none=>none|some x17=>match idx a0 (IntKind.wrap .i64 (a2+(IntKind.wrap .i64 ((IntKind.wrap .i64 (2*a3))+1))))with|none=>none|some x18=>match ED ((AL a0 (AE (IntKind.wrap .i64 (a2+a3))) 0),(AL a0 (AE (IntKind.wrap .i64 (a2+(IntKind.wrap .i64 ((IntKind.wrap .i64 (2*a3))+1))))) 0),())with|none=>none|some (y19,_)=>match(!y19)with
 |true=>some (.inr (.inr (.inl (a0,()))))
 |false=>match idx a0 (IntKind.wrap .i64 (a2+(IntKind.wrap .i64 ((IntKind.wrap .i64 (2*a3))+1))))with|none=>none|some x20=>match idx a0 (IntKind.wrap .i64 (a2+a3))with|none=>none|some x21=>match idx a0 (IntKind.wrap .i64 (a2+a3))with|none=>none|some x22=>match idx (An a0 (AE (IntKind.wrap .i64 (a2+a3))) (AL a0 (AE (IntKind.wrap .i64 (a2+(IntKind.wrap .i64 ((IntKind.wrap .i64 (2*a3))+1))))) 0)) (IntKind.wrap .i64 (a2+(IntKind.wrap .i64 ((IntKind.wrap .i64 (2*a3))+1))))with|none=>none|some x23=>some (.inl ((An (An a0 (AE (IntKind.wrap .i64 (a2+a3))) (AL a0 (AE (IntKind.wrap .i64 (a2+(IntKind.wrap .i64 ((IntKind.wrap .i64 (2*a3))+1))))) 0)) (AE (IntKind.wrap .i64 (a2+(IntKind.wrap .i64 ((IntKind.wrap .i64 (2*a3))+1))))) (AL a0 (AE (IntKind.wrap .i64 (a2+a3))) 0)),a1,a2,(IntKind.wrap .i64 ((IntKind.wrap .i64 (2*a3))+1)),()))
def XI[Lk]:U7→Option (Ub):=fun(a0,a1,a2,a3,_)=>
 match AR JU many (a0,a2,a3,a1,())with|none=>none|some r=>match r with
 |.inl (o0,_)=>some (o0,())
 |.inr r=>match r with
 |.inl (o1,_)=>some (o1,())
 |.inr _=>none
def ADr[Lk]:=fun v=>Lk.f (XI v)
theorem AKG v:ADr v=XI v:=AJ _
abbrev AHy:AF:=[(.tmp 0,.own 3 U0),(.tmp 1,.di),(.tmp 2,.di)]
abbrev AHx:AF:=[(.obj 0,.own 3 U0)]
abbrev AHw:List RS:=[]
abbrev AMp:AF:=[(.obj 0,.own 3 U0),(.tmp 0,.own' 0),(.tmp 6,.di),(.tmp 7,.di),(.tmp 10,.di)]
abbrev AMn:A0:=[(.exit 2,[(.obj 0,.own 3 U0)])]
def Jk[Lk]:U7→Option (U7⊕Ub⊕Unit):=fun(a0,a1,a2,a3,_)=>
 match(ile 0 a3)with
 |true=>match idx a0 (IntKind.wrap .i64 (a1+a3))with|none=>none|some x0=>match idx a0 a1 with|none=>none|some x1=>match idx a0 a1 with|none=>none|some x2=>match idx (An a0 (AE a1) (AL a0 (AE (IntKind.wrap .i64 (a1+a3))) 0)) (IntKind.wrap .i64 (a1+a3))with|none=>none|some x3=>match ADr ((An (An a0 (AE a1) (AL a0 (AE (IntKind.wrap .i64 (a1+a3))) 0)) (AE (IntKind.wrap .i64 (a1+a3))) (AL a0 (AE a1) 0)),a2,a3,a1,())with|none=>none|some (y4,_)=>some (.inl (y4,a1,a2,(IntKind.wrap .i64 (a3-1)),()))
 |false=>some (.inr (.inl (a0,())))
abbrev AMq:AF:=[(.obj 0,.own 3 U0),(.tmp 0,.own' 0),(.tmp 6,.di),(.tmp 7,.di),(.tmp 8,.di),(.tmp 9,.di)]
abbrev AMo:A0:=[(.exit 0,[(.obj 0,.own 3 U0),(.tmp 0,.own' 0),(.tmp 6,.di),(.tmp 7,.di),(.tmp 8,.di)])]
def Jl[Lk]:Ul→Option (Ul⊕U7⊕Unit):=fun(a0,a1,a2,a3,a4,_)=>
 match(ile 0 a4)with
 |true=>match ADr (a0,a4,a3,a1,())with|none=>none|some (y0,_)=>some (.inl (y0,a1,a2,a3,(IntKind.wrap .i64 (a4-1)),()))
 |false=>some (.inr (.inl (a0,a1,a2,a3,())))
def Xb[Lk]:Ue→Option (Ub):=fun(a0,a1,a2,_)=>
 match quo? .i64 (IntKind.wrap .i64 ((IntKind.wrap .i64 (a2-a1))-1)) 2 with|none=>none|some x0=>match AR Jl many (a0,a1,0,(IntKind.wrap .i64 (a2-a1)),x0,())with|none=>none|some r=>match r with
 |.inl (o1,o2,o3,o4,_)=>match AR Jk many (o1,o2,o3,(IntKind.wrap .i64 (o4-1)),())with|none=>none|some r=>match r with
  |.inl (o5,_)=>some (o5,())
  |.inr _=>none
 |.inr _=>none
def AEe[Lk]:=fun v=>Lk.f (Xb v)
theorem AMr v:AEe v=Xb v:=AJ _
abbrev ABj:AF:=[(.tmp 0,.own 3 U0),(.tmp 1,.di),(.tmp 2,.di)]
abbrev ABi:AF:=[(.obj 0,.own 3 U0)]
abbrev ABh:List RS:=[]
abbrev AEt:AF:=[(.obj 0,.own 3 U0),(.tmp 0,.own' 0),(.tmp 1,.di),(.tmp 6,.di),(.tmp 7,.box 1),(.cell 1 0,.dat (.int .u64)),(.tmp 8,.dat (.int .u64)),(.tmp 9,.di)]
abbrev AEs:A0:=[(.exit 0,[(.obj 0,.own 3 U0)])]
def GH[Lk]:Ut→Option (Ut⊕Ub⊕Unit):=fun(a0,a1,a2,a3,a4,a5,_)=>
 match quo? .i64 a2 4 with|none=>none|some x0=>match(ile a5 (IntKind.wrap .i64 ((IntKind.wrap .i64 (a1+(IntKind.wrap .i64 (x0*2))))+1)))with
 |true=>match xorNext (a3,())with|none=>none|some (y1,y2,_)=>match(ile a2 (IntKind.wrap .i64 (IntKind.wrap .u64 ((BitVec.ofInt (IntKind.bits .u64) y2 &&& BitVec.ofInt (IntKind.bits .u64) (IntKind.wrap .u64 (a4-1))).toNat))))with
  |true=>match idx a0 (IntKind.wrap .i64 (a1+(IntKind.wrap .i64 ((IntKind.wrap .i64 (IntKind.wrap .u64 ((BitVec.ofInt (IntKind.bits .u64) y2 &&& BitVec.ofInt (IntKind.bits .u64) (IntKind.wrap .u64 (a4-1))).toNat)))-a2))))with|none=>none|some x3=>match idx a0 a5 with|none=>none|some x4=>match idx a0 a5 with|none=>none|some x5=>match idx (An a0 (AE a5) (AL a0 (AE (IntKind.wrap .i64 (a1+(IntKind.wrap .i64 ((IntKind.wrap .i64 (IntKind.wrap .u64 ((BitVec.ofInt (IntKind.bits .u64) y2 &&& BitVec.ofInt (IntKind.bits .u64) (IntKind.wrap .u64 (a4-1))).toNat)))-a2))))) 0)) (IntKind.wrap .i64 (a1+(IntKind.wrap .i64 ((IntKind.wrap .i64 (IntKind.wrap .u64 ((BitVec.ofInt (IntKind.bits .u64) y2 &&& BitVec.ofInt (IntKind.bits .u64) (IntKind.wrap .u64 (a4-1))).toNat)))-a2))))with|none=>none|some x6=>some (.inl ((An (An a0 (AE a5) (AL a0 (AE (IntKind.wrap .i64 (a1+(IntKind.wrap .i64 ((IntKind.wrap .i64 (IntKind.wrap .u64 ((BitVec.ofInt (IntKind.bits .u64) y2 &&& BitVec.ofInt (IntKind.bits .u64) (IntKind.wrap .u64 (a4-1))).toNat)))-a2))))) 0)) (AE (IntKind.wrap .i64 (a1+(IntKind.wrap .i64 ((IntKind.wrap .i64 (IntKind.wrap .u64 ((BitVec.ofInt (IntKind.bits .u64) y2 &&& BitVec.ofInt (IntKind.bits .u64) (IntKind.wrap .u64 (a4-1))).toNat)))-a2))))) (AL a0 (AE a5) 0)),a1,a2,y1,a4,(IntKind.wrap .i64 (a5+1)),()))
  |false=>match idx a0 (IntKind.wrap .i64 (a1+(IntKind.wrap .i64 (IntKind.wrap .u64 ((BitVec.ofInt (IntKind.bits .u64) y2 &&& BitVec.ofInt (IntKind.bits .u64) (IntKind.wrap .u64 (a4-1))).toNat)))))with|none=>none|some x7=>match idx a0 a5 with|none=>none|some x8=>match idx a0 a5 with|none=>none|some x9=>match idx (An a0 (AE a5) (AL a0 (AE (IntKind.wrap .i64 (a1+(IntKind.wrap .i64 (IntKind.wrap .u64 ((BitVec.ofInt (IntKind.bits .u64) y2 &&& BitVec.ofInt (IntKind.bits .u64) (IntKind.wrap .u64 (a4-1))).toNat)))))) 0)) (IntKind.wrap .i64 (a1+(IntKind.wrap .i64 (IntKind.wrap .u64 ((BitVec.ofInt (IntKind.bits .u64) y2 &&& BitVec.ofInt (IntKind.bits .u64) (IntKind.wrap .u64 (a4-1))).toNat)))))with|none=>none|some x10=>some (.inl ((An (An a0 (AE a5) (AL a0 (AE (IntKind.wrap .i64 (a1+(IntKind.wrap .i64 (IntKind.wrap .u64 ((BitVec.ofInt (IntKind.bits .u64) y2 &&& BitVec.ofInt (IntKind.bits .u64) (IntKind.wrap .u64 (a4-1))).toNat)))))) 0)) (AE (IntKind.wrap .i64 (a1+(IntKind.wrap .i64 (IntKind.wrap .u64 ((BitVec.ofInt (IntKind.bits .u64) y2 &&& BitVec.ofInt (IntKind.bits .u64) (IntKind.wrap .u64 (a4-1))).toNat)))))) (AL a0 (AE a5) 0)),a1,a2,y1,a4,(IntKind.wrap .i64 (a5+1)),()))
 |false=>some (.inr (.inl (a0,())))
def RD[Lk]:Ue→Option (Ub):=fun(a0,a1,a2,_)=>
 match(ile 8 (IntKind.wrap .i64 (a2-a1)))with
 |true=>match NO ((IntKind.wrap .i64 (a2-a1)),())with|none=>none|some (y0,_)=>match quo? .i64 (IntKind.wrap .i64 (a2-a1)) 4 with|none=>none|some x1=>match AR GH many (a0,a1,(IntKind.wrap .i64 (a2-a1)),(IntKind.wrap .u64 (IntKind.wrap .i64 (a2-a1))),y0,(IntKind.wrap .i64 ((IntKind.wrap .i64 (a1+(IntKind.wrap .i64 (x1*2))))-1)),())with|none=>none|some r=>match r with
  |.inl (o2,_)=>some (o2,())
  |.inr _=>none
 |false=>some (a0,())
def Tq[Lk]:=fun v=>Lk.f (RD v)
theorem AEu v:Tq v=RD v:=AJ _
abbrev Sm:AF:=[(.tmp 0,.own 3 U0),(.tmp 1,.di),(.tmp 2,.di),(.tmp 3,.box 1),(.cell 1 0,.di)]
abbrev Sl:AF:=[(.obj 0,.own 3 U0),(.obj 1,.box 1),(.cell 1 0,.di),(.tmp 0,.di),(.tmp 1,.di)]
abbrev Sk:List RS:=[.one,.one]
def NJ[Lk]:U7→Option (U7):=fun(a0,a1,a2,a3,_)=>
 match idx a0 a2 with|none=>none|some x0=>match idx a0 a1 with|none=>none|some x1=>match ED ((AL a0 (AE a2) 0),(AL a0 (AE a1) 0),())with|none=>none|some (y2,_)=>match y2 with
 |true=>some (a0,(IntKind.wrap .i64 (a3+1)),a2,a1,())
 |false=>some (a0,a3,a1,a2,())
def KP[Lk]:=fun v=>Lk.f (NJ v)
theorem Z4 v:KP v=NJ v:=AJ _
abbrev Sy:AF:=[(.tmp 0,.own 3 U0),(.tmp 1,.di),(.tmp 2,.di),(.tmp 3,.di),(.tmp 4,.box 1),(.cell 1 0,.di)]
abbrev Sx:AF:=[(.obj 0,.own 3 U0),(.obj 1,.box 1),(.cell 1 0,.di),(.tmp 0,.di)]
abbrev Sw:List RS:=[.one]
def NQ[Lk]:Ul→Option (Ue):=fun(a0,a1,a2,a3,a4,_)=>
 match KP (a0,a1,a2,a4,())with|none=>none|some (y0,y1,y2,y3,_)=>match KP (y0,y3,a3,y1,())with|none=>none|some (y4,y5,y6,y7,_)=>match KP (y4,y2,y6,y5,())with|none=>none|some (y8,y9,y10,y11,_)=>some (y8,y9,y11,())
def KW[Lk]:=fun v=>Lk.f (NQ v)
theorem AAC v:KW v=NQ v:=AJ _
abbrev S5:AF:=[(.tmp 0,.own 3 U0),(.tmp 1,.di),(.tmp 2,.box 1),(.cell 1 0,.di)]
abbrev S4:AF:=[(.obj 0,.own 3 U0),(.obj 1,.box 1),(.cell 1 0,.di),(.tmp 0,.di)]
abbrev S3:List RS:=[.one]
def NT[Lk]:Ue→Option (Ue):=fun(a0,a1,a2,_)=>
 match KW (a0,(IntKind.wrap .i64 (a1-1)),a1,(IntKind.wrap .i64 (a1+1)),a2,())with|none=>none|some (y0,y1,y2,_)=>some (y0,y1,y2,())
def KX[Lk]:=fun v=>Lk.f (NT v)
theorem AAD v:KX v=NT v:=AJ _
abbrev ZO:AF:=[(.tmp 0,.own 3 U0),(.tmp 1,.di),(.tmp 2,.di)]
abbrev ZN:AF:=[(.obj 0,.own 3 U0),(.tmp 0,.di),(.tmp 1,.di)]
abbrev ZM:List RS:=[.one,.one]
def QA[Lk]:Ue→Option (Ue):=fun(a0,a1,a2,_)=>
 match quo? .i64 (IntKind.wrap .i64 (a2-a1)) 4 with|none=>none|some x0=>match quo? .i64 (IntKind.wrap .i64 (a2-a1)) 4 with|none=>none|some x1=>match quo? .i64 (IntKind.wrap .i64 (a2-a1)) 4 with|none=>none|some x2=>match(ile 8 (IntKind.wrap .i64 (a2-a1)))with
 |true=>match(ile 50 (IntKind.wrap .i64 (a2-a1)))with
  |true=>match KX (a0,(IntKind.wrap .i64 (a1+(IntKind.wrap .i64 (x0*1)))),0,())with|none=>none|some (y3,y4,y5,_)=>match KX (y3,(IntKind.wrap .i64 (a1+(IntKind.wrap .i64 (x1*2)))),y4,())with|none=>none|some (y6,y7,y8,_)=>match KX (y6,(IntKind.wrap .i64 (a1+(IntKind.wrap .i64 (x2*3)))),y7,())with|none=>none|some (y9,y10,y11,_)=>match KW (y9,y5,y8,y11,y10,())with|none=>none|some (y12,y13,y14,_)=>match(ieq y13 0)with
   |true=>some (y12,y14,1,())
   |false=>match(ieq y13 12)with
   |true=>some (y12,y14,2,())
   |false=>some (y12,y14,0,())
  |false=>match KW (a0,(IntKind.wrap .i64 (a1+(IntKind.wrap .i64 (x0*1)))),(IntKind.wrap .i64 (a1+(IntKind.wrap .i64 (x1*2)))),(IntKind.wrap .i64 (a1+(IntKind.wrap .i64 (x2*3)))),0,())with|none=>none|some (y15,y16,y17,_)=>match(ieq y16 0)with
  |true=>some (y15,y17,1,())
  |false=>match(ieq y16 12)with
  |true=>some (y15,y17,2,())
  |false=>some (y15,y17,0,())
 |false=>match(ieq 0 0)with
 |true=>some (a0,(IntKind.wrap .i64 (a1+(IntKind.wrap .i64 (x1*2)))),1,())
 |false=>match(ieq 0 12)with
 |true=>some (a0,(IntKind.wrap .i64 (a1+(IntKind.wrap .i64 (x1*2)))),2,())
 |false=>some (a0,(IntKind.wrap .i64 (a1+(IntKind.wrap .i64 (x1*2)))),0,())
def SW[Lk]:=fun v=>Lk.f (QA v)
theorem AEC v:SW v=QA v:=AJ _
abbrev APG:AF:=[(.tmp 0,.own 3 U0),(.tmp 1,.di),(.tmp 2,.di)]
abbrev APF:AF:=[(.obj 0,.own 3 U0)]
abbrev APE:List RS:=[]
abbrev ATD:AF:=[(.obj 0,.own 3 U0),(.tmp 0,.own' 0),(.tmp 6,.di),(.tmp 7,.di)]
abbrev ATC:A0:=[(.exit 0,[(.obj 0,.own 3 U0)])]
def Pz[Lk]:Ue→Option (Ue⊕Ub⊕Unit):=fun(a0,a1,a2,_)=>
 match(ilt a1 a2)with
 |true=>match idx a0 a2 with|none=>none|some x0=>match idx a0 a1 with|none=>none|some x1=>match idx a0 a1 with|none=>none|some x2=>match idx (An a0 (AE a1) (AL a0 (AE a2) 0)) a2 with|none=>none|some x3=>some (.inl ((An (An a0 (AE a1) (AL a0 (AE a2) 0)) (AE a2) (AL a0 (AE a1) 0)),(IntKind.wrap .i64 (a1+1)),(IntKind.wrap .i64 (a2-1)),()))
 |false=>some (.inr (.inl (a0,())))
def AGE[Lk]:Ue→Option (Ub):=fun(a0,a1,a2,_)=>
 match AR Pz many (a0,a1,(IntKind.wrap .i64 (a2-1)),())with|none=>none|some r=>match r with
 |.inl (o0,_)=>some (o0,())
 |.inr _=>none
def AU9[Lk]:=fun v=>Lk.f (AGE v)
theorem ATE v:AU9 v=AGE v:=AJ _
abbrev On:AF:=[(.tmp 0,.own 3 U0),(.tmp 1,.di),(.tmp 2,.di)]
abbrev Om:AF:=[(.obj 0,.own 3 U0),(.tmp 0,.dat .bool)]
abbrev Ol:List RS:=[.one]
abbrev VV:AF:=[(.obj 0,.own 3 U0),(.tmp 0,.own' 0),(.tmp 1,.di),(.tmp 2,.di),(.tmp 7,.di),(.tmp 8,.di),(.tmp 10,.di)]
abbrev VR:A0:=[(.exit 6,[(.obj 0,.own 3 U0),(.tmp 0,.own' 0),(.tmp 1,.di),(.tmp 2,.di),(.tmp 7,.di),(.tmp 8,.di)])]
def Eu[Lk]:Ut→Option (Ut⊕Ul⊕Unit):=fun(a0,a1,a2,a3,a4,a5,_)=>
 match(ilt a5 a2)with
 |true=>match idx a0 a5 with|none=>none|some x0=>match idx a0 (IntKind.wrap .i64 (a5-1))with|none=>none|some x1=>match ED ((AL a0 (AE a5) 0),(AL a0 (AE (IntKind.wrap .i64 (a5-1))) 0),())with|none=>none|some (y2,_)=>match(!y2)with
  |true=>some (.inr (.inl (a0,a1,a2,a3,a4,())))
  |false=>match idx a0 (IntKind.wrap .i64 (a5-1))with|none=>none|some x3=>match idx a0 a5 with|none=>none|some x4=>match idx a0 a5 with|none=>none|some x5=>match idx (An a0 (AE a5) (AL a0 (AE (IntKind.wrap .i64 (a5-1))) 0)) (IntKind.wrap .i64 (a5-1))with|none=>none|some x6=>some (.inl ((An (An a0 (AE a5) (AL a0 (AE (IntKind.wrap .i64 (a5-1))) 0)) (AE (IntKind.wrap .i64 (a5-1))) (AL a0 (AE a5) 0)),a1,a2,a3,a4,(IntKind.wrap .i64 (a5+1)),()))
 |false=>some (.inr (.inl (a0,a1,a2,a3,a4,())))
abbrev VW:AF:=[(.obj 0,.own 3 U0),(.tmp 0,.own' 0),(.tmp 1,.di),(.tmp 2,.di),(.tmp 7,.di),(.tmp 8,.di),(.tmp 9,.di)]
abbrev VS:A0:=[(.exit 4,[(.obj 0,.own 3 U0),(.tmp 0,.own' 0),(.tmp 1,.di),(.tmp 2,.di),(.tmp 7,.di),(.tmp 8,.di)])]
def Ev[Lk]:Ut→Option (Ut⊕Ul⊕Unit):=fun(a0,a1,a2,a3,a4,a5,_)=>
 match(ile 1 a5)with
 |true=>match idx a0 a5 with|none=>none|some x0=>match idx a0 (IntKind.wrap .i64 (a5-1))with|none=>none|some x1=>match ED ((AL a0 (AE a5) 0),(AL a0 (AE (IntKind.wrap .i64 (a5-1))) 0),())with|none=>none|some (y2,_)=>match(!y2)with
  |true=>some (.inr (.inl (a0,a1,a2,a3,a4,())))
  |false=>match idx a0 (IntKind.wrap .i64 (a5-1))with|none=>none|some x3=>match idx a0 a5 with|none=>none|some x4=>match idx a0 a5 with|none=>none|some x5=>match idx (An a0 (AE a5) (AL a0 (AE (IntKind.wrap .i64 (a5-1))) 0)) (IntKind.wrap .i64 (a5-1))with|none=>none|some x6=>some (.inl ((An (An a0 (AE a5) (AL a0 (AE (IntKind.wrap .i64 (a5-1))) 0)) (AE (IntKind.wrap .i64 (a5-1))) (AL a0 (AE a5) 0)),a1,a2,a3,a4,(IntKind.wrap .i64 (a5-1)),()))
 |false=>some (.inr (.inl (a0,a1,a2,a3,a4,())))
abbrev VX:AF:=[(.obj 0,.own 3 U0),(.tmp 0,.own' 0),(.tmp 1,.di),(.tmp 2,.di),(.tmp 7,.di),(.tmp 8,.di)]
abbrev VT:A0:=[(.exit 2,[(.obj 0,.own 3 U0),(.tmp 0,.own' 0),(.tmp 1,.di),(.tmp 2,.di),(.tmp 7,.di),(.tmp 8,.di)])]
def Ge[Lk]:Ul→Option (Ul⊕Ul⊕Unit):=fun(a0,a1,a2,a3,a4,_)=>
 match(ilt a3 a2)with
 |true=>match idx a0 a3 with|none=>none|some x0=>match idx a0 (IntKind.wrap .i64 (a3-1))with|none=>none|some x1=>match ED ((AL a0 (AE a3) 0),(AL a0 (AE (IntKind.wrap .i64 (a3-1))) 0),())with|none=>none|some (y2,_)=>match(!y2)with
  |true=>some (.inl (a0,a1,a2,(IntKind.wrap .i64 (a3+1)),a4,()))
  |false=>some (.inr (.inl (a0,a1,a2,a3,a4,())))
 |false=>some (.inr (.inl (a0,a1,a2,a3,a4,())))
abbrev VY:AF:=[(.obj 0,.own 3 U0),(.tmp 0,.own' 0),(.tmp 1,.di),(.tmp 2,.di),(.tmp 7,.di),(.tmp 8,.di)]
abbrev VU:A0:=[(.ret,[(.obj 0,.own 3 U0),(.tmp 6,.dat .bool)]),(.exit 0,[(.obj 0,.own 3 U0)])]
def CR[Lk]:Ul→Option (Ul⊕Vh⊕Ub⊕Unit):=fun(a0,a1,a2,a3,a4,_)=>
 match(ilt a4 5)with
 |true=>match AR Ge many (a0,a1,a2,a3,a4,())with|none=>none|some r=>match r with
  |.inl (o0,o1,o2,o3,o4,_)=>match(ieq o3 o2)with
   |true=>some (.inr (.inl (o0,true,())))
   |false=>match(ilt (IntKind.wrap .i64 (o2-o1)) 50)with
   |true=>some (.inr (.inl (o0,false,())))
   |false=>match idx o0 (IntKind.wrap .i64 (o3-1))with|none=>none|some x5=>match idx o0 o3 with|none=>none|some x6=>match idx o0 o3 with|none=>none|some x7=>match idx (An o0 (AE o3) (AL o0 (AE (IntKind.wrap .i64 (o3-1))) 0)) (IntKind.wrap .i64 (o3-1))with|none=>none|some x8=>match(ile 2 (IntKind.wrap .i64 (o3-o1)))with
   |true=>match AR Ev many ((An (An o0 (AE o3) (AL o0 (AE (IntKind.wrap .i64 (o3-1))) 0)) (AE (IntKind.wrap .i64 (o3-1))) (AL o0 (AE o3) 0)),o1,o2,o3,o4,(IntKind.wrap .i64 (o3-1)),())with|none=>none|some r=>match r with
    |.inl (o9,o10,o11,o12,o13,_)=>match(ile 2 (IntKind.wrap .i64 (o11-o12)))with
     |true=>match AR Eu many (o9,o10,o11,o12,o13,(IntKind.wrap .i64 (o12+1)),())with|none=>none|some r=>match r with
      |.inl (o14,o15,o16,o17,o18,_)=>some (.inl (o14,o15,o16,o17,(IntKind.wrap .i64 (o18+1)),()))
      |.inr _=>none
     |false=>some (.inl (o9,o10,o11,o12,(IntKind.wrap .i64 (o13+1)),()))
    |.inr _=>none
   |false=>match(ile 2 (IntKind.wrap .i64 (o2-o3)))with
   |true=>match AR Eu many ((An (An o0 (AE o3) (AL o0 (AE (IntKind.wrap .i64 (o3-1))) 0)) (AE (IntKind.wrap .i64 (o3-1))) (AL o0 (AE o3) 0)),o1,o2,o3,o4,(IntKind.wrap .i64 (o3+1)),())with|none=>none|some r=>match r with
    |.inl (o19,o20,o21,o22,o23,_)=>some (.inl (o19,o20,o21,o22,(IntKind.wrap .i64 (o23+1)),()))
    |.inr _=>none
   |false=>some (.inl ((An (An o0 (AE o3) (AL o0 (AE (IntKind.wrap .i64 (o3-1))) 0)) (AE (IntKind.wrap .i64 (o3-1))) (AL o0 (AE o3) 0)),o1,o2,o3,(IntKind.wrap .i64 (o4+1)),()))
  |.inr _=>none
 |false=>some (.inr (.inr (.inl (a0,()))))
def KK[Lk]:Ue→Option (Vh):=fun(a0,a1,a2,_)=>
 match AR CR many (a0,a1,a2,(IntKind.wrap .i64 (a1+1)),0,())with|none=>none|some r=>match r with
 |.inl (o0,o1,_)=>some (o0,o1,())
 |.inr r=>match r with
 |.inl (o2,_)=>some (o2,false,())
 |.inr _=>none
def Ja[Lk]:=fun v=>Lk.f (KK v)
theorem VZ v:Ja v=KK v:=AJ _
abbrev Sg:AF:=[(.tmp 0,.own 3 U0),(.tmp 1,.di),(.tmp 2,.di),(.tmp 3,.di)]
abbrev Sf:AF:=[(.obj 0,.own 3 U0),(.tmp 0,.di)]
abbrev Se:List RS:=[.one]
abbrev Zz:AF:=[(.obj 0,.own 3 U0),(.tmp 0,.own' 0),(.tmp 1,.di),(.tmp 9,.di),(.tmp 10,.di)]
abbrev Zw:A0:=[(.exit 4,[(.obj 0,.own 3 U0),(.tmp 0,.own' 0),(.tmp 1,.di),(.tmp 9,.di),(.tmp 10,.di)])]
def Hv[Lk]:U7→Option Vk:=fun(a0,a1,a2,a3,_)=>
 match(ile a2 a3)with
 |true=>match idx a0 a1 with|none=>none|some x0=>match idx a0 a3 with|none=>none|some x1=>match ED ((AL a0 (AE a1) 0),(AL a0 (AE a3) 0),())with|none=>none|some (y2,_)=>match y2 with
  |true=>some (.inl (a0,a1,a2,(IntKind.wrap .i64 (a3-1)),()))
  |false=>some (.inr (.inl (a0,a1,a2,a3,())))
 |false=>some (.inr (.inl (a0,a1,a2,a3,())))
abbrev Z0:AF:=[(.obj 0,.own 3 U0),(.tmp 0,.own' 0),(.tmp 1,.di),(.tmp 9,.di),(.tmp 10,.di)]
abbrev Zx:A0:=[(.exit 2,[(.obj 0,.own 3 U0),(.tmp 0,.own' 0),(.tmp 1,.di),(.tmp 9,.di),(.tmp 10,.di)])]
def Hw[Lk]:U7→Option Vk:=fun(a0,a1,a2,a3,_)=>
 match(ile a2 a3)with
 |true=>match idx a0 a1 with|none=>none|some x0=>match idx a0 a2 with|none=>none|some x1=>match ED ((AL a0 (AE a1) 0),(AL a0 (AE a2) 0),())with|none=>none|some (y2,_)=>match(!y2)with
  |true=>some (.inl (a0,a1,(IntKind.wrap .i64 (a2+1)),a3,()))
  |false=>some (.inr (.inl (a0,a1,a2,a3,())))
 |false=>some (.inr (.inl (a0,a1,a2,a3,())))
abbrev Z1:AF:=[(.obj 0,.own 3 U0),(.tmp 0,.own' 0),(.tmp 1,.di),(.tmp 9,.di),(.tmp 10,.di)]
abbrev Zy:A0:=[(.exit 0,[(.obj 0,.own 3 U0),(.tmp 9,.di)])]
def Hx[Lk]:U7→Option (U7⊕Ur⊕Unit):=fun(a0,a1,a2,a3,_)=>
 match AR Hw many (a0,a1,a2,a3,())with|none=>none|some r=>match r with
 |.inl (o0,o1,o2,o3,_)=>match AR Hv many (o0,o1,o2,o3,())with|none=>none|some r=>match r with
  |.inl (o4,o5,o6,o7,_)=>match(ilt o7 o6)with
   |true=>some (.inr (.inl (o4,o6,())))
   |false=>match idx o4 o7 with|none=>none|some x8=>match idx o4 o6 with|none=>none|some x9=>match idx o4 o6 with|none=>none|some x10=>match idx (An o4 (AE o6) (AL o4 (AE o7) 0)) o7 with|none=>none|some x11=>some (.inl ((An (An o4 (AE o6) (AL o4 (AE o7) 0)) (AE o7) (AL o4 (AE o6) 0)),o5,(IntKind.wrap .i64 (o6+1)),(IntKind.wrap .i64 (o7-1)),()))
  |.inr _=>none
 |.inr _=>none
def NG[Lk]:U7→Option (Ur):=fun(a0,a1,a2,a3,_)=>
 match idx a0 a3 with|none=>none|some x0=>match idx a0 a1 with|none=>none|some x1=>match idx a0 a1 with|none=>none|some x2=>match idx (An a0 (AE a1) (AL a0 (AE a3) 0)) a3 with|none=>none|some x3=>match AR Hx many ((An (An a0 (AE a1) (AL a0 (AE a3) 0)) (AE a3) (AL a0 (AE a1) 0)),a1,(IntKind.wrap .i64 (a1+1)),(IntKind.wrap .i64 (a2-1)),())with|none=>none|some r=>match r with
 |.inl (o4,o5,_)=>some (o4,o5,())
 |.inr _=>none
def NH[Lk]:=fun v=>Lk.f (NG v)
theorem Z2 v:NH v=NG v:=AJ _
abbrev AGy:AF:=[(.tmp 0,.own 3 U0),(.tmp 1,.di),(.tmp 2,.di),(.tmp 3,.di)]
abbrev AGx:AF:=[(.obj 0,.own 3 U0),(.tmp 0,.di),(.tmp 1,.dat .bool)]
abbrev AGw:List RS:=[.one,.one]
abbrev ALo:AF:=[(.obj 0,.own 3 U0),(.tmp 0,.own' 0),(.tmp 1,.di),(.tmp 10,.di),(.tmp 11,.di)]
abbrev ALj:A0:=[(.exit 8,[(.obj 0,.own 3 U0),(.tmp 0,.own' 0),(.tmp 1,.di),(.tmp 10,.di),(.tmp 11,.di)])]
def Ly[Lk]:U7→Option Vk:=fun(a0,a1,a2,a3,_)=>
 match(ile a2 a3)with
 |true=>match idx a0 a3 with|none=>none|some x0=>match idx a0 a1 with|none=>none|some x1=>match ED ((AL a0 (AE a3) 0),(AL a0 (AE a1) 0),())with|none=>none|some (y2,_)=>match(!y2)with
  |true=>some (.inl (a0,a1,a2,(IntKind.wrap .i64 (a3-1)),()))
  |false=>some (.inr (.inl (a0,a1,a2,a3,())))
 |false=>some (.inr (.inl (a0,a1,a2,a3,())))
abbrev ALp:AF:=[(.obj 0,.own 3 U0),(.tmp 0,.own' 0),(.tmp 1,.di),(.tmp 10,.di),(.tmp 11,.di)]
abbrev ALk:A0:=[(.exit 6,[(.obj 0,.own 3 U0),(.tmp 0,.own' 0),(.tmp 1,.di),(.tmp 10,.di),(.tmp 11,.di)])]
def Lz[Lk]:U7→Option Vk:=fun(a0,a1,a2,a3,_)=>
 match(ile a2 a3)with
 |true=>match idx a0 a2 with|none=>none|some x0=>match idx a0 a1 with|none=>none|some x1=>match ED ((AL a0 (AE a2) 0),(AL a0 (AE a1) 0),())with|none=>none|some (y2,_)=>match y2 with
  |true=>some (.inl (a0,a1,(IntKind.wrap .i64 (a2+1)),a3,()))
  |false=>some (.inr (.inl (a0,a1,a2,a3,())))
 |false=>some (.inr (.inl (a0,a1,a2,a3,())))
abbrev ALq:AF:=[(.obj 0,.own 3 U0),(.tmp 0,.own' 0),(.tmp 1,.di),(.tmp 10,.di),(.tmp 11,.di)]
abbrev ALl:A0:=[(.exit 4,[(.obj 0,.own 3 U0),(.tmp 0,.own' 0),(.tmp 1,.di),(.tmp 11,.di)])]
def L0[Lk]:U7→Option (U7⊕Ue⊕Unit):=fun(a0,a1,a2,a3,_)=>
 match AR Lz many (a0,a1,a2,a3,())with|none=>none|some r=>match r with
 |.inl (o0,o1,o2,o3,_)=>match AR Ly many (o0,o1,o2,o3,())with|none=>none|some r=>match r with
  |.inl (o4,o5,o6,o7,_)=>match(ilt o7 o6)with
   |true=>some (.inr (.inl (o4,o5,o7,())))
   |false=>match idx o4 o7 with|none=>none|some x8=>match idx o4 o6 with|none=>none|some x9=>match idx o4 o6 with|none=>none|some x10=>match idx (An o4 (AE o6) (AL o4 (AE o7) 0)) o7 with|none=>none|some x11=>some (.inl ((An (An o4 (AE o6) (AL o4 (AE o7) 0)) (AE o7) (AL o4 (AE o6) 0)),o5,(IntKind.wrap .i64 (o6+1)),(IntKind.wrap .i64 (o7-1)),()))
  |.inr _=>none
 |.inr _=>none
abbrev ALr:AF:=[(.obj 0,.own 3 U0),(.tmp 0,.own' 0),(.tmp 1,.di),(.tmp 10,.di),(.tmp 11,.di)]
abbrev ALm:A0:=[(.exit 2,[(.obj 0,.own 3 U0),(.tmp 0,.own' 0),(.tmp 1,.di),(.tmp 10,.di),(.tmp 11,.di)])]
def L3[Lk]:U7→Option Vk:=fun(a0,a1,a2,a3,_)=>
 match(ile a2 a3)with
 |true=>match idx a0 a3 with|none=>none|some x0=>match idx a0 a1 with|none=>none|some x1=>match ED ((AL a0 (AE a3) 0),(AL a0 (AE a1) 0),())with|none=>none|some (y2,_)=>match(!y2)with
  |true=>some (.inl (a0,a1,a2,(IntKind.wrap .i64 (a3-1)),()))
  |false=>some (.inr (.inl (a0,a1,a2,a3,())))
 |false=>some (.inr (.inl (a0,a1,a2,a3,())))
abbrev ALs:AF:=[(.obj 0,.own 3 U0),(.tmp 0,.own' 0),(.tmp 1,.di),(.tmp 10,.di),(.tmp 11,.di)]
abbrev ALn:A0:=[(.exit 0,[(.obj 0,.own 3 U0),(.tmp 0,.own' 0),(.tmp 1,.di),(.tmp 10,.di),(.tmp 11,.di)])]
def L4[Lk]:U7→Option Vk:=fun(a0,a1,a2,a3,_)=>
 match(ile a2 a3)with
 |true=>match idx a0 a2 with|none=>none|some x0=>match idx a0 a1 with|none=>none|some x1=>match ED ((AL a0 (AE a2) 0),(AL a0 (AE a1) 0),())with|none=>none|some (y2,_)=>match y2 with
  |true=>some (.inl (a0,a1,(IntKind.wrap .i64 (a2+1)),a3,()))
  |false=>some (.inr (.inl (a0,a1,a2,a3,())))
 |false=>some (.inr (.inl (a0,a1,a2,a3,())))
def XR[Lk]:U7→Option ((List Int×Int×Bool×Unit)):=fun(a0,a1,a2,a3,_)=>
 match idx a0 a3 with|none=>none|some x0=>match idx a0 a1 with|none=>none|some x1=>match idx a0 a1 with|none=>none|some x2=>match idx (An a0 (AE a1) (AL a0 (AE a3) 0)) a3 with|none=>none|some x3=>match AR L4 many ((An (An a0 (AE a1) (AL a0 (AE a3) 0)) (AE a3) (AL a0 (AE a1) 0)),a1,(IntKind.wrap .i64 (a1+1)),(IntKind.wrap .i64 (a2-1)),())with|none=>none|some r=>match r with
 |.inl (o4,o5,o6,o7,_)=>match AR L3 many (o4,o5,o6,o7,())with|none=>none|some r=>match r with
  |.inl (o8,o9,o10,o11,_)=>match(ilt o11 o10)with
   |true=>match idx o8 o9 with|none=>none|some x12=>match idx o8 o11 with|none=>none|some x13=>match idx o8 o11 with|none=>none|some x14=>match idx (An o8 (AE o11) (AL o8 (AE o9) 0)) o9 with|none=>none|some x15=>some ((An (An o8 (AE o11) (AL o8 (AE o9) 0)) (AE o9) (AL o8 (AE o11) 0)),o11,true,())
   |false=>match idx o8 o11 with|none=>none|some x16=>match idx o8 o10 with|none=>none|some x17=>match idx o8 o10 with|none=>none|some x18=>match idx (An o8 (AE o10) (AL o8 (AE o11) 0)) o11 with|none=>none|some x19=>match AR L0 many ((An (An o8 (AE o10) (AL o8 (AE o11) 0)) (AE o11) (AL o8 (AE o10) 0)),o9,(IntKind.wrap .i64 (o10+1)),(IntKind.wrap .i64 (o11-1)),())with|none=>none|some r=>match r with
   |.inl (o20,o21,o22,_)=>match idx o20 o21 with|none=>none|some x23=>match idx o20 o22 with|none=>none|some x24=>match idx o20 o22 with|none=>none|some x25=>match idx (An o20 (AE o22) (AL o20 (AE o21) 0)) o21 with|none=>none|some x26=>some ((An (An o20 (AE o22) (AL o20 (AE o21) 0)) (AE o21) (AL o20 (AE o22) 0)),o22,false,())
   |.inr _=>none
  |.inr _=>none
 |.inr _=>none
def QH[Lk]:=fun v=>Lk.f (XR v)
theorem ALt v:QH v=XR v:=AJ _
abbrev Zb:AF:=[(.tmp 0,.own 3 U0),(.tmp 1,.di),(.tmp 2,.di),(.tmp 3,.di)]
abbrev Za:AF:=[(.obj 0,.own 3 U0)]
abbrev ZZ:List RS:=[]
abbrev ATN:AF:=[(.obj 0,.own 3 U0),(.tmp 0,.own' 0),(.tmp 1,.di),(.tmp 2,.di),(.tmp 3,.di),(.tmp 8,.dat .bool),(.tmp 9,.dat .bool)]
abbrev ATM:A0:=[(.ret,[(.obj 0,.own 3 U0)])]
def AGi[Lk](self:U7→Option (Ub))(y7:List Int)(a1 a2 p l:Int)(a4 a5:Bool):Option (V0⊕Ub⊕Unit):=
 match(ilt 0 a1)with
 |true=>match idx y7 (IntKind.wrap .i64 (a1-1))with|none=>none|some x9=>match idx y7 p with|none=>none|some x10=>match ED ((AL y7 (AE (IntKind.wrap .i64 (a1-1))) 0),(AL y7 (AE p) 0),())with|none=>none|some (y11,_)=>match(!y11)with
  |true=>match NH (y7,a1,a2,p,())with|none=>none|some (y12,y13,_)=>some (.inl (y12,y13,a2,l,a4,a5,()))
  |false=>match QH (y7,a1,a2,p,())with|none=>none|some (y14,y15,y16,_)=>match quo? .i64 (IntKind.wrap .i64 (a2-a1)) 8 with|none=>none|some x17=>match(ilt (IntKind.wrap .i64 (y15-a1)) (IntKind.wrap .i64 (a2-y15)))with
  |true=>match self (y14,a1,y15,l,())with|none=>none|some (y18,_)=>some (.inl (y18,(IntKind.wrap .i64 (y15+1)),a2,l,(ile x17 (IntKind.wrap .i64 (y15-a1))),y16,()))
  |false=>match self (y14,(IntKind.wrap .i64 (y15+1)),a2,l,())with|none=>none|some (y19,_)=>some (.inl (y19,a1,y15,l,(ile x17 (IntKind.wrap .i64 (a2-y15))),y16,()))
 |false=>match QH (y7,a1,a2,p,())with|none=>none|some (y20,y21,y22,_)=>match quo? .i64 (IntKind.wrap .i64 (a2-a1)) 8 with|none=>none|some x23=>match(ilt (IntKind.wrap .i64 (y21-a1)) (IntKind.wrap .i64 (a2-y21)))with
 |true=>match self (y20,a1,y21,l,())with|none=>none|some (y24,_)=>some (.inl (y24,(IntKind.wrap .i64 (y21+1)),a2,l,(ile x23 (IntKind.wrap .i64 (y21-a1))),y22,()))
 |false=>match self (y20,(IntKind.wrap .i64 (y21+1)),a2,l,())with|none=>none|some (y25,_)=>some (.inl (y25,a1,y21,l,(ile x23 (IntKind.wrap .i64 (a2-y21))),y22,()))
def AZI[Lk](self:U7→Option (Ub))(y6:List Int)(a1 a2 p h l:Int)(a4 a5:Bool):Option (V0⊕Ub⊕Unit):=
 match a4 with
 |true=>match a5 with
  |true=>match(ieq h 1)with
   |true=>match Ja (y6,a1,a2,())with|none=>none|some (y7,y8,_)=>match y8 with
    |true=>some (.inr (.inl (y7,())))
    |false=>AGi self y7 a1 a2 p l a4 a5
   |false=>AGi self y6 a1 a2 p l a4 a5
  |false=>AGi self y6 a1 a2 p l a4 a5
 |false=>AGi self y6 a1 a2 p l a4 a5
def AZH[Lk](self:U7→Option (Ub))(y2:List Int)(a1 a2 l:Int)(a4 a5:Bool):Option (V0⊕Ub⊕Unit):=
 match SW (y2,a1,a2,())with|none=>none|some (y3,y4,y5,_)=>match(ieq y5 2)with
 |true=>match AU9 (y3,a1,a2,())with|none=>none|some (y6,_)=>AZI self y6 a1 a2 (IntKind.wrap .i64 ((IntKind.wrap .i64 (a2-1))-(IntKind.wrap .i64 (y4-a1)))) 1 l a4 a5
 |false=>AZI self y3 a1 a2 y4 y5 l a4 a5
def ND[Lk](self:U7→Option (Ub)):V0→Option (V0⊕Ub⊕Unit):=fun(a0,a1,a2,a3,a4,a5,_)=>
 match(ile (IntKind.wrap .i64 (a2-a1)) 12)with
 |true=>match AWW (a0,a1,a2,())with|none=>none|some (y0,_)=>some (.inr (.inl (y0,())))
 |false=>match(ieq a3 0)with
 |true=>match AEe (a0,a1,a2,())with|none=>none|some (y1,_)=>some (.inr (.inl (y1,())))
 |false=>match(!a4)with
 |true=>match Tq (a0,a1,a2,())with|none=>none|some (y2,_)=>AZH self y2 a1 a2 (IntKind.wrap .i64 (a3-1)) a4 a5
 |false=>AZH self a0 a1 a2 a3 a4 a5
def AGj[Lk](self:U7→Option (Ub)):U7→Option (Ub):=fun(a0,a1,a2,a3,_)=>
 match AR (ND self) many (a0,a1,a2,a3,true,true,())with|none=>none|some r=>match r with
 |.inl (o0,_)=>some (o0,())
 |.inr _=>none
def Hu[Lk]:Nat→U7→Option (Ub)
 |0,_=>none
 |n+1,v=>AGj (Hu n) v
def AVT[Lk]:=fun v=>Lk.f (Hu 100 v)
theorem ATO v:AVT v=Hu 100 v:=AJ _
abbrev AFs:AF:=[(.tmp 0,.own 3 U0)]
abbrev AFr:AF:=[(.obj 0,.own 3 U0)]
abbrev AFq:List RS:=[]
def XG[Lk]:Ub→Option (Ub):=fun(a0,_)=>
 match bitsLen ((IntKind.wrap .u64 (AM a0)),())with|none=>none|some (y0,_)=>match AVT (a0,0,(AM a0),y0,())with|none=>none|some (y1,_)=>some (y1,())
def AJ7[Lk]:=fun v=>Lk.f (XG v)
theorem AJ6 v:AJ7 v=XG v:=AJ _
end
end Go.Pev
end
section
namespace Go.Pev
noncomputable section
attribute [local irreducible] MU JM N0 LJ AWb AWc AWd P2 Wi We YU JO AP many IntKind.wrap AM An AL A5 Bl Df Jt AE BV Bx imax AS Ag
def ARV[Lk]:(Ud×Int×Unit)→Option (Ug):=fun(a0,a1,_)=>
 match(ile 0 a1)with
 |true=>some ((ilt a1 a0.1),())
 |false=>some (false,())
def AMb[Lk]:=fun v=>Lk.f (ARV v)
theorem Ac5 v:AMb v=ARV v:=AJ _
def Jm[Lk]:(List U3×List U3×List U3×Int×Unit)→Option ((List U3×List U3×List U3×Int×Unit)⊕V2⊕Unit):=fun(a0,a1,a2,a3,_)=>
 match(ilt a3 (AM a1))with
 |true=>match idx a1 a3 with|none=>none|some x0=>match Vw (a0,((AL a1 (AE a3) (0,(0,()))).1,((AL a1 (AE a3) (0,(0,()))).2.1,())),())with|none=>none|some (y1,_)=>match y1 with
  |true=>match idx a1 a3 with|none=>none|some x2=>match(fits ((AM a2)+(AM ([((AL a1 (AE a3) (0,(0,()))).1,((AL a1 (AE a3) (0,(0,()))).2.1,()))]:List U3))))with
   |true=>some (.inl (a0,a1,(A5 a2 ([((AL a1 (AE a3) (0,(0,()))).1,((AL a1 (AE a3) (0,(0,()))).2.1,()))]:List U3)),(IntKind.wrap .i64 (a3+1)),()))
   |false=>none
  |false=>some (.inl (a0,a1,a2,(IntKind.wrap .i64 (a3+1)),()))
 |false=>some (.inr (.inl (a2,())))
def Jn[Lk]:(List U3×Int×List U1×Int×Unit)→Option ((List U3×Int×List U1×Int×Unit)⊕U9⊕(List U3×Int×List U1×Unit)⊕Unit):=fun(a0,a1,a2,a3,_)=>
 match(ilt a3 (AM a0))with
 |true=>match idx a0 a3 with|none=>none|some x0=>match AMb ((a1,(a2,())),x0.1,())with|none=>none|some (y1,_)=>match(!y1)with
  |true=>some (.inr (.inl (10,())))
  |false=>match idx a0 a3 with|none=>none|some x2=>match AMb ((a1,(a2,())),x2.2.1,())with|none=>none|some (y3,_)=>match(!y3)with
  |true=>some (.inr (.inl (10,())))
  |false=>some (.inl (a0,a1,a2,(IntKind.wrap .i64 (a3+1)),()))
 |false=>some (.inr (.inr (.inl (a0,a1,a2,()))))
def Qs[Lk]:Vf→Option ((List U3×Int×Unit)):=fun(a0,a1,_)=>
 match Ch ((a0.1,(a0.2.1,())),())with|none=>none|some (y0,_)=>match(!y0)with
 |true=>some (([]:List U3),1,())
 |false=>match AR Jn many (a1,a0.1,a0.2.1,0,())with|none=>none|some r=>match r with
 |.inl (o1,_)=>some (([]:List U3),o1,())
 |.inr r=>match r with
 |.inl (o2,o3,o4,_)=>match I3 ((o3,(o4,())),())with|none=>none|some (y5,_)=>match M9 (o3,o2,())with|none=>none|some (y6,_)=>match AR Jm many (y5,y6,([]:List U3),0,())with|none=>none|some r=>match r with
  |.inl (o7,_)=>some (o7,0,())
  |.inr _=>none
 |.inr _=>none
def AAt[Lk]:=fun v=>Lk.f (Qs v)
theorem AEg v:AAt v=Qs v:=AJ _
abbrev L9:AF:=[(.tmp 0,.dat Uc),(.tmp 1,.di),(.tmp 2,.di)]
abbrev L8:AF:=[(.tmp 0,.own 3 U0)]
abbrev L7:List RS:=[.one]
abbrev QR:AF:=[(.tmp 1,.di),(.tmp 3,.box 2),(.cell 0 0,.di),(.cell 0 1,.dat Uq),(.tmp 7,.own 3 U0),(.tmp 8,.own 3 U0),(.tmp 9,.di)]
abbrev QQ:A0:=[(.exit 0,[(.tmp 8,.own 3 U0)])]
def Cz[Lk]:(Int×Int×List U1×List Int×List Int×Int×Unit)→Option ((Int×Int×List U1×List Int×List Int×Int×Unit)⊕Ub⊕Unit):=fun(a0,a1,a2,a3,a4,a5,_)=>
 match(ilt a5 a1)with
 |true=>match idx a3 a5 with|none=>none|some x0=>match idx a3 a0 with|none=>none|some x1=>match(ieq (AL a3 (AE a5) 0) (AL a3 (AE a0) 0))with
  |true=>match(fits ((AM a4)+(AM ([a5]:List (Int)))))with
   |true=>some (.inl (a0,a1,a2,a3,(A5 a4 ([a5]:List (Int))),(IntKind.wrap .i64 (a5+1)),()))
   |false=>none
  |false=>some (.inl (a0,a1,a2,a3,a4,(IntKind.wrap .i64 (a5+1)),()))
 |false=>some (.inr (.inl (a4,())))
def Ip[Lk]:V5→Option (Ub):=fun(a0,a1,a2,_)=>
 match Ii ((a0.1,(a0.2.1,())),a2,())with|none=>none|some (y0,_)=>match DH (a0.1,y0,())with|none=>none|some (y1,_)=>match AR Cz many (a1,a0.1,a0.2.1,y1,([]:List (Int)),0,())with|none=>none|some r=>match r with
 |.inl (o2,_)=>some (o2,())
 |.inr _=>none
def Fu[Lk]:=fun v=>Lk.f (Ip v)
theorem QS v:Fu v=Ip v:=AJ _
def MR[Lk]:Ue→Option (Ue⊕Ug⊕(Unit)⊕Unit):=fun(a0,a1,a2,_)=>
 match(ilt a2 (AM a0))with
 |true=>match idx a0 a2 with|none=>none|some x0=>match(ieq x0 a1)with
  |true=>some (.inr (.inl (true,())))
  |false=>some (.inl (a0,a1,(IntKind.wrap .i64 (a2+1)),()))
 |false=>some (.inr (.inr (.inl ())))
def AH0[Lk]:Ur→Option (Ug):=fun(a0,a1,_)=>
 match AR MR many (a0,a1,0,())with|none=>none|some r=>match r with
 |.inl (o0,_)=>some (o0,())
 |.inr r=>match r with
 |.inl _=>some (false,())
 |.inr _=>none
def MS[Lk]:=fun v=>Lk.f (AH0 v)
theorem Aal v:MS v=AH0 v:=AJ _
def Lh[Lk]:(Ud×Int×Int×Int×Unit)→Option (Ur):=fun(a0,a1,a2,a3,_)=>
 match Ch ((a0.1,(a0.2.1,())),())with|none=>none|some (y0,_)=>match(!y0)with
 |true=>some (([]:List (Int)),1,())
 |false=>match AMb ((a0.1,(a0.2.1,())),a1,())with|none=>none|some (y1,_)=>match(!y1)with
 |true=>some (([]:List (Int)),10,())
 |false=>match AMb ((a0.1,(a0.2.1,())),a2,())with|none=>none|some (y2,_)=>match(!y2)with
 |true=>some (([]:List (Int)),10,())
 |false=>match Fu ((a0.1,(a0.2.1,())),a1,a3,())with|none=>none|some (y3,_)=>match Fu ((a0.1,(a0.2.1,())),a2,a3,())with|none=>none|some (y4,_)=>match MS (y3,a2,())with|none=>none|some (y5,_)=>match y5 with
 |true=>some (([]:List (Int)),5,())
 |false=>match(ilt (AM y3) (AM y4))with
 |true=>some (y3,0,())
 |false=>match(ieq (AM y3) (AM y4))with
 |true=>match idx y3 0 with|none=>none|some x6=>match idx y4 0 with|none=>none|some x7=>match(ilt (AL y3 0 0) (AL y4 0 0))with
  |true=>some (y3,0,())
  |false=>some (y4,0,())
 |false=>some (y4,0,())
def AF2[Lk]:=fun v=>Lk.f (Lh v)
theorem R9 v:AF2 v=Lh v:=AJ _
def Jb[Lk]:Uh→Option (Uh⊕V8⊕(Int×Bool×Bool×Int×Int×Int×Int×Int×Int×Bool×Int×List U1×Bool×Bool×Int×Int×Int×Int×Int×Bool×Unit)⊕Unit):=fun(a0,a1,a2,a3,a4,a5,a6,a7,a8,a9,a10,a11,a12,a13,a14,a15,a16,a17,a18,a19,a20,a21,_)=>
 match(ilt a20 (AM a11))with
 |true=>match idx a11 a20 with|none=>none|some x0=>match(AL a11 (AE a20) (0,(0,(0,(false,()))))).2.2.2.1 with
  |true=>some (.inl (a0,a1,a2,a3,a4,a5,a6,a7,a8,a9,a10,a11,a12,a13,a14,a15,a16,a17,a18,a19,(IntKind.wrap .i64 (a20+1)),a21,()))
  |false=>match(!(ieq (AL a11 (AE a20) (0,(0,(0,(false,()))))).2.2.1 a18))with
  |true=>some (.inl (a0,a1,a2,a3,a4,a5,a6,a7,a8,a9,a10,a11,a12,a13,a14,a15,a16,a17,a18,a19,(IntKind.wrap .i64 (a20+1)),a21,()))
  |false=>match MS (a19,(AL a11 (AE a20) (0,(0,(0,(false,()))))).1,())with|none=>none|some (y1,_)=>match y1 with
  |true=>match MS (a19,(AL a11 (AE a20) (0,(0,(0,(false,()))))).2.1,())with|none=>none|some (y2,_)=>match y2 with
   |true=>match idx a11 a20 with|none=>none|some x3=>some (.inl (a0,a1,a2,a3,a4,a5,a6,a7,a8,a9,a10,(An a11 (AE a20) ((AL a11 (AE a20) (0,(0,(0,(false,()))))).1,((AL a11 (AE a20) (0,(0,(0,(false,()))))).2.1,((Bx a17 (IntKind.wrap .i64 (a18+1))),((AL a11 (AE a20) (0,(0,(0,(false,()))))).2.2.2.1,()))))),a12,a13,a14,a15,(IntKind.wrap .i64 (a16+1)),a17,a18,a19,(IntKind.wrap .i64 (a20+1)),a21,()))
   |false=>match MS (a19,(AL a11 (AE a20) (0,(0,(0,(false,()))))).1,())with|none=>none|some (y4,_)=>match y4 with
   |true=>match idx a11 a20 with|none=>none|some x5=>some (.inr (.inl (a10,(An a11 (AE a20) ((AL a11 (AE a20) (0,(0,(0,(false,()))))).1,((AL a11 (AE a20) (0,(0,(0,(false,()))))).2.1,((AL a11 (AE a20) (0,(0,(0,(false,()))))).2.2.1,(true,()))))),a12,true,(AL a11 (AE a20) (0,(0,(0,(false,()))))).1,(AL a11 (AE a20) (0,(0,(0,(false,()))))).2.1,a16,0,())))
   |false=>match MS (a19,(AL a11 (AE a20) (0,(0,(0,(false,()))))).2.1,())with|none=>none|some (y6,_)=>match y6 with
   |true=>match idx a11 a20 with|none=>none|some x7=>some (.inr (.inl (a10,(An a11 (AE a20) ((AL a11 (AE a20) (0,(0,(0,(false,()))))).1,((AL a11 (AE a20) (0,(0,(0,(false,()))))).2.1,((AL a11 (AE a20) (0,(0,(0,(false,()))))).2.2.1,(true,()))))),a12,true,(AL a11 (AE a20) (0,(0,(0,(false,()))))).1,(AL a11 (AE a20) (0,(0,(0,(false,()))))).2.1,a16,0,())))
   |false=>some (.inl (a0,a1,a2,a3,a4,a5,a6,a7,a8,a9,a10,a11,a12,a13,a14,a15,a16,a17,a18,a19,(IntKind.wrap .i64 (a20+1)),a21,()))
  |false=>match MS (a19,(AL a11 (AE a20) (0,(0,(0,(false,()))))).1,())with|none=>none|some (y8,_)=>match y8 with
  |true=>match idx a11 a20 with|none=>none|some x9=>some (.inr (.inl (a10,(An a11 (AE a20) ((AL a11 (AE a20) (0,(0,(0,(false,()))))).1,((AL a11 (AE a20) (0,(0,(0,(false,()))))).2.1,((AL a11 (AE a20) (0,(0,(0,(false,()))))).2.2.1,(true,()))))),a12,true,(AL a11 (AE a20) (0,(0,(0,(false,()))))).1,(AL a11 (AE a20) (0,(0,(0,(false,()))))).2.1,a16,0,())))
  |false=>match MS (a19,(AL a11 (AE a20) (0,(0,(0,(false,()))))).2.1,())with|none=>none|some (y10,_)=>match y10 with
  |true=>match idx a11 a20 with|none=>none|some x11=>some (.inr (.inl (a10,(An a11 (AE a20) ((AL a11 (AE a20) (0,(0,(0,(false,()))))).1,((AL a11 (AE a20) (0,(0,(0,(false,()))))).2.1,((AL a11 (AE a20) (0,(0,(0,(false,()))))).2.2.1,(true,()))))),a12,true,(AL a11 (AE a20) (0,(0,(0,(false,()))))).1,(AL a11 (AE a20) (0,(0,(0,(false,()))))).2.1,a16,0,())))
  |false=>some (.inl (a0,a1,a2,a3,a4,a5,a6,a7,a8,a9,a10,a11,a12,a13,a14,a15,a16,a17,a18,a19,(IntKind.wrap .i64 (a20+1)),a21,()))
 |false=>some (.inr (.inr (.inl (a0,a1,a2,a3,a4,a5,a6,a7,a8,a9,a10,a11,a12,a13,a14,a15,a16,a17,a18,a21,()))))
def Jc[Lk]:Uh→Option (Uh⊕(Int×Bool×Bool×Int×Int×Int×Int×Int×Int×Bool×Int×List U1×Bool×Bool×Int×Int×Int×Int×Int×List Int×Bool×Unit)⊕Unit):=fun(a0,a1,a2,a3,a4,a5,a6,a7,a8,a9,a10,a11,a12,a13,a14,a15,a16,a17,a18,a19,a20,a21,_)=>
 match(ilt a20 (AM a11))with
 |true=>match idx a11 a20 with|none=>none|some x0=>match(AL a11 (AE a20) (0,(0,(0,(false,()))))).2.2.2.1 with
  |true=>match(ieq (AL a11 (AE a20) (0,(0,(0,(false,()))))).2.2.1 a18)with
   |true=>match MS (a19,(AL a11 (AE a20) (0,(0,(0,(false,()))))).1,())with|none=>none|some (y1,_)=>match y1 with
    |true=>match MS (a19,(AL a11 (AE a20) (0,(0,(0,(false,()))))).2.1,())with|none=>none|some (y2,_)=>match y2 with
     |true=>match idx a11 a20 with|none=>none|some x3=>some (.inl (a0,a1,a2,a3,a4,a5,a6,a7,a8,a9,a10,(An a11 (AE a20) ((AL a11 (AE a20) (0,(0,(0,(false,()))))).1,((AL a11 (AE a20) (0,(0,(0,(false,()))))).2.1,((Bx a17 (IntKind.wrap .i64 (a18+1))),((AL a11 (AE a20) (0,(0,(0,(false,()))))).2.2.2.1,()))))),a12,a13,a14,a15,(IntKind.wrap .i64 (a16+1)),a17,a18,a19,(IntKind.wrap .i64 (a20+1)),a21,()))
     |false=>some (.inl (a0,a1,a2,a3,a4,a5,a6,a7,a8,a9,a10,a11,a12,a13,a14,a15,a16,a17,a18,a19,(IntKind.wrap .i64 (a20+1)),a21,()))
    |false=>some (.inl (a0,a1,a2,a3,a4,a5,a6,a7,a8,a9,a10,a11,a12,a13,a14,a15,a16,a17,a18,a19,(IntKind.wrap .i64 (a20+1)),a21,()))
   |false=>some (.inl (a0,a1,a2,a3,a4,a5,a6,a7,a8,a9,a10,a11,a12,a13,a14,a15,a16,a17,a18,a19,(IntKind.wrap .i64 (a20+1)),a21,()))
  |false=>some (.inl (a0,a1,a2,a3,a4,a5,a6,a7,a8,a9,a10,a11,a12,a13,a14,a15,a16,a17,a18,a19,(IntKind.wrap .i64 (a20+1)),a21,()))
 |false=>some (.inr (.inl (a0,a1,a2,a3,a4,a5,a6,a7,a8,a9,a10,a11,a12,a13,a14,a15,a16,a17,a18,a19,a21,())))
def Hy[Lk]:Um→Option (Um⊕V8⊕(Int×Bool×Bool×Int×Int×Int×Int×List U1×Bool×Bool×Int×Int×Int×Unit)⊕Unit):=fun(a0,a1,a2,a3,a4,a5,a6,a7,a8,a9,a10,a11,a12,a13,a14,a15,a16,a17,a18,_)=>
 match(ile 0 a18)with
 |true=>match a9 with
  |true=>match AF2 ((a10,(a11,())),a6,a7,a18,())with|none=>none|some (y0,y1,_)=>match AR Jc many (a0,a1,a2,a3,a4,a5,a6,a7,a8,a9,a10,a11,a12,a13,a14,a15,a16,a17,a18,y0,0,a9,())with|none=>none|some r=>match r with
   |.inl (o2,o3,o4,o5,o6,o7,o8,o9,o10,o11,o12,o13,o14,o15,o16,o17,o18,o19,o20,o21,o22,_)=>match AR Jb many (o2,o3,o4,o5,o6,o7,o8,o9,o10,o11,o12,o13,o14,o15,o16,o17,o18,o19,o20,o21,0,o22,())with|none=>none|some r=>match r with
    |.inl (o23,o24,o25,o26,o27,o28,o29,o30,_)=>some (.inr (.inl (o23,o24,o25,o26,o27,o28,o29,o30,())))
    |.inr r=>match r with
    |.inl (o31,o32,o33,o34,o35,o36,o37,o38,o39,o40,o41,o42,o43,o44,o45,o46,o47,o48,o49,o50,_)=>some (.inl (o31,o32,o33,o34,o35,o36,o37,o38,o39,o40,o41,o42,o43,o44,o45,o46,o47,o48,(IntKind.wrap .i64 (o49-1)),()))
    |.inr _=>none
   |.inr _=>none
  |false=>some (.inr (.inr (.inl (a0,a1,a2,a3,a4,a5,a10,a11,a12,a13,a14,a15,a16,()))))
 |false=>some (.inr (.inr (.inl (a0,a1,a2,a3,a4,a5,a10,a11,a12,a13,a14,a15,a16,()))))
def XU[Lk]:V5→Option ((Int×List U1×Ua×Int×Unit)):=fun(a0,a1,a2,_)=>
 match Ch ((a0.1,(a0.2.1,())),())with|none=>none|some (y0,_)=>match(!y0)with
 |true=>some (a0.1,a0.2.1,(false,(false,((0,(0,())),(0,())))),1,())
 |false=>match AMb ((a0.1,(a0.2.1,())),a1,())with|none=>none|some (y1,_)=>match(!y1)with
 |true=>some (a0.1,a0.2.1,(false,(false,((0,(0,())),(0,())))),10,())
 |false=>match AMb ((a0.1,(a0.2.1,())),a2,())with|none=>none|some (y2,_)=>match(!y2)with
 |true=>some (a0.1,a0.2.1,(false,(false,((0,(0,())),(0,())))),10,())
 |false=>match ARt ((a0.1,(a0.2.1,())),a1,a2,())with|none=>none|some (y3,_)=>match(ilt y3 0)with
 |true=>some (a0.1,a0.2.1,(false,(false,((0,(0,())),(0,())))),6,())
 |false=>match idx a0.2.1 y3 with|none=>none|some x4=>match B4 a0.2.1 0 y3 with|none=>none|some x5=>match(fits ((AM ([]:List U1))+(AM x5)))with
 |true=>match B4 a0.2.1 (IntKind.wrap .i64 (y3+1)) (AM a0.2.1)with|none=>none|some x6=>match(fits ((AM (A5 ([]:List U1) x5))+(AM x6)))with
  |true=>match LH (a0.1,())with|none=>none|some (y7,_)=>match AR Hy many (0,false,false,0,0,0,x4.1,x4.2.1,x4.2.2.1,x4.2.2.2.1,a0.1,(A5 (A5 ([]:List U1) x5) x6),x4.2.2.2.1,false,0,0,0,y7,x4.2.2.1,())with|none=>none|some r=>match r with
   |.inl (o8,o9,o10,o11,o12,o13,o14,o15,_)=>some (o8,o9,(o10,(o11,((o12,(o13,())),(o14,())))),o15,())
   |.inr r=>match r with
   |.inl (o16,o17,o18,o19,o20,o21,o22,o23,o24,o25,o26,o27,o28,_)=>some (o22,o23,(o24,(o25,((o26,(o27,())),(o28,())))),0,())
   |.inr _=>none
  |false=>none
 |false=>none
def AEJ[Lk]:=fun v=>Lk.f (XU v)
theorem AL6 v:AEJ v=XU v:=AJ _
def B2[Lk]:(Int×List U1×Int×List U3×List Ua×Int×List U1×Int×Unit)→Option ((Int×List U1×Int×List U3×List Ua×Int×List U1×Int×Unit)⊕(Int×List U1×Int×Unit)⊕(Int×List Ua×Int×List U1×Unit)⊕Unit):=fun(a0,a1,a2,a3,a4,a5,a6,a7,_)=>
 match(ilt a7 (AM a3))with
 |true=>match idx a3 a7 with|none=>none|some x0=>match idx a3 a7 with|none=>none|some x1=>match AEJ ((a5,(a6,())),(AL a3 (AE a7) (0,(0,()))).1,(AL a3 (AE a7) (0,(0,()))).2.1,())with|none=>none|some (y2,y3,y4,y5,_)=>match(!(ieq y5 0))with
  |true=>some (.inr (.inl (a0,a1,y5,())))
  |false=>match(fits ((AM a4)+(AM ([(y4.1,(y4.2.1,((y4.2.2.1.1,(y4.2.2.1.2.1,())),(y4.2.2.2.1,()))))]:List Ua))))with
  |true=>some (.inl (a0,a1,a2,a3,(A5 a4 ([(y4.1,(y4.2.1,((y4.2.2.1.1,(y4.2.2.1.2.1,())),(y4.2.2.2.1,()))))]:List Ua)),y2,y3,(IntKind.wrap .i64 (a7+1)),()))
  |false=>none
 |false=>some (.inr (.inr (.inl (a2,a4,a5,a6,()))))
def MZ[Lk]:Vf→Option ((Ud×List Ua×Int×Unit)):=fun(a0,a1,_)=>
 match AAt ((a0.1,(a0.2.1,())),a1,())with|none=>none|some (y0,y1,_)=>match(!(ieq y1 0))with
 |true=>some ((a0.1,(a0.2.1,())),([]:List Ua),y1,())
 |false=>match AR B2 many (a0.1,a0.2.1,0,y0,([]:List Ua),a0.1,a0.2.1,0,())with|none=>none|some r=>match r with
 |.inl (o2,o3,o4,_)=>some ((o2,(o3,())),([]:List Ua),o4,())
 |.inr r=>match r with
 |.inl (o5,o6,o7,o8,_)=>some ((o7,(o8,())),o6,0,())
 |.inr _=>none
def Tc[Lk]:=fun v=>Lk.f (MZ v)
theorem Tb v:Tc v=MZ v:=AJ _
abbrev R8:AF:=[(.tmp 0,.dat Uc)]
abbrev R7:AF:=[(.tmp 0,.dat .bool)]
abbrev R6:List RS:=[.one]
abbrev YO:AF:=[(.tmp 1,.box 2),(.cell 0 0,.di),(.cell 0 1,.dat Uq),(.tmp 6,.di),(.tmp 7,.di),(.tmp 11,.di)]
abbrev YK:A0:=[(.ret,[(.tmp 2,.dat .bool)]),(.exit 6,[(.tmp 1,.box 2),(.cell 0 0,.di),(.cell 0 1,.dat Uq),(.tmp 6,.di),(.tmp 7,.di)])]
def DQ[Lk]:(Int×List U1×Int×Int×Int×Unit)→Option ((Int×List U1×Int×Int×Int×Unit)⊕Ug⊕Ve⊕Unit):=fun(a0,a1,a2,a3,a4,_)=>
 match(ilt a4 a0)with
 |true=>match Fu ((a0,(a1,())),a4,a3,())with|none=>none|some (y0,_)=>match(ilt (imax 1 a2) (AM y0))with
  |true=>some (.inr (.inl (false,())))
  |false=>some (.inl (a0,a1,a2,a3,(IntKind.wrap .i64 (a4+1)),()))
 |false=>some (.inr (.inr (.inl (a0,a1,a2,a3,()))))
abbrev YP:AF:=[(.tmp 1,.box 2),(.cell 0 0,.di),(.cell 0 1,.dat Uq),(.tmp 6,.di),(.tmp 7,.di),(.tmp 8,.own 3 U0),(.tmp 9,.di)]
abbrev YL:A0:=[(.ret,[(.tmp 2,.dat .bool)]),(.exit 4,[(.tmp 1,.box 2),(.cell 0 0,.di),(.cell 0 1,.dat Uq),(.tmp 6,.di),(.tmp 7,.di)])]
def DR[Lk]:(Int×List U1×Int×Int×List Int×Int×Unit)→Option ((Int×List U1×Int×Int×List Int×Int×Unit)⊕Ug⊕Ve⊕Unit):=fun(a0,a1,a2,a3,a4,a5,_)=>
 match(ilt a5 (AM a1))with
 |true=>match idx a1 a5 with|none=>none|some x0=>match(!x0.2.2.2.1)with
  |true=>match(ieq x0.2.2.1 a3)with
   |true=>match idx a4 x0.1 with|none=>none|some x1=>match idx a4 x0.2.1 with|none=>none|some x2=>match(!(ieq (AL a4 (AE x0.1) 0) (AL a4 (AE x0.2.1) 0)))with
    |true=>some (.inr (.inl (false,())))
    |false=>some (.inl (a0,a1,a2,a3,a4,(IntKind.wrap .i64 (a5+1)),()))
   |false=>some (.inl (a0,a1,a2,a3,a4,(IntKind.wrap .i64 (a5+1)),()))
  |false=>some (.inl (a0,a1,a2,a3,a4,(IntKind.wrap .i64 (a5+1)),()))
 |false=>some (.inr (.inr (.inl (a0,a1,a2,a3,()))))
abbrev YQ:AF:=[(.tmp 1,.box 2),(.cell 0 0,.di),(.cell 0 1,.dat Uq),(.tmp 6,.di),(.tmp 7,.di)]
abbrev YM:A0:=[(.ret,[(.tmp 2,.dat .bool)]),(.exit 2,[])]
def EU[Lk]:Ve→Option (Ve⊕Ug⊕(Unit)⊕Unit):=fun(a0,a1,a2,a3,_)=>
 match LH (a0,())with|none=>none|some (y0,_)=>match(ile a3 y0)with
 |true=>match Ii ((a0,(a1,())),a3,())with|none=>none|some (y1,_)=>match DH (a0,y1,())with|none=>none|some (y2,_)=>match AR DR many (a0,a1,a2,a3,y2,0,())with|none=>none|some r=>match r with
  |.inl (o3,_)=>some (.inr (.inl (o3,())))
  |.inr r=>match r with
  |.inl (o4,o5,o6,o7,_)=>match AR DQ many (o4,o5,o6,o7,0,())with|none=>none|some r=>match r with
   |.inl (o8,_)=>some (.inr (.inl (o8,())))
   |.inr r=>match r with
   |.inl (o9,o10,o11,o12,_)=>match quo? .i64 o11 2 with|none=>none|some x13=>some (.inl (o9,o10,x13,(IntKind.wrap .i64 (o12+1)),()))
   |.inr _=>none
  |.inr _=>none
 |false=>some (.inr (.inr (.inl ())))
abbrev YR:AF:=[(.tmp 1,.box 2),(.cell 0 0,.di),(.cell 0 1,.dat Uq),(.tmp 3,.own 3 U0),(.tmp 4,.own 3 U0),(.tmp 5,.di)]
abbrev YN:A0:=[(.ret,[(.tmp 2,.dat .bool)]),(.exit 0,[(.tmp 1,.box 2),(.cell 0 0,.di),(.cell 0 1,.dat Uq)])]
def EV[Lk]:(Int×List U1×List Int×List Int×Int×Unit)→Option ((Int×List U1×List Int×List Int×Int×Unit)⊕Ug⊕(Int×List U1×Unit)⊕Unit):=fun(a0,a1,a2,a3,a4,_)=>
 match(ilt a4 a0)with
 |true=>match idx a2 a4 with|none=>none|some x0=>match idx a3 a4 with|none=>none|some x1=>match(!(ieq (AL a2 (AE a4) 0) (AL a3 (AE a4) 0)))with
  |true=>some (.inr (.inl (false,())))
  |false=>some (.inl (a0,a1,a2,a3,(IntKind.wrap .i64 (a4+1)),()))
 |false=>some (.inr (.inr (.inl (a0,a1,()))))
def JT[Lk]:(Ud×Unit)→Option (Ug):=fun(a0,_)=>
 match Ch ((a0.1,(a0.2.1,())),())with|none=>none|some (y0,_)=>match(!y0)with
 |true=>some (false,())
 |false=>match I3 ((a0.1,(a0.2.1,())),())with|none=>none|some (y1,_)=>match DH (a0.1,y1,())with|none=>none|some (y2,_)=>match Ii ((a0.1,(a0.2.1,())),0,())with|none=>none|some (y3,_)=>match DH (a0.1,y3,())with|none=>none|some (y4,_)=>match AR EV many (a0.1,a0.2.1,y2,y4,0,())with|none=>none|some r=>match r with
 |.inl (o5,_)=>some (o5,())
 |.inr r=>match r with
 |.inl (o6,o7,_)=>match AR EU many (o6,o7,o6,0,())with|none=>none|some r=>match r with
  |.inl (o8,_)=>some (o8,())
  |.inr r=>match r with
  |.inl _=>some (true,())
  |.inr _=>none
 |.inr _=>none
def KC[Lk]:=fun v=>Lk.f (JT v)
theorem OW v:KC v=JT v:=AJ _
end
end Go.Pev
end
section
namespace Go.Pev
noncomputable section
attribute [local irreducible] MU JM N0 LJ AWb AWc AWd P2 Wi We YU JO AP many IntKind.wrap AM An AL A5 Bl Df Jt AE BV Bx imax AS Ag
abbrev ASg:AF:=[(.tmp 0,.dat Uq),(.tmp 1,.dat U2),(.tmp 2,.clo 98 [])]
abbrev ASf:AF:=[(.tmp 0,.di),(.tmp 1,.dat .bool)]
abbrev ASe:List RS:=[.one,.one]
abbrev AUA:AF:=[(.tmp 0,.dat Uq),(.tmp 2,.clo 98 []),(.tmp 4,.box 4),(.cell 0 0,.di),(.cell 0 1,.di),(.cell 0 2,.di),(.cell 0 3,.dat .bool),(.tmp 8,.di),(.tmp 9,.di),(.tmp 10,.di)]
abbrev AT9:A0:=[(.exit 0,[(.tmp 0,.dat Uq),(.tmp 2,.clo 98 []),(.tmp 4,.box 4),(.cell 0 0,.di),(.cell 0 1,.di),(.cell 0 2,.di),(.cell 0 3,.dat .bool),(.tmp 8,.di),(.tmp 9,.di)])]
def Kt[Lk]:(List U1×Int×Int×Int×Bool×Int×Int×Int×Unit)→Option ((List U1×Int×Int×Int×Bool×Int×Int×Int×Unit)⊕(List U1×Int×Int×Int×Bool×Int×Int×Unit)⊕Unit):=fun(a0,a1,a2,a3,a4,a5,a6,a7,_)=>
 match(ilt a6 a7)with
 |true=>match shr? .u64 (IntKind.wrap .u64 (IntKind.wrap .i64 (a6+a7))) 1 with|none=>none|some x0=>match idx a0 (IntKind.wrap .i64 x0)with|none=>none|some x1=>match Da ((x1.1,(x1.2.1,(x1.2.2.1,(x1.2.2.2.1,())))),(a1,(a2,(a3,(a4,())))),())with|none=>none|some (y2,_)=>match(ilt y2 0)with
  |true=>some (.inl (a0,a1,a2,a3,a4,a5,(IntKind.wrap .i64 ((IntKind.wrap .i64 x0)+1)),a7,()))
  |false=>some (.inl (a0,a1,a2,a3,a4,a5,a6,(IntKind.wrap .i64 x0),()))
 |false=>some (.inr (.inl (a0,a1,a2,a3,a4,a5,a6,())))
def AIv[Lk]:(List U1×U1×Unit)→Option ((Int×Bool×Unit)):=fun(a0,a1,_)=>
 match AR Kt many (a0,a1.1,a1.2.1,a1.2.2.1,a1.2.2.2.1,(AM a0),0,(AM a0),())with|none=>none|some r=>match r with
 |.inl (o0,o1,o2,o3,o4,o5,o6,_)=>match(ilt o6 o5)with
  |true=>match idx o0 o6 with|none=>none|some x7=>match Da ((x7.1,(x7.2.1,(x7.2.2.1,(x7.2.2.2.1,())))),(o1,(o2,(o3,(o4,())))),())with|none=>none|some (y8,_)=>some (o6,(ieq y8 0),())
  |false=>some (o6,false,())
 |.inr _=>none
def AXf[Lk]:=fun v=>Lk.f (AIv v)
theorem AUB v:AXf v=AIv v:=AJ _
abbrev AAT:AF:=[(.tmp 0,.dat Uc),(.tmp 1,.di),(.tmp 2,.di)]
abbrev AAS:AF:=[(.tmp 0,.di),(.tmp 1,.dat .bool)]
abbrev AAR:List RS:=[.one,.one]
def QU[Lk]:V5→Option ((Int×Bool×Unit)):=fun(a0,a1,a2,_)=>
 match AXf (a0.2.1,((Bx a1 a2),((imax a1 a2),(0,(false,())))),())with|none=>none|some (y0,y1,_)=>some (y0,y1,())
def AHT[Lk]:=fun v=>Lk.f (QU v)
theorem AEQ v:AHT v=QU v:=AJ _
abbrev AHa:AF:=[(.tmp 0,.dat Uc),(.tmp 1,.di),(.tmp 2,.di)]
abbrev AHZ:AF:=[(.tmp 0,.di)]
abbrev AHY:List RS:=[.one]
def XY[Lk]:V5→Option (U9):=fun(a0,a1,a2,_)=>
 match Fv ((a0.1,(a0.2.1,())),())with|none=>none|some (y0,_)=>match(!y0)with
 |true=>some ((-1:Int),())
 |false=>match AHT ((a0.1,(a0.2.1,())),a1,a2,())with|none=>none|some (y1,y2,_)=>match(!y2)with
 |true=>some ((-1:Int),())
 |false=>some (y1,())
def AMS[Lk]:=fun v=>Lk.f (XY v)
theorem AMR v:AMS v=XY v:=AJ _
abbrev ID:AF:=[(.tmp 0,.own 3 U0),(.cap 1 0,.box 2),(.cell 1 0,.di),(.cell 1 1,.dat Uk),(.tmp 1,.clo 145 [(1,0)])]
abbrev IC:AF:=[(.obj 0,.own 3 U0),(.obj 1,.box 2),(.cell 1 0,.di),(.cell 1 1,.dat Uk),(.tmp 0,.di)]
abbrev IB:List RS:=[.one]
abbrev LO:AF:=[(.obj 0,.own 3 U0),(.obj 1,.box 2),(.cell 1 0,.di),(.cell 1 1,.dat Uk),(.tmp 0,.own' 0),(.tmp 1,.clo 145 [(1,0)]),(.tmp 7,.di),(.tmp 8,.di)]
abbrev LN:A0:=[(.ret,[(.obj 0,.own 3 U0),(.obj 1,.box 2),(.cell 1 0,.di),(.cell 1 1,.dat Uk),(.tmp 4,.di)]),(.exit 0,[(.obj 0,.own 3 U0),(.obj 1,.box 2),(.cell 1 0,.di),(.cell 1 1,.dat Uk)])]
def Bk[Lk]:V6→Option (V6⊕Vb⊕V7⊕Unit):=fun(a0,a1,a2,a3,a4,_)=>
 match(ilt a4 a3)with
 |true=>match idx a0 a4 with|none=>none|some x0=>match(ile a1 (AL a0 (AE a4) 0))with
  |true=>some (.inr (.inl (a0,a1,a2,a4,())))
  |false=>some (.inl (a0,a1,a2,a3,(IntKind.wrap .i64 (a4+1)),()))
 |false=>some (.inr (.inr (.inl (a0,a1,a2,()))))
def FK[Lk]:V7→Option (Vb):=fun(a0,a1,a2,_)=>
 match AR Bk many (a0,a1,a2,(AM a0),0,())with|none=>none|some r=>match r with
 |.inl (o0,o1,o2,o3,_)=>some (o0,o1,o2,o3,())
 |.inr r=>match r with
 |.inl (o4,o5,o6,_)=>some (o4,o5,o6,(-1:Int),())
 |.inr _=>none
def HE[Lk]:=fun v=>Lk.f (FK v)
theorem LP v:HE v=FK v:=AJ _
abbrev IP:AF:=[(.tmp 0,.own 3 U0),(.cap 1 0,.box 2),(.cell 1 0,.di),(.cell 1 1,.dat Uk),(.tmp 1,.clo 145 [(1,0)])]
abbrev IN:AF:=[(.obj 0,.own 3 U0),(.obj 1,.box 2),(.cell 1 0,.di),(.cell 1 1,.dat Uk),(.tmp 0,.win' 0)]
abbrev IM:List RS:=[.one]
abbrev LS:AF:=[(.obj 0,.own 3 U0),(.obj 1,.box 2),(.cell 1 0,.di),(.cell 1 1,.dat Uk),(.tmp 0,.own' 0),(.tmp 1,.clo 145 [(1,0)]),(.tmp 5,.di),(.tmp 6,.di)]
abbrev LR:A0:=[(.exit 0,[(.obj 0,.own 3 U0),(.obj 1,.box 2),(.cell 1 0,.di),(.cell 1 1,.dat Uk),(.tmp 0,.own' 0),(.tmp 5,.di)])]
def CO[Lk]:V6→Option (V6⊕Vb⊕Unit):=fun(a0,a1,a2,a3,a4,_)=>
 match(ilt a4 (AM a0))with
 |true=>match idx a0 a4 with|none=>none|some x0=>match(!(ile a1 (AL a0 (AE a4) 0)))with
  |true=>match idx a0 a3 with|none=>none|some x1=>some (.inl ((An a0 (AE a3) (AL a0 (AE a4) 0)),a1,a2,(IntKind.wrap .i64 (a3+1)),(IntKind.wrap .i64 (a4+1)),()))
  |false=>some (.inl (a0,a1,a2,a3,(IntKind.wrap .i64 (a4+1)),()))
 |false=>some (.inr (.inl (a0,a1,a2,a3,())))
def FO[Lk]:V7→Option (Vb):=fun(a0,a1,a2,_)=>
 match HE (a0,a1,a2,())with|none=>none|some (y0,y1,y2,y3,_)=>match(ieq y3 (-1:Int))with
 |true=>some (y0,y1,y2,(AM y0),())
 |false=>match AR CO many (y0,y1,y2,y3,(IntKind.wrap .i64 (y3+1)),())with|none=>none|some r=>match r with
 |.inl (o4,o5,o6,o7,_)=>match B4 o4 o7 (AM o4)with|none=>none|some x8=>match B4 (BV (AE o7) (AE (AM x8)) 0 o4) 0 o7 with|none=>none|some x9=>some ((BV (AE o7) (AE (AM x8)) 0 o4),o5,o6,(((AE (AM x9)):Nat):Int),())
 |.inr _=>none
def FP[Lk]:=fun v=>Lk.f (FO v)
theorem LU v:FP v=FO v:=AJ _
abbrev PH:AF:=[(.tmp 0,.dat Us),(.tmp 1,.di)]
abbrev PG:AF:=[(.tmp 0,.own 3 U0),(.tmp 1,.di)]
abbrev PF:List RS:=[.one,.one]
def Ki[Lk]:Vc→Option (Ur):=fun(a0,a1,_)=>
 match Kh ((a0.1,(a0.2.1,())),([a1]:List (Int)),())with|none=>none|some (y0,_)=>match(!(ieq y0 0))with
 |true=>some (([]:List (Int)),y0,())
 |false=>match tof ((a0.1,(a0.2.1,())),a1,())with|none=>none|some (y1,_)=>match idx a0.2.1 y1 with|none=>none|some x2=>match AId x2 with|none=>none|some x3=>match FP (x3,a0.1,a0.2.1,())with|none=>none|some (y4,y5,y6,y7,_)=>match AJ7 ((Bl (AE y7) y4),())with|none=>none|some (y8,_)=>some (y8,0,())
def IG[Lk]:=fun v=>Lk.f (Ki v)
theorem Vz v:IG v=Ki v:=AJ _
abbrev AH8:AF:=[(.tmp 0,.nil U2),(.tmp 1,.di)]
abbrev AH7:AF:=[(.tmp 0,.own 44 U2)]
abbrev AH6:List RS:=[.one]
def Xe[Lk]:U9→Option ((List U1×Unit)):=fun(a0,_)=>
 match(ilt a0 0)with
 |true=>none
 |false=>match(ilt 0 (IntKind.wrap .i64 (a0-(IntKind.wrap .i64 (0-0)))))with
 |true=>match B4 ([]:List Unit) 0 0 with|none=>none|some _u0=>match(LQ (IntKind.wrap .i64 (a0-(IntKind.wrap .i64 (0-0)))))with
  |true=>match B4 (Jt (AE (IntKind.wrap .i64 (a0-(IntKind.wrap .i64 ((0:Int)-(0:Int)))))) ((0:Int),((0:Int),((0:Int),(false,()))))) (0:Int) (0:Int)with|none=>none|some x1=>some ((Bl (AE (AM x1)) (Jt (AE (IntKind.wrap .i64 (a0-(IntKind.wrap .i64 ((0:Int)-(0:Int)))))) ((0:Int),((0:Int),((0:Int),(false,())))))),())
  |false=>none
 |false=>some (([]:List U1),())
def AM1[Lk]:=fun v=>Lk.f (Xe v)
theorem AM0 v:AM1 v=Xe v:=AJ _
abbrev Tj:AF:=[(.tmp 0,.dat (.slice Uq))]
abbrev Ti:AF:=[(.tmp 0,.own 44 U2)]
abbrev Th:List RS:=[.one]
abbrev ABN:AF:=[(.tmp 6,.own 44 U2),(.tmp 25,.dat (.slice Uq)),(.tmp 26,.di),(.tmp 27,.di)]
abbrev ABL:A0:=[(.exit 2,[(.tmp 6,.own 44 U2)])]
def Ef[Lk]:(List U1×List (List U1)×Int×Int×Unit)→Option ((List U1×List (List U1)×Int×Int×Unit)⊕(List U1×Unit)⊕Unit):=fun(a0,a1,a2,a3,_)=>
 match(ilt a3 a2)with
 |true=>match idx a1 a3 with|none=>none|some x0=>match(fits ((AM a0)+(AM x0)))with
  |true=>some (.inl ((A5 a0 x0),a1,a2,(IntKind.wrap .i64 (a3+1)),()))
  |false=>none
 |false=>some (.inr (.inl (a0,())))
abbrev ABO:AF:=[(.tmp 0,.dat (.slice Uq)),(.tmp 3,.di),(.tmp 9,.dat (.slice Uq)),(.tmp 10,.di),(.tmp 11,.di)]
abbrev ABM:A0:=[(.exit 0,[(.tmp 0,.dat (.slice Uq)),(.tmp 3,.di)])]
def Eg[Lk]:(List (List U1)×Int×List (List U1)×Int×Int×Unit)→Option ((List (List U1)×Int×List (List U1)×Int×Int×Unit)⊕(List (List U1)×Int×Unit)⊕Unit):=fun(a0,a1,a2,a3,a4,_)=>
 match(ilt a4 a3)with
 |true=>match idx a2 a4 with|none=>none|some x0=>match(ilt (IntKind.wrap .i64 (a1+(AM x0))) 0)with
  |true=>none
  |false=>some (.inl (a0,(IntKind.wrap .i64 (a1+(AM x0))),a2,a3,(IntKind.wrap .i64 (a4+1)),()))
 |false=>some (.inr (.inl (a0,a1,())))
def Nh[Lk]:(List (List U1)×Unit)→Option ((List U1×Unit)):=fun(a0,_)=>
 match AR Eg many (a0,0,a0,(AM a0),0,())with|none=>none|some r=>match r with
 |.inl (o0,o1,_)=>match AM1 (o1,())with|none=>none|some (y2,_)=>match AR Ef many (y2,o0,(AM o0),0,())with|none=>none|some r=>match r with
  |.inl (o3,_)=>some (o3,())
  |.inr _=>none
 |.inr _=>none
def Ni[Lk]:=fun v=>Lk.f (Nh v)
theorem ABP v:Ni v=Nh v:=AJ _
abbrev Kd:AF:=[(.tmp 0,.own 42 U5),(.cap 1 0,.box 1),(.cell 1 0,.map U5 U0),(.tmp 1,.clo 116 [(1,0)])]
abbrev Kc:AF:=[(.obj 0,.own 42 U5),(.obj 1,.box 1),(.cell 1 0,.map U5 U0),(.obj 2,.map' 2),(.tmp 0,.di)]
abbrev Kb:List RS:=[.one]
abbrev OC:AF:=[(.obj 0,.own 42 U5),(.obj 1,.box 1),(.cell 1 0,.map U5 U0),(.obj 2,.map' 2),(.tmp 0,.own' 0),(.tmp 1,.clo 116 [(1,0)]),(.tmp 7,.di),(.tmp 8,.di)]
abbrev OB:A0:=[(.ret,[(.obj 0,.own 42 U5),(.obj 1,.box 1),(.cell 1 0,.map U5 U0),(.obj 2,.map' 2),(.tmp 4,.di)]),(.exit 0,[(.obj 0,.own 42 U5),(.obj 1,.box 1),(.cell 1 0,.map U5 U0),(.obj 2,.map' 2)])]
def CF[Lk]:V4→Option (V4⊕Va⊕(List U3×List (U3×Int)×Unit)⊕Unit):=fun(a0,a1,a2,a3,_)=>
 match(ilt a3 a2)with
 |true=>match idx a0 a3 with|none=>none|some x0=>match(ieq ((AS a1 ((AL a0 (AE a3) (0,(0,()))).1,((AL a0 (AE a3) (0,(0,()))).2.1,()))).getD 0) 0)with
  |true=>some (.inr (.inl (a0,a1,a3,())))
  |false=>some (.inl (a0,a1,a2,(IntKind.wrap .i64 (a3+1)),()))
 |false=>some (.inr (.inr (.inl (a0,a1,()))))
def HF[Lk]:(List U3×List (U3×Int)×Unit)→Option (Va):=fun(a0,a1,_)=>
 match AR CF many (a0,a1,(AM a0),0,())with|none=>none|some r=>match r with
 |.inl (o0,o1,o2,_)=>some (o0,o1,o2,())
 |.inr r=>match r with
 |.inl (o3,o4,_)=>some (o3,o4,(-1:Int),())
 |.inr _=>none
def Kf[Lk]:=fun v=>Lk.f (HF v)
theorem OD v:Kf v=HF v:=AJ _
abbrev Kq:AF:=[(.tmp 0,.own 42 U5),(.cap 1 0,.box 1),(.cell 1 0,.map U5 U0),(.tmp 1,.clo 116 [(1,0)])]
abbrev Kp:AF:=[(.obj 0,.own 42 U5),(.obj 1,.box 1),(.cell 1 0,.map U5 U0),(.obj 2,.map' 2),(.tmp 0,.win' 0)]
abbrev Ko:List RS:=[.one]
abbrev OH:AF:=[(.obj 0,.own 42 U5),(.obj 1,.box 1),(.cell 1 0,.map U5 U0),(.obj 2,.map' 2),(.tmp 0,.own' 0),(.tmp 1,.clo 116 [(1,0)]),(.tmp 5,.di),(.tmp 6,.di)]
abbrev OG:A0:=[(.exit 0,[(.obj 0,.own 42 U5),(.obj 1,.box 1),(.cell 1 0,.map U5 U0),(.obj 2,.map' 2),(.tmp 0,.own' 0),(.tmp 5,.di)])]
def DF[Lk]:V4→Option (V4⊕Va⊕Unit):=fun(a0,a1,a2,a3,_)=>
 match(ilt a3 (AM a0))with
 |true=>match idx a0 a3 with|none=>none|some x0=>match(!(ieq ((AS a1 ((AL a0 (AE a3) (0,(0,()))).1,((AL a0 (AE a3) (0,(0,()))).2.1,()))).getD 0) 0))with
  |true=>match idx a0 a2 with|none=>none|some x1=>some (.inl ((An a0 (AE a2) ((AL a0 (AE a3) (0,(0,()))).1,((AL a0 (AE a3) (0,(0,()))).2.1,()))),a1,(IntKind.wrap .i64 (a2+1)),(IntKind.wrap .i64 (a3+1)),()))
  |false=>some (.inl (a0,a1,a2,(IntKind.wrap .i64 (a3+1)),()))
 |false=>some (.inr (.inl (a0,a1,a2,())))
def HJ[Lk]:(List U3×List (U3×Int)×Unit)→Option (Va):=fun(a0,a1,_)=>
 match Kf (a0,a1,())with|none=>none|some (y0,y1,y2,_)=>match(ieq y2 (-1:Int))with
 |true=>some (y0,y1,(AM y0),())
 |false=>match AR DF many (y0,y1,y2,(IntKind.wrap .i64 (y2+1)),())with|none=>none|some r=>match r with
 |.inl (o3,o4,o5,_)=>match B4 o3 o5 (AM o3)with|none=>none|some x6=>match B4 (BV (AE o5) (AE (AM x6)) (0,(0,())) o3) 0 o5 with|none=>none|some x7=>some ((BV (AE o5) (AE (AM x6)) (0,(0,())) o3),o4,(((AE (AM x7)):Nat):Int),())
 |.inr _=>none
def IS[Lk]:=fun v=>Lk.f (HJ v)
theorem OI v:IS v=HJ v:=AJ _
abbrev AGZ:AF:=[(.tmp 0,.dat Uc),(.tmp 1,.dat Uy)]
abbrev AGY:AF:=[(.tmp 0,.own 42 U5),(.tmp 1,.di)]
abbrev AGX:List RS:=[.one,.one]
abbrev AKp:AF:=[(.tmp 2,.box 2),(.cell 0 0,.di),(.cell 0 1,.dat Uq),(.tmp 6,.box 1),(.cell 1 0,.map U5 U0),(.tmp 13,.dat Uy),(.tmp 14,.di),(.tmp 15,.di)]
abbrev AKo:A0:=[(.ret,[(.tmp 4,.nil U5),(.tmp 5,.di)]),(.exit 0,[(.tmp 2,.box 2),(.cell 0 0,.di),(.cell 0 1,.dat Uq),(.tmp 6,.box 1),(.cell 1 0,.map U5 U0)])]
def EA[Lk]:(Int×List U1×List (U3×Int)×List U3×Int×Int×Unit)→Option ((Int×List U1×List (U3×Int)×List U3×Int×Int×Unit)⊕U9⊕(Int×List U1×List (U3×Int)×Unit)⊕Unit):=fun(a0,a1,a2,a3,a4,a5,_)=>
 match(ilt a5 a4)with
 |true=>match idx a3 a5 with|none=>none|some x0=>match(ilt (Bx x0.1 x0.2.1) 0)with
  |true=>some (.inr (.inl (10,())))
  |false=>match(ile a0 (imax x0.1 x0.2.1))with
  |true=>some (.inr (.inl (10,())))
  |false=>match(ile 0 (Wl a2 ((Bx x0.1 x0.2.1),((imax x0.1 x0.2.1),())))&&ilt (Wl a2 ((Bx x0.1 x0.2.1),((imax x0.1 x0.2.1),()))) (AM (Ag a2 ((Bx x0.1 x0.2.1),((imax x0.1 x0.2.1),())) ((AS a2 ((Bx x0.1 x0.2.1),((imax x0.1 x0.2.1),()))).getD 0))))with
  |true=>some (.inl (a0,a1,(AVt (Ag a2 ((Bx x0.1 x0.2.1),((imax x0.1 x0.2.1),())) ((AS a2 ((Bx x0.1 x0.2.1),((imax x0.1 x0.2.1),()))).getD 0)) (Wl a2 ((Bx x0.1 x0.2.1),((imax x0.1 x0.2.1),()))) (IntKind.wrap .i64 (((AS a2 ((Bx x0.1 x0.2.1),((imax x0.1 x0.2.1),()))).getD 0)+1))),a3,a4,(IntKind.wrap .i64 (a5+1)),()))
  |false=>none
 |false=>some (.inr (.inr (.inl (a0,a1,a2,()))))
def QC[Lk]:Vf→Option ((List U3×Int×Unit)):=fun(a0,a1,_)=>
 match Fv ((a0.1,(a0.2.1,())),())with|none=>none|some (y0,_)=>match(!y0)with
 |true=>some (([]:List U3),1,())
 |false=>match AR EA many (a0.1,a0.2.1,([]:List (U3×Int)),a1,(AM a1),0,())with|none=>none|some r=>match r with
 |.inl (o1,_)=>some (([]:List U3),o1,())
 |.inr r=>match r with
 |.inl (o2,o3,o4,_)=>match AAb ((o2,(o3,())),())with|none=>none|some (y5,_)=>match IS (y5,o4,())with|none=>none|some (y6,y7,y8,_)=>some ((Bl (AE y8) y6),0,())
 |.inr _=>none
def VB[Lk]:=fun v=>Lk.f (QC v)
theorem ZP v:VB v=QC v:=AJ _
abbrev ZT:AF:=[(.tmp 0,.dat Uc),(.tmp 1,.di),(.tmp 2,.di)]
abbrev ZS:AF:=[(.tmp 0,.di),(.tmp 1,.di)]
abbrev ZR:List RS:=[.one,.one]
def Lr[Lk]:V5→Option (U3):=fun(a0,a1,a2,_)=>
 match Fv ((a0.1,(a0.2.1,())),())with|none=>none|some (y0,_)=>match(!y0)with
 |true=>some (0,1,())
 |false=>match(ilt (Bx a1 a2) 0)with
 |true=>some (0,10,())
 |false=>match(ile a0.1 (imax a1 a2))with
 |true=>some (0,10,())
 |false=>match AMS ((a0.1,(a0.2.1,())),a1,a2,())with|none=>none|some (y1,_)=>match(ilt y1 0)with
 |true=>some (0,6,())
 |false=>some (y1,0,())
def Of[Lk]:=fun v=>Lk.f (Lr v)
theorem SX v:Of v=Lr v:=AJ _
abbrev AGP:AF:=[(.tmp 0,.dat Uc),(.tmp 1,.di),(.tmp 2,.di),(.tmp 3,.di)]
abbrev AGO:AF:=[(.tmp 0,.own 3 U0),(.tmp 1,.di)]
abbrev AGN:List RS:=[.one,.one]
def P5[Lk]:(Ud×Int×Int×Int×Unit)→Option (Ur):=fun(a0,a1,a2,a3,_)=>
 match Of ((a0.1,(a0.2.1,())),a1,a2,())with|none=>none|some (y0,y1,_)=>match(ieq y1 1)with
 |true=>some (([]:List (Int)),y1,())
 |false=>match(ieq y1 10)with
 |true=>some (([]:List (Int)),y1,())
 |false=>match NY ((a0.1,(a0.2.1,())),a3,())with|none=>none|some (y2,y3,_)=>match IG ((y2.1,(y2.2.1,())),a1,())with|none=>none|some (y4,y5,_)=>match IG ((y2.1,(y2.2.1,())),a2,())with|none=>none|some (y6,y7,_)=>match Ez (y4,a2,())with|none=>none|some (y8,_)=>match y8 with
 |true=>some (([]:List (Int)),5,())
 |false=>match FV ((AM y4),(AM y6),())with|none=>none|some (y9,_)=>match idx y4 0 with|none=>none|some x10=>match idx y6 0 with|none=>none|some x11=>match FV ((AL y4 0 0),(AL y6 0 0),())with|none=>none|some (y12,_)=>match orI (([y9,y12]:List (Int)),())with|none=>none|some (y13,_)=>match(ilt y13 0)with
 |true=>some (y4,0,())
 |false=>some (y6,0,())
def UW[Lk]:=fun v=>Lk.f (P5 v)
theorem Y1 v:UW v=P5 v:=AJ _
abbrev AZS:AF:=[(.tmp 0,.box 8),(.cell 0 0,.di),(.cell 0 1,.own 44 U2),(.cell 0 2,.dat .bool),(.cell 0 3,.dat .bool),(.cell 0 4,.di),(.cell 0 5,.di),(.cell 0 6,.di),(.cell 0 7,.di),(.tmp 1,.di),(.tmp 2,.di),(.tmp 3,.di)]
abbrev AZO:AF:=[(.obj 0,.box 8),(.cell 0 0,.di),(.cell 0 1,.own 44 U2),(.cell 0 2,.dat .bool),(.cell 0 3,.dat .bool),(.cell 0 4,.di),(.cell 0 5,.di),(.cell 0 6,.di),(.cell 0 7,.di),(.obj 1,.own' 1),(.tmp 0,.dat .bool)]
abbrev AZK:List RS:=[.one]
abbrev AZP:AF:=[(.obj 0,.box 8),(.cell 0 0,.di),(.cell 0 1,.own 44 U2),(.cell 0 2,.dat .bool),(.cell 0 3,.dat .bool),(.cell 0 4,.di),(.cell 0 5,.di),(.cell 0 6,.di),(.cell 0 7,.di),(.obj 1,.own' 1),(.tmp 0,.ptr' 0 0),(.cap 14 0,.box 1),(.cell 2 0,.map U0 U0),(.tmp 14,.clo 141 [(2,0)]),(.tmp 86,.prs 157 1),(.tmp 87,.di),(.tmp 88,.di)]
abbrev AZL:A0:=[(.exit 5,[(.obj 0,.box 8),(.cell 0 0,.di),(.cell 0 1,.own 44 U2),(.cell 0 2,.dat .bool),(.cell 0 3,.dat .bool),(.cell 0 4,.di),(.cell 0 5,.di),(.cell 0 6,.di),(.cell 0 7,.di),(.obj 1,.own' 1)]),(.ret,[(.obj 0,.box 8),(.cell 0 0,.di),(.cell 0 1,.own 44 U2),(.cell 0 2,.dat .bool),(.cell 0 3,.dat .bool),(.cell 0 4,.di),(.cell 0 5,.di),(.cell 0 6,.di),(.cell 0 7,.di),(.obj 1,.own' 1),(.tmp 8,.dat .bool)])]
def Lv[Lk]:Vg→Option (Vg⊕V8⊕(Int×List U1×Bool×Bool×Int×Int×Int×Int×Bool×Unit)⊕Unit):=fun(a0,a1,a2,a3,a4,a5,a6,a7,a8,a9,a10,a11,_)=>
 match(ilt a11 a10)with
 |true=>match idx a9 a11 with|none=>none|some x0=>match(ieq (IntKind.wrap .i64 (((AS a8 (AL a1 (AE (AL a9 (AE a11) 0)) (0,(0,(0,(false,()))))).1).getD 0)+((AS a8 (AL a1 (AE (AL a9 (AE a11) 0)) (0,(0,(0,(false,()))))).2.1).getD 0))) 0)with
  |true=>some (.inl (a0,a1,a2,a3,a4,a5,a6,a7,a8,a9,a10,(IntKind.wrap .i64 (a11+1)),()))
  |false=>match(ieq (IntKind.wrap .i64 (((AS a8 (AL a1 (AE (AL a9 (AE a11) 0)) (0,(0,(0,(false,()))))).1).getD 0)+((AS a8 (AL a1 (AE (AL a9 (AE a11) 0)) (0,(0,(0,(false,()))))).2.1).getD 0))) 2)with
  |true=>some (.inl (a0,(An a1 (AE (AL a9 (AE a11) 0)) ((AL a1 (AE (AL a9 (AE a11) 0)) (0,(0,(0,(false,()))))).1,((AL a1 (AE (AL a9 (AE a11) 0)) (0,(0,(0,(false,()))))).2.1,((Bx a7 (IntKind.wrap .i64 ((AL a1 (AE (AL a9 (AE a11) 0)) (0,(0,(0,(false,()))))).2.2.1+1))),((AL a1 (AE (AL a9 (AE a11) 0)) (0,(0,(0,(false,()))))).2.2.2.1,()))))),a2,a3,a4,a5,(IntKind.wrap .i64 (a6+1)),a7,a8,a9,a10,(IntKind.wrap .i64 (a11+1)),()))
  |false=>match(ieq (IntKind.wrap .i64 (((AS a8 (AL a1 (AE (AL a9 (AE a11) 0)) (0,(0,(0,(false,()))))).1).getD 0)+((AS a8 (AL a1 (AE (AL a9 (AE a11) 0)) (0,(0,(0,(false,()))))).2.1).getD 0))) 1)with
  |true=>some (.inr (.inr (.inl (a0,(An a1 (AE (AL a9 (AE a11) 0)) ((AL a1 (AE (AL a9 (AE a11) 0)) (0,(0,(0,(false,()))))).1,((AL a1 (AE (AL a9 (AE a11) 0)) (0,(0,(0,(false,()))))).2.1,((AL a1 (AE (AL a9 (AE a11) 0)) (0,(0,(0,(false,()))))).2.2.1,(true,()))))),a2,true,(AL (An a1 (AE (AL a9 (AE a11) 0)) ((AL a1 (AE (AL a9 (AE a11) 0)) (0,(0,(0,(false,()))))).1,((AL a1 (AE (AL a9 (AE a11) 0)) (0,(0,(0,(false,()))))).2.1,((AL a1 (AE (AL a9 (AE a11) 0)) (0,(0,(0,(false,()))))).2.2.1,(true,()))))) (AE (AL a9 (AE a11) 0)) (0,(0,(0,(false,()))))).1,(AL (An a1 (AE (AL a9 (AE a11) 0)) ((AL a1 (AE (AL a9 (AE a11) 0)) (0,(0,(0,(false,()))))).1,((AL a1 (AE (AL a9 (AE a11) 0)) (0,(0,(0,(false,()))))).2.1,((AL a1 (AE (AL a9 (AE a11) 0)) (0,(0,(0,(false,()))))).2.2.1,(true,()))))) (AE (AL a9 (AE a11) 0)) (0,(0,(0,(false,()))))).2.1,a6,a7,true,()))))
  |false=>some (.inl (a0,a1,a2,a3,a4,a5,a6,a7,a8,a9,a10,(IntKind.wrap .i64 (a11+1)),()))
 |false=>some (.inr (.inl (a0,a1,a2,a3,a4,a5,a6,a7,())))
abbrev AZQ:AF:=[(.obj 0,.box 8),(.cell 0 0,.di),(.cell 0 1,.own 44 U2),(.cell 0 2,.dat .bool),(.cell 0 3,.dat .bool),(.cell 0 4,.di),(.cell 0 5,.di),(.cell 0 6,.di),(.cell 0 7,.di),(.obj 1,.own' 1),(.tmp 0,.ptr' 0 0),(.tmp 3,.di),(.cap 14 0,.box 1),(.cell 2 0,.map U0 U0),(.tmp 14,.clo 141 [(2,0)]),(.tmp 15,.prs 157 1),(.tmp 47,.di),(.tmp 48,.di)]
abbrev AZM:A0:=[(.exit 2,[(.obj 0,.box 8),(.cell 0 0,.di),(.cell 0 1,.own 44 U2),(.cell 0 2,.dat .bool),(.cell 0 3,.dat .bool),(.cell 0 4,.di),(.cell 0 5,.di),(.cell 0 6,.di),(.cell 0 7,.di),(.obj 1,.own' 1),(.tmp 0,.ptr' 0 0),(.cap 14 0,.box 1),(.cell 2 0,.map U0 U0),(.tmp 14,.clo 141 [(2,0)]),(.tmp 15,.prs 157 1)])]
def Lw[Lk]:Up→Option (Up⊕(Int×List U1×Bool×Bool×Int×Int×Int×Int×List Uu×List Int×Unit)⊕Unit):=fun(a0,a1,a2,a3,a4,a5,a6,a7,a8,a9,a10,a11,a12,_)=>
 match(ilt a12 a11)with
 |true=>match idx a1 a12 with|none=>none|some x0=>match(!(ieq (AL a1 (AE a12) (0,(0,(0,(false,()))))).2.2.1 a8))with
  |true=>some (.inl (a0,a1,a2,a3,a4,a5,a6,a7,a8,a9,a10,a11,(IntKind.wrap .i64 (a12+1)),()))
  |false=>match(!(AL a1 (AE a12) (0,(0,(0,(false,()))))).2.2.2.1)with
  |true=>match(fits ((AM a10)+(AM ([(Int.ofNat (AE a12))]:List (Int)))))with
   |true=>some (.inl (a0,a1,a2,a3,a4,a5,a6,a7,a8,a9,(A5 a10 ([(Int.ofNat (AE a12))]:List (Int))),a11,(IntKind.wrap .i64 (a12+1)),()))
   |false=>none
  |false=>match(ieq (IntKind.wrap .i64 (((AS a9 (AL a1 (AE a12) (0,(0,(0,(false,()))))).1).getD 0)+((AS a9 (AL a1 (AE a12) (0,(0,(0,(false,()))))).2.1).getD 0))) 2)with
  |true=>some (.inl (a0,(An a1 (AE a12) ((AL a1 (AE a12) (0,(0,(0,(false,()))))).1,((AL a1 (AE a12) (0,(0,(0,(false,()))))).2.1,((Bx a7 (IntKind.wrap .i64 ((AL a1 (AE a12) (0,(0,(0,(false,()))))).2.2.1+1))),((AL a1 (AE a12) (0,(0,(0,(false,()))))).2.2.2.1,()))))),a2,a3,a4,a5,(IntKind.wrap .i64 (a6+1)),a7,a8,a9,a10,a11,(IntKind.wrap .i64 (a12+1)),()))
  |false=>some (.inl (a0,a1,a2,a3,a4,a5,a6,a7,a8,a9,a10,a11,(IntKind.wrap .i64 (a12+1)),()))
 |false=>some (.inr (.inl (a0,a1,a2,a3,a4,a5,a6,a7,a9,a10,())))
abbrev AZR:AF:=[(.obj 0,.box 8),(.cell 0 0,.di),(.cell 0 1,.own 44 U2),(.cell 0 2,.dat .bool),(.cell 0 3,.dat .bool),(.cell 0 4,.di),(.cell 0 5,.di),(.cell 0 6,.di),(.cell 0 7,.di),(.obj 1,.own' 1),(.tmp 0,.ptr' 0 0),(.tmp 3,.di),(.tmp 11,.box 1),(.cell 2 0,.map U0 U0),(.tmp 32,.own 3 U0),(.tmp 33,.di),(.tmp 34,.di)]
abbrev AZN:A0:=[(.exit 0,[(.obj 0,.box 8),(.cell 0 0,.di),(.cell 0 1,.own 44 U2),(.cell 0 2,.dat .bool),(.cell 0 3,.dat .bool),(.cell 0 4,.di),(.cell 0 5,.di),(.cell 0 6,.di),(.cell 0 7,.di),(.obj 1,.own' 1),(.tmp 0,.ptr' 0 0),(.tmp 3,.di),(.tmp 11,.box 1),(.cell 2 0,.map U0 U0)])]
def Lx[Lk]:Up→Option (Up⊕(Int×List U1×Bool×Bool×Int×Int×Int×Int×Int×List Uu×Unit)⊕Unit):=fun(a0,a1,a2,a3,a4,a5,a6,a7,a8,a9,a10,a11,a12,_)=>
 match(ilt a12 a11)with
 |true=>match idx a10 a12 with|none=>none|some x0=>some (.inl (a0,a1,a2,a3,a4,a5,a6,a7,a8,(Ag a9 (AL a10 (AE a12) 0) 1),a10,a11,(IntKind.wrap .i64 (a12+1)),()))
 |false=>some (.inr (.inl (a0,a1,a2,a3,a4,a5,a6,a7,a8,a9,())))
def ATP[Lk]:(Int×List U1×Bool×Bool×Int×Int×Int×Int×Int×Int×Int×Unit)→Option ((Int×List U1×Bool×Bool×Int×Int×Int×Int×Bool×Unit)):=fun(a0,a1,a2,a3,a4,a5,a6,a7,a8,a9,a10,_)=>
 match UW ((a0,(a1,())),a8,a9,a10,())with|none=>none|some (y0,y1,_)=>match AR Lx many (a0,a1,a2,a3,a4,a5,a6,a7,a10,([]:List Uu),y0,(AM y0),0,())with|none=>none|some r=>match r with
 |.inl (o2,o3,o4,o5,o6,o7,o8,o9,o10,o11,_)=>match AR Lw many (o2,o3,o4,o5,o6,o7,o8,o9,o10,o11,([]:List (Int)),(AM o3),0,())with|none=>none|some r=>match r with
  |.inl (o12,o13,o14,o15,o16,o17,o18,o19,o20,o21,_)=>match AR Lv many (o12,o13,o14,o15,o16,o17,o18,o19,o20,o21,(AM o21),0,())with|none=>none|some r=>match r with
   |.inl (o22,o23,o24,o25,o26,o27,o28,o29,_)=>some (o22,o23,o24,o25,o26,o27,o28,o29,false,())
   |.inr r=>match r with
   |.inl (o30,o31,o32,o33,o34,o35,o36,o37,o38,_)=>some (o30,o31,o32,o33,o34,o35,o36,o37,o38,())
   |.inr _=>none
  |.inr _=>none
 |.inr _=>none
def pat[Lk]:=fun v=>Lk.f (ATP v)
theorem AZT v:pat v=ATP v:=AJ _
abbrev APX:AF:=[(.tmp 0,.dat Uc),(.tmp 1,.di),(.tmp 2,.di)]
abbrev APW:AF:=[(.tmp 0,.di),(.tmp 1,.dat Uq),(.tmp 2,.dat Uo),(.tmp 3,.di)]
abbrev APV:List RS:=[.agg 2,.one,.one]
abbrev ATI:AF:=[(.tmp 6,.box 2),(.cell 0 0,.di),(.cell 0 1,.nil U2),(.tmp 7,.box 5),(.cell 1 0,.dat .bool),(.cell 1 1,.dat .bool),(.cell 1 2,.di),(.cell 1 3,.di),(.cell 1 4,.di),(.tmp 11,.box 4),(.cell 2 0,.di),(.cell 2 1,.di),(.cell 2 2,.di),(.cell 2 3,.dat .bool),(.tmp 12,.box 8),(.cell 3 0,.di),(.cell 3 1,.own 44 U2),(.cell 3 2,.dat .bool),(.cell 3 3,.dat .bool),(.cell 3 4,.di),(.cell 3 5,.di),(.cell 3 6,.di),(.cell 3 7,.di),(.tmp 13,.di)]
abbrev ATH:A0:=[(.exit 0,[(.tmp 6,.box 2),(.cell 0 0,.di),(.cell 0 1,.nil U2),(.tmp 7,.box 5),(.cell 1 0,.dat .bool),(.cell 1 1,.dat .bool),(.cell 1 2,.di),(.cell 1 3,.di),(.cell 1 4,.di),(.tmp 12,.box 8),(.cell 2 0,.di),(.cell 2 1,.own 44 U2),(.cell 2 2,.dat .bool),(.cell 2 3,.dat .bool),(.cell 2 4,.di),(.cell 2 5,.di),(.cell 2 6,.di),(.cell 2 7,.di)])]
def EN[Lk]:Um→Option (Um⊕(Int×Bool×Bool×Int×Int×Int×Int×List U1×Bool×Bool×Int×Int×Int×Int×Unit)⊕Unit):=fun(a0,a1,a2,a3,a4,a5,a6,a7,a8,a9,a10,a11,a12,a13,a14,a15,a16,a17,a18,_)=>
 match a9 with
 |true=>match(ile 0 a18)with
  |true=>match pat (a10,a11,a12,a13,a14,a15,a16,a17,a6,a7,a18,())with|none=>none|some (y0,y1,y2,y3,y4,y5,y6,y7,y8,_)=>match(!y8)with
   |true=>some (.inl (a0,a1,a2,a3,a4,a5,a6,a7,a8,a9,y0,y1,y2,y3,y4,y5,y6,y7,(IntKind.wrap .i64 (a18-1)),()))
   |false=>some (.inr (.inl (a0,a1,a2,a3,a4,a5,y0,y1,y2,y3,y4,y5,y6,y7,())))
  |false=>some (.inr (.inl (a0,a1,a2,a3,a4,a5,a10,a11,a12,a13,a14,a15,a16,a17,())))
 |false=>some (.inr (.inl (a0,a1,a2,a3,a4,a5,a10,a11,a12,a13,a14,a15,a16,a17,())))
def Y7[Lk]:V5→Option ((Int×List U1×Ua×Int×Unit)):=fun(a0,a1,a2,_)=>
 match Of ((a0.1,(a0.2.1,())),a1,a2,())with|none=>none|some (y0,y1,_)=>match(!(ieq y1 0))with
 |true=>some (a0.1,a0.2.1,(false,(false,((0,(0,())),(0,())))),y1,())
 |false=>match idx a0.2.1 y0 with|none=>none|some x2=>match B4 a0.2.1 0 y0 with|none=>none|some x3=>match B4 a0.2.1 (IntKind.wrap .i64 (y0+1)) (AM a0.2.1)with|none=>none|some x4=>match Ni (([x3,x4]:List (List U1)),())with|none=>none|some (y5,_)=>match AC6 (a0.1,())with|none=>none|some (y6,_)=>match AR EN many (0,false,false,0,0,0,x2.1,x2.2.1,x2.2.2.1,x2.2.2.2.1,a0.1,y5,x2.2.2.2.1,false,0,0,0,y6,x2.2.2.1,())with|none=>none|some r=>match r with
 |.inl (o7,o8,o9,o10,o11,o12,o13,o14,o15,o16,o17,o18,o19,o20,_)=>some (o13,o14,(o15,(o16,((o17,(o18,())),(o19,())))),0,())
 |.inr _=>none
def ACf[Lk]:=fun v=>Lk.f (Y7 v)
theorem AGS v:ACf v=Y7 v:=AJ _
abbrev AGe:AF:=[(.tmp 0,.dat Uc),(.tmp 1,.dat Uy)]
abbrev AGd:AF:=[(.tmp 0,.dat Uc),(.tmp 1,.own 71 Uo),(.tmp 2,.di)]
abbrev AGc:List RS:=[.one,.one,.one]
abbrev AKv:AF:=[(.tmp 2,.box 2),(.cell 0 0,.di),(.cell 0 1,.dat Uq),(.tmp 4,.box 2),(.cell 1 0,.di),(.cell 1 1,.nil U2),(.tmp 9,.own 71 Uo),(.tmp 10,.box 2),(.cell 3 0,.di),(.cell 3 1,.dat Uq),(.tmp 27,.own 42 U5),(.tmp 28,.di),(.tmp 29,.di)]
abbrev AKu:A0:=[(.ret,[(.tmp 4,.box 2),(.cell 0 0,.di),(.cell 0 1,.dat Uq),(.tmp 5,.nil Uo),(.tmp 6,.di)]),(.exit 0,[(.tmp 4,.box 2),(.cell 0 0,.di),(.cell 0 1,.nil U2),(.tmp 9,.own 71 Uo),(.tmp 10,.box 2),(.cell 2 0,.di),(.cell 2 1,.dat Uq)])]
def EB[Lk]:Vn→Option (Vn⊕(Int×List U1×Int×Unit)⊕(Int×List Ua×Int×List U1×Unit)⊕Unit):=fun(a0,a1,a2,a3,a4,a5,a6,a7,a8,_)=>
 match(ilt a8 a7)with
 |true=>match idx a6 a8 with|none=>none|some x0=>match ACf ((a4,(a5,())),(AL a6 (AE a8) (0,(0,()))).1,(AL a6 (AE a8) (0,(0,()))).2.1,())with|none=>none|some (y1,y2,y3,y4,_)=>match(!(ieq y4 0))with
  |true=>some (.inr (.inl (a0,a1,y4,())))
  |false=>match(fits ((AM a3)+(AM ([(y3.1,(y3.2.1,((y3.2.2.1.1,(y3.2.2.1.2.1,())),(y3.2.2.2.1,()))))]:List Ua))))with
  |true=>some (.inl (a0,a1,a2,(A5 a3 ([(y3.1,(y3.2.1,((y3.2.2.1.1,(y3.2.2.1.2.1,())),(y3.2.2.2.1,()))))]:List Ua)),y1,y2,a6,a7,(IntKind.wrap .i64 (a8+1)),()))
  |false=>none
 |false=>some (.inr (.inr (.inl (a2,a3,a4,a5,()))))
def XQ[Lk]:Vf→Option ((Ud×List Ua×Int×Unit)):=fun(a0,a1,_)=>
 match VB ((a0.1,(a0.2.1,())),a1,())with|none=>none|some (y0,y1,_)=>match(!(ieq y1 0))with
 |true=>some ((a0.1,(a0.2.1,())),([]:List Ua),y1,())
 |false=>match AR EB many (a0.1,a0.2.1,0,([]:List Ua),a0.1,a0.2.1,y0,(AM y0),0,())with|none=>none|some r=>match r with
 |.inl (o2,o3,o4,_)=>some ((o2,(o3,())),([]:List Ua),o4,())
 |.inr r=>match r with
 |.inl (o5,o6,o7,o8,_)=>some ((o7,(o8,())),o6,0,())
 |.inr _=>none
def VC[Lk]:=fun v=>Lk.f (XQ v)
theorem AKw v:VC v=XQ v:=AJ _
abbrev Tw:AF:=[]
abbrev Tv:AF:=[(.tmp 0,.dat .bool)]
abbrev Tu:List RS:=[.one]
def Tx[Lk]:(Unit)→Option (Ug):=fun _=>
 match ACf ((4,(([(0,(1,(0,(true,())))),(0,(2,(0,(true,())))),(1,(2,(0,(false,())))),(2,(3,(0,(true,()))))]:List U1),())),1,0,())with|none=>none|some (y0,y1,y2,y3,_)=>match VC ((4,(([(0,(1,(0,(true,())))),(0,(2,(0,(true,())))),(1,(2,(0,(false,())))),(2,(3,(0,(true,()))))]:List U1),())),([(3,(2,())),(0,(1,())),(1,(3,())),(1,(0,()))]:List U3),())with|none=>none|some (y4,y5,y6,_)=>match UW ((y0,(y1,())),0,3,1,())with|none=>none|some (y7,y8,_)=>match VB ((4,(([(0,(1,(0,(true,())))),(0,(2,(0,(true,())))),(1,(2,(0,(false,())))),(2,(3,(0,(true,()))))]:List U1),())),([(2,(1,())),(3,(0,()))]:List U3),())with|none=>none|some (y9,y10,_)=>match ACf ((4,(([(0,(1,(0,(true,())))),(0,(2,(0,(true,())))),(1,(2,(0,(false,())))),(2,(3,(0,(true,()))))]:List U1),())),0,3,())with|none=>none|some (y11,y12,y13,y14,_)=>match UW ((4,(([(0,(1,(0,(true,())))),(0,(2,(0,(true,())))),(1,(2,(0,(false,())))),(2,(3,(0,(true,()))))]:List U1),())),0,3,0,())with|none=>none|some (y15,y16,_)=>match(ieq y3 0)with
 |true=>match(ieq y6 0)with
  |true=>match(ieq y8 0)with
   |true=>match(ieq y10 0)with
    |true=>match(ieq y14 6)with
     |true=>match(ieq y16 5)with
      |true=>match((y2.1==true)&&((y2.2.1==true)&&(ieq y2.2.2.1.1 1&&(ieq y2.2.2.1.2.1 2&&(ieq y2.2.2.2.1 0&&true)))))with
       |true=>match OZ ((y0,(y1,())),(4,(([(0,(2,(0,(true,())))),(1,(2,(0,(true,())))),(2,(3,(0,(true,()))))]:List U1),())),())with|none=>none|some (y17,_)=>match y17 with
        |true=>match(ieq (AM y5) 2)with
         |true=>match idx y5 1 with|none=>none|some x18=>match(((AL y5 1 (false,(false,((0,(0,())),(0,()))))).1==true)&&(((AL y5 1 (false,(false,((0,(0,())),(0,()))))).2.1==false)&&(ieq (AL y5 1 (false,(false,((0,(0,())),(0,()))))).2.2.1.1 0&&(ieq (AL y5 1 (false,(false,((0,(0,())),(0,()))))).2.2.1.2.1 0&&(ieq (AL y5 1 (false,(false,((0,(0,())),(0,()))))).2.2.2.1 0&&true)))))with
          |true=>match(ieq (AM y4.2.1) 2)with
           |true=>match TH (y7,([0]:List (Int)),())with|none=>none|some (y19,_)=>match y19 with
            |true=>match SC (y9,([(1,(2,()))]:List U3),())with|none=>none|some (y20,_)=>some (y20,())
            |false=>some (false,())
           |false=>some (false,())
          |false=>some (false,())
         |false=>some (false,())
        |false=>some (false,())
       |false=>some (false,())
      |false=>some (false,())
     |false=>some (false,())
    |false=>some (false,())
   |false=>some (false,())
  |false=>some (false,())
 |false=>some (false,())
def I8[Lk]:=fun v=>Lk.f (Tx v)
theorem ASk v:I8 v=Tx v:=AJ _
abbrev TS:AF:=[(.tmp 0,.dat Uc),(.tmp 1,.dat Uy)]
abbrev TR:AF:=[(.tmp 0,.dat .bool)]
abbrev TQ:List RS:=[.one]
def Nc[Lk]:Vf→Option (Ug):=fun(a0,a1,_)=>
 match(ilt 30 (AM a0.2.1))with
 |true=>some (true,())
 |false=>match(ilt 12 a0.1)with
 |true=>some (true,())
 |false=>some ((ilt 12 (AM a1)),())
def Nd[Lk]:=fun v=>Lk.f (Nc v)
theorem AAs v:Nd v=Nc v:=AJ _
end
end Go.Pev
end
section
namespace Go.Pev
noncomputable section
attribute [local irreducible] MU JM N0 LJ AWb AWc AWd P2 Wi We YU JO AP many IntKind.wrap AM An AL A5 Bl Df Jt AE BV Bx imax AS Ag
abbrev KI:AF:=[(.tmp 0,.dat Uc),(.tmp 1,.dat Uy)]
abbrev KH:AF:=[(.tmp 0,.dat .bool)]
abbrev KG:List RS:=[.one]
abbrev N8:AF:=[(.tmp 5,.box 2),(.cell 0 0,.di),(.cell 0 1,.dat Uq),(.tmp 6,.own 71 Uo),(.tmp 8,.box 2),(.cell 2 0,.di),(.cell 2 1,.dat Uq),(.tmp 9,.own 71 Uo),(.tmp 10,.di),(.tmp 11,.own 42 U5),(.tmp 12,.di),(.tmp 13,.own 42 U5),(.tmp 14,.own 42 U5),(.tmp 15,.own 42 U5),(.tmp 16,.di)]
abbrev N7:A0:=[(.exit 0,[(.tmp 5,.box 2),(.cell 0 0,.di),(.cell 0 1,.dat Uq),(.tmp 6,.own 71 Uo),(.tmp 8,.box 2),(.cell 2 0,.di),(.cell 2 1,.dat Uq),(.tmp 9,.own 71 Uo),(.tmp 10,.di),(.tmp 11,.own 42 U5),(.tmp 12,.di),(.tmp 13,.own 42 U5),(.tmp 15,.own 42 U5)])]
def CE[Lk]:V9→Option (V9⊕(Int×List U1×List Ua×Int×List U1×List Ua×Int×List U3×Int×List U3×List U3×Unit)⊕Unit):=fun(a0,a1,a2,a3,a4,a5,a6,a7,a8,a9,a10,a11,a12,_)=>
 match(ilt a12 (AM a9))with
 |true=>match idx a9 a12 with|none=>none|some x0=>match Vw (a10,((AL a9 (AE a12) (0,(0,()))).1,((AL a9 (AE a12) (0,(0,()))).2.1,())),())with|none=>none|some (y1,_)=>match(!y1)with
  |true=>match idx a9 a12 with|none=>none|some x2=>match(fits ((AM a11)+(AM ([((AL a9 (AE a12) (0,(0,()))).1,((AL a9 (AE a12) (0,(0,()))).2.1,()))]:List U3))))with
   |true=>some (.inl (a0,a1,a2,a3,a4,a5,a6,a7,a8,a9,a10,(A5 a11 ([((AL a9 (AE a12) (0,(0,()))).1,((AL a9 (AE a12) (0,(0,()))).2.1,()))]:List U3)),(IntKind.wrap .i64 (a12+1)),()))
   |false=>none
  |false=>some (.inl (a0,a1,a2,a3,a4,a5,a6,a7,a8,a9,a10,a11,(IntKind.wrap .i64 (a12+1)),()))
 |false=>some (.inr (.inl (a0,a1,a2,a3,a4,a5,a6,a7,a8,a9,a11,())))
def HA[Lk]:Vf→Option (Ug):=fun(a0,a1,_)=>
 match I8 ()with|none=>none|some (y0,_)=>match(!y0)with
 |true=>some (false,())
 |false=>match Nd ((a0.1,(a0.2.1,())),a1,())with|none=>none|some (y1,_)=>match y1 with
 |true=>some (true,())
 |false=>match KC ((a0.1,(a0.2.1,())),())with|none=>none|some (y2,_)=>match(!y2)with
 |true=>some (true,())
 |false=>match VC ((a0.1,(a0.2.1,())),a1,())with|none=>none|some (y3,y4,y5,_)=>match(!(ieq y5 0))with
 |true=>match OZ ((y3.1,(y3.2.1,())),(a0.1,(a0.2.1,())),())with|none=>none|some (y6,_)=>match y6 with
  |true=>some ((ieq (AM y4) 0),())
  |false=>some (false,())
 |false=>match VC ((y3.1,(y3.2.1,())),a1,())with|none=>none|some (y7,y8,y9,_)=>match VB ((y3.1,(y3.2.1,())),a1,())with|none=>none|some (y10,y11,_)=>match I3 ((a0.1,(a0.2.1,())),())with|none=>none|some (y12,_)=>match M9 (a0.1,a1,())with|none=>none|some (y13,_)=>match AR CE many (y3.1,y3.2.1,y4,y7.1,y7.2.1,y8,y9,y10,y11,y12,y13,([]:List U3),0,())with|none=>none|some r=>match r with
 |.inl (o14,o15,o16,o17,o18,o19,o20,o21,o22,o23,o24,_)=>match(ieq o20 0)with
  |true=>match(ieq o22 0)with
   |true=>match(ieq (AM o19) 0)with
    |true=>match(ieq (AM o21) 0)with
     |true=>match OZ ((o17,(o18,())),(o14,(o15,())),())with|none=>none|some (y25,_)=>match y25 with
      |true=>match I3 ((o14,(o15,())),())with|none=>none|some (y26,_)=>match SC (y26,o24,())with|none=>none|some (y27,_)=>match y27 with
       |true=>some ((ieq (AM o16) (IntKind.wrap .i64 ((AM o23)-(AM o24)))),())
       |false=>some (false,())
      |false=>some (false,())
     |false=>some (false,())
    |false=>some (false,())
   |false=>some (false,())
  |false=>some (false,())
 |.inr _=>none
def Fp[Lk]:=fun v=>Lk.f (HA v)
theorem N9 v:Fp v=HA v:=AJ _
end
end Go.Pev
end
section

end
section
namespace Go.Pev.Pl
theorem Aj{n:Int}(h:-9223372036854775808≤n∧n≤9223372036854775807):IntKind.wrap .i64 n=n:=IntWalk.i64_in n h
section
variable {α:Type} [Inhabited α]
theorem Ah{d:Array α}{n:Nat}(h:n<d.size):idx d.toList (n:Int)=some d[n]! := by
 rw[idx_eq,N0,AfE (by omega)]
 simp[h]
theorem Ar{d:Array α}{n:Nat}{z:α}(h:n<d.size):AL d.toList (AE (n:Int)) z=d[n]! := by
 simp[AL,AE,h]
theorem C1{d:Array α}{n:Nat}{x:α}:An d.toList (AE (n:Int)) x=(d.setIfInBounds n x).toList:=by
 simp[An,AE]
theorem AIS{d:Array α}:AM d.toList=(d.size:Int):=by simp[AM]
theorem C7(d:Array α)(i j:Nat):(d.setIfInBounds i d[j]!).setIfInBounds j d[i]! = Go.Sort.swp d i j:=rfl
theorem size_swp(d:Array α)(i j:Nat):(Go.Sort.swp d i j).size=d.size:=by simp[Go.Sort.swp]
end
theorem AI(a b:Nat):ilt (a:Int) (b:Int)=decide (a<b):=by rw[Am];simp
theorem Bn(a b:Nat):ile (a:Int) (b:Int)=decide (a≤b):=by rw[Ap];simp
theorem Qh(a b:Nat):ieq (a:Int) (b:Int)=decide (a=b):=by
 rw[D6]
 by_cases h:a=b
 ·simp[h]
 ·simp[h];omega
section
theorem wrap_add{a b:Nat}(h:a+b<9223372036854775808):IntKind.wrap .i64 ((a:Int)+(b:Int))=((a+b:Nat):Int):=by rw[Aj (by omega)];omega
theorem AG{a:Nat}(h:a+1<9223372036854775808):IntKind.wrap .i64 ((a:Int)+1)=((a+1:Nat):Int):=by rw[Aj (by omega)];omega
theorem ADY{a:Nat}(h:2*a<9223372036854775808):IntKind.wrap .i64 ((2:Int)*(a:Int))=((2*a:Nat):Int):=by rw[Aj (by omega)];omega
theorem ADX{a:Nat}(h:a<9223372036854775808):IntKind.wrap .i64 ((a:Int)*1)=((a*1:Nat):Int):=by rw[Aj (by omega)];omega
theorem Em{a:Nat}(h:a*2<9223372036854775808):IntKind.wrap .i64 ((a:Int)*2)=((a*2:Nat):Int):=by rw[Aj (by omega)];omega
theorem ADW{a:Nat}(h:a*3<9223372036854775808):IntKind.wrap .i64 ((a:Int)*3)=((a*3:Nat):Int):=by rw[Aj (by omega)];omega
theorem Bd{a b:Nat}(h:b≤a∧a<9223372036854775808):IntKind.wrap .i64 ((a:Int)-(b:Int))=((a-b:Nat):Int):=by rw[Aj (by omega)];omega
theorem Ao{a:Nat}(h:1≤a∧a<9223372036854775808):IntKind.wrap .i64 ((a:Int)-1)=((a-1:Nat):Int):=by rw[Aj (by omega)];omega
theorem AYu{a:Nat}(h:a<9223372036854775808):quo? .i64 (a:Int) 2=some ((a/2:Nat):Int):=by
 rw[SM,P2,AfE (by omega),Ag3 (by omega),Aj (by omega)];rfl
theorem UU{a:Nat}(h:a<9223372036854775808):quo? .i64 (a:Int) 4=some ((a/4:Nat):Int):=by
 rw[SM,P2,AfE (by omega),Ag3 (by omega),Aj (by omega)];rfl
theorem Adl{a:Nat}(h:a<9223372036854775808):quo? .i64 (a:Int) 8=some ((a/8:Nat):Int):=by
 rw[SM,P2,AfE (by omega),Ag3 (by omega),Aj (by omega)];rfl
end
end Go.Pev.Pl
end
section
namespace Go.Pev.Pl
section
variable {α:Type}
theorem CV{xs:List α}{n:Nat}(z:α)(h:n<xs.length):idx xs (n:Int)=some (xs.getD n z):=by
 rw[idx_eq,N0,AfE (by omega)]
 simp[h]
theorem AHr(xs:List α)(n:Nat):idx xs (n:Int)=xs[n]? := by
 rw[idx_eq,N0,AfE (by omega)]
 simp
theorem FG(xs:List α):idx xs (0:Int)=xs.head? := by
 rw[idx_eq,N0,AfE (by omega)]
 cases xs<;>rfl
theorem Ee(xs:List α)(n:Nat)(z:α):AL xs (AE (n:Int)) z=xs.getD n z:=by simp[AL,AE]
theorem ABD(xs:List α)(n:Nat)(x:α):An xs (AE (n:Int)) x=xs.set n x:=by simp[An,AE]
theorem AK(xs:List α):AM xs=(xs.length:Int):=rfl
theorem IL(n:Nat):AE (n:Int)=n:=by simp[AE]
theorem Cp(xs ys:List α):A5 xs ys=xs++ys:=rfl
theorem R4{xs:List α}{l h:Nat}(h1:l≤h)(h2:h≤xs.length):B4 xs (l:Int) (h:Int)=some ((xs.take h).drop l):=by
 rw[M6,LJ,AfJ (by omega)]
 simp
end
theorem BE{n:Int}(h:n≤4294967296):fits n=true:=(IH n).2 h
theorem ASO{α:Type}{xs:List α}(h:xs.length≤4294967296):AId xs=some xs:=by
 rw[AEo,JO,(TU _).2 (by rw[AK];omega)]
theorem Qi{α β:Type}(xs:List α)(ys:List β):ieq (AM xs) (AM ys)=decide (xs.length=ys.length):=by rw[AK,AK,Qh]
theorem Ak(a b:Int):ieq a b=decide (a=b):=by
 rw[D6]
 by_cases h:a=b<;>simp[h]
def walk{α β ρ:Type}(f:β→α→α⊕ρ)(fin:α→ρ):List β→α→ρ
 |[],a=>fin a
 |x::xs,a=>match f x a with
  |.inl a=>walk f fin xs a
  |.inr r=>r
theorem AUS{σ ρ α β:Type}{step:σ→Option (σ⊕ρ)}(st:Nat→α→σ)(xs:List β)(f:β→α→α⊕ρ)(fin:α→ρ)(I:Nat→α→Prop)
  (h:∀ i x a,i<xs.length→xs[i]? = some x→I i a→(∀ a',f x a = .inl a'→step (st i a)=some (.inl (st (i+1) a'))∧I (i+1) a')∧(∀ r,f x a = .inr r→step (st i a)=some (.inr r)))
  (hN:∀ a,I xs.length a→step (st xs.length a)=some (.inr (fin a))) :
  ∀ (m i n:Nat) (a:α),xs.length-i=m→i≤xs.length→m<n→I i a→AP step n (st i a)=some (walk f fin (xs.drop i) a):=by
 intro m
 induction m with
 |zero=>
  intro i n a hk hi hn hI
  obtain⟨n,rfl⟩:∃ k,n=k+1:=⟨n-1,by omega⟩
  have e:i=xs.length:=by omega
  subst e
  rw[AP,hN a hI,List.drop_length]
  rfl
 |succ m ih=>
  intro i n a hk hi hn hI
  obtain⟨n,rfl⟩:∃ k,n=k+1:=⟨n-1,by omega⟩
  have hi':i<xs.length:=by omega
  obtain⟨g1,g2⟩:=h i xs[i] a hi' (by simp[hi']) hI
  rw[Afn hi',walk,AP]
  cases hf:f xs[i] a with
  |inl a'=>
   obtain⟨e,hI'⟩:=g1 a' hf
   rw[e]
   exact ih (i+1) n a' (by omega) (by omega) (by omega) hI'
  |inr r=>rw[g2 r hf]
theorem Cj{σ ρ α β:Type}{step:σ→Option (σ⊕ρ)}(st:Nat→α→σ)(xs:List β)(f:β→α→α⊕ρ)(fin:α→ρ)(I:Nat→α→Prop)(hs:xs.length<9223372036854775808)
  (h:∀ i x a,i<xs.length→xs[i]? = some x→I i a→(∀ a',f x a = .inl a'→step (st i a)=some (.inl (st (i+1) a'))∧I (i+1) a')∧(∀ r,f x a = .inr r→step (st i a)=some (.inr r)))
  (hN:∀ a,I xs.length a→step (st xs.length a)=some (.inr (fin a))) (a:α) (h0:I 0 a):AR step many (st 0 a)=some (walk f fin xs a):=by
 have hm:9223372036854775808<many:=by simp only[many];omega
 rw[Aa,AUS st xs f fin I h hN xs.length 0 many a (by omega) (by omega) (by omega) h0]
 rfl
theorem FN{α:Type}{xs ys:List α}(z:α)(hl:xs.length=ys.length)(h:∀ j,j<xs.length→xs.getD j z=ys.getD j z):xs=ys:=by
 apply Ah5 hl
 intro i h1 h2
 have:=h i h1
 simpa [h1,h2]using this
theorem Vq{α:Type}{xs ys:List α}(z:α){j:Nat}(h:xs.getD j z≠ys.getD j z):xs≠ys:=fun e=>h (by rw[e])
theorem AUw{σ ρ:Type}{step:σ→Option (σ⊕ρ)}(st:Nat→σ)(N:Nat)(P:Nat→Bool)(rt:Nat→ρ)(rf:ρ)
  (h:∀ i,i<N→step (st i)=if P i then some (.inr (rt i))else some (.inl (st (i+1)))) (hN:step (st N)=some (.inr rf)) :
  ∀ (m i n:Nat),N-i=m→i≤N→m<n→(∃ k,i≤k∧k<N∧P k=true∧(∀ j,i≤j→j<k→P j=false)∧AP step n (st i)=some (rt k))∨((∀ j,i≤j→j<N→P j=false)∧AP step n (st i)=some rf):=by
 intro m
 induction m with
 |zero=>
  intro i n hk hi hn
  obtain⟨n,rfl⟩:∃ k,n=k+1:=⟨n-1,by omega⟩
  have e:i=N:=by omega
  subst e
  exact .inr ⟨fun j h1 h2=>by omega,by rw[AP,hN]⟩
 |succ m ih=>
  intro i n hk hi hn
  obtain⟨n,rfl⟩:∃ k,n=k+1:=⟨n-1,by omega⟩
  have hi':i<N:=by omega
  cases hP:P i
  ·have e:AP step (n+1) (st i)=AP step n (st (i+1)):=by rw[AP,h i hi',hP];rfl
   rw[e]
   rcases ih (i+1) n (by omega) (by omega) (by omega)with⟨k,h1,h2,h3,h4,h5⟩|⟨h1,h2⟩
   ·refine .inl ⟨k,by omega,h2,h3,fun j a1 a2 => ?_,h5⟩
    by_cases ej:j=i
    ·subst ej;exact hP
    ·exact h4 j (by omega) a2
   ·refine .inr ⟨fun j a1 a2 => ?_,h2⟩
    by_cases ej:j=i
    ·subst ej;exact hP
    ·exact h1 j (by omega) a2
  ·exact .inl ⟨i,AfH _,hi',hP,fun j a1 a2=>by omega,by rw[AP,h i hi',hP];rfl⟩
theorem YV{σ ρ:Type}{step:σ→Option (σ⊕ρ)}(st:Nat→σ)(N:Nat)(P:Nat→Bool)(rt:Nat→ρ)(rf:ρ)(hs:N<9223372036854775808)
  (h:∀ i,i<N→step (st i)=if P i then some (.inr (rt i))else some (.inl (st (i+1)))) (hN:step (st N)=some (.inr rf)) :
  (∃ k,k<N∧P k=true∧(∀ j,j<k→P j=false)∧AR step many (st 0)=some (rt k))∨((∀ j,j<N→P j=false)∧AR step many (st 0)=some rf):=by
 have hm:9223372036854775808<many:=by simp only[many];omega
 rw[Aa]
 rcases AUw st N P rt rf h hN N 0 many rfl (by omega) (by omega)with⟨k,h1,h2,h3,h4,h5⟩|⟨h1,h2⟩
 ·exact .inl ⟨k,h2,h3,fun j a=>h4 j (by omega) a,h5⟩
 ·exact .inr ⟨fun j a=>h1 j (by omega) a,h2⟩
end Go.Pev.Pl
end
section
namespace Go.Pev.Pl
inductive Tok where
 |ver (v:Int)
 |arc (u v:Int)
 deriving DecidableEq
namespace Tok
def st:Tok→Int
 |.ver v=>v
 |.arc _ v=>v
def step(s:List Int×List Int):Tok→Option (List Int×List Int)
 |.ver v=>match s.1 with
  |w::_=>if w=v then some s else none
  |[]=>none
 |.arc u v=>match s.1 with
  |w::r=>if w=u then match r with
    |p::r'=>if p=v then some (p::r',s.2)else if v∈s.2 then none else some (v::w::r,v::s.2)
    |[]=>if v∈s.2 then none else some (v::w::r,v::s.2)
   else none
  |[]=>none
def run:List Int×List Int→List Tok→Option (List Int×List Int)
 |s,[]=>some s
 |s,t::l=>match step s t with
  |some s=>run s l
  |none=>none
theorem DV(s:List Int×List Int)(a b:List Tok):run s (a++b)=(run s a).bind fun s=>run s b:=by
 induction a generalizing s with
 |nil=>rfl
 |cons t a ih=>
  simp only[Afa,run]
  cases step s t with
  |none=>rfl
  |some s=>exact ih s
theorem B5{s s':List Int×List Int}{t:Tok}(h:step s t=some s'):
  (∃ v r,t = .ver v∧s.1=v::r∧s'=s) ∨
  (∃ u v r,t = .arc u v∧s.1=u::v::r∧s'=(v::r,s.2)) ∨
  (∃ u v r,t = .arc u v∧s.1=u::r∧r.head?≠some v∧v∉s.2∧s'=(v::u::r,v::s.2)):=by
 obtain⟨way,c⟩:=s
 cases t with
 |ver v=>
  cases way with
  |nil=>simp[step]at h
  |cons w r=>
   simp only[step]at h
   split at h
   ·rename_i e;cases h;exact .inl ⟨v,r,rfl,by simp[e],rfl⟩
   ·cases h
 |arc u v=>
  cases way with
  |nil=>simp[step]at h
  |cons w r=>
   simp only[step]at h
   split at h
   ·rename_i e
    subst e
    cases r with
    |nil=>
     simp only at h
     split at h
     ·cases h
     ·rename_i hc;cases h;exact .inr (.inr ⟨w,v,[],rfl,rfl,by simp,hc,rfl⟩)
    |cons p r=>
     simp only at h
     split at h
     ·rename_i e;subst e;cases h;exact .inr (.inl ⟨w,p,r,rfl,rfl,rfl⟩)
     ·split at h
      ·cases h
      ·rename_i e hc;cases h;exact .inr (.inr ⟨w,v,p::r,rfl,rfl,by simpa using e,hc,rfl⟩)
   ·cases h
theorem DP(v:Int)(r c:List Int):step (v::r,c) (.ver v)=some (v::r,c):=by simp[step]
theorem Ga(u v:Int)(r c:List Int):step (u::v::r,c) (.arc u v)=some (v::r,c):=by simp[step]
theorem Fh(u v:Int)(r c:List Int)(h1:r.head?≠some v)(h2:v∉c):step (u::r,c) (.arc u v)=some (v::u::r,v::c):=by
 cases r with
 |nil=>simp[step,h2]
 |cons p r=>
  have:p≠v:=by simpa using h1
  simp[step,h2,this]
def Inv(s:List Int×List Int):Prop:=s.1.Nodup∧(∀ x∈s.1,x∈s.2)
theorem YH{s s':List Int×List Int}{t:Tok}(h:step s t=some s')(hi:Inv s):Inv s'∧(∀ x∈s.2,x∈s'.2)∧s'.1.head? = some t.st:=by
 obtain⟨way,c⟩:=s
 obtain⟨h1,h2⟩:=hi
 rcases B5 h with⟨v,r,rfl,hw,rfl⟩|⟨u,v,r,rfl,hw,rfl⟩|⟨u,v,r,rfl,hw,_,hn,rfl⟩
 ·exact⟨⟨h1,h2⟩,fun x hx=>hx,by rw[hw];rfl⟩
 ·simp only at hw h1 h2
  subst hw
  refine⟨⟨?_,?_⟩,fun x hx=>hx,rfl⟩
  ·exact(Aff.1 h1).2
  ·intro x hx;exact h2 x (by simp only at hx;simp[AfA.1 hx])
 ·simp only at hw h1 h2 hn
  subst hw
  refine⟨⟨?_,?_⟩,fun x hx=>by simp[hx],rfl⟩
  ·exact Aff.2 ⟨fun hm=>hn (h2 _ hm),h1⟩
  ·intro x hx
   rcases AfA.1 hx with rfl|hx
   ·simp
   ·exact AfU _ (h2 x hx)
theorem Ij{l:List Tok}:∀ {s s':List Int×List Int},run s l=some s'→Inv s→Inv s'∧(∀ x∈s.2,x∈s'.2)∧∀ t,l.getLast? = some t→s'.1.head? = some t.st:=by
 induction l with
 |nil=>intro s s' h hi;cases h;exact⟨hi,fun x hx=>hx,fun t ht=>by simp at ht⟩
 |cons t l ih=>
  intro s s' h hi
  simp only[run]at h
  split at h
  ·rename_i s1 h1
   obtain⟨q1,q2,q3⟩:=YH h1 hi
   obtain⟨p1,p2,p3⟩:=ih h q1
   refine⟨p1,fun x hx=>p2 x (q2 x hx),fun t' ht' => ?_⟩
   cases l with
   |nil=>simp at ht';subst ht';simp only[run]at h;cases h;exact q3
   |cons y l=>exact p3 t' (by rw[Ahw]at ht';exact ht')
  ·cases h
theorem HT{Z:Int→Prop}:∀ {l:List Tok} {way way' c d c2 low:List Int},run (way,c) l=some (way',d)→way≠[]→(∀ x,x∈c2↔x∈c∨Z x) →
  (∀ u v,.arc u v∈l→¬ Z v)→(∀ y∈low,Z y)→∃ d2,run (way++low,c2) l=some (way'++low,d2)∧(∀ x,x∈d2↔x∈d∨Z x):=by
 intro l
 induction l with
 |nil=>intro way way' c d c2 low h _ hc _ _;cases h;exact⟨c2,rfl,hc⟩
 |cons t l ih=>
  intro way way' c d c2 low h hne hc hz hl
  simp only[run]at h
  split at h
  ·rename_i s1 h1
   have hz':∀ u v,Tok.arc u v∈l→¬ Z v:=fun u v hm=>hz u v (AfU _ hm)
   rcases B5 h1 with⟨v,r,rfl,hw,rfl⟩|⟨u,v,r,rfl,hw,rfl⟩|⟨u,v,r,rfl,hw,hh,hn,rfl⟩
   ·simp only at hw
    subst hw
    obtain⟨d2,e1,e2⟩:=ih h hne hc hz' hl
    exact⟨d2,by simp only[run,Afa,DP];exact e1,e2⟩
   ·simp only at hw
    subst hw
    obtain⟨d2,e1,e2⟩:=ih h (by simp) hc hz' hl
    exact⟨d2,by simp only[run,Afa,Ga];exact e1,e2⟩
   ·simp only at hw hn
    subst hw
    have hzv:=hz u v (by simp)
    have hn2:v∉c2:=by rw[hc];rintro (h|h);exact hn h;exact hzv h
    have hh2:(r++low).head?≠some v:=by
     cases r with
     |nil=>
      cases low with
      |nil=>simp
      |cons y low=>
       simp only[Afj,List.head?_cons,ne_eq,Ae4]
       rintro rfl
       exact hzv (hl _ (by simp))
     |cons p r=>simpa using hh
    obtain⟨d2,e1,e2⟩:=ih (c2:=v::c2) h (by simp) (by intro x;simp only[AfA,hc,or_assoc]) hz' hl
    exact⟨d2,by simp only[run,Afa,Fh _ _ _ _ hh2 hn2];exact e1,e2⟩
  ·cases h
theorem Yg{z:Int}:∀ {l:List Tok} {way way' c2 d2 c:List Int},run (way,c2) l=some (way',d2)→z∉way→(∀ x,x∈c2↔x∈c∨x=z)→z∉c →
  .ver z∉l∧∃ d,run (way,c) l=some (way',d)∧(∀ x,x∈d2↔x∈d∨x=z)∧z∉d:=by
 intro l
 induction l with
 |nil=>intro way way' c2 d2 c h _ hc hz;cases h;exact⟨by simp,c,rfl,hc,hz⟩
 |cons t l ih=>
  intro way way' c2 d2 c h hzw hc hz
  simp only[run]at h
  split at h
  ·rename_i s1 h1
   rcases B5 h1 with⟨v,r,rfl,hw,rfl⟩|⟨u,v,r,rfl,hw,rfl⟩|⟨u,v,r,rfl,hw,hh,hn,rfl⟩
   ·simp only at hw
    subst hw
    obtain⟨e0,d,e1,e2,e3⟩:=ih h hzw hc hz
    refine⟨?_,d,by simp only[run,DP];exact e1,e2,e3⟩
    rintro hm
    rcases AfA.1 hm with hm|hm
    ·cases hm;exact hzw (by simp)
    ·exact e0 hm
   ·simp only at hw
    subst hw
    obtain⟨e0,d,e1,e2,e3⟩:=ih h (fun hm=>hzw (AfU _ hm)) hc hz
    refine⟨?_,d,by simp only[run,Ga];exact e1,e2,e3⟩
    rintro hm
    rcases AfA.1 hm with hm|hm
    ·cases hm
    ·exact e0 hm
   ·simp only at hw hn
    subst hw
    have hvz:v≠z:=by rintro rfl;exact hn ((hc v).2 (.inr rfl))
    have hn':v∉c:=fun hm=>hn ((hc v).2 (.inl hm))
    obtain⟨e0,d,e1,e2,e3⟩:=ih (c:=v::c) h (by intro hm;rcases AfA.1 hm with hm|hm;exact hvz hm.symm;exact hzw hm)
     (by intro x;simp only[AfA,hc,or_assoc])
     (by intro hm;rcases AfA.1 hm with hm|hm;exact hvz hm.symm;exact hz hm)
    refine⟨?_,d,by simp only[run,Fh _ _ _ _ hh hn'];exact e1,e2,e3⟩
    rintro hm
    rcases AfA.1 hm with hm|hm
    ·cases hm
    ·exact e0 hm
  ·cases h
def Rot(a b:List Tok):Prop:=∃ x y,a=x++y∧b=y++x
theorem Rot.refl(a:List Tok):Rot a a:=⟨[],a,rfl,by simp⟩
theorem Rot.symm{a b:List Tok}(h:Rot a b):Rot b a:=by obtain⟨x,y,h1,h2⟩:=h;exact⟨y,x,h2,h1⟩
theorem Rot.trans{a b c:List Tok}(h:Rot a b)(g:Rot b c):Rot a c:=by
 obtain⟨x,y,rfl,h2⟩:=h
 obtain⟨z,w,h3,rfl⟩:=g
 rw[h2]at h3
 rcases List.append_eq_append_iff.1 h3 with⟨k,h4,h5⟩|⟨k,h4,h5⟩
 ·subst h4 h5
  exact⟨k,w++y,by simp,by simp⟩
 ·subst h4 h5
  exact⟨x++z,k,by simp,by simp⟩
theorem Rot.perm{a b:List Tok}(h:Rot a b):a.Perm b:=by
 obtain⟨x,y,rfl,rfl⟩:=h
 exact Agf
theorem Rot.mem{a b:List Tok}(h:Rot a b)(t:Tok):t∈a↔t∈b:=h.perm.mem_iff
theorem Rot.nodup{a b:List Tok}(h:Rot a b):a.Nodup↔b.Nodup:=h.perm.nodup_iff
theorem Rot.length{a b:List Tok}(h:Rot a b):a.length=b.length:=h.perm.length_eq
inductive T:List Tok→Prop
 |one (v:Int):T [.ver v]
 |add (x:Tok) (l:List Tok) (v:Int):T (x::l)→x.st≠v→.ver v∉x::l→T (x :: .arc x.st v :: .ver v :: .arc v x.st::l)
 |rot (a b:List Tok):T (a++b)→T (b++a)
theorem T.AQY{a b:List Tok}(h:T a)(r:Rot a b):T b:=by obtain⟨x,y,rfl,rfl⟩:=r;exact T.rot x y h
theorem T.facts{l:List Tok}(h:T l):l≠[]∧(∀ t∈l,.ver t.st∈l)∧(∀ u v,.arc u v∈l→.ver u∈l∧.ver v∈l∧.arc v u∈l∧u≠v):=by
 induction h with
 |one v=>exact⟨by simp,by simp[st],by simp⟩
 |add x l v h hne hv ih=>
  obtain⟨_,i2,i3⟩:=ih
  have hsub:∀ t,t∈x::l→t∈x::Tok.arc x.st v :: .ver v :: .arc v x.st::l:=by
   intro t ht
   rcases AfA.1 ht with rfl|ht
   ·simp
   ·simp[ht]
  have hx:=hsub _ (i2 x (by simp))
  have cases3:∀ t,t∈x::Tok.arc x.st v :: .ver v :: .arc v x.st::l→t∈x::l∨t = .arc x.st v∨t = .ver v∨t = .arc v x.st:=by
   intro t ht
   simp only[AfA]at ht ⊢
   rcases ht with h|h|h|h|h<;>simp[h]
  refine⟨by simp,fun t ht => ?_,fun a b hab => ?_⟩
  ·rcases cases3 t ht with h|rfl|rfl|rfl
   ·exact hsub _ (i2 t h)
   ·simp[st]
   ·simp[st]
   ·exact hx
  ·rcases cases3 _ hab with h|h|h|h
   ·obtain⟨p1,p2,p3,p4⟩:=i3 a b h
    exact⟨hsub _ p1,hsub _ p2,hsub _ p3,p4⟩
   ·cases h;exact⟨hx,by simp,by simp,hne⟩
   ·cases h
   ·cases h;exact⟨by simp,hx,by simp,Afz hne⟩
 |rot a b h ih=>
  obtain⟨i1,i2,i3⟩:=ih
  have hm:∀ t,t∈a++b↔t∈b++a:=fun t=>List.perm_append_comm.mem_iff
  refine⟨by intro e;simp only[List.append_eq_nil_iff]at e;exact i1 (by simp[e.1,e.2]),fun t ht=>(hm _).1 (i2 t ((hm _).2 ht)),fun u v huv => ?_⟩
  obtain⟨p1,p2,p3,p4⟩:=i3 u v ((hm _).2 huv)
  exact⟨(hm _).1 p1,(hm _).1 p2,(hm _).1 p3,p4⟩
theorem T.nodup{l:List Tok}(h:T l):l.Nodup:=by
 induction h with
 |one v=>simp
 |add x l v h hne hv ih=>
  obtain⟨_,_,f3⟩:=h.facts
  have h1:Tok.arc x.st v∉x::l:=fun hm=>hv (f3 _ _ hm).2.1
  have h2:Tok.arc v x.st∉x::l:=fun hm=>hv (f3 _ _ hm).1
  simp only[AfA,not_or]at h1 h2 hv
  have ih':=Aff.1 ih
  simp only[Aff,AfA,not_or]
  refine⟨⟨fun e=>h1.1 e.symm,fun e=>hv.1 e.symm,fun e=>h2.1 e.symm,ih'.1⟩,⟨by simp,?_,h1.2⟩,⟨by simp,hv.2⟩,h2.2,ih'.2⟩
  intro e
  simp only[Tok.arc.injEq]at e
  exact hne e.1
 |rot a b h ih=>exact(List.perm_append_comm.nodup_iff).1 ih
def C(l:List Tok):Prop:=∀ r,Rot l r→∀ t,r.getLast? = some t→∃ c,run ([t.st],[t.st]) r=some ([t.st],c)∧∀ x,x∈c↔.ver x∈l
end Tok
end Go.Pev.Pl
end
section
namespace Go.Pev.Pl.Tok
theorem getLast?_app{a b:List Tok}{t:Tok}(h:b.getLast? = some t):(a++b).getLast? = some t:=by
 rw[AhN,h];rfl
theorem A1(s:List Int×List Int)(t:Tok)(l:List Tok):run s (t::l)=(step s t).bind fun s=>run s l:=by
 rw[run]
 cases step s t<;>rfl
theorem Ns(v:Int):Inv ([v],[v]):=⟨by simp,by simp⟩
theorem T.toC{l:List Tok}(h:T l):C l:=by
 induction h with
 |one v=>
  intro r hr t ht
  have:r=[.ver v]:=List.perm_singleton.1 hr.perm.symm
  subst this
  simp at ht
  subst ht
  exact⟨[v],by simp[run,st,step],by simp⟩
 |rot a b h ih=>
  intro r hr t ht
  obtain⟨c,h1,h2⟩:=ih r (Rot.trans ⟨a,b,rfl,rfl⟩ hr) t ht
  exact⟨c,h1,fun x=>(h2 x).trans (List.perm_append_comm.mem_iff)⟩
 |add x l v h hne hv ih=>
  obtain⟨_,f2,f3⟩:=h.facts
  have hnz:∀ u w,Tok.arc u w∈x::l→¬ (w=v):=fun u w hm e=>hv (e▸(f3 u w hm).2.1)
  have fin:∀ {d2 c:List Int},(∀ y,y∈d2↔y∈c∨y=v)→(∀ y,y∈c↔.ver y∈x::l)→∀ y,y∈d2↔Tok.ver y∈x :: .arc x.st v :: .ver v :: .arc v x.st::l:=by
   intro d2 c e1 e2 y
   rw[e1,e2]
   simp only[AfA,reduceCtorEq,false_or,Tok.ver.injEq]
   constructor
   ·rintro ((h|h)|h)<;>simp[h]
   ·rintro (h|h|h)<;>simp[h]
  have triple:∀ {w' c1:List Int},Inv (x.st::w',c1)→v∉c1→∀ p,run (x.st::w',c1) (.arc x.st v :: .ver v :: .arc v x.st::p)=run (x.st::w',v::c1) p:=by
   intro w' c1 hi hn p
   have hh:w'.head?≠some v:=by
    intro e
    exact hn (hi.2 v (AfU _ (List.mem_of_head? e)))
   rw[A1,Fh _ _ _ _ hh hn,Afq,A1,DP,Afq,A1,Ga,Afq]
  have G:∀ q1 p1,l=p1++q1→∀ t,(q1++x :: .arc x.st v :: .ver v :: .arc v x.st::p1).getLast? = some t→∃ c,run ([t.st],[t.st]) (q1++x :: .arc x.st v :: .ver v :: .arc v x.st::p1)=some ([t.st],c)∧∀ y,y∈c↔.ver y∈x :: .arc x.st v :: .ver v :: .arc v x.st::l:=by
   intro q1 p1 hl t ht
   have hrot:Rot (x::l) (q1++x::p1):=⟨x::p1,q1,by simp[hl],rfl⟩
   have ht0:∃ t0,(q1++x::p1).getLast? = some t0∧t0.st=t.st:=by
    cases p1 with
    |nil=>
     refine⟨x,getLast?_app (by simp),?_⟩
     rw[show q1++[x,Tok.arc x.st v,.ver v,.arc v x.st]=(q1++[x,Tok.arc x.st v,.ver v])++[Tok.arc v x.st] by simp,Agx]at ht
     cases ht;rfl
    |cons y p1=>
     refine⟨t,?_,rfl⟩
     rw[show q1++x::Tok.arc x.st v :: .ver v :: .arc v x.st::y::p1=(q1++[x,Tok.arc x.st v,.ver v,.arc v x.st])++y::p1 by simp,AhN]at ht
     rw[show q1++x::y::p1=(q1++[x])++y::p1 by simp,AhN]
     exact ht
   obtain⟨t0,e0,e1⟩:=ht0
   obtain⟨c,h1,h2⟩:=ih _ hrot t0 e0
   rw[e1,show q1++x::p1=(q1++[x])++p1 by simp,DV,Afp]at h1
   obtain⟨⟨w1,c1⟩,g1,g2⟩:=h1
   obtain⟨i1,i2,i3⟩:=Ij g1 (Ns _)
   obtain⟨j1,j2,j3⟩:=Ij g2 i1
   have i3':=i3 x (by simp)
   simp only at i3'
   cases w1 with
   |nil=>simp at i3'
   |cons w0 w'=>
    simp at i3'
    subst i3'
    have hn:v∉c1:=fun hm=>hv ((h2 v).1 (j2 v hm))
    obtain⟨d2,k1,k2⟩:=HT (Z:=(· = v)) (c2:=v::c1) (low:=[]) g2 (by simp) (fun y=>by simp[or_comm]) (fun u w hm=>hnz u w (by simp[hl,hm])) (by simp)
    refine⟨d2,?_,fin k2 h2⟩
    rw[show q1++x::Tok.arc x.st v :: .ver v :: .arc v x.st::p1=(q1++[x])++Tok.arc x.st v :: .ver v :: .arc v x.st::p1 by simp,DV,g1,Afq,triple i1 hn]
    simpa using k1
  intro r hr t ht
  obtain⟨p,q,hpq,rfl⟩:=hr
  have base:∀ t0:Tok,(l++[x]).getLast? = some t0→t0=x:=fun t0 h=>by rw[Agx]at h;exact(Agc h).symm
  obtain⟨c,h1,h2⟩:=ih (l++[x]) ⟨[x],l,rfl,rfl⟩ x (by simp)
  match p with
  |[]=>
   simp only[Afj]at hpq
   subst hpq
   have:=G [] l (by simp) t (by simpa using ht)
   simpa using this
  |[y]=>
   simp only[Afa,Afj,AfW]at hpq
   obtain⟨rfl,rfl⟩:=hpq
   have:t=x:=by
    rw[Agx]at ht
    exact(Agc ht).symm
   subst this
   have hn:v∉[t.st]:=by simp;exact Afz hne
   obtain⟨d2,k1,k2⟩:=HT (Z:=(· = v)) (c2:=[v,t.st]) (low:=[]) h1 (by simp) (fun y=>by simp[or_comm]) (fun u w hm=>hnz u w (by simpa [or_comm]using hm)) (by simp)
   refine⟨d2,?_,fin k2 h2⟩
   rw[show(Tok.arc t.st v :: .ver v :: .arc v t.st::l)++[t]=Tok.arc t.st v :: .ver v :: .arc v t.st::(l++[t]) by simp,triple (Ns _) hn]
   simpa using k1
  |[y,z]=>
   simp only[Afa,Afj,AfW]at hpq
   obtain⟨rfl,rfl,rfl⟩:=hpq
   have:t = .arc x.st v:=by
    rw[show(Tok.ver v :: .arc v x.st::l)++[x,.arc x.st v]=(Tok.ver v :: .arc v x.st::l++[x])++[.arc x.st v] by simp,Agx]at ht
    exact(Agc ht).symm
   subst this
   obtain⟨d2,k1,k2⟩:=HT (Z:=(· = v)) (c2:=[x.st,v]) (low:=[v]) h1 (by simp) (fun y=>by simp) (fun u w hm=>hnz u w (by simpa [or_comm]using hm)) (by simp)
   refine⟨d2,?_,fin k2 h2⟩
   rw[show(Tok.ver v :: .arc v x.st::l)++[x,.arc x.st v]=Tok.ver v :: .arc v x.st::((l++[x])++[.arc x.st v]) by simp]
   rw[A1]
   show(step ([v],[v]) _).bind _=_
   rw[DP,Afq,A1,Fh _ _ _ _ (by simp) (by simp;exact hne),Afq,DV]
   rw[show([x.st]++[v]:List Int)=[x.st,v]from rfl]at k1
   rw[k1,Afq,A1,Ga]
   rfl
  |[y,z,w]=>
   simp only[Afa,Afj,AfW]at hpq
   obtain⟨rfl,rfl,rfl,rfl⟩:=hpq
   have:t = .ver v:=by
    rw[show(Tok.arc v x.st::l)++[x,.arc x.st v,.ver v]=(Tok.arc v x.st::l++[x,.arc x.st v])++[.ver v] by simp,Agx]at ht
    exact(Agc ht).symm
   subst this
   obtain⟨d2,k1,k2⟩:=HT (Z:=(· = v)) (c2:=[x.st,v]) (low:=[v]) h1 (by simp) (fun y=>by simp) (fun u w hm=>hnz u w (by simpa [or_comm]using hm)) (by simp)
   refine⟨d2,?_,fin k2 h2⟩
   rw[show(Tok.arc v x.st::l)++[x,.arc x.st v,.ver v]=Tok.arc v x.st::((l++[x])++[.arc x.st v,.ver v]) by simp]
   rw[A1]
   show(step ([v],[v]) _).bind _=_
   rw[Fh _ _ _ _ (by simp) (by simp;exact hne),Afq,DV]
   rw[show([x.st]++[v]:List Int)=[x.st,v]from rfl]at k1
   rw[k1,Afq,A1,Ga,Afq,A1,DP]
   rfl
  |y::z::w::w2::p1=>
   simp only[Afa,AfW]at hpq
   obtain⟨rfl,rfl,rfl,rfl,rfl⟩:=hpq
   exact G q p1 rfl t ht
def comp(P:List Tok):List Int→List Tok
 |[]=>[]
 |w::r=>(if .ver w∈P then []else [.ver w])++match r with
  |[]=>[]
  |p::_=>.arc w p::comp P r
theorem PT{P P':List Tok}:∀ {way:List Int},(∀ w∈way,(Tok.ver w∈P↔Tok.ver w∈P'))→comp P way=comp P' way:=by
 intro way
 induction way with
 |nil=>intro _;rfl
 |cons w r ih=>
  intro h
  have h1:=h w (by simp)
  have h2:=ih fun x hx=>h x (AfU _ hx)
  simp only[comp,h1,h2]
theorem Aar:∀ (M P:List Tok) (way c c':List Int) (r:Int) (t0:Tok),run (way,c) M=some ([r],c')→Inv (way,c)→P.getLast? = some t0→way.head? = some t0.st →
  T (P++comp P way)→(∀ x,.ver x∈P++comp P way→x∈c)→(∀ x∈c',Tok.ver x∈P++M)→(P++M).Nodup→T (P++M):=by
 intro M
 induction M with
 |nil=>
  intro P way c c' r t0 h hi hl hh hT hc hc' hn
  cases h
  have:=hc' r (hi.2 r (by simp))
  rw[AgL]at this
  simpa [comp,this]using hT
 |cons t M ih=>
  intro P way c c' r t0 h hi hl hh hT hc hc' hn
  rw[A1,Afp]at h
  obtain⟨⟨w1,c1⟩,h1,h2⟩:=h
  obtain⟨hi1,hsub,hhd⟩:=YH h1 hi
  have asso:P++t::M=(P++[t])++M:=by simp
  rw[asso]at hn hc' ⊢
  have hnt:t∉P:=by
   have:=(AhD.1 (AhD.1 hn).1)
   intro hm
   exact this.2.2 t hm t (by simp) rfl
  rcases B5 h1 with⟨v,rr,rfl,hw,e⟩|⟨u,v,rr,rfl,hw,e⟩|⟨u,v,rr,rfl,hw,hh2,hn2,e⟩
  ·cases e
   simp only at hw
   subst hw
   have key:comp P (v::rr) = .ver v::comp (P++[.ver v]) (v::rr):=by
    have e2:comp P rr=comp (P++[.ver v]) rr:=PT fun w hwm=>by
     have:w≠v:=by rintro rfl;exact(Aff.1 hi.1).1 hwm
     simp[this]
    simp only[comp,hnt,e2]
    simp
   rw[key]at hT hc
   exact ih _ _ _ _ _ (.ver v) h2 hi1 (by simp) hhd (by simpa using hT) (fun x hx=>hc x (by simpa using hx)) hc' hn
  ·cases e
   simp only at hw
   subst hw
   have hu:Tok.ver u∈P:=by
    have hun:=(Aff.1 hi.1).1
    obtain⟨g1,_⟩:=Yg (z:=u) (c:=c.filter (·≠u)) h2 hun (fun x=>by
     simp only[Afe,Ae6]
     constructor
     ·intro h
      by_cases e:x=u
      ·exact .inr e
      ·exact .inl ⟨h,by simpa using e⟩
     ·rintro (h|rfl)
      ·exact h.1
      ·exact hi.2 x (by simp)) (by simp)
    have hmono:=(Ij h2 hi1).2.1 u (hi.2 u (by simp))
    have:=hc' u hmono
    simp only[Ae7,AfV,reduceCtorEq,Ahg]at this
    rcases this with h|h
    ·exact h
    ·exact absurd h g1
   have key:comp P (u::v::rr) = .arc u v::comp (P++[.arc u v]) (v::rr):=by
    have e2:comp P (v::rr)=comp (P++[.arc u v]) (v::rr):=PT fun w hwm=>by simp
    rw[← e2]
    simp only[comp,hu]
    simp
   rw[key]at hT hc
   exact ih _ _ _ _ _ (.arc u v) h2 hi1 (by simp) hhd (by simpa using hT) (fun x hx=>hc x (by simpa using hx)) hc' hn
  ·cases e
   simp only at hw hn2
   subst hw
   have hu:u=t0.st:=by simpa using hh
   subst hu
   have hvc:∀ x,Tok.ver x∈P++comp P (t0.st::rr)→x≠v:=by rintro x hx rfl;exact hn2 (hc x hx)
   have hvP:Tok.ver v∉P++comp P (t0.st::rr):=fun hm=>hvc v hm rfl
   have hvP':Tok.ver v∉P:=fun hm=>hvP (by simp[hm])
   have key:comp (P++[.arc t0.st v]) (v::t0.st::rr) = .ver v :: .arc v t0.st::comp P (t0.st::rr):=by
    have e2:comp (P++[.arc t0.st v]) (t0.st::rr)=comp P (t0.st::rr):=PT fun w hwm=>by simp
    rw[← e2]
    simp only[comp,Ae7,hvP',AfV,reduceCtorEq,Ahg,AfK]
    rfl
   have hne:t0.st≠v:=by rintro e;exact hn2 (e▸hi.2 t0.st (by simp))
   refine ih _ _ _ _ _ (.arc t0.st v) h2 hi1 (by simp) hhd ?_ ?_ hc' hn
   ·rw[key]
    obtain⟨P0,rfl⟩:∃ P0,P=P0++[t0]:=List.getLast?_eq_some_iff.1 hl
    have hT1:T (t0::(comp (P0++[t0]) (t0.st::rr)++P0)):=hT.AQY ⟨P0,t0::comp (P0++[t0]) (t0.st::rr),by simp,by simp⟩
    have hT2:=T.add t0 _ v hT1 hne (by
     intro hm
     apply hvP
     simp only[Ae7,AfA,Ag5,Ahg]at hm ⊢
     rcases hm with h|h|h<;>simp[h])
    exact hT2.AQY ⟨t0 :: .arc t0.st v :: .ver v :: .arc v t0.st::comp (P0++[t0]) (t0.st::rr),P0,by simp,by simp⟩
   ·intro x hx
    rw[key]at hx
    simp only[Ae7,AfA,Ag5,Ahg,reduceCtorEq,Tok.ver.injEq,false_or]at hx
    rcases hx with h|h|h
    ·exact AfU _ (hc x (by simp[h]))
    ·simp[h]
    ·exact AfU _ (hc x (by simp[h]))
def Az(l:List Tok):Prop:=∃ r l' c,l = .ver r::l'∧run ([r],[r]) l=some ([r],c)∧∀ x∈c,Tok.ver x∈l
theorem Az.toT{l:List Tok}(h:Az l)(hn:l.Nodup):T l:=by
 obtain⟨r,l',c,rfl,h1,h2⟩:=h
 rw[A1,DP,Afq]at h1
 have:=Aar l' [.ver r] [r] [r] c r (.ver r) h1 (Ns r) (by simp) (by simp[st]) (by simp[comp];exact T.one r) (by simp[comp]) (by simpa using h2) (by simpa using hn)
 simpa using this
theorem T.AFb{r:Int}{l:List Tok}(h:T (.ver r::l)):Az (.ver r::l):=by
 obtain⟨t,ht⟩:∃ t,(Tok.ver r::l).getLast? = some t:=⟨_,AhZ (by simp)⟩
 obtain⟨c,h1,h2⟩:=h.toC _ (Rot.refl _) t ht
 have h1':=h1
 rw[A1,Afp]at h1'
 obtain⟨s,g1,_⟩:=h1'
 have e:t.st=r:=by
  simp only[step]at g1
  split at g1
  ·assumption
  ·cases g1
 rw[e]at h1
 exact⟨r,l,c,rfl,h1,fun x hx=>(h2 x).1 hx⟩
end Go.Pev.Pl.Tok
end
section
namespace Go.Pev.Pl.Tok
theorem T.ANX{l:List Tok}(h:T l):∃ v r,Rot l (.ver v::r):=by
 obtain⟨f1,f2,_⟩:=h.facts
 obtain⟨t,ht⟩:=List.exists_mem_of_ne_nil l f1
 obtain⟨a,b,rfl⟩:=Ahr (f2 t ht)
 exact⟨t.st,b++a,a,.ver t.st::b,rfl,rfl⟩
theorem T.less{x:Tok}{v:Int}{l:List Tok}(h:T (x :: .arc x.st v :: .ver v :: .arc v x.st::l)):T (x::l):=by
 have hC:=h.toC
 have hn:=h.nodup
 obtain⟨_,f2,f3⟩:=h.facts
 have hne:x.st≠v:=(f3 x.st v (by simp)).2.2.2
 have hvl:Tok.ver v∉l:=by
  intro hm
  simp only[Aff,AfA,not_or]at hn
  exact hn.2.2.1.2 hm
 have hvx:x≠.ver v:=by rintro rfl;exact hne rfl
 have key:∀ p q,l=p++q→∀ t0,(q++x::p).getLast? = some t0→∃ c,run ([t0.st],[t0.st]) (q++x::p)=some ([t0.st],c)∧∀ y,y∈c↔.ver y∈x::l:=by
  intro p q hl t0 ht0
  have hrot:Rot (x :: .arc x.st v :: .ver v :: .arc v x.st::l) (q++x :: .arc x.st v :: .ver v :: .arc v x.st::p):=⟨x :: .arc x.st v :: .ver v :: .arc v x.st::p,q,by simp[hl],rfl⟩
  have ht:∃ t,(q++x::Tok.arc x.st v :: .ver v :: .arc v x.st::p).getLast? = some t∧t.st=t0.st:=by
   cases p with
   |nil=>
    rw[Agx]at ht0
    cases ht0
    exact⟨.arc v x.st,by rw[show q++[x,Tok.arc x.st v,.ver v,.arc v x.st]=(q++[x,Tok.arc x.st v,.ver v])++[Tok.arc v x.st] by simp,Agx],rfl⟩
   |cons y p=>
    refine⟨t0,?_,rfl⟩
    rw[show q++x::Tok.arc x.st v :: .ver v :: .arc v x.st::y::p=(q++[x,Tok.arc x.st v,.ver v,.arc v x.st])++y::p by simp,AhN]
    rw[show q++x::y::p=(q++[x])++y::p by simp,AhN]at ht0
    exact ht0
  obtain⟨t,e0,e1⟩:=ht
  obtain⟨c,h1,h2⟩:=hC _ hrot t e0
  rw[e1,show q++x::Tok.arc x.st v :: .ver v :: .arc v x.st::p=(q++[x])++Tok.arc x.st v :: .ver v :: .arc v x.st::p by simp,DV,Afp]at h1
  obtain⟨⟨w1,c1⟩,g1,g2⟩:=h1
  obtain⟨i1,i2,i3⟩:=Ij g1 (Ns _)
  have i3':=i3 x (by simp)
  simp only at i3'
  cases w1 with
  |nil=>simp at i3'
  |cons w0 w'=>
   simp at i3'
   subst i3'
   rw[A1,Afp]at g2
   obtain⟨s1,k1,k2⟩:=g2
   rcases B5 k1 with⟨v',r,e,_⟩|⟨u',v',r,e,hw,rfl⟩|⟨u',v',r,e,hw,hh,hnc,rfl⟩
   ·cases e
   ·cases e
    simp only[AfW]at hw
    obtain⟨_,rfl⟩:=hw
    exfalso
    rw[A1,DP,Afq,A1,Afp]at k2
    obtain⟨s2,m1,_⟩:=k2
    have hnd:=i1.1
    rcases B5 m1 with⟨v',r',e,_⟩|⟨u',v',r',e,hw,rfl⟩|⟨u',v',r',e,hw,hh,hnc,rfl⟩
    ·cases e
    ·cases e
     simp only[AfW]at hw
     obtain⟨_,rfl⟩:=hw
     simp at hnd
    ·cases e
     exact hnc (i1.2 _ (by simp))
   ·cases e
    simp only[AfW,Agp]at hw
    subst hw
    simp only at hnc
    rw[A1,DP,Afq,A1,Ga,Afq]at k2
    have hvw:v∉x.st::w':=fun hm=>hnc (i1.2 v hm)
    obtain⟨_,d,m1,m2,m3⟩:=Yg (z:=v) (c:=c1) k2 hvw (fun y=>by simp[or_comm]) hnc
    refine⟨d,?_,fun y => ?_⟩
    ·rw[show q++x::p=(q++[x])++p by simp,DV,g1,Afq,m1]
    ·have q1:=m2 y
     have q2:=h2 y
     by_cases e:y=v
     ·subst e
      refine⟨fun h=>absurd h m3,fun h => ?_⟩
      rcases AfA.1 h with h|h
      ·exact absurd h.symm hvx
      ·exact absurd h hvl
     ·rw[q2]at q1
      simp only[e,Ahg]at q1
      rw[← q1]
      simp[e]
 obtain⟨s,b,a,hsb⟩:∃ s a b,x::l=a ++ .ver s::b:=by
  have:=f2 x (by simp)
  simp only[AfA,reduceCtorEq,false_or,Tok.ver.injEq,hne]at this
  rcases this with h|h
  ·exact⟨x.st,[],l,by rw[← h];rfl⟩
  ·obtain⟨a,b,rfl⟩:=Ahr h
   exact⟨x.st,x::a,b,rfl⟩
 have hg:Az (.ver s::a++b):=by
  have hr:∃ p q,l=p++q∧q++x::p = .ver s::a++b:=by
   cases b with
   |nil=>
    simp only[Afj,AfW]at hsb
    obtain⟨rfl,rfl⟩:=hsb
    exact⟨l,[],by simp,by simp⟩
   |cons y b=>
    simp only[Afa,AfW]at hsb
    obtain⟨rfl,rfl⟩:=hsb
    exact⟨b,.ver s::a,rfl,by simp⟩
  obtain⟨p,q,hl,e⟩:=hr
  obtain⟨t0,ht0⟩:∃ t0,(q++x::p).getLast? = some t0:=⟨_,AhZ (by simp)⟩
  obtain⟨c,h1,h2⟩:=key p q hl t0 ht0
  rw[e]at h1
  have h1':=h1
  rw[Afa,A1,Afp]at h1'
  obtain⟨s',g1,_⟩:=h1'
  have e':t0.st=s:=by
   simp only[step]at g1
   split at g1
   ·assumption
   ·cases g1
  rw[e']at h1
  refine⟨s,a++b,c,rfl,h1,fun y hy => ?_⟩
  have:=(h2 y).1 hy
  rw[hsb]at this
  simp only[Ae7,AfA]at this ⊢
  rcases this with h|h|h<;>simp[h]
 have hrot2:Rot (.ver s::a++b) (x::l):=⟨.ver s::a,b,rfl,hsb⟩
 have hnx:(x::l).Nodup:=by
  simp only[Aff,AfA,not_or]at hn ⊢
  exact⟨hn.1.2.2.2,hn.2.2.2.2⟩
 exact(hg.toT (hrot2.nodup.2 hnx)).AQY hrot2
theorem T.leaf{l:List Tok}(h:T l):(∃ v,l=[.ver v])∨∃ x v r,Rot l (x :: .arc x.st v :: .ver v :: .arc v x.st::r):=by
 induction h with
 |one v=>exact .inl ⟨v,rfl⟩
 |add x l v h hne hv ih=>exact .inr ⟨x,v,l,Rot.refl _⟩
 |rot a b h ih=>
  rcases ih with⟨v,e⟩|⟨x,v,r,hr⟩
  ·have hr:Rot [.ver v] (b++a):=⟨a,b,e.symm,rfl⟩
   exact .inl ⟨v,List.perm_singleton.1 hr.perm.symm⟩
  ·exact .inr ⟨x,v,r,Rot.trans ⟨b,a,rfl,rfl⟩ hr⟩
def Lb:List Tok→List Int
 |[]=>[]
 |.ver v::l=>v::Lb l
 |.arc _ _::l=>Lb l
theorem QT{v:Int}:∀ {l:List Tok},v∈Lb l↔.ver v∈l
 |[]=>by simp[Lb]
 |.ver w::l=>by simp[Lb,QT (l:=l)]
 |.arc _ _::l=>by simp[Lb,QT (l:=l)]
theorem AJW(a b:List Tok):Lb (a++b)=Lb a++Lb b:=by
 induction a with
 |nil=>rfl
 |cons t a ih=>cases t<;>simp[Lb,ih]
theorem T.len{l:List Tok}(h:T l):l.length+2=3*(Lb l).length:=by
 induction h with
 |one v=>rfl
 |add x l v h hne hv ih=>
  cases x<;>simp[Lb]at ih ⊢<;>omega
 |rot a b h ih=>
  simp only[AJW,AfC]at ih ⊢
  omega
end Go.Pev.Pl.Tok
end
section
namespace Go.Pev.Pl
section
variable {β:Type}
def BA(es:List (Int×β)):List Int:=es.map Prod.fst
theorem TG(es:List (Int×β)):(BA es).length=es.length:=by simp[BA]
theorem HC(es:List (Int×β))(k:Int)(v:β)(j:Int):AS (Ag es k v) j=if j=k then some v else AS es j:=by
 induction es with
 |nil=>
  simp only[Ag,AS]
  by_cases h:k=j
  ·simp[h]
  ·simp[h,Afz h]
 |cons e es ih=>
  obtain⟨a,b⟩:=e
  simp only[Ag]
  by_cases h:a=k
  ·subst h
   simp only[AfY,AS]
   by_cases h2:a=j
   ·simp[h2]
   ·simp[h2,Afz h2]
  ·simp only[h,AfK,AS,ih]
   by_cases h2:a=j
   ·subst h2;simp[h]
   ·simp[h2]
theorem O1(es:List (Int×β))(k:Int)(v:β):BA (Ag es k v)=if k∈BA es then BA es else BA es++[k]:=by
 induction es with
 |nil=>rfl
 |cons e es ih=>
  obtain⟨a,b⟩:=e
  simp only[Ag]
  by_cases h:a=k
  ·subst h;simp[BA]
  ·simp only[h,AfK]
   show a::BA (Ag es k v)=_
   rw[ih]
   have:k∈BA ((a,b)::es)↔k∈BA es:=by simp[BA,Afz h]
   simp only[this]
   split<;>rfl
theorem Vs(es:List (Int×β))(k:Int):AS es k=none↔k∉BA es:=by
 induction es with
 |nil=>simp[AS,BA]
 |cons e es ih=>
  obtain⟨a,b⟩:=e
  simp only[AS]
  by_cases h:a=k
  ·simp[h,BA]
  ·simp only[h,AfK,ih]
   simp[BA,Afz h]
theorem FF(es:List (Int×β))(k:Int)(v:β)(j:Int):j∈BA (Ag es k v)↔j=k∨j∈BA es:=by
 rw[O1]
 split
 ·rename_i h
  constructor
  ·exact .inr
  ·rintro (rfl|h2)
   ·exact h
   ·exact h2
 ·simp[or_comm]
theorem Jd{es:List (Int×β)}(h:(BA es).Nodup)(k:Int)(v:β):(BA (Ag es k v)).Nodup:=by
 rw[O1]
 split
 ·exact h
 ·rename_i hk
  rw[AhD]
  exact⟨h,by simp,fun a ha b hb=>by rintro rfl;simp at hb;exact hk (hb▸ha)⟩
end
def dd:List Int→List Int→List Int
 |ks,[]=>ks
 |ks,x::xs=>dd (if x∈ks then ks else ks++[x]) xs
theorem AeZ:∀ (xs ks:List Int),(dd ks xs).length≤ks.length+xs.length∧((dd ks xs).length=ks.length+xs.length↔xs.Nodup∧∀ x∈xs,x∉ks):=by
 intro xs
 induction xs with
 |nil=>intro ks;simp[dd]
 |cons x xs ih=>
  intro ks
  rw[dd]
  by_cases h:x∈ks
  ·obtain⟨h1,_⟩:=ih ks
   rw[AfJ h]
   refine⟨by simp only[AfD];omega,?_,fun hh=>absurd h (hh.2 x (by simp))⟩
   intro e
   simp only[AfD]at e
   omega
  ·obtain⟨h1,h2⟩:=ih (ks++[x])
   rw[AfE h]
   simp only[AfC,AfD,AfO,AgF]at h1 h2 ⊢
   refine⟨by omega,?_⟩
   rw[show ks.length+(xs.length+1)=ks.length+1+xs.length by omega,h2,Aff]
   constructor
   ·rintro⟨g1,g2⟩
    refine⟨⟨fun hx=>g2 x hx (by simp),g1⟩,fun y hy => ?_⟩
    rcases AfA.1 hy with rfl|hy
    ·exact h
    ·exact fun hk=>g2 y hy (by simp[hk])
   ·rintro⟨⟨g1,g2⟩,g3⟩
    refine⟨g2,fun y hy hk => ?_⟩
    simp only[Ae7,AfV]at hk
    rcases hk with hk|rfl
    ·exact g3 y (by simp[hy]) hk
    ·exact g1 hy
theorem AbF(xs:List Int):(dd [] xs).length=xs.length↔xs.Nodup:=by
 have:=(AeZ xs []).2
 simpa using this
theorem BJ{α β ρ:Type}(g:β→α→α)(fin:α→ρ):∀ (xs:List β) (a:α),walk (fun x a=>.inl (g x a)) fin xs a=fin (xs.foldl (fun a x=>g x a) a):=by
 intro xs
 induction xs with
 |nil=>intro a;rfl
 |cons x xs ih=>intro a;rw[walk,Af0];exact ih _
theorem Fg{σ ρ β:Type}{step:σ→Option (σ⊕ρ)}(st:Nat→σ)(xs:List β)(P:β→Bool)(rt:Nat→ρ)(rf:ρ)(hs:xs.length<9223372036854775808)
  (h:∀ i x,i<xs.length→xs[i]? = some x→step (st i)=if P x then some (.inr (rt i))else some (.inl (st (i+1)))) (hN:step (st xs.length)=some (.inr rf)) :
  AR step many (st 0)=some (if xs.any P then rt (xs.findIdx P)else rf):=by
 have key:∀ (l:List β) (a:Nat),walk (fun x (a:Nat)=>if P x then .inr (rt a)else .inl (a+1)) (fun _=>rf) l a=if l.any P then rt (a+l.findIdx P)else rf:=by
  intro l
  induction l with
  |nil=>intro a;rfl
  |cons x l ih=>
   intro a
   rw[walk,List.any_cons,Aha]
   by_cases hx:P x=true
   ·simp[hx]
   ·simp only[hx,AfI,AfK,Bool.false_or,cond_false]
    rw[ih,show a+1+List.findIdx P l=a+(List.findIdx P l+1) by omega]
 have:=Cj (step:=step) (fun i (a:Nat)=>st a) xs (fun x (a:Nat)=>if P x then .inr (rt a)else .inl (a+1)) (fun _=>rf) (fun i a=>a=i) hs
  (fun i x a hi hx ha=>by
   subst ha
   refine⟨fun a' h' => ?_,fun r h' => ?_⟩
   ·rw[h a x hi hx]
    split at h'
    ·cases h'
    ·rename_i hp
     cases h'
     simp[hp]
   ·rw[h a x hi hx]
    split at h'
    ·rename_i hp
     cases h'
     simp[hp]
    ·cases h')
  (fun a ha=>by subst ha;exact hN) 0 rfl
 rw[this,key,AgF]
theorem Ac{α:Type}{xs:List α}{n:Nat}{x:α}(h:xs[n]? = some x):idx xs (n:Int)=some x:=by rw[AHr,h]
theorem CN{α:Type}{xs:List α}{n:Nat}{x z:α}(h:xs[n]? = some x):AL xs (AE (n:Int)) z=x:=by
 rw[Ee,Ae5,h];rfl
theorem KA{α:Type}{xs:List α}{h:Nat}(h2:h≤xs.length):B4 xs (0:Int) (h:Int)=some (xs.take h):=by
 have:=R4 (xs:=xs) (l:=0) (AhX h) h2
 simpa using this
theorem D9{α:Type}{xs:List α}{l:Nat}(h1:l≤xs.length):B4 xs (l:Int) (AM xs)=some (xs.drop l):=by
 have:=R4 (xs:=xs) h1 (AfH _)
 rw[AgH]at this
 exact this
def pos(xs:List Int)(t:Int):Int:=if t∈xs then((xs.findIdx (fun x=>decide (x=t)):Nat):Int)else -1
theorem AI3(xs:List Int)(t:Int):(xs.any fun x=>decide (x=t))=decide (t∈xs):=by
 induction xs with
 |nil=>rfl
 |cons x xs ih=>simp only[List.any_cons,ih,AfA,Bool.decide_or];congr 1;exact AgV.2 eq_comm
theorem AGR{xs:List Int}{t:Int}(h:t∈xs):∃ k:Nat,pos xs t=(k:Int)∧k<xs.length∧xs[k]? = some t∧xs=xs.take k++t::xs.drop (k+1)∧t∉xs.take k:=by
 have hk:xs.findIdx (fun x=>decide (x=t))<xs.length:=AgT.2 ⟨t,h,by simp⟩
 have hg:xs[xs.findIdx (fun x=>decide (x=t))]'hk=t:=by
  have:=Ahh (xs:=xs) (p:=fun x=>decide (x=t)) (w:=hk)
  simpa using this
 refine⟨_,by rw[pos,AfJ h],hk,by rw[Ae8 hk,hg],?_,?_⟩
 ·conv=>lhs;rw[← Afv (xs.findIdx (fun x=>decide (x=t))) xs,Afn hk,hg]
 ·intro hm
  obtain⟨j,hj,e⟩:=Agr.1 hm
  have:=List.not_of_lt_findIdx (p:=fun x=>decide (x=t)) (xs:=xs) (i:=j) (by omega)
  simp[e]at this
theorem P8{xs:List Int}{t:Int}(h:t∉xs):pos xs t = -1:=by rw[pos,AfE h]
end Go.Pev.Pl
end
