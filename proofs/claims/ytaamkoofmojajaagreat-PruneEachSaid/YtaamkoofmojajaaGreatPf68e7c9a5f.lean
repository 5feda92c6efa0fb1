/- A part of the proofs of this seat: G24M1 G24M2 G24M3 G24M4 G24M5 G24M6 G24M Pln PlnB T18a T18b T18c PlnM. -/
import Derived.Test.YtaamkoofmojajaaGreatPcea3bdb803
import Derived.IntWalk
import Derived.Sort.AssemblyPlain
set_option linter.unusedVariables false
set_option linter.unusedSimpArgs false
set_option linter.unusedSectionVars false
set_option maxRecDepth 100000
section
namespace Go.Pev
noncomputable section
attribute [local irreducible] MQ JH Nu K9 AWJ AWK AWL Pp WR WL YE JJ AP many IntKind.wrap AM An AL A5 Bm Dc Jo AE BV By imax AS Ag
abbrev U0:Ty:=(.int .i64)
abbrev U1:=(Int×Int×Int×Bool×Unit)
abbrev U2:Ty:=(.prod U0 (.prod U0 (.prod U0 (.prod .bool .unit))))
abbrev U3:=(Int×Int×Unit)
abbrev U4:=(List Int)
abbrev U5:Ty:=(.prod U0 (.prod U0 .unit))
abbrev U6:Ty:=(.slice U0)
abbrev U7:=(List Int×Int×Int×Int×Unit)
abbrev U8:=(List U4×Int×Int×Int×Unit)
abbrev U9:=(Int×Unit)
abbrev Ua:=(Bool×Bool×U3×Int×Unit)
abbrev Ub:=(List Int×Unit)
abbrev Uc:Ty:=(.prod U0 (.prod (.slice U2) .unit))
abbrev Ud:=(Int×(List U1)×Unit)
abbrev Ue:=(List Int×Int×Int×Unit)
abbrev Uf:=(List U4×Int×Int×Unit)
abbrev Ug:Ty:=(.prod .bool (.prod .bool (.prod U5 (.prod U0 .unit))))
abbrev Uh:=(Bool×Unit)
abbrev Ui:=(Int×Bool×Bool×Int×Int×Int×Int×Int×Int×Bool×Int×List U1×Bool×Bool×Int×Int×Int×Int×Int×List Int×Int×Bool×Unit)
abbrev Uj:=(List U4×Int×Int×Int×Int×Unit)
abbrev Uk:=(Int×(List U4)×Unit)
abbrev Ul:Ty:=(.slice U6)
abbrev Um:=(List Int×Int×Int×Int×Int×Unit)
abbrev Un:=(Int×Bool×Bool×Int×Int×Int×Int×Int×Int×Bool×Int×List U1×Bool×Bool×Int×Int×Int×Int×Int×Unit)
abbrev Uo:=(List U4×Unit)
abbrev Up:=(Int×List U1×Bool×Bool×Int×Int×Int×Int×Int×List (Int×Int)×List Int×Int×Int×Unit)
abbrev Uq:Ty:=(.slice U2)
abbrev Ur:=(List Int×Int×Unit)
abbrev Us:Ty:=(.prod U0 (.prod Ul .unit))
abbrev Ut:=(List Int×Int×Int×Int×Int×Int×Unit)
abbrev Uu:=(Int×Int)
abbrev Uv:=(List U4×Int×Int×Int×Int×Int×Unit)
abbrev Uw:=(Int×List U4×List Bool×Int×Int×Int×List Int×Int×List Int×Int×Bool×Int×List Int×Bool×Bool×List Int×List Int×List U4×List Int×List U4×Bool×Bool×List Int×Int×Int×Bool×Unit)
abbrev Ux:=(Int×List U4×List Uu×Int×List U4×Int×Int×List Int×Int×Int×Bool×List Int×Bool×Bool×List Int×Int×List Int×Int×Bool×Int×List Int×Bool×Bool×List Int×Int×Int×Unit)
abbrev Uy:=(Int×List Int×Int×List Int×Int×Bool×Bool×Bool×Bool×Int×Int×Bool×Int×Int×Int×Int×Int×Bool×Int×Int×Int×Int×Int×Int×Int×Int×Int×Bool×Unit)
abbrev Uz:=(List Int×Int×Int×Int×Bool×Bool×Unit)
abbrev V0:Ty:=(.slice U5)
abbrev V1:=(Int×List U4×Int×Unit)
abbrev V2:=(List U3×Unit)
abbrev V3:=(Int×List U1×List U3×Int×Unit)
abbrev V4:=(List U3×List (U3×Int)×Int×Int×Unit)
abbrev V5:=(Ud×Int×Int×Unit)
abbrev V6:=(List Int×Int×List U4×Int×Int×Unit)
abbrev V7:=(List Int×Int×List U4×Unit)
abbrev V8:=(Int×List U1×Bool×Bool×Int×Int×Int×Int×Unit)
abbrev V9:=(List U3×List (U3×Int)×Int×Unit)
abbrev Va:=(List Int×Int×List U4×Int×Unit)
abbrev Vb:=(Uk×Int×Unit)
abbrev Vc:=(List U4×Int×Unit)
abbrev Vd:=(Int×List U1×Int×Int×Unit)
abbrev Ve:=(Ud×List U3×Unit)
abbrev Vf:=(Int×List U1×Bool×Bool×Int×Int×Int×Int×List Uu×List Int×Int×Int×Unit)
abbrev Vg:=(List Int×Bool×Unit)
abbrev Vh:=(Int×List Int×Unit)
abbrev Vi:=(U8⊕U8⊕Unit)
abbrev Vj:=(U7⊕U7⊕Unit)
abbrev Vk:=(List Int×List U4×Int×List U4×Int×List U4×List U4×Int×Int×Unit)
abbrev Vl:=(List U3×Int×List U1×List Ua×Int×Int×List U1×List Ua×Int×Unit)
abbrev Vm:=(Int×List U3×List Int×Bool×Unit)
abbrev Vn:=(Int×List U1×Int×List Ua×Int×List U1×List U3×Int×Int×Unit)
abbrev AAP:AF:=[(.tmp 0,.dat U6),(.tmp 1,.dat U6)]
abbrev AAO:AF:=[(.tmp 0,.dat .bool)]
abbrev AAN:List RS:=[.one]
abbrev AEL:AF:=[(.tmp 0,.dat U6),(.tmp 1,.dat U6),(.tmp 5,.di)]
abbrev AEK:A2:=[(.ret,[(.tmp 4,.dat .bool)]),(.exit 0,[])]
def Eu[Lk]:(List Int×List Int×Int×Unit)→Option ((List Int×List Int×Int×Unit)⊕Uh⊕(Unit)⊕Unit):=fun(a0,a1,a2,_)=>
 match(ilt a2 (AM a0))with
 |true=>match idx a0 a2 with|none=>none|some x0=>match idx a1 a2 with|none=>none|some x1=>match(!(ieq x0 x1))with
  |true=>some (.inr (.inl (false,())))
  |false=>some (.inl (a0,a1,(IntKind.wrap .i64 (a2+1)),()))
 |false=>some (.inr (.inr (.inl ())))
def QO[Lk]:(List Int×List Int×Unit)→Option (Uh):=fun(a0,a1,_)=>
 match(!(ieq (AM a0) (AM a1)))with
 |true=>some (false,())
 |false=>match AR Eu many (a0,a1,0,())with|none=>none|some r=>match r with
 |.inl (o0,_)=>some (o0,())
 |.inr r=>match r with
 |.inl _=>some (true,())
 |.inr _=>none
def S3[Lk]:=fun v=>Lk.f (QO v)
theorem AEM v:S3 v=QO v:=AJ _
abbrev Xl:AF:=[(.tmp 0,.di)]
abbrev Xk:AF:=[(.tmp 0,.dat .bool)]
abbrev Xj:List RS:=[.one]
def Pa[Lk]:U9→Option (Uh):=fun(a0,_)=>
 match(ile 1 a0)with
 |true=>some ((ile a0 64),())
 |false=>some (false,())
def LS[Lk]:=fun v=>Lk.f (Pa v)
theorem ADP v:LS v=Pa v:=AJ _
abbrev AXy:AF:=[(.tmp 0,.di),(.tmp 1,.di)]
abbrev AXx:AF:=[(.tmp 0,.dat .bool)]
abbrev AXw:List RS:=[.one]
def ASh[Lk]:U3→Option (Uh):=fun(a0,a1,_)=>
 match LS (a0,())with|none=>none|some (y0,_)=>match y0 with
 |true=>match(ile 0 a1)with
  |true=>some ((ilt a1 a0),())
  |false=>some (false,())
 |false=>some (false,())
def tin[Lk]:=fun v=>Lk.f (ASh v)
theorem AXz v:tin v=ASh v:=AJ _
abbrev AOI:AF:=[(.tmp 0,.di),(.tmp 1,.di),(.tmp 2,.di)]
abbrev AOH:AF:=[(.tmp 0,.di)]
abbrev AOG:List RS:=[.one]
def AFa[Lk]:(Int×Int×Int×Unit)→Option (U9):=fun(a0,a1,a2,_)=>
 match(ieq a1 a2)with
 |true=>some ((-1:Int),())
 |false=>match tin (a0,a1,())with|none=>none|some (y0,_)=>match(!y0)with
 |true=>some ((-1:Int),())
 |false=>match tin (a0,a2,())with|none=>none|some (y1,_)=>match(!y1)with
 |true=>some ((-1:Int),())
 |false=>some ((IntKind.wrap .i64 ((IntKind.wrap .i64 (a0*(IntKind.wrap .i64 (a1+1))))+a2)),())
def AUQ[Lk]:=fun v=>Lk.f (AFa v)
theorem ASi v:AUQ v=AFa v:=AJ _
abbrev Xh:AF:=[(.tmp 0,.di),(.tmp 1,.di)]
abbrev Xg:AF:=[(.tmp 0,.di),(.tmp 1,.di),(.tmp 2,.dat .bool),(.tmp 3,.dat .bool)]
abbrev Xf:List RS:=[.one,.one,.one,.one]
def PZ[Lk]:U3→Option ((Int×Int×Bool×Bool×Unit)):=fun(a0,a1,_)=>
 match LS (a0,())with|none=>none|some (y0,_)=>match(!y0)with
 |true=>some (0,0,false,false,())
 |false=>match(ilt a1 0)with
 |true=>some (0,0,false,false,())
 |false=>match(ile (IntKind.wrap .i64 (a0*(IntKind.wrap .i64 (a0+1)))) a1)with
 |true=>some (0,0,false,false,())
 |false=>match(ilt a1 a0)with
 |true=>some (a1,0,false,true,())
 |false=>match quo? .i64 a1 a0 with|none=>none|some x1=>match rem? a1 a0 with|none=>none|some x2=>match(ieq (IntKind.wrap .i64 (x1-1)) x2)with
 |true=>some (0,0,false,false,())
 |false=>some ((IntKind.wrap .i64 (x1-1)),x2,true,true,())
def Xi[Lk]:=fun v=>Lk.f (PZ v)
theorem ADO v:Xi v=PZ v:=AJ _
abbrev AFU:AF:=[(.tmp 0,.di)]
abbrev AFT:AF:=[(.tmp 0,.di),(.tmp 1,.own 55 U6),(.tmp 2,.di)]
abbrev AFS:List RS:=[.agg 2,.one]
abbrev AJk:AF:=[(.tmp 2,.box 2),(.cell 0 0,.di),(.cell 0 1,.nil U6),(.tmp 4,.box 2),(.cell 1 0,.di),(.cell 1 1,.own 55 U6),(.tmp 12,.di),(.tmp 13,.di)]
abbrev AJj:A2:=[(.exit 0,[(.tmp 2,.box 2),(.cell 0 0,.di),(.cell 0 1,.nil U6),(.tmp 4,.box 2),(.cell 1 0,.di),(.cell 1 1,.own 55 U6)])]
def He[Lk]:(Int×Int×List U4×Int×Int×Unit)→Option ((Int×Int×List U4×Int×Int×Unit)⊕(Int×Int×List U4×Unit)⊕Unit):=fun(a0,a1,a2,a3,a4,_)=>
 match(ilt a4 a3)with
 |true=>match(fits ((AM a2)+(AM ([([a4]:List (Int))]:List U4))))with
  |true=>some (.inl (a0,a1,(A5 a2 ([([a4]:List (Int))]:List U4)),a3,(IntKind.wrap .i64 (a4+1)),()))
  |false=>none
 |false=>some (.inr (.inl (a0,a1,a2,())))
def Wx[Lk]:U9→Option (V1):=fun(a0,_)=>
 match LS (a0,())with|none=>none|some (y0,_)=>match(!y0)with
 |true=>some (0,([]:List U4),1,())
 |false=>match AR He many (0,a0,([]:List U4),a0,0,())with|none=>none|some r=>match r with
 |.inl (o1,o2,o3,_)=>some (o2,o3,0,())
 |.inr _=>none
def AJm[Lk]:=fun v=>Lk.f (Wx v)
theorem AJl v:AJm v=Wx v:=AJ _
abbrev AAW:AF:=[(.tmp 0,.dat U6),(.tmp 1,.di)]
abbrev AAV:AF:=[(.tmp 0,.di)]
abbrev AAU:List RS:=[.one]
abbrev AEO:AF:=[(.tmp 0,.dat U6),(.tmp 1,.di),(.tmp 7,.di),(.tmp 8,.di)]
abbrev AEN:A2:=[(.ret,[(.tmp 4,.di)]),(.exit 0,[])]
def Fv[Lk]:U7→Option (U7⊕U9⊕(Unit)⊕Unit):=fun(a0,a1,a2,a3,_)=>
 match(ilt a3 a2)with
 |true=>match idx a0 a3 with|none=>none|some x0=>match(ieq a1 x0)with
  |true=>some (.inr (.inl (a3,())))
  |false=>some (.inl (a0,a1,a2,(IntKind.wrap .i64 (a3+1)),()))
 |false=>some (.inr (.inr (.inl ())))
def QS[Lk]:Ur→Option (U9):=fun(a0,a1,_)=>
 match AR Fv many (a0,a1,(AM a0),0,())with|none=>none|some r=>match r with
 |.inl (o0,_)=>some (o0,())
 |.inr r=>match r with
 |.inl _=>some ((-1:Int),())
 |.inr _=>none
def Ou[Lk]:=fun v=>Lk.f (QS v)
theorem AEP v:Ou v=QS v:=AJ _
abbrev MY:AF:=[(.tmp 0,.dat U6),(.tmp 1,.di)]
abbrev MX:AF:=[(.tmp 0,.dat .bool)]
abbrev MW:List RS:=[.one]
def Iy[Lk]:Ur→Option (Uh):=fun(a0,a1,_)=>
 match Ou (a0,a1,())with|none=>none|some (y0,_)=>some ((ile 0 y0),())
def Ev[Lk]:=fun v=>Lk.f (Iy v)
theorem Qs v:Ev v=Iy v:=AJ _
abbrev AQV:AF:=[(.tmp 0,.dat U6)]
abbrev AQU:AF:=[(.tmp 0,.di)]
abbrev AQT:List RS:=[.one]
abbrev ATI:AF:=[(.tmp 0,.dat U6),(.tmp 3,.di),(.tmp 4,.di)]
abbrev ATH:A2:=[(.exit 0,[(.tmp 3,.di)])]
def KM[Lk]:Ue→Option (Ue⊕U9⊕Unit):=fun(a0,a1,a2,_)=>
 match(ilt a2 (AM a0))with
 |true=>match idx a0 a2 with|none=>none|some x0=>some (.inl (a0,(By a1 x0),(IntKind.wrap .i64 (a2+1)),()))
 |false=>some (.inr (.inl (a1,())))
def AG9[Lk]:Ub→Option (U9):=fun(a0,_)=>
 match(ilt (AM a0) 1)with
 |true=>none
 |false=>match idx a0 0 with|none=>none|some x0=>match AR KM many (a0,x0,1,())with|none=>none|some r=>match r with
 |.inl (o1,_)=>some (o1,())
 |.inr _=>none
def AVe[Lk]:=fun v=>Lk.f (AG9 v)
theorem ATJ v:AVe v=AG9 v:=AJ _
abbrev AH1:AF:=[(.tmp 0,.nil U0),(.tmp 1,.di)]
abbrev AH0:AF:=[(.tmp 0,.own 3 U0)]
abbrev AHz:List RS:=[.one]
def XN[Lk]:U9→Option (Ub):=fun(a0,_)=>
 match(ilt a0 0)with
 |true=>none
 |false=>match(ilt 0 (IntKind.wrap .i64 (a0-(IntKind.wrap .i64 (0-0)))))with
 |true=>match B5 ([]:List Unit) 0 0 with|none=>none|some _u0=>match(LH (IntKind.wrap .i64 (a0-(IntKind.wrap .i64 (0-0)))))with
  |true=>match B5 (Jo (AE (IntKind.wrap .i64 (a0-(IntKind.wrap .i64 ((0:Int)-(0:Int)))))) (0:Int)) (0:Int) (0:Int)with|none=>none|some x1=>some ((Bm (AE (AM x1)) (Jo (AE (IntKind.wrap .i64 (a0-(IntKind.wrap .i64 ((0:Int)-(0:Int)))))) (0:Int))),())
  |false=>none
 |false=>some (([]:List (Int)),())
def AMr[Lk]:=fun v=>Lk.f (XN v)
theorem AMq v:AMr v=XN v:=AJ _
abbrev TW:AF:=[(.tmp 0,.dat Ul)]
abbrev TV:AF:=[(.tmp 0,.own 3 U0)]
abbrev TU:List RS:=[.one]
abbrev ABE:AF:=[(.tmp 6,.own 3 U0),(.tmp 25,.dat Ul),(.tmp 26,.di),(.tmp 27,.di)]
abbrev ABC:A2:=[(.exit 2,[(.tmp 6,.own 3 U0)])]
def Ed[Lk]:(List Int×List U4×Int×Int×Unit)→Option ((List Int×List U4×Int×Int×Unit)⊕Ub⊕Unit):=fun(a0,a1,a2,a3,_)=>
 match(ilt a3 a2)with
 |true=>match idx a1 a3 with|none=>none|some x0=>match(fits ((AM a0)+(AM x0)))with
  |true=>some (.inl ((A5 a0 x0),a1,a2,(IntKind.wrap .i64 (a3+1)),()))
  |false=>none
 |false=>some (.inr (.inl (a0,())))
abbrev ABF:AF:=[(.tmp 0,.dat Ul),(.tmp 3,.di),(.tmp 9,.dat Ul),(.tmp 10,.di),(.tmp 11,.di)]
abbrev ABD:A2:=[(.exit 0,[(.tmp 0,.dat Ul),(.tmp 3,.di)])]
def Ee[Lk]:(List U4×Int×List U4×Int×Int×Unit)→Option ((List U4×Int×List U4×Int×Int×Unit)⊕Vc⊕Unit):=fun(a0,a1,a2,a3,a4,_)=>
 match(ilt a4 a3)with
 |true=>match idx a2 a4 with|none=>none|some x0=>match(ilt (IntKind.wrap .i64 (a1+(AM x0))) 0)with
  |true=>none
  |false=>some (.inl (a0,(IntKind.wrap .i64 (a1+(AM x0))),a2,a3,(IntKind.wrap .i64 (a4+1)),()))
 |false=>some (.inr (.inl (a0,a1,())))
def Nc[Lk]:Uo→Option (Ub):=fun(a0,_)=>
 match AR Ee many (a0,0,a0,(AM a0),0,())with|none=>none|some r=>match r with
 |.inl (o0,o1,_)=>match AMr (o1,())with|none=>none|some (y2,_)=>match AR Ed many (y2,o0,(AM o0),0,())with|none=>none|some r=>match r with
  |.inl (o3,_)=>some (o3,())
  |.inr _=>none
 |.inr _=>none
def Iz[Lk]:=fun v=>Lk.f (Nc v)
theorem ABG v:Iz v=Nc v:=AJ _
abbrev H4:AF:=[(.tmp 0,.dat U6),(.tmp 1,.clo 195 [])]
abbrev H3:AF:=[(.tmp 0,.di)]
abbrev H0:List RS:=[.one]
abbrev LB:AF:=[(.tmp 0,.dat U6),(.tmp 1,.clo 195 []),(.tmp 7,.di),(.tmp 8,.di)]
abbrev LA:A2:=[(.ret,[(.tmp 4,.di)]),(.exit 0,[])]
def B8[Lk]:Ue→Option (Ue⊕U9⊕(Unit)⊕Unit):=fun(a0,a1,a2,_)=>
 match(ilt a2 a1)with
 |true=>match idx a0 a2 with|none=>none|some x0=>match(ilt x0 0)with
  |true=>some (.inr (.inl (a2,())))
  |false=>match(ilt 10000 x0)with
  |true=>some (.inr (.inl (a2,())))
  |false=>some (.inl (a0,a1,(IntKind.wrap .i64 (a2+1)),()))
 |false=>some (.inr (.inr (.inl ())))
def FF[Lk]:Ub→Option (U9):=fun(a0,_)=>
 match AR B8 many (a0,(AM a0),0,())with|none=>none|some r=>match r with
 |.inl (o0,_)=>some (o0,())
 |.inr r=>match r with
 |.inl _=>some ((-1:Int),())
 |.inr _=>none
def G8[Lk]:=fun v=>Lk.f (FF v)
theorem LC v:G8 v=FF v:=AJ _
abbrev Gx:AF:=[(.tmp 0,.dat U6),(.tmp 1,.clo 195 [])]
abbrev Gw:AF:=[(.tmp 0,.dat .bool)]
abbrev Gv:List RS:=[.one]
def EM[Lk]:Ub→Option (Uh):=fun(a0,_)=>
 match G8 (a0,())with|none=>none|some (y0,_)=>some ((ile 0 y0),())
def EC[Lk]:=fun v=>Lk.f (EM v)
theorem Jq v:EC v=EM v:=AJ _
abbrev AQF:AF:=[(.tmp 0,.dat U6)]
abbrev AQE:AF:=[(.tmp 0,.dat .bool)]
abbrev AQD:List RS:=[.one]
abbrev ATA:AF:=[(.tmp 0,.dat U6),(.tmp 3,.map U0 U0),(.tmp 7,.dat U6),(.tmp 8,.di),(.tmp 9,.di)]
abbrev AS9:A2:=[(.exit 0,[(.tmp 0,.dat U6),(.tmp 3,.map U0 U0)])]
def KH[Lk]:(List Int×List Uu×List Int×Int×Int×Unit)→Option ((List Int×List Uu×List Int×Int×Int×Unit)⊕(List Int×List Uu×Unit)⊕Unit):=fun(a0,a1,a2,a3,a4,_)=>
 match(ilt a4 a3)with
 |true=>match idx a2 a4 with|none=>none|some x0=>some (.inl (a0,(Ag a1 x0 (IntKind.wrap .i64 (((AS a1 x0).getD 0)+1))),a2,a3,(IntKind.wrap .i64 (a4+1)),()))
 |false=>some (.inr (.inl (a0,a1,())))
def AG3[Lk]:Ub→Option (Uh):=fun(a0,_)=>
 match AR KH many (a0,([]:List Uu),a0,(AM a0),0,())with|none=>none|some r=>match r with
 |.inl (o0,o1,_)=>some ((ieq (AM o1) (AM o0)),())
 |.inr _=>none
def once[Lk]:=fun v=>Lk.f (AG3 v)
theorem ATB v:once v=AG3 v:=AJ _
abbrev YY:AF:=[(.tmp 0,.dat U6)]
abbrev YX:AF:=[(.tmp 0,.dat .bool)]
abbrev YW:List RS:=[.one]
def Ph[Lk]:Ub→Option (Uh):=fun(a0,_)=>
 match(ilt 1000 (AM a0))with
 |true=>some (false,())
 |false=>match EC (a0,())with|none=>none|some (y0,_)=>match(!y0)with
 |true=>match once (a0,())with|none=>none|some (y1,_)=>some (y1,())
 |false=>some (false,())
def OR[Lk]:=fun v=>Lk.f (Ph v)
theorem ADp v:OR v=Ph v:=AJ _
abbrev Xe:AF:=[(.tmp 0,.dat U6),(.tmp 1,.di)]
abbrev Xd:AF:=[(.tmp 0,.own 3 U0)]
abbrev Xc:List RS:=[.one]
def PY[Lk]:Ur→Option (Ub):=fun(a0,a1,_)=>
 match B5 a0 a1 (AM a0)with|none=>none|some x0=>match B5 a0 0 a1 with|none=>none|some x1=>match Iz (([x0,x1]:List U4),())with|none=>none|some (y2,_)=>some (y2,())
def Ri[Lk]:=fun v=>Lk.f (PY v)
theorem ADN v:Ri v=PY v:=AJ _
abbrev Yz:AF:=[(.tmp 0,.dat U6),(.tmp 1,.dat U6)]
abbrev Yy:AF:=[(.tmp 0,.own 3 U0),(.tmp 1,.dat .bool)]
abbrev Yx:List RS:=[.one,.one]
abbrev ADz:AF:=[(.tmp 0,.dat U6),(.tmp 6,.own 3 U0),(.tmp 12,.dat U6),(.tmp 13,.di),(.tmp 14,.di)]
abbrev ADy:A2:=[(.exit 0,[(.tmp 6,.own 3 U0)])]
def Eo[Lk]:(List Int×List Int×List Int×Int×Int×Unit)→Option ((List Int×List Int×List Int×Int×Int×Unit)⊕Ub⊕Unit):=fun(a0,a1,a2,a3,a4,_)=>
 match(ilt a4 a3)with
 |true=>match idx a2 a4 with|none=>none|some x0=>match Ou (a0,x0,())with|none=>none|some (y1,_)=>match(fits ((AM a1)+(AM ([y1]:List (Int)))))with
  |true=>some (.inl (a0,(A5 a1 ([y1]:List (Int))),a2,a3,(IntKind.wrap .i64 (a4+1)),()))
  |false=>none
 |false=>some (.inr (.inl (a1,())))
def Pw[Lk]:(List Int×List Int×Unit)→Option (Vg):=fun(a0,a1,_)=>
 match OR (a0,())with|none=>none|some (y0,_)=>match(!y0)with
 |true=>some (([]:List (Int)),false,())
 |false=>match AR Eo many (a0,([]:List (Int)),a1,(AM a1),0,())with|none=>none|some r=>match r with
 |.inl (o1,_)=>match Ev (o1,(-1:Int),())with|none=>none|some (y2,_)=>some (o1,(!y2),())
 |.inr _=>none
def AGO[Lk]:=fun v=>Lk.f (Pw v)
theorem AD0 v:AGO v=Pw v:=AJ _
abbrev AF5:AF:=[(.tmp 0,.dat U6),(.tmp 1,.di)]
abbrev AF4:AF:=[(.tmp 0,.own 3 U0),(.tmp 1,.dat .bool)]
abbrev AF3:List RS:=[.one,.one]
def W5[Lk]:Ur→Option (Vg):=fun(a0,a1,_)=>
 match AGO (a0,([a1]:List (Int)),())with|none=>none|some (y0,y1,_)=>match(!y1)with
 |true=>some (([]:List (Int)),false,())
 |false=>match idx y0 0 with|none=>none|some x2=>match Ri (a0,(AL y0 0 0),())with|none=>none|some (y3,_)=>some (y3,true,())
def ADs[Lk]:=fun v=>Lk.f (W5 v)
theorem AKR v:ADs v=W5 v:=AJ _
abbrev Yb:AF:=[(.tmp 0,.dat U6)]
abbrev Ya:AF:=[(.tmp 0,.own 3 U0)]
abbrev YZ:List RS:=[.one]
def Pj[Lk]:Ub→Option (Ub):=fun(a0,_)=>
 match OR (a0,())with|none=>none|some (y0,_)=>match(!y0)with
 |true=>some (([]:List (Int)),())
 |false=>match(ieq (AM a0) 0)with
 |true=>some (([]:List (Int)),())
 |false=>match AVe (a0,())with|none=>none|some (y1,_)=>match Ou (a0,y1,())with|none=>none|some (y2,_)=>match Ri (a0,y2,())with|none=>none|some (y3,_)=>some (y3,())
def Yc[Lk]:=fun v=>Lk.f (Pj v)
theorem ADq v:Yc v=Pj v:=AJ _
abbrev Fy:AF:=[(.tmp 0,.dat Ul),(.cap 1 0,.box 1),(.cell 0 0,.di),(.tmp 1,.clo 180 [(0,0)])]
abbrev Fx:AF:=[(.obj 0,.box 1),(.cell 0 0,.di),(.tmp 0,.di)]
abbrev Fw:List RS:=[.one]
abbrev Ip:AF:=[(.obj 0,.box 1),(.cell 0 0,.di),(.tmp 0,.dat Ul),(.tmp 1,.clo 180 [(0,0)]),(.tmp 7,.di),(.tmp 8,.di)]
abbrev Io:A2:=[(.ret,[(.obj 0,.box 1),(.cell 0 0,.di),(.tmp 4,.di)]),(.exit 0,[(.obj 0,.box 1),(.cell 0 0,.di)])]
def Bh[Lk]:(Int×List U4×Int×Int×Unit)→Option ((Int×List U4×Int×Int×Unit)⊕U3⊕U9⊕Unit):=fun(a0,a1,a2,a3,_)=>
 match(ilt a3 a2)with
 |true=>match idx a1 a3 with|none=>none|some x0=>match Ev (x0,a0,())with|none=>none|some (y1,_)=>match y1 with
  |true=>some (.inr (.inl (a0,a3,())))
  |false=>some (.inl (a0,a1,a2,(IntKind.wrap .i64 (a3+1)),()))
 |false=>some (.inr (.inr (.inl (a0,()))))
def Du[Lk]:Vc→Option (U3):=fun(a0,a1,_)=>
 match AR Bh many (a1,a0,(AM a0),0,())with|none=>none|some r=>match r with
 |.inl (o0,o1,_)=>some (o0,o1,())
 |.inr r=>match r with
 |.inl (o2,_)=>some (o2,(-1:Int),())
 |.inr _=>none
def FD[Lk]:=fun v=>Lk.f (Du v)
theorem Iq v:FD v=Du v:=AJ _
abbrev Xy:AF:=[(.tmp 0,.dat Us),(.tmp 1,.di)]
abbrev Xx:AF:=[(.tmp 0,.di)]
abbrev Xw:List RS:=[.one]
def Pd[Lk]:Vb→Option (U9):=fun(a0,a1,_)=>
 match FD (a0.2.1,a1,())with|none=>none|some (y0,y1,_)=>some (y1,())
def OK[Lk]:=fun v=>Lk.f (Pd v)
theorem ADX v:OK v=Pd v:=AJ _
abbrev ARR:AF:=[(.tmp 0,.di),(.tmp 1,.dat U6)]
abbrev ARQ:AF:=[(.tmp 0,.dat .bool)]
abbrev ARP:List RS:=[.one]
abbrev ATd:AF:=[(.tmp 0,.di),(.tmp 5,.box 3),(.cell 0 0,.own 3 U0),(.cell 0 1,.map U0 U0),(.cell 0 2,.map U0 U0),(.tmp 30,.dat U6),(.tmp 31,.di),(.tmp 32,.di)]
abbrev ATc:A2:=[(.ret,[(.tmp 4,.dat .bool)]),(.exit 0,[(.tmp 5,.box 3),(.cell 0 0,.own 3 U0),(.cell 0 1,.map U0 U0),(.cell 0 2,.map U0 U0)])]
def Iu[Lk]:(Int×List Int×List Uu×List Uu×List Int×Int×Int×Unit)→Option ((Int×List Int×List Uu×List Uu×List Int×Int×Int×Unit)⊕Uh⊕(List Int×List Uu×List Uu×Unit)⊕Unit):=fun(a0,a1,a2,a3,a4,a5,a6,_)=>
 match(ilt a6 a5)with
 |true=>match idx a4 a6 with|none=>none|some x0=>match Xi (a0,x0,())with|none=>none|some (y1,y2,y3,y4,_)=>match(!y4)with
  |true=>some (.inr (.inl (false,())))
  |false=>match y3 with
  |true=>match idx a1 (IntKind.wrap .i64 ((AM a1)-1))with|none=>none|some x5=>match(!(ieq (AL a1 (AE (IntKind.wrap .i64 ((AM a1)-1))) 0) y1))with
   |true=>some (.inr (.inl (false,())))
   |false=>match(ilt 0 (IntKind.wrap .i64 ((AM a1)-1)))with
   |true=>match idx a1 (IntKind.wrap .i64 ((IntKind.wrap .i64 ((AM a1)-1))-1))with|none=>none|some x6=>match(ieq (AL a1 (AE (IntKind.wrap .i64 ((IntKind.wrap .i64 ((AM a1)-1))-1))) 0) y2)with
    |true=>match B5 a1 0 (IntKind.wrap .i64 ((AM a1)-1))with|none=>none|some x7=>match(!y3)with
     |true=>match idx (Dc 0 (AE (AM x7)) a1) (IntKind.wrap .i64 ((((AE (AM x7)):Nat):Int)-1))with|none=>none|some x8=>match(!(ieq (AL a1 (0+(AE (IntKind.wrap .i64 ((((AE (AM x7)):Nat):Int)-1)))) 0) y1))with
      |true=>some (.inr (.inl (false,())))
      |false=>match(!y3)with
      |true=>some (.inl (a0,(Bm (AE (AM x7)) a1),a2,(Ag a3 y1 (IntKind.wrap .i64 (((AS a3 y1).getD 0)+1))),a4,a5,(IntKind.wrap .i64 (a6+1)),()))
      |false=>some (.inl (a0,(Bm (AE (AM x7)) a1),a2,a3,a4,a5,(IntKind.wrap .i64 (a6+1)),()))
     |false=>match(!y3)with
     |true=>some (.inl (a0,(Bm (AE (AM x7)) a1),a2,(Ag a3 y1 (IntKind.wrap .i64 (((AS a3 y1).getD 0)+1))),a4,a5,(IntKind.wrap .i64 (a6+1)),()))
     |false=>some (.inl (a0,(Bm (AE (AM x7)) a1),a2,a3,a4,a5,(IntKind.wrap .i64 (a6+1)),()))
    |false=>match(ilt 0 ((AS a2 y2).getD 0))with
    |true=>some (.inr (.inl (false,())))
    |false=>match(fits ((AM a1)+(AM ([y2]:List (Int)))))with
    |true=>match(!y3)with
     |true=>match idx (A5 a1 ([y2]:List (Int))) (IntKind.wrap .i64 ((AM (A5 a1 ([y2]:List (Int))))-1))with|none=>none|some x9=>match(!(ieq (AL (A5 a1 ([y2]:List (Int))) (AE (IntKind.wrap .i64 ((AM (A5 a1 ([y2]:List (Int))))-1))) 0) y1))with
      |true=>some (.inr (.inl (false,())))
      |false=>match(!y3)with
      |true=>some (.inl (a0,(A5 a1 ([y2]:List (Int))),(Ag a2 y2 (IntKind.wrap .i64 (((AS a2 y2).getD 0)+1))),(Ag a3 y1 (IntKind.wrap .i64 (((AS a3 y1).getD 0)+1))),a4,a5,(IntKind.wrap .i64 (a6+1)),()))
      |false=>some (.inl (a0,(A5 a1 ([y2]:List (Int))),(Ag a2 y2 (IntKind.wrap .i64 (((AS a2 y2).getD 0)+1))),a3,a4,a5,(IntKind.wrap .i64 (a6+1)),()))
     |false=>match(!y3)with
     |true=>some (.inl (a0,(A5 a1 ([y2]:List (Int))),(Ag a2 y2 (IntKind.wrap .i64 (((AS a2 y2).getD 0)+1))),(Ag a3 y1 (IntKind.wrap .i64 (((AS a3 y1).getD 0)+1))),a4,a5,(IntKind.wrap .i64 (a6+1)),()))
     |false=>some (.inl (a0,(A5 a1 ([y2]:List (Int))),(Ag a2 y2 (IntKind.wrap .i64 (((AS a2 y2).getD 0)+1))),a3,a4,a5,(IntKind.wrap .i64 (a6+1)),()))
    |false=>none
   |false=>match(ilt 0 ((AS a2 y2).getD 0))with
   |true=>some (.inr (.inl (false,())))
   |false=>match(fits ((AM a1)+(AM ([y2]:List (Int)))))with
   |true=>match(!y3)with
    |true=>match idx (A5 a1 ([y2]:List (Int))) (IntKind.wrap .i64 ((AM (A5 a1 ([y2]:List (Int))))-1))with|none=>none|some x10=>match(!(ieq (AL (A5 a1 ([y2]:List (Int))) (AE (IntKind.wrap .i64 ((AM (A5 a1 ([y2]:List (Int))))-1))) 0) y1))with
     |true=>some (.inr (.inl (false,())))
     |false=>match(!y3)with
     |true=>some (.inl (a0,(A5 a1 ([y2]:List (Int))),(Ag a2 y2 (IntKind.wrap .i64 (((AS a2 y2).getD 0)+1))),(Ag a3 y1 (IntKind.wrap .i64 (((AS a3 y1).getD 0)+1))),a4,a5,(IntKind.wrap .i64 (a6+1)),()))
     |false=>some (.inl (a0,(A5 a1 ([y2]:List (Int))),(Ag a2 y2 (IntKind.wrap .i64 (((AS a2 y2).getD 0)+1))),a3,a4,a5,(IntKind.wrap .i64 (a6+1)),()))
    |false=>match(!y3)with
    |true=>some (.inl (a0,(A5 a1 ([y2]:List (Int))),(Ag a2 y2 (IntKind.wrap .i64 (((AS a2 y2).getD 0)+1))),(Ag a3 y1 (IntKind.wrap .i64 (((AS a3 y1).getD 0)+1))),a4,a5,(IntKind.wrap .i64 (a6+1)),()))
    |false=>some (.inl (a0,(A5 a1 ([y2]:List (Int))),(Ag a2 y2 (IntKind.wrap .i64 (((AS a2 y2).getD 0)+1))),a3,a4,a5,(IntKind.wrap .i64 (a6+1)),()))
   |false=>none
  |false=>match(!y3)with
  |true=>match idx a1 (IntKind.wrap .i64 ((AM a1)-1))with|none=>none|some x11=>match(!(ieq (AL a1 (AE (IntKind.wrap .i64 ((AM a1)-1))) 0) y1))with
   |true=>some (.inr (.inl (false,())))
   |false=>match(!y3)with
   |true=>some (.inl (a0,a1,a2,(Ag a3 y1 (IntKind.wrap .i64 (((AS a3 y1).getD 0)+1))),a4,a5,(IntKind.wrap .i64 (a6+1)),()))
   |false=>some (.inl (a0,a1,a2,a3,a4,a5,(IntKind.wrap .i64 (a6+1)),()))
  |false=>match(!y3)with
  |true=>some (.inl (a0,a1,a2,(Ag a3 y1 (IntKind.wrap .i64 (((AS a3 y1).getD 0)+1))),a4,a5,(IntKind.wrap .i64 (a6+1)),()))
  |false=>some (.inl (a0,a1,a2,a3,a4,a5,(IntKind.wrap .i64 (a6+1)),()))
 |false=>some (.inr (.inr (.inl (a1,a2,a3,()))))
def AH4[Lk]:Vh→Option (Uh):=fun(a0,a1,_)=>
 match idx a1 0 with|none=>none|some x0=>match tin (a0,x0,())with|none=>none|some (y1,_)=>match(!y1)with
 |true=>some (false,())
 |false=>match idx a1 0 with|none=>none|some x2=>match idx a1 0 with|none=>none|some x3=>match AR Iu many (a0,([x2]:List (Int)),(Ag ([]:List Uu) x3 1),([]:List Uu),a1,(AM a1),0,())with|none=>none|some r=>match r with
 |.inl (o4,_)=>some (o4,())
 |.inr r=>match r with
 |.inl (o5,o6,o7,_)=>match(ieq (AM o5) 1)with
  |true=>some ((ieq (AM o7) (AM o6)),())
  |false=>some (false,())
 |.inr _=>none
def AaY[Lk]:=fun v=>Lk.f (AH4 v)
theorem ATe v:AaY v=AH4 v:=AJ _
abbrev Xr:AF:=[(.tmp 0,.dat Us)]
abbrev Xq:AF:=[(.tmp 0,.dat .bool)]
abbrev Xp:List RS:=[.one]
abbrev ADT:AF:=[(.tmp 3,.map U0 U0),(.tmp 78,.di),(.tmp 79,.di)]
abbrev ADQ:A2:=[(.ret,[(.tmp 2,.dat .bool)]),(.exit 4,[])]
def Ej[Lk]:(List Uu×Int×Int×Unit)→Option ((List Uu×Int×Int×Unit)⊕Uh⊕(Unit)⊕Unit):=fun(a0,a1,a2,_)=>
 match(ilt a2 a1)with
 |true=>match(ieq ((AS a0 a2).getD 0) 0)with
  |true=>some (.inr (.inl (false,())))
  |false=>some (.inl (a0,a1,(IntKind.wrap .i64 (a2+1)),()))
 |false=>some (.inr (.inr (.inl ())))
abbrev ADU:AF:=[(.tmp 1,.box 2),(.cell 0 0,.di),(.cell 0 1,.dat Ul),(.tmp 3,.map U0 U0),(.tmp 4,.di),(.tmp 16,.dat Ul),(.tmp 17,.di),(.tmp 18,.di),(.tmp 26,.dat U6),(.tmp 28,.di),(.tmp 29,.di),(.tmp 30,.dat .bool),(.tmp 33,.dat U6),(.tmp 34,.dat .bool),(.tmp 35,.dat .bool),(.tmp 38,.dat U6),(.tmp 39,.di),(.tmp 40,.dat U6),(.tmp 42,.di),(.tmp 43,.dat .bool),(.tmp 46,.ptr' 0 0),(.tmp 47,.di),(.tmp 48,.dat U6),(.tmp 49,.dat .bool),(.tmp 50,.dat .bool),(.tmp 55,.dat U6),(.tmp 56,.di),(.tmp 57,.di)]
abbrev ADR:A2:=[(.ret,[(.tmp 2,.dat .bool)]),(.exit 2,[(.tmp 1,.box 2),(.cell 0 0,.di),(.cell 0 1,.dat Ul),(.tmp 3,.map U0 U0),(.tmp 4,.di),(.tmp 16,.dat Ul),(.tmp 17,.di),(.tmp 18,.di),(.tmp 26,.dat U6),(.tmp 28,.di),(.tmp 29,.di),(.tmp 30,.dat .bool),(.tmp 33,.dat U6),(.tmp 34,.dat .bool),(.tmp 35,.dat .bool),(.tmp 38,.dat U6),(.tmp 39,.di),(.tmp 40,.dat U6),(.tmp 42,.di),(.tmp 43,.dat .bool),(.tmp 46,.ptr' 0 0),(.tmp 47,.di),(.tmp 48,.dat U6),(.tmp 49,.dat .bool),(.tmp 50,.dat .bool)])]
def Dg[Lk]:Ux→Option (Ux⊕Uh⊕(Int×List U4×List Uu×Int×List U4×Int×Int×List Int×Int×Int×Bool×List Int×Bool×Bool×List Int×Int×List Int×Int×Bool×Int×List Int×Bool×Bool×Unit)⊕Unit):=fun(a0,a1,a2,a3,a4,a5,a6,a7,a8,a9,a10,a11,a12,a13,a14,a15,a16,a17,a18,a19,a20,a21,a22,a23,a24,a25,_)=>
 match(ilt a25 a24)with
 |true=>match idx a23 a25 with|none=>none|some x0=>match(ilt x0 a0)with
  |true=>match(ilt 0 ((AS a2 x0).getD 0))with
   |true=>some (.inr (.inl (false,())))
   |false=>some (.inl (a0,a1,(Ag a2 x0 (IntKind.wrap .i64 (((AS a2 x0).getD 0)+1))),a3,a4,a5,a6,a7,a8,a9,a10,a11,a12,a13,a14,a15,a16,a17,a18,a19,a20,a21,a22,a23,a24,(IntKind.wrap .i64 (a25+1)),()))
  |false=>some (.inl (a0,a1,(Ag a2 x0 (IntKind.wrap .i64 (((AS a2 x0).getD 0)+1))),a3,a4,a5,a6,a7,a8,a9,a10,a11,a12,a13,a14,a15,a16,a17,a18,a19,a20,a21,a22,a23,a24,(IntKind.wrap .i64 (a25+1)),()))
 |false=>some (.inr (.inr (.inl (a0,a1,a2,a3,a4,a5,a6,a7,a8,a9,a10,a11,a12,a13,a14,a15,a16,a17,a18,a19,a20,a21,a22,()))))
abbrev ADV:AF:=[(.tmp 1,.box 2),(.cell 0 0,.di),(.cell 0 1,.dat Ul),(.tmp 3,.map U0 U0),(.tmp 4,.di),(.tmp 16,.dat Ul),(.tmp 17,.di),(.tmp 18,.di)]
abbrev ADS:A2:=[(.ret,[(.tmp 2,.dat .bool)]),(.exit 0,[(.tmp 1,.box 2),(.cell 0 0,.di),(.cell 0 1,.dat Ul),(.tmp 3,.map U0 U0)])]
def Dh[Lk]:(Int×List U4×List Uu×Int×List U4×Int×Int×Unit)→Option ((Int×List U4×List Uu×Int×List U4×Int×Int×Unit)⊕Uh⊕(Int×List U4×List Uu×Unit)⊕Unit):=fun(a0,a1,a2,a3,a4,a5,a6,_)=>
 match(ilt a6 a5)with
 |true=>match idx a4 a6 with|none=>none|some x0=>match(ieq (AM x0) 0)with
  |true=>some (.inr (.inl (false,())))
  |false=>match idx x0 0 with|none=>none|some x1=>match(ile x1 a3)with
  |true=>some (.inr (.inl (false,())))
  |false=>match OR (x0,())with|none=>none|some (y2,_)=>match(!y2)with
  |true=>some (.inr (.inl (false,())))
  |false=>match AVe (x0,())with|none=>none|some (y3,_)=>match idx x0 0 with|none=>none|some x4=>match(!(ieq y3 x4))with
  |true=>some (.inr (.inl (false,())))
  |false=>match AaY (a0,x0,())with|none=>none|some (y5,_)=>match(!y5)with
  |true=>some (.inr (.inl (false,())))
  |false=>match idx x0 0 with|none=>none|some x6=>match AR Dg many (a0,a1,a2,x6,a4,a5,a6,x0,x1,a3,(ile x1 a3),x0,y2,(!y2),x0,y3,x0,x4,(!(ieq y3 x4)),a0,x0,y5,(!y5),x0,(AM x0),0,())with|none=>none|some r=>match r with
  |.inl (o7,_)=>some (.inr (.inl (o7,())))
  |.inr r=>match r with
  |.inl (o8,o9,o10,o11,o12,o13,o14,o15,o16,o17,o18,o19,o20,o21,o22,o23,o24,o25,o26,o27,o28,o29,o30,_)=>some (.inl (o8,o9,o10,o11,o12,o13,(IntKind.wrap .i64 (o14+1)),()))
  |.inr _=>none
 |false=>some (.inr (.inr (.inl (a0,a1,a2,()))))
def Pc[Lk]:(Uk×Unit)→Option (Uh):=fun(a0,_)=>
 match LS (a0.1,())with|none=>none|some (y0,_)=>match(!y0)with
 |true=>some (false,())
 |false=>match AR Dh many (a0.1,a0.2.1,([]:List Uu),(-1:Int),a0.2.1,(AM a0.2.1),0,())with|none=>none|some r=>match r with
 |.inl (o1,_)=>some (o1,())
 |.inr r=>match r with
 |.inl (o2,o3,o4,_)=>match AR Ej many (o4,o2,0,())with|none=>none|some r=>match r with
  |.inl (o5,_)=>some (o5,())
  |.inr r=>match r with
  |.inl _=>some (true,())
  |.inr _=>none
 |.inr _=>none
def OJ[Lk]:=fun v=>Lk.f (Pc v)
theorem ADW v:OJ v=Pc v:=AJ _
abbrev AIp:AF:=[(.tmp 0,.dat Us),(.tmp 1,.di),(.tmp 2,.di)]
abbrev AIo:AF:=[(.tmp 0,.di)]
abbrev AIn:List RS:=[.one]
def XR[Lk]:(Uk×Int×Int×Unit)→Option (U9):=fun(a0,a1,a2,_)=>
 match OJ ((a0.1,(a0.2.1,())),())with|none=>none|some (y0,_)=>match(!y0)with
 |true=>some (1,())
 |false=>match tin (a0.1,a1,())with|none=>none|some (y1,_)=>match(!y1)with
 |true=>some (10,())
 |false=>match tin (a0.1,a2,())with|none=>none|some (y2,_)=>match(!y2)with
 |true=>some (10,())
 |false=>some (0,())
def asked[Lk]:=fun v=>Lk.f (XR v)
theorem ANg v:asked v=XR v:=AJ _
abbrev AQP:AF:=[(.tmp 0,.di)]
abbrev AQO:AF:=[(.tmp 0,.dat .bool)]
abbrev AQN:List RS:=[.one]
def Sc[Lk]:U9→Option (Uh):=fun(a0,_)=>
 some ((!(ieq a0 a0)),())
def AQQ[Lk]:=fun v=>Lk.f (Sc v)
theorem XF v:AQQ v=Sc v:=AJ _
abbrev PE:AF:=[(.tmp 0,.di),(.tmp 1,.di)]
abbrev PD:AF:=[(.tmp 0,.di)]
abbrev PC:List RS:=[.one]
def IN[Lk]:U3→Option (U9):=fun(a0,a1,_)=>
 match AQQ (a0,())with|none=>none|some (y0,_)=>match AQQ (a1,())with|none=>none|some (y1,_)=>match y0 with
 |true=>match y1 with
  |true=>some (0,())
  |false=>some ((-1:Int),())
 |false=>match y1 with
 |true=>some (1,())
 |false=>match(ilt a0 a1)with
 |true=>some ((-1:Int),())
 |false=>match(ilt a1 a0)with
 |true=>some (1,())
 |false=>some (0,())
def FP[Lk]:=fun v=>Lk.f (IN v)
theorem Mb v:FP v=IN v:=AJ _
abbrev AE6:AF:=[(.tmp 0,.dat U6),(.tmp 1,.dat U6)]
abbrev AE5:AF:=[(.tmp 0,.di)]
abbrev AE4:List RS:=[.one]
def Wu[Lk]:(List Int×List Int×Unit)→Option (U9):=fun(a0,a1,_)=>
 match idx a0 0 with|none=>none|some x0=>match idx a1 0 with|none=>none|some x1=>match FP (x0,x1,())with|none=>none|some (y2,_)=>some (y2,())
def BF[Lk]:=fun v=>Lk.f (Wu v)
theorem AJH v:BF v=Wu v:=AJ _
def Gu:List Int:=[0,1,2,2,3,3,3,3,4,4,4,4,4,4,4,4,5,5,5,5,5,5,5,5,5,5,5,5,5,5,5,5,6,6,6,6,6,6,6,6,6,6,6,6,6,6,6,6,6,6,6,6,6,6,6,6,6,6,6,6,6,6,6,6,7,7,7,7,7,7,7,7,7,7,7,7,7,7,7,7,7,7,7,7,7,7,7,7,7,7,7,7,7,7,7,7,7,7,7,7,7,7,7,7,7,7,7,7,7,7,7,7,7,7,7,7,7,7,7,7,7,7,7,7,7,7,7,7,8,8,8,8,8,8,8,8,8,8,8,8,8,8,8,8,8,8,8,8,8,8,8,8,8,8,8,8,8,8,8,8,8,8,8,8,8,8,8,8,8,8,8,8,8,8,8,8,8,8,8,8,8,8,8,8,8,8,8,8,8,8,8,8,8,8,8,8,8,8,8,8,8,8,8,8,8,8,8,8,8,8,8,8,8,8,8,8,8,8,8,8,8,8,8,8,8,8,8,8,8,8,8,8,8,8,8,8,8,8,8,8,8,8,8,8,8,8,8,8,8,8,8,8,8,8,8,8]
abbrev AHZ:AF:=[(.tmp 0,.dat (.int .u64))]
abbrev AHY:AF:=[(.tmp 0,.di)]
abbrev AHX:List RS:=[.one]
def XJ[Lk]:U9→Option (U9):=fun(a0,_)=>
 match(ile 4294967296 a0)with
 |true=>match shr? .u64 a0 32 with|none=>none|some x0=>match(ile 65536 x0)with
  |true=>match shr? .u64 x0 16 with|none=>none|some x1=>match(ile 256 x1)with
   |true=>match shr? .u64 x1 8 with|none=>none|some x2=>match idx Gu (IntKind.wrap .u8 x2)with|none=>none|some x3=>some ((IntKind.wrap .i64 ((IntKind.wrap .i64 ((IntKind.wrap .i64 (32+16))+8))+(IntKind.wrap .i64 x3))),())
   |false=>match idx Gu (IntKind.wrap .u8 x1)with|none=>none|some x4=>some ((IntKind.wrap .i64 ((IntKind.wrap .i64 (32+16))+(IntKind.wrap .i64 x4))),())
  |false=>match(ile 256 x0)with
  |true=>match shr? .u64 x0 8 with|none=>none|some x5=>match idx Gu (IntKind.wrap .u8 x5)with|none=>none|some x6=>some ((IntKind.wrap .i64 ((IntKind.wrap .i64 (32+8))+(IntKind.wrap .i64 x6))),())
  |false=>match idx Gu (IntKind.wrap .u8 x0)with|none=>none|some x7=>some ((IntKind.wrap .i64 (32+(IntKind.wrap .i64 x7))),())
 |false=>match(ile 65536 a0)with
 |true=>match shr? .u64 a0 16 with|none=>none|some x8=>match(ile 256 x8)with
  |true=>match shr? .u64 x8 8 with|none=>none|some x9=>match idx Gu (IntKind.wrap .u8 x9)with|none=>none|some x10=>some ((IntKind.wrap .i64 ((IntKind.wrap .i64 ((IntKind.wrap .i64 (0+16))+8))+(IntKind.wrap .i64 x10))),())
  |false=>match idx Gu (IntKind.wrap .u8 x8)with|none=>none|some x11=>some ((IntKind.wrap .i64 ((IntKind.wrap .i64 (0+16))+(IntKind.wrap .i64 x11))),())
 |false=>match(ile 256 a0)with
 |true=>match shr? .u64 a0 8 with|none=>none|some x12=>match idx Gu (IntKind.wrap .u8 x12)with|none=>none|some x13=>some ((IntKind.wrap .i64 ((IntKind.wrap .i64 (0+8))+(IntKind.wrap .i64 x13))),())
 |false=>match idx Gu (IntKind.wrap .u8 a0)with|none=>none|some x14=>some ((IntKind.wrap .i64 (0+(IntKind.wrap .i64 x14))),())
def AMM[Lk]:=fun v=>Lk.f (XJ v)
theorem AML v:AMM v=XJ v:=AJ _
abbrev Td:AF:=[(.tmp 0,.dat (.int .u64))]
abbrev Tc:AF:=[(.tmp 0,.di)]
abbrev Tb:List RS:=[.one]
def Ng[Lk]:U9→Option (U9):=fun(a0,_)=>
 match AMM (a0,())with|none=>none|some (y0,_)=>some (y0,())
def bitsLen[Lk]:=fun v=>Lk.f (Ng v)
theorem ABY v:bitsLen v=Ng v:=AJ _
abbrev Rh:AF:=[(.tmp 0,.box 1),(.cell 0 0,.dat (.int .u64))]
abbrev Rg:AF:=[(.obj 0,.box 1),(.cell 0 0,.dat (.int .u64)),(.tmp 0,.dat (.int .u64))]
abbrev Rf:List RS:=[.one]
def Mt[Lk]:U9→Option (U3):=fun(a0,_)=>
 match shl? .u64 a0 13 with|none=>none|some x0=>match shr? .u64 (IntKind.wrap .u64 ((BitVec.ofInt (IntKind.bits .u64) a0 ^^^ BitVec.ofInt (IntKind.bits .u64) x0).toNat)) 7 with|none=>none|some x1=>match shl? .u64 (IntKind.wrap .u64 ((BitVec.ofInt (IntKind.bits .u64) (IntKind.wrap .u64 ((BitVec.ofInt (IntKind.bits .u64) a0 ^^^ BitVec.ofInt (IntKind.bits .u64) x0).toNat)) ^^^ BitVec.ofInt (IntKind.bits .u64) x1).toNat)) 17 with|none=>none|some x2=>some ((IntKind.wrap .u64 ((BitVec.ofInt (IntKind.bits .u64) (IntKind.wrap .u64 ((BitVec.ofInt (IntKind.bits .u64) (IntKind.wrap .u64 ((BitVec.ofInt (IntKind.bits .u64) a0 ^^^ BitVec.ofInt (IntKind.bits .u64) x0).toNat)) ^^^ BitVec.ofInt (IntKind.bits .u64) x1).toNat)) ^^^ BitVec.ofInt (IntKind.bits .u64) x2).toNat)),(IntKind.wrap .u64 ((BitVec.ofInt (IntKind.bits .u64) (IntKind.wrap .u64 ((BitVec.ofInt (IntKind.bits .u64) (IntKind.wrap .u64 ((BitVec.ofInt (IntKind.bits .u64) a0 ^^^ BitVec.ofInt (IntKind.bits .u64) x0).toNat)) ^^^ BitVec.ofInt (IntKind.bits .u64) x1).toNat)) ^^^ BitVec.ofInt (IntKind.bits .u64) x2).toNat)),())
def xorNext[Lk]:=fun v=>Lk.f (Mt v)
theorem XY v:xorNext v=Mt v:=AJ _
abbrev Sb:AF:=[(.tmp 0,.di)]
abbrev Sa:AF:=[(.tmp 0,.dat (.int .u64))]
abbrev SZ:List RS:=[.one]
def NG[Lk]:U9→Option (U9):=fun(a0,_)=>
 match bitsLen ((IntKind.wrap .u64 a0),())with|none=>none|some (y0,_)=>match shl? .u64 1 y0 with|none=>none|some x1=>some (x1,())
def NH[Lk]:=fun v=>Lk.f (NG v)
theorem Zt v:NH v=NG v:=AJ _
def QQ[Lk]{α:Type}(z:α)(c:α×α×Unit→Option U9):(List α×Int×Int×Int×Int×Unit)→Option ((List α×Int×Int×Int×Int×Unit)⊕(List α×Int×Int×Int×Unit)⊕Unit):=fun(a0,a1,a2,a3,a4,_)=>
 match(ilt a1 a4)with
 |true=>match idx a0 a4 with|none=>none|some x0=>match idx a0 (IntKind.wrap .i64 (a4-1))with|none=>none|some x1=>match c ((AL a0 (AE a4) z),(AL a0 (AE (IntKind.wrap .i64 (a4-1))) z),())with|none=>none|some (y2,_)=>match(ilt y2 0)with
  |true=>match idx a0 (IntKind.wrap .i64 (a4-1))with|none=>none|some x3=>match idx a0 a4 with|none=>none|some x4=>match idx a0 a4 with|none=>none|some x5=>match idx (An a0 (AE a4) (AL a0 (AE (IntKind.wrap .i64 (a4-1))) z)) (IntKind.wrap .i64 (a4-1))with|none=>none|some x6=>some (.inl ((An (An a0 (AE a4) (AL a0 (AE (IntKind.wrap .i64 (a4-1))) z)) (AE (IntKind.wrap .i64 (a4-1))) (AL a0 (AE a4) z)),a1,a2,a3,(IntKind.wrap .i64 (a4-1)),()))
  |false=>some (.inr (.inl (a0,a1,a2,a3,())))
 |false=>some (.inr (.inl (a0,a1,a2,a3,())))
def QR[Lk]{α:Type}(z:α)(c:α×α×Unit→Option U9):(List α×Int×Int×Int×Unit)→Option ((List α×Int×Int×Int×Unit)⊕(List α×Unit)⊕Unit):=fun(a0,a1,a2,a3,_)=>
 match(ilt a3 a2)with
 |true=>match AR (QQ z c) many (a0,a1,a2,a3,a3,())with|none=>none|some r=>match r with
  |.inl (o0,o1,o2,o3,_)=>some (.inl (o0,o1,o2,(IntKind.wrap .i64 (o3+1)),()))
  |.inr _=>none
 |false=>some (.inr (.inl (a0,())))
def AHh[Lk]{α:Type}(z:α)(c:α×α×Unit→Option U9):(List α×Int×Int×Unit)→Option ((List α×Unit)):=fun(a0,a1,a2,_)=>
 match AR (QR z c) many (a0,a1,a2,(IntKind.wrap .i64 (a1+1)),())with|none=>none|some r=>match r with
 |.inl (o0,_)=>some (o0,())
 |.inr _=>none
def Acj[Lk]{α:Type}(z:α)(c:α×α×Unit→Option U9)(v:(List α×Int×Int×Unit)):Option ((List α×Unit)):=Lk.f ((AHh z c) v)
theorem Aci{α:Type}(z:α)(c:α×α×Unit→Option U9)(v:(List α×Int×Int×Unit)):(Acj z c) v=(AHh z c) v:=AJ _
def LX[Lk]{α:Type}(z:α)(c:α×α×Unit→Option U9):(List α×Int×Int×Int×Unit)→Option ((List α×Int×Int×Int×Unit)⊕(List α×Unit)⊕(List α×Unit)⊕Unit):=fun(a0,a1,a2,a3,_)=>
 match(ile a1 (IntKind.wrap .i64 ((IntKind.wrap .i64 (2*a3))+1)))with
 |true=>some (.inr (.inl (a0,())))
 |false=>match(ilt (IntKind.wrap .i64 ((IntKind.wrap .i64 ((IntKind.wrap .i64 (2*a3))+1))+1)) a1)with
 |true=>match idx a0 (IntKind.wrap .i64 (a2+(IntKind.wrap .i64 ((IntKind.wrap .i64 (2*a3))+1))))with|none=>none|some x0=>match idx a0 (IntKind.wrap .i64 ((IntKind.wrap .i64 (a2+(IntKind.wrap .i64 ((IntKind.wrap .i64 (2*a3))+1))))+1))with|none=>none|some x1=>match c ((AL a0 (AE (IntKind.wrap .i64 (a2+(IntKind.wrap .i64 ((IntKind.wrap .i64 (2*a3))+1))))) z),(AL a0 (AE (IntKind.wrap .i64 ((IntKind.wrap .i64 (a2+(IntKind.wrap .i64 ((IntKind.wrap .i64 (2*a3))+1))))+1))) z),())with|none=>none|some (y2,_)=>match(ilt y2 0)with
  |true=>match idx a0 (IntKind.wrap .i64 (a2+a3))with|none=>none|some x3=>match idx a0 (IntKind.wrap .i64 (a2+(IntKind.wrap .i64 ((IntKind.wrap .i64 ((IntKind.wrap .i64 (2*a3))+1))+1))))with|none=>none|some x4=>match c ((AL a0 (AE (IntKind.wrap .i64 (a2+a3))) z),(AL a0 (AE (IntKind.wrap .i64 (a2+(IntKind.wrap .i64 ((IntKind.wrap .i64 ((IntKind.wrap .i64 (2*a3))+1))+1))))) z),())with|none=>none|some (y5,_)=>match(!(ilt y5 0))with
   |true=>some (.inr (.inr (.inl (a0,()))))
   |false=>match idx a0 (IntKind.wrap .i64 (a2+(IntKind.wrap .i64 ((IntKind.wrap .i64 ((IntKind.wrap .i64 (2*a3))+1))+1))))with|none=>none|some x6=>match idx a0 (IntKind.wrap .i64 (a2+a3))with|none=>none|some x7=>match idx a0 (IntKind.wrap .i64 (a2+a3))with|none=>none|some x8=>match idx (An a0 (AE (IntKind.wrap .i64 (a2+a3))) (AL a0 (AE (IntKind.wrap .i64 (a2+(IntKind.wrap .i64 ((IntKind.wrap .i64 ((IntKind.wrap .i64 (2*a3))+1))+1))))) z)) (IntKind.wrap .i64 (a2+(IntKind.wrap .i64 ((IntKind.wrap .i64 ((IntKind.wrap .i64 (2*a3))+1))+1))))with|none=>none|some x9=>some (.inl ((An (An a0 (AE (IntKind.wrap .i64 (a2+a3))) (AL a0 (AE (IntKind.wrap .i64 (a2+(IntKind.wrap .i64 ((IntKind.wrap .i64 ((IntKind.wrap .i64 (2*a3))+1))+1))))) z)) (AE (IntKind.wrap .i64 (a2+(IntKind.wrap .i64 ((IntKind.wrap .i64 ((IntKind.wrap .i64 (2*a3))+1))+1))))) (AL a0 (AE (IntKind.wrap .i64 (a2+a3))) z)),a1,a2,(IntKind.wrap .i64 ((IntKind.wrap .i64 ((IntKind.wrap .i64 (2*a3))+1))+1)),()))
  |false=>match idx a0 (IntKind.wrap .i64 (a2+a3))with|none=>none|some x10=>match idx a0 (IntKind.wrap .i64 (a2+(IntKind.wrap .i64 ((IntKind.wrap .i64 (2*a3))+1))))with|none=>none|some x11=>match c ((AL a0 (AE (IntKind.wrap .i64 (a2+a3))) z),(AL a0 (AE (IntKind.wrap .i64 (a2+(IntKind.wrap .i64 ((IntKind.wrap .i64 (2*a3))+1))))) z),())with|none=>none|some (y12,_)=>match(!(ilt y12 0))with
  |true=>some (.inr (.inr (.inl (a0,()))))
  |false=>match idx a0 (IntKind.wrap .i64 (a2+(IntKind.wrap .i64 ((IntKind.wrap .i64 (2*a3))+1))))with|none=>none|some x13=>match idx a0 (IntKind.wrap .i64 (a2+a3))with|none=>none|some x14=>match idx a0 (IntKind.wrap .i64 (a2+a3))with|none=>none|some x15=>match idx (An a0 (AE (IntKind.wrap .i64 (a2+a3))) (AL a0 (AE (IntKind.wrap .i64 (a2+(IntKind.wrap .i64 ((IntKind.wrap .i64 (2*a3))+1))))) z)) (IntKind.wrap .i64 (a2+(IntKind.wrap .i64 ((IntKind.wrap .i64 (2*a3))+1))))with|none=>none|some x16=>some (.inl ((An (An a0 (AE (IntKind.wrap .i64 (a2+a3))) (AL a0 (AE (IntKind.wrap .i64 (a2+(IntKind.wrap .i64 ((IntKind.wrap .i64 (2*a3))+1))))) z)) (AE (IntKind.wrap .i64 (a2+(IntKind.wrap .i64 ((IntKind.wrap .i64 (2*a3))+1))))) (AL a0 (AE (IntKind.wrap .i64 (a2+a3))) z)),a1,a2,(IntKind.wrap .i64 ((IntKind.wrap .i64 (2*a3))+1)),()))
 |false=>match idx a0 (IntKind.wrap .i64 (a2+a3))with|none=>none|some x17=>match idx a0 (IntKind.wrap .i64 (a2+(IntKind.wrap .i64 ((IntKind.wrap .i64 (2*a3))+1))))with|none=>none|some x18=>match c ((AL a0 (AE (IntKind.wrap .i64 (a2+a3))) z),(AL a0 (AE (IntKind.wrap .i64 (a2+(IntKind.wrap .i64 ((IntKind.wrap .i64 (2*a3))+1))))) z),())with|none=>none|some (y19,_)=>match(!(ilt y19 0))with
 |true=>some (.inr (.inr (.inl (a0,()))))
 |false=>match idx a0 (IntKind.wrap .i64 (a2+(IntKind.wrap .i64 ((IntKind.wrap .i64 (2*a3))+1))))with|none=>none|some x20=>match idx a0 (IntKind.wrap .i64 (a2+a3))with|none=>none|some x21=>match idx a0 (IntKind.wrap .i64 (a2+a3))with|none=>none|some x22=>match idx (An a0 (AE (IntKind.wrap .i64 (a2+a3))) (AL a0 (AE (IntKind.wrap .i64 (a2+(IntKind.wrap .i64 ((IntKind.wrap .i64 (2*a3))+1))))) z)) (IntKind.wrap .i64 (a2+(IntKind.wrap .i64 ((IntKind.wrap .i64 (2*a3))+1))))with|none=>none|some x23=>some (.inl ((An (An a0 (AE (IntKind.wrap .i64 (a2+a3))) (AL a0 (AE (IntKind.wrap .i64 (a2+(IntKind.wrap .i64 ((IntKind.wrap .i64 (2*a3))+1))))) z)) (AE (IntKind.wrap .i64 (a2+(IntKind.wrap .i64 ((IntKind.wrap .i64 (2*a3))+1))))) (AL a0 (AE (IntKind.wrap .i64 (a2+a3))) z)),a1,a2,(IntKind.wrap .i64 ((IntKind.wrap .i64 (2*a3))+1)),()))
def W2[Lk]{α:Type}(z:α)(c:α×α×Unit→Option U9):(List α×Int×Int×Int×Unit)→Option ((List α×Unit)):=fun(a0,a1,a2,a3,_)=>
 match AR (LX z c) many (a0,a2,a3,a1,())with|none=>none|some r=>match r with
 |.inl (o0,_)=>some (o0,())
 |.inr r=>match r with
 |.inl (o1,_)=>some (o1,())
 |.inr _=>none
def AJ6[Lk]{α:Type}(z:α)(c:α×α×Unit→Option U9)(v:(List α×Int×Int×Int×Unit)):Option ((List α×Unit)):=Lk.f ((W2 z c) v)
theorem AYG{α:Type}(z:α)(c:α×α×Unit→Option U9)(v:(List α×Int×Int×Int×Unit)):(AJ6 z c) v=(W2 z c) v:=AJ _
def MK[Lk]{α:Type}(z:α)(c:α×α×Unit→Option U9):(List α×Int×Int×Int×Unit)→Option ((List α×Int×Int×Int×Unit)⊕(List α×Unit)⊕Unit):=fun(a0,a1,a2,a3,_)=>
 match(ile 0 a3)with
 |true=>match idx a0 (IntKind.wrap .i64 (a1+a3))with|none=>none|some x0=>match idx a0 a1 with|none=>none|some x1=>match idx a0 a1 with|none=>none|some x2=>match idx (An a0 (AE a1) (AL a0 (AE (IntKind.wrap .i64 (a1+a3))) z)) (IntKind.wrap .i64 (a1+a3))with|none=>none|some x3=>match(AJ6 z c) ((An (An a0 (AE a1) (AL a0 (AE (IntKind.wrap .i64 (a1+a3))) z)) (AE (IntKind.wrap .i64 (a1+a3))) (AL a0 (AE a1) z)),a2,a3,a1,())with|none=>none|some (y4,_)=>some (.inl (y4,a1,a2,(IntKind.wrap .i64 (a3-1)),()))
 |false=>some (.inr (.inl (a0,())))
def ML[Lk]{α:Type}(z:α)(c:α×α×Unit→Option U9):(List α×Int×Int×Int×Int×Unit)→Option ((List α×Int×Int×Int×Int×Unit)⊕(List α×Int×Int×Int×Unit)⊕Unit):=fun(a0,a1,a2,a3,a4,_)=>
 match(ile 0 a4)with
 |true=>match(AJ6 z c) (a0,a4,a3,a1,())with|none=>none|some (y0,_)=>some (.inl (y0,a1,a2,a3,(IntKind.wrap .i64 (a4-1)),()))
 |false=>some (.inr (.inl (a0,a1,a2,a3,())))
def XL[Lk]{α:Type}(z:α)(c:α×α×Unit→Option U9):(List α×Int×Int×Unit)→Option ((List α×Unit)):=fun(a0,a1,a2,_)=>
 match quo? .i64 (IntKind.wrap .i64 ((IntKind.wrap .i64 (a2-a1))-1)) 2 with|none=>none|some x0=>match AR (ML z c) many (a0,a1,0,(IntKind.wrap .i64 (a2-a1)),x0,())with|none=>none|some r=>match r with
 |.inl (o1,o2,o3,o4,_)=>match AR (MK z c) many (o1,o2,o3,(IntKind.wrap .i64 (o4-1)),())with|none=>none|some r=>match r with
  |.inl (o5,_)=>some (o5,())
  |.inr _=>none
 |.inr _=>none
def ATa[Lk]{α:Type}(z:α)(c:α×α×Unit→Option U9)(v:(List α×Int×Int×Unit)):Option ((List α×Unit)):=Lk.f ((XL z c) v)
theorem AaR{α:Type}(z:α)(c:α×α×Unit→Option U9)(v:(List α×Int×Int×Unit)):(ATa z c) v=(XL z c) v:=AJ _
def HS[Lk]{α:Type}(z:α)(c:α×α×Unit→Option U9):(List α×Int×Int×Int×Int×Int×Unit)→Option ((List α×Int×Int×Int×Int×Int×Unit)⊕(List α×Unit)⊕Unit):=fun(a0,a1,a2,a3,a4,a5,_)=>
 match quo? .i64 a2 4 with|none=>none|some x0=>match(ile a5 (IntKind.wrap .i64 ((IntKind.wrap .i64 (a1+(IntKind.wrap .i64 (x0*2))))+1)))with
 |true=>match xorNext (a3,())with|none=>none|some (y1,y2,_)=>match(ile a2 (IntKind.wrap .i64 (IntKind.wrap .u64 ((BitVec.ofInt (IntKind.bits .u64) y2 &&& BitVec.ofInt (IntKind.bits .u64) (IntKind.wrap .u64 (a4-1))).toNat))))with
  |true=>match idx a0 (IntKind.wrap .i64 (a1+(IntKind.wrap .i64 ((IntKind.wrap .i64 (IntKind.wrap .u64 ((BitVec.ofInt (IntKind.bits .u64) y2 &&& BitVec.ofInt (IntKind.bits .u64) (IntKind.wrap .u64 (a4-1))).toNat)))-a2))))with|none=>none|some x3=>match idx a0 a5 with|none=>none|some x4=>match idx a0 a5 with|none=>none|some x5=>match idx (An a0 (AE a5) (AL a0 (AE (IntKind.wrap .i64 (a1+(IntKind.wrap .i64 ((IntKind.wrap .i64 (IntKind.wrap .u64 ((BitVec.ofInt (IntKind.bits .u64) y2 &&& BitVec.ofInt (IntKind.bits .u64) (IntKind.wrap .u64 (a4-1))).toNat)))-a2))))) z)) (IntKind.wrap .i64 (a1+(IntKind.wrap .i64 ((IntKind.wrap .i64 (IntKind.wrap .u64 ((BitVec.ofInt (IntKind.bits .u64) y2 &&& BitVec.ofInt (IntKind.bits .u64) (IntKind.wrap .u64 (a4-1))).toNat)))-a2))))with|none=>none|some x6=>some (.inl ((An (An a0 (AE a5) (AL a0 (AE (IntKind.wrap .i64 (a1+(IntKind.wrap .i64 ((IntKind.wrap .i64 (IntKind.wrap .u64 ((BitVec.ofInt (IntKind.bits .u64) y2 &&& BitVec.ofInt (IntKind.bits .u64) (IntKind.wrap .u64 (a4-1))).toNat)))-a2))))) z)) (AE (IntKind.wrap .i64 (a1+(IntKind.wrap .i64 ((IntKind.wrap .i64 (IntKind.wrap .u64 ((BitVec.ofInt (IntKind.bits .u64) y2 &&& BitVec.ofInt (IntKind.bits .u64) (IntKind.wrap .u64 (a4-1))).toNat)))-a2))))) (AL a0 (AE a5) z)),a1,a2,y1,a4,(IntKind.wrap .i64 (a5+1)),()))
  |false=>match idx a0 (IntKind.wrap .i64 (a1+(IntKind.wrap .i64 (IntKind.wrap .u64 ((BitVec.ofInt (IntKind.bits .u64) y2 &&& BitVec.ofInt (IntKind.bits .u64) (IntKind.wrap .u64 (a4-1))).toNat)))))with|none=>none|some x7=>match idx a0 a5 with|none=>none|some x8=>match idx a0 a5 with|none=>none|some x9=>match idx (An a0 (AE a5) (AL a0 (AE (IntKind.wrap .i64 (a1+(IntKind.wrap .i64 (IntKind.wrap .u64 ((BitVec.ofInt (IntKind.bits .u64) y2 &&& BitVec.ofInt (IntKind.bits .u64) (IntKind.wrap .u64 (a4-1))).toNat)))))) z)) (IntKind.wrap .i64 (a1+(IntKind.wrap .i64 (IntKind.wrap .u64 ((BitVec.ofInt (IntKind.bits .u64) y2 &&& BitVec.ofInt (IntKind.bits .u64) (IntKind.wrap .u64 (a4-1))).toNat)))))with|none=>none|some x10=>some (.inl ((An (An a0 (AE a5) (AL a0 (AE (IntKind.wrap .i64 (a1+(IntKind.wrap .i64 (IntKind.wrap .u64 ((BitVec.ofInt (IntKind.bits .u64) y2 &&& BitVec.ofInt (IntKind.bits .u64) (IntKind.wrap .u64 (a4-1))).toNat)))))) z)) (AE (IntKind.wrap .i64 (a1+(IntKind.wrap .i64 (IntKind.wrap .u64 ((BitVec.ofInt (IntKind.bits .u64) y2 &&& BitVec.ofInt (IntKind.bits .u64) (IntKind.wrap .u64 (a4-1))).toNat)))))) (AL a0 (AE a5) z)),a1,a2,y1,a4,(IntKind.wrap .i64 (a5+1)),()))
 |false=>some (.inr (.inl (a0,())))
def Q4[Lk]{α:Type}(z:α)(c:α×α×Unit→Option U9):(List α×Int×Int×Unit)→Option ((List α×Unit)):=fun(a0,a1,a2,_)=>
 match(ile 8 (IntKind.wrap .i64 (a2-a1)))with
 |true=>match NH ((IntKind.wrap .i64 (a2-a1)),())with|none=>none|some (y0,_)=>match quo? .i64 (IntKind.wrap .i64 (a2-a1)) 4 with|none=>none|some x1=>match AR (HS z c) many (a0,a1,(IntKind.wrap .i64 (a2-a1)),(IntKind.wrap .u64 (IntKind.wrap .i64 (a2-a1))),y0,(IntKind.wrap .i64 ((IntKind.wrap .i64 (a1+(IntKind.wrap .i64 (x1*2))))-1)),())with|none=>none|some r=>match r with
  |.inl (o2,_)=>some (o2,())
  |.inr _=>none
 |false=>some (a0,())
def AIj[Lk]{α:Type}(z:α)(c:α×α×Unit→Option U9)(v:(List α×Int×Int×Unit)):Option ((List α×Unit)):=Lk.f ((Q4 z c) v)
theorem AXI{α:Type}(z:α)(c:α×α×Unit→Option U9)(v:(List α×Int×Int×Unit)):(AIj z c) v=(Q4 z c) v:=AJ _
def NC[Lk]{α:Type}(z:α)(c:α×α×Unit→Option U9):(List α×Int×Int×Int×Unit)→Option ((List α×Int×Int×Int×Unit)):=fun(a0,a1,a2,a3,_)=>
 match idx a0 a2 with|none=>none|some x0=>match idx a0 a1 with|none=>none|some x1=>match c ((AL a0 (AE a2) z),(AL a0 (AE a1) z),())with|none=>none|some (y2,_)=>match(ilt y2 0)with
 |true=>some (a0,(IntKind.wrap .i64 (a3+1)),a2,a1,())
 |false=>some (a0,a3,a1,a2,())
def ND[Lk]{α:Type}(z:α)(c:α×α×Unit→Option U9)(v:(List α×Int×Int×Int×Unit)):Option ((List α×Int×Int×Int×Unit)):=Lk.f ((NC z c) v)
theorem AQB{α:Type}(z:α)(c:α×α×Unit→Option U9)(v:(List α×Int×Int×Int×Unit)):(ND z c) v=(NC z c) v:=AJ _
def NK[Lk]{α:Type}(z:α)(c:α×α×Unit→Option U9):(List α×Int×Int×Int×Int×Unit)→Option ((List α×Int×Int×Unit)):=fun(a0,a1,a2,a3,a4,_)=>
 match(ND z c) (a0,a1,a2,a4,())with|none=>none|some (y0,y1,y2,y3,_)=>match(ND z c) (y0,y3,a3,y1,())with|none=>none|some (y4,y5,y6,y7,_)=>match(ND z c) (y4,y2,y6,y5,())with|none=>none|some (y8,y9,y10,y11,_)=>some (y8,y9,y11,())
def NL[Lk]{α:Type}(z:α)(c:α×α×Unit→Option U9)(v:(List α×Int×Int×Int×Int×Unit)):Option ((List α×Int×Int×Unit)):=Lk.f ((NK z c) v)
theorem AQb{α:Type}(z:α)(c:α×α×Unit→Option U9)(v:(List α×Int×Int×Int×Int×Unit)):(NL z c) v=(NK z c) v:=AJ _
def NN[Lk]{α:Type}(z:α)(c:α×α×Unit→Option U9):(List α×Int×Int×Unit)→Option ((List α×Int×Int×Unit)):=fun(a0,a1,a2,_)=>
 match(NL z c) (a0,(IntKind.wrap .i64 (a1-1)),a1,(IntKind.wrap .i64 (a1+1)),a2,())with|none=>none|some (y0,y1,y2,_)=>some (y0,y1,y2,())
def NO[Lk]{α:Type}(z:α)(c:α×α×Unit→Option U9)(v:(List α×Int×Int×Unit)):Option ((List α×Int×Int×Unit)):=Lk.f ((NN z c) v)
theorem AQd{α:Type}(z:α)(c:α×α×Unit→Option U9)(v:(List α×Int×Int×Unit)):(NO z c) v=(NN z c) v:=AJ _
def Py[Lk]{α:Type}(z:α)(c:α×α×Unit→Option U9):(List α×Int×Int×Unit)→Option ((List α×Int×Int×Unit)):=fun(a0,a1,a2,_)=>
 match quo? .i64 (IntKind.wrap .i64 (a2-a1)) 4 with|none=>none|some x0=>match quo? .i64 (IntKind.wrap .i64 (a2-a1)) 4 with|none=>none|some x1=>match quo? .i64 (IntKind.wrap .i64 (a2-a1)) 4 with|none=>none|some x2=>match(ile 8 (IntKind.wrap .i64 (a2-a1)))with
 |true=>match(ile 50 (IntKind.wrap .i64 (a2-a1)))with
  |true=>match(NO z c) (a0,(IntKind.wrap .i64 (a1+(IntKind.wrap .i64 (x0*1)))),0,())with|none=>none|some (y3,y4,y5,_)=>match(NO z c) (y3,(IntKind.wrap .i64 (a1+(IntKind.wrap .i64 (x1*2)))),y4,())with|none=>none|some (y6,y7,y8,_)=>match(NO z c) (y6,(IntKind.wrap .i64 (a1+(IntKind.wrap .i64 (x2*3)))),y7,())with|none=>none|some (y9,y10,y11,_)=>match(NL z c) (y9,y5,y8,y11,y10,())with|none=>none|some (y12,y13,y14,_)=>match(ieq y13 0)with
   |true=>some (y12,y14,1,())
   |false=>match(ieq y13 12)with
   |true=>some (y12,y14,2,())
   |false=>some (y12,y14,0,())
  |false=>match(NL z c) (a0,(IntKind.wrap .i64 (a1+(IntKind.wrap .i64 (x0*1)))),(IntKind.wrap .i64 (a1+(IntKind.wrap .i64 (x1*2)))),(IntKind.wrap .i64 (a1+(IntKind.wrap .i64 (x2*3)))),0,())with|none=>none|some (y15,y16,y17,_)=>match(ieq y16 0)with
  |true=>some (y15,y17,1,())
  |false=>match(ieq y16 12)with
  |true=>some (y15,y17,2,())
  |false=>some (y15,y17,0,())
 |false=>match(ieq 0 0)with
 |true=>some (a0,(IntKind.wrap .i64 (a1+(IntKind.wrap .i64 (x1*2)))),1,())
 |false=>match(ieq 0 12)with
 |true=>some (a0,(IntKind.wrap .i64 (a1+(IntKind.wrap .i64 (x1*2)))),2,())
 |false=>some (a0,(IntKind.wrap .i64 (a1+(IntKind.wrap .i64 (x1*2)))),0,())
def AGP[Lk]{α:Type}(z:α)(c:α×α×Unit→Option U9)(v:(List α×Int×Int×Unit)):Option ((List α×Int×Int×Unit)):=Lk.f ((Py z c) v)
theorem AU3{α:Type}(z:α)(c:α×α×Unit→Option U9)(v:(List α×Int×Int×Unit)):(AGP z c) v=(Py z c) v:=AJ _
def W6[Lk]{α:Type}(z:α)(c:α×α×Unit→Option U9):(List α×Int×Int×Unit)→Option ((List α×Int×Int×Unit)⊕(List α×Unit)⊕Unit):=fun(a0,a1,a2,_)=>
 match(ilt a1 a2)with
 |true=>match idx a0 a2 with|none=>none|some x0=>match idx a0 a1 with|none=>none|some x1=>match idx a0 a1 with|none=>none|some x2=>match idx (An a0 (AE a1) (AL a0 (AE a2) z)) a2 with|none=>none|some x3=>some (.inl ((An (An a0 (AE a1) (AL a0 (AE a2) z)) (AE a2) (AL a0 (AE a1) z)),(IntKind.wrap .i64 (a1+1)),(IntKind.wrap .i64 (a2-1)),()))
 |false=>some (.inr (.inl (a0,())))
def AF7[Lk]{α:Type}(z:α)(c:α×α×Unit→Option U9):(List α×Int×Int×Unit)→Option ((List α×Unit)):=fun(a0,a1,a2,_)=>
 match AR (W6 z c) many (a0,a1,(IntKind.wrap .i64 (a2-1)),())with|none=>none|some r=>match r with
 |.inl (o0,_)=>some (o0,())
 |.inr _=>none
def Abt[Lk]{α:Type}(z:α)(c:α×α×Unit→Option U9)(v:(List α×Int×Int×Unit)):Option ((List α×Unit)):=Lk.f ((AF7 z c) v)
theorem Abs{α:Type}(z:α)(c:α×α×Unit→Option U9)(v:(List α×Int×Int×Unit)):(Abt z c) v=(AF7 z c) v:=AJ _
def Gb[Lk]{α:Type}(z:α)(c:α×α×Unit→Option U9):(List α×Int×Int×Int×Int×Int×Unit)→Option ((List α×Int×Int×Int×Int×Int×Unit)⊕(List α×Int×Int×Int×Int×Unit)⊕Unit):=fun(a0,a1,a2,a3,a4,a5,_)=>
 match(ilt a5 a2)with
 |true=>match idx a0 a5 with|none=>none|some x0=>match idx a0 (IntKind.wrap .i64 (a5-1))with|none=>none|some x1=>match c ((AL a0 (AE a5) z),(AL a0 (AE (IntKind.wrap .i64 (a5-1))) z),())with|none=>none|some (y2,_)=>match(!(ilt y2 0))with
  |true=>some (.inr (.inl (a0,a1,a2,a3,a4,())))
  |false=>match idx a0 (IntKind.wrap .i64 (a5-1))with|none=>none|some x3=>match idx a0 a5 with|none=>none|some x4=>match idx a0 a5 with|none=>none|some x5=>match idx (An a0 (AE a5) (AL a0 (AE (IntKind.wrap .i64 (a5-1))) z)) (IntKind.wrap .i64 (a5-1))with|none=>none|some x6=>some (.inl ((An (An a0 (AE a5) (AL a0 (AE (IntKind.wrap .i64 (a5-1))) z)) (AE (IntKind.wrap .i64 (a5-1))) (AL a0 (AE a5) z)),a1,a2,a3,a4,(IntKind.wrap .i64 (a5+1)),()))
 |false=>some (.inr (.inl (a0,a1,a2,a3,a4,())))
def Gc[Lk]{α:Type}(z:α)(c:α×α×Unit→Option U9):(List α×Int×Int×Int×Int×Int×Unit)→Option ((List α×Int×Int×Int×Int×Int×Unit)⊕(List α×Int×Int×Int×Int×Unit)⊕Unit):=fun(a0,a1,a2,a3,a4,a5,_)=>
 match(ile 1 a5)with
 |true=>match idx a0 a5 with|none=>none|some x0=>match idx a0 (IntKind.wrap .i64 (a5-1))with|none=>none|some x1=>match c ((AL a0 (AE a5) z),(AL a0 (AE (IntKind.wrap .i64 (a5-1))) z),())with|none=>none|some (y2,_)=>match(!(ilt y2 0))with
  |true=>some (.inr (.inl (a0,a1,a2,a3,a4,())))
  |false=>match idx a0 (IntKind.wrap .i64 (a5-1))with|none=>none|some x3=>match idx a0 a5 with|none=>none|some x4=>match idx a0 a5 with|none=>none|some x5=>match idx (An a0 (AE a5) (AL a0 (AE (IntKind.wrap .i64 (a5-1))) z)) (IntKind.wrap .i64 (a5-1))with|none=>none|some x6=>some (.inl ((An (An a0 (AE a5) (AL a0 (AE (IntKind.wrap .i64 (a5-1))) z)) (AE (IntKind.wrap .i64 (a5-1))) (AL a0 (AE a5) z)),a1,a2,a3,a4,(IntKind.wrap .i64 (a5-1)),()))
 |false=>some (.inr (.inl (a0,a1,a2,a3,a4,())))
def Ii[Lk]{α:Type}(z:α)(c:α×α×Unit→Option U9):(List α×Int×Int×Int×Int×Unit)→Option ((List α×Int×Int×Int×Int×Unit)⊕(List α×Int×Int×Int×Int×Unit)⊕Unit):=fun(a0,a1,a2,a3,a4,_)=>
 match(ilt a3 a2)with
 |true=>match idx a0 a3 with|none=>none|some x0=>match idx a0 (IntKind.wrap .i64 (a3-1))with|none=>none|some x1=>match c ((AL a0 (AE a3) z),(AL a0 (AE (IntKind.wrap .i64 (a3-1))) z),())with|none=>none|some (y2,_)=>match(!(ilt y2 0))with
  |true=>some (.inl (a0,a1,a2,(IntKind.wrap .i64 (a3+1)),a4,()))
  |false=>some (.inr (.inl (a0,a1,a2,a3,a4,())))
 |false=>some (.inr (.inl (a0,a1,a2,a3,a4,())))
def Cr[Lk]{α:Type}(z:α)(c:α×α×Unit→Option U9):(List α×Int×Int×Int×Int×Unit)→Option ((List α×Int×Int×Int×Int×Unit)⊕(List α×Bool×Unit)⊕(List α×Unit)⊕Unit):=fun(a0,a1,a2,a3,a4,_)=>
 match(ilt a4 5)with
 |true=>match AR (Ii z c) many (a0,a1,a2,a3,a4,())with|none=>none|some r=>match r with
  |.inl (o0,o1,o2,o3,o4,_)=>match(ieq o3 o2)with
   |true=>some (.inr (.inl (o0,true,())))
   |false=>match(ilt (IntKind.wrap .i64 (o2-o1)) 50)with
   |true=>some (.inr (.inl (o0,false,())))
   |false=>match idx o0 (IntKind.wrap .i64 (o3-1))with|none=>none|some x5=>match idx o0 o3 with|none=>none|some x6=>match idx o0 o3 with|none=>none|some x7=>match idx (An o0 (AE o3) (AL o0 (AE (IntKind.wrap .i64 (o3-1))) z)) (IntKind.wrap .i64 (o3-1))with|none=>none|some x8=>match(ile 2 (IntKind.wrap .i64 (o3-o1)))with
   |true=>match AR (Gc z c) many ((An (An o0 (AE o3) (AL o0 (AE (IntKind.wrap .i64 (o3-1))) z)) (AE (IntKind.wrap .i64 (o3-1))) (AL o0 (AE o3) z)),o1,o2,o3,o4,(IntKind.wrap .i64 (o3-1)),())with|none=>none|some r=>match r with
    |.inl (o9,o10,o11,o12,o13,_)=>match(ile 2 (IntKind.wrap .i64 (o11-o12)))with
     |true=>match AR (Gb z c) many (o9,o10,o11,o12,o13,(IntKind.wrap .i64 (o12+1)),())with|none=>none|some r=>match r with
      |.inl (o14,o15,o16,o17,o18,_)=>some (.inl (o14,o15,o16,o17,(IntKind.wrap .i64 (o18+1)),()))
      |.inr _=>none
     |false=>some (.inl (o9,o10,o11,o12,(IntKind.wrap .i64 (o13+1)),()))
    |.inr _=>none
   |false=>match(ile 2 (IntKind.wrap .i64 (o2-o3)))with
   |true=>match AR (Gb z c) many ((An (An o0 (AE o3) (AL o0 (AE (IntKind.wrap .i64 (o3-1))) z)) (AE (IntKind.wrap .i64 (o3-1))) (AL o0 (AE o3) z)),o1,o2,o3,o4,(IntKind.wrap .i64 (o3+1)),())with|none=>none|some r=>match r with
    |.inl (o19,o20,o21,o22,o23,_)=>some (.inl (o19,o20,o21,o22,(IntKind.wrap .i64 (o23+1)),()))
    |.inr _=>none
   |false=>some (.inl ((An (An o0 (AE o3) (AL o0 (AE (IntKind.wrap .i64 (o3-1))) z)) (AE (IntKind.wrap .i64 (o3-1))) (AL o0 (AE o3) z)),o1,o2,o3,(IntKind.wrap .i64 (o4+1)),()))
  |.inr _=>none
 |false=>some (.inr (.inr (.inl (a0,()))))
def KC[Lk]{α:Type}(z:α)(c:α×α×Unit→Option U9):(List α×Int×Int×Unit)→Option ((List α×Bool×Unit)):=fun(a0,a1,a2,_)=>
 match AR (Cr z c) many (a0,a1,a2,(IntKind.wrap .i64 (a1+1)),0,())with|none=>none|some r=>match r with
 |.inl (o0,o1,_)=>some (o0,o1,())
 |.inr r=>match r with
 |.inl (o2,_)=>some (o2,false,())
 |.inr _=>none
def P6[Lk]{α:Type}(z:α)(c:α×α×Unit→Option U9)(v:(List α×Int×Int×Unit)):Option ((List α×Bool×Unit)):=Lk.f ((KC z c) v)
theorem ALQ{α:Type}(z:α)(c:α×α×Unit→Option U9)(v:(List α×Int×Int×Unit)):(P6 z c) v=(KC z c) v:=AJ _
def KD[Lk]{α:Type}(z:α)(c:α×α×Unit→Option U9):(List α×Int×Int×Int×Unit)→Option ((List α×Int×Int×Int×Unit)⊕(List α×Int×Int×Int×Unit)⊕Unit):=fun(a0,a1,a2,a3,_)=>
 match(ile a2 a3)with
 |true=>match idx a0 a1 with|none=>none|some x0=>match idx a0 a3 with|none=>none|some x1=>match c ((AL a0 (AE a1) z),(AL a0 (AE a3) z),())with|none=>none|some (y2,_)=>match(ilt y2 0)with
  |true=>some (.inl (a0,a1,a2,(IntKind.wrap .i64 (a3-1)),()))
  |false=>some (.inr (.inl (a0,a1,a2,a3,())))
 |false=>some (.inr (.inl (a0,a1,a2,a3,())))
def KE[Lk]{α:Type}(z:α)(c:α×α×Unit→Option U9):(List α×Int×Int×Int×Unit)→Option ((List α×Int×Int×Int×Unit)⊕(List α×Int×Int×Int×Unit)⊕Unit):=fun(a0,a1,a2,a3,_)=>
 match(ile a2 a3)with
 |true=>match idx a0 a1 with|none=>none|some x0=>match idx a0 a2 with|none=>none|some x1=>match c ((AL a0 (AE a1) z),(AL a0 (AE a2) z),())with|none=>none|some (y2,_)=>match(!(ilt y2 0))with
  |true=>some (.inl (a0,a1,(IntKind.wrap .i64 (a2+1)),a3,()))
  |false=>some (.inr (.inl (a0,a1,a2,a3,())))
 |false=>some (.inr (.inl (a0,a1,a2,a3,())))
def KF[Lk]{α:Type}(z:α)(c:α×α×Unit→Option U9):(List α×Int×Int×Int×Unit)→Option ((List α×Int×Int×Int×Unit)⊕(List α×Int×Unit)⊕Unit):=fun(a0,a1,a2,a3,_)=>
 match AR (KE z c) many (a0,a1,a2,a3,())with|none=>none|some r=>match r with
 |.inl (o0,o1,o2,o3,_)=>match AR (KD z c) many (o0,o1,o2,o3,())with|none=>none|some r=>match r with
  |.inl (o4,o5,o6,o7,_)=>match(ilt o7 o6)with
   |true=>some (.inr (.inl (o4,o6,())))
   |false=>match idx o4 o7 with|none=>none|some x8=>match idx o4 o6 with|none=>none|some x9=>match idx o4 o6 with|none=>none|some x10=>match idx (An o4 (AE o6) (AL o4 (AE o7) z)) o7 with|none=>none|some x11=>some (.inl ((An (An o4 (AE o6) (AL o4 (AE o7) z)) (AE o7) (AL o4 (AE o6) z)),o5,(IntKind.wrap .i64 (o6+1)),(IntKind.wrap .i64 (o7-1)),()))
  |.inr _=>none
 |.inr _=>none
def NA[Lk]{α:Type}(z:α)(c:α×α×Unit→Option U9):(List α×Int×Int×Int×Unit)→Option ((List α×Int×Unit)):=fun(a0,a1,a2,a3,_)=>
 match idx a0 a3 with|none=>none|some x0=>match idx a0 a1 with|none=>none|some x1=>match idx a0 a1 with|none=>none|some x2=>match idx (An a0 (AE a1) (AL a0 (AE a3) z)) a3 with|none=>none|some x3=>match AR (KF z c) many ((An (An a0 (AE a1) (AL a0 (AE a3) z)) (AE a3) (AL a0 (AE a1) z)),a1,(IntKind.wrap .i64 (a1+1)),(IntKind.wrap .i64 (a2-1)),())with|none=>none|some r=>match r with
 |.inl (o4,o5,_)=>some (o4,o5,())
 |.inr _=>none
def XC[Lk]{α:Type}(z:α)(c:α×α×Unit→Option U9)(v:(List α×Int×Int×Int×Unit)):Option ((List α×Int×Unit)):=Lk.f ((NA z c) v)
theorem AP9{α:Type}(z:α)(c:α×α×Unit→Option U9)(v:(List α×Int×Int×Int×Unit)):(XC z c) v=(NA z c) v:=AJ _
def P8[Lk]{α:Type}(z:α)(c:α×α×Unit→Option U9):(List α×Int×Int×Int×Unit)→Option ((List α×Int×Int×Int×Unit)⊕(List α×Int×Int×Int×Unit)⊕Unit):=fun(a0,a1,a2,a3,_)=>
 match(ile a2 a3)with
 |true=>match idx a0 a3 with|none=>none|some x0=>match idx a0 a1 with|none=>none|some x1=>match c ((AL a0 (AE a3) z),(AL a0 (AE a1) z),())with|none=>none|some (y2,_)=>match(!(ilt y2 0))with
  |true=>some (.inl (a0,a1,a2,(IntKind.wrap .i64 (a3-1)),()))
  |false=>some (.inr (.inl (a0,a1,a2,a3,())))
 |false=>some (.inr (.inl (a0,a1,a2,a3,())))
def P9[Lk]{α:Type}(z:α)(c:α×α×Unit→Option U9):(List α×Int×Int×Int×Unit)→Option ((List α×Int×Int×Int×Unit)⊕(List α×Int×Int×Int×Unit)⊕Unit):=fun(a0,a1,a2,a3,_)=>
 match(ile a2 a3)with
 |true=>match idx a0 a2 with|none=>none|some x0=>match idx a0 a1 with|none=>none|some x1=>match c ((AL a0 (AE a2) z),(AL a0 (AE a1) z),())with|none=>none|some (y2,_)=>match(ilt y2 0)with
  |true=>some (.inl (a0,a1,(IntKind.wrap .i64 (a2+1)),a3,()))
  |false=>some (.inr (.inl (a0,a1,a2,a3,())))
 |false=>some (.inr (.inl (a0,a1,a2,a3,())))
def QA[Lk]{α:Type}(z:α)(c:α×α×Unit→Option U9):(List α×Int×Int×Int×Unit)→Option ((List α×Int×Int×Int×Unit)⊕(List α×Int×Int×Unit)⊕Unit):=fun(a0,a1,a2,a3,_)=>
 match AR (P9 z c) many (a0,a1,a2,a3,())with|none=>none|some r=>match r with
 |.inl (o0,o1,o2,o3,_)=>match AR (P8 z c) many (o0,o1,o2,o3,())with|none=>none|some r=>match r with
  |.inl (o4,o5,o6,o7,_)=>match(ilt o7 o6)with
   |true=>some (.inr (.inl (o4,o5,o7,())))
   |false=>match idx o4 o7 with|none=>none|some x8=>match idx o4 o6 with|none=>none|some x9=>match idx o4 o6 with|none=>none|some x10=>match idx (An o4 (AE o6) (AL o4 (AE o7) z)) o7 with|none=>none|some x11=>some (.inl ((An (An o4 (AE o6) (AL o4 (AE o7) z)) (AE o7) (AL o4 (AE o6) z)),o5,(IntKind.wrap .i64 (o6+1)),(IntKind.wrap .i64 (o7-1)),()))
  |.inr _=>none
 |.inr _=>none
def QB[Lk]{α:Type}(z:α)(c:α×α×Unit→Option U9):(List α×Int×Int×Int×Unit)→Option ((List α×Int×Int×Int×Unit)⊕(List α×Int×Int×Int×Unit)⊕Unit):=fun(a0,a1,a2,a3,_)=>
 match(ile a2 a3)with
 |true=>match idx a0 a3 with|none=>none|some x0=>match idx a0 a1 with|none=>none|some x1=>match c ((AL a0 (AE a3) z),(AL a0 (AE a1) z),())with|none=>none|some (y2,_)=>match(!(ilt y2 0))with
  |true=>some (.inl (a0,a1,a2,(IntKind.wrap .i64 (a3-1)),()))
  |false=>some (.inr (.inl (a0,a1,a2,a3,())))
 |false=>some (.inr (.inl (a0,a1,a2,a3,())))
def QC[Lk]{α:Type}(z:α)(c:α×α×Unit→Option U9):(List α×Int×Int×Int×Unit)→Option ((List α×Int×Int×Int×Unit)⊕(List α×Int×Int×Int×Unit)⊕Unit):=fun(a0,a1,a2,a3,_)=>
 match(ile a2 a3)with
 |true=>match idx a0 a2 with|none=>none|some x0=>match idx a0 a1 with|none=>none|some x1=>match c ((AL a0 (AE a2) z),(AL a0 (AE a1) z),())with|none=>none|some (y2,_)=>match(ilt y2 0)with
  |true=>some (.inl (a0,a1,(IntKind.wrap .i64 (a2+1)),a3,()))
  |false=>some (.inr (.inl (a0,a1,a2,a3,())))
 |false=>some (.inr (.inl (a0,a1,a2,a3,())))
def XB[Lk]{α:Type}(z:α)(c:α×α×Unit→Option U9):(List α×Int×Int×Int×Unit)→Option ((List α×Int×Bool×Unit)):=fun(a0,a1,a2,a3,_)=>
 match idx a0 a3 with|none=>none|some x0=>match idx a0 a1 with|none=>none|some x1=>match idx a0 a1 with|none=>none|some x2=>match idx (An a0 (AE a1) (AL a0 (AE a3) z)) a3 with|none=>none|some x3=>match AR (QC z c) many ((An (An a0 (AE a1) (AL a0 (AE a3) z)) (AE a3) (AL a0 (AE a1) z)),a1,(IntKind.wrap .i64 (a1+1)),(IntKind.wrap .i64 (a2-1)),())with|none=>none|some r=>match r with
 |.inl (o4,o5,o6,o7,_)=>match AR (QB z c) many (o4,o5,o6,o7,())with|none=>none|some r=>match r with
  |.inl (o8,o9,o10,o11,_)=>match(ilt o11 o10)with
   |true=>match idx o8 o9 with|none=>none|some x12=>match idx o8 o11 with|none=>none|some x13=>match idx o8 o11 with|none=>none|some x14=>match idx (An o8 (AE o11) (AL o8 (AE o9) z)) o9 with|none=>none|some x15=>some ((An (An o8 (AE o11) (AL o8 (AE o9) z)) (AE o9) (AL o8 (AE o11) z)),o11,true,())
   |false=>match idx o8 o11 with|none=>none|some x16=>match idx o8 o10 with|none=>none|some x17=>match idx o8 o10 with|none=>none|some x18=>match idx (An o8 (AE o10) (AL o8 (AE o11) z)) o11 with|none=>none|some x19=>match AR (QA z c) many ((An (An o8 (AE o10) (AL o8 (AE o11) z)) (AE o11) (AL o8 (AE o10) z)),o9,(IntKind.wrap .i64 (o10+1)),(IntKind.wrap .i64 (o11-1)),())with|none=>none|some r=>match r with
   |.inl (o20,o21,o22,_)=>match idx o20 o21 with|none=>none|some x23=>match idx o20 o22 with|none=>none|some x24=>match idx o20 o22 with|none=>none|some x25=>match idx (An o20 (AE o22) (AL o20 (AE o21) z)) o21 with|none=>none|some x26=>some ((An (An o20 (AE o22) (AL o20 (AE o21) z)) (AE o21) (AL o20 (AE o22) z)),o22,false,())
   |.inr _=>none
  |.inr _=>none
 |.inr _=>none
def AD3[Lk]{α:Type}(z:α)(c:α×α×Unit→Option U9)(v:(List α×Int×Int×Int×Unit)):Option ((List α×Int×Bool×Unit)):=Lk.f ((XB z c) v)
theorem AZZ{α:Type}(z:α)(c:α×α×Unit→Option U9)(v:(List α×Int×Int×Int×Unit)):(AD3 z c) v=(XB z c) v:=AJ _
def SJ[Lk]{α:Type}(z:α)(c:α×α×Unit→Option U9)(self:(List α×Int×Int×Int×Unit)→Option ((List α×Unit)))(y7:List α)(a1 a2 p l:Int)(a4 a5:Bool):Option ((List α×Int×Int×Int×Bool×Bool×Unit)⊕(List α×Unit)⊕Unit):=
 match(ilt 0 a1)with
 |true=>match idx y7 (IntKind.wrap .i64 (a1-1))with|none=>none|some x9=>match idx y7 p with|none=>none|some x10=>match c ((AL y7 (AE (IntKind.wrap .i64 (a1-1))) z),(AL y7 (AE p) z),())with|none=>none|some (y11,_)=>match(!(ilt y11 0))with
  |true=>match(XC z c) (y7,a1,a2,p,())with|none=>none|some (y12,y13,_)=>some (.inl (y12,y13,a2,l,a4,a5,()))
  |false=>match(AD3 z c) (y7,a1,a2,p,())with|none=>none|some (y14,y15,y16,_)=>match quo? .i64 (IntKind.wrap .i64 (a2-a1)) 8 with|none=>none|some x17=>match(ilt (IntKind.wrap .i64 (y15-a1)) (IntKind.wrap .i64 (a2-y15)))with
  |true=>match self (y14,a1,y15,l,())with|none=>none|some (y18,_)=>some (.inl (y18,(IntKind.wrap .i64 (y15+1)),a2,l,(ile x17 (IntKind.wrap .i64 (y15-a1))),y16,()))
  |false=>match self (y14,(IntKind.wrap .i64 (y15+1)),a2,l,())with|none=>none|some (y19,_)=>some (.inl (y19,a1,y15,l,(ile x17 (IntKind.wrap .i64 (a2-y15))),y16,()))
 |false=>match(AD3 z c) (y7,a1,a2,p,())with|none=>none|some (y20,y21,y22,_)=>match quo? .i64 (IntKind.wrap .i64 (a2-a1)) 8 with|none=>none|some x23=>match(ilt (IntKind.wrap .i64 (y21-a1)) (IntKind.wrap .i64 (a2-y21)))with
 |true=>match self (y20,a1,y21,l,())with|none=>none|some (y24,_)=>some (.inl (y24,(IntKind.wrap .i64 (y21+1)),a2,l,(ile x23 (IntKind.wrap .i64 (y21-a1))),y22,()))
 |false=>match self (y20,(IntKind.wrap .i64 (y21+1)),a2,l,())with|none=>none|some (y25,_)=>some (.inl (y25,a1,y21,l,(ile x23 (IntKind.wrap .i64 (a2-y21))),y22,()))
def AGf[Lk]{α:Type}(z:α)(c:α×α×Unit→Option U9)(self:(List α×Int×Int×Int×Unit)→Option ((List α×Unit)))(y6:List α)(a1 a2 p h l:Int)(a4 a5:Bool):Option ((List α×Int×Int×Int×Bool×Bool×Unit)⊕(List α×Unit)⊕Unit):=
 match a4 with
 |true=>match a5 with
  |true=>match(ieq h 1)with
   |true=>match(P6 z c) (y6,a1,a2,())with|none=>none|some (y7,y8,_)=>match y8 with
    |true=>some (.inr (.inl (y7,())))
    |false=>(SJ z c) self y7 a1 a2 p l a4 a5
   |false=>(SJ z c) self y6 a1 a2 p l a4 a5
  |false=>(SJ z c) self y6 a1 a2 p l a4 a5
 |false=>(SJ z c) self y6 a1 a2 p l a4 a5
def AGe[Lk]{α:Type}(z:α)(c:α×α×Unit→Option U9)(self:(List α×Int×Int×Int×Unit)→Option ((List α×Unit)))(y2:List α)(a1 a2 l:Int)(a4 a5:Bool):Option ((List α×Int×Int×Int×Bool×Bool×Unit)⊕(List α×Unit)⊕Unit):=
 match(AGP z c) (y2,a1,a2,())with|none=>none|some (y3,y4,y5,_)=>match(ieq y5 2)with
 |true=>match(Abt z c) (y3,a1,a2,())with|none=>none|some (y6,_)=>(AGf z c) self y6 a1 a2 (IntKind.wrap .i64 ((IntKind.wrap .i64 (a2-1))-(IntKind.wrap .i64 (y4-a1)))) 1 l a4 a5
 |false=>(AGf z c) self y3 a1 a2 y4 y5 l a4 a5
def P5[Lk]{α:Type}(z:α)(c:α×α×Unit→Option U9)(self:(List α×Int×Int×Int×Unit)→Option ((List α×Unit))):(List α×Int×Int×Int×Bool×Bool×Unit)→Option ((List α×Int×Int×Int×Bool×Bool×Unit)⊕(List α×Unit)⊕Unit):=fun(a0,a1,a2,a3,a4,a5,_)=>
 match(ile (IntKind.wrap .i64 (a2-a1)) 12)with
 |true=>match(Acj z c) (a0,a1,a2,())with|none=>none|some (y0,_)=>some (.inr (.inl (y0,())))
 |false=>match(ieq a3 0)with
 |true=>match(ATa z c) (a0,a1,a2,())with|none=>none|some (y1,_)=>some (.inr (.inl (y1,())))
 |false=>match(!a4)with
 |true=>match(AIj z c) (a0,a1,a2,())with|none=>none|some (y2,_)=>(AGe z c) self y2 a1 a2 (IntKind.wrap .i64 (a3-1)) a4 a5
 |false=>(AGe z c) self a0 a1 a2 a3 a4 a5
def AGg[Lk]{α:Type}(z:α)(c:α×α×Unit→Option U9)(self:(List α×Int×Int×Int×Unit)→Option ((List α×Unit))):(List α×Int×Int×Int×Unit)→Option ((List α×Unit)):=fun(a0,a1,a2,a3,_)=>
 match AR ((P5 z c) self) many (a0,a1,a2,a3,true,true,())with|none=>none|some r=>match r with
 |.inl (o0,_)=>some (o0,())
 |.inr _=>none
def Lp[Lk]{α:Type}(z:α)(c:α×α×Unit→Option U9):Nat→(List α×Int×Int×Int×Unit)→Option ((List α×Unit))
 |0,_=>none
 |n+1,v=>(AGg z c) ((Lp z c) n) v
def Ab8[Lk]{α:Type}(z:α)(c:α×α×Unit→Option U9)(v:(List α×Int×Int×Int×Unit)):Option ((List α×Unit)):=Lk.f ((Lp z c) 100 v)
theorem Ab7{α:Type}(z:α)(c:α×α×Unit→Option U9)(v:(List α×Int×Int×Int×Unit)):(Ab8 z c) v=(Lp z c) 100 v:=AJ _
def W0[Lk]{α:Type}(z:α)(c:α×α×Unit→Option U9):(List α×Unit)→Option ((List α×Unit)):=fun(a0,_)=>
 match bitsLen ((IntKind.wrap .u64 (AM a0)),())with|none=>none|some (y0,_)=>match(Ab8 z c) (a0,0,(AM a0),y0,())with|none=>none|some (y1,_)=>some (y1,())
def AX9[Lk]{α:Type}(z:α)(c:α×α×Unit→Option U9)(v:(List α×Unit)):Option ((List α×Unit)):=Lk.f ((W0 z c) v)
theorem AX8{α:Type}(z:α)(c:α×α×Unit→Option U9)(v:(List α×Unit)):(AX9 z c) v=(W0 z c) v:=AJ _
abbrev AQ9:AF:=[(.tmp 0,.own 55 U6),(.tmp 1,.di),(.tmp 2,.di),(.tmp 3,.clo 204 [])]
abbrev AQ8:AF:=[(.obj 0,.own 55 U6)]
abbrev AQ7:List RS:=[]
abbrev ATR:AF:=[(.obj 0,.own 55 U6),(.tmp 0,.own' 0),(.tmp 1,.di),(.tmp 2,.di),(.tmp 3,.clo 204 []),(.tmp 8,.di),(.tmp 9,.di)]
abbrev ATP:A2:=[(.exit 2,[(.obj 0,.own 55 U6),(.tmp 0,.own' 0),(.tmp 1,.di),(.tmp 2,.di),(.tmp 3,.clo 204 []),(.tmp 8,.di)])]
def ATN[Lk]:Uj→Option (Uj⊕U8⊕Unit):=QQ (([]:List (Int)):U4) BF
abbrev ATS:AF:=[(.obj 0,.own 55 U6),(.tmp 0,.own' 0),(.tmp 1,.di),(.tmp 2,.di),(.tmp 3,.clo 204 []),(.tmp 8,.di)]
abbrev ATQ:A2:=[(.exit 0,[(.obj 0,.own 55 U6)])]
def ATO[Lk]:U8→Option (U8⊕Uo⊕Unit):=QR (([]:List (Int)):U4) BF
def AZ6[Lk]:Uf→Option (Uo):=AHh (([]:List (Int)):U4) BF
def Ad8[Lk](v:Uf):Option (Uo):=Acj (([]:List (Int)):U4) BF v
theorem Aca v:Ad8 v=AZ6 v:=AJ _
abbrev AFl:AF:=[(.tmp 0,.own 55 U6),(.tmp 1,.di),(.tmp 2,.di),(.tmp 3,.di),(.tmp 4,.clo 204 [])]
abbrev AFk:AF:=[(.obj 0,.own 55 U6)]
abbrev AFj:List RS:=[]
abbrev AJ1:AF:=[(.obj 0,.own 55 U6),(.tmp 0,.own' 0),(.tmp 2,.di),(.tmp 3,.di),(.tmp 4,.clo 204 []),(.tmp 10,.di)]
abbrev AJ0:A2:=[(.exit 0,[(.obj 0,.own 55 U6)]),(.ret,[(.obj 0,.own 55 U6)])]
def AJz[Lk]:U8→Option (U8⊕Uo⊕Uo⊕Unit):=LX (([]:List (Int)):U4) BF
def ASn[Lk]:U8→Option (Uo):=W2 (([]:List (Int)):U4) BF
def AYD[Lk](v:U8):Option (Uo):=AJ6 (([]:List (Int)):U4) BF v
theorem AYC v:AYD v=ASn v:=AJ _
abbrev AHo:AF:=[(.tmp 0,.own 55 U6),(.tmp 1,.di),(.tmp 2,.di),(.tmp 3,.clo 204 [])]
abbrev AHn:AF:=[(.obj 0,.own 55 U6)]
abbrev AHm:List RS:=[]
abbrev AMa:AF:=[(.obj 0,.own 55 U6),(.tmp 0,.own' 0),(.tmp 3,.clo 204 []),(.tmp 8,.di),(.tmp 9,.di),(.tmp 12,.di)]
abbrev AMY:A2:=[(.exit 2,[(.obj 0,.own 55 U6)])]
def AMV[Lk]:U8→Option (U8⊕Uo⊕Unit):=MK (([]:List (Int)):U4) BF
abbrev AMb:AF:=[(.obj 0,.own 55 U6),(.tmp 0,.own' 0),(.tmp 3,.clo 204 []),(.tmp 8,.di),(.tmp 9,.di),(.tmp 10,.di),(.tmp 11,.di)]
abbrev AMZ:A2:=[(.exit 0,[(.obj 0,.own 55 U6),(.tmp 0,.own' 0),(.tmp 3,.clo 204 []),(.tmp 8,.di),(.tmp 9,.di),(.tmp 10,.di)])]
def AMX[Lk]:Uj→Option (Uj⊕U8⊕Unit):=ML (([]:List (Int)):U4) BF
def ATZ[Lk]:Uf→Option (Uo):=XL (([]:List (Int)):U4) BF
def AaM[Lk](v:Uf):Option (Uo):=ATa (([]:List (Int)):U4) BF v
theorem AaL v:AaM v=ATZ v:=AJ _
abbrev ABR:AF:=[(.tmp 0,.own 55 U6),(.tmp 1,.di),(.tmp 2,.di),(.tmp 3,.clo 204 [])]
abbrev ABQ:AF:=[(.obj 0,.own 55 U6)]
abbrev ABP:List RS:=[]
abbrev AEh:AF:=[(.obj 0,.own 55 U6),(.tmp 0,.own' 0),(.tmp 1,.di),(.tmp 8,.di),(.tmp 9,.box 1),(.cell 1 0,.dat (.int .u64)),(.tmp 10,.dat (.int .u64)),(.tmp 11,.di)]
abbrev AEg:A2:=[(.exit 0,[(.obj 0,.own 55 U6)])]
def AEf[Lk]:Uv→Option (Uv⊕Uo⊕Unit):=HS (([]:List (Int)):U4) BF
def ANb[Lk]:Uf→Option (Uo):=Q4 (([]:List (Int)):U4) BF
def ASD[Lk](v:Uf):Option (Uo):=AIj (([]:List (Int)):U4) BF v
theorem AXF v:ASD v=ANb v:=AJ _
abbrev SV:AF:=[(.tmp 0,.own 55 U6),(.tmp 1,.di),(.tmp 2,.di),(.tmp 3,.box 1),(.cell 1 0,.di),(.tmp 4,.clo 204 [])]
abbrev SU:AF:=[(.obj 0,.own 55 U6),(.obj 1,.box 1),(.cell 1 0,.di),(.tmp 0,.di),(.tmp 1,.di)]
abbrev SS:List RS:=[.one,.one]
def AD7[Lk]:U8→Option (U8):=NC (([]:List (Int)):U4) BF
def AGy[Lk](v:U8):Option (U8):=ND (([]:List (Int)):U4) BF v
theorem AQA v:AGy v=AD7 v:=AJ _
abbrev Sg:AF:=[(.tmp 0,.own 55 U6),(.tmp 1,.di),(.tmp 2,.di),(.tmp 3,.di),(.tmp 4,.box 1),(.cell 1 0,.di),(.tmp 5,.clo 204 [])]
abbrev Sf:AF:=[(.obj 0,.own 55 U6),(.obj 1,.box 1),(.cell 1 0,.di),(.tmp 0,.di)]
abbrev Se:List RS:=[.one]
def AD8[Lk]:Uj→Option (Uf):=NK (([]:List (Int)):U4) BF
def AHD[Lk](v:Uj):Option (Uf):=NL (([]:List (Int)):U4) BF v
theorem AQa v:AHD v=AD8 v:=AJ _
abbrev Sm:AF:=[(.tmp 0,.own 55 U6),(.tmp 1,.di),(.tmp 2,.box 1),(.cell 1 0,.di),(.tmp 3,.clo 204 [])]
abbrev Sl:AF:=[(.obj 0,.own 55 U6),(.obj 1,.box 1),(.cell 1 0,.di),(.tmp 0,.di)]
abbrev Sk:List RS:=[.one]
def AD9[Lk]:Uf→Option (Uf):=NN (([]:List (Int)):U4) BF
def AHG[Lk](v:Uf):Option (Uf):=NO (([]:List (Int)):U4) BF v
theorem AQc v:AHG v=AD9 v:=AJ _
abbrev Y3:AF:=[(.tmp 0,.own 55 U6),(.tmp 1,.di),(.tmp 2,.di),(.tmp 3,.clo 204 [])]
abbrev Y2:AF:=[(.obj 0,.own 55 U6),(.tmp 0,.di),(.tmp 1,.di)]
abbrev Y1:List RS:=[.one,.one]
def AKc[Lk]:Uf→Option (Uf):=Py (([]:List (Int)):U4) BF
def APW[Lk](v:Uf):Option (Uf):=AGP (([]:List (Int)):U4) BF v
theorem AU2 v:APW v=AKc v:=AJ _
abbrev AOz:AF:=[(.tmp 0,.own 55 U6),(.tmp 1,.di),(.tmp 2,.di),(.tmp 3,.clo 204 [])]
abbrev AOy:AF:=[(.obj 0,.own 55 U6)]
abbrev AOx:List RS:=[]
abbrev ASr:AF:=[(.obj 0,.own 55 U6),(.tmp 0,.own' 0),(.tmp 8,.di),(.tmp 9,.di)]
abbrev ASq:A2:=[(.exit 0,[(.obj 0,.own 55 U6)])]
def ASp[Lk]:Uf→Option (Uf⊕Uo⊕Unit):=W6 (([]:List (Int)):U4) BF
def AYS[Lk]:Uf→Option (Uo):=AF7 (([]:List (Int)):U4) BF
def Ade[Lk](v:Uf):Option (Uo):=Abt (([]:List (Int)):U4) BF v
theorem Abp v:Ade v=AYS v:=AJ _
abbrev OX:AF:=[(.tmp 0,.own 55 U6),(.tmp 1,.di),(.tmp 2,.di),(.tmp 3,.clo 204 [])]
abbrev OW:AF:=[(.obj 0,.own 55 U6),(.tmp 0,.dat .bool)]
abbrev OV:List RS:=[.one]
abbrev US:AF:=[(.obj 0,.own 55 U6),(.tmp 0,.own' 0),(.tmp 1,.di),(.tmp 2,.di),(.tmp 3,.clo 204 []),(.tmp 9,.di),(.tmp 10,.di),(.tmp 12,.di)]
abbrev UO:A2:=[(.exit 6,[(.obj 0,.own 55 U6),(.tmp 0,.own' 0),(.tmp 1,.di),(.tmp 2,.di),(.tmp 3,.clo 204 []),(.tmp 9,.di),(.tmp 10,.di)])]
def UK[Lk]:Uv→Option (Uv⊕Uj⊕Unit):=Gb (([]:List (Int)):U4) BF
abbrev UT:AF:=[(.obj 0,.own 55 U6),(.tmp 0,.own' 0),(.tmp 1,.di),(.tmp 2,.di),(.tmp 3,.clo 204 []),(.tmp 9,.di),(.tmp 10,.di),(.tmp 11,.di)]
abbrev UP:A2:=[(.exit 4,[(.obj 0,.own 55 U6),(.tmp 0,.own' 0),(.tmp 1,.di),(.tmp 2,.di),(.tmp 3,.clo 204 []),(.tmp 9,.di),(.tmp 10,.di)])]
def UL[Lk]:Uv→Option (Uv⊕Uj⊕Unit):=Gc (([]:List (Int)):U4) BF
abbrev UU:AF:=[(.obj 0,.own 55 U6),(.tmp 0,.own' 0),(.tmp 1,.di),(.tmp 2,.di),(.tmp 3,.clo 204 []),(.tmp 9,.di),(.tmp 10,.di)]
abbrev UQ:A2:=[(.exit 2,[(.obj 0,.own 55 U6),(.tmp 0,.own' 0),(.tmp 1,.di),(.tmp 2,.di),(.tmp 3,.clo 204 []),(.tmp 9,.di),(.tmp 10,.di)])]
def UM[Lk]:Uj→Option (Uj⊕Uj⊕Unit):=Ii (([]:List (Int)):U4) BF
abbrev UW:AF:=[(.obj 0,.own 55 U6),(.tmp 0,.own' 0),(.tmp 1,.di),(.tmp 2,.di),(.tmp 3,.clo 204 []),(.tmp 9,.di),(.tmp 10,.di)]
abbrev UR:A2:=[(.ret,[(.obj 0,.own 55 U6),(.tmp 8,.dat .bool)]),(.exit 0,[(.obj 0,.own 55 U6)])]
def UN[Lk]:Uj→Option (Uj⊕(List U4×Bool×Unit)⊕Uo⊕Unit):=Cr (([]:List (Int)):U4) BF
def ZQ[Lk]:Uf→Option ((List U4×Bool×Unit)):=KC (([]:List (Int)):U4) BF
def ZR[Lk](v:Uf):Option ((List U4×Bool×Unit)):=P6 (([]:List (Int)):U4) BF v
theorem ALH v:ZR v=ZQ v:=AJ _
abbrev SN:AF:=[(.tmp 0,.own 55 U6),(.tmp 1,.di),(.tmp 2,.di),(.tmp 3,.di),(.tmp 4,.clo 204 [])]
abbrev SM:AF:=[(.obj 0,.own 55 U6),(.tmp 0,.di)]
abbrev SK:List RS:=[.one]
abbrev Zc:AF:=[(.obj 0,.own 55 U6),(.tmp 0,.own' 0),(.tmp 1,.di),(.tmp 4,.clo 204 []),(.tmp 11,.di),(.tmp 12,.di)]
abbrev ZZ:A2:=[(.exit 4,[(.obj 0,.own 55 U6),(.tmp 0,.own' 0),(.tmp 1,.di),(.tmp 4,.clo 204 []),(.tmp 11,.di),(.tmp 12,.di)])]
def ZW[Lk]:U8→Option Vi:=KD (([]:List (Int)):U4) BF
abbrev Zd:AF:=[(.obj 0,.own 55 U6),(.tmp 0,.own' 0),(.tmp 1,.di),(.tmp 4,.clo 204 []),(.tmp 11,.di),(.tmp 12,.di)]
abbrev Za:A2:=[(.exit 2,[(.obj 0,.own 55 U6),(.tmp 0,.own' 0),(.tmp 1,.di),(.tmp 4,.clo 204 []),(.tmp 11,.di),(.tmp 12,.di)])]
def ZX[Lk]:U8→Option Vi:=KE (([]:List (Int)):U4) BF
abbrev Ze:AF:=[(.obj 0,.own 55 U6),(.tmp 0,.own' 0),(.tmp 1,.di),(.tmp 4,.clo 204 []),(.tmp 11,.di),(.tmp 12,.di)]
abbrev Zb:A2:=[(.exit 0,[(.obj 0,.own 55 U6),(.tmp 11,.di)])]
def ZY[Lk]:U8→Option (U8⊕Vc⊕Unit):=KF (([]:List (Int)):U4) BF
def AD4[Lk]:U8→Option (Vc):=NA (([]:List (Int)):U4) BF
def AGt[Lk](v:U8):Option (Vc):=XC (([]:List (Int)):U4) BF v
theorem AP2 v:AGt v=AD4 v:=AJ _
end
end Go.Pev
end
section
namespace Go.Pev
noncomputable section
attribute [local irreducible] MQ JH Nu K9 AWJ AWK AWL Pp WR WL YE JJ AP many IntKind.wrap AM An AL A5 Bm Dc Jo AE BV By imax AS Ag
abbrev AGk:AF:=[(.tmp 0,.own 55 U6),(.tmp 1,.di),(.tmp 2,.di),(.tmp 3,.di),(.tmp 4,.clo 204 [])]
abbrev AGj:AF:=[(.obj 0,.own 55 U6),(.tmp 0,.di),(.tmp 1,.dat .bool)]
abbrev AGi:List RS:=[.one,.one]
abbrev AK4:AF:=[(.obj 0,.own 55 U6),(.tmp 0,.own' 0),(.tmp 1,.di),(.tmp 4,.clo 204 []),(.tmp 12,.di),(.tmp 13,.di)]
abbrev AKz:A2:=[(.exit 8,[(.obj 0,.own 55 U6),(.tmp 0,.own' 0),(.tmp 1,.di),(.tmp 4,.clo 204 []),(.tmp 12,.di),(.tmp 13,.di)])]
def AKq[Lk]:U8→Option Vi:=P8 (([]:List (Int)):U4) BF
abbrev AK5:AF:=[(.obj 0,.own 55 U6),(.tmp 0,.own' 0),(.tmp 1,.di),(.tmp 4,.clo 204 []),(.tmp 12,.di),(.tmp 13,.di)]
abbrev AK0:A2:=[(.exit 6,[(.obj 0,.own 55 U6),(.tmp 0,.own' 0),(.tmp 1,.di),(.tmp 4,.clo 204 []),(.tmp 12,.di),(.tmp 13,.di)])]
def AKs[Lk]:U8→Option Vi:=P9 (([]:List (Int)):U4) BF
abbrev AK6:AF:=[(.obj 0,.own 55 U6),(.tmp 0,.own' 0),(.tmp 1,.di),(.tmp 4,.clo 204 []),(.tmp 12,.di),(.tmp 13,.di)]
abbrev AK1:A2:=[(.exit 4,[(.obj 0,.own 55 U6),(.tmp 0,.own' 0),(.tmp 1,.di),(.tmp 13,.di)])]
def AKu[Lk]:U8→Option (U8⊕Uf⊕Unit):=QA (([]:List (Int)):U4) BF
abbrev AK7:AF:=[(.obj 0,.own 55 U6),(.tmp 0,.own' 0),(.tmp 1,.di),(.tmp 4,.clo 204 []),(.tmp 12,.di),(.tmp 13,.di)]
abbrev AK2:A2:=[(.exit 2,[(.obj 0,.own 55 U6),(.tmp 0,.own' 0),(.tmp 1,.di),(.tmp 4,.clo 204 []),(.tmp 12,.di),(.tmp 13,.di)])]
def AKw[Lk]:U8→Option Vi:=QB (([]:List (Int)):U4) BF
abbrev AK8:AF:=[(.obj 0,.own 55 U6),(.tmp 0,.own' 0),(.tmp 1,.di),(.tmp 4,.clo 204 []),(.tmp 12,.di),(.tmp 13,.di)]
abbrev AK3:A2:=[(.exit 0,[(.obj 0,.own 55 U6),(.tmp 0,.own' 0),(.tmp 1,.di),(.tmp 4,.clo 204 []),(.tmp 12,.di),(.tmp 13,.di)])]
def AKy[Lk]:U8→Option Vi:=QC (([]:List (Int)):U4) BF
def AS6[Lk]:U8→Option ((List U4×Int×Bool×Unit)):=XB (([]:List (Int)):U4) BF
def AZO[Lk](v:U8):Option ((List U4×Int×Bool×Unit)):=AD3 (([]:List (Int)):U4) BF v
theorem AZN v:AZO v=AS6 v:=AJ _
abbrev ZG:AF:=[(.tmp 0,.own 55 U6),(.tmp 1,.di),(.tmp 2,.di),(.tmp 3,.di),(.tmp 4,.clo 204 [])]
abbrev ZF:AF:=[(.obj 0,.own 55 U6)]
abbrev ZE:List RS:=[]
abbrev AS1:AF:=[(.obj 0,.own 55 U6),(.tmp 0,.own' 0),(.tmp 1,.di),(.tmp 2,.di),(.tmp 3,.di),(.tmp 4,.clo 204 []),(.tmp 10,.dat .bool),(.tmp 11,.dat .bool)]
abbrev AS0:A2:=[(.ret,[(.obj 0,.own 55 U6)])]
def ASz[Lk](self:U8→Option (Uo)):(List U4×Int×Int×Int×Bool×Bool×Unit)→Option ((List U4×Int×Int×Int×Bool×Bool×Unit)⊕Uo⊕Unit):=P5 (([]:List (Int)):U4) BF self
def Adk[Lk](self:U8→Option (Uo)):U8→Option (Uo):=AGg (([]:List (Int)):U4) BF self
def ZH[Lk]:Nat→U8→Option (Uo):=Lp (([]:List (Int)):U4) BF
def Ab4[Lk](v:U8):Option (Uo):=Ab8 (([]:List (Int)):U4) BF v
theorem Ab3 v:Ab4 v=ZH 100 v:=AJ _
abbrev AFf:AF:=[(.tmp 0,.own 55 U6),(.tmp 1,.clo 204 [])]
abbrev AFe:AF:=[(.obj 0,.own 55 U6)]
abbrev AFd:List RS:=[]
def ASm[Lk]:Uo→Option (Uo):=W0 (([]:List (Int)):U4) BF
def AJu[Lk](v:Uo):Option (Uo):=AX9 (([]:List (Int)):U4) BF v
theorem AX7 v:AJu v=ASm v:=AJ _
abbrev AFA:AF:=[(.tmp 0,.dat Us),(.tmp 1,.dat U6),(.tmp 2,.dat Ul)]
abbrev AE9:AF:=[(.tmp 0,.di),(.tmp 1,.own 55 U6)]
abbrev AE8:List RS:=[.agg 2]
abbrev AJQ:AF:=[(.tmp 3,.box 2),(.cell 0 0,.di),(.cell 0 1,.dat Ul),(.tmp 6,.box 2),(.cell 1 0,.di),(.cell 1 1,.nil U6),(.tmp 7,.own 55 U6),(.tmp 29,.dat Ul),(.tmp 30,.di),(.tmp 31,.di)]
abbrev AJO:A2:=[(.exit 2,[(.tmp 3,.box 2),(.cell 0 0,.di),(.cell 0 1,.dat Ul),(.tmp 6,.box 2),(.cell 1 0,.di),(.cell 1 1,.nil U6),(.tmp 7,.own 55 U6)])]
def HX[Lk]:(Int×List U4×Int×List U4×List U4×Int×Int×Unit)→Option ((Int×List U4×Int×List U4×List U4×Int×Int×Unit)⊕(Int×List U4×Int×List U4×Unit)⊕Unit):=fun(a0,a1,a2,a3,a4,a5,a6,_)=>
 match(ilt a6 a5)with
 |true=>match idx a4 a6 with|none=>none|some x0=>match Yc (x0,())with|none=>none|some (y1,_)=>match(fits ((AM a3)+(AM ([y1]:List U4))))with
  |true=>some (.inl (a0,a1,a2,(A5 a3 ([y1]:List U4)),a4,a5,(IntKind.wrap .i64 (a6+1)),()))
  |false=>none
 |false=>some (.inr (.inl (a0,a1,a2,a3,())))
abbrev AJR:AF:=[(.tmp 1,.dat U6),(.tmp 2,.dat Ul),(.tmp 3,.box 2),(.cell 0 0,.di),(.cell 0 1,.dat Ul),(.tmp 6,.box 2),(.cell 1 0,.di),(.cell 1 1,.nil U6),(.tmp 7,.own 55 U6),(.tmp 13,.dat Ul),(.tmp 14,.di),(.tmp 15,.di)]
abbrev AJP:A2:=[(.exit 0,[(.tmp 2,.dat Ul),(.tmp 3,.box 2),(.cell 0 0,.di),(.cell 0 1,.dat Ul),(.tmp 6,.box 2),(.cell 1 0,.di),(.cell 1 1,.nil U6),(.tmp 7,.own 55 U6)])]
def HY[Lk]:Vk→Option (Vk⊕(List U4×Int×List U4×Int×List U4×Unit)⊕Unit):=fun(a0,a1,a2,a3,a4,a5,a6,a7,a8,_)=>
 match(ilt a8 a7)with
 |true=>match idx a6 a8 with|none=>none|some x0=>match Ev (a0,a8,())with|none=>none|some (y1,_)=>match(!y1)with
  |true=>match(fits ((AM a5)+(AM ([x0]:List U4))))with
   |true=>some (.inl (a0,a1,a2,a3,a4,(A5 a5 ([x0]:List U4)),a6,a7,(IntKind.wrap .i64 (a8+1)),()))
   |false=>none
  |false=>some (.inl (a0,a1,a2,a3,a4,a5,a6,a7,(IntKind.wrap .i64 (a8+1)),()))
 |false=>some (.inr (.inl (a1,a2,a3,a4,a5,())))
def Wv[Lk]:(Uk×List Int×List U4×Unit)→Option ((Int×List U4×Unit)):=fun(a0,a1,a2,_)=>
 match AR HY many (a1,a2,a0.1,a0.2.1,0,([]:List U4),a0.2.1,(AM a0.2.1),0,())with|none=>none|some r=>match r with
 |.inl (o0,o1,o2,o3,o4,_)=>match AR HX many (o1,o2,o3,o4,o0,(AM o0),0,())with|none=>none|some r=>match r with
  |.inl (o5,o6,o7,o8,_)=>match AJu (o8,())with|none=>none|some (y9,_)=>some (o5,y9,())
  |.inr _=>none
 |.inr _=>none
def AJT[Lk]:=fun v=>Lk.f (Wv v)
theorem AJS v:AJT v=Wv v:=AJ _
abbrev AFY:AF:=[(.tmp 0,.dat Us),(.tmp 1,.di),(.tmp 2,.di)]
abbrev AFX:AF:=[(.tmp 0,.di),(.tmp 1,.dat Ul),(.tmp 2,.di)]
abbrev AFW:List RS:=[.agg 2,.one]
def G5[Lk]:(Uk×Int×Int×Unit)→Option (V1):=fun(a0,a1,a2,_)=>
 match asked ((a0.1,(a0.2.1,())),a1,a2,())with|none=>none|some (y0,_)=>match(!(ieq y0 0))with
 |true=>some (a0.1,a0.2.1,y0,())
 |false=>match OK ((a0.1,(a0.2.1,())),a1,())with|none=>none|some (y1,_)=>match OK ((a0.1,(a0.2.1,())),a2,())with|none=>none|some (y2,_)=>match(ieq y1 y2)with
 |true=>some (a0.1,a0.2.1,5,())
 |false=>match idx a0.2.1 y1 with|none=>none|some x3=>match ADs (x3,a1,())with|none=>none|some (y4,y5,_)=>match idx a0.2.1 y2 with|none=>none|some x6=>match ADs (x6,a2,())with|none=>none|some (y7,y8,_)=>match B5 y4 0 1 with|none=>none|some x9=>match AUQ (a0.1,a1,a2,())with|none=>none|some (y10,_)=>match AUQ (a0.1,a2,a1,())with|none=>none|some (y11,_)=>match B5 y4 1 (AM y4)with|none=>none|some x12=>match Iz (([(Dc 0 (AE (AM x9)) y4),([y10]:List (Int)),y7,([y11]:List (Int)),(Dc 1 (AE (AM x12)) y4)]:List U4),())with|none=>none|some (y13,_)=>match AJT ((a0.1,(a0.2.1,())),([y1,y2]:List (Int)),([y13]:List U4),())with|none=>none|some (y14,y15,_)=>some (y14,y15,0,())
def LV[Lk]:=fun v=>Lk.f (G5 v)
theorem Hf v:LV v=G5 v:=AJ _
abbrev F6:AF:=[(.tmp 0,.dat U6),(.cap 1 0,.box 2),(.cell 0 0,.di),(.cell 0 1,.dat Ul),(.tmp 1,.clo 155 [(0,0)])]
abbrev F5:AF:=[(.obj 0,.box 2),(.cell 0 0,.di),(.cell 0 1,.dat Ul),(.tmp 0,.di)]
abbrev F4:List RS:=[.one]
abbrev Is:AF:=[(.obj 0,.box 2),(.cell 0 0,.di),(.cell 0 1,.dat Ul),(.tmp 0,.dat U6),(.tmp 1,.clo 155 [(0,0)]),(.tmp 7,.di),(.tmp 8,.di)]
abbrev Ir:A2:=[(.ret,[(.obj 0,.box 2),(.cell 0 0,.di),(.cell 0 1,.dat Ul),(.tmp 4,.di)]),(.exit 0,[(.obj 0,.box 2),(.cell 0 0,.di),(.cell 0 1,.dat Ul)])]
def Bi[Lk]:(Int×List U4×List Int×Int×Int×Unit)→Option ((Int×List U4×List Int×Int×Int×Unit)⊕V1⊕(Int×List U4×Unit)⊕Unit):=fun(a0,a1,a2,a3,a4,_)=>
 match(ilt a4 a3)with
 |true=>match idx a2 a4 with|none=>none|some x0=>match(ilt x0 0)with
  |true=>some (.inr (.inl (a0,a1,a4,())))
  |false=>match(ile a0 x0)with
  |true=>some (.inr (.inl (a0,a1,a4,())))
  |false=>some (.inl (a0,a1,a2,a3,(IntKind.wrap .i64 (a4+1)),()))
 |false=>some (.inr (.inr (.inl (a0,a1,()))))
def Dv[Lk]:V7→Option (V1):=fun(a0,a1,a2,_)=>
 match AR Bi many (a1,a2,a0,(AM a0),0,())with|none=>none|some r=>match r with
 |.inl (o0,o1,o2,_)=>some (o0,o1,o2,())
 |.inr r=>match r with
 |.inl (o3,o4,_)=>some (o3,o4,(-1:Int),())
 |.inr _=>none
def FE[Lk]:=fun v=>Lk.f (Dv v)
theorem It v:FE v=Dv v:=AJ _
abbrev FO:AF:=[(.tmp 0,.dat U6),(.cap 1 0,.box 2),(.cell 0 0,.di),(.cell 0 1,.dat Ul),(.tmp 1,.clo 155 [(0,0)])]
abbrev FN:AF:=[(.obj 0,.box 2),(.cell 0 0,.di),(.cell 0 1,.dat Ul),(.tmp 0,.dat .bool)]
abbrev FM:List RS:=[.one]
def DK[Lk]:V7→Option ((Int×List U4×Bool×Unit)):=fun(a0,a1,a2,_)=>
 match FE (a0,a1,a2,())with|none=>none|some (y0,y1,y2,_)=>some (y0,y1,(ile 0 y2),())
def C8[Lk]:=fun v=>Lk.f (DK v)
theorem IL v:C8 v=DK v:=AJ _
abbrev AAj:AF:=[(.tmp 0,.dat Us),(.tmp 1,.dat U6)]
abbrev AAi:AF:=[(.tmp 0,.di)]
abbrev AAh:List RS:=[.one]
def Qk[Lk]:(Uk×List Int×Unit)→Option (U9):=fun(a0,a1,_)=>
 match OJ ((a0.1,(a0.2.1,())),())with|none=>none|some (y0,_)=>match(!y0)with
 |true=>some (1,())
 |false=>match C8 (a1,a0.1,a0.2.1,())with|none=>none|some (y1,y2,y3,_)=>match y3 with
 |true=>some (10,())
 |false=>some (0,())
def KY[Lk]:=fun v=>Lk.f (Qk v)
theorem AEX v:KY v=Qk v:=AJ _
abbrev ARg:AF:=[(.tmp 0,.dat V0)]
abbrev ARf:AF:=[(.tmp 0,.own 3 U0)]
abbrev ARe:List RS:=[.one]
abbrev ATi:AF:=[(.tmp 3,.own 3 U0),(.tmp 6,.dat V0),(.tmp 7,.di),(.tmp 8,.di)]
abbrev ATh:A2:=[(.exit 0,[(.tmp 3,.own 3 U0)])]
def Kc[Lk]:(List Int×List U3×Int×Int×Unit)→Option ((List Int×List U3×Int×Int×Unit)⊕Ub⊕Unit):=fun(a0,a1,a2,a3,_)=>
 match(ilt a3 a2)with
 |true=>match idx a1 a3 with|none=>none|some x0=>match(fits ((AM a0)+(AM ([x0.1,x0.2.1]:List (Int)))))with
  |true=>some (.inl ((A5 a0 ([x0.1,x0.2.1]:List (Int))),a1,a2,(IntKind.wrap .i64 (a3+1)),()))
  |false=>none
 |false=>some (.inr (.inl (a0,())))
def AIE[Lk]:V2→Option (Ub):=fun(a0,_)=>
 match AR Kc many (([]:List (Int)),a0,(AM a0),0,())with|none=>none|some r=>match r with
 |.inl (o0,_)=>some (o0,())
 |.inr _=>none
def ends[Lk]:=fun v=>Lk.f (AIE v)
theorem ATj v:ends v=AIE v:=AJ _
abbrev O8:AF:=[(.tmp 0,.dat Us),(.tmp 1,.dat V0),(.tmp 2,.clo 161 [])]
abbrev O7:AF:=[(.tmp 0,.dat Us),(.tmp 1,.own 4 .bool),(.tmp 2,.di)]
abbrev O6:List RS:=[.one,.one,.one]
abbrev VW:AF:=[(.tmp 2,.clo 161 []),(.tmp 3,.box 2),(.cell 0 0,.di),(.cell 0 1,.dat Ul),(.tmp 6,.box 2),(.cell 1 0,.di),(.cell 1 1,.nil U6),(.tmp 10,.own 4 .bool),(.tmp 23,.dat V0),(.tmp 24,.di),(.tmp 25,.di)]
abbrev VV:A2:=[(.exit 0,[(.tmp 3,.box 2),(.cell 0 0,.di),(.cell 0 1,.dat Ul),(.tmp 6,.box 2),(.cell 1 0,.di),(.cell 1 1,.nil U6),(.tmp 10,.own 4 .bool)])]
def B1[Lk]:(Int×List U4×Int×List Bool×List U3×Int×Int×Unit)→Option ((Int×List U4×Int×List Bool×List U3×Int×Int×Unit)⊕(Int×List U4×Int×List Bool×Unit)⊕Unit):=fun(a0,a1,a2,a3,a4,a5,a6,_)=>
 match(ilt a6 a5)with
 |true=>match idx a4 a6 with|none=>none|some x0=>match LV ((a0,(a1,())),x0.1,x0.2.1,())with|none=>none|some (y1,y2,y3,_)=>match(fits ((AM a3)+(AM ([(ieq y3 0)]:List (Bool)))))with
  |true=>some (.inl (y1,y2,a2,(A5 a3 ([(ieq y3 0)]:List (Bool))),a4,a5,(IntKind.wrap .i64 (a6+1)),()))
  |false=>none
 |false=>some (.inr (.inl (a0,a1,a2,a3,())))
def IE[Lk]:(Uk×List U3×Unit)→Option ((Uk×List Bool×Int×Unit)):=fun(a0,a1,_)=>
 match ends (a1,())with|none=>none|some (y0,_)=>match KY ((a0.1,(a0.2.1,())),y0,())with|none=>none|some (y1,_)=>match(!(ieq y1 0))with
 |true=>some ((a0.1,(a0.2.1,())),([]:List (Bool)),y1,())
 |false=>match AR B1 many (a0.1,a0.2.1,0,([]:List (Bool)),a1,(AM a1),0,())with|none=>none|some r=>match r with
 |.inl (o2,o3,o4,o5,_)=>some ((o2,(o3,())),o5,0,())
 |.inr _=>none
def Qp[Lk]:=fun v=>Lk.f (IE v)
theorem MU v:Qp v=IE v:=AJ _
abbrev AAo:AF:=[(.tmp 0,.dat Us),(.tmp 1,.dat V0)]
abbrev AAn:AF:=[(.tmp 0,.dat Us),(.tmp 1,.own 4 .bool),(.tmp 2,.di)]
abbrev AAm:List RS:=[.one,.one,.one]
def MP[Lk]:(Uk×List U3×Unit)→Option ((Uk×List Bool×Int×Unit)):=fun(a0,a1,_)=>
 match Qp ((a0.1,(a0.2.1,())),a1,())with|none=>none|some (y0,y1,y2,_)=>some ((y0.1,(y0.2.1,())),y1,y2,())
def AH9[Lk]:=fun v=>Lk.f (MP v)
theorem TD v:AH9 v=MP v:=AJ _
abbrev Aaf:AF:=[(.tmp 0,.di),(.tmp 1,.dat V0)]
abbrev Aae:AF:=[(.tmp 0,.dat Us),(.tmp 1,.di)]
abbrev Aad:List RS:=[.one,.one]
def AMz[Lk]:(Int×List U3×Unit)→Option (Vb):=fun(a0,a1,_)=>
 match AJm (a0,())with|none=>none|some (y0,y1,y2,_)=>match(!(ieq y2 0))with
 |true=>some ((0,(([]:List U4),())),y2,())
 |false=>match AH9 ((y0,(y1,())),a1,())with|none=>none|some (y3,y4,y5,_)=>match(!(ieq y5 0))with
 |true=>some ((0,(([]:List U4),())),y5,())
 |false=>some ((y3.1,(y3.2.1,())),0,())
def fof[Lk]:=fun v=>Lk.f (AMz v)
theorem ARV v:fof v=AMz v:=AJ _
abbrev AZh:AF:=[(.tmp 0,.dat U6)]
abbrev AZf:AF:=[(.tmp 0,.di)]
abbrev AZd:List RS:=[.one]
abbrev AZg:AF:=[(.tmp 3,.di),(.tmp 6,.dat U6),(.tmp 7,.di),(.tmp 8,.di)]
abbrev AZe:A2:=[(.ret,[(.tmp 2,.di)]),(.exit 0,[(.tmp 3,.di)])]
def Oc[Lk]:(Int×List Int×Int×Int×Unit)→Option ((Int×List Int×Int×Int×Unit)⊕U9⊕U9⊕Unit):=fun(a0,a1,a2,a3,_)=>
 match(ilt a3 a2)with
 |true=>match idx a1 a3 with|none=>none|some x0=>match(!(ieq x0 a0))with
  |true=>some (.inr (.inl (x0,())))
  |false=>some (.inl (a0,a1,a2,(IntKind.wrap .i64 (a3+1)),()))
 |false=>some (.inr (.inr (.inl (a0,()))))
def AS7[Lk]:Ub→Option (U9):=fun(a0,_)=>
 match AR Oc many (0,a0,(AM a0),0,())with|none=>none|some r=>match r with
 |.inl (o0,_)=>some (o0,())
 |.inr r=>match r with
 |.inl (o1,_)=>some (o1,())
 |.inr _=>none
def orI[Lk]:=fun v=>Lk.f (AS7 v)
theorem AZj v:orI v=AS7 v:=AJ _
abbrev Z6:AF:=[(.tmp 0,.di)]
abbrev Z5:AF:=[(.tmp 0,.dat .bool)]
abbrev Z4:List RS:=[.one]
def MD[Lk]:U9→Option (Uh):=fun(a0,_)=>
 match(ile 1 a0)with
 |true=>some ((ile a0 64),())
 |false=>some (false,())
def Ss[Lk]:=fun v=>Lk.f (MD v)
theorem Sr v:Ss v=MD v:=AJ _
abbrev AQj:AF:=[(.tmp 0,.di)]
abbrev AQi:AF:=[(.tmp 0,.di)]
abbrev AQh:List RS:=[.one]
def AQk[Lk]:U9→Option (U9):=fun(a0,_)=>
 match Ss (a0,())with|none=>none|some (y0,_)=>match(!y0)with
 |true=>some (0,())
 |false=>match bitsLen ((IntKind.wrap .u64 (IntKind.wrap .i64 (a0-1))),())with|none=>none|some (y1,_)=>some (y1,())
def ACt[Lk]:=fun v=>Lk.f (AQk v)
theorem AcN v:ACt v=AQk v:=AJ _
abbrev Om:AF:=[(.tmp 0,.dat U2),(.tmp 1,.dat U2)]
abbrev Ol:AF:=[(.tmp 0,.di)]
abbrev Oj:List RS:=[.one]
def Hy[Lk]:(U1×U1×Unit)→Option (U9):=fun(a0,a1,_)=>
 match FP (a0.1,a1.1,())with|none=>none|some (y0,_)=>match FP (a0.2.1,a1.2.1,())with|none=>none|some (y1,_)=>match orI (([y0,y1]:List (Int)),())with|none=>none|some (y2,_)=>some (y2,())
def DX[Lk]:=fun v=>Lk.f (Hy v)
theorem ME v:DX v=Hy v:=AJ _
abbrev Z1:AF:=[(.tmp 0,.dat Uc),(.tmp 1,.di)]
abbrev Z0:AF:=[(.tmp 0,.own 42 U5)]
abbrev Zz:List RS:=[.one]
abbrev AEB:AF:=[(.tmp 1,.di),(.tmp 5,.own 42 U5),(.tmp 9,.dat Uq),(.tmp 10,.di),(.tmp 11,.di)]
abbrev AEA:A2:=[(.exit 0,[(.tmp 5,.own 42 U5)])]
def Cl[Lk]:(Int×List U3×List U1×Int×Int×Unit)→Option ((Int×List U3×List U1×Int×Int×Unit)⊕V2⊕Unit):=fun(a0,a1,a2,a3,a4,_)=>
 match(ilt a4 a3)with
 |true=>match idx a2 a4 with|none=>none|some x0=>match x0.2.2.2.1 with
  |true=>match(ile a0 x0.2.2.1)with
   |true=>match(fits ((AM a1)+(AM ([(x0.1,(x0.2.1,()))]:List U3))))with
    |true=>some (.inl (a0,(A5 a1 ([(x0.1,(x0.2.1,()))]:List U3)),a2,a3,(IntKind.wrap .i64 (a4+1)),()))
    |false=>none
   |false=>some (.inl (a0,a1,a2,a3,(IntKind.wrap .i64 (a4+1)),()))
  |false=>some (.inl (a0,a1,a2,a3,(IntKind.wrap .i64 (a4+1)),()))
 |false=>some (.inr (.inl (a1,())))
def MA[Lk]:(Ud×Int×Unit)→Option (V2):=fun(a0,a1,_)=>
 match AR Cl many (a1,([]:List U3),a0.2.1,(AM a0.2.1),0,())with|none=>none|some r=>match r with
 |.inl (o0,_)=>some (o0,())
 |.inr _=>none
def Oh[Lk]:=fun v=>Lk.f (MA v)
theorem Sq v:Oh v=MA v:=AJ _
abbrev Z9:AF:=[(.tmp 0,.dat Uc)]
abbrev Z8:AF:=[(.tmp 0,.dat .bool)]
abbrev Z7:List RS:=[.one]
abbrev AED:AF:=[(.tmp 1,.box 2),(.cell 0 0,.di),(.cell 0 1,.dat Uq),(.tmp 3,.di),(.tmp 23,.dat Uq),(.tmp 24,.di),(.tmp 25,.di)]
abbrev AEC:A2:=[(.ret,[(.tmp 2,.dat .bool)]),(.exit 0,[(.tmp 1,.box 2),(.cell 0 0,.di),(.cell 0 1,.dat Uq)])]
def Dq[Lk]:(Int×List U1×Int×List U1×Int×Int×Unit)→Option ((Int×List U1×Int×List U1×Int×Int×Unit)⊕Uh⊕(Int×List U1×Unit)⊕Unit):=fun(a0,a1,a2,a3,a4,a5,_)=>
 match(ilt a5 a4)with
 |true=>match idx a3 a5 with|none=>none|some x0=>match(ilt x0.1 0)with
  |true=>some (.inr (.inl (false,())))
  |false=>match(ile x0.2.1 x0.1)with
  |true=>some (.inr (.inl (false,())))
  |false=>match(ile a0 x0.2.1)with
  |true=>some (.inr (.inl (false,())))
  |false=>match(ilt x0.2.2.1 0)with
  |true=>some (.inr (.inl (false,())))
  |false=>match(ilt a2 x0.2.2.1)with
  |true=>some (.inr (.inl (false,())))
  |false=>match(ilt 0 a5)with
  |true=>match idx a1 (IntKind.wrap .i64 (a5-1))with|none=>none|some x1=>match DX ((x1.1,(x1.2.1,(x1.2.2.1,(x1.2.2.2.1,())))),(x0.1,(x0.2.1,(x0.2.2.1,(x0.2.2.2.1,())))),())with|none=>none|some (y2,_)=>match(ile 0 y2)with
   |true=>some (.inr (.inl (false,())))
   |false=>some (.inl (a0,a1,a2,a3,a4,(IntKind.wrap .i64 (a5+1)),()))
  |false=>some (.inl (a0,a1,a2,a3,a4,(IntKind.wrap .i64 (a5+1)),()))
 |false=>some (.inr (.inr (.inl (a0,a1,()))))
def Hv[Lk]:(Ud×Unit)→Option (Uh):=fun(a0,_)=>
 match Ss (a0.1,())with|none=>none|some (y0,_)=>match(!y0)with
 |true=>some (false,())
 |false=>match(ilt 400 (AM a0.2.1))with
 |true=>some (false,())
 |false=>match ACt (a0.1,())with|none=>none|some (y1,_)=>match AR Dq many (a0.1,a0.2.1,y1,a0.2.1,(AM a0.2.1),0,())with|none=>none|some r=>match r with
 |.inl (o2,_)=>some (o2,())
 |.inr r=>match r with
 |.inl (o3,o4,_)=>match Oh ((o3,(o4,())),0,())with|none=>none|some (y5,_)=>match fof (o3,y5,())with|none=>none|some (y6,y7,_)=>match(ieq y7 0)with
  |true=>some ((ieq (AM y6.2.1) (IntKind.wrap .i64 (o3-(AM y5)))),())
  |false=>some (false,())
 |.inr _=>none
def Fq[Lk]:=fun v=>Lk.f (Hv v)
theorem JZ v:Fq v=Hv v:=AJ _
abbrev AAJ:AF:=[(.tmp 0,.dat Uc)]
abbrev AAI:AF:=[(.tmp 0,.own 42 U5)]
abbrev AAH:List RS:=[.one]
abbrev AEH:AF:=[(.tmp 3,.own 42 U5),(.tmp 10,.dat Uq),(.tmp 11,.di),(.tmp 12,.di)]
abbrev AEG:A2:=[(.exit 0,[(.tmp 3,.own 42 U5)])]
def Ft[Lk]:(List U3×List U1×Int×Int×Unit)→Option ((List U3×List U1×Int×Int×Unit)⊕V2⊕Unit):=fun(a0,a1,a2,a3,_)=>
 match(ilt a3 a2)with
 |true=>match idx a1 a3 with|none=>none|some x0=>match(fits ((AM a0)+(AM ([(x0.1,(x0.2.1,()))]:List U3))))with
  |true=>some (.inl ((A5 a0 ([(x0.1,(x0.2.1,()))]:List U3)),a1,a2,(IntKind.wrap .i64 (a3+1)),()))
  |false=>none
 |false=>some (.inr (.inl (a0,())))
def QL[Lk]:(Ud×Unit)→Option (V2):=fun(a0,_)=>
 match Fq ((a0.1,(a0.2.1,())),())with|none=>none|some (y0,_)=>match(!y0)with
 |true=>some (([]:List U3),())
 |false=>match AR Ft many (([]:List U3),a0.2.1,(AM a0.2.1),0,())with|none=>none|some r=>match r with
 |.inl (o1,_)=>some (o1,())
 |.inr _=>none
def AAL[Lk]:=fun v=>Lk.f (QL v)
theorem AEI v:AAL v=QL v:=AJ _
abbrev Me:AF:=[(.tmp 0,.di),(.tmp 1,.dat V0)]
abbrev Md:AF:=[(.tmp 0,.own 3 U0)]
abbrev Mc:List RS:=[.one]
abbrev Qz:AF:=[(.tmp 0,.di),(.tmp 1,.dat V0),(.tmp 5,.own 3 U0),(.tmp 7,.dat .bool),(.tmp 8,.di)]
abbrev Qw:A2:=[(.exit 4,[(.tmp 0,.di),(.tmp 1,.dat V0),(.tmp 5,.own 3 U0),(.tmp 7,.dat .bool)])]
def C2[Lk]:(Int×List U3×List Int×Bool×Int×Unit)→Option ((Int×List U3×List Int×Bool×Int×Unit)⊕Vm⊕Unit):=fun(a0,a1,a2,a3,a4,_)=>
 match(ilt a4 (AM a1))with
 |true=>match idx a1 a4 with|none=>none|some x0=>match idx a1 a4 with|none=>none|some x1=>match(ilt x0.1 0)with
  |true=>some (.inl (a0,a1,a2,a3,(IntKind.wrap .i64 (a4+1)),()))
  |false=>match(ilt x1.2.1 0)with
  |true=>some (.inl (a0,a1,a2,a3,(IntKind.wrap .i64 (a4+1)),()))
  |false=>match(ile a0 x0.1)with
  |true=>some (.inl (a0,a1,a2,a3,(IntKind.wrap .i64 (a4+1)),()))
  |false=>match(ile a0 x1.2.1)with
  |true=>some (.inl (a0,a1,a2,a3,(IntKind.wrap .i64 (a4+1)),()))
  |false=>match idx a2 x0.1 with|none=>none|some x2=>match idx a2 x1.2.1 with|none=>none|some x3=>match(ieq (AL a2 (AE x0.1) 0) (AL a2 (AE x1.2.1) 0))with
  |true=>some (.inl (a0,a1,a2,a3,(IntKind.wrap .i64 (a4+1)),()))
  |false=>match idx a2 x0.1 with|none=>none|some x4=>match idx a2 x1.2.1 with|none=>none|some x5=>match idx a2 x0.1 with|none=>none|some x6=>match idx (An a2 (AE x0.1) (By (AL a2 (AE x0.1) 0) (AL a2 (AE x1.2.1) 0))) x1.2.1 with|none=>none|some x7=>some (.inl (a0,a1,(An (An a2 (AE x0.1) (By (AL a2 (AE x0.1) 0) (AL a2 (AE x1.2.1) 0))) (AE x1.2.1) (By (AL a2 (AE x0.1) 0) (AL a2 (AE x1.2.1) 0))),true,(IntKind.wrap .i64 (a4+1)),()))
 |false=>some (.inr (.inl (a0,a1,a2,a3,())))
abbrev Q0:AF:=[(.tmp 0,.di),(.tmp 1,.dat V0),(.tmp 5,.own 3 U0),(.tmp 7,.dat .bool)]
abbrev Qx:A2:=[(.exit 2,[(.tmp 5,.own 3 U0)])]
def Dw[Lk]:Vm→Option (Vm⊕Ub⊕Unit):=fun(a0,a1,a2,a3,_)=>
 match a3 with
 |true=>match AR C2 many (a0,a1,a2,false,0,())with|none=>none|some r=>match r with
  |.inl (o0,o1,o2,o3,_)=>some (.inl (o0,o1,o2,o3,()))
  |.inr _=>none
 |false=>some (.inr (.inl (a2,())))
abbrev Q1:AF:=[(.tmp 0,.di),(.tmp 1,.dat V0),(.tmp 5,.own 3 U0),(.tmp 6,.di)]
abbrev Qy:A2:=[(.exit 0,[(.tmp 0,.di),(.tmp 1,.dat V0),(.tmp 5,.own 3 U0)])]
def C3[Lk]:(Int×List U3×List Int×Int×Unit)→Option ((Int×List U3×List Int×Int×Unit)⊕(Int×List U3×List Int×Unit)⊕Unit):=fun(a0,a1,a2,a3,_)=>
 match(ilt a3 a0)with
 |true=>match(fits ((AM a2)+(AM ([a3]:List (Int)))))with
  |true=>some (.inl (a0,a1,(A5 a2 ([a3]:List (Int))),(IntKind.wrap .i64 (a3+1)),()))
  |false=>none
 |false=>some (.inr (.inl (a0,a1,a2,())))
def I0[Lk]:(Int×List U3×Unit)→Option (Ub):=fun(a0,a1,_)=>
 match AR C3 many (a0,a1,([]:List (Int)),0,())with|none=>none|some r=>match r with
 |.inl (o0,o1,o2,_)=>match AR Dw many (o0,o1,o2,true,())with|none=>none|some r=>match r with
  |.inl (o3,_)=>some (o3,())
  |.inr _=>none
 |.inr _=>none
def DG[Lk]:=fun v=>Lk.f (I0 v)
theorem Q2 v:DG v=I0 v:=AJ _
abbrev AFO:AF:=[(.tmp 0,.di)]
abbrev AFN:AF:=[(.tmp 0,.di)]
abbrev AFM:List RS:=[.one]
abbrev AJh:AF:=[(.tmp 3,.di),(.tmp 4,.di)]
abbrev AJg:A2:=[(.exit 0,[(.tmp 3,.di)])]
def Xz[Lk]:U3→Option (U3⊕U9⊕Unit):=fun(a0,a1,_)=>
 match(ilt 0 a1)with
 |true=>match quo? .i64 a1 2 with|none=>none|some x0=>some (.inl ((IntKind.wrap .i64 (a0+1)),x0,()))
 |false=>some (.inr (.inl (a0,())))
def AFQ[Lk]:U9→Option (U9):=fun(a0,_)=>
 match(ilt a0 1)with
 |true=>some (0,())
 |false=>match(ilt 64 a0)with
 |true=>some (0,())
 |false=>match AR Xz many (0,(IntKind.wrap .i64 (a0-1)),())with|none=>none|some r=>match r with
 |.inl (o0,_)=>some (o0,())
 |.inr _=>none
def K7[Lk]:=fun v=>Lk.f (AFQ v)
theorem AXm v:K7 v=AFQ v:=AJ _
abbrev R3:AF:=[(.tmp 0,.dat Uc)]
abbrev R2:AF:=[(.tmp 0,.dat .bool)]
abbrev R1:List RS:=[.one]
abbrev Yi:AF:=[(.tmp 1,.box 2),(.cell 0 0,.di),(.cell 0 1,.dat Uq),(.tmp 3,.own 42 U5),(.tmp 6,.own 3 U0),(.tmp 7,.di),(.tmp 8,.di)]
abbrev Yg:A2:=[(.exit 2,[(.tmp 1,.box 2),(.cell 0 0,.di),(.cell 0 1,.dat Uq),(.tmp 3,.own 42 U5),(.tmp 7,.di)])]
def DU[Lk]:(Int×List U1×List U3×List Int×Int×Int×Unit)→Option ((Int×List U1×List U3×List Int×Int×Int×Unit)⊕V3⊕Unit):=fun(a0,a1,a2,a3,a4,a5,_)=>
 match(ilt a5 a0)with
 |true=>match idx a3 a5 with|none=>none|some x0=>match(ieq (AL a3 (AE a5) 0) a5)with
  |true=>some (.inl (a0,a1,a2,a3,(IntKind.wrap .i64 (a4+1)),(IntKind.wrap .i64 (a5+1)),()))
  |false=>some (.inl (a0,a1,a2,a3,a4,(IntKind.wrap .i64 (a5+1)),()))
 |false=>some (.inr (.inl (a0,a1,a2,a4,())))
abbrev Yj:AF:=[(.tmp 1,.box 2),(.cell 0 0,.di),(.cell 0 1,.dat Uq),(.tmp 3,.own 42 U5),(.tmp 4,.di)]
abbrev Yh:A2:=[(.ret,[(.tmp 2,.dat .bool)]),(.exit 0,[(.tmp 1,.box 2),(.cell 0 0,.di),(.cell 0 1,.dat Uq),(.tmp 3,.own 42 U5)])]
def Cw[Lk]:V3→Option (V3⊕Uh⊕(Int×List U1×List U3×Unit)⊕Unit):=fun(a0,a1,a2,a3,_)=>
 match(ilt a3 (AM a1))with
 |true=>match idx a1 a3 with|none=>none|some x0=>match(ilt x0.1 0)with
  |true=>some (.inr (.inl (false,())))
  |false=>match(ile x0.2.1 x0.1)with
  |true=>some (.inr (.inl (false,())))
  |false=>match(ile a0 x0.2.1)with
  |true=>some (.inr (.inl (false,())))
  |false=>match(ilt x0.2.2.1 0)with
  |true=>some (.inr (.inl (false,())))
  |false=>match K7 (a0,())with|none=>none|some (y1,_)=>match(ilt y1 x0.2.2.1)with
  |true=>some (.inr (.inl (false,())))
  |false=>match(ilt 0 a3)with
  |true=>match idx a1 (IntKind.wrap .i64 (a3-1))with|none=>none|some x2=>match(ilt x0.1 x2.1)with
   |true=>some (.inr (.inl (false,())))
   |false=>match idx a1 (IntKind.wrap .i64 (a3-1))with|none=>none|some x3=>match(ieq x3.1 x0.1)with
   |true=>match idx a1 (IntKind.wrap .i64 (a3-1))with|none=>none|some x4=>match(ile x0.2.1 x4.2.1)with
    |true=>some (.inr (.inl (false,())))
    |false=>match x0.2.2.2.1 with
    |true=>match(fits ((AM a2)+(AM ([(x0.1,(x0.2.1,()))]:List U3))))with
     |true=>some (.inl (a0,a1,(A5 a2 ([(x0.1,(x0.2.1,()))]:List U3)),(IntKind.wrap .i64 (a3+1)),()))
     |false=>none
    |false=>some (.inl (a0,a1,a2,(IntKind.wrap .i64 (a3+1)),()))
   |false=>match x0.2.2.2.1 with
   |true=>match(fits ((AM a2)+(AM ([(x0.1,(x0.2.1,()))]:List U3))))with
    |true=>some (.inl (a0,a1,(A5 a2 ([(x0.1,(x0.2.1,()))]:List U3)),(IntKind.wrap .i64 (a3+1)),()))
    |false=>none
   |false=>some (.inl (a0,a1,a2,(IntKind.wrap .i64 (a3+1)),()))
  |false=>match x0.2.2.2.1 with
  |true=>match(fits ((AM a2)+(AM ([(x0.1,(x0.2.1,()))]:List U3))))with
   |true=>some (.inl (a0,a1,(A5 a2 ([(x0.1,(x0.2.1,()))]:List U3)),(IntKind.wrap .i64 (a3+1)),()))
   |false=>none
  |false=>some (.inl (a0,a1,a2,(IntKind.wrap .i64 (a3+1)),()))
 |false=>some (.inr (.inr (.inl (a0,a1,a2,()))))
def Em[Lk]:(Ud×Unit)→Option (Uh):=fun(a0,_)=>
 match(ilt a0.1 1)with
 |true=>some (false,())
 |false=>match(ilt 64 a0.1)with
 |true=>some (false,())
 |false=>match(ilt 400 (AM a0.2.1))with
 |true=>some (false,())
 |false=>match AR Cw many (a0.1,a0.2.1,([]:List U3),0,())with|none=>none|some r=>match r with
 |.inl (o0,_)=>some (o0,())
 |.inr r=>match r with
 |.inl (o1,o2,o3,_)=>match DG (o1,o3,())with|none=>none|some (y4,_)=>match AR DU many (o1,o2,o3,y4,0,0,())with|none=>none|some r=>match r with
  |.inl (o5,o6,o7,o8,_)=>some ((ieq o8 (IntKind.wrap .i64 (o5-(AM o7)))),())
  |.inr _=>none
 |.inr _=>none
def Ci[Lk]:=fun v=>Lk.f (Em v)
theorem Ff v:Ci v=Em v:=AJ _
abbrev TK:AF:=[(.tmp 0,.dat Uc)]
abbrev TJ:AF:=[(.tmp 0,.own 42 U5)]
abbrev TH:List RS:=[.one]
abbrev AAv:AF:=[(.tmp 1,.box 2),(.cell 0 0,.di),(.cell 0 1,.dat Uq),(.tmp 3,.own 42 U5),(.tmp 4,.di)]
abbrev AAu:A2:=[(.exit 0,[(.tmp 3,.own 42 U5)])]
def EZ[Lk]:V3→Option (V3⊕V2⊕Unit):=fun(a0,a1,a2,a3,_)=>
 match(ilt a3 (AM a1))with
 |true=>match idx a1 a3 with|none=>none|some x0=>match idx a1 a3 with|none=>none|some x1=>match(fits ((AM a2)+(AM ([(x0.1,(x1.2.1,()))]:List U3))))with
  |true=>some (.inl (a0,a1,(A5 a2 ([(x0.1,(x1.2.1,()))]:List U3)),(IntKind.wrap .i64 (a3+1)),()))
  |false=>none
 |false=>some (.inr (.inl (a2,())))
def NX[Lk]:(Ud×Unit)→Option (V2):=fun(a0,_)=>
 match Ci ((a0.1,(a0.2.1,())),())with|none=>none|some (y0,_)=>match(!y0)with
 |true=>some (([]:List U3),())
 |false=>match AR EZ many (a0.1,a0.2.1,([]:List U3),0,())with|none=>none|some r=>match r with
 |.inl (o1,_)=>some (o1,())
 |.inr _=>none
def NY[Lk]:=fun v=>Lk.f (NX v)
theorem AAw v:NY v=NX v:=AJ _
def ARH[Lk]:U3→Option (Uh):=fun(a0,a1,_)=>
 match(ile 1 a0)with
 |true=>match(ile a0 64)with
  |true=>match(ile 0 a1)with
   |true=>some ((ilt a1 a0),())
   |false=>some (false,())
  |false=>some (false,())
 |false=>some (false,())
def AMT[Lk]:=fun v=>Lk.f (ARH v)
theorem Acl v:AMT v=ARH v:=AJ _
def Ro[Lk]:U3→Option ((Int×Int×Bool×Bool×Unit)):=fun(a0,a1,_)=>
 match AMT (a0,a1,())with|none=>none|some (y0,_)=>match y0 with
 |true=>some (a1,0,false,true,())
 |false=>match(ilt a0 1)with
 |true=>some (0,0,false,false,())
 |false=>match(ilt 64 a0)with
 |true=>some (0,0,false,false,())
 |false=>match(ilt a1 a0)with
 |true=>some (0,0,false,false,())
 |false=>match(ile (IntKind.wrap .i64 (a0+(IntKind.wrap .i64 (a0*a0)))) a1)with
 |true=>some (0,0,false,false,())
 |false=>match quo? .i64 (IntKind.wrap .i64 (a1-a0)) a0 with|none=>none|some x1=>match rem? (IntKind.wrap .i64 (a1-a0)) a0 with|none=>none|some x2=>match(ieq x1 x2)with
 |true=>some (0,0,false,false,())
 |false=>some (x1,x2,true,true,())
def Ww[Lk]:=fun v=>Lk.f (Ro v)
theorem AOB v:Ww v=Ro v:=AJ _
def AIs[Lk]:(Int×Int×Int×Unit)→Option (U9):=fun(a0,a1,a2,_)=>
 match AMT (a0,a1,())with|none=>none|some (y0,_)=>match(!y0)with
 |true=>some ((-1:Int),())
 |false=>match AMT (a0,a2,())with|none=>none|some (y1,_)=>match(!y1)with
 |true=>some ((-1:Int),())
 |false=>match(ieq a1 a2)with
 |true=>some ((-1:Int),())
 |false=>some ((IntKind.wrap .i64 ((IntKind.wrap .i64 (a0+(IntKind.wrap .i64 (a1*a0))))+a2)),())
def ANh[Lk]:=fun v=>Lk.f (AIs v)
theorem AbC v:ANh v=AIs v:=AJ _
def JY[Lk]:(Int×Int×Int×List U4×Int×Unit)→Option ((Int×Int×Int×List U4×Int×Unit)⊕(Int×Int×List U4×Unit)⊕Unit):=fun(a0,a1,a2,a3,a4,_)=>
 match(ilt a4 a0)with
 |true=>match(fits ((AM a3)+(AM ([([a4]:List (Int))]:List U4))))with
  |true=>some (.inl (a0,a1,a2,(A5 a3 ([([a4]:List (Int))]:List U4)),(IntKind.wrap .i64 (a4+1)),()))
  |false=>none
 |false=>some (.inr (.inl (a1,a2,a3,())))
def Zy[Lk]:U9→Option (V1):=fun(a0,_)=>
 match(ilt a0 1)with
 |true=>some (0,([]:List U4),1,())
 |false=>match(ilt 64 a0)with
 |true=>some (0,([]:List U4),1,())
 |false=>match AR JY many (a0,0,a0,([]:List U4),0,())with|none=>none|some r=>match r with
 |.inl (o0,o1,o2,_)=>some (o1,o2,0,())
 |.inr _=>none
def AHJ[Lk]:=fun v=>Lk.f (Zy v)
theorem AVo v:AHJ v=Zy v:=AJ _
def OM[Lk]:(Int×Int×Int×Unit)→Option (Uh):=fun(a0,a1,a2,_)=>
 match Ww (a0,a1,())with|none=>none|some (y0,y1,y2,y3,_)=>match y3 with
 |true=>match(!y2)with
  |true=>match(ieq y0 a2)with
   |true=>some (true,())
   |false=>match y2 with
   |true=>some ((ieq y1 a2),())
   |false=>some (false,())
  |false=>match y2 with
  |true=>some ((ieq y1 a2),())
  |false=>some (false,())
 |false=>some (false,())
def X3[Lk]:=fun v=>Lk.f (OM v)
theorem AJp v:X3 v=OM v:=AJ _
def JM[Lk]:Uy→Option (Uy⊕(Int×Int×List Int×Bool×Bool×Bool×Bool×Int×Int×Bool×Int×Int×Int×Int×Int×Bool×Int×List Int×Int×Int×Int×Int×Int×Int×Int×Int×Bool×Unit)⊕Unit):=fun(a0,a1,a2,a3,a4,a5,a6,a7,a8,a9,a10,a11,a12,a13,a14,a15,a16,a17,a18,a19,a20,a21,a22,a23,a24,a25,a26,a27,_)=>
 match(ilt a4 (AM a1))with
 |true=>match rem? (IntKind.wrap .i64 (a2+a4)) (AM a1)with|none=>none|some x0=>match idx a1 x0 with|none=>none|some x1=>match(fits ((AM a3)+(AM ([(AL a1 (AE x0) 0)]:List (Int)))))with
  |true=>some (.inl (a0,a1,a2,(A5 a3 ([(AL a1 (AE x0) 0)]:List (Int))),(IntKind.wrap .i64 (a4+1)),a5,a6,a7,a8,a9,a10,a11,a12,a13,a14,a15,a16,a17,a18,a19,a20,a21,a22,a23,a24,a25,a26,a27,()))
  |false=>none
 |false=>some (.inr (.inl (a0,a2,a3,a5,a6,a7,a8,a9,a10,a11,a12,a13,a14,a15,a16,a17,a18,a1,a19,a20,a21,a22,a23,a24,a25,a26,a27,())))
def Di[Lk]:(Int×List Int×Bool×Int×Unit)→Option ((Int×List Int×Bool×Int×Unit)⊕(Int×List Int×Bool×Unit)⊕Unit):=fun(a0,a1,a2,a3,_)=>
 match(ilt a3 (AM a1))with
 |true=>match(!a2)with
  |true=>match idx a1 a3 with|none=>none|some x0=>match rem? (IntKind.wrap .i64 (a3+1)) (AM a1)with|none=>none|some x1=>match idx a1 x1 with|none=>none|some x2=>match rem? (IntKind.wrap .i64 (a3+2)) (AM a1)with|none=>none|some x3=>match idx a1 x3 with|none=>none|some x4=>match Ww (a0,(AL a1 (AE a3) 0),())with|none=>none|some (y5,y6,y7,y8,_)=>match(ile 4 (AM a1))with
   |true=>match y8 with
    |true=>match y7 with
     |true=>match(ieq (AL a1 (AE x1) 0) y6)with
      |true=>match ANh (a0,y6,y5,())with|none=>none|some (y9,_)=>match(ieq (AL a1 (AE x3) 0) y9)with
       |true=>match rem? (IntKind.wrap .i64 ((IntKind.wrap .i64 (a3+(AM a1)))-1)) (AM a1)with|none=>none|some x10=>match idx a1 x10 with|none=>none|some x11=>match X3 (a0,(AL a1 (AE x10) 0),y5,())with|none=>none|some (y12,_)=>match y12 with
        |true=>match AR JM many (a0,a1,a3,([]:List (Int)),3,a2,(!a2),y8,y7,(AL a1 (AE x1) 0),y6,(ieq (AL a1 (AE x1) 0) y6),(AL a1 (AE x3) 0),a0,y6,y5,y9,(ieq (AL a1 (AE x3) 0) y9),a0,a3,(AM a1),(IntKind.wrap .i64 (a3+(AM a1))),(IntKind.wrap .i64 ((IntKind.wrap .i64 (a3+(AM a1)))-1)),(AM a1),x10,(AL a1 (AE x10) 0),y5,y12,())with|none=>none|some r=>match r with
         |.inl (o13,o14,o15,o16,o17,o18,o19,o20,o21,o22,o23,o24,o25,o26,o27,o28,o29,o30,o31,o32,o33,o34,o35,o36,o37,o38,o39,_)=>some (.inl (o13,o15,true,(IntKind.wrap .i64 (o14+1)),()))
         |.inr _=>none
        |false=>some (.inl (a0,a1,a2,(IntKind.wrap .i64 (a3+1)),()))
       |false=>some (.inl (a0,a1,a2,(IntKind.wrap .i64 (a3+1)),()))
      |false=>some (.inl (a0,a1,a2,(IntKind.wrap .i64 (a3+1)),()))
     |false=>some (.inl (a0,a1,a2,(IntKind.wrap .i64 (a3+1)),()))
    |false=>some (.inl (a0,a1,a2,(IntKind.wrap .i64 (a3+1)),()))
   |false=>some (.inl (a0,a1,a2,(IntKind.wrap .i64 (a3+1)),()))
  |false=>some (.inr (.inl (a0,a1,a2,())))
 |false=>some (.inr (.inl (a0,a1,a2,())))
def Mw[Lk]:Vh→Option (Vh⊕Uh⊕Vh⊕Unit):=fun(a0,a1,_)=>
 match(ilt 1 (AM a1))with
 |true=>match AR Di many (a0,a1,false,0,())with|none=>none|some r=>match r with
  |.inl (o0,o1,o2,_)=>match(!o2)with
   |true=>some (.inr (.inl (false,())))
   |false=>some (.inl (o0,o1,()))
  |.inr _=>none
 |false=>some (.inr (.inr (.inl (a0,a1,()))))
def Xv[Lk]:Vh→Option (Uh):=fun(a0,a1,_)=>
 match(fits ((AM ([]:List (Int)))+(AM a1)))with
 |true=>match AR Mw many (a0,(A5 ([]:List (Int)) a1),())with|none=>none|some r=>match r with
  |.inl (o0,_)=>some (o0,())
  |.inr r=>match r with
  |.inl (o1,o2,_)=>match(ieq (AM o2) 1)with
   |true=>match idx o2 0 with|none=>none|some x3=>match AMT (o1,(AL o2 0 0),())with|none=>none|some (y4,_)=>some (y4,())
   |false=>some (false,())
  |.inr _=>none
 |false=>none
def AN8[Lk]:=fun v=>Lk.f (Xv v)
theorem AUH v:AN8 v=Xv v:=AJ _
def Ho[Lk]:Ue→Option (Ue⊕U9⊕(Unit)⊕Unit):=fun(a0,a1,a2,_)=>
 match(ilt a2 (AM a0))with
 |true=>match idx a0 a2 with|none=>none|some x0=>match(ieq x0 a1)with
  |true=>some (.inr (.inl (a2,())))
  |false=>some (.inl (a0,a1,(IntKind.wrap .i64 (a2+1)),()))
 |false=>some (.inr (.inr (.inl ())))
def SB[Lk]:Ur→Option (U9):=fun(a0,a1,_)=>
 match AR Ho many (a0,a1,0,())with|none=>none|some r=>match r with
 |.inl (o0,_)=>some (o0,())
 |.inr r=>match r with
 |.inl _=>some ((-1:Int),())
 |.inr _=>none
def M4[Lk]:=fun v=>Lk.f (SB v)
theorem APU v:M4 v=SB v:=AJ _
def Fg[Lk]:Ur→Option (Ur⊕Uh⊕(Unit)⊕Unit):=fun(a0,a1,_)=>
 match(ilt a1 (AM a0))with
 |true=>match idx a0 a1 with|none=>none|some x0=>match(ilt x0 0)with
  |true=>some (.inr (.inl (false,())))
  |false=>match idx a0 a1 with|none=>none|some x1=>match(ilt 10000 x1)with
  |true=>some (.inr (.inl (false,())))
  |false=>match B5 a0 0 a1 with|none=>none|some x2=>match idx a0 a1 with|none=>none|some x3=>match M4 (x2,x3,())with|none=>none|some (y4,_)=>match(ile 0 y4)with
  |true=>some (.inr (.inl (false,())))
  |false=>some (.inl (a0,(IntKind.wrap .i64 (a1+1)),()))
 |false=>some (.inr (.inr (.inl ())))
def R5[Lk]:Ub→Option (Uh):=fun(a0,_)=>
 match(ilt 1000 (AM a0))with
 |true=>some (false,())
 |false=>match AR Fg many (a0,0,())with|none=>none|some r=>match r with
 |.inl (o0,_)=>some (o0,())
 |.inr r=>match r with
 |.inl _=>some (true,())
 |.inr _=>none
def Pm[Lk]:=fun v=>Lk.f (R5 v)
theorem AOu v:Pm v=R5 v:=AJ _
def AAk[Lk]:Ur→Option (Vg):=fun(a0,a1,_)=>
 match M4 (a0,a1,())with|none=>none|some (y0,_)=>match Pm (a0,())with|none=>none|some (y1,_)=>match(!y1)with
 |true=>some (([]:List (Int)),false,())
 |false=>match(ilt y0 0)with
 |true=>some (([]:List (Int)),false,())
 |false=>match B5 a0 y0 (AM a0)with|none=>none|some x2=>match(fits ((AM ([]:List (Int)))+(AM x2)))with
 |true=>match B5 a0 0 y0 with|none=>none|some x3=>match(fits ((AM (A5 ([]:List (Int)) x2))+(AM x3)))with
  |true=>some ((A5 (A5 ([]:List (Int)) x2) x3),true,())
  |false=>none
 |false=>none
def AAl[Lk]:=fun v=>Lk.f (AAk v)
theorem AWn v:AAl v=AAk v:=AJ _
def Hm[Lk]:Ue→Option (Ue⊕Ur⊕Unit):=fun(a0,a1,a2,_)=>
 match(ilt a2 (AM a0))with
 |true=>match idx a0 a2 with|none=>none|some x0=>some (.inl (a0,(By a1 x0),(IntKind.wrap .i64 (a2+1)),()))
 |false=>some (.inr (.inl (a0,a1,())))
def R9[Lk]:Ub→Option (Ub):=fun(a0,_)=>
 match Pm (a0,())with|none=>none|some (y0,_)=>match(!y0)with
 |true=>some (([]:List (Int)),())
 |false=>match(ieq (AM a0) 0)with
 |true=>some (([]:List (Int)),())
 |false=>match idx a0 0 with|none=>none|some x1=>match AR Hm many (a0,x1,0,())with|none=>none|some r=>match r with
 |.inl (o2,o3,_)=>match AAl (o2,o3,())with|none=>none|some (y4,y5,_)=>some (y4,())
 |.inr _=>none
def W8[Lk]:=fun v=>Lk.f (R9 v)
theorem APP v:W8 v=R9 v:=AJ _
def Fs[Lk]:(List U4×List U4×Int×Unit)→Option ((List U4×List U4×Int×Unit)⊕Uh⊕(Unit)⊕Unit):=fun(a0,a1,a2,_)=>
 match(ilt a2 (AM a0))with
 |true=>match idx a0 a2 with|none=>none|some x0=>match idx a1 a2 with|none=>none|some x1=>match S3 (x0,x1,())with|none=>none|some (y2,_)=>match(!y2)with
  |true=>some (.inr (.inl (false,())))
  |false=>some (.inl (a0,a1,(IntKind.wrap .i64 (a2+1)),()))
 |false=>some (.inr (.inr (.inl ())))
def Sv[Lk]:(List U4×List U4×Unit)→Option (Uh):=fun(a0,a1,_)=>
 match(!(ieq (AM a0) (AM a1)))with
 |true=>some (false,())
 |false=>match AR Fs many (a0,a1,0,())with|none=>none|some r=>match r with
 |.inl (o0,_)=>some (o0,())
 |.inr r=>match r with
 |.inl _=>some (true,())
 |.inr _=>none
def AHO[Lk]:=fun v=>Lk.f (Sv v)
theorem AQo v:AHO v=Sv v:=AJ _
def EU[Lk]:Uw→Option (Uw⊕Uh⊕(Int×List U4×List Bool×Int×Int×Int×List Int×Int×Bool×Int×List Int×Bool×Bool×List Int×List Int×List U4×List Int×List U4×Bool×Bool×List Int×Int×Int×Bool×Unit)⊕Unit):=fun(a0,a1,a2,a3,a4,a5,a6,a7,a8,a9,a10,a11,a12,a13,a14,a15,a16,a17,a18,a19,a20,a21,a22,a23,a24,a25,_)=>
 match(ilt a7 (AM a6))with
 |true=>match idx a6 a7 with|none=>none|some x0=>match(ilt x0 a0)with
  |true=>match idx a6 a7 with|none=>none|some x1=>match idx a2 x1 with|none=>none|some x2=>match(AL a2 (AE x1) false)with
   |true=>some (.inr (.inl (false,())))
   |false=>match idx a6 a7 with|none=>none|some x3=>match idx a2 x3 with|none=>none|some x4=>some (.inl (a0,a1,(An a2 (AE x3) true),a3,(IntKind.wrap .i64 (a4+1)),a5,a6,(IntKind.wrap .i64 (a7+1)),a8,a9,a10,a11,a12,a13,a14,a15,a16,a17,a18,a19,a20,a21,a22,a23,a24,a25,()))
  |false=>some (.inl (a0,a1,a2,a3,a4,a5,a6,(IntKind.wrap .i64 (a7+1)),a8,a9,a10,a11,a12,a13,a14,a15,a16,a17,a18,a19,a20,a21,a22,a23,a24,a25,()))
 |false=>some (.inr (.inr (.inl (a0,a1,a2,a3,a4,a5,a8,a9,a10,a11,a12,a13,a14,a15,a16,a17,a18,a19,a20,a21,a22,a23,a24,a25,()))))
def EV[Lk]:(Int×List U4×List Bool×Int×Int×Int×Unit)→Option ((Int×List U4×List Bool×Int×Int×Int×Unit)⊕Uh⊕V1⊕Unit):=fun(a0,a1,a2,a3,a4,a5,_)=>
 match(ilt a5 (AM a1))with
 |true=>match idx a1 a5 with|none=>none|some x0=>match Pm (x0,())with|none=>none|some (y1,_)=>match(!y1)with
  |true=>some (.inr (.inl (false,())))
  |false=>match(ieq (AM x0) 0)with
  |true=>some (.inr (.inl (false,())))
  |false=>match AN8 (a0,x0,())with|none=>none|some (y2,_)=>match(!y2)with
  |true=>some (.inr (.inl (false,())))
  |false=>match W8 (x0,())with|none=>none|some (y3,_)=>match AHO (([y3]:List U4),([x0]:List U4),())with|none=>none|some (y4,_)=>match(!y4)with
  |true=>some (.inr (.inl (false,())))
  |false=>match idx x0 0 with|none=>none|some x5=>match(ile x5 a3)with
  |true=>some (.inr (.inl (false,())))
  |false=>match idx x0 0 with|none=>none|some x6=>match AR EU many (a0,a1,a2,x6,a4,a5,x0,0,x0,(AM x0),(ieq (AM x0) 0),a0,x0,y2,(!y2),x0,y3,([y3]:List U4),x0,([x0]:List U4),y4,(!y4),x0,x5,a3,(ile x5 a3),())with|none=>none|some r=>match r with
  |.inl (o7,_)=>some (.inr (.inl (o7,())))
  |.inr r=>match r with
  |.inl (o8,o9,o10,o11,o12,o13,o14,o15,o16,o17,o18,o19,o20,o21,o22,o23,o24,o25,o26,o27,o28,o29,o30,o31,_)=>some (.inl (o8,o9,o10,o11,o12,(IntKind.wrap .i64 (o13+1)),()))
  |.inr _=>none
 |false=>some (.inr (.inr (.inl (a0,a1,a4,()))))
def R4[Lk]:(Uk×Unit)→Option (Uh):=fun(a0,_)=>
 match(ilt a0.1 1)with
 |true=>some (false,())
 |false=>match(ilt 64 a0.1)with
 |true=>some (false,())
 |false=>match(ilt a0.1 (AM a0.2.1))with
 |true=>some (false,())
 |false=>match(LH a0.1&&LH a0.1&&ile a0.1 a0.1&&true)with
 |true=>match AR EV many (a0.1,a0.2.1,(Jo (AE a0.1) false),(-1:Int),(0:Int),(0:Int),())with|none=>none|some r=>match r with
  |.inl (o0,_)=>some (o0,())
  |.inr r=>match r with
  |.inl (o1,o2,o3,_)=>some ((ieq o3 o1),())
  |.inr _=>none
 |false=>none
def W4[Lk]:=fun v=>Lk.f (R4 v)
theorem AOt v:W4 v=R4 v:=AJ _
def Hn[Lk]:(Int×Int×List U4×Int×Unit)→Option ((Int×Int×List U4×Int×Unit)⊕U9⊕(Unit)⊕Unit):=fun(a0,a1,a2,a3,_)=>
 match(ilt a3 (AM a2))with
 |true=>match idx a2 a3 with|none=>none|some x0=>match M4 (x0,a0,())with|none=>none|some (y1,_)=>match(ile 0 y1)with
  |true=>some (.inr (.inl (a3,())))
  |false=>some (.inl (a0,a1,a2,(IntKind.wrap .i64 (a3+1)),()))
 |false=>some (.inr (.inr (.inl ())))
def SA[Lk]:Vb→Option (U9):=fun(a0,a1,_)=>
 match AR Hn many (a1,a0.1,a0.2.1,0,())with|none=>none|some r=>match r with
 |.inl (o0,_)=>some (o0,())
 |.inr r=>match r with
 |.inl _=>some ((-1:Int),())
 |.inr _=>none
def M3[Lk]:=fun v=>Lk.f (SA v)
theorem APT v:M3 v=SA v:=AJ _
def Le[Lk]:(List U4×List Int×Int×Unit)→Option ((List U4×List Int×Int×Unit)⊕(List U4×List Int×Int×Unit)⊕Unit):=fun(a0,a1,a2,_)=>
 match(ilt a2 (AM a0))with
 |true=>match idx a0 a2 with|none=>none|some x0=>match idx x0 0 with|none=>none|some x1=>match idx a1 0 with|none=>none|some x2=>match(ilt x1 (AL a1 0 0))with
  |true=>some (.inl (a0,a1,(IntKind.wrap .i64 (a2+1)),()))
  |false=>some (.inr (.inl (a0,a1,a2,())))
 |false=>some (.inr (.inl (a0,a1,a2,())))
def AGE[Lk]:(List U4×List Int×Unit)→Option (Uo):=fun(a0,a1,_)=>
 match W8 (a1,())with|none=>none|some (y0,_)=>match AR Le many (a0,y0,0,())with|none=>none|some r=>match r with
 |.inl (o1,o2,o3,_)=>match B5 o1 0 o3 with|none=>none|some x4=>match(fits ((AM ([]:List U4))+(AM x4)))with
  |true=>match(fits ((AM (A5 ([]:List U4) x4))+(AM ([o2]:List U4))))with
   |true=>match B5 o1 o3 (AM o1)with|none=>none|some x5=>match(fits ((AM (A5 (A5 ([]:List U4) x4) ([o2]:List U4)))+(AM x5)))with
    |true=>some ((A5 (A5 (A5 ([]:List U4) x4) ([o2]:List U4)) x5),())
    |false=>none
   |false=>none
  |false=>none
 |.inr _=>none
def ASw[Lk]:=fun v=>Lk.f (AGE v)
theorem AYc v:ASw v=AGE v:=AJ _
def LP[Lk]:Vc→Option (Uo):=fun(a0,a1,_)=>
 match B5 a0 0 a1 with|none=>none|some x0=>match(fits ((AM ([]:List U4))+(AM x0)))with
 |true=>match B5 a0 (IntKind.wrap .i64 (a1+1)) (AM a0)with|none=>none|some x1=>match(fits ((AM (A5 ([]:List U4) x0))+(AM x1)))with
  |true=>some ((A5 (A5 ([]:List U4) x0) x1),())
  |false=>none
 |false=>none
def HM[Lk]:=fun v=>Lk.f (LP v)
theorem AE3 v:HM v=LP v:=AJ _
def Ja[Lk]:(Uk×Int×Int×Unit)→Option (V1):=fun(a0,a1,a2,_)=>
 match W4 ((a0.1,(a0.2.1,())),())with|none=>none|some (y0,_)=>match(!y0)with
 |true=>some (a0.1,a0.2.1,1,())
 |false=>match AMT (a0.1,a1,())with|none=>none|some (y1,_)=>match(!y1)with
 |true=>some (a0.1,a0.2.1,10,())
 |false=>match AMT (a0.1,a2,())with|none=>none|some (y2,_)=>match(!y2)with
 |true=>some (a0.1,a0.2.1,10,())
 |false=>match M3 ((a0.1,(a0.2.1,())),a1,())with|none=>none|some (y3,_)=>match M3 ((a0.1,(a0.2.1,())),a2,())with|none=>none|some (y4,_)=>match(ieq y3 y4)with
 |true=>some (a0.1,a0.2.1,5,())
 |false=>match M3 ((a0.1,(a0.2.1,())),a1,())with|none=>none|some (y5,_)=>match M3 ((a0.1,(a0.2.1,())),a2,())with|none=>none|some (y6,_)=>match idx a0.2.1 y5 with|none=>none|some x7=>match AAl (x7,a1,())with|none=>none|some (y8,y9,_)=>match idx a0.2.1 y6 with|none=>none|some x10=>match AAl (x10,a2,())with|none=>none|some (y11,y12,_)=>match ANh (a0.1,a1,a2,())with|none=>none|some (y13,_)=>match(fits ((AM ([a1,y13]:List (Int)))+(AM y11)))with
 |true=>match ANh (a0.1,a2,a1,())with|none=>none|some (y14,_)=>match(fits ((AM (A5 ([a1,y13]:List (Int)) y11))+(AM ([y14]:List (Int)))))with
  |true=>match B5 y8 1 (AM y8)with|none=>none|some x15=>match(fits ((AM (A5 (A5 ([a1,y13]:List (Int)) y11) ([y14]:List (Int))))+(AM (Dc 1 (AE (AM x15)) y8))))with
   |true=>match HM (a0.2.1,(imax y5 y6),())with|none=>none|some (y16,_)=>match HM (y16,(By y5 y6),())with|none=>none|some (y17,_)=>match ASw (y17,(A5 (A5 (A5 ([a1,y13]:List (Int)) y11) ([y14]:List (Int))) (Dc 1 (AE (AM x15)) y8)),())with|none=>none|some (y18,_)=>some (a0.1,y18,0,())
   |false=>none
  |false=>none
 |false=>none
def Sx[Lk]:=fun v=>Lk.f (Ja v)
theorem NQ v:Sx v=Ja v:=AJ _
abbrev YS:AF:=[(.tmp 0,.dat V0),(.tmp 1,.dat V0)]
abbrev YR:AF:=[(.tmp 0,.dat .bool)]
abbrev YQ:List RS:=[.one]
abbrev ADo:AF:=[(.tmp 0,.dat V0),(.tmp 1,.dat V0),(.tmp 5,.di)]
abbrev ADn:A2:=[(.ret,[(.tmp 4,.dat .bool)]),(.exit 0,[])]
def R0[Lk]:(List U3×List U3×Int×Unit)→Option ((List U3×List U3×Int×Unit)⊕Uh⊕(Unit)⊕Unit):=fun(a0,a1,a2,_)=>
 match(ilt a2 (AM a0))with
 |true=>match idx a0 a2 with|none=>none|some x0=>match idx a1 a2 with|none=>none|some x1=>match(!(ieq x0.1 x1.1&&(ieq x0.2.1 x1.2.1&&true)))with
  |true=>some (.inr (.inl (false,())))
  |false=>some (.inl (a0,a1,(IntKind.wrap .i64 (a2+1)),()))
 |false=>some (.inr (.inr (.inl ())))
def YU[Lk]:(List U3×List U3×Unit)→Option (Uh):=fun(a0,a1,_)=>
 match(!(ieq (AM a0) (AM a1)))with
 |true=>some (false,())
 |false=>match AR R0 many (a0,a1,0,())with|none=>none|some r=>match r with
 |.inl (o0,_)=>some (o0,())
 |.inr r=>match r with
 |.inl _=>some (true,())
 |.inr _=>none
def AF1[Lk]:=fun v=>Lk.f (YU v)
theorem AUi v:AF1 v=YU v:=AJ _
abbrev AXq:AF:=[(.tmp 0,.dat Us),(.tmp 1,.di)]
abbrev AXp:AF:=[(.tmp 0,.di)]
abbrev AXo:List RS:=[.one]
def ASf[Lk]:Vb→Option (U9):=fun(a0,a1,_)=>
 match tin (a0.1,a1,())with|none=>none|some (y0,_)=>match(!y0)with
 |true=>some ((-1:Int),())
 |false=>match OJ ((a0.1,(a0.2.1,())),())with|none=>none|some (y1,_)=>match(!y1)with
 |true=>some ((-1:Int),())
 |false=>match OK ((a0.1,(a0.2.1,())),a1,())with|none=>none|some (y2,_)=>some (y2,())
def tof[Lk]:=fun v=>Lk.f (ASf v)
theorem AXr v:tof v=ASf v:=AJ _
def Hg[Lk]:(List U3×Int×List U4×Int×Unit)→Option ((List U3×Int×List U4×Int×Unit)⊕U9⊕(Unit)⊕Unit):=fun(a0,a1,a2,a3,_)=>
 match(ilt a3 (AM a0))with
 |true=>match idx a0 a3 with|none=>none|some x0=>match(ilt x0.1 0)with
  |true=>some (.inr (.inl (10,())))
  |false=>match idx a0 a3 with|none=>none|some x1=>match(ile a1 x1.1)with
  |true=>some (.inr (.inl (10,())))
  |false=>match idx a0 a3 with|none=>none|some x2=>match(ilt x2.2.1 0)with
  |true=>some (.inr (.inl (10,())))
  |false=>match idx a0 a3 with|none=>none|some x3=>match(ile a1 x3.2.1)with
  |true=>some (.inr (.inl (10,())))
  |false=>some (.inl (a0,a1,a2,(IntKind.wrap .i64 (a3+1)),()))
 |false=>some (.inr (.inr (.inl ())))
def Rp[Lk]:(Uk×List U3×Unit)→Option (U9):=fun(a0,a1,_)=>
 match W4 ((a0.1,(a0.2.1,())),())with|none=>none|some (y0,_)=>match(!y0)with
 |true=>some (1,())
 |false=>match AR Hg many (a1,a0.1,a0.2.1,0,())with|none=>none|some r=>match r with
 |.inl (o1,_)=>some (o1,())
 |.inr r=>match r with
 |.inl _=>some (0,())
 |.inr _=>none
def AFZ[Lk]:=fun v=>Lk.f (Rp v)
theorem AOF v:AFZ v=Rp v:=AJ _
def Hx[Lk]:(List U3×Int×List U4×Int×List Bool×Int×Unit)→Option ((List U3×Int×List U4×Int×List Bool×Int×Unit)⊕(Int×List U4×Int×List Bool×Unit)⊕Unit):=fun(a0,a1,a2,a3,a4,a5,_)=>
 match(ilt a5 (AM a0))with
 |true=>match idx a0 a5 with|none=>none|some x0=>match idx a0 a5 with|none=>none|some x1=>match Sx ((a1,(a2,())),x0.1,x1.2.1,())with|none=>none|some (y2,y3,y4,_)=>match(fits ((AM a4)+(AM ([(ieq y4 0)]:List (Bool)))))with
  |true=>some (.inl (a0,y2,y3,a3,(A5 a4 ([(ieq y4 0)]:List (Bool))),(IntKind.wrap .i64 (a5+1)),()))
  |false=>none
 |false=>some (.inr (.inl (a1,a2,a3,a4,())))
def Sw[Lk]:(Uk×List U3×Unit)→Option ((Uk×List Bool×Int×Unit)):=fun(a0,a1,_)=>
 match AFZ ((a0.1,(a0.2.1,())),a1,())with|none=>none|some (y0,_)=>match(!(ieq y0 0))with
 |true=>some ((a0.1,(a0.2.1,())),([]:List (Bool)),y0,())
 |false=>match AR Hx many (a1,a0.1,a0.2.1,0,([]:List (Bool)),0,())with|none=>none|some r=>match r with
 |.inl (o1,o2,o3,o4,_)=>some ((o1,(o2,())),o4,0,())
 |.inr _=>none
def AHP[Lk]:=fun v=>Lk.f (Sw v)
theorem AQq v:AHP v=Sw v:=AJ _
def AQK[Lk]:(Int×List U3×Unit)→Option (Vb):=fun(a0,a1,_)=>
 match AHJ (a0,())with|none=>none|some (y0,y1,y2,_)=>match(!(ieq y2 0))with
 |true=>some ((0,(([]:List U4),())),y2,())
 |false=>match AHP ((y0,(y1,())),a1,())with|none=>none|some (y3,y4,y5,_)=>match(!(ieq y5 0))with
 |true=>some ((0,(([]:List U4),())),y5,())
 |false=>some ((y3.1,(y3.2.1,())),0,())
def Ad0[Lk]:=fun v=>Lk.f (AQK v)
theorem AcJ v:Ad0 v=AQK v:=AJ _
def Jm[Lk]:(Int×Int×Int×List U1×Int×Unit)→Option ((Int×Int×Int×List U1×Int×Unit)⊕U9⊕(Unit)⊕Unit):=fun(a0,a1,a2,a3,a4,_)=>
 match(ilt a4 (AM a3))with
 |true=>match idx a3 a4 with|none=>none|some x0=>match(ieq x0.1 (By a0 a1))with
  |true=>match idx a3 a4 with|none=>none|some x1=>match(ieq x1.2.1 (imax a0 a1))with
   |true=>some (.inr (.inl (a4,())))
   |false=>some (.inl (a0,a1,a2,a3,(IntKind.wrap .i64 (a4+1)),()))
  |false=>some (.inl (a0,a1,a2,a3,(IntKind.wrap .i64 (a4+1)),()))
 |false=>some (.inr (.inr (.inl ())))
def AAp[Lk]:V5→Option (U9):=fun(a0,a1,a2,_)=>
 match Ci ((a0.1,(a0.2.1,())),())with|none=>none|some (y0,_)=>match(!y0)with
 |true=>some ((-1:Int),())
 |false=>match AR Jm many (a1,a2,a0.1,a0.2.1,0,())with|none=>none|some r=>match r with
 |.inl (o1,_)=>some (o1,())
 |.inr r=>match r with
 |.inl _=>some ((-1:Int),())
 |.inr _=>none
def ARb[Lk]:=fun v=>Lk.f (AAp v)
theorem AWs v:ARb v=AAp v:=AJ _
abbrev Rm:AF:=[(.tmp 0,.dat Uc),(.tmp 1,.di)]
abbrev Rl:AF:=[(.tmp 0,.own 42 U5)]
abbrev Rk:List RS:=[.one]
abbrev Xt:AF:=[(.tmp 1,.di),(.tmp 2,.box 2),(.cell 0 0,.di),(.cell 0 1,.dat Uq),(.tmp 5,.own 42 U5),(.tmp 6,.di)]
abbrev Xs:A2:=[(.exit 0,[(.tmp 5,.own 42 U5)])]
def EP[Lk]:(Int×Int×List U1×List U3×Int×Unit)→Option ((Int×Int×List U1×List U3×Int×Unit)⊕V2⊕Unit):=fun(a0,a1,a2,a3,a4,_)=>
 match(ilt a4 (AM a2))with
 |true=>match idx a2 a4 with|none=>none|some x0=>match x0.2.2.2.1 with
  |true=>match idx a2 a4 with|none=>none|some x1=>match(ile a0 x1.2.2.1)with
   |true=>match idx a2 a4 with|none=>none|some x2=>match idx a2 a4 with|none=>none|some x3=>match(fits ((AM a3)+(AM ([(x2.1,(x3.2.1,()))]:List U3))))with
    |true=>some (.inl (a0,a1,a2,(A5 a3 ([(x2.1,(x3.2.1,()))]:List U3)),(IntKind.wrap .i64 (a4+1)),()))
    |false=>none
   |false=>some (.inl (a0,a1,a2,a3,(IntKind.wrap .i64 (a4+1)),()))
  |false=>some (.inl (a0,a1,a2,a3,(IntKind.wrap .i64 (a4+1)),()))
 |false=>some (.inr (.inl (a3,())))
def Mv[Lk]:(Ud×Int×Unit)→Option (V2):=fun(a0,a1,_)=>
 match AR EP many (a1,a0.1,a0.2.1,([]:List U3),0,())with|none=>none|some r=>match r with
 |.inl (o0,_)=>some (o0,())
 |.inr _=>none
def Ia[Lk]:=fun v=>Lk.f (Mv v)
theorem Xu v:Ia v=Mv v:=AJ _
def O1[Lk]:(Ud×Int×Unit)→Option (Vb):=fun(a0,a1,_)=>
 match Ci ((a0.1,(a0.2.1,())),())with|none=>none|some (y0,_)=>match(!y0)with
 |true=>some ((0,(([]:List U4),())),1,())
 |false=>match Ia ((a0.1,(a0.2.1,())),a1,())with|none=>none|some (y1,_)=>match Ad0 (a0.1,y1,())with|none=>none|some (y2,y3,_)=>some ((y2.1,(y2.2.1,())),y3,())
def AMy[Lk]:=fun v=>Lk.f (O1 v)
theorem AMx v:AMy v=O1 v:=AJ _
abbrev YO:AF:=[(.tmp 0,.dat Uc),(.tmp 1,.dat Uc)]
abbrev YN:AF:=[(.tmp 0,.dat .bool)]
abbrev YM:List RS:=[.one]
abbrev ADl:AF:=[(.tmp 2,.box 2),(.cell 0 0,.di),(.cell 0 1,.dat Uq),(.tmp 3,.box 2),(.cell 1 0,.di),(.cell 1 1,.dat Uq),(.tmp 5,.di)]
abbrev ADk:A2:=[(.ret,[(.tmp 4,.dat .bool)]),(.exit 0,[])]
def Ek[Lk]:(Int×List U1×Int×List U1×Int×Unit)→Option ((Int×List U1×Int×List U1×Int×Unit)⊕Uh⊕(Unit)⊕Unit):=fun(a0,a1,a2,a3,a4,_)=>
 match(ilt a4 (AM a1))with
 |true=>match idx a1 a4 with|none=>none|some x0=>match idx a3 a4 with|none=>none|some x1=>match(!(ieq x0.1 x1.1&&(ieq x0.2.1 x1.2.1&&(ieq x0.2.2.1 x1.2.2.1&&((x0.2.2.2.1==x1.2.2.2.1)&&true)))))with
  |true=>some (.inr (.inl (false,())))
  |false=>some (.inl (a0,a1,a2,a3,(IntKind.wrap .i64 (a4+1)),()))
 |false=>some (.inr (.inr (.inl ())))
def Pg[Lk]:(Ud×Ud×Unit)→Option (Uh):=fun(a0,a1,_)=>
 match(!(ieq a0.1 a1.1))with
 |true=>some (false,())
 |false=>match(!(ieq (AM a0.2.1) (AM a1.2.1)))with
 |true=>some (false,())
 |false=>match AR Ek many (a0.1,a0.2.1,a1.1,a1.2.1,0,())with|none=>none|some r=>match r with
 |.inl (o0,_)=>some (o0,())
 |.inr r=>match r with
 |.inl _=>some (true,())
 |.inr _=>none
def Rz[Lk]:=fun v=>Lk.f (Pg v)
theorem ADm v:Rz v=Pg v:=AJ _
def MO[Lk]:(List U3×Int×Int×Int×Unit)→Option ((List U3×Int×Int×Int×Unit)⊕Uh⊕(Unit)⊕Unit):=fun(a0,a1,a2,a3,_)=>
 match(ilt a3 (AM a0))with
 |true=>match idx a0 a3 with|none=>none|some x0=>match(ieq x0.1 a1&&(ieq x0.2.1 a2&&true))with
  |true=>some (.inr (.inl (true,())))
  |false=>some (.inl (a0,a1,a2,(IntKind.wrap .i64 (a3+1)),()))
 |false=>some (.inr (.inr (.inl ())))
def AHu[Lk]:(List U3×U3×Unit)→Option (Uh):=fun(a0,a1,_)=>
 match AR MO many (a0,a1.1,a1.2.1,0,())with|none=>none|some r=>match r with
 |.inl (o0,_)=>some (o0,())
 |.inr r=>match r with
 |.inl _=>some (false,())
 |.inr _=>none
def AMm[Lk]:=fun v=>Lk.f (AHu v)
theorem AaT v:AMm v=AHu v:=AJ _
end
end Go.Pev
end
section
namespace Go.Pev
noncomputable section
attribute [local irreducible] MQ JH Nu K9 AWJ AWK AWL Pp WR WL YE JJ AP many IntKind.wrap AM An AL A5 Bm Dc Jo AE BV By imax AS Ag
def Fj[Lk]:(Int×List U3×List U3×Int×Int×Unit)→Option ((Int×List U3×List U3×Int×Int×Unit)⊕(Int×List U3×List U3×Int×Unit)⊕Unit):=fun(a0,a1,a2,a3,a4,_)=>
 match(ilt a4 a0)with
 |true=>match AMm (a1,(a3,(a4,())),())with|none=>none|some (y0,_)=>match y0 with
  |true=>match(fits ((AM a2)+(AM ([(a3,(a4,()))]:List U3))))with
   |true=>some (.inl (a0,a1,(A5 a2 ([(a3,(a4,()))]:List U3)),a3,(IntKind.wrap .i64 (a4+1)),()))
   |false=>none
  |false=>match AMm (a1,(a4,(a3,())),())with|none=>none|some (y1,_)=>match y1 with
  |true=>match(fits ((AM a2)+(AM ([(a3,(a4,()))]:List U3))))with
   |true=>some (.inl (a0,a1,(A5 a2 ([(a3,(a4,()))]:List U3)),a3,(IntKind.wrap .i64 (a4+1)),()))
   |false=>none
  |false=>some (.inl (a0,a1,a2,a3,(IntKind.wrap .i64 (a4+1)),()))
 |false=>some (.inr (.inl (a0,a1,a2,a3,())))
def Hl[Lk]:(Int×List U3×List U3×Int×Unit)→Option ((Int×List U3×List U3×Int×Unit)⊕V2⊕Unit):=fun(a0,a1,a2,a3,_)=>
 match(ilt a3 a0)with
 |true=>match AR Fj many (a0,a1,a2,a3,(IntKind.wrap .i64 (a3+1)),())with|none=>none|some r=>match r with
  |.inl (o0,o1,o2,o3,_)=>some (.inl (o0,o1,o2,(IntKind.wrap .i64 (o3+1)),()))
  |.inr _=>none
 |false=>some (.inr (.inl (a2,())))
def R8[Lk]:(Int×List U3×Unit)→Option (V2):=fun(a0,a1,_)=>
 match AR Hl many (a0,a1,([]:List U3),0,())with|none=>none|some r=>match r with
 |.inl (o0,_)=>some (o0,())
 |.inr _=>none
def AGM[Lk]:=fun v=>Lk.f (R8 v)
theorem APO v:AGM v=R8 v:=AJ _
abbrev S1:AF:=[(.tmp 0,.dat Uc),(.tmp 1,.di)]
abbrev S0:AF:=[(.tmp 0,.dat Us),(.tmp 1,.di)]
abbrev Sy:List RS:=[.one,.one]
def Jb[Lk]:(Ud×Int×Unit)→Option (Vb):=fun(a0,a1,_)=>
 match Fq ((a0.1,(a0.2.1,())),())with|none=>none|some (y0,_)=>match(!y0)with
 |true=>some ((0,(([]:List U4),())),1,())
 |false=>match Oh ((a0.1,(a0.2.1,())),a1,())with|none=>none|some (y1,_)=>match fof (a0.1,y1,())with|none=>none|some (y2,y3,_)=>some ((y2.1,(y2.2.1,())),y3,())
def NR[Lk]:=fun v=>Lk.f (Jb v)
theorem Oi v:NR v=Jb v:=AJ _
abbrev AHW:AF:=[(.tmp 0,.di),(.tmp 1,.di)]
abbrev AHV:AF:=[(.tmp 0,.dat .bool)]
abbrev AHU:List RS:=[.one]
def XI[Lk]:U3→Option (Uh):=fun(a0,a1,_)=>
 match AQQ (a0,())with|none=>none|some (y0,_)=>match y0 with
 |true=>match AQQ (a1,())with|none=>none|some (y1,_)=>match(!y1)with
  |true=>some (true,())
  |false=>some ((ilt a0 a1),())
 |false=>some ((ilt a0 a1),())
def EB[Lk]:=fun v=>Lk.f (XI v)
theorem AMK v:EB v=XI v:=AJ _
abbrev ARE:AF:=[(.tmp 0,.own 3 U0),(.tmp 1,.di),(.tmp 2,.di)]
abbrev ARD:AF:=[(.obj 0,.own 3 U0)]
abbrev ARC:List RS:=[]
abbrev ATV:AF:=[(.obj 0,.own 3 U0),(.tmp 0,.own' 0),(.tmp 1,.di),(.tmp 2,.di),(.tmp 6,.di),(.tmp 7,.di)]
abbrev ATT:A2:=[(.exit 2,[(.obj 0,.own 3 U0),(.tmp 0,.own' 0),(.tmp 1,.di),(.tmp 2,.di),(.tmp 6,.di)])]
def NS[Lk]:Um→Option (Um⊕U7⊕Unit):=fun(a0,a1,a2,a3,a4,_)=>
 match(ilt a1 a4)with
 |true=>match idx a0 a4 with|none=>none|some x0=>match idx a0 (IntKind.wrap .i64 (a4-1))with|none=>none|some x1=>match EB ((AL a0 (AE a4) 0),(AL a0 (AE (IntKind.wrap .i64 (a4-1))) 0),())with|none=>none|some (y2,_)=>match y2 with
  |true=>match idx a0 (IntKind.wrap .i64 (a4-1))with|none=>none|some x3=>match idx a0 a4 with|none=>none|some x4=>match idx a0 a4 with|none=>none|some x5=>match idx (An a0 (AE a4) (AL a0 (AE (IntKind.wrap .i64 (a4-1))) 0)) (IntKind.wrap .i64 (a4-1))with|none=>none|some x6=>some (.inl ((An (An a0 (AE a4) (AL a0 (AE (IntKind.wrap .i64 (a4-1))) 0)) (AE (IntKind.wrap .i64 (a4-1))) (AL a0 (AE a4) 0)),a1,a2,a3,(IntKind.wrap .i64 (a4-1)),()))
  |false=>some (.inr (.inl (a0,a1,a2,a3,())))
 |false=>some (.inr (.inl (a0,a1,a2,a3,())))
abbrev ATW:AF:=[(.obj 0,.own 3 U0),(.tmp 0,.own' 0),(.tmp 1,.di),(.tmp 2,.di),(.tmp 6,.di)]
abbrev ATU:A2:=[(.exit 0,[(.obj 0,.own 3 U0)])]
def NT[Lk]:U7→Option (U7⊕Ub⊕Unit):=fun(a0,a1,a2,a3,_)=>
 match(ilt a3 a2)with
 |true=>match AR NS many (a0,a1,a2,a3,a3,())with|none=>none|some r=>match r with
  |.inl (o0,o1,o2,o3,_)=>some (.inl (o0,o1,o2,(IntKind.wrap .i64 (o3+1)),()))
  |.inr _=>none
 |false=>some (.inr (.inl (a0,())))
def AHg[Lk]:Ue→Option (Ub):=fun(a0,a1,a2,_)=>
 match AR NT many (a0,a1,a2,(IntKind.wrap .i64 (a1+1)),())with|none=>none|some r=>match r with
 |.inl (o0,_)=>some (o0,())
 |.inr _=>none
def AWE[Lk]:=fun v=>Lk.f (AHg v)
theorem ATX v:AWE v=AHg v:=AJ _
abbrev AFp:AF:=[(.tmp 0,.own 3 U0),(.tmp 1,.di),(.tmp 2,.di),(.tmp 3,.di)]
abbrev AFo:AF:=[(.obj 0,.own 3 U0)]
abbrev AFn:List RS:=[]
abbrev AJ4:AF:=[(.obj 0,.own 3 U0),(.tmp 0,.own' 0),(.tmp 2,.di),(.tmp 3,.di),(.tmp 8,.di)]
abbrev AJ3:A2:=[(.exit 0,[(.obj 0,.own 3 U0)]),(.ret,[(.obj 0,.own 3 U0)])]
def JP[Lk]:U7→Option (U7⊕Ub⊕Ub⊕Unit):=fun(a0,a1,a2,a3,_)=>
 match(ile a1 (IntKind.wrap .i64 ((IntKind.wrap .i64 (2*a3))+1)))with
 |true=>some (.inr (.inl (a0,())))
 |false=>match(ilt (IntKind.wrap .i64 ((IntKind.wrap .i64 ((IntKind.wrap .i64 (2*a3))+1))+1)) a1)with
 |true=>match idx a0 (IntKind.wrap .i64 (a2+(IntKind.wrap .i64 ((IntKind.wrap .i64 (2*a3))+1))))with|none=>none|some x0=>match idx a0 (IntKind.wrap .i64 ((IntKind.wrap .i64 (a2+(IntKind.wrap .i64 ((IntKind.wrap .i64 (2*a3))+1))))+1))with|none=>none|some x1=>match EB ((AL a0 (AE (IntKind.wrap .i64 (a2+(IntKind.wrap .i64 ((IntKind.wrap .i64 (2*a3))+1))))) 0),(AL a0 (AE (IntKind.wrap .i64 ((IntKind.wrap .i64 (a2+(IntKind.wrap .i64 ((IntKind.wrap .i64 (2*a3))+1))))+1))) 0),())with|none=>none|some (y2,_)=>match y2 with
  |true=>match idx a0 (IntKind.wrap .i64 (a2+a3))with|none=>none|some x3=>match idx a0 (IntKind.wrap .i64 (a2+(IntKind.wrap .i64 ((IntKind.wrap .i64 ((IntKind.wrap .i64 (2*a3))+1))+1))))with|none=>none|some x4=>match EB ((AL a0 (AE (IntKind.wrap .i64 (a2+a3))) 0),(AL a0 (AE (IntKind.wrap .i64 (a2+(IntKind.wrap .i64 ((IntKind.wrap .i64 ((IntKind.wrap .i64 (2*a3))+1))+1))))) 0),())with|none=>none|some (y5,_)=>match(!y5)with
   |true=>some (.inr (.inr (.inl (a0,()))))
   |false=>match idx a0 (IntKind.wrap .i64 (a2+(IntKind.wrap .i64 ((IntKind.wrap .i64 ((IntKind.wrap .i64 (2*a3))+1))+1))))with|none=>none|some x6=>match idx a0 (IntKind.wrap .i64 (a2+a3))with|none=>none|some x7=>match idx a0 (IntKind.wrap .i64 (a2+a3))with|none=>none|some x8=>match idx (An a0 (AE (IntKind.wrap .i64 (a2+a3))) (AL a0 (AE (IntKind.wrap .i64 (a2+(IntKind.wrap .i64 ((IntKind.wrap .i64 ((IntKind.wrap .i64 (2*a3))+1))+1))))) 0)) (IntKind.wrap .i64 (a2+(IntKind.wrap .i64 ((IntKind.wrap .i64 ((IntKind.wrap .i64 (2*a3))+1))+1))))with|none=>none|some x9=>some (.inl ((An (An a0 (AE (IntKind.wrap .i64 (a2+a3))) (AL a0 (AE (IntKind.wrap .i64 (a2+(IntKind.wrap .i64 ((IntKind.wrap .i64 ((IntKind.wrap .i64 (2*a3))+1))+1))))) 0)) (AE (IntKind.wrap .i64 (a2+(IntKind.wrap .i64 ((IntKind.wrap .i64 ((IntKind.wrap .i64 (2*a3))+1))+1))))) (AL a0 (AE (IntKind.wrap .i64 (a2+a3))) 0)),a1,a2,(IntKind.wrap .i64 ((IntKind.wrap .i64 ((IntKind.wrap .i64 (2*a3))+1))+1)),()))
  |false=>match idx a0 (IntKind.wrap .i64 (a2+a3))with|none=>none|some x10=>match idx a0 (IntKind.wrap .i64 (a2+(IntKind.wrap .i64 ((IntKind.wrap .i64 (2*a3))+1))))with|none=>none|some x11=>match EB ((AL a0 (AE (IntKind.wrap .i64 (a2+a3))) 0),(AL a0 (AE (IntKind.wrap .i64 (a2+(IntKind.wrap .i64 ((IntKind.wrap .i64 (2*a3))+1))))) 0),())with|none=>none|some (y12,_)=>match(!y12)with
  |true=>some (.inr (.inr (.inl (a0,()))))
  |false=>match idx a0 (IntKind.wrap .i64 (a2+(IntKind.wrap .i64 ((IntKind.wrap .i64 (2*a3))+1))))with|none=>none|some x13=>match idx a0 (IntKind.wrap .i64 (a2+a3))with|none=>none|some x14=>match idx a0 (IntKind.wrap .i64 (a2+a3))with|none=>none|some x15=>match idx (An a0 (AE (IntKind.wrap .i64 (a2+a3))) (AL a0 (AE (IntKind.wrap .i64 (a2+(IntKind.wrap .i64 ((IntKind.wrap .i64 (2*a3))+1))))) 0)) (IntKind.wrap .i64 (a2+(IntKind.wrap .i64 ((IntKind.wrap .i64 (2*a3))+1))))with|none=>none|some x16=>some (.inl ((An (An a0 (AE (IntKind.wrap .i64 (a2+a3))) (AL a0 (AE (IntKind.wrap .i64 (a2+(IntKind.wrap .i64 ((IntKind.wrap .i64 (2*a3))+1))))) 0)) (AE (IntKind.wrap .i64 (a2+(IntKind.wrap .i64 ((IntKind.wrap .i64 (2*a3))+1))))) (AL a0 (AE (IntKind.wrap .i64 (a2+a3))) 0)),a1,a2,(IntKind.wrap .i64 ((IntKind.wrap .i64 (2*a3))+1)),()))
 |false=>match idx a0 (IntKind.wrap .i64 (a2+a3))with|none=>none|some x17=>match idx a0 (IntKind.wrap .i64 (a2+(IntKind.wrap .i64 ((IntKind.wrap .i64 (2*a3))+1))))with|none=>none|some x18=>match EB ((AL a0 (AE (IntKind.wrap .i64 (a2+a3))) 0),(AL a0 (AE (IntKind.wrap .i64 (a2+(IntKind.wrap .i64 ((IntKind.wrap .i64 (2*a3))+1))))) 0),())with|none=>none|some (y19,_)=>match(!y19)with
 |true=>some (.inr (.inr (.inl (a0,()))))
 |false=>match idx a0 (IntKind.wrap .i64 (a2+(IntKind.wrap .i64 ((IntKind.wrap .i64 (2*a3))+1))))with|none=>none|some x20=>match idx a0 (IntKind.wrap .i64 (a2+a3))with|none=>none|some x21=>match idx a0 (IntKind.wrap .i64 (a2+a3))with|none=>none|some x22=>match idx (An a0 (AE (IntKind.wrap .i64 (a2+a3))) (AL a0 (AE (IntKind.wrap .i64 (a2+(IntKind.wrap .i64 ((IntKind.wrap .i64 (2*a3))+1))))) 0)) (IntKind.wrap .i64 (a2+(IntKind.wrap .i64 ((IntKind.wrap .i64 (2*a3))+1))))with|none=>none|some x23=>some (.inl ((An (An a0 (AE (IntKind.wrap .i64 (a2+a3))) (AL a0 (AE (IntKind.wrap .i64 (a2+(IntKind.wrap .i64 ((IntKind.wrap .i64 (2*a3))+1))))) 0)) (AE (IntKind.wrap .i64 (a2+(IntKind.wrap .i64 ((IntKind.wrap .i64 (2*a3))+1))))) (AL a0 (AE (IntKind.wrap .i64 (a2+a3))) 0)),a1,a2,(IntKind.wrap .i64 ((IntKind.wrap .i64 (2*a3))+1)),()))
def W1[Lk]:U7→Option (Ub):=fun(a0,a1,a2,a3,_)=>
 match AR JP many (a0,a2,a3,a1,())with|none=>none|some r=>match r with
 |.inl (o0,_)=>some (o0,())
 |.inr r=>match r with
 |.inl (o1,_)=>some (o1,())
 |.inr _=>none
def ADe[Lk]:=fun v=>Lk.f (W1 v)
theorem AJ5 v:ADe v=W1 v:=AJ _
abbrev AHr:AF:=[(.tmp 0,.own 3 U0),(.tmp 1,.di),(.tmp 2,.di)]
abbrev AHq:AF:=[(.obj 0,.own 3 U0)]
abbrev AHp:List RS:=[]
abbrev AMg:AF:=[(.obj 0,.own 3 U0),(.tmp 0,.own' 0),(.tmp 6,.di),(.tmp 7,.di),(.tmp 10,.di)]
abbrev AMe:A2:=[(.exit 2,[(.obj 0,.own 3 U0)])]
def Je[Lk]:U7→Option (U7⊕Ub⊕Unit):=fun(a0,a1,a2,a3,_)=>
 match(ile 0 a3)with
 |true=>match idx a0 (IntKind.wrap .i64 (a1+a3))with|none=>none|some x0=>match idx a0 a1 with|none=>none|some x1=>match idx a0 a1 with|none=>none|some x2=>match idx (An a0 (AE a1) (AL a0 (AE (IntKind.wrap .i64 (a1+a3))) 0)) (IntKind.wrap .i64 (a1+a3))with|none=>none|some x3=>match ADe ((An (An a0 (AE a1) (AL a0 (AE (IntKind.wrap .i64 (a1+a3))) 0)) (AE (IntKind.wrap .i64 (a1+a3))) (AL a0 (AE a1) 0)),a2,a3,a1,())with|none=>none|some (y4,_)=>some (.inl (y4,a1,a2,(IntKind.wrap .i64 (a3-1)),()))
 |false=>some (.inr (.inl (a0,())))
abbrev AMh:AF:=[(.obj 0,.own 3 U0),(.tmp 0,.own' 0),(.tmp 6,.di),(.tmp 7,.di),(.tmp 8,.di),(.tmp 9,.di)]
abbrev AMf:A2:=[(.exit 0,[(.obj 0,.own 3 U0),(.tmp 0,.own' 0),(.tmp 6,.di),(.tmp 7,.di),(.tmp 8,.di)])]
def Jf[Lk]:Um→Option (Um⊕U7⊕Unit):=fun(a0,a1,a2,a3,a4,_)=>
 match(ile 0 a4)with
 |true=>match ADe (a0,a4,a3,a1,())with|none=>none|some (y0,_)=>some (.inl (y0,a1,a2,a3,(IntKind.wrap .i64 (a4-1)),()))
 |false=>some (.inr (.inl (a0,a1,a2,a3,())))
def XK[Lk]:Ue→Option (Ub):=fun(a0,a1,a2,_)=>
 match quo? .i64 (IntKind.wrap .i64 ((IntKind.wrap .i64 (a2-a1))-1)) 2 with|none=>none|some x0=>match AR Jf many (a0,a1,0,(IntKind.wrap .i64 (a2-a1)),x0,())with|none=>none|some r=>match r with
 |.inl (o1,o2,o3,o4,_)=>match AR Je many (o1,o2,o3,(IntKind.wrap .i64 (o4-1)),())with|none=>none|some r=>match r with
  |.inl (o5,_)=>some (o5,())
  |.inr _=>none
 |.inr _=>none
def AES[Lk]:=fun v=>Lk.f (XK v)
theorem AMi v:AES v=XK v:=AJ _
abbrev ABV:AF:=[(.tmp 0,.own 3 U0),(.tmp 1,.di),(.tmp 2,.di)]
abbrev ABU:AF:=[(.obj 0,.own 3 U0)]
abbrev ABT:List RS:=[]
abbrev AEj:AF:=[(.obj 0,.own 3 U0),(.tmp 0,.own' 0),(.tmp 1,.di),(.tmp 6,.di),(.tmp 7,.box 1),(.cell 1 0,.dat (.int .u64)),(.tmp 8,.dat (.int .u64)),(.tmp 9,.di)]
abbrev AEi:A2:=[(.exit 0,[(.obj 0,.own 3 U0)])]
def GC[Lk]:Ut→Option (Ut⊕Ub⊕Unit):=fun(a0,a1,a2,a3,a4,a5,_)=>
 match quo? .i64 a2 4 with|none=>none|some x0=>match(ile a5 (IntKind.wrap .i64 ((IntKind.wrap .i64 (a1+(IntKind.wrap .i64 (x0*2))))+1)))with
 |true=>match xorNext (a3,())with|none=>none|some (y1,y2,_)=>match(ile a2 (IntKind.wrap .i64 (IntKind.wrap .u64 ((BitVec.ofInt (IntKind.bits .u64) y2 &&& BitVec.ofInt (IntKind.bits .u64) (IntKind.wrap .u64 (a4-1))).toNat))))with
  |true=>match idx a0 (IntKind.wrap .i64 (a1+(IntKind.wrap .i64 ((IntKind.wrap .i64 (IntKind.wrap .u64 ((BitVec.ofInt (IntKind.bits .u64) y2 &&& BitVec.ofInt (IntKind.bits .u64) (IntKind.wrap .u64 (a4-1))).toNat)))-a2))))with|none=>none|some x3=>match idx a0 a5 with|none=>none|some x4=>match idx a0 a5 with|none=>none|some x5=>match idx (An a0 (AE a5) (AL a0 (AE (IntKind.wrap .i64 (a1+(IntKind.wrap .i64 ((IntKind.wrap .i64 (IntKind.wrap .u64 ((BitVec.ofInt (IntKind.bits .u64) y2 &&& BitVec.ofInt (IntKind.bits .u64) (IntKind.wrap .u64 (a4-1))).toNat)))-a2))))) 0)) (IntKind.wrap .i64 (a1+(IntKind.wrap .i64 ((IntKind.wrap .i64 (IntKind.wrap .u64 ((BitVec.ofInt (IntKind.bits .u64) y2 &&& BitVec.ofInt (IntKind.bits .u64) (IntKind.wrap .u64 (a4-1))).toNat)))-a2))))with|none=>none|some x6=>some (.inl ((An (An a0 (AE a5) (AL a0 (AE (IntKind.wrap .i64 (a1+(IntKind.wrap .i64 ((IntKind.wrap .i64 (IntKind.wrap .u64 ((BitVec.ofInt (IntKind.bits .u64) y2 &&& BitVec.ofInt (IntKind.bits .u64) (IntKind.wrap .u64 (a4-1))).toNat)))-a2))))) 0)) (AE (IntKind.wrap .i64 (a1+(IntKind.wrap .i64 ((IntKind.wrap .i64 (IntKind.wrap .u64 ((BitVec.ofInt (IntKind.bits .u64) y2 &&& BitVec.ofInt (IntKind.bits .u64) (IntKind.wrap .u64 (a4-1))).toNat)))-a2))))) (AL a0 (AE a5) 0)),a1,a2,y1,a4,(IntKind.wrap .i64 (a5+1)),()))
  |false=>match idx a0 (IntKind.wrap .i64 (a1+(IntKind.wrap .i64 (IntKind.wrap .u64 ((BitVec.ofInt (IntKind.bits .u64) y2 &&& BitVec.ofInt (IntKind.bits .u64) (IntKind.wrap .u64 (a4-1))).toNat)))))with|none=>none|some x7=>match idx a0 a5 with|none=>none|some x8=>match idx a0 a5 with|none=>none|some x9=>match idx (An a0 (AE a5) (AL a0 (AE (IntKind.wrap .i64 (a1+(IntKind.wrap .i64 (IntKind.wrap .u64 ((BitVec.ofInt (IntKind.bits .u64) y2 &&& BitVec.ofInt (IntKind.bits .u64) (IntKind.wrap .u64 (a4-1))).toNat)))))) 0)) (IntKind.wrap .i64 (a1+(IntKind.wrap .i64 (IntKind.wrap .u64 ((BitVec.ofInt (IntKind.bits .u64) y2 &&& BitVec.ofInt (IntKind.bits .u64) (IntKind.wrap .u64 (a4-1))).toNat)))))with|none=>none|some x10=>some (.inl ((An (An a0 (AE a5) (AL a0 (AE (IntKind.wrap .i64 (a1+(IntKind.wrap .i64 (IntKind.wrap .u64 ((BitVec.ofInt (IntKind.bits .u64) y2 &&& BitVec.ofInt (IntKind.bits .u64) (IntKind.wrap .u64 (a4-1))).toNat)))))) 0)) (AE (IntKind.wrap .i64 (a1+(IntKind.wrap .i64 (IntKind.wrap .u64 ((BitVec.ofInt (IntKind.bits .u64) y2 &&& BitVec.ofInt (IntKind.bits .u64) (IntKind.wrap .u64 (a4-1))).toNat)))))) (AL a0 (AE a5) 0)),a1,a2,y1,a4,(IntKind.wrap .i64 (a5+1)),()))
 |false=>some (.inr (.inl (a0,())))
def Q3[Lk]:Ue→Option (Ub):=fun(a0,a1,a2,_)=>
 match(ile 8 (IntKind.wrap .i64 (a2-a1)))with
 |true=>match NH ((IntKind.wrap .i64 (a2-a1)),())with|none=>none|some (y0,_)=>match quo? .i64 (IntKind.wrap .i64 (a2-a1)) 4 with|none=>none|some x1=>match AR GC many (a0,a1,(IntKind.wrap .i64 (a2-a1)),(IntKind.wrap .u64 (IntKind.wrap .i64 (a2-a1))),y0,(IntKind.wrap .i64 ((IntKind.wrap .i64 (a1+(IntKind.wrap .i64 (x1*2))))-1)),())with|none=>none|some r=>match r with
  |.inl (o2,_)=>some (o2,())
  |.inr _=>none
 |false=>some (a0,())
def Ta[Lk]:=fun v=>Lk.f (Q3 v)
theorem AEk v:Ta v=Q3 v:=AJ _
abbrev SY:AF:=[(.tmp 0,.own 3 U0),(.tmp 1,.di),(.tmp 2,.di),(.tmp 3,.box 1),(.cell 1 0,.di)]
abbrev SX:AF:=[(.obj 0,.own 3 U0),(.obj 1,.box 1),(.cell 1 0,.di),(.tmp 0,.di),(.tmp 1,.di)]
abbrev SW:List RS:=[.one,.one]
def NB[Lk]:U7→Option (U7):=fun(a0,a1,a2,a3,_)=>
 match idx a0 a2 with|none=>none|some x0=>match idx a0 a1 with|none=>none|some x1=>match EB ((AL a0 (AE a2) 0),(AL a0 (AE a1) 0),())with|none=>none|some (y2,_)=>match y2 with
 |true=>some (a0,(IntKind.wrap .i64 (a3+1)),a2,a1,())
 |false=>some (a0,a3,a1,a2,())
def KG[Lk]:=fun v=>Lk.f (NB v)
theorem Zn v:KG v=NB v:=AJ _
abbrev Sj:AF:=[(.tmp 0,.own 3 U0),(.tmp 1,.di),(.tmp 2,.di),(.tmp 3,.di),(.tmp 4,.box 1),(.cell 1 0,.di)]
abbrev Si:AF:=[(.obj 0,.own 3 U0),(.obj 1,.box 1),(.cell 1 0,.di),(.tmp 0,.di)]
abbrev Sh:List RS:=[.one]
def NJ[Lk]:Um→Option (Ue):=fun(a0,a1,a2,a3,a4,_)=>
 match KG (a0,a1,a2,a4,())with|none=>none|some (y0,y1,y2,y3,_)=>match KG (y0,y3,a3,y1,())with|none=>none|some (y4,y5,y6,y7,_)=>match KG (y4,y2,y6,y5,())with|none=>none|some (y8,y9,y10,y11,_)=>some (y8,y9,y11,())
def KN[Lk]:=fun v=>Lk.f (NJ v)
theorem Zw v:KN v=NJ v:=AJ _
abbrev Sp:AF:=[(.tmp 0,.own 3 U0),(.tmp 1,.di),(.tmp 2,.box 1),(.cell 1 0,.di)]
abbrev So:AF:=[(.obj 0,.own 3 U0),(.obj 1,.box 1),(.cell 1 0,.di),(.tmp 0,.di)]
abbrev Sn:List RS:=[.one]
def NM[Lk]:Ue→Option (Ue):=fun(a0,a1,a2,_)=>
 match KN (a0,(IntKind.wrap .i64 (a1-1)),a1,(IntKind.wrap .i64 (a1+1)),a2,())with|none=>none|some (y0,y1,y2,_)=>some (y0,y1,y2,())
def KO[Lk]:=fun v=>Lk.f (NM v)
theorem Zx v:KO v=NM v:=AJ _
abbrev Y6:AF:=[(.tmp 0,.own 3 U0),(.tmp 1,.di),(.tmp 2,.di)]
abbrev Y5:AF:=[(.obj 0,.own 3 U0),(.tmp 0,.di),(.tmp 1,.di)]
abbrev Y4:List RS:=[.one,.one]
def Px[Lk]:Ue→Option (Ue):=fun(a0,a1,a2,_)=>
 match quo? .i64 (IntKind.wrap .i64 (a2-a1)) 4 with|none=>none|some x0=>match quo? .i64 (IntKind.wrap .i64 (a2-a1)) 4 with|none=>none|some x1=>match quo? .i64 (IntKind.wrap .i64 (a2-a1)) 4 with|none=>none|some x2=>match(ile 8 (IntKind.wrap .i64 (a2-a1)))with
 |true=>match(ile 50 (IntKind.wrap .i64 (a2-a1)))with
  |true=>match KO (a0,(IntKind.wrap .i64 (a1+(IntKind.wrap .i64 (x0*1)))),0,())with|none=>none|some (y3,y4,y5,_)=>match KO (y3,(IntKind.wrap .i64 (a1+(IntKind.wrap .i64 (x1*2)))),y4,())with|none=>none|some (y6,y7,y8,_)=>match KO (y6,(IntKind.wrap .i64 (a1+(IntKind.wrap .i64 (x2*3)))),y7,())with|none=>none|some (y9,y10,y11,_)=>match KN (y9,y5,y8,y11,y10,())with|none=>none|some (y12,y13,y14,_)=>match(ieq y13 0)with
   |true=>some (y12,y14,1,())
   |false=>match(ieq y13 12)with
   |true=>some (y12,y14,2,())
   |false=>some (y12,y14,0,())
  |false=>match KN (a0,(IntKind.wrap .i64 (a1+(IntKind.wrap .i64 (x0*1)))),(IntKind.wrap .i64 (a1+(IntKind.wrap .i64 (x1*2)))),(IntKind.wrap .i64 (a1+(IntKind.wrap .i64 (x2*3)))),0,())with|none=>none|some (y15,y16,y17,_)=>match(ieq y16 0)with
  |true=>some (y15,y17,1,())
  |false=>match(ieq y16 12)with
  |true=>some (y15,y17,2,())
  |false=>some (y15,y17,0,())
 |false=>match(ieq 0 0)with
 |true=>some (a0,(IntKind.wrap .i64 (a1+(IntKind.wrap .i64 (x1*2)))),1,())
 |false=>match(ieq 0 12)with
 |true=>some (a0,(IntKind.wrap .i64 (a1+(IntKind.wrap .i64 (x1*2)))),2,())
 |false=>some (a0,(IntKind.wrap .i64 (a1+(IntKind.wrap .i64 (x1*2)))),0,())
def SC[Lk]:=fun v=>Lk.f (Px v)
theorem AD1 v:SC v=Px v:=AJ _
abbrev AO4:AF:=[(.tmp 0,.own 3 U0),(.tmp 1,.di),(.tmp 2,.di)]
abbrev AO3:AF:=[(.obj 0,.own 3 U0)]
abbrev AO2:List RS:=[]
abbrev ASt:AF:=[(.obj 0,.own 3 U0),(.tmp 0,.own' 0),(.tmp 6,.di),(.tmp 7,.di)]
abbrev ASs:A2:=[(.exit 0,[(.obj 0,.own 3 U0)])]
def Pn[Lk]:Ue→Option (Ue⊕Ub⊕Unit):=fun(a0,a1,a2,_)=>
 match(ilt a1 a2)with
 |true=>match idx a0 a2 with|none=>none|some x0=>match idx a0 a1 with|none=>none|some x1=>match idx a0 a1 with|none=>none|some x2=>match idx (An a0 (AE a1) (AL a0 (AE a2) 0)) a2 with|none=>none|some x3=>some (.inl ((An (An a0 (AE a1) (AL a0 (AE a2) 0)) (AE a2) (AL a0 (AE a1) 0)),(IntKind.wrap .i64 (a1+1)),(IntKind.wrap .i64 (a2-1)),()))
 |false=>some (.inr (.inl (a0,())))
def AF6[Lk]:Ue→Option (Ub):=fun(a0,a1,a2,_)=>
 match AR Pn many (a0,a1,(IntKind.wrap .i64 (a2-1)),())with|none=>none|some r=>match r with
 |.inl (o0,_)=>some (o0,())
 |.inr _=>none
def AUr[Lk]:=fun v=>Lk.f (AF6 v)
theorem ASu v:AUr v=AF6 v:=AJ _
abbrev Oa:AF:=[(.tmp 0,.own 3 U0),(.tmp 1,.di),(.tmp 2,.di)]
abbrev OZ:AF:=[(.obj 0,.own 3 U0),(.tmp 0,.dat .bool)]
abbrev OY:List RS:=[.one]
abbrev VC:AF:=[(.obj 0,.own 3 U0),(.tmp 0,.own' 0),(.tmp 1,.di),(.tmp 2,.di),(.tmp 7,.di),(.tmp 8,.di),(.tmp 10,.di)]
abbrev UY:A2:=[(.exit 6,[(.obj 0,.own 3 U0),(.tmp 0,.own' 0),(.tmp 1,.di),(.tmp 2,.di),(.tmp 7,.di),(.tmp 8,.di)])]
def Ep[Lk]:Ut→Option (Ut⊕Um⊕Unit):=fun(a0,a1,a2,a3,a4,a5,_)=>
 match(ilt a5 a2)with
 |true=>match idx a0 a5 with|none=>none|some x0=>match idx a0 (IntKind.wrap .i64 (a5-1))with|none=>none|some x1=>match EB ((AL a0 (AE a5) 0),(AL a0 (AE (IntKind.wrap .i64 (a5-1))) 0),())with|none=>none|some (y2,_)=>match(!y2)with
  |true=>some (.inr (.inl (a0,a1,a2,a3,a4,())))
  |false=>match idx a0 (IntKind.wrap .i64 (a5-1))with|none=>none|some x3=>match idx a0 a5 with|none=>none|some x4=>match idx a0 a5 with|none=>none|some x5=>match idx (An a0 (AE a5) (AL a0 (AE (IntKind.wrap .i64 (a5-1))) 0)) (IntKind.wrap .i64 (a5-1))with|none=>none|some x6=>some (.inl ((An (An a0 (AE a5) (AL a0 (AE (IntKind.wrap .i64 (a5-1))) 0)) (AE (IntKind.wrap .i64 (a5-1))) (AL a0 (AE a5) 0)),a1,a2,a3,a4,(IntKind.wrap .i64 (a5+1)),()))
 |false=>some (.inr (.inl (a0,a1,a2,a3,a4,())))
abbrev VD:AF:=[(.obj 0,.own 3 U0),(.tmp 0,.own' 0),(.tmp 1,.di),(.tmp 2,.di),(.tmp 7,.di),(.tmp 8,.di),(.tmp 9,.di)]
abbrev UZ:A2:=[(.exit 4,[(.obj 0,.own 3 U0),(.tmp 0,.own' 0),(.tmp 1,.di),(.tmp 2,.di),(.tmp 7,.di),(.tmp 8,.di)])]
def Er[Lk]:Ut→Option (Ut⊕Um⊕Unit):=fun(a0,a1,a2,a3,a4,a5,_)=>
 match(ile 1 a5)with
 |true=>match idx a0 a5 with|none=>none|some x0=>match idx a0 (IntKind.wrap .i64 (a5-1))with|none=>none|some x1=>match EB ((AL a0 (AE a5) 0),(AL a0 (AE (IntKind.wrap .i64 (a5-1))) 0),())with|none=>none|some (y2,_)=>match(!y2)with
  |true=>some (.inr (.inl (a0,a1,a2,a3,a4,())))
  |false=>match idx a0 (IntKind.wrap .i64 (a5-1))with|none=>none|some x3=>match idx a0 a5 with|none=>none|some x4=>match idx a0 a5 with|none=>none|some x5=>match idx (An a0 (AE a5) (AL a0 (AE (IntKind.wrap .i64 (a5-1))) 0)) (IntKind.wrap .i64 (a5-1))with|none=>none|some x6=>some (.inl ((An (An a0 (AE a5) (AL a0 (AE (IntKind.wrap .i64 (a5-1))) 0)) (AE (IntKind.wrap .i64 (a5-1))) (AL a0 (AE a5) 0)),a1,a2,a3,a4,(IntKind.wrap .i64 (a5-1)),()))
 |false=>some (.inr (.inl (a0,a1,a2,a3,a4,())))
abbrev VE:AF:=[(.obj 0,.own 3 U0),(.tmp 0,.own' 0),(.tmp 1,.di),(.tmp 2,.di),(.tmp 7,.di),(.tmp 8,.di)]
abbrev VA:A2:=[(.exit 2,[(.obj 0,.own 3 U0),(.tmp 0,.own' 0),(.tmp 1,.di),(.tmp 2,.di),(.tmp 7,.di),(.tmp 8,.di)])]
def Ga[Lk]:Um→Option (Um⊕Um⊕Unit):=fun(a0,a1,a2,a3,a4,_)=>
 match(ilt a3 a2)with
 |true=>match idx a0 a3 with|none=>none|some x0=>match idx a0 (IntKind.wrap .i64 (a3-1))with|none=>none|some x1=>match EB ((AL a0 (AE a3) 0),(AL a0 (AE (IntKind.wrap .i64 (a3-1))) 0),())with|none=>none|some (y2,_)=>match(!y2)with
  |true=>some (.inl (a0,a1,a2,(IntKind.wrap .i64 (a3+1)),a4,()))
  |false=>some (.inr (.inl (a0,a1,a2,a3,a4,())))
 |false=>some (.inr (.inl (a0,a1,a2,a3,a4,())))
abbrev VF:AF:=[(.obj 0,.own 3 U0),(.tmp 0,.own' 0),(.tmp 1,.di),(.tmp 2,.di),(.tmp 7,.di),(.tmp 8,.di)]
abbrev VB:A2:=[(.ret,[(.obj 0,.own 3 U0),(.tmp 6,.dat .bool)]),(.exit 0,[(.obj 0,.own 3 U0)])]
def CS[Lk]:Um→Option (Um⊕Vg⊕Ub⊕Unit):=fun(a0,a1,a2,a3,a4,_)=>
 match(ilt a4 5)with
 |true=>match AR Ga many (a0,a1,a2,a3,a4,())with|none=>none|some r=>match r with
  |.inl (o0,o1,o2,o3,o4,_)=>match(ieq o3 o2)with
   |true=>some (.inr (.inl (o0,true,())))
   |false=>match(ilt (IntKind.wrap .i64 (o2-o1)) 50)with
   |true=>some (.inr (.inl (o0,false,())))
   |false=>match idx o0 (IntKind.wrap .i64 (o3-1))with|none=>none|some x5=>match idx o0 o3 with|none=>none|some x6=>match idx o0 o3 with|none=>none|some x7=>match idx (An o0 (AE o3) (AL o0 (AE (IntKind.wrap .i64 (o3-1))) 0)) (IntKind.wrap .i64 (o3-1))with|none=>none|some x8=>match(ile 2 (IntKind.wrap .i64 (o3-o1)))with
   |true=>match AR Er many ((An (An o0 (AE o3) (AL o0 (AE (IntKind.wrap .i64 (o3-1))) 0)) (AE (IntKind.wrap .i64 (o3-1))) (AL o0 (AE o3) 0)),o1,o2,o3,o4,(IntKind.wrap .i64 (o3-1)),())with|none=>none|some r=>match r with
    |.inl (o9,o10,o11,o12,o13,_)=>match(ile 2 (IntKind.wrap .i64 (o11-o12)))with
     |true=>match AR Ep many (o9,o10,o11,o12,o13,(IntKind.wrap .i64 (o12+1)),())with|none=>none|some r=>match r with
      |.inl (o14,o15,o16,o17,o18,_)=>some (.inl (o14,o15,o16,o17,(IntKind.wrap .i64 (o18+1)),()))
      |.inr _=>none
     |false=>some (.inl (o9,o10,o11,o12,(IntKind.wrap .i64 (o13+1)),()))
    |.inr _=>none
   |false=>match(ile 2 (IntKind.wrap .i64 (o2-o3)))with
   |true=>match AR Ep many ((An (An o0 (AE o3) (AL o0 (AE (IntKind.wrap .i64 (o3-1))) 0)) (AE (IntKind.wrap .i64 (o3-1))) (AL o0 (AE o3) 0)),o1,o2,o3,o4,(IntKind.wrap .i64 (o3+1)),())with|none=>none|some r=>match r with
    |.inl (o19,o20,o21,o22,o23,_)=>some (.inl (o19,o20,o21,o22,(IntKind.wrap .i64 (o23+1)),()))
    |.inr _=>none
   |false=>some (.inl ((An (An o0 (AE o3) (AL o0 (AE (IntKind.wrap .i64 (o3-1))) 0)) (AE (IntKind.wrap .i64 (o3-1))) (AL o0 (AE o3) 0)),o1,o2,o3,(IntKind.wrap .i64 (o4+1)),()))
  |.inr _=>none
 |false=>some (.inr (.inr (.inl (a0,()))))
def KB[Lk]:Ue→Option (Vg):=fun(a0,a1,a2,_)=>
 match AR CS many (a0,a1,a2,(IntKind.wrap .i64 (a1+1)),0,())with|none=>none|some r=>match r with
 |.inl (o0,o1,_)=>some (o0,o1,())
 |.inr r=>match r with
 |.inl (o2,_)=>some (o2,false,())
 |.inr _=>none
def JU[Lk]:=fun v=>Lk.f (KB v)
theorem VG v:JU v=KB v:=AJ _
abbrev SR:AF:=[(.tmp 0,.own 3 U0),(.tmp 1,.di),(.tmp 2,.di),(.tmp 3,.di)]
abbrev SQ:AF:=[(.obj 0,.own 3 U0),(.tmp 0,.di)]
abbrev SO:List RS:=[.one]
abbrev Zi:AF:=[(.obj 0,.own 3 U0),(.tmp 0,.own' 0),(.tmp 1,.di),(.tmp 9,.di),(.tmp 10,.di)]
abbrev Zf:A2:=[(.exit 4,[(.obj 0,.own 3 U0),(.tmp 0,.own' 0),(.tmp 1,.di),(.tmp 9,.di),(.tmp 10,.di)])]
def Hq[Lk]:U7→Option Vj:=fun(a0,a1,a2,a3,_)=>
 match(ile a2 a3)with
 |true=>match idx a0 a1 with|none=>none|some x0=>match idx a0 a3 with|none=>none|some x1=>match EB ((AL a0 (AE a1) 0),(AL a0 (AE a3) 0),())with|none=>none|some (y2,_)=>match y2 with
  |true=>some (.inl (a0,a1,a2,(IntKind.wrap .i64 (a3-1)),()))
  |false=>some (.inr (.inl (a0,a1,a2,a3,())))
 |false=>some (.inr (.inl (a0,a1,a2,a3,())))
abbrev Zj:AF:=[(.obj 0,.own 3 U0),(.tmp 0,.own' 0),(.tmp 1,.di),(.tmp 9,.di),(.tmp 10,.di)]
abbrev Zg:A2:=[(.exit 2,[(.obj 0,.own 3 U0),(.tmp 0,.own' 0),(.tmp 1,.di),(.tmp 9,.di),(.tmp 10,.di)])]
def Hr[Lk]:U7→Option Vj:=fun(a0,a1,a2,a3,_)=>
 match(ile a2 a3)with
 |true=>match idx a0 a1 with|none=>none|some x0=>match idx a0 a2 with|none=>none|some x1=>match EB ((AL a0 (AE a1) 0),(AL a0 (AE a2) 0),())with|none=>none|some (y2,_)=>match(!y2)with
  |true=>some (.inl (a0,a1,(IntKind.wrap .i64 (a2+1)),a3,()))
  |false=>some (.inr (.inl (a0,a1,a2,a3,())))
 |false=>some (.inr (.inl (a0,a1,a2,a3,())))
abbrev Zk:AF:=[(.obj 0,.own 3 U0),(.tmp 0,.own' 0),(.tmp 1,.di),(.tmp 9,.di),(.tmp 10,.di)]
abbrev Zh:A2:=[(.exit 0,[(.obj 0,.own 3 U0),(.tmp 9,.di)])]
def Hs[Lk]:U7→Option (U7⊕Ur⊕Unit):=fun(a0,a1,a2,a3,_)=>
 match AR Hr many (a0,a1,a2,a3,())with|none=>none|some r=>match r with
 |.inl (o0,o1,o2,o3,_)=>match AR Hq many (o0,o1,o2,o3,())with|none=>none|some r=>match r with
  |.inl (o4,o5,o6,o7,_)=>match(ilt o7 o6)with
   |true=>some (.inr (.inl (o4,o6,())))
   |false=>match idx o4 o7 with|none=>none|some x8=>match idx o4 o6 with|none=>none|some x9=>match idx o4 o6 with|none=>none|some x10=>match idx (An o4 (AE o6) (AL o4 (AE o7) 0)) o7 with|none=>none|some x11=>some (.inl ((An (An o4 (AE o6) (AL o4 (AE o7) 0)) (AE o7) (AL o4 (AE o6) 0)),o5,(IntKind.wrap .i64 (o6+1)),(IntKind.wrap .i64 (o7-1)),()))
  |.inr _=>none
 |.inr _=>none
def M8[Lk]:U7→Option (Ur):=fun(a0,a1,a2,a3,_)=>
 match idx a0 a3 with|none=>none|some x0=>match idx a0 a1 with|none=>none|some x1=>match idx a0 a1 with|none=>none|some x2=>match idx (An a0 (AE a1) (AL a0 (AE a3) 0)) a3 with|none=>none|some x3=>match AR Hs many ((An (An a0 (AE a1) (AL a0 (AE a3) 0)) (AE a3) (AL a0 (AE a1) 0)),a1,(IntKind.wrap .i64 (a1+1)),(IntKind.wrap .i64 (a2-1)),())with|none=>none|some r=>match r with
 |.inl (o4,o5,_)=>some (o4,o5,())
 |.inr _=>none
def M9[Lk]:=fun v=>Lk.f (M8 v)
theorem Zl v:M9 v=M8 v:=AJ _
abbrev AGr:AF:=[(.tmp 0,.own 3 U0),(.tmp 1,.di),(.tmp 2,.di),(.tmp 3,.di)]
abbrev AGq:AF:=[(.obj 0,.own 3 U0),(.tmp 0,.di),(.tmp 1,.dat .bool)]
abbrev AGp:List RS:=[.one,.one]
abbrev ALf:AF:=[(.obj 0,.own 3 U0),(.tmp 0,.own' 0),(.tmp 1,.di),(.tmp 10,.di),(.tmp 11,.di)]
abbrev ALa:A2:=[(.exit 8,[(.obj 0,.own 3 U0),(.tmp 0,.own' 0),(.tmp 1,.di),(.tmp 10,.di),(.tmp 11,.di)])]
def Lt[Lk]:U7→Option Vj:=fun(a0,a1,a2,a3,_)=>
 match(ile a2 a3)with
 |true=>match idx a0 a3 with|none=>none|some x0=>match idx a0 a1 with|none=>none|some x1=>match EB ((AL a0 (AE a3) 0),(AL a0 (AE a1) 0),())with|none=>none|some (y2,_)=>match(!y2)with
  |true=>some (.inl (a0,a1,a2,(IntKind.wrap .i64 (a3-1)),()))
  |false=>some (.inr (.inl (a0,a1,a2,a3,())))
 |false=>some (.inr (.inl (a0,a1,a2,a3,())))
abbrev ALg:AF:=[(.obj 0,.own 3 U0),(.tmp 0,.own' 0),(.tmp 1,.di),(.tmp 10,.di),(.tmp 11,.di)]
abbrev ALb:A2:=[(.exit 6,[(.obj 0,.own 3 U0),(.tmp 0,.own' 0),(.tmp 1,.di),(.tmp 10,.di),(.tmp 11,.di)])]
def Lu[Lk]:U7→Option Vj:=fun(a0,a1,a2,a3,_)=>
 match(ile a2 a3)with
 |true=>match idx a0 a2 with|none=>none|some x0=>match idx a0 a1 with|none=>none|some x1=>match EB ((AL a0 (AE a2) 0),(AL a0 (AE a1) 0),())with|none=>none|some (y2,_)=>match y2 with
  |true=>some (.inl (a0,a1,(IntKind.wrap .i64 (a2+1)),a3,()))
  |false=>some (.inr (.inl (a0,a1,a2,a3,())))
 |false=>some (.inr (.inl (a0,a1,a2,a3,())))
abbrev ALh:AF:=[(.obj 0,.own 3 U0),(.tmp 0,.own' 0),(.tmp 1,.di),(.tmp 10,.di),(.tmp 11,.di)]
abbrev ALc:A2:=[(.exit 4,[(.obj 0,.own 3 U0),(.tmp 0,.own' 0),(.tmp 1,.di),(.tmp 11,.di)])]
def Lv[Lk]:U7→Option (U7⊕Ue⊕Unit):=fun(a0,a1,a2,a3,_)=>
 match AR Lu many (a0,a1,a2,a3,())with|none=>none|some r=>match r with
 |.inl (o0,o1,o2,o3,_)=>match AR Lt many (o0,o1,o2,o3,())with|none=>none|some r=>match r with
  |.inl (o4,o5,o6,o7,_)=>match(ilt o7 o6)with
   |true=>some (.inr (.inl (o4,o5,o7,())))
   |false=>match idx o4 o7 with|none=>none|some x8=>match idx o4 o6 with|none=>none|some x9=>match idx o4 o6 with|none=>none|some x10=>match idx (An o4 (AE o6) (AL o4 (AE o7) 0)) o7 with|none=>none|some x11=>some (.inl ((An (An o4 (AE o6) (AL o4 (AE o7) 0)) (AE o7) (AL o4 (AE o6) 0)),o5,(IntKind.wrap .i64 (o6+1)),(IntKind.wrap .i64 (o7-1)),()))
  |.inr _=>none
 |.inr _=>none
abbrev ALi:AF:=[(.obj 0,.own 3 U0),(.tmp 0,.own' 0),(.tmp 1,.di),(.tmp 10,.di),(.tmp 11,.di)]
abbrev ALd:A2:=[(.exit 2,[(.obj 0,.own 3 U0),(.tmp 0,.own' 0),(.tmp 1,.di),(.tmp 10,.di),(.tmp 11,.di)])]
def Lw[Lk]:U7→Option Vj:=fun(a0,a1,a2,a3,_)=>
 match(ile a2 a3)with
 |true=>match idx a0 a3 with|none=>none|some x0=>match idx a0 a1 with|none=>none|some x1=>match EB ((AL a0 (AE a3) 0),(AL a0 (AE a1) 0),())with|none=>none|some (y2,_)=>match(!y2)with
  |true=>some (.inl (a0,a1,a2,(IntKind.wrap .i64 (a3-1)),()))
  |false=>some (.inr (.inl (a0,a1,a2,a3,())))
 |false=>some (.inr (.inl (a0,a1,a2,a3,())))
abbrev ALj:AF:=[(.obj 0,.own 3 U0),(.tmp 0,.own' 0),(.tmp 1,.di),(.tmp 10,.di),(.tmp 11,.di)]
abbrev ALe:A2:=[(.exit 0,[(.obj 0,.own 3 U0),(.tmp 0,.own' 0),(.tmp 1,.di),(.tmp 10,.di),(.tmp 11,.di)])]
def Lx[Lk]:U7→Option Vj:=fun(a0,a1,a2,a3,_)=>
 match(ile a2 a3)with
 |true=>match idx a0 a2 with|none=>none|some x0=>match idx a0 a1 with|none=>none|some x1=>match EB ((AL a0 (AE a2) 0),(AL a0 (AE a1) 0),())with|none=>none|some (y2,_)=>match y2 with
  |true=>some (.inl (a0,a1,(IntKind.wrap .i64 (a2+1)),a3,()))
  |false=>some (.inr (.inl (a0,a1,a2,a3,())))
 |false=>some (.inr (.inl (a0,a1,a2,a3,())))
def XA[Lk]:U7→Option ((List Int×Int×Bool×Unit)):=fun(a0,a1,a2,a3,_)=>
 match idx a0 a3 with|none=>none|some x0=>match idx a0 a1 with|none=>none|some x1=>match idx a0 a1 with|none=>none|some x2=>match idx (An a0 (AE a1) (AL a0 (AE a3) 0)) a3 with|none=>none|some x3=>match AR Lx many ((An (An a0 (AE a1) (AL a0 (AE a3) 0)) (AE a3) (AL a0 (AE a1) 0)),a1,(IntKind.wrap .i64 (a1+1)),(IntKind.wrap .i64 (a2-1)),())with|none=>none|some r=>match r with
 |.inl (o4,o5,o6,o7,_)=>match AR Lw many (o4,o5,o6,o7,())with|none=>none|some r=>match r with
  |.inl (o8,o9,o10,o11,_)=>match(ilt o11 o10)with
   |true=>match idx o8 o9 with|none=>none|some x12=>match idx o8 o11 with|none=>none|some x13=>match idx o8 o11 with|none=>none|some x14=>match idx (An o8 (AE o11) (AL o8 (AE o9) 0)) o9 with|none=>none|some x15=>some ((An (An o8 (AE o11) (AL o8 (AE o9) 0)) (AE o9) (AL o8 (AE o11) 0)),o11,true,())
   |false=>match idx o8 o11 with|none=>none|some x16=>match idx o8 o10 with|none=>none|some x17=>match idx o8 o10 with|none=>none|some x18=>match idx (An o8 (AE o10) (AL o8 (AE o11) 0)) o11 with|none=>none|some x19=>match AR Lv many ((An (An o8 (AE o10) (AL o8 (AE o11) 0)) (AE o11) (AL o8 (AE o10) 0)),o9,(IntKind.wrap .i64 (o10+1)),(IntKind.wrap .i64 (o11-1)),())with|none=>none|some r=>match r with
   |.inl (o20,o21,o22,_)=>match idx o20 o21 with|none=>none|some x23=>match idx o20 o22 with|none=>none|some x24=>match idx o20 o22 with|none=>none|some x25=>match idx (An o20 (AE o22) (AL o20 (AE o21) 0)) o21 with|none=>none|some x26=>some ((An (An o20 (AE o22) (AL o20 (AE o21) 0)) (AE o21) (AL o20 (AE o22) 0)),o22,false,())
   |.inr _=>none
  |.inr _=>none
 |.inr _=>none
def P7[Lk]:=fun v=>Lk.f (XA v)
theorem ALk v:P7 v=XA v:=AJ _
abbrev ZK:AF:=[(.tmp 0,.own 3 U0),(.tmp 1,.di),(.tmp 2,.di),(.tmp 3,.di)]
abbrev ZJ:AF:=[(.obj 0,.own 3 U0)]
abbrev ZI:List RS:=[]
abbrev AS3:AF:=[(.obj 0,.own 3 U0),(.tmp 0,.own' 0),(.tmp 1,.di),(.tmp 2,.di),(.tmp 3,.di),(.tmp 8,.dat .bool),(.tmp 9,.dat .bool)]
abbrev AS2:A2:=[(.ret,[(.obj 0,.own 3 U0)])]
def AGb[Lk](self:U7→Option (Ub))(y7:List Int)(a1 a2 p l:Int)(a4 a5:Bool):Option (Uz⊕Ub⊕Unit):=
 match(ilt 0 a1)with
 |true=>match idx y7 (IntKind.wrap .i64 (a1-1))with|none=>none|some x9=>match idx y7 p with|none=>none|some x10=>match EB ((AL y7 (AE (IntKind.wrap .i64 (a1-1))) 0),(AL y7 (AE p) 0),())with|none=>none|some (y11,_)=>match(!y11)with
  |true=>match M9 (y7,a1,a2,p,())with|none=>none|some (y12,y13,_)=>some (.inl (y12,y13,a2,l,a4,a5,()))
  |false=>match P7 (y7,a1,a2,p,())with|none=>none|some (y14,y15,y16,_)=>match quo? .i64 (IntKind.wrap .i64 (a2-a1)) 8 with|none=>none|some x17=>match(ilt (IntKind.wrap .i64 (y15-a1)) (IntKind.wrap .i64 (a2-y15)))with
  |true=>match self (y14,a1,y15,l,())with|none=>none|some (y18,_)=>some (.inl (y18,(IntKind.wrap .i64 (y15+1)),a2,l,(ile x17 (IntKind.wrap .i64 (y15-a1))),y16,()))
  |false=>match self (y14,(IntKind.wrap .i64 (y15+1)),a2,l,())with|none=>none|some (y19,_)=>some (.inl (y19,a1,y15,l,(ile x17 (IntKind.wrap .i64 (a2-y15))),y16,()))
 |false=>match P7 (y7,a1,a2,p,())with|none=>none|some (y20,y21,y22,_)=>match quo? .i64 (IntKind.wrap .i64 (a2-a1)) 8 with|none=>none|some x23=>match(ilt (IntKind.wrap .i64 (y21-a1)) (IntKind.wrap .i64 (a2-y21)))with
 |true=>match self (y20,a1,y21,l,())with|none=>none|some (y24,_)=>some (.inl (y24,(IntKind.wrap .i64 (y21+1)),a2,l,(ile x23 (IntKind.wrap .i64 (y21-a1))),y22,()))
 |false=>match self (y20,(IntKind.wrap .i64 (y21+1)),a2,l,())with|none=>none|some (y25,_)=>some (.inl (y25,a1,y21,l,(ile x23 (IntKind.wrap .i64 (a2-y21))),y22,()))
def AY0[Lk](self:U7→Option (Ub))(y6:List Int)(a1 a2 p h l:Int)(a4 a5:Bool):Option (Uz⊕Ub⊕Unit):=
 match a4 with
 |true=>match a5 with
  |true=>match(ieq h 1)with
   |true=>match JU (y6,a1,a2,())with|none=>none|some (y7,y8,_)=>match y8 with
    |true=>some (.inr (.inl (y7,())))
    |false=>AGb self y7 a1 a2 p l a4 a5
   |false=>AGb self y6 a1 a2 p l a4 a5
  |false=>AGb self y6 a1 a2 p l a4 a5
 |false=>AGb self y6 a1 a2 p l a4 a5
def AYz[Lk](self:U7→Option (Ub))(y2:List Int)(a1 a2 l:Int)(a4 a5:Bool):Option (Uz⊕Ub⊕Unit):=
 match SC (y2,a1,a2,())with|none=>none|some (y3,y4,y5,_)=>match(ieq y5 2)with
 |true=>match AUr (y3,a1,a2,())with|none=>none|some (y6,_)=>AY0 self y6 a1 a2 (IntKind.wrap .i64 ((IntKind.wrap .i64 (a2-1))-(IntKind.wrap .i64 (y4-a1)))) 1 l a4 a5
 |false=>AY0 self y3 a1 a2 y4 y5 l a4 a5
def M6[Lk](self:U7→Option (Ub)):Uz→Option (Uz⊕Ub⊕Unit):=fun(a0,a1,a2,a3,a4,a5,_)=>
 match(ile (IntKind.wrap .i64 (a2-a1)) 12)with
 |true=>match AWE (a0,a1,a2,())with|none=>none|some (y0,_)=>some (.inr (.inl (y0,())))
 |false=>match(ieq a3 0)with
 |true=>match AES (a0,a1,a2,())with|none=>none|some (y1,_)=>some (.inr (.inl (y1,())))
 |false=>match(!a4)with
 |true=>match Ta (a0,a1,a2,())with|none=>none|some (y2,_)=>AYz self y2 a1 a2 (IntKind.wrap .i64 (a3-1)) a4 a5
 |false=>AYz self a0 a1 a2 a3 a4 a5
def AGc[Lk](self:U7→Option (Ub)):U7→Option (Ub):=fun(a0,a1,a2,a3,_)=>
 match AR (M6 self) many (a0,a1,a2,a3,true,true,())with|none=>none|some r=>match r with
 |.inl (o0,_)=>some (o0,())
 |.inr _=>none
def Hp[Lk]:Nat→U7→Option (Ub)
 |0,_=>none
 |n+1,v=>AGc (Hp n) v
def AVA[Lk]:=fun v=>Lk.f (Hp 100 v)
theorem AS4 v:AVA v=Hp 100 v:=AJ _
abbrev AFi:AF:=[(.tmp 0,.own 3 U0)]
abbrev AFh:AF:=[(.obj 0,.own 3 U0)]
abbrev AFg:List RS:=[]
def Wz[Lk]:Ub→Option (Ub):=fun(a0,_)=>
 match bitsLen ((IntKind.wrap .u64 (AM a0)),())with|none=>none|some (y0,_)=>match AVA (a0,0,(AM a0),y0,())with|none=>none|some (y1,_)=>some (y1,())
def AJw[Lk]:=fun v=>Lk.f (Wz v)
theorem AJv v:AJw v=Wz v:=AJ _
end
end Go.Pev
end
section
namespace Go.Pev
noncomputable section
attribute [local irreducible] MQ JH Nu K9 AWJ AWK AWL Pp WR WL YE JJ AP many IntKind.wrap AM An AL A5 Bm Dc Jo AE BV By imax AS Ag
def ARG[Lk]:(Ud×Int×Unit)→Option (Uh):=fun(a0,a1,_)=>
 match(ile 0 a1)with
 |true=>some ((ilt a1 a0.1),())
 |false=>some (false,())
def AMS[Lk]:=fun v=>Lk.f (ARG v)
theorem Ack v:AMS v=ARG v:=AJ _
def Jh[Lk]:(List U3×List U3×List U3×Int×Unit)→Option ((List U3×List U3×List U3×Int×Unit)⊕V2⊕Unit):=fun(a0,a1,a2,a3,_)=>
 match(ilt a3 (AM a1))with
 |true=>match idx a1 a3 with|none=>none|some x0=>match AMm (a0,((AL a1 (AE a3) (0,(0,()))).1,((AL a1 (AE a3) (0,(0,()))).2.1,())),())with|none=>none|some (y1,_)=>match y1 with
  |true=>match idx a1 a3 with|none=>none|some x2=>match(fits ((AM a2)+(AM ([((AL a1 (AE a3) (0,(0,()))).1,((AL a1 (AE a3) (0,(0,()))).2.1,()))]:List U3))))with
   |true=>some (.inl (a0,a1,(A5 a2 ([((AL a1 (AE a3) (0,(0,()))).1,((AL a1 (AE a3) (0,(0,()))).2.1,()))]:List U3)),(IntKind.wrap .i64 (a3+1)),()))
   |false=>none
  |false=>some (.inl (a0,a1,a2,(IntKind.wrap .i64 (a3+1)),()))
 |false=>some (.inr (.inl (a2,())))
def Ji[Lk]:(List U3×Int×List U1×Int×Unit)→Option ((List U3×Int×List U1×Int×Unit)⊕U9⊕(List U3×Int×List U1×Unit)⊕Unit):=fun(a0,a1,a2,a3,_)=>
 match(ilt a3 (AM a0))with
 |true=>match idx a0 a3 with|none=>none|some x0=>match AMS ((a1,(a2,())),x0.1,())with|none=>none|some (y1,_)=>match(!y1)with
  |true=>some (.inr (.inl (10,())))
  |false=>match idx a0 a3 with|none=>none|some x2=>match AMS ((a1,(a2,())),x2.2.1,())with|none=>none|some (y3,_)=>match(!y3)with
  |true=>some (.inr (.inl (10,())))
  |false=>some (.inl (a0,a1,a2,(IntKind.wrap .i64 (a3+1)),()))
 |false=>some (.inr (.inr (.inl (a0,a1,a2,()))))
def Qi[Lk]:Ve→Option ((List U3×Int×Unit)):=fun(a0,a1,_)=>
 match Ci ((a0.1,(a0.2.1,())),())with|none=>none|some (y0,_)=>match(!y0)with
 |true=>some (([]:List U3),1,())
 |false=>match AR Ji many (a1,a0.1,a0.2.1,0,())with|none=>none|some r=>match r with
 |.inl (o1,_)=>some (([]:List U3),o1,())
 |.inr r=>match r with
 |.inl (o2,o3,o4,_)=>match NY ((o3,(o4,())),())with|none=>none|some (y5,_)=>match AGM (o3,o2,())with|none=>none|some (y6,_)=>match AR Jh many (y5,y6,([]:List U3),0,())with|none=>none|some r=>match r with
  |.inl (o7,_)=>some (o7,0,())
  |.inr _=>none
 |.inr _=>none
def AH3[Lk]:=fun v=>Lk.f (Qi v)
theorem AEV v:AH3 v=Qi v:=AJ _
abbrev L4:AF:=[(.tmp 0,.dat Uc),(.tmp 1,.di),(.tmp 2,.di)]
abbrev L3:AF:=[(.tmp 0,.own 3 U0)]
abbrev L0:List RS:=[.one]
abbrev QH:AF:=[(.tmp 1,.di),(.tmp 3,.box 2),(.cell 0 0,.di),(.cell 0 1,.dat Uq),(.tmp 7,.own 3 U0),(.tmp 8,.own 3 U0),(.tmp 9,.di)]
abbrev QG:A2:=[(.exit 0,[(.tmp 8,.own 3 U0)])]
def Cz[Lk]:(Int×Int×List U1×List Int×List Int×Int×Unit)→Option ((Int×Int×List U1×List Int×List Int×Int×Unit)⊕Ub⊕Unit):=fun(a0,a1,a2,a3,a4,a5,_)=>
 match(ilt a5 a1)with
 |true=>match idx a3 a5 with|none=>none|some x0=>match idx a3 a0 with|none=>none|some x1=>match(ieq (AL a3 (AE a5) 0) (AL a3 (AE a0) 0))with
  |true=>match(fits ((AM a4)+(AM ([a5]:List (Int)))))with
   |true=>some (.inl (a0,a1,a2,a3,(A5 a4 ([a5]:List (Int))),(IntKind.wrap .i64 (a5+1)),()))
   |false=>none
  |false=>some (.inl (a0,a1,a2,a3,a4,(IntKind.wrap .i64 (a5+1)),()))
 |false=>some (.inr (.inl (a4,())))
def Ik[Lk]:V5→Option (Ub):=fun(a0,a1,a2,_)=>
 match Ia ((a0.1,(a0.2.1,())),a2,())with|none=>none|some (y0,_)=>match DG (a0.1,y0,())with|none=>none|some (y1,_)=>match AR Cz many (a1,a0.1,a0.2.1,y1,([]:List (Int)),0,())with|none=>none|some r=>match r with
 |.inl (o2,_)=>some (o2,())
 |.inr _=>none
def Fp[Lk]:=fun v=>Lk.f (Ik v)
theorem QI v:Fp v=Ik v:=AJ _
def MM[Lk]:Ue→Option (Ue⊕Uh⊕(Unit)⊕Unit):=fun(a0,a1,a2,_)=>
 match(ilt a2 (AM a0))with
 |true=>match idx a0 a2 with|none=>none|some x0=>match(ieq x0 a1)with
  |true=>some (.inr (.inl (true,())))
  |false=>some (.inl (a0,a1,(IntKind.wrap .i64 (a2+1)),()))
 |false=>some (.inr (.inr (.inl ())))
def AHt[Lk]:Ur→Option (Uh):=fun(a0,a1,_)=>
 match AR MM many (a0,a1,0,())with|none=>none|some r=>match r with
 |.inl (o0,_)=>some (o0,())
 |.inr r=>match r with
 |.inl _=>some (false,())
 |.inr _=>none
def MN[Lk]:=fun v=>Lk.f (AHt v)
theorem AaS v:MN v=AHt v:=AJ _
def LY[Lk]:(Ud×Int×Int×Int×Unit)→Option (Ur):=fun(a0,a1,a2,a3,_)=>
 match Ci ((a0.1,(a0.2.1,())),())with|none=>none|some (y0,_)=>match(!y0)with
 |true=>some (([]:List (Int)),1,())
 |false=>match AMS ((a0.1,(a0.2.1,())),a1,())with|none=>none|some (y1,_)=>match(!y1)with
 |true=>some (([]:List (Int)),10,())
 |false=>match AMS ((a0.1,(a0.2.1,())),a2,())with|none=>none|some (y2,_)=>match(!y2)with
 |true=>some (([]:List (Int)),10,())
 |false=>match Fp ((a0.1,(a0.2.1,())),a1,a3,())with|none=>none|some (y3,_)=>match Fp ((a0.1,(a0.2.1,())),a2,a3,())with|none=>none|some (y4,_)=>match MN (y3,a2,())with|none=>none|some (y5,_)=>match y5 with
 |true=>some (([]:List (Int)),5,())
 |false=>match(ilt (AM y3) (AM y4))with
 |true=>some (y3,0,())
 |false=>match(ieq (AM y3) (AM y4))with
 |true=>match idx y3 0 with|none=>none|some x6=>match idx y4 0 with|none=>none|some x7=>match(ilt (AL y3 0 0) (AL y4 0 0))with
  |true=>some (y3,0,())
  |false=>some (y4,0,())
 |false=>some (y4,0,())
def AFs[Lk]:=fun v=>Lk.f (LY v)
theorem Rw v:AFs v=LY v:=AJ _
def JV[Lk]:Ui→Option (Ui⊕V8⊕(Int×Bool×Bool×Int×Int×Int×Int×Int×Int×Bool×Int×List U1×Bool×Bool×Int×Int×Int×Int×Int×Bool×Unit)⊕Unit):=fun(a0,a1,a2,a3,a4,a5,a6,a7,a8,a9,a10,a11,a12,a13,a14,a15,a16,a17,a18,a19,a20,a21,_)=>
 match(ilt a20 (AM a11))with
 |true=>match idx a11 a20 with|none=>none|some x0=>match(AL a11 (AE a20) (0,(0,(0,(false,()))))).2.2.2.1 with
  |true=>some (.inl (a0,a1,a2,a3,a4,a5,a6,a7,a8,a9,a10,a11,a12,a13,a14,a15,a16,a17,a18,a19,(IntKind.wrap .i64 (a20+1)),a21,()))
  |false=>match(!(ieq (AL a11 (AE a20) (0,(0,(0,(false,()))))).2.2.1 a18))with
  |true=>some (.inl (a0,a1,a2,a3,a4,a5,a6,a7,a8,a9,a10,a11,a12,a13,a14,a15,a16,a17,a18,a19,(IntKind.wrap .i64 (a20+1)),a21,()))
  |false=>match MN (a19,(AL a11 (AE a20) (0,(0,(0,(false,()))))).1,())with|none=>none|some (y1,_)=>match y1 with
  |true=>match MN (a19,(AL a11 (AE a20) (0,(0,(0,(false,()))))).2.1,())with|none=>none|some (y2,_)=>match y2 with
   |true=>match idx a11 a20 with|none=>none|some x3=>some (.inl (a0,a1,a2,a3,a4,a5,a6,a7,a8,a9,a10,(An a11 (AE a20) ((AL a11 (AE a20) (0,(0,(0,(false,()))))).1,((AL a11 (AE a20) (0,(0,(0,(false,()))))).2.1,((By a17 (IntKind.wrap .i64 (a18+1))),((AL a11 (AE a20) (0,(0,(0,(false,()))))).2.2.2.1,()))))),a12,a13,a14,a15,(IntKind.wrap .i64 (a16+1)),a17,a18,a19,(IntKind.wrap .i64 (a20+1)),a21,()))
   |false=>match MN (a19,(AL a11 (AE a20) (0,(0,(0,(false,()))))).1,())with|none=>none|some (y4,_)=>match y4 with
   |true=>match idx a11 a20 with|none=>none|some x5=>some (.inr (.inl (a10,(An a11 (AE a20) ((AL a11 (AE a20) (0,(0,(0,(false,()))))).1,((AL a11 (AE a20) (0,(0,(0,(false,()))))).2.1,((AL a11 (AE a20) (0,(0,(0,(false,()))))).2.2.1,(true,()))))),a12,true,(AL a11 (AE a20) (0,(0,(0,(false,()))))).1,(AL a11 (AE a20) (0,(0,(0,(false,()))))).2.1,a16,0,())))
   |false=>match MN (a19,(AL a11 (AE a20) (0,(0,(0,(false,()))))).2.1,())with|none=>none|some (y6,_)=>match y6 with
   |true=>match idx a11 a20 with|none=>none|some x7=>some (.inr (.inl (a10,(An a11 (AE a20) ((AL a11 (AE a20) (0,(0,(0,(false,()))))).1,((AL a11 (AE a20) (0,(0,(0,(false,()))))).2.1,((AL a11 (AE a20) (0,(0,(0,(false,()))))).2.2.1,(true,()))))),a12,true,(AL a11 (AE a20) (0,(0,(0,(false,()))))).1,(AL a11 (AE a20) (0,(0,(0,(false,()))))).2.1,a16,0,())))
   |false=>some (.inl (a0,a1,a2,a3,a4,a5,a6,a7,a8,a9,a10,a11,a12,a13,a14,a15,a16,a17,a18,a19,(IntKind.wrap .i64 (a20+1)),a21,()))
  |false=>match MN (a19,(AL a11 (AE a20) (0,(0,(0,(false,()))))).1,())with|none=>none|some (y8,_)=>match y8 with
  |true=>match idx a11 a20 with|none=>none|some x9=>some (.inr (.inl (a10,(An a11 (AE a20) ((AL a11 (AE a20) (0,(0,(0,(false,()))))).1,((AL a11 (AE a20) (0,(0,(0,(false,()))))).2.1,((AL a11 (AE a20) (0,(0,(0,(false,()))))).2.2.1,(true,()))))),a12,true,(AL a11 (AE a20) (0,(0,(0,(false,()))))).1,(AL a11 (AE a20) (0,(0,(0,(false,()))))).2.1,a16,0,())))
  |false=>match MN (a19,(AL a11 (AE a20) (0,(0,(0,(false,()))))).2.1,())with|none=>none|some (y10,_)=>match y10 with
  |true=>match idx a11 a20 with|none=>none|some x11=>some (.inr (.inl (a10,(An a11 (AE a20) ((AL a11 (AE a20) (0,(0,(0,(false,()))))).1,((AL a11 (AE a20) (0,(0,(0,(false,()))))).2.1,((AL a11 (AE a20) (0,(0,(0,(false,()))))).2.2.1,(true,()))))),a12,true,(AL a11 (AE a20) (0,(0,(0,(false,()))))).1,(AL a11 (AE a20) (0,(0,(0,(false,()))))).2.1,a16,0,())))
  |false=>some (.inl (a0,a1,a2,a3,a4,a5,a6,a7,a8,a9,a10,a11,a12,a13,a14,a15,a16,a17,a18,a19,(IntKind.wrap .i64 (a20+1)),a21,()))
 |false=>some (.inr (.inr (.inl (a0,a1,a2,a3,a4,a5,a6,a7,a8,a9,a10,a11,a12,a13,a14,a15,a16,a17,a18,a21,()))))
def JW[Lk]:Ui→Option (Ui⊕(Int×Bool×Bool×Int×Int×Int×Int×Int×Int×Bool×Int×List U1×Bool×Bool×Int×Int×Int×Int×Int×List Int×Bool×Unit)⊕Unit):=fun(a0,a1,a2,a3,a4,a5,a6,a7,a8,a9,a10,a11,a12,a13,a14,a15,a16,a17,a18,a19,a20,a21,_)=>
 match(ilt a20 (AM a11))with
 |true=>match idx a11 a20 with|none=>none|some x0=>match(AL a11 (AE a20) (0,(0,(0,(false,()))))).2.2.2.1 with
  |true=>match(ieq (AL a11 (AE a20) (0,(0,(0,(false,()))))).2.2.1 a18)with
   |true=>match MN (a19,(AL a11 (AE a20) (0,(0,(0,(false,()))))).1,())with|none=>none|some (y1,_)=>match y1 with
    |true=>match MN (a19,(AL a11 (AE a20) (0,(0,(0,(false,()))))).2.1,())with|none=>none|some (y2,_)=>match y2 with
     |true=>match idx a11 a20 with|none=>none|some x3=>some (.inl (a0,a1,a2,a3,a4,a5,a6,a7,a8,a9,a10,(An a11 (AE a20) ((AL a11 (AE a20) (0,(0,(0,(false,()))))).1,((AL a11 (AE a20) (0,(0,(0,(false,()))))).2.1,((By a17 (IntKind.wrap .i64 (a18+1))),((AL a11 (AE a20) (0,(0,(0,(false,()))))).2.2.2.1,()))))),a12,a13,a14,a15,(IntKind.wrap .i64 (a16+1)),a17,a18,a19,(IntKind.wrap .i64 (a20+1)),a21,()))
     |false=>some (.inl (a0,a1,a2,a3,a4,a5,a6,a7,a8,a9,a10,a11,a12,a13,a14,a15,a16,a17,a18,a19,(IntKind.wrap .i64 (a20+1)),a21,()))
    |false=>some (.inl (a0,a1,a2,a3,a4,a5,a6,a7,a8,a9,a10,a11,a12,a13,a14,a15,a16,a17,a18,a19,(IntKind.wrap .i64 (a20+1)),a21,()))
   |false=>some (.inl (a0,a1,a2,a3,a4,a5,a6,a7,a8,a9,a10,a11,a12,a13,a14,a15,a16,a17,a18,a19,(IntKind.wrap .i64 (a20+1)),a21,()))
  |false=>some (.inl (a0,a1,a2,a3,a4,a5,a6,a7,a8,a9,a10,a11,a12,a13,a14,a15,a16,a17,a18,a19,(IntKind.wrap .i64 (a20+1)),a21,()))
 |false=>some (.inr (.inl (a0,a1,a2,a3,a4,a5,a6,a7,a8,a9,a10,a11,a12,a13,a14,a15,a16,a17,a18,a19,a21,())))
def Ht[Lk]:Un→Option (Un⊕V8⊕(Int×Bool×Bool×Int×Int×Int×Int×List U1×Bool×Bool×Int×Int×Int×Unit)⊕Unit):=fun(a0,a1,a2,a3,a4,a5,a6,a7,a8,a9,a10,a11,a12,a13,a14,a15,a16,a17,a18,_)=>
 match(ile 0 a18)with
 |true=>match a9 with
  |true=>match AFs ((a10,(a11,())),a6,a7,a18,())with|none=>none|some (y0,y1,_)=>match AR JW many (a0,a1,a2,a3,a4,a5,a6,a7,a8,a9,a10,a11,a12,a13,a14,a15,a16,a17,a18,y0,0,a9,())with|none=>none|some r=>match r with
   |.inl (o2,o3,o4,o5,o6,o7,o8,o9,o10,o11,o12,o13,o14,o15,o16,o17,o18,o19,o20,o21,o22,_)=>match AR JV many (o2,o3,o4,o5,o6,o7,o8,o9,o10,o11,o12,o13,o14,o15,o16,o17,o18,o19,o20,o21,0,o22,())with|none=>none|some r=>match r with
    |.inl (o23,o24,o25,o26,o27,o28,o29,o30,_)=>some (.inr (.inl (o23,o24,o25,o26,o27,o28,o29,o30,())))
    |.inr r=>match r with
    |.inl (o31,o32,o33,o34,o35,o36,o37,o38,o39,o40,o41,o42,o43,o44,o45,o46,o47,o48,o49,o50,_)=>some (.inl (o31,o32,o33,o34,o35,o36,o37,o38,o39,o40,o41,o42,o43,o44,o45,o46,o47,o48,(IntKind.wrap .i64 (o49-1)),()))
    |.inr _=>none
   |.inr _=>none
  |false=>some (.inr (.inr (.inl (a0,a1,a2,a3,a4,a5,a10,a11,a12,a13,a14,a15,a16,()))))
 |false=>some (.inr (.inr (.inl (a0,a1,a2,a3,a4,a5,a10,a11,a12,a13,a14,a15,a16,()))))
def XD[Lk]:V5→Option ((Int×List U1×Ua×Int×Unit)):=fun(a0,a1,a2,_)=>
 match Ci ((a0.1,(a0.2.1,())),())with|none=>none|some (y0,_)=>match(!y0)with
 |true=>some (a0.1,a0.2.1,(false,(false,((0,(0,())),(0,())))),1,())
 |false=>match AMS ((a0.1,(a0.2.1,())),a1,())with|none=>none|some (y1,_)=>match(!y1)with
 |true=>some (a0.1,a0.2.1,(false,(false,((0,(0,())),(0,())))),10,())
 |false=>match AMS ((a0.1,(a0.2.1,())),a2,())with|none=>none|some (y2,_)=>match(!y2)with
 |true=>some (a0.1,a0.2.1,(false,(false,((0,(0,())),(0,())))),10,())
 |false=>match ARb ((a0.1,(a0.2.1,())),a1,a2,())with|none=>none|some (y3,_)=>match(ilt y3 0)with
 |true=>some (a0.1,a0.2.1,(false,(false,((0,(0,())),(0,())))),6,())
 |false=>match idx a0.2.1 y3 with|none=>none|some x4=>match B5 a0.2.1 0 y3 with|none=>none|some x5=>match(fits ((AM ([]:List U1))+(AM x5)))with
 |true=>match B5 a0.2.1 (IntKind.wrap .i64 (y3+1)) (AM a0.2.1)with|none=>none|some x6=>match(fits ((AM (A5 ([]:List U1) x5))+(AM x6)))with
  |true=>match K7 (a0.1,())with|none=>none|some (y7,_)=>match AR Ht many (0,false,false,0,0,0,x4.1,x4.2.1,x4.2.2.1,x4.2.2.2.1,a0.1,(A5 (A5 ([]:List U1) x5) x6),x4.2.2.2.1,false,0,0,0,y7,x4.2.2.1,())with|none=>none|some r=>match r with
   |.inl (o8,o9,o10,o11,o12,o13,o14,o15,_)=>some (o8,o9,(o10,(o11,((o12,(o13,())),(o14,())))),o15,())
   |.inr r=>match r with
   |.inl (o16,o17,o18,o19,o20,o21,o22,o23,o24,o25,o26,o27,o28,_)=>some (o22,o23,(o24,(o25,((o26,(o27,())),(o28,())))),0,())
   |.inr _=>none
  |false=>none
 |false=>none
def Zq[Lk]:=fun v=>Lk.f (XD v)
theorem ALx v:Zq v=XD v:=AJ _
def CG[Lk]:(Int×List U1×Int×List U3×List Ua×Int×List U1×Int×Unit)→Option ((Int×List U1×Int×List U3×List Ua×Int×List U1×Int×Unit)⊕(Int×List U1×Int×Unit)⊕(Int×List Ua×Int×List U1×Unit)⊕Unit):=fun(a0,a1,a2,a3,a4,a5,a6,a7,_)=>
 match(ilt a7 (AM a3))with
 |true=>match idx a3 a7 with|none=>none|some x0=>match idx a3 a7 with|none=>none|some x1=>match Zq ((a5,(a6,())),(AL a3 (AE a7) (0,(0,()))).1,(AL a3 (AE a7) (0,(0,()))).2.1,())with|none=>none|some (y2,y3,y4,y5,_)=>match(!(ieq y5 0))with
  |true=>some (.inr (.inl (a0,a1,y5,())))
  |false=>match(fits ((AM a4)+(AM ([(y4.1,(y4.2.1,((y4.2.2.1.1,(y4.2.2.1.2.1,())),(y4.2.2.2.1,()))))]:List Ua))))with
  |true=>some (.inl (a0,a1,a2,a3,(A5 a4 ([(y4.1,(y4.2.1,((y4.2.2.1.1,(y4.2.2.1.2.1,())),(y4.2.2.2.1,()))))]:List Ua)),y2,y3,(IntKind.wrap .i64 (a7+1)),()))
  |false=>none
 |false=>some (.inr (.inr (.inl (a2,a4,a5,a6,()))))
def MV[Lk]:Ve→Option ((Ud×List Ua×Int×Unit)):=fun(a0,a1,_)=>
 match AH3 ((a0.1,(a0.2.1,())),a1,())with|none=>none|some (y0,y1,_)=>match(!(ieq y1 0))with
 |true=>some ((a0.1,(a0.2.1,())),([]:List Ua),y1,())
 |false=>match AR CG many (a0.1,a0.2.1,0,y0,([]:List Ua),a0.1,a0.2.1,0,())with|none=>none|some r=>match r with
 |.inl (o2,o3,o4,_)=>some ((o2,(o3,())),([]:List Ua),o4,())
 |.inr r=>match r with
 |.inl (o5,o6,o7,o8,_)=>some ((o7,(o8,())),o6,0,())
 |.inr _=>none
def AAz[Lk]:=fun v=>Lk.f (MV v)
theorem TM v:AAz v=MV v:=AJ _
abbrev Rv:AF:=[(.tmp 0,.dat Uc)]
abbrev Ru:AF:=[(.tmp 0,.dat .bool)]
abbrev Rs:List RS:=[.one]
abbrev X8:AF:=[(.tmp 1,.box 2),(.cell 0 0,.di),(.cell 0 1,.dat Uq),(.tmp 6,.di),(.tmp 7,.di),(.tmp 11,.di)]
abbrev X4:A2:=[(.ret,[(.tmp 2,.dat .bool)]),(.exit 6,[(.tmp 1,.box 2),(.cell 0 0,.di),(.cell 0 1,.dat Uq),(.tmp 6,.di),(.tmp 7,.di)])]
def DO[Lk]:(Int×List U1×Int×Int×Int×Unit)→Option ((Int×List U1×Int×Int×Int×Unit)⊕Uh⊕Vd⊕Unit):=fun(a0,a1,a2,a3,a4,_)=>
 match(ilt a4 a0)with
 |true=>match Fp ((a0,(a1,())),a4,a3,())with|none=>none|some (y0,_)=>match(ilt (imax 1 a2) (AM y0))with
  |true=>some (.inr (.inl (false,())))
  |false=>some (.inl (a0,a1,a2,a3,(IntKind.wrap .i64 (a4+1)),()))
 |false=>some (.inr (.inr (.inl (a0,a1,a2,a3,()))))
abbrev X9:AF:=[(.tmp 1,.box 2),(.cell 0 0,.di),(.cell 0 1,.dat Uq),(.tmp 6,.di),(.tmp 7,.di),(.tmp 8,.own 3 U0),(.tmp 9,.di)]
abbrev X5:A2:=[(.ret,[(.tmp 2,.dat .bool)]),(.exit 4,[(.tmp 1,.box 2),(.cell 0 0,.di),(.cell 0 1,.dat Uq),(.tmp 6,.di),(.tmp 7,.di)])]
def DP[Lk]:(Int×List U1×Int×Int×List Int×Int×Unit)→Option ((Int×List U1×Int×Int×List Int×Int×Unit)⊕Uh⊕Vd⊕Unit):=fun(a0,a1,a2,a3,a4,a5,_)=>
 match(ilt a5 (AM a1))with
 |true=>match idx a1 a5 with|none=>none|some x0=>match(!x0.2.2.2.1)with
  |true=>match(ieq x0.2.2.1 a3)with
   |true=>match idx a4 x0.1 with|none=>none|some x1=>match idx a4 x0.2.1 with|none=>none|some x2=>match(!(ieq (AL a4 (AE x0.1) 0) (AL a4 (AE x0.2.1) 0)))with
    |true=>some (.inr (.inl (false,())))
    |false=>some (.inl (a0,a1,a2,a3,a4,(IntKind.wrap .i64 (a5+1)),()))
   |false=>some (.inl (a0,a1,a2,a3,a4,(IntKind.wrap .i64 (a5+1)),()))
  |false=>some (.inl (a0,a1,a2,a3,a4,(IntKind.wrap .i64 (a5+1)),()))
 |false=>some (.inr (.inr (.inl (a0,a1,a2,a3,()))))
abbrev YA:AF:=[(.tmp 1,.box 2),(.cell 0 0,.di),(.cell 0 1,.dat Uq),(.tmp 6,.di),(.tmp 7,.di)]
abbrev X6:A2:=[(.ret,[(.tmp 2,.dat .bool)]),(.exit 2,[])]
def ER[Lk]:Vd→Option (Vd⊕Uh⊕(Unit)⊕Unit):=fun(a0,a1,a2,a3,_)=>
 match K7 (a0,())with|none=>none|some (y0,_)=>match(ile a3 y0)with
 |true=>match Ia ((a0,(a1,())),a3,())with|none=>none|some (y1,_)=>match DG (a0,y1,())with|none=>none|some (y2,_)=>match AR DP many (a0,a1,a2,a3,y2,0,())with|none=>none|some r=>match r with
  |.inl (o3,_)=>some (.inr (.inl (o3,())))
  |.inr r=>match r with
  |.inl (o4,o5,o6,o7,_)=>match AR DO many (o4,o5,o6,o7,0,())with|none=>none|some r=>match r with
   |.inl (o8,_)=>some (.inr (.inl (o8,())))
   |.inr r=>match r with
   |.inl (o9,o10,o11,o12,_)=>match quo? .i64 o11 2 with|none=>none|some x13=>some (.inl (o9,o10,x13,(IntKind.wrap .i64 (o12+1)),()))
   |.inr _=>none
  |.inr _=>none
 |false=>some (.inr (.inr (.inl ())))
abbrev YB:AF:=[(.tmp 1,.box 2),(.cell 0 0,.di),(.cell 0 1,.dat Uq),(.tmp 3,.own 3 U0),(.tmp 4,.own 3 U0),(.tmp 5,.di)]
abbrev X7:A2:=[(.ret,[(.tmp 2,.dat .bool)]),(.exit 0,[(.tmp 1,.box 2),(.cell 0 0,.di),(.cell 0 1,.dat Uq)])]
def ES[Lk]:(Int×List U1×List Int×List Int×Int×Unit)→Option ((Int×List U1×List Int×List Int×Int×Unit)⊕Uh⊕(Int×List U1×Unit)⊕Unit):=fun(a0,a1,a2,a3,a4,_)=>
 match(ilt a4 a0)with
 |true=>match idx a2 a4 with|none=>none|some x0=>match idx a3 a4 with|none=>none|some x1=>match(!(ieq (AL a2 (AE a4) 0) (AL a3 (AE a4) 0)))with
  |true=>some (.inr (.inl (false,())))
  |false=>some (.inl (a0,a1,a2,a3,(IntKind.wrap .i64 (a4+1)),()))
 |false=>some (.inr (.inr (.inl (a0,a1,()))))
def JO[Lk]:(Ud×Unit)→Option (Uh):=fun(a0,_)=>
 match Ci ((a0.1,(a0.2.1,())),())with|none=>none|some (y0,_)=>match(!y0)with
 |true=>some (false,())
 |false=>match NY ((a0.1,(a0.2.1,())),())with|none=>none|some (y1,_)=>match DG (a0.1,y1,())with|none=>none|some (y2,_)=>match Ia ((a0.1,(a0.2.1,())),0,())with|none=>none|some (y3,_)=>match DG (a0.1,y3,())with|none=>none|some (y4,_)=>match AR ES many (a0.1,a0.2.1,y2,y4,0,())with|none=>none|some r=>match r with
 |.inl (o5,_)=>some (o5,())
 |.inr r=>match r with
 |.inl (o6,o7,_)=>match AR ER many (o6,o7,o6,0,())with|none=>none|some r=>match r with
  |.inl (o8,_)=>some (o8,())
  |.inr r=>match r with
  |.inl _=>some (true,())
  |.inr _=>none
 |.inr _=>none
def J7[Lk]:=fun v=>Lk.f (JO v)
theorem ON v:J7 v=JO v:=AJ _
end
end Go.Pev
end
section
namespace Go.Pev
noncomputable section
attribute [local irreducible] MQ JH Nu K9 AWJ AWK AWL Pp WR WL YE JJ AP many IntKind.wrap AM An AL A5 Bm Dc Jo AE BV By imax AS Ag
abbrev ASM:AF:=[(.tmp 0,.dat Uq),(.tmp 1,.dat U2),(.tmp 2,.clo 98 [])]
abbrev ASL:AF:=[(.tmp 0,.di),(.tmp 1,.dat .bool)]
abbrev ASK:List RS:=[.one,.one]
abbrev ATq:AF:=[(.tmp 0,.dat Uq),(.tmp 2,.clo 98 []),(.tmp 4,.box 4),(.cell 0 0,.di),(.cell 0 1,.di),(.cell 0 2,.di),(.cell 0 3,.dat .bool),(.tmp 8,.di),(.tmp 9,.di),(.tmp 10,.di)]
abbrev ATp:A2:=[(.exit 0,[(.tmp 0,.dat Uq),(.tmp 2,.clo 98 []),(.tmp 4,.box 4),(.cell 0 0,.di),(.cell 0 1,.di),(.cell 0 2,.di),(.cell 0 3,.dat .bool),(.tmp 8,.di),(.tmp 9,.di)])]
def Kk[Lk]:(List U1×Int×Int×Int×Bool×Int×Int×Int×Unit)→Option ((List U1×Int×Int×Int×Bool×Int×Int×Int×Unit)⊕(List U1×Int×Int×Int×Bool×Int×Int×Unit)⊕Unit):=fun(a0,a1,a2,a3,a4,a5,a6,a7,_)=>
 match(ilt a6 a7)with
 |true=>match shr? .u64 (IntKind.wrap .u64 (IntKind.wrap .i64 (a6+a7))) 1 with|none=>none|some x0=>match idx a0 (IntKind.wrap .i64 x0)with|none=>none|some x1=>match DX ((x1.1,(x1.2.1,(x1.2.2.1,(x1.2.2.2.1,())))),(a1,(a2,(a3,(a4,())))),())with|none=>none|some (y2,_)=>match(ilt y2 0)with
  |true=>some (.inl (a0,a1,a2,a3,a4,a5,(IntKind.wrap .i64 ((IntKind.wrap .i64 x0)+1)),a7,()))
  |false=>some (.inl (a0,a1,a2,a3,a4,a5,a6,(IntKind.wrap .i64 x0),()))
 |false=>some (.inr (.inl (a0,a1,a2,a3,a4,a5,a6,())))
def AIl[Lk]:(List U1×U1×Unit)→Option ((Int×Bool×Unit)):=fun(a0,a1,_)=>
 match AR Kk many (a0,a1.1,a1.2.1,a1.2.2.1,a1.2.2.2.1,(AM a0),0,(AM a0),())with|none=>none|some r=>match r with
 |.inl (o0,o1,o2,o3,o4,o5,o6,_)=>match(ilt o6 o5)with
  |true=>match idx o0 o6 with|none=>none|some x7=>match DX ((x7.1,(x7.2.1,(x7.2.2.1,(x7.2.2.2.1,())))),(o1,(o2,(o3,(o4,())))),())with|none=>none|some (y8,_)=>some (o6,(ieq y8 0),())
  |false=>some (o6,false,())
 |.inr _=>none
def AXM[Lk]:=fun v=>Lk.f (AIl v)
theorem ATr v:AXM v=AIl v:=AJ _
abbrev AAD:AF:=[(.tmp 0,.dat Uc),(.tmp 1,.di),(.tmp 2,.di)]
abbrev AAC:AF:=[(.tmp 0,.di),(.tmp 1,.dat .bool)]
abbrev AAB:List RS:=[.one,.one]
def QK[Lk]:V5→Option ((Int×Bool×Unit)):=fun(a0,a1,a2,_)=>
 match AXM (a0.2.1,((By a1 a2),((imax a1 a2),(0,(false,())))),())with|none=>none|some (y0,y1,_)=>some (y0,y1,())
def AHM[Lk]:=fun v=>Lk.f (QK v)
theorem AEE v:AHM v=QK v:=AJ _
abbrev AHT:AF:=[(.tmp 0,.dat Uc),(.tmp 1,.di),(.tmp 2,.di)]
abbrev AHS:AF:=[(.tmp 0,.di)]
abbrev AHR:List RS:=[.one]
def XH[Lk]:V5→Option (U9):=fun(a0,a1,a2,_)=>
 match Fq ((a0.1,(a0.2.1,())),())with|none=>none|some (y0,_)=>match(!y0)with
 |true=>some ((-1:Int),())
 |false=>match AHM ((a0.1,(a0.2.1,())),a1,a2,())with|none=>none|some (y1,y2,_)=>match(!y2)with
 |true=>some ((-1:Int),())
 |false=>some (y1,())
def AMJ[Lk]:=fun v=>Lk.f (XH v)
theorem AMI v:AMJ v=XH v:=AJ _
abbrev H8:AF:=[(.tmp 0,.own 3 U0),(.cap 1 0,.box 2),(.cell 1 0,.di),(.cell 1 1,.dat Ul),(.tmp 1,.clo 145 [(1,0)])]
abbrev H7:AF:=[(.obj 0,.own 3 U0),(.obj 1,.box 2),(.cell 1 0,.di),(.cell 1 1,.dat Ul),(.tmp 0,.di)]
abbrev H6:List RS:=[.one]
abbrev LF:AF:=[(.obj 0,.own 3 U0),(.obj 1,.box 2),(.cell 1 0,.di),(.cell 1 1,.dat Ul),(.tmp 0,.own' 0),(.tmp 1,.clo 145 [(1,0)]),(.tmp 7,.di),(.tmp 8,.di)]
abbrev LD:A2:=[(.ret,[(.obj 0,.own 3 U0),(.obj 1,.box 2),(.cell 1 0,.di),(.cell 1 1,.dat Ul),(.tmp 4,.di)]),(.exit 0,[(.obj 0,.own 3 U0),(.obj 1,.box 2),(.cell 1 0,.di),(.cell 1 1,.dat Ul)])]
def Bl[Lk]:V6→Option (V6⊕Va⊕V7⊕Unit):=fun(a0,a1,a2,a3,a4,_)=>
 match(ilt a4 a3)with
 |true=>match idx a0 a4 with|none=>none|some x0=>match(ile a1 (AL a0 (AE a4) 0))with
  |true=>some (.inr (.inl (a0,a1,a2,a4,())))
  |false=>some (.inl (a0,a1,a2,a3,(IntKind.wrap .i64 (a4+1)),()))
 |false=>some (.inr (.inr (.inl (a0,a1,a2,()))))
def FG[Lk]:V7→Option (Va):=fun(a0,a1,a2,_)=>
 match AR Bl many (a0,a1,a2,(AM a0),0,())with|none=>none|some r=>match r with
 |.inl (o0,o1,o2,o3,_)=>some (o0,o1,o2,o3,())
 |.inr r=>match r with
 |.inl (o4,o5,o6,_)=>some (o4,o5,o6,(-1:Int),())
 |.inr _=>none
def G9[Lk]:=fun v=>Lk.f (FG v)
theorem LG v:G9 v=FG v:=AJ _
abbrev II:AF:=[(.tmp 0,.own 3 U0),(.cap 1 0,.box 2),(.cell 1 0,.di),(.cell 1 1,.dat Ul),(.tmp 1,.clo 145 [(1,0)])]
abbrev IH:AF:=[(.obj 0,.own 3 U0),(.obj 1,.box 2),(.cell 1 0,.di),(.cell 1 1,.dat Ul),(.tmp 0,.win' 0)]
abbrev IG:List RS:=[.one]
abbrev LJ:AF:=[(.obj 0,.own 3 U0),(.obj 1,.box 2),(.cell 1 0,.di),(.cell 1 1,.dat Ul),(.tmp 0,.own' 0),(.tmp 1,.clo 145 [(1,0)]),(.tmp 5,.di),(.tmp 6,.di)]
abbrev LI:A2:=[(.exit 0,[(.obj 0,.own 3 U0),(.obj 1,.box 2),(.cell 1 0,.di),(.cell 1 1,.dat Ul),(.tmp 0,.own' 0),(.tmp 5,.di)])]
def CO[Lk]:V6→Option (V6⊕Va⊕Unit):=fun(a0,a1,a2,a3,a4,_)=>
 match(ilt a4 (AM a0))with
 |true=>match idx a0 a4 with|none=>none|some x0=>match(!(ile a1 (AL a0 (AE a4) 0)))with
  |true=>match idx a0 a3 with|none=>none|some x1=>some (.inl ((An a0 (AE a3) (AL a0 (AE a4) 0)),a1,a2,(IntKind.wrap .i64 (a3+1)),(IntKind.wrap .i64 (a4+1)),()))
  |false=>some (.inl (a0,a1,a2,a3,(IntKind.wrap .i64 (a4+1)),()))
 |false=>some (.inr (.inl (a0,a1,a2,a3,())))
def FK[Lk]:V7→Option (Va):=fun(a0,a1,a2,_)=>
 match G9 (a0,a1,a2,())with|none=>none|some (y0,y1,y2,y3,_)=>match(ieq y3 (-1:Int))with
 |true=>some (y0,y1,y2,(AM y0),())
 |false=>match AR CO many (y0,y1,y2,y3,(IntKind.wrap .i64 (y3+1)),())with|none=>none|some r=>match r with
 |.inl (o4,o5,o6,o7,_)=>match B5 o4 o7 (AM o4)with|none=>none|some x8=>match B5 (BV (AE o7) (AE (AM x8)) 0 o4) 0 o7 with|none=>none|some x9=>some ((BV (AE o7) (AE (AM x8)) 0 o4),o5,o6,(((AE (AM x9)):Nat):Int),())
 |.inr _=>none
def FL[Lk]:=fun v=>Lk.f (FK v)
theorem LK v:FL v=FK v:=AJ _
abbrev O4:AF:=[(.tmp 0,.dat Us),(.tmp 1,.di)]
abbrev O3:AF:=[(.tmp 0,.own 3 U0),(.tmp 1,.di)]
abbrev O2:List RS:=[.one,.one]
def Ka[Lk]:Vb→Option (Ur):=fun(a0,a1,_)=>
 match KY ((a0.1,(a0.2.1,())),([a1]:List (Int)),())with|none=>none|some (y0,_)=>match(!(ieq y0 0))with
 |true=>some (([]:List (Int)),y0,())
 |false=>match tof ((a0.1,(a0.2.1,())),a1,())with|none=>none|some (y1,_)=>match idx a0.2.1 y1 with|none=>none|some x2=>match AIT x2 with|none=>none|some x3=>match FL (x3,a0.1,a0.2.1,())with|none=>none|some (y4,y5,y6,y7,_)=>match AJw ((Bm (AE y7) y4),())with|none=>none|some (y8,_)=>some (y8,0,())
def IA[Lk]:=fun v=>Lk.f (Ka v)
theorem VR v:IA v=Ka v:=AJ _
abbrev AHy:AF:=[(.tmp 0,.nil U2),(.tmp 1,.di)]
abbrev AHx:AF:=[(.tmp 0,.own 44 U2)]
abbrev AHw:List RS:=[.one]
def XM[Lk]:U9→Option ((List U1×Unit)):=fun(a0,_)=>
 match(ilt a0 0)with
 |true=>none
 |false=>match(ilt 0 (IntKind.wrap .i64 (a0-(IntKind.wrap .i64 (0-0)))))with
 |true=>match B5 ([]:List Unit) 0 0 with|none=>none|some _u0=>match(LH (IntKind.wrap .i64 (a0-(IntKind.wrap .i64 (0-0)))))with
  |true=>match B5 (Jo (AE (IntKind.wrap .i64 (a0-(IntKind.wrap .i64 ((0:Int)-(0:Int)))))) ((0:Int),((0:Int),((0:Int),(false,()))))) (0:Int) (0:Int)with|none=>none|some x1=>some ((Bm (AE (AM x1)) (Jo (AE (IntKind.wrap .i64 (a0-(IntKind.wrap .i64 ((0:Int)-(0:Int)))))) ((0:Int),((0:Int),((0:Int),(false,())))))),())
  |false=>none
 |false=>some (([]:List U1),())
def AMp[Lk]:=fun v=>Lk.f (XM v)
theorem AMo v:AMp v=XM v:=AJ _
abbrev TT:AF:=[(.tmp 0,.dat (.slice Uq))]
abbrev TS:AF:=[(.tmp 0,.own 44 U2)]
abbrev TR:List RS:=[.one]
abbrev AA9:AF:=[(.tmp 6,.own 44 U2),(.tmp 25,.dat (.slice Uq)),(.tmp 26,.di),(.tmp 27,.di)]
abbrev AA7:A2:=[(.exit 2,[(.tmp 6,.own 44 U2)])]
def Eb[Lk]:(List U1×List (List U1)×Int×Int×Unit)→Option ((List U1×List (List U1)×Int×Int×Unit)⊕(List U1×Unit)⊕Unit):=fun(a0,a1,a2,a3,_)=>
 match(ilt a3 a2)with
 |true=>match idx a1 a3 with|none=>none|some x0=>match(fits ((AM a0)+(AM x0)))with
  |true=>some (.inl ((A5 a0 x0),a1,a2,(IntKind.wrap .i64 (a3+1)),()))
  |false=>none
 |false=>some (.inr (.inl (a0,())))
abbrev ABA:AF:=[(.tmp 0,.dat (.slice Uq)),(.tmp 3,.di),(.tmp 9,.dat (.slice Uq)),(.tmp 10,.di),(.tmp 11,.di)]
abbrev AA8:A2:=[(.exit 0,[(.tmp 0,.dat (.slice Uq)),(.tmp 3,.di)])]
def Ec[Lk]:(List (List U1)×Int×List (List U1)×Int×Int×Unit)→Option ((List (List U1)×Int×List (List U1)×Int×Int×Unit)⊕(List (List U1)×Int×Unit)⊕Unit):=fun(a0,a1,a2,a3,a4,_)=>
 match(ilt a4 a3)with
 |true=>match idx a2 a4 with|none=>none|some x0=>match(ilt (IntKind.wrap .i64 (a1+(AM x0))) 0)with
  |true=>none
  |false=>some (.inl (a0,(IntKind.wrap .i64 (a1+(AM x0))),a2,a3,(IntKind.wrap .i64 (a4+1)),()))
 |false=>some (.inr (.inl (a0,a1,())))
def Na[Lk]:(List (List U1)×Unit)→Option ((List U1×Unit)):=fun(a0,_)=>
 match AR Ec many (a0,0,a0,(AM a0),0,())with|none=>none|some r=>match r with
 |.inl (o0,o1,_)=>match AMp (o1,())with|none=>none|some (y2,_)=>match AR Eb many (y2,o0,(AM o0),0,())with|none=>none|some r=>match r with
  |.inl (o3,_)=>some (o3,())
  |.inr _=>none
 |.inr _=>none
def Nb[Lk]:=fun v=>Lk.f (Na v)
theorem ABB v:Nb v=Na v:=AJ _
abbrev KU:AF:=[(.tmp 0,.own 42 U5),(.cap 1 0,.box 1),(.cell 1 0,.map U5 U0),(.tmp 1,.clo 116 [(1,0)])]
abbrev KT:AF:=[(.obj 0,.own 42 U5),(.obj 1,.box 1),(.cell 1 0,.map U5 U0),(.obj 2,.map' 2),(.tmp 0,.di)]
abbrev KS:List RS:=[.one]
abbrev N3:AF:=[(.obj 0,.own 42 U5),(.obj 1,.box 1),(.cell 1 0,.map U5 U0),(.obj 2,.map' 2),(.tmp 0,.own' 0),(.tmp 1,.clo 116 [(1,0)]),(.tmp 7,.di),(.tmp 8,.di)]
abbrev N2:A2:=[(.ret,[(.obj 0,.own 42 U5),(.obj 1,.box 1),(.cell 1 0,.map U5 U0),(.obj 2,.map' 2),(.tmp 4,.di)]),(.exit 0,[(.obj 0,.own 42 U5),(.obj 1,.box 1),(.cell 1 0,.map U5 U0),(.obj 2,.map' 2)])]
def CF[Lk]:V4→Option (V4⊕V9⊕(List U3×List (U3×Int)×Unit)⊕Unit):=fun(a0,a1,a2,a3,_)=>
 match(ilt a3 a2)with
 |true=>match idx a0 a3 with|none=>none|some x0=>match(ieq ((AS a1 ((AL a0 (AE a3) (0,(0,()))).1,((AL a0 (AE a3) (0,(0,()))).2.1,()))).getD 0) 0)with
  |true=>some (.inr (.inl (a0,a1,a3,())))
  |false=>some (.inl (a0,a1,a2,(IntKind.wrap .i64 (a3+1)),()))
 |false=>some (.inr (.inr (.inl (a0,a1,()))))
def HA[Lk]:(List U3×List (U3×Int)×Unit)→Option (V9):=fun(a0,a1,_)=>
 match AR CF many (a0,a1,(AM a0),0,())with|none=>none|some r=>match r with
 |.inl (o0,o1,o2,_)=>some (o0,o1,o2,())
 |.inr r=>match r with
 |.inl (o3,o4,_)=>some (o3,o4,(-1:Int),())
 |.inr _=>none
def KW[Lk]:=fun v=>Lk.f (HA v)
theorem N4 v:KW v=HA v:=AJ _
abbrev Kh:AF:=[(.tmp 0,.own 42 U5),(.cap 1 0,.box 1),(.cell 1 0,.map U5 U0),(.tmp 1,.clo 116 [(1,0)])]
abbrev Kg:AF:=[(.obj 0,.own 42 U5),(.obj 1,.box 1),(.cell 1 0,.map U5 U0),(.obj 2,.map' 2),(.tmp 0,.win' 0)]
abbrev Kf:List RS:=[.one]
abbrev N8:AF:=[(.obj 0,.own 42 U5),(.obj 1,.box 1),(.cell 1 0,.map U5 U0),(.obj 2,.map' 2),(.tmp 0,.own' 0),(.tmp 1,.clo 116 [(1,0)]),(.tmp 5,.di),(.tmp 6,.di)]
abbrev N7:A2:=[(.exit 0,[(.obj 0,.own 42 U5),(.obj 1,.box 1),(.cell 1 0,.map U5 U0),(.obj 2,.map' 2),(.tmp 0,.own' 0),(.tmp 5,.di)])]
def DE[Lk]:V4→Option (V4⊕V9⊕Unit):=fun(a0,a1,a2,a3,_)=>
 match(ilt a3 (AM a0))with
 |true=>match idx a0 a3 with|none=>none|some x0=>match(!(ieq ((AS a1 ((AL a0 (AE a3) (0,(0,()))).1,((AL a0 (AE a3) (0,(0,()))).2.1,()))).getD 0) 0))with
  |true=>match idx a0 a2 with|none=>none|some x1=>some (.inl ((An a0 (AE a2) ((AL a0 (AE a3) (0,(0,()))).1,((AL a0 (AE a3) (0,(0,()))).2.1,()))),a1,(IntKind.wrap .i64 (a2+1)),(IntKind.wrap .i64 (a3+1)),()))
  |false=>some (.inl (a0,a1,a2,(IntKind.wrap .i64 (a3+1)),()))
 |false=>some (.inr (.inl (a0,a1,a2,())))
def HC[Lk]:(List U3×List (U3×Int)×Unit)→Option (V9):=fun(a0,a1,_)=>
 match KW (a0,a1,())with|none=>none|some (y0,y1,y2,_)=>match(ieq y2 (-1:Int))with
 |true=>some (y0,y1,(AM y0),())
 |false=>match AR DE many (y0,y1,y2,(IntKind.wrap .i64 (y2+1)),())with|none=>none|some r=>match r with
 |.inl (o3,o4,o5,_)=>match B5 o3 o5 (AM o3)with|none=>none|some x6=>match B5 (BV (AE o5) (AE (AM x6)) (0,(0,())) o3) 0 o5 with|none=>none|some x7=>some ((BV (AE o5) (AE (AM x6)) (0,(0,())) o3),o4,(((AE (AM x7)):Nat):Int),())
 |.inr _=>none
def IK[Lk]:=fun v=>Lk.f (HC v)
theorem N9 v:IK v=HC v:=AJ _
abbrev AGS:AF:=[(.tmp 0,.dat Uc),(.tmp 1,.dat V0)]
abbrev AGR:AF:=[(.tmp 0,.own 42 U5),(.tmp 1,.di)]
abbrev AGQ:List RS:=[.one,.one]
abbrev AKh:AF:=[(.tmp 2,.box 2),(.cell 0 0,.di),(.cell 0 1,.dat Uq),(.tmp 6,.box 1),(.cell 1 0,.map U5 U0),(.tmp 13,.dat V0),(.tmp 14,.di),(.tmp 15,.di)]
abbrev AKg:A2:=[(.ret,[(.tmp 4,.nil U5),(.tmp 5,.di)]),(.exit 0,[(.tmp 2,.box 2),(.cell 0 0,.di),(.cell 0 1,.dat Uq),(.tmp 6,.box 1),(.cell 1 0,.map U5 U0)])]
def D8[Lk]:(Int×List U1×List (U3×Int)×List U3×Int×Int×Unit)→Option ((Int×List U1×List (U3×Int)×List U3×Int×Int×Unit)⊕U9⊕(Int×List U1×List (U3×Int)×Unit)⊕Unit):=fun(a0,a1,a2,a3,a4,a5,_)=>
 match(ilt a5 a4)with
 |true=>match idx a3 a5 with|none=>none|some x0=>match(ilt (By x0.1 x0.2.1) 0)with
  |true=>some (.inr (.inl (10,())))
  |false=>match(ile a0 (imax x0.1 x0.2.1))with
  |true=>some (.inr (.inl (10,())))
  |false=>match(ile 0 (WT a2 ((By x0.1 x0.2.1),((imax x0.1 x0.2.1),())))&&ilt (WT a2 ((By x0.1 x0.2.1),((imax x0.1 x0.2.1),()))) (AM (Ag a2 ((By x0.1 x0.2.1),((imax x0.1 x0.2.1),())) ((AS a2 ((By x0.1 x0.2.1),((imax x0.1 x0.2.1),()))).getD 0))))with
  |true=>some (.inl (a0,a1,(AVa (Ag a2 ((By x0.1 x0.2.1),((imax x0.1 x0.2.1),())) ((AS a2 ((By x0.1 x0.2.1),((imax x0.1 x0.2.1),()))).getD 0)) (WT a2 ((By x0.1 x0.2.1),((imax x0.1 x0.2.1),()))) (IntKind.wrap .i64 (((AS a2 ((By x0.1 x0.2.1),((imax x0.1 x0.2.1),()))).getD 0)+1))),a3,a4,(IntKind.wrap .i64 (a5+1)),()))
  |false=>none
 |false=>some (.inr (.inr (.inl (a0,a1,a2,()))))
def Pz[Lk]:Ve→Option ((List U3×Int×Unit)):=fun(a0,a1,_)=>
 match Fq ((a0.1,(a0.2.1,())),())with|none=>none|some (y0,_)=>match(!y0)with
 |true=>some (([]:List U3),1,())
 |false=>match AR D8 many (a0.1,a0.2.1,([]:List (U3×Int)),a1,(AM a1),0,())with|none=>none|some r=>match r with
 |.inl (o1,_)=>some (([]:List U3),o1,())
 |.inr r=>match r with
 |.inl (o2,o3,o4,_)=>match AAL ((o2,(o3,())),())with|none=>none|some (y5,_)=>match IK (y5,o4,())with|none=>none|some (y6,y7,y8,_)=>some ((Bm (AE y8) y6),0,())
 |.inr _=>none
def UI[Lk]:=fun v=>Lk.f (Pz v)
theorem Y7 v:UI v=Pz v:=AJ _
abbrev ZB:AF:=[(.tmp 0,.dat Uc),(.tmp 1,.di),(.tmp 2,.di)]
abbrev ZA:AF:=[(.tmp 0,.di),(.tmp 1,.di)]
abbrev Y9:List RS:=[.one,.one]
def Lm[Lk]:V5→Option (U3):=fun(a0,a1,a2,_)=>
 match Fq ((a0.1,(a0.2.1,())),())with|none=>none|some (y0,_)=>match(!y0)with
 |true=>some (0,1,())
 |false=>match(ilt (By a1 a2) 0)with
 |true=>some (0,10,())
 |false=>match(ile a0.1 (imax a1 a2))with
 |true=>some (0,10,())
 |false=>match AMJ ((a0.1,(a0.2.1,())),a1,a2,())with|none=>none|some (y1,_)=>match(ilt y1 0)with
 |true=>some (0,6,())
 |false=>some (y1,0,())
def OT[Lk]:=fun v=>Lk.f (Lm v)
theorem SD v:OT v=Lm v:=AJ _
abbrev AGH:AF:=[(.tmp 0,.dat Uc),(.tmp 1,.di),(.tmp 2,.di),(.tmp 3,.di)]
abbrev AGG:AF:=[(.tmp 0,.own 3 U0),(.tmp 1,.di)]
abbrev AGF:List RS:=[.one,.one]
def Pq[Lk]:(Ud×Int×Int×Int×Unit)→Option (Ur):=fun(a0,a1,a2,a3,_)=>
 match OT ((a0.1,(a0.2.1,())),a1,a2,())with|none=>none|some (y0,y1,_)=>match(ieq y1 1)with
 |true=>some (([]:List (Int)),y1,())
 |false=>match(ieq y1 10)with
 |true=>some (([]:List (Int)),y1,())
 |false=>match NR ((a0.1,(a0.2.1,())),a3,())with|none=>none|some (y2,y3,_)=>match IA ((y2.1,(y2.2.1,())),a1,())with|none=>none|some (y4,y5,_)=>match IA ((y2.1,(y2.2.1,())),a2,())with|none=>none|some (y6,y7,_)=>match Ev (y4,a2,())with|none=>none|some (y8,_)=>match y8 with
 |true=>some (([]:List (Int)),5,())
 |false=>match FP ((AM y4),(AM y6),())with|none=>none|some (y9,_)=>match idx y4 0 with|none=>none|some x10=>match idx y6 0 with|none=>none|some x11=>match FP ((AL y4 0 0),(AL y6 0 0),())with|none=>none|some (y12,_)=>match orI (([y9,y12]:List (Int)),())with|none=>none|some (y13,_)=>match(ilt y13 0)with
 |true=>some (y4,0,())
 |false=>some (y6,0,())
def UD[Lk]:=fun v=>Lk.f (Pq v)
theorem Yq v:UD v=Pq v:=AJ _
abbrev AZA:AF:=[(.tmp 0,.box 8),(.cell 0 0,.di),(.cell 0 1,.own 44 U2),(.cell 0 2,.dat .bool),(.cell 0 3,.dat .bool),(.cell 0 4,.di),(.cell 0 5,.di),(.cell 0 6,.di),(.cell 0 7,.di),(.tmp 1,.di),(.tmp 2,.di),(.tmp 3,.di)]
abbrev AY6:AF:=[(.obj 0,.box 8),(.cell 0 0,.di),(.cell 0 1,.own 44 U2),(.cell 0 2,.dat .bool),(.cell 0 3,.dat .bool),(.cell 0 4,.di),(.cell 0 5,.di),(.cell 0 6,.di),(.cell 0 7,.di),(.obj 1,.own' 1),(.tmp 0,.dat .bool)]
abbrev AY2:List RS:=[.one]
abbrev AY7:AF:=[(.obj 0,.box 8),(.cell 0 0,.di),(.cell 0 1,.own 44 U2),(.cell 0 2,.dat .bool),(.cell 0 3,.dat .bool),(.cell 0 4,.di),(.cell 0 5,.di),(.cell 0 6,.di),(.cell 0 7,.di),(.obj 1,.own' 1),(.tmp 0,.ptr' 0 0),(.cap 14 0,.box 1),(.cell 2 0,.map U0 U0),(.tmp 14,.clo 141 [(2,0)]),(.tmp 86,.prs 157 1),(.tmp 87,.di),(.tmp 88,.di)]
abbrev AY3:A2:=[(.exit 5,[(.obj 0,.box 8),(.cell 0 0,.di),(.cell 0 1,.own 44 U2),(.cell 0 2,.dat .bool),(.cell 0 3,.dat .bool),(.cell 0 4,.di),(.cell 0 5,.di),(.cell 0 6,.di),(.cell 0 7,.di),(.obj 1,.own' 1)]),(.ret,[(.obj 0,.box 8),(.cell 0 0,.di),(.cell 0 1,.own 44 U2),(.cell 0 2,.dat .bool),(.cell 0 3,.dat .bool),(.cell 0 4,.di),(.cell 0 5,.di),(.cell 0 6,.di),(.cell 0 7,.di),(.obj 1,.own' 1),(.tmp 8,.dat .bool)])]
def Lq[Lk]:Vf→Option (Vf⊕V8⊕(Int×List U1×Bool×Bool×Int×Int×Int×Int×Bool×Unit)⊕Unit):=fun(a0,a1,a2,a3,a4,a5,a6,a7,a8,a9,a10,a11,_)=>
 match(ilt a11 a10)with
 |true=>match idx a9 a11 with|none=>none|some x0=>match(ieq (IntKind.wrap .i64 (((AS a8 (AL a1 (AE (AL a9 (AE a11) 0)) (0,(0,(0,(false,()))))).1).getD 0)+((AS a8 (AL a1 (AE (AL a9 (AE a11) 0)) (0,(0,(0,(false,()))))).2.1).getD 0))) 0)with
  |true=>some (.inl (a0,a1,a2,a3,a4,a5,a6,a7,a8,a9,a10,(IntKind.wrap .i64 (a11+1)),()))
  |false=>match(ieq (IntKind.wrap .i64 (((AS a8 (AL a1 (AE (AL a9 (AE a11) 0)) (0,(0,(0,(false,()))))).1).getD 0)+((AS a8 (AL a1 (AE (AL a9 (AE a11) 0)) (0,(0,(0,(false,()))))).2.1).getD 0))) 2)with
  |true=>some (.inl (a0,(An a1 (AE (AL a9 (AE a11) 0)) ((AL a1 (AE (AL a9 (AE a11) 0)) (0,(0,(0,(false,()))))).1,((AL a1 (AE (AL a9 (AE a11) 0)) (0,(0,(0,(false,()))))).2.1,((By a7 (IntKind.wrap .i64 ((AL a1 (AE (AL a9 (AE a11) 0)) (0,(0,(0,(false,()))))).2.2.1+1))),((AL a1 (AE (AL a9 (AE a11) 0)) (0,(0,(0,(false,()))))).2.2.2.1,()))))),a2,a3,a4,a5,(IntKind.wrap .i64 (a6+1)),a7,a8,a9,a10,(IntKind.wrap .i64 (a11+1)),()))
  |false=>match(ieq (IntKind.wrap .i64 (((AS a8 (AL a1 (AE (AL a9 (AE a11) 0)) (0,(0,(0,(false,()))))).1).getD 0)+((AS a8 (AL a1 (AE (AL a9 (AE a11) 0)) (0,(0,(0,(false,()))))).2.1).getD 0))) 1)with
  |true=>some (.inr (.inr (.inl (a0,(An a1 (AE (AL a9 (AE a11) 0)) ((AL a1 (AE (AL a9 (AE a11) 0)) (0,(0,(0,(false,()))))).1,((AL a1 (AE (AL a9 (AE a11) 0)) (0,(0,(0,(false,()))))).2.1,((AL a1 (AE (AL a9 (AE a11) 0)) (0,(0,(0,(false,()))))).2.2.1,(true,()))))),a2,true,(AL (An a1 (AE (AL a9 (AE a11) 0)) ((AL a1 (AE (AL a9 (AE a11) 0)) (0,(0,(0,(false,()))))).1,((AL a1 (AE (AL a9 (AE a11) 0)) (0,(0,(0,(false,()))))).2.1,((AL a1 (AE (AL a9 (AE a11) 0)) (0,(0,(0,(false,()))))).2.2.1,(true,()))))) (AE (AL a9 (AE a11) 0)) (0,(0,(0,(false,()))))).1,(AL (An a1 (AE (AL a9 (AE a11) 0)) ((AL a1 (AE (AL a9 (AE a11) 0)) (0,(0,(0,(false,()))))).1,((AL a1 (AE (AL a9 (AE a11) 0)) (0,(0,(0,(false,()))))).2.1,((AL a1 (AE (AL a9 (AE a11) 0)) (0,(0,(0,(false,()))))).2.2.1,(true,()))))) (AE (AL a9 (AE a11) 0)) (0,(0,(0,(false,()))))).2.1,a6,a7,true,()))))
  |false=>some (.inl (a0,a1,a2,a3,a4,a5,a6,a7,a8,a9,a10,(IntKind.wrap .i64 (a11+1)),()))
 |false=>some (.inr (.inl (a0,a1,a2,a3,a4,a5,a6,a7,())))
abbrev AY8:AF:=[(.obj 0,.box 8),(.cell 0 0,.di),(.cell 0 1,.own 44 U2),(.cell 0 2,.dat .bool),(.cell 0 3,.dat .bool),(.cell 0 4,.di),(.cell 0 5,.di),(.cell 0 6,.di),(.cell 0 7,.di),(.obj 1,.own' 1),(.tmp 0,.ptr' 0 0),(.tmp 3,.di),(.cap 14 0,.box 1),(.cell 2 0,.map U0 U0),(.tmp 14,.clo 141 [(2,0)]),(.tmp 15,.prs 157 1),(.tmp 47,.di),(.tmp 48,.di)]
abbrev AY4:A2:=[(.exit 2,[(.obj 0,.box 8),(.cell 0 0,.di),(.cell 0 1,.own 44 U2),(.cell 0 2,.dat .bool),(.cell 0 3,.dat .bool),(.cell 0 4,.di),(.cell 0 5,.di),(.cell 0 6,.di),(.cell 0 7,.di),(.obj 1,.own' 1),(.tmp 0,.ptr' 0 0),(.cap 14 0,.box 1),(.cell 2 0,.map U0 U0),(.tmp 14,.clo 141 [(2,0)]),(.tmp 15,.prs 157 1)])]
def Lr[Lk]:Up→Option (Up⊕(Int×List U1×Bool×Bool×Int×Int×Int×Int×List Uu×List Int×Unit)⊕Unit):=fun(a0,a1,a2,a3,a4,a5,a6,a7,a8,a9,a10,a11,a12,_)=>
 match(ilt a12 a11)with
 |true=>match idx a1 a12 with|none=>none|some x0=>match(!(ieq (AL a1 (AE a12) (0,(0,(0,(false,()))))).2.2.1 a8))with
  |true=>some (.inl (a0,a1,a2,a3,a4,a5,a6,a7,a8,a9,a10,a11,(IntKind.wrap .i64 (a12+1)),()))
  |false=>match(!(AL a1 (AE a12) (0,(0,(0,(false,()))))).2.2.2.1)with
  |true=>match(fits ((AM a10)+(AM ([(Int.ofNat (AE a12))]:List (Int)))))with
   |true=>some (.inl (a0,a1,a2,a3,a4,a5,a6,a7,a8,a9,(A5 a10 ([(Int.ofNat (AE a12))]:List (Int))),a11,(IntKind.wrap .i64 (a12+1)),()))
   |false=>none
  |false=>match(ieq (IntKind.wrap .i64 (((AS a9 (AL a1 (AE a12) (0,(0,(0,(false,()))))).1).getD 0)+((AS a9 (AL a1 (AE a12) (0,(0,(0,(false,()))))).2.1).getD 0))) 2)with
  |true=>some (.inl (a0,(An a1 (AE a12) ((AL a1 (AE a12) (0,(0,(0,(false,()))))).1,((AL a1 (AE a12) (0,(0,(0,(false,()))))).2.1,((By a7 (IntKind.wrap .i64 ((AL a1 (AE a12) (0,(0,(0,(false,()))))).2.2.1+1))),((AL a1 (AE a12) (0,(0,(0,(false,()))))).2.2.2.1,()))))),a2,a3,a4,a5,(IntKind.wrap .i64 (a6+1)),a7,a8,a9,a10,a11,(IntKind.wrap .i64 (a12+1)),()))
  |false=>some (.inl (a0,a1,a2,a3,a4,a5,a6,a7,a8,a9,a10,a11,(IntKind.wrap .i64 (a12+1)),()))
 |false=>some (.inr (.inl (a0,a1,a2,a3,a4,a5,a6,a7,a9,a10,())))
abbrev AY9:AF:=[(.obj 0,.box 8),(.cell 0 0,.di),(.cell 0 1,.own 44 U2),(.cell 0 2,.dat .bool),(.cell 0 3,.dat .bool),(.cell 0 4,.di),(.cell 0 5,.di),(.cell 0 6,.di),(.cell 0 7,.di),(.obj 1,.own' 1),(.tmp 0,.ptr' 0 0),(.tmp 3,.di),(.tmp 11,.box 1),(.cell 2 0,.map U0 U0),(.tmp 32,.own 3 U0),(.tmp 33,.di),(.tmp 34,.di)]
abbrev AY5:A2:=[(.exit 0,[(.obj 0,.box 8),(.cell 0 0,.di),(.cell 0 1,.own 44 U2),(.cell 0 2,.dat .bool),(.cell 0 3,.dat .bool),(.cell 0 4,.di),(.cell 0 5,.di),(.cell 0 6,.di),(.cell 0 7,.di),(.obj 1,.own' 1),(.tmp 0,.ptr' 0 0),(.tmp 3,.di),(.tmp 11,.box 1),(.cell 2 0,.map U0 U0)])]
def Ls[Lk]:Up→Option (Up⊕(Int×List U1×Bool×Bool×Int×Int×Int×Int×Int×List Uu×Unit)⊕Unit):=fun(a0,a1,a2,a3,a4,a5,a6,a7,a8,a9,a10,a11,a12,_)=>
 match(ilt a12 a11)with
 |true=>match idx a10 a12 with|none=>none|some x0=>some (.inl (a0,a1,a2,a3,a4,a5,a6,a7,a8,(Ag a9 (AL a10 (AE a12) 0) 1),a10,a11,(IntKind.wrap .i64 (a12+1)),()))
 |false=>some (.inr (.inl (a0,a1,a2,a3,a4,a5,a6,a7,a8,a9,())))
def AS5[Lk]:(Int×List U1×Bool×Bool×Int×Int×Int×Int×Int×Int×Int×Unit)→Option ((Int×List U1×Bool×Bool×Int×Int×Int×Int×Bool×Unit)):=fun(a0,a1,a2,a3,a4,a5,a6,a7,a8,a9,a10,_)=>
 match UD ((a0,(a1,())),a8,a9,a10,())with|none=>none|some (y0,y1,_)=>match AR Ls many (a0,a1,a2,a3,a4,a5,a6,a7,a10,([]:List Uu),y0,(AM y0),0,())with|none=>none|some r=>match r with
 |.inl (o2,o3,o4,o5,o6,o7,o8,o9,o10,o11,_)=>match AR Lr many (o2,o3,o4,o5,o6,o7,o8,o9,o10,o11,([]:List (Int)),(AM o3),0,())with|none=>none|some r=>match r with
  |.inl (o12,o13,o14,o15,o16,o17,o18,o19,o20,o21,_)=>match AR Lq many (o12,o13,o14,o15,o16,o17,o18,o19,o20,o21,(AM o21),0,())with|none=>none|some r=>match r with
   |.inl (o22,o23,o24,o25,o26,o27,o28,o29,_)=>some (o22,o23,o24,o25,o26,o27,o28,o29,false,())
   |.inr r=>match r with
   |.inl (o30,o31,o32,o33,o34,o35,o36,o37,o38,_)=>some (o30,o31,o32,o33,o34,o35,o36,o37,o38,())
   |.inr _=>none
  |.inr _=>none
 |.inr _=>none
def pat[Lk]:=fun v=>Lk.f (AS5 v)
theorem AZB v:pat v=AS5 v:=AJ _
abbrev APL:AF:=[(.tmp 0,.dat Uc),(.tmp 1,.di),(.tmp 2,.di)]
abbrev APK:AF:=[(.tmp 0,.di),(.tmp 1,.dat Uq),(.tmp 2,.dat Ug),(.tmp 3,.di)]
abbrev APJ:List RS:=[.agg 2,.one,.one]
abbrev ASy:AF:=[(.tmp 6,.box 2),(.cell 0 0,.di),(.cell 0 1,.nil U2),(.tmp 7,.box 5),(.cell 1 0,.dat .bool),(.cell 1 1,.dat .bool),(.cell 1 2,.di),(.cell 1 3,.di),(.cell 1 4,.di),(.tmp 11,.box 4),(.cell 2 0,.di),(.cell 2 1,.di),(.cell 2 2,.di),(.cell 2 3,.dat .bool),(.tmp 12,.box 8),(.cell 3 0,.di),(.cell 3 1,.own 44 U2),(.cell 3 2,.dat .bool),(.cell 3 3,.dat .bool),(.cell 3 4,.di),(.cell 3 5,.di),(.cell 3 6,.di),(.cell 3 7,.di),(.tmp 13,.di)]
abbrev ASx:A2:=[(.exit 0,[(.tmp 6,.box 2),(.cell 0 0,.di),(.cell 0 1,.nil U2),(.tmp 7,.box 5),(.cell 1 0,.dat .bool),(.cell 1 1,.dat .bool),(.cell 1 2,.di),(.cell 1 3,.di),(.cell 1 4,.di),(.tmp 12,.box 8),(.cell 2 0,.di),(.cell 2 1,.own 44 U2),(.cell 2 2,.dat .bool),(.cell 2 3,.dat .bool),(.cell 2 4,.di),(.cell 2 5,.di),(.cell 2 6,.di),(.cell 2 7,.di)])]
def EJ[Lk]:Un→Option (Un⊕(Int×Bool×Bool×Int×Int×Int×Int×List U1×Bool×Bool×Int×Int×Int×Int×Unit)⊕Unit):=fun(a0,a1,a2,a3,a4,a5,a6,a7,a8,a9,a10,a11,a12,a13,a14,a15,a16,a17,a18,_)=>
 match a9 with
 |true=>match(ile 0 a18)with
  |true=>match pat (a10,a11,a12,a13,a14,a15,a16,a17,a6,a7,a18,())with|none=>none|some (y0,y1,y2,y3,y4,y5,y6,y7,y8,_)=>match(!y8)with
   |true=>some (.inl (a0,a1,a2,a3,a4,a5,a6,a7,a8,a9,y0,y1,y2,y3,y4,y5,y6,y7,(IntKind.wrap .i64 (a18-1)),()))
   |false=>some (.inr (.inl (a0,a1,a2,a3,a4,a5,y0,y1,y2,y3,y4,y5,y6,y7,())))
  |false=>some (.inr (.inl (a0,a1,a2,a3,a4,a5,a10,a11,a12,a13,a14,a15,a16,a17,())))
 |false=>some (.inr (.inl (a0,a1,a2,a3,a4,a5,a10,a11,a12,a13,a14,a15,a16,a17,())))
def Yt[Lk]:V5→Option ((Int×List U1×Ua×Int×Unit)):=fun(a0,a1,a2,_)=>
 match OT ((a0.1,(a0.2.1,())),a1,a2,())with|none=>none|some (y0,y1,_)=>match(!(ieq y1 0))with
 |true=>some (a0.1,a0.2.1,(false,(false,((0,(0,())),(0,())))),y1,())
 |false=>match idx a0.2.1 y0 with|none=>none|some x2=>match B5 a0.2.1 0 y0 with|none=>none|some x3=>match B5 a0.2.1 (IntKind.wrap .i64 (y0+1)) (AM a0.2.1)with|none=>none|some x4=>match Nb (([x3,x4]:List (List U1)),())with|none=>none|some (y5,_)=>match ACt (a0.1,())with|none=>none|some (y6,_)=>match AR EJ many (0,false,false,0,0,0,x2.1,x2.2.1,x2.2.2.1,x2.2.2.2.1,a0.1,y5,x2.2.2.2.1,false,0,0,0,y6,x2.2.2.1,())with|none=>none|some r=>match r with
 |.inl (o7,o8,o9,o10,o11,o12,o13,o14,o15,o16,o17,o18,o19,o20,_)=>some (o13,o14,(o15,(o16,((o17,(o18,())),(o19,())))),0,())
 |.inr _=>none
def WU[Lk]:=fun v=>Lk.f (Yt v)
theorem AGL v:WU v=Yt v:=AJ _
abbrev AGX:AF:=[(.tmp 0,.dat Uc),(.tmp 1,.dat V0)]
abbrev AGW:AF:=[(.tmp 0,.dat Uc),(.tmp 1,.own 71 Ug),(.tmp 2,.di)]
abbrev AGV:List RS:=[.one,.one,.one]
abbrev AKm:AF:=[(.tmp 2,.box 2),(.cell 0 0,.di),(.cell 0 1,.dat Uq),(.tmp 4,.box 2),(.cell 1 0,.di),(.cell 1 1,.nil U2),(.tmp 9,.own 71 Ug),(.tmp 10,.box 2),(.cell 3 0,.di),(.cell 3 1,.dat Uq),(.tmp 27,.own 42 U5),(.tmp 28,.di),(.tmp 29,.di)]
abbrev AKl:A2:=[(.ret,[(.tmp 4,.box 2),(.cell 0 0,.di),(.cell 0 1,.dat Uq),(.tmp 5,.nil Ug),(.tmp 6,.di)]),(.exit 0,[(.tmp 4,.box 2),(.cell 0 0,.di),(.cell 0 1,.nil U2),(.tmp 9,.own 71 Ug),(.tmp 10,.box 2),(.cell 2 0,.di),(.cell 2 1,.dat Uq)])]
def D9[Lk]:Vn→Option (Vn⊕(Int×List U1×Int×Unit)⊕(Int×List Ua×Int×List U1×Unit)⊕Unit):=fun(a0,a1,a2,a3,a4,a5,a6,a7,a8,_)=>
 match(ilt a8 a7)with
 |true=>match idx a6 a8 with|none=>none|some x0=>match WU ((a4,(a5,())),(AL a6 (AE a8) (0,(0,()))).1,(AL a6 (AE a8) (0,(0,()))).2.1,())with|none=>none|some (y1,y2,y3,y4,_)=>match(!(ieq y4 0))with
  |true=>some (.inr (.inl (a0,a1,y4,())))
  |false=>match(fits ((AM a3)+(AM ([(y3.1,(y3.2.1,((y3.2.2.1.1,(y3.2.2.1.2.1,())),(y3.2.2.2.1,()))))]:List Ua))))with
  |true=>some (.inl (a0,a1,a2,(A5 a3 ([(y3.1,(y3.2.1,((y3.2.2.1.1,(y3.2.2.1.2.1,())),(y3.2.2.2.1,()))))]:List Ua)),y1,y2,a6,a7,(IntKind.wrap .i64 (a8+1)),()))
  |false=>none
 |false=>some (.inr (.inr (.inl (a2,a3,a4,a5,()))))
def W9[Lk]:Ve→Option ((Ud×List Ua×Int×Unit)):=fun(a0,a1,_)=>
 match UI ((a0.1,(a0.2.1,())),a1,())with|none=>none|some (y0,y1,_)=>match(!(ieq y1 0))with
 |true=>some ((a0.1,(a0.2.1,())),([]:List Ua),y1,())
 |false=>match AR D9 many (a0.1,a0.2.1,0,([]:List Ua),a0.1,a0.2.1,y0,(AM y0),0,())with|none=>none|some r=>match r with
 |.inl (o2,o3,o4,_)=>some ((o2,(o3,())),([]:List Ua),o4,())
 |.inr r=>match r with
 |.inl (o5,o6,o7,o8,_)=>some ((o7,(o8,())),o6,0,())
 |.inr _=>none
def ZD[Lk]:=fun v=>Lk.f (W9 v)
theorem AKn v:ZD v=W9 v:=AJ _
abbrev YJ:AF:=[(.tmp 0,.dat (.slice Ug)),(.tmp 1,.dat (.slice Ug))]
abbrev YI:AF:=[(.tmp 0,.dat .bool)]
abbrev YH:List RS:=[.one]
abbrev ADi:AF:=[(.tmp 0,.dat (.slice Ug)),(.tmp 1,.dat (.slice Ug)),(.tmp 5,.di)]
abbrev ADh:A2:=[(.ret,[(.tmp 4,.dat .bool)]),(.exit 0,[])]
def Fe[Lk]:(List Ua×List Ua×Int×Unit)→Option ((List Ua×List Ua×Int×Unit)⊕Uh⊕(Unit)⊕Unit):=fun(a0,a1,a2,_)=>
 match(ilt a2 (AM a0))with
 |true=>match idx a0 a2 with|none=>none|some x0=>match idx a1 a2 with|none=>none|some x1=>match(!((x0.1==x1.1)&&((x0.2.1==x1.2.1)&&(ieq x0.2.2.1.1 x1.2.2.1.1&&(ieq x0.2.2.1.2.1 x1.2.2.1.2.1&&(ieq x0.2.2.2.1 x1.2.2.2.1&&true))))))with
  |true=>some (.inr (.inl (false,())))
  |false=>some (.inl (a0,a1,(IntKind.wrap .i64 (a2+1)),()))
 |false=>some (.inr (.inr (.inl ())))
def Pf[Lk]:(List Ua×List Ua×Unit)→Option (Uh):=fun(a0,a1,_)=>
 match(!(ieq (AM a0) (AM a1)))with
 |true=>some (false,())
 |false=>match AR Fe many (a0,a1,0,())with|none=>none|some r=>match r with
 |.inl (o0,_)=>some (o0,())
 |.inr r=>match r with
 |.inl _=>some (true,())
 |.inr _=>none
def YL[Lk]:=fun v=>Lk.f (Pf v)
theorem ADj v:YL v=Pf v:=AJ _
abbrev Tg:AF:=[]
abbrev Tf:AF:=[(.tmp 0,.dat .bool)]
abbrev Te:List RS:=[.one]
def Th[Lk]:(Unit)→Option (Uh):=fun _=>
 match WU ((4,(([(0,(1,(0,(true,())))),(0,(2,(0,(true,())))),(1,(2,(0,(false,())))),(2,(3,(0,(true,()))))]:List U1),())),1,0,())with|none=>none|some (y0,y1,y2,y3,_)=>match ZD ((4,(([(0,(1,(0,(true,())))),(0,(2,(0,(true,())))),(1,(2,(0,(false,())))),(2,(3,(0,(true,()))))]:List U1),())),([(3,(2,())),(0,(1,())),(1,(3,())),(1,(0,()))]:List U3),())with|none=>none|some (y4,y5,y6,_)=>match UD ((y0,(y1,())),0,3,1,())with|none=>none|some (y7,y8,_)=>match UI ((4,(([(0,(1,(0,(true,())))),(0,(2,(0,(true,())))),(1,(2,(0,(false,())))),(2,(3,(0,(true,()))))]:List U1),())),([(2,(1,())),(3,(0,()))]:List U3),())with|none=>none|some (y9,y10,_)=>match WU ((4,(([(0,(1,(0,(true,())))),(0,(2,(0,(true,())))),(1,(2,(0,(false,())))),(2,(3,(0,(true,()))))]:List U1),())),0,3,())with|none=>none|some (y11,y12,y13,y14,_)=>match UD ((4,(([(0,(1,(0,(true,())))),(0,(2,(0,(true,())))),(1,(2,(0,(false,())))),(2,(3,(0,(true,()))))]:List U1),())),0,3,0,())with|none=>none|some (y15,y16,_)=>match(ieq y3 0)with
 |true=>match(ieq y6 0)with
  |true=>match(ieq y8 0)with
   |true=>match(ieq y10 0)with
    |true=>match(ieq y14 6)with
     |true=>match(ieq y16 5)with
      |true=>match((y2.1==true)&&((y2.2.1==true)&&(ieq y2.2.2.1.1 1&&(ieq y2.2.2.1.2.1 2&&(ieq y2.2.2.2.1 0&&true)))))with
       |true=>match Rz ((y0,(y1,())),(4,(([(0,(2,(0,(true,())))),(1,(2,(0,(true,())))),(2,(3,(0,(true,()))))]:List U1),())),())with|none=>none|some (y17,_)=>match y17 with
        |true=>match(ieq (AM y5) 2)with
         |true=>match idx y5 1 with|none=>none|some x18=>match(((AL y5 1 (false,(false,((0,(0,())),(0,()))))).1==true)&&(((AL y5 1 (false,(false,((0,(0,())),(0,()))))).2.1==false)&&(ieq (AL y5 1 (false,(false,((0,(0,())),(0,()))))).2.2.1.1 0&&(ieq (AL y5 1 (false,(false,((0,(0,())),(0,()))))).2.2.1.2.1 0&&(ieq (AL y5 1 (false,(false,((0,(0,())),(0,()))))).2.2.2.1 0&&true)))))with
          |true=>match(ieq (AM y4.2.1) 2)with
           |true=>match S3 (y7,([0]:List (Int)),())with|none=>none|some (y19,_)=>match y19 with
            |true=>match AF1 (y9,([(1,(2,()))]:List U3),())with|none=>none|some (y20,_)=>some (y20,())
            |false=>some (false,())
           |false=>some (false,())
          |false=>some (false,())
         |false=>some (false,())
        |false=>some (false,())
       |false=>some (false,())
      |false=>some (false,())
     |false=>some (false,())
    |false=>some (false,())
   |false=>some (false,())
  |false=>some (false,())
 |false=>some (false,())
def I2[Lk]:=fun v=>Lk.f (Th v)
theorem ASQ v:I2 v=Th v:=AJ _
abbrev TC:AF:=[(.tmp 0,.dat Uc),(.tmp 1,.dat V0)]
abbrev TB:AF:=[(.tmp 0,.dat .bool)]
abbrev TA:List RS:=[.one]
def NV[Lk]:Ve→Option (Uh):=fun(a0,a1,_)=>
 match(ilt 30 (AM a0.2.1))with
 |true=>some (true,())
 |false=>match(ilt 12 a0.1)with
 |true=>some (true,())
 |false=>some ((ilt 12 (AM a1)),())
def NW[Lk]:=fun v=>Lk.f (NV v)
theorem AAc v:NW v=NV v:=AJ _
end
end Go.Pev
end
section
namespace Go.Pev
noncomputable section
attribute [local irreducible] MQ JH Nu K9 AWJ AWK AWL Pp WR WL YE JJ AP many IntKind.wrap AM An AL A5 Bm Dc Jo AE BV By imax AS Ag
abbrev Lh:AF:=[(.tmp 0,.dat Uc),(.tmp 1,.dat V0)]
abbrev Lg:AF:=[(.tmp 0,.dat .bool)]
abbrev Lf:List RS:=[.one]
abbrev Ps:AF:=[(.tmp 5,.own 42 U5),(.tmp 7,.box 2),(.cell 1 0,.di),(.cell 1 1,.dat Uq),(.tmp 8,.own 71 Ug),(.tmp 9,.di),(.tmp 10,.box 2),(.cell 3 0,.di),(.cell 3 1,.dat Uq),(.tmp 11,.own 71 Ug),(.tmp 12,.di)]
abbrev Pr:A2:=[(.ret,[(.tmp 4,.dat .bool)]),(.exit 0,[(.tmp 7,.box 2),(.cell 0 0,.di),(.cell 0 1,.dat Uq),(.tmp 8,.own 71 Ug),(.tmp 9,.di),(.tmp 10,.box 2),(.cell 2 0,.di),(.cell 2 1,.dat Uq),(.tmp 11,.own 71 Ug)])]
def CR[Lk]:Vl→Option (Vl⊕Uh⊕(Int×List U1×List Ua×Int×Int×List U1×List Ua×Unit)⊕Unit):=fun(a0,a1,a2,a3,a4,a5,a6,a7,a8,_)=>
 match(ilt a8 (AM a0))with
 |true=>match idx a0 a8 with|none=>none|some x0=>match idx a0 a8 with|none=>none|some x1=>match WU ((a5,(a6,())),(AL a0 (AE a8) (0,(0,()))).2.1,(AL a0 (AE a8) (0,(0,()))).1,())with|none=>none|some (y2,y3,y4,y5,_)=>match(!(ieq y5 0))with
  |true=>some (.inr (.inl (false,())))
  |false=>match(!(ieq (AM y3) (IntKind.wrap .i64 ((AM a6)-1))))with
  |true=>some (.inr (.inl (false,())))
  |false=>match(fits ((AM a7)+(AM ([(y4.1,(y4.2.1,((y4.2.2.1.1,(y4.2.2.1.2.1,())),(y4.2.2.2.1,()))))]:List Ua))))with
  |true=>some (.inl (a0,a1,a2,a3,a4,y2,y3,(A5 a7 ([(y4.1,(y4.2.1,((y4.2.2.1.1,(y4.2.2.1.2.1,())),(y4.2.2.2.1,()))))]:List Ua)),(IntKind.wrap .i64 (a8+1)),()))
  |false=>none
 |false=>some (.inr (.inr (.inl (a1,a2,a3,a4,a5,a6,a7,()))))
def Ie[Lk]:Ve→Option (Uh):=fun(a0,a1,_)=>
 match I2 ()with|none=>none|some (y0,_)=>match(!y0)with
 |true=>some (false,())
 |false=>match NW ((a0.1,(a0.2.1,())),a1,())with|none=>none|some (y1,_)=>match y1 with
 |true=>some (true,())
 |false=>match J7 ((a0.1,(a0.2.1,())),())with|none=>none|some (y2,_)=>match(!y2)with
 |true=>some (true,())
 |false=>match UI ((a0.1,(a0.2.1,())),a1,())with|none=>none|some (y3,y4,_)=>match ZD ((a0.1,(a0.2.1,())),a1,())with|none=>none|some (y5,y6,y7,_)=>match(!(ieq y4 0))with
 |true=>match(ieq y4 y7)with
  |true=>some ((ieq (IntKind.wrap .i64 ((AM y3)+(AM y6))) 0),())
  |false=>some (false,())
 |false=>match AR CR many (y3,y5.1,y5.2.1,y6,y7,a0.1,a0.2.1,([]:List Ua),0,())with|none=>none|some r=>match r with
 |.inl (o8,_)=>some (o8,())
 |.inr r=>match r with
 |.inl (o9,o10,o11,o12,o13,o14,o15,_)=>match(ieq o12 0)with
  |true=>match Rz ((o9,(o10,())),(o13,(o14,())),())with|none=>none|some (y16,_)=>match y16 with
   |true=>match YL (o11,o15,())with|none=>none|some (y17,_)=>some (y17,())
   |false=>some (false,())
  |false=>some (false,())
 |.inr _=>none
def HO[Lk]:=fun v=>Lk.f (Ie v)
theorem Pt v:HO v=Ie v:=AJ _
end
end Go.Pev
end
section

end
section
namespace Go.Pev.Pl
theorem Aj{n:Int}(h:-9223372036854775808≤n∧n≤9223372036854775807):IntKind.wrap .i64 n=n:=IntWalk.i64_in n h
section
variable {α:Type} [Inhabited α]
theorem Ah{d:Array α}{n:Nat}(h:n<d.size):idx d.toList (n:Int)=some d[n]! := by
 rw[idx_eq,Nu,Aev (by omega)]
 simp[h]
theorem Ar{d:Array α}{n:Nat}{z:α}(h:n<d.size):AL d.toList (AE (n:Int)) z=d[n]! := by
 simp[AL,AE,h]
theorem C1{d:Array α}{n:Nat}{x:α}:An d.toList (AE (n:Int)) x=(d.setIfInBounds n x).toList:=by
 simp[An,AE]
theorem AII{d:Array α}:AM d.toList=(d.size:Int):=by simp[AM]
theorem C6(d:Array α)(i j:Nat):(d.setIfInBounds i d[j]!).setIfInBounds j d[i]! = Go.Sort.swp d i j:=rfl
theorem size_swp(d:Array α)(i j:Nat):(Go.Sort.swp d i j).size=d.size:=by simp[Go.Sort.swp]
end
theorem AI(a b:Nat):ilt (a:Int) (b:Int)=decide (a<b):=by rw[Am];simp
theorem Bo(a b:Nat):ile (a:Int) (b:Int)=decide (a≤b):=by rw[Ap];simp
theorem QX(a b:Nat):ieq (a:Int) (b:Int)=decide (a=b):=by
 rw[D4]
 by_cases h:a=b
 ·simp[h]
 ·simp[h];omega
section
theorem wrap_add{a b:Nat}(h:a+b<9223372036854775808):IntKind.wrap .i64 ((a:Int)+(b:Int))=((a+b:Nat):Int):=by rw[Aj (by omega)];omega
theorem AG{a:Nat}(h:a+1<9223372036854775808):IntKind.wrap .i64 ((a:Int)+1)=((a+1:Nat):Int):=by rw[Aj (by omega)];omega
theorem ADL{a:Nat}(h:2*a<9223372036854775808):IntKind.wrap .i64 ((2:Int)*(a:Int))=((2*a:Nat):Int):=by rw[Aj (by omega)];omega
theorem ADK{a:Nat}(h:a<9223372036854775808):IntKind.wrap .i64 ((a:Int)*1)=((a*1:Nat):Int):=by rw[Aj (by omega)];omega
theorem Ei{a:Nat}(h:a*2<9223372036854775808):IntKind.wrap .i64 ((a:Int)*2)=((a*2:Nat):Int):=by rw[Aj (by omega)];omega
theorem ADJ{a:Nat}(h:a*3<9223372036854775808):IntKind.wrap .i64 ((a:Int)*3)=((a*3:Nat):Int):=by rw[Aj (by omega)];omega
theorem Bd{a b:Nat}(h:b≤a∧a<9223372036854775808):IntKind.wrap .i64 ((a:Int)-(b:Int))=((a-b:Nat):Int):=by rw[Aj (by omega)];omega
theorem Ao{a:Nat}(h:1≤a∧a<9223372036854775808):IntKind.wrap .i64 ((a:Int)-1)=((a-1:Nat):Int):=by rw[Aj (by omega)];omega
theorem AYb{a:Nat}(h:a<9223372036854775808):quo? .i64 (a:Int) 2=some ((a/2:Nat):Int):=by
 rw[R6,Pp,Aev (by omega),Agi (by omega),Aj (by omega)];rfl
theorem UC{a:Nat}(h:a<9223372036854775808):quo? .i64 (a:Int) 4=some ((a/4:Nat):Int):=by
 rw[R6,Pp,Aev (by omega),Agi (by omega),Aj (by omega)];rfl
theorem AdP{a:Nat}(h:a<9223372036854775808):quo? .i64 (a:Int) 8=some ((a/8:Nat):Int):=by
 rw[R6,Pp,Aev (by omega),Agi (by omega),Aj (by omega)];rfl
end
end Go.Pev.Pl
end
section
namespace Go.Pev.Pl
section
variable {α:Type}
theorem CW{xs:List α}{n:Nat}(z:α)(h:n<xs.length):idx xs (n:Int)=some (xs.getD n z):=by
 rw[idx_eq,Nu,Aev (by omega)]
 simp[h]
theorem AHk(xs:List α)(n:Nat):idx xs (n:Int)=xs[n]? := by
 rw[idx_eq,Nu,Aev (by omega)]
 simp
theorem FA(xs:List α):idx xs (0:Int)=xs.head? := by
 rw[idx_eq,Nu,Aev (by omega)]
 cases xs<;>rfl
theorem Ea(xs:List α)(n:Nat)(z:α):AL xs (AE (n:Int)) z=xs.getD n z:=by simp[AL,AE]
theorem AAy(xs:List α)(n:Nat)(x:α):An xs (AE (n:Int)) x=xs.set n x:=by simp[An,AE]
theorem AK(xs:List α):AM xs=(xs.length:Int):=rfl
theorem IF(n:Nat):AE (n:Int)=n:=by simp[AE]
theorem Co(xs ys:List α):A5 xs ys=xs++ys:=rfl
theorem Rq{xs:List α}{l h:Nat}(h1:l≤h)(h2:h≤xs.length):B5 xs (l:Int) (h:Int)=some ((xs.take h).drop l):=by
 rw[Mz,K9,Aez (by omega)]
 simp
end
theorem BE{n:Int}(h:n≤4294967296):fits n=true:=(IB n).2 h
theorem AR4{α:Type}{xs:List α}(h:xs.length≤4294967296):AIT xs=some xs:=by
 rw[AEe,JJ,(TE _).2 (by rw[AK];omega)]
theorem QY{α β:Type}(xs:List α)(ys:List β):ieq (AM xs) (AM ys)=decide (xs.length=ys.length):=by rw[AK,AK,QX]
theorem Ak(a b:Int):ieq a b=decide (a=b):=by
 rw[D4]
 by_cases h:a=b<;>simp[h]
def walk{α β ρ:Type}(f:β→α→α⊕ρ)(fin:α→ρ):List β→α→ρ
 |[],a=>fin a
 |x::xs,a=>match f x a with
  |.inl a=>walk f fin xs a
  |.inr r=>r
theorem AT7{σ ρ α β:Type}{step:σ→Option (σ⊕ρ)}(st:Nat→α→σ)(xs:List β)(f:β→α→α⊕ρ)(fin:α→ρ)(I:Nat→α→Prop)
  (h:∀ i x a,i<xs.length→xs[i]? = some x→I i a→(∀ a',f x a = .inl a'→step (st i a)=some (.inl (st (i+1) a'))∧I (i+1) a')∧(∀ r,f x a = .inr r→step (st i a)=some (.inr r)))
  (hN:∀ a,I xs.length a→step (st xs.length a)=some (.inr (fin a))) :
  ∀ (m i n:Nat) (a:α),xs.length-i=m→i≤xs.length→m<n→I i a→AP step n (st i a)=some (walk f fin (xs.drop i) a):=by
 intro m
 induction m with
 |zero=>
  intro i n a hk hi hn hI
  obtain⟨n,rfl⟩:∃ k,n=k+1:=⟨n-1,by omega⟩
  have e:i=xs.length:=by omega
  subst e
  rw[AP,hN a hI,List.drop_length]
  rfl
 |succ m ih=>
  intro i n a hk hi hn hI
  obtain⟨n,rfl⟩:∃ k,n=k+1:=⟨n-1,by omega⟩
  have hi':i<xs.length:=by omega
  obtain⟨g1,g2⟩:=h i xs[i] a hi' (by simp[hi']) hI
  rw[AfR hi',walk,AP]
  cases hf:f xs[i] a with
  |inl a'=>
   obtain⟨e,hI'⟩:=g1 a' hf
   rw[e]
   exact ih (i+1) n a' (by omega) (by omega) (by omega) hI'
  |inr r=>rw[g2 r hf]
theorem Cq{σ ρ α β:Type}{step:σ→Option (σ⊕ρ)}(st:Nat→α→σ)(xs:List β)(f:β→α→α⊕ρ)(fin:α→ρ)(I:Nat→α→Prop)(hs:xs.length<9223372036854775808)
  (h:∀ i x a,i<xs.length→xs[i]? = some x→I i a→(∀ a',f x a = .inl a'→step (st i a)=some (.inl (st (i+1) a'))∧I (i+1) a')∧(∀ r,f x a = .inr r→step (st i a)=some (.inr r)))
  (hN:∀ a,I xs.length a→step (st xs.length a)=some (.inr (fin a))) (a:α) (h0:I 0 a):AR step many (st 0 a)=some (walk f fin xs a):=by
 have hm:9223372036854775808<many:=by simp only[many];omega
 rw[Aa,AT7 st xs f fin I h hN xs.length 0 many a (by omega) (by omega) (by omega) h0]
 rfl
theorem FJ{α:Type}{xs ys:List α}(z:α)(hl:xs.length=ys.length)(h:∀ j,j<xs.length→xs.getD j z=ys.getD j z):xs=ys:=by
 apply Ahl hl
 intro i h1 h2
 have:=h i h1
 simpa [h1,h2]using this
theorem VJ{α:Type}{xs ys:List α}(z:α){j:Nat}(h:xs.getD j z≠ys.getD j z):xs≠ys:=fun e=>h (by rw[e])
theorem AUb{σ ρ:Type}{step:σ→Option (σ⊕ρ)}(st:Nat→σ)(N:Nat)(P:Nat→Bool)(rt:Nat→ρ)(rf:ρ)
  (h:∀ i,i<N→step (st i)=if P i then some (.inr (rt i))else some (.inl (st (i+1)))) (hN:step (st N)=some (.inr rf)) :
  ∀ (m i n:Nat),N-i=m→i≤N→m<n→(∃ k,i≤k∧k<N∧P k=true∧(∀ j,i≤j→j<k→P j=false)∧AP step n (st i)=some (rt k))∨((∀ j,i≤j→j<N→P j=false)∧AP step n (st i)=some rf):=by
 intro m
 induction m with
 |zero=>
  intro i n hk hi hn
  obtain⟨n,rfl⟩:∃ k,n=k+1:=⟨n-1,by omega⟩
  have e:i=N:=by omega
  subst e
  exact .inr ⟨fun j h1 h2=>by omega,by rw[AP,hN]⟩
 |succ m ih=>
  intro i n hk hi hn
  obtain⟨n,rfl⟩:∃ k,n=k+1:=⟨n-1,by omega⟩
  have hi':i<N:=by omega
  cases hP:P i
  ·have e:AP step (n+1) (st i)=AP step n (st (i+1)):=by rw[AP,h i hi',hP];rfl
   rw[e]
   rcases ih (i+1) n (by omega) (by omega) (by omega)with⟨k,h1,h2,h3,h4,h5⟩|⟨h1,h2⟩
   ·refine .inl ⟨k,by omega,h2,h3,fun j a1 a2 => ?_,h5⟩
    by_cases ej:j=i
    ·subst ej;exact hP
    ·exact h4 j (by omega) a2
   ·refine .inr ⟨fun j a1 a2 => ?_,h2⟩
    by_cases ej:j=i
    ·subst ej;exact hP
    ·exact h1 j (by omega) a2
  ·exact .inl ⟨i,Aew _,hi',hP,fun j a1 a2=>by omega,by rw[AP,h i hi',hP];rfl⟩
theorem YF{σ ρ:Type}{step:σ→Option (σ⊕ρ)}(st:Nat→σ)(N:Nat)(P:Nat→Bool)(rt:Nat→ρ)(rf:ρ)(hs:N<9223372036854775808)
  (h:∀ i,i<N→step (st i)=if P i then some (.inr (rt i))else some (.inl (st (i+1)))) (hN:step (st N)=some (.inr rf)) :
  (∃ k,k<N∧P k=true∧(∀ j,j<k→P j=false)∧AR step many (st 0)=some (rt k))∨((∀ j,j<N→P j=false)∧AR step many (st 0)=some rf):=by
 have hm:9223372036854775808<many:=by simp only[many];omega
 rw[Aa]
 rcases AUb st N P rt rf h hN N 0 many rfl (by omega) (by omega)with⟨k,h1,h2,h3,h4,h5⟩|⟨h1,h2⟩
 ·exact .inl ⟨k,h2,h3,fun j a=>h4 j (by omega) a,h5⟩
 ·exact .inr ⟨fun j a=>h1 j (by omega) a,h2⟩
end Go.Pev.Pl
end
section
namespace Go.Pev.Pl
inductive Tok where
 |ver (v:Int)
 |arc (u v:Int)
 deriving DecidableEq
namespace Tok
def st:Tok→Int
 |.ver v=>v
 |.arc _ v=>v
def step(s:List Int×List Int):Tok→Option (List Int×List Int)
 |.ver v=>match s.1 with
  |w::_=>if w=v then some s else none
  |[]=>none
 |.arc u v=>match s.1 with
  |w::r=>if w=u then match r with
    |p::r'=>if p=v then some (p::r',s.2)else if v∈s.2 then none else some (v::w::r,v::s.2)
    |[]=>if v∈s.2 then none else some (v::w::r,v::s.2)
   else none
  |[]=>none
def run:List Int×List Int→List Tok→Option (List Int×List Int)
 |s,[]=>some s
 |s,t::l=>match step s t with
  |some s=>run s l
  |none=>none
theorem DT(s:List Int×List Int)(a b:List Tok):run s (a++b)=(run s a).bind fun s=>run s b:=by
 induction a generalizing s with
 |nil=>rfl
 |cons t a ih=>
  simp only[AfF,run]
  cases step s t with
  |none=>rfl
  |some s=>exact ih s
theorem B6{s s':List Int×List Int}{t:Tok}(h:step s t=some s'):
  (∃ v r,t = .ver v∧s.1=v::r∧s'=s) ∨
  (∃ u v r,t = .arc u v∧s.1=u::v::r∧s'=(v::r,s.2)) ∨
  (∃ u v r,t = .arc u v∧s.1=u::r∧r.head?≠some v∧v∉s.2∧s'=(v::u::r,v::s.2)):=by
 obtain⟨way,c⟩:=s
 cases t with
 |ver v=>
  cases way with
  |nil=>simp[step]at h
  |cons w r=>
   simp only[step]at h
   split at h
   ·rename_i e;cases h;exact .inl ⟨v,r,rfl,by simp[e],rfl⟩
   ·cases h
 |arc u v=>
  cases way with
  |nil=>simp[step]at h
  |cons w r=>
   simp only[step]at h
   split at h
   ·rename_i e
    subst e
    cases r with
    |nil=>
     simp only at h
     split at h
     ·cases h
     ·rename_i hc;cases h;exact .inr (.inr ⟨w,v,[],rfl,rfl,by simp,hc,rfl⟩)
    |cons p r=>
     simp only at h
     split at h
     ·rename_i e;subst e;cases h;exact .inr (.inl ⟨w,p,r,rfl,rfl,rfl⟩)
     ·split at h
      ·cases h
      ·rename_i e hc;cases h;exact .inr (.inr ⟨w,v,p::r,rfl,rfl,by simpa using e,hc,rfl⟩)
   ·cases h
theorem DN(v:Int)(r c:List Int):step (v::r,c) (.ver v)=some (v::r,c):=by simp[step]
theorem GW(u v:Int)(r c:List Int):step (u::v::r,c) (.arc u v)=some (v::r,c):=by simp[step]
theorem Fc(u v:Int)(r c:List Int)(h1:r.head?≠some v)(h2:v∉c):step (u::r,c) (.arc u v)=some (v::u::r,v::c):=by
 cases r with
 |nil=>simp[step,h2]
 |cons p r=>
  have:p≠v:=by simpa using h1
  simp[step,h2,this]
def Inv(s:List Int×List Int):Prop:=s.1.Nodup∧(∀ x∈s.1,x∈s.2)
theorem X1{s s':List Int×List Int}{t:Tok}(h:step s t=some s')(hi:Inv s):Inv s'∧(∀ x∈s.2,x∈s'.2)∧s'.1.head? = some t.st:=by
 obtain⟨way,c⟩:=s
 obtain⟨h1,h2⟩:=hi
 rcases B6 h with⟨v,r,rfl,hw,rfl⟩|⟨u,v,r,rfl,hw,rfl⟩|⟨u,v,r,rfl,hw,_,hn,rfl⟩
 ·exact⟨⟨h1,h2⟩,fun x hx=>hx,by rw[hw];rfl⟩
 ·simp only at hw h1 h2
  subst hw
  refine⟨⟨?_,?_⟩,fun x hx=>hx,rfl⟩
  ·exact(AfJ.1 h1).2
  ·intro x hx;exact h2 x (by simp only at hx;simp[Aeq.1 hx])
 ·simp only at hw h1 h2 hn
  subst hw
  refine⟨⟨?_,?_⟩,fun x hx=>by simp[hx],rfl⟩
  ·exact AfJ.2 ⟨fun hm=>hn (h2 _ hm),h1⟩
  ·intro x hx
   rcases Aeq.1 hx with rfl|hx
   ·simp
   ·exact AfA _ (h2 x hx)
theorem Ib{l:List Tok}:∀ {s s':List Int×List Int},run s l=some s'→Inv s→Inv s'∧(∀ x∈s.2,x∈s'.2)∧∀ t,l.getLast? = some t→s'.1.head? = some t.st:=by
 induction l with
 |nil=>intro s s' h hi;cases h;exact⟨hi,fun x hx=>hx,fun t ht=>by simp at ht⟩
 |cons t l ih=>
  intro s s' h hi
  simp only[run]at h
  split at h
  ·rename_i s1 h1
   obtain⟨q1,q2,q3⟩:=X1 h1 hi
   obtain⟨p1,p2,p3⟩:=ih h q1
   refine⟨p1,fun x hx=>p2 x (q2 x hx),fun t' ht' => ?_⟩
   cases l with
   |nil=>simp at ht';subst ht';simp only[run]at h;cases h;exact q3
   |cons y l=>exact p3 t' (by rw[Ahc]at ht';exact ht')
  ·cases h
theorem HN{Z:Int→Prop}:∀ {l:List Tok} {way way' c d c2 low:List Int},run (way,c) l=some (way',d)→way≠[]→(∀ x,x∈c2↔x∈c∨Z x) →
  (∀ u v,.arc u v∈l→¬ Z v)→(∀ y∈low,Z y)→∃ d2,run (way++low,c2) l=some (way'++low,d2)∧(∀ x,x∈d2↔x∈d∨Z x):=by
 intro l
 induction l with
 |nil=>intro way way' c d c2 low h _ hc _ _;cases h;exact⟨c2,rfl,hc⟩
 |cons t l ih=>
  intro way way' c d c2 low h hne hc hz hl
  simp only[run]at h
  split at h
  ·rename_i s1 h1
   have hz':∀ u v,Tok.arc u v∈l→¬ Z v:=fun u v hm=>hz u v (AfA _ hm)
   rcases B6 h1 with⟨v,r,rfl,hw,rfl⟩|⟨u,v,r,rfl,hw,rfl⟩|⟨u,v,r,rfl,hw,hh,hn,rfl⟩
   ·simp only at hw
    subst hw
    obtain⟨d2,e1,e2⟩:=ih h hne hc hz' hl
    exact⟨d2,by simp only[run,AfF,DN];exact e1,e2⟩
   ·simp only at hw
    subst hw
    obtain⟨d2,e1,e2⟩:=ih h (by simp) hc hz' hl
    exact⟨d2,by simp only[run,AfF,GW];exact e1,e2⟩
   ·simp only at hw hn
    subst hw
    have hzv:=hz u v (by simp)
    have hn2:v∉c2:=by rw[hc];rintro (h|h);exact hn h;exact hzv h
    have hh2:(r++low).head?≠some v:=by
     cases r with
     |nil=>
      cases low with
      |nil=>simp
      |cons y low=>
       simp only[AfM,List.head?_cons,ne_eq,Aek]
       rintro rfl
       exact hzv (hl _ (by simp))
     |cons p r=>simpa using hh
    obtain⟨d2,e1,e2⟩:=ih (c2:=v::c2) h (by simp) (by intro x;simp only[Aeq,hc,or_assoc]) hz' hl
    exact⟨d2,by simp only[run,AfF,Fc _ _ _ _ hh2 hn2];exact e1,e2⟩
  ·cases h
theorem YV{z:Int}:∀ {l:List Tok} {way way' c2 d2 c:List Int},run (way,c2) l=some (way',d2)→z∉way→(∀ x,x∈c2↔x∈c∨x=z)→z∉c →
  .ver z∉l∧∃ d,run (way,c) l=some (way',d)∧(∀ x,x∈d2↔x∈d∨x=z)∧z∉d:=by
 intro l
 induction l with
 |nil=>intro way way' c2 d2 c h _ hc hz;cases h;exact⟨by simp,c,rfl,hc,hz⟩
 |cons t l ih=>
  intro way way' c2 d2 c h hzw hc hz
  simp only[run]at h
  split at h
  ·rename_i s1 h1
   rcases B6 h1 with⟨v,r,rfl,hw,rfl⟩|⟨u,v,r,rfl,hw,rfl⟩|⟨u,v,r,rfl,hw,hh,hn,rfl⟩
   ·simp only at hw
    subst hw
    obtain⟨e0,d,e1,e2,e3⟩:=ih h hzw hc hz
    refine⟨?_,d,by simp only[run,DN];exact e1,e2,e3⟩
    rintro hm
    rcases Aeq.1 hm with hm|hm
    ·cases hm;exact hzw (by simp)
    ·exact e0 hm
   ·simp only at hw
    subst hw
    obtain⟨e0,d,e1,e2,e3⟩:=ih h (fun hm=>hzw (AfA _ hm)) hc hz
    refine⟨?_,d,by simp only[run,GW];exact e1,e2,e3⟩
    rintro hm
    rcases Aeq.1 hm with hm|hm
    ·cases hm
    ·exact e0 hm
   ·simp only at hw hn
    subst hw
    have hvz:v≠z:=by rintro rfl;exact hn ((hc v).2 (.inr rfl))
    have hn':v∉c:=fun hm=>hn ((hc v).2 (.inl hm))
    obtain⟨e0,d,e1,e2,e3⟩:=ih (c:=v::c) h (by intro hm;rcases Aeq.1 hm with hm|hm;exact hvz hm.symm;exact hzw hm)
     (by intro x;simp only[Aeq,hc,or_assoc])
     (by intro hm;rcases Aeq.1 hm with hm|hm;exact hvz hm.symm;exact hz hm)
    refine⟨?_,d,by simp only[run,Fc _ _ _ _ hh hn'];exact e1,e2,e3⟩
    rintro hm
    rcases Aeq.1 hm with hm|hm
    ·cases hm
    ·exact e0 hm
  ·cases h
def Rot(a b:List Tok):Prop:=∃ x y,a=x++y∧b=y++x
theorem Rot.refl(a:List Tok):Rot a a:=⟨[],a,rfl,by simp⟩
theorem Rot.symm{a b:List Tok}(h:Rot a b):Rot b a:=by obtain⟨x,y,h1,h2⟩:=h;exact⟨y,x,h2,h1⟩
theorem Rot.trans{a b c:List Tok}(h:Rot a b)(g:Rot b c):Rot a c:=by
 obtain⟨x,y,rfl,h2⟩:=h
 obtain⟨z,w,h3,rfl⟩:=g
 rw[h2]at h3
 rcases List.append_eq_append_iff.1 h3 with⟨k,h4,h5⟩|⟨k,h4,h5⟩
 ·subst h4 h5
  exact⟨k,w++y,by simp,by simp⟩
 ·subst h4 h5
  exact⟨x++z,k,by simp,by simp⟩
theorem Rot.perm{a b:List Tok}(h:Rot a b):a.Perm b:=by
 obtain⟨x,y,rfl,rfl⟩:=h
 exact AgL
theorem Rot.mem{a b:List Tok}(h:Rot a b)(t:Tok):t∈a↔t∈b:=h.perm.mem_iff
theorem Rot.nodup{a b:List Tok}(h:Rot a b):a.Nodup↔b.Nodup:=h.perm.nodup_iff
theorem Rot.length{a b:List Tok}(h:Rot a b):a.length=b.length:=h.perm.length_eq
inductive T:List Tok→Prop
 |one (v:Int):T [.ver v]
 |add (x:Tok) (l:List Tok) (v:Int):T (x::l)→x.st≠v→.ver v∉x::l→T (x :: .arc x.st v :: .ver v :: .arc v x.st::l)
 |rot (a b:List Tok):T (a++b)→T (b++a)
theorem T.AQJ{a b:List Tok}(h:T a)(r:Rot a b):T b:=by obtain⟨x,y,rfl,rfl⟩:=r;exact T.rot x y h
theorem T.facts{l:List Tok}(h:T l):l≠[]∧(∀ t∈l,.ver t.st∈l)∧(∀ u v,.arc u v∈l→.ver u∈l∧.ver v∈l∧.arc v u∈l∧u≠v):=by
 induction h with
 |one v=>exact⟨by simp,by simp[st],by simp⟩
 |add x l v h hne hv ih=>
  obtain⟨_,i2,i3⟩:=ih
  have hsub:∀ t,t∈x::l→t∈x::Tok.arc x.st v :: .ver v :: .arc v x.st::l:=by
   intro t ht
   rcases Aeq.1 ht with rfl|ht
   ·simp
   ·simp[ht]
  have hx:=hsub _ (i2 x (by simp))
  have cases3:∀ t,t∈x::Tok.arc x.st v :: .ver v :: .arc v x.st::l→t∈x::l∨t = .arc x.st v∨t = .ver v∨t = .arc v x.st:=by
   intro t ht
   simp only[Aeq]at ht ⊢
   rcases ht with h|h|h|h|h<;>simp[h]
  refine⟨by simp,fun t ht => ?_,fun a b hab => ?_⟩
  ·rcases cases3 t ht with h|rfl|rfl|rfl
   ·exact hsub _ (i2 t h)
   ·simp[st]
   ·simp[st]
   ·exact hx
  ·rcases cases3 _ hab with h|h|h|h
   ·obtain⟨p1,p2,p3,p4⟩:=i3 a b h
    exact⟨hsub _ p1,hsub _ p2,hsub _ p3,p4⟩
   ·cases h;exact⟨hx,by simp,by simp,hne⟩
   ·cases h
   ·cases h;exact⟨by simp,hx,by simp,Aff hne⟩
 |rot a b h ih=>
  obtain⟨i1,i2,i3⟩:=ih
  have hm:∀ t,t∈a++b↔t∈b++a:=fun t=>List.perm_append_comm.mem_iff
  refine⟨by intro e;simp only[List.append_eq_nil_iff]at e;exact i1 (by simp[e.1,e.2]),fun t ht=>(hm _).1 (i2 t ((hm _).2 ht)),fun u v huv => ?_⟩
  obtain⟨p1,p2,p3,p4⟩:=i3 u v ((hm _).2 huv)
  exact⟨(hm _).1 p1,(hm _).1 p2,(hm _).1 p3,p4⟩
theorem T.nodup{l:List Tok}(h:T l):l.Nodup:=by
 induction h with
 |one v=>simp
 |add x l v h hne hv ih=>
  obtain⟨_,_,f3⟩:=h.facts
  have h1:Tok.arc x.st v∉x::l:=fun hm=>hv (f3 _ _ hm).2.1
  have h2:Tok.arc v x.st∉x::l:=fun hm=>hv (f3 _ _ hm).1
  simp only[Aeq,not_or]at h1 h2 hv
  have ih':=AfJ.1 ih
  simp only[AfJ,Aeq,not_or]
  refine⟨⟨fun e=>h1.1 e.symm,fun e=>hv.1 e.symm,fun e=>h2.1 e.symm,ih'.1⟩,⟨by simp,?_,h1.2⟩,⟨by simp,hv.2⟩,h2.2,ih'.2⟩
  intro e
  simp only[Tok.arc.injEq]at e
  exact hne e.1
 |rot a b h ih=>exact(List.perm_append_comm.nodup_iff).1 ih
def C(l:List Tok):Prop:=∀ r,Rot l r→∀ t,r.getLast? = some t→∃ c,run ([t.st],[t.st]) r=some ([t.st],c)∧∀ x,x∈c↔.ver x∈l
end Tok
end Go.Pev.Pl
end
section
namespace Go.Pev.Pl.Tok
theorem getLast?_app{a b:List Tok}{t:Tok}(h:b.getLast? = some t):(a++b).getLast? = some t:=by
 rw[Ag2,h];rfl
theorem A0(s:List Int×List Int)(t:Tok)(l:List Tok):run s (t::l)=(step s t).bind fun s=>run s l:=by
 rw[run]
 cases step s t<;>rfl
theorem Nm(v:Int):Inv ([v],[v]):=⟨by simp,by simp⟩
theorem T.toC{l:List Tok}(h:T l):C l:=by
 induction h with
 |one v=>
  intro r hr t ht
  have:r=[.ver v]:=List.perm_singleton.1 hr.perm.symm
  subst this
  simp at ht
  subst ht
  exact⟨[v],by simp[run,st,step],by simp⟩
 |rot a b h ih=>
  intro r hr t ht
  obtain⟨c,h1,h2⟩:=ih r (Rot.trans ⟨a,b,rfl,rfl⟩ hr) t ht
  exact⟨c,h1,fun x=>(h2 x).trans (List.perm_append_comm.mem_iff)⟩
 |add x l v h hne hv ih=>
  obtain⟨_,f2,f3⟩:=h.facts
  have hnz:∀ u w,Tok.arc u w∈x::l→¬ (w=v):=fun u w hm e=>hv (e▸(f3 u w hm).2.1)
  have fin:∀ {d2 c:List Int},(∀ y,y∈d2↔y∈c∨y=v)→(∀ y,y∈c↔.ver y∈x::l)→∀ y,y∈d2↔Tok.ver y∈x :: .arc x.st v :: .ver v :: .arc v x.st::l:=by
   intro d2 c e1 e2 y
   rw[e1,e2]
   simp only[Aeq,reduceCtorEq,false_or,Tok.ver.injEq]
   constructor
   ·rintro ((h|h)|h)<;>simp[h]
   ·rintro (h|h|h)<;>simp[h]
  have triple:∀ {w' c1:List Int},Inv (x.st::w',c1)→v∉c1→∀ p,run (x.st::w',c1) (.arc x.st v :: .ver v :: .arc v x.st::p)=run (x.st::w',v::c1) p:=by
   intro w' c1 hi hn p
   have hh:w'.head?≠some v:=by
    intro e
    exact hn (hi.2 v (AfA _ (List.mem_of_head? e)))
   rw[A0,Fc _ _ _ _ hh hn,AfU,A0,DN,AfU,A0,GW,AfU]
  have G:∀ q1 p1,l=p1++q1→∀ t,(q1++x :: .arc x.st v :: .ver v :: .arc v x.st::p1).getLast? = some t→∃ c,run ([t.st],[t.st]) (q1++x :: .arc x.st v :: .ver v :: .arc v x.st::p1)=some ([t.st],c)∧∀ y,y∈c↔.ver y∈x :: .arc x.st v :: .ver v :: .arc v x.st::l:=by
   intro q1 p1 hl t ht
   have hrot:Rot (x::l) (q1++x::p1):=⟨x::p1,q1,by simp[hl],rfl⟩
   have ht0:∃ t0,(q1++x::p1).getLast? = some t0∧t0.st=t.st:=by
    cases p1 with
    |nil=>
     refine⟨x,getLast?_app (by simp),?_⟩
     rw[show q1++[x,Tok.arc x.st v,.ver v,.arc v x.st]=(q1++[x,Tok.arc x.st v,.ver v])++[Tok.arc v x.st] by simp,Agd]at ht
     cases ht;rfl
    |cons y p1=>
     refine⟨t,?_,rfl⟩
     rw[show q1++x::Tok.arc x.st v :: .ver v :: .arc v x.st::y::p1=(q1++[x,Tok.arc x.st v,.ver v,.arc v x.st])++y::p1 by simp,Ag2]at ht
     rw[show q1++x::y::p1=(q1++[x])++y::p1 by simp,Ag2]
     exact ht
   obtain⟨t0,e0,e1⟩:=ht0
   obtain⟨c,h1,h2⟩:=ih _ hrot t0 e0
   rw[e1,show q1++x::p1=(q1++[x])++p1 by simp,DT,AfT]at h1
   obtain⟨⟨w1,c1⟩,g1,g2⟩:=h1
   obtain⟨i1,i2,i3⟩:=Ib g1 (Nm _)
   obtain⟨j1,j2,j3⟩:=Ib g2 i1
   have i3':=i3 x (by simp)
   simp only at i3'
   cases w1 with
   |nil=>simp at i3'
   |cons w0 w'=>
    simp at i3'
    subst i3'
    have hn:v∉c1:=fun hm=>hv ((h2 v).1 (j2 v hm))
    obtain⟨d2,k1,k2⟩:=HN (Z:=(· = v)) (c2:=v::c1) (low:=[]) g2 (by simp) (fun y=>by simp[or_comm]) (fun u w hm=>hnz u w (by simp[hl,hm])) (by simp)
    refine⟨d2,?_,fin k2 h2⟩
    rw[show q1++x::Tok.arc x.st v :: .ver v :: .arc v x.st::p1=(q1++[x])++Tok.arc x.st v :: .ver v :: .arc v x.st::p1 by simp,DT,g1,AfU,triple i1 hn]
    simpa using k1
  intro r hr t ht
  obtain⟨p,q,hpq,rfl⟩:=hr
  have base:∀ t0:Tok,(l++[x]).getLast? = some t0→t0=x:=fun t0 h=>by rw[Agd]at h;exact(AgH h).symm
  obtain⟨c,h1,h2⟩:=ih (l++[x]) ⟨[x],l,rfl,rfl⟩ x (by simp)
  match p with
  |[]=>
   simp only[AfM]at hpq
   subst hpq
   have:=G [] l (by simp) t (by simpa using ht)
   simpa using this
  |[y]=>
   simp only[AfF,AfM,AfD]at hpq
   obtain⟨rfl,rfl⟩:=hpq
   have:t=x:=by
    rw[Agd]at ht
    exact(AgH ht).symm
   subst this
   have hn:v∉[t.st]:=by simp;exact Aff hne
   obtain⟨d2,k1,k2⟩:=HN (Z:=(· = v)) (c2:=[v,t.st]) (low:=[]) h1 (by simp) (fun y=>by simp[or_comm]) (fun u w hm=>hnz u w (by simpa [or_comm]using hm)) (by simp)
   refine⟨d2,?_,fin k2 h2⟩
   rw[show(Tok.arc t.st v :: .ver v :: .arc v t.st::l)++[t]=Tok.arc t.st v :: .ver v :: .arc v t.st::(l++[t]) by simp,triple (Nm _) hn]
   simpa using k1
  |[y,z]=>
   simp only[AfF,AfM,AfD]at hpq
   obtain⟨rfl,rfl,rfl⟩:=hpq
   have:t = .arc x.st v:=by
    rw[show(Tok.ver v :: .arc v x.st::l)++[x,.arc x.st v]=(Tok.ver v :: .arc v x.st::l++[x])++[.arc x.st v] by simp,Agd]at ht
    exact(AgH ht).symm
   subst this
   obtain⟨d2,k1,k2⟩:=HN (Z:=(· = v)) (c2:=[x.st,v]) (low:=[v]) h1 (by simp) (fun y=>by simp) (fun u w hm=>hnz u w (by simpa [or_comm]using hm)) (by simp)
   refine⟨d2,?_,fin k2 h2⟩
   rw[show(Tok.ver v :: .arc v x.st::l)++[x,.arc x.st v]=Tok.ver v :: .arc v x.st::((l++[x])++[.arc x.st v]) by simp]
   rw[A0]
   show(step ([v],[v]) _).bind _=_
   rw[DN,AfU,A0,Fc _ _ _ _ (by simp) (by simp;exact hne),AfU,DT]
   rw[show([x.st]++[v]:List Int)=[x.st,v]from rfl]at k1
   rw[k1,AfU,A0,GW]
   rfl
  |[y,z,w]=>
   simp only[AfF,AfM,AfD]at hpq
   obtain⟨rfl,rfl,rfl,rfl⟩:=hpq
   have:t = .ver v:=by
    rw[show(Tok.arc v x.st::l)++[x,.arc x.st v,.ver v]=(Tok.arc v x.st::l++[x,.arc x.st v])++[.ver v] by simp,Agd]at ht
    exact(AgH ht).symm
   subst this
   obtain⟨d2,k1,k2⟩:=HN (Z:=(· = v)) (c2:=[x.st,v]) (low:=[v]) h1 (by simp) (fun y=>by simp) (fun u w hm=>hnz u w (by simpa [or_comm]using hm)) (by simp)
   refine⟨d2,?_,fin k2 h2⟩
   rw[show(Tok.arc v x.st::l)++[x,.arc x.st v,.ver v]=Tok.arc v x.st::((l++[x])++[.arc x.st v,.ver v]) by simp]
   rw[A0]
   show(step ([v],[v]) _).bind _=_
   rw[Fc _ _ _ _ (by simp) (by simp;exact hne),AfU,DT]
   rw[show([x.st]++[v]:List Int)=[x.st,v]from rfl]at k1
   rw[k1,AfU,A0,GW,AfU,A0,DN]
   rfl
  |y::z::w::w2::p1=>
   simp only[AfF,AfD]at hpq
   obtain⟨rfl,rfl,rfl,rfl,rfl⟩:=hpq
   exact G q p1 rfl t ht
def comp(P:List Tok):List Int→List Tok
 |[]=>[]
 |w::r=>(if .ver w∈P then []else [.ver w])++match r with
  |[]=>[]
  |p::_=>.arc w p::comp P r
theorem PF{P P':List Tok}:∀ {way:List Int},(∀ w∈way,(Tok.ver w∈P↔Tok.ver w∈P'))→comp P way=comp P' way:=by
 intro way
 induction way with
 |nil=>intro _;rfl
 |cons w r ih=>
  intro h
  have h1:=h w (by simp)
  have h2:=ih fun x hx=>h x (AfA _ hx)
  simp only[comp,h1,h2]
theorem AaX:∀ (M P:List Tok) (way c c':List Int) (r:Int) (t0:Tok),run (way,c) M=some ([r],c')→Inv (way,c)→P.getLast? = some t0→way.head? = some t0.st →
  T (P++comp P way)→(∀ x,.ver x∈P++comp P way→x∈c)→(∀ x∈c',Tok.ver x∈P++M)→(P++M).Nodup→T (P++M):=by
 intro M
 induction M with
 |nil=>
  intro P way c c' r t0 h hi hl hh hT hc hc' hn
  cases h
  have:=hc' r (hi.2 r (by simp))
  rw[Af0]at this
  simpa [comp,this]using hT
 |cons t M ih=>
  intro P way c c' r t0 h hi hl hh hT hc hc' hn
  rw[A0,AfT]at h
  obtain⟨⟨w1,c1⟩,h1,h2⟩:=h
  obtain⟨hi1,hsub,hhd⟩:=X1 h1 hi
  have asso:P++t::M=(P++[t])++M:=by simp
  rw[asso]at hn hc' ⊢
  have hnt:t∉P:=by
   have:=(Ags.1 (Ags.1 hn).1)
   intro hm
   exact this.2.2 t hm t (by simp) rfl
  rcases B6 h1 with⟨v,rr,rfl,hw,e⟩|⟨u,v,rr,rfl,hw,e⟩|⟨u,v,rr,rfl,hw,hh2,hn2,e⟩
  ·cases e
   simp only at hw
   subst hw
   have key:comp P (v::rr) = .ver v::comp (P++[.ver v]) (v::rr):=by
    have e2:comp P rr=comp (P++[.ver v]) rr:=PF fun w hwm=>by
     have:w≠v:=by rintro rfl;exact(AfJ.1 hi.1).1 hwm
     simp[this]
    simp only[comp,hnt,e2]
    simp
   rw[key]at hT hc
   exact ih _ _ _ _ _ (.ver v) h2 hi1 (by simp) hhd (by simpa using hT) (fun x hx=>hc x (by simpa using hx)) hc' hn
  ·cases e
   simp only at hw
   subst hw
   have hu:Tok.ver u∈P:=by
    have hun:=(AfJ.1 hi.1).1
    obtain⟨g1,_⟩:=YV (z:=u) (c:=c.filter (·≠u)) h2 hun (fun x=>by
     simp only[AfW,Aem]
     constructor
     ·intro h
      by_cases e:x=u
      ·exact .inr e
      ·exact .inl ⟨h,by simpa using e⟩
     ·rintro (h|rfl)
      ·exact h.1
      ·exact hi.2 x (by simp)) (by simp)
    have hmono:=(Ib h2 hi1).2.1 u (hi.2 u (by simp))
    have:=hc' u hmono
    simp only[Aen,AfB,reduceCtorEq,AhL]at this
    rcases this with h|h
    ·exact h
    ·exact absurd h g1
   have key:comp P (u::v::rr) = .arc u v::comp (P++[.arc u v]) (v::rr):=by
    have e2:comp P (v::rr)=comp (P++[.arc u v]) (v::rr):=PF fun w hwm=>by simp
    rw[← e2]
    simp only[comp,hu]
    simp
   rw[key]at hT hc
   exact ih _ _ _ _ _ (.arc u v) h2 hi1 (by simp) hhd (by simpa using hT) (fun x hx=>hc x (by simpa using hx)) hc' hn
  ·cases e
   simp only at hw hn2
   subst hw
   have hu:u=t0.st:=by simpa using hh
   subst hu
   have hvc:∀ x,Tok.ver x∈P++comp P (t0.st::rr)→x≠v:=by rintro x hx rfl;exact hn2 (hc x hx)
   have hvP:Tok.ver v∉P++comp P (t0.st::rr):=fun hm=>hvc v hm rfl
   have hvP':Tok.ver v∉P:=fun hm=>hvP (by simp[hm])
   have key:comp (P++[.arc t0.st v]) (v::t0.st::rr) = .ver v :: .arc v t0.st::comp P (t0.st::rr):=by
    have e2:comp (P++[.arc t0.st v]) (t0.st::rr)=comp P (t0.st::rr):=PF fun w hwm=>by simp
    rw[← e2]
    simp only[comp,Aen,hvP',AfB,reduceCtorEq,AhL,Ae0]
    rfl
   have hne:t0.st≠v:=by rintro e;exact hn2 (e▸hi.2 t0.st (by simp))
   refine ih _ _ _ _ _ (.arc t0.st v) h2 hi1 (by simp) hhd ?_ ?_ hc' hn
   ·rw[key]
    obtain⟨P0,rfl⟩:∃ P0,P=P0++[t0]:=List.getLast?_eq_some_iff.1 hl
    have hT1:T (t0::(comp (P0++[t0]) (t0.st::rr)++P0)):=hT.AQJ ⟨P0,t0::comp (P0++[t0]) (t0.st::rr),by simp,by simp⟩
    have hT2:=T.add t0 _ v hT1 hne (by
     intro hm
     apply hvP
     simp only[Aen,Aeq,Agk,AhL]at hm ⊢
     rcases hm with h|h|h<;>simp[h])
    exact hT2.AQJ ⟨t0 :: .arc t0.st v :: .ver v :: .arc v t0.st::comp (P0++[t0]) (t0.st::rr),P0,by simp,by simp⟩
   ·intro x hx
    rw[key]at hx
    simp only[Aen,Aeq,Agk,AhL,reduceCtorEq,Tok.ver.injEq,false_or]at hx
    rcases hx with h|h|h
    ·exact AfA _ (hc x (by simp[h]))
    ·simp[h]
    ·exact AfA _ (hc x (by simp[h]))
def Az(l:List Tok):Prop:=∃ r l' c,l = .ver r::l'∧run ([r],[r]) l=some ([r],c)∧∀ x∈c,Tok.ver x∈l
theorem Az.toT{l:List Tok}(h:Az l)(hn:l.Nodup):T l:=by
 obtain⟨r,l',c,rfl,h1,h2⟩:=h
 rw[A0,DN,AfU]at h1
 have:=AaX l' [.ver r] [r] [r] c r (.ver r) h1 (Nm r) (by simp) (by simp[st]) (by simp[comp];exact T.one r) (by simp[comp]) (by simpa using h2) (by simpa using hn)
 simpa using this
theorem T.AFR{r:Int}{l:List Tok}(h:T (.ver r::l)):Az (.ver r::l):=by
 obtain⟨t,ht⟩:∃ t,(Tok.ver r::l).getLast? = some t:=⟨_,AhE (by simp)⟩
 obtain⟨c,h1,h2⟩:=h.toC _ (Rot.refl _) t ht
 have h1':=h1
 rw[A0,AfT]at h1'
 obtain⟨s,g1,_⟩:=h1'
 have e:t.st=r:=by
  simp only[step]at g1
  split at g1
  ·assumption
  ·cases g1
 rw[e]at h1
 exact⟨r,l,c,rfl,h1,fun x hx=>(h2 x).1 hx⟩
end Go.Pev.Pl.Tok
end
section
namespace Go.Pev.Pl.Tok
theorem T.ANK{l:List Tok}(h:T l):∃ v r,Rot l (.ver v::r):=by
 obtain⟨f1,f2,_⟩:=h.facts
 obtain⟨t,ht⟩:=List.exists_mem_of_ne_nil l f1
 obtain⟨a,b,rfl⟩:=AhW (f2 t ht)
 exact⟨t.st,b++a,a,.ver t.st::b,rfl,rfl⟩
theorem T.less{x:Tok}{v:Int}{l:List Tok}(h:T (x :: .arc x.st v :: .ver v :: .arc v x.st::l)):T (x::l):=by
 have hC:=h.toC
 have hn:=h.nodup
 obtain⟨_,f2,f3⟩:=h.facts
 have hne:x.st≠v:=(f3 x.st v (by simp)).2.2.2
 have hvl:Tok.ver v∉l:=by
  intro hm
  simp only[AfJ,Aeq,not_or]at hn
  exact hn.2.2.1.2 hm
 have hvx:x≠.ver v:=by rintro rfl;exact hne rfl
 have key:∀ p q,l=p++q→∀ t0,(q++x::p).getLast? = some t0→∃ c,run ([t0.st],[t0.st]) (q++x::p)=some ([t0.st],c)∧∀ y,y∈c↔.ver y∈x::l:=by
  intro p q hl t0 ht0
  have hrot:Rot (x :: .arc x.st v :: .ver v :: .arc v x.st::l) (q++x :: .arc x.st v :: .ver v :: .arc v x.st::p):=⟨x :: .arc x.st v :: .ver v :: .arc v x.st::p,q,by simp[hl],rfl⟩
  have ht:∃ t,(q++x::Tok.arc x.st v :: .ver v :: .arc v x.st::p).getLast? = some t∧t.st=t0.st:=by
   cases p with
   |nil=>
    rw[Agd]at ht0
    cases ht0
    exact⟨.arc v x.st,by rw[show q++[x,Tok.arc x.st v,.ver v,.arc v x.st]=(q++[x,Tok.arc x.st v,.ver v])++[Tok.arc v x.st] by simp,Agd],rfl⟩
   |cons y p=>
    refine⟨t0,?_,rfl⟩
    rw[show q++x::Tok.arc x.st v :: .ver v :: .arc v x.st::y::p=(q++[x,Tok.arc x.st v,.ver v,.arc v x.st])++y::p by simp,Ag2]
    rw[show q++x::y::p=(q++[x])++y::p by simp,Ag2]at ht0
    exact ht0
  obtain⟨t,e0,e1⟩:=ht
  obtain⟨c,h1,h2⟩:=hC _ hrot t e0
  rw[e1,show q++x::Tok.arc x.st v :: .ver v :: .arc v x.st::p=(q++[x])++Tok.arc x.st v :: .ver v :: .arc v x.st::p by simp,DT,AfT]at h1
  obtain⟨⟨w1,c1⟩,g1,g2⟩:=h1
  obtain⟨i1,i2,i3⟩:=Ib g1 (Nm _)
  have i3':=i3 x (by simp)
  simp only at i3'
  cases w1 with
  |nil=>simp at i3'
  |cons w0 w'=>
   simp at i3'
   subst i3'
   rw[A0,AfT]at g2
   obtain⟨s1,k1,k2⟩:=g2
   rcases B6 k1 with⟨v',r,e,_⟩|⟨u',v',r,e,hw,rfl⟩|⟨u',v',r,e,hw,hh,hnc,rfl⟩
   ·cases e
   ·cases e
    simp only[AfD]at hw
    obtain⟨_,rfl⟩:=hw
    exfalso
    rw[A0,DN,AfU,A0,AfT]at k2
    obtain⟨s2,m1,_⟩:=k2
    have hnd:=i1.1
    rcases B6 m1 with⟨v',r',e,_⟩|⟨u',v',r',e,hw,rfl⟩|⟨u',v',r',e,hw,hh,hnc,rfl⟩
    ·cases e
    ·cases e
     simp only[AfD]at hw
     obtain⟨_,rfl⟩:=hw
     simp at hnd
    ·cases e
     exact hnc (i1.2 _ (by simp))
   ·cases e
    simp only[AfD,AgU]at hw
    subst hw
    simp only at hnc
    rw[A0,DN,AfU,A0,GW,AfU]at k2
    have hvw:v∉x.st::w':=fun hm=>hnc (i1.2 v hm)
    obtain⟨_,d,m1,m2,m3⟩:=YV (z:=v) (c:=c1) k2 hvw (fun y=>by simp[or_comm]) hnc
    refine⟨d,?_,fun y => ?_⟩
    ·rw[show q++x::p=(q++[x])++p by simp,DT,g1,AfU,m1]
    ·have q1:=m2 y
     have q2:=h2 y
     by_cases e:y=v
     ·subst e
      refine⟨fun h=>absurd h m3,fun h => ?_⟩
      rcases Aeq.1 h with h|h
      ·exact absurd h.symm hvx
      ·exact absurd h hvl
     ·rw[q2]at q1
      simp only[e,AhL]at q1
      rw[← q1]
      simp[e]
 obtain⟨s,b,a,hsb⟩:∃ s a b,x::l=a ++ .ver s::b:=by
  have:=f2 x (by simp)
  simp only[Aeq,reduceCtorEq,false_or,Tok.ver.injEq,hne]at this
  rcases this with h|h
  ·exact⟨x.st,[],l,by rw[← h];rfl⟩
  ·obtain⟨a,b,rfl⟩:=AhW h
   exact⟨x.st,x::a,b,rfl⟩
 have hg:Az (.ver s::a++b):=by
  have hr:∃ p q,l=p++q∧q++x::p = .ver s::a++b:=by
   cases b with
   |nil=>
    simp only[AfM,AfD]at hsb
    obtain⟨rfl,rfl⟩:=hsb
    exact⟨l,[],by simp,by simp⟩
   |cons y b=>
    simp only[AfF,AfD]at hsb
    obtain⟨rfl,rfl⟩:=hsb
    exact⟨b,.ver s::a,rfl,by simp⟩
  obtain⟨p,q,hl,e⟩:=hr
  obtain⟨t0,ht0⟩:∃ t0,(q++x::p).getLast? = some t0:=⟨_,AhE (by simp)⟩
  obtain⟨c,h1,h2⟩:=key p q hl t0 ht0
  rw[e]at h1
  have h1':=h1
  rw[AfF,A0,AfT]at h1'
  obtain⟨s',g1,_⟩:=h1'
  have e':t0.st=s:=by
   simp only[step]at g1
   split at g1
   ·assumption
   ·cases g1
  rw[e']at h1
  refine⟨s,a++b,c,rfl,h1,fun y hy => ?_⟩
  have:=(h2 y).1 hy
  rw[hsb]at this
  simp only[Aen,Aeq]at this ⊢
  rcases this with h|h|h<;>simp[h]
 have hrot2:Rot (.ver s::a++b) (x::l):=⟨.ver s::a,b,rfl,hsb⟩
 have hnx:(x::l).Nodup:=by
  simp only[AfJ,Aeq,not_or]at hn ⊢
  exact⟨hn.1.2.2.2,hn.2.2.2.2⟩
 exact(hg.toT (hrot2.nodup.2 hnx)).AQJ hrot2
theorem T.leaf{l:List Tok}(h:T l):(∃ v,l=[.ver v])∨∃ x v r,Rot l (x :: .arc x.st v :: .ver v :: .arc v x.st::r):=by
 induction h with
 |one v=>exact .inl ⟨v,rfl⟩
 |add x l v h hne hv ih=>exact .inr ⟨x,v,l,Rot.refl _⟩
 |rot a b h ih=>
  rcases ih with⟨v,e⟩|⟨x,v,r,hr⟩
  ·have hr:Rot [.ver v] (b++a):=⟨a,b,e.symm,rfl⟩
   exact .inl ⟨v,List.perm_singleton.1 hr.perm.symm⟩
  ·exact .inr ⟨x,v,r,Rot.trans ⟨b,a,rfl,rfl⟩ hr⟩
def LR:List Tok→List Int
 |[]=>[]
 |.ver v::l=>v::LR l
 |.arc _ _::l=>LR l
theorem QJ{v:Int}:∀ {l:List Tok},v∈LR l↔.ver v∈l
 |[]=>by simp[LR]
 |.ver w::l=>by simp[LR,QJ (l:=l)]
 |.arc _ _::l=>by simp[LR,QJ (l:=l)]
theorem AJL(a b:List Tok):LR (a++b)=LR a++LR b:=by
 induction a with
 |nil=>rfl
 |cons t a ih=>cases t<;>simp[LR,ih]
theorem T.len{l:List Tok}(h:T l):l.length+2=3*(LR l).length:=by
 induction h with
 |one v=>rfl
 |add x l v h hne hv ih=>
  cases x<;>simp[LR]at ih ⊢<;>omega
 |rot a b h ih=>
  simp only[AJL,Aes]at ih ⊢
  omega
end Go.Pev.Pl.Tok
end
section
namespace Go.Pev.Pl
section
variable {β:Type}
def BA(es:List (Int×β)):List Int:=es.map Prod.fst
theorem S2(es:List (Int×β)):(BA es).length=es.length:=by simp[BA]
theorem G7(es:List (Int×β))(k:Int)(v:β)(j:Int):AS (Ag es k v) j=if j=k then some v else AS es j:=by
 induction es with
 |nil=>
  simp only[Ag,AS]
  by_cases h:k=j
  ·simp[h]
  ·simp[h,Aff h]
 |cons e es ih=>
  obtain⟨a,b⟩:=e
  simp only[Ag]
  by_cases h:a=k
  ·subst h
   simp only[AfE,AS]
   by_cases h2:a=j
   ·simp[h2]
   ·simp[h2,Aff h2]
  ·simp only[h,Ae0,AS,ih]
   by_cases h2:a=j
   ·subst h2;simp[h]
   ·simp[h2]
theorem On(es:List (Int×β))(k:Int)(v:β):BA (Ag es k v)=if k∈BA es then BA es else BA es++[k]:=by
 induction es with
 |nil=>rfl
 |cons e es ih=>
  obtain⟨a,b⟩:=e
  simp only[Ag]
  by_cases h:a=k
  ·subst h;simp[BA]
  ·simp only[h,Ae0]
   show a::BA (Ag es k v)=_
   rw[ih]
   have:k∈BA ((a,b)::es)↔k∈BA es:=by simp[BA,Aff h]
   simp only[this]
   split<;>rfl
theorem VL(es:List (Int×β))(k:Int):AS es k=none↔k∉BA es:=by
 induction es with
 |nil=>simp[AS,BA]
 |cons e es ih=>
  obtain⟨a,b⟩:=e
  simp only[AS]
  by_cases h:a=k
  ·simp[h,BA]
  ·simp only[h,Ae0,ih]
   simp[BA,Aff h]
theorem E9(es:List (Int×β))(k:Int)(v:β)(j:Int):j∈BA (Ag es k v)↔j=k∨j∈BA es:=by
 rw[On]
 split
 ·rename_i h
  constructor
  ·exact .inr
  ·rintro (rfl|h2)
   ·exact h
   ·exact h2
 ·simp[or_comm]
theorem JX{es:List (Int×β)}(h:(BA es).Nodup)(k:Int)(v:β):(BA (Ag es k v)).Nodup:=by
 rw[On]
 split
 ·exact h
 ·rename_i hk
  rw[Ags]
  exact⟨h,by simp,fun a ha b hb=>by rintro rfl;simp at hb;exact hk (hb▸ha)⟩
end
def dd:List Int→List Int→List Int
 |ks,[]=>ks
 |ks,x::xs=>dd (if x∈ks then ks else ks++[x]) xs
theorem AeF:∀ (xs ks:List Int),(dd ks xs).length≤ks.length+xs.length∧((dd ks xs).length=ks.length+xs.length↔xs.Nodup∧∀ x∈xs,x∉ks):=by
 intro xs
 induction xs with
 |nil=>intro ks;simp[dd]
 |cons x xs ih=>
  intro ks
  rw[dd]
  by_cases h:x∈ks
  ·obtain⟨h1,_⟩:=ih ks
   rw[Aez h]
   refine⟨by simp only[Aet];omega,?_,fun hh=>absurd h (hh.2 x (by simp))⟩
   intro e
   simp only[Aet]at e
   omega
  ·obtain⟨h1,h2⟩:=ih (ks++[x])
   rw[Aev h]
   simp only[Aes,Aet,Ae4,Afu]at h1 h2 ⊢
   refine⟨by omega,?_⟩
   rw[show ks.length+(xs.length+1)=ks.length+1+xs.length by omega,h2,AfJ]
   constructor
   ·rintro⟨g1,g2⟩
    refine⟨⟨fun hx=>g2 x hx (by simp),g1⟩,fun y hy => ?_⟩
    rcases Aeq.1 hy with rfl|hy
    ·exact h
    ·exact fun hk=>g2 y hy (by simp[hk])
   ·rintro⟨⟨g1,g2⟩,g3⟩
    refine⟨g2,fun y hy hk => ?_⟩
    simp only[Aen,AfB]at hk
    rcases hk with hk|rfl
    ·exact g3 y (by simp[hy]) hk
    ·exact g1 hy
theorem Aav(xs:List Int):(dd [] xs).length=xs.length↔xs.Nodup:=by
 have:=(AeF xs []).2
 simpa using this
theorem BL{α β ρ:Type}(g:β→α→α)(fin:α→ρ):∀ (xs:List β) (a:α),walk (fun x a=>.inl (g x a)) fin xs a=fin (xs.foldl (fun a x=>g x a) a):=by
 intro xs
 induction xs with
 |nil=>intro a;rfl
 |cons x xs ih=>intro a;rw[walk,Afg];exact ih _
theorem Fb{σ ρ β:Type}{step:σ→Option (σ⊕ρ)}(st:Nat→σ)(xs:List β)(P:β→Bool)(rt:Nat→ρ)(rf:ρ)(hs:xs.length<9223372036854775808)
  (h:∀ i x,i<xs.length→xs[i]? = some x→step (st i)=if P x then some (.inr (rt i))else some (.inl (st (i+1)))) (hN:step (st xs.length)=some (.inr rf)) :
  AR step many (st 0)=some (if xs.any P then rt (xs.findIdx P)else rf):=by
 have key:∀ (l:List β) (a:Nat),walk (fun x (a:Nat)=>if P x then .inr (rt a)else .inl (a+1)) (fun _=>rf) l a=if l.any P then rt (a+l.findIdx P)else rf:=by
  intro l
  induction l with
  |nil=>intro a;rfl
  |cons x l ih=>
   intro a
   rw[walk,List.any_cons,AhF]
   by_cases hx:P x=true
   ·simp[hx]
   ·simp only[hx,Aey,Ae0,Bool.false_or,cond_false]
    rw[ih,show a+1+List.findIdx P l=a+(List.findIdx P l+1) by omega]
 have:=Cq (step:=step) (fun i (a:Nat)=>st a) xs (fun x (a:Nat)=>if P x then .inr (rt a)else .inl (a+1)) (fun _=>rf) (fun i a=>a=i) hs
  (fun i x a hi hx ha=>by
   subst ha
   refine⟨fun a' h' => ?_,fun r h' => ?_⟩
   ·rw[h a x hi hx]
    split at h'
    ·cases h'
    ·rename_i hp
     cases h'
     simp[hp]
   ·rw[h a x hi hx]
    split at h'
    ·rename_i hp
     cases h'
     simp[hp]
    ·cases h')
  (fun a ha=>by subst ha;exact hN) 0 rfl
 rw[this,key,Afu]
theorem Ab{α:Type}{xs:List α}{n:Nat}{x:α}(h:xs[n]? = some x):idx xs (n:Int)=some x:=by rw[AHk,h]
theorem CH{α:Type}{xs:List α}{n:Nat}{x z:α}(h:xs[n]? = some x):AL xs (AE (n:Int)) z=x:=by
 rw[Ea,Ael,h];rfl
theorem J5{α:Type}{xs:List α}{h:Nat}(h2:h≤xs.length):B5 xs (0:Int) (h:Int)=some (xs.take h):=by
 have:=Rq (xs:=xs) (l:=0) (AhC h) h2
 simpa using this
theorem D7{α:Type}{xs:List α}{l:Nat}(h1:l≤xs.length):B5 xs (l:Int) (AM xs)=some (xs.drop l):=by
 have:=Rq (xs:=xs) h1 (Aew _)
 rw[Afw]at this
 exact this
def pos(xs:List Int)(t:Int):Int:=if t∈xs then((xs.findIdx (fun x=>decide (x=t)):Nat):Int)else -1
theorem AIt(xs:List Int)(t:Int):(xs.any fun x=>decide (x=t))=decide (t∈xs):=by
 induction xs with
 |nil=>rfl
 |cons x xs ih=>simp only[List.any_cons,ih,Aeq,Bool.decide_or];congr 1;exact AgI.2 eq_comm
theorem AGK{xs:List Int}{t:Int}(h:t∈xs):∃ k:Nat,pos xs t=(k:Int)∧k<xs.length∧xs[k]? = some t∧xs=xs.take k++t::xs.drop (k+1)∧t∉xs.take k:=by
 have hk:xs.findIdx (fun x=>decide (x=t))<xs.length:=Af9.2 ⟨t,h,by simp⟩
 have hg:xs[xs.findIdx (fun x=>decide (x=t))]'hk=t:=by
  have:=AhM (xs:=xs) (p:=fun x=>decide (x=t)) (w:=hk)
  simpa using this
 refine⟨_,by rw[pos,Aez h],hk,by rw[Aeo hk,hg],?_,?_⟩
 ·conv=>lhs;rw[← Afb (xs.findIdx (fun x=>decide (x=t))) xs,AfR hk,hg]
 ·intro hm
  obtain⟨j,hj,e⟩:=AgW.1 hm
  have:=List.not_of_lt_findIdx (p:=fun x=>decide (x=t)) (xs:=xs) (i:=j) (by omega)
  simp[e]at this
theorem Pv{xs:List Int}{t:Int}(h:t∉xs):pos xs t = -1:=by rw[pos,Aev h]
end Go.Pev.Pl
end
